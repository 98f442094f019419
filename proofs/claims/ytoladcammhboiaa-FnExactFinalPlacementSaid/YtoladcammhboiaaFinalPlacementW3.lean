/- Walks: each Go function returns what its Lean function says. By program. -/
import Derived.Test.YtoladcammhboiaaFinalPlacementFa
import Derived.Test.YtoladcammhboiaaFinalPlacementW2
set_option linter.unusedVariables false
set_option maxRecDepth 100000
set_option maxHeartbeats 1000000
namespace Go.VK
open Go.RowKit
open Go.Proofs
attribute [local irreducible] CW RW RA CV Y Yw Yc Ys RetOf
attribute [local irreducible] F_laws_szEdgeS F_laws_szCouplingGraph F_laws_szGateS F_laws_szCircuit F_laws_szIntS F_laws_szRouteStepS F_laws_szRoute F_laws_toEdge F_laws_toEdgeS F_laws_toCouplingGraph F_laws_toGate F_laws_toGateS F_laws_toCircuit F_laws_toIntS F_laws_toRouteStep F_laws_toRouteStepS F_laws_toRoute F_laws_eqEdge F_laws_eqEdgeS F_laws_eqCouplingGraph F_laws_eqGate F_laws_eqGateS F_laws_eqCircuit F_laws_eqIntS F_laws_eqRouteStep F_laws_eqRouteStepS F_laws_eqRoute F_spec_l1In F_spec_l22Valid F_spec_l4Gate F_spec_l4Good F_spec_l23Fits F_spec_l1Own F_spec_l23Swap F_spec_l1Has F_spec_l23Placement F_spec_l22Edge F_spec_l22Two F_spec_l23Qubits F_spec_l23Ready F_spec_l23Near F_spec_l23Play F_spec_FinalPlacement F_impl_within F_impl_areEdges F_impl_IsValidCouplingGraph F_slices_IndexFunc_impl_Gate_impl_Gate F_slices_ContainsFunc_impl_Gate_impl_Gate F_impl_isTwo F_impl_IsValidGate F_impl_IsValidCircuit_1 F_impl_IsValidCircuit F_impl_canRoute F_slices_Clone_int_int F_impl_newRouting F_slices_Index_impl_Edge_impl_Edge F_slices_Contains_impl_Edge_impl_Edge F_impl_CouplingGraph_joins F_impl_routing_swap F_slices_IndexFunc_int_int F_slices_ContainsFunc_int_int F_impl_qubitsOf F_slices_Index_int_int F_slices_Contains_int_int F_impl_meet_1 F_impl_meet F_impl_routing_isReady F_impl_routing_fits F_impl_routing_step F_impl_CouplingGraph_isPlacement F_slices_Index_bool_bool F_slices_Contains_bool_bool F_impl_check F_impl_FinalPlacement F_laws_markEdgeS F_laws_markCouplingGraph F_laws_markGateS F_laws_markCircuit F_laws_markIntS F_laws_markRouteStepS F_laws_markRoute F_laws_heldIntS F_laws_FnExactFinalPlacement
theorem c_impl_routing_isReady (r_ : Trouting) (k_ : Int) (B : Option Addr) (c n : Nat) (B1 : Option Addr) (c1 n1 : Nat) (B2 : Option Addr) (c2 n2 : Nat) (B3 : Option Addr) (c3 n3 : Nat) (w0 : World) (hn : r_.g.Edges.length = n) (hn1 : r_.c.Gates.length = n1) (hq : n1 ≤ c1) (hn2 : r_.place.length = n2) (hn3 : r_.done.length = n3) (hS : ST w0 [] w0 [] [⟨B, (r_.g.Edges.flatMap enc_Edge)⟩, ⟨B1, (r_.c.Gates.flatMap enc_Gate)⟩, ⟨B2, (r_.place.flatMap encI)⟩, ⟨B3, (r_.done.flatMap encB)⟩]) {r_1 : Bool} (hF : F_impl_routing_isReady r_ k_ = some r_1) :
    CV Try.prog 253 #[.agg #[.int .i64 r_.g.Nodes, .slice B n c, .int .i64 r_.c.Qubits, .slice B1 n1 c1, .slice B2 n2 c2, .slice B3 n3 c3], .int .i64 k_] w0 (fun v w' => v = .bool r_1 ∧ ST w0 [] w' [] []) := by
  subst hn
  subst hn1
  subst hn2
  subst hn3
  unfold F_impl_routing_isReady at hF
  refine cv_of_cw 50 Try.func253 rfl Try.ntmps253 rfl ?_
  refine cw_seq ?_
  refine cw_region ?_
  refine ss 2 rfl rfl (Ys_box (T := 201) (v := .agg #[.int .i64 r_.g.Nodes, .slice B r_.g.Edges.length c, .int .i64 r_.c.Qubits, .slice B1 r_.c.Gates.length c1, .slice B2 r_.place.length c2, .slice B3 r_.done.length c3]) (cs := [.int .i64 r_.g.Nodes, .slice B r_.g.Edges.length c, .int .i64 r_.c.Qubits, .slice B1 r_.c.Gates.length c1, .slice B2 r_.place.length c2, .slice B3 r_.done.length c3]) (m := 6) hS rfl rfl rfl rfl) ?_
  rintro _ w_ ⟨b, rfl, hS1⟩
  refine sq 4 rfl rfl (Y_assign (v := .bool false) rfl rfl) ?_
  refine rw_nil ?_
  refine cw_seq ?_
  refine cw_seq ?_
  refine cw_region ?_
  refine sq 7 rfl rfl (Y_move (v := .int .i64 k_) rfl rfl) ?_
  refine sq 8 rfl rfl (Y_fieldAddr (B := some ⟨b, 0, none⟩) (i := 0) (s := 1) k_fd_201_1_2_104 k_sz_104_2 rfl rfl) ?_
  refine sq 9 rfl rfl (Y_fieldAddr (B := some ⟨b, 0, none⟩) (i := 2) (s := 0) k_fd_104_1_1_102 k_sz_102_1 rfl rfl) ?_
  refine sq 10 rfl rfl (Y_load1 (B := some ⟨b, 0, none⟩) (i := 3) (cs := [.int .i64 r_.g.Nodes, .slice B r_.g.Edges.length c, .int .i64 r_.c.Qubits, .slice B1 r_.c.Gates.length c1, .slice B2 r_.place.length c2, .slice B3 r_.done.length c3]) (v := .slice B1 r_.c.Gates.length c1) k_sc_102 rfl rfl (hS1.cf (i := 0) rfl) rfl) ?_
  refine sq 11 rfl rfl (Y_len (B := B1) (m := r_.c.Gates.length) (c := c1) k_sl_102_213 rfl rfl) ?_
  refine sq 12 rfl rfl (Y_sub (k := .i64) (a := (r_.c.Gates.length : Int)) (b := 1) rfl rfl rfl) ?_
  obtain ⟨r_2, hc, hF⟩ := bind_inv hF
  refine sc 13 rfl rfl (Yc_func (g := 130) (vs := [.int .i64 k_, .int .i64 0, .int .i64 (IntKind.i64.wrap ((r_.c.Gates.length : Int) - 1))]) k_call_130 rfl (mc rfl (mc rfl (mc rfl mn))) (c_impl_within k_ 0 (IntKind.i64.wrap ((r_.c.Gates.length : Int) - 1)) _  (hS1.inn0 [] rfl) hc)) ?_
  rintro _ w_1 ⟨rfl, hd⟩
  have hS2 := hS1.out00 hd
  refine sq 14 rfl rfl (Y_not (p := r_2) rfl rfl) ?_
  refine sq 15 rfl rfl (Y_move (v := .bool (!r_2)) rfl rfl) ?_
  refine sgq 16 (B := (!(!r_2))) (v := pt (some ⟨b, 0, none⟩) 5) rfl rfl (wt_f (gd_of (t := 15) (by kernel_rfl) rfl)) (fun hg => (Y_fieldAddr (B := some ⟨b, 0, none⟩) (i := 0) (s := 0) k_fd_201_3_5_199 k_sz_199_1 rfl rfl)) ?_
  refine sgq 17 (B := (!(!r_2))) (v := .slice B3 r_.done.length c3) rfl rfl (wt_f (gd_of (t := 15) (by kernel_rfl) rfl)) (fun hg1 => (Y_load1 (B := some ⟨b, 0, none⟩) (i := 5) (cs := [.int .i64 r_.g.Nodes, .slice B r_.g.Edges.length c, .int .i64 r_.c.Qubits, .slice B1 r_.c.Gates.length c1, .slice B2 r_.place.length c2, .slice B3 r_.done.length c3]) (v := .slice B3 r_.done.length c3) k_sc_199 rfl (gv_of (B := (!(!r_2))) (v := pt (some ⟨b, 0, none⟩) 5) hg1) (hS2.cf (i := 0) rfl) rfl)) ?_
  refine sgq 18 (B := (!(!r_2))) (v := .int .i64 k_) rfl rfl (wt_f (gd_of (t := 15) (by kernel_rfl) rfl)) (fun hg2 => (Y_move (v := .int .i64 k_) rfl rfl)) ?_
  obtain ⟨x, hx, hF⟩ := bind_inv hF
  refine sgq 19 (B := (!(!r_2))) (v := pt B3 (k_.toNat * 1)) rfl rfl (wt_f (gd_of (t := 15) (by kernel_rfl) rfl)) (fun hg3 => (Y_index (B := B3) (m := r_.done.length) (c := c3) (k := .i64) (i := k_) k_sl_199_4 k_sz_4_1 rfl (gv_of (B := (!(!r_2))) (v := .slice B3 r_.done.length c3) hg3) (gv_of (B := (!(!r_2))) (v := .int .i64 k_) hg3) (gi_isSome encB_len rfl (hS2.rf (i := 3) rfl) (gb_inv hx hg3)) (getI_nn (gb_inv hx hg3)) (getI_ltI (gb_inv hx hg3) rfl))) ?_
  refine sgq 20 (B := (!(!r_2))) (v := .bool x) rfl rfl (wt_f (gd_of (t := 15) (by kernel_rfl) rfl)) (fun hg4 => (Y_load1 (B := B3) (i := k_.toNat * 1) (cs := (r_.done.flatMap encB)) (v := .bool x) k_sc_4 rfl (gv_of (B := (!(!r_2))) (v := pt B3 (k_.toNat * 1)) hg4) (hS2.rf (i := 3) rfl) (gi_at0 encB_len (gb_inv hx hg4) rfl))) ?_
  refine sq 21 rfl rfl (Y_or (b := (!r_2)) (z := x) rfl rfl rfl rfl) ?_
  refine rw_nil ?_
  refine cw_cond (b := ((!r_2) || x)) rfl (fun hb => ?_) (fun hb => ?_)
  · skip
    have hF1 := ct hF hb
    refine cw_seq ?_
    refine cw_region ?_
    refine sq 4 rfl rfl (Y_assign (v := .bool false) rfl rfl) ?_
    refine rw_nil ?_
    refine cw_ret ?_
    obtain rfl := some_inj hF1
    exact ret1 Try.results253 (v1 := .bool false) (resAt_tmp rfl) ⟨rfl, (ST.subR (R' := []) (hS2.sel [] rfl rfl) (fun _ h => by cases h))⟩
  · skip
    have hF2 := cf' hF hb
    refine cw_skip ?_
    refine cw_seq ?_
    refine cw_seq ?_
    refine cw_region ?_
    refine sq 22 rfl rfl (Y_fieldAddr (B := some ⟨b, 0, none⟩) (i := 0) (s := 1) k_fd_201_1_2_104 k_sz_104_2 rfl rfl) ?_
    refine sq 23 rfl rfl (Y_fieldAddr (B := some ⟨b, 0, none⟩) (i := 2) (s := 0) k_fd_104_1_1_102 k_sz_102_1 rfl rfl) ?_
    refine sq 24 rfl rfl (Y_load1 (B := some ⟨b, 0, none⟩) (i := 3) (cs := [.int .i64 r_.g.Nodes, .slice B r_.g.Edges.length c, .int .i64 r_.c.Qubits, .slice B1 r_.c.Gates.length c1, .slice B2 r_.place.length c2, .slice B3 r_.done.length c3]) (v := .slice B1 r_.c.Gates.length c1) k_sc_102 rfl rfl (hS2.cf (i := 0) rfl) rfl) ?_
    refine sq 25 rfl rfl (Y_move (v := .int .i64 k_) rfl rfl) ?_
    obtain ⟨hsl, hF2⟩ := chk_inv hF2
    have hcap : r_.c.Gates.length ≤ c1 := hq
    have hv : (List.take k_.toNat r_.c.Gates).length = k_.toNat := (take_len rfl (by omega))
    have hq1 : k_.toNat ≤ c1 := by omega
    have ho : Org w0 [] [⟨B, (r_.g.Edges.flatMap enc_Edge)⟩, ⟨B1, (r_.c.Gates.flatMap enc_Gate)⟩, ⟨B2, (r_.place.flatMap encI)⟩, ⟨B3, (r_.done.flatMap encB)⟩] [⟨B1, ((List.take k_.toNat r_.c.Gates).flatMap enc_Gate)⟩] := org_view enc_Gate_len (q := c1) (org_mem (i := 1) rfl) (sv_zero _ _ _).symm rfl
    have hS3 : ST w0 [] _ [⟨some ⟨b, 0, none⟩, 201, [.int .i64 r_.g.Nodes, .slice B r_.g.Edges.length c, .int .i64 r_.c.Qubits, .slice B1 r_.c.Gates.length c1, .slice B2 r_.place.length c2, .slice B3 r_.done.length c3], 6⟩] [⟨B1, ((List.take k_.toNat r_.c.Gates).flatMap enc_Gate)⟩, ⟨B, (r_.g.Edges.flatMap enc_Edge)⟩, ⟨B1, (r_.c.Gates.flatMap enc_Gate)⟩, ⟨B2, (r_.place.flatMap encI)⟩, ⟨B3, (r_.done.flatMap encB)⟩] := ST.view enc_Gate_len hS2 (i := 1) rfl (lo := 0) (h := k_.toNat) (q := c1) (by omega) (by omega) (sv_zero _ _ _).symm rfl
    refine sq 26 rfl rfl (Y_slice0 (B := B1) (m := r_.c.Gates.length) (c := c1) (h := k_.toNat) (s := 3) k_sl_102_213 k_sz_213_3 rfl rfl (bnd_some rfl (nn_toNat (by omega))) (by omega)) ?_
    refine sq 27 rfl rfl (Y_len (B := B1) (m := k_.toNat) (c := c1) k_sl_102_213 rfl rfl) ?_
    refine sq 28 rfl rfl (Y_move (v := .int .i64 0) rfl rfl) ?_
    refine rw_nil ?_
    obtain ⟨hN, hF2⟩ := chk_inv hF2
    obtain ⟨z, hz, hF3⟩ := bind_inv hF2
    refine cw_block ?_
    refine cw_loop (fun k f w => ∃ (i : Nat), FF f [(1, .int .i64 k_), (2, pt (some ⟨b, 0, none⟩) 0), (26, .slice B1 k_.toNat c1), (27, .int .i64 (k_.toNat : Int)), (28, .int .i64 (i : Int))] ∧ ST w0 [] w [⟨some ⟨b, 0, none⟩, 201, [.int .i64 r_.g.Nodes, .slice B r_.g.Edges.length c, .int .i64 r_.c.Qubits, .slice B1 r_.c.Gates.length c1, .slice B2 r_.place.length c2, .slice B3 r_.done.length c3], 6⟩] [⟨B1, ((List.take k_.toNat r_.c.Gates).flatMap enc_Gate)⟩, ⟨B, (r_.g.Edges.flatMap enc_Edge)⟩, ⟨B1, (r_.c.Gates.flatMap enc_Gate)⟩, ⟨B2, (r_.place.flatMap encI)⟩, ⟨B3, (r_.done.flatMap encB)⟩] ∧ i + k = k_.toNat ∧ forX (F_impl_routing_isReady_l1 k_ r_) k i () = some z) k_.toNat ⟨0, (FF.cons rfl (FF.cons rfl (FF.cons rfl (FF.cons rfl (FF.cons rfl FF.nil))))), (hS3.sel [0] rfl rfl), Nat.zero_add _, hz⟩ ?_
    rintro k_1 f w ⟨i, hf, hS4, hik, hL⟩
    refine cw_seq ?_
    refine cw_region ?_
    refine sq 29 rfl rfl (Y_lt (k := .i64) (a := (i : Int)) (b := (k_.toNat : Int)) rfl (hf.get 28 4 rfl) (hf.get 27 3 rfl)) ?_
    refine rw_nil ?_
    refine cw_seq ?_
    refine cw_cond (b := (decide ((i : Int) < (k_.toNat : Int)))) rfl (fun hlt => ?_) (fun hlt => ?_)
    · skip
      have hlt1 : i < k_.toNat := by have h := of_decide_eq_true hlt; omega
      obtain ⟨k_2, rfl⟩ : ∃ k2, k_1 = k2 + 1 := ⟨k_1 - 1, by omega⟩
      obtain ⟨y, hb1, hL1⟩ := forX_go hL
      unfold F_impl_routing_isReady_l1 at hb1
      refine cw_skip ?_
      refine cw_seq ?_
      refine cw_block ?_
      refine cw_seq ?_
      refine cw_region ?_
      refine sq 30 rfl rfl (Y_move (v := .int .i64 (i : Int)) rfl (hf.get 28 4 rfl)) ?_
      obtain ⟨x1, hx1, hb1⟩ := bind_inv hb1
      refine sq 31 rfl rfl (Y_index (B := B1) (m := k_.toNat) (c := c1) (k := .i64) (i := (i : Int)) k_sl_102_213 k_sz_213_3 rfl (hf.get 26 2 rfl) (hf.get 28 4 rfl) (gi_isSome enc_Gate_len rfl (hS4.rf (i := 0) rfl) hx1) (getI_nn hx1) (getI_ltI hx1 hv)) ?_
      refine sq 32 rfl rfl (Y_loadA (B := B1) (i := (i : Int).toNat * 3) (cs := ((List.take k_.toNat r_.c.Gates).flatMap enc_Gate)) (vs := [.int .i64 x1.Kind, .int .i64 x1.A, .int .i64 x1.B]) k_ag_213 k_sz_213_3 rfl rfl (hS4.rf (i := 0) rfl) (enc_Gate_len x1) (gi_seg enc_Gate_len hx1)) ?_
      refine ss 6 rfl rfl (Ys_alloc (T := 213) (cs := [.int .i64 0, .int .i64 0, .int .i64 0]) (m := 3) hS4 k_zero_213 rfl rfl rfl) ?_
      rintro _ w_2 ⟨b1, rfl, hS5⟩
      have hS5 : ST w0 [] _ [⟨some ⟨b, 0, none⟩, 201, [.int .i64 r_.g.Nodes, .slice B r_.g.Edges.length c, .int .i64 r_.c.Qubits, .slice B1 r_.c.Gates.length c1, .slice B2 r_.place.length c2, .slice B3 r_.done.length c3], 6⟩, ⟨some ⟨b1, 0, none⟩, 213, [.int .i64 0, .int .i64 0, .int .i64 0], 3⟩] [⟨B1, ((List.take k_.toNat r_.c.Gates).flatMap enc_Gate)⟩, ⟨B, (r_.g.Edges.flatMap enc_Edge)⟩, ⟨B1, (r_.c.Gates.flatMap enc_Gate)⟩, ⟨B2, (r_.place.flatMap encI)⟩, ⟨B3, (r_.done.flatMap encB)⟩] := hS5
      refine sq 5 rfl rfl (Y_assign (v := .int .i64 (i : Int)) rfl rfl) ?_
      refine ss0 rfl rfl (Ys_store (i := 1) (s := 3) (B := some ⟨b1, 0, none⟩) (T' := 213) (v := .agg #[.int .i64 x1.Kind, .int .i64 x1.A, .int .i64 x1.B]) (vs := [.int .i64 x1.Kind, .int .i64 x1.A, .int .i64 x1.B]) (k := 0) (cs' := [.int .i64 x1.Kind, .int .i64 x1.A, .int .i64 x1.B]) hS5 k_sz_213_3 rfl rfl rfl rfl rfl rfl rfl (Nat.le_of_ble_eq_true rfl) rfl rfl) ?_
      rintro _ w_3 ⟨rfl, hS6⟩
      have hS6 : ST w0 [] _ [⟨some ⟨b, 0, none⟩, 201, [.int .i64 r_.g.Nodes, .slice B r_.g.Edges.length c, .int .i64 r_.c.Qubits, .slice B1 r_.c.Gates.length c1, .slice B2 r_.place.length c2, .slice B3 r_.done.length c3], 6⟩, ⟨some ⟨b1, 0, none⟩, 213, [.int .i64 x1.Kind, .int .i64 x1.A, .int .i64 x1.B], 3⟩] [⟨B1, ((List.take k_.toNat r_.c.Gates).flatMap enc_Gate)⟩, ⟨B, (r_.g.Edges.flatMap enc_Edge)⟩, ⟨B1, (r_.c.Gates.flatMap enc_Gate)⟩, ⟨B2, (r_.place.flatMap encI)⟩, ⟨B3, (r_.done.flatMap encB)⟩] := hS6
      refine rw_nil ?_
      refine cw_seq ?_
      obtain ⟨x2, hx2, hb1⟩ := bind_inv hb1
      obtain ⟨x3, hx3, hb1⟩ := bind_inv hb1
      obtain ⟨r_3, hc1, hb1⟩ := bind_inv hb1
      refine ra_start (ST.sel hS6 [0, 1] rfl rfl).fn (by kernel_rfl) ?_
      have hS8 := hS6.drew
      refine ra_q 0 33 (v := pt (some ⟨b, 0, none⟩) 5) rfl rfl rfl (by kernel_rfl) (by kernel_rfl) (by kernel_rfl) (ST.sel hS8 [0, 1] rfl rfl) (fun w' hw' => (Y_fieldAddr (B := some ⟨b, 0, none⟩) (i := 0) (s := 0) k_fd_201_3_5_199 k_sz_199_1 rfl (hf.get 2 1 rfl))) ?_
      refine ra_q 1 34 (v := .slice B3 r_.done.length c3) rfl rfl rfl (by kernel_rfl) (by kernel_rfl) (by kernel_rfl) (ST.sel hS8 [0, 1] rfl rfl) (fun w' hw' => (Y_load1 (B := some ⟨b, 0, none⟩) (i := 5) (cs := [.int .i64 r_.g.Nodes, .slice B r_.g.Edges.length c, .int .i64 r_.c.Qubits, .slice B1 r_.c.Gates.length c1, .slice B2 r_.place.length c2, .slice B3 r_.done.length c3]) (v := .slice B3 r_.done.length c3) k_sc_199 rfl rfl (ST.cf hw' (i := 0) rfl) rfl)) ?_
      refine ra_q 2 35 (v := .int .i64 (i : Int)) rfl rfl rfl (by kernel_rfl) (by kernel_rfl) (by kernel_rfl) (ST.sel hS8 [0, 1] rfl rfl) (fun w' hw' => (Y_move (v := .int .i64 (i : Int)) rfl rfl)) ?_
      refine ra_q 3 36 (v := pt B3 ((i : Int).toNat * 1)) rfl rfl rfl (by kernel_rfl) (by kernel_rfl) (by kernel_rfl) (ST.sel hS8 [0, 1] rfl rfl) (fun w' hw' => (Y_index (B := B3) (m := r_.done.length) (c := c3) (k := .i64) (i := (i : Int)) k_sl_199_4 k_sz_4_1 rfl rfl rfl (gi_isSome encB_len rfl (ST.rf hw' (i := 4) rfl) hx2) (getI_nn hx2) (getI_ltI hx2 rfl))) ?_
      refine ra_q 4 37 (v := .bool x2) rfl rfl rfl (by kernel_rfl) (by kernel_rfl) (by kernel_rfl) (ST.sel hS8 [0, 1] rfl rfl) (fun w' hw' => (Y_load1 (B := B3) (i := (i : Int).toNat * 1) (cs := (r_.done.flatMap encB)) (v := .bool x2) k_sc_4 rfl rfl (ST.rf hw' (i := 4) rfl) (gi_at0 encB_len hx2 rfl))) ?_
      refine ra_q 5 38 (v := .bool (!x2)) rfl rfl rfl (by kernel_rfl) (by kernel_rfl) (by kernel_rfl) (ST.sel hS8 [0, 1] rfl rfl) (fun w' hw' => (Y_not (p := x2) rfl rfl)) ?_
      refine ra_q 6 39 (v := .bool (!x2)) rfl rfl rfl (by kernel_rfl) (by kernel_rfl) (by kernel_rfl) (ST.sel hS8 [0, 1] rfl rfl) (fun w' hw' => (Y_move (v := .bool (!x2)) rfl rfl)) ?_
      refine ra_gq 7 40 (B := (!x2)) (v := .agg #[.int .i64 x1.Kind, .int .i64 x1.A, .int .i64 x1.B]) rfl rfl rfl (wt_t (gd_of (t := 39) (by kernel_rfl) rfl)) (by kernel_rfl) (by kernel_rfl) (by kernel_rfl) (ST.sel hS8 [0, 1] rfl rfl) (fun hg5 w' hw' => (Y_loadA (B := some ⟨b1, 0, none⟩) (i := 0) (cs := [.int .i64 x1.Kind, .int .i64 x1.A, .int .i64 x1.B]) (vs := [.int .i64 x1.Kind, .int .i64 x1.A, .int .i64 x1.B]) k_ag_213 k_sz_213_3 rfl rfl (ST.cf hw' (i := 1) rfl) rfl rfl)) ?_
      refine ra_gq 8 41 (B := (!x2)) (v := pt (some ⟨b, 0, none⟩) 2) rfl rfl rfl (wt_t (gd_of (t := 39) (by kernel_rfl) rfl)) (by kernel_rfl) (by kernel_rfl) (by kernel_rfl) (ST.sel hS8 [0, 1] rfl rfl) (fun hg6 w' hw' => (Y_fieldAddr (B := some ⟨b, 0, none⟩) (i := 0) (s := 1) k_fd_201_1_2_104 k_sz_104_2 rfl (hf.get 2 1 rfl))) ?_
      refine ra_gq 9 42 (B := (!x2)) (v := pt (some ⟨b, 0, none⟩) 3) rfl rfl rfl (wt_t (gd_of (t := 39) (by kernel_rfl) rfl)) (by kernel_rfl) (by kernel_rfl) (by kernel_rfl) (ST.sel hS8 [0, 1] rfl rfl) (fun hg7 w' hw' => (Y_fieldAddr (B := some ⟨b, 0, none⟩) (i := 2) (s := 0) k_fd_104_1_1_102 k_sz_102_1 rfl (gv_of (B := (!x2)) (v := pt (some ⟨b, 0, none⟩) 2) hg7))) ?_
      refine ra_gq 10 43 (B := (!x2)) (v := .slice B1 r_.c.Gates.length c1) rfl rfl rfl (wt_t (gd_of (t := 39) (by kernel_rfl) rfl)) (by kernel_rfl) (by kernel_rfl) (by kernel_rfl) (ST.sel hS8 [0, 1] rfl rfl) (fun hg8 w' hw' => (Y_load1 (B := some ⟨b, 0, none⟩) (i := 3) (cs := [.int .i64 r_.g.Nodes, .slice B r_.g.Edges.length c, .int .i64 r_.c.Qubits, .slice B1 r_.c.Gates.length c1, .slice B2 r_.place.length c2, .slice B3 r_.done.length c3]) (v := .slice B1 r_.c.Gates.length c1) k_sc_102 rfl (gv_of (B := (!x2)) (v := pt (some ⟨b, 0, none⟩) 3) hg8) (ST.cf hw' (i := 0) rfl) rfl)) ?_
      refine ra_gq 11 44 (B := (!x2)) (v := .int .i64 k_) rfl rfl rfl (wt_t (gd_of (t := 39) (by kernel_rfl) rfl)) (by kernel_rfl) (by kernel_rfl) (by kernel_rfl) (ST.sel hS8 [0, 1] rfl rfl) (fun hg9 w' hw' => (Y_move (v := .int .i64 k_) rfl (hf.get 1 0 rfl))) ?_
      refine ra_gq 12 45 (B := (!x2)) (v := pt B1 (k_.toNat * 3)) rfl rfl rfl (wt_t (gd_of (t := 39) (by kernel_rfl) rfl)) (by kernel_rfl) (by kernel_rfl) (by kernel_rfl) (ST.sel hS8 [0, 1] rfl rfl) (fun hg10 w' hw' => (Y_index (B := B1) (m := r_.c.Gates.length) (c := c1) (k := .i64) (i := k_) k_sl_102_213 k_sz_213_3 rfl (gv_of (B := (!x2)) (v := .slice B1 r_.c.Gates.length c1) hg10) (gv_of (B := (!x2)) (v := .int .i64 k_) hg10) (gi_isSome enc_Gate_len rfl (ST.rf hw' (i := 2) rfl) (gb_inv hx3 hg10)) (getI_nn (gb_inv hx3 hg10)) (getI_ltI (gb_inv hx3 hg10) rfl))) ?_
      refine ra_gq 13 46 (B := (!x2)) (v := .agg #[.int .i64 x3.Kind, .int .i64 x3.A, .int .i64 x3.B]) rfl rfl rfl (wt_t (gd_of (t := 39) (by kernel_rfl) rfl)) (by kernel_rfl) (by kernel_rfl) (by kernel_rfl) (ST.sel hS8 [0, 1] rfl rfl) (fun hg11 w' hw' => (Y_loadA (B := B1) (i := k_.toNat * 3) (cs := (r_.c.Gates.flatMap enc_Gate)) (vs := [.int .i64 x3.Kind, .int .i64 x3.A, .int .i64 x3.B]) k_ag_213 k_sz_213_3 rfl (gv_of (B := (!x2)) (v := pt B1 (k_.toNat * 3)) hg11) (ST.rf hw' (i := 2) rfl) (enc_Gate_len x3) (gi_seg enc_Gate_len (gb_inv hx3 hg11)))) ?_
      refine ra_all (rs := [14]) (by kernel_rfl) rfl ?_
      refine ra_gc 47 (i := 14) (B := (!x2)) (v := .bool r_3) (F := hS8.fn) rfl rfl rfl (wt_t (gd_of (t := 39) (by kernel_rfl) rfl)) hS8 (fun hg12 => (Yc_func (g := 319) (vs := [.agg #[.int .i64 x1.Kind, .int .i64 x1.A, .int .i64 x1.B], .agg #[.int .i64 x3.Kind, .int .i64 x3.A, .int .i64 x3.B]]) k_call_319 rfl (mc (gv_of (B := (!x2)) (v := .agg #[.int .i64 x1.Kind, .int .i64 x1.A, .int .i64 x1.B]) hg12) (mc (gv_of (B := (!x2)) (v := .agg #[.int .i64 x3.Kind, .int .i64 x3.A, .int .i64 x3.B]) hg12) mn)) (CV.mono (c_impl_meet x1 x3 _  (hS8.inn0 [] rfl) (gb_inv hc1 hg12)) (by rintro _ _ ⟨rfl, h⟩; exact ⟨rfl, hS8.out00 h⟩)))) ?_ ?_
      · rintro w_4 hS9
        have hS9 : ST _ _ w_4 _ _ := hS9
        refine ⟨(ST.sel hS9 [0, 1] rfl rfl), ?_⟩
        refine ra_q 15 48 (v := .bool ((!x2) && r_3)) rfl rfl rfl (by kernel_rfl) (by kernel_rfl) (by kernel_rfl) (ST.sel hS9 [0, 1] rfl rfl) (fun w' hw' => (Y_and (b := (!x2)) (z := r_3) rfl rfl rfl rfl)) ?_
        refine ra_done (by kernel_rfl) ?_
        refine cw_cond (b := ((!x2) && r_3)) rfl (fun hb2 => ?_) (fun hb2 => ?_)
        · skip
          have hF4 := ct hb1 hb2
          refine cw_seq ?_
          refine cw_region ?_
          refine sq 4 rfl rfl (Y_assign (v := .bool false) rfl rfl) ?_
          refine rw_nil ?_
          refine cw_ret ?_
          obtain rfl := some_inj hF4
          obtain rfl := some_inj hL1
          obtain rfl := some_inj hF3
          exact ret1 Try.results253 (v1 := .bool false) (resAt_tmp rfl) ⟨rfl, (ST.subR (R' := []) (hS9.sel [] rfl rfl) (fun _ h => by cases h))⟩
        · skip
          have hF5 := cf' hb1 hb2
          refine cw_skip ?_
          refine cw_region ?_
          refine sq 49 rfl rfl (Y_add (k := .i64) (a := (i : Int)) (b := 1) rfl (hf.get 28 4 rfl) rfl) ?_
          refine sq 28 rfl rfl (Y_move (v := .int .i64 (IntKind.i64.wrap ((i : Int) + 1))) rfl rfl) ?_
          refine rw_nil ?_
          obtain rfl := some_inj hF5
          exact ⟨k_2, Nat.lt_succ_self _, i + 1, (FF.cons (hf.get 1 0 rfl) (FF.cons (hf.get 2 1 rfl) (FF.cons (hf.get 26 2 rfl) (FF.cons (hf.get 27 3 rfl) (FF.cons (congrArg (Value.int .i64) (wr_succ hlt1 hN)) FF.nil))))), (hS9.sel [0] rfl rfl), (by omega), hL1⟩
      exact allR_nil
    · skip
      obtain rfl : k_1 = 0 := by have h := of_decide_eq_false hlt; omega
      refine cw_exit rfl ?_
      obtain rfl := some_inj hL
      refine cw_seq ?_
      refine cw_region ?_
      refine sq 4 rfl rfl (Y_assign (v := .bool true) rfl rfl) ?_
      refine rw_nil ?_
      refine cw_ret ?_
      obtain rfl := some_inj hF3
      exact ret1 Try.results253 (v1 := .bool true) (resAt_tmp rfl) ⟨rfl, (ST.subR (R' := []) (hS4.sel [] rfl rfl) (fun _ h => by cases h))⟩

theorem c_impl_routing_fits (r_ : Trouting) (k_ : Int) (B : Option Addr) (c n : Nat) (B1 : Option Addr) (c1 n1 : Nat) (B2 : Option Addr) (c2 n2 : Nat) (B3 : Option Addr) (c3 n3 : Nat) (w0 : World) (hn : r_.g.Edges.length = n) (hn1 : r_.c.Gates.length = n1) (hn2 : r_.place.length = n2) (hn3 : r_.done.length = n3) (hS : ST w0 [] w0 [] [⟨B, (r_.g.Edges.flatMap enc_Edge)⟩, ⟨B1, (r_.c.Gates.flatMap enc_Gate)⟩, ⟨B2, (r_.place.flatMap encI)⟩, ⟨B3, (r_.done.flatMap encB)⟩]) {r_1 : Bool} (hF : F_impl_routing_fits r_ k_ = some r_1) :
    CV Try.prog 254 #[.agg #[.int .i64 r_.g.Nodes, .slice B n c, .int .i64 r_.c.Qubits, .slice B1 n1 c1, .slice B2 n2 c2, .slice B3 n3 c3], .int .i64 k_] w0 (fun v w' => v = .bool r_1 ∧ ST w0 [] w' [] []) := by
  subst hn
  subst hn1
  subst hn2
  subst hn3
  unfold F_impl_routing_fits at hF
  refine cv_of_cw 33 Try.func254 rfl Try.ntmps254 rfl ?_
  refine cw_seq ?_
  refine cw_region ?_
  refine ss 2 rfl rfl (Ys_box (T := 201) (v := .agg #[.int .i64 r_.g.Nodes, .slice B r_.g.Edges.length c, .int .i64 r_.c.Qubits, .slice B1 r_.c.Gates.length c1, .slice B2 r_.place.length c2, .slice B3 r_.done.length c3]) (cs := [.int .i64 r_.g.Nodes, .slice B r_.g.Edges.length c, .int .i64 r_.c.Qubits, .slice B1 r_.c.Gates.length c1, .slice B2 r_.place.length c2, .slice B3 r_.done.length c3]) (m := 6) hS rfl rfl rfl rfl) ?_
  rintro _ w_ ⟨b, rfl, hS1⟩
  refine sq 4 rfl rfl (Y_assign (v := .bool false) rfl rfl) ?_
  refine rw_nil ?_
  refine cw_seq ?_
  refine cw_region ?_
  refine sq 6 rfl rfl (Y_fieldAddr (B := some ⟨b, 0, none⟩) (i := 0) (s := 1) k_fd_201_1_2_104 k_sz_104_2 rfl rfl) ?_
  refine sq 7 rfl rfl (Y_fieldAddr (B := some ⟨b, 0, none⟩) (i := 2) (s := 0) k_fd_104_1_1_102 k_sz_102_1 rfl rfl) ?_
  refine sq 8 rfl rfl (Y_load1 (B := some ⟨b, 0, none⟩) (i := 3) (cs := [.int .i64 r_.g.Nodes, .slice B r_.g.Edges.length c, .int .i64 r_.c.Qubits, .slice B1 r_.c.Gates.length c1, .slice B2 r_.place.length c2, .slice B3 r_.done.length c3]) (v := .slice B1 r_.c.Gates.length c1) k_sc_102 rfl rfl (hS1.cf (i := 0) rfl) rfl) ?_
  refine sq 9 rfl rfl (Y_move (v := .int .i64 k_) rfl rfl) ?_
  obtain ⟨x, hx, hF⟩ := bind_inv hF
  refine sq 10 rfl rfl (Y_index (B := B1) (m := r_.c.Gates.length) (c := c1) (k := .i64) (i := k_) k_sl_102_213 k_sz_213_3 rfl rfl rfl (gi_isSome enc_Gate_len rfl (hS1.rf (i := 1) rfl) hx) (getI_nn hx) (getI_ltI hx rfl)) ?_
  refine sq 11 rfl rfl (Y_loadA (B := B1) (i := k_.toNat * 3) (cs := (r_.c.Gates.flatMap enc_Gate)) (vs := [.int .i64 x.Kind, .int .i64 x.A, .int .i64 x.B]) k_ag_213 k_sz_213_3 rfl rfl (hS1.rf (i := 1) rfl) (enc_Gate_len x) (gi_seg enc_Gate_len hx)) ?_
  refine ss 5 rfl rfl (Ys_alloc (T := 213) (cs := [.int .i64 0, .int .i64 0, .int .i64 0]) (m := 3) hS1 k_zero_213 rfl rfl rfl) ?_
  rintro _ w_1 ⟨b1, rfl, hS2⟩
  have hS2 : ST w0 [] _ [⟨some ⟨b, 0, none⟩, 201, [.int .i64 r_.g.Nodes, .slice B r_.g.Edges.length c, .int .i64 r_.c.Qubits, .slice B1 r_.c.Gates.length c1, .slice B2 r_.place.length c2, .slice B3 r_.done.length c3], 6⟩, ⟨some ⟨b1, 0, none⟩, 213, [.int .i64 0, .int .i64 0, .int .i64 0], 3⟩] [⟨B, (r_.g.Edges.flatMap enc_Edge)⟩, ⟨B1, (r_.c.Gates.flatMap enc_Gate)⟩, ⟨B2, (r_.place.flatMap encI)⟩, ⟨B3, (r_.done.flatMap encB)⟩] := hS2
  refine ss0 rfl rfl (Ys_store (i := 1) (s := 3) (B := some ⟨b1, 0, none⟩) (T' := 213) (v := .agg #[.int .i64 x.Kind, .int .i64 x.A, .int .i64 x.B]) (vs := [.int .i64 x.Kind, .int .i64 x.A, .int .i64 x.B]) (k := 0) (cs' := [.int .i64 x.Kind, .int .i64 x.A, .int .i64 x.B]) hS2 k_sz_213_3 rfl rfl rfl rfl rfl rfl rfl (Nat.le_of_ble_eq_true rfl) rfl rfl) ?_
  rintro _ w_2 ⟨rfl, hS3⟩
  have hS3 : ST w0 [] _ [⟨some ⟨b, 0, none⟩, 201, [.int .i64 r_.g.Nodes, .slice B r_.g.Edges.length c, .int .i64 r_.c.Qubits, .slice B1 r_.c.Gates.length c1, .slice B2 r_.place.length c2, .slice B3 r_.done.length c3], 6⟩, ⟨some ⟨b1, 0, none⟩, 213, [.int .i64 x.Kind, .int .i64 x.A, .int .i64 x.B], 3⟩] [⟨B, (r_.g.Edges.flatMap enc_Edge)⟩, ⟨B1, (r_.c.Gates.flatMap enc_Gate)⟩, ⟨B2, (r_.place.flatMap encI)⟩, ⟨B3, (r_.done.flatMap encB)⟩] := hS3
  refine rw_nil ?_
  refine cw_seq ?_
  obtain ⟨r_2, hc, hF⟩ := bind_inv hF
  obtain ⟨x1, hx1, hF⟩ := bind_inv hF
  obtain ⟨x2, hx2, hF⟩ := bind_inv hF
  obtain ⟨r_3, hc1, hF⟩ := bind_inv hF
  refine ra_start (ST.sel hS3 [0, 1] rfl rfl).fn (by kernel_rfl) ?_
  have hS6 := hS3.drew
  refine ra_q 0 12 (v := pt (some ⟨b1, 0, none⟩) 0) rfl rfl rfl (by kernel_rfl) (by kernel_rfl) (by kernel_rfl) (ST.sel hS6 [0, 1] rfl rfl) (fun w' hw' => (Y_fieldAddr (B := some ⟨b1, 0, none⟩) (i := 0) (s := 0) k_fd_213_0_0_3 k_sz_3_1 rfl rfl)) ?_
  refine ra_q 1 13 (v := .int .i64 x.Kind) rfl rfl rfl (by kernel_rfl) (by kernel_rfl) (by kernel_rfl) (ST.sel hS6 [0, 1] rfl rfl) (fun w' hw' => (Y_load1 (B := some ⟨b1, 0, none⟩) (i := 0) (cs := [.int .i64 x.Kind, .int .i64 x.A, .int .i64 x.B]) (v := .int .i64 x.Kind) k_sc_3 rfl rfl (ST.cf hw' (i := 1) rfl) rfl)) ?_
  refine ra_all (rs := [2]) (by kernel_rfl) rfl ?_
  refine ra_c 14 (i := 2) rfl rfl rfl (Yc_func (g := 250) (vs := [.int .i64 x.Kind]) k_call_250 rfl (mc rfl mn) (c_impl_isTwo x.Kind _  (hS6.inn0 [] rfl) hc)) ?_ ?_
  · rintro _ w_3 ⟨rfl, hd⟩
    have hS7 := hS6.out00 hd
    have hS7 : ST w0 [] _ [⟨some ⟨b, 0, none⟩, 201, [.int .i64 r_.g.Nodes, .slice B r_.g.Edges.length c, .int .i64 r_.c.Qubits, .slice B1 r_.c.Gates.length c1, .slice B2 r_.place.length c2, .slice B3 r_.done.length c3], 6⟩, ⟨some ⟨b1, 0, none⟩, 213, [.int .i64 x.Kind, .int .i64 x.A, .int .i64 x.B], 3⟩] [⟨B, (r_.g.Edges.flatMap enc_Edge)⟩, ⟨B1, (r_.c.Gates.flatMap enc_Gate)⟩, ⟨B2, (r_.place.flatMap encI)⟩, ⟨B3, (r_.done.flatMap encB)⟩] := hS7
    refine ⟨(ST.sel hS7 [0, 1] rfl rfl), ?_⟩
    refine ra_q 3 15 (v := .bool (!r_2)) rfl rfl rfl (by kernel_rfl) (by kernel_rfl) (by kernel_rfl) (ST.sel hS7 [0, 1] rfl rfl) (fun w' hw' => (Y_not (p := r_2) rfl rfl)) ?_
    refine ra_q 4 16 (v := .bool (!r_2)) rfl rfl rfl (by kernel_rfl) (by kernel_rfl) (by kernel_rfl) (ST.sel hS7 [0, 1] rfl rfl) (fun w' hw' => (Y_move (v := .bool (!r_2)) rfl rfl)) ?_
    refine ra_gq 5 17 (B := (!(!r_2))) (v := pt (some ⟨b, 0, none⟩) 0) rfl rfl rfl (wt_f (gd_of (t := 16) (by kernel_rfl) rfl)) (by kernel_rfl) (by kernel_rfl) (by kernel_rfl) (ST.sel hS7 [0, 1] rfl rfl) (fun hg w' hw' => (Y_fieldAddr (B := some ⟨b, 0, none⟩) (i := 0) (s := 1) k_fd_201_0_0_100 k_sz_100_2 rfl rfl)) ?_
    refine ra_gq 6 18 (B := (!(!r_2))) (v := .agg #[.int .i64 r_.g.Nodes, .slice B r_.g.Edges.length c]) rfl rfl rfl (wt_f (gd_of (t := 16) (by kernel_rfl) rfl)) (by kernel_rfl) (by kernel_rfl) (by kernel_rfl) (ST.sel hS7 [0, 1] rfl rfl) (fun hg1 w' hw' => (Y_loadA (B := some ⟨b, 0, none⟩) (i := 0) (cs := [.int .i64 r_.g.Nodes, .slice B r_.g.Edges.length c, .int .i64 r_.c.Qubits, .slice B1 r_.c.Gates.length c1, .slice B2 r_.place.length c2, .slice B3 r_.done.length c3]) (vs := [.int .i64 r_.g.Nodes, .slice B r_.g.Edges.length c]) k_ag_100 k_sz_100_2 rfl (gv_of (B := (!(!r_2))) (v := pt (some ⟨b, 0, none⟩) 0) hg1) (ST.cf hw' (i := 0) rfl) rfl rfl)) ?_
    refine ra_gq 7 19 (B := (!(!r_2))) (v := pt (some ⟨b, 0, none⟩) 4) rfl rfl rfl (wt_f (gd_of (t := 16) (by kernel_rfl) rfl)) (by kernel_rfl) (by kernel_rfl) (by kernel_rfl) (ST.sel hS7 [0, 1] rfl rfl) (fun hg2 w' hw' => (Y_fieldAddr (B := some ⟨b, 0, none⟩) (i := 0) (s := 0) k_fd_201_2_4_59 k_sz_59_1 rfl rfl)) ?_
    refine ra_gq 8 20 (B := (!(!r_2))) (v := .slice B2 r_.place.length c2) rfl rfl rfl (wt_f (gd_of (t := 16) (by kernel_rfl) rfl)) (by kernel_rfl) (by kernel_rfl) (by kernel_rfl) (ST.sel hS7 [0, 1] rfl rfl) (fun hg3 w' hw' => (Y_load1 (B := some ⟨b, 0, none⟩) (i := 4) (cs := [.int .i64 r_.g.Nodes, .slice B r_.g.Edges.length c, .int .i64 r_.c.Qubits, .slice B1 r_.c.Gates.length c1, .slice B2 r_.place.length c2, .slice B3 r_.done.length c3]) (v := .slice B2 r_.place.length c2) k_sc_59 rfl (gv_of (B := (!(!r_2))) (v := pt (some ⟨b, 0, none⟩) 4) hg3) (ST.cf hw' (i := 0) rfl) rfl)) ?_
    refine ra_gq 9 21 (B := (!(!r_2))) (v := pt (some ⟨b1, 0, none⟩) 1) rfl rfl rfl (wt_f (gd_of (t := 16) (by kernel_rfl) rfl)) (by kernel_rfl) (by kernel_rfl) (by kernel_rfl) (ST.sel hS7 [0, 1] rfl rfl) (fun hg4 w' hw' => (Y_fieldAddr (B := some ⟨b1, 0, none⟩) (i := 0) (s := 0) k_fd_213_1_1_3 k_sz_3_1 rfl rfl)) ?_
    refine ra_gq 10 22 (B := (!(!r_2))) (v := .int .i64 x.A) rfl rfl rfl (wt_f (gd_of (t := 16) (by kernel_rfl) rfl)) (by kernel_rfl) (by kernel_rfl) (by kernel_rfl) (ST.sel hS7 [0, 1] rfl rfl) (fun hg5 w' hw' => (Y_load1 (B := some ⟨b1, 0, none⟩) (i := 1) (cs := [.int .i64 x.Kind, .int .i64 x.A, .int .i64 x.B]) (v := .int .i64 x.A) k_sc_3 rfl (gv_of (B := (!(!r_2))) (v := pt (some ⟨b1, 0, none⟩) 1) hg5) (ST.cf hw' (i := 1) rfl) rfl)) ?_
    refine ra_gq 11 23 (B := (!(!r_2))) (v := pt B2 (x.A.toNat * 1)) rfl rfl rfl (wt_f (gd_of (t := 16) (by kernel_rfl) rfl)) (by kernel_rfl) (by kernel_rfl) (by kernel_rfl) (ST.sel hS7 [0, 1] rfl rfl) (fun hg6 w' hw' => (Y_index (B := B2) (m := r_.place.length) (c := c2) (k := .i64) (i := x.A) k_sl_59_3 k_sz_3_1 rfl (gv_of (B := (!(!r_2))) (v := .slice B2 r_.place.length c2) hg6) (gv_of (B := (!(!r_2))) (v := .int .i64 x.A) hg6) (gi_isSome encI_len rfl (ST.rf hw' (i := 2) rfl) (gb_inv hx1 hg6)) (getI_nn (gb_inv hx1 hg6)) (getI_ltI (gb_inv hx1 hg6) rfl))) ?_
    refine ra_gq 12 24 (B := (!(!r_2))) (v := .int .i64 x1) rfl rfl rfl (wt_f (gd_of (t := 16) (by kernel_rfl) rfl)) (by kernel_rfl) (by kernel_rfl) (by kernel_rfl) (ST.sel hS7 [0, 1] rfl rfl) (fun hg7 w' hw' => (Y_load1 (B := B2) (i := x.A.toNat * 1) (cs := (r_.place.flatMap encI)) (v := .int .i64 x1) k_sc_3 rfl (gv_of (B := (!(!r_2))) (v := pt B2 (x.A.toNat * 1)) hg7) (ST.rf hw' (i := 2) rfl) (gi_at0 encI_len (gb_inv hx1 hg7) rfl))) ?_
    refine ra_gq 13 25 (B := (!(!r_2))) (v := pt (some ⟨b, 0, none⟩) 4) rfl rfl rfl (wt_f (gd_of (t := 16) (by kernel_rfl) rfl)) (by kernel_rfl) (by kernel_rfl) (by kernel_rfl) (ST.sel hS7 [0, 1] rfl rfl) (fun hg8 w' hw' => (Y_fieldAddr (B := some ⟨b, 0, none⟩) (i := 0) (s := 0) k_fd_201_2_4_59 k_sz_59_1 rfl rfl)) ?_
    refine ra_gq 14 26 (B := (!(!r_2))) (v := .slice B2 r_.place.length c2) rfl rfl rfl (wt_f (gd_of (t := 16) (by kernel_rfl) rfl)) (by kernel_rfl) (by kernel_rfl) (by kernel_rfl) (ST.sel hS7 [0, 1] rfl rfl) (fun hg9 w' hw' => (Y_load1 (B := some ⟨b, 0, none⟩) (i := 4) (cs := [.int .i64 r_.g.Nodes, .slice B r_.g.Edges.length c, .int .i64 r_.c.Qubits, .slice B1 r_.c.Gates.length c1, .slice B2 r_.place.length c2, .slice B3 r_.done.length c3]) (v := .slice B2 r_.place.length c2) k_sc_59 rfl (gv_of (B := (!(!r_2))) (v := pt (some ⟨b, 0, none⟩) 4) hg9) (ST.cf hw' (i := 0) rfl) rfl)) ?_
    refine ra_gq 15 27 (B := (!(!r_2))) (v := pt (some ⟨b1, 0, none⟩) 2) rfl rfl rfl (wt_f (gd_of (t := 16) (by kernel_rfl) rfl)) (by kernel_rfl) (by kernel_rfl) (by kernel_rfl) (ST.sel hS7 [0, 1] rfl rfl) (fun hg10 w' hw' => (Y_fieldAddr (B := some ⟨b1, 0, none⟩) (i := 0) (s := 0) k_fd_213_2_2_3 k_sz_3_1 rfl rfl)) ?_
    refine ra_gq 16 28 (B := (!(!r_2))) (v := .int .i64 x.B) rfl rfl rfl (wt_f (gd_of (t := 16) (by kernel_rfl) rfl)) (by kernel_rfl) (by kernel_rfl) (by kernel_rfl) (ST.sel hS7 [0, 1] rfl rfl) (fun hg11 w' hw' => (Y_load1 (B := some ⟨b1, 0, none⟩) (i := 2) (cs := [.int .i64 x.Kind, .int .i64 x.A, .int .i64 x.B]) (v := .int .i64 x.B) k_sc_3 rfl (gv_of (B := (!(!r_2))) (v := pt (some ⟨b1, 0, none⟩) 2) hg11) (ST.cf hw' (i := 1) rfl) rfl)) ?_
    refine ra_gq 17 29 (B := (!(!r_2))) (v := pt B2 (x.B.toNat * 1)) rfl rfl rfl (wt_f (gd_of (t := 16) (by kernel_rfl) rfl)) (by kernel_rfl) (by kernel_rfl) (by kernel_rfl) (ST.sel hS7 [0, 1] rfl rfl) (fun hg12 w' hw' => (Y_index (B := B2) (m := r_.place.length) (c := c2) (k := .i64) (i := x.B) k_sl_59_3 k_sz_3_1 rfl (gv_of (B := (!(!r_2))) (v := .slice B2 r_.place.length c2) hg12) (gv_of (B := (!(!r_2))) (v := .int .i64 x.B) hg12) (gi_isSome encI_len rfl (ST.rf hw' (i := 2) rfl) (gb_inv hx2 hg12)) (getI_nn (gb_inv hx2 hg12)) (getI_ltI (gb_inv hx2 hg12) rfl))) ?_
    refine ra_gq 18 30 (B := (!(!r_2))) (v := .int .i64 x2) rfl rfl rfl (wt_f (gd_of (t := 16) (by kernel_rfl) rfl)) (by kernel_rfl) (by kernel_rfl) (by kernel_rfl) (ST.sel hS7 [0, 1] rfl rfl) (fun hg13 w' hw' => (Y_load1 (B := B2) (i := x.B.toNat * 1) (cs := (r_.place.flatMap encI)) (v := .int .i64 x2) k_sc_3 rfl (gv_of (B := (!(!r_2))) (v := pt B2 (x.B.toNat * 1)) hg13) (ST.rf hw' (i := 2) rfl) (gi_at0 encI_len (gb_inv hx2 hg13) rfl))) ?_
    refine ra_all (rs := [19]) (by kernel_rfl) rfl ?_
    refine ra_gc 31 (i := 19) (B := (!(!r_2))) (v := .bool r_3) (F := hS7.fn) rfl rfl rfl (wt_f (gd_of (t := 16) (by kernel_rfl) rfl)) hS7 (fun hg14 => (Yc_func (g := 251) (vs := [.agg #[.int .i64 r_.g.Nodes, .slice B r_.g.Edges.length c], .int .i64 x1, .int .i64 x2]) k_call_251 rfl (mc (gv_of (B := (!(!r_2))) (v := .agg #[.int .i64 r_.g.Nodes, .slice B r_.g.Edges.length c]) hg14) (mc (gv_of (B := (!(!r_2))) (v := .int .i64 x1) hg14) (mc (gv_of (B := (!(!r_2))) (v := .int .i64 x2) hg14) mn))) (CV.mono (c_impl_CouplingGraph_joins r_.g x1 x2 B c r_.g.Edges.length _ rfl (hS7.inn0 [(true, 0)] rfl) (gb_inv hc1 hg14)) (by rintro _ _ ⟨rfl, h⟩; exact ⟨rfl, hS7.out00 h⟩)))) ?_ ?_
    · rintro w_4 hS8
      have hS8 : ST _ _ w_4 _ _ := hS8
      refine ⟨(ST.sel hS8 [0, 1] rfl rfl), ?_⟩
      refine ra_q 20 32 (v := .bool ((!r_2) || r_3)) rfl rfl rfl (by kernel_rfl) (by kernel_rfl) (by kernel_rfl) (ST.sel hS8 [0, 1] rfl rfl) (fun w' hw' => (Y_or (b := (!r_2)) (z := r_3) rfl rfl rfl rfl)) ?_
      refine ra_q 21 4 (v := .bool ((!r_2) || r_3)) rfl rfl rfl (by kernel_rfl) (by kernel_rfl) (by kernel_rfl) (ST.sel hS8 [0, 1] rfl rfl) (fun w' hw' => (Y_assign (v := .bool ((!r_2) || r_3)) rfl rfl)) ?_
      refine ra_done (by kernel_rfl) ?_
      refine cw_ret ?_
      obtain rfl := some_inj hF
      exact ret1 Try.results254 (v1 := .bool ((!r_2) || r_3)) (resAt_tmp rfl) ⟨rfl, (ST.subR (R' := []) (hS8.sel [] rfl rfl) (fun _ h => by cases h))⟩
    exact allR_nil
  exact allR_nil

theorem c_impl_routing_step (r_ : Trouting) (s : TRouteStep) (B : Option Addr) (c n : Nat) (B1 : Option Addr) (c1 n1 : Nat) (B2 : Option Addr) (c2 n2 : Nat) (B3 : Option Addr) (c3 n3 : Nat) (w0 : World) (hn : r_.g.Edges.length = n) (hn1 : r_.c.Gates.length = n1) (hq : n1 ≤ c1) (hn2 : r_.place.length = n2) (hn3 : r_.done.length = n3) (hS : ST w0 (bl [⟨B2, 3, (r_.place.flatMap encI), c2 * 1⟩, ⟨B3, 4, (r_.done.flatMap encB), c3 * 1⟩]) w0 [⟨B2, 3, (r_.place.flatMap encI), c2 * 1⟩, ⟨B3, 4, (r_.done.flatMap encB), c3 * 1⟩] [⟨B, (r_.g.Edges.flatMap enc_Edge)⟩, ⟨B1, (r_.c.Gates.flatMap enc_Gate)⟩]) {r_1 : Int} {m : List Int} {m1 : List Bool} (hF : F_impl_routing_step r_ s = some (r_1, m, m1)) :
    CV Try.prog 166 #[.agg #[.int .i64 r_.g.Nodes, .slice B n c, .int .i64 r_.c.Qubits, .slice B1 n1 c1, .slice B2 n2 c2, .slice B3 n3 c3], .agg #[.int .i64 s.Gate, .int .i64 s.A, .int .i64 s.B]] w0 (fun v w' => v = .int .i64 r_1 ∧ m.length = n2 ∧ m1.length = n3 ∧ ST w0 (bl [⟨B2, 3, (r_.place.flatMap encI), c2 * 1⟩, ⟨B3, 4, (r_.done.flatMap encB), c3 * 1⟩]) w' [⟨B2, 3, (m.flatMap encI), c2 * 1⟩, ⟨B3, 4, (m1.flatMap encB), c3 * 1⟩] []) := by
  subst hn
  subst hn1
  subst hn2
  subst hn3
  unfold F_impl_routing_step at hF
  refine cv_of_cw 50 Try.func166 rfl Try.ntmps166 rfl ?_
  refine cw_seq ?_
  refine cw_region ?_
  refine ss 2 rfl rfl (Ys_box (T := 201) (v := .agg #[.int .i64 r_.g.Nodes, .slice B r_.g.Edges.length c, .int .i64 r_.c.Qubits, .slice B1 r_.c.Gates.length c1, .slice B2 r_.place.length c2, .slice B3 r_.done.length c3]) (cs := [.int .i64 r_.g.Nodes, .slice B r_.g.Edges.length c, .int .i64 r_.c.Qubits, .slice B1 r_.c.Gates.length c1, .slice B2 r_.place.length c2, .slice B3 r_.done.length c3]) (m := 6) hS rfl rfl rfl rfl) ?_
  rintro _ w_ ⟨b, rfl, hS1⟩
  have hS1 : ST w0 (bl [⟨B2, 3, (r_.place.flatMap encI), c2 * 1⟩, ⟨B3, 4, (r_.done.flatMap encB), c3 * 1⟩]) _ [⟨B2, 3, (r_.place.flatMap encI), c2 * 1⟩, ⟨B3, 4, (r_.done.flatMap encB), c3 * 1⟩, ⟨some ⟨b, 0, none⟩, 201, [.int .i64 r_.g.Nodes, .slice B r_.g.Edges.length c, .int .i64 r_.c.Qubits, .slice B1 r_.c.Gates.length c1, .slice B2 r_.place.length c2, .slice B3 r_.done.length c3], 6⟩] [⟨B, (r_.g.Edges.flatMap enc_Edge)⟩, ⟨B1, (r_.c.Gates.flatMap enc_Gate)⟩] := hS1
  refine ss 3 rfl rfl (Ys_box (T := 211) (v := .agg #[.int .i64 s.Gate, .int .i64 s.A, .int .i64 s.B]) (cs := [.int .i64 s.Gate, .int .i64 s.A, .int .i64 s.B]) (m := 3) hS1 rfl rfl rfl rfl) ?_
  rintro _ w_1 ⟨b1, rfl, hS2⟩
  have hS2 : ST w0 (bl [⟨B2, 3, (r_.place.flatMap encI), c2 * 1⟩, ⟨B3, 4, (r_.done.flatMap encB), c3 * 1⟩]) _ [⟨B2, 3, (r_.place.flatMap encI), c2 * 1⟩, ⟨B3, 4, (r_.done.flatMap encB), c3 * 1⟩, ⟨some ⟨b, 0, none⟩, 201, [.int .i64 r_.g.Nodes, .slice B r_.g.Edges.length c, .int .i64 r_.c.Qubits, .slice B1 r_.c.Gates.length c1, .slice B2 r_.place.length c2, .slice B3 r_.done.length c3], 6⟩, ⟨some ⟨b1, 0, none⟩, 211, [.int .i64 s.Gate, .int .i64 s.A, .int .i64 s.B], 3⟩] [⟨B, (r_.g.Edges.flatMap enc_Edge)⟩, ⟨B1, (r_.c.Gates.flatMap enc_Gate)⟩] := hS2
  refine sq 4 rfl rfl (Y_assign (v := .int .i64 0) rfl rfl) ?_
  refine rw_nil ?_
  refine cw_seq ?_
  refine cw_block ?_
  refine cw_seq ?_
  refine cw_region ?_
  refine sq 6 rfl rfl (Y_fieldAddr (B := some ⟨b1, 0, none⟩) (i := 0) (s := 0) k_fd_211_0_0_3 k_sz_3_1 rfl rfl) ?_
  refine sq 7 rfl rfl (Y_load1 (B := some ⟨b1, 0, none⟩) (i := 0) (cs := [.int .i64 s.Gate, .int .i64 s.A, .int .i64 s.B]) (v := .int .i64 s.Gate) k_sc_3 rfl rfl (hS2.cf (i := 3) rfl) rfl) ?_
  refine sq 8 rfl rfl (Y_eq (k := .i64) (a := s.Gate) (b := (-1)) rfl rfl rfl) ?_
  refine sq 5 rfl rfl (Y_assign (v := .bool (s.Gate == (-1))) rfl rfl) ?_
  refine rw_nil ?_
  refine cw_cond (b := (s.Gate == (-1))) rfl (fun hb => ?_) (fun hb => ?_)
  · skip
    have hF1 := ct hF hb
    refine cw_seq ?_
    refine cw_seq ?_
    refine cw_region ?_
    refine sq 9 rfl rfl (Y_fieldAddr (B := some ⟨b, 0, none⟩) (i := 0) (s := 1) k_fd_201_0_0_100 k_sz_100_2 rfl rfl) ?_
    refine sq 10 rfl rfl (Y_loadA (B := some ⟨b, 0, none⟩) (i := 0) (cs := [.int .i64 r_.g.Nodes, .slice B r_.g.Edges.length c, .int .i64 r_.c.Qubits, .slice B1 r_.c.Gates.length c1, .slice B2 r_.place.length c2, .slice B3 r_.done.length c3]) (vs := [.int .i64 r_.g.Nodes, .slice B r_.g.Edges.length c]) k_ag_100 k_sz_100_2 rfl rfl (hS2.cf (i := 2) rfl) rfl rfl) ?_
    refine sq 11 rfl rfl (Y_fieldAddr (B := some ⟨b1, 0, none⟩) (i := 0) (s := 0) k_fd_211_1_1_3 k_sz_3_1 rfl rfl) ?_
    refine sq 12 rfl rfl (Y_load1 (B := some ⟨b1, 0, none⟩) (i := 1) (cs := [.int .i64 s.Gate, .int .i64 s.A, .int .i64 s.B]) (v := .int .i64 s.A) k_sc_3 rfl rfl (hS2.cf (i := 3) rfl) rfl) ?_
    refine sq 13 rfl rfl (Y_fieldAddr (B := some ⟨b1, 0, none⟩) (i := 0) (s := 0) k_fd_211_2_2_3 k_sz_3_1 rfl rfl) ?_
    refine sq 14 rfl rfl (Y_load1 (B := some ⟨b1, 0, none⟩) (i := 2) (cs := [.int .i64 s.Gate, .int .i64 s.A, .int .i64 s.B]) (v := .int .i64 s.B) k_sc_3 rfl rfl (hS2.cf (i := 3) rfl) rfl) ?_
    obtain ⟨r_2, hc, hF1⟩ := bind_inv hF1
    refine sc 15 rfl rfl (Yc_func (g := 251) (vs := [.agg #[.int .i64 r_.g.Nodes, .slice B r_.g.Edges.length c], .int .i64 s.A, .int .i64 s.B]) k_call_251 rfl (mc rfl (mc rfl (mc rfl mn))) (c_impl_CouplingGraph_joins r_.g s.A s.B B c r_.g.Edges.length _ rfl (hS2.inn0 [(true, 0)] rfl) hc)) ?_
    rintro _ w_2 ⟨rfl, hd⟩
    have hS3 := hS2.out00 hd
    have hS3 : ST w0 (bl [⟨B2, 3, (r_.place.flatMap encI), c2 * 1⟩, ⟨B3, 4, (r_.done.flatMap encB), c3 * 1⟩]) _ [⟨B2, 3, (r_.place.flatMap encI), c2 * 1⟩, ⟨B3, 4, (r_.done.flatMap encB), c3 * 1⟩, ⟨some ⟨b, 0, none⟩, 201, [.int .i64 r_.g.Nodes, .slice B r_.g.Edges.length c, .int .i64 r_.c.Qubits, .slice B1 r_.c.Gates.length c1, .slice B2 r_.place.length c2, .slice B3 r_.done.length c3], 6⟩, ⟨some ⟨b1, 0, none⟩, 211, [.int .i64 s.Gate, .int .i64 s.A, .int .i64 s.B], 3⟩] [⟨B, (r_.g.Edges.flatMap enc_Edge)⟩, ⟨B1, (r_.c.Gates.flatMap enc_Gate)⟩] := hS3
    refine sq 16 rfl rfl (Y_not (p := r_2) rfl rfl) ?_
    refine rw_nil ?_
    refine cw_cond (b := (!r_2)) rfl (fun hb1 => ?_) (fun hb1 => ?_)
    · skip
      have hF2 := ct hF1 hb1
      refine cw_seq ?_
      refine cw_region ?_
      refine sq 4 rfl rfl (Y_assign (v := .int .i64 2) rfl rfl) ?_
      refine rw_nil ?_
      refine cw_ret ?_
      obtain ⟨rfl, rfl, rfl⟩ := pr3 (some_inj hF2)
      exact ret1 Try.results166 (v1 := .int .i64 2) (resAt_tmp rfl) ⟨rfl, rfl, rfl, (ST.subR (R' := []) (hS3.sel [0, 1] rfl rfl) (fun _ h => by cases h))⟩
    · skip
      have hF3 := cf' hF1 hb1
      refine cw_skip ?_
      refine cw_seq ?_
      refine cw_region ?_
      refine sq 17 rfl rfl (Y_loadA (B := some ⟨b, 0, none⟩) (i := 0) (cs := [.int .i64 r_.g.Nodes, .slice B r_.g.Edges.length c, .int .i64 r_.c.Qubits, .slice B1 r_.c.Gates.length c1, .slice B2 r_.place.length c2, .slice B3 r_.done.length c3]) (vs := [.int .i64 r_.g.Nodes, .slice B r_.g.Edges.length c, .int .i64 r_.c.Qubits, .slice B1 r_.c.Gates.length c1, .slice B2 r_.place.length c2, .slice B3 r_.done.length c3]) k_ag_201 k_sz_201_6 rfl rfl (hS3.cf (i := 2) rfl) rfl rfl) ?_
      refine sq 18 rfl rfl (Y_fieldAddr (B := some ⟨b1, 0, none⟩) (i := 0) (s := 0) k_fd_211_1_1_3 k_sz_3_1 rfl rfl) ?_
      refine sq 19 rfl rfl (Y_load1 (B := some ⟨b1, 0, none⟩) (i := 1) (cs := [.int .i64 s.Gate, .int .i64 s.A, .int .i64 s.B]) (v := .int .i64 s.A) k_sc_3 rfl rfl (hS3.cf (i := 3) rfl) rfl) ?_
      refine sq 20 rfl rfl (Y_fieldAddr (B := some ⟨b1, 0, none⟩) (i := 0) (s := 0) k_fd_211_2_2_3 k_sz_3_1 rfl rfl) ?_
      refine sq 21 rfl rfl (Y_load1 (B := some ⟨b1, 0, none⟩) (i := 2) (cs := [.int .i64 s.Gate, .int .i64 s.A, .int .i64 s.B]) (v := .int .i64 s.B) k_sc_3 rfl rfl (hS3.cf (i := 3) rfl) rfl) ?_
      obtain ⟨m2, hc1, hF3⟩ := bind_inv hF3
      refine sc 22 rfl rfl (Yc_func (g := 252) (vs := [.agg #[.int .i64 r_.g.Nodes, .slice B r_.g.Edges.length c, .int .i64 r_.c.Qubits, .slice B1 r_.c.Gates.length c1, .slice B2 r_.place.length c2, .slice B3 r_.done.length c3], .int .i64 s.A, .int .i64 s.B]) k_call_252 rfl (mc rfl (mc rfl (mc rfl mn))) (c_impl_routing_swap r_ s.A s.B B c r_.g.Edges.length B1 c1 r_.c.Gates.length B2 c2 r_.place.length B3 c3 r_.done.length _ rfl rfl rfl rfl (hS3.inn [true, false, false, false] rfl [(true, 0), (true, 1), (false, 0)] rfl) hc1)) ?_
      rintro _ w_3 ⟨rfl, hl, hd1⟩
      have hS4 := hS3.out [true, false, false, false] rfl hd1
      have hS4 : ST w0 (bl [⟨B2, 3, (r_.place.flatMap encI), c2 * 1⟩, ⟨B3, 4, (r_.done.flatMap encB), c3 * 1⟩]) _ [⟨B3, 4, (r_.done.flatMap encB), c3 * 1⟩, ⟨some ⟨b, 0, none⟩, 201, [.int .i64 r_.g.Nodes, .slice B r_.g.Edges.length c, .int .i64 r_.c.Qubits, .slice B1 r_.c.Gates.length c1, .slice B2 r_.place.length c2, .slice B3 r_.done.length c3], 6⟩, ⟨some ⟨b1, 0, none⟩, 211, [.int .i64 s.Gate, .int .i64 s.A, .int .i64 s.B], 3⟩, ⟨B2, 3, (m2.flatMap encI), c2 * 1⟩] [⟨B, (r_.g.Edges.flatMap enc_Edge)⟩, ⟨B1, (r_.c.Gates.flatMap enc_Gate)⟩] := hS4
      refine rw_nil ?_
      refine cw_seq ?_
      refine cw_region ?_
      refine sq 4 rfl rfl (Y_assign (v := .int .i64 0) rfl rfl) ?_
      refine rw_nil ?_
      refine cw_ret ?_
      obtain ⟨rfl, rfl, rfl⟩ := pr3 (some_inj hF3)
      exact ret1 Try.results166 (v1 := .int .i64 0) (resAt_tmp rfl) ⟨rfl, hl, rfl, (ST.subR (R' := []) (hS4.sel [3, 0] rfl rfl) (fun _ h => by cases h))⟩
  · skip
    have hF4 := cf' hF hb
    refine cw_seq ?_
    refine cw_region ?_
    refine sq 24 rfl rfl (Y_fieldAddr (B := some ⟨b1, 0, none⟩) (i := 0) (s := 0) k_fd_211_1_1_3 k_sz_3_1 rfl rfl) ?_
    refine sq 25 rfl rfl (Y_load1 (B := some ⟨b1, 0, none⟩) (i := 1) (cs := [.int .i64 s.Gate, .int .i64 s.A, .int .i64 s.B]) (v := .int .i64 s.A) k_sc_3 rfl rfl (hS2.cf (i := 3) rfl) rfl) ?_
    refine sq 26 rfl rfl (Y_ne (k := .i64) (a := s.A) (b := 0) rfl rfl rfl) ?_
    refine sq 27 rfl rfl (Y_move (v := .bool (s.A != 0)) rfl rfl) ?_
    refine sgq 28 (B := (!(s.A != 0))) (v := pt (some ⟨b1, 0, none⟩) 2) rfl rfl (wt_f (gd_of (t := 27) (by kernel_rfl) rfl)) (fun hg => (Y_fieldAddr (B := some ⟨b1, 0, none⟩) (i := 0) (s := 0) k_fd_211_2_2_3 k_sz_3_1 rfl rfl)) ?_
    refine sgq 29 (B := (!(s.A != 0))) (v := .int .i64 s.B) rfl rfl (wt_f (gd_of (t := 27) (by kernel_rfl) rfl)) (fun hg1 => (Y_load1 (B := some ⟨b1, 0, none⟩) (i := 2) (cs := [.int .i64 s.Gate, .int .i64 s.A, .int .i64 s.B]) (v := .int .i64 s.B) k_sc_3 rfl (gv_of (B := (!(s.A != 0))) (v := pt (some ⟨b1, 0, none⟩) 2) hg1) (hS2.cf (i := 3) rfl) rfl)) ?_
    refine sgq 30 (B := (!(s.A != 0))) (v := .bool (s.B != 0)) rfl rfl (wt_f (gd_of (t := 27) (by kernel_rfl) rfl)) (fun hg2 => (Y_ne (k := .i64) (a := s.B) (b := 0) rfl (gv_of (B := (!(s.A != 0))) (v := .int .i64 s.B) hg2) rfl)) ?_
    refine sq 31 rfl rfl (Y_or (b := (s.A != 0)) (z := (s.B != 0)) rfl rfl rfl rfl) ?_
    refine sq 32 rfl rfl (Y_move (v := .bool ((s.A != 0) || (s.B != 0))) rfl rfl) ?_
    refine sgq 33 (B := (!((s.A != 0) || (s.B != 0)))) (v := .agg #[.int .i64 r_.g.Nodes, .slice B r_.g.Edges.length c, .int .i64 r_.c.Qubits, .slice B1 r_.c.Gates.length c1, .slice B2 r_.place.length c2, .slice B3 r_.done.length c3]) rfl rfl (wt_f (gd_of (t := 32) (by kernel_rfl) rfl)) (fun hg3 => (Y_loadA (B := some ⟨b, 0, none⟩) (i := 0) (cs := [.int .i64 r_.g.Nodes, .slice B r_.g.Edges.length c, .int .i64 r_.c.Qubits, .slice B1 r_.c.Gates.length c1, .slice B2 r_.place.length c2, .slice B3 r_.done.length c3]) (vs := [.int .i64 r_.g.Nodes, .slice B r_.g.Edges.length c, .int .i64 r_.c.Qubits, .slice B1 r_.c.Gates.length c1, .slice B2 r_.place.length c2, .slice B3 r_.done.length c3]) k_ag_201 k_sz_201_6 rfl rfl (hS2.cf (i := 2) rfl) rfl rfl)) ?_
    refine sgq 34 (B := (!((s.A != 0) || (s.B != 0)))) (v := pt (some ⟨b1, 0, none⟩) 0) rfl rfl (wt_f (gd_of (t := 32) (by kernel_rfl) rfl)) (fun hg4 => (Y_fieldAddr (B := some ⟨b1, 0, none⟩) (i := 0) (s := 0) k_fd_211_0_0_3 k_sz_3_1 rfl rfl)) ?_
    refine sgq 35 (B := (!((s.A != 0) || (s.B != 0)))) (v := .int .i64 s.Gate) rfl rfl (wt_f (gd_of (t := 32) (by kernel_rfl) rfl)) (fun hg5 => (Y_load1 (B := some ⟨b1, 0, none⟩) (i := 0) (cs := [.int .i64 s.Gate, .int .i64 s.A, .int .i64 s.B]) (v := .int .i64 s.Gate) k_sc_3 rfl (gv_of (B := (!((s.A != 0) || (s.B != 0)))) (v := pt (some ⟨b1, 0, none⟩) 0) hg5) (hS2.cf (i := 3) rfl) rfl)) ?_
    obtain ⟨r_3, hc2, hF4⟩ := bind_inv hF4
    refine sgc 36 (B := (!((s.A != 0) || (s.B != 0)))) (v := .bool r_3) (F := hS2.fn) rfl rfl (wt_f (gd_of (t := 32) (by kernel_rfl) rfl)) hS2 (fun hg6 => (Yc_func (g := 253) (vs := [.agg #[.int .i64 r_.g.Nodes, .slice B r_.g.Edges.length c, .int .i64 r_.c.Qubits, .slice B1 r_.c.Gates.length c1, .slice B2 r_.place.length c2, .slice B3 r_.done.length c3], .int .i64 s.Gate]) k_call_253 rfl (mc (gv_of (B := (!((s.A != 0) || (s.B != 0)))) (v := .agg #[.int .i64 r_.g.Nodes, .slice B r_.g.Edges.length c, .int .i64 r_.c.Qubits, .slice B1 r_.c.Gates.length c1, .slice B2 r_.place.length c2, .slice B3 r_.done.length c3]) hg6) (mc (gv_of (B := (!((s.A != 0) || (s.B != 0)))) (v := .int .i64 s.Gate) hg6) mn)) (CV.mono (c_impl_routing_isReady r_ s.Gate B c r_.g.Edges.length B1 c1 r_.c.Gates.length B2 c2 r_.place.length B3 c3 r_.done.length _ rfl rfl hq rfl rfl (hS2.inn0 [(true, 0), (true, 1), (false, 0), (false, 1)] rfl) (gb_inv hc2 hg6)) (by rintro _ _ ⟨rfl, h⟩; exact ⟨rfl, hS2.out00 h⟩)))) ?_
    rintro w_4 hS5
    have hS5 : ST _ _ w_4 _ _ := hS5
    refine sgq 37 (B := (!((s.A != 0) || (s.B != 0)))) (v := .bool (!r_3)) rfl rfl (wt_f (gd_of (t := 32) (by kernel_rfl) rfl)) (fun hg7 => (Y_not (p := r_3) rfl (gv_of (B := (!((s.A != 0) || (s.B != 0)))) (v := .bool r_3) hg7))) ?_
    refine sq 38 rfl rfl (Y_or (b := ((s.A != 0) || (s.B != 0))) (z := (!r_3)) rfl rfl rfl rfl) ?_
    refine sq 23 rfl rfl (Y_assign (v := .bool (((s.A != 0) || (s.B != 0)) || (!r_3))) rfl rfl) ?_
    refine rw_nil ?_
    refine cw_cond (b := (((s.A != 0) || (s.B != 0)) || (!r_3))) rfl (fun hb2 => ?_) (fun hb2 => ?_)
    · skip
      have hF5 := ct hF4 hb2
      refine cw_seq ?_
      refine cw_region ?_
      refine sq 4 rfl rfl (Y_assign (v := .int .i64 3) rfl rfl) ?_
      refine rw_nil ?_
      refine cw_ret ?_
      obtain ⟨rfl, rfl, rfl⟩ := pr3 (some_inj hF5)
      exact ret1 Try.results166 (v1 := .int .i64 3) (resAt_tmp rfl) ⟨rfl, rfl, rfl, (ST.subR (R' := []) (hS5.sel [0, 1] rfl rfl) (fun _ h => by cases h))⟩
    · skip
      have hF6 := cf' hF4 hb2
      refine cw_seq ?_
      refine cw_region ?_
      refine sq 40 rfl rfl (Y_loadA (B := some ⟨b, 0, none⟩) (i := 0) (cs := [.int .i64 r_.g.Nodes, .slice B r_.g.Edges.length c, .int .i64 r_.c.Qubits, .slice B1 r_.c.Gates.length c1, .slice B2 r_.place.length c2, .slice B3 r_.done.length c3]) (vs := [.int .i64 r_.g.Nodes, .slice B r_.g.Edges.length c, .int .i64 r_.c.Qubits, .slice B1 r_.c.Gates.length c1, .slice B2 r_.place.length c2, .slice B3 r_.done.length c3]) k_ag_201 k_sz_201_6 rfl rfl (hS5.cf (i := 2) rfl) rfl rfl) ?_
      refine sq 41 rfl rfl (Y_fieldAddr (B := some ⟨b1, 0, none⟩) (i := 0) (s := 0) k_fd_211_0_0_3 k_sz_3_1 rfl rfl) ?_
      refine sq 42 rfl rfl (Y_load1 (B := some ⟨b1, 0, none⟩) (i := 0) (cs := [.int .i64 s.Gate, .int .i64 s.A, .int .i64 s.B]) (v := .int .i64 s.Gate) k_sc_3 rfl rfl (hS5.cf (i := 3) rfl) rfl) ?_
      obtain ⟨r_4, hc3, hF6⟩ := bind_inv hF6
      refine sc 43 rfl rfl (Yc_func (g := 254) (vs := [.agg #[.int .i64 r_.g.Nodes, .slice B r_.g.Edges.length c, .int .i64 r_.c.Qubits, .slice B1 r_.c.Gates.length c1, .slice B2 r_.place.length c2, .slice B3 r_.done.length c3], .int .i64 s.Gate]) k_call_254 rfl (mc rfl (mc rfl mn)) (c_impl_routing_fits r_ s.Gate B c r_.g.Edges.length B1 c1 r_.c.Gates.length B2 c2 r_.place.length B3 c3 r_.done.length _ rfl rfl rfl rfl (hS5.inn0 [(true, 0), (true, 1), (false, 0), (false, 1)] rfl) hc3)) ?_
      rintro _ w_5 ⟨rfl, hd2⟩
      have hS6 := hS5.out00 hd2
      have hS6 : ST w0 (bl [⟨B2, 3, (r_.place.flatMap encI), c2 * 1⟩, ⟨B3, 4, (r_.done.flatMap encB), c3 * 1⟩]) _ [⟨B2, 3, (r_.place.flatMap encI), c2 * 1⟩, ⟨B3, 4, (r_.done.flatMap encB), c3 * 1⟩, ⟨some ⟨b, 0, none⟩, 201, [.int .i64 r_.g.Nodes, .slice B r_.g.Edges.length c, .int .i64 r_.c.Qubits, .slice B1 r_.c.Gates.length c1, .slice B2 r_.place.length c2, .slice B3 r_.done.length c3], 6⟩, ⟨some ⟨b1, 0, none⟩, 211, [.int .i64 s.Gate, .int .i64 s.A, .int .i64 s.B], 3⟩] [⟨B, (r_.g.Edges.flatMap enc_Edge)⟩, ⟨B1, (r_.c.Gates.flatMap enc_Gate)⟩] := hS6
      refine sq 44 rfl rfl (Y_not (p := r_4) rfl rfl) ?_
      refine sq 39 rfl rfl (Y_assign (v := .bool (!r_4)) rfl rfl) ?_
      refine rw_nil ?_
      refine cw_cond (b := (!r_4)) rfl (fun hb3 => ?_) (fun hb3 => ?_)
      · skip
        have hF7 := ct hF6 hb3
        refine cw_seq ?_
        refine cw_region ?_
        refine sq 4 rfl rfl (Y_assign (v := .int .i64 4) rfl rfl) ?_
        refine rw_nil ?_
        refine cw_ret ?_
        obtain ⟨rfl, rfl, rfl⟩ := pr3 (some_inj hF7)
        exact ret1 Try.results166 (v1 := .int .i64 4) (resAt_tmp rfl) ⟨rfl, rfl, rfl, (ST.subR (R' := []) (hS6.sel [0, 1] rfl rfl) (fun _ h => by cases h))⟩
      · skip
        have hF8 := cf' hF6 hb3
        refine cw_skip ?_
        refine cw_seq ?_
        refine cw_region ?_
        refine sq 45 rfl rfl (Y_fieldAddr (B := some ⟨b, 0, none⟩) (i := 0) (s := 0) k_fd_201_3_5_199 k_sz_199_1 rfl rfl) ?_
        refine sq 46 rfl rfl (Y_load1 (B := some ⟨b, 0, none⟩) (i := 5) (cs := [.int .i64 r_.g.Nodes, .slice B r_.g.Edges.length c, .int .i64 r_.c.Qubits, .slice B1 r_.c.Gates.length c1, .slice B2 r_.place.length c2, .slice B3 r_.done.length c3]) (v := .slice B3 r_.done.length c3) k_sc_199 rfl rfl (hS6.cf (i := 2) rfl) rfl) ?_
        refine sq 47 rfl rfl (Y_fieldAddr (B := some ⟨b1, 0, none⟩) (i := 0) (s := 0) k_fd_211_0_0_3 k_sz_3_1 rfl rfl) ?_
        refine sq 48 rfl rfl (Y_load1 (B := some ⟨b1, 0, none⟩) (i := 0) (cs := [.int .i64 s.Gate, .int .i64 s.A, .int .i64 s.B]) (v := .int .i64 s.Gate) k_sc_3 rfl rfl (hS6.cf (i := 3) rfl) rfl) ?_
        obtain ⟨x, hx, hF8⟩ := bind_inv hF8
        refine sq 49 rfl rfl (Y_index (B := B3) (m := r_.done.length) (c := c3) (k := .i64) (i := s.Gate) k_sl_199_4 k_sz_4_1 rfl rfl rfl (gi_isSome encB_len rfl (hS6.cf (i := 1) rfl) hx) (getI_nn hx) (getI_ltI hx rfl)) ?_
        refine ss0 rfl rfl (Ys_store (i := 1) (s := 1) (B := B3) (T' := 4) (v := .bool true) (vs := [.bool true]) (k := s.Gate.toNat * 1) (cs' := ((r_.done.set s.Gate.toNat true).flatMap encB)) hS6 k_sz_4_1 rfl rfl rfl rfl rfl rfl rfl (gi_fit0 encB_len hx) (gi_set encB_len hx true rfl) rfl) ?_
        rintro _ w_6 ⟨rfl, hS7⟩
        have hS7 : ST w0 (bl [⟨B2, 3, (r_.place.flatMap encI), c2 * 1⟩, ⟨B3, 4, (r_.done.flatMap encB), c3 * 1⟩]) _ [⟨B2, 3, (r_.place.flatMap encI), c2 * 1⟩, ⟨B3, 4, ((r_.done.set s.Gate.toNat true).flatMap encB), c3 * 1⟩, ⟨some ⟨b, 0, none⟩, 201, [.int .i64 r_.g.Nodes, .slice B r_.g.Edges.length c, .int .i64 r_.c.Qubits, .slice B1 r_.c.Gates.length c1, .slice B2 r_.place.length c2, .slice B3 r_.done.length c3], 6⟩, ⟨some ⟨b1, 0, none⟩, 211, [.int .i64 s.Gate, .int .i64 s.A, .int .i64 s.B], 3⟩] [⟨B, (r_.g.Edges.flatMap enc_Edge)⟩, ⟨B1, (r_.c.Gates.flatMap enc_Gate)⟩] := hS7
        refine rw_nil ?_
        refine cw_seq ?_
        refine cw_region ?_
        refine sq 4 rfl rfl (Y_assign (v := .int .i64 0) rfl rfl) ?_
        refine rw_nil ?_
        refine cw_ret ?_
        obtain ⟨rfl, rfl, rfl⟩ := pr3 (some_inj hF8)
        exact ret1 Try.results166 (v1 := .int .i64 0) (resAt_tmp rfl) ⟨rfl, rfl, (set_len _ _ _ rfl), (ST.subR (R' := []) (hS7.sel [0, 1] rfl rfl) (fun _ h => by cases h))⟩

theorem c_impl_CouplingGraph_isPlacement (g : TCouplingGraph) (n1 : Int) (place : List Int) (B : Option Addr) (c n : Nat) (B1 : Option Addr) (c1 n2 : Nat) (w0 : World) (hn : g.Edges.length = n) (hn1 : place.length = n2) (hq : n2 ≤ c1) (hS : ST w0 [] w0 [] [⟨B, (g.Edges.flatMap enc_Edge)⟩, ⟨B1, (place.flatMap encI)⟩]) {r_ : Bool} (hF : F_impl_CouplingGraph_isPlacement g n1 place = some r_) :
    CV Try.prog 244 #[.agg #[.int .i64 g.Nodes, .slice B n c], .int .i64 n1, .slice B1 n2 c1] w0 (fun v w' => v = .bool r_ ∧ ST w0 [] w' [] []) := by
  subst hn
  subst hn1
  unfold F_impl_CouplingGraph_isPlacement at hF
  refine cv_of_cw 34 Try.func244 rfl Try.ntmps244 rfl ?_
  refine cw_seq ?_
  refine cw_region ?_
  refine ss 3 rfl rfl (Ys_box (T := 100) (v := .agg #[.int .i64 g.Nodes, .slice B g.Edges.length c]) (cs := [.int .i64 g.Nodes, .slice B g.Edges.length c]) (m := 2) hS rfl rfl rfl rfl) ?_
  rintro _ w_ ⟨b, rfl, hS1⟩
  refine sq 6 rfl rfl (Y_assign (v := .bool false) rfl rfl) ?_
  refine rw_nil ?_
  refine cw_seq ?_
  refine cw_seq ?_
  refine cw_region ?_
  refine sq 9 rfl rfl (Y_move (v := .slice B1 place.length c1) rfl rfl) ?_
  refine sq 10 rfl rfl (Y_len (B := B1) (m := place.length) (c := c1) k_sl_59_3 rfl rfl) ?_
  refine sq 11 rfl rfl (Y_move (v := .int .i64 0) rfl rfl) ?_
  refine rw_nil ?_
  obtain ⟨hN, hF⟩ := chk_inv hF
  obtain ⟨z, hz, hF1⟩ := bind_inv hF
  refine cw_block ?_
  refine cw_loop (fun k f w => ∃ (i : Nat), FF f [(1, .int .i64 n1), (2, .slice B1 place.length c1), (3, pt (some ⟨b, 0, none⟩) 0), (9, .slice B1 place.length c1), (10, .int .i64 (place.length : Int)), (11, .int .i64 (i : Int))] ∧ ST w0 [] w [⟨some ⟨b, 0, none⟩, 100, [.int .i64 g.Nodes, .slice B g.Edges.length c], 2⟩] [⟨B, (g.Edges.flatMap enc_Edge)⟩, ⟨B1, (place.flatMap encI)⟩] ∧ i + k = place.length ∧ forX (F_impl_CouplingGraph_isPlacement_l1 place g) k i () = some z) place.length ⟨0, (FF.cons rfl (FF.cons rfl (FF.cons rfl (FF.cons rfl (FF.cons rfl (FF.cons rfl FF.nil)))))), (hS1.sel [0] rfl rfl), Nat.zero_add _, hz⟩ ?_
  rintro k_ f w ⟨i, hf, hS2, hik, hL⟩
  refine cw_seq ?_
  refine cw_region ?_
  refine sq 12 rfl rfl (Y_lt (k := .i64) (a := (i : Int)) (b := (place.length : Int)) rfl (hf.get 11 5 rfl) (hf.get 10 4 rfl)) ?_
  refine rw_nil ?_
  refine cw_seq ?_
  refine cw_cond (b := (decide ((i : Int) < (place.length : Int)))) rfl (fun hlt => ?_) (fun hlt => ?_)
  · skip
    have hlt1 : i < place.length := by have h := of_decide_eq_true hlt; omega
    obtain ⟨k_1, rfl⟩ : ∃ k2, k_ = k2 + 1 := ⟨k_ - 1, by omega⟩
    obtain ⟨y, hb, hL1⟩ := forX_go hL
    unfold F_impl_CouplingGraph_isPlacement_l1 at hb
    refine cw_skip ?_
    refine cw_seq ?_
    refine cw_block ?_
    refine cw_seq ?_
    refine cw_region ?_
    refine sq 13 rfl rfl (Y_move (v := .int .i64 (i : Int)) rfl (hf.get 11 5 rfl)) ?_
    obtain ⟨x, hx, hb⟩ := bind_inv hb
    refine sq 14 rfl rfl (Y_index (B := B1) (m := place.length) (c := c1) (k := .i64) (i := (i : Int)) k_sl_59_3 k_sz_3_1 rfl (hf.get 9 3 rfl) (hf.get 11 5 rfl) (gi_isSome encI_len rfl (hS2.rf (i := 1) rfl) hx) (getI_nn hx) (getI_ltI hx rfl)) ?_
    refine sq 15 rfl rfl (Y_load1 (B := B1) (i := (i : Int).toNat * 1) (cs := (place.flatMap encI)) (v := .int .i64 x) k_sc_3 rfl rfl (hS2.rf (i := 1) rfl) (gi_at0 encI_len hx rfl)) ?_
    refine sq 7 rfl rfl (Y_assign (v := .int .i64 (i : Int)) rfl rfl) ?_
    refine sq 8 rfl rfl (Y_assign (v := .int .i64 x) rfl rfl) ?_
    refine rw_nil ?_
    refine cw_seq ?_
    refine cw_region ?_
    refine sq 16 rfl rfl (Y_move (v := .int .i64 x) rfl rfl) ?_
    refine sq 17 rfl rfl (Y_fieldAddr (B := some ⟨b, 0, none⟩) (i := 0) (s := 0) k_fd_100_0_0_3 k_sz_3_1 rfl (hf.get 3 2 rfl)) ?_
    refine sq 18 rfl rfl (Y_load1 (B := some ⟨b, 0, none⟩) (i := 0) (cs := [.int .i64 g.Nodes, .slice B g.Edges.length c]) (v := .int .i64 g.Nodes) k_sc_3 rfl rfl (hS2.cf (i := 0) rfl) rfl) ?_
    refine sq 19 rfl rfl (Y_sub (k := .i64) (a := g.Nodes) (b := 1) rfl rfl rfl) ?_
    obtain ⟨r_1, hc, hb⟩ := bind_inv hb
    refine sc 20 rfl rfl (Yc_func (g := 130) (vs := [.int .i64 x, .int .i64 0, .int .i64 (IntKind.i64.wrap (g.Nodes - 1))]) k_call_130 rfl (mc rfl (mc rfl (mc rfl mn))) (c_impl_within x 0 (IntKind.i64.wrap (g.Nodes - 1)) _  (hS2.inn0 [] rfl) hc)) ?_
    rintro _ w_1 ⟨rfl, hd⟩
    have hS3 := hS2.out00 hd
    refine sq 21 rfl rfl (Y_not (p := r_1) rfl rfl) ?_
    refine sq 22 rfl rfl (Y_move (v := .bool (!r_1)) rfl rfl) ?_
    refine sgq 23 (B := (!(!r_1))) (v := .slice B1 place.length c1) rfl rfl (wt_f (gd_of (t := 22) (by kernel_rfl) rfl)) (fun hg => (Y_move (v := .slice B1 place.length c1) rfl (hf.get 2 1 rfl))) ?_
    refine sgq 24 (B := (!(!r_1))) (v := .int .i64 (i : Int)) rfl rfl (wt_f (gd_of (t := 22) (by kernel_rfl) rfl)) (fun hg1 => (Y_move (v := .int .i64 (i : Int)) rfl rfl)) ?_
    refine rw_split (B := (!(!r_1))) (fun hb1 => ?_) (fun hb1 => ?_)
    · skip
      have hF2 := ct hb hb1
      obtain ⟨hsl, hF2⟩ := chk_inv hF2
      have hcap : place.length ≤ c1 := hq
      have hv : (List.take i place).length = i := (take_len rfl (by omega))
      have hq1 : i ≤ c1 := by omega
      have ho : Org w0 [] [⟨B, (g.Edges.flatMap enc_Edge)⟩, ⟨B1, (place.flatMap encI)⟩] [⟨B1, ((List.take i place).flatMap encI)⟩] := org_view encI_len (q := c1) (org_mem (i := 1) rfl) (sv_zero _ _ _).symm rfl
      have hS4 : ST w0 [] _ [⟨some ⟨b, 0, none⟩, 100, [.int .i64 g.Nodes, .slice B g.Edges.length c], 2⟩] [⟨B1, ((List.take i place).flatMap encI)⟩, ⟨B, (g.Edges.flatMap enc_Edge)⟩, ⟨B1, (place.flatMap encI)⟩] := ST.view encI_len hS3 (i := 1) rfl (lo := 0) (h := i) (q := c1) (by omega) (by omega) (sv_zero _ _ _).symm rfl
      refine sqg 25 rfl rfl (wt_f (gd_of (t := 22) (by kernel_rfl) rfl)) hb1 (Y_slice0 (B := B1) (m := place.length) (c := c1) (h := i) (s := 1) k_sl_59_3 k_sz_3_1 rfl (gv_of (B := (!(!r_1))) (v := .slice B1 place.length c1) hb1) (bnd_some (gv_of (B := (!(!r_1))) (v := .int .i64 (i : Int)) hb1) rfl) (by omega)) ?_
      refine sqg 26 rfl rfl (wt_f (gd_of (t := 22) (by kernel_rfl) rfl)) hb1 (Y_move (v := .int .i64 x) rfl rfl) ?_
      obtain ⟨r_2, hc1, hF2⟩ := bind_inv hF2
      refine scg 27 rfl rfl (wt_f (gd_of (t := 22) (by kernel_rfl) rfl)) hb1 (Yc_func (g := 316) (vs := [.slice B1 i c1, .int .i64 x]) k_call_316 rfl (mc rfl (mc rfl mn)) (c_slices_Contains_int_int (List.take i place) x B1 c1 i _ hv (hS4.inn0 [(true, 0)] rfl) hc1)) ?_
      rintro _ w_2 ⟨rfl, hd1⟩
      have hS5 := hS4.out00 hd1
      refine sq 28 rfl rfl (Y_pickF (b := (!r_1)) (v := .bool r_2) rfl rfl (nt hb1) rfl) ?_
      refine rw_nil ?_
      refine cw_cond (b := r_2) rfl (fun hb2 => ?_) (fun hb2 => ?_)
      · skip
        have hF3 := ct hF2 hb2
        refine cw_seq ?_
        refine cw_region ?_
        refine sq 6 rfl rfl (Y_assign (v := .bool false) rfl rfl) ?_
        refine rw_nil ?_
        refine cw_ret ?_
        obtain rfl := some_inj hF3
        obtain rfl := some_inj hL1
        obtain rfl := some_inj hF1
        exact ret1 Try.results244 (v1 := .bool false) (resAt_tmp rfl) ⟨rfl, (ST.subR (R' := []) (hS5.sel [] rfl rfl) (fun _ h => by cases h))⟩
      · skip
        have hF4 := cf' hF2 hb2
        refine cw_skip ?_
        refine cw_region ?_
        refine sq 29 rfl rfl (Y_add (k := .i64) (a := (i : Int)) (b := 1) rfl (hf.get 11 5 rfl) rfl) ?_
        refine sq 11 rfl rfl (Y_move (v := .int .i64 (IntKind.i64.wrap ((i : Int) + 1))) rfl rfl) ?_
        refine rw_nil ?_
        obtain rfl := some_inj hF4
        have hS6 := ST.subR hS5 (R' := [⟨B, (g.Edges.flatMap enc_Edge)⟩, ⟨B1, (place.flatMap encI)⟩]) (subc (mem_at (i := 1) rfl) (subc (mem_at (i := 2) rfl) (fun _ h => by cases h)))
        exact ⟨k_1, Nat.lt_succ_self _, i + 1, (FF.cons (hf.get 1 0 rfl) (FF.cons (hf.get 2 1 rfl) (FF.cons (hf.get 3 2 rfl) (FF.cons (hf.get 9 3 rfl) (FF.cons (hf.get 10 4 rfl) (FF.cons (congrArg (Value.int .i64) (wr_succ hlt1 hN)) FF.nil)))))), (hS6.sel [0] rfl rfl), (by omega), hL1⟩
    · skip
      have hF5 := cf' hb hb1
      refine sgn 25 rfl rfl (wt_f (gd_of (t := 22) (by kernel_rfl) rfl)) hb1 ?_
      refine sgn 26 rfl rfl (wt_f (gd_of (t := 22) (by kernel_rfl) rfl)) hb1 ?_
      refine sgn 27 rfl rfl (wt_f (gd_of (t := 22) (by kernel_rfl) rfl)) hb1 ?_
      refine sq 28 rfl rfl (Y_pickT (b := (!r_1)) (v := .bool true) rfl rfl (nf hb1) rfl) ?_
      refine rw_nil ?_
      refine cw_cond (b := true) rfl (fun _ => ?_) (fun h => by cases h)
      refine cw_seq ?_
      refine cw_region ?_
      refine sq 6 rfl rfl (Y_assign (v := .bool false) rfl rfl) ?_
      refine rw_nil ?_
      refine cw_ret ?_
      obtain rfl := some_inj hF5
      obtain rfl := some_inj hL1
      obtain rfl := some_inj hF1
      exact ret1 Try.results244 (v1 := .bool false) (resAt_tmp rfl) ⟨rfl, (ST.subR (R' := []) (hS3.sel [] rfl rfl) (fun _ h => by cases h))⟩
  · skip
    obtain rfl : k_ = 0 := by have h := of_decide_eq_false hlt; omega
    refine cw_exit rfl ?_
    obtain rfl := some_inj hL
    refine cw_seq ?_
    refine cw_region ?_
    refine sq 30 rfl rfl (Y_move (v := .slice B1 place.length c1) rfl (hf.get 2 1 rfl)) ?_
    refine sq 31 rfl rfl (Y_len (B := B1) (m := place.length) (c := c1) k_sl_59_3 rfl rfl) ?_
    refine sq 32 rfl rfl (Y_move (v := .int .i64 n1) rfl (hf.get 1 0 rfl)) ?_
    refine sq 33 rfl rfl (Y_eq (k := .i64) (a := (place.length : Int)) (b := n1) rfl rfl rfl) ?_
    refine sq 6 rfl rfl (Y_assign (v := .bool ((place.length : Int) == n1)) rfl rfl) ?_
    refine rw_nil ?_
    refine cw_ret ?_
    obtain rfl := some_inj hF1
    exact ret1 Try.results244 (v1 := .bool ((place.length : Int) == n1)) (resAt_tmp rfl) ⟨rfl, (ST.subR (R' := []) (hS2.sel [] rfl rfl) (fun _ h => by cases h))⟩

theorem c_slices_Index_bool_bool (s : List Bool) (v_ : Bool) (B : Option Addr) (c n : Nat) (w0 : World) (hn : s.length = n) (hS : ST w0 [] w0 [] [⟨B, (s.flatMap encB)⟩]) {r_ : Int} (hF : F_slices_Index_bool_bool s v_ = some r_) :
    CV Try.prog 317 #[.slice B n c, .bool v_] w0 (fun v w' => v = .int .i64 r_ ∧ ST w0 [] w' [] []) := by
  subst hn
  unfold F_slices_Index_bool_bool at hF
  refine cv_of_cw 19 Try.func317 rfl Try.ntmps317 rfl ?_
  refine cw_seq ?_
  refine cw_region ?_
  refine sq 4 rfl rfl (Y_assign (v := .int .i64 0) rfl rfl) ?_
  refine rw_nil ?_
  refine cw_seq ?_
  refine cw_seq ?_
  refine cw_region ?_
  refine sq 6 rfl rfl (Y_move (v := .slice B s.length c) rfl rfl) ?_
  refine sq 7 rfl rfl (Y_len (B := B) (m := s.length) (c := c) k_sl_199_4 rfl rfl) ?_
  refine sq 8 rfl rfl (Y_move (v := .int .i64 0) rfl rfl) ?_
  refine rw_nil ?_
  obtain ⟨hN, hF⟩ := chk_inv hF
  obtain ⟨z, hz, hF1⟩ := bind_inv hF
  refine cw_block ?_
  refine cw_loop (fun k f w => ∃ (i : Nat), FF f [(0, .slice B s.length c), (1, .bool v_), (7, .int .i64 (s.length : Int)), (8, .int .i64 (i : Int))] ∧ ST w0 [] w [] [⟨B, (s.flatMap encB)⟩] ∧ i + k = s.length ∧ forX (F_slices_Index_bool_bool_l1 s v_) k i () = some z) s.length ⟨0, (FF.cons rfl (FF.cons rfl (FF.cons rfl (FF.cons rfl FF.nil)))), (hS.sel [] rfl rfl), Nat.zero_add _, hz⟩ ?_
  rintro k_ f w ⟨i, hf, hS1, hik, hL⟩
  refine cw_seq ?_
  refine cw_region ?_
  refine sq 9 rfl rfl (Y_lt (k := .i64) (a := (i : Int)) (b := (s.length : Int)) rfl (hf.get 8 3 rfl) (hf.get 7 2 rfl)) ?_
  refine rw_nil ?_
  refine cw_seq ?_
  refine cw_cond (b := (decide ((i : Int) < (s.length : Int)))) rfl (fun hlt => ?_) (fun hlt => ?_)
  · skip
    have hlt1 : i < s.length := by have h := of_decide_eq_true hlt; omega
    obtain ⟨k_1, rfl⟩ : ∃ k2, k_ = k2 + 1 := ⟨k_ - 1, by omega⟩
    obtain ⟨y, hb, hL1⟩ := forX_go hL
    unfold F_slices_Index_bool_bool_l1 at hb
    refine cw_skip ?_
    refine cw_seq ?_
    refine cw_block ?_
    refine cw_seq ?_
    refine cw_region ?_
    refine sq 10 rfl rfl (Y_move (v := .int .i64 (i : Int)) rfl (hf.get 8 3 rfl)) ?_
    refine sq 5 rfl rfl (Y_assign (v := .int .i64 (i : Int)) rfl rfl) ?_
    refine rw_nil ?_
    refine cw_seq ?_
    refine cw_region ?_
    refine sq 11 rfl rfl (Y_move (v := .bool v_) rfl (hf.get 1 1 rfl)) ?_
    refine sq 12 rfl rfl (Y_move (v := .slice B s.length c) rfl (hf.get 0 0 rfl)) ?_
    refine sq 13 rfl rfl (Y_move (v := .int .i64 (i : Int)) rfl rfl) ?_
    obtain ⟨x, hx, hb⟩ := bind_inv hb
    refine sq 14 rfl rfl (Y_index (B := B) (m := s.length) (c := c) (k := .i64) (i := (i : Int)) k_sl_199_4 k_sz_4_1 rfl rfl rfl (gi_isSome encB_len rfl (hS1.rf (i := 0) rfl) hx) (getI_nn hx) (getI_ltI hx rfl)) ?_
    refine sq 15 rfl rfl (Y_load1 (B := B) (i := (i : Int).toNat * 1) (cs := (s.flatMap encB)) (v := .bool x) k_sc_4 rfl rfl (hS1.rf (i := 0) rfl) (gi_at0 encB_len hx rfl)) ?_
    refine sq 16 rfl rfl (Y_beq (p := v_) (q := x) k_und_4 rfl rfl rfl) ?_
    refine rw_nil ?_
    refine cw_cond (b := (v_ == x)) rfl (fun hb1 => ?_) (fun hb1 => ?_)
    · skip
      have hF2 := ct hb hb1
      refine cw_seq ?_
      refine cw_region ?_
      refine sq 17 rfl rfl (Y_move (v := .int .i64 (i : Int)) rfl rfl) ?_
      refine sq 4 rfl rfl (Y_assign (v := .int .i64 (i : Int)) rfl rfl) ?_
      refine rw_nil ?_
      refine cw_ret ?_
      obtain rfl := some_inj hF2
      obtain rfl := some_inj hL1
      obtain rfl := some_inj hF1
      exact ret1 Try.results317 (v1 := .int .i64 (i : Int)) (resAt_tmp rfl) ⟨rfl, (ST.subR (R' := []) (hS1.sel [] rfl rfl) (fun _ h => by cases h))⟩
    · skip
      have hF3 := cf' hb hb1
      refine cw_skip ?_
      refine cw_region ?_
      refine sq 18 rfl rfl (Y_add (k := .i64) (a := (i : Int)) (b := 1) rfl (hf.get 8 3 rfl) rfl) ?_
      refine sq 8 rfl rfl (Y_move (v := .int .i64 (IntKind.i64.wrap ((i : Int) + 1))) rfl rfl) ?_
      refine rw_nil ?_
      obtain rfl := some_inj hF3
      exact ⟨k_1, Nat.lt_succ_self _, i + 1, (FF.cons (hf.get 0 0 rfl) (FF.cons (hf.get 1 1 rfl) (FF.cons (hf.get 7 2 rfl) (FF.cons (congrArg (Value.int .i64) (wr_succ hlt1 hN)) FF.nil)))), (hS1.sel [] rfl rfl), (by omega), hL1⟩
  · skip
    obtain rfl : k_ = 0 := by have h := of_decide_eq_false hlt; omega
    refine cw_exit rfl ?_
    obtain rfl := some_inj hL
    refine cw_seq ?_
    refine cw_region ?_
    refine sq 4 rfl rfl (Y_assign (v := .int .i64 (-1)) rfl rfl) ?_
    refine rw_nil ?_
    refine cw_ret ?_
    obtain rfl := some_inj hF1
    exact ret1 Try.results317 (v1 := .int .i64 (-1)) (resAt_tmp rfl) ⟨rfl, (ST.subR (R' := []) (hS1.sel [] rfl rfl) (fun _ h => by cases h))⟩

theorem c_slices_Contains_bool_bool (s : List Bool) (v_ : Bool) (B : Option Addr) (c n : Nat) (w0 : World) (hn : s.length = n) (hS : ST w0 [] w0 [] [⟨B, (s.flatMap encB)⟩]) {r_ : Bool} (hF : F_slices_Contains_bool_bool s v_ = some r_) :
    CV Try.prog 245 #[.slice B n c, .bool v_] w0 (fun v w' => v = .bool r_ ∧ ST w0 [] w' [] []) := by
  subst hn
  unfold F_slices_Contains_bool_bool at hF
  refine cv_of_cw 9 Try.func245 rfl Try.ntmps245 rfl ?_
  refine cw_seq ?_
  refine cw_region ?_
  refine sq 4 rfl rfl (Y_assign (v := .bool false) rfl rfl) ?_
  refine rw_nil ?_
  refine cw_seq ?_
  refine cw_region ?_
  refine sq 5 rfl rfl (Y_move (v := .slice B s.length c) rfl rfl) ?_
  refine sq 6 rfl rfl (Y_move (v := .bool v_) rfl rfl) ?_
  obtain ⟨r_1, hc, hF⟩ := bind_inv hF
  refine sc 7 rfl rfl (Yc_func (g := 317) (vs := [.slice B s.length c, .bool v_]) k_call_317 rfl (mc rfl (mc rfl mn)) (c_slices_Index_bool_bool s v_ B c s.length _ rfl (hS.inn0 [(true, 0)] rfl) hc)) ?_
  rintro _ w_ ⟨rfl, hd⟩
  have hS1 := hS.out00 hd
  refine sq 8 rfl rfl (Y_ge (k := .i64) (a := r_1) (b := 0) rfl rfl rfl) ?_
  refine sq 4 rfl rfl (Y_assign (v := .bool (decide (0 ≤ r_1))) rfl rfl) ?_
  refine rw_nil ?_
  refine cw_ret ?_
  obtain rfl := some_inj hF
  exact ret1 Try.results245 (v1 := .bool (decide (0 ≤ r_1))) (resAt_tmp rfl) ⟨rfl, (ST.subR (R' := []) (hS1.sel [] rfl rfl) (fun _ h => by cases h))⟩

theorem c_impl_check (g : TCouplingGraph) (c1 : TCircuit) (route : TRoute) (B : Option Addr) (c n : Nat) (B1 : Option Addr) (c2 n1 : Nat) (B2 : Option Addr) (c3 n2 : Nat) (B3 : Option Addr) (c4 n3 : Nat) (w0 : World) (hn : g.Edges.length = n) (hq : n ≤ c) (hn1 : c1.Gates.length = n1) (hq1 : n1 ≤ c2) (hn2 : route.Start.length = n2) (hq2 : n2 ≤ c3) (hn3 : route.Steps.length = n3) (hS : ST w0 [] w0 [] [⟨B, (g.Edges.flatMap enc_Edge)⟩, ⟨B1, (c1.Gates.flatMap enc_Gate)⟩, ⟨B2, (route.Start.flatMap encI)⟩, ⟨B3, (route.Steps.flatMap enc_RouteStep)⟩]) {r_ : Int} {r_1 : Int} {r_2 : Trouting} (hF : F_impl_check g c1 route = some (r_, r_1, r_2)) :
    CV Try.prog 155 #[.agg #[.int .i64 g.Nodes, .slice B n c], .agg #[.int .i64 c1.Qubits, .slice B1 n1 c2], .agg #[.slice B2 n2 c3, .slice B3 n3 c4]] w0 (fun v w' => ∃ (B4 : Option Addr) (c5 : Nat) (B5 : Option Addr) (c6 : Nat) (B6 : Option Addr) (c7 : Nat) (B7 : Option Addr) (c8 : Nat), v = .tuple #[.int .i64 r_, .int .i64 r_1, .agg #[.int .i64 r_2.g.Nodes, .slice B4 r_2.g.Edges.length c5, .int .i64 r_2.c.Qubits, .slice B5 r_2.c.Gates.length c6, .slice B6 r_2.place.length c7, .slice B7 r_2.done.length c8]] ∧ r_2.g.Edges.length ≤ c5 ∧ r_2.c.Gates.length ≤ c6 ∧ Org w0 [] [⟨B, (g.Edges.flatMap enc_Edge)⟩, ⟨B1, (c1.Gates.flatMap enc_Gate)⟩, ⟨B2, (route.Start.flatMap encI)⟩, ⟨B3, (route.Steps.flatMap enc_RouteStep)⟩] [⟨B4, (r_2.g.Edges.flatMap enc_Edge)⟩, ⟨B5, (r_2.c.Gates.flatMap enc_Gate)⟩] ∧ ST w0 [] w' [⟨B6, 3, (r_2.place.flatMap encI), c7 * 1⟩, ⟨B7, 4, (r_2.done.flatMap encB), c8 * 1⟩] [⟨B4, (r_2.g.Edges.flatMap enc_Edge)⟩, ⟨B5, (r_2.c.Gates.flatMap enc_Gate)⟩]) := by
  subst hn
  subst hn1
  subst hn2
  subst hn3
  unfold F_impl_check at hF
  refine cv_of_cw 51 Try.func155 rfl Try.ntmps155 rfl ?_
  refine cw_seq ?_
  refine cw_region ?_
  refine ss 3 rfl rfl (Ys_box (T := 100) (v := .agg #[.int .i64 g.Nodes, .slice B g.Edges.length c]) (cs := [.int .i64 g.Nodes, .slice B g.Edges.length c]) (m := 2) hS rfl rfl rfl rfl) ?_
  rintro _ w_ ⟨b, rfl, hS1⟩
  refine ss 4 rfl rfl (Ys_box (T := 104) (v := .agg #[.int .i64 c1.Qubits, .slice B1 c1.Gates.length c2]) (cs := [.int .i64 c1.Qubits, .slice B1 c1.Gates.length c2]) (m := 2) hS1 rfl rfl rfl rfl) ?_
  rintro _ w_1 ⟨b1, rfl, hS2⟩
  have hS2 : ST w0 [] _ [⟨some ⟨b, 0, none⟩, 100, [.int .i64 g.Nodes, .slice B g.Edges.length c], 2⟩, ⟨some ⟨b1, 0, none⟩, 104, [.int .i64 c1.Qubits, .slice B1 c1.Gates.length c2], 2⟩] [⟨B, (g.Edges.flatMap enc_Edge)⟩, ⟨B1, (c1.Gates.flatMap enc_Gate)⟩, ⟨B2, (route.Start.flatMap encI)⟩, ⟨B3, (route.Steps.flatMap enc_RouteStep)⟩] := hS2
  refine ss 5 rfl rfl (Ys_box (T := 108) (v := .agg #[.slice B2 route.Start.length c3, .slice B3 route.Steps.length c4]) (cs := [.slice B2 route.Start.length c3, .slice B3 route.Steps.length c4]) (m := 2) hS2 rfl rfl rfl rfl) ?_
  rintro _ w_2 ⟨b2, rfl, hS3⟩
  have hS3 : ST w0 [] _ [⟨some ⟨b, 0, none⟩, 100, [.int .i64 g.Nodes, .slice B g.Edges.length c], 2⟩, ⟨some ⟨b1, 0, none⟩, 104, [.int .i64 c1.Qubits, .slice B1 c1.Gates.length c2], 2⟩, ⟨some ⟨b2, 0, none⟩, 108, [.slice B2 route.Start.length c3, .slice B3 route.Steps.length c4], 2⟩] [⟨B, (g.Edges.flatMap enc_Edge)⟩, ⟨B1, (c1.Gates.flatMap enc_Gate)⟩, ⟨B2, (route.Start.flatMap encI)⟩, ⟨B3, (route.Steps.flatMap enc_RouteStep)⟩] := hS3
  refine sq 6 rfl rfl (Y_assign (v := .int .i64 0) rfl rfl) ?_
  refine sq 7 rfl rfl (Y_assign (v := .int .i64 0) rfl rfl) ?_
  refine ss 8 rfl rfl (Ys_alloc (T := 201) (cs := [.int .i64 0, .slice none 0 0, .int .i64 0, .slice none 0 0, .slice none 0 0, .slice none 0 0]) (m := 6) hS3 k_zero_201 rfl rfl rfl) ?_
  rintro _ w_3 ⟨b3, rfl, hS4⟩
  have hS4 : ST w0 [] _ [⟨some ⟨b, 0, none⟩, 100, [.int .i64 g.Nodes, .slice B g.Edges.length c], 2⟩, ⟨some ⟨b1, 0, none⟩, 104, [.int .i64 c1.Qubits, .slice B1 c1.Gates.length c2], 2⟩, ⟨some ⟨b2, 0, none⟩, 108, [.slice B2 route.Start.length c3, .slice B3 route.Steps.length c4], 2⟩, ⟨some ⟨b3, 0, none⟩, 201, [.int .i64 0, .slice none 0 0, .int .i64 0, .slice none 0 0, .slice none 0 0, .slice none 0 0], 6⟩] [⟨B, (g.Edges.flatMap enc_Edge)⟩, ⟨B1, (c1.Gates.flatMap enc_Gate)⟩, ⟨B2, (route.Start.flatMap encI)⟩, ⟨B3, (route.Steps.flatMap enc_RouteStep)⟩] := hS4
  refine rw_nil ?_
  refine cw_seq ?_
  refine cw_seq ?_
  refine cw_region ?_
  refine sq 13 rfl rfl (Y_loadA (B := some ⟨b, 0, none⟩) (i := 0) (cs := [.int .i64 g.Nodes, .slice B g.Edges.length c]) (vs := [.int .i64 g.Nodes, .slice B g.Edges.length c]) k_ag_100 k_sz_100_2 rfl rfl (hS4.cf (i := 0) rfl) rfl rfl) ?_
  refine sq 14 rfl rfl (Y_fieldAddr (B := some ⟨b1, 0, none⟩) (i := 0) (s := 0) k_fd_104_0_0_3 k_sz_3_1 rfl rfl) ?_
  refine sq 15 rfl rfl (Y_load1 (B := some ⟨b1, 0, none⟩) (i := 0) (cs := [.int .i64 c1.Qubits, .slice B1 c1.Gates.length c2]) (v := .int .i64 c1.Qubits) k_sc_3 rfl rfl (hS4.cf (i := 1) rfl) rfl) ?_
  refine sq 16 rfl rfl (Y_fieldAddr (B := some ⟨b2, 0, none⟩) (i := 0) (s := 0) k_fd_108_0_0_59 k_sz_59_1 rfl rfl) ?_
  refine sq 17 rfl rfl (Y_load1 (B := some ⟨b2, 0, none⟩) (i := 0) (cs := [.slice B2 route.Start.length c3, .slice B3 route.Steps.length c4]) (v := .slice B2 route.Start.length c3) k_sc_59 rfl rfl (hS4.cf (i := 2) rfl) rfl) ?_
  obtain ⟨r_3, hc, hF⟩ := bind_inv hF
  refine sc 18 rfl rfl (Yc_func (g := 244) (vs := [.agg #[.int .i64 g.Nodes, .slice B g.Edges.length c], .int .i64 c1.Qubits, .slice B2 route.Start.length c3]) k_call_244 rfl (mc rfl (mc rfl (mc rfl mn))) (c_impl_CouplingGraph_isPlacement g c1.Qubits route.Start B c g.Edges.length B2 c3 route.Start.length _ rfl rfl hq2 (hS4.inn0 [(true, 0), (true, 2)] rfl) hc)) ?_
  rintro _ w_4 ⟨rfl, hd⟩
  have hS5 := hS4.out00 hd
  have hS5 : ST w0 [] _ [⟨some ⟨b, 0, none⟩, 100, [.int .i64 g.Nodes, .slice B g.Edges.length c], 2⟩, ⟨some ⟨b1, 0, none⟩, 104, [.int .i64 c1.Qubits, .slice B1 c1.Gates.length c2], 2⟩, ⟨some ⟨b2, 0, none⟩, 108, [.slice B2 route.Start.length c3, .slice B3 route.Steps.length c4], 2⟩, ⟨some ⟨b3, 0, none⟩, 201, [.int .i64 0, .slice none 0 0, .int .i64 0, .slice none 0 0, .slice none 0 0, .slice none 0 0], 6⟩] [⟨B, (g.Edges.flatMap enc_Edge)⟩, ⟨B1, (c1.Gates.flatMap enc_Gate)⟩, ⟨B2, (route.Start.flatMap encI)⟩, ⟨B3, (route.Steps.flatMap enc_RouteStep)⟩] := hS5
  refine sq 19 rfl rfl (Y_not (p := r_3) rfl rfl) ?_
  refine rw_nil ?_
  refine cw_cond (b := (!r_3)) rfl (fun hb => ?_) (fun hb => ?_)
  · skip
    have hF1 := ct hF hb
    refine cw_seq ?_
    refine cw_region ?_
    refine sq 20 rfl rfl (Y_buildS (zs := [.int .i64 0, .slice none 0 0, .int .i64 0, .slice none 0 0, .slice none 0 0, .slice none 0 0]) (vs := []) (cs := [.int .i64 0, .slice none 0 0, .int .i64 0, .slice none 0 0, .slice none 0 0, .slice none 0 0]) k_pl_201 k_zero_201 rfl mpn rfl) ?_
    refine sq 6 rfl rfl (Y_assign (v := .int .i64 1) rfl rfl) ?_
    refine sq 7 rfl rfl (Y_assign (v := .int .i64 0) rfl rfl) ?_
    refine ss0 rfl rfl (Ys_store (i := 3) (s := 6) (B := some ⟨b3, 0, none⟩) (T' := 201) (v := .agg #[.int .i64 0, .slice none 0 0, .int .i64 0, .slice none 0 0, .slice none 0 0, .slice none 0 0]) (vs := [.int .i64 0, .slice none 0 0, .int .i64 0, .slice none 0 0, .slice none 0 0, .slice none 0 0]) (k := 0) (cs' := [.int .i64 0, .slice none 0 0, .int .i64 0, .slice none 0 0, .slice none 0 0, .slice none 0 0]) hS5 k_sz_201_6 rfl rfl rfl rfl rfl rfl rfl (Nat.le_of_ble_eq_true rfl) rfl rfl) ?_
    rintro _ w_5 ⟨rfl, hS6⟩
    have hS6 : ST w0 [] _ [⟨some ⟨b, 0, none⟩, 100, [.int .i64 g.Nodes, .slice B g.Edges.length c], 2⟩, ⟨some ⟨b1, 0, none⟩, 104, [.int .i64 c1.Qubits, .slice B1 c1.Gates.length c2], 2⟩, ⟨some ⟨b2, 0, none⟩, 108, [.slice B2 route.Start.length c3, .slice B3 route.Steps.length c4], 2⟩, ⟨some ⟨b3, 0, none⟩, 201, [.int .i64 0, .slice none 0 0, .int .i64 0, .slice none 0 0, .slice none 0 0, .slice none 0 0], 6⟩] [⟨B, (g.Edges.flatMap enc_Edge)⟩, ⟨B1, (c1.Gates.flatMap enc_Gate)⟩, ⟨B2, (route.Start.flatMap encI)⟩, ⟨B3, (route.Steps.flatMap enc_RouteStep)⟩] := hS6
    refine rw_nil ?_
    refine cw_ret ?_
    have hS7 : ST w0 [] _ [⟨some ⟨b, 0, none⟩, 100, [.int .i64 g.Nodes, .slice B g.Edges.length c], 2⟩, ⟨some ⟨b1, 0, none⟩, 104, [.int .i64 c1.Qubits, .slice B1 c1.Gates.length c2], 2⟩, ⟨some ⟨b2, 0, none⟩, 108, [.slice B2 route.Start.length c3, .slice B3 route.Steps.length c4], 2⟩, ⟨some ⟨b3, 0, none⟩, 201, [.int .i64 0, .slice none 0 0, .int .i64 0, .slice none 0 0, .slice none 0 0, .slice none 0 0], 6⟩] [⟨none, ([].flatMap enc_Edge)⟩, ⟨B, (g.Edges.flatMap enc_Edge)⟩, ⟨B1, (c1.Gates.flatMap enc_Gate)⟩, ⟨B2, (route.Start.flatMap encI)⟩, ⟨B3, (route.Steps.flatMap enc_RouteStep)⟩] := ST.nilRo hS6
    have hS8 : ST w0 [] _ [⟨some ⟨b, 0, none⟩, 100, [.int .i64 g.Nodes, .slice B g.Edges.length c], 2⟩, ⟨some ⟨b1, 0, none⟩, 104, [.int .i64 c1.Qubits, .slice B1 c1.Gates.length c2], 2⟩, ⟨some ⟨b2, 0, none⟩, 108, [.slice B2 route.Start.length c3, .slice B3 route.Steps.length c4], 2⟩, ⟨some ⟨b3, 0, none⟩, 201, [.int .i64 0, .slice none 0 0, .int .i64 0, .slice none 0 0, .slice none 0 0, .slice none 0 0], 6⟩] [⟨none, ([].flatMap enc_Gate)⟩, ⟨none, ([].flatMap enc_Edge)⟩, ⟨B, (g.Edges.flatMap enc_Edge)⟩, ⟨B1, (c1.Gates.flatMap enc_Gate)⟩, ⟨B2, (route.Start.flatMap encI)⟩, ⟨B3, (route.Steps.flatMap enc_RouteStep)⟩] := ST.nilRo hS7
    have hS9 := hS8.addNil 3
    have hS10 := hS9.addNil 4
    obtain ⟨rfl, rfl, rfl⟩ := pr3 (some_inj hF1)
    exact ret3 Try.results155 (v1 := .int .i64 1) (resAt_tmp rfl) (v2 := .int .i64 0) (resAt_tmp rfl) (v3 := .agg #[.int .i64 0, .slice none 0 0, .int .i64 0, .slice none 0 0, .slice none 0 0, .slice none 0 0]) (resAt_cellA (B := some ⟨b3, 0, none⟩) (i := 0) (cs := [.int .i64 0, .slice none 0 0, .int .i64 0, .slice none 0 0, .slice none 0 0, .slice none 0 0]) (vs := [.int .i64 0, .slice none 0 0, .int .i64 0, .slice none 0 0, .slice none 0 0, .slice none 0 0]) rfl k_ag_201 k_sz_201_6 (hS10.cf (i := 3) rfl) rfl rfl) ⟨none, 0, none, 0, none, 0, none, 0, rfl, (len_le rfl (Nat.le_refl 0)), (len_le rfl (Nat.le_refl 0)), (org_cons org_none (org_cons org_none org_nil)), (ST.subR (R' := [⟨none, ([].flatMap enc_Edge)⟩, ⟨none, ([].flatMap enc_Gate)⟩]) (hS10.sel [4, 5] rfl rfl) (subc (mem_at (i := 1) rfl) (subc (mem_at (i := 0) rfl) (fun _ h => by cases h))))⟩
  · skip
    have hF2 := cf' hF hb
    refine cw_skip ?_
    refine cw_seq ?_
    refine cw_region ?_
    refine sq 21 rfl rfl (Y_loadA (B := some ⟨b, 0, none⟩) (i := 0) (cs := [.int .i64 g.Nodes, .slice B g.Edges.length c]) (vs := [.int .i64 g.Nodes, .slice B g.Edges.length c]) k_ag_100 k_sz_100_2 rfl rfl (hS5.cf (i := 0) rfl) rfl rfl) ?_
    refine sq 22 rfl rfl (Y_loadA (B := some ⟨b1, 0, none⟩) (i := 0) (cs := [.int .i64 c1.Qubits, .slice B1 c1.Gates.length c2]) (vs := [.int .i64 c1.Qubits, .slice B1 c1.Gates.length c2]) k_ag_104 k_sz_104_2 rfl rfl (hS5.cf (i := 1) rfl) rfl rfl) ?_
    refine sq 23 rfl rfl (Y_fieldAddr (B := some ⟨b2, 0, none⟩) (i := 0) (s := 0) k_fd_108_0_0_59 k_sz_59_1 rfl rfl) ?_
    refine sq 24 rfl rfl (Y_load1 (B := some ⟨b2, 0, none⟩) (i := 0) (cs := [.slice B2 route.Start.length c3, .slice B3 route.Steps.length c4]) (v := .slice B2 route.Start.length c3) k_sc_59 rfl rfl (hS5.cf (i := 2) rfl) rfl) ?_
    obtain ⟨r_4, hc1, hF2⟩ := bind_inv hF2
    refine sc 25 rfl rfl (Yc_func (g := 164) (vs := [.agg #[.int .i64 g.Nodes, .slice B g.Edges.length c], .agg #[.int .i64 c1.Qubits, .slice B1 c1.Gates.length c2], .slice B2 route.Start.length c3]) k_call_164 rfl (mc rfl (mc rfl (mc rfl mn))) (c_impl_newRouting g c1 route.Start B c g.Edges.length B1 c2 c1.Gates.length B2 c3 route.Start.length _ rfl hq rfl hq1 rfl (hS5.inn0 [(true, 0), (true, 1), (true, 2)] rfl) hc1)) ?_
    rintro _ w_6 ⟨B8, c9, B9, c10, B10, c11, B11, c12, rfl, hq3, hq4, ho, hd1⟩
    have hS11 := ST.outR0 hS5 hd1 ho (subc (mem_at (i := 0) rfl) (subc (mem_at (i := 1) rfl) (subc (mem_at (i := 2) rfl) (fun _ h => by cases h))))
    have ho1 : Org w0 [] [⟨B, (g.Edges.flatMap enc_Edge)⟩, ⟨B1, (c1.Gates.flatMap enc_Gate)⟩, ⟨B2, (route.Start.flatMap encI)⟩, ⟨B3, (route.Steps.flatMap enc_RouteStep)⟩] [⟨B8, (r_4.g.Edges.flatMap enc_Edge)⟩, ⟨B9, (r_4.c.Gates.flatMap enc_Gate)⟩] := org_trans0 hS5 ho (org_cons (org_mem (i := 0) rfl) (org_cons (org_mem (i := 1) rfl) (org_cons (org_mem (i := 2) rfl) org_nil)))
    have hS12 : ST w0 [] _ [⟨some ⟨b, 0, none⟩, 100, [.int .i64 g.Nodes, .slice B g.Edges.length c], 2⟩, ⟨some ⟨b1, 0, none⟩, 104, [.int .i64 c1.Qubits, .slice B1 c1.Gates.length c2], 2⟩, ⟨some ⟨b2, 0, none⟩, 108, [.slice B2 route.Start.length c3, .slice B3 route.Steps.length c4], 2⟩, ⟨some ⟨b3, 0, none⟩, 201, [.int .i64 0, .slice none 0 0, .int .i64 0, .slice none 0 0, .slice none 0 0, .slice none 0 0], 6⟩, ⟨B10, 3, (r_4.place.flatMap encI), c11 * 1⟩, ⟨B11, 4, (r_4.done.flatMap encB), c12 * 1⟩] [⟨B8, (r_4.g.Edges.flatMap enc_Edge)⟩, ⟨B9, (r_4.c.Gates.flatMap enc_Gate)⟩, ⟨B, (g.Edges.flatMap enc_Edge)⟩, ⟨B1, (c1.Gates.flatMap enc_Gate)⟩, ⟨B2, (route.Start.flatMap encI)⟩, ⟨B3, (route.Steps.flatMap enc_RouteStep)⟩] := hS11
    have hS12 : ST w0 [] _ [⟨some ⟨b, 0, none⟩, 100, [.int .i64 g.Nodes, .slice B g.Edges.length c], 2⟩, ⟨some ⟨b1, 0, none⟩, 104, [.int .i64 c1.Qubits, .slice B1 c1.Gates.length c2], 2⟩, ⟨some ⟨b2, 0, none⟩, 108, [.slice B2 route.Start.length c3, .slice B3 route.Steps.length c4], 2⟩, ⟨some ⟨b3, 0, none⟩, 201, [.int .i64 0, .slice none 0 0, .int .i64 0, .slice none 0 0, .slice none 0 0, .slice none 0 0], 6⟩, ⟨B10, 3, (r_4.place.flatMap encI), c11 * 1⟩, ⟨B11, 4, (r_4.done.flatMap encB), c12 * 1⟩] [⟨B8, (r_4.g.Edges.flatMap enc_Edge)⟩, ⟨B9, (r_4.c.Gates.flatMap enc_Gate)⟩, ⟨B, (g.Edges.flatMap enc_Edge)⟩, ⟨B1, (c1.Gates.flatMap enc_Gate)⟩, ⟨B2, (route.Start.flatMap encI)⟩, ⟨B3, (route.Steps.flatMap enc_RouteStep)⟩] := hS12
    refine ss 9 rfl rfl (Ys_alloc (T := 201) (cs := [.int .i64 0, .slice none 0 0, .int .i64 0, .slice none 0 0, .slice none 0 0, .slice none 0 0]) (m := 6) hS12 k_zero_201 rfl rfl rfl) ?_
    rintro _ w_7 ⟨b4, rfl, hS13⟩
    have hS13 : ST w0 [] _ [⟨some ⟨b, 0, none⟩, 100, [.int .i64 g.Nodes, .slice B g.Edges.length c], 2⟩, ⟨some ⟨b1, 0, none⟩, 104, [.int .i64 c1.Qubits, .slice B1 c1.Gates.length c2], 2⟩, ⟨some ⟨b2, 0, none⟩, 108, [.slice B2 route.Start.length c3, .slice B3 route.Steps.length c4], 2⟩, ⟨some ⟨b3, 0, none⟩, 201, [.int .i64 0, .slice none 0 0, .int .i64 0, .slice none 0 0, .slice none 0 0, .slice none 0 0], 6⟩, ⟨B10, 3, (r_4.place.flatMap encI), c11 * 1⟩, ⟨B11, 4, (r_4.done.flatMap encB), c12 * 1⟩, ⟨some ⟨b4, 0, none⟩, 201, [.int .i64 0, .slice none 0 0, .int .i64 0, .slice none 0 0, .slice none 0 0, .slice none 0 0], 6⟩] [⟨B8, (r_4.g.Edges.flatMap enc_Edge)⟩, ⟨B9, (r_4.c.Gates.flatMap enc_Gate)⟩, ⟨B, (g.Edges.flatMap enc_Edge)⟩, ⟨B1, (c1.Gates.flatMap enc_Gate)⟩, ⟨B2, (route.Start.flatMap encI)⟩, ⟨B3, (route.Steps.flatMap enc_RouteStep)⟩] := hS13
    refine ss0 rfl rfl (Ys_store (i := 6) (s := 6) (B := some ⟨b4, 0, none⟩) (T' := 201) (v := .agg #[.int .i64 r_4.g.Nodes, .slice B8 r_4.g.Edges.length c9, .int .i64 r_4.c.Qubits, .slice B9 r_4.c.Gates.length c10, .slice B10 r_4.place.length c11, .slice B11 r_4.done.length c12]) (vs := [.int .i64 r_4.g.Nodes, .slice B8 r_4.g.Edges.length c9, .int .i64 r_4.c.Qubits, .slice B9 r_4.c.Gates.length c10, .slice B10 r_4.place.length c11, .slice B11 r_4.done.length c12]) (k := 0) (cs' := [.int .i64 r_4.g.Nodes, .slice B8 r_4.g.Edges.length c9, .int .i64 r_4.c.Qubits, .slice B9 r_4.c.Gates.length c10, .slice B10 r_4.place.length c11, .slice B11 r_4.done.length c12]) hS13 k_sz_201_6 rfl rfl rfl rfl rfl rfl rfl (Nat.le_of_ble_eq_true rfl) rfl rfl) ?_
    rintro _ w_8 ⟨rfl, hS14⟩
    have hS14 : ST w0 [] _ [⟨some ⟨b, 0, none⟩, 100, [.int .i64 g.Nodes, .slice B g.Edges.length c], 2⟩, ⟨some ⟨b1, 0, none⟩, 104, [.int .i64 c1.Qubits, .slice B1 c1.Gates.length c2], 2⟩, ⟨some ⟨b2, 0, none⟩, 108, [.slice B2 route.Start.length c3, .slice B3 route.Steps.length c4], 2⟩, ⟨some ⟨b3, 0, none⟩, 201, [.int .i64 0, .slice none 0 0, .int .i64 0, .slice none 0 0, .slice none 0 0, .slice none 0 0], 6⟩, ⟨B10, 3, (r_4.place.flatMap encI), c11 * 1⟩, ⟨B11, 4, (r_4.done.flatMap encB), c12 * 1⟩, ⟨some ⟨b4, 0, none⟩, 201, [.int .i64 r_4.g.Nodes, .slice B8 r_4.g.Edges.length c9, .int .i64 r_4.c.Qubits, .slice B9 r_4.c.Gates.length c10, .slice B10 r_4.place.length c11, .slice B11 r_4.done.length c12], 6⟩] [⟨B8, (r_4.g.Edges.flatMap enc_Edge)⟩, ⟨B9, (r_4.c.Gates.flatMap enc_Gate)⟩, ⟨B, (g.Edges.flatMap enc_Edge)⟩, ⟨B1, (c1.Gates.flatMap enc_Gate)⟩, ⟨B2, (route.Start.flatMap encI)⟩, ⟨B3, (route.Steps.flatMap enc_RouteStep)⟩] := hS14
    refine rw_nil ?_
    refine cw_seq ?_
    refine cw_seq ?_
    refine cw_region ?_
    refine sq 26 rfl rfl (Y_fieldAddr (B := some ⟨b2, 0, none⟩) (i := 0) (s := 0) k_fd_108_1_1_106 k_sz_106_1 rfl rfl) ?_
    refine sq 27 rfl rfl (Y_load1 (B := some ⟨b2, 0, none⟩) (i := 1) (cs := [.slice B2 route.Start.length c3, .slice B3 route.Steps.length c4]) (v := .slice B3 route.Steps.length c4) k_sc_106 rfl rfl (hS14.cf (i := 2) rfl) rfl) ?_
    refine sq 28 rfl rfl (Y_len (B := B3) (m := route.Steps.length) (c := c4) k_sl_106_211 rfl rfl) ?_
    refine sq 29 rfl rfl (Y_move (v := .int .i64 0) rfl rfl) ?_
    refine rw_nil ?_
    obtain ⟨hN, hF2⟩ := chk_inv hF2
    obtain ⟨z, hz, hF3⟩ := bind_inv hF2
    refine cw_block ?_
    refine cw_loop (fun k f w => ∃ (i : Nat) (place : List Int) (done : List Bool), FF f [(5, pt (some ⟨b2, 0, none⟩) 0), (8, pt (some ⟨b3, 0, none⟩) 0), (9, pt (some ⟨b4, 0, none⟩) 0), (27, .slice B3 route.Steps.length c4), (28, .int .i64 (route.Steps.length : Int)), (29, .int .i64 (i : Int))] ∧ place.length = r_4.place.length ∧ done.length = r_4.done.length ∧ ST w0 [] w [⟨some ⟨b2, 0, none⟩, 108, [.slice B2 route.Start.length c3, .slice B3 route.Steps.length c4], 2⟩, ⟨some ⟨b3, 0, none⟩, 201, [.int .i64 0, .slice none 0 0, .int .i64 0, .slice none 0 0, .slice none 0 0, .slice none 0 0], 6⟩, ⟨some ⟨b4, 0, none⟩, 201, [.int .i64 r_4.g.Nodes, .slice B8 r_4.g.Edges.length c9, .int .i64 r_4.c.Qubits, .slice B9 r_4.c.Gates.length c10, .slice B10 r_4.place.length c11, .slice B11 r_4.done.length c12], 6⟩, ⟨B10, 3, (place.flatMap encI), c11 * 1⟩, ⟨B11, 4, (done.flatMap encB), c12 * 1⟩] [⟨B8, (r_4.g.Edges.flatMap enc_Edge)⟩, ⟨B9, (r_4.c.Gates.flatMap enc_Gate)⟩, ⟨B, (g.Edges.flatMap enc_Edge)⟩, ⟨B1, (c1.Gates.flatMap enc_Gate)⟩, ⟨B2, (route.Start.flatMap encI)⟩, ⟨B3, (route.Steps.flatMap enc_RouteStep)⟩] ∧ i + k = route.Steps.length ∧ forX (F_impl_check_l1 route r_4 g) k i (place, done) = some z) route.Steps.length ⟨0, r_4.place, r_4.done, (FF.cons rfl (FF.cons rfl (FF.cons rfl (FF.cons rfl (FF.cons rfl (FF.cons rfl FF.nil)))))), rfl, rfl, (hS14.sel [2, 3, 6, 4, 5] rfl rfl), Nat.zero_add _, hz⟩ ?_
    rintro k_ f w ⟨i, place, done, hf, hl, hl1, hS15, hik, hL⟩
    refine cw_seq ?_
    refine cw_region ?_
    refine sq 30 rfl rfl (Y_lt (k := .i64) (a := (i : Int)) (b := (route.Steps.length : Int)) rfl (hf.get 29 5 rfl) (hf.get 28 4 rfl)) ?_
    refine rw_nil ?_
    refine cw_seq ?_
    refine cw_cond (b := (decide ((i : Int) < (route.Steps.length : Int)))) rfl (fun hlt => ?_) (fun hlt => ?_)
    · skip
      have hlt1 : i < route.Steps.length := by have h := of_decide_eq_true hlt; omega
      obtain ⟨k_1, rfl⟩ : ∃ k2, k_ = k2 + 1 := ⟨k_ - 1, by omega⟩
      obtain ⟨y, hb1, hL1⟩ := forX_go hL
      unfold F_impl_check_l1 at hb1
      refine cw_skip ?_
      refine cw_seq ?_
      refine cw_block ?_
      refine cw_seq ?_
      refine cw_region ?_
      refine sq 31 rfl rfl (Y_move (v := .int .i64 (i : Int)) rfl (hf.get 29 5 rfl)) ?_
      obtain ⟨x, hx, hb1⟩ := bind_inv hb1
      refine sq 32 rfl rfl (Y_index (B := B3) (m := route.Steps.length) (c := c4) (k := .i64) (i := (i : Int)) k_sl_106_211 k_sz_211_3 rfl (hf.get 27 3 rfl) (hf.get 29 5 rfl) (gi_isSome enc_RouteStep_len rfl (hS15.rf (i := 5) rfl) hx) (getI_nn hx) (getI_ltI hx rfl)) ?_
      refine sq 33 rfl rfl (Y_loadA (B := B3) (i := (i : Int).toNat * 3) (cs := (route.Steps.flatMap enc_RouteStep)) (vs := [.int .i64 x.Gate, .int .i64 x.A, .int .i64 x.B]) k_ag_211 k_sz_211_3 rfl rfl (hS15.rf (i := 5) rfl) (enc_RouteStep_len x) (gi_seg enc_RouteStep_len hx)) ?_
      refine ss 11 rfl rfl (Ys_alloc (T := 211) (cs := [.int .i64 0, .int .i64 0, .int .i64 0]) (m := 3) hS15 k_zero_211 rfl rfl rfl) ?_
      rintro _ w_9 ⟨b5, rfl, hS16⟩
      have hS16 : ST w0 [] _ [⟨some ⟨b2, 0, none⟩, 108, [.slice B2 route.Start.length c3, .slice B3 route.Steps.length c4], 2⟩, ⟨some ⟨b3, 0, none⟩, 201, [.int .i64 0, .slice none 0 0, .int .i64 0, .slice none 0 0, .slice none 0 0, .slice none 0 0], 6⟩, ⟨some ⟨b4, 0, none⟩, 201, [.int .i64 r_4.g.Nodes, .slice B8 r_4.g.Edges.length c9, .int .i64 r_4.c.Qubits, .slice B9 r_4.c.Gates.length c10, .slice B10 r_4.place.length c11, .slice B11 r_4.done.length c12], 6⟩, ⟨B10, 3, (place.flatMap encI), c11 * 1⟩, ⟨B11, 4, (done.flatMap encB), c12 * 1⟩, ⟨some ⟨b5, 0, none⟩, 211, [.int .i64 0, .int .i64 0, .int .i64 0], 3⟩] [⟨B8, (r_4.g.Edges.flatMap enc_Edge)⟩, ⟨B9, (r_4.c.Gates.flatMap enc_Gate)⟩, ⟨B, (g.Edges.flatMap enc_Edge)⟩, ⟨B1, (c1.Gates.flatMap enc_Gate)⟩, ⟨B2, (route.Start.flatMap encI)⟩, ⟨B3, (route.Steps.flatMap enc_RouteStep)⟩] := hS16
      refine sq 10 rfl rfl (Y_assign (v := .int .i64 (i : Int)) rfl rfl) ?_
      refine ss0 rfl rfl (Ys_store (i := 5) (s := 3) (B := some ⟨b5, 0, none⟩) (T' := 211) (v := .agg #[.int .i64 x.Gate, .int .i64 x.A, .int .i64 x.B]) (vs := [.int .i64 x.Gate, .int .i64 x.A, .int .i64 x.B]) (k := 0) (cs' := [.int .i64 x.Gate, .int .i64 x.A, .int .i64 x.B]) hS16 k_sz_211_3 rfl rfl rfl rfl rfl rfl rfl (Nat.le_of_ble_eq_true rfl) rfl rfl) ?_
      rintro _ w_10 ⟨rfl, hS17⟩
      have hS17 : ST w0 [] _ [⟨some ⟨b2, 0, none⟩, 108, [.slice B2 route.Start.length c3, .slice B3 route.Steps.length c4], 2⟩, ⟨some ⟨b3, 0, none⟩, 201, [.int .i64 0, .slice none 0 0, .int .i64 0, .slice none 0 0, .slice none 0 0, .slice none 0 0], 6⟩, ⟨some ⟨b4, 0, none⟩, 201, [.int .i64 r_4.g.Nodes, .slice B8 r_4.g.Edges.length c9, .int .i64 r_4.c.Qubits, .slice B9 r_4.c.Gates.length c10, .slice B10 r_4.place.length c11, .slice B11 r_4.done.length c12], 6⟩, ⟨B10, 3, (place.flatMap encI), c11 * 1⟩, ⟨B11, 4, (done.flatMap encB), c12 * 1⟩, ⟨some ⟨b5, 0, none⟩, 211, [.int .i64 x.Gate, .int .i64 x.A, .int .i64 x.B], 3⟩] [⟨B8, (r_4.g.Edges.flatMap enc_Edge)⟩, ⟨B9, (r_4.c.Gates.flatMap enc_Gate)⟩, ⟨B, (g.Edges.flatMap enc_Edge)⟩, ⟨B1, (c1.Gates.flatMap enc_Gate)⟩, ⟨B2, (route.Start.flatMap encI)⟩, ⟨B3, (route.Steps.flatMap enc_RouteStep)⟩] := hS17
      refine rw_nil ?_
      refine cw_seq ?_
      refine cw_region ?_
      refine sq 34 rfl rfl (Y_loadA (B := some ⟨b4, 0, none⟩) (i := 0) (cs := [.int .i64 r_4.g.Nodes, .slice B8 r_4.g.Edges.length c9, .int .i64 r_4.c.Qubits, .slice B9 r_4.c.Gates.length c10, .slice B10 r_4.place.length c11, .slice B11 r_4.done.length c12]) (vs := [.int .i64 r_4.g.Nodes, .slice B8 r_4.g.Edges.length c9, .int .i64 r_4.c.Qubits, .slice B9 r_4.c.Gates.length c10, .slice B10 r_4.place.length c11, .slice B11 r_4.done.length c12]) k_ag_201 k_sz_201_6 rfl (hf.get 9 2 rfl) (hS17.cf (i := 2) rfl) rfl rfl) ?_
      refine sq 35 rfl rfl (Y_loadA (B := some ⟨b5, 0, none⟩) (i := 0) (cs := [.int .i64 x.Gate, .int .i64 x.A, .int .i64 x.B]) (vs := [.int .i64 x.Gate, .int .i64 x.A, .int .i64 x.B]) k_ag_211 k_sz_211_3 rfl rfl (hS17.cf (i := 5) rfl) rfl rfl) ?_
      obtain ⟨⟨r_5, m, m1⟩, hc2, hb1⟩ := bind_inv hb1
      refine sc 36 rfl rfl (Yc_func (g := 166) (vs := [.agg #[.int .i64 r_4.g.Nodes, .slice B8 r_4.g.Edges.length c9, .int .i64 r_4.c.Qubits, .slice B9 r_4.c.Gates.length c10, .slice B10 r_4.place.length c11, .slice B11 r_4.done.length c12], .agg #[.int .i64 x.Gate, .int .i64 x.A, .int .i64 x.B]]) k_call_166 rfl (mc rfl (mc rfl mn)) (c_impl_routing_step (Trouting.mk r_4.g r_4.c place done) x B8 c9 r_4.g.Edges.length B9 c10 r_4.c.Gates.length B10 c11 r_4.place.length B11 c12 r_4.done.length _ rfl rfl hq4 hl hl1 (hS17.inn [false, false, false, true, true, false] rfl [(true, 0), (true, 1)] rfl) hc2)) ?_
      rintro _ w_11 ⟨rfl, hl2, hl3, hd2⟩
      have hS18 := hS17.out [false, false, false, true, true, false] rfl hd2
      have hS18 : ST w0 [] _ [⟨some ⟨b2, 0, none⟩, 108, [.slice B2 route.Start.length c3, .slice B3 route.Steps.length c4], 2⟩, ⟨some ⟨b3, 0, none⟩, 201, [.int .i64 0, .slice none 0 0, .int .i64 0, .slice none 0 0, .slice none 0 0, .slice none 0 0], 6⟩, ⟨some ⟨b4, 0, none⟩, 201, [.int .i64 r_4.g.Nodes, .slice B8 r_4.g.Edges.length c9, .int .i64 r_4.c.Qubits, .slice B9 r_4.c.Gates.length c10, .slice B10 r_4.place.length c11, .slice B11 r_4.done.length c12], 6⟩, ⟨some ⟨b5, 0, none⟩, 211, [.int .i64 x.Gate, .int .i64 x.A, .int .i64 x.B], 3⟩, ⟨B10, 3, (m.flatMap encI), c11 * 1⟩, ⟨B11, 4, (m1.flatMap encB), c12 * 1⟩] [⟨B8, (r_4.g.Edges.flatMap enc_Edge)⟩, ⟨B9, (r_4.c.Gates.flatMap enc_Gate)⟩, ⟨B, (g.Edges.flatMap enc_Edge)⟩, ⟨B1, (c1.Gates.flatMap enc_Gate)⟩, ⟨B2, (route.Start.flatMap encI)⟩, ⟨B3, (route.Steps.flatMap enc_RouteStep)⟩] := hS18
      refine sq 12 rfl rfl (Y_assign (v := .int .i64 r_5) rfl rfl) ?_
      refine rw_nil ?_
      refine cw_seq ?_
      refine cw_region ?_
      refine sq 37 rfl rfl (Y_move (v := .int .i64 r_5) rfl rfl) ?_
      refine sq 38 rfl rfl (Y_ne (k := .i64) (a := r_5) (b := 0) rfl rfl rfl) ?_
      refine rw_nil ?_
      refine cw_cond (b := (r_5 != 0)) rfl (fun hb2 => ?_) (fun hb2 => ?_)
      · skip
        have hF4 := ct hb1 hb2
        refine cw_seq ?_
        refine ra_start (ST.sel hS18 [0, 2, 3, 4, 5] rfl rfl).fn (by kernel_rfl) ?_
        have hS19 := hS18.drew
        refine ra_q 0 39 (v := .int .i64 r_5) rfl rfl rfl (by kernel_rfl) (by kernel_rfl) (by kernel_rfl) (ST.sel hS19 [0, 2, 3, 4, 5] rfl rfl) (fun w' hw' => (Y_move (v := .int .i64 r_5) rfl rfl)) ?_
        refine ra_q 1 40 (v := .int .i64 (i : Int)) rfl rfl rfl (by kernel_rfl) (by kernel_rfl) (by kernel_rfl) (ST.sel hS19 [0, 2, 3, 4, 5] rfl rfl) (fun w' hw' => (Y_move (v := .int .i64 (i : Int)) rfl rfl)) ?_
        refine ra_q 2 41 (v := .agg #[.int .i64 r_4.g.Nodes, .slice B8 r_4.g.Edges.length c9, .int .i64 r_4.c.Qubits, .slice B9 r_4.c.Gates.length c10, .slice B10 r_4.place.length c11, .slice B11 r_4.done.length c12]) rfl rfl rfl (by kernel_rfl) (by kernel_rfl) (by kernel_rfl) (ST.sel hS19 [0, 2, 3, 4, 5] rfl rfl) (fun w' hw' => (Y_loadA (B := some ⟨b4, 0, none⟩) (i := 0) (cs := [.int .i64 r_4.g.Nodes, .slice B8 r_4.g.Edges.length c9, .int .i64 r_4.c.Qubits, .slice B9 r_4.c.Gates.length c10, .slice B10 r_4.place.length c11, .slice B11 r_4.done.length c12]) (vs := [.int .i64 r_4.g.Nodes, .slice B8 r_4.g.Edges.length c9, .int .i64 r_4.c.Qubits, .slice B9 r_4.c.Gates.length c10, .slice B10 r_4.place.length c11, .slice B11 r_4.done.length c12]) k_ag_201 k_sz_201_6 rfl (hf.get 9 2 rfl) (ST.cf hw' (i := 1) rfl) rfl rfl)) ?_
        refine ra_q 3 6 (v := .int .i64 r_5) rfl rfl rfl (by kernel_rfl) (by kernel_rfl) (by kernel_rfl) (ST.sel hS19 [0, 2, 3, 4, 5] rfl rfl) (fun w' hw' => (Y_assign (v := .int .i64 r_5) rfl rfl)) ?_
        refine ra_q 4 7 (v := .int .i64 (i : Int)) rfl rfl rfl (by kernel_rfl) (by kernel_rfl) (by kernel_rfl) (ST.sel hS19 [0, 2, 3, 4, 5] rfl rfl) (fun w' hw' => (Y_assign (v := .int .i64 (i : Int)) rfl rfl)) ?_
        refine ra_all (rs := [5]) (by kernel_rfl) rfl ?_
        refine ra_s0 (i := 5) rfl rfl rfl (Ys_store (i := 1) (s := 6) (B := some ⟨b3, 0, none⟩) (T' := 201) (v := .agg #[.int .i64 r_4.g.Nodes, .slice B8 r_4.g.Edges.length c9, .int .i64 r_4.c.Qubits, .slice B9 r_4.c.Gates.length c10, .slice B10 r_4.place.length c11, .slice B11 r_4.done.length c12]) (vs := [.int .i64 r_4.g.Nodes, .slice B8 r_4.g.Edges.length c9, .int .i64 r_4.c.Qubits, .slice B9 r_4.c.Gates.length c10, .slice B10 r_4.place.length c11, .slice B11 r_4.done.length c12]) (k := 0) (cs' := [.int .i64 r_4.g.Nodes, .slice B8 r_4.g.Edges.length c9, .int .i64 r_4.c.Qubits, .slice B9 r_4.c.Gates.length c10, .slice B10 r_4.place.length c11, .slice B11 r_4.done.length c12]) hS19 k_sz_201_6 rfl (hf.get 8 1 rfl) rfl rfl rfl rfl rfl (Nat.le_of_ble_eq_true rfl) rfl rfl) ?_ ?_
        · rintro _ w_12 ⟨rfl, hS20⟩
          have hS20 : ST w0 [] _ [⟨some ⟨b2, 0, none⟩, 108, [.slice B2 route.Start.length c3, .slice B3 route.Steps.length c4], 2⟩, ⟨some ⟨b3, 0, none⟩, 201, [.int .i64 r_4.g.Nodes, .slice B8 r_4.g.Edges.length c9, .int .i64 r_4.c.Qubits, .slice B9 r_4.c.Gates.length c10, .slice B10 r_4.place.length c11, .slice B11 r_4.done.length c12], 6⟩, ⟨some ⟨b4, 0, none⟩, 201, [.int .i64 r_4.g.Nodes, .slice B8 r_4.g.Edges.length c9, .int .i64 r_4.c.Qubits, .slice B9 r_4.c.Gates.length c10, .slice B10 r_4.place.length c11, .slice B11 r_4.done.length c12], 6⟩, ⟨some ⟨b5, 0, none⟩, 211, [.int .i64 x.Gate, .int .i64 x.A, .int .i64 x.B], 3⟩, ⟨B10, 3, (m.flatMap encI), c11 * 1⟩, ⟨B11, 4, (m1.flatMap encB), c12 * 1⟩] [⟨B8, (r_4.g.Edges.flatMap enc_Edge)⟩, ⟨B9, (r_4.c.Gates.flatMap enc_Gate)⟩, ⟨B, (g.Edges.flatMap enc_Edge)⟩, ⟨B1, (c1.Gates.flatMap enc_Gate)⟩, ⟨B2, (route.Start.flatMap encI)⟩, ⟨B3, (route.Steps.flatMap enc_RouteStep)⟩] := hS20
          refine ⟨(ST.sel hS20 [0, 2, 3, 4, 5] rfl rfl), ?_⟩
          refine ra_done (by kernel_rfl) ?_
          refine cw_ret ?_
          obtain rfl := some_inj hF4
          obtain rfl := some_inj hL1
          obtain ⟨rfl, rfl, rfl⟩ := pr3 (some_inj hF3)
          exact ret3 Try.results155 (v1 := .int .i64 r_5) (resAt_tmp rfl) (v2 := .int .i64 (i : Int)) (resAt_tmp rfl) (v3 := .agg #[.int .i64 r_4.g.Nodes, .slice B8 r_4.g.Edges.length c9, .int .i64 r_4.c.Qubits, .slice B9 r_4.c.Gates.length c10, .slice B10 r_4.place.length c11, .slice B11 r_4.done.length c12]) (resAt_cellA (B := some ⟨b3, 0, none⟩) (i := 0) (cs := [.int .i64 r_4.g.Nodes, .slice B8 r_4.g.Edges.length c9, .int .i64 r_4.c.Qubits, .slice B9 r_4.c.Gates.length c10, .slice B10 r_4.place.length c11, .slice B11 r_4.done.length c12]) (vs := [.int .i64 r_4.g.Nodes, .slice B8 r_4.g.Edges.length c9, .int .i64 r_4.c.Qubits, .slice B9 r_4.c.Gates.length c10, .slice B10 r_4.place.length c11, .slice B11 r_4.done.length c12]) (hf.get 8 1 rfl) k_ag_201 k_sz_201_6 (hS20.cf (i := 1) rfl) rfl rfl) ⟨B8, c9, B9, c10, B10, c11, B11, c12, (by simp [hl2, hl3]), (len_le rfl hq3), (len_le rfl hq4), (org_cons (org_sub ho1 (subc (mem_at (i := 0) rfl) (fun _ h => by cases h))) (org_cons (org_sub ho1 (subc (mem_at (i := 1) rfl) (fun _ h => by cases h))) org_nil)), (ST.subR (R' := [⟨B8, (r_4.g.Edges.flatMap enc_Edge)⟩, ⟨B9, (r_4.c.Gates.flatMap enc_Gate)⟩]) (hS20.sel [4, 5] rfl rfl) (subc (mem_at (i := 0) rfl) (subc (mem_at (i := 1) rfl) (fun _ h => by cases h))))⟩
        exact allR_nil
      · skip
        have hF5 := cf' hb1 hb2
        refine cw_skip ?_
        refine cw_region ?_
        refine sq 42 rfl rfl (Y_add (k := .i64) (a := (i : Int)) (b := 1) rfl (hf.get 29 5 rfl) rfl) ?_
        refine sq 29 rfl rfl (Y_move (v := .int .i64 (IntKind.i64.wrap ((i : Int) + 1))) rfl rfl) ?_
        refine rw_nil ?_
        obtain rfl := some_inj hF5
        exact ⟨k_1, Nat.lt_succ_self _, i + 1, m, m1, (FF.cons (hf.get 5 0 rfl) (FF.cons (hf.get 8 1 rfl) (FF.cons (hf.get 9 2 rfl) (FF.cons (hf.get 27 3 rfl) (FF.cons (hf.get 28 4 rfl) (FF.cons (congrArg (Value.int .i64) (wr_succ hlt1 hN)) FF.nil)))))), hl2, hl3, (hS18.sel [0, 1, 2, 4, 5] rfl rfl), (by omega), hL1⟩
    · skip
      obtain rfl : k_ = 0 := by have h := of_decide_eq_false hlt; omega
      refine cw_exit rfl ?_
      obtain rfl := some_inj hL
      refine cw_seq ?_
      refine cw_seq ?_
      refine cw_region ?_
      refine sq 43 rfl rfl (Y_fieldAddr (B := some ⟨b4, 0, none⟩) (i := 0) (s := 0) k_fd_201_3_5_199 k_sz_199_1 rfl (hf.get 9 2 rfl)) ?_
      refine sq 44 rfl rfl (Y_load1 (B := some ⟨b4, 0, none⟩) (i := 5) (cs := [.int .i64 r_4.g.Nodes, .slice B8 r_4.g.Edges.length c9, .int .i64 r_4.c.Qubits, .slice B9 r_4.c.Gates.length c10, .slice B10 r_4.place.length c11, .slice B11 r_4.done.length c12]) (v := .slice B11 r_4.done.length c12) k_sc_199 rfl rfl (hS15.cf (i := 2) rfl) rfl) ?_
      obtain ⟨r_6, hc3, hF3⟩ := bind_inv hF3
      refine sc 45 rfl rfl (Yc_func (g := 245) (vs := [.slice B11 r_4.done.length c12, .bool false]) k_call_245 rfl (mc rfl (mc rfl mn)) (c_slices_Contains_bool_bool done false B11 c12 r_4.done.length _ hl1 (hS15.inn0 [(false, 4)] rfl) hc3)) ?_
      rintro _ w_13 ⟨rfl, hd3⟩
      have hS21 := hS15.out00 hd3
      have hS21 : ST w0 [] _ [⟨some ⟨b2, 0, none⟩, 108, [.slice B2 route.Start.length c3, .slice B3 route.Steps.length c4], 2⟩, ⟨some ⟨b3, 0, none⟩, 201, [.int .i64 0, .slice none 0 0, .int .i64 0, .slice none 0 0, .slice none 0 0, .slice none 0 0], 6⟩, ⟨some ⟨b4, 0, none⟩, 201, [.int .i64 r_4.g.Nodes, .slice B8 r_4.g.Edges.length c9, .int .i64 r_4.c.Qubits, .slice B9 r_4.c.Gates.length c10, .slice B10 r_4.place.length c11, .slice B11 r_4.done.length c12], 6⟩, ⟨B10, 3, (place.flatMap encI), c11 * 1⟩, ⟨B11, 4, (done.flatMap encB), c12 * 1⟩] [⟨B8, (r_4.g.Edges.flatMap enc_Edge)⟩, ⟨B9, (r_4.c.Gates.flatMap enc_Gate)⟩, ⟨B, (g.Edges.flatMap enc_Edge)⟩, ⟨B1, (c1.Gates.flatMap enc_Gate)⟩, ⟨B2, (route.Start.flatMap encI)⟩, ⟨B3, (route.Steps.flatMap enc_RouteStep)⟩] := hS21
      refine rw_nil ?_
      refine cw_cond (b := r_6) rfl (fun hb3 => ?_) (fun hb3 => ?_)
      · skip
        have hF6 := ct hF3 hb3
        refine cw_seq ?_
        refine ra_start (ST.sel hS21 [0, 2, 3, 4] rfl rfl).fn (by kernel_rfl) ?_
        have hS22 := hS21.drew
        refine ra_q 0 46 (v := pt (some ⟨b2, 0, none⟩) 1) rfl rfl rfl (by kernel_rfl) (by kernel_rfl) (by kernel_rfl) (ST.sel hS22 [0, 2, 3, 4] rfl rfl) (fun w' hw' => (Y_fieldAddr (B := some ⟨b2, 0, none⟩) (i := 0) (s := 0) k_fd_108_1_1_106 k_sz_106_1 rfl (hf.get 5 0 rfl))) ?_
        refine ra_q 1 47 (v := .slice B3 route.Steps.length c4) rfl rfl rfl (by kernel_rfl) (by kernel_rfl) (by kernel_rfl) (ST.sel hS22 [0, 2, 3, 4] rfl rfl) (fun w' hw' => (Y_load1 (B := some ⟨b2, 0, none⟩) (i := 1) (cs := [.slice B2 route.Start.length c3, .slice B3 route.Steps.length c4]) (v := .slice B3 route.Steps.length c4) k_sc_106 rfl rfl (ST.cf hw' (i := 0) rfl) rfl)) ?_
        refine ra_q 2 48 (v := .int .i64 (route.Steps.length : Int)) rfl rfl rfl (by kernel_rfl) (by kernel_rfl) (by kernel_rfl) (ST.sel hS22 [0, 2, 3, 4] rfl rfl) (fun w' hw' => (Y_len (B := B3) (m := route.Steps.length) (c := c4) k_sl_106_211 rfl rfl)) ?_
        refine ra_q 3 49 (v := .agg #[.int .i64 r_4.g.Nodes, .slice B8 r_4.g.Edges.length c9, .int .i64 r_4.c.Qubits, .slice B9 r_4.c.Gates.length c10, .slice B10 r_4.place.length c11, .slice B11 r_4.done.length c12]) rfl rfl rfl (by kernel_rfl) (by kernel_rfl) (by kernel_rfl) (ST.sel hS22 [0, 2, 3, 4] rfl rfl) (fun w' hw' => (Y_loadA (B := some ⟨b4, 0, none⟩) (i := 0) (cs := [.int .i64 r_4.g.Nodes, .slice B8 r_4.g.Edges.length c9, .int .i64 r_4.c.Qubits, .slice B9 r_4.c.Gates.length c10, .slice B10 r_4.place.length c11, .slice B11 r_4.done.length c12]) (vs := [.int .i64 r_4.g.Nodes, .slice B8 r_4.g.Edges.length c9, .int .i64 r_4.c.Qubits, .slice B9 r_4.c.Gates.length c10, .slice B10 r_4.place.length c11, .slice B11 r_4.done.length c12]) k_ag_201 k_sz_201_6 rfl (hf.get 9 2 rfl) (ST.cf hw' (i := 1) rfl) rfl rfl)) ?_
        refine ra_q 4 6 (v := .int .i64 5) rfl rfl rfl (by kernel_rfl) (by kernel_rfl) (by kernel_rfl) (ST.sel hS22 [0, 2, 3, 4] rfl rfl) (fun w' hw' => (Y_assign (v := .int .i64 5) rfl rfl)) ?_
        refine ra_q 5 7 (v := .int .i64 (route.Steps.length : Int)) rfl rfl rfl (by kernel_rfl) (by kernel_rfl) (by kernel_rfl) (ST.sel hS22 [0, 2, 3, 4] rfl rfl) (fun w' hw' => (Y_assign (v := .int .i64 (route.Steps.length : Int)) rfl rfl)) ?_
        refine ra_all (rs := [6]) (by kernel_rfl) rfl ?_
        refine ra_s0 (i := 6) rfl rfl rfl (Ys_store (i := 1) (s := 6) (B := some ⟨b3, 0, none⟩) (T' := 201) (v := .agg #[.int .i64 r_4.g.Nodes, .slice B8 r_4.g.Edges.length c9, .int .i64 r_4.c.Qubits, .slice B9 r_4.c.Gates.length c10, .slice B10 r_4.place.length c11, .slice B11 r_4.done.length c12]) (vs := [.int .i64 r_4.g.Nodes, .slice B8 r_4.g.Edges.length c9, .int .i64 r_4.c.Qubits, .slice B9 r_4.c.Gates.length c10, .slice B10 r_4.place.length c11, .slice B11 r_4.done.length c12]) (k := 0) (cs' := [.int .i64 r_4.g.Nodes, .slice B8 r_4.g.Edges.length c9, .int .i64 r_4.c.Qubits, .slice B9 r_4.c.Gates.length c10, .slice B10 r_4.place.length c11, .slice B11 r_4.done.length c12]) hS22 k_sz_201_6 rfl (hf.get 8 1 rfl) rfl rfl rfl rfl rfl (Nat.le_of_ble_eq_true rfl) rfl rfl) ?_ ?_
        · rintro _ w_14 ⟨rfl, hS23⟩
          have hS23 : ST w0 [] _ [⟨some ⟨b2, 0, none⟩, 108, [.slice B2 route.Start.length c3, .slice B3 route.Steps.length c4], 2⟩, ⟨some ⟨b3, 0, none⟩, 201, [.int .i64 r_4.g.Nodes, .slice B8 r_4.g.Edges.length c9, .int .i64 r_4.c.Qubits, .slice B9 r_4.c.Gates.length c10, .slice B10 r_4.place.length c11, .slice B11 r_4.done.length c12], 6⟩, ⟨some ⟨b4, 0, none⟩, 201, [.int .i64 r_4.g.Nodes, .slice B8 r_4.g.Edges.length c9, .int .i64 r_4.c.Qubits, .slice B9 r_4.c.Gates.length c10, .slice B10 r_4.place.length c11, .slice B11 r_4.done.length c12], 6⟩, ⟨B10, 3, (place.flatMap encI), c11 * 1⟩, ⟨B11, 4, (done.flatMap encB), c12 * 1⟩] [⟨B8, (r_4.g.Edges.flatMap enc_Edge)⟩, ⟨B9, (r_4.c.Gates.flatMap enc_Gate)⟩, ⟨B, (g.Edges.flatMap enc_Edge)⟩, ⟨B1, (c1.Gates.flatMap enc_Gate)⟩, ⟨B2, (route.Start.flatMap encI)⟩, ⟨B3, (route.Steps.flatMap enc_RouteStep)⟩] := hS23
          refine ⟨(ST.sel hS23 [0, 2, 3, 4] rfl rfl), ?_⟩
          refine ra_done (by kernel_rfl) ?_
          refine cw_ret ?_
          obtain ⟨rfl, rfl, rfl⟩ := pr3 (some_inj hF6)
          exact ret3 Try.results155 (v1 := .int .i64 5) (resAt_tmp rfl) (v2 := .int .i64 (route.Steps.length : Int)) (resAt_tmp rfl) (v3 := .agg #[.int .i64 r_4.g.Nodes, .slice B8 r_4.g.Edges.length c9, .int .i64 r_4.c.Qubits, .slice B9 r_4.c.Gates.length c10, .slice B10 r_4.place.length c11, .slice B11 r_4.done.length c12]) (resAt_cellA (B := some ⟨b3, 0, none⟩) (i := 0) (cs := [.int .i64 r_4.g.Nodes, .slice B8 r_4.g.Edges.length c9, .int .i64 r_4.c.Qubits, .slice B9 r_4.c.Gates.length c10, .slice B10 r_4.place.length c11, .slice B11 r_4.done.length c12]) (vs := [.int .i64 r_4.g.Nodes, .slice B8 r_4.g.Edges.length c9, .int .i64 r_4.c.Qubits, .slice B9 r_4.c.Gates.length c10, .slice B10 r_4.place.length c11, .slice B11 r_4.done.length c12]) (hf.get 8 1 rfl) k_ag_201 k_sz_201_6 (hS23.cf (i := 1) rfl) rfl rfl) ⟨B8, c9, B9, c10, B10, c11, B11, c12, (by simp [hl, hl1]), (len_le rfl hq3), (len_le rfl hq4), (org_cons (org_sub ho1 (subc (mem_at (i := 0) rfl) (fun _ h => by cases h))) (org_cons (org_sub ho1 (subc (mem_at (i := 1) rfl) (fun _ h => by cases h))) org_nil)), (ST.subR (R' := [⟨B8, (r_4.g.Edges.flatMap enc_Edge)⟩, ⟨B9, (r_4.c.Gates.flatMap enc_Gate)⟩]) (hS23.sel [3, 4] rfl rfl) (subc (mem_at (i := 0) rfl) (subc (mem_at (i := 1) rfl) (fun _ h => by cases h))))⟩
        exact allR_nil
      · skip
        have hF7 := cf' hF3 hb3
        refine cw_skip ?_
        refine cw_seq ?_
        refine ra_start (ST.sel hS21 [0, 2, 3, 4] rfl rfl).fn (by kernel_rfl) ?_
        have hS24 := hS21.drew
        refine ra_q 0 50 (v := .agg #[.int .i64 r_4.g.Nodes, .slice B8 r_4.g.Edges.length c9, .int .i64 r_4.c.Qubits, .slice B9 r_4.c.Gates.length c10, .slice B10 r_4.place.length c11, .slice B11 r_4.done.length c12]) rfl rfl rfl (by kernel_rfl) (by kernel_rfl) (by kernel_rfl) (ST.sel hS24 [0, 2, 3, 4] rfl rfl) (fun w' hw' => (Y_loadA (B := some ⟨b4, 0, none⟩) (i := 0) (cs := [.int .i64 r_4.g.Nodes, .slice B8 r_4.g.Edges.length c9, .int .i64 r_4.c.Qubits, .slice B9 r_4.c.Gates.length c10, .slice B10 r_4.place.length c11, .slice B11 r_4.done.length c12]) (vs := [.int .i64 r_4.g.Nodes, .slice B8 r_4.g.Edges.length c9, .int .i64 r_4.c.Qubits, .slice B9 r_4.c.Gates.length c10, .slice B10 r_4.place.length c11, .slice B11 r_4.done.length c12]) k_ag_201 k_sz_201_6 rfl (hf.get 9 2 rfl) (ST.cf hw' (i := 1) rfl) rfl rfl)) ?_
        refine ra_q 1 6 (v := .int .i64 0) rfl rfl rfl (by kernel_rfl) (by kernel_rfl) (by kernel_rfl) (ST.sel hS24 [0, 2, 3, 4] rfl rfl) (fun w' hw' => (Y_assign (v := .int .i64 0) rfl rfl)) ?_
        refine ra_q 2 7 (v := .int .i64 0) rfl rfl rfl (by kernel_rfl) (by kernel_rfl) (by kernel_rfl) (ST.sel hS24 [0, 2, 3, 4] rfl rfl) (fun w' hw' => (Y_assign (v := .int .i64 0) rfl rfl)) ?_
        refine ra_all (rs := [3]) (by kernel_rfl) rfl ?_
        refine ra_s0 (i := 3) rfl rfl rfl (Ys_store (i := 1) (s := 6) (B := some ⟨b3, 0, none⟩) (T' := 201) (v := .agg #[.int .i64 r_4.g.Nodes, .slice B8 r_4.g.Edges.length c9, .int .i64 r_4.c.Qubits, .slice B9 r_4.c.Gates.length c10, .slice B10 r_4.place.length c11, .slice B11 r_4.done.length c12]) (vs := [.int .i64 r_4.g.Nodes, .slice B8 r_4.g.Edges.length c9, .int .i64 r_4.c.Qubits, .slice B9 r_4.c.Gates.length c10, .slice B10 r_4.place.length c11, .slice B11 r_4.done.length c12]) (k := 0) (cs' := [.int .i64 r_4.g.Nodes, .slice B8 r_4.g.Edges.length c9, .int .i64 r_4.c.Qubits, .slice B9 r_4.c.Gates.length c10, .slice B10 r_4.place.length c11, .slice B11 r_4.done.length c12]) hS24 k_sz_201_6 rfl (hf.get 8 1 rfl) rfl rfl rfl rfl rfl (Nat.le_of_ble_eq_true rfl) rfl rfl) ?_ ?_
        · rintro _ w_15 ⟨rfl, hS25⟩
          have hS25 : ST w0 [] _ [⟨some ⟨b2, 0, none⟩, 108, [.slice B2 route.Start.length c3, .slice B3 route.Steps.length c4], 2⟩, ⟨some ⟨b3, 0, none⟩, 201, [.int .i64 r_4.g.Nodes, .slice B8 r_4.g.Edges.length c9, .int .i64 r_4.c.Qubits, .slice B9 r_4.c.Gates.length c10, .slice B10 r_4.place.length c11, .slice B11 r_4.done.length c12], 6⟩, ⟨some ⟨b4, 0, none⟩, 201, [.int .i64 r_4.g.Nodes, .slice B8 r_4.g.Edges.length c9, .int .i64 r_4.c.Qubits, .slice B9 r_4.c.Gates.length c10, .slice B10 r_4.place.length c11, .slice B11 r_4.done.length c12], 6⟩, ⟨B10, 3, (place.flatMap encI), c11 * 1⟩, ⟨B11, 4, (done.flatMap encB), c12 * 1⟩] [⟨B8, (r_4.g.Edges.flatMap enc_Edge)⟩, ⟨B9, (r_4.c.Gates.flatMap enc_Gate)⟩, ⟨B, (g.Edges.flatMap enc_Edge)⟩, ⟨B1, (c1.Gates.flatMap enc_Gate)⟩, ⟨B2, (route.Start.flatMap encI)⟩, ⟨B3, (route.Steps.flatMap enc_RouteStep)⟩] := hS25
          refine ⟨(ST.sel hS25 [0, 2, 3, 4] rfl rfl), ?_⟩
          refine ra_done (by kernel_rfl) ?_
          refine cw_ret ?_
          obtain ⟨rfl, rfl, rfl⟩ := pr3 (some_inj hF7)
          exact ret3 Try.results155 (v1 := .int .i64 0) (resAt_tmp rfl) (v2 := .int .i64 0) (resAt_tmp rfl) (v3 := .agg #[.int .i64 r_4.g.Nodes, .slice B8 r_4.g.Edges.length c9, .int .i64 r_4.c.Qubits, .slice B9 r_4.c.Gates.length c10, .slice B10 r_4.place.length c11, .slice B11 r_4.done.length c12]) (resAt_cellA (B := some ⟨b3, 0, none⟩) (i := 0) (cs := [.int .i64 r_4.g.Nodes, .slice B8 r_4.g.Edges.length c9, .int .i64 r_4.c.Qubits, .slice B9 r_4.c.Gates.length c10, .slice B10 r_4.place.length c11, .slice B11 r_4.done.length c12]) (vs := [.int .i64 r_4.g.Nodes, .slice B8 r_4.g.Edges.length c9, .int .i64 r_4.c.Qubits, .slice B9 r_4.c.Gates.length c10, .slice B10 r_4.place.length c11, .slice B11 r_4.done.length c12]) (hf.get 8 1 rfl) k_ag_201 k_sz_201_6 (hS25.cf (i := 1) rfl) rfl rfl) ⟨B8, c9, B9, c10, B10, c11, B11, c12, (by simp [hl, hl1]), (len_le rfl hq3), (len_le rfl hq4), (org_cons (org_sub ho1 (subc (mem_at (i := 0) rfl) (fun _ h => by cases h))) (org_cons (org_sub ho1 (subc (mem_at (i := 1) rfl) (fun _ h => by cases h))) org_nil)), (ST.subR (R' := [⟨B8, (r_4.g.Edges.flatMap enc_Edge)⟩, ⟨B9, (r_4.c.Gates.flatMap enc_Gate)⟩]) (hS25.sel [3, 4] rfl rfl) (subc (mem_at (i := 0) rfl) (subc (mem_at (i := 1) rfl) (fun _ h => by cases h))))⟩
        exact allR_nil

theorem c_impl_FinalPlacement (g : TCouplingGraph) (c1 : TCircuit) (r_ : TRoute) (B : Option Addr) (c n : Nat) (B1 : Option Addr) (c2 n1 : Nat) (B2 : Option Addr) (c3 n2 : Nat) (B3 : Option Addr) (c4 n3 : Nat) (w0 : World) (hn : g.Edges.length = n) (hq : n ≤ c) (hn1 : c1.Gates.length = n1) (hq1 : n1 ≤ c2) (hn2 : r_.Start.length = n2) (hq2 : n2 ≤ c3) (hn3 : r_.Steps.length = n3) (hS : ST w0 [] w0 [] [⟨B, (g.Edges.flatMap enc_Edge)⟩, ⟨B1, (c1.Gates.flatMap enc_Gate)⟩, ⟨B2, (r_.Start.flatMap encI)⟩, ⟨B3, (r_.Steps.flatMap enc_RouteStep)⟩]) {r_1 : List Int} {r_2 : Bool} (hF : F_impl_FinalPlacement g c1 r_ = some (r_1, r_2)) :
    CV Try.prog 63 #[.agg #[.int .i64 g.Nodes, .slice B n c], .agg #[.int .i64 c1.Qubits, .slice B1 n1 c2], .agg #[.slice B2 n2 c3, .slice B3 n3 c4]] w0 (fun v w' => ∃ (B4 : Option Addr) (c5 : Nat), v = .tuple #[.slice B4 r_1.length c5, .bool r_2] ∧ ST w0 [] w' [⟨B4, 3, (r_1.flatMap encI), c5 * 1⟩] []) := by
  subst hn
  subst hn1
  subst hn2
  subst hn3
  unfold F_impl_FinalPlacement at hF
  refine cv_of_cw 27 Try.func63 rfl Try.ntmps63 rfl ?_
  refine cw_seq ?_
  refine cw_region ?_
  refine ss 3 rfl rfl (Ys_box (T := 100) (v := .agg #[.int .i64 g.Nodes, .slice B g.Edges.length c]) (cs := [.int .i64 g.Nodes, .slice B g.Edges.length c]) (m := 2) hS rfl rfl rfl rfl) ?_
  rintro _ w_ ⟨b, rfl, hS1⟩
  refine ss 4 rfl rfl (Ys_box (T := 104) (v := .agg #[.int .i64 c1.Qubits, .slice B1 c1.Gates.length c2]) (cs := [.int .i64 c1.Qubits, .slice B1 c1.Gates.length c2]) (m := 2) hS1 rfl rfl rfl rfl) ?_
  rintro _ w_1 ⟨b1, rfl, hS2⟩
  have hS2 : ST w0 [] _ [⟨some ⟨b, 0, none⟩, 100, [.int .i64 g.Nodes, .slice B g.Edges.length c], 2⟩, ⟨some ⟨b1, 0, none⟩, 104, [.int .i64 c1.Qubits, .slice B1 c1.Gates.length c2], 2⟩] [⟨B, (g.Edges.flatMap enc_Edge)⟩, ⟨B1, (c1.Gates.flatMap enc_Gate)⟩, ⟨B2, (r_.Start.flatMap encI)⟩, ⟨B3, (r_.Steps.flatMap enc_RouteStep)⟩] := hS2
  refine ss 5 rfl rfl (Ys_box (T := 108) (v := .agg #[.slice B2 r_.Start.length c3, .slice B3 r_.Steps.length c4]) (cs := [.slice B2 r_.Start.length c3, .slice B3 r_.Steps.length c4]) (m := 2) hS2 rfl rfl rfl rfl) ?_
  rintro _ w_2 ⟨b2, rfl, hS3⟩
  have hS3 : ST w0 [] _ [⟨some ⟨b, 0, none⟩, 100, [.int .i64 g.Nodes, .slice B g.Edges.length c], 2⟩, ⟨some ⟨b1, 0, none⟩, 104, [.int .i64 c1.Qubits, .slice B1 c1.Gates.length c2], 2⟩, ⟨some ⟨b2, 0, none⟩, 108, [.slice B2 r_.Start.length c3, .slice B3 r_.Steps.length c4], 2⟩] [⟨B, (g.Edges.flatMap enc_Edge)⟩, ⟨B1, (c1.Gates.flatMap enc_Gate)⟩, ⟨B2, (r_.Start.flatMap encI)⟩, ⟨B3, (r_.Steps.flatMap enc_RouteStep)⟩] := hS3
  refine sq 6 rfl rfl (Y_assign (v := .slice none 0 0) rfl rfl) ?_
  refine sq 7 rfl rfl (Y_assign (v := .bool false) rfl rfl) ?_
  refine rw_nil ?_
  refine cw_seq ?_
  refine cw_seq ?_
  refine cw_region ?_
  refine sq 11 rfl rfl (Y_loadA (B := some ⟨b, 0, none⟩) (i := 0) (cs := [.int .i64 g.Nodes, .slice B g.Edges.length c]) (vs := [.int .i64 g.Nodes, .slice B g.Edges.length c]) k_ag_100 k_sz_100_2 rfl rfl (hS3.cf (i := 0) rfl) rfl rfl) ?_
  refine sq 12 rfl rfl (Y_loadA (B := some ⟨b1, 0, none⟩) (i := 0) (cs := [.int .i64 c1.Qubits, .slice B1 c1.Gates.length c2]) (vs := [.int .i64 c1.Qubits, .slice B1 c1.Gates.length c2]) k_ag_104 k_sz_104_2 rfl rfl (hS3.cf (i := 1) rfl) rfl rfl) ?_
  obtain ⟨r_3, hc, hF⟩ := bind_inv hF
  refine sc 13 rfl rfl (Yc_func (g := 154) (vs := [.agg #[.int .i64 g.Nodes, .slice B g.Edges.length c], .agg #[.int .i64 c1.Qubits, .slice B1 c1.Gates.length c2]]) k_call_154 rfl (mc rfl (mc rfl mn)) (c_impl_canRoute g c1 B c g.Edges.length B1 c2 c1.Gates.length _ rfl rfl (hS3.inn0 [(true, 0), (true, 1)] rfl) hc)) ?_
  rintro _ w_3 ⟨rfl, hd⟩
  have hS4 := hS3.out00 hd
  have hS4 : ST w0 [] _ [⟨some ⟨b, 0, none⟩, 100, [.int .i64 g.Nodes, .slice B g.Edges.length c], 2⟩, ⟨some ⟨b1, 0, none⟩, 104, [.int .i64 c1.Qubits, .slice B1 c1.Gates.length c2], 2⟩, ⟨some ⟨b2, 0, none⟩, 108, [.slice B2 r_.Start.length c3, .slice B3 r_.Steps.length c4], 2⟩] [⟨B, (g.Edges.flatMap enc_Edge)⟩, ⟨B1, (c1.Gates.flatMap enc_Gate)⟩, ⟨B2, (r_.Start.flatMap encI)⟩, ⟨B3, (r_.Steps.flatMap enc_RouteStep)⟩] := hS4
  refine sq 14 rfl rfl (Y_not (p := r_3) rfl rfl) ?_
  refine rw_nil ?_
  refine cw_cond (b := (!r_3)) rfl (fun hb => ?_) (fun hb => ?_)
  · skip
    have hF1 := ct hF hb
    refine cw_seq ?_
    refine cw_region ?_
    refine sq 6 rfl rfl (Y_assign (v := .slice none 0 0) rfl rfl) ?_
    refine sq 7 rfl rfl (Y_assign (v := .bool false) rfl rfl) ?_
    refine rw_nil ?_
    refine cw_ret ?_
    have hS5 := hS4.addNil 3
    obtain ⟨rfl, rfl⟩ := pr2 (some_inj hF1)
    exact ret2 Try.results63 (v1 := .slice none 0 0) (resAt_tmp rfl) (v2 := .bool false) (resAt_tmp rfl) ⟨none, 0, rfl, (ST.subR (R' := []) (hS5.sel [3] rfl rfl) (fun _ h => by cases h))⟩
  · skip
    have hF2 := cf' hF hb
    refine cw_skip ?_
    refine cw_seq ?_
    refine cw_region ?_
    refine sq 16 rfl rfl (Y_loadA (B := some ⟨b, 0, none⟩) (i := 0) (cs := [.int .i64 g.Nodes, .slice B g.Edges.length c]) (vs := [.int .i64 g.Nodes, .slice B g.Edges.length c]) k_ag_100 k_sz_100_2 rfl rfl (hS4.cf (i := 0) rfl) rfl rfl) ?_
    refine sq 17 rfl rfl (Y_loadA (B := some ⟨b1, 0, none⟩) (i := 0) (cs := [.int .i64 c1.Qubits, .slice B1 c1.Gates.length c2]) (vs := [.int .i64 c1.Qubits, .slice B1 c1.Gates.length c2]) k_ag_104 k_sz_104_2 rfl rfl (hS4.cf (i := 1) rfl) rfl rfl) ?_
    refine sq 18 rfl rfl (Y_loadA (B := some ⟨b2, 0, none⟩) (i := 0) (cs := [.slice B2 r_.Start.length c3, .slice B3 r_.Steps.length c4]) (vs := [.slice B2 r_.Start.length c3, .slice B3 r_.Steps.length c4]) k_ag_108 k_sz_108_2 rfl rfl (hS4.cf (i := 2) rfl) rfl rfl) ?_
    obtain ⟨⟨r_4, r_5, r_6⟩, hc1, hF2⟩ := bind_inv hF2
    refine sc 19 rfl rfl (Yc_func (g := 155) (vs := [.agg #[.int .i64 g.Nodes, .slice B g.Edges.length c], .agg #[.int .i64 c1.Qubits, .slice B1 c1.Gates.length c2], .agg #[.slice B2 r_.Start.length c3, .slice B3 r_.Steps.length c4]]) k_call_155 rfl (mc rfl (mc rfl (mc rfl mn))) (c_impl_check g c1 r_ B c g.Edges.length B1 c2 c1.Gates.length B2 c3 r_.Start.length B3 c4 r_.Steps.length _ rfl hq rfl hq1 rfl hq2 rfl (hS4.inn0 [(true, 0), (true, 1), (true, 2), (true, 3)] rfl) hc1)) ?_
    rintro _ w_4 ⟨B5, c6, B6, c7, B7, c8, B8, c9, rfl, hq3, hq4, ho, hd1⟩
    have hS6 := ST.outR0 hS4 hd1 ho (subc (mem_at (i := 0) rfl) (subc (mem_at (i := 1) rfl) (subc (mem_at (i := 2) rfl) (subc (mem_at (i := 3) rfl) (fun _ h => by cases h)))))
    have ho1 : Org w0 [] [⟨B, (g.Edges.flatMap enc_Edge)⟩, ⟨B1, (c1.Gates.flatMap enc_Gate)⟩, ⟨B2, (r_.Start.flatMap encI)⟩, ⟨B3, (r_.Steps.flatMap enc_RouteStep)⟩] [⟨B5, (r_6.g.Edges.flatMap enc_Edge)⟩, ⟨B6, (r_6.c.Gates.flatMap enc_Gate)⟩] := org_trans0 hS4 ho (org_cons (org_mem (i := 0) rfl) (org_cons (org_mem (i := 1) rfl) (org_cons (org_mem (i := 2) rfl) (org_cons (org_mem (i := 3) rfl) org_nil))))
    have hS7 : ST w0 [] _ [⟨some ⟨b, 0, none⟩, 100, [.int .i64 g.Nodes, .slice B g.Edges.length c], 2⟩, ⟨some ⟨b1, 0, none⟩, 104, [.int .i64 c1.Qubits, .slice B1 c1.Gates.length c2], 2⟩, ⟨some ⟨b2, 0, none⟩, 108, [.slice B2 r_.Start.length c3, .slice B3 r_.Steps.length c4], 2⟩, ⟨B7, 3, (r_6.place.flatMap encI), c8 * 1⟩, ⟨B8, 4, (r_6.done.flatMap encB), c9 * 1⟩] [⟨B5, (r_6.g.Edges.flatMap enc_Edge)⟩, ⟨B6, (r_6.c.Gates.flatMap enc_Gate)⟩, ⟨B, (g.Edges.flatMap enc_Edge)⟩, ⟨B1, (c1.Gates.flatMap enc_Gate)⟩, ⟨B2, (r_.Start.flatMap encI)⟩, ⟨B3, (r_.Steps.flatMap enc_RouteStep)⟩] := hS6
    have hS7 : ST w0 [] _ [⟨some ⟨b, 0, none⟩, 100, [.int .i64 g.Nodes, .slice B g.Edges.length c], 2⟩, ⟨some ⟨b1, 0, none⟩, 104, [.int .i64 c1.Qubits, .slice B1 c1.Gates.length c2], 2⟩, ⟨some ⟨b2, 0, none⟩, 108, [.slice B2 r_.Start.length c3, .slice B3 r_.Steps.length c4], 2⟩, ⟨B7, 3, (r_6.place.flatMap encI), c8 * 1⟩, ⟨B8, 4, (r_6.done.flatMap encB), c9 * 1⟩] [⟨B5, (r_6.g.Edges.flatMap enc_Edge)⟩, ⟨B6, (r_6.c.Gates.flatMap enc_Gate)⟩, ⟨B, (g.Edges.flatMap enc_Edge)⟩, ⟨B1, (c1.Gates.flatMap enc_Gate)⟩, ⟨B2, (r_.Start.flatMap encI)⟩, ⟨B3, (r_.Steps.flatMap enc_RouteStep)⟩] := hS7
    refine sq 15 rfl rfl (Y_move (v := .tuple #[.int .i64 r_4, .int .i64 r_5, .agg #[.int .i64 r_6.g.Nodes, .slice B5 r_6.g.Edges.length c6, .int .i64 r_6.c.Qubits, .slice B6 r_6.c.Gates.length c7, .slice B7 r_6.place.length c8, .slice B8 r_6.done.length c9]]) rfl rfl) ?_
    refine sq 20 rfl rfl (Y_extract (v := .int .i64 r_4) rfl rfl rfl) ?_
    refine sq 21 rfl rfl (Y_extract (v := .int .i64 r_5) rfl rfl rfl) ?_
    refine sq 22 rfl rfl (Y_extract (v := .agg #[.int .i64 r_6.g.Nodes, .slice B5 r_6.g.Edges.length c6, .int .i64 r_6.c.Qubits, .slice B6 r_6.c.Gates.length c7, .slice B7 r_6.place.length c8, .slice B8 r_6.done.length c9]) rfl rfl rfl) ?_
    refine ss 10 rfl rfl (Ys_alloc (T := 201) (cs := [.int .i64 0, .slice none 0 0, .int .i64 0, .slice none 0 0, .slice none 0 0, .slice none 0 0]) (m := 6) hS7 k_zero_201 rfl rfl rfl) ?_
    rintro _ w_5 ⟨b3, rfl, hS8⟩
    have hS8 : ST w0 [] _ [⟨some ⟨b, 0, none⟩, 100, [.int .i64 g.Nodes, .slice B g.Edges.length c], 2⟩, ⟨some ⟨b1, 0, none⟩, 104, [.int .i64 c1.Qubits, .slice B1 c1.Gates.length c2], 2⟩, ⟨some ⟨b2, 0, none⟩, 108, [.slice B2 r_.Start.length c3, .slice B3 r_.Steps.length c4], 2⟩, ⟨B7, 3, (r_6.place.flatMap encI), c8 * 1⟩, ⟨B8, 4, (r_6.done.flatMap encB), c9 * 1⟩, ⟨some ⟨b3, 0, none⟩, 201, [.int .i64 0, .slice none 0 0, .int .i64 0, .slice none 0 0, .slice none 0 0, .slice none 0 0], 6⟩] [⟨B5, (r_6.g.Edges.flatMap enc_Edge)⟩, ⟨B6, (r_6.c.Gates.flatMap enc_Gate)⟩, ⟨B, (g.Edges.flatMap enc_Edge)⟩, ⟨B1, (c1.Gates.flatMap enc_Gate)⟩, ⟨B2, (r_.Start.flatMap encI)⟩, ⟨B3, (r_.Steps.flatMap enc_RouteStep)⟩] := hS8
    refine sq 8 rfl rfl (Y_assign (v := .int .i64 r_4) rfl rfl) ?_
    refine sq 9 rfl rfl (Y_assign (v := .int .i64 r_5) rfl rfl) ?_
    refine ss0 rfl rfl (Ys_store (i := 5) (s := 6) (B := some ⟨b3, 0, none⟩) (T' := 201) (v := .agg #[.int .i64 r_6.g.Nodes, .slice B5 r_6.g.Edges.length c6, .int .i64 r_6.c.Qubits, .slice B6 r_6.c.Gates.length c7, .slice B7 r_6.place.length c8, .slice B8 r_6.done.length c9]) (vs := [.int .i64 r_6.g.Nodes, .slice B5 r_6.g.Edges.length c6, .int .i64 r_6.c.Qubits, .slice B6 r_6.c.Gates.length c7, .slice B7 r_6.place.length c8, .slice B8 r_6.done.length c9]) (k := 0) (cs' := [.int .i64 r_6.g.Nodes, .slice B5 r_6.g.Edges.length c6, .int .i64 r_6.c.Qubits, .slice B6 r_6.c.Gates.length c7, .slice B7 r_6.place.length c8, .slice B8 r_6.done.length c9]) hS8 k_sz_201_6 rfl rfl rfl rfl rfl rfl rfl (Nat.le_of_ble_eq_true rfl) rfl rfl) ?_
    rintro _ w_6 ⟨rfl, hS9⟩
    have hS9 : ST w0 [] _ [⟨some ⟨b, 0, none⟩, 100, [.int .i64 g.Nodes, .slice B g.Edges.length c], 2⟩, ⟨some ⟨b1, 0, none⟩, 104, [.int .i64 c1.Qubits, .slice B1 c1.Gates.length c2], 2⟩, ⟨some ⟨b2, 0, none⟩, 108, [.slice B2 r_.Start.length c3, .slice B3 r_.Steps.length c4], 2⟩, ⟨B7, 3, (r_6.place.flatMap encI), c8 * 1⟩, ⟨B8, 4, (r_6.done.flatMap encB), c9 * 1⟩, ⟨some ⟨b3, 0, none⟩, 201, [.int .i64 r_6.g.Nodes, .slice B5 r_6.g.Edges.length c6, .int .i64 r_6.c.Qubits, .slice B6 r_6.c.Gates.length c7, .slice B7 r_6.place.length c8, .slice B8 r_6.done.length c9], 6⟩] [⟨B5, (r_6.g.Edges.flatMap enc_Edge)⟩, ⟨B6, (r_6.c.Gates.flatMap enc_Gate)⟩, ⟨B, (g.Edges.flatMap enc_Edge)⟩, ⟨B1, (c1.Gates.flatMap enc_Gate)⟩, ⟨B2, (r_.Start.flatMap encI)⟩, ⟨B3, (r_.Steps.flatMap enc_RouteStep)⟩] := hS9
    refine rw_nil ?_
    refine cw_seq ?_
    refine cw_seq ?_
    refine cw_region ?_
    refine sq 23 rfl rfl (Y_move (v := .int .i64 r_4) rfl rfl) ?_
    refine sq 24 rfl rfl (Y_ne (k := .i64) (a := r_4) (b := 0) rfl rfl rfl) ?_
    refine rw_nil ?_
    refine cw_cond (b := (r_4 != 0)) rfl (fun hb1 => ?_) (fun hb1 => ?_)
    · skip
      have hF3 := ct hF2 hb1
      refine cw_seq ?_
      refine cw_region ?_
      refine sq 6 rfl rfl (Y_assign (v := .slice none 0 0) rfl rfl) ?_
      refine sq 7 rfl rfl (Y_assign (v := .bool false) rfl rfl) ?_
      refine rw_nil ?_
      refine cw_ret ?_
      have hS10 := hS9.addNil 3
      obtain ⟨rfl, rfl⟩ := pr2 (some_inj hF3)
      exact ret2 Try.results63 (v1 := .slice none 0 0) (resAt_tmp rfl) (v2 := .bool false) (resAt_tmp rfl) ⟨none, 0, rfl, (ST.subR (R' := []) (hS10.sel [6] rfl rfl) (fun _ h => by cases h))⟩
    · skip
      have hF4 := cf' hF2 hb1
      refine cw_skip ?_
      refine cw_seq ?_
      refine cw_region ?_
      refine sq 25 rfl rfl (Y_fieldAddr (B := some ⟨b3, 0, none⟩) (i := 0) (s := 0) k_fd_201_2_4_59 k_sz_59_1 rfl rfl) ?_
      refine sq 26 rfl rfl (Y_load1 (B := some ⟨b3, 0, none⟩) (i := 4) (cs := [.int .i64 r_6.g.Nodes, .slice B5 r_6.g.Edges.length c6, .int .i64 r_6.c.Qubits, .slice B6 r_6.c.Gates.length c7, .slice B7 r_6.place.length c8, .slice B8 r_6.done.length c9]) (v := .slice B7 r_6.place.length c8) k_sc_59 rfl rfl (hS9.cf (i := 5) rfl) rfl) ?_
      refine sq 6 rfl rfl (Y_assign (v := .slice B7 r_6.place.length c8) rfl rfl) ?_
      refine sq 7 rfl rfl (Y_assign (v := .bool true) rfl rfl) ?_
      refine rw_nil ?_
      refine cw_ret ?_
      obtain ⟨rfl, rfl⟩ := pr2 (some_inj hF4)
      exact ret2 Try.results63 (v1 := .slice B7 r_6.place.length c8) (resAt_tmp rfl) (v2 := .bool true) (resAt_tmp rfl) ⟨B7, c8, rfl, (ST.subR (R' := []) (hS9.sel [3] rfl rfl) (fun _ h => by cases h))⟩

theorem c_laws_markEdgeS (a : List TEdge) (k_ : Int) (B : Option Addr) (c n : Nat) (w0 : World) (hn : a.length = n) (hS : ST w0 (bl [⟨B, 277, (a.flatMap enc_Edge), c * 2⟩]) w0 [⟨B, 277, (a.flatMap enc_Edge), c * 2⟩] []) {r_ : Int} {m : List TEdge} (hF : F_laws_markEdgeS a k_ = some (r_, m)) :
    CV Try.prog 159 #[.slice B n c, .int .i64 k_] w0 (fun v w' => v = .int .i64 r_ ∧ m.length = n ∧ ST w0 (bl [⟨B, 277, (a.flatMap enc_Edge), c * 2⟩]) w' [⟨B, 277, (m.flatMap enc_Edge), c * 2⟩] []) := by
  subst hn
  unfold F_laws_markEdgeS at hF
  refine cv_of_cw 27 Try.func159 rfl Try.ntmps159 rfl ?_
  refine cw_seq ?_
  refine cw_region ?_
  refine sq 4 rfl rfl (Y_assign (v := .int .i64 0) rfl rfl) ?_
  refine rw_nil ?_
  refine cw_seq ?_
  refine cw_seq ?_
  refine cw_region ?_
  refine sq 5 rfl rfl (Y_assign (v := .int .i64 0) rfl rfl) ?_
  refine rw_nil ?_
  obtain ⟨hN, hF⟩ := chk_inv hF
  obtain ⟨z, hz, hF1⟩ := bind_inv hF
  refine cw_block ?_
  refine cw_loop (fun k f w => ∃ (i1 : Nat) (m1 : List TEdge) (k_1 : Int), FF f [(0, .slice B a.length c), (1, .int .i64 k_1), (5, .int .i64 (i1 : Int))] ∧ m1.length = a.length ∧ ST w0 (bl [⟨B, 277, (a.flatMap enc_Edge), c * 2⟩]) w [⟨B, 277, (m1.flatMap enc_Edge), c * 2⟩] [] ∧ i1 + k = a.length ∧ forN F_laws_markEdgeS_l1 k i1 (m1, k_1) = some z) a.length ⟨0, a, k_, (FF.cons rfl (FF.cons rfl (FF.cons rfl FF.nil))), rfl, (hS.sel [0] rfl rfl), Nat.zero_add _, hz⟩ ?_
  rintro k_2 f w ⟨i1, m1, k_1, hf, hl, hS1, hik, hL⟩
  refine cw_seq ?_
  refine cw_seq ?_
  refine cw_region ?_
  refine sq 6 rfl rfl (Y_move (v := .int .i64 (i1 : Int)) rfl (hf.get 5 2 rfl)) ?_
  refine sq 7 rfl rfl (Y_move (v := .slice B a.length c) rfl (hf.get 0 0 rfl)) ?_
  refine sq 8 rfl rfl (Y_len (B := B) (m := a.length) (c := c) k_sl_98_277 rfl rfl) ?_
  refine sq 9 rfl rfl (Y_lt (k := .i64) (a := (i1 : Int)) (b := (a.length : Int)) rfl rfl rfl) ?_
  refine rw_nil ?_
  refine cw_cond (b := (decide ((i1 : Int) < (a.length : Int)))) rfl (fun hlt => ?_) (fun hlt => ?_)
  · skip
    have hlt1 : i1 < a.length := by have h := of_decide_eq_true hlt; omega
    obtain ⟨k_3, rfl⟩ : ∃ k2, k_2 = k2 + 1 := ⟨k_2 - 1, by omega⟩
    obtain ⟨y, hb, hL1⟩ := forN_go hL
    unfold F_laws_markEdgeS_l1 at hb
    refine cw_skip ?_
    refine cw_seq ?_
    refine cw_block ?_
    refine cw_seq ?_
    refine cw_region ?_
    refine sq 12 rfl rfl (Y_move (v := .slice B a.length c) rfl (hf.get 0 0 rfl)) ?_
    refine sq 13 rfl rfl (Y_move (v := .int .i64 (i1 : Int)) rfl (hf.get 5 2 rfl)) ?_
    refine sq 14 rfl rfl (Y_move (v := .int .i64 k_1) rfl (hf.get 1 1 rfl)) ?_
    obtain ⟨x, hx, hb⟩ := bind_inv hb
    refine sq 15 rfl rfl (Y_index (B := B) (m := a.length) (c := c) (k := .i64) (i := (i1 : Int)) k_sl_98_277 k_sz_277_2 rfl rfl rfl (gi_isSome enc_Edge_len rfl (hS1.cf (i := 0) rfl) hx) (getI_nn hx) (getI_ltI hx hl)) ?_
    refine sq 16 rfl rfl (Y_fieldAddr (B := B) (i := (i1 : Int).toNat * 2) (s := 0) k_fd_277_0_0_3 k_sz_3_1 rfl rfl) ?_
    refine ss0 rfl rfl (Ys_store (i := 0) (s := 1) (B := B) (T' := 277) (v := .int .i64 k_1) (vs := [.int .i64 k_1]) (k := (i1 : Int).toNat * 2 + 0) (cs' := ((m1.set (i1 : Int).toNat (TEdge.mk k_1 x.B)).flatMap enc_Edge)) hS1 k_sz_3_1 rfl rfl rfl rfl rfl rfl rfl (gi_fit enc_Edge_len hx (j := 0) (k := 1) (by decide)) (gi_setf enc_Edge_len hx (TEdge.mk k_1 x.B) rfl (Nat.le_of_ble_eq_true rfl)) rfl) ?_
    rintro _ w_ ⟨rfl, hS2⟩
    refine rw_nil ?_
    refine cw_seq ?_
    refine cw_region ?_
    refine sq 17 rfl rfl (Y_move (v := .int .i64 k_1) rfl (hf.get 1 1 rfl)) ?_
    refine sq 18 rfl rfl (Y_add (k := .i64) (a := k_1) (b := 1) rfl rfl rfl) ?_
    refine sq 1 rfl rfl (Y_assign (v := .int .i64 (IntKind.i64.wrap (k_1 + 1))) rfl rfl) ?_
    refine rw_nil ?_
    refine cw_seq ?_
    refine cw_region ?_
    refine sq 19 rfl rfl (Y_move (v := .slice B a.length c) rfl (hf.get 0 0 rfl)) ?_
    refine sq 20 rfl rfl (Y_move (v := .int .i64 (i1 : Int)) rfl (hf.get 5 2 rfl)) ?_
    refine sq 21 rfl rfl (Y_move (v := .int .i64 (IntKind.i64.wrap (k_1 + 1))) rfl rfl) ?_
    refine sq 22 rfl rfl (Y_index (B := B) (m := a.length) (c := c) (k := .i64) (i := (i1 : Int)) k_sl_98_277 k_sz_277_2 rfl rfl rfl (gi_isSome enc_Edge_len rfl (hS2.cf (i := 0) rfl) (getI_set (y := (TEdge.mk k_1 x.B)) hx)) (getI_nn (getI_set (y := (TEdge.mk k_1 x.B)) hx)) (getI_ltI (getI_set (y := (TEdge.mk k_1 x.B)) hx) (set_len _ _ _ hl))) ?_
    refine sq 23 rfl rfl (Y_fieldAddr (B := B) (i := (i1 : Int).toNat * 2) (s := 0) k_fd_277_1_1_3 k_sz_3_1 rfl rfl) ?_
    refine ss0 rfl rfl (Ys_store (i := 0) (s := 1) (B := B) (T' := 277) (v := .int .i64 (IntKind.i64.wrap (k_1 + 1))) (vs := [.int .i64 (IntKind.i64.wrap (k_1 + 1))]) (k := (i1 : Int).toNat * 2 + 1) (cs' := (((m1.set (i1 : Int).toNat (TEdge.mk k_1 x.B)).set (i1 : Int).toNat (TEdge.mk k_1 (IntKind.i64.wrap (k_1 + 1)))).flatMap enc_Edge)) hS2 k_sz_3_1 rfl rfl rfl rfl rfl rfl rfl (gi_fit enc_Edge_len (getI_set (y := (TEdge.mk k_1 x.B)) hx) (j := 1) (k := 1) (by decide)) (gi_setf enc_Edge_len (getI_set (y := (TEdge.mk k_1 x.B)) hx) (TEdge.mk k_1 (IntKind.i64.wrap (k_1 + 1))) rfl (Nat.le_of_ble_eq_true rfl)) rfl) ?_
    rintro _ w_1 ⟨rfl, hS3⟩
    refine rw_nil ?_
    refine cw_region ?_
    refine sq 24 rfl rfl (Y_move (v := .int .i64 (IntKind.i64.wrap (k_1 + 1))) rfl rfl) ?_
    refine sq 25 rfl rfl (Y_add (k := .i64) (a := (IntKind.i64.wrap (k_1 + 1))) (b := 1) rfl rfl rfl) ?_
    refine sq 1 rfl rfl (Y_assign (v := .int .i64 (IntKind.i64.wrap ((IntKind.i64.wrap (k_1 + 1)) + 1))) rfl rfl) ?_
    refine rw_nil ?_
    refine cw_region ?_
    refine sq 10 rfl rfl (Y_move (v := .int .i64 (i1 : Int)) rfl (hf.get 5 2 rfl)) ?_
    refine sq 11 rfl rfl (Y_add (k := .i64) (a := (i1 : Int)) (b := 1) rfl rfl rfl) ?_
    refine sq 5 rfl rfl (Y_assign (v := .int .i64 (IntKind.i64.wrap ((i1 : Int) + 1))) rfl rfl) ?_
    refine rw_nil ?_
    obtain rfl := some_inj hb
    exact ⟨k_3, Nat.lt_succ_self _, i1 + 1, ((m1.set (i1 : Int).toNat (TEdge.mk k_1 x.B)).set (i1 : Int).toNat (TEdge.mk k_1 (IntKind.i64.wrap (k_1 + 1)))), (IntKind.i64.wrap ((IntKind.i64.wrap (k_1 + 1)) + 1)), (FF.cons (hf.get 0 0 rfl) (FF.cons rfl (FF.cons (congrArg (Value.int .i64) (wr_succ hlt1 hN)) FF.nil))), (set_len _ _ _ (set_len _ _ _ hl)), (hS3.sel [0] rfl rfl), (by omega), hL1⟩
  · skip
    obtain rfl : k_2 = 0 := by have h := of_decide_eq_false hlt; omega
    refine cw_exit rfl ?_
    obtain rfl := some_inj hL
    refine cw_seq ?_
    refine cw_region ?_
    refine sq 26 rfl rfl (Y_move (v := .int .i64 k_1) rfl (hf.get 1 1 rfl)) ?_
    refine sq 4 rfl rfl (Y_assign (v := .int .i64 k_1) rfl rfl) ?_
    refine rw_nil ?_
    refine cw_ret ?_
    obtain ⟨rfl, rfl⟩ := pr2 (some_inj hF1)
    exact ret1 Try.results159 (v1 := .int .i64 k_1) (resAt_tmp rfl) ⟨rfl, hl, (ST.subR (R' := []) (hS1.sel [0] rfl rfl) (fun _ h => by cases h))⟩

theorem c_laws_markCouplingGraph (a : TCouplingGraph) (k_ : Int) (B : Option Addr) (c n : Nat) (w0 : World) (hn : a.Edges.length = n) (hS : ST w0 (bl [⟨B, 277, (a.Edges.flatMap enc_Edge), c * 2⟩]) w0 [⟨B, 277, (a.Edges.flatMap enc_Edge), c * 2⟩] []) {r_ : Int} {m : List TEdge} (hF : F_laws_markCouplingGraph a k_ = some (r_, m)) :
    CV Try.prog 65 #[.agg #[.int .i64 a.Nodes, .slice B n c], .int .i64 k_] w0 (fun v w' => v = .int .i64 r_ ∧ m.length = n ∧ ST w0 (bl [⟨B, 277, (a.Edges.flatMap enc_Edge), c * 2⟩]) w' [⟨B, 277, (m.flatMap enc_Edge), c * 2⟩] []) := by
  subst hn
  unfold F_laws_markCouplingGraph at hF
  refine cv_of_cw 10 Try.func65 rfl Try.ntmps65 rfl ?_
  refine cw_seq ?_
  refine cw_region ?_
  refine ss 2 rfl rfl (Ys_box (T := 100) (v := .agg #[.int .i64 a.Nodes, .slice B a.Edges.length c]) (cs := [.int .i64 a.Nodes, .slice B a.Edges.length c]) (m := 2) hS rfl rfl rfl rfl) ?_
  rintro _ w_ ⟨b, rfl, hS1⟩
  have hS1 : ST w0 (bl [⟨B, 277, (a.Edges.flatMap enc_Edge), c * 2⟩]) _ [⟨B, 277, (a.Edges.flatMap enc_Edge), c * 2⟩, ⟨some ⟨b, 0, none⟩, 100, [.int .i64 a.Nodes, .slice B a.Edges.length c], 2⟩] [] := hS1
  refine sq 4 rfl rfl (Y_assign (v := .int .i64 0) rfl rfl) ?_
  refine rw_nil ?_
  refine cw_seq ?_
  refine cw_region ?_
  refine sq 5 rfl rfl (Y_fieldAddr (B := some ⟨b, 0, none⟩) (i := 0) (s := 0) k_fd_100_1_1_98 k_sz_98_1 rfl rfl) ?_
  refine sq 6 rfl rfl (Y_load1 (B := some ⟨b, 0, none⟩) (i := 1) (cs := [.int .i64 a.Nodes, .slice B a.Edges.length c]) (v := .slice B a.Edges.length c) k_sc_98 rfl rfl (hS1.cf (i := 1) rfl) rfl) ?_
  refine sq 7 rfl rfl (Y_move (v := .int .i64 k_) rfl rfl) ?_
  obtain ⟨⟨r_1, m1⟩, hc, hF⟩ := bind_inv hF
  refine sc 8 rfl rfl (Yc_func (g := 159) (vs := [.slice B a.Edges.length c, .int .i64 k_]) k_call_159 rfl (mc rfl (mc rfl mn)) (c_laws_markEdgeS a.Edges k_ B c a.Edges.length _ rfl (hS1.inn [true, false] rfl [] rfl) hc)) ?_
  rintro _ w_1 ⟨rfl, hl, hd⟩
  have hS2 := hS1.out [true, false] rfl hd
  have hS2 : ST w0 (bl [⟨B, 277, (a.Edges.flatMap enc_Edge), c * 2⟩]) _ [⟨some ⟨b, 0, none⟩, 100, [.int .i64 a.Nodes, .slice B a.Edges.length c], 2⟩, ⟨B, 277, (m1.flatMap enc_Edge), c * 2⟩] [] := hS2
  refine sq 1 rfl rfl (Y_assign (v := .int .i64 r_1) rfl rfl) ?_
  refine rw_nil ?_
  refine cw_seq ?_
  refine cw_region ?_
  refine sq 9 rfl rfl (Y_move (v := .int .i64 r_1) rfl rfl) ?_
  refine sq 4 rfl rfl (Y_assign (v := .int .i64 r_1) rfl rfl) ?_
  refine rw_nil ?_
  refine cw_ret ?_
  obtain ⟨rfl, rfl⟩ := pr2 (some_inj hF)
  exact ret1 Try.results65 (v1 := .int .i64 r_1) (resAt_tmp rfl) ⟨rfl, hl, (ST.subR (R' := []) (hS2.sel [1] rfl rfl) (fun _ h => by cases h))⟩

theorem c_laws_markGateS (a : List TGate) (k_ : Int) (B : Option Addr) (c n : Nat) (w0 : World) (hn : a.length = n) (hS : ST w0 (bl [⟨B, 213, (a.flatMap enc_Gate), c * 3⟩]) w0 [⟨B, 213, (a.flatMap enc_Gate), c * 3⟩] []) {r_ : Int} {m : List TGate} (hF : F_laws_markGateS a k_ = some (r_, m)) :
    CV Try.prog 160 #[.slice B n c, .int .i64 k_] w0 (fun v w' => v = .int .i64 r_ ∧ m.length = n ∧ ST w0 (bl [⟨B, 213, (a.flatMap enc_Gate), c * 3⟩]) w' [⟨B, 213, (m.flatMap enc_Gate), c * 3⟩] []) := by
  subst hn
  unfold F_laws_markGateS at hF
  refine cv_of_cw 34 Try.func160 rfl Try.ntmps160 rfl ?_
  refine cw_seq ?_
  refine cw_region ?_
  refine sq 4 rfl rfl (Y_assign (v := .int .i64 0) rfl rfl) ?_
  refine rw_nil ?_
  refine cw_seq ?_
  refine cw_seq ?_
  refine cw_region ?_
  refine sq 5 rfl rfl (Y_assign (v := .int .i64 0) rfl rfl) ?_
  refine rw_nil ?_
  obtain ⟨hN, hF⟩ := chk_inv hF
  obtain ⟨z, hz, hF1⟩ := bind_inv hF
  refine cw_block ?_
  refine cw_loop (fun k f w => ∃ (i1 : Nat) (m1 : List TGate) (k_1 : Int), FF f [(0, .slice B a.length c), (1, .int .i64 k_1), (5, .int .i64 (i1 : Int))] ∧ m1.length = a.length ∧ ST w0 (bl [⟨B, 213, (a.flatMap enc_Gate), c * 3⟩]) w [⟨B, 213, (m1.flatMap enc_Gate), c * 3⟩] [] ∧ i1 + k = a.length ∧ forN F_laws_markGateS_l1 k i1 (m1, k_1) = some z) a.length ⟨0, a, k_, (FF.cons rfl (FF.cons rfl (FF.cons rfl FF.nil))), rfl, (hS.sel [0] rfl rfl), Nat.zero_add _, hz⟩ ?_
  rintro k_2 f w ⟨i1, m1, k_1, hf, hl, hS1, hik, hL⟩
  refine cw_seq ?_
  refine cw_seq ?_
  refine cw_region ?_
  refine sq 6 rfl rfl (Y_move (v := .int .i64 (i1 : Int)) rfl (hf.get 5 2 rfl)) ?_
  refine sq 7 rfl rfl (Y_move (v := .slice B a.length c) rfl (hf.get 0 0 rfl)) ?_
  refine sq 8 rfl rfl (Y_len (B := B) (m := a.length) (c := c) k_sl_102_213 rfl rfl) ?_
  refine sq 9 rfl rfl (Y_lt (k := .i64) (a := (i1 : Int)) (b := (a.length : Int)) rfl rfl rfl) ?_
  refine rw_nil ?_
  refine cw_cond (b := (decide ((i1 : Int) < (a.length : Int)))) rfl (fun hlt => ?_) (fun hlt => ?_)
  · skip
    have hlt1 : i1 < a.length := by have h := of_decide_eq_true hlt; omega
    obtain ⟨k_3, rfl⟩ : ∃ k2, k_2 = k2 + 1 := ⟨k_2 - 1, by omega⟩
    obtain ⟨y, hb, hL1⟩ := forN_go hL
    unfold F_laws_markGateS_l1 at hb
    refine cw_skip ?_
    refine cw_seq ?_
    refine cw_block ?_
    refine cw_seq ?_
    refine cw_region ?_
    refine sq 12 rfl rfl (Y_move (v := .slice B a.length c) rfl (hf.get 0 0 rfl)) ?_
    refine sq 13 rfl rfl (Y_move (v := .int .i64 (i1 : Int)) rfl (hf.get 5 2 rfl)) ?_
    refine sq 14 rfl rfl (Y_move (v := .int .i64 k_1) rfl (hf.get 1 1 rfl)) ?_
    obtain ⟨x, hx, hb⟩ := bind_inv hb
    refine sq 15 rfl rfl (Y_index (B := B) (m := a.length) (c := c) (k := .i64) (i := (i1 : Int)) k_sl_102_213 k_sz_213_3 rfl rfl rfl (gi_isSome enc_Gate_len rfl (hS1.cf (i := 0) rfl) hx) (getI_nn hx) (getI_ltI hx hl)) ?_
    refine sq 16 rfl rfl (Y_fieldAddr (B := B) (i := (i1 : Int).toNat * 3) (s := 0) k_fd_213_0_0_3 k_sz_3_1 rfl rfl) ?_
    refine ss0 rfl rfl (Ys_store (i := 0) (s := 1) (B := B) (T' := 213) (v := .int .i64 k_1) (vs := [.int .i64 k_1]) (k := (i1 : Int).toNat * 3 + 0) (cs' := ((m1.set (i1 : Int).toNat (TGate.mk k_1 x.A x.B)).flatMap enc_Gate)) hS1 k_sz_3_1 rfl rfl rfl rfl rfl rfl rfl (gi_fit enc_Gate_len hx (j := 0) (k := 1) (by decide)) (gi_setf enc_Gate_len hx (TGate.mk k_1 x.A x.B) rfl (Nat.le_of_ble_eq_true rfl)) rfl) ?_
    rintro _ w_ ⟨rfl, hS2⟩
    refine rw_nil ?_
    refine cw_seq ?_
    refine cw_region ?_
    refine sq 17 rfl rfl (Y_move (v := .int .i64 k_1) rfl (hf.get 1 1 rfl)) ?_
    refine sq 18 rfl rfl (Y_add (k := .i64) (a := k_1) (b := 1) rfl rfl rfl) ?_
    refine sq 1 rfl rfl (Y_assign (v := .int .i64 (IntKind.i64.wrap (k_1 + 1))) rfl rfl) ?_
    refine rw_nil ?_
    refine cw_seq ?_
    refine cw_region ?_
    refine sq 19 rfl rfl (Y_move (v := .slice B a.length c) rfl (hf.get 0 0 rfl)) ?_
    refine sq 20 rfl rfl (Y_move (v := .int .i64 (i1 : Int)) rfl (hf.get 5 2 rfl)) ?_
    refine sq 21 rfl rfl (Y_move (v := .int .i64 (IntKind.i64.wrap (k_1 + 1))) rfl rfl) ?_
    refine sq 22 rfl rfl (Y_index (B := B) (m := a.length) (c := c) (k := .i64) (i := (i1 : Int)) k_sl_102_213 k_sz_213_3 rfl rfl rfl (gi_isSome enc_Gate_len rfl (hS2.cf (i := 0) rfl) (getI_set (y := (TGate.mk k_1 x.A x.B)) hx)) (getI_nn (getI_set (y := (TGate.mk k_1 x.A x.B)) hx)) (getI_ltI (getI_set (y := (TGate.mk k_1 x.A x.B)) hx) (set_len _ _ _ hl))) ?_
    refine sq 23 rfl rfl (Y_fieldAddr (B := B) (i := (i1 : Int).toNat * 3) (s := 0) k_fd_213_1_1_3 k_sz_3_1 rfl rfl) ?_
    refine ss0 rfl rfl (Ys_store (i := 0) (s := 1) (B := B) (T' := 213) (v := .int .i64 (IntKind.i64.wrap (k_1 + 1))) (vs := [.int .i64 (IntKind.i64.wrap (k_1 + 1))]) (k := (i1 : Int).toNat * 3 + 1) (cs' := (((m1.set (i1 : Int).toNat (TGate.mk k_1 x.A x.B)).set (i1 : Int).toNat (TGate.mk k_1 (IntKind.i64.wrap (k_1 + 1)) x.B)).flatMap enc_Gate)) hS2 k_sz_3_1 rfl rfl rfl rfl rfl rfl rfl (gi_fit enc_Gate_len (getI_set (y := (TGate.mk k_1 x.A x.B)) hx) (j := 1) (k := 1) (by decide)) (gi_setf enc_Gate_len (getI_set (y := (TGate.mk k_1 x.A x.B)) hx) (TGate.mk k_1 (IntKind.i64.wrap (k_1 + 1)) x.B) rfl (Nat.le_of_ble_eq_true rfl)) rfl) ?_
    rintro _ w_1 ⟨rfl, hS3⟩
    refine rw_nil ?_
    refine cw_seq ?_
    refine cw_region ?_
    refine sq 24 rfl rfl (Y_move (v := .int .i64 (IntKind.i64.wrap (k_1 + 1))) rfl rfl) ?_
    refine sq 25 rfl rfl (Y_add (k := .i64) (a := (IntKind.i64.wrap (k_1 + 1))) (b := 1) rfl rfl rfl) ?_
    refine sq 1 rfl rfl (Y_assign (v := .int .i64 (IntKind.i64.wrap ((IntKind.i64.wrap (k_1 + 1)) + 1))) rfl rfl) ?_
    refine rw_nil ?_
    refine cw_seq ?_
    refine cw_region ?_
    refine sq 26 rfl rfl (Y_move (v := .slice B a.length c) rfl (hf.get 0 0 rfl)) ?_
    refine sq 27 rfl rfl (Y_move (v := .int .i64 (i1 : Int)) rfl (hf.get 5 2 rfl)) ?_
    refine sq 28 rfl rfl (Y_move (v := .int .i64 (IntKind.i64.wrap ((IntKind.i64.wrap (k_1 + 1)) + 1))) rfl rfl) ?_
    refine sq 29 rfl rfl (Y_index (B := B) (m := a.length) (c := c) (k := .i64) (i := (i1 : Int)) k_sl_102_213 k_sz_213_3 rfl rfl rfl (gi_isSome enc_Gate_len rfl (hS3.cf (i := 0) rfl) (getI_set (y := (TGate.mk k_1 (IntKind.i64.wrap (k_1 + 1)) x.B)) (getI_set (y := (TGate.mk k_1 x.A x.B)) hx))) (getI_nn (getI_set (y := (TGate.mk k_1 (IntKind.i64.wrap (k_1 + 1)) x.B)) (getI_set (y := (TGate.mk k_1 x.A x.B)) hx))) (getI_ltI (getI_set (y := (TGate.mk k_1 (IntKind.i64.wrap (k_1 + 1)) x.B)) (getI_set (y := (TGate.mk k_1 x.A x.B)) hx)) (set_len _ _ _ (set_len _ _ _ hl)))) ?_
    refine sq 30 rfl rfl (Y_fieldAddr (B := B) (i := (i1 : Int).toNat * 3) (s := 0) k_fd_213_2_2_3 k_sz_3_1 rfl rfl) ?_
    refine ss0 rfl rfl (Ys_store (i := 0) (s := 1) (B := B) (T' := 213) (v := .int .i64 (IntKind.i64.wrap ((IntKind.i64.wrap (k_1 + 1)) + 1))) (vs := [.int .i64 (IntKind.i64.wrap ((IntKind.i64.wrap (k_1 + 1)) + 1))]) (k := (i1 : Int).toNat * 3 + 2) (cs' := ((((m1.set (i1 : Int).toNat (TGate.mk k_1 x.A x.B)).set (i1 : Int).toNat (TGate.mk k_1 (IntKind.i64.wrap (k_1 + 1)) x.B)).set (i1 : Int).toNat (TGate.mk k_1 (IntKind.i64.wrap (k_1 + 1)) (IntKind.i64.wrap ((IntKind.i64.wrap (k_1 + 1)) + 1)))).flatMap enc_Gate)) hS3 k_sz_3_1 rfl rfl rfl rfl rfl rfl rfl (gi_fit enc_Gate_len (getI_set (y := (TGate.mk k_1 (IntKind.i64.wrap (k_1 + 1)) x.B)) (getI_set (y := (TGate.mk k_1 x.A x.B)) hx)) (j := 2) (k := 1) (by decide)) (gi_setf enc_Gate_len (getI_set (y := (TGate.mk k_1 (IntKind.i64.wrap (k_1 + 1)) x.B)) (getI_set (y := (TGate.mk k_1 x.A x.B)) hx)) (TGate.mk k_1 (IntKind.i64.wrap (k_1 + 1)) (IntKind.i64.wrap ((IntKind.i64.wrap (k_1 + 1)) + 1))) rfl (Nat.le_of_ble_eq_true rfl)) rfl) ?_
    rintro _ w_2 ⟨rfl, hS4⟩
    refine rw_nil ?_
    refine cw_region ?_
    refine sq 31 rfl rfl (Y_move (v := .int .i64 (IntKind.i64.wrap ((IntKind.i64.wrap (k_1 + 1)) + 1))) rfl rfl) ?_
    refine sq 32 rfl rfl (Y_add (k := .i64) (a := (IntKind.i64.wrap ((IntKind.i64.wrap (k_1 + 1)) + 1))) (b := 1) rfl rfl rfl) ?_
    refine sq 1 rfl rfl (Y_assign (v := .int .i64 (IntKind.i64.wrap ((IntKind.i64.wrap ((IntKind.i64.wrap (k_1 + 1)) + 1)) + 1))) rfl rfl) ?_
    refine rw_nil ?_
    refine cw_region ?_
    refine sq 10 rfl rfl (Y_move (v := .int .i64 (i1 : Int)) rfl (hf.get 5 2 rfl)) ?_
    refine sq 11 rfl rfl (Y_add (k := .i64) (a := (i1 : Int)) (b := 1) rfl rfl rfl) ?_
    refine sq 5 rfl rfl (Y_assign (v := .int .i64 (IntKind.i64.wrap ((i1 : Int) + 1))) rfl rfl) ?_
    refine rw_nil ?_
    obtain rfl := some_inj hb
    exact ⟨k_3, Nat.lt_succ_self _, i1 + 1, (((m1.set (i1 : Int).toNat (TGate.mk k_1 x.A x.B)).set (i1 : Int).toNat (TGate.mk k_1 (IntKind.i64.wrap (k_1 + 1)) x.B)).set (i1 : Int).toNat (TGate.mk k_1 (IntKind.i64.wrap (k_1 + 1)) (IntKind.i64.wrap ((IntKind.i64.wrap (k_1 + 1)) + 1)))), (IntKind.i64.wrap ((IntKind.i64.wrap ((IntKind.i64.wrap (k_1 + 1)) + 1)) + 1)), (FF.cons (hf.get 0 0 rfl) (FF.cons rfl (FF.cons (congrArg (Value.int .i64) (wr_succ hlt1 hN)) FF.nil))), (set_len _ _ _ (set_len _ _ _ (set_len _ _ _ hl))), (hS4.sel [0] rfl rfl), (by omega), hL1⟩
  · skip
    obtain rfl : k_2 = 0 := by have h := of_decide_eq_false hlt; omega
    refine cw_exit rfl ?_
    obtain rfl := some_inj hL
    refine cw_seq ?_
    refine cw_region ?_
    refine sq 33 rfl rfl (Y_move (v := .int .i64 k_1) rfl (hf.get 1 1 rfl)) ?_
    refine sq 4 rfl rfl (Y_assign (v := .int .i64 k_1) rfl rfl) ?_
    refine rw_nil ?_
    refine cw_ret ?_
    obtain ⟨rfl, rfl⟩ := pr2 (some_inj hF1)
    exact ret1 Try.results160 (v1 := .int .i64 k_1) (resAt_tmp rfl) ⟨rfl, hl, (ST.subR (R' := []) (hS1.sel [0] rfl rfl) (fun _ h => by cases h))⟩

theorem c_laws_markCircuit (a : TCircuit) (k_ : Int) (B : Option Addr) (c n : Nat) (w0 : World) (hn : a.Gates.length = n) (hS : ST w0 (bl [⟨B, 213, (a.Gates.flatMap enc_Gate), c * 3⟩]) w0 [⟨B, 213, (a.Gates.flatMap enc_Gate), c * 3⟩] []) {r_ : Int} {m : List TGate} (hF : F_laws_markCircuit a k_ = some (r_, m)) :
    CV Try.prog 66 #[.agg #[.int .i64 a.Qubits, .slice B n c], .int .i64 k_] w0 (fun v w' => v = .int .i64 r_ ∧ m.length = n ∧ ST w0 (bl [⟨B, 213, (a.Gates.flatMap enc_Gate), c * 3⟩]) w' [⟨B, 213, (m.flatMap enc_Gate), c * 3⟩] []) := by
  subst hn
  unfold F_laws_markCircuit at hF
  refine cv_of_cw 10 Try.func66 rfl Try.ntmps66 rfl ?_
  refine cw_seq ?_
  refine cw_region ?_
  refine ss 2 rfl rfl (Ys_box (T := 104) (v := .agg #[.int .i64 a.Qubits, .slice B a.Gates.length c]) (cs := [.int .i64 a.Qubits, .slice B a.Gates.length c]) (m := 2) hS rfl rfl rfl rfl) ?_
  rintro _ w_ ⟨b, rfl, hS1⟩
  have hS1 : ST w0 (bl [⟨B, 213, (a.Gates.flatMap enc_Gate), c * 3⟩]) _ [⟨B, 213, (a.Gates.flatMap enc_Gate), c * 3⟩, ⟨some ⟨b, 0, none⟩, 104, [.int .i64 a.Qubits, .slice B a.Gates.length c], 2⟩] [] := hS1
  refine sq 4 rfl rfl (Y_assign (v := .int .i64 0) rfl rfl) ?_
  refine rw_nil ?_
  refine cw_seq ?_
  refine cw_region ?_
  refine sq 5 rfl rfl (Y_fieldAddr (B := some ⟨b, 0, none⟩) (i := 0) (s := 0) k_fd_104_1_1_102 k_sz_102_1 rfl rfl) ?_
  refine sq 6 rfl rfl (Y_load1 (B := some ⟨b, 0, none⟩) (i := 1) (cs := [.int .i64 a.Qubits, .slice B a.Gates.length c]) (v := .slice B a.Gates.length c) k_sc_102 rfl rfl (hS1.cf (i := 1) rfl) rfl) ?_
  refine sq 7 rfl rfl (Y_move (v := .int .i64 k_) rfl rfl) ?_
  obtain ⟨⟨r_1, m1⟩, hc, hF⟩ := bind_inv hF
  refine sc 8 rfl rfl (Yc_func (g := 160) (vs := [.slice B a.Gates.length c, .int .i64 k_]) k_call_160 rfl (mc rfl (mc rfl mn)) (c_laws_markGateS a.Gates k_ B c a.Gates.length _ rfl (hS1.inn [true, false] rfl [] rfl) hc)) ?_
  rintro _ w_1 ⟨rfl, hl, hd⟩
  have hS2 := hS1.out [true, false] rfl hd
  have hS2 : ST w0 (bl [⟨B, 213, (a.Gates.flatMap enc_Gate), c * 3⟩]) _ [⟨some ⟨b, 0, none⟩, 104, [.int .i64 a.Qubits, .slice B a.Gates.length c], 2⟩, ⟨B, 213, (m1.flatMap enc_Gate), c * 3⟩] [] := hS2
  refine sq 1 rfl rfl (Y_assign (v := .int .i64 r_1) rfl rfl) ?_
  refine rw_nil ?_
  refine cw_seq ?_
  refine cw_region ?_
  refine sq 9 rfl rfl (Y_move (v := .int .i64 r_1) rfl rfl) ?_
  refine sq 4 rfl rfl (Y_assign (v := .int .i64 r_1) rfl rfl) ?_
  refine rw_nil ?_
  refine cw_ret ?_
  obtain ⟨rfl, rfl⟩ := pr2 (some_inj hF)
  exact ret1 Try.results66 (v1 := .int .i64 r_1) (resAt_tmp rfl) ⟨rfl, hl, (ST.subR (R' := []) (hS2.sel [1] rfl rfl) (fun _ h => by cases h))⟩

theorem c_laws_markIntS (a : List Int) (k_ : Int) (B : Option Addr) (c n : Nat) (w0 : World) (hn : a.length = n) (hS : ST w0 (bl [⟨B, 3, (a.flatMap encI), c * 1⟩]) w0 [⟨B, 3, (a.flatMap encI), c * 1⟩] []) {r_ : Int} {m : List Int} (hF : F_laws_markIntS a k_ = some (r_, m)) :
    CV Try.prog 68 #[.slice B n c, .int .i64 k_] w0 (fun v w' => v = .int .i64 r_ ∧ m.length = n ∧ ST w0 (bl [⟨B, 3, (a.flatMap encI), c * 1⟩]) w' [⟨B, 3, (m.flatMap encI), c * 1⟩] []) := by
  subst hn
  unfold F_laws_markIntS at hF
  refine cv_of_cw 19 Try.func68 rfl Try.ntmps68 rfl ?_
  refine cw_seq ?_
  refine cw_region ?_
  refine sq 4 rfl rfl (Y_assign (v := .int .i64 0) rfl rfl) ?_
  refine rw_nil ?_
  refine cw_seq ?_
  refine cw_seq ?_
  refine cw_region ?_
  refine sq 5 rfl rfl (Y_assign (v := .int .i64 0) rfl rfl) ?_
  refine rw_nil ?_
  obtain ⟨hN, hF⟩ := chk_inv hF
  obtain ⟨z, hz, hF1⟩ := bind_inv hF
  refine cw_block ?_
  refine cw_loop (fun k f w => ∃ (i1 : Nat) (m1 : List Int) (k_1 : Int), FF f [(0, .slice B a.length c), (1, .int .i64 k_1), (5, .int .i64 (i1 : Int))] ∧ m1.length = a.length ∧ ST w0 (bl [⟨B, 3, (a.flatMap encI), c * 1⟩]) w [⟨B, 3, (m1.flatMap encI), c * 1⟩] [] ∧ i1 + k = a.length ∧ forN F_laws_markIntS_l1 k i1 (m1, k_1) = some z) a.length ⟨0, a, k_, (FF.cons rfl (FF.cons rfl (FF.cons rfl FF.nil))), rfl, (hS.sel [0] rfl rfl), Nat.zero_add _, hz⟩ ?_
  rintro k_2 f w ⟨i1, m1, k_1, hf, hl, hS1, hik, hL⟩
  refine cw_seq ?_
  refine cw_seq ?_
  refine cw_region ?_
  refine sq 6 rfl rfl (Y_move (v := .int .i64 (i1 : Int)) rfl (hf.get 5 2 rfl)) ?_
  refine sq 7 rfl rfl (Y_move (v := .slice B a.length c) rfl (hf.get 0 0 rfl)) ?_
  refine sq 8 rfl rfl (Y_len (B := B) (m := a.length) (c := c) k_sl_59_3 rfl rfl) ?_
  refine sq 9 rfl rfl (Y_lt (k := .i64) (a := (i1 : Int)) (b := (a.length : Int)) rfl rfl rfl) ?_
  refine rw_nil ?_
  refine cw_cond (b := (decide ((i1 : Int) < (a.length : Int)))) rfl (fun hlt => ?_) (fun hlt => ?_)
  · skip
    have hlt1 : i1 < a.length := by have h := of_decide_eq_true hlt; omega
    obtain ⟨k_3, rfl⟩ : ∃ k2, k_2 = k2 + 1 := ⟨k_2 - 1, by omega⟩
    obtain ⟨y, hb, hL1⟩ := forN_go hL
    unfold F_laws_markIntS_l1 at hb
    refine cw_skip ?_
    refine cw_seq ?_
    refine cw_block ?_
    refine cw_seq ?_
    refine cw_region ?_
    refine sq 12 rfl rfl (Y_move (v := .slice B a.length c) rfl (hf.get 0 0 rfl)) ?_
    refine sq 13 rfl rfl (Y_move (v := .int .i64 (i1 : Int)) rfl (hf.get 5 2 rfl)) ?_
    refine sq 14 rfl rfl (Y_move (v := .int .i64 k_1) rfl (hf.get 1 1 rfl)) ?_
    obtain ⟨x, hx, hb⟩ := bind_inv hb
    refine sq 15 rfl rfl (Y_index (B := B) (m := a.length) (c := c) (k := .i64) (i := (i1 : Int)) k_sl_59_3 k_sz_3_1 rfl rfl rfl (gi_isSome encI_len rfl (hS1.cf (i := 0) rfl) hx) (getI_nn hx) (getI_ltI hx hl)) ?_
    refine ss0 rfl rfl (Ys_store (i := 0) (s := 1) (B := B) (T' := 3) (v := .int .i64 k_1) (vs := [.int .i64 k_1]) (k := (i1 : Int).toNat * 1) (cs' := ((m1.set (i1 : Int).toNat k_1).flatMap encI)) hS1 k_sz_3_1 rfl rfl rfl rfl rfl rfl rfl (gi_fit0 encI_len hx) (gi_set encI_len hx k_1 rfl) rfl) ?_
    rintro _ w_ ⟨rfl, hS2⟩
    refine rw_nil ?_
    refine cw_region ?_
    refine sq 16 rfl rfl (Y_move (v := .int .i64 k_1) rfl (hf.get 1 1 rfl)) ?_
    refine sq 17 rfl rfl (Y_add (k := .i64) (a := k_1) (b := 1) rfl rfl rfl) ?_
    refine sq 1 rfl rfl (Y_assign (v := .int .i64 (IntKind.i64.wrap (k_1 + 1))) rfl rfl) ?_
    refine rw_nil ?_
    refine cw_region ?_
    refine sq 10 rfl rfl (Y_move (v := .int .i64 (i1 : Int)) rfl (hf.get 5 2 rfl)) ?_
    refine sq 11 rfl rfl (Y_add (k := .i64) (a := (i1 : Int)) (b := 1) rfl rfl rfl) ?_
    refine sq 5 rfl rfl (Y_assign (v := .int .i64 (IntKind.i64.wrap ((i1 : Int) + 1))) rfl rfl) ?_
    refine rw_nil ?_
    obtain rfl := some_inj hb
    exact ⟨k_3, Nat.lt_succ_self _, i1 + 1, (m1.set (i1 : Int).toNat k_1), (IntKind.i64.wrap (k_1 + 1)), (FF.cons (hf.get 0 0 rfl) (FF.cons rfl (FF.cons (congrArg (Value.int .i64) (wr_succ hlt1 hN)) FF.nil))), (set_len _ _ _ hl), (hS2.sel [0] rfl rfl), (by omega), hL1⟩
  · skip
    obtain rfl : k_2 = 0 := by have h := of_decide_eq_false hlt; omega
    refine cw_exit rfl ?_
    obtain rfl := some_inj hL
    refine cw_seq ?_
    refine cw_region ?_
    refine sq 18 rfl rfl (Y_move (v := .int .i64 k_1) rfl (hf.get 1 1 rfl)) ?_
    refine sq 4 rfl rfl (Y_assign (v := .int .i64 k_1) rfl rfl) ?_
    refine rw_nil ?_
    refine cw_ret ?_
    obtain ⟨rfl, rfl⟩ := pr2 (some_inj hF1)
    exact ret1 Try.results68 (v1 := .int .i64 k_1) (resAt_tmp rfl) ⟨rfl, hl, (ST.subR (R' := []) (hS1.sel [0] rfl rfl) (fun _ h => by cases h))⟩

theorem c_laws_markRouteStepS (a : List TRouteStep) (k_ : Int) (B : Option Addr) (c n : Nat) (w0 : World) (hn : a.length = n) (hS : ST w0 (bl [⟨B, 211, (a.flatMap enc_RouteStep), c * 3⟩]) w0 [⟨B, 211, (a.flatMap enc_RouteStep), c * 3⟩] []) {r_ : Int} {m : List TRouteStep} (hF : F_laws_markRouteStepS a k_ = some (r_, m)) :
    CV Try.prog 161 #[.slice B n c, .int .i64 k_] w0 (fun v w' => v = .int .i64 r_ ∧ m.length = n ∧ ST w0 (bl [⟨B, 211, (a.flatMap enc_RouteStep), c * 3⟩]) w' [⟨B, 211, (m.flatMap enc_RouteStep), c * 3⟩] []) := by
  subst hn
  unfold F_laws_markRouteStepS at hF
  refine cv_of_cw 34 Try.func161 rfl Try.ntmps161 rfl ?_
  refine cw_seq ?_
  refine cw_region ?_
  refine sq 4 rfl rfl (Y_assign (v := .int .i64 0) rfl rfl) ?_
  refine rw_nil ?_
  refine cw_seq ?_
  refine cw_seq ?_
  refine cw_region ?_
  refine sq 5 rfl rfl (Y_assign (v := .int .i64 0) rfl rfl) ?_
  refine rw_nil ?_
  obtain ⟨hN, hF⟩ := chk_inv hF
  obtain ⟨z, hz, hF1⟩ := bind_inv hF
  refine cw_block ?_
  refine cw_loop (fun k f w => ∃ (i1 : Nat) (m1 : List TRouteStep) (k_1 : Int), FF f [(0, .slice B a.length c), (1, .int .i64 k_1), (5, .int .i64 (i1 : Int))] ∧ m1.length = a.length ∧ ST w0 (bl [⟨B, 211, (a.flatMap enc_RouteStep), c * 3⟩]) w [⟨B, 211, (m1.flatMap enc_RouteStep), c * 3⟩] [] ∧ i1 + k = a.length ∧ forN F_laws_markRouteStepS_l1 k i1 (m1, k_1) = some z) a.length ⟨0, a, k_, (FF.cons rfl (FF.cons rfl (FF.cons rfl FF.nil))), rfl, (hS.sel [0] rfl rfl), Nat.zero_add _, hz⟩ ?_
  rintro k_2 f w ⟨i1, m1, k_1, hf, hl, hS1, hik, hL⟩
  refine cw_seq ?_
  refine cw_seq ?_
  refine cw_region ?_
  refine sq 6 rfl rfl (Y_move (v := .int .i64 (i1 : Int)) rfl (hf.get 5 2 rfl)) ?_
  refine sq 7 rfl rfl (Y_move (v := .slice B a.length c) rfl (hf.get 0 0 rfl)) ?_
  refine sq 8 rfl rfl (Y_len (B := B) (m := a.length) (c := c) k_sl_106_211 rfl rfl) ?_
  refine sq 9 rfl rfl (Y_lt (k := .i64) (a := (i1 : Int)) (b := (a.length : Int)) rfl rfl rfl) ?_
  refine rw_nil ?_
  refine cw_cond (b := (decide ((i1 : Int) < (a.length : Int)))) rfl (fun hlt => ?_) (fun hlt => ?_)
  · skip
    have hlt1 : i1 < a.length := by have h := of_decide_eq_true hlt; omega
    obtain ⟨k_3, rfl⟩ : ∃ k2, k_2 = k2 + 1 := ⟨k_2 - 1, by omega⟩
    obtain ⟨y, hb, hL1⟩ := forN_go hL
    unfold F_laws_markRouteStepS_l1 at hb
    refine cw_skip ?_
    refine cw_seq ?_
    refine cw_block ?_
    refine cw_seq ?_
    refine cw_region ?_
    refine sq 12 rfl rfl (Y_move (v := .slice B a.length c) rfl (hf.get 0 0 rfl)) ?_
    refine sq 13 rfl rfl (Y_move (v := .int .i64 (i1 : Int)) rfl (hf.get 5 2 rfl)) ?_
    refine sq 14 rfl rfl (Y_move (v := .int .i64 k_1) rfl (hf.get 1 1 rfl)) ?_
    obtain ⟨x, hx, hb⟩ := bind_inv hb
    refine sq 15 rfl rfl (Y_index (B := B) (m := a.length) (c := c) (k := .i64) (i := (i1 : Int)) k_sl_106_211 k_sz_211_3 rfl rfl rfl (gi_isSome enc_RouteStep_len rfl (hS1.cf (i := 0) rfl) hx) (getI_nn hx) (getI_ltI hx hl)) ?_
    refine sq 16 rfl rfl (Y_fieldAddr (B := B) (i := (i1 : Int).toNat * 3) (s := 0) k_fd_211_0_0_3 k_sz_3_1 rfl rfl) ?_
    refine ss0 rfl rfl (Ys_store (i := 0) (s := 1) (B := B) (T' := 211) (v := .int .i64 k_1) (vs := [.int .i64 k_1]) (k := (i1 : Int).toNat * 3 + 0) (cs' := ((m1.set (i1 : Int).toNat (TRouteStep.mk k_1 x.A x.B)).flatMap enc_RouteStep)) hS1 k_sz_3_1 rfl rfl rfl rfl rfl rfl rfl (gi_fit enc_RouteStep_len hx (j := 0) (k := 1) (by decide)) (gi_setf enc_RouteStep_len hx (TRouteStep.mk k_1 x.A x.B) rfl (Nat.le_of_ble_eq_true rfl)) rfl) ?_
    rintro _ w_ ⟨rfl, hS2⟩
    refine rw_nil ?_
    refine cw_seq ?_
    refine cw_region ?_
    refine sq 17 rfl rfl (Y_move (v := .int .i64 k_1) rfl (hf.get 1 1 rfl)) ?_
    refine sq 18 rfl rfl (Y_add (k := .i64) (a := k_1) (b := 1) rfl rfl rfl) ?_
    refine sq 1 rfl rfl (Y_assign (v := .int .i64 (IntKind.i64.wrap (k_1 + 1))) rfl rfl) ?_
    refine rw_nil ?_
    refine cw_seq ?_
    refine cw_region ?_
    refine sq 19 rfl rfl (Y_move (v := .slice B a.length c) rfl (hf.get 0 0 rfl)) ?_
    refine sq 20 rfl rfl (Y_move (v := .int .i64 (i1 : Int)) rfl (hf.get 5 2 rfl)) ?_
    refine sq 21 rfl rfl (Y_move (v := .int .i64 (IntKind.i64.wrap (k_1 + 1))) rfl rfl) ?_
    refine sq 22 rfl rfl (Y_index (B := B) (m := a.length) (c := c) (k := .i64) (i := (i1 : Int)) k_sl_106_211 k_sz_211_3 rfl rfl rfl (gi_isSome enc_RouteStep_len rfl (hS2.cf (i := 0) rfl) (getI_set (y := (TRouteStep.mk k_1 x.A x.B)) hx)) (getI_nn (getI_set (y := (TRouteStep.mk k_1 x.A x.B)) hx)) (getI_ltI (getI_set (y := (TRouteStep.mk k_1 x.A x.B)) hx) (set_len _ _ _ hl))) ?_
    refine sq 23 rfl rfl (Y_fieldAddr (B := B) (i := (i1 : Int).toNat * 3) (s := 0) k_fd_211_1_1_3 k_sz_3_1 rfl rfl) ?_
    refine ss0 rfl rfl (Ys_store (i := 0) (s := 1) (B := B) (T' := 211) (v := .int .i64 (IntKind.i64.wrap (k_1 + 1))) (vs := [.int .i64 (IntKind.i64.wrap (k_1 + 1))]) (k := (i1 : Int).toNat * 3 + 1) (cs' := (((m1.set (i1 : Int).toNat (TRouteStep.mk k_1 x.A x.B)).set (i1 : Int).toNat (TRouteStep.mk k_1 (IntKind.i64.wrap (k_1 + 1)) x.B)).flatMap enc_RouteStep)) hS2 k_sz_3_1 rfl rfl rfl rfl rfl rfl rfl (gi_fit enc_RouteStep_len (getI_set (y := (TRouteStep.mk k_1 x.A x.B)) hx) (j := 1) (k := 1) (by decide)) (gi_setf enc_RouteStep_len (getI_set (y := (TRouteStep.mk k_1 x.A x.B)) hx) (TRouteStep.mk k_1 (IntKind.i64.wrap (k_1 + 1)) x.B) rfl (Nat.le_of_ble_eq_true rfl)) rfl) ?_
    rintro _ w_1 ⟨rfl, hS3⟩
    refine rw_nil ?_
    refine cw_seq ?_
    refine cw_region ?_
    refine sq 24 rfl rfl (Y_move (v := .int .i64 (IntKind.i64.wrap (k_1 + 1))) rfl rfl) ?_
    refine sq 25 rfl rfl (Y_add (k := .i64) (a := (IntKind.i64.wrap (k_1 + 1))) (b := 1) rfl rfl rfl) ?_
    refine sq 1 rfl rfl (Y_assign (v := .int .i64 (IntKind.i64.wrap ((IntKind.i64.wrap (k_1 + 1)) + 1))) rfl rfl) ?_
    refine rw_nil ?_
    refine cw_seq ?_
    refine cw_region ?_
    refine sq 26 rfl rfl (Y_move (v := .slice B a.length c) rfl (hf.get 0 0 rfl)) ?_
    refine sq 27 rfl rfl (Y_move (v := .int .i64 (i1 : Int)) rfl (hf.get 5 2 rfl)) ?_
    refine sq 28 rfl rfl (Y_move (v := .int .i64 (IntKind.i64.wrap ((IntKind.i64.wrap (k_1 + 1)) + 1))) rfl rfl) ?_
    refine sq 29 rfl rfl (Y_index (B := B) (m := a.length) (c := c) (k := .i64) (i := (i1 : Int)) k_sl_106_211 k_sz_211_3 rfl rfl rfl (gi_isSome enc_RouteStep_len rfl (hS3.cf (i := 0) rfl) (getI_set (y := (TRouteStep.mk k_1 (IntKind.i64.wrap (k_1 + 1)) x.B)) (getI_set (y := (TRouteStep.mk k_1 x.A x.B)) hx))) (getI_nn (getI_set (y := (TRouteStep.mk k_1 (IntKind.i64.wrap (k_1 + 1)) x.B)) (getI_set (y := (TRouteStep.mk k_1 x.A x.B)) hx))) (getI_ltI (getI_set (y := (TRouteStep.mk k_1 (IntKind.i64.wrap (k_1 + 1)) x.B)) (getI_set (y := (TRouteStep.mk k_1 x.A x.B)) hx)) (set_len _ _ _ (set_len _ _ _ hl)))) ?_
    refine sq 30 rfl rfl (Y_fieldAddr (B := B) (i := (i1 : Int).toNat * 3) (s := 0) k_fd_211_2_2_3 k_sz_3_1 rfl rfl) ?_
    refine ss0 rfl rfl (Ys_store (i := 0) (s := 1) (B := B) (T' := 211) (v := .int .i64 (IntKind.i64.wrap ((IntKind.i64.wrap (k_1 + 1)) + 1))) (vs := [.int .i64 (IntKind.i64.wrap ((IntKind.i64.wrap (k_1 + 1)) + 1))]) (k := (i1 : Int).toNat * 3 + 2) (cs' := ((((m1.set (i1 : Int).toNat (TRouteStep.mk k_1 x.A x.B)).set (i1 : Int).toNat (TRouteStep.mk k_1 (IntKind.i64.wrap (k_1 + 1)) x.B)).set (i1 : Int).toNat (TRouteStep.mk k_1 (IntKind.i64.wrap (k_1 + 1)) (IntKind.i64.wrap ((IntKind.i64.wrap (k_1 + 1)) + 1)))).flatMap enc_RouteStep)) hS3 k_sz_3_1 rfl rfl rfl rfl rfl rfl rfl (gi_fit enc_RouteStep_len (getI_set (y := (TRouteStep.mk k_1 (IntKind.i64.wrap (k_1 + 1)) x.B)) (getI_set (y := (TRouteStep.mk k_1 x.A x.B)) hx)) (j := 2) (k := 1) (by decide)) (gi_setf enc_RouteStep_len (getI_set (y := (TRouteStep.mk k_1 (IntKind.i64.wrap (k_1 + 1)) x.B)) (getI_set (y := (TRouteStep.mk k_1 x.A x.B)) hx)) (TRouteStep.mk k_1 (IntKind.i64.wrap (k_1 + 1)) (IntKind.i64.wrap ((IntKind.i64.wrap (k_1 + 1)) + 1))) rfl (Nat.le_of_ble_eq_true rfl)) rfl) ?_
    rintro _ w_2 ⟨rfl, hS4⟩
    refine rw_nil ?_
    refine cw_region ?_
    refine sq 31 rfl rfl (Y_move (v := .int .i64 (IntKind.i64.wrap ((IntKind.i64.wrap (k_1 + 1)) + 1))) rfl rfl) ?_
    refine sq 32 rfl rfl (Y_add (k := .i64) (a := (IntKind.i64.wrap ((IntKind.i64.wrap (k_1 + 1)) + 1))) (b := 1) rfl rfl rfl) ?_
    refine sq 1 rfl rfl (Y_assign (v := .int .i64 (IntKind.i64.wrap ((IntKind.i64.wrap ((IntKind.i64.wrap (k_1 + 1)) + 1)) + 1))) rfl rfl) ?_
    refine rw_nil ?_
    refine cw_region ?_
    refine sq 10 rfl rfl (Y_move (v := .int .i64 (i1 : Int)) rfl (hf.get 5 2 rfl)) ?_
    refine sq 11 rfl rfl (Y_add (k := .i64) (a := (i1 : Int)) (b := 1) rfl rfl rfl) ?_
    refine sq 5 rfl rfl (Y_assign (v := .int .i64 (IntKind.i64.wrap ((i1 : Int) + 1))) rfl rfl) ?_
    refine rw_nil ?_
    obtain rfl := some_inj hb
    exact ⟨k_3, Nat.lt_succ_self _, i1 + 1, (((m1.set (i1 : Int).toNat (TRouteStep.mk k_1 x.A x.B)).set (i1 : Int).toNat (TRouteStep.mk k_1 (IntKind.i64.wrap (k_1 + 1)) x.B)).set (i1 : Int).toNat (TRouteStep.mk k_1 (IntKind.i64.wrap (k_1 + 1)) (IntKind.i64.wrap ((IntKind.i64.wrap (k_1 + 1)) + 1)))), (IntKind.i64.wrap ((IntKind.i64.wrap ((IntKind.i64.wrap (k_1 + 1)) + 1)) + 1)), (FF.cons (hf.get 0 0 rfl) (FF.cons rfl (FF.cons (congrArg (Value.int .i64) (wr_succ hlt1 hN)) FF.nil))), (set_len _ _ _ (set_len _ _ _ (set_len _ _ _ hl))), (hS4.sel [0] rfl rfl), (by omega), hL1⟩
  · skip
    obtain rfl : k_2 = 0 := by have h := of_decide_eq_false hlt; omega
    refine cw_exit rfl ?_
    obtain rfl := some_inj hL
    refine cw_seq ?_
    refine cw_region ?_
    refine sq 33 rfl rfl (Y_move (v := .int .i64 k_1) rfl (hf.get 1 1 rfl)) ?_
    refine sq 4 rfl rfl (Y_assign (v := .int .i64 k_1) rfl rfl) ?_
    refine rw_nil ?_
    refine cw_ret ?_
    obtain ⟨rfl, rfl⟩ := pr2 (some_inj hF1)
    exact ret1 Try.results161 (v1 := .int .i64 k_1) (resAt_tmp rfl) ⟨rfl, hl, (ST.subR (R' := []) (hS1.sel [0] rfl rfl) (fun _ h => by cases h))⟩

theorem c_laws_markRoute (a : TRoute) (k_ : Int) (B : Option Addr) (c n : Nat) (B1 : Option Addr) (c1 n1 : Nat) (w0 : World) (hn : a.Start.length = n) (hn1 : a.Steps.length = n1) (hS : ST w0 (bl [⟨B, 3, (a.Start.flatMap encI), c * 1⟩, ⟨B1, 211, (a.Steps.flatMap enc_RouteStep), c1 * 3⟩]) w0 [⟨B, 3, (a.Start.flatMap encI), c * 1⟩, ⟨B1, 211, (a.Steps.flatMap enc_RouteStep), c1 * 3⟩] []) {r_ : Int} {m : List Int} {m1 : List TRouteStep} (hF : F_laws_markRoute a k_ = some (r_, m, m1)) :
    CV Try.prog 67 #[.agg #[.slice B n c, .slice B1 n1 c1], .int .i64 k_] w0 (fun v w' => v = .int .i64 r_ ∧ m.length = n ∧ m1.length = n1 ∧ ST w0 (bl [⟨B, 3, (a.Start.flatMap encI), c * 1⟩, ⟨B1, 211, (a.Steps.flatMap enc_RouteStep), c1 * 3⟩]) w' [⟨B, 3, (m.flatMap encI), c * 1⟩, ⟨B1, 211, (m1.flatMap enc_RouteStep), c1 * 3⟩] []) := by
  subst hn
  subst hn1
  unfold F_laws_markRoute at hF
  refine cv_of_cw 14 Try.func67 rfl Try.ntmps67 rfl ?_
  refine cw_seq ?_
  refine cw_region ?_
  refine ss 2 rfl rfl (Ys_box (T := 108) (v := .agg #[.slice B a.Start.length c, .slice B1 a.Steps.length c1]) (cs := [.slice B a.Start.length c, .slice B1 a.Steps.length c1]) (m := 2) hS rfl rfl rfl rfl) ?_
  rintro _ w_ ⟨b, rfl, hS1⟩
  have hS1 : ST w0 (bl [⟨B, 3, (a.Start.flatMap encI), c * 1⟩, ⟨B1, 211, (a.Steps.flatMap enc_RouteStep), c1 * 3⟩]) _ [⟨B, 3, (a.Start.flatMap encI), c * 1⟩, ⟨B1, 211, (a.Steps.flatMap enc_RouteStep), c1 * 3⟩, ⟨some ⟨b, 0, none⟩, 108, [.slice B a.Start.length c, .slice B1 a.Steps.length c1], 2⟩] [] := hS1
  refine sq 4 rfl rfl (Y_assign (v := .int .i64 0) rfl rfl) ?_
  refine rw_nil ?_
  refine cw_seq ?_
  refine cw_region ?_
  refine sq 5 rfl rfl (Y_fieldAddr (B := some ⟨b, 0, none⟩) (i := 0) (s := 0) k_fd_108_0_0_59 k_sz_59_1 rfl rfl) ?_
  refine sq 6 rfl rfl (Y_load1 (B := some ⟨b, 0, none⟩) (i := 0) (cs := [.slice B a.Start.length c, .slice B1 a.Steps.length c1]) (v := .slice B a.Start.length c) k_sc_59 rfl rfl (hS1.cf (i := 2) rfl) rfl) ?_
  refine sq 7 rfl rfl (Y_move (v := .int .i64 k_) rfl rfl) ?_
  obtain ⟨⟨r_1, m2⟩, hc, hF⟩ := bind_inv hF
  refine sc 8 rfl rfl (Yc_func (g := 68) (vs := [.slice B a.Start.length c, .int .i64 k_]) k_call_68 rfl (mc rfl (mc rfl mn)) (c_laws_markIntS a.Start k_ B c a.Start.length _ rfl (hS1.inn [true, false, false] rfl [] rfl) hc)) ?_
  rintro _ w_1 ⟨rfl, hl, hd⟩
  have hS2 := hS1.out [true, false, false] rfl hd
  have hS2 : ST w0 (bl [⟨B, 3, (a.Start.flatMap encI), c * 1⟩, ⟨B1, 211, (a.Steps.flatMap enc_RouteStep), c1 * 3⟩]) _ [⟨B1, 211, (a.Steps.flatMap enc_RouteStep), c1 * 3⟩, ⟨some ⟨b, 0, none⟩, 108, [.slice B a.Start.length c, .slice B1 a.Steps.length c1], 2⟩, ⟨B, 3, (m2.flatMap encI), c * 1⟩] [] := hS2
  refine sq 1 rfl rfl (Y_assign (v := .int .i64 r_1) rfl rfl) ?_
  refine rw_nil ?_
  refine cw_seq ?_
  refine cw_region ?_
  refine sq 9 rfl rfl (Y_fieldAddr (B := some ⟨b, 0, none⟩) (i := 0) (s := 0) k_fd_108_1_1_106 k_sz_106_1 rfl rfl) ?_
  refine sq 10 rfl rfl (Y_load1 (B := some ⟨b, 0, none⟩) (i := 1) (cs := [.slice B a.Start.length c, .slice B1 a.Steps.length c1]) (v := .slice B1 a.Steps.length c1) k_sc_106 rfl rfl (hS2.cf (i := 1) rfl) rfl) ?_
  refine sq 11 rfl rfl (Y_move (v := .int .i64 r_1) rfl rfl) ?_
  obtain ⟨⟨r_2, m3⟩, hc1, hF⟩ := bind_inv hF
  refine sc 12 rfl rfl (Yc_func (g := 161) (vs := [.slice B1 a.Steps.length c1, .int .i64 r_1]) k_call_161 rfl (mc rfl (mc rfl mn)) (c_laws_markRouteStepS a.Steps r_1 B1 c1 a.Steps.length _ rfl (hS2.inn [true, false, false] rfl [] rfl) hc1)) ?_
  rintro _ w_2 ⟨rfl, hl1, hd1⟩
  have hS3 := hS2.out [true, false, false] rfl hd1
  have hS3 : ST w0 (bl [⟨B, 3, (a.Start.flatMap encI), c * 1⟩, ⟨B1, 211, (a.Steps.flatMap enc_RouteStep), c1 * 3⟩]) _ [⟨some ⟨b, 0, none⟩, 108, [.slice B a.Start.length c, .slice B1 a.Steps.length c1], 2⟩, ⟨B, 3, (m2.flatMap encI), c * 1⟩, ⟨B1, 211, (m3.flatMap enc_RouteStep), c1 * 3⟩] [] := hS3
  refine sq 1 rfl rfl (Y_assign (v := .int .i64 r_2) rfl rfl) ?_
  refine rw_nil ?_
  refine cw_seq ?_
  refine cw_region ?_
  refine sq 13 rfl rfl (Y_move (v := .int .i64 r_2) rfl rfl) ?_
  refine sq 4 rfl rfl (Y_assign (v := .int .i64 r_2) rfl rfl) ?_
  refine rw_nil ?_
  refine cw_ret ?_
  obtain ⟨rfl, rfl, rfl⟩ := pr3 (some_inj hF)
  exact ret1 Try.results67 (v1 := .int .i64 r_2) (resAt_tmp rfl) ⟨rfl, hl, hl1, (ST.subR (R' := []) (hS3.sel [1, 2] rfl rfl) (fun _ h => by cases h))⟩

theorem c_laws_heldIntS (a : List Int) (k_ : Int) (B : Option Addr) (c n : Nat) (w0 : World) (hn : a.length = n) (hS : ST w0 [] w0 [] [⟨B, (a.flatMap encI)⟩]) {r_ : Int} (hF : F_laws_heldIntS a k_ = some r_) :
    CV Try.prog 69 #[.slice B n c, .int .i64 k_] w0 (fun v w' => v = .int .i64 r_ ∧ ST w0 [] w' [] []) := by
  subst hn
  unfold F_laws_heldIntS at hF
  refine cv_of_cw 21 Try.func69 rfl Try.ntmps69 rfl ?_
  refine cw_seq ?_
  refine cw_region ?_
  refine sq 4 rfl rfl (Y_assign (v := .int .i64 0) rfl rfl) ?_
  refine rw_nil ?_
  refine cw_seq ?_
  refine cw_seq ?_
  refine cw_region ?_
  refine sq 5 rfl rfl (Y_assign (v := .int .i64 0) rfl rfl) ?_
  refine rw_nil ?_
  obtain ⟨hN, hF⟩ := chk_inv hF
  obtain ⟨z, hz, hF1⟩ := bind_inv hF
  refine cw_block ?_
  refine cw_loop (fun k f w => ∃ (i1 : Nat) (k_1 : Int), FF f [(0, .slice B a.length c), (1, .int .i64 k_1), (5, .int .i64 (i1 : Int))] ∧ ST w0 [] w [] [⟨B, (a.flatMap encI)⟩] ∧ i1 + k = a.length ∧ forX (F_laws_heldIntS_l1 a) k i1 k_1 = some z) a.length ⟨0, k_, (FF.cons rfl (FF.cons rfl (FF.cons rfl FF.nil))), (hS.sel [] rfl rfl), Nat.zero_add _, hz⟩ ?_
  rintro k_2 f w ⟨i1, k_1, hf, hS1, hik, hL⟩
  refine cw_seq ?_
  refine cw_seq ?_
  refine cw_region ?_
  refine sq 6 rfl rfl (Y_move (v := .int .i64 (i1 : Int)) rfl (hf.get 5 2 rfl)) ?_
  refine sq 7 rfl rfl (Y_move (v := .slice B a.length c) rfl (hf.get 0 0 rfl)) ?_
  refine sq 8 rfl rfl (Y_len (B := B) (m := a.length) (c := c) k_sl_59_3 rfl rfl) ?_
  refine sq 9 rfl rfl (Y_lt (k := .i64) (a := (i1 : Int)) (b := (a.length : Int)) rfl rfl rfl) ?_
  refine rw_nil ?_
  refine cw_cond (b := (decide ((i1 : Int) < (a.length : Int)))) rfl (fun hlt => ?_) (fun hlt => ?_)
  · skip
    have hlt1 : i1 < a.length := by have h := of_decide_eq_true hlt; omega
    obtain ⟨k_3, rfl⟩ : ∃ k2, k_2 = k2 + 1 := ⟨k_2 - 1, by omega⟩
    obtain ⟨y, hb, hL1⟩ := forX_go hL
    unfold F_laws_heldIntS_l1 at hb
    refine cw_skip ?_
    refine cw_seq ?_
    refine cw_block ?_
    refine cw_seq ?_
    refine cw_seq ?_
    refine cw_region ?_
    refine sq 12 rfl rfl (Y_move (v := .slice B a.length c) rfl (hf.get 0 0 rfl)) ?_
    refine sq 13 rfl rfl (Y_move (v := .int .i64 (i1 : Int)) rfl (hf.get 5 2 rfl)) ?_
    obtain ⟨x, hx, hb⟩ := bind_inv hb
    refine sq 14 rfl rfl (Y_index (B := B) (m := a.length) (c := c) (k := .i64) (i := (i1 : Int)) k_sl_59_3 k_sz_3_1 rfl rfl rfl (gi_isSome encI_len rfl (hS1.rf (i := 0) rfl) hx) (getI_nn hx) (getI_ltI hx rfl)) ?_
    refine sq 15 rfl rfl (Y_load1 (B := B) (i := (i1 : Int).toNat * 1) (cs := (a.flatMap encI)) (v := .int .i64 x) k_sc_3 rfl rfl (hS1.rf (i := 0) rfl) (gi_at0 encI_len hx rfl)) ?_
    refine sq 16 rfl rfl (Y_move (v := .int .i64 k_1) rfl (hf.get 1 1 rfl)) ?_
    refine sq 17 rfl rfl (Y_ne (k := .i64) (a := x) (b := k_1) rfl rfl rfl) ?_
    refine rw_nil ?_
    refine cw_cond (b := (x != k_1)) rfl (fun hb1 => ?_) (fun hb1 => ?_)
    · skip
      have hF2 := ct hb hb1
      refine cw_seq ?_
      refine cw_region ?_
      refine sq 4 rfl rfl (Y_assign (v := .int .i64 (-1)) rfl rfl) ?_
      refine rw_nil ?_
      refine cw_ret ?_
      obtain rfl := some_inj hF2
      obtain rfl := some_inj hL1
      obtain rfl := some_inj hF1
      exact ret1 Try.results69 (v1 := .int .i64 (-1)) (resAt_tmp rfl) ⟨rfl, (ST.subR (R' := []) (hS1.sel [] rfl rfl) (fun _ h => by cases h))⟩
    · skip
      have hF3 := cf' hb hb1
      refine cw_skip ?_
      refine cw_region ?_
      refine sq 18 rfl rfl (Y_move (v := .int .i64 k_1) rfl (hf.get 1 1 rfl)) ?_
      refine sq 19 rfl rfl (Y_add (k := .i64) (a := k_1) (b := 1) rfl rfl rfl) ?_
      refine sq 1 rfl rfl (Y_assign (v := .int .i64 (IntKind.i64.wrap (k_1 + 1))) rfl rfl) ?_
      refine rw_nil ?_
      refine cw_region ?_
      refine sq 10 rfl rfl (Y_move (v := .int .i64 (i1 : Int)) rfl (hf.get 5 2 rfl)) ?_
      refine sq 11 rfl rfl (Y_add (k := .i64) (a := (i1 : Int)) (b := 1) rfl rfl rfl) ?_
      refine sq 5 rfl rfl (Y_assign (v := .int .i64 (IntKind.i64.wrap ((i1 : Int) + 1))) rfl rfl) ?_
      refine rw_nil ?_
      obtain rfl := some_inj hF3
      exact ⟨k_3, Nat.lt_succ_self _, i1 + 1, (IntKind.i64.wrap (k_1 + 1)), (FF.cons (hf.get 0 0 rfl) (FF.cons rfl (FF.cons (congrArg (Value.int .i64) (wr_succ hlt1 hN)) FF.nil))), (hS1.sel [] rfl rfl), (by omega), hL1⟩
  · skip
    obtain rfl : k_2 = 0 := by have h := of_decide_eq_false hlt; omega
    refine cw_exit rfl ?_
    obtain rfl := some_inj hL
    refine cw_seq ?_
    refine cw_region ?_
    refine sq 20 rfl rfl (Y_move (v := .int .i64 k_1) rfl (hf.get 1 1 rfl)) ?_
    refine sq 4 rfl rfl (Y_assign (v := .int .i64 k_1) rfl rfl) ?_
    refine rw_nil ?_
    refine cw_ret ?_
    obtain rfl := some_inj hF1
    exact ret1 Try.results69 (v1 := .int .i64 k_1) (resAt_tmp rfl) ⟨rfl, (ST.subR (R' := []) (hS1.sel [] rfl rfl) (fun _ h => by cases h))⟩
end Go.VK
