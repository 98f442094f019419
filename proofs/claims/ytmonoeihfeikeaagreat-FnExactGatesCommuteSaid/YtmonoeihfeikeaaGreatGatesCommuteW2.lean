/- Walks: each Go function returns what its Lean function says. By program. -/
import Derived.Test.YtmonoeihfeikeaaGreatGatesCommuteFa
import Derived.Test.YtmonoeihfeikeaaGreatGatesCommuteShelf
import Derived.Test.YtmonoeihfeikeaaGreatLibQ
import Derived.Test.YtmonoeihfeikeaaGreatLibR
import Derived.Test.YtmonoeihfeikeaaGreatGatesCommuteW1
set_option linter.unusedVariables false
set_option maxRecDepth 100000
set_option maxHeartbeats 4000000
namespace Go.VK
open Go.RowKit
open Go.Proofs
open Go.IntKind
attribute [local irreducible] CW RW RA CV Y Yw Yc Ys RetOf
attribute [local irreducible] F_spec_l1In F_spec_l4Gate F_spec_EqualMatrices F_spec_l1All F_spec_l1Good F_spec_l2C_ring F_spec_l1Root F_spec_l1Even F_spec_l1Half F_spec_l2Low F_spec_l1Add F_spec_l2C_add F_spec_l1Mul F_spec_l2C_mul F_spec_l2C_times F_spec_l1Turn F_spec_l2Power F_spec_l6Bit F_spec_l1Neg F_spec_l2Neg F_spec_l6One F_spec_l6Cell F_spec_l6Gate F_spec_l22Two F_spec_l23Qubits F_spec_l1Has F_spec_l24Common F_spec_l1Put F_spec_l24At F_spec_l24Small F_spec_l24Commute F_spec_GatesCommute F_laws_toGate F_impl_within F_impl_isTwo F_impl_IsValidGate F_slices_IndexFunc_impl_Gate_impl_Gate F_slices_ContainsFunc_impl_Gate_impl_Gate F_impl_IsValidCircuit_1 F_impl_IsValidCircuit F_impl_isDim F_impl_matrixOf F_impl_whole F_impl_IdentityMatrix_1 F_impl_IdentityMatrix F_impl_isCoef F_impl_IsValidRing F_impl_MulOmega F_impl_phase F_impl_bitOf F_impl_flipped F_impl_comesFrom F_impl_small F_impl_entry F_impl_GateMatrix_1 F_impl_GateMatrix F_slices_IndexFunc_impl_Dyadic_impl_Dyadic F_slices_ContainsFunc_impl_Dyadic_impl_Dyadic F_impl_isEven F_impl_IsValidDyadic F_impl_IsValidMatrix_1 F_impl_IsValidMatrix F_impl_Matrix_at F_impl_ringIf F_impl_MulRing F_impl_DivRootTwo F_impl_DyadicOf F_impl_MulDyadic F_impl_MulRootTwo F_impl_raised F_impl_combined F_impl_AddRing F_impl_AddDyadic F_impl_MulMatrix_1 F_impl_MulMatrix F_impl_applied F_impl_OperatorOf F_slices_Equal_impl_Dyadic_impl_Dyadic F_impl_EqualMatrices F_impl_qubitsOf F_slices_IndexFunc_int_int F_slices_ContainsFunc_int_int F_slices_Index_int_int F_slices_Contains_int_int F_impl_meet_1 F_impl_meet F_slices_Concat_int_int F_slices_Sort_int_int F_impl_union F_impl_mapped F_impl_commutes F_impl_GatesCommute F_laws_FnExactGatesCommute
theorem c_spec_l24Small (g : TGate) (all : List Int) (B : Option Addr) (c n : Nat) (w0 : World) (hn : all.length = n) (hS : ST w0 [] w0 [] [⟨B, (all.flatMap encI)⟩]) {r_ : TGate} (hF : F_spec_l24Small g all = some r_) :
  CV Tryz.prog 110 #[.agg #[vi g.Kind, vi g.A, vi g.B], .slice B n c] w0 (fun v w' => v = .agg #[vi r_.Kind, vi r_.A, vi r_.B] ∧ ST w0 [] w' [] []) := by
 subst hn
 unfold F_spec_l24Small at hF
 refine cv_of_cw 27 Tryz.func110 rfl Tryz.ntmps110 rfl ?_
 refine cw_seq (cw_region ?_)
 refine sS 2 (Ys_box (T := 67) (v := .agg #[vi g.Kind, vi g.A, vi g.B]) (cs := [vi g.Kind, vi g.A, vi g.B]) (m := 3) hS rfl rfl rfl rfl) ?_
 rintro _ w_ ⟨b, rfl, hS1⟩
 refine sS 4 (Ys_alloc (T := 67) (cs := [vi 0, vi 0, vi 0]) (m := 3) hS1 k_zero_67 rfl rfl rfl) ?_
 rintro _ w_1 ⟨b1, rfl, hS2⟩
 refine rw_nil (cw_seq (cw_seq (cw_region ?_)))
 refine sQ 7 (Y_move (v := .slice B all.length c) rfl rfl) ?_
 refine sQ 8 (Y_len (B := B) (m := all.length) (c := c) k_sl_43_3 rfl rfl) ?_
 refine sQ 9 (Y_move (v := vi 0) rfl rfl) (rw_nil ?_)
 obtain ⟨hN, hF⟩ := chk_inv hF
 obtain ⟨z, hz, hF1⟩ := bind_inv hF
 refine cw_block ?_
 refine cw_loop (fun k f w => ∃ (i : Nat), FF f [(1, .slice B all.length c), (2, pt (aD b) 0), (4, pt (aD b1) 0), (7, .slice B all.length c), (8, vi (all.length : Int)), (9, vi (i : Int))] ∧ ST w0 [] w [⟨aD b, 67, [vi g.Kind, vi g.A, vi g.B], 3⟩, ⟨aD b1, 67, [vi 0, vi 0, vi 0], 3⟩] [⟨B, (all.flatMap encI)⟩] ∧ i + k = all.length ∧ forX (F_spec_l24Small_l1 all g) k i () = some z) all.length ⟨0, (FF.cons rfl (FF.cons rfl (FF.cons rfl (FF.cons rfl (FF.cons rfl (FF.cons rfl FF.nil)))))), (hS2.sel [0, 1] rfl rfl), Nat.zero_add _, hz⟩ ?_
 rintro k_ f w ⟨i, hf, hS3, hik, hL⟩
 refine cw_seq (cw_region ?_)
 refine sQ 10 (Y_lt (k := .i64) (a := (i : Int)) (b := (all.length : Int)) rfl (hf.get 9 5 rfl) (hf.get 8 4 rfl)) (rw_nil (cw_seq ?_))
 refine cw_cond (b := (decide ((i : Int) < (all.length : Int)))) rfl (fun hlt => ?_) (fun hlt => ?_)
 ·skip
  have hlt1 : i < all.length := by have h := of_decide_eq_true hlt; omega
  obtain ⟨k_1, rfl⟩ : ∃ k2, k_ = k2 + 1 := ⟨k_ - 1, by omega⟩
  obtain ⟨y, hb, hL1⟩ := forX_go hL
  unfold F_spec_l24Small_l1 at hb
  refine cw_skip (cw_seq (cw_block (cw_seq (cw_region ?_))))
  refine sQ 11 (Y_move (v := vi (i : Int)) rfl (hf.get 9 5 rfl)) ?_
  obtain ⟨x, hx, hb⟩ := bind_inv hb
  refine sQ 12 (Y_index (B := B) (m := all.length) (c := c) (k := .i64) (i := (i : Int)) k_sl_43_3 k_sz_3_1 rfl (hf.get 7 3 rfl) (hf.get 9 5 rfl) (gi_isSome encI_len rfl (hS3.rf (i := 0) rfl) hx) (getI_nn hx) (getI_ltI hx rfl)) ?_
  refine sQ 13 (Y_load1 (B := B) (i := (i : Int).toNat * 1) (cs := (all.flatMap encI)) (v := vi x) k_sc_3 rfl rfl (hS3.rf (i := 0) rfl) (gi_at0 encI_len hx rfl)) ?_
  refine sQ 5 (Y_assign (v := vi (i : Int)) rfl rfl) ?_
  refine sQ 6 (Y_assign (v := vi x) rfl rfl) (rw_nil (cw_seq (cw_region ?_)))
  refine sQ 14 (Y_move (v := vi x) rfl rfl) ?_
  refine sQ 15 (Y_fieldAddr (B := aD b) (i := 0) (s := 0) k_fd_67_1_1_3 k_sz_3_1 rfl (hf.get 2 1 rfl)) ?_
  refine sQ 16 (Y_load1 (B := aD b) (i := 1) (cs := [vi g.Kind, vi g.A, vi g.B]) (v := vi g.A) k_sc_3 rfl rfl (hS3.cf (i := 0) rfl) rfl) ?_
  refine sQ 17 (Y_eq (k := .i64) (a := x) (b := g.A) rfl rfl rfl) (rw_nil ?_)
  refine cw_cond (b := (x == g.A)) rfl (fun hb1 => ?_) (fun hb1 => ?_)
  ·skip
   have hF2 := ct hb hb1
   refine cw_seq ?_
   obtain ⟨r_1, hc, hF2⟩ := bind_inv hF2
   refine ra_start (hS3.se [0]).fn (by kernel_rfl) ?_
   have hS5 := hS3.drew
   refine rq 0 18 (v := pt (aD b) 0) rfl (hS5.se [0]) (fun w' hw' => (Y_fieldAddr (B := aD b) (i := 0) (s := 0) k_fd_67_0_0_3 k_sz_3_1 rfl (hf.get 2 1 rfl))) ?_
   refine rq 1 19 (v := vi g.Kind) rfl (hS5.se [0]) (fun w' hw' => (Y_load1 (B := aD b) (i := 0) (cs := [vi g.Kind, vi g.A, vi g.B]) (v := vi g.Kind) k_sc_3 rfl rfl (ST.cf hw' (i := 0) rfl) rfl)) ?_
   refine rq 2 20 (v := vi (i : Int)) rfl (hS5.se [0]) (fun w' hw' => (Y_move (v := vi (i : Int)) rfl rfl)) ?_
   refine rq 3 21 (v := .agg #[vi g.Kind, vi g.A, vi g.B]) rfl (hS5.se [0]) (fun w' hw' => (Y_loadA (B := aD b) (i := 0) (cs := [vi g.Kind, vi g.A, vi g.B]) (vs := [vi g.Kind, vi g.A, vi g.B]) k_ag_67 k_sz_67_3 rfl (hf.get 2 1 rfl) (ST.cf hw' (i := 0) rfl) rfl rfl)) ?_
   refine rq 4 22 (v := .slice B all.length c) rfl (hS5.se [0]) (fun w' hw' => (Y_move (v := .slice B all.length c) rfl (hf.get 1 0 rfl))) ?_
   refine rA [5] ?_
   refine ra_c 23 (i := 5) rfl rfl rfl (Yc_func (g := 154) (vs := [.agg #[vi g.Kind, vi g.A, vi g.B], .slice B all.length c]) k_call_154 rfl (mc rfl (mc rfl mn)) (c_spec_l24At g all B c all.length _ rfl (hS5.inn0 [(true, 0)] rfl) hc)) ?_ ?_
   ·rintro _ w_2 ⟨rfl, hd⟩
    have hS6 := hS5.out00 hd
    refine ⟨(hS6.se [0]), ?_⟩
    refine rq 6 24 (v := .agg #[vi g.Kind, vi (i : Int), vi r_1]) rfl (hS6.se [0]) (fun w' hw' => (Y_buildS (zs := [vi 0, vi 0, vi 0]) (vs := [(0, vi g.Kind), (1, vi (i : Int)), (2, vi r_1)]) (cs := [vi g.Kind, vi (i : Int), vi r_1]) k_pl_67 k_zero_67 rfl (mpc rfl (mpc rfl (mpc rfl mpn))) rfl)) ?_
    refine rA [7] ?_
    refine ra_s0 (i := 7) rfl rfl rfl (Ys_store (i := 1) (s := 3) (B := aD b1) (T' := 67) (v := .agg #[vi g.Kind, vi (i : Int), vi r_1]) (vs := [vi g.Kind, vi (i : Int), vi r_1]) (k := 0) (cs' := [vi g.Kind, vi (i : Int), vi r_1]) hS6 k_sz_67_3 rfl (hf.get 4 2 rfl) rfl rfl rfl rfl rfl (lB rfl) rfl rfl) ?_ ?_
    ·rintro _ w_3 ⟨rfl, hS7⟩
     refine ⟨(hS7.se [0]), ?_⟩
     refine ra_done (by kernel_rfl) ?_
     refine cw_ret ?_
     obtain rfl := some_inj hF2
     obtain rfl := some_inj hL1
     obtain rfl := some_inj hF1
     exact ret1 Tryz.results110 (v1 := .agg #[vi g.Kind, vi (i : Int), vi r_1]) (resAt_cellA (B := aD b1) (i := 0) (cs := [vi g.Kind, vi (i : Int), vi r_1]) (vs := [vi g.Kind, vi (i : Int), vi r_1]) (hf.get 4 2 rfl) k_ag_67 k_sz_67_3 (hS7.cf (i := 1) rfl) rfl rfl) ⟨rfl, (hS7.sN [])⟩
    exact allR_nil
   exact allR_nil
  ·skip
   have hF3 := cf' hb hb1
   refine cw_skip (cw_region ?_)
   refine sQ 25 (Y_add (k := .i64) (a := (i : Int)) (b := 1) rfl (hf.get 9 5 rfl) rfl) ?_
   refine sQ 9 (Y_move (v := vi (i64.wrap ((i : Int) + 1))) rfl rfl) (rw_nil ?_)
   obtain rfl := some_inj hF3
   exact ⟨k_1, Nat.lt_succ_self _, i + 1, (FF.cons (hf.get 1 0 rfl) (FF.cons (hf.get 2 1 rfl) (FF.cons (hf.get 4 2 rfl) (FF.cons (hf.get 7 3 rfl) (FF.cons (hf.get 8 4 rfl) (FF.cons (congrArg (Value.int .i64) (wr_succ hlt1 hN)) FF.nil)))))), (hS3.sel [0, 1] rfl rfl), (by omega), hL1⟩
 ·skip
  obtain rfl : k_ = 0 := by have h := of_decide_eq_false hlt; omega
  refine cw_exit rfl ?_
  obtain rfl := some_inj hL
  refine cw_seq (cw_region ?_)
  refine sQ 26 (Y_loadA (B := aD b) (i := 0) (cs := [vi g.Kind, vi g.A, vi g.B]) (vs := [vi g.Kind, vi g.A, vi g.B]) k_ag_67 k_sz_67_3 rfl (hf.get 2 1 rfl) (hS3.cf (i := 0) rfl) rfl rfl) ?_
  refine s0 (Ys_store (i := 1) (s := 3) (B := aD b1) (T' := 67) (v := .agg #[vi g.Kind, vi g.A, vi g.B]) (vs := [vi g.Kind, vi g.A, vi g.B]) (k := 0) (cs' := [vi g.Kind, vi g.A, vi g.B]) hS3 k_sz_67_3 rfl (hf.get 4 2 rfl) rfl rfl rfl rfl rfl (lB rfl) rfl rfl) ?_
  rintro _ w_4 ⟨rfl, hS8⟩
  refine rw_nil (cw_ret ?_)
  obtain rfl := some_inj hF1
  exact ret1 Tryz.results110 (v1 := .agg #[vi g.Kind, vi g.A, vi g.B]) (resAt_cellA (B := aD b1) (i := 0) (cs := [vi g.Kind, vi g.A, vi g.B]) (vs := [vi g.Kind, vi g.A, vi g.B]) (hf.get 4 2 rfl) k_ag_67 k_sz_67_3 (hS8.cf (i := 1) rfl) rfl rfl) ⟨rfl, (hS8.sN [])⟩

theorem c_spec_l24Commute (g : TGate) (h : TGate)  (w0 : World)  (hS : ST w0 [] w0 [] []) {r_ : Bool} (hF : F_spec_l24Commute g h = some r_) :
  CV Tryz.prog 71 #[.agg #[vi g.Kind, vi g.A, vi g.B], .agg #[vi h.Kind, vi h.A, vi h.B]] w0 (fun v w' => v = .bool r_ ∧ ST w0 [] w' [] []) := by
 unfold F_spec_l24Commute at hF
 refine cv_of_cw 52 Tryz.func71 rfl Tryz.ntmps71 rfl ?_
 refine cw_seq (cw_region ?_)
 refine sS 2 (Ys_box (T := 67) (v := .agg #[vi g.Kind, vi g.A, vi g.B]) (cs := [vi g.Kind, vi g.A, vi g.B]) (m := 3) hS rfl rfl rfl rfl) ?_
 rintro _ w_ ⟨b, rfl, hS1⟩
 refine sS 3 (Ys_box (T := 67) (v := .agg #[vi h.Kind, vi h.A, vi h.B]) (cs := [vi h.Kind, vi h.A, vi h.B]) (m := 3) hS1 rfl rfl rfl rfl) ?_
 rintro _ w_1 ⟨b1, rfl, hS2⟩
 refine sQ 4 (Y_assign (v := .bool false) rfl rfl) (rw_nil (cw_seq (cw_seq (cw_region ?_))))
 refine sQ 11 (Y_loadA (B := aD b) (i := 0) (cs := [vi g.Kind, vi g.A, vi g.B]) (vs := [vi g.Kind, vi g.A, vi g.B]) k_ag_67 k_sz_67_3 rfl rfl (hS2.cf (i := 0) rfl) rfl rfl) ?_
 refine sQ 12 (Y_loadA (B := aD b1) (i := 0) (cs := [vi h.Kind, vi h.A, vi h.B]) (vs := [vi h.Kind, vi h.A, vi h.B]) k_ag_67 k_sz_67_3 rfl rfl (hS2.cf (i := 1) rfl) rfl rfl) ?_
 obtain ⟨r_1, hc, hF⟩ := bind_inv hF
 refine sc 13 rfl rfl (Yc_func (g := 107) (vs := [.agg #[vi g.Kind, vi g.A, vi g.B], .agg #[vi h.Kind, vi h.A, vi h.B]]) k_call_107 rfl (mc rfl (mc rfl mn)) (c_spec_l24Common g h _  (hS2.inn0 [] rfl) hc)) ?_
 rintro _ w_2 ⟨rfl, hd⟩
 have hS3 := hS2.out00 hd
 refine sQ 14 (Y_not (p := r_1) rfl rfl) (rw_nil ?_)
 refine cw_cond (b := (!r_1)) rfl (fun hb => ?_) (fun hb => ?_)
 ·skip
  have hF1 := ct hF hb
  refine cw_seq (cw_region ?_)
  refine sQ 4 (Y_assign (v := .bool true) rfl rfl) (rw_nil (cw_ret ?_))
  obtain rfl := some_inj hF1
  exact ret1 Tryz.results71 (v1 := .bool true) (resAt_tmp rfl) ⟨rfl, (hS3.sN [])⟩
 ·skip
  have hF2 := cf' hF hb
  refine cw_skip (cw_seq (cw_region ?_))
  refine sQ 5 (Y_assign (v := .slice none 0 0) rfl rfl) (rw_nil (cw_seq (cw_seq ?_)))
  obtain ⟨r_2, hc1, hF2⟩ := bind_inv hF2
  obtain ⟨r_3, hc2, hF2⟩ := bind_inv hF2
  obtain ⟨hap, hF2⟩ := chk_inv hF2
  refine ra_start (hS3.se [0, 1]).fn (by kernel_rfl) ?_
  have hS6 := hS3.drew
  refine rq 0 15 (v := .agg #[vi g.Kind, vi g.A, vi g.B]) rfl (hS6.se [0, 1]) (fun w' hw' => (Y_loadA (B := aD b) (i := 0) (cs := [vi g.Kind, vi g.A, vi g.B]) (vs := [vi g.Kind, vi g.A, vi g.B]) k_ag_67 k_sz_67_3 rfl rfl (ST.cf hw' (i := 0) rfl) rfl rfl)) ?_
  refine rq 2 17 (v := .agg #[vi h.Kind, vi h.A, vi h.B]) rfl (hS6.se [0, 1]) (fun w' hw' => (Y_loadA (B := aD b1) (i := 0) (cs := [vi h.Kind, vi h.A, vi h.B]) (vs := [vi h.Kind, vi h.A, vi h.B]) k_ag_67 k_sz_67_3 rfl rfl (ST.cf hw' (i := 1) rfl) rfl rfl)) ?_
  refine rq 6 21 (v := vi 0) rfl (hS6.se [0, 1]) (fun w' hw' => (Y_move (v := vi 0) rfl rfl)) ?_
  refine rA [1] ?_
  refine ra_c 16 (i := 1) rfl rfl rfl (Yc_func (g := 108) (vs := [.agg #[vi g.Kind, vi g.A, vi g.B]]) k_call_108 rfl (mc rfl mn) (c_spec_l23Qubits g _  (hS6.inn0 [] rfl) hc1)) ?_ ?_
  ·rintro _ w_3 ⟨B, c, rfl, hd1⟩
   have hS7 := hS6.out0 hd1
   refine ⟨(hS7.se [0, 1]), ?_⟩
   refine rA [3] ?_
   refine ra_c 18 (i := 3) rfl rfl rfl (Yc_func (g := 108) (vs := [.agg #[vi h.Kind, vi h.A, vi h.B]]) k_call_108 rfl (mc rfl mn) (c_spec_l23Qubits h _  (hS7.inn0 [] rfl) hc2)) ?_ ?_
   ·rintro _ w_4 ⟨B1, c1, rfl, hd2⟩
    have hS8 := hS7.out0 hd2
    refine ⟨(hS8.se [0, 1]), ?_⟩
    refine rA [4] ?_
    refine ra_s 19 (i := 4) rfl rfl rfl (Ys_append (s := 1) (by' := 8) (i := 2) (nn := r_2.length) (c := c) (k := r_3.length) (len := (r_2 ++ r_3).length) (B := B) (xs := (r_3.flatMap encI)) (cs' := ((r_2 ++ r_3).flatMap encI)) hS8 k_sl_43_3 k_sz_3_1 k_by_3_8 k_zero_3 rfl (by decide) rfl rfl rfl rfl (fm_lenn (l := r_2) encI_len rfl) rfl (hS8.cf (i := 3) rfl) (fm_lenn (l := r_3) encI_len rfl) (fm_one' (enc := encI) encI_one r_3) (by have := hap; omega) (by have := hap; simp only [maxLen]; omega) (fm_app _ _) (app_len (l := r_2) (l' := r_3) rfl rfl)) ?_ ?_
    ·rintro _ w_5 ⟨B2, c2, rfl, hS9⟩
     refine ⟨(hS9.se [0, 1]), ?_⟩
     refine rq 5 20 (v := vi ((r_2 ++ r_3).length : Int)) rfl (hS9.se [0, 1]) (fun w' hw' => (Y_len (B := B2) (m := (r_2 ++ r_3).length) (c := c2) k_sl_43_3 rfl rfl)) ?_
     refine ra_done (by kernel_rfl) ?_
     obtain ⟨hN, hF2⟩ := chk_inv hF2
     obtain ⟨z, hz, hF3⟩ := bind_inv hF2
     have hS11 := hS9.addNil 3
     refine cw_block ?_
     refine cw_loop (fun k f w => ∃ (i : Nat) (all : List Int) (B3 : Option Addr) (c3 : Nat), FF f [(2, pt (aD b) 0), (3, pt (aD b1) 0), (5, .slice B3 all.length c3), (19, .slice B2 ((r_2 ++ r_3).length) c2), (20, vi ((r_2 ++ r_3).length : Int)), (21, vi (i : Int))] ∧ ST w0 [] w [⟨aD b, 67, [vi g.Kind, vi g.A, vi g.B], 3⟩, ⟨aD b1, 67, [vi h.Kind, vi h.A, vi h.B], 3⟩, ⟨B3, 3, (all.flatMap encI), c3 * 1⟩, ⟨B2, 3, ((r_2 ++ r_3).flatMap encI), c2 * 1⟩] [] ∧ i + k = (r_2 ++ r_3).length ∧ forN (F_spec_l24Commute_l1 r_2 r_3) k i all = some z) ((r_2 ++ r_3).length) ⟨0, [], none, 0, (FF.cons rfl (FF.cons rfl (FF.cons rfl (FF.cons rfl (FF.cons rfl (FF.cons rfl FF.nil)))))), (hS11.sel [0, 1, 4, 2] rfl rfl), Nat.zero_add _, hz⟩ ?_
     rintro k_ f w ⟨i, all, B3, c3, hf, hS10, hik, hL⟩
     refine cw_seq (cw_region ?_)
     refine sQ 22 (Y_lt (k := .i64) (a := (i : Int)) (b := ((r_2 ++ r_3).length : Int)) rfl (hf.get 21 5 rfl) (hf.get 20 4 rfl)) (rw_nil (cw_seq ?_))
     refine cw_cond (b := (decide ((i : Int) < ((r_2 ++ r_3).length : Int)))) rfl (fun hlt => ?_) (fun hlt => ?_)
     ·skip
      have hlt1 : i < (r_2 ++ r_3).length := by have h := of_decide_eq_true hlt; omega
      obtain ⟨k_1, rfl⟩ : ∃ k2, k_ = k2 + 1 := ⟨k_ - 1, by omega⟩
      obtain ⟨y, hb1, hL1⟩ := forN_go hL
      unfold F_spec_l24Commute_l1 at hb1
      refine cw_skip (cw_seq (cw_block (cw_seq (cw_region ?_))))
      obtain ⟨x, hx, hb1⟩ := bind_inv hb1
      refine sQ 23 (Y_index (B := B2) (m := (r_2 ++ r_3).length) (c := c2) (k := .i64) (i := (i : Int)) k_sl_43_3 k_sz_3_1 rfl (hf.get 19 3 rfl) (hf.get 21 5 rfl) (gi_isSome encI_len rfl (hS10.cf (i := 3) rfl) hx) (getI_nn hx) (getI_ltI hx rfl)) ?_
      refine sQ 24 (Y_load1 (B := B2) (i := (i : Int).toNat * 1) (cs := ((r_2 ++ r_3).flatMap encI)) (v := vi x) k_sc_3 rfl rfl (hS10.cf (i := 3) rfl) (gi_at0 encI_len hx rfl)) ?_
      refine sQ 7 (Y_assign (v := vi x) rfl rfl) (rw_nil (cw_region ?_))
      refine sQ 25 (Y_move (v := .slice B3 all.length c3) rfl (hf.get 5 2 rfl)) ?_
      refine sQ 26 (Y_move (v := vi x) rfl rfl) ?_
      obtain ⟨r_4, hc3, hb1⟩ := bind_inv hb1
      refine sc 27 rfl rfl (Yc_func (g := 109) (vs := [.slice B3 all.length c3, vi x]) k_call_109 rfl (mc rfl (mc rfl mn)) (c_spec_l1Put all x B3 c3 all.length _ rfl (hS10.inn [false, false, true, false] rfl [] rfl) hc3)) ?_
      rintro _ w_6 ⟨B4, c4, rfl, hd3⟩
      have hS12 := hS10.out [false, false, true, false] rfl hd3
      refine sQ 5 (Y_assign (v := .slice B4 r_4.length c4) rfl rfl) (rw_nil (cw_region ?_))
      refine sQ 28 (Y_add (k := .i64) (a := (i : Int)) (b := 1) rfl (hf.get 21 5 rfl) rfl) ?_
      refine sQ 21 (Y_move (v := vi (i64.wrap ((i : Int) + 1))) rfl rfl) (rw_nil ?_)
      obtain rfl := some_inj hb1
      exact ⟨k_1, Nat.lt_succ_self _, i + 1, r_4, B4, c4, (FF.cons (hf.get 2 0 rfl) (FF.cons (hf.get 3 1 rfl) (FF.cons rfl (FF.cons (hf.get 19 3 rfl) (FF.cons (hf.get 20 4 rfl) (FF.cons (congrArg (Value.int .i64) (wr_succ hlt1 hN)) FF.nil)))))), (hS12.sel [0, 1, 3, 2] rfl rfl), (by omega), hL1⟩
     ·skip
      obtain rfl : k_ = 0 := by have h := of_decide_eq_false hlt; omega
      refine cw_exit rfl ?_
      obtain rfl := some_inj hL
      refine cw_seq (cw_region ?_)
      refine sQ 29 (Y_buildS (zs := [.bool false]) (vs := []) (cs := [.bool false]) k_pl_75 k_zero_75 rfl mpn rfl) ?_
      refine sS 30 (Ys_box (T := 75) (v := .agg #[.bool false]) (cs := [.bool false]) (m := 1) hS10 rfl rfl rfl rfl) ?_
      rintro _ w_7 ⟨b2, rfl, hS13⟩
      refine sQ 8 (Y_assign (v := pt (aD b2) 0) rfl rfl) (rw_nil (cw_seq ?_))
      obtain ⟨r_5, hc4, hF3⟩ := bind_inv hF3
      obtain ⟨r_6, hc5, hF3⟩ := bind_inv hF3
      obtain ⟨r_7, hc6, hF3⟩ := bind_inv hF3
      obtain ⟨r_8, hc7, hF3⟩ := bind_inv hF3
      refine cw_mid (fun f w => ∃ (B7 : Option Addr) (B8 : Option Addr) (c7 : Nat) (B9 : Option Addr) (B10 : Option Addr) (c8 : Nat), FF f [(8, pt (aD b2) 0), (9, pt B7 0), (10, pt B9 0)] ∧ ST w0 [] w [⟨aD b2, 75, [.bool false], 1⟩, ⟨B7, 30, kM_ r_6 B8 c7, 3⟩, ⟨B8, 63, (r_6.Cells.flatMap eN0), c7 * 5⟩, ⟨B9, 30, kM_ r_8 B10 c8, 3⟩, ⟨B10, 63, (r_8.Cells.flatMap eN0), c8 * 5⟩] []) ?_ ?_
      ·skip
       refine ra_start (hS13.se [0, 1, 2, 3, 4]).fn (by kernel_rfl) ?_
       have hS19 := hS13.drew
       refine rq 0 31 (v := .slice B3 all.length c3) rfl (hS19.se [0, 1, 2, 3, 4]) (fun w' hw' => (Y_move (v := .slice B3 all.length c3) rfl (hf.get 5 2 rfl))) ?_
       refine rq 1 32 (v := vi (all.length : Int)) rfl (hS19.se [0, 1, 2, 3, 4]) (fun w' hw' => (Y_len (B := B3) (m := all.length) (c := c3) k_sl_43_3 rfl rfl)) ?_
       refine rq 2 33 (v := .agg #[vi g.Kind, vi g.A, vi g.B]) rfl (hS19.se [0, 1, 2, 3, 4]) (fun w' hw' => (Y_loadA (B := aD b) (i := 0) (cs := [vi g.Kind, vi g.A, vi g.B]) (vs := [vi g.Kind, vi g.A, vi g.B]) k_ag_67 k_sz_67_3 rfl (hf.get 2 0 rfl) (ST.cf hw' (i := 0) rfl) rfl rfl)) ?_
       refine rq 3 34 (v := .slice B3 all.length c3) rfl (hS19.se [0, 1, 2, 3, 4]) (fun w' hw' => (Y_move (v := .slice B3 all.length c3) rfl (hf.get 5 2 rfl))) ?_
       refine rq 6 37 (v := .slice B3 all.length c3) rfl (hS19.se [0, 1, 2, 3, 4]) (fun w' hw' => (Y_move (v := .slice B3 all.length c3) rfl (hf.get 5 2 rfl))) ?_
       refine rq 7 38 (v := vi (all.length : Int)) rfl (hS19.se [0, 1, 2, 3, 4]) (fun w' hw' => (Y_len (B := B3) (m := all.length) (c := c3) k_sl_43_3 rfl rfl)) ?_
       refine rq 8 39 (v := .agg #[vi h.Kind, vi h.A, vi h.B]) rfl (hS19.se [0, 1, 2, 3, 4]) (fun w' hw' => (Y_loadA (B := aD b1) (i := 0) (cs := [vi h.Kind, vi h.A, vi h.B]) (vs := [vi h.Kind, vi h.A, vi h.B]) k_ag_67 k_sz_67_3 rfl (hf.get 3 1 rfl) (ST.cf hw' (i := 1) rfl) rfl rfl)) ?_
       refine rq 9 40 (v := .slice B3 all.length c3) rfl (hS19.se [0, 1, 2, 3, 4]) (fun w' hw' => (Y_move (v := .slice B3 all.length c3) rfl (hf.get 5 2 rfl))) ?_
       refine rA [4, 12, 13] ?_
       refine ra_c 35 (i := 4) rfl rfl rfl (Yc_func (g := 110) (vs := [.agg #[vi g.Kind, vi g.A, vi g.B], .slice B3 all.length c3]) k_call_110 rfl (mc rfl (mc rfl mn)) (c_spec_l24Small g all B3 c3 all.length _ rfl (hS19.inn0 [(false, 2)] rfl) hc4)) ?_ ?_
       ·rintro _ w_8 ⟨rfl, hd4⟩
        have hS20 := hS19.out00 hd4
        refine ⟨(hS20.se [0, 1, 2, 3, 4]), ?_⟩
        refine rA [5, 12, 13] ?_
        refine ra_c 36 (i := 5) rfl rfl rfl (Yc_func (g := 81) (vs := [vi (all.length : Int), .agg #[vi r_5.Kind, vi r_5.A, vi r_5.B]]) k_call_81 rfl (mc rfl (mc rfl mn)) (c_spec_l6Gate (all.length : Int) r_5 _  (hS20.inn0 [] rfl) hc5)) ?_ ?_
        ·rintro _ w_9 ⟨B5, c5, rfl, hd5⟩
         have hS21 := hS20.out0 hd5
         refine ⟨(hS21.se [0, 1, 2, 3, 4]), ?_⟩
         refine rA [10, 12, 13] ?_
         refine ra_c 41 (i := 10) rfl rfl rfl (Yc_func (g := 110) (vs := [.agg #[vi h.Kind, vi h.A, vi h.B], .slice B3 all.length c3]) k_call_110 rfl (mc rfl (mc rfl mn)) (c_spec_l24Small h all B3 c3 all.length _ rfl (hS21.inn0 [(false, 2)] rfl) hc6)) ?_ ?_
         ·rintro _ w_10 ⟨rfl, hd6⟩
          have hS22 := hS21.out00 hd6
          refine ⟨(hS22.se [0, 1, 2, 3, 4]), ?_⟩
          refine rA [11, 12, 13] ?_
          refine ra_c 42 (i := 11) rfl rfl rfl (Yc_func (g := 81) (vs := [vi (all.length : Int), .agg #[vi r_7.Kind, vi r_7.A, vi r_7.B]]) k_call_81 rfl (mc rfl (mc rfl mn)) (c_spec_l6Gate (all.length : Int) r_7 _  (hS22.inn0 [] rfl) hc7)) ?_ ?_
          ·rintro _ w_11 ⟨B6, c6, rfl, hd7⟩
           have hS23 := hS22.out0 hd7
           refine ⟨(hS23.se [0, 1, 2, 3, 4]), ?_⟩
           refine rA [12, 13] ?_
           refine ra_s 9 (i := 12) rfl rfl rfl (Ys_alloc (T := 30) (cs := kN_) (m := 3) hS23 k_zero_30 rfl rfl rfl) ?_ ?_
           ·rintro _ w_12 ⟨b3, rfl, hS24⟩
            refine ⟨(hS24.se [0, 1, 2, 3, 4]), ?_⟩
            refine rA [13] ?_
            refine ra_s 10 (i := 13) rfl rfl rfl (Ys_alloc (T := 30) (cs := kN_) (m := 3) hS24 k_zero_30 rfl rfl rfl) ?_ ?_
            ·rintro _ w_13 ⟨b4, rfl, hS25⟩
             refine ⟨(hS25.se [0, 1, 2, 3, 4]), ?_⟩
             refine rA [14] ?_
             refine ra_s0 (i := 14) rfl rfl rfl (Ys_store (i := 7) (s := 3) (B := aD b3) (T' := 30) (v := gM_ r_6 B5 c5) (vs := kM_ r_6 B5 c5) (k := 0) (cs' := kM_ r_6 B5 c5) hS25 k_sz_30_3 rfl rfl rfl rfl rfl rfl rfl (lB rfl) rfl rfl) ?_ ?_
             ·rintro _ w_14 ⟨rfl, hS26⟩
              refine ⟨(hS26.se [0, 1, 2, 3, 4]), ?_⟩
              refine rA [15] ?_
              refine ra_s0 (i := 15) rfl rfl rfl (Ys_store (i := 8) (s := 3) (B := aD b4) (T' := 30) (v := gM_ r_8 B6 c6) (vs := kM_ r_8 B6 c6) (k := 0) (cs' := kM_ r_8 B6 c6) hS26 k_sz_30_3 rfl rfl rfl rfl rfl rfl rfl (lB rfl) rfl rfl) ?_ ?_
              ·rintro _ w_15 ⟨rfl, hS27⟩
               refine ⟨(hS27.se [0, 1, 2, 3, 4]), ?_⟩
               refine ra_done (by kernel_rfl) ?_
               exact ⟨aD b3, B5, c5, aD b4, B6, c6, (FF.cons rfl (FF.cons rfl (FF.cons rfl FF.nil))), (hS27.sel [4, 7, 5, 8, 6] rfl rfl)⟩
              exact allR_nil
             exact allR_nil
            exact allR_nil
           refine ra_s 10 (i := 13) rfl rfl rfl (Ys_alloc (T := 30) (cs := kN_) (m := 3) hS23 k_zero_30 rfl rfl rfl) ?_ ?_
           ·rintro _ w_16 ⟨b4, rfl, hS28⟩
            refine ⟨(hS28.se [0, 1, 2, 3, 4]), ?_⟩
            refine rA [12] ?_
            refine ra_s 9 (i := 12) rfl rfl rfl (Ys_alloc (T := 30) (cs := kN_) (m := 3) hS28 k_zero_30 rfl rfl rfl) ?_ ?_
            ·rintro _ w_17 ⟨b3, rfl, hS29⟩
             refine ⟨(hS29.se [0, 1, 2, 3, 4]), ?_⟩
             refine rA [14] ?_
             refine ra_s0 (i := 14) rfl rfl rfl (Ys_store (i := 8) (s := 3) (B := aD b3) (T' := 30) (v := gM_ r_6 B5 c5) (vs := kM_ r_6 B5 c5) (k := 0) (cs' := kM_ r_6 B5 c5) hS29 k_sz_30_3 rfl rfl rfl rfl rfl rfl rfl (lB rfl) rfl rfl) ?_ ?_
             ·rintro _ w_18 ⟨rfl, hS30⟩
              refine ⟨(hS30.se [0, 1, 2, 3, 4]), ?_⟩
              refine rA [15] ?_
              refine ra_s0 (i := 15) rfl rfl rfl (Ys_store (i := 7) (s := 3) (B := aD b4) (T' := 30) (v := gM_ r_8 B6 c6) (vs := kM_ r_8 B6 c6) (k := 0) (cs' := kM_ r_8 B6 c6) hS30 k_sz_30_3 rfl rfl rfl rfl rfl rfl rfl (lB rfl) rfl rfl) ?_ ?_
              ·rintro _ w_19 ⟨rfl, hS31⟩
               refine ⟨(hS31.se [0, 1, 2, 3, 4]), ?_⟩
               refine ra_done (by kernel_rfl) ?_
               exact ⟨aD b3, B5, c5, aD b4, B6, c6, (FF.cons rfl (FF.cons rfl (FF.cons rfl FF.nil))), (hS31.sel [4, 8, 5, 7, 6] rfl rfl)⟩
              exact allR_nil
             exact allR_nil
            exact allR_nil
           exact allR_nil
          refine ra_s 9 (i := 12) rfl rfl rfl (Ys_alloc (T := 30) (cs := kN_) (m := 3) hS22 k_zero_30 rfl rfl rfl) ?_ ?_
          ·rintro _ w_20 ⟨b3, rfl, hS32⟩
           refine ⟨(hS32.se [0, 1, 2, 3, 4]), ?_⟩
           refine rA [11, 13] ?_
           refine ra_c 42 (i := 11) rfl rfl rfl (Yc_func (g := 81) (vs := [vi (all.length : Int), .agg #[vi r_7.Kind, vi r_7.A, vi r_7.B]]) k_call_81 rfl (mc rfl (mc rfl mn)) (c_spec_l6Gate (all.length : Int) r_7 _  (hS32.inn0 [] rfl) hc7)) ?_ ?_
           ·rintro _ w_21 ⟨B6, c6, rfl, hd8⟩
            have hS33 := hS32.out0 hd8
            refine ⟨(hS33.se [0, 1, 2, 3, 4]), ?_⟩
            refine rA [13] ?_
            refine ra_s 10 (i := 13) rfl rfl rfl (Ys_alloc (T := 30) (cs := kN_) (m := 3) hS33 k_zero_30 rfl rfl rfl) ?_ ?_
            ·rintro _ w_22 ⟨b4, rfl, hS34⟩
             refine ⟨(hS34.se [0, 1, 2, 3, 4]), ?_⟩
             refine rA [14] ?_
             refine ra_s0 (i := 14) rfl rfl rfl (Ys_store (i := 6) (s := 3) (B := aD b3) (T' := 30) (v := gM_ r_6 B5 c5) (vs := kM_ r_6 B5 c5) (k := 0) (cs' := kM_ r_6 B5 c5) hS34 k_sz_30_3 rfl rfl rfl rfl rfl rfl rfl (lB rfl) rfl rfl) ?_ ?_
             ·rintro _ w_23 ⟨rfl, hS35⟩
              refine ⟨(hS35.se [0, 1, 2, 3, 4]), ?_⟩
              refine rA [15] ?_
              refine ra_s0 (i := 15) rfl rfl rfl (Ys_store (i := 8) (s := 3) (B := aD b4) (T' := 30) (v := gM_ r_8 B6 c6) (vs := kM_ r_8 B6 c6) (k := 0) (cs' := kM_ r_8 B6 c6) hS35 k_sz_30_3 rfl rfl rfl rfl rfl rfl rfl (lB rfl) rfl rfl) ?_ ?_
              ·rintro _ w_24 ⟨rfl, hS36⟩
               refine ⟨(hS36.se [0, 1, 2, 3, 4]), ?_⟩
               refine ra_done (by kernel_rfl) ?_
               exact ⟨aD b3, B5, c5, aD b4, B6, c6, (FF.cons rfl (FF.cons rfl (FF.cons rfl FF.nil))), (hS36.sel [4, 6, 5, 8, 7] rfl rfl)⟩
              exact allR_nil
             exact allR_nil
            exact allR_nil
           refine ra_s 10 (i := 13) rfl rfl rfl (Ys_alloc (T := 30) (cs := kN_) (m := 3) hS32 k_zero_30 rfl rfl rfl) ?_ ?_
           ·rintro _ w_25 ⟨b4, rfl, hS37⟩
            refine ⟨(hS37.se [0, 1, 2, 3, 4]), ?_⟩
            refine rA [11] ?_
            refine ra_c 42 (i := 11) rfl rfl rfl (Yc_func (g := 81) (vs := [vi (all.length : Int), .agg #[vi r_7.Kind, vi r_7.A, vi r_7.B]]) k_call_81 rfl (mc rfl (mc rfl mn)) (c_spec_l6Gate (all.length : Int) r_7 _  (hS37.inn0 [] rfl) hc7)) ?_ ?_
            ·rintro _ w_26 ⟨B6, c6, rfl, hd9⟩
             have hS38 := hS37.out0 hd9
             refine ⟨(hS38.se [0, 1, 2, 3, 4]), ?_⟩
             refine rA [14] ?_
             refine ra_s0 (i := 14) rfl rfl rfl (Ys_store (i := 6) (s := 3) (B := aD b3) (T' := 30) (v := gM_ r_6 B5 c5) (vs := kM_ r_6 B5 c5) (k := 0) (cs' := kM_ r_6 B5 c5) hS38 k_sz_30_3 rfl rfl rfl rfl rfl rfl rfl (lB rfl) rfl rfl) ?_ ?_
             ·rintro _ w_27 ⟨rfl, hS39⟩
              refine ⟨(hS39.se [0, 1, 2, 3, 4]), ?_⟩
              refine rA [15] ?_
              refine ra_s0 (i := 15) rfl rfl rfl (Ys_store (i := 7) (s := 3) (B := aD b4) (T' := 30) (v := gM_ r_8 B6 c6) (vs := kM_ r_8 B6 c6) (k := 0) (cs' := kM_ r_8 B6 c6) hS39 k_sz_30_3 rfl rfl rfl rfl rfl rfl rfl (lB rfl) rfl rfl) ?_ ?_
              ·rintro _ w_28 ⟨rfl, hS40⟩
               refine ⟨(hS40.se [0, 1, 2, 3, 4]), ?_⟩
               refine ra_done (by kernel_rfl) ?_
               exact ⟨aD b3, B5, c5, aD b4, B6, c6, (FF.cons rfl (FF.cons rfl (FF.cons rfl FF.nil))), (hS40.sel [4, 6, 5, 7, 8] rfl rfl)⟩
              exact allR_nil
             exact allR_nil
            exact allR_nil
           exact allR_nil
          refine ra_s 10 (i := 13) rfl rfl rfl (Ys_alloc (T := 30) (cs := kN_) (m := 3) hS22 k_zero_30 rfl rfl rfl) ?_ ?_
          ·rintro _ w_29 ⟨b4, rfl, hS41⟩
           refine ⟨(hS41.se [0, 1, 2, 3, 4]), ?_⟩
           refine rA [11, 12] ?_
           refine ra_c 42 (i := 11) rfl rfl rfl (Yc_func (g := 81) (vs := [vi (all.length : Int), .agg #[vi r_7.Kind, vi r_7.A, vi r_7.B]]) k_call_81 rfl (mc rfl (mc rfl mn)) (c_spec_l6Gate (all.length : Int) r_7 _  (hS41.inn0 [] rfl) hc7)) ?_ ?_
           ·rintro _ w_30 ⟨B6, c6, rfl, hd10⟩
            have hS42 := hS41.out0 hd10
            have hS42 : ST w0 [] _ [⟨aD b, 67, [vi g.Kind, vi g.A, vi g.B], 3⟩, ⟨aD b1, 67, [vi h.Kind, vi h.A, vi h.B], 3⟩, ⟨B3, 3, (all.flatMap encI), c3 * 1⟩, ⟨B2, 3, ((r_2 ++ r_3).flatMap encI), c2 * 1⟩, ⟨aD b2, 75, [.bool false], 1⟩, ⟨B5, 63, (r_6.Cells.flatMap eN0), c5 * 5⟩, ⟨aD b4, 30, kN_, 3⟩, ⟨B6, 63, (r_8.Cells.flatMap eN0), c6 * 5⟩] [] := hS42
            refine ⟨(hS42.se [0, 1, 2, 3, 4]), ?_⟩
            refine rA [12] ?_
            refine ra_s 9 (i := 12) rfl rfl rfl (Ys_alloc (T := 30) (cs := kN_) (m := 3) hS42 k_zero_30 rfl rfl rfl) ?_ ?_
            ·rintro _ w_31 ⟨b3, rfl, hS43⟩
             refine ⟨(hS43.se [0, 1, 2, 3, 4]), ?_⟩
             refine rA [14] ?_
             refine ra_s0 (i := 14) rfl rfl rfl (Ys_store (i := 8) (s := 3) (B := aD b3) (T' := 30) (v := gM_ r_6 B5 c5) (vs := kM_ r_6 B5 c5) (k := 0) (cs' := kM_ r_6 B5 c5) hS43 k_sz_30_3 rfl rfl rfl rfl rfl rfl rfl (lB rfl) rfl rfl) ?_ ?_
             ·rintro _ w_32 ⟨rfl, hS44⟩
              refine ⟨(hS44.se [0, 1, 2, 3, 4]), ?_⟩
              refine rA [15] ?_
              refine ra_s0 (i := 15) rfl rfl rfl (Ys_store (i := 6) (s := 3) (B := aD b4) (T' := 30) (v := gM_ r_8 B6 c6) (vs := kM_ r_8 B6 c6) (k := 0) (cs' := kM_ r_8 B6 c6) hS44 k_sz_30_3 rfl rfl rfl rfl rfl rfl rfl (lB rfl) rfl rfl) ?_ ?_
              ·rintro _ w_33 ⟨rfl, hS45⟩
               refine ⟨(hS45.se [0, 1, 2, 3, 4]), ?_⟩
               refine ra_done (by kernel_rfl) ?_
               exact ⟨aD b3, B5, c5, aD b4, B6, c6, (FF.cons rfl (FF.cons rfl (FF.cons rfl FF.nil))), (hS45.sel [4, 8, 5, 6, 7] rfl rfl)⟩
              exact allR_nil
             exact allR_nil
            exact allR_nil
           refine ra_s 9 (i := 12) rfl rfl rfl (Ys_alloc (T := 30) (cs := kN_) (m := 3) hS41 k_zero_30 rfl rfl rfl) ?_ ?_
           ·rintro _ w_34 ⟨b3, rfl, hS46⟩
            refine ⟨(hS46.se [0, 1, 2, 3, 4]), ?_⟩
            refine rA [11] ?_
            refine ra_c 42 (i := 11) rfl rfl rfl (Yc_func (g := 81) (vs := [vi (all.length : Int), .agg #[vi r_7.Kind, vi r_7.A, vi r_7.B]]) k_call_81 rfl (mc rfl (mc rfl mn)) (c_spec_l6Gate (all.length : Int) r_7 _  (hS46.inn0 [] rfl) hc7)) ?_ ?_
            ·rintro _ w_35 ⟨B6, c6, rfl, hd11⟩
             have hS47 := hS46.out0 hd11
             refine ⟨(hS47.se [0, 1, 2, 3, 4]), ?_⟩
             refine rA [14] ?_
             refine ra_s0 (i := 14) rfl rfl rfl (Ys_store (i := 7) (s := 3) (B := aD b3) (T' := 30) (v := gM_ r_6 B5 c5) (vs := kM_ r_6 B5 c5) (k := 0) (cs' := kM_ r_6 B5 c5) hS47 k_sz_30_3 rfl rfl rfl rfl rfl rfl rfl (lB rfl) rfl rfl) ?_ ?_
             ·rintro _ w_36 ⟨rfl, hS48⟩
              refine ⟨(hS48.se [0, 1, 2, 3, 4]), ?_⟩
              refine rA [15] ?_
              refine ra_s0 (i := 15) rfl rfl rfl (Ys_store (i := 6) (s := 3) (B := aD b4) (T' := 30) (v := gM_ r_8 B6 c6) (vs := kM_ r_8 B6 c6) (k := 0) (cs' := kM_ r_8 B6 c6) hS48 k_sz_30_3 rfl rfl rfl rfl rfl rfl rfl (lB rfl) rfl rfl) ?_ ?_
              ·rintro _ w_37 ⟨rfl, hS49⟩
               refine ⟨(hS49.se [0, 1, 2, 3, 4]), ?_⟩
               refine ra_done (by kernel_rfl) ?_
               exact ⟨aD b3, B5, c5, aD b4, B6, c6, (FF.cons rfl (FF.cons rfl (FF.cons rfl FF.nil))), (hS49.sel [4, 7, 5, 6, 8] rfl rfl)⟩
              exact allR_nil
             exact allR_nil
            exact allR_nil
           exact allR_nil
          exact allR_nil
         refine ra_s 9 (i := 12) rfl rfl rfl (Ys_alloc (T := 30) (cs := kN_) (m := 3) hS21 k_zero_30 rfl rfl rfl) ?_ ?_
         ·rintro _ w_38 ⟨b3, rfl, hS50⟩
          refine ⟨(hS50.se [0, 1, 2, 3, 4]), ?_⟩
          refine rA [10, 13] ?_
          refine ra_c 41 (i := 10) rfl rfl rfl (Yc_func (g := 110) (vs := [.agg #[vi h.Kind, vi h.A, vi h.B], .slice B3 all.length c3]) k_call_110 rfl (mc rfl (mc rfl mn)) (c_spec_l24Small h all B3 c3 all.length _ rfl (hS50.inn0 [(false, 2)] rfl) hc6)) ?_ ?_
          ·rintro _ w_39 ⟨rfl, hd12⟩
           have hS51 := hS50.out00 hd12
           refine ⟨(hS51.se [0, 1, 2, 3, 4]), ?_⟩
           refine rA [11, 13] ?_
           refine ra_c 42 (i := 11) rfl rfl rfl (Yc_func (g := 81) (vs := [vi (all.length : Int), .agg #[vi r_7.Kind, vi r_7.A, vi r_7.B]]) k_call_81 rfl (mc rfl (mc rfl mn)) (c_spec_l6Gate (all.length : Int) r_7 _  (hS51.inn0 [] rfl) hc7)) ?_ ?_
           ·rintro _ w_40 ⟨B6, c6, rfl, hd13⟩
            have hS52 := hS51.out0 hd13
            refine ⟨(hS52.se [0, 1, 2, 3, 4]), ?_⟩
            refine rA [13] ?_
            refine ra_s 10 (i := 13) rfl rfl rfl (Ys_alloc (T := 30) (cs := kN_) (m := 3) hS52 k_zero_30 rfl rfl rfl) ?_ ?_
            ·rintro _ w_41 ⟨b4, rfl, hS53⟩
             refine ⟨(hS53.se [0, 1, 2, 3, 4]), ?_⟩
             refine rA [14] ?_
             refine ra_s0 (i := 14) rfl rfl rfl (Ys_store (i := 6) (s := 3) (B := aD b3) (T' := 30) (v := gM_ r_6 B5 c5) (vs := kM_ r_6 B5 c5) (k := 0) (cs' := kM_ r_6 B5 c5) hS53 k_sz_30_3 rfl rfl rfl rfl rfl rfl rfl (lB rfl) rfl rfl) ?_ ?_
             ·rintro _ w_42 ⟨rfl, hS54⟩
              refine ⟨(hS54.se [0, 1, 2, 3, 4]), ?_⟩
              refine rA [15] ?_
              refine ra_s0 (i := 15) rfl rfl rfl (Ys_store (i := 8) (s := 3) (B := aD b4) (T' := 30) (v := gM_ r_8 B6 c6) (vs := kM_ r_8 B6 c6) (k := 0) (cs' := kM_ r_8 B6 c6) hS54 k_sz_30_3 rfl rfl rfl rfl rfl rfl rfl (lB rfl) rfl rfl) ?_ ?_
              ·rintro _ w_43 ⟨rfl, hS55⟩
               refine ⟨(hS55.se [0, 1, 2, 3, 4]), ?_⟩
               refine ra_done (by kernel_rfl) ?_
               exact ⟨aD b3, B5, c5, aD b4, B6, c6, (FF.cons rfl (FF.cons rfl (FF.cons rfl FF.nil))), (hS55.sel [4, 6, 5, 8, 7] rfl rfl)⟩
              exact allR_nil
             exact allR_nil
            exact allR_nil
           refine ra_s 10 (i := 13) rfl rfl rfl (Ys_alloc (T := 30) (cs := kN_) (m := 3) hS51 k_zero_30 rfl rfl rfl) ?_ ?_
           ·rintro _ w_44 ⟨b4, rfl, hS56⟩
            refine ⟨(hS56.se [0, 1, 2, 3, 4]), ?_⟩
            refine rA [11] ?_
            refine ra_c 42 (i := 11) rfl rfl rfl (Yc_func (g := 81) (vs := [vi (all.length : Int), .agg #[vi r_7.Kind, vi r_7.A, vi r_7.B]]) k_call_81 rfl (mc rfl (mc rfl mn)) (c_spec_l6Gate (all.length : Int) r_7 _  (hS56.inn0 [] rfl) hc7)) ?_ ?_
            ·rintro _ w_45 ⟨B6, c6, rfl, hd14⟩
             have hS57 := hS56.out0 hd14
             refine ⟨(hS57.se [0, 1, 2, 3, 4]), ?_⟩
             refine rA [14] ?_
             refine ra_s0 (i := 14) rfl rfl rfl (Ys_store (i := 6) (s := 3) (B := aD b3) (T' := 30) (v := gM_ r_6 B5 c5) (vs := kM_ r_6 B5 c5) (k := 0) (cs' := kM_ r_6 B5 c5) hS57 k_sz_30_3 rfl rfl rfl rfl rfl rfl rfl (lB rfl) rfl rfl) ?_ ?_
             ·rintro _ w_46 ⟨rfl, hS58⟩
              refine ⟨(hS58.se [0, 1, 2, 3, 4]), ?_⟩
              refine rA [15] ?_
              refine ra_s0 (i := 15) rfl rfl rfl (Ys_store (i := 7) (s := 3) (B := aD b4) (T' := 30) (v := gM_ r_8 B6 c6) (vs := kM_ r_8 B6 c6) (k := 0) (cs' := kM_ r_8 B6 c6) hS58 k_sz_30_3 rfl rfl rfl rfl rfl rfl rfl (lB rfl) rfl rfl) ?_ ?_
              ·rintro _ w_47 ⟨rfl, hS59⟩
               refine ⟨(hS59.se [0, 1, 2, 3, 4]), ?_⟩
               refine ra_done (by kernel_rfl) ?_
               exact ⟨aD b3, B5, c5, aD b4, B6, c6, (FF.cons rfl (FF.cons rfl (FF.cons rfl FF.nil))), (hS59.sel [4, 6, 5, 7, 8] rfl rfl)⟩
              exact allR_nil
             exact allR_nil
            exact allR_nil
           exact allR_nil
          refine ra_s 10 (i := 13) rfl rfl rfl (Ys_alloc (T := 30) (cs := kN_) (m := 3) hS50 k_zero_30 rfl rfl rfl) ?_ ?_
          ·rintro _ w_48 ⟨b4, rfl, hS60⟩
           refine ⟨(hS60.se [0, 1, 2, 3, 4]), ?_⟩
           refine rA [10] ?_
           refine ra_c 41 (i := 10) rfl rfl rfl (Yc_func (g := 110) (vs := [.agg #[vi h.Kind, vi h.A, vi h.B], .slice B3 all.length c3]) k_call_110 rfl (mc rfl (mc rfl mn)) (c_spec_l24Small h all B3 c3 all.length _ rfl (hS60.inn0 [(false, 2)] rfl) hc6)) ?_ ?_
           ·rintro _ w_49 ⟨rfl, hd15⟩
            have hS61 := hS60.out00 hd15
            refine ⟨(hS61.se [0, 1, 2, 3, 4]), ?_⟩
            refine rA [11] ?_
            refine ra_c 42 (i := 11) rfl rfl rfl (Yc_func (g := 81) (vs := [vi (all.length : Int), .agg #[vi r_7.Kind, vi r_7.A, vi r_7.B]]) k_call_81 rfl (mc rfl (mc rfl mn)) (c_spec_l6Gate (all.length : Int) r_7 _  (hS61.inn0 [] rfl) hc7)) ?_ ?_
            ·rintro _ w_50 ⟨B6, c6, rfl, hd16⟩
             have hS62 := hS61.out0 hd16
             refine ⟨(hS62.se [0, 1, 2, 3, 4]), ?_⟩
             refine rA [14] ?_
             refine ra_s0 (i := 14) rfl rfl rfl (Ys_store (i := 6) (s := 3) (B := aD b3) (T' := 30) (v := gM_ r_6 B5 c5) (vs := kM_ r_6 B5 c5) (k := 0) (cs' := kM_ r_6 B5 c5) hS62 k_sz_30_3 rfl rfl rfl rfl rfl rfl rfl (lB rfl) rfl rfl) ?_ ?_
             ·rintro _ w_51 ⟨rfl, hS63⟩
              refine ⟨(hS63.se [0, 1, 2, 3, 4]), ?_⟩
              refine rA [15] ?_
              refine ra_s0 (i := 15) rfl rfl rfl (Ys_store (i := 7) (s := 3) (B := aD b4) (T' := 30) (v := gM_ r_8 B6 c6) (vs := kM_ r_8 B6 c6) (k := 0) (cs' := kM_ r_8 B6 c6) hS63 k_sz_30_3 rfl rfl rfl rfl rfl rfl rfl (lB rfl) rfl rfl) ?_ ?_
              ·rintro _ w_52 ⟨rfl, hS64⟩
               refine ⟨(hS64.se [0, 1, 2, 3, 4]), ?_⟩
               refine ra_done (by kernel_rfl) ?_
               exact ⟨aD b3, B5, c5, aD b4, B6, c6, (FF.cons rfl (FF.cons rfl (FF.cons rfl FF.nil))), (hS64.sel [4, 6, 5, 7, 8] rfl rfl)⟩
              exact allR_nil
             exact allR_nil
            exact allR_nil
           exact allR_nil
          exact allR_nil
         refine ra_s 10 (i := 13) rfl rfl rfl (Ys_alloc (T := 30) (cs := kN_) (m := 3) hS21 k_zero_30 rfl rfl rfl) ?_ ?_
         ·rintro _ w_53 ⟨b4, rfl, hS65⟩
          refine ⟨(hS65.se [0, 1, 2, 3, 4]), ?_⟩
          refine rA [10, 12] ?_
          refine ra_c 41 (i := 10) rfl rfl rfl (Yc_func (g := 110) (vs := [.agg #[vi h.Kind, vi h.A, vi h.B], .slice B3 all.length c3]) k_call_110 rfl (mc rfl (mc rfl mn)) (c_spec_l24Small h all B3 c3 all.length _ rfl (hS65.inn0 [(false, 2)] rfl) hc6)) ?_ ?_
          ·rintro _ w_54 ⟨rfl, hd17⟩
           have hS66 := hS65.out00 hd17
           refine ⟨(hS66.se [0, 1, 2, 3, 4]), ?_⟩
           refine rA [11, 12] ?_
           refine ra_c 42 (i := 11) rfl rfl rfl (Yc_func (g := 81) (vs := [vi (all.length : Int), .agg #[vi r_7.Kind, vi r_7.A, vi r_7.B]]) k_call_81 rfl (mc rfl (mc rfl mn)) (c_spec_l6Gate (all.length : Int) r_7 _  (hS66.inn0 [] rfl) hc7)) ?_ ?_
           ·rintro _ w_55 ⟨B6, c6, rfl, hd18⟩
            have hS67 := hS66.out0 hd18
            refine ⟨(hS67.se [0, 1, 2, 3, 4]), ?_⟩
            refine rA [12] ?_
            refine ra_s 9 (i := 12) rfl rfl rfl (Ys_alloc (T := 30) (cs := kN_) (m := 3) hS67 k_zero_30 rfl rfl rfl) ?_ ?_
            ·rintro _ w_56 ⟨b3, rfl, hS68⟩
             refine ⟨(hS68.se [0, 1, 2, 3, 4]), ?_⟩
             refine rA [14] ?_
             refine ra_s0 (i := 14) rfl rfl rfl (Ys_store (i := 8) (s := 3) (B := aD b3) (T' := 30) (v := gM_ r_6 B5 c5) (vs := kM_ r_6 B5 c5) (k := 0) (cs' := kM_ r_6 B5 c5) hS68 k_sz_30_3 rfl rfl rfl rfl rfl rfl rfl (lB rfl) rfl rfl) ?_ ?_
             ·rintro _ w_57 ⟨rfl, hS69⟩
              refine ⟨(hS69.se [0, 1, 2, 3, 4]), ?_⟩
              refine rA [15] ?_
              refine ra_s0 (i := 15) rfl rfl rfl (Ys_store (i := 6) (s := 3) (B := aD b4) (T' := 30) (v := gM_ r_8 B6 c6) (vs := kM_ r_8 B6 c6) (k := 0) (cs' := kM_ r_8 B6 c6) hS69 k_sz_30_3 rfl rfl rfl rfl rfl rfl rfl (lB rfl) rfl rfl) ?_ ?_
              ·rintro _ w_58 ⟨rfl, hS70⟩
               refine ⟨(hS70.se [0, 1, 2, 3, 4]), ?_⟩
               refine ra_done (by kernel_rfl) ?_
               exact ⟨aD b3, B5, c5, aD b4, B6, c6, (FF.cons rfl (FF.cons rfl (FF.cons rfl FF.nil))), (hS70.sel [4, 8, 5, 6, 7] rfl rfl)⟩
              exact allR_nil
             exact allR_nil
            exact allR_nil
           refine ra_s 9 (i := 12) rfl rfl rfl (Ys_alloc (T := 30) (cs := kN_) (m := 3) hS66 k_zero_30 rfl rfl rfl) ?_ ?_
           ·rintro _ w_59 ⟨b3, rfl, hS71⟩
            refine ⟨(hS71.se [0, 1, 2, 3, 4]), ?_⟩
            refine rA [11] ?_
            refine ra_c 42 (i := 11) rfl rfl rfl (Yc_func (g := 81) (vs := [vi (all.length : Int), .agg #[vi r_7.Kind, vi r_7.A, vi r_7.B]]) k_call_81 rfl (mc rfl (mc rfl mn)) (c_spec_l6Gate (all.length : Int) r_7 _  (hS71.inn0 [] rfl) hc7)) ?_ ?_
            ·rintro _ w_60 ⟨B6, c6, rfl, hd19⟩
             have hS72 := hS71.out0 hd19
             have hS72 : ST w0 [] _ [⟨aD b, 67, [vi g.Kind, vi g.A, vi g.B], 3⟩, ⟨aD b1, 67, [vi h.Kind, vi h.A, vi h.B], 3⟩, ⟨B3, 3, (all.flatMap encI), c3 * 1⟩, ⟨B2, 3, ((r_2 ++ r_3).flatMap encI), c2 * 1⟩, ⟨aD b2, 75, [.bool false], 1⟩, ⟨B5, 63, (r_6.Cells.flatMap eN0), c5 * 5⟩, ⟨aD b4, 30, kN_, 3⟩, ⟨aD b3, 30, kN_, 3⟩, ⟨B6, 63, (r_8.Cells.flatMap eN0), c6 * 5⟩] [] := hS72
             refine ⟨(hS72.se [0, 1, 2, 3, 4]), ?_⟩
             refine rA [14] ?_
             refine ra_s0 (i := 14) rfl rfl rfl (Ys_store (i := 7) (s := 3) (B := aD b3) (T' := 30) (v := gM_ r_6 B5 c5) (vs := kM_ r_6 B5 c5) (k := 0) (cs' := kM_ r_6 B5 c5) hS72 k_sz_30_3 rfl rfl rfl rfl rfl rfl rfl (lB rfl) rfl rfl) ?_ ?_
             ·rintro _ w_61 ⟨rfl, hS73⟩
              refine ⟨(hS73.se [0, 1, 2, 3, 4]), ?_⟩
              refine rA [15] ?_
              refine ra_s0 (i := 15) rfl rfl rfl (Ys_store (i := 6) (s := 3) (B := aD b4) (T' := 30) (v := gM_ r_8 B6 c6) (vs := kM_ r_8 B6 c6) (k := 0) (cs' := kM_ r_8 B6 c6) hS73 k_sz_30_3 rfl rfl rfl rfl rfl rfl rfl (lB rfl) rfl rfl) ?_ ?_
              ·rintro _ w_62 ⟨rfl, hS74⟩
               refine ⟨(hS74.se [0, 1, 2, 3, 4]), ?_⟩
               refine ra_done (by kernel_rfl) ?_
               exact ⟨aD b3, B5, c5, aD b4, B6, c6, (FF.cons rfl (FF.cons rfl (FF.cons rfl FF.nil))), (hS74.sel [4, 7, 5, 6, 8] rfl rfl)⟩
              exact allR_nil
             exact allR_nil
            exact allR_nil
           exact allR_nil
          refine ra_s 9 (i := 12) rfl rfl rfl (Ys_alloc (T := 30) (cs := kN_) (m := 3) hS65 k_zero_30 rfl rfl rfl) ?_ ?_
          ·rintro _ w_63 ⟨b3, rfl, hS75⟩
           refine ⟨(hS75.se [0, 1, 2, 3, 4]), ?_⟩
           refine rA [10] ?_
           refine ra_c 41 (i := 10) rfl rfl rfl (Yc_func (g := 110) (vs := [.agg #[vi h.Kind, vi h.A, vi h.B], .slice B3 all.length c3]) k_call_110 rfl (mc rfl (mc rfl mn)) (c_spec_l24Small h all B3 c3 all.length _ rfl (hS75.inn0 [(false, 2)] rfl) hc6)) ?_ ?_
           ·rintro _ w_64 ⟨rfl, hd20⟩
            have hS76 := hS75.out00 hd20
            refine ⟨(hS76.se [0, 1, 2, 3, 4]), ?_⟩
            refine rA [11] ?_
            refine ra_c 42 (i := 11) rfl rfl rfl (Yc_func (g := 81) (vs := [vi (all.length : Int), .agg #[vi r_7.Kind, vi r_7.A, vi r_7.B]]) k_call_81 rfl (mc rfl (mc rfl mn)) (c_spec_l6Gate (all.length : Int) r_7 _  (hS76.inn0 [] rfl) hc7)) ?_ ?_
            ·rintro _ w_65 ⟨B6, c6, rfl, hd21⟩
             have hS77 := hS76.out0 hd21
             refine ⟨(hS77.se [0, 1, 2, 3, 4]), ?_⟩
             refine rA [14] ?_
             refine ra_s0 (i := 14) rfl rfl rfl (Ys_store (i := 7) (s := 3) (B := aD b3) (T' := 30) (v := gM_ r_6 B5 c5) (vs := kM_ r_6 B5 c5) (k := 0) (cs' := kM_ r_6 B5 c5) hS77 k_sz_30_3 rfl rfl rfl rfl rfl rfl rfl (lB rfl) rfl rfl) ?_ ?_
             ·rintro _ w_66 ⟨rfl, hS78⟩
              refine ⟨(hS78.se [0, 1, 2, 3, 4]), ?_⟩
              refine rA [15] ?_
              refine ra_s0 (i := 15) rfl rfl rfl (Ys_store (i := 6) (s := 3) (B := aD b4) (T' := 30) (v := gM_ r_8 B6 c6) (vs := kM_ r_8 B6 c6) (k := 0) (cs' := kM_ r_8 B6 c6) hS78 k_sz_30_3 rfl rfl rfl rfl rfl rfl rfl (lB rfl) rfl rfl) ?_ ?_
              ·rintro _ w_67 ⟨rfl, hS79⟩
               refine ⟨(hS79.se [0, 1, 2, 3, 4]), ?_⟩
               refine ra_done (by kernel_rfl) ?_
               exact ⟨aD b3, B5, c5, aD b4, B6, c6, (FF.cons rfl (FF.cons rfl (FF.cons rfl FF.nil))), (hS79.sel [4, 7, 5, 6, 8] rfl rfl)⟩
              exact allR_nil
             exact allR_nil
            exact allR_nil
           exact allR_nil
          exact allR_nil
         exact allR_nil
        refine ra_s 9 (i := 12) rfl rfl rfl (Ys_alloc (T := 30) (cs := kN_) (m := 3) hS20 k_zero_30 rfl rfl rfl) ?_ ?_
        ·rintro _ w_68 ⟨b3, rfl, hS80⟩
         refine ⟨(hS80.se [0, 1, 2, 3, 4]), ?_⟩
         refine rA [5, 13] ?_
         refine ra_c 36 (i := 5) rfl rfl rfl (Yc_func (g := 81) (vs := [vi (all.length : Int), .agg #[vi r_5.Kind, vi r_5.A, vi r_5.B]]) k_call_81 rfl (mc rfl (mc rfl mn)) (c_spec_l6Gate (all.length : Int) r_5 _  (hS80.inn0 [] rfl) hc5)) ?_ ?_
         ·rintro _ w_69 ⟨B5, c5, rfl, hd22⟩
          have hS81 := hS80.out0 hd22
          refine ⟨(hS81.se [0, 1, 2, 3, 4]), ?_⟩
          refine rA [10, 13] ?_
          refine ra_c 41 (i := 10) rfl rfl rfl (Yc_func (g := 110) (vs := [.agg #[vi h.Kind, vi h.A, vi h.B], .slice B3 all.length c3]) k_call_110 rfl (mc rfl (mc rfl mn)) (c_spec_l24Small h all B3 c3 all.length _ rfl (hS81.inn0 [(false, 2)] rfl) hc6)) ?_ ?_
          ·rintro _ w_70 ⟨rfl, hd23⟩
           have hS82 := hS81.out00 hd23
           refine ⟨(hS82.se [0, 1, 2, 3, 4]), ?_⟩
           refine rA [11, 13] ?_
           refine ra_c 42 (i := 11) rfl rfl rfl (Yc_func (g := 81) (vs := [vi (all.length : Int), .agg #[vi r_7.Kind, vi r_7.A, vi r_7.B]]) k_call_81 rfl (mc rfl (mc rfl mn)) (c_spec_l6Gate (all.length : Int) r_7 _  (hS82.inn0 [] rfl) hc7)) ?_ ?_
           ·rintro _ w_71 ⟨B6, c6, rfl, hd24⟩
            have hS83 := hS82.out0 hd24
            refine ⟨(hS83.se [0, 1, 2, 3, 4]), ?_⟩
            refine rA [13] ?_
            refine ra_s 10 (i := 13) rfl rfl rfl (Ys_alloc (T := 30) (cs := kN_) (m := 3) hS83 k_zero_30 rfl rfl rfl) ?_ ?_
            ·rintro _ w_72 ⟨b4, rfl, hS84⟩
             refine ⟨(hS84.se [0, 1, 2, 3, 4]), ?_⟩
             refine rA [14] ?_
             refine ra_s0 (i := 14) rfl rfl rfl (Ys_store (i := 5) (s := 3) (B := aD b3) (T' := 30) (v := gM_ r_6 B5 c5) (vs := kM_ r_6 B5 c5) (k := 0) (cs' := kM_ r_6 B5 c5) hS84 k_sz_30_3 rfl rfl rfl rfl rfl rfl rfl (lB rfl) rfl rfl) ?_ ?_
             ·rintro _ w_73 ⟨rfl, hS85⟩
              refine ⟨(hS85.se [0, 1, 2, 3, 4]), ?_⟩
              refine rA [15] ?_
              refine ra_s0 (i := 15) rfl rfl rfl (Ys_store (i := 8) (s := 3) (B := aD b4) (T' := 30) (v := gM_ r_8 B6 c6) (vs := kM_ r_8 B6 c6) (k := 0) (cs' := kM_ r_8 B6 c6) hS85 k_sz_30_3 rfl rfl rfl rfl rfl rfl rfl (lB rfl) rfl rfl) ?_ ?_
              ·rintro _ w_74 ⟨rfl, hS86⟩
               refine ⟨(hS86.se [0, 1, 2, 3, 4]), ?_⟩
               refine ra_done (by kernel_rfl) ?_
               exact ⟨aD b3, B5, c5, aD b4, B6, c6, (FF.cons rfl (FF.cons rfl (FF.cons rfl FF.nil))), (hS86.sel [4, 5, 6, 8, 7] rfl rfl)⟩
              exact allR_nil
             exact allR_nil
            exact allR_nil
           refine ra_s 10 (i := 13) rfl rfl rfl (Ys_alloc (T := 30) (cs := kN_) (m := 3) hS82 k_zero_30 rfl rfl rfl) ?_ ?_
           ·rintro _ w_75 ⟨b4, rfl, hS87⟩
            refine ⟨(hS87.se [0, 1, 2, 3, 4]), ?_⟩
            refine rA [11] ?_
            refine ra_c 42 (i := 11) rfl rfl rfl (Yc_func (g := 81) (vs := [vi (all.length : Int), .agg #[vi r_7.Kind, vi r_7.A, vi r_7.B]]) k_call_81 rfl (mc rfl (mc rfl mn)) (c_spec_l6Gate (all.length : Int) r_7 _  (hS87.inn0 [] rfl) hc7)) ?_ ?_
            ·rintro _ w_76 ⟨B6, c6, rfl, hd25⟩
             have hS88 := hS87.out0 hd25
             refine ⟨(hS88.se [0, 1, 2, 3, 4]), ?_⟩
             refine rA [14] ?_
             refine ra_s0 (i := 14) rfl rfl rfl (Ys_store (i := 5) (s := 3) (B := aD b3) (T' := 30) (v := gM_ r_6 B5 c5) (vs := kM_ r_6 B5 c5) (k := 0) (cs' := kM_ r_6 B5 c5) hS88 k_sz_30_3 rfl rfl rfl rfl rfl rfl rfl (lB rfl) rfl rfl) ?_ ?_
             ·rintro _ w_77 ⟨rfl, hS89⟩
              refine ⟨(hS89.se [0, 1, 2, 3, 4]), ?_⟩
              refine rA [15] ?_
              refine ra_s0 (i := 15) rfl rfl rfl (Ys_store (i := 7) (s := 3) (B := aD b4) (T' := 30) (v := gM_ r_8 B6 c6) (vs := kM_ r_8 B6 c6) (k := 0) (cs' := kM_ r_8 B6 c6) hS89 k_sz_30_3 rfl rfl rfl rfl rfl rfl rfl (lB rfl) rfl rfl) ?_ ?_
              ·rintro _ w_78 ⟨rfl, hS90⟩
               refine ⟨(hS90.se [0, 1, 2, 3, 4]), ?_⟩
               refine ra_done (by kernel_rfl) ?_
               exact ⟨aD b3, B5, c5, aD b4, B6, c6, (FF.cons rfl (FF.cons rfl (FF.cons rfl FF.nil))), (hS90.sel [4, 5, 6, 7, 8] rfl rfl)⟩
              exact allR_nil
             exact allR_nil
            exact allR_nil
           exact allR_nil
          refine ra_s 10 (i := 13) rfl rfl rfl (Ys_alloc (T := 30) (cs := kN_) (m := 3) hS81 k_zero_30 rfl rfl rfl) ?_ ?_
          ·rintro _ w_79 ⟨b4, rfl, hS91⟩
           refine ⟨(hS91.se [0, 1, 2, 3, 4]), ?_⟩
           refine rA [10] ?_
           refine ra_c 41 (i := 10) rfl rfl rfl (Yc_func (g := 110) (vs := [.agg #[vi h.Kind, vi h.A, vi h.B], .slice B3 all.length c3]) k_call_110 rfl (mc rfl (mc rfl mn)) (c_spec_l24Small h all B3 c3 all.length _ rfl (hS91.inn0 [(false, 2)] rfl) hc6)) ?_ ?_
           ·rintro _ w_80 ⟨rfl, hd26⟩
            have hS92 := hS91.out00 hd26
            refine ⟨(hS92.se [0, 1, 2, 3, 4]), ?_⟩
            refine rA [11] ?_
            refine ra_c 42 (i := 11) rfl rfl rfl (Yc_func (g := 81) (vs := [vi (all.length : Int), .agg #[vi r_7.Kind, vi r_7.A, vi r_7.B]]) k_call_81 rfl (mc rfl (mc rfl mn)) (c_spec_l6Gate (all.length : Int) r_7 _  (hS92.inn0 [] rfl) hc7)) ?_ ?_
            ·rintro _ w_81 ⟨B6, c6, rfl, hd27⟩
             have hS93 := hS92.out0 hd27
             refine ⟨(hS93.se [0, 1, 2, 3, 4]), ?_⟩
             refine rA [14] ?_
             refine ra_s0 (i := 14) rfl rfl rfl (Ys_store (i := 5) (s := 3) (B := aD b3) (T' := 30) (v := gM_ r_6 B5 c5) (vs := kM_ r_6 B5 c5) (k := 0) (cs' := kM_ r_6 B5 c5) hS93 k_sz_30_3 rfl rfl rfl rfl rfl rfl rfl (lB rfl) rfl rfl) ?_ ?_
             ·rintro _ w_82 ⟨rfl, hS94⟩
              refine ⟨(hS94.se [0, 1, 2, 3, 4]), ?_⟩
              refine rA [15] ?_
              refine ra_s0 (i := 15) rfl rfl rfl (Ys_store (i := 7) (s := 3) (B := aD b4) (T' := 30) (v := gM_ r_8 B6 c6) (vs := kM_ r_8 B6 c6) (k := 0) (cs' := kM_ r_8 B6 c6) hS94 k_sz_30_3 rfl rfl rfl rfl rfl rfl rfl (lB rfl) rfl rfl) ?_ ?_
              ·rintro _ w_83 ⟨rfl, hS95⟩
               refine ⟨(hS95.se [0, 1, 2, 3, 4]), ?_⟩
               refine ra_done (by kernel_rfl) ?_
               exact ⟨aD b3, B5, c5, aD b4, B6, c6, (FF.cons rfl (FF.cons rfl (FF.cons rfl FF.nil))), (hS95.sel [4, 5, 6, 7, 8] rfl rfl)⟩
              exact allR_nil
             exact allR_nil
            exact allR_nil
           exact allR_nil
          exact allR_nil
         refine ra_s 10 (i := 13) rfl rfl rfl (Ys_alloc (T := 30) (cs := kN_) (m := 3) hS80 k_zero_30 rfl rfl rfl) ?_ ?_
         ·rintro _ w_84 ⟨b4, rfl, hS96⟩
          refine ⟨(hS96.se [0, 1, 2, 3, 4]), ?_⟩
          refine rA [5] ?_
          refine ra_c 36 (i := 5) rfl rfl rfl (Yc_func (g := 81) (vs := [vi (all.length : Int), .agg #[vi r_5.Kind, vi r_5.A, vi r_5.B]]) k_call_81 rfl (mc rfl (mc rfl mn)) (c_spec_l6Gate (all.length : Int) r_5 _  (hS96.inn0 [] rfl) hc5)) ?_ ?_
          ·rintro _ w_85 ⟨B5, c5, rfl, hd28⟩
           have hS97 := hS96.out0 hd28
           refine ⟨(hS97.se [0, 1, 2, 3, 4]), ?_⟩
           refine rA [10] ?_
           refine ra_c 41 (i := 10) rfl rfl rfl (Yc_func (g := 110) (vs := [.agg #[vi h.Kind, vi h.A, vi h.B], .slice B3 all.length c3]) k_call_110 rfl (mc rfl (mc rfl mn)) (c_spec_l24Small h all B3 c3 all.length _ rfl (hS97.inn0 [(false, 2)] rfl) hc6)) ?_ ?_
           ·rintro _ w_86 ⟨rfl, hd29⟩
            have hS98 := hS97.out00 hd29
            refine ⟨(hS98.se [0, 1, 2, 3, 4]), ?_⟩
            refine rA [11] ?_
            refine ra_c 42 (i := 11) rfl rfl rfl (Yc_func (g := 81) (vs := [vi (all.length : Int), .agg #[vi r_7.Kind, vi r_7.A, vi r_7.B]]) k_call_81 rfl (mc rfl (mc rfl mn)) (c_spec_l6Gate (all.length : Int) r_7 _  (hS98.inn0 [] rfl) hc7)) ?_ ?_
            ·rintro _ w_87 ⟨B6, c6, rfl, hd30⟩
             have hS99 := hS98.out0 hd30
             refine ⟨(hS99.se [0, 1, 2, 3, 4]), ?_⟩
             refine rA [14] ?_
             refine ra_s0 (i := 14) rfl rfl rfl (Ys_store (i := 5) (s := 3) (B := aD b3) (T' := 30) (v := gM_ r_6 B5 c5) (vs := kM_ r_6 B5 c5) (k := 0) (cs' := kM_ r_6 B5 c5) hS99 k_sz_30_3 rfl rfl rfl rfl rfl rfl rfl (lB rfl) rfl rfl) ?_ ?_
             ·rintro _ w_88 ⟨rfl, hS100⟩
              refine ⟨(hS100.se [0, 1, 2, 3, 4]), ?_⟩
              refine rA [15] ?_
              refine ra_s0 (i := 15) rfl rfl rfl (Ys_store (i := 6) (s := 3) (B := aD b4) (T' := 30) (v := gM_ r_8 B6 c6) (vs := kM_ r_8 B6 c6) (k := 0) (cs' := kM_ r_8 B6 c6) hS100 k_sz_30_3 rfl rfl rfl rfl rfl rfl rfl (lB rfl) rfl rfl) ?_ ?_
              ·rintro _ w_89 ⟨rfl, hS101⟩
               refine ⟨(hS101.se [0, 1, 2, 3, 4]), ?_⟩
               refine ra_done (by kernel_rfl) ?_
               exact ⟨aD b3, B5, c5, aD b4, B6, c6, (FF.cons rfl (FF.cons rfl (FF.cons rfl FF.nil))), (hS101.sel [4, 5, 7, 6, 8] rfl rfl)⟩
              exact allR_nil
             exact allR_nil
            exact allR_nil
           exact allR_nil
          exact allR_nil
         exact allR_nil
        refine ra_s 10 (i := 13) rfl rfl rfl (Ys_alloc (T := 30) (cs := kN_) (m := 3) hS20 k_zero_30 rfl rfl rfl) ?_ ?_
        ·rintro _ w_90 ⟨b4, rfl, hS102⟩
         have hS102 : ST w0 [] _ [⟨aD b, 67, [vi g.Kind, vi g.A, vi g.B], 3⟩, ⟨aD b1, 67, [vi h.Kind, vi h.A, vi h.B], 3⟩, ⟨B3, 3, (all.flatMap encI), c3 * 1⟩, ⟨B2, 3, ((r_2 ++ r_3).flatMap encI), c2 * 1⟩, ⟨aD b2, 75, [.bool false], 1⟩, ⟨aD b4, 30, kN_, 3⟩] [] := hS102
         refine ⟨(hS102.se [0, 1, 2, 3, 4]), ?_⟩
         refine rA [5, 12] ?_
         refine ra_c 36 (i := 5) rfl rfl rfl (Yc_func (g := 81) (vs := [vi (all.length : Int), .agg #[vi r_5.Kind, vi r_5.A, vi r_5.B]]) k_call_81 rfl (mc rfl (mc rfl mn)) (c_spec_l6Gate (all.length : Int) r_5 _  (hS102.inn0 [] rfl) hc5)) ?_ ?_
         ·rintro _ w_91 ⟨B5, c5, rfl, hd31⟩
          have hS103 := hS102.out0 hd31
          refine ⟨(hS103.se [0, 1, 2, 3, 4]), ?_⟩
          refine rA [10, 12] ?_
          refine ra_c 41 (i := 10) rfl rfl rfl (Yc_func (g := 110) (vs := [.agg #[vi h.Kind, vi h.A, vi h.B], .slice B3 all.length c3]) k_call_110 rfl (mc rfl (mc rfl mn)) (c_spec_l24Small h all B3 c3 all.length _ rfl (hS103.inn0 [(false, 2)] rfl) hc6)) ?_ ?_
          ·rintro _ w_92 ⟨rfl, hd32⟩
           have hS104 := hS103.out00 hd32
           refine ⟨(hS104.se [0, 1, 2, 3, 4]), ?_⟩
           refine rA [11, 12] ?_
           refine ra_c 42 (i := 11) rfl rfl rfl (Yc_func (g := 81) (vs := [vi (all.length : Int), .agg #[vi r_7.Kind, vi r_7.A, vi r_7.B]]) k_call_81 rfl (mc rfl (mc rfl mn)) (c_spec_l6Gate (all.length : Int) r_7 _  (hS104.inn0 [] rfl) hc7)) ?_ ?_
           ·rintro _ w_93 ⟨B6, c6, rfl, hd33⟩
            have hS105 := hS104.out0 hd33
            refine ⟨(hS105.se [0, 1, 2, 3, 4]), ?_⟩
            refine rA [12] ?_
            refine ra_s 9 (i := 12) rfl rfl rfl (Ys_alloc (T := 30) (cs := kN_) (m := 3) hS105 k_zero_30 rfl rfl rfl) ?_ ?_
            ·rintro _ w_94 ⟨b3, rfl, hS106⟩
             refine ⟨(hS106.se [0, 1, 2, 3, 4]), ?_⟩
             refine rA [14] ?_
             refine ra_s0 (i := 14) rfl rfl rfl (Ys_store (i := 8) (s := 3) (B := aD b3) (T' := 30) (v := gM_ r_6 B5 c5) (vs := kM_ r_6 B5 c5) (k := 0) (cs' := kM_ r_6 B5 c5) hS106 k_sz_30_3 rfl rfl rfl rfl rfl rfl rfl (lB rfl) rfl rfl) ?_ ?_
             ·rintro _ w_95 ⟨rfl, hS107⟩
              refine ⟨(hS107.se [0, 1, 2, 3, 4]), ?_⟩
              refine rA [15] ?_
              refine ra_s0 (i := 15) rfl rfl rfl (Ys_store (i := 5) (s := 3) (B := aD b4) (T' := 30) (v := gM_ r_8 B6 c6) (vs := kM_ r_8 B6 c6) (k := 0) (cs' := kM_ r_8 B6 c6) hS107 k_sz_30_3 rfl rfl rfl rfl rfl rfl rfl (lB rfl) rfl rfl) ?_ ?_
              ·rintro _ w_96 ⟨rfl, hS108⟩
               refine ⟨(hS108.se [0, 1, 2, 3, 4]), ?_⟩
               refine ra_done (by kernel_rfl) ?_
               exact ⟨aD b3, B5, c5, aD b4, B6, c6, (FF.cons rfl (FF.cons rfl (FF.cons rfl FF.nil))), (hS108.sel [4, 8, 6, 5, 7] rfl rfl)⟩
              exact allR_nil
             exact allR_nil
            exact allR_nil
           refine ra_s 9 (i := 12) rfl rfl rfl (Ys_alloc (T := 30) (cs := kN_) (m := 3) hS104 k_zero_30 rfl rfl rfl) ?_ ?_
           ·rintro _ w_97 ⟨b3, rfl, hS109⟩
            refine ⟨(hS109.se [0, 1, 2, 3, 4]), ?_⟩
            refine rA [11] ?_
            refine ra_c 42 (i := 11) rfl rfl rfl (Yc_func (g := 81) (vs := [vi (all.length : Int), .agg #[vi r_7.Kind, vi r_7.A, vi r_7.B]]) k_call_81 rfl (mc rfl (mc rfl mn)) (c_spec_l6Gate (all.length : Int) r_7 _  (hS109.inn0 [] rfl) hc7)) ?_ ?_
            ·rintro _ w_98 ⟨B6, c6, rfl, hd34⟩
             have hS110 := hS109.out0 hd34
             refine ⟨(hS110.se [0, 1, 2, 3, 4]), ?_⟩
             refine rA [14] ?_
             refine ra_s0 (i := 14) rfl rfl rfl (Ys_store (i := 7) (s := 3) (B := aD b3) (T' := 30) (v := gM_ r_6 B5 c5) (vs := kM_ r_6 B5 c5) (k := 0) (cs' := kM_ r_6 B5 c5) hS110 k_sz_30_3 rfl rfl rfl rfl rfl rfl rfl (lB rfl) rfl rfl) ?_ ?_
             ·rintro _ w_99 ⟨rfl, hS111⟩
              refine ⟨(hS111.se [0, 1, 2, 3, 4]), ?_⟩
              refine rA [15] ?_
              refine ra_s0 (i := 15) rfl rfl rfl (Ys_store (i := 5) (s := 3) (B := aD b4) (T' := 30) (v := gM_ r_8 B6 c6) (vs := kM_ r_8 B6 c6) (k := 0) (cs' := kM_ r_8 B6 c6) hS111 k_sz_30_3 rfl rfl rfl rfl rfl rfl rfl (lB rfl) rfl rfl) ?_ ?_
              ·rintro _ w_100 ⟨rfl, hS112⟩
               refine ⟨(hS112.se [0, 1, 2, 3, 4]), ?_⟩
               refine ra_done (by kernel_rfl) ?_
               exact ⟨aD b3, B5, c5, aD b4, B6, c6, (FF.cons rfl (FF.cons rfl (FF.cons rfl FF.nil))), (hS112.sel [4, 7, 6, 5, 8] rfl rfl)⟩
              exact allR_nil
             exact allR_nil
            exact allR_nil
           exact allR_nil
          refine ra_s 9 (i := 12) rfl rfl rfl (Ys_alloc (T := 30) (cs := kN_) (m := 3) hS103 k_zero_30 rfl rfl rfl) ?_ ?_
          ·rintro _ w_101 ⟨b3, rfl, hS113⟩
           refine ⟨(hS113.se [0, 1, 2, 3, 4]), ?_⟩
           refine rA [10] ?_
           refine ra_c 41 (i := 10) rfl rfl rfl (Yc_func (g := 110) (vs := [.agg #[vi h.Kind, vi h.A, vi h.B], .slice B3 all.length c3]) k_call_110 rfl (mc rfl (mc rfl mn)) (c_spec_l24Small h all B3 c3 all.length _ rfl (hS113.inn0 [(false, 2)] rfl) hc6)) ?_ ?_
           ·rintro _ w_102 ⟨rfl, hd35⟩
            have hS114 := hS113.out00 hd35
            refine ⟨(hS114.se [0, 1, 2, 3, 4]), ?_⟩
            refine rA [11] ?_
            refine ra_c 42 (i := 11) rfl rfl rfl (Yc_func (g := 81) (vs := [vi (all.length : Int), .agg #[vi r_7.Kind, vi r_7.A, vi r_7.B]]) k_call_81 rfl (mc rfl (mc rfl mn)) (c_spec_l6Gate (all.length : Int) r_7 _  (hS114.inn0 [] rfl) hc7)) ?_ ?_
            ·rintro _ w_103 ⟨B6, c6, rfl, hd36⟩
             have hS115 := hS114.out0 hd36
             refine ⟨(hS115.se [0, 1, 2, 3, 4]), ?_⟩
             refine rA [14] ?_
             refine ra_s0 (i := 14) rfl rfl rfl (Ys_store (i := 7) (s := 3) (B := aD b3) (T' := 30) (v := gM_ r_6 B5 c5) (vs := kM_ r_6 B5 c5) (k := 0) (cs' := kM_ r_6 B5 c5) hS115 k_sz_30_3 rfl rfl rfl rfl rfl rfl rfl (lB rfl) rfl rfl) ?_ ?_
             ·rintro _ w_104 ⟨rfl, hS116⟩
              refine ⟨(hS116.se [0, 1, 2, 3, 4]), ?_⟩
              refine rA [15] ?_
              refine ra_s0 (i := 15) rfl rfl rfl (Ys_store (i := 5) (s := 3) (B := aD b4) (T' := 30) (v := gM_ r_8 B6 c6) (vs := kM_ r_8 B6 c6) (k := 0) (cs' := kM_ r_8 B6 c6) hS116 k_sz_30_3 rfl rfl rfl rfl rfl rfl rfl (lB rfl) rfl rfl) ?_ ?_
              ·rintro _ w_105 ⟨rfl, hS117⟩
               refine ⟨(hS117.se [0, 1, 2, 3, 4]), ?_⟩
               refine ra_done (by kernel_rfl) ?_
               exact ⟨aD b3, B5, c5, aD b4, B6, c6, (FF.cons rfl (FF.cons rfl (FF.cons rfl FF.nil))), (hS117.sel [4, 7, 6, 5, 8] rfl rfl)⟩
              exact allR_nil
             exact allR_nil
            exact allR_nil
           exact allR_nil
          exact allR_nil
         refine ra_s 9 (i := 12) rfl rfl rfl (Ys_alloc (T := 30) (cs := kN_) (m := 3) hS102 k_zero_30 rfl rfl rfl) ?_ ?_
         ·rintro _ w_106 ⟨b3, rfl, hS118⟩
          refine ⟨(hS118.se [0, 1, 2, 3, 4]), ?_⟩
          refine rA [5] ?_
          refine ra_c 36 (i := 5) rfl rfl rfl (Yc_func (g := 81) (vs := [vi (all.length : Int), .agg #[vi r_5.Kind, vi r_5.A, vi r_5.B]]) k_call_81 rfl (mc rfl (mc rfl mn)) (c_spec_l6Gate (all.length : Int) r_5 _  (hS118.inn0 [] rfl) hc5)) ?_ ?_
          ·rintro _ w_107 ⟨B5, c5, rfl, hd37⟩
           have hS119 := hS118.out0 hd37
           refine ⟨(hS119.se [0, 1, 2, 3, 4]), ?_⟩
           refine rA [10] ?_
           refine ra_c 41 (i := 10) rfl rfl rfl (Yc_func (g := 110) (vs := [.agg #[vi h.Kind, vi h.A, vi h.B], .slice B3 all.length c3]) k_call_110 rfl (mc rfl (mc rfl mn)) (c_spec_l24Small h all B3 c3 all.length _ rfl (hS119.inn0 [(false, 2)] rfl) hc6)) ?_ ?_
           ·rintro _ w_108 ⟨rfl, hd38⟩
            have hS120 := hS119.out00 hd38
            refine ⟨(hS120.se [0, 1, 2, 3, 4]), ?_⟩
            refine rA [11] ?_
            refine ra_c 42 (i := 11) rfl rfl rfl (Yc_func (g := 81) (vs := [vi (all.length : Int), .agg #[vi r_7.Kind, vi r_7.A, vi r_7.B]]) k_call_81 rfl (mc rfl (mc rfl mn)) (c_spec_l6Gate (all.length : Int) r_7 _  (hS120.inn0 [] rfl) hc7)) ?_ ?_
            ·rintro _ w_109 ⟨B6, c6, rfl, hd39⟩
             have hS121 := hS120.out0 hd39
             refine ⟨(hS121.se [0, 1, 2, 3, 4]), ?_⟩
             refine rA [14] ?_
             refine ra_s0 (i := 14) rfl rfl rfl (Ys_store (i := 6) (s := 3) (B := aD b3) (T' := 30) (v := gM_ r_6 B5 c5) (vs := kM_ r_6 B5 c5) (k := 0) (cs' := kM_ r_6 B5 c5) hS121 k_sz_30_3 rfl rfl rfl rfl rfl rfl rfl (lB rfl) rfl rfl) ?_ ?_
             ·rintro _ w_110 ⟨rfl, hS122⟩
              refine ⟨(hS122.se [0, 1, 2, 3, 4]), ?_⟩
              refine rA [15] ?_
              refine ra_s0 (i := 15) rfl rfl rfl (Ys_store (i := 5) (s := 3) (B := aD b4) (T' := 30) (v := gM_ r_8 B6 c6) (vs := kM_ r_8 B6 c6) (k := 0) (cs' := kM_ r_8 B6 c6) hS122 k_sz_30_3 rfl rfl rfl rfl rfl rfl rfl (lB rfl) rfl rfl) ?_ ?_
              ·rintro _ w_111 ⟨rfl, hS123⟩
               refine ⟨(hS123.se [0, 1, 2, 3, 4]), ?_⟩
               refine ra_done (by kernel_rfl) ?_
               exact ⟨aD b3, B5, c5, aD b4, B6, c6, (FF.cons rfl (FF.cons rfl (FF.cons rfl FF.nil))), (hS123.sel [4, 6, 7, 5, 8] rfl rfl)⟩
              exact allR_nil
             exact allR_nil
            exact allR_nil
           exact allR_nil
          exact allR_nil
         exact allR_nil
        exact allR_nil
       refine ra_s 9 (i := 12) rfl rfl rfl (Ys_alloc (T := 30) (cs := kN_) (m := 3) hS19 k_zero_30 rfl rfl rfl) ?_ ?_
       ·rintro _ w_112 ⟨b3, rfl, hS124⟩
        refine ⟨(hS124.se [0, 1, 2, 3, 4]), ?_⟩
        refine rA [4, 13] ?_
        refine ra_c 35 (i := 4) rfl rfl rfl (Yc_func (g := 110) (vs := [.agg #[vi g.Kind, vi g.A, vi g.B], .slice B3 all.length c3]) k_call_110 rfl (mc rfl (mc rfl mn)) (c_spec_l24Small g all B3 c3 all.length _ rfl (hS124.inn0 [(false, 2)] rfl) hc4)) ?_ ?_
        ·rintro _ w_113 ⟨rfl, hd40⟩
         have hS125 := hS124.out00 hd40
         refine ⟨(hS125.se [0, 1, 2, 3, 4]), ?_⟩
         refine rA [5, 13] ?_
         refine ra_c 36 (i := 5) rfl rfl rfl (Yc_func (g := 81) (vs := [vi (all.length : Int), .agg #[vi r_5.Kind, vi r_5.A, vi r_5.B]]) k_call_81 rfl (mc rfl (mc rfl mn)) (c_spec_l6Gate (all.length : Int) r_5 _  (hS125.inn0 [] rfl) hc5)) ?_ ?_
         ·rintro _ w_114 ⟨B5, c5, rfl, hd41⟩
          have hS126 := hS125.out0 hd41
          refine ⟨(hS126.se [0, 1, 2, 3, 4]), ?_⟩
          refine rA [10, 13] ?_
          refine ra_c 41 (i := 10) rfl rfl rfl (Yc_func (g := 110) (vs := [.agg #[vi h.Kind, vi h.A, vi h.B], .slice B3 all.length c3]) k_call_110 rfl (mc rfl (mc rfl mn)) (c_spec_l24Small h all B3 c3 all.length _ rfl (hS126.inn0 [(false, 2)] rfl) hc6)) ?_ ?_
          ·rintro _ w_115 ⟨rfl, hd42⟩
           have hS127 := hS126.out00 hd42
           refine ⟨(hS127.se [0, 1, 2, 3, 4]), ?_⟩
           refine rA [11, 13] ?_
           refine ra_c 42 (i := 11) rfl rfl rfl (Yc_func (g := 81) (vs := [vi (all.length : Int), .agg #[vi r_7.Kind, vi r_7.A, vi r_7.B]]) k_call_81 rfl (mc rfl (mc rfl mn)) (c_spec_l6Gate (all.length : Int) r_7 _  (hS127.inn0 [] rfl) hc7)) ?_ ?_
           ·rintro _ w_116 ⟨B6, c6, rfl, hd43⟩
            have hS128 := hS127.out0 hd43
            refine ⟨(hS128.se [0, 1, 2, 3, 4]), ?_⟩
            refine rA [13] ?_
            refine ra_s 10 (i := 13) rfl rfl rfl (Ys_alloc (T := 30) (cs := kN_) (m := 3) hS128 k_zero_30 rfl rfl rfl) ?_ ?_
            ·rintro _ w_117 ⟨b4, rfl, hS129⟩
             refine ⟨(hS129.se [0, 1, 2, 3, 4]), ?_⟩
             refine rA [14] ?_
             refine ra_s0 (i := 14) rfl rfl rfl (Ys_store (i := 5) (s := 3) (B := aD b3) (T' := 30) (v := gM_ r_6 B5 c5) (vs := kM_ r_6 B5 c5) (k := 0) (cs' := kM_ r_6 B5 c5) hS129 k_sz_30_3 rfl rfl rfl rfl rfl rfl rfl (lB rfl) rfl rfl) ?_ ?_
             ·rintro _ w_118 ⟨rfl, hS130⟩
              refine ⟨(hS130.se [0, 1, 2, 3, 4]), ?_⟩
              refine rA [15] ?_
              refine ra_s0 (i := 15) rfl rfl rfl (Ys_store (i := 8) (s := 3) (B := aD b4) (T' := 30) (v := gM_ r_8 B6 c6) (vs := kM_ r_8 B6 c6) (k := 0) (cs' := kM_ r_8 B6 c6) hS130 k_sz_30_3 rfl rfl rfl rfl rfl rfl rfl (lB rfl) rfl rfl) ?_ ?_
              ·rintro _ w_119 ⟨rfl, hS131⟩
               refine ⟨(hS131.se [0, 1, 2, 3, 4]), ?_⟩
               refine ra_done (by kernel_rfl) ?_
               exact ⟨aD b3, B5, c5, aD b4, B6, c6, (FF.cons rfl (FF.cons rfl (FF.cons rfl FF.nil))), (hS131.sel [4, 5, 6, 8, 7] rfl rfl)⟩
              exact allR_nil
             exact allR_nil
            exact allR_nil
           refine ra_s 10 (i := 13) rfl rfl rfl (Ys_alloc (T := 30) (cs := kN_) (m := 3) hS127 k_zero_30 rfl rfl rfl) ?_ ?_
           ·rintro _ w_120 ⟨b4, rfl, hS132⟩
            have hS132 : ST w0 [] _ [⟨aD b, 67, [vi g.Kind, vi g.A, vi g.B], 3⟩, ⟨aD b1, 67, [vi h.Kind, vi h.A, vi h.B], 3⟩, ⟨B3, 3, (all.flatMap encI), c3 * 1⟩, ⟨B2, 3, ((r_2 ++ r_3).flatMap encI), c2 * 1⟩, ⟨aD b2, 75, [.bool false], 1⟩, ⟨aD b3, 30, kN_, 3⟩, ⟨B5, 63, (r_6.Cells.flatMap eN0), c5 * 5⟩, ⟨aD b4, 30, kN_, 3⟩] [] := hS132
            refine ⟨(hS132.se [0, 1, 2, 3, 4]), ?_⟩
            refine rA [11] ?_
            refine ra_c 42 (i := 11) rfl rfl rfl (Yc_func (g := 81) (vs := [vi (all.length : Int), .agg #[vi r_7.Kind, vi r_7.A, vi r_7.B]]) k_call_81 rfl (mc rfl (mc rfl mn)) (c_spec_l6Gate (all.length : Int) r_7 _  (hS132.inn0 [] rfl) hc7)) ?_ ?_
            ·rintro _ w_121 ⟨B6, c6, rfl, hd44⟩
             have hS133 := hS132.out0 hd44
             refine ⟨(hS133.se [0, 1, 2, 3, 4]), ?_⟩
             refine rA [14] ?_
             refine ra_s0 (i := 14) rfl rfl rfl (Ys_store (i := 5) (s := 3) (B := aD b3) (T' := 30) (v := gM_ r_6 B5 c5) (vs := kM_ r_6 B5 c5) (k := 0) (cs' := kM_ r_6 B5 c5) hS133 k_sz_30_3 rfl rfl rfl rfl rfl rfl rfl (lB rfl) rfl rfl) ?_ ?_
             ·rintro _ w_122 ⟨rfl, hS134⟩
              refine ⟨(hS134.se [0, 1, 2, 3, 4]), ?_⟩
              refine rA [15] ?_
              refine ra_s0 (i := 15) rfl rfl rfl (Ys_store (i := 7) (s := 3) (B := aD b4) (T' := 30) (v := gM_ r_8 B6 c6) (vs := kM_ r_8 B6 c6) (k := 0) (cs' := kM_ r_8 B6 c6) hS134 k_sz_30_3 rfl rfl rfl rfl rfl rfl rfl (lB rfl) rfl rfl) ?_ ?_
              ·rintro _ w_123 ⟨rfl, hS135⟩
               refine ⟨(hS135.se [0, 1, 2, 3, 4]), ?_⟩
               refine ra_done (by kernel_rfl) ?_
               exact ⟨aD b3, B5, c5, aD b4, B6, c6, (FF.cons rfl (FF.cons rfl (FF.cons rfl FF.nil))), (hS135.sel [4, 5, 6, 7, 8] rfl rfl)⟩
              exact allR_nil
             exact allR_nil
            exact allR_nil
           exact allR_nil
          refine ra_s 10 (i := 13) rfl rfl rfl (Ys_alloc (T := 30) (cs := kN_) (m := 3) hS126 k_zero_30 rfl rfl rfl) ?_ ?_
          ·rintro _ w_124 ⟨b4, rfl, hS136⟩
           refine ⟨(hS136.se [0, 1, 2, 3, 4]), ?_⟩
           refine rA [10] ?_
           refine ra_c 41 (i := 10) rfl rfl rfl (Yc_func (g := 110) (vs := [.agg #[vi h.Kind, vi h.A, vi h.B], .slice B3 all.length c3]) k_call_110 rfl (mc rfl (mc rfl mn)) (c_spec_l24Small h all B3 c3 all.length _ rfl (hS136.inn0 [(false, 2)] rfl) hc6)) ?_ ?_
           ·rintro _ w_125 ⟨rfl, hd45⟩
            have hS137 := hS136.out00 hd45
            refine ⟨(hS137.se [0, 1, 2, 3, 4]), ?_⟩
            refine rA [11] ?_
            refine ra_c 42 (i := 11) rfl rfl rfl (Yc_func (g := 81) (vs := [vi (all.length : Int), .agg #[vi r_7.Kind, vi r_7.A, vi r_7.B]]) k_call_81 rfl (mc rfl (mc rfl mn)) (c_spec_l6Gate (all.length : Int) r_7 _  (hS137.inn0 [] rfl) hc7)) ?_ ?_
            ·rintro _ w_126 ⟨B6, c6, rfl, hd46⟩
             have hS138 := hS137.out0 hd46
             refine ⟨(hS138.se [0, 1, 2, 3, 4]), ?_⟩
             refine rA [14] ?_
             refine ra_s0 (i := 14) rfl rfl rfl (Ys_store (i := 5) (s := 3) (B := aD b3) (T' := 30) (v := gM_ r_6 B5 c5) (vs := kM_ r_6 B5 c5) (k := 0) (cs' := kM_ r_6 B5 c5) hS138 k_sz_30_3 rfl rfl rfl rfl rfl rfl rfl (lB rfl) rfl rfl) ?_ ?_
             ·rintro _ w_127 ⟨rfl, hS139⟩
              refine ⟨(hS139.se [0, 1, 2, 3, 4]), ?_⟩
              refine rA [15] ?_
              refine ra_s0 (i := 15) rfl rfl rfl (Ys_store (i := 7) (s := 3) (B := aD b4) (T' := 30) (v := gM_ r_8 B6 c6) (vs := kM_ r_8 B6 c6) (k := 0) (cs' := kM_ r_8 B6 c6) hS139 k_sz_30_3 rfl rfl rfl rfl rfl rfl rfl (lB rfl) rfl rfl) ?_ ?_
              ·rintro _ w_128 ⟨rfl, hS140⟩
               refine ⟨(hS140.se [0, 1, 2, 3, 4]), ?_⟩
               refine ra_done (by kernel_rfl) ?_
               exact ⟨aD b3, B5, c5, aD b4, B6, c6, (FF.cons rfl (FF.cons rfl (FF.cons rfl FF.nil))), (hS140.sel [4, 5, 6, 7, 8] rfl rfl)⟩
              exact allR_nil
             exact allR_nil
            exact allR_nil
           exact allR_nil
          exact allR_nil
         refine ra_s 10 (i := 13) rfl rfl rfl (Ys_alloc (T := 30) (cs := kN_) (m := 3) hS125 k_zero_30 rfl rfl rfl) ?_ ?_
         ·rintro _ w_129 ⟨b4, rfl, hS141⟩
          refine ⟨(hS141.se [0, 1, 2, 3, 4]), ?_⟩
          refine rA [5] ?_
          refine ra_c 36 (i := 5) rfl rfl rfl (Yc_func (g := 81) (vs := [vi (all.length : Int), .agg #[vi r_5.Kind, vi r_5.A, vi r_5.B]]) k_call_81 rfl (mc rfl (mc rfl mn)) (c_spec_l6Gate (all.length : Int) r_5 _  (hS141.inn0 [] rfl) hc5)) ?_ ?_
          ·rintro _ w_130 ⟨B5, c5, rfl, hd47⟩
           have hS142 := hS141.out0 hd47
           refine ⟨(hS142.se [0, 1, 2, 3, 4]), ?_⟩
           refine rA [10] ?_
           refine ra_c 41 (i := 10) rfl rfl rfl (Yc_func (g := 110) (vs := [.agg #[vi h.Kind, vi h.A, vi h.B], .slice B3 all.length c3]) k_call_110 rfl (mc rfl (mc rfl mn)) (c_spec_l24Small h all B3 c3 all.length _ rfl (hS142.inn0 [(false, 2)] rfl) hc6)) ?_ ?_
           ·rintro _ w_131 ⟨rfl, hd48⟩
            have hS143 := hS142.out00 hd48
            refine ⟨(hS143.se [0, 1, 2, 3, 4]), ?_⟩
            refine rA [11] ?_
            refine ra_c 42 (i := 11) rfl rfl rfl (Yc_func (g := 81) (vs := [vi (all.length : Int), .agg #[vi r_7.Kind, vi r_7.A, vi r_7.B]]) k_call_81 rfl (mc rfl (mc rfl mn)) (c_spec_l6Gate (all.length : Int) r_7 _  (hS143.inn0 [] rfl) hc7)) ?_ ?_
            ·rintro _ w_132 ⟨B6, c6, rfl, hd49⟩
             have hS144 := hS143.out0 hd49
             refine ⟨(hS144.se [0, 1, 2, 3, 4]), ?_⟩
             refine rA [14] ?_
             refine ra_s0 (i := 14) rfl rfl rfl (Ys_store (i := 5) (s := 3) (B := aD b3) (T' := 30) (v := gM_ r_6 B5 c5) (vs := kM_ r_6 B5 c5) (k := 0) (cs' := kM_ r_6 B5 c5) hS144 k_sz_30_3 rfl rfl rfl rfl rfl rfl rfl (lB rfl) rfl rfl) ?_ ?_
             ·rintro _ w_133 ⟨rfl, hS145⟩
              refine ⟨(hS145.se [0, 1, 2, 3, 4]), ?_⟩
              refine rA [15] ?_
              refine ra_s0 (i := 15) rfl rfl rfl (Ys_store (i := 6) (s := 3) (B := aD b4) (T' := 30) (v := gM_ r_8 B6 c6) (vs := kM_ r_8 B6 c6) (k := 0) (cs' := kM_ r_8 B6 c6) hS145 k_sz_30_3 rfl rfl rfl rfl rfl rfl rfl (lB rfl) rfl rfl) ?_ ?_
              ·rintro _ w_134 ⟨rfl, hS146⟩
               refine ⟨(hS146.se [0, 1, 2, 3, 4]), ?_⟩
               refine ra_done (by kernel_rfl) ?_
               exact ⟨aD b3, B5, c5, aD b4, B6, c6, (FF.cons rfl (FF.cons rfl (FF.cons rfl FF.nil))), (hS146.sel [4, 5, 7, 6, 8] rfl rfl)⟩
              exact allR_nil
             exact allR_nil
            exact allR_nil
           exact allR_nil
          exact allR_nil
         exact allR_nil
        refine ra_s 10 (i := 13) rfl rfl rfl (Ys_alloc (T := 30) (cs := kN_) (m := 3) hS124 k_zero_30 rfl rfl rfl) ?_ ?_
        ·rintro _ w_135 ⟨b4, rfl, hS147⟩
         refine ⟨(hS147.se [0, 1, 2, 3, 4]), ?_⟩
         refine rA [4] ?_
         refine ra_c 35 (i := 4) rfl rfl rfl (Yc_func (g := 110) (vs := [.agg #[vi g.Kind, vi g.A, vi g.B], .slice B3 all.length c3]) k_call_110 rfl (mc rfl (mc rfl mn)) (c_spec_l24Small g all B3 c3 all.length _ rfl (hS147.inn0 [(false, 2)] rfl) hc4)) ?_ ?_
         ·rintro _ w_136 ⟨rfl, hd50⟩
          have hS148 := hS147.out00 hd50
          refine ⟨(hS148.se [0, 1, 2, 3, 4]), ?_⟩
          refine rA [5] ?_
          refine ra_c 36 (i := 5) rfl rfl rfl (Yc_func (g := 81) (vs := [vi (all.length : Int), .agg #[vi r_5.Kind, vi r_5.A, vi r_5.B]]) k_call_81 rfl (mc rfl (mc rfl mn)) (c_spec_l6Gate (all.length : Int) r_5 _  (hS148.inn0 [] rfl) hc5)) ?_ ?_
          ·rintro _ w_137 ⟨B5, c5, rfl, hd51⟩
           have hS149 := hS148.out0 hd51
           refine ⟨(hS149.se [0, 1, 2, 3, 4]), ?_⟩
           refine rA [10] ?_
           refine ra_c 41 (i := 10) rfl rfl rfl (Yc_func (g := 110) (vs := [.agg #[vi h.Kind, vi h.A, vi h.B], .slice B3 all.length c3]) k_call_110 rfl (mc rfl (mc rfl mn)) (c_spec_l24Small h all B3 c3 all.length _ rfl (hS149.inn0 [(false, 2)] rfl) hc6)) ?_ ?_
           ·rintro _ w_138 ⟨rfl, hd52⟩
            have hS150 := hS149.out00 hd52
            refine ⟨(hS150.se [0, 1, 2, 3, 4]), ?_⟩
            refine rA [11] ?_
            refine ra_c 42 (i := 11) rfl rfl rfl (Yc_func (g := 81) (vs := [vi (all.length : Int), .agg #[vi r_7.Kind, vi r_7.A, vi r_7.B]]) k_call_81 rfl (mc rfl (mc rfl mn)) (c_spec_l6Gate (all.length : Int) r_7 _  (hS150.inn0 [] rfl) hc7)) ?_ ?_
            ·rintro _ w_139 ⟨B6, c6, rfl, hd53⟩
             have hS151 := hS150.out0 hd53
             refine ⟨(hS151.se [0, 1, 2, 3, 4]), ?_⟩
             refine rA [14] ?_
             refine ra_s0 (i := 14) rfl rfl rfl (Ys_store (i := 5) (s := 3) (B := aD b3) (T' := 30) (v := gM_ r_6 B5 c5) (vs := kM_ r_6 B5 c5) (k := 0) (cs' := kM_ r_6 B5 c5) hS151 k_sz_30_3 rfl rfl rfl rfl rfl rfl rfl (lB rfl) rfl rfl) ?_ ?_
             ·rintro _ w_140 ⟨rfl, hS152⟩
              refine ⟨(hS152.se [0, 1, 2, 3, 4]), ?_⟩
              refine rA [15] ?_
              refine ra_s0 (i := 15) rfl rfl rfl (Ys_store (i := 6) (s := 3) (B := aD b4) (T' := 30) (v := gM_ r_8 B6 c6) (vs := kM_ r_8 B6 c6) (k := 0) (cs' := kM_ r_8 B6 c6) hS152 k_sz_30_3 rfl rfl rfl rfl rfl rfl rfl (lB rfl) rfl rfl) ?_ ?_
              ·rintro _ w_141 ⟨rfl, hS153⟩
               refine ⟨(hS153.se [0, 1, 2, 3, 4]), ?_⟩
               refine ra_done (by kernel_rfl) ?_
               exact ⟨aD b3, B5, c5, aD b4, B6, c6, (FF.cons rfl (FF.cons rfl (FF.cons rfl FF.nil))), (hS153.sel [4, 5, 7, 6, 8] rfl rfl)⟩
              exact allR_nil
             exact allR_nil
            exact allR_nil
           exact allR_nil
          exact allR_nil
         exact allR_nil
        exact allR_nil
       refine ra_s 10 (i := 13) rfl rfl rfl (Ys_alloc (T := 30) (cs := kN_) (m := 3) hS19 k_zero_30 rfl rfl rfl) ?_ ?_
       ·rintro _ w_142 ⟨b4, rfl, hS154⟩
        refine ⟨(hS154.se [0, 1, 2, 3, 4]), ?_⟩
        refine rA [4, 12] ?_
        refine ra_c 35 (i := 4) rfl rfl rfl (Yc_func (g := 110) (vs := [.agg #[vi g.Kind, vi g.A, vi g.B], .slice B3 all.length c3]) k_call_110 rfl (mc rfl (mc rfl mn)) (c_spec_l24Small g all B3 c3 all.length _ rfl (hS154.inn0 [(false, 2)] rfl) hc4)) ?_ ?_
        ·rintro _ w_143 ⟨rfl, hd54⟩
         have hS155 := hS154.out00 hd54
         refine ⟨(hS155.se [0, 1, 2, 3, 4]), ?_⟩
         refine rA [5, 12] ?_
         refine ra_c 36 (i := 5) rfl rfl rfl (Yc_func (g := 81) (vs := [vi (all.length : Int), .agg #[vi r_5.Kind, vi r_5.A, vi r_5.B]]) k_call_81 rfl (mc rfl (mc rfl mn)) (c_spec_l6Gate (all.length : Int) r_5 _  (hS155.inn0 [] rfl) hc5)) ?_ ?_
         ·rintro _ w_144 ⟨B5, c5, rfl, hd55⟩
          have hS156 := hS155.out0 hd55
          refine ⟨(hS156.se [0, 1, 2, 3, 4]), ?_⟩
          refine rA [10, 12] ?_
          refine ra_c 41 (i := 10) rfl rfl rfl (Yc_func (g := 110) (vs := [.agg #[vi h.Kind, vi h.A, vi h.B], .slice B3 all.length c3]) k_call_110 rfl (mc rfl (mc rfl mn)) (c_spec_l24Small h all B3 c3 all.length _ rfl (hS156.inn0 [(false, 2)] rfl) hc6)) ?_ ?_
          ·rintro _ w_145 ⟨rfl, hd56⟩
           have hS157 := hS156.out00 hd56
           refine ⟨(hS157.se [0, 1, 2, 3, 4]), ?_⟩
           refine rA [11, 12] ?_
           refine ra_c 42 (i := 11) rfl rfl rfl (Yc_func (g := 81) (vs := [vi (all.length : Int), .agg #[vi r_7.Kind, vi r_7.A, vi r_7.B]]) k_call_81 rfl (mc rfl (mc rfl mn)) (c_spec_l6Gate (all.length : Int) r_7 _  (hS157.inn0 [] rfl) hc7)) ?_ ?_
           ·rintro _ w_146 ⟨B6, c6, rfl, hd57⟩
            have hS158 := hS157.out0 hd57
            refine ⟨(hS158.se [0, 1, 2, 3, 4]), ?_⟩
            refine rA [12] ?_
            refine ra_s 9 (i := 12) rfl rfl rfl (Ys_alloc (T := 30) (cs := kN_) (m := 3) hS158 k_zero_30 rfl rfl rfl) ?_ ?_
            ·rintro _ w_147 ⟨b3, rfl, hS159⟩
             refine ⟨(hS159.se [0, 1, 2, 3, 4]), ?_⟩
             refine rA [14] ?_
             refine ra_s0 (i := 14) rfl rfl rfl (Ys_store (i := 8) (s := 3) (B := aD b3) (T' := 30) (v := gM_ r_6 B5 c5) (vs := kM_ r_6 B5 c5) (k := 0) (cs' := kM_ r_6 B5 c5) hS159 k_sz_30_3 rfl rfl rfl rfl rfl rfl rfl (lB rfl) rfl rfl) ?_ ?_
             ·rintro _ w_148 ⟨rfl, hS160⟩
              refine ⟨(hS160.se [0, 1, 2, 3, 4]), ?_⟩
              refine rA [15] ?_
              refine ra_s0 (i := 15) rfl rfl rfl (Ys_store (i := 5) (s := 3) (B := aD b4) (T' := 30) (v := gM_ r_8 B6 c6) (vs := kM_ r_8 B6 c6) (k := 0) (cs' := kM_ r_8 B6 c6) hS160 k_sz_30_3 rfl rfl rfl rfl rfl rfl rfl (lB rfl) rfl rfl) ?_ ?_
              ·rintro _ w_149 ⟨rfl, hS161⟩
               refine ⟨(hS161.se [0, 1, 2, 3, 4]), ?_⟩
               refine ra_done (by kernel_rfl) ?_
               exact ⟨aD b3, B5, c5, aD b4, B6, c6, (FF.cons rfl (FF.cons rfl (FF.cons rfl FF.nil))), (hS161.sel [4, 8, 6, 5, 7] rfl rfl)⟩
              exact allR_nil
             exact allR_nil
            exact allR_nil
           refine ra_s 9 (i := 12) rfl rfl rfl (Ys_alloc (T := 30) (cs := kN_) (m := 3) hS157 k_zero_30 rfl rfl rfl) ?_ ?_
           ·rintro _ w_150 ⟨b3, rfl, hS162⟩
            have hS162 : ST w0 [] _ [⟨aD b, 67, [vi g.Kind, vi g.A, vi g.B], 3⟩, ⟨aD b1, 67, [vi h.Kind, vi h.A, vi h.B], 3⟩, ⟨B3, 3, (all.flatMap encI), c3 * 1⟩, ⟨B2, 3, ((r_2 ++ r_3).flatMap encI), c2 * 1⟩, ⟨aD b2, 75, [.bool false], 1⟩, ⟨aD b4, 30, kN_, 3⟩, ⟨B5, 63, (r_6.Cells.flatMap eN0), c5 * 5⟩, ⟨aD b3, 30, kN_, 3⟩] [] := hS162
            refine ⟨(hS162.se [0, 1, 2, 3, 4]), ?_⟩
            refine rA [11] ?_
            refine ra_c 42 (i := 11) rfl rfl rfl (Yc_func (g := 81) (vs := [vi (all.length : Int), .agg #[vi r_7.Kind, vi r_7.A, vi r_7.B]]) k_call_81 rfl (mc rfl (mc rfl mn)) (c_spec_l6Gate (all.length : Int) r_7 _  (hS162.inn0 [] rfl) hc7)) ?_ ?_
            ·rintro _ w_151 ⟨B6, c6, rfl, hd58⟩
             have hS163 := hS162.out0 hd58
             refine ⟨(hS163.se [0, 1, 2, 3, 4]), ?_⟩
             refine rA [14] ?_
             refine ra_s0 (i := 14) rfl rfl rfl (Ys_store (i := 7) (s := 3) (B := aD b3) (T' := 30) (v := gM_ r_6 B5 c5) (vs := kM_ r_6 B5 c5) (k := 0) (cs' := kM_ r_6 B5 c5) hS163 k_sz_30_3 rfl rfl rfl rfl rfl rfl rfl (lB rfl) rfl rfl) ?_ ?_
             ·rintro _ w_152 ⟨rfl, hS164⟩
              refine ⟨(hS164.se [0, 1, 2, 3, 4]), ?_⟩
              refine rA [15] ?_
              refine ra_s0 (i := 15) rfl rfl rfl (Ys_store (i := 5) (s := 3) (B := aD b4) (T' := 30) (v := gM_ r_8 B6 c6) (vs := kM_ r_8 B6 c6) (k := 0) (cs' := kM_ r_8 B6 c6) hS164 k_sz_30_3 rfl rfl rfl rfl rfl rfl rfl (lB rfl) rfl rfl) ?_ ?_
              ·rintro _ w_153 ⟨rfl, hS165⟩
               refine ⟨(hS165.se [0, 1, 2, 3, 4]), ?_⟩
               refine ra_done (by kernel_rfl) ?_
               exact ⟨aD b3, B5, c5, aD b4, B6, c6, (FF.cons rfl (FF.cons rfl (FF.cons rfl FF.nil))), (hS165.sel [4, 7, 6, 5, 8] rfl rfl)⟩
              exact allR_nil
             exact allR_nil
            exact allR_nil
           exact allR_nil
          refine ra_s 9 (i := 12) rfl rfl rfl (Ys_alloc (T := 30) (cs := kN_) (m := 3) hS156 k_zero_30 rfl rfl rfl) ?_ ?_
          ·rintro _ w_154 ⟨b3, rfl, hS166⟩
           refine ⟨(hS166.se [0, 1, 2, 3, 4]), ?_⟩
           refine rA [10] ?_
           refine ra_c 41 (i := 10) rfl rfl rfl (Yc_func (g := 110) (vs := [.agg #[vi h.Kind, vi h.A, vi h.B], .slice B3 all.length c3]) k_call_110 rfl (mc rfl (mc rfl mn)) (c_spec_l24Small h all B3 c3 all.length _ rfl (hS166.inn0 [(false, 2)] rfl) hc6)) ?_ ?_
           ·rintro _ w_155 ⟨rfl, hd59⟩
            have hS167 := hS166.out00 hd59
            refine ⟨(hS167.se [0, 1, 2, 3, 4]), ?_⟩
            refine rA [11] ?_
            refine ra_c 42 (i := 11) rfl rfl rfl (Yc_func (g := 81) (vs := [vi (all.length : Int), .agg #[vi r_7.Kind, vi r_7.A, vi r_7.B]]) k_call_81 rfl (mc rfl (mc rfl mn)) (c_spec_l6Gate (all.length : Int) r_7 _  (hS167.inn0 [] rfl) hc7)) ?_ ?_
            ·rintro _ w_156 ⟨B6, c6, rfl, hd60⟩
             have hS168 := hS167.out0 hd60
             refine ⟨(hS168.se [0, 1, 2, 3, 4]), ?_⟩
             refine rA [14] ?_
             refine ra_s0 (i := 14) rfl rfl rfl (Ys_store (i := 7) (s := 3) (B := aD b3) (T' := 30) (v := gM_ r_6 B5 c5) (vs := kM_ r_6 B5 c5) (k := 0) (cs' := kM_ r_6 B5 c5) hS168 k_sz_30_3 rfl rfl rfl rfl rfl rfl rfl (lB rfl) rfl rfl) ?_ ?_
             ·rintro _ w_157 ⟨rfl, hS169⟩
              refine ⟨(hS169.se [0, 1, 2, 3, 4]), ?_⟩
              refine rA [15] ?_
              refine ra_s0 (i := 15) rfl rfl rfl (Ys_store (i := 5) (s := 3) (B := aD b4) (T' := 30) (v := gM_ r_8 B6 c6) (vs := kM_ r_8 B6 c6) (k := 0) (cs' := kM_ r_8 B6 c6) hS169 k_sz_30_3 rfl rfl rfl rfl rfl rfl rfl (lB rfl) rfl rfl) ?_ ?_
              ·rintro _ w_158 ⟨rfl, hS170⟩
               refine ⟨(hS170.se [0, 1, 2, 3, 4]), ?_⟩
               refine ra_done (by kernel_rfl) ?_
               exact ⟨aD b3, B5, c5, aD b4, B6, c6, (FF.cons rfl (FF.cons rfl (FF.cons rfl FF.nil))), (hS170.sel [4, 7, 6, 5, 8] rfl rfl)⟩
              exact allR_nil
             exact allR_nil
            exact allR_nil
           exact allR_nil
          exact allR_nil
         refine ra_s 9 (i := 12) rfl rfl rfl (Ys_alloc (T := 30) (cs := kN_) (m := 3) hS155 k_zero_30 rfl rfl rfl) ?_ ?_
         ·rintro _ w_159 ⟨b3, rfl, hS171⟩
          refine ⟨(hS171.se [0, 1, 2, 3, 4]), ?_⟩
          refine rA [5] ?_
          refine ra_c 36 (i := 5) rfl rfl rfl (Yc_func (g := 81) (vs := [vi (all.length : Int), .agg #[vi r_5.Kind, vi r_5.A, vi r_5.B]]) k_call_81 rfl (mc rfl (mc rfl mn)) (c_spec_l6Gate (all.length : Int) r_5 _  (hS171.inn0 [] rfl) hc5)) ?_ ?_
          ·rintro _ w_160 ⟨B5, c5, rfl, hd61⟩
           have hS172 := hS171.out0 hd61
           refine ⟨(hS172.se [0, 1, 2, 3, 4]), ?_⟩
           refine rA [10] ?_
           refine ra_c 41 (i := 10) rfl rfl rfl (Yc_func (g := 110) (vs := [.agg #[vi h.Kind, vi h.A, vi h.B], .slice B3 all.length c3]) k_call_110 rfl (mc rfl (mc rfl mn)) (c_spec_l24Small h all B3 c3 all.length _ rfl (hS172.inn0 [(false, 2)] rfl) hc6)) ?_ ?_
           ·rintro _ w_161 ⟨rfl, hd62⟩
            have hS173 := hS172.out00 hd62
            refine ⟨(hS173.se [0, 1, 2, 3, 4]), ?_⟩
            refine rA [11] ?_
            refine ra_c 42 (i := 11) rfl rfl rfl (Yc_func (g := 81) (vs := [vi (all.length : Int), .agg #[vi r_7.Kind, vi r_7.A, vi r_7.B]]) k_call_81 rfl (mc rfl (mc rfl mn)) (c_spec_l6Gate (all.length : Int) r_7 _  (hS173.inn0 [] rfl) hc7)) ?_ ?_
            ·rintro _ w_162 ⟨B6, c6, rfl, hd63⟩
             have hS174 := hS173.out0 hd63
             refine ⟨(hS174.se [0, 1, 2, 3, 4]), ?_⟩
             refine rA [14] ?_
             refine ra_s0 (i := 14) rfl rfl rfl (Ys_store (i := 6) (s := 3) (B := aD b3) (T' := 30) (v := gM_ r_6 B5 c5) (vs := kM_ r_6 B5 c5) (k := 0) (cs' := kM_ r_6 B5 c5) hS174 k_sz_30_3 rfl rfl rfl rfl rfl rfl rfl (lB rfl) rfl rfl) ?_ ?_
             ·rintro _ w_163 ⟨rfl, hS175⟩
              refine ⟨(hS175.se [0, 1, 2, 3, 4]), ?_⟩
              refine rA [15] ?_
              refine ra_s0 (i := 15) rfl rfl rfl (Ys_store (i := 5) (s := 3) (B := aD b4) (T' := 30) (v := gM_ r_8 B6 c6) (vs := kM_ r_8 B6 c6) (k := 0) (cs' := kM_ r_8 B6 c6) hS175 k_sz_30_3 rfl rfl rfl rfl rfl rfl rfl (lB rfl) rfl rfl) ?_ ?_
              ·rintro _ w_164 ⟨rfl, hS176⟩
               refine ⟨(hS176.se [0, 1, 2, 3, 4]), ?_⟩
               refine ra_done (by kernel_rfl) ?_
               exact ⟨aD b3, B5, c5, aD b4, B6, c6, (FF.cons rfl (FF.cons rfl (FF.cons rfl FF.nil))), (hS176.sel [4, 6, 7, 5, 8] rfl rfl)⟩
              exact allR_nil
             exact allR_nil
            exact allR_nil
           exact allR_nil
          exact allR_nil
         exact allR_nil
        refine ra_s 9 (i := 12) rfl rfl rfl (Ys_alloc (T := 30) (cs := kN_) (m := 3) hS154 k_zero_30 rfl rfl rfl) ?_ ?_
        ·rintro _ w_165 ⟨b3, rfl, hS177⟩
         refine ⟨(hS177.se [0, 1, 2, 3, 4]), ?_⟩
         refine rA [4] ?_
         refine ra_c 35 (i := 4) rfl rfl rfl (Yc_func (g := 110) (vs := [.agg #[vi g.Kind, vi g.A, vi g.B], .slice B3 all.length c3]) k_call_110 rfl (mc rfl (mc rfl mn)) (c_spec_l24Small g all B3 c3 all.length _ rfl (hS177.inn0 [(false, 2)] rfl) hc4)) ?_ ?_
         ·rintro _ w_166 ⟨rfl, hd64⟩
          have hS178 := hS177.out00 hd64
          refine ⟨(hS178.se [0, 1, 2, 3, 4]), ?_⟩
          refine rA [5] ?_
          refine ra_c 36 (i := 5) rfl rfl rfl (Yc_func (g := 81) (vs := [vi (all.length : Int), .agg #[vi r_5.Kind, vi r_5.A, vi r_5.B]]) k_call_81 rfl (mc rfl (mc rfl mn)) (c_spec_l6Gate (all.length : Int) r_5 _  (hS178.inn0 [] rfl) hc5)) ?_ ?_
          ·rintro _ w_167 ⟨B5, c5, rfl, hd65⟩
           have hS179 := hS178.out0 hd65
           refine ⟨(hS179.se [0, 1, 2, 3, 4]), ?_⟩
           refine rA [10] ?_
           refine ra_c 41 (i := 10) rfl rfl rfl (Yc_func (g := 110) (vs := [.agg #[vi h.Kind, vi h.A, vi h.B], .slice B3 all.length c3]) k_call_110 rfl (mc rfl (mc rfl mn)) (c_spec_l24Small h all B3 c3 all.length _ rfl (hS179.inn0 [(false, 2)] rfl) hc6)) ?_ ?_
           ·rintro _ w_168 ⟨rfl, hd66⟩
            have hS180 := hS179.out00 hd66
            refine ⟨(hS180.se [0, 1, 2, 3, 4]), ?_⟩
            refine rA [11] ?_
            refine ra_c 42 (i := 11) rfl rfl rfl (Yc_func (g := 81) (vs := [vi (all.length : Int), .agg #[vi r_7.Kind, vi r_7.A, vi r_7.B]]) k_call_81 rfl (mc rfl (mc rfl mn)) (c_spec_l6Gate (all.length : Int) r_7 _  (hS180.inn0 [] rfl) hc7)) ?_ ?_
            ·rintro _ w_169 ⟨B6, c6, rfl, hd67⟩
             have hS181 := hS180.out0 hd67
             refine ⟨(hS181.se [0, 1, 2, 3, 4]), ?_⟩
             refine rA [14] ?_
             refine ra_s0 (i := 14) rfl rfl rfl (Ys_store (i := 6) (s := 3) (B := aD b3) (T' := 30) (v := gM_ r_6 B5 c5) (vs := kM_ r_6 B5 c5) (k := 0) (cs' := kM_ r_6 B5 c5) hS181 k_sz_30_3 rfl rfl rfl rfl rfl rfl rfl (lB rfl) rfl rfl) ?_ ?_
             ·rintro _ w_170 ⟨rfl, hS182⟩
              refine ⟨(hS182.se [0, 1, 2, 3, 4]), ?_⟩
              refine rA [15] ?_
              refine ra_s0 (i := 15) rfl rfl rfl (Ys_store (i := 5) (s := 3) (B := aD b4) (T' := 30) (v := gM_ r_8 B6 c6) (vs := kM_ r_8 B6 c6) (k := 0) (cs' := kM_ r_8 B6 c6) hS182 k_sz_30_3 rfl rfl rfl rfl rfl rfl rfl (lB rfl) rfl rfl) ?_ ?_
              ·rintro _ w_171 ⟨rfl, hS183⟩
               refine ⟨(hS183.se [0, 1, 2, 3, 4]), ?_⟩
               refine ra_done (by kernel_rfl) ?_
               exact ⟨aD b3, B5, c5, aD b4, B6, c6, (FF.cons rfl (FF.cons rfl (FF.cons rfl FF.nil))), (hS183.sel [4, 6, 7, 5, 8] rfl rfl)⟩
              exact allR_nil
             exact allR_nil
            exact allR_nil
           exact allR_nil
          exact allR_nil
         exact allR_nil
        exact allR_nil
       exact allR_nil
      rintro f w ⟨B7, B8, c7, B9, B10, c8, hf1, hS18⟩
      refine cw_seq ?_
      obtain ⟨⟨r_9, m⟩, hc8, hF3⟩ := bind_inv hF3
      obtain ⟨⟨r_10, m1⟩, hc9, hF3⟩ := bind_inv hF3
      obtain ⟨r_11, hc10, hF3⟩ := bind_inv hF3
      refine ra_start (hS18.se [1, 2, 3, 4]).fn (by kernel_rfl) ?_
      have hS187 := hS18.drew
      refine rq 0 43 (v := pt (aD b2) 0) rfl (hS187.se [1, 2, 3, 4]) (fun w' hw' => (Y_move (v := pt (aD b2) 0) rfl (hf1.get 8 0 rfl))) ?_
      refine rq 1 44 (v := gM_ r_6 B8 c7) rfl (hS187.se [1, 2, 3, 4]) (fun w' hw' => (Y_loadA (B := B7) (i := 0) (cs := kM_ r_6 B8 c7) (vs := kM_ r_6 B8 c7) k_ag_30 k_sz_30_3 rfl (hf1.get 9 1 rfl) (ST.cf hw' (i := 0) rfl) rfl rfl)) ?_
      refine rq 2 45 (v := gM_ r_8 B10 c8) rfl (hS187.se [1, 2, 3, 4]) (fun w' hw' => (Y_loadA (B := B9) (i := 0) (cs := kM_ r_8 B10 c8) (vs := kM_ r_8 B10 c8) k_ag_30 k_sz_30_3 rfl (hf1.get 10 2 rfl) (ST.cf hw' (i := 2) rfl) rfl rfl)) ?_
      refine rq 4 47 (v := pt (aD b2) 0) rfl (hS187.se [1, 2, 3, 4]) (fun w' hw' => (Y_move (v := pt (aD b2) 0) rfl (hf1.get 8 0 rfl))) ?_
      refine rq 5 48 (v := gM_ r_8 B10 c8) rfl (hS187.se [1, 2, 3, 4]) (fun w' hw' => (Y_loadA (B := B9) (i := 0) (cs := kM_ r_8 B10 c8) (vs := kM_ r_8 B10 c8) k_ag_30 k_sz_30_3 rfl (hf1.get 10 2 rfl) (ST.cf hw' (i := 2) rfl) rfl rfl)) ?_
      refine rq 6 49 (v := gM_ r_6 B8 c7) rfl (hS187.se [1, 2, 3, 4]) (fun w' hw' => (Y_loadA (B := B7) (i := 0) (cs := kM_ r_6 B8 c7) (vs := kM_ r_6 B8 c7) k_ag_30 k_sz_30_3 rfl (hf1.get 9 1 rfl) (ST.cf hw' (i := 0) rfl) rfl rfl)) ?_
      refine rA [3] ?_
      refine ra_c 46 (i := 3) rfl rfl rfl (Yc_func (g := 39) (vs := [pt (aD b2) 0, gM_ r_6 B8 c7, gM_ r_8 B10 c8]) k_call_39 rfl (mc rfl (mc rfl (mc rfl mn))) (c_spec_l2C_times (Tl2C.mk false) r_6 r_8 (aD b2) B8 c7 r_6.Cells.length B10 c8 r_8.Cells.length _ rfl rfl (hS187.inn [true, false, false, false, false] rfl [(false, 1), (false, 3)] rfl) hc8)) ?_ ?_
      ·rintro _ w_172 ⟨B11, c9, rfl, hd68⟩
       have hS188 := hS187.out [true, false, false, false, false] rfl hd68
       refine ⟨(hS188.se [0, 1, 2, 3]), ?_⟩
       refine rA [7] ?_
       refine ra_c 50 (i := 7) rfl rfl rfl (Yc_func (g := 39) (vs := [pt (aD b2) 0, gM_ r_8 B10 c8, gM_ r_6 B8 c7]) k_call_39 rfl (mc rfl (mc rfl (mc rfl mn))) (c_spec_l2C_times m r_8 r_6 (aD b2) B10 c8 r_8.Cells.length B8 c7 r_6.Cells.length _ rfl rfl (hS188.inn [false, false, false, false, true, false] rfl [(false, 3), (false, 1)] rfl) hc9)) ?_ ?_
       ·rintro _ w_173 ⟨B12, c10, rfl, hd69⟩
        have hS189 := hS188.out [false, false, false, false, true, false] rfl hd69
        refine ⟨(hS189.se [0, 1, 2, 3]), ?_⟩
        refine rA [8] ?_
        refine ra_c 51 (i := 8) rfl rfl rfl (Yc_func (g := 10) (vs := [gM_ r_9 B11 c9, gM_ r_10 B12 c10]) k_call_10 rfl (mc rfl (mc rfl mn)) (c_spec_EqualMatrices r_9 r_10 B11 c9 r_9.Cells.length B12 c10 r_10.Cells.length _ rfl rfl (hS189.inn0 [(false, 4), (false, 6)] rfl) hc10)) ?_ ?_
        ·rintro _ w_174 ⟨rfl, hd70⟩
         have hS190 := hS189.out00 hd70
         refine ⟨(hS190.se [0, 1, 2, 3]), ?_⟩
         refine rq 9 4 (v := .bool r_11) rfl (hS190.se [0, 1, 2, 3]) (fun w' hw' => (Y_assign (v := .bool r_11) rfl rfl)) ?_
         refine ra_done (by kernel_rfl) ?_
         refine cw_ret ?_
         obtain rfl := some_inj hF3
         exact ret1 Tryz.results71 (v1 := .bool r_11) (resAt_tmp rfl) ⟨rfl, (hS190.sN [])⟩
        exact allR_nil
       exact allR_nil
      exact allR_nil
    exact allR_nil
   exact allR_nil
  exact allR_nil

theorem c_spec_GatesCommute (n : Int) (g : TGate) (h : TGate)  (w0 : World)  (hS : ST w0 [] w0 [] []) {r_ : Bool} {r_1 : Bool} (hF : F_spec_GatesCommute n g h = some (r_, r_1)) :
  CV Tryz.prog 27 #[vi n, .agg #[vi g.Kind, vi g.A, vi g.B], .agg #[vi h.Kind, vi h.A, vi h.B]] w0 (fun v w' => v = .tuple #[.bool r_, .bool r_1] ∧ ST w0 [] w' [] []) := by
 unfold F_spec_GatesCommute at hF
 refine cv_of_cw 26 Tryz.func27 rfl Tryz.ntmps27 rfl ?_
 refine cw_seq (cw_region ?_)
 refine sS 4 (Ys_box (T := 67) (v := .agg #[vi g.Kind, vi g.A, vi g.B]) (cs := [vi g.Kind, vi g.A, vi g.B]) (m := 3) hS rfl rfl rfl rfl) ?_
 rintro _ w_ ⟨b, rfl, hS1⟩
 refine sS 5 (Ys_box (T := 67) (v := .agg #[vi h.Kind, vi h.A, vi h.B]) (cs := [vi h.Kind, vi h.A, vi h.B]) (m := 3) hS1 rfl rfl rfl rfl) ?_
 rintro _ w_1 ⟨b1, rfl, hS2⟩
 refine sQ 6 (Y_assign (v := .bool false) rfl rfl) ?_
 refine sQ 7 (Y_assign (v := .bool false) rfl rfl) (rw_nil (cw_seq (cw_seq (cw_region ?_))))
 refine sQ 8 (Y_move (v := vi n) rfl rfl) ?_
 obtain ⟨r_2, hc, hF⟩ := bind_inv hF
 refine sc 9 rfl rfl (Yc_func (g := 69) (vs := [vi n, vi 1, vi 5]) k_call_69 rfl (mc rfl (mc rfl (mc rfl mn))) (c_spec_l1In n 1 5 _  (hS2.inn0 [] rfl) hc)) ?_
 rintro _ w_2 ⟨rfl, hd⟩
 have hS3 := hS2.out00 hd
 refine sQ 10 (Y_not (p := r_2) rfl rfl) ?_
 refine sQ 11 (Y_move (v := .bool (!r_2)) rfl rfl) ?_
 refine sgq 12 (B := (!(!r_2))) (v := vi n) rfl rfl (uF_ 11) (fun hg => (Y_move (v := vi n) rfl rfl)) ?_
 refine sgq 13 (B := (!(!r_2))) (v := .agg #[vi g.Kind, vi g.A, vi g.B]) rfl rfl (uF_ 11) (fun hg1 => (Y_loadA (B := aD b) (i := 0) (cs := [vi g.Kind, vi g.A, vi g.B]) (vs := [vi g.Kind, vi g.A, vi g.B]) k_ag_67 k_sz_67_3 rfl rfl (hS3.cf (i := 0) rfl) rfl rfl)) ?_
 obtain ⟨r_3, hc1, hF⟩ := bind_inv hF
 refine sgc 14 (B := (!(!r_2))) (v := .bool r_3) (F := hS3.fn) rfl rfl (uF_ 11) hS3 (fun hg2 => (Yc_func (g := 70) (vs := [vi n, .agg #[vi g.Kind, vi g.A, vi g.B]]) k_call_70 rfl (mc (gv_of (v := vi n) hg2) (mc (gv_of (v := .agg #[vi g.Kind, vi g.A, vi g.B]) hg2) mn)) (CV.mono (c_spec_l4Gate n g _  (hS3.inn0 [] rfl) (gb_inv hc1 hg2)) (by rintro _ _ ⟨rfl, h⟩; exact ⟨rfl, hS3.out00 h⟩)))) ?_
 rintro w_3 hS4
 refine sgq 15 (B := (!(!r_2))) (v := .bool (!r_3)) rfl rfl (uF_ 11) (fun hg3 => (Y_not (p := r_3) rfl (gv_of (v := .bool r_3) hg3))) ?_
 refine sQ 16 (Y_or (b := (!r_2)) (z := (!r_3)) rfl rfl rfl rfl) ?_
 refine sQ 17 (Y_move (v := .bool ((!r_2) || (!r_3))) rfl rfl) ?_
 refine sgq 18 (B := (!((!r_2) || (!r_3)))) (v := vi n) rfl rfl (uF_ 17) (fun hg4 => (Y_move (v := vi n) rfl rfl)) ?_
 refine sgq 19 (B := (!((!r_2) || (!r_3)))) (v := .agg #[vi h.Kind, vi h.A, vi h.B]) rfl rfl (uF_ 17) (fun hg5 => (Y_loadA (B := aD b1) (i := 0) (cs := [vi h.Kind, vi h.A, vi h.B]) (vs := [vi h.Kind, vi h.A, vi h.B]) k_ag_67 k_sz_67_3 rfl rfl (hS4.cf (i := 1) rfl) rfl rfl)) ?_
 obtain ⟨r_4, hc2, hF⟩ := bind_inv hF
 refine sgc 20 (B := (!((!r_2) || (!r_3)))) (v := .bool r_4) (F := hS4.fn) rfl rfl (uF_ 17) hS4 (fun hg6 => (Yc_func (g := 70) (vs := [vi n, .agg #[vi h.Kind, vi h.A, vi h.B]]) k_call_70 rfl (mc (gv_of (v := vi n) hg6) (mc (gv_of (v := .agg #[vi h.Kind, vi h.A, vi h.B]) hg6) mn)) (CV.mono (c_spec_l4Gate n h _  (hS4.inn0 [] rfl) (gb_inv hc2 hg6)) (by rintro _ _ ⟨rfl, h⟩; exact ⟨rfl, hS4.out00 h⟩)))) ?_
 rintro w_4 hS5
 refine sgq 21 (B := (!((!r_2) || (!r_3)))) (v := .bool (!r_4)) rfl rfl (uF_ 17) (fun hg7 => (Y_not (p := r_4) rfl (gv_of (v := .bool r_4) hg7))) ?_
 refine sQ 22 (Y_or (b := ((!r_2) || (!r_3))) (z := (!r_4)) rfl rfl rfl rfl) (rw_nil ?_)
 refine cw_cond (b := (((!r_2) || (!r_3)) || (!r_4))) rfl (fun hb => ?_) (fun hb => ?_)
 ·skip
  have hF1 := ct hF hb
  refine cw_seq (cw_region ?_)
  refine sQ 6 (Y_assign (v := .bool false) rfl rfl) ?_
  refine sQ 7 (Y_assign (v := .bool false) rfl rfl) (rw_nil (cw_ret ?_))
  obtain ⟨rfl, rfl⟩ := pr2 (some_inj hF1)
  exact ret2 Tryz.results27 (v1 := .bool false) (resAt_tmp rfl) (v2 := .bool false) (resAt_tmp rfl) ⟨rfl, (hS5.sN [])⟩
 ·skip
  have hF2 := cf' hF hb
  refine cw_skip (cw_seq (cw_region ?_))
  refine sQ 23 (Y_loadA (B := aD b) (i := 0) (cs := [vi g.Kind, vi g.A, vi g.B]) (vs := [vi g.Kind, vi g.A, vi g.B]) k_ag_67 k_sz_67_3 rfl rfl (hS5.cf (i := 0) rfl) rfl rfl) ?_
  refine sQ 24 (Y_loadA (B := aD b1) (i := 0) (cs := [vi h.Kind, vi h.A, vi h.B]) (vs := [vi h.Kind, vi h.A, vi h.B]) k_ag_67 k_sz_67_3 rfl rfl (hS5.cf (i := 1) rfl) rfl rfl) ?_
  obtain ⟨r_5, hc3, hF2⟩ := bind_inv hF2
  refine sc 25 rfl rfl (Yc_func (g := 71) (vs := [.agg #[vi g.Kind, vi g.A, vi g.B], .agg #[vi h.Kind, vi h.A, vi h.B]]) k_call_71 rfl (mc rfl (mc rfl mn)) (c_spec_l24Commute g h _  (hS5.inn0 [] rfl) hc3)) ?_
  rintro _ w_5 ⟨rfl, hd1⟩
  have hS6 := hS5.out00 hd1
  refine sQ 6 (Y_assign (v := .bool r_5) rfl rfl) ?_
  refine sQ 7 (Y_assign (v := .bool true) rfl rfl) (rw_nil (cw_ret ?_))
  obtain ⟨rfl, rfl⟩ := pr2 (some_inj hF2)
  exact ret2 Tryz.results27 (v1 := .bool r_5) (resAt_tmp rfl) (v2 := .bool true) (resAt_tmp rfl) ⟨rfl, (hS6.sN [])⟩

theorem c_laws_toGate (a : TGate)  (w0 : World)  (hS : ST w0 [] w0 [] []) {r_ : TGate} (hF : F_laws_toGate a = some r_) :
  CV Tryz.prog 28 #[.agg #[vi a.Kind, vi a.A, vi a.B]] w0 (fun v w' => v = .agg #[vi r_.Kind, vi r_.A, vi r_.B] ∧ ST w0 [] w' [] []) := by
 unfold F_laws_toGate at hF
 refine cv_of_cw 14 Tryz.func28 rfl Tryz.ntmps28 rfl ?_
 refine cw_seq (cw_region ?_)
 refine sS 1 (Ys_box (T := 65) (v := .agg #[vi a.Kind, vi a.A, vi a.B]) (cs := [vi a.Kind, vi a.A, vi a.B]) (m := 3) hS rfl rfl rfl rfl) ?_
 rintro _ w_ ⟨b, rfl, hS1⟩
 refine sS 2 (Ys_alloc (T := 67) (cs := [vi 0, vi 0, vi 0]) (m := 3) hS1 k_zero_67 rfl rfl rfl) ?_
 rintro _ w_1 ⟨b1, rfl, hS2⟩
 refine rw_nil (cw_seq (cw_region ?_))
 refine sS 3 (Ys_alloc (T := 67) (cs := [vi 0, vi 0, vi 0]) (m := 3) hS2 k_zero_67 rfl rfl rfl) ?_
 rintro _ w_2 ⟨b2, rfl, hS3⟩
 refine rw_nil (cw_seq (cw_region ?_))
 refine sQ 4 (Y_fieldAddr (B := aD b) (i := 0) (s := 0) k_fd_65_0_0_3 k_sz_3_1 rfl rfl) ?_
 refine sQ 5 (Y_load1 (B := aD b) (i := 0) (cs := [vi a.Kind, vi a.A, vi a.B]) (v := vi a.Kind) k_sc_3 rfl rfl (hS3.cf (i := 0) rfl) rfl) ?_
 refine sQ 6 (Y_fieldAddr (B := aD b2) (i := 0) (s := 0) k_fd_67_0_0_3 k_sz_3_1 rfl rfl) ?_
 refine s0 (Ys_store (i := 2) (s := 1) (B := aD b2) (T' := 67) (v := vi a.Kind) (vs := [vi a.Kind]) (k := 0) (cs' := [vi a.Kind, vi 0, vi 0]) hS3 k_sz_3_1 rfl rfl rfl rfl rfl rfl rfl (lB rfl) rfl rfl) ?_
 rintro _ w_3 ⟨rfl, hS4⟩
 refine rw_nil (cw_seq (cw_region ?_))
 refine sQ 7 (Y_fieldAddr (B := aD b) (i := 0) (s := 0) k_fd_65_1_1_3 k_sz_3_1 rfl rfl) ?_
 refine sQ 8 (Y_load1 (B := aD b) (i := 1) (cs := [vi a.Kind, vi a.A, vi a.B]) (v := vi a.A) k_sc_3 rfl rfl (hS4.cf (i := 0) rfl) rfl) ?_
 refine sQ 9 (Y_fieldAddr (B := aD b2) (i := 0) (s := 0) k_fd_67_1_1_3 k_sz_3_1 rfl rfl) ?_
 refine s0 (Ys_store (i := 2) (s := 1) (B := aD b2) (T' := 67) (v := vi a.A) (vs := [vi a.A]) (k := 1) (cs' := [vi a.Kind, vi a.A, vi 0]) hS4 k_sz_3_1 rfl rfl rfl rfl rfl rfl rfl (lB rfl) rfl rfl) ?_
 rintro _ w_4 ⟨rfl, hS5⟩
 refine rw_nil (cw_seq (cw_region ?_))
 refine sQ 10 (Y_fieldAddr (B := aD b) (i := 0) (s := 0) k_fd_65_2_2_3 k_sz_3_1 rfl rfl) ?_
 refine sQ 11 (Y_load1 (B := aD b) (i := 2) (cs := [vi a.Kind, vi a.A, vi a.B]) (v := vi a.B) k_sc_3 rfl rfl (hS5.cf (i := 0) rfl) rfl) ?_
 refine sQ 12 (Y_fieldAddr (B := aD b2) (i := 0) (s := 0) k_fd_67_2_2_3 k_sz_3_1 rfl rfl) ?_
 refine s0 (Ys_store (i := 2) (s := 1) (B := aD b2) (T' := 67) (v := vi a.B) (vs := [vi a.B]) (k := 2) (cs' := [vi a.Kind, vi a.A, vi a.B]) hS5 k_sz_3_1 rfl rfl rfl rfl rfl rfl rfl (lB rfl) rfl rfl) ?_
 rintro _ w_5 ⟨rfl, hS6⟩
 refine rw_nil (cw_seq (cw_region ?_))
 refine sQ 13 (Y_loadA (B := aD b2) (i := 0) (cs := [vi a.Kind, vi a.A, vi a.B]) (vs := [vi a.Kind, vi a.A, vi a.B]) k_ag_67 k_sz_67_3 rfl rfl (hS6.cf (i := 2) rfl) rfl rfl) ?_
 refine s0 (Ys_store (i := 1) (s := 3) (B := aD b1) (T' := 67) (v := .agg #[vi a.Kind, vi a.A, vi a.B]) (vs := [vi a.Kind, vi a.A, vi a.B]) (k := 0) (cs' := [vi a.Kind, vi a.A, vi a.B]) hS6 k_sz_67_3 rfl rfl rfl rfl rfl rfl rfl (lB rfl) rfl rfl) ?_
 rintro _ w_6 ⟨rfl, hS7⟩
 refine rw_nil (cw_ret ?_)
 obtain rfl := some_inj hF
 exact ret1 Tryz.results28 (v1 := .agg #[vi a.Kind, vi a.A, vi a.B]) (resAt_cellA (B := aD b1) (i := 0) (cs := [vi a.Kind, vi a.A, vi a.B]) (vs := [vi a.Kind, vi a.A, vi a.B]) rfl k_ag_67 k_sz_67_3 (hS7.cf (i := 1) rfl) rfl rfl) ⟨rfl, (hS7.sN [])⟩

theorem c_impl_within (n : Int) (low : Int) (high : Int)  (w0 : World)  (hS : ST w0 [] w0 [] []) {r_ : Bool} (hF : F_impl_within n low high = some r_) :
  CV Tryz.prog 65 #[vi n, vi low, vi high] w0 (fun v w' => v = .bool r_ ∧ ST w0 [] w' [] []) := by
 unfold F_impl_within at hF
 refine cv_of_cw 15 Tryz.func65 rfl Tryz.ntmps65 rfl ?_
 refine cw_seq (cw_region ?_)
 refine sQ 6 (Y_assign (v := .bool false) rfl rfl) (rw_nil (cw_seq (cw_region ?_)))
 refine sQ 7 (Y_move (v := vi low) rfl rfl) ?_
 refine sQ 8 (Y_move (v := vi n) rfl rfl) ?_
 refine sQ 9 (Y_le (k := .i64) (a := low) (b := n) rfl rfl rfl) ?_
 refine sQ 10 (Y_move (v := .bool (decide (low ≤ n))) rfl rfl) ?_
 refine sgq 11 (B := (decide (low ≤ n))) (v := vi n) rfl rfl (uT_ 10) (fun hg => (Y_move (v := vi n) rfl rfl)) ?_
 refine sgq 12 (B := (decide (low ≤ n))) (v := vi high) rfl rfl (uT_ 10) (fun hg1 => (Y_move (v := vi high) rfl rfl)) ?_
 refine sgq 13 (B := (decide (low ≤ n))) (v := .bool (decide (n ≤ high))) rfl rfl (uT_ 10) (fun hg2 => (Y_le (k := .i64) (a := n) (b := high) rfl (gv_of (v := vi n) hg2) (gv_of (v := vi high) hg2))) ?_
 refine sQ 14 (Y_and (b := (decide (low ≤ n))) (z := (decide (n ≤ high))) rfl rfl rfl rfl) ?_
 refine sQ 6 (Y_assign (v := .bool ((decide (low ≤ n)) && (decide (n ≤ high)))) rfl rfl) (rw_nil (cw_ret ?_))
 obtain rfl := some_inj hF
 exact ret1 Tryz.results65 (v1 := .bool ((decide (low ≤ n)) && (decide (n ≤ high)))) (resAt_tmp rfl) ⟨rfl, (hS.sN [])⟩

theorem c_impl_isTwo (kind : Int)  (w0 : World)  (hS : ST w0 [] w0 [] []) {r_ : Bool} (hF : F_impl_isTwo kind = some r_) :
  CV Tryz.prog 111 #[vi kind] w0 (fun v w' => v = .bool r_ ∧ ST w0 [] w' [] []) := by
 unfold F_impl_isTwo at hF
 refine cv_of_cw 5 Tryz.func111 rfl Tryz.ntmps111 rfl ?_
 refine cw_seq (cw_region ?_)
 refine sQ 2 (Y_assign (v := .bool false) rfl rfl) (rw_nil (cw_seq (cw_region ?_)))
 refine sQ 3 (Y_move (v := vi kind) rfl rfl) ?_
 obtain ⟨r_1, hc, hF⟩ := bind_inv hF
 refine sc 4 rfl rfl (Yc_func (g := 65) (vs := [vi kind, vi 9, vi 11]) k_call_65 rfl (mc rfl (mc rfl (mc rfl mn))) (c_impl_within kind 9 11 _  (hS.inn0 [] rfl) hc)) ?_
 rintro _ w_ ⟨rfl, hd⟩
 have hS1 := hS.out00 hd
 refine sQ 2 (Y_assign (v := .bool r_1) rfl rfl) (rw_nil (cw_ret ?_))
 obtain rfl := some_inj hF
 exact ret1 Tryz.results111 (v1 := .bool r_1) (resAt_tmp rfl) ⟨rfl, (hS1.sN [])⟩

theorem c_impl_IsValidGate (n : Int) (g : TGate)  (w0 : World)  (hS : ST w0 [] w0 [] []) {r_ : Bool} (hF : F_impl_IsValidGate n g = some r_) :
  CV Tryz.prog 72 #[vi n, .agg #[vi g.Kind, vi g.A, vi g.B]] w0 (fun v w' => v = .bool r_ ∧ ST w0 [] w' [] []) := by
 unfold F_impl_IsValidGate at hF
 refine cv_of_cw 60 Tryz.func72 rfl Tryz.ntmps72 rfl ?_
 refine cw_seq (cw_region ?_)
 refine sS 3 (Ys_box (T := 67) (v := .agg #[vi g.Kind, vi g.A, vi g.B]) (cs := [vi g.Kind, vi g.A, vi g.B]) (m := 3) hS rfl rfl rfl rfl) ?_
 rintro _ w_ ⟨b, rfl, hS1⟩
 refine sQ 4 (Y_assign (v := .bool false) rfl rfl) (rw_nil (cw_seq (cw_block (cw_seq (cw_region ?_)))))
 refine sQ 6 (Y_move (v := vi n) rfl rfl) ?_
 obtain ⟨r_1, hc, hF⟩ := bind_inv hF
 refine sc 7 rfl rfl (Yc_func (g := 65) (vs := [vi n, vi 1, vi 5]) k_call_65 rfl (mc rfl (mc rfl (mc rfl mn))) (c_impl_within n 1 5 _  (hS1.inn0 [] rfl) hc)) ?_
 rintro _ w_1 ⟨rfl, hd⟩
 have hS2 := hS1.out00 hd
 refine sQ 8 (Y_not (p := r_1) rfl rfl) ?_
 refine sQ 9 (Y_move (v := .bool (!r_1)) rfl rfl) ?_
 refine sgq 10 (B := (!(!r_1))) (v := pt (aD b) 0) rfl rfl (uF_ 9) (fun hg => (Y_fieldAddr (B := aD b) (i := 0) (s := 0) k_fd_67_0_0_3 k_sz_3_1 rfl rfl)) ?_
 refine sgq 11 (B := (!(!r_1))) (v := vi g.Kind) rfl rfl (uF_ 9) (fun hg1 => (Y_load1 (B := aD b) (i := 0) (cs := [vi g.Kind, vi g.A, vi g.B]) (v := vi g.Kind) k_sc_3 rfl (gv_of (v := pt (aD b) 0) hg1) (hS2.cf (i := 0) rfl) rfl)) ?_
 obtain ⟨r_2, hc1, hF⟩ := bind_inv hF
 refine sgc 12 (B := (!(!r_1))) (v := .bool r_2) (F := hS2.fn) rfl rfl (uF_ 9) hS2 (fun hg2 => (Yc_func (g := 65) (vs := [vi g.Kind, vi 1, vi 12]) k_call_65 rfl (mc (gv_of (v := vi g.Kind) hg2) (mc rfl (mc rfl mn))) (CV.mono (c_impl_within g.Kind 1 12 _  (hS2.inn0 [] rfl) (gb_inv hc1 hg2)) (by rintro _ _ ⟨rfl, h⟩; exact ⟨rfl, hS2.out00 h⟩)))) ?_
 rintro w_2 hS3
 refine sgq 13 (B := (!(!r_1))) (v := .bool (!r_2)) rfl rfl (uF_ 9) (fun hg3 => (Y_not (p := r_2) rfl (gv_of (v := .bool r_2) hg3))) ?_
 refine sQ 14 (Y_or (b := (!r_1)) (z := (!r_2)) rfl rfl rfl rfl) ?_
 refine sQ 5 (Y_assign (v := .bool ((!r_1) || (!r_2))) rfl rfl) (rw_nil ?_)
 refine cw_cond (b := ((!r_1) || (!r_2))) rfl (fun hb => ?_) (fun hb => ?_)
 ·skip
  have hF1 := ct hF hb
  refine cw_seq (cw_region ?_)
  refine sQ 4 (Y_assign (v := .bool false) rfl rfl) (rw_nil (cw_ret ?_))
  obtain rfl := some_inj hF1
  exact ret1 Tryz.results72 (v1 := .bool false) (resAt_tmp rfl) ⟨rfl, (hS3.sN [])⟩
 ·skip
  have hF2 := cf' hF hb
  refine cw_seq (cw_region ?_)
  refine sQ 16 (Y_fieldAddr (B := aD b) (i := 0) (s := 0) k_fd_67_0_0_3 k_sz_3_1 rfl rfl) ?_
  refine sQ 17 (Y_load1 (B := aD b) (i := 0) (cs := [vi g.Kind, vi g.A, vi g.B]) (v := vi g.Kind) k_sc_3 rfl rfl (hS3.cf (i := 0) rfl) rfl) ?_
  refine sQ 18 (Y_eq (k := .i64) (a := g.Kind) (b := 12) rfl rfl rfl) ?_
  refine sQ 15 (Y_assign (v := .bool (g.Kind == 12)) rfl rfl) (rw_nil ?_)
  refine cw_cond (b := (g.Kind == 12)) rfl (fun hb1 => ?_) (fun hb1 => ?_)
  ·skip
   have hF3 := ct hF2 hb1
   refine cw_seq (cw_region ?_)
   refine sQ 19 (Y_fieldAddr (B := aD b) (i := 0) (s := 0) k_fd_67_1_1_3 k_sz_3_1 rfl rfl) ?_
   refine sQ 20 (Y_load1 (B := aD b) (i := 1) (cs := [vi g.Kind, vi g.A, vi g.B]) (v := vi g.A) k_sc_3 rfl rfl (hS3.cf (i := 0) rfl) rfl) ?_
   refine sQ 21 (Y_eq (k := .i64) (a := g.A) (b := 0) rfl rfl rfl) ?_
   refine sQ 22 (Y_move (v := .bool (g.A == 0)) rfl rfl) ?_
   refine sgq 23 (B := (g.A == 0)) (v := pt (aD b) 2) rfl rfl (uT_ 22) (fun hg4 => (Y_fieldAddr (B := aD b) (i := 0) (s := 0) k_fd_67_2_2_3 k_sz_3_1 rfl rfl)) ?_
   refine sgq 24 (B := (g.A == 0)) (v := vi g.B) rfl rfl (uT_ 22) (fun hg5 => (Y_load1 (B := aD b) (i := 2) (cs := [vi g.Kind, vi g.A, vi g.B]) (v := vi g.B) k_sc_3 rfl (gv_of (v := pt (aD b) 2) hg5) (hS3.cf (i := 0) rfl) rfl)) ?_
   refine sgq 25 (B := (g.A == 0)) (v := .bool (g.B == 0)) rfl rfl (uT_ 22) (fun hg6 => (Y_eq (k := .i64) (a := g.B) (b := 0) rfl (gv_of (v := vi g.B) hg6) rfl)) ?_
   refine sQ 26 (Y_and (b := (g.A == 0)) (z := (g.B == 0)) rfl rfl rfl rfl) ?_
   refine sQ 4 (Y_assign (v := .bool ((g.A == 0) && (g.B == 0))) rfl rfl) (rw_nil (cw_ret ?_))
   obtain rfl := some_inj hF3
   exact ret1 Tryz.results72 (v1 := .bool ((g.A == 0) && (g.B == 0))) (resAt_tmp rfl) ⟨rfl, (hS3.sN [])⟩
  ·skip
   have hF4 := cf' hF2 hb1
   refine cw_seq (cw_region ?_)
   refine sQ 28 (Y_fieldAddr (B := aD b) (i := 0) (s := 0) k_fd_67_0_0_3 k_sz_3_1 rfl rfl) ?_
   refine sQ 29 (Y_load1 (B := aD b) (i := 0) (cs := [vi g.Kind, vi g.A, vi g.B]) (v := vi g.Kind) k_sc_3 rfl rfl (hS3.cf (i := 0) rfl) rfl) ?_
   obtain ⟨r_3, hc2, hF4⟩ := bind_inv hF4
   refine sc 30 rfl rfl (Yc_func (g := 111) (vs := [vi g.Kind]) k_call_111 rfl (mc rfl mn) (c_impl_isTwo g.Kind _  (hS3.inn0 [] rfl) hc2)) ?_
   rintro _ w_3 ⟨rfl, hd1⟩
   have hS4 := hS3.out00 hd1
   refine sQ 27 (Y_assign (v := .bool r_3) rfl rfl) (rw_nil ?_)
   refine cw_cond (b := r_3) rfl (fun hb2 => ?_) (fun hb2 => ?_)
   ·skip
    have hF5 := ct hF4 hb2
    refine cw_seq (cw_region ?_)
    refine sQ 31 (Y_fieldAddr (B := aD b) (i := 0) (s := 0) k_fd_67_1_1_3 k_sz_3_1 rfl rfl) ?_
    refine sQ 32 (Y_load1 (B := aD b) (i := 1) (cs := [vi g.Kind, vi g.A, vi g.B]) (v := vi g.A) k_sc_3 rfl rfl (hS4.cf (i := 0) rfl) rfl) ?_
    refine sQ 33 (Y_move (v := vi n) rfl rfl) ?_
    refine sQ 34 (Y_sub (k := .i64) (a := n) (b := 1) rfl rfl rfl) ?_
    obtain ⟨r_4, hc3, hF5⟩ := bind_inv hF5
    refine sc 35 rfl rfl (Yc_func (g := 65) (vs := [vi g.A, vi 0, vi (i64.wrap (n - 1))]) k_call_65 rfl (mc rfl (mc rfl (mc rfl mn))) (c_impl_within g.A 0 (i64.wrap (n - 1)) _  (hS4.inn0 [] rfl) hc3)) ?_
    rintro _ w_4 ⟨rfl, hd2⟩
    have hS5 := hS4.out00 hd2
    refine sQ 36 (Y_move (v := .bool r_4) rfl rfl) ?_
    refine sgq 37 (B := r_4) (v := pt (aD b) 2) rfl rfl (uT_ 36) (fun hg7 => (Y_fieldAddr (B := aD b) (i := 0) (s := 0) k_fd_67_2_2_3 k_sz_3_1 rfl rfl)) ?_
    refine sgq 38 (B := r_4) (v := vi g.B) rfl rfl (uT_ 36) (fun hg8 => (Y_load1 (B := aD b) (i := 2) (cs := [vi g.Kind, vi g.A, vi g.B]) (v := vi g.B) k_sc_3 rfl (gv_of (v := pt (aD b) 2) hg8) (hS5.cf (i := 0) rfl) rfl)) ?_
    refine sgq 39 (B := r_4) (v := vi n) rfl rfl (uT_ 36) (fun hg9 => (Y_move (v := vi n) rfl rfl)) ?_
    refine sgq 40 (B := r_4) (v := vi (i64.wrap (n - 1))) rfl rfl (uT_ 36) (fun hg10 => (Y_sub (k := .i64) (a := n) (b := 1) rfl (gv_of (v := vi n) hg10) rfl)) ?_
    obtain ⟨r_5, hc4, hF5⟩ := bind_inv hF5
    refine sgc 41 (B := r_4) (v := .bool r_5) (F := hS5.fn) rfl rfl (uT_ 36) hS5 (fun hg11 => (Yc_func (g := 65) (vs := [vi g.B, vi 0, vi (i64.wrap (n - 1))]) k_call_65 rfl (mc (gv_of (v := vi g.B) hg11) (mc rfl (mc (gv_of (v := vi (i64.wrap (n - 1))) hg11) mn))) (CV.mono (c_impl_within g.B 0 (i64.wrap (n - 1)) _  (hS5.inn0 [] rfl) (gb_inv hc4 hg11)) (by rintro _ _ ⟨rfl, h⟩; exact ⟨rfl, hS5.out00 h⟩)))) ?_
    rintro w_5 hS6
    refine sQ 42 (Y_and (b := r_4) (z := r_5) rfl rfl rfl rfl) ?_
    refine sQ 43 (Y_move (v := .bool (r_4 && r_5)) rfl rfl) ?_
    refine sgq 44 (B := (r_4 && r_5)) (v := pt (aD b) 1) rfl rfl (uT_ 43) (fun hg12 => (Y_fieldAddr (B := aD b) (i := 0) (s := 0) k_fd_67_1_1_3 k_sz_3_1 rfl rfl)) ?_
    refine sgq 45 (B := (r_4 && r_5)) (v := vi g.A) rfl rfl (uT_ 43) (fun hg13 => (Y_load1 (B := aD b) (i := 1) (cs := [vi g.Kind, vi g.A, vi g.B]) (v := vi g.A) k_sc_3 rfl (gv_of (v := pt (aD b) 1) hg13) (hS6.cf (i := 0) rfl) rfl)) ?_
    refine sgq 46 (B := (r_4 && r_5)) (v := pt (aD b) 2) rfl rfl (uT_ 43) (fun hg14 => (Y_fieldAddr (B := aD b) (i := 0) (s := 0) k_fd_67_2_2_3 k_sz_3_1 rfl rfl)) ?_
    refine sgq 47 (B := (r_4 && r_5)) (v := vi g.B) rfl rfl (uT_ 43) (fun hg15 => (Y_load1 (B := aD b) (i := 2) (cs := [vi g.Kind, vi g.A, vi g.B]) (v := vi g.B) k_sc_3 rfl (gv_of (v := pt (aD b) 2) hg15) (hS6.cf (i := 0) rfl) rfl)) ?_
    refine sgq 48 (B := (r_4 && r_5)) (v := .bool (g.A != g.B)) rfl rfl (uT_ 43) (fun hg16 => (Y_ne (k := .i64) (a := g.A) (b := g.B) rfl (gv_of (v := vi g.A) hg16) (gv_of (v := vi g.B) hg16))) ?_
    refine sQ 49 (Y_and (b := (r_4 && r_5)) (z := (g.A != g.B)) rfl rfl rfl rfl) ?_
    refine sQ 4 (Y_assign (v := .bool ((r_4 && r_5) && (g.A != g.B))) rfl rfl) (rw_nil (cw_ret ?_))
    obtain rfl := some_inj hF5
    exact ret1 Tryz.results72 (v1 := .bool ((r_4 && r_5) && (g.A != g.B))) (resAt_tmp rfl) ⟨rfl, (hS6.sN [])⟩
   ·skip
    have hF6 := cf' hF4 hb2
    refine cw_skip (cw_seq (cw_region ?_))
    refine sQ 50 (Y_fieldAddr (B := aD b) (i := 0) (s := 0) k_fd_67_1_1_3 k_sz_3_1 rfl rfl) ?_
    refine sQ 51 (Y_load1 (B := aD b) (i := 1) (cs := [vi g.Kind, vi g.A, vi g.B]) (v := vi g.A) k_sc_3 rfl rfl (hS4.cf (i := 0) rfl) rfl) ?_
    refine sQ 52 (Y_move (v := vi n) rfl rfl) ?_
    refine sQ 53 (Y_sub (k := .i64) (a := n) (b := 1) rfl rfl rfl) ?_
    obtain ⟨r_6, hc5, hF6⟩ := bind_inv hF6
    refine sc 54 rfl rfl (Yc_func (g := 65) (vs := [vi g.A, vi 0, vi (i64.wrap (n - 1))]) k_call_65 rfl (mc rfl (mc rfl (mc rfl mn))) (c_impl_within g.A 0 (i64.wrap (n - 1)) _  (hS4.inn0 [] rfl) hc5)) ?_
    rintro _ w_6 ⟨rfl, hd3⟩
    have hS7 := hS4.out00 hd3
    refine sQ 55 (Y_move (v := .bool r_6) rfl rfl) ?_
    refine sgq 56 (B := r_6) (v := pt (aD b) 2) rfl rfl (uT_ 55) (fun hg17 => (Y_fieldAddr (B := aD b) (i := 0) (s := 0) k_fd_67_2_2_3 k_sz_3_1 rfl rfl)) ?_
    refine sgq 57 (B := r_6) (v := vi g.B) rfl rfl (uT_ 55) (fun hg18 => (Y_load1 (B := aD b) (i := 2) (cs := [vi g.Kind, vi g.A, vi g.B]) (v := vi g.B) k_sc_3 rfl (gv_of (v := pt (aD b) 2) hg18) (hS7.cf (i := 0) rfl) rfl)) ?_
    refine sgq 58 (B := r_6) (v := .bool (g.B == 0)) rfl rfl (uT_ 55) (fun hg19 => (Y_eq (k := .i64) (a := g.B) (b := 0) rfl (gv_of (v := vi g.B) hg19) rfl)) ?_
    refine sQ 59 (Y_and (b := r_6) (z := (g.B == 0)) rfl rfl rfl rfl) ?_
    refine sQ 4 (Y_assign (v := .bool (r_6 && (g.B == 0))) rfl rfl) (rw_nil (cw_ret ?_))
    obtain rfl := some_inj hF6
    exact ret1 Tryz.results72 (v1 := .bool (r_6 && (g.B == 0))) (resAt_tmp rfl) ⟨rfl, (hS7.sN [])⟩

theorem c_slices_IndexFunc_impl_Gate_impl_Gate (s : List TGate) (f_ : TGate → Option (Bool)) (B : Option Addr) (c n : Nat) (kf : Nat) (caps : Array Value) (Rf : List Ro) (w0 : World) (hn : s.length = n) (hk : callB Tryz.prog kf = true) (hp : ∀ (w : World), ST w [] w [] Rf → ∀ (x : TGate) (y : Bool), f_ x = some y → CV Tryz.prog kf ((.agg #[vi x.Kind, vi x.A, vi x.B]) :: caps.toList).toArray w (fun v w' => v = .bool y ∧ ST w [] w' [] [])) (hS : ST w0 [] w0 [] (⟨B, (s.flatMap enc_Gate)⟩ :: Rf)) {r_ : Int} (hF : F_slices_IndexFunc_impl_Gate_impl_Gate s f_ = some r_) :
  CV Tryz.prog 116 #[.slice B n c, .func (.func kf) #[] caps] w0 (fun v w' => v = vi r_ ∧ ST w0 [] w' [] []) := by
 subst hn
 unfold F_slices_IndexFunc_impl_Gate_impl_Gate at hF
 refine cv_of_cw 19 Tryz.func116 rfl Tryz.ntmps116 rfl ?_
 refine cw_seq (cw_region ?_)
 refine sQ 4 (Y_assign (v := vi 0) rfl rfl) (rw_nil (cw_seq (cw_seq (cw_region ?_))))
 refine sQ 6 (Y_move (v := .slice B s.length c) rfl rfl) ?_
 refine sQ 7 (Y_len (B := B) (m := s.length) (c := c) k_sl_24_67 rfl rfl) ?_
 refine sQ 8 (Y_move (v := vi 0) rfl rfl) (rw_nil ?_)
 obtain ⟨hN, hF⟩ := chk_inv hF
 obtain ⟨z, hz, hF1⟩ := bind_inv hF
 refine cw_block ?_
 refine cw_loop (fun k f w => ∃ (i : Nat), FF f [(0, .slice B s.length c), (1, .func (.func kf) #[] caps), (7, vi (s.length : Int)), (8, vi (i : Int))] ∧ ST w0 [] w [] (⟨B, (s.flatMap enc_Gate)⟩ :: Rf) ∧ i + k = s.length ∧ forX (F_slices_IndexFunc_impl_Gate_impl_Gate_l1 s f_) k i () = some z) s.length ⟨0, (FF.cons rfl (FF.cons rfl (FF.cons rfl (FF.cons rfl FF.nil)))), (hS.sel [] rfl rfl), Nat.zero_add _, hz⟩ ?_
 rintro k_ f w ⟨i, hf, hS1, hik, hL⟩
 refine cw_seq (cw_region ?_)
 refine sQ 9 (Y_lt (k := .i64) (a := (i : Int)) (b := (s.length : Int)) rfl (hf.get 8 3 rfl) (hf.get 7 2 rfl)) (rw_nil (cw_seq ?_))
 refine cw_cond (b := (decide ((i : Int) < (s.length : Int)))) rfl (fun hlt => ?_) (fun hlt => ?_)
 ·skip
  have hlt1 : i < s.length := by have h := of_decide_eq_true hlt; omega
  obtain ⟨k_1, rfl⟩ : ∃ k2, k_ = k2 + 1 := ⟨k_ - 1, by omega⟩
  obtain ⟨y1, hb, hL1⟩ := forX_go hL
  unfold F_slices_IndexFunc_impl_Gate_impl_Gate_l1 at hb
  refine cw_skip (cw_seq (cw_block (cw_seq (cw_region ?_))))
  refine sQ 10 (Y_move (v := vi (i : Int)) rfl (hf.get 8 3 rfl)) ?_
  refine sQ 5 (Y_assign (v := vi (i : Int)) rfl rfl) (rw_nil (cw_seq (cw_region ?_)))
  refine sQ 11 (Y_move (v := .func (.func kf) #[] caps) rfl (hf.get 1 1 rfl)) ?_
  refine sQ 12 (Y_move (v := .slice B s.length c) rfl (hf.get 0 0 rfl)) ?_
  refine sQ 13 (Y_move (v := vi (i : Int)) rfl rfl) ?_
  obtain ⟨x1, hx, hb⟩ := bind_inv hb
  refine sQ 14 (Y_index (B := B) (m := s.length) (c := c) (k := .i64) (i := (i : Int)) k_sl_24_67 k_sz_67_3 rfl rfl rfl (gi_isSome enc_Gate_len rfl (hS1.rf (i := 0) rfl) hx) (getI_nn hx) (getI_ltI hx rfl)) ?_
  refine sQ 15 (Y_loadA (B := B) (i := (i : Int).toNat * 3) (cs := (s.flatMap enc_Gate)) (vs := [vi x1.Kind, vi x1.A, vi x1.B]) k_ag_67 k_sz_67_3 rfl rfl (hS1.rf (i := 0) rfl) (enc_Gate_len x1) (gi_seg enc_Gate_len hx)) ?_
  obtain ⟨r_1, hc, hb⟩ := bind_inv hb
  refine sc 16 rfl rfl (Yc_clos (g := kf) (vs := (.agg #[vi x1.Kind, vi x1.A, vi x1.B]) :: caps.toList) hk rfl rfl (clo_args (mc rfl mn)) (hp _ (hS1.innS (fun _ h => mOd (i := 1) h)) x1 r_1 hc)) ?_
  rintro _ w_ ⟨rfl, hd⟩
  have hS2 := hS1.out00 hd
  refine rw_nil ?_
  refine cw_cond (b := r_1) rfl (fun hb1 => ?_) (fun hb1 => ?_)
  ·skip
   have hF2 := ct hb hb1
   refine cw_seq (cw_region ?_)
   refine sQ 17 (Y_move (v := vi (i : Int)) rfl rfl) ?_
   refine sQ 4 (Y_assign (v := vi (i : Int)) rfl rfl) (rw_nil (cw_ret ?_))
   obtain rfl := some_inj hF2
   obtain rfl := some_inj hL1
   obtain rfl := some_inj hF1
   exact ret1 Tryz.results116 (v1 := vi (i : Int)) (resAt_tmp rfl) ⟨rfl, (hS2.sN [])⟩
  ·skip
   have hF3 := cf' hb hb1
   refine cw_skip (cw_region ?_)
   refine sQ 18 (Y_add (k := .i64) (a := (i : Int)) (b := 1) rfl (hf.get 8 3 rfl) rfl) ?_
   refine sQ 8 (Y_move (v := vi (i64.wrap ((i : Int) + 1))) rfl rfl) (rw_nil ?_)
   obtain rfl := some_inj hF3
   exact ⟨k_1, Nat.lt_succ_self _, i + 1, (FF.cons (hf.get 0 0 rfl) (FF.cons (hf.get 1 1 rfl) (FF.cons (hf.get 7 2 rfl) (FF.cons (congrArg (Value.int .i64) (wr_succ hlt1 hN)) FF.nil)))), (hS2.sel [] rfl rfl), (by omega), hL1⟩
 ·skip
  obtain rfl : k_ = 0 := by have h := of_decide_eq_false hlt; omega
  refine cw_exit rfl ?_
  obtain rfl := some_inj hL
  refine cw_seq (cw_region ?_)
  refine sQ 4 (Y_assign (v := vi (-1)) rfl rfl) (rw_nil (cw_ret ?_))
  obtain rfl := some_inj hF1
  exact ret1 Tryz.results116 (v1 := vi (-1)) (resAt_tmp rfl) ⟨rfl, (hS1.sN [])⟩

theorem c_slices_ContainsFunc_impl_Gate_impl_Gate (s : List TGate) (f_ : TGate → Option (Bool)) (B : Option Addr) (c n : Nat) (kf : Nat) (caps : Array Value) (Rf : List Ro) (w0 : World) (hn : s.length = n) (hk : callB Tryz.prog kf = true) (hp : ∀ (w : World), ST w [] w [] Rf → ∀ (x : TGate) (y : Bool), f_ x = some y → CV Tryz.prog kf ((.agg #[vi x.Kind, vi x.A, vi x.B]) :: caps.toList).toArray w (fun v w' => v = .bool y ∧ ST w [] w' [] [])) (hS : ST w0 [] w0 [] (⟨B, (s.flatMap enc_Gate)⟩ :: Rf)) {r_ : Bool} (hF : F_slices_ContainsFunc_impl_Gate_impl_Gate s f_ = some r_) :
  CV Tryz.prog 74 #[.slice B n c, .func (.func kf) #[] caps] w0 (fun v w' => v = .bool r_ ∧ ST w0 [] w' [] []) := by
 subst hn
 unfold F_slices_ContainsFunc_impl_Gate_impl_Gate at hF
 refine cv_of_cw 9 Tryz.func74 rfl Tryz.ntmps74 rfl ?_
 refine cw_seq (cw_region ?_)
 refine sQ 4 (Y_assign (v := .bool false) rfl rfl) (rw_nil (cw_seq (cw_region ?_)))
 refine sQ 5 (Y_move (v := .slice B s.length c) rfl rfl) ?_
 refine sQ 6 (Y_move (v := .func (.func kf) #[] caps) rfl rfl) ?_
 obtain ⟨r_1, hc, hF⟩ := bind_inv hF
 refine sc 7 rfl rfl (Yc_func (g := 116) (vs := [.slice B s.length c, .func (.func kf) #[] caps]) k_call_116 rfl (mc rfl (mc rfl mn)) (c_slices_IndexFunc_impl_Gate_impl_Gate s f_ B c s.length kf caps Rf _ rfl hk hp (hS.innS (subc (mem_at (i := 0) rfl) (fun _ h => mOd (i := 1) h))) hc)) ?_
 rintro _ w_ ⟨rfl, hd⟩
 have hS1 := hS.out00 hd
 refine sQ 8 (Y_ge (k := .i64) (a := r_1) (b := 0) rfl rfl rfl) ?_
 refine sQ 4 (Y_assign (v := .bool (decide (0 ≤ r_1))) rfl rfl) (rw_nil (cw_ret ?_))
 obtain rfl := some_inj hF
 exact ret1 Tryz.results74 (v1 := .bool (decide (0 ≤ r_1))) (resAt_tmp rfl) ⟨rfl, (hS1.sN [])⟩

theorem c_impl_IsValidCircuit_1 (g : TGate) (p : TCircuit) (B : Option Addr) (B1 : Option Addr) (c n : Nat) (w0 : World) (hn : p.Gates.length = n) (hS : ST w0 [] w0 [] [⟨B, [vi p.Qubits, .slice B1 n c]⟩, ⟨B1, (p.Gates.flatMap enc_Gate)⟩]) {r_ : Bool} (hF : F_impl_IsValidCircuit_1 g p = some r_) :
  CV Tryz.prog 75 #[.agg #[vi g.Kind, vi g.A, vi g.B], pt B 0] w0 (fun v w' => v = .bool r_ ∧ ST w0 [] w' [] []) := by
 subst hn
 unfold F_impl_IsValidCircuit_1 at hF
 refine cv_of_cw 9 Tryz.func75 rfl Tryz.ntmps75 rfl ?_
 refine cw_seq (cw_region ?_)
 refine sS 2 (Ys_box (T := 67) (v := .agg #[vi g.Kind, vi g.A, vi g.B]) (cs := [vi g.Kind, vi g.A, vi g.B]) (m := 3) hS rfl rfl rfl rfl) ?_
 rintro _ w_ ⟨b, rfl, hS1⟩
 refine sQ 3 (Y_assign (v := .bool false) rfl rfl) (rw_nil (cw_seq (cw_region ?_)))
 refine sQ 4 (Y_fieldAddr (B := B) (i := 0) (s := 0) k_fd_26_0_0_3 k_sz_3_1 rfl rfl) ?_
 refine sQ 5 (Y_load1 (B := B) (i := 0) (cs := [vi p.Qubits, .slice B1 p.Gates.length c]) (v := vi p.Qubits) k_sc_3 rfl rfl (hS1.rf (i := 0) rfl) rfl) ?_
 refine sQ 6 (Y_loadA (B := aD b) (i := 0) (cs := [vi g.Kind, vi g.A, vi g.B]) (vs := [vi g.Kind, vi g.A, vi g.B]) k_ag_67 k_sz_67_3 rfl rfl (hS1.cf (i := 0) rfl) rfl rfl) ?_
 obtain ⟨r_1, hc, hF⟩ := bind_inv hF
 refine sc 7 rfl rfl (Yc_func (g := 72) (vs := [vi p.Qubits, .agg #[vi g.Kind, vi g.A, vi g.B]]) k_call_72 rfl (mc rfl (mc rfl mn)) (c_impl_IsValidGate p.Qubits g _  (hS1.inn0 [] rfl) hc)) ?_
 rintro _ w_1 ⟨rfl, hd⟩
 have hS2 := hS1.out00 hd
 refine sQ 8 (Y_not (p := r_1) rfl rfl) ?_
 refine sQ 3 (Y_assign (v := .bool (!r_1)) rfl rfl) (rw_nil (cw_ret ?_))
 obtain rfl := some_inj hF
 exact ret1 Tryz.results75 (v1 := .bool (!r_1)) (resAt_tmp rfl) ⟨rfl, (hS2.sN [])⟩

theorem c_impl_IsValidCircuit (c : TCircuit) (B : Option Addr) (c1 n : Nat) (w0 : World) (hn : c.Gates.length = n) (hS : ST w0 [] w0 [] [⟨B, (c.Gates.flatMap enc_Gate)⟩]) {r_ : Bool} (hF : F_impl_IsValidCircuit c = some r_) :
  CV Tryz.prog 31 #[.agg #[vi c.Qubits, .slice B n c1]] w0 (fun v w' => v = .bool r_ ∧ ST w0 [] w' [] []) := by
 subst hn
 unfold F_impl_IsValidCircuit at hF
 refine cv_of_cw 19 Tryz.func31 rfl Tryz.ntmps31 rfl ?_
 refine cw_seq (cw_region ?_)
 refine sS 1 (Ys_box (T := 26) (v := .agg #[vi c.Qubits, .slice B c.Gates.length c1]) (cs := [vi c.Qubits, .slice B c.Gates.length c1]) (m := 2) hS rfl rfl rfl rfl) ?_
 rintro _ w_ ⟨b, rfl, hS1⟩
 refine sQ 2 (Y_assign (v := .bool false) rfl rfl) (rw_nil (cw_seq (cw_region ?_)))
 refine sQ 3 (Y_fieldAddr (B := aD b) (i := 0) (s := 0) k_fd_26_0_0_3 k_sz_3_1 rfl rfl) ?_
 refine sQ 4 (Y_load1 (B := aD b) (i := 0) (cs := [vi c.Qubits, .slice B c.Gates.length c1]) (v := vi c.Qubits) k_sc_3 rfl rfl (hS1.cf (i := 0) rfl) rfl) ?_
 obtain ⟨r_1, hc, hF⟩ := bind_inv hF
 refine sc 5 rfl rfl (Yc_func (g := 65) (vs := [vi c.Qubits, vi 1, vi 5]) k_call_65 rfl (mc rfl (mc rfl (mc rfl mn))) (c_impl_within c.Qubits 1 5 _  (hS1.inn0 [] rfl) hc)) ?_
 rintro _ w_1 ⟨rfl, hd⟩
 have hS2 := hS1.out00 hd
 refine sQ 6 (Y_move (v := .bool r_1) rfl rfl) ?_
 refine sgq 7 (B := r_1) (v := pt (aD b) 1) rfl rfl (uT_ 6) (fun hg => (Y_fieldAddr (B := aD b) (i := 0) (s := 0) k_fd_26_1_1_24 k_sz_24_1 rfl rfl)) ?_
 refine sgq 8 (B := r_1) (v := .slice B c.Gates.length c1) rfl rfl (uT_ 6) (fun hg1 => (Y_load1 (B := aD b) (i := 1) (cs := [vi c.Qubits, .slice B c.Gates.length c1]) (v := .slice B c.Gates.length c1) k_sc_24 rfl (gv_of (v := pt (aD b) 1) hg1) (hS2.cf (i := 0) rfl) rfl)) ?_
 refine sgq 9 (B := r_1) (v := vi (c.Gates.length : Int)) rfl rfl (uT_ 6) (fun hg2 => (Y_len (B := B) (m := c.Gates.length) (c := c1) k_sl_24_67 rfl (gv_of (v := .slice B c.Gates.length c1) hg2))) ?_
 refine sgq 10 (B := r_1) (v := .bool (decide ((c.Gates.length : Int) ≤ 400))) rfl rfl (uT_ 6) (fun hg3 => (Y_le (k := .i64) (a := (c.Gates.length : Int)) (b := 400) rfl (gv_of (v := vi (c.Gates.length : Int)) hg3) rfl)) ?_
 refine sQ 11 (Y_and (b := r_1) (z := (decide ((c.Gates.length : Int) ≤ 400))) rfl rfl rfl rfl) ?_
 refine sQ 12 (Y_move (v := .bool (r_1 && (decide ((c.Gates.length : Int) ≤ 400)))) rfl rfl) ?_
 refine sgq 13 (B := (r_1 && (decide ((c.Gates.length : Int) ≤ 400)))) (v := pt (aD b) 1) rfl rfl (uT_ 12) (fun hg4 => (Y_fieldAddr (B := aD b) (i := 0) (s := 0) k_fd_26_1_1_24 k_sz_24_1 rfl rfl)) ?_
 refine sgq 14 (B := (r_1 && (decide ((c.Gates.length : Int) ≤ 400)))) (v := .slice B c.Gates.length c1) rfl rfl (uT_ 12) (fun hg5 => (Y_load1 (B := aD b) (i := 1) (cs := [vi c.Qubits, .slice B c.Gates.length c1]) (v := .slice B c.Gates.length c1) k_sc_24 rfl (gv_of (v := pt (aD b) 1) hg5) (hS2.cf (i := 0) rfl) rfl)) ?_
 refine sgq 15 (B := (r_1 && (decide ((c.Gates.length : Int) ≤ 400)))) (v := .func (.func 75) #[] #[pt (aD b) 0]) rfl rfl (uT_ 12) (fun hg6 => (Y_makeFunc (cs := [pt (aD b) 0]) rfl rfl (mc rfl mn))) ?_
 obtain ⟨r_2, hc1, hF⟩ := bind_inv hF
 refine sgc 16 (B := (r_1 && (decide ((c.Gates.length : Int) ≤ 400)))) (v := .bool r_2) (F := hS2.fn) rfl rfl (uT_ 12) hS2 (fun hg7 => (Yc_func (g := 74) (vs := [.slice B c.Gates.length c1, .func (.func 75) #[] #[pt (aD b) 0]]) k_call_74 rfl (mc (gv_of (v := .slice B c.Gates.length c1) hg7) (mc (gv_of (v := .func (.func 75) #[] #[pt (aD b) 0]) hg7) mn)) (CV.mono (c_slices_ContainsFunc_impl_Gate_impl_Gate c.Gates (fun x_0 => F_impl_IsValidCircuit_1 x_0 c) B c1 c.Gates.length 75 (#[pt (aD b) 0]) [⟨aD b, [vi c.Qubits, .slice B c.Gates.length c1]⟩, ⟨B, (c.Gates.flatMap enc_Gate)⟩] _ rfl k_call_75 (fun w hw x_0 y_0 h_ => c_impl_IsValidCircuit_1 x_0 c (aD b) B c1 c.Gates.length w rfl hw h_) (hS2.inn0 [(true, 0), (false, 0), (true, 0)] rfl) (gb_inv hc1 hg7)) (by rintro _ _ ⟨rfl, h⟩; exact ⟨rfl, hS2.out00 h⟩)))) ?_
 rintro w_2 hS3
 refine sgq 17 (B := (r_1 && (decide ((c.Gates.length : Int) ≤ 400)))) (v := .bool (!r_2)) rfl rfl (uT_ 12) (fun hg8 => (Y_not (p := r_2) rfl (gv_of (v := .bool r_2) hg8))) ?_
 refine sQ 18 (Y_and (b := (r_1 && (decide ((c.Gates.length : Int) ≤ 400)))) (z := (!r_2)) rfl rfl rfl rfl) ?_
 refine sQ 2 (Y_assign (v := .bool ((r_1 && (decide ((c.Gates.length : Int) ≤ 400))) && (!r_2))) rfl rfl) (rw_nil (cw_ret ?_))
 obtain rfl := some_inj hF
 exact ret1 Tryz.results31 (v1 := .bool ((r_1 && (decide ((c.Gates.length : Int) ≤ 400))) && (!r_2))) (resAt_tmp rfl) ⟨rfl, (hS3.sN [])⟩

theorem c_impl_isDim (n : Int)  (w0 : World)  (hS : ST w0 [] w0 [] []) {r_ : Bool} (hF : F_impl_isDim n = some r_) :
  CV Tryz.prog 117 #[vi n] w0 (fun v w' => v = .bool r_ ∧ ST w0 [] w' [] []) := by
 unfold F_impl_isDim at hF
 refine cv_of_cw 12 Tryz.func117 rfl Tryz.ntmps117 rfl ?_
 refine cw_seq (cw_region ?_)
 refine sQ 2 (Y_assign (v := .bool false) rfl rfl) (rw_nil (cw_seq (cw_region ?_)))
 refine sQ 3 (Y_move (v := vi n) rfl rfl) ?_
 obtain ⟨r_1, hc, hF⟩ := bind_inv hF
 refine sc 4 rfl rfl (Yc_func (g := 65) (vs := [vi n, vi 1, vi 32]) k_call_65 rfl (mc rfl (mc rfl (mc rfl mn))) (c_impl_within n 1 32 _  (hS.inn0 [] rfl) hc)) ?_
 rintro _ w_ ⟨rfl, hd⟩
 have hS1 := hS.out00 hd
 refine sQ 5 (Y_move (v := .bool r_1) rfl rfl) ?_
 refine sgq 6 (B := r_1) (v := vi n) rfl rfl (uT_ 5) (fun hg => (Y_move (v := vi n) rfl rfl)) ?_
 refine sgq 7 (B := r_1) (v := vi n) rfl rfl (uT_ 5) (fun hg1 => (Y_move (v := vi n) rfl rfl)) ?_
 refine sgq 8 (B := r_1) (v := vi (i64.wrap (n - 1))) rfl rfl (uT_ 5) (fun hg2 => (Y_sub (k := .i64) (a := n) (b := 1) rfl (gv_of (v := vi n) hg2) rfl)) ?_
 refine sgq 9 (B := r_1) (v := vi (bits .and .i64 n (i64.wrap (n - 1)))) rfl rfl (uT_ 5) (fun hg3 => (Y_band (k := .i64) (a := n) (b := (i64.wrap (n - 1))) rfl (gv_of (v := vi n) hg3) (gv_of (v := vi (i64.wrap (n - 1))) hg3))) ?_
 refine sgq 10 (B := r_1) (v := .bool ((bits .and .i64 n (i64.wrap (n - 1))) == 0)) rfl rfl (uT_ 5) (fun hg4 => (Y_eq (k := .i64) (a := (bits .and .i64 n (i64.wrap (n - 1)))) (b := 0) rfl (gv_of (v := vi (bits .and .i64 n (i64.wrap (n - 1)))) hg4) rfl)) ?_
 refine sQ 11 (Y_and (b := r_1) (z := ((bits .and .i64 n (i64.wrap (n - 1))) == 0)) rfl rfl rfl rfl) ?_
 refine sQ 2 (Y_assign (v := .bool (r_1 && ((bits .and .i64 n (i64.wrap (n - 1))) == 0))) rfl rfl) (rw_nil (cw_ret ?_))
 obtain rfl := some_inj hF
 exact ret1 Tryz.results117 (v1 := .bool (r_1 && ((bits .and .i64 n (i64.wrap (n - 1))) == 0))) (resAt_tmp rfl) ⟨rfl, (hS1.sN [])⟩

theorem c_impl_matrixOf (rows : Int) (cols : Int) (cell : Int → Int → Option (TDyadic × Bool)) (kf : Nat) (caps : Array Value) (Rf : List Ro) (w0 : World) (hk : callB Tryz.prog kf = true) (hp : ∀ (w : World), ST w [] w [] Rf → ∀ (x : Int) (x1 : Int) (y1 : TDyadic) (y2 : Bool), cell x x1 = some (y1, y2) → CV Tryz.prog kf ((vi x) :: (vi x1) :: caps.toList).toArray w (fun v w' => v = .tuple #[gD_ y1, .bool y2] ∧ ST w [] w' [] [])) (hS : ST w0 [] w0 [] (Rf)) {r_ : TMatrix} {r_1 : Bool} (hF : F_impl_matrixOf rows cols cell = some (r_, r_1)) :
  CV Tryz.prog 76 #[vi rows, vi cols, .func (.func kf) #[] caps] w0 (fun v w' => ∃ (B : Option Addr) (c : Nat), v = .tuple #[gM_ r_ B c, .bool r_1] ∧ ST w0 [] w' [⟨B, 63, (r_.Cells.flatMap eN0), c * 5⟩] []) := by
 unfold F_impl_matrixOf at hF
 refine cv_of_cw 52 Tryz.func76 rfl Tryz.ntmps76 rfl ?_
 refine cw_seq (cw_region ?_)
 refine sS 6 (Ys_alloc (T := 30) (cs := kN_) (m := 3) hS k_zero_30 rfl rfl rfl) ?_
 rintro _ w_ ⟨b, rfl, hS1⟩
 refine sQ 7 (Y_assign (v := .bool false) rfl rfl) (rw_nil (cw_seq (cw_region ?_)))
 refine sQ 13 (Y_move (v := vi rows) rfl rfl) ?_
 refine sQ 14 (Y_move (v := vi cols) rfl rfl) ?_
 refine sQ 15 (Y_buildS (zs := kN_) (vs := [(0, vi rows), (1, vi cols)]) (cs := [vi rows, vi cols, .slice none 0 0]) k_pl_30 k_zero_30 rfl (mpc rfl (mpc rfl mpn)) rfl) ?_
 refine sS 8 (Ys_alloc (T := 30) (cs := kN_) (m := 3) hS1 k_zero_30 rfl rfl rfl) ?_
 rintro _ w_1 ⟨b1, rfl, hS2⟩
 refine s0 (Ys_store (i := 1) (s := 3) (B := aD b1) (T' := 30) (v := .agg #[vi rows, vi cols, .slice none 0 0]) (vs := [vi rows, vi cols, .slice none 0 0]) (k := 0) (cs' := [vi rows, vi cols, .slice none 0 0]) hS2 k_sz_30_3 rfl rfl rfl rfl rfl rfl rfl (lB rfl) rfl rfl) ?_
 rintro _ w_2 ⟨rfl, hS3⟩
 refine rw_nil (cw_seq (cw_seq (cw_region ?_)))
 refine sQ 16 (Y_move (v := vi rows) rfl rfl) ?_
 obtain ⟨r_2, hc, hF⟩ := bind_inv hF
 refine sc 17 rfl rfl (Yc_func (g := 117) (vs := [vi rows]) k_call_117 rfl (mc rfl mn) (c_impl_isDim rows _  (hS3.inn0 [] rfl) hc)) ?_
 rintro _ w_3 ⟨rfl, hd⟩
 have hS4 := hS3.out00 hd
 refine sQ 18 (Y_not (p := r_2) rfl rfl) ?_
 refine sQ 19 (Y_move (v := .bool (!r_2)) rfl rfl) ?_
 refine sgq 20 (B := (!(!r_2))) (v := vi cols) rfl rfl (uF_ 19) (fun hg => (Y_move (v := vi cols) rfl rfl)) ?_
 obtain ⟨r_3, hc1, hF⟩ := bind_inv hF
 refine sgc 21 (B := (!(!r_2))) (v := .bool r_3) (F := hS4.fn) rfl rfl (uF_ 19) hS4 (fun hg1 => (Yc_func (g := 117) (vs := [vi cols]) k_call_117 rfl (mc (gv_of (v := vi cols) hg1) mn) (CV.mono (c_impl_isDim cols _  (hS4.inn0 [] rfl) (gb_inv hc1 hg1)) (by rintro _ _ ⟨rfl, h⟩; exact ⟨rfl, hS4.out00 h⟩)))) ?_
 rintro w_4 hS5
 refine sgq 22 (B := (!(!r_2))) (v := .bool (!r_3)) rfl rfl (uF_ 19) (fun hg2 => (Y_not (p := r_3) rfl (gv_of (v := .bool r_3) hg2))) ?_
 refine sQ 23 (Y_or (b := (!r_2)) (z := (!r_3)) rfl rfl rfl rfl) (rw_nil ?_)
 refine cw_cond (b := ((!r_2) || (!r_3))) rfl (fun hb => ?_) (fun hb => ?_)
 ·skip
  have hF1 := ct hF hb
  refine cw_seq (cw_region ?_)
  refine sQ 24 (Y_buildS (zs := kN_) (vs := []) (cs := kN_) k_pl_30 k_zero_30 rfl mpn rfl) ?_
  refine s0 (Ys_store (i := 0) (s := 3) (B := aD b) (T' := 30) (v := gN_) (vs := kN_) (k := 0) (cs' := kN_) hS5 k_sz_30_3 rfl rfl rfl rfl rfl rfl rfl (lB rfl) rfl rfl) ?_
  rintro _ w_5 ⟨rfl, hS6⟩
  refine sQ 7 (Y_assign (v := .bool false) rfl rfl) (rw_nil (cw_ret ?_))
  have hS7 := hS6.addNil 63
  obtain ⟨rfl, rfl⟩ := pr2 (some_inj hF1)
  exact ret2 Tryz.results76 (v1 := gN_) (resAt_cellA (B := aD b) (i := 0) (cs := kN_) (vs := kN_) rfl k_ag_30 k_sz_30_3 (hS7.cf (i := 0) rfl) rfl rfl) (v2 := .bool false) (resAt_tmp rfl) ⟨none, 0, rfl, (hS7.sN [2])⟩
 ·skip
  have hF2 := cf' hF hb
  refine cw_skip (cw_seq (cw_seq (cw_region ?_)))
  refine sQ 25 (Y_move (v := vi rows) rfl rfl) ?_
  refine sQ 26 (Y_move (v := vi 0) rfl rfl) (rw_nil ?_)
  obtain ⟨hN, hF2⟩ := chk_inv hF2
  obtain ⟨z, hz, hF3⟩ := bind_inv hF2
  have hS9 := hS5.addNil 63
  refine cw_block ?_
  refine cw_loop (fun k f w => ∃ (i : Nat) (Cells : List TDyadic) (B1 : Option Addr) (c1 : Nat), FF f [(1, vi cols), (2, .func (.func kf) #[] caps), (6, pt (aD b) 0), (8, pt (aD b1) 0), (25, vi rows), (26, vi (i : Int))] ∧ ST w0 [] w [⟨aD b, 30, kN_, 3⟩, ⟨aD b1, 30, [vi rows, vi cols, .slice B1 Cells.length c1], 3⟩, ⟨B1, 63, (Cells.flatMap eN0), c1 * 5⟩] (Rf) ∧ i + k = rows.toNat ∧ forX (F_impl_matrixOf_l1 cols cell) k i Cells = some z) rows.toNat ⟨0, [], none, 0, (FF.cons rfl (FF.cons rfl (FF.cons rfl (FF.cons rfl (FF.cons rfl (FF.cons rfl FF.nil)))))), (hS9.sel [0, 1, 2] rfl rfl), Nat.zero_add _, hz⟩ ?_
  rintro k_ f w ⟨i, Cells, B1, c1, hf, hS8, hik, hL⟩
  refine cw_seq (cw_region ?_)
  refine sQ 27 (Y_lt (k := .i64) (a := (i : Int)) (b := rows) rfl (hf.get 26 5 rfl) (hf.get 25 4 rfl)) (rw_nil (cw_seq ?_))
  refine cw_cond (b := (decide ((i : Int) < rows))) rfl (fun hlt => ?_) (fun hlt => ?_)
  ·skip
   have hlt1 : i < rows.toNat := by have h := of_decide_eq_true hlt; omega
   obtain ⟨k_1, rfl⟩ : ∃ k2, k_ = k2 + 1 := ⟨k_ - 1, by omega⟩
   obtain ⟨y3, hb1, hL1⟩ := forX_go hL
   unfold F_impl_matrixOf_l1 at hb1
   refine cw_skip (cw_seq (cw_block (cw_seq (cw_region ?_))))
   refine sQ 28 (Y_move (v := vi (i : Int)) rfl (hf.get 26 5 rfl)) ?_
   refine sQ 9 (Y_assign (v := vi (i : Int)) rfl rfl) (rw_nil (cw_seq (cw_region ?_)))
   refine sQ 29 (Y_move (v := vi cols) rfl (hf.get 1 0 rfl)) ?_
   refine sQ 30 (Y_move (v := vi 0) rfl rfl) (rw_nil ?_)
   obtain ⟨hN1, hb1⟩ := chk_inv hb1
   obtain ⟨z1, hz1, hF4⟩ := bind_inv hb1
   refine cw_block ?_
   refine cw_loop (fun k f w => ∃ (i1 : Nat) (Cells1 : List TDyadic) (B2 : Option Addr) (c2 : Nat), FF f [(1, vi cols), (2, .func (.func kf) #[] caps), (6, pt (aD b) 0), (8, pt (aD b1) 0), (9, vi (i : Int)), (25, vi rows), (26, vi (i : Int)), (29, vi cols), (30, vi (i1 : Int))] ∧ ST w0 [] w [⟨aD b, 30, kN_, 3⟩, ⟨aD b1, 30, [vi rows, vi cols, .slice B2 Cells1.length c2], 3⟩, ⟨B2, 63, (Cells1.flatMap eN0), c2 * 5⟩] (Rf) ∧ i1 + k = cols.toNat ∧ forX (F_impl_matrixOf_l2 cell i) k i1 Cells1 = some z1) cols.toNat ⟨0, Cells, B1, c1, (FF.cons (hf.get 1 0 rfl) (FF.cons (hf.get 2 1 rfl) (FF.cons (hf.get 6 2 rfl) (FF.cons (hf.get 8 3 rfl) (FF.cons rfl (FF.cons (hf.get 25 4 rfl) (FF.cons (hf.get 26 5 rfl) (FF.cons rfl (FF.cons rfl FF.nil))))))))), (hS8.sel [0, 1, 2] rfl rfl), Nat.zero_add _, hz1⟩ ?_
   rintro k_2 f w ⟨i1, Cells1, B2, c2, hf1, hS10, hik1, hL2⟩
   refine cw_seq (cw_region ?_)
   refine sQ 31 (Y_lt (k := .i64) (a := (i1 : Int)) (b := cols) rfl (hf1.get 30 8 rfl) (hf1.get 29 7 rfl)) (rw_nil (cw_seq ?_))
   refine cw_cond (b := (decide ((i1 : Int) < cols))) rfl (fun hlt2 => ?_) (fun hlt2 => ?_)
   ·skip
    have hlt3 : i1 < cols.toNat := by have h := of_decide_eq_true hlt2; omega
    obtain ⟨k_3, rfl⟩ : ∃ k2, k_2 = k2 + 1 := ⟨k_2 - 1, by omega⟩
    obtain ⟨y4, hb2, hL3⟩ := forX_go hL2
    unfold F_impl_matrixOf_l2 at hb2
    refine cw_skip (cw_seq (cw_block (cw_seq (cw_region ?_))))
    refine sQ 32 (Y_move (v := vi (i1 : Int)) rfl (hf1.get 30 8 rfl)) ?_
    refine sQ 10 (Y_assign (v := vi (i1 : Int)) rfl rfl) (rw_nil (cw_seq (cw_region ?_)))
    refine sQ 34 (Y_move (v := .func (.func kf) #[] caps) rfl (hf1.get 2 1 rfl)) ?_
    refine sQ 35 (Y_move (v := vi (i : Int)) rfl (hf1.get 9 4 rfl)) ?_
    refine sQ 36 (Y_move (v := vi (i1 : Int)) rfl rfl) ?_
    obtain ⟨⟨r_4, r_5⟩, hc2, hb2⟩ := bind_inv hb2
    refine sc 37 rfl rfl (Yc_clos (g := kf) (vs := (vi (i : Int)) :: (vi (i1 : Int)) :: caps.toList) hk rfl rfl (clo_args (mc rfl (mc rfl mn))) (hp _ (hS10.innS (fun _ h => mOd (i := 0) h)) (i : Int) (i1 : Int) r_4 r_5 hc2)) ?_
    rintro _ w_6 ⟨rfl, hd1⟩
    have hS11 := hS10.out00 hd1
    refine sQ 33 (Y_move (v := .tuple #[gD_ r_4, .bool r_5]) rfl rfl) ?_
    refine sQ 38 (Y_extract (v := gD_ r_4) rfl rfl rfl) ?_
    refine sQ 39 (Y_extract (v := .bool r_5) rfl rfl rfl) ?_
    refine sS 11 (Ys_alloc (T := 63) (cs := kZ_) (m := 5) hS11 k_zero_63 rfl rfl rfl) ?_
    rintro _ w_7 ⟨b2, rfl, hS12⟩
    refine s0 (Ys_store (i := 3) (s := 5) (B := aD b2) (T' := 63) (v := gD_ r_4) (vs := kD_ r_4) (k := 0) (cs' := kD_ r_4) hS12 k_sz_63_5 rfl rfl rfl rfl rfl rfl rfl (lB rfl) rfl rfl) ?_
    rintro _ w_8 ⟨rfl, hS13⟩
    refine sQ 12 (Y_assign (v := .bool r_5) rfl rfl) (rw_nil (cw_seq (cw_seq (cw_region ?_))))
    refine sQ 40 (Y_move (v := .bool r_5) rfl rfl) ?_
    refine sQ 41 (Y_not (p := r_5) rfl rfl) (rw_nil ?_)
    refine cw_cond (b := (!r_5)) rfl (fun hb3 => ?_) (fun hb3 => ?_)
    ·skip
     have hF5 := ct hb2 hb3
     refine cw_seq (cw_region ?_)
     refine sQ 42 (Y_buildS (zs := kN_) (vs := []) (cs := kN_) k_pl_30 k_zero_30 rfl mpn rfl) ?_
     refine s0 (Ys_store (i := 0) (s := 3) (B := aD b) (T' := 30) (v := gN_) (vs := kN_) (k := 0) (cs' := kN_) hS13 k_sz_30_3 rfl (hf1.get 6 2 rfl) rfl rfl rfl rfl rfl (lB rfl) rfl rfl) ?_
     rintro _ w_9 ⟨rfl, hS14⟩
     refine sQ 7 (Y_assign (v := .bool false) rfl rfl) (rw_nil (cw_ret ?_))
     have hS15 := hS14.addNil 63
     obtain rfl := some_inj hF5
     obtain rfl := some_inj hL3
     obtain rfl := some_inj hF4
     obtain rfl := some_inj hL1
     obtain ⟨rfl, rfl⟩ := pr2 (some_inj hF3)
     exact ret2 Tryz.results76 (v1 := gN_) (resAt_cellA (B := aD b) (i := 0) (cs := kN_) (vs := kN_) (hf1.get 6 2 rfl) k_ag_30 k_sz_30_3 (hS15.cf (i := 0) rfl) rfl rfl) (v2 := .bool false) (resAt_tmp rfl) ⟨none, 0, rfl, (hS15.sN [4])⟩
    ·skip
     have hF6 := cf' hb2 hb3
     refine cw_skip (cw_region ?_)
     refine sQ 43 (Y_fieldAddr (B := aD b1) (i := 0) (s := 0) k_fd_30_2_2_28 k_sz_28_1 rfl (hf1.get 8 3 rfl)) ?_
     refine sQ 44 (Y_load1 (B := aD b1) (i := 2) (cs := [vi rows, vi cols, .slice B2 Cells1.length c2]) (v := .slice B2 Cells1.length c2) k_sc_28 rfl rfl (hS13.cf (i := 1) rfl) rfl) ?_
     refine sQ 45 (Y_loadA (B := aD b2) (i := 0) (cs := kD_ r_4) (vs := kD_ r_4) k_ag_63 k_sz_63_5 rfl rfl (hS13.cf (i := 3) rfl) rfl rfl) ?_
     refine sS 46 (Ys_bslice (s := 5) (len := 1) (vs := [(0, gD_ r_4)]) (cs := kD_ r_4) (zs := kZ_) (m := 5) hS13 k_sl_28_63 k_sz_63_5 k_zc_63 rfl (mpc rfl mpn) rfl rfl rfl (by kernel_rfl) (by kernel_rfl) rfl) ?_
     rintro _ w_10 ⟨b3, rfl, hS16⟩
     obtain ⟨hap, hF6⟩ := chk_inv hF6
     refine sS 47 (Ys_append (s := 5) (by' := 40) (i := 2) (nn := Cells1.length) (c := c2) (k := 1) (len := (Cells1 ++ [r_4]).length) (B := B2) (xs := ([r_4].flatMap eN0)) (cs' := ((Cells1 ++ [r_4]).flatMap eN0)) hS16 k_sl_28_63 k_sz_63_5 k_by_63_40 k_zero_63 rfl (by decide) rfl rfl rfl rfl (fm_lenn (l := Cells1) enc_Dyadic_len rfl) rfl (hS16.cf (i := 4) rfl) (fm_lenn (l := [r_4]) enc_Dyadic_len rfl) (fm_one' (enc := eN0) enc_Dyadic_one [r_4]) (by have := hap; omega) (by have := hap; simp only [maxLen]; omega) (fm_app _ _) (app_len (l := Cells1) (l' := [r_4]) rfl rfl)) ?_
     rintro _ w_11 ⟨B3, c3, rfl, hS17⟩
     refine sQ 48 (Y_fieldAddr (B := aD b1) (i := 0) (s := 0) k_fd_30_2_2_28 k_sz_28_1 rfl (hf1.get 8 3 rfl)) ?_
     refine s0 (Ys_store (i := 1) (s := 1) (B := aD b1) (T' := 30) (v := .slice B3 ((Cells1 ++ [r_4]).length) c3) (vs := [.slice B3 ((Cells1 ++ [r_4]).length) c3]) (k := 2) (cs' := [vi rows, vi cols, .slice B3 ((Cells1 ++ [r_4]).length) c3]) hS17 k_sz_28_1 rfl rfl rfl rfl rfl rfl rfl (lB rfl) rfl rfl) ?_
     rintro _ w_12 ⟨rfl, hS18⟩
     refine rw_nil (cw_region ?_)
     refine sQ 49 (Y_add (k := .i64) (a := (i1 : Int)) (b := 1) rfl (hf1.get 30 8 rfl) rfl) ?_
     refine sQ 30 (Y_move (v := vi (i64.wrap ((i1 : Int) + 1))) rfl rfl) (rw_nil ?_)
     obtain rfl := some_inj hF6
     exact ⟨k_3, Nat.lt_succ_self _, i1 + 1, (Cells1 ++ [r_4]), B3, c3, (FF.cons (hf1.get 1 0 rfl) (FF.cons (hf1.get 2 1 rfl) (FF.cons (hf1.get 6 2 rfl) (FF.cons (hf1.get 8 3 rfl) (FF.cons (hf1.get 9 4 rfl) (FF.cons (hf1.get 25 5 rfl) (FF.cons (hf1.get 26 6 rfl) (FF.cons (hf1.get 29 7 rfl) (FF.cons (congrArg (Value.int .i64) (wr_succ hlt3 hN1)) FF.nil))))))))), (hS18.sel [0, 1, 2] rfl rfl), (by omega), hL3⟩
   ·skip
    obtain rfl : k_2 = 0 := by have h := of_decide_eq_false hlt2; omega
    refine cw_exit rfl ?_
    obtain rfl := some_inj hL2
    refine cw_region ?_
    refine sQ 50 (Y_add (k := .i64) (a := (i : Int)) (b := 1) rfl (hf1.get 26 6 rfl) rfl) ?_
    refine sQ 26 (Y_move (v := vi (i64.wrap ((i : Int) + 1))) rfl rfl) (rw_nil ?_)
    obtain rfl := some_inj hF4
    exact ⟨k_1, Nat.lt_succ_self _, i + 1, Cells1, B2, c2, (FF.cons (hf1.get 1 0 rfl) (FF.cons (hf1.get 2 1 rfl) (FF.cons (hf1.get 6 2 rfl) (FF.cons (hf1.get 8 3 rfl) (FF.cons (hf1.get 25 5 rfl) (FF.cons (congrArg (Value.int .i64) (wr_succ hlt1 hN)) FF.nil)))))), (hS10.sel [0, 1, 2] rfl rfl), (by omega), hL1⟩
  ·skip
   obtain rfl : k_ = 0 := by have h := of_decide_eq_false hlt; omega
   refine cw_exit rfl ?_
   obtain rfl := some_inj hL
   refine cw_seq (cw_region ?_)
   refine sQ 51 (Y_loadA (B := aD b1) (i := 0) (cs := [vi rows, vi cols, .slice B1 Cells.length c1]) (vs := [vi rows, vi cols, .slice B1 Cells.length c1]) k_ag_30 k_sz_30_3 rfl (hf.get 8 3 rfl) (hS8.cf (i := 1) rfl) rfl rfl) ?_
   refine s0 (Ys_store (i := 0) (s := 3) (B := aD b) (T' := 30) (v := .agg #[vi rows, vi cols, .slice B1 Cells.length c1]) (vs := [vi rows, vi cols, .slice B1 Cells.length c1]) (k := 0) (cs' := [vi rows, vi cols, .slice B1 Cells.length c1]) hS8 k_sz_30_3 rfl (hf.get 6 2 rfl) rfl rfl rfl rfl rfl (lB rfl) rfl rfl) ?_
   rintro _ w_13 ⟨rfl, hS19⟩
   refine sQ 7 (Y_assign (v := .bool true) rfl rfl) (rw_nil (cw_ret ?_))
   obtain ⟨rfl, rfl⟩ := pr2 (some_inj hF3)
   exact ret2 Tryz.results76 (v1 := .agg #[vi rows, vi cols, .slice B1 Cells.length c1]) (resAt_cellA (B := aD b) (i := 0) (cs := [vi rows, vi cols, .slice B1 Cells.length c1]) (vs := [vi rows, vi cols, .slice B1 Cells.length c1]) (hf.get 6 2 rfl) k_ag_30 k_sz_30_3 (hS19.cf (i := 0) rfl) rfl rfl) (v2 := .bool true) (resAt_tmp rfl) ⟨B1, c1, rfl, (hS19.sN [2])⟩

theorem c_impl_whole (n : Int)  (w0 : World)  (hS : ST w0 [] w0 [] []) {r_ : TDyadic} (hF : F_impl_whole n = some r_) :
  CV Tryz.prog 78 #[vi n] w0 (fun v w' => v = (gD_ r_) ∧ ST w0 [] w' [] []) := by
 unfold F_impl_whole at hF
 refine cv_of_cw 6 Tryz.func78 rfl Tryz.ntmps78 rfl ?_
 refine cw_seq (cw_region ?_)
 refine sS 2 (Ys_alloc (T := 63) (cs := kZ_) (m := 5) hS k_zero_63 rfl rfl rfl) ?_
 rintro _ w_ ⟨b, rfl, hS1⟩
 refine rw_nil (cw_seq (cw_region ?_))
 refine sQ 3 (Y_move (v := vi n) rfl rfl) ?_
 refine sQ 4 (Y_buildS (zs := [vi 0, vi 0, vi 0, vi 0]) (vs := [(0, vi n)]) (cs := [vi n, vi 0, vi 0, vi 0]) k_pl_61 k_zero_61 rfl (mpc rfl mpn) rfl) ?_
 refine sQ 5 (Y_buildS (zs := kZ_) (vs := [(0, .agg #[vi n, vi 0, vi 0, vi 0])]) (cs := [vi n, vi 0, vi 0, vi 0, vi 0]) k_pl_63 k_zero_63 rfl (mpc rfl mpn) rfl) ?_
 refine s0 (Ys_store (i := 0) (s := 5) (B := aD b) (T' := 63) (v := .agg #[vi n, vi 0, vi 0, vi 0, vi 0]) (vs := [vi n, vi 0, vi 0, vi 0, vi 0]) (k := 0) (cs' := [vi n, vi 0, vi 0, vi 0, vi 0]) hS1 k_sz_63_5 rfl rfl rfl rfl rfl rfl rfl (lB rfl) rfl rfl) ?_
 rintro _ w_1 ⟨rfl, hS2⟩
 refine rw_nil (cw_ret ?_)
 obtain rfl := some_inj hF
 exact ret1 Tryz.results78 (v1 := .agg #[vi n, vi 0, vi 0, vi 0, vi 0]) (resAt_cellA (B := aD b) (i := 0) (cs := [vi n, vi 0, vi 0, vi 0, vi 0]) (vs := [vi n, vi 0, vi 0, vi 0, vi 0]) rfl k_ag_63 k_sz_63_5 (hS2.cf (i := 0) rfl) rfl rfl) ⟨rfl, (hS2.sN [])⟩

theorem c_impl_IdentityMatrix_1 (i : Int) (j : Int)  (w0 : World)  (hS : ST w0 [] w0 [] []) {r_ : TDyadic} {r_1 : Bool} (hF : F_impl_IdentityMatrix_1 i j = some (r_, r_1)) :
  CV Tryz.prog 77 #[vi i, vi j] w0 (fun v w' => v = .tuple #[gD_ r_, .bool r_1] ∧ ST w0 [] w' [] []) := by
 unfold F_impl_IdentityMatrix_1 at hF
 refine cv_of_cw 11 Tryz.func77 rfl Tryz.ntmps77 rfl ?_
 refine cw_seq (cw_region ?_)
 refine sS 4 (Ys_alloc (T := 63) (cs := kZ_) (m := 5) hS k_zero_63 rfl rfl rfl) ?_
 rintro _ w_ ⟨b, rfl, hS1⟩
 refine sQ 5 (Y_assign (v := .bool false) rfl rfl) (rw_nil (cw_seq (cw_seq (cw_region ?_))))
 refine sQ 6 (Y_move (v := vi i) rfl rfl) ?_
 refine sQ 7 (Y_move (v := vi j) rfl rfl) ?_
 refine sQ 8 (Y_eq (k := .i64) (a := i) (b := j) rfl rfl rfl) (rw_nil ?_)
 refine cw_cond (b := (i == j)) rfl (fun hb => ?_) (fun hb => ?_)
 ·skip
  have hF1 := ct hF hb
  refine cw_seq (cw_region ?_)
  obtain ⟨r_2, hc, hF1⟩ := bind_inv hF1
  refine sc 9 rfl rfl (Yc_func (g := 78) (vs := [vi 1]) k_call_78 rfl (mc rfl mn) (c_impl_whole 1 _  (hS1.inn0 [] rfl) hc)) ?_
  rintro _ w_1 ⟨rfl, hd⟩
  have hS2 := hS1.out00 hd
  refine s0 (Ys_store (i := 0) (s := 5) (B := aD b) (T' := 63) (v := gD_ r_2) (vs := kD_ r_2) (k := 0) (cs' := kD_ r_2) hS2 k_sz_63_5 rfl rfl rfl rfl rfl rfl rfl (lB rfl) rfl rfl) ?_
  rintro _ w_2 ⟨rfl, hS3⟩
  refine sQ 5 (Y_assign (v := .bool true) rfl rfl) (rw_nil (cw_ret ?_))
  obtain ⟨rfl, rfl⟩ := pr2 (some_inj hF1)
  exact ret2 Tryz.results77 (v1 := gD_ r_2) (resAt_cellA (B := aD b) (i := 0) (cs := kD_ r_2) (vs := kD_ r_2) rfl k_ag_63 k_sz_63_5 (hS3.cf (i := 0) rfl) rfl rfl) (v2 := .bool true) (resAt_tmp rfl) ⟨rfl, (hS3.sN [])⟩
 ·skip
  have hF2 := cf' hF hb
  refine cw_skip (cw_seq (cw_region ?_))
  refine sQ 10 (Y_buildS (zs := kZ_) (vs := []) (cs := kZ_) k_pl_63 k_zero_63 rfl mpn rfl) ?_
  refine s0 (Ys_store (i := 0) (s := 5) (B := aD b) (T' := 63) (v := gZ_) (vs := kZ_) (k := 0) (cs' := kZ_) hS1 k_sz_63_5 rfl rfl rfl rfl rfl rfl rfl (lB rfl) rfl rfl) ?_
  rintro _ w_3 ⟨rfl, hS4⟩
  refine sQ 5 (Y_assign (v := .bool true) rfl rfl) (rw_nil (cw_ret ?_))
  obtain ⟨rfl, rfl⟩ := pr2 (some_inj hF2)
  exact ret2 Tryz.results77 (v1 := gZ_) (resAt_cellA (B := aD b) (i := 0) (cs := kZ_) (vs := kZ_) rfl k_ag_63 k_sz_63_5 (hS4.cf (i := 0) rfl) rfl rfl) (v2 := .bool true) (resAt_tmp rfl) ⟨rfl, (hS4.sN [])⟩

theorem c_impl_IdentityMatrix (n : Int)  (w0 : World)  (hS : ST w0 [] w0 [] []) {r_ : TMatrix} {r_1 : Bool} (hF : F_impl_IdentityMatrix n = some (r_, r_1)) :
  CV Tryz.prog 32 #[vi n] w0 (fun v w' => ∃ (B : Option Addr) (c : Nat), v = .tuple #[gM_ r_ B c, .bool r_1] ∧ ST w0 [] w' [⟨B, 63, (r_.Cells.flatMap eN0), c * 5⟩] []) := by
 unfold F_impl_IdentityMatrix at hF
 refine cv_of_cw 9 Tryz.func32 rfl Tryz.ntmps32 rfl ?_
 refine cw_seq (cw_region ?_)
 refine sS 2 (Ys_alloc (T := 30) (cs := kN_) (m := 3) hS k_zero_30 rfl rfl rfl) ?_
 rintro _ w_ ⟨b, rfl, hS1⟩
 refine sQ 3 (Y_assign (v := .bool false) rfl rfl) (rw_nil (cw_seq (cw_region ?_)))
 refine sQ 4 (Y_move (v := vi n) rfl rfl) ?_
 refine sQ 5 (Y_move (v := vi n) rfl rfl) ?_
 obtain ⟨⟨r_2, r_3⟩, hc, hF⟩ := bind_inv hF
 refine sc 6 rfl rfl (Yc_func (g := 76) (vs := [vi n, vi n, .func (.func 77) #[] #[]]) k_call_76 rfl (mc rfl (mc rfl (mc rfl mn))) (c_impl_matrixOf n n F_impl_IdentityMatrix_1 77 (#[]) [] _ k_call_77 (fun w hw x_0 x_1 y_0 y_1 h_ => c_impl_IdentityMatrix_1 x_0 x_1  w  hw h_) (hS1.inn0 [] rfl) hc)) ?_
 rintro _ w_1 ⟨B1, c1, rfl, hd⟩
 have hS2 := hS1.out0 hd
 refine sQ 7 (Y_extract (v := gM_ r_2 B1 c1) rfl rfl rfl) ?_
 refine sQ 8 (Y_extract (v := .bool r_3) rfl rfl rfl) ?_
 refine s0 (Ys_store (i := 0) (s := 3) (B := aD b) (T' := 30) (v := gM_ r_2 B1 c1) (vs := kM_ r_2 B1 c1) (k := 0) (cs' := kM_ r_2 B1 c1) hS2 k_sz_30_3 rfl rfl rfl rfl rfl rfl rfl (lB rfl) rfl rfl) ?_
 rintro _ w_2 ⟨rfl, hS3⟩
 refine sQ 3 (Y_assign (v := .bool r_3) rfl rfl) (rw_nil (cw_ret ?_))
 obtain ⟨rfl, rfl⟩ := pr2 (some_inj hF)
 exact ret2 Tryz.results32 (v1 := gM_ r_2 B1 c1) (resAt_cellA (B := aD b) (i := 0) (cs := kM_ r_2 B1 c1) (vs := kM_ r_2 B1 c1) rfl k_ag_30 k_sz_30_3 (hS3.cf (i := 0) rfl) rfl rfl) (v2 := .bool r_3) (resAt_tmp rfl) ⟨B1, c1, rfl, (hS3.sN [1])⟩

theorem c_impl_isCoef (n : Int)  (w0 : World)  (hS : ST w0 [] w0 [] []) {r_ : Bool} (hF : F_impl_isCoef n = some r_) :
  CV Tryz.prog 175 #[vi n] w0 (fun v w' => v = .bool r_ ∧ ST w0 [] w' [] []) := by
 unfold F_impl_isCoef at hF
 refine cv_of_cw 5 Tryz.func175 rfl Tryz.ntmps175 rfl ?_
 refine cw_seq (cw_region ?_)
 refine sQ 2 (Y_assign (v := .bool false) rfl rfl) (rw_nil (cw_seq (cw_region ?_)))
 refine sQ 3 (Y_move (v := vi n) rfl rfl) ?_
 obtain ⟨r_1, hc, hF⟩ := bind_inv hF
 refine sc 4 rfl rfl (Yc_func (g := 65) (vs := [vi n, vi (-1000000000), vi 1000000000]) k_call_65 rfl (mc rfl (mc rfl (mc rfl mn))) (c_impl_within n (-1000000000) 1000000000 _  (hS.inn0 [] rfl) hc)) ?_
 rintro _ w_ ⟨rfl, hd⟩
 have hS1 := hS.out00 hd
 refine sQ 2 (Y_assign (v := .bool r_1) rfl rfl) (rw_nil (cw_ret ?_))
 obtain rfl := some_inj hF
 exact ret1 Tryz.results175 (v1 := .bool r_1) (resAt_tmp rfl) ⟨rfl, (hS1.sN [])⟩

theorem c_impl_IsValidRing (x : TRing)  (w0 : World)  (hS : ST w0 [] w0 [] []) {r_ : Bool} (hF : F_impl_IsValidRing x = some r_) :
  CV Tryz.prog 152 #[gR_ x] w0 (fun v w' => v = .bool r_ ∧ ST w0 [] w' [] []) := by
 unfold F_impl_IsValidRing at hF
 refine cv_of_cw 21 Tryz.func152 rfl Tryz.ntmps152 rfl ?_
 refine cw_seq (cw_region ?_)
 refine sS 1 (Ys_box (T := 61) (v := gR_ x) (cs := kR_ x) (m := 4) hS rfl rfl rfl rfl) ?_
 rintro _ w_ ⟨b, rfl, hS1⟩
 refine sQ 2 (Y_assign (v := .bool false) rfl rfl) (rw_nil (cw_seq (cw_region ?_)))
 refine sQ 3 (Y_fieldAddr (B := aD b) (i := 0) (s := 0) k_fd_61_0_0_3 k_sz_3_1 rfl rfl) ?_
 refine sQ 4 (Y_load1 (B := aD b) (i := 0) (cs := kR_ x) (v := vi x.A) k_sc_3 rfl rfl (hS1.cf (i := 0) rfl) rfl) ?_
 obtain ⟨r_1, hc, hF⟩ := bind_inv hF
 refine sc 5 rfl rfl (Yc_func (g := 175) (vs := [vi x.A]) k_call_175 rfl (mc rfl mn) (c_impl_isCoef x.A _  (hS1.inn0 [] rfl) hc)) ?_
 rintro _ w_1 ⟨rfl, hd⟩
 have hS2 := hS1.out00 hd
 refine sQ 6 (Y_move (v := .bool r_1) rfl rfl) ?_
 refine sgq 7 (B := r_1) (v := pt (aD b) 1) rfl rfl (uT_ 6) (fun hg => (Y_fieldAddr (B := aD b) (i := 0) (s := 0) k_fd_61_1_1_3 k_sz_3_1 rfl rfl)) ?_
 refine sgq 8 (B := r_1) (v := vi x.B) rfl rfl (uT_ 6) (fun hg1 => (Y_load1 (B := aD b) (i := 1) (cs := kR_ x) (v := vi x.B) k_sc_3 rfl (gv_of (v := pt (aD b) 1) hg1) (hS2.cf (i := 0) rfl) rfl)) ?_
 obtain ⟨r_2, hc1, hF⟩ := bind_inv hF
 refine sgc 9 (B := r_1) (v := .bool r_2) (F := hS2.fn) rfl rfl (uT_ 6) hS2 (fun hg2 => (Yc_func (g := 175) (vs := [vi x.B]) k_call_175 rfl (mc (gv_of (v := vi x.B) hg2) mn) (CV.mono (c_impl_isCoef x.B _  (hS2.inn0 [] rfl) (gb_inv hc1 hg2)) (by rintro _ _ ⟨rfl, h⟩; exact ⟨rfl, hS2.out00 h⟩)))) ?_
 rintro w_2 hS3
 refine sQ 10 (Y_and (b := r_1) (z := r_2) rfl rfl rfl rfl) ?_
 refine sQ 11 (Y_move (v := .bool (r_1 && r_2)) rfl rfl) ?_
 refine sgq 12 (B := (r_1 && r_2)) (v := pt (aD b) 2) rfl rfl (uT_ 11) (fun hg3 => (Y_fieldAddr (B := aD b) (i := 0) (s := 0) k_fd_61_2_2_3 k_sz_3_1 rfl rfl)) ?_
 refine sgq 13 (B := (r_1 && r_2)) (v := vi x.C) rfl rfl (uT_ 11) (fun hg4 => (Y_load1 (B := aD b) (i := 2) (cs := kR_ x) (v := vi x.C) k_sc_3 rfl (gv_of (v := pt (aD b) 2) hg4) (hS3.cf (i := 0) rfl) rfl)) ?_
 obtain ⟨r_3, hc2, hF⟩ := bind_inv hF
 refine sgc 14 (B := (r_1 && r_2)) (v := .bool r_3) (F := hS3.fn) rfl rfl (uT_ 11) hS3 (fun hg5 => (Yc_func (g := 175) (vs := [vi x.C]) k_call_175 rfl (mc (gv_of (v := vi x.C) hg5) mn) (CV.mono (c_impl_isCoef x.C _  (hS3.inn0 [] rfl) (gb_inv hc2 hg5)) (by rintro _ _ ⟨rfl, h⟩; exact ⟨rfl, hS3.out00 h⟩)))) ?_
 rintro w_3 hS4
 refine sQ 15 (Y_and (b := (r_1 && r_2)) (z := r_3) rfl rfl rfl rfl) ?_
 refine sQ 16 (Y_move (v := .bool ((r_1 && r_2) && r_3)) rfl rfl) ?_
 refine sgq 17 (B := ((r_1 && r_2) && r_3)) (v := pt (aD b) 3) rfl rfl (uT_ 16) (fun hg6 => (Y_fieldAddr (B := aD b) (i := 0) (s := 0) k_fd_61_3_3_3 k_sz_3_1 rfl rfl)) ?_
 refine sgq 18 (B := ((r_1 && r_2) && r_3)) (v := vi x.D) rfl rfl (uT_ 16) (fun hg7 => (Y_load1 (B := aD b) (i := 3) (cs := kR_ x) (v := vi x.D) k_sc_3 rfl (gv_of (v := pt (aD b) 3) hg7) (hS4.cf (i := 0) rfl) rfl)) ?_
 obtain ⟨r_4, hc3, hF⟩ := bind_inv hF
 refine sgc 19 (B := ((r_1 && r_2) && r_3)) (v := .bool r_4) (F := hS4.fn) rfl rfl (uT_ 16) hS4 (fun hg8 => (Yc_func (g := 175) (vs := [vi x.D]) k_call_175 rfl (mc (gv_of (v := vi x.D) hg8) mn) (CV.mono (c_impl_isCoef x.D _  (hS4.inn0 [] rfl) (gb_inv hc3 hg8)) (by rintro _ _ ⟨rfl, h⟩; exact ⟨rfl, hS4.out00 h⟩)))) ?_
 rintro w_4 hS5
 refine sQ 20 (Y_and (b := ((r_1 && r_2) && r_3)) (z := r_4) rfl rfl rfl rfl) ?_
 refine sQ 2 (Y_assign (v := .bool (((r_1 && r_2) && r_3) && r_4)) rfl rfl) (rw_nil (cw_ret ?_))
 obtain rfl := some_inj hF
 exact ret1 Tryz.results152 (v1 := .bool (((r_1 && r_2) && r_3) && r_4)) (resAt_tmp rfl) ⟨rfl, (hS5.sN [])⟩

theorem c_impl_MulOmega (x : TRing) (k_ : Int)  (w0 : World)  (hS : ST w0 [] w0 [] []) {r_ : TRing} {r_1 : Bool} (hF : F_impl_MulOmega x k_ = some (r_, r_1)) :
  CV Tryz.prog 106 #[gR_ x, vi k_] w0 (fun v w' => v = .tuple #[gR_ r_, .bool r_1] ∧ ST w0 [] w' [] []) := by
 unfold F_impl_MulOmega at hF
 refine cv_of_cw 33 Tryz.func106 rfl Tryz.ntmps106 rfl ?_
 refine cw_seq (cw_region ?_)
 refine sS 2 (Ys_box (T := 61) (v := gR_ x) (cs := kR_ x) (m := 4) hS rfl rfl rfl rfl) ?_
 rintro _ w_ ⟨b, rfl, hS1⟩
 refine sS 4 (Ys_alloc (T := 61) (cs := [vi 0, vi 0, vi 0, vi 0]) (m := 4) hS1 k_zero_61 rfl rfl rfl) ?_
 rintro _ w_1 ⟨b1, rfl, hS2⟩
 refine sQ 5 (Y_assign (v := .bool false) rfl rfl) (rw_nil (cw_seq (cw_seq (cw_region ?_))))
 refine sQ 6 (Y_move (v := vi k_) rfl rfl) ?_
 obtain ⟨r_2, hc, hF⟩ := bind_inv hF
 refine sc 7 rfl rfl (Yc_func (g := 65) (vs := [vi k_, vi (-1000), vi 1000]) k_call_65 rfl (mc rfl (mc rfl (mc rfl mn))) (c_impl_within k_ (-1000) 1000 _  (hS2.inn0 [] rfl) hc)) ?_
 rintro _ w_2 ⟨rfl, hd⟩
 have hS3 := hS2.out00 hd
 refine sQ 8 (Y_not (p := r_2) rfl rfl) ?_
 refine sQ 9 (Y_move (v := .bool (!r_2)) rfl rfl) ?_
 refine sgq 10 (B := (!(!r_2))) (v := gR_ x) rfl rfl (uF_ 9) (fun hg => (Y_loadA (B := aD b) (i := 0) (cs := kR_ x) (vs := kR_ x) k_ag_61 k_sz_61_4 rfl rfl (hS3.cf (i := 0) rfl) rfl rfl)) ?_
 obtain ⟨r_3, hc1, hF⟩ := bind_inv hF
 refine sgc 11 (B := (!(!r_2))) (v := .bool r_3) (F := hS3.fn) rfl rfl (uF_ 9) hS3 (fun hg1 => (Yc_func (g := 152) (vs := [gR_ x]) k_call_152 rfl (mc (gv_of (v := gR_ x) hg1) mn) (CV.mono (c_impl_IsValidRing x _  (hS3.inn0 [] rfl) (gb_inv hc1 hg1)) (by rintro _ _ ⟨rfl, h⟩; exact ⟨rfl, hS3.out00 h⟩)))) ?_
 rintro w_3 hS4
 refine sgq 12 (B := (!(!r_2))) (v := .bool (!r_3)) rfl rfl (uF_ 9) (fun hg2 => (Y_not (p := r_3) rfl (gv_of (v := .bool r_3) hg2))) ?_
 refine sQ 13 (Y_or (b := (!r_2)) (z := (!r_3)) rfl rfl rfl rfl) (rw_nil ?_)
 refine cw_cond (b := ((!r_2) || (!r_3))) rfl (fun hb => ?_) (fun hb => ?_)
 ·skip
  have hF1 := ct hF hb
  refine cw_seq (cw_region ?_)
  refine sQ 14 (Y_buildS (zs := [vi 0, vi 0, vi 0, vi 0]) (vs := []) (cs := [vi 0, vi 0, vi 0, vi 0]) k_pl_61 k_zero_61 rfl mpn rfl) ?_
  refine s0 (Ys_store (i := 1) (s := 4) (B := aD b1) (T' := 61) (v := .agg #[vi 0, vi 0, vi 0, vi 0]) (vs := [vi 0, vi 0, vi 0, vi 0]) (k := 0) (cs' := [vi 0, vi 0, vi 0, vi 0]) hS4 k_sz_61_4 rfl rfl rfl rfl rfl rfl rfl (lB rfl) rfl rfl) ?_
  rintro _ w_4 ⟨rfl, hS5⟩
  refine sQ 5 (Y_assign (v := .bool false) rfl rfl) (rw_nil (cw_ret ?_))
  obtain ⟨rfl, rfl⟩ := pr2 (some_inj hF1)
  exact ret2 Tryz.results106 (v1 := .agg #[vi 0, vi 0, vi 0, vi 0]) (resAt_cellA (B := aD b1) (i := 0) (cs := [vi 0, vi 0, vi 0, vi 0]) (vs := [vi 0, vi 0, vi 0, vi 0]) rfl k_ag_61 k_sz_61_4 (hS5.cf (i := 1) rfl) rfl rfl) (v2 := .bool false) (resAt_tmp rfl) ⟨rfl, (hS5.sN [])⟩
 ·skip
  have hF2 := cf' hF hb
  refine cw_skip (cw_seq (cw_seq (cw_region ?_)))
  refine sQ 15 (Y_move (v := vi k_) rfl rfl) ?_
  refine sQ 16 (Y_rem (k := .i64) (a := k_) (b := 8) rfl rfl rfl (by decide)) ?_
  refine sQ 17 (Y_add (k := .i64) (a := (Int.tmod k_ 8)) (b := 8) rfl rfl rfl) ?_
  refine sQ 18 (Y_rem (k := .i64) (a := (i64.wrap ((Int.tmod k_ 8) + 8))) (b := 8) rfl rfl rfl (by decide)) ?_
  refine sQ 19 (Y_move (v := vi 0) rfl rfl) (rw_nil ?_)
  obtain ⟨hN, hF2⟩ := chk_inv hF2
  obtain ⟨z, hz, hF3⟩ := bind_inv hF2
  refine cw_block ?_
  refine cw_loop (fun k f w => ∃ (i : Nat) (A : Int) (B : Int) (C : Int) (D : Int), FF f [(2, pt (aD b) 0), (4, pt (aD b1) 0), (18, vi (Int.tmod (i64.wrap ((Int.tmod k_ 8) + 8)) 8)), (19, vi (i : Int))] ∧ ST w0 [] w [⟨aD b, 61, [vi A, vi B, vi C, vi D], 4⟩, ⟨aD b1, 61, [vi 0, vi 0, vi 0, vi 0], 4⟩] [] ∧ i + k = (Int.tmod (i64.wrap ((Int.tmod k_ 8) + 8)) 8).toNat ∧ forN F_impl_MulOmega_l1 k i (A, B, C, D) = some z) ((Int.tmod (i64.wrap ((Int.tmod k_ 8) + 8)) 8).toNat) ⟨0, x.A, x.B, x.C, x.D, (FF.cons rfl (FF.cons rfl (FF.cons rfl (FF.cons rfl FF.nil)))), (hS4.sel [0, 1] rfl rfl), Nat.zero_add _, hz⟩ ?_
  rintro k_1 f w ⟨i, A, B, C, D, hf, hS6, hik, hL⟩
  refine cw_seq (cw_region ?_)
  refine sQ 20 (Y_lt (k := .i64) (a := (i : Int)) (b := (Int.tmod (i64.wrap ((Int.tmod k_ 8) + 8)) 8)) rfl (hf.get 19 3 rfl) (hf.get 18 2 rfl)) (rw_nil (cw_seq ?_))
  refine cw_cond (b := (decide ((i : Int) < (Int.tmod (i64.wrap ((Int.tmod k_ 8) + 8)) 8)))) rfl (fun hlt => ?_) (fun hlt => ?_)
  ·skip
   have hlt1 : i < (Int.tmod (i64.wrap ((Int.tmod k_ 8) + 8)) 8).toNat := by have h := of_decide_eq_true hlt; omega
   obtain ⟨k_2, rfl⟩ : ∃ k2, k_1 = k2 + 1 := ⟨k_1 - 1, by omega⟩
   obtain ⟨y, hb1, hL1⟩ := forN_go hL
   unfold F_impl_MulOmega_l1 at hb1
   refine cw_skip (cw_seq (cw_block (cw_region ?_)))
   refine sQ 21 (Y_fieldAddr (B := aD b) (i := 0) (s := 0) k_fd_61_3_3_3 k_sz_3_1 rfl (hf.get 2 0 rfl)) ?_
   refine sQ 22 (Y_load1 (B := aD b) (i := 3) (cs := [vi A, vi B, vi C, vi D]) (v := vi D) k_sc_3 rfl rfl (hS6.cf (i := 0) rfl) rfl) ?_
   refine sQ 23 (Y_neg (k := .i64) (a := D) rfl rfl) ?_
   refine sQ 24 (Y_fieldAddr (B := aD b) (i := 0) (s := 0) k_fd_61_0_0_3 k_sz_3_1 rfl (hf.get 2 0 rfl)) ?_
   refine sQ 25 (Y_load1 (B := aD b) (i := 0) (cs := [vi A, vi B, vi C, vi D]) (v := vi A) k_sc_3 rfl rfl (hS6.cf (i := 0) rfl) rfl) ?_
   refine sQ 26 (Y_fieldAddr (B := aD b) (i := 0) (s := 0) k_fd_61_1_1_3 k_sz_3_1 rfl (hf.get 2 0 rfl)) ?_
   refine sQ 27 (Y_load1 (B := aD b) (i := 1) (cs := [vi A, vi B, vi C, vi D]) (v := vi B) k_sc_3 rfl rfl (hS6.cf (i := 0) rfl) rfl) ?_
   refine sQ 28 (Y_fieldAddr (B := aD b) (i := 0) (s := 0) k_fd_61_2_2_3 k_sz_3_1 rfl (hf.get 2 0 rfl)) ?_
   refine sQ 29 (Y_load1 (B := aD b) (i := 2) (cs := [vi A, vi B, vi C, vi D]) (v := vi C) k_sc_3 rfl rfl (hS6.cf (i := 0) rfl) rfl) ?_
   refine sQ 30 (Y_buildS (zs := [vi 0, vi 0, vi 0, vi 0]) (vs := [(0, vi (i64.wrap (-D))), (1, vi A), (2, vi B), (3, vi C)]) (cs := [vi (i64.wrap (-D)), vi A, vi B, vi C]) k_pl_61 k_zero_61 rfl (mpc rfl (mpc rfl (mpc rfl (mpc rfl mpn)))) rfl) ?_
   refine s0 (Ys_store (i := 0) (s := 4) (B := aD b) (T' := 61) (v := .agg #[vi (i64.wrap (-D)), vi A, vi B, vi C]) (vs := [vi (i64.wrap (-D)), vi A, vi B, vi C]) (k := 0) (cs' := [vi (i64.wrap (-D)), vi A, vi B, vi C]) hS6 k_sz_61_4 rfl (hf.get 2 0 rfl) rfl rfl rfl rfl rfl (lB rfl) rfl rfl) ?_
   rintro _ w_5 ⟨rfl, hS7⟩
   refine rw_nil (cw_region ?_)
   refine sQ 31 (Y_add (k := .i64) (a := (i : Int)) (b := 1) rfl (hf.get 19 3 rfl) rfl) ?_
   refine sQ 19 (Y_move (v := vi (i64.wrap ((i : Int) + 1))) rfl rfl) (rw_nil ?_)
   obtain rfl := some_inj hb1
   exact ⟨k_2, Nat.lt_succ_self _, i + 1, (i64.wrap (-D)), A, B, C, (FF.cons (hf.get 2 0 rfl) (FF.cons (hf.get 4 1 rfl) (FF.cons (hf.get 18 2 rfl) (FF.cons (congrArg (Value.int .i64) (wr_succ hlt1 hN)) FF.nil)))), (hS7.sel [0, 1] rfl rfl), (by omega), hL1⟩
  ·skip
   obtain rfl : k_1 = 0 := by have h := of_decide_eq_false hlt; omega
   refine cw_exit rfl ?_
   obtain rfl := some_inj hL
   refine cw_seq (cw_region ?_)
   refine sQ 32 (Y_loadA (B := aD b) (i := 0) (cs := [vi A, vi B, vi C, vi D]) (vs := [vi A, vi B, vi C, vi D]) k_ag_61 k_sz_61_4 rfl (hf.get 2 0 rfl) (hS6.cf (i := 0) rfl) rfl rfl) ?_
   refine s0 (Ys_store (i := 1) (s := 4) (B := aD b1) (T' := 61) (v := .agg #[vi A, vi B, vi C, vi D]) (vs := [vi A, vi B, vi C, vi D]) (k := 0) (cs' := [vi A, vi B, vi C, vi D]) hS6 k_sz_61_4 rfl (hf.get 4 1 rfl) rfl rfl rfl rfl rfl (lB rfl) rfl rfl) ?_
   rintro _ w_6 ⟨rfl, hS8⟩
   refine sQ 5 (Y_assign (v := .bool true) rfl rfl) (rw_nil (cw_ret ?_))
   obtain ⟨rfl, rfl⟩ := pr2 (some_inj hF3)
   exact ret2 Tryz.results106 (v1 := .agg #[vi A, vi B, vi C, vi D]) (resAt_cellA (B := aD b1) (i := 0) (cs := [vi A, vi B, vi C, vi D]) (vs := [vi A, vi B, vi C, vi D]) (hf.get 4 1 rfl) k_ag_61 k_sz_61_4 (hS8.cf (i := 1) rfl) rfl rfl) (v2 := .bool true) (resAt_tmp rfl) ⟨rfl, (hS8.sN [])⟩

theorem c_impl_phase (k_ : Int)  (w0 : World)  (hS : ST w0 [] w0 [] []) {r_ : TDyadic} (hF : F_impl_phase k_ = some r_) :
  CV Tryz.prog 68 #[vi k_] w0 (fun v w' => v = (gD_ r_) ∧ ST w0 [] w' [] []) := by
 unfold F_impl_phase at hF
 refine cv_of_cw 13 Tryz.func68 rfl Tryz.ntmps68 rfl ?_
 refine cw_seq (cw_region ?_)
 refine sS 2 (Ys_alloc (T := 63) (cs := kZ_) (m := 5) hS k_zero_63 rfl rfl rfl) ?_
 rintro _ w_ ⟨b, rfl, hS1⟩
 refine rw_nil (cw_seq (cw_region ?_))
 refine sQ 6 (Y_buildS (zs := [vi 0, vi 0, vi 0, vi 0]) (vs := [(0, vi 1)]) (cs := [vi 1, vi 0, vi 0, vi 0]) k_pl_61 k_zero_61 rfl (mpc rfl mpn) rfl) ?_
 refine sQ 7 (Y_move (v := vi k_) rfl rfl) ?_
 obtain ⟨⟨r_1, r_2⟩, hc, hF⟩ := bind_inv hF
 refine sc 8 rfl rfl (Yc_func (g := 106) (vs := [.agg #[vi 1, vi 0, vi 0, vi 0], vi k_]) k_call_106 rfl (mc rfl (mc rfl mn)) (c_impl_MulOmega (TRing.mk 1 0 0 0) k_ _  (hS1.inn0 [] rfl) hc)) ?_
 rintro _ w_1 ⟨rfl, hd⟩
 have hS2 := hS1.out00 hd
 refine sQ 5 (Y_move (v := .tuple #[gR_ r_1, .bool r_2]) rfl rfl) ?_
 refine sQ 9 (Y_extract (v := gR_ r_1) rfl rfl rfl) ?_
 refine sQ 10 (Y_extract (v := .bool r_2) rfl rfl rfl) ?_
 refine sS 3 (Ys_alloc (T := 61) (cs := [vi 0, vi 0, vi 0, vi 0]) (m := 4) hS2 k_zero_61 rfl rfl rfl) ?_
 rintro _ w_2 ⟨b1, rfl, hS3⟩
 refine s0 (Ys_store (i := 1) (s := 4) (B := aD b1) (T' := 61) (v := gR_ r_1) (vs := kR_ r_1) (k := 0) (cs' := kR_ r_1) hS3 k_sz_61_4 rfl rfl rfl rfl rfl rfl rfl (lB rfl) rfl rfl) ?_
 rintro _ w_3 ⟨rfl, hS4⟩
 refine sQ 4 (Y_assign (v := .bool r_2) rfl rfl) (rw_nil (cw_seq (cw_region ?_)))
 refine sQ 11 (Y_loadA (B := aD b1) (i := 0) (cs := kR_ r_1) (vs := kR_ r_1) k_ag_61 k_sz_61_4 rfl rfl (hS4.cf (i := 1) rfl) rfl rfl) ?_
 refine sQ 12 (Y_buildS (zs := kZ_) (vs := [(0, gR_ r_1)]) (cs := [vi r_1.A, vi r_1.B, vi r_1.C, vi r_1.D, vi 0]) k_pl_63 k_zero_63 rfl (mpc rfl mpn) rfl) ?_
 refine s0 (Ys_store (i := 0) (s := 5) (B := aD b) (T' := 63) (v := .agg #[vi r_1.A, vi r_1.B, vi r_1.C, vi r_1.D, vi 0]) (vs := [vi r_1.A, vi r_1.B, vi r_1.C, vi r_1.D, vi 0]) (k := 0) (cs' := [vi r_1.A, vi r_1.B, vi r_1.C, vi r_1.D, vi 0]) hS4 k_sz_63_5 rfl rfl rfl rfl rfl rfl rfl (lB rfl) rfl rfl) ?_
 rintro _ w_4 ⟨rfl, hS5⟩
 refine rw_nil (cw_ret ?_)
 obtain rfl := some_inj hF
 exact ret1 Tryz.results68 (v1 := .agg #[vi r_1.A, vi r_1.B, vi r_1.C, vi r_1.D, vi 0]) (resAt_cellA (B := aD b) (i := 0) (cs := [vi r_1.A, vi r_1.B, vi r_1.C, vi r_1.D, vi 0]) (vs := [vi r_1.A, vi r_1.B, vi r_1.C, vi r_1.D, vi 0]) rfl k_ag_63 k_sz_63_5 (hS5.cf (i := 0) rfl) rfl rfl) ⟨rfl, (hS5.sN [])⟩

theorem c_impl_bitOf (n : Int) (state : Int) (q : Int)  (w0 : World)  (hS : ST w0 [] w0 [] []) {r_ : Int} (hF : F_impl_bitOf n state q = some r_) :
  CV Tryz.prog 121 #[vi n, vi state, vi q] w0 (fun v w' => v = vi r_ ∧ ST w0 [] w' [] []) := by
 unfold F_impl_bitOf at hF
 refine cv_of_cw 14 Tryz.func121 rfl Tryz.ntmps121 rfl ?_
 refine cw_seq (cw_region ?_)
 refine sQ 6 (Y_assign (v := vi 0) rfl rfl) (rw_nil (cw_seq (cw_region ?_)))
 refine sQ 7 (Y_move (v := vi state) rfl rfl) ?_
 refine sQ 8 (Y_move (v := vi n) rfl rfl) ?_
 refine sQ 9 (Y_sub (k := .i64) (a := n) (b := 1) rfl rfl rfl) ?_
 refine sQ 10 (Y_move (v := vi q) rfl rfl) ?_
 refine sQ 11 (Y_sub (k := .i64) (a := (i64.wrap (n - 1))) (b := q) rfl rfl rfl) ?_
 obtain ⟨hsh, hF⟩ := chk_inv hF
 refine sQ 12 (Y_shr (k := .i64) (a := state) (k' := .i64) (b := (i64.wrap ((i64.wrap (n - 1)) - q))) rfl rfl rfl hsh) ?_
 refine sQ 13 (Y_band (k := .i64) (a := (shrK .i64 state (i64.wrap ((i64.wrap (n - 1)) - q)))) (b := 1) rfl rfl rfl) ?_
 refine sQ 6 (Y_assign (v := vi (bits .and .i64 (shrK .i64 state (i64.wrap ((i64.wrap (n - 1)) - q))) 1)) rfl rfl) (rw_nil (cw_ret ?_))
 obtain rfl := some_inj hF
 exact ret1 Tryz.results121 (v1 := vi (bits .and .i64 (shrK .i64 state (i64.wrap ((i64.wrap (n - 1)) - q))) 1)) (resAt_tmp rfl) ⟨rfl, (hS.sN [])⟩

theorem c_impl_flipped (n : Int) (state : Int) (q : Int)  (w0 : World)  (hS : ST w0 [] w0 [] []) {r_ : Int} (hF : F_impl_flipped n state q = some r_) :
  CV Tryz.prog 122 #[vi n, vi state, vi q] w0 (fun v w' => v = vi r_ ∧ ST w0 [] w' [] []) := by
 unfold F_impl_flipped at hF
 refine cv_of_cw 14 Tryz.func122 rfl Tryz.ntmps122 rfl ?_
 refine cw_seq (cw_region ?_)
 refine sQ 6 (Y_assign (v := vi 0) rfl rfl) (rw_nil (cw_seq (cw_region ?_)))
 refine sQ 7 (Y_move (v := vi state) rfl rfl) ?_
 refine sQ 8 (Y_move (v := vi n) rfl rfl) ?_
 refine sQ 9 (Y_sub (k := .i64) (a := n) (b := 1) rfl rfl rfl) ?_
 refine sQ 10 (Y_move (v := vi q) rfl rfl) ?_
 refine sQ 11 (Y_sub (k := .i64) (a := (i64.wrap (n - 1))) (b := q) rfl rfl rfl) ?_
 obtain ⟨hsh, hF⟩ := chk_inv hF
 refine sQ 12 (Y_shl (k := .i64) (a := 1) (k' := .i64) (b := (i64.wrap ((i64.wrap (n - 1)) - q))) rfl rfl rfl hsh) ?_
 refine sQ 13 (Y_bxor (k := .i64) (a := state) (b := (shlK .i64 1 (i64.wrap ((i64.wrap (n - 1)) - q)))) rfl rfl rfl) ?_
 refine sQ 6 (Y_assign (v := vi (bits .xor .i64 state (shlK .i64 1 (i64.wrap ((i64.wrap (n - 1)) - q))))) rfl rfl) (rw_nil (cw_ret ?_))
 obtain rfl := some_inj hF
 exact ret1 Tryz.results122 (v1 := vi (bits .xor .i64 state (shlK .i64 1 (i64.wrap ((i64.wrap (n - 1)) - q))))) (resAt_tmp rfl) ⟨rfl, (hS.sN [])⟩

theorem c_impl_comesFrom (n : Int) (g : TGate) (state : Int)  (w0 : World)  (hS : ST w0 [] w0 [] []) {r_ : Int} (hF : F_impl_comesFrom n g state = some r_) :
  CV Tryz.prog 119 #[vi n, .agg #[vi g.Kind, vi g.A, vi g.B], vi state] w0 (fun v w' => v = vi r_ ∧ ST w0 [] w' [] []) := by
 unfold F_impl_comesFrom at hF
 refine cv_of_cw 51 Tryz.func119 rfl Tryz.ntmps119 rfl ?_
 refine cw_seq (cw_region ?_)
 refine sS 4 (Ys_box (T := 67) (v := .agg #[vi g.Kind, vi g.A, vi g.B]) (cs := [vi g.Kind, vi g.A, vi g.B]) (m := 3) hS rfl rfl rfl rfl) ?_
 rintro _ w_ ⟨b, rfl, hS1⟩
 refine sQ 6 (Y_assign (v := vi 0) rfl rfl) (rw_nil (cw_seq ?_))
 obtain ⟨r_1, hc, hF⟩ := bind_inv hF
 obtain ⟨r_2, hc1, hF⟩ := bind_inv hF
 refine ra_start (hS1.se [0]).fn (by kernel_rfl) ?_
 have hS4 := hS1.drew
 refine rq 0 9 (v := vi n) rfl (hS4.se [0]) (fun w' hw' => (Y_move (v := vi n) rfl rfl)) ?_
 refine rq 1 10 (v := vi state) rfl (hS4.se [0]) (fun w' hw' => (Y_move (v := vi state) rfl rfl)) ?_
 refine rq 2 11 (v := pt (aD b) 1) rfl (hS4.se [0]) (fun w' hw' => (Y_fieldAddr (B := aD b) (i := 0) (s := 0) k_fd_67_1_1_3 k_sz_3_1 rfl rfl)) ?_
 refine rq 3 12 (v := vi g.A) rfl (hS4.se [0]) (fun w' hw' => (Y_load1 (B := aD b) (i := 1) (cs := [vi g.Kind, vi g.A, vi g.B]) (v := vi g.A) k_sc_3 rfl rfl (ST.cf hw' (i := 0) rfl) rfl)) ?_
 refine rq 5 14 (v := vi n) rfl (hS4.se [0]) (fun w' hw' => (Y_move (v := vi n) rfl rfl)) ?_
 refine rq 6 15 (v := vi state) rfl (hS4.se [0]) (fun w' hw' => (Y_move (v := vi state) rfl rfl)) ?_
 refine rq 7 16 (v := pt (aD b) 2) rfl (hS4.se [0]) (fun w' hw' => (Y_fieldAddr (B := aD b) (i := 0) (s := 0) k_fd_67_2_2_3 k_sz_3_1 rfl rfl)) ?_
 refine rq 8 17 (v := vi g.B) rfl (hS4.se [0]) (fun w' hw' => (Y_load1 (B := aD b) (i := 2) (cs := [vi g.Kind, vi g.A, vi g.B]) (v := vi g.B) k_sc_3 rfl rfl (ST.cf hw' (i := 0) rfl) rfl)) ?_
 refine rA [4] ?_
 refine ra_c 13 (i := 4) rfl rfl rfl (Yc_func (g := 121) (vs := [vi n, vi state, vi g.A]) k_call_121 rfl (mc rfl (mc rfl (mc rfl mn))) (c_impl_bitOf n state g.A _  (hS4.inn0 [] rfl) hc)) ?_ ?_
 ·rintro _ w_1 ⟨rfl, hd⟩
  have hS5 := hS4.out00 hd
  refine ⟨(hS5.se [0]), ?_⟩
  refine rA [9] ?_
  refine ra_c 18 (i := 9) rfl rfl rfl (Yc_func (g := 121) (vs := [vi n, vi state, vi g.B]) k_call_121 rfl (mc rfl (mc rfl (mc rfl mn))) (c_impl_bitOf n state g.B _  (hS5.inn0 [] rfl) hc1)) ?_ ?_
  ·rintro _ w_2 ⟨rfl, hd1⟩
   have hS6 := hS5.out00 hd1
   refine ⟨(hS6.se [0]), ?_⟩
   refine rq 10 7 (v := vi r_1) rfl (hS6.se [0]) (fun w' hw' => (Y_assign (v := vi r_1) rfl rfl)) ?_
   refine rq 11 8 (v := vi r_2) rfl (hS6.se [0]) (fun w' hw' => (Y_assign (v := vi r_2) rfl rfl)) ?_
   refine ra_done (by kernel_rfl) ?_
   refine cw_seq (cw_block (cw_seq (cw_region ?_)))
   refine sQ 20 (Y_fieldAddr (B := aD b) (i := 0) (s := 0) k_fd_67_0_0_3 k_sz_3_1 rfl rfl) ?_
   refine sQ 21 (Y_load1 (B := aD b) (i := 0) (cs := [vi g.Kind, vi g.A, vi g.B]) (v := vi g.Kind) k_sc_3 rfl rfl (hS6.cf (i := 0) rfl) rfl) ?_
   refine sQ 22 (Y_eq (k := .i64) (a := g.Kind) (b := 9) rfl rfl rfl) ?_
   refine sQ 23 (Y_move (v := .bool (g.Kind == 9)) rfl rfl) ?_
   refine sgq 24 (B := (g.Kind == 9)) (v := vi r_1) rfl rfl (uT_ 23) (fun hg => (Y_move (v := vi r_1) rfl rfl)) ?_
   refine sgq 25 (B := (g.Kind == 9)) (v := .bool (r_1 == 1)) rfl rfl (uT_ 23) (fun hg1 => (Y_eq (k := .i64) (a := r_1) (b := 1) rfl (gv_of (v := vi r_1) hg1) rfl)) ?_
   refine sQ 26 (Y_and (b := (g.Kind == 9)) (z := (r_1 == 1)) rfl rfl rfl rfl) ?_
   refine sQ 19 (Y_assign (v := .bool ((g.Kind == 9) && (r_1 == 1))) rfl rfl) (rw_nil ?_)
   refine cw_cond (b := ((g.Kind == 9) && (r_1 == 1))) rfl (fun hb => ?_) (fun hb => ?_)
   ·skip
    have hF1 := ct hF hb
    refine cw_seq (cw_region ?_)
    refine sQ 27 (Y_move (v := vi n) rfl rfl) ?_
    refine sQ 28 (Y_move (v := vi state) rfl rfl) ?_
    refine sQ 29 (Y_fieldAddr (B := aD b) (i := 0) (s := 0) k_fd_67_2_2_3 k_sz_3_1 rfl rfl) ?_
    refine sQ 30 (Y_load1 (B := aD b) (i := 2) (cs := [vi g.Kind, vi g.A, vi g.B]) (v := vi g.B) k_sc_3 rfl rfl (hS6.cf (i := 0) rfl) rfl) ?_
    obtain ⟨r_3, hc2, hF1⟩ := bind_inv hF1
    refine sc 31 rfl rfl (Yc_func (g := 122) (vs := [vi n, vi state, vi g.B]) k_call_122 rfl (mc rfl (mc rfl (mc rfl mn))) (c_impl_flipped n state g.B _  (hS6.inn0 [] rfl) hc2)) ?_
    rintro _ w_3 ⟨rfl, hd2⟩
    have hS7 := hS6.out00 hd2
    refine sQ 6 (Y_assign (v := vi r_3) rfl rfl) (rw_nil (cw_ret ?_))
    obtain rfl := some_inj hF1
    exact ret1 Tryz.results119 (v1 := vi r_3) (resAt_tmp rfl) ⟨rfl, (hS7.sN [])⟩
   ·skip
    have hF2 := cf' hF hb
    refine cw_seq (cw_region ?_)
    refine sQ 33 (Y_fieldAddr (B := aD b) (i := 0) (s := 0) k_fd_67_0_0_3 k_sz_3_1 rfl rfl) ?_
    refine sQ 34 (Y_load1 (B := aD b) (i := 0) (cs := [vi g.Kind, vi g.A, vi g.B]) (v := vi g.Kind) k_sc_3 rfl rfl (hS6.cf (i := 0) rfl) rfl) ?_
    refine sQ 35 (Y_eq (k := .i64) (a := g.Kind) (b := 11) rfl rfl rfl) ?_
    refine sQ 36 (Y_move (v := .bool (g.Kind == 11)) rfl rfl) ?_
    refine sgq 37 (B := (g.Kind == 11)) (v := vi r_1) rfl rfl (uT_ 36) (fun hg2 => (Y_move (v := vi r_1) rfl rfl)) ?_
    refine sgq 38 (B := (g.Kind == 11)) (v := vi r_2) rfl rfl (uT_ 36) (fun hg3 => (Y_move (v := vi r_2) rfl rfl)) ?_
    refine sgq 39 (B := (g.Kind == 11)) (v := .bool (r_1 != r_2)) rfl rfl (uT_ 36) (fun hg4 => (Y_ne (k := .i64) (a := r_1) (b := r_2) rfl (gv_of (v := vi r_1) hg4) (gv_of (v := vi r_2) hg4))) ?_
    refine sQ 40 (Y_and (b := (g.Kind == 11)) (z := (r_1 != r_2)) rfl rfl rfl rfl) ?_
    refine sQ 32 (Y_assign (v := .bool ((g.Kind == 11) && (r_1 != r_2))) rfl rfl) (rw_nil ?_)
    refine cw_cond (b := ((g.Kind == 11) && (r_1 != r_2))) rfl (fun hb1 => ?_) (fun hb1 => ?_)
    ·skip
     have hF3 := ct hF2 hb1
     refine cw_seq ?_
     obtain ⟨r_4, hc3, hF3⟩ := bind_inv hF3
     obtain ⟨r_5, hc4, hF3⟩ := bind_inv hF3
     refine ra_start (hS6.se [0]).fn (by kernel_rfl) ?_
     have hS10 := hS6.drew
     refine rq 0 41 (v := vi n) rfl (hS10.se [0]) (fun w' hw' => (Y_move (v := vi n) rfl rfl)) ?_
     refine rq 1 42 (v := vi n) rfl (hS10.se [0]) (fun w' hw' => (Y_move (v := vi n) rfl rfl)) ?_
     refine rq 2 43 (v := vi state) rfl (hS10.se [0]) (fun w' hw' => (Y_move (v := vi state) rfl rfl)) ?_
     refine rq 3 44 (v := pt (aD b) 1) rfl (hS10.se [0]) (fun w' hw' => (Y_fieldAddr (B := aD b) (i := 0) (s := 0) k_fd_67_1_1_3 k_sz_3_1 rfl rfl)) ?_
     refine rq 4 45 (v := vi g.A) rfl (hS10.se [0]) (fun w' hw' => (Y_load1 (B := aD b) (i := 1) (cs := [vi g.Kind, vi g.A, vi g.B]) (v := vi g.A) k_sc_3 rfl rfl (ST.cf hw' (i := 0) rfl) rfl)) ?_
     refine rq 6 47 (v := pt (aD b) 2) rfl (hS10.se [0]) (fun w' hw' => (Y_fieldAddr (B := aD b) (i := 0) (s := 0) k_fd_67_2_2_3 k_sz_3_1 rfl rfl)) ?_
     refine rq 7 48 (v := vi g.B) rfl (hS10.se [0]) (fun w' hw' => (Y_load1 (B := aD b) (i := 2) (cs := [vi g.Kind, vi g.A, vi g.B]) (v := vi g.B) k_sc_3 rfl rfl (ST.cf hw' (i := 0) rfl) rfl)) ?_
     refine rA [5] ?_
     refine ra_c 46 (i := 5) rfl rfl rfl (Yc_func (g := 122) (vs := [vi n, vi state, vi g.A]) k_call_122 rfl (mc rfl (mc rfl (mc rfl mn))) (c_impl_flipped n state g.A _  (hS10.inn0 [] rfl) hc3)) ?_ ?_
     ·rintro _ w_4 ⟨rfl, hd3⟩
      have hS11 := hS10.out00 hd3
      refine ⟨(hS11.se [0]), ?_⟩
      refine rA [8] ?_
      refine ra_c 49 (i := 8) rfl rfl rfl (Yc_func (g := 122) (vs := [vi n, vi r_4, vi g.B]) k_call_122 rfl (mc rfl (mc rfl (mc rfl mn))) (c_impl_flipped n r_4 g.B _  (hS11.inn0 [] rfl) hc4)) ?_ ?_
      ·rintro _ w_5 ⟨rfl, hd4⟩
       have hS12 := hS11.out00 hd4
       refine ⟨(hS12.se [0]), ?_⟩
       refine rq 9 6 (v := vi r_5) rfl (hS12.se [0]) (fun w' hw' => (Y_assign (v := vi r_5) rfl rfl)) ?_
       refine ra_done (by kernel_rfl) ?_
       refine cw_ret ?_
       obtain rfl := some_inj hF3
       exact ret1 Tryz.results119 (v1 := vi r_5) (resAt_tmp rfl) ⟨rfl, (hS12.sN [])⟩
      exact allR_nil
     exact allR_nil
    ·skip
     have hF4 := cf' hF2 hb1
     refine cw_skip (cw_seq (cw_region ?_))
     refine sQ 50 (Y_move (v := vi state) rfl rfl) ?_
     refine sQ 6 (Y_assign (v := vi state) rfl rfl) (rw_nil (cw_ret ?_))
     obtain rfl := some_inj hF4
     exact ret1 Tryz.results119 (v1 := vi state) (resAt_tmp rfl) ⟨rfl, (hS6.sN [])⟩
  exact allR_nil
 exact allR_nil

theorem c_impl_small (holds : Bool)  (w0 : World)  (hS : ST w0 [] w0 [] []) {r_ : Int} (hF : F_impl_small holds = some r_) :
  CV Tryz.prog 120 #[.bool holds] w0 (fun v w' => v = vi r_ ∧ ST w0 [] w' [] []) := by
 unfold F_impl_small at hF
 refine cv_of_cw 4 Tryz.func120 rfl Tryz.ntmps120 rfl ?_
 refine cw_seq (cw_region ?_)
 refine sQ 2 (Y_assign (v := vi 0) rfl rfl) (rw_nil (cw_seq (cw_seq (cw_region ?_))))
 refine sQ 3 (Y_move (v := .bool holds) rfl rfl) (rw_nil ?_)
 refine cw_cond (b := holds) rfl (fun hb => ?_) (fun hb => ?_)
 ·skip
  have hF1 := ct hF hb
  refine cw_seq (cw_region ?_)
  refine sQ 2 (Y_assign (v := vi 1) rfl rfl) (rw_nil (cw_ret ?_))
  obtain rfl := some_inj hF1
  exact ret1 Tryz.results120 (v1 := vi 1) (resAt_tmp rfl) ⟨rfl, (hS.sN [])⟩
 ·skip
  have hF2 := cf' hF hb
  refine cw_skip (cw_seq (cw_region ?_))
  refine sQ 2 (Y_assign (v := vi 0) rfl rfl) (rw_nil (cw_ret ?_))
  obtain rfl := some_inj hF2
  exact ret1 Tryz.results120 (v1 := vi 0) (resAt_tmp rfl) ⟨rfl, (hS.sN [])⟩

theorem c_impl_entry (kind : Int) (i : Int) (j : Int)  (w0 : World)  (hS : ST w0 [] w0 [] []) {r_ : TDyadic} (hF : F_impl_entry kind i j = some r_) :
  CV Tryz.prog 123 #[vi kind, vi i, vi j] w0 (fun v w' => v = (gD_ r_) ∧ ST w0 [] w' [] []) := by
 unfold F_impl_entry at hF
 refine cv_of_cw 67 Tryz.func123 rfl Tryz.ntmps123 rfl ?_
 refine cw_seq (cw_region ?_)
 refine sS 6 (Ys_alloc (T := 63) (cs := kZ_) (m := 5) hS k_zero_63 rfl rfl rfl) ?_
 rintro _ w_ ⟨b, rfl, hS1⟩
 refine rw_nil (cw_seq (cw_region ?_))
 refine sQ 9 (Y_buildS (zs := [vi 0, vi 0, vi 0, vi 0]) (vs := [(0, vi 1)]) (cs := [vi 1, vi 0, vi 0, vi 0]) k_pl_61 k_zero_61 rfl (mpc rfl mpn) rfl) ?_
 refine sQ 10 (Y_buildS (zs := kZ_) (vs := [(0, .agg #[vi 1, vi 0, vi 0, vi 0]), (1, vi 1)]) (cs := [vi 1, vi 0, vi 0, vi 0, vi 1]) k_pl_63 k_zero_63 rfl (mpc rfl (mpc rfl mpn)) rfl) ?_
 refine sS 7 (Ys_alloc (T := 63) (cs := kZ_) (m := 5) hS1 k_zero_63 rfl rfl rfl) ?_
 rintro _ w_1 ⟨b1, rfl, hS2⟩
 refine s0 (Ys_store (i := 1) (s := 5) (B := aD b1) (T' := 63) (v := .agg #[vi 1, vi 0, vi 0, vi 0, vi 1]) (vs := [vi 1, vi 0, vi 0, vi 0, vi 1]) (k := 0) (cs' := [vi 1, vi 0, vi 0, vi 0, vi 1]) hS2 k_sz_63_5 rfl rfl rfl rfl rfl rfl rfl (lB rfl) rfl rfl) ?_
 rintro _ w_2 ⟨rfl, hS3⟩
 refine rw_nil (cw_seq (cw_region ?_))
 refine sS 11 (Ys_makeMap (T := 170) hS3 rfl) ?_
 rintro _ w_3 ⟨g, rfl, hS4⟩
 have hS5 := hS4.st
 refine s0 (Ys_insert (kd := .i64) (ed := .i64) (a := 4) (b := 4) (es := #[]) hS4 k_map_170_3_3 k_int_3_i64 rfl rfl rfl rfl rfl) ?_
 rintro _ w_4 ⟨rfl, hS6⟩
 have hS7 := hS6.st
 refine s0 (Ys_insert (kd := .i64) (ed := .i64) (a := 5) (b := 2) (es := (#[].push ⟨vi 4, vi 4, 0⟩)) hS6 k_map_170_3_3 k_int_3_i64 rfl rfl rfl rfl rfl) ?_
 rintro _ w_5 ⟨rfl, hS8⟩
 have hS9 := hS8.st
 refine s0 (Ys_insert (kd := .i64) (ed := .i64) (a := 6) (b := 6) (es := ((#[].push ⟨vi 4, vi 4, 0⟩).push ⟨vi 5, vi 2, 1⟩)) hS8 k_map_170_3_3 k_int_3_i64 rfl rfl rfl rfl rfl) ?_
 rintro _ w_6 ⟨rfl, hS10⟩
 have hS11 := hS10.st
 refine s0 (Ys_insert (kd := .i64) (ed := .i64) (a := 7) (b := 1) (es := (((#[].push ⟨vi 4, vi 4, 0⟩).push ⟨vi 5, vi 2, 1⟩).push ⟨vi 6, vi 6, 2⟩)) hS10 k_map_170_3_3 k_int_3_i64 rfl rfl rfl rfl rfl) ?_
 rintro _ w_7 ⟨rfl, hS12⟩
 have hS13 := hS12.st
 refine s0 (Ys_insert (kd := .i64) (ed := .i64) (a := 8) (b := 7) (es := ((((#[].push ⟨vi 4, vi 4, 0⟩).push ⟨vi 5, vi 2, 1⟩).push ⟨vi 6, vi 6, 2⟩).push ⟨vi 7, vi 1, 3⟩)) hS12 k_map_170_3_3 k_int_3_i64 rfl rfl rfl rfl rfl) ?_
 rintro _ w_8 ⟨rfl, hS14⟩
 have hS15 := hS14.st
 refine sQ 12 (Y_move (v := .map (some g)) rfl rfl) ?_
 refine sQ 8 (Y_assign (v := .map (some g)) rfl rfl) (rw_nil (cw_seq (cw_block (cw_seq (cw_region ?_)))))
 refine sQ 14 (Y_move (v := vi kind) rfl rfl) ?_
 refine sQ 15 (Y_eq (k := .i64) (a := kind) (b := 1) rfl rfl rfl) ?_
 refine sQ 13 (Y_assign (v := .bool (kind == 1)) rfl rfl) (rw_nil ?_)
 refine cw_cond (b := (kind == 1)) rfl (fun hb => ?_) (fun hb => ?_)
 ·skip
  have hF1 := ct hF hb
  refine cw_seq ?_
  obtain ⟨z, hz, hF2⟩ := bind_inv hF1
  refine cw_mid (fun f w => ∃ (A : Int), A = z ∧ FF f [(6, pt (aD b) 0), (7, pt (aD b1) 0)] ∧ ST w0 [] w [⟨aD b, 63, kZ_, 5⟩, ⟨aD b1, 63, [vi A, vi 0, vi 0, vi 0, vi 1], 5⟩] []) ?_ ?_
  ·skip
   refine cw_seq (cw_region ?_)
   refine sQ 16 (Y_move (v := vi i) rfl rfl) ?_
   refine sQ 17 (Y_eq (k := .i64) (a := i) (b := 1) rfl rfl rfl) ?_
   refine sQ 18 (Y_move (v := .bool (i == 1)) rfl rfl) ?_
   refine sgq 19 (B := (i == 1)) (v := vi j) rfl rfl (uT_ 18) (fun hg => (Y_move (v := vi j) rfl rfl)) ?_
   refine sgq 20 (B := (i == 1)) (v := .bool (j == 1)) rfl rfl (uT_ 18) (fun hg1 => (Y_eq (k := .i64) (a := j) (b := 1) rfl (gv_of (v := vi j) hg1) rfl)) ?_
   refine sQ 21 (Y_and (b := (i == 1)) (z := (j == 1)) rfl rfl rfl rfl) (rw_nil ?_)
   refine cw_cond (b := ((i == 1) && (j == 1))) rfl (fun hb1 => ?_) (fun hb1 => ?_)
   ·skip
    have hF3 := ct hz hb1
    refine cw_region ?_
    refine sQ 22 (Y_fieldAddr (B := aD b1) (i := 0) (s := 3) k_fd_63_0_0_61 k_sz_61_4 rfl rfl) ?_
    refine sQ 23 (Y_fieldAddr (B := aD b1) (i := 0) (s := 0) k_fd_61_0_0_3 k_sz_3_1 rfl rfl) ?_
    refine s0 (Ys_store (i := 1) (s := 1) (B := aD b1) (T' := 63) (v := vi (-1)) (vs := [vi (-1)]) (k := 0) (cs' := [vi (-1), vi 0, vi 0, vi 0, vi 1]) hS15 k_sz_3_1 rfl rfl rfl rfl rfl rfl rfl (lB rfl) rfl rfl) ?_
    rintro _ w_9 ⟨rfl, hS17⟩
    refine rw_nil ?_
    exact ⟨(-1), (some_inj hF3), (FF.cons rfl (FF.cons rfl FF.nil)), (hS17.sel [0, 1] rfl rfl)⟩
   ·skip
    have hF4 := cf' hz hb1
    refine cw_skip ?_
    exact ⟨1, (some_inj hF4), (FF.cons rfl (FF.cons rfl FF.nil)), (hS15.sel [0, 1] rfl rfl)⟩
  rintro f w ⟨A, rfl, hf, hS16⟩
  refine cw_seq (cw_region ?_)
  refine sQ 24 (Y_loadA (B := aD b1) (i := 0) (cs := [vi A, vi 0, vi 0, vi 0, vi 1]) (vs := [vi A, vi 0, vi 0, vi 0, vi 1]) k_ag_63 k_sz_63_5 rfl (hf.get 7 1 rfl) (hS16.cf (i := 1) rfl) rfl rfl) ?_
  refine s0 (Ys_store (i := 0) (s := 5) (B := aD b) (T' := 63) (v := .agg #[vi A, vi 0, vi 0, vi 0, vi 1]) (vs := [vi A, vi 0, vi 0, vi 0, vi 1]) (k := 0) (cs' := [vi A, vi 0, vi 0, vi 0, vi 1]) hS16 k_sz_63_5 rfl (hf.get 6 0 rfl) rfl rfl rfl rfl rfl (lB rfl) rfl rfl) ?_
  rintro _ w_10 ⟨rfl, hS18⟩
  refine rw_nil (cw_ret ?_)
  obtain rfl := some_inj hF2
  exact ret1 Tryz.results123 (v1 := .agg #[vi A, vi 0, vi 0, vi 0, vi 1]) (resAt_cellA (B := aD b) (i := 0) (cs := [vi A, vi 0, vi 0, vi 0, vi 1]) (vs := [vi A, vi 0, vi 0, vi 0, vi 1]) (hf.get 6 0 rfl) k_ag_63 k_sz_63_5 (hS18.cf (i := 0) rfl) rfl rfl) ⟨rfl, (hS18.sN [])⟩
 ·skip
  have hF5 := cf' hF hb
  refine cw_seq (cw_region ?_)
  refine sQ 26 (Y_move (v := vi kind) rfl rfl) ?_
  refine sQ 27 (Y_eq (k := .i64) (a := kind) (b := 2) rfl rfl rfl) ?_
  refine sQ 28 (Y_move (v := .bool (kind == 2)) rfl rfl) ?_
  refine sgq 29 (B := (kind == 2)) (v := vi i) rfl rfl (uT_ 28) (fun hg2 => (Y_move (v := vi i) rfl rfl)) ?_
  refine sgq 30 (B := (kind == 2)) (v := vi j) rfl rfl (uT_ 28) (fun hg3 => (Y_move (v := vi j) rfl rfl)) ?_
  refine sgq 31 (B := (kind == 2)) (v := .bool (i != j)) rfl rfl (uT_ 28) (fun hg4 => (Y_ne (k := .i64) (a := i) (b := j) rfl (gv_of (v := vi i) hg4) (gv_of (v := vi j) hg4))) ?_
  refine sQ 32 (Y_and (b := (kind == 2)) (z := (i != j)) rfl rfl rfl rfl) ?_
  refine sQ 25 (Y_assign (v := .bool ((kind == 2) && (i != j))) rfl rfl) (rw_nil ?_)
  refine cw_cond (b := ((kind == 2) && (i != j))) rfl (fun hb2 => ?_) (fun hb2 => ?_)
  ·skip
   have hF6 := ct hF5 hb2
   refine cw_seq (cw_region ?_)
   obtain ⟨r_1, hc, hF6⟩ := bind_inv hF6
   refine sc 33 rfl rfl (Yc_func (g := 78) (vs := [vi 1]) k_call_78 rfl (mc rfl mn) (c_impl_whole 1 _  (hS15.inn0 [] rfl) hc)) ?_
   rintro _ w_11 ⟨rfl, hd⟩
   have hS19 := hS15.out00 hd
   refine s0 (Ys_store (i := 0) (s := 5) (B := aD b) (T' := 63) (v := gD_ r_1) (vs := kD_ r_1) (k := 0) (cs' := kD_ r_1) hS19 k_sz_63_5 rfl rfl rfl rfl rfl rfl rfl (lB rfl) rfl rfl) ?_
   rintro _ w_12 ⟨rfl, hS20⟩
   refine rw_nil (cw_ret ?_)
   obtain rfl := some_inj hF6
   exact ret1 Tryz.results123 (v1 := gD_ r_1) (resAt_cellA (B := aD b) (i := 0) (cs := kD_ r_1) (vs := kD_ r_1) rfl k_ag_63 k_sz_63_5 (hS20.cf (i := 0) rfl) rfl rfl) ⟨rfl, (hS20.sN [])⟩
  ·skip
   have hF7 := cf' hF5 hb2
   refine cw_seq (cw_region ?_)
   refine sQ 35 (Y_move (v := vi kind) rfl rfl) ?_
   refine sQ 36 (Y_eq (k := .i64) (a := kind) (b := 3) rfl rfl rfl) ?_
   refine sQ 37 (Y_move (v := .bool (kind == 3)) rfl rfl) ?_
   refine sgq 38 (B := (kind == 3)) (v := vi i) rfl rfl (uT_ 37) (fun hg5 => (Y_move (v := vi i) rfl rfl)) ?_
   refine sgq 39 (B := (kind == 3)) (v := vi j) rfl rfl (uT_ 37) (fun hg6 => (Y_move (v := vi j) rfl rfl)) ?_
   refine sgq 40 (B := (kind == 3)) (v := .bool (i != j)) rfl rfl (uT_ 37) (fun hg7 => (Y_ne (k := .i64) (a := i) (b := j) rfl (gv_of (v := vi i) hg7) (gv_of (v := vi j) hg7))) ?_
   refine sQ 41 (Y_and (b := (kind == 3)) (z := (i != j)) rfl rfl rfl rfl) ?_
   refine sQ 34 (Y_assign (v := .bool ((kind == 3) && (i != j))) rfl rfl) (rw_nil ?_)
   refine cw_cond (b := ((kind == 3) && (i != j))) rfl (fun hb3 => ?_) (fun hb3 => ?_)
   ·skip
    have hF8 := ct hF7 hb3
    refine cw_seq (cw_region ?_)
    refine sQ 42 (Y_move (v := vi j) rfl rfl) ?_
    refine sQ 43 (Y_mul (k := .i64) (a := 4) (b := j) rfl rfl rfl) ?_
    refine sQ 44 (Y_add (k := .i64) (a := 2) (b := (i64.wrap (4 * j))) rfl rfl rfl) ?_
    obtain ⟨r_2, hc1, hF8⟩ := bind_inv hF8
    refine sc 45 rfl rfl (Yc_func (g := 68) (vs := [vi (i64.wrap (2 + (i64.wrap (4 * j))))]) k_call_68 rfl (mc rfl mn) (c_impl_phase (i64.wrap (2 + (i64.wrap (4 * j)))) _  (hS15.inn0 [] rfl) hc1)) ?_
    rintro _ w_13 ⟨rfl, hd1⟩
    have hS21 := hS15.out00 hd1
    refine s0 (Ys_store (i := 0) (s := 5) (B := aD b) (T' := 63) (v := gD_ r_2) (vs := kD_ r_2) (k := 0) (cs' := kD_ r_2) hS21 k_sz_63_5 rfl rfl rfl rfl rfl rfl rfl (lB rfl) rfl rfl) ?_
    rintro _ w_14 ⟨rfl, hS22⟩
    refine rw_nil (cw_ret ?_)
    obtain rfl := some_inj hF8
    exact ret1 Tryz.results123 (v1 := gD_ r_2) (resAt_cellA (B := aD b) (i := 0) (cs := kD_ r_2) (vs := kD_ r_2) rfl k_ag_63 k_sz_63_5 (hS22.cf (i := 0) rfl) rfl rfl) ⟨rfl, (hS22.sN [])⟩
   ·skip
    have hF9 := cf' hF7 hb3
    refine cw_seq (cw_region ?_)
    refine sQ 47 (Y_move (v := vi kind) rfl rfl) ?_
    refine sQ 48 (Y_eq (k := .i64) (a := kind) (b := 2) rfl rfl rfl) ?_
    refine sQ 49 (Y_move (v := .bool (kind == 2)) rfl rfl) ?_
    refine sgq 50 (B := (!(kind == 2))) (v := vi kind) rfl rfl (uF_ 49) (fun hg8 => (Y_move (v := vi kind) rfl rfl)) ?_
    refine sgq 51 (B := (!(kind == 2))) (v := .bool (kind == 3)) rfl rfl (uF_ 49) (fun hg9 => (Y_eq (k := .i64) (a := kind) (b := 3) rfl (gv_of (v := vi kind) hg9) rfl)) ?_
    refine sQ 52 (Y_or (b := (kind == 2)) (z := (kind == 3)) rfl rfl rfl rfl) ?_
    refine sQ 53 (Y_move (v := .bool ((kind == 2) || (kind == 3))) rfl rfl) ?_
    refine sgq 54 (B := (!((kind == 2) || (kind == 3)))) (v := vi i) rfl rfl (uF_ 53) (fun hg10 => (Y_move (v := vi i) rfl rfl)) ?_
    refine sgq 55 (B := (!((kind == 2) || (kind == 3)))) (v := vi j) rfl rfl (uF_ 53) (fun hg11 => (Y_move (v := vi j) rfl rfl)) ?_
    refine sgq 56 (B := (!((kind == 2) || (kind == 3)))) (v := .bool (i != j)) rfl rfl (uF_ 53) (fun hg12 => (Y_ne (k := .i64) (a := i) (b := j) rfl (gv_of (v := vi i) hg12) (gv_of (v := vi j) hg12))) ?_
    refine sQ 57 (Y_or (b := ((kind == 2) || (kind == 3))) (z := (i != j)) rfl rfl rfl rfl) ?_
    refine sQ 46 (Y_assign (v := .bool (((kind == 2) || (kind == 3)) || (i != j))) rfl rfl) (rw_nil ?_)
    refine cw_cond (b := (((kind == 2) || (kind == 3)) || (i != j))) rfl (fun hb4 => ?_) (fun hb4 => ?_)
    ·skip
     have hF10 := ct hF9 hb4
     refine cw_seq (cw_region ?_)
     refine sQ 58 (Y_buildS (zs := kZ_) (vs := []) (cs := kZ_) k_pl_63 k_zero_63 rfl mpn rfl) ?_
     refine s0 (Ys_store (i := 0) (s := 5) (B := aD b) (T' := 63) (v := gZ_) (vs := kZ_) (k := 0) (cs' := kZ_) hS15 k_sz_63_5 rfl rfl rfl rfl rfl rfl rfl (lB rfl) rfl rfl) ?_
     rintro _ w_15 ⟨rfl, hS23⟩
     refine rw_nil (cw_ret ?_)
     obtain rfl := some_inj hF10
     exact ret1 Tryz.results123 (v1 := gZ_) (resAt_cellA (B := aD b) (i := 0) (cs := kZ_) (vs := kZ_) rfl k_ag_63 k_sz_63_5 (hS23.cf (i := 0) rfl) rfl rfl) ⟨rfl, (hS23.sN [])⟩
    ·skip
     have hF11 := cf' hF9 hb4
     refine cw_seq (cw_region ?_)
     refine sQ 60 (Y_move (v := vi i) rfl rfl) ?_
     refine sQ 61 (Y_eq (k := .i64) (a := i) (b := 0) rfl rfl rfl) ?_
     refine sQ 59 (Y_assign (v := .bool (i == 0)) rfl rfl) (rw_nil ?_)
     refine cw_cond (b := (i == 0)) rfl (fun hb5 => ?_) (fun hb5 => ?_)
     ·skip
      have hF12 := ct hF11 hb5
      refine cw_seq (cw_region ?_)
      obtain ⟨r_3, hc2, hF12⟩ := bind_inv hF12
      refine sc 62 rfl rfl (Yc_func (g := 78) (vs := [vi 1]) k_call_78 rfl (mc rfl mn) (c_impl_whole 1 _  (hS15.inn0 [] rfl) hc2)) ?_
      rintro _ w_16 ⟨rfl, hd2⟩
      have hS24 := hS15.out00 hd2
      refine s0 (Ys_store (i := 0) (s := 5) (B := aD b) (T' := 63) (v := gD_ r_3) (vs := kD_ r_3) (k := 0) (cs' := kD_ r_3) hS24 k_sz_63_5 rfl rfl rfl rfl rfl rfl rfl (lB rfl) rfl rfl) ?_
      rintro _ w_17 ⟨rfl, hS25⟩
      refine rw_nil (cw_ret ?_)
      obtain rfl := some_inj hF12
      exact ret1 Tryz.results123 (v1 := gD_ r_3) (resAt_cellA (B := aD b) (i := 0) (cs := kD_ r_3) (vs := kD_ r_3) rfl k_ag_63 k_sz_63_5 (hS25.cf (i := 0) rfl) rfl rfl) ⟨rfl, (hS25.sN [])⟩
     ·skip
      have hF13 := cf' hF11 hb5
      refine cw_skip (cw_seq (cw_region ?_))
      refine sQ 63 (Y_move (v := .map (some g)) rfl rfl) ?_
      refine sQ 64 (Y_move (v := vi kind) rfl rfl) ?_
      refine sQ 65 (Y_lookup (kd := .i64) (ed := .i64) (k := kind) (l := [(4, 4), (5, 2), (6, 6), (7, 1), (8, 7)]) hS14.here rfl k_map_170_3_3 k_int_3_i64 k_zero_3 rfl rfl rfl) ?_
      obtain ⟨r_4, hc3, hF13⟩ := bind_inv hF13
      refine sc 66 rfl rfl (Yc_func (g := 68) (vs := [vi (mget [(4, 4), (5, 2), (6, 6), (7, 1), (8, 7)] kind)]) k_call_68 rfl (mc rfl mn) (c_impl_phase (mget [(4, 4), (5, 2), (6, 6), (7, 1), (8, 7)] kind) _  (hS15.inn0 [] rfl) hc3)) ?_
      rintro _ w_18 ⟨rfl, hd3⟩
      have hS26 := hS15.out00 hd3
      refine s0 (Ys_store (i := 0) (s := 5) (B := aD b) (T' := 63) (v := gD_ r_4) (vs := kD_ r_4) (k := 0) (cs' := kD_ r_4) hS26 k_sz_63_5 rfl rfl rfl rfl rfl rfl rfl (lB rfl) rfl rfl) ?_
      rintro _ w_19 ⟨rfl, hS27⟩
      refine rw_nil (cw_ret ?_)
      obtain rfl := some_inj hF13
      exact ret1 Tryz.results123 (v1 := gD_ r_4) (resAt_cellA (B := aD b) (i := 0) (cs := kD_ r_4) (vs := kD_ r_4) rfl k_ag_63 k_sz_63_5 (hS27.cf (i := 0) rfl) rfl rfl) ⟨rfl, (hS27.sN [])⟩

theorem c_impl_GateMatrix_1 (i : Int) (j : Int) (p : TGate) (p1 : Int) (B : Option Addr) (B1 : Option Addr) (w0 : World)  (hS : ST w0 [] w0 [] [⟨B, [vi p.Kind, vi p.A, vi p.B]⟩, ⟨B1, [vi p1]⟩]) {r_ : TDyadic} {r_1 : Bool} (hF : F_impl_GateMatrix_1 i j p p1 = some (r_, r_1)) :
  CV Tryz.prog 118 #[vi i, vi j, pt B 0, pt B1 0] w0 (fun v w' => v = .tuple #[gD_ r_, .bool r_1] ∧ ST w0 [] w' [] []) := by
 unfold F_impl_GateMatrix_1 at hF
 refine cv_of_cw 75 Tryz.func118 rfl Tryz.ntmps118 rfl ?_
 refine cw_seq (cw_region ?_)
 refine sS 6 (Ys_alloc (T := 63) (cs := kZ_) (m := 5) hS k_zero_63 rfl rfl rfl) ?_
 rintro _ w_ ⟨b, rfl, hS1⟩
 refine sQ 7 (Y_assign (v := .bool false) rfl rfl) (rw_nil (cw_seq ?_))
 obtain ⟨z, hz, hF1⟩ := bind_inv hF
 refine cw_mid (fun f w => .inl () = z ∧ FF f [(6, pt (aD b) 0)] ∧ ST w0 [] w [⟨aD b, 63, kZ_, 5⟩] [⟨B, [vi p.Kind, vi p.A, vi p.B]⟩, ⟨B1, [vi p1]⟩]) ?_ ?_
 ·skip
  refine cw_block (cw_seq (cw_region ?_))
  refine sQ 9 (Y_fieldAddr (B := B) (i := 0) (s := 0) k_fd_67_0_0_3 k_sz_3_1 rfl rfl) ?_
  refine sQ 10 (Y_load1 (B := B) (i := 0) (cs := [vi p.Kind, vi p.A, vi p.B]) (v := vi p.Kind) k_sc_3 rfl rfl (hS1.rf (i := 0) rfl) rfl) ?_
  refine sQ 11 (Y_eq (k := .i64) (a := p.Kind) (b := 12) rfl rfl rfl) ?_
  refine sQ 8 (Y_assign (v := .bool (p.Kind == 12)) rfl rfl) (rw_nil ?_)
  refine cw_cond (b := (p.Kind == 12)) rfl (fun hb => ?_) (fun hb => ?_)
  ·skip
   have hF2 := ct hz hb
   refine cw_seq (cw_region ?_)
   refine sQ 12 (Y_move (v := vi i) rfl rfl) ?_
   refine sQ 13 (Y_move (v := vi j) rfl rfl) ?_
   refine sQ 14 (Y_eq (k := .i64) (a := i) (b := j) rfl rfl rfl) (rw_nil ?_)
   refine cw_cond (b := (i == j)) rfl (fun hb1 => ?_) (fun hb1 => ?_)
   ·skip
    have hF3 := ct hF2 hb1
    refine cw_seq (cw_region ?_)
    obtain ⟨r_2, hc, hF3⟩ := bind_inv hF3
    refine sc 15 rfl rfl (Yc_func (g := 68) (vs := [vi 1]) k_call_68 rfl (mc rfl mn) (c_impl_phase 1 _  (hS1.inn0 [] rfl) hc)) ?_
    rintro _ w_1 ⟨rfl, hd⟩
    have hS3 := hS1.out00 hd
    refine s0 (Ys_store (i := 0) (s := 5) (B := aD b) (T' := 63) (v := gD_ r_2) (vs := kD_ r_2) (k := 0) (cs' := kD_ r_2) hS3 k_sz_63_5 rfl rfl rfl rfl rfl rfl rfl (lB rfl) rfl rfl) ?_
    rintro _ w_2 ⟨rfl, hS4⟩
    refine sQ 7 (Y_assign (v := .bool true) rfl rfl) (rw_nil (cw_ret ?_))
    obtain rfl := some_inj hF3
    obtain ⟨rfl, rfl⟩ := pr2 (some_inj hF1)
    exact ret2 Tryz.results118 (v1 := gD_ r_2) (resAt_cellA (B := aD b) (i := 0) (cs := kD_ r_2) (vs := kD_ r_2) rfl k_ag_63 k_sz_63_5 (hS4.cf (i := 0) rfl) rfl rfl) (v2 := .bool true) (resAt_tmp rfl) ⟨rfl, (hS4.sN [])⟩
   ·skip
    have hF4 := cf' hF2 hb1
    refine cw_skip ?_
    exact ⟨(some_inj hF4), (FF.cons rfl FF.nil), (hS1.sel [0] rfl rfl)⟩
  ·skip
   have hF5 := cf' hz hb
   refine cw_seq (cw_region ?_)
   refine sQ 17 (Y_fieldAddr (B := B) (i := 0) (s := 0) k_fd_67_0_0_3 k_sz_3_1 rfl rfl) ?_
   refine sQ 18 (Y_load1 (B := B) (i := 0) (cs := [vi p.Kind, vi p.A, vi p.B]) (v := vi p.Kind) k_sc_3 rfl rfl (hS1.rf (i := 0) rfl) rfl) ?_
   obtain ⟨r_3, hc1, hF5⟩ := bind_inv hF5
   refine sc 19 rfl rfl (Yc_func (g := 111) (vs := [vi p.Kind]) k_call_111 rfl (mc rfl mn) (c_impl_isTwo p.Kind _  (hS1.inn0 [] rfl) hc1)) ?_
   rintro _ w_3 ⟨rfl, hd1⟩
   have hS5 := hS1.out00 hd1
   refine sQ 16 (Y_assign (v := .bool r_3) rfl rfl) (rw_nil ?_)
   refine cw_cond (b := r_3) rfl (fun hb2 => ?_) (fun hb2 => ?_)
   ·skip
    have hF6 := ct hF5 hb2
    refine cw_seq (cw_region ?_)
    refine sQ 20 (Y_load1 (B := B1) (i := 0) (cs := [vi p1]) (v := vi p1) k_sc_3 rfl rfl (hS5.rf (i := 1) rfl) rfl) ?_
    refine sQ 21 (Y_loadA (B := B) (i := 0) (cs := [vi p.Kind, vi p.A, vi p.B]) (vs := [vi p.Kind, vi p.A, vi p.B]) k_ag_67 k_sz_67_3 rfl rfl (hS5.rf (i := 0) rfl) rfl rfl) ?_
    refine sQ 22 (Y_move (v := vi i) rfl rfl) ?_
    obtain ⟨r_4, hc2, hF6⟩ := bind_inv hF6
    refine sc 23 rfl rfl (Yc_func (g := 119) (vs := [vi p1, .agg #[vi p.Kind, vi p.A, vi p.B], vi i]) k_call_119 rfl (mc rfl (mc rfl (mc rfl mn))) (c_impl_comesFrom p1 p i _  (hS5.inn0 [] rfl) hc2)) ?_
    rintro _ w_4 ⟨rfl, hd2⟩
    have hS6 := hS5.out00 hd2
    refine sQ 24 (Y_move (v := vi j) rfl rfl) ?_
    refine sQ 25 (Y_eq (k := .i64) (a := r_4) (b := j) rfl rfl rfl) (rw_nil ?_)
    refine cw_cond (b := (r_4 == j)) rfl (fun hb3 => ?_) (fun hb3 => ?_)
    ·skip
     have hF7 := ct hF6 hb3
     refine cw_seq (cw_region ?_)
     refine sQ 26 (Y_fieldAddr (B := B) (i := 0) (s := 0) k_fd_67_0_0_3 k_sz_3_1 rfl rfl) ?_
     refine sQ 27 (Y_load1 (B := B) (i := 0) (cs := [vi p.Kind, vi p.A, vi p.B]) (v := vi p.Kind) k_sc_3 rfl rfl (hS6.rf (i := 0) rfl) rfl) ?_
     refine sQ 28 (Y_eq (k := .i64) (a := p.Kind) (b := 10) rfl rfl rfl) ?_
     refine sQ 29 (Y_move (v := .bool (p.Kind == 10)) rfl rfl) ?_
     refine sgq 30 (B := (p.Kind == 10)) (v := vi p1) rfl rfl (uT_ 29) (fun hg => (Y_load1 (B := B1) (i := 0) (cs := [vi p1]) (v := vi p1) k_sc_3 rfl rfl (hS6.rf (i := 1) rfl) rfl)) ?_
     refine sgq 31 (B := (p.Kind == 10)) (v := vi i) rfl rfl (uT_ 29) (fun hg1 => (Y_move (v := vi i) rfl rfl)) ?_
     refine sgq 32 (B := (p.Kind == 10)) (v := pt B 1) rfl rfl (uT_ 29) (fun hg2 => (Y_fieldAddr (B := B) (i := 0) (s := 0) k_fd_67_1_1_3 k_sz_3_1 rfl rfl)) ?_
     refine sgq 33 (B := (p.Kind == 10)) (v := vi p.A) rfl rfl (uT_ 29) (fun hg3 => (Y_load1 (B := B) (i := 1) (cs := [vi p.Kind, vi p.A, vi p.B]) (v := vi p.A) k_sc_3 rfl (gv_of (v := pt B 1) hg3) (hS6.rf (i := 0) rfl) rfl)) ?_
     obtain ⟨r_5, hc3, hF7⟩ := bind_inv hF7
     refine sgc 34 (B := (p.Kind == 10)) (v := vi r_5) (F := hS6.fn) rfl rfl (uT_ 29) hS6 (fun hg4 => (Yc_func (g := 121) (vs := [vi p1, vi i, vi p.A]) k_call_121 rfl (mc (gv_of (v := vi p1) hg4) (mc (gv_of (v := vi i) hg4) (mc (gv_of (v := vi p.A) hg4) mn))) (CV.mono (c_impl_bitOf p1 i p.A _  (hS6.inn0 [] rfl) (gb_inv hc3 hg4)) (by rintro _ _ ⟨rfl, h⟩; exact ⟨rfl, hS6.out00 h⟩)))) ?_
     rintro w_5 hS7
     refine sgq 35 (B := (p.Kind == 10)) (v := .bool (r_5 == 1)) rfl rfl (uT_ 29) (fun hg5 => (Y_eq (k := .i64) (a := r_5) (b := 1) rfl (gv_of (v := vi r_5) hg5) rfl)) ?_
     refine sQ 36 (Y_and (b := (p.Kind == 10)) (z := (r_5 == 1)) rfl rfl rfl rfl) ?_
     refine sQ 37 (Y_move (v := .bool ((p.Kind == 10) && (r_5 == 1))) rfl rfl) ?_
     refine sgq 38 (B := ((p.Kind == 10) && (r_5 == 1))) (v := vi p1) rfl rfl (uT_ 37) (fun hg6 => (Y_load1 (B := B1) (i := 0) (cs := [vi p1]) (v := vi p1) k_sc_3 rfl rfl (hS7.rf (i := 1) rfl) rfl)) ?_
     refine sgq 39 (B := ((p.Kind == 10) && (r_5 == 1))) (v := vi i) rfl rfl (uT_ 37) (fun hg7 => (Y_move (v := vi i) rfl rfl)) ?_
     refine sgq 40 (B := ((p.Kind == 10) && (r_5 == 1))) (v := pt B 2) rfl rfl (uT_ 37) (fun hg8 => (Y_fieldAddr (B := B) (i := 0) (s := 0) k_fd_67_2_2_3 k_sz_3_1 rfl rfl)) ?_
     refine sgq 41 (B := ((p.Kind == 10) && (r_5 == 1))) (v := vi p.B) rfl rfl (uT_ 37) (fun hg9 => (Y_load1 (B := B) (i := 2) (cs := [vi p.Kind, vi p.A, vi p.B]) (v := vi p.B) k_sc_3 rfl (gv_of (v := pt B 2) hg9) (hS7.rf (i := 0) rfl) rfl)) ?_
     obtain ⟨r_6, hc4, hF7⟩ := bind_inv hF7
     refine sgc 42 (B := ((p.Kind == 10) && (r_5 == 1))) (v := vi r_6) (F := hS7.fn) rfl rfl (uT_ 37) hS7 (fun hg10 => (Yc_func (g := 121) (vs := [vi p1, vi i, vi p.B]) k_call_121 rfl (mc (gv_of (v := vi p1) hg10) (mc (gv_of (v := vi i) hg10) (mc (gv_of (v := vi p.B) hg10) mn))) (CV.mono (c_impl_bitOf p1 i p.B _  (hS7.inn0 [] rfl) (gb_inv hc4 hg10)) (by rintro _ _ ⟨rfl, h⟩; exact ⟨rfl, hS7.out00 h⟩)))) ?_
     rintro w_6 hS8
     refine sgq 43 (B := ((p.Kind == 10) && (r_5 == 1))) (v := .bool (r_6 == 1)) rfl rfl (uT_ 37) (fun hg11 => (Y_eq (k := .i64) (a := r_6) (b := 1) rfl (gv_of (v := vi r_6) hg11) rfl)) ?_
     refine sQ 44 (Y_and (b := ((p.Kind == 10) && (r_5 == 1))) (z := (r_6 == 1)) rfl rfl rfl rfl) ?_
     obtain ⟨r_7, hc5, hF7⟩ := bind_inv hF7
     refine sc 45 rfl rfl (Yc_func (g := 120) (vs := [.bool (((p.Kind == 10) && (r_5 == 1)) && (r_6 == 1))]) k_call_120 rfl (mc rfl mn) (c_impl_small (((p.Kind == 10) && (r_5 == 1)) && (r_6 == 1)) _  (hS8.inn0 [] rfl) hc5)) ?_
     rintro _ w_7 ⟨rfl, hd3⟩
     have hS9 := hS8.out00 hd3
     refine sQ 46 (Y_mul (k := .i64) (a := 4) (b := r_7) rfl rfl rfl) ?_
     obtain ⟨r_8, hc6, hF7⟩ := bind_inv hF7
     refine sc 47 rfl rfl (Yc_func (g := 68) (vs := [vi (i64.wrap (4 * r_7))]) k_call_68 rfl (mc rfl mn) (c_impl_phase (i64.wrap (4 * r_7)) _  (hS9.inn0 [] rfl) hc6)) ?_
     rintro _ w_8 ⟨rfl, hd4⟩
     have hS10 := hS9.out00 hd4
     refine s0 (Ys_store (i := 0) (s := 5) (B := aD b) (T' := 63) (v := gD_ r_8) (vs := kD_ r_8) (k := 0) (cs' := kD_ r_8) hS10 k_sz_63_5 rfl rfl rfl rfl rfl rfl rfl (lB rfl) rfl rfl) ?_
     rintro _ w_9 ⟨rfl, hS11⟩
     refine sQ 7 (Y_assign (v := .bool true) rfl rfl) (rw_nil (cw_ret ?_))
     obtain rfl := some_inj hF7
     obtain ⟨rfl, rfl⟩ := pr2 (some_inj hF1)
     exact ret2 Tryz.results118 (v1 := gD_ r_8) (resAt_cellA (B := aD b) (i := 0) (cs := kD_ r_8) (vs := kD_ r_8) rfl k_ag_63 k_sz_63_5 (hS11.cf (i := 0) rfl) rfl rfl) (v2 := .bool true) (resAt_tmp rfl) ⟨rfl, (hS11.sN [])⟩
    ·skip
     have hF8 := cf' hF6 hb3
     refine cw_skip ?_
     exact ⟨(some_inj hF8), (FF.cons rfl FF.nil), (hS6.sel [0] rfl rfl)⟩
   ·skip
    have hF9 := cf' hF5 hb2
    refine cw_seq (cw_region ?_)
    refine sQ 49 (Y_move (v := vi i) rfl rfl) ?_
    refine sQ 50 (Y_move (v := vi j) rfl rfl) ?_
    refine sQ 51 (Y_eq (k := .i64) (a := i) (b := j) rfl rfl rfl) ?_
    refine sQ 52 (Y_move (v := .bool (i == j)) rfl rfl) ?_
    refine sgq 53 (B := (!(i == j))) (v := vi p1) rfl rfl (uF_ 52) (fun hg12 => (Y_load1 (B := B1) (i := 0) (cs := [vi p1]) (v := vi p1) k_sc_3 rfl rfl (hS5.rf (i := 1) rfl) rfl)) ?_
    refine sgq 54 (B := (!(i == j))) (v := vi i) rfl rfl (uF_ 52) (fun hg13 => (Y_move (v := vi i) rfl rfl)) ?_
    refine sgq 55 (B := (!(i == j))) (v := pt B 1) rfl rfl (uF_ 52) (fun hg14 => (Y_fieldAddr (B := B) (i := 0) (s := 0) k_fd_67_1_1_3 k_sz_3_1 rfl rfl)) ?_
    refine sgq 56 (B := (!(i == j))) (v := vi p.A) rfl rfl (uF_ 52) (fun hg15 => (Y_load1 (B := B) (i := 1) (cs := [vi p.Kind, vi p.A, vi p.B]) (v := vi p.A) k_sc_3 rfl (gv_of (v := pt B 1) hg15) (hS5.rf (i := 0) rfl) rfl)) ?_
    obtain ⟨r_9, hc7, hF9⟩ := bind_inv hF9
    refine sgc 57 (B := (!(i == j))) (v := vi r_9) (F := hS5.fn) rfl rfl (uF_ 52) hS5 (fun hg16 => (Yc_func (g := 122) (vs := [vi p1, vi i, vi p.A]) k_call_122 rfl (mc (gv_of (v := vi p1) hg16) (mc (gv_of (v := vi i) hg16) (mc (gv_of (v := vi p.A) hg16) mn))) (CV.mono (c_impl_flipped p1 i p.A _  (hS5.inn0 [] rfl) (gb_inv hc7 hg16)) (by rintro _ _ ⟨rfl, h⟩; exact ⟨rfl, hS5.out00 h⟩)))) ?_
    rintro w_10 hS12
    refine sgq 58 (B := (!(i == j))) (v := vi j) rfl rfl (uF_ 52) (fun hg17 => (Y_move (v := vi j) rfl rfl)) ?_
    refine sgq 59 (B := (!(i == j))) (v := .bool (r_9 == j)) rfl rfl (uF_ 52) (fun hg18 => (Y_eq (k := .i64) (a := r_9) (b := j) rfl (gv_of (v := vi r_9) hg18) (gv_of (v := vi j) hg18))) ?_
    refine sQ 60 (Y_or (b := (i == j)) (z := (r_9 == j)) rfl rfl rfl rfl) ?_
    refine sQ 48 (Y_assign (v := .bool ((i == j) || (r_9 == j))) rfl rfl) (rw_nil ?_)
    refine cw_cond (b := ((i == j) || (r_9 == j))) rfl (fun hb4 => ?_) (fun hb4 => ?_)
    ·skip
     have hF10 := ct hF9 hb4
     refine cw_seq ?_
     obtain ⟨r_10, hc8, hF10⟩ := bind_inv hF10
     obtain ⟨r_11, hc9, hF10⟩ := bind_inv hF10
     obtain ⟨r_12, hc10, hF10⟩ := bind_inv hF10
     refine ra_start (hS12.se []).fn (by kernel_rfl) ?_
     have hS16 := hS12.drew
     refine rq 0 61 (v := pt B 0) rfl (hS16.se []) (fun w' hw' => (Y_fieldAddr (B := B) (i := 0) (s := 0) k_fd_67_0_0_3 k_sz_3_1 rfl rfl)) ?_
     refine rq 1 62 (v := vi p.Kind) rfl (hS16.se []) (fun w' hw' => (Y_load1 (B := B) (i := 0) (cs := [vi p.Kind, vi p.A, vi p.B]) (v := vi p.Kind) k_sc_3 rfl rfl (ST.rf hw' (i := 0) rfl) rfl)) ?_
     refine rq 2 63 (v := vi p1) rfl (hS16.se []) (fun w' hw' => (Y_load1 (B := B1) (i := 0) (cs := [vi p1]) (v := vi p1) k_sc_3 rfl rfl (ST.rf hw' (i := 1) rfl) rfl)) ?_
     refine rq 3 64 (v := vi i) rfl (hS16.se []) (fun w' hw' => (Y_move (v := vi i) rfl rfl)) ?_
     refine rq 4 65 (v := pt B 1) rfl (hS16.se []) (fun w' hw' => (Y_fieldAddr (B := B) (i := 0) (s := 0) k_fd_67_1_1_3 k_sz_3_1 rfl rfl)) ?_
     refine rq 5 66 (v := vi p.A) rfl (hS16.se []) (fun w' hw' => (Y_load1 (B := B) (i := 1) (cs := [vi p.Kind, vi p.A, vi p.B]) (v := vi p.A) k_sc_3 rfl rfl (ST.rf hw' (i := 0) rfl) rfl)) ?_
     refine rq 7 68 (v := vi p1) rfl (hS16.se []) (fun w' hw' => (Y_load1 (B := B1) (i := 0) (cs := [vi p1]) (v := vi p1) k_sc_3 rfl rfl (ST.rf hw' (i := 1) rfl) rfl)) ?_
     refine rq 8 69 (v := vi j) rfl (hS16.se []) (fun w' hw' => (Y_move (v := vi j) rfl rfl)) ?_
     refine rq 9 70 (v := pt B 1) rfl (hS16.se []) (fun w' hw' => (Y_fieldAddr (B := B) (i := 0) (s := 0) k_fd_67_1_1_3 k_sz_3_1 rfl rfl)) ?_
     refine rq 10 71 (v := vi p.A) rfl (hS16.se []) (fun w' hw' => (Y_load1 (B := B) (i := 1) (cs := [vi p.Kind, vi p.A, vi p.B]) (v := vi p.A) k_sc_3 rfl rfl (ST.rf hw' (i := 0) rfl) rfl)) ?_
     refine rA [6] ?_
     refine ra_c 67 (i := 6) rfl rfl rfl (Yc_func (g := 121) (vs := [vi p1, vi i, vi p.A]) k_call_121 rfl (mc rfl (mc rfl (mc rfl mn))) (c_impl_bitOf p1 i p.A _  (hS16.inn0 [] rfl) hc8)) ?_ ?_
     ·rintro _ w_11 ⟨rfl, hd5⟩
      have hS17 := hS16.out00 hd5
      refine ⟨(hS17.se []), ?_⟩
      refine rA [11] ?_
      refine ra_c 72 (i := 11) rfl rfl rfl (Yc_func (g := 121) (vs := [vi p1, vi j, vi p.A]) k_call_121 rfl (mc rfl (mc rfl (mc rfl mn))) (c_impl_bitOf p1 j p.A _  (hS17.inn0 [] rfl) hc9)) ?_ ?_
      ·rintro _ w_12 ⟨rfl, hd6⟩
       have hS18 := hS17.out00 hd6
       refine ⟨(hS18.se []), ?_⟩
       refine rA [12] ?_
       refine ra_c 73 (i := 12) rfl rfl rfl (Yc_func (g := 123) (vs := [vi p.Kind, vi r_10, vi r_11]) k_call_123 rfl (mc rfl (mc rfl (mc rfl mn))) (c_impl_entry p.Kind r_10 r_11 _  (hS18.inn0 [] rfl) hc10)) ?_ ?_
       ·rintro _ w_13 ⟨rfl, hd7⟩
        have hS19 := hS18.out00 hd7
        refine ⟨(hS19.se []), ?_⟩
        refine rA [13] ?_
        refine ra_s0 (i := 13) rfl rfl rfl (Ys_store (i := 0) (s := 5) (B := aD b) (T' := 63) (v := gD_ r_12) (vs := kD_ r_12) (k := 0) (cs' := kD_ r_12) hS19 k_sz_63_5 rfl rfl rfl rfl rfl rfl rfl (lB rfl) rfl rfl) ?_ ?_
        ·rintro _ w_14 ⟨rfl, hS20⟩
         refine ⟨(hS20.se []), ?_⟩
         refine rq 14 7 (v := .bool true) rfl (hS20.se []) (fun w' hw' => (Y_assign (v := .bool true) rfl rfl)) ?_
         refine ra_done (by kernel_rfl) ?_
         refine cw_ret ?_
         obtain rfl := some_inj hF10
         obtain ⟨rfl, rfl⟩ := pr2 (some_inj hF1)
         exact ret2 Tryz.results118 (v1 := gD_ r_12) (resAt_cellA (B := aD b) (i := 0) (cs := kD_ r_12) (vs := kD_ r_12) rfl k_ag_63 k_sz_63_5 (hS20.cf (i := 0) rfl) rfl rfl) (v2 := .bool true) (resAt_tmp rfl) ⟨rfl, (hS20.sN [])⟩
        exact allR_nil
       exact allR_nil
      exact allR_nil
     exact allR_nil
    ·skip
     have hF11 := cf' hF9 hb4
     refine cw_skip ?_
     exact ⟨(some_inj hF11), (FF.cons rfl FF.nil), (hS12.sel [0] rfl rfl)⟩
 rintro f w ⟨rfl, hf, hS2⟩
 refine cw_seq (cw_region ?_)
 refine sQ 74 (Y_buildS (zs := kZ_) (vs := []) (cs := kZ_) k_pl_63 k_zero_63 rfl mpn rfl) ?_
 refine s0 (Ys_store (i := 0) (s := 5) (B := aD b) (T' := 63) (v := gZ_) (vs := kZ_) (k := 0) (cs' := kZ_) hS2 k_sz_63_5 rfl (hf.get 6 0 rfl) rfl rfl rfl rfl rfl (lB rfl) rfl rfl) ?_
 rintro _ w_15 ⟨rfl, hS21⟩
 refine sQ 7 (Y_assign (v := .bool true) rfl rfl) (rw_nil (cw_ret ?_))
 obtain ⟨rfl, rfl⟩ := pr2 (some_inj hF1)
 exact ret2 Tryz.results118 (v1 := gZ_) (resAt_cellA (B := aD b) (i := 0) (cs := kZ_) (vs := kZ_) (hf.get 6 0 rfl) k_ag_63 k_sz_63_5 (hS21.cf (i := 0) rfl) rfl rfl) (v2 := .bool true) (resAt_tmp rfl) ⟨rfl, (hS21.sN [])⟩

theorem c_impl_GateMatrix (n : Int) (g : TGate)  (w0 : World)  (hS : ST w0 [] w0 [] []) {r_ : TMatrix} {r_1 : Bool} (hF : F_impl_GateMatrix n g = some (r_, r_1)) :
  CV Tryz.prog 79 #[vi n, .agg #[vi g.Kind, vi g.A, vi g.B]] w0 (fun v w' => ∃ (B : Option Addr) (c : Nat), v = .tuple #[gM_ r_ B c, .bool r_1] ∧ ST w0 [] w' [⟨B, 63, (r_.Cells.flatMap eN0), c * 5⟩] []) := by
 unfold F_impl_GateMatrix at hF
 refine cv_of_cw 19 Tryz.func79 rfl Tryz.ntmps79 rfl ?_
 refine cw_seq (cw_region ?_)
 refine sS 2 (Ys_box (T := 3) (v := vi n) (cs := [vi n]) (m := 1) hS rfl rfl rfl rfl) ?_
 rintro _ w_ ⟨b, rfl, hS1⟩
 refine sS 3 (Ys_box (T := 67) (v := .agg #[vi g.Kind, vi g.A, vi g.B]) (cs := [vi g.Kind, vi g.A, vi g.B]) (m := 3) hS1 rfl rfl rfl rfl) ?_
 rintro _ w_1 ⟨b1, rfl, hS2⟩
 refine sS 4 (Ys_alloc (T := 30) (cs := kN_) (m := 3) hS2 k_zero_30 rfl rfl rfl) ?_
 rintro _ w_2 ⟨b2, rfl, hS3⟩
 refine sQ 5 (Y_assign (v := .bool false) rfl rfl) (rw_nil (cw_seq (cw_seq (cw_region ?_))))
 refine sQ 6 (Y_load1 (B := aD b) (i := 0) (cs := [vi n]) (v := vi n) k_sc_3 rfl rfl (hS3.cf (i := 0) rfl) rfl) ?_
 refine sQ 7 (Y_loadA (B := aD b1) (i := 0) (cs := [vi g.Kind, vi g.A, vi g.B]) (vs := [vi g.Kind, vi g.A, vi g.B]) k_ag_67 k_sz_67_3 rfl rfl (hS3.cf (i := 1) rfl) rfl rfl) ?_
 obtain ⟨r_2, hc, hF⟩ := bind_inv hF
 refine sc 8 rfl rfl (Yc_func (g := 72) (vs := [vi n, .agg #[vi g.Kind, vi g.A, vi g.B]]) k_call_72 rfl (mc rfl (mc rfl mn)) (c_impl_IsValidGate n g _  (hS3.inn0 [] rfl) hc)) ?_
 rintro _ w_3 ⟨rfl, hd⟩
 have hS4 := hS3.out00 hd
 refine sQ 9 (Y_not (p := r_2) rfl rfl) (rw_nil ?_)
 refine cw_cond (b := (!r_2)) rfl (fun hb => ?_) (fun hb => ?_)
 ·skip
  have hF1 := ct hF hb
  refine cw_seq (cw_region ?_)
  refine sQ 10 (Y_buildS (zs := kN_) (vs := []) (cs := kN_) k_pl_30 k_zero_30 rfl mpn rfl) ?_
  refine s0 (Ys_store (i := 2) (s := 3) (B := aD b2) (T' := 30) (v := gN_) (vs := kN_) (k := 0) (cs' := kN_) hS4 k_sz_30_3 rfl rfl rfl rfl rfl rfl rfl (lB rfl) rfl rfl) ?_
  rintro _ w_4 ⟨rfl, hS5⟩
  refine sQ 5 (Y_assign (v := .bool false) rfl rfl) (rw_nil (cw_ret ?_))
  have hS6 := hS5.addNil 63
  obtain ⟨rfl, rfl⟩ := pr2 (some_inj hF1)
  exact ret2 Tryz.results79 (v1 := gN_) (resAt_cellA (B := aD b2) (i := 0) (cs := kN_) (vs := kN_) rfl k_ag_30 k_sz_30_3 (hS6.cf (i := 2) rfl) rfl rfl) (v2 := .bool false) (resAt_tmp rfl) ⟨none, 0, rfl, (hS6.sN [3])⟩
 ·skip
  have hF2 := cf' hF hb
  refine cw_skip (cw_seq ?_)
  obtain ⟨hsh, hF2⟩ := chk_inv hF2
  obtain ⟨hsh1, hF2⟩ := chk_inv hF2
  obtain ⟨⟨r_3, r_4⟩, hc1, hF2⟩ := bind_inv hF2
  refine ra_start (hS4.se [0, 1]).fn (by kernel_rfl) ?_
  have hS8 := hS4.drew
  refine rq 0 11 (v := vi n) rfl (hS8.se [0, 1]) (fun w' hw' => (Y_load1 (B := aD b) (i := 0) (cs := [vi n]) (v := vi n) k_sc_3 rfl rfl (ST.cf hw' (i := 0) rfl) rfl)) ?_
  refine rq 1 12 (v := vi (shlK .i64 1 n)) rfl (hS8.se [0, 1]) (fun w' hw' => (Y_shl (k := .i64) (a := 1) (k' := .i64) (b := n) rfl rfl rfl hsh)) ?_
  refine rq 2 13 (v := vi n) rfl (hS8.se [0, 1]) (fun w' hw' => (Y_load1 (B := aD b) (i := 0) (cs := [vi n]) (v := vi n) k_sc_3 rfl rfl (ST.cf hw' (i := 0) rfl) rfl)) ?_
  refine rq 3 14 (v := vi (shlK .i64 1 n)) rfl (hS8.se [0, 1]) (fun w' hw' => (Y_shl (k := .i64) (a := 1) (k' := .i64) (b := n) rfl rfl rfl hsh1)) ?_
  refine rq 4 15 (v := .func (.func 118) #[] #[pt (aD b1) 0, pt (aD b) 0]) rfl (hS8.se [0, 1]) (fun w' hw' => (Y_makeFunc (cs := [pt (aD b1) 0, pt (aD b) 0]) rfl rfl (mc rfl (mc rfl mn)))) ?_
  refine rA [5] ?_
  refine ra_c 16 (i := 5) rfl rfl rfl (Yc_func (g := 76) (vs := [vi (shlK .i64 1 n), vi (shlK .i64 1 n), .func (.func 118) #[] #[pt (aD b1) 0, pt (aD b) 0]]) k_call_76 rfl (mc rfl (mc rfl (mc rfl mn))) (c_impl_matrixOf (shlK .i64 1 n) (shlK .i64 1 n) (fun x_0 x_1 => F_impl_GateMatrix_1 x_0 x_1 g n) 118 (#[pt (aD b1) 0, pt (aD b) 0]) [⟨aD b1, [vi g.Kind, vi g.A, vi g.B]⟩, ⟨aD b, [vi n]⟩] _ k_call_118 (fun w hw x_0 x_1 y_0 y_1 h_ => c_impl_GateMatrix_1 x_0 x_1 g n (aD b1) (aD b) w  hw h_) (hS8.inn0 [(false, 1), (false, 0)] rfl) hc1)) ?_ ?_
  ·rintro _ w_5 ⟨B1, c1, rfl, hd1⟩
   have hS9 := hS8.out0 hd1
   refine ⟨(hS9.se [0, 1]), ?_⟩
   refine rq 6 17 (v := gM_ r_3 B1 c1) rfl (hS9.se [0, 1]) (fun w' hw' => (Y_extract (v := gM_ r_3 B1 c1) rfl rfl rfl)) ?_
   refine rq 7 18 (v := .bool r_4) rfl (hS9.se [0, 1]) (fun w' hw' => (Y_extract (v := .bool r_4) rfl rfl rfl)) ?_
   refine rA [8] ?_
   refine ra_s0 (i := 8) rfl rfl rfl (Ys_store (i := 2) (s := 3) (B := aD b2) (T' := 30) (v := gM_ r_3 B1 c1) (vs := kM_ r_3 B1 c1) (k := 0) (cs' := kM_ r_3 B1 c1) hS9 k_sz_30_3 rfl rfl rfl rfl rfl rfl rfl (lB rfl) rfl rfl) ?_ ?_
   ·rintro _ w_6 ⟨rfl, hS10⟩
    refine ⟨(hS10.se [0, 1]), ?_⟩
    refine rq 9 5 (v := .bool r_4) rfl (hS10.se [0, 1]) (fun w' hw' => (Y_assign (v := .bool r_4) rfl rfl)) ?_
    refine ra_done (by kernel_rfl) ?_
    refine cw_ret ?_
    obtain ⟨rfl, rfl⟩ := pr2 (some_inj hF2)
    exact ret2 Tryz.results79 (v1 := gM_ r_3 B1 c1) (resAt_cellA (B := aD b2) (i := 0) (cs := kM_ r_3 B1 c1) (vs := kM_ r_3 B1 c1) rfl k_ag_30 k_sz_30_3 (hS10.cf (i := 2) rfl) rfl rfl) (v2 := .bool r_4) (resAt_tmp rfl) ⟨B1, c1, rfl, (hS10.sN [3])⟩
   exact allR_nil
  exact allR_nil

theorem c_slices_IndexFunc_impl_Dyadic_impl_Dyadic (s : List TDyadic) (f_ : TDyadic → Option (Bool)) (B : Option Addr) (c n : Nat) (kf : Nat) (caps : Array Value) (Rf : List Ro) (w0 : World) (hn : s.length = n) (hk : callB Tryz.prog kf = true) (hp : ∀ (w : World), ST w [] w [] Rf → ∀ (x : TDyadic) (y : Bool), f_ x = some y → CV Tryz.prog kf ((gD_ x) :: caps.toList).toArray w (fun v w' => v = .bool y ∧ ST w [] w' [] [])) (hS : ST w0 [] w0 [] (⟨B, (s.flatMap eN0)⟩ :: Rf)) {r_ : Int} (hF : F_slices_IndexFunc_impl_Dyadic_impl_Dyadic s f_ = some r_) :
  CV Tryz.prog 168 #[.slice B n c, .func (.func kf) #[] caps] w0 (fun v w' => v = vi r_ ∧ ST w0 [] w' [] []) := by
 subst hn
 unfold F_slices_IndexFunc_impl_Dyadic_impl_Dyadic at hF
 refine cv_of_cw 19 Tryz.func168 rfl Tryz.ntmps168 rfl ?_
 refine cw_seq (cw_region ?_)
 refine sQ 4 (Y_assign (v := vi 0) rfl rfl) (rw_nil (cw_seq (cw_seq (cw_region ?_))))
 refine sQ 6 (Y_move (v := .slice B s.length c) rfl rfl) ?_
 refine sQ 7 (Y_len (B := B) (m := s.length) (c := c) k_sl_28_63 rfl rfl) ?_
 refine sQ 8 (Y_move (v := vi 0) rfl rfl) (rw_nil ?_)
 obtain ⟨hN, hF⟩ := chk_inv hF
 obtain ⟨z, hz, hF1⟩ := bind_inv hF
 refine cw_block ?_
 refine cw_loop (fun k f w => ∃ (i : Nat), FF f [(0, .slice B s.length c), (1, .func (.func kf) #[] caps), (7, vi (s.length : Int)), (8, vi (i : Int))] ∧ ST w0 [] w [] (⟨B, (s.flatMap eN0)⟩ :: Rf) ∧ i + k = s.length ∧ forX (F_slices_IndexFunc_impl_Dyadic_impl_Dyadic_l1 s f_) k i () = some z) s.length ⟨0, (FF.cons rfl (FF.cons rfl (FF.cons rfl (FF.cons rfl FF.nil)))), (hS.sel [] rfl rfl), Nat.zero_add _, hz⟩ ?_
 rintro k_ f w ⟨i, hf, hS1, hik, hL⟩
 refine cw_seq (cw_region ?_)
 refine sQ 9 (Y_lt (k := .i64) (a := (i : Int)) (b := (s.length : Int)) rfl (hf.get 8 3 rfl) (hf.get 7 2 rfl)) (rw_nil (cw_seq ?_))
 refine cw_cond (b := (decide ((i : Int) < (s.length : Int)))) rfl (fun hlt => ?_) (fun hlt => ?_)
 ·skip
  have hlt1 : i < s.length := by have h := of_decide_eq_true hlt; omega
  obtain ⟨k_1, rfl⟩ : ∃ k2, k_ = k2 + 1 := ⟨k_ - 1, by omega⟩
  obtain ⟨y1, hb, hL1⟩ := forX_go hL
  unfold F_slices_IndexFunc_impl_Dyadic_impl_Dyadic_l1 at hb
  refine cw_skip (cw_seq (cw_block (cw_seq (cw_region ?_))))
  refine sQ 10 (Y_move (v := vi (i : Int)) rfl (hf.get 8 3 rfl)) ?_
  refine sQ 5 (Y_assign (v := vi (i : Int)) rfl rfl) (rw_nil (cw_seq (cw_region ?_)))
  refine sQ 11 (Y_move (v := .func (.func kf) #[] caps) rfl (hf.get 1 1 rfl)) ?_
  refine sQ 12 (Y_move (v := .slice B s.length c) rfl (hf.get 0 0 rfl)) ?_
  refine sQ 13 (Y_move (v := vi (i : Int)) rfl rfl) ?_
  obtain ⟨x1, hx, hb⟩ := bind_inv hb
  refine sQ 14 (Y_index (B := B) (m := s.length) (c := c) (k := .i64) (i := (i : Int)) k_sl_28_63 k_sz_63_5 rfl rfl rfl (gi_isSome enc_Dyadic_len rfl (hS1.rf (i := 0) rfl) hx) (getI_nn hx) (getI_ltI hx rfl)) ?_
  refine sQ 15 (Y_loadA (B := B) (i := (i : Int).toNat * 5) (cs := (s.flatMap eN0)) (vs := kD_ x1) k_ag_63 k_sz_63_5 rfl rfl (hS1.rf (i := 0) rfl) (enc_Dyadic_len x1) (gi_seg enc_Dyadic_len hx)) ?_
  obtain ⟨r_1, hc, hb⟩ := bind_inv hb
  refine sc 16 rfl rfl (Yc_clos (g := kf) (vs := (gD_ x1) :: caps.toList) hk rfl rfl (clo_args (mc rfl mn)) (hp _ (hS1.innS (fun _ h => mOd (i := 1) h)) x1 r_1 hc)) ?_
  rintro _ w_ ⟨rfl, hd⟩
  have hS2 := hS1.out00 hd
  refine rw_nil ?_
  refine cw_cond (b := r_1) rfl (fun hb1 => ?_) (fun hb1 => ?_)
  ·skip
   have hF2 := ct hb hb1
   refine cw_seq (cw_region ?_)
   refine sQ 17 (Y_move (v := vi (i : Int)) rfl rfl) ?_
   refine sQ 4 (Y_assign (v := vi (i : Int)) rfl rfl) (rw_nil (cw_ret ?_))
   obtain rfl := some_inj hF2
   obtain rfl := some_inj hL1
   obtain rfl := some_inj hF1
   exact ret1 Tryz.results168 (v1 := vi (i : Int)) (resAt_tmp rfl) ⟨rfl, (hS2.sN [])⟩
  ·skip
   have hF3 := cf' hb hb1
   refine cw_skip (cw_region ?_)
   refine sQ 18 (Y_add (k := .i64) (a := (i : Int)) (b := 1) rfl (hf.get 8 3 rfl) rfl) ?_
   refine sQ 8 (Y_move (v := vi (i64.wrap ((i : Int) + 1))) rfl rfl) (rw_nil ?_)
   obtain rfl := some_inj hF3
   exact ⟨k_1, Nat.lt_succ_self _, i + 1, (FF.cons (hf.get 0 0 rfl) (FF.cons (hf.get 1 1 rfl) (FF.cons (hf.get 7 2 rfl) (FF.cons (congrArg (Value.int .i64) (wr_succ hlt1 hN)) FF.nil)))), (hS2.sel [] rfl rfl), (by omega), hL1⟩
 ·skip
  obtain rfl : k_ = 0 := by have h := of_decide_eq_false hlt; omega
  refine cw_exit rfl ?_
  obtain rfl := some_inj hL
  refine cw_seq (cw_region ?_)
  refine sQ 4 (Y_assign (v := vi (-1)) rfl rfl) (rw_nil (cw_ret ?_))
  obtain rfl := some_inj hF1
  exact ret1 Tryz.results168 (v1 := vi (-1)) (resAt_tmp rfl) ⟨rfl, (hS1.sN [])⟩

theorem c_slices_ContainsFunc_impl_Dyadic_impl_Dyadic (s : List TDyadic) (f_ : TDyadic → Option (Bool)) (B : Option Addr) (c n : Nat) (kf : Nat) (caps : Array Value) (Rf : List Ro) (w0 : World) (hn : s.length = n) (hk : callB Tryz.prog kf = true) (hp : ∀ (w : World), ST w [] w [] Rf → ∀ (x : TDyadic) (y : Bool), f_ x = some y → CV Tryz.prog kf ((gD_ x) :: caps.toList).toArray w (fun v w' => v = .bool y ∧ ST w [] w' [] [])) (hS : ST w0 [] w0 [] (⟨B, (s.flatMap eN0)⟩ :: Rf)) {r_ : Bool} (hF : F_slices_ContainsFunc_impl_Dyadic_impl_Dyadic s f_ = some r_) :
  CV Tryz.prog 138 #[.slice B n c, .func (.func kf) #[] caps] w0 (fun v w' => v = .bool r_ ∧ ST w0 [] w' [] []) := by
 subst hn
 unfold F_slices_ContainsFunc_impl_Dyadic_impl_Dyadic at hF
 refine cv_of_cw 9 Tryz.func138 rfl Tryz.ntmps138 rfl ?_
 refine cw_seq (cw_region ?_)
 refine sQ 4 (Y_assign (v := .bool false) rfl rfl) (rw_nil (cw_seq (cw_region ?_)))
 refine sQ 5 (Y_move (v := .slice B s.length c) rfl rfl) ?_
 refine sQ 6 (Y_move (v := .func (.func kf) #[] caps) rfl rfl) ?_
 obtain ⟨r_1, hc, hF⟩ := bind_inv hF
 refine sc 7 rfl rfl (Yc_func (g := 168) (vs := [.slice B s.length c, .func (.func kf) #[] caps]) k_call_168 rfl (mc rfl (mc rfl mn)) (c_slices_IndexFunc_impl_Dyadic_impl_Dyadic s f_ B c s.length kf caps Rf _ rfl hk hp (hS.innS (subc (mem_at (i := 0) rfl) (fun _ h => mOd (i := 1) h))) hc)) ?_
 rintro _ w_ ⟨rfl, hd⟩
 have hS1 := hS.out00 hd
 refine sQ 8 (Y_ge (k := .i64) (a := r_1) (b := 0) rfl rfl rfl) ?_
 refine sQ 4 (Y_assign (v := .bool (decide (0 ≤ r_1))) rfl rfl) (rw_nil (cw_ret ?_))
 obtain rfl := some_inj hF
 exact ret1 Tryz.results138 (v1 := .bool (decide (0 ≤ r_1))) (resAt_tmp rfl) ⟨rfl, (hS1.sN [])⟩

theorem c_impl_isEven (x : TRing)  (w0 : World)  (hS : ST w0 [] w0 [] []) {r_ : Bool} (hF : F_impl_isEven x = some r_) :
  CV Tryz.prog 169 #[gR_ x] w0 (fun v w' => v = .bool r_ ∧ ST w0 [] w' [] []) := by
 unfold F_impl_isEven at hF
 refine cv_of_cw 19 Tryz.func169 rfl Tryz.ntmps169 rfl ?_
 refine cw_seq (cw_region ?_)
 refine sS 1 (Ys_box (T := 61) (v := gR_ x) (cs := kR_ x) (m := 4) hS rfl rfl rfl rfl) ?_
 rintro _ w_ ⟨b, rfl, hS1⟩
 refine sQ 2 (Y_assign (v := .bool false) rfl rfl) (rw_nil (cw_seq (cw_region ?_)))
 refine sQ 3 (Y_fieldAddr (B := aD b) (i := 0) (s := 0) k_fd_61_0_0_3 k_sz_3_1 rfl rfl) ?_
 refine sQ 4 (Y_load1 (B := aD b) (i := 0) (cs := kR_ x) (v := vi x.A) k_sc_3 rfl rfl (hS1.cf (i := 0) rfl) rfl) ?_
 refine sQ 5 (Y_fieldAddr (B := aD b) (i := 0) (s := 0) k_fd_61_2_2_3 k_sz_3_1 rfl rfl) ?_
 refine sQ 6 (Y_load1 (B := aD b) (i := 2) (cs := kR_ x) (v := vi x.C) k_sc_3 rfl rfl (hS1.cf (i := 0) rfl) rfl) ?_
 refine sQ 7 (Y_add (k := .i64) (a := x.A) (b := x.C) rfl rfl rfl) ?_
 refine sQ 8 (Y_rem (k := .i64) (a := (i64.wrap (x.A + x.C))) (b := 2) rfl rfl rfl (by decide)) ?_
 refine sQ 9 (Y_eq (k := .i64) (a := (Int.tmod (i64.wrap (x.A + x.C)) 2)) (b := 0) rfl rfl rfl) ?_
 refine sQ 10 (Y_move (v := .bool ((Int.tmod (i64.wrap (x.A + x.C)) 2) == 0)) rfl rfl) ?_
 refine sgq 11 (B := ((Int.tmod (i64.wrap (x.A + x.C)) 2) == 0)) (v := pt (aD b) 1) rfl rfl (uT_ 10) (fun hg => (Y_fieldAddr (B := aD b) (i := 0) (s := 0) k_fd_61_1_1_3 k_sz_3_1 rfl rfl)) ?_
 refine sgq 12 (B := ((Int.tmod (i64.wrap (x.A + x.C)) 2) == 0)) (v := vi x.B) rfl rfl (uT_ 10) (fun hg1 => (Y_load1 (B := aD b) (i := 1) (cs := kR_ x) (v := vi x.B) k_sc_3 rfl (gv_of (v := pt (aD b) 1) hg1) (hS1.cf (i := 0) rfl) rfl)) ?_
 refine sgq 13 (B := ((Int.tmod (i64.wrap (x.A + x.C)) 2) == 0)) (v := pt (aD b) 3) rfl rfl (uT_ 10) (fun hg2 => (Y_fieldAddr (B := aD b) (i := 0) (s := 0) k_fd_61_3_3_3 k_sz_3_1 rfl rfl)) ?_
 refine sgq 14 (B := ((Int.tmod (i64.wrap (x.A + x.C)) 2) == 0)) (v := vi x.D) rfl rfl (uT_ 10) (fun hg3 => (Y_load1 (B := aD b) (i := 3) (cs := kR_ x) (v := vi x.D) k_sc_3 rfl (gv_of (v := pt (aD b) 3) hg3) (hS1.cf (i := 0) rfl) rfl)) ?_
 refine sgq 15 (B := ((Int.tmod (i64.wrap (x.A + x.C)) 2) == 0)) (v := vi (i64.wrap (x.B + x.D))) rfl rfl (uT_ 10) (fun hg4 => (Y_add (k := .i64) (a := x.B) (b := x.D) rfl (gv_of (v := vi x.B) hg4) (gv_of (v := vi x.D) hg4))) ?_
 refine sgq 16 (B := ((Int.tmod (i64.wrap (x.A + x.C)) 2) == 0)) (v := vi (Int.tmod (i64.wrap (x.B + x.D)) 2)) rfl rfl (uT_ 10) (fun hg5 => (Y_rem (k := .i64) (a := (i64.wrap (x.B + x.D))) (b := 2) rfl (gv_of (v := vi (i64.wrap (x.B + x.D))) hg5) rfl (by decide))) ?_
 refine sgq 17 (B := ((Int.tmod (i64.wrap (x.A + x.C)) 2) == 0)) (v := .bool ((Int.tmod (i64.wrap (x.B + x.D)) 2) == 0)) rfl rfl (uT_ 10) (fun hg6 => (Y_eq (k := .i64) (a := (Int.tmod (i64.wrap (x.B + x.D)) 2)) (b := 0) rfl (gv_of (v := vi (Int.tmod (i64.wrap (x.B + x.D)) 2)) hg6) rfl)) ?_
 refine sQ 18 (Y_and (b := ((Int.tmod (i64.wrap (x.A + x.C)) 2) == 0)) (z := ((Int.tmod (i64.wrap (x.B + x.D)) 2) == 0)) rfl rfl rfl rfl) ?_
 refine sQ 2 (Y_assign (v := .bool (((Int.tmod (i64.wrap (x.A + x.C)) 2) == 0) && ((Int.tmod (i64.wrap (x.B + x.D)) 2) == 0))) rfl rfl) (rw_nil (cw_ret ?_))
 obtain rfl := some_inj hF
 exact ret1 Tryz.results169 (v1 := .bool (((Int.tmod (i64.wrap (x.A + x.C)) 2) == 0) && ((Int.tmod (i64.wrap (x.B + x.D)) 2) == 0))) (resAt_tmp rfl) ⟨rfl, (hS1.sN [])⟩

theorem c_impl_IsValidDyadic (x : TDyadic)  (w0 : World)  (hS : ST w0 [] w0 [] []) {r_ : Bool} (hF : F_impl_IsValidDyadic x = some r_) :
  CV Tryz.prog 140 #[gD_ x] w0 (fun v w' => v = .bool r_ ∧ ST w0 [] w' [] []) := by
 unfold F_impl_IsValidDyadic at hF
 refine cv_of_cw 22 Tryz.func140 rfl Tryz.ntmps140 rfl ?_
 refine cw_seq (cw_region ?_)
 refine sS 1 (Ys_box (T := 63) (v := gD_ x) (cs := kD_ x) (m := 5) hS rfl rfl rfl rfl) ?_
 rintro _ w_ ⟨b, rfl, hS1⟩
 refine sQ 2 (Y_assign (v := .bool false) rfl rfl) (rw_nil (cw_seq (cw_region ?_)))
 refine sQ 3 (Y_fieldAddr (B := aD b) (i := 0) (s := 3) k_fd_63_0_0_61 k_sz_61_4 rfl rfl) ?_
 refine sQ 4 (Y_loadA (B := aD b) (i := 0) (cs := kD_ x) (vs := kR_ x.Num) k_ag_61 k_sz_61_4 rfl rfl (hS1.cf (i := 0) rfl) rfl rfl) ?_
 obtain ⟨r_1, hc, hF⟩ := bind_inv hF
 refine sc 5 rfl rfl (Yc_func (g := 152) (vs := [gR_ x.Num]) k_call_152 rfl (mc rfl mn) (c_impl_IsValidRing x.Num _  (hS1.inn0 [] rfl) hc)) ?_
 rintro _ w_1 ⟨rfl, hd⟩
 have hS2 := hS1.out00 hd
 refine sQ 6 (Y_move (v := .bool r_1) rfl rfl) ?_
 refine sgq 7 (B := r_1) (v := pt (aD b) 4) rfl rfl (uT_ 6) (fun hg => (Y_fieldAddr (B := aD b) (i := 0) (s := 0) k_fd_63_1_4_3 k_sz_3_1 rfl rfl)) ?_
 refine sgq 8 (B := r_1) (v := vi x.Exp) rfl rfl (uT_ 6) (fun hg1 => (Y_load1 (B := aD b) (i := 4) (cs := kD_ x) (v := vi x.Exp) k_sc_3 rfl (gv_of (v := pt (aD b) 4) hg1) (hS2.cf (i := 0) rfl) rfl)) ?_
 obtain ⟨r_2, hc1, hF⟩ := bind_inv hF
 refine sgc 9 (B := r_1) (v := .bool r_2) (F := hS2.fn) rfl rfl (uT_ 6) hS2 (fun hg2 => (Yc_func (g := 65) (vs := [vi x.Exp, vi 0, vi 60]) k_call_65 rfl (mc (gv_of (v := vi x.Exp) hg2) (mc rfl (mc rfl mn))) (CV.mono (c_impl_within x.Exp 0 60 _  (hS2.inn0 [] rfl) (gb_inv hc1 hg2)) (by rintro _ _ ⟨rfl, h⟩; exact ⟨rfl, hS2.out00 h⟩)))) ?_
 rintro w_2 hS3
 refine sQ 10 (Y_and (b := r_1) (z := r_2) rfl rfl rfl rfl) ?_
 refine sQ 11 (Y_move (v := .bool (r_1 && r_2)) rfl rfl) ?_
 refine sgq 12 (B := (r_1 && r_2)) (v := pt (aD b) 4) rfl rfl (uT_ 11) (fun hg3 => (Y_fieldAddr (B := aD b) (i := 0) (s := 0) k_fd_63_1_4_3 k_sz_3_1 rfl rfl)) ?_
 refine sgq 13 (B := (r_1 && r_2)) (v := vi x.Exp) rfl rfl (uT_ 11) (fun hg4 => (Y_load1 (B := aD b) (i := 4) (cs := kD_ x) (v := vi x.Exp) k_sc_3 rfl (gv_of (v := pt (aD b) 4) hg4) (hS3.cf (i := 0) rfl) rfl)) ?_
 refine sgq 14 (B := (r_1 && r_2)) (v := .bool (x.Exp == 0)) rfl rfl (uT_ 11) (fun hg5 => (Y_eq (k := .i64) (a := x.Exp) (b := 0) rfl (gv_of (v := vi x.Exp) hg5) rfl)) ?_
 refine sgq 15 (B := (r_1 && r_2)) (v := .bool (x.Exp == 0)) rfl rfl (uT_ 11) (fun hg6 => (Y_move (v := .bool (x.Exp == 0)) rfl (gv_of (v := .bool (x.Exp == 0)) hg6))) ?_
 refine sgq 16 (B := ((r_1 && r_2) && (!(x.Exp == 0)))) (v := pt (aD b) 0) rfl rfl (wt_gf (gd_of (t := 15) (by kernel_rfl) rfl)) (fun hg7 => (Y_fieldAddr (B := aD b) (i := 0) (s := 3) k_fd_63_0_0_61 k_sz_61_4 rfl rfl)) ?_
 refine sgq 17 (B := ((r_1 && r_2) && (!(x.Exp == 0)))) (v := gR_ x.Num) rfl rfl (wt_gf (gd_of (t := 15) (by kernel_rfl) rfl)) (fun hg8 => (Y_loadA (B := aD b) (i := 0) (cs := kD_ x) (vs := kR_ x.Num) k_ag_61 k_sz_61_4 rfl (gv_of (v := pt (aD b) 0) hg8) (hS3.cf (i := 0) rfl) rfl rfl)) ?_
 obtain ⟨r_3, hc2, hF⟩ := bind_inv hF
 refine sgc 18 (B := ((r_1 && r_2) && (!(x.Exp == 0)))) (v := .bool r_3) (F := hS3.fn) rfl rfl (wt_gf (gd_of (t := 15) (by kernel_rfl) rfl)) hS3 (fun hg9 => (Yc_func (g := 169) (vs := [gR_ x.Num]) k_call_169 rfl (mc (gv_of (v := gR_ x.Num) hg9) mn) (CV.mono (c_impl_isEven x.Num _  (hS3.inn0 [] rfl) (gb_inv hc2 hg9)) (by rintro _ _ ⟨rfl, h⟩; exact ⟨rfl, hS3.out00 h⟩)))) ?_
 rintro w_3 hS4
 refine sgq 19 (B := ((r_1 && r_2) && (!(x.Exp == 0)))) (v := .bool (!r_3)) rfl rfl (wt_gf (gd_of (t := 15) (by kernel_rfl) rfl)) (fun hg10 => (Y_not (p := r_3) rfl (gv_of (v := .bool r_3) hg10))) ?_
 refine sgq 20 (B := (r_1 && r_2)) (v := .bool ((x.Exp == 0) || (!r_3))) rfl rfl (uT_ 11) (fun hg11 => (Y_or (b := (x.Exp == 0)) (z := (!r_3)) rfl (gv_of (v := .bool (x.Exp == 0)) hg11) rfl (gv_and (B := (r_1 && r_2)) (C := (!(x.Exp == 0))) (v := .bool (!r_3)) hg11))) ?_
 refine sQ 21 (Y_and (b := (r_1 && r_2)) (z := ((x.Exp == 0) || (!r_3))) rfl rfl rfl rfl) ?_
 refine sQ 2 (Y_assign (v := .bool ((r_1 && r_2) && ((x.Exp == 0) || (!r_3)))) rfl rfl) (rw_nil (cw_ret ?_))
 obtain rfl := some_inj hF
 exact ret1 Tryz.results140 (v1 := .bool ((r_1 && r_2) && ((x.Exp == 0) || (!r_3)))) (resAt_tmp rfl) ⟨rfl, (hS4.sN [])⟩

theorem c_impl_IsValidMatrix_1 (x : TDyadic)  (w0 : World)  (hS : ST w0 [] w0 [] []) {r_ : Bool} (hF : F_impl_IsValidMatrix_1 x = some r_) :
  CV Tryz.prog 139 #[gD_ x] w0 (fun v w' => v = .bool r_ ∧ ST w0 [] w' [] []) := by
 unfold F_impl_IsValidMatrix_1 at hF
 refine cv_of_cw 6 Tryz.func139 rfl Tryz.ntmps139 rfl ?_
 refine cw_seq (cw_region ?_)
 refine sS 1 (Ys_box (T := 63) (v := gD_ x) (cs := kD_ x) (m := 5) hS rfl rfl rfl rfl) ?_
 rintro _ w_ ⟨b, rfl, hS1⟩
 refine sQ 2 (Y_assign (v := .bool false) rfl rfl) (rw_nil (cw_seq (cw_region ?_)))
 refine sQ 3 (Y_loadA (B := aD b) (i := 0) (cs := kD_ x) (vs := kD_ x) k_ag_63 k_sz_63_5 rfl rfl (hS1.cf (i := 0) rfl) rfl rfl) ?_
 obtain ⟨r_1, hc, hF⟩ := bind_inv hF
 refine sc 4 rfl rfl (Yc_func (g := 140) (vs := [gD_ x]) k_call_140 rfl (mc rfl mn) (c_impl_IsValidDyadic x _  (hS1.inn0 [] rfl) hc)) ?_
 rintro _ w_1 ⟨rfl, hd⟩
 have hS2 := hS1.out00 hd
 refine sQ 5 (Y_not (p := r_1) rfl rfl) ?_
 refine sQ 2 (Y_assign (v := .bool (!r_1)) rfl rfl) (rw_nil (cw_ret ?_))
 obtain rfl := some_inj hF
 exact ret1 Tryz.results139 (v1 := .bool (!r_1)) (resAt_tmp rfl) ⟨rfl, (hS2.sN [])⟩

theorem c_impl_IsValidMatrix (m : TMatrix) (B : Option Addr) (c n : Nat) (w0 : World) (hn : m.Cells.length = n) (hS : ST w0 [] w0 [] [⟨B, (m.Cells.flatMap eN0)⟩]) {r_ : Bool} (hF : F_impl_IsValidMatrix m = some r_) :
  CV Tryz.prog 89 #[.agg #[vi m.Rows, vi m.Cols, .slice B n c]] w0 (fun v w' => v = .bool r_ ∧ ST w0 [] w' [] []) := by
 subst hn
 unfold F_impl_IsValidMatrix at hF
 refine cv_of_cw 28 Tryz.func89 rfl Tryz.ntmps89 rfl ?_
 refine cw_seq (cw_region ?_)
 refine sS 1 (Ys_box (T := 30) (v := gM_ m B c) (cs := kM_ m B c) (m := 3) hS rfl rfl rfl rfl) ?_
 rintro _ w_ ⟨b, rfl, hS1⟩
 refine sQ 2 (Y_assign (v := .bool false) rfl rfl) (rw_nil (cw_seq (cw_region ?_)))
 refine sQ 3 (Y_fieldAddr (B := aD b) (i := 0) (s := 0) k_fd_30_0_0_3 k_sz_3_1 rfl rfl) ?_
 refine sQ 4 (Y_load1 (B := aD b) (i := 0) (cs := kM_ m B c) (v := vi m.Rows) k_sc_3 rfl rfl (hS1.cf (i := 0) rfl) rfl) ?_
 obtain ⟨r_1, hc, hF⟩ := bind_inv hF
 refine sc 5 rfl rfl (Yc_func (g := 117) (vs := [vi m.Rows]) k_call_117 rfl (mc rfl mn) (c_impl_isDim m.Rows _  (hS1.inn0 [] rfl) hc)) ?_
 rintro _ w_1 ⟨rfl, hd⟩
 have hS2 := hS1.out00 hd
 refine sQ 6 (Y_move (v := .bool r_1) rfl rfl) ?_
 refine sgq 7 (B := r_1) (v := pt (aD b) 1) rfl rfl (uT_ 6) (fun hg => (Y_fieldAddr (B := aD b) (i := 0) (s := 0) k_fd_30_1_1_3 k_sz_3_1 rfl rfl)) ?_
 refine sgq 8 (B := r_1) (v := vi m.Cols) rfl rfl (uT_ 6) (fun hg1 => (Y_load1 (B := aD b) (i := 1) (cs := kM_ m B c) (v := vi m.Cols) k_sc_3 rfl (gv_of (v := pt (aD b) 1) hg1) (hS2.cf (i := 0) rfl) rfl)) ?_
 obtain ⟨r_2, hc1, hF⟩ := bind_inv hF
 refine sgc 9 (B := r_1) (v := .bool r_2) (F := hS2.fn) rfl rfl (uT_ 6) hS2 (fun hg2 => (Yc_func (g := 117) (vs := [vi m.Cols]) k_call_117 rfl (mc (gv_of (v := vi m.Cols) hg2) mn) (CV.mono (c_impl_isDim m.Cols _  (hS2.inn0 [] rfl) (gb_inv hc1 hg2)) (by rintro _ _ ⟨rfl, h⟩; exact ⟨rfl, hS2.out00 h⟩)))) ?_
 rintro w_2 hS3
 refine sQ 10 (Y_and (b := r_1) (z := r_2) rfl rfl rfl rfl) ?_
 refine sQ 11 (Y_move (v := .bool (r_1 && r_2)) rfl rfl) ?_
 refine sgq 12 (B := (r_1 && r_2)) (v := pt (aD b) 2) rfl rfl (uT_ 11) (fun hg3 => (Y_fieldAddr (B := aD b) (i := 0) (s := 0) k_fd_30_2_2_28 k_sz_28_1 rfl rfl)) ?_
 refine sgq 13 (B := (r_1 && r_2)) (v := .slice B m.Cells.length c) rfl rfl (uT_ 11) (fun hg4 => (Y_load1 (B := aD b) (i := 2) (cs := kM_ m B c) (v := .slice B m.Cells.length c) k_sc_28 rfl (gv_of (v := pt (aD b) 2) hg4) (hS3.cf (i := 0) rfl) rfl)) ?_
 refine sgq 14 (B := (r_1 && r_2)) (v := vi (m.Cells.length : Int)) rfl rfl (uT_ 11) (fun hg5 => (Y_len (B := B) (m := m.Cells.length) (c := c) k_sl_28_63 rfl (gv_of (v := .slice B m.Cells.length c) hg5))) ?_
 refine sgq 15 (B := (r_1 && r_2)) (v := pt (aD b) 0) rfl rfl (uT_ 11) (fun hg6 => (Y_fieldAddr (B := aD b) (i := 0) (s := 0) k_fd_30_0_0_3 k_sz_3_1 rfl rfl)) ?_
 refine sgq 16 (B := (r_1 && r_2)) (v := vi m.Rows) rfl rfl (uT_ 11) (fun hg7 => (Y_load1 (B := aD b) (i := 0) (cs := kM_ m B c) (v := vi m.Rows) k_sc_3 rfl (gv_of (v := pt (aD b) 0) hg7) (hS3.cf (i := 0) rfl) rfl)) ?_
 refine sgq 17 (B := (r_1 && r_2)) (v := pt (aD b) 1) rfl rfl (uT_ 11) (fun hg8 => (Y_fieldAddr (B := aD b) (i := 0) (s := 0) k_fd_30_1_1_3 k_sz_3_1 rfl rfl)) ?_
 refine sgq 18 (B := (r_1 && r_2)) (v := vi m.Cols) rfl rfl (uT_ 11) (fun hg9 => (Y_load1 (B := aD b) (i := 1) (cs := kM_ m B c) (v := vi m.Cols) k_sc_3 rfl (gv_of (v := pt (aD b) 1) hg9) (hS3.cf (i := 0) rfl) rfl)) ?_
 refine sgq 19 (B := (r_1 && r_2)) (v := vi (i64.wrap (m.Rows * m.Cols))) rfl rfl (uT_ 11) (fun hg10 => (Y_mul (k := .i64) (a := m.Rows) (b := m.Cols) rfl (gv_of (v := vi m.Rows) hg10) (gv_of (v := vi m.Cols) hg10))) ?_
 refine sgq 20 (B := (r_1 && r_2)) (v := .bool ((m.Cells.length : Int) == (i64.wrap (m.Rows * m.Cols)))) rfl rfl (uT_ 11) (fun hg11 => (Y_eq (k := .i64) (a := (m.Cells.length : Int)) (b := (i64.wrap (m.Rows * m.Cols))) rfl (gv_of (v := vi (m.Cells.length : Int)) hg11) (gv_of (v := vi (i64.wrap (m.Rows * m.Cols))) hg11))) ?_
 refine sQ 21 (Y_and (b := (r_1 && r_2)) (z := ((m.Cells.length : Int) == (i64.wrap (m.Rows * m.Cols)))) rfl rfl rfl rfl) ?_
 refine sQ 22 (Y_move (v := .bool ((r_1 && r_2) && ((m.Cells.length : Int) == (i64.wrap (m.Rows * m.Cols))))) rfl rfl) ?_
 refine sgq 23 (B := ((r_1 && r_2) && ((m.Cells.length : Int) == (i64.wrap (m.Rows * m.Cols))))) (v := pt (aD b) 2) rfl rfl (uT_ 22) (fun hg12 => (Y_fieldAddr (B := aD b) (i := 0) (s := 0) k_fd_30_2_2_28 k_sz_28_1 rfl rfl)) ?_
 refine sgq 24 (B := ((r_1 && r_2) && ((m.Cells.length : Int) == (i64.wrap (m.Rows * m.Cols))))) (v := .slice B m.Cells.length c) rfl rfl (uT_ 22) (fun hg13 => (Y_load1 (B := aD b) (i := 2) (cs := kM_ m B c) (v := .slice B m.Cells.length c) k_sc_28 rfl (gv_of (v := pt (aD b) 2) hg13) (hS3.cf (i := 0) rfl) rfl)) ?_
 obtain ⟨r_3, hc2, hF⟩ := bind_inv hF
 refine sgc 25 (B := ((r_1 && r_2) && ((m.Cells.length : Int) == (i64.wrap (m.Rows * m.Cols))))) (v := .bool r_3) (F := hS3.fn) rfl rfl (uT_ 22) hS3 (fun hg14 => (Yc_func (g := 138) (vs := [.slice B m.Cells.length c, .func (.func 139) #[] #[]]) k_call_138 rfl (mc (gv_of (v := .slice B m.Cells.length c) hg14) (mc rfl mn)) (CV.mono (c_slices_ContainsFunc_impl_Dyadic_impl_Dyadic m.Cells F_impl_IsValidMatrix_1 B c m.Cells.length 139 (#[]) [] _ rfl k_call_139 (fun w hw x_0 y_0 h_ => c_impl_IsValidMatrix_1 x_0  w  hw h_) (hS3.inn0 [(true, 0)] rfl) (gb_inv hc2 hg14)) (by rintro _ _ ⟨rfl, h⟩; exact ⟨rfl, hS3.out00 h⟩)))) ?_
 rintro w_3 hS4
 refine sgq 26 (B := ((r_1 && r_2) && ((m.Cells.length : Int) == (i64.wrap (m.Rows * m.Cols))))) (v := .bool (!r_3)) rfl rfl (uT_ 22) (fun hg15 => (Y_not (p := r_3) rfl (gv_of (v := .bool r_3) hg15))) ?_
 refine sQ 27 (Y_and (b := ((r_1 && r_2) && ((m.Cells.length : Int) == (i64.wrap (m.Rows * m.Cols))))) (z := (!r_3)) rfl rfl rfl rfl) ?_
 refine sQ 2 (Y_assign (v := .bool (((r_1 && r_2) && ((m.Cells.length : Int) == (i64.wrap (m.Rows * m.Cols)))) && (!r_3))) rfl rfl) (rw_nil (cw_ret ?_))
 obtain rfl := some_inj hF
 exact ret1 Tryz.results89 (v1 := .bool (((r_1 && r_2) && ((m.Cells.length : Int) == (i64.wrap (m.Rows * m.Cols)))) && (!r_3))) (resAt_tmp rfl) ⟨rfl, (hS4.sN [])⟩

theorem c_impl_Matrix_at (m : TMatrix) (i : Int) (j : Int) (B : Option Addr) (c n : Nat) (w0 : World) (hn : m.Cells.length = n) (hS : ST w0 [] w0 [] [⟨B, (m.Cells.flatMap eN0)⟩]) {r_ : TDyadic} (hF : F_impl_Matrix_at m i j = some r_) :
  CV Tryz.prog 105 #[.agg #[vi m.Rows, vi m.Cols, .slice B n c], vi i, vi j] w0 (fun v w' => v = (gD_ r_) ∧ ST w0 [] w' [] []) := by
 subst hn
 unfold F_impl_Matrix_at at hF
 refine cv_of_cw 17 Tryz.func105 rfl Tryz.ntmps105 rfl ?_
 refine cw_seq (cw_region ?_)
 refine sS 3 (Ys_box (T := 30) (v := gM_ m B c) (cs := kM_ m B c) (m := 3) hS rfl rfl rfl rfl) ?_
 rintro _ w_ ⟨b, rfl, hS1⟩
 refine sS 6 (Ys_alloc (T := 63) (cs := kZ_) (m := 5) hS1 k_zero_63 rfl rfl rfl) ?_
 rintro _ w_1 ⟨b1, rfl, hS2⟩
 refine rw_nil (cw_seq (cw_region ?_))
 refine sQ 7 (Y_fieldAddr (B := aD b) (i := 0) (s := 0) k_fd_30_2_2_28 k_sz_28_1 rfl rfl) ?_
 refine sQ 8 (Y_load1 (B := aD b) (i := 2) (cs := kM_ m B c) (v := .slice B m.Cells.length c) k_sc_28 rfl rfl (hS2.cf (i := 0) rfl) rfl) ?_
 refine sQ 9 (Y_move (v := vi i) rfl rfl) ?_
 refine sQ 10 (Y_fieldAddr (B := aD b) (i := 0) (s := 0) k_fd_30_1_1_3 k_sz_3_1 rfl rfl) ?_
 refine sQ 11 (Y_load1 (B := aD b) (i := 1) (cs := kM_ m B c) (v := vi m.Cols) k_sc_3 rfl rfl (hS2.cf (i := 0) rfl) rfl) ?_
 refine sQ 12 (Y_mul (k := .i64) (a := i) (b := m.Cols) rfl rfl rfl) ?_
 refine sQ 13 (Y_move (v := vi j) rfl rfl) ?_
 refine sQ 14 (Y_add (k := .i64) (a := (i64.wrap (i * m.Cols))) (b := j) rfl rfl rfl) ?_
 obtain ⟨x, hx, hF⟩ := bind_inv hF
 refine sQ 15 (Y_index (B := B) (m := m.Cells.length) (c := c) (k := .i64) (i := (i64.wrap ((i64.wrap (i * m.Cols)) + j))) k_sl_28_63 k_sz_63_5 rfl rfl rfl (gi_isSome enc_Dyadic_len rfl (hS2.rf (i := 0) rfl) hx) (getI_nn hx) (getI_ltI hx rfl)) ?_
 refine sQ 16 (Y_loadA (B := B) (i := (i64.wrap ((i64.wrap (i * m.Cols)) + j)).toNat * 5) (cs := (m.Cells.flatMap eN0)) (vs := kD_ x) k_ag_63 k_sz_63_5 rfl rfl (hS2.rf (i := 0) rfl) (enc_Dyadic_len x) (gi_seg enc_Dyadic_len hx)) ?_
 refine s0 (Ys_store (i := 1) (s := 5) (B := aD b1) (T' := 63) (v := gD_ x) (vs := kD_ x) (k := 0) (cs' := kD_ x) hS2 k_sz_63_5 rfl rfl rfl rfl rfl rfl rfl (lB rfl) rfl rfl) ?_
 rintro _ w_2 ⟨rfl, hS3⟩
 refine rw_nil (cw_ret ?_)
 obtain rfl := some_inj hF
 exact ret1 Tryz.results105 (v1 := gD_ x) (resAt_cellA (B := aD b1) (i := 0) (cs := kD_ x) (vs := kD_ x) rfl k_ag_63 k_sz_63_5 (hS3.cf (i := 1) rfl) rfl rfl) ⟨rfl, (hS3.sN [])⟩
end Go.VK
