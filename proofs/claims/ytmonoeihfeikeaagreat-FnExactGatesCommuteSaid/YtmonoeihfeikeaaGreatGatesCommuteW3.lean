/- Walks: each Go function returns what its Lean function says. By program. -/
import Derived.Test.YtmonoeihfeikeaaGreatGatesCommuteFa
import Derived.Test.YtmonoeihfeikeaaGreatGatesCommuteShelf
import Derived.Test.YtmonoeihfeikeaaGreatLibQ
import Derived.Test.YtmonoeihfeikeaaGreatLibR
import Derived.Test.YtmonoeihfeikeaaGreatGatesCommuteW2
set_option linter.unusedVariables false
set_option maxRecDepth 100000
set_option maxHeartbeats 4000000
namespace Go.VK
open Go.RowKit
open Go.Proofs
open Go.IntKind
attribute [local irreducible] CW RW RA CV Y Yw Yc Ys RetOf
attribute [local irreducible] F_spec_l1In F_spec_l4Gate F_spec_EqualMatrices F_spec_l1All F_spec_l1Good F_spec_l2C_ring F_spec_l1Root F_spec_l1Even F_spec_l1Half F_spec_l2Low F_spec_l1Add F_spec_l2C_add F_spec_l1Mul F_spec_l2C_mul F_spec_l2C_times F_spec_l1Turn F_spec_l2Power F_spec_l6Bit F_spec_l1Neg F_spec_l2Neg F_spec_l6One F_spec_l6Cell F_spec_l6Gate F_spec_l22Two F_spec_l23Qubits F_spec_l1Has F_spec_l24Common F_spec_l1Put F_spec_l24At F_spec_l24Small F_spec_l24Commute F_spec_GatesCommute F_laws_toGate F_impl_within F_impl_isTwo F_impl_IsValidGate F_slices_IndexFunc_impl_Gate_impl_Gate F_slices_ContainsFunc_impl_Gate_impl_Gate F_impl_IsValidCircuit_1 F_impl_IsValidCircuit F_impl_isDim F_impl_matrixOf F_impl_whole F_impl_IdentityMatrix_1 F_impl_IdentityMatrix F_impl_isCoef F_impl_IsValidRing F_impl_MulOmega F_impl_phase F_impl_bitOf F_impl_flipped F_impl_comesFrom F_impl_small F_impl_entry F_impl_GateMatrix_1 F_impl_GateMatrix F_slices_IndexFunc_impl_Dyadic_impl_Dyadic F_slices_ContainsFunc_impl_Dyadic_impl_Dyadic F_impl_isEven F_impl_IsValidDyadic F_impl_IsValidMatrix_1 F_impl_IsValidMatrix F_impl_Matrix_at F_impl_ringIf F_impl_MulRing F_impl_DivRootTwo F_impl_DyadicOf F_impl_MulDyadic F_impl_MulRootTwo F_impl_raised F_impl_combined F_impl_AddRing F_impl_AddDyadic F_impl_MulMatrix_1 F_impl_MulMatrix F_impl_applied F_impl_OperatorOf F_slices_Equal_impl_Dyadic_impl_Dyadic F_impl_EqualMatrices F_impl_qubitsOf F_slices_IndexFunc_int_int F_slices_ContainsFunc_int_int F_slices_Index_int_int F_slices_Contains_int_int F_impl_meet_1 F_impl_meet F_slices_Concat_int_int F_slices_Sort_int_int F_impl_union F_impl_mapped F_impl_commutes F_impl_GatesCommute F_laws_FnExactGatesCommute
theorem c_impl_ringIf (out : TRing) (args : List TRing) (B : Option Addr) (c n : Nat) (w0 : World) (hn : args.length = n) (hS : ST w0 (bl [⟨B, 61, (args.flatMap enc_Ring), c * 4⟩]) w0 [⟨B, 61, (args.flatMap enc_Ring), c * 4⟩] []) {r_ : TRing} {r_1 : Bool} (hF : F_impl_ringIf out args = some (r_, r_1)) :
  CV Tryz.prog 179 #[gR_ out, .slice B n c] w0 (fun v w' => v = .tuple #[gR_ r_, .bool r_1] ∧ ST w0 (bl [⟨B, 61, (args.flatMap enc_Ring), c * 4⟩]) w' [] []) := by
 subst hn
 unfold F_impl_ringIf at hF
 refine cv_of_cw 23 Tryz.func179 rfl Tryz.ntmps179 rfl ?_
 refine cw_seq (cw_region ?_)
 refine sS 2 (Ys_box (T := 61) (v := gR_ out) (cs := kR_ out) (m := 4) hS rfl rfl rfl rfl) ?_
 rintro _ w_ ⟨b, rfl, hS1⟩
 refine sS 4 (Ys_alloc (T := 61) (cs := [vi 0, vi 0, vi 0, vi 0]) (m := 4) hS1 k_zero_61 rfl rfl rfl) ?_
 rintro _ w_1 ⟨b1, rfl, hS2⟩
 refine sQ 5 (Y_assign (v := .bool false) rfl rfl) (rw_nil (cw_seq (cw_seq (cw_region ?_))))
 refine sQ 8 (Y_move (v := .slice B args.length c) rfl rfl) ?_
 refine sQ 9 (Y_loadA (B := aD b) (i := 0) (cs := kR_ out) (vs := kR_ out) k_ag_61 k_sz_61_4 rfl rfl (hS2.cf (i := 1) rfl) rfl rfl) ?_
 refine sS 10 (Ys_bslice (s := 4) (len := 1) (vs := [(0, gR_ out)]) (cs := kR_ out) (zs := [vi 0, vi 0, vi 0, vi 0]) (m := 4) hS2 k_sl_196_61 k_sz_61_4 k_zc_61 rfl (mpc rfl mpn) rfl rfl rfl (by kernel_rfl) (by kernel_rfl) rfl) ?_
 rintro _ w_2 ⟨b2, rfl, hS3⟩
 obtain ⟨hap, hF⟩ := chk_inv hF
 refine sS 11 (Ys_append (s := 4) (by' := 32) (i := 0) (nn := args.length) (c := c) (k := 1) (len := (args ++ [out]).length) (B := B) (xs := ([out].flatMap enc_Ring)) (cs' := ((args ++ [out]).flatMap enc_Ring)) hS3 k_sl_196_61 k_sz_61_4 k_by_61_32 k_zero_61 rfl (by decide) rfl rfl rfl rfl (fm_lenn (l := args) enc_Ring_len rfl) rfl (hS3.cf (i := 3) rfl) (fm_lenn (l := [out]) enc_Ring_len rfl) (fm_one' (enc := enc_Ring) enc_Ring_one [out]) (by have := hap; omega) (by have := hap; simp only [maxLen]; omega) (fm_app _ _) (app_len (l := args) (l' := [out]) rfl rfl)) ?_
 rintro _ w_3 ⟨B1, c1, rfl, hS4⟩
 refine sQ 12 (Y_len (B := B1) (m := (args ++ [out]).length) (c := c1) k_sl_196_61 rfl rfl) ?_
 refine sQ 13 (Y_move (v := vi 0) rfl rfl) (rw_nil ?_)
 obtain ⟨hN, hF⟩ := chk_inv hF
 obtain ⟨z, hz, hF1⟩ := bind_inv hF
 refine cw_block ?_
 refine cw_loop (fun k f w => ∃ (i : Nat), FF f [(2, pt (aD b) 0), (4, pt (aD b1) 0), (11, .slice B1 ((args ++ [out]).length) c1), (12, vi ((args ++ [out]).length : Int)), (13, vi (i : Int))] ∧ ST w0 (bl [⟨B, 61, (args.flatMap enc_Ring), c * 4⟩]) w [⟨aD b, 61, kR_ out, 4⟩, ⟨aD b1, 61, [vi 0, vi 0, vi 0, vi 0], 4⟩, ⟨B1, 61, ((args ++ [out]).flatMap enc_Ring), c1 * 4⟩] [] ∧ i + k = (args ++ [out]).length ∧ forX (F_impl_ringIf_l1 args out) k i () = some z) ((args ++ [out]).length) ⟨0, (FF.cons rfl (FF.cons rfl (FF.cons rfl (FF.cons rfl (FF.cons rfl FF.nil))))), (hS4.sel [1, 2, 0] rfl rfl), Nat.zero_add _, hz⟩ ?_
 rintro k_ f w ⟨i, hf, hS5, hik, hL⟩
 refine cw_seq (cw_region ?_)
 refine sQ 14 (Y_lt (k := .i64) (a := (i : Int)) (b := ((args ++ [out]).length : Int)) rfl (hf.get 13 4 rfl) (hf.get 12 3 rfl)) (rw_nil (cw_seq ?_))
 refine cw_cond (b := (decide ((i : Int) < ((args ++ [out]).length : Int)))) rfl (fun hlt => ?_) (fun hlt => ?_)
 ·skip
  have hlt1 : i < (args ++ [out]).length := by have h := of_decide_eq_true hlt; omega
  obtain ⟨k_1, rfl⟩ : ∃ k2, k_ = k2 + 1 := ⟨k_ - 1, by omega⟩
  obtain ⟨y, hb, hL1⟩ := forX_go hL
  unfold F_impl_ringIf_l1 at hb
  refine cw_skip (cw_seq (cw_block (cw_seq (cw_region ?_))))
  obtain ⟨x, hx, hb⟩ := bind_inv hb
  refine sQ 15 (Y_index (B := B1) (m := (args ++ [out]).length) (c := c1) (k := .i64) (i := (i : Int)) k_sl_196_61 k_sz_61_4 rfl (hf.get 11 2 rfl) (hf.get 13 4 rfl) (gi_isSome enc_Ring_len rfl (hS5.cf (i := 2) rfl) hx) (getI_nn hx) (getI_ltI hx rfl)) ?_
  refine sQ 16 (Y_loadA (B := B1) (i := (i : Int).toNat * 4) (cs := ((args ++ [out]).flatMap enc_Ring)) (vs := kR_ x) k_ag_61 k_sz_61_4 rfl rfl (hS5.cf (i := 2) rfl) (enc_Ring_len x) (gi_seg enc_Ring_len hx)) ?_
  refine sS 7 (Ys_alloc (T := 61) (cs := [vi 0, vi 0, vi 0, vi 0]) (m := 4) hS5 k_zero_61 rfl rfl rfl) ?_
  rintro _ w_4 ⟨b3, rfl, hS6⟩
  refine s0 (Ys_store (i := 3) (s := 4) (B := aD b3) (T' := 61) (v := gR_ x) (vs := kR_ x) (k := 0) (cs' := kR_ x) hS6 k_sz_61_4 rfl rfl rfl rfl rfl rfl rfl (lB rfl) rfl rfl) ?_
  rintro _ w_5 ⟨rfl, hS7⟩
  refine rw_nil (cw_seq (cw_region ?_))
  refine sQ 17 (Y_loadA (B := aD b3) (i := 0) (cs := kR_ x) (vs := kR_ x) k_ag_61 k_sz_61_4 rfl rfl (hS7.cf (i := 3) rfl) rfl rfl) ?_
  obtain ⟨r_2, hc, hb⟩ := bind_inv hb
  refine sc 18 rfl rfl (Yc_func (g := 152) (vs := [gR_ x]) k_call_152 rfl (mc rfl mn) (c_impl_IsValidRing x _  (hS7.inn0 [] rfl) hc)) ?_
  rintro _ w_6 ⟨rfl, hd⟩
  have hS8 := hS7.out00 hd
  refine sQ 19 (Y_not (p := r_2) rfl rfl) (rw_nil ?_)
  refine cw_cond (b := (!r_2)) rfl (fun hb1 => ?_) (fun hb1 => ?_)
  ·skip
   have hF2 := ct hb hb1
   refine cw_seq (cw_region ?_)
   refine sQ 20 (Y_buildS (zs := [vi 0, vi 0, vi 0, vi 0]) (vs := []) (cs := [vi 0, vi 0, vi 0, vi 0]) k_pl_61 k_zero_61 rfl mpn rfl) ?_
   refine s0 (Ys_store (i := 1) (s := 4) (B := aD b1) (T' := 61) (v := .agg #[vi 0, vi 0, vi 0, vi 0]) (vs := [vi 0, vi 0, vi 0, vi 0]) (k := 0) (cs' := [vi 0, vi 0, vi 0, vi 0]) hS8 k_sz_61_4 rfl (hf.get 4 1 rfl) rfl rfl rfl rfl rfl (lB rfl) rfl rfl) ?_
   rintro _ w_7 ⟨rfl, hS9⟩
   refine sQ 5 (Y_assign (v := .bool false) rfl rfl) (rw_nil (cw_ret ?_))
   obtain rfl := some_inj hF2
   obtain rfl := some_inj hL1
   obtain ⟨rfl, rfl⟩ := pr2 (some_inj hF1)
   exact ret2 Tryz.results179 (v1 := .agg #[vi 0, vi 0, vi 0, vi 0]) (resAt_cellA (B := aD b1) (i := 0) (cs := [vi 0, vi 0, vi 0, vi 0]) (vs := [vi 0, vi 0, vi 0, vi 0]) (hf.get 4 1 rfl) k_ag_61 k_sz_61_4 (hS9.cf (i := 1) rfl) rfl rfl) (v2 := .bool false) (resAt_tmp rfl) ⟨rfl, (hS9.sN [])⟩
  ·skip
   have hF3 := cf' hb hb1
   refine cw_skip (cw_region ?_)
   refine sQ 21 (Y_add (k := .i64) (a := (i : Int)) (b := 1) rfl (hf.get 13 4 rfl) rfl) ?_
   refine sQ 13 (Y_move (v := vi (i64.wrap ((i : Int) + 1))) rfl rfl) (rw_nil ?_)
   obtain rfl := some_inj hF3
   exact ⟨k_1, Nat.lt_succ_self _, i + 1, (FF.cons (hf.get 2 0 rfl) (FF.cons (hf.get 4 1 rfl) (FF.cons (hf.get 11 2 rfl) (FF.cons (hf.get 12 3 rfl) (FF.cons (congrArg (Value.int .i64) (wr_succ hlt1 hN)) FF.nil))))), (hS8.sel [0, 1, 2] rfl rfl), (by omega), hL1⟩
 ·skip
  obtain rfl : k_ = 0 := by have h := of_decide_eq_false hlt; omega
  refine cw_exit rfl ?_
  obtain rfl := some_inj hL
  refine cw_seq (cw_region ?_)
  refine sQ 22 (Y_loadA (B := aD b) (i := 0) (cs := kR_ out) (vs := kR_ out) k_ag_61 k_sz_61_4 rfl (hf.get 2 0 rfl) (hS5.cf (i := 0) rfl) rfl rfl) ?_
  refine s0 (Ys_store (i := 1) (s := 4) (B := aD b1) (T' := 61) (v := gR_ out) (vs := kR_ out) (k := 0) (cs' := kR_ out) hS5 k_sz_61_4 rfl (hf.get 4 1 rfl) rfl rfl rfl rfl rfl (lB rfl) rfl rfl) ?_
  rintro _ w_8 ⟨rfl, hS10⟩
  refine sQ 5 (Y_assign (v := .bool true) rfl rfl) (rw_nil (cw_ret ?_))
  obtain ⟨rfl, rfl⟩ := pr2 (some_inj hF1)
  exact ret2 Tryz.results179 (v1 := gR_ out) (resAt_cellA (B := aD b1) (i := 0) (cs := kR_ out) (vs := kR_ out) (hf.get 4 1 rfl) k_ag_61 k_sz_61_4 (hS10.cf (i := 1) rfl) rfl rfl) (v2 := .bool true) (resAt_tmp rfl) ⟨rfl, (hS10.sN [])⟩

theorem c_impl_MulRing (x : TRing) (y : TRing)  (w0 : World)  (hS : ST w0 [] w0 [] []) {r_ : TRing} {r_1 : Bool} (hF : F_impl_MulRing x y = some (r_, r_1)) :
  CV Tryz.prog 160 #[gR_ x, gR_ y] w0 (fun v w' => v = .tuple #[gR_ r_, .bool r_1] ∧ ST w0 [] w' [] []) := by
 unfold F_impl_MulRing at hF
 refine cv_of_cw 105 Tryz.func160 rfl Tryz.ntmps160 rfl ?_
 refine cw_seq (cw_region ?_)
 refine sS 2 (Ys_box (T := 61) (v := gR_ x) (cs := kR_ x) (m := 4) hS rfl rfl rfl rfl) ?_
 rintro _ w_ ⟨b, rfl, hS1⟩
 refine sS 3 (Ys_box (T := 61) (v := gR_ y) (cs := kR_ y) (m := 4) hS1 rfl rfl rfl rfl) ?_
 rintro _ w_1 ⟨b1, rfl, hS2⟩
 refine sS 4 (Ys_alloc (T := 61) (cs := [vi 0, vi 0, vi 0, vi 0]) (m := 4) hS2 k_zero_61 rfl rfl rfl) ?_
 rintro _ w_2 ⟨b2, rfl, hS3⟩
 refine sQ 5 (Y_assign (v := .bool false) rfl rfl) (rw_nil (cw_seq (cw_region ?_)))
 refine sQ 6 (Y_fieldAddr (B := aD b) (i := 0) (s := 0) k_fd_61_0_0_3 k_sz_3_1 rfl rfl) ?_
 refine sQ 7 (Y_load1 (B := aD b) (i := 0) (cs := kR_ x) (v := vi x.A) k_sc_3 rfl rfl (hS3.cf (i := 0) rfl) rfl) ?_
 refine sQ 8 (Y_fieldAddr (B := aD b1) (i := 0) (s := 0) k_fd_61_0_0_3 k_sz_3_1 rfl rfl) ?_
 refine sQ 9 (Y_load1 (B := aD b1) (i := 0) (cs := kR_ y) (v := vi y.A) k_sc_3 rfl rfl (hS3.cf (i := 1) rfl) rfl) ?_
 refine sQ 10 (Y_mul (k := .i64) (a := x.A) (b := y.A) rfl rfl rfl) ?_
 refine sQ 11 (Y_fieldAddr (B := aD b) (i := 0) (s := 0) k_fd_61_1_1_3 k_sz_3_1 rfl rfl) ?_
 refine sQ 12 (Y_load1 (B := aD b) (i := 1) (cs := kR_ x) (v := vi x.B) k_sc_3 rfl rfl (hS3.cf (i := 0) rfl) rfl) ?_
 refine sQ 13 (Y_fieldAddr (B := aD b1) (i := 0) (s := 0) k_fd_61_3_3_3 k_sz_3_1 rfl rfl) ?_
 refine sQ 14 (Y_load1 (B := aD b1) (i := 3) (cs := kR_ y) (v := vi y.D) k_sc_3 rfl rfl (hS3.cf (i := 1) rfl) rfl) ?_
 refine sQ 15 (Y_mul (k := .i64) (a := x.B) (b := y.D) rfl rfl rfl) ?_
 refine sQ 16 (Y_sub (k := .i64) (a := (i64.wrap (x.A * y.A))) (b := (i64.wrap (x.B * y.D))) rfl rfl rfl) ?_
 refine sQ 17 (Y_fieldAddr (B := aD b) (i := 0) (s := 0) k_fd_61_2_2_3 k_sz_3_1 rfl rfl) ?_
 refine sQ 18 (Y_load1 (B := aD b) (i := 2) (cs := kR_ x) (v := vi x.C) k_sc_3 rfl rfl (hS3.cf (i := 0) rfl) rfl) ?_
 refine sQ 19 (Y_fieldAddr (B := aD b1) (i := 0) (s := 0) k_fd_61_2_2_3 k_sz_3_1 rfl rfl) ?_
 refine sQ 20 (Y_load1 (B := aD b1) (i := 2) (cs := kR_ y) (v := vi y.C) k_sc_3 rfl rfl (hS3.cf (i := 1) rfl) rfl) ?_
 refine sQ 21 (Y_mul (k := .i64) (a := x.C) (b := y.C) rfl rfl rfl) ?_
 refine sQ 22 (Y_sub (k := .i64) (a := (i64.wrap ((i64.wrap (x.A * y.A)) - (i64.wrap (x.B * y.D))))) (b := (i64.wrap (x.C * y.C))) rfl rfl rfl) ?_
 refine sQ 23 (Y_fieldAddr (B := aD b) (i := 0) (s := 0) k_fd_61_3_3_3 k_sz_3_1 rfl rfl) ?_
 refine sQ 24 (Y_load1 (B := aD b) (i := 3) (cs := kR_ x) (v := vi x.D) k_sc_3 rfl rfl (hS3.cf (i := 0) rfl) rfl) ?_
 refine sQ 25 (Y_fieldAddr (B := aD b1) (i := 0) (s := 0) k_fd_61_1_1_3 k_sz_3_1 rfl rfl) ?_
 refine sQ 26 (Y_load1 (B := aD b1) (i := 1) (cs := kR_ y) (v := vi y.B) k_sc_3 rfl rfl (hS3.cf (i := 1) rfl) rfl) ?_
 refine sQ 27 (Y_mul (k := .i64) (a := x.D) (b := y.B) rfl rfl rfl) ?_
 refine sQ 28 (Y_sub (k := .i64) (a := (i64.wrap ((i64.wrap ((i64.wrap (x.A * y.A)) - (i64.wrap (x.B * y.D)))) - (i64.wrap (x.C * y.C))))) (b := (i64.wrap (x.D * y.B))) rfl rfl rfl) ?_
 refine sQ 29 (Y_fieldAddr (B := aD b) (i := 0) (s := 0) k_fd_61_0_0_3 k_sz_3_1 rfl rfl) ?_
 refine sQ 30 (Y_load1 (B := aD b) (i := 0) (cs := kR_ x) (v := vi x.A) k_sc_3 rfl rfl (hS3.cf (i := 0) rfl) rfl) ?_
 refine sQ 31 (Y_fieldAddr (B := aD b1) (i := 0) (s := 0) k_fd_61_1_1_3 k_sz_3_1 rfl rfl) ?_
 refine sQ 32 (Y_load1 (B := aD b1) (i := 1) (cs := kR_ y) (v := vi y.B) k_sc_3 rfl rfl (hS3.cf (i := 1) rfl) rfl) ?_
 refine sQ 33 (Y_mul (k := .i64) (a := x.A) (b := y.B) rfl rfl rfl) ?_
 refine sQ 34 (Y_fieldAddr (B := aD b) (i := 0) (s := 0) k_fd_61_1_1_3 k_sz_3_1 rfl rfl) ?_
 refine sQ 35 (Y_load1 (B := aD b) (i := 1) (cs := kR_ x) (v := vi x.B) k_sc_3 rfl rfl (hS3.cf (i := 0) rfl) rfl) ?_
 refine sQ 36 (Y_fieldAddr (B := aD b1) (i := 0) (s := 0) k_fd_61_0_0_3 k_sz_3_1 rfl rfl) ?_
 refine sQ 37 (Y_load1 (B := aD b1) (i := 0) (cs := kR_ y) (v := vi y.A) k_sc_3 rfl rfl (hS3.cf (i := 1) rfl) rfl) ?_
 refine sQ 38 (Y_mul (k := .i64) (a := x.B) (b := y.A) rfl rfl rfl) ?_
 refine sQ 39 (Y_add (k := .i64) (a := (i64.wrap (x.A * y.B))) (b := (i64.wrap (x.B * y.A))) rfl rfl rfl) ?_
 refine sQ 40 (Y_fieldAddr (B := aD b) (i := 0) (s := 0) k_fd_61_2_2_3 k_sz_3_1 rfl rfl) ?_
 refine sQ 41 (Y_load1 (B := aD b) (i := 2) (cs := kR_ x) (v := vi x.C) k_sc_3 rfl rfl (hS3.cf (i := 0) rfl) rfl) ?_
 refine sQ 42 (Y_fieldAddr (B := aD b1) (i := 0) (s := 0) k_fd_61_3_3_3 k_sz_3_1 rfl rfl) ?_
 refine sQ 43 (Y_load1 (B := aD b1) (i := 3) (cs := kR_ y) (v := vi y.D) k_sc_3 rfl rfl (hS3.cf (i := 1) rfl) rfl) ?_
 refine sQ 44 (Y_mul (k := .i64) (a := x.C) (b := y.D) rfl rfl rfl) ?_
 refine sQ 45 (Y_sub (k := .i64) (a := (i64.wrap ((i64.wrap (x.A * y.B)) + (i64.wrap (x.B * y.A))))) (b := (i64.wrap (x.C * y.D))) rfl rfl rfl) ?_
 refine sQ 46 (Y_fieldAddr (B := aD b) (i := 0) (s := 0) k_fd_61_3_3_3 k_sz_3_1 rfl rfl) ?_
 refine sQ 47 (Y_load1 (B := aD b) (i := 3) (cs := kR_ x) (v := vi x.D) k_sc_3 rfl rfl (hS3.cf (i := 0) rfl) rfl) ?_
 refine sQ 48 (Y_fieldAddr (B := aD b1) (i := 0) (s := 0) k_fd_61_2_2_3 k_sz_3_1 rfl rfl) ?_
 refine sQ 49 (Y_load1 (B := aD b1) (i := 2) (cs := kR_ y) (v := vi y.C) k_sc_3 rfl rfl (hS3.cf (i := 1) rfl) rfl) ?_
 refine sQ 50 (Y_mul (k := .i64) (a := x.D) (b := y.C) rfl rfl rfl) ?_
 refine sQ 51 (Y_sub (k := .i64) (a := (i64.wrap ((i64.wrap ((i64.wrap (x.A * y.B)) + (i64.wrap (x.B * y.A)))) - (i64.wrap (x.C * y.D))))) (b := (i64.wrap (x.D * y.C))) rfl rfl rfl) ?_
 refine sQ 52 (Y_fieldAddr (B := aD b) (i := 0) (s := 0) k_fd_61_0_0_3 k_sz_3_1 rfl rfl) ?_
 refine sQ 53 (Y_load1 (B := aD b) (i := 0) (cs := kR_ x) (v := vi x.A) k_sc_3 rfl rfl (hS3.cf (i := 0) rfl) rfl) ?_
 refine sQ 54 (Y_fieldAddr (B := aD b1) (i := 0) (s := 0) k_fd_61_2_2_3 k_sz_3_1 rfl rfl) ?_
 refine sQ 55 (Y_load1 (B := aD b1) (i := 2) (cs := kR_ y) (v := vi y.C) k_sc_3 rfl rfl (hS3.cf (i := 1) rfl) rfl) ?_
 refine sQ 56 (Y_mul (k := .i64) (a := x.A) (b := y.C) rfl rfl rfl) ?_
 refine sQ 57 (Y_fieldAddr (B := aD b) (i := 0) (s := 0) k_fd_61_1_1_3 k_sz_3_1 rfl rfl) ?_
 refine sQ 58 (Y_load1 (B := aD b) (i := 1) (cs := kR_ x) (v := vi x.B) k_sc_3 rfl rfl (hS3.cf (i := 0) rfl) rfl) ?_
 refine sQ 59 (Y_fieldAddr (B := aD b1) (i := 0) (s := 0) k_fd_61_1_1_3 k_sz_3_1 rfl rfl) ?_
 refine sQ 60 (Y_load1 (B := aD b1) (i := 1) (cs := kR_ y) (v := vi y.B) k_sc_3 rfl rfl (hS3.cf (i := 1) rfl) rfl) ?_
 refine sQ 61 (Y_mul (k := .i64) (a := x.B) (b := y.B) rfl rfl rfl) ?_
 refine sQ 62 (Y_add (k := .i64) (a := (i64.wrap (x.A * y.C))) (b := (i64.wrap (x.B * y.B))) rfl rfl rfl) ?_
 refine sQ 63 (Y_fieldAddr (B := aD b) (i := 0) (s := 0) k_fd_61_2_2_3 k_sz_3_1 rfl rfl) ?_
 refine sQ 64 (Y_load1 (B := aD b) (i := 2) (cs := kR_ x) (v := vi x.C) k_sc_3 rfl rfl (hS3.cf (i := 0) rfl) rfl) ?_
 refine sQ 65 (Y_fieldAddr (B := aD b1) (i := 0) (s := 0) k_fd_61_0_0_3 k_sz_3_1 rfl rfl) ?_
 refine sQ 66 (Y_load1 (B := aD b1) (i := 0) (cs := kR_ y) (v := vi y.A) k_sc_3 rfl rfl (hS3.cf (i := 1) rfl) rfl) ?_
 refine sQ 67 (Y_mul (k := .i64) (a := x.C) (b := y.A) rfl rfl rfl) ?_
 refine sQ 68 (Y_add (k := .i64) (a := (i64.wrap ((i64.wrap (x.A * y.C)) + (i64.wrap (x.B * y.B))))) (b := (i64.wrap (x.C * y.A))) rfl rfl rfl) ?_
 refine sQ 69 (Y_fieldAddr (B := aD b) (i := 0) (s := 0) k_fd_61_3_3_3 k_sz_3_1 rfl rfl) ?_
 refine sQ 70 (Y_load1 (B := aD b) (i := 3) (cs := kR_ x) (v := vi x.D) k_sc_3 rfl rfl (hS3.cf (i := 0) rfl) rfl) ?_
 refine sQ 71 (Y_fieldAddr (B := aD b1) (i := 0) (s := 0) k_fd_61_3_3_3 k_sz_3_1 rfl rfl) ?_
 refine sQ 72 (Y_load1 (B := aD b1) (i := 3) (cs := kR_ y) (v := vi y.D) k_sc_3 rfl rfl (hS3.cf (i := 1) rfl) rfl) ?_
 refine sQ 73 (Y_mul (k := .i64) (a := x.D) (b := y.D) rfl rfl rfl) ?_
 refine sQ 74 (Y_sub (k := .i64) (a := (i64.wrap ((i64.wrap ((i64.wrap (x.A * y.C)) + (i64.wrap (x.B * y.B)))) + (i64.wrap (x.C * y.A))))) (b := (i64.wrap (x.D * y.D))) rfl rfl rfl) ?_
 refine sQ 75 (Y_fieldAddr (B := aD b) (i := 0) (s := 0) k_fd_61_0_0_3 k_sz_3_1 rfl rfl) ?_
 refine sQ 76 (Y_load1 (B := aD b) (i := 0) (cs := kR_ x) (v := vi x.A) k_sc_3 rfl rfl (hS3.cf (i := 0) rfl) rfl) ?_
 refine sQ 77 (Y_fieldAddr (B := aD b1) (i := 0) (s := 0) k_fd_61_3_3_3 k_sz_3_1 rfl rfl) ?_
 refine sQ 78 (Y_load1 (B := aD b1) (i := 3) (cs := kR_ y) (v := vi y.D) k_sc_3 rfl rfl (hS3.cf (i := 1) rfl) rfl) ?_
 refine sQ 79 (Y_mul (k := .i64) (a := x.A) (b := y.D) rfl rfl rfl) ?_
 refine sQ 80 (Y_fieldAddr (B := aD b) (i := 0) (s := 0) k_fd_61_1_1_3 k_sz_3_1 rfl rfl) ?_
 refine sQ 81 (Y_load1 (B := aD b) (i := 1) (cs := kR_ x) (v := vi x.B) k_sc_3 rfl rfl (hS3.cf (i := 0) rfl) rfl) ?_
 refine sQ 82 (Y_fieldAddr (B := aD b1) (i := 0) (s := 0) k_fd_61_2_2_3 k_sz_3_1 rfl rfl) ?_
 refine sQ 83 (Y_load1 (B := aD b1) (i := 2) (cs := kR_ y) (v := vi y.C) k_sc_3 rfl rfl (hS3.cf (i := 1) rfl) rfl) ?_
 refine sQ 84 (Y_mul (k := .i64) (a := x.B) (b := y.C) rfl rfl rfl) ?_
 refine sQ 85 (Y_add (k := .i64) (a := (i64.wrap (x.A * y.D))) (b := (i64.wrap (x.B * y.C))) rfl rfl rfl) ?_
 refine sQ 86 (Y_fieldAddr (B := aD b) (i := 0) (s := 0) k_fd_61_2_2_3 k_sz_3_1 rfl rfl) ?_
 refine sQ 87 (Y_load1 (B := aD b) (i := 2) (cs := kR_ x) (v := vi x.C) k_sc_3 rfl rfl (hS3.cf (i := 0) rfl) rfl) ?_
 refine sQ 88 (Y_fieldAddr (B := aD b1) (i := 0) (s := 0) k_fd_61_1_1_3 k_sz_3_1 rfl rfl) ?_
 refine sQ 89 (Y_load1 (B := aD b1) (i := 1) (cs := kR_ y) (v := vi y.B) k_sc_3 rfl rfl (hS3.cf (i := 1) rfl) rfl) ?_
 refine sQ 90 (Y_mul (k := .i64) (a := x.C) (b := y.B) rfl rfl rfl) ?_
 refine sQ 91 (Y_add (k := .i64) (a := (i64.wrap ((i64.wrap (x.A * y.D)) + (i64.wrap (x.B * y.C))))) (b := (i64.wrap (x.C * y.B))) rfl rfl rfl) ?_
 refine sQ 92 (Y_fieldAddr (B := aD b) (i := 0) (s := 0) k_fd_61_3_3_3 k_sz_3_1 rfl rfl) ?_
 refine sQ 93 (Y_load1 (B := aD b) (i := 3) (cs := kR_ x) (v := vi x.D) k_sc_3 rfl rfl (hS3.cf (i := 0) rfl) rfl) ?_
 refine sQ 94 (Y_fieldAddr (B := aD b1) (i := 0) (s := 0) k_fd_61_0_0_3 k_sz_3_1 rfl rfl) ?_
 refine sQ 95 (Y_load1 (B := aD b1) (i := 0) (cs := kR_ y) (v := vi y.A) k_sc_3 rfl rfl (hS3.cf (i := 1) rfl) rfl) ?_
 refine sQ 96 (Y_mul (k := .i64) (a := x.D) (b := y.A) rfl rfl rfl) ?_
 refine sQ 97 (Y_add (k := .i64) (a := (i64.wrap ((i64.wrap ((i64.wrap (x.A * y.D)) + (i64.wrap (x.B * y.C)))) + (i64.wrap (x.C * y.B))))) (b := (i64.wrap (x.D * y.A))) rfl rfl rfl) ?_
 refine sQ 98 (Y_buildS (zs := [vi 0, vi 0, vi 0, vi 0]) (vs := [(0, vi (i64.wrap ((i64.wrap ((i64.wrap ((i64.wrap (x.A * y.A)) - (i64.wrap (x.B * y.D)))) - (i64.wrap (x.C * y.C)))) - (i64.wrap (x.D * y.B))))), (1, vi (i64.wrap ((i64.wrap ((i64.wrap ((i64.wrap (x.A * y.B)) + (i64.wrap (x.B * y.A)))) - (i64.wrap (x.C * y.D)))) - (i64.wrap (x.D * y.C))))), (2, vi (i64.wrap ((i64.wrap ((i64.wrap ((i64.wrap (x.A * y.C)) + (i64.wrap (x.B * y.B)))) + (i64.wrap (x.C * y.A)))) - (i64.wrap (x.D * y.D))))), (3, vi (i64.wrap ((i64.wrap ((i64.wrap ((i64.wrap (x.A * y.D)) + (i64.wrap (x.B * y.C)))) + (i64.wrap (x.C * y.B)))) + (i64.wrap (x.D * y.A)))))]) (cs := [vi (i64.wrap ((i64.wrap ((i64.wrap ((i64.wrap (x.A * y.A)) - (i64.wrap (x.B * y.D)))) - (i64.wrap (x.C * y.C)))) - (i64.wrap (x.D * y.B)))), vi (i64.wrap ((i64.wrap ((i64.wrap ((i64.wrap (x.A * y.B)) + (i64.wrap (x.B * y.A)))) - (i64.wrap (x.C * y.D)))) - (i64.wrap (x.D * y.C)))), vi (i64.wrap ((i64.wrap ((i64.wrap ((i64.wrap (x.A * y.C)) + (i64.wrap (x.B * y.B)))) + (i64.wrap (x.C * y.A)))) - (i64.wrap (x.D * y.D)))), vi (i64.wrap ((i64.wrap ((i64.wrap ((i64.wrap (x.A * y.D)) + (i64.wrap (x.B * y.C)))) + (i64.wrap (x.C * y.B)))) + (i64.wrap (x.D * y.A))))]) k_pl_61 k_zero_61 rfl (mpc rfl (mpc rfl (mpc rfl (mpc rfl mpn)))) rfl) ?_
 refine sQ 99 (Y_loadA (B := aD b) (i := 0) (cs := kR_ x) (vs := kR_ x) k_ag_61 k_sz_61_4 rfl rfl (hS3.cf (i := 0) rfl) rfl rfl) ?_
 refine sQ 100 (Y_loadA (B := aD b1) (i := 0) (cs := kR_ y) (vs := kR_ y) k_ag_61 k_sz_61_4 rfl rfl (hS3.cf (i := 1) rfl) rfl rfl) ?_
 refine sS 101 (Ys_bslice (s := 4) (len := 2) (vs := [(0, gR_ x), (1, gR_ y)]) (cs := [vi x.A, vi x.B, vi x.C, vi x.D, vi y.A, vi y.B, vi y.C, vi y.D]) (zs := [vi 0, vi 0, vi 0, vi 0, vi 0, vi 0, vi 0, vi 0]) (m := 8) hS3 k_sl_196_61 k_sz_61_4 k_zc_61 rfl (mpc rfl (mpc rfl mpn)) rfl rfl rfl (by kernel_rfl) (by kernel_rfl) rfl) ?_
 rintro _ w_3 ⟨b3, rfl, hS4⟩
 obtain ⟨⟨r_2, r_3⟩, hc, hF⟩ := bind_inv hF
 refine sc 102 rfl rfl (Yc_func (g := 179) (vs := [.agg #[vi (i64.wrap ((i64.wrap ((i64.wrap ((i64.wrap (x.A * y.A)) - (i64.wrap (x.B * y.D)))) - (i64.wrap (x.C * y.C)))) - (i64.wrap (x.D * y.B)))), vi (i64.wrap ((i64.wrap ((i64.wrap ((i64.wrap (x.A * y.B)) + (i64.wrap (x.B * y.A)))) - (i64.wrap (x.C * y.D)))) - (i64.wrap (x.D * y.C)))), vi (i64.wrap ((i64.wrap ((i64.wrap ((i64.wrap (x.A * y.C)) + (i64.wrap (x.B * y.B)))) + (i64.wrap (x.C * y.A)))) - (i64.wrap (x.D * y.D)))), vi (i64.wrap ((i64.wrap ((i64.wrap ((i64.wrap (x.A * y.D)) + (i64.wrap (x.B * y.C)))) + (i64.wrap (x.C * y.B)))) + (i64.wrap (x.D * y.A))))], .slice (aD b3) 2 2]) k_call_179 rfl (mc rfl (mc rfl mn)) (c_impl_ringIf (TRing.mk (i64.wrap ((i64.wrap ((i64.wrap ((i64.wrap (x.A * y.A)) - (i64.wrap (x.B * y.D)))) - (i64.wrap (x.C * y.C)))) - (i64.wrap (x.D * y.B)))) (i64.wrap ((i64.wrap ((i64.wrap ((i64.wrap (x.A * y.B)) + (i64.wrap (x.B * y.A)))) - (i64.wrap (x.C * y.D)))) - (i64.wrap (x.D * y.C)))) (i64.wrap ((i64.wrap ((i64.wrap ((i64.wrap (x.A * y.C)) + (i64.wrap (x.B * y.B)))) + (i64.wrap (x.C * y.A)))) - (i64.wrap (x.D * y.D)))) (i64.wrap ((i64.wrap ((i64.wrap ((i64.wrap (x.A * y.D)) + (i64.wrap (x.B * y.C)))) + (i64.wrap (x.C * y.B)))) + (i64.wrap (x.D * y.A))))) [x, y] (aD b3) 2 2 _ rfl (hS4.inn [false, false, false, true] rfl [] rfl) hc)) ?_
 rintro _ w_4 ⟨rfl, hd⟩
 have hS5 := hS4.out [false, false, false, true] rfl hd
 refine sQ 103 (Y_extract (v := gR_ r_2) rfl rfl rfl) ?_
 refine sQ 104 (Y_extract (v := .bool r_3) rfl rfl rfl) ?_
 refine s0 (Ys_store (i := 2) (s := 4) (B := aD b2) (T' := 61) (v := gR_ r_2) (vs := kR_ r_2) (k := 0) (cs' := kR_ r_2) hS5 k_sz_61_4 rfl rfl rfl rfl rfl rfl rfl (lB rfl) rfl rfl) ?_
 rintro _ w_5 ⟨rfl, hS6⟩
 refine sQ 5 (Y_assign (v := .bool r_3) rfl rfl) (rw_nil (cw_ret ?_))
 obtain ⟨rfl, rfl⟩ := pr2 (some_inj hF)
 exact ret2 Tryz.results160 (v1 := gR_ r_2) (resAt_cellA (B := aD b2) (i := 0) (cs := kR_ r_2) (vs := kR_ r_2) rfl k_ag_61 k_sz_61_4 (hS6.cf (i := 2) rfl) rfl rfl) (v2 := .bool r_3) (resAt_tmp rfl) ⟨rfl, (hS6.sN [])⟩

theorem c_impl_DivRootTwo (x : TRing)  (w0 : World)  (hS : ST w0 [] w0 [] []) {r_ : TRing} {r_1 : Bool} (hF : F_impl_DivRootTwo x = some (r_, r_1)) :
  CV Tryz.prog 180 #[gR_ x] w0 (fun v w' => v = .tuple #[gR_ r_, .bool r_1] ∧ ST w0 [] w' [] []) := by
 unfold F_impl_DivRootTwo at hF
 refine cv_of_cw 43 Tryz.func180 rfl Tryz.ntmps180 rfl ?_
 refine cw_seq (cw_region ?_)
 refine sS 1 (Ys_box (T := 61) (v := gR_ x) (cs := kR_ x) (m := 4) hS rfl rfl rfl rfl) ?_
 rintro _ w_ ⟨b, rfl, hS1⟩
 refine sS 2 (Ys_alloc (T := 61) (cs := [vi 0, vi 0, vi 0, vi 0]) (m := 4) hS1 k_zero_61 rfl rfl rfl) ?_
 rintro _ w_1 ⟨b1, rfl, hS2⟩
 refine sQ 3 (Y_assign (v := .bool false) rfl rfl) (rw_nil (cw_seq (cw_seq (cw_region ?_))))
 refine sQ 4 (Y_loadA (B := aD b) (i := 0) (cs := kR_ x) (vs := kR_ x) k_ag_61 k_sz_61_4 rfl rfl (hS2.cf (i := 0) rfl) rfl rfl) ?_
 obtain ⟨r_2, hc, hF⟩ := bind_inv hF
 refine sc 5 rfl rfl (Yc_func (g := 152) (vs := [gR_ x]) k_call_152 rfl (mc rfl mn) (c_impl_IsValidRing x _  (hS2.inn0 [] rfl) hc)) ?_
 rintro _ w_2 ⟨rfl, hd⟩
 have hS3 := hS2.out00 hd
 refine sQ 6 (Y_not (p := r_2) rfl rfl) ?_
 refine sQ 7 (Y_move (v := .bool (!r_2)) rfl rfl) ?_
 refine sgq 8 (B := (!(!r_2))) (v := gR_ x) rfl rfl (uF_ 7) (fun hg => (Y_loadA (B := aD b) (i := 0) (cs := kR_ x) (vs := kR_ x) k_ag_61 k_sz_61_4 rfl rfl (hS3.cf (i := 0) rfl) rfl rfl)) ?_
 obtain ⟨r_3, hc1, hF⟩ := bind_inv hF
 refine sgc 9 (B := (!(!r_2))) (v := .bool r_3) (F := hS3.fn) rfl rfl (uF_ 7) hS3 (fun hg1 => (Yc_func (g := 169) (vs := [gR_ x]) k_call_169 rfl (mc (gv_of (v := gR_ x) hg1) mn) (CV.mono (c_impl_isEven x _  (hS3.inn0 [] rfl) (gb_inv hc1 hg1)) (by rintro _ _ ⟨rfl, h⟩; exact ⟨rfl, hS3.out00 h⟩)))) ?_
 rintro w_3 hS4
 refine sgq 10 (B := (!(!r_2))) (v := .bool (!r_3)) rfl rfl (uF_ 7) (fun hg2 => (Y_not (p := r_3) rfl (gv_of (v := .bool r_3) hg2))) ?_
 refine sQ 11 (Y_or (b := (!r_2)) (z := (!r_3)) rfl rfl rfl rfl) (rw_nil ?_)
 refine cw_cond (b := ((!r_2) || (!r_3))) rfl (fun hb => ?_) (fun hb => ?_)
 ·skip
  have hF1 := ct hF hb
  refine cw_seq (cw_region ?_)
  refine sQ 12 (Y_buildS (zs := [vi 0, vi 0, vi 0, vi 0]) (vs := []) (cs := [vi 0, vi 0, vi 0, vi 0]) k_pl_61 k_zero_61 rfl mpn rfl) ?_
  refine s0 (Ys_store (i := 1) (s := 4) (B := aD b1) (T' := 61) (v := .agg #[vi 0, vi 0, vi 0, vi 0]) (vs := [vi 0, vi 0, vi 0, vi 0]) (k := 0) (cs' := [vi 0, vi 0, vi 0, vi 0]) hS4 k_sz_61_4 rfl rfl rfl rfl rfl rfl rfl (lB rfl) rfl rfl) ?_
  rintro _ w_4 ⟨rfl, hS5⟩
  refine sQ 3 (Y_assign (v := .bool false) rfl rfl) (rw_nil (cw_ret ?_))
  obtain ⟨rfl, rfl⟩ := pr2 (some_inj hF1)
  exact ret2 Tryz.results180 (v1 := .agg #[vi 0, vi 0, vi 0, vi 0]) (resAt_cellA (B := aD b1) (i := 0) (cs := [vi 0, vi 0, vi 0, vi 0]) (vs := [vi 0, vi 0, vi 0, vi 0]) rfl k_ag_61 k_sz_61_4 (hS5.cf (i := 1) rfl) rfl rfl) (v2 := .bool false) (resAt_tmp rfl) ⟨rfl, (hS5.sN [])⟩
 ·skip
  have hF2 := cf' hF hb
  refine cw_skip (cw_seq (cw_region ?_))
  refine sQ 13 (Y_fieldAddr (B := aD b) (i := 0) (s := 0) k_fd_61_1_1_3 k_sz_3_1 rfl rfl) ?_
  refine sQ 14 (Y_load1 (B := aD b) (i := 1) (cs := kR_ x) (v := vi x.B) k_sc_3 rfl rfl (hS4.cf (i := 0) rfl) rfl) ?_
  refine sQ 15 (Y_fieldAddr (B := aD b) (i := 0) (s := 0) k_fd_61_3_3_3 k_sz_3_1 rfl rfl) ?_
  refine sQ 16 (Y_load1 (B := aD b) (i := 3) (cs := kR_ x) (v := vi x.D) k_sc_3 rfl rfl (hS4.cf (i := 0) rfl) rfl) ?_
  refine sQ 17 (Y_sub (k := .i64) (a := x.B) (b := x.D) rfl rfl rfl) ?_
  refine sQ 18 (Y_quo (k := .i64) (a := (i64.wrap (x.B - x.D))) (b := 2) rfl rfl rfl (by decide)) ?_
  refine sQ 19 (Y_fieldAddr (B := aD b) (i := 0) (s := 0) k_fd_61_0_0_3 k_sz_3_1 rfl rfl) ?_
  refine sQ 20 (Y_load1 (B := aD b) (i := 0) (cs := kR_ x) (v := vi x.A) k_sc_3 rfl rfl (hS4.cf (i := 0) rfl) rfl) ?_
  refine sQ 21 (Y_fieldAddr (B := aD b) (i := 0) (s := 0) k_fd_61_2_2_3 k_sz_3_1 rfl rfl) ?_
  refine sQ 22 (Y_load1 (B := aD b) (i := 2) (cs := kR_ x) (v := vi x.C) k_sc_3 rfl rfl (hS4.cf (i := 0) rfl) rfl) ?_
  refine sQ 23 (Y_add (k := .i64) (a := x.A) (b := x.C) rfl rfl rfl) ?_
  refine sQ 24 (Y_quo (k := .i64) (a := (i64.wrap (x.A + x.C))) (b := 2) rfl rfl rfl (by decide)) ?_
  refine sQ 25 (Y_fieldAddr (B := aD b) (i := 0) (s := 0) k_fd_61_1_1_3 k_sz_3_1 rfl rfl) ?_
  refine sQ 26 (Y_load1 (B := aD b) (i := 1) (cs := kR_ x) (v := vi x.B) k_sc_3 rfl rfl (hS4.cf (i := 0) rfl) rfl) ?_
  refine sQ 27 (Y_fieldAddr (B := aD b) (i := 0) (s := 0) k_fd_61_3_3_3 k_sz_3_1 rfl rfl) ?_
  refine sQ 28 (Y_load1 (B := aD b) (i := 3) (cs := kR_ x) (v := vi x.D) k_sc_3 rfl rfl (hS4.cf (i := 0) rfl) rfl) ?_
  refine sQ 29 (Y_add (k := .i64) (a := x.B) (b := x.D) rfl rfl rfl) ?_
  refine sQ 30 (Y_quo (k := .i64) (a := (i64.wrap (x.B + x.D))) (b := 2) rfl rfl rfl (by decide)) ?_
  refine sQ 31 (Y_fieldAddr (B := aD b) (i := 0) (s := 0) k_fd_61_2_2_3 k_sz_3_1 rfl rfl) ?_
  refine sQ 32 (Y_load1 (B := aD b) (i := 2) (cs := kR_ x) (v := vi x.C) k_sc_3 rfl rfl (hS4.cf (i := 0) rfl) rfl) ?_
  refine sQ 33 (Y_fieldAddr (B := aD b) (i := 0) (s := 0) k_fd_61_0_0_3 k_sz_3_1 rfl rfl) ?_
  refine sQ 34 (Y_load1 (B := aD b) (i := 0) (cs := kR_ x) (v := vi x.A) k_sc_3 rfl rfl (hS4.cf (i := 0) rfl) rfl) ?_
  refine sQ 35 (Y_sub (k := .i64) (a := x.C) (b := x.A) rfl rfl rfl) ?_
  refine sQ 36 (Y_quo (k := .i64) (a := (i64.wrap (x.C - x.A))) (b := 2) rfl rfl rfl (by decide)) ?_
  refine sQ 37 (Y_buildS (zs := [vi 0, vi 0, vi 0, vi 0]) (vs := [(0, vi (i64.wrap (Int.tdiv (i64.wrap (x.B - x.D)) 2))), (1, vi (i64.wrap (Int.tdiv (i64.wrap (x.A + x.C)) 2))), (2, vi (i64.wrap (Int.tdiv (i64.wrap (x.B + x.D)) 2))), (3, vi (i64.wrap (Int.tdiv (i64.wrap (x.C - x.A)) 2)))]) (cs := [vi (i64.wrap (Int.tdiv (i64.wrap (x.B - x.D)) 2)), vi (i64.wrap (Int.tdiv (i64.wrap (x.A + x.C)) 2)), vi (i64.wrap (Int.tdiv (i64.wrap (x.B + x.D)) 2)), vi (i64.wrap (Int.tdiv (i64.wrap (x.C - x.A)) 2))]) k_pl_61 k_zero_61 rfl (mpc rfl (mpc rfl (mpc rfl (mpc rfl mpn)))) rfl) ?_
  refine sQ 38 (Y_loadA (B := aD b) (i := 0) (cs := kR_ x) (vs := kR_ x) k_ag_61 k_sz_61_4 rfl rfl (hS4.cf (i := 0) rfl) rfl rfl) ?_
  refine sS 39 (Ys_bslice (s := 4) (len := 1) (vs := [(0, gR_ x)]) (cs := kR_ x) (zs := [vi 0, vi 0, vi 0, vi 0]) (m := 4) hS4 k_sl_196_61 k_sz_61_4 k_zc_61 rfl (mpc rfl mpn) rfl rfl rfl (by kernel_rfl) (by kernel_rfl) rfl) ?_
  rintro _ w_5 ⟨b2, rfl, hS6⟩
  obtain ⟨⟨r_4, r_5⟩, hc2, hF2⟩ := bind_inv hF2
  refine sc 40 rfl rfl (Yc_func (g := 179) (vs := [.agg #[vi (i64.wrap (Int.tdiv (i64.wrap (x.B - x.D)) 2)), vi (i64.wrap (Int.tdiv (i64.wrap (x.A + x.C)) 2)), vi (i64.wrap (Int.tdiv (i64.wrap (x.B + x.D)) 2)), vi (i64.wrap (Int.tdiv (i64.wrap (x.C - x.A)) 2))], .slice (aD b2) 1 1]) k_call_179 rfl (mc rfl (mc rfl mn)) (c_impl_ringIf (TRing.mk (i64.wrap (Int.tdiv (i64.wrap (x.B - x.D)) 2)) (i64.wrap (Int.tdiv (i64.wrap (x.A + x.C)) 2)) (i64.wrap (Int.tdiv (i64.wrap (x.B + x.D)) 2)) (i64.wrap (Int.tdiv (i64.wrap (x.C - x.A)) 2))) [x] (aD b2) 1 1 _ rfl (hS6.inn [false, false, true] rfl [] rfl) hc2)) ?_
  rintro _ w_6 ⟨rfl, hd1⟩
  have hS7 := hS6.out [false, false, true] rfl hd1
  refine sQ 41 (Y_extract (v := gR_ r_4) rfl rfl rfl) ?_
  refine sQ 42 (Y_extract (v := .bool r_5) rfl rfl rfl) ?_
  refine s0 (Ys_store (i := 1) (s := 4) (B := aD b1) (T' := 61) (v := gR_ r_4) (vs := kR_ r_4) (k := 0) (cs' := kR_ r_4) hS7 k_sz_61_4 rfl rfl rfl rfl rfl rfl rfl (lB rfl) rfl rfl) ?_
  rintro _ w_7 ⟨rfl, hS8⟩
  refine sQ 3 (Y_assign (v := .bool r_5) rfl rfl) (rw_nil (cw_ret ?_))
  obtain ⟨rfl, rfl⟩ := pr2 (some_inj hF2)
  exact ret2 Tryz.results180 (v1 := gR_ r_4) (resAt_cellA (B := aD b1) (i := 0) (cs := kR_ r_4) (vs := kR_ r_4) rfl k_ag_61 k_sz_61_4 (hS8.cf (i := 1) rfl) rfl rfl) (v2 := .bool r_5) (resAt_tmp rfl) ⟨rfl, (hS8.sN [])⟩

theorem c_impl_DyadicOf (num : TRing) (exp : Int)  (w0 : World)  (hS : ST w0 [] w0 [] []) {r_ : TDyadic} {r_1 : Bool} (hF : F_impl_DyadicOf num exp = some (r_, r_1)) :
  CV Tryz.prog 161 #[gR_ num, vi exp] w0 (fun v w' => v = .tuple #[gD_ r_, .bool r_1] ∧ ST w0 [] w' [] []) := by
 unfold F_impl_DyadicOf at hF
 refine cv_of_cw 31 Tryz.func161 rfl Tryz.ntmps161 rfl ?_
 refine cw_seq (cw_region ?_)
 refine sS 2 (Ys_box (T := 61) (v := gR_ num) (cs := kR_ num) (m := 4) hS rfl rfl rfl rfl) ?_
 rintro _ w_ ⟨b, rfl, hS1⟩
 refine sS 4 (Ys_alloc (T := 63) (cs := kZ_) (m := 5) hS1 k_zero_63 rfl rfl rfl) ?_
 rintro _ w_1 ⟨b1, rfl, hS2⟩
 refine sQ 5 (Y_assign (v := .bool false) rfl rfl) (rw_nil (cw_seq (cw_seq (cw_region ?_))))
 refine sQ 6 (Y_loadA (B := aD b) (i := 0) (cs := kR_ num) (vs := kR_ num) k_ag_61 k_sz_61_4 rfl rfl (hS2.cf (i := 0) rfl) rfl rfl) ?_
 obtain ⟨r_2, hc, hF⟩ := bind_inv hF
 refine sc 7 rfl rfl (Yc_func (g := 152) (vs := [gR_ num]) k_call_152 rfl (mc rfl mn) (c_impl_IsValidRing num _  (hS2.inn0 [] rfl) hc)) ?_
 rintro _ w_2 ⟨rfl, hd⟩
 have hS3 := hS2.out00 hd
 refine sQ 8 (Y_not (p := r_2) rfl rfl) ?_
 refine sQ 9 (Y_move (v := .bool (!r_2)) rfl rfl) ?_
 refine sgq 10 (B := (!(!r_2))) (v := vi exp) rfl rfl (uF_ 9) (fun hg => (Y_move (v := vi exp) rfl rfl)) ?_
 obtain ⟨r_3, hc1, hF⟩ := bind_inv hF
 refine sgc 11 (B := (!(!r_2))) (v := .bool r_3) (F := hS3.fn) rfl rfl (uF_ 9) hS3 (fun hg1 => (Yc_func (g := 65) (vs := [vi exp, vi 0, vi 60]) k_call_65 rfl (mc (gv_of (v := vi exp) hg1) (mc rfl (mc rfl mn))) (CV.mono (c_impl_within exp 0 60 _  (hS3.inn0 [] rfl) (gb_inv hc1 hg1)) (by rintro _ _ ⟨rfl, h⟩; exact ⟨rfl, hS3.out00 h⟩)))) ?_
 rintro w_3 hS4
 refine sgq 12 (B := (!(!r_2))) (v := .bool (!r_3)) rfl rfl (uF_ 9) (fun hg2 => (Y_not (p := r_3) rfl (gv_of (v := .bool r_3) hg2))) ?_
 refine sQ 13 (Y_or (b := (!r_2)) (z := (!r_3)) rfl rfl rfl rfl) (rw_nil ?_)
 refine cw_cond (b := ((!r_2) || (!r_3))) rfl (fun hb => ?_) (fun hb => ?_)
 ·skip
  have hF1 := ct hF hb
  refine cw_seq (cw_region ?_)
  refine sQ 14 (Y_buildS (zs := kZ_) (vs := []) (cs := kZ_) k_pl_63 k_zero_63 rfl mpn rfl) ?_
  refine s0 (Ys_store (i := 1) (s := 5) (B := aD b1) (T' := 63) (v := gZ_) (vs := kZ_) (k := 0) (cs' := kZ_) hS4 k_sz_63_5 rfl rfl rfl rfl rfl rfl rfl (lB rfl) rfl rfl) ?_
  rintro _ w_4 ⟨rfl, hS5⟩
  refine sQ 5 (Y_assign (v := .bool false) rfl rfl) (rw_nil (cw_ret ?_))
  obtain ⟨rfl, rfl⟩ := pr2 (some_inj hF1)
  exact ret2 Tryz.results161 (v1 := gZ_) (resAt_cellA (B := aD b1) (i := 0) (cs := kZ_) (vs := kZ_) rfl k_ag_63 k_sz_63_5 (hS5.cf (i := 1) rfl) rfl rfl) (v2 := .bool false) (resAt_tmp rfl) ⟨rfl, (hS5.sN [])⟩
 ·skip
  have hF2 := cf' hF hb
  refine cw_skip (cw_seq ?_)
  obtain ⟨z, hz, hF3⟩ := bind_inv hF2
  refine cw_block ?_
  refine cw_loop (fun k f w => ∃ (exp1 : Int) (A : Int) (B : Int) (C : Int) (D : Int), FF f [(1, vi exp1), (2, pt (aD b) 0), (4, pt (aD b1) 0)] ∧ ST w0 [] w [⟨aD b, 61, [vi A, vi B, vi C, vi D], 4⟩, ⟨aD b1, 63, kZ_, 5⟩] [] ∧ whX F_impl_DyadicOf_l1 k (exp1, A, B, C, D) = some z) fuel ⟨exp, num.A, num.B, num.C, num.D, (FF.cons rfl (FF.cons rfl (FF.cons rfl FF.nil))), (hS4.sel [0, 1] rfl rfl), hz⟩ ?_
  rintro k_ f w ⟨exp1, A, B, C, D, hf, hS6, hL⟩
  obtain ⟨k_1, y, rfl, hb1, hL1⟩ := whX_go hL
  unfold F_impl_DyadicOf_l1 at hb1
  refine cw_seq (cw_seq (cw_region ?_))
  refine sQ 15 (Y_move (v := vi exp1) rfl (hf.get 1 0 rfl)) ?_
  refine sQ 16 (Y_gt (k := .i64) (a := exp1) (b := 0) rfl rfl rfl) ?_
  refine sQ 17 (Y_move (v := .bool (decide (0 < exp1))) rfl rfl) ?_
  refine sgq 18 (B := (decide (0 < exp1))) (v := .agg #[vi A, vi B, vi C, vi D]) rfl rfl (uT_ 17) (fun hg3 => (Y_loadA (B := aD b) (i := 0) (cs := [vi A, vi B, vi C, vi D]) (vs := [vi A, vi B, vi C, vi D]) k_ag_61 k_sz_61_4 rfl (hf.get 2 1 rfl) (hS6.cf (i := 0) rfl) rfl rfl)) ?_
  obtain ⟨r_4, hc2, hb1⟩ := bind_inv hb1
  refine sgc 19 (B := (decide (0 < exp1))) (v := .bool r_4) (F := hS6.fn) rfl rfl (uT_ 17) hS6 (fun hg4 => (Yc_func (g := 169) (vs := [.agg #[vi A, vi B, vi C, vi D]]) k_call_169 rfl (mc (gv_of (v := .agg #[vi A, vi B, vi C, vi D]) hg4) mn) (CV.mono (c_impl_isEven (TRing.mk A B C D) _  (hS6.inn0 [] rfl) (gb_inv hc2 hg4)) (by rintro _ _ ⟨rfl, h⟩; exact ⟨rfl, hS6.out00 h⟩)))) ?_
  rintro w_5 hS7
  refine sQ 20 (Y_and (b := (decide (0 < exp1))) (z := r_4) rfl rfl rfl rfl) (rw_nil ?_)
  refine cw_cond (b := ((decide (0 < exp1)) && r_4)) rfl (fun hb2 => ?_) (fun hb2 => ?_)
  ·skip
   have hF4 := ct hb1 hb2
   refine cw_skip (cw_block (cw_seq (cw_region ?_)))
   refine sQ 22 (Y_loadA (B := aD b) (i := 0) (cs := [vi A, vi B, vi C, vi D]) (vs := [vi A, vi B, vi C, vi D]) k_ag_61 k_sz_61_4 rfl (hf.get 2 1 rfl) (hS7.cf (i := 0) rfl) rfl rfl) ?_
   obtain ⟨⟨r_5, r_6⟩, hc3, hF4⟩ := bind_inv hF4
   refine sc 23 rfl rfl (Yc_func (g := 180) (vs := [.agg #[vi A, vi B, vi C, vi D]]) k_call_180 rfl (mc rfl mn) (c_impl_DivRootTwo (TRing.mk A B C D) _  (hS7.inn0 [] rfl) hc3)) ?_
   rintro _ w_6 ⟨rfl, hd1⟩
   have hS8 := hS7.out00 hd1
   refine sQ 21 (Y_move (v := .tuple #[gR_ r_5, .bool r_6]) rfl rfl) ?_
   refine sQ 24 (Y_extract (v := gR_ r_5) rfl rfl rfl) ?_
   refine sQ 25 (Y_extract (v := .bool r_6) rfl rfl rfl) ?_
   refine s0 (Ys_store (i := 0) (s := 4) (B := aD b) (T' := 61) (v := gR_ r_5) (vs := kR_ r_5) (k := 0) (cs' := kR_ r_5) hS8 k_sz_61_4 rfl (hf.get 2 1 rfl) rfl rfl rfl rfl rfl (lB rfl) rfl rfl) ?_
   rintro _ w_7 ⟨rfl, hS9⟩
   refine rw_nil (cw_region ?_)
   refine sQ 26 (Y_move (v := vi exp1) rfl (hf.get 1 0 rfl)) ?_
   refine sQ 27 (Y_sub (k := .i64) (a := exp1) (b := 1) rfl rfl rfl) ?_
   refine sQ 1 (Y_assign (v := vi (i64.wrap (exp1 - 1))) rfl rfl) (rw_nil ?_)
   obtain rfl := some_inj hF4
   exact ⟨k_1, Nat.lt_succ_self _, (i64.wrap (exp1 - 1)), r_5.A, r_5.B, r_5.C, r_5.D, (FF.cons rfl (FF.cons (hf.get 2 1 rfl) (FF.cons (hf.get 4 2 rfl) FF.nil))), (hS9.sel [0, 1] rfl rfl), hL1⟩
  ·skip
   have hF5 := cf' hb1 hb2
   refine cw_exit rfl ?_
   obtain rfl := some_inj hF5
   obtain rfl := some_inj hL1
   refine cw_seq (cw_region ?_)
   refine sQ 28 (Y_loadA (B := aD b) (i := 0) (cs := [vi A, vi B, vi C, vi D]) (vs := [vi A, vi B, vi C, vi D]) k_ag_61 k_sz_61_4 rfl (hf.get 2 1 rfl) (hS7.cf (i := 0) rfl) rfl rfl) ?_
   refine sQ 29 (Y_move (v := vi exp1) rfl (hf.get 1 0 rfl)) ?_
   refine sQ 30 (Y_buildS (zs := kZ_) (vs := [(0, .agg #[vi A, vi B, vi C, vi D]), (1, vi exp1)]) (cs := [vi A, vi B, vi C, vi D, vi exp1]) k_pl_63 k_zero_63 rfl (mpc rfl (mpc rfl mpn)) rfl) ?_
   refine s0 (Ys_store (i := 1) (s := 5) (B := aD b1) (T' := 63) (v := .agg #[vi A, vi B, vi C, vi D, vi exp1]) (vs := [vi A, vi B, vi C, vi D, vi exp1]) (k := 0) (cs' := [vi A, vi B, vi C, vi D, vi exp1]) hS7 k_sz_63_5 rfl (hf.get 4 2 rfl) rfl rfl rfl rfl rfl (lB rfl) rfl rfl) ?_
   rintro _ w_8 ⟨rfl, hS10⟩
   refine sQ 5 (Y_assign (v := .bool true) rfl rfl) (rw_nil (cw_ret ?_))
   obtain ⟨rfl, rfl⟩ := pr2 (some_inj hF3)
   exact ret2 Tryz.results161 (v1 := .agg #[vi A, vi B, vi C, vi D, vi exp1]) (resAt_cellA (B := aD b1) (i := 0) (cs := [vi A, vi B, vi C, vi D, vi exp1]) (vs := [vi A, vi B, vi C, vi D, vi exp1]) (hf.get 4 2 rfl) k_ag_63 k_sz_63_5 (hS10.cf (i := 1) rfl) rfl rfl) (v2 := .bool true) (resAt_tmp rfl) ⟨rfl, (hS10.sN [])⟩

theorem c_impl_MulDyadic (x : TDyadic) (y : TDyadic)  (w0 : World)  (hS : ST w0 [] w0 [] []) {r_ : TDyadic} {r_1 : Bool} (hF : F_impl_MulDyadic x y = some (r_, r_1)) :
  CV Tryz.prog 125 #[gD_ x, gD_ y] w0 (fun v w' => v = .tuple #[gD_ r_, .bool r_1] ∧ ST w0 [] w' [] []) := by
 unfold F_impl_MulDyadic at hF
 refine cv_of_cw 38 Tryz.func125 rfl Tryz.ntmps125 rfl ?_
 refine cw_seq (cw_region ?_)
 refine sS 2 (Ys_box (T := 63) (v := gD_ x) (cs := kD_ x) (m := 5) hS rfl rfl rfl rfl) ?_
 rintro _ w_ ⟨b, rfl, hS1⟩
 refine sS 3 (Ys_box (T := 63) (v := gD_ y) (cs := kD_ y) (m := 5) hS1 rfl rfl rfl rfl) ?_
 rintro _ w_1 ⟨b1, rfl, hS2⟩
 refine sS 4 (Ys_alloc (T := 63) (cs := kZ_) (m := 5) hS2 k_zero_63 rfl rfl rfl) ?_
 rintro _ w_2 ⟨b2, rfl, hS3⟩
 refine sQ 5 (Y_assign (v := .bool false) rfl rfl) (rw_nil (cw_seq (cw_region ?_)))
 refine sQ 9 (Y_fieldAddr (B := aD b) (i := 0) (s := 3) k_fd_63_0_0_61 k_sz_61_4 rfl rfl) ?_
 refine sQ 10 (Y_loadA (B := aD b) (i := 0) (cs := kD_ x) (vs := kR_ x.Num) k_ag_61 k_sz_61_4 rfl rfl (hS3.cf (i := 0) rfl) rfl rfl) ?_
 refine sQ 11 (Y_fieldAddr (B := aD b1) (i := 0) (s := 3) k_fd_63_0_0_61 k_sz_61_4 rfl rfl) ?_
 refine sQ 12 (Y_loadA (B := aD b1) (i := 0) (cs := kD_ y) (vs := kR_ y.Num) k_ag_61 k_sz_61_4 rfl rfl (hS3.cf (i := 1) rfl) rfl rfl) ?_
 obtain ⟨⟨r_2, r_3⟩, hc, hF⟩ := bind_inv hF
 refine sc 13 rfl rfl (Yc_func (g := 160) (vs := [gR_ x.Num, gR_ y.Num]) k_call_160 rfl (mc rfl (mc rfl mn)) (c_impl_MulRing x.Num y.Num _  (hS3.inn0 [] rfl) hc)) ?_
 rintro _ w_3 ⟨rfl, hd⟩
 have hS4 := hS3.out00 hd
 refine sQ 8 (Y_move (v := .tuple #[gR_ r_2, .bool r_3]) rfl rfl) ?_
 refine sQ 14 (Y_extract (v := gR_ r_2) rfl rfl rfl) ?_
 refine sQ 15 (Y_extract (v := .bool r_3) rfl rfl rfl) ?_
 refine sS 6 (Ys_alloc (T := 61) (cs := [vi 0, vi 0, vi 0, vi 0]) (m := 4) hS4 k_zero_61 rfl rfl rfl) ?_
 rintro _ w_4 ⟨b3, rfl, hS5⟩
 refine s0 (Ys_store (i := 3) (s := 4) (B := aD b3) (T' := 61) (v := gR_ r_2) (vs := kR_ r_2) (k := 0) (cs' := kR_ r_2) hS5 k_sz_61_4 rfl rfl rfl rfl rfl rfl rfl (lB rfl) rfl rfl) ?_
 rintro _ w_5 ⟨rfl, hS6⟩
 refine sQ 7 (Y_assign (v := .bool r_3) rfl rfl) (rw_nil (cw_seq (cw_seq (cw_region ?_))))
 refine sQ 16 (Y_loadA (B := aD b) (i := 0) (cs := kD_ x) (vs := kD_ x) k_ag_63 k_sz_63_5 rfl rfl (hS6.cf (i := 0) rfl) rfl rfl) ?_
 obtain ⟨r_4, hc1, hF⟩ := bind_inv hF
 refine sc 17 rfl rfl (Yc_func (g := 140) (vs := [gD_ x]) k_call_140 rfl (mc rfl mn) (c_impl_IsValidDyadic x _  (hS6.inn0 [] rfl) hc1)) ?_
 rintro _ w_6 ⟨rfl, hd1⟩
 have hS7 := hS6.out00 hd1
 refine sQ 18 (Y_not (p := r_4) rfl rfl) ?_
 refine sQ 19 (Y_move (v := .bool (!r_4)) rfl rfl) ?_
 refine sgq 20 (B := (!(!r_4))) (v := gD_ y) rfl rfl (uF_ 19) (fun hg => (Y_loadA (B := aD b1) (i := 0) (cs := kD_ y) (vs := kD_ y) k_ag_63 k_sz_63_5 rfl rfl (hS7.cf (i := 1) rfl) rfl rfl)) ?_
 obtain ⟨r_5, hc2, hF⟩ := bind_inv hF
 refine sgc 21 (B := (!(!r_4))) (v := .bool r_5) (F := hS7.fn) rfl rfl (uF_ 19) hS7 (fun hg1 => (Yc_func (g := 140) (vs := [gD_ y]) k_call_140 rfl (mc (gv_of (v := gD_ y) hg1) mn) (CV.mono (c_impl_IsValidDyadic y _  (hS7.inn0 [] rfl) (gb_inv hc2 hg1)) (by rintro _ _ ⟨rfl, h⟩; exact ⟨rfl, hS7.out00 h⟩)))) ?_
 rintro w_7 hS8
 refine sgq 22 (B := (!(!r_4))) (v := .bool (!r_5)) rfl rfl (uF_ 19) (fun hg2 => (Y_not (p := r_5) rfl (gv_of (v := .bool r_5) hg2))) ?_
 refine sQ 23 (Y_or (b := (!r_4)) (z := (!r_5)) rfl rfl rfl rfl) ?_
 refine sQ 24 (Y_move (v := .bool ((!r_4) || (!r_5))) rfl rfl) ?_
 refine sgq 25 (B := (!((!r_4) || (!r_5)))) (v := .bool r_3) rfl rfl (uF_ 24) (fun hg3 => (Y_move (v := .bool r_3) rfl rfl)) ?_
 refine sgq 26 (B := (!((!r_4) || (!r_5)))) (v := .bool (!r_3)) rfl rfl (uF_ 24) (fun hg4 => (Y_not (p := r_3) rfl (gv_of (v := .bool r_3) hg4))) ?_
 refine sQ 27 (Y_or (b := ((!r_4) || (!r_5))) (z := (!r_3)) rfl rfl rfl rfl) (rw_nil ?_)
 refine cw_cond (b := (((!r_4) || (!r_5)) || (!r_3))) rfl (fun hb => ?_) (fun hb => ?_)
 ·skip
  have hF1 := ct hF hb
  refine cw_seq (cw_region ?_)
  refine sQ 28 (Y_buildS (zs := kZ_) (vs := []) (cs := kZ_) k_pl_63 k_zero_63 rfl mpn rfl) ?_
  refine s0 (Ys_store (i := 2) (s := 5) (B := aD b2) (T' := 63) (v := gZ_) (vs := kZ_) (k := 0) (cs' := kZ_) hS8 k_sz_63_5 rfl rfl rfl rfl rfl rfl rfl (lB rfl) rfl rfl) ?_
  rintro _ w_8 ⟨rfl, hS9⟩
  refine sQ 5 (Y_assign (v := .bool false) rfl rfl) (rw_nil (cw_ret ?_))
  obtain ⟨rfl, rfl⟩ := pr2 (some_inj hF1)
  exact ret2 Tryz.results125 (v1 := gZ_) (resAt_cellA (B := aD b2) (i := 0) (cs := kZ_) (vs := kZ_) rfl k_ag_63 k_sz_63_5 (hS9.cf (i := 2) rfl) rfl rfl) (v2 := .bool false) (resAt_tmp rfl) ⟨rfl, (hS9.sN [])⟩
 ·skip
  have hF2 := cf' hF hb
  refine cw_skip (cw_seq (cw_region ?_))
  refine sQ 29 (Y_loadA (B := aD b3) (i := 0) (cs := kR_ r_2) (vs := kR_ r_2) k_ag_61 k_sz_61_4 rfl rfl (hS8.cf (i := 3) rfl) rfl rfl) ?_
  refine sQ 30 (Y_fieldAddr (B := aD b) (i := 0) (s := 0) k_fd_63_1_4_3 k_sz_3_1 rfl rfl) ?_
  refine sQ 31 (Y_load1 (B := aD b) (i := 4) (cs := kD_ x) (v := vi x.Exp) k_sc_3 rfl rfl (hS8.cf (i := 0) rfl) rfl) ?_
  refine sQ 32 (Y_fieldAddr (B := aD b1) (i := 0) (s := 0) k_fd_63_1_4_3 k_sz_3_1 rfl rfl) ?_
  refine sQ 33 (Y_load1 (B := aD b1) (i := 4) (cs := kD_ y) (v := vi y.Exp) k_sc_3 rfl rfl (hS8.cf (i := 1) rfl) rfl) ?_
  refine sQ 34 (Y_add (k := .i64) (a := x.Exp) (b := y.Exp) rfl rfl rfl) ?_
  obtain ⟨⟨r_6, r_7⟩, hc3, hF2⟩ := bind_inv hF2
  refine sc 35 rfl rfl (Yc_func (g := 161) (vs := [gR_ r_2, vi (i64.wrap (x.Exp + y.Exp))]) k_call_161 rfl (mc rfl (mc rfl mn)) (c_impl_DyadicOf r_2 (i64.wrap (x.Exp + y.Exp)) _  (hS8.inn0 [] rfl) hc3)) ?_
  rintro _ w_9 ⟨rfl, hd2⟩
  have hS10 := hS8.out00 hd2
  refine sQ 36 (Y_extract (v := gD_ r_6) rfl rfl rfl) ?_
  refine sQ 37 (Y_extract (v := .bool r_7) rfl rfl rfl) ?_
  refine s0 (Ys_store (i := 2) (s := 5) (B := aD b2) (T' := 63) (v := gD_ r_6) (vs := kD_ r_6) (k := 0) (cs' := kD_ r_6) hS10 k_sz_63_5 rfl rfl rfl rfl rfl rfl rfl (lB rfl) rfl rfl) ?_
  rintro _ w_10 ⟨rfl, hS11⟩
  refine sQ 5 (Y_assign (v := .bool r_7) rfl rfl) (rw_nil (cw_ret ?_))
  obtain ⟨rfl, rfl⟩ := pr2 (some_inj hF2)
  exact ret2 Tryz.results125 (v1 := gD_ r_6) (resAt_cellA (B := aD b2) (i := 0) (cs := kD_ r_6) (vs := kD_ r_6) rfl k_ag_63 k_sz_63_5 (hS11.cf (i := 2) rfl) rfl rfl) (v2 := .bool r_7) (resAt_tmp rfl) ⟨rfl, (hS11.sN [])⟩

theorem c_impl_MulRootTwo (x : TRing)  (w0 : World)  (hS : ST w0 [] w0 [] []) {r_ : TRing} {r_1 : Bool} (hF : F_impl_MulRootTwo x = some (r_, r_1)) :
  CV Tryz.prog 192 #[gR_ x] w0 (fun v w' => v = .tuple #[gR_ r_, .bool r_1] ∧ ST w0 [] w' [] []) := by
 unfold F_impl_MulRootTwo at hF
 refine cv_of_cw 30 Tryz.func192 rfl Tryz.ntmps192 rfl ?_
 refine cw_seq (cw_region ?_)
 refine sS 1 (Ys_box (T := 61) (v := gR_ x) (cs := kR_ x) (m := 4) hS rfl rfl rfl rfl) ?_
 rintro _ w_ ⟨b, rfl, hS1⟩
 refine sS 2 (Ys_alloc (T := 61) (cs := [vi 0, vi 0, vi 0, vi 0]) (m := 4) hS1 k_zero_61 rfl rfl rfl) ?_
 rintro _ w_1 ⟨b1, rfl, hS2⟩
 refine sQ 3 (Y_assign (v := .bool false) rfl rfl) (rw_nil (cw_seq (cw_region ?_)))
 refine sQ 4 (Y_fieldAddr (B := aD b) (i := 0) (s := 0) k_fd_61_1_1_3 k_sz_3_1 rfl rfl) ?_
 refine sQ 5 (Y_load1 (B := aD b) (i := 1) (cs := kR_ x) (v := vi x.B) k_sc_3 rfl rfl (hS2.cf (i := 0) rfl) rfl) ?_
 refine sQ 6 (Y_fieldAddr (B := aD b) (i := 0) (s := 0) k_fd_61_3_3_3 k_sz_3_1 rfl rfl) ?_
 refine sQ 7 (Y_load1 (B := aD b) (i := 3) (cs := kR_ x) (v := vi x.D) k_sc_3 rfl rfl (hS2.cf (i := 0) rfl) rfl) ?_
 refine sQ 8 (Y_sub (k := .i64) (a := x.B) (b := x.D) rfl rfl rfl) ?_
 refine sQ 9 (Y_fieldAddr (B := aD b) (i := 0) (s := 0) k_fd_61_0_0_3 k_sz_3_1 rfl rfl) ?_
 refine sQ 10 (Y_load1 (B := aD b) (i := 0) (cs := kR_ x) (v := vi x.A) k_sc_3 rfl rfl (hS2.cf (i := 0) rfl) rfl) ?_
 refine sQ 11 (Y_fieldAddr (B := aD b) (i := 0) (s := 0) k_fd_61_2_2_3 k_sz_3_1 rfl rfl) ?_
 refine sQ 12 (Y_load1 (B := aD b) (i := 2) (cs := kR_ x) (v := vi x.C) k_sc_3 rfl rfl (hS2.cf (i := 0) rfl) rfl) ?_
 refine sQ 13 (Y_add (k := .i64) (a := x.A) (b := x.C) rfl rfl rfl) ?_
 refine sQ 14 (Y_fieldAddr (B := aD b) (i := 0) (s := 0) k_fd_61_1_1_3 k_sz_3_1 rfl rfl) ?_
 refine sQ 15 (Y_load1 (B := aD b) (i := 1) (cs := kR_ x) (v := vi x.B) k_sc_3 rfl rfl (hS2.cf (i := 0) rfl) rfl) ?_
 refine sQ 16 (Y_fieldAddr (B := aD b) (i := 0) (s := 0) k_fd_61_3_3_3 k_sz_3_1 rfl rfl) ?_
 refine sQ 17 (Y_load1 (B := aD b) (i := 3) (cs := kR_ x) (v := vi x.D) k_sc_3 rfl rfl (hS2.cf (i := 0) rfl) rfl) ?_
 refine sQ 18 (Y_add (k := .i64) (a := x.B) (b := x.D) rfl rfl rfl) ?_
 refine sQ 19 (Y_fieldAddr (B := aD b) (i := 0) (s := 0) k_fd_61_2_2_3 k_sz_3_1 rfl rfl) ?_
 refine sQ 20 (Y_load1 (B := aD b) (i := 2) (cs := kR_ x) (v := vi x.C) k_sc_3 rfl rfl (hS2.cf (i := 0) rfl) rfl) ?_
 refine sQ 21 (Y_fieldAddr (B := aD b) (i := 0) (s := 0) k_fd_61_0_0_3 k_sz_3_1 rfl rfl) ?_
 refine sQ 22 (Y_load1 (B := aD b) (i := 0) (cs := kR_ x) (v := vi x.A) k_sc_3 rfl rfl (hS2.cf (i := 0) rfl) rfl) ?_
 refine sQ 23 (Y_sub (k := .i64) (a := x.C) (b := x.A) rfl rfl rfl) ?_
 refine sQ 24 (Y_buildS (zs := [vi 0, vi 0, vi 0, vi 0]) (vs := [(0, vi (i64.wrap (x.B - x.D))), (1, vi (i64.wrap (x.A + x.C))), (2, vi (i64.wrap (x.B + x.D))), (3, vi (i64.wrap (x.C - x.A)))]) (cs := [vi (i64.wrap (x.B - x.D)), vi (i64.wrap (x.A + x.C)), vi (i64.wrap (x.B + x.D)), vi (i64.wrap (x.C - x.A))]) k_pl_61 k_zero_61 rfl (mpc rfl (mpc rfl (mpc rfl (mpc rfl mpn)))) rfl) ?_
 refine sQ 25 (Y_loadA (B := aD b) (i := 0) (cs := kR_ x) (vs := kR_ x) k_ag_61 k_sz_61_4 rfl rfl (hS2.cf (i := 0) rfl) rfl rfl) ?_
 refine sS 26 (Ys_bslice (s := 4) (len := 1) (vs := [(0, gR_ x)]) (cs := kR_ x) (zs := [vi 0, vi 0, vi 0, vi 0]) (m := 4) hS2 k_sl_196_61 k_sz_61_4 k_zc_61 rfl (mpc rfl mpn) rfl rfl rfl (by kernel_rfl) (by kernel_rfl) rfl) ?_
 rintro _ w_2 ⟨b2, rfl, hS3⟩
 obtain ⟨⟨r_2, r_3⟩, hc, hF⟩ := bind_inv hF
 refine sc 27 rfl rfl (Yc_func (g := 179) (vs := [.agg #[vi (i64.wrap (x.B - x.D)), vi (i64.wrap (x.A + x.C)), vi (i64.wrap (x.B + x.D)), vi (i64.wrap (x.C - x.A))], .slice (aD b2) 1 1]) k_call_179 rfl (mc rfl (mc rfl mn)) (c_impl_ringIf (TRing.mk (i64.wrap (x.B - x.D)) (i64.wrap (x.A + x.C)) (i64.wrap (x.B + x.D)) (i64.wrap (x.C - x.A))) [x] (aD b2) 1 1 _ rfl (hS3.inn [false, false, true] rfl [] rfl) hc)) ?_
 rintro _ w_3 ⟨rfl, hd⟩
 have hS4 := hS3.out [false, false, true] rfl hd
 refine sQ 28 (Y_extract (v := gR_ r_2) rfl rfl rfl) ?_
 refine sQ 29 (Y_extract (v := .bool r_3) rfl rfl rfl) ?_
 refine s0 (Ys_store (i := 1) (s := 4) (B := aD b1) (T' := 61) (v := gR_ r_2) (vs := kR_ r_2) (k := 0) (cs' := kR_ r_2) hS4 k_sz_61_4 rfl rfl rfl rfl rfl rfl rfl (lB rfl) rfl rfl) ?_
 rintro _ w_4 ⟨rfl, hS5⟩
 refine sQ 3 (Y_assign (v := .bool r_3) rfl rfl) (rw_nil (cw_ret ?_))
 obtain ⟨rfl, rfl⟩ := pr2 (some_inj hF)
 exact ret2 Tryz.results192 (v1 := gR_ r_2) (resAt_cellA (B := aD b1) (i := 0) (cs := kR_ r_2) (vs := kR_ r_2) rfl k_ag_61 k_sz_61_4 (hS5.cf (i := 1) rfl) rfl rfl) (v2 := .bool r_3) (resAt_tmp rfl) ⟨rfl, (hS5.sN [])⟩

theorem c_impl_raised (x : TDyadic) (exp : Int)  (w0 : World)  (hS : ST w0 [] w0 [] []) {r_ : TRing} {r_1 : Bool} (hF : F_impl_raised x exp = some (r_, r_1)) :
  CV Tryz.prog 181 #[gD_ x, vi exp] w0 (fun v w' => v = .tuple #[gR_ r_, .bool r_1] ∧ ST w0 [] w' [] []) := by
 unfold F_impl_raised at hF
 refine cv_of_cw 28 Tryz.func181 rfl Tryz.ntmps181 rfl ?_
 refine cw_seq (cw_region ?_)
 refine sS 2 (Ys_box (T := 63) (v := gD_ x) (cs := kD_ x) (m := 5) hS rfl rfl rfl rfl) ?_
 rintro _ w_ ⟨b, rfl, hS1⟩
 refine sS 4 (Ys_alloc (T := 61) (cs := [vi 0, vi 0, vi 0, vi 0]) (m := 4) hS1 k_zero_61 rfl rfl rfl) ?_
 rintro _ w_1 ⟨b1, rfl, hS2⟩
 refine sQ 5 (Y_assign (v := .bool false) rfl rfl) (rw_nil (cw_seq (cw_region ?_)))
 refine sQ 9 (Y_fieldAddr (B := aD b) (i := 0) (s := 3) k_fd_63_0_0_61 k_sz_61_4 rfl rfl) ?_
 refine sQ 10 (Y_loadA (B := aD b) (i := 0) (cs := kD_ x) (vs := kR_ x.Num) k_ag_61 k_sz_61_4 rfl rfl (hS2.cf (i := 0) rfl) rfl rfl) ?_
 refine sS 6 (Ys_alloc (T := 61) (cs := [vi 0, vi 0, vi 0, vi 0]) (m := 4) hS2 k_zero_61 rfl rfl rfl) ?_
 rintro _ w_2 ⟨b2, rfl, hS3⟩
 refine s0 (Ys_store (i := 2) (s := 4) (B := aD b2) (T' := 61) (v := gR_ x.Num) (vs := kR_ x.Num) (k := 0) (cs' := kR_ x.Num) hS3 k_sz_61_4 rfl rfl rfl rfl rfl rfl rfl (lB rfl) rfl rfl) ?_
 rintro _ w_3 ⟨rfl, hS4⟩
 refine sQ 7 (Y_assign (v := .bool true) rfl rfl) (rw_nil (cw_seq (cw_seq (cw_region ?_))))
 refine sQ 11 (Y_fieldAddr (B := aD b) (i := 0) (s := 0) k_fd_63_1_4_3 k_sz_3_1 rfl rfl) ?_
 refine sQ 12 (Y_load1 (B := aD b) (i := 4) (cs := kD_ x) (v := vi x.Exp) k_sc_3 rfl rfl (hS4.cf (i := 0) rfl) rfl) ?_
 refine sQ 8 (Y_assign (v := vi x.Exp) rfl rfl) (rw_nil ?_)
 obtain ⟨z, hz, hF1⟩ := bind_inv hF
 refine cw_block ?_
 refine cw_loop (fun k f w => ∃ (A : Int) (B : Int) (C : Int) (D : Int) (ok : Bool) (k_ : Int), FF f [(1, vi exp), (4, pt (aD b1) 0), (6, pt (aD b2) 0), (7, .bool ok), (8, vi k_)] ∧ ST w0 [] w [⟨aD b1, 61, [vi 0, vi 0, vi 0, vi 0], 4⟩, ⟨aD b2, 61, [vi A, vi B, vi C, vi D], 4⟩] [] ∧ whX (F_impl_raised_l1 exp) k (A, B, C, D, ok, k_) = some z) fuel ⟨x.Num.A, x.Num.B, x.Num.C, x.Num.D, true, x.Exp, (FF.cons rfl (FF.cons rfl (FF.cons rfl (FF.cons rfl (FF.cons rfl FF.nil))))), (hS4.sel [1, 2] rfl rfl), hz⟩ ?_
 rintro k_1 f w ⟨A, B, C, D, ok, k_, hf, hS5, hL⟩
 obtain ⟨k_2, y, rfl, hb, hL1⟩ := whX_go hL
 unfold F_impl_raised_l1 at hb
 refine cw_seq (cw_seq (cw_region ?_))
 refine sQ 13 (Y_move (v := vi k_) rfl (hf.get 8 4 rfl)) ?_
 refine sQ 14 (Y_move (v := vi exp) rfl (hf.get 1 0 rfl)) ?_
 refine sQ 15 (Y_lt (k := .i64) (a := k_) (b := exp) rfl rfl rfl) ?_
 refine sQ 16 (Y_move (v := .bool (decide (k_ < exp))) rfl rfl) ?_
 refine sgq 17 (B := (decide (k_ < exp))) (v := .bool ok) rfl rfl (uT_ 16) (fun hg => (Y_move (v := .bool ok) rfl (hf.get 7 3 rfl))) ?_
 refine sQ 18 (Y_and (b := (decide (k_ < exp))) (z := ok) rfl rfl rfl rfl) (rw_nil ?_)
 refine cw_cond (b := ((decide (k_ < exp)) && ok)) rfl (fun hb1 => ?_) (fun hb1 => ?_)
 ·skip
  have hF2 := ct hb hb1
  refine cw_skip (cw_seq (cw_block (cw_region ?_)))
  refine sQ 22 (Y_loadA (B := aD b2) (i := 0) (cs := [vi A, vi B, vi C, vi D]) (vs := [vi A, vi B, vi C, vi D]) k_ag_61 k_sz_61_4 rfl (hf.get 6 2 rfl) (hS5.cf (i := 1) rfl) rfl rfl) ?_
  obtain ⟨⟨r_2, r_3⟩, hc, hF2⟩ := bind_inv hF2
  refine sc 23 rfl rfl (Yc_func (g := 192) (vs := [.agg #[vi A, vi B, vi C, vi D]]) k_call_192 rfl (mc rfl mn) (c_impl_MulRootTwo (TRing.mk A B C D) _  (hS5.inn0 [] rfl) hc)) ?_
  rintro _ w_4 ⟨rfl, hd⟩
  have hS6 := hS5.out00 hd
  refine sQ 21 (Y_move (v := .tuple #[gR_ r_2, .bool r_3]) rfl rfl) ?_
  refine sQ 24 (Y_extract (v := gR_ r_2) rfl rfl rfl) ?_
  refine sQ 25 (Y_extract (v := .bool r_3) rfl rfl rfl) ?_
  refine s0 (Ys_store (i := 1) (s := 4) (B := aD b2) (T' := 61) (v := gR_ r_2) (vs := kR_ r_2) (k := 0) (cs' := kR_ r_2) hS6 k_sz_61_4 rfl (hf.get 6 2 rfl) rfl rfl rfl rfl rfl (lB rfl) rfl rfl) ?_
  rintro _ w_5 ⟨rfl, hS7⟩
  refine sQ 7 (Y_assign (v := .bool r_3) rfl rfl) (rw_nil (cw_region ?_))
  refine sQ 19 (Y_move (v := vi k_) rfl (hf.get 8 4 rfl)) ?_
  refine sQ 20 (Y_add (k := .i64) (a := k_) (b := 1) rfl rfl rfl) ?_
  refine sQ 8 (Y_assign (v := vi (i64.wrap (k_ + 1))) rfl rfl) (rw_nil ?_)
  obtain rfl := some_inj hF2
  exact ⟨k_2, Nat.lt_succ_self _, r_2.A, r_2.B, r_2.C, r_2.D, r_3, (i64.wrap (k_ + 1)), (FF.cons (hf.get 1 0 rfl) (FF.cons (hf.get 4 1 rfl) (FF.cons (hf.get 6 2 rfl) (FF.cons rfl (FF.cons rfl FF.nil))))), (hS7.sel [0, 1] rfl rfl), hL1⟩
 ·skip
  have hF3 := cf' hb hb1
  refine cw_exit rfl ?_
  obtain rfl := some_inj hF3
  obtain rfl := some_inj hL1
  refine cw_seq (cw_region ?_)
  refine sQ 26 (Y_loadA (B := aD b2) (i := 0) (cs := [vi A, vi B, vi C, vi D]) (vs := [vi A, vi B, vi C, vi D]) k_ag_61 k_sz_61_4 rfl (hf.get 6 2 rfl) (hS5.cf (i := 1) rfl) rfl rfl) ?_
  refine sQ 27 (Y_move (v := .bool ok) rfl (hf.get 7 3 rfl)) ?_
  refine s0 (Ys_store (i := 0) (s := 4) (B := aD b1) (T' := 61) (v := .agg #[vi A, vi B, vi C, vi D]) (vs := [vi A, vi B, vi C, vi D]) (k := 0) (cs' := [vi A, vi B, vi C, vi D]) hS5 k_sz_61_4 rfl (hf.get 4 1 rfl) rfl rfl rfl rfl rfl (lB rfl) rfl rfl) ?_
  rintro _ w_6 ⟨rfl, hS8⟩
  refine sQ 5 (Y_assign (v := .bool ok) rfl rfl) (rw_nil (cw_ret ?_))
  obtain ⟨rfl, rfl⟩ := pr2 (some_inj hF1)
  exact ret2 Tryz.results181 (v1 := .agg #[vi A, vi B, vi C, vi D]) (resAt_cellA (B := aD b1) (i := 0) (cs := [vi A, vi B, vi C, vi D]) (vs := [vi A, vi B, vi C, vi D]) (hf.get 4 1 rfl) k_ag_61 k_sz_61_4 (hS8.cf (i := 0) rfl) rfl rfl) (v2 := .bool ok) (resAt_tmp rfl) ⟨rfl, (hS8.sN [])⟩

theorem c_impl_combined (x : TDyadic) (y : TDyadic) (operation : TRing → TRing → Option (TRing × Bool)) (kf : Nat) (caps : Array Value) (Rf : List Ro) (w0 : World) (hk : callB Tryz.prog kf = true) (hp : ∀ (w : World), ST w [] w [] Rf → ∀ (x1 : TRing) (x2 : TRing) (y2 : TRing) (y3 : Bool), operation x1 x2 = some (y2, y3) → CV Tryz.prog kf ((gR_ x1) :: (gR_ x2) :: caps.toList).toArray w (fun v w' => v = .tuple #[gR_ y2, .bool y3] ∧ ST w [] w' [] [])) (hS : ST w0 [] w0 [] (Rf)) {r_ : TDyadic} {r_1 : Bool} (hF : F_impl_combined x y operation = some (r_, r_1)) :
  CV Tryz.prog 162 #[gD_ x, gD_ y, .func (.func kf) #[] caps] w0 (fun v w' => v = .tuple #[gD_ r_, .bool r_1] ∧ ST w0 [] w' [] []) := by
 unfold F_impl_combined at hF
 refine cv_of_cw 64 Tryz.func162 rfl Tryz.ntmps162 rfl ?_
 refine cw_seq (cw_region ?_)
 refine sS 3 (Ys_box (T := 63) (v := gD_ x) (cs := kD_ x) (m := 5) hS rfl rfl rfl rfl) ?_
 rintro _ w_ ⟨b, rfl, hS1⟩
 refine sS 4 (Ys_box (T := 63) (v := gD_ y) (cs := kD_ y) (m := 5) hS1 rfl rfl rfl rfl) ?_
 rintro _ w_1 ⟨b1, rfl, hS2⟩
 refine sS 6 (Ys_alloc (T := 63) (cs := kZ_) (m := 5) hS2 k_zero_63 rfl rfl rfl) ?_
 rintro _ w_2 ⟨b2, rfl, hS3⟩
 refine sQ 7 (Y_assign (v := .bool false) rfl rfl) (rw_nil (cw_seq (cw_seq (cw_region ?_))))
 refine sQ 15 (Y_loadA (B := aD b) (i := 0) (cs := kD_ x) (vs := kD_ x) k_ag_63 k_sz_63_5 rfl rfl (hS3.cf (i := 0) rfl) rfl rfl) ?_
 obtain ⟨r_2, hc, hF⟩ := bind_inv hF
 refine sc 16 rfl rfl (Yc_func (g := 140) (vs := [gD_ x]) k_call_140 rfl (mc rfl mn) (c_impl_IsValidDyadic x _  (hS3.inn0 [] rfl) hc)) ?_
 rintro _ w_3 ⟨rfl, hd⟩
 have hS4 := hS3.out00 hd
 refine sQ 17 (Y_not (p := r_2) rfl rfl) ?_
 refine sQ 18 (Y_move (v := .bool (!r_2)) rfl rfl) ?_
 refine sgq 19 (B := (!(!r_2))) (v := gD_ y) rfl rfl (uF_ 18) (fun hg => (Y_loadA (B := aD b1) (i := 0) (cs := kD_ y) (vs := kD_ y) k_ag_63 k_sz_63_5 rfl rfl (hS4.cf (i := 1) rfl) rfl rfl)) ?_
 obtain ⟨r_3, hc1, hF⟩ := bind_inv hF
 refine sgc 20 (B := (!(!r_2))) (v := .bool r_3) (F := hS4.fn) rfl rfl (uF_ 18) hS4 (fun hg1 => (Yc_func (g := 140) (vs := [gD_ y]) k_call_140 rfl (mc (gv_of (v := gD_ y) hg1) mn) (CV.mono (c_impl_IsValidDyadic y _  (hS4.inn0 [] rfl) (gb_inv hc1 hg1)) (by rintro _ _ ⟨rfl, h⟩; exact ⟨rfl, hS4.out00 h⟩)))) ?_
 rintro w_4 hS5
 refine sgq 21 (B := (!(!r_2))) (v := .bool (!r_3)) rfl rfl (uF_ 18) (fun hg2 => (Y_not (p := r_3) rfl (gv_of (v := .bool r_3) hg2))) ?_
 refine sQ 22 (Y_or (b := (!r_2)) (z := (!r_3)) rfl rfl rfl rfl) (rw_nil ?_)
 refine cw_cond (b := ((!r_2) || (!r_3))) rfl (fun hb => ?_) (fun hb => ?_)
 ·skip
  have hF1 := ct hF hb
  refine cw_seq (cw_region ?_)
  refine sQ 23 (Y_buildS (zs := kZ_) (vs := []) (cs := kZ_) k_pl_63 k_zero_63 rfl mpn rfl) ?_
  refine s0 (Ys_store (i := 2) (s := 5) (B := aD b2) (T' := 63) (v := gZ_) (vs := kZ_) (k := 0) (cs' := kZ_) hS5 k_sz_63_5 rfl rfl rfl rfl rfl rfl rfl (lB rfl) rfl rfl) ?_
  rintro _ w_5 ⟨rfl, hS6⟩
  refine sQ 7 (Y_assign (v := .bool false) rfl rfl) (rw_nil (cw_ret ?_))
  obtain ⟨rfl, rfl⟩ := pr2 (some_inj hF1)
  exact ret2 Tryz.results162 (v1 := gZ_) (resAt_cellA (B := aD b2) (i := 0) (cs := kZ_) (vs := kZ_) rfl k_ag_63 k_sz_63_5 (hS6.cf (i := 2) rfl) rfl rfl) (v2 := .bool false) (resAt_tmp rfl) ⟨rfl, (hS6.sN [])⟩
 ·skip
  have hF2 := cf' hF hb
  refine cw_skip (cw_seq (cw_region ?_))
  refine sQ 24 (Y_fieldAddr (B := aD b) (i := 0) (s := 0) k_fd_63_1_4_3 k_sz_3_1 rfl rfl) ?_
  refine sQ 25 (Y_load1 (B := aD b) (i := 4) (cs := kD_ x) (v := vi x.Exp) k_sc_3 rfl rfl (hS5.cf (i := 0) rfl) rfl) ?_
  refine sQ 26 (Y_fieldAddr (B := aD b1) (i := 0) (s := 0) k_fd_63_1_4_3 k_sz_3_1 rfl rfl) ?_
  refine sQ 27 (Y_load1 (B := aD b1) (i := 4) (cs := kD_ y) (v := vi y.Exp) k_sc_3 rfl rfl (hS5.cf (i := 1) rfl) rfl) ?_
  refine sQ 28 (Y_max2 (k := .i64) (a := x.Exp) (b := y.Exp) rfl rfl rfl) ?_
  refine sQ 8 (Y_assign (v := vi (if x.Exp < y.Exp then y.Exp else x.Exp)) rfl rfl) (rw_nil (cw_seq (cw_region ?_)))
  refine sQ 30 (Y_loadA (B := aD b) (i := 0) (cs := kD_ x) (vs := kD_ x) k_ag_63 k_sz_63_5 rfl rfl (hS5.cf (i := 0) rfl) rfl rfl) ?_
  refine sQ 31 (Y_move (v := vi (if x.Exp < y.Exp then y.Exp else x.Exp)) rfl rfl) ?_
  obtain ⟨⟨r_4, r_5⟩, hc2, hF2⟩ := bind_inv hF2
  refine sc 32 rfl rfl (Yc_func (g := 181) (vs := [gD_ x, vi (if x.Exp < y.Exp then y.Exp else x.Exp)]) k_call_181 rfl (mc rfl (mc rfl mn)) (c_impl_raised x (if x.Exp < y.Exp then y.Exp else x.Exp) _  (hS5.inn0 [] rfl) hc2)) ?_
  rintro _ w_6 ⟨rfl, hd1⟩
  have hS7 := hS5.out00 hd1
  refine sQ 29 (Y_move (v := .tuple #[gR_ r_4, .bool r_5]) rfl rfl) ?_
  refine sQ 33 (Y_extract (v := gR_ r_4) rfl rfl rfl) ?_
  refine sQ 34 (Y_extract (v := .bool r_5) rfl rfl rfl) ?_
  refine sS 9 (Ys_alloc (T := 61) (cs := [vi 0, vi 0, vi 0, vi 0]) (m := 4) hS7 k_zero_61 rfl rfl rfl) ?_
  rintro _ w_7 ⟨b3, rfl, hS8⟩
  refine s0 (Ys_store (i := 3) (s := 4) (B := aD b3) (T' := 61) (v := gR_ r_4) (vs := kR_ r_4) (k := 0) (cs' := kR_ r_4) hS8 k_sz_61_4 rfl rfl rfl rfl rfl rfl rfl (lB rfl) rfl rfl) ?_
  rintro _ w_8 ⟨rfl, hS9⟩
  refine sQ 10 (Y_assign (v := .bool r_5) rfl rfl) (rw_nil (cw_seq (cw_region ?_)))
  refine sQ 36 (Y_loadA (B := aD b1) (i := 0) (cs := kD_ y) (vs := kD_ y) k_ag_63 k_sz_63_5 rfl rfl (hS9.cf (i := 1) rfl) rfl rfl) ?_
  refine sQ 37 (Y_move (v := vi (if x.Exp < y.Exp then y.Exp else x.Exp)) rfl rfl) ?_
  obtain ⟨⟨r_6, r_7⟩, hc3, hF2⟩ := bind_inv hF2
  refine sc 38 rfl rfl (Yc_func (g := 181) (vs := [gD_ y, vi (if x.Exp < y.Exp then y.Exp else x.Exp)]) k_call_181 rfl (mc rfl (mc rfl mn)) (c_impl_raised y (if x.Exp < y.Exp then y.Exp else x.Exp) _  (hS9.inn0 [] rfl) hc3)) ?_
  rintro _ w_9 ⟨rfl, hd2⟩
  have hS10 := hS9.out00 hd2
  refine sQ 35 (Y_move (v := .tuple #[gR_ r_6, .bool r_7]) rfl rfl) ?_
  refine sQ 39 (Y_extract (v := gR_ r_6) rfl rfl rfl) ?_
  refine sQ 40 (Y_extract (v := .bool r_7) rfl rfl rfl) ?_
  refine sS 11 (Ys_alloc (T := 61) (cs := [vi 0, vi 0, vi 0, vi 0]) (m := 4) hS10 k_zero_61 rfl rfl rfl) ?_
  rintro _ w_10 ⟨b4, rfl, hS11⟩
  refine s0 (Ys_store (i := 4) (s := 4) (B := aD b4) (T' := 61) (v := gR_ r_6) (vs := kR_ r_6) (k := 0) (cs' := kR_ r_6) hS11 k_sz_61_4 rfl rfl rfl rfl rfl rfl rfl (lB rfl) rfl rfl) ?_
  rintro _ w_11 ⟨rfl, hS12⟩
  refine sQ 12 (Y_assign (v := .bool r_7) rfl rfl) (rw_nil (cw_seq (cw_region ?_)))
  refine sQ 42 (Y_move (v := .func (.func kf) #[] caps) rfl rfl) ?_
  refine sQ 43 (Y_loadA (B := aD b3) (i := 0) (cs := kR_ r_4) (vs := kR_ r_4) k_ag_61 k_sz_61_4 rfl rfl (hS12.cf (i := 3) rfl) rfl rfl) ?_
  refine sQ 44 (Y_loadA (B := aD b4) (i := 0) (cs := kR_ r_6) (vs := kR_ r_6) k_ag_61 k_sz_61_4 rfl rfl (hS12.cf (i := 4) rfl) rfl rfl) ?_
  obtain ⟨⟨r_8, r_9⟩, hc4, hF2⟩ := bind_inv hF2
  refine sc 45 rfl rfl (Yc_clos (g := kf) (vs := (gR_ r_4) :: (gR_ r_6) :: caps.toList) hk rfl rfl (clo_args (mc rfl (mc rfl mn))) (hp _ (hS12.innS (fun _ h => mOd (i := 0) h)) r_4 r_6 r_8 r_9 hc4)) ?_
  rintro _ w_12 ⟨rfl, hd3⟩
  have hS13 := hS12.out00 hd3
  refine sQ 41 (Y_move (v := .tuple #[gR_ r_8, .bool r_9]) rfl rfl) ?_
  refine sQ 46 (Y_extract (v := gR_ r_8) rfl rfl rfl) ?_
  refine sQ 47 (Y_extract (v := .bool r_9) rfl rfl rfl) ?_
  refine sS 13 (Ys_alloc (T := 61) (cs := [vi 0, vi 0, vi 0, vi 0]) (m := 4) hS13 k_zero_61 rfl rfl rfl) ?_
  rintro _ w_13 ⟨b5, rfl, hS14⟩
  refine s0 (Ys_store (i := 5) (s := 4) (B := aD b5) (T' := 61) (v := gR_ r_8) (vs := kR_ r_8) (k := 0) (cs' := kR_ r_8) hS14 k_sz_61_4 rfl rfl rfl rfl rfl rfl rfl (lB rfl) rfl rfl) ?_
  rintro _ w_14 ⟨rfl, hS15⟩
  refine sQ 14 (Y_assign (v := .bool r_9) rfl rfl) (rw_nil (cw_seq (cw_seq (cw_region ?_))))
  refine sQ 48 (Y_move (v := .bool r_5) rfl rfl) ?_
  refine sQ 49 (Y_not (p := r_5) rfl rfl) ?_
  refine sQ 50 (Y_move (v := .bool (!r_5)) rfl rfl) ?_
  refine sgq 51 (B := (!(!r_5))) (v := .bool r_7) rfl rfl (uF_ 50) (fun hg3 => (Y_move (v := .bool r_7) rfl rfl)) ?_
  refine sgq 52 (B := (!(!r_5))) (v := .bool (!r_7)) rfl rfl (uF_ 50) (fun hg4 => (Y_not (p := r_7) rfl (gv_of (v := .bool r_7) hg4))) ?_
  refine sQ 53 (Y_or (b := (!r_5)) (z := (!r_7)) rfl rfl rfl rfl) ?_
  refine sQ 54 (Y_move (v := .bool ((!r_5) || (!r_7))) rfl rfl) ?_
  refine sgq 55 (B := (!((!r_5) || (!r_7)))) (v := .bool r_9) rfl rfl (uF_ 54) (fun hg5 => (Y_move (v := .bool r_9) rfl rfl)) ?_
  refine sgq 56 (B := (!((!r_5) || (!r_7)))) (v := .bool (!r_9)) rfl rfl (uF_ 54) (fun hg6 => (Y_not (p := r_9) rfl (gv_of (v := .bool r_9) hg6))) ?_
  refine sQ 57 (Y_or (b := ((!r_5) || (!r_7))) (z := (!r_9)) rfl rfl rfl rfl) (rw_nil ?_)
  refine cw_cond (b := (((!r_5) || (!r_7)) || (!r_9))) rfl (fun hb1 => ?_) (fun hb1 => ?_)
  ·skip
   have hF3 := ct hF2 hb1
   refine cw_seq (cw_region ?_)
   refine sQ 58 (Y_buildS (zs := kZ_) (vs := []) (cs := kZ_) k_pl_63 k_zero_63 rfl mpn rfl) ?_
   refine s0 (Ys_store (i := 2) (s := 5) (B := aD b2) (T' := 63) (v := gZ_) (vs := kZ_) (k := 0) (cs' := kZ_) hS15 k_sz_63_5 rfl rfl rfl rfl rfl rfl rfl (lB rfl) rfl rfl) ?_
   rintro _ w_15 ⟨rfl, hS16⟩
   refine sQ 7 (Y_assign (v := .bool false) rfl rfl) (rw_nil (cw_ret ?_))
   obtain ⟨rfl, rfl⟩ := pr2 (some_inj hF3)
   exact ret2 Tryz.results162 (v1 := gZ_) (resAt_cellA (B := aD b2) (i := 0) (cs := kZ_) (vs := kZ_) rfl k_ag_63 k_sz_63_5 (hS16.cf (i := 2) rfl) rfl rfl) (v2 := .bool false) (resAt_tmp rfl) ⟨rfl, (hS16.sN [])⟩
  ·skip
   have hF4 := cf' hF2 hb1
   refine cw_skip (cw_seq (cw_region ?_))
   refine sQ 59 (Y_loadA (B := aD b5) (i := 0) (cs := kR_ r_8) (vs := kR_ r_8) k_ag_61 k_sz_61_4 rfl rfl (hS15.cf (i := 5) rfl) rfl rfl) ?_
   refine sQ 60 (Y_move (v := vi (if x.Exp < y.Exp then y.Exp else x.Exp)) rfl rfl) ?_
   obtain ⟨⟨r_10, r_11⟩, hc5, hF4⟩ := bind_inv hF4
   refine sc 61 rfl rfl (Yc_func (g := 161) (vs := [gR_ r_8, vi (if x.Exp < y.Exp then y.Exp else x.Exp)]) k_call_161 rfl (mc rfl (mc rfl mn)) (c_impl_DyadicOf r_8 (if x.Exp < y.Exp then y.Exp else x.Exp) _  (hS15.inn0 [] rfl) hc5)) ?_
   rintro _ w_16 ⟨rfl, hd4⟩
   have hS17 := hS15.out00 hd4
   refine sQ 62 (Y_extract (v := gD_ r_10) rfl rfl rfl) ?_
   refine sQ 63 (Y_extract (v := .bool r_11) rfl rfl rfl) ?_
   refine s0 (Ys_store (i := 2) (s := 5) (B := aD b2) (T' := 63) (v := gD_ r_10) (vs := kD_ r_10) (k := 0) (cs' := kD_ r_10) hS17 k_sz_63_5 rfl rfl rfl rfl rfl rfl rfl (lB rfl) rfl rfl) ?_
   rintro _ w_17 ⟨rfl, hS18⟩
   refine sQ 7 (Y_assign (v := .bool r_11) rfl rfl) (rw_nil (cw_ret ?_))
   obtain ⟨rfl, rfl⟩ := pr2 (some_inj hF4)
   exact ret2 Tryz.results162 (v1 := gD_ r_10) (resAt_cellA (B := aD b2) (i := 0) (cs := kD_ r_10) (vs := kD_ r_10) rfl k_ag_63 k_sz_63_5 (hS18.cf (i := 2) rfl) rfl rfl) (v2 := .bool r_11) (resAt_tmp rfl) ⟨rfl, (hS18.sN [])⟩

theorem c_impl_AddRing (x : TRing) (y : TRing)  (w0 : World)  (hS : ST w0 [] w0 [] []) {r_ : TRing} {r_1 : Bool} (hF : F_impl_AddRing x y = some (r_, r_1)) :
  CV Tryz.prog 163 #[gR_ x, gR_ y] w0 (fun v w' => v = .tuple #[gR_ r_, .bool r_1] ∧ ST w0 [] w' [] []) := by
 unfold F_impl_AddRing at hF
 refine cv_of_cw 33 Tryz.func163 rfl Tryz.ntmps163 rfl ?_
 refine cw_seq (cw_region ?_)
 refine sS 2 (Ys_box (T := 61) (v := gR_ x) (cs := kR_ x) (m := 4) hS rfl rfl rfl rfl) ?_
 rintro _ w_ ⟨b, rfl, hS1⟩
 refine sS 3 (Ys_box (T := 61) (v := gR_ y) (cs := kR_ y) (m := 4) hS1 rfl rfl rfl rfl) ?_
 rintro _ w_1 ⟨b1, rfl, hS2⟩
 refine sS 4 (Ys_alloc (T := 61) (cs := [vi 0, vi 0, vi 0, vi 0]) (m := 4) hS2 k_zero_61 rfl rfl rfl) ?_
 rintro _ w_2 ⟨b2, rfl, hS3⟩
 refine sQ 5 (Y_assign (v := .bool false) rfl rfl) (rw_nil (cw_seq (cw_region ?_)))
 refine sQ 6 (Y_fieldAddr (B := aD b) (i := 0) (s := 0) k_fd_61_0_0_3 k_sz_3_1 rfl rfl) ?_
 refine sQ 7 (Y_load1 (B := aD b) (i := 0) (cs := kR_ x) (v := vi x.A) k_sc_3 rfl rfl (hS3.cf (i := 0) rfl) rfl) ?_
 refine sQ 8 (Y_fieldAddr (B := aD b1) (i := 0) (s := 0) k_fd_61_0_0_3 k_sz_3_1 rfl rfl) ?_
 refine sQ 9 (Y_load1 (B := aD b1) (i := 0) (cs := kR_ y) (v := vi y.A) k_sc_3 rfl rfl (hS3.cf (i := 1) rfl) rfl) ?_
 refine sQ 10 (Y_add (k := .i64) (a := x.A) (b := y.A) rfl rfl rfl) ?_
 refine sQ 11 (Y_fieldAddr (B := aD b) (i := 0) (s := 0) k_fd_61_1_1_3 k_sz_3_1 rfl rfl) ?_
 refine sQ 12 (Y_load1 (B := aD b) (i := 1) (cs := kR_ x) (v := vi x.B) k_sc_3 rfl rfl (hS3.cf (i := 0) rfl) rfl) ?_
 refine sQ 13 (Y_fieldAddr (B := aD b1) (i := 0) (s := 0) k_fd_61_1_1_3 k_sz_3_1 rfl rfl) ?_
 refine sQ 14 (Y_load1 (B := aD b1) (i := 1) (cs := kR_ y) (v := vi y.B) k_sc_3 rfl rfl (hS3.cf (i := 1) rfl) rfl) ?_
 refine sQ 15 (Y_add (k := .i64) (a := x.B) (b := y.B) rfl rfl rfl) ?_
 refine sQ 16 (Y_fieldAddr (B := aD b) (i := 0) (s := 0) k_fd_61_2_2_3 k_sz_3_1 rfl rfl) ?_
 refine sQ 17 (Y_load1 (B := aD b) (i := 2) (cs := kR_ x) (v := vi x.C) k_sc_3 rfl rfl (hS3.cf (i := 0) rfl) rfl) ?_
 refine sQ 18 (Y_fieldAddr (B := aD b1) (i := 0) (s := 0) k_fd_61_2_2_3 k_sz_3_1 rfl rfl) ?_
 refine sQ 19 (Y_load1 (B := aD b1) (i := 2) (cs := kR_ y) (v := vi y.C) k_sc_3 rfl rfl (hS3.cf (i := 1) rfl) rfl) ?_
 refine sQ 20 (Y_add (k := .i64) (a := x.C) (b := y.C) rfl rfl rfl) ?_
 refine sQ 21 (Y_fieldAddr (B := aD b) (i := 0) (s := 0) k_fd_61_3_3_3 k_sz_3_1 rfl rfl) ?_
 refine sQ 22 (Y_load1 (B := aD b) (i := 3) (cs := kR_ x) (v := vi x.D) k_sc_3 rfl rfl (hS3.cf (i := 0) rfl) rfl) ?_
 refine sQ 23 (Y_fieldAddr (B := aD b1) (i := 0) (s := 0) k_fd_61_3_3_3 k_sz_3_1 rfl rfl) ?_
 refine sQ 24 (Y_load1 (B := aD b1) (i := 3) (cs := kR_ y) (v := vi y.D) k_sc_3 rfl rfl (hS3.cf (i := 1) rfl) rfl) ?_
 refine sQ 25 (Y_add (k := .i64) (a := x.D) (b := y.D) rfl rfl rfl) ?_
 refine sQ 26 (Y_buildS (zs := [vi 0, vi 0, vi 0, vi 0]) (vs := [(0, vi (i64.wrap (x.A + y.A))), (1, vi (i64.wrap (x.B + y.B))), (2, vi (i64.wrap (x.C + y.C))), (3, vi (i64.wrap (x.D + y.D)))]) (cs := [vi (i64.wrap (x.A + y.A)), vi (i64.wrap (x.B + y.B)), vi (i64.wrap (x.C + y.C)), vi (i64.wrap (x.D + y.D))]) k_pl_61 k_zero_61 rfl (mpc rfl (mpc rfl (mpc rfl (mpc rfl mpn)))) rfl) ?_
 refine sQ 27 (Y_loadA (B := aD b) (i := 0) (cs := kR_ x) (vs := kR_ x) k_ag_61 k_sz_61_4 rfl rfl (hS3.cf (i := 0) rfl) rfl rfl) ?_
 refine sQ 28 (Y_loadA (B := aD b1) (i := 0) (cs := kR_ y) (vs := kR_ y) k_ag_61 k_sz_61_4 rfl rfl (hS3.cf (i := 1) rfl) rfl rfl) ?_
 refine sS 29 (Ys_bslice (s := 4) (len := 2) (vs := [(0, gR_ x), (1, gR_ y)]) (cs := [vi x.A, vi x.B, vi x.C, vi x.D, vi y.A, vi y.B, vi y.C, vi y.D]) (zs := [vi 0, vi 0, vi 0, vi 0, vi 0, vi 0, vi 0, vi 0]) (m := 8) hS3 k_sl_196_61 k_sz_61_4 k_zc_61 rfl (mpc rfl (mpc rfl mpn)) rfl rfl rfl (by kernel_rfl) (by kernel_rfl) rfl) ?_
 rintro _ w_3 ⟨b3, rfl, hS4⟩
 obtain ⟨⟨r_2, r_3⟩, hc, hF⟩ := bind_inv hF
 refine sc 30 rfl rfl (Yc_func (g := 179) (vs := [.agg #[vi (i64.wrap (x.A + y.A)), vi (i64.wrap (x.B + y.B)), vi (i64.wrap (x.C + y.C)), vi (i64.wrap (x.D + y.D))], .slice (aD b3) 2 2]) k_call_179 rfl (mc rfl (mc rfl mn)) (c_impl_ringIf (TRing.mk (i64.wrap (x.A + y.A)) (i64.wrap (x.B + y.B)) (i64.wrap (x.C + y.C)) (i64.wrap (x.D + y.D))) [x, y] (aD b3) 2 2 _ rfl (hS4.inn [false, false, false, true] rfl [] rfl) hc)) ?_
 rintro _ w_4 ⟨rfl, hd⟩
 have hS5 := hS4.out [false, false, false, true] rfl hd
 refine sQ 31 (Y_extract (v := gR_ r_2) rfl rfl rfl) ?_
 refine sQ 32 (Y_extract (v := .bool r_3) rfl rfl rfl) ?_
 refine s0 (Ys_store (i := 2) (s := 4) (B := aD b2) (T' := 61) (v := gR_ r_2) (vs := kR_ r_2) (k := 0) (cs' := kR_ r_2) hS5 k_sz_61_4 rfl rfl rfl rfl rfl rfl rfl (lB rfl) rfl rfl) ?_
 rintro _ w_5 ⟨rfl, hS6⟩
 refine sQ 5 (Y_assign (v := .bool r_3) rfl rfl) (rw_nil (cw_ret ?_))
 obtain ⟨rfl, rfl⟩ := pr2 (some_inj hF)
 exact ret2 Tryz.results163 (v1 := gR_ r_2) (resAt_cellA (B := aD b2) (i := 0) (cs := kR_ r_2) (vs := kR_ r_2) rfl k_ag_61 k_sz_61_4 (hS6.cf (i := 2) rfl) rfl rfl) (v2 := .bool r_3) (resAt_tmp rfl) ⟨rfl, (hS6.sN [])⟩

theorem c_impl_AddDyadic (x : TDyadic) (y : TDyadic)  (w0 : World)  (hS : ST w0 [] w0 [] []) {r_ : TDyadic} {r_1 : Bool} (hF : F_impl_AddDyadic x y = some (r_, r_1)) :
  CV Tryz.prog 126 #[gD_ x, gD_ y] w0 (fun v w' => v = .tuple #[gD_ r_, .bool r_1] ∧ ST w0 [] w' [] []) := by
 unfold F_impl_AddDyadic at hF
 refine cv_of_cw 11 Tryz.func126 rfl Tryz.ntmps126 rfl ?_
 refine cw_seq (cw_region ?_)
 refine sS 2 (Ys_box (T := 63) (v := gD_ x) (cs := kD_ x) (m := 5) hS rfl rfl rfl rfl) ?_
 rintro _ w_ ⟨b, rfl, hS1⟩
 refine sS 3 (Ys_box (T := 63) (v := gD_ y) (cs := kD_ y) (m := 5) hS1 rfl rfl rfl rfl) ?_
 rintro _ w_1 ⟨b1, rfl, hS2⟩
 refine sS 4 (Ys_alloc (T := 63) (cs := kZ_) (m := 5) hS2 k_zero_63 rfl rfl rfl) ?_
 rintro _ w_2 ⟨b2, rfl, hS3⟩
 refine sQ 5 (Y_assign (v := .bool false) rfl rfl) (rw_nil (cw_seq (cw_region ?_)))
 refine sQ 6 (Y_loadA (B := aD b) (i := 0) (cs := kD_ x) (vs := kD_ x) k_ag_63 k_sz_63_5 rfl rfl (hS3.cf (i := 0) rfl) rfl rfl) ?_
 refine sQ 7 (Y_loadA (B := aD b1) (i := 0) (cs := kD_ y) (vs := kD_ y) k_ag_63 k_sz_63_5 rfl rfl (hS3.cf (i := 1) rfl) rfl rfl) ?_
 obtain ⟨⟨r_2, r_3⟩, hc, hF⟩ := bind_inv hF
 refine sc 8 rfl rfl (Yc_func (g := 162) (vs := [gD_ x, gD_ y, .func (.func 163) #[] #[]]) k_call_162 rfl (mc rfl (mc rfl (mc rfl mn))) (c_impl_combined x y F_impl_AddRing 163 (#[]) [] _ k_call_163 (fun w hw x_0 x_1 y_0 y_1 h_ => c_impl_AddRing x_0 x_1  w  hw h_) (hS3.inn0 [] rfl) hc)) ?_
 rintro _ w_3 ⟨rfl, hd⟩
 have hS4 := hS3.out00 hd
 refine sQ 9 (Y_extract (v := gD_ r_2) rfl rfl rfl) ?_
 refine sQ 10 (Y_extract (v := .bool r_3) rfl rfl rfl) ?_
 refine s0 (Ys_store (i := 2) (s := 5) (B := aD b2) (T' := 63) (v := gD_ r_2) (vs := kD_ r_2) (k := 0) (cs' := kD_ r_2) hS4 k_sz_63_5 rfl rfl rfl rfl rfl rfl rfl (lB rfl) rfl rfl) ?_
 rintro _ w_4 ⟨rfl, hS5⟩
 refine sQ 5 (Y_assign (v := .bool r_3) rfl rfl) (rw_nil (cw_ret ?_))
 obtain ⟨rfl, rfl⟩ := pr2 (some_inj hF)
 exact ret2 Tryz.results126 (v1 := gD_ r_2) (resAt_cellA (B := aD b2) (i := 0) (cs := kD_ r_2) (vs := kD_ r_2) rfl k_ag_63 k_sz_63_5 (hS5.cf (i := 2) rfl) rfl rfl) (v2 := .bool r_3) (resAt_tmp rfl) ⟨rfl, (hS5.sN [])⟩

theorem c_impl_MulMatrix_1 (i : Int) (j : Int) (p : TMatrix) (p1 : TMatrix) (B : Option Addr) (B1 : Option Addr) (c n : Nat) (B2 : Option Addr) (B3 : Option Addr) (c1 n1 : Nat) (w0 : World) (hn : p.Cells.length = n) (hn1 : p1.Cells.length = n1) (hS : ST w0 [] w0 [] [⟨B, [vi p.Rows, vi p.Cols, .slice B1 n c]⟩, ⟨B1, (p.Cells.flatMap eN0)⟩, ⟨B2, [vi p1.Rows, vi p1.Cols, .slice B3 n1 c1]⟩, ⟨B3, (p1.Cells.flatMap eN0)⟩]) {r_ : TDyadic} {r_1 : Bool} (hF : F_impl_MulMatrix_1 i j p p1 = some (r_, r_1)) :
  CV Tryz.prog 124 #[vi i, vi j, pt B 0, pt B2 0] w0 (fun v w' => v = .tuple #[gD_ r_, .bool r_1] ∧ ST w0 [] w' [] []) := by
 subst hn
 subst hn1
 unfold F_impl_MulMatrix_1 at hF
 refine cv_of_cw 48 Tryz.func124 rfl Tryz.ntmps124 rfl ?_
 refine cw_seq (cw_region ?_)
 refine sS 6 (Ys_alloc (T := 63) (cs := kZ_) (m := 5) hS k_zero_63 rfl rfl rfl) ?_
 rintro _ w_ ⟨b, rfl, hS1⟩
 refine sQ 7 (Y_assign (v := .bool false) rfl rfl) (rw_nil (cw_seq (cw_region ?_)))
 refine sQ 14 (Y_buildS (zs := kZ_) (vs := []) (cs := kZ_) k_pl_63 k_zero_63 rfl mpn rfl) ?_
 refine sS 8 (Ys_alloc (T := 63) (cs := kZ_) (m := 5) hS1 k_zero_63 rfl rfl rfl) ?_
 rintro _ w_1 ⟨b1, rfl, hS2⟩
 refine s0 (Ys_store (i := 1) (s := 5) (B := aD b1) (T' := 63) (v := gZ_) (vs := kZ_) (k := 0) (cs' := kZ_) hS2 k_sz_63_5 rfl rfl rfl rfl rfl rfl rfl (lB rfl) rfl rfl) ?_
 rintro _ w_2 ⟨rfl, hS3⟩
 refine rw_nil (cw_seq (cw_seq (cw_region ?_)))
 refine sQ 15 (Y_fieldAddr (B := B) (i := 0) (s := 0) k_fd_30_1_1_3 k_sz_3_1 rfl rfl) ?_
 refine sQ 16 (Y_load1 (B := B) (i := 1) (cs := kM_ p B1 c) (v := vi p.Cols) k_sc_3 rfl rfl (hS3.rf (i := 0) rfl) rfl) ?_
 refine sQ 17 (Y_move (v := vi 0) rfl rfl) (rw_nil ?_)
 obtain ⟨hN, hF⟩ := chk_inv hF
 obtain ⟨z, hz, hF1⟩ := bind_inv hF
 refine cw_block ?_
 refine cw_loop (fun k f w => ∃ (i1 : Nat) (A : Int) (B4 : Int) (C : Int) (D : Int) (Exp : Int), FF f [(0, vi i), (1, vi j), (2, pt B 0), (3, pt B2 0), (6, pt (aD b) 0), (8, pt (aD b1) 0), (16, vi p.Cols), (17, vi (i1 : Int))] ∧ ST w0 [] w [⟨aD b, 63, kZ_, 5⟩, ⟨aD b1, 63, [vi A, vi B4, vi C, vi D, vi Exp], 5⟩] [⟨B, kM_ p B1 c⟩, ⟨B1, (p.Cells.flatMap eN0)⟩, ⟨B2, kM_ p1 B3 c1⟩, ⟨B3, (p1.Cells.flatMap eN0)⟩] ∧ i1 + k = p.Cols.toNat ∧ forX (F_impl_MulMatrix_1_l1 p i p1 j) k i1 (A, B4, C, D, Exp) = some z) p.Cols.toNat ⟨0, 0, 0, 0, 0, 0, (FF.cons rfl (FF.cons rfl (FF.cons rfl (FF.cons rfl (FF.cons rfl (FF.cons rfl (FF.cons rfl (FF.cons rfl FF.nil)))))))), (hS3.sel [0, 1] rfl rfl), Nat.zero_add _, hz⟩ ?_
 rintro k_ f w ⟨i1, A, B4, C, D, Exp, hf, hS4, hik, hL⟩
 refine cw_seq (cw_region ?_)
 refine sQ 18 (Y_lt (k := .i64) (a := (i1 : Int)) (b := p.Cols) rfl (hf.get 17 7 rfl) (hf.get 16 6 rfl)) (rw_nil (cw_seq ?_))
 refine cw_cond (b := (decide ((i1 : Int) < p.Cols))) rfl (fun hlt => ?_) (fun hlt => ?_)
 ·skip
  have hlt1 : i1 < p.Cols.toNat := by have h := of_decide_eq_true hlt; omega
  obtain ⟨k_1, rfl⟩ : ∃ k2, k_ = k2 + 1 := ⟨k_ - 1, by omega⟩
  obtain ⟨y, hb, hL1⟩ := forX_go hL
  unfold F_impl_MulMatrix_1_l1 at hb
  refine cw_skip (cw_seq (cw_block (cw_seq (cw_region ?_))))
  refine sQ 19 (Y_move (v := vi (i1 : Int)) rfl (hf.get 17 7 rfl)) ?_
  refine sQ 9 (Y_assign (v := vi (i1 : Int)) rfl rfl) (rw_nil (cw_seq ?_))
  obtain ⟨r_2, hc, hb⟩ := bind_inv hb
  obtain ⟨r_3, hc1, hb⟩ := bind_inv hb
  obtain ⟨⟨r_4, r_5⟩, hc2, hb⟩ := bind_inv hb
  refine cw_mid (fun f w => ∃ (B5 : Option Addr), FF f [(0, vi i), (1, vi j), (2, pt B 0), (3, pt B2 0), (6, pt (aD b) 0), (8, pt (aD b1) 0), (10, pt B5 0), (11, .bool r_5), (16, vi p.Cols), (17, vi (i1 : Int))] ∧ ST w0 [] w [⟨aD b, 63, kZ_, 5⟩, ⟨aD b1, 63, [vi A, vi B4, vi C, vi D, vi Exp], 5⟩, ⟨B5, 63, kD_ r_4, 5⟩] [⟨B, kM_ p B1 c⟩, ⟨B1, (p.Cells.flatMap eN0)⟩, ⟨B2, kM_ p1 B3 c1⟩, ⟨B3, (p1.Cells.flatMap eN0)⟩]) ?_ ?_
  ·skip
   refine ra_start (hS4.se [0, 1]).fn (by kernel_rfl) ?_
   have hS9 := hS4.drew
   refine rq 0 21 (v := gM_ p B1 c) rfl (hS9.se [0, 1]) (fun w' hw' => (Y_loadA (B := B) (i := 0) (cs := kM_ p B1 c) (vs := kM_ p B1 c) k_ag_30 k_sz_30_3 rfl (hf.get 2 2 rfl) (ST.rf hw' (i := 0) rfl) rfl rfl)) ?_
   refine rq 1 22 (v := vi i) rfl (hS9.se [0, 1]) (fun w' hw' => (Y_move (v := vi i) rfl (hf.get 0 0 rfl))) ?_
   refine rq 2 23 (v := vi (i1 : Int)) rfl (hS9.se [0, 1]) (fun w' hw' => (Y_move (v := vi (i1 : Int)) rfl rfl)) ?_
   refine rq 4 25 (v := gM_ p1 B3 c1) rfl (hS9.se [0, 1]) (fun w' hw' => (Y_loadA (B := B2) (i := 0) (cs := kM_ p1 B3 c1) (vs := kM_ p1 B3 c1) k_ag_30 k_sz_30_3 rfl (hf.get 3 3 rfl) (ST.rf hw' (i := 2) rfl) rfl rfl)) ?_
   refine rq 5 26 (v := vi (i1 : Int)) rfl (hS9.se [0, 1]) (fun w' hw' => (Y_move (v := vi (i1 : Int)) rfl rfl)) ?_
   refine rq 6 27 (v := vi j) rfl (hS9.se [0, 1]) (fun w' hw' => (Y_move (v := vi j) rfl (hf.get 1 1 rfl))) ?_
   refine rA [3, 12] ?_
   refine ra_c 24 (i := 3) rfl rfl rfl (Yc_func (g := 105) (vs := [gM_ p B1 c, vi i, vi (i1 : Int)]) k_call_105 rfl (mc rfl (mc rfl (mc rfl mn))) (c_impl_Matrix_at p i (i1 : Int) B1 c p.Cells.length _ rfl (hS9.inn0 [(true, 1)] rfl) hc)) ?_ ?_
   ·rintro _ w_3 ⟨rfl, hd⟩
    have hS10 := hS9.out00 hd
    refine ⟨(hS10.se [0, 1]), ?_⟩
    refine rA [7, 12] ?_
    refine ra_c 28 (i := 7) rfl rfl rfl (Yc_func (g := 105) (vs := [gM_ p1 B3 c1, vi (i1 : Int), vi j]) k_call_105 rfl (mc rfl (mc rfl (mc rfl mn))) (c_impl_Matrix_at p1 (i1 : Int) j B3 c1 p1.Cells.length _ rfl (hS10.inn0 [(true, 3)] rfl) hc1)) ?_ ?_
    ·rintro _ w_4 ⟨rfl, hd1⟩
     have hS11 := hS10.out00 hd1
     refine ⟨(hS11.se [0, 1]), ?_⟩
     refine rA [8, 12] ?_
     refine ra_c 29 (i := 8) rfl rfl rfl (Yc_func (g := 125) (vs := [gD_ r_2, gD_ r_3]) k_call_125 rfl (mc rfl (mc rfl mn)) (c_impl_MulDyadic r_2 r_3 _  (hS11.inn0 [] rfl) hc2)) ?_ ?_
     ·rintro _ w_5 ⟨rfl, hd2⟩
      have hS12 := hS11.out00 hd2
      refine ⟨(hS12.se [0, 1]), ?_⟩
      refine rq 9 20 (v := .tuple #[gD_ r_4, .bool r_5]) rfl (hS12.se [0, 1]) (fun w' hw' => (Y_move (v := .tuple #[gD_ r_4, .bool r_5]) rfl rfl)) ?_
      refine rq 10 30 (v := gD_ r_4) rfl (hS12.se [0, 1]) (fun w' hw' => (Y_extract (v := gD_ r_4) rfl rfl rfl)) ?_
      refine rq 11 31 (v := .bool r_5) rfl (hS12.se [0, 1]) (fun w' hw' => (Y_extract (v := .bool r_5) rfl rfl rfl)) ?_
      refine rA [12] ?_
      refine ra_s 10 (i := 12) rfl rfl rfl (Ys_alloc (T := 63) (cs := kZ_) (m := 5) hS12 k_zero_63 rfl rfl rfl) ?_ ?_
      ·rintro _ w_6 ⟨b2, rfl, hS13⟩
       refine ⟨(hS13.se [0, 1]), ?_⟩
       refine rA [13] ?_
       refine ra_s0 (i := 13) rfl rfl rfl (Ys_store (i := 2) (s := 5) (B := aD b2) (T' := 63) (v := gD_ r_4) (vs := kD_ r_4) (k := 0) (cs' := kD_ r_4) hS13 k_sz_63_5 rfl rfl rfl rfl rfl rfl rfl (lB rfl) rfl rfl) ?_ ?_
       ·rintro _ w_7 ⟨rfl, hS14⟩
        refine ⟨(hS14.se [0, 1]), ?_⟩
        refine rq 14 11 (v := .bool r_5) rfl (hS14.se [0, 1]) (fun w' hw' => (Y_assign (v := .bool r_5) rfl rfl)) ?_
        refine ra_done (by kernel_rfl) ?_
        exact ⟨aD b2, (FF.cons (hf.get 0 0 rfl) (FF.cons (hf.get 1 1 rfl) (FF.cons (hf.get 2 2 rfl) (FF.cons (hf.get 3 3 rfl) (FF.cons (hf.get 6 4 rfl) (FF.cons (hf.get 8 5 rfl) (FF.cons rfl (FF.cons rfl (FF.cons (hf.get 16 6 rfl) (FF.cons (hf.get 17 7 rfl) FF.nil)))))))))), (hS14.sel [0, 1, 2] rfl rfl)⟩
       exact allR_nil
      exact allR_nil
     refine ra_s 10 (i := 12) rfl rfl rfl (Ys_alloc (T := 63) (cs := kZ_) (m := 5) hS11 k_zero_63 rfl rfl rfl) ?_ ?_
     ·rintro _ w_8 ⟨b2, rfl, hS15⟩
      refine ⟨(hS15.se [0, 1]), ?_⟩
      refine rA [8] ?_
      refine ra_c 29 (i := 8) rfl rfl rfl (Yc_func (g := 125) (vs := [gD_ r_2, gD_ r_3]) k_call_125 rfl (mc rfl (mc rfl mn)) (c_impl_MulDyadic r_2 r_3 _  (hS15.inn0 [] rfl) hc2)) ?_ ?_
      ·rintro _ w_9 ⟨rfl, hd3⟩
       have hS16 := hS15.out00 hd3
       refine ⟨(hS16.se [0, 1]), ?_⟩
       refine rq 9 20 (v := .tuple #[gD_ r_4, .bool r_5]) rfl (hS16.se [0, 1]) (fun w' hw' => (Y_move (v := .tuple #[gD_ r_4, .bool r_5]) rfl rfl)) ?_
       refine rq 10 30 (v := gD_ r_4) rfl (hS16.se [0, 1]) (fun w' hw' => (Y_extract (v := gD_ r_4) rfl rfl rfl)) ?_
       refine rq 11 31 (v := .bool r_5) rfl (hS16.se [0, 1]) (fun w' hw' => (Y_extract (v := .bool r_5) rfl rfl rfl)) ?_
       refine rA [13] ?_
       refine ra_s0 (i := 13) rfl rfl rfl (Ys_store (i := 2) (s := 5) (B := aD b2) (T' := 63) (v := gD_ r_4) (vs := kD_ r_4) (k := 0) (cs' := kD_ r_4) hS16 k_sz_63_5 rfl rfl rfl rfl rfl rfl rfl (lB rfl) rfl rfl) ?_ ?_
       ·rintro _ w_10 ⟨rfl, hS17⟩
        refine ⟨(hS17.se [0, 1]), ?_⟩
        refine rq 14 11 (v := .bool r_5) rfl (hS17.se [0, 1]) (fun w' hw' => (Y_assign (v := .bool r_5) rfl rfl)) ?_
        refine ra_done (by kernel_rfl) ?_
        exact ⟨aD b2, (FF.cons (hf.get 0 0 rfl) (FF.cons (hf.get 1 1 rfl) (FF.cons (hf.get 2 2 rfl) (FF.cons (hf.get 3 3 rfl) (FF.cons (hf.get 6 4 rfl) (FF.cons (hf.get 8 5 rfl) (FF.cons rfl (FF.cons rfl (FF.cons (hf.get 16 6 rfl) (FF.cons (hf.get 17 7 rfl) FF.nil)))))))))), (hS17.sel [0, 1, 2] rfl rfl)⟩
       exact allR_nil
      exact allR_nil
     exact allR_nil
    refine ra_s 10 (i := 12) rfl rfl rfl (Ys_alloc (T := 63) (cs := kZ_) (m := 5) hS10 k_zero_63 rfl rfl rfl) ?_ ?_
    ·rintro _ w_11 ⟨b2, rfl, hS18⟩
     refine ⟨(hS18.se [0, 1]), ?_⟩
     refine rA [7] ?_
     refine ra_c 28 (i := 7) rfl rfl rfl (Yc_func (g := 105) (vs := [gM_ p1 B3 c1, vi (i1 : Int), vi j]) k_call_105 rfl (mc rfl (mc rfl (mc rfl mn))) (c_impl_Matrix_at p1 (i1 : Int) j B3 c1 p1.Cells.length _ rfl (hS18.inn0 [(true, 3)] rfl) hc1)) ?_ ?_
     ·rintro _ w_12 ⟨rfl, hd4⟩
      have hS19 := hS18.out00 hd4
      refine ⟨(hS19.se [0, 1]), ?_⟩
      refine rA [8] ?_
      refine ra_c 29 (i := 8) rfl rfl rfl (Yc_func (g := 125) (vs := [gD_ r_2, gD_ r_3]) k_call_125 rfl (mc rfl (mc rfl mn)) (c_impl_MulDyadic r_2 r_3 _  (hS19.inn0 [] rfl) hc2)) ?_ ?_
      ·rintro _ w_13 ⟨rfl, hd5⟩
       have hS20 := hS19.out00 hd5
       refine ⟨(hS20.se [0, 1]), ?_⟩
       refine rq 9 20 (v := .tuple #[gD_ r_4, .bool r_5]) rfl (hS20.se [0, 1]) (fun w' hw' => (Y_move (v := .tuple #[gD_ r_4, .bool r_5]) rfl rfl)) ?_
       refine rq 10 30 (v := gD_ r_4) rfl (hS20.se [0, 1]) (fun w' hw' => (Y_extract (v := gD_ r_4) rfl rfl rfl)) ?_
       refine rq 11 31 (v := .bool r_5) rfl (hS20.se [0, 1]) (fun w' hw' => (Y_extract (v := .bool r_5) rfl rfl rfl)) ?_
       refine rA [13] ?_
       refine ra_s0 (i := 13) rfl rfl rfl (Ys_store (i := 2) (s := 5) (B := aD b2) (T' := 63) (v := gD_ r_4) (vs := kD_ r_4) (k := 0) (cs' := kD_ r_4) hS20 k_sz_63_5 rfl rfl rfl rfl rfl rfl rfl (lB rfl) rfl rfl) ?_ ?_
       ·rintro _ w_14 ⟨rfl, hS21⟩
        refine ⟨(hS21.se [0, 1]), ?_⟩
        refine rq 14 11 (v := .bool r_5) rfl (hS21.se [0, 1]) (fun w' hw' => (Y_assign (v := .bool r_5) rfl rfl)) ?_
        refine ra_done (by kernel_rfl) ?_
        exact ⟨aD b2, (FF.cons (hf.get 0 0 rfl) (FF.cons (hf.get 1 1 rfl) (FF.cons (hf.get 2 2 rfl) (FF.cons (hf.get 3 3 rfl) (FF.cons (hf.get 6 4 rfl) (FF.cons (hf.get 8 5 rfl) (FF.cons rfl (FF.cons rfl (FF.cons (hf.get 16 6 rfl) (FF.cons (hf.get 17 7 rfl) FF.nil)))))))))), (hS21.sel [0, 1, 2] rfl rfl)⟩
       exact allR_nil
      exact allR_nil
     exact allR_nil
    exact allR_nil
   refine ra_s 10 (i := 12) rfl rfl rfl (Ys_alloc (T := 63) (cs := kZ_) (m := 5) hS9 k_zero_63 rfl rfl rfl) ?_ ?_
   ·rintro _ w_15 ⟨b2, rfl, hS22⟩
    refine ⟨(hS22.se [0, 1]), ?_⟩
    refine rA [3] ?_
    refine ra_c 24 (i := 3) rfl rfl rfl (Yc_func (g := 105) (vs := [gM_ p B1 c, vi i, vi (i1 : Int)]) k_call_105 rfl (mc rfl (mc rfl (mc rfl mn))) (c_impl_Matrix_at p i (i1 : Int) B1 c p.Cells.length _ rfl (hS22.inn0 [(true, 1)] rfl) hc)) ?_ ?_
    ·rintro _ w_16 ⟨rfl, hd6⟩
     have hS23 := hS22.out00 hd6
     refine ⟨(hS23.se [0, 1]), ?_⟩
     refine rA [7] ?_
     refine ra_c 28 (i := 7) rfl rfl rfl (Yc_func (g := 105) (vs := [gM_ p1 B3 c1, vi (i1 : Int), vi j]) k_call_105 rfl (mc rfl (mc rfl (mc rfl mn))) (c_impl_Matrix_at p1 (i1 : Int) j B3 c1 p1.Cells.length _ rfl (hS23.inn0 [(true, 3)] rfl) hc1)) ?_ ?_
     ·rintro _ w_17 ⟨rfl, hd7⟩
      have hS24 := hS23.out00 hd7
      refine ⟨(hS24.se [0, 1]), ?_⟩
      refine rA [8] ?_
      refine ra_c 29 (i := 8) rfl rfl rfl (Yc_func (g := 125) (vs := [gD_ r_2, gD_ r_3]) k_call_125 rfl (mc rfl (mc rfl mn)) (c_impl_MulDyadic r_2 r_3 _  (hS24.inn0 [] rfl) hc2)) ?_ ?_
      ·rintro _ w_18 ⟨rfl, hd8⟩
       have hS25 := hS24.out00 hd8
       refine ⟨(hS25.se [0, 1]), ?_⟩
       refine rq 9 20 (v := .tuple #[gD_ r_4, .bool r_5]) rfl (hS25.se [0, 1]) (fun w' hw' => (Y_move (v := .tuple #[gD_ r_4, .bool r_5]) rfl rfl)) ?_
       refine rq 10 30 (v := gD_ r_4) rfl (hS25.se [0, 1]) (fun w' hw' => (Y_extract (v := gD_ r_4) rfl rfl rfl)) ?_
       refine rq 11 31 (v := .bool r_5) rfl (hS25.se [0, 1]) (fun w' hw' => (Y_extract (v := .bool r_5) rfl rfl rfl)) ?_
       refine rA [13] ?_
       refine ra_s0 (i := 13) rfl rfl rfl (Ys_store (i := 2) (s := 5) (B := aD b2) (T' := 63) (v := gD_ r_4) (vs := kD_ r_4) (k := 0) (cs' := kD_ r_4) hS25 k_sz_63_5 rfl rfl rfl rfl rfl rfl rfl (lB rfl) rfl rfl) ?_ ?_
       ·rintro _ w_19 ⟨rfl, hS26⟩
        refine ⟨(hS26.se [0, 1]), ?_⟩
        refine rq 14 11 (v := .bool r_5) rfl (hS26.se [0, 1]) (fun w' hw' => (Y_assign (v := .bool r_5) rfl rfl)) ?_
        refine ra_done (by kernel_rfl) ?_
        exact ⟨aD b2, (FF.cons (hf.get 0 0 rfl) (FF.cons (hf.get 1 1 rfl) (FF.cons (hf.get 2 2 rfl) (FF.cons (hf.get 3 3 rfl) (FF.cons (hf.get 6 4 rfl) (FF.cons (hf.get 8 5 rfl) (FF.cons rfl (FF.cons rfl (FF.cons (hf.get 16 6 rfl) (FF.cons (hf.get 17 7 rfl) FF.nil)))))))))), (hS26.sel [0, 1, 2] rfl rfl)⟩
       exact allR_nil
      exact allR_nil
     exact allR_nil
    exact allR_nil
   exact allR_nil
  rintro f w ⟨B5, hf1, hS8⟩
  refine cw_seq (cw_region ?_)
  refine sQ 33 (Y_loadA (B := aD b1) (i := 0) (cs := [vi A, vi B4, vi C, vi D, vi Exp]) (vs := [vi A, vi B4, vi C, vi D, vi Exp]) k_ag_63 k_sz_63_5 rfl (hf1.get 8 5 rfl) (hS8.cf (i := 1) rfl) rfl rfl) ?_
  refine sQ 34 (Y_loadA (B := B5) (i := 0) (cs := kD_ r_4) (vs := kD_ r_4) k_ag_63 k_sz_63_5 rfl (hf1.get 10 6 rfl) (hS8.cf (i := 2) rfl) rfl rfl) ?_
  obtain ⟨⟨r_6, r_7⟩, hc3, hb⟩ := bind_inv hb
  refine sc 35 rfl rfl (Yc_func (g := 126) (vs := [.agg #[vi A, vi B4, vi C, vi D, vi Exp], gD_ r_4]) k_call_126 rfl (mc rfl (mc rfl mn)) (c_impl_AddDyadic (TDyadic.mk (TRing.mk A B4 C D) Exp) r_4 _  (hS8.inn0 [] rfl) hc3)) ?_
  rintro _ w_20 ⟨rfl, hd9⟩
  have hS27 := hS8.out00 hd9
  refine sQ 32 (Y_move (v := .tuple #[gD_ r_6, .bool r_7]) rfl rfl) ?_
  refine sQ 36 (Y_extract (v := gD_ r_6) rfl rfl rfl) ?_
  refine sQ 37 (Y_extract (v := .bool r_7) rfl rfl rfl) ?_
  refine sS 12 (Ys_alloc (T := 63) (cs := kZ_) (m := 5) hS27 k_zero_63 rfl rfl rfl) ?_
  rintro _ w_21 ⟨b3, rfl, hS28⟩
  refine s0 (Ys_store (i := 3) (s := 5) (B := aD b3) (T' := 63) (v := gD_ r_6) (vs := kD_ r_6) (k := 0) (cs' := kD_ r_6) hS28 k_sz_63_5 rfl rfl rfl rfl rfl rfl rfl (lB rfl) rfl rfl) ?_
  rintro _ w_22 ⟨rfl, hS29⟩
  refine sQ 13 (Y_assign (v := .bool r_7) rfl rfl) (rw_nil (cw_seq (cw_seq (cw_region ?_))))
  refine sQ 38 (Y_move (v := .bool r_5) rfl (hf1.get 11 7 rfl)) ?_
  refine sQ 39 (Y_not (p := r_5) rfl rfl) ?_
  refine sQ 40 (Y_move (v := .bool (!r_5)) rfl rfl) ?_
  refine sgq 41 (B := (!(!r_5))) (v := .bool r_7) rfl rfl (uF_ 40) (fun hg => (Y_move (v := .bool r_7) rfl rfl)) ?_
  refine sgq 42 (B := (!(!r_5))) (v := .bool (!r_7)) rfl rfl (uF_ 40) (fun hg1 => (Y_not (p := r_7) rfl (gv_of (v := .bool r_7) hg1))) ?_
  refine sQ 43 (Y_or (b := (!r_5)) (z := (!r_7)) rfl rfl rfl rfl) (rw_nil ?_)
  refine cw_cond (b := ((!r_5) || (!r_7))) rfl (fun hb1 => ?_) (fun hb1 => ?_)
  ·skip
   have hF2 := ct hb hb1
   refine cw_seq (cw_region ?_)
   refine sQ 44 (Y_buildS (zs := kZ_) (vs := []) (cs := kZ_) k_pl_63 k_zero_63 rfl mpn rfl) ?_
   refine s0 (Ys_store (i := 0) (s := 5) (B := aD b) (T' := 63) (v := gZ_) (vs := kZ_) (k := 0) (cs' := kZ_) hS29 k_sz_63_5 rfl (hf1.get 6 4 rfl) rfl rfl rfl rfl rfl (lB rfl) rfl rfl) ?_
   rintro _ w_23 ⟨rfl, hS30⟩
   refine sQ 7 (Y_assign (v := .bool false) rfl rfl) (rw_nil (cw_ret ?_))
   obtain rfl := some_inj hF2
   obtain rfl := some_inj hL1
   obtain ⟨rfl, rfl⟩ := pr2 (some_inj hF1)
   exact ret2 Tryz.results124 (v1 := gZ_) (resAt_cellA (B := aD b) (i := 0) (cs := kZ_) (vs := kZ_) (hf1.get 6 4 rfl) k_ag_63 k_sz_63_5 (hS30.cf (i := 0) rfl) rfl rfl) (v2 := .bool false) (resAt_tmp rfl) ⟨rfl, (hS30.sN [])⟩
  ·skip
   have hF3 := cf' hb hb1
   refine cw_skip (cw_region ?_)
   refine sQ 45 (Y_loadA (B := aD b3) (i := 0) (cs := kD_ r_6) (vs := kD_ r_6) k_ag_63 k_sz_63_5 rfl rfl (hS29.cf (i := 3) rfl) rfl rfl) ?_
   refine s0 (Ys_store (i := 1) (s := 5) (B := aD b1) (T' := 63) (v := gD_ r_6) (vs := kD_ r_6) (k := 0) (cs' := kD_ r_6) hS29 k_sz_63_5 rfl (hf1.get 8 5 rfl) rfl rfl rfl rfl rfl (lB rfl) rfl rfl) ?_
   rintro _ w_24 ⟨rfl, hS31⟩
   refine rw_nil (cw_region ?_)
   refine sQ 46 (Y_add (k := .i64) (a := (i1 : Int)) (b := 1) rfl (hf1.get 17 9 rfl) rfl) ?_
   refine sQ 17 (Y_move (v := vi (i64.wrap ((i1 : Int) + 1))) rfl rfl) (rw_nil ?_)
   obtain rfl := some_inj hF3
   exact ⟨k_1, Nat.lt_succ_self _, i1 + 1, r_6.Num.A, r_6.Num.B, r_6.Num.C, r_6.Num.D, r_6.Exp, (FF.cons (hf1.get 0 0 rfl) (FF.cons (hf1.get 1 1 rfl) (FF.cons (hf1.get 2 2 rfl) (FF.cons (hf1.get 3 3 rfl) (FF.cons (hf1.get 6 4 rfl) (FF.cons (hf1.get 8 5 rfl) (FF.cons (hf1.get 16 8 rfl) (FF.cons (congrArg (Value.int .i64) (wr_succ hlt1 hN)) FF.nil)))))))), (hS31.sel [0, 1] rfl rfl), (by omega), hL1⟩
 ·skip
  obtain rfl : k_ = 0 := by have h := of_decide_eq_false hlt; omega
  refine cw_exit rfl ?_
  obtain rfl := some_inj hL
  refine cw_seq (cw_region ?_)
  refine sQ 47 (Y_loadA (B := aD b1) (i := 0) (cs := [vi A, vi B4, vi C, vi D, vi Exp]) (vs := [vi A, vi B4, vi C, vi D, vi Exp]) k_ag_63 k_sz_63_5 rfl (hf.get 8 5 rfl) (hS4.cf (i := 1) rfl) rfl rfl) ?_
  refine s0 (Ys_store (i := 0) (s := 5) (B := aD b) (T' := 63) (v := .agg #[vi A, vi B4, vi C, vi D, vi Exp]) (vs := [vi A, vi B4, vi C, vi D, vi Exp]) (k := 0) (cs' := [vi A, vi B4, vi C, vi D, vi Exp]) hS4 k_sz_63_5 rfl (hf.get 6 4 rfl) rfl rfl rfl rfl rfl (lB rfl) rfl rfl) ?_
  rintro _ w_25 ⟨rfl, hS32⟩
  refine sQ 7 (Y_assign (v := .bool true) rfl rfl) (rw_nil (cw_ret ?_))
  obtain ⟨rfl, rfl⟩ := pr2 (some_inj hF1)
  exact ret2 Tryz.results124 (v1 := .agg #[vi A, vi B4, vi C, vi D, vi Exp]) (resAt_cellA (B := aD b) (i := 0) (cs := [vi A, vi B4, vi C, vi D, vi Exp]) (vs := [vi A, vi B4, vi C, vi D, vi Exp]) (hf.get 6 4 rfl) k_ag_63 k_sz_63_5 (hS32.cf (i := 0) rfl) rfl rfl) (v2 := .bool true) (resAt_tmp rfl) ⟨rfl, (hS32.sN [])⟩

theorem c_impl_MulMatrix (a : TMatrix) (b : TMatrix) (B : Option Addr) (c n : Nat) (B1 : Option Addr) (c1 n1 : Nat) (w0 : World) (hn : a.Cells.length = n) (hn1 : b.Cells.length = n1) (hS : ST w0 [] w0 [] [⟨B, (a.Cells.flatMap eN0)⟩, ⟨B1, (b.Cells.flatMap eN0)⟩]) {r_ : TMatrix} {r_1 : Bool} (hF : F_impl_MulMatrix a b = some (r_, r_1)) :
  CV Tryz.prog 80 #[.agg #[vi a.Rows, vi a.Cols, .slice B n c], .agg #[vi b.Rows, vi b.Cols, .slice B1 n1 c1]] w0 (fun v w' => ∃ (B2 : Option Addr) (c2 : Nat), v = .tuple #[gM_ r_ B2 c2, .bool r_1] ∧ ST w0 [] w' [⟨B2, 63, (r_.Cells.flatMap eN0), c2 * 5⟩] []) := by
 subst hn
 subst hn1
 unfold F_impl_MulMatrix at hF
 refine cv_of_cw 30 Tryz.func80 rfl Tryz.ntmps80 rfl ?_
 refine cw_seq (cw_region ?_)
 refine sS 2 (Ys_box (T := 30) (v := gM_ a B c) (cs := kM_ a B c) (m := 3) hS rfl rfl rfl rfl) ?_
 rintro _ w_ ⟨b1, rfl, hS1⟩
 refine sS 3 (Ys_box (T := 30) (v := gM_ b B1 c1) (cs := kM_ b B1 c1) (m := 3) hS1 rfl rfl rfl rfl) ?_
 rintro _ w_1 ⟨b2, rfl, hS2⟩
 refine sS 4 (Ys_alloc (T := 30) (cs := kN_) (m := 3) hS2 k_zero_30 rfl rfl rfl) ?_
 rintro _ w_2 ⟨b3, rfl, hS3⟩
 refine sQ 5 (Y_assign (v := .bool false) rfl rfl) (rw_nil (cw_seq (cw_seq (cw_region ?_))))
 refine sQ 6 (Y_loadA (B := aD b1) (i := 0) (cs := kM_ a B c) (vs := kM_ a B c) k_ag_30 k_sz_30_3 rfl rfl (hS3.cf (i := 0) rfl) rfl rfl) ?_
 obtain ⟨r_2, hc, hF⟩ := bind_inv hF
 refine sc 7 rfl rfl (Yc_func (g := 89) (vs := [gM_ a B c]) k_call_89 rfl (mc rfl mn) (c_impl_IsValidMatrix a B c a.Cells.length _ rfl (hS3.inn0 [(true, 0)] rfl) hc)) ?_
 rintro _ w_3 ⟨rfl, hd⟩
 have hS4 := hS3.out00 hd
 refine sQ 8 (Y_not (p := r_2) rfl rfl) ?_
 refine sQ 9 (Y_move (v := .bool (!r_2)) rfl rfl) ?_
 refine sgq 10 (B := (!(!r_2))) (v := gM_ b B1 c1) rfl rfl (uF_ 9) (fun hg => (Y_loadA (B := aD b2) (i := 0) (cs := kM_ b B1 c1) (vs := kM_ b B1 c1) k_ag_30 k_sz_30_3 rfl rfl (hS4.cf (i := 1) rfl) rfl rfl)) ?_
 obtain ⟨r_3, hc1, hF⟩ := bind_inv hF
 refine sgc 11 (B := (!(!r_2))) (v := .bool r_3) (F := hS4.fn) rfl rfl (uF_ 9) hS4 (fun hg1 => (Yc_func (g := 89) (vs := [gM_ b B1 c1]) k_call_89 rfl (mc (gv_of (v := gM_ b B1 c1) hg1) mn) (CV.mono (c_impl_IsValidMatrix b B1 c1 b.Cells.length _ rfl (hS4.inn0 [(true, 1)] rfl) (gb_inv hc1 hg1)) (by rintro _ _ ⟨rfl, h⟩; exact ⟨rfl, hS4.out00 h⟩)))) ?_
 rintro w_4 hS5
 refine sgq 12 (B := (!(!r_2))) (v := .bool (!r_3)) rfl rfl (uF_ 9) (fun hg2 => (Y_not (p := r_3) rfl (gv_of (v := .bool r_3) hg2))) ?_
 refine sQ 13 (Y_or (b := (!r_2)) (z := (!r_3)) rfl rfl rfl rfl) ?_
 refine sQ 14 (Y_move (v := .bool ((!r_2) || (!r_3))) rfl rfl) ?_
 refine sgq 15 (B := (!((!r_2) || (!r_3)))) (v := pt (aD b1) 1) rfl rfl (uF_ 14) (fun hg3 => (Y_fieldAddr (B := aD b1) (i := 0) (s := 0) k_fd_30_1_1_3 k_sz_3_1 rfl rfl)) ?_
 refine sgq 16 (B := (!((!r_2) || (!r_3)))) (v := vi a.Cols) rfl rfl (uF_ 14) (fun hg4 => (Y_load1 (B := aD b1) (i := 1) (cs := kM_ a B c) (v := vi a.Cols) k_sc_3 rfl (gv_of (v := pt (aD b1) 1) hg4) (hS5.cf (i := 0) rfl) rfl)) ?_
 refine sgq 17 (B := (!((!r_2) || (!r_3)))) (v := pt (aD b2) 0) rfl rfl (uF_ 14) (fun hg5 => (Y_fieldAddr (B := aD b2) (i := 0) (s := 0) k_fd_30_0_0_3 k_sz_3_1 rfl rfl)) ?_
 refine sgq 18 (B := (!((!r_2) || (!r_3)))) (v := vi b.Rows) rfl rfl (uF_ 14) (fun hg6 => (Y_load1 (B := aD b2) (i := 0) (cs := kM_ b B1 c1) (v := vi b.Rows) k_sc_3 rfl (gv_of (v := pt (aD b2) 0) hg6) (hS5.cf (i := 1) rfl) rfl)) ?_
 refine sgq 19 (B := (!((!r_2) || (!r_3)))) (v := .bool (a.Cols != b.Rows)) rfl rfl (uF_ 14) (fun hg7 => (Y_ne (k := .i64) (a := a.Cols) (b := b.Rows) rfl (gv_of (v := vi a.Cols) hg7) (gv_of (v := vi b.Rows) hg7))) ?_
 refine sQ 20 (Y_or (b := ((!r_2) || (!r_3))) (z := (a.Cols != b.Rows)) rfl rfl rfl rfl) (rw_nil ?_)
 refine cw_cond (b := (((!r_2) || (!r_3)) || (a.Cols != b.Rows))) rfl (fun hb => ?_) (fun hb => ?_)
 ·skip
  have hF1 := ct hF hb
  refine cw_seq (cw_region ?_)
  refine sQ 21 (Y_buildS (zs := kN_) (vs := []) (cs := kN_) k_pl_30 k_zero_30 rfl mpn rfl) ?_
  refine s0 (Ys_store (i := 2) (s := 3) (B := aD b3) (T' := 30) (v := gN_) (vs := kN_) (k := 0) (cs' := kN_) hS5 k_sz_30_3 rfl rfl rfl rfl rfl rfl rfl (lB rfl) rfl rfl) ?_
  rintro _ w_5 ⟨rfl, hS6⟩
  refine sQ 5 (Y_assign (v := .bool false) rfl rfl) (rw_nil (cw_ret ?_))
  have hS7 := hS6.addNil 63
  obtain ⟨rfl, rfl⟩ := pr2 (some_inj hF1)
  exact ret2 Tryz.results80 (v1 := gN_) (resAt_cellA (B := aD b3) (i := 0) (cs := kN_) (vs := kN_) rfl k_ag_30 k_sz_30_3 (hS7.cf (i := 2) rfl) rfl rfl) (v2 := .bool false) (resAt_tmp rfl) ⟨none, 0, rfl, (hS7.sN [3])⟩
 ·skip
  have hF2 := cf' hF hb
  refine cw_skip (cw_seq (cw_region ?_))
  refine sQ 22 (Y_fieldAddr (B := aD b1) (i := 0) (s := 0) k_fd_30_0_0_3 k_sz_3_1 rfl rfl) ?_
  refine sQ 23 (Y_load1 (B := aD b1) (i := 0) (cs := kM_ a B c) (v := vi a.Rows) k_sc_3 rfl rfl (hS5.cf (i := 0) rfl) rfl) ?_
  refine sQ 24 (Y_fieldAddr (B := aD b2) (i := 0) (s := 0) k_fd_30_1_1_3 k_sz_3_1 rfl rfl) ?_
  refine sQ 25 (Y_load1 (B := aD b2) (i := 1) (cs := kM_ b B1 c1) (v := vi b.Cols) k_sc_3 rfl rfl (hS5.cf (i := 1) rfl) rfl) ?_
  refine sQ 26 (Y_makeFunc (cs := [pt (aD b1) 0, pt (aD b2) 0]) rfl rfl (mc rfl (mc rfl mn))) ?_
  obtain ⟨⟨r_4, r_5⟩, hc2, hF2⟩ := bind_inv hF2
  refine sc 27 rfl rfl (Yc_func (g := 76) (vs := [vi a.Rows, vi b.Cols, .func (.func 124) #[] #[pt (aD b1) 0, pt (aD b2) 0]]) k_call_76 rfl (mc rfl (mc rfl (mc rfl mn))) (c_impl_matrixOf a.Rows b.Cols (fun x_0 x_1 => F_impl_MulMatrix_1 x_0 x_1 a b) 124 (#[pt (aD b1) 0, pt (aD b2) 0]) [⟨aD b1, kM_ a B c⟩, ⟨B, (a.Cells.flatMap eN0)⟩, ⟨aD b2, kM_ b B1 c1⟩, ⟨B1, (b.Cells.flatMap eN0)⟩] _ k_call_124 (fun w hw x_0 x_1 y_0 y_1 h_ => c_impl_MulMatrix_1 x_0 x_1 a b (aD b1) B c a.Cells.length (aD b2) B1 c1 b.Cells.length w rfl rfl hw h_) (hS5.inn0 [(false, 0), (true, 0), (false, 1), (true, 1)] rfl) hc2)) ?_
  rintro _ w_6 ⟨B3, c3, rfl, hd1⟩
  have hS8 := hS5.out0 hd1
  refine sQ 28 (Y_extract (v := gM_ r_4 B3 c3) rfl rfl rfl) ?_
  refine sQ 29 (Y_extract (v := .bool r_5) rfl rfl rfl) ?_
  refine s0 (Ys_store (i := 2) (s := 3) (B := aD b3) (T' := 30) (v := gM_ r_4 B3 c3) (vs := kM_ r_4 B3 c3) (k := 0) (cs' := kM_ r_4 B3 c3) hS8 k_sz_30_3 rfl rfl rfl rfl rfl rfl rfl (lB rfl) rfl rfl) ?_
  rintro _ w_7 ⟨rfl, hS9⟩
  refine sQ 5 (Y_assign (v := .bool r_5) rfl rfl) (rw_nil (cw_ret ?_))
  obtain ⟨rfl, rfl⟩ := pr2 (some_inj hF2)
  exact ret2 Tryz.results80 (v1 := gM_ r_4 B3 c3) (resAt_cellA (B := aD b3) (i := 0) (cs := kM_ r_4 B3 c3) (vs := kM_ r_4 B3 c3) rfl k_ag_30 k_sz_30_3 (hS9.cf (i := 2) rfl) rfl rfl) (v2 := .bool r_5) (resAt_tmp rfl) ⟨B3, c3, rfl, (hS9.sN [3])⟩

theorem c_impl_applied (c : TCircuit) (m : TMatrix) (ok : Bool) (B : Option Addr) (c1 n : Nat) (B1 : Option Addr) (c2 n1 : Nat) (w0 : World) (hn : c.Gates.length = n) (hn1 : m.Cells.length = n1) (hS : ST w0 (bl [⟨B1, 63, (m.Cells.flatMap eN0), c2 * 5⟩]) w0 [⟨B1, 63, (m.Cells.flatMap eN0), c2 * 5⟩] [⟨B, (c.Gates.flatMap enc_Gate)⟩]) {r_ : TMatrix} {r_1 : Bool} (hF : F_impl_applied c m ok = some (r_, r_1)) :
  CV Tryz.prog 33 #[.agg #[vi c.Qubits, .slice B n c1], .agg #[vi m.Rows, vi m.Cols, .slice B1 n1 c2], .bool ok] w0 (fun v w' => ∃ (B2 : Option Addr) (c3 : Nat), v = .tuple #[gM_ r_ B2 c3, .bool r_1] ∧ ST w0 (bl [⟨B1, 63, (m.Cells.flatMap eN0), c2 * 5⟩]) w' [⟨B2, 63, (r_.Cells.flatMap eN0), c3 * 5⟩] []) := by
 subst hn
 subst hn1
 unfold F_impl_applied at hF
 refine cv_of_cw 40 Tryz.func33 rfl Tryz.ntmps33 rfl ?_
 refine cw_seq (cw_region ?_)
 refine sS 3 (Ys_box (T := 26) (v := .agg #[vi c.Qubits, .slice B c.Gates.length c1]) (cs := [vi c.Qubits, .slice B c.Gates.length c1]) (m := 2) hS rfl rfl rfl rfl) ?_
 rintro _ w_ ⟨b, rfl, hS1⟩
 refine sS 4 (Ys_box (T := 30) (v := gM_ m B1 c2) (cs := kM_ m B1 c2) (m := 3) hS1 rfl rfl rfl rfl) ?_
 rintro _ w_1 ⟨b1, rfl, hS2⟩
 refine sS 6 (Ys_alloc (T := 30) (cs := kN_) (m := 3) hS2 k_zero_30 rfl rfl rfl) ?_
 rintro _ w_2 ⟨b2, rfl, hS3⟩
 refine sQ 7 (Y_assign (v := .bool false) rfl rfl) (rw_nil (cw_seq (cw_seq (cw_region ?_))))
 refine sQ 8 (Y_assign (v := vi 0) rfl rfl) (rw_nil ?_)
 obtain ⟨z, hz, hF1⟩ := bind_inv hF
 refine cw_block ?_
 refine cw_loop (fun k f w => ∃ (ok1 : Bool) (Rows : Int) (Cols : Int) (Cells : List TDyadic) (i : Int) (B3 : Option Addr) (c4 : Nat), FF f [(2, .bool ok1), (3, pt (aD b) 0), (4, pt (aD b1) 0), (6, pt (aD b2) 0), (8, vi i)] ∧ ST w0 (bl [⟨B1, 63, (m.Cells.flatMap eN0), c2 * 5⟩]) w [⟨aD b, 26, [vi c.Qubits, .slice B c.Gates.length c1], 2⟩, ⟨aD b1, 30, [vi Rows, vi Cols, .slice B3 Cells.length c4], 3⟩, ⟨B3, 63, (Cells.flatMap eN0), c4 * 5⟩, ⟨aD b2, 30, kN_, 3⟩] [⟨B, (c.Gates.flatMap enc_Gate)⟩] ∧ whX (F_impl_applied_l1 c) k (ok1, Rows, Cols, Cells, i) = some z) fuel ⟨ok, m.Rows, m.Cols, m.Cells, 0, B1, c2, (FF.cons rfl (FF.cons rfl (FF.cons rfl (FF.cons rfl (FF.cons rfl FF.nil))))), (hS3.sel [1, 2, 0, 3] rfl rfl), hz⟩ ?_
 rintro k_ f w ⟨ok1, Rows, Cols, Cells, i, B3, c4, hf, hS4, hL⟩
 obtain ⟨k_1, y, rfl, hb, hL1⟩ := whX_go hL
 unfold F_impl_applied_l1 at hb
 refine cw_seq (cw_seq (cw_region ?_))
 refine sQ 11 (Y_move (v := vi i) rfl (hf.get 8 4 rfl)) ?_
 refine sQ 12 (Y_fieldAddr (B := aD b) (i := 0) (s := 0) k_fd_26_1_1_24 k_sz_24_1 rfl (hf.get 3 1 rfl)) ?_
 refine sQ 13 (Y_load1 (B := aD b) (i := 1) (cs := [vi c.Qubits, .slice B c.Gates.length c1]) (v := .slice B c.Gates.length c1) k_sc_24 rfl rfl (hS4.cf (i := 0) rfl) rfl) ?_
 refine sQ 14 (Y_len (B := B) (m := c.Gates.length) (c := c1) k_sl_24_67 rfl rfl) ?_
 refine sQ 15 (Y_lt (k := .i64) (a := i) (b := (c.Gates.length : Int)) rfl rfl rfl) ?_
 refine sQ 16 (Y_move (v := .bool (decide (i < (c.Gates.length : Int)))) rfl rfl) ?_
 refine sgq 17 (B := (decide (i < (c.Gates.length : Int)))) (v := .bool ok1) rfl rfl (uT_ 16) (fun hg => (Y_move (v := .bool ok1) rfl (hf.get 2 0 rfl))) ?_
 refine sQ 18 (Y_and (b := (decide (i < (c.Gates.length : Int)))) (z := ok1) rfl rfl rfl rfl) (rw_nil ?_)
 refine cw_cond (b := ((decide (i < (c.Gates.length : Int))) && ok1)) rfl (fun hb1 => ?_) (fun hb1 => ?_)
 ·skip
  have hF2 := ct hb hb1
  refine cw_skip (cw_seq (cw_block (cw_seq ?_)))
  obtain ⟨x, hx, hF2⟩ := bind_inv hF2
  obtain ⟨⟨r_2, r_3⟩, hc, hF2⟩ := bind_inv hF2
  refine cw_mid (fun f w => ∃ (B5 : Option Addr) (B6 : Option Addr) (c6 : Nat), FF f [(3, pt (aD b) 0), (4, pt (aD b1) 0), (6, pt (aD b2) 0), (8, vi i), (9, pt B5 0)] ∧ ST w0 (bl [⟨B1, 63, (m.Cells.flatMap eN0), c2 * 5⟩]) w [⟨aD b, 26, [vi c.Qubits, .slice B c.Gates.length c1], 2⟩, ⟨aD b1, 30, [vi Rows, vi Cols, .slice B3 Cells.length c4], 3⟩, ⟨B3, 63, (Cells.flatMap eN0), c4 * 5⟩, ⟨aD b2, 30, kN_, 3⟩, ⟨B5, 30, kM_ r_2 B6 c6, 3⟩, ⟨B6, 63, (r_2.Cells.flatMap eN0), c6 * 5⟩] [⟨B, (c.Gates.flatMap enc_Gate)⟩]) ?_ ?_
  ·skip
   refine ra_start (hS4.se [0, 1, 2, 3]).fn (by kernel_rfl) ?_
   have hS7 := hS4.drew
   refine rq 0 22 (v := pt (aD b) 0) rfl (hS7.se [0, 1, 2, 3]) (fun w' hw' => (Y_fieldAddr (B := aD b) (i := 0) (s := 0) k_fd_26_0_0_3 k_sz_3_1 rfl (hf.get 3 1 rfl))) ?_
   refine rq 1 23 (v := vi c.Qubits) rfl (hS7.se [0, 1, 2, 3]) (fun w' hw' => (Y_load1 (B := aD b) (i := 0) (cs := [vi c.Qubits, .slice B c.Gates.length c1]) (v := vi c.Qubits) k_sc_3 rfl rfl (ST.cf hw' (i := 0) rfl) rfl)) ?_
   refine rq 2 24 (v := pt (aD b) 1) rfl (hS7.se [0, 1, 2, 3]) (fun w' hw' => (Y_fieldAddr (B := aD b) (i := 0) (s := 0) k_fd_26_1_1_24 k_sz_24_1 rfl (hf.get 3 1 rfl))) ?_
   refine rq 3 25 (v := .slice B c.Gates.length c1) rfl (hS7.se [0, 1, 2, 3]) (fun w' hw' => (Y_load1 (B := aD b) (i := 1) (cs := [vi c.Qubits, .slice B c.Gates.length c1]) (v := .slice B c.Gates.length c1) k_sc_24 rfl rfl (ST.cf hw' (i := 0) rfl) rfl)) ?_
   refine rq 4 26 (v := vi i) rfl (hS7.se [0, 1, 2, 3]) (fun w' hw' => (Y_move (v := vi i) rfl (hf.get 8 4 rfl))) ?_
   refine rq 5 27 (v := pt B (i.toNat * 3)) rfl (hS7.se [0, 1, 2, 3]) (fun w' hw' => (Y_index (B := B) (m := c.Gates.length) (c := c1) (k := .i64) (i := i) k_sl_24_67 k_sz_67_3 rfl rfl rfl (gi_isSome enc_Gate_len rfl (ST.rf hw' (i := 0) rfl) hx) (getI_nn hx) (getI_ltI hx rfl))) ?_
   refine rq 6 28 (v := .agg #[vi x.Kind, vi x.A, vi x.B]) rfl (hS7.se [0, 1, 2, 3]) (fun w' hw' => (Y_loadA (B := B) (i := i.toNat * 3) (cs := (c.Gates.flatMap enc_Gate)) (vs := [vi x.Kind, vi x.A, vi x.B]) k_ag_67 k_sz_67_3 rfl rfl (ST.rf hw' (i := 0) rfl) (enc_Gate_len x) (gi_seg enc_Gate_len hx))) ?_
   refine rA [7, 11] ?_
   refine ra_c 29 (i := 7) rfl rfl rfl (Yc_func (g := 79) (vs := [vi c.Qubits, .agg #[vi x.Kind, vi x.A, vi x.B]]) k_call_79 rfl (mc rfl (mc rfl mn)) (c_impl_GateMatrix c.Qubits x _  (hS7.inn0 [] rfl) hc)) ?_ ?_
   ·rintro _ w_3 ⟨B4, c5, rfl, hd⟩
    have hS8 := hS7.out0 hd
    refine ⟨(hS8.se [0, 1, 2, 3]), ?_⟩
    refine rq 8 21 (v := .tuple #[gM_ r_2 B4 c5, .bool r_3]) rfl (hS8.se [0, 1, 2, 3]) (fun w' hw' => (Y_move (v := .tuple #[gM_ r_2 B4 c5, .bool r_3]) rfl rfl)) ?_
    refine rq 9 30 (v := gM_ r_2 B4 c5) rfl (hS8.se [0, 1, 2, 3]) (fun w' hw' => (Y_extract (v := gM_ r_2 B4 c5) rfl rfl rfl)) ?_
    refine rq 10 31 (v := .bool r_3) rfl (hS8.se [0, 1, 2, 3]) (fun w' hw' => (Y_extract (v := .bool r_3) rfl rfl rfl)) ?_
    refine rA [11] ?_
    refine ra_s 9 (i := 11) rfl rfl rfl (Ys_alloc (T := 30) (cs := kN_) (m := 3) hS8 k_zero_30 rfl rfl rfl) ?_ ?_
    ·rintro _ w_4 ⟨b3, rfl, hS9⟩
     refine ⟨(hS9.se [0, 1, 2, 3]), ?_⟩
     refine rA [12] ?_
     refine ra_s0 (i := 12) rfl rfl rfl (Ys_store (i := 5) (s := 3) (B := aD b3) (T' := 30) (v := gM_ r_2 B4 c5) (vs := kM_ r_2 B4 c5) (k := 0) (cs' := kM_ r_2 B4 c5) hS9 k_sz_30_3 rfl rfl rfl rfl rfl rfl rfl (lB rfl) rfl rfl) ?_ ?_
     ·rintro _ w_5 ⟨rfl, hS10⟩
      refine ⟨(hS10.se [0, 1, 2, 3]), ?_⟩
      refine rq 13 10 (v := .bool r_3) rfl (hS10.se [0, 1, 2, 3]) (fun w' hw' => (Y_assign (v := .bool r_3) rfl rfl)) ?_
      refine ra_done (by kernel_rfl) ?_
      exact ⟨aD b3, B4, c5, (FF.cons (hf.get 3 1 rfl) (FF.cons (hf.get 4 2 rfl) (FF.cons (hf.get 6 3 rfl) (FF.cons (hf.get 8 4 rfl) (FF.cons rfl FF.nil))))), (hS10.sel [0, 1, 2, 3, 5, 4] rfl rfl)⟩
     exact allR_nil
    exact allR_nil
   refine ra_s 9 (i := 11) rfl rfl rfl (Ys_alloc (T := 30) (cs := kN_) (m := 3) hS7 k_zero_30 rfl rfl rfl) ?_ ?_
   ·rintro _ w_6 ⟨b3, rfl, hS11⟩
    refine ⟨(hS11.se [0, 1, 2, 3]), ?_⟩
    refine rA [7] ?_
    refine ra_c 29 (i := 7) rfl rfl rfl (Yc_func (g := 79) (vs := [vi c.Qubits, .agg #[vi x.Kind, vi x.A, vi x.B]]) k_call_79 rfl (mc rfl (mc rfl mn)) (c_impl_GateMatrix c.Qubits x _  (hS11.inn0 [] rfl) hc)) ?_ ?_
    ·rintro _ w_7 ⟨B4, c5, rfl, hd1⟩
     have hS12 := hS11.out0 hd1
     refine ⟨(hS12.se [0, 1, 2, 3]), ?_⟩
     refine rq 8 21 (v := .tuple #[gM_ r_2 B4 c5, .bool r_3]) rfl (hS12.se [0, 1, 2, 3]) (fun w' hw' => (Y_move (v := .tuple #[gM_ r_2 B4 c5, .bool r_3]) rfl rfl)) ?_
     refine rq 9 30 (v := gM_ r_2 B4 c5) rfl (hS12.se [0, 1, 2, 3]) (fun w' hw' => (Y_extract (v := gM_ r_2 B4 c5) rfl rfl rfl)) ?_
     refine rq 10 31 (v := .bool r_3) rfl (hS12.se [0, 1, 2, 3]) (fun w' hw' => (Y_extract (v := .bool r_3) rfl rfl rfl)) ?_
     refine rA [12] ?_
     refine ra_s0 (i := 12) rfl rfl rfl (Ys_store (i := 4) (s := 3) (B := aD b3) (T' := 30) (v := gM_ r_2 B4 c5) (vs := kM_ r_2 B4 c5) (k := 0) (cs' := kM_ r_2 B4 c5) hS12 k_sz_30_3 rfl rfl rfl rfl rfl rfl rfl (lB rfl) rfl rfl) ?_ ?_
     ·rintro _ w_8 ⟨rfl, hS13⟩
      refine ⟨(hS13.se [0, 1, 2, 3]), ?_⟩
      refine rq 13 10 (v := .bool r_3) rfl (hS13.se [0, 1, 2, 3]) (fun w' hw' => (Y_assign (v := .bool r_3) rfl rfl)) ?_
      refine ra_done (by kernel_rfl) ?_
      exact ⟨aD b3, B4, c5, (FF.cons (hf.get 3 1 rfl) (FF.cons (hf.get 4 2 rfl) (FF.cons (hf.get 6 3 rfl) (FF.cons (hf.get 8 4 rfl) (FF.cons rfl FF.nil))))), (hS13.sel [0, 1, 2, 3, 4, 5] rfl rfl)⟩
     exact allR_nil
    exact allR_nil
   exact allR_nil
  rintro f w ⟨B5, B6, c6, hf1, hS6⟩
  refine cw_region ?_
  refine sQ 33 (Y_loadA (B := B5) (i := 0) (cs := kM_ r_2 B6 c6) (vs := kM_ r_2 B6 c6) k_ag_30 k_sz_30_3 rfl (hf1.get 9 4 rfl) (hS6.cf (i := 4) rfl) rfl rfl) ?_
  refine sQ 34 (Y_loadA (B := aD b1) (i := 0) (cs := [vi Rows, vi Cols, .slice B3 Cells.length c4]) (vs := [vi Rows, vi Cols, .slice B3 Cells.length c4]) k_ag_30 k_sz_30_3 rfl (hf1.get 4 1 rfl) (hS6.cf (i := 1) rfl) rfl rfl) ?_
  obtain ⟨⟨r_4, r_5⟩, hc1, hF2⟩ := bind_inv hF2
  refine sc 35 rfl rfl (Yc_func (g := 80) (vs := [gM_ r_2 B6 c6, .agg #[vi Rows, vi Cols, .slice B3 Cells.length c4]]) k_call_80 rfl (mc rfl (mc rfl mn)) (c_impl_MulMatrix r_2 (TMatrix.mk Rows Cols Cells) B6 c6 r_2.Cells.length B3 c4 Cells.length _ rfl rfl (hS6.inn0 [(false, 5), (false, 2)] rfl) hc1)) ?_
  rintro _ w_9 ⟨B7, c7, rfl, hd2⟩
  have hS14 := hS6.out0 hd2
  refine sQ 32 (Y_move (v := .tuple #[gM_ r_4 B7 c7, .bool r_5]) rfl rfl) ?_
  refine sQ 36 (Y_extract (v := gM_ r_4 B7 c7) rfl rfl rfl) ?_
  refine sQ 37 (Y_extract (v := .bool r_5) rfl rfl rfl) ?_
  refine s0 (Ys_store (i := 1) (s := 3) (B := aD b1) (T' := 30) (v := gM_ r_4 B7 c7) (vs := kM_ r_4 B7 c7) (k := 0) (cs' := kM_ r_4 B7 c7) hS14 k_sz_30_3 rfl (hf1.get 4 1 rfl) rfl rfl rfl rfl rfl (lB rfl) rfl rfl) ?_
  rintro _ w_10 ⟨rfl, hS15⟩
  refine sQ 2 (Y_assign (v := .bool r_5) rfl rfl) (rw_nil (cw_region ?_))
  refine sQ 19 (Y_move (v := vi i) rfl (hf1.get 8 3 rfl)) ?_
  refine sQ 20 (Y_add (k := .i64) (a := i) (b := 1) rfl rfl rfl) ?_
  refine sQ 8 (Y_assign (v := vi (i64.wrap (i + 1))) rfl rfl) (rw_nil ?_)
  obtain rfl := some_inj hF2
  exact ⟨k_1, Nat.lt_succ_self _, r_5, r_4.Rows, r_4.Cols, r_4.Cells, (i64.wrap (i + 1)), B7, c7, (FF.cons rfl (FF.cons (hf1.get 3 0 rfl) (FF.cons (hf1.get 4 1 rfl) (FF.cons (hf1.get 6 2 rfl) (FF.cons rfl FF.nil))))), (hS15.sel [0, 1, 6, 3] rfl rfl), hL1⟩
 ·skip
  have hF3 := cf' hb hb1
  refine cw_exit rfl ?_
  obtain rfl := some_inj hF3
  obtain rfl := some_inj hL1
  refine cw_seq (cw_region ?_)
  refine sQ 38 (Y_loadA (B := aD b1) (i := 0) (cs := [vi Rows, vi Cols, .slice B3 Cells.length c4]) (vs := [vi Rows, vi Cols, .slice B3 Cells.length c4]) k_ag_30 k_sz_30_3 rfl (hf.get 4 2 rfl) (hS4.cf (i := 1) rfl) rfl rfl) ?_
  refine sQ 39 (Y_move (v := .bool ok1) rfl (hf.get 2 0 rfl)) ?_
  refine s0 (Ys_store (i := 3) (s := 3) (B := aD b2) (T' := 30) (v := .agg #[vi Rows, vi Cols, .slice B3 Cells.length c4]) (vs := [vi Rows, vi Cols, .slice B3 Cells.length c4]) (k := 0) (cs' := [vi Rows, vi Cols, .slice B3 Cells.length c4]) hS4 k_sz_30_3 rfl (hf.get 6 3 rfl) rfl rfl rfl rfl rfl (lB rfl) rfl rfl) ?_
  rintro _ w_11 ⟨rfl, hS16⟩
  refine sQ 7 (Y_assign (v := .bool ok1) rfl rfl) (rw_nil (cw_ret ?_))
  obtain ⟨rfl, rfl⟩ := pr2 (some_inj hF1)
  exact ret2 Tryz.results33 (v1 := .agg #[vi Rows, vi Cols, .slice B3 Cells.length c4]) (resAt_cellA (B := aD b2) (i := 0) (cs := [vi Rows, vi Cols, .slice B3 Cells.length c4]) (vs := [vi Rows, vi Cols, .slice B3 Cells.length c4]) (hf.get 6 3 rfl) k_ag_30 k_sz_30_3 (hS16.cf (i := 3) rfl) rfl rfl) (v2 := .bool ok1) (resAt_tmp rfl) ⟨B3, c4, rfl, (hS16.sN [2])⟩

theorem c_impl_OperatorOf (c : TCircuit) (B : Option Addr) (c1 n : Nat) (w0 : World) (hn : c.Gates.length = n) (hS : ST w0 [] w0 [] [⟨B, (c.Gates.flatMap enc_Gate)⟩]) {r_ : TMatrix} {r_1 : Bool} (hF : F_impl_OperatorOf c = some (r_, r_1)) :
  CV Tryz.prog 8 #[.agg #[vi c.Qubits, .slice B n c1]] w0 (fun v w' => ∃ (B1 : Option Addr) (c2 : Nat), v = .tuple #[gM_ r_ B1 c2, .bool r_1] ∧ ST w0 [] w' [⟨B1, 63, (r_.Cells.flatMap eN0), c2 * 5⟩] []) := by
 subst hn
 unfold F_impl_OperatorOf at hF
 refine cv_of_cw 23 Tryz.func8 rfl Tryz.ntmps8 rfl ?_
 refine cw_seq (cw_region ?_)
 refine sS 1 (Ys_box (T := 26) (v := .agg #[vi c.Qubits, .slice B c.Gates.length c1]) (cs := [vi c.Qubits, .slice B c.Gates.length c1]) (m := 2) hS rfl rfl rfl rfl) ?_
 rintro _ w_ ⟨b, rfl, hS1⟩
 refine sS 2 (Ys_alloc (T := 30) (cs := kN_) (m := 3) hS1 k_zero_30 rfl rfl rfl) ?_
 rintro _ w_1 ⟨b1, rfl, hS2⟩
 refine sQ 3 (Y_assign (v := .bool false) rfl rfl) (rw_nil (cw_seq (cw_seq (cw_region ?_))))
 refine sQ 6 (Y_loadA (B := aD b) (i := 0) (cs := [vi c.Qubits, .slice B c.Gates.length c1]) (vs := [vi c.Qubits, .slice B c.Gates.length c1]) k_ag_26 k_sz_26_2 rfl rfl (hS2.cf (i := 0) rfl) rfl rfl) ?_
 obtain ⟨r_2, hc, hF⟩ := bind_inv hF
 refine sc 7 rfl rfl (Yc_func (g := 31) (vs := [.agg #[vi c.Qubits, .slice B c.Gates.length c1]]) k_call_31 rfl (mc rfl mn) (c_impl_IsValidCircuit c B c1 c.Gates.length _ rfl (hS2.inn0 [(true, 0)] rfl) hc)) ?_
 rintro _ w_2 ⟨rfl, hd⟩
 have hS3 := hS2.out00 hd
 refine sQ 8 (Y_not (p := r_2) rfl rfl) (rw_nil ?_)
 refine cw_cond (b := (!r_2)) rfl (fun hb => ?_) (fun hb => ?_)
 ·skip
  have hF1 := ct hF hb
  refine cw_seq (cw_region ?_)
  refine sQ 9 (Y_buildS (zs := kN_) (vs := []) (cs := kN_) k_pl_30 k_zero_30 rfl mpn rfl) ?_
  refine s0 (Ys_store (i := 1) (s := 3) (B := aD b1) (T' := 30) (v := gN_) (vs := kN_) (k := 0) (cs' := kN_) hS3 k_sz_30_3 rfl rfl rfl rfl rfl rfl rfl (lB rfl) rfl rfl) ?_
  rintro _ w_3 ⟨rfl, hS4⟩
  refine sQ 3 (Y_assign (v := .bool false) rfl rfl) (rw_nil (cw_ret ?_))
  have hS5 := hS4.addNil 63
  obtain ⟨rfl, rfl⟩ := pr2 (some_inj hF1)
  exact ret2 Tryz.results8 (v1 := gN_) (resAt_cellA (B := aD b1) (i := 0) (cs := kN_) (vs := kN_) rfl k_ag_30 k_sz_30_3 (hS5.cf (i := 1) rfl) rfl rfl) (v2 := .bool false) (resAt_tmp rfl) ⟨none, 0, rfl, (hS5.sN [2])⟩
 ·skip
  have hF2 := cf' hF hb
  refine cw_skip (cw_seq (cw_region ?_))
  refine sQ 11 (Y_fieldAddr (B := aD b) (i := 0) (s := 0) k_fd_26_0_0_3 k_sz_3_1 rfl rfl) ?_
  refine sQ 12 (Y_load1 (B := aD b) (i := 0) (cs := [vi c.Qubits, .slice B c.Gates.length c1]) (v := vi c.Qubits) k_sc_3 rfl rfl (hS3.cf (i := 0) rfl) rfl) ?_
  obtain ⟨hsh, hF2⟩ := chk_inv hF2
  refine sQ 13 (Y_shl (k := .i64) (a := 1) (k' := .i64) (b := c.Qubits) rfl rfl rfl hsh) ?_
  obtain ⟨⟨r_3, r_4⟩, hc1, hF2⟩ := bind_inv hF2
  refine sc 14 rfl rfl (Yc_func (g := 32) (vs := [vi (shlK .i64 1 c.Qubits)]) k_call_32 rfl (mc rfl mn) (c_impl_IdentityMatrix (shlK .i64 1 c.Qubits) _  (hS3.inn0 [] rfl) hc1)) ?_
  rintro _ w_4 ⟨B2, c3, rfl, hd1⟩
  have hS6 := hS3.out0 hd1
  refine sQ 10 (Y_move (v := .tuple #[gM_ r_3 B2 c3, .bool r_4]) rfl rfl) ?_
  refine sQ 15 (Y_extract (v := gM_ r_3 B2 c3) rfl rfl rfl) ?_
  refine sQ 16 (Y_extract (v := .bool r_4) rfl rfl rfl) ?_
  refine sS 4 (Ys_alloc (T := 30) (cs := kN_) (m := 3) hS6 k_zero_30 rfl rfl rfl) ?_
  rintro _ w_5 ⟨b2, rfl, hS7⟩
  refine s0 (Ys_store (i := 3) (s := 3) (B := aD b2) (T' := 30) (v := gM_ r_3 B2 c3) (vs := kM_ r_3 B2 c3) (k := 0) (cs' := kM_ r_3 B2 c3) hS7 k_sz_30_3 rfl rfl rfl rfl rfl rfl rfl (lB rfl) rfl rfl) ?_
  rintro _ w_6 ⟨rfl, hS8⟩
  refine sQ 5 (Y_assign (v := .bool r_4) rfl rfl) (rw_nil (cw_seq (cw_region ?_)))
  refine sQ 17 (Y_loadA (B := aD b) (i := 0) (cs := [vi c.Qubits, .slice B c.Gates.length c1]) (vs := [vi c.Qubits, .slice B c.Gates.length c1]) k_ag_26 k_sz_26_2 rfl rfl (hS8.cf (i := 0) rfl) rfl rfl) ?_
  refine sQ 18 (Y_loadA (B := aD b2) (i := 0) (cs := kM_ r_3 B2 c3) (vs := kM_ r_3 B2 c3) k_ag_30 k_sz_30_3 rfl rfl (hS8.cf (i := 3) rfl) rfl rfl) ?_
  refine sQ 19 (Y_move (v := .bool r_4) rfl rfl) ?_
  obtain ⟨⟨r_5, r_6⟩, hc2, hF2⟩ := bind_inv hF2
  refine sc 20 rfl rfl (Yc_func (g := 33) (vs := [.agg #[vi c.Qubits, .slice B c.Gates.length c1], gM_ r_3 B2 c3, .bool r_4]) k_call_33 rfl (mc rfl (mc rfl (mc rfl mn))) (c_impl_applied c r_3 r_4 B c1 c.Gates.length B2 c3 r_3.Cells.length _ rfl rfl (hS8.inn [false, false, true, false] rfl [(true, 0)] rfl) hc2)) ?_
  rintro _ w_7 ⟨B3, c4, rfl, hd2⟩
  have hS9 := hS8.out [false, false, true, false] rfl hd2
  refine sQ 21 (Y_extract (v := gM_ r_5 B3 c4) rfl rfl rfl) ?_
  refine sQ 22 (Y_extract (v := .bool r_6) rfl rfl rfl) ?_
  refine s0 (Ys_store (i := 1) (s := 3) (B := aD b1) (T' := 30) (v := gM_ r_5 B3 c4) (vs := kM_ r_5 B3 c4) (k := 0) (cs' := kM_ r_5 B3 c4) hS9 k_sz_30_3 rfl rfl rfl rfl rfl rfl rfl (lB rfl) rfl rfl) ?_
  rintro _ w_8 ⟨rfl, hS10⟩
  refine sQ 3 (Y_assign (v := .bool r_6) rfl rfl) (rw_nil (cw_ret ?_))
  obtain ⟨rfl, rfl⟩ := pr2 (some_inj hF2)
  exact ret2 Tryz.results8 (v1 := gM_ r_5 B3 c4) (resAt_cellA (B := aD b1) (i := 0) (cs := kM_ r_5 B3 c4) (vs := kM_ r_5 B3 c4) rfl k_ag_30 k_sz_30_3 (hS10.cf (i := 1) rfl) rfl rfl) (v2 := .bool r_6) (resAt_tmp rfl) ⟨B3, c4, rfl, (hS10.sN [3])⟩

theorem c_slices_Equal_impl_Dyadic_impl_Dyadic (s1 : List TDyadic) (s2 : List TDyadic) (B : Option Addr) (c n : Nat) (B1 : Option Addr) (c1 n1 : Nat) (w0 : World) (hn : s1.length = n) (hn1 : s2.length = n1) (hS : ST w0 [] w0 [] [⟨B, (s1.flatMap eN0)⟩, ⟨B1, (s2.flatMap eN0)⟩]) {r_ : Bool} (hF : F_slices_Equal_impl_Dyadic_impl_Dyadic s1 s2 = some r_) :
  CV Tryz.prog 142 #[.slice B n c, .slice B1 n1 c1] w0 (fun v w' => v = .bool r_ ∧ ST w0 [] w' [] []) := by
 subst hn
 subst hn1
 unfold F_slices_Equal_impl_Dyadic_impl_Dyadic at hF
 refine cv_of_cw 26 Tryz.func142 rfl Tryz.ntmps142 rfl ?_
 refine cw_seq (cw_region ?_)
 refine sQ 4 (Y_assign (v := .bool false) rfl rfl) (rw_nil (cw_seq (cw_seq (cw_region ?_))))
 refine sQ 6 (Y_move (v := .slice B s1.length c) rfl rfl) ?_
 refine sQ 7 (Y_len (B := B) (m := s1.length) (c := c) k_sl_28_63 rfl rfl) ?_
 refine sQ 8 (Y_move (v := .slice B1 s2.length c1) rfl rfl) ?_
 refine sQ 9 (Y_len (B := B1) (m := s2.length) (c := c1) k_sl_28_63 rfl rfl) ?_
 refine sQ 10 (Y_ne (k := .i64) (a := (s1.length : Int)) (b := (s2.length : Int)) rfl rfl rfl) (rw_nil ?_)
 refine cw_cond (b := ((s1.length : Int) != (s2.length : Int))) rfl (fun hb => ?_) (fun hb => ?_)
 ·skip
  have hF1 := ct hF hb
  refine cw_seq (cw_region ?_)
  refine sQ 4 (Y_assign (v := .bool false) rfl rfl) (rw_nil (cw_ret ?_))
  obtain rfl := some_inj hF1
  exact ret1 Tryz.results142 (v1 := .bool false) (resAt_tmp rfl) ⟨rfl, (hS.sN [])⟩
 ·skip
  have hF2 := cf' hF hb
  refine cw_skip (cw_seq (cw_seq (cw_region ?_)))
  refine sQ 11 (Y_move (v := .slice B s1.length c) rfl rfl) ?_
  refine sQ 12 (Y_len (B := B) (m := s1.length) (c := c) k_sl_28_63 rfl rfl) ?_
  refine sQ 13 (Y_move (v := vi 0) rfl rfl) (rw_nil ?_)
  obtain ⟨hN, hF2⟩ := chk_inv hF2
  obtain ⟨z, hz, hF3⟩ := bind_inv hF2
  refine cw_block ?_
  refine cw_loop (fun k f w => ∃ (i : Nat), FF f [(0, .slice B s1.length c), (1, .slice B1 s2.length c1), (12, vi (s1.length : Int)), (13, vi (i : Int))] ∧ ST w0 [] w [] [⟨B, (s1.flatMap eN0)⟩, ⟨B1, (s2.flatMap eN0)⟩] ∧ i + k = s1.length ∧ forX (F_slices_Equal_impl_Dyadic_impl_Dyadic_l1 s1 s2) k i () = some z) s1.length ⟨0, (FF.cons rfl (FF.cons rfl (FF.cons rfl (FF.cons rfl FF.nil)))), (hS.sel [] rfl rfl), Nat.zero_add _, hz⟩ ?_
  rintro k_ f w ⟨i, hf, hS1, hik, hL⟩
  refine cw_seq (cw_region ?_)
  refine sQ 14 (Y_lt (k := .i64) (a := (i : Int)) (b := (s1.length : Int)) rfl (hf.get 13 3 rfl) (hf.get 12 2 rfl)) (rw_nil (cw_seq ?_))
  refine cw_cond (b := (decide ((i : Int) < (s1.length : Int)))) rfl (fun hlt => ?_) (fun hlt => ?_)
  ·skip
   have hlt1 : i < s1.length := by have h := of_decide_eq_true hlt; omega
   obtain ⟨k_1, rfl⟩ : ∃ k2, k_ = k2 + 1 := ⟨k_ - 1, by omega⟩
   obtain ⟨y, hb1, hL1⟩ := forX_go hL
   unfold F_slices_Equal_impl_Dyadic_impl_Dyadic_l1 at hb1
   refine cw_skip (cw_seq (cw_block (cw_seq (cw_region ?_))))
   refine sQ 15 (Y_move (v := vi (i : Int)) rfl (hf.get 13 3 rfl)) ?_
   refine sQ 5 (Y_assign (v := vi (i : Int)) rfl rfl) (rw_nil (cw_seq ?_))
   obtain ⟨x, hx, hb1⟩ := bind_inv hb1
   obtain ⟨x1, hx1, hb1⟩ := bind_inv hb1
   refine ra_start (hS1.se []).fn (by kernel_rfl) ?_
   have hS2 := hS1.drew
   refine rq 0 16 (v := .slice B s1.length c) rfl (hS2.se []) (fun w' hw' => (Y_move (v := .slice B s1.length c) rfl (hf.get 0 0 rfl))) ?_
   refine rq 1 17 (v := vi (i : Int)) rfl (hS2.se []) (fun w' hw' => (Y_move (v := vi (i : Int)) rfl rfl)) ?_
   refine rq 2 18 (v := pt B ((i : Int).toNat * 5)) rfl (hS2.se []) (fun w' hw' => (Y_index (B := B) (m := s1.length) (c := c) (k := .i64) (i := (i : Int)) k_sl_28_63 k_sz_63_5 rfl rfl rfl (gi_isSome enc_Dyadic_len rfl (ST.rf hw' (i := 0) rfl) hx) (getI_nn hx) (getI_ltI hx rfl))) ?_
   refine rq 3 19 (v := gD_ x) rfl (hS2.se []) (fun w' hw' => (Y_loadA (B := B) (i := (i : Int).toNat * 5) (cs := (s1.flatMap eN0)) (vs := kD_ x) k_ag_63 k_sz_63_5 rfl rfl (ST.rf hw' (i := 0) rfl) (enc_Dyadic_len x) (gi_seg enc_Dyadic_len hx))) ?_
   refine rq 4 20 (v := .slice B1 s2.length c1) rfl (hS2.se []) (fun w' hw' => (Y_move (v := .slice B1 s2.length c1) rfl (hf.get 1 1 rfl))) ?_
   refine rq 5 21 (v := vi (i : Int)) rfl (hS2.se []) (fun w' hw' => (Y_move (v := vi (i : Int)) rfl rfl)) ?_
   refine rq 6 22 (v := pt B1 ((i : Int).toNat * 5)) rfl (hS2.se []) (fun w' hw' => (Y_index (B := B1) (m := s2.length) (c := c1) (k := .i64) (i := (i : Int)) k_sl_28_63 k_sz_63_5 rfl rfl rfl (gi_isSome enc_Dyadic_len rfl (ST.rf hw' (i := 1) rfl) hx1) (getI_nn hx1) (getI_ltI hx1 rfl))) ?_
   refine rq 7 23 (v := gD_ x1) rfl (hS2.se []) (fun w' hw' => (Y_loadA (B := B1) (i := (i : Int).toNat * 5) (cs := (s2.flatMap eN0)) (vs := kD_ x1) k_ag_63 k_sz_63_5 rfl rfl (ST.rf hw' (i := 1) rfl) (enc_Dyadic_len x1) (gi_seg enc_Dyadic_len hx1))) ?_
   refine ra_q 8 24 (v := .bool (!(((x.Num.A == x1.Num.A) && ((x.Num.B == x1.Num.B) && ((x.Num.C == x1.Num.C) && ((x.Num.D == x1.Num.D) && true)))) && ((x.Exp == x1.Exp) && true)))) rfl rfl rfl (by kernel_rfl) (by kernel_rfl) (by kernel_rfl) (hS2.se []) (fun w' hw' => (Y_neA (xs := #[vi x.Num.A, vi x.Num.B, vi x.Num.C, vi x.Num.D, vi x.Exp]) (ys := #[vi x1.Num.A, vi x1.Num.B, vi x1.Num.C, vi x1.Num.D, vi x1.Exp]) (b := (((x.Num.A == x1.Num.A) && ((x.Num.B == x1.Num.B) && ((x.Num.C == x1.Num.C) && ((x.Num.D == x1.Num.D) && true)))) && ((x.Exp == x1.Exp) && true))) k_eg_63 rfl rfl rfl (eqr_struct (xs := kD_ x) (ys := kD_ x1) k_st_63 k_ho_63 (pts_ag (us := kR_ x.Num) (vs := kR_ x1.Num) k_ag_61 k_sz_61_4 rfl rfl (eqr_struct (xs := kR_ x.Num) (ys := kR_ x1.Num) k_st_61 k_ho_61 (pts_sc k_sc_3 rfl rfl (eqr_int k_int_3_i64) (pts_sc k_sc_3 rfl rfl (eqr_int k_int_3_i64) (pts_sc k_sc_3 rfl rfl (eqr_int k_int_3_i64) (pts_sc k_sc_3 rfl rfl (eqr_int k_int_3_i64) pts_nil))))) (pts_sc k_sc_3 rfl rfl (eqr_int k_int_3_i64) pts_nil))))) ?_
   refine ra_done (by kernel_rfl) ?_
   refine cw_cond (b := (!(((x.Num.A == x1.Num.A) && ((x.Num.B == x1.Num.B) && ((x.Num.C == x1.Num.C) && ((x.Num.D == x1.Num.D) && true)))) && ((x.Exp == x1.Exp) && true)))) rfl (fun hb2 => ?_) (fun hb2 => ?_)
   ·skip
    have hF4 := ct hb1 hb2
    refine cw_seq (cw_region ?_)
    refine sQ 4 (Y_assign (v := .bool false) rfl rfl) (rw_nil (cw_ret ?_))
    obtain rfl := some_inj hF4
    obtain rfl := some_inj hL1
    obtain rfl := some_inj hF3
    exact ret1 Tryz.results142 (v1 := .bool false) (resAt_tmp rfl) ⟨rfl, (hS2.sN [])⟩
   ·skip
    have hF5 := cf' hb1 hb2
    refine cw_skip (cw_region ?_)
    refine sQ 25 (Y_add (k := .i64) (a := (i : Int)) (b := 1) rfl (hf.get 13 3 rfl) rfl) ?_
    refine sQ 13 (Y_move (v := vi (i64.wrap ((i : Int) + 1))) rfl rfl) (rw_nil ?_)
    obtain rfl := some_inj hF5
    exact ⟨k_1, Nat.lt_succ_self _, i + 1, (FF.cons (hf.get 0 0 rfl) (FF.cons (hf.get 1 1 rfl) (FF.cons (hf.get 12 2 rfl) (FF.cons (congrArg (Value.int .i64) (wr_succ hlt1 hN)) FF.nil)))), (hS2.sel [] rfl rfl), (by omega), hL1⟩
  ·skip
   obtain rfl : k_ = 0 := by have h := of_decide_eq_false hlt; omega
   refine cw_exit rfl ?_
   obtain rfl := some_inj hL
   refine cw_seq (cw_region ?_)
   refine sQ 4 (Y_assign (v := .bool true) rfl rfl) (rw_nil (cw_ret ?_))
   obtain rfl := some_inj hF3
   exact ret1 Tryz.results142 (v1 := .bool true) (resAt_tmp rfl) ⟨rfl, (hS1.sN [])⟩

theorem c_impl_EqualMatrices (a : TMatrix) (b : TMatrix) (B : Option Addr) (c n : Nat) (B1 : Option Addr) (c1 n1 : Nat) (w0 : World) (hn : a.Cells.length = n) (hn1 : b.Cells.length = n1) (hS : ST w0 [] w0 [] [⟨B, (a.Cells.flatMap eN0)⟩, ⟨B1, (b.Cells.flatMap eN0)⟩]) {r_ : Bool} (hF : F_impl_EqualMatrices a b = some r_) :
  CV Tryz.prog 91 #[.agg #[vi a.Rows, vi a.Cols, .slice B n c], .agg #[vi b.Rows, vi b.Cols, .slice B1 n1 c1]] w0 (fun v w' => v = .bool r_ ∧ ST w0 [] w' [] []) := by
 subst hn
 subst hn1
 unfold F_impl_EqualMatrices at hF
 refine cv_of_cw 24 Tryz.func91 rfl Tryz.ntmps91 rfl ?_
 refine cw_seq (cw_region ?_)
 refine sS 2 (Ys_box (T := 30) (v := gM_ a B c) (cs := kM_ a B c) (m := 3) hS rfl rfl rfl rfl) ?_
 rintro _ w_ ⟨b1, rfl, hS1⟩
 refine sS 3 (Ys_box (T := 30) (v := gM_ b B1 c1) (cs := kM_ b B1 c1) (m := 3) hS1 rfl rfl rfl rfl) ?_
 rintro _ w_1 ⟨b2, rfl, hS2⟩
 refine sQ 4 (Y_assign (v := .bool false) rfl rfl) (rw_nil (cw_seq (cw_region ?_)))
 refine sQ 5 (Y_fieldAddr (B := aD b1) (i := 0) (s := 0) k_fd_30_0_0_3 k_sz_3_1 rfl rfl) ?_
 refine sQ 6 (Y_load1 (B := aD b1) (i := 0) (cs := kM_ a B c) (v := vi a.Rows) k_sc_3 rfl rfl (hS2.cf (i := 0) rfl) rfl) ?_
 refine sQ 7 (Y_fieldAddr (B := aD b2) (i := 0) (s := 0) k_fd_30_0_0_3 k_sz_3_1 rfl rfl) ?_
 refine sQ 8 (Y_load1 (B := aD b2) (i := 0) (cs := kM_ b B1 c1) (v := vi b.Rows) k_sc_3 rfl rfl (hS2.cf (i := 1) rfl) rfl) ?_
 refine sQ 9 (Y_eq (k := .i64) (a := a.Rows) (b := b.Rows) rfl rfl rfl) ?_
 refine sQ 10 (Y_move (v := .bool (a.Rows == b.Rows)) rfl rfl) ?_
 refine sgq 11 (B := (a.Rows == b.Rows)) (v := pt (aD b1) 1) rfl rfl (uT_ 10) (fun hg => (Y_fieldAddr (B := aD b1) (i := 0) (s := 0) k_fd_30_1_1_3 k_sz_3_1 rfl rfl)) ?_
 refine sgq 12 (B := (a.Rows == b.Rows)) (v := vi a.Cols) rfl rfl (uT_ 10) (fun hg1 => (Y_load1 (B := aD b1) (i := 1) (cs := kM_ a B c) (v := vi a.Cols) k_sc_3 rfl (gv_of (v := pt (aD b1) 1) hg1) (hS2.cf (i := 0) rfl) rfl)) ?_
 refine sgq 13 (B := (a.Rows == b.Rows)) (v := pt (aD b2) 1) rfl rfl (uT_ 10) (fun hg2 => (Y_fieldAddr (B := aD b2) (i := 0) (s := 0) k_fd_30_1_1_3 k_sz_3_1 rfl rfl)) ?_
 refine sgq 14 (B := (a.Rows == b.Rows)) (v := vi b.Cols) rfl rfl (uT_ 10) (fun hg3 => (Y_load1 (B := aD b2) (i := 1) (cs := kM_ b B1 c1) (v := vi b.Cols) k_sc_3 rfl (gv_of (v := pt (aD b2) 1) hg3) (hS2.cf (i := 1) rfl) rfl)) ?_
 refine sgq 15 (B := (a.Rows == b.Rows)) (v := .bool (a.Cols == b.Cols)) rfl rfl (uT_ 10) (fun hg4 => (Y_eq (k := .i64) (a := a.Cols) (b := b.Cols) rfl (gv_of (v := vi a.Cols) hg4) (gv_of (v := vi b.Cols) hg4))) ?_
 refine sQ 16 (Y_and (b := (a.Rows == b.Rows)) (z := (a.Cols == b.Cols)) rfl rfl rfl rfl) ?_
 refine sQ 17 (Y_move (v := .bool ((a.Rows == b.Rows) && (a.Cols == b.Cols))) rfl rfl) ?_
 refine sgq 18 (B := ((a.Rows == b.Rows) && (a.Cols == b.Cols))) (v := pt (aD b1) 2) rfl rfl (uT_ 17) (fun hg5 => (Y_fieldAddr (B := aD b1) (i := 0) (s := 0) k_fd_30_2_2_28 k_sz_28_1 rfl rfl)) ?_
 refine sgq 19 (B := ((a.Rows == b.Rows) && (a.Cols == b.Cols))) (v := .slice B a.Cells.length c) rfl rfl (uT_ 17) (fun hg6 => (Y_load1 (B := aD b1) (i := 2) (cs := kM_ a B c) (v := .slice B a.Cells.length c) k_sc_28 rfl (gv_of (v := pt (aD b1) 2) hg6) (hS2.cf (i := 0) rfl) rfl)) ?_
 refine sgq 20 (B := ((a.Rows == b.Rows) && (a.Cols == b.Cols))) (v := pt (aD b2) 2) rfl rfl (uT_ 17) (fun hg7 => (Y_fieldAddr (B := aD b2) (i := 0) (s := 0) k_fd_30_2_2_28 k_sz_28_1 rfl rfl)) ?_
 refine sgq 21 (B := ((a.Rows == b.Rows) && (a.Cols == b.Cols))) (v := .slice B1 b.Cells.length c1) rfl rfl (uT_ 17) (fun hg8 => (Y_load1 (B := aD b2) (i := 2) (cs := kM_ b B1 c1) (v := .slice B1 b.Cells.length c1) k_sc_28 rfl (gv_of (v := pt (aD b2) 2) hg8) (hS2.cf (i := 1) rfl) rfl)) ?_
 obtain ⟨r_1, hc, hF⟩ := bind_inv hF
 refine sgc 22 (B := ((a.Rows == b.Rows) && (a.Cols == b.Cols))) (v := .bool r_1) (F := hS2.fn) rfl rfl (uT_ 17) hS2 (fun hg9 => (Yc_func (g := 142) (vs := [.slice B a.Cells.length c, .slice B1 b.Cells.length c1]) k_call_142 rfl (mc (gv_of (v := .slice B a.Cells.length c) hg9) (mc (gv_of (v := .slice B1 b.Cells.length c1) hg9) mn)) (CV.mono (c_slices_Equal_impl_Dyadic_impl_Dyadic a.Cells b.Cells B c a.Cells.length B1 c1 b.Cells.length _ rfl rfl (hS2.inn0 [(true, 0), (true, 1)] rfl) (gb_inv hc hg9)) (by rintro _ _ ⟨rfl, h⟩; exact ⟨rfl, hS2.out00 h⟩)))) ?_
 rintro w_2 hS3
 refine sQ 23 (Y_and (b := ((a.Rows == b.Rows) && (a.Cols == b.Cols))) (z := r_1) rfl rfl rfl rfl) ?_
 refine sQ 4 (Y_assign (v := .bool (((a.Rows == b.Rows) && (a.Cols == b.Cols)) && r_1)) rfl rfl) (rw_nil (cw_ret ?_))
 obtain rfl := some_inj hF
 exact ret1 Tryz.results91 (v1 := .bool (((a.Rows == b.Rows) && (a.Cols == b.Cols)) && r_1)) (resAt_tmp rfl) ⟨rfl, (hS3.sN [])⟩

theorem c_impl_qubitsOf (g : TGate)  (w0 : World)  (hS : ST w0 [] w0 [] []) {r_ : List Int} (hF : F_impl_qubitsOf g = some r_) :
  CV Tryz.prog 114 #[.agg #[vi g.Kind, vi g.A, vi g.B]] w0 (fun v w' => ∃ (B : Option Addr) (c : Nat), v = .slice B r_.length c ∧ ST w0 [] w' [⟨B, 3, (r_.flatMap encI), c * 1⟩] []) := by
 unfold F_impl_qubitsOf at hF
 refine cv_of_cw 19 Tryz.func114 rfl Tryz.ntmps114 rfl ?_
 refine cw_seq (cw_region ?_)
 refine sS 1 (Ys_box (T := 67) (v := .agg #[vi g.Kind, vi g.A, vi g.B]) (cs := [vi g.Kind, vi g.A, vi g.B]) (m := 3) hS rfl rfl rfl rfl) ?_
 rintro _ w_ ⟨b, rfl, hS1⟩
 refine sQ 2 (Y_assign (v := .slice none 0 0) rfl rfl) (rw_nil (cw_seq (cw_block (cw_seq (cw_region ?_)))))
 refine sQ 4 (Y_fieldAddr (B := aD b) (i := 0) (s := 0) k_fd_67_0_0_3 k_sz_3_1 rfl rfl) ?_
 refine sQ 5 (Y_load1 (B := aD b) (i := 0) (cs := [vi g.Kind, vi g.A, vi g.B]) (v := vi g.Kind) k_sc_3 rfl rfl (hS1.cf (i := 0) rfl) rfl) ?_
 refine sQ 6 (Y_eq (k := .i64) (a := g.Kind) (b := 12) rfl rfl rfl) ?_
 refine sQ 3 (Y_assign (v := .bool (g.Kind == 12)) rfl rfl) (rw_nil ?_)
 refine cw_cond (b := (g.Kind == 12)) rfl (fun hb => ?_) (fun hb => ?_)
 ·skip
  have hF1 := ct hF hb
  refine cw_seq (cw_region ?_)
  refine sQ 2 (Y_assign (v := .slice none 0 0) rfl rfl) (rw_nil (cw_ret ?_))
  have hS2 := hS1.addNil 3
  obtain rfl := some_inj hF1
  exact ret1 Tryz.results114 (v1 := .slice none 0 0) (resAt_tmp rfl) ⟨none, 0, rfl, (hS2.sN [1])⟩
 ·skip
  have hF2 := cf' hF hb
  refine cw_seq (cw_region ?_)
  refine sQ 8 (Y_fieldAddr (B := aD b) (i := 0) (s := 0) k_fd_67_0_0_3 k_sz_3_1 rfl rfl) ?_
  refine sQ 9 (Y_load1 (B := aD b) (i := 0) (cs := [vi g.Kind, vi g.A, vi g.B]) (v := vi g.Kind) k_sc_3 rfl rfl (hS1.cf (i := 0) rfl) rfl) ?_
  obtain ⟨r_1, hc, hF2⟩ := bind_inv hF2
  refine sc 10 rfl rfl (Yc_func (g := 111) (vs := [vi g.Kind]) k_call_111 rfl (mc rfl mn) (c_impl_isTwo g.Kind _  (hS1.inn0 [] rfl) hc)) ?_
  rintro _ w_1 ⟨rfl, hd⟩
  have hS3 := hS1.out00 hd
  refine sQ 7 (Y_assign (v := .bool r_1) rfl rfl) (rw_nil ?_)
  refine cw_cond (b := r_1) rfl (fun hb1 => ?_) (fun hb1 => ?_)
  ·skip
   have hF3 := ct hF2 hb1
   refine cw_seq (cw_region ?_)
   refine sQ 11 (Y_fieldAddr (B := aD b) (i := 0) (s := 0) k_fd_67_1_1_3 k_sz_3_1 rfl rfl) ?_
   refine sQ 12 (Y_load1 (B := aD b) (i := 1) (cs := [vi g.Kind, vi g.A, vi g.B]) (v := vi g.A) k_sc_3 rfl rfl (hS3.cf (i := 0) rfl) rfl) ?_
   refine sQ 13 (Y_fieldAddr (B := aD b) (i := 0) (s := 0) k_fd_67_2_2_3 k_sz_3_1 rfl rfl) ?_
   refine sQ 14 (Y_load1 (B := aD b) (i := 2) (cs := [vi g.Kind, vi g.A, vi g.B]) (v := vi g.B) k_sc_3 rfl rfl (hS3.cf (i := 0) rfl) rfl) ?_
   refine sS 15 (Ys_bslice (s := 1) (len := 2) (vs := [(0, vi g.A), (1, vi g.B)]) (cs := [vi g.A, vi g.B]) (zs := [vi 0, vi 0]) (m := 2) hS3 k_sl_43_3 k_sz_3_1 k_zc_3 rfl (mpc rfl (mpc rfl mpn)) rfl rfl rfl (by kernel_rfl) (by kernel_rfl) rfl) ?_
   rintro _ w_2 ⟨b1, rfl, hS4⟩
   refine sQ 2 (Y_assign (v := .slice (aD b1) 2 2) rfl rfl) (rw_nil (cw_ret ?_))
   obtain rfl := some_inj hF3
   exact ret1 Tryz.results114 (v1 := .slice (aD b1) 2 2) (resAt_tmp rfl) ⟨aD b1, 2, rfl, (hS4.sN [1])⟩
  ·skip
   have hF4 := cf' hF2 hb1
   refine cw_skip (cw_seq (cw_region ?_))
   refine sQ 16 (Y_fieldAddr (B := aD b) (i := 0) (s := 0) k_fd_67_1_1_3 k_sz_3_1 rfl rfl) ?_
   refine sQ 17 (Y_load1 (B := aD b) (i := 1) (cs := [vi g.Kind, vi g.A, vi g.B]) (v := vi g.A) k_sc_3 rfl rfl (hS3.cf (i := 0) rfl) rfl) ?_
   refine sS 18 (Ys_bslice (s := 1) (len := 1) (vs := [(0, vi g.A)]) (cs := [vi g.A]) (zs := [vi 0]) (m := 1) hS3 k_sl_43_3 k_sz_3_1 k_zc_3 rfl (mpc rfl mpn) rfl rfl rfl (by kernel_rfl) (by kernel_rfl) rfl) ?_
   rintro _ w_3 ⟨b2, rfl, hS5⟩
   refine sQ 2 (Y_assign (v := .slice (aD b2) 1 1) rfl rfl) (rw_nil (cw_ret ?_))
   obtain rfl := some_inj hF4
   exact ret1 Tryz.results114 (v1 := .slice (aD b2) 1 1) (resAt_tmp rfl) ⟨aD b2, 1, rfl, (hS5.sN [1])⟩

theorem c_slices_IndexFunc_int_int (s : List Int) (f_ : Int → Option (Bool)) (B : Option Addr) (c n : Nat) (kf : Nat) (caps : Array Value) (Rf : List Ro) (w0 : World) (hn : s.length = n) (hk : callB Tryz.prog kf = true) (hp : ∀ (w : World), ST w [] w [] Rf → ∀ (x : Int) (y : Bool), f_ x = some y → CV Tryz.prog kf ((vi x) :: caps.toList).toArray w (fun v w' => v = .bool y ∧ ST w [] w' [] [])) (hS : ST w0 [] w0 [] (⟨B, (s.flatMap encI)⟩ :: Rf)) {r_ : Int} (hF : F_slices_IndexFunc_int_int s f_ = some r_) :
  CV Tryz.prog 170 #[.slice B n c, .func (.func kf) #[] caps] w0 (fun v w' => v = vi r_ ∧ ST w0 [] w' [] []) := by
 subst hn
 unfold F_slices_IndexFunc_int_int at hF
 refine cv_of_cw 19 Tryz.func170 rfl Tryz.ntmps170 rfl ?_
 refine cw_seq (cw_region ?_)
 refine sQ 4 (Y_assign (v := vi 0) rfl rfl) (rw_nil (cw_seq (cw_seq (cw_region ?_))))
 refine sQ 6 (Y_move (v := .slice B s.length c) rfl rfl) ?_
 refine sQ 7 (Y_len (B := B) (m := s.length) (c := c) k_sl_43_3 rfl rfl) ?_
 refine sQ 8 (Y_move (v := vi 0) rfl rfl) (rw_nil ?_)
 obtain ⟨hN, hF⟩ := chk_inv hF
 obtain ⟨z, hz, hF1⟩ := bind_inv hF
 refine cw_block ?_
 refine cw_loop (fun k f w => ∃ (i : Nat), FF f [(0, .slice B s.length c), (1, .func (.func kf) #[] caps), (7, vi (s.length : Int)), (8, vi (i : Int))] ∧ ST w0 [] w [] (⟨B, (s.flatMap encI)⟩ :: Rf) ∧ i + k = s.length ∧ forX (F_slices_IndexFunc_int_int_l1 s f_) k i () = some z) s.length ⟨0, (FF.cons rfl (FF.cons rfl (FF.cons rfl (FF.cons rfl FF.nil)))), (hS.sel [] rfl rfl), Nat.zero_add _, hz⟩ ?_
 rintro k_ f w ⟨i, hf, hS1, hik, hL⟩
 refine cw_seq (cw_region ?_)
 refine sQ 9 (Y_lt (k := .i64) (a := (i : Int)) (b := (s.length : Int)) rfl (hf.get 8 3 rfl) (hf.get 7 2 rfl)) (rw_nil (cw_seq ?_))
 refine cw_cond (b := (decide ((i : Int) < (s.length : Int)))) rfl (fun hlt => ?_) (fun hlt => ?_)
 ·skip
  have hlt1 : i < s.length := by have h := of_decide_eq_true hlt; omega
  obtain ⟨k_1, rfl⟩ : ∃ k2, k_ = k2 + 1 := ⟨k_ - 1, by omega⟩
  obtain ⟨y1, hb, hL1⟩ := forX_go hL
  unfold F_slices_IndexFunc_int_int_l1 at hb
  refine cw_skip (cw_seq (cw_block (cw_seq (cw_region ?_))))
  refine sQ 10 (Y_move (v := vi (i : Int)) rfl (hf.get 8 3 rfl)) ?_
  refine sQ 5 (Y_assign (v := vi (i : Int)) rfl rfl) (rw_nil (cw_seq (cw_region ?_)))
  refine sQ 11 (Y_move (v := .func (.func kf) #[] caps) rfl (hf.get 1 1 rfl)) ?_
  refine sQ 12 (Y_move (v := .slice B s.length c) rfl (hf.get 0 0 rfl)) ?_
  refine sQ 13 (Y_move (v := vi (i : Int)) rfl rfl) ?_
  obtain ⟨x1, hx, hb⟩ := bind_inv hb
  refine sQ 14 (Y_index (B := B) (m := s.length) (c := c) (k := .i64) (i := (i : Int)) k_sl_43_3 k_sz_3_1 rfl rfl rfl (gi_isSome encI_len rfl (hS1.rf (i := 0) rfl) hx) (getI_nn hx) (getI_ltI hx rfl)) ?_
  refine sQ 15 (Y_load1 (B := B) (i := (i : Int).toNat * 1) (cs := (s.flatMap encI)) (v := vi x1) k_sc_3 rfl rfl (hS1.rf (i := 0) rfl) (gi_at0 encI_len hx rfl)) ?_
  obtain ⟨r_1, hc, hb⟩ := bind_inv hb
  refine sc 16 rfl rfl (Yc_clos (g := kf) (vs := (vi x1) :: caps.toList) hk rfl rfl (clo_args (mc rfl mn)) (hp _ (hS1.innS (fun _ h => mOd (i := 1) h)) x1 r_1 hc)) ?_
  rintro _ w_ ⟨rfl, hd⟩
  have hS2 := hS1.out00 hd
  refine rw_nil ?_
  refine cw_cond (b := r_1) rfl (fun hb1 => ?_) (fun hb1 => ?_)
  ·skip
   have hF2 := ct hb hb1
   refine cw_seq (cw_region ?_)
   refine sQ 17 (Y_move (v := vi (i : Int)) rfl rfl) ?_
   refine sQ 4 (Y_assign (v := vi (i : Int)) rfl rfl) (rw_nil (cw_ret ?_))
   obtain rfl := some_inj hF2
   obtain rfl := some_inj hL1
   obtain rfl := some_inj hF1
   exact ret1 Tryz.results170 (v1 := vi (i : Int)) (resAt_tmp rfl) ⟨rfl, (hS2.sN [])⟩
  ·skip
   have hF3 := cf' hb hb1
   refine cw_skip (cw_region ?_)
   refine sQ 18 (Y_add (k := .i64) (a := (i : Int)) (b := 1) rfl (hf.get 8 3 rfl) rfl) ?_
   refine sQ 8 (Y_move (v := vi (i64.wrap ((i : Int) + 1))) rfl rfl) (rw_nil ?_)
   obtain rfl := some_inj hF3
   exact ⟨k_1, Nat.lt_succ_self _, i + 1, (FF.cons (hf.get 0 0 rfl) (FF.cons (hf.get 1 1 rfl) (FF.cons (hf.get 7 2 rfl) (FF.cons (congrArg (Value.int .i64) (wr_succ hlt1 hN)) FF.nil)))), (hS2.sel [] rfl rfl), (by omega), hL1⟩
 ·skip
  obtain rfl : k_ = 0 := by have h := of_decide_eq_false hlt; omega
  refine cw_exit rfl ?_
  obtain rfl := some_inj hL
  refine cw_seq (cw_region ?_)
  refine sQ 4 (Y_assign (v := vi (-1)) rfl rfl) (rw_nil (cw_ret ?_))
  obtain rfl := some_inj hF1
  exact ret1 Tryz.results170 (v1 := vi (-1)) (resAt_tmp rfl) ⟨rfl, (hS1.sN [])⟩

theorem c_slices_ContainsFunc_int_int (s : List Int) (f_ : Int → Option (Bool)) (B : Option Addr) (c n : Nat) (kf : Nat) (caps : Array Value) (Rf : List Ro) (w0 : World) (hn : s.length = n) (hk : callB Tryz.prog kf = true) (hp : ∀ (w : World), ST w [] w [] Rf → ∀ (x : Int) (y : Bool), f_ x = some y → CV Tryz.prog kf ((vi x) :: caps.toList).toArray w (fun v w' => v = .bool y ∧ ST w [] w' [] [])) (hS : ST w0 [] w0 [] (⟨B, (s.flatMap encI)⟩ :: Rf)) {r_ : Bool} (hF : F_slices_ContainsFunc_int_int s f_ = some r_) :
  CV Tryz.prog 144 #[.slice B n c, .func (.func kf) #[] caps] w0 (fun v w' => v = .bool r_ ∧ ST w0 [] w' [] []) := by
 subst hn
 unfold F_slices_ContainsFunc_int_int at hF
 refine cv_of_cw 9 Tryz.func144 rfl Tryz.ntmps144 rfl ?_
 refine cw_seq (cw_region ?_)
 refine sQ 4 (Y_assign (v := .bool false) rfl rfl) (rw_nil (cw_seq (cw_region ?_)))
 refine sQ 5 (Y_move (v := .slice B s.length c) rfl rfl) ?_
 refine sQ 6 (Y_move (v := .func (.func kf) #[] caps) rfl rfl) ?_
 obtain ⟨r_1, hc, hF⟩ := bind_inv hF
 refine sc 7 rfl rfl (Yc_func (g := 170) (vs := [.slice B s.length c, .func (.func kf) #[] caps]) k_call_170 rfl (mc rfl (mc rfl mn)) (c_slices_IndexFunc_int_int s f_ B c s.length kf caps Rf _ rfl hk hp (hS.innS (subc (mem_at (i := 0) rfl) (fun _ h => mOd (i := 1) h))) hc)) ?_
 rintro _ w_ ⟨rfl, hd⟩
 have hS1 := hS.out00 hd
 refine sQ 8 (Y_ge (k := .i64) (a := r_1) (b := 0) rfl rfl rfl) ?_
 refine sQ 4 (Y_assign (v := .bool (decide (0 ≤ r_1))) rfl rfl) (rw_nil (cw_ret ?_))
 obtain rfl := some_inj hF
 exact ret1 Tryz.results144 (v1 := .bool (decide (0 ≤ r_1))) (resAt_tmp rfl) ⟨rfl, (hS1.sN [])⟩

theorem c_slices_Index_int_int (s : List Int) (v_ : Int) (B : Option Addr) (c n : Nat) (w0 : World) (hn : s.length = n) (hS : ST w0 [] w0 [] [⟨B, (s.flatMap encI)⟩]) {r_ : Int} (hF : F_slices_Index_int_int s v_ = some r_) :
  CV Tryz.prog 176 #[.slice B n c, vi v_] w0 (fun v w' => v = vi r_ ∧ ST w0 [] w' [] []) := by
 subst hn
 unfold F_slices_Index_int_int at hF
 refine cv_of_cw 19 Tryz.func176 rfl Tryz.ntmps176 rfl ?_
 refine cw_seq (cw_region ?_)
 refine sQ 4 (Y_assign (v := vi 0) rfl rfl) (rw_nil (cw_seq (cw_seq (cw_region ?_))))
 refine sQ 6 (Y_move (v := .slice B s.length c) rfl rfl) ?_
 refine sQ 7 (Y_len (B := B) (m := s.length) (c := c) k_sl_43_3 rfl rfl) ?_
 refine sQ 8 (Y_move (v := vi 0) rfl rfl) (rw_nil ?_)
 obtain ⟨hN, hF⟩ := chk_inv hF
 obtain ⟨z, hz, hF1⟩ := bind_inv hF
 refine cw_block ?_
 refine cw_loop (fun k f w => ∃ (i : Nat), FF f [(0, .slice B s.length c), (1, vi v_), (7, vi (s.length : Int)), (8, vi (i : Int))] ∧ ST w0 [] w [] [⟨B, (s.flatMap encI)⟩] ∧ i + k = s.length ∧ forX (F_slices_Index_int_int_l1 s v_) k i () = some z) s.length ⟨0, (FF.cons rfl (FF.cons rfl (FF.cons rfl (FF.cons rfl FF.nil)))), (hS.sel [] rfl rfl), Nat.zero_add _, hz⟩ ?_
 rintro k_ f w ⟨i, hf, hS1, hik, hL⟩
 refine cw_seq (cw_region ?_)
 refine sQ 9 (Y_lt (k := .i64) (a := (i : Int)) (b := (s.length : Int)) rfl (hf.get 8 3 rfl) (hf.get 7 2 rfl)) (rw_nil (cw_seq ?_))
 refine cw_cond (b := (decide ((i : Int) < (s.length : Int)))) rfl (fun hlt => ?_) (fun hlt => ?_)
 ·skip
  have hlt1 : i < s.length := by have h := of_decide_eq_true hlt; omega
  obtain ⟨k_1, rfl⟩ : ∃ k2, k_ = k2 + 1 := ⟨k_ - 1, by omega⟩
  obtain ⟨y, hb, hL1⟩ := forX_go hL
  unfold F_slices_Index_int_int_l1 at hb
  refine cw_skip (cw_seq (cw_block (cw_seq (cw_region ?_))))
  refine sQ 10 (Y_move (v := vi (i : Int)) rfl (hf.get 8 3 rfl)) ?_
  refine sQ 5 (Y_assign (v := vi (i : Int)) rfl rfl) (rw_nil (cw_seq (cw_region ?_)))
  refine sQ 11 (Y_move (v := vi v_) rfl (hf.get 1 1 rfl)) ?_
  refine sQ 12 (Y_move (v := .slice B s.length c) rfl (hf.get 0 0 rfl)) ?_
  refine sQ 13 (Y_move (v := vi (i : Int)) rfl rfl) ?_
  obtain ⟨x, hx, hb⟩ := bind_inv hb
  refine sQ 14 (Y_index (B := B) (m := s.length) (c := c) (k := .i64) (i := (i : Int)) k_sl_43_3 k_sz_3_1 rfl rfl rfl (gi_isSome encI_len rfl (hS1.rf (i := 0) rfl) hx) (getI_nn hx) (getI_ltI hx rfl)) ?_
  refine sQ 15 (Y_load1 (B := B) (i := (i : Int).toNat * 1) (cs := (s.flatMap encI)) (v := vi x) k_sc_3 rfl rfl (hS1.rf (i := 0) rfl) (gi_at0 encI_len hx rfl)) ?_
  refine sQ 16 (Y_eq (k := .i64) (a := v_) (b := x) rfl rfl rfl) (rw_nil ?_)
  refine cw_cond (b := (v_ == x)) rfl (fun hb1 => ?_) (fun hb1 => ?_)
  ·skip
   have hF2 := ct hb hb1
   refine cw_seq (cw_region ?_)
   refine sQ 17 (Y_move (v := vi (i : Int)) rfl rfl) ?_
   refine sQ 4 (Y_assign (v := vi (i : Int)) rfl rfl) (rw_nil (cw_ret ?_))
   obtain rfl := some_inj hF2
   obtain rfl := some_inj hL1
   obtain rfl := some_inj hF1
   exact ret1 Tryz.results176 (v1 := vi (i : Int)) (resAt_tmp rfl) ⟨rfl, (hS1.sN [])⟩
  ·skip
   have hF3 := cf' hb hb1
   refine cw_skip (cw_region ?_)
   refine sQ 18 (Y_add (k := .i64) (a := (i : Int)) (b := 1) rfl (hf.get 8 3 rfl) rfl) ?_
   refine sQ 8 (Y_move (v := vi (i64.wrap ((i : Int) + 1))) rfl rfl) (rw_nil ?_)
   obtain rfl := some_inj hF3
   exact ⟨k_1, Nat.lt_succ_self _, i + 1, (FF.cons (hf.get 0 0 rfl) (FF.cons (hf.get 1 1 rfl) (FF.cons (hf.get 7 2 rfl) (FF.cons (congrArg (Value.int .i64) (wr_succ hlt1 hN)) FF.nil)))), (hS1.sel [] rfl rfl), (by omega), hL1⟩
 ·skip
  obtain rfl : k_ = 0 := by have h := of_decide_eq_false hlt; omega
  refine cw_exit rfl ?_
  obtain rfl := some_inj hL
  refine cw_seq (cw_region ?_)
  refine sQ 4 (Y_assign (v := vi (-1)) rfl rfl) (rw_nil (cw_ret ?_))
  obtain rfl := some_inj hF1
  exact ret1 Tryz.results176 (v1 := vi (-1)) (resAt_tmp rfl) ⟨rfl, (hS1.sN [])⟩

theorem c_slices_Contains_int_int (s : List Int) (v_ : Int) (B : Option Addr) (c n : Nat) (w0 : World) (hn : s.length = n) (hS : ST w0 [] w0 [] [⟨B, (s.flatMap encI)⟩]) {r_ : Bool} (hF : F_slices_Contains_int_int s v_ = some r_) :
  CV Tryz.prog 156 #[.slice B n c, vi v_] w0 (fun v w' => v = .bool r_ ∧ ST w0 [] w' [] []) := by
 subst hn
 unfold F_slices_Contains_int_int at hF
 refine cv_of_cw 9 Tryz.func156 rfl Tryz.ntmps156 rfl ?_
 refine cw_seq (cw_region ?_)
 refine sQ 4 (Y_assign (v := .bool false) rfl rfl) (rw_nil (cw_seq (cw_region ?_)))
 refine sQ 5 (Y_move (v := .slice B s.length c) rfl rfl) ?_
 refine sQ 6 (Y_move (v := vi v_) rfl rfl) ?_
 obtain ⟨r_1, hc, hF⟩ := bind_inv hF
 refine sc 7 rfl rfl (Yc_func (g := 176) (vs := [.slice B s.length c, vi v_]) k_call_176 rfl (mc rfl (mc rfl mn)) (c_slices_Index_int_int s v_ B c s.length _ rfl (hS.inn0 [(true, 0)] rfl) hc)) ?_
 rintro _ w_ ⟨rfl, hd⟩
 have hS1 := hS.out00 hd
 refine sQ 8 (Y_ge (k := .i64) (a := r_1) (b := 0) rfl rfl rfl) ?_
 refine sQ 4 (Y_assign (v := .bool (decide (0 ≤ r_1))) rfl rfl) (rw_nil (cw_ret ?_))
 obtain rfl := some_inj hF
 exact ret1 Tryz.results156 (v1 := .bool (decide (0 ≤ r_1))) (resAt_tmp rfl) ⟨rfl, (hS1.sN [])⟩

theorem c_impl_meet_1 (q : Int) (p : TGate) (B : Option Addr) (w0 : World)  (hS : ST w0 [] w0 [] [⟨B, [vi p.Kind, vi p.A, vi p.B]⟩]) {r_ : Bool} (hF : F_impl_meet_1 q p = some r_) :
  CV Tryz.prog 155 #[vi q, pt B 0] w0 (fun v w' => v = .bool r_ ∧ ST w0 [] w' [] []) := by
 unfold F_impl_meet_1 at hF
 refine cv_of_cw 8 Tryz.func155 rfl Tryz.ntmps155 rfl ?_
 refine cw_seq (cw_region ?_)
 refine sQ 3 (Y_assign (v := .bool false) rfl rfl) (rw_nil (cw_seq (cw_region ?_)))
 refine sQ 4 (Y_loadA (B := B) (i := 0) (cs := [vi p.Kind, vi p.A, vi p.B]) (vs := [vi p.Kind, vi p.A, vi p.B]) k_ag_67 k_sz_67_3 rfl rfl (hS.rf (i := 0) rfl) rfl rfl) ?_
 obtain ⟨r_1, hc, hF⟩ := bind_inv hF
 refine sc 5 rfl rfl (Yc_func (g := 114) (vs := [.agg #[vi p.Kind, vi p.A, vi p.B]]) k_call_114 rfl (mc rfl mn) (c_impl_qubitsOf p _  (hS.inn0 [] rfl) hc)) ?_
 rintro _ w_ ⟨B1, c, rfl, hd⟩
 have hS1 := hS.out0 hd
 refine sQ 6 (Y_move (v := vi q) rfl rfl) ?_
 obtain ⟨r_2, hc1, hF⟩ := bind_inv hF
 refine sc 7 rfl rfl (Yc_func (g := 156) (vs := [.slice B1 r_1.length c, vi q]) k_call_156 rfl (mc rfl (mc rfl mn)) (c_slices_Contains_int_int r_1 q B1 c r_1.length _ rfl (hS1.inn0 [(false, 0)] rfl) hc1)) ?_
 rintro _ w_1 ⟨rfl, hd1⟩
 have hS2 := hS1.out00 hd1
 refine sQ 3 (Y_assign (v := .bool r_2) rfl rfl) (rw_nil (cw_ret ?_))
 obtain rfl := some_inj hF
 exact ret1 Tryz.results155 (v1 := .bool r_2) (resAt_tmp rfl) ⟨rfl, (hS2.sN [])⟩

theorem c_impl_meet (g : TGate) (h : TGate)  (w0 : World)  (hS : ST w0 [] w0 [] []) {r_ : Bool} (hF : F_impl_meet g h = some r_) :
  CV Tryz.prog 112 #[.agg #[vi g.Kind, vi g.A, vi g.B], .agg #[vi h.Kind, vi h.A, vi h.B]] w0 (fun v w' => v = .bool r_ ∧ ST w0 [] w' [] []) := by
 unfold F_impl_meet at hF
 refine cv_of_cw 9 Tryz.func112 rfl Tryz.ntmps112 rfl ?_
 refine cw_seq (cw_region ?_)
 refine sS 2 (Ys_box (T := 67) (v := .agg #[vi g.Kind, vi g.A, vi g.B]) (cs := [vi g.Kind, vi g.A, vi g.B]) (m := 3) hS rfl rfl rfl rfl) ?_
 rintro _ w_ ⟨b, rfl, hS1⟩
 refine sS 3 (Ys_box (T := 67) (v := .agg #[vi h.Kind, vi h.A, vi h.B]) (cs := [vi h.Kind, vi h.A, vi h.B]) (m := 3) hS1 rfl rfl rfl rfl) ?_
 rintro _ w_1 ⟨b1, rfl, hS2⟩
 refine sQ 4 (Y_assign (v := .bool false) rfl rfl) (rw_nil (cw_seq (cw_region ?_)))
 refine sQ 5 (Y_loadA (B := aD b) (i := 0) (cs := [vi g.Kind, vi g.A, vi g.B]) (vs := [vi g.Kind, vi g.A, vi g.B]) k_ag_67 k_sz_67_3 rfl rfl (hS2.cf (i := 0) rfl) rfl rfl) ?_
 obtain ⟨r_1, hc, hF⟩ := bind_inv hF
 refine sc 6 rfl rfl (Yc_func (g := 114) (vs := [.agg #[vi g.Kind, vi g.A, vi g.B]]) k_call_114 rfl (mc rfl mn) (c_impl_qubitsOf g _  (hS2.inn0 [] rfl) hc)) ?_
 rintro _ w_2 ⟨B, c, rfl, hd⟩
 have hS3 := hS2.out0 hd
 refine sQ 7 (Y_makeFunc (cs := [pt (aD b1) 0]) rfl rfl (mc rfl mn)) ?_
 obtain ⟨r_2, hc1, hF⟩ := bind_inv hF
 refine sc 8 rfl rfl (Yc_func (g := 144) (vs := [.slice B r_1.length c, .func (.func 155) #[] #[pt (aD b1) 0]]) k_call_144 rfl (mc rfl (mc rfl mn)) (c_slices_ContainsFunc_int_int r_1 (fun x_0 => F_impl_meet_1 x_0 h) B c r_1.length 155 (#[pt (aD b1) 0]) [⟨aD b1, [vi h.Kind, vi h.A, vi h.B]⟩] _ rfl k_call_155 (fun w hw x_0 y_0 h_ => c_impl_meet_1 x_0 h (aD b1) w  hw h_) (hS3.inn0 [(false, 2), (false, 1)] rfl) hc1)) ?_
 rintro _ w_3 ⟨rfl, hd1⟩
 have hS4 := hS3.out00 hd1
 refine sQ 4 (Y_assign (v := .bool r_2) rfl rfl) (rw_nil (cw_ret ?_))
 obtain rfl := some_inj hF
 exact ret1 Tryz.results112 (v1 := .bool r_2) (resAt_tmp rfl) ⟨rfl, (hS4.sN [])⟩

theorem c_slices_Concat_int_int (slices : List (List Int)) (B : Option Addr) (c n : Nat) (D : List (Hd × (List Int))) (w0 : World) (hn : slices.length = n) (hD : D.map Prod.snd = slices) (hS : ST w0 [] w0 [] (⟨B, (D.flatMap encD_SInt)⟩ :: ((D.flatMap rowD_SInt) ++ []))) {r_ : List Int} (hF : F_slices_Concat_int_int slices = some r_) :
  CV Tryz.prog 157 #[.slice B n c] w0 (fun v w' => ∃ (B1 : Option Addr) (c1 : Nat), v = .slice B1 r_.length c1 ∧ ST w0 [] w' [⟨B1, 3, (r_.flatMap encI), c1 * 1⟩] []) := by
 subst hn
 unfold F_slices_Concat_int_int at hF
 refine cv_of_cw 36 Tryz.func157 rfl Tryz.ntmps157 rfl ?_
 refine cw_seq (cw_region ?_)
 refine sQ 2 (Y_assign (v := .slice none 0 0) rfl rfl) (rw_nil (cw_seq (cw_region ?_)))
 refine sQ 3 (Y_assign (v := vi 0) rfl rfl) (rw_nil (cw_seq (cw_seq (cw_region ?_))))
 refine sQ 9 (Y_move (v := .slice B slices.length c) rfl rfl) ?_
 refine sQ 10 (Y_len (B := B) (m := slices.length) (c := c) k_sl_184_43 rfl rfl) ?_
 refine sQ 11 (Y_move (v := vi 0) rfl rfl) (rw_nil ?_)
 obtain ⟨hN, hF⟩ := chk_inv hF
 obtain ⟨z, hz, hF1⟩ := bind_inv hF
 refine cw_block ?_
 refine cw_loop (fun k f w => ∃ (i : Nat) (size : Int), FF f [(0, .slice B slices.length c), (3, vi size), (9, .slice B slices.length c), (10, vi (slices.length : Int)), (11, vi (i : Int))] ∧ ST w0 [] w [] (⟨B, (D.flatMap encD_SInt)⟩ :: ((D.flatMap rowD_SInt) ++ [])) ∧ i + k = slices.length ∧ forN (F_slices_Concat_int_int_l1 slices) k i size = some z) slices.length ⟨0, 0, (FF.cons rfl (FF.cons rfl (FF.cons rfl (FF.cons rfl (FF.cons rfl FF.nil))))), (hS.sel [] rfl rfl), Nat.zero_add _, hz⟩ ?_
 rintro k_ f w ⟨i, size, hf, hS1, hik, hL⟩
 refine cw_seq (cw_region ?_)
 refine sQ 12 (Y_lt (k := .i64) (a := (i : Int)) (b := (slices.length : Int)) rfl (hf.get 11 4 rfl) (hf.get 10 3 rfl)) (rw_nil (cw_seq ?_))
 refine cw_cond (b := (decide ((i : Int) < (slices.length : Int)))) rfl (fun hlt => ?_) (fun hlt => ?_)
 ·skip
  have hlt1 : i < slices.length := by have h := of_decide_eq_true hlt; omega
  obtain ⟨k_1, rfl⟩ : ∃ k2, k_ = k2 + 1 := ⟨k_ - 1, by omega⟩
  obtain ⟨y, hb, hL1⟩ := forN_go hL
  unfold F_slices_Concat_int_int_l1 at hb
  refine cw_skip (cw_seq (cw_block (cw_seq (cw_region ?_))))
  obtain ⟨x, hx, hb⟩ := bind_inv hb
  obtain ⟨⟨B2, c2⟩, hp⟩ := getI_snd hD hx
  refine sQ 13 (Y_index (B := B) (m := slices.length) (c := c) (k := .i64) (i := (i : Int)) k_sl_184_43 k_sz_43_1 rfl (hf.get 9 2 rfl) (hf.get 11 4 rfl) (gi_isSome encD_SInt_len rfl (hS1.rf (i := 0) rfl) hp) (getI_nn hp) (getI_ltI hp (dl_len hD))) ?_
  have hm : (⟨B2, (x.flatMap encI)⟩ : Ro) ∈ ((⟨B, (D.flatMap encD_SInt)⟩ :: ((D.flatMap rowD_SInt) ++ [])) : List Ro) := app_mem (fun r_ (h : r_ ∈ ((D.flatMap rowD_SInt) : List Ro)) => mOd (i := 1) (show r_ ∈ ((((D.flatMap rowD_SInt) ++ [])) : List Ro) from mAl _ h)) (row_mem (rw_ := rowD_SInt) hp _ (mem_at (i := 0) rfl))
  have hS2 : ST w0 [] _ [] (⟨B2, (x.flatMap encI)⟩ :: ⟨B, (D.flatMap encD_SInt)⟩ :: ((D.flatMap rowD_SInt) ++ [])) := ST.subR hS1 (subc hm (fun _ h => h))
  refine sQ 14 (Y_load1 (B := B) (i := (i : Int).toNat * 1) (cs := (D.flatMap encD_SInt)) (v := .slice B2 x.length c2) k_sc_43 rfl rfl (hS2.rf (i := 1) rfl) (gi_at0 encD_SInt_len hp rfl)) ?_
  refine sQ 5 (Y_assign (v := .slice B2 x.length c2) rfl rfl) (rw_nil (cw_seq (cw_region ?_)))
  refine sQ 15 (Y_move (v := vi size) rfl (hf.get 3 1 rfl)) ?_
  refine sQ 16 (Y_move (v := .slice B2 x.length c2) rfl rfl) ?_
  refine sQ 17 (Y_len (B := B2) (m := x.length) (c := c2) k_sl_43_3 rfl rfl) ?_
  refine sQ 18 (Y_add (k := .i64) (a := size) (b := (x.length : Int)) rfl rfl rfl) ?_
  refine sQ 3 (Y_assign (v := vi (i64.wrap (size + (x.length : Int)))) rfl rfl) (rw_nil (cw_seq (cw_region ?_)))
  refine sQ 19 (Y_move (v := vi (i64.wrap (size + (x.length : Int)))) rfl rfl) ?_
  refine sQ 20 (Y_lt (k := .i64) (a := (i64.wrap (size + (x.length : Int)))) (b := 0) rfl rfl rfl) (rw_nil ?_)
  refine cw_cond (b := (decide ((i64.wrap (size + (x.length : Int))) < 0))) rfl (fun hb1 => ?_) (fun hb1 => ?_)
  ·skip
   have hF2 := ct hb hb1
   cases hF2
  ·skip
   have hF3 := cf' hb hb1
   refine cw_skip (cw_region ?_)
   refine sQ 22 (Y_add (k := .i64) (a := (i : Int)) (b := 1) rfl (hf.get 11 4 rfl) rfl) ?_
   refine sQ 11 (Y_move (v := vi (i64.wrap ((i : Int) + 1))) rfl rfl) (rw_nil ?_)
   obtain rfl := some_inj hF3
   have hS3 : ST w0 [] _ [] (⟨B, (D.flatMap encD_SInt)⟩ :: ((D.flatMap rowD_SInt) ++ [])) := ST.subR hS2 (subc (mem_at (i := 1) rfl) (suba (fun r_ (h : r_ ∈ ((D.flatMap rowD_SInt) : List Ro)) => mOd (i := 2) (show r_ ∈ ((((D.flatMap rowD_SInt) ++ [])) : List Ro) from mAl _ h)) (fun _ h => by cases h)))
   exact ⟨k_1, Nat.lt_succ_self _, i + 1, (i64.wrap (size + (x.length : Int))), (FF.cons (hf.get 0 0 rfl) (FF.cons rfl (FF.cons (hf.get 9 2 rfl) (FF.cons (hf.get 10 3 rfl) (FF.cons (congrArg (Value.int .i64) (wr_succ hlt1 hN)) FF.nil))))), (hS3.sel [] rfl rfl), (by omega), hL1⟩
 ·skip
  obtain rfl : k_ = 0 := by have h := of_decide_eq_false hlt; omega
  refine cw_exit rfl ?_
  obtain rfl := some_inj hL
  refine cw_seq (cw_region ?_)
  refine sQ 23 (Y_move (v := vi size) rfl (hf.get 3 1 rfl)) ?_
  obtain ⟨hmk, hF1⟩ := chk_inv hF1
  refine sc 24 rfl rfl (Yc_func (g := 177) (vs := [.slice none 0 0, vi size]) k_call_177 rfl (mc rfl (mc rfl mn)) (grow_c Tryz.grow177 177 3 rfl rfl size k_sz_3_1 k_by_3_8 k_zero_3 rfl (by decide) (by decide) hmk hS1)) ?_
  rintro _ w_ ⟨B3, c3, rfl, hd⟩
  refine sQ 6 (Y_assign (v := .slice B3 0 c3) rfl rfl) (rw_nil (cw_seq (cw_seq (cw_region ?_))))
  refine sQ 25 (Y_move (v := .slice B slices.length c) rfl (hf.get 0 0 rfl)) ?_
  refine sQ 26 (Y_len (B := B) (m := slices.length) (c := c) k_sl_184_43 rfl rfl) ?_
  refine sQ 27 (Y_move (v := vi 0) rfl rfl) (rw_nil ?_)
  obtain ⟨hN1, hF1⟩ := chk_inv hF1
  obtain ⟨z1, hz1, hF4⟩ := bind_inv hF1
  refine cw_block ?_
  refine cw_loop (fun k f w => ∃ (i1 : Nat) (newslice : List Int) (B4 : Option Addr) (c4 : Nat), FF f [(6, .slice B4 newslice.length c4), (25, .slice B slices.length c), (26, vi (slices.length : Int)), (27, vi (i1 : Int))] ∧ ST w0 [] w [⟨B4, 3, (newslice.flatMap encI), c4 * 1⟩] (⟨B, (D.flatMap encD_SInt)⟩ :: ((D.flatMap rowD_SInt) ++ [])) ∧ i1 + k = slices.length ∧ forN (F_slices_Concat_int_int_l2 slices) k i1 newslice = some z1) slices.length ⟨0, ([] : List Int), B3, c3, (FF.cons rfl (FF.cons rfl (FF.cons rfl (FF.cons rfl FF.nil)))), (hd.sel [0] rfl rfl), Nat.zero_add _, hz1⟩ ?_
  rintro k_2 f w ⟨i1, newslice, B4, c4, hf1, hS4, hik1, hL2⟩
  refine cw_seq (cw_region ?_)
  refine sQ 28 (Y_lt (k := .i64) (a := (i1 : Int)) (b := (slices.length : Int)) rfl (hf1.get 27 3 rfl) (hf1.get 26 2 rfl)) (rw_nil (cw_seq ?_))
  refine cw_cond (b := (decide ((i1 : Int) < (slices.length : Int)))) rfl (fun hlt2 => ?_) (fun hlt2 => ?_)
  ·skip
   have hlt3 : i1 < slices.length := by have h := of_decide_eq_true hlt2; omega
   obtain ⟨k_3, rfl⟩ : ∃ k2, k_2 = k2 + 1 := ⟨k_2 - 1, by omega⟩
   obtain ⟨y1, hb2, hL3⟩ := forN_go hL2
   unfold F_slices_Concat_int_int_l2 at hb2
   refine cw_skip (cw_seq (cw_block (cw_seq (cw_region ?_))))
   obtain ⟨x1, hx1, hb2⟩ := bind_inv hb2
   obtain ⟨⟨B5, c5⟩, hp1⟩ := getI_snd hD hx1
   refine sQ 29 (Y_index (B := B) (m := slices.length) (c := c) (k := .i64) (i := (i1 : Int)) k_sl_184_43 k_sz_43_1 rfl (hf1.get 25 1 rfl) (hf1.get 27 3 rfl) (gi_isSome encD_SInt_len rfl (hS4.rf (i := 0) rfl) hp1) (getI_nn hp1) (getI_ltI hp1 (dl_len hD))) ?_
   have hm1 : (⟨B5, (x1.flatMap encI)⟩ : Ro) ∈ ((⟨B, (D.flatMap encD_SInt)⟩ :: ((D.flatMap rowD_SInt) ++ [])) : List Ro) := app_mem (fun r_ (h : r_ ∈ ((D.flatMap rowD_SInt) : List Ro)) => mOd (i := 1) (show r_ ∈ ((((D.flatMap rowD_SInt) ++ [])) : List Ro) from mAl _ h)) (row_mem (rw_ := rowD_SInt) hp1 _ (mem_at (i := 0) rfl))
   have hS5 : ST w0 [] _ [⟨B4, 3, (newslice.flatMap encI), c4 * 1⟩] (⟨B5, (x1.flatMap encI)⟩ :: ⟨B, (D.flatMap encD_SInt)⟩ :: ((D.flatMap rowD_SInt) ++ [])) := ST.subR hS4 (subc hm1 (fun _ h => h))
   refine sQ 30 (Y_load1 (B := B) (i := (i1 : Int).toNat * 1) (cs := (D.flatMap encD_SInt)) (v := .slice B5 x1.length c5) k_sc_43 rfl rfl (hS5.rf (i := 1) rfl) (gi_at0 encD_SInt_len hp1 rfl)) ?_
   refine sQ 8 (Y_assign (v := .slice B5 x1.length c5) rfl rfl) (rw_nil (cw_region ?_))
   refine sQ 31 (Y_move (v := .slice B4 newslice.length c4) rfl (hf1.get 6 0 rfl)) ?_
   refine sQ 32 (Y_move (v := .slice B5 x1.length c5) rfl rfl) ?_
   obtain ⟨hap, hb2⟩ := chk_inv hb2
   refine sS 33 (Ys_append (s := 1) (by' := 8) (i := 0) (nn := newslice.length) (c := c4) (k := x1.length) (len := (newslice ++ x1).length) (B := B4) (xs := (x1.flatMap encI)) (cs' := ((newslice ++ x1).flatMap encI)) hS5 k_sl_43_3 k_sz_3_1 k_by_3_8 k_zero_3 rfl (by decide) rfl rfl rfl rfl (fm_lenn (l := newslice) encI_len rfl) rfl (hS5.rf (i := 0) rfl) (fm_lenn (l := x1) encI_len rfl) (fm_one' (enc := encI) encI_one x1) (by have := hap; omega) (by have := hap; simp only [maxLen]; omega) (fm_app _ _) (app_len (l := newslice) (l' := x1) rfl rfl)) ?_
   rintro _ w_1 ⟨B6, c6, rfl, hS6⟩
   refine sQ 6 (Y_assign (v := .slice B6 ((newslice ++ x1).length) c6) rfl rfl) (rw_nil (cw_region ?_))
   refine sQ 34 (Y_add (k := .i64) (a := (i1 : Int)) (b := 1) rfl (hf1.get 27 3 rfl) rfl) ?_
   refine sQ 27 (Y_move (v := vi (i64.wrap ((i1 : Int) + 1))) rfl rfl) (rw_nil ?_)
   obtain rfl := some_inj hb2
   have hS7 : ST w0 [] _ [⟨B6, 3, ((newslice ++ x1).flatMap encI), c6 * 1⟩] (⟨B, (D.flatMap encD_SInt)⟩ :: ((D.flatMap rowD_SInt) ++ [])) := ST.subR hS6 (subc (mem_at (i := 1) rfl) (suba (fun r_ (h : r_ ∈ ((D.flatMap rowD_SInt) : List Ro)) => mOd (i := 2) (show r_ ∈ ((((D.flatMap rowD_SInt) ++ [])) : List Ro) from mAl _ h)) (fun _ h => by cases h)))
   exact ⟨k_3, Nat.lt_succ_self _, i1 + 1, (newslice ++ x1), B6, c6, (FF.cons rfl (FF.cons (hf1.get 25 1 rfl) (FF.cons (hf1.get 26 2 rfl) (FF.cons (congrArg (Value.int .i64) (wr_succ hlt3 hN1)) FF.nil)))), (hS7.sel [0] rfl rfl), (by omega), hL3⟩
  ·skip
   obtain rfl : k_2 = 0 := by have h := of_decide_eq_false hlt2; omega
   refine cw_exit rfl ?_
   obtain rfl := some_inj hL2
   refine cw_seq (cw_region ?_)
   refine sQ 35 (Y_move (v := .slice B4 newslice.length c4) rfl (hf1.get 6 0 rfl)) ?_
   refine sQ 2 (Y_assign (v := .slice B4 newslice.length c4) rfl rfl) (rw_nil (cw_ret ?_))
   obtain rfl := some_inj hF4
   exact ret1 Tryz.results157 (v1 := .slice B4 newslice.length c4) (resAt_tmp rfl) ⟨B4, c4, rfl, (hS4.sN [0])⟩

theorem c_slices_Sort_int_int (x : List Int) (B : Option Addr) (c n : Nat) (w0 : World) (hn : x.length = n) (hS : ST w0 (bl [⟨B, 3, x.flatMap encI, c * 1⟩]) w0 [⟨B, 3, x.flatMap encI, c * 1⟩] []) {m : List Int} (hF : F_slices_Sort_int_int x = some m) :
  CV Tryz.prog 158 #[.slice B n c] w0 (fun v w' => v = .tuple #[] ∧ m.length = n ∧ ST w0 (bl [⟨B, 3, x.flatMap encI, c * 1⟩]) w' [⟨B, 3, m.flatMap encI, c * 1⟩] []) :=
 sort_contract Tryz.slices_Sort_int Tryz.slices_Sort_int_none x 3 B c n w0 hn hS hF

theorem c_impl_union (a : List Int) (b : List Int) (B : Option Addr) (c n : Nat) (B1 : Option Addr) (c1 n1 : Nat) (w0 : World) (hn : a.length = n) (hn1 : b.length = n1) (hS : ST w0 [] w0 [] [⟨B, (a.flatMap encI)⟩, ⟨B1, (b.flatMap encI)⟩]) {r_ : List Int} (hF : F_impl_union a b = some r_) :
  CV Tryz.prog 113 #[.slice B n c, .slice B1 n1 c1] w0 (fun v w' => ∃ (B2 : Option Addr) (c2 : Nat), v = .slice B2 r_.length c2 ∧ ST w0 [] w' [⟨B2, 3, (r_.flatMap encI), c2 * 1⟩] []) := by
 subst hn
 subst hn1
 unfold F_impl_union at hF
 refine cv_of_cw 14 Tryz.func113 rfl Tryz.ntmps113 rfl ?_
 refine cw_seq (cw_region ?_)
 refine sQ 4 (Y_assign (v := .slice none 0 0) rfl rfl) (rw_nil (cw_seq (cw_region ?_)))
 refine sQ 6 (Y_move (v := .slice B a.length c) rfl rfl) ?_
 refine sQ 7 (Y_move (v := .slice B1 b.length c1) rfl rfl) ?_
 refine sS 8 (Ys_bslice (s := 1) (len := 2) (vs := [(0, .slice B a.length c), (1, .slice B1 b.length c1)]) (cs := [.slice B a.length c, .slice B1 b.length c1]) (zs := [.slice none 0 0, .slice none 0 0]) (m := 2) hS k_sl_184_43 k_sz_43_1 k_zc_43 rfl (mpc rfl (mpc rfl mpn)) rfl rfl rfl (by kernel_rfl) (by kernel_rfl) rfl) ?_
 rintro _ w_ ⟨b1, rfl, hS1⟩
 have hm : ∀ r ∈ (([((B, c), a), ((B1, c1), b)] : List (Hd × (List Int))).flatMap rowD_SInt), r ∈ ([⟨B, (a.flatMap encI)⟩, ⟨B1, (b.flatMap encI)⟩] : List Ro) := (fsub_cons (subc (mem_at (i := 0) rfl) (fun _ h => by cases h)) (fsub_cons (subc (mem_at (i := 1) rfl) (fun _ h => by cases h)) fsub_nil))
 have ho : Org w0 [] [⟨B, (a.flatMap encI)⟩, ⟨B1, (b.flatMap encI)⟩] (([((B, c), a), ((B1, c1), b)] : List (Hd × (List Int))).flatMap rowD_SInt) := (forg_cons (org_cons (org_mem (i := 0) rfl) org_nil) (forg_cons (org_cons (org_mem (i := 1) rfl) org_nil) forg_nil))
 have hS2 : ST w0 [] _ [⟨aD b1, 43, (([((B, c), a), ((B1, c1), b)] : List (Hd × (List Int))).flatMap encD_SInt), 2 * 1⟩] (⟨B, (a.flatMap encI)⟩ :: ⟨B1, (b.flatMap encI)⟩ :: ((([((B, c), a), ((B1, c1), b)] : List (Hd × (List Int))).flatMap rowD_SInt) ++ [])) := ST.subR hS1 (subc (mem_at (i := 0) rfl) (subc (mem_at (i := 1) rfl) (suba hm (fun _ h => by cases h))))
 obtain ⟨r_1, hc, hF⟩ := bind_inv hF
 refine sc 9 rfl rfl (Yc_func (g := 157) (vs := [.slice (aD b1) 2 2]) k_call_157 rfl (mc rfl mn) (c_slices_Concat_int_int ([a, b] : List (List Int)) (aD b1) 2 2 ([((B, c), a), ((B1, c1), b)] : List (Hd × (List Int))) _ (dl_fl (show List.map Prod.snd ([((B, c), a), ((B1, c1), b)] : List (Hd × (List Int))) = ([a, b] : List (List Int)) from rfl) rfl) (show List.map Prod.snd ([((B, c), a), ((B1, c1), b)] : List (Hd × (List Int))) = ([a, b] : List (List Int)) from rfl) (hS2.innR0 (srcO (i := 0) rfl (srcG (fun r_ (h : r_ ∈ ((([((B, c), a), ((B1, c1), b)] : List (Hd × (List Int))).flatMap rowD_SInt) : List Ro)) => mOd (i := 2) (show r_ ∈ ((((([((B, c), a), ((B1, c1), b)] : List (Hd × (List Int))).flatMap rowD_SInt) ++ [])) : List Ro) from mAl _ h)) (fun _ h => by cases h)))) hc)) ?_
 rintro _ w_1 ⟨B3, c3, rfl, hd⟩
 have hS3 := hS2.out0 hd
 refine sQ 5 (Y_assign (v := .slice B3 r_1.length c3) rfl rfl) (rw_nil (cw_seq (cw_region ?_)))
 refine sQ 10 (Y_move (v := .slice B3 r_1.length c3) rfl rfl) ?_
 obtain ⟨m, hc1, hF⟩ := bind_inv hF
 refine sc 11 rfl rfl (Yc_func (g := 158) (vs := [.slice B3 r_1.length c3]) k_call_158 rfl (mc rfl mn) (c_slices_Sort_int_int r_1 B3 c3 r_1.length _ rfl (hS3.inn [false, true] rfl [] rfl) hc1)) ?_
 rintro _ w_2 ⟨rfl, hl, hd1⟩
 have hS4 := hS3.out [false, true] rfl hd1
 refine rw_nil (cw_seq (cw_region ?_))
 refine sQ 12 (Y_move (v := .slice B3 r_1.length c3) rfl rfl) ?_
 obtain ⟨hcp, hF⟩ := chk_inv hF
 refine sc 13 rfl rfl (Yc_func (g := 159) (vs := [.slice B3 r_1.length c3]) k_call_159 rfl (mc rfl mn) (compact_c Tryz.laysNm220 159 rfl (k := 1) (l := m) hl hcp rfl hS4)) ?_
 rintro _ w_3 ⟨rfl, hd2⟩
 have hS5 : ST w0 [] _ [⟨aD b1, 43, (([((B, c), a), ((B1, c1), b)] : List (Hd × (List Int))).flatMap encD_SInt), 2 * 1⟩, ⟨B3, 3, ((Go.Lib.compact m).flatMap encI), c3 * 1⟩] (⟨B, (a.flatMap encI)⟩ :: ⟨B1, (b.flatMap encI)⟩ :: ((([((B, c), a), ((B1, c1), b)] : List (Hd × (List Int))).flatMap rowD_SInt) ++ [])) := hd2
 refine sQ 4 (Y_assign (v := .slice B3 ((Go.Lib.compact m).length) c3) rfl rfl) (rw_nil (cw_ret ?_))
 obtain rfl := some_inj hF
 exact ret1 Tryz.results113 (v1 := .slice B3 ((Go.Lib.compact m).length) c3) (resAt_tmp rfl) ⟨B3, c3, rfl, (hS5.sN [1])⟩

theorem c_impl_mapped (gates : List TGate) (to_ : List Int) (B : Option Addr) (c n : Nat) (B1 : Option Addr) (c1 n1 : Nat) (w0 : World) (hn : gates.length = n) (hn1 : to_.length = n1) (hS : ST w0 [] w0 [] [⟨B, (gates.flatMap enc_Gate)⟩, ⟨B1, (to_.flatMap encI)⟩]) {r_ : List TGate} (hF : F_impl_mapped gates to_ = some r_) :
  CV Tryz.prog 115 #[.slice B n c, .slice B1 n1 c1] w0 (fun v w' => ∃ (B2 : Option Addr) (c2 : Nat), v = .slice B2 r_.length c2 ∧ ST w0 [] w' [⟨B2, 67, (r_.flatMap enc_Gate), c2 * 3⟩] []) := by
 subst hn
 subst hn1
 unfold F_impl_mapped at hF
 refine cv_of_cw 39 Tryz.func115 rfl Tryz.ntmps115 rfl ?_
 refine cw_seq (cw_region ?_)
 refine sQ 4 (Y_assign (v := .slice none 0 0) rfl rfl) (rw_nil (cw_seq (cw_region ?_)))
 refine sS 8 (Ys_bslice0 (s := 3) (e := 67) hS k_sl_24_67 k_sz_67_3 rfl) ?_
 rintro _ w_ ⟨b, rfl, hS1⟩
 refine sQ 5 (Y_assign (v := .slice (aD b) 0 0) rfl rfl) (rw_nil (cw_seq (cw_seq (cw_region ?_))))
 refine sQ 9 (Y_move (v := .slice B gates.length c) rfl rfl) ?_
 refine sQ 10 (Y_len (B := B) (m := gates.length) (c := c) k_sl_24_67 rfl rfl) ?_
 refine sQ 11 (Y_move (v := vi 0) rfl rfl) (rw_nil ?_)
 obtain ⟨hN, hF⟩ := chk_inv hF
 obtain ⟨z, hz, hF1⟩ := bind_inv hF
 refine cw_block ?_
 refine cw_loop (fun k f w => ∃ (i : Nat) (out : List TGate) (B3 : Option Addr) (c3 : Nat), FF f [(1, .slice B1 to_.length c1), (5, .slice B3 out.length c3), (9, .slice B gates.length c), (10, vi (gates.length : Int)), (11, vi (i : Int))] ∧ ST w0 [] w [⟨B3, 67, (out.flatMap enc_Gate), c3 * 3⟩] [⟨B, (gates.flatMap enc_Gate)⟩, ⟨B1, (to_.flatMap encI)⟩] ∧ i + k = gates.length ∧ forN (F_impl_mapped_l1 gates to_) k i out = some z) gates.length ⟨0, [], aD b, 0, (FF.cons rfl (FF.cons rfl (FF.cons rfl (FF.cons rfl (FF.cons rfl FF.nil))))), (hS1.sel [0] rfl rfl), Nat.zero_add _, hz⟩ ?_
 rintro k_ f w ⟨i, out, B3, c3, hf, hS2, hik, hL⟩
 refine cw_seq (cw_region ?_)
 refine sQ 12 (Y_lt (k := .i64) (a := (i : Int)) (b := (gates.length : Int)) rfl (hf.get 11 4 rfl) (hf.get 10 3 rfl)) (rw_nil (cw_seq ?_))
 refine cw_cond (b := (decide ((i : Int) < (gates.length : Int)))) rfl (fun hlt => ?_) (fun hlt => ?_)
 ·skip
  have hlt1 : i < gates.length := by have h := of_decide_eq_true hlt; omega
  obtain ⟨k_1, rfl⟩ : ∃ k2, k_ = k2 + 1 := ⟨k_ - 1, by omega⟩
  obtain ⟨y, hb, hL1⟩ := forN_go hL
  unfold F_impl_mapped_l1 at hb
  refine cw_skip (cw_seq (cw_block (cw_seq (cw_region ?_))))
  obtain ⟨x, hx, hb⟩ := bind_inv hb
  refine sQ 13 (Y_index (B := B) (m := gates.length) (c := c) (k := .i64) (i := (i : Int)) k_sl_24_67 k_sz_67_3 rfl (hf.get 9 2 rfl) (hf.get 11 4 rfl) (gi_isSome enc_Gate_len rfl (hS2.rf (i := 0) rfl) hx) (getI_nn hx) (getI_ltI hx rfl)) ?_
  refine sQ 14 (Y_loadA (B := B) (i := (i : Int).toNat * 3) (cs := (gates.flatMap enc_Gate)) (vs := [vi x.Kind, vi x.A, vi x.B]) k_ag_67 k_sz_67_3 rfl rfl (hS2.rf (i := 0) rfl) (enc_Gate_len x) (gi_seg enc_Gate_len hx)) ?_
  refine sS 7 (Ys_alloc (T := 67) (cs := [vi 0, vi 0, vi 0]) (m := 3) hS2 k_zero_67 rfl rfl rfl) ?_
  rintro _ w_1 ⟨b1, rfl, hS3⟩
  refine s0 (Ys_store (i := 1) (s := 3) (B := aD b1) (T' := 67) (v := .agg #[vi x.Kind, vi x.A, vi x.B]) (vs := [vi x.Kind, vi x.A, vi x.B]) (k := 0) (cs' := [vi x.Kind, vi x.A, vi x.B]) hS3 k_sz_67_3 rfl rfl rfl rfl rfl rfl rfl (lB rfl) rfl rfl) ?_
  rintro _ w_2 ⟨rfl, hS4⟩
  refine rw_nil (cw_seq ?_)
  obtain ⟨z1, hz1, hF2⟩ := bind_inv hb
  refine cw_mid (fun f w => ∃ (A : Int), A = z1 ∧ FF f [(1, .slice B1 to_.length c1), (5, .slice B3 out.length c3), (7, pt (aD b1) 0), (9, .slice B gates.length c), (10, vi (gates.length : Int)), (11, vi (i : Int))] ∧ ST w0 [] w [⟨B3, 67, (out.flatMap enc_Gate), c3 * 3⟩, ⟨aD b1, 67, [vi x.Kind, vi A, vi x.B], 3⟩] [⟨B, (gates.flatMap enc_Gate)⟩, ⟨B1, (to_.flatMap encI)⟩]) ?_ ?_
  ·skip
   refine cw_seq (cw_region ?_)
   refine sQ 15 (Y_fieldAddr (B := aD b1) (i := 0) (s := 0) k_fd_67_0_0_3 k_sz_3_1 rfl rfl) ?_
   refine sQ 16 (Y_load1 (B := aD b1) (i := 0) (cs := [vi x.Kind, vi x.A, vi x.B]) (v := vi x.Kind) k_sc_3 rfl rfl (hS4.cf (i := 1) rfl) rfl) ?_
   refine sQ 17 (Y_ne (k := .i64) (a := x.Kind) (b := 12) rfl rfl rfl) (rw_nil ?_)
   refine cw_cond (b := (x.Kind != 12)) rfl (fun hb1 => ?_) (fun hb1 => ?_)
   ·skip
    have hF3 := ct hz1 hb1
    refine cw_region ?_
    refine sQ 18 (Y_move (v := .slice B1 to_.length c1) rfl (hf.get 1 0 rfl)) ?_
    refine sQ 19 (Y_fieldAddr (B := aD b1) (i := 0) (s := 0) k_fd_67_1_1_3 k_sz_3_1 rfl rfl) ?_
    refine sQ 20 (Y_load1 (B := aD b1) (i := 1) (cs := [vi x.Kind, vi x.A, vi x.B]) (v := vi x.A) k_sc_3 rfl rfl (hS4.cf (i := 1) rfl) rfl) ?_
    obtain ⟨x1, hx1, hF3⟩ := bind_inv hF3
    refine sQ 21 (Y_index (B := B1) (m := to_.length) (c := c1) (k := .i64) (i := x.A) k_sl_43_3 k_sz_3_1 rfl rfl rfl (gi_isSome encI_len rfl (hS4.rf (i := 1) rfl) hx1) (getI_nn hx1) (getI_ltI hx1 rfl)) ?_
    refine sQ 22 (Y_load1 (B := B1) (i := x.A.toNat * 1) (cs := (to_.flatMap encI)) (v := vi x1) k_sc_3 rfl rfl (hS4.rf (i := 1) rfl) (gi_at0 encI_len hx1 rfl)) ?_
    refine sQ 23 (Y_fieldAddr (B := aD b1) (i := 0) (s := 0) k_fd_67_1_1_3 k_sz_3_1 rfl rfl) ?_
    refine s0 (Ys_store (i := 1) (s := 1) (B := aD b1) (T' := 67) (v := vi x1) (vs := [vi x1]) (k := 1) (cs' := [vi x.Kind, vi x1, vi x.B]) hS4 k_sz_3_1 rfl rfl rfl rfl rfl rfl rfl (lB rfl) rfl rfl) ?_
    rintro _ w_3 ⟨rfl, hS6⟩
    refine rw_nil ?_
    exact ⟨x1, (some_inj hF3), (FF.cons (hf.get 1 0 rfl) (FF.cons (hf.get 5 1 rfl) (FF.cons rfl (FF.cons (hf.get 9 2 rfl) (FF.cons (hf.get 10 3 rfl) (FF.cons (hf.get 11 4 rfl) FF.nil)))))), (hS6.sel [0, 1] rfl rfl)⟩
   ·skip
    have hF4 := cf' hz1 hb1
    refine cw_skip ?_
    exact ⟨x.A, (some_inj hF4), (FF.cons (hf.get 1 0 rfl) (FF.cons (hf.get 5 1 rfl) (FF.cons rfl (FF.cons (hf.get 9 2 rfl) (FF.cons (hf.get 10 3 rfl) (FF.cons (hf.get 11 4 rfl) FF.nil)))))), (hS4.sel [0, 1] rfl rfl)⟩
  rintro f w ⟨A, rfl, hf1, hS5⟩
  refine cw_seq ?_
  obtain ⟨z2, hz2, hF5⟩ := bind_inv hF2
  refine cw_mid (fun f w => ∃ (B4 : Int), B4 = z2 ∧ FF f [(1, .slice B1 to_.length c1), (5, .slice B3 out.length c3), (7, pt (aD b1) 0), (9, .slice B gates.length c), (10, vi (gates.length : Int)), (11, vi (i : Int))] ∧ ST w0 [] w [⟨B3, 67, (out.flatMap enc_Gate), c3 * 3⟩, ⟨aD b1, 67, [vi x.Kind, vi A, vi B4], 3⟩] [⟨B, (gates.flatMap enc_Gate)⟩, ⟨B1, (to_.flatMap encI)⟩]) ?_ ?_
  ·skip
   refine cw_seq (cw_region ?_)
   refine sQ 24 (Y_fieldAddr (B := aD b1) (i := 0) (s := 0) k_fd_67_0_0_3 k_sz_3_1 rfl (hf1.get 7 2 rfl)) ?_
   refine sQ 25 (Y_load1 (B := aD b1) (i := 0) (cs := [vi x.Kind, vi A, vi x.B]) (v := vi x.Kind) k_sc_3 rfl rfl (hS5.cf (i := 1) rfl) rfl) ?_
   obtain ⟨r_1, hc, hz2⟩ := bind_inv hz2
   refine sc 26 rfl rfl (Yc_func (g := 111) (vs := [vi x.Kind]) k_call_111 rfl (mc rfl mn) (c_impl_isTwo x.Kind _  (hS5.inn0 [] rfl) hc)) ?_
   rintro _ w_4 ⟨rfl, hd⟩
   have hS8 := hS5.out00 hd
   refine rw_nil ?_
   refine cw_cond (b := r_1) rfl (fun hb2 => ?_) (fun hb2 => ?_)
   ·skip
    have hF6 := ct hz2 hb2
    refine cw_region ?_
    refine sQ 27 (Y_move (v := .slice B1 to_.length c1) rfl (hf1.get 1 0 rfl)) ?_
    refine sQ 28 (Y_fieldAddr (B := aD b1) (i := 0) (s := 0) k_fd_67_2_2_3 k_sz_3_1 rfl (hf1.get 7 2 rfl)) ?_
    refine sQ 29 (Y_load1 (B := aD b1) (i := 2) (cs := [vi x.Kind, vi A, vi x.B]) (v := vi x.B) k_sc_3 rfl rfl (hS8.cf (i := 1) rfl) rfl) ?_
    obtain ⟨x2, hx2, hF6⟩ := bind_inv hF6
    refine sQ 30 (Y_index (B := B1) (m := to_.length) (c := c1) (k := .i64) (i := x.B) k_sl_43_3 k_sz_3_1 rfl rfl rfl (gi_isSome encI_len rfl (hS8.rf (i := 1) rfl) hx2) (getI_nn hx2) (getI_ltI hx2 rfl)) ?_
    refine sQ 31 (Y_load1 (B := B1) (i := x.B.toNat * 1) (cs := (to_.flatMap encI)) (v := vi x2) k_sc_3 rfl rfl (hS8.rf (i := 1) rfl) (gi_at0 encI_len hx2 rfl)) ?_
    refine sQ 32 (Y_fieldAddr (B := aD b1) (i := 0) (s := 0) k_fd_67_2_2_3 k_sz_3_1 rfl (hf1.get 7 2 rfl)) ?_
    refine s0 (Ys_store (i := 1) (s := 1) (B := aD b1) (T' := 67) (v := vi x2) (vs := [vi x2]) (k := 2) (cs' := [vi x.Kind, vi A, vi x2]) hS8 k_sz_3_1 rfl rfl rfl rfl rfl rfl rfl (lB rfl) rfl rfl) ?_
    rintro _ w_5 ⟨rfl, hS9⟩
    refine rw_nil ?_
    exact ⟨x2, (some_inj hF6), (FF.cons (hf1.get 1 0 rfl) (FF.cons (hf1.get 5 1 rfl) (FF.cons (hf1.get 7 2 rfl) (FF.cons (hf1.get 9 3 rfl) (FF.cons (hf1.get 10 4 rfl) (FF.cons (hf1.get 11 5 rfl) FF.nil)))))), (hS9.sel [0, 1] rfl rfl)⟩
   ·skip
    have hF7 := cf' hz2 hb2
    refine cw_skip ?_
    exact ⟨x.B, (some_inj hF7), (FF.cons (hf1.get 1 0 rfl) (FF.cons (hf1.get 5 1 rfl) (FF.cons (hf1.get 7 2 rfl) (FF.cons (hf1.get 9 3 rfl) (FF.cons (hf1.get 10 4 rfl) (FF.cons (hf1.get 11 5 rfl) FF.nil)))))), (hS8.sel [0, 1] rfl rfl)⟩
  rintro f w ⟨B4, rfl, hf2, hS7⟩
  refine cw_region ?_
  refine sQ 33 (Y_move (v := .slice B3 out.length c3) rfl (hf2.get 5 1 rfl)) ?_
  refine sQ 34 (Y_loadA (B := aD b1) (i := 0) (cs := [vi x.Kind, vi A, vi B4]) (vs := [vi x.Kind, vi A, vi B4]) k_ag_67 k_sz_67_3 rfl (hf2.get 7 2 rfl) (hS7.cf (i := 1) rfl) rfl rfl) ?_
  refine sS 35 (Ys_bslice (s := 3) (len := 1) (vs := [(0, .agg #[vi x.Kind, vi A, vi B4])]) (cs := [vi x.Kind, vi A, vi B4]) (zs := [vi 0, vi 0, vi 0]) (m := 3) hS7 k_sl_24_67 k_sz_67_3 k_zc_67 rfl (mpc rfl mpn) rfl rfl rfl (by kernel_rfl) (by kernel_rfl) rfl) ?_
  rintro _ w_6 ⟨b2, rfl, hS10⟩
  obtain ⟨hap, hF5⟩ := chk_inv hF5
  refine sS 36 (Ys_append (s := 3) (by' := 24) (i := 0) (nn := out.length) (c := c3) (k := 1) (len := (out ++ [(TGate.mk x.Kind A B4)]).length) (B := B3) (xs := ([(TGate.mk x.Kind A B4)].flatMap enc_Gate)) (cs' := ((out ++ [(TGate.mk x.Kind A B4)]).flatMap enc_Gate)) hS10 k_sl_24_67 k_sz_67_3 k_by_67_24 k_zero_67 rfl (by decide) rfl rfl rfl rfl (fm_lenn (l := out) enc_Gate_len rfl) rfl (hS10.cf (i := 2) rfl) (fm_lenn (l := [(TGate.mk x.Kind A B4)]) enc_Gate_len rfl) (fm_one' (enc := enc_Gate) enc_Gate_one [(TGate.mk x.Kind A B4)]) (by have := hap; omega) (by have := hap; simp only [maxLen]; omega) (fm_app _ _) (app_len (l := out) (l' := [(TGate.mk x.Kind A B4)]) rfl rfl)) ?_
  rintro _ w_7 ⟨B5, c4, rfl, hS11⟩
  refine sQ 5 (Y_assign (v := .slice B5 ((out ++ [(TGate.mk x.Kind A B4)]).length) c4) rfl rfl) (rw_nil (cw_region ?_))
  refine sQ 37 (Y_add (k := .i64) (a := (i : Int)) (b := 1) rfl (hf2.get 11 5 rfl) rfl) ?_
  refine sQ 11 (Y_move (v := vi (i64.wrap ((i : Int) + 1))) rfl rfl) (rw_nil ?_)
  obtain rfl := some_inj hF5
  exact ⟨k_1, Nat.lt_succ_self _, i + 1, (out ++ [(TGate.mk x.Kind A B4)]), B5, c4, (FF.cons (hf2.get 1 0 rfl) (FF.cons rfl (FF.cons (hf2.get 9 3 rfl) (FF.cons (hf2.get 10 4 rfl) (FF.cons (congrArg (Value.int .i64) (wr_succ hlt1 hN)) FF.nil))))), (hS11.sel [0] rfl rfl), (by omega), hL1⟩
 ·skip
  obtain rfl : k_ = 0 := by have h := of_decide_eq_false hlt; omega
  refine cw_exit rfl ?_
  obtain rfl := some_inj hL
  refine cw_seq (cw_region ?_)
  refine sQ 38 (Y_move (v := .slice B3 out.length c3) rfl (hf.get 5 1 rfl)) ?_
  refine sQ 4 (Y_assign (v := .slice B3 out.length c3) rfl rfl) (rw_nil (cw_ret ?_))
  obtain rfl := some_inj hF1
  exact ret1 Tryz.results115 (v1 := .slice B3 out.length c3) (resAt_tmp rfl) ⟨B3, c3, rfl, (hS2.sN [0])⟩

theorem c_impl_commutes (g : TGate) (h : TGate)  (w0 : World)  (hS : ST w0 [] w0 [] []) {r_ : Bool} (hF : F_impl_commutes g h = some r_) :
  CV Tryz.prog 73 #[.agg #[vi g.Kind, vi g.A, vi g.B], .agg #[vi h.Kind, vi h.A, vi h.B]] w0 (fun v w' => v = .bool r_ ∧ ST w0 [] w' [] []) := by
 unfold F_impl_commutes at hF
 refine cv_of_cw 64 Tryz.func73 rfl Tryz.ntmps73 rfl ?_
 refine cw_seq (cw_region ?_)
 refine sS 2 (Ys_box (T := 67) (v := .agg #[vi g.Kind, vi g.A, vi g.B]) (cs := [vi g.Kind, vi g.A, vi g.B]) (m := 3) hS rfl rfl rfl rfl) ?_
 rintro _ w_ ⟨b, rfl, hS1⟩
 refine sS 3 (Ys_box (T := 67) (v := .agg #[vi h.Kind, vi h.A, vi h.B]) (cs := [vi h.Kind, vi h.A, vi h.B]) (m := 3) hS1 rfl rfl rfl rfl) ?_
 rintro _ w_1 ⟨b1, rfl, hS2⟩
 refine sQ 4 (Y_assign (v := .bool false) rfl rfl) (rw_nil (cw_seq (cw_seq (cw_region ?_))))
 refine sQ 14 (Y_loadA (B := aD b) (i := 0) (cs := [vi g.Kind, vi g.A, vi g.B]) (vs := [vi g.Kind, vi g.A, vi g.B]) k_ag_67 k_sz_67_3 rfl rfl (hS2.cf (i := 0) rfl) rfl rfl) ?_
 refine sQ 15 (Y_loadA (B := aD b1) (i := 0) (cs := [vi h.Kind, vi h.A, vi h.B]) (vs := [vi h.Kind, vi h.A, vi h.B]) k_ag_67 k_sz_67_3 rfl rfl (hS2.cf (i := 1) rfl) rfl rfl) ?_
 obtain ⟨r_1, hc, hF⟩ := bind_inv hF
 refine sc 16 rfl rfl (Yc_func (g := 112) (vs := [.agg #[vi g.Kind, vi g.A, vi g.B], .agg #[vi h.Kind, vi h.A, vi h.B]]) k_call_112 rfl (mc rfl (mc rfl mn)) (c_impl_meet g h _  (hS2.inn0 [] rfl) hc)) ?_
 rintro _ w_2 ⟨rfl, hd⟩
 have hS3 := hS2.out00 hd
 refine sQ 17 (Y_not (p := r_1) rfl rfl) (rw_nil ?_)
 refine cw_cond (b := (!r_1)) rfl (fun hb => ?_) (fun hb => ?_)
 ·skip
  have hF1 := ct hF hb
  refine cw_seq (cw_region ?_)
  refine sQ 4 (Y_assign (v := .bool true) rfl rfl) (rw_nil (cw_ret ?_))
  obtain rfl := some_inj hF1
  exact ret1 Tryz.results73 (v1 := .bool true) (resAt_tmp rfl) ⟨rfl, (hS3.sN [])⟩
 ·skip
  have hF2 := cf' hF hb
  refine cw_skip (cw_seq (cw_region ?_))
  refine sS 18 (Ys_make (s := 1) (by' := 8) (nn := 5) (a := 5) (b := 5) (cs := ((List.replicate 5 0).flatMap encI)) hS3 k_sl_43_3 k_sz_3_1 k_by_3_8 k_zero_3 rfl rfl rfl rfl (show (0 : Int) ≤ 5 ∧ 5 ≤ 1099511627776 by decide).1 rfl (by have := (show (0 : Int) ≤ 5 ∧ 5 ≤ 1099511627776 by decide); omega) (by have := (show (0 : Int) ≤ 5 ∧ 5 ≤ 1099511627776 by decide); omega) (by omega) (fm_rep (enc := encI) (d := 0) rfl _)) ?_
  rintro _ w_3 ⟨b2, rfl, hS4⟩
  refine sQ 5 (Y_assign (v := .slice (aD b2) 5 5) rfl rfl) ?_
  refine sQ 6 (Y_assign (v := vi 0) rfl rfl) (rw_nil (cw_seq (cw_seq ?_)))
  obtain ⟨r_2, hc1, hF2⟩ := bind_inv hF2
  obtain ⟨r_3, hc2, hF2⟩ := bind_inv hF2
  obtain ⟨r_4, hc3, hF2⟩ := bind_inv hF2
  refine ra_start (hS4.se [0, 1, 2]).fn (by kernel_rfl) ?_
  have hS8 := hS4.drew
  refine rq 0 19 (v := .agg #[vi g.Kind, vi g.A, vi g.B]) rfl (hS8.se [0, 1, 2]) (fun w' hw' => (Y_loadA (B := aD b) (i := 0) (cs := [vi g.Kind, vi g.A, vi g.B]) (vs := [vi g.Kind, vi g.A, vi g.B]) k_ag_67 k_sz_67_3 rfl rfl (ST.cf hw' (i := 0) rfl) rfl rfl)) ?_
  refine rq 2 21 (v := .agg #[vi h.Kind, vi h.A, vi h.B]) rfl (hS8.se [0, 1, 2]) (fun w' hw' => (Y_loadA (B := aD b1) (i := 0) (cs := [vi h.Kind, vi h.A, vi h.B]) (vs := [vi h.Kind, vi h.A, vi h.B]) k_ag_67 k_sz_67_3 rfl rfl (ST.cf hw' (i := 1) rfl) rfl rfl)) ?_
  refine rq 6 25 (v := vi 0) rfl (hS8.se [0, 1, 2]) (fun w' hw' => (Y_move (v := vi 0) rfl rfl)) ?_
  refine rA [1] ?_
  refine ra_c 20 (i := 1) rfl rfl rfl (Yc_func (g := 114) (vs := [.agg #[vi g.Kind, vi g.A, vi g.B]]) k_call_114 rfl (mc rfl mn) (c_impl_qubitsOf g _  (hS8.inn0 [] rfl) hc1)) ?_ ?_
  ·rintro _ w_4 ⟨B, c, rfl, hd1⟩
   have hS9 := hS8.out0 hd1
   refine ⟨(hS9.se [0, 1, 2]), ?_⟩
   refine rA [3] ?_
   refine ra_c 22 (i := 3) rfl rfl rfl (Yc_func (g := 114) (vs := [.agg #[vi h.Kind, vi h.A, vi h.B]]) k_call_114 rfl (mc rfl mn) (c_impl_qubitsOf h _  (hS9.inn0 [] rfl) hc2)) ?_ ?_
   ·rintro _ w_5 ⟨B1, c1, rfl, hd2⟩
    have hS10 := hS9.out0 hd2
    refine ⟨(hS10.se [0, 1, 2]), ?_⟩
    refine rA [4] ?_
    refine ra_c 23 (i := 4) rfl rfl rfl (Yc_func (g := 113) (vs := [.slice B r_2.length c, .slice B1 r_3.length c1]) k_call_113 rfl (mc rfl (mc rfl mn)) (c_impl_union r_2 r_3 B c r_2.length B1 c1 r_3.length _ rfl rfl (hS10.inn0 [(false, 3), (false, 4)] rfl) hc3)) ?_ ?_
    ·rintro _ w_6 ⟨B2, c2, rfl, hd3⟩
     have hS11 := hS10.out0 hd3
     refine ⟨(hS11.se [0, 1, 2]), ?_⟩
     refine rq 5 24 (v := vi (r_4.length : Int)) rfl (hS11.se [0, 1, 2]) (fun w' hw' => (Y_len (B := B2) (m := r_4.length) (c := c2) k_sl_43_3 rfl rfl)) ?_
     refine ra_done (by kernel_rfl) ?_
     obtain ⟨hN, hF2⟩ := chk_inv hF2
     obtain ⟨z, hz, hF3⟩ := bind_inv hF2
     refine cw_block ?_
     refine cw_loop (fun k f w => ∃ (i : Nat) (to_ : List Int) (n : Int), FF f [(2, pt (aD b) 0), (3, pt (aD b1) 0), (5, .slice (aD b2) 5 5), (6, vi n), (23, .slice B2 r_4.length c2), (24, vi (r_4.length : Int)), (25, vi (i : Int))] ∧ to_.length = 5 ∧ ST w0 [] w [⟨aD b, 67, [vi g.Kind, vi g.A, vi g.B], 3⟩, ⟨aD b1, 67, [vi h.Kind, vi h.A, vi h.B], 3⟩, ⟨aD b2, 3, (to_.flatMap encI), 5 * 1⟩, ⟨B2, 3, (r_4.flatMap encI), c2 * 1⟩] [] ∧ i + k = r_4.length ∧ forN (F_impl_commutes_l1 r_4) k i (to_, n) = some z) r_4.length ⟨0, (List.replicate 5 0), 0, (FF.cons rfl (FF.cons rfl (FF.cons rfl (FF.cons rfl (FF.cons rfl (FF.cons rfl (FF.cons rfl FF.nil))))))), List.length_replicate, (hS11.sel [0, 1, 2, 5] rfl rfl), Nat.zero_add _, hz⟩ ?_
     rintro k_ f w ⟨i, to_, n, hf, hl, hS12, hik, hL⟩
     refine cw_seq (cw_region ?_)
     refine sQ 26 (Y_lt (k := .i64) (a := (i : Int)) (b := (r_4.length : Int)) rfl (hf.get 25 6 rfl) (hf.get 24 5 rfl)) (rw_nil (cw_seq ?_))
     refine cw_cond (b := (decide ((i : Int) < (r_4.length : Int)))) rfl (fun hlt => ?_) (fun hlt => ?_)
     ·skip
      have hlt1 : i < r_4.length := by have h := of_decide_eq_true hlt; omega
      obtain ⟨k_1, rfl⟩ : ∃ k2, k_ = k2 + 1 := ⟨k_ - 1, by omega⟩
      obtain ⟨y, hb1, hL1⟩ := forN_go hL
      unfold F_impl_commutes_l1 at hb1
      refine cw_skip (cw_seq (cw_block (cw_seq (cw_region ?_))))
      obtain ⟨x, hx, hb1⟩ := bind_inv hb1
      refine sQ 27 (Y_index (B := B2) (m := r_4.length) (c := c2) (k := .i64) (i := (i : Int)) k_sl_43_3 k_sz_3_1 rfl (hf.get 23 4 rfl) (hf.get 25 6 rfl) (gi_isSome encI_len rfl (hS12.cf (i := 3) rfl) hx) (getI_nn hx) (getI_ltI hx rfl)) ?_
      refine sQ 28 (Y_load1 (B := B2) (i := (i : Int).toNat * 1) (cs := (r_4.flatMap encI)) (v := vi x) k_sc_3 rfl rfl (hS12.cf (i := 3) rfl) (gi_at0 encI_len hx rfl)) ?_
      refine sQ 8 (Y_assign (v := vi x) rfl rfl) (rw_nil (cw_seq (cw_region ?_)))
      refine sQ 29 (Y_move (v := .slice (aD b2) 5 5) rfl (hf.get 5 2 rfl)) ?_
      refine sQ 30 (Y_move (v := vi x) rfl rfl) ?_
      refine sQ 31 (Y_move (v := vi n) rfl (hf.get 6 3 rfl)) ?_
      obtain ⟨x1, hx1, hb1⟩ := bind_inv hb1
      refine sQ 32 (Y_index (B := aD b2) (m := 5) (c := 5) (k := .i64) (i := x) k_sl_43_3 k_sz_3_1 rfl rfl rfl (gi_isSome encI_len rfl (hS12.cf (i := 2) rfl) hx1) (getI_nn hx1) (getI_ltI hx1 hl)) ?_
      refine s0 (Ys_store (i := 2) (s := 1) (B := aD b2) (T' := 3) (v := vi n) (vs := [vi n]) (k := x.toNat * 1) (cs' := ((to_.set x.toNat n).flatMap encI)) hS12 k_sz_3_1 rfl rfl rfl rfl rfl rfl rfl (gi_fit0 encI_len hx1) (gi_set encI_len hx1 n rfl) rfl) ?_
      rintro _ w_7 ⟨rfl, hS13⟩
      refine rw_nil (cw_region ?_)
      refine sQ 33 (Y_move (v := vi n) rfl (hf.get 6 3 rfl)) ?_
      refine sQ 34 (Y_add (k := .i64) (a := n) (b := 1) rfl rfl rfl) ?_
      refine sQ 6 (Y_assign (v := vi (i64.wrap (n + 1))) rfl rfl) (rw_nil (cw_region ?_))
      refine sQ 35 (Y_add (k := .i64) (a := (i : Int)) (b := 1) rfl (hf.get 25 6 rfl) rfl) ?_
      refine sQ 25 (Y_move (v := vi (i64.wrap ((i : Int) + 1))) rfl rfl) (rw_nil ?_)
      obtain rfl := some_inj hb1
      exact ⟨k_1, Nat.lt_succ_self _, i + 1, (to_.set x.toNat n), (i64.wrap (n + 1)), (FF.cons (hf.get 2 0 rfl) (FF.cons (hf.get 3 1 rfl) (FF.cons (hf.get 5 2 rfl) (FF.cons rfl (FF.cons (hf.get 23 4 rfl) (FF.cons (hf.get 24 5 rfl) (FF.cons (congrArg (Value.int .i64) (wr_succ hlt1 hN)) FF.nil))))))), (set_len _ _ _ hl), (hS13.sel [0, 1, 2, 3] rfl rfl), (by omega), hL1⟩
     ·skip
      obtain rfl : k_ = 0 := by have h := of_decide_eq_false hlt; omega
      refine cw_exit rfl ?_
      obtain rfl := some_inj hL
      refine cw_seq (cw_region ?_)
      refine sQ 36 (Y_loadA (B := aD b) (i := 0) (cs := [vi g.Kind, vi g.A, vi g.B]) (vs := [vi g.Kind, vi g.A, vi g.B]) k_ag_67 k_sz_67_3 rfl (hf.get 2 0 rfl) (hS12.cf (i := 0) rfl) rfl rfl) ?_
      refine sQ 37 (Y_loadA (B := aD b1) (i := 0) (cs := [vi h.Kind, vi h.A, vi h.B]) (vs := [vi h.Kind, vi h.A, vi h.B]) k_ag_67 k_sz_67_3 rfl (hf.get 3 1 rfl) (hS12.cf (i := 1) rfl) rfl rfl) ?_
      refine sS 38 (Ys_bslice (s := 3) (len := 2) (vs := [(0, .agg #[vi g.Kind, vi g.A, vi g.B]), (1, .agg #[vi h.Kind, vi h.A, vi h.B])]) (cs := [vi g.Kind, vi g.A, vi g.B, vi h.Kind, vi h.A, vi h.B]) (zs := [vi 0, vi 0, vi 0, vi 0, vi 0, vi 0]) (m := 6) hS12 k_sl_24_67 k_sz_67_3 k_zc_67 rfl (mpc rfl (mpc rfl mpn)) rfl rfl rfl (by kernel_rfl) (by kernel_rfl) rfl) ?_
      rintro _ w_8 ⟨b3, rfl, hS14⟩
      refine sQ 39 (Y_move (v := .slice (aD b2) 5 5) rfl (hf.get 5 2 rfl)) ?_
      obtain ⟨r_5, hc4, hF3⟩ := bind_inv hF3
      refine sc 40 rfl rfl (Yc_func (g := 115) (vs := [.slice (aD b3) 2 2, .slice (aD b2) 5 5]) k_call_115 rfl (mc rfl (mc rfl mn)) (c_impl_mapped [g, h] to_ (aD b3) 2 2 (aD b2) 5 5 _ rfl hl (hS14.inn0 [(false, 4), (false, 2)] rfl) hc4)) ?_
      rintro _ w_9 ⟨B3, c3, rfl, hd4⟩
      have hS15 := hS14.out0 hd4
      refine sQ 9 (Y_assign (v := .slice B3 r_5.length c3) rfl rfl) (rw_nil (cw_seq (cw_region ?_)))
      refine sQ 42 (Y_move (v := vi n) rfl (hf.get 6 3 rfl)) ?_
      refine sQ 43 (Y_move (v := .slice B3 r_5.length c3) rfl rfl) ?_
      refine sQ 44 (Y_buildS (zs := [vi 0, .slice none 0 0]) (vs := [(0, vi n), (1, .slice B3 r_5.length c3)]) (cs := [vi n, .slice B3 r_5.length c3]) k_pl_26 k_zero_26 rfl (mpc rfl (mpc rfl mpn)) rfl) ?_
      obtain ⟨⟨r_6, r_7⟩, hc5, hF3⟩ := bind_inv hF3
      refine sc 45 rfl rfl (Yc_func (g := 8) (vs := [.agg #[vi n, .slice B3 r_5.length c3]]) k_call_8 rfl (mc rfl mn) (c_impl_OperatorOf (TCircuit.mk n r_5) B3 c3 r_5.length _ rfl (hS15.inn0 [(false, 5)] rfl) hc5)) ?_
      rintro _ w_10 ⟨B4, c4, rfl, hd5⟩
      have hS16 := hS15.out0 hd5
      refine sQ 41 (Y_move (v := .tuple #[gM_ r_6 B4 c4, .bool r_7]) rfl rfl) ?_
      refine sQ 46 (Y_extract (v := gM_ r_6 B4 c4) rfl rfl rfl) ?_
      refine sQ 47 (Y_extract (v := .bool r_7) rfl rfl rfl) ?_
      refine sS 10 (Ys_alloc (T := 30) (cs := kN_) (m := 3) hS16 k_zero_30 rfl rfl rfl) ?_
      rintro _ w_11 ⟨b4, rfl, hS17⟩
      refine s0 (Ys_store (i := 7) (s := 3) (B := aD b4) (T' := 30) (v := gM_ r_6 B4 c4) (vs := kM_ r_6 B4 c4) (k := 0) (cs' := kM_ r_6 B4 c4) hS17 k_sz_30_3 rfl rfl rfl rfl rfl rfl rfl (lB rfl) rfl rfl) ?_
      rintro _ w_12 ⟨rfl, hS18⟩
      refine sQ 11 (Y_assign (v := .bool r_7) rfl rfl) (rw_nil (cw_seq ?_))
      obtain ⟨x2, hx2, hF3⟩ := bind_inv hF3
      obtain ⟨x3, hx3, hF3⟩ := bind_inv hF3
      obtain ⟨⟨r_8, r_9⟩, hc6, hF3⟩ := bind_inv hF3
      refine cw_mid (fun f w => ∃ (B6 : Option Addr) (B7 : Option Addr) (c6 : Nat), FF f [(10, pt (aD b4) 0), (12, pt B6 0)] ∧ ST w0 [] w [⟨aD b4, 30, kM_ r_6 B4 c4, 3⟩, ⟨B4, 63, (r_6.Cells.flatMap eN0), c4 * 5⟩, ⟨B6, 30, kM_ r_8 B7 c6, 3⟩, ⟨B7, 63, (r_8.Cells.flatMap eN0), c6 * 5⟩] []) ?_ ?_
      ·skip
       refine ra_start (hS18.se [0, 1, 2, 3, 4, 5, 6, 7]).fn (by kernel_rfl) ?_
       have hS21 := hS18.drew
       refine rq 0 49 (v := vi n) rfl (hS21.se [0, 1, 2, 3, 4, 5, 6, 7]) (fun w' hw' => (Y_move (v := vi n) rfl (hf.get 6 3 rfl))) ?_
       refine rq 1 50 (v := .slice B3 r_5.length c3) rfl (hS21.se [0, 1, 2, 3, 4, 5, 6, 7]) (fun w' hw' => (Y_move (v := .slice B3 r_5.length c3) rfl rfl)) ?_
       refine rq 2 51 (v := pt B3 ((1 : Int).toNat * 3)) rfl (hS21.se [0, 1, 2, 3, 4, 5, 6, 7]) (fun w' hw' => (Y_index (B := B3) (m := r_5.length) (c := c3) (k := .i64) (i := 1) k_sl_24_67 k_sz_67_3 rfl rfl rfl (gi_isSome enc_Gate_len rfl (ST.cf hw' (i := 5) rfl) hx2) (getI_nn hx2) (getI_ltI hx2 rfl))) ?_
       refine rq 3 52 (v := .agg #[vi x2.Kind, vi x2.A, vi x2.B]) rfl (hS21.se [0, 1, 2, 3, 4, 5, 6, 7]) (fun w' hw' => (Y_loadA (B := B3) (i := (1 : Int).toNat * 3) (cs := (r_5.flatMap enc_Gate)) (vs := [vi x2.Kind, vi x2.A, vi x2.B]) k_ag_67 k_sz_67_3 rfl rfl (ST.cf hw' (i := 5) rfl) (enc_Gate_len x2) (gi_seg enc_Gate_len hx2))) ?_
       refine rq 4 53 (v := .slice B3 r_5.length c3) rfl (hS21.se [0, 1, 2, 3, 4, 5, 6, 7]) (fun w' hw' => (Y_move (v := .slice B3 r_5.length c3) rfl rfl)) ?_
       refine rq 5 54 (v := pt B3 ((0 : Int).toNat * 3)) rfl (hS21.se [0, 1, 2, 3, 4, 5, 6, 7]) (fun w' hw' => (Y_index (B := B3) (m := r_5.length) (c := c3) (k := .i64) (i := 0) k_sl_24_67 k_sz_67_3 rfl rfl rfl (gi_isSome enc_Gate_len rfl (ST.cf hw' (i := 5) rfl) hx3) (getI_nn hx3) (getI_ltI hx3 rfl))) ?_
       refine rq 6 55 (v := .agg #[vi x3.Kind, vi x3.A, vi x3.B]) rfl (hS21.se [0, 1, 2, 3, 4, 5, 6, 7]) (fun w' hw' => (Y_loadA (B := B3) (i := (0 : Int).toNat * 3) (cs := (r_5.flatMap enc_Gate)) (vs := [vi x3.Kind, vi x3.A, vi x3.B]) k_ag_67 k_sz_67_3 rfl rfl (ST.cf hw' (i := 5) rfl) (enc_Gate_len x3) (gi_seg enc_Gate_len hx3))) ?_
       refine rA [7, 13] ?_
       refine ra_s 56 (i := 7) rfl rfl rfl (Ys_bslice (s := 3) (len := 2) (vs := [(0, .agg #[vi x2.Kind, vi x2.A, vi x2.B]), (1, .agg #[vi x3.Kind, vi x3.A, vi x3.B])]) (cs := [vi x2.Kind, vi x2.A, vi x2.B, vi x3.Kind, vi x3.A, vi x3.B]) (zs := [vi 0, vi 0, vi 0, vi 0, vi 0, vi 0]) (m := 6) hS21 k_sl_24_67 k_sz_67_3 k_zc_67 rfl (mpc rfl (mpc rfl mpn)) rfl rfl rfl (by kernel_rfl) (by kernel_rfl) rfl) ?_ ?_
       ·rintro _ w_13 ⟨b5, rfl, hS22⟩
        refine ⟨(hS22.se [0, 1, 2, 3, 4, 5, 6, 7]), ?_⟩
        refine rq 8 57 (v := .agg #[vi n, .slice (aD b5) 2 2]) rfl (hS22.se [0, 1, 2, 3, 4, 5, 6, 7]) (fun w' hw' => (Y_buildS (zs := [vi 0, .slice none 0 0]) (vs := [(0, vi n), (1, .slice (aD b5) 2 2)]) (cs := [vi n, .slice (aD b5) 2 2]) k_pl_26 k_zero_26 rfl (mpc rfl (mpc rfl mpn)) rfl)) ?_
        refine rA [9, 13] ?_
        refine ra_c 58 (i := 9) rfl rfl rfl (Yc_func (g := 8) (vs := [.agg #[vi n, .slice (aD b5) 2 2]]) k_call_8 rfl (mc rfl mn) (c_impl_OperatorOf (TCircuit.mk n [x2, x3]) (aD b5) 2 2 _ rfl (hS22.inn0 [(false, 8)] rfl) hc6)) ?_ ?_
        ·rintro _ w_14 ⟨B5, c5, rfl, hd6⟩
         have hS23 := hS22.out0 hd6
         refine ⟨(hS23.se [0, 1, 2, 3, 4, 5, 6, 7]), ?_⟩
         refine rq 10 48 (v := .tuple #[gM_ r_8 B5 c5, .bool r_9]) rfl (hS23.se [0, 1, 2, 3, 4, 5, 6, 7]) (fun w' hw' => (Y_move (v := .tuple #[gM_ r_8 B5 c5, .bool r_9]) rfl rfl)) ?_
         refine rq 11 59 (v := gM_ r_8 B5 c5) rfl (hS23.se [0, 1, 2, 3, 4, 5, 6, 7]) (fun w' hw' => (Y_extract (v := gM_ r_8 B5 c5) rfl rfl rfl)) ?_
         refine rq 12 60 (v := .bool r_9) rfl (hS23.se [0, 1, 2, 3, 4, 5, 6, 7]) (fun w' hw' => (Y_extract (v := .bool r_9) rfl rfl rfl)) ?_
         refine rA [13] ?_
         refine ra_s 12 (i := 13) rfl rfl rfl (Ys_alloc (T := 30) (cs := kN_) (m := 3) hS23 k_zero_30 rfl rfl rfl) ?_ ?_
         ·rintro _ w_15 ⟨b6, rfl, hS24⟩
          refine ⟨(hS24.se [0, 1, 2, 3, 4, 5, 6, 7]), ?_⟩
          refine rA [14] ?_
          refine ra_s0 (i := 14) rfl rfl rfl (Ys_store (i := 10) (s := 3) (B := aD b6) (T' := 30) (v := gM_ r_8 B5 c5) (vs := kM_ r_8 B5 c5) (k := 0) (cs' := kM_ r_8 B5 c5) hS24 k_sz_30_3 rfl rfl rfl rfl rfl rfl rfl (lB rfl) rfl rfl) ?_ ?_
          ·rintro _ w_16 ⟨rfl, hS25⟩
           refine ⟨(hS25.se [0, 1, 2, 3, 4, 5, 6, 7]), ?_⟩
           refine rq 15 13 (v := .bool r_9) rfl (hS25.se [0, 1, 2, 3, 4, 5, 6, 7]) (fun w' hw' => (Y_assign (v := .bool r_9) rfl rfl)) ?_
           refine ra_done (by kernel_rfl) ?_
           exact ⟨aD b6, B5, c5, (FF.cons rfl (FF.cons rfl FF.nil)), (hS25.sel [7, 6, 10, 9] rfl rfl)⟩
          exact allR_nil
         exact allR_nil
        refine ra_s 12 (i := 13) rfl rfl rfl (Ys_alloc (T := 30) (cs := kN_) (m := 3) hS22 k_zero_30 rfl rfl rfl) ?_ ?_
        ·rintro _ w_17 ⟨b6, rfl, hS26⟩
         refine ⟨(hS26.se [0, 1, 2, 3, 4, 5, 6, 7]), ?_⟩
         refine rA [9] ?_
         refine ra_c 58 (i := 9) rfl rfl rfl (Yc_func (g := 8) (vs := [.agg #[vi n, .slice (aD b5) 2 2]]) k_call_8 rfl (mc rfl mn) (c_impl_OperatorOf (TCircuit.mk n [x2, x3]) (aD b5) 2 2 _ rfl (hS26.inn0 [(false, 8)] rfl) hc6)) ?_ ?_
         ·rintro _ w_18 ⟨B5, c5, rfl, hd7⟩
          have hS27 := hS26.out0 hd7
          refine ⟨(hS27.se [0, 1, 2, 3, 4, 5, 6, 7]), ?_⟩
          refine rq 10 48 (v := .tuple #[gM_ r_8 B5 c5, .bool r_9]) rfl (hS27.se [0, 1, 2, 3, 4, 5, 6, 7]) (fun w' hw' => (Y_move (v := .tuple #[gM_ r_8 B5 c5, .bool r_9]) rfl rfl)) ?_
          refine rq 11 59 (v := gM_ r_8 B5 c5) rfl (hS27.se [0, 1, 2, 3, 4, 5, 6, 7]) (fun w' hw' => (Y_extract (v := gM_ r_8 B5 c5) rfl rfl rfl)) ?_
          refine rq 12 60 (v := .bool r_9) rfl (hS27.se [0, 1, 2, 3, 4, 5, 6, 7]) (fun w' hw' => (Y_extract (v := .bool r_9) rfl rfl rfl)) ?_
          refine rA [14] ?_
          refine ra_s0 (i := 14) rfl rfl rfl (Ys_store (i := 9) (s := 3) (B := aD b6) (T' := 30) (v := gM_ r_8 B5 c5) (vs := kM_ r_8 B5 c5) (k := 0) (cs' := kM_ r_8 B5 c5) hS27 k_sz_30_3 rfl rfl rfl rfl rfl rfl rfl (lB rfl) rfl rfl) ?_ ?_
          ·rintro _ w_19 ⟨rfl, hS28⟩
           refine ⟨(hS28.se [0, 1, 2, 3, 4, 5, 6, 7]), ?_⟩
           refine rq 15 13 (v := .bool r_9) rfl (hS28.se [0, 1, 2, 3, 4, 5, 6, 7]) (fun w' hw' => (Y_assign (v := .bool r_9) rfl rfl)) ?_
           refine ra_done (by kernel_rfl) ?_
           exact ⟨aD b6, B5, c5, (FF.cons rfl (FF.cons rfl FF.nil)), (hS28.sel [7, 6, 9, 10] rfl rfl)⟩
          exact allR_nil
         exact allR_nil
        exact allR_nil
       refine ra_s 12 (i := 13) rfl rfl rfl (Ys_alloc (T := 30) (cs := kN_) (m := 3) hS21 k_zero_30 rfl rfl rfl) ?_ ?_
       ·rintro _ w_20 ⟨b6, rfl, hS29⟩
        refine ⟨(hS29.se [0, 1, 2, 3, 4, 5, 6, 7]), ?_⟩
        refine rA [7] ?_
        refine ra_s 56 (i := 7) rfl rfl rfl (Ys_bslice (s := 3) (len := 2) (vs := [(0, .agg #[vi x2.Kind, vi x2.A, vi x2.B]), (1, .agg #[vi x3.Kind, vi x3.A, vi x3.B])]) (cs := [vi x2.Kind, vi x2.A, vi x2.B, vi x3.Kind, vi x3.A, vi x3.B]) (zs := [vi 0, vi 0, vi 0, vi 0, vi 0, vi 0]) (m := 6) hS29 k_sl_24_67 k_sz_67_3 k_zc_67 rfl (mpc rfl (mpc rfl mpn)) rfl rfl rfl (by kernel_rfl) (by kernel_rfl) rfl) ?_ ?_
        ·rintro _ w_21 ⟨b5, rfl, hS30⟩
         refine ⟨(hS30.se [0, 1, 2, 3, 4, 5, 6, 7]), ?_⟩
         refine rq 8 57 (v := .agg #[vi n, .slice (aD b5) 2 2]) rfl (hS30.se [0, 1, 2, 3, 4, 5, 6, 7]) (fun w' hw' => (Y_buildS (zs := [vi 0, .slice none 0 0]) (vs := [(0, vi n), (1, .slice (aD b5) 2 2)]) (cs := [vi n, .slice (aD b5) 2 2]) k_pl_26 k_zero_26 rfl (mpc rfl (mpc rfl mpn)) rfl)) ?_
         refine rA [9] ?_
         refine ra_c 58 (i := 9) rfl rfl rfl (Yc_func (g := 8) (vs := [.agg #[vi n, .slice (aD b5) 2 2]]) k_call_8 rfl (mc rfl mn) (c_impl_OperatorOf (TCircuit.mk n [x2, x3]) (aD b5) 2 2 _ rfl (hS30.inn0 [(false, 9)] rfl) hc6)) ?_ ?_
         ·rintro _ w_22 ⟨B5, c5, rfl, hd8⟩
          have hS31 := hS30.out0 hd8
          refine ⟨(hS31.se [0, 1, 2, 3, 4, 5, 6, 7]), ?_⟩
          refine rq 10 48 (v := .tuple #[gM_ r_8 B5 c5, .bool r_9]) rfl (hS31.se [0, 1, 2, 3, 4, 5, 6, 7]) (fun w' hw' => (Y_move (v := .tuple #[gM_ r_8 B5 c5, .bool r_9]) rfl rfl)) ?_
          refine rq 11 59 (v := gM_ r_8 B5 c5) rfl (hS31.se [0, 1, 2, 3, 4, 5, 6, 7]) (fun w' hw' => (Y_extract (v := gM_ r_8 B5 c5) rfl rfl rfl)) ?_
          refine rq 12 60 (v := .bool r_9) rfl (hS31.se [0, 1, 2, 3, 4, 5, 6, 7]) (fun w' hw' => (Y_extract (v := .bool r_9) rfl rfl rfl)) ?_
          refine rA [14] ?_
          refine ra_s0 (i := 14) rfl rfl rfl (Ys_store (i := 8) (s := 3) (B := aD b6) (T' := 30) (v := gM_ r_8 B5 c5) (vs := kM_ r_8 B5 c5) (k := 0) (cs' := kM_ r_8 B5 c5) hS31 k_sz_30_3 rfl rfl rfl rfl rfl rfl rfl (lB rfl) rfl rfl) ?_ ?_
          ·rintro _ w_23 ⟨rfl, hS32⟩
           refine ⟨(hS32.se [0, 1, 2, 3, 4, 5, 6, 7]), ?_⟩
           refine rq 15 13 (v := .bool r_9) rfl (hS32.se [0, 1, 2, 3, 4, 5, 6, 7]) (fun w' hw' => (Y_assign (v := .bool r_9) rfl rfl)) ?_
           refine ra_done (by kernel_rfl) ?_
           exact ⟨aD b6, B5, c5, (FF.cons rfl (FF.cons rfl FF.nil)), (hS32.sel [7, 6, 8, 10] rfl rfl)⟩
          exact allR_nil
         exact allR_nil
        exact allR_nil
       exact allR_nil
      rintro f w ⟨B6, B7, c6, hf1, hS20⟩
      refine cw_seq (cw_region ?_)
      refine sQ 61 (Y_loadA (B := aD b4) (i := 0) (cs := kM_ r_6 B4 c4) (vs := kM_ r_6 B4 c4) k_ag_30 k_sz_30_3 rfl (hf1.get 10 0 rfl) (hS20.cf (i := 0) rfl) rfl rfl) ?_
      refine sQ 62 (Y_loadA (B := B6) (i := 0) (cs := kM_ r_8 B7 c6) (vs := kM_ r_8 B7 c6) k_ag_30 k_sz_30_3 rfl (hf1.get 12 1 rfl) (hS20.cf (i := 2) rfl) rfl rfl) ?_
      obtain ⟨r_10, hc7, hF3⟩ := bind_inv hF3
      refine sc 63 rfl rfl (Yc_func (g := 91) (vs := [gM_ r_6 B4 c4, gM_ r_8 B7 c6]) k_call_91 rfl (mc rfl (mc rfl mn)) (c_impl_EqualMatrices r_6 r_8 B4 c4 r_6.Cells.length B7 c6 r_8.Cells.length _ rfl rfl (hS20.inn0 [(false, 1), (false, 3)] rfl) hc7)) ?_
      rintro _ w_24 ⟨rfl, hd9⟩
      have hS33 := hS20.out00 hd9
      refine sQ 4 (Y_assign (v := .bool r_10) rfl rfl) (rw_nil (cw_ret ?_))
      obtain rfl := some_inj hF3
      exact ret1 Tryz.results73 (v1 := .bool r_10) (resAt_tmp rfl) ⟨rfl, (hS33.sN [])⟩
    exact allR_nil
   exact allR_nil
  exact allR_nil

theorem c_impl_GatesCommute (n : Int) (g : TGate) (h : TGate)  (w0 : World)  (hS : ST w0 [] w0 [] []) {r_ : Bool} {r_1 : Bool} (hF : F_impl_GatesCommute n g h = some (r_, r_1)) :
  CV Tryz.prog 29 #[vi n, .agg #[vi g.Kind, vi g.A, vi g.B], .agg #[vi h.Kind, vi h.A, vi h.B]] w0 (fun v w' => v = .tuple #[.bool r_, .bool r_1] ∧ ST w0 [] w' [] []) := by
 unfold F_impl_GatesCommute at hF
 refine cv_of_cw 21 Tryz.func29 rfl Tryz.ntmps29 rfl ?_
 refine cw_seq (cw_region ?_)
 refine sS 4 (Ys_box (T := 67) (v := .agg #[vi g.Kind, vi g.A, vi g.B]) (cs := [vi g.Kind, vi g.A, vi g.B]) (m := 3) hS rfl rfl rfl rfl) ?_
 rintro _ w_ ⟨b, rfl, hS1⟩
 refine sS 5 (Ys_box (T := 67) (v := .agg #[vi h.Kind, vi h.A, vi h.B]) (cs := [vi h.Kind, vi h.A, vi h.B]) (m := 3) hS1 rfl rfl rfl rfl) ?_
 rintro _ w_1 ⟨b1, rfl, hS2⟩
 refine sQ 6 (Y_assign (v := .bool false) rfl rfl) ?_
 refine sQ 7 (Y_assign (v := .bool false) rfl rfl) (rw_nil (cw_seq (cw_seq (cw_region ?_))))
 refine sQ 8 (Y_move (v := vi n) rfl rfl) ?_
 refine sQ 9 (Y_loadA (B := aD b) (i := 0) (cs := [vi g.Kind, vi g.A, vi g.B]) (vs := [vi g.Kind, vi g.A, vi g.B]) k_ag_67 k_sz_67_3 rfl rfl (hS2.cf (i := 0) rfl) rfl rfl) ?_
 obtain ⟨r_2, hc, hF⟩ := bind_inv hF
 refine sc 10 rfl rfl (Yc_func (g := 72) (vs := [vi n, .agg #[vi g.Kind, vi g.A, vi g.B]]) k_call_72 rfl (mc rfl (mc rfl mn)) (c_impl_IsValidGate n g _  (hS2.inn0 [] rfl) hc)) ?_
 rintro _ w_2 ⟨rfl, hd⟩
 have hS3 := hS2.out00 hd
 refine sQ 11 (Y_not (p := r_2) rfl rfl) ?_
 refine sQ 12 (Y_move (v := .bool (!r_2)) rfl rfl) ?_
 refine sgq 13 (B := (!(!r_2))) (v := vi n) rfl rfl (uF_ 12) (fun hg => (Y_move (v := vi n) rfl rfl)) ?_
 refine sgq 14 (B := (!(!r_2))) (v := .agg #[vi h.Kind, vi h.A, vi h.B]) rfl rfl (uF_ 12) (fun hg1 => (Y_loadA (B := aD b1) (i := 0) (cs := [vi h.Kind, vi h.A, vi h.B]) (vs := [vi h.Kind, vi h.A, vi h.B]) k_ag_67 k_sz_67_3 rfl rfl (hS3.cf (i := 1) rfl) rfl rfl)) ?_
 obtain ⟨r_3, hc1, hF⟩ := bind_inv hF
 refine sgc 15 (B := (!(!r_2))) (v := .bool r_3) (F := hS3.fn) rfl rfl (uF_ 12) hS3 (fun hg2 => (Yc_func (g := 72) (vs := [vi n, .agg #[vi h.Kind, vi h.A, vi h.B]]) k_call_72 rfl (mc (gv_of (v := vi n) hg2) (mc (gv_of (v := .agg #[vi h.Kind, vi h.A, vi h.B]) hg2) mn)) (CV.mono (c_impl_IsValidGate n h _  (hS3.inn0 [] rfl) (gb_inv hc1 hg2)) (by rintro _ _ ⟨rfl, h⟩; exact ⟨rfl, hS3.out00 h⟩)))) ?_
 rintro w_3 hS4
 refine sgq 16 (B := (!(!r_2))) (v := .bool (!r_3)) rfl rfl (uF_ 12) (fun hg3 => (Y_not (p := r_3) rfl (gv_of (v := .bool r_3) hg3))) ?_
 refine sQ 17 (Y_or (b := (!r_2)) (z := (!r_3)) rfl rfl rfl rfl) (rw_nil ?_)
 refine cw_cond (b := ((!r_2) || (!r_3))) rfl (fun hb => ?_) (fun hb => ?_)
 ·skip
  have hF1 := ct hF hb
  refine cw_seq (cw_region ?_)
  refine sQ 6 (Y_assign (v := .bool false) rfl rfl) ?_
  refine sQ 7 (Y_assign (v := .bool false) rfl rfl) (rw_nil (cw_ret ?_))
  obtain ⟨rfl, rfl⟩ := pr2 (some_inj hF1)
  exact ret2 Tryz.results29 (v1 := .bool false) (resAt_tmp rfl) (v2 := .bool false) (resAt_tmp rfl) ⟨rfl, (hS4.sN [])⟩
 ·skip
  have hF2 := cf' hF hb
  refine cw_skip (cw_seq (cw_region ?_))
  refine sQ 18 (Y_loadA (B := aD b) (i := 0) (cs := [vi g.Kind, vi g.A, vi g.B]) (vs := [vi g.Kind, vi g.A, vi g.B]) k_ag_67 k_sz_67_3 rfl rfl (hS4.cf (i := 0) rfl) rfl rfl) ?_
  refine sQ 19 (Y_loadA (B := aD b1) (i := 0) (cs := [vi h.Kind, vi h.A, vi h.B]) (vs := [vi h.Kind, vi h.A, vi h.B]) k_ag_67 k_sz_67_3 rfl rfl (hS4.cf (i := 1) rfl) rfl rfl) ?_
  obtain ⟨r_4, hc2, hF2⟩ := bind_inv hF2
  refine sc 20 rfl rfl (Yc_func (g := 73) (vs := [.agg #[vi g.Kind, vi g.A, vi g.B], .agg #[vi h.Kind, vi h.A, vi h.B]]) k_call_73 rfl (mc rfl (mc rfl mn)) (c_impl_commutes g h _  (hS4.inn0 [] rfl) hc2)) ?_
  rintro _ w_4 ⟨rfl, hd1⟩
  have hS5 := hS4.out00 hd1
  refine sQ 6 (Y_assign (v := .bool r_4) rfl rfl) ?_
  refine sQ 7 (Y_assign (v := .bool true) rfl rfl) (rw_nil (cw_ret ?_))
  obtain ⟨rfl, rfl⟩ := pr2 (some_inj hF2)
  exact ret2 Tryz.results29 (v1 := .bool r_4) (resAt_tmp rfl) (v2 := .bool true) (resAt_tmp rfl) ⟨rfl, (hS5.sN [])⟩

theorem c_laws_FnExactGatesCommute (aN : Int) (aG : TGate) (aH : TGate)  (w0 : World)  (hS : ST w0 [] w0 [] []) {r_ : Bool} (hF : F_laws_FnExactGatesCommute aN aG aH = some r_) :
  CV Tryz.prog 5 #[vi aN, .agg #[vi aG.Kind, vi aG.A, vi aG.B], .agg #[vi aH.Kind, vi aH.A, vi aH.B]] w0 (fun v w' => v = .bool r_ ∧ ST w0 [] w' [] []) := by
 unfold F_laws_FnExactGatesCommute at hF
 refine cv_of_cw 37 Tryz.func5 rfl Tryz.ntmps5 rfl ?_
 refine cw_seq (cw_region ?_)
 refine sS 4 (Ys_box (T := 65) (v := .agg #[vi aG.Kind, vi aG.A, vi aG.B]) (cs := [vi aG.Kind, vi aG.A, vi aG.B]) (m := 3) hS rfl rfl rfl rfl) ?_
 rintro _ w_ ⟨b, rfl, hS1⟩
 refine sS 5 (Ys_box (T := 65) (v := .agg #[vi aH.Kind, vi aH.A, vi aH.B]) (cs := [vi aH.Kind, vi aH.A, vi aH.B]) (m := 3) hS1 rfl rfl rfl rfl) ?_
 rintro _ w_1 ⟨b1, rfl, hS2⟩
 refine sQ 6 (Y_assign (v := .bool false) rfl rfl) (rw_nil (cw_seq ?_))
 obtain ⟨r_1, hc, hF⟩ := bind_inv hF
 obtain ⟨r_2, hc1, hF⟩ := bind_inv hF
 obtain ⟨⟨r_3, r_4⟩, hc2, hF⟩ := bind_inv hF
 refine ra_start (hS2.se [0, 1]).fn (by kernel_rfl) ?_
 have hS6 := hS2.drew
 refine rq 0 12 (v := vi aN) rfl (hS6.se [0, 1]) (fun w' hw' => (Y_move (v := vi aN) rfl rfl)) ?_
 refine rq 1 13 (v := .agg #[vi aG.Kind, vi aG.A, vi aG.B]) rfl (hS6.se [0, 1]) (fun w' hw' => (Y_loadA (B := aD b) (i := 0) (cs := [vi aG.Kind, vi aG.A, vi aG.B]) (vs := [vi aG.Kind, vi aG.A, vi aG.B]) k_ag_65 k_sz_65_3 rfl rfl (ST.cf hw' (i := 0) rfl) rfl rfl)) ?_
 refine rq 3 15 (v := .agg #[vi aH.Kind, vi aH.A, vi aH.B]) rfl (hS6.se [0, 1]) (fun w' hw' => (Y_loadA (B := aD b1) (i := 0) (cs := [vi aH.Kind, vi aH.A, vi aH.B]) (vs := [vi aH.Kind, vi aH.A, vi aH.B]) k_ag_65 k_sz_65_3 rfl rfl (ST.cf hw' (i := 1) rfl) rfl rfl)) ?_
 refine rA [2] ?_
 refine ra_c 14 (i := 2) rfl rfl rfl (Yc_func (g := 28) (vs := [.agg #[vi aG.Kind, vi aG.A, vi aG.B]]) k_call_28 rfl (mc rfl mn) (c_laws_toGate aG _  (hS6.inn0 [] rfl) hc)) ?_ ?_
 ·rintro _ w_2 ⟨rfl, hd⟩
  have hS7 := hS6.out00 hd
  refine ⟨(hS7.se [0, 1]), ?_⟩
  refine rA [4] ?_
  refine ra_c 16 (i := 4) rfl rfl rfl (Yc_func (g := 28) (vs := [.agg #[vi aH.Kind, vi aH.A, vi aH.B]]) k_call_28 rfl (mc rfl mn) (c_laws_toGate aH _  (hS7.inn0 [] rfl) hc1)) ?_ ?_
  ·rintro _ w_3 ⟨rfl, hd1⟩
   have hS8 := hS7.out00 hd1
   refine ⟨(hS8.se [0, 1]), ?_⟩
   refine rA [5] ?_
   refine ra_c 17 (i := 5) rfl rfl rfl (Yc_func (g := 27) (vs := [vi aN, .agg #[vi r_1.Kind, vi r_1.A, vi r_1.B], .agg #[vi r_2.Kind, vi r_2.A, vi r_2.B]]) k_call_27 rfl (mc rfl (mc rfl (mc rfl mn))) (c_spec_GatesCommute aN r_1 r_2 _  (hS8.inn0 [] rfl) hc2)) ?_ ?_
   ·rintro _ w_4 ⟨rfl, hd2⟩
    have hS9 := hS8.out00 hd2
    refine ⟨(hS9.se [0, 1]), ?_⟩
    refine rq 6 11 (v := .tuple #[.bool r_3, .bool r_4]) rfl (hS9.se [0, 1]) (fun w' hw' => (Y_move (v := .tuple #[.bool r_3, .bool r_4]) rfl rfl)) ?_
    refine rq 7 18 (v := .bool r_3) rfl (hS9.se [0, 1]) (fun w' hw' => (Y_extract (v := .bool r_3) rfl rfl rfl)) ?_
    refine rq 8 19 (v := .bool r_4) rfl (hS9.se [0, 1]) (fun w' hw' => (Y_extract (v := .bool r_4) rfl rfl rfl)) ?_
    refine rq 9 7 (v := .bool r_3) rfl (hS9.se [0, 1]) (fun w' hw' => (Y_assign (v := .bool r_3) rfl rfl)) ?_
    refine rq 10 8 (v := .bool r_4) rfl (hS9.se [0, 1]) (fun w' hw' => (Y_assign (v := .bool r_4) rfl rfl)) ?_
    refine ra_done (by kernel_rfl) ?_
    refine cw_seq ?_
    obtain ⟨r_5, hc3, hF⟩ := bind_inv hF
    obtain ⟨r_6, hc4, hF⟩ := bind_inv hF
    obtain ⟨⟨r_7, r_8⟩, hc5, hF⟩ := bind_inv hF
    refine ra_start (hS9.se [0, 1]).fn (by kernel_rfl) ?_
    have hS13 := hS9.drew
    refine rq 0 21 (v := vi aN) rfl (hS13.se [0, 1]) (fun w' hw' => (Y_move (v := vi aN) rfl rfl)) ?_
    refine rq 1 22 (v := .agg #[vi aG.Kind, vi aG.A, vi aG.B]) rfl (hS13.se [0, 1]) (fun w' hw' => (Y_loadA (B := aD b) (i := 0) (cs := [vi aG.Kind, vi aG.A, vi aG.B]) (vs := [vi aG.Kind, vi aG.A, vi aG.B]) k_ag_65 k_sz_65_3 rfl rfl (ST.cf hw' (i := 0) rfl) rfl rfl)) ?_
    refine rq 3 24 (v := .agg #[vi aH.Kind, vi aH.A, vi aH.B]) rfl (hS13.se [0, 1]) (fun w' hw' => (Y_loadA (B := aD b1) (i := 0) (cs := [vi aH.Kind, vi aH.A, vi aH.B]) (vs := [vi aH.Kind, vi aH.A, vi aH.B]) k_ag_65 k_sz_65_3 rfl rfl (ST.cf hw' (i := 1) rfl) rfl rfl)) ?_
    refine rA [2] ?_
    refine ra_c 23 (i := 2) rfl rfl rfl (Yc_func (g := 28) (vs := [.agg #[vi aG.Kind, vi aG.A, vi aG.B]]) k_call_28 rfl (mc rfl mn) (c_laws_toGate aG _  (hS13.inn0 [] rfl) hc3)) ?_ ?_
    ·rintro _ w_5 ⟨rfl, hd3⟩
     have hS14 := hS13.out00 hd3
     refine ⟨(hS14.se [0, 1]), ?_⟩
     refine rA [4] ?_
     refine ra_c 25 (i := 4) rfl rfl rfl (Yc_func (g := 28) (vs := [.agg #[vi aH.Kind, vi aH.A, vi aH.B]]) k_call_28 rfl (mc rfl mn) (c_laws_toGate aH _  (hS14.inn0 [] rfl) hc4)) ?_ ?_
     ·rintro _ w_6 ⟨rfl, hd4⟩
      have hS15 := hS14.out00 hd4
      refine ⟨(hS15.se [0, 1]), ?_⟩
      refine rA [5] ?_
      refine ra_c 26 (i := 5) rfl rfl rfl (Yc_func (g := 29) (vs := [vi aN, .agg #[vi r_5.Kind, vi r_5.A, vi r_5.B], .agg #[vi r_6.Kind, vi r_6.A, vi r_6.B]]) k_call_29 rfl (mc rfl (mc rfl (mc rfl mn))) (c_impl_GatesCommute aN r_5 r_6 _  (hS15.inn0 [] rfl) hc5)) ?_ ?_
      ·rintro _ w_7 ⟨rfl, hd5⟩
       have hS16 := hS15.out00 hd5
       refine ⟨(hS16.se [0, 1]), ?_⟩
       refine rq 6 20 (v := .tuple #[.bool r_7, .bool r_8]) rfl (hS16.se [0, 1]) (fun w' hw' => (Y_move (v := .tuple #[.bool r_7, .bool r_8]) rfl rfl)) ?_
       refine rq 7 27 (v := .bool r_7) rfl (hS16.se [0, 1]) (fun w' hw' => (Y_extract (v := .bool r_7) rfl rfl rfl)) ?_
       refine rq 8 28 (v := .bool r_8) rfl (hS16.se [0, 1]) (fun w' hw' => (Y_extract (v := .bool r_8) rfl rfl rfl)) ?_
       refine rq 9 9 (v := .bool r_7) rfl (hS16.se [0, 1]) (fun w' hw' => (Y_assign (v := .bool r_7) rfl rfl)) ?_
       refine rq 10 10 (v := .bool r_8) rfl (hS16.se [0, 1]) (fun w' hw' => (Y_assign (v := .bool r_8) rfl rfl)) ?_
       refine ra_done (by kernel_rfl) ?_
       refine cw_seq (cw_seq (cw_region ?_))
       refine sQ 29 (Y_move (v := .bool r_7) rfl rfl) ?_
       refine sQ 30 (Y_move (v := .bool r_3) rfl rfl) ?_
       refine sQ 31 (Y_bne (p := r_7) (q := r_3) k_und_4 rfl rfl rfl) ?_
       refine sQ 32 (Y_move (v := .bool (!(r_7 == r_3))) rfl rfl) ?_
       refine sgq 33 (B := (!(!(r_7 == r_3)))) (v := .bool r_8) rfl rfl (uF_ 32) (fun hg => (Y_move (v := .bool r_8) rfl rfl)) ?_
       refine sgq 34 (B := (!(!(r_7 == r_3)))) (v := .bool r_4) rfl rfl (uF_ 32) (fun hg1 => (Y_move (v := .bool r_4) rfl rfl)) ?_
       refine sgq 35 (B := (!(!(r_7 == r_3)))) (v := .bool (!(r_8 == r_4))) rfl rfl (uF_ 32) (fun hg2 => (Y_bne (p := r_8) (q := r_4) k_und_4 rfl (gv_of (v := .bool r_8) hg2) (gv_of (v := .bool r_4) hg2))) ?_
       refine sQ 36 (Y_or (b := (!(r_7 == r_3))) (z := (!(r_8 == r_4))) rfl rfl rfl rfl) (rw_nil ?_)
       refine cw_cond (b := ((!(r_7 == r_3)) || (!(r_8 == r_4)))) rfl (fun hb => ?_) (fun hb => ?_)
       ·skip
        have hF1 := ct hF hb
        refine cw_seq (cw_region ?_)
        refine sQ 6 (Y_assign (v := .bool false) rfl rfl) (rw_nil (cw_ret ?_))
        obtain rfl := some_inj hF1
        exact ret1 Tryz.results5 (v1 := .bool false) (resAt_tmp rfl) ⟨rfl, (hS16.sN [])⟩
       ·skip
        have hF2 := cf' hF hb
        refine cw_skip (cw_seq (cw_region ?_))
        refine sQ 6 (Y_assign (v := .bool true) rfl rfl) (rw_nil (cw_ret ?_))
        obtain rfl := some_inj hF2
        exact ret1 Tryz.results5 (v1 := .bool true) (resAt_tmp rfl) ⟨rfl, (hS16.sN [])⟩
      exact allR_nil
     exact allR_nil
    exact allR_nil
   exact allR_nil
  exact allR_nil
 exact allR_nil
end Go.VK
