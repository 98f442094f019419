/- Walks: each Go function returns what its Lean function says. By program. -/
import Derived.Test.YtoladcammhboiaaDoorCliffordWordFa
set_option linter.unusedVariables false
set_option maxRecDepth 100000
set_option maxHeartbeats 1000000
namespace Go.VK
open Go.RowKit
open Go.Proofs
open Go.IntKind
attribute [local irreducible] CW RW RA CV Y Yw Yc Ys RetOf
attribute [local irreducible] F_spec_l1In F_spec_l1All F_spec_l1Good F_spec_l2C_ring F_spec_l1Root F_spec_l1Even F_spec_l1Half F_spec_l2Low F_spec_l1Add F_spec_l2C_add F_spec_l1Mul F_spec_l2C_mul F_spec_l2C_times F_spec_l1Turn F_spec_l2Power F_spec_l1Neg F_spec_l2Neg F_spec_l6One F_spec_l9Pauli F_spec_l1Conj F_spec_l2Conj F_spec_l3Adj F_spec_l9Bloch F_spec_l6Bit F_spec_l6Cell F_spec_l6Gate F_spec_l2C_run F_spec_l3Unit F_spec_l6Op F_spec_l9Word F_spec_l9Same F_spec_l9Words F_spec_CliffordWord F_impl_whole F_impl_small F_impl_within F_impl_isTwo F_impl_IsValidGate F_impl_isDim F_impl_matrixOf F_impl_isCoef F_impl_IsValidRing F_impl_MulOmega F_impl_phase F_impl_bitOf F_impl_flipped F_impl_comesFrom F_impl_entry F_impl_GateMatrix_1 F_impl_GateMatrix F_slices_IndexFunc_impl_Dyadic_impl_Dyadic F_slices_ContainsFunc_impl_Dyadic_impl_Dyadic F_impl_isEven F_impl_IsValidDyadic F_impl_IsValidMatrix_1 F_impl_IsValidMatrix F_impl_ringIf F_impl_Conjugate F_impl_ConjDyadic F_impl_Matrix_at F_impl_Adjoint_1 F_impl_Adjoint F_impl_MulRing F_impl_DivRootTwo F_impl_DyadicOf F_impl_MulDyadic F_impl_MulRootTwo F_impl_raised F_impl_combined F_impl_AddRing F_impl_AddDyadic F_impl_MulMatrix_1 F_impl_MulMatrix F_impl_IdentityMatrix_1 F_impl_IdentityMatrix F_slices_Equal_impl_Dyadic_impl_Dyadic F_impl_EqualMatrices F_impl_IsUnitary F_impl_IsOneQubit F_impl_TraceOf F_impl_blochCell F_impl_BlochOf F_impl_blochGate F_impl_mulBloch F_slices_IndexFunc_SSimpl_Dyadic_impl_Dyadic F_slices_ContainsFunc_SSimpl_Dyadic_impl_Dyadic F_impl_cliffordList_1 F_impl_cliffordList F_impl_CliffordWord F_laws_FnExactCliffordWord
theorem c_spec_l1In (n : Int) (lo : Int) (hi : Int)  (w0 : World)  (hS : ST w0 [] w0 [] []) {r_ : Bool} (hF : F_spec_l1In n lo hi = some r_) :
  CV Tryd.prog 6 #[vi n, vi lo, vi hi] w0 (fun v w' => v = .bool r_ ∧ ST w0 [] w' [] []) := by
 unfold F_spec_l1In at hF
 refine cv_of_cw 15 Tryd.func6 rfl Tryd.ntmps6 rfl ?_
 refine cw_seq ?_
 refine cw_region ?_
 refine sq 6 rfl rfl (Y_assign (v := .bool false) rfl rfl) ?_
 refine rw_nil ?_
 refine cw_seq ?_
 refine cw_region ?_
 refine sq 7 rfl rfl (Y_move (v := vi n) rfl rfl) ?_
 refine sq 8 rfl rfl (Y_move (v := vi lo) rfl rfl) ?_
 refine sq 9 rfl rfl (Y_ge (k := .i64) (a := n) (b := lo) rfl rfl rfl) ?_
 refine sq 10 rfl rfl (Y_move (v := .bool (decide (lo ≤ n))) rfl rfl) ?_
 refine sgq 11 (B := (decide (lo ≤ n))) (v := vi n) rfl rfl (wt_t (gd_of (t := 10) (by kernel_rfl) rfl)) (fun hg => (Y_move (v := vi n) rfl rfl)) ?_
 refine sgq 12 (B := (decide (lo ≤ n))) (v := vi hi) rfl rfl (wt_t (gd_of (t := 10) (by kernel_rfl) rfl)) (fun hg1 => (Y_move (v := vi hi) rfl rfl)) ?_
 refine sgq 13 (B := (decide (lo ≤ n))) (v := .bool (decide (n ≤ hi))) rfl rfl (wt_t (gd_of (t := 10) (by kernel_rfl) rfl)) (fun hg2 => (Y_le (k := .i64) (a := n) (b := hi) rfl (gv_of (B := (decide (lo ≤ n))) (v := vi n) hg2) (gv_of (B := (decide (lo ≤ n))) (v := vi hi) hg2))) ?_
 refine sq 14 rfl rfl (Y_and (b := (decide (lo ≤ n))) (z := (decide (n ≤ hi))) rfl rfl rfl rfl) ?_
 refine sq 6 rfl rfl (Y_assign (v := .bool ((decide (lo ≤ n)) && (decide (n ≤ hi)))) rfl rfl) ?_
 refine rw_nil ?_
 refine cw_ret ?_
 obtain rfl := some_inj hF
 exact ret1 Tryd.results6 (v1 := .bool ((decide (lo ≤ n)) && (decide (n ≤ hi)))) (resAt_tmp rfl) ⟨rfl, (ST.subR (R' := []) (hS.sel [] rfl rfl) (fun _ h => by cases h))⟩

theorem c_spec_l1All (l : List Int) (lo : Int) (hi : Int) (B : Option Addr) (c n : Nat) (w0 : World) (hn : l.length = n) (hS : ST w0 [] w0 [] [⟨B, (l.flatMap encI)⟩]) {r_ : Bool} (hF : F_spec_l1All l lo hi = some r_) :
  CV Tryd.prog 80 #[.slice B n c, vi lo, vi hi] w0 (fun v w' => v = .bool r_ ∧ ST w0 [] w' [] []) := by
 subst hn
 unfold F_spec_l1All at hF
 refine cv_of_cw 21 Tryd.func80 rfl Tryd.ntmps80 rfl ?_
 refine cw_seq ?_
 refine cw_region ?_
 refine sq 6 rfl rfl (Y_assign (v := .bool false) rfl rfl) ?_
 refine rw_nil ?_
 refine cw_seq ?_
 refine cw_seq ?_
 refine cw_region ?_
 refine sq 9 rfl rfl (Y_move (v := .slice B l.length c) rfl rfl) ?_
 refine sq 10 rfl rfl (Y_len (B := B) (m := l.length) (c := c) k_sl_92_3 rfl rfl) ?_
 refine sq 11 rfl rfl (Y_move (v := vi 0) rfl rfl) ?_
 refine rw_nil ?_
 obtain ⟨hN, hF⟩ := chk_inv hF
 obtain ⟨z, hz, hF1⟩ := bind_inv hF
 refine cw_block ?_
 refine cw_loop (fun k f w => ∃ (i : Nat), FF f [(1, vi lo), (2, vi hi), (9, .slice B l.length c), (10, vi (l.length : Int)), (11, vi (i : Int))] ∧ ST w0 [] w [] [⟨B, (l.flatMap encI)⟩] ∧ i + k = l.length ∧ forX (F_spec_l1All_l1 l lo hi) k i () = some z) l.length ⟨0, (FF.cons rfl (FF.cons rfl (FF.cons rfl (FF.cons rfl (FF.cons rfl FF.nil))))), (hS.sel [] rfl rfl), Nat.zero_add _, hz⟩ ?_
 rintro k_ f w ⟨i, hf, hS1, hik, hL⟩
 refine cw_seq ?_
 refine cw_region ?_
 refine sq 12 rfl rfl (Y_lt (k := .i64) (a := (i : Int)) (b := (l.length : Int)) rfl (hf.get 11 4 rfl) (hf.get 10 3 rfl)) ?_
 refine rw_nil ?_
 refine cw_seq ?_
 refine cw_cond (b := (decide ((i : Int) < (l.length : Int)))) rfl (fun hlt => ?_) (fun hlt => ?_)
 ·skip
  have hlt1 : i < l.length := by have h := of_decide_eq_true hlt; omega
  obtain ⟨k_1, rfl⟩ : ∃ k2, k_ = k2 + 1 := ⟨k_ - 1, by omega⟩
  obtain ⟨y, hb, hL1⟩ := forX_go hL
  unfold F_spec_l1All_l1 at hb
  refine cw_skip ?_
  refine cw_seq ?_
  refine cw_block ?_
  refine cw_seq ?_
  refine cw_region ?_
  obtain ⟨x, hx, hb⟩ := bind_inv hb
  refine sq 13 rfl rfl (Y_index (B := B) (m := l.length) (c := c) (k := .i64) (i := (i : Int)) k_sl_92_3 k_sz_3_1 rfl (hf.get 9 2 rfl) (hf.get 11 4 rfl) (gi_isSome encI_len rfl (hS1.rf (i := 0) rfl) hx) (getI_nn hx) (getI_ltI hx rfl)) ?_
  refine sq 14 rfl rfl (Y_load1 (B := B) (i := (i : Int).toNat * 1) (cs := (l.flatMap encI)) (v := vi x) k_sc_3 rfl rfl (hS1.rf (i := 0) rfl) (gi_at0 encI_len hx rfl)) ?_
  refine sq 8 rfl rfl (Y_assign (v := vi x) rfl rfl) ?_
  refine rw_nil ?_
  refine cw_seq ?_
  refine cw_region ?_
  refine sq 15 rfl rfl (Y_move (v := vi x) rfl rfl) ?_
  refine sq 16 rfl rfl (Y_move (v := vi lo) rfl (hf.get 1 0 rfl)) ?_
  refine sq 17 rfl rfl (Y_move (v := vi hi) rfl (hf.get 2 1 rfl)) ?_
  obtain ⟨r_1, hc, hb⟩ := bind_inv hb
  refine sc 18 rfl rfl (Yc_func (g := 6) (vs := [vi x, vi lo, vi hi]) k_call_6 rfl (mc rfl (mc rfl (mc rfl mn))) (c_spec_l1In x lo hi _  (hS1.inn0 [] rfl) hc)) ?_
  rintro _ w_ ⟨rfl, hd⟩
  have hS2 := hS1.out00 hd
  refine sq 19 rfl rfl (Y_not (p := r_1) rfl rfl) ?_
  refine rw_nil ?_
  refine cw_cond (b := (!r_1)) rfl (fun hb1 => ?_) (fun hb1 => ?_)
  ·skip
   have hF2 := ct hb hb1
   refine cw_seq ?_
   refine cw_region ?_
   refine sq 6 rfl rfl (Y_assign (v := .bool false) rfl rfl) ?_
   refine rw_nil ?_
   refine cw_ret ?_
   obtain rfl := some_inj hF2
   obtain rfl := some_inj hL1
   obtain rfl := some_inj hF1
   exact ret1 Tryd.results80 (v1 := .bool false) (resAt_tmp rfl) ⟨rfl, (ST.subR (R' := []) (hS2.sel [] rfl rfl) (fun _ h => by cases h))⟩
  ·skip
   have hF3 := cf' hb hb1
   refine cw_skip ?_
   refine cw_region ?_
   refine sq 20 rfl rfl (Y_add (k := .i64) (a := (i : Int)) (b := 1) rfl (hf.get 11 4 rfl) rfl) ?_
   refine sq 11 rfl rfl (Y_move (v := vi (i64.wrap ((i : Int) + 1))) rfl rfl) ?_
   refine rw_nil ?_
   obtain rfl := some_inj hF3
   exact ⟨k_1, Nat.lt_succ_self _, i + 1, (FF.cons (hf.get 1 0 rfl) (FF.cons (hf.get 2 1 rfl) (FF.cons (hf.get 9 2 rfl) (FF.cons (hf.get 10 3 rfl) (FF.cons (congrArg (Value.int .i64) (wr_succ hlt1 hN)) FF.nil))))), (hS2.sel [] rfl rfl), (by omega), hL1⟩
 ·skip
  obtain rfl : k_ = 0 := by have h := of_decide_eq_false hlt; omega
  refine cw_exit rfl ?_
  obtain rfl := some_inj hL
  refine cw_seq ?_
  refine cw_region ?_
  refine sq 6 rfl rfl (Y_assign (v := .bool true) rfl rfl) ?_
  refine rw_nil ?_
  refine cw_ret ?_
  obtain rfl := some_inj hF1
  exact ret1 Tryd.results80 (v1 := .bool true) (resAt_tmp rfl) ⟨rfl, (ST.subR (R' := []) (hS1.sel [] rfl rfl) (fun _ h => by cases h))⟩

theorem c_spec_l1Good (x : TRing)  (w0 : World)  (hS : ST w0 [] w0 [] []) {r_ : Bool} (hF : F_spec_l1Good x = some r_) :
  CV Tryd.prog 60 #[.agg #[vi x.A, vi x.B, vi x.C, vi x.D]] w0 (fun v w' => v = .bool r_ ∧ ST w0 [] w' [] []) := by
 unfold F_spec_l1Good at hF
 refine cv_of_cw 13 Tryd.func60 rfl Tryd.ntmps60 rfl ?_
 refine cw_seq ?_
 refine cw_region ?_
 refine ss 1 rfl rfl (Ys_box (T := 42) (v := .agg #[vi x.A, vi x.B, vi x.C, vi x.D]) (cs := [vi x.A, vi x.B, vi x.C, vi x.D]) (m := 4) hS rfl rfl rfl rfl) ?_
 rintro _ w_ ⟨b, rfl, hS1⟩
 refine sq 2 rfl rfl (Y_assign (v := .bool false) rfl rfl) ?_
 refine rw_nil ?_
 refine cw_seq ?_
 refine cw_region ?_
 refine sq 3 rfl rfl (Y_fieldAddr (B := aD b) (i := 0) (s := 0) k_fd_42_0_0_3 k_sz_3_1 rfl rfl) ?_
 refine sq 4 rfl rfl (Y_load1 (B := aD b) (i := 0) (cs := [vi x.A, vi x.B, vi x.C, vi x.D]) (v := vi x.A) k_sc_3 rfl rfl (hS1.cf (i := 0) rfl) rfl) ?_
 refine sq 5 rfl rfl (Y_fieldAddr (B := aD b) (i := 0) (s := 0) k_fd_42_1_1_3 k_sz_3_1 rfl rfl) ?_
 refine sq 6 rfl rfl (Y_load1 (B := aD b) (i := 1) (cs := [vi x.A, vi x.B, vi x.C, vi x.D]) (v := vi x.B) k_sc_3 rfl rfl (hS1.cf (i := 0) rfl) rfl) ?_
 refine sq 7 rfl rfl (Y_fieldAddr (B := aD b) (i := 0) (s := 0) k_fd_42_2_2_3 k_sz_3_1 rfl rfl) ?_
 refine sq 8 rfl rfl (Y_load1 (B := aD b) (i := 2) (cs := [vi x.A, vi x.B, vi x.C, vi x.D]) (v := vi x.C) k_sc_3 rfl rfl (hS1.cf (i := 0) rfl) rfl) ?_
 refine sq 9 rfl rfl (Y_fieldAddr (B := aD b) (i := 0) (s := 0) k_fd_42_3_3_3 k_sz_3_1 rfl rfl) ?_
 refine sq 10 rfl rfl (Y_load1 (B := aD b) (i := 3) (cs := [vi x.A, vi x.B, vi x.C, vi x.D]) (v := vi x.D) k_sc_3 rfl rfl (hS1.cf (i := 0) rfl) rfl) ?_
 refine ss 11 rfl rfl (Ys_bslice (s := 1) (len := 4) (vs := [(0, vi x.A), (1, vi x.B), (2, vi x.C), (3, vi x.D)]) (cs := [vi x.A, vi x.B, vi x.C, vi x.D]) (zs := [vi 0, vi 0, vi 0, vi 0]) (m := 4) hS1 k_sl_92_3 k_sz_3_1 k_zc_3 rfl (mpc rfl (mpc rfl (mpc rfl (mpc rfl mpn)))) rfl rfl rfl (by kernel_rfl) (by kernel_rfl) rfl) ?_
 rintro _ w_1 ⟨b1, rfl, hS2⟩
 have hS2 : ST w0 [] _ [⟨aD b, 42, [vi x.A, vi x.B, vi x.C, vi x.D], 4⟩, ⟨aD b1, 3, ([x.A, x.B, x.C, x.D].flatMap encI), 4 * 1⟩] [] := hS2
 obtain ⟨r_1, hc, hF⟩ := bind_inv hF
 refine sc 12 rfl rfl (Yc_func (g := 80) (vs := [.slice (aD b1) 4 4, vi (-1000000000), vi 1000000000]) k_call_80 rfl (mc rfl (mc rfl (mc rfl mn))) (c_spec_l1All [x.A, x.B, x.C, x.D] (-1000000000) 1000000000 (aD b1) 4 4 _ rfl (hS2.inn0 [(false, 1)] rfl) hc)) ?_
 rintro _ w_2 ⟨rfl, hd⟩
 have hS3 := hS2.out00 hd
 have hS3 : ST w0 [] _ [⟨aD b, 42, [vi x.A, vi x.B, vi x.C, vi x.D], 4⟩, ⟨aD b1, 3, ([x.A, x.B, x.C, x.D].flatMap encI), 4 * 1⟩] [] := hS3
 refine sq 2 rfl rfl (Y_assign (v := .bool r_1) rfl rfl) ?_
 refine rw_nil ?_
 refine cw_ret ?_
 obtain rfl := some_inj hF
 exact ret1 Tryd.results60 (v1 := .bool r_1) (resAt_tmp rfl) ⟨rfl, (ST.subR (R' := []) (hS3.sel [] rfl rfl) (fun _ h => by cases h))⟩

theorem c_spec_l2C_ring (c : Tl2C) (x : TRing) (B : Option Addr) (w0 : World)  (hS : ST w0 (bl [⟨B, 55, [.bool c.bad], 1⟩]) w0 [⟨B, 55, [.bool c.bad], 1⟩] []) {r_ : TRing} {m : Tl2C} (hF : F_spec_l2C_ring c x = some (r_, m)) :
  CV Tryd.prog 33 #[pt B 0, .agg #[vi x.A, vi x.B, vi x.C, vi x.D]] w0 (fun v w' => v = .agg #[vi r_.A, vi r_.B, vi r_.C, vi r_.D] ∧ ST w0 (bl [⟨B, 55, [.bool c.bad], 1⟩]) w' [⟨B, 55, [.bool m.bad], 1⟩] []) := by
 unfold F_spec_l2C_ring at hF
 refine cv_of_cw 13 Tryd.func33 rfl Tryd.ntmps33 rfl ?_
 refine cw_seq ?_
 refine cw_region ?_
 refine ss 3 rfl rfl (Ys_box (T := 42) (v := .agg #[vi x.A, vi x.B, vi x.C, vi x.D]) (cs := [vi x.A, vi x.B, vi x.C, vi x.D]) (m := 4) hS rfl rfl rfl rfl) ?_
 rintro _ w_ ⟨b, rfl, hS1⟩
 have hS1 : ST w0 (bl [⟨B, 55, [.bool c.bad], 1⟩]) _ [⟨B, 55, [.bool c.bad], 1⟩, ⟨aD b, 42, [vi x.A, vi x.B, vi x.C, vi x.D], 4⟩] [] := hS1
 refine ss 4 rfl rfl (Ys_alloc (T := 42) (cs := [vi 0, vi 0, vi 0, vi 0]) (m := 4) hS1 k_zero_42 rfl rfl rfl) ?_
 rintro _ w_1 ⟨b1, rfl, hS2⟩
 have hS2 : ST w0 (bl [⟨B, 55, [.bool c.bad], 1⟩]) _ [⟨B, 55, [.bool c.bad], 1⟩, ⟨aD b, 42, [vi x.A, vi x.B, vi x.C, vi x.D], 4⟩, ⟨aD b1, 42, [vi 0, vi 0, vi 0, vi 0], 4⟩] [] := hS2
 refine rw_nil ?_
 refine cw_seq ?_
 refine cw_seq ?_
 refine cw_region ?_
 refine sq 5 rfl rfl (Y_loadA (B := aD b) (i := 0) (cs := [vi x.A, vi x.B, vi x.C, vi x.D]) (vs := [vi x.A, vi x.B, vi x.C, vi x.D]) k_ag_42 k_sz_42_4 rfl rfl (hS2.cf (i := 1) rfl) rfl rfl) ?_
 obtain ⟨r_1, hc, hF⟩ := bind_inv hF
 refine sc 6 rfl rfl (Yc_func (g := 60) (vs := [.agg #[vi x.A, vi x.B, vi x.C, vi x.D]]) k_call_60 rfl (mc rfl mn) (c_spec_l1Good x _  (hS2.inn0 [] rfl) hc)) ?_
 rintro _ w_2 ⟨rfl, hd⟩
 have hS3 := hS2.out00 hd
 have hS3 : ST w0 (bl [⟨B, 55, [.bool c.bad], 1⟩]) _ [⟨B, 55, [.bool c.bad], 1⟩, ⟨aD b, 42, [vi x.A, vi x.B, vi x.C, vi x.D], 4⟩, ⟨aD b1, 42, [vi 0, vi 0, vi 0, vi 0], 4⟩] [] := hS3
 refine sq 7 rfl rfl (Y_not (p := r_1) rfl rfl) ?_
 refine rw_nil ?_
 refine cw_cond (b := (!r_1)) rfl (fun hb => ?_) (fun hb => ?_)
 ·skip
  have hF1 := ct hF hb
  refine cw_seq ?_
  refine cw_region ?_
  refine sq 8 rfl rfl (Y_move (v := pt B 0) rfl rfl) ?_
  refine sq 9 rfl rfl (Y_nilCheck (B := B) (i := 0) rfl rfl) ?_
  refine sq 10 rfl rfl (Y_fieldAddr (B := B) (i := 0) (s := 0) k_fd_55_0_0_4 k_sz_4_1 rfl rfl) ?_
  refine ss0 rfl rfl (Ys_store (i := 0) (s := 1) (B := B) (T' := 55) (v := .bool true) (vs := [.bool true]) (k := 0) (cs' := [.bool true]) hS3 k_sz_4_1 rfl rfl rfl rfl rfl rfl rfl (Nat.le_of_ble_eq_true rfl) rfl rfl) ?_
  rintro _ w_3 ⟨rfl, hS4⟩
  have hS4 : ST w0 (bl [⟨B, 55, [.bool c.bad], 1⟩]) _ [⟨B, 55, [.bool true], 1⟩, ⟨aD b, 42, [vi x.A, vi x.B, vi x.C, vi x.D], 4⟩, ⟨aD b1, 42, [vi 0, vi 0, vi 0, vi 0], 4⟩] [] := hS4
  refine rw_nil ?_
  refine cw_seq ?_
  refine cw_region ?_
  refine sq 11 rfl rfl (Y_buildS (zs := [vi 0, vi 0, vi 0, vi 0]) (vs := []) (cs := [vi 0, vi 0, vi 0, vi 0]) k_pl_42 k_zero_42 rfl mpn rfl) ?_
  refine ss0 rfl rfl (Ys_store (i := 2) (s := 4) (B := aD b1) (T' := 42) (v := .agg #[vi 0, vi 0, vi 0, vi 0]) (vs := [vi 0, vi 0, vi 0, vi 0]) (k := 0) (cs' := [vi 0, vi 0, vi 0, vi 0]) hS4 k_sz_42_4 rfl rfl rfl rfl rfl rfl rfl (Nat.le_of_ble_eq_true rfl) rfl rfl) ?_
  rintro _ w_4 ⟨rfl, hS5⟩
  have hS5 : ST w0 (bl [⟨B, 55, [.bool c.bad], 1⟩]) _ [⟨B, 55, [.bool true], 1⟩, ⟨aD b, 42, [vi x.A, vi x.B, vi x.C, vi x.D], 4⟩, ⟨aD b1, 42, [vi 0, vi 0, vi 0, vi 0], 4⟩] [] := hS5
  refine rw_nil ?_
  refine cw_ret ?_
  obtain ⟨rfl, rfl⟩ := pr2 (some_inj hF1)
  exact ret1 Tryd.results33 (v1 := .agg #[vi 0, vi 0, vi 0, vi 0]) (resAt_cellA (B := aD b1) (i := 0) (cs := [vi 0, vi 0, vi 0, vi 0]) (vs := [vi 0, vi 0, vi 0, vi 0]) rfl k_ag_42 k_sz_42_4 (hS5.cf (i := 2) rfl) rfl rfl) ⟨rfl, (ST.subR (R' := []) (hS5.sel [0] rfl rfl) (fun _ h => by cases h))⟩
 ·skip
  have hF2 := cf' hF hb
  refine cw_skip ?_
  refine cw_seq ?_
  refine cw_region ?_
  refine sq 12 rfl rfl (Y_loadA (B := aD b) (i := 0) (cs := [vi x.A, vi x.B, vi x.C, vi x.D]) (vs := [vi x.A, vi x.B, vi x.C, vi x.D]) k_ag_42 k_sz_42_4 rfl rfl (hS3.cf (i := 1) rfl) rfl rfl) ?_
  refine ss0 rfl rfl (Ys_store (i := 2) (s := 4) (B := aD b1) (T' := 42) (v := .agg #[vi x.A, vi x.B, vi x.C, vi x.D]) (vs := [vi x.A, vi x.B, vi x.C, vi x.D]) (k := 0) (cs' := [vi x.A, vi x.B, vi x.C, vi x.D]) hS3 k_sz_42_4 rfl rfl rfl rfl rfl rfl rfl (Nat.le_of_ble_eq_true rfl) rfl rfl) ?_
  rintro _ w_5 ⟨rfl, hS6⟩
  have hS6 : ST w0 (bl [⟨B, 55, [.bool c.bad], 1⟩]) _ [⟨B, 55, [.bool c.bad], 1⟩, ⟨aD b, 42, [vi x.A, vi x.B, vi x.C, vi x.D], 4⟩, ⟨aD b1, 42, [vi x.A, vi x.B, vi x.C, vi x.D], 4⟩] [] := hS6
  refine rw_nil ?_
  refine cw_ret ?_
  obtain ⟨rfl, rfl⟩ := pr2 (some_inj hF2)
  exact ret1 Tryd.results33 (v1 := .agg #[vi x.A, vi x.B, vi x.C, vi x.D]) (resAt_cellA (B := aD b1) (i := 0) (cs := [vi x.A, vi x.B, vi x.C, vi x.D]) (vs := [vi x.A, vi x.B, vi x.C, vi x.D]) rfl k_ag_42 k_sz_42_4 (hS6.cf (i := 2) rfl) rfl rfl) ⟨rfl, (ST.subR (R' := []) (hS6.sel [0] rfl rfl) (fun _ h => by cases h))⟩

theorem c_spec_l1Root (x : TRing)  (w0 : World)  (hS : ST w0 [] w0 [] []) {r_ : TRing} (hF : F_spec_l1Root x = some r_) :
  CV Tryd.prog 34 #[.agg #[vi x.A, vi x.B, vi x.C, vi x.D]] w0 (fun v w' => v = .agg #[vi r_.A, vi r_.B, vi r_.C, vi r_.D] ∧ ST w0 [] w' [] []) := by
 unfold F_spec_l1Root at hF
 refine cv_of_cw 24 Tryd.func34 rfl Tryd.ntmps34 rfl ?_
 refine cw_seq ?_
 refine cw_region ?_
 refine ss 1 rfl rfl (Ys_box (T := 42) (v := .agg #[vi x.A, vi x.B, vi x.C, vi x.D]) (cs := [vi x.A, vi x.B, vi x.C, vi x.D]) (m := 4) hS rfl rfl rfl rfl) ?_
 rintro _ w_ ⟨b, rfl, hS1⟩
 refine ss 2 rfl rfl (Ys_alloc (T := 42) (cs := [vi 0, vi 0, vi 0, vi 0]) (m := 4) hS1 k_zero_42 rfl rfl rfl) ?_
 rintro _ w_1 ⟨b1, rfl, hS2⟩
 have hS2 : ST w0 [] _ [⟨aD b, 42, [vi x.A, vi x.B, vi x.C, vi x.D], 4⟩, ⟨aD b1, 42, [vi 0, vi 0, vi 0, vi 0], 4⟩] [] := hS2
 refine rw_nil ?_
 refine cw_seq ?_
 refine cw_region ?_
 refine sq 3 rfl rfl (Y_fieldAddr (B := aD b) (i := 0) (s := 0) k_fd_42_1_1_3 k_sz_3_1 rfl rfl) ?_
 refine sq 4 rfl rfl (Y_load1 (B := aD b) (i := 1) (cs := [vi x.A, vi x.B, vi x.C, vi x.D]) (v := vi x.B) k_sc_3 rfl rfl (hS2.cf (i := 0) rfl) rfl) ?_
 refine sq 5 rfl rfl (Y_fieldAddr (B := aD b) (i := 0) (s := 0) k_fd_42_3_3_3 k_sz_3_1 rfl rfl) ?_
 refine sq 6 rfl rfl (Y_load1 (B := aD b) (i := 3) (cs := [vi x.A, vi x.B, vi x.C, vi x.D]) (v := vi x.D) k_sc_3 rfl rfl (hS2.cf (i := 0) rfl) rfl) ?_
 refine sq 7 rfl rfl (Y_sub (k := .i64) (a := x.B) (b := x.D) rfl rfl rfl) ?_
 refine sq 8 rfl rfl (Y_fieldAddr (B := aD b) (i := 0) (s := 0) k_fd_42_0_0_3 k_sz_3_1 rfl rfl) ?_
 refine sq 9 rfl rfl (Y_load1 (B := aD b) (i := 0) (cs := [vi x.A, vi x.B, vi x.C, vi x.D]) (v := vi x.A) k_sc_3 rfl rfl (hS2.cf (i := 0) rfl) rfl) ?_
 refine sq 10 rfl rfl (Y_fieldAddr (B := aD b) (i := 0) (s := 0) k_fd_42_2_2_3 k_sz_3_1 rfl rfl) ?_
 refine sq 11 rfl rfl (Y_load1 (B := aD b) (i := 2) (cs := [vi x.A, vi x.B, vi x.C, vi x.D]) (v := vi x.C) k_sc_3 rfl rfl (hS2.cf (i := 0) rfl) rfl) ?_
 refine sq 12 rfl rfl (Y_add (k := .i64) (a := x.A) (b := x.C) rfl rfl rfl) ?_
 refine sq 13 rfl rfl (Y_fieldAddr (B := aD b) (i := 0) (s := 0) k_fd_42_1_1_3 k_sz_3_1 rfl rfl) ?_
 refine sq 14 rfl rfl (Y_load1 (B := aD b) (i := 1) (cs := [vi x.A, vi x.B, vi x.C, vi x.D]) (v := vi x.B) k_sc_3 rfl rfl (hS2.cf (i := 0) rfl) rfl) ?_
 refine sq 15 rfl rfl (Y_fieldAddr (B := aD b) (i := 0) (s := 0) k_fd_42_3_3_3 k_sz_3_1 rfl rfl) ?_
 refine sq 16 rfl rfl (Y_load1 (B := aD b) (i := 3) (cs := [vi x.A, vi x.B, vi x.C, vi x.D]) (v := vi x.D) k_sc_3 rfl rfl (hS2.cf (i := 0) rfl) rfl) ?_
 refine sq 17 rfl rfl (Y_add (k := .i64) (a := x.B) (b := x.D) rfl rfl rfl) ?_
 refine sq 18 rfl rfl (Y_fieldAddr (B := aD b) (i := 0) (s := 0) k_fd_42_2_2_3 k_sz_3_1 rfl rfl) ?_
 refine sq 19 rfl rfl (Y_load1 (B := aD b) (i := 2) (cs := [vi x.A, vi x.B, vi x.C, vi x.D]) (v := vi x.C) k_sc_3 rfl rfl (hS2.cf (i := 0) rfl) rfl) ?_
 refine sq 20 rfl rfl (Y_fieldAddr (B := aD b) (i := 0) (s := 0) k_fd_42_0_0_3 k_sz_3_1 rfl rfl) ?_
 refine sq 21 rfl rfl (Y_load1 (B := aD b) (i := 0) (cs := [vi x.A, vi x.B, vi x.C, vi x.D]) (v := vi x.A) k_sc_3 rfl rfl (hS2.cf (i := 0) rfl) rfl) ?_
 refine sq 22 rfl rfl (Y_sub (k := .i64) (a := x.C) (b := x.A) rfl rfl rfl) ?_
 refine sq 23 rfl rfl (Y_buildS (zs := [vi 0, vi 0, vi 0, vi 0]) (vs := [(0, vi (i64.wrap (x.B - x.D))), (1, vi (i64.wrap (x.A + x.C))), (2, vi (i64.wrap (x.B + x.D))), (3, vi (i64.wrap (x.C - x.A)))]) (cs := [vi (i64.wrap (x.B - x.D)), vi (i64.wrap (x.A + x.C)), vi (i64.wrap (x.B + x.D)), vi (i64.wrap (x.C - x.A))]) k_pl_42 k_zero_42 rfl (mpc rfl (mpc rfl (mpc rfl (mpc rfl mpn)))) rfl) ?_
 refine ss0 rfl rfl (Ys_store (i := 1) (s := 4) (B := aD b1) (T' := 42) (v := .agg #[vi (i64.wrap (x.B - x.D)), vi (i64.wrap (x.A + x.C)), vi (i64.wrap (x.B + x.D)), vi (i64.wrap (x.C - x.A))]) (vs := [vi (i64.wrap (x.B - x.D)), vi (i64.wrap (x.A + x.C)), vi (i64.wrap (x.B + x.D)), vi (i64.wrap (x.C - x.A))]) (k := 0) (cs' := [vi (i64.wrap (x.B - x.D)), vi (i64.wrap (x.A + x.C)), vi (i64.wrap (x.B + x.D)), vi (i64.wrap (x.C - x.A))]) hS2 k_sz_42_4 rfl rfl rfl rfl rfl rfl rfl (Nat.le_of_ble_eq_true rfl) rfl rfl) ?_
 rintro _ w_2 ⟨rfl, hS3⟩
 have hS3 : ST w0 [] _ [⟨aD b, 42, [vi x.A, vi x.B, vi x.C, vi x.D], 4⟩, ⟨aD b1, 42, [vi (i64.wrap (x.B - x.D)), vi (i64.wrap (x.A + x.C)), vi (i64.wrap (x.B + x.D)), vi (i64.wrap (x.C - x.A))], 4⟩] [] := hS3
 refine rw_nil ?_
 refine cw_ret ?_
 obtain rfl := some_inj hF
 exact ret1 Tryd.results34 (v1 := .agg #[vi (i64.wrap (x.B - x.D)), vi (i64.wrap (x.A + x.C)), vi (i64.wrap (x.B + x.D)), vi (i64.wrap (x.C - x.A))]) (resAt_cellA (B := aD b1) (i := 0) (cs := [vi (i64.wrap (x.B - x.D)), vi (i64.wrap (x.A + x.C)), vi (i64.wrap (x.B + x.D)), vi (i64.wrap (x.C - x.A))]) (vs := [vi (i64.wrap (x.B - x.D)), vi (i64.wrap (x.A + x.C)), vi (i64.wrap (x.B + x.D)), vi (i64.wrap (x.C - x.A))]) rfl k_ag_42 k_sz_42_4 (hS3.cf (i := 1) rfl) rfl rfl) ⟨rfl, (ST.subR (R' := []) (hS3.sel [] rfl rfl) (fun _ h => by cases h))⟩

theorem c_spec_l1Even (x : TRing)  (w0 : World)  (hS : ST w0 [] w0 [] []) {r_ : Bool} (hF : F_spec_l1Even x = some r_) :
  CV Tryd.prog 61 #[.agg #[vi x.A, vi x.B, vi x.C, vi x.D]] w0 (fun v w' => v = .bool r_ ∧ ST w0 [] w' [] []) := by
 unfold F_spec_l1Even at hF
 refine cv_of_cw 19 Tryd.func61 rfl Tryd.ntmps61 rfl ?_
 refine cw_seq ?_
 refine cw_region ?_
 refine ss 1 rfl rfl (Ys_box (T := 42) (v := .agg #[vi x.A, vi x.B, vi x.C, vi x.D]) (cs := [vi x.A, vi x.B, vi x.C, vi x.D]) (m := 4) hS rfl rfl rfl rfl) ?_
 rintro _ w_ ⟨b, rfl, hS1⟩
 refine sq 2 rfl rfl (Y_assign (v := .bool false) rfl rfl) ?_
 refine rw_nil ?_
 refine cw_seq ?_
 refine cw_region ?_
 refine sq 3 rfl rfl (Y_fieldAddr (B := aD b) (i := 0) (s := 0) k_fd_42_0_0_3 k_sz_3_1 rfl rfl) ?_
 refine sq 4 rfl rfl (Y_load1 (B := aD b) (i := 0) (cs := [vi x.A, vi x.B, vi x.C, vi x.D]) (v := vi x.A) k_sc_3 rfl rfl (hS1.cf (i := 0) rfl) rfl) ?_
 refine sq 5 rfl rfl (Y_fieldAddr (B := aD b) (i := 0) (s := 0) k_fd_42_2_2_3 k_sz_3_1 rfl rfl) ?_
 refine sq 6 rfl rfl (Y_load1 (B := aD b) (i := 2) (cs := [vi x.A, vi x.B, vi x.C, vi x.D]) (v := vi x.C) k_sc_3 rfl rfl (hS1.cf (i := 0) rfl) rfl) ?_
 refine sq 7 rfl rfl (Y_add (k := .i64) (a := x.A) (b := x.C) rfl rfl rfl) ?_
 refine sq 8 rfl rfl (Y_rem (k := .i64) (a := (i64.wrap (x.A + x.C))) (b := 2) rfl rfl rfl (by decide)) ?_
 refine sq 9 rfl rfl (Y_eq (k := .i64) (a := (Int.tmod (i64.wrap (x.A + x.C)) 2)) (b := 0) rfl rfl rfl) ?_
 refine sq 10 rfl rfl (Y_move (v := .bool ((Int.tmod (i64.wrap (x.A + x.C)) 2) == 0)) rfl rfl) ?_
 refine sgq 11 (B := ((Int.tmod (i64.wrap (x.A + x.C)) 2) == 0)) (v := pt (aD b) 1) rfl rfl (wt_t (gd_of (t := 10) (by kernel_rfl) rfl)) (fun hg => (Y_fieldAddr (B := aD b) (i := 0) (s := 0) k_fd_42_1_1_3 k_sz_3_1 rfl rfl)) ?_
 refine sgq 12 (B := ((Int.tmod (i64.wrap (x.A + x.C)) 2) == 0)) (v := vi x.B) rfl rfl (wt_t (gd_of (t := 10) (by kernel_rfl) rfl)) (fun hg1 => (Y_load1 (B := aD b) (i := 1) (cs := [vi x.A, vi x.B, vi x.C, vi x.D]) (v := vi x.B) k_sc_3 rfl (gv_of (B := ((Int.tmod (i64.wrap (x.A + x.C)) 2) == 0)) (v := pt (aD b) 1) hg1) (hS1.cf (i := 0) rfl) rfl)) ?_
 refine sgq 13 (B := ((Int.tmod (i64.wrap (x.A + x.C)) 2) == 0)) (v := pt (aD b) 3) rfl rfl (wt_t (gd_of (t := 10) (by kernel_rfl) rfl)) (fun hg2 => (Y_fieldAddr (B := aD b) (i := 0) (s := 0) k_fd_42_3_3_3 k_sz_3_1 rfl rfl)) ?_
 refine sgq 14 (B := ((Int.tmod (i64.wrap (x.A + x.C)) 2) == 0)) (v := vi x.D) rfl rfl (wt_t (gd_of (t := 10) (by kernel_rfl) rfl)) (fun hg3 => (Y_load1 (B := aD b) (i := 3) (cs := [vi x.A, vi x.B, vi x.C, vi x.D]) (v := vi x.D) k_sc_3 rfl (gv_of (B := ((Int.tmod (i64.wrap (x.A + x.C)) 2) == 0)) (v := pt (aD b) 3) hg3) (hS1.cf (i := 0) rfl) rfl)) ?_
 refine sgq 15 (B := ((Int.tmod (i64.wrap (x.A + x.C)) 2) == 0)) (v := vi (i64.wrap (x.B + x.D))) rfl rfl (wt_t (gd_of (t := 10) (by kernel_rfl) rfl)) (fun hg4 => (Y_add (k := .i64) (a := x.B) (b := x.D) rfl (gv_of (B := ((Int.tmod (i64.wrap (x.A + x.C)) 2) == 0)) (v := vi x.B) hg4) (gv_of (B := ((Int.tmod (i64.wrap (x.A + x.C)) 2) == 0)) (v := vi x.D) hg4))) ?_
 refine sgq 16 (B := ((Int.tmod (i64.wrap (x.A + x.C)) 2) == 0)) (v := vi (Int.tmod (i64.wrap (x.B + x.D)) 2)) rfl rfl (wt_t (gd_of (t := 10) (by kernel_rfl) rfl)) (fun hg5 => (Y_rem (k := .i64) (a := (i64.wrap (x.B + x.D))) (b := 2) rfl (gv_of (B := ((Int.tmod (i64.wrap (x.A + x.C)) 2) == 0)) (v := vi (i64.wrap (x.B + x.D))) hg5) rfl (by decide))) ?_
 refine sgq 17 (B := ((Int.tmod (i64.wrap (x.A + x.C)) 2) == 0)) (v := .bool ((Int.tmod (i64.wrap (x.B + x.D)) 2) == 0)) rfl rfl (wt_t (gd_of (t := 10) (by kernel_rfl) rfl)) (fun hg6 => (Y_eq (k := .i64) (a := (Int.tmod (i64.wrap (x.B + x.D)) 2)) (b := 0) rfl (gv_of (B := ((Int.tmod (i64.wrap (x.A + x.C)) 2) == 0)) (v := vi (Int.tmod (i64.wrap (x.B + x.D)) 2)) hg6) rfl)) ?_
 refine sq 18 rfl rfl (Y_and (b := ((Int.tmod (i64.wrap (x.A + x.C)) 2) == 0)) (z := ((Int.tmod (i64.wrap (x.B + x.D)) 2) == 0)) rfl rfl rfl rfl) ?_
 refine sq 2 rfl rfl (Y_assign (v := .bool (((Int.tmod (i64.wrap (x.A + x.C)) 2) == 0) && ((Int.tmod (i64.wrap (x.B + x.D)) 2) == 0))) rfl rfl) ?_
 refine rw_nil ?_
 refine cw_ret ?_
 obtain rfl := some_inj hF
 exact ret1 Tryd.results61 (v1 := .bool (((Int.tmod (i64.wrap (x.A + x.C)) 2) == 0) && ((Int.tmod (i64.wrap (x.B + x.D)) 2) == 0))) (resAt_tmp rfl) ⟨rfl, (ST.subR (R' := []) (hS1.sel [] rfl rfl) (fun _ h => by cases h))⟩

theorem c_spec_l1Half (x : TRing)  (w0 : World)  (hS : ST w0 [] w0 [] []) {r_ : TRing} (hF : F_spec_l1Half x = some r_) :
  CV Tryd.prog 62 #[.agg #[vi x.A, vi x.B, vi x.C, vi x.D]] w0 (fun v w' => v = .agg #[vi r_.A, vi r_.B, vi r_.C, vi r_.D] ∧ ST w0 [] w' [] []) := by
 unfold F_spec_l1Half at hF
 refine cv_of_cw 19 Tryd.func62 rfl Tryd.ntmps62 rfl ?_
 refine cw_seq ?_
 refine cw_region ?_
 refine ss 1 rfl rfl (Ys_box (T := 42) (v := .agg #[vi x.A, vi x.B, vi x.C, vi x.D]) (cs := [vi x.A, vi x.B, vi x.C, vi x.D]) (m := 4) hS rfl rfl rfl rfl) ?_
 rintro _ w_ ⟨b, rfl, hS1⟩
 refine ss 2 rfl rfl (Ys_alloc (T := 42) (cs := [vi 0, vi 0, vi 0, vi 0]) (m := 4) hS1 k_zero_42 rfl rfl rfl) ?_
 rintro _ w_1 ⟨b1, rfl, hS2⟩
 have hS2 : ST w0 [] _ [⟨aD b, 42, [vi x.A, vi x.B, vi x.C, vi x.D], 4⟩, ⟨aD b1, 42, [vi 0, vi 0, vi 0, vi 0], 4⟩] [] := hS2
 refine rw_nil ?_
 refine cw_seq ?_
 refine cw_region ?_
 refine sq 4 rfl rfl (Y_loadA (B := aD b) (i := 0) (cs := [vi x.A, vi x.B, vi x.C, vi x.D]) (vs := [vi x.A, vi x.B, vi x.C, vi x.D]) k_ag_42 k_sz_42_4 rfl rfl (hS2.cf (i := 0) rfl) rfl rfl) ?_
 obtain ⟨r_1, hc, hF⟩ := bind_inv hF
 refine sc 5 rfl rfl (Yc_func (g := 34) (vs := [.agg #[vi x.A, vi x.B, vi x.C, vi x.D]]) k_call_34 rfl (mc rfl mn) (c_spec_l1Root x _  (hS2.inn0 [] rfl) hc)) ?_
 rintro _ w_2 ⟨rfl, hd⟩
 have hS3 := hS2.out00 hd
 have hS3 : ST w0 [] _ [⟨aD b, 42, [vi x.A, vi x.B, vi x.C, vi x.D], 4⟩, ⟨aD b1, 42, [vi 0, vi 0, vi 0, vi 0], 4⟩] [] := hS3
 refine ss 3 rfl rfl (Ys_alloc (T := 42) (cs := [vi 0, vi 0, vi 0, vi 0]) (m := 4) hS3 k_zero_42 rfl rfl rfl) ?_
 rintro _ w_3 ⟨b2, rfl, hS4⟩
 have hS4 : ST w0 [] _ [⟨aD b, 42, [vi x.A, vi x.B, vi x.C, vi x.D], 4⟩, ⟨aD b1, 42, [vi 0, vi 0, vi 0, vi 0], 4⟩, ⟨aD b2, 42, [vi 0, vi 0, vi 0, vi 0], 4⟩] [] := hS4
 refine ss0 rfl rfl (Ys_store (i := 2) (s := 4) (B := aD b2) (T' := 42) (v := .agg #[vi r_1.A, vi r_1.B, vi r_1.C, vi r_1.D]) (vs := [vi r_1.A, vi r_1.B, vi r_1.C, vi r_1.D]) (k := 0) (cs' := [vi r_1.A, vi r_1.B, vi r_1.C, vi r_1.D]) hS4 k_sz_42_4 rfl rfl rfl rfl rfl rfl rfl (Nat.le_of_ble_eq_true rfl) rfl rfl) ?_
 rintro _ w_4 ⟨rfl, hS5⟩
 have hS5 : ST w0 [] _ [⟨aD b, 42, [vi x.A, vi x.B, vi x.C, vi x.D], 4⟩, ⟨aD b1, 42, [vi 0, vi 0, vi 0, vi 0], 4⟩, ⟨aD b2, 42, [vi r_1.A, vi r_1.B, vi r_1.C, vi r_1.D], 4⟩] [] := hS5
 refine rw_nil ?_
 refine cw_seq ?_
 refine cw_region ?_
 refine sq 6 rfl rfl (Y_fieldAddr (B := aD b2) (i := 0) (s := 0) k_fd_42_0_0_3 k_sz_3_1 rfl rfl) ?_
 refine sq 7 rfl rfl (Y_load1 (B := aD b2) (i := 0) (cs := [vi r_1.A, vi r_1.B, vi r_1.C, vi r_1.D]) (v := vi r_1.A) k_sc_3 rfl rfl (hS5.cf (i := 2) rfl) rfl) ?_
 refine sq 8 rfl rfl (Y_quo (k := .i64) (a := r_1.A) (b := 2) rfl rfl rfl (by decide)) ?_
 refine sq 9 rfl rfl (Y_fieldAddr (B := aD b2) (i := 0) (s := 0) k_fd_42_1_1_3 k_sz_3_1 rfl rfl) ?_
 refine sq 10 rfl rfl (Y_load1 (B := aD b2) (i := 1) (cs := [vi r_1.A, vi r_1.B, vi r_1.C, vi r_1.D]) (v := vi r_1.B) k_sc_3 rfl rfl (hS5.cf (i := 2) rfl) rfl) ?_
 refine sq 11 rfl rfl (Y_quo (k := .i64) (a := r_1.B) (b := 2) rfl rfl rfl (by decide)) ?_
 refine sq 12 rfl rfl (Y_fieldAddr (B := aD b2) (i := 0) (s := 0) k_fd_42_2_2_3 k_sz_3_1 rfl rfl) ?_
 refine sq 13 rfl rfl (Y_load1 (B := aD b2) (i := 2) (cs := [vi r_1.A, vi r_1.B, vi r_1.C, vi r_1.D]) (v := vi r_1.C) k_sc_3 rfl rfl (hS5.cf (i := 2) rfl) rfl) ?_
 refine sq 14 rfl rfl (Y_quo (k := .i64) (a := r_1.C) (b := 2) rfl rfl rfl (by decide)) ?_
 refine sq 15 rfl rfl (Y_fieldAddr (B := aD b2) (i := 0) (s := 0) k_fd_42_3_3_3 k_sz_3_1 rfl rfl) ?_
 refine sq 16 rfl rfl (Y_load1 (B := aD b2) (i := 3) (cs := [vi r_1.A, vi r_1.B, vi r_1.C, vi r_1.D]) (v := vi r_1.D) k_sc_3 rfl rfl (hS5.cf (i := 2) rfl) rfl) ?_
 refine sq 17 rfl rfl (Y_quo (k := .i64) (a := r_1.D) (b := 2) rfl rfl rfl (by decide)) ?_
 refine sq 18 rfl rfl (Y_buildS (zs := [vi 0, vi 0, vi 0, vi 0]) (vs := [(0, vi (i64.wrap (Int.tdiv r_1.A 2))), (1, vi (i64.wrap (Int.tdiv r_1.B 2))), (2, vi (i64.wrap (Int.tdiv r_1.C 2))), (3, vi (i64.wrap (Int.tdiv r_1.D 2)))]) (cs := [vi (i64.wrap (Int.tdiv r_1.A 2)), vi (i64.wrap (Int.tdiv r_1.B 2)), vi (i64.wrap (Int.tdiv r_1.C 2)), vi (i64.wrap (Int.tdiv r_1.D 2))]) k_pl_42 k_zero_42 rfl (mpc rfl (mpc rfl (mpc rfl (mpc rfl mpn)))) rfl) ?_
 refine ss0 rfl rfl (Ys_store (i := 1) (s := 4) (B := aD b1) (T' := 42) (v := .agg #[vi (i64.wrap (Int.tdiv r_1.A 2)), vi (i64.wrap (Int.tdiv r_1.B 2)), vi (i64.wrap (Int.tdiv r_1.C 2)), vi (i64.wrap (Int.tdiv r_1.D 2))]) (vs := [vi (i64.wrap (Int.tdiv r_1.A 2)), vi (i64.wrap (Int.tdiv r_1.B 2)), vi (i64.wrap (Int.tdiv r_1.C 2)), vi (i64.wrap (Int.tdiv r_1.D 2))]) (k := 0) (cs' := [vi (i64.wrap (Int.tdiv r_1.A 2)), vi (i64.wrap (Int.tdiv r_1.B 2)), vi (i64.wrap (Int.tdiv r_1.C 2)), vi (i64.wrap (Int.tdiv r_1.D 2))]) hS5 k_sz_42_4 rfl rfl rfl rfl rfl rfl rfl (Nat.le_of_ble_eq_true rfl) rfl rfl) ?_
 rintro _ w_5 ⟨rfl, hS6⟩
 have hS6 : ST w0 [] _ [⟨aD b, 42, [vi x.A, vi x.B, vi x.C, vi x.D], 4⟩, ⟨aD b1, 42, [vi (i64.wrap (Int.tdiv r_1.A 2)), vi (i64.wrap (Int.tdiv r_1.B 2)), vi (i64.wrap (Int.tdiv r_1.C 2)), vi (i64.wrap (Int.tdiv r_1.D 2))], 4⟩, ⟨aD b2, 42, [vi r_1.A, vi r_1.B, vi r_1.C, vi r_1.D], 4⟩] [] := hS6
 refine rw_nil ?_
 refine cw_ret ?_
 obtain rfl := some_inj hF
 exact ret1 Tryd.results62 (v1 := .agg #[vi (i64.wrap (Int.tdiv r_1.A 2)), vi (i64.wrap (Int.tdiv r_1.B 2)), vi (i64.wrap (Int.tdiv r_1.C 2)), vi (i64.wrap (Int.tdiv r_1.D 2))]) (resAt_cellA (B := aD b1) (i := 0) (cs := [vi (i64.wrap (Int.tdiv r_1.A 2)), vi (i64.wrap (Int.tdiv r_1.B 2)), vi (i64.wrap (Int.tdiv r_1.C 2)), vi (i64.wrap (Int.tdiv r_1.D 2))]) (vs := [vi (i64.wrap (Int.tdiv r_1.A 2)), vi (i64.wrap (Int.tdiv r_1.B 2)), vi (i64.wrap (Int.tdiv r_1.C 2)), vi (i64.wrap (Int.tdiv r_1.D 2))]) rfl k_ag_42 k_sz_42_4 (hS6.cf (i := 1) rfl) rfl rfl) ⟨rfl, (ST.subR (R' := []) (hS6.sel [] rfl rfl) (fun _ h => by cases h))⟩

theorem c_spec_l2Low (num : TRing) (exp : Int)  (w0 : World)  (hS : ST w0 [] w0 [] []) {r_ : TDyadic} (hF : F_spec_l2Low num exp = some r_) :
  CV Tryd.prog 35 #[.agg #[vi num.A, vi num.B, vi num.C, vi num.D], vi exp] w0 (fun v w' => v = .agg #[vi r_.Num.A, vi r_.Num.B, vi r_.Num.C, vi r_.Num.D, vi r_.Exp] ∧ ST w0 [] w' [] []) := by
 unfold F_spec_l2Low at hF
 refine cv_of_cw 18 Tryd.func35 rfl Tryd.ntmps35 rfl ?_
 refine cw_seq ?_
 refine cw_region ?_
 refine ss 2 rfl rfl (Ys_box (T := 42) (v := .agg #[vi num.A, vi num.B, vi num.C, vi num.D]) (cs := [vi num.A, vi num.B, vi num.C, vi num.D]) (m := 4) hS rfl rfl rfl rfl) ?_
 rintro _ w_ ⟨b, rfl, hS1⟩
 refine ss 4 rfl rfl (Ys_alloc (T := 44) (cs := [vi 0, vi 0, vi 0, vi 0, vi 0]) (m := 5) hS1 k_zero_44 rfl rfl rfl) ?_
 rintro _ w_1 ⟨b1, rfl, hS2⟩
 have hS2 : ST w0 [] _ [⟨aD b, 42, [vi num.A, vi num.B, vi num.C, vi num.D], 4⟩, ⟨aD b1, 44, [vi 0, vi 0, vi 0, vi 0, vi 0], 5⟩] [] := hS2
 refine rw_nil ?_
 refine cw_seq ?_
 obtain ⟨z, hz, hF1⟩ := bind_inv hF
 refine cw_block ?_
 refine cw_loop (fun k f w => ∃ (exp1 : Int) (A : Int) (B : Int) (C : Int) (D : Int), FF f [(1, vi exp1), (2, pt (aD b) 0), (4, pt (aD b1) 0)] ∧ ST w0 [] w [⟨aD b, 42, [vi A, vi B, vi C, vi D], 4⟩, ⟨aD b1, 44, [vi 0, vi 0, vi 0, vi 0, vi 0], 5⟩] [] ∧ whX F_spec_l2Low_l1 k (exp1, A, B, C, D) = some z) fuel ⟨exp, num.A, num.B, num.C, num.D, (FF.cons rfl (FF.cons rfl (FF.cons rfl FF.nil))), (hS2.sel [0, 1] rfl rfl), hz⟩ ?_
 rintro k_ f w ⟨exp1, A, B, C, D, hf, hS3, hL⟩
 obtain ⟨k_1, y, rfl, hb, hL1⟩ := whX_go hL
 unfold F_spec_l2Low_l1 at hb
 refine cw_seq ?_
 refine cw_seq ?_
 refine cw_region ?_
 refine sq 5 rfl rfl (Y_move (v := vi exp1) rfl (hf.get 1 0 rfl)) ?_
 refine sq 6 rfl rfl (Y_gt (k := .i64) (a := exp1) (b := 0) rfl rfl rfl) ?_
 refine sq 7 rfl rfl (Y_move (v := .bool (decide (0 < exp1))) rfl rfl) ?_
 refine sgq 8 (B := (decide (0 < exp1))) (v := .agg #[vi A, vi B, vi C, vi D]) rfl rfl (wt_t (gd_of (t := 7) (by kernel_rfl) rfl)) (fun hg => (Y_loadA (B := aD b) (i := 0) (cs := [vi A, vi B, vi C, vi D]) (vs := [vi A, vi B, vi C, vi D]) k_ag_42 k_sz_42_4 rfl (hf.get 2 1 rfl) (hS3.cf (i := 0) rfl) rfl rfl)) ?_
 obtain ⟨r_1, hc, hb⟩ := bind_inv hb
 refine sgc 9 (B := (decide (0 < exp1))) (v := .bool r_1) (F := hS3.fn) rfl rfl (wt_t (gd_of (t := 7) (by kernel_rfl) rfl)) hS3 (fun hg1 => (Yc_func (g := 61) (vs := [.agg #[vi A, vi B, vi C, vi D]]) k_call_61 rfl (mc (gv_of (B := (decide (0 < exp1))) (v := .agg #[vi A, vi B, vi C, vi D]) hg1) mn) (CV.mono (c_spec_l1Even (TRing.mk A B C D) _  (hS3.inn0 [] rfl) (gb_inv hc hg1)) (by rintro _ _ ⟨rfl, h⟩; exact ⟨rfl, hS3.out00 h⟩)))) ?_
 rintro w_2 hS4
 have hS4 : ST _ _ w_2 _ _ := hS4
 refine sq 10 rfl rfl (Y_and (b := (decide (0 < exp1))) (z := r_1) rfl rfl rfl rfl) ?_
 refine rw_nil ?_
 refine cw_cond (b := ((decide (0 < exp1)) && r_1)) rfl (fun hb1 => ?_) (fun hb1 => ?_)
 ·skip
  have hF2 := ct hb hb1
  refine cw_skip ?_
  refine cw_block ?_
  refine cw_seq ?_
  refine cw_region ?_
  refine sq 11 rfl rfl (Y_loadA (B := aD b) (i := 0) (cs := [vi A, vi B, vi C, vi D]) (vs := [vi A, vi B, vi C, vi D]) k_ag_42 k_sz_42_4 rfl (hf.get 2 1 rfl) (hS4.cf (i := 0) rfl) rfl rfl) ?_
  obtain ⟨r_2, hc1, hF2⟩ := bind_inv hF2
  refine sc 12 rfl rfl (Yc_func (g := 62) (vs := [.agg #[vi A, vi B, vi C, vi D]]) k_call_62 rfl (mc rfl mn) (c_spec_l1Half (TRing.mk A B C D) _  (hS4.inn0 [] rfl) hc1)) ?_
  rintro _ w_3 ⟨rfl, hd⟩
  have hS5 := hS4.out00 hd
  have hS5 : ST w0 [] _ [⟨aD b, 42, [vi A, vi B, vi C, vi D], 4⟩, ⟨aD b1, 44, [vi 0, vi 0, vi 0, vi 0, vi 0], 5⟩] [] := hS5
  refine ss0 rfl rfl (Ys_store (i := 0) (s := 4) (B := aD b) (T' := 42) (v := .agg #[vi r_2.A, vi r_2.B, vi r_2.C, vi r_2.D]) (vs := [vi r_2.A, vi r_2.B, vi r_2.C, vi r_2.D]) (k := 0) (cs' := [vi r_2.A, vi r_2.B, vi r_2.C, vi r_2.D]) hS5 k_sz_42_4 rfl (hf.get 2 1 rfl) rfl rfl rfl rfl rfl (Nat.le_of_ble_eq_true rfl) rfl rfl) ?_
  rintro _ w_4 ⟨rfl, hS6⟩
  have hS6 : ST w0 [] _ [⟨aD b, 42, [vi r_2.A, vi r_2.B, vi r_2.C, vi r_2.D], 4⟩, ⟨aD b1, 44, [vi 0, vi 0, vi 0, vi 0, vi 0], 5⟩] [] := hS6
  refine rw_nil ?_
  refine cw_region ?_
  refine sq 13 rfl rfl (Y_move (v := vi exp1) rfl (hf.get 1 0 rfl)) ?_
  refine sq 14 rfl rfl (Y_sub (k := .i64) (a := exp1) (b := 1) rfl rfl rfl) ?_
  refine sq 1 rfl rfl (Y_assign (v := vi (i64.wrap (exp1 - 1))) rfl rfl) ?_
  refine rw_nil ?_
  obtain rfl := some_inj hF2
  exact ⟨k_1, Nat.lt_succ_self _, (i64.wrap (exp1 - 1)), r_2.A, r_2.B, r_2.C, r_2.D, (FF.cons rfl (FF.cons (hf.get 2 1 rfl) (FF.cons (hf.get 4 2 rfl) FF.nil))), (hS6.sel [0, 1] rfl rfl), hL1⟩
 ·skip
  have hF3 := cf' hb hb1
  refine cw_exit rfl ?_
  obtain rfl := some_inj hF3
  obtain rfl := some_inj hL1
  refine cw_seq ?_
  refine cw_region ?_
  refine sq 15 rfl rfl (Y_loadA (B := aD b) (i := 0) (cs := [vi A, vi B, vi C, vi D]) (vs := [vi A, vi B, vi C, vi D]) k_ag_42 k_sz_42_4 rfl (hf.get 2 1 rfl) (hS4.cf (i := 0) rfl) rfl rfl) ?_
  refine sq 16 rfl rfl (Y_move (v := vi exp1) rfl (hf.get 1 0 rfl)) ?_
  refine sq 17 rfl rfl (Y_buildS (zs := [vi 0, vi 0, vi 0, vi 0, vi 0]) (vs := [(0, .agg #[vi A, vi B, vi C, vi D]), (1, vi exp1)]) (cs := [vi A, vi B, vi C, vi D, vi exp1]) k_pl_44 k_zero_44 rfl (mpc rfl (mpc rfl mpn)) rfl) ?_
  refine ss0 rfl rfl (Ys_store (i := 1) (s := 5) (B := aD b1) (T' := 44) (v := .agg #[vi A, vi B, vi C, vi D, vi exp1]) (vs := [vi A, vi B, vi C, vi D, vi exp1]) (k := 0) (cs' := [vi A, vi B, vi C, vi D, vi exp1]) hS4 k_sz_44_5 rfl (hf.get 4 2 rfl) rfl rfl rfl rfl rfl (Nat.le_of_ble_eq_true rfl) rfl rfl) ?_
  rintro _ w_5 ⟨rfl, hS7⟩
  have hS7 : ST w0 [] _ [⟨aD b, 42, [vi A, vi B, vi C, vi D], 4⟩, ⟨aD b1, 44, [vi A, vi B, vi C, vi D, vi exp1], 5⟩] [] := hS7
  refine rw_nil ?_
  refine cw_ret ?_
  obtain rfl := some_inj hF1
  exact ret1 Tryd.results35 (v1 := .agg #[vi A, vi B, vi C, vi D, vi exp1]) (resAt_cellA (B := aD b1) (i := 0) (cs := [vi A, vi B, vi C, vi D, vi exp1]) (vs := [vi A, vi B, vi C, vi D, vi exp1]) (hf.get 4 2 rfl) k_ag_44 k_sz_44_5 (hS7.cf (i := 1) rfl) rfl rfl) ⟨rfl, (ST.subR (R' := []) (hS7.sel [] rfl rfl) (fun _ h => by cases h))⟩

theorem c_spec_l1Add (x : TRing) (y : TRing)  (w0 : World)  (hS : ST w0 [] w0 [] []) {r_ : TRing} (hF : F_spec_l1Add x y = some r_) :
  CV Tryd.prog 36 #[.agg #[vi x.A, vi x.B, vi x.C, vi x.D], .agg #[vi y.A, vi y.B, vi y.C, vi y.D]] w0 (fun v w' => v = .agg #[vi r_.A, vi r_.B, vi r_.C, vi r_.D] ∧ ST w0 [] w' [] []) := by
 unfold F_spec_l1Add at hF
 refine cv_of_cw 26 Tryd.func36 rfl Tryd.ntmps36 rfl ?_
 refine cw_seq ?_
 refine cw_region ?_
 refine ss 2 rfl rfl (Ys_box (T := 42) (v := .agg #[vi x.A, vi x.B, vi x.C, vi x.D]) (cs := [vi x.A, vi x.B, vi x.C, vi x.D]) (m := 4) hS rfl rfl rfl rfl) ?_
 rintro _ w_ ⟨b, rfl, hS1⟩
 refine ss 3 rfl rfl (Ys_box (T := 42) (v := .agg #[vi y.A, vi y.B, vi y.C, vi y.D]) (cs := [vi y.A, vi y.B, vi y.C, vi y.D]) (m := 4) hS1 rfl rfl rfl rfl) ?_
 rintro _ w_1 ⟨b1, rfl, hS2⟩
 have hS2 : ST w0 [] _ [⟨aD b, 42, [vi x.A, vi x.B, vi x.C, vi x.D], 4⟩, ⟨aD b1, 42, [vi y.A, vi y.B, vi y.C, vi y.D], 4⟩] [] := hS2
 refine ss 4 rfl rfl (Ys_alloc (T := 42) (cs := [vi 0, vi 0, vi 0, vi 0]) (m := 4) hS2 k_zero_42 rfl rfl rfl) ?_
 rintro _ w_2 ⟨b2, rfl, hS3⟩
 have hS3 : ST w0 [] _ [⟨aD b, 42, [vi x.A, vi x.B, vi x.C, vi x.D], 4⟩, ⟨aD b1, 42, [vi y.A, vi y.B, vi y.C, vi y.D], 4⟩, ⟨aD b2, 42, [vi 0, vi 0, vi 0, vi 0], 4⟩] [] := hS3
 refine rw_nil ?_
 refine cw_seq ?_
 refine cw_region ?_
 refine sq 5 rfl rfl (Y_fieldAddr (B := aD b) (i := 0) (s := 0) k_fd_42_0_0_3 k_sz_3_1 rfl rfl) ?_
 refine sq 6 rfl rfl (Y_load1 (B := aD b) (i := 0) (cs := [vi x.A, vi x.B, vi x.C, vi x.D]) (v := vi x.A) k_sc_3 rfl rfl (hS3.cf (i := 0) rfl) rfl) ?_
 refine sq 7 rfl rfl (Y_fieldAddr (B := aD b1) (i := 0) (s := 0) k_fd_42_0_0_3 k_sz_3_1 rfl rfl) ?_
 refine sq 8 rfl rfl (Y_load1 (B := aD b1) (i := 0) (cs := [vi y.A, vi y.B, vi y.C, vi y.D]) (v := vi y.A) k_sc_3 rfl rfl (hS3.cf (i := 1) rfl) rfl) ?_
 refine sq 9 rfl rfl (Y_add (k := .i64) (a := x.A) (b := y.A) rfl rfl rfl) ?_
 refine sq 10 rfl rfl (Y_fieldAddr (B := aD b) (i := 0) (s := 0) k_fd_42_1_1_3 k_sz_3_1 rfl rfl) ?_
 refine sq 11 rfl rfl (Y_load1 (B := aD b) (i := 1) (cs := [vi x.A, vi x.B, vi x.C, vi x.D]) (v := vi x.B) k_sc_3 rfl rfl (hS3.cf (i := 0) rfl) rfl) ?_
 refine sq 12 rfl rfl (Y_fieldAddr (B := aD b1) (i := 0) (s := 0) k_fd_42_1_1_3 k_sz_3_1 rfl rfl) ?_
 refine sq 13 rfl rfl (Y_load1 (B := aD b1) (i := 1) (cs := [vi y.A, vi y.B, vi y.C, vi y.D]) (v := vi y.B) k_sc_3 rfl rfl (hS3.cf (i := 1) rfl) rfl) ?_
 refine sq 14 rfl rfl (Y_add (k := .i64) (a := x.B) (b := y.B) rfl rfl rfl) ?_
 refine sq 15 rfl rfl (Y_fieldAddr (B := aD b) (i := 0) (s := 0) k_fd_42_2_2_3 k_sz_3_1 rfl rfl) ?_
 refine sq 16 rfl rfl (Y_load1 (B := aD b) (i := 2) (cs := [vi x.A, vi x.B, vi x.C, vi x.D]) (v := vi x.C) k_sc_3 rfl rfl (hS3.cf (i := 0) rfl) rfl) ?_
 refine sq 17 rfl rfl (Y_fieldAddr (B := aD b1) (i := 0) (s := 0) k_fd_42_2_2_3 k_sz_3_1 rfl rfl) ?_
 refine sq 18 rfl rfl (Y_load1 (B := aD b1) (i := 2) (cs := [vi y.A, vi y.B, vi y.C, vi y.D]) (v := vi y.C) k_sc_3 rfl rfl (hS3.cf (i := 1) rfl) rfl) ?_
 refine sq 19 rfl rfl (Y_add (k := .i64) (a := x.C) (b := y.C) rfl rfl rfl) ?_
 refine sq 20 rfl rfl (Y_fieldAddr (B := aD b) (i := 0) (s := 0) k_fd_42_3_3_3 k_sz_3_1 rfl rfl) ?_
 refine sq 21 rfl rfl (Y_load1 (B := aD b) (i := 3) (cs := [vi x.A, vi x.B, vi x.C, vi x.D]) (v := vi x.D) k_sc_3 rfl rfl (hS3.cf (i := 0) rfl) rfl) ?_
 refine sq 22 rfl rfl (Y_fieldAddr (B := aD b1) (i := 0) (s := 0) k_fd_42_3_3_3 k_sz_3_1 rfl rfl) ?_
 refine sq 23 rfl rfl (Y_load1 (B := aD b1) (i := 3) (cs := [vi y.A, vi y.B, vi y.C, vi y.D]) (v := vi y.D) k_sc_3 rfl rfl (hS3.cf (i := 1) rfl) rfl) ?_
 refine sq 24 rfl rfl (Y_add (k := .i64) (a := x.D) (b := y.D) rfl rfl rfl) ?_
 refine sq 25 rfl rfl (Y_buildS (zs := [vi 0, vi 0, vi 0, vi 0]) (vs := [(0, vi (i64.wrap (x.A + y.A))), (1, vi (i64.wrap (x.B + y.B))), (2, vi (i64.wrap (x.C + y.C))), (3, vi (i64.wrap (x.D + y.D)))]) (cs := [vi (i64.wrap (x.A + y.A)), vi (i64.wrap (x.B + y.B)), vi (i64.wrap (x.C + y.C)), vi (i64.wrap (x.D + y.D))]) k_pl_42 k_zero_42 rfl (mpc rfl (mpc rfl (mpc rfl (mpc rfl mpn)))) rfl) ?_
 refine ss0 rfl rfl (Ys_store (i := 2) (s := 4) (B := aD b2) (T' := 42) (v := .agg #[vi (i64.wrap (x.A + y.A)), vi (i64.wrap (x.B + y.B)), vi (i64.wrap (x.C + y.C)), vi (i64.wrap (x.D + y.D))]) (vs := [vi (i64.wrap (x.A + y.A)), vi (i64.wrap (x.B + y.B)), vi (i64.wrap (x.C + y.C)), vi (i64.wrap (x.D + y.D))]) (k := 0) (cs' := [vi (i64.wrap (x.A + y.A)), vi (i64.wrap (x.B + y.B)), vi (i64.wrap (x.C + y.C)), vi (i64.wrap (x.D + y.D))]) hS3 k_sz_42_4 rfl rfl rfl rfl rfl rfl rfl (Nat.le_of_ble_eq_true rfl) rfl rfl) ?_
 rintro _ w_3 ⟨rfl, hS4⟩
 have hS4 : ST w0 [] _ [⟨aD b, 42, [vi x.A, vi x.B, vi x.C, vi x.D], 4⟩, ⟨aD b1, 42, [vi y.A, vi y.B, vi y.C, vi y.D], 4⟩, ⟨aD b2, 42, [vi (i64.wrap (x.A + y.A)), vi (i64.wrap (x.B + y.B)), vi (i64.wrap (x.C + y.C)), vi (i64.wrap (x.D + y.D))], 4⟩] [] := hS4
 refine rw_nil ?_
 refine cw_ret ?_
 obtain rfl := some_inj hF
 exact ret1 Tryd.results36 (v1 := .agg #[vi (i64.wrap (x.A + y.A)), vi (i64.wrap (x.B + y.B)), vi (i64.wrap (x.C + y.C)), vi (i64.wrap (x.D + y.D))]) (resAt_cellA (B := aD b2) (i := 0) (cs := [vi (i64.wrap (x.A + y.A)), vi (i64.wrap (x.B + y.B)), vi (i64.wrap (x.C + y.C)), vi (i64.wrap (x.D + y.D))]) (vs := [vi (i64.wrap (x.A + y.A)), vi (i64.wrap (x.B + y.B)), vi (i64.wrap (x.C + y.C)), vi (i64.wrap (x.D + y.D))]) rfl k_ag_42 k_sz_42_4 (hS4.cf (i := 2) rfl) rfl rfl) ⟨rfl, (ST.subR (R' := []) (hS4.sel [] rfl rfl) (fun _ h => by cases h))⟩

theorem c_spec_l2C_add (c : Tl2C) (x : TDyadic) (y : TDyadic) (B : Option Addr) (w0 : World)  (hS : ST w0 (bl [⟨B, 55, [.bool c.bad], 1⟩]) w0 [⟨B, 55, [.bool c.bad], 1⟩] []) {r_ : TDyadic} {m : Tl2C} (hF : F_spec_l2C_add c x y = some (r_, m)) :
  CV Tryd.prog 23 #[pt B 0, .agg #[vi x.Num.A, vi x.Num.B, vi x.Num.C, vi x.Num.D, vi x.Exp], .agg #[vi y.Num.A, vi y.Num.B, vi y.Num.C, vi y.Num.D, vi y.Exp]] w0 (fun v w' => v = .agg #[vi r_.Num.A, vi r_.Num.B, vi r_.Num.C, vi r_.Num.D, vi r_.Exp] ∧ ST w0 (bl [⟨B, 55, [.bool c.bad], 1⟩]) w' [⟨B, 55, [.bool m.bad], 1⟩] []) := by
 unfold F_spec_l2C_add at hF
 refine cv_of_cw 45 Tryd.func23 rfl Tryd.ntmps23 rfl ?_
 refine cw_seq ?_
 refine cw_region ?_
 refine ss 4 rfl rfl (Ys_box (T := 44) (v := .agg #[vi x.Num.A, vi x.Num.B, vi x.Num.C, vi x.Num.D, vi x.Exp]) (cs := [vi x.Num.A, vi x.Num.B, vi x.Num.C, vi x.Num.D, vi x.Exp]) (m := 5) hS rfl rfl rfl rfl) ?_
 rintro _ w_ ⟨b, rfl, hS1⟩
 have hS1 : ST w0 (bl [⟨B, 55, [.bool c.bad], 1⟩]) _ [⟨B, 55, [.bool c.bad], 1⟩, ⟨aD b, 44, [vi x.Num.A, vi x.Num.B, vi x.Num.C, vi x.Num.D, vi x.Exp], 5⟩] [] := hS1
 refine ss 5 rfl rfl (Ys_box (T := 44) (v := .agg #[vi y.Num.A, vi y.Num.B, vi y.Num.C, vi y.Num.D, vi y.Exp]) (cs := [vi y.Num.A, vi y.Num.B, vi y.Num.C, vi y.Num.D, vi y.Exp]) (m := 5) hS1 rfl rfl rfl rfl) ?_
 rintro _ w_1 ⟨b1, rfl, hS2⟩
 have hS2 : ST w0 (bl [⟨B, 55, [.bool c.bad], 1⟩]) _ [⟨B, 55, [.bool c.bad], 1⟩, ⟨aD b, 44, [vi x.Num.A, vi x.Num.B, vi x.Num.C, vi x.Num.D, vi x.Exp], 5⟩, ⟨aD b1, 44, [vi y.Num.A, vi y.Num.B, vi y.Num.C, vi y.Num.D, vi y.Exp], 5⟩] [] := hS2
 refine ss 6 rfl rfl (Ys_alloc (T := 44) (cs := [vi 0, vi 0, vi 0, vi 0, vi 0]) (m := 5) hS2 k_zero_44 rfl rfl rfl) ?_
 rintro _ w_2 ⟨b2, rfl, hS3⟩
 have hS3 : ST w0 (bl [⟨B, 55, [.bool c.bad], 1⟩]) _ [⟨B, 55, [.bool c.bad], 1⟩, ⟨aD b, 44, [vi x.Num.A, vi x.Num.B, vi x.Num.C, vi x.Num.D, vi x.Exp], 5⟩, ⟨aD b1, 44, [vi y.Num.A, vi y.Num.B, vi y.Num.C, vi y.Num.D, vi y.Exp], 5⟩, ⟨aD b2, 44, [vi 0, vi 0, vi 0, vi 0, vi 0], 5⟩] [] := hS3
 refine rw_nil ?_
 refine cw_seq ?_
 obtain ⟨z, hz, hF1⟩ := bind_inv hF
 refine cw_block ?_
 refine cw_loop (fun k f w => ∃ (bad : Bool) (A : Int) (B1 : Int) (C : Int) (D : Int) (Exp : Int), FF f [(0, pt B 0), (4, pt (aD b) 0), (5, pt (aD b1) 0), (6, pt (aD b2) 0)] ∧ ST w0 (bl [⟨B, 55, [.bool c.bad], 1⟩]) w [⟨B, 55, [.bool bad], 1⟩, ⟨aD b, 44, [vi A, vi B1, vi C, vi D, vi Exp], 5⟩, ⟨aD b1, 44, [vi y.Num.A, vi y.Num.B, vi y.Num.C, vi y.Num.D, vi y.Exp], 5⟩, ⟨aD b2, 44, [vi 0, vi 0, vi 0, vi 0, vi 0], 5⟩] [] ∧ whX (F_spec_l2C_add_l1 y) k (bad, A, B1, C, D, Exp) = some z) fuel ⟨c.bad, x.Num.A, x.Num.B, x.Num.C, x.Num.D, x.Exp, (FF.cons rfl (FF.cons rfl (FF.cons rfl (FF.cons rfl FF.nil)))), (hS3.sel [0, 1, 2, 3] rfl rfl), hz⟩ ?_
 rintro k_ f w ⟨bad, A, B1, C, D, Exp, hf, hS4, hL⟩
 obtain ⟨k_1, y1, rfl, hb, hL1⟩ := whX_go hL
 unfold F_spec_l2C_add_l1 at hb
 refine cw_seq ?_
 refine cw_seq ?_
 refine cw_region ?_
 refine sq 7 rfl rfl (Y_fieldAddr (B := aD b) (i := 0) (s := 0) k_fd_44_1_4_3 k_sz_3_1 rfl (hf.get 4 1 rfl)) ?_
 refine sq 8 rfl rfl (Y_load1 (B := aD b) (i := 4) (cs := [vi A, vi B1, vi C, vi D, vi Exp]) (v := vi Exp) k_sc_3 rfl rfl (hS4.cf (i := 1) rfl) rfl) ?_
 refine sq 9 rfl rfl (Y_fieldAddr (B := aD b1) (i := 0) (s := 0) k_fd_44_1_4_3 k_sz_3_1 rfl (hf.get 5 2 rfl)) ?_
 refine sq 10 rfl rfl (Y_load1 (B := aD b1) (i := 4) (cs := [vi y.Num.A, vi y.Num.B, vi y.Num.C, vi y.Num.D, vi y.Exp]) (v := vi y.Exp) k_sc_3 rfl rfl (hS4.cf (i := 2) rfl) rfl) ?_
 refine sq 11 rfl rfl (Y_lt (k := .i64) (a := Exp) (b := y.Exp) rfl rfl rfl) ?_
 refine rw_nil ?_
 refine cw_cond (b := (decide (Exp < y.Exp))) rfl (fun hb1 => ?_) (fun hb1 => ?_)
 ·skip
  have hF2 := ct hb hb1
  refine cw_skip ?_
  refine cw_block ?_
  obtain ⟨r_1, hc, hF2⟩ := bind_inv hF2
  obtain ⟨⟨r_2, m1⟩, hc1, hF2⟩ := bind_inv hF2
  refine cw_mid (fun f w => FF f [(0, pt B 0), (4, pt (aD b) 0), (5, pt (aD b1) 0), (6, pt (aD b2) 0)] ∧ ST w0 (bl [⟨B, 55, [.bool c.bad], 1⟩]) w [⟨B, 55, [.bool m1.bad], 1⟩, ⟨aD b, 44, [vi r_2.A, vi r_2.B, vi r_2.C, vi r_2.D, vi (i64.wrap (Exp + 1))], 5⟩, ⟨aD b1, 44, [vi y.Num.A, vi y.Num.B, vi y.Num.C, vi y.Num.D, vi y.Exp], 5⟩, ⟨aD b2, 44, [vi 0, vi 0, vi 0, vi 0, vi 0], 5⟩] []) ?_ ?_
  ·skip
   refine ra_start (ST.sel hS4 [2, 3] rfl rfl).fn (by kernel_rfl) ?_
   have hS8 := hS4.drew
   refine ra_q 0 12 (v := pt B 0) rfl rfl rfl (by kernel_rfl) (by kernel_rfl) (by kernel_rfl) (ST.sel hS8 [2, 3] rfl rfl) (fun w' hw' => (Y_move (v := pt B 0) rfl (hf.get 0 0 rfl))) ?_
   refine ra_q 1 13 (v := pt (aD b) 0) rfl rfl rfl (by kernel_rfl) (by kernel_rfl) (by kernel_rfl) (ST.sel hS8 [2, 3] rfl rfl) (fun w' hw' => (Y_fieldAddr (B := aD b) (i := 0) (s := 3) k_fd_44_0_0_42 k_sz_42_4 rfl (hf.get 4 1 rfl))) ?_
   refine ra_q 5 17 (v := pt (aD b) 4) rfl rfl rfl (by kernel_rfl) (by kernel_rfl) (by kernel_rfl) (ST.sel hS8 [2, 3] rfl rfl) (fun w' hw' => (Y_fieldAddr (B := aD b) (i := 0) (s := 0) k_fd_44_1_4_3 k_sz_3_1 rfl (hf.get 4 1 rfl))) ?_
   refine ra_all (rs := [2, 6]) (by kernel_rfl) rfl ?_
   refine ra_y 14 (i := 2) (v := .agg #[vi A, vi B1, vi C, vi D]) rfl rfl rfl (Y_loadA (B := aD b) (i := 0) (cs := [vi A, vi B1, vi C, vi D, vi Exp]) (vs := [vi A, vi B1, vi C, vi D]) k_ag_42 k_sz_42_4 rfl rfl (hS8.cf (i := 1) rfl) rfl rfl) (ST.sel hS8 [2, 3] rfl rfl) ?_ ?_
   ·skip
    refine ra_all (rs := [3, 6]) (by kernel_rfl) rfl ?_
    refine ra_c 15 (i := 3) rfl rfl rfl (Yc_func (g := 34) (vs := [.agg #[vi A, vi B1, vi C, vi D]]) k_call_34 rfl (mc rfl mn) (c_spec_l1Root (TRing.mk A B1 C D) _  (hS8.inn0 [] rfl) hc)) ?_ ?_
    ·rintro _ w_3 ⟨rfl, hd⟩
     have hS9 := hS8.out00 hd
     have hS9 : ST w0 (bl [⟨B, 55, [.bool c.bad], 1⟩]) _ [⟨B, 55, [.bool bad], 1⟩, ⟨aD b, 44, [vi A, vi B1, vi C, vi D, vi Exp], 5⟩, ⟨aD b1, 44, [vi y.Num.A, vi y.Num.B, vi y.Num.C, vi y.Num.D, vi y.Exp], 5⟩, ⟨aD b2, 44, [vi 0, vi 0, vi 0, vi 0, vi 0], 5⟩] [] := hS9
     refine ⟨(ST.sel hS9 [2, 3] rfl rfl), ?_⟩
     refine ra_all (rs := [4, 6]) (by kernel_rfl) rfl ?_
     refine ra_c 16 (i := 4) rfl rfl rfl (Yc_func (g := 33) (vs := [pt B 0, .agg #[vi r_1.A, vi r_1.B, vi r_1.C, vi r_1.D]]) k_call_33 rfl (mc rfl (mc rfl mn)) (c_spec_l2C_ring (Tl2C.mk bad) r_1 B _  (hS9.inn [true, false, false, false] rfl [] rfl) hc1)) ?_ ?_
     ·rintro _ w_4 ⟨rfl, hd1⟩
      have hS10 := hS9.out [true, false, false, false] rfl hd1
      have hS10 : ST w0 (bl [⟨B, 55, [.bool c.bad], 1⟩]) _ [⟨aD b, 44, [vi A, vi B1, vi C, vi D, vi Exp], 5⟩, ⟨aD b1, 44, [vi y.Num.A, vi y.Num.B, vi y.Num.C, vi y.Num.D, vi y.Exp], 5⟩, ⟨aD b2, 44, [vi 0, vi 0, vi 0, vi 0, vi 0], 5⟩, ⟨B, 55, [.bool m1.bad], 1⟩] [] := hS10
      refine ⟨(ST.sel hS10 [1, 2] rfl rfl), ?_⟩
      refine ra_all (rs := [6]) (by kernel_rfl) rfl ?_
      refine ra_y 18 (i := 6) (v := vi Exp) rfl rfl rfl (Y_load1 (B := aD b) (i := 4) (cs := [vi A, vi B1, vi C, vi D, vi Exp]) (v := vi Exp) k_sc_3 rfl rfl (hS10.cf (i := 0) rfl) rfl) (ST.sel hS10 [1, 2] rfl rfl) ?_ ?_
      ·skip
       refine ra_q 7 19 (v := vi (i64.wrap (Exp + 1))) rfl rfl rfl (by kernel_rfl) (by kernel_rfl) (by kernel_rfl) (ST.sel hS10 [1, 2] rfl rfl) (fun w' hw' => (Y_add (k := .i64) (a := Exp) (b := 1) rfl rfl rfl)) ?_
       refine ra_q 8 20 (v := .agg #[vi r_2.A, vi r_2.B, vi r_2.C, vi r_2.D, vi (i64.wrap (Exp + 1))]) rfl rfl rfl (by kernel_rfl) (by kernel_rfl) (by kernel_rfl) (ST.sel hS10 [1, 2] rfl rfl) (fun w' hw' => (Y_buildS (zs := [vi 0, vi 0, vi 0, vi 0, vi 0]) (vs := [(0, .agg #[vi r_2.A, vi r_2.B, vi r_2.C, vi r_2.D]), (1, vi (i64.wrap (Exp + 1)))]) (cs := [vi r_2.A, vi r_2.B, vi r_2.C, vi r_2.D, vi (i64.wrap (Exp + 1))]) k_pl_44 k_zero_44 rfl (mpc rfl (mpc rfl mpn)) rfl)) ?_
       refine ra_all (rs := [9]) (by kernel_rfl) rfl ?_
       refine ra_s0 (i := 9) rfl rfl rfl (Ys_store (i := 0) (s := 5) (B := aD b) (T' := 44) (v := .agg #[vi r_2.A, vi r_2.B, vi r_2.C, vi r_2.D, vi (i64.wrap (Exp + 1))]) (vs := [vi r_2.A, vi r_2.B, vi r_2.C, vi r_2.D, vi (i64.wrap (Exp + 1))]) (k := 0) (cs' := [vi r_2.A, vi r_2.B, vi r_2.C, vi r_2.D, vi (i64.wrap (Exp + 1))]) hS10 k_sz_44_5 rfl (hf.get 4 1 rfl) rfl rfl rfl rfl rfl (Nat.le_of_ble_eq_true rfl) rfl rfl) ?_ ?_
       ·rintro _ w_5 ⟨rfl, hS11⟩
        have hS11 : ST w0 (bl [⟨B, 55, [.bool c.bad], 1⟩]) _ [⟨aD b, 44, [vi r_2.A, vi r_2.B, vi r_2.C, vi r_2.D, vi (i64.wrap (Exp + 1))], 5⟩, ⟨aD b1, 44, [vi y.Num.A, vi y.Num.B, vi y.Num.C, vi y.Num.D, vi y.Exp], 5⟩, ⟨aD b2, 44, [vi 0, vi 0, vi 0, vi 0, vi 0], 5⟩, ⟨B, 55, [.bool m1.bad], 1⟩] [] := hS11
        refine ⟨(ST.sel hS11 [1, 2] rfl rfl), ?_⟩
        refine ra_done (by kernel_rfl) ?_
        exact ⟨(FF.cons (hf.get 0 0 rfl) (FF.cons (hf.get 4 1 rfl) (FF.cons (hf.get 5 2 rfl) (FF.cons (hf.get 6 3 rfl) FF.nil)))), (hS11.sel [3, 0, 1, 2] rfl rfl)⟩
       exact allR_nil
      exact allR_nil
     refine ra_y 18 (i := 6) (v := vi Exp) rfl rfl rfl (Y_load1 (B := aD b) (i := 4) (cs := [vi A, vi B1, vi C, vi D, vi Exp]) (v := vi Exp) k_sc_3 rfl rfl (hS9.cf (i := 1) rfl) rfl) (ST.sel hS9 [2, 3] rfl rfl) ?_ ?_
     ·skip
      refine ra_q 7 19 (v := vi (i64.wrap (Exp + 1))) rfl rfl rfl (by kernel_rfl) (by kernel_rfl) (by kernel_rfl) (ST.sel hS9 [2, 3] rfl rfl) (fun w' hw' => (Y_add (k := .i64) (a := Exp) (b := 1) rfl rfl rfl)) ?_
      refine ra_all (rs := [4]) (by kernel_rfl) rfl ?_
      refine ra_c 16 (i := 4) rfl rfl rfl (Yc_func (g := 33) (vs := [pt B 0, .agg #[vi r_1.A, vi r_1.B, vi r_1.C, vi r_1.D]]) k_call_33 rfl (mc rfl (mc rfl mn)) (c_spec_l2C_ring (Tl2C.mk bad) r_1 B _  (hS9.inn [true, false, false, false] rfl [] rfl) hc1)) ?_ ?_
      ·rintro _ w_6 ⟨rfl, hd2⟩
       have hS12 := hS9.out [true, false, false, false] rfl hd2
       have hS12 : ST w0 (bl [⟨B, 55, [.bool c.bad], 1⟩]) _ [⟨aD b, 44, [vi A, vi B1, vi C, vi D, vi Exp], 5⟩, ⟨aD b1, 44, [vi y.Num.A, vi y.Num.B, vi y.Num.C, vi y.Num.D, vi y.Exp], 5⟩, ⟨aD b2, 44, [vi 0, vi 0, vi 0, vi 0, vi 0], 5⟩, ⟨B, 55, [.bool m1.bad], 1⟩] [] := hS12
       refine ⟨(ST.sel hS12 [1, 2] rfl rfl), ?_⟩
       refine ra_q 8 20 (v := .agg #[vi r_2.A, vi r_2.B, vi r_2.C, vi r_2.D, vi (i64.wrap (Exp + 1))]) rfl rfl rfl (by kernel_rfl) (by kernel_rfl) (by kernel_rfl) (ST.sel hS12 [1, 2] rfl rfl) (fun w' hw' => (Y_buildS (zs := [vi 0, vi 0, vi 0, vi 0, vi 0]) (vs := [(0, .agg #[vi r_2.A, vi r_2.B, vi r_2.C, vi r_2.D]), (1, vi (i64.wrap (Exp + 1)))]) (cs := [vi r_2.A, vi r_2.B, vi r_2.C, vi r_2.D, vi (i64.wrap (Exp + 1))]) k_pl_44 k_zero_44 rfl (mpc rfl (mpc rfl mpn)) rfl)) ?_
       refine ra_all (rs := [9]) (by kernel_rfl) rfl ?_
       refine ra_s0 (i := 9) rfl rfl rfl (Ys_store (i := 0) (s := 5) (B := aD b) (T' := 44) (v := .agg #[vi r_2.A, vi r_2.B, vi r_2.C, vi r_2.D, vi (i64.wrap (Exp + 1))]) (vs := [vi r_2.A, vi r_2.B, vi r_2.C, vi r_2.D, vi (i64.wrap (Exp + 1))]) (k := 0) (cs' := [vi r_2.A, vi r_2.B, vi r_2.C, vi r_2.D, vi (i64.wrap (Exp + 1))]) hS12 k_sz_44_5 rfl (hf.get 4 1 rfl) rfl rfl rfl rfl rfl (Nat.le_of_ble_eq_true rfl) rfl rfl) ?_ ?_
       ·rintro _ w_7 ⟨rfl, hS13⟩
        have hS13 : ST w0 (bl [⟨B, 55, [.bool c.bad], 1⟩]) _ [⟨aD b, 44, [vi r_2.A, vi r_2.B, vi r_2.C, vi r_2.D, vi (i64.wrap (Exp + 1))], 5⟩, ⟨aD b1, 44, [vi y.Num.A, vi y.Num.B, vi y.Num.C, vi y.Num.D, vi y.Exp], 5⟩, ⟨aD b2, 44, [vi 0, vi 0, vi 0, vi 0, vi 0], 5⟩, ⟨B, 55, [.bool m1.bad], 1⟩] [] := hS13
        refine ⟨(ST.sel hS13 [1, 2] rfl rfl), ?_⟩
        refine ra_done (by kernel_rfl) ?_
        exact ⟨(FF.cons (hf.get 0 0 rfl) (FF.cons (hf.get 4 1 rfl) (FF.cons (hf.get 5 2 rfl) (FF.cons (hf.get 6 3 rfl) FF.nil)))), (hS13.sel [3, 0, 1, 2] rfl rfl)⟩
       exact allR_nil
      exact allR_nil
     exact allR_nil
    refine ra_y 18 (i := 6) (v := vi Exp) rfl rfl rfl (Y_load1 (B := aD b) (i := 4) (cs := [vi A, vi B1, vi C, vi D, vi Exp]) (v := vi Exp) k_sc_3 rfl rfl (hS8.cf (i := 1) rfl) rfl) (ST.sel hS8 [2, 3] rfl rfl) ?_ ?_
    ·skip
     refine ra_q 7 19 (v := vi (i64.wrap (Exp + 1))) rfl rfl rfl (by kernel_rfl) (by kernel_rfl) (by kernel_rfl) (ST.sel hS8 [2, 3] rfl rfl) (fun w' hw' => (Y_add (k := .i64) (a := Exp) (b := 1) rfl rfl rfl)) ?_
     refine ra_all (rs := [3]) (by kernel_rfl) rfl ?_
     refine ra_c 15 (i := 3) rfl rfl rfl (Yc_func (g := 34) (vs := [.agg #[vi A, vi B1, vi C, vi D]]) k_call_34 rfl (mc rfl mn) (c_spec_l1Root (TRing.mk A B1 C D) _  (hS8.inn0 [] rfl) hc)) ?_ ?_
     ·rintro _ w_8 ⟨rfl, hd3⟩
      have hS14 := hS8.out00 hd3
      have hS14 : ST w0 (bl [⟨B, 55, [.bool c.bad], 1⟩]) _ [⟨B, 55, [.bool bad], 1⟩, ⟨aD b, 44, [vi A, vi B1, vi C, vi D, vi Exp], 5⟩, ⟨aD b1, 44, [vi y.Num.A, vi y.Num.B, vi y.Num.C, vi y.Num.D, vi y.Exp], 5⟩, ⟨aD b2, 44, [vi 0, vi 0, vi 0, vi 0, vi 0], 5⟩] [] := hS14
      refine ⟨(ST.sel hS14 [2, 3] rfl rfl), ?_⟩
      refine ra_all (rs := [4]) (by kernel_rfl) rfl ?_
      refine ra_c 16 (i := 4) rfl rfl rfl (Yc_func (g := 33) (vs := [pt B 0, .agg #[vi r_1.A, vi r_1.B, vi r_1.C, vi r_1.D]]) k_call_33 rfl (mc rfl (mc rfl mn)) (c_spec_l2C_ring (Tl2C.mk bad) r_1 B _  (hS14.inn [true, false, false, false] rfl [] rfl) hc1)) ?_ ?_
      ·rintro _ w_9 ⟨rfl, hd4⟩
       have hS15 := hS14.out [true, false, false, false] rfl hd4
       have hS15 : ST w0 (bl [⟨B, 55, [.bool c.bad], 1⟩]) _ [⟨aD b, 44, [vi A, vi B1, vi C, vi D, vi Exp], 5⟩, ⟨aD b1, 44, [vi y.Num.A, vi y.Num.B, vi y.Num.C, vi y.Num.D, vi y.Exp], 5⟩, ⟨aD b2, 44, [vi 0, vi 0, vi 0, vi 0, vi 0], 5⟩, ⟨B, 55, [.bool m1.bad], 1⟩] [] := hS15
       refine ⟨(ST.sel hS15 [1, 2] rfl rfl), ?_⟩
       refine ra_q 8 20 (v := .agg #[vi r_2.A, vi r_2.B, vi r_2.C, vi r_2.D, vi (i64.wrap (Exp + 1))]) rfl rfl rfl (by kernel_rfl) (by kernel_rfl) (by kernel_rfl) (ST.sel hS15 [1, 2] rfl rfl) (fun w' hw' => (Y_buildS (zs := [vi 0, vi 0, vi 0, vi 0, vi 0]) (vs := [(0, .agg #[vi r_2.A, vi r_2.B, vi r_2.C, vi r_2.D]), (1, vi (i64.wrap (Exp + 1)))]) (cs := [vi r_2.A, vi r_2.B, vi r_2.C, vi r_2.D, vi (i64.wrap (Exp + 1))]) k_pl_44 k_zero_44 rfl (mpc rfl (mpc rfl mpn)) rfl)) ?_
       refine ra_all (rs := [9]) (by kernel_rfl) rfl ?_
       refine ra_s0 (i := 9) rfl rfl rfl (Ys_store (i := 0) (s := 5) (B := aD b) (T' := 44) (v := .agg #[vi r_2.A, vi r_2.B, vi r_2.C, vi r_2.D, vi (i64.wrap (Exp + 1))]) (vs := [vi r_2.A, vi r_2.B, vi r_2.C, vi r_2.D, vi (i64.wrap (Exp + 1))]) (k := 0) (cs' := [vi r_2.A, vi r_2.B, vi r_2.C, vi r_2.D, vi (i64.wrap (Exp + 1))]) hS15 k_sz_44_5 rfl (hf.get 4 1 rfl) rfl rfl rfl rfl rfl (Nat.le_of_ble_eq_true rfl) rfl rfl) ?_ ?_
       ·rintro _ w_10 ⟨rfl, hS16⟩
        have hS16 : ST w0 (bl [⟨B, 55, [.bool c.bad], 1⟩]) _ [⟨aD b, 44, [vi r_2.A, vi r_2.B, vi r_2.C, vi r_2.D, vi (i64.wrap (Exp + 1))], 5⟩, ⟨aD b1, 44, [vi y.Num.A, vi y.Num.B, vi y.Num.C, vi y.Num.D, vi y.Exp], 5⟩, ⟨aD b2, 44, [vi 0, vi 0, vi 0, vi 0, vi 0], 5⟩, ⟨B, 55, [.bool m1.bad], 1⟩] [] := hS16
        refine ⟨(ST.sel hS16 [1, 2] rfl rfl), ?_⟩
        refine ra_done (by kernel_rfl) ?_
        exact ⟨(FF.cons (hf.get 0 0 rfl) (FF.cons (hf.get 4 1 rfl) (FF.cons (hf.get 5 2 rfl) (FF.cons (hf.get 6 3 rfl) FF.nil)))), (hS16.sel [3, 0, 1, 2] rfl rfl)⟩
       exact allR_nil
      exact allR_nil
     exact allR_nil
    exact allR_nil
   refine ra_y 18 (i := 6) (v := vi Exp) rfl rfl rfl (Y_load1 (B := aD b) (i := 4) (cs := [vi A, vi B1, vi C, vi D, vi Exp]) (v := vi Exp) k_sc_3 rfl rfl (hS8.cf (i := 1) rfl) rfl) (ST.sel hS8 [2, 3] rfl rfl) ?_ ?_
   ·skip
    refine ra_q 7 19 (v := vi (i64.wrap (Exp + 1))) rfl rfl rfl (by kernel_rfl) (by kernel_rfl) (by kernel_rfl) (ST.sel hS8 [2, 3] rfl rfl) (fun w' hw' => (Y_add (k := .i64) (a := Exp) (b := 1) rfl rfl rfl)) ?_
    refine ra_all (rs := [2]) (by kernel_rfl) rfl ?_
    refine ra_y 14 (i := 2) (v := .agg #[vi A, vi B1, vi C, vi D]) rfl rfl rfl (Y_loadA (B := aD b) (i := 0) (cs := [vi A, vi B1, vi C, vi D, vi Exp]) (vs := [vi A, vi B1, vi C, vi D]) k_ag_42 k_sz_42_4 rfl rfl (hS8.cf (i := 1) rfl) rfl rfl) (ST.sel hS8 [2, 3] rfl rfl) ?_ ?_
    ·skip
     refine ra_all (rs := [3]) (by kernel_rfl) rfl ?_
     refine ra_c 15 (i := 3) rfl rfl rfl (Yc_func (g := 34) (vs := [.agg #[vi A, vi B1, vi C, vi D]]) k_call_34 rfl (mc rfl mn) (c_spec_l1Root (TRing.mk A B1 C D) _  (hS8.inn0 [] rfl) hc)) ?_ ?_
     ·rintro _ w_11 ⟨rfl, hd5⟩
      have hS17 := hS8.out00 hd5
      have hS17 : ST w0 (bl [⟨B, 55, [.bool c.bad], 1⟩]) _ [⟨B, 55, [.bool bad], 1⟩, ⟨aD b, 44, [vi A, vi B1, vi C, vi D, vi Exp], 5⟩, ⟨aD b1, 44, [vi y.Num.A, vi y.Num.B, vi y.Num.C, vi y.Num.D, vi y.Exp], 5⟩, ⟨aD b2, 44, [vi 0, vi 0, vi 0, vi 0, vi 0], 5⟩] [] := hS17
      refine ⟨(ST.sel hS17 [2, 3] rfl rfl), ?_⟩
      refine ra_all (rs := [4]) (by kernel_rfl) rfl ?_
      refine ra_c 16 (i := 4) rfl rfl rfl (Yc_func (g := 33) (vs := [pt B 0, .agg #[vi r_1.A, vi r_1.B, vi r_1.C, vi r_1.D]]) k_call_33 rfl (mc rfl (mc rfl mn)) (c_spec_l2C_ring (Tl2C.mk bad) r_1 B _  (hS17.inn [true, false, false, false] rfl [] rfl) hc1)) ?_ ?_
      ·rintro _ w_12 ⟨rfl, hd6⟩
       have hS18 := hS17.out [true, false, false, false] rfl hd6
       have hS18 : ST w0 (bl [⟨B, 55, [.bool c.bad], 1⟩]) _ [⟨aD b, 44, [vi A, vi B1, vi C, vi D, vi Exp], 5⟩, ⟨aD b1, 44, [vi y.Num.A, vi y.Num.B, vi y.Num.C, vi y.Num.D, vi y.Exp], 5⟩, ⟨aD b2, 44, [vi 0, vi 0, vi 0, vi 0, vi 0], 5⟩, ⟨B, 55, [.bool m1.bad], 1⟩] [] := hS18
       refine ⟨(ST.sel hS18 [1, 2] rfl rfl), ?_⟩
       refine ra_q 8 20 (v := .agg #[vi r_2.A, vi r_2.B, vi r_2.C, vi r_2.D, vi (i64.wrap (Exp + 1))]) rfl rfl rfl (by kernel_rfl) (by kernel_rfl) (by kernel_rfl) (ST.sel hS18 [1, 2] rfl rfl) (fun w' hw' => (Y_buildS (zs := [vi 0, vi 0, vi 0, vi 0, vi 0]) (vs := [(0, .agg #[vi r_2.A, vi r_2.B, vi r_2.C, vi r_2.D]), (1, vi (i64.wrap (Exp + 1)))]) (cs := [vi r_2.A, vi r_2.B, vi r_2.C, vi r_2.D, vi (i64.wrap (Exp + 1))]) k_pl_44 k_zero_44 rfl (mpc rfl (mpc rfl mpn)) rfl)) ?_
       refine ra_all (rs := [9]) (by kernel_rfl) rfl ?_
       refine ra_s0 (i := 9) rfl rfl rfl (Ys_store (i := 0) (s := 5) (B := aD b) (T' := 44) (v := .agg #[vi r_2.A, vi r_2.B, vi r_2.C, vi r_2.D, vi (i64.wrap (Exp + 1))]) (vs := [vi r_2.A, vi r_2.B, vi r_2.C, vi r_2.D, vi (i64.wrap (Exp + 1))]) (k := 0) (cs' := [vi r_2.A, vi r_2.B, vi r_2.C, vi r_2.D, vi (i64.wrap (Exp + 1))]) hS18 k_sz_44_5 rfl (hf.get 4 1 rfl) rfl rfl rfl rfl rfl (Nat.le_of_ble_eq_true rfl) rfl rfl) ?_ ?_
       ·rintro _ w_13 ⟨rfl, hS19⟩
        have hS19 : ST w0 (bl [⟨B, 55, [.bool c.bad], 1⟩]) _ [⟨aD b, 44, [vi r_2.A, vi r_2.B, vi r_2.C, vi r_2.D, vi (i64.wrap (Exp + 1))], 5⟩, ⟨aD b1, 44, [vi y.Num.A, vi y.Num.B, vi y.Num.C, vi y.Num.D, vi y.Exp], 5⟩, ⟨aD b2, 44, [vi 0, vi 0, vi 0, vi 0, vi 0], 5⟩, ⟨B, 55, [.bool m1.bad], 1⟩] [] := hS19
        refine ⟨(ST.sel hS19 [1, 2] rfl rfl), ?_⟩
        refine ra_done (by kernel_rfl) ?_
        exact ⟨(FF.cons (hf.get 0 0 rfl) (FF.cons (hf.get 4 1 rfl) (FF.cons (hf.get 5 2 rfl) (FF.cons (hf.get 6 3 rfl) FF.nil)))), (hS19.sel [3, 0, 1, 2] rfl rfl)⟩
       exact allR_nil
      exact allR_nil
     exact allR_nil
    exact allR_nil
   exact allR_nil
  rintro f w ⟨hf1, hS7⟩
  obtain rfl := some_inj hF2
  exact ⟨k_1, Nat.lt_succ_self _, m1.bad, r_2.A, r_2.B, r_2.C, r_2.D, (i64.wrap (Exp + 1)), (FF.cons (hf1.get 0 0 rfl) (FF.cons (hf1.get 4 1 rfl) (FF.cons (hf1.get 5 2 rfl) (FF.cons (hf1.get 6 3 rfl) FF.nil)))), (hS7.sel [0, 1, 2, 3] rfl rfl), hL1⟩
 ·skip
  have hF3 := cf' hb hb1
  refine cw_exit rfl ?_
  obtain rfl := some_inj hF3
  obtain rfl := some_inj hL1
  refine cw_seq ?_
  obtain ⟨z1, hz1, hF4⟩ := bind_inv hF1
  refine cw_block ?_
  refine cw_loop (fun k f w => ∃ (bad1 : Bool) (A1 : Int) (B2 : Int) (C1 : Int) (D1 : Int) (Exp1 : Int), FF f [(0, pt B 0), (4, pt (aD b) 0), (5, pt (aD b1) 0), (6, pt (aD b2) 0)] ∧ ST w0 (bl [⟨B, 55, [.bool c.bad], 1⟩]) w [⟨B, 55, [.bool bad1], 1⟩, ⟨aD b, 44, [vi A, vi B1, vi C, vi D, vi Exp], 5⟩, ⟨aD b1, 44, [vi A1, vi B2, vi C1, vi D1, vi Exp1], 5⟩, ⟨aD b2, 44, [vi 0, vi 0, vi 0, vi 0, vi 0], 5⟩] [] ∧ whX (F_spec_l2C_add_l2 Exp bad A C D) k (bad1, A1, B2, C1, D1, Exp1) = some z1) fuel ⟨bad, y.Num.A, y.Num.B, y.Num.C, y.Num.D, y.Exp, (FF.cons (hf.get 0 0 rfl) (FF.cons (hf.get 4 1 rfl) (FF.cons (hf.get 5 2 rfl) (FF.cons (hf.get 6 3 rfl) FF.nil)))), (hS4.sel [0, 1, 2, 3] rfl rfl), hz1⟩ ?_
  rintro k_2 f w ⟨bad1, A1, B2, C1, D1, Exp1, hf2, hS20, hL2⟩
  obtain ⟨k_3, y2, rfl, hb2, hL3⟩ := whX_go hL2
  unfold F_spec_l2C_add_l2 at hb2
  refine cw_seq ?_
  refine cw_seq ?_
  refine cw_region ?_
  refine sq 21 rfl rfl (Y_fieldAddr (B := aD b1) (i := 0) (s := 0) k_fd_44_1_4_3 k_sz_3_1 rfl (hf2.get 5 2 rfl)) ?_
  refine sq 22 rfl rfl (Y_load1 (B := aD b1) (i := 4) (cs := [vi A1, vi B2, vi C1, vi D1, vi Exp1]) (v := vi Exp1) k_sc_3 rfl rfl (hS20.cf (i := 2) rfl) rfl) ?_
  refine sq 23 rfl rfl (Y_fieldAddr (B := aD b) (i := 0) (s := 0) k_fd_44_1_4_3 k_sz_3_1 rfl (hf2.get 4 1 rfl)) ?_
  refine sq 24 rfl rfl (Y_load1 (B := aD b) (i := 4) (cs := [vi A, vi B1, vi C, vi D, vi Exp]) (v := vi Exp) k_sc_3 rfl rfl (hS20.cf (i := 1) rfl) rfl) ?_
  refine sq 25 rfl rfl (Y_lt (k := .i64) (a := Exp1) (b := Exp) rfl rfl rfl) ?_
  refine rw_nil ?_
  refine cw_cond (b := (decide (Exp1 < Exp))) rfl (fun hb3 => ?_) (fun hb3 => ?_)
  ·skip
   have hF5 := ct hb2 hb3
   refine cw_skip ?_
   refine cw_block ?_
   obtain ⟨r_3, hc2, hF5⟩ := bind_inv hF5
   obtain ⟨⟨r_4, m2⟩, hc3, hF5⟩ := bind_inv hF5
   refine cw_mid (fun f w => FF f [(0, pt B 0), (4, pt (aD b) 0), (5, pt (aD b1) 0), (6, pt (aD b2) 0)] ∧ ST w0 (bl [⟨B, 55, [.bool c.bad], 1⟩]) w [⟨B, 55, [.bool m2.bad], 1⟩, ⟨aD b, 44, [vi A, vi B1, vi C, vi D, vi Exp], 5⟩, ⟨aD b1, 44, [vi r_4.A, vi r_4.B, vi r_4.C, vi r_4.D, vi (i64.wrap (Exp1 + 1))], 5⟩, ⟨aD b2, 44, [vi 0, vi 0, vi 0, vi 0, vi 0], 5⟩] []) ?_ ?_
   ·skip
    refine ra_start (ST.sel hS20 [1, 3] rfl rfl).fn (by kernel_rfl) ?_
    have hS24 := hS20.drew
    refine ra_q 0 26 (v := pt B 0) rfl rfl rfl (by kernel_rfl) (by kernel_rfl) (by kernel_rfl) (ST.sel hS24 [1, 3] rfl rfl) (fun w' hw' => (Y_move (v := pt B 0) rfl (hf2.get 0 0 rfl))) ?_
    refine ra_q 1 27 (v := pt (aD b1) 0) rfl rfl rfl (by kernel_rfl) (by kernel_rfl) (by kernel_rfl) (ST.sel hS24 [1, 3] rfl rfl) (fun w' hw' => (Y_fieldAddr (B := aD b1) (i := 0) (s := 3) k_fd_44_0_0_42 k_sz_42_4 rfl (hf2.get 5 2 rfl))) ?_
    refine ra_q 5 31 (v := pt (aD b1) 4) rfl rfl rfl (by kernel_rfl) (by kernel_rfl) (by kernel_rfl) (ST.sel hS24 [1, 3] rfl rfl) (fun w' hw' => (Y_fieldAddr (B := aD b1) (i := 0) (s := 0) k_fd_44_1_4_3 k_sz_3_1 rfl (hf2.get 5 2 rfl))) ?_
    refine ra_all (rs := [2, 6]) (by kernel_rfl) rfl ?_
    refine ra_y 28 (i := 2) (v := .agg #[vi A1, vi B2, vi C1, vi D1]) rfl rfl rfl (Y_loadA (B := aD b1) (i := 0) (cs := [vi A1, vi B2, vi C1, vi D1, vi Exp1]) (vs := [vi A1, vi B2, vi C1, vi D1]) k_ag_42 k_sz_42_4 rfl rfl (hS24.cf (i := 2) rfl) rfl rfl) (ST.sel hS24 [1, 3] rfl rfl) ?_ ?_
    ·skip
     refine ra_all (rs := [3, 6]) (by kernel_rfl) rfl ?_
     refine ra_c 29 (i := 3) rfl rfl rfl (Yc_func (g := 34) (vs := [.agg #[vi A1, vi B2, vi C1, vi D1]]) k_call_34 rfl (mc rfl mn) (c_spec_l1Root (TRing.mk A1 B2 C1 D1) _  (hS24.inn0 [] rfl) hc2)) ?_ ?_
     ·rintro _ w_14 ⟨rfl, hd7⟩
      have hS25 := hS24.out00 hd7
      have hS25 : ST w0 (bl [⟨B, 55, [.bool c.bad], 1⟩]) _ [⟨B, 55, [.bool bad1], 1⟩, ⟨aD b, 44, [vi A, vi B1, vi C, vi D, vi Exp], 5⟩, ⟨aD b1, 44, [vi A1, vi B2, vi C1, vi D1, vi Exp1], 5⟩, ⟨aD b2, 44, [vi 0, vi 0, vi 0, vi 0, vi 0], 5⟩] [] := hS25
      refine ⟨(ST.sel hS25 [1, 3] rfl rfl), ?_⟩
      refine ra_all (rs := [4, 6]) (by kernel_rfl) rfl ?_
      refine ra_c 30 (i := 4) rfl rfl rfl (Yc_func (g := 33) (vs := [pt B 0, .agg #[vi r_3.A, vi r_3.B, vi r_3.C, vi r_3.D]]) k_call_33 rfl (mc rfl (mc rfl mn)) (c_spec_l2C_ring (Tl2C.mk bad1) r_3 B _  (hS25.inn [true, false, false, false] rfl [] rfl) hc3)) ?_ ?_
      ·rintro _ w_15 ⟨rfl, hd8⟩
       have hS26 := hS25.out [true, false, false, false] rfl hd8
       have hS26 : ST w0 (bl [⟨B, 55, [.bool c.bad], 1⟩]) _ [⟨aD b, 44, [vi A, vi B1, vi C, vi D, vi Exp], 5⟩, ⟨aD b1, 44, [vi A1, vi B2, vi C1, vi D1, vi Exp1], 5⟩, ⟨aD b2, 44, [vi 0, vi 0, vi 0, vi 0, vi 0], 5⟩, ⟨B, 55, [.bool m2.bad], 1⟩] [] := hS26
       refine ⟨(ST.sel hS26 [0, 2] rfl rfl), ?_⟩
       refine ra_all (rs := [6]) (by kernel_rfl) rfl ?_
       refine ra_y 32 (i := 6) (v := vi Exp1) rfl rfl rfl (Y_load1 (B := aD b1) (i := 4) (cs := [vi A1, vi B2, vi C1, vi D1, vi Exp1]) (v := vi Exp1) k_sc_3 rfl rfl (hS26.cf (i := 1) rfl) rfl) (ST.sel hS26 [0, 2] rfl rfl) ?_ ?_
       ·skip
        refine ra_q 7 33 (v := vi (i64.wrap (Exp1 + 1))) rfl rfl rfl (by kernel_rfl) (by kernel_rfl) (by kernel_rfl) (ST.sel hS26 [0, 2] rfl rfl) (fun w' hw' => (Y_add (k := .i64) (a := Exp1) (b := 1) rfl rfl rfl)) ?_
        refine ra_q 8 34 (v := .agg #[vi r_4.A, vi r_4.B, vi r_4.C, vi r_4.D, vi (i64.wrap (Exp1 + 1))]) rfl rfl rfl (by kernel_rfl) (by kernel_rfl) (by kernel_rfl) (ST.sel hS26 [0, 2] rfl rfl) (fun w' hw' => (Y_buildS (zs := [vi 0, vi 0, vi 0, vi 0, vi 0]) (vs := [(0, .agg #[vi r_4.A, vi r_4.B, vi r_4.C, vi r_4.D]), (1, vi (i64.wrap (Exp1 + 1)))]) (cs := [vi r_4.A, vi r_4.B, vi r_4.C, vi r_4.D, vi (i64.wrap (Exp1 + 1))]) k_pl_44 k_zero_44 rfl (mpc rfl (mpc rfl mpn)) rfl)) ?_
        refine ra_all (rs := [9]) (by kernel_rfl) rfl ?_
        refine ra_s0 (i := 9) rfl rfl rfl (Ys_store (i := 1) (s := 5) (B := aD b1) (T' := 44) (v := .agg #[vi r_4.A, vi r_4.B, vi r_4.C, vi r_4.D, vi (i64.wrap (Exp1 + 1))]) (vs := [vi r_4.A, vi r_4.B, vi r_4.C, vi r_4.D, vi (i64.wrap (Exp1 + 1))]) (k := 0) (cs' := [vi r_4.A, vi r_4.B, vi r_4.C, vi r_4.D, vi (i64.wrap (Exp1 + 1))]) hS26 k_sz_44_5 rfl (hf2.get 5 2 rfl) rfl rfl rfl rfl rfl (Nat.le_of_ble_eq_true rfl) rfl rfl) ?_ ?_
        ·rintro _ w_16 ⟨rfl, hS27⟩
         have hS27 : ST w0 (bl [⟨B, 55, [.bool c.bad], 1⟩]) _ [⟨aD b, 44, [vi A, vi B1, vi C, vi D, vi Exp], 5⟩, ⟨aD b1, 44, [vi r_4.A, vi r_4.B, vi r_4.C, vi r_4.D, vi (i64.wrap (Exp1 + 1))], 5⟩, ⟨aD b2, 44, [vi 0, vi 0, vi 0, vi 0, vi 0], 5⟩, ⟨B, 55, [.bool m2.bad], 1⟩] [] := hS27
         refine ⟨(ST.sel hS27 [0, 2] rfl rfl), ?_⟩
         refine ra_done (by kernel_rfl) ?_
         exact ⟨(FF.cons (hf2.get 0 0 rfl) (FF.cons (hf2.get 4 1 rfl) (FF.cons (hf2.get 5 2 rfl) (FF.cons (hf2.get 6 3 rfl) FF.nil)))), (hS27.sel [3, 0, 1, 2] rfl rfl)⟩
        exact allR_nil
       exact allR_nil
      refine ra_y 32 (i := 6) (v := vi Exp1) rfl rfl rfl (Y_load1 (B := aD b1) (i := 4) (cs := [vi A1, vi B2, vi C1, vi D1, vi Exp1]) (v := vi Exp1) k_sc_3 rfl rfl (hS25.cf (i := 2) rfl) rfl) (ST.sel hS25 [1, 3] rfl rfl) ?_ ?_
      ·skip
       refine ra_q 7 33 (v := vi (i64.wrap (Exp1 + 1))) rfl rfl rfl (by kernel_rfl) (by kernel_rfl) (by kernel_rfl) (ST.sel hS25 [1, 3] rfl rfl) (fun w' hw' => (Y_add (k := .i64) (a := Exp1) (b := 1) rfl rfl rfl)) ?_
       refine ra_all (rs := [4]) (by kernel_rfl) rfl ?_
       refine ra_c 30 (i := 4) rfl rfl rfl (Yc_func (g := 33) (vs := [pt B 0, .agg #[vi r_3.A, vi r_3.B, vi r_3.C, vi r_3.D]]) k_call_33 rfl (mc rfl (mc rfl mn)) (c_spec_l2C_ring (Tl2C.mk bad1) r_3 B _  (hS25.inn [true, false, false, false] rfl [] rfl) hc3)) ?_ ?_
       ·rintro _ w_17 ⟨rfl, hd9⟩
        have hS28 := hS25.out [true, false, false, false] rfl hd9
        have hS28 : ST w0 (bl [⟨B, 55, [.bool c.bad], 1⟩]) _ [⟨aD b, 44, [vi A, vi B1, vi C, vi D, vi Exp], 5⟩, ⟨aD b1, 44, [vi A1, vi B2, vi C1, vi D1, vi Exp1], 5⟩, ⟨aD b2, 44, [vi 0, vi 0, vi 0, vi 0, vi 0], 5⟩, ⟨B, 55, [.bool m2.bad], 1⟩] [] := hS28
        refine ⟨(ST.sel hS28 [0, 2] rfl rfl), ?_⟩
        refine ra_q 8 34 (v := .agg #[vi r_4.A, vi r_4.B, vi r_4.C, vi r_4.D, vi (i64.wrap (Exp1 + 1))]) rfl rfl rfl (by kernel_rfl) (by kernel_rfl) (by kernel_rfl) (ST.sel hS28 [0, 2] rfl rfl) (fun w' hw' => (Y_buildS (zs := [vi 0, vi 0, vi 0, vi 0, vi 0]) (vs := [(0, .agg #[vi r_4.A, vi r_4.B, vi r_4.C, vi r_4.D]), (1, vi (i64.wrap (Exp1 + 1)))]) (cs := [vi r_4.A, vi r_4.B, vi r_4.C, vi r_4.D, vi (i64.wrap (Exp1 + 1))]) k_pl_44 k_zero_44 rfl (mpc rfl (mpc rfl mpn)) rfl)) ?_
        refine ra_all (rs := [9]) (by kernel_rfl) rfl ?_
        refine ra_s0 (i := 9) rfl rfl rfl (Ys_store (i := 1) (s := 5) (B := aD b1) (T' := 44) (v := .agg #[vi r_4.A, vi r_4.B, vi r_4.C, vi r_4.D, vi (i64.wrap (Exp1 + 1))]) (vs := [vi r_4.A, vi r_4.B, vi r_4.C, vi r_4.D, vi (i64.wrap (Exp1 + 1))]) (k := 0) (cs' := [vi r_4.A, vi r_4.B, vi r_4.C, vi r_4.D, vi (i64.wrap (Exp1 + 1))]) hS28 k_sz_44_5 rfl (hf2.get 5 2 rfl) rfl rfl rfl rfl rfl (Nat.le_of_ble_eq_true rfl) rfl rfl) ?_ ?_
        ·rintro _ w_18 ⟨rfl, hS29⟩
         have hS29 : ST w0 (bl [⟨B, 55, [.bool c.bad], 1⟩]) _ [⟨aD b, 44, [vi A, vi B1, vi C, vi D, vi Exp], 5⟩, ⟨aD b1, 44, [vi r_4.A, vi r_4.B, vi r_4.C, vi r_4.D, vi (i64.wrap (Exp1 + 1))], 5⟩, ⟨aD b2, 44, [vi 0, vi 0, vi 0, vi 0, vi 0], 5⟩, ⟨B, 55, [.bool m2.bad], 1⟩] [] := hS29
         refine ⟨(ST.sel hS29 [0, 2] rfl rfl), ?_⟩
         refine ra_done (by kernel_rfl) ?_
         exact ⟨(FF.cons (hf2.get 0 0 rfl) (FF.cons (hf2.get 4 1 rfl) (FF.cons (hf2.get 5 2 rfl) (FF.cons (hf2.get 6 3 rfl) FF.nil)))), (hS29.sel [3, 0, 1, 2] rfl rfl)⟩
        exact allR_nil
       exact allR_nil
      exact allR_nil
     refine ra_y 32 (i := 6) (v := vi Exp1) rfl rfl rfl (Y_load1 (B := aD b1) (i := 4) (cs := [vi A1, vi B2, vi C1, vi D1, vi Exp1]) (v := vi Exp1) k_sc_3 rfl rfl (hS24.cf (i := 2) rfl) rfl) (ST.sel hS24 [1, 3] rfl rfl) ?_ ?_
     ·skip
      refine ra_q 7 33 (v := vi (i64.wrap (Exp1 + 1))) rfl rfl rfl (by kernel_rfl) (by kernel_rfl) (by kernel_rfl) (ST.sel hS24 [1, 3] rfl rfl) (fun w' hw' => (Y_add (k := .i64) (a := Exp1) (b := 1) rfl rfl rfl)) ?_
      refine ra_all (rs := [3]) (by kernel_rfl) rfl ?_
      refine ra_c 29 (i := 3) rfl rfl rfl (Yc_func (g := 34) (vs := [.agg #[vi A1, vi B2, vi C1, vi D1]]) k_call_34 rfl (mc rfl mn) (c_spec_l1Root (TRing.mk A1 B2 C1 D1) _  (hS24.inn0 [] rfl) hc2)) ?_ ?_
      ·rintro _ w_19 ⟨rfl, hd10⟩
       have hS30 := hS24.out00 hd10
       have hS30 : ST w0 (bl [⟨B, 55, [.bool c.bad], 1⟩]) _ [⟨B, 55, [.bool bad1], 1⟩, ⟨aD b, 44, [vi A, vi B1, vi C, vi D, vi Exp], 5⟩, ⟨aD b1, 44, [vi A1, vi B2, vi C1, vi D1, vi Exp1], 5⟩, ⟨aD b2, 44, [vi 0, vi 0, vi 0, vi 0, vi 0], 5⟩] [] := hS30
       refine ⟨(ST.sel hS30 [1, 3] rfl rfl), ?_⟩
       refine ra_all (rs := [4]) (by kernel_rfl) rfl ?_
       refine ra_c 30 (i := 4) rfl rfl rfl (Yc_func (g := 33) (vs := [pt B 0, .agg #[vi r_3.A, vi r_3.B, vi r_3.C, vi r_3.D]]) k_call_33 rfl (mc rfl (mc rfl mn)) (c_spec_l2C_ring (Tl2C.mk bad1) r_3 B _  (hS30.inn [true, false, false, false] rfl [] rfl) hc3)) ?_ ?_
       ·rintro _ w_20 ⟨rfl, hd11⟩
        have hS31 := hS30.out [true, false, false, false] rfl hd11
        have hS31 : ST w0 (bl [⟨B, 55, [.bool c.bad], 1⟩]) _ [⟨aD b, 44, [vi A, vi B1, vi C, vi D, vi Exp], 5⟩, ⟨aD b1, 44, [vi A1, vi B2, vi C1, vi D1, vi Exp1], 5⟩, ⟨aD b2, 44, [vi 0, vi 0, vi 0, vi 0, vi 0], 5⟩, ⟨B, 55, [.bool m2.bad], 1⟩] [] := hS31
        refine ⟨(ST.sel hS31 [0, 2] rfl rfl), ?_⟩
        refine ra_q 8 34 (v := .agg #[vi r_4.A, vi r_4.B, vi r_4.C, vi r_4.D, vi (i64.wrap (Exp1 + 1))]) rfl rfl rfl (by kernel_rfl) (by kernel_rfl) (by kernel_rfl) (ST.sel hS31 [0, 2] rfl rfl) (fun w' hw' => (Y_buildS (zs := [vi 0, vi 0, vi 0, vi 0, vi 0]) (vs := [(0, .agg #[vi r_4.A, vi r_4.B, vi r_4.C, vi r_4.D]), (1, vi (i64.wrap (Exp1 + 1)))]) (cs := [vi r_4.A, vi r_4.B, vi r_4.C, vi r_4.D, vi (i64.wrap (Exp1 + 1))]) k_pl_44 k_zero_44 rfl (mpc rfl (mpc rfl mpn)) rfl)) ?_
        refine ra_all (rs := [9]) (by kernel_rfl) rfl ?_
        refine ra_s0 (i := 9) rfl rfl rfl (Ys_store (i := 1) (s := 5) (B := aD b1) (T' := 44) (v := .agg #[vi r_4.A, vi r_4.B, vi r_4.C, vi r_4.D, vi (i64.wrap (Exp1 + 1))]) (vs := [vi r_4.A, vi r_4.B, vi r_4.C, vi r_4.D, vi (i64.wrap (Exp1 + 1))]) (k := 0) (cs' := [vi r_4.A, vi r_4.B, vi r_4.C, vi r_4.D, vi (i64.wrap (Exp1 + 1))]) hS31 k_sz_44_5 rfl (hf2.get 5 2 rfl) rfl rfl rfl rfl rfl (Nat.le_of_ble_eq_true rfl) rfl rfl) ?_ ?_
        ·rintro _ w_21 ⟨rfl, hS32⟩
         have hS32 : ST w0 (bl [⟨B, 55, [.bool c.bad], 1⟩]) _ [⟨aD b, 44, [vi A, vi B1, vi C, vi D, vi Exp], 5⟩, ⟨aD b1, 44, [vi r_4.A, vi r_4.B, vi r_4.C, vi r_4.D, vi (i64.wrap (Exp1 + 1))], 5⟩, ⟨aD b2, 44, [vi 0, vi 0, vi 0, vi 0, vi 0], 5⟩, ⟨B, 55, [.bool m2.bad], 1⟩] [] := hS32
         refine ⟨(ST.sel hS32 [0, 2] rfl rfl), ?_⟩
         refine ra_done (by kernel_rfl) ?_
         exact ⟨(FF.cons (hf2.get 0 0 rfl) (FF.cons (hf2.get 4 1 rfl) (FF.cons (hf2.get 5 2 rfl) (FF.cons (hf2.get 6 3 rfl) FF.nil)))), (hS32.sel [3, 0, 1, 2] rfl rfl)⟩
        exact allR_nil
       exact allR_nil
      exact allR_nil
     exact allR_nil
    refine ra_y 32 (i := 6) (v := vi Exp1) rfl rfl rfl (Y_load1 (B := aD b1) (i := 4) (cs := [vi A1, vi B2, vi C1, vi D1, vi Exp1]) (v := vi Exp1) k_sc_3 rfl rfl (hS24.cf (i := 2) rfl) rfl) (ST.sel hS24 [1, 3] rfl rfl) ?_ ?_
    ·skip
     refine ra_q 7 33 (v := vi (i64.wrap (Exp1 + 1))) rfl rfl rfl (by kernel_rfl) (by kernel_rfl) (by kernel_rfl) (ST.sel hS24 [1, 3] rfl rfl) (fun w' hw' => (Y_add (k := .i64) (a := Exp1) (b := 1) rfl rfl rfl)) ?_
     refine ra_all (rs := [2]) (by kernel_rfl) rfl ?_
     refine ra_y 28 (i := 2) (v := .agg #[vi A1, vi B2, vi C1, vi D1]) rfl rfl rfl (Y_loadA (B := aD b1) (i := 0) (cs := [vi A1, vi B2, vi C1, vi D1, vi Exp1]) (vs := [vi A1, vi B2, vi C1, vi D1]) k_ag_42 k_sz_42_4 rfl rfl (hS24.cf (i := 2) rfl) rfl rfl) (ST.sel hS24 [1, 3] rfl rfl) ?_ ?_
     ·skip
      refine ra_all (rs := [3]) (by kernel_rfl) rfl ?_
      refine ra_c 29 (i := 3) rfl rfl rfl (Yc_func (g := 34) (vs := [.agg #[vi A1, vi B2, vi C1, vi D1]]) k_call_34 rfl (mc rfl mn) (c_spec_l1Root (TRing.mk A1 B2 C1 D1) _  (hS24.inn0 [] rfl) hc2)) ?_ ?_
      ·rintro _ w_22 ⟨rfl, hd12⟩
       have hS33 := hS24.out00 hd12
       have hS33 : ST w0 (bl [⟨B, 55, [.bool c.bad], 1⟩]) _ [⟨B, 55, [.bool bad1], 1⟩, ⟨aD b, 44, [vi A, vi B1, vi C, vi D, vi Exp], 5⟩, ⟨aD b1, 44, [vi A1, vi B2, vi C1, vi D1, vi Exp1], 5⟩, ⟨aD b2, 44, [vi 0, vi 0, vi 0, vi 0, vi 0], 5⟩] [] := hS33
       refine ⟨(ST.sel hS33 [1, 3] rfl rfl), ?_⟩
       refine ra_all (rs := [4]) (by kernel_rfl) rfl ?_
       refine ra_c 30 (i := 4) rfl rfl rfl (Yc_func (g := 33) (vs := [pt B 0, .agg #[vi r_3.A, vi r_3.B, vi r_3.C, vi r_3.D]]) k_call_33 rfl (mc rfl (mc rfl mn)) (c_spec_l2C_ring (Tl2C.mk bad1) r_3 B _  (hS33.inn [true, false, false, false] rfl [] rfl) hc3)) ?_ ?_
       ·rintro _ w_23 ⟨rfl, hd13⟩
        have hS34 := hS33.out [true, false, false, false] rfl hd13
        have hS34 : ST w0 (bl [⟨B, 55, [.bool c.bad], 1⟩]) _ [⟨aD b, 44, [vi A, vi B1, vi C, vi D, vi Exp], 5⟩, ⟨aD b1, 44, [vi A1, vi B2, vi C1, vi D1, vi Exp1], 5⟩, ⟨aD b2, 44, [vi 0, vi 0, vi 0, vi 0, vi 0], 5⟩, ⟨B, 55, [.bool m2.bad], 1⟩] [] := hS34
        refine ⟨(ST.sel hS34 [0, 2] rfl rfl), ?_⟩
        refine ra_q 8 34 (v := .agg #[vi r_4.A, vi r_4.B, vi r_4.C, vi r_4.D, vi (i64.wrap (Exp1 + 1))]) rfl rfl rfl (by kernel_rfl) (by kernel_rfl) (by kernel_rfl) (ST.sel hS34 [0, 2] rfl rfl) (fun w' hw' => (Y_buildS (zs := [vi 0, vi 0, vi 0, vi 0, vi 0]) (vs := [(0, .agg #[vi r_4.A, vi r_4.B, vi r_4.C, vi r_4.D]), (1, vi (i64.wrap (Exp1 + 1)))]) (cs := [vi r_4.A, vi r_4.B, vi r_4.C, vi r_4.D, vi (i64.wrap (Exp1 + 1))]) k_pl_44 k_zero_44 rfl (mpc rfl (mpc rfl mpn)) rfl)) ?_
        refine ra_all (rs := [9]) (by kernel_rfl) rfl ?_
        refine ra_s0 (i := 9) rfl rfl rfl (Ys_store (i := 1) (s := 5) (B := aD b1) (T' := 44) (v := .agg #[vi r_4.A, vi r_4.B, vi r_4.C, vi r_4.D, vi (i64.wrap (Exp1 + 1))]) (vs := [vi r_4.A, vi r_4.B, vi r_4.C, vi r_4.D, vi (i64.wrap (Exp1 + 1))]) (k := 0) (cs' := [vi r_4.A, vi r_4.B, vi r_4.C, vi r_4.D, vi (i64.wrap (Exp1 + 1))]) hS34 k_sz_44_5 rfl (hf2.get 5 2 rfl) rfl rfl rfl rfl rfl (Nat.le_of_ble_eq_true rfl) rfl rfl) ?_ ?_
        ·rintro _ w_24 ⟨rfl, hS35⟩
         have hS35 : ST w0 (bl [⟨B, 55, [.bool c.bad], 1⟩]) _ [⟨aD b, 44, [vi A, vi B1, vi C, vi D, vi Exp], 5⟩, ⟨aD b1, 44, [vi r_4.A, vi r_4.B, vi r_4.C, vi r_4.D, vi (i64.wrap (Exp1 + 1))], 5⟩, ⟨aD b2, 44, [vi 0, vi 0, vi 0, vi 0, vi 0], 5⟩, ⟨B, 55, [.bool m2.bad], 1⟩] [] := hS35
         refine ⟨(ST.sel hS35 [0, 2] rfl rfl), ?_⟩
         refine ra_done (by kernel_rfl) ?_
         exact ⟨(FF.cons (hf2.get 0 0 rfl) (FF.cons (hf2.get 4 1 rfl) (FF.cons (hf2.get 5 2 rfl) (FF.cons (hf2.get 6 3 rfl) FF.nil)))), (hS35.sel [3, 0, 1, 2] rfl rfl)⟩
        exact allR_nil
       exact allR_nil
      exact allR_nil
     exact allR_nil
    exact allR_nil
   rintro f w ⟨hf3, hS23⟩
   obtain rfl := some_inj hF5
   exact ⟨k_3, Nat.lt_succ_self _, m2.bad, r_4.A, r_4.B, r_4.C, r_4.D, (i64.wrap (Exp1 + 1)), (FF.cons (hf3.get 0 0 rfl) (FF.cons (hf3.get 4 1 rfl) (FF.cons (hf3.get 5 2 rfl) (FF.cons (hf3.get 6 3 rfl) FF.nil)))), (hS23.sel [0, 1, 2, 3] rfl rfl), hL3⟩
  ·skip
   have hF6 := cf' hb2 hb3
   refine cw_exit rfl ?_
   obtain rfl := some_inj hF6
   obtain rfl := some_inj hL3
   refine cw_seq ?_
   obtain ⟨r_5, hc4, hF4⟩ := bind_inv hF4
   obtain ⟨⟨r_6, m3⟩, hc5, hF4⟩ := bind_inv hF4
   obtain ⟨r_7, hc6, hF4⟩ := bind_inv hF4
   refine ra_start (ST.sel hS20 [1, 2] rfl rfl).fn (by kernel_rfl) ?_
   have hS39 := hS20.drew
   refine ra_q 0 35 (v := pt B 0) rfl rfl rfl (by kernel_rfl) (by kernel_rfl) (by kernel_rfl) (ST.sel hS39 [1, 2] rfl rfl) (fun w' hw' => (Y_move (v := pt B 0) rfl (hf2.get 0 0 rfl))) ?_
   refine ra_q 1 36 (v := pt (aD b) 0) rfl rfl rfl (by kernel_rfl) (by kernel_rfl) (by kernel_rfl) (ST.sel hS39 [1, 2] rfl rfl) (fun w' hw' => (Y_fieldAddr (B := aD b) (i := 0) (s := 3) k_fd_44_0_0_42 k_sz_42_4 rfl (hf2.get 4 1 rfl))) ?_
   refine ra_q 2 37 (v := .agg #[vi A, vi B1, vi C, vi D]) rfl rfl rfl (by kernel_rfl) (by kernel_rfl) (by kernel_rfl) (ST.sel hS39 [1, 2] rfl rfl) (fun w' hw' => (Y_loadA (B := aD b) (i := 0) (cs := [vi A, vi B1, vi C, vi D, vi Exp]) (vs := [vi A, vi B1, vi C, vi D]) k_ag_42 k_sz_42_4 rfl rfl (ST.cf hw' (i := 0) rfl) rfl rfl)) ?_
   refine ra_q 3 38 (v := pt (aD b1) 0) rfl rfl rfl (by kernel_rfl) (by kernel_rfl) (by kernel_rfl) (ST.sel hS39 [1, 2] rfl rfl) (fun w' hw' => (Y_fieldAddr (B := aD b1) (i := 0) (s := 3) k_fd_44_0_0_42 k_sz_42_4 rfl (hf2.get 5 2 rfl))) ?_
   refine ra_q 4 39 (v := .agg #[vi A1, vi B2, vi C1, vi D1]) rfl rfl rfl (by kernel_rfl) (by kernel_rfl) (by kernel_rfl) (ST.sel hS39 [1, 2] rfl rfl) (fun w' hw' => (Y_loadA (B := aD b1) (i := 0) (cs := [vi A1, vi B2, vi C1, vi D1, vi Exp1]) (vs := [vi A1, vi B2, vi C1, vi D1]) k_ag_42 k_sz_42_4 rfl rfl (ST.cf hw' (i := 1) rfl) rfl rfl)) ?_
   refine ra_q 7 42 (v := pt (aD b) 4) rfl rfl rfl (by kernel_rfl) (by kernel_rfl) (by kernel_rfl) (ST.sel hS39 [1, 2] rfl rfl) (fun w' hw' => (Y_fieldAddr (B := aD b) (i := 0) (s := 0) k_fd_44_1_4_3 k_sz_3_1 rfl (hf2.get 4 1 rfl))) ?_
   refine ra_q 8 43 (v := vi Exp) rfl rfl rfl (by kernel_rfl) (by kernel_rfl) (by kernel_rfl) (ST.sel hS39 [1, 2] rfl rfl) (fun w' hw' => (Y_load1 (B := aD b) (i := 4) (cs := [vi A, vi B1, vi C, vi D, vi Exp]) (v := vi Exp) k_sc_3 rfl rfl (ST.cf hw' (i := 0) rfl) rfl)) ?_
   refine ra_all (rs := [5]) (by kernel_rfl) rfl ?_
   refine ra_c 40 (i := 5) rfl rfl rfl (Yc_func (g := 36) (vs := [.agg #[vi A, vi B1, vi C, vi D], .agg #[vi A1, vi B2, vi C1, vi D1]]) k_call_36 rfl (mc rfl (mc rfl mn)) (c_spec_l1Add (TRing.mk A B1 C D) (TRing.mk A1 B2 C1 D1) _  (hS39.inn0 [] rfl) hc4)) ?_ ?_
   ·rintro _ w_25 ⟨rfl, hd14⟩
    have hS40 := hS39.out00 hd14
    have hS40 : ST w0 (bl [⟨B, 55, [.bool c.bad], 1⟩]) _ [⟨B, 55, [.bool bad1], 1⟩, ⟨aD b, 44, [vi A, vi B1, vi C, vi D, vi Exp], 5⟩, ⟨aD b1, 44, [vi A1, vi B2, vi C1, vi D1, vi Exp1], 5⟩, ⟨aD b2, 44, [vi 0, vi 0, vi 0, vi 0, vi 0], 5⟩] [] := hS40
    refine ⟨(ST.sel hS40 [1, 2] rfl rfl), ?_⟩
    refine ra_all (rs := [6]) (by kernel_rfl) rfl ?_
    refine ra_c 41 (i := 6) rfl rfl rfl (Yc_func (g := 33) (vs := [pt B 0, .agg #[vi r_5.A, vi r_5.B, vi r_5.C, vi r_5.D]]) k_call_33 rfl (mc rfl (mc rfl mn)) (c_spec_l2C_ring (Tl2C.mk bad1) r_5 B _  (hS40.inn [true, false, false, false] rfl [] rfl) hc5)) ?_ ?_
    ·rintro _ w_26 ⟨rfl, hd15⟩
     have hS41 := hS40.out [true, false, false, false] rfl hd15
     have hS41 : ST w0 (bl [⟨B, 55, [.bool c.bad], 1⟩]) _ [⟨aD b, 44, [vi A, vi B1, vi C, vi D, vi Exp], 5⟩, ⟨aD b1, 44, [vi A1, vi B2, vi C1, vi D1, vi Exp1], 5⟩, ⟨aD b2, 44, [vi 0, vi 0, vi 0, vi 0, vi 0], 5⟩, ⟨B, 55, [.bool m3.bad], 1⟩] [] := hS41
     refine ⟨(ST.sel hS41 [0, 1] rfl rfl), ?_⟩
     refine ra_all (rs := [9]) (by kernel_rfl) rfl ?_
     refine ra_c 44 (i := 9) rfl rfl rfl (Yc_func (g := 35) (vs := [.agg #[vi r_6.A, vi r_6.B, vi r_6.C, vi r_6.D], vi Exp]) k_call_35 rfl (mc rfl (mc rfl mn)) (c_spec_l2Low r_6 Exp _  (hS41.inn0 [] rfl) hc6)) ?_ ?_
     ·rintro _ w_27 ⟨rfl, hd16⟩
      have hS42 := hS41.out00 hd16
      have hS42 : ST w0 (bl [⟨B, 55, [.bool c.bad], 1⟩]) _ [⟨aD b, 44, [vi A, vi B1, vi C, vi D, vi Exp], 5⟩, ⟨aD b1, 44, [vi A1, vi B2, vi C1, vi D1, vi Exp1], 5⟩, ⟨aD b2, 44, [vi 0, vi 0, vi 0, vi 0, vi 0], 5⟩, ⟨B, 55, [.bool m3.bad], 1⟩] [] := hS42
      refine ⟨(ST.sel hS42 [0, 1] rfl rfl), ?_⟩
      refine ra_all (rs := [10]) (by kernel_rfl) rfl ?_
      refine ra_s0 (i := 10) rfl rfl rfl (Ys_store (i := 2) (s := 5) (B := aD b2) (T' := 44) (v := .agg #[vi r_7.Num.A, vi r_7.Num.B, vi r_7.Num.C, vi r_7.Num.D, vi r_7.Exp]) (vs := [vi r_7.Num.A, vi r_7.Num.B, vi r_7.Num.C, vi r_7.Num.D, vi r_7.Exp]) (k := 0) (cs' := [vi r_7.Num.A, vi r_7.Num.B, vi r_7.Num.C, vi r_7.Num.D, vi r_7.Exp]) hS42 k_sz_44_5 rfl (hf2.get 6 3 rfl) rfl rfl rfl rfl rfl (Nat.le_of_ble_eq_true rfl) rfl rfl) ?_ ?_
      ·rintro _ w_28 ⟨rfl, hS43⟩
       have hS43 : ST w0 (bl [⟨B, 55, [.bool c.bad], 1⟩]) _ [⟨aD b, 44, [vi A, vi B1, vi C, vi D, vi Exp], 5⟩, ⟨aD b1, 44, [vi A1, vi B2, vi C1, vi D1, vi Exp1], 5⟩, ⟨aD b2, 44, [vi r_7.Num.A, vi r_7.Num.B, vi r_7.Num.C, vi r_7.Num.D, vi r_7.Exp], 5⟩, ⟨B, 55, [.bool m3.bad], 1⟩] [] := hS43
       refine ⟨(ST.sel hS43 [0, 1] rfl rfl), ?_⟩
       refine ra_done (by kernel_rfl) ?_
       refine cw_ret ?_
       obtain ⟨rfl, rfl⟩ := pr2 (some_inj hF4)
       exact ret1 Tryd.results23 (v1 := .agg #[vi r_7.Num.A, vi r_7.Num.B, vi r_7.Num.C, vi r_7.Num.D, vi r_7.Exp]) (resAt_cellA (B := aD b2) (i := 0) (cs := [vi r_7.Num.A, vi r_7.Num.B, vi r_7.Num.C, vi r_7.Num.D, vi r_7.Exp]) (vs := [vi r_7.Num.A, vi r_7.Num.B, vi r_7.Num.C, vi r_7.Num.D, vi r_7.Exp]) (hf2.get 6 3 rfl) k_ag_44 k_sz_44_5 (hS43.cf (i := 2) rfl) rfl rfl) ⟨rfl, (ST.subR (R' := []) (hS43.sel [3] rfl rfl) (fun _ h => by cases h))⟩
      exact allR_nil
     exact allR_nil
    exact allR_nil
   exact allR_nil

theorem c_spec_l1Mul (x : TRing) (y : TRing)  (w0 : World)  (hS : ST w0 [] w0 [] []) {r_ : TRing} (hF : F_spec_l1Mul x y = some r_) :
  CV Tryd.prog 37 #[.agg #[vi x.A, vi x.B, vi x.C, vi x.D], .agg #[vi y.A, vi y.B, vi y.C, vi y.D]] w0 (fun v w' => v = .agg #[vi r_.A, vi r_.B, vi r_.C, vi r_.D] ∧ ST w0 [] w' [] []) := by
 unfold F_spec_l1Mul at hF
 refine cv_of_cw 98 Tryd.func37 rfl Tryd.ntmps37 rfl ?_
 refine cw_seq ?_
 refine cw_region ?_
 refine ss 2 rfl rfl (Ys_box (T := 42) (v := .agg #[vi x.A, vi x.B, vi x.C, vi x.D]) (cs := [vi x.A, vi x.B, vi x.C, vi x.D]) (m := 4) hS rfl rfl rfl rfl) ?_
 rintro _ w_ ⟨b, rfl, hS1⟩
 refine ss 3 rfl rfl (Ys_box (T := 42) (v := .agg #[vi y.A, vi y.B, vi y.C, vi y.D]) (cs := [vi y.A, vi y.B, vi y.C, vi y.D]) (m := 4) hS1 rfl rfl rfl rfl) ?_
 rintro _ w_1 ⟨b1, rfl, hS2⟩
 have hS2 : ST w0 [] _ [⟨aD b, 42, [vi x.A, vi x.B, vi x.C, vi x.D], 4⟩, ⟨aD b1, 42, [vi y.A, vi y.B, vi y.C, vi y.D], 4⟩] [] := hS2
 refine ss 4 rfl rfl (Ys_alloc (T := 42) (cs := [vi 0, vi 0, vi 0, vi 0]) (m := 4) hS2 k_zero_42 rfl rfl rfl) ?_
 rintro _ w_2 ⟨b2, rfl, hS3⟩
 have hS3 : ST w0 [] _ [⟨aD b, 42, [vi x.A, vi x.B, vi x.C, vi x.D], 4⟩, ⟨aD b1, 42, [vi y.A, vi y.B, vi y.C, vi y.D], 4⟩, ⟨aD b2, 42, [vi 0, vi 0, vi 0, vi 0], 4⟩] [] := hS3
 refine rw_nil ?_
 refine cw_seq ?_
 refine cw_region ?_
 refine sq 5 rfl rfl (Y_fieldAddr (B := aD b) (i := 0) (s := 0) k_fd_42_0_0_3 k_sz_3_1 rfl rfl) ?_
 refine sq 6 rfl rfl (Y_load1 (B := aD b) (i := 0) (cs := [vi x.A, vi x.B, vi x.C, vi x.D]) (v := vi x.A) k_sc_3 rfl rfl (hS3.cf (i := 0) rfl) rfl) ?_
 refine sq 7 rfl rfl (Y_fieldAddr (B := aD b1) (i := 0) (s := 0) k_fd_42_0_0_3 k_sz_3_1 rfl rfl) ?_
 refine sq 8 rfl rfl (Y_load1 (B := aD b1) (i := 0) (cs := [vi y.A, vi y.B, vi y.C, vi y.D]) (v := vi y.A) k_sc_3 rfl rfl (hS3.cf (i := 1) rfl) rfl) ?_
 refine sq 9 rfl rfl (Y_mul (k := .i64) (a := x.A) (b := y.A) rfl rfl rfl) ?_
 refine sq 10 rfl rfl (Y_fieldAddr (B := aD b) (i := 0) (s := 0) k_fd_42_1_1_3 k_sz_3_1 rfl rfl) ?_
 refine sq 11 rfl rfl (Y_load1 (B := aD b) (i := 1) (cs := [vi x.A, vi x.B, vi x.C, vi x.D]) (v := vi x.B) k_sc_3 rfl rfl (hS3.cf (i := 0) rfl) rfl) ?_
 refine sq 12 rfl rfl (Y_fieldAddr (B := aD b1) (i := 0) (s := 0) k_fd_42_3_3_3 k_sz_3_1 rfl rfl) ?_
 refine sq 13 rfl rfl (Y_load1 (B := aD b1) (i := 3) (cs := [vi y.A, vi y.B, vi y.C, vi y.D]) (v := vi y.D) k_sc_3 rfl rfl (hS3.cf (i := 1) rfl) rfl) ?_
 refine sq 14 rfl rfl (Y_mul (k := .i64) (a := x.B) (b := y.D) rfl rfl rfl) ?_
 refine sq 15 rfl rfl (Y_sub (k := .i64) (a := (i64.wrap (x.A * y.A))) (b := (i64.wrap (x.B * y.D))) rfl rfl rfl) ?_
 refine sq 16 rfl rfl (Y_fieldAddr (B := aD b) (i := 0) (s := 0) k_fd_42_2_2_3 k_sz_3_1 rfl rfl) ?_
 refine sq 17 rfl rfl (Y_load1 (B := aD b) (i := 2) (cs := [vi x.A, vi x.B, vi x.C, vi x.D]) (v := vi x.C) k_sc_3 rfl rfl (hS3.cf (i := 0) rfl) rfl) ?_
 refine sq 18 rfl rfl (Y_fieldAddr (B := aD b1) (i := 0) (s := 0) k_fd_42_2_2_3 k_sz_3_1 rfl rfl) ?_
 refine sq 19 rfl rfl (Y_load1 (B := aD b1) (i := 2) (cs := [vi y.A, vi y.B, vi y.C, vi y.D]) (v := vi y.C) k_sc_3 rfl rfl (hS3.cf (i := 1) rfl) rfl) ?_
 refine sq 20 rfl rfl (Y_mul (k := .i64) (a := x.C) (b := y.C) rfl rfl rfl) ?_
 refine sq 21 rfl rfl (Y_sub (k := .i64) (a := (i64.wrap ((i64.wrap (x.A * y.A)) - (i64.wrap (x.B * y.D))))) (b := (i64.wrap (x.C * y.C))) rfl rfl rfl) ?_
 refine sq 22 rfl rfl (Y_fieldAddr (B := aD b) (i := 0) (s := 0) k_fd_42_3_3_3 k_sz_3_1 rfl rfl) ?_
 refine sq 23 rfl rfl (Y_load1 (B := aD b) (i := 3) (cs := [vi x.A, vi x.B, vi x.C, vi x.D]) (v := vi x.D) k_sc_3 rfl rfl (hS3.cf (i := 0) rfl) rfl) ?_
 refine sq 24 rfl rfl (Y_fieldAddr (B := aD b1) (i := 0) (s := 0) k_fd_42_1_1_3 k_sz_3_1 rfl rfl) ?_
 refine sq 25 rfl rfl (Y_load1 (B := aD b1) (i := 1) (cs := [vi y.A, vi y.B, vi y.C, vi y.D]) (v := vi y.B) k_sc_3 rfl rfl (hS3.cf (i := 1) rfl) rfl) ?_
 refine sq 26 rfl rfl (Y_mul (k := .i64) (a := x.D) (b := y.B) rfl rfl rfl) ?_
 refine sq 27 rfl rfl (Y_sub (k := .i64) (a := (i64.wrap ((i64.wrap ((i64.wrap (x.A * y.A)) - (i64.wrap (x.B * y.D)))) - (i64.wrap (x.C * y.C))))) (b := (i64.wrap (x.D * y.B))) rfl rfl rfl) ?_
 refine sq 28 rfl rfl (Y_fieldAddr (B := aD b) (i := 0) (s := 0) k_fd_42_0_0_3 k_sz_3_1 rfl rfl) ?_
 refine sq 29 rfl rfl (Y_load1 (B := aD b) (i := 0) (cs := [vi x.A, vi x.B, vi x.C, vi x.D]) (v := vi x.A) k_sc_3 rfl rfl (hS3.cf (i := 0) rfl) rfl) ?_
 refine sq 30 rfl rfl (Y_fieldAddr (B := aD b1) (i := 0) (s := 0) k_fd_42_1_1_3 k_sz_3_1 rfl rfl) ?_
 refine sq 31 rfl rfl (Y_load1 (B := aD b1) (i := 1) (cs := [vi y.A, vi y.B, vi y.C, vi y.D]) (v := vi y.B) k_sc_3 rfl rfl (hS3.cf (i := 1) rfl) rfl) ?_
 refine sq 32 rfl rfl (Y_mul (k := .i64) (a := x.A) (b := y.B) rfl rfl rfl) ?_
 refine sq 33 rfl rfl (Y_fieldAddr (B := aD b) (i := 0) (s := 0) k_fd_42_1_1_3 k_sz_3_1 rfl rfl) ?_
 refine sq 34 rfl rfl (Y_load1 (B := aD b) (i := 1) (cs := [vi x.A, vi x.B, vi x.C, vi x.D]) (v := vi x.B) k_sc_3 rfl rfl (hS3.cf (i := 0) rfl) rfl) ?_
 refine sq 35 rfl rfl (Y_fieldAddr (B := aD b1) (i := 0) (s := 0) k_fd_42_0_0_3 k_sz_3_1 rfl rfl) ?_
 refine sq 36 rfl rfl (Y_load1 (B := aD b1) (i := 0) (cs := [vi y.A, vi y.B, vi y.C, vi y.D]) (v := vi y.A) k_sc_3 rfl rfl (hS3.cf (i := 1) rfl) rfl) ?_
 refine sq 37 rfl rfl (Y_mul (k := .i64) (a := x.B) (b := y.A) rfl rfl rfl) ?_
 refine sq 38 rfl rfl (Y_add (k := .i64) (a := (i64.wrap (x.A * y.B))) (b := (i64.wrap (x.B * y.A))) rfl rfl rfl) ?_
 refine sq 39 rfl rfl (Y_fieldAddr (B := aD b) (i := 0) (s := 0) k_fd_42_2_2_3 k_sz_3_1 rfl rfl) ?_
 refine sq 40 rfl rfl (Y_load1 (B := aD b) (i := 2) (cs := [vi x.A, vi x.B, vi x.C, vi x.D]) (v := vi x.C) k_sc_3 rfl rfl (hS3.cf (i := 0) rfl) rfl) ?_
 refine sq 41 rfl rfl (Y_fieldAddr (B := aD b1) (i := 0) (s := 0) k_fd_42_3_3_3 k_sz_3_1 rfl rfl) ?_
 refine sq 42 rfl rfl (Y_load1 (B := aD b1) (i := 3) (cs := [vi y.A, vi y.B, vi y.C, vi y.D]) (v := vi y.D) k_sc_3 rfl rfl (hS3.cf (i := 1) rfl) rfl) ?_
 refine sq 43 rfl rfl (Y_mul (k := .i64) (a := x.C) (b := y.D) rfl rfl rfl) ?_
 refine sq 44 rfl rfl (Y_sub (k := .i64) (a := (i64.wrap ((i64.wrap (x.A * y.B)) + (i64.wrap (x.B * y.A))))) (b := (i64.wrap (x.C * y.D))) rfl rfl rfl) ?_
 refine sq 45 rfl rfl (Y_fieldAddr (B := aD b) (i := 0) (s := 0) k_fd_42_3_3_3 k_sz_3_1 rfl rfl) ?_
 refine sq 46 rfl rfl (Y_load1 (B := aD b) (i := 3) (cs := [vi x.A, vi x.B, vi x.C, vi x.D]) (v := vi x.D) k_sc_3 rfl rfl (hS3.cf (i := 0) rfl) rfl) ?_
 refine sq 47 rfl rfl (Y_fieldAddr (B := aD b1) (i := 0) (s := 0) k_fd_42_2_2_3 k_sz_3_1 rfl rfl) ?_
 refine sq 48 rfl rfl (Y_load1 (B := aD b1) (i := 2) (cs := [vi y.A, vi y.B, vi y.C, vi y.D]) (v := vi y.C) k_sc_3 rfl rfl (hS3.cf (i := 1) rfl) rfl) ?_
 refine sq 49 rfl rfl (Y_mul (k := .i64) (a := x.D) (b := y.C) rfl rfl rfl) ?_
 refine sq 50 rfl rfl (Y_sub (k := .i64) (a := (i64.wrap ((i64.wrap ((i64.wrap (x.A * y.B)) + (i64.wrap (x.B * y.A)))) - (i64.wrap (x.C * y.D))))) (b := (i64.wrap (x.D * y.C))) rfl rfl rfl) ?_
 refine sq 51 rfl rfl (Y_fieldAddr (B := aD b) (i := 0) (s := 0) k_fd_42_0_0_3 k_sz_3_1 rfl rfl) ?_
 refine sq 52 rfl rfl (Y_load1 (B := aD b) (i := 0) (cs := [vi x.A, vi x.B, vi x.C, vi x.D]) (v := vi x.A) k_sc_3 rfl rfl (hS3.cf (i := 0) rfl) rfl) ?_
 refine sq 53 rfl rfl (Y_fieldAddr (B := aD b1) (i := 0) (s := 0) k_fd_42_2_2_3 k_sz_3_1 rfl rfl) ?_
 refine sq 54 rfl rfl (Y_load1 (B := aD b1) (i := 2) (cs := [vi y.A, vi y.B, vi y.C, vi y.D]) (v := vi y.C) k_sc_3 rfl rfl (hS3.cf (i := 1) rfl) rfl) ?_
 refine sq 55 rfl rfl (Y_mul (k := .i64) (a := x.A) (b := y.C) rfl rfl rfl) ?_
 refine sq 56 rfl rfl (Y_fieldAddr (B := aD b) (i := 0) (s := 0) k_fd_42_1_1_3 k_sz_3_1 rfl rfl) ?_
 refine sq 57 rfl rfl (Y_load1 (B := aD b) (i := 1) (cs := [vi x.A, vi x.B, vi x.C, vi x.D]) (v := vi x.B) k_sc_3 rfl rfl (hS3.cf (i := 0) rfl) rfl) ?_
 refine sq 58 rfl rfl (Y_fieldAddr (B := aD b1) (i := 0) (s := 0) k_fd_42_1_1_3 k_sz_3_1 rfl rfl) ?_
 refine sq 59 rfl rfl (Y_load1 (B := aD b1) (i := 1) (cs := [vi y.A, vi y.B, vi y.C, vi y.D]) (v := vi y.B) k_sc_3 rfl rfl (hS3.cf (i := 1) rfl) rfl) ?_
 refine sq 60 rfl rfl (Y_mul (k := .i64) (a := x.B) (b := y.B) rfl rfl rfl) ?_
 refine sq 61 rfl rfl (Y_add (k := .i64) (a := (i64.wrap (x.A * y.C))) (b := (i64.wrap (x.B * y.B))) rfl rfl rfl) ?_
 refine sq 62 rfl rfl (Y_fieldAddr (B := aD b) (i := 0) (s := 0) k_fd_42_2_2_3 k_sz_3_1 rfl rfl) ?_
 refine sq 63 rfl rfl (Y_load1 (B := aD b) (i := 2) (cs := [vi x.A, vi x.B, vi x.C, vi x.D]) (v := vi x.C) k_sc_3 rfl rfl (hS3.cf (i := 0) rfl) rfl) ?_
 refine sq 64 rfl rfl (Y_fieldAddr (B := aD b1) (i := 0) (s := 0) k_fd_42_0_0_3 k_sz_3_1 rfl rfl) ?_
 refine sq 65 rfl rfl (Y_load1 (B := aD b1) (i := 0) (cs := [vi y.A, vi y.B, vi y.C, vi y.D]) (v := vi y.A) k_sc_3 rfl rfl (hS3.cf (i := 1) rfl) rfl) ?_
 refine sq 66 rfl rfl (Y_mul (k := .i64) (a := x.C) (b := y.A) rfl rfl rfl) ?_
 refine sq 67 rfl rfl (Y_add (k := .i64) (a := (i64.wrap ((i64.wrap (x.A * y.C)) + (i64.wrap (x.B * y.B))))) (b := (i64.wrap (x.C * y.A))) rfl rfl rfl) ?_
 refine sq 68 rfl rfl (Y_fieldAddr (B := aD b) (i := 0) (s := 0) k_fd_42_3_3_3 k_sz_3_1 rfl rfl) ?_
 refine sq 69 rfl rfl (Y_load1 (B := aD b) (i := 3) (cs := [vi x.A, vi x.B, vi x.C, vi x.D]) (v := vi x.D) k_sc_3 rfl rfl (hS3.cf (i := 0) rfl) rfl) ?_
 refine sq 70 rfl rfl (Y_fieldAddr (B := aD b1) (i := 0) (s := 0) k_fd_42_3_3_3 k_sz_3_1 rfl rfl) ?_
 refine sq 71 rfl rfl (Y_load1 (B := aD b1) (i := 3) (cs := [vi y.A, vi y.B, vi y.C, vi y.D]) (v := vi y.D) k_sc_3 rfl rfl (hS3.cf (i := 1) rfl) rfl) ?_
 refine sq 72 rfl rfl (Y_mul (k := .i64) (a := x.D) (b := y.D) rfl rfl rfl) ?_
 refine sq 73 rfl rfl (Y_sub (k := .i64) (a := (i64.wrap ((i64.wrap ((i64.wrap (x.A * y.C)) + (i64.wrap (x.B * y.B)))) + (i64.wrap (x.C * y.A))))) (b := (i64.wrap (x.D * y.D))) rfl rfl rfl) ?_
 refine sq 74 rfl rfl (Y_fieldAddr (B := aD b) (i := 0) (s := 0) k_fd_42_0_0_3 k_sz_3_1 rfl rfl) ?_
 refine sq 75 rfl rfl (Y_load1 (B := aD b) (i := 0) (cs := [vi x.A, vi x.B, vi x.C, vi x.D]) (v := vi x.A) k_sc_3 rfl rfl (hS3.cf (i := 0) rfl) rfl) ?_
 refine sq 76 rfl rfl (Y_fieldAddr (B := aD b1) (i := 0) (s := 0) k_fd_42_3_3_3 k_sz_3_1 rfl rfl) ?_
 refine sq 77 rfl rfl (Y_load1 (B := aD b1) (i := 3) (cs := [vi y.A, vi y.B, vi y.C, vi y.D]) (v := vi y.D) k_sc_3 rfl rfl (hS3.cf (i := 1) rfl) rfl) ?_
 refine sq 78 rfl rfl (Y_mul (k := .i64) (a := x.A) (b := y.D) rfl rfl rfl) ?_
 refine sq 79 rfl rfl (Y_fieldAddr (B := aD b) (i := 0) (s := 0) k_fd_42_1_1_3 k_sz_3_1 rfl rfl) ?_
 refine sq 80 rfl rfl (Y_load1 (B := aD b) (i := 1) (cs := [vi x.A, vi x.B, vi x.C, vi x.D]) (v := vi x.B) k_sc_3 rfl rfl (hS3.cf (i := 0) rfl) rfl) ?_
 refine sq 81 rfl rfl (Y_fieldAddr (B := aD b1) (i := 0) (s := 0) k_fd_42_2_2_3 k_sz_3_1 rfl rfl) ?_
 refine sq 82 rfl rfl (Y_load1 (B := aD b1) (i := 2) (cs := [vi y.A, vi y.B, vi y.C, vi y.D]) (v := vi y.C) k_sc_3 rfl rfl (hS3.cf (i := 1) rfl) rfl) ?_
 refine sq 83 rfl rfl (Y_mul (k := .i64) (a := x.B) (b := y.C) rfl rfl rfl) ?_
 refine sq 84 rfl rfl (Y_add (k := .i64) (a := (i64.wrap (x.A * y.D))) (b := (i64.wrap (x.B * y.C))) rfl rfl rfl) ?_
 refine sq 85 rfl rfl (Y_fieldAddr (B := aD b) (i := 0) (s := 0) k_fd_42_2_2_3 k_sz_3_1 rfl rfl) ?_
 refine sq 86 rfl rfl (Y_load1 (B := aD b) (i := 2) (cs := [vi x.A, vi x.B, vi x.C, vi x.D]) (v := vi x.C) k_sc_3 rfl rfl (hS3.cf (i := 0) rfl) rfl) ?_
 refine sq 87 rfl rfl (Y_fieldAddr (B := aD b1) (i := 0) (s := 0) k_fd_42_1_1_3 k_sz_3_1 rfl rfl) ?_
 refine sq 88 rfl rfl (Y_load1 (B := aD b1) (i := 1) (cs := [vi y.A, vi y.B, vi y.C, vi y.D]) (v := vi y.B) k_sc_3 rfl rfl (hS3.cf (i := 1) rfl) rfl) ?_
 refine sq 89 rfl rfl (Y_mul (k := .i64) (a := x.C) (b := y.B) rfl rfl rfl) ?_
 refine sq 90 rfl rfl (Y_add (k := .i64) (a := (i64.wrap ((i64.wrap (x.A * y.D)) + (i64.wrap (x.B * y.C))))) (b := (i64.wrap (x.C * y.B))) rfl rfl rfl) ?_
 refine sq 91 rfl rfl (Y_fieldAddr (B := aD b) (i := 0) (s := 0) k_fd_42_3_3_3 k_sz_3_1 rfl rfl) ?_
 refine sq 92 rfl rfl (Y_load1 (B := aD b) (i := 3) (cs := [vi x.A, vi x.B, vi x.C, vi x.D]) (v := vi x.D) k_sc_3 rfl rfl (hS3.cf (i := 0) rfl) rfl) ?_
 refine sq 93 rfl rfl (Y_fieldAddr (B := aD b1) (i := 0) (s := 0) k_fd_42_0_0_3 k_sz_3_1 rfl rfl) ?_
 refine sq 94 rfl rfl (Y_load1 (B := aD b1) (i := 0) (cs := [vi y.A, vi y.B, vi y.C, vi y.D]) (v := vi y.A) k_sc_3 rfl rfl (hS3.cf (i := 1) rfl) rfl) ?_
 refine sq 95 rfl rfl (Y_mul (k := .i64) (a := x.D) (b := y.A) rfl rfl rfl) ?_
 refine sq 96 rfl rfl (Y_add (k := .i64) (a := (i64.wrap ((i64.wrap ((i64.wrap (x.A * y.D)) + (i64.wrap (x.B * y.C)))) + (i64.wrap (x.C * y.B))))) (b := (i64.wrap (x.D * y.A))) rfl rfl rfl) ?_
 refine sq 97 rfl rfl (Y_buildS (zs := [vi 0, vi 0, vi 0, vi 0]) (vs := [(0, vi (i64.wrap ((i64.wrap ((i64.wrap ((i64.wrap (x.A * y.A)) - (i64.wrap (x.B * y.D)))) - (i64.wrap (x.C * y.C)))) - (i64.wrap (x.D * y.B))))), (1, vi (i64.wrap ((i64.wrap ((i64.wrap ((i64.wrap (x.A * y.B)) + (i64.wrap (x.B * y.A)))) - (i64.wrap (x.C * y.D)))) - (i64.wrap (x.D * y.C))))), (2, vi (i64.wrap ((i64.wrap ((i64.wrap ((i64.wrap (x.A * y.C)) + (i64.wrap (x.B * y.B)))) + (i64.wrap (x.C * y.A)))) - (i64.wrap (x.D * y.D))))), (3, vi (i64.wrap ((i64.wrap ((i64.wrap ((i64.wrap (x.A * y.D)) + (i64.wrap (x.B * y.C)))) + (i64.wrap (x.C * y.B)))) + (i64.wrap (x.D * y.A)))))]) (cs := [vi (i64.wrap ((i64.wrap ((i64.wrap ((i64.wrap (x.A * y.A)) - (i64.wrap (x.B * y.D)))) - (i64.wrap (x.C * y.C)))) - (i64.wrap (x.D * y.B)))), vi (i64.wrap ((i64.wrap ((i64.wrap ((i64.wrap (x.A * y.B)) + (i64.wrap (x.B * y.A)))) - (i64.wrap (x.C * y.D)))) - (i64.wrap (x.D * y.C)))), vi (i64.wrap ((i64.wrap ((i64.wrap ((i64.wrap (x.A * y.C)) + (i64.wrap (x.B * y.B)))) + (i64.wrap (x.C * y.A)))) - (i64.wrap (x.D * y.D)))), vi (i64.wrap ((i64.wrap ((i64.wrap ((i64.wrap (x.A * y.D)) + (i64.wrap (x.B * y.C)))) + (i64.wrap (x.C * y.B)))) + (i64.wrap (x.D * y.A))))]) k_pl_42 k_zero_42 rfl (mpc rfl (mpc rfl (mpc rfl (mpc rfl mpn)))) rfl) ?_
 refine ss0 rfl rfl (Ys_store (i := 2) (s := 4) (B := aD b2) (T' := 42) (v := .agg #[vi (i64.wrap ((i64.wrap ((i64.wrap ((i64.wrap (x.A * y.A)) - (i64.wrap (x.B * y.D)))) - (i64.wrap (x.C * y.C)))) - (i64.wrap (x.D * y.B)))), vi (i64.wrap ((i64.wrap ((i64.wrap ((i64.wrap (x.A * y.B)) + (i64.wrap (x.B * y.A)))) - (i64.wrap (x.C * y.D)))) - (i64.wrap (x.D * y.C)))), vi (i64.wrap ((i64.wrap ((i64.wrap ((i64.wrap (x.A * y.C)) + (i64.wrap (x.B * y.B)))) + (i64.wrap (x.C * y.A)))) - (i64.wrap (x.D * y.D)))), vi (i64.wrap ((i64.wrap ((i64.wrap ((i64.wrap (x.A * y.D)) + (i64.wrap (x.B * y.C)))) + (i64.wrap (x.C * y.B)))) + (i64.wrap (x.D * y.A))))]) (vs := [vi (i64.wrap ((i64.wrap ((i64.wrap ((i64.wrap (x.A * y.A)) - (i64.wrap (x.B * y.D)))) - (i64.wrap (x.C * y.C)))) - (i64.wrap (x.D * y.B)))), vi (i64.wrap ((i64.wrap ((i64.wrap ((i64.wrap (x.A * y.B)) + (i64.wrap (x.B * y.A)))) - (i64.wrap (x.C * y.D)))) - (i64.wrap (x.D * y.C)))), vi (i64.wrap ((i64.wrap ((i64.wrap ((i64.wrap (x.A * y.C)) + (i64.wrap (x.B * y.B)))) + (i64.wrap (x.C * y.A)))) - (i64.wrap (x.D * y.D)))), vi (i64.wrap ((i64.wrap ((i64.wrap ((i64.wrap (x.A * y.D)) + (i64.wrap (x.B * y.C)))) + (i64.wrap (x.C * y.B)))) + (i64.wrap (x.D * y.A))))]) (k := 0) (cs' := [vi (i64.wrap ((i64.wrap ((i64.wrap ((i64.wrap (x.A * y.A)) - (i64.wrap (x.B * y.D)))) - (i64.wrap (x.C * y.C)))) - (i64.wrap (x.D * y.B)))), vi (i64.wrap ((i64.wrap ((i64.wrap ((i64.wrap (x.A * y.B)) + (i64.wrap (x.B * y.A)))) - (i64.wrap (x.C * y.D)))) - (i64.wrap (x.D * y.C)))), vi (i64.wrap ((i64.wrap ((i64.wrap ((i64.wrap (x.A * y.C)) + (i64.wrap (x.B * y.B)))) + (i64.wrap (x.C * y.A)))) - (i64.wrap (x.D * y.D)))), vi (i64.wrap ((i64.wrap ((i64.wrap ((i64.wrap (x.A * y.D)) + (i64.wrap (x.B * y.C)))) + (i64.wrap (x.C * y.B)))) + (i64.wrap (x.D * y.A))))]) hS3 k_sz_42_4 rfl rfl rfl rfl rfl rfl rfl (Nat.le_of_ble_eq_true rfl) rfl rfl) ?_
 rintro _ w_3 ⟨rfl, hS4⟩
 have hS4 : ST w0 [] _ [⟨aD b, 42, [vi x.A, vi x.B, vi x.C, vi x.D], 4⟩, ⟨aD b1, 42, [vi y.A, vi y.B, vi y.C, vi y.D], 4⟩, ⟨aD b2, 42, [vi (i64.wrap ((i64.wrap ((i64.wrap ((i64.wrap (x.A * y.A)) - (i64.wrap (x.B * y.D)))) - (i64.wrap (x.C * y.C)))) - (i64.wrap (x.D * y.B)))), vi (i64.wrap ((i64.wrap ((i64.wrap ((i64.wrap (x.A * y.B)) + (i64.wrap (x.B * y.A)))) - (i64.wrap (x.C * y.D)))) - (i64.wrap (x.D * y.C)))), vi (i64.wrap ((i64.wrap ((i64.wrap ((i64.wrap (x.A * y.C)) + (i64.wrap (x.B * y.B)))) + (i64.wrap (x.C * y.A)))) - (i64.wrap (x.D * y.D)))), vi (i64.wrap ((i64.wrap ((i64.wrap ((i64.wrap (x.A * y.D)) + (i64.wrap (x.B * y.C)))) + (i64.wrap (x.C * y.B)))) + (i64.wrap (x.D * y.A))))], 4⟩] [] := hS4
 refine rw_nil ?_
 refine cw_ret ?_
 obtain rfl := some_inj hF
 exact ret1 Tryd.results37 (v1 := .agg #[vi (i64.wrap ((i64.wrap ((i64.wrap ((i64.wrap (x.A * y.A)) - (i64.wrap (x.B * y.D)))) - (i64.wrap (x.C * y.C)))) - (i64.wrap (x.D * y.B)))), vi (i64.wrap ((i64.wrap ((i64.wrap ((i64.wrap (x.A * y.B)) + (i64.wrap (x.B * y.A)))) - (i64.wrap (x.C * y.D)))) - (i64.wrap (x.D * y.C)))), vi (i64.wrap ((i64.wrap ((i64.wrap ((i64.wrap (x.A * y.C)) + (i64.wrap (x.B * y.B)))) + (i64.wrap (x.C * y.A)))) - (i64.wrap (x.D * y.D)))), vi (i64.wrap ((i64.wrap ((i64.wrap ((i64.wrap (x.A * y.D)) + (i64.wrap (x.B * y.C)))) + (i64.wrap (x.C * y.B)))) + (i64.wrap (x.D * y.A))))]) (resAt_cellA (B := aD b2) (i := 0) (cs := [vi (i64.wrap ((i64.wrap ((i64.wrap ((i64.wrap (x.A * y.A)) - (i64.wrap (x.B * y.D)))) - (i64.wrap (x.C * y.C)))) - (i64.wrap (x.D * y.B)))), vi (i64.wrap ((i64.wrap ((i64.wrap ((i64.wrap (x.A * y.B)) + (i64.wrap (x.B * y.A)))) - (i64.wrap (x.C * y.D)))) - (i64.wrap (x.D * y.C)))), vi (i64.wrap ((i64.wrap ((i64.wrap ((i64.wrap (x.A * y.C)) + (i64.wrap (x.B * y.B)))) + (i64.wrap (x.C * y.A)))) - (i64.wrap (x.D * y.D)))), vi (i64.wrap ((i64.wrap ((i64.wrap ((i64.wrap (x.A * y.D)) + (i64.wrap (x.B * y.C)))) + (i64.wrap (x.C * y.B)))) + (i64.wrap (x.D * y.A))))]) (vs := [vi (i64.wrap ((i64.wrap ((i64.wrap ((i64.wrap (x.A * y.A)) - (i64.wrap (x.B * y.D)))) - (i64.wrap (x.C * y.C)))) - (i64.wrap (x.D * y.B)))), vi (i64.wrap ((i64.wrap ((i64.wrap ((i64.wrap (x.A * y.B)) + (i64.wrap (x.B * y.A)))) - (i64.wrap (x.C * y.D)))) - (i64.wrap (x.D * y.C)))), vi (i64.wrap ((i64.wrap ((i64.wrap ((i64.wrap (x.A * y.C)) + (i64.wrap (x.B * y.B)))) + (i64.wrap (x.C * y.A)))) - (i64.wrap (x.D * y.D)))), vi (i64.wrap ((i64.wrap ((i64.wrap ((i64.wrap (x.A * y.D)) + (i64.wrap (x.B * y.C)))) + (i64.wrap (x.C * y.B)))) + (i64.wrap (x.D * y.A))))]) rfl k_ag_42 k_sz_42_4 (hS4.cf (i := 2) rfl) rfl rfl) ⟨rfl, (ST.subR (R' := []) (hS4.sel [] rfl rfl) (fun _ h => by cases h))⟩

theorem c_spec_l2C_mul (c : Tl2C) (x : TDyadic) (y : TDyadic) (B : Option Addr) (w0 : World)  (hS : ST w0 (bl [⟨B, 55, [.bool c.bad], 1⟩]) w0 [⟨B, 55, [.bool c.bad], 1⟩] []) {r_ : TDyadic} {m : Tl2C} (hF : F_spec_l2C_mul c x y = some (r_, m)) :
  CV Tryd.prog 24 #[pt B 0, .agg #[vi x.Num.A, vi x.Num.B, vi x.Num.C, vi x.Num.D, vi x.Exp], .agg #[vi y.Num.A, vi y.Num.B, vi y.Num.C, vi y.Num.D, vi y.Exp]] w0 (fun v w' => v = .agg #[vi r_.Num.A, vi r_.Num.B, vi r_.Num.C, vi r_.Num.D, vi r_.Exp] ∧ ST w0 (bl [⟨B, 55, [.bool c.bad], 1⟩]) w' [⟨B, 55, [.bool m.bad], 1⟩] []) := by
 unfold F_spec_l2C_mul at hF
 refine cv_of_cw 30 Tryd.func24 rfl Tryd.ntmps24 rfl ?_
 refine cw_seq ?_
 refine cw_region ?_
 refine ss 4 rfl rfl (Ys_box (T := 44) (v := .agg #[vi x.Num.A, vi x.Num.B, vi x.Num.C, vi x.Num.D, vi x.Exp]) (cs := [vi x.Num.A, vi x.Num.B, vi x.Num.C, vi x.Num.D, vi x.Exp]) (m := 5) hS rfl rfl rfl rfl) ?_
 rintro _ w_ ⟨b, rfl, hS1⟩
 have hS1 : ST w0 (bl [⟨B, 55, [.bool c.bad], 1⟩]) _ [⟨B, 55, [.bool c.bad], 1⟩, ⟨aD b, 44, [vi x.Num.A, vi x.Num.B, vi x.Num.C, vi x.Num.D, vi x.Exp], 5⟩] [] := hS1
 refine ss 5 rfl rfl (Ys_box (T := 44) (v := .agg #[vi y.Num.A, vi y.Num.B, vi y.Num.C, vi y.Num.D, vi y.Exp]) (cs := [vi y.Num.A, vi y.Num.B, vi y.Num.C, vi y.Num.D, vi y.Exp]) (m := 5) hS1 rfl rfl rfl rfl) ?_
 rintro _ w_1 ⟨b1, rfl, hS2⟩
 have hS2 : ST w0 (bl [⟨B, 55, [.bool c.bad], 1⟩]) _ [⟨B, 55, [.bool c.bad], 1⟩, ⟨aD b, 44, [vi x.Num.A, vi x.Num.B, vi x.Num.C, vi x.Num.D, vi x.Exp], 5⟩, ⟨aD b1, 44, [vi y.Num.A, vi y.Num.B, vi y.Num.C, vi y.Num.D, vi y.Exp], 5⟩] [] := hS2
 refine ss 6 rfl rfl (Ys_alloc (T := 44) (cs := [vi 0, vi 0, vi 0, vi 0, vi 0]) (m := 5) hS2 k_zero_44 rfl rfl rfl) ?_
 rintro _ w_2 ⟨b2, rfl, hS3⟩
 have hS3 : ST w0 (bl [⟨B, 55, [.bool c.bad], 1⟩]) _ [⟨B, 55, [.bool c.bad], 1⟩, ⟨aD b, 44, [vi x.Num.A, vi x.Num.B, vi x.Num.C, vi x.Num.D, vi x.Exp], 5⟩, ⟨aD b1, 44, [vi y.Num.A, vi y.Num.B, vi y.Num.C, vi y.Num.D, vi y.Exp], 5⟩, ⟨aD b2, 44, [vi 0, vi 0, vi 0, vi 0, vi 0], 5⟩] [] := hS3
 refine rw_nil ?_
 refine cw_seq ?_
 refine cw_seq ?_
 refine cw_region ?_
 refine sq 7 rfl rfl (Y_fieldAddr (B := aD b) (i := 0) (s := 0) k_fd_44_1_4_3 k_sz_3_1 rfl rfl) ?_
 refine sq 8 rfl rfl (Y_load1 (B := aD b) (i := 4) (cs := [vi x.Num.A, vi x.Num.B, vi x.Num.C, vi x.Num.D, vi x.Exp]) (v := vi x.Exp) k_sc_3 rfl rfl (hS3.cf (i := 1) rfl) rfl) ?_
 refine sq 9 rfl rfl (Y_fieldAddr (B := aD b1) (i := 0) (s := 0) k_fd_44_1_4_3 k_sz_3_1 rfl rfl) ?_
 refine sq 10 rfl rfl (Y_load1 (B := aD b1) (i := 4) (cs := [vi y.Num.A, vi y.Num.B, vi y.Num.C, vi y.Num.D, vi y.Exp]) (v := vi y.Exp) k_sc_3 rfl rfl (hS3.cf (i := 2) rfl) rfl) ?_
 refine sq 11 rfl rfl (Y_add (k := .i64) (a := x.Exp) (b := y.Exp) rfl rfl rfl) ?_
 refine sq 12 rfl rfl (Y_gt (k := .i64) (a := (i64.wrap (x.Exp + y.Exp))) (b := 60) rfl rfl rfl) ?_
 refine rw_nil ?_
 refine cw_cond (b := (decide (60 < (i64.wrap (x.Exp + y.Exp))))) rfl (fun hb => ?_) (fun hb => ?_)
 ·skip
  have hF1 := ct hF hb
  refine cw_seq ?_
  refine cw_region ?_
  refine sq 13 rfl rfl (Y_move (v := pt B 0) rfl rfl) ?_
  refine sq 14 rfl rfl (Y_nilCheck (B := B) (i := 0) rfl rfl) ?_
  refine sq 15 rfl rfl (Y_fieldAddr (B := B) (i := 0) (s := 0) k_fd_55_0_0_4 k_sz_4_1 rfl rfl) ?_
  refine ss0 rfl rfl (Ys_store (i := 0) (s := 1) (B := B) (T' := 55) (v := .bool true) (vs := [.bool true]) (k := 0) (cs' := [.bool true]) hS3 k_sz_4_1 rfl rfl rfl rfl rfl rfl rfl (Nat.le_of_ble_eq_true rfl) rfl rfl) ?_
  rintro _ w_3 ⟨rfl, hS4⟩
  have hS4 : ST w0 (bl [⟨B, 55, [.bool c.bad], 1⟩]) _ [⟨B, 55, [.bool true], 1⟩, ⟨aD b, 44, [vi x.Num.A, vi x.Num.B, vi x.Num.C, vi x.Num.D, vi x.Exp], 5⟩, ⟨aD b1, 44, [vi y.Num.A, vi y.Num.B, vi y.Num.C, vi y.Num.D, vi y.Exp], 5⟩, ⟨aD b2, 44, [vi 0, vi 0, vi 0, vi 0, vi 0], 5⟩] [] := hS4
  refine rw_nil ?_
  refine cw_seq ?_
  refine cw_region ?_
  refine sq 16 rfl rfl (Y_buildS (zs := [vi 0, vi 0, vi 0, vi 0, vi 0]) (vs := []) (cs := [vi 0, vi 0, vi 0, vi 0, vi 0]) k_pl_44 k_zero_44 rfl mpn rfl) ?_
  refine ss0 rfl rfl (Ys_store (i := 3) (s := 5) (B := aD b2) (T' := 44) (v := .agg #[vi 0, vi 0, vi 0, vi 0, vi 0]) (vs := [vi 0, vi 0, vi 0, vi 0, vi 0]) (k := 0) (cs' := [vi 0, vi 0, vi 0, vi 0, vi 0]) hS4 k_sz_44_5 rfl rfl rfl rfl rfl rfl rfl (Nat.le_of_ble_eq_true rfl) rfl rfl) ?_
  rintro _ w_4 ⟨rfl, hS5⟩
  have hS5 : ST w0 (bl [⟨B, 55, [.bool c.bad], 1⟩]) _ [⟨B, 55, [.bool true], 1⟩, ⟨aD b, 44, [vi x.Num.A, vi x.Num.B, vi x.Num.C, vi x.Num.D, vi x.Exp], 5⟩, ⟨aD b1, 44, [vi y.Num.A, vi y.Num.B, vi y.Num.C, vi y.Num.D, vi y.Exp], 5⟩, ⟨aD b2, 44, [vi 0, vi 0, vi 0, vi 0, vi 0], 5⟩] [] := hS5
  refine rw_nil ?_
  refine cw_ret ?_
  obtain ⟨rfl, rfl⟩ := pr2 (some_inj hF1)
  exact ret1 Tryd.results24 (v1 := .agg #[vi 0, vi 0, vi 0, vi 0, vi 0]) (resAt_cellA (B := aD b2) (i := 0) (cs := [vi 0, vi 0, vi 0, vi 0, vi 0]) (vs := [vi 0, vi 0, vi 0, vi 0, vi 0]) rfl k_ag_44 k_sz_44_5 (hS5.cf (i := 3) rfl) rfl rfl) ⟨rfl, (ST.subR (R' := []) (hS5.sel [0] rfl rfl) (fun _ h => by cases h))⟩
 ·skip
  have hF2 := cf' hF hb
  refine cw_skip ?_
  refine cw_seq ?_
  obtain ⟨r_1, hc, hF2⟩ := bind_inv hF2
  obtain ⟨⟨r_2, m1⟩, hc1, hF2⟩ := bind_inv hF2
  obtain ⟨r_3, hc2, hF2⟩ := bind_inv hF2
  refine ra_start (ST.sel hS3 [1, 2] rfl rfl).fn (by kernel_rfl) ?_
  have hS9 := hS3.drew
  refine ra_q 0 17 (v := pt B 0) rfl rfl rfl (by kernel_rfl) (by kernel_rfl) (by kernel_rfl) (ST.sel hS9 [1, 2] rfl rfl) (fun w' hw' => (Y_move (v := pt B 0) rfl rfl)) ?_
  refine ra_q 1 18 (v := pt (aD b) 0) rfl rfl rfl (by kernel_rfl) (by kernel_rfl) (by kernel_rfl) (ST.sel hS9 [1, 2] rfl rfl) (fun w' hw' => (Y_fieldAddr (B := aD b) (i := 0) (s := 3) k_fd_44_0_0_42 k_sz_42_4 rfl rfl)) ?_
  refine ra_q 2 19 (v := .agg #[vi x.Num.A, vi x.Num.B, vi x.Num.C, vi x.Num.D]) rfl rfl rfl (by kernel_rfl) (by kernel_rfl) (by kernel_rfl) (ST.sel hS9 [1, 2] rfl rfl) (fun w' hw' => (Y_loadA (B := aD b) (i := 0) (cs := [vi x.Num.A, vi x.Num.B, vi x.Num.C, vi x.Num.D, vi x.Exp]) (vs := [vi x.Num.A, vi x.Num.B, vi x.Num.C, vi x.Num.D]) k_ag_42 k_sz_42_4 rfl rfl (ST.cf hw' (i := 0) rfl) rfl rfl)) ?_
  refine ra_q 3 20 (v := pt (aD b1) 0) rfl rfl rfl (by kernel_rfl) (by kernel_rfl) (by kernel_rfl) (ST.sel hS9 [1, 2] rfl rfl) (fun w' hw' => (Y_fieldAddr (B := aD b1) (i := 0) (s := 3) k_fd_44_0_0_42 k_sz_42_4 rfl rfl)) ?_
  refine ra_q 4 21 (v := .agg #[vi y.Num.A, vi y.Num.B, vi y.Num.C, vi y.Num.D]) rfl rfl rfl (by kernel_rfl) (by kernel_rfl) (by kernel_rfl) (ST.sel hS9 [1, 2] rfl rfl) (fun w' hw' => (Y_loadA (B := aD b1) (i := 0) (cs := [vi y.Num.A, vi y.Num.B, vi y.Num.C, vi y.Num.D, vi y.Exp]) (vs := [vi y.Num.A, vi y.Num.B, vi y.Num.C, vi y.Num.D]) k_ag_42 k_sz_42_4 rfl rfl (ST.cf hw' (i := 1) rfl) rfl rfl)) ?_
  refine ra_q 7 24 (v := pt (aD b) 4) rfl rfl rfl (by kernel_rfl) (by kernel_rfl) (by kernel_rfl) (ST.sel hS9 [1, 2] rfl rfl) (fun w' hw' => (Y_fieldAddr (B := aD b) (i := 0) (s := 0) k_fd_44_1_4_3 k_sz_3_1 rfl rfl)) ?_
  refine ra_q 8 25 (v := vi x.Exp) rfl rfl rfl (by kernel_rfl) (by kernel_rfl) (by kernel_rfl) (ST.sel hS9 [1, 2] rfl rfl) (fun w' hw' => (Y_load1 (B := aD b) (i := 4) (cs := [vi x.Num.A, vi x.Num.B, vi x.Num.C, vi x.Num.D, vi x.Exp]) (v := vi x.Exp) k_sc_3 rfl rfl (ST.cf hw' (i := 0) rfl) rfl)) ?_
  refine ra_q 9 26 (v := pt (aD b1) 4) rfl rfl rfl (by kernel_rfl) (by kernel_rfl) (by kernel_rfl) (ST.sel hS9 [1, 2] rfl rfl) (fun w' hw' => (Y_fieldAddr (B := aD b1) (i := 0) (s := 0) k_fd_44_1_4_3 k_sz_3_1 rfl rfl)) ?_
  refine ra_q 10 27 (v := vi y.Exp) rfl rfl rfl (by kernel_rfl) (by kernel_rfl) (by kernel_rfl) (ST.sel hS9 [1, 2] rfl rfl) (fun w' hw' => (Y_load1 (B := aD b1) (i := 4) (cs := [vi y.Num.A, vi y.Num.B, vi y.Num.C, vi y.Num.D, vi y.Exp]) (v := vi y.Exp) k_sc_3 rfl rfl (ST.cf hw' (i := 1) rfl) rfl)) ?_
  refine ra_q 11 28 (v := vi (i64.wrap (x.Exp + y.Exp))) rfl rfl rfl (by kernel_rfl) (by kernel_rfl) (by kernel_rfl) (ST.sel hS9 [1, 2] rfl rfl) (fun w' hw' => (Y_add (k := .i64) (a := x.Exp) (b := y.Exp) rfl rfl rfl)) ?_
  refine ra_all (rs := [5]) (by kernel_rfl) rfl ?_
  refine ra_c 22 (i := 5) rfl rfl rfl (Yc_func (g := 37) (vs := [.agg #[vi x.Num.A, vi x.Num.B, vi x.Num.C, vi x.Num.D], .agg #[vi y.Num.A, vi y.Num.B, vi y.Num.C, vi y.Num.D]]) k_call_37 rfl (mc rfl (mc rfl mn)) (c_spec_l1Mul x.Num y.Num _  (hS9.inn0 [] rfl) hc)) ?_ ?_
  ·rintro _ w_5 ⟨rfl, hd⟩
   have hS10 := hS9.out00 hd
   have hS10 : ST w0 (bl [⟨B, 55, [.bool c.bad], 1⟩]) _ [⟨B, 55, [.bool c.bad], 1⟩, ⟨aD b, 44, [vi x.Num.A, vi x.Num.B, vi x.Num.C, vi x.Num.D, vi x.Exp], 5⟩, ⟨aD b1, 44, [vi y.Num.A, vi y.Num.B, vi y.Num.C, vi y.Num.D, vi y.Exp], 5⟩, ⟨aD b2, 44, [vi 0, vi 0, vi 0, vi 0, vi 0], 5⟩] [] := hS10
   refine ⟨(ST.sel hS10 [1, 2] rfl rfl), ?_⟩
   refine ra_all (rs := [6]) (by kernel_rfl) rfl ?_
   refine ra_c 23 (i := 6) rfl rfl rfl (Yc_func (g := 33) (vs := [pt B 0, .agg #[vi r_1.A, vi r_1.B, vi r_1.C, vi r_1.D]]) k_call_33 rfl (mc rfl (mc rfl mn)) (c_spec_l2C_ring c r_1 B _  (hS10.inn [true, false, false, false] rfl [] rfl) hc1)) ?_ ?_
   ·rintro _ w_6 ⟨rfl, hd1⟩
    have hS11 := hS10.out [true, false, false, false] rfl hd1
    have hS11 : ST w0 (bl [⟨B, 55, [.bool c.bad], 1⟩]) _ [⟨aD b, 44, [vi x.Num.A, vi x.Num.B, vi x.Num.C, vi x.Num.D, vi x.Exp], 5⟩, ⟨aD b1, 44, [vi y.Num.A, vi y.Num.B, vi y.Num.C, vi y.Num.D, vi y.Exp], 5⟩, ⟨aD b2, 44, [vi 0, vi 0, vi 0, vi 0, vi 0], 5⟩, ⟨B, 55, [.bool m1.bad], 1⟩] [] := hS11
    refine ⟨(ST.sel hS11 [0, 1] rfl rfl), ?_⟩
    refine ra_all (rs := [12]) (by kernel_rfl) rfl ?_
    refine ra_c 29 (i := 12) rfl rfl rfl (Yc_func (g := 35) (vs := [.agg #[vi r_2.A, vi r_2.B, vi r_2.C, vi r_2.D], vi (i64.wrap (x.Exp + y.Exp))]) k_call_35 rfl (mc rfl (mc rfl mn)) (c_spec_l2Low r_2 (i64.wrap (x.Exp + y.Exp)) _  (hS11.inn0 [] rfl) hc2)) ?_ ?_
    ·rintro _ w_7 ⟨rfl, hd2⟩
     have hS12 := hS11.out00 hd2
     have hS12 : ST w0 (bl [⟨B, 55, [.bool c.bad], 1⟩]) _ [⟨aD b, 44, [vi x.Num.A, vi x.Num.B, vi x.Num.C, vi x.Num.D, vi x.Exp], 5⟩, ⟨aD b1, 44, [vi y.Num.A, vi y.Num.B, vi y.Num.C, vi y.Num.D, vi y.Exp], 5⟩, ⟨aD b2, 44, [vi 0, vi 0, vi 0, vi 0, vi 0], 5⟩, ⟨B, 55, [.bool m1.bad], 1⟩] [] := hS12
     refine ⟨(ST.sel hS12 [0, 1] rfl rfl), ?_⟩
     refine ra_all (rs := [13]) (by kernel_rfl) rfl ?_
     refine ra_s0 (i := 13) rfl rfl rfl (Ys_store (i := 2) (s := 5) (B := aD b2) (T' := 44) (v := .agg #[vi r_3.Num.A, vi r_3.Num.B, vi r_3.Num.C, vi r_3.Num.D, vi r_3.Exp]) (vs := [vi r_3.Num.A, vi r_3.Num.B, vi r_3.Num.C, vi r_3.Num.D, vi r_3.Exp]) (k := 0) (cs' := [vi r_3.Num.A, vi r_3.Num.B, vi r_3.Num.C, vi r_3.Num.D, vi r_3.Exp]) hS12 k_sz_44_5 rfl rfl rfl rfl rfl rfl rfl (Nat.le_of_ble_eq_true rfl) rfl rfl) ?_ ?_
     ·rintro _ w_8 ⟨rfl, hS13⟩
      have hS13 : ST w0 (bl [⟨B, 55, [.bool c.bad], 1⟩]) _ [⟨aD b, 44, [vi x.Num.A, vi x.Num.B, vi x.Num.C, vi x.Num.D, vi x.Exp], 5⟩, ⟨aD b1, 44, [vi y.Num.A, vi y.Num.B, vi y.Num.C, vi y.Num.D, vi y.Exp], 5⟩, ⟨aD b2, 44, [vi r_3.Num.A, vi r_3.Num.B, vi r_3.Num.C, vi r_3.Num.D, vi r_3.Exp], 5⟩, ⟨B, 55, [.bool m1.bad], 1⟩] [] := hS13
      refine ⟨(ST.sel hS13 [0, 1] rfl rfl), ?_⟩
      refine ra_done (by kernel_rfl) ?_
      refine cw_ret ?_
      obtain ⟨rfl, rfl⟩ := pr2 (some_inj hF2)
      exact ret1 Tryd.results24 (v1 := .agg #[vi r_3.Num.A, vi r_3.Num.B, vi r_3.Num.C, vi r_3.Num.D, vi r_3.Exp]) (resAt_cellA (B := aD b2) (i := 0) (cs := [vi r_3.Num.A, vi r_3.Num.B, vi r_3.Num.C, vi r_3.Num.D, vi r_3.Exp]) (vs := [vi r_3.Num.A, vi r_3.Num.B, vi r_3.Num.C, vi r_3.Num.D, vi r_3.Exp]) rfl k_ag_44 k_sz_44_5 (hS13.cf (i := 2) rfl) rfl rfl) ⟨rfl, (ST.subR (R' := []) (hS13.sel [3] rfl rfl) (fun _ h => by cases h))⟩
     exact allR_nil
    exact allR_nil
   exact allR_nil
  exact allR_nil

theorem c_spec_l2C_times (c : Tl2C) (a : TMatrix) (b : TMatrix) (B : Option Addr) (B1 : Option Addr) (c1 n : Nat) (B2 : Option Addr) (c2 n1 : Nat) (w0 : World) (hn : a.Cells.length = n) (hn1 : b.Cells.length = n1) (hS : ST w0 (bl [⟨B, 55, [.bool c.bad], 1⟩]) w0 [⟨B, 55, [.bool c.bad], 1⟩] [⟨B1, (a.Cells.flatMap eN0)⟩, ⟨B2, (b.Cells.flatMap eN0)⟩]) {r_ : TMatrix} {m : Tl2C} (hF : F_spec_l2C_times c a b = some (r_, m)) :
  CV Tryd.prog 20 #[pt B 0, .agg #[vi a.Rows, vi a.Cols, .slice B1 n c1], .agg #[vi b.Rows, vi b.Cols, .slice B2 n1 c2]] w0 (fun v w' => ∃ (B3 : Option Addr) (c3 : Nat), v = .agg #[vi r_.Rows, vi r_.Cols, .slice B3 r_.Cells.length c3] ∧ ST w0 (bl [⟨B, 55, [.bool c.bad], 1⟩]) w' [⟨B, 55, [.bool m.bad], 1⟩, ⟨B3, 44, (r_.Cells.flatMap eN0), c3 * 5⟩] []) := by
 subst hn
 subst hn1
 unfold F_spec_l2C_times at hF
 refine cv_of_cw 75 Tryd.func20 rfl Tryd.ntmps20 rfl ?_
 refine cw_seq ?_
 refine cw_region ?_
 refine ss 4 rfl rfl (Ys_box (T := 38) (v := .agg #[vi a.Rows, vi a.Cols, .slice B1 a.Cells.length c1]) (cs := [vi a.Rows, vi a.Cols, .slice B1 a.Cells.length c1]) (m := 3) hS rfl rfl rfl rfl) ?_
 rintro _ w_ ⟨b1, rfl, hS1⟩
 have hS1 : ST w0 (bl [⟨B, 55, [.bool c.bad], 1⟩]) _ [⟨B, 55, [.bool c.bad], 1⟩, ⟨aD b1, 38, [vi a.Rows, vi a.Cols, .slice B1 a.Cells.length c1], 3⟩] [⟨B1, (a.Cells.flatMap eN0)⟩, ⟨B2, (b.Cells.flatMap eN0)⟩] := hS1
 refine ss 5 rfl rfl (Ys_box (T := 38) (v := .agg #[vi b.Rows, vi b.Cols, .slice B2 b.Cells.length c2]) (cs := [vi b.Rows, vi b.Cols, .slice B2 b.Cells.length c2]) (m := 3) hS1 rfl rfl rfl rfl) ?_
 rintro _ w_1 ⟨b2, rfl, hS2⟩
 have hS2 : ST w0 (bl [⟨B, 55, [.bool c.bad], 1⟩]) _ [⟨B, 55, [.bool c.bad], 1⟩, ⟨aD b1, 38, [vi a.Rows, vi a.Cols, .slice B1 a.Cells.length c1], 3⟩, ⟨aD b2, 38, [vi b.Rows, vi b.Cols, .slice B2 b.Cells.length c2], 3⟩] [⟨B1, (a.Cells.flatMap eN0)⟩, ⟨B2, (b.Cells.flatMap eN0)⟩] := hS2
 refine ss 6 rfl rfl (Ys_alloc (T := 38) (cs := [vi 0, vi 0, .slice none 0 0]) (m := 3) hS2 k_zero_38 rfl rfl rfl) ?_
 rintro _ w_2 ⟨b3, rfl, hS3⟩
 have hS3 : ST w0 (bl [⟨B, 55, [.bool c.bad], 1⟩]) _ [⟨B, 55, [.bool c.bad], 1⟩, ⟨aD b1, 38, [vi a.Rows, vi a.Cols, .slice B1 a.Cells.length c1], 3⟩, ⟨aD b2, 38, [vi b.Rows, vi b.Cols, .slice B2 b.Cells.length c2], 3⟩, ⟨aD b3, 38, [vi 0, vi 0, .slice none 0 0], 3⟩] [⟨B1, (a.Cells.flatMap eN0)⟩, ⟨B2, (b.Cells.flatMap eN0)⟩] := hS3
 refine rw_nil ?_
 refine cw_seq ?_
 refine cw_region ?_
 refine sq 12 rfl rfl (Y_fieldAddr (B := aD b1) (i := 0) (s := 0) k_fd_38_0_0_3 k_sz_3_1 rfl rfl) ?_
 refine sq 13 rfl rfl (Y_load1 (B := aD b1) (i := 0) (cs := [vi a.Rows, vi a.Cols, .slice B1 a.Cells.length c1]) (v := vi a.Rows) k_sc_3 rfl rfl (hS3.cf (i := 1) rfl) rfl) ?_
 refine sq 14 rfl rfl (Y_fieldAddr (B := aD b2) (i := 0) (s := 0) k_fd_38_1_1_3 k_sz_3_1 rfl rfl) ?_
 refine sq 15 rfl rfl (Y_load1 (B := aD b2) (i := 1) (cs := [vi b.Rows, vi b.Cols, .slice B2 b.Cells.length c2]) (v := vi b.Cols) k_sc_3 rfl rfl (hS3.cf (i := 2) rfl) rfl) ?_
 refine sq 16 rfl rfl (Y_buildS (zs := [vi 0, vi 0, .slice none 0 0]) (vs := [(0, vi a.Rows), (1, vi b.Cols)]) (cs := [vi a.Rows, vi b.Cols, .slice none 0 0]) k_pl_38 k_zero_38 rfl (mpc rfl (mpc rfl mpn)) rfl) ?_
 refine ss 7 rfl rfl (Ys_alloc (T := 38) (cs := [vi 0, vi 0, .slice none 0 0]) (m := 3) hS3 k_zero_38 rfl rfl rfl) ?_
 rintro _ w_3 ⟨b4, rfl, hS4⟩
 have hS4 : ST w0 (bl [⟨B, 55, [.bool c.bad], 1⟩]) _ [⟨B, 55, [.bool c.bad], 1⟩, ⟨aD b1, 38, [vi a.Rows, vi a.Cols, .slice B1 a.Cells.length c1], 3⟩, ⟨aD b2, 38, [vi b.Rows, vi b.Cols, .slice B2 b.Cells.length c2], 3⟩, ⟨aD b3, 38, [vi 0, vi 0, .slice none 0 0], 3⟩, ⟨aD b4, 38, [vi 0, vi 0, .slice none 0 0], 3⟩] [⟨B1, (a.Cells.flatMap eN0)⟩, ⟨B2, (b.Cells.flatMap eN0)⟩] := hS4
 refine ss0 rfl rfl (Ys_store (i := 4) (s := 3) (B := aD b4) (T' := 38) (v := .agg #[vi a.Rows, vi b.Cols, .slice none 0 0]) (vs := [vi a.Rows, vi b.Cols, .slice none 0 0]) (k := 0) (cs' := [vi a.Rows, vi b.Cols, .slice none 0 0]) hS4 k_sz_38_3 rfl rfl rfl rfl rfl rfl rfl (Nat.le_of_ble_eq_true rfl) rfl rfl) ?_
 rintro _ w_4 ⟨rfl, hS5⟩
 have hS5 : ST w0 (bl [⟨B, 55, [.bool c.bad], 1⟩]) _ [⟨B, 55, [.bool c.bad], 1⟩, ⟨aD b1, 38, [vi a.Rows, vi a.Cols, .slice B1 a.Cells.length c1], 3⟩, ⟨aD b2, 38, [vi b.Rows, vi b.Cols, .slice B2 b.Cells.length c2], 3⟩, ⟨aD b3, 38, [vi 0, vi 0, .slice none 0 0], 3⟩, ⟨aD b4, 38, [vi a.Rows, vi b.Cols, .slice none 0 0], 3⟩] [⟨B1, (a.Cells.flatMap eN0)⟩, ⟨B2, (b.Cells.flatMap eN0)⟩] := hS5
 refine rw_nil ?_
 refine cw_seq ?_
 refine cw_seq ?_
 refine cw_region ?_
 refine sq 8 rfl rfl (Y_assign (v := vi 0) rfl rfl) ?_
 refine rw_nil ?_
 obtain ⟨hN, hF⟩ := chk_inv hF
 obtain ⟨z, hz, hF1⟩ := bind_inv hF
 have hS7 := hS5.addNil 44
 refine cw_block ?_
 refine cw_loop (fun k f w => ∃ (i1 : Nat) (bad : Bool) (Cells : List TDyadic) (B4 : Option Addr) (c4 : Nat), FF f [(0, pt B 0), (4, pt (aD b1) 0), (5, pt (aD b2) 0), (6, pt (aD b3) 0), (7, pt (aD b4) 0), (8, vi (i1 : Int))] ∧ ST w0 (bl [⟨B, 55, [.bool c.bad], 1⟩]) w [⟨B, 55, [.bool bad], 1⟩, ⟨aD b1, 38, [vi a.Rows, vi a.Cols, .slice B1 a.Cells.length c1], 3⟩, ⟨aD b2, 38, [vi b.Rows, vi b.Cols, .slice B2 b.Cells.length c2], 3⟩, ⟨aD b3, 38, [vi 0, vi 0, .slice none 0 0], 3⟩, ⟨aD b4, 38, [vi a.Rows, vi b.Cols, .slice B4 Cells.length c4], 3⟩, ⟨B4, 44, (Cells.flatMap eN0), c4 * 5⟩] [⟨B1, (a.Cells.flatMap eN0)⟩, ⟨B2, (b.Cells.flatMap eN0)⟩] ∧ i1 + k = a.Rows.toNat ∧ forN (F_spec_l2C_times_l1 b a) k i1 (bad, Cells) = some z) a.Rows.toNat ⟨0, c.bad, [], none, 0, (FF.cons rfl (FF.cons rfl (FF.cons rfl (FF.cons rfl (FF.cons rfl (FF.cons rfl FF.nil)))))), (hS7.sel [0, 1, 2, 3, 4, 5] rfl rfl), Nat.zero_add _, hz⟩ ?_
 rintro k_ f w ⟨i1, bad, Cells, B4, c4, hf, hS6, hik, hL⟩
 refine cw_seq ?_
 refine cw_seq ?_
 refine cw_region ?_
 refine sq 17 rfl rfl (Y_move (v := vi (i1 : Int)) rfl (hf.get 8 5 rfl)) ?_
 refine sq 18 rfl rfl (Y_fieldAddr (B := aD b1) (i := 0) (s := 0) k_fd_38_0_0_3 k_sz_3_1 rfl (hf.get 4 1 rfl)) ?_
 refine sq 19 rfl rfl (Y_load1 (B := aD b1) (i := 0) (cs := [vi a.Rows, vi a.Cols, .slice B1 a.Cells.length c1]) (v := vi a.Rows) k_sc_3 rfl rfl (hS6.cf (i := 1) rfl) rfl) ?_
 refine sq 20 rfl rfl (Y_lt (k := .i64) (a := (i1 : Int)) (b := a.Rows) rfl rfl rfl) ?_
 refine rw_nil ?_
 refine cw_cond (b := (decide ((i1 : Int) < a.Rows))) rfl (fun hlt => ?_) (fun hlt => ?_)
 ·skip
  have hlt1 : i1 < a.Rows.toNat := by have h := of_decide_eq_true hlt; omega
  obtain ⟨k_1, rfl⟩ : ∃ k2, k_ = k2 + 1 := ⟨k_ - 1, by omega⟩
  obtain ⟨y, hb, hL1⟩ := forN_go hL
  unfold F_spec_l2C_times_l1 at hb
  refine cw_skip ?_
  refine cw_seq ?_
  refine cw_block ?_
  refine cw_seq ?_
  refine cw_region ?_
  refine sq 9 rfl rfl (Y_assign (v := vi 0) rfl rfl) ?_
  refine rw_nil ?_
  obtain ⟨hN1, hb⟩ := chk_inv hb
  obtain ⟨z1, hz1, hF2⟩ := bind_inv hb
  refine cw_block ?_
  refine cw_loop (fun k f w => ∃ (j : Nat) (bad1 : Bool) (Cells1 : List TDyadic) (B5 : Option Addr) (c5 : Nat), FF f [(0, pt B 0), (4, pt (aD b1) 0), (5, pt (aD b2) 0), (6, pt (aD b3) 0), (7, pt (aD b4) 0), (8, vi (i1 : Int)), (9, vi (j : Int))] ∧ ST w0 (bl [⟨B, 55, [.bool c.bad], 1⟩]) w [⟨B, 55, [.bool bad1], 1⟩, ⟨aD b1, 38, [vi a.Rows, vi a.Cols, .slice B1 a.Cells.length c1], 3⟩, ⟨aD b2, 38, [vi b.Rows, vi b.Cols, .slice B2 b.Cells.length c2], 3⟩, ⟨aD b3, 38, [vi 0, vi 0, .slice none 0 0], 3⟩, ⟨aD b4, 38, [vi a.Rows, vi b.Cols, .slice B5 Cells1.length c5], 3⟩, ⟨B5, 44, (Cells1.flatMap eN0), c5 * 5⟩] [⟨B1, (a.Cells.flatMap eN0)⟩, ⟨B2, (b.Cells.flatMap eN0)⟩] ∧ j + k = b.Cols.toNat ∧ forN (F_spec_l2C_times_l2 a Cells i1 b bad) k j (bad1, Cells1) = some z1) b.Cols.toNat ⟨0, bad, Cells, B4, c4, (FF.cons (hf.get 0 0 rfl) (FF.cons (hf.get 4 1 rfl) (FF.cons (hf.get 5 2 rfl) (FF.cons (hf.get 6 3 rfl) (FF.cons (hf.get 7 4 rfl) (FF.cons (hf.get 8 5 rfl) (FF.cons rfl FF.nil))))))), (hS6.sel [0, 1, 2, 3, 4, 5] rfl rfl), Nat.zero_add _, hz1⟩ ?_
  rintro k_2 f w ⟨j, bad1, Cells1, B5, c5, hf1, hS8, hik1, hL2⟩
  refine cw_seq ?_
  refine cw_seq ?_
  refine cw_region ?_
  refine sq 23 rfl rfl (Y_move (v := vi (j : Int)) rfl (hf1.get 9 6 rfl)) ?_
  refine sq 24 rfl rfl (Y_fieldAddr (B := aD b2) (i := 0) (s := 0) k_fd_38_1_1_3 k_sz_3_1 rfl (hf1.get 5 2 rfl)) ?_
  refine sq 25 rfl rfl (Y_load1 (B := aD b2) (i := 1) (cs := [vi b.Rows, vi b.Cols, .slice B2 b.Cells.length c2]) (v := vi b.Cols) k_sc_3 rfl rfl (hS8.cf (i := 2) rfl) rfl) ?_
  refine sq 26 rfl rfl (Y_lt (k := .i64) (a := (j : Int)) (b := b.Cols) rfl rfl rfl) ?_
  refine rw_nil ?_
  refine cw_cond (b := (decide ((j : Int) < b.Cols))) rfl (fun hlt2 => ?_) (fun hlt2 => ?_)
  ·skip
   have hlt3 : j < b.Cols.toNat := by have h := of_decide_eq_true hlt2; omega
   obtain ⟨k_3, rfl⟩ : ∃ k2, k_2 = k2 + 1 := ⟨k_2 - 1, by omega⟩
   obtain ⟨y1, hb1, hL3⟩ := forN_go hL2
   unfold F_spec_l2C_times_l2 at hb1
   refine cw_skip ?_
   refine cw_seq ?_
   refine cw_block ?_
   refine cw_seq ?_
   refine cw_region ?_
   refine sq 29 rfl rfl (Y_buildS (zs := [vi 0, vi 0, vi 0, vi 0, vi 0]) (vs := []) (cs := [vi 0, vi 0, vi 0, vi 0, vi 0]) k_pl_44 k_zero_44 rfl mpn rfl) ?_
   refine ss 10 rfl rfl (Ys_alloc (T := 44) (cs := [vi 0, vi 0, vi 0, vi 0, vi 0]) (m := 5) hS8 k_zero_44 rfl rfl rfl) ?_
   rintro _ w_5 ⟨b5, rfl, hS9⟩
   have hS9 : ST w0 (bl [⟨B, 55, [.bool c.bad], 1⟩]) _ [⟨B, 55, [.bool bad1], 1⟩, ⟨aD b1, 38, [vi a.Rows, vi a.Cols, .slice B1 a.Cells.length c1], 3⟩, ⟨aD b2, 38, [vi b.Rows, vi b.Cols, .slice B2 b.Cells.length c2], 3⟩, ⟨aD b3, 38, [vi 0, vi 0, .slice none 0 0], 3⟩, ⟨aD b4, 38, [vi a.Rows, vi b.Cols, .slice B5 Cells1.length c5], 3⟩, ⟨B5, 44, (Cells1.flatMap eN0), c5 * 5⟩, ⟨aD b5, 44, [vi 0, vi 0, vi 0, vi 0, vi 0], 5⟩] [⟨B1, (a.Cells.flatMap eN0)⟩, ⟨B2, (b.Cells.flatMap eN0)⟩] := hS9
   refine ss0 rfl rfl (Ys_store (i := 6) (s := 5) (B := aD b5) (T' := 44) (v := .agg #[vi 0, vi 0, vi 0, vi 0, vi 0]) (vs := [vi 0, vi 0, vi 0, vi 0, vi 0]) (k := 0) (cs' := [vi 0, vi 0, vi 0, vi 0, vi 0]) hS9 k_sz_44_5 rfl rfl rfl rfl rfl rfl rfl (Nat.le_of_ble_eq_true rfl) rfl rfl) ?_
   rintro _ w_6 ⟨rfl, hS10⟩
   have hS10 : ST w0 (bl [⟨B, 55, [.bool c.bad], 1⟩]) _ [⟨B, 55, [.bool bad1], 1⟩, ⟨aD b1, 38, [vi a.Rows, vi a.Cols, .slice B1 a.Cells.length c1], 3⟩, ⟨aD b2, 38, [vi b.Rows, vi b.Cols, .slice B2 b.Cells.length c2], 3⟩, ⟨aD b3, 38, [vi 0, vi 0, .slice none 0 0], 3⟩, ⟨aD b4, 38, [vi a.Rows, vi b.Cols, .slice B5 Cells1.length c5], 3⟩, ⟨B5, 44, (Cells1.flatMap eN0), c5 * 5⟩, ⟨aD b5, 44, [vi 0, vi 0, vi 0, vi 0, vi 0], 5⟩] [⟨B1, (a.Cells.flatMap eN0)⟩, ⟨B2, (b.Cells.flatMap eN0)⟩] := hS10
   refine rw_nil ?_
   refine cw_seq ?_
   refine cw_seq ?_
   refine cw_region ?_
   refine sq 11 rfl rfl (Y_assign (v := vi 0) rfl rfl) ?_
   refine rw_nil ?_
   obtain ⟨z2, hz2, hF3⟩ := bind_inv hb1
   refine cw_block ?_
   refine cw_loop (fun k f w => ∃ (bad2 : Bool) (A : Int) (B6 : Int) (C : Int) (D : Int) (Exp : Int) (k_4 : Int), FF f [(0, pt B 0), (4, pt (aD b1) 0), (5, pt (aD b2) 0), (6, pt (aD b3) 0), (7, pt (aD b4) 0), (8, vi (i1 : Int)), (9, vi (j : Int)), (10, pt (aD b5) 0), (11, vi k_4)] ∧ ST w0 (bl [⟨B, 55, [.bool c.bad], 1⟩]) w [⟨B, 55, [.bool bad2], 1⟩, ⟨aD b1, 38, [vi a.Rows, vi a.Cols, .slice B1 a.Cells.length c1], 3⟩, ⟨aD b2, 38, [vi b.Rows, vi b.Cols, .slice B2 b.Cells.length c2], 3⟩, ⟨aD b3, 38, [vi 0, vi 0, .slice none 0 0], 3⟩, ⟨aD b4, 38, [vi a.Rows, vi b.Cols, .slice B5 Cells1.length c5], 3⟩, ⟨B5, 44, (Cells1.flatMap eN0), c5 * 5⟩, ⟨aD b5, 44, [vi A, vi B6, vi C, vi D, vi Exp], 5⟩] [⟨B1, (a.Cells.flatMap eN0)⟩, ⟨B2, (b.Cells.flatMap eN0)⟩] ∧ whX (F_spec_l2C_times_l3 a Cells i1 b j bad) k (bad2, A, B6, C, D, Exp, k_4) = some z2) fuel ⟨bad1, 0, 0, 0, 0, 0, 0, (FF.cons (hf1.get 0 0 rfl) (FF.cons (hf1.get 4 1 rfl) (FF.cons (hf1.get 5 2 rfl) (FF.cons (hf1.get 6 3 rfl) (FF.cons (hf1.get 7 4 rfl) (FF.cons (hf1.get 8 5 rfl) (FF.cons (hf1.get 9 6 rfl) (FF.cons rfl (FF.cons rfl FF.nil))))))))), (hS10.sel [0, 1, 2, 3, 4, 5, 6] rfl rfl), hz2⟩ ?_
   rintro k_5 f w ⟨bad2, A, B6, C, D, Exp, k_4, hf2, hS11, hL4⟩
   obtain ⟨k_6, y2, rfl, hb2, hL5⟩ := whX_go hL4
   unfold F_spec_l2C_times_l3 at hb2
   refine cw_seq ?_
   refine cw_seq ?_
   refine cw_region ?_
   refine sq 30 rfl rfl (Y_move (v := vi k_4) rfl (hf2.get 11 8 rfl)) ?_
   refine sq 31 rfl rfl (Y_fieldAddr (B := aD b1) (i := 0) (s := 0) k_fd_38_1_1_3 k_sz_3_1 rfl (hf2.get 4 1 rfl)) ?_
   refine sq 32 rfl rfl (Y_load1 (B := aD b1) (i := 1) (cs := [vi a.Rows, vi a.Cols, .slice B1 a.Cells.length c1]) (v := vi a.Cols) k_sc_3 rfl rfl (hS11.cf (i := 1) rfl) rfl) ?_
   refine sq 33 rfl rfl (Y_lt (k := .i64) (a := k_4) (b := a.Cols) rfl rfl rfl) ?_
   refine sq 34 rfl rfl (Y_move (v := .bool (decide (k_4 < a.Cols))) rfl rfl) ?_
   refine sgq 35 (B := (decide (k_4 < a.Cols))) (v := pt B 0) rfl rfl (wt_t (gd_of (t := 34) (by kernel_rfl) rfl)) (fun hg => (Y_move (v := pt B 0) rfl (hf2.get 0 0 rfl))) ?_
   refine sgq 36 (B := (decide (k_4 < a.Cols))) (v := pt B 0) rfl rfl (wt_t (gd_of (t := 34) (by kernel_rfl) rfl)) (fun hg1 => (Y_nilCheck (B := B) (i := 0) rfl (gv_of (B := (decide (k_4 < a.Cols))) (v := pt B 0) hg1))) ?_
   refine sgq 37 (B := (decide (k_4 < a.Cols))) (v := pt B 0) rfl rfl (wt_t (gd_of (t := 34) (by kernel_rfl) rfl)) (fun hg2 => (Y_fieldAddr (B := B) (i := 0) (s := 0) k_fd_55_0_0_4 k_sz_4_1 rfl (gv_of (B := (decide (k_4 < a.Cols))) (v := pt B 0) hg2))) ?_
   refine sgq 38 (B := (decide (k_4 < a.Cols))) (v := .bool bad2) rfl rfl (wt_t (gd_of (t := 34) (by kernel_rfl) rfl)) (fun hg3 => (Y_load1 (B := B) (i := 0) (cs := [.bool bad2]) (v := .bool bad2) k_sc_4 rfl (gv_of (B := (decide (k_4 < a.Cols))) (v := pt B 0) hg3) (hS11.cf (i := 0) rfl) rfl)) ?_
   refine sgq 39 (B := (decide (k_4 < a.Cols))) (v := .bool (!bad2)) rfl rfl (wt_t (gd_of (t := 34) (by kernel_rfl) rfl)) (fun hg4 => (Y_not (p := bad2) rfl (gv_of (B := (decide (k_4 < a.Cols))) (v := .bool bad2) hg4))) ?_
   refine sq 40 rfl rfl (Y_and (b := (decide (k_4 < a.Cols))) (z := (!bad2)) rfl rfl rfl rfl) ?_
   refine rw_nil ?_
   refine cw_cond (b := ((decide (k_4 < a.Cols)) && (!bad2))) rfl (fun hb3 => ?_) (fun hb3 => ?_)
   ·skip
    have hF4 := ct hb2 hb3
    refine cw_skip ?_
    refine cw_seq ?_
    refine cw_block ?_
    obtain ⟨x, hx, hF4⟩ := bind_inv hF4
    obtain ⟨x1, hx1, hF4⟩ := bind_inv hF4
    obtain ⟨⟨r_1, m1⟩, hc, hF4⟩ := bind_inv hF4
    obtain ⟨⟨r_2, m2⟩, hc1, hF4⟩ := bind_inv hF4
    refine cw_mid (fun f w => FF f [(0, pt B 0), (4, pt (aD b1) 0), (5, pt (aD b2) 0), (6, pt (aD b3) 0), (7, pt (aD b4) 0), (8, vi (i1 : Int)), (9, vi (j : Int)), (10, pt (aD b5) 0), (11, vi k_4)] ∧ ST w0 (bl [⟨B, 55, [.bool c.bad], 1⟩]) w [⟨B, 55, [.bool m2.bad], 1⟩, ⟨aD b1, 38, [vi a.Rows, vi a.Cols, .slice B1 a.Cells.length c1], 3⟩, ⟨aD b2, 38, [vi b.Rows, vi b.Cols, .slice B2 b.Cells.length c2], 3⟩, ⟨aD b3, 38, [vi 0, vi 0, .slice none 0 0], 3⟩, ⟨aD b4, 38, [vi a.Rows, vi b.Cols, .slice B5 Cells1.length c5], 3⟩, ⟨B5, 44, (Cells1.flatMap eN0), c5 * 5⟩, ⟨aD b5, 44, [vi r_2.Num.A, vi r_2.Num.B, vi r_2.Num.C, vi r_2.Num.D, vi r_2.Exp], 5⟩] [⟨B1, (a.Cells.flatMap eN0)⟩, ⟨B2, (b.Cells.flatMap eN0)⟩]) ?_ ?_
    ·skip
     refine ra_start (ST.sel hS11 [1, 2, 3, 4, 5] rfl rfl).fn (by kernel_rfl) ?_
     have hS15 := hS11.drew
     refine ra_q 0 43 (v := pt B 0) rfl rfl rfl (by kernel_rfl) (by kernel_rfl) (by kernel_rfl) (ST.sel hS15 [1, 2, 3, 4, 5] rfl rfl) (fun w' hw' => (Y_move (v := pt B 0) rfl (hf2.get 0 0 rfl))) ?_
     refine ra_q 2 45 (v := pt B 0) rfl rfl rfl (by kernel_rfl) (by kernel_rfl) (by kernel_rfl) (ST.sel hS15 [1, 2, 3, 4, 5] rfl rfl) (fun w' hw' => (Y_move (v := pt B 0) rfl (hf2.get 0 0 rfl))) ?_
     refine ra_q 3 46 (v := pt (aD b1) 2) rfl rfl rfl (by kernel_rfl) (by kernel_rfl) (by kernel_rfl) (ST.sel hS15 [1, 2, 3, 4, 5] rfl rfl) (fun w' hw' => (Y_fieldAddr (B := aD b1) (i := 0) (s := 0) k_fd_38_2_2_32 k_sz_32_1 rfl (hf2.get 4 1 rfl))) ?_
     refine ra_q 4 47 (v := .slice B1 a.Cells.length c1) rfl rfl rfl (by kernel_rfl) (by kernel_rfl) (by kernel_rfl) (ST.sel hS15 [1, 2, 3, 4, 5] rfl rfl) (fun w' hw' => (Y_load1 (B := aD b1) (i := 2) (cs := [vi a.Rows, vi a.Cols, .slice B1 a.Cells.length c1]) (v := .slice B1 a.Cells.length c1) k_sc_32 rfl rfl (ST.cf hw' (i := 0) rfl) rfl)) ?_
     refine ra_q 5 48 (v := vi (i1 : Int)) rfl rfl rfl (by kernel_rfl) (by kernel_rfl) (by kernel_rfl) (ST.sel hS15 [1, 2, 3, 4, 5] rfl rfl) (fun w' hw' => (Y_move (v := vi (i1 : Int)) rfl (hf2.get 8 5 rfl))) ?_
     refine ra_q 6 49 (v := pt (aD b1) 1) rfl rfl rfl (by kernel_rfl) (by kernel_rfl) (by kernel_rfl) (ST.sel hS15 [1, 2, 3, 4, 5] rfl rfl) (fun w' hw' => (Y_fieldAddr (B := aD b1) (i := 0) (s := 0) k_fd_38_1_1_3 k_sz_3_1 rfl (hf2.get 4 1 rfl))) ?_
     refine ra_q 7 50 (v := vi a.Cols) rfl rfl rfl (by kernel_rfl) (by kernel_rfl) (by kernel_rfl) (ST.sel hS15 [1, 2, 3, 4, 5] rfl rfl) (fun w' hw' => (Y_load1 (B := aD b1) (i := 1) (cs := [vi a.Rows, vi a.Cols, .slice B1 a.Cells.length c1]) (v := vi a.Cols) k_sc_3 rfl rfl (ST.cf hw' (i := 0) rfl) rfl)) ?_
     refine ra_q 8 51 (v := vi (i64.wrap ((i1 : Int) * a.Cols))) rfl rfl rfl (by kernel_rfl) (by kernel_rfl) (by kernel_rfl) (ST.sel hS15 [1, 2, 3, 4, 5] rfl rfl) (fun w' hw' => (Y_mul (k := .i64) (a := (i1 : Int)) (b := a.Cols) rfl rfl rfl)) ?_
     refine ra_q 9 52 (v := vi k_4) rfl rfl rfl (by kernel_rfl) (by kernel_rfl) (by kernel_rfl) (ST.sel hS15 [1, 2, 3, 4, 5] rfl rfl) (fun w' hw' => (Y_move (v := vi k_4) rfl (hf2.get 11 8 rfl))) ?_
     refine ra_q 10 53 (v := vi (i64.wrap ((i64.wrap ((i1 : Int) * a.Cols)) + k_4))) rfl rfl rfl (by kernel_rfl) (by kernel_rfl) (by kernel_rfl) (ST.sel hS15 [1, 2, 3, 4, 5] rfl rfl) (fun w' hw' => (Y_add (k := .i64) (a := (i64.wrap ((i1 : Int) * a.Cols))) (b := k_4) rfl rfl rfl)) ?_
     refine ra_q 11 54 (v := pt B1 ((i64.wrap ((i64.wrap ((i1 : Int) * a.Cols)) + k_4)).toNat * 5)) rfl rfl rfl (by kernel_rfl) (by kernel_rfl) (by kernel_rfl) (ST.sel hS15 [1, 2, 3, 4, 5] rfl rfl) (fun w' hw' => (Y_index (B := B1) (m := a.Cells.length) (c := c1) (k := .i64) (i := (i64.wrap ((i64.wrap ((i1 : Int) * a.Cols)) + k_4))) k_sl_32_44 k_sz_44_5 rfl rfl rfl (gi_isSome eN3 rfl (ST.rf hw' (i := 0) rfl) hx) (getI_nn hx) (getI_ltI hx rfl))) ?_
     refine ra_q 12 55 (v := .agg #[vi x.Num.A, vi x.Num.B, vi x.Num.C, vi x.Num.D, vi x.Exp]) rfl rfl rfl (by kernel_rfl) (by kernel_rfl) (by kernel_rfl) (ST.sel hS15 [1, 2, 3, 4, 5] rfl rfl) (fun w' hw' => (Y_loadA (B := B1) (i := (i64.wrap ((i64.wrap ((i1 : Int) * a.Cols)) + k_4)).toNat * 5) (cs := (a.Cells.flatMap eN0)) (vs := [vi x.Num.A, vi x.Num.B, vi x.Num.C, vi x.Num.D, vi x.Exp]) k_ag_44 k_sz_44_5 rfl rfl (ST.rf hw' (i := 0) rfl) (eN3 x) (gi_seg eN3 hx))) ?_
     refine ra_q 13 56 (v := pt (aD b2) 2) rfl rfl rfl (by kernel_rfl) (by kernel_rfl) (by kernel_rfl) (ST.sel hS15 [1, 2, 3, 4, 5] rfl rfl) (fun w' hw' => (Y_fieldAddr (B := aD b2) (i := 0) (s := 0) k_fd_38_2_2_32 k_sz_32_1 rfl (hf2.get 5 2 rfl))) ?_
     refine ra_q 14 57 (v := .slice B2 b.Cells.length c2) rfl rfl rfl (by kernel_rfl) (by kernel_rfl) (by kernel_rfl) (ST.sel hS15 [1, 2, 3, 4, 5] rfl rfl) (fun w' hw' => (Y_load1 (B := aD b2) (i := 2) (cs := [vi b.Rows, vi b.Cols, .slice B2 b.Cells.length c2]) (v := .slice B2 b.Cells.length c2) k_sc_32 rfl rfl (ST.cf hw' (i := 1) rfl) rfl)) ?_
     refine ra_q 15 58 (v := vi k_4) rfl rfl rfl (by kernel_rfl) (by kernel_rfl) (by kernel_rfl) (ST.sel hS15 [1, 2, 3, 4, 5] rfl rfl) (fun w' hw' => (Y_move (v := vi k_4) rfl (hf2.get 11 8 rfl))) ?_
     refine ra_q 16 59 (v := pt (aD b2) 1) rfl rfl rfl (by kernel_rfl) (by kernel_rfl) (by kernel_rfl) (ST.sel hS15 [1, 2, 3, 4, 5] rfl rfl) (fun w' hw' => (Y_fieldAddr (B := aD b2) (i := 0) (s := 0) k_fd_38_1_1_3 k_sz_3_1 rfl (hf2.get 5 2 rfl))) ?_
     refine ra_q 17 60 (v := vi b.Cols) rfl rfl rfl (by kernel_rfl) (by kernel_rfl) (by kernel_rfl) (ST.sel hS15 [1, 2, 3, 4, 5] rfl rfl) (fun w' hw' => (Y_load1 (B := aD b2) (i := 1) (cs := [vi b.Rows, vi b.Cols, .slice B2 b.Cells.length c2]) (v := vi b.Cols) k_sc_3 rfl rfl (ST.cf hw' (i := 1) rfl) rfl)) ?_
     refine ra_q 18 61 (v := vi (i64.wrap (k_4 * b.Cols))) rfl rfl rfl (by kernel_rfl) (by kernel_rfl) (by kernel_rfl) (ST.sel hS15 [1, 2, 3, 4, 5] rfl rfl) (fun w' hw' => (Y_mul (k := .i64) (a := k_4) (b := b.Cols) rfl rfl rfl)) ?_
     refine ra_q 19 62 (v := vi (j : Int)) rfl rfl rfl (by kernel_rfl) (by kernel_rfl) (by kernel_rfl) (ST.sel hS15 [1, 2, 3, 4, 5] rfl rfl) (fun w' hw' => (Y_move (v := vi (j : Int)) rfl (hf2.get 9 6 rfl))) ?_
     refine ra_q 20 63 (v := vi (i64.wrap ((i64.wrap (k_4 * b.Cols)) + (j : Int)))) rfl rfl rfl (by kernel_rfl) (by kernel_rfl) (by kernel_rfl) (ST.sel hS15 [1, 2, 3, 4, 5] rfl rfl) (fun w' hw' => (Y_add (k := .i64) (a := (i64.wrap (k_4 * b.Cols))) (b := (j : Int)) rfl rfl rfl)) ?_
     refine ra_q 21 64 (v := pt B2 ((i64.wrap ((i64.wrap (k_4 * b.Cols)) + (j : Int))).toNat * 5)) rfl rfl rfl (by kernel_rfl) (by kernel_rfl) (by kernel_rfl) (ST.sel hS15 [1, 2, 3, 4, 5] rfl rfl) (fun w' hw' => (Y_index (B := B2) (m := b.Cells.length) (c := c2) (k := .i64) (i := (i64.wrap ((i64.wrap (k_4 * b.Cols)) + (j : Int)))) k_sl_32_44 k_sz_44_5 rfl rfl rfl (gi_isSome eN3 rfl (ST.rf hw' (i := 1) rfl) hx1) (getI_nn hx1) (getI_ltI hx1 rfl))) ?_
     refine ra_q 22 65 (v := .agg #[vi x1.Num.A, vi x1.Num.B, vi x1.Num.C, vi x1.Num.D, vi x1.Exp]) rfl rfl rfl (by kernel_rfl) (by kernel_rfl) (by kernel_rfl) (ST.sel hS15 [1, 2, 3, 4, 5] rfl rfl) (fun w' hw' => (Y_loadA (B := B2) (i := (i64.wrap ((i64.wrap (k_4 * b.Cols)) + (j : Int))).toNat * 5) (cs := (b.Cells.flatMap eN0)) (vs := [vi x1.Num.A, vi x1.Num.B, vi x1.Num.C, vi x1.Num.D, vi x1.Exp]) k_ag_44 k_sz_44_5 rfl rfl (ST.rf hw' (i := 1) rfl) (eN3 x1) (gi_seg eN3 hx1))) ?_
     refine ra_all (rs := [1, 23]) (by kernel_rfl) rfl ?_
     refine ra_y 44 (i := 1) (v := .agg #[vi A, vi B6, vi C, vi D, vi Exp]) rfl rfl rfl (Y_loadA (B := aD b5) (i := 0) (cs := [vi A, vi B6, vi C, vi D, vi Exp]) (vs := [vi A, vi B6, vi C, vi D, vi Exp]) k_ag_44 k_sz_44_5 rfl (hf2.get 10 7 rfl) (hS15.cf (i := 6) rfl) rfl rfl) (ST.sel hS15 [1, 2, 3, 4, 5] rfl rfl) ?_ ?_
     ·skip
      refine ra_all (rs := [23]) (by kernel_rfl) rfl ?_
      refine ra_c 66 (i := 23) rfl rfl rfl (Yc_func (g := 24) (vs := [pt B 0, .agg #[vi x.Num.A, vi x.Num.B, vi x.Num.C, vi x.Num.D, vi x.Exp], .agg #[vi x1.Num.A, vi x1.Num.B, vi x1.Num.C, vi x1.Num.D, vi x1.Exp]]) k_call_24 rfl (mc rfl (mc rfl (mc rfl mn))) (c_spec_l2C_mul (Tl2C.mk bad2) x x1 B _  (hS15.inn [true, false, false, false, false, false, false] rfl [] rfl) hc)) ?_ ?_
      ·rintro _ w_7 ⟨rfl, hd⟩
       have hS16 := hS15.out [true, false, false, false, false, false, false] rfl hd
       have hS16 : ST w0 (bl [⟨B, 55, [.bool c.bad], 1⟩]) _ [⟨aD b1, 38, [vi a.Rows, vi a.Cols, .slice B1 a.Cells.length c1], 3⟩, ⟨aD b2, 38, [vi b.Rows, vi b.Cols, .slice B2 b.Cells.length c2], 3⟩, ⟨aD b3, 38, [vi 0, vi 0, .slice none 0 0], 3⟩, ⟨aD b4, 38, [vi a.Rows, vi b.Cols, .slice B5 Cells1.length c5], 3⟩, ⟨B5, 44, (Cells1.flatMap eN0), c5 * 5⟩, ⟨aD b5, 44, [vi A, vi B6, vi C, vi D, vi Exp], 5⟩, ⟨B, 55, [.bool m1.bad], 1⟩] [⟨B1, (a.Cells.flatMap eN0)⟩, ⟨B2, (b.Cells.flatMap eN0)⟩] := hS16
       refine ⟨(ST.sel hS16 [0, 1, 2, 3, 4] rfl rfl), ?_⟩
       refine ra_all (rs := [24]) (by kernel_rfl) rfl ?_
       refine ra_c 67 (i := 24) rfl rfl rfl (Yc_func (g := 23) (vs := [pt B 0, .agg #[vi A, vi B6, vi C, vi D, vi Exp], .agg #[vi r_1.Num.A, vi r_1.Num.B, vi r_1.Num.C, vi r_1.Num.D, vi r_1.Exp]]) k_call_23 rfl (mc rfl (mc rfl (mc rfl mn))) (c_spec_l2C_add m1 (TDyadic.mk (TRing.mk A B6 C D) Exp) r_1 B _  (hS16.inn [false, false, false, false, false, false, true] rfl [] rfl) hc1)) ?_ ?_
       ·rintro _ w_8 ⟨rfl, hd1⟩
        have hS17 := hS16.out [false, false, false, false, false, false, true] rfl hd1
        have hS17 : ST w0 (bl [⟨B, 55, [.bool c.bad], 1⟩]) _ [⟨aD b1, 38, [vi a.Rows, vi a.Cols, .slice B1 a.Cells.length c1], 3⟩, ⟨aD b2, 38, [vi b.Rows, vi b.Cols, .slice B2 b.Cells.length c2], 3⟩, ⟨aD b3, 38, [vi 0, vi 0, .slice none 0 0], 3⟩, ⟨aD b4, 38, [vi a.Rows, vi b.Cols, .slice B5 Cells1.length c5], 3⟩, ⟨B5, 44, (Cells1.flatMap eN0), c5 * 5⟩, ⟨aD b5, 44, [vi A, vi B6, vi C, vi D, vi Exp], 5⟩, ⟨B, 55, [.bool m2.bad], 1⟩] [⟨B1, (a.Cells.flatMap eN0)⟩, ⟨B2, (b.Cells.flatMap eN0)⟩] := hS17
        refine ⟨(ST.sel hS17 [0, 1, 2, 3, 4] rfl rfl), ?_⟩
        refine ra_all (rs := [25]) (by kernel_rfl) rfl ?_
        refine ra_s0 (i := 25) rfl rfl rfl (Ys_store (i := 5) (s := 5) (B := aD b5) (T' := 44) (v := .agg #[vi r_2.Num.A, vi r_2.Num.B, vi r_2.Num.C, vi r_2.Num.D, vi r_2.Exp]) (vs := [vi r_2.Num.A, vi r_2.Num.B, vi r_2.Num.C, vi r_2.Num.D, vi r_2.Exp]) (k := 0) (cs' := [vi r_2.Num.A, vi r_2.Num.B, vi r_2.Num.C, vi r_2.Num.D, vi r_2.Exp]) hS17 k_sz_44_5 rfl (hf2.get 10 7 rfl) rfl rfl rfl rfl rfl (Nat.le_of_ble_eq_true rfl) rfl rfl) ?_ ?_
        ·rintro _ w_9 ⟨rfl, hS18⟩
         have hS18 : ST w0 (bl [⟨B, 55, [.bool c.bad], 1⟩]) _ [⟨aD b1, 38, [vi a.Rows, vi a.Cols, .slice B1 a.Cells.length c1], 3⟩, ⟨aD b2, 38, [vi b.Rows, vi b.Cols, .slice B2 b.Cells.length c2], 3⟩, ⟨aD b3, 38, [vi 0, vi 0, .slice none 0 0], 3⟩, ⟨aD b4, 38, [vi a.Rows, vi b.Cols, .slice B5 Cells1.length c5], 3⟩, ⟨B5, 44, (Cells1.flatMap eN0), c5 * 5⟩, ⟨aD b5, 44, [vi r_2.Num.A, vi r_2.Num.B, vi r_2.Num.C, vi r_2.Num.D, vi r_2.Exp], 5⟩, ⟨B, 55, [.bool m2.bad], 1⟩] [⟨B1, (a.Cells.flatMap eN0)⟩, ⟨B2, (b.Cells.flatMap eN0)⟩] := hS18
         refine ⟨(ST.sel hS18 [0, 1, 2, 3, 4] rfl rfl), ?_⟩
         refine ra_done (by kernel_rfl) ?_
         exact ⟨(FF.cons (hf2.get 0 0 rfl) (FF.cons (hf2.get 4 1 rfl) (FF.cons (hf2.get 5 2 rfl) (FF.cons (hf2.get 6 3 rfl) (FF.cons (hf2.get 7 4 rfl) (FF.cons (hf2.get 8 5 rfl) (FF.cons (hf2.get 9 6 rfl) (FF.cons (hf2.get 10 7 rfl) (FF.cons (hf2.get 11 8 rfl) FF.nil))))))))), (hS18.sel [6, 0, 1, 2, 3, 4, 5] rfl rfl)⟩
        exact allR_nil
       exact allR_nil
      exact allR_nil
     refine ra_c 66 (i := 23) rfl rfl rfl (Yc_func (g := 24) (vs := [pt B 0, .agg #[vi x.Num.A, vi x.Num.B, vi x.Num.C, vi x.Num.D, vi x.Exp], .agg #[vi x1.Num.A, vi x1.Num.B, vi x1.Num.C, vi x1.Num.D, vi x1.Exp]]) k_call_24 rfl (mc rfl (mc rfl (mc rfl mn))) (c_spec_l2C_mul (Tl2C.mk bad2) x x1 B _  (hS15.inn [true, false, false, false, false, false, false] rfl [] rfl) hc)) ?_ ?_
     ·rintro _ w_10 ⟨rfl, hd2⟩
      have hS19 := hS15.out [true, false, false, false, false, false, false] rfl hd2
      have hS19 : ST w0 (bl [⟨B, 55, [.bool c.bad], 1⟩]) _ [⟨aD b1, 38, [vi a.Rows, vi a.Cols, .slice B1 a.Cells.length c1], 3⟩, ⟨aD b2, 38, [vi b.Rows, vi b.Cols, .slice B2 b.Cells.length c2], 3⟩, ⟨aD b3, 38, [vi 0, vi 0, .slice none 0 0], 3⟩, ⟨aD b4, 38, [vi a.Rows, vi b.Cols, .slice B5 Cells1.length c5], 3⟩, ⟨B5, 44, (Cells1.flatMap eN0), c5 * 5⟩, ⟨aD b5, 44, [vi A, vi B6, vi C, vi D, vi Exp], 5⟩, ⟨B, 55, [.bool m1.bad], 1⟩] [⟨B1, (a.Cells.flatMap eN0)⟩, ⟨B2, (b.Cells.flatMap eN0)⟩] := hS19
      refine ⟨(ST.sel hS19 [0, 1, 2, 3, 4] rfl rfl), ?_⟩
      refine ra_all (rs := [1]) (by kernel_rfl) rfl ?_
      refine ra_y 44 (i := 1) (v := .agg #[vi A, vi B6, vi C, vi D, vi Exp]) rfl rfl rfl (Y_loadA (B := aD b5) (i := 0) (cs := [vi A, vi B6, vi C, vi D, vi Exp]) (vs := [vi A, vi B6, vi C, vi D, vi Exp]) k_ag_44 k_sz_44_5 rfl (hf2.get 10 7 rfl) (hS19.cf (i := 5) rfl) rfl rfl) (ST.sel hS19 [0, 1, 2, 3, 4] rfl rfl) ?_ ?_
      ·skip
       refine ra_all (rs := [24]) (by kernel_rfl) rfl ?_
       refine ra_c 67 (i := 24) rfl rfl rfl (Yc_func (g := 23) (vs := [pt B 0, .agg #[vi A, vi B6, vi C, vi D, vi Exp], .agg #[vi r_1.Num.A, vi r_1.Num.B, vi r_1.Num.C, vi r_1.Num.D, vi r_1.Exp]]) k_call_23 rfl (mc rfl (mc rfl (mc rfl mn))) (c_spec_l2C_add m1 (TDyadic.mk (TRing.mk A B6 C D) Exp) r_1 B _  (hS19.inn [false, false, false, false, false, false, true] rfl [] rfl) hc1)) ?_ ?_
       ·rintro _ w_11 ⟨rfl, hd3⟩
        have hS20 := hS19.out [false, false, false, false, false, false, true] rfl hd3
        have hS20 : ST w0 (bl [⟨B, 55, [.bool c.bad], 1⟩]) _ [⟨aD b1, 38, [vi a.Rows, vi a.Cols, .slice B1 a.Cells.length c1], 3⟩, ⟨aD b2, 38, [vi b.Rows, vi b.Cols, .slice B2 b.Cells.length c2], 3⟩, ⟨aD b3, 38, [vi 0, vi 0, .slice none 0 0], 3⟩, ⟨aD b4, 38, [vi a.Rows, vi b.Cols, .slice B5 Cells1.length c5], 3⟩, ⟨B5, 44, (Cells1.flatMap eN0), c5 * 5⟩, ⟨aD b5, 44, [vi A, vi B6, vi C, vi D, vi Exp], 5⟩, ⟨B, 55, [.bool m2.bad], 1⟩] [⟨B1, (a.Cells.flatMap eN0)⟩, ⟨B2, (b.Cells.flatMap eN0)⟩] := hS20
        refine ⟨(ST.sel hS20 [0, 1, 2, 3, 4] rfl rfl), ?_⟩
        refine ra_all (rs := [25]) (by kernel_rfl) rfl ?_
        refine ra_s0 (i := 25) rfl rfl rfl (Ys_store (i := 5) (s := 5) (B := aD b5) (T' := 44) (v := .agg #[vi r_2.Num.A, vi r_2.Num.B, vi r_2.Num.C, vi r_2.Num.D, vi r_2.Exp]) (vs := [vi r_2.Num.A, vi r_2.Num.B, vi r_2.Num.C, vi r_2.Num.D, vi r_2.Exp]) (k := 0) (cs' := [vi r_2.Num.A, vi r_2.Num.B, vi r_2.Num.C, vi r_2.Num.D, vi r_2.Exp]) hS20 k_sz_44_5 rfl (hf2.get 10 7 rfl) rfl rfl rfl rfl rfl (Nat.le_of_ble_eq_true rfl) rfl rfl) ?_ ?_
        ·rintro _ w_12 ⟨rfl, hS21⟩
         have hS21 : ST w0 (bl [⟨B, 55, [.bool c.bad], 1⟩]) _ [⟨aD b1, 38, [vi a.Rows, vi a.Cols, .slice B1 a.Cells.length c1], 3⟩, ⟨aD b2, 38, [vi b.Rows, vi b.Cols, .slice B2 b.Cells.length c2], 3⟩, ⟨aD b3, 38, [vi 0, vi 0, .slice none 0 0], 3⟩, ⟨aD b4, 38, [vi a.Rows, vi b.Cols, .slice B5 Cells1.length c5], 3⟩, ⟨B5, 44, (Cells1.flatMap eN0), c5 * 5⟩, ⟨aD b5, 44, [vi r_2.Num.A, vi r_2.Num.B, vi r_2.Num.C, vi r_2.Num.D, vi r_2.Exp], 5⟩, ⟨B, 55, [.bool m2.bad], 1⟩] [⟨B1, (a.Cells.flatMap eN0)⟩, ⟨B2, (b.Cells.flatMap eN0)⟩] := hS21
         refine ⟨(ST.sel hS21 [0, 1, 2, 3, 4] rfl rfl), ?_⟩
         refine ra_done (by kernel_rfl) ?_
         exact ⟨(FF.cons (hf2.get 0 0 rfl) (FF.cons (hf2.get 4 1 rfl) (FF.cons (hf2.get 5 2 rfl) (FF.cons (hf2.get 6 3 rfl) (FF.cons (hf2.get 7 4 rfl) (FF.cons (hf2.get 8 5 rfl) (FF.cons (hf2.get 9 6 rfl) (FF.cons (hf2.get 10 7 rfl) (FF.cons (hf2.get 11 8 rfl) FF.nil))))))))), (hS21.sel [6, 0, 1, 2, 3, 4, 5] rfl rfl)⟩
        exact allR_nil
       exact allR_nil
      exact allR_nil
     exact allR_nil
    rintro f w ⟨hf3, hS14⟩
    refine cw_region ?_
    refine sq 41 rfl rfl (Y_move (v := vi k_4) rfl (hf3.get 11 8 rfl)) ?_
    refine sq 42 rfl rfl (Y_add (k := .i64) (a := k_4) (b := 1) rfl rfl rfl) ?_
    refine sq 11 rfl rfl (Y_assign (v := vi (i64.wrap (k_4 + 1))) rfl rfl) ?_
    refine rw_nil ?_
    obtain rfl := some_inj hF4
    exact ⟨k_6, Nat.lt_succ_self _, m2.bad, r_2.Num.A, r_2.Num.B, r_2.Num.C, r_2.Num.D, r_2.Exp, (i64.wrap (k_4 + 1)), (FF.cons (hf3.get 0 0 rfl) (FF.cons (hf3.get 4 1 rfl) (FF.cons (hf3.get 5 2 rfl) (FF.cons (hf3.get 6 3 rfl) (FF.cons (hf3.get 7 4 rfl) (FF.cons (hf3.get 8 5 rfl) (FF.cons (hf3.get 9 6 rfl) (FF.cons (hf3.get 10 7 rfl) (FF.cons rfl FF.nil))))))))), (hS14.sel [0, 1, 2, 3, 4, 5, 6] rfl rfl), hL5⟩
   ·skip
    have hF5 := cf' hb2 hb3
    refine cw_exit rfl ?_
    obtain rfl := some_inj hF5
    obtain rfl := some_inj hL5
    refine cw_region ?_
    refine sq 68 rfl rfl (Y_fieldAddr (B := aD b4) (i := 0) (s := 0) k_fd_38_2_2_32 k_sz_32_1 rfl (hf2.get 7 4 rfl)) ?_
    refine sq 69 rfl rfl (Y_load1 (B := aD b4) (i := 2) (cs := [vi a.Rows, vi b.Cols, .slice B5 Cells1.length c5]) (v := .slice B5 Cells1.length c5) k_sc_32 rfl rfl (hS11.cf (i := 4) rfl) rfl) ?_
    refine sq 70 rfl rfl (Y_loadA (B := aD b5) (i := 0) (cs := [vi A, vi B6, vi C, vi D, vi Exp]) (vs := [vi A, vi B6, vi C, vi D, vi Exp]) k_ag_44 k_sz_44_5 rfl (hf2.get 10 7 rfl) (hS11.cf (i := 6) rfl) rfl rfl) ?_
    refine ss 71 rfl rfl (Ys_bslice (s := 5) (len := 1) (vs := [(0, .agg #[vi A, vi B6, vi C, vi D, vi Exp])]) (cs := [vi A, vi B6, vi C, vi D, vi Exp]) (zs := [vi 0, vi 0, vi 0, vi 0, vi 0]) (m := 5) hS11 k_sl_32_44 k_sz_44_5 k_zc_44 rfl (mpc rfl mpn) rfl rfl rfl (by kernel_rfl) (by kernel_rfl) rfl) ?_
    rintro _ w_13 ⟨b6, rfl, hS22⟩
    have hS22 : ST w0 (bl [⟨B, 55, [.bool c.bad], 1⟩]) _ [⟨B, 55, [.bool bad2], 1⟩, ⟨aD b1, 38, [vi a.Rows, vi a.Cols, .slice B1 a.Cells.length c1], 3⟩, ⟨aD b2, 38, [vi b.Rows, vi b.Cols, .slice B2 b.Cells.length c2], 3⟩, ⟨aD b3, 38, [vi 0, vi 0, .slice none 0 0], 3⟩, ⟨aD b4, 38, [vi a.Rows, vi b.Cols, .slice B5 Cells1.length c5], 3⟩, ⟨B5, 44, (Cells1.flatMap eN0), c5 * 5⟩, ⟨aD b5, 44, [vi A, vi B6, vi C, vi D, vi Exp], 5⟩, ⟨aD b6, 44, ([(TDyadic.mk (TRing.mk A B6 C D) Exp)].flatMap eN0), 1 * 5⟩] [⟨B1, (a.Cells.flatMap eN0)⟩, ⟨B2, (b.Cells.flatMap eN0)⟩] := hS22
    obtain ⟨hap, hF3⟩ := chk_inv hF3
    refine ss 72 rfl rfl (Ys_append (s := 5) (by' := 40) (i := 5) (nn := Cells1.length) (c := c5) (k := 1) (len := (Cells1 ++ [(TDyadic.mk (TRing.mk A B6 C D) Exp)]).length) (B := B5) (xs := ([(TDyadic.mk (TRing.mk A B6 C D) Exp)].flatMap eN0)) (cs' := ((Cells1 ++ [(TDyadic.mk (TRing.mk A B6 C D) Exp)]).flatMap eN0)) hS22 k_sl_32_44 k_sz_44_5 k_by_44_40 k_zero_44 rfl (by decide) rfl rfl rfl rfl (fm_lenn (l := Cells1) eN3 rfl) rfl (hS22.cf (i := 7) rfl) (fm_lenn (l := [(TDyadic.mk (TRing.mk A B6 C D) Exp)]) eN3 rfl) (fm_one' (enc := eN0) enc_Dyadic_one [(TDyadic.mk (TRing.mk A B6 C D) Exp)]) (by have := hap; omega) (by have := hap; simp only [maxLen]; omega) (fm_app _ _) (app_len (l := Cells1) (l' := [(TDyadic.mk (TRing.mk A B6 C D) Exp)]) rfl rfl)) ?_
    rintro _ w_14 ⟨B7, c6, rfl, hS23⟩
    have hS23 : ST w0 (bl [⟨B, 55, [.bool c.bad], 1⟩]) _ [⟨B, 55, [.bool bad2], 1⟩, ⟨aD b1, 38, [vi a.Rows, vi a.Cols, .slice B1 a.Cells.length c1], 3⟩, ⟨aD b2, 38, [vi b.Rows, vi b.Cols, .slice B2 b.Cells.length c2], 3⟩, ⟨aD b3, 38, [vi 0, vi 0, .slice none 0 0], 3⟩, ⟨aD b4, 38, [vi a.Rows, vi b.Cols, .slice B5 Cells1.length c5], 3⟩, ⟨B7, 44, ((Cells1 ++ [(TDyadic.mk (TRing.mk A B6 C D) Exp)]).flatMap eN0), c6 * 5⟩, ⟨aD b5, 44, [vi A, vi B6, vi C, vi D, vi Exp], 5⟩, ⟨aD b6, 44, ([(TDyadic.mk (TRing.mk A B6 C D) Exp)].flatMap eN0), 1 * 5⟩] [⟨B1, (a.Cells.flatMap eN0)⟩, ⟨B2, (b.Cells.flatMap eN0)⟩] := hS23
    refine sq 73 rfl rfl (Y_fieldAddr (B := aD b4) (i := 0) (s := 0) k_fd_38_2_2_32 k_sz_32_1 rfl (hf2.get 7 4 rfl)) ?_
    refine ss0 rfl rfl (Ys_store (i := 4) (s := 1) (B := aD b4) (T' := 38) (v := .slice B7 ((Cells1 ++ [(TDyadic.mk (TRing.mk A B6 C D) Exp)]).length) c6) (vs := [.slice B7 ((Cells1 ++ [(TDyadic.mk (TRing.mk A B6 C D) Exp)]).length) c6]) (k := 2) (cs' := [vi a.Rows, vi b.Cols, .slice B7 ((Cells1 ++ [(TDyadic.mk (TRing.mk A B6 C D) Exp)]).length) c6]) hS23 k_sz_32_1 rfl rfl rfl rfl rfl rfl rfl (Nat.le_of_ble_eq_true rfl) rfl rfl) ?_
    rintro _ w_15 ⟨rfl, hS24⟩
    have hS24 : ST w0 (bl [⟨B, 55, [.bool c.bad], 1⟩]) _ [⟨B, 55, [.bool bad2], 1⟩, ⟨aD b1, 38, [vi a.Rows, vi a.Cols, .slice B1 a.Cells.length c1], 3⟩, ⟨aD b2, 38, [vi b.Rows, vi b.Cols, .slice B2 b.Cells.length c2], 3⟩, ⟨aD b3, 38, [vi 0, vi 0, .slice none 0 0], 3⟩, ⟨aD b4, 38, [vi a.Rows, vi b.Cols, .slice B7 ((Cells1 ++ [(TDyadic.mk (TRing.mk A B6 C D) Exp)]).length) c6], 3⟩, ⟨B7, 44, ((Cells1 ++ [(TDyadic.mk (TRing.mk A B6 C D) Exp)]).flatMap eN0), c6 * 5⟩, ⟨aD b5, 44, [vi A, vi B6, vi C, vi D, vi Exp], 5⟩, ⟨aD b6, 44, ([(TDyadic.mk (TRing.mk A B6 C D) Exp)].flatMap eN0), 1 * 5⟩] [⟨B1, (a.Cells.flatMap eN0)⟩, ⟨B2, (b.Cells.flatMap eN0)⟩] := hS24
    refine rw_nil ?_
    refine cw_region ?_
    refine sq 27 rfl rfl (Y_move (v := vi (j : Int)) rfl (hf2.get 9 6 rfl)) ?_
    refine sq 28 rfl rfl (Y_add (k := .i64) (a := (j : Int)) (b := 1) rfl rfl rfl) ?_
    refine sq 9 rfl rfl (Y_assign (v := vi (i64.wrap ((j : Int) + 1))) rfl rfl) ?_
    refine rw_nil ?_
    obtain rfl := some_inj hF3
    exact ⟨k_3, Nat.lt_succ_self _, j + 1, bad2, (Cells1 ++ [(TDyadic.mk (TRing.mk A B6 C D) Exp)]), B7, c6, (FF.cons (hf2.get 0 0 rfl) (FF.cons (hf2.get 4 1 rfl) (FF.cons (hf2.get 5 2 rfl) (FF.cons (hf2.get 6 3 rfl) (FF.cons (hf2.get 7 4 rfl) (FF.cons (hf2.get 8 5 rfl) (FF.cons (congrArg (Value.int .i64) (wr_succ hlt3 hN1)) FF.nil))))))), (hS24.sel [0, 1, 2, 3, 4, 5] rfl rfl), (by omega), hL3⟩
  ·skip
   obtain rfl : k_2 = 0 := by have h := of_decide_eq_false hlt2; omega
   refine cw_exit rfl ?_
   obtain rfl := some_inj hL2
   refine cw_region ?_
   refine sq 21 rfl rfl (Y_move (v := vi (i1 : Int)) rfl (hf1.get 8 5 rfl)) ?_
   refine sq 22 rfl rfl (Y_add (k := .i64) (a := (i1 : Int)) (b := 1) rfl rfl rfl) ?_
   refine sq 8 rfl rfl (Y_assign (v := vi (i64.wrap ((i1 : Int) + 1))) rfl rfl) ?_
   refine rw_nil ?_
   obtain rfl := some_inj hF2
   exact ⟨k_1, Nat.lt_succ_self _, i1 + 1, bad1, Cells1, B5, c5, (FF.cons (hf1.get 0 0 rfl) (FF.cons (hf1.get 4 1 rfl) (FF.cons (hf1.get 5 2 rfl) (FF.cons (hf1.get 6 3 rfl) (FF.cons (hf1.get 7 4 rfl) (FF.cons (congrArg (Value.int .i64) (wr_succ hlt1 hN)) FF.nil)))))), (hS8.sel [0, 1, 2, 3, 4, 5] rfl rfl), (by omega), hL1⟩
 ·skip
  obtain rfl : k_ = 0 := by have h := of_decide_eq_false hlt; omega
  refine cw_exit rfl ?_
  obtain rfl := some_inj hL
  refine cw_seq ?_
  refine cw_region ?_
  refine sq 74 rfl rfl (Y_loadA (B := aD b4) (i := 0) (cs := [vi a.Rows, vi b.Cols, .slice B4 Cells.length c4]) (vs := [vi a.Rows, vi b.Cols, .slice B4 Cells.length c4]) k_ag_38 k_sz_38_3 rfl (hf.get 7 4 rfl) (hS6.cf (i := 4) rfl) rfl rfl) ?_
  refine ss0 rfl rfl (Ys_store (i := 3) (s := 3) (B := aD b3) (T' := 38) (v := .agg #[vi a.Rows, vi b.Cols, .slice B4 Cells.length c4]) (vs := [vi a.Rows, vi b.Cols, .slice B4 Cells.length c4]) (k := 0) (cs' := [vi a.Rows, vi b.Cols, .slice B4 Cells.length c4]) hS6 k_sz_38_3 rfl (hf.get 6 3 rfl) rfl rfl rfl rfl rfl (Nat.le_of_ble_eq_true rfl) rfl rfl) ?_
  rintro _ w_16 ⟨rfl, hS25⟩
  have hS25 : ST w0 (bl [⟨B, 55, [.bool c.bad], 1⟩]) _ [⟨B, 55, [.bool bad], 1⟩, ⟨aD b1, 38, [vi a.Rows, vi a.Cols, .slice B1 a.Cells.length c1], 3⟩, ⟨aD b2, 38, [vi b.Rows, vi b.Cols, .slice B2 b.Cells.length c2], 3⟩, ⟨aD b3, 38, [vi a.Rows, vi b.Cols, .slice B4 Cells.length c4], 3⟩, ⟨aD b4, 38, [vi a.Rows, vi b.Cols, .slice B4 Cells.length c4], 3⟩, ⟨B4, 44, (Cells.flatMap eN0), c4 * 5⟩] [⟨B1, (a.Cells.flatMap eN0)⟩, ⟨B2, (b.Cells.flatMap eN0)⟩] := hS25
  refine rw_nil ?_
  refine cw_ret ?_
  obtain ⟨rfl, rfl⟩ := pr2 (some_inj hF1)
  exact ret1 Tryd.results20 (v1 := .agg #[vi a.Rows, vi b.Cols, .slice B4 Cells.length c4]) (resAt_cellA (B := aD b3) (i := 0) (cs := [vi a.Rows, vi b.Cols, .slice B4 Cells.length c4]) (vs := [vi a.Rows, vi b.Cols, .slice B4 Cells.length c4]) (hf.get 6 3 rfl) k_ag_38 k_sz_38_3 (hS25.cf (i := 3) rfl) rfl rfl) ⟨B4, c4, rfl, (ST.subR (R' := []) (hS25.sel [0, 5] rfl rfl) (fun _ h => by cases h))⟩

theorem c_spec_l1Turn (x : TRing) (k_ : Int)  (w0 : World)  (hS : ST w0 [] w0 [] []) {r_ : TRing} (hF : F_spec_l1Turn x k_ = some r_) :
  CV Tryd.prog 78 #[.agg #[vi x.A, vi x.B, vi x.C, vi x.D], vi k_] w0 (fun v w' => v = .agg #[vi r_.A, vi r_.B, vi r_.C, vi r_.D] ∧ ST w0 [] w' [] []) := by
 unfold F_spec_l1Turn at hF
 refine cv_of_cw 24 Tryd.func78 rfl Tryd.ntmps78 rfl ?_
 refine cw_seq ?_
 refine cw_region ?_
 refine ss 2 rfl rfl (Ys_box (T := 42) (v := .agg #[vi x.A, vi x.B, vi x.C, vi x.D]) (cs := [vi x.A, vi x.B, vi x.C, vi x.D]) (m := 4) hS rfl rfl rfl rfl) ?_
 rintro _ w_ ⟨b, rfl, hS1⟩
 refine ss 4 rfl rfl (Ys_alloc (T := 42) (cs := [vi 0, vi 0, vi 0, vi 0]) (m := 4) hS1 k_zero_42 rfl rfl rfl) ?_
 rintro _ w_1 ⟨b1, rfl, hS2⟩
 have hS2 : ST w0 [] _ [⟨aD b, 42, [vi x.A, vi x.B, vi x.C, vi x.D], 4⟩, ⟨aD b1, 42, [vi 0, vi 0, vi 0, vi 0], 4⟩] [] := hS2
 refine rw_nil ?_
 refine cw_seq ?_
 refine cw_seq ?_
 refine cw_region ?_
 refine sq 5 rfl rfl (Y_move (v := vi k_) rfl rfl) ?_
 refine sq 6 rfl rfl (Y_rem (k := .i64) (a := k_) (b := 8) rfl rfl rfl (by decide)) ?_
 refine sq 7 rfl rfl (Y_add (k := .i64) (a := (Int.tmod k_ 8)) (b := 8) rfl rfl rfl) ?_
 refine sq 8 rfl rfl (Y_rem (k := .i64) (a := (i64.wrap ((Int.tmod k_ 8) + 8))) (b := 8) rfl rfl rfl (by decide)) ?_
 refine sq 1 rfl rfl (Y_assign (v := vi (Int.tmod (i64.wrap ((Int.tmod k_ 8) + 8)) 8)) rfl rfl) ?_
 refine rw_nil ?_
 obtain ⟨z, hz, hF1⟩ := bind_inv hF
 refine cw_block ?_
 refine cw_loop (fun k f w => ∃ (k_1 : Int) (A : Int) (B : Int) (C : Int) (D : Int), FF f [(1, vi k_1), (2, pt (aD b) 0), (4, pt (aD b1) 0)] ∧ ST w0 [] w [⟨aD b, 42, [vi A, vi B, vi C, vi D], 4⟩, ⟨aD b1, 42, [vi 0, vi 0, vi 0, vi 0], 4⟩] [] ∧ whX F_spec_l1Turn_l1 k (k_1, A, B, C, D) = some z) fuel ⟨(Int.tmod (i64.wrap ((Int.tmod k_ 8) + 8)) 8), x.A, x.B, x.C, x.D, (FF.cons rfl (FF.cons rfl (FF.cons rfl FF.nil))), (hS2.sel [0, 1] rfl rfl), hz⟩ ?_
 rintro k_2 f w ⟨k_1, A, B, C, D, hf, hS3, hL⟩
 obtain ⟨k_3, y, rfl, hb, hL1⟩ := whX_go hL
 unfold F_spec_l1Turn_l1 at hb
 refine cw_seq ?_
 refine cw_seq ?_
 refine cw_region ?_
 refine sq 9 rfl rfl (Y_move (v := vi k_1) rfl (hf.get 1 0 rfl)) ?_
 refine sq 10 rfl rfl (Y_gt (k := .i64) (a := k_1) (b := 0) rfl rfl rfl) ?_
 refine rw_nil ?_
 refine cw_cond (b := (decide (0 < k_1))) rfl (fun hb1 => ?_) (fun hb1 => ?_)
 ·skip
  have hF2 := ct hb hb1
  refine cw_skip ?_
  refine cw_seq ?_
  refine cw_block ?_
  refine cw_region ?_
  refine sq 13 rfl rfl (Y_fieldAddr (B := aD b) (i := 0) (s := 0) k_fd_42_3_3_3 k_sz_3_1 rfl (hf.get 2 1 rfl)) ?_
  refine sq 14 rfl rfl (Y_load1 (B := aD b) (i := 3) (cs := [vi A, vi B, vi C, vi D]) (v := vi D) k_sc_3 rfl rfl (hS3.cf (i := 0) rfl) rfl) ?_
  refine sq 15 rfl rfl (Y_neg (k := .i64) (a := D) rfl rfl) ?_
  refine sq 16 rfl rfl (Y_fieldAddr (B := aD b) (i := 0) (s := 0) k_fd_42_0_0_3 k_sz_3_1 rfl (hf.get 2 1 rfl)) ?_
  refine sq 17 rfl rfl (Y_load1 (B := aD b) (i := 0) (cs := [vi A, vi B, vi C, vi D]) (v := vi A) k_sc_3 rfl rfl (hS3.cf (i := 0) rfl) rfl) ?_
  refine sq 18 rfl rfl (Y_fieldAddr (B := aD b) (i := 0) (s := 0) k_fd_42_1_1_3 k_sz_3_1 rfl (hf.get 2 1 rfl)) ?_
  refine sq 19 rfl rfl (Y_load1 (B := aD b) (i := 1) (cs := [vi A, vi B, vi C, vi D]) (v := vi B) k_sc_3 rfl rfl (hS3.cf (i := 0) rfl) rfl) ?_
  refine sq 20 rfl rfl (Y_fieldAddr (B := aD b) (i := 0) (s := 0) k_fd_42_2_2_3 k_sz_3_1 rfl (hf.get 2 1 rfl)) ?_
  refine sq 21 rfl rfl (Y_load1 (B := aD b) (i := 2) (cs := [vi A, vi B, vi C, vi D]) (v := vi C) k_sc_3 rfl rfl (hS3.cf (i := 0) rfl) rfl) ?_
  refine sq 22 rfl rfl (Y_buildS (zs := [vi 0, vi 0, vi 0, vi 0]) (vs := [(0, vi (i64.wrap (-D))), (1, vi A), (2, vi B), (3, vi C)]) (cs := [vi (i64.wrap (-D)), vi A, vi B, vi C]) k_pl_42 k_zero_42 rfl (mpc rfl (mpc rfl (mpc rfl (mpc rfl mpn)))) rfl) ?_
  refine ss0 rfl rfl (Ys_store (i := 0) (s := 4) (B := aD b) (T' := 42) (v := .agg #[vi (i64.wrap (-D)), vi A, vi B, vi C]) (vs := [vi (i64.wrap (-D)), vi A, vi B, vi C]) (k := 0) (cs' := [vi (i64.wrap (-D)), vi A, vi B, vi C]) hS3 k_sz_42_4 rfl (hf.get 2 1 rfl) rfl rfl rfl rfl rfl (Nat.le_of_ble_eq_true rfl) rfl rfl) ?_
  rintro _ w_2 ⟨rfl, hS4⟩
  have hS4 : ST w0 [] _ [⟨aD b, 42, [vi (i64.wrap (-D)), vi A, vi B, vi C], 4⟩, ⟨aD b1, 42, [vi 0, vi 0, vi 0, vi 0], 4⟩] [] := hS4
  refine rw_nil ?_
  refine cw_region ?_
  refine sq 11 rfl rfl (Y_move (v := vi k_1) rfl (hf.get 1 0 rfl)) ?_
  refine sq 12 rfl rfl (Y_sub (k := .i64) (a := k_1) (b := 1) rfl rfl rfl) ?_
  refine sq 1 rfl rfl (Y_assign (v := vi (i64.wrap (k_1 - 1))) rfl rfl) ?_
  refine rw_nil ?_
  obtain rfl := some_inj hF2
  exact ⟨k_3, Nat.lt_succ_self _, (i64.wrap (k_1 - 1)), (i64.wrap (-D)), A, B, C, (FF.cons rfl (FF.cons (hf.get 2 1 rfl) (FF.cons (hf.get 4 2 rfl) FF.nil))), (hS4.sel [0, 1] rfl rfl), hL1⟩
 ·skip
  have hF3 := cf' hb hb1
  refine cw_exit rfl ?_
  obtain rfl := some_inj hF3
  obtain rfl := some_inj hL1
  refine cw_seq ?_
  refine cw_region ?_
  refine sq 23 rfl rfl (Y_loadA (B := aD b) (i := 0) (cs := [vi A, vi B, vi C, vi D]) (vs := [vi A, vi B, vi C, vi D]) k_ag_42 k_sz_42_4 rfl (hf.get 2 1 rfl) (hS3.cf (i := 0) rfl) rfl rfl) ?_
  refine ss0 rfl rfl (Ys_store (i := 1) (s := 4) (B := aD b1) (T' := 42) (v := .agg #[vi A, vi B, vi C, vi D]) (vs := [vi A, vi B, vi C, vi D]) (k := 0) (cs' := [vi A, vi B, vi C, vi D]) hS3 k_sz_42_4 rfl (hf.get 4 2 rfl) rfl rfl rfl rfl rfl (Nat.le_of_ble_eq_true rfl) rfl rfl) ?_
  rintro _ w_3 ⟨rfl, hS5⟩
  have hS5 : ST w0 [] _ [⟨aD b, 42, [vi A, vi B, vi C, vi D], 4⟩, ⟨aD b1, 42, [vi A, vi B, vi C, vi D], 4⟩] [] := hS5
  refine rw_nil ?_
  refine cw_ret ?_
  obtain rfl := some_inj hF1
  exact ret1 Tryd.results78 (v1 := .agg #[vi A, vi B, vi C, vi D]) (resAt_cellA (B := aD b1) (i := 0) (cs := [vi A, vi B, vi C, vi D]) (vs := [vi A, vi B, vi C, vi D]) (hf.get 4 2 rfl) k_ag_42 k_sz_42_4 (hS5.cf (i := 1) rfl) rfl rfl) ⟨rfl, (ST.subR (R' := []) (hS5.sel [] rfl rfl) (fun _ h => by cases h))⟩

theorem c_spec_l2Power (k_ : Int)  (w0 : World)  (hS : ST w0 [] w0 [] []) {r_ : TDyadic} (hF : F_spec_l2Power k_ = some r_) :
  CV Tryd.prog 57 #[vi k_] w0 (fun v w' => v = .agg #[vi r_.Num.A, vi r_.Num.B, vi r_.Num.C, vi r_.Num.D, vi r_.Exp] ∧ ST w0 [] w' [] []) := by
 unfold F_spec_l2Power at hF
 refine cv_of_cw 7 Tryd.func57 rfl Tryd.ntmps57 rfl ?_
 refine cw_seq ?_
 refine cw_region ?_
 refine ss 2 rfl rfl (Ys_alloc (T := 44) (cs := [vi 0, vi 0, vi 0, vi 0, vi 0]) (m := 5) hS k_zero_44 rfl rfl rfl) ?_
 rintro _ w_ ⟨b, rfl, hS1⟩
 refine rw_nil ?_
 refine cw_seq ?_
 refine cw_region ?_
 refine sq 3 rfl rfl (Y_buildS (zs := [vi 0, vi 0, vi 0, vi 0]) (vs := [(0, vi 1)]) (cs := [vi 1, vi 0, vi 0, vi 0]) k_pl_42 k_zero_42 rfl (mpc rfl mpn) rfl) ?_
 refine sq 4 rfl rfl (Y_move (v := vi k_) rfl rfl) ?_
 obtain ⟨r_1, hc, hF⟩ := bind_inv hF
 refine sc 5 rfl rfl (Yc_func (g := 78) (vs := [.agg #[vi 1, vi 0, vi 0, vi 0], vi k_]) k_call_78 rfl (mc rfl (mc rfl mn)) (c_spec_l1Turn (TRing.mk 1 0 0 0) k_ _  (hS1.inn0 [] rfl) hc)) ?_
 rintro _ w_1 ⟨rfl, hd⟩
 have hS2 := hS1.out00 hd
 refine sq 6 rfl rfl (Y_buildS (zs := [vi 0, vi 0, vi 0, vi 0, vi 0]) (vs := [(0, .agg #[vi r_1.A, vi r_1.B, vi r_1.C, vi r_1.D])]) (cs := [vi r_1.A, vi r_1.B, vi r_1.C, vi r_1.D, vi 0]) k_pl_44 k_zero_44 rfl (mpc rfl mpn) rfl) ?_
 refine ss0 rfl rfl (Ys_store (i := 0) (s := 5) (B := aD b) (T' := 44) (v := .agg #[vi r_1.A, vi r_1.B, vi r_1.C, vi r_1.D, vi 0]) (vs := [vi r_1.A, vi r_1.B, vi r_1.C, vi r_1.D, vi 0]) (k := 0) (cs' := [vi r_1.A, vi r_1.B, vi r_1.C, vi r_1.D, vi 0]) hS2 k_sz_44_5 rfl rfl rfl rfl rfl rfl rfl (Nat.le_of_ble_eq_true rfl) rfl rfl) ?_
 rintro _ w_2 ⟨rfl, hS3⟩
 refine rw_nil ?_
 refine cw_ret ?_
 obtain rfl := some_inj hF
 exact ret1 Tryd.results57 (v1 := .agg #[vi r_1.A, vi r_1.B, vi r_1.C, vi r_1.D, vi 0]) (resAt_cellA (B := aD b) (i := 0) (cs := [vi r_1.A, vi r_1.B, vi r_1.C, vi r_1.D, vi 0]) (vs := [vi r_1.A, vi r_1.B, vi r_1.C, vi r_1.D, vi 0]) rfl k_ag_44 k_sz_44_5 (hS3.cf (i := 0) rfl) rfl rfl) ⟨rfl, (ST.subR (R' := []) (hS3.sel [] rfl rfl) (fun _ h => by cases h))⟩

theorem c_spec_l1Neg (x : TRing)  (w0 : World)  (hS : ST w0 [] w0 [] []) {r_ : TRing} (hF : F_spec_l1Neg x = some r_) :
  CV Tryd.prog 79 #[.agg #[vi x.A, vi x.B, vi x.C, vi x.D]] w0 (fun v w' => v = .agg #[vi r_.A, vi r_.B, vi r_.C, vi r_.D] ∧ ST w0 [] w' [] []) := by
 unfold F_spec_l1Neg at hF
 refine cv_of_cw 16 Tryd.func79 rfl Tryd.ntmps79 rfl ?_
 refine cw_seq ?_
 refine cw_region ?_
 refine ss 1 rfl rfl (Ys_box (T := 42) (v := .agg #[vi x.A, vi x.B, vi x.C, vi x.D]) (cs := [vi x.A, vi x.B, vi x.C, vi x.D]) (m := 4) hS rfl rfl rfl rfl) ?_
 rintro _ w_ ⟨b, rfl, hS1⟩
 refine ss 2 rfl rfl (Ys_alloc (T := 42) (cs := [vi 0, vi 0, vi 0, vi 0]) (m := 4) hS1 k_zero_42 rfl rfl rfl) ?_
 rintro _ w_1 ⟨b1, rfl, hS2⟩
 have hS2 : ST w0 [] _ [⟨aD b, 42, [vi x.A, vi x.B, vi x.C, vi x.D], 4⟩, ⟨aD b1, 42, [vi 0, vi 0, vi 0, vi 0], 4⟩] [] := hS2
 refine rw_nil ?_
 refine cw_seq ?_
 refine cw_region ?_
 refine sq 3 rfl rfl (Y_fieldAddr (B := aD b) (i := 0) (s := 0) k_fd_42_0_0_3 k_sz_3_1 rfl rfl) ?_
 refine sq 4 rfl rfl (Y_load1 (B := aD b) (i := 0) (cs := [vi x.A, vi x.B, vi x.C, vi x.D]) (v := vi x.A) k_sc_3 rfl rfl (hS2.cf (i := 0) rfl) rfl) ?_
 refine sq 5 rfl rfl (Y_neg (k := .i64) (a := x.A) rfl rfl) ?_
 refine sq 6 rfl rfl (Y_fieldAddr (B := aD b) (i := 0) (s := 0) k_fd_42_1_1_3 k_sz_3_1 rfl rfl) ?_
 refine sq 7 rfl rfl (Y_load1 (B := aD b) (i := 1) (cs := [vi x.A, vi x.B, vi x.C, vi x.D]) (v := vi x.B) k_sc_3 rfl rfl (hS2.cf (i := 0) rfl) rfl) ?_
 refine sq 8 rfl rfl (Y_neg (k := .i64) (a := x.B) rfl rfl) ?_
 refine sq 9 rfl rfl (Y_fieldAddr (B := aD b) (i := 0) (s := 0) k_fd_42_2_2_3 k_sz_3_1 rfl rfl) ?_
 refine sq 10 rfl rfl (Y_load1 (B := aD b) (i := 2) (cs := [vi x.A, vi x.B, vi x.C, vi x.D]) (v := vi x.C) k_sc_3 rfl rfl (hS2.cf (i := 0) rfl) rfl) ?_
 refine sq 11 rfl rfl (Y_neg (k := .i64) (a := x.C) rfl rfl) ?_
 refine sq 12 rfl rfl (Y_fieldAddr (B := aD b) (i := 0) (s := 0) k_fd_42_3_3_3 k_sz_3_1 rfl rfl) ?_
 refine sq 13 rfl rfl (Y_load1 (B := aD b) (i := 3) (cs := [vi x.A, vi x.B, vi x.C, vi x.D]) (v := vi x.D) k_sc_3 rfl rfl (hS2.cf (i := 0) rfl) rfl) ?_
 refine sq 14 rfl rfl (Y_neg (k := .i64) (a := x.D) rfl rfl) ?_
 refine sq 15 rfl rfl (Y_buildS (zs := [vi 0, vi 0, vi 0, vi 0]) (vs := [(0, vi (i64.wrap (-x.A))), (1, vi (i64.wrap (-x.B))), (2, vi (i64.wrap (-x.C))), (3, vi (i64.wrap (-x.D)))]) (cs := [vi (i64.wrap (-x.A)), vi (i64.wrap (-x.B)), vi (i64.wrap (-x.C)), vi (i64.wrap (-x.D))]) k_pl_42 k_zero_42 rfl (mpc rfl (mpc rfl (mpc rfl (mpc rfl mpn)))) rfl) ?_
 refine ss0 rfl rfl (Ys_store (i := 1) (s := 4) (B := aD b1) (T' := 42) (v := .agg #[vi (i64.wrap (-x.A)), vi (i64.wrap (-x.B)), vi (i64.wrap (-x.C)), vi (i64.wrap (-x.D))]) (vs := [vi (i64.wrap (-x.A)), vi (i64.wrap (-x.B)), vi (i64.wrap (-x.C)), vi (i64.wrap (-x.D))]) (k := 0) (cs' := [vi (i64.wrap (-x.A)), vi (i64.wrap (-x.B)), vi (i64.wrap (-x.C)), vi (i64.wrap (-x.D))]) hS2 k_sz_42_4 rfl rfl rfl rfl rfl rfl rfl (Nat.le_of_ble_eq_true rfl) rfl rfl) ?_
 rintro _ w_2 ⟨rfl, hS3⟩
 have hS3 : ST w0 [] _ [⟨aD b, 42, [vi x.A, vi x.B, vi x.C, vi x.D], 4⟩, ⟨aD b1, 42, [vi (i64.wrap (-x.A)), vi (i64.wrap (-x.B)), vi (i64.wrap (-x.C)), vi (i64.wrap (-x.D))], 4⟩] [] := hS3
 refine rw_nil ?_
 refine cw_ret ?_
 obtain rfl := some_inj hF
 exact ret1 Tryd.results79 (v1 := .agg #[vi (i64.wrap (-x.A)), vi (i64.wrap (-x.B)), vi (i64.wrap (-x.C)), vi (i64.wrap (-x.D))]) (resAt_cellA (B := aD b1) (i := 0) (cs := [vi (i64.wrap (-x.A)), vi (i64.wrap (-x.B)), vi (i64.wrap (-x.C)), vi (i64.wrap (-x.D))]) (vs := [vi (i64.wrap (-x.A)), vi (i64.wrap (-x.B)), vi (i64.wrap (-x.C)), vi (i64.wrap (-x.D))]) rfl k_ag_42 k_sz_42_4 (hS3.cf (i := 1) rfl) rfl rfl) ⟨rfl, (ST.subR (R' := []) (hS3.sel [] rfl rfl) (fun _ h => by cases h))⟩

theorem c_spec_l2Neg (x : TDyadic)  (w0 : World)  (hS : ST w0 [] w0 [] []) {r_ : TDyadic} (hF : F_spec_l2Neg x = some r_) :
  CV Tryd.prog 58 #[.agg #[vi x.Num.A, vi x.Num.B, vi x.Num.C, vi x.Num.D, vi x.Exp]] w0 (fun v w' => v = .agg #[vi r_.Num.A, vi r_.Num.B, vi r_.Num.C, vi r_.Num.D, vi r_.Exp] ∧ ST w0 [] w' [] []) := by
 unfold F_spec_l2Neg at hF
 refine cv_of_cw 9 Tryd.func58 rfl Tryd.ntmps58 rfl ?_
 refine cw_seq ?_
 refine cw_region ?_
 refine ss 1 rfl rfl (Ys_box (T := 44) (v := .agg #[vi x.Num.A, vi x.Num.B, vi x.Num.C, vi x.Num.D, vi x.Exp]) (cs := [vi x.Num.A, vi x.Num.B, vi x.Num.C, vi x.Num.D, vi x.Exp]) (m := 5) hS rfl rfl rfl rfl) ?_
 rintro _ w_ ⟨b, rfl, hS1⟩
 refine ss 2 rfl rfl (Ys_alloc (T := 44) (cs := [vi 0, vi 0, vi 0, vi 0, vi 0]) (m := 5) hS1 k_zero_44 rfl rfl rfl) ?_
 rintro _ w_1 ⟨b1, rfl, hS2⟩
 have hS2 : ST w0 [] _ [⟨aD b, 44, [vi x.Num.A, vi x.Num.B, vi x.Num.C, vi x.Num.D, vi x.Exp], 5⟩, ⟨aD b1, 44, [vi 0, vi 0, vi 0, vi 0, vi 0], 5⟩] [] := hS2
 refine rw_nil ?_
 refine cw_seq ?_
 obtain ⟨r_1, hc, hF⟩ := bind_inv hF
 refine ra_start (ST.sel hS2 [0] rfl rfl).fn (by kernel_rfl) ?_
 have hS4 := hS2.drew
 refine ra_q 0 3 (v := pt (aD b) 0) rfl rfl rfl (by kernel_rfl) (by kernel_rfl) (by kernel_rfl) (ST.sel hS4 [0] rfl rfl) (fun w' hw' => (Y_fieldAddr (B := aD b) (i := 0) (s := 3) k_fd_44_0_0_42 k_sz_42_4 rfl rfl)) ?_
 refine ra_q 1 4 (v := .agg #[vi x.Num.A, vi x.Num.B, vi x.Num.C, vi x.Num.D]) rfl rfl rfl (by kernel_rfl) (by kernel_rfl) (by kernel_rfl) (ST.sel hS4 [0] rfl rfl) (fun w' hw' => (Y_loadA (B := aD b) (i := 0) (cs := [vi x.Num.A, vi x.Num.B, vi x.Num.C, vi x.Num.D, vi x.Exp]) (vs := [vi x.Num.A, vi x.Num.B, vi x.Num.C, vi x.Num.D]) k_ag_42 k_sz_42_4 rfl rfl (ST.cf hw' (i := 0) rfl) rfl rfl)) ?_
 refine ra_q 3 6 (v := pt (aD b) 4) rfl rfl rfl (by kernel_rfl) (by kernel_rfl) (by kernel_rfl) (ST.sel hS4 [0] rfl rfl) (fun w' hw' => (Y_fieldAddr (B := aD b) (i := 0) (s := 0) k_fd_44_1_4_3 k_sz_3_1 rfl rfl)) ?_
 refine ra_q 4 7 (v := vi x.Exp) rfl rfl rfl (by kernel_rfl) (by kernel_rfl) (by kernel_rfl) (ST.sel hS4 [0] rfl rfl) (fun w' hw' => (Y_load1 (B := aD b) (i := 4) (cs := [vi x.Num.A, vi x.Num.B, vi x.Num.C, vi x.Num.D, vi x.Exp]) (v := vi x.Exp) k_sc_3 rfl rfl (ST.cf hw' (i := 0) rfl) rfl)) ?_
 refine ra_all (rs := [2]) (by kernel_rfl) rfl ?_
 refine ra_c 5 (i := 2) rfl rfl rfl (Yc_func (g := 79) (vs := [.agg #[vi x.Num.A, vi x.Num.B, vi x.Num.C, vi x.Num.D]]) k_call_79 rfl (mc rfl mn) (c_spec_l1Neg x.Num _  (hS4.inn0 [] rfl) hc)) ?_ ?_
 ·rintro _ w_2 ⟨rfl, hd⟩
  have hS5 := hS4.out00 hd
  have hS5 : ST w0 [] _ [⟨aD b, 44, [vi x.Num.A, vi x.Num.B, vi x.Num.C, vi x.Num.D, vi x.Exp], 5⟩, ⟨aD b1, 44, [vi 0, vi 0, vi 0, vi 0, vi 0], 5⟩] [] := hS5
  refine ⟨(ST.sel hS5 [0] rfl rfl), ?_⟩
  refine ra_q 5 8 (v := .agg #[vi r_1.A, vi r_1.B, vi r_1.C, vi r_1.D, vi x.Exp]) rfl rfl rfl (by kernel_rfl) (by kernel_rfl) (by kernel_rfl) (ST.sel hS5 [0] rfl rfl) (fun w' hw' => (Y_buildS (zs := [vi 0, vi 0, vi 0, vi 0, vi 0]) (vs := [(0, .agg #[vi r_1.A, vi r_1.B, vi r_1.C, vi r_1.D]), (1, vi x.Exp)]) (cs := [vi r_1.A, vi r_1.B, vi r_1.C, vi r_1.D, vi x.Exp]) k_pl_44 k_zero_44 rfl (mpc rfl (mpc rfl mpn)) rfl)) ?_
  refine ra_all (rs := [6]) (by kernel_rfl) rfl ?_
  refine ra_s0 (i := 6) rfl rfl rfl (Ys_store (i := 1) (s := 5) (B := aD b1) (T' := 44) (v := .agg #[vi r_1.A, vi r_1.B, vi r_1.C, vi r_1.D, vi x.Exp]) (vs := [vi r_1.A, vi r_1.B, vi r_1.C, vi r_1.D, vi x.Exp]) (k := 0) (cs' := [vi r_1.A, vi r_1.B, vi r_1.C, vi r_1.D, vi x.Exp]) hS5 k_sz_44_5 rfl rfl rfl rfl rfl rfl rfl (Nat.le_of_ble_eq_true rfl) rfl rfl) ?_ ?_
  ·rintro _ w_3 ⟨rfl, hS6⟩
   have hS6 : ST w0 [] _ [⟨aD b, 44, [vi x.Num.A, vi x.Num.B, vi x.Num.C, vi x.Num.D, vi x.Exp], 5⟩, ⟨aD b1, 44, [vi r_1.A, vi r_1.B, vi r_1.C, vi r_1.D, vi x.Exp], 5⟩] [] := hS6
   refine ⟨(ST.sel hS6 [0] rfl rfl), ?_⟩
   refine ra_done (by kernel_rfl) ?_
   refine cw_ret ?_
   obtain rfl := some_inj hF
   exact ret1 Tryd.results58 (v1 := .agg #[vi r_1.A, vi r_1.B, vi r_1.C, vi r_1.D, vi x.Exp]) (resAt_cellA (B := aD b1) (i := 0) (cs := [vi r_1.A, vi r_1.B, vi r_1.C, vi r_1.D, vi x.Exp]) (vs := [vi r_1.A, vi r_1.B, vi r_1.C, vi r_1.D, vi x.Exp]) rfl k_ag_44 k_sz_44_5 (hS6.cf (i := 1) rfl) rfl rfl) ⟨rfl, (ST.subR (R' := []) (hS6.sel [] rfl rfl) (fun _ h => by cases h))⟩
  exact allR_nil
 exact allR_nil

theorem c_spec_l6One (kind : Int)  (w0 : World)  (hS : ST w0 [] w0 [] []) {r_ : List TDyadic} (hF : F_spec_l6One kind = some r_) :
  CV Tryd.prog 31 #[vi kind] w0 (fun v w' => ∃ (B : Option Addr) (c : Nat), v = .slice B r_.length c ∧ ST w0 [] w' [⟨B, 44, (r_.flatMap eN0), c * 5⟩] []) := by
 unfold F_spec_l6One at hF
 refine cv_of_cw 43 Tryd.func31 rfl Tryd.ntmps31 rfl ?_
 refine cw_seq ?_
 refine cw_region ?_
 refine sq 2 rfl rfl (Y_assign (v := .slice none 0 0) rfl rfl) ?_
 refine rw_nil ?_
 refine cw_seq ?_
 refine cw_region ?_
 obtain ⟨r_1, hc, hF⟩ := bind_inv hF
 refine sc 6 rfl rfl (Yc_func (g := 57) (vs := [vi 0]) k_call_57 rfl (mc rfl mn) (c_spec_l2Power 0 _  (hS.inn0 [] rfl) hc)) ?_
 rintro _ w_ ⟨rfl, hd⟩
 have hS1 := hS.out00 hd
 refine sq 7 rfl rfl (Y_buildS (zs := [vi 0, vi 0, vi 0, vi 0, vi 0]) (vs := []) (cs := [vi 0, vi 0, vi 0, vi 0, vi 0]) k_pl_44 k_zero_44 rfl mpn rfl) ?_
 refine ss 3 rfl rfl (Ys_alloc (T := 44) (cs := [vi 0, vi 0, vi 0, vi 0, vi 0]) (m := 5) hS1 k_zero_44 rfl rfl rfl) ?_
 rintro _ w_1 ⟨b, rfl, hS2⟩
 refine ss 4 rfl rfl (Ys_alloc (T := 44) (cs := [vi 0, vi 0, vi 0, vi 0, vi 0]) (m := 5) hS2 k_zero_44 rfl rfl rfl) ?_
 rintro _ w_2 ⟨b1, rfl, hS3⟩
 have hS3 : ST w0 [] _ [⟨aD b, 44, [vi 0, vi 0, vi 0, vi 0, vi 0], 5⟩, ⟨aD b1, 44, [vi 0, vi 0, vi 0, vi 0, vi 0], 5⟩] [] := hS3
 refine ss0 rfl rfl (Ys_store (i := 0) (s := 5) (B := aD b) (T' := 44) (v := .agg #[vi r_1.Num.A, vi r_1.Num.B, vi r_1.Num.C, vi r_1.Num.D, vi r_1.Exp]) (vs := [vi r_1.Num.A, vi r_1.Num.B, vi r_1.Num.C, vi r_1.Num.D, vi r_1.Exp]) (k := 0) (cs' := [vi r_1.Num.A, vi r_1.Num.B, vi r_1.Num.C, vi r_1.Num.D, vi r_1.Exp]) hS3 k_sz_44_5 rfl rfl rfl rfl rfl rfl rfl (Nat.le_of_ble_eq_true rfl) rfl rfl) ?_
 rintro _ w_3 ⟨rfl, hS4⟩
 have hS4 : ST w0 [] _ [⟨aD b, 44, [vi r_1.Num.A, vi r_1.Num.B, vi r_1.Num.C, vi r_1.Num.D, vi r_1.Exp], 5⟩, ⟨aD b1, 44, [vi 0, vi 0, vi 0, vi 0, vi 0], 5⟩] [] := hS4
 refine ss0 rfl rfl (Ys_store (i := 1) (s := 5) (B := aD b1) (T' := 44) (v := .agg #[vi 0, vi 0, vi 0, vi 0, vi 0]) (vs := [vi 0, vi 0, vi 0, vi 0, vi 0]) (k := 0) (cs' := [vi 0, vi 0, vi 0, vi 0, vi 0]) hS4 k_sz_44_5 rfl rfl rfl rfl rfl rfl rfl (Nat.le_of_ble_eq_true rfl) rfl rfl) ?_
 rintro _ w_4 ⟨rfl, hS5⟩
 have hS5 : ST w0 [] _ [⟨aD b, 44, [vi r_1.Num.A, vi r_1.Num.B, vi r_1.Num.C, vi r_1.Num.D, vi r_1.Exp], 5⟩, ⟨aD b1, 44, [vi 0, vi 0, vi 0, vi 0, vi 0], 5⟩] [] := hS5
 refine rw_nil ?_
 refine cw_seq ?_
 refine cw_region ?_
 refine sq 8 rfl rfl (Y_buildS (zs := [vi 0, vi 0, vi 0, vi 0]) (vs := [(0, vi 1)]) (cs := [vi 1, vi 0, vi 0, vi 0]) k_pl_42 k_zero_42 rfl (mpc rfl mpn) rfl) ?_
 refine sq 9 rfl rfl (Y_buildS (zs := [vi 0, vi 0, vi 0, vi 0, vi 0]) (vs := [(0, .agg #[vi 1, vi 0, vi 0, vi 0]), (1, vi 1)]) (cs := [vi 1, vi 0, vi 0, vi 0, vi 1]) k_pl_44 k_zero_44 rfl (mpc rfl (mpc rfl mpn)) rfl) ?_
 refine ss 5 rfl rfl (Ys_alloc (T := 44) (cs := [vi 0, vi 0, vi 0, vi 0, vi 0]) (m := 5) hS5 k_zero_44 rfl rfl rfl) ?_
 rintro _ w_5 ⟨b2, rfl, hS6⟩
 have hS6 : ST w0 [] _ [⟨aD b, 44, [vi r_1.Num.A, vi r_1.Num.B, vi r_1.Num.C, vi r_1.Num.D, vi r_1.Exp], 5⟩, ⟨aD b1, 44, [vi 0, vi 0, vi 0, vi 0, vi 0], 5⟩, ⟨aD b2, 44, [vi 0, vi 0, vi 0, vi 0, vi 0], 5⟩] [] := hS6
 refine ss0 rfl rfl (Ys_store (i := 2) (s := 5) (B := aD b2) (T' := 44) (v := .agg #[vi 1, vi 0, vi 0, vi 0, vi 1]) (vs := [vi 1, vi 0, vi 0, vi 0, vi 1]) (k := 0) (cs' := [vi 1, vi 0, vi 0, vi 0, vi 1]) hS6 k_sz_44_5 rfl rfl rfl rfl rfl rfl rfl (Nat.le_of_ble_eq_true rfl) rfl rfl) ?_
 rintro _ w_6 ⟨rfl, hS7⟩
 have hS7 : ST w0 [] _ [⟨aD b, 44, [vi r_1.Num.A, vi r_1.Num.B, vi r_1.Num.C, vi r_1.Num.D, vi r_1.Exp], 5⟩, ⟨aD b1, 44, [vi 0, vi 0, vi 0, vi 0, vi 0], 5⟩, ⟨aD b2, 44, [vi 1, vi 0, vi 0, vi 0, vi 1], 5⟩] [] := hS7
 refine rw_nil ?_
 refine cw_seq ?_
 refine cw_seq ?_
 refine cw_region ?_
 refine sq 10 rfl rfl (Y_move (v := vi kind) rfl rfl) ?_
 refine rw_nil ?_
 refine cw_block ?_
 refine cw_seq ?_
 refine cw_region ?_
 refine sq 12 rfl rfl (Y_eq (k := .i64) (a := kind) (b := 1) rfl rfl rfl) ?_
 refine sq 11 rfl rfl (Y_assign (v := .bool (kind == 1)) rfl rfl) ?_
 refine rw_nil ?_
 refine cw_cond (b := (kind == 1)) rfl (fun hb => ?_) (fun hb => ?_)
 ·skip
  have hF1 := ct hF hb
  refine cw_seq ?_
  obtain ⟨r_2, hc1, hF1⟩ := bind_inv hF1
  refine ra_start (ST.sel hS7 [0, 1, 2] rfl rfl).fn (by kernel_rfl) ?_
  have hS9 := hS7.drew
  refine ra_q 0 13 (v := .agg #[vi 1, vi 0, vi 0, vi 0, vi 1]) rfl rfl rfl (by kernel_rfl) (by kernel_rfl) (by kernel_rfl) (ST.sel hS9 [0, 1, 2] rfl rfl) (fun w' hw' => (Y_loadA (B := aD b2) (i := 0) (cs := [vi 1, vi 0, vi 0, vi 0, vi 1]) (vs := [vi 1, vi 0, vi 0, vi 0, vi 1]) k_ag_44 k_sz_44_5 rfl rfl (ST.cf hw' (i := 2) rfl) rfl rfl)) ?_
  refine ra_q 1 14 (v := .agg #[vi 1, vi 0, vi 0, vi 0, vi 1]) rfl rfl rfl (by kernel_rfl) (by kernel_rfl) (by kernel_rfl) (ST.sel hS9 [0, 1, 2] rfl rfl) (fun w' hw' => (Y_loadA (B := aD b2) (i := 0) (cs := [vi 1, vi 0, vi 0, vi 0, vi 1]) (vs := [vi 1, vi 0, vi 0, vi 0, vi 1]) k_ag_44 k_sz_44_5 rfl rfl (ST.cf hw' (i := 2) rfl) rfl rfl)) ?_
  refine ra_q 2 15 (v := .agg #[vi 1, vi 0, vi 0, vi 0, vi 1]) rfl rfl rfl (by kernel_rfl) (by kernel_rfl) (by kernel_rfl) (ST.sel hS9 [0, 1, 2] rfl rfl) (fun w' hw' => (Y_loadA (B := aD b2) (i := 0) (cs := [vi 1, vi 0, vi 0, vi 0, vi 1]) (vs := [vi 1, vi 0, vi 0, vi 0, vi 1]) k_ag_44 k_sz_44_5 rfl rfl (ST.cf hw' (i := 2) rfl) rfl rfl)) ?_
  refine ra_q 3 16 (v := .agg #[vi 1, vi 0, vi 0, vi 0, vi 1]) rfl rfl rfl (by kernel_rfl) (by kernel_rfl) (by kernel_rfl) (ST.sel hS9 [0, 1, 2] rfl rfl) (fun w' hw' => (Y_loadA (B := aD b2) (i := 0) (cs := [vi 1, vi 0, vi 0, vi 0, vi 1]) (vs := [vi 1, vi 0, vi 0, vi 0, vi 1]) k_ag_44 k_sz_44_5 rfl rfl (ST.cf hw' (i := 2) rfl) rfl rfl)) ?_
  refine ra_all (rs := [4]) (by kernel_rfl) rfl ?_
  refine ra_c 17 (i := 4) rfl rfl rfl (Yc_func (g := 58) (vs := [.agg #[vi 1, vi 0, vi 0, vi 0, vi 1]]) k_call_58 rfl (mc rfl mn) (c_spec_l2Neg (TDyadic.mk (TRing.mk 1 0 0 0) 1) _  (hS9.inn0 [] rfl) hc1)) ?_ ?_
  ·rintro _ w_7 ⟨rfl, hd1⟩
   have hS10 := hS9.out00 hd1
   have hS10 : ST w0 [] _ [⟨aD b, 44, [vi r_1.Num.A, vi r_1.Num.B, vi r_1.Num.C, vi r_1.Num.D, vi r_1.Exp], 5⟩, ⟨aD b1, 44, [vi 0, vi 0, vi 0, vi 0, vi 0], 5⟩, ⟨aD b2, 44, [vi 1, vi 0, vi 0, vi 0, vi 1], 5⟩] [] := hS10
   refine ⟨(ST.sel hS10 [0, 1, 2] rfl rfl), ?_⟩
   refine ra_all (rs := [5]) (by kernel_rfl) rfl ?_
   refine ra_s 18 (i := 5) rfl rfl rfl (Ys_bslice (s := 5) (len := 4) (vs := [(0, .agg #[vi 1, vi 0, vi 0, vi 0, vi 1]), (1, .agg #[vi 1, vi 0, vi 0, vi 0, vi 1]), (2, .agg #[vi 1, vi 0, vi 0, vi 0, vi 1]), (3, .agg #[vi r_2.Num.A, vi r_2.Num.B, vi r_2.Num.C, vi r_2.Num.D, vi r_2.Exp])]) (cs := [vi 1, vi 0, vi 0, vi 0, vi 1, vi 1, vi 0, vi 0, vi 0, vi 1, vi 1, vi 0, vi 0, vi 0, vi 1, vi r_2.Num.A, vi r_2.Num.B, vi r_2.Num.C, vi r_2.Num.D, vi r_2.Exp]) (zs := [vi 0, vi 0, vi 0, vi 0, vi 0, vi 0, vi 0, vi 0, vi 0, vi 0, vi 0, vi 0, vi 0, vi 0, vi 0, vi 0, vi 0, vi 0, vi 0, vi 0]) (m := 20) hS10 k_sl_32_44 k_sz_44_5 k_zc_44 rfl (mpc rfl (mpc rfl (mpc rfl (mpc rfl mpn)))) rfl rfl rfl (by kernel_rfl) (by kernel_rfl) rfl) ?_ ?_
   ·rintro _ w_8 ⟨b3, rfl, hS11⟩
    have hS11 : ST w0 [] _ [⟨aD b, 44, [vi r_1.Num.A, vi r_1.Num.B, vi r_1.Num.C, vi r_1.Num.D, vi r_1.Exp], 5⟩, ⟨aD b1, 44, [vi 0, vi 0, vi 0, vi 0, vi 0], 5⟩, ⟨aD b2, 44, [vi 1, vi 0, vi 0, vi 0, vi 1], 5⟩, ⟨aD b3, 44, ([(TDyadic.mk (TRing.mk 1 0 0 0) 1), (TDyadic.mk (TRing.mk 1 0 0 0) 1), (TDyadic.mk (TRing.mk 1 0 0 0) 1), r_2].flatMap eN0), 4 * 5⟩] [] := hS11
    refine ⟨(ST.sel hS11 [0, 1, 2] rfl rfl), ?_⟩
    refine ra_q 6 2 (v := .slice (aD b3) 4 4) rfl rfl rfl (by kernel_rfl) (by kernel_rfl) (by kernel_rfl) (ST.sel hS11 [0, 1, 2] rfl rfl) (fun w' hw' => (Y_assign (v := .slice (aD b3) 4 4) rfl rfl)) ?_
    refine ra_done (by kernel_rfl) ?_
    refine cw_ret ?_
    obtain rfl := some_inj hF1
    exact ret1 Tryd.results31 (v1 := .slice (aD b3) 4 4) (resAt_tmp rfl) ⟨aD b3, 4, rfl, (ST.subR (R' := []) (hS11.sel [3] rfl rfl) (fun _ h => by cases h))⟩
   exact allR_nil
  exact allR_nil
 ·skip
  have hF2 := cf' hF hb
  refine cw_seq ?_
  refine cw_region ?_
  refine sq 20 rfl rfl (Y_eq (k := .i64) (a := kind) (b := 2) rfl rfl rfl) ?_
  refine sq 19 rfl rfl (Y_assign (v := .bool (kind == 2)) rfl rfl) ?_
  refine rw_nil ?_
  refine cw_cond (b := (kind == 2)) rfl (fun hb1 => ?_) (fun hb1 => ?_)
  ·skip
   have hF3 := ct hF2 hb1
   refine cw_seq ?_
   refine cw_region ?_
   refine sq 21 rfl rfl (Y_loadA (B := aD b1) (i := 0) (cs := [vi 0, vi 0, vi 0, vi 0, vi 0]) (vs := [vi 0, vi 0, vi 0, vi 0, vi 0]) k_ag_44 k_sz_44_5 rfl rfl (hS7.cf (i := 1) rfl) rfl rfl) ?_
   refine sq 22 rfl rfl (Y_loadA (B := aD b) (i := 0) (cs := [vi r_1.Num.A, vi r_1.Num.B, vi r_1.Num.C, vi r_1.Num.D, vi r_1.Exp]) (vs := [vi r_1.Num.A, vi r_1.Num.B, vi r_1.Num.C, vi r_1.Num.D, vi r_1.Exp]) k_ag_44 k_sz_44_5 rfl rfl (hS7.cf (i := 0) rfl) rfl rfl) ?_
   refine sq 23 rfl rfl (Y_loadA (B := aD b) (i := 0) (cs := [vi r_1.Num.A, vi r_1.Num.B, vi r_1.Num.C, vi r_1.Num.D, vi r_1.Exp]) (vs := [vi r_1.Num.A, vi r_1.Num.B, vi r_1.Num.C, vi r_1.Num.D, vi r_1.Exp]) k_ag_44 k_sz_44_5 rfl rfl (hS7.cf (i := 0) rfl) rfl rfl) ?_
   refine sq 24 rfl rfl (Y_loadA (B := aD b1) (i := 0) (cs := [vi 0, vi 0, vi 0, vi 0, vi 0]) (vs := [vi 0, vi 0, vi 0, vi 0, vi 0]) k_ag_44 k_sz_44_5 rfl rfl (hS7.cf (i := 1) rfl) rfl rfl) ?_
   refine ss 25 rfl rfl (Ys_bslice (s := 5) (len := 4) (vs := [(0, .agg #[vi 0, vi 0, vi 0, vi 0, vi 0]), (1, .agg #[vi r_1.Num.A, vi r_1.Num.B, vi r_1.Num.C, vi r_1.Num.D, vi r_1.Exp]), (2, .agg #[vi r_1.Num.A, vi r_1.Num.B, vi r_1.Num.C, vi r_1.Num.D, vi r_1.Exp]), (3, .agg #[vi 0, vi 0, vi 0, vi 0, vi 0])]) (cs := [vi 0, vi 0, vi 0, vi 0, vi 0, vi r_1.Num.A, vi r_1.Num.B, vi r_1.Num.C, vi r_1.Num.D, vi r_1.Exp, vi r_1.Num.A, vi r_1.Num.B, vi r_1.Num.C, vi r_1.Num.D, vi r_1.Exp, vi 0, vi 0, vi 0, vi 0, vi 0]) (zs := [vi 0, vi 0, vi 0, vi 0, vi 0, vi 0, vi 0, vi 0, vi 0, vi 0, vi 0, vi 0, vi 0, vi 0, vi 0, vi 0, vi 0, vi 0, vi 0, vi 0]) (m := 20) hS7 k_sl_32_44 k_sz_44_5 k_zc_44 rfl (mpc rfl (mpc rfl (mpc rfl (mpc rfl mpn)))) rfl rfl rfl (by kernel_rfl) (by kernel_rfl) rfl) ?_
   rintro _ w_9 ⟨b4, rfl, hS12⟩
   have hS12 : ST w0 [] _ [⟨aD b, 44, [vi r_1.Num.A, vi r_1.Num.B, vi r_1.Num.C, vi r_1.Num.D, vi r_1.Exp], 5⟩, ⟨aD b1, 44, [vi 0, vi 0, vi 0, vi 0, vi 0], 5⟩, ⟨aD b2, 44, [vi 1, vi 0, vi 0, vi 0, vi 1], 5⟩, ⟨aD b4, 44, ([(TDyadic.mk (TRing.mk 0 0 0 0) 0), r_1, r_1, (TDyadic.mk (TRing.mk 0 0 0 0) 0)].flatMap eN0), 4 * 5⟩] [] := hS12
   refine sq 2 rfl rfl (Y_assign (v := .slice (aD b4) 4 4) rfl rfl) ?_
   refine rw_nil ?_
   refine cw_ret ?_
   obtain rfl := some_inj hF3
   exact ret1 Tryd.results31 (v1 := .slice (aD b4) 4 4) (resAt_tmp rfl) ⟨aD b4, 4, rfl, (ST.subR (R' := []) (hS12.sel [3] rfl rfl) (fun _ h => by cases h))⟩
  ·skip
   have hF4 := cf' hF2 hb1
   refine cw_seq ?_
   refine cw_region ?_
   refine sq 27 rfl rfl (Y_eq (k := .i64) (a := kind) (b := 3) rfl rfl rfl) ?_
   refine sq 26 rfl rfl (Y_assign (v := .bool (kind == 3)) rfl rfl) ?_
   refine rw_nil ?_
   refine cw_cond (b := (kind == 3)) rfl (fun hb2 => ?_) (fun hb2 => ?_)
   ·skip
    have hF5 := ct hF4 hb2
    refine cw_seq ?_
    obtain ⟨r_3, hc2, hF5⟩ := bind_inv hF5
    obtain ⟨r_4, hc3, hF5⟩ := bind_inv hF5
    refine ra_start (ST.sel hS7 [0, 1, 2] rfl rfl).fn (by kernel_rfl) ?_
    have hS15 := hS7.drew
    refine ra_q 0 28 (v := .agg #[vi 0, vi 0, vi 0, vi 0, vi 0]) rfl rfl rfl (by kernel_rfl) (by kernel_rfl) (by kernel_rfl) (ST.sel hS15 [0, 1, 2] rfl rfl) (fun w' hw' => (Y_loadA (B := aD b1) (i := 0) (cs := [vi 0, vi 0, vi 0, vi 0, vi 0]) (vs := [vi 0, vi 0, vi 0, vi 0, vi 0]) k_ag_44 k_sz_44_5 rfl rfl (ST.cf hw' (i := 1) rfl) rfl rfl)) ?_
    refine ra_q 3 31 (v := .agg #[vi 0, vi 0, vi 0, vi 0, vi 0]) rfl rfl rfl (by kernel_rfl) (by kernel_rfl) (by kernel_rfl) (ST.sel hS15 [0, 1, 2] rfl rfl) (fun w' hw' => (Y_loadA (B := aD b1) (i := 0) (cs := [vi 0, vi 0, vi 0, vi 0, vi 0]) (vs := [vi 0, vi 0, vi 0, vi 0, vi 0]) k_ag_44 k_sz_44_5 rfl rfl (ST.cf hw' (i := 1) rfl) rfl rfl)) ?_
    refine ra_all (rs := [1]) (by kernel_rfl) rfl ?_
    refine ra_c 29 (i := 1) rfl rfl rfl (Yc_func (g := 57) (vs := [vi 6]) k_call_57 rfl (mc rfl mn) (c_spec_l2Power 6 _  (hS15.inn0 [] rfl) hc2)) ?_ ?_
    ·rintro _ w_10 ⟨rfl, hd2⟩
     have hS16 := hS15.out00 hd2
     have hS16 : ST w0 [] _ [⟨aD b, 44, [vi r_1.Num.A, vi r_1.Num.B, vi r_1.Num.C, vi r_1.Num.D, vi r_1.Exp], 5⟩, ⟨aD b1, 44, [vi 0, vi 0, vi 0, vi 0, vi 0], 5⟩, ⟨aD b2, 44, [vi 1, vi 0, vi 0, vi 0, vi 1], 5⟩] [] := hS16
     refine ⟨(ST.sel hS16 [0, 1, 2] rfl rfl), ?_⟩
     refine ra_all (rs := [2]) (by kernel_rfl) rfl ?_
     refine ra_c 30 (i := 2) rfl rfl rfl (Yc_func (g := 57) (vs := [vi 2]) k_call_57 rfl (mc rfl mn) (c_spec_l2Power 2 _  (hS16.inn0 [] rfl) hc3)) ?_ ?_
     ·rintro _ w_11 ⟨rfl, hd3⟩
      have hS17 := hS16.out00 hd3
      have hS17 : ST w0 [] _ [⟨aD b, 44, [vi r_1.Num.A, vi r_1.Num.B, vi r_1.Num.C, vi r_1.Num.D, vi r_1.Exp], 5⟩, ⟨aD b1, 44, [vi 0, vi 0, vi 0, vi 0, vi 0], 5⟩, ⟨aD b2, 44, [vi 1, vi 0, vi 0, vi 0, vi 1], 5⟩] [] := hS17
      refine ⟨(ST.sel hS17 [0, 1, 2] rfl rfl), ?_⟩
      refine ra_all (rs := [4]) (by kernel_rfl) rfl ?_
      refine ra_s 32 (i := 4) rfl rfl rfl (Ys_bslice (s := 5) (len := 4) (vs := [(0, .agg #[vi 0, vi 0, vi 0, vi 0, vi 0]), (1, .agg #[vi r_3.Num.A, vi r_3.Num.B, vi r_3.Num.C, vi r_3.Num.D, vi r_3.Exp]), (2, .agg #[vi r_4.Num.A, vi r_4.Num.B, vi r_4.Num.C, vi r_4.Num.D, vi r_4.Exp]), (3, .agg #[vi 0, vi 0, vi 0, vi 0, vi 0])]) (cs := [vi 0, vi 0, vi 0, vi 0, vi 0, vi r_3.Num.A, vi r_3.Num.B, vi r_3.Num.C, vi r_3.Num.D, vi r_3.Exp, vi r_4.Num.A, vi r_4.Num.B, vi r_4.Num.C, vi r_4.Num.D, vi r_4.Exp, vi 0, vi 0, vi 0, vi 0, vi 0]) (zs := [vi 0, vi 0, vi 0, vi 0, vi 0, vi 0, vi 0, vi 0, vi 0, vi 0, vi 0, vi 0, vi 0, vi 0, vi 0, vi 0, vi 0, vi 0, vi 0, vi 0]) (m := 20) hS17 k_sl_32_44 k_sz_44_5 k_zc_44 rfl (mpc rfl (mpc rfl (mpc rfl (mpc rfl mpn)))) rfl rfl rfl (by kernel_rfl) (by kernel_rfl) rfl) ?_ ?_
      ·rintro _ w_12 ⟨b5, rfl, hS18⟩
       have hS18 : ST w0 [] _ [⟨aD b, 44, [vi r_1.Num.A, vi r_1.Num.B, vi r_1.Num.C, vi r_1.Num.D, vi r_1.Exp], 5⟩, ⟨aD b1, 44, [vi 0, vi 0, vi 0, vi 0, vi 0], 5⟩, ⟨aD b2, 44, [vi 1, vi 0, vi 0, vi 0, vi 1], 5⟩, ⟨aD b5, 44, ([(TDyadic.mk (TRing.mk 0 0 0 0) 0), r_3, r_4, (TDyadic.mk (TRing.mk 0 0 0 0) 0)].flatMap eN0), 4 * 5⟩] [] := hS18
       refine ⟨(ST.sel hS18 [0, 1, 2] rfl rfl), ?_⟩
       refine ra_q 5 2 (v := .slice (aD b5) 4 4) rfl rfl rfl (by kernel_rfl) (by kernel_rfl) (by kernel_rfl) (ST.sel hS18 [0, 1, 2] rfl rfl) (fun w' hw' => (Y_assign (v := .slice (aD b5) 4 4) rfl rfl)) ?_
       refine ra_done (by kernel_rfl) ?_
       refine cw_ret ?_
       obtain rfl := some_inj hF5
       exact ret1 Tryd.results31 (v1 := .slice (aD b5) 4 4) (resAt_tmp rfl) ⟨aD b5, 4, rfl, (ST.subR (R' := []) (hS18.sel [3] rfl rfl) (fun _ h => by cases h))⟩
      exact allR_nil
     exact allR_nil
    exact allR_nil
   ·skip
    have hF6 := cf' hF4 hb2
    refine cw_skip ?_
    refine cw_seq ?_
    obtain ⟨x, hx, hF6⟩ := bind_inv hF6
    obtain ⟨r_5, hc4, hF6⟩ := bind_inv hF6
    refine ra_start (ST.sel hS7 [0, 1, 2] rfl rfl).fn (by kernel_rfl) ?_
    have hS20 := hS7.drew
    refine ra_q 0 33 (v := .agg #[vi r_1.Num.A, vi r_1.Num.B, vi r_1.Num.C, vi r_1.Num.D, vi r_1.Exp]) rfl rfl rfl (by kernel_rfl) (by kernel_rfl) (by kernel_rfl) (ST.sel hS20 [0, 1, 2] rfl rfl) (fun w' hw' => (Y_loadA (B := aD b) (i := 0) (cs := [vi r_1.Num.A, vi r_1.Num.B, vi r_1.Num.C, vi r_1.Num.D, vi r_1.Exp]) (vs := [vi r_1.Num.A, vi r_1.Num.B, vi r_1.Num.C, vi r_1.Num.D, vi r_1.Exp]) k_ag_44 k_sz_44_5 rfl rfl (ST.cf hw' (i := 0) rfl) rfl rfl)) ?_
    refine ra_q 1 34 (v := .agg #[vi 0, vi 0, vi 0, vi 0, vi 0]) rfl rfl rfl (by kernel_rfl) (by kernel_rfl) (by kernel_rfl) (ST.sel hS20 [0, 1, 2] rfl rfl) (fun w' hw' => (Y_loadA (B := aD b1) (i := 0) (cs := [vi 0, vi 0, vi 0, vi 0, vi 0]) (vs := [vi 0, vi 0, vi 0, vi 0, vi 0]) k_ag_44 k_sz_44_5 rfl rfl (ST.cf hw' (i := 1) rfl) rfl rfl)) ?_
    refine ra_q 2 35 (v := .agg #[vi 0, vi 0, vi 0, vi 0, vi 0]) rfl rfl rfl (by kernel_rfl) (by kernel_rfl) (by kernel_rfl) (ST.sel hS20 [0, 1, 2] rfl rfl) (fun w' hw' => (Y_loadA (B := aD b1) (i := 0) (cs := [vi 0, vi 0, vi 0, vi 0, vi 0]) (vs := [vi 0, vi 0, vi 0, vi 0, vi 0]) k_ag_44 k_sz_44_5 rfl rfl (ST.cf hw' (i := 1) rfl) rfl rfl)) ?_
    refine ra_q 4 37 (v := vi kind) rfl rfl rfl (by kernel_rfl) (by kernel_rfl) (by kernel_rfl) (ST.sel hS20 [0, 1, 2] rfl rfl) (fun w' hw' => (Y_move (v := vi kind) rfl rfl)) ?_
    refine ra_q 5 38 (v := vi (i64.wrap (kind - 4))) rfl rfl rfl (by kernel_rfl) (by kernel_rfl) (by kernel_rfl) (ST.sel hS20 [0, 1, 2] rfl rfl) (fun w' hw' => (Y_sub (k := .i64) (a := kind) (b := 4) rfl rfl rfl)) ?_
    refine ra_all (rs := [3]) (by kernel_rfl) rfl ?_
    refine ra_s 36 (i := 3) rfl rfl rfl (Ys_bslice (s := 1) (len := 5) (vs := [(0, vi 4), (1, vi 2), (2, vi 6), (3, vi 1), (4, vi 7)]) (cs := [vi 4, vi 2, vi 6, vi 1, vi 7]) (zs := [vi 0, vi 0, vi 0, vi 0, vi 0]) (m := 5) hS20 k_sl_92_3 k_sz_3_1 k_zc_3 rfl (mpc rfl (mpc rfl (mpc rfl (mpc rfl (mpc rfl mpn))))) rfl rfl rfl (by kernel_rfl) (by kernel_rfl) rfl) ?_ ?_
    ·rintro _ w_13 ⟨b6, rfl, hS21⟩
     have hS21 : ST w0 [] _ [⟨aD b, 44, [vi r_1.Num.A, vi r_1.Num.B, vi r_1.Num.C, vi r_1.Num.D, vi r_1.Exp], 5⟩, ⟨aD b1, 44, [vi 0, vi 0, vi 0, vi 0, vi 0], 5⟩, ⟨aD b2, 44, [vi 1, vi 0, vi 0, vi 0, vi 1], 5⟩, ⟨aD b6, 3, ([4, 2, 6, 1, 7].flatMap encI), 5 * 1⟩] [] := hS21
     refine ⟨(ST.sel hS21 [0, 1, 2] rfl rfl), ?_⟩
     refine ra_all (rs := [6]) (by kernel_rfl) rfl ?_
     refine ra_y 39 (i := 6) (v := pt (aD b6) ((i64.wrap (kind - 4)).toNat * 1)) rfl rfl rfl (Y_index (B := aD b6) (m := 5) (c := 5) (k := .i64) (i := (i64.wrap (kind - 4))) k_sl_92_3 k_sz_3_1 rfl rfl rfl (gi_isSome encI_len rfl (hS21.cf (i := 3) rfl) hx) (getI_nn hx) (getI_ltI hx rfl)) (ST.sel hS21 [0, 1, 2] rfl rfl) ?_ ?_
     ·skip
      refine ra_all (rs := [7]) (by kernel_rfl) rfl ?_
      refine ra_y 40 (i := 7) (v := vi x) rfl rfl rfl (Y_load1 (B := aD b6) (i := (i64.wrap (kind - 4)).toNat * 1) (cs := ([4, 2, 6, 1, 7].flatMap encI)) (v := vi x) k_sc_3 rfl rfl (hS21.cf (i := 3) rfl) (gi_at0 encI_len hx rfl)) (ST.sel hS21 [0, 1, 2] rfl rfl) ?_ ?_
      ·skip
       refine ra_all (rs := [8]) (by kernel_rfl) rfl ?_
       refine ra_c 41 (i := 8) rfl rfl rfl (Yc_func (g := 57) (vs := [vi x]) k_call_57 rfl (mc rfl mn) (c_spec_l2Power x _  (hS21.inn0 [] rfl) hc4)) ?_ ?_
       ·rintro _ w_14 ⟨rfl, hd4⟩
        have hS22 := hS21.out00 hd4
        have hS22 : ST w0 [] _ [⟨aD b, 44, [vi r_1.Num.A, vi r_1.Num.B, vi r_1.Num.C, vi r_1.Num.D, vi r_1.Exp], 5⟩, ⟨aD b1, 44, [vi 0, vi 0, vi 0, vi 0, vi 0], 5⟩, ⟨aD b2, 44, [vi 1, vi 0, vi 0, vi 0, vi 1], 5⟩, ⟨aD b6, 3, ([4, 2, 6, 1, 7].flatMap encI), 5 * 1⟩] [] := hS22
        refine ⟨(ST.sel hS22 [0, 1, 2] rfl rfl), ?_⟩
        refine ra_all (rs := [9]) (by kernel_rfl) rfl ?_
        refine ra_s 42 (i := 9) rfl rfl rfl (Ys_bslice (s := 5) (len := 4) (vs := [(0, .agg #[vi r_1.Num.A, vi r_1.Num.B, vi r_1.Num.C, vi r_1.Num.D, vi r_1.Exp]), (1, .agg #[vi 0, vi 0, vi 0, vi 0, vi 0]), (2, .agg #[vi 0, vi 0, vi 0, vi 0, vi 0]), (3, .agg #[vi r_5.Num.A, vi r_5.Num.B, vi r_5.Num.C, vi r_5.Num.D, vi r_5.Exp])]) (cs := [vi r_1.Num.A, vi r_1.Num.B, vi r_1.Num.C, vi r_1.Num.D, vi r_1.Exp, vi 0, vi 0, vi 0, vi 0, vi 0, vi 0, vi 0, vi 0, vi 0, vi 0, vi r_5.Num.A, vi r_5.Num.B, vi r_5.Num.C, vi r_5.Num.D, vi r_5.Exp]) (zs := [vi 0, vi 0, vi 0, vi 0, vi 0, vi 0, vi 0, vi 0, vi 0, vi 0, vi 0, vi 0, vi 0, vi 0, vi 0, vi 0, vi 0, vi 0, vi 0, vi 0]) (m := 20) hS22 k_sl_32_44 k_sz_44_5 k_zc_44 rfl (mpc rfl (mpc rfl (mpc rfl (mpc rfl mpn)))) rfl rfl rfl (by kernel_rfl) (by kernel_rfl) rfl) ?_ ?_
        ·rintro _ w_15 ⟨b7, rfl, hS23⟩
         have hS23 : ST w0 [] _ [⟨aD b, 44, [vi r_1.Num.A, vi r_1.Num.B, vi r_1.Num.C, vi r_1.Num.D, vi r_1.Exp], 5⟩, ⟨aD b1, 44, [vi 0, vi 0, vi 0, vi 0, vi 0], 5⟩, ⟨aD b2, 44, [vi 1, vi 0, vi 0, vi 0, vi 1], 5⟩, ⟨aD b6, 3, ([4, 2, 6, 1, 7].flatMap encI), 5 * 1⟩, ⟨aD b7, 44, ([r_1, (TDyadic.mk (TRing.mk 0 0 0 0) 0), (TDyadic.mk (TRing.mk 0 0 0 0) 0), r_5].flatMap eN0), 4 * 5⟩] [] := hS23
         refine ⟨(ST.sel hS23 [0, 1, 2] rfl rfl), ?_⟩
         refine ra_q 10 2 (v := .slice (aD b7) 4 4) rfl rfl rfl (by kernel_rfl) (by kernel_rfl) (by kernel_rfl) (ST.sel hS23 [0, 1, 2] rfl rfl) (fun w' hw' => (Y_assign (v := .slice (aD b7) 4 4) rfl rfl)) ?_
         refine ra_done (by kernel_rfl) ?_
         refine cw_ret ?_
         obtain rfl := some_inj hF6
         exact ret1 Tryd.results31 (v1 := .slice (aD b7) 4 4) (resAt_tmp rfl) ⟨aD b7, 4, rfl, (ST.subR (R' := []) (hS23.sel [4] rfl rfl) (fun _ h => by cases h))⟩
        exact allR_nil
       exact allR_nil
      exact allR_nil
     exact allR_nil
    exact allR_nil

theorem c_spec_l9Pauli (i : Int)  (w0 : World)  (hS : ST w0 [] w0 [] []) {r_ : TMatrix} (hF : F_spec_l9Pauli i = some r_) :
  CV Tryd.prog 21 #[vi i] w0 (fun v w' => ∃ (B : Option Addr) (c : Nat), v = .agg #[vi r_.Rows, vi r_.Cols, .slice B r_.Cells.length c] ∧ ST w0 [] w' [⟨B, 44, (r_.Cells.flatMap eN0), c * 5⟩] []) := by
 unfold F_spec_l9Pauli at hF
 refine cv_of_cw 7 Tryd.func21 rfl Tryd.ntmps21 rfl ?_
 refine cw_seq ?_
 refine cw_region ?_
 refine ss 2 rfl rfl (Ys_alloc (T := 38) (cs := [vi 0, vi 0, .slice none 0 0]) (m := 3) hS k_zero_38 rfl rfl rfl) ?_
 rintro _ w_ ⟨b, rfl, hS1⟩
 refine rw_nil ?_
 refine cw_seq ?_
 refine cw_region ?_
 refine sq 3 rfl rfl (Y_move (v := vi i) rfl rfl) ?_
 refine sq 4 rfl rfl (Y_add (k := .i64) (a := 2) (b := i) rfl rfl rfl) ?_
 obtain ⟨r_1, hc, hF⟩ := bind_inv hF
 refine sc 5 rfl rfl (Yc_func (g := 31) (vs := [vi (i64.wrap (2 + i))]) k_call_31 rfl (mc rfl mn) (c_spec_l6One (i64.wrap (2 + i)) _  (hS1.inn0 [] rfl) hc)) ?_
 rintro _ w_1 ⟨B1, c1, rfl, hd⟩
 have hS2 := hS1.out0 hd
 have hS2 : ST w0 [] _ [⟨aD b, 38, [vi 0, vi 0, .slice none 0 0], 3⟩, ⟨B1, 44, (r_1.flatMap eN0), c1 * 5⟩] [] := hS2
 refine sq 6 rfl rfl (Y_buildS (zs := [vi 0, vi 0, .slice none 0 0]) (vs := [(0, vi 2), (1, vi 2), (2, .slice B1 r_1.length c1)]) (cs := [vi 2, vi 2, .slice B1 r_1.length c1]) k_pl_38 k_zero_38 rfl (mpc rfl (mpc rfl (mpc rfl mpn))) rfl) ?_
 refine ss0 rfl rfl (Ys_store (i := 0) (s := 3) (B := aD b) (T' := 38) (v := .agg #[vi 2, vi 2, .slice B1 r_1.length c1]) (vs := [vi 2, vi 2, .slice B1 r_1.length c1]) (k := 0) (cs' := [vi 2, vi 2, .slice B1 r_1.length c1]) hS2 k_sz_38_3 rfl rfl rfl rfl rfl rfl rfl (Nat.le_of_ble_eq_true rfl) rfl rfl) ?_
 rintro _ w_2 ⟨rfl, hS3⟩
 have hS3 : ST w0 [] _ [⟨aD b, 38, [vi 2, vi 2, .slice B1 r_1.length c1], 3⟩, ⟨B1, 44, (r_1.flatMap eN0), c1 * 5⟩] [] := hS3
 refine rw_nil ?_
 refine cw_ret ?_
 obtain rfl := some_inj hF
 exact ret1 Tryd.results21 (v1 := .agg #[vi 2, vi 2, .slice B1 r_1.length c1]) (resAt_cellA (B := aD b) (i := 0) (cs := [vi 2, vi 2, .slice B1 r_1.length c1]) (vs := [vi 2, vi 2, .slice B1 r_1.length c1]) rfl k_ag_38 k_sz_38_3 (hS3.cf (i := 0) rfl) rfl rfl) ⟨B1, c1, rfl, (ST.subR (R' := []) (hS3.sel [1] rfl rfl) (fun _ h => by cases h))⟩

theorem c_spec_l1Conj (x : TRing)  (w0 : World)  (hS : ST w0 [] w0 [] []) {r_ : TRing} (hF : F_spec_l1Conj x = some r_) :
  CV Tryd.prog 59 #[.agg #[vi x.A, vi x.B, vi x.C, vi x.D]] w0 (fun v w' => v = .agg #[vi r_.A, vi r_.B, vi r_.C, vi r_.D] ∧ ST w0 [] w' [] []) := by
 unfold F_spec_l1Conj at hF
 refine cv_of_cw 15 Tryd.func59 rfl Tryd.ntmps59 rfl ?_
 refine cw_seq ?_
 refine cw_region ?_
 refine ss 1 rfl rfl (Ys_box (T := 42) (v := .agg #[vi x.A, vi x.B, vi x.C, vi x.D]) (cs := [vi x.A, vi x.B, vi x.C, vi x.D]) (m := 4) hS rfl rfl rfl rfl) ?_
 rintro _ w_ ⟨b, rfl, hS1⟩
 refine ss 2 rfl rfl (Ys_alloc (T := 42) (cs := [vi 0, vi 0, vi 0, vi 0]) (m := 4) hS1 k_zero_42 rfl rfl rfl) ?_
 rintro _ w_1 ⟨b1, rfl, hS2⟩
 have hS2 : ST w0 [] _ [⟨aD b, 42, [vi x.A, vi x.B, vi x.C, vi x.D], 4⟩, ⟨aD b1, 42, [vi 0, vi 0, vi 0, vi 0], 4⟩] [] := hS2
 refine rw_nil ?_
 refine cw_seq ?_
 refine cw_region ?_
 refine sq 3 rfl rfl (Y_fieldAddr (B := aD b) (i := 0) (s := 0) k_fd_42_0_0_3 k_sz_3_1 rfl rfl) ?_
 refine sq 4 rfl rfl (Y_load1 (B := aD b) (i := 0) (cs := [vi x.A, vi x.B, vi x.C, vi x.D]) (v := vi x.A) k_sc_3 rfl rfl (hS2.cf (i := 0) rfl) rfl) ?_
 refine sq 5 rfl rfl (Y_fieldAddr (B := aD b) (i := 0) (s := 0) k_fd_42_3_3_3 k_sz_3_1 rfl rfl) ?_
 refine sq 6 rfl rfl (Y_load1 (B := aD b) (i := 3) (cs := [vi x.A, vi x.B, vi x.C, vi x.D]) (v := vi x.D) k_sc_3 rfl rfl (hS2.cf (i := 0) rfl) rfl) ?_
 refine sq 7 rfl rfl (Y_neg (k := .i64) (a := x.D) rfl rfl) ?_
 refine sq 8 rfl rfl (Y_fieldAddr (B := aD b) (i := 0) (s := 0) k_fd_42_2_2_3 k_sz_3_1 rfl rfl) ?_
 refine sq 9 rfl rfl (Y_load1 (B := aD b) (i := 2) (cs := [vi x.A, vi x.B, vi x.C, vi x.D]) (v := vi x.C) k_sc_3 rfl rfl (hS2.cf (i := 0) rfl) rfl) ?_
 refine sq 10 rfl rfl (Y_neg (k := .i64) (a := x.C) rfl rfl) ?_
 refine sq 11 rfl rfl (Y_fieldAddr (B := aD b) (i := 0) (s := 0) k_fd_42_1_1_3 k_sz_3_1 rfl rfl) ?_
 refine sq 12 rfl rfl (Y_load1 (B := aD b) (i := 1) (cs := [vi x.A, vi x.B, vi x.C, vi x.D]) (v := vi x.B) k_sc_3 rfl rfl (hS2.cf (i := 0) rfl) rfl) ?_
 refine sq 13 rfl rfl (Y_neg (k := .i64) (a := x.B) rfl rfl) ?_
 refine sq 14 rfl rfl (Y_buildS (zs := [vi 0, vi 0, vi 0, vi 0]) (vs := [(0, vi x.A), (1, vi (i64.wrap (-x.D))), (2, vi (i64.wrap (-x.C))), (3, vi (i64.wrap (-x.B)))]) (cs := [vi x.A, vi (i64.wrap (-x.D)), vi (i64.wrap (-x.C)), vi (i64.wrap (-x.B))]) k_pl_42 k_zero_42 rfl (mpc rfl (mpc rfl (mpc rfl (mpc rfl mpn)))) rfl) ?_
 refine ss0 rfl rfl (Ys_store (i := 1) (s := 4) (B := aD b1) (T' := 42) (v := .agg #[vi x.A, vi (i64.wrap (-x.D)), vi (i64.wrap (-x.C)), vi (i64.wrap (-x.B))]) (vs := [vi x.A, vi (i64.wrap (-x.D)), vi (i64.wrap (-x.C)), vi (i64.wrap (-x.B))]) (k := 0) (cs' := [vi x.A, vi (i64.wrap (-x.D)), vi (i64.wrap (-x.C)), vi (i64.wrap (-x.B))]) hS2 k_sz_42_4 rfl rfl rfl rfl rfl rfl rfl (Nat.le_of_ble_eq_true rfl) rfl rfl) ?_
 rintro _ w_2 ⟨rfl, hS3⟩
 have hS3 : ST w0 [] _ [⟨aD b, 42, [vi x.A, vi x.B, vi x.C, vi x.D], 4⟩, ⟨aD b1, 42, [vi x.A, vi (i64.wrap (-x.D)), vi (i64.wrap (-x.C)), vi (i64.wrap (-x.B))], 4⟩] [] := hS3
 refine rw_nil ?_
 refine cw_ret ?_
 obtain rfl := some_inj hF
 exact ret1 Tryd.results59 (v1 := .agg #[vi x.A, vi (i64.wrap (-x.D)), vi (i64.wrap (-x.C)), vi (i64.wrap (-x.B))]) (resAt_cellA (B := aD b1) (i := 0) (cs := [vi x.A, vi (i64.wrap (-x.D)), vi (i64.wrap (-x.C)), vi (i64.wrap (-x.B))]) (vs := [vi x.A, vi (i64.wrap (-x.D)), vi (i64.wrap (-x.C)), vi (i64.wrap (-x.B))]) rfl k_ag_42 k_sz_42_4 (hS3.cf (i := 1) rfl) rfl rfl) ⟨rfl, (ST.subR (R' := []) (hS3.sel [] rfl rfl) (fun _ h => by cases h))⟩

theorem c_spec_l2Conj (x : TDyadic)  (w0 : World)  (hS : ST w0 [] w0 [] []) {r_ : TDyadic} (hF : F_spec_l2Conj x = some r_) :
  CV Tryd.prog 32 #[.agg #[vi x.Num.A, vi x.Num.B, vi x.Num.C, vi x.Num.D, vi x.Exp]] w0 (fun v w' => v = .agg #[vi r_.Num.A, vi r_.Num.B, vi r_.Num.C, vi r_.Num.D, vi r_.Exp] ∧ ST w0 [] w' [] []) := by
 unfold F_spec_l2Conj at hF
 refine cv_of_cw 9 Tryd.func32 rfl Tryd.ntmps32 rfl ?_
 refine cw_seq ?_
 refine cw_region ?_
 refine ss 1 rfl rfl (Ys_box (T := 44) (v := .agg #[vi x.Num.A, vi x.Num.B, vi x.Num.C, vi x.Num.D, vi x.Exp]) (cs := [vi x.Num.A, vi x.Num.B, vi x.Num.C, vi x.Num.D, vi x.Exp]) (m := 5) hS rfl rfl rfl rfl) ?_
 rintro _ w_ ⟨b, rfl, hS1⟩
 refine ss 2 rfl rfl (Ys_alloc (T := 44) (cs := [vi 0, vi 0, vi 0, vi 0, vi 0]) (m := 5) hS1 k_zero_44 rfl rfl rfl) ?_
 rintro _ w_1 ⟨b1, rfl, hS2⟩
 have hS2 : ST w0 [] _ [⟨aD b, 44, [vi x.Num.A, vi x.Num.B, vi x.Num.C, vi x.Num.D, vi x.Exp], 5⟩, ⟨aD b1, 44, [vi 0, vi 0, vi 0, vi 0, vi 0], 5⟩] [] := hS2
 refine rw_nil ?_
 refine cw_seq ?_
 obtain ⟨r_1, hc, hF⟩ := bind_inv hF
 refine ra_start (ST.sel hS2 [0] rfl rfl).fn (by kernel_rfl) ?_
 have hS4 := hS2.drew
 refine ra_q 0 3 (v := pt (aD b) 0) rfl rfl rfl (by kernel_rfl) (by kernel_rfl) (by kernel_rfl) (ST.sel hS4 [0] rfl rfl) (fun w' hw' => (Y_fieldAddr (B := aD b) (i := 0) (s := 3) k_fd_44_0_0_42 k_sz_42_4 rfl rfl)) ?_
 refine ra_q 1 4 (v := .agg #[vi x.Num.A, vi x.Num.B, vi x.Num.C, vi x.Num.D]) rfl rfl rfl (by kernel_rfl) (by kernel_rfl) (by kernel_rfl) (ST.sel hS4 [0] rfl rfl) (fun w' hw' => (Y_loadA (B := aD b) (i := 0) (cs := [vi x.Num.A, vi x.Num.B, vi x.Num.C, vi x.Num.D, vi x.Exp]) (vs := [vi x.Num.A, vi x.Num.B, vi x.Num.C, vi x.Num.D]) k_ag_42 k_sz_42_4 rfl rfl (ST.cf hw' (i := 0) rfl) rfl rfl)) ?_
 refine ra_q 3 6 (v := pt (aD b) 4) rfl rfl rfl (by kernel_rfl) (by kernel_rfl) (by kernel_rfl) (ST.sel hS4 [0] rfl rfl) (fun w' hw' => (Y_fieldAddr (B := aD b) (i := 0) (s := 0) k_fd_44_1_4_3 k_sz_3_1 rfl rfl)) ?_
 refine ra_q 4 7 (v := vi x.Exp) rfl rfl rfl (by kernel_rfl) (by kernel_rfl) (by kernel_rfl) (ST.sel hS4 [0] rfl rfl) (fun w' hw' => (Y_load1 (B := aD b) (i := 4) (cs := [vi x.Num.A, vi x.Num.B, vi x.Num.C, vi x.Num.D, vi x.Exp]) (v := vi x.Exp) k_sc_3 rfl rfl (ST.cf hw' (i := 0) rfl) rfl)) ?_
 refine ra_all (rs := [2]) (by kernel_rfl) rfl ?_
 refine ra_c 5 (i := 2) rfl rfl rfl (Yc_func (g := 59) (vs := [.agg #[vi x.Num.A, vi x.Num.B, vi x.Num.C, vi x.Num.D]]) k_call_59 rfl (mc rfl mn) (c_spec_l1Conj x.Num _  (hS4.inn0 [] rfl) hc)) ?_ ?_
 ·rintro _ w_2 ⟨rfl, hd⟩
  have hS5 := hS4.out00 hd
  have hS5 : ST w0 [] _ [⟨aD b, 44, [vi x.Num.A, vi x.Num.B, vi x.Num.C, vi x.Num.D, vi x.Exp], 5⟩, ⟨aD b1, 44, [vi 0, vi 0, vi 0, vi 0, vi 0], 5⟩] [] := hS5
  refine ⟨(ST.sel hS5 [0] rfl rfl), ?_⟩
  refine ra_q 5 8 (v := .agg #[vi r_1.A, vi r_1.B, vi r_1.C, vi r_1.D, vi x.Exp]) rfl rfl rfl (by kernel_rfl) (by kernel_rfl) (by kernel_rfl) (ST.sel hS5 [0] rfl rfl) (fun w' hw' => (Y_buildS (zs := [vi 0, vi 0, vi 0, vi 0, vi 0]) (vs := [(0, .agg #[vi r_1.A, vi r_1.B, vi r_1.C, vi r_1.D]), (1, vi x.Exp)]) (cs := [vi r_1.A, vi r_1.B, vi r_1.C, vi r_1.D, vi x.Exp]) k_pl_44 k_zero_44 rfl (mpc rfl (mpc rfl mpn)) rfl)) ?_
  refine ra_all (rs := [6]) (by kernel_rfl) rfl ?_
  refine ra_s0 (i := 6) rfl rfl rfl (Ys_store (i := 1) (s := 5) (B := aD b1) (T' := 44) (v := .agg #[vi r_1.A, vi r_1.B, vi r_1.C, vi r_1.D, vi x.Exp]) (vs := [vi r_1.A, vi r_1.B, vi r_1.C, vi r_1.D, vi x.Exp]) (k := 0) (cs' := [vi r_1.A, vi r_1.B, vi r_1.C, vi r_1.D, vi x.Exp]) hS5 k_sz_44_5 rfl rfl rfl rfl rfl rfl rfl (Nat.le_of_ble_eq_true rfl) rfl rfl) ?_ ?_
  ·rintro _ w_3 ⟨rfl, hS6⟩
   have hS6 : ST w0 [] _ [⟨aD b, 44, [vi x.Num.A, vi x.Num.B, vi x.Num.C, vi x.Num.D, vi x.Exp], 5⟩, ⟨aD b1, 44, [vi r_1.A, vi r_1.B, vi r_1.C, vi r_1.D, vi x.Exp], 5⟩] [] := hS6
   refine ⟨(ST.sel hS6 [0] rfl rfl), ?_⟩
   refine ra_done (by kernel_rfl) ?_
   refine cw_ret ?_
   obtain rfl := some_inj hF
   exact ret1 Tryd.results32 (v1 := .agg #[vi r_1.A, vi r_1.B, vi r_1.C, vi r_1.D, vi x.Exp]) (resAt_cellA (B := aD b1) (i := 0) (cs := [vi r_1.A, vi r_1.B, vi r_1.C, vi r_1.D, vi x.Exp]) (vs := [vi r_1.A, vi r_1.B, vi r_1.C, vi r_1.D, vi x.Exp]) rfl k_ag_44 k_sz_44_5 (hS6.cf (i := 1) rfl) rfl rfl) ⟨rfl, (ST.subR (R' := []) (hS6.sel [] rfl rfl) (fun _ h => by cases h))⟩
  exact allR_nil
 exact allR_nil

theorem c_spec_l3Adj (m : TMatrix) (B : Option Addr) (c n : Nat) (w0 : World) (hn : m.Cells.length = n) (hS : ST w0 [] w0 [] [⟨B, (m.Cells.flatMap eN0)⟩]) {r_ : TMatrix} (hF : F_spec_l3Adj m = some r_) :
  CV Tryd.prog 22 #[.agg #[vi m.Rows, vi m.Cols, .slice B n c]] w0 (fun v w' => ∃ (B1 : Option Addr) (c1 : Nat), v = .agg #[vi r_.Rows, vi r_.Cols, .slice B1 r_.Cells.length c1] ∧ ST w0 [] w' [⟨B1, 44, (r_.Cells.flatMap eN0), c1 * 5⟩] []) := by
 subst hn
 unfold F_spec_l3Adj at hF
 refine cv_of_cw 40 Tryd.func22 rfl Tryd.ntmps22 rfl ?_
 refine cw_seq ?_
 refine cw_region ?_
 refine ss 1 rfl rfl (Ys_box (T := 38) (v := .agg #[vi m.Rows, vi m.Cols, .slice B m.Cells.length c]) (cs := [vi m.Rows, vi m.Cols, .slice B m.Cells.length c]) (m := 3) hS rfl rfl rfl rfl) ?_
 rintro _ w_ ⟨b, rfl, hS1⟩
 refine ss 2 rfl rfl (Ys_alloc (T := 38) (cs := [vi 0, vi 0, .slice none 0 0]) (m := 3) hS1 k_zero_38 rfl rfl rfl) ?_
 rintro _ w_1 ⟨b1, rfl, hS2⟩
 have hS2 : ST w0 [] _ [⟨aD b, 38, [vi m.Rows, vi m.Cols, .slice B m.Cells.length c], 3⟩, ⟨aD b1, 38, [vi 0, vi 0, .slice none 0 0], 3⟩] [⟨B, (m.Cells.flatMap eN0)⟩] := hS2
 refine rw_nil ?_
 refine cw_seq ?_
 refine cw_region ?_
 refine sq 6 rfl rfl (Y_fieldAddr (B := aD b) (i := 0) (s := 0) k_fd_38_1_1_3 k_sz_3_1 rfl rfl) ?_
 refine sq 7 rfl rfl (Y_load1 (B := aD b) (i := 1) (cs := [vi m.Rows, vi m.Cols, .slice B m.Cells.length c]) (v := vi m.Cols) k_sc_3 rfl rfl (hS2.cf (i := 0) rfl) rfl) ?_
 refine sq 8 rfl rfl (Y_fieldAddr (B := aD b) (i := 0) (s := 0) k_fd_38_0_0_3 k_sz_3_1 rfl rfl) ?_
 refine sq 9 rfl rfl (Y_load1 (B := aD b) (i := 0) (cs := [vi m.Rows, vi m.Cols, .slice B m.Cells.length c]) (v := vi m.Rows) k_sc_3 rfl rfl (hS2.cf (i := 0) rfl) rfl) ?_
 refine sq 10 rfl rfl (Y_buildS (zs := [vi 0, vi 0, .slice none 0 0]) (vs := [(0, vi m.Cols), (1, vi m.Rows)]) (cs := [vi m.Cols, vi m.Rows, .slice none 0 0]) k_pl_38 k_zero_38 rfl (mpc rfl (mpc rfl mpn)) rfl) ?_
 refine ss 3 rfl rfl (Ys_alloc (T := 38) (cs := [vi 0, vi 0, .slice none 0 0]) (m := 3) hS2 k_zero_38 rfl rfl rfl) ?_
 rintro _ w_2 ⟨b2, rfl, hS3⟩
 have hS3 : ST w0 [] _ [⟨aD b, 38, [vi m.Rows, vi m.Cols, .slice B m.Cells.length c], 3⟩, ⟨aD b1, 38, [vi 0, vi 0, .slice none 0 0], 3⟩, ⟨aD b2, 38, [vi 0, vi 0, .slice none 0 0], 3⟩] [⟨B, (m.Cells.flatMap eN0)⟩] := hS3
 refine ss0 rfl rfl (Ys_store (i := 2) (s := 3) (B := aD b2) (T' := 38) (v := .agg #[vi m.Cols, vi m.Rows, .slice none 0 0]) (vs := [vi m.Cols, vi m.Rows, .slice none 0 0]) (k := 0) (cs' := [vi m.Cols, vi m.Rows, .slice none 0 0]) hS3 k_sz_38_3 rfl rfl rfl rfl rfl rfl rfl (Nat.le_of_ble_eq_true rfl) rfl rfl) ?_
 rintro _ w_3 ⟨rfl, hS4⟩
 have hS4 : ST w0 [] _ [⟨aD b, 38, [vi m.Rows, vi m.Cols, .slice B m.Cells.length c], 3⟩, ⟨aD b1, 38, [vi 0, vi 0, .slice none 0 0], 3⟩, ⟨aD b2, 38, [vi m.Cols, vi m.Rows, .slice none 0 0], 3⟩] [⟨B, (m.Cells.flatMap eN0)⟩] := hS4
 refine rw_nil ?_
 refine cw_seq ?_
 refine cw_seq ?_
 refine cw_region ?_
 refine sq 4 rfl rfl (Y_assign (v := vi 0) rfl rfl) ?_
 refine rw_nil ?_
 obtain ⟨hN, hF⟩ := chk_inv hF
 obtain ⟨z, hz, hF1⟩ := bind_inv hF
 have hS6 := hS4.addNil 44
 refine cw_block ?_
 refine cw_loop (fun k f w => ∃ (j : Nat) (Cells : List TDyadic) (B2 : Option Addr) (c2 : Nat), FF f [(1, pt (aD b) 0), (2, pt (aD b1) 0), (3, pt (aD b2) 0), (4, vi (j : Int))] ∧ ST w0 [] w [⟨aD b, 38, [vi m.Rows, vi m.Cols, .slice B m.Cells.length c], 3⟩, ⟨aD b1, 38, [vi 0, vi 0, .slice none 0 0], 3⟩, ⟨aD b2, 38, [vi m.Cols, vi m.Rows, .slice B2 Cells.length c2], 3⟩, ⟨B2, 44, (Cells.flatMap eN0), c2 * 5⟩] [⟨B, (m.Cells.flatMap eN0)⟩] ∧ j + k = m.Cols.toNat ∧ forN (F_spec_l3Adj_l1 m) k j Cells = some z) m.Cols.toNat ⟨0, [], none, 0, (FF.cons rfl (FF.cons rfl (FF.cons rfl (FF.cons rfl FF.nil)))), (hS6.sel [0, 1, 2, 3] rfl rfl), Nat.zero_add _, hz⟩ ?_
 rintro k_ f w ⟨j, Cells, B2, c2, hf, hS5, hik, hL⟩
 refine cw_seq ?_
 refine cw_seq ?_
 refine cw_region ?_
 refine sq 11 rfl rfl (Y_move (v := vi (j : Int)) rfl (hf.get 4 3 rfl)) ?_
 refine sq 12 rfl rfl (Y_fieldAddr (B := aD b) (i := 0) (s := 0) k_fd_38_1_1_3 k_sz_3_1 rfl (hf.get 1 0 rfl)) ?_
 refine sq 13 rfl rfl (Y_load1 (B := aD b) (i := 1) (cs := [vi m.Rows, vi m.Cols, .slice B m.Cells.length c]) (v := vi m.Cols) k_sc_3 rfl rfl (hS5.cf (i := 0) rfl) rfl) ?_
 refine sq 14 rfl rfl (Y_lt (k := .i64) (a := (j : Int)) (b := m.Cols) rfl rfl rfl) ?_
 refine rw_nil ?_
 refine cw_cond (b := (decide ((j : Int) < m.Cols))) rfl (fun hlt => ?_) (fun hlt => ?_)
 ·skip
  have hlt1 : j < m.Cols.toNat := by have h := of_decide_eq_true hlt; omega
  obtain ⟨k_1, rfl⟩ : ∃ k2, k_ = k2 + 1 := ⟨k_ - 1, by omega⟩
  obtain ⟨y, hb, hL1⟩ := forN_go hL
  unfold F_spec_l3Adj_l1 at hb
  refine cw_skip ?_
  refine cw_seq ?_
  refine cw_block ?_
  refine cw_seq ?_
  refine cw_region ?_
  refine sq 5 rfl rfl (Y_assign (v := vi 0) rfl rfl) ?_
  refine rw_nil ?_
  obtain ⟨hN1, hb⟩ := chk_inv hb
  obtain ⟨z1, hz1, hF2⟩ := bind_inv hb
  refine cw_block ?_
  refine cw_loop (fun k f w => ∃ (i2 : Nat) (Cells1 : List TDyadic) (B3 : Option Addr) (c3 : Nat), FF f [(1, pt (aD b) 0), (2, pt (aD b1) 0), (3, pt (aD b2) 0), (4, vi (j : Int)), (5, vi (i2 : Int))] ∧ ST w0 [] w [⟨aD b, 38, [vi m.Rows, vi m.Cols, .slice B m.Cells.length c], 3⟩, ⟨aD b1, 38, [vi 0, vi 0, .slice none 0 0], 3⟩, ⟨aD b2, 38, [vi m.Cols, vi m.Rows, .slice B3 Cells1.length c3], 3⟩, ⟨B3, 44, (Cells1.flatMap eN0), c3 * 5⟩] [⟨B, (m.Cells.flatMap eN0)⟩] ∧ i2 + k = m.Rows.toNat ∧ forN (F_spec_l3Adj_l2 m Cells j) k i2 Cells1 = some z1) m.Rows.toNat ⟨0, Cells, B2, c2, (FF.cons (hf.get 1 0 rfl) (FF.cons (hf.get 2 1 rfl) (FF.cons (hf.get 3 2 rfl) (FF.cons (hf.get 4 3 rfl) (FF.cons rfl FF.nil))))), (hS5.sel [0, 1, 2, 3] rfl rfl), Nat.zero_add _, hz1⟩ ?_
  rintro k_2 f w ⟨i2, Cells1, B3, c3, hf1, hS7, hik1, hL2⟩
  refine cw_seq ?_
  refine cw_seq ?_
  refine cw_region ?_
  refine sq 17 rfl rfl (Y_move (v := vi (i2 : Int)) rfl (hf1.get 5 4 rfl)) ?_
  refine sq 18 rfl rfl (Y_fieldAddr (B := aD b) (i := 0) (s := 0) k_fd_38_0_0_3 k_sz_3_1 rfl (hf1.get 1 0 rfl)) ?_
  refine sq 19 rfl rfl (Y_load1 (B := aD b) (i := 0) (cs := [vi m.Rows, vi m.Cols, .slice B m.Cells.length c]) (v := vi m.Rows) k_sc_3 rfl rfl (hS7.cf (i := 0) rfl) rfl) ?_
  refine sq 20 rfl rfl (Y_lt (k := .i64) (a := (i2 : Int)) (b := m.Rows) rfl rfl rfl) ?_
  refine rw_nil ?_
  refine cw_cond (b := (decide ((i2 : Int) < m.Rows))) rfl (fun hlt2 => ?_) (fun hlt2 => ?_)
  ·skip
   have hlt3 : i2 < m.Rows.toNat := by have h := of_decide_eq_true hlt2; omega
   obtain ⟨k_3, rfl⟩ : ∃ k2, k_2 = k2 + 1 := ⟨k_2 - 1, by omega⟩
   obtain ⟨y1, hb1, hL3⟩ := forN_go hL2
   unfold F_spec_l3Adj_l2 at hb1
   refine cw_skip ?_
   refine cw_seq ?_
   refine cw_block ?_
   obtain ⟨x, hx, hb1⟩ := bind_inv hb1
   obtain ⟨r_1, hc, hb1⟩ := bind_inv hb1
   obtain ⟨hap, hb1⟩ := chk_inv hb1
   refine cw_mid (fun f w => ∃ (B5 : Option Addr) (c5 : Nat), FF f [(1, pt (aD b) 0), (2, pt (aD b1) 0), (3, pt (aD b2) 0), (4, vi (j : Int)), (5, vi (i2 : Int))] ∧ ST w0 [] w [⟨aD b, 38, [vi m.Rows, vi m.Cols, .slice B m.Cells.length c], 3⟩, ⟨aD b1, 38, [vi 0, vi 0, .slice none 0 0], 3⟩, ⟨aD b2, 38, [vi m.Cols, vi m.Rows, .slice B5 ((Cells1 ++ [r_1]).length) c5], 3⟩, ⟨B5, 44, ((Cells1 ++ [r_1]).flatMap eN0), c5 * 5⟩] [⟨B, (m.Cells.flatMap eN0)⟩]) ?_ ?_
   ·skip
    refine ra_start (ST.sel hS7 [0, 1] rfl rfl).fn (by kernel_rfl) ?_
    have hS10 := hS7.drew
    refine ra_q 0 23 (v := pt (aD b2) 2) rfl rfl rfl (by kernel_rfl) (by kernel_rfl) (by kernel_rfl) (ST.sel hS10 [0, 1] rfl rfl) (fun w' hw' => (Y_fieldAddr (B := aD b2) (i := 0) (s := 0) k_fd_38_2_2_32 k_sz_32_1 rfl (hf1.get 3 2 rfl))) ?_
    refine ra_q 2 25 (v := pt (aD b) 2) rfl rfl rfl (by kernel_rfl) (by kernel_rfl) (by kernel_rfl) (ST.sel hS10 [0, 1] rfl rfl) (fun w' hw' => (Y_fieldAddr (B := aD b) (i := 0) (s := 0) k_fd_38_2_2_32 k_sz_32_1 rfl (hf1.get 1 0 rfl))) ?_
    refine ra_q 3 26 (v := .slice B m.Cells.length c) rfl rfl rfl (by kernel_rfl) (by kernel_rfl) (by kernel_rfl) (ST.sel hS10 [0, 1] rfl rfl) (fun w' hw' => (Y_load1 (B := aD b) (i := 2) (cs := [vi m.Rows, vi m.Cols, .slice B m.Cells.length c]) (v := .slice B m.Cells.length c) k_sc_32 rfl rfl (ST.cf hw' (i := 0) rfl) rfl)) ?_
    refine ra_q 4 27 (v := vi (i2 : Int)) rfl rfl rfl (by kernel_rfl) (by kernel_rfl) (by kernel_rfl) (ST.sel hS10 [0, 1] rfl rfl) (fun w' hw' => (Y_move (v := vi (i2 : Int)) rfl (hf1.get 5 4 rfl))) ?_
    refine ra_q 5 28 (v := pt (aD b) 1) rfl rfl rfl (by kernel_rfl) (by kernel_rfl) (by kernel_rfl) (ST.sel hS10 [0, 1] rfl rfl) (fun w' hw' => (Y_fieldAddr (B := aD b) (i := 0) (s := 0) k_fd_38_1_1_3 k_sz_3_1 rfl (hf1.get 1 0 rfl))) ?_
    refine ra_q 6 29 (v := vi m.Cols) rfl rfl rfl (by kernel_rfl) (by kernel_rfl) (by kernel_rfl) (ST.sel hS10 [0, 1] rfl rfl) (fun w' hw' => (Y_load1 (B := aD b) (i := 1) (cs := [vi m.Rows, vi m.Cols, .slice B m.Cells.length c]) (v := vi m.Cols) k_sc_3 rfl rfl (ST.cf hw' (i := 0) rfl) rfl)) ?_
    refine ra_q 7 30 (v := vi (i64.wrap ((i2 : Int) * m.Cols))) rfl rfl rfl (by kernel_rfl) (by kernel_rfl) (by kernel_rfl) (ST.sel hS10 [0, 1] rfl rfl) (fun w' hw' => (Y_mul (k := .i64) (a := (i2 : Int)) (b := m.Cols) rfl rfl rfl)) ?_
    refine ra_q 8 31 (v := vi (j : Int)) rfl rfl rfl (by kernel_rfl) (by kernel_rfl) (by kernel_rfl) (ST.sel hS10 [0, 1] rfl rfl) (fun w' hw' => (Y_move (v := vi (j : Int)) rfl (hf1.get 4 3 rfl))) ?_
    refine ra_q 9 32 (v := vi (i64.wrap ((i64.wrap ((i2 : Int) * m.Cols)) + (j : Int)))) rfl rfl rfl (by kernel_rfl) (by kernel_rfl) (by kernel_rfl) (ST.sel hS10 [0, 1] rfl rfl) (fun w' hw' => (Y_add (k := .i64) (a := (i64.wrap ((i2 : Int) * m.Cols))) (b := (j : Int)) rfl rfl rfl)) ?_
    refine ra_q 10 33 (v := pt B ((i64.wrap ((i64.wrap ((i2 : Int) * m.Cols)) + (j : Int))).toNat * 5)) rfl rfl rfl (by kernel_rfl) (by kernel_rfl) (by kernel_rfl) (ST.sel hS10 [0, 1] rfl rfl) (fun w' hw' => (Y_index (B := B) (m := m.Cells.length) (c := c) (k := .i64) (i := (i64.wrap ((i64.wrap ((i2 : Int) * m.Cols)) + (j : Int)))) k_sl_32_44 k_sz_44_5 rfl rfl rfl (gi_isSome eN3 rfl (ST.rf hw' (i := 0) rfl) hx) (getI_nn hx) (getI_ltI hx rfl))) ?_
    refine ra_q 11 34 (v := .agg #[vi x.Num.A, vi x.Num.B, vi x.Num.C, vi x.Num.D, vi x.Exp]) rfl rfl rfl (by kernel_rfl) (by kernel_rfl) (by kernel_rfl) (ST.sel hS10 [0, 1] rfl rfl) (fun w' hw' => (Y_loadA (B := B) (i := (i64.wrap ((i64.wrap ((i2 : Int) * m.Cols)) + (j : Int))).toNat * 5) (cs := (m.Cells.flatMap eN0)) (vs := [vi x.Num.A, vi x.Num.B, vi x.Num.C, vi x.Num.D, vi x.Exp]) k_ag_44 k_sz_44_5 rfl rfl (ST.rf hw' (i := 0) rfl) (eN3 x) (gi_seg eN3 hx))) ?_
    refine ra_all (rs := [1, 12]) (by kernel_rfl) rfl ?_
    refine ra_y 24 (i := 1) (v := .slice B3 Cells1.length c3) rfl rfl rfl (Y_load1 (B := aD b2) (i := 2) (cs := [vi m.Cols, vi m.Rows, .slice B3 Cells1.length c3]) (v := .slice B3 Cells1.length c3) k_sc_32 rfl rfl (hS10.cf (i := 2) rfl) rfl) (ST.sel hS10 [0, 1] rfl rfl) ?_ ?_
    ·skip
     refine ra_all (rs := [12]) (by kernel_rfl) rfl ?_
     refine ra_c 35 (i := 12) rfl rfl rfl (Yc_func (g := 32) (vs := [.agg #[vi x.Num.A, vi x.Num.B, vi x.Num.C, vi x.Num.D, vi x.Exp]]) k_call_32 rfl (mc rfl mn) (c_spec_l2Conj x _  (hS10.inn0 [] rfl) hc)) ?_ ?_
     ·rintro _ w_4 ⟨rfl, hd⟩
      have hS11 := hS10.out00 hd
      have hS11 : ST w0 [] _ [⟨aD b, 38, [vi m.Rows, vi m.Cols, .slice B m.Cells.length c], 3⟩, ⟨aD b1, 38, [vi 0, vi 0, .slice none 0 0], 3⟩, ⟨aD b2, 38, [vi m.Cols, vi m.Rows, .slice B3 Cells1.length c3], 3⟩, ⟨B3, 44, (Cells1.flatMap eN0), c3 * 5⟩] [⟨B, (m.Cells.flatMap eN0)⟩] := hS11
      refine ⟨(ST.sel hS11 [0, 1] rfl rfl), ?_⟩
      refine ra_all (rs := [13]) (by kernel_rfl) rfl ?_
      refine ra_s 36 (i := 13) rfl rfl rfl (Ys_bslice (s := 5) (len := 1) (vs := [(0, .agg #[vi r_1.Num.A, vi r_1.Num.B, vi r_1.Num.C, vi r_1.Num.D, vi r_1.Exp])]) (cs := [vi r_1.Num.A, vi r_1.Num.B, vi r_1.Num.C, vi r_1.Num.D, vi r_1.Exp]) (zs := [vi 0, vi 0, vi 0, vi 0, vi 0]) (m := 5) hS11 k_sl_32_44 k_sz_44_5 k_zc_44 rfl (mpc rfl mpn) rfl rfl rfl (by kernel_rfl) (by kernel_rfl) rfl) ?_ ?_
      ·rintro _ w_5 ⟨b3, rfl, hS12⟩
       have hS12 : ST w0 [] _ [⟨aD b, 38, [vi m.Rows, vi m.Cols, .slice B m.Cells.length c], 3⟩, ⟨aD b1, 38, [vi 0, vi 0, .slice none 0 0], 3⟩, ⟨aD b2, 38, [vi m.Cols, vi m.Rows, .slice B3 Cells1.length c3], 3⟩, ⟨B3, 44, (Cells1.flatMap eN0), c3 * 5⟩, ⟨aD b3, 44, ([r_1].flatMap eN0), 1 * 5⟩] [⟨B, (m.Cells.flatMap eN0)⟩] := hS12
       refine ⟨(ST.sel hS12 [0, 1] rfl rfl), ?_⟩
       refine ra_all (rs := [14]) (by kernel_rfl) rfl ?_
       refine ra_s 37 (i := 14) rfl rfl rfl (Ys_append (s := 5) (by' := 40) (i := 3) (nn := Cells1.length) (c := c3) (k := 1) (len := (Cells1 ++ [r_1]).length) (B := B3) (xs := ([r_1].flatMap eN0)) (cs' := ((Cells1 ++ [r_1]).flatMap eN0)) hS12 k_sl_32_44 k_sz_44_5 k_by_44_40 k_zero_44 rfl (by decide) rfl rfl rfl rfl (fm_lenn (l := Cells1) eN3 rfl) rfl (hS12.cf (i := 4) rfl) (fm_lenn (l := [r_1]) eN3 rfl) (fm_one' (enc := eN0) enc_Dyadic_one [r_1]) (by have := hap; omega) (by have := hap; simp only [maxLen]; omega) (fm_app _ _) (app_len (l := Cells1) (l' := [r_1]) rfl rfl)) ?_ ?_
       ·rintro _ w_6 ⟨B4, c4, rfl, hS13⟩
        have hS13 : ST w0 [] _ [⟨aD b, 38, [vi m.Rows, vi m.Cols, .slice B m.Cells.length c], 3⟩, ⟨aD b1, 38, [vi 0, vi 0, .slice none 0 0], 3⟩, ⟨aD b2, 38, [vi m.Cols, vi m.Rows, .slice B3 Cells1.length c3], 3⟩, ⟨B4, 44, ((Cells1 ++ [r_1]).flatMap eN0), c4 * 5⟩, ⟨aD b3, 44, ([r_1].flatMap eN0), 1 * 5⟩] [⟨B, (m.Cells.flatMap eN0)⟩] := hS13
        refine ⟨(ST.sel hS13 [0, 1] rfl rfl), ?_⟩
        refine ra_q 15 38 (v := pt (aD b2) 2) rfl rfl rfl (by kernel_rfl) (by kernel_rfl) (by kernel_rfl) (ST.sel hS13 [0, 1] rfl rfl) (fun w' hw' => (Y_fieldAddr (B := aD b2) (i := 0) (s := 0) k_fd_38_2_2_32 k_sz_32_1 rfl (hf1.get 3 2 rfl))) ?_
        refine ra_all (rs := [16]) (by kernel_rfl) rfl ?_
        refine ra_s0 (i := 16) rfl rfl rfl (Ys_store (i := 2) (s := 1) (B := aD b2) (T' := 38) (v := .slice B4 ((Cells1 ++ [r_1]).length) c4) (vs := [.slice B4 ((Cells1 ++ [r_1]).length) c4]) (k := 2) (cs' := [vi m.Cols, vi m.Rows, .slice B4 ((Cells1 ++ [r_1]).length) c4]) hS13 k_sz_32_1 rfl rfl rfl rfl rfl rfl rfl (Nat.le_of_ble_eq_true rfl) rfl rfl) ?_ ?_
        ·rintro _ w_7 ⟨rfl, hS14⟩
         have hS14 : ST w0 [] _ [⟨aD b, 38, [vi m.Rows, vi m.Cols, .slice B m.Cells.length c], 3⟩, ⟨aD b1, 38, [vi 0, vi 0, .slice none 0 0], 3⟩, ⟨aD b2, 38, [vi m.Cols, vi m.Rows, .slice B4 ((Cells1 ++ [r_1]).length) c4], 3⟩, ⟨B4, 44, ((Cells1 ++ [r_1]).flatMap eN0), c4 * 5⟩, ⟨aD b3, 44, ([r_1].flatMap eN0), 1 * 5⟩] [⟨B, (m.Cells.flatMap eN0)⟩] := hS14
         refine ⟨(ST.sel hS14 [0, 1] rfl rfl), ?_⟩
         refine ra_done (by kernel_rfl) ?_
         exact ⟨B4, c4, (FF.cons (hf1.get 1 0 rfl) (FF.cons (hf1.get 2 1 rfl) (FF.cons (hf1.get 3 2 rfl) (FF.cons (hf1.get 4 3 rfl) (FF.cons (hf1.get 5 4 rfl) FF.nil))))), (hS14.sel [0, 1, 2, 3] rfl rfl)⟩
        exact allR_nil
       exact allR_nil
      exact allR_nil
     exact allR_nil
    refine ra_c 35 (i := 12) rfl rfl rfl (Yc_func (g := 32) (vs := [.agg #[vi x.Num.A, vi x.Num.B, vi x.Num.C, vi x.Num.D, vi x.Exp]]) k_call_32 rfl (mc rfl mn) (c_spec_l2Conj x _  (hS10.inn0 [] rfl) hc)) ?_ ?_
    ·rintro _ w_8 ⟨rfl, hd1⟩
     have hS15 := hS10.out00 hd1
     have hS15 : ST w0 [] _ [⟨aD b, 38, [vi m.Rows, vi m.Cols, .slice B m.Cells.length c], 3⟩, ⟨aD b1, 38, [vi 0, vi 0, .slice none 0 0], 3⟩, ⟨aD b2, 38, [vi m.Cols, vi m.Rows, .slice B3 Cells1.length c3], 3⟩, ⟨B3, 44, (Cells1.flatMap eN0), c3 * 5⟩] [⟨B, (m.Cells.flatMap eN0)⟩] := hS15
     refine ⟨(ST.sel hS15 [0, 1] rfl rfl), ?_⟩
     refine ra_all (rs := [1, 13]) (by kernel_rfl) rfl ?_
     refine ra_y 24 (i := 1) (v := .slice B3 Cells1.length c3) rfl rfl rfl (Y_load1 (B := aD b2) (i := 2) (cs := [vi m.Cols, vi m.Rows, .slice B3 Cells1.length c3]) (v := .slice B3 Cells1.length c3) k_sc_32 rfl rfl (hS15.cf (i := 2) rfl) rfl) (ST.sel hS15 [0, 1] rfl rfl) ?_ ?_
     ·skip
      refine ra_all (rs := [13]) (by kernel_rfl) rfl ?_
      refine ra_s 36 (i := 13) rfl rfl rfl (Ys_bslice (s := 5) (len := 1) (vs := [(0, .agg #[vi r_1.Num.A, vi r_1.Num.B, vi r_1.Num.C, vi r_1.Num.D, vi r_1.Exp])]) (cs := [vi r_1.Num.A, vi r_1.Num.B, vi r_1.Num.C, vi r_1.Num.D, vi r_1.Exp]) (zs := [vi 0, vi 0, vi 0, vi 0, vi 0]) (m := 5) hS15 k_sl_32_44 k_sz_44_5 k_zc_44 rfl (mpc rfl mpn) rfl rfl rfl (by kernel_rfl) (by kernel_rfl) rfl) ?_ ?_
      ·rintro _ w_9 ⟨b3, rfl, hS16⟩
       have hS16 : ST w0 [] _ [⟨aD b, 38, [vi m.Rows, vi m.Cols, .slice B m.Cells.length c], 3⟩, ⟨aD b1, 38, [vi 0, vi 0, .slice none 0 0], 3⟩, ⟨aD b2, 38, [vi m.Cols, vi m.Rows, .slice B3 Cells1.length c3], 3⟩, ⟨B3, 44, (Cells1.flatMap eN0), c3 * 5⟩, ⟨aD b3, 44, ([r_1].flatMap eN0), 1 * 5⟩] [⟨B, (m.Cells.flatMap eN0)⟩] := hS16
       refine ⟨(ST.sel hS16 [0, 1] rfl rfl), ?_⟩
       refine ra_all (rs := [14]) (by kernel_rfl) rfl ?_
       refine ra_s 37 (i := 14) rfl rfl rfl (Ys_append (s := 5) (by' := 40) (i := 3) (nn := Cells1.length) (c := c3) (k := 1) (len := (Cells1 ++ [r_1]).length) (B := B3) (xs := ([r_1].flatMap eN0)) (cs' := ((Cells1 ++ [r_1]).flatMap eN0)) hS16 k_sl_32_44 k_sz_44_5 k_by_44_40 k_zero_44 rfl (by decide) rfl rfl rfl rfl (fm_lenn (l := Cells1) eN3 rfl) rfl (hS16.cf (i := 4) rfl) (fm_lenn (l := [r_1]) eN3 rfl) (fm_one' (enc := eN0) enc_Dyadic_one [r_1]) (by have := hap; omega) (by have := hap; simp only [maxLen]; omega) (fm_app _ _) (app_len (l := Cells1) (l' := [r_1]) rfl rfl)) ?_ ?_
       ·rintro _ w_10 ⟨B4, c4, rfl, hS17⟩
        have hS17 : ST w0 [] _ [⟨aD b, 38, [vi m.Rows, vi m.Cols, .slice B m.Cells.length c], 3⟩, ⟨aD b1, 38, [vi 0, vi 0, .slice none 0 0], 3⟩, ⟨aD b2, 38, [vi m.Cols, vi m.Rows, .slice B3 Cells1.length c3], 3⟩, ⟨B4, 44, ((Cells1 ++ [r_1]).flatMap eN0), c4 * 5⟩, ⟨aD b3, 44, ([r_1].flatMap eN0), 1 * 5⟩] [⟨B, (m.Cells.flatMap eN0)⟩] := hS17
        refine ⟨(ST.sel hS17 [0, 1] rfl rfl), ?_⟩
        refine ra_q 15 38 (v := pt (aD b2) 2) rfl rfl rfl (by kernel_rfl) (by kernel_rfl) (by kernel_rfl) (ST.sel hS17 [0, 1] rfl rfl) (fun w' hw' => (Y_fieldAddr (B := aD b2) (i := 0) (s := 0) k_fd_38_2_2_32 k_sz_32_1 rfl (hf1.get 3 2 rfl))) ?_
        refine ra_all (rs := [16]) (by kernel_rfl) rfl ?_
        refine ra_s0 (i := 16) rfl rfl rfl (Ys_store (i := 2) (s := 1) (B := aD b2) (T' := 38) (v := .slice B4 ((Cells1 ++ [r_1]).length) c4) (vs := [.slice B4 ((Cells1 ++ [r_1]).length) c4]) (k := 2) (cs' := [vi m.Cols, vi m.Rows, .slice B4 ((Cells1 ++ [r_1]).length) c4]) hS17 k_sz_32_1 rfl rfl rfl rfl rfl rfl rfl (Nat.le_of_ble_eq_true rfl) rfl rfl) ?_ ?_
        ·rintro _ w_11 ⟨rfl, hS18⟩
         have hS18 : ST w0 [] _ [⟨aD b, 38, [vi m.Rows, vi m.Cols, .slice B m.Cells.length c], 3⟩, ⟨aD b1, 38, [vi 0, vi 0, .slice none 0 0], 3⟩, ⟨aD b2, 38, [vi m.Cols, vi m.Rows, .slice B4 ((Cells1 ++ [r_1]).length) c4], 3⟩, ⟨B4, 44, ((Cells1 ++ [r_1]).flatMap eN0), c4 * 5⟩, ⟨aD b3, 44, ([r_1].flatMap eN0), 1 * 5⟩] [⟨B, (m.Cells.flatMap eN0)⟩] := hS18
         refine ⟨(ST.sel hS18 [0, 1] rfl rfl), ?_⟩
         refine ra_done (by kernel_rfl) ?_
         exact ⟨B4, c4, (FF.cons (hf1.get 1 0 rfl) (FF.cons (hf1.get 2 1 rfl) (FF.cons (hf1.get 3 2 rfl) (FF.cons (hf1.get 4 3 rfl) (FF.cons (hf1.get 5 4 rfl) FF.nil))))), (hS18.sel [0, 1, 2, 3] rfl rfl)⟩
        exact allR_nil
       exact allR_nil
      exact allR_nil
     refine ra_s 36 (i := 13) rfl rfl rfl (Ys_bslice (s := 5) (len := 1) (vs := [(0, .agg #[vi r_1.Num.A, vi r_1.Num.B, vi r_1.Num.C, vi r_1.Num.D, vi r_1.Exp])]) (cs := [vi r_1.Num.A, vi r_1.Num.B, vi r_1.Num.C, vi r_1.Num.D, vi r_1.Exp]) (zs := [vi 0, vi 0, vi 0, vi 0, vi 0]) (m := 5) hS15 k_sl_32_44 k_sz_44_5 k_zc_44 rfl (mpc rfl mpn) rfl rfl rfl (by kernel_rfl) (by kernel_rfl) rfl) ?_ ?_
     ·rintro _ w_12 ⟨b3, rfl, hS19⟩
      have hS19 : ST w0 [] _ [⟨aD b, 38, [vi m.Rows, vi m.Cols, .slice B m.Cells.length c], 3⟩, ⟨aD b1, 38, [vi 0, vi 0, .slice none 0 0], 3⟩, ⟨aD b2, 38, [vi m.Cols, vi m.Rows, .slice B3 Cells1.length c3], 3⟩, ⟨B3, 44, (Cells1.flatMap eN0), c3 * 5⟩, ⟨aD b3, 44, ([r_1].flatMap eN0), 1 * 5⟩] [⟨B, (m.Cells.flatMap eN0)⟩] := hS19
      refine ⟨(ST.sel hS19 [0, 1] rfl rfl), ?_⟩
      refine ra_all (rs := [1]) (by kernel_rfl) rfl ?_
      refine ra_y 24 (i := 1) (v := .slice B3 Cells1.length c3) rfl rfl rfl (Y_load1 (B := aD b2) (i := 2) (cs := [vi m.Cols, vi m.Rows, .slice B3 Cells1.length c3]) (v := .slice B3 Cells1.length c3) k_sc_32 rfl rfl (hS19.cf (i := 2) rfl) rfl) (ST.sel hS19 [0, 1] rfl rfl) ?_ ?_
      ·skip
       refine ra_all (rs := [14]) (by kernel_rfl) rfl ?_
       refine ra_s 37 (i := 14) rfl rfl rfl (Ys_append (s := 5) (by' := 40) (i := 3) (nn := Cells1.length) (c := c3) (k := 1) (len := (Cells1 ++ [r_1]).length) (B := B3) (xs := ([r_1].flatMap eN0)) (cs' := ((Cells1 ++ [r_1]).flatMap eN0)) hS19 k_sl_32_44 k_sz_44_5 k_by_44_40 k_zero_44 rfl (by decide) rfl rfl rfl rfl (fm_lenn (l := Cells1) eN3 rfl) rfl (hS19.cf (i := 4) rfl) (fm_lenn (l := [r_1]) eN3 rfl) (fm_one' (enc := eN0) enc_Dyadic_one [r_1]) (by have := hap; omega) (by have := hap; simp only [maxLen]; omega) (fm_app _ _) (app_len (l := Cells1) (l' := [r_1]) rfl rfl)) ?_ ?_
       ·rintro _ w_13 ⟨B4, c4, rfl, hS20⟩
        have hS20 : ST w0 [] _ [⟨aD b, 38, [vi m.Rows, vi m.Cols, .slice B m.Cells.length c], 3⟩, ⟨aD b1, 38, [vi 0, vi 0, .slice none 0 0], 3⟩, ⟨aD b2, 38, [vi m.Cols, vi m.Rows, .slice B3 Cells1.length c3], 3⟩, ⟨B4, 44, ((Cells1 ++ [r_1]).flatMap eN0), c4 * 5⟩, ⟨aD b3, 44, ([r_1].flatMap eN0), 1 * 5⟩] [⟨B, (m.Cells.flatMap eN0)⟩] := hS20
        refine ⟨(ST.sel hS20 [0, 1] rfl rfl), ?_⟩
        refine ra_q 15 38 (v := pt (aD b2) 2) rfl rfl rfl (by kernel_rfl) (by kernel_rfl) (by kernel_rfl) (ST.sel hS20 [0, 1] rfl rfl) (fun w' hw' => (Y_fieldAddr (B := aD b2) (i := 0) (s := 0) k_fd_38_2_2_32 k_sz_32_1 rfl (hf1.get 3 2 rfl))) ?_
        refine ra_all (rs := [16]) (by kernel_rfl) rfl ?_
        refine ra_s0 (i := 16) rfl rfl rfl (Ys_store (i := 2) (s := 1) (B := aD b2) (T' := 38) (v := .slice B4 ((Cells1 ++ [r_1]).length) c4) (vs := [.slice B4 ((Cells1 ++ [r_1]).length) c4]) (k := 2) (cs' := [vi m.Cols, vi m.Rows, .slice B4 ((Cells1 ++ [r_1]).length) c4]) hS20 k_sz_32_1 rfl rfl rfl rfl rfl rfl rfl (Nat.le_of_ble_eq_true rfl) rfl rfl) ?_ ?_
        ·rintro _ w_14 ⟨rfl, hS21⟩
         have hS21 : ST w0 [] _ [⟨aD b, 38, [vi m.Rows, vi m.Cols, .slice B m.Cells.length c], 3⟩, ⟨aD b1, 38, [vi 0, vi 0, .slice none 0 0], 3⟩, ⟨aD b2, 38, [vi m.Cols, vi m.Rows, .slice B4 ((Cells1 ++ [r_1]).length) c4], 3⟩, ⟨B4, 44, ((Cells1 ++ [r_1]).flatMap eN0), c4 * 5⟩, ⟨aD b3, 44, ([r_1].flatMap eN0), 1 * 5⟩] [⟨B, (m.Cells.flatMap eN0)⟩] := hS21
         refine ⟨(ST.sel hS21 [0, 1] rfl rfl), ?_⟩
         refine ra_done (by kernel_rfl) ?_
         exact ⟨B4, c4, (FF.cons (hf1.get 1 0 rfl) (FF.cons (hf1.get 2 1 rfl) (FF.cons (hf1.get 3 2 rfl) (FF.cons (hf1.get 4 3 rfl) (FF.cons (hf1.get 5 4 rfl) FF.nil))))), (hS21.sel [0, 1, 2, 3] rfl rfl)⟩
        exact allR_nil
       exact allR_nil
      exact allR_nil
     exact allR_nil
    exact allR_nil
   rintro f w ⟨B5, c5, hf2, hS9⟩
   refine cw_region ?_
   refine sq 21 rfl rfl (Y_move (v := vi (i2 : Int)) rfl (hf2.get 5 4 rfl)) ?_
   refine sq 22 rfl rfl (Y_add (k := .i64) (a := (i2 : Int)) (b := 1) rfl rfl rfl) ?_
   refine sq 5 rfl rfl (Y_assign (v := vi (i64.wrap ((i2 : Int) + 1))) rfl rfl) ?_
   refine rw_nil ?_
   obtain rfl := some_inj hb1
   exact ⟨k_3, Nat.lt_succ_self _, i2 + 1, (Cells1 ++ [r_1]), B5, c5, (FF.cons (hf2.get 1 0 rfl) (FF.cons (hf2.get 2 1 rfl) (FF.cons (hf2.get 3 2 rfl) (FF.cons (hf2.get 4 3 rfl) (FF.cons (congrArg (Value.int .i64) (wr_succ hlt3 hN1)) FF.nil))))), (hS9.sel [0, 1, 2, 3] rfl rfl), (by omega), hL3⟩
  ·skip
   obtain rfl : k_2 = 0 := by have h := of_decide_eq_false hlt2; omega
   refine cw_exit rfl ?_
   obtain rfl := some_inj hL2
   refine cw_region ?_
   refine sq 15 rfl rfl (Y_move (v := vi (j : Int)) rfl (hf1.get 4 3 rfl)) ?_
   refine sq 16 rfl rfl (Y_add (k := .i64) (a := (j : Int)) (b := 1) rfl rfl rfl) ?_
   refine sq 4 rfl rfl (Y_assign (v := vi (i64.wrap ((j : Int) + 1))) rfl rfl) ?_
   refine rw_nil ?_
   obtain rfl := some_inj hF2
   exact ⟨k_1, Nat.lt_succ_self _, j + 1, Cells1, B3, c3, (FF.cons (hf1.get 1 0 rfl) (FF.cons (hf1.get 2 1 rfl) (FF.cons (hf1.get 3 2 rfl) (FF.cons (congrArg (Value.int .i64) (wr_succ hlt1 hN)) FF.nil)))), (hS7.sel [0, 1, 2, 3] rfl rfl), (by omega), hL1⟩
 ·skip
  obtain rfl : k_ = 0 := by have h := of_decide_eq_false hlt; omega
  refine cw_exit rfl ?_
  obtain rfl := some_inj hL
  refine cw_seq ?_
  refine cw_region ?_
  refine sq 39 rfl rfl (Y_loadA (B := aD b2) (i := 0) (cs := [vi m.Cols, vi m.Rows, .slice B2 Cells.length c2]) (vs := [vi m.Cols, vi m.Rows, .slice B2 Cells.length c2]) k_ag_38 k_sz_38_3 rfl (hf.get 3 2 rfl) (hS5.cf (i := 2) rfl) rfl rfl) ?_
  refine ss0 rfl rfl (Ys_store (i := 1) (s := 3) (B := aD b1) (T' := 38) (v := .agg #[vi m.Cols, vi m.Rows, .slice B2 Cells.length c2]) (vs := [vi m.Cols, vi m.Rows, .slice B2 Cells.length c2]) (k := 0) (cs' := [vi m.Cols, vi m.Rows, .slice B2 Cells.length c2]) hS5 k_sz_38_3 rfl (hf.get 2 1 rfl) rfl rfl rfl rfl rfl (Nat.le_of_ble_eq_true rfl) rfl rfl) ?_
  rintro _ w_15 ⟨rfl, hS22⟩
  have hS22 : ST w0 [] _ [⟨aD b, 38, [vi m.Rows, vi m.Cols, .slice B m.Cells.length c], 3⟩, ⟨aD b1, 38, [vi m.Cols, vi m.Rows, .slice B2 Cells.length c2], 3⟩, ⟨aD b2, 38, [vi m.Cols, vi m.Rows, .slice B2 Cells.length c2], 3⟩, ⟨B2, 44, (Cells.flatMap eN0), c2 * 5⟩] [⟨B, (m.Cells.flatMap eN0)⟩] := hS22
  refine rw_nil ?_
  refine cw_ret ?_
  obtain rfl := some_inj hF1
  exact ret1 Tryd.results22 (v1 := .agg #[vi m.Cols, vi m.Rows, .slice B2 Cells.length c2]) (resAt_cellA (B := aD b1) (i := 0) (cs := [vi m.Cols, vi m.Rows, .slice B2 Cells.length c2]) (vs := [vi m.Cols, vi m.Rows, .slice B2 Cells.length c2]) (hf.get 2 1 rfl) k_ag_38 k_sz_38_3 (hS22.cf (i := 1) rfl) rfl rfl) ⟨B2, c2, rfl, (ST.subR (R' := []) (hS22.sel [3] rfl rfl) (fun _ h => by cases h))⟩
end Go.VK
