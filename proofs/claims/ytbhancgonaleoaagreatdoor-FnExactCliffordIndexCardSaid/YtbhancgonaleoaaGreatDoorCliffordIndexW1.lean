/- Walks: each Go function returns what its Lean function says. By program. -/
import Derived.Test.YtbhancgonaleoaaGreatDoorCliffordIndexFa
set_option linter.unusedVariables false
set_option maxRecDepth 100000
set_option maxHeartbeats 1000000
namespace Go.VK
open Go.RowKit
open Go.Proofs
open Go.IntKind
attribute [local irreducible] CW RW RA CV Y Yw Yc Ys RetOf
attribute [local irreducible] F_laws_szDyadicS F_laws_szBloch F_spec_l1In F_spec_l1All F_spec_l1Good F_spec_l1Even F_spec_l2Good F_spec_l1Root F_spec_l1Half F_spec_l2Low F_spec_l2C_ring F_spec_l1Mul F_spec_l2C_mul F_spec_l1Add F_spec_l2C_add F_spec_l2C_bloch F_spec_l9Turn F_spec_l1Neg F_spec_l2Neg F_spec_l2C_minor F_spec_l9Same F_spec_l1Turn F_spec_l2Power F_spec_l9Unit F_spec_l9Valid F_spec_l2C_times F_spec_l6One F_spec_l9Pauli F_spec_l1Conj F_spec_l2Conj F_spec_l3Adj F_spec_l9Bloch F_spec_l6Bit F_spec_l6Cell F_spec_l6Gate F_spec_l2C_run F_spec_l3Unit F_spec_l6Op F_spec_l9Word F_spec_l9Words F_spec_l9Index F_spec_CliffordIndex F_laws_toRing F_laws_toDyadic F_laws_toDyadicS F_laws_toBloch F_slices_IndexFunc_impl_Dyadic_impl_Dyadic F_slices_ContainsFunc_impl_Dyadic_impl_Dyadic F_impl_within F_impl_isCoef F_impl_IsValidRing F_impl_isEven F_impl_IsValidDyadic F_impl_isReal F_impl_IsValidBloch_1 F_impl_ringIf F_impl_MulRing F_impl_DivRootTwo F_impl_DyadicOf F_impl_MulDyadic F_impl_MulRootTwo F_impl_raised F_impl_combined F_impl_AddRing F_impl_AddDyadic F_impl_mulBloch F_impl_transposed F_impl_SubRing F_impl_SubDyadic F_impl_minor F_impl_determinant F_impl_whole F_impl_small F_impl_IsValidBloch F_impl_isDim F_impl_matrixOf F_impl_isTwo F_impl_IsValidGate F_impl_MulOmega F_impl_phase F_impl_bitOf F_impl_flipped F_impl_comesFrom F_impl_entry F_impl_GateMatrix_1 F_impl_GateMatrix F_impl_IsValidMatrix_1 F_impl_IsValidMatrix F_impl_IdentityMatrix_1 F_impl_IdentityMatrix F_impl_Matrix_at F_impl_MulMatrix_1 F_impl_MulMatrix F_impl_Conjugate F_impl_ConjDyadic F_impl_Adjoint_1 F_impl_Adjoint F_slices_Equal_impl_Dyadic_impl_Dyadic F_impl_EqualMatrices F_impl_IsUnitary F_impl_IsOneQubit F_impl_TraceOf F_impl_blochCell F_impl_BlochOf F_impl_blochGate F_slices_IndexFunc_SSimpl_Dyadic_impl_Dyadic F_slices_ContainsFunc_SSimpl_Dyadic_impl_Dyadic F_impl_cliffordList_1 F_impl_cliffordList F_impl_CliffordIndex F_laws_eqRing F_laws_eqDyadic F_laws_eqDyadicS F_laws_eqBloch F_laws_FnExactCliffordIndex
theorem c_laws_szDyadicS (a : List TDyadic) (left : Int) (B : Option Addr) (c n : Nat) (w0 : World) (hn : a.length = n) (hS : ST w0 [] w0 [] [⟨B, (a.flatMap eN0)⟩]) {r_ : Int} (hF : F_laws_szDyadicS a left = some r_) :
  CV Tryz.prog 23 #[.slice B n c, vi left] w0 (fun v w' => v = vi r_ ∧ ST w0 [] w' [] []) := by
 subst hn
 unfold F_laws_szDyadicS at hF
 refine cv_of_cw 12 Tryz.func23 rfl Tryz.ntmps23 rfl ?_
 refine cw_seq (cw_region ?_)
 refine sQ 4 (Y_assign (v := vi 0) rfl rfl) (rw_nil (cw_seq (cw_region ?_)))
 refine sQ 5 (Y_move (v := vi left) rfl rfl) ?_
 refine sQ 6 (Y_move (v := .slice B a.length c) rfl rfl) ?_
 refine sQ 7 (Y_len (B := B) (m := a.length) (c := c) k_sl_22_96 rfl rfl) ?_
 refine sQ 8 (Y_sub (k := .i64) (a := left) (b := (a.length : Int)) rfl rfl rfl) ?_
 refine sQ 1 (Y_assign (v := vi (i64.wrap (left - (a.length : Int)))) rfl rfl) (rw_nil (cw_seq (cw_seq (cw_region ?_))))
 refine sQ 9 (Y_move (v := vi (i64.wrap (left - (a.length : Int)))) rfl rfl) ?_
 refine sQ 10 (Y_lt (k := .i64) (a := (i64.wrap (left - (a.length : Int)))) (b := 0) rfl rfl rfl) (rw_nil ?_)
 refine cw_cond (b := (decide ((i64.wrap (left - (a.length : Int))) < 0))) rfl (fun hb => ?_) (fun hb => ?_)
 ·skip
  have hF1 := ct hF hb
  refine cw_seq (cw_region ?_)
  refine sQ 4 (Y_assign (v := vi (-1)) rfl rfl) (rw_nil (cw_ret ?_))
  obtain rfl := some_inj hF1
  exact ret1 Tryz.results23 (v1 := vi (-1)) (resAt_tmp rfl) ⟨rfl, (hS.sN [])⟩
 ·skip
  have hF2 := cf' hF hb
  refine cw_skip (cw_seq (cw_region ?_))
  refine sQ 11 (Y_move (v := vi (i64.wrap (left - (a.length : Int)))) rfl rfl) ?_
  refine sQ 4 (Y_assign (v := vi (i64.wrap (left - (a.length : Int)))) rfl rfl) (rw_nil (cw_ret ?_))
  obtain rfl := some_inj hF2
  exact ret1 Tryz.results23 (v1 := vi (i64.wrap (left - (a.length : Int)))) (resAt_tmp rfl) ⟨rfl, (hS.sN [])⟩

theorem c_laws_szBloch (a : TBloch) (left : Int) (B : Option Addr) (c n : Nat) (w0 : World) (hn : a.Cells.length = n) (hS : ST w0 [] w0 [] [⟨B, (a.Cells.flatMap eN0)⟩]) {r_ : Int} (hF : F_laws_szBloch a left = some r_) :
  CV Tryz.prog 6 #[.agg #[.slice B n c], vi left] w0 (fun v w' => v = vi r_ ∧ ST w0 [] w' [] []) := by
 subst hn
 unfold F_laws_szBloch at hF
 refine cv_of_cw 12 Tryz.func6 rfl Tryz.ntmps6 rfl ?_
 refine cw_seq (cw_region ?_)
 refine sS 2 (Ys_box (T := 24) (v := gB_ a B c) (cs := kB_ a B c) (m := 1) hS rfl rfl rfl rfl) ?_
 rintro _ w_ ⟨b, rfl, hS1⟩
 refine sQ 4 (Y_assign (v := vi 0) rfl rfl) (rw_nil (cw_seq (cw_region ?_)))
 refine sQ 5 (Y_fieldAddr (B := aD b) (i := 0) (s := 0) k_fd_24_0_0_22 k_sz_22_1 rfl rfl) ?_
 refine sQ 6 (Y_load1 (B := aD b) (i := 0) (cs := kB_ a B c) (v := .slice B a.Cells.length c) k_sc_22 rfl rfl (hS1.cf (i := 0) rfl) rfl) ?_
 refine sQ 7 (Y_move (v := vi left) rfl rfl) ?_
 obtain ⟨r_1, hc, hF⟩ := bind_inv hF
 refine sc 8 rfl rfl (Yc_func (g := 23) (vs := [.slice B a.Cells.length c, vi left]) k_call_23 rfl (mc rfl (mc rfl mn)) (c_laws_szDyadicS a.Cells left B c a.Cells.length _ rfl (hS1.inn0 [(true, 0)] rfl) hc)) ?_
 rintro _ w_1 ⟨rfl, hd⟩
 have hS2 := hS1.out00 hd
 refine sQ 1 (Y_assign (v := vi r_1) rfl rfl) (rw_nil (cw_seq (cw_seq (cw_region ?_))))
 refine sQ 9 (Y_move (v := vi r_1) rfl rfl) ?_
 refine sQ 10 (Y_lt (k := .i64) (a := r_1) (b := 0) rfl rfl rfl) (rw_nil ?_)
 refine cw_cond (b := (decide (r_1 < 0))) rfl (fun hb => ?_) (fun hb => ?_)
 ·skip
  have hF1 := ct hF hb
  refine cw_seq (cw_region ?_)
  refine sQ 4 (Y_assign (v := vi (-1)) rfl rfl) (rw_nil (cw_ret ?_))
  obtain rfl := some_inj hF1
  exact ret1 Tryz.results6 (v1 := vi (-1)) (resAt_tmp rfl) ⟨rfl, (hS2.sN [])⟩
 ·skip
  have hF2 := cf' hF hb
  refine cw_skip (cw_seq (cw_region ?_))
  refine sQ 11 (Y_move (v := vi r_1) rfl rfl) ?_
  refine sQ 4 (Y_assign (v := vi r_1) rfl rfl) (rw_nil (cw_ret ?_))
  obtain rfl := some_inj hF2
  exact ret1 Tryz.results6 (v1 := vi r_1) (resAt_tmp rfl) ⟨rfl, (hS2.sN [])⟩

theorem c_spec_l1In (n : Int) (lo : Int) (hi : Int)  (w0 : World)  (hS : ST w0 [] w0 [] []) {r_ : Bool} (hF : F_spec_l1In n lo hi = some r_) :
  CV Tryz.prog 71 #[vi n, vi lo, vi hi] w0 (fun v w' => v = .bool r_ ∧ ST w0 [] w' [] []) := by
 unfold F_spec_l1In at hF
 refine cv_of_cw 15 Tryz.func71 rfl Tryz.ntmps71 rfl ?_
 refine cw_seq (cw_region ?_)
 refine sQ 6 (Y_assign (v := .bool false) rfl rfl) (rw_nil (cw_seq (cw_region ?_)))
 refine sQ 7 (Y_move (v := vi n) rfl rfl) ?_
 refine sQ 8 (Y_move (v := vi lo) rfl rfl) ?_
 refine sQ 9 (Y_ge (k := .i64) (a := n) (b := lo) rfl rfl rfl) ?_
 refine sQ 10 (Y_move (v := .bool (decide (lo ≤ n))) rfl rfl) ?_
 refine sgq 11 (B := (decide (lo ≤ n))) (v := vi n) rfl rfl (wT 10) (fun hg => (Y_move (v := vi n) rfl rfl)) ?_
 refine sgq 12 (B := (decide (lo ≤ n))) (v := vi hi) rfl rfl (wT 10) (fun hg1 => (Y_move (v := vi hi) rfl rfl)) ?_
 refine sgq 13 (B := (decide (lo ≤ n))) (v := .bool (decide (n ≤ hi))) rfl rfl (wT 10) (fun hg2 => (Y_le (k := .i64) (a := n) (b := hi) rfl (gv_of (v := vi n) hg2) (gv_of (v := vi hi) hg2))) ?_
 refine sQ 14 (Y_and (b := (decide (lo ≤ n))) (z := (decide (n ≤ hi))) rfl rfl rfl rfl) ?_
 refine sQ 6 (Y_assign (v := .bool ((decide (lo ≤ n)) && (decide (n ≤ hi)))) rfl rfl) (rw_nil (cw_ret ?_))
 obtain rfl := some_inj hF
 exact ret1 Tryz.results71 (v1 := .bool ((decide (lo ≤ n)) && (decide (n ≤ hi)))) (resAt_tmp rfl) ⟨rfl, (hS.sN [])⟩

theorem c_spec_l1All (l : List Int) (lo : Int) (hi : Int) (B : Option Addr) (c n : Nat) (w0 : World) (hn : l.length = n) (hS : ST w0 [] w0 [] [⟨B, (l.flatMap encI)⟩]) {r_ : Bool} (hF : F_spec_l1All l lo hi = some r_) :
  CV Tryz.prog 123 #[.slice B n c, vi lo, vi hi] w0 (fun v w' => v = .bool r_ ∧ ST w0 [] w' [] []) := by
 subst hn
 unfold F_spec_l1All at hF
 refine cv_of_cw 21 Tryz.func123 rfl Tryz.ntmps123 rfl ?_
 refine cw_seq (cw_region ?_)
 refine sQ 6 (Y_assign (v := .bool false) rfl rfl) (rw_nil (cw_seq (cw_seq (cw_region ?_))))
 refine sQ 9 (Y_move (v := .slice B l.length c) rfl rfl) ?_
 refine sQ 10 (Y_len (B := B) (m := l.length) (c := c) k_sl_150_3 rfl rfl) ?_
 refine sQ 11 (Y_move (v := vi 0) rfl rfl) (rw_nil ?_)
 obtain ⟨hN, hF⟩ := chk_inv hF
 obtain ⟨z, hz, hF1⟩ := bind_inv hF
 refine cw_block ?_
 refine cw_loop (fun k f w => ∃ (i : Nat), FF f [(1, vi lo), (2, vi hi), (9, .slice B l.length c), (10, vi (l.length : Int)), (11, vi (i : Int))] ∧ ST w0 [] w [] [⟨B, (l.flatMap encI)⟩] ∧ i + k = l.length ∧ forX (F_spec_l1All_l1 l lo hi) k i () = some z) l.length ⟨0, (FF.cons rfl (FF.cons rfl (FF.cons rfl (FF.cons rfl (FF.cons rfl FF.nil))))), (hS.sel [] rfl rfl), Nat.zero_add _, hz⟩ ?_
 rintro k_ f w ⟨i, hf, hS1, hik, hL⟩
 refine cw_seq (cw_region ?_)
 refine sQ 12 (Y_lt (k := .i64) (a := (i : Int)) (b := (l.length : Int)) rfl (hf.get 11 4 rfl) (hf.get 10 3 rfl)) (rw_nil (cw_seq ?_))
 refine cw_cond (b := (decide ((i : Int) < (l.length : Int)))) rfl (fun hlt => ?_) (fun hlt => ?_)
 ·skip
  have hlt1 : i < l.length := by have h := of_decide_eq_true hlt; omega
  obtain ⟨k_1, rfl⟩ : ∃ k2, k_ = k2 + 1 := ⟨k_ - 1, by omega⟩
  obtain ⟨y, hb, hL1⟩ := forX_go hL
  unfold F_spec_l1All_l1 at hb
  refine cw_skip (cw_seq (cw_block (cw_seq (cw_region ?_))))
  obtain ⟨x, hx, hb⟩ := bind_inv hb
  refine sQ 13 (Y_index (B := B) (m := l.length) (c := c) (k := .i64) (i := (i : Int)) k_sl_150_3 k_sz_3_1 rfl (hf.get 9 2 rfl) (hf.get 11 4 rfl) (gi_isSome encI_len rfl (hS1.rf (i := 0) rfl) hx) (getI_nn hx) (getI_ltI hx rfl)) ?_
  refine sQ 14 (Y_load1 (B := B) (i := (i : Int).toNat * 1) (cs := (l.flatMap encI)) (v := vi x) k_sc_3 rfl rfl (hS1.rf (i := 0) rfl) (gi_at0 encI_len hx rfl)) ?_
  refine sQ 8 (Y_assign (v := vi x) rfl rfl) (rw_nil (cw_seq (cw_region ?_)))
  refine sQ 15 (Y_move (v := vi x) rfl rfl) ?_
  refine sQ 16 (Y_move (v := vi lo) rfl (hf.get 1 0 rfl)) ?_
  refine sQ 17 (Y_move (v := vi hi) rfl (hf.get 2 1 rfl)) ?_
  obtain ⟨r_1, hc, hb⟩ := bind_inv hb
  refine sc 18 rfl rfl (Yc_func (g := 71) (vs := [vi x, vi lo, vi hi]) k_call_71 rfl (mc rfl (mc rfl (mc rfl mn))) (c_spec_l1In x lo hi _  (hS1.inn0 [] rfl) hc)) ?_
  rintro _ w_ ⟨rfl, hd⟩
  have hS2 := hS1.out00 hd
  refine sQ 19 (Y_not (p := r_1) rfl rfl) (rw_nil ?_)
  refine cw_cond (b := (!r_1)) rfl (fun hb1 => ?_) (fun hb1 => ?_)
  ·skip
   have hF2 := ct hb hb1
   refine cw_seq (cw_region ?_)
   refine sQ 6 (Y_assign (v := .bool false) rfl rfl) (rw_nil (cw_ret ?_))
   obtain rfl := some_inj hF2
   obtain rfl := some_inj hL1
   obtain rfl := some_inj hF1
   exact ret1 Tryz.results123 (v1 := .bool false) (resAt_tmp rfl) ⟨rfl, (hS2.sN [])⟩
  ·skip
   have hF3 := cf' hb hb1
   refine cw_skip (cw_region ?_)
   refine sQ 20 (Y_add (k := .i64) (a := (i : Int)) (b := 1) rfl (hf.get 11 4 rfl) rfl) ?_
   refine sQ 11 (Y_move (v := vi (i64.wrap ((i : Int) + 1))) rfl rfl) (rw_nil ?_)
   obtain rfl := some_inj hF3
   exact ⟨k_1, Nat.lt_succ_self _, i + 1, (FF.cons (hf.get 1 0 rfl) (FF.cons (hf.get 2 1 rfl) (FF.cons (hf.get 9 2 rfl) (FF.cons (hf.get 10 3 rfl) (FF.cons (congrArg (Value.int .i64) (wr_succ hlt1 hN)) FF.nil))))), (hS2.sel [] rfl rfl), (by omega), hL1⟩
 ·skip
  obtain rfl : k_ = 0 := by have h := of_decide_eq_false hlt; omega
  refine cw_exit rfl ?_
  obtain rfl := some_inj hL
  refine cw_seq (cw_region ?_)
  refine sQ 6 (Y_assign (v := .bool true) rfl rfl) (rw_nil (cw_ret ?_))
  obtain rfl := some_inj hF1
  exact ret1 Tryz.results123 (v1 := .bool true) (resAt_tmp rfl) ⟨rfl, (hS1.sN [])⟩

theorem c_spec_l1Good (x : TRing)  (w0 : World)  (hS : ST w0 [] w0 [] []) {r_ : Bool} (hF : F_spec_l1Good x = some r_) :
  CV Tryz.prog 89 #[gR_ x] w0 (fun v w' => v = .bool r_ ∧ ST w0 [] w' [] []) := by
 unfold F_spec_l1Good at hF
 refine cv_of_cw 13 Tryz.func89 rfl Tryz.ntmps89 rfl ?_
 refine cw_seq (cw_region ?_)
 refine sS 1 (Ys_box (T := 63) (v := gR_ x) (cs := kR_ x) (m := 4) hS rfl rfl rfl rfl) ?_
 rintro _ w_ ⟨b, rfl, hS1⟩
 refine sQ 2 (Y_assign (v := .bool false) rfl rfl) (rw_nil (cw_seq (cw_region ?_)))
 refine sQ 3 (Y_fieldAddr (B := aD b) (i := 0) (s := 0) k_fd_63_0_0_3 k_sz_3_1 rfl rfl) ?_
 refine sQ 4 (Y_load1 (B := aD b) (i := 0) (cs := kR_ x) (v := vi x.A) k_sc_3 rfl rfl (hS1.cf (i := 0) rfl) rfl) ?_
 refine sQ 5 (Y_fieldAddr (B := aD b) (i := 0) (s := 0) k_fd_63_1_1_3 k_sz_3_1 rfl rfl) ?_
 refine sQ 6 (Y_load1 (B := aD b) (i := 1) (cs := kR_ x) (v := vi x.B) k_sc_3 rfl rfl (hS1.cf (i := 0) rfl) rfl) ?_
 refine sQ 7 (Y_fieldAddr (B := aD b) (i := 0) (s := 0) k_fd_63_2_2_3 k_sz_3_1 rfl rfl) ?_
 refine sQ 8 (Y_load1 (B := aD b) (i := 2) (cs := kR_ x) (v := vi x.C) k_sc_3 rfl rfl (hS1.cf (i := 0) rfl) rfl) ?_
 refine sQ 9 (Y_fieldAddr (B := aD b) (i := 0) (s := 0) k_fd_63_3_3_3 k_sz_3_1 rfl rfl) ?_
 refine sQ 10 (Y_load1 (B := aD b) (i := 3) (cs := kR_ x) (v := vi x.D) k_sc_3 rfl rfl (hS1.cf (i := 0) rfl) rfl) ?_
 refine sS 11 (Ys_bslice (s := 1) (len := 4) (vs := [(0, vi x.A), (1, vi x.B), (2, vi x.C), (3, vi x.D)]) (cs := kR_ x) (zs := [vi 0, vi 0, vi 0, vi 0]) (m := 4) hS1 k_sl_150_3 k_sz_3_1 k_zc_3 rfl (mpc rfl (mpc rfl (mpc rfl (mpc rfl mpn)))) rfl rfl rfl (by kernel_rfl) (by kernel_rfl) rfl) ?_
 rintro _ w_1 ⟨b1, rfl, hS2⟩
 obtain ⟨r_1, hc, hF⟩ := bind_inv hF
 refine sc 12 rfl rfl (Yc_func (g := 123) (vs := [.slice (aD b1) 4 4, vi (-1000000000), vi 1000000000]) k_call_123 rfl (mc rfl (mc rfl (mc rfl mn))) (c_spec_l1All [x.A, x.B, x.C, x.D] (-1000000000) 1000000000 (aD b1) 4 4 _ rfl (hS2.inn0 [(false, 1)] rfl) hc)) ?_
 rintro _ w_2 ⟨rfl, hd⟩
 have hS3 := hS2.out00 hd
 refine sQ 2 (Y_assign (v := .bool r_1) rfl rfl) (rw_nil (cw_ret ?_))
 obtain rfl := some_inj hF
 exact ret1 Tryz.results89 (v1 := .bool r_1) (resAt_tmp rfl) ⟨rfl, (hS3.sN [])⟩

theorem c_spec_l1Even (x : TRing)  (w0 : World)  (hS : ST w0 [] w0 [] []) {r_ : Bool} (hF : F_spec_l1Even x = some r_) :
  CV Tryz.prog 90 #[gR_ x] w0 (fun v w' => v = .bool r_ ∧ ST w0 [] w' [] []) := by
 unfold F_spec_l1Even at hF
 refine cv_of_cw 19 Tryz.func90 rfl Tryz.ntmps90 rfl ?_
 refine cw_seq (cw_region ?_)
 refine sS 1 (Ys_box (T := 63) (v := gR_ x) (cs := kR_ x) (m := 4) hS rfl rfl rfl rfl) ?_
 rintro _ w_ ⟨b, rfl, hS1⟩
 refine sQ 2 (Y_assign (v := .bool false) rfl rfl) (rw_nil (cw_seq (cw_region ?_)))
 refine sQ 3 (Y_fieldAddr (B := aD b) (i := 0) (s := 0) k_fd_63_0_0_3 k_sz_3_1 rfl rfl) ?_
 refine sQ 4 (Y_load1 (B := aD b) (i := 0) (cs := kR_ x) (v := vi x.A) k_sc_3 rfl rfl (hS1.cf (i := 0) rfl) rfl) ?_
 refine sQ 5 (Y_fieldAddr (B := aD b) (i := 0) (s := 0) k_fd_63_2_2_3 k_sz_3_1 rfl rfl) ?_
 refine sQ 6 (Y_load1 (B := aD b) (i := 2) (cs := kR_ x) (v := vi x.C) k_sc_3 rfl rfl (hS1.cf (i := 0) rfl) rfl) ?_
 refine sQ 7 (Y_add (k := .i64) (a := x.A) (b := x.C) rfl rfl rfl) ?_
 refine sQ 8 (Y_rem (k := .i64) (a := (i64.wrap (x.A + x.C))) (b := 2) rfl rfl rfl (by decide)) ?_
 refine sQ 9 (Y_eq (k := .i64) (a := (Int.tmod (i64.wrap (x.A + x.C)) 2)) (b := 0) rfl rfl rfl) ?_
 refine sQ 10 (Y_move (v := .bool ((Int.tmod (i64.wrap (x.A + x.C)) 2) == 0)) rfl rfl) ?_
 refine sgq 11 (B := ((Int.tmod (i64.wrap (x.A + x.C)) 2) == 0)) (v := pt (aD b) 1) rfl rfl (wT 10) (fun hg => (Y_fieldAddr (B := aD b) (i := 0) (s := 0) k_fd_63_1_1_3 k_sz_3_1 rfl rfl)) ?_
 refine sgq 12 (B := ((Int.tmod (i64.wrap (x.A + x.C)) 2) == 0)) (v := vi x.B) rfl rfl (wT 10) (fun hg1 => (Y_load1 (B := aD b) (i := 1) (cs := kR_ x) (v := vi x.B) k_sc_3 rfl (gv_of (v := pt (aD b) 1) hg1) (hS1.cf (i := 0) rfl) rfl)) ?_
 refine sgq 13 (B := ((Int.tmod (i64.wrap (x.A + x.C)) 2) == 0)) (v := pt (aD b) 3) rfl rfl (wT 10) (fun hg2 => (Y_fieldAddr (B := aD b) (i := 0) (s := 0) k_fd_63_3_3_3 k_sz_3_1 rfl rfl)) ?_
 refine sgq 14 (B := ((Int.tmod (i64.wrap (x.A + x.C)) 2) == 0)) (v := vi x.D) rfl rfl (wT 10) (fun hg3 => (Y_load1 (B := aD b) (i := 3) (cs := kR_ x) (v := vi x.D) k_sc_3 rfl (gv_of (v := pt (aD b) 3) hg3) (hS1.cf (i := 0) rfl) rfl)) ?_
 refine sgq 15 (B := ((Int.tmod (i64.wrap (x.A + x.C)) 2) == 0)) (v := vi (i64.wrap (x.B + x.D))) rfl rfl (wT 10) (fun hg4 => (Y_add (k := .i64) (a := x.B) (b := x.D) rfl (gv_of (v := vi x.B) hg4) (gv_of (v := vi x.D) hg4))) ?_
 refine sgq 16 (B := ((Int.tmod (i64.wrap (x.A + x.C)) 2) == 0)) (v := vi (Int.tmod (i64.wrap (x.B + x.D)) 2)) rfl rfl (wT 10) (fun hg5 => (Y_rem (k := .i64) (a := (i64.wrap (x.B + x.D))) (b := 2) rfl (gv_of (v := vi (i64.wrap (x.B + x.D))) hg5) rfl (by decide))) ?_
 refine sgq 17 (B := ((Int.tmod (i64.wrap (x.A + x.C)) 2) == 0)) (v := .bool ((Int.tmod (i64.wrap (x.B + x.D)) 2) == 0)) rfl rfl (wT 10) (fun hg6 => (Y_eq (k := .i64) (a := (Int.tmod (i64.wrap (x.B + x.D)) 2)) (b := 0) rfl (gv_of (v := vi (Int.tmod (i64.wrap (x.B + x.D)) 2)) hg6) rfl)) ?_
 refine sQ 18 (Y_and (b := ((Int.tmod (i64.wrap (x.A + x.C)) 2) == 0)) (z := ((Int.tmod (i64.wrap (x.B + x.D)) 2) == 0)) rfl rfl rfl rfl) ?_
 refine sQ 2 (Y_assign (v := .bool (((Int.tmod (i64.wrap (x.A + x.C)) 2) == 0) && ((Int.tmod (i64.wrap (x.B + x.D)) 2) == 0))) rfl rfl) (rw_nil (cw_ret ?_))
 obtain rfl := some_inj hF
 exact ret1 Tryz.results90 (v1 := .bool (((Int.tmod (i64.wrap (x.A + x.C)) 2) == 0) && ((Int.tmod (i64.wrap (x.B + x.D)) 2) == 0))) (resAt_tmp rfl) ⟨rfl, (hS1.sN [])⟩

theorem c_spec_l2Good (x : TDyadic)  (w0 : World)  (hS : ST w0 [] w0 [] []) {r_ : Bool} (hF : F_spec_l2Good x = some r_) :
  CV Tryz.prog 45 #[gD_ x] w0 (fun v w' => v = .bool r_ ∧ ST w0 [] w' [] []) := by
 unfold F_spec_l2Good at hF
 refine cv_of_cw 22 Tryz.func45 rfl Tryz.ntmps45 rfl ?_
 refine cw_seq (cw_region ?_)
 refine sS 1 (Ys_box (T := 65) (v := gD_ x) (cs := kD_ x) (m := 5) hS rfl rfl rfl rfl) ?_
 rintro _ w_ ⟨b, rfl, hS1⟩
 refine sQ 2 (Y_assign (v := .bool false) rfl rfl) (rw_nil (cw_seq (cw_region ?_)))
 refine sQ 3 (Y_fieldAddr (B := aD b) (i := 0) (s := 3) k_fd_65_0_0_63 k_sz_63_4 rfl rfl) ?_
 refine sQ 4 (Y_loadA (B := aD b) (i := 0) (cs := kD_ x) (vs := kR_ x.Num) k_ag_63 k_sz_63_4 rfl rfl (hS1.cf (i := 0) rfl) rfl rfl) ?_
 obtain ⟨r_1, hc, hF⟩ := bind_inv hF
 refine sc 5 rfl rfl (Yc_func (g := 89) (vs := [gR_ x.Num]) k_call_89 rfl (mc rfl mn) (c_spec_l1Good x.Num _  (hS1.inn0 [] rfl) hc)) ?_
 rintro _ w_1 ⟨rfl, hd⟩
 have hS2 := hS1.out00 hd
 refine sQ 6 (Y_move (v := .bool r_1) rfl rfl) ?_
 refine sgq 7 (B := r_1) (v := pt (aD b) 4) rfl rfl (wT 6) (fun hg => (Y_fieldAddr (B := aD b) (i := 0) (s := 0) k_fd_65_1_4_3 k_sz_3_1 rfl rfl)) ?_
 refine sgq 8 (B := r_1) (v := vi x.Exp) rfl rfl (wT 6) (fun hg1 => (Y_load1 (B := aD b) (i := 4) (cs := kD_ x) (v := vi x.Exp) k_sc_3 rfl (gv_of (v := pt (aD b) 4) hg1) (hS2.cf (i := 0) rfl) rfl)) ?_
 obtain ⟨r_2, hc1, hF⟩ := bind_inv hF
 refine sgc 9 (B := r_1) (v := .bool r_2) (F := hS2.fn) rfl rfl (wT 6) hS2 (fun hg2 => (Yc_func (g := 71) (vs := [vi x.Exp, vi 0, vi 60]) k_call_71 rfl (mc (gv_of (v := vi x.Exp) hg2) (mc rfl (mc rfl mn))) (CV.mono (c_spec_l1In x.Exp 0 60 _  (hS2.inn0 [] rfl) (gb_inv hc1 hg2)) (by rintro _ _ ⟨rfl, h⟩; exact ⟨rfl, hS2.out00 h⟩)))) ?_
 rintro w_2 hS3
 refine sQ 10 (Y_and (b := r_1) (z := r_2) rfl rfl rfl rfl) ?_
 refine sQ 11 (Y_move (v := .bool (r_1 && r_2)) rfl rfl) ?_
 refine sgq 12 (B := (r_1 && r_2)) (v := pt (aD b) 4) rfl rfl (wT 11) (fun hg3 => (Y_fieldAddr (B := aD b) (i := 0) (s := 0) k_fd_65_1_4_3 k_sz_3_1 rfl rfl)) ?_
 refine sgq 13 (B := (r_1 && r_2)) (v := vi x.Exp) rfl rfl (wT 11) (fun hg4 => (Y_load1 (B := aD b) (i := 4) (cs := kD_ x) (v := vi x.Exp) k_sc_3 rfl (gv_of (v := pt (aD b) 4) hg4) (hS3.cf (i := 0) rfl) rfl)) ?_
 refine sgq 14 (B := (r_1 && r_2)) (v := .bool (x.Exp == 0)) rfl rfl (wT 11) (fun hg5 => (Y_eq (k := .i64) (a := x.Exp) (b := 0) rfl (gv_of (v := vi x.Exp) hg5) rfl)) ?_
 refine sgq 15 (B := (r_1 && r_2)) (v := .bool (x.Exp == 0)) rfl rfl (wT 11) (fun hg6 => (Y_move (v := .bool (x.Exp == 0)) rfl (gv_of (v := .bool (x.Exp == 0)) hg6))) ?_
 refine sgq 16 (B := ((r_1 && r_2) && (!(x.Exp == 0)))) (v := pt (aD b) 0) rfl rfl (wt_gf (gd_of (t := 15) (by kernel_rfl) rfl)) (fun hg7 => (Y_fieldAddr (B := aD b) (i := 0) (s := 3) k_fd_65_0_0_63 k_sz_63_4 rfl rfl)) ?_
 refine sgq 17 (B := ((r_1 && r_2) && (!(x.Exp == 0)))) (v := gR_ x.Num) rfl rfl (wt_gf (gd_of (t := 15) (by kernel_rfl) rfl)) (fun hg8 => (Y_loadA (B := aD b) (i := 0) (cs := kD_ x) (vs := kR_ x.Num) k_ag_63 k_sz_63_4 rfl (gv_of (v := pt (aD b) 0) hg8) (hS3.cf (i := 0) rfl) rfl rfl)) ?_
 obtain ⟨r_3, hc2, hF⟩ := bind_inv hF
 refine sgc 18 (B := ((r_1 && r_2) && (!(x.Exp == 0)))) (v := .bool r_3) (F := hS3.fn) rfl rfl (wt_gf (gd_of (t := 15) (by kernel_rfl) rfl)) hS3 (fun hg9 => (Yc_func (g := 90) (vs := [gR_ x.Num]) k_call_90 rfl (mc (gv_of (v := gR_ x.Num) hg9) mn) (CV.mono (c_spec_l1Even x.Num _  (hS3.inn0 [] rfl) (gb_inv hc2 hg9)) (by rintro _ _ ⟨rfl, h⟩; exact ⟨rfl, hS3.out00 h⟩)))) ?_
 rintro w_3 hS4
 refine sgq 19 (B := ((r_1 && r_2) && (!(x.Exp == 0)))) (v := .bool (!r_3)) rfl rfl (wt_gf (gd_of (t := 15) (by kernel_rfl) rfl)) (fun hg10 => (Y_not (p := r_3) rfl (gv_of (v := .bool r_3) hg10))) ?_
 refine sgq 20 (B := (r_1 && r_2)) (v := .bool ((x.Exp == 0) || (!r_3))) rfl rfl (wT 11) (fun hg11 => (Y_or (b := (x.Exp == 0)) (z := (!r_3)) rfl (gv_of (v := .bool (x.Exp == 0)) hg11) rfl (gv_and (B := (r_1 && r_2)) (C := (!(x.Exp == 0))) (v := .bool (!r_3)) hg11))) ?_
 refine sQ 21 (Y_and (b := (r_1 && r_2)) (z := ((x.Exp == 0) || (!r_3))) rfl rfl rfl rfl) ?_
 refine sQ 2 (Y_assign (v := .bool ((r_1 && r_2) && ((x.Exp == 0) || (!r_3)))) rfl rfl) (rw_nil (cw_ret ?_))
 obtain rfl := some_inj hF
 exact ret1 Tryz.results45 (v1 := .bool ((r_1 && r_2) && ((x.Exp == 0) || (!r_3)))) (resAt_tmp rfl) ⟨rfl, (hS4.sN [])⟩

theorem c_spec_l1Root (x : TRing)  (w0 : World)  (hS : ST w0 [] w0 [] []) {r_ : TRing} (hF : F_spec_l1Root x = some r_) :
  CV Tryz.prog 94 #[gR_ x] w0 (fun v w' => v = (gR_ r_) ∧ ST w0 [] w' [] []) := by
 unfold F_spec_l1Root at hF
 refine cv_of_cw 24 Tryz.func94 rfl Tryz.ntmps94 rfl ?_
 refine cw_seq (cw_region ?_)
 refine sS 1 (Ys_box (T := 63) (v := gR_ x) (cs := kR_ x) (m := 4) hS rfl rfl rfl rfl) ?_
 rintro _ w_ ⟨b, rfl, hS1⟩
 refine sS 2 (Ys_alloc (T := 63) (cs := [vi 0, vi 0, vi 0, vi 0]) (m := 4) hS1 k_zero_63 rfl rfl rfl) ?_
 rintro _ w_1 ⟨b1, rfl, hS2⟩
 refine rw_nil (cw_seq (cw_region ?_))
 refine sQ 3 (Y_fieldAddr (B := aD b) (i := 0) (s := 0) k_fd_63_1_1_3 k_sz_3_1 rfl rfl) ?_
 refine sQ 4 (Y_load1 (B := aD b) (i := 1) (cs := kR_ x) (v := vi x.B) k_sc_3 rfl rfl (hS2.cf (i := 0) rfl) rfl) ?_
 refine sQ 5 (Y_fieldAddr (B := aD b) (i := 0) (s := 0) k_fd_63_3_3_3 k_sz_3_1 rfl rfl) ?_
 refine sQ 6 (Y_load1 (B := aD b) (i := 3) (cs := kR_ x) (v := vi x.D) k_sc_3 rfl rfl (hS2.cf (i := 0) rfl) rfl) ?_
 refine sQ 7 (Y_sub (k := .i64) (a := x.B) (b := x.D) rfl rfl rfl) ?_
 refine sQ 8 (Y_fieldAddr (B := aD b) (i := 0) (s := 0) k_fd_63_0_0_3 k_sz_3_1 rfl rfl) ?_
 refine sQ 9 (Y_load1 (B := aD b) (i := 0) (cs := kR_ x) (v := vi x.A) k_sc_3 rfl rfl (hS2.cf (i := 0) rfl) rfl) ?_
 refine sQ 10 (Y_fieldAddr (B := aD b) (i := 0) (s := 0) k_fd_63_2_2_3 k_sz_3_1 rfl rfl) ?_
 refine sQ 11 (Y_load1 (B := aD b) (i := 2) (cs := kR_ x) (v := vi x.C) k_sc_3 rfl rfl (hS2.cf (i := 0) rfl) rfl) ?_
 refine sQ 12 (Y_add (k := .i64) (a := x.A) (b := x.C) rfl rfl rfl) ?_
 refine sQ 13 (Y_fieldAddr (B := aD b) (i := 0) (s := 0) k_fd_63_1_1_3 k_sz_3_1 rfl rfl) ?_
 refine sQ 14 (Y_load1 (B := aD b) (i := 1) (cs := kR_ x) (v := vi x.B) k_sc_3 rfl rfl (hS2.cf (i := 0) rfl) rfl) ?_
 refine sQ 15 (Y_fieldAddr (B := aD b) (i := 0) (s := 0) k_fd_63_3_3_3 k_sz_3_1 rfl rfl) ?_
 refine sQ 16 (Y_load1 (B := aD b) (i := 3) (cs := kR_ x) (v := vi x.D) k_sc_3 rfl rfl (hS2.cf (i := 0) rfl) rfl) ?_
 refine sQ 17 (Y_add (k := .i64) (a := x.B) (b := x.D) rfl rfl rfl) ?_
 refine sQ 18 (Y_fieldAddr (B := aD b) (i := 0) (s := 0) k_fd_63_2_2_3 k_sz_3_1 rfl rfl) ?_
 refine sQ 19 (Y_load1 (B := aD b) (i := 2) (cs := kR_ x) (v := vi x.C) k_sc_3 rfl rfl (hS2.cf (i := 0) rfl) rfl) ?_
 refine sQ 20 (Y_fieldAddr (B := aD b) (i := 0) (s := 0) k_fd_63_0_0_3 k_sz_3_1 rfl rfl) ?_
 refine sQ 21 (Y_load1 (B := aD b) (i := 0) (cs := kR_ x) (v := vi x.A) k_sc_3 rfl rfl (hS2.cf (i := 0) rfl) rfl) ?_
 refine sQ 22 (Y_sub (k := .i64) (a := x.C) (b := x.A) rfl rfl rfl) ?_
 refine sQ 23 (Y_buildS (zs := [vi 0, vi 0, vi 0, vi 0]) (vs := [(0, vi (i64.wrap (x.B - x.D))), (1, vi (i64.wrap (x.A + x.C))), (2, vi (i64.wrap (x.B + x.D))), (3, vi (i64.wrap (x.C - x.A)))]) (cs := [vi (i64.wrap (x.B - x.D)), vi (i64.wrap (x.A + x.C)), vi (i64.wrap (x.B + x.D)), vi (i64.wrap (x.C - x.A))]) k_pl_63 k_zero_63 rfl (mpc rfl (mpc rfl (mpc rfl (mpc rfl mpn)))) rfl) ?_
 refine s0 (Ys_store (i := 1) (s := 4) (B := aD b1) (T' := 63) (v := .agg #[vi (i64.wrap (x.B - x.D)), vi (i64.wrap (x.A + x.C)), vi (i64.wrap (x.B + x.D)), vi (i64.wrap (x.C - x.A))]) (vs := [vi (i64.wrap (x.B - x.D)), vi (i64.wrap (x.A + x.C)), vi (i64.wrap (x.B + x.D)), vi (i64.wrap (x.C - x.A))]) (k := 0) (cs' := [vi (i64.wrap (x.B - x.D)), vi (i64.wrap (x.A + x.C)), vi (i64.wrap (x.B + x.D)), vi (i64.wrap (x.C - x.A))]) hS2 k_sz_63_4 rfl rfl rfl rfl rfl rfl rfl (lB rfl) rfl rfl) ?_
 rintro _ w_2 ⟨rfl, hS3⟩
 refine rw_nil (cw_ret ?_)
 obtain rfl := some_inj hF
 exact ret1 Tryz.results94 (v1 := .agg #[vi (i64.wrap (x.B - x.D)), vi (i64.wrap (x.A + x.C)), vi (i64.wrap (x.B + x.D)), vi (i64.wrap (x.C - x.A))]) (resAt_cellA (B := aD b1) (i := 0) (cs := [vi (i64.wrap (x.B - x.D)), vi (i64.wrap (x.A + x.C)), vi (i64.wrap (x.B + x.D)), vi (i64.wrap (x.C - x.A))]) (vs := [vi (i64.wrap (x.B - x.D)), vi (i64.wrap (x.A + x.C)), vi (i64.wrap (x.B + x.D)), vi (i64.wrap (x.C - x.A))]) rfl k_ag_63 k_sz_63_4 (hS3.cf (i := 1) rfl) rfl rfl) ⟨rfl, (hS3.sN [])⟩

theorem c_spec_l1Half (x : TRing)  (w0 : World)  (hS : ST w0 [] w0 [] []) {r_ : TRing} (hF : F_spec_l1Half x = some r_) :
  CV Tryz.prog 124 #[gR_ x] w0 (fun v w' => v = (gR_ r_) ∧ ST w0 [] w' [] []) := by
 unfold F_spec_l1Half at hF
 refine cv_of_cw 19 Tryz.func124 rfl Tryz.ntmps124 rfl ?_
 refine cw_seq (cw_region ?_)
 refine sS 1 (Ys_box (T := 63) (v := gR_ x) (cs := kR_ x) (m := 4) hS rfl rfl rfl rfl) ?_
 rintro _ w_ ⟨b, rfl, hS1⟩
 refine sS 2 (Ys_alloc (T := 63) (cs := [vi 0, vi 0, vi 0, vi 0]) (m := 4) hS1 k_zero_63 rfl rfl rfl) ?_
 rintro _ w_1 ⟨b1, rfl, hS2⟩
 refine rw_nil (cw_seq (cw_region ?_))
 refine sQ 4 (Y_loadA (B := aD b) (i := 0) (cs := kR_ x) (vs := kR_ x) k_ag_63 k_sz_63_4 rfl rfl (hS2.cf (i := 0) rfl) rfl rfl) ?_
 obtain ⟨r_1, hc, hF⟩ := bind_inv hF
 refine sc 5 rfl rfl (Yc_func (g := 94) (vs := [gR_ x]) k_call_94 rfl (mc rfl mn) (c_spec_l1Root x _  (hS2.inn0 [] rfl) hc)) ?_
 rintro _ w_2 ⟨rfl, hd⟩
 have hS3 := hS2.out00 hd
 refine sS 3 (Ys_alloc (T := 63) (cs := [vi 0, vi 0, vi 0, vi 0]) (m := 4) hS3 k_zero_63 rfl rfl rfl) ?_
 rintro _ w_3 ⟨b2, rfl, hS4⟩
 refine s0 (Ys_store (i := 2) (s := 4) (B := aD b2) (T' := 63) (v := gR_ r_1) (vs := kR_ r_1) (k := 0) (cs' := kR_ r_1) hS4 k_sz_63_4 rfl rfl rfl rfl rfl rfl rfl (lB rfl) rfl rfl) ?_
 rintro _ w_4 ⟨rfl, hS5⟩
 refine rw_nil (cw_seq (cw_region ?_))
 refine sQ 6 (Y_fieldAddr (B := aD b2) (i := 0) (s := 0) k_fd_63_0_0_3 k_sz_3_1 rfl rfl) ?_
 refine sQ 7 (Y_load1 (B := aD b2) (i := 0) (cs := kR_ r_1) (v := vi r_1.A) k_sc_3 rfl rfl (hS5.cf (i := 2) rfl) rfl) ?_
 refine sQ 8 (Y_quo (k := .i64) (a := r_1.A) (b := 2) rfl rfl rfl (by decide)) ?_
 refine sQ 9 (Y_fieldAddr (B := aD b2) (i := 0) (s := 0) k_fd_63_1_1_3 k_sz_3_1 rfl rfl) ?_
 refine sQ 10 (Y_load1 (B := aD b2) (i := 1) (cs := kR_ r_1) (v := vi r_1.B) k_sc_3 rfl rfl (hS5.cf (i := 2) rfl) rfl) ?_
 refine sQ 11 (Y_quo (k := .i64) (a := r_1.B) (b := 2) rfl rfl rfl (by decide)) ?_
 refine sQ 12 (Y_fieldAddr (B := aD b2) (i := 0) (s := 0) k_fd_63_2_2_3 k_sz_3_1 rfl rfl) ?_
 refine sQ 13 (Y_load1 (B := aD b2) (i := 2) (cs := kR_ r_1) (v := vi r_1.C) k_sc_3 rfl rfl (hS5.cf (i := 2) rfl) rfl) ?_
 refine sQ 14 (Y_quo (k := .i64) (a := r_1.C) (b := 2) rfl rfl rfl (by decide)) ?_
 refine sQ 15 (Y_fieldAddr (B := aD b2) (i := 0) (s := 0) k_fd_63_3_3_3 k_sz_3_1 rfl rfl) ?_
 refine sQ 16 (Y_load1 (B := aD b2) (i := 3) (cs := kR_ r_1) (v := vi r_1.D) k_sc_3 rfl rfl (hS5.cf (i := 2) rfl) rfl) ?_
 refine sQ 17 (Y_quo (k := .i64) (a := r_1.D) (b := 2) rfl rfl rfl (by decide)) ?_
 refine sQ 18 (Y_buildS (zs := [vi 0, vi 0, vi 0, vi 0]) (vs := [(0, vi (i64.wrap (Int.tdiv r_1.A 2))), (1, vi (i64.wrap (Int.tdiv r_1.B 2))), (2, vi (i64.wrap (Int.tdiv r_1.C 2))), (3, vi (i64.wrap (Int.tdiv r_1.D 2)))]) (cs := [vi (i64.wrap (Int.tdiv r_1.A 2)), vi (i64.wrap (Int.tdiv r_1.B 2)), vi (i64.wrap (Int.tdiv r_1.C 2)), vi (i64.wrap (Int.tdiv r_1.D 2))]) k_pl_63 k_zero_63 rfl (mpc rfl (mpc rfl (mpc rfl (mpc rfl mpn)))) rfl) ?_
 refine s0 (Ys_store (i := 1) (s := 4) (B := aD b1) (T' := 63) (v := .agg #[vi (i64.wrap (Int.tdiv r_1.A 2)), vi (i64.wrap (Int.tdiv r_1.B 2)), vi (i64.wrap (Int.tdiv r_1.C 2)), vi (i64.wrap (Int.tdiv r_1.D 2))]) (vs := [vi (i64.wrap (Int.tdiv r_1.A 2)), vi (i64.wrap (Int.tdiv r_1.B 2)), vi (i64.wrap (Int.tdiv r_1.C 2)), vi (i64.wrap (Int.tdiv r_1.D 2))]) (k := 0) (cs' := [vi (i64.wrap (Int.tdiv r_1.A 2)), vi (i64.wrap (Int.tdiv r_1.B 2)), vi (i64.wrap (Int.tdiv r_1.C 2)), vi (i64.wrap (Int.tdiv r_1.D 2))]) hS5 k_sz_63_4 rfl rfl rfl rfl rfl rfl rfl (lB rfl) rfl rfl) ?_
 rintro _ w_5 ⟨rfl, hS6⟩
 refine rw_nil (cw_ret ?_)
 obtain rfl := some_inj hF
 exact ret1 Tryz.results124 (v1 := .agg #[vi (i64.wrap (Int.tdiv r_1.A 2)), vi (i64.wrap (Int.tdiv r_1.B 2)), vi (i64.wrap (Int.tdiv r_1.C 2)), vi (i64.wrap (Int.tdiv r_1.D 2))]) (resAt_cellA (B := aD b1) (i := 0) (cs := [vi (i64.wrap (Int.tdiv r_1.A 2)), vi (i64.wrap (Int.tdiv r_1.B 2)), vi (i64.wrap (Int.tdiv r_1.C 2)), vi (i64.wrap (Int.tdiv r_1.D 2))]) (vs := [vi (i64.wrap (Int.tdiv r_1.A 2)), vi (i64.wrap (Int.tdiv r_1.B 2)), vi (i64.wrap (Int.tdiv r_1.C 2)), vi (i64.wrap (Int.tdiv r_1.D 2))]) rfl k_ag_63 k_sz_63_4 (hS6.cf (i := 1) rfl) rfl rfl) ⟨rfl, (hS6.sN [])⟩

theorem c_spec_l2Low (num : TRing) (exp : Int)  (w0 : World)  (hS : ST w0 [] w0 [] []) {r_ : TDyadic} (hF : F_spec_l2Low num exp = some r_) :
  CV Tryz.prog 91 #[gR_ num, vi exp] w0 (fun v w' => v = (gD_ r_) ∧ ST w0 [] w' [] []) := by
 unfold F_spec_l2Low at hF
 refine cv_of_cw 18 Tryz.func91 rfl Tryz.ntmps91 rfl ?_
 refine cw_seq (cw_region ?_)
 refine sS 2 (Ys_box (T := 63) (v := gR_ num) (cs := kR_ num) (m := 4) hS rfl rfl rfl rfl) ?_
 rintro _ w_ ⟨b, rfl, hS1⟩
 refine sS 4 (Ys_alloc (T := 65) (cs := kZ_) (m := 5) hS1 k_zero_65 rfl rfl rfl) ?_
 rintro _ w_1 ⟨b1, rfl, hS2⟩
 refine rw_nil (cw_seq ?_)
 obtain ⟨z, hz, hF1⟩ := bind_inv hF
 refine cw_block ?_
 refine cw_loop (fun k f w => ∃ (exp1 : Int) (A : Int) (B : Int) (C : Int) (D : Int), FF f [(1, vi exp1), (2, pt (aD b) 0), (4, pt (aD b1) 0)] ∧ ST w0 [] w [⟨aD b, 63, [vi A, vi B, vi C, vi D], 4⟩, ⟨aD b1, 65, kZ_, 5⟩] [] ∧ whX F_spec_l2Low_l1 k (exp1, A, B, C, D) = some z) fuel ⟨exp, num.A, num.B, num.C, num.D, (FF.cons rfl (FF.cons rfl (FF.cons rfl FF.nil))), (hS2.sel [0, 1] rfl rfl), hz⟩ ?_
 rintro k_ f w ⟨exp1, A, B, C, D, hf, hS3, hL⟩
 obtain ⟨k_1, y, rfl, hb, hL1⟩ := whX_go hL
 unfold F_spec_l2Low_l1 at hb
 refine cw_seq (cw_seq (cw_region ?_))
 refine sQ 5 (Y_move (v := vi exp1) rfl (hf.get 1 0 rfl)) ?_
 refine sQ 6 (Y_gt (k := .i64) (a := exp1) (b := 0) rfl rfl rfl) ?_
 refine sQ 7 (Y_move (v := .bool (decide (0 < exp1))) rfl rfl) ?_
 refine sgq 8 (B := (decide (0 < exp1))) (v := .agg #[vi A, vi B, vi C, vi D]) rfl rfl (wT 7) (fun hg => (Y_loadA (B := aD b) (i := 0) (cs := [vi A, vi B, vi C, vi D]) (vs := [vi A, vi B, vi C, vi D]) k_ag_63 k_sz_63_4 rfl (hf.get 2 1 rfl) (hS3.cf (i := 0) rfl) rfl rfl)) ?_
 obtain ⟨r_1, hc, hb⟩ := bind_inv hb
 refine sgc 9 (B := (decide (0 < exp1))) (v := .bool r_1) (F := hS3.fn) rfl rfl (wT 7) hS3 (fun hg1 => (Yc_func (g := 90) (vs := [.agg #[vi A, vi B, vi C, vi D]]) k_call_90 rfl (mc (gv_of (v := .agg #[vi A, vi B, vi C, vi D]) hg1) mn) (CV.mono (c_spec_l1Even (TRing.mk A B C D) _  (hS3.inn0 [] rfl) (gb_inv hc hg1)) (by rintro _ _ ⟨rfl, h⟩; exact ⟨rfl, hS3.out00 h⟩)))) ?_
 rintro w_2 hS4
 refine sQ 10 (Y_and (b := (decide (0 < exp1))) (z := r_1) rfl rfl rfl rfl) (rw_nil ?_)
 refine cw_cond (b := ((decide (0 < exp1)) && r_1)) rfl (fun hb1 => ?_) (fun hb1 => ?_)
 ·skip
  have hF2 := ct hb hb1
  refine cw_skip (cw_block (cw_seq (cw_region ?_)))
  refine sQ 11 (Y_loadA (B := aD b) (i := 0) (cs := [vi A, vi B, vi C, vi D]) (vs := [vi A, vi B, vi C, vi D]) k_ag_63 k_sz_63_4 rfl (hf.get 2 1 rfl) (hS4.cf (i := 0) rfl) rfl rfl) ?_
  obtain ⟨r_2, hc1, hF2⟩ := bind_inv hF2
  refine sc 12 rfl rfl (Yc_func (g := 124) (vs := [.agg #[vi A, vi B, vi C, vi D]]) k_call_124 rfl (mc rfl mn) (c_spec_l1Half (TRing.mk A B C D) _  (hS4.inn0 [] rfl) hc1)) ?_
  rintro _ w_3 ⟨rfl, hd⟩
  have hS5 := hS4.out00 hd
  refine s0 (Ys_store (i := 0) (s := 4) (B := aD b) (T' := 63) (v := gR_ r_2) (vs := kR_ r_2) (k := 0) (cs' := kR_ r_2) hS5 k_sz_63_4 rfl (hf.get 2 1 rfl) rfl rfl rfl rfl rfl (lB rfl) rfl rfl) ?_
  rintro _ w_4 ⟨rfl, hS6⟩
  refine rw_nil (cw_region ?_)
  refine sQ 13 (Y_move (v := vi exp1) rfl (hf.get 1 0 rfl)) ?_
  refine sQ 14 (Y_sub (k := .i64) (a := exp1) (b := 1) rfl rfl rfl) ?_
  refine sQ 1 (Y_assign (v := vi (i64.wrap (exp1 - 1))) rfl rfl) (rw_nil ?_)
  obtain rfl := some_inj hF2
  exact ⟨k_1, Nat.lt_succ_self _, (i64.wrap (exp1 - 1)), r_2.A, r_2.B, r_2.C, r_2.D, (FF.cons rfl (FF.cons (hf.get 2 1 rfl) (FF.cons (hf.get 4 2 rfl) FF.nil))), (hS6.sel [0, 1] rfl rfl), hL1⟩
 ·skip
  have hF3 := cf' hb hb1
  refine cw_exit rfl ?_
  obtain rfl := some_inj hF3
  obtain rfl := some_inj hL1
  refine cw_seq (cw_region ?_)
  refine sQ 15 (Y_loadA (B := aD b) (i := 0) (cs := [vi A, vi B, vi C, vi D]) (vs := [vi A, vi B, vi C, vi D]) k_ag_63 k_sz_63_4 rfl (hf.get 2 1 rfl) (hS4.cf (i := 0) rfl) rfl rfl) ?_
  refine sQ 16 (Y_move (v := vi exp1) rfl (hf.get 1 0 rfl)) ?_
  refine sQ 17 (Y_buildS (zs := kZ_) (vs := [(0, .agg #[vi A, vi B, vi C, vi D]), (1, vi exp1)]) (cs := [vi A, vi B, vi C, vi D, vi exp1]) k_pl_65 k_zero_65 rfl (mpc rfl (mpc rfl mpn)) rfl) ?_
  refine s0 (Ys_store (i := 1) (s := 5) (B := aD b1) (T' := 65) (v := .agg #[vi A, vi B, vi C, vi D, vi exp1]) (vs := [vi A, vi B, vi C, vi D, vi exp1]) (k := 0) (cs' := [vi A, vi B, vi C, vi D, vi exp1]) hS4 k_sz_65_5 rfl (hf.get 4 2 rfl) rfl rfl rfl rfl rfl (lB rfl) rfl rfl) ?_
  rintro _ w_5 ⟨rfl, hS7⟩
  refine rw_nil (cw_ret ?_)
  obtain rfl := some_inj hF1
  exact ret1 Tryz.results91 (v1 := .agg #[vi A, vi B, vi C, vi D, vi exp1]) (resAt_cellA (B := aD b1) (i := 0) (cs := [vi A, vi B, vi C, vi D, vi exp1]) (vs := [vi A, vi B, vi C, vi D, vi exp1]) (hf.get 4 2 rfl) k_ag_65 k_sz_65_5 (hS7.cf (i := 1) rfl) rfl rfl) ⟨rfl, (hS7.sN [])⟩

theorem c_spec_l2C_ring (c : Tl2C) (x : TRing) (B : Option Addr) (w0 : World)  (hS : ST w0 (bl [⟨B, 82, [.bool c.bad], 1⟩]) w0 [⟨B, 82, [.bool c.bad], 1⟩] []) {r_ : TRing} {m : Tl2C} (hF : F_spec_l2C_ring c x = some (r_, m)) :
  CV Tryz.prog 92 #[pt B 0, gR_ x] w0 (fun v w' => v = (gR_ r_) ∧ ST w0 (bl [⟨B, 82, [.bool c.bad], 1⟩]) w' [⟨B, 82, [.bool m.bad], 1⟩] []) := by
 unfold F_spec_l2C_ring at hF
 refine cv_of_cw 13 Tryz.func92 rfl Tryz.ntmps92 rfl ?_
 refine cw_seq (cw_region ?_)
 refine sS 3 (Ys_box (T := 63) (v := gR_ x) (cs := kR_ x) (m := 4) hS rfl rfl rfl rfl) ?_
 rintro _ w_ ⟨b, rfl, hS1⟩
 refine sS 4 (Ys_alloc (T := 63) (cs := [vi 0, vi 0, vi 0, vi 0]) (m := 4) hS1 k_zero_63 rfl rfl rfl) ?_
 rintro _ w_1 ⟨b1, rfl, hS2⟩
 refine rw_nil (cw_seq (cw_seq (cw_region ?_)))
 refine sQ 5 (Y_loadA (B := aD b) (i := 0) (cs := kR_ x) (vs := kR_ x) k_ag_63 k_sz_63_4 rfl rfl (hS2.cf (i := 1) rfl) rfl rfl) ?_
 obtain ⟨r_1, hc, hF⟩ := bind_inv hF
 refine sc 6 rfl rfl (Yc_func (g := 89) (vs := [gR_ x]) k_call_89 rfl (mc rfl mn) (c_spec_l1Good x _  (hS2.inn0 [] rfl) hc)) ?_
 rintro _ w_2 ⟨rfl, hd⟩
 have hS3 := hS2.out00 hd
 refine sQ 7 (Y_not (p := r_1) rfl rfl) (rw_nil ?_)
 refine cw_cond (b := (!r_1)) rfl (fun hb => ?_) (fun hb => ?_)
 ·skip
  have hF1 := ct hF hb
  refine cw_seq (cw_region ?_)
  refine sQ 8 (Y_move (v := pt B 0) rfl rfl) ?_
  refine sQ 9 (Y_nilCheck (B := B) (i := 0) rfl rfl) ?_
  refine sQ 10 (Y_fieldAddr (B := B) (i := 0) (s := 0) k_fd_82_0_0_4 k_sz_4_1 rfl rfl) ?_
  refine s0 (Ys_store (i := 0) (s := 1) (B := B) (T' := 82) (v := .bool true) (vs := [.bool true]) (k := 0) (cs' := [.bool true]) hS3 k_sz_4_1 rfl rfl rfl rfl rfl rfl rfl (lB rfl) rfl rfl) ?_
  rintro _ w_3 ⟨rfl, hS4⟩
  refine rw_nil (cw_seq (cw_region ?_))
  refine sQ 11 (Y_buildS (zs := [vi 0, vi 0, vi 0, vi 0]) (vs := []) (cs := [vi 0, vi 0, vi 0, vi 0]) k_pl_63 k_zero_63 rfl mpn rfl) ?_
  refine s0 (Ys_store (i := 2) (s := 4) (B := aD b1) (T' := 63) (v := .agg #[vi 0, vi 0, vi 0, vi 0]) (vs := [vi 0, vi 0, vi 0, vi 0]) (k := 0) (cs' := [vi 0, vi 0, vi 0, vi 0]) hS4 k_sz_63_4 rfl rfl rfl rfl rfl rfl rfl (lB rfl) rfl rfl) ?_
  rintro _ w_4 ⟨rfl, hS5⟩
  refine rw_nil (cw_ret ?_)
  obtain ⟨rfl, rfl⟩ := pr2 (some_inj hF1)
  exact ret1 Tryz.results92 (v1 := .agg #[vi 0, vi 0, vi 0, vi 0]) (resAt_cellA (B := aD b1) (i := 0) (cs := [vi 0, vi 0, vi 0, vi 0]) (vs := [vi 0, vi 0, vi 0, vi 0]) rfl k_ag_63 k_sz_63_4 (hS5.cf (i := 2) rfl) rfl rfl) ⟨rfl, (hS5.sN [0])⟩
 ·skip
  have hF2 := cf' hF hb
  refine cw_skip (cw_seq (cw_region ?_))
  refine sQ 12 (Y_loadA (B := aD b) (i := 0) (cs := kR_ x) (vs := kR_ x) k_ag_63 k_sz_63_4 rfl rfl (hS3.cf (i := 1) rfl) rfl rfl) ?_
  refine s0 (Ys_store (i := 2) (s := 4) (B := aD b1) (T' := 63) (v := gR_ x) (vs := kR_ x) (k := 0) (cs' := kR_ x) hS3 k_sz_63_4 rfl rfl rfl rfl rfl rfl rfl (lB rfl) rfl rfl) ?_
  rintro _ w_5 ⟨rfl, hS6⟩
  refine rw_nil (cw_ret ?_)
  obtain ⟨rfl, rfl⟩ := pr2 (some_inj hF2)
  exact ret1 Tryz.results92 (v1 := gR_ x) (resAt_cellA (B := aD b1) (i := 0) (cs := kR_ x) (vs := kR_ x) rfl k_ag_63 k_sz_63_4 (hS6.cf (i := 2) rfl) rfl rfl) ⟨rfl, (hS6.sN [0])⟩

theorem c_spec_l1Mul (x : TRing) (y : TRing)  (w0 : World)  (hS : ST w0 [] w0 [] []) {r_ : TRing} (hF : F_spec_l1Mul x y = some r_) :
  CV Tryz.prog 93 #[gR_ x, gR_ y] w0 (fun v w' => v = (gR_ r_) ∧ ST w0 [] w' [] []) := by
 unfold F_spec_l1Mul at hF
 refine cv_of_cw 98 Tryz.func93 rfl Tryz.ntmps93 rfl ?_
 refine cw_seq (cw_region ?_)
 refine sS 2 (Ys_box (T := 63) (v := gR_ x) (cs := kR_ x) (m := 4) hS rfl rfl rfl rfl) ?_
 rintro _ w_ ⟨b, rfl, hS1⟩
 refine sS 3 (Ys_box (T := 63) (v := gR_ y) (cs := kR_ y) (m := 4) hS1 rfl rfl rfl rfl) ?_
 rintro _ w_1 ⟨b1, rfl, hS2⟩
 refine sS 4 (Ys_alloc (T := 63) (cs := [vi 0, vi 0, vi 0, vi 0]) (m := 4) hS2 k_zero_63 rfl rfl rfl) ?_
 rintro _ w_2 ⟨b2, rfl, hS3⟩
 refine rw_nil (cw_seq (cw_region ?_))
 refine sQ 5 (Y_fieldAddr (B := aD b) (i := 0) (s := 0) k_fd_63_0_0_3 k_sz_3_1 rfl rfl) ?_
 refine sQ 6 (Y_load1 (B := aD b) (i := 0) (cs := kR_ x) (v := vi x.A) k_sc_3 rfl rfl (hS3.cf (i := 0) rfl) rfl) ?_
 refine sQ 7 (Y_fieldAddr (B := aD b1) (i := 0) (s := 0) k_fd_63_0_0_3 k_sz_3_1 rfl rfl) ?_
 refine sQ 8 (Y_load1 (B := aD b1) (i := 0) (cs := kR_ y) (v := vi y.A) k_sc_3 rfl rfl (hS3.cf (i := 1) rfl) rfl) ?_
 refine sQ 9 (Y_mul (k := .i64) (a := x.A) (b := y.A) rfl rfl rfl) ?_
 refine sQ 10 (Y_fieldAddr (B := aD b) (i := 0) (s := 0) k_fd_63_1_1_3 k_sz_3_1 rfl rfl) ?_
 refine sQ 11 (Y_load1 (B := aD b) (i := 1) (cs := kR_ x) (v := vi x.B) k_sc_3 rfl rfl (hS3.cf (i := 0) rfl) rfl) ?_
 refine sQ 12 (Y_fieldAddr (B := aD b1) (i := 0) (s := 0) k_fd_63_3_3_3 k_sz_3_1 rfl rfl) ?_
 refine sQ 13 (Y_load1 (B := aD b1) (i := 3) (cs := kR_ y) (v := vi y.D) k_sc_3 rfl rfl (hS3.cf (i := 1) rfl) rfl) ?_
 refine sQ 14 (Y_mul (k := .i64) (a := x.B) (b := y.D) rfl rfl rfl) ?_
 refine sQ 15 (Y_sub (k := .i64) (a := (i64.wrap (x.A * y.A))) (b := (i64.wrap (x.B * y.D))) rfl rfl rfl) ?_
 refine sQ 16 (Y_fieldAddr (B := aD b) (i := 0) (s := 0) k_fd_63_2_2_3 k_sz_3_1 rfl rfl) ?_
 refine sQ 17 (Y_load1 (B := aD b) (i := 2) (cs := kR_ x) (v := vi x.C) k_sc_3 rfl rfl (hS3.cf (i := 0) rfl) rfl) ?_
 refine sQ 18 (Y_fieldAddr (B := aD b1) (i := 0) (s := 0) k_fd_63_2_2_3 k_sz_3_1 rfl rfl) ?_
 refine sQ 19 (Y_load1 (B := aD b1) (i := 2) (cs := kR_ y) (v := vi y.C) k_sc_3 rfl rfl (hS3.cf (i := 1) rfl) rfl) ?_
 refine sQ 20 (Y_mul (k := .i64) (a := x.C) (b := y.C) rfl rfl rfl) ?_
 refine sQ 21 (Y_sub (k := .i64) (a := (i64.wrap ((i64.wrap (x.A * y.A)) - (i64.wrap (x.B * y.D))))) (b := (i64.wrap (x.C * y.C))) rfl rfl rfl) ?_
 refine sQ 22 (Y_fieldAddr (B := aD b) (i := 0) (s := 0) k_fd_63_3_3_3 k_sz_3_1 rfl rfl) ?_
 refine sQ 23 (Y_load1 (B := aD b) (i := 3) (cs := kR_ x) (v := vi x.D) k_sc_3 rfl rfl (hS3.cf (i := 0) rfl) rfl) ?_
 refine sQ 24 (Y_fieldAddr (B := aD b1) (i := 0) (s := 0) k_fd_63_1_1_3 k_sz_3_1 rfl rfl) ?_
 refine sQ 25 (Y_load1 (B := aD b1) (i := 1) (cs := kR_ y) (v := vi y.B) k_sc_3 rfl rfl (hS3.cf (i := 1) rfl) rfl) ?_
 refine sQ 26 (Y_mul (k := .i64) (a := x.D) (b := y.B) rfl rfl rfl) ?_
 refine sQ 27 (Y_sub (k := .i64) (a := (i64.wrap ((i64.wrap ((i64.wrap (x.A * y.A)) - (i64.wrap (x.B * y.D)))) - (i64.wrap (x.C * y.C))))) (b := (i64.wrap (x.D * y.B))) rfl rfl rfl) ?_
 refine sQ 28 (Y_fieldAddr (B := aD b) (i := 0) (s := 0) k_fd_63_0_0_3 k_sz_3_1 rfl rfl) ?_
 refine sQ 29 (Y_load1 (B := aD b) (i := 0) (cs := kR_ x) (v := vi x.A) k_sc_3 rfl rfl (hS3.cf (i := 0) rfl) rfl) ?_
 refine sQ 30 (Y_fieldAddr (B := aD b1) (i := 0) (s := 0) k_fd_63_1_1_3 k_sz_3_1 rfl rfl) ?_
 refine sQ 31 (Y_load1 (B := aD b1) (i := 1) (cs := kR_ y) (v := vi y.B) k_sc_3 rfl rfl (hS3.cf (i := 1) rfl) rfl) ?_
 refine sQ 32 (Y_mul (k := .i64) (a := x.A) (b := y.B) rfl rfl rfl) ?_
 refine sQ 33 (Y_fieldAddr (B := aD b) (i := 0) (s := 0) k_fd_63_1_1_3 k_sz_3_1 rfl rfl) ?_
 refine sQ 34 (Y_load1 (B := aD b) (i := 1) (cs := kR_ x) (v := vi x.B) k_sc_3 rfl rfl (hS3.cf (i := 0) rfl) rfl) ?_
 refine sQ 35 (Y_fieldAddr (B := aD b1) (i := 0) (s := 0) k_fd_63_0_0_3 k_sz_3_1 rfl rfl) ?_
 refine sQ 36 (Y_load1 (B := aD b1) (i := 0) (cs := kR_ y) (v := vi y.A) k_sc_3 rfl rfl (hS3.cf (i := 1) rfl) rfl) ?_
 refine sQ 37 (Y_mul (k := .i64) (a := x.B) (b := y.A) rfl rfl rfl) ?_
 refine sQ 38 (Y_add (k := .i64) (a := (i64.wrap (x.A * y.B))) (b := (i64.wrap (x.B * y.A))) rfl rfl rfl) ?_
 refine sQ 39 (Y_fieldAddr (B := aD b) (i := 0) (s := 0) k_fd_63_2_2_3 k_sz_3_1 rfl rfl) ?_
 refine sQ 40 (Y_load1 (B := aD b) (i := 2) (cs := kR_ x) (v := vi x.C) k_sc_3 rfl rfl (hS3.cf (i := 0) rfl) rfl) ?_
 refine sQ 41 (Y_fieldAddr (B := aD b1) (i := 0) (s := 0) k_fd_63_3_3_3 k_sz_3_1 rfl rfl) ?_
 refine sQ 42 (Y_load1 (B := aD b1) (i := 3) (cs := kR_ y) (v := vi y.D) k_sc_3 rfl rfl (hS3.cf (i := 1) rfl) rfl) ?_
 refine sQ 43 (Y_mul (k := .i64) (a := x.C) (b := y.D) rfl rfl rfl) ?_
 refine sQ 44 (Y_sub (k := .i64) (a := (i64.wrap ((i64.wrap (x.A * y.B)) + (i64.wrap (x.B * y.A))))) (b := (i64.wrap (x.C * y.D))) rfl rfl rfl) ?_
 refine sQ 45 (Y_fieldAddr (B := aD b) (i := 0) (s := 0) k_fd_63_3_3_3 k_sz_3_1 rfl rfl) ?_
 refine sQ 46 (Y_load1 (B := aD b) (i := 3) (cs := kR_ x) (v := vi x.D) k_sc_3 rfl rfl (hS3.cf (i := 0) rfl) rfl) ?_
 refine sQ 47 (Y_fieldAddr (B := aD b1) (i := 0) (s := 0) k_fd_63_2_2_3 k_sz_3_1 rfl rfl) ?_
 refine sQ 48 (Y_load1 (B := aD b1) (i := 2) (cs := kR_ y) (v := vi y.C) k_sc_3 rfl rfl (hS3.cf (i := 1) rfl) rfl) ?_
 refine sQ 49 (Y_mul (k := .i64) (a := x.D) (b := y.C) rfl rfl rfl) ?_
 refine sQ 50 (Y_sub (k := .i64) (a := (i64.wrap ((i64.wrap ((i64.wrap (x.A * y.B)) + (i64.wrap (x.B * y.A)))) - (i64.wrap (x.C * y.D))))) (b := (i64.wrap (x.D * y.C))) rfl rfl rfl) ?_
 refine sQ 51 (Y_fieldAddr (B := aD b) (i := 0) (s := 0) k_fd_63_0_0_3 k_sz_3_1 rfl rfl) ?_
 refine sQ 52 (Y_load1 (B := aD b) (i := 0) (cs := kR_ x) (v := vi x.A) k_sc_3 rfl rfl (hS3.cf (i := 0) rfl) rfl) ?_
 refine sQ 53 (Y_fieldAddr (B := aD b1) (i := 0) (s := 0) k_fd_63_2_2_3 k_sz_3_1 rfl rfl) ?_
 refine sQ 54 (Y_load1 (B := aD b1) (i := 2) (cs := kR_ y) (v := vi y.C) k_sc_3 rfl rfl (hS3.cf (i := 1) rfl) rfl) ?_
 refine sQ 55 (Y_mul (k := .i64) (a := x.A) (b := y.C) rfl rfl rfl) ?_
 refine sQ 56 (Y_fieldAddr (B := aD b) (i := 0) (s := 0) k_fd_63_1_1_3 k_sz_3_1 rfl rfl) ?_
 refine sQ 57 (Y_load1 (B := aD b) (i := 1) (cs := kR_ x) (v := vi x.B) k_sc_3 rfl rfl (hS3.cf (i := 0) rfl) rfl) ?_
 refine sQ 58 (Y_fieldAddr (B := aD b1) (i := 0) (s := 0) k_fd_63_1_1_3 k_sz_3_1 rfl rfl) ?_
 refine sQ 59 (Y_load1 (B := aD b1) (i := 1) (cs := kR_ y) (v := vi y.B) k_sc_3 rfl rfl (hS3.cf (i := 1) rfl) rfl) ?_
 refine sQ 60 (Y_mul (k := .i64) (a := x.B) (b := y.B) rfl rfl rfl) ?_
 refine sQ 61 (Y_add (k := .i64) (a := (i64.wrap (x.A * y.C))) (b := (i64.wrap (x.B * y.B))) rfl rfl rfl) ?_
 refine sQ 62 (Y_fieldAddr (B := aD b) (i := 0) (s := 0) k_fd_63_2_2_3 k_sz_3_1 rfl rfl) ?_
 refine sQ 63 (Y_load1 (B := aD b) (i := 2) (cs := kR_ x) (v := vi x.C) k_sc_3 rfl rfl (hS3.cf (i := 0) rfl) rfl) ?_
 refine sQ 64 (Y_fieldAddr (B := aD b1) (i := 0) (s := 0) k_fd_63_0_0_3 k_sz_3_1 rfl rfl) ?_
 refine sQ 65 (Y_load1 (B := aD b1) (i := 0) (cs := kR_ y) (v := vi y.A) k_sc_3 rfl rfl (hS3.cf (i := 1) rfl) rfl) ?_
 refine sQ 66 (Y_mul (k := .i64) (a := x.C) (b := y.A) rfl rfl rfl) ?_
 refine sQ 67 (Y_add (k := .i64) (a := (i64.wrap ((i64.wrap (x.A * y.C)) + (i64.wrap (x.B * y.B))))) (b := (i64.wrap (x.C * y.A))) rfl rfl rfl) ?_
 refine sQ 68 (Y_fieldAddr (B := aD b) (i := 0) (s := 0) k_fd_63_3_3_3 k_sz_3_1 rfl rfl) ?_
 refine sQ 69 (Y_load1 (B := aD b) (i := 3) (cs := kR_ x) (v := vi x.D) k_sc_3 rfl rfl (hS3.cf (i := 0) rfl) rfl) ?_
 refine sQ 70 (Y_fieldAddr (B := aD b1) (i := 0) (s := 0) k_fd_63_3_3_3 k_sz_3_1 rfl rfl) ?_
 refine sQ 71 (Y_load1 (B := aD b1) (i := 3) (cs := kR_ y) (v := vi y.D) k_sc_3 rfl rfl (hS3.cf (i := 1) rfl) rfl) ?_
 refine sQ 72 (Y_mul (k := .i64) (a := x.D) (b := y.D) rfl rfl rfl) ?_
 refine sQ 73 (Y_sub (k := .i64) (a := (i64.wrap ((i64.wrap ((i64.wrap (x.A * y.C)) + (i64.wrap (x.B * y.B)))) + (i64.wrap (x.C * y.A))))) (b := (i64.wrap (x.D * y.D))) rfl rfl rfl) ?_
 refine sQ 74 (Y_fieldAddr (B := aD b) (i := 0) (s := 0) k_fd_63_0_0_3 k_sz_3_1 rfl rfl) ?_
 refine sQ 75 (Y_load1 (B := aD b) (i := 0) (cs := kR_ x) (v := vi x.A) k_sc_3 rfl rfl (hS3.cf (i := 0) rfl) rfl) ?_
 refine sQ 76 (Y_fieldAddr (B := aD b1) (i := 0) (s := 0) k_fd_63_3_3_3 k_sz_3_1 rfl rfl) ?_
 refine sQ 77 (Y_load1 (B := aD b1) (i := 3) (cs := kR_ y) (v := vi y.D) k_sc_3 rfl rfl (hS3.cf (i := 1) rfl) rfl) ?_
 refine sQ 78 (Y_mul (k := .i64) (a := x.A) (b := y.D) rfl rfl rfl) ?_
 refine sQ 79 (Y_fieldAddr (B := aD b) (i := 0) (s := 0) k_fd_63_1_1_3 k_sz_3_1 rfl rfl) ?_
 refine sQ 80 (Y_load1 (B := aD b) (i := 1) (cs := kR_ x) (v := vi x.B) k_sc_3 rfl rfl (hS3.cf (i := 0) rfl) rfl) ?_
 refine sQ 81 (Y_fieldAddr (B := aD b1) (i := 0) (s := 0) k_fd_63_2_2_3 k_sz_3_1 rfl rfl) ?_
 refine sQ 82 (Y_load1 (B := aD b1) (i := 2) (cs := kR_ y) (v := vi y.C) k_sc_3 rfl rfl (hS3.cf (i := 1) rfl) rfl) ?_
 refine sQ 83 (Y_mul (k := .i64) (a := x.B) (b := y.C) rfl rfl rfl) ?_
 refine sQ 84 (Y_add (k := .i64) (a := (i64.wrap (x.A * y.D))) (b := (i64.wrap (x.B * y.C))) rfl rfl rfl) ?_
 refine sQ 85 (Y_fieldAddr (B := aD b) (i := 0) (s := 0) k_fd_63_2_2_3 k_sz_3_1 rfl rfl) ?_
 refine sQ 86 (Y_load1 (B := aD b) (i := 2) (cs := kR_ x) (v := vi x.C) k_sc_3 rfl rfl (hS3.cf (i := 0) rfl) rfl) ?_
 refine sQ 87 (Y_fieldAddr (B := aD b1) (i := 0) (s := 0) k_fd_63_1_1_3 k_sz_3_1 rfl rfl) ?_
 refine sQ 88 (Y_load1 (B := aD b1) (i := 1) (cs := kR_ y) (v := vi y.B) k_sc_3 rfl rfl (hS3.cf (i := 1) rfl) rfl) ?_
 refine sQ 89 (Y_mul (k := .i64) (a := x.C) (b := y.B) rfl rfl rfl) ?_
 refine sQ 90 (Y_add (k := .i64) (a := (i64.wrap ((i64.wrap (x.A * y.D)) + (i64.wrap (x.B * y.C))))) (b := (i64.wrap (x.C * y.B))) rfl rfl rfl) ?_
 refine sQ 91 (Y_fieldAddr (B := aD b) (i := 0) (s := 0) k_fd_63_3_3_3 k_sz_3_1 rfl rfl) ?_
 refine sQ 92 (Y_load1 (B := aD b) (i := 3) (cs := kR_ x) (v := vi x.D) k_sc_3 rfl rfl (hS3.cf (i := 0) rfl) rfl) ?_
 refine sQ 93 (Y_fieldAddr (B := aD b1) (i := 0) (s := 0) k_fd_63_0_0_3 k_sz_3_1 rfl rfl) ?_
 refine sQ 94 (Y_load1 (B := aD b1) (i := 0) (cs := kR_ y) (v := vi y.A) k_sc_3 rfl rfl (hS3.cf (i := 1) rfl) rfl) ?_
 refine sQ 95 (Y_mul (k := .i64) (a := x.D) (b := y.A) rfl rfl rfl) ?_
 refine sQ 96 (Y_add (k := .i64) (a := (i64.wrap ((i64.wrap ((i64.wrap (x.A * y.D)) + (i64.wrap (x.B * y.C)))) + (i64.wrap (x.C * y.B))))) (b := (i64.wrap (x.D * y.A))) rfl rfl rfl) ?_
 refine sQ 97 (Y_buildS (zs := [vi 0, vi 0, vi 0, vi 0]) (vs := [(0, vi (i64.wrap ((i64.wrap ((i64.wrap ((i64.wrap (x.A * y.A)) - (i64.wrap (x.B * y.D)))) - (i64.wrap (x.C * y.C)))) - (i64.wrap (x.D * y.B))))), (1, vi (i64.wrap ((i64.wrap ((i64.wrap ((i64.wrap (x.A * y.B)) + (i64.wrap (x.B * y.A)))) - (i64.wrap (x.C * y.D)))) - (i64.wrap (x.D * y.C))))), (2, vi (i64.wrap ((i64.wrap ((i64.wrap ((i64.wrap (x.A * y.C)) + (i64.wrap (x.B * y.B)))) + (i64.wrap (x.C * y.A)))) - (i64.wrap (x.D * y.D))))), (3, vi (i64.wrap ((i64.wrap ((i64.wrap ((i64.wrap (x.A * y.D)) + (i64.wrap (x.B * y.C)))) + (i64.wrap (x.C * y.B)))) + (i64.wrap (x.D * y.A)))))]) (cs := [vi (i64.wrap ((i64.wrap ((i64.wrap ((i64.wrap (x.A * y.A)) - (i64.wrap (x.B * y.D)))) - (i64.wrap (x.C * y.C)))) - (i64.wrap (x.D * y.B)))), vi (i64.wrap ((i64.wrap ((i64.wrap ((i64.wrap (x.A * y.B)) + (i64.wrap (x.B * y.A)))) - (i64.wrap (x.C * y.D)))) - (i64.wrap (x.D * y.C)))), vi (i64.wrap ((i64.wrap ((i64.wrap ((i64.wrap (x.A * y.C)) + (i64.wrap (x.B * y.B)))) + (i64.wrap (x.C * y.A)))) - (i64.wrap (x.D * y.D)))), vi (i64.wrap ((i64.wrap ((i64.wrap ((i64.wrap (x.A * y.D)) + (i64.wrap (x.B * y.C)))) + (i64.wrap (x.C * y.B)))) + (i64.wrap (x.D * y.A))))]) k_pl_63 k_zero_63 rfl (mpc rfl (mpc rfl (mpc rfl (mpc rfl mpn)))) rfl) ?_
 refine s0 (Ys_store (i := 2) (s := 4) (B := aD b2) (T' := 63) (v := .agg #[vi (i64.wrap ((i64.wrap ((i64.wrap ((i64.wrap (x.A * y.A)) - (i64.wrap (x.B * y.D)))) - (i64.wrap (x.C * y.C)))) - (i64.wrap (x.D * y.B)))), vi (i64.wrap ((i64.wrap ((i64.wrap ((i64.wrap (x.A * y.B)) + (i64.wrap (x.B * y.A)))) - (i64.wrap (x.C * y.D)))) - (i64.wrap (x.D * y.C)))), vi (i64.wrap ((i64.wrap ((i64.wrap ((i64.wrap (x.A * y.C)) + (i64.wrap (x.B * y.B)))) + (i64.wrap (x.C * y.A)))) - (i64.wrap (x.D * y.D)))), vi (i64.wrap ((i64.wrap ((i64.wrap ((i64.wrap (x.A * y.D)) + (i64.wrap (x.B * y.C)))) + (i64.wrap (x.C * y.B)))) + (i64.wrap (x.D * y.A))))]) (vs := [vi (i64.wrap ((i64.wrap ((i64.wrap ((i64.wrap (x.A * y.A)) - (i64.wrap (x.B * y.D)))) - (i64.wrap (x.C * y.C)))) - (i64.wrap (x.D * y.B)))), vi (i64.wrap ((i64.wrap ((i64.wrap ((i64.wrap (x.A * y.B)) + (i64.wrap (x.B * y.A)))) - (i64.wrap (x.C * y.D)))) - (i64.wrap (x.D * y.C)))), vi (i64.wrap ((i64.wrap ((i64.wrap ((i64.wrap (x.A * y.C)) + (i64.wrap (x.B * y.B)))) + (i64.wrap (x.C * y.A)))) - (i64.wrap (x.D * y.D)))), vi (i64.wrap ((i64.wrap ((i64.wrap ((i64.wrap (x.A * y.D)) + (i64.wrap (x.B * y.C)))) + (i64.wrap (x.C * y.B)))) + (i64.wrap (x.D * y.A))))]) (k := 0) (cs' := [vi (i64.wrap ((i64.wrap ((i64.wrap ((i64.wrap (x.A * y.A)) - (i64.wrap (x.B * y.D)))) - (i64.wrap (x.C * y.C)))) - (i64.wrap (x.D * y.B)))), vi (i64.wrap ((i64.wrap ((i64.wrap ((i64.wrap (x.A * y.B)) + (i64.wrap (x.B * y.A)))) - (i64.wrap (x.C * y.D)))) - (i64.wrap (x.D * y.C)))), vi (i64.wrap ((i64.wrap ((i64.wrap ((i64.wrap (x.A * y.C)) + (i64.wrap (x.B * y.B)))) + (i64.wrap (x.C * y.A)))) - (i64.wrap (x.D * y.D)))), vi (i64.wrap ((i64.wrap ((i64.wrap ((i64.wrap (x.A * y.D)) + (i64.wrap (x.B * y.C)))) + (i64.wrap (x.C * y.B)))) + (i64.wrap (x.D * y.A))))]) hS3 k_sz_63_4 rfl rfl rfl rfl rfl rfl rfl (lB rfl) rfl rfl) ?_
 rintro _ w_3 ⟨rfl, hS4⟩
 refine rw_nil (cw_ret ?_)
 obtain rfl := some_inj hF
 exact ret1 Tryz.results93 (v1 := .agg #[vi (i64.wrap ((i64.wrap ((i64.wrap ((i64.wrap (x.A * y.A)) - (i64.wrap (x.B * y.D)))) - (i64.wrap (x.C * y.C)))) - (i64.wrap (x.D * y.B)))), vi (i64.wrap ((i64.wrap ((i64.wrap ((i64.wrap (x.A * y.B)) + (i64.wrap (x.B * y.A)))) - (i64.wrap (x.C * y.D)))) - (i64.wrap (x.D * y.C)))), vi (i64.wrap ((i64.wrap ((i64.wrap ((i64.wrap (x.A * y.C)) + (i64.wrap (x.B * y.B)))) + (i64.wrap (x.C * y.A)))) - (i64.wrap (x.D * y.D)))), vi (i64.wrap ((i64.wrap ((i64.wrap ((i64.wrap (x.A * y.D)) + (i64.wrap (x.B * y.C)))) + (i64.wrap (x.C * y.B)))) + (i64.wrap (x.D * y.A))))]) (resAt_cellA (B := aD b2) (i := 0) (cs := [vi (i64.wrap ((i64.wrap ((i64.wrap ((i64.wrap (x.A * y.A)) - (i64.wrap (x.B * y.D)))) - (i64.wrap (x.C * y.C)))) - (i64.wrap (x.D * y.B)))), vi (i64.wrap ((i64.wrap ((i64.wrap ((i64.wrap (x.A * y.B)) + (i64.wrap (x.B * y.A)))) - (i64.wrap (x.C * y.D)))) - (i64.wrap (x.D * y.C)))), vi (i64.wrap ((i64.wrap ((i64.wrap ((i64.wrap (x.A * y.C)) + (i64.wrap (x.B * y.B)))) + (i64.wrap (x.C * y.A)))) - (i64.wrap (x.D * y.D)))), vi (i64.wrap ((i64.wrap ((i64.wrap ((i64.wrap (x.A * y.D)) + (i64.wrap (x.B * y.C)))) + (i64.wrap (x.C * y.B)))) + (i64.wrap (x.D * y.A))))]) (vs := [vi (i64.wrap ((i64.wrap ((i64.wrap ((i64.wrap (x.A * y.A)) - (i64.wrap (x.B * y.D)))) - (i64.wrap (x.C * y.C)))) - (i64.wrap (x.D * y.B)))), vi (i64.wrap ((i64.wrap ((i64.wrap ((i64.wrap (x.A * y.B)) + (i64.wrap (x.B * y.A)))) - (i64.wrap (x.C * y.D)))) - (i64.wrap (x.D * y.C)))), vi (i64.wrap ((i64.wrap ((i64.wrap ((i64.wrap (x.A * y.C)) + (i64.wrap (x.B * y.B)))) + (i64.wrap (x.C * y.A)))) - (i64.wrap (x.D * y.D)))), vi (i64.wrap ((i64.wrap ((i64.wrap ((i64.wrap (x.A * y.D)) + (i64.wrap (x.B * y.C)))) + (i64.wrap (x.C * y.B)))) + (i64.wrap (x.D * y.A))))]) rfl k_ag_63 k_sz_63_4 (hS4.cf (i := 2) rfl) rfl rfl) ⟨rfl, (hS4.sN [])⟩

theorem c_spec_l2C_mul (c : Tl2C) (x : TDyadic) (y : TDyadic) (B : Option Addr) (w0 : World)  (hS : ST w0 (bl [⟨B, 82, [.bool c.bad], 1⟩]) w0 [⟨B, 82, [.bool c.bad], 1⟩] []) {r_ : TDyadic} {m : Tl2C} (hF : F_spec_l2C_mul c x y = some (r_, m)) :
  CV Tryz.prog 48 #[pt B 0, gD_ x, gD_ y] w0 (fun v w' => v = (gD_ r_) ∧ ST w0 (bl [⟨B, 82, [.bool c.bad], 1⟩]) w' [⟨B, 82, [.bool m.bad], 1⟩] []) := by
 unfold F_spec_l2C_mul at hF
 refine cv_of_cw 30 Tryz.func48 rfl Tryz.ntmps48 rfl ?_
 refine cw_seq (cw_region ?_)
 refine sS 4 (Ys_box (T := 65) (v := gD_ x) (cs := kD_ x) (m := 5) hS rfl rfl rfl rfl) ?_
 rintro _ w_ ⟨b, rfl, hS1⟩
 refine sS 5 (Ys_box (T := 65) (v := gD_ y) (cs := kD_ y) (m := 5) hS1 rfl rfl rfl rfl) ?_
 rintro _ w_1 ⟨b1, rfl, hS2⟩
 refine sS 6 (Ys_alloc (T := 65) (cs := kZ_) (m := 5) hS2 k_zero_65 rfl rfl rfl) ?_
 rintro _ w_2 ⟨b2, rfl, hS3⟩
 refine rw_nil (cw_seq (cw_seq (cw_region ?_)))
 refine sQ 7 (Y_fieldAddr (B := aD b) (i := 0) (s := 0) k_fd_65_1_4_3 k_sz_3_1 rfl rfl) ?_
 refine sQ 8 (Y_load1 (B := aD b) (i := 4) (cs := kD_ x) (v := vi x.Exp) k_sc_3 rfl rfl (hS3.cf (i := 1) rfl) rfl) ?_
 refine sQ 9 (Y_fieldAddr (B := aD b1) (i := 0) (s := 0) k_fd_65_1_4_3 k_sz_3_1 rfl rfl) ?_
 refine sQ 10 (Y_load1 (B := aD b1) (i := 4) (cs := kD_ y) (v := vi y.Exp) k_sc_3 rfl rfl (hS3.cf (i := 2) rfl) rfl) ?_
 refine sQ 11 (Y_add (k := .i64) (a := x.Exp) (b := y.Exp) rfl rfl rfl) ?_
 refine sQ 12 (Y_gt (k := .i64) (a := (i64.wrap (x.Exp + y.Exp))) (b := 60) rfl rfl rfl) (rw_nil ?_)
 refine cw_cond (b := (decide (60 < (i64.wrap (x.Exp + y.Exp))))) rfl (fun hb => ?_) (fun hb => ?_)
 ·skip
  have hF1 := ct hF hb
  refine cw_seq (cw_region ?_)
  refine sQ 13 (Y_move (v := pt B 0) rfl rfl) ?_
  refine sQ 14 (Y_nilCheck (B := B) (i := 0) rfl rfl) ?_
  refine sQ 15 (Y_fieldAddr (B := B) (i := 0) (s := 0) k_fd_82_0_0_4 k_sz_4_1 rfl rfl) ?_
  refine s0 (Ys_store (i := 0) (s := 1) (B := B) (T' := 82) (v := .bool true) (vs := [.bool true]) (k := 0) (cs' := [.bool true]) hS3 k_sz_4_1 rfl rfl rfl rfl rfl rfl rfl (lB rfl) rfl rfl) ?_
  rintro _ w_3 ⟨rfl, hS4⟩
  refine rw_nil (cw_seq (cw_region ?_))
  refine sQ 16 (Y_buildS (zs := kZ_) (vs := []) (cs := kZ_) k_pl_65 k_zero_65 rfl mpn rfl) ?_
  refine s0 (Ys_store (i := 3) (s := 5) (B := aD b2) (T' := 65) (v := gZ_) (vs := kZ_) (k := 0) (cs' := kZ_) hS4 k_sz_65_5 rfl rfl rfl rfl rfl rfl rfl (lB rfl) rfl rfl) ?_
  rintro _ w_4 ⟨rfl, hS5⟩
  refine rw_nil (cw_ret ?_)
  obtain ⟨rfl, rfl⟩ := pr2 (some_inj hF1)
  exact ret1 Tryz.results48 (v1 := gZ_) (resAt_cellA (B := aD b2) (i := 0) (cs := kZ_) (vs := kZ_) rfl k_ag_65 k_sz_65_5 (hS5.cf (i := 3) rfl) rfl rfl) ⟨rfl, (hS5.sN [0])⟩
 ·skip
  have hF2 := cf' hF hb
  refine cw_skip (cw_seq ?_)
  obtain ⟨r_1, hc, hF2⟩ := bind_inv hF2
  obtain ⟨⟨r_2, m1⟩, hc1, hF2⟩ := bind_inv hF2
  obtain ⟨r_3, hc2, hF2⟩ := bind_inv hF2
  refine ra_start (hS3.se [1, 2]).fn (by kernel_rfl) ?_
  have hS9 := hS3.drew
  refine rq 0 17 (v := pt B 0) rfl (hS9.se [1, 2]) (fun w' hw' => (Y_move (v := pt B 0) rfl rfl)) ?_
  refine rq 1 18 (v := pt (aD b) 0) rfl (hS9.se [1, 2]) (fun w' hw' => (Y_fieldAddr (B := aD b) (i := 0) (s := 3) k_fd_65_0_0_63 k_sz_63_4 rfl rfl)) ?_
  refine rq 2 19 (v := gR_ x.Num) rfl (hS9.se [1, 2]) (fun w' hw' => (Y_loadA (B := aD b) (i := 0) (cs := kD_ x) (vs := kR_ x.Num) k_ag_63 k_sz_63_4 rfl rfl (ST.cf hw' (i := 0) rfl) rfl rfl)) ?_
  refine rq 3 20 (v := pt (aD b1) 0) rfl (hS9.se [1, 2]) (fun w' hw' => (Y_fieldAddr (B := aD b1) (i := 0) (s := 3) k_fd_65_0_0_63 k_sz_63_4 rfl rfl)) ?_
  refine rq 4 21 (v := gR_ y.Num) rfl (hS9.se [1, 2]) (fun w' hw' => (Y_loadA (B := aD b1) (i := 0) (cs := kD_ y) (vs := kR_ y.Num) k_ag_63 k_sz_63_4 rfl rfl (ST.cf hw' (i := 1) rfl) rfl rfl)) ?_
  refine rq 7 24 (v := pt (aD b) 4) rfl (hS9.se [1, 2]) (fun w' hw' => (Y_fieldAddr (B := aD b) (i := 0) (s := 0) k_fd_65_1_4_3 k_sz_3_1 rfl rfl)) ?_
  refine rq 8 25 (v := vi x.Exp) rfl (hS9.se [1, 2]) (fun w' hw' => (Y_load1 (B := aD b) (i := 4) (cs := kD_ x) (v := vi x.Exp) k_sc_3 rfl rfl (ST.cf hw' (i := 0) rfl) rfl)) ?_
  refine rq 9 26 (v := pt (aD b1) 4) rfl (hS9.se [1, 2]) (fun w' hw' => (Y_fieldAddr (B := aD b1) (i := 0) (s := 0) k_fd_65_1_4_3 k_sz_3_1 rfl rfl)) ?_
  refine rq 10 27 (v := vi y.Exp) rfl (hS9.se [1, 2]) (fun w' hw' => (Y_load1 (B := aD b1) (i := 4) (cs := kD_ y) (v := vi y.Exp) k_sc_3 rfl rfl (ST.cf hw' (i := 1) rfl) rfl)) ?_
  refine rq 11 28 (v := vi (i64.wrap (x.Exp + y.Exp))) rfl (hS9.se [1, 2]) (fun w' hw' => (Y_add (k := .i64) (a := x.Exp) (b := y.Exp) rfl rfl rfl)) ?_
  refine rA [5] ?_
  refine ra_c 22 (i := 5) rfl rfl rfl (Yc_func (g := 93) (vs := [gR_ x.Num, gR_ y.Num]) k_call_93 rfl (mc rfl (mc rfl mn)) (c_spec_l1Mul x.Num y.Num _  (hS9.inn0 [] rfl) hc)) ?_ ?_
  ·rintro _ w_5 ⟨rfl, hd⟩
   have hS10 := hS9.out00 hd
   refine ⟨(hS10.se [1, 2]), ?_⟩
   refine rA [6] ?_
   refine ra_c 23 (i := 6) rfl rfl rfl (Yc_func (g := 92) (vs := [pt B 0, gR_ r_1]) k_call_92 rfl (mc rfl (mc rfl mn)) (c_spec_l2C_ring c r_1 B _  (hS10.inn [true, false, false, false] rfl [] rfl) hc1)) ?_ ?_
   ·rintro _ w_6 ⟨rfl, hd1⟩
    have hS11 := hS10.out [true, false, false, false] rfl hd1
    refine ⟨(hS11.se [0, 1]), ?_⟩
    refine rA [12] ?_
    refine ra_c 29 (i := 12) rfl rfl rfl (Yc_func (g := 91) (vs := [gR_ r_2, vi (i64.wrap (x.Exp + y.Exp))]) k_call_91 rfl (mc rfl (mc rfl mn)) (c_spec_l2Low r_2 (i64.wrap (x.Exp + y.Exp)) _  (hS11.inn0 [] rfl) hc2)) ?_ ?_
    ·rintro _ w_7 ⟨rfl, hd2⟩
     have hS12 := hS11.out00 hd2
     have hS12 : ST w0 (bl [⟨B, 82, [.bool c.bad], 1⟩]) _ [⟨aD b, 65, kD_ x, 5⟩, ⟨aD b1, 65, kD_ y, 5⟩, ⟨aD b2, 65, kZ_, 5⟩, ⟨B, 82, [.bool m1.bad], 1⟩] [] := hS12
     refine ⟨(hS12.se [0, 1]), ?_⟩
     refine rA [13] ?_
     refine ra_s0 (i := 13) rfl rfl rfl (Ys_store (i := 2) (s := 5) (B := aD b2) (T' := 65) (v := gD_ r_3) (vs := kD_ r_3) (k := 0) (cs' := kD_ r_3) hS12 k_sz_65_5 rfl rfl rfl rfl rfl rfl rfl (lB rfl) rfl rfl) ?_ ?_
     ·rintro _ w_8 ⟨rfl, hS13⟩
      refine ⟨(hS13.se [0, 1]), ?_⟩
      refine ra_done (by kernel_rfl) ?_
      refine cw_ret ?_
      obtain ⟨rfl, rfl⟩ := pr2 (some_inj hF2)
      exact ret1 Tryz.results48 (v1 := gD_ r_3) (resAt_cellA (B := aD b2) (i := 0) (cs := kD_ r_3) (vs := kD_ r_3) rfl k_ag_65 k_sz_65_5 (hS13.cf (i := 2) rfl) rfl rfl) ⟨rfl, (hS13.sN [3])⟩
     exact allR_nil
    exact allR_nil
   exact allR_nil
  exact allR_nil

theorem c_spec_l1Add (x : TRing) (y : TRing)  (w0 : World)  (hS : ST w0 [] w0 [] []) {r_ : TRing} (hF : F_spec_l1Add x y = some r_) :
  CV Tryz.prog 95 #[gR_ x, gR_ y] w0 (fun v w' => v = (gR_ r_) ∧ ST w0 [] w' [] []) := by
 unfold F_spec_l1Add at hF
 refine cv_of_cw 26 Tryz.func95 rfl Tryz.ntmps95 rfl ?_
 refine cw_seq (cw_region ?_)
 refine sS 2 (Ys_box (T := 63) (v := gR_ x) (cs := kR_ x) (m := 4) hS rfl rfl rfl rfl) ?_
 rintro _ w_ ⟨b, rfl, hS1⟩
 refine sS 3 (Ys_box (T := 63) (v := gR_ y) (cs := kR_ y) (m := 4) hS1 rfl rfl rfl rfl) ?_
 rintro _ w_1 ⟨b1, rfl, hS2⟩
 refine sS 4 (Ys_alloc (T := 63) (cs := [vi 0, vi 0, vi 0, vi 0]) (m := 4) hS2 k_zero_63 rfl rfl rfl) ?_
 rintro _ w_2 ⟨b2, rfl, hS3⟩
 refine rw_nil (cw_seq (cw_region ?_))
 refine sQ 5 (Y_fieldAddr (B := aD b) (i := 0) (s := 0) k_fd_63_0_0_3 k_sz_3_1 rfl rfl) ?_
 refine sQ 6 (Y_load1 (B := aD b) (i := 0) (cs := kR_ x) (v := vi x.A) k_sc_3 rfl rfl (hS3.cf (i := 0) rfl) rfl) ?_
 refine sQ 7 (Y_fieldAddr (B := aD b1) (i := 0) (s := 0) k_fd_63_0_0_3 k_sz_3_1 rfl rfl) ?_
 refine sQ 8 (Y_load1 (B := aD b1) (i := 0) (cs := kR_ y) (v := vi y.A) k_sc_3 rfl rfl (hS3.cf (i := 1) rfl) rfl) ?_
 refine sQ 9 (Y_add (k := .i64) (a := x.A) (b := y.A) rfl rfl rfl) ?_
 refine sQ 10 (Y_fieldAddr (B := aD b) (i := 0) (s := 0) k_fd_63_1_1_3 k_sz_3_1 rfl rfl) ?_
 refine sQ 11 (Y_load1 (B := aD b) (i := 1) (cs := kR_ x) (v := vi x.B) k_sc_3 rfl rfl (hS3.cf (i := 0) rfl) rfl) ?_
 refine sQ 12 (Y_fieldAddr (B := aD b1) (i := 0) (s := 0) k_fd_63_1_1_3 k_sz_3_1 rfl rfl) ?_
 refine sQ 13 (Y_load1 (B := aD b1) (i := 1) (cs := kR_ y) (v := vi y.B) k_sc_3 rfl rfl (hS3.cf (i := 1) rfl) rfl) ?_
 refine sQ 14 (Y_add (k := .i64) (a := x.B) (b := y.B) rfl rfl rfl) ?_
 refine sQ 15 (Y_fieldAddr (B := aD b) (i := 0) (s := 0) k_fd_63_2_2_3 k_sz_3_1 rfl rfl) ?_
 refine sQ 16 (Y_load1 (B := aD b) (i := 2) (cs := kR_ x) (v := vi x.C) k_sc_3 rfl rfl (hS3.cf (i := 0) rfl) rfl) ?_
 refine sQ 17 (Y_fieldAddr (B := aD b1) (i := 0) (s := 0) k_fd_63_2_2_3 k_sz_3_1 rfl rfl) ?_
 refine sQ 18 (Y_load1 (B := aD b1) (i := 2) (cs := kR_ y) (v := vi y.C) k_sc_3 rfl rfl (hS3.cf (i := 1) rfl) rfl) ?_
 refine sQ 19 (Y_add (k := .i64) (a := x.C) (b := y.C) rfl rfl rfl) ?_
 refine sQ 20 (Y_fieldAddr (B := aD b) (i := 0) (s := 0) k_fd_63_3_3_3 k_sz_3_1 rfl rfl) ?_
 refine sQ 21 (Y_load1 (B := aD b) (i := 3) (cs := kR_ x) (v := vi x.D) k_sc_3 rfl rfl (hS3.cf (i := 0) rfl) rfl) ?_
 refine sQ 22 (Y_fieldAddr (B := aD b1) (i := 0) (s := 0) k_fd_63_3_3_3 k_sz_3_1 rfl rfl) ?_
 refine sQ 23 (Y_load1 (B := aD b1) (i := 3) (cs := kR_ y) (v := vi y.D) k_sc_3 rfl rfl (hS3.cf (i := 1) rfl) rfl) ?_
 refine sQ 24 (Y_add (k := .i64) (a := x.D) (b := y.D) rfl rfl rfl) ?_
 refine sQ 25 (Y_buildS (zs := [vi 0, vi 0, vi 0, vi 0]) (vs := [(0, vi (i64.wrap (x.A + y.A))), (1, vi (i64.wrap (x.B + y.B))), (2, vi (i64.wrap (x.C + y.C))), (3, vi (i64.wrap (x.D + y.D)))]) (cs := [vi (i64.wrap (x.A + y.A)), vi (i64.wrap (x.B + y.B)), vi (i64.wrap (x.C + y.C)), vi (i64.wrap (x.D + y.D))]) k_pl_63 k_zero_63 rfl (mpc rfl (mpc rfl (mpc rfl (mpc rfl mpn)))) rfl) ?_
 refine s0 (Ys_store (i := 2) (s := 4) (B := aD b2) (T' := 63) (v := .agg #[vi (i64.wrap (x.A + y.A)), vi (i64.wrap (x.B + y.B)), vi (i64.wrap (x.C + y.C)), vi (i64.wrap (x.D + y.D))]) (vs := [vi (i64.wrap (x.A + y.A)), vi (i64.wrap (x.B + y.B)), vi (i64.wrap (x.C + y.C)), vi (i64.wrap (x.D + y.D))]) (k := 0) (cs' := [vi (i64.wrap (x.A + y.A)), vi (i64.wrap (x.B + y.B)), vi (i64.wrap (x.C + y.C)), vi (i64.wrap (x.D + y.D))]) hS3 k_sz_63_4 rfl rfl rfl rfl rfl rfl rfl (lB rfl) rfl rfl) ?_
 rintro _ w_3 ⟨rfl, hS4⟩
 refine rw_nil (cw_ret ?_)
 obtain rfl := some_inj hF
 exact ret1 Tryz.results95 (v1 := .agg #[vi (i64.wrap (x.A + y.A)), vi (i64.wrap (x.B + y.B)), vi (i64.wrap (x.C + y.C)), vi (i64.wrap (x.D + y.D))]) (resAt_cellA (B := aD b2) (i := 0) (cs := [vi (i64.wrap (x.A + y.A)), vi (i64.wrap (x.B + y.B)), vi (i64.wrap (x.C + y.C)), vi (i64.wrap (x.D + y.D))]) (vs := [vi (i64.wrap (x.A + y.A)), vi (i64.wrap (x.B + y.B)), vi (i64.wrap (x.C + y.C)), vi (i64.wrap (x.D + y.D))]) rfl k_ag_63 k_sz_63_4 (hS4.cf (i := 2) rfl) rfl rfl) ⟨rfl, (hS4.sN [])⟩

theorem c_spec_l2C_add (c : Tl2C) (x : TDyadic) (y : TDyadic) (B : Option Addr) (w0 : World)  (hS : ST w0 (bl [⟨B, 82, [.bool c.bad], 1⟩]) w0 [⟨B, 82, [.bool c.bad], 1⟩] []) {r_ : TDyadic} {m : Tl2C} (hF : F_spec_l2C_add c x y = some (r_, m)) :
  CV Tryz.prog 50 #[pt B 0, gD_ x, gD_ y] w0 (fun v w' => v = (gD_ r_) ∧ ST w0 (bl [⟨B, 82, [.bool c.bad], 1⟩]) w' [⟨B, 82, [.bool m.bad], 1⟩] []) := by
 unfold F_spec_l2C_add at hF
 refine cv_of_cw 45 Tryz.func50 rfl Tryz.ntmps50 rfl ?_
 refine cw_seq (cw_region ?_)
 refine sS 4 (Ys_box (T := 65) (v := gD_ x) (cs := kD_ x) (m := 5) hS rfl rfl rfl rfl) ?_
 rintro _ w_ ⟨b, rfl, hS1⟩
 refine sS 5 (Ys_box (T := 65) (v := gD_ y) (cs := kD_ y) (m := 5) hS1 rfl rfl rfl rfl) ?_
 rintro _ w_1 ⟨b1, rfl, hS2⟩
 refine sS 6 (Ys_alloc (T := 65) (cs := kZ_) (m := 5) hS2 k_zero_65 rfl rfl rfl) ?_
 rintro _ w_2 ⟨b2, rfl, hS3⟩
 refine rw_nil (cw_seq ?_)
 obtain ⟨z, hz, hF1⟩ := bind_inv hF
 refine cw_block ?_
 refine cw_loop (fun k f w => ∃ (bad : Bool) (A : Int) (B1 : Int) (C : Int) (D : Int) (Exp : Int), FF f [(0, pt B 0), (4, pt (aD b) 0), (5, pt (aD b1) 0), (6, pt (aD b2) 0)] ∧ ST w0 (bl [⟨B, 82, [.bool c.bad], 1⟩]) w [⟨B, 82, [.bool bad], 1⟩, ⟨aD b, 65, [vi A, vi B1, vi C, vi D, vi Exp], 5⟩, ⟨aD b1, 65, kD_ y, 5⟩, ⟨aD b2, 65, kZ_, 5⟩] [] ∧ whX (F_spec_l2C_add_l1 y) k (bad, A, B1, C, D, Exp) = some z) fuel ⟨c.bad, x.Num.A, x.Num.B, x.Num.C, x.Num.D, x.Exp, (FF.cons rfl (FF.cons rfl (FF.cons rfl (FF.cons rfl FF.nil)))), (hS3.sel [0, 1, 2, 3] rfl rfl), hz⟩ ?_
 rintro k_ f w ⟨bad, A, B1, C, D, Exp, hf, hS4, hL⟩
 obtain ⟨k_1, y1, rfl, hb, hL1⟩ := whX_go hL
 unfold F_spec_l2C_add_l1 at hb
 refine cw_seq (cw_seq (cw_region ?_))
 refine sQ 7 (Y_fieldAddr (B := aD b) (i := 0) (s := 0) k_fd_65_1_4_3 k_sz_3_1 rfl (hf.get 4 1 rfl)) ?_
 refine sQ 8 (Y_load1 (B := aD b) (i := 4) (cs := [vi A, vi B1, vi C, vi D, vi Exp]) (v := vi Exp) k_sc_3 rfl rfl (hS4.cf (i := 1) rfl) rfl) ?_
 refine sQ 9 (Y_fieldAddr (B := aD b1) (i := 0) (s := 0) k_fd_65_1_4_3 k_sz_3_1 rfl (hf.get 5 2 rfl)) ?_
 refine sQ 10 (Y_load1 (B := aD b1) (i := 4) (cs := kD_ y) (v := vi y.Exp) k_sc_3 rfl rfl (hS4.cf (i := 2) rfl) rfl) ?_
 refine sQ 11 (Y_lt (k := .i64) (a := Exp) (b := y.Exp) rfl rfl rfl) (rw_nil ?_)
 refine cw_cond (b := (decide (Exp < y.Exp))) rfl (fun hb1 => ?_) (fun hb1 => ?_)
 ·skip
  have hF2 := ct hb hb1
  refine cw_skip (cw_block ?_)
  obtain ⟨r_1, hc, hF2⟩ := bind_inv hF2
  obtain ⟨⟨r_2, m1⟩, hc1, hF2⟩ := bind_inv hF2
  refine cw_mid (fun f w => FF f [(0, pt B 0), (4, pt (aD b) 0), (5, pt (aD b1) 0), (6, pt (aD b2) 0)] ∧ ST w0 (bl [⟨B, 82, [.bool c.bad], 1⟩]) w [⟨B, 82, [.bool m1.bad], 1⟩, ⟨aD b, 65, [vi r_2.A, vi r_2.B, vi r_2.C, vi r_2.D, vi (i64.wrap (Exp + 1))], 5⟩, ⟨aD b1, 65, kD_ y, 5⟩, ⟨aD b2, 65, kZ_, 5⟩] []) ?_ ?_
  ·skip
   refine ra_start (hS4.se [2, 3]).fn (by kernel_rfl) ?_
   have hS8 := hS4.drew
   refine rq 0 12 (v := pt B 0) rfl (hS8.se [2, 3]) (fun w' hw' => (Y_move (v := pt B 0) rfl (hf.get 0 0 rfl))) ?_
   refine rq 1 13 (v := pt (aD b) 0) rfl (hS8.se [2, 3]) (fun w' hw' => (Y_fieldAddr (B := aD b) (i := 0) (s := 3) k_fd_65_0_0_63 k_sz_63_4 rfl (hf.get 4 1 rfl))) ?_
   refine rq 5 17 (v := pt (aD b) 4) rfl (hS8.se [2, 3]) (fun w' hw' => (Y_fieldAddr (B := aD b) (i := 0) (s := 0) k_fd_65_1_4_3 k_sz_3_1 rfl (hf.get 4 1 rfl))) ?_
   refine rA [2, 6] ?_
   refine ra_y 14 (i := 2) (v := .agg #[vi A, vi B1, vi C, vi D]) rfl rfl rfl (Y_loadA (B := aD b) (i := 0) (cs := [vi A, vi B1, vi C, vi D, vi Exp]) (vs := [vi A, vi B1, vi C, vi D]) k_ag_63 k_sz_63_4 rfl rfl (hS8.cf (i := 1) rfl) rfl rfl) (hS8.se [2, 3]) ?_ ?_
   ·skip
    refine rA [3, 6] ?_
    refine ra_c 15 (i := 3) rfl rfl rfl (Yc_func (g := 94) (vs := [.agg #[vi A, vi B1, vi C, vi D]]) k_call_94 rfl (mc rfl mn) (c_spec_l1Root (TRing.mk A B1 C D) _  (hS8.inn0 [] rfl) hc)) ?_ ?_
    ·rintro _ w_3 ⟨rfl, hd⟩
     have hS9 := hS8.out00 hd
     refine ⟨(hS9.se [2, 3]), ?_⟩
     refine rA [4, 6] ?_
     refine ra_c 16 (i := 4) rfl rfl rfl (Yc_func (g := 92) (vs := [pt B 0, gR_ r_1]) k_call_92 rfl (mc rfl (mc rfl mn)) (c_spec_l2C_ring (Tl2C.mk bad) r_1 B _  (hS9.inn [true, false, false, false] rfl [] rfl) hc1)) ?_ ?_
     ·rintro _ w_4 ⟨rfl, hd1⟩
      have hS10 := hS9.out [true, false, false, false] rfl hd1
      refine ⟨(hS10.se [1, 2]), ?_⟩
      refine rA [6] ?_
      refine ra_y 18 (i := 6) (v := vi Exp) rfl rfl rfl (Y_load1 (B := aD b) (i := 4) (cs := [vi A, vi B1, vi C, vi D, vi Exp]) (v := vi Exp) k_sc_3 rfl rfl (hS10.cf (i := 0) rfl) rfl) (hS10.se [1, 2]) ?_ ?_
      ·skip
       refine rq 7 19 (v := vi (i64.wrap (Exp + 1))) rfl (hS10.se [1, 2]) (fun w' hw' => (Y_add (k := .i64) (a := Exp) (b := 1) rfl rfl rfl)) ?_
       refine rq 8 20 (v := .agg #[vi r_2.A, vi r_2.B, vi r_2.C, vi r_2.D, vi (i64.wrap (Exp + 1))]) rfl (hS10.se [1, 2]) (fun w' hw' => (Y_buildS (zs := kZ_) (vs := [(0, gR_ r_2), (1, vi (i64.wrap (Exp + 1)))]) (cs := [vi r_2.A, vi r_2.B, vi r_2.C, vi r_2.D, vi (i64.wrap (Exp + 1))]) k_pl_65 k_zero_65 rfl (mpc rfl (mpc rfl mpn)) rfl)) ?_
       refine rA [9] ?_
       refine ra_s0 (i := 9) rfl rfl rfl (Ys_store (i := 0) (s := 5) (B := aD b) (T' := 65) (v := .agg #[vi r_2.A, vi r_2.B, vi r_2.C, vi r_2.D, vi (i64.wrap (Exp + 1))]) (vs := [vi r_2.A, vi r_2.B, vi r_2.C, vi r_2.D, vi (i64.wrap (Exp + 1))]) (k := 0) (cs' := [vi r_2.A, vi r_2.B, vi r_2.C, vi r_2.D, vi (i64.wrap (Exp + 1))]) hS10 k_sz_65_5 rfl (hf.get 4 1 rfl) rfl rfl rfl rfl rfl (lB rfl) rfl rfl) ?_ ?_
       ·rintro _ w_5 ⟨rfl, hS11⟩
        refine ⟨(hS11.se [1, 2]), ?_⟩
        refine ra_done (by kernel_rfl) ?_
        exact ⟨(FF.cons (hf.get 0 0 rfl) (FF.cons (hf.get 4 1 rfl) (FF.cons (hf.get 5 2 rfl) (FF.cons (hf.get 6 3 rfl) FF.nil)))), (hS11.sel [3, 0, 1, 2] rfl rfl)⟩
       exact allR_nil
      exact allR_nil
     refine ra_y 18 (i := 6) (v := vi Exp) rfl rfl rfl (Y_load1 (B := aD b) (i := 4) (cs := [vi A, vi B1, vi C, vi D, vi Exp]) (v := vi Exp) k_sc_3 rfl rfl (hS9.cf (i := 1) rfl) rfl) (hS9.se [2, 3]) ?_ ?_
     ·skip
      refine rq 7 19 (v := vi (i64.wrap (Exp + 1))) rfl (hS9.se [2, 3]) (fun w' hw' => (Y_add (k := .i64) (a := Exp) (b := 1) rfl rfl rfl)) ?_
      refine rA [4] ?_
      refine ra_c 16 (i := 4) rfl rfl rfl (Yc_func (g := 92) (vs := [pt B 0, gR_ r_1]) k_call_92 rfl (mc rfl (mc rfl mn)) (c_spec_l2C_ring (Tl2C.mk bad) r_1 B _  (hS9.inn [true, false, false, false] rfl [] rfl) hc1)) ?_ ?_
      ·rintro _ w_6 ⟨rfl, hd2⟩
       have hS12 := hS9.out [true, false, false, false] rfl hd2
       refine ⟨(hS12.se [1, 2]), ?_⟩
       refine rq 8 20 (v := .agg #[vi r_2.A, vi r_2.B, vi r_2.C, vi r_2.D, vi (i64.wrap (Exp + 1))]) rfl (hS12.se [1, 2]) (fun w' hw' => (Y_buildS (zs := kZ_) (vs := [(0, gR_ r_2), (1, vi (i64.wrap (Exp + 1)))]) (cs := [vi r_2.A, vi r_2.B, vi r_2.C, vi r_2.D, vi (i64.wrap (Exp + 1))]) k_pl_65 k_zero_65 rfl (mpc rfl (mpc rfl mpn)) rfl)) ?_
       refine rA [9] ?_
       refine ra_s0 (i := 9) rfl rfl rfl (Ys_store (i := 0) (s := 5) (B := aD b) (T' := 65) (v := .agg #[vi r_2.A, vi r_2.B, vi r_2.C, vi r_2.D, vi (i64.wrap (Exp + 1))]) (vs := [vi r_2.A, vi r_2.B, vi r_2.C, vi r_2.D, vi (i64.wrap (Exp + 1))]) (k := 0) (cs' := [vi r_2.A, vi r_2.B, vi r_2.C, vi r_2.D, vi (i64.wrap (Exp + 1))]) hS12 k_sz_65_5 rfl (hf.get 4 1 rfl) rfl rfl rfl rfl rfl (lB rfl) rfl rfl) ?_ ?_
       ·rintro _ w_7 ⟨rfl, hS13⟩
        have hS13 : ST w0 (bl [⟨B, 82, [.bool c.bad], 1⟩]) _ [⟨aD b, 65, [vi r_2.A, vi r_2.B, vi r_2.C, vi r_2.D, vi (i64.wrap (Exp + 1))], 5⟩, ⟨aD b1, 65, kD_ y, 5⟩, ⟨aD b2, 65, kZ_, 5⟩, ⟨B, 82, [.bool m1.bad], 1⟩] [] := hS13
        refine ⟨(hS13.se [1, 2]), ?_⟩
        refine ra_done (by kernel_rfl) ?_
        exact ⟨(FF.cons (hf.get 0 0 rfl) (FF.cons (hf.get 4 1 rfl) (FF.cons (hf.get 5 2 rfl) (FF.cons (hf.get 6 3 rfl) FF.nil)))), (hS13.sel [3, 0, 1, 2] rfl rfl)⟩
       exact allR_nil
      exact allR_nil
     exact allR_nil
    refine ra_y 18 (i := 6) (v := vi Exp) rfl rfl rfl (Y_load1 (B := aD b) (i := 4) (cs := [vi A, vi B1, vi C, vi D, vi Exp]) (v := vi Exp) k_sc_3 rfl rfl (hS8.cf (i := 1) rfl) rfl) (hS8.se [2, 3]) ?_ ?_
    ·skip
     refine rq 7 19 (v := vi (i64.wrap (Exp + 1))) rfl (hS8.se [2, 3]) (fun w' hw' => (Y_add (k := .i64) (a := Exp) (b := 1) rfl rfl rfl)) ?_
     refine rA [3] ?_
     refine ra_c 15 (i := 3) rfl rfl rfl (Yc_func (g := 94) (vs := [.agg #[vi A, vi B1, vi C, vi D]]) k_call_94 rfl (mc rfl mn) (c_spec_l1Root (TRing.mk A B1 C D) _  (hS8.inn0 [] rfl) hc)) ?_ ?_
     ·rintro _ w_8 ⟨rfl, hd3⟩
      have hS14 := hS8.out00 hd3
      refine ⟨(hS14.se [2, 3]), ?_⟩
      refine rA [4] ?_
      refine ra_c 16 (i := 4) rfl rfl rfl (Yc_func (g := 92) (vs := [pt B 0, gR_ r_1]) k_call_92 rfl (mc rfl (mc rfl mn)) (c_spec_l2C_ring (Tl2C.mk bad) r_1 B _  (hS14.inn [true, false, false, false] rfl [] rfl) hc1)) ?_ ?_
      ·rintro _ w_9 ⟨rfl, hd4⟩
       have hS15 := hS14.out [true, false, false, false] rfl hd4
       refine ⟨(hS15.se [1, 2]), ?_⟩
       refine rq 8 20 (v := .agg #[vi r_2.A, vi r_2.B, vi r_2.C, vi r_2.D, vi (i64.wrap (Exp + 1))]) rfl (hS15.se [1, 2]) (fun w' hw' => (Y_buildS (zs := kZ_) (vs := [(0, gR_ r_2), (1, vi (i64.wrap (Exp + 1)))]) (cs := [vi r_2.A, vi r_2.B, vi r_2.C, vi r_2.D, vi (i64.wrap (Exp + 1))]) k_pl_65 k_zero_65 rfl (mpc rfl (mpc rfl mpn)) rfl)) ?_
       refine rA [9] ?_
       refine ra_s0 (i := 9) rfl rfl rfl (Ys_store (i := 0) (s := 5) (B := aD b) (T' := 65) (v := .agg #[vi r_2.A, vi r_2.B, vi r_2.C, vi r_2.D, vi (i64.wrap (Exp + 1))]) (vs := [vi r_2.A, vi r_2.B, vi r_2.C, vi r_2.D, vi (i64.wrap (Exp + 1))]) (k := 0) (cs' := [vi r_2.A, vi r_2.B, vi r_2.C, vi r_2.D, vi (i64.wrap (Exp + 1))]) hS15 k_sz_65_5 rfl (hf.get 4 1 rfl) rfl rfl rfl rfl rfl (lB rfl) rfl rfl) ?_ ?_
       ·rintro _ w_10 ⟨rfl, hS16⟩
        refine ⟨(hS16.se [1, 2]), ?_⟩
        refine ra_done (by kernel_rfl) ?_
        exact ⟨(FF.cons (hf.get 0 0 rfl) (FF.cons (hf.get 4 1 rfl) (FF.cons (hf.get 5 2 rfl) (FF.cons (hf.get 6 3 rfl) FF.nil)))), (hS16.sel [3, 0, 1, 2] rfl rfl)⟩
       exact allR_nil
      exact allR_nil
     exact allR_nil
    exact allR_nil
   refine ra_y 18 (i := 6) (v := vi Exp) rfl rfl rfl (Y_load1 (B := aD b) (i := 4) (cs := [vi A, vi B1, vi C, vi D, vi Exp]) (v := vi Exp) k_sc_3 rfl rfl (hS8.cf (i := 1) rfl) rfl) (hS8.se [2, 3]) ?_ ?_
   ·skip
    refine rq 7 19 (v := vi (i64.wrap (Exp + 1))) rfl (hS8.se [2, 3]) (fun w' hw' => (Y_add (k := .i64) (a := Exp) (b := 1) rfl rfl rfl)) ?_
    refine rA [2] ?_
    refine ra_y 14 (i := 2) (v := .agg #[vi A, vi B1, vi C, vi D]) rfl rfl rfl (Y_loadA (B := aD b) (i := 0) (cs := [vi A, vi B1, vi C, vi D, vi Exp]) (vs := [vi A, vi B1, vi C, vi D]) k_ag_63 k_sz_63_4 rfl rfl (hS8.cf (i := 1) rfl) rfl rfl) (hS8.se [2, 3]) ?_ ?_
    ·skip
     refine rA [3] ?_
     refine ra_c 15 (i := 3) rfl rfl rfl (Yc_func (g := 94) (vs := [.agg #[vi A, vi B1, vi C, vi D]]) k_call_94 rfl (mc rfl mn) (c_spec_l1Root (TRing.mk A B1 C D) _  (hS8.inn0 [] rfl) hc)) ?_ ?_
     ·rintro _ w_11 ⟨rfl, hd5⟩
      have hS17 := hS8.out00 hd5
      refine ⟨(hS17.se [2, 3]), ?_⟩
      refine rA [4] ?_
      refine ra_c 16 (i := 4) rfl rfl rfl (Yc_func (g := 92) (vs := [pt B 0, gR_ r_1]) k_call_92 rfl (mc rfl (mc rfl mn)) (c_spec_l2C_ring (Tl2C.mk bad) r_1 B _  (hS17.inn [true, false, false, false] rfl [] rfl) hc1)) ?_ ?_
      ·rintro _ w_12 ⟨rfl, hd6⟩
       have hS18 := hS17.out [true, false, false, false] rfl hd6
       refine ⟨(hS18.se [1, 2]), ?_⟩
       refine rq 8 20 (v := .agg #[vi r_2.A, vi r_2.B, vi r_2.C, vi r_2.D, vi (i64.wrap (Exp + 1))]) rfl (hS18.se [1, 2]) (fun w' hw' => (Y_buildS (zs := kZ_) (vs := [(0, gR_ r_2), (1, vi (i64.wrap (Exp + 1)))]) (cs := [vi r_2.A, vi r_2.B, vi r_2.C, vi r_2.D, vi (i64.wrap (Exp + 1))]) k_pl_65 k_zero_65 rfl (mpc rfl (mpc rfl mpn)) rfl)) ?_
       refine rA [9] ?_
       refine ra_s0 (i := 9) rfl rfl rfl (Ys_store (i := 0) (s := 5) (B := aD b) (T' := 65) (v := .agg #[vi r_2.A, vi r_2.B, vi r_2.C, vi r_2.D, vi (i64.wrap (Exp + 1))]) (vs := [vi r_2.A, vi r_2.B, vi r_2.C, vi r_2.D, vi (i64.wrap (Exp + 1))]) (k := 0) (cs' := [vi r_2.A, vi r_2.B, vi r_2.C, vi r_2.D, vi (i64.wrap (Exp + 1))]) hS18 k_sz_65_5 rfl (hf.get 4 1 rfl) rfl rfl rfl rfl rfl (lB rfl) rfl rfl) ?_ ?_
       ·rintro _ w_13 ⟨rfl, hS19⟩
        refine ⟨(hS19.se [1, 2]), ?_⟩
        refine ra_done (by kernel_rfl) ?_
        exact ⟨(FF.cons (hf.get 0 0 rfl) (FF.cons (hf.get 4 1 rfl) (FF.cons (hf.get 5 2 rfl) (FF.cons (hf.get 6 3 rfl) FF.nil)))), (hS19.sel [3, 0, 1, 2] rfl rfl)⟩
       exact allR_nil
      exact allR_nil
     exact allR_nil
    exact allR_nil
   exact allR_nil
  rintro f w ⟨hf1, hS7⟩
  obtain rfl := some_inj hF2
  exact ⟨k_1, Nat.lt_succ_self _, m1.bad, r_2.A, r_2.B, r_2.C, r_2.D, (i64.wrap (Exp + 1)), (FF.cons (hf1.get 0 0 rfl) (FF.cons (hf1.get 4 1 rfl) (FF.cons (hf1.get 5 2 rfl) (FF.cons (hf1.get 6 3 rfl) FF.nil)))), (hS7.sel [0, 1, 2, 3] rfl rfl), hL1⟩
 ·skip
  have hF3 := cf' hb hb1
  refine cw_exit rfl ?_
  obtain rfl := some_inj hF3
  obtain rfl := some_inj hL1
  refine cw_seq ?_
  obtain ⟨z1, hz1, hF4⟩ := bind_inv hF1
  refine cw_block ?_
  refine cw_loop (fun k f w => ∃ (bad1 : Bool) (A1 : Int) (B2 : Int) (C1 : Int) (D1 : Int) (Exp1 : Int), FF f [(0, pt B 0), (4, pt (aD b) 0), (5, pt (aD b1) 0), (6, pt (aD b2) 0)] ∧ ST w0 (bl [⟨B, 82, [.bool c.bad], 1⟩]) w [⟨B, 82, [.bool bad1], 1⟩, ⟨aD b, 65, [vi A, vi B1, vi C, vi D, vi Exp], 5⟩, ⟨aD b1, 65, [vi A1, vi B2, vi C1, vi D1, vi Exp1], 5⟩, ⟨aD b2, 65, kZ_, 5⟩] [] ∧ whX (F_spec_l2C_add_l2 Exp bad A C D) k (bad1, A1, B2, C1, D1, Exp1) = some z1) fuel ⟨bad, y.Num.A, y.Num.B, y.Num.C, y.Num.D, y.Exp, (FF.cons (hf.get 0 0 rfl) (FF.cons (hf.get 4 1 rfl) (FF.cons (hf.get 5 2 rfl) (FF.cons (hf.get 6 3 rfl) FF.nil)))), (hS4.sel [0, 1, 2, 3] rfl rfl), hz1⟩ ?_
  rintro k_2 f w ⟨bad1, A1, B2, C1, D1, Exp1, hf2, hS20, hL2⟩
  obtain ⟨k_3, y2, rfl, hb2, hL3⟩ := whX_go hL2
  unfold F_spec_l2C_add_l2 at hb2
  refine cw_seq (cw_seq (cw_region ?_))
  refine sQ 21 (Y_fieldAddr (B := aD b1) (i := 0) (s := 0) k_fd_65_1_4_3 k_sz_3_1 rfl (hf2.get 5 2 rfl)) ?_
  refine sQ 22 (Y_load1 (B := aD b1) (i := 4) (cs := [vi A1, vi B2, vi C1, vi D1, vi Exp1]) (v := vi Exp1) k_sc_3 rfl rfl (hS20.cf (i := 2) rfl) rfl) ?_
  refine sQ 23 (Y_fieldAddr (B := aD b) (i := 0) (s := 0) k_fd_65_1_4_3 k_sz_3_1 rfl (hf2.get 4 1 rfl)) ?_
  refine sQ 24 (Y_load1 (B := aD b) (i := 4) (cs := [vi A, vi B1, vi C, vi D, vi Exp]) (v := vi Exp) k_sc_3 rfl rfl (hS20.cf (i := 1) rfl) rfl) ?_
  refine sQ 25 (Y_lt (k := .i64) (a := Exp1) (b := Exp) rfl rfl rfl) (rw_nil ?_)
  refine cw_cond (b := (decide (Exp1 < Exp))) rfl (fun hb3 => ?_) (fun hb3 => ?_)
  ·skip
   have hF5 := ct hb2 hb3
   refine cw_skip (cw_block ?_)
   obtain ⟨r_3, hc2, hF5⟩ := bind_inv hF5
   obtain ⟨⟨r_4, m2⟩, hc3, hF5⟩ := bind_inv hF5
   refine cw_mid (fun f w => FF f [(0, pt B 0), (4, pt (aD b) 0), (5, pt (aD b1) 0), (6, pt (aD b2) 0)] ∧ ST w0 (bl [⟨B, 82, [.bool c.bad], 1⟩]) w [⟨B, 82, [.bool m2.bad], 1⟩, ⟨aD b, 65, [vi A, vi B1, vi C, vi D, vi Exp], 5⟩, ⟨aD b1, 65, [vi r_4.A, vi r_4.B, vi r_4.C, vi r_4.D, vi (i64.wrap (Exp1 + 1))], 5⟩, ⟨aD b2, 65, kZ_, 5⟩] []) ?_ ?_
   ·skip
    refine ra_start (hS20.se [1, 3]).fn (by kernel_rfl) ?_
    have hS24 := hS20.drew
    refine rq 0 26 (v := pt B 0) rfl (hS24.se [1, 3]) (fun w' hw' => (Y_move (v := pt B 0) rfl (hf2.get 0 0 rfl))) ?_
    refine rq 1 27 (v := pt (aD b1) 0) rfl (hS24.se [1, 3]) (fun w' hw' => (Y_fieldAddr (B := aD b1) (i := 0) (s := 3) k_fd_65_0_0_63 k_sz_63_4 rfl (hf2.get 5 2 rfl))) ?_
    refine rq 5 31 (v := pt (aD b1) 4) rfl (hS24.se [1, 3]) (fun w' hw' => (Y_fieldAddr (B := aD b1) (i := 0) (s := 0) k_fd_65_1_4_3 k_sz_3_1 rfl (hf2.get 5 2 rfl))) ?_
    refine rA [2, 6] ?_
    refine ra_y 28 (i := 2) (v := .agg #[vi A1, vi B2, vi C1, vi D1]) rfl rfl rfl (Y_loadA (B := aD b1) (i := 0) (cs := [vi A1, vi B2, vi C1, vi D1, vi Exp1]) (vs := [vi A1, vi B2, vi C1, vi D1]) k_ag_63 k_sz_63_4 rfl rfl (hS24.cf (i := 2) rfl) rfl rfl) (hS24.se [1, 3]) ?_ ?_
    ·skip
     refine rA [3, 6] ?_
     refine ra_c 29 (i := 3) rfl rfl rfl (Yc_func (g := 94) (vs := [.agg #[vi A1, vi B2, vi C1, vi D1]]) k_call_94 rfl (mc rfl mn) (c_spec_l1Root (TRing.mk A1 B2 C1 D1) _  (hS24.inn0 [] rfl) hc2)) ?_ ?_
     ·rintro _ w_14 ⟨rfl, hd7⟩
      have hS25 := hS24.out00 hd7
      refine ⟨(hS25.se [1, 3]), ?_⟩
      refine rA [4, 6] ?_
      refine ra_c 30 (i := 4) rfl rfl rfl (Yc_func (g := 92) (vs := [pt B 0, gR_ r_3]) k_call_92 rfl (mc rfl (mc rfl mn)) (c_spec_l2C_ring (Tl2C.mk bad1) r_3 B _  (hS25.inn [true, false, false, false] rfl [] rfl) hc3)) ?_ ?_
      ·rintro _ w_15 ⟨rfl, hd8⟩
       have hS26 := hS25.out [true, false, false, false] rfl hd8
       have hS26 : ST w0 (bl [⟨B, 82, [.bool c.bad], 1⟩]) _ [⟨aD b, 65, [vi A, vi B1, vi C, vi D, vi Exp], 5⟩, ⟨aD b1, 65, [vi A1, vi B2, vi C1, vi D1, vi Exp1], 5⟩, ⟨aD b2, 65, kZ_, 5⟩, ⟨B, 82, [.bool m2.bad], 1⟩] [] := hS26
       refine ⟨(hS26.se [0, 2]), ?_⟩
       refine rA [6] ?_
       refine ra_y 32 (i := 6) (v := vi Exp1) rfl rfl rfl (Y_load1 (B := aD b1) (i := 4) (cs := [vi A1, vi B2, vi C1, vi D1, vi Exp1]) (v := vi Exp1) k_sc_3 rfl rfl (hS26.cf (i := 1) rfl) rfl) (hS26.se [0, 2]) ?_ ?_
       ·skip
        refine rq 7 33 (v := vi (i64.wrap (Exp1 + 1))) rfl (hS26.se [0, 2]) (fun w' hw' => (Y_add (k := .i64) (a := Exp1) (b := 1) rfl rfl rfl)) ?_
        refine rq 8 34 (v := .agg #[vi r_4.A, vi r_4.B, vi r_4.C, vi r_4.D, vi (i64.wrap (Exp1 + 1))]) rfl (hS26.se [0, 2]) (fun w' hw' => (Y_buildS (zs := kZ_) (vs := [(0, gR_ r_4), (1, vi (i64.wrap (Exp1 + 1)))]) (cs := [vi r_4.A, vi r_4.B, vi r_4.C, vi r_4.D, vi (i64.wrap (Exp1 + 1))]) k_pl_65 k_zero_65 rfl (mpc rfl (mpc rfl mpn)) rfl)) ?_
        refine rA [9] ?_
        refine ra_s0 (i := 9) rfl rfl rfl (Ys_store (i := 1) (s := 5) (B := aD b1) (T' := 65) (v := .agg #[vi r_4.A, vi r_4.B, vi r_4.C, vi r_4.D, vi (i64.wrap (Exp1 + 1))]) (vs := [vi r_4.A, vi r_4.B, vi r_4.C, vi r_4.D, vi (i64.wrap (Exp1 + 1))]) (k := 0) (cs' := [vi r_4.A, vi r_4.B, vi r_4.C, vi r_4.D, vi (i64.wrap (Exp1 + 1))]) hS26 k_sz_65_5 rfl (hf2.get 5 2 rfl) rfl rfl rfl rfl rfl (lB rfl) rfl rfl) ?_ ?_
        ·rintro _ w_16 ⟨rfl, hS27⟩
         refine ⟨(hS27.se [0, 2]), ?_⟩
         refine ra_done (by kernel_rfl) ?_
         exact ⟨(FF.cons (hf2.get 0 0 rfl) (FF.cons (hf2.get 4 1 rfl) (FF.cons (hf2.get 5 2 rfl) (FF.cons (hf2.get 6 3 rfl) FF.nil)))), (hS27.sel [3, 0, 1, 2] rfl rfl)⟩
        exact allR_nil
       exact allR_nil
      refine ra_y 32 (i := 6) (v := vi Exp1) rfl rfl rfl (Y_load1 (B := aD b1) (i := 4) (cs := [vi A1, vi B2, vi C1, vi D1, vi Exp1]) (v := vi Exp1) k_sc_3 rfl rfl (hS25.cf (i := 2) rfl) rfl) (hS25.se [1, 3]) ?_ ?_
      ·skip
       refine rq 7 33 (v := vi (i64.wrap (Exp1 + 1))) rfl (hS25.se [1, 3]) (fun w' hw' => (Y_add (k := .i64) (a := Exp1) (b := 1) rfl rfl rfl)) ?_
       refine rA [4] ?_
       refine ra_c 30 (i := 4) rfl rfl rfl (Yc_func (g := 92) (vs := [pt B 0, gR_ r_3]) k_call_92 rfl (mc rfl (mc rfl mn)) (c_spec_l2C_ring (Tl2C.mk bad1) r_3 B _  (hS25.inn [true, false, false, false] rfl [] rfl) hc3)) ?_ ?_
       ·rintro _ w_17 ⟨rfl, hd9⟩
        have hS28 := hS25.out [true, false, false, false] rfl hd9
        refine ⟨(hS28.se [0, 2]), ?_⟩
        refine rq 8 34 (v := .agg #[vi r_4.A, vi r_4.B, vi r_4.C, vi r_4.D, vi (i64.wrap (Exp1 + 1))]) rfl (hS28.se [0, 2]) (fun w' hw' => (Y_buildS (zs := kZ_) (vs := [(0, gR_ r_4), (1, vi (i64.wrap (Exp1 + 1)))]) (cs := [vi r_4.A, vi r_4.B, vi r_4.C, vi r_4.D, vi (i64.wrap (Exp1 + 1))]) k_pl_65 k_zero_65 rfl (mpc rfl (mpc rfl mpn)) rfl)) ?_
        refine rA [9] ?_
        refine ra_s0 (i := 9) rfl rfl rfl (Ys_store (i := 1) (s := 5) (B := aD b1) (T' := 65) (v := .agg #[vi r_4.A, vi r_4.B, vi r_4.C, vi r_4.D, vi (i64.wrap (Exp1 + 1))]) (vs := [vi r_4.A, vi r_4.B, vi r_4.C, vi r_4.D, vi (i64.wrap (Exp1 + 1))]) (k := 0) (cs' := [vi r_4.A, vi r_4.B, vi r_4.C, vi r_4.D, vi (i64.wrap (Exp1 + 1))]) hS28 k_sz_65_5 rfl (hf2.get 5 2 rfl) rfl rfl rfl rfl rfl (lB rfl) rfl rfl) ?_ ?_
        ·rintro _ w_18 ⟨rfl, hS29⟩
         refine ⟨(hS29.se [0, 2]), ?_⟩
         refine ra_done (by kernel_rfl) ?_
         exact ⟨(FF.cons (hf2.get 0 0 rfl) (FF.cons (hf2.get 4 1 rfl) (FF.cons (hf2.get 5 2 rfl) (FF.cons (hf2.get 6 3 rfl) FF.nil)))), (hS29.sel [3, 0, 1, 2] rfl rfl)⟩
        exact allR_nil
       exact allR_nil
      exact allR_nil
     refine ra_y 32 (i := 6) (v := vi Exp1) rfl rfl rfl (Y_load1 (B := aD b1) (i := 4) (cs := [vi A1, vi B2, vi C1, vi D1, vi Exp1]) (v := vi Exp1) k_sc_3 rfl rfl (hS24.cf (i := 2) rfl) rfl) (hS24.se [1, 3]) ?_ ?_
     ·skip
      refine rq 7 33 (v := vi (i64.wrap (Exp1 + 1))) rfl (hS24.se [1, 3]) (fun w' hw' => (Y_add (k := .i64) (a := Exp1) (b := 1) rfl rfl rfl)) ?_
      refine rA [3] ?_
      refine ra_c 29 (i := 3) rfl rfl rfl (Yc_func (g := 94) (vs := [.agg #[vi A1, vi B2, vi C1, vi D1]]) k_call_94 rfl (mc rfl mn) (c_spec_l1Root (TRing.mk A1 B2 C1 D1) _  (hS24.inn0 [] rfl) hc2)) ?_ ?_
      ·rintro _ w_19 ⟨rfl, hd10⟩
       have hS30 := hS24.out00 hd10
       refine ⟨(hS30.se [1, 3]), ?_⟩
       refine rA [4] ?_
       refine ra_c 30 (i := 4) rfl rfl rfl (Yc_func (g := 92) (vs := [pt B 0, gR_ r_3]) k_call_92 rfl (mc rfl (mc rfl mn)) (c_spec_l2C_ring (Tl2C.mk bad1) r_3 B _  (hS30.inn [true, false, false, false] rfl [] rfl) hc3)) ?_ ?_
       ·rintro _ w_20 ⟨rfl, hd11⟩
        have hS31 := hS30.out [true, false, false, false] rfl hd11
        refine ⟨(hS31.se [0, 2]), ?_⟩
        refine rq 8 34 (v := .agg #[vi r_4.A, vi r_4.B, vi r_4.C, vi r_4.D, vi (i64.wrap (Exp1 + 1))]) rfl (hS31.se [0, 2]) (fun w' hw' => (Y_buildS (zs := kZ_) (vs := [(0, gR_ r_4), (1, vi (i64.wrap (Exp1 + 1)))]) (cs := [vi r_4.A, vi r_4.B, vi r_4.C, vi r_4.D, vi (i64.wrap (Exp1 + 1))]) k_pl_65 k_zero_65 rfl (mpc rfl (mpc rfl mpn)) rfl)) ?_
        refine rA [9] ?_
        refine ra_s0 (i := 9) rfl rfl rfl (Ys_store (i := 1) (s := 5) (B := aD b1) (T' := 65) (v := .agg #[vi r_4.A, vi r_4.B, vi r_4.C, vi r_4.D, vi (i64.wrap (Exp1 + 1))]) (vs := [vi r_4.A, vi r_4.B, vi r_4.C, vi r_4.D, vi (i64.wrap (Exp1 + 1))]) (k := 0) (cs' := [vi r_4.A, vi r_4.B, vi r_4.C, vi r_4.D, vi (i64.wrap (Exp1 + 1))]) hS31 k_sz_65_5 rfl (hf2.get 5 2 rfl) rfl rfl rfl rfl rfl (lB rfl) rfl rfl) ?_ ?_
        ·rintro _ w_21 ⟨rfl, hS32⟩
         refine ⟨(hS32.se [0, 2]), ?_⟩
         refine ra_done (by kernel_rfl) ?_
         exact ⟨(FF.cons (hf2.get 0 0 rfl) (FF.cons (hf2.get 4 1 rfl) (FF.cons (hf2.get 5 2 rfl) (FF.cons (hf2.get 6 3 rfl) FF.nil)))), (hS32.sel [3, 0, 1, 2] rfl rfl)⟩
        exact allR_nil
       exact allR_nil
      exact allR_nil
     exact allR_nil
    refine ra_y 32 (i := 6) (v := vi Exp1) rfl rfl rfl (Y_load1 (B := aD b1) (i := 4) (cs := [vi A1, vi B2, vi C1, vi D1, vi Exp1]) (v := vi Exp1) k_sc_3 rfl rfl (hS24.cf (i := 2) rfl) rfl) (hS24.se [1, 3]) ?_ ?_
    ·skip
     refine rq 7 33 (v := vi (i64.wrap (Exp1 + 1))) rfl (hS24.se [1, 3]) (fun w' hw' => (Y_add (k := .i64) (a := Exp1) (b := 1) rfl rfl rfl)) ?_
     refine rA [2] ?_
     refine ra_y 28 (i := 2) (v := .agg #[vi A1, vi B2, vi C1, vi D1]) rfl rfl rfl (Y_loadA (B := aD b1) (i := 0) (cs := [vi A1, vi B2, vi C1, vi D1, vi Exp1]) (vs := [vi A1, vi B2, vi C1, vi D1]) k_ag_63 k_sz_63_4 rfl rfl (hS24.cf (i := 2) rfl) rfl rfl) (hS24.se [1, 3]) ?_ ?_
     ·skip
      refine rA [3] ?_
      refine ra_c 29 (i := 3) rfl rfl rfl (Yc_func (g := 94) (vs := [.agg #[vi A1, vi B2, vi C1, vi D1]]) k_call_94 rfl (mc rfl mn) (c_spec_l1Root (TRing.mk A1 B2 C1 D1) _  (hS24.inn0 [] rfl) hc2)) ?_ ?_
      ·rintro _ w_22 ⟨rfl, hd12⟩
       have hS33 := hS24.out00 hd12
       refine ⟨(hS33.se [1, 3]), ?_⟩
       refine rA [4] ?_
       refine ra_c 30 (i := 4) rfl rfl rfl (Yc_func (g := 92) (vs := [pt B 0, gR_ r_3]) k_call_92 rfl (mc rfl (mc rfl mn)) (c_spec_l2C_ring (Tl2C.mk bad1) r_3 B _  (hS33.inn [true, false, false, false] rfl [] rfl) hc3)) ?_ ?_
       ·rintro _ w_23 ⟨rfl, hd13⟩
        have hS34 := hS33.out [true, false, false, false] rfl hd13
        have hS34 : ST w0 (bl [⟨B, 82, [.bool c.bad], 1⟩]) _ [⟨aD b, 65, [vi A, vi B1, vi C, vi D, vi Exp], 5⟩, ⟨aD b1, 65, [vi A1, vi B2, vi C1, vi D1, vi Exp1], 5⟩, ⟨aD b2, 65, kZ_, 5⟩, ⟨B, 82, [.bool m2.bad], 1⟩] [] := hS34
        refine ⟨(hS34.se [0, 2]), ?_⟩
        refine rq 8 34 (v := .agg #[vi r_4.A, vi r_4.B, vi r_4.C, vi r_4.D, vi (i64.wrap (Exp1 + 1))]) rfl (hS34.se [0, 2]) (fun w' hw' => (Y_buildS (zs := kZ_) (vs := [(0, gR_ r_4), (1, vi (i64.wrap (Exp1 + 1)))]) (cs := [vi r_4.A, vi r_4.B, vi r_4.C, vi r_4.D, vi (i64.wrap (Exp1 + 1))]) k_pl_65 k_zero_65 rfl (mpc rfl (mpc rfl mpn)) rfl)) ?_
        refine rA [9] ?_
        refine ra_s0 (i := 9) rfl rfl rfl (Ys_store (i := 1) (s := 5) (B := aD b1) (T' := 65) (v := .agg #[vi r_4.A, vi r_4.B, vi r_4.C, vi r_4.D, vi (i64.wrap (Exp1 + 1))]) (vs := [vi r_4.A, vi r_4.B, vi r_4.C, vi r_4.D, vi (i64.wrap (Exp1 + 1))]) (k := 0) (cs' := [vi r_4.A, vi r_4.B, vi r_4.C, vi r_4.D, vi (i64.wrap (Exp1 + 1))]) hS34 k_sz_65_5 rfl (hf2.get 5 2 rfl) rfl rfl rfl rfl rfl (lB rfl) rfl rfl) ?_ ?_
        ·rintro _ w_24 ⟨rfl, hS35⟩
         refine ⟨(hS35.se [0, 2]), ?_⟩
         refine ra_done (by kernel_rfl) ?_
         exact ⟨(FF.cons (hf2.get 0 0 rfl) (FF.cons (hf2.get 4 1 rfl) (FF.cons (hf2.get 5 2 rfl) (FF.cons (hf2.get 6 3 rfl) FF.nil)))), (hS35.sel [3, 0, 1, 2] rfl rfl)⟩
        exact allR_nil
       exact allR_nil
      exact allR_nil
     exact allR_nil
    exact allR_nil
   rintro f w ⟨hf3, hS23⟩
   obtain rfl := some_inj hF5
   exact ⟨k_3, Nat.lt_succ_self _, m2.bad, r_4.A, r_4.B, r_4.C, r_4.D, (i64.wrap (Exp1 + 1)), (FF.cons (hf3.get 0 0 rfl) (FF.cons (hf3.get 4 1 rfl) (FF.cons (hf3.get 5 2 rfl) (FF.cons (hf3.get 6 3 rfl) FF.nil)))), (hS23.sel [0, 1, 2, 3] rfl rfl), hL3⟩
  ·skip
   have hF6 := cf' hb2 hb3
   refine cw_exit rfl ?_
   obtain rfl := some_inj hF6
   obtain rfl := some_inj hL3
   refine cw_seq ?_
   obtain ⟨r_5, hc4, hF4⟩ := bind_inv hF4
   obtain ⟨⟨r_6, m3⟩, hc5, hF4⟩ := bind_inv hF4
   obtain ⟨r_7, hc6, hF4⟩ := bind_inv hF4
   refine ra_start (hS20.se [1, 2]).fn (by kernel_rfl) ?_
   have hS39 := hS20.drew
   refine rq 0 35 (v := pt B 0) rfl (hS39.se [1, 2]) (fun w' hw' => (Y_move (v := pt B 0) rfl (hf2.get 0 0 rfl))) ?_
   refine rq 1 36 (v := pt (aD b) 0) rfl (hS39.se [1, 2]) (fun w' hw' => (Y_fieldAddr (B := aD b) (i := 0) (s := 3) k_fd_65_0_0_63 k_sz_63_4 rfl (hf2.get 4 1 rfl))) ?_
   refine rq 2 37 (v := .agg #[vi A, vi B1, vi C, vi D]) rfl (hS39.se [1, 2]) (fun w' hw' => (Y_loadA (B := aD b) (i := 0) (cs := [vi A, vi B1, vi C, vi D, vi Exp]) (vs := [vi A, vi B1, vi C, vi D]) k_ag_63 k_sz_63_4 rfl rfl (ST.cf hw' (i := 0) rfl) rfl rfl)) ?_
   refine rq 3 38 (v := pt (aD b1) 0) rfl (hS39.se [1, 2]) (fun w' hw' => (Y_fieldAddr (B := aD b1) (i := 0) (s := 3) k_fd_65_0_0_63 k_sz_63_4 rfl (hf2.get 5 2 rfl))) ?_
   refine rq 4 39 (v := .agg #[vi A1, vi B2, vi C1, vi D1]) rfl (hS39.se [1, 2]) (fun w' hw' => (Y_loadA (B := aD b1) (i := 0) (cs := [vi A1, vi B2, vi C1, vi D1, vi Exp1]) (vs := [vi A1, vi B2, vi C1, vi D1]) k_ag_63 k_sz_63_4 rfl rfl (ST.cf hw' (i := 1) rfl) rfl rfl)) ?_
   refine rq 7 42 (v := pt (aD b) 4) rfl (hS39.se [1, 2]) (fun w' hw' => (Y_fieldAddr (B := aD b) (i := 0) (s := 0) k_fd_65_1_4_3 k_sz_3_1 rfl (hf2.get 4 1 rfl))) ?_
   refine rq 8 43 (v := vi Exp) rfl (hS39.se [1, 2]) (fun w' hw' => (Y_load1 (B := aD b) (i := 4) (cs := [vi A, vi B1, vi C, vi D, vi Exp]) (v := vi Exp) k_sc_3 rfl rfl (ST.cf hw' (i := 0) rfl) rfl)) ?_
   refine rA [5] ?_
   refine ra_c 40 (i := 5) rfl rfl rfl (Yc_func (g := 95) (vs := [.agg #[vi A, vi B1, vi C, vi D], .agg #[vi A1, vi B2, vi C1, vi D1]]) k_call_95 rfl (mc rfl (mc rfl mn)) (c_spec_l1Add (TRing.mk A B1 C D) (TRing.mk A1 B2 C1 D1) _  (hS39.inn0 [] rfl) hc4)) ?_ ?_
   ·rintro _ w_25 ⟨rfl, hd14⟩
    have hS40 := hS39.out00 hd14
    refine ⟨(hS40.se [1, 2]), ?_⟩
    refine rA [6] ?_
    refine ra_c 41 (i := 6) rfl rfl rfl (Yc_func (g := 92) (vs := [pt B 0, gR_ r_5]) k_call_92 rfl (mc rfl (mc rfl mn)) (c_spec_l2C_ring (Tl2C.mk bad1) r_5 B _  (hS40.inn [true, false, false, false] rfl [] rfl) hc5)) ?_ ?_
    ·rintro _ w_26 ⟨rfl, hd15⟩
     have hS41 := hS40.out [true, false, false, false] rfl hd15
     refine ⟨(hS41.se [0, 1]), ?_⟩
     refine rA [9] ?_
     refine ra_c 44 (i := 9) rfl rfl rfl (Yc_func (g := 91) (vs := [gR_ r_6, vi Exp]) k_call_91 rfl (mc rfl (mc rfl mn)) (c_spec_l2Low r_6 Exp _  (hS41.inn0 [] rfl) hc6)) ?_ ?_
     ·rintro _ w_27 ⟨rfl, hd16⟩
      have hS42 := hS41.out00 hd16
      refine ⟨(hS42.se [0, 1]), ?_⟩
      refine rA [10] ?_
      refine ra_s0 (i := 10) rfl rfl rfl (Ys_store (i := 2) (s := 5) (B := aD b2) (T' := 65) (v := gD_ r_7) (vs := kD_ r_7) (k := 0) (cs' := kD_ r_7) hS42 k_sz_65_5 rfl (hf2.get 6 3 rfl) rfl rfl rfl rfl rfl (lB rfl) rfl rfl) ?_ ?_
      ·rintro _ w_28 ⟨rfl, hS43⟩
       refine ⟨(hS43.se [0, 1]), ?_⟩
       refine ra_done (by kernel_rfl) ?_
       refine cw_ret ?_
       obtain ⟨rfl, rfl⟩ := pr2 (some_inj hF4)
       exact ret1 Tryz.results50 (v1 := gD_ r_7) (resAt_cellA (B := aD b2) (i := 0) (cs := kD_ r_7) (vs := kD_ r_7) (hf2.get 6 3 rfl) k_ag_65 k_sz_65_5 (hS43.cf (i := 2) rfl) rfl rfl) ⟨rfl, (hS43.sN [3])⟩
      exact allR_nil
     exact allR_nil
    exact allR_nil
   exact allR_nil

theorem c_spec_l2C_bloch (c : Tl2C) (a : TBloch) (b : TBloch) (B : Option Addr) (B1 : Option Addr) (c1 n : Nat) (B2 : Option Addr) (c2 n1 : Nat) (w0 : World) (hn : a.Cells.length = n) (hn1 : b.Cells.length = n1) (hS : ST w0 (bl [⟨B, 82, [.bool c.bad], 1⟩]) w0 [⟨B, 82, [.bool c.bad], 1⟩] [⟨B1, (a.Cells.flatMap eN0)⟩, ⟨B2, (b.Cells.flatMap eN0)⟩]) {r_ : TBloch} {m : Tl2C} (hF : F_spec_l2C_bloch c a b = some (r_, m)) :
  CV Tryz.prog 46 #[pt B 0, .agg #[.slice B1 n c1], .agg #[.slice B2 n1 c2]] w0 (fun v w' => ∃ (B3 : Option Addr) (c3 : Nat), v = (gB_ r_ B3 c3) ∧ ST w0 (bl [⟨B, 82, [.bool c.bad], 1⟩]) w' [⟨B, 82, [.bool m.bad], 1⟩, ⟨B3, 65, (r_.Cells.flatMap eN0), c3 * 5⟩] []) := by
 subst hn
 subst hn1
 unfold F_spec_l2C_bloch at hF
 refine cv_of_cw 53 Tryz.func46 rfl Tryz.ntmps46 rfl ?_
 refine cw_seq (cw_region ?_)
 refine sS 4 (Ys_box (T := 30) (v := gB_ a B1 c1) (cs := kB_ a B1 c1) (m := 1) hS rfl rfl rfl rfl) ?_
 rintro _ w_ ⟨b1, rfl, hS1⟩
 refine sS 5 (Ys_box (T := 30) (v := gB_ b B2 c2) (cs := kB_ b B2 c2) (m := 1) hS1 rfl rfl rfl rfl) ?_
 rintro _ w_1 ⟨b2, rfl, hS2⟩
 refine sS 6 (Ys_alloc (T := 30) (cs := [.slice none 0 0]) (m := 1) hS2 k_zero_30 rfl rfl rfl) ?_
 rintro _ w_2 ⟨b3, rfl, hS3⟩
 refine rw_nil (cw_seq (cw_region ?_))
 refine sS 7 (Ys_alloc (T := 30) (cs := [.slice none 0 0]) (m := 1) hS3 k_zero_30 rfl rfl rfl) ?_
 rintro _ w_3 ⟨b4, rfl, hS4⟩
 refine rw_nil (cw_seq (cw_seq (cw_region ?_)))
 refine sQ 8 (Y_assign (v := vi 0) rfl rfl) (rw_nil ?_)
 obtain ⟨z, hz, hF1⟩ := bind_inv hF
 have hS6 := hS4.addNil 65
 refine cw_block ?_
 refine cw_loop (fun k f w => ∃ (i1 : Nat) (bad : Bool) (Cells : List TDyadic) (B4 : Option Addr) (c4 : Nat), FF f [(0, pt B 0), (4, pt (aD b1) 0), (5, pt (aD b2) 0), (6, pt (aD b3) 0), (7, pt (aD b4) 0), (8, vi (i1 : Int))] ∧ ST w0 (bl [⟨B, 82, [.bool c.bad], 1⟩]) w [⟨B, 82, [.bool bad], 1⟩, ⟨aD b1, 30, kB_ a B1 c1, 1⟩, ⟨aD b2, 30, kB_ b B2 c2, 1⟩, ⟨aD b3, 30, [.slice none 0 0], 1⟩, ⟨aD b4, 30, [.slice B4 Cells.length c4], 1⟩, ⟨B4, 65, (Cells.flatMap eN0), c4 * 5⟩] [⟨B1, (a.Cells.flatMap eN0)⟩, ⟨B2, (b.Cells.flatMap eN0)⟩] ∧ i1 + k = 3 ∧ forN (F_spec_l2C_bloch_l1 a b) k i1 (bad, Cells) = some z) 3 ⟨0, c.bad, [], none, 0, (FF.cons rfl (FF.cons rfl (FF.cons rfl (FF.cons rfl (FF.cons rfl (FF.cons rfl FF.nil)))))), (hS6.sel [0, 1, 2, 3, 4, 5] rfl rfl), Nat.zero_add _, hz⟩ ?_
 rintro k_ f w ⟨i1, bad, Cells, B4, c4, hf, hS5, hik, hL⟩
 refine cw_seq (cw_seq (cw_region ?_))
 refine sQ 12 (Y_move (v := vi (i1 : Int)) rfl (hf.get 8 5 rfl)) ?_
 refine sQ 13 (Y_lt (k := .i64) (a := (i1 : Int)) (b := 3) rfl rfl rfl) (rw_nil ?_)
 refine cw_cond (b := (decide ((i1 : Int) < 3))) rfl (fun hlt => ?_) (fun hlt => ?_)
 ·skip
  have hlt1 : i1 < 3 := by have h := of_decide_eq_true hlt; omega
  obtain ⟨k_1, rfl⟩ : ∃ k2, k_ = k2 + 1 := ⟨k_ - 1, by omega⟩
  obtain ⟨y, hb, hL1⟩ := forN_go hL
  unfold F_spec_l2C_bloch_l1 at hb
  refine cw_skip (cw_seq (cw_block (cw_seq (cw_region ?_))))
  refine sQ 9 (Y_assign (v := vi 0) rfl rfl) (rw_nil ?_)
  obtain ⟨z1, hz1, hF2⟩ := bind_inv hb
  refine cw_block ?_
  refine cw_loop (fun k f w => ∃ (j : Nat) (bad1 : Bool) (Cells1 : List TDyadic) (B5 : Option Addr) (c5 : Nat), FF f [(0, pt B 0), (4, pt (aD b1) 0), (5, pt (aD b2) 0), (6, pt (aD b3) 0), (7, pt (aD b4) 0), (8, vi (i1 : Int)), (9, vi (j : Int))] ∧ ST w0 (bl [⟨B, 82, [.bool c.bad], 1⟩]) w [⟨B, 82, [.bool bad1], 1⟩, ⟨aD b1, 30, kB_ a B1 c1, 1⟩, ⟨aD b2, 30, kB_ b B2 c2, 1⟩, ⟨aD b3, 30, [.slice none 0 0], 1⟩, ⟨aD b4, 30, [.slice B5 Cells1.length c5], 1⟩, ⟨B5, 65, (Cells1.flatMap eN0), c5 * 5⟩] [⟨B1, (a.Cells.flatMap eN0)⟩, ⟨B2, (b.Cells.flatMap eN0)⟩] ∧ j + k = 3 ∧ forN (F_spec_l2C_bloch_l2 a Cells i1 b bad) k j (bad1, Cells1) = some z1) 3 ⟨0, bad, Cells, B4, c4, (FF.cons (hf.get 0 0 rfl) (FF.cons (hf.get 4 1 rfl) (FF.cons (hf.get 5 2 rfl) (FF.cons (hf.get 6 3 rfl) (FF.cons (hf.get 7 4 rfl) (FF.cons (hf.get 8 5 rfl) (FF.cons rfl FF.nil))))))), (hS5.sel [0, 1, 2, 3, 4, 5] rfl rfl), Nat.zero_add _, hz1⟩ ?_
  rintro k_2 f w ⟨j, bad1, Cells1, B5, c5, hf1, hS7, hik1, hL2⟩
  refine cw_seq (cw_seq (cw_region ?_))
  refine sQ 16 (Y_move (v := vi (j : Int)) rfl (hf1.get 9 6 rfl)) ?_
  refine sQ 17 (Y_lt (k := .i64) (a := (j : Int)) (b := 3) rfl rfl rfl) (rw_nil ?_)
  refine cw_cond (b := (decide ((j : Int) < 3))) rfl (fun hlt2 => ?_) (fun hlt2 => ?_)
  ·skip
   have hlt3 : j < 3 := by have h := of_decide_eq_true hlt2; omega
   obtain ⟨k_3, rfl⟩ : ∃ k2, k_2 = k2 + 1 := ⟨k_2 - 1, by omega⟩
   obtain ⟨y1, hb1, hL3⟩ := forN_go hL2
   unfold F_spec_l2C_bloch_l2 at hb1
   refine cw_skip (cw_seq (cw_block (cw_seq (cw_region ?_))))
   refine sQ 20 (Y_buildS (zs := kZ_) (vs := []) (cs := kZ_) k_pl_65 k_zero_65 rfl mpn rfl) ?_
   refine sS 10 (Ys_alloc (T := 65) (cs := kZ_) (m := 5) hS7 k_zero_65 rfl rfl rfl) ?_
   rintro _ w_4 ⟨b5, rfl, hS8⟩
   refine s0 (Ys_store (i := 6) (s := 5) (B := aD b5) (T' := 65) (v := gZ_) (vs := kZ_) (k := 0) (cs' := kZ_) hS8 k_sz_65_5 rfl rfl rfl rfl rfl rfl rfl (lB rfl) rfl rfl) ?_
   rintro _ w_5 ⟨rfl, hS9⟩
   refine rw_nil (cw_seq (cw_seq (cw_region ?_)))
   refine sQ 11 (Y_assign (v := vi 0) rfl rfl) (rw_nil ?_)
   obtain ⟨z2, hz2, hF3⟩ := bind_inv hb1
   refine cw_block ?_
   refine cw_loop (fun k f w => ∃ (k_4 : Nat) (bad2 : Bool) (A : Int) (B6 : Int) (C : Int) (D : Int) (Exp : Int), FF f [(0, pt B 0), (4, pt (aD b1) 0), (5, pt (aD b2) 0), (6, pt (aD b3) 0), (7, pt (aD b4) 0), (8, vi (i1 : Int)), (9, vi (j : Int)), (10, pt (aD b5) 0), (11, vi (k_4 : Int))] ∧ ST w0 (bl [⟨B, 82, [.bool c.bad], 1⟩]) w [⟨B, 82, [.bool bad2], 1⟩, ⟨aD b1, 30, kB_ a B1 c1, 1⟩, ⟨aD b2, 30, kB_ b B2 c2, 1⟩, ⟨aD b3, 30, [.slice none 0 0], 1⟩, ⟨aD b4, 30, [.slice B5 Cells1.length c5], 1⟩, ⟨B5, 65, (Cells1.flatMap eN0), c5 * 5⟩, ⟨aD b5, 65, [vi A, vi B6, vi C, vi D, vi Exp], 5⟩] [⟨B1, (a.Cells.flatMap eN0)⟩, ⟨B2, (b.Cells.flatMap eN0)⟩] ∧ k_4 + k = 3 ∧ forN (F_spec_l2C_bloch_l3 a Cells i1 b j bad) k k_4 (bad2, A, B6, C, D, Exp) = some z2) 3 ⟨0, bad1, 0, 0, 0, 0, 0, (FF.cons (hf1.get 0 0 rfl) (FF.cons (hf1.get 4 1 rfl) (FF.cons (hf1.get 5 2 rfl) (FF.cons (hf1.get 6 3 rfl) (FF.cons (hf1.get 7 4 rfl) (FF.cons (hf1.get 8 5 rfl) (FF.cons (hf1.get 9 6 rfl) (FF.cons rfl (FF.cons rfl FF.nil))))))))), (hS9.sel [0, 1, 2, 3, 4, 5, 6] rfl rfl), Nat.zero_add _, hz2⟩ ?_
   rintro k_5 f w ⟨k_4, bad2, A, B6, C, D, Exp, hf2, hS10, hik2, hL4⟩
   refine cw_seq (cw_seq (cw_region ?_))
   refine sQ 21 (Y_move (v := vi (k_4 : Int)) rfl (hf2.get 11 8 rfl)) ?_
   refine sQ 22 (Y_lt (k := .i64) (a := (k_4 : Int)) (b := 3) rfl rfl rfl) (rw_nil ?_)
   refine cw_cond (b := (decide ((k_4 : Int) < 3))) rfl (fun hlt4 => ?_) (fun hlt4 => ?_)
   ·skip
    have hlt5 : k_4 < 3 := by have h := of_decide_eq_true hlt4; omega
    obtain ⟨k_6, rfl⟩ : ∃ k2, k_5 = k2 + 1 := ⟨k_5 - 1, by omega⟩
    obtain ⟨y2, hb2, hL5⟩ := forN_go hL4
    unfold F_spec_l2C_bloch_l3 at hb2
    refine cw_skip (cw_seq (cw_block ?_))
    obtain ⟨x, hx, hb2⟩ := bind_inv hb2
    obtain ⟨x1, hx1, hb2⟩ := bind_inv hb2
    obtain ⟨⟨r_1, m1⟩, hc, hb2⟩ := bind_inv hb2
    obtain ⟨⟨r_2, m2⟩, hc1, hb2⟩ := bind_inv hb2
    refine cw_mid (fun f w => FF f [(0, pt B 0), (4, pt (aD b1) 0), (5, pt (aD b2) 0), (6, pt (aD b3) 0), (7, pt (aD b4) 0), (8, vi (i1 : Int)), (9, vi (j : Int)), (10, pt (aD b5) 0), (11, vi (k_4 : Int))] ∧ ST w0 (bl [⟨B, 82, [.bool c.bad], 1⟩]) w [⟨B, 82, [.bool m2.bad], 1⟩, ⟨aD b1, 30, kB_ a B1 c1, 1⟩, ⟨aD b2, 30, kB_ b B2 c2, 1⟩, ⟨aD b3, 30, [.slice none 0 0], 1⟩, ⟨aD b4, 30, [.slice B5 Cells1.length c5], 1⟩, ⟨B5, 65, (Cells1.flatMap eN0), c5 * 5⟩, ⟨aD b5, 65, kD_ r_2, 5⟩] [⟨B1, (a.Cells.flatMap eN0)⟩, ⟨B2, (b.Cells.flatMap eN0)⟩]) ?_ ?_
    ·skip
     refine ra_start (hS10.se [1, 2, 3, 4, 5]).fn (by kernel_rfl) ?_
     have hS14 := hS10.drew
     refine rq 0 25 (v := pt B 0) rfl (hS14.se [1, 2, 3, 4, 5]) (fun w' hw' => (Y_move (v := pt B 0) rfl (hf2.get 0 0 rfl))) ?_
     refine rq 2 27 (v := pt B 0) rfl (hS14.se [1, 2, 3, 4, 5]) (fun w' hw' => (Y_move (v := pt B 0) rfl (hf2.get 0 0 rfl))) ?_
     refine rq 3 28 (v := pt (aD b1) 0) rfl (hS14.se [1, 2, 3, 4, 5]) (fun w' hw' => (Y_fieldAddr (B := aD b1) (i := 0) (s := 0) k_fd_30_0_0_28 k_sz_28_1 rfl (hf2.get 4 1 rfl))) ?_
     refine rq 4 29 (v := .slice B1 a.Cells.length c1) rfl (hS14.se [1, 2, 3, 4, 5]) (fun w' hw' => (Y_load1 (B := aD b1) (i := 0) (cs := kB_ a B1 c1) (v := .slice B1 a.Cells.length c1) k_sc_28 rfl rfl (ST.cf hw' (i := 0) rfl) rfl)) ?_
     refine rq 5 30 (v := vi (i1 : Int)) rfl (hS14.se [1, 2, 3, 4, 5]) (fun w' hw' => (Y_move (v := vi (i1 : Int)) rfl (hf2.get 8 5 rfl))) ?_
     refine rq 6 31 (v := vi (i64.wrap (3 * (i1 : Int)))) rfl (hS14.se [1, 2, 3, 4, 5]) (fun w' hw' => (Y_mul (k := .i64) (a := 3) (b := (i1 : Int)) rfl rfl rfl)) ?_
     refine rq 7 32 (v := vi (k_4 : Int)) rfl (hS14.se [1, 2, 3, 4, 5]) (fun w' hw' => (Y_move (v := vi (k_4 : Int)) rfl (hf2.get 11 8 rfl))) ?_
     refine rq 8 33 (v := vi (i64.wrap ((i64.wrap (3 * (i1 : Int))) + (k_4 : Int)))) rfl (hS14.se [1, 2, 3, 4, 5]) (fun w' hw' => (Y_add (k := .i64) (a := (i64.wrap (3 * (i1 : Int)))) (b := (k_4 : Int)) rfl rfl rfl)) ?_
     refine rq 9 34 (v := pt B1 ((i64.wrap ((i64.wrap (3 * (i1 : Int))) + (k_4 : Int))).toNat * 5)) rfl (hS14.se [1, 2, 3, 4, 5]) (fun w' hw' => (Y_index (B := B1) (m := a.Cells.length) (c := c1) (k := .i64) (i := (i64.wrap ((i64.wrap (3 * (i1 : Int))) + (k_4 : Int)))) k_sl_28_65 k_sz_65_5 rfl rfl rfl (gi_isSome eN2 rfl (ST.rf hw' (i := 0) rfl) hx) (getI_nn hx) (getI_ltI hx rfl))) ?_
     refine rq 10 35 (v := gD_ x) rfl (hS14.se [1, 2, 3, 4, 5]) (fun w' hw' => (Y_loadA (B := B1) (i := (i64.wrap ((i64.wrap (3 * (i1 : Int))) + (k_4 : Int))).toNat * 5) (cs := (a.Cells.flatMap eN0)) (vs := kD_ x) k_ag_65 k_sz_65_5 rfl rfl (ST.rf hw' (i := 0) rfl) (eN2 x) (gi_seg eN2 hx))) ?_
     refine rq 11 36 (v := pt (aD b2) 0) rfl (hS14.se [1, 2, 3, 4, 5]) (fun w' hw' => (Y_fieldAddr (B := aD b2) (i := 0) (s := 0) k_fd_30_0_0_28 k_sz_28_1 rfl (hf2.get 5 2 rfl))) ?_
     refine rq 12 37 (v := .slice B2 b.Cells.length c2) rfl (hS14.se [1, 2, 3, 4, 5]) (fun w' hw' => (Y_load1 (B := aD b2) (i := 0) (cs := kB_ b B2 c2) (v := .slice B2 b.Cells.length c2) k_sc_28 rfl rfl (ST.cf hw' (i := 1) rfl) rfl)) ?_
     refine rq 13 38 (v := vi (k_4 : Int)) rfl (hS14.se [1, 2, 3, 4, 5]) (fun w' hw' => (Y_move (v := vi (k_4 : Int)) rfl (hf2.get 11 8 rfl))) ?_
     refine rq 14 39 (v := vi (i64.wrap (3 * (k_4 : Int)))) rfl (hS14.se [1, 2, 3, 4, 5]) (fun w' hw' => (Y_mul (k := .i64) (a := 3) (b := (k_4 : Int)) rfl rfl rfl)) ?_
     refine rq 15 40 (v := vi (j : Int)) rfl (hS14.se [1, 2, 3, 4, 5]) (fun w' hw' => (Y_move (v := vi (j : Int)) rfl (hf2.get 9 6 rfl))) ?_
     refine rq 16 41 (v := vi (i64.wrap ((i64.wrap (3 * (k_4 : Int))) + (j : Int)))) rfl (hS14.se [1, 2, 3, 4, 5]) (fun w' hw' => (Y_add (k := .i64) (a := (i64.wrap (3 * (k_4 : Int)))) (b := (j : Int)) rfl rfl rfl)) ?_
     refine rq 17 42 (v := pt B2 ((i64.wrap ((i64.wrap (3 * (k_4 : Int))) + (j : Int))).toNat * 5)) rfl (hS14.se [1, 2, 3, 4, 5]) (fun w' hw' => (Y_index (B := B2) (m := b.Cells.length) (c := c2) (k := .i64) (i := (i64.wrap ((i64.wrap (3 * (k_4 : Int))) + (j : Int)))) k_sl_28_65 k_sz_65_5 rfl rfl rfl (gi_isSome eN2 rfl (ST.rf hw' (i := 1) rfl) hx1) (getI_nn hx1) (getI_ltI hx1 rfl))) ?_
     refine rq 18 43 (v := gD_ x1) rfl (hS14.se [1, 2, 3, 4, 5]) (fun w' hw' => (Y_loadA (B := B2) (i := (i64.wrap ((i64.wrap (3 * (k_4 : Int))) + (j : Int))).toNat * 5) (cs := (b.Cells.flatMap eN0)) (vs := kD_ x1) k_ag_65 k_sz_65_5 rfl rfl (ST.rf hw' (i := 1) rfl) (eN2 x1) (gi_seg eN2 hx1))) ?_
     refine rA [1, 19] ?_
     refine ra_y 26 (i := 1) (v := .agg #[vi A, vi B6, vi C, vi D, vi Exp]) rfl rfl rfl (Y_loadA (B := aD b5) (i := 0) (cs := [vi A, vi B6, vi C, vi D, vi Exp]) (vs := [vi A, vi B6, vi C, vi D, vi Exp]) k_ag_65 k_sz_65_5 rfl (hf2.get 10 7 rfl) (hS14.cf (i := 6) rfl) rfl rfl) (hS14.se [1, 2, 3, 4, 5]) ?_ ?_
     ·skip
      refine rA [19] ?_
      refine ra_c 44 (i := 19) rfl rfl rfl (Yc_func (g := 48) (vs := [pt B 0, gD_ x, gD_ x1]) k_call_48 rfl (mc rfl (mc rfl (mc rfl mn))) (c_spec_l2C_mul (Tl2C.mk bad2) x x1 B _  (hS14.inn [true, false, false, false, false, false, false] rfl [] rfl) hc)) ?_ ?_
      ·rintro _ w_6 ⟨rfl, hd⟩
       have hS15 := hS14.out [true, false, false, false, false, false, false] rfl hd
       refine ⟨(hS15.se [0, 1, 2, 3, 4]), ?_⟩
       refine rA [20] ?_
       refine ra_c 45 (i := 20) rfl rfl rfl (Yc_func (g := 50) (vs := [pt B 0, .agg #[vi A, vi B6, vi C, vi D, vi Exp], gD_ r_1]) k_call_50 rfl (mc rfl (mc rfl (mc rfl mn))) (c_spec_l2C_add m1 (TDyadic.mk (TRing.mk A B6 C D) Exp) r_1 B _  (hS15.inn [false, false, false, false, false, false, true] rfl [] rfl) hc1)) ?_ ?_
       ·rintro _ w_7 ⟨rfl, hd1⟩
        have hS16 := hS15.out [false, false, false, false, false, false, true] rfl hd1
        have hS16 : ST w0 (bl [⟨B, 82, [.bool c.bad], 1⟩]) _ [⟨aD b1, 30, kB_ a B1 c1, 1⟩, ⟨aD b2, 30, kB_ b B2 c2, 1⟩, ⟨aD b3, 30, [.slice none 0 0], 1⟩, ⟨aD b4, 30, [.slice B5 Cells1.length c5], 1⟩, ⟨B5, 65, (Cells1.flatMap eN0), c5 * 5⟩, ⟨aD b5, 65, [vi A, vi B6, vi C, vi D, vi Exp], 5⟩, ⟨B, 82, [.bool m2.bad], 1⟩] [⟨B1, (a.Cells.flatMap eN0)⟩, ⟨B2, (b.Cells.flatMap eN0)⟩] := hS16
        refine ⟨(hS16.se [0, 1, 2, 3, 4]), ?_⟩
        refine rA [21] ?_
        refine ra_s0 (i := 21) rfl rfl rfl (Ys_store (i := 5) (s := 5) (B := aD b5) (T' := 65) (v := gD_ r_2) (vs := kD_ r_2) (k := 0) (cs' := kD_ r_2) hS16 k_sz_65_5 rfl (hf2.get 10 7 rfl) rfl rfl rfl rfl rfl (lB rfl) rfl rfl) ?_ ?_
        ·rintro _ w_8 ⟨rfl, hS17⟩
         refine ⟨(hS17.se [0, 1, 2, 3, 4]), ?_⟩
         refine ra_done (by kernel_rfl) ?_
         exact ⟨(FF.cons (hf2.get 0 0 rfl) (FF.cons (hf2.get 4 1 rfl) (FF.cons (hf2.get 5 2 rfl) (FF.cons (hf2.get 6 3 rfl) (FF.cons (hf2.get 7 4 rfl) (FF.cons (hf2.get 8 5 rfl) (FF.cons (hf2.get 9 6 rfl) (FF.cons (hf2.get 10 7 rfl) (FF.cons (hf2.get 11 8 rfl) FF.nil))))))))), (hS17.sel [6, 0, 1, 2, 3, 4, 5] rfl rfl)⟩
        exact allR_nil
       exact allR_nil
      exact allR_nil
     refine ra_c 44 (i := 19) rfl rfl rfl (Yc_func (g := 48) (vs := [pt B 0, gD_ x, gD_ x1]) k_call_48 rfl (mc rfl (mc rfl (mc rfl mn))) (c_spec_l2C_mul (Tl2C.mk bad2) x x1 B _  (hS14.inn [true, false, false, false, false, false, false] rfl [] rfl) hc)) ?_ ?_
     ·rintro _ w_9 ⟨rfl, hd2⟩
      have hS18 := hS14.out [true, false, false, false, false, false, false] rfl hd2
      refine ⟨(hS18.se [0, 1, 2, 3, 4]), ?_⟩
      refine rA [1] ?_
      refine ra_y 26 (i := 1) (v := .agg #[vi A, vi B6, vi C, vi D, vi Exp]) rfl rfl rfl (Y_loadA (B := aD b5) (i := 0) (cs := [vi A, vi B6, vi C, vi D, vi Exp]) (vs := [vi A, vi B6, vi C, vi D, vi Exp]) k_ag_65 k_sz_65_5 rfl (hf2.get 10 7 rfl) (hS18.cf (i := 5) rfl) rfl rfl) (hS18.se [0, 1, 2, 3, 4]) ?_ ?_
      ·skip
       refine rA [20] ?_
       refine ra_c 45 (i := 20) rfl rfl rfl (Yc_func (g := 50) (vs := [pt B 0, .agg #[vi A, vi B6, vi C, vi D, vi Exp], gD_ r_1]) k_call_50 rfl (mc rfl (mc rfl (mc rfl mn))) (c_spec_l2C_add m1 (TDyadic.mk (TRing.mk A B6 C D) Exp) r_1 B _  (hS18.inn [false, false, false, false, false, false, true] rfl [] rfl) hc1)) ?_ ?_
       ·rintro _ w_10 ⟨rfl, hd3⟩
        have hS19 := hS18.out [false, false, false, false, false, false, true] rfl hd3
        refine ⟨(hS19.se [0, 1, 2, 3, 4]), ?_⟩
        refine rA [21] ?_
        refine ra_s0 (i := 21) rfl rfl rfl (Ys_store (i := 5) (s := 5) (B := aD b5) (T' := 65) (v := gD_ r_2) (vs := kD_ r_2) (k := 0) (cs' := kD_ r_2) hS19 k_sz_65_5 rfl (hf2.get 10 7 rfl) rfl rfl rfl rfl rfl (lB rfl) rfl rfl) ?_ ?_
        ·rintro _ w_11 ⟨rfl, hS20⟩
         refine ⟨(hS20.se [0, 1, 2, 3, 4]), ?_⟩
         refine ra_done (by kernel_rfl) ?_
         exact ⟨(FF.cons (hf2.get 0 0 rfl) (FF.cons (hf2.get 4 1 rfl) (FF.cons (hf2.get 5 2 rfl) (FF.cons (hf2.get 6 3 rfl) (FF.cons (hf2.get 7 4 rfl) (FF.cons (hf2.get 8 5 rfl) (FF.cons (hf2.get 9 6 rfl) (FF.cons (hf2.get 10 7 rfl) (FF.cons (hf2.get 11 8 rfl) FF.nil))))))))), (hS20.sel [6, 0, 1, 2, 3, 4, 5] rfl rfl)⟩
        exact allR_nil
       exact allR_nil
      exact allR_nil
     exact allR_nil
    rintro f w ⟨hf3, hS13⟩
    refine cw_region ?_
    refine sQ 23 (Y_move (v := vi (k_4 : Int)) rfl (hf3.get 11 8 rfl)) ?_
    refine sQ 24 (Y_add (k := .i64) (a := (k_4 : Int)) (b := 1) rfl rfl rfl) ?_
    refine sQ 11 (Y_assign (v := vi (i64.wrap ((k_4 : Int) + 1))) rfl rfl) (rw_nil ?_)
    obtain rfl := some_inj hb2
    exact ⟨k_6, Nat.lt_succ_self _, k_4 + 1, m2.bad, r_2.Num.A, r_2.Num.B, r_2.Num.C, r_2.Num.D, r_2.Exp, (FF.cons (hf3.get 0 0 rfl) (FF.cons (hf3.get 4 1 rfl) (FF.cons (hf3.get 5 2 rfl) (FF.cons (hf3.get 6 3 rfl) (FF.cons (hf3.get 7 4 rfl) (FF.cons (hf3.get 8 5 rfl) (FF.cons (hf3.get 9 6 rfl) (FF.cons (hf3.get 10 7 rfl) (FF.cons (congrArg (Value.int .i64) (wr_succ hlt5 (show 3 ≤ 9223372036854775807 by decide))) FF.nil))))))))), (hS13.sel [0, 1, 2, 3, 4, 5, 6] rfl rfl), (by omega), hL5⟩
   ·skip
    obtain rfl : k_5 = 0 := by have h := of_decide_eq_false hlt4; omega
    refine cw_exit rfl ?_
    obtain rfl := some_inj hL4
    refine cw_region ?_
    refine sQ 46 (Y_fieldAddr (B := aD b4) (i := 0) (s := 0) k_fd_30_0_0_28 k_sz_28_1 rfl (hf2.get 7 4 rfl)) ?_
    refine sQ 47 (Y_load1 (B := aD b4) (i := 0) (cs := [.slice B5 Cells1.length c5]) (v := .slice B5 Cells1.length c5) k_sc_28 rfl rfl (hS10.cf (i := 4) rfl) rfl) ?_
    refine sQ 48 (Y_loadA (B := aD b5) (i := 0) (cs := [vi A, vi B6, vi C, vi D, vi Exp]) (vs := [vi A, vi B6, vi C, vi D, vi Exp]) k_ag_65 k_sz_65_5 rfl (hf2.get 10 7 rfl) (hS10.cf (i := 6) rfl) rfl rfl) ?_
    refine sS 49 (Ys_bslice (s := 5) (len := 1) (vs := [(0, .agg #[vi A, vi B6, vi C, vi D, vi Exp])]) (cs := [vi A, vi B6, vi C, vi D, vi Exp]) (zs := kZ_) (m := 5) hS10 k_sl_28_65 k_sz_65_5 k_zc_65 rfl (mpc rfl mpn) rfl rfl rfl (by kernel_rfl) (by kernel_rfl) rfl) ?_
    rintro _ w_12 ⟨b6, rfl, hS21⟩
    obtain ⟨hap, hF3⟩ := chk_inv hF3
    refine sS 50 (Ys_append (s := 5) (by' := 40) (i := 5) (nn := Cells1.length) (c := c5) (k := 1) (len := (Cells1 ++ [(TDyadic.mk (TRing.mk A B6 C D) Exp)]).length) (B := B5) (xs := ([(TDyadic.mk (TRing.mk A B6 C D) Exp)].flatMap eN0)) (cs' := ((Cells1 ++ [(TDyadic.mk (TRing.mk A B6 C D) Exp)]).flatMap eN0)) hS21 k_sl_28_65 k_sz_65_5 k_by_65_40 k_zero_65 rfl (by decide) rfl rfl rfl rfl (fm_lenn (l := Cells1) eN2 rfl) rfl (hS21.cf (i := 7) rfl) (fm_lenn (l := [(TDyadic.mk (TRing.mk A B6 C D) Exp)]) eN2 rfl) (fm_one' (enc := eN0) enc_Dyadic_one [(TDyadic.mk (TRing.mk A B6 C D) Exp)]) (by have := hap; omega) (by have := hap; simp only [maxLen]; omega) (fm_app _ _) (app_len (l := Cells1) (l' := [(TDyadic.mk (TRing.mk A B6 C D) Exp)]) rfl rfl)) ?_
    rintro _ w_13 ⟨B7, c6, rfl, hS22⟩
    refine sQ 51 (Y_fieldAddr (B := aD b4) (i := 0) (s := 0) k_fd_30_0_0_28 k_sz_28_1 rfl (hf2.get 7 4 rfl)) ?_
    refine s0 (Ys_store (i := 4) (s := 1) (B := aD b4) (T' := 30) (v := .slice B7 ((Cells1 ++ [(TDyadic.mk (TRing.mk A B6 C D) Exp)]).length) c6) (vs := [.slice B7 ((Cells1 ++ [(TDyadic.mk (TRing.mk A B6 C D) Exp)]).length) c6]) (k := 0) (cs' := [.slice B7 ((Cells1 ++ [(TDyadic.mk (TRing.mk A B6 C D) Exp)]).length) c6]) hS22 k_sz_28_1 rfl rfl rfl rfl rfl rfl rfl (lB rfl) rfl rfl) ?_
    rintro _ w_14 ⟨rfl, hS23⟩
    refine rw_nil (cw_region ?_)
    refine sQ 18 (Y_move (v := vi (j : Int)) rfl (hf2.get 9 6 rfl)) ?_
    refine sQ 19 (Y_add (k := .i64) (a := (j : Int)) (b := 1) rfl rfl rfl) ?_
    refine sQ 9 (Y_assign (v := vi (i64.wrap ((j : Int) + 1))) rfl rfl) (rw_nil ?_)
    obtain rfl := some_inj hF3
    exact ⟨k_3, Nat.lt_succ_self _, j + 1, bad2, (Cells1 ++ [(TDyadic.mk (TRing.mk A B6 C D) Exp)]), B7, c6, (FF.cons (hf2.get 0 0 rfl) (FF.cons (hf2.get 4 1 rfl) (FF.cons (hf2.get 5 2 rfl) (FF.cons (hf2.get 6 3 rfl) (FF.cons (hf2.get 7 4 rfl) (FF.cons (hf2.get 8 5 rfl) (FF.cons (congrArg (Value.int .i64) (wr_succ hlt3 (show 3 ≤ 9223372036854775807 by decide))) FF.nil))))))), (hS23.sel [0, 1, 2, 3, 4, 5] rfl rfl), (by omega), hL3⟩
  ·skip
   obtain rfl : k_2 = 0 := by have h := of_decide_eq_false hlt2; omega
   refine cw_exit rfl ?_
   obtain rfl := some_inj hL2
   refine cw_region ?_
   refine sQ 14 (Y_move (v := vi (i1 : Int)) rfl (hf1.get 8 5 rfl)) ?_
   refine sQ 15 (Y_add (k := .i64) (a := (i1 : Int)) (b := 1) rfl rfl rfl) ?_
   refine sQ 8 (Y_assign (v := vi (i64.wrap ((i1 : Int) + 1))) rfl rfl) (rw_nil ?_)
   obtain rfl := some_inj hF2
   exact ⟨k_1, Nat.lt_succ_self _, i1 + 1, bad1, Cells1, B5, c5, (FF.cons (hf1.get 0 0 rfl) (FF.cons (hf1.get 4 1 rfl) (FF.cons (hf1.get 5 2 rfl) (FF.cons (hf1.get 6 3 rfl) (FF.cons (hf1.get 7 4 rfl) (FF.cons (congrArg (Value.int .i64) (wr_succ hlt1 (show 3 ≤ 9223372036854775807 by decide))) FF.nil)))))), (hS7.sel [0, 1, 2, 3, 4, 5] rfl rfl), (by omega), hL1⟩
 ·skip
  obtain rfl : k_ = 0 := by have h := of_decide_eq_false hlt; omega
  refine cw_exit rfl ?_
  obtain rfl := some_inj hL
  refine cw_seq (cw_region ?_)
  refine sQ 52 (Y_loadA (B := aD b4) (i := 0) (cs := [.slice B4 Cells.length c4]) (vs := [.slice B4 Cells.length c4]) k_ag_30 k_sz_30_1 rfl (hf.get 7 4 rfl) (hS5.cf (i := 4) rfl) rfl rfl) ?_
  refine s0 (Ys_store (i := 3) (s := 1) (B := aD b3) (T' := 30) (v := .agg #[.slice B4 Cells.length c4]) (vs := [.slice B4 Cells.length c4]) (k := 0) (cs' := [.slice B4 Cells.length c4]) hS5 k_sz_30_1 rfl (hf.get 6 3 rfl) rfl rfl rfl rfl rfl (lB rfl) rfl rfl) ?_
  rintro _ w_15 ⟨rfl, hS24⟩
  have hS24 : ST w0 (bl [⟨B, 82, [.bool c.bad], 1⟩]) _ [⟨B, 82, [.bool bad], 1⟩, ⟨aD b1, 30, kB_ a B1 c1, 1⟩, ⟨aD b2, 30, kB_ b B2 c2, 1⟩, ⟨aD b3, 30, [.slice B4 Cells.length c4], 1⟩, ⟨aD b4, 30, [.slice B4 Cells.length c4], 1⟩, ⟨B4, 65, (Cells.flatMap eN0), c4 * 5⟩] [⟨B1, (a.Cells.flatMap eN0)⟩, ⟨B2, (b.Cells.flatMap eN0)⟩] := hS24
  refine rw_nil (cw_ret ?_)
  obtain ⟨rfl, rfl⟩ := pr2 (some_inj hF1)
  exact ret1 Tryz.results46 (v1 := .agg #[.slice B4 Cells.length c4]) (resAt_cellA (B := aD b3) (i := 0) (cs := [.slice B4 Cells.length c4]) (vs := [.slice B4 Cells.length c4]) (hf.get 6 3 rfl) k_ag_30 k_sz_30_1 (hS24.cf (i := 3) rfl) rfl rfl) ⟨B4, c4, rfl, (hS24.sN [0, 5])⟩

theorem c_spec_l9Turn (b : TBloch) (B : Option Addr) (c n : Nat) (w0 : World) (hn : b.Cells.length = n) (hS : ST w0 [] w0 [] [⟨B, (b.Cells.flatMap eN0)⟩]) {r_ : TBloch} (hF : F_spec_l9Turn b = some r_) :
  CV Tryz.prog 47 #[.agg #[.slice B n c]] w0 (fun v w' => ∃ (B1 : Option Addr) (c1 : Nat), v = (gB_ r_ B1 c1) ∧ ST w0 [] w' [⟨B1, 65, (r_.Cells.flatMap eN0), c1 * 5⟩] []) := by
 subst hn
 unfold F_spec_l9Turn at hF
 refine cv_of_cw 25 Tryz.func47 rfl Tryz.ntmps47 rfl ?_
 refine cw_seq (cw_region ?_)
 refine sS 1 (Ys_box (T := 30) (v := gB_ b B c) (cs := kB_ b B c) (m := 1) hS rfl rfl rfl rfl) ?_
 rintro _ w_ ⟨b1, rfl, hS1⟩
 refine sS 2 (Ys_alloc (T := 30) (cs := [.slice none 0 0]) (m := 1) hS1 k_zero_30 rfl rfl rfl) ?_
 rintro _ w_1 ⟨b2, rfl, hS2⟩
 refine rw_nil (cw_seq (cw_region ?_))
 refine sS 3 (Ys_alloc (T := 30) (cs := [.slice none 0 0]) (m := 1) hS2 k_zero_30 rfl rfl rfl) ?_
 rintro _ w_2 ⟨b3, rfl, hS3⟩
 refine rw_nil (cw_seq (cw_seq (cw_region ?_)))
 refine sQ 4 (Y_assign (v := vi 0) rfl rfl) (rw_nil ?_)
 obtain ⟨z, hz, hF1⟩ := bind_inv hF
 have hS5 := hS3.addNil 65
 refine cw_block ?_
 refine cw_loop (fun k f w => ∃ (i1 : Nat) (Cells : List TDyadic) (B2 : Option Addr) (c2 : Nat), FF f [(1, pt (aD b1) 0), (2, pt (aD b2) 0), (3, pt (aD b3) 0), (4, vi (i1 : Int))] ∧ ST w0 [] w [⟨aD b1, 30, kB_ b B c, 1⟩, ⟨aD b2, 30, [.slice none 0 0], 1⟩, ⟨aD b3, 30, [.slice B2 Cells.length c2], 1⟩, ⟨B2, 65, (Cells.flatMap eN0), c2 * 5⟩] [⟨B, (b.Cells.flatMap eN0)⟩] ∧ i1 + k = 9 ∧ forN (F_spec_l9Turn_l1 b) k i1 Cells = some z) 9 ⟨0, [], none, 0, (FF.cons rfl (FF.cons rfl (FF.cons rfl (FF.cons rfl FF.nil)))), (hS5.sel [0, 1, 2, 3] rfl rfl), Nat.zero_add _, hz⟩ ?_
 rintro k_ f w ⟨i1, Cells, B2, c2, hf, hS4, hik, hL⟩
 refine cw_seq (cw_seq (cw_region ?_))
 refine sQ 5 (Y_move (v := vi (i1 : Int)) rfl (hf.get 4 3 rfl)) ?_
 refine sQ 6 (Y_lt (k := .i64) (a := (i1 : Int)) (b := 9) rfl rfl rfl) (rw_nil ?_)
 refine cw_cond (b := (decide ((i1 : Int) < 9))) rfl (fun hlt => ?_) (fun hlt => ?_)
 ·skip
  have hlt1 : i1 < 9 := by have h := of_decide_eq_true hlt; omega
  obtain ⟨k_1, rfl⟩ : ∃ k2, k_ = k2 + 1 := ⟨k_ - 1, by omega⟩
  obtain ⟨y, hb, hL1⟩ := forN_go hL
  unfold F_spec_l9Turn_l1 at hb
  refine cw_skip (cw_seq (cw_block ?_))
  obtain ⟨x, hx, hb⟩ := bind_inv hb
  obtain ⟨hap, hb⟩ := chk_inv hb
  refine cw_mid (fun f w => ∃ (B4 : Option Addr) (c4 : Nat), FF f [(1, pt (aD b1) 0), (2, pt (aD b2) 0), (3, pt (aD b3) 0), (4, vi (i1 : Int))] ∧ ST w0 [] w [⟨aD b1, 30, kB_ b B c, 1⟩, ⟨aD b2, 30, [.slice none 0 0], 1⟩, ⟨aD b3, 30, [.slice B4 ((Cells ++ [x]).length) c4], 1⟩, ⟨B4, 65, ((Cells ++ [x]).flatMap eN0), c4 * 5⟩] [⟨B, (b.Cells.flatMap eN0)⟩]) ?_ ?_
  ·skip
   refine ra_start (hS4.se [0, 1]).fn (by kernel_rfl) ?_
   have hS7 := hS4.drew
   refine rq 0 9 (v := pt (aD b3) 0) rfl (hS7.se [0, 1]) (fun w' hw' => (Y_fieldAddr (B := aD b3) (i := 0) (s := 0) k_fd_30_0_0_28 k_sz_28_1 rfl (hf.get 3 2 rfl))) ?_
   refine rq 2 11 (v := pt (aD b1) 0) rfl (hS7.se [0, 1]) (fun w' hw' => (Y_fieldAddr (B := aD b1) (i := 0) (s := 0) k_fd_30_0_0_28 k_sz_28_1 rfl (hf.get 1 0 rfl))) ?_
   refine rq 3 12 (v := .slice B b.Cells.length c) rfl (hS7.se [0, 1]) (fun w' hw' => (Y_load1 (B := aD b1) (i := 0) (cs := kB_ b B c) (v := .slice B b.Cells.length c) k_sc_28 rfl rfl (ST.cf hw' (i := 0) rfl) rfl)) ?_
   refine rq 4 13 (v := vi (i1 : Int)) rfl (hS7.se [0, 1]) (fun w' hw' => (Y_move (v := vi (i1 : Int)) rfl (hf.get 4 3 rfl))) ?_
   refine rq 5 14 (v := vi (Int.tmod (i1 : Int) 3)) rfl (hS7.se [0, 1]) (fun w' hw' => (Y_rem (k := .i64) (a := (i1 : Int)) (b := 3) rfl rfl rfl (by decide))) ?_
   refine rq 6 15 (v := vi (i64.wrap ((Int.tmod (i1 : Int) 3) * 3))) rfl (hS7.se [0, 1]) (fun w' hw' => (Y_mul (k := .i64) (a := (Int.tmod (i1 : Int) 3)) (b := 3) rfl rfl rfl)) ?_
   refine rq 7 16 (v := vi (i1 : Int)) rfl (hS7.se [0, 1]) (fun w' hw' => (Y_move (v := vi (i1 : Int)) rfl (hf.get 4 3 rfl))) ?_
   refine rq 8 17 (v := vi (i64.wrap (Int.tdiv (i1 : Int) 3))) rfl (hS7.se [0, 1]) (fun w' hw' => (Y_quo (k := .i64) (a := (i1 : Int)) (b := 3) rfl rfl rfl (by decide))) ?_
   refine rq 9 18 (v := vi (i64.wrap ((i64.wrap ((Int.tmod (i1 : Int) 3) * 3)) + (i64.wrap (Int.tdiv (i1 : Int) 3))))) rfl (hS7.se [0, 1]) (fun w' hw' => (Y_add (k := .i64) (a := (i64.wrap ((Int.tmod (i1 : Int) 3) * 3))) (b := (i64.wrap (Int.tdiv (i1 : Int) 3))) rfl rfl rfl)) ?_
   refine ra_q 10 19 (v := pt B ((i64.wrap ((i64.wrap ((Int.tmod (i1 : Int) 3) * 3)) + (i64.wrap (Int.tdiv (i1 : Int) 3)))).toNat * 5)) rfl rfl rfl (by kernel_rfl) (by kernel_rfl) (by kernel_rfl) (hS7.se [0, 1]) (fun w' hw' => (Y_index (B := B) (m := b.Cells.length) (c := c) (k := .i64) (i := (i64.wrap ((i64.wrap ((Int.tmod (i1 : Int) 3) * 3)) + (i64.wrap (Int.tdiv (i1 : Int) 3))))) k_sl_28_65 k_sz_65_5 rfl rfl rfl (gi_isSome eN2 rfl (ST.rf hw' (i := 0) rfl) hx) (getI_nn hx) (getI_ltI hx rfl))) ?_
   refine rq 11 20 (v := gD_ x) rfl (hS7.se [0, 1]) (fun w' hw' => (Y_loadA (B := B) (i := (i64.wrap ((i64.wrap ((Int.tmod (i1 : Int) 3) * 3)) + (i64.wrap (Int.tdiv (i1 : Int) 3)))).toNat * 5) (cs := (b.Cells.flatMap eN0)) (vs := kD_ x) k_ag_65 k_sz_65_5 rfl rfl (ST.rf hw' (i := 0) rfl) (eN2 x) (gi_seg eN2 hx))) ?_
   refine rA [1, 12] ?_
   refine ra_y 10 (i := 1) (v := .slice B2 Cells.length c2) rfl rfl rfl (Y_load1 (B := aD b3) (i := 0) (cs := [.slice B2 Cells.length c2]) (v := .slice B2 Cells.length c2) k_sc_28 rfl rfl (hS7.cf (i := 2) rfl) rfl) (hS7.se [0, 1]) ?_ ?_
   ·skip
    refine rA [12] ?_
    refine ra_s 21 (i := 12) rfl rfl rfl (Ys_bslice (s := 5) (len := 1) (vs := [(0, gD_ x)]) (cs := kD_ x) (zs := kZ_) (m := 5) hS7 k_sl_28_65 k_sz_65_5 k_zc_65 rfl (mpc rfl mpn) rfl rfl rfl (by kernel_rfl) (by kernel_rfl) rfl) ?_ ?_
    ·rintro _ w_3 ⟨b4, rfl, hS8⟩
     refine ⟨(hS8.se [0, 1]), ?_⟩
     refine rA [13] ?_
     refine ra_s 22 (i := 13) rfl rfl rfl (Ys_append (s := 5) (by' := 40) (i := 3) (nn := Cells.length) (c := c2) (k := 1) (len := (Cells ++ [x]).length) (B := B2) (xs := ([x].flatMap eN0)) (cs' := ((Cells ++ [x]).flatMap eN0)) hS8 k_sl_28_65 k_sz_65_5 k_by_65_40 k_zero_65 rfl (by decide) rfl rfl rfl rfl (fm_lenn (l := Cells) eN2 rfl) rfl (hS8.cf (i := 4) rfl) (fm_lenn (l := [x]) eN2 rfl) (fm_one' (enc := eN0) enc_Dyadic_one [x]) (by have := hap; omega) (by have := hap; simp only [maxLen]; omega) (fm_app _ _) (app_len (l := Cells) (l' := [x]) rfl rfl)) ?_ ?_
     ·rintro _ w_4 ⟨B3, c3, rfl, hS9⟩
      refine ⟨(hS9.se [0, 1]), ?_⟩
      refine rq 14 23 (v := pt (aD b3) 0) rfl (hS9.se [0, 1]) (fun w' hw' => (Y_fieldAddr (B := aD b3) (i := 0) (s := 0) k_fd_30_0_0_28 k_sz_28_1 rfl (hf.get 3 2 rfl))) ?_
      refine rA [15] ?_
      refine ra_s0 (i := 15) rfl rfl rfl (Ys_store (i := 2) (s := 1) (B := aD b3) (T' := 30) (v := .slice B3 ((Cells ++ [x]).length) c3) (vs := [.slice B3 ((Cells ++ [x]).length) c3]) (k := 0) (cs' := [.slice B3 ((Cells ++ [x]).length) c3]) hS9 k_sz_28_1 rfl rfl rfl rfl rfl rfl rfl (lB rfl) rfl rfl) ?_ ?_
      ·rintro _ w_5 ⟨rfl, hS10⟩
       refine ⟨(hS10.se [0, 1]), ?_⟩
       refine ra_done (by kernel_rfl) ?_
       exact ⟨B3, c3, (FF.cons (hf.get 1 0 rfl) (FF.cons (hf.get 2 1 rfl) (FF.cons (hf.get 3 2 rfl) (FF.cons (hf.get 4 3 rfl) FF.nil)))), (hS10.sel [0, 1, 2, 3] rfl rfl)⟩
      exact allR_nil
     exact allR_nil
    exact allR_nil
   refine ra_s 21 (i := 12) rfl rfl rfl (Ys_bslice (s := 5) (len := 1) (vs := [(0, gD_ x)]) (cs := kD_ x) (zs := kZ_) (m := 5) hS7 k_sl_28_65 k_sz_65_5 k_zc_65 rfl (mpc rfl mpn) rfl rfl rfl (by kernel_rfl) (by kernel_rfl) rfl) ?_ ?_
   ·rintro _ w_6 ⟨b4, rfl, hS11⟩
    refine ⟨(hS11.se [0, 1]), ?_⟩
    refine rA [1] ?_
    refine ra_y 10 (i := 1) (v := .slice B2 Cells.length c2) rfl rfl rfl (Y_load1 (B := aD b3) (i := 0) (cs := [.slice B2 Cells.length c2]) (v := .slice B2 Cells.length c2) k_sc_28 rfl rfl (hS11.cf (i := 2) rfl) rfl) (hS11.se [0, 1]) ?_ ?_
    ·skip
     refine rA [13] ?_
     refine ra_s 22 (i := 13) rfl rfl rfl (Ys_append (s := 5) (by' := 40) (i := 3) (nn := Cells.length) (c := c2) (k := 1) (len := (Cells ++ [x]).length) (B := B2) (xs := ([x].flatMap eN0)) (cs' := ((Cells ++ [x]).flatMap eN0)) hS11 k_sl_28_65 k_sz_65_5 k_by_65_40 k_zero_65 rfl (by decide) rfl rfl rfl rfl (fm_lenn (l := Cells) eN2 rfl) rfl (hS11.cf (i := 4) rfl) (fm_lenn (l := [x]) eN2 rfl) (fm_one' (enc := eN0) enc_Dyadic_one [x]) (by have := hap; omega) (by have := hap; simp only [maxLen]; omega) (fm_app _ _) (app_len (l := Cells) (l' := [x]) rfl rfl)) ?_ ?_
     ·rintro _ w_7 ⟨B3, c3, rfl, hS12⟩
      refine ⟨(hS12.se [0, 1]), ?_⟩
      refine rq 14 23 (v := pt (aD b3) 0) rfl (hS12.se [0, 1]) (fun w' hw' => (Y_fieldAddr (B := aD b3) (i := 0) (s := 0) k_fd_30_0_0_28 k_sz_28_1 rfl (hf.get 3 2 rfl))) ?_
      refine rA [15] ?_
      refine ra_s0 (i := 15) rfl rfl rfl (Ys_store (i := 2) (s := 1) (B := aD b3) (T' := 30) (v := .slice B3 ((Cells ++ [x]).length) c3) (vs := [.slice B3 ((Cells ++ [x]).length) c3]) (k := 0) (cs' := [.slice B3 ((Cells ++ [x]).length) c3]) hS12 k_sz_28_1 rfl rfl rfl rfl rfl rfl rfl (lB rfl) rfl rfl) ?_ ?_
      ·rintro _ w_8 ⟨rfl, hS13⟩
       have hS13 : ST w0 [] _ [⟨aD b1, 30, kB_ b B c, 1⟩, ⟨aD b2, 30, [.slice none 0 0], 1⟩, ⟨aD b3, 30, [.slice B3 ((Cells ++ [x]).length) c3], 1⟩, ⟨B3, 65, ((Cells ++ [x]).flatMap eN0), c3 * 5⟩, ⟨aD b4, 65, ([x].flatMap eN0), 1 * 5⟩] [⟨B, (b.Cells.flatMap eN0)⟩] := hS13
       refine ⟨(hS13.se [0, 1]), ?_⟩
       refine ra_done (by kernel_rfl) ?_
       exact ⟨B3, c3, (FF.cons (hf.get 1 0 rfl) (FF.cons (hf.get 2 1 rfl) (FF.cons (hf.get 3 2 rfl) (FF.cons (hf.get 4 3 rfl) FF.nil)))), (hS13.sel [0, 1, 2, 3] rfl rfl)⟩
      exact allR_nil
     exact allR_nil
    exact allR_nil
   exact allR_nil
  rintro f w ⟨B4, c4, hf1, hS6⟩
  refine cw_region ?_
  refine sQ 7 (Y_move (v := vi (i1 : Int)) rfl (hf1.get 4 3 rfl)) ?_
  refine sQ 8 (Y_add (k := .i64) (a := (i1 : Int)) (b := 1) rfl rfl rfl) ?_
  refine sQ 4 (Y_assign (v := vi (i64.wrap ((i1 : Int) + 1))) rfl rfl) (rw_nil ?_)
  obtain rfl := some_inj hb
  exact ⟨k_1, Nat.lt_succ_self _, i1 + 1, (Cells ++ [x]), B4, c4, (FF.cons (hf1.get 1 0 rfl) (FF.cons (hf1.get 2 1 rfl) (FF.cons (hf1.get 3 2 rfl) (FF.cons (congrArg (Value.int .i64) (wr_succ hlt1 (show 9 ≤ 9223372036854775807 by decide))) FF.nil)))), (hS6.sel [0, 1, 2, 3] rfl rfl), (by omega), hL1⟩
 ·skip
  obtain rfl : k_ = 0 := by have h := of_decide_eq_false hlt; omega
  refine cw_exit rfl ?_
  obtain rfl := some_inj hL
  refine cw_seq (cw_region ?_)
  refine sQ 24 (Y_loadA (B := aD b3) (i := 0) (cs := [.slice B2 Cells.length c2]) (vs := [.slice B2 Cells.length c2]) k_ag_30 k_sz_30_1 rfl (hf.get 3 2 rfl) (hS4.cf (i := 2) rfl) rfl rfl) ?_
  refine s0 (Ys_store (i := 1) (s := 1) (B := aD b2) (T' := 30) (v := .agg #[.slice B2 Cells.length c2]) (vs := [.slice B2 Cells.length c2]) (k := 0) (cs' := [.slice B2 Cells.length c2]) hS4 k_sz_30_1 rfl (hf.get 2 1 rfl) rfl rfl rfl rfl rfl (lB rfl) rfl rfl) ?_
  rintro _ w_9 ⟨rfl, hS14⟩
  refine rw_nil (cw_ret ?_)
  obtain rfl := some_inj hF1
  exact ret1 Tryz.results47 (v1 := .agg #[.slice B2 Cells.length c2]) (resAt_cellA (B := aD b2) (i := 0) (cs := [.slice B2 Cells.length c2]) (vs := [.slice B2 Cells.length c2]) (hf.get 2 1 rfl) k_ag_30 k_sz_30_1 (hS14.cf (i := 1) rfl) rfl rfl) ⟨B2, c2, rfl, (hS14.sN [3])⟩

theorem c_spec_l1Neg (x : TRing)  (w0 : World)  (hS : ST w0 [] w0 [] []) {r_ : TRing} (hF : F_spec_l1Neg x = some r_) :
  CV Tryz.prog 96 #[gR_ x] w0 (fun v w' => v = (gR_ r_) ∧ ST w0 [] w' [] []) := by
 unfold F_spec_l1Neg at hF
 refine cv_of_cw 16 Tryz.func96 rfl Tryz.ntmps96 rfl ?_
 refine cw_seq (cw_region ?_)
 refine sS 1 (Ys_box (T := 63) (v := gR_ x) (cs := kR_ x) (m := 4) hS rfl rfl rfl rfl) ?_
 rintro _ w_ ⟨b, rfl, hS1⟩
 refine sS 2 (Ys_alloc (T := 63) (cs := [vi 0, vi 0, vi 0, vi 0]) (m := 4) hS1 k_zero_63 rfl rfl rfl) ?_
 rintro _ w_1 ⟨b1, rfl, hS2⟩
 refine rw_nil (cw_seq (cw_region ?_))
 refine sQ 3 (Y_fieldAddr (B := aD b) (i := 0) (s := 0) k_fd_63_0_0_3 k_sz_3_1 rfl rfl) ?_
 refine sQ 4 (Y_load1 (B := aD b) (i := 0) (cs := kR_ x) (v := vi x.A) k_sc_3 rfl rfl (hS2.cf (i := 0) rfl) rfl) ?_
 refine sQ 5 (Y_neg (k := .i64) (a := x.A) rfl rfl) ?_
 refine sQ 6 (Y_fieldAddr (B := aD b) (i := 0) (s := 0) k_fd_63_1_1_3 k_sz_3_1 rfl rfl) ?_
 refine sQ 7 (Y_load1 (B := aD b) (i := 1) (cs := kR_ x) (v := vi x.B) k_sc_3 rfl rfl (hS2.cf (i := 0) rfl) rfl) ?_
 refine sQ 8 (Y_neg (k := .i64) (a := x.B) rfl rfl) ?_
 refine sQ 9 (Y_fieldAddr (B := aD b) (i := 0) (s := 0) k_fd_63_2_2_3 k_sz_3_1 rfl rfl) ?_
 refine sQ 10 (Y_load1 (B := aD b) (i := 2) (cs := kR_ x) (v := vi x.C) k_sc_3 rfl rfl (hS2.cf (i := 0) rfl) rfl) ?_
 refine sQ 11 (Y_neg (k := .i64) (a := x.C) rfl rfl) ?_
 refine sQ 12 (Y_fieldAddr (B := aD b) (i := 0) (s := 0) k_fd_63_3_3_3 k_sz_3_1 rfl rfl) ?_
 refine sQ 13 (Y_load1 (B := aD b) (i := 3) (cs := kR_ x) (v := vi x.D) k_sc_3 rfl rfl (hS2.cf (i := 0) rfl) rfl) ?_
 refine sQ 14 (Y_neg (k := .i64) (a := x.D) rfl rfl) ?_
 refine sQ 15 (Y_buildS (zs := [vi 0, vi 0, vi 0, vi 0]) (vs := [(0, vi (i64.wrap (-x.A))), (1, vi (i64.wrap (-x.B))), (2, vi (i64.wrap (-x.C))), (3, vi (i64.wrap (-x.D)))]) (cs := [vi (i64.wrap (-x.A)), vi (i64.wrap (-x.B)), vi (i64.wrap (-x.C)), vi (i64.wrap (-x.D))]) k_pl_63 k_zero_63 rfl (mpc rfl (mpc rfl (mpc rfl (mpc rfl mpn)))) rfl) ?_
 refine s0 (Ys_store (i := 1) (s := 4) (B := aD b1) (T' := 63) (v := .agg #[vi (i64.wrap (-x.A)), vi (i64.wrap (-x.B)), vi (i64.wrap (-x.C)), vi (i64.wrap (-x.D))]) (vs := [vi (i64.wrap (-x.A)), vi (i64.wrap (-x.B)), vi (i64.wrap (-x.C)), vi (i64.wrap (-x.D))]) (k := 0) (cs' := [vi (i64.wrap (-x.A)), vi (i64.wrap (-x.B)), vi (i64.wrap (-x.C)), vi (i64.wrap (-x.D))]) hS2 k_sz_63_4 rfl rfl rfl rfl rfl rfl rfl (lB rfl) rfl rfl) ?_
 rintro _ w_2 ⟨rfl, hS3⟩
 refine rw_nil (cw_ret ?_)
 obtain rfl := some_inj hF
 exact ret1 Tryz.results96 (v1 := .agg #[vi (i64.wrap (-x.A)), vi (i64.wrap (-x.B)), vi (i64.wrap (-x.C)), vi (i64.wrap (-x.D))]) (resAt_cellA (B := aD b1) (i := 0) (cs := [vi (i64.wrap (-x.A)), vi (i64.wrap (-x.B)), vi (i64.wrap (-x.C)), vi (i64.wrap (-x.D))]) (vs := [vi (i64.wrap (-x.A)), vi (i64.wrap (-x.B)), vi (i64.wrap (-x.C)), vi (i64.wrap (-x.D))]) rfl k_ag_63 k_sz_63_4 (hS3.cf (i := 1) rfl) rfl rfl) ⟨rfl, (hS3.sN [])⟩

theorem c_spec_l2Neg (x : TDyadic)  (w0 : World)  (hS : ST w0 [] w0 [] []) {r_ : TDyadic} (hF : F_spec_l2Neg x = some r_) :
  CV Tryz.prog 51 #[gD_ x] w0 (fun v w' => v = (gD_ r_) ∧ ST w0 [] w' [] []) := by
 unfold F_spec_l2Neg at hF
 refine cv_of_cw 9 Tryz.func51 rfl Tryz.ntmps51 rfl ?_
 refine cw_seq (cw_region ?_)
 refine sS 1 (Ys_box (T := 65) (v := gD_ x) (cs := kD_ x) (m := 5) hS rfl rfl rfl rfl) ?_
 rintro _ w_ ⟨b, rfl, hS1⟩
 refine sS 2 (Ys_alloc (T := 65) (cs := kZ_) (m := 5) hS1 k_zero_65 rfl rfl rfl) ?_
 rintro _ w_1 ⟨b1, rfl, hS2⟩
 refine rw_nil (cw_seq ?_)
 obtain ⟨r_1, hc, hF⟩ := bind_inv hF
 refine ra_start (hS2.se [0]).fn (by kernel_rfl) ?_
 have hS4 := hS2.drew
 refine rq 0 3 (v := pt (aD b) 0) rfl (hS4.se [0]) (fun w' hw' => (Y_fieldAddr (B := aD b) (i := 0) (s := 3) k_fd_65_0_0_63 k_sz_63_4 rfl rfl)) ?_
 refine rq 1 4 (v := gR_ x.Num) rfl (hS4.se [0]) (fun w' hw' => (Y_loadA (B := aD b) (i := 0) (cs := kD_ x) (vs := kR_ x.Num) k_ag_63 k_sz_63_4 rfl rfl (ST.cf hw' (i := 0) rfl) rfl rfl)) ?_
 refine rq 3 6 (v := pt (aD b) 4) rfl (hS4.se [0]) (fun w' hw' => (Y_fieldAddr (B := aD b) (i := 0) (s := 0) k_fd_65_1_4_3 k_sz_3_1 rfl rfl)) ?_
 refine rq 4 7 (v := vi x.Exp) rfl (hS4.se [0]) (fun w' hw' => (Y_load1 (B := aD b) (i := 4) (cs := kD_ x) (v := vi x.Exp) k_sc_3 rfl rfl (ST.cf hw' (i := 0) rfl) rfl)) ?_
 refine rA [2] ?_
 refine ra_c 5 (i := 2) rfl rfl rfl (Yc_func (g := 96) (vs := [gR_ x.Num]) k_call_96 rfl (mc rfl mn) (c_spec_l1Neg x.Num _  (hS4.inn0 [] rfl) hc)) ?_ ?_
 ·rintro _ w_2 ⟨rfl, hd⟩
  have hS5 := hS4.out00 hd
  refine ⟨(hS5.se [0]), ?_⟩
  refine rq 5 8 (v := .agg #[vi r_1.A, vi r_1.B, vi r_1.C, vi r_1.D, vi x.Exp]) rfl (hS5.se [0]) (fun w' hw' => (Y_buildS (zs := kZ_) (vs := [(0, gR_ r_1), (1, vi x.Exp)]) (cs := [vi r_1.A, vi r_1.B, vi r_1.C, vi r_1.D, vi x.Exp]) k_pl_65 k_zero_65 rfl (mpc rfl (mpc rfl mpn)) rfl)) ?_
  refine rA [6] ?_
  refine ra_s0 (i := 6) rfl rfl rfl (Ys_store (i := 1) (s := 5) (B := aD b1) (T' := 65) (v := .agg #[vi r_1.A, vi r_1.B, vi r_1.C, vi r_1.D, vi x.Exp]) (vs := [vi r_1.A, vi r_1.B, vi r_1.C, vi r_1.D, vi x.Exp]) (k := 0) (cs' := [vi r_1.A, vi r_1.B, vi r_1.C, vi r_1.D, vi x.Exp]) hS5 k_sz_65_5 rfl rfl rfl rfl rfl rfl rfl (lB rfl) rfl rfl) ?_ ?_
  ·rintro _ w_3 ⟨rfl, hS6⟩
   refine ⟨(hS6.se [0]), ?_⟩
   refine ra_done (by kernel_rfl) ?_
   refine cw_ret ?_
   obtain rfl := some_inj hF
   exact ret1 Tryz.results51 (v1 := .agg #[vi r_1.A, vi r_1.B, vi r_1.C, vi r_1.D, vi x.Exp]) (resAt_cellA (B := aD b1) (i := 0) (cs := [vi r_1.A, vi r_1.B, vi r_1.C, vi r_1.D, vi x.Exp]) (vs := [vi r_1.A, vi r_1.B, vi r_1.C, vi r_1.D, vi x.Exp]) rfl k_ag_65 k_sz_65_5 (hS6.cf (i := 1) rfl) rfl rfl) ⟨rfl, (hS6.sN [])⟩
  exact allR_nil
 exact allR_nil

theorem c_spec_l2C_minor (c : Tl2C) (b : TBloch) (j : Int) (k_ : Int) (B : Option Addr) (B1 : Option Addr) (c1 n : Nat) (w0 : World) (hn : b.Cells.length = n) (hS : ST w0 (bl [⟨B, 82, [.bool c.bad], 1⟩]) w0 [⟨B, 82, [.bool c.bad], 1⟩] [⟨B1, (b.Cells.flatMap eN0)⟩]) {r_ : TDyadic} {m : Tl2C} (hF : F_spec_l2C_minor c b j k_ = some (r_, m)) :
  CV Tryz.prog 49 #[pt B 0, .agg #[.slice B1 n c1], vi j, vi k_] w0 (fun v w' => v = (gD_ r_) ∧ ST w0 (bl [⟨B, 82, [.bool c.bad], 1⟩]) w' [⟨B, 82, [.bool m.bad], 1⟩] []) := by
 subst hn
 unfold F_spec_l2C_minor at hF
 refine cv_of_cw 40 Tryz.func49 rfl Tryz.ntmps49 rfl ?_
 refine cw_seq (cw_region ?_)
 refine sS 5 (Ys_box (T := 30) (v := gB_ b B1 c1) (cs := kB_ b B1 c1) (m := 1) hS rfl rfl rfl rfl) ?_
 rintro _ w_ ⟨b1, rfl, hS1⟩
 refine sS 8 (Ys_alloc (T := 65) (cs := kZ_) (m := 5) hS1 k_zero_65 rfl rfl rfl) ?_
 rintro _ w_1 ⟨b2, rfl, hS2⟩
 refine rw_nil (cw_seq ?_)
 obtain ⟨x, hx, hF⟩ := bind_inv hF
 obtain ⟨x1, hx1, hF⟩ := bind_inv hF
 obtain ⟨⟨r_1, m1⟩, hc, hF⟩ := bind_inv hF
 obtain ⟨x2, hx2, hF⟩ := bind_inv hF
 obtain ⟨x3, hx3, hF⟩ := bind_inv hF
 obtain ⟨⟨r_2, m2⟩, hc1, hF⟩ := bind_inv hF
 obtain ⟨r_3, hc2, hF⟩ := bind_inv hF
 obtain ⟨⟨r_4, m3⟩, hc3, hF⟩ := bind_inv hF
 refine ra_start (hS2.se [1]).fn (by kernel_rfl) ?_
 have hS7 := hS2.drew
 refine rq 0 9 (v := pt B 0) rfl (hS7.se [1]) (fun w' hw' => (Y_move (v := pt B 0) rfl rfl)) ?_
 refine rq 1 10 (v := pt B 0) rfl (hS7.se [1]) (fun w' hw' => (Y_move (v := pt B 0) rfl rfl)) ?_
 refine rq 2 11 (v := pt (aD b1) 0) rfl (hS7.se [1]) (fun w' hw' => (Y_fieldAddr (B := aD b1) (i := 0) (s := 0) k_fd_30_0_0_28 k_sz_28_1 rfl rfl)) ?_
 refine rq 3 12 (v := .slice B1 b.Cells.length c1) rfl (hS7.se [1]) (fun w' hw' => (Y_load1 (B := aD b1) (i := 0) (cs := kB_ b B1 c1) (v := .slice B1 b.Cells.length c1) k_sc_28 rfl rfl (ST.cf hw' (i := 0) rfl) rfl)) ?_
 refine rq 4 13 (v := vi j) rfl (hS7.se [1]) (fun w' hw' => (Y_move (v := vi j) rfl rfl)) ?_
 refine rq 5 14 (v := vi (i64.wrap (3 + j))) rfl (hS7.se [1]) (fun w' hw' => (Y_add (k := .i64) (a := 3) (b := j) rfl rfl rfl)) ?_
 refine rq 6 15 (v := pt B1 ((i64.wrap (3 + j)).toNat * 5)) rfl (hS7.se [1]) (fun w' hw' => (Y_index (B := B1) (m := b.Cells.length) (c := c1) (k := .i64) (i := (i64.wrap (3 + j))) k_sl_28_65 k_sz_65_5 rfl rfl rfl (gi_isSome eN2 rfl (ST.rf hw' (i := 0) rfl) hx) (getI_nn hx) (getI_ltI hx rfl))) ?_
 refine rq 7 16 (v := gD_ x) rfl (hS7.se [1]) (fun w' hw' => (Y_loadA (B := B1) (i := (i64.wrap (3 + j)).toNat * 5) (cs := (b.Cells.flatMap eN0)) (vs := kD_ x) k_ag_65 k_sz_65_5 rfl rfl (ST.rf hw' (i := 0) rfl) (eN2 x) (gi_seg eN2 hx))) ?_
 refine rq 8 17 (v := pt (aD b1) 0) rfl (hS7.se [1]) (fun w' hw' => (Y_fieldAddr (B := aD b1) (i := 0) (s := 0) k_fd_30_0_0_28 k_sz_28_1 rfl rfl)) ?_
 refine rq 9 18 (v := .slice B1 b.Cells.length c1) rfl (hS7.se [1]) (fun w' hw' => (Y_load1 (B := aD b1) (i := 0) (cs := kB_ b B1 c1) (v := .slice B1 b.Cells.length c1) k_sc_28 rfl rfl (ST.cf hw' (i := 0) rfl) rfl)) ?_
 refine rq 10 19 (v := vi k_) rfl (hS7.se [1]) (fun w' hw' => (Y_move (v := vi k_) rfl rfl)) ?_
 refine rq 11 20 (v := vi (i64.wrap (6 + k_))) rfl (hS7.se [1]) (fun w' hw' => (Y_add (k := .i64) (a := 6) (b := k_) rfl rfl rfl)) ?_
 refine rq 12 21 (v := pt B1 ((i64.wrap (6 + k_)).toNat * 5)) rfl (hS7.se [1]) (fun w' hw' => (Y_index (B := B1) (m := b.Cells.length) (c := c1) (k := .i64) (i := (i64.wrap (6 + k_))) k_sl_28_65 k_sz_65_5 rfl rfl rfl (gi_isSome eN2 rfl (ST.rf hw' (i := 0) rfl) hx1) (getI_nn hx1) (getI_ltI hx1 rfl))) ?_
 refine rq 13 22 (v := gD_ x1) rfl (hS7.se [1]) (fun w' hw' => (Y_loadA (B := B1) (i := (i64.wrap (6 + k_)).toNat * 5) (cs := (b.Cells.flatMap eN0)) (vs := kD_ x1) k_ag_65 k_sz_65_5 rfl rfl (ST.rf hw' (i := 0) rfl) (eN2 x1) (gi_seg eN2 hx1))) ?_
 refine rq 15 24 (v := pt B 0) rfl (hS7.se [1]) (fun w' hw' => (Y_move (v := pt B 0) rfl rfl)) ?_
 refine rq 16 25 (v := pt (aD b1) 0) rfl (hS7.se [1]) (fun w' hw' => (Y_fieldAddr (B := aD b1) (i := 0) (s := 0) k_fd_30_0_0_28 k_sz_28_1 rfl rfl)) ?_
 refine rq 17 26 (v := .slice B1 b.Cells.length c1) rfl (hS7.se [1]) (fun w' hw' => (Y_load1 (B := aD b1) (i := 0) (cs := kB_ b B1 c1) (v := .slice B1 b.Cells.length c1) k_sc_28 rfl rfl (ST.cf hw' (i := 0) rfl) rfl)) ?_
 refine rq 18 27 (v := vi k_) rfl (hS7.se [1]) (fun w' hw' => (Y_move (v := vi k_) rfl rfl)) ?_
 refine rq 19 28 (v := vi (i64.wrap (3 + k_))) rfl (hS7.se [1]) (fun w' hw' => (Y_add (k := .i64) (a := 3) (b := k_) rfl rfl rfl)) ?_
 refine rq 20 29 (v := pt B1 ((i64.wrap (3 + k_)).toNat * 5)) rfl (hS7.se [1]) (fun w' hw' => (Y_index (B := B1) (m := b.Cells.length) (c := c1) (k := .i64) (i := (i64.wrap (3 + k_))) k_sl_28_65 k_sz_65_5 rfl rfl rfl (gi_isSome eN2 rfl (ST.rf hw' (i := 0) rfl) hx2) (getI_nn hx2) (getI_ltI hx2 rfl))) ?_
 refine rq 21 30 (v := gD_ x2) rfl (hS7.se [1]) (fun w' hw' => (Y_loadA (B := B1) (i := (i64.wrap (3 + k_)).toNat * 5) (cs := (b.Cells.flatMap eN0)) (vs := kD_ x2) k_ag_65 k_sz_65_5 rfl rfl (ST.rf hw' (i := 0) rfl) (eN2 x2) (gi_seg eN2 hx2))) ?_
 refine rq 22 31 (v := pt (aD b1) 0) rfl (hS7.se [1]) (fun w' hw' => (Y_fieldAddr (B := aD b1) (i := 0) (s := 0) k_fd_30_0_0_28 k_sz_28_1 rfl rfl)) ?_
 refine rq 23 32 (v := .slice B1 b.Cells.length c1) rfl (hS7.se [1]) (fun w' hw' => (Y_load1 (B := aD b1) (i := 0) (cs := kB_ b B1 c1) (v := .slice B1 b.Cells.length c1) k_sc_28 rfl rfl (ST.cf hw' (i := 0) rfl) rfl)) ?_
 refine rq 24 33 (v := vi j) rfl (hS7.se [1]) (fun w' hw' => (Y_move (v := vi j) rfl rfl)) ?_
 refine rq 25 34 (v := vi (i64.wrap (6 + j))) rfl (hS7.se [1]) (fun w' hw' => (Y_add (k := .i64) (a := 6) (b := j) rfl rfl rfl)) ?_
 refine rq 26 35 (v := pt B1 ((i64.wrap (6 + j)).toNat * 5)) rfl (hS7.se [1]) (fun w' hw' => (Y_index (B := B1) (m := b.Cells.length) (c := c1) (k := .i64) (i := (i64.wrap (6 + j))) k_sl_28_65 k_sz_65_5 rfl rfl rfl (gi_isSome eN2 rfl (ST.rf hw' (i := 0) rfl) hx3) (getI_nn hx3) (getI_ltI hx3 rfl))) ?_
 refine rq 27 36 (v := gD_ x3) rfl (hS7.se [1]) (fun w' hw' => (Y_loadA (B := B1) (i := (i64.wrap (6 + j)).toNat * 5) (cs := (b.Cells.flatMap eN0)) (vs := kD_ x3) k_ag_65 k_sz_65_5 rfl rfl (ST.rf hw' (i := 0) rfl) (eN2 x3) (gi_seg eN2 hx3))) ?_
 refine rA [14] ?_
 refine ra_c 23 (i := 14) rfl rfl rfl (Yc_func (g := 48) (vs := [pt B 0, gD_ x, gD_ x1]) k_call_48 rfl (mc rfl (mc rfl (mc rfl mn))) (c_spec_l2C_mul c x x1 B _  (hS7.inn [true, false, false] rfl [] rfl) hc)) ?_ ?_
 ·rintro _ w_2 ⟨rfl, hd⟩
  have hS8 := hS7.out [true, false, false] rfl hd
  refine ⟨(hS8.se [0]), ?_⟩
  refine rA [28] ?_
  refine ra_c 37 (i := 28) rfl rfl rfl (Yc_func (g := 48) (vs := [pt B 0, gD_ x2, gD_ x3]) k_call_48 rfl (mc rfl (mc rfl (mc rfl mn))) (c_spec_l2C_mul m1 x2 x3 B _  (hS8.inn [false, false, true] rfl [] rfl) hc1)) ?_ ?_
  ·rintro _ w_3 ⟨rfl, hd1⟩
   have hS9 := hS8.out [false, false, true] rfl hd1
   refine ⟨(hS9.se [0]), ?_⟩
   refine rA [29] ?_
   refine ra_c 38 (i := 29) rfl rfl rfl (Yc_func (g := 51) (vs := [gD_ r_2]) k_call_51 rfl (mc rfl mn) (c_spec_l2Neg r_2 _  (hS9.inn0 [] rfl) hc2)) ?_ ?_
   ·rintro _ w_4 ⟨rfl, hd2⟩
    have hS10 := hS9.out00 hd2
    refine ⟨(hS10.se [0]), ?_⟩
    refine rA [30] ?_
    refine ra_c 39 (i := 30) rfl rfl rfl (Yc_func (g := 50) (vs := [pt B 0, gD_ r_1, gD_ r_3]) k_call_50 rfl (mc rfl (mc rfl (mc rfl mn))) (c_spec_l2C_add m2 r_1 r_3 B _  (hS10.inn [false, false, true] rfl [] rfl) hc3)) ?_ ?_
    ·rintro _ w_5 ⟨rfl, hd3⟩
     have hS11 := hS10.out [false, false, true] rfl hd3
     refine ⟨(hS11.se [0]), ?_⟩
     refine rA [31] ?_
     refine ra_s0 (i := 31) rfl rfl rfl (Ys_store (i := 1) (s := 5) (B := aD b2) (T' := 65) (v := gD_ r_4) (vs := kD_ r_4) (k := 0) (cs' := kD_ r_4) hS11 k_sz_65_5 rfl rfl rfl rfl rfl rfl rfl (lB rfl) rfl rfl) ?_ ?_
     ·rintro _ w_6 ⟨rfl, hS12⟩
      refine ⟨(hS12.se [0]), ?_⟩
      refine ra_done (by kernel_rfl) ?_
      refine cw_ret ?_
      obtain ⟨rfl, rfl⟩ := pr2 (some_inj hF)
      exact ret1 Tryz.results49 (v1 := gD_ r_4) (resAt_cellA (B := aD b2) (i := 0) (cs := kD_ r_4) (vs := kD_ r_4) rfl k_ag_65 k_sz_65_5 (hS12.cf (i := 1) rfl) rfl rfl) ⟨rfl, (hS12.sN [2])⟩
     exact allR_nil
    exact allR_nil
   exact allR_nil
  exact allR_nil
 exact allR_nil

theorem c_spec_l9Same (a : TBloch) (b : TBloch) (B : Option Addr) (c n : Nat) (B1 : Option Addr) (c1 n1 : Nat) (w0 : World) (hn : a.Cells.length = n) (hn1 : b.Cells.length = n1) (hS : ST w0 [] w0 [] [⟨B, (a.Cells.flatMap eN0)⟩, ⟨B1, (b.Cells.flatMap eN0)⟩]) {r_ : Bool} (hF : F_spec_l9Same a b = some r_) :
  CV Tryz.prog 52 #[.agg #[.slice B n c], .agg #[.slice B1 n1 c1]] w0 (fun v w' => v = .bool r_ ∧ ST w0 [] w' [] []) := by
 subst hn
 subst hn1
 unfold F_spec_l9Same at hF
 refine cv_of_cw 24 Tryz.func52 rfl Tryz.ntmps52 rfl ?_
 refine cw_seq (cw_region ?_)
 refine sS 2 (Ys_box (T := 30) (v := gB_ a B c) (cs := kB_ a B c) (m := 1) hS rfl rfl rfl rfl) ?_
 rintro _ w_ ⟨b1, rfl, hS1⟩
 refine sS 3 (Ys_box (T := 30) (v := gB_ b B1 c1) (cs := kB_ b B1 c1) (m := 1) hS1 rfl rfl rfl rfl) ?_
 rintro _ w_1 ⟨b2, rfl, hS2⟩
 refine sQ 4 (Y_assign (v := .bool false) rfl rfl) (rw_nil (cw_seq (cw_seq (cw_region ?_))))
 refine sQ 6 (Y_fieldAddr (B := aD b1) (i := 0) (s := 0) k_fd_30_0_0_28 k_sz_28_1 rfl rfl) ?_
 refine sQ 7 (Y_load1 (B := aD b1) (i := 0) (cs := kB_ a B c) (v := .slice B a.Cells.length c) k_sc_28 rfl rfl (hS2.cf (i := 0) rfl) rfl) ?_
 refine sQ 8 (Y_len (B := B) (m := a.Cells.length) (c := c) k_sl_28_65 rfl rfl) ?_
 refine sQ 9 (Y_move (v := vi 0) rfl rfl) (rw_nil ?_)
 obtain ⟨hN, hF⟩ := chk_inv hF
 obtain ⟨z, hz, hF1⟩ := bind_inv hF
 refine cw_block ?_
 refine cw_loop (fun k f w => ∃ (i : Nat), FF f [(2, pt (aD b1) 0), (3, pt (aD b2) 0), (8, vi (a.Cells.length : Int)), (9, vi (i : Int))] ∧ ST w0 [] w [⟨aD b1, 30, kB_ a B c, 1⟩, ⟨aD b2, 30, kB_ b B1 c1, 1⟩] [⟨B, (a.Cells.flatMap eN0)⟩, ⟨B1, (b.Cells.flatMap eN0)⟩] ∧ i + k = a.Cells.length ∧ forX (F_spec_l9Same_l1 a b) k i () = some z) a.Cells.length ⟨0, (FF.cons rfl (FF.cons rfl (FF.cons rfl (FF.cons rfl FF.nil)))), (hS2.sel [0, 1] rfl rfl), Nat.zero_add _, hz⟩ ?_
 rintro k_ f w ⟨i, hf, hS3, hik, hL⟩
 refine cw_seq (cw_region ?_)
 refine sQ 10 (Y_lt (k := .i64) (a := (i : Int)) (b := (a.Cells.length : Int)) rfl (hf.get 9 3 rfl) (hf.get 8 2 rfl)) (rw_nil (cw_seq ?_))
 refine cw_cond (b := (decide ((i : Int) < (a.Cells.length : Int)))) rfl (fun hlt => ?_) (fun hlt => ?_)
 ·skip
  have hlt1 : i < a.Cells.length := by have h := of_decide_eq_true hlt; omega
  obtain ⟨k_1, rfl⟩ : ∃ k2, k_ = k2 + 1 := ⟨k_ - 1, by omega⟩
  obtain ⟨y, hb, hL1⟩ := forX_go hL
  unfold F_spec_l9Same_l1 at hb
  refine cw_skip (cw_seq (cw_block (cw_seq (cw_region ?_))))
  refine sQ 11 (Y_move (v := vi (i : Int)) rfl (hf.get 9 3 rfl)) ?_
  refine sQ 5 (Y_assign (v := vi (i : Int)) rfl rfl) (rw_nil (cw_seq ?_))
  obtain ⟨x, hx, hb⟩ := bind_inv hb
  obtain ⟨x1, hx1, hb⟩ := bind_inv hb
  refine ra_start (hS3.se [0, 1]).fn (by kernel_rfl) ?_
  have hS4 := hS3.drew
  refine rq 0 12 (v := pt (aD b1) 0) rfl (hS4.se [0, 1]) (fun w' hw' => (Y_fieldAddr (B := aD b1) (i := 0) (s := 0) k_fd_30_0_0_28 k_sz_28_1 rfl (hf.get 2 0 rfl))) ?_
  refine rq 1 13 (v := .slice B a.Cells.length c) rfl (hS4.se [0, 1]) (fun w' hw' => (Y_load1 (B := aD b1) (i := 0) (cs := kB_ a B c) (v := .slice B a.Cells.length c) k_sc_28 rfl rfl (ST.cf hw' (i := 0) rfl) rfl)) ?_
  refine rq 2 14 (v := vi (i : Int)) rfl (hS4.se [0, 1]) (fun w' hw' => (Y_move (v := vi (i : Int)) rfl rfl)) ?_
  refine rq 3 15 (v := pt B ((i : Int).toNat * 5)) rfl (hS4.se [0, 1]) (fun w' hw' => (Y_index (B := B) (m := a.Cells.length) (c := c) (k := .i64) (i := (i : Int)) k_sl_28_65 k_sz_65_5 rfl rfl rfl (gi_isSome eN2 rfl (ST.rf hw' (i := 0) rfl) hx) (getI_nn hx) (getI_ltI hx rfl))) ?_
  refine rq 4 16 (v := gD_ x) rfl (hS4.se [0, 1]) (fun w' hw' => (Y_loadA (B := B) (i := (i : Int).toNat * 5) (cs := (a.Cells.flatMap eN0)) (vs := kD_ x) k_ag_65 k_sz_65_5 rfl rfl (ST.rf hw' (i := 0) rfl) (eN2 x) (gi_seg eN2 hx))) ?_
  refine rq 5 17 (v := pt (aD b2) 0) rfl (hS4.se [0, 1]) (fun w' hw' => (Y_fieldAddr (B := aD b2) (i := 0) (s := 0) k_fd_30_0_0_28 k_sz_28_1 rfl (hf.get 3 1 rfl))) ?_
  refine rq 6 18 (v := .slice B1 b.Cells.length c1) rfl (hS4.se [0, 1]) (fun w' hw' => (Y_load1 (B := aD b2) (i := 0) (cs := kB_ b B1 c1) (v := .slice B1 b.Cells.length c1) k_sc_28 rfl rfl (ST.cf hw' (i := 1) rfl) rfl)) ?_
  refine rq 7 19 (v := vi (i : Int)) rfl (hS4.se [0, 1]) (fun w' hw' => (Y_move (v := vi (i : Int)) rfl rfl)) ?_
  refine rq 8 20 (v := pt B1 ((i : Int).toNat * 5)) rfl (hS4.se [0, 1]) (fun w' hw' => (Y_index (B := B1) (m := b.Cells.length) (c := c1) (k := .i64) (i := (i : Int)) k_sl_28_65 k_sz_65_5 rfl rfl rfl (gi_isSome eN2 rfl (ST.rf hw' (i := 1) rfl) hx1) (getI_nn hx1) (getI_ltI hx1 rfl))) ?_
  refine rq 9 21 (v := gD_ x1) rfl (hS4.se [0, 1]) (fun w' hw' => (Y_loadA (B := B1) (i := (i : Int).toNat * 5) (cs := (b.Cells.flatMap eN0)) (vs := kD_ x1) k_ag_65 k_sz_65_5 rfl rfl (ST.rf hw' (i := 1) rfl) (eN2 x1) (gi_seg eN2 hx1))) ?_
  refine ra_q 10 22 (v := .bool (!(((x.Num.A == x1.Num.A) && ((x.Num.B == x1.Num.B) && ((x.Num.C == x1.Num.C) && ((x.Num.D == x1.Num.D) && true)))) && ((x.Exp == x1.Exp) && true)))) rfl rfl rfl (by kernel_rfl) (by kernel_rfl) (by kernel_rfl) (hS4.se [0, 1]) (fun w' hw' => (Y_neA (xs := #[vi x.Num.A, vi x.Num.B, vi x.Num.C, vi x.Num.D, vi x.Exp]) (ys := #[vi x1.Num.A, vi x1.Num.B, vi x1.Num.C, vi x1.Num.D, vi x1.Exp]) (b := (((x.Num.A == x1.Num.A) && ((x.Num.B == x1.Num.B) && ((x.Num.C == x1.Num.C) && ((x.Num.D == x1.Num.D) && true)))) && ((x.Exp == x1.Exp) && true))) k_eg_65 rfl rfl rfl (eqr_struct (xs := kD_ x) (ys := kD_ x1) k_st_65 k_ho_65 (pts_ag (us := kR_ x.Num) (vs := kR_ x1.Num) k_ag_63 k_sz_63_4 rfl rfl (eqr_struct (xs := kR_ x.Num) (ys := kR_ x1.Num) k_st_63 k_ho_63 (pts_sc k_sc_3 rfl rfl (eqr_int k_int_3_i64) (pts_sc k_sc_3 rfl rfl (eqr_int k_int_3_i64) (pts_sc k_sc_3 rfl rfl (eqr_int k_int_3_i64) (pts_sc k_sc_3 rfl rfl (eqr_int k_int_3_i64) pts_nil))))) (pts_sc k_sc_3 rfl rfl (eqr_int k_int_3_i64) pts_nil))))) ?_
  refine ra_done (by kernel_rfl) ?_
  refine cw_cond (b := (!(((x.Num.A == x1.Num.A) && ((x.Num.B == x1.Num.B) && ((x.Num.C == x1.Num.C) && ((x.Num.D == x1.Num.D) && true)))) && ((x.Exp == x1.Exp) && true)))) rfl (fun hb1 => ?_) (fun hb1 => ?_)
  ·skip
   have hF2 := ct hb hb1
   refine cw_seq (cw_region ?_)
   refine sQ 4 (Y_assign (v := .bool false) rfl rfl) (rw_nil (cw_ret ?_))
   obtain rfl := some_inj hF2
   obtain rfl := some_inj hL1
   obtain rfl := some_inj hF1
   exact ret1 Tryz.results52 (v1 := .bool false) (resAt_tmp rfl) ⟨rfl, (hS4.sN [])⟩
  ·skip
   have hF3 := cf' hb hb1
   refine cw_skip (cw_region ?_)
   refine sQ 23 (Y_add (k := .i64) (a := (i : Int)) (b := 1) rfl (hf.get 9 3 rfl) rfl) ?_
   refine sQ 9 (Y_move (v := vi (i64.wrap ((i : Int) + 1))) rfl rfl) (rw_nil ?_)
   obtain rfl := some_inj hF3
   exact ⟨k_1, Nat.lt_succ_self _, i + 1, (FF.cons (hf.get 2 0 rfl) (FF.cons (hf.get 3 1 rfl) (FF.cons (hf.get 8 2 rfl) (FF.cons (congrArg (Value.int .i64) (wr_succ hlt1 hN)) FF.nil)))), (hS4.sel [0, 1] rfl rfl), (by omega), hL1⟩
 ·skip
  obtain rfl : k_ = 0 := by have h := of_decide_eq_false hlt; omega
  refine cw_exit rfl ?_
  obtain rfl := some_inj hL
  refine cw_seq (cw_region ?_)
  refine sQ 4 (Y_assign (v := .bool true) rfl rfl) (rw_nil (cw_ret ?_))
  obtain rfl := some_inj hF1
  exact ret1 Tryz.results52 (v1 := .bool true) (resAt_tmp rfl) ⟨rfl, (hS3.sN [])⟩

theorem c_spec_l1Turn (x : TRing) (k_ : Int)  (w0 : World)  (hS : ST w0 [] w0 [] []) {r_ : TRing} (hF : F_spec_l1Turn x k_ = some r_) :
  CV Tryz.prog 97 #[gR_ x, vi k_] w0 (fun v w' => v = (gR_ r_) ∧ ST w0 [] w' [] []) := by
 unfold F_spec_l1Turn at hF
 refine cv_of_cw 24 Tryz.func97 rfl Tryz.ntmps97 rfl ?_
 refine cw_seq (cw_region ?_)
 refine sS 2 (Ys_box (T := 63) (v := gR_ x) (cs := kR_ x) (m := 4) hS rfl rfl rfl rfl) ?_
 rintro _ w_ ⟨b, rfl, hS1⟩
 refine sS 4 (Ys_alloc (T := 63) (cs := [vi 0, vi 0, vi 0, vi 0]) (m := 4) hS1 k_zero_63 rfl rfl rfl) ?_
 rintro _ w_1 ⟨b1, rfl, hS2⟩
 refine rw_nil (cw_seq (cw_seq (cw_region ?_)))
 refine sQ 5 (Y_move (v := vi k_) rfl rfl) ?_
 refine sQ 6 (Y_rem (k := .i64) (a := k_) (b := 8) rfl rfl rfl (by decide)) ?_
 refine sQ 7 (Y_add (k := .i64) (a := (Int.tmod k_ 8)) (b := 8) rfl rfl rfl) ?_
 refine sQ 8 (Y_rem (k := .i64) (a := (i64.wrap ((Int.tmod k_ 8) + 8))) (b := 8) rfl rfl rfl (by decide)) ?_
 refine sQ 1 (Y_assign (v := vi (Int.tmod (i64.wrap ((Int.tmod k_ 8) + 8)) 8)) rfl rfl) (rw_nil ?_)
 obtain ⟨z, hz, hF1⟩ := bind_inv hF
 refine cw_block ?_
 refine cw_loop (fun k f w => ∃ (k_1 : Int) (A : Int) (B : Int) (C : Int) (D : Int), FF f [(1, vi k_1), (2, pt (aD b) 0), (4, pt (aD b1) 0)] ∧ ST w0 [] w [⟨aD b, 63, [vi A, vi B, vi C, vi D], 4⟩, ⟨aD b1, 63, [vi 0, vi 0, vi 0, vi 0], 4⟩] [] ∧ whX F_spec_l1Turn_l1 k (k_1, A, B, C, D) = some z) fuel ⟨(Int.tmod (i64.wrap ((Int.tmod k_ 8) + 8)) 8), x.A, x.B, x.C, x.D, (FF.cons rfl (FF.cons rfl (FF.cons rfl FF.nil))), (hS2.sel [0, 1] rfl rfl), hz⟩ ?_
 rintro k_2 f w ⟨k_1, A, B, C, D, hf, hS3, hL⟩
 obtain ⟨k_3, y, rfl, hb, hL1⟩ := whX_go hL
 unfold F_spec_l1Turn_l1 at hb
 refine cw_seq (cw_seq (cw_region ?_))
 refine sQ 9 (Y_move (v := vi k_1) rfl (hf.get 1 0 rfl)) ?_
 refine sQ 10 (Y_gt (k := .i64) (a := k_1) (b := 0) rfl rfl rfl) (rw_nil ?_)
 refine cw_cond (b := (decide (0 < k_1))) rfl (fun hb1 => ?_) (fun hb1 => ?_)
 ·skip
  have hF2 := ct hb hb1
  refine cw_skip (cw_seq (cw_block (cw_region ?_)))
  refine sQ 13 (Y_fieldAddr (B := aD b) (i := 0) (s := 0) k_fd_63_3_3_3 k_sz_3_1 rfl (hf.get 2 1 rfl)) ?_
  refine sQ 14 (Y_load1 (B := aD b) (i := 3) (cs := [vi A, vi B, vi C, vi D]) (v := vi D) k_sc_3 rfl rfl (hS3.cf (i := 0) rfl) rfl) ?_
  refine sQ 15 (Y_neg (k := .i64) (a := D) rfl rfl) ?_
  refine sQ 16 (Y_fieldAddr (B := aD b) (i := 0) (s := 0) k_fd_63_0_0_3 k_sz_3_1 rfl (hf.get 2 1 rfl)) ?_
  refine sQ 17 (Y_load1 (B := aD b) (i := 0) (cs := [vi A, vi B, vi C, vi D]) (v := vi A) k_sc_3 rfl rfl (hS3.cf (i := 0) rfl) rfl) ?_
  refine sQ 18 (Y_fieldAddr (B := aD b) (i := 0) (s := 0) k_fd_63_1_1_3 k_sz_3_1 rfl (hf.get 2 1 rfl)) ?_
  refine sQ 19 (Y_load1 (B := aD b) (i := 1) (cs := [vi A, vi B, vi C, vi D]) (v := vi B) k_sc_3 rfl rfl (hS3.cf (i := 0) rfl) rfl) ?_
  refine sQ 20 (Y_fieldAddr (B := aD b) (i := 0) (s := 0) k_fd_63_2_2_3 k_sz_3_1 rfl (hf.get 2 1 rfl)) ?_
  refine sQ 21 (Y_load1 (B := aD b) (i := 2) (cs := [vi A, vi B, vi C, vi D]) (v := vi C) k_sc_3 rfl rfl (hS3.cf (i := 0) rfl) rfl) ?_
  refine sQ 22 (Y_buildS (zs := [vi 0, vi 0, vi 0, vi 0]) (vs := [(0, vi (i64.wrap (-D))), (1, vi A), (2, vi B), (3, vi C)]) (cs := [vi (i64.wrap (-D)), vi A, vi B, vi C]) k_pl_63 k_zero_63 rfl (mpc rfl (mpc rfl (mpc rfl (mpc rfl mpn)))) rfl) ?_
  refine s0 (Ys_store (i := 0) (s := 4) (B := aD b) (T' := 63) (v := .agg #[vi (i64.wrap (-D)), vi A, vi B, vi C]) (vs := [vi (i64.wrap (-D)), vi A, vi B, vi C]) (k := 0) (cs' := [vi (i64.wrap (-D)), vi A, vi B, vi C]) hS3 k_sz_63_4 rfl (hf.get 2 1 rfl) rfl rfl rfl rfl rfl (lB rfl) rfl rfl) ?_
  rintro _ w_2 ⟨rfl, hS4⟩
  refine rw_nil (cw_region ?_)
  refine sQ 11 (Y_move (v := vi k_1) rfl (hf.get 1 0 rfl)) ?_
  refine sQ 12 (Y_sub (k := .i64) (a := k_1) (b := 1) rfl rfl rfl) ?_
  refine sQ 1 (Y_assign (v := vi (i64.wrap (k_1 - 1))) rfl rfl) (rw_nil ?_)
  obtain rfl := some_inj hF2
  exact ⟨k_3, Nat.lt_succ_self _, (i64.wrap (k_1 - 1)), (i64.wrap (-D)), A, B, C, (FF.cons rfl (FF.cons (hf.get 2 1 rfl) (FF.cons (hf.get 4 2 rfl) FF.nil))), (hS4.sel [0, 1] rfl rfl), hL1⟩
 ·skip
  have hF3 := cf' hb hb1
  refine cw_exit rfl ?_
  obtain rfl := some_inj hF3
  obtain rfl := some_inj hL1
  refine cw_seq (cw_region ?_)
  refine sQ 23 (Y_loadA (B := aD b) (i := 0) (cs := [vi A, vi B, vi C, vi D]) (vs := [vi A, vi B, vi C, vi D]) k_ag_63 k_sz_63_4 rfl (hf.get 2 1 rfl) (hS3.cf (i := 0) rfl) rfl rfl) ?_
  refine s0 (Ys_store (i := 1) (s := 4) (B := aD b1) (T' := 63) (v := .agg #[vi A, vi B, vi C, vi D]) (vs := [vi A, vi B, vi C, vi D]) (k := 0) (cs' := [vi A, vi B, vi C, vi D]) hS3 k_sz_63_4 rfl (hf.get 4 2 rfl) rfl rfl rfl rfl rfl (lB rfl) rfl rfl) ?_
  rintro _ w_3 ⟨rfl, hS5⟩
  refine rw_nil (cw_ret ?_)
  obtain rfl := some_inj hF1
  exact ret1 Tryz.results97 (v1 := .agg #[vi A, vi B, vi C, vi D]) (resAt_cellA (B := aD b1) (i := 0) (cs := [vi A, vi B, vi C, vi D]) (vs := [vi A, vi B, vi C, vi D]) (hf.get 4 2 rfl) k_ag_63 k_sz_63_4 (hS5.cf (i := 1) rfl) rfl rfl) ⟨rfl, (hS5.sN [])⟩

theorem c_spec_l2Power (k_ : Int)  (w0 : World)  (hS : ST w0 [] w0 [] []) {r_ : TDyadic} (hF : F_spec_l2Power k_ = some r_) :
  CV Tryz.prog 54 #[vi k_] w0 (fun v w' => v = (gD_ r_) ∧ ST w0 [] w' [] []) := by
 unfold F_spec_l2Power at hF
 refine cv_of_cw 7 Tryz.func54 rfl Tryz.ntmps54 rfl ?_
 refine cw_seq (cw_region ?_)
 refine sS 2 (Ys_alloc (T := 65) (cs := kZ_) (m := 5) hS k_zero_65 rfl rfl rfl) ?_
 rintro _ w_ ⟨b, rfl, hS1⟩
 refine rw_nil (cw_seq (cw_region ?_))
 refine sQ 3 (Y_buildS (zs := [vi 0, vi 0, vi 0, vi 0]) (vs := [(0, vi 1)]) (cs := [vi 1, vi 0, vi 0, vi 0]) k_pl_63 k_zero_63 rfl (mpc rfl mpn) rfl) ?_
 refine sQ 4 (Y_move (v := vi k_) rfl rfl) ?_
 obtain ⟨r_1, hc, hF⟩ := bind_inv hF
 refine sc 5 rfl rfl (Yc_func (g := 97) (vs := [.agg #[vi 1, vi 0, vi 0, vi 0], vi k_]) k_call_97 rfl (mc rfl (mc rfl mn)) (c_spec_l1Turn (TRing.mk 1 0 0 0) k_ _  (hS1.inn0 [] rfl) hc)) ?_
 rintro _ w_1 ⟨rfl, hd⟩
 have hS2 := hS1.out00 hd
 refine sQ 6 (Y_buildS (zs := kZ_) (vs := [(0, gR_ r_1)]) (cs := [vi r_1.A, vi r_1.B, vi r_1.C, vi r_1.D, vi 0]) k_pl_65 k_zero_65 rfl (mpc rfl mpn) rfl) ?_
 refine s0 (Ys_store (i := 0) (s := 5) (B := aD b) (T' := 65) (v := .agg #[vi r_1.A, vi r_1.B, vi r_1.C, vi r_1.D, vi 0]) (vs := [vi r_1.A, vi r_1.B, vi r_1.C, vi r_1.D, vi 0]) (k := 0) (cs' := [vi r_1.A, vi r_1.B, vi r_1.C, vi r_1.D, vi 0]) hS2 k_sz_65_5 rfl rfl rfl rfl rfl rfl rfl (lB rfl) rfl rfl) ?_
 rintro _ w_2 ⟨rfl, hS3⟩
 refine rw_nil (cw_ret ?_)
 obtain rfl := some_inj hF
 exact ret1 Tryz.results54 (v1 := .agg #[vi r_1.A, vi r_1.B, vi r_1.C, vi r_1.D, vi 0]) (resAt_cellA (B := aD b) (i := 0) (cs := [vi r_1.A, vi r_1.B, vi r_1.C, vi r_1.D, vi 0]) (vs := [vi r_1.A, vi r_1.B, vi r_1.C, vi r_1.D, vi 0]) rfl k_ag_65 k_sz_65_5 (hS3.cf (i := 0) rfl) rfl rfl) ⟨rfl, (hS3.sN [])⟩

theorem c_spec_l9Unit   (w0 : World)  (hS : ST w0 [] w0 [] []) {r_ : TBloch} (hF : F_spec_l9Unit = some r_) :
  CV Tryz.prog 53 #[] w0 (fun v w' => ∃ (B : Option Addr) (c : Nat), v = (gB_ r_ B c) ∧ ST w0 [] w' [⟨B, 65, (r_.Cells.flatMap eN0), c * 5⟩] []) := by
 unfold F_spec_l9Unit at hF
 refine cv_of_cw 16 Tryz.func53 rfl Tryz.ntmps53 rfl ?_
 refine cw_seq (cw_region ?_)
 refine sS 0 (Ys_alloc (T := 30) (cs := [.slice none 0 0]) (m := 1) hS k_zero_30 rfl rfl rfl) ?_
 rintro _ w_ ⟨b, rfl, hS1⟩
 refine rw_nil (cw_seq (cw_region ?_))
 refine sS 3 (Ys_make (s := 5) (by' := 40) (nn := 9) (a := 9) (b := 9) (cs := ((List.replicate 9 (TDyadic.mk (TRing.mk 0 0 0 0) 0)).flatMap eN0)) hS1 k_sl_28_65 k_sz_65_5 k_by_65_40 k_zero_65 rfl rfl rfl rfl (show (0 : Int) ≤ 9 ∧ 9 ≤ 1099511627776 by decide).1 rfl (by have := (show (0 : Int) ≤ 9 ∧ 9 ≤ 1099511627776 by decide); omega) (by have := (show (0 : Int) ≤ 9 ∧ 9 ≤ 1099511627776 by decide); omega) (by omega) (fm_rep (enc := eN0) (d := (TDyadic.mk (TRing.mk 0 0 0 0) 0)) rfl _)) ?_
 rintro _ w_1 ⟨b1, rfl, hS2⟩
 refine sQ 4 (Y_buildS (zs := [.slice none 0 0]) (vs := [(0, .slice (aD b1) 9 9)]) (cs := [.slice (aD b1) 9 9]) k_pl_30 k_zero_30 rfl (mpc rfl mpn) rfl) ?_
 refine sS 1 (Ys_alloc (T := 30) (cs := [.slice none 0 0]) (m := 1) hS2 k_zero_30 rfl rfl rfl) ?_
 rintro _ w_2 ⟨b2, rfl, hS3⟩
 refine s0 (Ys_store (i := 2) (s := 1) (B := aD b2) (T' := 30) (v := .agg #[.slice (aD b1) 9 9]) (vs := [.slice (aD b1) 9 9]) (k := 0) (cs' := [.slice (aD b1) 9 9]) hS3 k_sz_30_1 rfl rfl rfl rfl rfl rfl rfl (lB rfl) rfl rfl) ?_
 rintro _ w_3 ⟨rfl, hS4⟩
 refine rw_nil (cw_seq (cw_seq (cw_region ?_)))
 refine sQ 2 (Y_assign (v := vi 0) rfl rfl) (rw_nil ?_)
 obtain ⟨z, hz, hF1⟩ := bind_inv hF
 refine cw_block ?_
 refine cw_loop (fun k f w => ∃ (i1 : Nat) (Cells : List TDyadic), FF f [(0, pt (aD b) 0), (1, pt (aD b2) 0), (2, vi (i1 : Int))] ∧ Cells.length = 9 ∧ ST w0 [] w [⟨aD b, 30, [.slice none 0 0], 1⟩, ⟨aD b2, 30, [.slice (aD b1) 9 9], 1⟩, ⟨aD b1, 65, (Cells.flatMap eN0), 9 * 5⟩] [] ∧ i1 + k = 3 ∧ forN F_spec_l9Unit_l1 k i1 Cells = some z) 3 ⟨0, (List.replicate 9 (TDyadic.mk (TRing.mk 0 0 0 0) 0)), (FF.cons rfl (FF.cons rfl (FF.cons rfl FF.nil))), List.length_replicate, (hS4.sel [0, 2, 1] rfl rfl), Nat.zero_add _, hz⟩ ?_
 rintro k_ f w ⟨i1, Cells, hf, hl, hS5, hik, hL⟩
 refine cw_seq (cw_seq (cw_region ?_))
 refine sQ 5 (Y_move (v := vi (i1 : Int)) rfl (hf.get 2 2 rfl)) ?_
 refine sQ 6 (Y_lt (k := .i64) (a := (i1 : Int)) (b := 3) rfl rfl rfl) (rw_nil ?_)
 refine cw_cond (b := (decide ((i1 : Int) < 3))) rfl (fun hlt => ?_) (fun hlt => ?_)
 ·skip
  have hlt1 : i1 < 3 := by have h := of_decide_eq_true hlt; omega
  obtain ⟨k_1, rfl⟩ : ∃ k2, k_ = k2 + 1 := ⟨k_ - 1, by omega⟩
  obtain ⟨y, hb, hL1⟩ := forN_go hL
  unfold F_spec_l9Unit_l1 at hb
  refine cw_skip (cw_seq (cw_block ?_))
  obtain ⟨r_1, hc, hb⟩ := bind_inv hb
  obtain ⟨x, hx, hb⟩ := bind_inv hb
  refine ra_start (hS5.se [0, 1]).fn (by kernel_rfl) ?_
  have hS7 := hS5.drew
  refine rq 0 9 (v := pt (aD b2) 0) rfl (hS7.se [0, 1]) (fun w' hw' => (Y_fieldAddr (B := aD b2) (i := 0) (s := 0) k_fd_30_0_0_28 k_sz_28_1 rfl (hf.get 1 1 rfl))) ?_
  refine rq 1 10 (v := .slice (aD b1) 9 9) rfl (hS7.se [0, 1]) (fun w' hw' => (Y_load1 (B := aD b2) (i := 0) (cs := [.slice (aD b1) 9 9]) (v := .slice (aD b1) 9 9) k_sc_28 rfl rfl (ST.cf hw' (i := 1) rfl) rfl)) ?_
  refine rq 2 11 (v := vi (i1 : Int)) rfl (hS7.se [0, 1]) (fun w' hw' => (Y_move (v := vi (i1 : Int)) rfl (hf.get 2 2 rfl))) ?_
  refine rq 3 12 (v := vi (i64.wrap (4 * (i1 : Int)))) rfl (hS7.se [0, 1]) (fun w' hw' => (Y_mul (k := .i64) (a := 4) (b := (i1 : Int)) rfl rfl rfl)) ?_
  refine rA [4] ?_
  refine ra_c 13 (i := 4) rfl rfl rfl (Yc_func (g := 54) (vs := [vi 0]) k_call_54 rfl (mc rfl mn) (c_spec_l2Power 0 _  (hS7.inn0 [] rfl) hc)) ?_ ?_
  ·rintro _ w_4 ⟨rfl, hd⟩
   have hS8 := hS7.out00 hd
   refine ⟨(hS8.se [0, 1]), ?_⟩
   refine rA [5] ?_
   refine ra_y 14 (i := 5) (v := pt (aD b1) ((i64.wrap (4 * (i1 : Int))).toNat * 5)) rfl rfl rfl (Y_index (B := aD b1) (m := 9) (c := 9) (k := .i64) (i := (i64.wrap (4 * (i1 : Int)))) k_sl_28_65 k_sz_65_5 rfl rfl rfl (gi_isSome eN2 rfl (hS8.cf (i := 2) rfl) hx) (getI_nn hx) (getI_ltI hx hl)) (hS8.se [0, 1]) ?_ ?_
   ·skip
    refine rA [6] ?_
    refine ra_s0 (i := 6) rfl rfl rfl (Ys_store (i := 2) (s := 5) (B := aD b1) (T' := 65) (v := gD_ r_1) (vs := kD_ r_1) (k := (i64.wrap (4 * (i1 : Int))).toNat * 5) (cs' := ((Cells.set (i64.wrap (4 * (i1 : Int))).toNat r_1).flatMap eN0)) hS8 k_sz_65_5 rfl rfl rfl rfl rfl rfl rfl (gi_fit0 eN2 hx) (gi_set eN2 hx r_1 rfl) rfl) ?_ ?_
    ·rintro _ w_5 ⟨rfl, hS9⟩
     refine ⟨(hS9.se [0, 1]), ?_⟩
     refine ra_done (by kernel_rfl) ?_
     refine cw_region ?_
     refine sQ 7 (Y_move (v := vi (i1 : Int)) rfl (hf.get 2 2 rfl)) ?_
     refine sQ 8 (Y_add (k := .i64) (a := (i1 : Int)) (b := 1) rfl rfl rfl) ?_
     refine sQ 2 (Y_assign (v := vi (i64.wrap ((i1 : Int) + 1))) rfl rfl) (rw_nil ?_)
     obtain rfl := some_inj hb
     exact ⟨k_1, Nat.lt_succ_self _, i1 + 1, (Cells.set (i64.wrap (4 * (i1 : Int))).toNat r_1), (FF.cons (hf.get 0 0 rfl) (FF.cons (hf.get 1 1 rfl) (FF.cons (congrArg (Value.int .i64) (wr_succ hlt1 (show 3 ≤ 9223372036854775807 by decide))) FF.nil))), (set_len _ _ _ hl), (hS9.sel [0, 1, 2] rfl rfl), (by omega), hL1⟩
    exact allR_nil
   exact allR_nil
  exact allR_nil
 ·skip
  obtain rfl : k_ = 0 := by have h := of_decide_eq_false hlt; omega
  refine cw_exit rfl ?_
  obtain rfl := some_inj hL
  refine cw_seq (cw_region ?_)
  refine sQ 15 (Y_loadA (B := aD b2) (i := 0) (cs := [.slice (aD b1) 9 9]) (vs := [.slice (aD b1) 9 9]) k_ag_30 k_sz_30_1 rfl (hf.get 1 1 rfl) (hS5.cf (i := 1) rfl) rfl rfl) ?_
  refine s0 (Ys_store (i := 0) (s := 1) (B := aD b) (T' := 30) (v := .agg #[.slice (aD b1) 9 9]) (vs := [.slice (aD b1) 9 9]) (k := 0) (cs' := [.slice (aD b1) 9 9]) hS5 k_sz_30_1 rfl (hf.get 0 0 rfl) rfl rfl rfl rfl rfl (lB rfl) rfl rfl) ?_
  rintro _ w_6 ⟨rfl, hS10⟩
  refine rw_nil (cw_ret ?_)
  obtain rfl := some_inj hF1
  exact ret1 Tryz.results53 (v1 := .agg #[.slice (aD b1) 9 9]) (resAt_cellA (B := aD b) (i := 0) (cs := [.slice (aD b1) 9 9]) (vs := [.slice (aD b1) 9 9]) (hf.get 0 0 rfl) k_ag_30 k_sz_30_1 (hS10.cf (i := 0) rfl) rfl rfl) ⟨aD b1, 9, (by simp [hl]), (hS10.sN [2])⟩

theorem c_spec_l9Valid (b : TBloch) (B : Option Addr) (c n : Nat) (w0 : World) (hn : b.Cells.length = n) (hS : ST w0 [] w0 [] [⟨B, (b.Cells.flatMap eN0)⟩]) {r_ : Bool} (hF : F_spec_l9Valid b = some r_) :
  CV Tryz.prog 24 #[.agg #[.slice B n c]] w0 (fun v w' => v = .bool r_ ∧ ST w0 [] w' [] []) := by
 subst hn
 unfold F_spec_l9Valid at hF
 refine cv_of_cw 95 Tryz.func24 rfl Tryz.ntmps24 rfl ?_
 refine cw_seq (cw_region ?_)
 refine sS 1 (Ys_box (T := 30) (v := gB_ b B c) (cs := kB_ b B c) (m := 1) hS rfl rfl rfl rfl) ?_
 rintro _ w_ ⟨b1, rfl, hS1⟩
 refine sQ 2 (Y_assign (v := .bool false) rfl rfl) (rw_nil (cw_seq (cw_seq (cw_region ?_))))
 refine sQ 8 (Y_fieldAddr (B := aD b1) (i := 0) (s := 0) k_fd_30_0_0_28 k_sz_28_1 rfl rfl) ?_
 refine sQ 9 (Y_load1 (B := aD b1) (i := 0) (cs := kB_ b B c) (v := .slice B b.Cells.length c) k_sc_28 rfl rfl (hS1.cf (i := 0) rfl) rfl) ?_
 refine sQ 10 (Y_len (B := B) (m := b.Cells.length) (c := c) k_sl_28_65 rfl rfl) ?_
 refine sQ 11 (Y_ne (k := .i64) (a := (b.Cells.length : Int)) (b := 9) rfl rfl rfl) (rw_nil ?_)
 refine cw_cond (b := ((b.Cells.length : Int) != 9)) rfl (fun hb => ?_) (fun hb => ?_)
 ·skip
  have hF1 := ct hF hb
  refine cw_seq (cw_region ?_)
  refine sQ 2 (Y_assign (v := .bool false) rfl rfl) (rw_nil (cw_ret ?_))
  obtain rfl := some_inj hF1
  exact ret1 Tryz.results24 (v1 := .bool false) (resAt_tmp rfl) ⟨rfl, (hS1.sN [])⟩
 ·skip
  have hF2 := cf' hF hb
  refine cw_skip (cw_seq (cw_seq (cw_region ?_)))
  refine sQ 12 (Y_fieldAddr (B := aD b1) (i := 0) (s := 0) k_fd_30_0_0_28 k_sz_28_1 rfl rfl) ?_
  refine sQ 13 (Y_load1 (B := aD b1) (i := 0) (cs := kB_ b B c) (v := .slice B b.Cells.length c) k_sc_28 rfl rfl (hS1.cf (i := 0) rfl) rfl) ?_
  refine sQ 14 (Y_len (B := B) (m := b.Cells.length) (c := c) k_sl_28_65 rfl rfl) ?_
  refine sQ 15 (Y_move (v := vi 0) rfl rfl) (rw_nil ?_)
  obtain ⟨hN, hF2⟩ := chk_inv hF2
  obtain ⟨z, hz, hF3⟩ := bind_inv hF2
  refine cw_block ?_
  refine cw_loop (fun k f w => ∃ (i : Nat), FF f [(1, pt (aD b1) 0), (13, .slice B b.Cells.length c), (14, vi (b.Cells.length : Int)), (15, vi (i : Int))] ∧ ST w0 [] w [⟨aD b1, 30, kB_ b B c, 1⟩] [⟨B, (b.Cells.flatMap eN0)⟩] ∧ i + k = b.Cells.length ∧ forX (F_spec_l9Valid_l1 b) k i () = some z) b.Cells.length ⟨0, (FF.cons rfl (FF.cons rfl (FF.cons rfl (FF.cons rfl FF.nil)))), (hS1.sel [0] rfl rfl), Nat.zero_add _, hz⟩ ?_
  rintro k_ f w ⟨i, hf, hS2, hik, hL⟩
  refine cw_seq (cw_region ?_)
  refine sQ 16 (Y_lt (k := .i64) (a := (i : Int)) (b := (b.Cells.length : Int)) rfl (hf.get 15 3 rfl) (hf.get 14 2 rfl)) (rw_nil (cw_seq ?_))
  refine cw_cond (b := (decide ((i : Int) < (b.Cells.length : Int)))) rfl (fun hlt => ?_) (fun hlt => ?_)
  ·skip
   have hlt1 : i < b.Cells.length := by have h := of_decide_eq_true hlt; omega
   obtain ⟨k_1, rfl⟩ : ∃ k2, k_ = k2 + 1 := ⟨k_ - 1, by omega⟩
   obtain ⟨y, hb1, hL1⟩ := forX_go hL
   unfold F_spec_l9Valid_l1 at hb1
   refine cw_skip (cw_seq (cw_block (cw_seq (cw_region ?_))))
   obtain ⟨x, hx, hb1⟩ := bind_inv hb1
   refine sQ 17 (Y_index (B := B) (m := b.Cells.length) (c := c) (k := .i64) (i := (i : Int)) k_sl_28_65 k_sz_65_5 rfl (hf.get 13 1 rfl) (hf.get 15 3 rfl) (gi_isSome eN2 rfl (hS2.rf (i := 0) rfl) hx) (getI_nn hx) (getI_ltI hx rfl)) ?_
   refine sQ 18 (Y_loadA (B := B) (i := (i : Int).toNat * 5) (cs := (b.Cells.flatMap eN0)) (vs := kD_ x) k_ag_65 k_sz_65_5 rfl rfl (hS2.rf (i := 0) rfl) (eN2 x) (gi_seg eN2 hx)) ?_
   refine sS 4 (Ys_alloc (T := 65) (cs := kZ_) (m := 5) hS2 k_zero_65 rfl rfl rfl) ?_
   rintro _ w_1 ⟨b2, rfl, hS3⟩
   refine s0 (Ys_store (i := 1) (s := 5) (B := aD b2) (T' := 65) (v := gD_ x) (vs := kD_ x) (k := 0) (cs' := kD_ x) hS3 k_sz_65_5 rfl rfl rfl rfl rfl rfl rfl (lB rfl) rfl rfl) ?_
   rintro _ w_2 ⟨rfl, hS4⟩
   refine rw_nil (cw_seq (cw_region ?_))
   refine sQ 19 (Y_loadA (B := aD b2) (i := 0) (cs := kD_ x) (vs := kD_ x) k_ag_65 k_sz_65_5 rfl rfl (hS4.cf (i := 1) rfl) rfl rfl) ?_
   obtain ⟨r_1, hc, hb1⟩ := bind_inv hb1
   refine sc 20 rfl rfl (Yc_func (g := 45) (vs := [gD_ x]) k_call_45 rfl (mc rfl mn) (c_spec_l2Good x _  (hS4.inn0 [] rfl) hc)) ?_
   rintro _ w_3 ⟨rfl, hd⟩
   have hS5 := hS4.out00 hd
   refine sQ 21 (Y_not (p := r_1) rfl rfl) ?_
   refine sQ 22 (Y_move (v := .bool (!r_1)) rfl rfl) ?_
   refine sgq 23 (B := (!(!r_1))) (v := pt (aD b2) 0) rfl rfl (wF 22) (fun hg => (Y_fieldAddr (B := aD b2) (i := 0) (s := 3) k_fd_65_0_0_63 k_sz_63_4 rfl rfl)) ?_
   refine sgq 24 (B := (!(!r_1))) (v := pt (aD b2) 2) rfl rfl (wF 22) (fun hg1 => (Y_fieldAddr (B := aD b2) (i := 0) (s := 0) k_fd_63_2_2_3 k_sz_3_1 rfl (gv_of (v := pt (aD b2) 0) hg1))) ?_
   refine sgq 25 (B := (!(!r_1))) (v := vi x.Num.C) rfl rfl (wF 22) (fun hg2 => (Y_load1 (B := aD b2) (i := 2) (cs := kD_ x) (v := vi x.Num.C) k_sc_3 rfl (gv_of (v := pt (aD b2) 2) hg2) (hS5.cf (i := 1) rfl) rfl)) ?_
   refine sgq 26 (B := (!(!r_1))) (v := .bool (x.Num.C != 0)) rfl rfl (wF 22) (fun hg3 => (Y_ne (k := .i64) (a := x.Num.C) (b := 0) rfl (gv_of (v := vi x.Num.C) hg3) rfl)) ?_
   refine sQ 27 (Y_or (b := (!r_1)) (z := (x.Num.C != 0)) rfl rfl rfl rfl) ?_
   refine sQ 28 (Y_move (v := .bool ((!r_1) || (x.Num.C != 0))) rfl rfl) ?_
   refine sgq 29 (B := (!((!r_1) || (x.Num.C != 0)))) (v := pt (aD b2) 0) rfl rfl (wF 28) (fun hg4 => (Y_fieldAddr (B := aD b2) (i := 0) (s := 3) k_fd_65_0_0_63 k_sz_63_4 rfl rfl)) ?_
   refine sgq 30 (B := (!((!r_1) || (x.Num.C != 0)))) (v := pt (aD b2) 3) rfl rfl (wF 28) (fun hg5 => (Y_fieldAddr (B := aD b2) (i := 0) (s := 0) k_fd_63_3_3_3 k_sz_3_1 rfl (gv_of (v := pt (aD b2) 0) hg5))) ?_
   refine sgq 31 (B := (!((!r_1) || (x.Num.C != 0)))) (v := vi x.Num.D) rfl rfl (wF 28) (fun hg6 => (Y_load1 (B := aD b2) (i := 3) (cs := kD_ x) (v := vi x.Num.D) k_sc_3 rfl (gv_of (v := pt (aD b2) 3) hg6) (hS5.cf (i := 1) rfl) rfl)) ?_
   refine sgq 32 (B := (!((!r_1) || (x.Num.C != 0)))) (v := pt (aD b2) 0) rfl rfl (wF 28) (fun hg7 => (Y_fieldAddr (B := aD b2) (i := 0) (s := 3) k_fd_65_0_0_63 k_sz_63_4 rfl rfl)) ?_
   refine sgq 33 (B := (!((!r_1) || (x.Num.C != 0)))) (v := pt (aD b2) 1) rfl rfl (wF 28) (fun hg8 => (Y_fieldAddr (B := aD b2) (i := 0) (s := 0) k_fd_63_1_1_3 k_sz_3_1 rfl (gv_of (v := pt (aD b2) 0) hg8))) ?_
   refine sgq 34 (B := (!((!r_1) || (x.Num.C != 0)))) (v := vi x.Num.B) rfl rfl (wF 28) (fun hg9 => (Y_load1 (B := aD b2) (i := 1) (cs := kD_ x) (v := vi x.Num.B) k_sc_3 rfl (gv_of (v := pt (aD b2) 1) hg9) (hS5.cf (i := 1) rfl) rfl)) ?_
   refine sgq 35 (B := (!((!r_1) || (x.Num.C != 0)))) (v := vi (i64.wrap (-x.Num.B))) rfl rfl (wF 28) (fun hg10 => (Y_neg (k := .i64) (a := x.Num.B) rfl (gv_of (v := vi x.Num.B) hg10))) ?_
   refine sgq 36 (B := (!((!r_1) || (x.Num.C != 0)))) (v := .bool (x.Num.D != (i64.wrap (-x.Num.B)))) rfl rfl (wF 28) (fun hg11 => (Y_ne (k := .i64) (a := x.Num.D) (b := (i64.wrap (-x.Num.B))) rfl (gv_of (v := vi x.Num.D) hg11) (gv_of (v := vi (i64.wrap (-x.Num.B))) hg11))) ?_
   refine sQ 37 (Y_or (b := ((!r_1) || (x.Num.C != 0))) (z := (x.Num.D != (i64.wrap (-x.Num.B)))) rfl rfl rfl rfl) (rw_nil ?_)
   refine cw_cond (b := (((!r_1) || (x.Num.C != 0)) || (x.Num.D != (i64.wrap (-x.Num.B))))) rfl (fun hb2 => ?_) (fun hb2 => ?_)
   ·skip
    have hF4 := ct hb1 hb2
    refine cw_seq (cw_region ?_)
    refine sQ 2 (Y_assign (v := .bool false) rfl rfl) (rw_nil (cw_ret ?_))
    obtain rfl := some_inj hF4
    obtain rfl := some_inj hL1
    obtain rfl := some_inj hF3
    exact ret1 Tryz.results24 (v1 := .bool false) (resAt_tmp rfl) ⟨rfl, (hS5.sN [])⟩
   ·skip
    have hF5 := cf' hb1 hb2
    refine cw_skip (cw_region ?_)
    refine sQ 38 (Y_add (k := .i64) (a := (i : Int)) (b := 1) rfl (hf.get 15 3 rfl) rfl) ?_
    refine sQ 15 (Y_move (v := vi (i64.wrap ((i : Int) + 1))) rfl rfl) (rw_nil ?_)
    obtain rfl := some_inj hF5
    exact ⟨k_1, Nat.lt_succ_self _, i + 1, (FF.cons (hf.get 1 0 rfl) (FF.cons (hf.get 13 1 rfl) (FF.cons (hf.get 14 2 rfl) (FF.cons (congrArg (Value.int .i64) (wr_succ hlt1 hN)) FF.nil)))), (hS5.sel [0] rfl rfl), (by omega), hL1⟩
  ·skip
   obtain rfl : k_ = 0 := by have h := of_decide_eq_false hlt; omega
   refine cw_exit rfl ?_
   obtain rfl := some_inj hL
   refine cw_seq (cw_region ?_)
   refine sQ 39 (Y_buildS (zs := [.bool false]) (vs := []) (cs := [.bool false]) k_pl_82 k_zero_82 rfl mpn rfl) ?_
   refine sS 40 (Ys_box (T := 82) (v := .agg #[.bool false]) (cs := [.bool false]) (m := 1) hS2 rfl rfl rfl rfl) ?_
   rintro _ w_4 ⟨b3, rfl, hS6⟩
   refine sQ 5 (Y_assign (v := pt (aD b3) 0) rfl rfl) (rw_nil (cw_seq ?_))
   obtain ⟨r_2, hc1, hF3⟩ := bind_inv hF3
   obtain ⟨⟨r_3, m⟩, hc2, hF3⟩ := bind_inv hF3
   refine cw_mid (fun f w => ∃ (B3 : Option Addr) (B4 : Option Addr) (c3 : Nat), FF f [(1, pt (aD b1) 0), (5, pt (aD b3) 0), (6, pt B3 0)] ∧ ST w0 [] w [⟨aD b1, 30, kB_ b B c, 1⟩, ⟨aD b3, 82, [.bool m.bad], 1⟩, ⟨B3, 30, kB_ r_3 B4 c3, 1⟩, ⟨B4, 65, (r_3.Cells.flatMap eN0), c3 * 5⟩] [⟨B, (b.Cells.flatMap eN0)⟩]) ?_ ?_
   ·skip
    refine ra_start (hS6.se [0]).fn (by kernel_rfl) ?_
    have hS10 := hS6.drew
    refine rq 0 41 (v := pt (aD b3) 0) rfl (hS10.se [0]) (fun w' hw' => (Y_move (v := pt (aD b3) 0) rfl rfl)) ?_
    refine rq 1 42 (v := gB_ b B c) rfl (hS10.se [0]) (fun w' hw' => (Y_loadA (B := aD b1) (i := 0) (cs := kB_ b B c) (vs := kB_ b B c) k_ag_30 k_sz_30_1 rfl (hf.get 1 0 rfl) (ST.cf hw' (i := 0) rfl) rfl rfl)) ?_
    refine rq 2 43 (v := gB_ b B c) rfl (hS10.se [0]) (fun w' hw' => (Y_loadA (B := aD b1) (i := 0) (cs := kB_ b B c) (vs := kB_ b B c) k_ag_30 k_sz_30_1 rfl (hf.get 1 0 rfl) (ST.cf hw' (i := 0) rfl) rfl rfl)) ?_
    refine rA [3, 5] ?_
    refine ra_c 44 (i := 3) rfl rfl rfl (Yc_func (g := 47) (vs := [gB_ b B c]) k_call_47 rfl (mc rfl mn) (c_spec_l9Turn b B c b.Cells.length _ rfl (hS10.inn0 [(true, 0)] rfl) hc1)) ?_ ?_
    ·rintro _ w_5 ⟨B1, c1, rfl, hd1⟩
     have hS11 := hS10.out0 hd1
     refine ⟨(hS11.se [0]), ?_⟩
     refine rA [4, 5] ?_
     refine ra_c 45 (i := 4) rfl rfl rfl (Yc_func (g := 46) (vs := [pt (aD b3) 0, gB_ b B c, gB_ r_2 B1 c1]) k_call_46 rfl (mc rfl (mc rfl (mc rfl mn))) (c_spec_l2C_bloch (Tl2C.mk false) b r_2 (aD b3) B c b.Cells.length B1 c1 r_2.Cells.length _ rfl rfl (hS11.inn [false, true, false] rfl [(true, 0), (false, 1)] rfl) hc2)) ?_ ?_
     ·rintro _ w_6 ⟨B2, c2, rfl, hd2⟩
      have hS12 := hS11.out [false, true, false] rfl hd2
      refine ⟨(hS12.se [0]), ?_⟩
      refine rA [5] ?_
      refine ra_s 6 (i := 5) rfl rfl rfl (Ys_alloc (T := 30) (cs := [.slice none 0 0]) (m := 1) hS12 k_zero_30 rfl rfl rfl) ?_ ?_
      ·rintro _ w_7 ⟨b4, rfl, hS13⟩
       refine ⟨(hS13.se [0]), ?_⟩
       refine rA [6] ?_
       refine ra_s0 (i := 6) rfl rfl rfl (Ys_store (i := 4) (s := 1) (B := aD b4) (T' := 30) (v := gB_ r_3 B2 c2) (vs := kB_ r_3 B2 c2) (k := 0) (cs' := kB_ r_3 B2 c2) hS13 k_sz_30_1 rfl rfl rfl rfl rfl rfl rfl (lB rfl) rfl rfl) ?_ ?_
       ·rintro _ w_8 ⟨rfl, hS14⟩
        have hS14 : ST w0 [] _ [⟨aD b1, 30, kB_ b B c, 1⟩, ⟨B1, 65, (r_2.Cells.flatMap eN0), c1 * 5⟩, ⟨aD b3, 82, [.bool m.bad], 1⟩, ⟨B2, 65, (r_3.Cells.flatMap eN0), c2 * 5⟩, ⟨aD b4, 30, kB_ r_3 B2 c2, 1⟩] [⟨B, (b.Cells.flatMap eN0)⟩] := hS14
        refine ⟨(hS14.se [0]), ?_⟩
        refine ra_done (by kernel_rfl) ?_
        exact ⟨aD b4, B2, c2, (FF.cons (hf.get 1 0 rfl) (FF.cons rfl (FF.cons rfl FF.nil))), (hS14.sel [0, 2, 4, 3] rfl rfl)⟩
       exact allR_nil
      exact allR_nil
     refine ra_s 6 (i := 5) rfl rfl rfl (Ys_alloc (T := 30) (cs := [.slice none 0 0]) (m := 1) hS11 k_zero_30 rfl rfl rfl) ?_ ?_
     ·rintro _ w_9 ⟨b4, rfl, hS15⟩
      refine ⟨(hS15.se [0]), ?_⟩
      refine rA [4] ?_
      refine ra_c 45 (i := 4) rfl rfl rfl (Yc_func (g := 46) (vs := [pt (aD b3) 0, gB_ b B c, gB_ r_2 B1 c1]) k_call_46 rfl (mc rfl (mc rfl (mc rfl mn))) (c_spec_l2C_bloch (Tl2C.mk false) b r_2 (aD b3) B c b.Cells.length B1 c1 r_2.Cells.length _ rfl rfl (hS15.inn [false, true, false, false] rfl [(true, 0), (false, 1)] rfl) hc2)) ?_ ?_
      ·rintro _ w_10 ⟨B2, c2, rfl, hd3⟩
       have hS16 := hS15.out [false, true, false, false] rfl hd3
       refine ⟨(hS16.se [0]), ?_⟩
       refine rA [6] ?_
       refine ra_s0 (i := 6) rfl rfl rfl (Ys_store (i := 2) (s := 1) (B := aD b4) (T' := 30) (v := gB_ r_3 B2 c2) (vs := kB_ r_3 B2 c2) (k := 0) (cs' := kB_ r_3 B2 c2) hS16 k_sz_30_1 rfl rfl rfl rfl rfl rfl rfl (lB rfl) rfl rfl) ?_ ?_
       ·rintro _ w_11 ⟨rfl, hS17⟩
        refine ⟨(hS17.se [0]), ?_⟩
        refine ra_done (by kernel_rfl) ?_
        exact ⟨aD b4, B2, c2, (FF.cons (hf.get 1 0 rfl) (FF.cons rfl (FF.cons rfl FF.nil))), (hS17.sel [0, 3, 2, 4] rfl rfl)⟩
       exact allR_nil
      exact allR_nil
     exact allR_nil
    refine ra_s 6 (i := 5) rfl rfl rfl (Ys_alloc (T := 30) (cs := [.slice none 0 0]) (m := 1) hS10 k_zero_30 rfl rfl rfl) ?_ ?_
    ·rintro _ w_12 ⟨b4, rfl, hS18⟩
     refine ⟨(hS18.se [0]), ?_⟩
     refine rA [3] ?_
     refine ra_c 44 (i := 3) rfl rfl rfl (Yc_func (g := 47) (vs := [gB_ b B c]) k_call_47 rfl (mc rfl mn) (c_spec_l9Turn b B c b.Cells.length _ rfl (hS18.inn0 [(true, 0)] rfl) hc1)) ?_ ?_
     ·rintro _ w_13 ⟨B1, c1, rfl, hd4⟩
      have hS19 := hS18.out0 hd4
      refine ⟨(hS19.se [0]), ?_⟩
      refine rA [4] ?_
      refine ra_c 45 (i := 4) rfl rfl rfl (Yc_func (g := 46) (vs := [pt (aD b3) 0, gB_ b B c, gB_ r_2 B1 c1]) k_call_46 rfl (mc rfl (mc rfl (mc rfl mn))) (c_spec_l2C_bloch (Tl2C.mk false) b r_2 (aD b3) B c b.Cells.length B1 c1 r_2.Cells.length _ rfl rfl (hS19.inn [false, true, false, false] rfl [(true, 0), (false, 2)] rfl) hc2)) ?_ ?_
      ·rintro _ w_14 ⟨B2, c2, rfl, hd5⟩
       have hS20 := hS19.out [false, true, false, false] rfl hd5
       refine ⟨(hS20.se [0]), ?_⟩
       refine rA [6] ?_
       refine ra_s0 (i := 6) rfl rfl rfl (Ys_store (i := 1) (s := 1) (B := aD b4) (T' := 30) (v := gB_ r_3 B2 c2) (vs := kB_ r_3 B2 c2) (k := 0) (cs' := kB_ r_3 B2 c2) hS20 k_sz_30_1 rfl rfl rfl rfl rfl rfl rfl (lB rfl) rfl rfl) ?_ ?_
       ·rintro _ w_15 ⟨rfl, hS21⟩
        refine ⟨(hS21.se [0]), ?_⟩
        refine ra_done (by kernel_rfl) ?_
        exact ⟨aD b4, B2, c2, (FF.cons (hf.get 1 0 rfl) (FF.cons rfl (FF.cons rfl FF.nil))), (hS21.sel [0, 3, 1, 4] rfl rfl)⟩
       exact allR_nil
      exact allR_nil
     exact allR_nil
    exact allR_nil
   rintro f w ⟨B3, B4, c3, hf1, hS9⟩
   refine cw_seq ?_
   obtain ⟨x1, hx1, hF3⟩ := bind_inv hF3
   obtain ⟨⟨r_4, m1⟩, hc3, hF3⟩ := bind_inv hF3
   obtain ⟨⟨r_5, m2⟩, hc4, hF3⟩ := bind_inv hF3
   refine cw_mid (fun f w => ∃ (B5 : Option Addr), FF f [(1, pt (aD b1) 0), (5, pt (aD b3) 0), (6, pt B3 0), (7, pt B5 0)] ∧ ST w0 [] w [⟨aD b1, 30, kB_ b B c, 1⟩, ⟨aD b3, 82, [.bool m2.bad], 1⟩, ⟨B3, 30, kB_ r_3 B4 c3, 1⟩, ⟨B4, 65, (r_3.Cells.flatMap eN0), c3 * 5⟩, ⟨B5, 65, kD_ r_5, 5⟩] [⟨B, (b.Cells.flatMap eN0)⟩]) ?_ ?_
   ·skip
    refine ra_start (hS9.se [0, 2, 3]).fn (by kernel_rfl) ?_
    have hS25 := hS9.drew
    refine rq 0 46 (v := pt (aD b3) 0) rfl (hS25.se [0, 2, 3]) (fun w' hw' => (Y_move (v := pt (aD b3) 0) rfl (hf1.get 5 1 rfl))) ?_
    refine rq 1 47 (v := pt (aD b1) 0) rfl (hS25.se [0, 2, 3]) (fun w' hw' => (Y_fieldAddr (B := aD b1) (i := 0) (s := 0) k_fd_30_0_0_28 k_sz_28_1 rfl (hf1.get 1 0 rfl))) ?_
    refine rq 2 48 (v := .slice B b.Cells.length c) rfl (hS25.se [0, 2, 3]) (fun w' hw' => (Y_load1 (B := aD b1) (i := 0) (cs := kB_ b B c) (v := .slice B b.Cells.length c) k_sc_28 rfl rfl (ST.cf hw' (i := 0) rfl) rfl)) ?_
    refine rq 3 49 (v := pt B ((0 : Int).toNat * 5)) rfl (hS25.se [0, 2, 3]) (fun w' hw' => (Y_index (B := B) (m := b.Cells.length) (c := c) (k := .i64) (i := 0) k_sl_28_65 k_sz_65_5 rfl rfl rfl (gi_isSome eN2 rfl (ST.rf hw' (i := 0) rfl) hx1) (getI_nn hx1) (getI_ltI hx1 rfl))) ?_
    refine rq 4 50 (v := gD_ x1) rfl (hS25.se [0, 2, 3]) (fun w' hw' => (Y_loadA (B := B) (i := (0 : Int).toNat * 5) (cs := (b.Cells.flatMap eN0)) (vs := kD_ x1) k_ag_65 k_sz_65_5 rfl rfl (ST.rf hw' (i := 0) rfl) (eN2 x1) (gi_seg eN2 hx1))) ?_
    refine rq 5 51 (v := pt (aD b3) 0) rfl (hS25.se [0, 2, 3]) (fun w' hw' => (Y_move (v := pt (aD b3) 0) rfl (hf1.get 5 1 rfl))) ?_
    refine rq 6 52 (v := gB_ b B c) rfl (hS25.se [0, 2, 3]) (fun w' hw' => (Y_loadA (B := aD b1) (i := 0) (cs := kB_ b B c) (vs := kB_ b B c) k_ag_30 k_sz_30_1 rfl (hf1.get 1 0 rfl) (ST.cf hw' (i := 0) rfl) rfl rfl)) ?_
    refine rA [7, 9] ?_
    refine ra_c 53 (i := 7) rfl rfl rfl (Yc_func (g := 49) (vs := [pt (aD b3) 0, gB_ b B c, vi 1, vi 2]) k_call_49 rfl (mc rfl (mc rfl (mc rfl (mc rfl mn)))) (c_spec_l2C_minor m b 1 2 (aD b3) B c b.Cells.length _ rfl (hS25.inn [false, true, false, false] rfl [(true, 0)] rfl) hc3)) ?_ ?_
    ·rintro _ w_16 ⟨rfl, hd6⟩
     have hS26 := hS25.out [false, true, false, false] rfl hd6
     have hS26 : ST w0 [] _ [⟨aD b1, 30, kB_ b B c, 1⟩, ⟨B3, 30, kB_ r_3 B4 c3, 1⟩, ⟨B4, 65, (r_3.Cells.flatMap eN0), c3 * 5⟩, ⟨aD b3, 82, [.bool m1.bad], 1⟩] [⟨B, (b.Cells.flatMap eN0)⟩] := hS26
     refine ⟨(hS26.se [0, 1, 2]), ?_⟩
     refine rA [8, 9] ?_
     refine ra_c 54 (i := 8) rfl rfl rfl (Yc_func (g := 48) (vs := [pt (aD b3) 0, gD_ x1, gD_ r_4]) k_call_48 rfl (mc rfl (mc rfl (mc rfl mn))) (c_spec_l2C_mul m1 x1 r_4 (aD b3) _  (hS26.inn [false, false, false, true] rfl [] rfl) hc4)) ?_ ?_
     ·rintro _ w_17 ⟨rfl, hd7⟩
      have hS27 := hS26.out [false, false, false, true] rfl hd7
      refine ⟨(hS27.se [0, 1, 2]), ?_⟩
      refine rA [9] ?_
      refine ra_s 7 (i := 9) rfl rfl rfl (Ys_alloc (T := 65) (cs := kZ_) (m := 5) hS27 k_zero_65 rfl rfl rfl) ?_ ?_
      ·rintro _ w_18 ⟨b5, rfl, hS28⟩
       refine ⟨(hS28.se [0, 1, 2]), ?_⟩
       refine rA [10] ?_
       refine ra_s0 (i := 10) rfl rfl rfl (Ys_store (i := 4) (s := 5) (B := aD b5) (T' := 65) (v := gD_ r_5) (vs := kD_ r_5) (k := 0) (cs' := kD_ r_5) hS28 k_sz_65_5 rfl rfl rfl rfl rfl rfl rfl (lB rfl) rfl rfl) ?_ ?_
       ·rintro _ w_19 ⟨rfl, hS29⟩
        refine ⟨(hS29.se [0, 1, 2]), ?_⟩
        refine ra_done (by kernel_rfl) ?_
        exact ⟨aD b5, (FF.cons (hf1.get 1 0 rfl) (FF.cons (hf1.get 5 1 rfl) (FF.cons (hf1.get 6 2 rfl) (FF.cons rfl FF.nil)))), (hS29.sel [0, 3, 1, 2, 4] rfl rfl)⟩
       exact allR_nil
      exact allR_nil
     refine ra_s 7 (i := 9) rfl rfl rfl (Ys_alloc (T := 65) (cs := kZ_) (m := 5) hS26 k_zero_65 rfl rfl rfl) ?_ ?_
     ·rintro _ w_20 ⟨b5, rfl, hS30⟩
      refine ⟨(hS30.se [0, 1, 2]), ?_⟩
      refine rA [8] ?_
      refine ra_c 54 (i := 8) rfl rfl rfl (Yc_func (g := 48) (vs := [pt (aD b3) 0, gD_ x1, gD_ r_4]) k_call_48 rfl (mc rfl (mc rfl (mc rfl mn))) (c_spec_l2C_mul m1 x1 r_4 (aD b3) _  (hS30.inn [false, false, false, true, false] rfl [] rfl) hc4)) ?_ ?_
      ·rintro _ w_21 ⟨rfl, hd8⟩
       have hS31 := hS30.out [false, false, false, true, false] rfl hd8
       refine ⟨(hS31.se [0, 1, 2]), ?_⟩
       refine rA [10] ?_
       refine ra_s0 (i := 10) rfl rfl rfl (Ys_store (i := 3) (s := 5) (B := aD b5) (T' := 65) (v := gD_ r_5) (vs := kD_ r_5) (k := 0) (cs' := kD_ r_5) hS31 k_sz_65_5 rfl rfl rfl rfl rfl rfl rfl (lB rfl) rfl rfl) ?_ ?_
       ·rintro _ w_22 ⟨rfl, hS32⟩
        refine ⟨(hS32.se [0, 1, 2]), ?_⟩
        refine ra_done (by kernel_rfl) ?_
        exact ⟨aD b5, (FF.cons (hf1.get 1 0 rfl) (FF.cons (hf1.get 5 1 rfl) (FF.cons (hf1.get 6 2 rfl) (FF.cons rfl FF.nil)))), (hS32.sel [0, 4, 1, 2, 3] rfl rfl)⟩
       exact allR_nil
      exact allR_nil
     exact allR_nil
    refine ra_s 7 (i := 9) rfl rfl rfl (Ys_alloc (T := 65) (cs := kZ_) (m := 5) hS25 k_zero_65 rfl rfl rfl) ?_ ?_
    ·rintro _ w_23 ⟨b5, rfl, hS33⟩
     refine ⟨(hS33.se [0, 2, 3]), ?_⟩
     refine rA [7] ?_
     refine ra_c 53 (i := 7) rfl rfl rfl (Yc_func (g := 49) (vs := [pt (aD b3) 0, gB_ b B c, vi 1, vi 2]) k_call_49 rfl (mc rfl (mc rfl (mc rfl (mc rfl mn)))) (c_spec_l2C_minor m b 1 2 (aD b3) B c b.Cells.length _ rfl (hS33.inn [false, true, false, false, false] rfl [(true, 0)] rfl) hc3)) ?_ ?_
     ·rintro _ w_24 ⟨rfl, hd9⟩
      have hS34 := hS33.out [false, true, false, false, false] rfl hd9
      have hS34 : ST w0 [] _ [⟨aD b1, 30, kB_ b B c, 1⟩, ⟨B3, 30, kB_ r_3 B4 c3, 1⟩, ⟨B4, 65, (r_3.Cells.flatMap eN0), c3 * 5⟩, ⟨aD b5, 65, kZ_, 5⟩, ⟨aD b3, 82, [.bool m1.bad], 1⟩] [⟨B, (b.Cells.flatMap eN0)⟩] := hS34
      refine ⟨(hS34.se [0, 1, 2]), ?_⟩
      refine rA [8] ?_
      refine ra_c 54 (i := 8) rfl rfl rfl (Yc_func (g := 48) (vs := [pt (aD b3) 0, gD_ x1, gD_ r_4]) k_call_48 rfl (mc rfl (mc rfl (mc rfl mn))) (c_spec_l2C_mul m1 x1 r_4 (aD b3) _  (hS34.inn [false, false, false, false, true] rfl [] rfl) hc4)) ?_ ?_
      ·rintro _ w_25 ⟨rfl, hd10⟩
       have hS35 := hS34.out [false, false, false, false, true] rfl hd10
       refine ⟨(hS35.se [0, 1, 2]), ?_⟩
       refine rA [10] ?_
       refine ra_s0 (i := 10) rfl rfl rfl (Ys_store (i := 3) (s := 5) (B := aD b5) (T' := 65) (v := gD_ r_5) (vs := kD_ r_5) (k := 0) (cs' := kD_ r_5) hS35 k_sz_65_5 rfl rfl rfl rfl rfl rfl rfl (lB rfl) rfl rfl) ?_ ?_
       ·rintro _ w_26 ⟨rfl, hS36⟩
        refine ⟨(hS36.se [0, 1, 2]), ?_⟩
        refine ra_done (by kernel_rfl) ?_
        exact ⟨aD b5, (FF.cons (hf1.get 1 0 rfl) (FF.cons (hf1.get 5 1 rfl) (FF.cons (hf1.get 6 2 rfl) (FF.cons rfl FF.nil)))), (hS36.sel [0, 4, 1, 2, 3] rfl rfl)⟩
       exact allR_nil
      exact allR_nil
     exact allR_nil
    exact allR_nil
   rintro f w ⟨B5, hf2, hS24⟩
   refine cw_seq ?_
   obtain ⟨x2, hx2, hF3⟩ := bind_inv hF3
   obtain ⟨⟨r_6, m3⟩, hc5, hF3⟩ := bind_inv hF3
   obtain ⟨⟨r_7, m4⟩, hc6, hF3⟩ := bind_inv hF3
   obtain ⟨r_8, hc7, hF3⟩ := bind_inv hF3
   obtain ⟨⟨r_9, m5⟩, hc8, hF3⟩ := bind_inv hF3
   refine cw_mid (fun f w => FF f [(1, pt (aD b1) 0), (5, pt (aD b3) 0), (6, pt B3 0), (7, pt B5 0)] ∧ ST w0 [] w [⟨aD b1, 30, kB_ b B c, 1⟩, ⟨aD b3, 82, [.bool m5.bad], 1⟩, ⟨B3, 30, kB_ r_3 B4 c3, 1⟩, ⟨B4, 65, (r_3.Cells.flatMap eN0), c3 * 5⟩, ⟨B5, 65, kD_ r_9, 5⟩] [⟨B, (b.Cells.flatMap eN0)⟩]) ?_ ?_
   ·skip
    refine ra_start (hS24.se [0, 2, 3]).fn (by kernel_rfl) ?_
    have hS42 := hS24.drew
    refine rq 0 55 (v := pt (aD b3) 0) rfl (hS42.se [0, 2, 3]) (fun w' hw' => (Y_move (v := pt (aD b3) 0) rfl (hf2.get 5 1 rfl))) ?_
    refine rq 2 57 (v := pt (aD b3) 0) rfl (hS42.se [0, 2, 3]) (fun w' hw' => (Y_move (v := pt (aD b3) 0) rfl (hf2.get 5 1 rfl))) ?_
    refine rq 3 58 (v := pt (aD b1) 0) rfl (hS42.se [0, 2, 3]) (fun w' hw' => (Y_fieldAddr (B := aD b1) (i := 0) (s := 0) k_fd_30_0_0_28 k_sz_28_1 rfl (hf2.get 1 0 rfl))) ?_
    refine rq 4 59 (v := .slice B b.Cells.length c) rfl (hS42.se [0, 2, 3]) (fun w' hw' => (Y_load1 (B := aD b1) (i := 0) (cs := kB_ b B c) (v := .slice B b.Cells.length c) k_sc_28 rfl rfl (ST.cf hw' (i := 0) rfl) rfl)) ?_
    refine rq 5 60 (v := pt B ((1 : Int).toNat * 5)) rfl (hS42.se [0, 2, 3]) (fun w' hw' => (Y_index (B := B) (m := b.Cells.length) (c := c) (k := .i64) (i := 1) k_sl_28_65 k_sz_65_5 rfl rfl rfl (gi_isSome eN2 rfl (ST.rf hw' (i := 0) rfl) hx2) (getI_nn hx2) (getI_ltI hx2 rfl))) ?_
    refine rq 6 61 (v := gD_ x2) rfl (hS42.se [0, 2, 3]) (fun w' hw' => (Y_loadA (B := B) (i := (1 : Int).toNat * 5) (cs := (b.Cells.flatMap eN0)) (vs := kD_ x2) k_ag_65 k_sz_65_5 rfl rfl (ST.rf hw' (i := 0) rfl) (eN2 x2) (gi_seg eN2 hx2))) ?_
    refine rq 7 62 (v := pt (aD b3) 0) rfl (hS42.se [0, 2, 3]) (fun w' hw' => (Y_move (v := pt (aD b3) 0) rfl (hf2.get 5 1 rfl))) ?_
    refine rq 8 63 (v := gB_ b B c) rfl (hS42.se [0, 2, 3]) (fun w' hw' => (Y_loadA (B := aD b1) (i := 0) (cs := kB_ b B c) (vs := kB_ b B c) k_ag_30 k_sz_30_1 rfl (hf2.get 1 0 rfl) (ST.cf hw' (i := 0) rfl) rfl rfl)) ?_
    refine rA [1, 9] ?_
    refine ra_y 56 (i := 1) (v := gD_ r_5) rfl rfl rfl (Y_loadA (B := B5) (i := 0) (cs := kD_ r_5) (vs := kD_ r_5) k_ag_65 k_sz_65_5 rfl (hf2.get 7 3 rfl) (hS42.cf (i := 4) rfl) rfl rfl) (hS42.se [0, 2, 3]) ?_ ?_
    ·skip
     refine rA [9] ?_
     refine ra_c 64 (i := 9) rfl rfl rfl (Yc_func (g := 49) (vs := [pt (aD b3) 0, gB_ b B c, vi 0, vi 2]) k_call_49 rfl (mc rfl (mc rfl (mc rfl (mc rfl mn)))) (c_spec_l2C_minor m2 b 0 2 (aD b3) B c b.Cells.length _ rfl (hS42.inn [false, true, false, false, false] rfl [(true, 0)] rfl) hc5)) ?_ ?_
     ·rintro _ w_27 ⟨rfl, hd11⟩
      have hS43 := hS42.out [false, true, false, false, false] rfl hd11
      refine ⟨(hS43.se [0, 1, 2]), ?_⟩
      refine rA [10] ?_
      refine ra_c 65 (i := 10) rfl rfl rfl (Yc_func (g := 48) (vs := [pt (aD b3) 0, gD_ x2, gD_ r_6]) k_call_48 rfl (mc rfl (mc rfl (mc rfl mn))) (c_spec_l2C_mul m3 x2 r_6 (aD b3) _  (hS43.inn [false, false, false, false, true] rfl [] rfl) hc6)) ?_ ?_
      ·rintro _ w_28 ⟨rfl, hd12⟩
       have hS44 := hS43.out [false, false, false, false, true] rfl hd12
       refine ⟨(hS44.se [0, 1, 2]), ?_⟩
       refine rA [11] ?_
       refine ra_c 66 (i := 11) rfl rfl rfl (Yc_func (g := 51) (vs := [gD_ r_7]) k_call_51 rfl (mc rfl mn) (c_spec_l2Neg r_7 _  (hS44.inn0 [] rfl) hc7)) ?_ ?_
       ·rintro _ w_29 ⟨rfl, hd13⟩
        have hS45 := hS44.out00 hd13
        refine ⟨(hS45.se [0, 1, 2]), ?_⟩
        refine rA [12] ?_
        refine ra_c 67 (i := 12) rfl rfl rfl (Yc_func (g := 50) (vs := [pt (aD b3) 0, gD_ r_5, gD_ r_8]) k_call_50 rfl (mc rfl (mc rfl (mc rfl mn))) (c_spec_l2C_add m4 r_5 r_8 (aD b3) _  (hS45.inn [false, false, false, false, true] rfl [] rfl) hc8)) ?_ ?_
        ·rintro _ w_30 ⟨rfl, hd14⟩
         have hS46 := hS45.out [false, false, false, false, true] rfl hd14
         refine ⟨(hS46.se [0, 1, 2]), ?_⟩
         refine rA [13] ?_
         refine ra_s0 (i := 13) rfl rfl rfl (Ys_store (i := 3) (s := 5) (B := B5) (T' := 65) (v := gD_ r_9) (vs := kD_ r_9) (k := 0) (cs' := kD_ r_9) hS46 k_sz_65_5 rfl (hf2.get 7 3 rfl) rfl rfl rfl rfl rfl (lB rfl) rfl rfl) ?_ ?_
         ·rintro _ w_31 ⟨rfl, hS47⟩
          refine ⟨(hS47.se [0, 1, 2]), ?_⟩
          refine ra_done (by kernel_rfl) ?_
          exact ⟨(FF.cons (hf2.get 1 0 rfl) (FF.cons (hf2.get 5 1 rfl) (FF.cons (hf2.get 6 2 rfl) (FF.cons (hf2.get 7 3 rfl) FF.nil)))), (hS47.sel [0, 4, 1, 2, 3] rfl rfl)⟩
         exact allR_nil
        exact allR_nil
       exact allR_nil
      exact allR_nil
     exact allR_nil
    refine ra_c 64 (i := 9) rfl rfl rfl (Yc_func (g := 49) (vs := [pt (aD b3) 0, gB_ b B c, vi 0, vi 2]) k_call_49 rfl (mc rfl (mc rfl (mc rfl (mc rfl mn)))) (c_spec_l2C_minor m2 b 0 2 (aD b3) B c b.Cells.length _ rfl (hS42.inn [false, true, false, false, false] rfl [(true, 0)] rfl) hc5)) ?_ ?_
    ·rintro _ w_32 ⟨rfl, hd15⟩
     have hS48 := hS42.out [false, true, false, false, false] rfl hd15
     have hS48 : ST w0 [] _ [⟨aD b1, 30, kB_ b B c, 1⟩, ⟨B3, 30, kB_ r_3 B4 c3, 1⟩, ⟨B4, 65, (r_3.Cells.flatMap eN0), c3 * 5⟩, ⟨B5, 65, kD_ r_5, 5⟩, ⟨aD b3, 82, [.bool m3.bad], 1⟩] [⟨B, (b.Cells.flatMap eN0)⟩] := hS48
     refine ⟨(hS48.se [0, 1, 2]), ?_⟩
     refine rA [1, 10] ?_
     refine ra_y 56 (i := 1) (v := gD_ r_5) rfl rfl rfl (Y_loadA (B := B5) (i := 0) (cs := kD_ r_5) (vs := kD_ r_5) k_ag_65 k_sz_65_5 rfl (hf2.get 7 3 rfl) (hS48.cf (i := 3) rfl) rfl rfl) (hS48.se [0, 1, 2]) ?_ ?_
     ·skip
      refine rA [10] ?_
      refine ra_c 65 (i := 10) rfl rfl rfl (Yc_func (g := 48) (vs := [pt (aD b3) 0, gD_ x2, gD_ r_6]) k_call_48 rfl (mc rfl (mc rfl (mc rfl mn))) (c_spec_l2C_mul m3 x2 r_6 (aD b3) _  (hS48.inn [false, false, false, false, true] rfl [] rfl) hc6)) ?_ ?_
      ·rintro _ w_33 ⟨rfl, hd16⟩
       have hS49 := hS48.out [false, false, false, false, true] rfl hd16
       refine ⟨(hS49.se [0, 1, 2]), ?_⟩
       refine rA [11] ?_
       refine ra_c 66 (i := 11) rfl rfl rfl (Yc_func (g := 51) (vs := [gD_ r_7]) k_call_51 rfl (mc rfl mn) (c_spec_l2Neg r_7 _  (hS49.inn0 [] rfl) hc7)) ?_ ?_
       ·rintro _ w_34 ⟨rfl, hd17⟩
        have hS50 := hS49.out00 hd17
        refine ⟨(hS50.se [0, 1, 2]), ?_⟩
        refine rA [12] ?_
        refine ra_c 67 (i := 12) rfl rfl rfl (Yc_func (g := 50) (vs := [pt (aD b3) 0, gD_ r_5, gD_ r_8]) k_call_50 rfl (mc rfl (mc rfl (mc rfl mn))) (c_spec_l2C_add m4 r_5 r_8 (aD b3) _  (hS50.inn [false, false, false, false, true] rfl [] rfl) hc8)) ?_ ?_
        ·rintro _ w_35 ⟨rfl, hd18⟩
         have hS51 := hS50.out [false, false, false, false, true] rfl hd18
         refine ⟨(hS51.se [0, 1, 2]), ?_⟩
         refine rA [13] ?_
         refine ra_s0 (i := 13) rfl rfl rfl (Ys_store (i := 3) (s := 5) (B := B5) (T' := 65) (v := gD_ r_9) (vs := kD_ r_9) (k := 0) (cs' := kD_ r_9) hS51 k_sz_65_5 rfl (hf2.get 7 3 rfl) rfl rfl rfl rfl rfl (lB rfl) rfl rfl) ?_ ?_
         ·rintro _ w_36 ⟨rfl, hS52⟩
          refine ⟨(hS52.se [0, 1, 2]), ?_⟩
          refine ra_done (by kernel_rfl) ?_
          exact ⟨(FF.cons (hf2.get 1 0 rfl) (FF.cons (hf2.get 5 1 rfl) (FF.cons (hf2.get 6 2 rfl) (FF.cons (hf2.get 7 3 rfl) FF.nil)))), (hS52.sel [0, 4, 1, 2, 3] rfl rfl)⟩
         exact allR_nil
        exact allR_nil
       exact allR_nil
      exact allR_nil
     refine ra_c 65 (i := 10) rfl rfl rfl (Yc_func (g := 48) (vs := [pt (aD b3) 0, gD_ x2, gD_ r_6]) k_call_48 rfl (mc rfl (mc rfl (mc rfl mn))) (c_spec_l2C_mul m3 x2 r_6 (aD b3) _  (hS48.inn [false, false, false, false, true] rfl [] rfl) hc6)) ?_ ?_
     ·rintro _ w_37 ⟨rfl, hd19⟩
      have hS53 := hS48.out [false, false, false, false, true] rfl hd19
      refine ⟨(hS53.se [0, 1, 2]), ?_⟩
      refine rA [1, 11] ?_
      refine ra_y 56 (i := 1) (v := gD_ r_5) rfl rfl rfl (Y_loadA (B := B5) (i := 0) (cs := kD_ r_5) (vs := kD_ r_5) k_ag_65 k_sz_65_5 rfl (hf2.get 7 3 rfl) (hS53.cf (i := 3) rfl) rfl rfl) (hS53.se [0, 1, 2]) ?_ ?_
      ·skip
       refine rA [11] ?_
       refine ra_c 66 (i := 11) rfl rfl rfl (Yc_func (g := 51) (vs := [gD_ r_7]) k_call_51 rfl (mc rfl mn) (c_spec_l2Neg r_7 _  (hS53.inn0 [] rfl) hc7)) ?_ ?_
       ·rintro _ w_38 ⟨rfl, hd20⟩
        have hS54 := hS53.out00 hd20
        refine ⟨(hS54.se [0, 1, 2]), ?_⟩
        refine rA [12] ?_
        refine ra_c 67 (i := 12) rfl rfl rfl (Yc_func (g := 50) (vs := [pt (aD b3) 0, gD_ r_5, gD_ r_8]) k_call_50 rfl (mc rfl (mc rfl (mc rfl mn))) (c_spec_l2C_add m4 r_5 r_8 (aD b3) _  (hS54.inn [false, false, false, false, true] rfl [] rfl) hc8)) ?_ ?_
        ·rintro _ w_39 ⟨rfl, hd21⟩
         have hS55 := hS54.out [false, false, false, false, true] rfl hd21
         refine ⟨(hS55.se [0, 1, 2]), ?_⟩
         refine rA [13] ?_
         refine ra_s0 (i := 13) rfl rfl rfl (Ys_store (i := 3) (s := 5) (B := B5) (T' := 65) (v := gD_ r_9) (vs := kD_ r_9) (k := 0) (cs' := kD_ r_9) hS55 k_sz_65_5 rfl (hf2.get 7 3 rfl) rfl rfl rfl rfl rfl (lB rfl) rfl rfl) ?_ ?_
         ·rintro _ w_40 ⟨rfl, hS56⟩
          have hS56 : ST w0 [] _ [⟨aD b1, 30, kB_ b B c, 1⟩, ⟨B3, 30, kB_ r_3 B4 c3, 1⟩, ⟨B4, 65, (r_3.Cells.flatMap eN0), c3 * 5⟩, ⟨B5, 65, kD_ r_9, 5⟩, ⟨aD b3, 82, [.bool m5.bad], 1⟩] [⟨B, (b.Cells.flatMap eN0)⟩] := hS56
          refine ⟨(hS56.se [0, 1, 2]), ?_⟩
          refine ra_done (by kernel_rfl) ?_
          exact ⟨(FF.cons (hf2.get 1 0 rfl) (FF.cons (hf2.get 5 1 rfl) (FF.cons (hf2.get 6 2 rfl) (FF.cons (hf2.get 7 3 rfl) FF.nil)))), (hS56.sel [0, 4, 1, 2, 3] rfl rfl)⟩
         exact allR_nil
        exact allR_nil
       exact allR_nil
      refine ra_c 66 (i := 11) rfl rfl rfl (Yc_func (g := 51) (vs := [gD_ r_7]) k_call_51 rfl (mc rfl mn) (c_spec_l2Neg r_7 _  (hS53.inn0 [] rfl) hc7)) ?_ ?_
      ·rintro _ w_41 ⟨rfl, hd22⟩
       have hS57 := hS53.out00 hd22
       refine ⟨(hS57.se [0, 1, 2]), ?_⟩
       refine rA [1] ?_
       refine ra_y 56 (i := 1) (v := gD_ r_5) rfl rfl rfl (Y_loadA (B := B5) (i := 0) (cs := kD_ r_5) (vs := kD_ r_5) k_ag_65 k_sz_65_5 rfl (hf2.get 7 3 rfl) (hS57.cf (i := 3) rfl) rfl rfl) (hS57.se [0, 1, 2]) ?_ ?_
       ·skip
        refine rA [12] ?_
        refine ra_c 67 (i := 12) rfl rfl rfl (Yc_func (g := 50) (vs := [pt (aD b3) 0, gD_ r_5, gD_ r_8]) k_call_50 rfl (mc rfl (mc rfl (mc rfl mn))) (c_spec_l2C_add m4 r_5 r_8 (aD b3) _  (hS57.inn [false, false, false, false, true] rfl [] rfl) hc8)) ?_ ?_
        ·rintro _ w_42 ⟨rfl, hd23⟩
         have hS58 := hS57.out [false, false, false, false, true] rfl hd23
         refine ⟨(hS58.se [0, 1, 2]), ?_⟩
         refine rA [13] ?_
         refine ra_s0 (i := 13) rfl rfl rfl (Ys_store (i := 3) (s := 5) (B := B5) (T' := 65) (v := gD_ r_9) (vs := kD_ r_9) (k := 0) (cs' := kD_ r_9) hS58 k_sz_65_5 rfl (hf2.get 7 3 rfl) rfl rfl rfl rfl rfl (lB rfl) rfl rfl) ?_ ?_
         ·rintro _ w_43 ⟨rfl, hS59⟩
          refine ⟨(hS59.se [0, 1, 2]), ?_⟩
          refine ra_done (by kernel_rfl) ?_
          exact ⟨(FF.cons (hf2.get 1 0 rfl) (FF.cons (hf2.get 5 1 rfl) (FF.cons (hf2.get 6 2 rfl) (FF.cons (hf2.get 7 3 rfl) FF.nil)))), (hS59.sel [0, 4, 1, 2, 3] rfl rfl)⟩
         exact allR_nil
        exact allR_nil
       exact allR_nil
      exact allR_nil
     exact allR_nil
    exact allR_nil
   rintro f w ⟨hf3, hS41⟩
   refine cw_seq ?_
   obtain ⟨x3, hx3, hF3⟩ := bind_inv hF3
   obtain ⟨⟨r_10, m6⟩, hc9, hF3⟩ := bind_inv hF3
   obtain ⟨⟨r_11, m7⟩, hc10, hF3⟩ := bind_inv hF3
   obtain ⟨⟨r_12, m8⟩, hc11, hF3⟩ := bind_inv hF3
   refine cw_mid (fun f w => FF f [(5, pt (aD b3) 0), (6, pt B3 0), (7, pt B5 0)] ∧ ST w0 [] w [⟨aD b3, 82, [.bool m8.bad], 1⟩, ⟨B3, 30, kB_ r_3 B4 c3, 1⟩, ⟨B4, 65, (r_3.Cells.flatMap eN0), c3 * 5⟩, ⟨B5, 65, kD_ r_12, 5⟩] [⟨B, (b.Cells.flatMap eN0)⟩]) ?_ ?_
   ·skip
    refine ra_start (hS41.se [0, 2, 3]).fn (by kernel_rfl) ?_
    have hS64 := hS41.drew
    refine rq 0 68 (v := pt (aD b3) 0) rfl (hS64.se [0, 2, 3]) (fun w' hw' => (Y_move (v := pt (aD b3) 0) rfl (hf3.get 5 1 rfl))) ?_
    refine rq 2 70 (v := pt (aD b3) 0) rfl (hS64.se [0, 2, 3]) (fun w' hw' => (Y_move (v := pt (aD b3) 0) rfl (hf3.get 5 1 rfl))) ?_
    refine rq 3 71 (v := pt (aD b1) 0) rfl (hS64.se [0, 2, 3]) (fun w' hw' => (Y_fieldAddr (B := aD b1) (i := 0) (s := 0) k_fd_30_0_0_28 k_sz_28_1 rfl (hf3.get 1 0 rfl))) ?_
    refine rq 4 72 (v := .slice B b.Cells.length c) rfl (hS64.se [0, 2, 3]) (fun w' hw' => (Y_load1 (B := aD b1) (i := 0) (cs := kB_ b B c) (v := .slice B b.Cells.length c) k_sc_28 rfl rfl (ST.cf hw' (i := 0) rfl) rfl)) ?_
    refine rq 5 73 (v := pt B ((2 : Int).toNat * 5)) rfl (hS64.se [0, 2, 3]) (fun w' hw' => (Y_index (B := B) (m := b.Cells.length) (c := c) (k := .i64) (i := 2) k_sl_28_65 k_sz_65_5 rfl rfl rfl (gi_isSome eN2 rfl (ST.rf hw' (i := 0) rfl) hx3) (getI_nn hx3) (getI_ltI hx3 rfl))) ?_
    refine rq 6 74 (v := gD_ x3) rfl (hS64.se [0, 2, 3]) (fun w' hw' => (Y_loadA (B := B) (i := (2 : Int).toNat * 5) (cs := (b.Cells.flatMap eN0)) (vs := kD_ x3) k_ag_65 k_sz_65_5 rfl rfl (ST.rf hw' (i := 0) rfl) (eN2 x3) (gi_seg eN2 hx3))) ?_
    refine rq 7 75 (v := pt (aD b3) 0) rfl (hS64.se [0, 2, 3]) (fun w' hw' => (Y_move (v := pt (aD b3) 0) rfl (hf3.get 5 1 rfl))) ?_
    refine rq 8 76 (v := gB_ b B c) rfl (hS64.se [0, 2, 3]) (fun w' hw' => (Y_loadA (B := aD b1) (i := 0) (cs := kB_ b B c) (vs := kB_ b B c) k_ag_30 k_sz_30_1 rfl (hf3.get 1 0 rfl) (ST.cf hw' (i := 0) rfl) rfl rfl)) ?_
    refine rA [1, 9] ?_
    refine ra_y 69 (i := 1) (v := gD_ r_9) rfl rfl rfl (Y_loadA (B := B5) (i := 0) (cs := kD_ r_9) (vs := kD_ r_9) k_ag_65 k_sz_65_5 rfl (hf3.get 7 3 rfl) (hS64.cf (i := 4) rfl) rfl rfl) (hS64.se [0, 2, 3]) ?_ ?_
    ·skip
     refine rA [9] ?_
     refine ra_c 77 (i := 9) rfl rfl rfl (Yc_func (g := 49) (vs := [pt (aD b3) 0, gB_ b B c, vi 0, vi 1]) k_call_49 rfl (mc rfl (mc rfl (mc rfl (mc rfl mn)))) (c_spec_l2C_minor m5 b 0 1 (aD b3) B c b.Cells.length _ rfl (hS64.inn [false, true, false, false, false] rfl [(true, 0)] rfl) hc9)) ?_ ?_
     ·rintro _ w_44 ⟨rfl, hd24⟩
      have hS65 := hS64.out [false, true, false, false, false] rfl hd24
      refine ⟨(hS65.se [0, 1, 2]), ?_⟩
      refine rA [10] ?_
      refine ra_c 78 (i := 10) rfl rfl rfl (Yc_func (g := 48) (vs := [pt (aD b3) 0, gD_ x3, gD_ r_10]) k_call_48 rfl (mc rfl (mc rfl (mc rfl mn))) (c_spec_l2C_mul m6 x3 r_10 (aD b3) _  (hS65.inn [false, false, false, false, true] rfl [] rfl) hc10)) ?_ ?_
      ·rintro _ w_45 ⟨rfl, hd25⟩
       have hS66 := hS65.out [false, false, false, false, true] rfl hd25
       refine ⟨(hS66.se [0, 1, 2]), ?_⟩
       refine rA [11] ?_
       refine ra_c 79 (i := 11) rfl rfl rfl (Yc_func (g := 50) (vs := [pt (aD b3) 0, gD_ r_9, gD_ r_11]) k_call_50 rfl (mc rfl (mc rfl (mc rfl mn))) (c_spec_l2C_add m7 r_9 r_11 (aD b3) _  (hS66.inn [false, false, false, false, true] rfl [] rfl) hc11)) ?_ ?_
       ·rintro _ w_46 ⟨rfl, hd26⟩
        have hS67 := hS66.out [false, false, false, false, true] rfl hd26
        refine ⟨(hS67.se [0, 1, 2]), ?_⟩
        refine rA [12] ?_
        refine ra_s0 (i := 12) rfl rfl rfl (Ys_store (i := 3) (s := 5) (B := B5) (T' := 65) (v := gD_ r_12) (vs := kD_ r_12) (k := 0) (cs' := kD_ r_12) hS67 k_sz_65_5 rfl (hf3.get 7 3 rfl) rfl rfl rfl rfl rfl (lB rfl) rfl rfl) ?_ ?_
        ·rintro _ w_47 ⟨rfl, hS68⟩
         refine ⟨(hS68.se [0, 1, 2]), ?_⟩
         refine ra_done (by kernel_rfl) ?_
         exact ⟨(FF.cons (hf3.get 5 1 rfl) (FF.cons (hf3.get 6 2 rfl) (FF.cons (hf3.get 7 3 rfl) FF.nil))), (hS68.sel [4, 1, 2, 3] rfl rfl)⟩
        exact allR_nil
       exact allR_nil
      exact allR_nil
     exact allR_nil
    refine ra_c 77 (i := 9) rfl rfl rfl (Yc_func (g := 49) (vs := [pt (aD b3) 0, gB_ b B c, vi 0, vi 1]) k_call_49 rfl (mc rfl (mc rfl (mc rfl (mc rfl mn)))) (c_spec_l2C_minor m5 b 0 1 (aD b3) B c b.Cells.length _ rfl (hS64.inn [false, true, false, false, false] rfl [(true, 0)] rfl) hc9)) ?_ ?_
    ·rintro _ w_48 ⟨rfl, hd27⟩
     have hS69 := hS64.out [false, true, false, false, false] rfl hd27
     have hS69 : ST w0 [] _ [⟨aD b1, 30, kB_ b B c, 1⟩, ⟨B3, 30, kB_ r_3 B4 c3, 1⟩, ⟨B4, 65, (r_3.Cells.flatMap eN0), c3 * 5⟩, ⟨B5, 65, kD_ r_9, 5⟩, ⟨aD b3, 82, [.bool m6.bad], 1⟩] [⟨B, (b.Cells.flatMap eN0)⟩] := hS69
     refine ⟨(hS69.se [0, 1, 2]), ?_⟩
     refine rA [1, 10] ?_
     refine ra_y 69 (i := 1) (v := gD_ r_9) rfl rfl rfl (Y_loadA (B := B5) (i := 0) (cs := kD_ r_9) (vs := kD_ r_9) k_ag_65 k_sz_65_5 rfl (hf3.get 7 3 rfl) (hS69.cf (i := 3) rfl) rfl rfl) (hS69.se [0, 1, 2]) ?_ ?_
     ·skip
      refine rA [10] ?_
      refine ra_c 78 (i := 10) rfl rfl rfl (Yc_func (g := 48) (vs := [pt (aD b3) 0, gD_ x3, gD_ r_10]) k_call_48 rfl (mc rfl (mc rfl (mc rfl mn))) (c_spec_l2C_mul m6 x3 r_10 (aD b3) _  (hS69.inn [false, false, false, false, true] rfl [] rfl) hc10)) ?_ ?_
      ·rintro _ w_49 ⟨rfl, hd28⟩
       have hS70 := hS69.out [false, false, false, false, true] rfl hd28
       refine ⟨(hS70.se [0, 1, 2]), ?_⟩
       refine rA [11] ?_
       refine ra_c 79 (i := 11) rfl rfl rfl (Yc_func (g := 50) (vs := [pt (aD b3) 0, gD_ r_9, gD_ r_11]) k_call_50 rfl (mc rfl (mc rfl (mc rfl mn))) (c_spec_l2C_add m7 r_9 r_11 (aD b3) _  (hS70.inn [false, false, false, false, true] rfl [] rfl) hc11)) ?_ ?_
       ·rintro _ w_50 ⟨rfl, hd29⟩
        have hS71 := hS70.out [false, false, false, false, true] rfl hd29
        refine ⟨(hS71.se [0, 1, 2]), ?_⟩
        refine rA [12] ?_
        refine ra_s0 (i := 12) rfl rfl rfl (Ys_store (i := 3) (s := 5) (B := B5) (T' := 65) (v := gD_ r_12) (vs := kD_ r_12) (k := 0) (cs' := kD_ r_12) hS71 k_sz_65_5 rfl (hf3.get 7 3 rfl) rfl rfl rfl rfl rfl (lB rfl) rfl rfl) ?_ ?_
        ·rintro _ w_51 ⟨rfl, hS72⟩
         refine ⟨(hS72.se [0, 1, 2]), ?_⟩
         refine ra_done (by kernel_rfl) ?_
         exact ⟨(FF.cons (hf3.get 5 1 rfl) (FF.cons (hf3.get 6 2 rfl) (FF.cons (hf3.get 7 3 rfl) FF.nil))), (hS72.sel [4, 1, 2, 3] rfl rfl)⟩
        exact allR_nil
       exact allR_nil
      exact allR_nil
     refine ra_c 78 (i := 10) rfl rfl rfl (Yc_func (g := 48) (vs := [pt (aD b3) 0, gD_ x3, gD_ r_10]) k_call_48 rfl (mc rfl (mc rfl (mc rfl mn))) (c_spec_l2C_mul m6 x3 r_10 (aD b3) _  (hS69.inn [false, false, false, false, true] rfl [] rfl) hc10)) ?_ ?_
     ·rintro _ w_52 ⟨rfl, hd30⟩
      have hS73 := hS69.out [false, false, false, false, true] rfl hd30
      refine ⟨(hS73.se [0, 1, 2]), ?_⟩
      refine rA [1] ?_
      refine ra_y 69 (i := 1) (v := gD_ r_9) rfl rfl rfl (Y_loadA (B := B5) (i := 0) (cs := kD_ r_9) (vs := kD_ r_9) k_ag_65 k_sz_65_5 rfl (hf3.get 7 3 rfl) (hS73.cf (i := 3) rfl) rfl rfl) (hS73.se [0, 1, 2]) ?_ ?_
      ·skip
       refine rA [11] ?_
       refine ra_c 79 (i := 11) rfl rfl rfl (Yc_func (g := 50) (vs := [pt (aD b3) 0, gD_ r_9, gD_ r_11]) k_call_50 rfl (mc rfl (mc rfl (mc rfl mn))) (c_spec_l2C_add m7 r_9 r_11 (aD b3) _  (hS73.inn [false, false, false, false, true] rfl [] rfl) hc11)) ?_ ?_
       ·rintro _ w_53 ⟨rfl, hd31⟩
        have hS74 := hS73.out [false, false, false, false, true] rfl hd31
        refine ⟨(hS74.se [0, 1, 2]), ?_⟩
        refine rA [12] ?_
        refine ra_s0 (i := 12) rfl rfl rfl (Ys_store (i := 3) (s := 5) (B := B5) (T' := 65) (v := gD_ r_12) (vs := kD_ r_12) (k := 0) (cs' := kD_ r_12) hS74 k_sz_65_5 rfl (hf3.get 7 3 rfl) rfl rfl rfl rfl rfl (lB rfl) rfl rfl) ?_ ?_
        ·rintro _ w_54 ⟨rfl, hS75⟩
         refine ⟨(hS75.se [0, 1, 2]), ?_⟩
         refine ra_done (by kernel_rfl) ?_
         exact ⟨(FF.cons (hf3.get 5 1 rfl) (FF.cons (hf3.get 6 2 rfl) (FF.cons (hf3.get 7 3 rfl) FF.nil))), (hS75.sel [4, 1, 2, 3] rfl rfl)⟩
        exact allR_nil
       exact allR_nil
      exact allR_nil
     exact allR_nil
    exact allR_nil
   rintro f w ⟨hf4, hS63⟩
   refine cw_seq ?_
   refine cw_split (B := (!m8.bad)) (fun hb3 => ?_) (fun hb3 => ?_)
   ·skip
    have hF6 := ct hF3 hb3
    obtain ⟨r_13, hc12, hF6⟩ := bind_inv hF6
    obtain ⟨r_14, hc13, hF6⟩ := bind_inv hF6
    obtain ⟨r_15, hc14, hF6⟩ := bind_inv hF6
    refine ra_start (hS63.se [0, 1, 2, 3]).fn (by kernel_rfl) ?_
    have hS79 := hS63.drew
    refine rq 0 80 (v := pt (aD b3) 0) rfl (hS79.se [0, 1, 2, 3]) (fun w' hw' => (Y_move (v := pt (aD b3) 0) rfl (hf4.get 5 0 rfl))) ?_
    refine rq 1 81 (v := pt (aD b3) 0) rfl (hS79.se [0, 1, 2, 3]) (fun w' hw' => (Y_nilCheck (B := aD b3) (i := 0) rfl rfl)) ?_
    refine rq 2 82 (v := pt (aD b3) 0) rfl (hS79.se [0, 1, 2, 3]) (fun w' hw' => (Y_fieldAddr (B := aD b3) (i := 0) (s := 0) k_fd_82_0_0_4 k_sz_4_1 rfl rfl)) ?_
    refine rq 3 83 (v := .bool m8.bad) rfl (hS79.se [0, 1, 2, 3]) (fun w' hw' => (Y_load1 (B := aD b3) (i := 0) (cs := [.bool m8.bad]) (v := .bool m8.bad) k_sc_4 rfl rfl (ST.cf hw' (i := 0) rfl) rfl)) ?_
    refine rq 4 84 (v := .bool (!m8.bad)) rfl (hS79.se [0, 1, 2, 3]) (fun w' hw' => (Y_not (p := m8.bad) rfl rfl)) ?_
    refine rq 5 85 (v := .bool (!m8.bad)) rfl (hS79.se [0, 1, 2, 3]) (fun w' hw' => (Y_move (v := .bool (!m8.bad)) rfl rfl)) ?_
    refine ra_gq 6 86 (B := (!m8.bad)) (v := gB_ r_3 B4 c3) rfl rfl rfl (wT 85) (by kernel_rfl) (by kernel_rfl) (by kernel_rfl) (hS79.se [0, 1, 2, 3]) (fun hg12 w' hw' => (Y_loadA (B := B3) (i := 0) (cs := kB_ r_3 B4 c3) (vs := kB_ r_3 B4 c3) k_ag_30 k_sz_30_1 rfl (hf4.get 6 1 rfl) (ST.cf hw' (i := 1) rfl) rfl rfl)) ?_
    refine rA [7] ?_
    refine ra_cg 87 (i := 7) rfl rfl rfl (wT 85) hb3 (Yc_func (g := 53) (vs := []) k_call_53 rfl mn (c_spec_l9Unit  _  (hS79.inn0 [] rfl) hc12)) ?_ ?_
    ·rintro _ w_55 ⟨B6, c4, rfl, hd32⟩
     have hS80 := hS79.out0 hd32
     refine ⟨(hS80.se [0, 1, 2, 3]), ?_⟩
     refine rA [8] ?_
     refine ra_cg 88 (i := 8) rfl rfl rfl (wT 85) hb3 (Yc_func (g := 52) (vs := [gB_ r_3 B4 c3, gB_ r_13 B6 c4]) k_call_52 rfl (mc (gv_of (v := gB_ r_3 B4 c3) hb3) (mc rfl mn)) (c_spec_l9Same r_3 r_13 B4 c3 r_3.Cells.length B6 c4 r_13.Cells.length _ rfl rfl (hS80.inn0 [(false, 2), (false, 4)] rfl) hc13)) ?_ ?_
     ·rintro _ w_56 ⟨rfl, hd33⟩
      have hS81 := hS80.out00 hd33
      have hS81 : ST w0 [] _ [⟨aD b3, 82, [.bool m8.bad], 1⟩, ⟨B3, 30, kB_ r_3 B4 c3, 1⟩, ⟨B4, 65, (r_3.Cells.flatMap eN0), c3 * 5⟩, ⟨B5, 65, kD_ r_12, 5⟩, ⟨B6, 65, (r_13.Cells.flatMap eN0), c4 * 5⟩] [⟨B, (b.Cells.flatMap eN0)⟩] := hS81
      refine ⟨(hS81.se [0, 1, 2, 3]), ?_⟩
      refine rq 9 89 (v := .bool r_14) rfl (hS81.se [0, 1, 2, 3]) (fun w' hw' => (Y_pickT (b := (!m8.bad)) (v := .bool r_14) rfl rfl hb3 rfl)) ?_
      refine rq 10 90 (v := .bool r_14) rfl (hS81.se [0, 1, 2, 3]) (fun w' hw' => (Y_move (v := .bool r_14) rfl rfl)) ?_
      refine ra_gq 11 91 (B := r_14) (v := gD_ r_12) rfl rfl rfl (wT 90) (by kernel_rfl) (by kernel_rfl) (by kernel_rfl) (hS81.se [0, 1, 2, 3]) (fun hg13 w' hw' => (Y_loadA (B := B5) (i := 0) (cs := kD_ r_12) (vs := kD_ r_12) k_ag_65 k_sz_65_5 rfl (hf4.get 7 2 rfl) (ST.cf hw' (i := 3) rfl) rfl rfl)) ?_
      refine rA [12] ?_
      refine ra_gc 92 (i := 12) (B := r_14) (v := gD_ r_15) (F := hS81.fn) rfl rfl rfl (wT 90) hS81 (fun hg14 => (Yc_func (g := 54) (vs := [vi 0]) k_call_54 rfl (mc rfl mn) (CV.mono (c_spec_l2Power 0 _  (hS81.inn0 [] rfl) (gb_inv hc14 hg14)) (by rintro _ _ ⟨rfl, h⟩; exact ⟨rfl, hS81.out00 h⟩)))) ?_ ?_
      ·rintro w_57 hS82
       refine ⟨(hS82.se [0, 1, 2, 3]), ?_⟩
       refine ra_gq 13 93 (B := r_14) (v := .bool (((r_12.Num.A == r_15.Num.A) && ((r_12.Num.B == r_15.Num.B) && ((r_12.Num.C == r_15.Num.C) && ((r_12.Num.D == r_15.Num.D) && true)))) && ((r_12.Exp == r_15.Exp) && true))) rfl rfl rfl (wT 90) (by kernel_rfl) (by kernel_rfl) (by kernel_rfl) (hS82.se [0, 1, 2, 3]) (fun hg15 w' hw' => (Y_eqA (xs := #[vi r_12.Num.A, vi r_12.Num.B, vi r_12.Num.C, vi r_12.Num.D, vi r_12.Exp]) (ys := #[vi r_15.Num.A, vi r_15.Num.B, vi r_15.Num.C, vi r_15.Num.D, vi r_15.Exp]) (b := (((r_12.Num.A == r_15.Num.A) && ((r_12.Num.B == r_15.Num.B) && ((r_12.Num.C == r_15.Num.C) && ((r_12.Num.D == r_15.Num.D) && true)))) && ((r_12.Exp == r_15.Exp) && true))) k_eg_65 rfl (gv_of (v := gD_ r_12) hg15) (gv_of (v := gD_ r_15) hg15) (eqr_struct (xs := kD_ r_12) (ys := kD_ r_15) k_st_65 k_ho_65 (pts_ag (us := kR_ r_12.Num) (vs := kR_ r_15.Num) k_ag_63 k_sz_63_4 rfl rfl (eqr_struct (xs := kR_ r_12.Num) (ys := kR_ r_15.Num) k_st_63 k_ho_63 (pts_sc k_sc_3 rfl rfl (eqr_int k_int_3_i64) (pts_sc k_sc_3 rfl rfl (eqr_int k_int_3_i64) (pts_sc k_sc_3 rfl rfl (eqr_int k_int_3_i64) (pts_sc k_sc_3 rfl rfl (eqr_int k_int_3_i64) pts_nil))))) (pts_sc k_sc_3 rfl rfl (eqr_int k_int_3_i64) pts_nil))))) ?_
       refine ra_q 14 94 (v := .bool (r_14 && (((r_12.Num.A == r_15.Num.A) && ((r_12.Num.B == r_15.Num.B) && ((r_12.Num.C == r_15.Num.C) && ((r_12.Num.D == r_15.Num.D) && true)))) && ((r_12.Exp == r_15.Exp) && true)))) rfl rfl rfl (by kernel_rfl) (by kernel_rfl) (by kernel_rfl) (hS82.se [0, 1, 2, 3]) (fun w' hw' => (Y_and (b := r_14) (z := (((r_12.Num.A == r_15.Num.A) && ((r_12.Num.B == r_15.Num.B) && ((r_12.Num.C == r_15.Num.C) && ((r_12.Num.D == r_15.Num.D) && true)))) && ((r_12.Exp == r_15.Exp) && true))) rfl rfl rfl rfl)) ?_
       refine ra_q 15 2 (v := .bool (r_14 && (((r_12.Num.A == r_15.Num.A) && ((r_12.Num.B == r_15.Num.B) && ((r_12.Num.C == r_15.Num.C) && ((r_12.Num.D == r_15.Num.D) && true)))) && ((r_12.Exp == r_15.Exp) && true)))) rfl rfl rfl (by kernel_rfl) (by kernel_rfl) (by kernel_rfl) (hS82.se [0, 1, 2, 3]) (fun w' hw' => (Y_assign (v := .bool (r_14 && (((r_12.Num.A == r_15.Num.A) && ((r_12.Num.B == r_15.Num.B) && ((r_12.Num.C == r_15.Num.C) && ((r_12.Num.D == r_15.Num.D) && true)))) && ((r_12.Exp == r_15.Exp) && true)))) rfl rfl)) ?_
       refine ra_done (by kernel_rfl) ?_
       refine cw_ret ?_
       obtain rfl := some_inj hF6
       exact ret1 Tryz.results24 (v1 := .bool (r_14 && (((r_12.Num.A == r_15.Num.A) && ((r_12.Num.B == r_15.Num.B) && ((r_12.Num.C == r_15.Num.C) && ((r_12.Num.D == r_15.Num.D) && true)))) && ((r_12.Exp == r_15.Exp) && true)))) (resAt_tmp rfl) ⟨rfl, (hS82.sN [])⟩
      exact allR_nil
     exact allR_nil
    exact allR_nil
   ·skip
    have hF7 := cf' hF3 hb3
    obtain ⟨r_16, hc15, hF7⟩ := bind_inv hF7
    refine ra_start (hS63.se [0, 1, 2, 3]).fn (by kernel_rfl) ?_
    have hS84 := hS63.drew
    refine rq 0 80 (v := pt (aD b3) 0) rfl (hS84.se [0, 1, 2, 3]) (fun w' hw' => (Y_move (v := pt (aD b3) 0) rfl (hf4.get 5 0 rfl))) ?_
    refine rq 1 81 (v := pt (aD b3) 0) rfl (hS84.se [0, 1, 2, 3]) (fun w' hw' => (Y_nilCheck (B := aD b3) (i := 0) rfl rfl)) ?_
    refine rq 2 82 (v := pt (aD b3) 0) rfl (hS84.se [0, 1, 2, 3]) (fun w' hw' => (Y_fieldAddr (B := aD b3) (i := 0) (s := 0) k_fd_82_0_0_4 k_sz_4_1 rfl rfl)) ?_
    refine rq 3 83 (v := .bool m8.bad) rfl (hS84.se [0, 1, 2, 3]) (fun w' hw' => (Y_load1 (B := aD b3) (i := 0) (cs := [.bool m8.bad]) (v := .bool m8.bad) k_sc_4 rfl rfl (ST.cf hw' (i := 0) rfl) rfl)) ?_
    refine rq 4 84 (v := .bool (!m8.bad)) rfl (hS84.se [0, 1, 2, 3]) (fun w' hw' => (Y_not (p := m8.bad) rfl rfl)) ?_
    refine rq 5 85 (v := .bool (!m8.bad)) rfl (hS84.se [0, 1, 2, 3]) (fun w' hw' => (Y_move (v := .bool (!m8.bad)) rfl rfl)) ?_
    refine ra_gq 6 86 (B := (!m8.bad)) (v := gB_ r_3 B4 c3) rfl rfl rfl (wT 85) (by kernel_rfl) (by kernel_rfl) (by kernel_rfl) (hS84.se [0, 1, 2, 3]) (fun hg12 w' hw' => (Y_loadA (B := B3) (i := 0) (cs := kB_ r_3 B4 c3) (vs := kB_ r_3 B4 c3) k_ag_30 k_sz_30_1 rfl (hf4.get 6 1 rfl) (ST.cf hw' (i := 1) rfl) rfl rfl)) ?_
    refine ra_gq 7 87 (B := (!m8.bad)) (v := undef) rfl rfl rfl (wT 85) (by kernel_rfl) (by kernel_rfl) (by kernel_rfl) (hS84.se [0, 1, 2, 3]) (fun hg _ _ => nomatch (hg.symm.trans hb3)) ?_
    refine ra_gq 8 88 (B := (!m8.bad)) (v := undef) rfl rfl rfl (wT 85) (by kernel_rfl) (by kernel_rfl) (by kernel_rfl) (hS84.se [0, 1, 2, 3]) (fun hg _ _ => nomatch (hg.symm.trans hb3)) ?_
    refine rq 9 89 (v := .bool false) rfl (hS84.se [0, 1, 2, 3]) (fun w' hw' => (Y_pickF (b := (!m8.bad)) (v := .bool false) rfl rfl hb3 rfl)) ?_
    refine rq 10 90 (v := .bool false) rfl (hS84.se [0, 1, 2, 3]) (fun w' hw' => (Y_move (v := .bool false) rfl rfl)) ?_
    refine ra_gq 11 91 (B := false) (v := gD_ r_12) rfl rfl rfl (wT 90) (by kernel_rfl) (by kernel_rfl) (by kernel_rfl) (hS84.se [0, 1, 2, 3]) (fun hg16 w' hw' => (Y_loadA (B := B5) (i := 0) (cs := kD_ r_12) (vs := kD_ r_12) k_ag_65 k_sz_65_5 rfl (hf4.get 7 2 rfl) (ST.cf hw' (i := 3) rfl) rfl rfl)) ?_
    refine rA [12] ?_
    refine ra_gc 92 (i := 12) (B := false) (v := gD_ r_16) (F := hS84.fn) rfl rfl rfl (wT 90) hS84 (fun hg17 => (Yc_func (g := 54) (vs := [vi 0]) k_call_54 rfl (mc rfl mn) (CV.mono (c_spec_l2Power 0 _  (hS84.inn0 [] rfl) (gb_inv hc15 hg17)) (by rintro _ _ ⟨rfl, h⟩; exact ⟨rfl, hS84.out00 h⟩)))) ?_ ?_
    ·rintro w_58 hS85
     refine ⟨(hS85.se [0, 1, 2, 3]), ?_⟩
     refine ra_gq 13 93 (B := false) (v := .bool (((r_12.Num.A == r_16.Num.A) && ((r_12.Num.B == r_16.Num.B) && ((r_12.Num.C == r_16.Num.C) && ((r_12.Num.D == r_16.Num.D) && true)))) && ((r_12.Exp == r_16.Exp) && true))) rfl rfl rfl (wT 90) (by kernel_rfl) (by kernel_rfl) (by kernel_rfl) (hS85.se [0, 1, 2, 3]) (fun hg18 w' hw' => (Y_eqA (xs := #[vi r_12.Num.A, vi r_12.Num.B, vi r_12.Num.C, vi r_12.Num.D, vi r_12.Exp]) (ys := #[vi r_16.Num.A, vi r_16.Num.B, vi r_16.Num.C, vi r_16.Num.D, vi r_16.Exp]) (b := (((r_12.Num.A == r_16.Num.A) && ((r_12.Num.B == r_16.Num.B) && ((r_12.Num.C == r_16.Num.C) && ((r_12.Num.D == r_16.Num.D) && true)))) && ((r_12.Exp == r_16.Exp) && true))) k_eg_65 rfl (gv_of (v := gD_ r_12) hg18) (gv_of (v := gD_ r_16) hg18) (eqr_struct (xs := kD_ r_12) (ys := kD_ r_16) k_st_65 k_ho_65 (pts_ag (us := kR_ r_12.Num) (vs := kR_ r_16.Num) k_ag_63 k_sz_63_4 rfl rfl (eqr_struct (xs := kR_ r_12.Num) (ys := kR_ r_16.Num) k_st_63 k_ho_63 (pts_sc k_sc_3 rfl rfl (eqr_int k_int_3_i64) (pts_sc k_sc_3 rfl rfl (eqr_int k_int_3_i64) (pts_sc k_sc_3 rfl rfl (eqr_int k_int_3_i64) (pts_sc k_sc_3 rfl rfl (eqr_int k_int_3_i64) pts_nil))))) (pts_sc k_sc_3 rfl rfl (eqr_int k_int_3_i64) pts_nil))))) ?_
     refine ra_q 14 94 (v := .bool (false && (((r_12.Num.A == r_16.Num.A) && ((r_12.Num.B == r_16.Num.B) && ((r_12.Num.C == r_16.Num.C) && ((r_12.Num.D == r_16.Num.D) && true)))) && ((r_12.Exp == r_16.Exp) && true)))) rfl rfl rfl (by kernel_rfl) (by kernel_rfl) (by kernel_rfl) (hS85.se [0, 1, 2, 3]) (fun w' hw' => (Y_and (b := false) (z := (((r_12.Num.A == r_16.Num.A) && ((r_12.Num.B == r_16.Num.B) && ((r_12.Num.C == r_16.Num.C) && ((r_12.Num.D == r_16.Num.D) && true)))) && ((r_12.Exp == r_16.Exp) && true))) rfl rfl rfl rfl)) ?_
     refine ra_q 15 2 (v := .bool (false && (((r_12.Num.A == r_16.Num.A) && ((r_12.Num.B == r_16.Num.B) && ((r_12.Num.C == r_16.Num.C) && ((r_12.Num.D == r_16.Num.D) && true)))) && ((r_12.Exp == r_16.Exp) && true)))) rfl rfl rfl (by kernel_rfl) (by kernel_rfl) (by kernel_rfl) (hS85.se [0, 1, 2, 3]) (fun w' hw' => (Y_assign (v := .bool (false && (((r_12.Num.A == r_16.Num.A) && ((r_12.Num.B == r_16.Num.B) && ((r_12.Num.C == r_16.Num.C) && ((r_12.Num.D == r_16.Num.D) && true)))) && ((r_12.Exp == r_16.Exp) && true)))) rfl rfl)) ?_
     refine ra_done (by kernel_rfl) ?_
     refine cw_ret ?_
     obtain rfl := some_inj hF7
     exact ret1 Tryz.results24 (v1 := .bool (false && (((r_12.Num.A == r_16.Num.A) && ((r_12.Num.B == r_16.Num.B) && ((r_12.Num.C == r_16.Num.C) && ((r_12.Num.D == r_16.Num.D) && true)))) && ((r_12.Exp == r_16.Exp) && true)))) (resAt_tmp rfl) ⟨rfl, (hS85.sN [])⟩
    exact allR_nil
end Go.VK
