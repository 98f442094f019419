/- Walks: each Go function returns what its Lean function says. By program. -/
import Derived.Test.YteaclldklaocmaaReduceColumnFa
set_option linter.unusedVariables false
set_option maxRecDepth 100000
set_option maxHeartbeats 4000000
namespace Go.VK
open Go.RowKit
open Go.Proofs
open Go.IntKind
attribute [local irreducible] CW RW RA CV Y Yw Yc Ys RetOf
attribute [local irreducible] F_laws_szDyadicS F_laws_szMatrix F_spec_l1In F_spec_l1Has F_spec_l3Dim F_spec_l1All F_spec_l1Good F_spec_l1Even F_spec_l2Good F_spec_l3Good F_spec_l11Dim F_spec_l2C_ring F_spec_l1Root F_spec_l1Half F_spec_l2Low F_spec_l1Add F_spec_l2C_add F_spec_l1Mul F_spec_l2C_mul F_spec_l1Conj F_spec_l2Conj F_spec_l1Turn F_spec_l2Power F_spec_l2C_unit F_spec_l1Most F_spec_l3Exp F_spec_l11Scaled F_spec_l11Odd F_spec_l11Type F_spec_l11Pair F_spec_l11Power F_spec_l11Next F_spec_l1Neg F_spec_l2Neg F_spec_l2C_level F_spec_PhaseOf F_spec_l1Least F_spec_l2C_column F_spec_ReduceColumn F_laws_toRing F_laws_toDyadic F_laws_toDyadicS F_laws_toMatrix F_impl_within F_impl_isDim F_slices_IndexFunc_impl_Dyadic_impl_Dyadic F_slices_ContainsFunc_impl_Dyadic_impl_Dyadic F_impl_isCoef F_impl_IsValidRing F_impl_isEven F_impl_IsValidDyadic F_impl_IsValidMatrix_1 F_impl_IsValidMatrix F_impl_isLevelDim F_impl_ringIf F_impl_MulRing F_impl_DivRootTwo F_impl_DyadicOf F_impl_MulDyadic F_impl_Conjugate F_impl_ConjDyadic F_impl_NormSquare F_impl_MulRootTwo F_impl_raised F_impl_combined F_impl_AddRing F_impl_AddDyadic F_impl_whole F_impl_isColumn F_impl_LeastExp F_impl_MulOmega F_impl_phase F_impl_PhaseOf F_impl_finishing F_impl_ResidueType F_impl_nextPair F_impl_parities F_impl_MatchingPower F_impl_lowering F_impl_IsValidTwoLevel F_impl_matrixOf F_impl_small F_impl_levelCell F_impl_TwoLevelMatrix_1 F_impl_TwoLevelMatrix F_impl_Matrix_at F_impl_MulMatrix_1 F_impl_MulMatrix F_impl_ReduceColumn F_laws_eqTwoLevel F_laws_eqTwoLevelS F_laws_eqRing F_laws_eqDyadic F_laws_eqDyadicS F_laws_eqMatrix F_laws_markDyadicS F_laws_markMatrix F_laws_markTwoLevelS F_laws_heldTwoLevelS F_laws_FnExactReduceColumn
theorem c_laws_szDyadicS (a : List TDyadic) (left : Int) (B : Option Addr) (c n : Nat) (w0 : World) (hn : a.length = n) (hS : ST w0 [] w0 [] [⟨B, (a.flatMap eN0)⟩]) {r_ : Int} (hF : F_laws_szDyadicS a left = some r_) :
  CV Try.prog 74 #[.slice B n c, vi left] w0 (fun v w' => v = vi r_ ∧ ST w0 [] w' [] []) := by
 subst hn
 unfold F_laws_szDyadicS at hF
 refine cv_of_cw 12 Try.func74 rfl Try.ntmps74 rfl ?_
 refine cw_seq (cw_region ?_)
 refine sQ 4 (Y_assign (v := vi 0) rfl rfl) (rw_nil (cw_seq (cw_region ?_)))
 refine sQ 5 (Y_move (v := vi left) rfl rfl) ?_
 refine sQ 6 (Y_move (v := .slice B a.length c) rfl rfl) ?_
 refine sQ 7 (Y_len (B := B) (m := a.length) (c := c) k_sl_66_203 rfl rfl) ?_
 refine sQ 8 (Y_sub (k := .i64) (a := left) (b := (a.length : Int)) rfl rfl rfl) ?_
 refine sQ 1 (Y_assign (v := vi (i64.wrap (left - (a.length : Int)))) rfl rfl) (rw_nil (cw_seq (cw_seq (cw_region ?_))))
 refine sQ 9 (Y_move (v := vi (i64.wrap (left - (a.length : Int)))) rfl rfl) ?_
 refine sQ 10 (Y_lt (k := .i64) (a := (i64.wrap (left - (a.length : Int)))) (b := 0) rfl rfl rfl) (rw_nil ?_)
 refine cw_cond (b := (decide ((i64.wrap (left - (a.length : Int))) < 0))) rfl (fun hb => ?_) (fun hb => ?_)
 ·skip
  have hF1 := ct hF hb
  refine cw_seq (cw_region ?_)
  refine sQ 4 (Y_assign (v := vi (-1)) rfl rfl) (rw_nil (cw_ret ?_))
  obtain rfl := some_inj hF1
  exact ret1 Try.results74 (v1 := vi (-1)) (resAt_tmp rfl) ⟨rfl, (hS.sN [])⟩
 ·skip
  have hF2 := cf' hF hb
  refine cw_skip (cw_seq (cw_region ?_))
  refine sQ 11 (Y_move (v := vi (i64.wrap (left - (a.length : Int)))) rfl rfl) ?_
  refine sQ 4 (Y_assign (v := vi (i64.wrap (left - (a.length : Int)))) rfl rfl) (rw_nil (cw_ret ?_))
  obtain rfl := some_inj hF2
  exact ret1 Try.results74 (v1 := vi (i64.wrap (left - (a.length : Int)))) (resAt_tmp rfl) ⟨rfl, (hS.sN [])⟩

theorem c_laws_szMatrix (a : TMatrix) (left : Int) (B : Option Addr) (c n : Nat) (w0 : World) (hn : a.Cells.length = n) (hS : ST w0 [] w0 [] [⟨B, (a.Cells.flatMap eN0)⟩]) {r_ : Int} (hF : F_laws_szMatrix a left = some r_) :
  CV Try.prog 29 #[.agg #[vi a.Rows, vi a.Cols, .slice B n c], vi left] w0 (fun v w' => v = vi r_ ∧ ST w0 [] w' [] []) := by
 subst hn
 unfold F_laws_szMatrix at hF
 refine cv_of_cw 12 Try.func29 rfl Try.ntmps29 rfl ?_
 refine cw_seq (cw_region ?_)
 refine sS 2 (Ys_box (T := 68) (v := gM_ a B c) (cs := kM_ a B c) (m := 3) hS rfl rfl rfl rfl) ?_
 rintro _ w_ ⟨b, rfl, hS1⟩
 refine sQ 4 (Y_assign (v := vi 0) rfl rfl) (rw_nil (cw_seq (cw_region ?_)))
 refine sQ 5 (Y_fieldAddr (B := aD b) (i := 0) (s := 0) k_fd_68_2_2_66 k_sz_66_1 rfl rfl) ?_
 refine sQ 6 (Y_load1 (B := aD b) (i := 2) (cs := kM_ a B c) (v := .slice B a.Cells.length c) k_sc_66 rfl rfl (hS1.cf (i := 0) rfl) rfl) ?_
 refine sQ 7 (Y_move (v := vi left) rfl rfl) ?_
 obtain ⟨r_1, hc, hF⟩ := bind_inv hF
 refine sc 8 rfl rfl (Yc_func (g := 74) (vs := [.slice B a.Cells.length c, vi left]) k_call_74 rfl (mc rfl (mc rfl mn)) (c_laws_szDyadicS a.Cells left B c a.Cells.length _ rfl (hS1.inn0 [(true, 0)] rfl) hc)) ?_
 rintro _ w_1 ⟨rfl, hd⟩
 have hS2 := hS1.out00 hd
 refine sQ 1 (Y_assign (v := vi r_1) rfl rfl) (rw_nil (cw_seq (cw_seq (cw_region ?_))))
 refine sQ 9 (Y_move (v := vi r_1) rfl rfl) ?_
 refine sQ 10 (Y_lt (k := .i64) (a := r_1) (b := 0) rfl rfl rfl) (rw_nil ?_)
 refine cw_cond (b := (decide (r_1 < 0))) rfl (fun hb => ?_) (fun hb => ?_)
 ·skip
  have hF1 := ct hF hb
  refine cw_seq (cw_region ?_)
  refine sQ 4 (Y_assign (v := vi (-1)) rfl rfl) (rw_nil (cw_ret ?_))
  obtain rfl := some_inj hF1
  exact ret1 Try.results29 (v1 := vi (-1)) (resAt_tmp rfl) ⟨rfl, (hS2.sN [])⟩
 ·skip
  have hF2 := cf' hF hb
  refine cw_skip (cw_seq (cw_region ?_))
  refine sQ 11 (Y_move (v := vi r_1) rfl rfl) ?_
  refine sQ 4 (Y_assign (v := vi r_1) rfl rfl) (rw_nil (cw_ret ?_))
  obtain rfl := some_inj hF2
  exact ret1 Try.results29 (v1 := vi r_1) (resAt_tmp rfl) ⟨rfl, (hS2.sN [])⟩

theorem c_spec_l1In (n : Int) (lo : Int) (hi : Int)  (w0 : World)  (hS : ST w0 [] w0 [] []) {r_ : Bool} (hF : F_spec_l1In n lo hi = some r_) :
  CV Try.prog 60 #[vi n, vi lo, vi hi] w0 (fun v w' => v = .bool r_ ∧ ST w0 [] w' [] []) := by
 unfold F_spec_l1In at hF
 refine cv_of_cw 15 Try.func60 rfl Try.ntmps60 rfl ?_
 refine cw_seq (cw_region ?_)
 refine sQ 6 (Y_assign (v := .bool false) rfl rfl) (rw_nil (cw_seq (cw_region ?_)))
 refine sQ 7 (Y_move (v := vi n) rfl rfl) ?_
 refine sQ 8 (Y_move (v := vi lo) rfl rfl) ?_
 refine sQ 9 (Y_ge (k := .i64) (a := n) (b := lo) rfl rfl rfl) ?_
 refine sQ 10 (Y_move (v := .bool (decide (lo ≤ n))) rfl rfl) ?_
 refine sgq 11 (B := (decide (lo ≤ n))) (v := vi n) rfl rfl (uT_ 10) (fun hg => (Y_move (v := vi n) rfl rfl)) ?_
 refine sgq 12 (B := (decide (lo ≤ n))) (v := vi hi) rfl rfl (uT_ 10) (fun hg1 => (Y_move (v := vi hi) rfl rfl)) ?_
 refine sgq 13 (B := (decide (lo ≤ n))) (v := .bool (decide (n ≤ hi))) rfl rfl (uT_ 10) (fun hg2 => (Y_le (k := .i64) (a := n) (b := hi) rfl (gv_of (v := vi n) hg2) (gv_of (v := vi hi) hg2))) ?_
 refine sQ 14 (Y_and (b := (decide (lo ≤ n))) (z := (decide (n ≤ hi))) rfl rfl rfl rfl) ?_
 refine sQ 6 (Y_assign (v := .bool ((decide (lo ≤ n)) && (decide (n ≤ hi)))) rfl rfl) (rw_nil (cw_ret ?_))
 obtain rfl := some_inj hF
 exact ret1 Try.results60 (v1 := .bool ((decide (lo ≤ n)) && (decide (n ≤ hi)))) (resAt_tmp rfl) ⟨rfl, (hS.sN [])⟩

theorem c_spec_l1Has (l : List Int) (n1 : Int) (B : Option Addr) (c n : Nat) (w0 : World) (hn : l.length = n) (hS : ST w0 [] w0 [] [⟨B, (l.flatMap encI)⟩]) {r_ : Bool} (hF : F_spec_l1Has l n1 = some r_) :
  CV Try.prog 193 #[.slice B n c, vi n1] w0 (fun v w' => v = .bool r_ ∧ ST w0 [] w' [] []) := by
 subst hn
 unfold F_spec_l1Has at hF
 refine cv_of_cw 17 Try.func193 rfl Try.ntmps193 rfl ?_
 refine cw_seq (cw_region ?_)
 refine sQ 4 (Y_assign (v := .bool false) rfl rfl) (rw_nil (cw_seq (cw_seq (cw_region ?_))))
 refine sQ 7 (Y_move (v := .slice B l.length c) rfl rfl) ?_
 refine sQ 8 (Y_len (B := B) (m := l.length) (c := c) k_sl_175_3 rfl rfl) ?_
 refine sQ 9 (Y_move (v := vi 0) rfl rfl) (rw_nil ?_)
 obtain ⟨hN, hF⟩ := chk_inv hF
 obtain ⟨z, hz, hF1⟩ := bind_inv hF
 refine cw_block ?_
 refine cw_loop (fun k f w => ∃ (i : Nat), FF f [(1, vi n1), (7, .slice B l.length c), (8, vi (l.length : Int)), (9, vi (i : Int))] ∧ ST w0 [] w [] [⟨B, (l.flatMap encI)⟩] ∧ i + k = l.length ∧ forX (F_spec_l1Has_l1 l n1) k i () = some z) l.length ⟨0, (FF.cons rfl (FF.cons rfl (FF.cons rfl (FF.cons rfl FF.nil)))), (hS.sel [] rfl rfl), Nat.zero_add _, hz⟩ ?_
 rintro k_ f w ⟨i, hf, hS1, hik, hL⟩
 refine cw_seq (cw_region ?_)
 refine sQ 10 (Y_lt (k := .i64) (a := (i : Int)) (b := (l.length : Int)) rfl (hf.get 9 3 rfl) (hf.get 8 2 rfl)) (rw_nil (cw_seq ?_))
 refine cw_cond (b := (decide ((i : Int) < (l.length : Int)))) rfl (fun hlt => ?_) (fun hlt => ?_)
 ·skip
  have hlt1 : i < l.length := by have h := of_decide_eq_true hlt; omega
  obtain ⟨k_1, rfl⟩ : ∃ k2, k_ = k2 + 1 := ⟨k_ - 1, by omega⟩
  obtain ⟨y, hb, hL1⟩ := forX_go hL
  unfold F_spec_l1Has_l1 at hb
  refine cw_skip (cw_seq (cw_block (cw_seq (cw_region ?_))))
  obtain ⟨x, hx, hb⟩ := bind_inv hb
  refine sQ 11 (Y_index (B := B) (m := l.length) (c := c) (k := .i64) (i := (i : Int)) k_sl_175_3 k_sz_3_1 rfl (hf.get 7 1 rfl) (hf.get 9 3 rfl) (gi_isSome encI_len rfl (hS1.rf (i := 0) rfl) hx) (getI_nn hx) (getI_ltI hx rfl)) ?_
  refine sQ 12 (Y_load1 (B := B) (i := (i : Int).toNat * 1) (cs := (l.flatMap encI)) (v := vi x) k_sc_3 rfl rfl (hS1.rf (i := 0) rfl) (gi_at0 encI_len hx rfl)) ?_
  refine sQ 6 (Y_assign (v := vi x) rfl rfl) (rw_nil (cw_seq (cw_region ?_)))
  refine sQ 13 (Y_move (v := vi x) rfl rfl) ?_
  refine sQ 14 (Y_move (v := vi n1) rfl (hf.get 1 0 rfl)) ?_
  refine sQ 15 (Y_eq (k := .i64) (a := x) (b := n1) rfl rfl rfl) (rw_nil ?_)
  refine cw_cond (b := (x == n1)) rfl (fun hb1 => ?_) (fun hb1 => ?_)
  ·skip
   have hF2 := ct hb hb1
   refine cw_seq (cw_region ?_)
   refine sQ 4 (Y_assign (v := .bool true) rfl rfl) (rw_nil (cw_ret ?_))
   obtain rfl := some_inj hF2
   obtain rfl := some_inj hL1
   obtain rfl := some_inj hF1
   exact ret1 Try.results193 (v1 := .bool true) (resAt_tmp rfl) ⟨rfl, (hS1.sN [])⟩
  ·skip
   have hF3 := cf' hb hb1
   refine cw_skip (cw_region ?_)
   refine sQ 16 (Y_add (k := .i64) (a := (i : Int)) (b := 1) rfl (hf.get 9 3 rfl) rfl) ?_
   refine sQ 9 (Y_move (v := vi (i64.wrap ((i : Int) + 1))) rfl rfl) (rw_nil ?_)
   obtain rfl := some_inj hF3
   exact ⟨k_1, Nat.lt_succ_self _, i + 1, (FF.cons (hf.get 1 0 rfl) (FF.cons (hf.get 7 1 rfl) (FF.cons (hf.get 8 2 rfl) (FF.cons (congrArg (Value.int .i64) (wr_succ hlt1 hN)) FF.nil)))), (hS1.sel [] rfl rfl), (by omega), hL1⟩
 ·skip
  obtain rfl : k_ = 0 := by have h := of_decide_eq_false hlt; omega
  refine cw_exit rfl ?_
  obtain rfl := some_inj hL
  refine cw_seq (cw_region ?_)
  refine sQ 4 (Y_assign (v := .bool false) rfl rfl) (rw_nil (cw_ret ?_))
  obtain rfl := some_inj hF1
  exact ret1 Try.results193 (v1 := .bool false) (resAt_tmp rfl) ⟨rfl, (hS1.sN [])⟩

theorem c_spec_l3Dim (n : Int)  (w0 : World)  (hS : ST w0 [] w0 [] []) {r_ : Bool} (hF : F_spec_l3Dim n = some r_) :
  CV Try.prog 134 #[vi n] w0 (fun v w' => v = .bool r_ ∧ ST w0 [] w' [] []) := by
 unfold F_spec_l3Dim at hF
 refine cv_of_cw 6 Try.func134 rfl Try.ntmps134 rfl ?_
 refine cw_seq (cw_region ?_)
 refine sQ 2 (Y_assign (v := .bool false) rfl rfl) (rw_nil (cw_seq (cw_region ?_)))
 refine sS 3 (Ys_bslice (s := 1) (len := 6) (vs := [(0, vi 1), (1, vi 2), (2, vi 4), (3, vi 8), (4, vi 16), (5, vi 32)]) (cs := [vi 1, vi 2, vi 4, vi 8, vi 16, vi 32]) (zs := [vi 0, vi 0, vi 0, vi 0, vi 0, vi 0]) (m := 6) hS k_sl_175_3 k_sz_3_1 k_zc_3 rfl (mpc rfl (mpc rfl (mpc rfl (mpc rfl (mpc rfl (mpc rfl mpn)))))) rfl rfl rfl (by kernel_rfl) (by kernel_rfl) rfl) ?_
 rintro _ w_ ⟨b, rfl, hS1⟩
 refine sQ 4 (Y_move (v := vi n) rfl rfl) ?_
 obtain ⟨r_1, hc, hF⟩ := bind_inv hF
 refine sc 5 rfl rfl (Yc_func (g := 193) (vs := [.slice (aD b) 6 6, vi n]) k_call_193 rfl (mc rfl (mc rfl mn)) (c_spec_l1Has [1, 2, 4, 8, 16, 32] n (aD b) 6 6 _ rfl (hS1.inn0 [(false, 0)] rfl) hc)) ?_
 rintro _ w_1 ⟨rfl, hd⟩
 have hS2 := hS1.out00 hd
 refine sQ 2 (Y_assign (v := .bool r_1) rfl rfl) (rw_nil (cw_ret ?_))
 obtain rfl := some_inj hF
 exact ret1 Try.results134 (v1 := .bool r_1) (resAt_tmp rfl) ⟨rfl, (hS2.sN [])⟩

theorem c_spec_l1All (l : List Int) (lo : Int) (hi : Int) (B : Option Addr) (c n : Nat) (w0 : World) (hn : l.length = n) (hS : ST w0 [] w0 [] [⟨B, (l.flatMap encI)⟩]) {r_ : Bool} (hF : F_spec_l1All l lo hi = some r_) :
  CV Try.prog 233 #[.slice B n c, vi lo, vi hi] w0 (fun v w' => v = .bool r_ ∧ ST w0 [] w' [] []) := by
 subst hn
 unfold F_spec_l1All at hF
 refine cv_of_cw 21 Try.func233 rfl Try.ntmps233 rfl ?_
 refine cw_seq (cw_region ?_)
 refine sQ 6 (Y_assign (v := .bool false) rfl rfl) (rw_nil (cw_seq (cw_seq (cw_region ?_))))
 refine sQ 9 (Y_move (v := .slice B l.length c) rfl rfl) ?_
 refine sQ 10 (Y_len (B := B) (m := l.length) (c := c) k_sl_175_3 rfl rfl) ?_
 refine sQ 11 (Y_move (v := vi 0) rfl rfl) (rw_nil ?_)
 obtain ⟨hN, hF⟩ := chk_inv hF
 obtain ⟨z, hz, hF1⟩ := bind_inv hF
 refine cw_block ?_
 refine cw_loop (fun k f w => ∃ (i : Nat), FF f [(1, vi lo), (2, vi hi), (9, .slice B l.length c), (10, vi (l.length : Int)), (11, vi (i : Int))] ∧ ST w0 [] w [] [⟨B, (l.flatMap encI)⟩] ∧ i + k = l.length ∧ forX (F_spec_l1All_l1 l lo hi) k i () = some z) l.length ⟨0, (FF.cons rfl (FF.cons rfl (FF.cons rfl (FF.cons rfl (FF.cons rfl FF.nil))))), (hS.sel [] rfl rfl), Nat.zero_add _, hz⟩ ?_
 rintro k_ f w ⟨i, hf, hS1, hik, hL⟩
 refine cw_seq (cw_region ?_)
 refine sQ 12 (Y_lt (k := .i64) (a := (i : Int)) (b := (l.length : Int)) rfl (hf.get 11 4 rfl) (hf.get 10 3 rfl)) (rw_nil (cw_seq ?_))
 refine cw_cond (b := (decide ((i : Int) < (l.length : Int)))) rfl (fun hlt => ?_) (fun hlt => ?_)
 ·skip
  have hlt1 : i < l.length := by have h := of_decide_eq_true hlt; omega
  obtain ⟨k_1, rfl⟩ : ∃ k2, k_ = k2 + 1 := ⟨k_ - 1, by omega⟩
  obtain ⟨y, hb, hL1⟩ := forX_go hL
  unfold F_spec_l1All_l1 at hb
  refine cw_skip (cw_seq (cw_block (cw_seq (cw_region ?_))))
  obtain ⟨x, hx, hb⟩ := bind_inv hb
  refine sQ 13 (Y_index (B := B) (m := l.length) (c := c) (k := .i64) (i := (i : Int)) k_sl_175_3 k_sz_3_1 rfl (hf.get 9 2 rfl) (hf.get 11 4 rfl) (gi_isSome encI_len rfl (hS1.rf (i := 0) rfl) hx) (getI_nn hx) (getI_ltI hx rfl)) ?_
  refine sQ 14 (Y_load1 (B := B) (i := (i : Int).toNat * 1) (cs := (l.flatMap encI)) (v := vi x) k_sc_3 rfl rfl (hS1.rf (i := 0) rfl) (gi_at0 encI_len hx rfl)) ?_
  refine sQ 8 (Y_assign (v := vi x) rfl rfl) (rw_nil (cw_seq (cw_region ?_)))
  refine sQ 15 (Y_move (v := vi x) rfl rfl) ?_
  refine sQ 16 (Y_move (v := vi lo) rfl (hf.get 1 0 rfl)) ?_
  refine sQ 17 (Y_move (v := vi hi) rfl (hf.get 2 1 rfl)) ?_
  obtain ⟨r_1, hc, hb⟩ := bind_inv hb
  refine sc 18 rfl rfl (Yc_func (g := 60) (vs := [vi x, vi lo, vi hi]) k_call_60 rfl (mc rfl (mc rfl (mc rfl mn))) (c_spec_l1In x lo hi _  (hS1.inn0 [] rfl) hc)) ?_
  rintro _ w_ ⟨rfl, hd⟩
  have hS2 := hS1.out00 hd
  refine sQ 19 (Y_not (p := r_1) rfl rfl) (rw_nil ?_)
  refine cw_cond (b := (!r_1)) rfl (fun hb1 => ?_) (fun hb1 => ?_)
  ·skip
   have hF2 := ct hb hb1
   refine cw_seq (cw_region ?_)
   refine sQ 6 (Y_assign (v := .bool false) rfl rfl) (rw_nil (cw_ret ?_))
   obtain rfl := some_inj hF2
   obtain rfl := some_inj hL1
   obtain rfl := some_inj hF1
   exact ret1 Try.results233 (v1 := .bool false) (resAt_tmp rfl) ⟨rfl, (hS2.sN [])⟩
  ·skip
   have hF3 := cf' hb hb1
   refine cw_skip (cw_region ?_)
   refine sQ 20 (Y_add (k := .i64) (a := (i : Int)) (b := 1) rfl (hf.get 11 4 rfl) rfl) ?_
   refine sQ 11 (Y_move (v := vi (i64.wrap ((i : Int) + 1))) rfl rfl) (rw_nil ?_)
   obtain rfl := some_inj hF3
   exact ⟨k_1, Nat.lt_succ_self _, i + 1, (FF.cons (hf.get 1 0 rfl) (FF.cons (hf.get 2 1 rfl) (FF.cons (hf.get 9 2 rfl) (FF.cons (hf.get 10 3 rfl) (FF.cons (congrArg (Value.int .i64) (wr_succ hlt1 hN)) FF.nil))))), (hS2.sel [] rfl rfl), (by omega), hL1⟩
 ·skip
  obtain rfl : k_ = 0 := by have h := of_decide_eq_false hlt; omega
  refine cw_exit rfl ?_
  obtain rfl := some_inj hL
  refine cw_seq (cw_region ?_)
  refine sQ 6 (Y_assign (v := .bool true) rfl rfl) (rw_nil (cw_ret ?_))
  obtain rfl := some_inj hF1
  exact ret1 Try.results233 (v1 := .bool true) (resAt_tmp rfl) ⟨rfl, (hS1.sN [])⟩

theorem c_spec_l1Good (x : TRing)  (w0 : World)  (hS : ST w0 [] w0 [] []) {r_ : Bool} (hF : F_spec_l1Good x = some r_) :
  CV Try.prog 194 #[gR_ x] w0 (fun v w' => v = .bool r_ ∧ ST w0 [] w' [] []) := by
 unfold F_spec_l1Good at hF
 refine cv_of_cw 13 Try.func194 rfl Try.ntmps194 rfl ?_
 refine cw_seq (cw_region ?_)
 refine sS 1 (Ys_box (T := 122) (v := gR_ x) (cs := kR_ x) (m := 4) hS rfl rfl rfl rfl) ?_
 rintro _ w_ ⟨b, rfl, hS1⟩
 refine sQ 2 (Y_assign (v := .bool false) rfl rfl) (rw_nil (cw_seq (cw_region ?_)))
 refine sQ 3 (Y_fieldAddr (B := aD b) (i := 0) (s := 0) k_fd_122_0_0_3 k_sz_3_1 rfl rfl) ?_
 refine sQ 4 (Y_load1 (B := aD b) (i := 0) (cs := kR_ x) (v := vi x.A) k_sc_3 rfl rfl (hS1.cf (i := 0) rfl) rfl) ?_
 refine sQ 5 (Y_fieldAddr (B := aD b) (i := 0) (s := 0) k_fd_122_1_1_3 k_sz_3_1 rfl rfl) ?_
 refine sQ 6 (Y_load1 (B := aD b) (i := 1) (cs := kR_ x) (v := vi x.B) k_sc_3 rfl rfl (hS1.cf (i := 0) rfl) rfl) ?_
 refine sQ 7 (Y_fieldAddr (B := aD b) (i := 0) (s := 0) k_fd_122_2_2_3 k_sz_3_1 rfl rfl) ?_
 refine sQ 8 (Y_load1 (B := aD b) (i := 2) (cs := kR_ x) (v := vi x.C) k_sc_3 rfl rfl (hS1.cf (i := 0) rfl) rfl) ?_
 refine sQ 9 (Y_fieldAddr (B := aD b) (i := 0) (s := 0) k_fd_122_3_3_3 k_sz_3_1 rfl rfl) ?_
 refine sQ 10 (Y_load1 (B := aD b) (i := 3) (cs := kR_ x) (v := vi x.D) k_sc_3 rfl rfl (hS1.cf (i := 0) rfl) rfl) ?_
 refine sS 11 (Ys_bslice (s := 1) (len := 4) (vs := [(0, vi x.A), (1, vi x.B), (2, vi x.C), (3, vi x.D)]) (cs := kR_ x) (zs := [vi 0, vi 0, vi 0, vi 0]) (m := 4) hS1 k_sl_175_3 k_sz_3_1 k_zc_3 rfl (mpc rfl (mpc rfl (mpc rfl (mpc rfl mpn)))) rfl rfl rfl (by kernel_rfl) (by kernel_rfl) rfl) ?_
 rintro _ w_1 ⟨b1, rfl, hS2⟩
 obtain ⟨r_1, hc, hF⟩ := bind_inv hF
 refine sc 12 rfl rfl (Yc_func (g := 233) (vs := [.slice (aD b1) 4 4, vi (-1000000000), vi 1000000000]) k_call_233 rfl (mc rfl (mc rfl (mc rfl mn))) (c_spec_l1All [x.A, x.B, x.C, x.D] (-1000000000) 1000000000 (aD b1) 4 4 _ rfl (hS2.inn0 [(false, 1)] rfl) hc)) ?_
 rintro _ w_2 ⟨rfl, hd⟩
 have hS3 := hS2.out00 hd
 refine sQ 2 (Y_assign (v := .bool r_1) rfl rfl) (rw_nil (cw_ret ?_))
 obtain rfl := some_inj hF
 exact ret1 Try.results194 (v1 := .bool r_1) (resAt_tmp rfl) ⟨rfl, (hS3.sN [])⟩

theorem c_spec_l1Even (x : TRing)  (w0 : World)  (hS : ST w0 [] w0 [] []) {r_ : Bool} (hF : F_spec_l1Even x = some r_) :
  CV Try.prog 195 #[gR_ x] w0 (fun v w' => v = .bool r_ ∧ ST w0 [] w' [] []) := by
 unfold F_spec_l1Even at hF
 refine cv_of_cw 19 Try.func195 rfl Try.ntmps195 rfl ?_
 refine cw_seq (cw_region ?_)
 refine sS 1 (Ys_box (T := 122) (v := gR_ x) (cs := kR_ x) (m := 4) hS rfl rfl rfl rfl) ?_
 rintro _ w_ ⟨b, rfl, hS1⟩
 refine sQ 2 (Y_assign (v := .bool false) rfl rfl) (rw_nil (cw_seq (cw_region ?_)))
 refine sQ 3 (Y_fieldAddr (B := aD b) (i := 0) (s := 0) k_fd_122_0_0_3 k_sz_3_1 rfl rfl) ?_
 refine sQ 4 (Y_load1 (B := aD b) (i := 0) (cs := kR_ x) (v := vi x.A) k_sc_3 rfl rfl (hS1.cf (i := 0) rfl) rfl) ?_
 refine sQ 5 (Y_fieldAddr (B := aD b) (i := 0) (s := 0) k_fd_122_2_2_3 k_sz_3_1 rfl rfl) ?_
 refine sQ 6 (Y_load1 (B := aD b) (i := 2) (cs := kR_ x) (v := vi x.C) k_sc_3 rfl rfl (hS1.cf (i := 0) rfl) rfl) ?_
 refine sQ 7 (Y_add (k := .i64) (a := x.A) (b := x.C) rfl rfl rfl) ?_
 refine sQ 8 (Y_rem (k := .i64) (a := (i64.wrap (x.A + x.C))) (b := 2) rfl rfl rfl (by decide)) ?_
 refine sQ 9 (Y_eq (k := .i64) (a := (Int.tmod (i64.wrap (x.A + x.C)) 2)) (b := 0) rfl rfl rfl) ?_
 refine sQ 10 (Y_move (v := .bool ((Int.tmod (i64.wrap (x.A + x.C)) 2) == 0)) rfl rfl) ?_
 refine sgq 11 (B := ((Int.tmod (i64.wrap (x.A + x.C)) 2) == 0)) (v := pt (aD b) 1) rfl rfl (uT_ 10) (fun hg => (Y_fieldAddr (B := aD b) (i := 0) (s := 0) k_fd_122_1_1_3 k_sz_3_1 rfl rfl)) ?_
 refine sgq 12 (B := ((Int.tmod (i64.wrap (x.A + x.C)) 2) == 0)) (v := vi x.B) rfl rfl (uT_ 10) (fun hg1 => (Y_load1 (B := aD b) (i := 1) (cs := kR_ x) (v := vi x.B) k_sc_3 rfl (gv_of (v := pt (aD b) 1) hg1) (hS1.cf (i := 0) rfl) rfl)) ?_
 refine sgq 13 (B := ((Int.tmod (i64.wrap (x.A + x.C)) 2) == 0)) (v := pt (aD b) 3) rfl rfl (uT_ 10) (fun hg2 => (Y_fieldAddr (B := aD b) (i := 0) (s := 0) k_fd_122_3_3_3 k_sz_3_1 rfl rfl)) ?_
 refine sgq 14 (B := ((Int.tmod (i64.wrap (x.A + x.C)) 2) == 0)) (v := vi x.D) rfl rfl (uT_ 10) (fun hg3 => (Y_load1 (B := aD b) (i := 3) (cs := kR_ x) (v := vi x.D) k_sc_3 rfl (gv_of (v := pt (aD b) 3) hg3) (hS1.cf (i := 0) rfl) rfl)) ?_
 refine sgq 15 (B := ((Int.tmod (i64.wrap (x.A + x.C)) 2) == 0)) (v := vi (i64.wrap (x.B + x.D))) rfl rfl (uT_ 10) (fun hg4 => (Y_add (k := .i64) (a := x.B) (b := x.D) rfl (gv_of (v := vi x.B) hg4) (gv_of (v := vi x.D) hg4))) ?_
 refine sgq 16 (B := ((Int.tmod (i64.wrap (x.A + x.C)) 2) == 0)) (v := vi (Int.tmod (i64.wrap (x.B + x.D)) 2)) rfl rfl (uT_ 10) (fun hg5 => (Y_rem (k := .i64) (a := (i64.wrap (x.B + x.D))) (b := 2) rfl (gv_of (v := vi (i64.wrap (x.B + x.D))) hg5) rfl (by decide))) ?_
 refine sgq 17 (B := ((Int.tmod (i64.wrap (x.A + x.C)) 2) == 0)) (v := .bool ((Int.tmod (i64.wrap (x.B + x.D)) 2) == 0)) rfl rfl (uT_ 10) (fun hg6 => (Y_eq (k := .i64) (a := (Int.tmod (i64.wrap (x.B + x.D)) 2)) (b := 0) rfl (gv_of (v := vi (Int.tmod (i64.wrap (x.B + x.D)) 2)) hg6) rfl)) ?_
 refine sQ 18 (Y_and (b := ((Int.tmod (i64.wrap (x.A + x.C)) 2) == 0)) (z := ((Int.tmod (i64.wrap (x.B + x.D)) 2) == 0)) rfl rfl rfl rfl) ?_
 refine sQ 2 (Y_assign (v := .bool (((Int.tmod (i64.wrap (x.A + x.C)) 2) == 0) && ((Int.tmod (i64.wrap (x.B + x.D)) 2) == 0))) rfl rfl) (rw_nil (cw_ret ?_))
 obtain rfl := some_inj hF
 exact ret1 Try.results195 (v1 := .bool (((Int.tmod (i64.wrap (x.A + x.C)) 2) == 0) && ((Int.tmod (i64.wrap (x.B + x.D)) 2) == 0))) (resAt_tmp rfl) ⟨rfl, (hS1.sN [])⟩

theorem c_spec_l2Good (x : TDyadic)  (w0 : World)  (hS : ST w0 [] w0 [] []) {r_ : Bool} (hF : F_spec_l2Good x = some r_) :
  CV Try.prog 135 #[gD_ x] w0 (fun v w' => v = .bool r_ ∧ ST w0 [] w' [] []) := by
 unfold F_spec_l2Good at hF
 refine cv_of_cw 22 Try.func135 rfl Try.ntmps135 rfl ?_
 refine cw_seq (cw_region ?_)
 refine sS 1 (Ys_box (T := 124) (v := gD_ x) (cs := kD_ x) (m := 5) hS rfl rfl rfl rfl) ?_
 rintro _ w_ ⟨b, rfl, hS1⟩
 refine sQ 2 (Y_assign (v := .bool false) rfl rfl) (rw_nil (cw_seq (cw_region ?_)))
 refine sQ 3 (Y_fieldAddr (B := aD b) (i := 0) (s := 3) k_fd_124_0_0_122 k_sz_122_4 rfl rfl) ?_
 refine sQ 4 (Y_loadA (B := aD b) (i := 0) (cs := kD_ x) (vs := kR_ x.Num) k_ag_122 k_sz_122_4 rfl rfl (hS1.cf (i := 0) rfl) rfl rfl) ?_
 obtain ⟨r_1, hc, hF⟩ := bind_inv hF
 refine sc 5 rfl rfl (Yc_func (g := 194) (vs := [gR_ x.Num]) k_call_194 rfl (mc rfl mn) (c_spec_l1Good x.Num _  (hS1.inn0 [] rfl) hc)) ?_
 rintro _ w_1 ⟨rfl, hd⟩
 have hS2 := hS1.out00 hd
 refine sQ 6 (Y_move (v := .bool r_1) rfl rfl) ?_
 refine sgq 7 (B := r_1) (v := pt (aD b) 4) rfl rfl (uT_ 6) (fun hg => (Y_fieldAddr (B := aD b) (i := 0) (s := 0) k_fd_124_1_4_3 k_sz_3_1 rfl rfl)) ?_
 refine sgq 8 (B := r_1) (v := vi x.Exp) rfl rfl (uT_ 6) (fun hg1 => (Y_load1 (B := aD b) (i := 4) (cs := kD_ x) (v := vi x.Exp) k_sc_3 rfl (gv_of (v := pt (aD b) 4) hg1) (hS2.cf (i := 0) rfl) rfl)) ?_
 obtain ⟨r_2, hc1, hF⟩ := bind_inv hF
 refine sgc 9 (B := r_1) (v := .bool r_2) (F := hS2.fn) rfl rfl (uT_ 6) hS2 (fun hg2 => (Yc_func (g := 60) (vs := [vi x.Exp, vi 0, vi 60]) k_call_60 rfl (mc (gv_of (v := vi x.Exp) hg2) (mc rfl (mc rfl mn))) (CV.mono (c_spec_l1In x.Exp 0 60 _  (hS2.inn0 [] rfl) (gb_inv hc1 hg2)) (by rintro _ _ ⟨rfl, h⟩; exact ⟨rfl, hS2.out00 h⟩)))) ?_
 rintro w_2 hS3
 refine sQ 10 (Y_and (b := r_1) (z := r_2) rfl rfl rfl rfl) ?_
 refine sQ 11 (Y_move (v := .bool (r_1 && r_2)) rfl rfl) ?_
 refine sgq 12 (B := (r_1 && r_2)) (v := pt (aD b) 4) rfl rfl (uT_ 11) (fun hg3 => (Y_fieldAddr (B := aD b) (i := 0) (s := 0) k_fd_124_1_4_3 k_sz_3_1 rfl rfl)) ?_
 refine sgq 13 (B := (r_1 && r_2)) (v := vi x.Exp) rfl rfl (uT_ 11) (fun hg4 => (Y_load1 (B := aD b) (i := 4) (cs := kD_ x) (v := vi x.Exp) k_sc_3 rfl (gv_of (v := pt (aD b) 4) hg4) (hS3.cf (i := 0) rfl) rfl)) ?_
 refine sgq 14 (B := (r_1 && r_2)) (v := .bool (x.Exp == 0)) rfl rfl (uT_ 11) (fun hg5 => (Y_eq (k := .i64) (a := x.Exp) (b := 0) rfl (gv_of (v := vi x.Exp) hg5) rfl)) ?_
 refine sgq 15 (B := (r_1 && r_2)) (v := .bool (x.Exp == 0)) rfl rfl (uT_ 11) (fun hg6 => (Y_move (v := .bool (x.Exp == 0)) rfl (gv_of (v := .bool (x.Exp == 0)) hg6))) ?_
 refine sgq 16 (B := ((r_1 && r_2) && (!(x.Exp == 0)))) (v := pt (aD b) 0) rfl rfl (wt_gf (gd_of (t := 15) (by kernel_rfl) rfl)) (fun hg7 => (Y_fieldAddr (B := aD b) (i := 0) (s := 3) k_fd_124_0_0_122 k_sz_122_4 rfl rfl)) ?_
 refine sgq 17 (B := ((r_1 && r_2) && (!(x.Exp == 0)))) (v := gR_ x.Num) rfl rfl (wt_gf (gd_of (t := 15) (by kernel_rfl) rfl)) (fun hg8 => (Y_loadA (B := aD b) (i := 0) (cs := kD_ x) (vs := kR_ x.Num) k_ag_122 k_sz_122_4 rfl (gv_of (v := pt (aD b) 0) hg8) (hS3.cf (i := 0) rfl) rfl rfl)) ?_
 obtain ⟨r_3, hc2, hF⟩ := bind_inv hF
 refine sgc 18 (B := ((r_1 && r_2) && (!(x.Exp == 0)))) (v := .bool r_3) (F := hS3.fn) rfl rfl (wt_gf (gd_of (t := 15) (by kernel_rfl) rfl)) hS3 (fun hg9 => (Yc_func (g := 195) (vs := [gR_ x.Num]) k_call_195 rfl (mc (gv_of (v := gR_ x.Num) hg9) mn) (CV.mono (c_spec_l1Even x.Num _  (hS3.inn0 [] rfl) (gb_inv hc2 hg9)) (by rintro _ _ ⟨rfl, h⟩; exact ⟨rfl, hS3.out00 h⟩)))) ?_
 rintro w_3 hS4
 refine sgq 19 (B := ((r_1 && r_2) && (!(x.Exp == 0)))) (v := .bool (!r_3)) rfl rfl (wt_gf (gd_of (t := 15) (by kernel_rfl) rfl)) (fun hg10 => (Y_not (p := r_3) rfl (gv_of (v := .bool r_3) hg10))) ?_
 refine sgq 20 (B := (r_1 && r_2)) (v := .bool ((x.Exp == 0) || (!r_3))) rfl rfl (uT_ 11) (fun hg11 => (Y_or (b := (x.Exp == 0)) (z := (!r_3)) rfl (gv_of (v := .bool (x.Exp == 0)) hg11) rfl (gv_and (B := (r_1 && r_2)) (C := (!(x.Exp == 0))) (v := .bool (!r_3)) hg11))) ?_
 refine sQ 21 (Y_and (b := (r_1 && r_2)) (z := ((x.Exp == 0) || (!r_3))) rfl rfl rfl rfl) ?_
 refine sQ 2 (Y_assign (v := .bool ((r_1 && r_2) && ((x.Exp == 0) || (!r_3)))) rfl rfl) (rw_nil (cw_ret ?_))
 obtain rfl := some_inj hF
 exact ret1 Try.results135 (v1 := .bool ((r_1 && r_2) && ((x.Exp == 0) || (!r_3)))) (resAt_tmp rfl) ⟨rfl, (hS4.sN [])⟩

theorem c_spec_l3Good (m : TMatrix) (B : Option Addr) (c n : Nat) (w0 : World) (hn : m.Cells.length = n) (hS : ST w0 [] w0 [] [⟨B, (m.Cells.flatMap eN0)⟩]) {r_ : Bool} (hF : F_spec_l3Good m = some r_) :
  CV Try.prog 75 #[.agg #[vi m.Rows, vi m.Cols, .slice B n c]] w0 (fun v w' => v = .bool r_ ∧ ST w0 [] w' [] []) := by
 subst hn
 unfold F_spec_l3Good at hF
 refine cv_of_cw 37 Try.func75 rfl Try.ntmps75 rfl ?_
 refine cw_seq (cw_region ?_)
 refine sS 1 (Ys_box (T := 75) (v := gM_ m B c) (cs := kM_ m B c) (m := 3) hS rfl rfl rfl rfl) ?_
 rintro _ w_ ⟨b, rfl, hS1⟩
 refine sQ 2 (Y_assign (v := .bool false) rfl rfl) (rw_nil (cw_seq (cw_seq (cw_region ?_))))
 refine sQ 5 (Y_fieldAddr (B := aD b) (i := 0) (s := 0) k_fd_75_0_0_3 k_sz_3_1 rfl rfl) ?_
 refine sQ 6 (Y_load1 (B := aD b) (i := 0) (cs := kM_ m B c) (v := vi m.Rows) k_sc_3 rfl rfl (hS1.cf (i := 0) rfl) rfl) ?_
 obtain ⟨r_1, hc, hF⟩ := bind_inv hF
 refine sc 7 rfl rfl (Yc_func (g := 134) (vs := [vi m.Rows]) k_call_134 rfl (mc rfl mn) (c_spec_l3Dim m.Rows _  (hS1.inn0 [] rfl) hc)) ?_
 rintro _ w_1 ⟨rfl, hd⟩
 have hS2 := hS1.out00 hd
 refine sQ 8 (Y_not (p := r_1) rfl rfl) ?_
 refine sQ 9 (Y_move (v := .bool (!r_1)) rfl rfl) ?_
 refine sgq 10 (B := (!(!r_1))) (v := pt (aD b) 1) rfl rfl (uF_ 9) (fun hg => (Y_fieldAddr (B := aD b) (i := 0) (s := 0) k_fd_75_1_1_3 k_sz_3_1 rfl rfl)) ?_
 refine sgq 11 (B := (!(!r_1))) (v := vi m.Cols) rfl rfl (uF_ 9) (fun hg1 => (Y_load1 (B := aD b) (i := 1) (cs := kM_ m B c) (v := vi m.Cols) k_sc_3 rfl (gv_of (v := pt (aD b) 1) hg1) (hS2.cf (i := 0) rfl) rfl)) ?_
 obtain ⟨r_2, hc1, hF⟩ := bind_inv hF
 refine sgc 12 (B := (!(!r_1))) (v := .bool r_2) (F := hS2.fn) rfl rfl (uF_ 9) hS2 (fun hg2 => (Yc_func (g := 134) (vs := [vi m.Cols]) k_call_134 rfl (mc (gv_of (v := vi m.Cols) hg2) mn) (CV.mono (c_spec_l3Dim m.Cols _  (hS2.inn0 [] rfl) (gb_inv hc1 hg2)) (by rintro _ _ ⟨rfl, h⟩; exact ⟨rfl, hS2.out00 h⟩)))) ?_
 rintro w_2 hS3
 refine sgq 13 (B := (!(!r_1))) (v := .bool (!r_2)) rfl rfl (uF_ 9) (fun hg3 => (Y_not (p := r_2) rfl (gv_of (v := .bool r_2) hg3))) ?_
 refine sQ 14 (Y_or (b := (!r_1)) (z := (!r_2)) rfl rfl rfl rfl) ?_
 refine sQ 15 (Y_move (v := .bool ((!r_1) || (!r_2))) rfl rfl) ?_
 refine sgq 16 (B := (!((!r_1) || (!r_2)))) (v := pt (aD b) 2) rfl rfl (uF_ 15) (fun hg4 => (Y_fieldAddr (B := aD b) (i := 0) (s := 0) k_fd_75_2_2_73 k_sz_73_1 rfl rfl)) ?_
 refine sgq 17 (B := (!((!r_1) || (!r_2)))) (v := .slice B m.Cells.length c) rfl rfl (uF_ 15) (fun hg5 => (Y_load1 (B := aD b) (i := 2) (cs := kM_ m B c) (v := .slice B m.Cells.length c) k_sc_73 rfl (gv_of (v := pt (aD b) 2) hg5) (hS3.cf (i := 0) rfl) rfl)) ?_
 refine sgq 18 (B := (!((!r_1) || (!r_2)))) (v := vi (m.Cells.length : Int)) rfl rfl (uF_ 15) (fun hg6 => (Y_len (B := B) (m := m.Cells.length) (c := c) k_sl_73_124 rfl (gv_of (v := .slice B m.Cells.length c) hg6))) ?_
 refine sgq 19 (B := (!((!r_1) || (!r_2)))) (v := pt (aD b) 0) rfl rfl (uF_ 15) (fun hg7 => (Y_fieldAddr (B := aD b) (i := 0) (s := 0) k_fd_75_0_0_3 k_sz_3_1 rfl rfl)) ?_
 refine sgq 20 (B := (!((!r_1) || (!r_2)))) (v := vi m.Rows) rfl rfl (uF_ 15) (fun hg8 => (Y_load1 (B := aD b) (i := 0) (cs := kM_ m B c) (v := vi m.Rows) k_sc_3 rfl (gv_of (v := pt (aD b) 0) hg8) (hS3.cf (i := 0) rfl) rfl)) ?_
 refine sgq 21 (B := (!((!r_1) || (!r_2)))) (v := pt (aD b) 1) rfl rfl (uF_ 15) (fun hg9 => (Y_fieldAddr (B := aD b) (i := 0) (s := 0) k_fd_75_1_1_3 k_sz_3_1 rfl rfl)) ?_
 refine sgq 22 (B := (!((!r_1) || (!r_2)))) (v := vi m.Cols) rfl rfl (uF_ 15) (fun hg10 => (Y_load1 (B := aD b) (i := 1) (cs := kM_ m B c) (v := vi m.Cols) k_sc_3 rfl (gv_of (v := pt (aD b) 1) hg10) (hS3.cf (i := 0) rfl) rfl)) ?_
 refine sgq 23 (B := (!((!r_1) || (!r_2)))) (v := vi (i64.wrap (m.Rows * m.Cols))) rfl rfl (uF_ 15) (fun hg11 => (Y_mul (k := .i64) (a := m.Rows) (b := m.Cols) rfl (gv_of (v := vi m.Rows) hg11) (gv_of (v := vi m.Cols) hg11))) ?_
 refine sgq 24 (B := (!((!r_1) || (!r_2)))) (v := .bool ((m.Cells.length : Int) != (i64.wrap (m.Rows * m.Cols)))) rfl rfl (uF_ 15) (fun hg12 => (Y_ne (k := .i64) (a := (m.Cells.length : Int)) (b := (i64.wrap (m.Rows * m.Cols))) rfl (gv_of (v := vi (m.Cells.length : Int)) hg12) (gv_of (v := vi (i64.wrap (m.Rows * m.Cols))) hg12))) ?_
 refine sQ 25 (Y_or (b := ((!r_1) || (!r_2))) (z := ((m.Cells.length : Int) != (i64.wrap (m.Rows * m.Cols)))) rfl rfl rfl rfl) (rw_nil ?_)
 refine cw_cond (b := (((!r_1) || (!r_2)) || ((m.Cells.length : Int) != (i64.wrap (m.Rows * m.Cols))))) rfl (fun hb => ?_) (fun hb => ?_)
 ·skip
  have hF1 := ct hF hb
  refine cw_seq (cw_region ?_)
  refine sQ 2 (Y_assign (v := .bool false) rfl rfl) (rw_nil (cw_ret ?_))
  obtain rfl := some_inj hF1
  exact ret1 Try.results75 (v1 := .bool false) (resAt_tmp rfl) ⟨rfl, (hS3.sN [])⟩
 ·skip
  have hF2 := cf' hF hb
  refine cw_skip (cw_seq (cw_seq (cw_region ?_)))
  refine sQ 26 (Y_fieldAddr (B := aD b) (i := 0) (s := 0) k_fd_75_2_2_73 k_sz_73_1 rfl rfl) ?_
  refine sQ 27 (Y_load1 (B := aD b) (i := 2) (cs := kM_ m B c) (v := .slice B m.Cells.length c) k_sc_73 rfl rfl (hS3.cf (i := 0) rfl) rfl) ?_
  refine sQ 28 (Y_len (B := B) (m := m.Cells.length) (c := c) k_sl_73_124 rfl rfl) ?_
  refine sQ 29 (Y_move (v := vi 0) rfl rfl) (rw_nil ?_)
  obtain ⟨hN, hF2⟩ := chk_inv hF2
  obtain ⟨z, hz, hF3⟩ := bind_inv hF2
  refine cw_block ?_
  refine cw_loop (fun k f w => ∃ (i : Nat), FF f [(27, .slice B m.Cells.length c), (28, vi (m.Cells.length : Int)), (29, vi (i : Int))] ∧ ST w0 [] w [] [⟨B, (m.Cells.flatMap eN0)⟩] ∧ i + k = m.Cells.length ∧ forX (F_spec_l3Good_l1 m) k i () = some z) m.Cells.length ⟨0, (FF.cons rfl (FF.cons rfl (FF.cons rfl FF.nil))), (hS3.sel [] rfl rfl), Nat.zero_add _, hz⟩ ?_
  rintro k_ f w ⟨i, hf, hS4, hik, hL⟩
  refine cw_seq (cw_region ?_)
  refine sQ 30 (Y_lt (k := .i64) (a := (i : Int)) (b := (m.Cells.length : Int)) rfl (hf.get 29 2 rfl) (hf.get 28 1 rfl)) (rw_nil (cw_seq ?_))
  refine cw_cond (b := (decide ((i : Int) < (m.Cells.length : Int)))) rfl (fun hlt => ?_) (fun hlt => ?_)
  ·skip
   have hlt1 : i < m.Cells.length := by have h := of_decide_eq_true hlt; omega
   obtain ⟨k_1, rfl⟩ : ∃ k2, k_ = k2 + 1 := ⟨k_ - 1, by omega⟩
   obtain ⟨y, hb1, hL1⟩ := forX_go hL
   unfold F_spec_l3Good_l1 at hb1
   refine cw_skip (cw_seq (cw_block (cw_seq (cw_region ?_))))
   obtain ⟨x, hx, hb1⟩ := bind_inv hb1
   refine sQ 31 (Y_index (B := B) (m := m.Cells.length) (c := c) (k := .i64) (i := (i : Int)) k_sl_73_124 k_sz_124_5 rfl (hf.get 27 0 rfl) (hf.get 29 2 rfl) (gi_isSome eN1 rfl (hS4.rf (i := 0) rfl) hx) (getI_nn hx) (getI_ltI hx rfl)) ?_
   refine sQ 32 (Y_loadA (B := B) (i := (i : Int).toNat * 5) (cs := (m.Cells.flatMap eN0)) (vs := kD_ x) k_ag_124 k_sz_124_5 rfl rfl (hS4.rf (i := 0) rfl) (eN1 x) (gi_seg eN1 hx)) ?_
   refine sS 4 (Ys_alloc (T := 124) (cs := kZ_) (m := 5) hS4 k_zero_124 rfl rfl rfl) ?_
   rintro _ w_3 ⟨b1, rfl, hS5⟩
   refine s0 (Ys_store (i := 0) (s := 5) (B := aD b1) (T' := 124) (v := gD_ x) (vs := kD_ x) (k := 0) (cs' := kD_ x) hS5 k_sz_124_5 rfl rfl rfl rfl rfl rfl rfl (lB rfl) rfl rfl) ?_
   rintro _ w_4 ⟨rfl, hS6⟩
   refine rw_nil (cw_seq (cw_region ?_))
   refine sQ 33 (Y_loadA (B := aD b1) (i := 0) (cs := kD_ x) (vs := kD_ x) k_ag_124 k_sz_124_5 rfl rfl (hS6.cf (i := 0) rfl) rfl rfl) ?_
   obtain ⟨r_3, hc2, hb1⟩ := bind_inv hb1
   refine sc 34 rfl rfl (Yc_func (g := 135) (vs := [gD_ x]) k_call_135 rfl (mc rfl mn) (c_spec_l2Good x _  (hS6.inn0 [] rfl) hc2)) ?_
   rintro _ w_5 ⟨rfl, hd1⟩
   have hS7 := hS6.out00 hd1
   refine sQ 35 (Y_not (p := r_3) rfl rfl) (rw_nil ?_)
   refine cw_cond (b := (!r_3)) rfl (fun hb2 => ?_) (fun hb2 => ?_)
   ·skip
    have hF4 := ct hb1 hb2
    refine cw_seq (cw_region ?_)
    refine sQ 2 (Y_assign (v := .bool false) rfl rfl) (rw_nil (cw_ret ?_))
    obtain rfl := some_inj hF4
    obtain rfl := some_inj hL1
    obtain rfl := some_inj hF3
    exact ret1 Try.results75 (v1 := .bool false) (resAt_tmp rfl) ⟨rfl, (hS7.sN [])⟩
   ·skip
    have hF5 := cf' hb1 hb2
    refine cw_skip (cw_region ?_)
    refine sQ 36 (Y_add (k := .i64) (a := (i : Int)) (b := 1) rfl (hf.get 29 2 rfl) rfl) ?_
    refine sQ 29 (Y_move (v := vi (i64.wrap ((i : Int) + 1))) rfl rfl) (rw_nil ?_)
    obtain rfl := some_inj hF5
    exact ⟨k_1, Nat.lt_succ_self _, i + 1, (FF.cons (hf.get 27 0 rfl) (FF.cons (hf.get 28 1 rfl) (FF.cons (congrArg (Value.int .i64) (wr_succ hlt1 hN)) FF.nil))), (hS7.sel [] rfl rfl), (by omega), hL1⟩
  ·skip
   obtain rfl : k_ = 0 := by have h := of_decide_eq_false hlt; omega
   refine cw_exit rfl ?_
   obtain rfl := some_inj hL
   refine cw_seq (cw_region ?_)
   refine sQ 2 (Y_assign (v := .bool true) rfl rfl) (rw_nil (cw_ret ?_))
   obtain rfl := some_inj hF3
   exact ret1 Try.results75 (v1 := .bool true) (resAt_tmp rfl) ⟨rfl, (hS4.sN [])⟩

theorem c_spec_l11Dim (n : Int)  (w0 : World)  (hS : ST w0 [] w0 [] []) {r_ : Bool} (hF : F_spec_l11Dim n = some r_) :
  CV Try.prog 76 #[vi n] w0 (fun v w' => v = .bool r_ ∧ ST w0 [] w' [] []) := by
 unfold F_spec_l11Dim at hF
 refine cv_of_cw 13 Try.func76 rfl Try.ntmps76 rfl ?_
 refine cw_seq (cw_region ?_)
 refine sQ 2 (Y_assign (v := .bool false) rfl rfl) (rw_nil (cw_seq (cw_region ?_)))
 refine sQ 3 (Y_move (v := vi n) rfl rfl) ?_
 refine sQ 4 (Y_eq (k := .i64) (a := n) (b := 2) rfl rfl rfl) ?_
 refine sQ 5 (Y_move (v := .bool (n == 2)) rfl rfl) ?_
 refine sgq 6 (B := (!(n == 2))) (v := vi n) rfl rfl (uF_ 5) (fun hg => (Y_move (v := vi n) rfl rfl)) ?_
 refine sgq 7 (B := (!(n == 2))) (v := .bool (n == 4)) rfl rfl (uF_ 5) (fun hg1 => (Y_eq (k := .i64) (a := n) (b := 4) rfl (gv_of (v := vi n) hg1) rfl)) ?_
 refine sQ 8 (Y_or (b := (n == 2)) (z := (n == 4)) rfl rfl rfl rfl) ?_
 refine sQ 9 (Y_move (v := .bool ((n == 2) || (n == 4))) rfl rfl) ?_
 refine sgq 10 (B := (!((n == 2) || (n == 4)))) (v := vi n) rfl rfl (uF_ 9) (fun hg2 => (Y_move (v := vi n) rfl rfl)) ?_
 refine sgq 11 (B := (!((n == 2) || (n == 4)))) (v := .bool (n == 8)) rfl rfl (uF_ 9) (fun hg3 => (Y_eq (k := .i64) (a := n) (b := 8) rfl (gv_of (v := vi n) hg3) rfl)) ?_
 refine sQ 12 (Y_or (b := ((n == 2) || (n == 4))) (z := (n == 8)) rfl rfl rfl rfl) ?_
 refine sQ 2 (Y_assign (v := .bool (((n == 2) || (n == 4)) || (n == 8))) rfl rfl) (rw_nil (cw_ret ?_))
 obtain rfl := some_inj hF
 exact ret1 Try.results76 (v1 := .bool (((n == 2) || (n == 4)) || (n == 8))) (resAt_tmp rfl) ⟨rfl, (hS.sN [])⟩

theorem c_spec_l2C_ring (c : Tl2C) (x : TRing) (B : Option Addr) (w0 : World)  (hS : ST w0 (bl [⟨B, 127, [.bool c.bad], 1⟩]) w0 [⟨B, 127, [.bool c.bad], 1⟩] []) {r_ : TRing} {m : Tl2C} (hF : F_spec_l2C_ring c x = some (r_, m)) :
  CV Try.prog 196 #[pt B 0, gR_ x] w0 (fun v w' => v = (gR_ r_) ∧ ST w0 (bl [⟨B, 127, [.bool c.bad], 1⟩]) w' [⟨B, 127, [.bool m.bad], 1⟩] []) := by
 unfold F_spec_l2C_ring at hF
 refine cv_of_cw 13 Try.func196 rfl Try.ntmps196 rfl ?_
 refine cw_seq (cw_region ?_)
 refine sS 3 (Ys_box (T := 122) (v := gR_ x) (cs := kR_ x) (m := 4) hS rfl rfl rfl rfl) ?_
 rintro _ w_ ⟨b, rfl, hS1⟩
 refine sS 4 (Ys_alloc (T := 122) (cs := [vi 0, vi 0, vi 0, vi 0]) (m := 4) hS1 k_zero_122 rfl rfl rfl) ?_
 rintro _ w_1 ⟨b1, rfl, hS2⟩
 refine rw_nil (cw_seq (cw_seq (cw_region ?_)))
 refine sQ 5 (Y_loadA (B := aD b) (i := 0) (cs := kR_ x) (vs := kR_ x) k_ag_122 k_sz_122_4 rfl rfl (hS2.cf (i := 1) rfl) rfl rfl) ?_
 obtain ⟨r_1, hc, hF⟩ := bind_inv hF
 refine sc 6 rfl rfl (Yc_func (g := 194) (vs := [gR_ x]) k_call_194 rfl (mc rfl mn) (c_spec_l1Good x _  (hS2.inn0 [] rfl) hc)) ?_
 rintro _ w_2 ⟨rfl, hd⟩
 have hS3 := hS2.out00 hd
 refine sQ 7 (Y_not (p := r_1) rfl rfl) (rw_nil ?_)
 refine cw_cond (b := (!r_1)) rfl (fun hb => ?_) (fun hb => ?_)
 ·skip
  have hF1 := ct hF hb
  refine cw_seq (cw_region ?_)
  refine sQ 8 (Y_move (v := pt B 0) rfl rfl) ?_
  refine sQ 9 (Y_nilCheck (B := B) (i := 0) rfl rfl) ?_
  refine sQ 10 (Y_fieldAddr (B := B) (i := 0) (s := 0) k_fd_127_0_0_4 k_sz_4_1 rfl rfl) ?_
  refine s0 (Ys_store (i := 0) (s := 1) (B := B) (T' := 127) (v := .bool true) (vs := [.bool true]) (k := 0) (cs' := [.bool true]) hS3 k_sz_4_1 rfl rfl rfl rfl rfl rfl rfl (lB rfl) rfl rfl) ?_
  rintro _ w_3 ⟨rfl, hS4⟩
  refine rw_nil (cw_seq (cw_region ?_))
  refine sQ 11 (Y_buildS (zs := [vi 0, vi 0, vi 0, vi 0]) (vs := []) (cs := [vi 0, vi 0, vi 0, vi 0]) k_pl_122 k_zero_122 rfl mpn rfl) ?_
  refine s0 (Ys_store (i := 2) (s := 4) (B := aD b1) (T' := 122) (v := .agg #[vi 0, vi 0, vi 0, vi 0]) (vs := [vi 0, vi 0, vi 0, vi 0]) (k := 0) (cs' := [vi 0, vi 0, vi 0, vi 0]) hS4 k_sz_122_4 rfl rfl rfl rfl rfl rfl rfl (lB rfl) rfl rfl) ?_
  rintro _ w_4 ⟨rfl, hS5⟩
  refine rw_nil (cw_ret ?_)
  obtain ⟨rfl, rfl⟩ := pr2 (some_inj hF1)
  exact ret1 Try.results196 (v1 := .agg #[vi 0, vi 0, vi 0, vi 0]) (resAt_cellA (B := aD b1) (i := 0) (cs := [vi 0, vi 0, vi 0, vi 0]) (vs := [vi 0, vi 0, vi 0, vi 0]) rfl k_ag_122 k_sz_122_4 (hS5.cf (i := 2) rfl) rfl rfl) ⟨rfl, (hS5.sN [0])⟩
 ·skip
  have hF2 := cf' hF hb
  refine cw_skip (cw_seq (cw_region ?_))
  refine sQ 12 (Y_loadA (B := aD b) (i := 0) (cs := kR_ x) (vs := kR_ x) k_ag_122 k_sz_122_4 rfl rfl (hS3.cf (i := 1) rfl) rfl rfl) ?_
  refine s0 (Ys_store (i := 2) (s := 4) (B := aD b1) (T' := 122) (v := gR_ x) (vs := kR_ x) (k := 0) (cs' := kR_ x) hS3 k_sz_122_4 rfl rfl rfl rfl rfl rfl rfl (lB rfl) rfl rfl) ?_
  rintro _ w_5 ⟨rfl, hS6⟩
  refine rw_nil (cw_ret ?_)
  obtain ⟨rfl, rfl⟩ := pr2 (some_inj hF2)
  exact ret1 Try.results196 (v1 := gR_ x) (resAt_cellA (B := aD b1) (i := 0) (cs := kR_ x) (vs := kR_ x) rfl k_ag_122 k_sz_122_4 (hS6.cf (i := 2) rfl) rfl rfl) ⟨rfl, (hS6.sN [0])⟩

theorem c_spec_l1Root (x : TRing)  (w0 : World)  (hS : ST w0 [] w0 [] []) {r_ : TRing} (hF : F_spec_l1Root x = some r_) :
  CV Try.prog 197 #[gR_ x] w0 (fun v w' => v = (gR_ r_) ∧ ST w0 [] w' [] []) := by
 unfold F_spec_l1Root at hF
 refine cv_of_cw 24 Try.func197 rfl Try.ntmps197 rfl ?_
 refine cw_seq (cw_region ?_)
 refine sS 1 (Ys_box (T := 122) (v := gR_ x) (cs := kR_ x) (m := 4) hS rfl rfl rfl rfl) ?_
 rintro _ w_ ⟨b, rfl, hS1⟩
 refine sS 2 (Ys_alloc (T := 122) (cs := [vi 0, vi 0, vi 0, vi 0]) (m := 4) hS1 k_zero_122 rfl rfl rfl) ?_
 rintro _ w_1 ⟨b1, rfl, hS2⟩
 refine rw_nil (cw_seq (cw_region ?_))
 refine sQ 3 (Y_fieldAddr (B := aD b) (i := 0) (s := 0) k_fd_122_1_1_3 k_sz_3_1 rfl rfl) ?_
 refine sQ 4 (Y_load1 (B := aD b) (i := 1) (cs := kR_ x) (v := vi x.B) k_sc_3 rfl rfl (hS2.cf (i := 0) rfl) rfl) ?_
 refine sQ 5 (Y_fieldAddr (B := aD b) (i := 0) (s := 0) k_fd_122_3_3_3 k_sz_3_1 rfl rfl) ?_
 refine sQ 6 (Y_load1 (B := aD b) (i := 3) (cs := kR_ x) (v := vi x.D) k_sc_3 rfl rfl (hS2.cf (i := 0) rfl) rfl) ?_
 refine sQ 7 (Y_sub (k := .i64) (a := x.B) (b := x.D) rfl rfl rfl) ?_
 refine sQ 8 (Y_fieldAddr (B := aD b) (i := 0) (s := 0) k_fd_122_0_0_3 k_sz_3_1 rfl rfl) ?_
 refine sQ 9 (Y_load1 (B := aD b) (i := 0) (cs := kR_ x) (v := vi x.A) k_sc_3 rfl rfl (hS2.cf (i := 0) rfl) rfl) ?_
 refine sQ 10 (Y_fieldAddr (B := aD b) (i := 0) (s := 0) k_fd_122_2_2_3 k_sz_3_1 rfl rfl) ?_
 refine sQ 11 (Y_load1 (B := aD b) (i := 2) (cs := kR_ x) (v := vi x.C) k_sc_3 rfl rfl (hS2.cf (i := 0) rfl) rfl) ?_
 refine sQ 12 (Y_add (k := .i64) (a := x.A) (b := x.C) rfl rfl rfl) ?_
 refine sQ 13 (Y_fieldAddr (B := aD b) (i := 0) (s := 0) k_fd_122_1_1_3 k_sz_3_1 rfl rfl) ?_
 refine sQ 14 (Y_load1 (B := aD b) (i := 1) (cs := kR_ x) (v := vi x.B) k_sc_3 rfl rfl (hS2.cf (i := 0) rfl) rfl) ?_
 refine sQ 15 (Y_fieldAddr (B := aD b) (i := 0) (s := 0) k_fd_122_3_3_3 k_sz_3_1 rfl rfl) ?_
 refine sQ 16 (Y_load1 (B := aD b) (i := 3) (cs := kR_ x) (v := vi x.D) k_sc_3 rfl rfl (hS2.cf (i := 0) rfl) rfl) ?_
 refine sQ 17 (Y_add (k := .i64) (a := x.B) (b := x.D) rfl rfl rfl) ?_
 refine sQ 18 (Y_fieldAddr (B := aD b) (i := 0) (s := 0) k_fd_122_2_2_3 k_sz_3_1 rfl rfl) ?_
 refine sQ 19 (Y_load1 (B := aD b) (i := 2) (cs := kR_ x) (v := vi x.C) k_sc_3 rfl rfl (hS2.cf (i := 0) rfl) rfl) ?_
 refine sQ 20 (Y_fieldAddr (B := aD b) (i := 0) (s := 0) k_fd_122_0_0_3 k_sz_3_1 rfl rfl) ?_
 refine sQ 21 (Y_load1 (B := aD b) (i := 0) (cs := kR_ x) (v := vi x.A) k_sc_3 rfl rfl (hS2.cf (i := 0) rfl) rfl) ?_
 refine sQ 22 (Y_sub (k := .i64) (a := x.C) (b := x.A) rfl rfl rfl) ?_
 refine sQ 23 (Y_buildS (zs := [vi 0, vi 0, vi 0, vi 0]) (vs := [(0, vi (i64.wrap (x.B - x.D))), (1, vi (i64.wrap (x.A + x.C))), (2, vi (i64.wrap (x.B + x.D))), (3, vi (i64.wrap (x.C - x.A)))]) (cs := [vi (i64.wrap (x.B - x.D)), vi (i64.wrap (x.A + x.C)), vi (i64.wrap (x.B + x.D)), vi (i64.wrap (x.C - x.A))]) k_pl_122 k_zero_122 rfl (mpc rfl (mpc rfl (mpc rfl (mpc rfl mpn)))) rfl) ?_
 refine s0 (Ys_store (i := 1) (s := 4) (B := aD b1) (T' := 122) (v := .agg #[vi (i64.wrap (x.B - x.D)), vi (i64.wrap (x.A + x.C)), vi (i64.wrap (x.B + x.D)), vi (i64.wrap (x.C - x.A))]) (vs := [vi (i64.wrap (x.B - x.D)), vi (i64.wrap (x.A + x.C)), vi (i64.wrap (x.B + x.D)), vi (i64.wrap (x.C - x.A))]) (k := 0) (cs' := [vi (i64.wrap (x.B - x.D)), vi (i64.wrap (x.A + x.C)), vi (i64.wrap (x.B + x.D)), vi (i64.wrap (x.C - x.A))]) hS2 k_sz_122_4 rfl rfl rfl rfl rfl rfl rfl (lB rfl) rfl rfl) ?_
 rintro _ w_2 ⟨rfl, hS3⟩
 refine rw_nil (cw_ret ?_)
 obtain rfl := some_inj hF
 exact ret1 Try.results197 (v1 := .agg #[vi (i64.wrap (x.B - x.D)), vi (i64.wrap (x.A + x.C)), vi (i64.wrap (x.B + x.D)), vi (i64.wrap (x.C - x.A))]) (resAt_cellA (B := aD b1) (i := 0) (cs := [vi (i64.wrap (x.B - x.D)), vi (i64.wrap (x.A + x.C)), vi (i64.wrap (x.B + x.D)), vi (i64.wrap (x.C - x.A))]) (vs := [vi (i64.wrap (x.B - x.D)), vi (i64.wrap (x.A + x.C)), vi (i64.wrap (x.B + x.D)), vi (i64.wrap (x.C - x.A))]) rfl k_ag_122 k_sz_122_4 (hS3.cf (i := 1) rfl) rfl rfl) ⟨rfl, (hS3.sN [])⟩

theorem c_spec_l1Half (x : TRing)  (w0 : World)  (hS : ST w0 [] w0 [] []) {r_ : TRing} (hF : F_spec_l1Half x = some r_) :
  CV Try.prog 234 #[gR_ x] w0 (fun v w' => v = (gR_ r_) ∧ ST w0 [] w' [] []) := by
 unfold F_spec_l1Half at hF
 refine cv_of_cw 19 Try.func234 rfl Try.ntmps234 rfl ?_
 refine cw_seq (cw_region ?_)
 refine sS 1 (Ys_box (T := 122) (v := gR_ x) (cs := kR_ x) (m := 4) hS rfl rfl rfl rfl) ?_
 rintro _ w_ ⟨b, rfl, hS1⟩
 refine sS 2 (Ys_alloc (T := 122) (cs := [vi 0, vi 0, vi 0, vi 0]) (m := 4) hS1 k_zero_122 rfl rfl rfl) ?_
 rintro _ w_1 ⟨b1, rfl, hS2⟩
 refine rw_nil (cw_seq (cw_region ?_))
 refine sQ 4 (Y_loadA (B := aD b) (i := 0) (cs := kR_ x) (vs := kR_ x) k_ag_122 k_sz_122_4 rfl rfl (hS2.cf (i := 0) rfl) rfl rfl) ?_
 obtain ⟨r_1, hc, hF⟩ := bind_inv hF
 refine sc 5 rfl rfl (Yc_func (g := 197) (vs := [gR_ x]) k_call_197 rfl (mc rfl mn) (c_spec_l1Root x _  (hS2.inn0 [] rfl) hc)) ?_
 rintro _ w_2 ⟨rfl, hd⟩
 have hS3 := hS2.out00 hd
 refine sS 3 (Ys_alloc (T := 122) (cs := [vi 0, vi 0, vi 0, vi 0]) (m := 4) hS3 k_zero_122 rfl rfl rfl) ?_
 rintro _ w_3 ⟨b2, rfl, hS4⟩
 refine s0 (Ys_store (i := 2) (s := 4) (B := aD b2) (T' := 122) (v := gR_ r_1) (vs := kR_ r_1) (k := 0) (cs' := kR_ r_1) hS4 k_sz_122_4 rfl rfl rfl rfl rfl rfl rfl (lB rfl) rfl rfl) ?_
 rintro _ w_4 ⟨rfl, hS5⟩
 refine rw_nil (cw_seq (cw_region ?_))
 refine sQ 6 (Y_fieldAddr (B := aD b2) (i := 0) (s := 0) k_fd_122_0_0_3 k_sz_3_1 rfl rfl) ?_
 refine sQ 7 (Y_load1 (B := aD b2) (i := 0) (cs := kR_ r_1) (v := vi r_1.A) k_sc_3 rfl rfl (hS5.cf (i := 2) rfl) rfl) ?_
 refine sQ 8 (Y_quo (k := .i64) (a := r_1.A) (b := 2) rfl rfl rfl (by decide)) ?_
 refine sQ 9 (Y_fieldAddr (B := aD b2) (i := 0) (s := 0) k_fd_122_1_1_3 k_sz_3_1 rfl rfl) ?_
 refine sQ 10 (Y_load1 (B := aD b2) (i := 1) (cs := kR_ r_1) (v := vi r_1.B) k_sc_3 rfl rfl (hS5.cf (i := 2) rfl) rfl) ?_
 refine sQ 11 (Y_quo (k := .i64) (a := r_1.B) (b := 2) rfl rfl rfl (by decide)) ?_
 refine sQ 12 (Y_fieldAddr (B := aD b2) (i := 0) (s := 0) k_fd_122_2_2_3 k_sz_3_1 rfl rfl) ?_
 refine sQ 13 (Y_load1 (B := aD b2) (i := 2) (cs := kR_ r_1) (v := vi r_1.C) k_sc_3 rfl rfl (hS5.cf (i := 2) rfl) rfl) ?_
 refine sQ 14 (Y_quo (k := .i64) (a := r_1.C) (b := 2) rfl rfl rfl (by decide)) ?_
 refine sQ 15 (Y_fieldAddr (B := aD b2) (i := 0) (s := 0) k_fd_122_3_3_3 k_sz_3_1 rfl rfl) ?_
 refine sQ 16 (Y_load1 (B := aD b2) (i := 3) (cs := kR_ r_1) (v := vi r_1.D) k_sc_3 rfl rfl (hS5.cf (i := 2) rfl) rfl) ?_
 refine sQ 17 (Y_quo (k := .i64) (a := r_1.D) (b := 2) rfl rfl rfl (by decide)) ?_
 refine sQ 18 (Y_buildS (zs := [vi 0, vi 0, vi 0, vi 0]) (vs := [(0, vi (i64.wrap (Int.tdiv r_1.A 2))), (1, vi (i64.wrap (Int.tdiv r_1.B 2))), (2, vi (i64.wrap (Int.tdiv r_1.C 2))), (3, vi (i64.wrap (Int.tdiv r_1.D 2)))]) (cs := [vi (i64.wrap (Int.tdiv r_1.A 2)), vi (i64.wrap (Int.tdiv r_1.B 2)), vi (i64.wrap (Int.tdiv r_1.C 2)), vi (i64.wrap (Int.tdiv r_1.D 2))]) k_pl_122 k_zero_122 rfl (mpc rfl (mpc rfl (mpc rfl (mpc rfl mpn)))) rfl) ?_
 refine s0 (Ys_store (i := 1) (s := 4) (B := aD b1) (T' := 122) (v := .agg #[vi (i64.wrap (Int.tdiv r_1.A 2)), vi (i64.wrap (Int.tdiv r_1.B 2)), vi (i64.wrap (Int.tdiv r_1.C 2)), vi (i64.wrap (Int.tdiv r_1.D 2))]) (vs := [vi (i64.wrap (Int.tdiv r_1.A 2)), vi (i64.wrap (Int.tdiv r_1.B 2)), vi (i64.wrap (Int.tdiv r_1.C 2)), vi (i64.wrap (Int.tdiv r_1.D 2))]) (k := 0) (cs' := [vi (i64.wrap (Int.tdiv r_1.A 2)), vi (i64.wrap (Int.tdiv r_1.B 2)), vi (i64.wrap (Int.tdiv r_1.C 2)), vi (i64.wrap (Int.tdiv r_1.D 2))]) hS5 k_sz_122_4 rfl rfl rfl rfl rfl rfl rfl (lB rfl) rfl rfl) ?_
 rintro _ w_5 ⟨rfl, hS6⟩
 refine rw_nil (cw_ret ?_)
 obtain rfl := some_inj hF
 exact ret1 Try.results234 (v1 := .agg #[vi (i64.wrap (Int.tdiv r_1.A 2)), vi (i64.wrap (Int.tdiv r_1.B 2)), vi (i64.wrap (Int.tdiv r_1.C 2)), vi (i64.wrap (Int.tdiv r_1.D 2))]) (resAt_cellA (B := aD b1) (i := 0) (cs := [vi (i64.wrap (Int.tdiv r_1.A 2)), vi (i64.wrap (Int.tdiv r_1.B 2)), vi (i64.wrap (Int.tdiv r_1.C 2)), vi (i64.wrap (Int.tdiv r_1.D 2))]) (vs := [vi (i64.wrap (Int.tdiv r_1.A 2)), vi (i64.wrap (Int.tdiv r_1.B 2)), vi (i64.wrap (Int.tdiv r_1.C 2)), vi (i64.wrap (Int.tdiv r_1.D 2))]) rfl k_ag_122 k_sz_122_4 (hS6.cf (i := 1) rfl) rfl rfl) ⟨rfl, (hS6.sN [])⟩

theorem c_spec_l2Low (num : TRing) (exp : Int)  (w0 : World)  (hS : ST w0 [] w0 [] []) {r_ : TDyadic} (hF : F_spec_l2Low num exp = some r_) :
  CV Try.prog 198 #[gR_ num, vi exp] w0 (fun v w' => v = (gD_ r_) ∧ ST w0 [] w' [] []) := by
 unfold F_spec_l2Low at hF
 refine cv_of_cw 18 Try.func198 rfl Try.ntmps198 rfl ?_
 refine cw_seq (cw_region ?_)
 refine sS 2 (Ys_box (T := 122) (v := gR_ num) (cs := kR_ num) (m := 4) hS rfl rfl rfl rfl) ?_
 rintro _ w_ ⟨b, rfl, hS1⟩
 refine sS 4 (Ys_alloc (T := 124) (cs := kZ_) (m := 5) hS1 k_zero_124 rfl rfl rfl) ?_
 rintro _ w_1 ⟨b1, rfl, hS2⟩
 refine rw_nil (cw_seq ?_)
 obtain ⟨z, hz, hF1⟩ := bind_inv hF
 refine cw_block ?_
 refine cw_loop (fun k f w => ∃ (exp1 : Int) (A : Int) (B : Int) (C : Int) (D : Int), FF f [(1, vi exp1), (2, pt (aD b) 0), (4, pt (aD b1) 0)] ∧ ST w0 [] w [⟨aD b, 122, [vi A, vi B, vi C, vi D], 4⟩, ⟨aD b1, 124, kZ_, 5⟩] [] ∧ whX F_spec_l2Low_l1 k (exp1, A, B, C, D) = some z) fuel ⟨exp, num.A, num.B, num.C, num.D, (FF.cons rfl (FF.cons rfl (FF.cons rfl FF.nil))), (hS2.sel [0, 1] rfl rfl), hz⟩ ?_
 rintro k_ f w ⟨exp1, A, B, C, D, hf, hS3, hL⟩
 obtain ⟨k_1, y, rfl, hb, hL1⟩ := whX_go hL
 unfold F_spec_l2Low_l1 at hb
 refine cw_seq (cw_seq (cw_region ?_))
 refine sQ 5 (Y_move (v := vi exp1) rfl (hf.get 1 0 rfl)) ?_
 refine sQ 6 (Y_gt (k := .i64) (a := exp1) (b := 0) rfl rfl rfl) ?_
 refine sQ 7 (Y_move (v := .bool (decide (0 < exp1))) rfl rfl) ?_
 refine sgq 8 (B := (decide (0 < exp1))) (v := .agg #[vi A, vi B, vi C, vi D]) rfl rfl (uT_ 7) (fun hg => (Y_loadA (B := aD b) (i := 0) (cs := [vi A, vi B, vi C, vi D]) (vs := [vi A, vi B, vi C, vi D]) k_ag_122 k_sz_122_4 rfl (hf.get 2 1 rfl) (hS3.cf (i := 0) rfl) rfl rfl)) ?_
 obtain ⟨r_1, hc, hb⟩ := bind_inv hb
 refine sgc 9 (B := (decide (0 < exp1))) (v := .bool r_1) (F := hS3.fn) rfl rfl (uT_ 7) hS3 (fun hg1 => (Yc_func (g := 195) (vs := [.agg #[vi A, vi B, vi C, vi D]]) k_call_195 rfl (mc (gv_of (v := .agg #[vi A, vi B, vi C, vi D]) hg1) mn) (CV.mono (c_spec_l1Even (TRing.mk A B C D) _  (hS3.inn0 [] rfl) (gb_inv hc hg1)) (by rintro _ _ ⟨rfl, h⟩; exact ⟨rfl, hS3.out00 h⟩)))) ?_
 rintro w_2 hS4
 refine sQ 10 (Y_and (b := (decide (0 < exp1))) (z := r_1) rfl rfl rfl rfl) (rw_nil ?_)
 refine cw_cond (b := ((decide (0 < exp1)) && r_1)) rfl (fun hb1 => ?_) (fun hb1 => ?_)
 ·skip
  have hF2 := ct hb hb1
  refine cw_skip (cw_block (cw_seq (cw_region ?_)))
  refine sQ 11 (Y_loadA (B := aD b) (i := 0) (cs := [vi A, vi B, vi C, vi D]) (vs := [vi A, vi B, vi C, vi D]) k_ag_122 k_sz_122_4 rfl (hf.get 2 1 rfl) (hS4.cf (i := 0) rfl) rfl rfl) ?_
  obtain ⟨r_2, hc1, hF2⟩ := bind_inv hF2
  refine sc 12 rfl rfl (Yc_func (g := 234) (vs := [.agg #[vi A, vi B, vi C, vi D]]) k_call_234 rfl (mc rfl mn) (c_spec_l1Half (TRing.mk A B C D) _  (hS4.inn0 [] rfl) hc1)) ?_
  rintro _ w_3 ⟨rfl, hd⟩
  have hS5 := hS4.out00 hd
  refine s0 (Ys_store (i := 0) (s := 4) (B := aD b) (T' := 122) (v := gR_ r_2) (vs := kR_ r_2) (k := 0) (cs' := kR_ r_2) hS5 k_sz_122_4 rfl (hf.get 2 1 rfl) rfl rfl rfl rfl rfl (lB rfl) rfl rfl) ?_
  rintro _ w_4 ⟨rfl, hS6⟩
  refine rw_nil (cw_region ?_)
  refine sQ 13 (Y_move (v := vi exp1) rfl (hf.get 1 0 rfl)) ?_
  refine sQ 14 (Y_sub (k := .i64) (a := exp1) (b := 1) rfl rfl rfl) ?_
  refine sQ 1 (Y_assign (v := vi (i64.wrap (exp1 - 1))) rfl rfl) (rw_nil ?_)
  obtain rfl := some_inj hF2
  exact ⟨k_1, Nat.lt_succ_self _, (i64.wrap (exp1 - 1)), r_2.A, r_2.B, r_2.C, r_2.D, (FF.cons rfl (FF.cons (hf.get 2 1 rfl) (FF.cons (hf.get 4 2 rfl) FF.nil))), (hS6.sel [0, 1] rfl rfl), hL1⟩
 ·skip
  have hF3 := cf' hb hb1
  refine cw_exit rfl ?_
  obtain rfl := some_inj hF3
  obtain rfl := some_inj hL1
  refine cw_seq (cw_region ?_)
  refine sQ 15 (Y_loadA (B := aD b) (i := 0) (cs := [vi A, vi B, vi C, vi D]) (vs := [vi A, vi B, vi C, vi D]) k_ag_122 k_sz_122_4 rfl (hf.get 2 1 rfl) (hS4.cf (i := 0) rfl) rfl rfl) ?_
  refine sQ 16 (Y_move (v := vi exp1) rfl (hf.get 1 0 rfl)) ?_
  refine sQ 17 (Y_buildS (zs := kZ_) (vs := [(0, .agg #[vi A, vi B, vi C, vi D]), (1, vi exp1)]) (cs := [vi A, vi B, vi C, vi D, vi exp1]) k_pl_124 k_zero_124 rfl (mpc rfl (mpc rfl mpn)) rfl) ?_
  refine s0 (Ys_store (i := 1) (s := 5) (B := aD b1) (T' := 124) (v := .agg #[vi A, vi B, vi C, vi D, vi exp1]) (vs := [vi A, vi B, vi C, vi D, vi exp1]) (k := 0) (cs' := [vi A, vi B, vi C, vi D, vi exp1]) hS4 k_sz_124_5 rfl (hf.get 4 2 rfl) rfl rfl rfl rfl rfl (lB rfl) rfl rfl) ?_
  rintro _ w_5 ⟨rfl, hS7⟩
  refine rw_nil (cw_ret ?_)
  obtain rfl := some_inj hF1
  exact ret1 Try.results198 (v1 := .agg #[vi A, vi B, vi C, vi D, vi exp1]) (resAt_cellA (B := aD b1) (i := 0) (cs := [vi A, vi B, vi C, vi D, vi exp1]) (vs := [vi A, vi B, vi C, vi D, vi exp1]) (hf.get 4 2 rfl) k_ag_124 k_sz_124_5 (hS7.cf (i := 1) rfl) rfl rfl) ⟨rfl, (hS7.sN [])⟩

theorem c_spec_l1Add (x : TRing) (y : TRing)  (w0 : World)  (hS : ST w0 [] w0 [] []) {r_ : TRing} (hF : F_spec_l1Add x y = some r_) :
  CV Try.prog 199 #[gR_ x, gR_ y] w0 (fun v w' => v = (gR_ r_) ∧ ST w0 [] w' [] []) := by
 unfold F_spec_l1Add at hF
 refine cv_of_cw 26 Try.func199 rfl Try.ntmps199 rfl ?_
 refine cw_seq (cw_region ?_)
 refine sS 2 (Ys_box (T := 122) (v := gR_ x) (cs := kR_ x) (m := 4) hS rfl rfl rfl rfl) ?_
 rintro _ w_ ⟨b, rfl, hS1⟩
 refine sS 3 (Ys_box (T := 122) (v := gR_ y) (cs := kR_ y) (m := 4) hS1 rfl rfl rfl rfl) ?_
 rintro _ w_1 ⟨b1, rfl, hS2⟩
 refine sS 4 (Ys_alloc (T := 122) (cs := [vi 0, vi 0, vi 0, vi 0]) (m := 4) hS2 k_zero_122 rfl rfl rfl) ?_
 rintro _ w_2 ⟨b2, rfl, hS3⟩
 refine rw_nil (cw_seq (cw_region ?_))
 refine sQ 5 (Y_fieldAddr (B := aD b) (i := 0) (s := 0) k_fd_122_0_0_3 k_sz_3_1 rfl rfl) ?_
 refine sQ 6 (Y_load1 (B := aD b) (i := 0) (cs := kR_ x) (v := vi x.A) k_sc_3 rfl rfl (hS3.cf (i := 0) rfl) rfl) ?_
 refine sQ 7 (Y_fieldAddr (B := aD b1) (i := 0) (s := 0) k_fd_122_0_0_3 k_sz_3_1 rfl rfl) ?_
 refine sQ 8 (Y_load1 (B := aD b1) (i := 0) (cs := kR_ y) (v := vi y.A) k_sc_3 rfl rfl (hS3.cf (i := 1) rfl) rfl) ?_
 refine sQ 9 (Y_add (k := .i64) (a := x.A) (b := y.A) rfl rfl rfl) ?_
 refine sQ 10 (Y_fieldAddr (B := aD b) (i := 0) (s := 0) k_fd_122_1_1_3 k_sz_3_1 rfl rfl) ?_
 refine sQ 11 (Y_load1 (B := aD b) (i := 1) (cs := kR_ x) (v := vi x.B) k_sc_3 rfl rfl (hS3.cf (i := 0) rfl) rfl) ?_
 refine sQ 12 (Y_fieldAddr (B := aD b1) (i := 0) (s := 0) k_fd_122_1_1_3 k_sz_3_1 rfl rfl) ?_
 refine sQ 13 (Y_load1 (B := aD b1) (i := 1) (cs := kR_ y) (v := vi y.B) k_sc_3 rfl rfl (hS3.cf (i := 1) rfl) rfl) ?_
 refine sQ 14 (Y_add (k := .i64) (a := x.B) (b := y.B) rfl rfl rfl) ?_
 refine sQ 15 (Y_fieldAddr (B := aD b) (i := 0) (s := 0) k_fd_122_2_2_3 k_sz_3_1 rfl rfl) ?_
 refine sQ 16 (Y_load1 (B := aD b) (i := 2) (cs := kR_ x) (v := vi x.C) k_sc_3 rfl rfl (hS3.cf (i := 0) rfl) rfl) ?_
 refine sQ 17 (Y_fieldAddr (B := aD b1) (i := 0) (s := 0) k_fd_122_2_2_3 k_sz_3_1 rfl rfl) ?_
 refine sQ 18 (Y_load1 (B := aD b1) (i := 2) (cs := kR_ y) (v := vi y.C) k_sc_3 rfl rfl (hS3.cf (i := 1) rfl) rfl) ?_
 refine sQ 19 (Y_add (k := .i64) (a := x.C) (b := y.C) rfl rfl rfl) ?_
 refine sQ 20 (Y_fieldAddr (B := aD b) (i := 0) (s := 0) k_fd_122_3_3_3 k_sz_3_1 rfl rfl) ?_
 refine sQ 21 (Y_load1 (B := aD b) (i := 3) (cs := kR_ x) (v := vi x.D) k_sc_3 rfl rfl (hS3.cf (i := 0) rfl) rfl) ?_
 refine sQ 22 (Y_fieldAddr (B := aD b1) (i := 0) (s := 0) k_fd_122_3_3_3 k_sz_3_1 rfl rfl) ?_
 refine sQ 23 (Y_load1 (B := aD b1) (i := 3) (cs := kR_ y) (v := vi y.D) k_sc_3 rfl rfl (hS3.cf (i := 1) rfl) rfl) ?_
 refine sQ 24 (Y_add (k := .i64) (a := x.D) (b := y.D) rfl rfl rfl) ?_
 refine sQ 25 (Y_buildS (zs := [vi 0, vi 0, vi 0, vi 0]) (vs := [(0, vi (i64.wrap (x.A + y.A))), (1, vi (i64.wrap (x.B + y.B))), (2, vi (i64.wrap (x.C + y.C))), (3, vi (i64.wrap (x.D + y.D)))]) (cs := [vi (i64.wrap (x.A + y.A)), vi (i64.wrap (x.B + y.B)), vi (i64.wrap (x.C + y.C)), vi (i64.wrap (x.D + y.D))]) k_pl_122 k_zero_122 rfl (mpc rfl (mpc rfl (mpc rfl (mpc rfl mpn)))) rfl) ?_
 refine s0 (Ys_store (i := 2) (s := 4) (B := aD b2) (T' := 122) (v := .agg #[vi (i64.wrap (x.A + y.A)), vi (i64.wrap (x.B + y.B)), vi (i64.wrap (x.C + y.C)), vi (i64.wrap (x.D + y.D))]) (vs := [vi (i64.wrap (x.A + y.A)), vi (i64.wrap (x.B + y.B)), vi (i64.wrap (x.C + y.C)), vi (i64.wrap (x.D + y.D))]) (k := 0) (cs' := [vi (i64.wrap (x.A + y.A)), vi (i64.wrap (x.B + y.B)), vi (i64.wrap (x.C + y.C)), vi (i64.wrap (x.D + y.D))]) hS3 k_sz_122_4 rfl rfl rfl rfl rfl rfl rfl (lB rfl) rfl rfl) ?_
 rintro _ w_3 ⟨rfl, hS4⟩
 refine rw_nil (cw_ret ?_)
 obtain rfl := some_inj hF
 exact ret1 Try.results199 (v1 := .agg #[vi (i64.wrap (x.A + y.A)), vi (i64.wrap (x.B + y.B)), vi (i64.wrap (x.C + y.C)), vi (i64.wrap (x.D + y.D))]) (resAt_cellA (B := aD b2) (i := 0) (cs := [vi (i64.wrap (x.A + y.A)), vi (i64.wrap (x.B + y.B)), vi (i64.wrap (x.C + y.C)), vi (i64.wrap (x.D + y.D))]) (vs := [vi (i64.wrap (x.A + y.A)), vi (i64.wrap (x.B + y.B)), vi (i64.wrap (x.C + y.C)), vi (i64.wrap (x.D + y.D))]) rfl k_ag_122 k_sz_122_4 (hS4.cf (i := 2) rfl) rfl rfl) ⟨rfl, (hS4.sN [])⟩

theorem c_spec_l2C_add (c : Tl2C) (x : TDyadic) (y : TDyadic) (B : Option Addr) (w0 : World)  (hS : ST w0 (bl [⟨B, 127, [.bool c.bad], 1⟩]) w0 [⟨B, 127, [.bool c.bad], 1⟩] []) {r_ : TDyadic} {m : Tl2C} (hF : F_spec_l2C_add c x y = some (r_, m)) :
  CV Try.prog 136 #[pt B 0, gD_ x, gD_ y] w0 (fun v w' => v = (gD_ r_) ∧ ST w0 (bl [⟨B, 127, [.bool c.bad], 1⟩]) w' [⟨B, 127, [.bool m.bad], 1⟩] []) := by
 unfold F_spec_l2C_add at hF
 refine cv_of_cw 45 Try.func136 rfl Try.ntmps136 rfl ?_
 refine cw_seq (cw_region ?_)
 refine sS 4 (Ys_box (T := 124) (v := gD_ x) (cs := kD_ x) (m := 5) hS rfl rfl rfl rfl) ?_
 rintro _ w_ ⟨b, rfl, hS1⟩
 refine sS 5 (Ys_box (T := 124) (v := gD_ y) (cs := kD_ y) (m := 5) hS1 rfl rfl rfl rfl) ?_
 rintro _ w_1 ⟨b1, rfl, hS2⟩
 refine sS 6 (Ys_alloc (T := 124) (cs := kZ_) (m := 5) hS2 k_zero_124 rfl rfl rfl) ?_
 rintro _ w_2 ⟨b2, rfl, hS3⟩
 refine rw_nil (cw_seq ?_)
 obtain ⟨z, hz, hF1⟩ := bind_inv hF
 refine cw_block ?_
 refine cw_loop (fun k f w => ∃ (bad : Bool) (A : Int) (B1 : Int) (C : Int) (D : Int) (Exp : Int), FF f [(0, pt B 0), (4, pt (aD b) 0), (5, pt (aD b1) 0), (6, pt (aD b2) 0)] ∧ ST w0 (bl [⟨B, 127, [.bool c.bad], 1⟩]) w [⟨B, 127, [.bool bad], 1⟩, ⟨aD b, 124, [vi A, vi B1, vi C, vi D, vi Exp], 5⟩, ⟨aD b1, 124, kD_ y, 5⟩, ⟨aD b2, 124, kZ_, 5⟩] [] ∧ whX (F_spec_l2C_add_l1 y) k (bad, A, B1, C, D, Exp) = some z) fuel ⟨c.bad, x.Num.A, x.Num.B, x.Num.C, x.Num.D, x.Exp, (FF.cons rfl (FF.cons rfl (FF.cons rfl (FF.cons rfl FF.nil)))), (hS3.sel [0, 1, 2, 3] rfl rfl), hz⟩ ?_
 rintro k_ f w ⟨bad, A, B1, C, D, Exp, hf, hS4, hL⟩
 obtain ⟨k_1, y1, rfl, hb, hL1⟩ := whX_go hL
 unfold F_spec_l2C_add_l1 at hb
 refine cw_seq (cw_seq (cw_region ?_))
 refine sQ 7 (Y_fieldAddr (B := aD b) (i := 0) (s := 0) k_fd_124_1_4_3 k_sz_3_1 rfl (hf.get 4 1 rfl)) ?_
 refine sQ 8 (Y_load1 (B := aD b) (i := 4) (cs := [vi A, vi B1, vi C, vi D, vi Exp]) (v := vi Exp) k_sc_3 rfl rfl (hS4.cf (i := 1) rfl) rfl) ?_
 refine sQ 9 (Y_fieldAddr (B := aD b1) (i := 0) (s := 0) k_fd_124_1_4_3 k_sz_3_1 rfl (hf.get 5 2 rfl)) ?_
 refine sQ 10 (Y_load1 (B := aD b1) (i := 4) (cs := kD_ y) (v := vi y.Exp) k_sc_3 rfl rfl (hS4.cf (i := 2) rfl) rfl) ?_
 refine sQ 11 (Y_lt (k := .i64) (a := Exp) (b := y.Exp) rfl rfl rfl) (rw_nil ?_)
 refine cw_cond (b := (decide (Exp < y.Exp))) rfl (fun hb1 => ?_) (fun hb1 => ?_)
 ·skip
  have hF2 := ct hb hb1
  refine cw_skip (cw_block ?_)
  obtain ⟨r_1, hc, hF2⟩ := bind_inv hF2
  obtain ⟨⟨r_2, m1⟩, hc1, hF2⟩ := bind_inv hF2
  refine cw_mid (fun f w => FF f [(0, pt B 0), (4, pt (aD b) 0), (5, pt (aD b1) 0), (6, pt (aD b2) 0)] ∧ ST w0 (bl [⟨B, 127, [.bool c.bad], 1⟩]) w [⟨B, 127, [.bool m1.bad], 1⟩, ⟨aD b, 124, [vi r_2.A, vi r_2.B, vi r_2.C, vi r_2.D, vi (i64.wrap (Exp + 1))], 5⟩, ⟨aD b1, 124, kD_ y, 5⟩, ⟨aD b2, 124, kZ_, 5⟩] []) ?_ ?_
  ·skip
   refine ra_start (hS4.se [2, 3]).fn (by kernel_rfl) ?_
   have hS8 := hS4.drew
   refine rq 0 12 (v := pt B 0) rfl (hS8.se [2, 3]) (fun w' hw' => (Y_move (v := pt B 0) rfl (hf.get 0 0 rfl))) ?_
   refine rq 1 13 (v := pt (aD b) 0) rfl (hS8.se [2, 3]) (fun w' hw' => (Y_fieldAddr (B := aD b) (i := 0) (s := 3) k_fd_124_0_0_122 k_sz_122_4 rfl (hf.get 4 1 rfl))) ?_
   refine rq 5 17 (v := pt (aD b) 4) rfl (hS8.se [2, 3]) (fun w' hw' => (Y_fieldAddr (B := aD b) (i := 0) (s := 0) k_fd_124_1_4_3 k_sz_3_1 rfl (hf.get 4 1 rfl))) ?_
   refine rA [2, 6] ?_
   refine ra_y 14 (i := 2) (v := .agg #[vi A, vi B1, vi C, vi D]) rfl rfl rfl (Y_loadA (B := aD b) (i := 0) (cs := [vi A, vi B1, vi C, vi D, vi Exp]) (vs := [vi A, vi B1, vi C, vi D]) k_ag_122 k_sz_122_4 rfl rfl (hS8.cf (i := 1) rfl) rfl rfl) (hS8.se [2, 3]) ?_ ?_
   ·skip
    refine rA [3, 6] ?_
    refine ra_c 15 (i := 3) rfl rfl rfl (Yc_func (g := 197) (vs := [.agg #[vi A, vi B1, vi C, vi D]]) k_call_197 rfl (mc rfl mn) (c_spec_l1Root (TRing.mk A B1 C D) _  (hS8.inn0 [] rfl) hc)) ?_ ?_
    ·rintro _ w_3 ⟨rfl, hd⟩
     have hS9 := hS8.out00 hd
     refine ⟨(hS9.se [2, 3]), ?_⟩
     refine rA [4, 6] ?_
     refine ra_c 16 (i := 4) rfl rfl rfl (Yc_func (g := 196) (vs := [pt B 0, gR_ r_1]) k_call_196 rfl (mc rfl (mc rfl mn)) (c_spec_l2C_ring (Tl2C.mk bad) r_1 B _  (hS9.inn [true, false, false, false] rfl [] rfl) hc1)) ?_ ?_
     ·rintro _ w_4 ⟨rfl, hd1⟩
      have hS10 := hS9.out [true, false, false, false] rfl hd1
      refine ⟨(hS10.se [1, 2]), ?_⟩
      refine rA [6] ?_
      refine ra_y 18 (i := 6) (v := vi Exp) rfl rfl rfl (Y_load1 (B := aD b) (i := 4) (cs := [vi A, vi B1, vi C, vi D, vi Exp]) (v := vi Exp) k_sc_3 rfl rfl (hS10.cf (i := 0) rfl) rfl) (hS10.se [1, 2]) ?_ ?_
      ·skip
       refine rq 7 19 (v := vi (i64.wrap (Exp + 1))) rfl (hS10.se [1, 2]) (fun w' hw' => (Y_add (k := .i64) (a := Exp) (b := 1) rfl rfl rfl)) ?_
       refine rq 8 20 (v := .agg #[vi r_2.A, vi r_2.B, vi r_2.C, vi r_2.D, vi (i64.wrap (Exp + 1))]) rfl (hS10.se [1, 2]) (fun w' hw' => (Y_buildS (zs := kZ_) (vs := [(0, gR_ r_2), (1, vi (i64.wrap (Exp + 1)))]) (cs := [vi r_2.A, vi r_2.B, vi r_2.C, vi r_2.D, vi (i64.wrap (Exp + 1))]) k_pl_124 k_zero_124 rfl (mpc rfl (mpc rfl mpn)) rfl)) ?_
       refine rA [9] ?_
       refine ra_s0 (i := 9) rfl rfl rfl (Ys_store (i := 0) (s := 5) (B := aD b) (T' := 124) (v := .agg #[vi r_2.A, vi r_2.B, vi r_2.C, vi r_2.D, vi (i64.wrap (Exp + 1))]) (vs := [vi r_2.A, vi r_2.B, vi r_2.C, vi r_2.D, vi (i64.wrap (Exp + 1))]) (k := 0) (cs' := [vi r_2.A, vi r_2.B, vi r_2.C, vi r_2.D, vi (i64.wrap (Exp + 1))]) hS10 k_sz_124_5 rfl (hf.get 4 1 rfl) rfl rfl rfl rfl rfl (lB rfl) rfl rfl) ?_ ?_
       ·rintro _ w_5 ⟨rfl, hS11⟩
        refine ⟨(hS11.se [1, 2]), ?_⟩
        refine ra_done (by kernel_rfl) ?_
        exact ⟨(FF.cons (hf.get 0 0 rfl) (FF.cons (hf.get 4 1 rfl) (FF.cons (hf.get 5 2 rfl) (FF.cons (hf.get 6 3 rfl) FF.nil)))), (hS11.sel [3, 0, 1, 2] rfl rfl)⟩
       exact allR_nil
      exact allR_nil
     refine ra_y 18 (i := 6) (v := vi Exp) rfl rfl rfl (Y_load1 (B := aD b) (i := 4) (cs := [vi A, vi B1, vi C, vi D, vi Exp]) (v := vi Exp) k_sc_3 rfl rfl (hS9.cf (i := 1) rfl) rfl) (hS9.se [2, 3]) ?_ ?_
     ·skip
      refine rq 7 19 (v := vi (i64.wrap (Exp + 1))) rfl (hS9.se [2, 3]) (fun w' hw' => (Y_add (k := .i64) (a := Exp) (b := 1) rfl rfl rfl)) ?_
      refine rA [4] ?_
      refine ra_c 16 (i := 4) rfl rfl rfl (Yc_func (g := 196) (vs := [pt B 0, gR_ r_1]) k_call_196 rfl (mc rfl (mc rfl mn)) (c_spec_l2C_ring (Tl2C.mk bad) r_1 B _  (hS9.inn [true, false, false, false] rfl [] rfl) hc1)) ?_ ?_
      ·rintro _ w_6 ⟨rfl, hd2⟩
       have hS12 := hS9.out [true, false, false, false] rfl hd2
       refine ⟨(hS12.se [1, 2]), ?_⟩
       refine rq 8 20 (v := .agg #[vi r_2.A, vi r_2.B, vi r_2.C, vi r_2.D, vi (i64.wrap (Exp + 1))]) rfl (hS12.se [1, 2]) (fun w' hw' => (Y_buildS (zs := kZ_) (vs := [(0, gR_ r_2), (1, vi (i64.wrap (Exp + 1)))]) (cs := [vi r_2.A, vi r_2.B, vi r_2.C, vi r_2.D, vi (i64.wrap (Exp + 1))]) k_pl_124 k_zero_124 rfl (mpc rfl (mpc rfl mpn)) rfl)) ?_
       refine rA [9] ?_
       refine ra_s0 (i := 9) rfl rfl rfl (Ys_store (i := 0) (s := 5) (B := aD b) (T' := 124) (v := .agg #[vi r_2.A, vi r_2.B, vi r_2.C, vi r_2.D, vi (i64.wrap (Exp + 1))]) (vs := [vi r_2.A, vi r_2.B, vi r_2.C, vi r_2.D, vi (i64.wrap (Exp + 1))]) (k := 0) (cs' := [vi r_2.A, vi r_2.B, vi r_2.C, vi r_2.D, vi (i64.wrap (Exp + 1))]) hS12 k_sz_124_5 rfl (hf.get 4 1 rfl) rfl rfl rfl rfl rfl (lB rfl) rfl rfl) ?_ ?_
       ·rintro _ w_7 ⟨rfl, hS13⟩
        refine ⟨(hS13.se [1, 2]), ?_⟩
        refine ra_done (by kernel_rfl) ?_
        exact ⟨(FF.cons (hf.get 0 0 rfl) (FF.cons (hf.get 4 1 rfl) (FF.cons (hf.get 5 2 rfl) (FF.cons (hf.get 6 3 rfl) FF.nil)))), (hS13.sel [3, 0, 1, 2] rfl rfl)⟩
       exact allR_nil
      exact allR_nil
     exact allR_nil
    refine ra_y 18 (i := 6) (v := vi Exp) rfl rfl rfl (Y_load1 (B := aD b) (i := 4) (cs := [vi A, vi B1, vi C, vi D, vi Exp]) (v := vi Exp) k_sc_3 rfl rfl (hS8.cf (i := 1) rfl) rfl) (hS8.se [2, 3]) ?_ ?_
    ·skip
     refine rq 7 19 (v := vi (i64.wrap (Exp + 1))) rfl (hS8.se [2, 3]) (fun w' hw' => (Y_add (k := .i64) (a := Exp) (b := 1) rfl rfl rfl)) ?_
     refine rA [3] ?_
     refine ra_c 15 (i := 3) rfl rfl rfl (Yc_func (g := 197) (vs := [.agg #[vi A, vi B1, vi C, vi D]]) k_call_197 rfl (mc rfl mn) (c_spec_l1Root (TRing.mk A B1 C D) _  (hS8.inn0 [] rfl) hc)) ?_ ?_
     ·rintro _ w_8 ⟨rfl, hd3⟩
      have hS14 := hS8.out00 hd3
      refine ⟨(hS14.se [2, 3]), ?_⟩
      refine rA [4] ?_
      refine ra_c 16 (i := 4) rfl rfl rfl (Yc_func (g := 196) (vs := [pt B 0, gR_ r_1]) k_call_196 rfl (mc rfl (mc rfl mn)) (c_spec_l2C_ring (Tl2C.mk bad) r_1 B _  (hS14.inn [true, false, false, false] rfl [] rfl) hc1)) ?_ ?_
      ·rintro _ w_9 ⟨rfl, hd4⟩
       have hS15 := hS14.out [true, false, false, false] rfl hd4
       refine ⟨(hS15.se [1, 2]), ?_⟩
       refine rq 8 20 (v := .agg #[vi r_2.A, vi r_2.B, vi r_2.C, vi r_2.D, vi (i64.wrap (Exp + 1))]) rfl (hS15.se [1, 2]) (fun w' hw' => (Y_buildS (zs := kZ_) (vs := [(0, gR_ r_2), (1, vi (i64.wrap (Exp + 1)))]) (cs := [vi r_2.A, vi r_2.B, vi r_2.C, vi r_2.D, vi (i64.wrap (Exp + 1))]) k_pl_124 k_zero_124 rfl (mpc rfl (mpc rfl mpn)) rfl)) ?_
       refine rA [9] ?_
       refine ra_s0 (i := 9) rfl rfl rfl (Ys_store (i := 0) (s := 5) (B := aD b) (T' := 124) (v := .agg #[vi r_2.A, vi r_2.B, vi r_2.C, vi r_2.D, vi (i64.wrap (Exp + 1))]) (vs := [vi r_2.A, vi r_2.B, vi r_2.C, vi r_2.D, vi (i64.wrap (Exp + 1))]) (k := 0) (cs' := [vi r_2.A, vi r_2.B, vi r_2.C, vi r_2.D, vi (i64.wrap (Exp + 1))]) hS15 k_sz_124_5 rfl (hf.get 4 1 rfl) rfl rfl rfl rfl rfl (lB rfl) rfl rfl) ?_ ?_
       ·rintro _ w_10 ⟨rfl, hS16⟩
        refine ⟨(hS16.se [1, 2]), ?_⟩
        refine ra_done (by kernel_rfl) ?_
        exact ⟨(FF.cons (hf.get 0 0 rfl) (FF.cons (hf.get 4 1 rfl) (FF.cons (hf.get 5 2 rfl) (FF.cons (hf.get 6 3 rfl) FF.nil)))), (hS16.sel [3, 0, 1, 2] rfl rfl)⟩
       exact allR_nil
      exact allR_nil
     exact allR_nil
    exact allR_nil
   refine ra_y 18 (i := 6) (v := vi Exp) rfl rfl rfl (Y_load1 (B := aD b) (i := 4) (cs := [vi A, vi B1, vi C, vi D, vi Exp]) (v := vi Exp) k_sc_3 rfl rfl (hS8.cf (i := 1) rfl) rfl) (hS8.se [2, 3]) ?_ ?_
   ·skip
    refine rq 7 19 (v := vi (i64.wrap (Exp + 1))) rfl (hS8.se [2, 3]) (fun w' hw' => (Y_add (k := .i64) (a := Exp) (b := 1) rfl rfl rfl)) ?_
    refine rA [2] ?_
    refine ra_y 14 (i := 2) (v := .agg #[vi A, vi B1, vi C, vi D]) rfl rfl rfl (Y_loadA (B := aD b) (i := 0) (cs := [vi A, vi B1, vi C, vi D, vi Exp]) (vs := [vi A, vi B1, vi C, vi D]) k_ag_122 k_sz_122_4 rfl rfl (hS8.cf (i := 1) rfl) rfl rfl) (hS8.se [2, 3]) ?_ ?_
    ·skip
     refine rA [3] ?_
     refine ra_c 15 (i := 3) rfl rfl rfl (Yc_func (g := 197) (vs := [.agg #[vi A, vi B1, vi C, vi D]]) k_call_197 rfl (mc rfl mn) (c_spec_l1Root (TRing.mk A B1 C D) _  (hS8.inn0 [] rfl) hc)) ?_ ?_
     ·rintro _ w_11 ⟨rfl, hd5⟩
      have hS17 := hS8.out00 hd5
      refine ⟨(hS17.se [2, 3]), ?_⟩
      refine rA [4] ?_
      refine ra_c 16 (i := 4) rfl rfl rfl (Yc_func (g := 196) (vs := [pt B 0, gR_ r_1]) k_call_196 rfl (mc rfl (mc rfl mn)) (c_spec_l2C_ring (Tl2C.mk bad) r_1 B _  (hS17.inn [true, false, false, false] rfl [] rfl) hc1)) ?_ ?_
      ·rintro _ w_12 ⟨rfl, hd6⟩
       have hS18 := hS17.out [true, false, false, false] rfl hd6
       refine ⟨(hS18.se [1, 2]), ?_⟩
       refine rq 8 20 (v := .agg #[vi r_2.A, vi r_2.B, vi r_2.C, vi r_2.D, vi (i64.wrap (Exp + 1))]) rfl (hS18.se [1, 2]) (fun w' hw' => (Y_buildS (zs := kZ_) (vs := [(0, gR_ r_2), (1, vi (i64.wrap (Exp + 1)))]) (cs := [vi r_2.A, vi r_2.B, vi r_2.C, vi r_2.D, vi (i64.wrap (Exp + 1))]) k_pl_124 k_zero_124 rfl (mpc rfl (mpc rfl mpn)) rfl)) ?_
       refine rA [9] ?_
       refine ra_s0 (i := 9) rfl rfl rfl (Ys_store (i := 0) (s := 5) (B := aD b) (T' := 124) (v := .agg #[vi r_2.A, vi r_2.B, vi r_2.C, vi r_2.D, vi (i64.wrap (Exp + 1))]) (vs := [vi r_2.A, vi r_2.B, vi r_2.C, vi r_2.D, vi (i64.wrap (Exp + 1))]) (k := 0) (cs' := [vi r_2.A, vi r_2.B, vi r_2.C, vi r_2.D, vi (i64.wrap (Exp + 1))]) hS18 k_sz_124_5 rfl (hf.get 4 1 rfl) rfl rfl rfl rfl rfl (lB rfl) rfl rfl) ?_ ?_
       ·rintro _ w_13 ⟨rfl, hS19⟩
        refine ⟨(hS19.se [1, 2]), ?_⟩
        refine ra_done (by kernel_rfl) ?_
        exact ⟨(FF.cons (hf.get 0 0 rfl) (FF.cons (hf.get 4 1 rfl) (FF.cons (hf.get 5 2 rfl) (FF.cons (hf.get 6 3 rfl) FF.nil)))), (hS19.sel [3, 0, 1, 2] rfl rfl)⟩
       exact allR_nil
      exact allR_nil
     exact allR_nil
    exact allR_nil
   exact allR_nil
  rintro f w ⟨hf1, hS7⟩
  obtain rfl := some_inj hF2
  exact ⟨k_1, Nat.lt_succ_self _, m1.bad, r_2.A, r_2.B, r_2.C, r_2.D, (i64.wrap (Exp + 1)), (FF.cons (hf1.get 0 0 rfl) (FF.cons (hf1.get 4 1 rfl) (FF.cons (hf1.get 5 2 rfl) (FF.cons (hf1.get 6 3 rfl) FF.nil)))), (hS7.sel [0, 1, 2, 3] rfl rfl), hL1⟩
 ·skip
  have hF3 := cf' hb hb1
  refine cw_exit rfl ?_
  obtain rfl := some_inj hF3
  obtain rfl := some_inj hL1
  refine cw_seq ?_
  obtain ⟨z1, hz1, hF4⟩ := bind_inv hF1
  refine cw_block ?_
  refine cw_loop (fun k f w => ∃ (bad1 : Bool) (A1 : Int) (B2 : Int) (C1 : Int) (D1 : Int) (Exp1 : Int), FF f [(0, pt B 0), (4, pt (aD b) 0), (5, pt (aD b1) 0), (6, pt (aD b2) 0)] ∧ ST w0 (bl [⟨B, 127, [.bool c.bad], 1⟩]) w [⟨B, 127, [.bool bad1], 1⟩, ⟨aD b, 124, [vi A, vi B1, vi C, vi D, vi Exp], 5⟩, ⟨aD b1, 124, [vi A1, vi B2, vi C1, vi D1, vi Exp1], 5⟩, ⟨aD b2, 124, kZ_, 5⟩] [] ∧ whX (F_spec_l2C_add_l2 Exp bad A C D) k (bad1, A1, B2, C1, D1, Exp1) = some z1) fuel ⟨bad, y.Num.A, y.Num.B, y.Num.C, y.Num.D, y.Exp, (FF.cons (hf.get 0 0 rfl) (FF.cons (hf.get 4 1 rfl) (FF.cons (hf.get 5 2 rfl) (FF.cons (hf.get 6 3 rfl) FF.nil)))), (hS4.sel [0, 1, 2, 3] rfl rfl), hz1⟩ ?_
  rintro k_2 f w ⟨bad1, A1, B2, C1, D1, Exp1, hf2, hS20, hL2⟩
  obtain ⟨k_3, y2, rfl, hb2, hL3⟩ := whX_go hL2
  unfold F_spec_l2C_add_l2 at hb2
  refine cw_seq (cw_seq (cw_region ?_))
  refine sQ 21 (Y_fieldAddr (B := aD b1) (i := 0) (s := 0) k_fd_124_1_4_3 k_sz_3_1 rfl (hf2.get 5 2 rfl)) ?_
  refine sQ 22 (Y_load1 (B := aD b1) (i := 4) (cs := [vi A1, vi B2, vi C1, vi D1, vi Exp1]) (v := vi Exp1) k_sc_3 rfl rfl (hS20.cf (i := 2) rfl) rfl) ?_
  refine sQ 23 (Y_fieldAddr (B := aD b) (i := 0) (s := 0) k_fd_124_1_4_3 k_sz_3_1 rfl (hf2.get 4 1 rfl)) ?_
  refine sQ 24 (Y_load1 (B := aD b) (i := 4) (cs := [vi A, vi B1, vi C, vi D, vi Exp]) (v := vi Exp) k_sc_3 rfl rfl (hS20.cf (i := 1) rfl) rfl) ?_
  refine sQ 25 (Y_lt (k := .i64) (a := Exp1) (b := Exp) rfl rfl rfl) (rw_nil ?_)
  refine cw_cond (b := (decide (Exp1 < Exp))) rfl (fun hb3 => ?_) (fun hb3 => ?_)
  ·skip
   have hF5 := ct hb2 hb3
   refine cw_skip (cw_block ?_)
   obtain ⟨r_3, hc2, hF5⟩ := bind_inv hF5
   obtain ⟨⟨r_4, m2⟩, hc3, hF5⟩ := bind_inv hF5
   refine cw_mid (fun f w => FF f [(0, pt B 0), (4, pt (aD b) 0), (5, pt (aD b1) 0), (6, pt (aD b2) 0)] ∧ ST w0 (bl [⟨B, 127, [.bool c.bad], 1⟩]) w [⟨B, 127, [.bool m2.bad], 1⟩, ⟨aD b, 124, [vi A, vi B1, vi C, vi D, vi Exp], 5⟩, ⟨aD b1, 124, [vi r_4.A, vi r_4.B, vi r_4.C, vi r_4.D, vi (i64.wrap (Exp1 + 1))], 5⟩, ⟨aD b2, 124, kZ_, 5⟩] []) ?_ ?_
   ·skip
    refine ra_start (hS20.se [1, 3]).fn (by kernel_rfl) ?_
    have hS24 := hS20.drew
    refine rq 0 26 (v := pt B 0) rfl (hS24.se [1, 3]) (fun w' hw' => (Y_move (v := pt B 0) rfl (hf2.get 0 0 rfl))) ?_
    refine rq 1 27 (v := pt (aD b1) 0) rfl (hS24.se [1, 3]) (fun w' hw' => (Y_fieldAddr (B := aD b1) (i := 0) (s := 3) k_fd_124_0_0_122 k_sz_122_4 rfl (hf2.get 5 2 rfl))) ?_
    refine rq 5 31 (v := pt (aD b1) 4) rfl (hS24.se [1, 3]) (fun w' hw' => (Y_fieldAddr (B := aD b1) (i := 0) (s := 0) k_fd_124_1_4_3 k_sz_3_1 rfl (hf2.get 5 2 rfl))) ?_
    refine rA [2, 6] ?_
    refine ra_y 28 (i := 2) (v := .agg #[vi A1, vi B2, vi C1, vi D1]) rfl rfl rfl (Y_loadA (B := aD b1) (i := 0) (cs := [vi A1, vi B2, vi C1, vi D1, vi Exp1]) (vs := [vi A1, vi B2, vi C1, vi D1]) k_ag_122 k_sz_122_4 rfl rfl (hS24.cf (i := 2) rfl) rfl rfl) (hS24.se [1, 3]) ?_ ?_
    ·skip
     refine rA [3, 6] ?_
     refine ra_c 29 (i := 3) rfl rfl rfl (Yc_func (g := 197) (vs := [.agg #[vi A1, vi B2, vi C1, vi D1]]) k_call_197 rfl (mc rfl mn) (c_spec_l1Root (TRing.mk A1 B2 C1 D1) _  (hS24.inn0 [] rfl) hc2)) ?_ ?_
     ·rintro _ w_14 ⟨rfl, hd7⟩
      have hS25 := hS24.out00 hd7
      refine ⟨(hS25.se [1, 3]), ?_⟩
      refine rA [4, 6] ?_
      refine ra_c 30 (i := 4) rfl rfl rfl (Yc_func (g := 196) (vs := [pt B 0, gR_ r_3]) k_call_196 rfl (mc rfl (mc rfl mn)) (c_spec_l2C_ring (Tl2C.mk bad1) r_3 B _  (hS25.inn [true, false, false, false] rfl [] rfl) hc3)) ?_ ?_
      ·rintro _ w_15 ⟨rfl, hd8⟩
       have hS26 := hS25.out [true, false, false, false] rfl hd8
       refine ⟨(hS26.se [0, 2]), ?_⟩
       refine rA [6] ?_
       refine ra_y 32 (i := 6) (v := vi Exp1) rfl rfl rfl (Y_load1 (B := aD b1) (i := 4) (cs := [vi A1, vi B2, vi C1, vi D1, vi Exp1]) (v := vi Exp1) k_sc_3 rfl rfl (hS26.cf (i := 1) rfl) rfl) (hS26.se [0, 2]) ?_ ?_
       ·skip
        refine rq 7 33 (v := vi (i64.wrap (Exp1 + 1))) rfl (hS26.se [0, 2]) (fun w' hw' => (Y_add (k := .i64) (a := Exp1) (b := 1) rfl rfl rfl)) ?_
        refine rq 8 34 (v := .agg #[vi r_4.A, vi r_4.B, vi r_4.C, vi r_4.D, vi (i64.wrap (Exp1 + 1))]) rfl (hS26.se [0, 2]) (fun w' hw' => (Y_buildS (zs := kZ_) (vs := [(0, gR_ r_4), (1, vi (i64.wrap (Exp1 + 1)))]) (cs := [vi r_4.A, vi r_4.B, vi r_4.C, vi r_4.D, vi (i64.wrap (Exp1 + 1))]) k_pl_124 k_zero_124 rfl (mpc rfl (mpc rfl mpn)) rfl)) ?_
        refine rA [9] ?_
        refine ra_s0 (i := 9) rfl rfl rfl (Ys_store (i := 1) (s := 5) (B := aD b1) (T' := 124) (v := .agg #[vi r_4.A, vi r_4.B, vi r_4.C, vi r_4.D, vi (i64.wrap (Exp1 + 1))]) (vs := [vi r_4.A, vi r_4.B, vi r_4.C, vi r_4.D, vi (i64.wrap (Exp1 + 1))]) (k := 0) (cs' := [vi r_4.A, vi r_4.B, vi r_4.C, vi r_4.D, vi (i64.wrap (Exp1 + 1))]) hS26 k_sz_124_5 rfl (hf2.get 5 2 rfl) rfl rfl rfl rfl rfl (lB rfl) rfl rfl) ?_ ?_
        ·rintro _ w_16 ⟨rfl, hS27⟩
         refine ⟨(hS27.se [0, 2]), ?_⟩
         refine ra_done (by kernel_rfl) ?_
         exact ⟨(FF.cons (hf2.get 0 0 rfl) (FF.cons (hf2.get 4 1 rfl) (FF.cons (hf2.get 5 2 rfl) (FF.cons (hf2.get 6 3 rfl) FF.nil)))), (hS27.sel [3, 0, 1, 2] rfl rfl)⟩
        exact allR_nil
       exact allR_nil
      refine ra_y 32 (i := 6) (v := vi Exp1) rfl rfl rfl (Y_load1 (B := aD b1) (i := 4) (cs := [vi A1, vi B2, vi C1, vi D1, vi Exp1]) (v := vi Exp1) k_sc_3 rfl rfl (hS25.cf (i := 2) rfl) rfl) (hS25.se [1, 3]) ?_ ?_
      ·skip
       refine rq 7 33 (v := vi (i64.wrap (Exp1 + 1))) rfl (hS25.se [1, 3]) (fun w' hw' => (Y_add (k := .i64) (a := Exp1) (b := 1) rfl rfl rfl)) ?_
       refine rA [4] ?_
       refine ra_c 30 (i := 4) rfl rfl rfl (Yc_func (g := 196) (vs := [pt B 0, gR_ r_3]) k_call_196 rfl (mc rfl (mc rfl mn)) (c_spec_l2C_ring (Tl2C.mk bad1) r_3 B _  (hS25.inn [true, false, false, false] rfl [] rfl) hc3)) ?_ ?_
       ·rintro _ w_17 ⟨rfl, hd9⟩
        have hS28 := hS25.out [true, false, false, false] rfl hd9
        refine ⟨(hS28.se [0, 2]), ?_⟩
        refine rq 8 34 (v := .agg #[vi r_4.A, vi r_4.B, vi r_4.C, vi r_4.D, vi (i64.wrap (Exp1 + 1))]) rfl (hS28.se [0, 2]) (fun w' hw' => (Y_buildS (zs := kZ_) (vs := [(0, gR_ r_4), (1, vi (i64.wrap (Exp1 + 1)))]) (cs := [vi r_4.A, vi r_4.B, vi r_4.C, vi r_4.D, vi (i64.wrap (Exp1 + 1))]) k_pl_124 k_zero_124 rfl (mpc rfl (mpc rfl mpn)) rfl)) ?_
        refine rA [9] ?_
        refine ra_s0 (i := 9) rfl rfl rfl (Ys_store (i := 1) (s := 5) (B := aD b1) (T' := 124) (v := .agg #[vi r_4.A, vi r_4.B, vi r_4.C, vi r_4.D, vi (i64.wrap (Exp1 + 1))]) (vs := [vi r_4.A, vi r_4.B, vi r_4.C, vi r_4.D, vi (i64.wrap (Exp1 + 1))]) (k := 0) (cs' := [vi r_4.A, vi r_4.B, vi r_4.C, vi r_4.D, vi (i64.wrap (Exp1 + 1))]) hS28 k_sz_124_5 rfl (hf2.get 5 2 rfl) rfl rfl rfl rfl rfl (lB rfl) rfl rfl) ?_ ?_
        ·rintro _ w_18 ⟨rfl, hS29⟩
         refine ⟨(hS29.se [0, 2]), ?_⟩
         refine ra_done (by kernel_rfl) ?_
         exact ⟨(FF.cons (hf2.get 0 0 rfl) (FF.cons (hf2.get 4 1 rfl) (FF.cons (hf2.get 5 2 rfl) (FF.cons (hf2.get 6 3 rfl) FF.nil)))), (hS29.sel [3, 0, 1, 2] rfl rfl)⟩
        exact allR_nil
       exact allR_nil
      exact allR_nil
     refine ra_y 32 (i := 6) (v := vi Exp1) rfl rfl rfl (Y_load1 (B := aD b1) (i := 4) (cs := [vi A1, vi B2, vi C1, vi D1, vi Exp1]) (v := vi Exp1) k_sc_3 rfl rfl (hS24.cf (i := 2) rfl) rfl) (hS24.se [1, 3]) ?_ ?_
     ·skip
      refine rq 7 33 (v := vi (i64.wrap (Exp1 + 1))) rfl (hS24.se [1, 3]) (fun w' hw' => (Y_add (k := .i64) (a := Exp1) (b := 1) rfl rfl rfl)) ?_
      refine rA [3] ?_
      refine ra_c 29 (i := 3) rfl rfl rfl (Yc_func (g := 197) (vs := [.agg #[vi A1, vi B2, vi C1, vi D1]]) k_call_197 rfl (mc rfl mn) (c_spec_l1Root (TRing.mk A1 B2 C1 D1) _  (hS24.inn0 [] rfl) hc2)) ?_ ?_
      ·rintro _ w_19 ⟨rfl, hd10⟩
       have hS30 := hS24.out00 hd10
       refine ⟨(hS30.se [1, 3]), ?_⟩
       refine rA [4] ?_
       refine ra_c 30 (i := 4) rfl rfl rfl (Yc_func (g := 196) (vs := [pt B 0, gR_ r_3]) k_call_196 rfl (mc rfl (mc rfl mn)) (c_spec_l2C_ring (Tl2C.mk bad1) r_3 B _  (hS30.inn [true, false, false, false] rfl [] rfl) hc3)) ?_ ?_
       ·rintro _ w_20 ⟨rfl, hd11⟩
        have hS31 := hS30.out [true, false, false, false] rfl hd11
        refine ⟨(hS31.se [0, 2]), ?_⟩
        refine rq 8 34 (v := .agg #[vi r_4.A, vi r_4.B, vi r_4.C, vi r_4.D, vi (i64.wrap (Exp1 + 1))]) rfl (hS31.se [0, 2]) (fun w' hw' => (Y_buildS (zs := kZ_) (vs := [(0, gR_ r_4), (1, vi (i64.wrap (Exp1 + 1)))]) (cs := [vi r_4.A, vi r_4.B, vi r_4.C, vi r_4.D, vi (i64.wrap (Exp1 + 1))]) k_pl_124 k_zero_124 rfl (mpc rfl (mpc rfl mpn)) rfl)) ?_
        refine rA [9] ?_
        refine ra_s0 (i := 9) rfl rfl rfl (Ys_store (i := 1) (s := 5) (B := aD b1) (T' := 124) (v := .agg #[vi r_4.A, vi r_4.B, vi r_4.C, vi r_4.D, vi (i64.wrap (Exp1 + 1))]) (vs := [vi r_4.A, vi r_4.B, vi r_4.C, vi r_4.D, vi (i64.wrap (Exp1 + 1))]) (k := 0) (cs' := [vi r_4.A, vi r_4.B, vi r_4.C, vi r_4.D, vi (i64.wrap (Exp1 + 1))]) hS31 k_sz_124_5 rfl (hf2.get 5 2 rfl) rfl rfl rfl rfl rfl (lB rfl) rfl rfl) ?_ ?_
        ·rintro _ w_21 ⟨rfl, hS32⟩
         refine ⟨(hS32.se [0, 2]), ?_⟩
         refine ra_done (by kernel_rfl) ?_
         exact ⟨(FF.cons (hf2.get 0 0 rfl) (FF.cons (hf2.get 4 1 rfl) (FF.cons (hf2.get 5 2 rfl) (FF.cons (hf2.get 6 3 rfl) FF.nil)))), (hS32.sel [3, 0, 1, 2] rfl rfl)⟩
        exact allR_nil
       exact allR_nil
      exact allR_nil
     exact allR_nil
    refine ra_y 32 (i := 6) (v := vi Exp1) rfl rfl rfl (Y_load1 (B := aD b1) (i := 4) (cs := [vi A1, vi B2, vi C1, vi D1, vi Exp1]) (v := vi Exp1) k_sc_3 rfl rfl (hS24.cf (i := 2) rfl) rfl) (hS24.se [1, 3]) ?_ ?_
    ·skip
     refine rq 7 33 (v := vi (i64.wrap (Exp1 + 1))) rfl (hS24.se [1, 3]) (fun w' hw' => (Y_add (k := .i64) (a := Exp1) (b := 1) rfl rfl rfl)) ?_
     refine rA [2] ?_
     refine ra_y 28 (i := 2) (v := .agg #[vi A1, vi B2, vi C1, vi D1]) rfl rfl rfl (Y_loadA (B := aD b1) (i := 0) (cs := [vi A1, vi B2, vi C1, vi D1, vi Exp1]) (vs := [vi A1, vi B2, vi C1, vi D1]) k_ag_122 k_sz_122_4 rfl rfl (hS24.cf (i := 2) rfl) rfl rfl) (hS24.se [1, 3]) ?_ ?_
     ·skip
      refine rA [3] ?_
      refine ra_c 29 (i := 3) rfl rfl rfl (Yc_func (g := 197) (vs := [.agg #[vi A1, vi B2, vi C1, vi D1]]) k_call_197 rfl (mc rfl mn) (c_spec_l1Root (TRing.mk A1 B2 C1 D1) _  (hS24.inn0 [] rfl) hc2)) ?_ ?_
      ·rintro _ w_22 ⟨rfl, hd12⟩
       have hS33 := hS24.out00 hd12
       refine ⟨(hS33.se [1, 3]), ?_⟩
       refine rA [4] ?_
       refine ra_c 30 (i := 4) rfl rfl rfl (Yc_func (g := 196) (vs := [pt B 0, gR_ r_3]) k_call_196 rfl (mc rfl (mc rfl mn)) (c_spec_l2C_ring (Tl2C.mk bad1) r_3 B _  (hS33.inn [true, false, false, false] rfl [] rfl) hc3)) ?_ ?_
       ·rintro _ w_23 ⟨rfl, hd13⟩
        have hS34 := hS33.out [true, false, false, false] rfl hd13
        refine ⟨(hS34.se [0, 2]), ?_⟩
        refine rq 8 34 (v := .agg #[vi r_4.A, vi r_4.B, vi r_4.C, vi r_4.D, vi (i64.wrap (Exp1 + 1))]) rfl (hS34.se [0, 2]) (fun w' hw' => (Y_buildS (zs := kZ_) (vs := [(0, gR_ r_4), (1, vi (i64.wrap (Exp1 + 1)))]) (cs := [vi r_4.A, vi r_4.B, vi r_4.C, vi r_4.D, vi (i64.wrap (Exp1 + 1))]) k_pl_124 k_zero_124 rfl (mpc rfl (mpc rfl mpn)) rfl)) ?_
        refine rA [9] ?_
        refine ra_s0 (i := 9) rfl rfl rfl (Ys_store (i := 1) (s := 5) (B := aD b1) (T' := 124) (v := .agg #[vi r_4.A, vi r_4.B, vi r_4.C, vi r_4.D, vi (i64.wrap (Exp1 + 1))]) (vs := [vi r_4.A, vi r_4.B, vi r_4.C, vi r_4.D, vi (i64.wrap (Exp1 + 1))]) (k := 0) (cs' := [vi r_4.A, vi r_4.B, vi r_4.C, vi r_4.D, vi (i64.wrap (Exp1 + 1))]) hS34 k_sz_124_5 rfl (hf2.get 5 2 rfl) rfl rfl rfl rfl rfl (lB rfl) rfl rfl) ?_ ?_
        ·rintro _ w_24 ⟨rfl, hS35⟩
         refine ⟨(hS35.se [0, 2]), ?_⟩
         refine ra_done (by kernel_rfl) ?_
         exact ⟨(FF.cons (hf2.get 0 0 rfl) (FF.cons (hf2.get 4 1 rfl) (FF.cons (hf2.get 5 2 rfl) (FF.cons (hf2.get 6 3 rfl) FF.nil)))), (hS35.sel [3, 0, 1, 2] rfl rfl)⟩
        exact allR_nil
       exact allR_nil
      exact allR_nil
     exact allR_nil
    exact allR_nil
   rintro f w ⟨hf3, hS23⟩
   obtain rfl := some_inj hF5
   exact ⟨k_3, Nat.lt_succ_self _, m2.bad, r_4.A, r_4.B, r_4.C, r_4.D, (i64.wrap (Exp1 + 1)), (FF.cons (hf3.get 0 0 rfl) (FF.cons (hf3.get 4 1 rfl) (FF.cons (hf3.get 5 2 rfl) (FF.cons (hf3.get 6 3 rfl) FF.nil)))), (hS23.sel [0, 1, 2, 3] rfl rfl), hL3⟩
  ·skip
   have hF6 := cf' hb2 hb3
   refine cw_exit rfl ?_
   obtain rfl := some_inj hF6
   obtain rfl := some_inj hL3
   refine cw_seq ?_
   obtain ⟨r_5, hc4, hF4⟩ := bind_inv hF4
   obtain ⟨⟨r_6, m3⟩, hc5, hF4⟩ := bind_inv hF4
   obtain ⟨r_7, hc6, hF4⟩ := bind_inv hF4
   refine ra_start (hS20.se [1, 2]).fn (by kernel_rfl) ?_
   have hS39 := hS20.drew
   refine rq 0 35 (v := pt B 0) rfl (hS39.se [1, 2]) (fun w' hw' => (Y_move (v := pt B 0) rfl (hf2.get 0 0 rfl))) ?_
   refine rq 1 36 (v := pt (aD b) 0) rfl (hS39.se [1, 2]) (fun w' hw' => (Y_fieldAddr (B := aD b) (i := 0) (s := 3) k_fd_124_0_0_122 k_sz_122_4 rfl (hf2.get 4 1 rfl))) ?_
   refine rq 2 37 (v := .agg #[vi A, vi B1, vi C, vi D]) rfl (hS39.se [1, 2]) (fun w' hw' => (Y_loadA (B := aD b) (i := 0) (cs := [vi A, vi B1, vi C, vi D, vi Exp]) (vs := [vi A, vi B1, vi C, vi D]) k_ag_122 k_sz_122_4 rfl rfl (ST.cf hw' (i := 0) rfl) rfl rfl)) ?_
   refine rq 3 38 (v := pt (aD b1) 0) rfl (hS39.se [1, 2]) (fun w' hw' => (Y_fieldAddr (B := aD b1) (i := 0) (s := 3) k_fd_124_0_0_122 k_sz_122_4 rfl (hf2.get 5 2 rfl))) ?_
   refine rq 4 39 (v := .agg #[vi A1, vi B2, vi C1, vi D1]) rfl (hS39.se [1, 2]) (fun w' hw' => (Y_loadA (B := aD b1) (i := 0) (cs := [vi A1, vi B2, vi C1, vi D1, vi Exp1]) (vs := [vi A1, vi B2, vi C1, vi D1]) k_ag_122 k_sz_122_4 rfl rfl (ST.cf hw' (i := 1) rfl) rfl rfl)) ?_
   refine rq 7 42 (v := pt (aD b) 4) rfl (hS39.se [1, 2]) (fun w' hw' => (Y_fieldAddr (B := aD b) (i := 0) (s := 0) k_fd_124_1_4_3 k_sz_3_1 rfl (hf2.get 4 1 rfl))) ?_
   refine rq 8 43 (v := vi Exp) rfl (hS39.se [1, 2]) (fun w' hw' => (Y_load1 (B := aD b) (i := 4) (cs := [vi A, vi B1, vi C, vi D, vi Exp]) (v := vi Exp) k_sc_3 rfl rfl (ST.cf hw' (i := 0) rfl) rfl)) ?_
   refine rA [5] ?_
   refine ra_c 40 (i := 5) rfl rfl rfl (Yc_func (g := 199) (vs := [.agg #[vi A, vi B1, vi C, vi D], .agg #[vi A1, vi B2, vi C1, vi D1]]) k_call_199 rfl (mc rfl (mc rfl mn)) (c_spec_l1Add (TRing.mk A B1 C D) (TRing.mk A1 B2 C1 D1) _  (hS39.inn0 [] rfl) hc4)) ?_ ?_
   ·rintro _ w_25 ⟨rfl, hd14⟩
    have hS40 := hS39.out00 hd14
    refine ⟨(hS40.se [1, 2]), ?_⟩
    refine rA [6] ?_
    refine ra_c 41 (i := 6) rfl rfl rfl (Yc_func (g := 196) (vs := [pt B 0, gR_ r_5]) k_call_196 rfl (mc rfl (mc rfl mn)) (c_spec_l2C_ring (Tl2C.mk bad1) r_5 B _  (hS40.inn [true, false, false, false] rfl [] rfl) hc5)) ?_ ?_
    ·rintro _ w_26 ⟨rfl, hd15⟩
     have hS41 := hS40.out [true, false, false, false] rfl hd15
     refine ⟨(hS41.se [0, 1]), ?_⟩
     refine rA [9] ?_
     refine ra_c 44 (i := 9) rfl rfl rfl (Yc_func (g := 198) (vs := [gR_ r_6, vi Exp]) k_call_198 rfl (mc rfl (mc rfl mn)) (c_spec_l2Low r_6 Exp _  (hS41.inn0 [] rfl) hc6)) ?_ ?_
     ·rintro _ w_27 ⟨rfl, hd16⟩
      have hS42 := hS41.out00 hd16
      refine ⟨(hS42.se [0, 1]), ?_⟩
      refine rA [10] ?_
      refine ra_s0 (i := 10) rfl rfl rfl (Ys_store (i := 2) (s := 5) (B := aD b2) (T' := 124) (v := gD_ r_7) (vs := kD_ r_7) (k := 0) (cs' := kD_ r_7) hS42 k_sz_124_5 rfl (hf2.get 6 3 rfl) rfl rfl rfl rfl rfl (lB rfl) rfl rfl) ?_ ?_
      ·rintro _ w_28 ⟨rfl, hS43⟩
       refine ⟨(hS43.se [0, 1]), ?_⟩
       refine ra_done (by kernel_rfl) ?_
       refine cw_ret ?_
       obtain ⟨rfl, rfl⟩ := pr2 (some_inj hF4)
       exact ret1 Try.results136 (v1 := gD_ r_7) (resAt_cellA (B := aD b2) (i := 0) (cs := kD_ r_7) (vs := kD_ r_7) (hf2.get 6 3 rfl) k_ag_124 k_sz_124_5 (hS43.cf (i := 2) rfl) rfl rfl) ⟨rfl, (hS43.sN [3])⟩
      exact allR_nil
     exact allR_nil
    exact allR_nil
   exact allR_nil

theorem c_spec_l1Mul (x : TRing) (y : TRing)  (w0 : World)  (hS : ST w0 [] w0 [] []) {r_ : TRing} (hF : F_spec_l1Mul x y = some r_) :
  CV Try.prog 200 #[gR_ x, gR_ y] w0 (fun v w' => v = (gR_ r_) ∧ ST w0 [] w' [] []) := by
 unfold F_spec_l1Mul at hF
 refine cv_of_cw 98 Try.func200 rfl Try.ntmps200 rfl ?_
 refine cw_seq (cw_region ?_)
 refine sS 2 (Ys_box (T := 122) (v := gR_ x) (cs := kR_ x) (m := 4) hS rfl rfl rfl rfl) ?_
 rintro _ w_ ⟨b, rfl, hS1⟩
 refine sS 3 (Ys_box (T := 122) (v := gR_ y) (cs := kR_ y) (m := 4) hS1 rfl rfl rfl rfl) ?_
 rintro _ w_1 ⟨b1, rfl, hS2⟩
 refine sS 4 (Ys_alloc (T := 122) (cs := [vi 0, vi 0, vi 0, vi 0]) (m := 4) hS2 k_zero_122 rfl rfl rfl) ?_
 rintro _ w_2 ⟨b2, rfl, hS3⟩
 refine rw_nil (cw_seq (cw_region ?_))
 refine sQ 5 (Y_fieldAddr (B := aD b) (i := 0) (s := 0) k_fd_122_0_0_3 k_sz_3_1 rfl rfl) ?_
 refine sQ 6 (Y_load1 (B := aD b) (i := 0) (cs := kR_ x) (v := vi x.A) k_sc_3 rfl rfl (hS3.cf (i := 0) rfl) rfl) ?_
 refine sQ 7 (Y_fieldAddr (B := aD b1) (i := 0) (s := 0) k_fd_122_0_0_3 k_sz_3_1 rfl rfl) ?_
 refine sQ 8 (Y_load1 (B := aD b1) (i := 0) (cs := kR_ y) (v := vi y.A) k_sc_3 rfl rfl (hS3.cf (i := 1) rfl) rfl) ?_
 refine sQ 9 (Y_mul (k := .i64) (a := x.A) (b := y.A) rfl rfl rfl) ?_
 refine sQ 10 (Y_fieldAddr (B := aD b) (i := 0) (s := 0) k_fd_122_1_1_3 k_sz_3_1 rfl rfl) ?_
 refine sQ 11 (Y_load1 (B := aD b) (i := 1) (cs := kR_ x) (v := vi x.B) k_sc_3 rfl rfl (hS3.cf (i := 0) rfl) rfl) ?_
 refine sQ 12 (Y_fieldAddr (B := aD b1) (i := 0) (s := 0) k_fd_122_3_3_3 k_sz_3_1 rfl rfl) ?_
 refine sQ 13 (Y_load1 (B := aD b1) (i := 3) (cs := kR_ y) (v := vi y.D) k_sc_3 rfl rfl (hS3.cf (i := 1) rfl) rfl) ?_
 refine sQ 14 (Y_mul (k := .i64) (a := x.B) (b := y.D) rfl rfl rfl) ?_
 refine sQ 15 (Y_sub (k := .i64) (a := (i64.wrap (x.A * y.A))) (b := (i64.wrap (x.B * y.D))) rfl rfl rfl) ?_
 refine sQ 16 (Y_fieldAddr (B := aD b) (i := 0) (s := 0) k_fd_122_2_2_3 k_sz_3_1 rfl rfl) ?_
 refine sQ 17 (Y_load1 (B := aD b) (i := 2) (cs := kR_ x) (v := vi x.C) k_sc_3 rfl rfl (hS3.cf (i := 0) rfl) rfl) ?_
 refine sQ 18 (Y_fieldAddr (B := aD b1) (i := 0) (s := 0) k_fd_122_2_2_3 k_sz_3_1 rfl rfl) ?_
 refine sQ 19 (Y_load1 (B := aD b1) (i := 2) (cs := kR_ y) (v := vi y.C) k_sc_3 rfl rfl (hS3.cf (i := 1) rfl) rfl) ?_
 refine sQ 20 (Y_mul (k := .i64) (a := x.C) (b := y.C) rfl rfl rfl) ?_
 refine sQ 21 (Y_sub (k := .i64) (a := (i64.wrap ((i64.wrap (x.A * y.A)) - (i64.wrap (x.B * y.D))))) (b := (i64.wrap (x.C * y.C))) rfl rfl rfl) ?_
 refine sQ 22 (Y_fieldAddr (B := aD b) (i := 0) (s := 0) k_fd_122_3_3_3 k_sz_3_1 rfl rfl) ?_
 refine sQ 23 (Y_load1 (B := aD b) (i := 3) (cs := kR_ x) (v := vi x.D) k_sc_3 rfl rfl (hS3.cf (i := 0) rfl) rfl) ?_
 refine sQ 24 (Y_fieldAddr (B := aD b1) (i := 0) (s := 0) k_fd_122_1_1_3 k_sz_3_1 rfl rfl) ?_
 refine sQ 25 (Y_load1 (B := aD b1) (i := 1) (cs := kR_ y) (v := vi y.B) k_sc_3 rfl rfl (hS3.cf (i := 1) rfl) rfl) ?_
 refine sQ 26 (Y_mul (k := .i64) (a := x.D) (b := y.B) rfl rfl rfl) ?_
 refine sQ 27 (Y_sub (k := .i64) (a := (i64.wrap ((i64.wrap ((i64.wrap (x.A * y.A)) - (i64.wrap (x.B * y.D)))) - (i64.wrap (x.C * y.C))))) (b := (i64.wrap (x.D * y.B))) rfl rfl rfl) ?_
 refine sQ 28 (Y_fieldAddr (B := aD b) (i := 0) (s := 0) k_fd_122_0_0_3 k_sz_3_1 rfl rfl) ?_
 refine sQ 29 (Y_load1 (B := aD b) (i := 0) (cs := kR_ x) (v := vi x.A) k_sc_3 rfl rfl (hS3.cf (i := 0) rfl) rfl) ?_
 refine sQ 30 (Y_fieldAddr (B := aD b1) (i := 0) (s := 0) k_fd_122_1_1_3 k_sz_3_1 rfl rfl) ?_
 refine sQ 31 (Y_load1 (B := aD b1) (i := 1) (cs := kR_ y) (v := vi y.B) k_sc_3 rfl rfl (hS3.cf (i := 1) rfl) rfl) ?_
 refine sQ 32 (Y_mul (k := .i64) (a := x.A) (b := y.B) rfl rfl rfl) ?_
 refine sQ 33 (Y_fieldAddr (B := aD b) (i := 0) (s := 0) k_fd_122_1_1_3 k_sz_3_1 rfl rfl) ?_
 refine sQ 34 (Y_load1 (B := aD b) (i := 1) (cs := kR_ x) (v := vi x.B) k_sc_3 rfl rfl (hS3.cf (i := 0) rfl) rfl) ?_
 refine sQ 35 (Y_fieldAddr (B := aD b1) (i := 0) (s := 0) k_fd_122_0_0_3 k_sz_3_1 rfl rfl) ?_
 refine sQ 36 (Y_load1 (B := aD b1) (i := 0) (cs := kR_ y) (v := vi y.A) k_sc_3 rfl rfl (hS3.cf (i := 1) rfl) rfl) ?_
 refine sQ 37 (Y_mul (k := .i64) (a := x.B) (b := y.A) rfl rfl rfl) ?_
 refine sQ 38 (Y_add (k := .i64) (a := (i64.wrap (x.A * y.B))) (b := (i64.wrap (x.B * y.A))) rfl rfl rfl) ?_
 refine sQ 39 (Y_fieldAddr (B := aD b) (i := 0) (s := 0) k_fd_122_2_2_3 k_sz_3_1 rfl rfl) ?_
 refine sQ 40 (Y_load1 (B := aD b) (i := 2) (cs := kR_ x) (v := vi x.C) k_sc_3 rfl rfl (hS3.cf (i := 0) rfl) rfl) ?_
 refine sQ 41 (Y_fieldAddr (B := aD b1) (i := 0) (s := 0) k_fd_122_3_3_3 k_sz_3_1 rfl rfl) ?_
 refine sQ 42 (Y_load1 (B := aD b1) (i := 3) (cs := kR_ y) (v := vi y.D) k_sc_3 rfl rfl (hS3.cf (i := 1) rfl) rfl) ?_
 refine sQ 43 (Y_mul (k := .i64) (a := x.C) (b := y.D) rfl rfl rfl) ?_
 refine sQ 44 (Y_sub (k := .i64) (a := (i64.wrap ((i64.wrap (x.A * y.B)) + (i64.wrap (x.B * y.A))))) (b := (i64.wrap (x.C * y.D))) rfl rfl rfl) ?_
 refine sQ 45 (Y_fieldAddr (B := aD b) (i := 0) (s := 0) k_fd_122_3_3_3 k_sz_3_1 rfl rfl) ?_
 refine sQ 46 (Y_load1 (B := aD b) (i := 3) (cs := kR_ x) (v := vi x.D) k_sc_3 rfl rfl (hS3.cf (i := 0) rfl) rfl) ?_
 refine sQ 47 (Y_fieldAddr (B := aD b1) (i := 0) (s := 0) k_fd_122_2_2_3 k_sz_3_1 rfl rfl) ?_
 refine sQ 48 (Y_load1 (B := aD b1) (i := 2) (cs := kR_ y) (v := vi y.C) k_sc_3 rfl rfl (hS3.cf (i := 1) rfl) rfl) ?_
 refine sQ 49 (Y_mul (k := .i64) (a := x.D) (b := y.C) rfl rfl rfl) ?_
 refine sQ 50 (Y_sub (k := .i64) (a := (i64.wrap ((i64.wrap ((i64.wrap (x.A * y.B)) + (i64.wrap (x.B * y.A)))) - (i64.wrap (x.C * y.D))))) (b := (i64.wrap (x.D * y.C))) rfl rfl rfl) ?_
 refine sQ 51 (Y_fieldAddr (B := aD b) (i := 0) (s := 0) k_fd_122_0_0_3 k_sz_3_1 rfl rfl) ?_
 refine sQ 52 (Y_load1 (B := aD b) (i := 0) (cs := kR_ x) (v := vi x.A) k_sc_3 rfl rfl (hS3.cf (i := 0) rfl) rfl) ?_
 refine sQ 53 (Y_fieldAddr (B := aD b1) (i := 0) (s := 0) k_fd_122_2_2_3 k_sz_3_1 rfl rfl) ?_
 refine sQ 54 (Y_load1 (B := aD b1) (i := 2) (cs := kR_ y) (v := vi y.C) k_sc_3 rfl rfl (hS3.cf (i := 1) rfl) rfl) ?_
 refine sQ 55 (Y_mul (k := .i64) (a := x.A) (b := y.C) rfl rfl rfl) ?_
 refine sQ 56 (Y_fieldAddr (B := aD b) (i := 0) (s := 0) k_fd_122_1_1_3 k_sz_3_1 rfl rfl) ?_
 refine sQ 57 (Y_load1 (B := aD b) (i := 1) (cs := kR_ x) (v := vi x.B) k_sc_3 rfl rfl (hS3.cf (i := 0) rfl) rfl) ?_
 refine sQ 58 (Y_fieldAddr (B := aD b1) (i := 0) (s := 0) k_fd_122_1_1_3 k_sz_3_1 rfl rfl) ?_
 refine sQ 59 (Y_load1 (B := aD b1) (i := 1) (cs := kR_ y) (v := vi y.B) k_sc_3 rfl rfl (hS3.cf (i := 1) rfl) rfl) ?_
 refine sQ 60 (Y_mul (k := .i64) (a := x.B) (b := y.B) rfl rfl rfl) ?_
 refine sQ 61 (Y_add (k := .i64) (a := (i64.wrap (x.A * y.C))) (b := (i64.wrap (x.B * y.B))) rfl rfl rfl) ?_
 refine sQ 62 (Y_fieldAddr (B := aD b) (i := 0) (s := 0) k_fd_122_2_2_3 k_sz_3_1 rfl rfl) ?_
 refine sQ 63 (Y_load1 (B := aD b) (i := 2) (cs := kR_ x) (v := vi x.C) k_sc_3 rfl rfl (hS3.cf (i := 0) rfl) rfl) ?_
 refine sQ 64 (Y_fieldAddr (B := aD b1) (i := 0) (s := 0) k_fd_122_0_0_3 k_sz_3_1 rfl rfl) ?_
 refine sQ 65 (Y_load1 (B := aD b1) (i := 0) (cs := kR_ y) (v := vi y.A) k_sc_3 rfl rfl (hS3.cf (i := 1) rfl) rfl) ?_
 refine sQ 66 (Y_mul (k := .i64) (a := x.C) (b := y.A) rfl rfl rfl) ?_
 refine sQ 67 (Y_add (k := .i64) (a := (i64.wrap ((i64.wrap (x.A * y.C)) + (i64.wrap (x.B * y.B))))) (b := (i64.wrap (x.C * y.A))) rfl rfl rfl) ?_
 refine sQ 68 (Y_fieldAddr (B := aD b) (i := 0) (s := 0) k_fd_122_3_3_3 k_sz_3_1 rfl rfl) ?_
 refine sQ 69 (Y_load1 (B := aD b) (i := 3) (cs := kR_ x) (v := vi x.D) k_sc_3 rfl rfl (hS3.cf (i := 0) rfl) rfl) ?_
 refine sQ 70 (Y_fieldAddr (B := aD b1) (i := 0) (s := 0) k_fd_122_3_3_3 k_sz_3_1 rfl rfl) ?_
 refine sQ 71 (Y_load1 (B := aD b1) (i := 3) (cs := kR_ y) (v := vi y.D) k_sc_3 rfl rfl (hS3.cf (i := 1) rfl) rfl) ?_
 refine sQ 72 (Y_mul (k := .i64) (a := x.D) (b := y.D) rfl rfl rfl) ?_
 refine sQ 73 (Y_sub (k := .i64) (a := (i64.wrap ((i64.wrap ((i64.wrap (x.A * y.C)) + (i64.wrap (x.B * y.B)))) + (i64.wrap (x.C * y.A))))) (b := (i64.wrap (x.D * y.D))) rfl rfl rfl) ?_
 refine sQ 74 (Y_fieldAddr (B := aD b) (i := 0) (s := 0) k_fd_122_0_0_3 k_sz_3_1 rfl rfl) ?_
 refine sQ 75 (Y_load1 (B := aD b) (i := 0) (cs := kR_ x) (v := vi x.A) k_sc_3 rfl rfl (hS3.cf (i := 0) rfl) rfl) ?_
 refine sQ 76 (Y_fieldAddr (B := aD b1) (i := 0) (s := 0) k_fd_122_3_3_3 k_sz_3_1 rfl rfl) ?_
 refine sQ 77 (Y_load1 (B := aD b1) (i := 3) (cs := kR_ y) (v := vi y.D) k_sc_3 rfl rfl (hS3.cf (i := 1) rfl) rfl) ?_
 refine sQ 78 (Y_mul (k := .i64) (a := x.A) (b := y.D) rfl rfl rfl) ?_
 refine sQ 79 (Y_fieldAddr (B := aD b) (i := 0) (s := 0) k_fd_122_1_1_3 k_sz_3_1 rfl rfl) ?_
 refine sQ 80 (Y_load1 (B := aD b) (i := 1) (cs := kR_ x) (v := vi x.B) k_sc_3 rfl rfl (hS3.cf (i := 0) rfl) rfl) ?_
 refine sQ 81 (Y_fieldAddr (B := aD b1) (i := 0) (s := 0) k_fd_122_2_2_3 k_sz_3_1 rfl rfl) ?_
 refine sQ 82 (Y_load1 (B := aD b1) (i := 2) (cs := kR_ y) (v := vi y.C) k_sc_3 rfl rfl (hS3.cf (i := 1) rfl) rfl) ?_
 refine sQ 83 (Y_mul (k := .i64) (a := x.B) (b := y.C) rfl rfl rfl) ?_
 refine sQ 84 (Y_add (k := .i64) (a := (i64.wrap (x.A * y.D))) (b := (i64.wrap (x.B * y.C))) rfl rfl rfl) ?_
 refine sQ 85 (Y_fieldAddr (B := aD b) (i := 0) (s := 0) k_fd_122_2_2_3 k_sz_3_1 rfl rfl) ?_
 refine sQ 86 (Y_load1 (B := aD b) (i := 2) (cs := kR_ x) (v := vi x.C) k_sc_3 rfl rfl (hS3.cf (i := 0) rfl) rfl) ?_
 refine sQ 87 (Y_fieldAddr (B := aD b1) (i := 0) (s := 0) k_fd_122_1_1_3 k_sz_3_1 rfl rfl) ?_
 refine sQ 88 (Y_load1 (B := aD b1) (i := 1) (cs := kR_ y) (v := vi y.B) k_sc_3 rfl rfl (hS3.cf (i := 1) rfl) rfl) ?_
 refine sQ 89 (Y_mul (k := .i64) (a := x.C) (b := y.B) rfl rfl rfl) ?_
 refine sQ 90 (Y_add (k := .i64) (a := (i64.wrap ((i64.wrap (x.A * y.D)) + (i64.wrap (x.B * y.C))))) (b := (i64.wrap (x.C * y.B))) rfl rfl rfl) ?_
 refine sQ 91 (Y_fieldAddr (B := aD b) (i := 0) (s := 0) k_fd_122_3_3_3 k_sz_3_1 rfl rfl) ?_
 refine sQ 92 (Y_load1 (B := aD b) (i := 3) (cs := kR_ x) (v := vi x.D) k_sc_3 rfl rfl (hS3.cf (i := 0) rfl) rfl) ?_
 refine sQ 93 (Y_fieldAddr (B := aD b1) (i := 0) (s := 0) k_fd_122_0_0_3 k_sz_3_1 rfl rfl) ?_
 refine sQ 94 (Y_load1 (B := aD b1) (i := 0) (cs := kR_ y) (v := vi y.A) k_sc_3 rfl rfl (hS3.cf (i := 1) rfl) rfl) ?_
 refine sQ 95 (Y_mul (k := .i64) (a := x.D) (b := y.A) rfl rfl rfl) ?_
 refine sQ 96 (Y_add (k := .i64) (a := (i64.wrap ((i64.wrap ((i64.wrap (x.A * y.D)) + (i64.wrap (x.B * y.C)))) + (i64.wrap (x.C * y.B))))) (b := (i64.wrap (x.D * y.A))) rfl rfl rfl) ?_
 refine sQ 97 (Y_buildS (zs := [vi 0, vi 0, vi 0, vi 0]) (vs := [(0, vi (i64.wrap ((i64.wrap ((i64.wrap ((i64.wrap (x.A * y.A)) - (i64.wrap (x.B * y.D)))) - (i64.wrap (x.C * y.C)))) - (i64.wrap (x.D * y.B))))), (1, vi (i64.wrap ((i64.wrap ((i64.wrap ((i64.wrap (x.A * y.B)) + (i64.wrap (x.B * y.A)))) - (i64.wrap (x.C * y.D)))) - (i64.wrap (x.D * y.C))))), (2, vi (i64.wrap ((i64.wrap ((i64.wrap ((i64.wrap (x.A * y.C)) + (i64.wrap (x.B * y.B)))) + (i64.wrap (x.C * y.A)))) - (i64.wrap (x.D * y.D))))), (3, vi (i64.wrap ((i64.wrap ((i64.wrap ((i64.wrap (x.A * y.D)) + (i64.wrap (x.B * y.C)))) + (i64.wrap (x.C * y.B)))) + (i64.wrap (x.D * y.A)))))]) (cs := [vi (i64.wrap ((i64.wrap ((i64.wrap ((i64.wrap (x.A * y.A)) - (i64.wrap (x.B * y.D)))) - (i64.wrap (x.C * y.C)))) - (i64.wrap (x.D * y.B)))), vi (i64.wrap ((i64.wrap ((i64.wrap ((i64.wrap (x.A * y.B)) + (i64.wrap (x.B * y.A)))) - (i64.wrap (x.C * y.D)))) - (i64.wrap (x.D * y.C)))), vi (i64.wrap ((i64.wrap ((i64.wrap ((i64.wrap (x.A * y.C)) + (i64.wrap (x.B * y.B)))) + (i64.wrap (x.C * y.A)))) - (i64.wrap (x.D * y.D)))), vi (i64.wrap ((i64.wrap ((i64.wrap ((i64.wrap (x.A * y.D)) + (i64.wrap (x.B * y.C)))) + (i64.wrap (x.C * y.B)))) + (i64.wrap (x.D * y.A))))]) k_pl_122 k_zero_122 rfl (mpc rfl (mpc rfl (mpc rfl (mpc rfl mpn)))) rfl) ?_
 refine s0 (Ys_store (i := 2) (s := 4) (B := aD b2) (T' := 122) (v := .agg #[vi (i64.wrap ((i64.wrap ((i64.wrap ((i64.wrap (x.A * y.A)) - (i64.wrap (x.B * y.D)))) - (i64.wrap (x.C * y.C)))) - (i64.wrap (x.D * y.B)))), vi (i64.wrap ((i64.wrap ((i64.wrap ((i64.wrap (x.A * y.B)) + (i64.wrap (x.B * y.A)))) - (i64.wrap (x.C * y.D)))) - (i64.wrap (x.D * y.C)))), vi (i64.wrap ((i64.wrap ((i64.wrap ((i64.wrap (x.A * y.C)) + (i64.wrap (x.B * y.B)))) + (i64.wrap (x.C * y.A)))) - (i64.wrap (x.D * y.D)))), vi (i64.wrap ((i64.wrap ((i64.wrap ((i64.wrap (x.A * y.D)) + (i64.wrap (x.B * y.C)))) + (i64.wrap (x.C * y.B)))) + (i64.wrap (x.D * y.A))))]) (vs := [vi (i64.wrap ((i64.wrap ((i64.wrap ((i64.wrap (x.A * y.A)) - (i64.wrap (x.B * y.D)))) - (i64.wrap (x.C * y.C)))) - (i64.wrap (x.D * y.B)))), vi (i64.wrap ((i64.wrap ((i64.wrap ((i64.wrap (x.A * y.B)) + (i64.wrap (x.B * y.A)))) - (i64.wrap (x.C * y.D)))) - (i64.wrap (x.D * y.C)))), vi (i64.wrap ((i64.wrap ((i64.wrap ((i64.wrap (x.A * y.C)) + (i64.wrap (x.B * y.B)))) + (i64.wrap (x.C * y.A)))) - (i64.wrap (x.D * y.D)))), vi (i64.wrap ((i64.wrap ((i64.wrap ((i64.wrap (x.A * y.D)) + (i64.wrap (x.B * y.C)))) + (i64.wrap (x.C * y.B)))) + (i64.wrap (x.D * y.A))))]) (k := 0) (cs' := [vi (i64.wrap ((i64.wrap ((i64.wrap ((i64.wrap (x.A * y.A)) - (i64.wrap (x.B * y.D)))) - (i64.wrap (x.C * y.C)))) - (i64.wrap (x.D * y.B)))), vi (i64.wrap ((i64.wrap ((i64.wrap ((i64.wrap (x.A * y.B)) + (i64.wrap (x.B * y.A)))) - (i64.wrap (x.C * y.D)))) - (i64.wrap (x.D * y.C)))), vi (i64.wrap ((i64.wrap ((i64.wrap ((i64.wrap (x.A * y.C)) + (i64.wrap (x.B * y.B)))) + (i64.wrap (x.C * y.A)))) - (i64.wrap (x.D * y.D)))), vi (i64.wrap ((i64.wrap ((i64.wrap ((i64.wrap (x.A * y.D)) + (i64.wrap (x.B * y.C)))) + (i64.wrap (x.C * y.B)))) + (i64.wrap (x.D * y.A))))]) hS3 k_sz_122_4 rfl rfl rfl rfl rfl rfl rfl (lB rfl) rfl rfl) ?_
 rintro _ w_3 ⟨rfl, hS4⟩
 refine rw_nil (cw_ret ?_)
 obtain rfl := some_inj hF
 exact ret1 Try.results200 (v1 := .agg #[vi (i64.wrap ((i64.wrap ((i64.wrap ((i64.wrap (x.A * y.A)) - (i64.wrap (x.B * y.D)))) - (i64.wrap (x.C * y.C)))) - (i64.wrap (x.D * y.B)))), vi (i64.wrap ((i64.wrap ((i64.wrap ((i64.wrap (x.A * y.B)) + (i64.wrap (x.B * y.A)))) - (i64.wrap (x.C * y.D)))) - (i64.wrap (x.D * y.C)))), vi (i64.wrap ((i64.wrap ((i64.wrap ((i64.wrap (x.A * y.C)) + (i64.wrap (x.B * y.B)))) + (i64.wrap (x.C * y.A)))) - (i64.wrap (x.D * y.D)))), vi (i64.wrap ((i64.wrap ((i64.wrap ((i64.wrap (x.A * y.D)) + (i64.wrap (x.B * y.C)))) + (i64.wrap (x.C * y.B)))) + (i64.wrap (x.D * y.A))))]) (resAt_cellA (B := aD b2) (i := 0) (cs := [vi (i64.wrap ((i64.wrap ((i64.wrap ((i64.wrap (x.A * y.A)) - (i64.wrap (x.B * y.D)))) - (i64.wrap (x.C * y.C)))) - (i64.wrap (x.D * y.B)))), vi (i64.wrap ((i64.wrap ((i64.wrap ((i64.wrap (x.A * y.B)) + (i64.wrap (x.B * y.A)))) - (i64.wrap (x.C * y.D)))) - (i64.wrap (x.D * y.C)))), vi (i64.wrap ((i64.wrap ((i64.wrap ((i64.wrap (x.A * y.C)) + (i64.wrap (x.B * y.B)))) + (i64.wrap (x.C * y.A)))) - (i64.wrap (x.D * y.D)))), vi (i64.wrap ((i64.wrap ((i64.wrap ((i64.wrap (x.A * y.D)) + (i64.wrap (x.B * y.C)))) + (i64.wrap (x.C * y.B)))) + (i64.wrap (x.D * y.A))))]) (vs := [vi (i64.wrap ((i64.wrap ((i64.wrap ((i64.wrap (x.A * y.A)) - (i64.wrap (x.B * y.D)))) - (i64.wrap (x.C * y.C)))) - (i64.wrap (x.D * y.B)))), vi (i64.wrap ((i64.wrap ((i64.wrap ((i64.wrap (x.A * y.B)) + (i64.wrap (x.B * y.A)))) - (i64.wrap (x.C * y.D)))) - (i64.wrap (x.D * y.C)))), vi (i64.wrap ((i64.wrap ((i64.wrap ((i64.wrap (x.A * y.C)) + (i64.wrap (x.B * y.B)))) + (i64.wrap (x.C * y.A)))) - (i64.wrap (x.D * y.D)))), vi (i64.wrap ((i64.wrap ((i64.wrap ((i64.wrap (x.A * y.D)) + (i64.wrap (x.B * y.C)))) + (i64.wrap (x.C * y.B)))) + (i64.wrap (x.D * y.A))))]) rfl k_ag_122 k_sz_122_4 (hS4.cf (i := 2) rfl) rfl rfl) ⟨rfl, (hS4.sN [])⟩

theorem c_spec_l2C_mul (c : Tl2C) (x : TDyadic) (y : TDyadic) (B : Option Addr) (w0 : World)  (hS : ST w0 (bl [⟨B, 127, [.bool c.bad], 1⟩]) w0 [⟨B, 127, [.bool c.bad], 1⟩] []) {r_ : TDyadic} {m : Tl2C} (hF : F_spec_l2C_mul c x y = some (r_, m)) :
  CV Try.prog 137 #[pt B 0, gD_ x, gD_ y] w0 (fun v w' => v = (gD_ r_) ∧ ST w0 (bl [⟨B, 127, [.bool c.bad], 1⟩]) w' [⟨B, 127, [.bool m.bad], 1⟩] []) := by
 unfold F_spec_l2C_mul at hF
 refine cv_of_cw 30 Try.func137 rfl Try.ntmps137 rfl ?_
 refine cw_seq (cw_region ?_)
 refine sS 4 (Ys_box (T := 124) (v := gD_ x) (cs := kD_ x) (m := 5) hS rfl rfl rfl rfl) ?_
 rintro _ w_ ⟨b, rfl, hS1⟩
 refine sS 5 (Ys_box (T := 124) (v := gD_ y) (cs := kD_ y) (m := 5) hS1 rfl rfl rfl rfl) ?_
 rintro _ w_1 ⟨b1, rfl, hS2⟩
 refine sS 6 (Ys_alloc (T := 124) (cs := kZ_) (m := 5) hS2 k_zero_124 rfl rfl rfl) ?_
 rintro _ w_2 ⟨b2, rfl, hS3⟩
 refine rw_nil (cw_seq (cw_seq (cw_region ?_)))
 refine sQ 7 (Y_fieldAddr (B := aD b) (i := 0) (s := 0) k_fd_124_1_4_3 k_sz_3_1 rfl rfl) ?_
 refine sQ 8 (Y_load1 (B := aD b) (i := 4) (cs := kD_ x) (v := vi x.Exp) k_sc_3 rfl rfl (hS3.cf (i := 1) rfl) rfl) ?_
 refine sQ 9 (Y_fieldAddr (B := aD b1) (i := 0) (s := 0) k_fd_124_1_4_3 k_sz_3_1 rfl rfl) ?_
 refine sQ 10 (Y_load1 (B := aD b1) (i := 4) (cs := kD_ y) (v := vi y.Exp) k_sc_3 rfl rfl (hS3.cf (i := 2) rfl) rfl) ?_
 refine sQ 11 (Y_add (k := .i64) (a := x.Exp) (b := y.Exp) rfl rfl rfl) ?_
 refine sQ 12 (Y_gt (k := .i64) (a := (i64.wrap (x.Exp + y.Exp))) (b := 60) rfl rfl rfl) (rw_nil ?_)
 refine cw_cond (b := (decide (60 < (i64.wrap (x.Exp + y.Exp))))) rfl (fun hb => ?_) (fun hb => ?_)
 ·skip
  have hF1 := ct hF hb
  refine cw_seq (cw_region ?_)
  refine sQ 13 (Y_move (v := pt B 0) rfl rfl) ?_
  refine sQ 14 (Y_nilCheck (B := B) (i := 0) rfl rfl) ?_
  refine sQ 15 (Y_fieldAddr (B := B) (i := 0) (s := 0) k_fd_127_0_0_4 k_sz_4_1 rfl rfl) ?_
  refine s0 (Ys_store (i := 0) (s := 1) (B := B) (T' := 127) (v := .bool true) (vs := [.bool true]) (k := 0) (cs' := [.bool true]) hS3 k_sz_4_1 rfl rfl rfl rfl rfl rfl rfl (lB rfl) rfl rfl) ?_
  rintro _ w_3 ⟨rfl, hS4⟩
  refine rw_nil (cw_seq (cw_region ?_))
  refine sQ 16 (Y_buildS (zs := kZ_) (vs := []) (cs := kZ_) k_pl_124 k_zero_124 rfl mpn rfl) ?_
  refine s0 (Ys_store (i := 3) (s := 5) (B := aD b2) (T' := 124) (v := gZ_) (vs := kZ_) (k := 0) (cs' := kZ_) hS4 k_sz_124_5 rfl rfl rfl rfl rfl rfl rfl (lB rfl) rfl rfl) ?_
  rintro _ w_4 ⟨rfl, hS5⟩
  refine rw_nil (cw_ret ?_)
  obtain ⟨rfl, rfl⟩ := pr2 (some_inj hF1)
  exact ret1 Try.results137 (v1 := gZ_) (resAt_cellA (B := aD b2) (i := 0) (cs := kZ_) (vs := kZ_) rfl k_ag_124 k_sz_124_5 (hS5.cf (i := 3) rfl) rfl rfl) ⟨rfl, (hS5.sN [0])⟩
 ·skip
  have hF2 := cf' hF hb
  refine cw_skip (cw_seq ?_)
  obtain ⟨r_1, hc, hF2⟩ := bind_inv hF2
  obtain ⟨⟨r_2, m1⟩, hc1, hF2⟩ := bind_inv hF2
  obtain ⟨r_3, hc2, hF2⟩ := bind_inv hF2
  refine ra_start (hS3.se [1, 2]).fn (by kernel_rfl) ?_
  have hS9 := hS3.drew
  refine rq 0 17 (v := pt B 0) rfl (hS9.se [1, 2]) (fun w' hw' => (Y_move (v := pt B 0) rfl rfl)) ?_
  refine rq 1 18 (v := pt (aD b) 0) rfl (hS9.se [1, 2]) (fun w' hw' => (Y_fieldAddr (B := aD b) (i := 0) (s := 3) k_fd_124_0_0_122 k_sz_122_4 rfl rfl)) ?_
  refine rq 2 19 (v := gR_ x.Num) rfl (hS9.se [1, 2]) (fun w' hw' => (Y_loadA (B := aD b) (i := 0) (cs := kD_ x) (vs := kR_ x.Num) k_ag_122 k_sz_122_4 rfl rfl (ST.cf hw' (i := 0) rfl) rfl rfl)) ?_
  refine rq 3 20 (v := pt (aD b1) 0) rfl (hS9.se [1, 2]) (fun w' hw' => (Y_fieldAddr (B := aD b1) (i := 0) (s := 3) k_fd_124_0_0_122 k_sz_122_4 rfl rfl)) ?_
  refine rq 4 21 (v := gR_ y.Num) rfl (hS9.se [1, 2]) (fun w' hw' => (Y_loadA (B := aD b1) (i := 0) (cs := kD_ y) (vs := kR_ y.Num) k_ag_122 k_sz_122_4 rfl rfl (ST.cf hw' (i := 1) rfl) rfl rfl)) ?_
  refine rq 7 24 (v := pt (aD b) 4) rfl (hS9.se [1, 2]) (fun w' hw' => (Y_fieldAddr (B := aD b) (i := 0) (s := 0) k_fd_124_1_4_3 k_sz_3_1 rfl rfl)) ?_
  refine rq 8 25 (v := vi x.Exp) rfl (hS9.se [1, 2]) (fun w' hw' => (Y_load1 (B := aD b) (i := 4) (cs := kD_ x) (v := vi x.Exp) k_sc_3 rfl rfl (ST.cf hw' (i := 0) rfl) rfl)) ?_
  refine rq 9 26 (v := pt (aD b1) 4) rfl (hS9.se [1, 2]) (fun w' hw' => (Y_fieldAddr (B := aD b1) (i := 0) (s := 0) k_fd_124_1_4_3 k_sz_3_1 rfl rfl)) ?_
  refine rq 10 27 (v := vi y.Exp) rfl (hS9.se [1, 2]) (fun w' hw' => (Y_load1 (B := aD b1) (i := 4) (cs := kD_ y) (v := vi y.Exp) k_sc_3 rfl rfl (ST.cf hw' (i := 1) rfl) rfl)) ?_
  refine rq 11 28 (v := vi (i64.wrap (x.Exp + y.Exp))) rfl (hS9.se [1, 2]) (fun w' hw' => (Y_add (k := .i64) (a := x.Exp) (b := y.Exp) rfl rfl rfl)) ?_
  refine rA [5] ?_
  refine ra_c 22 (i := 5) rfl rfl rfl (Yc_func (g := 200) (vs := [gR_ x.Num, gR_ y.Num]) k_call_200 rfl (mc rfl (mc rfl mn)) (c_spec_l1Mul x.Num y.Num _  (hS9.inn0 [] rfl) hc)) ?_ ?_
  ·rintro _ w_5 ⟨rfl, hd⟩
   have hS10 := hS9.out00 hd
   refine ⟨(hS10.se [1, 2]), ?_⟩
   refine rA [6] ?_
   refine ra_c 23 (i := 6) rfl rfl rfl (Yc_func (g := 196) (vs := [pt B 0, gR_ r_1]) k_call_196 rfl (mc rfl (mc rfl mn)) (c_spec_l2C_ring c r_1 B _  (hS10.inn [true, false, false, false] rfl [] rfl) hc1)) ?_ ?_
   ·rintro _ w_6 ⟨rfl, hd1⟩
    have hS11 := hS10.out [true, false, false, false] rfl hd1
    refine ⟨(hS11.se [0, 1]), ?_⟩
    refine rA [12] ?_
    refine ra_c 29 (i := 12) rfl rfl rfl (Yc_func (g := 198) (vs := [gR_ r_2, vi (i64.wrap (x.Exp + y.Exp))]) k_call_198 rfl (mc rfl (mc rfl mn)) (c_spec_l2Low r_2 (i64.wrap (x.Exp + y.Exp)) _  (hS11.inn0 [] rfl) hc2)) ?_ ?_
    ·rintro _ w_7 ⟨rfl, hd2⟩
     have hS12 := hS11.out00 hd2
     refine ⟨(hS12.se [0, 1]), ?_⟩
     refine rA [13] ?_
     refine ra_s0 (i := 13) rfl rfl rfl (Ys_store (i := 2) (s := 5) (B := aD b2) (T' := 124) (v := gD_ r_3) (vs := kD_ r_3) (k := 0) (cs' := kD_ r_3) hS12 k_sz_124_5 rfl rfl rfl rfl rfl rfl rfl (lB rfl) rfl rfl) ?_ ?_
     ·rintro _ w_8 ⟨rfl, hS13⟩
      refine ⟨(hS13.se [0, 1]), ?_⟩
      refine ra_done (by kernel_rfl) ?_
      refine cw_ret ?_
      obtain ⟨rfl, rfl⟩ := pr2 (some_inj hF2)
      exact ret1 Try.results137 (v1 := gD_ r_3) (resAt_cellA (B := aD b2) (i := 0) (cs := kD_ r_3) (vs := kD_ r_3) rfl k_ag_124 k_sz_124_5 (hS13.cf (i := 2) rfl) rfl rfl) ⟨rfl, (hS13.sN [3])⟩
     exact allR_nil
    exact allR_nil
   exact allR_nil
  exact allR_nil

theorem c_spec_l1Conj (x : TRing)  (w0 : World)  (hS : ST w0 [] w0 [] []) {r_ : TRing} (hF : F_spec_l1Conj x = some r_) :
  CV Try.prog 201 #[gR_ x] w0 (fun v w' => v = (gR_ r_) ∧ ST w0 [] w' [] []) := by
 unfold F_spec_l1Conj at hF
 refine cv_of_cw 15 Try.func201 rfl Try.ntmps201 rfl ?_
 refine cw_seq (cw_region ?_)
 refine sS 1 (Ys_box (T := 122) (v := gR_ x) (cs := kR_ x) (m := 4) hS rfl rfl rfl rfl) ?_
 rintro _ w_ ⟨b, rfl, hS1⟩
 refine sS 2 (Ys_alloc (T := 122) (cs := [vi 0, vi 0, vi 0, vi 0]) (m := 4) hS1 k_zero_122 rfl rfl rfl) ?_
 rintro _ w_1 ⟨b1, rfl, hS2⟩
 refine rw_nil (cw_seq (cw_region ?_))
 refine sQ 3 (Y_fieldAddr (B := aD b) (i := 0) (s := 0) k_fd_122_0_0_3 k_sz_3_1 rfl rfl) ?_
 refine sQ 4 (Y_load1 (B := aD b) (i := 0) (cs := kR_ x) (v := vi x.A) k_sc_3 rfl rfl (hS2.cf (i := 0) rfl) rfl) ?_
 refine sQ 5 (Y_fieldAddr (B := aD b) (i := 0) (s := 0) k_fd_122_3_3_3 k_sz_3_1 rfl rfl) ?_
 refine sQ 6 (Y_load1 (B := aD b) (i := 3) (cs := kR_ x) (v := vi x.D) k_sc_3 rfl rfl (hS2.cf (i := 0) rfl) rfl) ?_
 refine sQ 7 (Y_neg (k := .i64) (a := x.D) rfl rfl) ?_
 refine sQ 8 (Y_fieldAddr (B := aD b) (i := 0) (s := 0) k_fd_122_2_2_3 k_sz_3_1 rfl rfl) ?_
 refine sQ 9 (Y_load1 (B := aD b) (i := 2) (cs := kR_ x) (v := vi x.C) k_sc_3 rfl rfl (hS2.cf (i := 0) rfl) rfl) ?_
 refine sQ 10 (Y_neg (k := .i64) (a := x.C) rfl rfl) ?_
 refine sQ 11 (Y_fieldAddr (B := aD b) (i := 0) (s := 0) k_fd_122_1_1_3 k_sz_3_1 rfl rfl) ?_
 refine sQ 12 (Y_load1 (B := aD b) (i := 1) (cs := kR_ x) (v := vi x.B) k_sc_3 rfl rfl (hS2.cf (i := 0) rfl) rfl) ?_
 refine sQ 13 (Y_neg (k := .i64) (a := x.B) rfl rfl) ?_
 refine sQ 14 (Y_buildS (zs := [vi 0, vi 0, vi 0, vi 0]) (vs := [(0, vi x.A), (1, vi (i64.wrap (-x.D))), (2, vi (i64.wrap (-x.C))), (3, vi (i64.wrap (-x.B)))]) (cs := [vi x.A, vi (i64.wrap (-x.D)), vi (i64.wrap (-x.C)), vi (i64.wrap (-x.B))]) k_pl_122 k_zero_122 rfl (mpc rfl (mpc rfl (mpc rfl (mpc rfl mpn)))) rfl) ?_
 refine s0 (Ys_store (i := 1) (s := 4) (B := aD b1) (T' := 122) (v := .agg #[vi x.A, vi (i64.wrap (-x.D)), vi (i64.wrap (-x.C)), vi (i64.wrap (-x.B))]) (vs := [vi x.A, vi (i64.wrap (-x.D)), vi (i64.wrap (-x.C)), vi (i64.wrap (-x.B))]) (k := 0) (cs' := [vi x.A, vi (i64.wrap (-x.D)), vi (i64.wrap (-x.C)), vi (i64.wrap (-x.B))]) hS2 k_sz_122_4 rfl rfl rfl rfl rfl rfl rfl (lB rfl) rfl rfl) ?_
 rintro _ w_2 ⟨rfl, hS3⟩
 refine rw_nil (cw_ret ?_)
 obtain rfl := some_inj hF
 exact ret1 Try.results201 (v1 := .agg #[vi x.A, vi (i64.wrap (-x.D)), vi (i64.wrap (-x.C)), vi (i64.wrap (-x.B))]) (resAt_cellA (B := aD b1) (i := 0) (cs := [vi x.A, vi (i64.wrap (-x.D)), vi (i64.wrap (-x.C)), vi (i64.wrap (-x.B))]) (vs := [vi x.A, vi (i64.wrap (-x.D)), vi (i64.wrap (-x.C)), vi (i64.wrap (-x.B))]) rfl k_ag_122 k_sz_122_4 (hS3.cf (i := 1) rfl) rfl rfl) ⟨rfl, (hS3.sN [])⟩

theorem c_spec_l2Conj (x : TDyadic)  (w0 : World)  (hS : ST w0 [] w0 [] []) {r_ : TDyadic} (hF : F_spec_l2Conj x = some r_) :
  CV Try.prog 138 #[gD_ x] w0 (fun v w' => v = (gD_ r_) ∧ ST w0 [] w' [] []) := by
 unfold F_spec_l2Conj at hF
 refine cv_of_cw 9 Try.func138 rfl Try.ntmps138 rfl ?_
 refine cw_seq (cw_region ?_)
 refine sS 1 (Ys_box (T := 124) (v := gD_ x) (cs := kD_ x) (m := 5) hS rfl rfl rfl rfl) ?_
 rintro _ w_ ⟨b, rfl, hS1⟩
 refine sS 2 (Ys_alloc (T := 124) (cs := kZ_) (m := 5) hS1 k_zero_124 rfl rfl rfl) ?_
 rintro _ w_1 ⟨b1, rfl, hS2⟩
 refine rw_nil (cw_seq ?_)
 obtain ⟨r_1, hc, hF⟩ := bind_inv hF
 refine ra_start (hS2.se [0]).fn (by kernel_rfl) ?_
 have hS4 := hS2.drew
 refine rq 0 3 (v := pt (aD b) 0) rfl (hS4.se [0]) (fun w' hw' => (Y_fieldAddr (B := aD b) (i := 0) (s := 3) k_fd_124_0_0_122 k_sz_122_4 rfl rfl)) ?_
 refine rq 1 4 (v := gR_ x.Num) rfl (hS4.se [0]) (fun w' hw' => (Y_loadA (B := aD b) (i := 0) (cs := kD_ x) (vs := kR_ x.Num) k_ag_122 k_sz_122_4 rfl rfl (ST.cf hw' (i := 0) rfl) rfl rfl)) ?_
 refine rq 3 6 (v := pt (aD b) 4) rfl (hS4.se [0]) (fun w' hw' => (Y_fieldAddr (B := aD b) (i := 0) (s := 0) k_fd_124_1_4_3 k_sz_3_1 rfl rfl)) ?_
 refine rq 4 7 (v := vi x.Exp) rfl (hS4.se [0]) (fun w' hw' => (Y_load1 (B := aD b) (i := 4) (cs := kD_ x) (v := vi x.Exp) k_sc_3 rfl rfl (ST.cf hw' (i := 0) rfl) rfl)) ?_
 refine rA [2] ?_
 refine ra_c 5 (i := 2) rfl rfl rfl (Yc_func (g := 201) (vs := [gR_ x.Num]) k_call_201 rfl (mc rfl mn) (c_spec_l1Conj x.Num _  (hS4.inn0 [] rfl) hc)) ?_ ?_
 ·rintro _ w_2 ⟨rfl, hd⟩
  have hS5 := hS4.out00 hd
  refine ⟨(hS5.se [0]), ?_⟩
  refine rq 5 8 (v := .agg #[vi r_1.A, vi r_1.B, vi r_1.C, vi r_1.D, vi x.Exp]) rfl (hS5.se [0]) (fun w' hw' => (Y_buildS (zs := kZ_) (vs := [(0, gR_ r_1), (1, vi x.Exp)]) (cs := [vi r_1.A, vi r_1.B, vi r_1.C, vi r_1.D, vi x.Exp]) k_pl_124 k_zero_124 rfl (mpc rfl (mpc rfl mpn)) rfl)) ?_
  refine rA [6] ?_
  refine ra_s0 (i := 6) rfl rfl rfl (Ys_store (i := 1) (s := 5) (B := aD b1) (T' := 124) (v := .agg #[vi r_1.A, vi r_1.B, vi r_1.C, vi r_1.D, vi x.Exp]) (vs := [vi r_1.A, vi r_1.B, vi r_1.C, vi r_1.D, vi x.Exp]) (k := 0) (cs' := [vi r_1.A, vi r_1.B, vi r_1.C, vi r_1.D, vi x.Exp]) hS5 k_sz_124_5 rfl rfl rfl rfl rfl rfl rfl (lB rfl) rfl rfl) ?_ ?_
  ·rintro _ w_3 ⟨rfl, hS6⟩
   refine ⟨(hS6.se [0]), ?_⟩
   refine ra_done (by kernel_rfl) ?_
   refine cw_ret ?_
   obtain rfl := some_inj hF
   exact ret1 Try.results138 (v1 := .agg #[vi r_1.A, vi r_1.B, vi r_1.C, vi r_1.D, vi x.Exp]) (resAt_cellA (B := aD b1) (i := 0) (cs := [vi r_1.A, vi r_1.B, vi r_1.C, vi r_1.D, vi x.Exp]) (vs := [vi r_1.A, vi r_1.B, vi r_1.C, vi r_1.D, vi x.Exp]) rfl k_ag_124 k_sz_124_5 (hS6.cf (i := 1) rfl) rfl rfl) ⟨rfl, (hS6.sN [])⟩
  exact allR_nil
 exact allR_nil

theorem c_spec_l1Turn (x : TRing) (k_ : Int)  (w0 : World)  (hS : ST w0 [] w0 [] []) {r_ : TRing} (hF : F_spec_l1Turn x k_ = some r_) :
  CV Try.prog 202 #[gR_ x, vi k_] w0 (fun v w' => v = (gR_ r_) ∧ ST w0 [] w' [] []) := by
 unfold F_spec_l1Turn at hF
 refine cv_of_cw 24 Try.func202 rfl Try.ntmps202 rfl ?_
 refine cw_seq (cw_region ?_)
 refine sS 2 (Ys_box (T := 122) (v := gR_ x) (cs := kR_ x) (m := 4) hS rfl rfl rfl rfl) ?_
 rintro _ w_ ⟨b, rfl, hS1⟩
 refine sS 4 (Ys_alloc (T := 122) (cs := [vi 0, vi 0, vi 0, vi 0]) (m := 4) hS1 k_zero_122 rfl rfl rfl) ?_
 rintro _ w_1 ⟨b1, rfl, hS2⟩
 refine rw_nil (cw_seq (cw_seq (cw_region ?_)))
 refine sQ 5 (Y_move (v := vi k_) rfl rfl) ?_
 refine sQ 6 (Y_rem (k := .i64) (a := k_) (b := 8) rfl rfl rfl (by decide)) ?_
 refine sQ 7 (Y_add (k := .i64) (a := (Int.tmod k_ 8)) (b := 8) rfl rfl rfl) ?_
 refine sQ 8 (Y_rem (k := .i64) (a := (i64.wrap ((Int.tmod k_ 8) + 8))) (b := 8) rfl rfl rfl (by decide)) ?_
 refine sQ 1 (Y_assign (v := vi (Int.tmod (i64.wrap ((Int.tmod k_ 8) + 8)) 8)) rfl rfl) (rw_nil ?_)
 obtain ⟨z, hz, hF1⟩ := bind_inv hF
 refine cw_block ?_
 refine cw_loop (fun k f w => ∃ (k_1 : Int) (A : Int) (B : Int) (C : Int) (D : Int), FF f [(1, vi k_1), (2, pt (aD b) 0), (4, pt (aD b1) 0)] ∧ ST w0 [] w [⟨aD b, 122, [vi A, vi B, vi C, vi D], 4⟩, ⟨aD b1, 122, [vi 0, vi 0, vi 0, vi 0], 4⟩] [] ∧ whX F_spec_l1Turn_l1 k (k_1, A, B, C, D) = some z) fuel ⟨(Int.tmod (i64.wrap ((Int.tmod k_ 8) + 8)) 8), x.A, x.B, x.C, x.D, (FF.cons rfl (FF.cons rfl (FF.cons rfl FF.nil))), (hS2.sel [0, 1] rfl rfl), hz⟩ ?_
 rintro k_2 f w ⟨k_1, A, B, C, D, hf, hS3, hL⟩
 obtain ⟨k_3, y, rfl, hb, hL1⟩ := whX_go hL
 unfold F_spec_l1Turn_l1 at hb
 refine cw_seq (cw_seq (cw_region ?_))
 refine sQ 9 (Y_move (v := vi k_1) rfl (hf.get 1 0 rfl)) ?_
 refine sQ 10 (Y_gt (k := .i64) (a := k_1) (b := 0) rfl rfl rfl) (rw_nil ?_)
 refine cw_cond (b := (decide (0 < k_1))) rfl (fun hb1 => ?_) (fun hb1 => ?_)
 ·skip
  have hF2 := ct hb hb1
  refine cw_skip (cw_seq (cw_block (cw_region ?_)))
  refine sQ 13 (Y_fieldAddr (B := aD b) (i := 0) (s := 0) k_fd_122_3_3_3 k_sz_3_1 rfl (hf.get 2 1 rfl)) ?_
  refine sQ 14 (Y_load1 (B := aD b) (i := 3) (cs := [vi A, vi B, vi C, vi D]) (v := vi D) k_sc_3 rfl rfl (hS3.cf (i := 0) rfl) rfl) ?_
  refine sQ 15 (Y_neg (k := .i64) (a := D) rfl rfl) ?_
  refine sQ 16 (Y_fieldAddr (B := aD b) (i := 0) (s := 0) k_fd_122_0_0_3 k_sz_3_1 rfl (hf.get 2 1 rfl)) ?_
  refine sQ 17 (Y_load1 (B := aD b) (i := 0) (cs := [vi A, vi B, vi C, vi D]) (v := vi A) k_sc_3 rfl rfl (hS3.cf (i := 0) rfl) rfl) ?_
  refine sQ 18 (Y_fieldAddr (B := aD b) (i := 0) (s := 0) k_fd_122_1_1_3 k_sz_3_1 rfl (hf.get 2 1 rfl)) ?_
  refine sQ 19 (Y_load1 (B := aD b) (i := 1) (cs := [vi A, vi B, vi C, vi D]) (v := vi B) k_sc_3 rfl rfl (hS3.cf (i := 0) rfl) rfl) ?_
  refine sQ 20 (Y_fieldAddr (B := aD b) (i := 0) (s := 0) k_fd_122_2_2_3 k_sz_3_1 rfl (hf.get 2 1 rfl)) ?_
  refine sQ 21 (Y_load1 (B := aD b) (i := 2) (cs := [vi A, vi B, vi C, vi D]) (v := vi C) k_sc_3 rfl rfl (hS3.cf (i := 0) rfl) rfl) ?_
  refine sQ 22 (Y_buildS (zs := [vi 0, vi 0, vi 0, vi 0]) (vs := [(0, vi (i64.wrap (-D))), (1, vi A), (2, vi B), (3, vi C)]) (cs := [vi (i64.wrap (-D)), vi A, vi B, vi C]) k_pl_122 k_zero_122 rfl (mpc rfl (mpc rfl (mpc rfl (mpc rfl mpn)))) rfl) ?_
  refine s0 (Ys_store (i := 0) (s := 4) (B := aD b) (T' := 122) (v := .agg #[vi (i64.wrap (-D)), vi A, vi B, vi C]) (vs := [vi (i64.wrap (-D)), vi A, vi B, vi C]) (k := 0) (cs' := [vi (i64.wrap (-D)), vi A, vi B, vi C]) hS3 k_sz_122_4 rfl (hf.get 2 1 rfl) rfl rfl rfl rfl rfl (lB rfl) rfl rfl) ?_
  rintro _ w_2 ⟨rfl, hS4⟩
  refine rw_nil (cw_region ?_)
  refine sQ 11 (Y_move (v := vi k_1) rfl (hf.get 1 0 rfl)) ?_
  refine sQ 12 (Y_sub (k := .i64) (a := k_1) (b := 1) rfl rfl rfl) ?_
  refine sQ 1 (Y_assign (v := vi (i64.wrap (k_1 - 1))) rfl rfl) (rw_nil ?_)
  obtain rfl := some_inj hF2
  exact ⟨k_3, Nat.lt_succ_self _, (i64.wrap (k_1 - 1)), (i64.wrap (-D)), A, B, C, (FF.cons rfl (FF.cons (hf.get 2 1 rfl) (FF.cons (hf.get 4 2 rfl) FF.nil))), (hS4.sel [0, 1] rfl rfl), hL1⟩
 ·skip
  have hF3 := cf' hb hb1
  refine cw_exit rfl ?_
  obtain rfl := some_inj hF3
  obtain rfl := some_inj hL1
  refine cw_seq (cw_region ?_)
  refine sQ 23 (Y_loadA (B := aD b) (i := 0) (cs := [vi A, vi B, vi C, vi D]) (vs := [vi A, vi B, vi C, vi D]) k_ag_122 k_sz_122_4 rfl (hf.get 2 1 rfl) (hS3.cf (i := 0) rfl) rfl rfl) ?_
  refine s0 (Ys_store (i := 1) (s := 4) (B := aD b1) (T' := 122) (v := .agg #[vi A, vi B, vi C, vi D]) (vs := [vi A, vi B, vi C, vi D]) (k := 0) (cs' := [vi A, vi B, vi C, vi D]) hS3 k_sz_122_4 rfl (hf.get 4 2 rfl) rfl rfl rfl rfl rfl (lB rfl) rfl rfl) ?_
  rintro _ w_3 ⟨rfl, hS5⟩
  refine rw_nil (cw_ret ?_)
  obtain rfl := some_inj hF1
  exact ret1 Try.results202 (v1 := .agg #[vi A, vi B, vi C, vi D]) (resAt_cellA (B := aD b1) (i := 0) (cs := [vi A, vi B, vi C, vi D]) (vs := [vi A, vi B, vi C, vi D]) (hf.get 4 2 rfl) k_ag_122 k_sz_122_4 (hS5.cf (i := 1) rfl) rfl rfl) ⟨rfl, (hS5.sN [])⟩

theorem c_spec_l2Power (k_ : Int)  (w0 : World)  (hS : ST w0 [] w0 [] []) {r_ : TDyadic} (hF : F_spec_l2Power k_ = some r_) :
  CV Try.prog 139 #[vi k_] w0 (fun v w' => v = (gD_ r_) ∧ ST w0 [] w' [] []) := by
 unfold F_spec_l2Power at hF
 refine cv_of_cw 7 Try.func139 rfl Try.ntmps139 rfl ?_
 refine cw_seq (cw_region ?_)
 refine sS 2 (Ys_alloc (T := 124) (cs := kZ_) (m := 5) hS k_zero_124 rfl rfl rfl) ?_
 rintro _ w_ ⟨b, rfl, hS1⟩
 refine rw_nil (cw_seq (cw_region ?_))
 refine sQ 3 (Y_buildS (zs := [vi 0, vi 0, vi 0, vi 0]) (vs := [(0, vi 1)]) (cs := [vi 1, vi 0, vi 0, vi 0]) k_pl_122 k_zero_122 rfl (mpc rfl mpn) rfl) ?_
 refine sQ 4 (Y_move (v := vi k_) rfl rfl) ?_
 obtain ⟨r_1, hc, hF⟩ := bind_inv hF
 refine sc 5 rfl rfl (Yc_func (g := 202) (vs := [.agg #[vi 1, vi 0, vi 0, vi 0], vi k_]) k_call_202 rfl (mc rfl (mc rfl mn)) (c_spec_l1Turn (TRing.mk 1 0 0 0) k_ _  (hS1.inn0 [] rfl) hc)) ?_
 rintro _ w_1 ⟨rfl, hd⟩
 have hS2 := hS1.out00 hd
 refine sQ 6 (Y_buildS (zs := kZ_) (vs := [(0, gR_ r_1)]) (cs := [vi r_1.A, vi r_1.B, vi r_1.C, vi r_1.D, vi 0]) k_pl_124 k_zero_124 rfl (mpc rfl mpn) rfl) ?_
 refine s0 (Ys_store (i := 0) (s := 5) (B := aD b) (T' := 124) (v := .agg #[vi r_1.A, vi r_1.B, vi r_1.C, vi r_1.D, vi 0]) (vs := [vi r_1.A, vi r_1.B, vi r_1.C, vi r_1.D, vi 0]) (k := 0) (cs' := [vi r_1.A, vi r_1.B, vi r_1.C, vi r_1.D, vi 0]) hS2 k_sz_124_5 rfl rfl rfl rfl rfl rfl rfl (lB rfl) rfl rfl) ?_
 rintro _ w_2 ⟨rfl, hS3⟩
 refine rw_nil (cw_ret ?_)
 obtain rfl := some_inj hF
 exact ret1 Try.results139 (v1 := .agg #[vi r_1.A, vi r_1.B, vi r_1.C, vi r_1.D, vi 0]) (resAt_cellA (B := aD b) (i := 0) (cs := [vi r_1.A, vi r_1.B, vi r_1.C, vi r_1.D, vi 0]) (vs := [vi r_1.A, vi r_1.B, vi r_1.C, vi r_1.D, vi 0]) rfl k_ag_124 k_sz_124_5 (hS3.cf (i := 0) rfl) rfl rfl) ⟨rfl, (hS3.sN [])⟩

theorem c_spec_l2C_unit (c : Tl2C) (v_ : TMatrix) (B : Option Addr) (B1 : Option Addr) (c1 n : Nat) (w0 : World) (hn : v_.Cells.length = n) (hS : ST w0 (bl [⟨B, 127, [.bool c.bad], 1⟩]) w0 [⟨B, 127, [.bool c.bad], 1⟩] [⟨B1, (v_.Cells.flatMap eN0)⟩]) {r_ : Bool} {m : Tl2C} (hF : F_spec_l2C_unit c v_ = some (r_, m)) :
  CV Try.prog 77 #[pt B 0, .agg #[vi v_.Rows, vi v_.Cols, .slice B1 n c1]] w0 (fun v w' => v = .bool r_ ∧ ST w0 (bl [⟨B, 127, [.bool c.bad], 1⟩]) w' [⟨B, 127, [.bool m.bad], 1⟩] []) := by
 subst hn
 unfold F_spec_l2C_unit at hF
 refine cv_of_cw 35 Try.func77 rfl Try.ntmps77 rfl ?_
 refine cw_seq (cw_region ?_)
 refine sS 3 (Ys_box (T := 75) (v := gM_ v_ B1 c1) (cs := kM_ v_ B1 c1) (m := 3) hS rfl rfl rfl rfl) ?_
 rintro _ w_ ⟨b, rfl, hS1⟩
 refine sQ 4 (Y_assign (v := .bool false) rfl rfl) (rw_nil (cw_seq (cw_region ?_)))
 refine sQ 8 (Y_buildS (zs := kZ_) (vs := []) (cs := kZ_) k_pl_124 k_zero_124 rfl mpn rfl) ?_
 refine sS 5 (Ys_alloc (T := 124) (cs := kZ_) (m := 5) hS1 k_zero_124 rfl rfl rfl) ?_
 rintro _ w_1 ⟨b1, rfl, hS2⟩
 refine s0 (Ys_store (i := 2) (s := 5) (B := aD b1) (T' := 124) (v := gZ_) (vs := kZ_) (k := 0) (cs' := kZ_) hS2 k_sz_124_5 rfl rfl rfl rfl rfl rfl rfl (lB rfl) rfl rfl) ?_
 rintro _ w_2 ⟨rfl, hS3⟩
 refine rw_nil (cw_seq (cw_seq (cw_region ?_)))
 refine sQ 9 (Y_fieldAddr (B := aD b) (i := 0) (s := 0) k_fd_75_2_2_73 k_sz_73_1 rfl rfl) ?_
 refine sQ 10 (Y_load1 (B := aD b) (i := 2) (cs := kM_ v_ B1 c1) (v := .slice B1 v_.Cells.length c1) k_sc_73 rfl rfl (hS3.cf (i := 1) rfl) rfl) ?_
 refine sQ 11 (Y_len (B := B1) (m := v_.Cells.length) (c := c1) k_sl_73_124 rfl rfl) ?_
 refine sQ 12 (Y_move (v := vi 0) rfl rfl) (rw_nil ?_)
 obtain ⟨hN, hF⟩ := chk_inv hF
 obtain ⟨z, hz, hF1⟩ := bind_inv hF
 refine cw_block ?_
 refine cw_loop (fun k f w => ∃ (i : Nat) (bad : Bool) (A : Int) (B2 : Int) (C : Int) (D : Int) (Exp : Int), FF f [(0, pt B 0), (5, pt (aD b1) 0), (10, .slice B1 v_.Cells.length c1), (11, vi (v_.Cells.length : Int)), (12, vi (i : Int))] ∧ ST w0 (bl [⟨B, 127, [.bool c.bad], 1⟩]) w [⟨B, 127, [.bool bad], 1⟩, ⟨aD b1, 124, [vi A, vi B2, vi C, vi D, vi Exp], 5⟩] [⟨B1, (v_.Cells.flatMap eN0)⟩] ∧ i + k = v_.Cells.length ∧ forN (F_spec_l2C_unit_l1 v_) k i (bad, A, B2, C, D, Exp) = some z) v_.Cells.length ⟨0, c.bad, 0, 0, 0, 0, 0, (FF.cons rfl (FF.cons rfl (FF.cons rfl (FF.cons rfl (FF.cons rfl FF.nil))))), (hS3.sel [0, 2] rfl rfl), Nat.zero_add _, hz⟩ ?_
 rintro k_ f w ⟨i, bad, A, B2, C, D, Exp, hf, hS4, hik, hL⟩
 refine cw_seq (cw_region ?_)
 refine sQ 13 (Y_lt (k := .i64) (a := (i : Int)) (b := (v_.Cells.length : Int)) rfl (hf.get 12 4 rfl) (hf.get 11 3 rfl)) (rw_nil (cw_seq ?_))
 refine cw_cond (b := (decide ((i : Int) < (v_.Cells.length : Int)))) rfl (fun hlt => ?_) (fun hlt => ?_)
 ·skip
  have hlt1 : i < v_.Cells.length := by have h := of_decide_eq_true hlt; omega
  obtain ⟨k_1, rfl⟩ : ∃ k2, k_ = k2 + 1 := ⟨k_ - 1, by omega⟩
  obtain ⟨y, hb, hL1⟩ := forN_go hL
  unfold F_spec_l2C_unit_l1 at hb
  refine cw_skip (cw_seq (cw_block (cw_seq (cw_region ?_))))
  obtain ⟨x, hx, hb⟩ := bind_inv hb
  refine sQ 14 (Y_index (B := B1) (m := v_.Cells.length) (c := c1) (k := .i64) (i := (i : Int)) k_sl_73_124 k_sz_124_5 rfl (hf.get 10 2 rfl) (hf.get 12 4 rfl) (gi_isSome eN1 rfl (hS4.rf (i := 0) rfl) hx) (getI_nn hx) (getI_ltI hx rfl)) ?_
  refine sQ 15 (Y_loadA (B := B1) (i := (i : Int).toNat * 5) (cs := (v_.Cells.flatMap eN0)) (vs := kD_ x) k_ag_124 k_sz_124_5 rfl rfl (hS4.rf (i := 0) rfl) (eN1 x) (gi_seg eN1 hx)) ?_
  refine sS 7 (Ys_alloc (T := 124) (cs := kZ_) (m := 5) hS4 k_zero_124 rfl rfl rfl) ?_
  rintro _ w_3 ⟨b2, rfl, hS5⟩
  refine s0 (Ys_store (i := 2) (s := 5) (B := aD b2) (T' := 124) (v := gD_ x) (vs := kD_ x) (k := 0) (cs' := kD_ x) hS5 k_sz_124_5 rfl rfl rfl rfl rfl rfl rfl (lB rfl) rfl rfl) ?_
  rintro _ w_4 ⟨rfl, hS6⟩
  refine rw_nil ?_
  obtain ⟨r_1, hc, hb⟩ := bind_inv hb
  obtain ⟨⟨r_2, m1⟩, hc1, hb⟩ := bind_inv hb
  obtain ⟨⟨r_3, m2⟩, hc2, hb⟩ := bind_inv hb
  refine cw_mid (fun f w => FF f [(0, pt B 0), (5, pt (aD b1) 0), (10, .slice B1 v_.Cells.length c1), (11, vi (v_.Cells.length : Int)), (12, vi (i : Int))] ∧ ST w0 (bl [⟨B, 127, [.bool c.bad], 1⟩]) w [⟨B, 127, [.bool m2.bad], 1⟩, ⟨aD b1, 124, kD_ r_3, 5⟩] [⟨B1, (v_.Cells.flatMap eN0)⟩]) ?_ ?_
  ·skip
   refine ra_start (hS6.se [2]).fn (by kernel_rfl) ?_
   have hS11 := hS6.drew
   refine rq 0 16 (v := pt B 0) rfl (hS11.se [2]) (fun w' hw' => (Y_move (v := pt B 0) rfl (hf.get 0 0 rfl))) ?_
   refine rq 2 18 (v := pt B 0) rfl (hS11.se [2]) (fun w' hw' => (Y_move (v := pt B 0) rfl (hf.get 0 0 rfl))) ?_
   refine rq 3 19 (v := gD_ x) rfl (hS11.se [2]) (fun w' hw' => (Y_loadA (B := aD b2) (i := 0) (cs := kD_ x) (vs := kD_ x) k_ag_124 k_sz_124_5 rfl rfl (ST.cf hw' (i := 0) rfl) rfl rfl)) ?_
   refine rq 4 20 (v := gD_ x) rfl (hS11.se [2]) (fun w' hw' => (Y_loadA (B := aD b2) (i := 0) (cs := kD_ x) (vs := kD_ x) k_ag_124 k_sz_124_5 rfl rfl (ST.cf hw' (i := 0) rfl) rfl rfl)) ?_
   refine rA [1, 5] ?_
   refine ra_y 17 (i := 1) (v := .agg #[vi A, vi B2, vi C, vi D, vi Exp]) rfl rfl rfl (Y_loadA (B := aD b1) (i := 0) (cs := [vi A, vi B2, vi C, vi D, vi Exp]) (vs := [vi A, vi B2, vi C, vi D, vi Exp]) k_ag_124 k_sz_124_5 rfl (hf.get 5 1 rfl) (hS11.cf (i := 1) rfl) rfl rfl) (hS11.se [2]) ?_ ?_
   ·skip
    refine rA [5] ?_
    refine ra_c 21 (i := 5) rfl rfl rfl (Yc_func (g := 138) (vs := [gD_ x]) k_call_138 rfl (mc rfl mn) (c_spec_l2Conj x _  (hS11.inn0 [] rfl) hc)) ?_ ?_
    ·rintro _ w_5 ⟨rfl, hd⟩
     have hS12 := hS11.out00 hd
     refine ⟨(hS12.se [2]), ?_⟩
     refine rA [6] ?_
     refine ra_c 22 (i := 6) rfl rfl rfl (Yc_func (g := 137) (vs := [pt B 0, gD_ x, gD_ r_1]) k_call_137 rfl (mc rfl (mc rfl (mc rfl mn))) (c_spec_l2C_mul (Tl2C.mk bad) x r_1 B _  (hS12.inn [true, false, false] rfl [] rfl) hc1)) ?_ ?_
     ·rintro _ w_6 ⟨rfl, hd1⟩
      have hS13 := hS12.out [true, false, false] rfl hd1
      refine ⟨(hS13.se [1]), ?_⟩
      refine rA [7] ?_
      refine ra_c 23 (i := 7) rfl rfl rfl (Yc_func (g := 136) (vs := [pt B 0, .agg #[vi A, vi B2, vi C, vi D, vi Exp], gD_ r_2]) k_call_136 rfl (mc rfl (mc rfl (mc rfl mn))) (c_spec_l2C_add m1 (TDyadic.mk (TRing.mk A B2 C D) Exp) r_2 B _  (hS13.inn [false, false, true] rfl [] rfl) hc2)) ?_ ?_
      ·rintro _ w_7 ⟨rfl, hd2⟩
       have hS14 := hS13.out [false, false, true] rfl hd2
       refine ⟨(hS14.se [1]), ?_⟩
       refine rA [8] ?_
       refine ra_s0 (i := 8) rfl rfl rfl (Ys_store (i := 0) (s := 5) (B := aD b1) (T' := 124) (v := gD_ r_3) (vs := kD_ r_3) (k := 0) (cs' := kD_ r_3) hS14 k_sz_124_5 rfl (hf.get 5 1 rfl) rfl rfl rfl rfl rfl (lB rfl) rfl rfl) ?_ ?_
       ·rintro _ w_8 ⟨rfl, hS15⟩
        refine ⟨(hS15.se [1]), ?_⟩
        refine ra_done (by kernel_rfl) ?_
        exact ⟨(FF.cons (hf.get 0 0 rfl) (FF.cons (hf.get 5 1 rfl) (FF.cons (hf.get 10 2 rfl) (FF.cons (hf.get 11 3 rfl) (FF.cons (hf.get 12 4 rfl) FF.nil))))), (hS15.sel [2, 0] rfl rfl)⟩
       exact allR_nil
      exact allR_nil
     exact allR_nil
    exact allR_nil
   refine ra_c 21 (i := 5) rfl rfl rfl (Yc_func (g := 138) (vs := [gD_ x]) k_call_138 rfl (mc rfl mn) (c_spec_l2Conj x _  (hS11.inn0 [] rfl) hc)) ?_ ?_
   ·rintro _ w_9 ⟨rfl, hd3⟩
    have hS16 := hS11.out00 hd3
    refine ⟨(hS16.se [2]), ?_⟩
    refine rA [1, 6] ?_
    refine ra_y 17 (i := 1) (v := .agg #[vi A, vi B2, vi C, vi D, vi Exp]) rfl rfl rfl (Y_loadA (B := aD b1) (i := 0) (cs := [vi A, vi B2, vi C, vi D, vi Exp]) (vs := [vi A, vi B2, vi C, vi D, vi Exp]) k_ag_124 k_sz_124_5 rfl (hf.get 5 1 rfl) (hS16.cf (i := 1) rfl) rfl rfl) (hS16.se [2]) ?_ ?_
    ·skip
     refine rA [6] ?_
     refine ra_c 22 (i := 6) rfl rfl rfl (Yc_func (g := 137) (vs := [pt B 0, gD_ x, gD_ r_1]) k_call_137 rfl (mc rfl (mc rfl (mc rfl mn))) (c_spec_l2C_mul (Tl2C.mk bad) x r_1 B _  (hS16.inn [true, false, false] rfl [] rfl) hc1)) ?_ ?_
     ·rintro _ w_10 ⟨rfl, hd4⟩
      have hS17 := hS16.out [true, false, false] rfl hd4
      refine ⟨(hS17.se [1]), ?_⟩
      refine rA [7] ?_
      refine ra_c 23 (i := 7) rfl rfl rfl (Yc_func (g := 136) (vs := [pt B 0, .agg #[vi A, vi B2, vi C, vi D, vi Exp], gD_ r_2]) k_call_136 rfl (mc rfl (mc rfl (mc rfl mn))) (c_spec_l2C_add m1 (TDyadic.mk (TRing.mk A B2 C D) Exp) r_2 B _  (hS17.inn [false, false, true] rfl [] rfl) hc2)) ?_ ?_
      ·rintro _ w_11 ⟨rfl, hd5⟩
       have hS18 := hS17.out [false, false, true] rfl hd5
       refine ⟨(hS18.se [1]), ?_⟩
       refine rA [8] ?_
       refine ra_s0 (i := 8) rfl rfl rfl (Ys_store (i := 0) (s := 5) (B := aD b1) (T' := 124) (v := gD_ r_3) (vs := kD_ r_3) (k := 0) (cs' := kD_ r_3) hS18 k_sz_124_5 rfl (hf.get 5 1 rfl) rfl rfl rfl rfl rfl (lB rfl) rfl rfl) ?_ ?_
       ·rintro _ w_12 ⟨rfl, hS19⟩
        refine ⟨(hS19.se [1]), ?_⟩
        refine ra_done (by kernel_rfl) ?_
        exact ⟨(FF.cons (hf.get 0 0 rfl) (FF.cons (hf.get 5 1 rfl) (FF.cons (hf.get 10 2 rfl) (FF.cons (hf.get 11 3 rfl) (FF.cons (hf.get 12 4 rfl) FF.nil))))), (hS19.sel [2, 0] rfl rfl)⟩
       exact allR_nil
      exact allR_nil
     exact allR_nil
    refine ra_c 22 (i := 6) rfl rfl rfl (Yc_func (g := 137) (vs := [pt B 0, gD_ x, gD_ r_1]) k_call_137 rfl (mc rfl (mc rfl (mc rfl mn))) (c_spec_l2C_mul (Tl2C.mk bad) x r_1 B _  (hS16.inn [true, false, false] rfl [] rfl) hc1)) ?_ ?_
    ·rintro _ w_13 ⟨rfl, hd6⟩
     have hS20 := hS16.out [true, false, false] rfl hd6
     refine ⟨(hS20.se [1]), ?_⟩
     refine rA [1] ?_
     refine ra_y 17 (i := 1) (v := .agg #[vi A, vi B2, vi C, vi D, vi Exp]) rfl rfl rfl (Y_loadA (B := aD b1) (i := 0) (cs := [vi A, vi B2, vi C, vi D, vi Exp]) (vs := [vi A, vi B2, vi C, vi D, vi Exp]) k_ag_124 k_sz_124_5 rfl (hf.get 5 1 rfl) (hS20.cf (i := 0) rfl) rfl rfl) (hS20.se [1]) ?_ ?_
     ·skip
      refine rA [7] ?_
      refine ra_c 23 (i := 7) rfl rfl rfl (Yc_func (g := 136) (vs := [pt B 0, .agg #[vi A, vi B2, vi C, vi D, vi Exp], gD_ r_2]) k_call_136 rfl (mc rfl (mc rfl (mc rfl mn))) (c_spec_l2C_add m1 (TDyadic.mk (TRing.mk A B2 C D) Exp) r_2 B _  (hS20.inn [false, false, true] rfl [] rfl) hc2)) ?_ ?_
      ·rintro _ w_14 ⟨rfl, hd7⟩
       have hS21 := hS20.out [false, false, true] rfl hd7
       refine ⟨(hS21.se [1]), ?_⟩
       refine rA [8] ?_
       refine ra_s0 (i := 8) rfl rfl rfl (Ys_store (i := 0) (s := 5) (B := aD b1) (T' := 124) (v := gD_ r_3) (vs := kD_ r_3) (k := 0) (cs' := kD_ r_3) hS21 k_sz_124_5 rfl (hf.get 5 1 rfl) rfl rfl rfl rfl rfl (lB rfl) rfl rfl) ?_ ?_
       ·rintro _ w_15 ⟨rfl, hS22⟩
        refine ⟨(hS22.se [1]), ?_⟩
        refine ra_done (by kernel_rfl) ?_
        exact ⟨(FF.cons (hf.get 0 0 rfl) (FF.cons (hf.get 5 1 rfl) (FF.cons (hf.get 10 2 rfl) (FF.cons (hf.get 11 3 rfl) (FF.cons (hf.get 12 4 rfl) FF.nil))))), (hS22.sel [2, 0] rfl rfl)⟩
       exact allR_nil
      exact allR_nil
     exact allR_nil
    exact allR_nil
   exact allR_nil
  rintro f w ⟨hf1, hS10⟩
  refine cw_region ?_
  refine sQ 24 (Y_add (k := .i64) (a := (i : Int)) (b := 1) rfl (hf1.get 12 4 rfl) rfl) ?_
  refine sQ 12 (Y_move (v := vi (i64.wrap ((i : Int) + 1))) rfl rfl) (rw_nil ?_)
  obtain rfl := some_inj hb
  exact ⟨k_1, Nat.lt_succ_self _, i + 1, m2.bad, r_3.Num.A, r_3.Num.B, r_3.Num.C, r_3.Num.D, r_3.Exp, (FF.cons (hf1.get 0 0 rfl) (FF.cons (hf1.get 5 1 rfl) (FF.cons (hf1.get 10 2 rfl) (FF.cons (hf1.get 11 3 rfl) (FF.cons (congrArg (Value.int .i64) (wr_succ hlt1 hN)) FF.nil))))), (hS10.sel [0, 1] rfl rfl), (by omega), hL1⟩
 ·skip
  obtain rfl : k_ = 0 := by have h := of_decide_eq_false hlt; omega
  refine cw_exit rfl ?_
  obtain rfl := some_inj hL
  refine cw_seq ?_
  obtain ⟨r_4, hc3, hF1⟩ := bind_inv hF1
  refine ra_start (hS4.se [0, 1]).fn (by kernel_rfl) ?_
  have hS24 := hS4.drew
  refine rq 0 25 (v := pt B 0) rfl (hS24.se [0, 1]) (fun w' hw' => (Y_move (v := pt B 0) rfl (hf.get 0 0 rfl))) ?_
  refine rq 1 26 (v := pt B 0) rfl (hS24.se [0, 1]) (fun w' hw' => (Y_nilCheck (B := B) (i := 0) rfl rfl)) ?_
  refine rq 2 27 (v := pt B 0) rfl (hS24.se [0, 1]) (fun w' hw' => (Y_fieldAddr (B := B) (i := 0) (s := 0) k_fd_127_0_0_4 k_sz_4_1 rfl rfl)) ?_
  refine rq 3 28 (v := .bool bad) rfl (hS24.se [0, 1]) (fun w' hw' => (Y_load1 (B := B) (i := 0) (cs := [.bool bad]) (v := .bool bad) k_sc_4 rfl rfl (ST.cf hw' (i := 0) rfl) rfl)) ?_
  refine rq 4 29 (v := .bool (!bad)) rfl (hS24.se [0, 1]) (fun w' hw' => (Y_not (p := bad) rfl rfl)) ?_
  refine rq 5 30 (v := .bool (!bad)) rfl (hS24.se [0, 1]) (fun w' hw' => (Y_move (v := .bool (!bad)) rfl rfl)) ?_
  refine ra_gq 6 31 (B := (!bad)) (v := .agg #[vi A, vi B2, vi C, vi D, vi Exp]) rfl rfl rfl (uT_ 30) (by kernel_rfl) (by kernel_rfl) (by kernel_rfl) (hS24.se [0, 1]) (fun hg w' hw' => (Y_loadA (B := aD b1) (i := 0) (cs := [vi A, vi B2, vi C, vi D, vi Exp]) (vs := [vi A, vi B2, vi C, vi D, vi Exp]) k_ag_124 k_sz_124_5 rfl (hf.get 5 1 rfl) (ST.cf hw' (i := 1) rfl) rfl rfl)) ?_
  refine rA [7] ?_
  refine ra_gc 32 (i := 7) (B := (!bad)) (v := gD_ r_4) (F := hS24.fn) rfl rfl rfl (uT_ 30) hS24 (fun hg1 => (Yc_func (g := 139) (vs := [vi 0]) k_call_139 rfl (mc rfl mn) (CV.mono (c_spec_l2Power 0 _  (hS24.inn0 [] rfl) (gb_inv hc3 hg1)) (by rintro _ _ ⟨rfl, h⟩; exact ⟨rfl, hS24.out00 h⟩)))) ?_ ?_
  ·rintro w_16 hS25
   refine ⟨(hS25.se [0, 1]), ?_⟩
   refine ra_gq 8 33 (B := (!bad)) (v := .bool (((A == r_4.Num.A) && ((B2 == r_4.Num.B) && ((C == r_4.Num.C) && ((D == r_4.Num.D) && true)))) && ((Exp == r_4.Exp) && true))) rfl rfl rfl (uT_ 30) (by kernel_rfl) (by kernel_rfl) (by kernel_rfl) (hS25.se [0, 1]) (fun hg2 w' hw' => (Y_eqA (xs := #[vi A, vi B2, vi C, vi D, vi Exp]) (ys := #[vi r_4.Num.A, vi r_4.Num.B, vi r_4.Num.C, vi r_4.Num.D, vi r_4.Exp]) (b := (((A == r_4.Num.A) && ((B2 == r_4.Num.B) && ((C == r_4.Num.C) && ((D == r_4.Num.D) && true)))) && ((Exp == r_4.Exp) && true))) k_eg_124 rfl (gv_of (v := .agg #[vi A, vi B2, vi C, vi D, vi Exp]) hg2) (gv_of (v := gD_ r_4) hg2) (eqr_struct (xs := [vi A, vi B2, vi C, vi D, vi Exp]) (ys := kD_ r_4) k_st_124 k_ho_124 (pts_ag (us := [vi A, vi B2, vi C, vi D]) (vs := kR_ r_4.Num) k_ag_122 k_sz_122_4 rfl rfl (eqr_struct (xs := [vi A, vi B2, vi C, vi D]) (ys := kR_ r_4.Num) k_st_122 k_ho_122 (pts_sc k_sc_3 rfl rfl (eqr_int k_int_3_i64) (pts_sc k_sc_3 rfl rfl (eqr_int k_int_3_i64) (pts_sc k_sc_3 rfl rfl (eqr_int k_int_3_i64) (pts_sc k_sc_3 rfl rfl (eqr_int k_int_3_i64) pts_nil))))) (pts_sc k_sc_3 rfl rfl (eqr_int k_int_3_i64) pts_nil))))) ?_
   refine ra_q 9 34 (v := .bool ((!bad) && (((A == r_4.Num.A) && ((B2 == r_4.Num.B) && ((C == r_4.Num.C) && ((D == r_4.Num.D) && true)))) && ((Exp == r_4.Exp) && true)))) rfl rfl rfl (by kernel_rfl) (by kernel_rfl) (by kernel_rfl) (hS25.se [0, 1]) (fun w' hw' => (Y_and (b := (!bad)) (z := (((A == r_4.Num.A) && ((B2 == r_4.Num.B) && ((C == r_4.Num.C) && ((D == r_4.Num.D) && true)))) && ((Exp == r_4.Exp) && true))) rfl rfl rfl rfl)) ?_
   refine ra_q 10 4 (v := .bool ((!bad) && (((A == r_4.Num.A) && ((B2 == r_4.Num.B) && ((C == r_4.Num.C) && ((D == r_4.Num.D) && true)))) && ((Exp == r_4.Exp) && true)))) rfl rfl rfl (by kernel_rfl) (by kernel_rfl) (by kernel_rfl) (hS25.se [0, 1]) (fun w' hw' => (Y_assign (v := .bool ((!bad) && (((A == r_4.Num.A) && ((B2 == r_4.Num.B) && ((C == r_4.Num.C) && ((D == r_4.Num.D) && true)))) && ((Exp == r_4.Exp) && true)))) rfl rfl)) ?_
   refine ra_done (by kernel_rfl) ?_
   refine cw_ret ?_
   obtain ⟨rfl, rfl⟩ := pr2 (some_inj hF1)
   exact ret1 Try.results77 (v1 := .bool ((!bad) && (((A == r_4.Num.A) && ((B2 == r_4.Num.B) && ((C == r_4.Num.C) && ((D == r_4.Num.D) && true)))) && ((Exp == r_4.Exp) && true)))) (resAt_tmp rfl) ⟨rfl, (hS25.sN [0])⟩
  exact allR_nil

theorem c_spec_l1Most (a : Int) (b : Int)  (w0 : World)  (hS : ST w0 [] w0 [] []) {r_ : Int} (hF : F_spec_l1Most a b = some r_) :
  CV Try.prog 145 #[vi a, vi b] w0 (fun v w' => v = vi r_ ∧ ST w0 [] w' [] []) := by
 unfold F_spec_l1Most at hF
 refine cv_of_cw 10 Try.func145 rfl Try.ntmps145 rfl ?_
 refine cw_seq (cw_region ?_)
 refine sQ 4 (Y_assign (v := vi 0) rfl rfl) (rw_nil (cw_seq (cw_seq (cw_region ?_))))
 refine sQ 5 (Y_move (v := vi a) rfl rfl) ?_
 refine sQ 6 (Y_move (v := vi b) rfl rfl) ?_
 refine sQ 7 (Y_gt (k := .i64) (a := a) (b := b) rfl rfl rfl) (rw_nil ?_)
 refine cw_cond (b := (decide (b < a))) rfl (fun hb => ?_) (fun hb => ?_)
 ·skip
  have hF1 := ct hF hb
  refine cw_seq (cw_region ?_)
  refine sQ 8 (Y_move (v := vi a) rfl rfl) ?_
  refine sQ 4 (Y_assign (v := vi a) rfl rfl) (rw_nil (cw_ret ?_))
  obtain rfl := some_inj hF1
  exact ret1 Try.results145 (v1 := vi a) (resAt_tmp rfl) ⟨rfl, (hS.sN [])⟩
 ·skip
  have hF2 := cf' hF hb
  refine cw_skip (cw_seq (cw_region ?_))
  refine sQ 9 (Y_move (v := vi b) rfl rfl) ?_
  refine sQ 4 (Y_assign (v := vi b) rfl rfl) (rw_nil (cw_ret ?_))
  obtain rfl := some_inj hF2
  exact ret1 Try.results145 (v1 := vi b) (resAt_tmp rfl) ⟨rfl, (hS.sN [])⟩

theorem c_spec_l3Exp (m : TMatrix) (B : Option Addr) (c n : Nat) (w0 : World) (hn : m.Cells.length = n) (hS : ST w0 [] w0 [] [⟨B, (m.Cells.flatMap eN0)⟩]) {r_ : Int} (hF : F_spec_l3Exp m = some r_) :
  CV Try.prog 140 #[.agg #[vi m.Rows, vi m.Cols, .slice B n c]] w0 (fun v w' => v = vi r_ ∧ ST w0 [] w' [] []) := by
 subst hn
 unfold F_spec_l3Exp at hF
 refine cv_of_cw 19 Try.func140 rfl Try.ntmps140 rfl ?_
 refine cw_seq (cw_region ?_)
 refine sS 1 (Ys_box (T := 75) (v := gM_ m B c) (cs := kM_ m B c) (m := 3) hS rfl rfl rfl rfl) ?_
 rintro _ w_ ⟨b, rfl, hS1⟩
 refine sQ 2 (Y_assign (v := vi 0) rfl rfl) (rw_nil (cw_seq (cw_region ?_)))
 refine sQ 3 (Y_assign (v := vi 0) rfl rfl) (rw_nil (cw_seq (cw_seq (cw_region ?_))))
 refine sQ 6 (Y_fieldAddr (B := aD b) (i := 0) (s := 0) k_fd_75_2_2_73 k_sz_73_1 rfl rfl) ?_
 refine sQ 7 (Y_load1 (B := aD b) (i := 2) (cs := kM_ m B c) (v := .slice B m.Cells.length c) k_sc_73 rfl rfl (hS1.cf (i := 0) rfl) rfl) ?_
 refine sQ 8 (Y_len (B := B) (m := m.Cells.length) (c := c) k_sl_73_124 rfl rfl) ?_
 refine sQ 9 (Y_move (v := vi 0) rfl rfl) (rw_nil ?_)
 obtain ⟨hN, hF⟩ := chk_inv hF
 obtain ⟨z, hz, hF1⟩ := bind_inv hF
 refine cw_block ?_
 refine cw_loop (fun k f w => ∃ (i : Nat) (k_ : Int), FF f [(3, vi k_), (7, .slice B m.Cells.length c), (8, vi (m.Cells.length : Int)), (9, vi (i : Int))] ∧ ST w0 [] w [] [⟨B, (m.Cells.flatMap eN0)⟩] ∧ i + k = m.Cells.length ∧ forN (F_spec_l3Exp_l1 m) k i k_ = some z) m.Cells.length ⟨0, 0, (FF.cons rfl (FF.cons rfl (FF.cons rfl (FF.cons rfl FF.nil)))), (hS1.sel [] rfl rfl), Nat.zero_add _, hz⟩ ?_
 rintro k_1 f w ⟨i, k_, hf, hS2, hik, hL⟩
 refine cw_seq (cw_region ?_)
 refine sQ 10 (Y_lt (k := .i64) (a := (i : Int)) (b := (m.Cells.length : Int)) rfl (hf.get 9 3 rfl) (hf.get 8 2 rfl)) (rw_nil (cw_seq ?_))
 refine cw_cond (b := (decide ((i : Int) < (m.Cells.length : Int)))) rfl (fun hlt => ?_) (fun hlt => ?_)
 ·skip
  have hlt1 : i < m.Cells.length := by have h := of_decide_eq_true hlt; omega
  obtain ⟨k_2, rfl⟩ : ∃ k2, k_1 = k2 + 1 := ⟨k_1 - 1, by omega⟩
  obtain ⟨y, hb, hL1⟩ := forN_go hL
  unfold F_spec_l3Exp_l1 at hb
  refine cw_skip (cw_seq (cw_block (cw_seq (cw_region ?_))))
  obtain ⟨x, hx, hb⟩ := bind_inv hb
  refine sQ 11 (Y_index (B := B) (m := m.Cells.length) (c := c) (k := .i64) (i := (i : Int)) k_sl_73_124 k_sz_124_5 rfl (hf.get 7 1 rfl) (hf.get 9 3 rfl) (gi_isSome eN1 rfl (hS2.rf (i := 0) rfl) hx) (getI_nn hx) (getI_ltI hx rfl)) ?_
  refine sQ 12 (Y_loadA (B := B) (i := (i : Int).toNat * 5) (cs := (m.Cells.flatMap eN0)) (vs := kD_ x) k_ag_124 k_sz_124_5 rfl rfl (hS2.rf (i := 0) rfl) (eN1 x) (gi_seg eN1 hx)) ?_
  refine sS 5 (Ys_alloc (T := 124) (cs := kZ_) (m := 5) hS2 k_zero_124 rfl rfl rfl) ?_
  rintro _ w_1 ⟨b1, rfl, hS3⟩
  refine s0 (Ys_store (i := 0) (s := 5) (B := aD b1) (T' := 124) (v := gD_ x) (vs := kD_ x) (k := 0) (cs' := kD_ x) hS3 k_sz_124_5 rfl rfl rfl rfl rfl rfl rfl (lB rfl) rfl rfl) ?_
  rintro _ w_2 ⟨rfl, hS4⟩
  refine rw_nil (cw_region ?_)
  refine sQ 13 (Y_move (v := vi k_) rfl (hf.get 3 0 rfl)) ?_
  refine sQ 14 (Y_fieldAddr (B := aD b1) (i := 0) (s := 0) k_fd_124_1_4_3 k_sz_3_1 rfl rfl) ?_
  refine sQ 15 (Y_load1 (B := aD b1) (i := 4) (cs := kD_ x) (v := vi x.Exp) k_sc_3 rfl rfl (hS4.cf (i := 0) rfl) rfl) ?_
  obtain ⟨r_1, hc, hb⟩ := bind_inv hb
  refine sc 16 rfl rfl (Yc_func (g := 145) (vs := [vi k_, vi x.Exp]) k_call_145 rfl (mc rfl (mc rfl mn)) (c_spec_l1Most k_ x.Exp _  (hS4.inn0 [] rfl) hc)) ?_
  rintro _ w_3 ⟨rfl, hd⟩
  have hS5 := hS4.out00 hd
  refine sQ 3 (Y_assign (v := vi r_1) rfl rfl) (rw_nil (cw_region ?_))
  refine sQ 17 (Y_add (k := .i64) (a := (i : Int)) (b := 1) rfl (hf.get 9 3 rfl) rfl) ?_
  refine sQ 9 (Y_move (v := vi (i64.wrap ((i : Int) + 1))) rfl rfl) (rw_nil ?_)
  obtain rfl := some_inj hb
  exact ⟨k_2, Nat.lt_succ_self _, i + 1, r_1, (FF.cons rfl (FF.cons (hf.get 7 1 rfl) (FF.cons (hf.get 8 2 rfl) (FF.cons (congrArg (Value.int .i64) (wr_succ hlt1 hN)) FF.nil)))), (hS5.sel [] rfl rfl), (by omega), hL1⟩
 ·skip
  obtain rfl : k_1 = 0 := by have h := of_decide_eq_false hlt; omega
  refine cw_exit rfl ?_
  obtain rfl := some_inj hL
  refine cw_seq (cw_region ?_)
  refine sQ 18 (Y_move (v := vi k_) rfl (hf.get 3 0 rfl)) ?_
  refine sQ 2 (Y_assign (v := vi k_) rfl rfl) (rw_nil (cw_ret ?_))
  obtain rfl := some_inj hF1
  exact ret1 Try.results140 (v1 := vi k_) (resAt_tmp rfl) ⟨rfl, (hS2.sN [])⟩

theorem c_spec_l11Scaled (v_ : TMatrix) (k_ : Int) (B : Option Addr) (c n : Nat) (w0 : World) (hn : v_.Cells.length = n) (hS : ST w0 [] w0 [] [⟨B, (v_.Cells.flatMap eN0)⟩]) {r_ : List TRing} (hF : F_spec_l11Scaled v_ k_ = some r_) :
  CV Try.prog 203 #[.agg #[vi v_.Rows, vi v_.Cols, .slice B n c], vi k_] w0 (fun v w' => ∃ (B1 : Option Addr) (c1 : Nat), v = .slice B1 r_.length c1 ∧ ST w0 [] w' [⟨B1, 122, (r_.flatMap enc_Ring), c1 * 4⟩] []) := by
 subst hn
 unfold F_spec_l11Scaled at hF
 refine cv_of_cw 34 Try.func203 rfl Try.ntmps203 rfl ?_
 refine cw_seq (cw_region ?_)
 refine sS 2 (Ys_box (T := 75) (v := gM_ v_ B c) (cs := kM_ v_ B c) (m := 3) hS rfl rfl rfl rfl) ?_
 rintro _ w_ ⟨b, rfl, hS1⟩
 refine sQ 4 (Y_assign (v := .slice none 0 0) rfl rfl) (rw_nil (cw_seq (cw_region ?_)))
 refine sQ 5 (Y_assign (v := .slice none 0 0) rfl rfl) (rw_nil (cw_seq (cw_seq (cw_region ?_))))
 refine sQ 10 (Y_fieldAddr (B := aD b) (i := 0) (s := 0) k_fd_75_2_2_73 k_sz_73_1 rfl rfl) ?_
 refine sQ 11 (Y_load1 (B := aD b) (i := 2) (cs := kM_ v_ B c) (v := .slice B v_.Cells.length c) k_sc_73 rfl rfl (hS1.cf (i := 0) rfl) rfl) ?_
 refine sQ 12 (Y_len (B := B) (m := v_.Cells.length) (c := c) k_sl_73_124 rfl rfl) ?_
 refine sQ 13 (Y_move (v := vi 0) rfl rfl) (rw_nil ?_)
 obtain ⟨hN, hF⟩ := chk_inv hF
 obtain ⟨z, hz, hF1⟩ := bind_inv hF
 have hS3 := hS1.addNil 122
 refine cw_block ?_
 refine cw_loop (fun k f w => ∃ (i : Nat) (l : List TRing) (B2 : Option Addr) (c2 : Nat), FF f [(1, vi k_), (5, .slice B2 l.length c2), (11, .slice B v_.Cells.length c), (12, vi (v_.Cells.length : Int)), (13, vi (i : Int))] ∧ ST w0 [] w [⟨B2, 122, (l.flatMap enc_Ring), c2 * 4⟩] [⟨B, (v_.Cells.flatMap eN0)⟩] ∧ i + k = v_.Cells.length ∧ forN (F_spec_l11Scaled_l1 v_ k_) k i l = some z) v_.Cells.length ⟨0, [], none, 0, (FF.cons rfl (FF.cons rfl (FF.cons rfl (FF.cons rfl (FF.cons rfl FF.nil))))), (hS3.sel [1] rfl rfl), Nat.zero_add _, hz⟩ ?_
 rintro k_1 f w ⟨i, l, B2, c2, hf, hS2, hik, hL⟩
 refine cw_seq (cw_region ?_)
 refine sQ 14 (Y_lt (k := .i64) (a := (i : Int)) (b := (v_.Cells.length : Int)) rfl (hf.get 13 4 rfl) (hf.get 12 3 rfl)) (rw_nil (cw_seq ?_))
 refine cw_cond (b := (decide ((i : Int) < (v_.Cells.length : Int)))) rfl (fun hlt => ?_) (fun hlt => ?_)
 ·skip
  have hlt1 : i < v_.Cells.length := by have h := of_decide_eq_true hlt; omega
  obtain ⟨k_2, rfl⟩ : ∃ k2, k_1 = k2 + 1 := ⟨k_1 - 1, by omega⟩
  obtain ⟨y, hb, hL1⟩ := forN_go hL
  unfold F_spec_l11Scaled_l1 at hb
  refine cw_skip (cw_seq (cw_block (cw_seq (cw_region ?_))))
  obtain ⟨x, hx, hb⟩ := bind_inv hb
  refine sQ 15 (Y_index (B := B) (m := v_.Cells.length) (c := c) (k := .i64) (i := (i : Int)) k_sl_73_124 k_sz_124_5 rfl (hf.get 11 2 rfl) (hf.get 13 4 rfl) (gi_isSome eN1 rfl (hS2.rf (i := 0) rfl) hx) (getI_nn hx) (getI_ltI hx rfl)) ?_
  refine sQ 16 (Y_loadA (B := B) (i := (i : Int).toNat * 5) (cs := (v_.Cells.flatMap eN0)) (vs := kD_ x) k_ag_124 k_sz_124_5 rfl rfl (hS2.rf (i := 0) rfl) (eN1 x) (gi_seg eN1 hx)) ?_
  refine sS 7 (Ys_alloc (T := 124) (cs := kZ_) (m := 5) hS2 k_zero_124 rfl rfl rfl) ?_
  rintro _ w_1 ⟨b1, rfl, hS4⟩
  refine s0 (Ys_store (i := 1) (s := 5) (B := aD b1) (T' := 124) (v := gD_ x) (vs := kD_ x) (k := 0) (cs' := kD_ x) hS4 k_sz_124_5 rfl rfl rfl rfl rfl rfl rfl (lB rfl) rfl rfl) ?_
  rintro _ w_2 ⟨rfl, hS5⟩
  refine rw_nil (cw_seq (cw_region ?_))
  refine sQ 17 (Y_fieldAddr (B := aD b1) (i := 0) (s := 3) k_fd_124_0_0_122 k_sz_122_4 rfl rfl) ?_
  refine sQ 18 (Y_loadA (B := aD b1) (i := 0) (cs := kD_ x) (vs := kR_ x.Num) k_ag_122 k_sz_122_4 rfl rfl (hS5.cf (i := 1) rfl) rfl rfl) ?_
  refine sS 8 (Ys_alloc (T := 122) (cs := [vi 0, vi 0, vi 0, vi 0]) (m := 4) hS5 k_zero_122 rfl rfl rfl) ?_
  rintro _ w_3 ⟨b2, rfl, hS6⟩
  refine s0 (Ys_store (i := 2) (s := 4) (B := aD b2) (T' := 122) (v := gR_ x.Num) (vs := kR_ x.Num) (k := 0) (cs' := kR_ x.Num) hS6 k_sz_122_4 rfl rfl rfl rfl rfl rfl rfl (lB rfl) rfl rfl) ?_
  rintro _ w_4 ⟨rfl, hS7⟩
  refine rw_nil (cw_seq (cw_seq (cw_region ?_)))
  refine sQ 19 (Y_fieldAddr (B := aD b1) (i := 0) (s := 0) k_fd_124_1_4_3 k_sz_3_1 rfl rfl) ?_
  refine sQ 20 (Y_load1 (B := aD b1) (i := 4) (cs := kD_ x) (v := vi x.Exp) k_sc_3 rfl rfl (hS7.cf (i := 1) rfl) rfl) ?_
  refine sQ 9 (Y_assign (v := vi x.Exp) rfl rfl) (rw_nil ?_)
  obtain ⟨z1, hz1, hF2⟩ := bind_inv hb
  refine cw_block ?_
  refine cw_loop (fun k f w => ∃ (A : Int) (B3 : Int) (C : Int) (D : Int) (e : Int), FF f [(1, vi k_), (5, .slice B2 l.length c2), (8, pt (aD b2) 0), (9, vi e), (11, .slice B v_.Cells.length c), (12, vi (v_.Cells.length : Int)), (13, vi (i : Int))] ∧ ST w0 [] w [⟨B2, 122, (l.flatMap enc_Ring), c2 * 4⟩, ⟨aD b2, 122, [vi A, vi B3, vi C, vi D], 4⟩] [⟨B, (v_.Cells.flatMap eN0)⟩] ∧ whX (F_spec_l11Scaled_l2 k_) k (A, B3, C, D, e) = some z1) fuel ⟨x.Num.A, x.Num.B, x.Num.C, x.Num.D, x.Exp, (FF.cons (hf.get 1 0 rfl) (FF.cons (hf.get 5 1 rfl) (FF.cons rfl (FF.cons rfl (FF.cons (hf.get 11 2 rfl) (FF.cons (hf.get 12 3 rfl) (FF.cons (hf.get 13 4 rfl) FF.nil))))))), (hS7.sel [0, 2] rfl rfl), hz1⟩ ?_
  rintro k_3 f w ⟨A, B3, C, D, e, hf1, hS8, hL2⟩
  obtain ⟨k_4, y1, rfl, hb1, hL3⟩ := whX_go hL2
  unfold F_spec_l11Scaled_l2 at hb1
  refine cw_seq (cw_seq (cw_region ?_))
  refine sQ 21 (Y_move (v := vi e) rfl (hf1.get 9 3 rfl)) ?_
  refine sQ 22 (Y_move (v := vi k_) rfl (hf1.get 1 0 rfl)) ?_
  refine sQ 23 (Y_lt (k := .i64) (a := e) (b := k_) rfl rfl rfl) (rw_nil ?_)
  refine cw_cond (b := (decide (e < k_))) rfl (fun hb2 => ?_) (fun hb2 => ?_)
  ·skip
   have hF3 := ct hb1 hb2
   refine cw_skip (cw_seq (cw_block (cw_region ?_)))
   refine sQ 26 (Y_loadA (B := aD b2) (i := 0) (cs := [vi A, vi B3, vi C, vi D]) (vs := [vi A, vi B3, vi C, vi D]) k_ag_122 k_sz_122_4 rfl (hf1.get 8 2 rfl) (hS8.cf (i := 1) rfl) rfl rfl) ?_
   obtain ⟨r_1, hc, hF3⟩ := bind_inv hF3
   refine sc 27 rfl rfl (Yc_func (g := 197) (vs := [.agg #[vi A, vi B3, vi C, vi D]]) k_call_197 rfl (mc rfl mn) (c_spec_l1Root (TRing.mk A B3 C D) _  (hS8.inn0 [] rfl) hc)) ?_
   rintro _ w_5 ⟨rfl, hd⟩
   have hS9 := hS8.out00 hd
   refine s0 (Ys_store (i := 1) (s := 4) (B := aD b2) (T' := 122) (v := gR_ r_1) (vs := kR_ r_1) (k := 0) (cs' := kR_ r_1) hS9 k_sz_122_4 rfl (hf1.get 8 2 rfl) rfl rfl rfl rfl rfl (lB rfl) rfl rfl) ?_
   rintro _ w_6 ⟨rfl, hS10⟩
   refine rw_nil (cw_region ?_)
   refine sQ 24 (Y_move (v := vi e) rfl (hf1.get 9 3 rfl)) ?_
   refine sQ 25 (Y_add (k := .i64) (a := e) (b := 1) rfl rfl rfl) ?_
   refine sQ 9 (Y_assign (v := vi (i64.wrap (e + 1))) rfl rfl) (rw_nil ?_)
   obtain rfl := some_inj hF3
   exact ⟨k_4, Nat.lt_succ_self _, r_1.A, r_1.B, r_1.C, r_1.D, (i64.wrap (e + 1)), (FF.cons (hf1.get 1 0 rfl) (FF.cons (hf1.get 5 1 rfl) (FF.cons (hf1.get 8 2 rfl) (FF.cons rfl (FF.cons (hf1.get 11 4 rfl) (FF.cons (hf1.get 12 5 rfl) (FF.cons (hf1.get 13 6 rfl) FF.nil))))))), (hS10.sel [0, 1] rfl rfl), hL3⟩
  ·skip
   have hF4 := cf' hb1 hb2
   refine cw_exit rfl ?_
   obtain rfl := some_inj hF4
   obtain rfl := some_inj hL3
   refine cw_region ?_
   refine sQ 28 (Y_move (v := .slice B2 l.length c2) rfl (hf1.get 5 1 rfl)) ?_
   refine sQ 29 (Y_loadA (B := aD b2) (i := 0) (cs := [vi A, vi B3, vi C, vi D]) (vs := [vi A, vi B3, vi C, vi D]) k_ag_122 k_sz_122_4 rfl (hf1.get 8 2 rfl) (hS8.cf (i := 1) rfl) rfl rfl) ?_
   refine sS 30 (Ys_bslice (s := 4) (len := 1) (vs := [(0, .agg #[vi A, vi B3, vi C, vi D])]) (cs := [vi A, vi B3, vi C, vi D]) (zs := [vi 0, vi 0, vi 0, vi 0]) (m := 4) hS8 k_sl_207_122 k_sz_122_4 k_zc_122 rfl (mpc rfl mpn) rfl rfl rfl (by kernel_rfl) (by kernel_rfl) rfl) ?_
   rintro _ w_7 ⟨b3, rfl, hS11⟩
   obtain ⟨hap, hF2⟩ := chk_inv hF2
   refine sS 31 (Ys_append (s := 4) (by' := 32) (i := 0) (nn := l.length) (c := c2) (k := 1) (len := (l ++ [(TRing.mk A B3 C D)]).length) (B := B2) (xs := ([(TRing.mk A B3 C D)].flatMap enc_Ring)) (cs' := ((l ++ [(TRing.mk A B3 C D)]).flatMap enc_Ring)) hS11 k_sl_207_122 k_sz_122_4 k_by_122_32 k_zero_122 rfl (by decide) rfl rfl rfl rfl (fm_lenn (l := l) enc_Ring_len rfl) rfl (hS11.cf (i := 2) rfl) (fm_lenn (l := [(TRing.mk A B3 C D)]) enc_Ring_len rfl) (fm_one' (enc := enc_Ring) enc_Ring_one [(TRing.mk A B3 C D)]) (by have := hap; omega) (by have := hap; simp only [maxLen]; omega) (fm_app _ _) (app_len (l := l) (l' := [(TRing.mk A B3 C D)]) rfl rfl)) ?_
   rintro _ w_8 ⟨B4, c3, rfl, hS12⟩
   refine sQ 5 (Y_assign (v := .slice B4 ((l ++ [(TRing.mk A B3 C D)]).length) c3) rfl rfl) (rw_nil (cw_region ?_))
   refine sQ 32 (Y_add (k := .i64) (a := (i : Int)) (b := 1) rfl (hf1.get 13 6 rfl) rfl) ?_
   refine sQ 13 (Y_move (v := vi (i64.wrap ((i : Int) + 1))) rfl rfl) (rw_nil ?_)
   obtain rfl := some_inj hF2
   exact ⟨k_2, Nat.lt_succ_self _, i + 1, (l ++ [(TRing.mk A B3 C D)]), B4, c3, (FF.cons (hf1.get 1 0 rfl) (FF.cons rfl (FF.cons (hf1.get 11 4 rfl) (FF.cons (hf1.get 12 5 rfl) (FF.cons (congrArg (Value.int .i64) (wr_succ hlt1 hN)) FF.nil))))), (hS12.sel [0] rfl rfl), (by omega), hL1⟩
 ·skip
  obtain rfl : k_1 = 0 := by have h := of_decide_eq_false hlt; omega
  refine cw_exit rfl ?_
  obtain rfl := some_inj hL
  refine cw_seq (cw_region ?_)
  refine sQ 33 (Y_move (v := .slice B2 l.length c2) rfl (hf.get 5 1 rfl)) ?_
  refine sQ 4 (Y_assign (v := .slice B2 l.length c2) rfl rfl) (rw_nil (cw_ret ?_))
  obtain rfl := some_inj hF1
  exact ret1 Try.results203 (v1 := .slice B2 l.length c2) (resAt_tmp rfl) ⟨B2, c2, rfl, (hS2.sN [0])⟩

theorem c_spec_l11Odd (n : Int)  (w0 : World)  (hS : ST w0 [] w0 [] []) {r_ : Int} (hF : F_spec_l11Odd n = some r_) :
  CV Try.prog 236 #[vi n] w0 (fun v w' => v = vi r_ ∧ ST w0 [] w' [] []) := by
 unfold F_spec_l11Odd at hF
 refine cv_of_cw 6 Try.func236 rfl Try.ntmps236 rfl ?_
 refine cw_seq (cw_region ?_)
 refine sQ 2 (Y_assign (v := vi 0) rfl rfl) (rw_nil (cw_seq (cw_seq (cw_region ?_))))
 refine sQ 3 (Y_move (v := vi n) rfl rfl) ?_
 refine sQ 4 (Y_rem (k := .i64) (a := n) (b := 2) rfl rfl rfl (by decide)) ?_
 refine sQ 5 (Y_ne (k := .i64) (a := (Int.tmod n 2)) (b := 0) rfl rfl rfl) (rw_nil ?_)
 refine cw_cond (b := ((Int.tmod n 2) != 0)) rfl (fun hb => ?_) (fun hb => ?_)
 ·skip
  have hF1 := ct hF hb
  refine cw_seq (cw_region ?_)
  refine sQ 2 (Y_assign (v := vi 1) rfl rfl) (rw_nil (cw_ret ?_))
  obtain rfl := some_inj hF1
  exact ret1 Try.results236 (v1 := vi 1) (resAt_tmp rfl) ⟨rfl, (hS.sN [])⟩
 ·skip
  have hF2 := cf' hF hb
  refine cw_skip (cw_seq (cw_region ?_))
  refine sQ 2 (Y_assign (v := vi 0) rfl rfl) (rw_nil (cw_ret ?_))
  obtain rfl := some_inj hF2
  exact ret1 Try.results236 (v1 := vi 0) (resAt_tmp rfl) ⟨rfl, (hS.sN [])⟩

theorem c_spec_l11Type (x : TRing)  (w0 : World)  (hS : ST w0 [] w0 [] []) {r_ : Int} (hF : F_spec_l11Type x = some r_) :
  CV Try.prog 235 #[gR_ x] w0 (fun v w' => v = vi r_ ∧ ST w0 [] w' [] []) := by
 unfold F_spec_l11Type at hF
 refine cv_of_cw 20 Try.func235 rfl Try.ntmps235 rfl ?_
 refine cw_seq (cw_region ?_)
 refine sS 1 (Ys_box (T := 122) (v := gR_ x) (cs := kR_ x) (m := 4) hS rfl rfl rfl rfl) ?_
 rintro _ w_ ⟨b, rfl, hS1⟩
 refine sQ 2 (Y_assign (v := vi 0) rfl rfl) (rw_nil (cw_seq (cw_block (cw_seq (cw_region ?_)))))
 refine sQ 4 (Y_loadA (B := aD b) (i := 0) (cs := kR_ x) (vs := kR_ x) k_ag_122 k_sz_122_4 rfl rfl (hS1.cf (i := 0) rfl) rfl rfl) ?_
 obtain ⟨r_1, hc, hF⟩ := bind_inv hF
 refine sc 5 rfl rfl (Yc_func (g := 195) (vs := [gR_ x]) k_call_195 rfl (mc rfl mn) (c_spec_l1Even x _  (hS1.inn0 [] rfl) hc)) ?_
 rintro _ w_1 ⟨rfl, hd⟩
 have hS2 := hS1.out00 hd
 refine sQ 3 (Y_assign (v := .bool r_1) rfl rfl) (rw_nil ?_)
 refine cw_cond (b := r_1) rfl (fun hb => ?_) (fun hb => ?_)
 ·skip
  have hF1 := ct hF hb
  refine cw_seq (cw_region ?_)
  refine sQ 2 (Y_assign (v := vi 0) rfl rfl) (rw_nil (cw_ret ?_))
  obtain rfl := some_inj hF1
  exact ret1 Try.results235 (v1 := vi 0) (resAt_tmp rfl) ⟨rfl, (hS2.sN [])⟩
 ·skip
  have hF2 := cf' hF hb
  refine cw_seq (cw_region ?_)
  refine sQ 7 (Y_fieldAddr (B := aD b) (i := 0) (s := 0) k_fd_122_0_0_3 k_sz_3_1 rfl rfl) ?_
  refine sQ 8 (Y_load1 (B := aD b) (i := 0) (cs := kR_ x) (v := vi x.A) k_sc_3 rfl rfl (hS2.cf (i := 0) rfl) rfl) ?_
  refine sQ 9 (Y_fieldAddr (B := aD b) (i := 0) (s := 0) k_fd_122_1_1_3 k_sz_3_1 rfl rfl) ?_
  refine sQ 10 (Y_load1 (B := aD b) (i := 1) (cs := kR_ x) (v := vi x.B) k_sc_3 rfl rfl (hS2.cf (i := 0) rfl) rfl) ?_
  refine sQ 11 (Y_add (k := .i64) (a := x.A) (b := x.B) rfl rfl rfl) ?_
  refine sQ 12 (Y_fieldAddr (B := aD b) (i := 0) (s := 0) k_fd_122_2_2_3 k_sz_3_1 rfl rfl) ?_
  refine sQ 13 (Y_load1 (B := aD b) (i := 2) (cs := kR_ x) (v := vi x.C) k_sc_3 rfl rfl (hS2.cf (i := 0) rfl) rfl) ?_
  refine sQ 14 (Y_add (k := .i64) (a := (i64.wrap (x.A + x.B))) (b := x.C) rfl rfl rfl) ?_
  refine sQ 15 (Y_fieldAddr (B := aD b) (i := 0) (s := 0) k_fd_122_3_3_3 k_sz_3_1 rfl rfl) ?_
  refine sQ 16 (Y_load1 (B := aD b) (i := 3) (cs := kR_ x) (v := vi x.D) k_sc_3 rfl rfl (hS2.cf (i := 0) rfl) rfl) ?_
  refine sQ 17 (Y_add (k := .i64) (a := (i64.wrap ((i64.wrap (x.A + x.B)) + x.C))) (b := x.D) rfl rfl rfl) ?_
  obtain ⟨r_2, hc1, hF2⟩ := bind_inv hF2
  refine sc 18 rfl rfl (Yc_func (g := 236) (vs := [vi (i64.wrap ((i64.wrap ((i64.wrap (x.A + x.B)) + x.C)) + x.D))]) k_call_236 rfl (mc rfl mn) (c_spec_l11Odd (i64.wrap ((i64.wrap ((i64.wrap (x.A + x.B)) + x.C)) + x.D)) _  (hS2.inn0 [] rfl) hc1)) ?_
  rintro _ w_2 ⟨rfl, hd1⟩
  have hS3 := hS2.out00 hd1
  refine sQ 19 (Y_eq (k := .i64) (a := r_2) (b := 1) rfl rfl rfl) ?_
  refine sQ 6 (Y_assign (v := .bool (r_2 == 1)) rfl rfl) (rw_nil ?_)
  refine cw_cond (b := (r_2 == 1)) rfl (fun hb1 => ?_) (fun hb1 => ?_)
  ·skip
   have hF3 := ct hF2 hb1
   refine cw_seq (cw_region ?_)
   refine sQ 2 (Y_assign (v := vi 1) rfl rfl) (rw_nil (cw_ret ?_))
   obtain rfl := some_inj hF3
   exact ret1 Try.results235 (v1 := vi 1) (resAt_tmp rfl) ⟨rfl, (hS3.sN [])⟩
  ·skip
   have hF4 := cf' hF2 hb1
   refine cw_skip (cw_seq (cw_region ?_))
   refine sQ 2 (Y_assign (v := vi 2) rfl rfl) (rw_nil (cw_ret ?_))
   obtain rfl := some_inj hF4
   exact ret1 Try.results235 (v1 := vi 2) (resAt_tmp rfl) ⟨rfl, (hS3.sN [])⟩

theorem c_spec_l11Pair (l : List TRing) (kind : Int) (B : Option Addr) (c n : Nat) (w0 : World) (hn : l.length = n) (hS : ST w0 [] w0 [] [⟨B, (l.flatMap enc_Ring)⟩]) {r_ : Int} {r_1 : Int} {r_2 : Bool} (hF : F_spec_l11Pair l kind = some (r_, r_1, r_2)) :
  CV Try.prog 204 #[.slice B n c, vi kind] w0 (fun v w' => v = .tuple #[vi r_, vi r_1, .bool r_2] ∧ ST w0 [] w' [] []) := by
 subst hn
 unfold F_spec_l11Pair at hF
 refine cv_of_cw 27 Try.func204 rfl Try.ntmps204 rfl ?_
 refine cw_seq (cw_region ?_)
 refine sQ 4 (Y_assign (v := vi 0) rfl rfl) ?_
 refine sQ 5 (Y_assign (v := vi 0) rfl rfl) ?_
 refine sQ 6 (Y_assign (v := .bool false) rfl rfl) (rw_nil (cw_seq (cw_region ?_)))
 refine sQ 7 (Y_assign (v := vi (-1)) rfl rfl) (rw_nil (cw_seq (cw_seq (cw_region ?_))))
 refine sQ 10 (Y_move (v := .slice B l.length c) rfl rfl) ?_
 refine sQ 11 (Y_len (B := B) (m := l.length) (c := c) k_sl_207_122 rfl rfl) ?_
 refine sQ 12 (Y_move (v := vi 0) rfl rfl) (rw_nil ?_)
 obtain ⟨hN, hF⟩ := chk_inv hF
 obtain ⟨z, hz, hF1⟩ := bind_inv hF
 refine cw_block ?_
 refine cw_loop (fun k f w => ∃ (i : Nat) (first : Int), FF f [(1, vi kind), (7, vi first), (10, .slice B l.length c), (11, vi (l.length : Int)), (12, vi (i : Int))] ∧ ST w0 [] w [] [⟨B, (l.flatMap enc_Ring)⟩] ∧ i + k = l.length ∧ forX (F_spec_l11Pair_l1 l kind) k i first = some z) l.length ⟨0, (-1), (FF.cons rfl (FF.cons rfl (FF.cons rfl (FF.cons rfl (FF.cons rfl FF.nil))))), (hS.sel [] rfl rfl), Nat.zero_add _, hz⟩ ?_
 rintro k_ f w ⟨i, first, hf, hS1, hik, hL⟩
 refine cw_seq (cw_region ?_)
 refine sQ 13 (Y_lt (k := .i64) (a := (i : Int)) (b := (l.length : Int)) rfl (hf.get 12 4 rfl) (hf.get 11 3 rfl)) (rw_nil (cw_seq ?_))
 refine cw_cond (b := (decide ((i : Int) < (l.length : Int)))) rfl (fun hlt => ?_) (fun hlt => ?_)
 ·skip
  have hlt1 : i < l.length := by have h := of_decide_eq_true hlt; omega
  obtain ⟨k_1, rfl⟩ : ∃ k2, k_ = k2 + 1 := ⟨k_ - 1, by omega⟩
  obtain ⟨y, hb, hL1⟩ := forX_go hL
  unfold F_spec_l11Pair_l1 at hb
  refine cw_skip (cw_seq ?_)
  obtain ⟨z1, hz1, hF2⟩ := bind_inv hb
  refine cw_mid (fun f w => ∃ (first1 : Int), .inl first1 = z1 ∧ FF f [(1, vi kind), (7, vi first1), (10, .slice B l.length c), (11, vi (l.length : Int)), (12, vi (i : Int))] ∧ ST w0 [] w [] [⟨B, (l.flatMap enc_Ring)⟩]) ?_ ?_
  ·skip
   refine cw_block (cw_seq (cw_region ?_))
   refine sQ 14 (Y_move (v := vi (i : Int)) rfl (hf.get 12 4 rfl)) ?_
   obtain ⟨x, hx, hz1⟩ := bind_inv hz1
   refine sQ 15 (Y_index (B := B) (m := l.length) (c := c) (k := .i64) (i := (i : Int)) k_sl_207_122 k_sz_122_4 rfl (hf.get 10 2 rfl) (hf.get 12 4 rfl) (gi_isSome enc_Ring_len rfl (hS1.rf (i := 0) rfl) hx) (getI_nn hx) (getI_ltI hx rfl)) ?_
   refine sQ 16 (Y_loadA (B := B) (i := (i : Int).toNat * 4) (cs := (l.flatMap enc_Ring)) (vs := kR_ x) k_ag_122 k_sz_122_4 rfl rfl (hS1.rf (i := 0) rfl) (enc_Ring_len x) (gi_seg enc_Ring_len hx)) ?_
   refine sS 9 (Ys_alloc (T := 122) (cs := [vi 0, vi 0, vi 0, vi 0]) (m := 4) hS1 k_zero_122 rfl rfl rfl) ?_
   rintro _ w_ ⟨b, rfl, hS3⟩
   refine sQ 8 (Y_assign (v := vi (i : Int)) rfl rfl) ?_
   refine s0 (Ys_store (i := 0) (s := 4) (B := aD b) (T' := 122) (v := gR_ x) (vs := kR_ x) (k := 0) (cs' := kR_ x) hS3 k_sz_122_4 rfl rfl rfl rfl rfl rfl rfl (lB rfl) rfl rfl) ?_
   rintro _ w_1 ⟨rfl, hS4⟩
   refine rw_nil (cw_seq (cw_seq (cw_region ?_)))
   refine sQ 17 (Y_loadA (B := aD b) (i := 0) (cs := kR_ x) (vs := kR_ x) k_ag_122 k_sz_122_4 rfl rfl (hS4.cf (i := 0) rfl) rfl rfl) ?_
   obtain ⟨r_3, hc, hz1⟩ := bind_inv hz1
   refine sc 18 rfl rfl (Yc_func (g := 235) (vs := [gR_ x]) k_call_235 rfl (mc rfl mn) (c_spec_l11Type x _  (hS4.inn0 [] rfl) hc)) ?_
   rintro _ w_2 ⟨rfl, hd⟩
   have hS5 := hS4.out00 hd
   refine sQ 19 (Y_move (v := vi kind) rfl (hf.get 1 0 rfl)) ?_
   refine sQ 20 (Y_ne (k := .i64) (a := r_3) (b := kind) rfl rfl rfl) (rw_nil ?_)
   refine cw_cond (b := (r_3 != kind)) rfl (fun hb1 => ?_) (fun hb1 => ?_)
   ·skip
    have hF3 := ct hz1 hb1
    refine cw_exit rfl ?_
    exact ⟨first, (some_inj hF3), (FF.cons (hf.get 1 0 rfl) (FF.cons (hf.get 7 1 rfl) (FF.cons (hf.get 10 2 rfl) (FF.cons (hf.get 11 3 rfl) (FF.cons (hf.get 12 4 rfl) FF.nil))))), (hS5.sel [] rfl rfl)⟩
   ·skip
    have hF4 := cf' hz1 hb1
    refine cw_skip (cw_seq (cw_seq (cw_region ?_)))
    refine sQ 21 (Y_move (v := vi first) rfl (hf.get 7 1 rfl)) ?_
    refine sQ 22 (Y_ge (k := .i64) (a := first) (b := 0) rfl rfl rfl) (rw_nil ?_)
    refine cw_cond (b := (decide (0 ≤ first))) rfl (fun hb2 => ?_) (fun hb2 => ?_)
    ·skip
     have hF5 := ct hF4 hb2
     refine cw_seq (cw_region ?_)
     refine sQ 23 (Y_move (v := vi first) rfl (hf.get 7 1 rfl)) ?_
     refine sQ 24 (Y_move (v := vi (i : Int)) rfl rfl) ?_
     refine sQ 4 (Y_assign (v := vi first) rfl rfl) ?_
     refine sQ 5 (Y_assign (v := vi (i : Int)) rfl rfl) ?_
     refine sQ 6 (Y_assign (v := .bool true) rfl rfl) (rw_nil (cw_ret ?_))
     obtain rfl := some_inj hF5
     obtain rfl := some_inj hF2
     obtain rfl := some_inj hL1
     obtain ⟨rfl, rfl, rfl⟩ := pr3 (some_inj hF1)
     exact ret3 Try.results204 (v1 := vi first) (resAt_tmp rfl) (v2 := vi (i : Int)) (resAt_tmp rfl) (v3 := .bool true) (resAt_tmp rfl) ⟨rfl, (hS5.sN [])⟩
    ·skip
     have hF6 := cf' hF4 hb2
     refine cw_skip (cw_region ?_)
     refine sQ 25 (Y_move (v := vi (i : Int)) rfl rfl) ?_
     refine sQ 7 (Y_assign (v := vi (i : Int)) rfl rfl) (rw_nil ?_)
     exact ⟨(i : Int), (some_inj hF6), (FF.cons (hf.get 1 0 rfl) (FF.cons rfl (FF.cons (hf.get 10 2 rfl) (FF.cons (hf.get 11 3 rfl) (FF.cons (hf.get 12 4 rfl) FF.nil))))), (hS5.sel [] rfl rfl)⟩
  rintro f w ⟨first1, rfl, hf1, hS2⟩
  refine cw_region ?_
  refine sQ 26 (Y_add (k := .i64) (a := (i : Int)) (b := 1) rfl (hf1.get 12 4 rfl) rfl) ?_
  refine sQ 12 (Y_move (v := vi (i64.wrap ((i : Int) + 1))) rfl rfl) (rw_nil ?_)
  obtain rfl := some_inj hF2
  exact ⟨k_1, Nat.lt_succ_self _, i + 1, first1, (FF.cons (hf1.get 1 0 rfl) (FF.cons (hf1.get 7 1 rfl) (FF.cons (hf1.get 10 2 rfl) (FF.cons (hf1.get 11 3 rfl) (FF.cons (congrArg (Value.int .i64) (wr_succ hlt1 hN)) FF.nil))))), (hS2.sel [] rfl rfl), (by omega), hL1⟩
 ·skip
  obtain rfl : k_ = 0 := by have h := of_decide_eq_false hlt; omega
  refine cw_exit rfl ?_
  obtain rfl := some_inj hL
  refine cw_seq (cw_region ?_)
  refine sQ 4 (Y_assign (v := vi 0) rfl rfl) ?_
  refine sQ 5 (Y_assign (v := vi 0) rfl rfl) ?_
  refine sQ 6 (Y_assign (v := .bool false) rfl rfl) (rw_nil (cw_ret ?_))
  obtain ⟨rfl, rfl, rfl⟩ := pr3 (some_inj hF1)
  exact ret3 Try.results204 (v1 := vi 0) (resAt_tmp rfl) (v2 := vi 0) (resAt_tmp rfl) (v3 := .bool false) (resAt_tmp rfl) ⟨rfl, (hS1.sN [])⟩

theorem c_spec_l11Power (x : TRing) (y : TRing)  (w0 : World)  (hS : ST w0 [] w0 [] []) {r_ : Int} (hF : F_spec_l11Power x y = some r_) :
  CV Try.prog 205 #[gR_ x, gR_ y] w0 (fun v w' => v = vi r_ ∧ ST w0 [] w' [] []) := by
 unfold F_spec_l11Power at hF
 refine cv_of_cw 44 Try.func205 rfl Try.ntmps205 rfl ?_
 refine cw_seq (cw_region ?_)
 refine sS 2 (Ys_box (T := 122) (v := gR_ x) (cs := kR_ x) (m := 4) hS rfl rfl rfl rfl) ?_
 rintro _ w_ ⟨b, rfl, hS1⟩
 refine sS 3 (Ys_box (T := 122) (v := gR_ y) (cs := kR_ y) (m := 4) hS1 rfl rfl rfl rfl) ?_
 rintro _ w_1 ⟨b1, rfl, hS2⟩
 refine sQ 4 (Y_assign (v := vi 0) rfl rfl) (rw_nil (cw_seq (cw_seq (cw_region ?_))))
 refine sQ 5 (Y_assign (v := vi 0) rfl rfl) (rw_nil ?_)
 obtain ⟨z, hz, hF1⟩ := bind_inv hF
 refine cw_block ?_
 refine cw_loop (fun k f w => ∃ (m : Nat), FF f [(2, pt (aD b) 0), (3, pt (aD b1) 0), (5, vi (m : Int))] ∧ ST w0 [] w [⟨aD b, 122, kR_ x, 4⟩, ⟨aD b1, 122, kR_ y, 4⟩] [] ∧ m + k = 8 ∧ forX (F_spec_l11Power_l1 y x) k m () = some z) 8 ⟨0, (FF.cons rfl (FF.cons rfl (FF.cons rfl FF.nil))), (hS2.sel [0, 1] rfl rfl), Nat.zero_add _, hz⟩ ?_
 rintro k_ f w ⟨m, hf, hS3, hik, hL⟩
 refine cw_seq (cw_seq (cw_region ?_))
 refine sQ 8 (Y_move (v := vi (m : Int)) rfl (hf.get 5 2 rfl)) ?_
 refine sQ 9 (Y_lt (k := .i64) (a := (m : Int)) (b := 8) rfl rfl rfl) (rw_nil ?_)
 refine cw_cond (b := (decide ((m : Int) < 8))) rfl (fun hlt => ?_) (fun hlt => ?_)
 ·skip
  have hlt1 : m < 8 := by have h := of_decide_eq_true hlt; omega
  obtain ⟨k_1, rfl⟩ : ∃ k2, k_ = k2 + 1 := ⟨k_ - 1, by omega⟩
  obtain ⟨y1, hb, hL1⟩ := forX_go hL
  unfold F_spec_l11Power_l1 at hb
  refine cw_skip (cw_seq (cw_block (cw_seq ?_)))
  obtain ⟨r_1, hc, hb⟩ := bind_inv hb
  obtain ⟨r_2, hc1, hb⟩ := bind_inv hb
  refine cw_mid (fun f w => ∃ (B : Option Addr), FF f [(2, pt (aD b) 0), (3, pt (aD b1) 0), (5, vi (m : Int)), (6, pt B 0)] ∧ ST w0 [] w [⟨aD b, 122, kR_ x, 4⟩, ⟨aD b1, 122, kR_ y, 4⟩, ⟨B, 122, kR_ r_2, 4⟩] []) ?_ ?_
  ·skip
   refine ra_start (hS3.se [0, 1]).fn (by kernel_rfl) ?_
   have hS7 := hS3.drew
   refine rq 0 12 (v := gR_ x) rfl (hS7.se [0, 1]) (fun w' hw' => (Y_loadA (B := aD b) (i := 0) (cs := kR_ x) (vs := kR_ x) k_ag_122 k_sz_122_4 rfl (hf.get 2 0 rfl) (ST.cf hw' (i := 0) rfl) rfl rfl)) ?_
   refine rq 1 13 (v := gR_ y) rfl (hS7.se [0, 1]) (fun w' hw' => (Y_loadA (B := aD b1) (i := 0) (cs := kR_ y) (vs := kR_ y) k_ag_122 k_sz_122_4 rfl (hf.get 3 1 rfl) (ST.cf hw' (i := 1) rfl) rfl rfl)) ?_
   refine rq 2 14 (v := vi (m : Int)) rfl (hS7.se [0, 1]) (fun w' hw' => (Y_move (v := vi (m : Int)) rfl (hf.get 5 2 rfl))) ?_
   refine rA [3, 5] ?_
   refine ra_c 15 (i := 3) rfl rfl rfl (Yc_func (g := 202) (vs := [gR_ y, vi (m : Int)]) k_call_202 rfl (mc rfl (mc rfl mn)) (c_spec_l1Turn y (m : Int) _  (hS7.inn0 [] rfl) hc)) ?_ ?_
   ·rintro _ w_2 ⟨rfl, hd⟩
    have hS8 := hS7.out00 hd
    refine ⟨(hS8.se [0, 1]), ?_⟩
    refine rA [4, 5] ?_
    refine ra_c 16 (i := 4) rfl rfl rfl (Yc_func (g := 199) (vs := [gR_ x, gR_ r_1]) k_call_199 rfl (mc rfl (mc rfl mn)) (c_spec_l1Add x r_1 _  (hS8.inn0 [] rfl) hc1)) ?_ ?_
    ·rintro _ w_3 ⟨rfl, hd1⟩
     have hS9 := hS8.out00 hd1
     refine ⟨(hS9.se [0, 1]), ?_⟩
     refine rA [5] ?_
     refine ra_s 6 (i := 5) rfl rfl rfl (Ys_alloc (T := 122) (cs := [vi 0, vi 0, vi 0, vi 0]) (m := 4) hS9 k_zero_122 rfl rfl rfl) ?_ ?_
     ·rintro _ w_4 ⟨b2, rfl, hS10⟩
      refine ⟨(hS10.se [0, 1]), ?_⟩
      refine rA [6] ?_
      refine ra_s0 (i := 6) rfl rfl rfl (Ys_store (i := 2) (s := 4) (B := aD b2) (T' := 122) (v := gR_ r_2) (vs := kR_ r_2) (k := 0) (cs' := kR_ r_2) hS10 k_sz_122_4 rfl rfl rfl rfl rfl rfl rfl (lB rfl) rfl rfl) ?_ ?_
      ·rintro _ w_5 ⟨rfl, hS11⟩
       refine ⟨(hS11.se [0, 1]), ?_⟩
       refine ra_done (by kernel_rfl) ?_
       exact ⟨aD b2, (FF.cons (hf.get 2 0 rfl) (FF.cons (hf.get 3 1 rfl) (FF.cons (hf.get 5 2 rfl) (FF.cons rfl FF.nil)))), (hS11.sel [0, 1, 2] rfl rfl)⟩
      exact allR_nil
     exact allR_nil
    refine ra_s 6 (i := 5) rfl rfl rfl (Ys_alloc (T := 122) (cs := [vi 0, vi 0, vi 0, vi 0]) (m := 4) hS8 k_zero_122 rfl rfl rfl) ?_ ?_
    ·rintro _ w_6 ⟨b2, rfl, hS12⟩
     refine ⟨(hS12.se [0, 1]), ?_⟩
     refine rA [4] ?_
     refine ra_c 16 (i := 4) rfl rfl rfl (Yc_func (g := 199) (vs := [gR_ x, gR_ r_1]) k_call_199 rfl (mc rfl (mc rfl mn)) (c_spec_l1Add x r_1 _  (hS12.inn0 [] rfl) hc1)) ?_ ?_
     ·rintro _ w_7 ⟨rfl, hd2⟩
      have hS13 := hS12.out00 hd2
      refine ⟨(hS13.se [0, 1]), ?_⟩
      refine rA [6] ?_
      refine ra_s0 (i := 6) rfl rfl rfl (Ys_store (i := 2) (s := 4) (B := aD b2) (T' := 122) (v := gR_ r_2) (vs := kR_ r_2) (k := 0) (cs' := kR_ r_2) hS13 k_sz_122_4 rfl rfl rfl rfl rfl rfl rfl (lB rfl) rfl rfl) ?_ ?_
      ·rintro _ w_8 ⟨rfl, hS14⟩
       refine ⟨(hS14.se [0, 1]), ?_⟩
       refine ra_done (by kernel_rfl) ?_
       exact ⟨aD b2, (FF.cons (hf.get 2 0 rfl) (FF.cons (hf.get 3 1 rfl) (FF.cons (hf.get 5 2 rfl) (FF.cons rfl FF.nil)))), (hS14.sel [0, 1, 2] rfl rfl)⟩
      exact allR_nil
     exact allR_nil
    exact allR_nil
   refine ra_s 6 (i := 5) rfl rfl rfl (Ys_alloc (T := 122) (cs := [vi 0, vi 0, vi 0, vi 0]) (m := 4) hS7 k_zero_122 rfl rfl rfl) ?_ ?_
   ·rintro _ w_9 ⟨b2, rfl, hS15⟩
    refine ⟨(hS15.se [0, 1]), ?_⟩
    refine rA [3] ?_
    refine ra_c 15 (i := 3) rfl rfl rfl (Yc_func (g := 202) (vs := [gR_ y, vi (m : Int)]) k_call_202 rfl (mc rfl (mc rfl mn)) (c_spec_l1Turn y (m : Int) _  (hS15.inn0 [] rfl) hc)) ?_ ?_
    ·rintro _ w_10 ⟨rfl, hd3⟩
     have hS16 := hS15.out00 hd3
     refine ⟨(hS16.se [0, 1]), ?_⟩
     refine rA [4] ?_
     refine ra_c 16 (i := 4) rfl rfl rfl (Yc_func (g := 199) (vs := [gR_ x, gR_ r_1]) k_call_199 rfl (mc rfl (mc rfl mn)) (c_spec_l1Add x r_1 _  (hS16.inn0 [] rfl) hc1)) ?_ ?_
     ·rintro _ w_11 ⟨rfl, hd4⟩
      have hS17 := hS16.out00 hd4
      refine ⟨(hS17.se [0, 1]), ?_⟩
      refine rA [6] ?_
      refine ra_s0 (i := 6) rfl rfl rfl (Ys_store (i := 2) (s := 4) (B := aD b2) (T' := 122) (v := gR_ r_2) (vs := kR_ r_2) (k := 0) (cs' := kR_ r_2) hS17 k_sz_122_4 rfl rfl rfl rfl rfl rfl rfl (lB rfl) rfl rfl) ?_ ?_
      ·rintro _ w_12 ⟨rfl, hS18⟩
       refine ⟨(hS18.se [0, 1]), ?_⟩
       refine ra_done (by kernel_rfl) ?_
       exact ⟨aD b2, (FF.cons (hf.get 2 0 rfl) (FF.cons (hf.get 3 1 rfl) (FF.cons (hf.get 5 2 rfl) (FF.cons rfl FF.nil)))), (hS18.sel [0, 1, 2] rfl rfl)⟩
      exact allR_nil
     exact allR_nil
    exact allR_nil
   exact allR_nil
  rintro f w ⟨B, hf1, hS6⟩
  refine cw_seq ?_
  obtain ⟨r_3, hc2, hb⟩ := bind_inv hb
  obtain ⟨r_4, hc3, hb⟩ := bind_inv hb
  obtain ⟨r_5, hc4, hb⟩ := bind_inv hb
  obtain ⟨r_6, hc5, hb⟩ := bind_inv hb
  refine ra_start (hS6.se [0, 1, 2]).fn (by kernel_rfl) ?_
  have hS23 := hS6.drew
  refine rq 0 17 (v := pt B 0) rfl (hS23.se [0, 1, 2]) (fun w' hw' => (Y_fieldAddr (B := B) (i := 0) (s := 0) k_fd_122_0_0_3 k_sz_3_1 rfl (hf1.get 6 3 rfl))) ?_
  refine rq 1 18 (v := vi r_2.A) rfl (hS23.se [0, 1, 2]) (fun w' hw' => (Y_load1 (B := B) (i := 0) (cs := kR_ r_2) (v := vi r_2.A) k_sc_3 rfl rfl (ST.cf hw' (i := 2) rfl) rfl)) ?_
  refine rq 3 20 (v := pt B 1) rfl (hS23.se [0, 1, 2]) (fun w' hw' => (Y_fieldAddr (B := B) (i := 0) (s := 0) k_fd_122_1_1_3 k_sz_3_1 rfl (hf1.get 6 3 rfl))) ?_
  refine rq 4 21 (v := vi r_2.B) rfl (hS23.se [0, 1, 2]) (fun w' hw' => (Y_load1 (B := B) (i := 1) (cs := kR_ r_2) (v := vi r_2.B) k_sc_3 rfl rfl (ST.cf hw' (i := 2) rfl) rfl)) ?_
  refine rq 7 24 (v := pt B 2) rfl (hS23.se [0, 1, 2]) (fun w' hw' => (Y_fieldAddr (B := B) (i := 0) (s := 0) k_fd_122_2_2_3 k_sz_3_1 rfl (hf1.get 6 3 rfl))) ?_
  refine rq 8 25 (v := vi r_2.C) rfl (hS23.se [0, 1, 2]) (fun w' hw' => (Y_load1 (B := B) (i := 2) (cs := kR_ r_2) (v := vi r_2.C) k_sc_3 rfl rfl (ST.cf hw' (i := 2) rfl) rfl)) ?_
  refine rq 11 28 (v := pt B 3) rfl (hS23.se [0, 1, 2]) (fun w' hw' => (Y_fieldAddr (B := B) (i := 0) (s := 0) k_fd_122_3_3_3 k_sz_3_1 rfl (hf1.get 6 3 rfl))) ?_
  refine rq 12 29 (v := vi r_2.D) rfl (hS23.se [0, 1, 2]) (fun w' hw' => (Y_load1 (B := B) (i := 3) (cs := kR_ r_2) (v := vi r_2.D) k_sc_3 rfl rfl (ST.cf hw' (i := 2) rfl) rfl)) ?_
  refine rA [2] ?_
  refine ra_c 19 (i := 2) rfl rfl rfl (Yc_func (g := 236) (vs := [vi r_2.A]) k_call_236 rfl (mc rfl mn) (c_spec_l11Odd r_2.A _  (hS23.inn0 [] rfl) hc2)) ?_ ?_
  ·rintro _ w_13 ⟨rfl, hd5⟩
   have hS24 := hS23.out00 hd5
   refine ⟨(hS24.se [0, 1, 2]), ?_⟩
   refine rA [5] ?_
   refine ra_c 22 (i := 5) rfl rfl rfl (Yc_func (g := 236) (vs := [vi r_2.B]) k_call_236 rfl (mc rfl mn) (c_spec_l11Odd r_2.B _  (hS24.inn0 [] rfl) hc3)) ?_ ?_
   ·rintro _ w_14 ⟨rfl, hd6⟩
    have hS25 := hS24.out00 hd6
    refine ⟨(hS25.se [0, 1, 2]), ?_⟩
    refine rq 6 23 (v := vi (i64.wrap (r_3 + r_4))) rfl (hS25.se [0, 1, 2]) (fun w' hw' => (Y_add (k := .i64) (a := r_3) (b := r_4) rfl rfl rfl)) ?_
    refine rA [9] ?_
    refine ra_c 26 (i := 9) rfl rfl rfl (Yc_func (g := 236) (vs := [vi r_2.C]) k_call_236 rfl (mc rfl mn) (c_spec_l11Odd r_2.C _  (hS25.inn0 [] rfl) hc4)) ?_ ?_
    ·rintro _ w_15 ⟨rfl, hd7⟩
     have hS26 := hS25.out00 hd7
     refine ⟨(hS26.se [0, 1, 2]), ?_⟩
     refine rq 10 27 (v := vi (i64.wrap ((i64.wrap (r_3 + r_4)) + r_5))) rfl (hS26.se [0, 1, 2]) (fun w' hw' => (Y_add (k := .i64) (a := (i64.wrap (r_3 + r_4))) (b := r_5) rfl rfl rfl)) ?_
     refine rA [13] ?_
     refine ra_c 30 (i := 13) rfl rfl rfl (Yc_func (g := 236) (vs := [vi r_2.D]) k_call_236 rfl (mc rfl mn) (c_spec_l11Odd r_2.D _  (hS26.inn0 [] rfl) hc5)) ?_ ?_
     ·rintro _ w_16 ⟨rfl, hd8⟩
      have hS27 := hS26.out00 hd8
      refine ⟨(hS27.se [0, 1, 2]), ?_⟩
      refine rq 14 31 (v := vi (i64.wrap ((i64.wrap ((i64.wrap (r_3 + r_4)) + r_5)) + r_6))) rfl (hS27.se [0, 1, 2]) (fun w' hw' => (Y_add (k := .i64) (a := (i64.wrap ((i64.wrap (r_3 + r_4)) + r_5))) (b := r_6) rfl rfl rfl)) ?_
      refine rq 15 7 (v := vi (i64.wrap ((i64.wrap ((i64.wrap (r_3 + r_4)) + r_5)) + r_6))) rfl (hS27.se [0, 1, 2]) (fun w' hw' => (Y_assign (v := vi (i64.wrap ((i64.wrap ((i64.wrap (r_3 + r_4)) + r_5)) + r_6))) rfl rfl)) ?_
      refine ra_done (by kernel_rfl) ?_
      refine cw_seq (cw_region ?_)
      refine sQ 32 (Y_move (v := vi (i64.wrap ((i64.wrap ((i64.wrap (r_3 + r_4)) + r_5)) + r_6))) rfl rfl) ?_
      refine sQ 33 (Y_eq (k := .i64) (a := (i64.wrap ((i64.wrap ((i64.wrap (r_3 + r_4)) + r_5)) + r_6))) (b := 0) rfl rfl rfl) ?_
      refine sQ 34 (Y_move (v := .bool ((i64.wrap ((i64.wrap ((i64.wrap (r_3 + r_4)) + r_5)) + r_6)) == 0)) rfl rfl) ?_
      refine sgq 35 (B := (!((i64.wrap ((i64.wrap ((i64.wrap (r_3 + r_4)) + r_5)) + r_6)) == 0))) (v := vi (i64.wrap ((i64.wrap ((i64.wrap (r_3 + r_4)) + r_5)) + r_6))) rfl rfl (uF_ 34) (fun hg => (Y_move (v := vi (i64.wrap ((i64.wrap ((i64.wrap (r_3 + r_4)) + r_5)) + r_6))) rfl rfl)) ?_
      refine sgq 36 (B := (!((i64.wrap ((i64.wrap ((i64.wrap (r_3 + r_4)) + r_5)) + r_6)) == 0))) (v := .bool ((i64.wrap ((i64.wrap ((i64.wrap (r_3 + r_4)) + r_5)) + r_6)) == 4)) rfl rfl (uF_ 34) (fun hg1 => (Y_eq (k := .i64) (a := (i64.wrap ((i64.wrap ((i64.wrap (r_3 + r_4)) + r_5)) + r_6))) (b := 4) rfl (gv_of (v := vi (i64.wrap ((i64.wrap ((i64.wrap (r_3 + r_4)) + r_5)) + r_6))) hg1) rfl)) ?_
      refine sgq 37 (B := (!((i64.wrap ((i64.wrap ((i64.wrap (r_3 + r_4)) + r_5)) + r_6)) == 0))) (v := .bool ((i64.wrap ((i64.wrap ((i64.wrap (r_3 + r_4)) + r_5)) + r_6)) == 4)) rfl rfl (uF_ 34) (fun hg2 => (Y_move (v := .bool ((i64.wrap ((i64.wrap ((i64.wrap (r_3 + r_4)) + r_5)) + r_6)) == 4)) rfl (gv_of (v := .bool ((i64.wrap ((i64.wrap ((i64.wrap (r_3 + r_4)) + r_5)) + r_6)) == 4)) hg2))) ?_
      refine sgq 38 (B := ((!((i64.wrap ((i64.wrap ((i64.wrap (r_3 + r_4)) + r_5)) + r_6)) == 0)) && ((i64.wrap ((i64.wrap ((i64.wrap (r_3 + r_4)) + r_5)) + r_6)) == 4))) (v := gR_ x) rfl rfl (wt_gt (gd_of (t := 37) (by kernel_rfl) rfl)) (fun hg3 => (Y_loadA (B := aD b) (i := 0) (cs := kR_ x) (vs := kR_ x) k_ag_122 k_sz_122_4 rfl (hf1.get 2 0 rfl) (hS27.cf (i := 0) rfl) rfl rfl)) ?_
      obtain ⟨r_7, hc6, hb⟩ := bind_inv hb
      refine sgc 39 (B := ((!((i64.wrap ((i64.wrap ((i64.wrap (r_3 + r_4)) + r_5)) + r_6)) == 0)) && ((i64.wrap ((i64.wrap ((i64.wrap (r_3 + r_4)) + r_5)) + r_6)) == 4))) (v := vi r_7) (F := hS27.fn) rfl rfl (wt_gt (gd_of (t := 37) (by kernel_rfl) rfl)) hS27 (fun hg4 => (Yc_func (g := 235) (vs := [gR_ x]) k_call_235 rfl (mc (gv_of (v := gR_ x) hg4) mn) (CV.mono (c_spec_l11Type x _  (hS27.inn0 [] rfl) (gb_inv hc6 hg4)) (by rintro _ _ ⟨rfl, h⟩; exact ⟨rfl, hS27.out00 h⟩)))) ?_
      rintro w_17 hS28
      refine sgq 40 (B := ((!((i64.wrap ((i64.wrap ((i64.wrap (r_3 + r_4)) + r_5)) + r_6)) == 0)) && ((i64.wrap ((i64.wrap ((i64.wrap (r_3 + r_4)) + r_5)) + r_6)) == 4))) (v := .bool (r_7 == 1)) rfl rfl (wt_gt (gd_of (t := 37) (by kernel_rfl) rfl)) (fun hg5 => (Y_eq (k := .i64) (a := r_7) (b := 1) rfl (gv_of (v := vi r_7) hg5) rfl)) ?_
      refine sgq 41 (B := (!((i64.wrap ((i64.wrap ((i64.wrap (r_3 + r_4)) + r_5)) + r_6)) == 0))) (v := .bool (((i64.wrap ((i64.wrap ((i64.wrap (r_3 + r_4)) + r_5)) + r_6)) == 4) && (r_7 == 1))) rfl rfl (uF_ 34) (fun hg6 => (Y_and (b := ((i64.wrap ((i64.wrap ((i64.wrap (r_3 + r_4)) + r_5)) + r_6)) == 4)) (z := (r_7 == 1)) rfl (gv_of (v := .bool ((i64.wrap ((i64.wrap ((i64.wrap (r_3 + r_4)) + r_5)) + r_6)) == 4)) hg6) (gv_and (B := (!((i64.wrap ((i64.wrap ((i64.wrap (r_3 + r_4)) + r_5)) + r_6)) == 0))) (C := ((i64.wrap ((i64.wrap ((i64.wrap (r_3 + r_4)) + r_5)) + r_6)) == 4)) (v := .bool (r_7 == 1)) hg6) rfl)) ?_
      refine sQ 42 (Y_or (b := ((i64.wrap ((i64.wrap ((i64.wrap (r_3 + r_4)) + r_5)) + r_6)) == 0)) (z := (((i64.wrap ((i64.wrap ((i64.wrap (r_3 + r_4)) + r_5)) + r_6)) == 4) && (r_7 == 1))) rfl rfl rfl rfl) (rw_nil ?_)
      refine cw_cond (b := (((i64.wrap ((i64.wrap ((i64.wrap (r_3 + r_4)) + r_5)) + r_6)) == 0) || (((i64.wrap ((i64.wrap ((i64.wrap (r_3 + r_4)) + r_5)) + r_6)) == 4) && (r_7 == 1)))) rfl (fun hb1 => ?_) (fun hb1 => ?_)
      ·skip
       have hF2 := ct hb hb1
       refine cw_seq (cw_region ?_)
       refine sQ 43 (Y_move (v := vi (m : Int)) rfl (hf1.get 5 2 rfl)) ?_
       refine sQ 4 (Y_assign (v := vi (m : Int)) rfl rfl) (rw_nil (cw_ret ?_))
       obtain rfl := some_inj hF2
       obtain rfl := some_inj hL1
       obtain rfl := some_inj hF1
       exact ret1 Try.results205 (v1 := vi (m : Int)) (resAt_tmp rfl) ⟨rfl, (hS28.sN [])⟩
      ·skip
       have hF3 := cf' hb hb1
       refine cw_skip (cw_region ?_)
       refine sQ 10 (Y_move (v := vi (m : Int)) rfl (hf1.get 5 2 rfl)) ?_
       refine sQ 11 (Y_add (k := .i64) (a := (m : Int)) (b := 1) rfl rfl rfl) ?_
       refine sQ 5 (Y_assign (v := vi (i64.wrap ((m : Int) + 1))) rfl rfl) (rw_nil ?_)
       obtain rfl := some_inj hF3
       exact ⟨k_1, Nat.lt_succ_self _, m + 1, (FF.cons (hf1.get 2 0 rfl) (FF.cons (hf1.get 3 1 rfl) (FF.cons (congrArg (Value.int .i64) (wr_succ hlt1 (show 8 ≤ 9223372036854775807 by decide))) FF.nil))), (hS28.sel [0, 1] rfl rfl), (by omega), hL1⟩
     exact allR_nil
    exact allR_nil
   exact allR_nil
  exact allR_nil
 ·skip
  obtain rfl : k_ = 0 := by have h := of_decide_eq_false hlt; omega
  refine cw_exit rfl ?_
  obtain rfl := some_inj hL
  refine cw_seq (cw_region ?_)
  refine sQ 4 (Y_assign (v := vi (-1)) rfl rfl) (rw_nil (cw_ret ?_))
  obtain rfl := some_inj hF1
  exact ret1 Try.results205 (v1 := vi (-1)) (resAt_tmp rfl) ⟨rfl, (hS3.sN [])⟩

theorem c_spec_l11Next (v_ : TMatrix) (B : Option Addr) (c n : Nat) (w0 : World) (hn : v_.Cells.length = n) (hS : ST w0 [] w0 [] [⟨B, (v_.Cells.flatMap eN0)⟩]) {r_ : TTwoLevel} {r_1 : Bool} (hF : F_spec_l11Next v_ = some (r_, r_1)) :
  CV Try.prog 141 #[.agg #[vi v_.Rows, vi v_.Cols, .slice B n c]] w0 (fun v w' => v = .tuple #[.agg #[vi r_.Kind, vi r_.I, vi r_.J, vi r_.M_], .bool r_1] ∧ ST w0 [] w' [] []) := by
 subst hn
 unfold F_spec_l11Next at hF
 refine cv_of_cw 38 Try.func141 rfl Try.ntmps141 rfl ?_
 refine cw_seq (cw_region ?_)
 refine sS 1 (Ys_box (T := 75) (v := gM_ v_ B c) (cs := kM_ v_ B c) (m := 3) hS rfl rfl rfl rfl) ?_
 rintro _ w_ ⟨b, rfl, hS1⟩
 refine sS 2 (Ys_alloc (T := 133) (cs := [vi 0, vi 0, vi 0, vi 0]) (m := 4) hS1 k_zero_133 rfl rfl rfl) ?_
 rintro _ w_1 ⟨b1, rfl, hS2⟩
 refine sQ 3 (Y_assign (v := .bool false) rfl rfl) (rw_nil (cw_seq ?_))
 obtain ⟨r_2, hc, hF⟩ := bind_inv hF
 obtain ⟨r_3, hc1, hF⟩ := bind_inv hF
 refine ra_start (hS2.se [0, 1]).fn (by kernel_rfl) ?_
 have hS5 := hS2.drew
 refine rq 0 9 (v := gM_ v_ B c) rfl (hS5.se [0, 1]) (fun w' hw' => (Y_loadA (B := aD b) (i := 0) (cs := kM_ v_ B c) (vs := kM_ v_ B c) k_ag_75 k_sz_75_3 rfl rfl (ST.cf hw' (i := 0) rfl) rfl rfl)) ?_
 refine rq 1 10 (v := gM_ v_ B c) rfl (hS5.se [0, 1]) (fun w' hw' => (Y_loadA (B := aD b) (i := 0) (cs := kM_ v_ B c) (vs := kM_ v_ B c) k_ag_75 k_sz_75_3 rfl rfl (ST.cf hw' (i := 0) rfl) rfl rfl)) ?_
 refine rA [2] ?_
 refine ra_c 11 (i := 2) rfl rfl rfl (Yc_func (g := 140) (vs := [gM_ v_ B c]) k_call_140 rfl (mc rfl mn) (c_spec_l3Exp v_ B c v_.Cells.length _ rfl (hS5.inn0 [(true, 0)] rfl) hc)) ?_ ?_
 ·rintro _ w_2 ⟨rfl, hd⟩
  have hS6 := hS5.out00 hd
  refine ⟨(hS6.se [0, 1]), ?_⟩
  refine rA [3] ?_
  refine ra_c 12 (i := 3) rfl rfl rfl (Yc_func (g := 203) (vs := [gM_ v_ B c, vi r_2]) k_call_203 rfl (mc rfl (mc rfl mn)) (c_spec_l11Scaled v_ r_2 B c v_.Cells.length _ rfl (hS6.inn0 [(true, 0)] rfl) hc1)) ?_ ?_
  ·rintro _ w_3 ⟨B1, c1, rfl, hd1⟩
   have hS7 := hS6.out0 hd1
   refine ⟨(hS7.se [0, 1]), ?_⟩
   refine rq 4 4 (v := .slice B1 r_3.length c1) rfl (hS7.se [0, 1]) (fun w' hw' => (Y_assign (v := .slice B1 r_3.length c1) rfl rfl)) ?_
   refine ra_done (by kernel_rfl) ?_
   refine cw_seq (cw_seq (cw_region ?_))
   refine sQ 5 (Y_assign (v := vi 1) rfl rfl) (rw_nil ?_)
   obtain ⟨z, hz, hF1⟩ := bind_inv hF
   refine cw_block ?_
   refine cw_loop (fun k f w => ∃ (kind : Int), FF f [(2, pt (aD b1) 0), (4, .slice B1 r_3.length c1), (5, vi kind)] ∧ ST w0 [] w [⟨aD b1, 133, [vi 0, vi 0, vi 0, vi 0], 4⟩, ⟨B1, 122, (r_3.flatMap enc_Ring), c1 * 4⟩] [⟨B, (v_.Cells.flatMap eN0)⟩] ∧ whX (F_spec_l11Next_l1 r_3) k kind = some z) fuel ⟨1, (FF.cons rfl (FF.cons rfl (FF.cons rfl FF.nil))), (hS7.sel [1, 2] rfl rfl), hz⟩ ?_
   rintro k_ f w ⟨kind, hf, hS8, hL⟩
   obtain ⟨k_1, y, rfl, hb, hL1⟩ := whX_go hL
   unfold F_spec_l11Next_l1 at hb
   refine cw_seq (cw_seq (cw_region ?_))
   refine sQ 13 (Y_move (v := vi kind) rfl (hf.get 5 2 rfl)) ?_
   refine sQ 14 (Y_le (k := .i64) (a := kind) (b := 2) rfl rfl rfl) (rw_nil ?_)
   refine cw_cond (b := (decide (kind ≤ 2))) rfl (fun hb1 => ?_) (fun hb1 => ?_)
   ·skip
    have hF2 := ct hb hb1
    refine cw_skip (cw_seq (cw_block (cw_seq (cw_region ?_))))
    refine sQ 18 (Y_move (v := .slice B1 r_3.length c1) rfl (hf.get 4 1 rfl)) ?_
    refine sQ 19 (Y_move (v := vi kind) rfl (hf.get 5 2 rfl)) ?_
    obtain ⟨⟨r_4, r_5, r_6⟩, hc2, hF2⟩ := bind_inv hF2
    refine sc 20 rfl rfl (Yc_func (g := 204) (vs := [.slice B1 r_3.length c1, vi kind]) k_call_204 rfl (mc rfl (mc rfl mn)) (c_spec_l11Pair r_3 kind B1 c1 r_3.length _ rfl (hS8.inn0 [(false, 1)] rfl) hc2)) ?_
    rintro _ w_4 ⟨rfl, hd2⟩
    have hS9 := hS8.out00 hd2
    refine sQ 17 (Y_move (v := .tuple #[vi r_4, vi r_5, .bool r_6]) rfl rfl) ?_
    refine sQ 21 (Y_extract (v := vi r_4) rfl rfl rfl) ?_
    refine sQ 22 (Y_extract (v := vi r_5) rfl rfl rfl) ?_
    refine sQ 23 (Y_extract (v := .bool r_6) rfl rfl rfl) ?_
    refine sQ 6 (Y_assign (v := vi r_4) rfl rfl) ?_
    refine sQ 7 (Y_assign (v := vi r_5) rfl rfl) ?_
    refine sQ 8 (Y_assign (v := .bool r_6) rfl rfl) (rw_nil (cw_seq (cw_region ?_)))
    refine sQ 24 (Y_move (v := .bool r_6) rfl rfl) (rw_nil ?_)
    refine cw_cond (b := r_6) rfl (fun hb2 => ?_) (fun hb2 => ?_)
    ·skip
     have hF3 := ct hF2 hb2
     refine cw_seq ?_
     obtain ⟨x, hx, hF3⟩ := bind_inv hF3
     obtain ⟨x1, hx1, hF3⟩ := bind_inv hF3
     obtain ⟨r_7, hc3, hF3⟩ := bind_inv hF3
     refine ra_start (hS9.se [1]).fn (by kernel_rfl) ?_
     have hS11 := hS9.drew
     refine rq 0 25 (v := vi r_4) rfl (hS11.se [1]) (fun w' hw' => (Y_move (v := vi r_4) rfl rfl)) ?_
     refine rq 1 26 (v := vi r_5) rfl (hS11.se [1]) (fun w' hw' => (Y_move (v := vi r_5) rfl rfl)) ?_
     refine rq 2 27 (v := .slice B1 r_3.length c1) rfl (hS11.se [1]) (fun w' hw' => (Y_move (v := .slice B1 r_3.length c1) rfl (hf.get 4 1 rfl))) ?_
     refine rq 3 28 (v := vi r_4) rfl (hS11.se [1]) (fun w' hw' => (Y_move (v := vi r_4) rfl rfl)) ?_
     refine rq 4 29 (v := pt B1 (r_4.toNat * 4)) rfl (hS11.se [1]) (fun w' hw' => (Y_index (B := B1) (m := r_3.length) (c := c1) (k := .i64) (i := r_4) k_sl_207_122 k_sz_122_4 rfl rfl rfl (gi_isSome enc_Ring_len rfl (ST.cf hw' (i := 0) rfl) hx) (getI_nn hx) (getI_ltI hx rfl))) ?_
     refine rq 5 30 (v := gR_ x) rfl (hS11.se [1]) (fun w' hw' => (Y_loadA (B := B1) (i := r_4.toNat * 4) (cs := (r_3.flatMap enc_Ring)) (vs := kR_ x) k_ag_122 k_sz_122_4 rfl rfl (ST.cf hw' (i := 0) rfl) (enc_Ring_len x) (gi_seg enc_Ring_len hx))) ?_
     refine rq 6 31 (v := .slice B1 r_3.length c1) rfl (hS11.se [1]) (fun w' hw' => (Y_move (v := .slice B1 r_3.length c1) rfl (hf.get 4 1 rfl))) ?_
     refine rq 7 32 (v := vi r_5) rfl (hS11.se [1]) (fun w' hw' => (Y_move (v := vi r_5) rfl rfl)) ?_
     refine rq 8 33 (v := pt B1 (r_5.toNat * 4)) rfl (hS11.se [1]) (fun w' hw' => (Y_index (B := B1) (m := r_3.length) (c := c1) (k := .i64) (i := r_5) k_sl_207_122 k_sz_122_4 rfl rfl rfl (gi_isSome enc_Ring_len rfl (ST.cf hw' (i := 0) rfl) hx1) (getI_nn hx1) (getI_ltI hx1 rfl))) ?_
     refine rq 9 34 (v := gR_ x1) rfl (hS11.se [1]) (fun w' hw' => (Y_loadA (B := B1) (i := r_5.toNat * 4) (cs := (r_3.flatMap enc_Ring)) (vs := kR_ x1) k_ag_122 k_sz_122_4 rfl rfl (ST.cf hw' (i := 0) rfl) (enc_Ring_len x1) (gi_seg enc_Ring_len hx1))) ?_
     refine rA [10] ?_
     refine ra_c 35 (i := 10) rfl rfl rfl (Yc_func (g := 205) (vs := [gR_ x, gR_ x1]) k_call_205 rfl (mc rfl (mc rfl mn)) (c_spec_l11Power x x1 _  (hS11.inn0 [] rfl) hc3)) ?_ ?_
     ·rintro _ w_5 ⟨rfl, hd3⟩
      have hS12 := hS11.out00 hd3
      refine ⟨(hS12.se [1]), ?_⟩
      refine rq 11 36 (v := .agg #[vi 3, vi r_4, vi r_5, vi r_7]) rfl (hS12.se [1]) (fun w' hw' => (Y_buildS (zs := [vi 0, vi 0, vi 0, vi 0]) (vs := [(0, vi 3), (1, vi r_4), (2, vi r_5), (3, vi r_7)]) (cs := [vi 3, vi r_4, vi r_5, vi r_7]) k_pl_133 k_zero_133 rfl (mpc rfl (mpc rfl (mpc rfl (mpc rfl mpn)))) rfl)) ?_
      refine rA [12] ?_
      refine ra_s0 (i := 12) rfl rfl rfl (Ys_store (i := 0) (s := 4) (B := aD b1) (T' := 133) (v := .agg #[vi 3, vi r_4, vi r_5, vi r_7]) (vs := [vi 3, vi r_4, vi r_5, vi r_7]) (k := 0) (cs' := [vi 3, vi r_4, vi r_5, vi r_7]) hS12 k_sz_133_4 rfl (hf.get 2 0 rfl) rfl rfl rfl rfl rfl (lB rfl) rfl rfl) ?_ ?_
      ·rintro _ w_6 ⟨rfl, hS13⟩
       refine ⟨(hS13.se [1]), ?_⟩
       refine rq 13 3 (v := .bool true) rfl (hS13.se [1]) (fun w' hw' => (Y_assign (v := .bool true) rfl rfl)) ?_
       refine ra_done (by kernel_rfl) ?_
       refine cw_ret ?_
       obtain rfl := some_inj hF3
       obtain rfl := some_inj hL1
       obtain ⟨rfl, rfl⟩ := pr2 (some_inj hF1)
       exact ret2 Try.results141 (v1 := .agg #[vi 3, vi r_4, vi r_5, vi r_7]) (resAt_cellA (B := aD b1) (i := 0) (cs := [vi 3, vi r_4, vi r_5, vi r_7]) (vs := [vi 3, vi r_4, vi r_5, vi r_7]) (hf.get 2 0 rfl) k_ag_133 k_sz_133_4 (hS13.cf (i := 0) rfl) rfl rfl) (v2 := .bool true) (resAt_tmp rfl) ⟨rfl, (hS13.sN [])⟩
      exact allR_nil
     exact allR_nil
    ·skip
     have hF4 := cf' hF2 hb2
     refine cw_skip (cw_region ?_)
     refine sQ 15 (Y_move (v := vi kind) rfl (hf.get 5 2 rfl)) ?_
     refine sQ 16 (Y_add (k := .i64) (a := kind) (b := 1) rfl rfl rfl) ?_
     refine sQ 5 (Y_assign (v := vi (i64.wrap (kind + 1))) rfl rfl) (rw_nil ?_)
     obtain rfl := some_inj hF4
     exact ⟨k_1, Nat.lt_succ_self _, (i64.wrap (kind + 1)), (FF.cons (hf.get 2 0 rfl) (FF.cons (hf.get 4 1 rfl) (FF.cons rfl FF.nil))), (hS9.sel [0, 1] rfl rfl), hL1⟩
   ·skip
    have hF5 := cf' hb hb1
    refine cw_exit rfl ?_
    obtain rfl := some_inj hF5
    obtain rfl := some_inj hL1
    refine cw_seq (cw_region ?_)
    refine sQ 37 (Y_buildS (zs := [vi 0, vi 0, vi 0, vi 0]) (vs := []) (cs := [vi 0, vi 0, vi 0, vi 0]) k_pl_133 k_zero_133 rfl mpn rfl) ?_
    refine s0 (Ys_store (i := 0) (s := 4) (B := aD b1) (T' := 133) (v := .agg #[vi 0, vi 0, vi 0, vi 0]) (vs := [vi 0, vi 0, vi 0, vi 0]) (k := 0) (cs' := [vi 0, vi 0, vi 0, vi 0]) hS8 k_sz_133_4 rfl (hf.get 2 0 rfl) rfl rfl rfl rfl rfl (lB rfl) rfl rfl) ?_
    rintro _ w_7 ⟨rfl, hS14⟩
    refine sQ 3 (Y_assign (v := .bool false) rfl rfl) (rw_nil (cw_ret ?_))
    obtain ⟨rfl, rfl⟩ := pr2 (some_inj hF1)
    exact ret2 Try.results141 (v1 := .agg #[vi 0, vi 0, vi 0, vi 0]) (resAt_cellA (B := aD b1) (i := 0) (cs := [vi 0, vi 0, vi 0, vi 0]) (vs := [vi 0, vi 0, vi 0, vi 0]) (hf.get 2 0 rfl) k_ag_133 k_sz_133_4 (hS14.cf (i := 0) rfl) rfl rfl) (v2 := .bool false) (resAt_tmp rfl) ⟨rfl, (hS14.sN [])⟩
  exact allR_nil
 exact allR_nil

theorem c_spec_l1Neg (x : TRing)  (w0 : World)  (hS : ST w0 [] w0 [] []) {r_ : TRing} (hF : F_spec_l1Neg x = some r_) :
  CV Try.prog 237 #[gR_ x] w0 (fun v w' => v = (gR_ r_) ∧ ST w0 [] w' [] []) := by
 unfold F_spec_l1Neg at hF
 refine cv_of_cw 16 Try.func237 rfl Try.ntmps237 rfl ?_
 refine cw_seq (cw_region ?_)
 refine sS 1 (Ys_box (T := 122) (v := gR_ x) (cs := kR_ x) (m := 4) hS rfl rfl rfl rfl) ?_
 rintro _ w_ ⟨b, rfl, hS1⟩
 refine sS 2 (Ys_alloc (T := 122) (cs := [vi 0, vi 0, vi 0, vi 0]) (m := 4) hS1 k_zero_122 rfl rfl rfl) ?_
 rintro _ w_1 ⟨b1, rfl, hS2⟩
 refine rw_nil (cw_seq (cw_region ?_))
 refine sQ 3 (Y_fieldAddr (B := aD b) (i := 0) (s := 0) k_fd_122_0_0_3 k_sz_3_1 rfl rfl) ?_
 refine sQ 4 (Y_load1 (B := aD b) (i := 0) (cs := kR_ x) (v := vi x.A) k_sc_3 rfl rfl (hS2.cf (i := 0) rfl) rfl) ?_
 refine sQ 5 (Y_neg (k := .i64) (a := x.A) rfl rfl) ?_
 refine sQ 6 (Y_fieldAddr (B := aD b) (i := 0) (s := 0) k_fd_122_1_1_3 k_sz_3_1 rfl rfl) ?_
 refine sQ 7 (Y_load1 (B := aD b) (i := 1) (cs := kR_ x) (v := vi x.B) k_sc_3 rfl rfl (hS2.cf (i := 0) rfl) rfl) ?_
 refine sQ 8 (Y_neg (k := .i64) (a := x.B) rfl rfl) ?_
 refine sQ 9 (Y_fieldAddr (B := aD b) (i := 0) (s := 0) k_fd_122_2_2_3 k_sz_3_1 rfl rfl) ?_
 refine sQ 10 (Y_load1 (B := aD b) (i := 2) (cs := kR_ x) (v := vi x.C) k_sc_3 rfl rfl (hS2.cf (i := 0) rfl) rfl) ?_
 refine sQ 11 (Y_neg (k := .i64) (a := x.C) rfl rfl) ?_
 refine sQ 12 (Y_fieldAddr (B := aD b) (i := 0) (s := 0) k_fd_122_3_3_3 k_sz_3_1 rfl rfl) ?_
 refine sQ 13 (Y_load1 (B := aD b) (i := 3) (cs := kR_ x) (v := vi x.D) k_sc_3 rfl rfl (hS2.cf (i := 0) rfl) rfl) ?_
 refine sQ 14 (Y_neg (k := .i64) (a := x.D) rfl rfl) ?_
 refine sQ 15 (Y_buildS (zs := [vi 0, vi 0, vi 0, vi 0]) (vs := [(0, vi (i64.wrap (-x.A))), (1, vi (i64.wrap (-x.B))), (2, vi (i64.wrap (-x.C))), (3, vi (i64.wrap (-x.D)))]) (cs := [vi (i64.wrap (-x.A)), vi (i64.wrap (-x.B)), vi (i64.wrap (-x.C)), vi (i64.wrap (-x.D))]) k_pl_122 k_zero_122 rfl (mpc rfl (mpc rfl (mpc rfl (mpc rfl mpn)))) rfl) ?_
 refine s0 (Ys_store (i := 1) (s := 4) (B := aD b1) (T' := 122) (v := .agg #[vi (i64.wrap (-x.A)), vi (i64.wrap (-x.B)), vi (i64.wrap (-x.C)), vi (i64.wrap (-x.D))]) (vs := [vi (i64.wrap (-x.A)), vi (i64.wrap (-x.B)), vi (i64.wrap (-x.C)), vi (i64.wrap (-x.D))]) (k := 0) (cs' := [vi (i64.wrap (-x.A)), vi (i64.wrap (-x.B)), vi (i64.wrap (-x.C)), vi (i64.wrap (-x.D))]) hS2 k_sz_122_4 rfl rfl rfl rfl rfl rfl rfl (lB rfl) rfl rfl) ?_
 rintro _ w_2 ⟨rfl, hS3⟩
 refine rw_nil (cw_ret ?_)
 obtain rfl := some_inj hF
 exact ret1 Try.results237 (v1 := .agg #[vi (i64.wrap (-x.A)), vi (i64.wrap (-x.B)), vi (i64.wrap (-x.C)), vi (i64.wrap (-x.D))]) (resAt_cellA (B := aD b1) (i := 0) (cs := [vi (i64.wrap (-x.A)), vi (i64.wrap (-x.B)), vi (i64.wrap (-x.C)), vi (i64.wrap (-x.D))]) (vs := [vi (i64.wrap (-x.A)), vi (i64.wrap (-x.B)), vi (i64.wrap (-x.C)), vi (i64.wrap (-x.D))]) rfl k_ag_122 k_sz_122_4 (hS3.cf (i := 1) rfl) rfl rfl) ⟨rfl, (hS3.sN [])⟩

theorem c_spec_l2Neg (x : TDyadic)  (w0 : World)  (hS : ST w0 [] w0 [] []) {r_ : TDyadic} (hF : F_spec_l2Neg x = some r_) :
  CV Try.prog 206 #[gD_ x] w0 (fun v w' => v = (gD_ r_) ∧ ST w0 [] w' [] []) := by
 unfold F_spec_l2Neg at hF
 refine cv_of_cw 9 Try.func206 rfl Try.ntmps206 rfl ?_
 refine cw_seq (cw_region ?_)
 refine sS 1 (Ys_box (T := 124) (v := gD_ x) (cs := kD_ x) (m := 5) hS rfl rfl rfl rfl) ?_
 rintro _ w_ ⟨b, rfl, hS1⟩
 refine sS 2 (Ys_alloc (T := 124) (cs := kZ_) (m := 5) hS1 k_zero_124 rfl rfl rfl) ?_
 rintro _ w_1 ⟨b1, rfl, hS2⟩
 refine rw_nil (cw_seq ?_)
 obtain ⟨r_1, hc, hF⟩ := bind_inv hF
 refine ra_start (hS2.se [0]).fn (by kernel_rfl) ?_
 have hS4 := hS2.drew
 refine rq 0 3 (v := pt (aD b) 0) rfl (hS4.se [0]) (fun w' hw' => (Y_fieldAddr (B := aD b) (i := 0) (s := 3) k_fd_124_0_0_122 k_sz_122_4 rfl rfl)) ?_
 refine rq 1 4 (v := gR_ x.Num) rfl (hS4.se [0]) (fun w' hw' => (Y_loadA (B := aD b) (i := 0) (cs := kD_ x) (vs := kR_ x.Num) k_ag_122 k_sz_122_4 rfl rfl (ST.cf hw' (i := 0) rfl) rfl rfl)) ?_
 refine rq 3 6 (v := pt (aD b) 4) rfl (hS4.se [0]) (fun w' hw' => (Y_fieldAddr (B := aD b) (i := 0) (s := 0) k_fd_124_1_4_3 k_sz_3_1 rfl rfl)) ?_
 refine rq 4 7 (v := vi x.Exp) rfl (hS4.se [0]) (fun w' hw' => (Y_load1 (B := aD b) (i := 4) (cs := kD_ x) (v := vi x.Exp) k_sc_3 rfl rfl (ST.cf hw' (i := 0) rfl) rfl)) ?_
 refine rA [2] ?_
 refine ra_c 5 (i := 2) rfl rfl rfl (Yc_func (g := 237) (vs := [gR_ x.Num]) k_call_237 rfl (mc rfl mn) (c_spec_l1Neg x.Num _  (hS4.inn0 [] rfl) hc)) ?_ ?_
 ·rintro _ w_2 ⟨rfl, hd⟩
  have hS5 := hS4.out00 hd
  refine ⟨(hS5.se [0]), ?_⟩
  refine rq 5 8 (v := .agg #[vi r_1.A, vi r_1.B, vi r_1.C, vi r_1.D, vi x.Exp]) rfl (hS5.se [0]) (fun w' hw' => (Y_buildS (zs := kZ_) (vs := [(0, gR_ r_1), (1, vi x.Exp)]) (cs := [vi r_1.A, vi r_1.B, vi r_1.C, vi r_1.D, vi x.Exp]) k_pl_124 k_zero_124 rfl (mpc rfl (mpc rfl mpn)) rfl)) ?_
  refine rA [6] ?_
  refine ra_s0 (i := 6) rfl rfl rfl (Ys_store (i := 1) (s := 5) (B := aD b1) (T' := 124) (v := .agg #[vi r_1.A, vi r_1.B, vi r_1.C, vi r_1.D, vi x.Exp]) (vs := [vi r_1.A, vi r_1.B, vi r_1.C, vi r_1.D, vi x.Exp]) (k := 0) (cs' := [vi r_1.A, vi r_1.B, vi r_1.C, vi r_1.D, vi x.Exp]) hS5 k_sz_124_5 rfl rfl rfl rfl rfl rfl rfl (lB rfl) rfl rfl) ?_ ?_
  ·rintro _ w_3 ⟨rfl, hS6⟩
   refine ⟨(hS6.se [0]), ?_⟩
   refine ra_done (by kernel_rfl) ?_
   refine cw_ret ?_
   obtain rfl := some_inj hF
   exact ret1 Try.results206 (v1 := .agg #[vi r_1.A, vi r_1.B, vi r_1.C, vi r_1.D, vi x.Exp]) (resAt_cellA (B := aD b1) (i := 0) (cs := [vi r_1.A, vi r_1.B, vi r_1.C, vi r_1.D, vi x.Exp]) (vs := [vi r_1.A, vi r_1.B, vi r_1.C, vi r_1.D, vi x.Exp]) rfl k_ag_124 k_sz_124_5 (hS6.cf (i := 1) rfl) rfl rfl) ⟨rfl, (hS6.sN [])⟩
  exact allR_nil
 exact allR_nil

theorem c_spec_l2C_level (c : Tl2C) (m : TMatrix) (t : TTwoLevel) (B : Option Addr) (B1 : Option Addr) (c1 n : Nat) (w0 : World) (hn : m.Cells.length = n) (hS : ST w0 (bl [⟨B, 127, [.bool c.bad], 1⟩]) w0 [⟨B, 127, [.bool c.bad], 1⟩] [⟨B1, (m.Cells.flatMap eN0)⟩]) {r_ : TMatrix} {m1 : Tl2C} (hF : F_spec_l2C_level c m t = some (r_, m1)) :
  CV Try.prog 142 #[pt B 0, .agg #[vi m.Rows, vi m.Cols, .slice B1 n c1], .agg #[vi t.Kind, vi t.I, vi t.J, vi t.M_]] w0 (fun v w' => ∃ (B2 : Option Addr) (c2 : Nat), v = (gM_ r_ B2 c2) ∧ ST w0 (bl [⟨B, 127, [.bool c.bad], 1⟩]) w' [⟨B, 127, [.bool m1.bad], 1⟩, ⟨B2, 124, (r_.Cells.flatMap eN0), c2 * 5⟩] []) := by
 subst hn
 unfold F_spec_l2C_level at hF
 refine cv_of_cw 136 Try.func142 rfl Try.ntmps142 rfl ?_
 refine cw_seq (cw_region ?_)
 refine sS 4 (Ys_box (T := 75) (v := gM_ m B1 c1) (cs := kM_ m B1 c1) (m := 3) hS rfl rfl rfl rfl) ?_
 rintro _ w_ ⟨b, rfl, hS1⟩
 refine sS 5 (Ys_box (T := 133) (v := .agg #[vi t.Kind, vi t.I, vi t.J, vi t.M_]) (cs := [vi t.Kind, vi t.I, vi t.J, vi t.M_]) (m := 4) hS1 rfl rfl rfl rfl) ?_
 rintro _ w_1 ⟨b1, rfl, hS2⟩
 refine sS 6 (Ys_alloc (T := 75) (cs := kN_) (m := 3) hS2 k_zero_75 rfl rfl rfl) ?_
 rintro _ w_2 ⟨b2, rfl, hS3⟩
 refine rw_nil (cw_seq ?_)
 obtain ⟨hap, hF⟩ := chk_inv hF
 refine cw_mid (fun f w => ∃ (B4 : Option Addr) (B5 : Option Addr) (c4 : Nat), FF f [(0, pt B 0), (4, pt (aD b) 0), (5, pt (aD b1) 0), (6, pt (aD b2) 0), (7, pt B4 0)] ∧ ST w0 (bl [⟨B, 127, [.bool c.bad], 1⟩]) w [⟨B, 127, [.bool c.bad], 1⟩, ⟨aD b, 75, kM_ m B1 c1, 3⟩, ⟨aD b1, 133, [vi t.Kind, vi t.I, vi t.J, vi t.M_], 4⟩, ⟨aD b2, 75, kN_, 3⟩, ⟨B4, 75, kM_ m B5 c4, 3⟩, ⟨B5, 124, (m.Cells.flatMap eN0), c4 * 5⟩] [⟨B1, (m.Cells.flatMap eN0)⟩]) ?_ ?_
 ·skip
  refine ra_start (hS3.se [0, 1, 2, 3]).fn (by kernel_rfl) ?_
  have hS5 := hS3.drew
  refine rq 0 12 (v := pt (aD b) 0) rfl (hS5.se [0, 1, 2, 3]) (fun w' hw' => (Y_fieldAddr (B := aD b) (i := 0) (s := 0) k_fd_75_0_0_3 k_sz_3_1 rfl rfl)) ?_
  refine rq 1 13 (v := vi m.Rows) rfl (hS5.se [0, 1, 2, 3]) (fun w' hw' => (Y_load1 (B := aD b) (i := 0) (cs := kM_ m B1 c1) (v := vi m.Rows) k_sc_3 rfl rfl (ST.cf hw' (i := 1) rfl) rfl)) ?_
  refine rq 2 14 (v := pt (aD b) 1) rfl (hS5.se [0, 1, 2, 3]) (fun w' hw' => (Y_fieldAddr (B := aD b) (i := 0) (s := 0) k_fd_75_1_1_3 k_sz_3_1 rfl rfl)) ?_
  refine rq 3 15 (v := vi m.Cols) rfl (hS5.se [0, 1, 2, 3]) (fun w' hw' => (Y_load1 (B := aD b) (i := 1) (cs := kM_ m B1 c1) (v := vi m.Cols) k_sc_3 rfl rfl (ST.cf hw' (i := 1) rfl) rfl)) ?_
  refine rq 5 17 (v := pt (aD b) 2) rfl (hS5.se [0, 1, 2, 3]) (fun w' hw' => (Y_fieldAddr (B := aD b) (i := 0) (s := 0) k_fd_75_2_2_73 k_sz_73_1 rfl rfl)) ?_
  refine rq 6 18 (v := .slice B1 m.Cells.length c1) rfl (hS5.se [0, 1, 2, 3]) (fun w' hw' => (Y_load1 (B := aD b) (i := 2) (cs := kM_ m B1 c1) (v := .slice B1 m.Cells.length c1) k_sc_73 rfl rfl (ST.cf hw' (i := 1) rfl) rfl)) ?_
  refine rA [4, 9] ?_
  refine ra_s 16 (i := 4) rfl rfl rfl (Ys_bslice0 (s := 5) (e := 124) hS5 k_sl_73_124 k_sz_124_5 rfl) ?_ ?_
  ·rintro _ w_3 ⟨b3, rfl, hS6⟩
   refine ⟨(hS6.se [0, 1, 2, 3]), ?_⟩
   refine rA [7, 9] ?_
   refine ra_s 19 (i := 7) rfl rfl rfl (Ys_append (s := 5) (by' := 40) (i := 4) (nn := 0) (c := 0) (k := m.Cells.length) (len := m.Cells.length) (B := aD b3) (xs := (m.Cells.flatMap eN0)) (cs' := (m.Cells.flatMap eN0)) hS6 k_sl_73_124 k_sz_124_5 k_by_124_40 k_zero_124 rfl (by decide) rfl rfl rfl rfl (fm_lenn (l := []) eN1 rfl) rfl (hS6.rf (i := 0) rfl) (fm_lenn (l := m.Cells) eN1 rfl) (fm_one' (enc := eN0) enc_Dyadic_one m.Cells) (by have := hap; omega) (by have := hap; simp only [maxLen]; omega) rfl (app_len0 (l := m.Cells) rfl)) ?_ ?_
   ·rintro _ w_4 ⟨B3, c3, rfl, hS7⟩
    refine ⟨(hS7.se [0, 1, 2, 3]), ?_⟩
    refine rq 8 20 (v := gM_ m B3 c3) rfl (hS7.se [0, 1, 2, 3]) (fun w' hw' => (Y_buildS (zs := kN_) (vs := [(0, vi m.Rows), (1, vi m.Cols), (2, .slice B3 m.Cells.length c3)]) (cs := kM_ m B3 c3) k_pl_75 k_zero_75 rfl (mpc rfl (mpc rfl (mpc rfl mpn))) rfl)) ?_
    refine rA [9] ?_
    refine ra_s 7 (i := 9) rfl rfl rfl (Ys_alloc (T := 75) (cs := kN_) (m := 3) hS7 k_zero_75 rfl rfl rfl) ?_ ?_
    ·rintro _ w_5 ⟨b4, rfl, hS8⟩
     refine ⟨(hS8.se [0, 1, 2, 3]), ?_⟩
     refine rA [10] ?_
     refine ra_s0 (i := 10) rfl rfl rfl (Ys_store (i := 5) (s := 3) (B := aD b4) (T' := 75) (v := gM_ m B3 c3) (vs := kM_ m B3 c3) (k := 0) (cs' := kM_ m B3 c3) hS8 k_sz_75_3 rfl rfl rfl rfl rfl rfl rfl (lB rfl) rfl rfl) ?_ ?_
     ·rintro _ w_6 ⟨rfl, hS9⟩
      refine ⟨(hS9.se [0, 1, 2, 3]), ?_⟩
      refine ra_done (by kernel_rfl) ?_
      exact ⟨aD b4, B3, c3, (FF.cons rfl (FF.cons rfl (FF.cons rfl (FF.cons rfl (FF.cons rfl FF.nil))))), (hS9.sel [0, 1, 2, 3, 5, 4] rfl rfl)⟩
     exact allR_nil
    exact allR_nil
   refine ra_s 7 (i := 9) rfl rfl rfl (Ys_alloc (T := 75) (cs := kN_) (m := 3) hS6 k_zero_75 rfl rfl rfl) ?_ ?_
   ·rintro _ w_7 ⟨b4, rfl, hS10⟩
    refine ⟨(hS10.se [0, 1, 2, 3]), ?_⟩
    refine rA [7] ?_
    refine ra_s 19 (i := 7) rfl rfl rfl (Ys_append (s := 5) (by' := 40) (i := 4) (nn := 0) (c := 0) (k := m.Cells.length) (len := m.Cells.length) (B := aD b3) (xs := (m.Cells.flatMap eN0)) (cs' := (m.Cells.flatMap eN0)) hS10 k_sl_73_124 k_sz_124_5 k_by_124_40 k_zero_124 rfl (by decide) rfl rfl rfl rfl (fm_lenn (l := []) eN1 rfl) rfl (hS10.rf (i := 0) rfl) (fm_lenn (l := m.Cells) eN1 rfl) (fm_one' (enc := eN0) enc_Dyadic_one m.Cells) (by have := hap; omega) (by have := hap; simp only [maxLen]; omega) rfl (app_len0 (l := m.Cells) rfl)) ?_ ?_
    ·rintro _ w_8 ⟨B3, c3, rfl, hS11⟩
     refine ⟨(hS11.se [0, 1, 2, 3]), ?_⟩
     refine rq 8 20 (v := gM_ m B3 c3) rfl (hS11.se [0, 1, 2, 3]) (fun w' hw' => (Y_buildS (zs := kN_) (vs := [(0, vi m.Rows), (1, vi m.Cols), (2, .slice B3 m.Cells.length c3)]) (cs := kM_ m B3 c3) k_pl_75 k_zero_75 rfl (mpc rfl (mpc rfl (mpc rfl mpn))) rfl)) ?_
     refine rA [10] ?_
     refine ra_s0 (i := 10) rfl rfl rfl (Ys_store (i := 5) (s := 3) (B := aD b4) (T' := 75) (v := gM_ m B3 c3) (vs := kM_ m B3 c3) (k := 0) (cs' := kM_ m B3 c3) hS11 k_sz_75_3 rfl rfl rfl rfl rfl rfl rfl (lB rfl) rfl rfl) ?_ ?_
     ·rintro _ w_9 ⟨rfl, hS12⟩
      refine ⟨(hS12.se [0, 1, 2, 3]), ?_⟩
      refine ra_done (by kernel_rfl) ?_
      exact ⟨aD b4, B3, c3, (FF.cons rfl (FF.cons rfl (FF.cons rfl (FF.cons rfl (FF.cons rfl FF.nil))))), (hS12.sel [0, 1, 2, 3, 5, 4] rfl rfl)⟩
     exact allR_nil
    exact allR_nil
   exact allR_nil
  refine ra_s 7 (i := 9) rfl rfl rfl (Ys_alloc (T := 75) (cs := kN_) (m := 3) hS5 k_zero_75 rfl rfl rfl) ?_ ?_
  ·rintro _ w_10 ⟨b4, rfl, hS13⟩
   refine ⟨(hS13.se [0, 1, 2, 3]), ?_⟩
   refine rA [4] ?_
   refine ra_s 16 (i := 4) rfl rfl rfl (Ys_bslice0 (s := 5) (e := 124) hS13 k_sl_73_124 k_sz_124_5 rfl) ?_ ?_
   ·rintro _ w_11 ⟨b3, rfl, hS14⟩
    refine ⟨(hS14.se [0, 1, 2, 3]), ?_⟩
    refine rA [7] ?_
    refine ra_s 19 (i := 7) rfl rfl rfl (Ys_append (s := 5) (by' := 40) (i := 5) (nn := 0) (c := 0) (k := m.Cells.length) (len := m.Cells.length) (B := aD b3) (xs := (m.Cells.flatMap eN0)) (cs' := (m.Cells.flatMap eN0)) hS14 k_sl_73_124 k_sz_124_5 k_by_124_40 k_zero_124 rfl (by decide) rfl rfl rfl rfl (fm_lenn (l := []) eN1 rfl) rfl (hS14.rf (i := 0) rfl) (fm_lenn (l := m.Cells) eN1 rfl) (fm_one' (enc := eN0) enc_Dyadic_one m.Cells) (by have := hap; omega) (by have := hap; simp only [maxLen]; omega) rfl (app_len0 (l := m.Cells) rfl)) ?_ ?_
    ·rintro _ w_12 ⟨B3, c3, rfl, hS15⟩
     refine ⟨(hS15.se [0, 1, 2, 3]), ?_⟩
     refine rq 8 20 (v := gM_ m B3 c3) rfl (hS15.se [0, 1, 2, 3]) (fun w' hw' => (Y_buildS (zs := kN_) (vs := [(0, vi m.Rows), (1, vi m.Cols), (2, .slice B3 m.Cells.length c3)]) (cs := kM_ m B3 c3) k_pl_75 k_zero_75 rfl (mpc rfl (mpc rfl (mpc rfl mpn))) rfl)) ?_
     refine rA [10] ?_
     refine ra_s0 (i := 10) rfl rfl rfl (Ys_store (i := 4) (s := 3) (B := aD b4) (T' := 75) (v := gM_ m B3 c3) (vs := kM_ m B3 c3) (k := 0) (cs' := kM_ m B3 c3) hS15 k_sz_75_3 rfl rfl rfl rfl rfl rfl rfl (lB rfl) rfl rfl) ?_ ?_
     ·rintro _ w_13 ⟨rfl, hS16⟩
      refine ⟨(hS16.se [0, 1, 2, 3]), ?_⟩
      refine ra_done (by kernel_rfl) ?_
      exact ⟨aD b4, B3, c3, (FF.cons rfl (FF.cons rfl (FF.cons rfl (FF.cons rfl (FF.cons rfl FF.nil))))), (hS16.sel [0, 1, 2, 3, 4, 5] rfl rfl)⟩
     exact allR_nil
    exact allR_nil
   exact allR_nil
  exact allR_nil
 rintro f w ⟨B4, B5, c4, hf, hS4⟩
 refine cw_seq (cw_seq (cw_region ?_))
 refine sQ 8 (Y_assign (v := vi 0) rfl rfl) (rw_nil ?_)
 obtain ⟨hN, hF⟩ := chk_inv hF
 obtain ⟨z, hz, hF1⟩ := bind_inv hF
 refine cw_block ?_
 refine cw_loop (fun k f w => ∃ (k_ : Nat) (bad : Bool) (Cells : List TDyadic), FF f [(0, pt B 0), (4, pt (aD b) 0), (5, pt (aD b1) 0), (6, pt (aD b2) 0), (7, pt B4 0), (8, vi (k_ : Int))] ∧ Cells.length = m.Cells.length ∧ ST w0 (bl [⟨B, 127, [.bool c.bad], 1⟩]) w [⟨B, 127, [.bool bad], 1⟩, ⟨aD b, 75, kM_ m B1 c1, 3⟩, ⟨aD b1, 133, [vi t.Kind, vi t.I, vi t.J, vi t.M_], 4⟩, ⟨aD b2, 75, kN_, 3⟩, ⟨B4, 75, kM_ m B5 c4, 3⟩, ⟨B5, 124, (Cells.flatMap eN0), c4 * 5⟩] [⟨B1, (m.Cells.flatMap eN0)⟩] ∧ k_ + k = m.Cols.toNat ∧ forN (F_spec_l2C_level_l1 m t) k k_ (bad, Cells) = some z) m.Cols.toNat ⟨0, c.bad, m.Cells, (FF.cons (hf.get 0 0 rfl) (FF.cons (hf.get 4 1 rfl) (FF.cons (hf.get 5 2 rfl) (FF.cons (hf.get 6 3 rfl) (FF.cons (hf.get 7 4 rfl) (FF.cons rfl FF.nil)))))), rfl, (hS4.sel [0, 1, 2, 3, 4, 5] rfl rfl), Nat.zero_add _, hz⟩ ?_
 rintro k_1 f w ⟨k_, bad, Cells, hf1, hl, hS17, hik, hL⟩
 refine cw_seq (cw_seq (cw_region ?_))
 refine sQ 21 (Y_move (v := vi (k_ : Int)) rfl (hf1.get 8 5 rfl)) ?_
 refine sQ 22 (Y_fieldAddr (B := aD b) (i := 0) (s := 0) k_fd_75_1_1_3 k_sz_3_1 rfl (hf1.get 4 1 rfl)) ?_
 refine sQ 23 (Y_load1 (B := aD b) (i := 1) (cs := kM_ m B1 c1) (v := vi m.Cols) k_sc_3 rfl rfl (hS17.cf (i := 1) rfl) rfl) ?_
 refine sQ 24 (Y_lt (k := .i64) (a := (k_ : Int)) (b := m.Cols) rfl rfl rfl) (rw_nil ?_)
 refine cw_cond (b := (decide ((k_ : Int) < m.Cols))) rfl (fun hlt => ?_) (fun hlt => ?_)
 ·skip
  have hlt1 : k_ < m.Cols.toNat := by have h := of_decide_eq_true hlt; omega
  obtain ⟨k_2, rfl⟩ : ∃ k2, k_1 = k2 + 1 := ⟨k_1 - 1, by omega⟩
  obtain ⟨y, hb, hL1⟩ := forN_go hL
  unfold F_spec_l2C_level_l1 at hb
  refine cw_skip (cw_seq ?_)
  obtain ⟨z1, hz1, hF2⟩ := bind_inv hb
  refine cw_mid (fun f w => ∃ (bad1 : Bool) (Cells1 : List TDyadic), (bad1, Cells1) = z1 ∧ FF f [(0, pt B 0), (4, pt (aD b) 0), (5, pt (aD b1) 0), (6, pt (aD b2) 0), (7, pt B4 0), (8, vi (k_ : Int))] ∧ Cells1.length = m.Cells.length ∧ ST w0 (bl [⟨B, 127, [.bool c.bad], 1⟩]) w [⟨B, 127, [.bool bad1], 1⟩, ⟨aD b, 75, kM_ m B1 c1, 3⟩, ⟨aD b1, 133, [vi t.Kind, vi t.I, vi t.J, vi t.M_], 4⟩, ⟨aD b2, 75, kN_, 3⟩, ⟨B4, 75, kM_ m B5 c4, 3⟩, ⟨B5, 124, (Cells1.flatMap eN0), c4 * 5⟩] [⟨B1, (m.Cells.flatMap eN0)⟩]) ?_ ?_
  ·skip
   refine cw_block (cw_seq (cw_region ?_))
   refine sQ 27 (Y_fieldAddr (B := aD b) (i := 0) (s := 0) k_fd_75_2_2_73 k_sz_73_1 rfl (hf1.get 4 1 rfl)) ?_
   refine sQ 28 (Y_load1 (B := aD b) (i := 2) (cs := kM_ m B1 c1) (v := .slice B1 m.Cells.length c1) k_sc_73 rfl rfl (hS17.cf (i := 1) rfl) rfl) ?_
   refine sQ 29 (Y_fieldAddr (B := aD b1) (i := 0) (s := 0) k_fd_133_1_1_3 k_sz_3_1 rfl (hf1.get 5 2 rfl)) ?_
   refine sQ 30 (Y_load1 (B := aD b1) (i := 1) (cs := [vi t.Kind, vi t.I, vi t.J, vi t.M_]) (v := vi t.I) k_sc_3 rfl rfl (hS17.cf (i := 2) rfl) rfl) ?_
   refine sQ 31 (Y_fieldAddr (B := aD b) (i := 0) (s := 0) k_fd_75_1_1_3 k_sz_3_1 rfl (hf1.get 4 1 rfl)) ?_
   refine sQ 32 (Y_load1 (B := aD b) (i := 1) (cs := kM_ m B1 c1) (v := vi m.Cols) k_sc_3 rfl rfl (hS17.cf (i := 1) rfl) rfl) ?_
   refine sQ 33 (Y_mul (k := .i64) (a := t.I) (b := m.Cols) rfl rfl rfl) ?_
   refine sQ 34 (Y_move (v := vi (k_ : Int)) rfl (hf1.get 8 5 rfl)) ?_
   refine sQ 35 (Y_add (k := .i64) (a := (i64.wrap (t.I * m.Cols))) (b := (k_ : Int)) rfl rfl rfl) ?_
   obtain ⟨x, hx, hz1⟩ := bind_inv hz1
   refine sQ 36 (Y_index (B := B1) (m := m.Cells.length) (c := c1) (k := .i64) (i := (i64.wrap ((i64.wrap (t.I * m.Cols)) + (k_ : Int)))) k_sl_73_124 k_sz_124_5 rfl rfl rfl (gi_isSome eN1 rfl (hS17.rf (i := 0) rfl) hx) (getI_nn hx) (getI_ltI hx rfl)) ?_
   refine sQ 37 (Y_loadA (B := B1) (i := (i64.wrap ((i64.wrap (t.I * m.Cols)) + (k_ : Int))).toNat * 5) (cs := (m.Cells.flatMap eN0)) (vs := kD_ x) k_ag_124 k_sz_124_5 rfl rfl (hS17.rf (i := 0) rfl) (eN1 x) (gi_seg eN1 hx)) ?_
   refine sS 9 (Ys_alloc (T := 124) (cs := kZ_) (m := 5) hS17 k_zero_124 rfl rfl rfl) ?_
   rintro _ w_14 ⟨b5, rfl, hS19⟩
   refine s0 (Ys_store (i := 6) (s := 5) (B := aD b5) (T' := 124) (v := gD_ x) (vs := kD_ x) (k := 0) (cs' := kD_ x) hS19 k_sz_124_5 rfl rfl rfl rfl rfl rfl rfl (lB rfl) rfl rfl) ?_
   rintro _ w_15 ⟨rfl, hS20⟩
   refine rw_nil (cw_seq ?_)
   obtain ⟨r_1, hc, hz1⟩ := bind_inv hz1
   obtain ⟨x1, hx1, hz1⟩ := bind_inv hz1
   obtain ⟨⟨r_2, m2⟩, hc1, hz1⟩ := bind_inv hz1
   refine cw_mid (fun f w => ∃ (B6 : Option Addr), FF f [(0, pt B 0), (4, pt (aD b) 0), (5, pt (aD b1) 0), (6, pt (aD b2) 0), (7, pt B4 0), (8, vi (k_ : Int)), (9, pt (aD b5) 0), (10, pt B6 0)] ∧ ST w0 (bl [⟨B, 127, [.bool c.bad], 1⟩]) w [⟨B, 127, [.bool m2.bad], 1⟩, ⟨aD b, 75, kM_ m B1 c1, 3⟩, ⟨aD b1, 133, [vi t.Kind, vi t.I, vi t.J, vi t.M_], 4⟩, ⟨aD b2, 75, kN_, 3⟩, ⟨B4, 75, kM_ m B5 c4, 3⟩, ⟨B5, 124, (Cells.flatMap eN0), c4 * 5⟩, ⟨aD b5, 124, kD_ x, 5⟩, ⟨B6, 124, kD_ r_2, 5⟩] [⟨B1, (m.Cells.flatMap eN0)⟩]) ?_ ?_
   ·skip
    refine ra_start (hS20.se [1, 2, 3, 4, 5, 6]).fn (by kernel_rfl) ?_
    have hS24 := hS20.drew
    refine rq 0 38 (v := pt B 0) rfl (hS24.se [1, 2, 3, 4, 5, 6]) (fun w' hw' => (Y_move (v := pt B 0) rfl (hf1.get 0 0 rfl))) ?_
    refine rq 1 39 (v := pt (aD b1) 3) rfl (hS24.se [1, 2, 3, 4, 5, 6]) (fun w' hw' => (Y_fieldAddr (B := aD b1) (i := 0) (s := 0) k_fd_133_3_3_3 k_sz_3_1 rfl (hf1.get 5 2 rfl))) ?_
    refine rq 2 40 (v := vi t.M_) rfl (hS24.se [1, 2, 3, 4, 5, 6]) (fun w' hw' => (Y_load1 (B := aD b1) (i := 3) (cs := [vi t.Kind, vi t.I, vi t.J, vi t.M_]) (v := vi t.M_) k_sc_3 rfl rfl (ST.cf hw' (i := 1) rfl) rfl)) ?_
    refine rq 4 42 (v := pt (aD b) 2) rfl (hS24.se [1, 2, 3, 4, 5, 6]) (fun w' hw' => (Y_fieldAddr (B := aD b) (i := 0) (s := 0) k_fd_75_2_2_73 k_sz_73_1 rfl (hf1.get 4 1 rfl))) ?_
    refine rq 5 43 (v := .slice B1 m.Cells.length c1) rfl (hS24.se [1, 2, 3, 4, 5, 6]) (fun w' hw' => (Y_load1 (B := aD b) (i := 2) (cs := kM_ m B1 c1) (v := .slice B1 m.Cells.length c1) k_sc_73 rfl rfl (ST.cf hw' (i := 0) rfl) rfl)) ?_
    refine rq 6 44 (v := pt (aD b1) 2) rfl (hS24.se [1, 2, 3, 4, 5, 6]) (fun w' hw' => (Y_fieldAddr (B := aD b1) (i := 0) (s := 0) k_fd_133_2_2_3 k_sz_3_1 rfl (hf1.get 5 2 rfl))) ?_
    refine rq 7 45 (v := vi t.J) rfl (hS24.se [1, 2, 3, 4, 5, 6]) (fun w' hw' => (Y_load1 (B := aD b1) (i := 2) (cs := [vi t.Kind, vi t.I, vi t.J, vi t.M_]) (v := vi t.J) k_sc_3 rfl rfl (ST.cf hw' (i := 1) rfl) rfl)) ?_
    refine rq 8 46 (v := pt (aD b) 1) rfl (hS24.se [1, 2, 3, 4, 5, 6]) (fun w' hw' => (Y_fieldAddr (B := aD b) (i := 0) (s := 0) k_fd_75_1_1_3 k_sz_3_1 rfl (hf1.get 4 1 rfl))) ?_
    refine rq 9 47 (v := vi m.Cols) rfl (hS24.se [1, 2, 3, 4, 5, 6]) (fun w' hw' => (Y_load1 (B := aD b) (i := 1) (cs := kM_ m B1 c1) (v := vi m.Cols) k_sc_3 rfl rfl (ST.cf hw' (i := 0) rfl) rfl)) ?_
    refine rq 10 48 (v := vi (i64.wrap (t.J * m.Cols))) rfl (hS24.se [1, 2, 3, 4, 5, 6]) (fun w' hw' => (Y_mul (k := .i64) (a := t.J) (b := m.Cols) rfl rfl rfl)) ?_
    refine rq 11 49 (v := vi (k_ : Int)) rfl (hS24.se [1, 2, 3, 4, 5, 6]) (fun w' hw' => (Y_move (v := vi (k_ : Int)) rfl (hf1.get 8 5 rfl))) ?_
    refine rq 12 50 (v := vi (i64.wrap ((i64.wrap (t.J * m.Cols)) + (k_ : Int)))) rfl (hS24.se [1, 2, 3, 4, 5, 6]) (fun w' hw' => (Y_add (k := .i64) (a := (i64.wrap (t.J * m.Cols))) (b := (k_ : Int)) rfl rfl rfl)) ?_
    refine rq 13 51 (v := pt B1 ((i64.wrap ((i64.wrap (t.J * m.Cols)) + (k_ : Int))).toNat * 5)) rfl (hS24.se [1, 2, 3, 4, 5, 6]) (fun w' hw' => (Y_index (B := B1) (m := m.Cells.length) (c := c1) (k := .i64) (i := (i64.wrap ((i64.wrap (t.J * m.Cols)) + (k_ : Int)))) k_sl_73_124 k_sz_124_5 rfl rfl rfl (gi_isSome eN1 rfl (ST.rf hw' (i := 0) rfl) hx1) (getI_nn hx1) (getI_ltI hx1 rfl))) ?_
    refine rq 14 52 (v := gD_ x1) rfl (hS24.se [1, 2, 3, 4, 5, 6]) (fun w' hw' => (Y_loadA (B := B1) (i := (i64.wrap ((i64.wrap (t.J * m.Cols)) + (k_ : Int))).toNat * 5) (cs := (m.Cells.flatMap eN0)) (vs := kD_ x1) k_ag_124 k_sz_124_5 rfl rfl (ST.rf hw' (i := 0) rfl) (eN1 x1) (gi_seg eN1 hx1))) ?_
    refine rA [3, 16] ?_
    refine ra_c 41 (i := 3) rfl rfl rfl (Yc_func (g := 139) (vs := [vi t.M_]) k_call_139 rfl (mc rfl mn) (c_spec_l2Power t.M_ _  (hS24.inn0 [] rfl) hc)) ?_ ?_
    ·rintro _ w_16 ⟨rfl, hd⟩
     have hS25 := hS24.out00 hd
     refine ⟨(hS25.se [1, 2, 3, 4, 5, 6]), ?_⟩
     refine rA [15, 16] ?_
     refine ra_c 53 (i := 15) rfl rfl rfl (Yc_func (g := 137) (vs := [pt B 0, gD_ r_1, gD_ x1]) k_call_137 rfl (mc rfl (mc rfl (mc rfl mn))) (c_spec_l2C_mul (Tl2C.mk bad) r_1 x1 B _  (hS25.inn [true, false, false, false, false, false, false] rfl [] rfl) hc1)) ?_ ?_
     ·rintro _ w_17 ⟨rfl, hd1⟩
      have hS26 := hS25.out [true, false, false, false, false, false, false] rfl hd1
      refine ⟨(hS26.se [0, 1, 2, 3, 4, 5]), ?_⟩
      refine rA [16] ?_
      refine ra_s 10 (i := 16) rfl rfl rfl (Ys_alloc (T := 124) (cs := kZ_) (m := 5) hS26 k_zero_124 rfl rfl rfl) ?_ ?_
      ·rintro _ w_18 ⟨b6, rfl, hS27⟩
       refine ⟨(hS27.se [0, 1, 2, 3, 4, 5]), ?_⟩
       refine rA [17] ?_
       refine ra_s0 (i := 17) rfl rfl rfl (Ys_store (i := 7) (s := 5) (B := aD b6) (T' := 124) (v := gD_ r_2) (vs := kD_ r_2) (k := 0) (cs' := kD_ r_2) hS27 k_sz_124_5 rfl rfl rfl rfl rfl rfl rfl (lB rfl) rfl rfl) ?_ ?_
       ·rintro _ w_19 ⟨rfl, hS28⟩
        refine ⟨(hS28.se [0, 1, 2, 3, 4, 5]), ?_⟩
        refine ra_done (by kernel_rfl) ?_
        exact ⟨aD b6, (FF.cons (hf1.get 0 0 rfl) (FF.cons (hf1.get 4 1 rfl) (FF.cons (hf1.get 5 2 rfl) (FF.cons (hf1.get 6 3 rfl) (FF.cons (hf1.get 7 4 rfl) (FF.cons (hf1.get 8 5 rfl) (FF.cons rfl (FF.cons rfl FF.nil)))))))), (hS28.sel [6, 0, 1, 2, 3, 4, 5, 7] rfl rfl)⟩
       exact allR_nil
      exact allR_nil
     refine ra_s 10 (i := 16) rfl rfl rfl (Ys_alloc (T := 124) (cs := kZ_) (m := 5) hS25 k_zero_124 rfl rfl rfl) ?_ ?_
     ·rintro _ w_20 ⟨b6, rfl, hS29⟩
      refine ⟨(hS29.se [1, 2, 3, 4, 5, 6]), ?_⟩
      refine rA [15] ?_
      refine ra_c 53 (i := 15) rfl rfl rfl (Yc_func (g := 137) (vs := [pt B 0, gD_ r_1, gD_ x1]) k_call_137 rfl (mc rfl (mc rfl (mc rfl mn))) (c_spec_l2C_mul (Tl2C.mk bad) r_1 x1 B _  (hS29.inn [true, false, false, false, false, false, false, false] rfl [] rfl) hc1)) ?_ ?_
      ·rintro _ w_21 ⟨rfl, hd2⟩
       have hS30 := hS29.out [true, false, false, false, false, false, false, false] rfl hd2
       refine ⟨(hS30.se [0, 1, 2, 3, 4, 5]), ?_⟩
       refine rA [17] ?_
       refine ra_s0 (i := 17) rfl rfl rfl (Ys_store (i := 6) (s := 5) (B := aD b6) (T' := 124) (v := gD_ r_2) (vs := kD_ r_2) (k := 0) (cs' := kD_ r_2) hS30 k_sz_124_5 rfl rfl rfl rfl rfl rfl rfl (lB rfl) rfl rfl) ?_ ?_
       ·rintro _ w_22 ⟨rfl, hS31⟩
        refine ⟨(hS31.se [0, 1, 2, 3, 4, 5]), ?_⟩
        refine ra_done (by kernel_rfl) ?_
        exact ⟨aD b6, (FF.cons (hf1.get 0 0 rfl) (FF.cons (hf1.get 4 1 rfl) (FF.cons (hf1.get 5 2 rfl) (FF.cons (hf1.get 6 3 rfl) (FF.cons (hf1.get 7 4 rfl) (FF.cons (hf1.get 8 5 rfl) (FF.cons rfl (FF.cons rfl FF.nil)))))))), (hS31.sel [7, 0, 1, 2, 3, 4, 5, 6] rfl rfl)⟩
       exact allR_nil
      exact allR_nil
     exact allR_nil
    refine ra_s 10 (i := 16) rfl rfl rfl (Ys_alloc (T := 124) (cs := kZ_) (m := 5) hS24 k_zero_124 rfl rfl rfl) ?_ ?_
    ·rintro _ w_23 ⟨b6, rfl, hS32⟩
     refine ⟨(hS32.se [1, 2, 3, 4, 5, 6]), ?_⟩
     refine rA [3] ?_
     refine ra_c 41 (i := 3) rfl rfl rfl (Yc_func (g := 139) (vs := [vi t.M_]) k_call_139 rfl (mc rfl mn) (c_spec_l2Power t.M_ _  (hS32.inn0 [] rfl) hc)) ?_ ?_
     ·rintro _ w_24 ⟨rfl, hd3⟩
      have hS33 := hS32.out00 hd3
      refine ⟨(hS33.se [1, 2, 3, 4, 5, 6]), ?_⟩
      refine rA [15] ?_
      refine ra_c 53 (i := 15) rfl rfl rfl (Yc_func (g := 137) (vs := [pt B 0, gD_ r_1, gD_ x1]) k_call_137 rfl (mc rfl (mc rfl (mc rfl mn))) (c_spec_l2C_mul (Tl2C.mk bad) r_1 x1 B _  (hS33.inn [true, false, false, false, false, false, false, false] rfl [] rfl) hc1)) ?_ ?_
      ·rintro _ w_25 ⟨rfl, hd4⟩
       have hS34 := hS33.out [true, false, false, false, false, false, false, false] rfl hd4
       refine ⟨(hS34.se [0, 1, 2, 3, 4, 5]), ?_⟩
       refine rA [17] ?_
       refine ra_s0 (i := 17) rfl rfl rfl (Ys_store (i := 6) (s := 5) (B := aD b6) (T' := 124) (v := gD_ r_2) (vs := kD_ r_2) (k := 0) (cs' := kD_ r_2) hS34 k_sz_124_5 rfl rfl rfl rfl rfl rfl rfl (lB rfl) rfl rfl) ?_ ?_
       ·rintro _ w_26 ⟨rfl, hS35⟩
        refine ⟨(hS35.se [0, 1, 2, 3, 4, 5]), ?_⟩
        refine ra_done (by kernel_rfl) ?_
        exact ⟨aD b6, (FF.cons (hf1.get 0 0 rfl) (FF.cons (hf1.get 4 1 rfl) (FF.cons (hf1.get 5 2 rfl) (FF.cons (hf1.get 6 3 rfl) (FF.cons (hf1.get 7 4 rfl) (FF.cons (hf1.get 8 5 rfl) (FF.cons rfl (FF.cons rfl FF.nil)))))))), (hS35.sel [7, 0, 1, 2, 3, 4, 5, 6] rfl rfl)⟩
       exact allR_nil
      exact allR_nil
     exact allR_nil
    exact allR_nil
   rintro f w ⟨B6, hf3, hS23⟩
   refine cw_seq (cw_region ?_)
   refine sQ 54 (Y_fieldAddr (B := aD b1) (i := 0) (s := 0) k_fd_133_0_0_3 k_sz_3_1 rfl (hf3.get 5 2 rfl)) ?_
   refine sQ 55 (Y_load1 (B := aD b1) (i := 0) (cs := [vi t.Kind, vi t.I, vi t.J, vi t.M_]) (v := vi t.Kind) k_sc_3 rfl rfl (hS23.cf (i := 2) rfl) rfl) (rw_nil (cw_block (cw_seq (cw_region ?_))))
   refine sQ 94 (Y_eq (k := .i64) (a := t.Kind) (b := 1) rfl rfl rfl) ?_
   refine sQ 93 (Y_assign (v := .bool (t.Kind == 1)) rfl rfl) (rw_nil ?_)
   refine cw_cond (b := (t.Kind == 1)) rfl (fun hb1 => ?_) (fun hb1 => ?_)
   ·skip
    have hF3 := ct hz1 hb1
    obtain ⟨r_3, hc2, hF3⟩ := bind_inv hF3
    obtain ⟨⟨r_4, m3⟩, hc3, hF3⟩ := bind_inv hF3
    obtain ⟨x2, hx2, hF3⟩ := bind_inv hF3
    refine ra_start (hS23.se [1, 2, 3, 4, 6, 7]).fn (by kernel_rfl) ?_
    have hS38 := hS23.drew
    refine rq 0 95 (v := pt B4 2) rfl (hS38.se [1, 2, 3, 4, 6, 7]) (fun w' hw' => (Y_fieldAddr (B := B4) (i := 0) (s := 0) k_fd_75_2_2_73 k_sz_73_1 rfl (hf3.get 7 4 rfl))) ?_
    refine rq 1 96 (v := .slice B5 m.Cells.length c4) rfl (hS38.se [1, 2, 3, 4, 6, 7]) (fun w' hw' => (Y_load1 (B := B4) (i := 2) (cs := kM_ m B5 c4) (v := .slice B5 m.Cells.length c4) k_sc_73 rfl rfl (ST.cf hw' (i := 3) rfl) rfl)) ?_
    refine rq 2 97 (v := pt (aD b1) 1) rfl (hS38.se [1, 2, 3, 4, 6, 7]) (fun w' hw' => (Y_fieldAddr (B := aD b1) (i := 0) (s := 0) k_fd_133_1_1_3 k_sz_3_1 rfl (hf3.get 5 2 rfl))) ?_
    refine rq 3 98 (v := vi t.I) rfl (hS38.se [1, 2, 3, 4, 6, 7]) (fun w' hw' => (Y_load1 (B := aD b1) (i := 1) (cs := [vi t.Kind, vi t.I, vi t.J, vi t.M_]) (v := vi t.I) k_sc_3 rfl rfl (ST.cf hw' (i := 1) rfl) rfl)) ?_
    refine rq 4 99 (v := pt (aD b) 1) rfl (hS38.se [1, 2, 3, 4, 6, 7]) (fun w' hw' => (Y_fieldAddr (B := aD b) (i := 0) (s := 0) k_fd_75_1_1_3 k_sz_3_1 rfl (hf3.get 4 1 rfl))) ?_
    refine rq 5 100 (v := vi m.Cols) rfl (hS38.se [1, 2, 3, 4, 6, 7]) (fun w' hw' => (Y_load1 (B := aD b) (i := 1) (cs := kM_ m B1 c1) (v := vi m.Cols) k_sc_3 rfl rfl (ST.cf hw' (i := 0) rfl) rfl)) ?_
    refine rq 6 101 (v := vi (i64.wrap (t.I * m.Cols))) rfl (hS38.se [1, 2, 3, 4, 6, 7]) (fun w' hw' => (Y_mul (k := .i64) (a := t.I) (b := m.Cols) rfl rfl rfl)) ?_
    refine rq 7 102 (v := vi (k_ : Int)) rfl (hS38.se [1, 2, 3, 4, 6, 7]) (fun w' hw' => (Y_move (v := vi (k_ : Int)) rfl (hf3.get 8 5 rfl))) ?_
    refine rq 8 103 (v := vi (i64.wrap ((i64.wrap (t.I * m.Cols)) + (k_ : Int)))) rfl (hS38.se [1, 2, 3, 4, 6, 7]) (fun w' hw' => (Y_add (k := .i64) (a := (i64.wrap (t.I * m.Cols))) (b := (k_ : Int)) rfl rfl rfl)) ?_
    refine rq 9 104 (v := pt B 0) rfl (hS38.se [1, 2, 3, 4, 6, 7]) (fun w' hw' => (Y_move (v := pt B 0) rfl (hf3.get 0 0 rfl))) ?_
    refine rq 10 105 (v := pt (aD b1) 3) rfl (hS38.se [1, 2, 3, 4, 6, 7]) (fun w' hw' => (Y_fieldAddr (B := aD b1) (i := 0) (s := 0) k_fd_133_3_3_3 k_sz_3_1 rfl (hf3.get 5 2 rfl))) ?_
    refine rq 11 106 (v := vi t.M_) rfl (hS38.se [1, 2, 3, 4, 6, 7]) (fun w' hw' => (Y_load1 (B := aD b1) (i := 3) (cs := [vi t.Kind, vi t.I, vi t.J, vi t.M_]) (v := vi t.M_) k_sc_3 rfl rfl (ST.cf hw' (i := 1) rfl) rfl)) ?_
    refine rq 13 108 (v := gD_ x) rfl (hS38.se [1, 2, 3, 4, 6, 7]) (fun w' hw' => (Y_loadA (B := aD b5) (i := 0) (cs := kD_ x) (vs := kD_ x) k_ag_124 k_sz_124_5 rfl (hf3.get 9 6 rfl) (ST.cf hw' (i := 4) rfl) rfl rfl)) ?_
    refine rA [12] ?_
    refine ra_c 107 (i := 12) rfl rfl rfl (Yc_func (g := 139) (vs := [vi t.M_]) k_call_139 rfl (mc rfl mn) (c_spec_l2Power t.M_ _  (hS38.inn0 [] rfl) hc2)) ?_ ?_
    ·rintro _ w_27 ⟨rfl, hd5⟩
     have hS39 := hS38.out00 hd5
     refine ⟨(hS39.se [1, 2, 3, 4, 6, 7]), ?_⟩
     refine rA [14] ?_
     refine ra_c 109 (i := 14) rfl rfl rfl (Yc_func (g := 137) (vs := [pt B 0, gD_ r_3, gD_ x]) k_call_137 rfl (mc rfl (mc rfl (mc rfl mn))) (c_spec_l2C_mul m2 r_3 x B _  (hS39.inn [true, false, false, false, false, false, false, false] rfl [] rfl) hc3)) ?_ ?_
     ·rintro _ w_28 ⟨rfl, hd6⟩
      have hS40 := hS39.out [true, false, false, false, false, false, false, false] rfl hd6
      refine ⟨(hS40.se [0, 1, 2, 3, 5, 6]), ?_⟩
      refine rA [15] ?_
      refine ra_y 110 (i := 15) (v := pt B5 ((i64.wrap ((i64.wrap (t.I * m.Cols)) + (k_ : Int))).toNat * 5)) rfl rfl rfl (Y_index (B := B5) (m := m.Cells.length) (c := c4) (k := .i64) (i := (i64.wrap ((i64.wrap (t.I * m.Cols)) + (k_ : Int)))) k_sl_73_124 k_sz_124_5 rfl rfl rfl (gi_isSome eN1 rfl (hS40.cf (i := 4) rfl) hx2) (getI_nn hx2) (getI_ltI hx2 hl)) (hS40.se [0, 1, 2, 3, 5, 6]) ?_ ?_
      ·skip
       refine rA [16] ?_
       refine ra_s0 (i := 16) rfl rfl rfl (Ys_store (i := 4) (s := 5) (B := B5) (T' := 124) (v := gD_ r_4) (vs := kD_ r_4) (k := (i64.wrap ((i64.wrap (t.I * m.Cols)) + (k_ : Int))).toNat * 5) (cs' := ((Cells.set (i64.wrap ((i64.wrap (t.I * m.Cols)) + (k_ : Int))).toNat r_4).flatMap eN0)) hS40 k_sz_124_5 rfl rfl rfl rfl rfl rfl rfl (gi_fit0 eN1 hx2) (gi_set eN1 hx2 r_4 rfl) rfl) ?_ ?_
       ·rintro _ w_29 ⟨rfl, hS41⟩
        have hS41 : ST w0 (bl [⟨B, 127, [.bool c.bad], 1⟩]) _ [⟨aD b, 75, kM_ m B1 c1, 3⟩, ⟨aD b1, 133, [vi t.Kind, vi t.I, vi t.J, vi t.M_], 4⟩, ⟨aD b2, 75, kN_, 3⟩, ⟨B4, 75, kM_ m B5 c4, 3⟩, ⟨B5, 124, ((Cells.set (i64.wrap ((i64.wrap (t.I * m.Cols)) + (k_ : Int))).toNat r_4).flatMap eN0), c4 * 5⟩, ⟨aD b5, 124, kD_ x, 5⟩, ⟨B6, 124, kD_ r_2, 5⟩, ⟨B, 127, [.bool m3.bad], 1⟩] [⟨B1, (m.Cells.flatMap eN0)⟩] := hS41
        refine ⟨(hS41.se [0, 1, 2, 3, 5, 6]), ?_⟩
        refine ra_done (by kernel_rfl) ?_
        exact ⟨m3.bad, (Cells.set (i64.wrap ((i64.wrap (t.I * m.Cols)) + (k_ : Int))).toNat r_4), (some_inj hF3), (FF.cons (hf3.get 0 0 rfl) (FF.cons (hf3.get 4 1 rfl) (FF.cons (hf3.get 5 2 rfl) (FF.cons (hf3.get 6 3 rfl) (FF.cons (hf3.get 7 4 rfl) (FF.cons (hf3.get 8 5 rfl) FF.nil)))))), (set_len _ _ _ hl), (hS41.sel [7, 0, 1, 2, 3, 4] rfl rfl)⟩
       exact allR_nil
      exact allR_nil
     exact allR_nil
    exact allR_nil
   ·skip
    have hF4 := cf' hz1 hb1
    refine cw_seq (cw_region ?_)
    refine sQ 112 (Y_eq (k := .i64) (a := t.Kind) (b := 2) rfl rfl rfl) ?_
    refine sQ 111 (Y_assign (v := .bool (t.Kind == 2)) rfl rfl) (rw_nil ?_)
    refine cw_cond (b := (t.Kind == 2)) rfl (fun hb2 => ?_) (fun hb2 => ?_)
    ·skip
     have hF5 := ct hF4 hb2
     refine cw_seq (cw_region ?_)
     refine sQ 113 (Y_fieldAddr (B := B4) (i := 0) (s := 0) k_fd_75_2_2_73 k_sz_73_1 rfl (hf3.get 7 4 rfl)) ?_
     refine sQ 114 (Y_load1 (B := B4) (i := 2) (cs := kM_ m B5 c4) (v := .slice B5 m.Cells.length c4) k_sc_73 rfl rfl (hS23.cf (i := 4) rfl) rfl) ?_
     refine sQ 115 (Y_fieldAddr (B := aD b1) (i := 0) (s := 0) k_fd_133_1_1_3 k_sz_3_1 rfl (hf3.get 5 2 rfl)) ?_
     refine sQ 116 (Y_load1 (B := aD b1) (i := 1) (cs := [vi t.Kind, vi t.I, vi t.J, vi t.M_]) (v := vi t.I) k_sc_3 rfl rfl (hS23.cf (i := 2) rfl) rfl) ?_
     refine sQ 117 (Y_fieldAddr (B := aD b) (i := 0) (s := 0) k_fd_75_1_1_3 k_sz_3_1 rfl (hf3.get 4 1 rfl)) ?_
     refine sQ 118 (Y_load1 (B := aD b) (i := 1) (cs := kM_ m B1 c1) (v := vi m.Cols) k_sc_3 rfl rfl (hS23.cf (i := 1) rfl) rfl) ?_
     refine sQ 119 (Y_mul (k := .i64) (a := t.I) (b := m.Cols) rfl rfl rfl) ?_
     refine sQ 120 (Y_move (v := vi (k_ : Int)) rfl (hf3.get 8 5 rfl)) ?_
     refine sQ 121 (Y_add (k := .i64) (a := (i64.wrap (t.I * m.Cols))) (b := (k_ : Int)) rfl rfl rfl) ?_
     refine sQ 122 (Y_loadA (B := B6) (i := 0) (cs := kD_ r_2) (vs := kD_ r_2) k_ag_124 k_sz_124_5 rfl (hf3.get 10 7 rfl) (hS23.cf (i := 7) rfl) rfl rfl) ?_
     obtain ⟨x3, hx3, hF5⟩ := bind_inv hF5
     refine sQ 123 (Y_index (B := B5) (m := m.Cells.length) (c := c4) (k := .i64) (i := (i64.wrap ((i64.wrap (t.I * m.Cols)) + (k_ : Int)))) k_sl_73_124 k_sz_124_5 rfl rfl rfl (gi_isSome eN1 rfl (hS23.cf (i := 5) rfl) hx3) (getI_nn hx3) (getI_ltI hx3 hl)) ?_
     refine s0 (Ys_store (i := 5) (s := 5) (B := B5) (T' := 124) (v := gD_ r_2) (vs := kD_ r_2) (k := (i64.wrap ((i64.wrap (t.I * m.Cols)) + (k_ : Int))).toNat * 5) (cs' := ((Cells.set (i64.wrap ((i64.wrap (t.I * m.Cols)) + (k_ : Int))).toNat r_2).flatMap eN0)) hS23 k_sz_124_5 rfl rfl rfl rfl rfl rfl rfl (gi_fit0 eN1 hx3) (gi_set eN1 hx3 r_2 rfl) rfl) ?_
     rintro _ w_30 ⟨rfl, hS42⟩
     refine rw_nil (cw_region ?_)
     refine sQ 124 (Y_fieldAddr (B := B4) (i := 0) (s := 0) k_fd_75_2_2_73 k_sz_73_1 rfl (hf3.get 7 4 rfl)) ?_
     refine sQ 125 (Y_load1 (B := B4) (i := 2) (cs := kM_ m B5 c4) (v := .slice B5 m.Cells.length c4) k_sc_73 rfl rfl (hS42.cf (i := 4) rfl) rfl) ?_
     refine sQ 126 (Y_fieldAddr (B := aD b1) (i := 0) (s := 0) k_fd_133_2_2_3 k_sz_3_1 rfl (hf3.get 5 2 rfl)) ?_
     refine sQ 127 (Y_load1 (B := aD b1) (i := 2) (cs := [vi t.Kind, vi t.I, vi t.J, vi t.M_]) (v := vi t.J) k_sc_3 rfl rfl (hS42.cf (i := 2) rfl) rfl) ?_
     refine sQ 128 (Y_fieldAddr (B := aD b) (i := 0) (s := 0) k_fd_75_1_1_3 k_sz_3_1 rfl (hf3.get 4 1 rfl)) ?_
     refine sQ 129 (Y_load1 (B := aD b) (i := 1) (cs := kM_ m B1 c1) (v := vi m.Cols) k_sc_3 rfl rfl (hS42.cf (i := 1) rfl) rfl) ?_
     refine sQ 130 (Y_mul (k := .i64) (a := t.J) (b := m.Cols) rfl rfl rfl) ?_
     refine sQ 131 (Y_move (v := vi (k_ : Int)) rfl (hf3.get 8 5 rfl)) ?_
     refine sQ 132 (Y_add (k := .i64) (a := (i64.wrap (t.J * m.Cols))) (b := (k_ : Int)) rfl rfl rfl) ?_
     refine sQ 133 (Y_loadA (B := aD b5) (i := 0) (cs := kD_ x) (vs := kD_ x) k_ag_124 k_sz_124_5 rfl (hf3.get 9 6 rfl) (hS42.cf (i := 6) rfl) rfl rfl) ?_
     obtain ⟨x4, hx4, hF5⟩ := bind_inv hF5
     refine sQ 134 (Y_index (B := B5) (m := m.Cells.length) (c := c4) (k := .i64) (i := (i64.wrap ((i64.wrap (t.J * m.Cols)) + (k_ : Int)))) k_sl_73_124 k_sz_124_5 rfl rfl rfl (gi_isSome eN1 rfl (hS42.cf (i := 5) rfl) hx4) (getI_nn hx4) (getI_ltI hx4 (set_len _ _ _ hl))) ?_
     refine s0 (Ys_store (i := 5) (s := 5) (B := B5) (T' := 124) (v := gD_ x) (vs := kD_ x) (k := (i64.wrap ((i64.wrap (t.J * m.Cols)) + (k_ : Int))).toNat * 5) (cs' := (((Cells.set (i64.wrap ((i64.wrap (t.I * m.Cols)) + (k_ : Int))).toNat r_2).set (i64.wrap ((i64.wrap (t.J * m.Cols)) + (k_ : Int))).toNat x).flatMap eN0)) hS42 k_sz_124_5 rfl rfl rfl rfl rfl rfl rfl (gi_fit0 eN1 hx4) (gi_set eN1 hx4 x rfl) rfl) ?_
     rintro _ w_31 ⟨rfl, hS43⟩
     refine rw_nil ?_
     exact ⟨m2.bad, ((Cells.set (i64.wrap ((i64.wrap (t.I * m.Cols)) + (k_ : Int))).toNat r_2).set (i64.wrap ((i64.wrap (t.J * m.Cols)) + (k_ : Int))).toNat x), (some_inj hF5), (FF.cons (hf3.get 0 0 rfl) (FF.cons (hf3.get 4 1 rfl) (FF.cons (hf3.get 5 2 rfl) (FF.cons (hf3.get 6 3 rfl) (FF.cons (hf3.get 7 4 rfl) (FF.cons (hf3.get 8 5 rfl) FF.nil)))))), (set_len _ _ _ (set_len _ _ _ hl)), (hS43.sel [0, 1, 2, 3, 4, 5] rfl rfl)⟩
    ·skip
     have hF6 := cf' hF4 hb2
     refine cw_seq (cw_region ?_)
     refine sQ 56 (Y_buildS (zs := [vi 0, vi 0, vi 0, vi 0]) (vs := [(0, vi 1)]) (cs := [vi 1, vi 0, vi 0, vi 0]) k_pl_122 k_zero_122 rfl (mpc rfl mpn) rfl) ?_
     refine sQ 57 (Y_buildS (zs := kZ_) (vs := [(0, .agg #[vi 1, vi 0, vi 0, vi 0]), (1, vi 1)]) (cs := [vi 1, vi 0, vi 0, vi 0, vi 1]) k_pl_124 k_zero_124 rfl (mpc rfl (mpc rfl mpn)) rfl) ?_
     refine sS 11 (Ys_alloc (T := 124) (cs := kZ_) (m := 5) hS23 k_zero_124 rfl rfl rfl) ?_
     rintro _ w_32 ⟨b7, rfl, hS44⟩
     refine s0 (Ys_store (i := 8) (s := 5) (B := aD b7) (T' := 124) (v := .agg #[vi 1, vi 0, vi 0, vi 0, vi 1]) (vs := [vi 1, vi 0, vi 0, vi 0, vi 1]) (k := 0) (cs' := [vi 1, vi 0, vi 0, vi 0, vi 1]) hS44 k_sz_124_5 rfl rfl rfl rfl rfl rfl rfl (lB rfl) rfl rfl) ?_
     rintro _ w_33 ⟨rfl, hS45⟩
     refine rw_nil (cw_seq ?_)
     obtain ⟨⟨r_5, m4⟩, hc4, hF6⟩ := bind_inv hF6
     obtain ⟨⟨r_6, m5⟩, hc5, hF6⟩ := bind_inv hF6
     obtain ⟨x5, hx5, hF6⟩ := bind_inv hF6
     refine ra_start (hS45.se [1, 2, 3, 4, 6, 7, 8]).fn (by kernel_rfl) ?_
     have hS48 := hS45.drew
     refine rq 0 58 (v := pt B4 2) rfl (hS48.se [1, 2, 3, 4, 6, 7, 8]) (fun w' hw' => (Y_fieldAddr (B := B4) (i := 0) (s := 0) k_fd_75_2_2_73 k_sz_73_1 rfl (hf3.get 7 4 rfl))) ?_
     refine rq 1 59 (v := .slice B5 m.Cells.length c4) rfl (hS48.se [1, 2, 3, 4, 6, 7, 8]) (fun w' hw' => (Y_load1 (B := B4) (i := 2) (cs := kM_ m B5 c4) (v := .slice B5 m.Cells.length c4) k_sc_73 rfl rfl (ST.cf hw' (i := 3) rfl) rfl)) ?_
     refine rq 2 60 (v := pt (aD b1) 1) rfl (hS48.se [1, 2, 3, 4, 6, 7, 8]) (fun w' hw' => (Y_fieldAddr (B := aD b1) (i := 0) (s := 0) k_fd_133_1_1_3 k_sz_3_1 rfl (hf3.get 5 2 rfl))) ?_
     refine rq 3 61 (v := vi t.I) rfl (hS48.se [1, 2, 3, 4, 6, 7, 8]) (fun w' hw' => (Y_load1 (B := aD b1) (i := 1) (cs := [vi t.Kind, vi t.I, vi t.J, vi t.M_]) (v := vi t.I) k_sc_3 rfl rfl (ST.cf hw' (i := 1) rfl) rfl)) ?_
     refine rq 4 62 (v := pt (aD b) 1) rfl (hS48.se [1, 2, 3, 4, 6, 7, 8]) (fun w' hw' => (Y_fieldAddr (B := aD b) (i := 0) (s := 0) k_fd_75_1_1_3 k_sz_3_1 rfl (hf3.get 4 1 rfl))) ?_
     refine rq 5 63 (v := vi m.Cols) rfl (hS48.se [1, 2, 3, 4, 6, 7, 8]) (fun w' hw' => (Y_load1 (B := aD b) (i := 1) (cs := kM_ m B1 c1) (v := vi m.Cols) k_sc_3 rfl rfl (ST.cf hw' (i := 0) rfl) rfl)) ?_
     refine rq 6 64 (v := vi (i64.wrap (t.I * m.Cols))) rfl (hS48.se [1, 2, 3, 4, 6, 7, 8]) (fun w' hw' => (Y_mul (k := .i64) (a := t.I) (b := m.Cols) rfl rfl rfl)) ?_
     refine rq 7 65 (v := vi (k_ : Int)) rfl (hS48.se [1, 2, 3, 4, 6, 7, 8]) (fun w' hw' => (Y_move (v := vi (k_ : Int)) rfl (hf3.get 8 5 rfl))) ?_
     refine rq 8 66 (v := vi (i64.wrap ((i64.wrap (t.I * m.Cols)) + (k_ : Int)))) rfl (hS48.se [1, 2, 3, 4, 6, 7, 8]) (fun w' hw' => (Y_add (k := .i64) (a := (i64.wrap (t.I * m.Cols))) (b := (k_ : Int)) rfl rfl rfl)) ?_
     refine rq 9 67 (v := pt B 0) rfl (hS48.se [1, 2, 3, 4, 6, 7, 8]) (fun w' hw' => (Y_move (v := pt B 0) rfl (hf3.get 0 0 rfl))) ?_
     refine rq 10 68 (v := .agg #[vi 1, vi 0, vi 0, vi 0, vi 1]) rfl (hS48.se [1, 2, 3, 4, 6, 7, 8]) (fun w' hw' => (Y_loadA (B := aD b7) (i := 0) (cs := [vi 1, vi 0, vi 0, vi 0, vi 1]) (vs := [vi 1, vi 0, vi 0, vi 0, vi 1]) k_ag_124 k_sz_124_5 rfl rfl (ST.cf hw' (i := 6) rfl) rfl rfl)) ?_
     refine rq 11 69 (v := pt B 0) rfl (hS48.se [1, 2, 3, 4, 6, 7, 8]) (fun w' hw' => (Y_move (v := pt B 0) rfl (hf3.get 0 0 rfl))) ?_
     refine rq 12 70 (v := gD_ x) rfl (hS48.se [1, 2, 3, 4, 6, 7, 8]) (fun w' hw' => (Y_loadA (B := aD b5) (i := 0) (cs := kD_ x) (vs := kD_ x) k_ag_124 k_sz_124_5 rfl (hf3.get 9 6 rfl) (ST.cf hw' (i := 4) rfl) rfl rfl)) ?_
     refine rq 13 71 (v := gD_ r_2) rfl (hS48.se [1, 2, 3, 4, 6, 7, 8]) (fun w' hw' => (Y_loadA (B := B6) (i := 0) (cs := kD_ r_2) (vs := kD_ r_2) k_ag_124 k_sz_124_5 rfl (hf3.get 10 7 rfl) (ST.cf hw' (i := 5) rfl) rfl rfl)) ?_
     refine rA [14] ?_
     refine ra_c 72 (i := 14) rfl rfl rfl (Yc_func (g := 136) (vs := [pt B 0, gD_ x, gD_ r_2]) k_call_136 rfl (mc rfl (mc rfl (mc rfl mn))) (c_spec_l2C_add m2 x r_2 B _  (hS48.inn [true, false, false, false, false, false, false, false, false] rfl [] rfl) hc4)) ?_ ?_
     ·rintro _ w_34 ⟨rfl, hd7⟩
      have hS49 := hS48.out [true, false, false, false, false, false, false, false, false] rfl hd7
      refine ⟨(hS49.se [0, 1, 2, 3, 5, 6, 7]), ?_⟩
      refine rA [15] ?_
      refine ra_c 73 (i := 15) rfl rfl rfl (Yc_func (g := 137) (vs := [pt B 0, .agg #[vi 1, vi 0, vi 0, vi 0, vi 1], gD_ r_5]) k_call_137 rfl (mc rfl (mc rfl (mc rfl mn))) (c_spec_l2C_mul m4 (TDyadic.mk (TRing.mk 1 0 0 0) 1) r_5 B _  (hS49.inn [false, false, false, false, false, false, false, false, true] rfl [] rfl) hc5)) ?_ ?_
      ·rintro _ w_35 ⟨rfl, hd8⟩
       have hS50 := hS49.out [false, false, false, false, false, false, false, false, true] rfl hd8
       refine ⟨(hS50.se [0, 1, 2, 3, 5, 6, 7]), ?_⟩
       refine rA [16] ?_
       refine ra_y 74 (i := 16) (v := pt B5 ((i64.wrap ((i64.wrap (t.I * m.Cols)) + (k_ : Int))).toNat * 5)) rfl rfl rfl (Y_index (B := B5) (m := m.Cells.length) (c := c4) (k := .i64) (i := (i64.wrap ((i64.wrap (t.I * m.Cols)) + (k_ : Int)))) k_sl_73_124 k_sz_124_5 rfl rfl rfl (gi_isSome eN1 rfl (hS50.cf (i := 4) rfl) hx5) (getI_nn hx5) (getI_ltI hx5 hl)) (hS50.se [0, 1, 2, 3, 5, 6, 7]) ?_ ?_
       ·skip
        refine rA [17] ?_
        refine ra_s0 (i := 17) rfl rfl rfl (Ys_store (i := 4) (s := 5) (B := B5) (T' := 124) (v := gD_ r_6) (vs := kD_ r_6) (k := (i64.wrap ((i64.wrap (t.I * m.Cols)) + (k_ : Int))).toNat * 5) (cs' := ((Cells.set (i64.wrap ((i64.wrap (t.I * m.Cols)) + (k_ : Int))).toNat r_6).flatMap eN0)) hS50 k_sz_124_5 rfl rfl rfl rfl rfl rfl rfl (gi_fit0 eN1 hx5) (gi_set eN1 hx5 r_6 rfl) rfl) ?_ ?_
        ·rintro _ w_36 ⟨rfl, hS51⟩
         refine ⟨(hS51.se [0, 1, 2, 3, 5, 6, 7]), ?_⟩
         refine ra_done (by kernel_rfl) ?_
         obtain ⟨r_7, hc6, hF6⟩ := bind_inv hF6
         obtain ⟨⟨r_8, m6⟩, hc7, hF6⟩ := bind_inv hF6
         obtain ⟨⟨r_9, m7⟩, hc8, hF6⟩ := bind_inv hF6
         obtain ⟨x6, hx6, hF6⟩ := bind_inv hF6
         refine ra_start (hS51.se [0, 1, 2, 3, 5, 6, 7]).fn (by kernel_rfl) ?_
         have hS55 := hS51.drew
         refine rq 0 75 (v := pt B4 2) rfl (hS55.se [0, 1, 2, 3, 5, 6, 7]) (fun w' hw' => (Y_fieldAddr (B := B4) (i := 0) (s := 0) k_fd_75_2_2_73 k_sz_73_1 rfl (hf3.get 7 4 rfl))) ?_
         refine rq 1 76 (v := .slice B5 m.Cells.length c4) rfl (hS55.se [0, 1, 2, 3, 5, 6, 7]) (fun w' hw' => (Y_load1 (B := B4) (i := 2) (cs := kM_ m B5 c4) (v := .slice B5 m.Cells.length c4) k_sc_73 rfl rfl (ST.cf hw' (i := 3) rfl) rfl)) ?_
         refine rq 2 77 (v := pt (aD b1) 2) rfl (hS55.se [0, 1, 2, 3, 5, 6, 7]) (fun w' hw' => (Y_fieldAddr (B := aD b1) (i := 0) (s := 0) k_fd_133_2_2_3 k_sz_3_1 rfl (hf3.get 5 2 rfl))) ?_
         refine rq 3 78 (v := vi t.J) rfl (hS55.se [0, 1, 2, 3, 5, 6, 7]) (fun w' hw' => (Y_load1 (B := aD b1) (i := 2) (cs := [vi t.Kind, vi t.I, vi t.J, vi t.M_]) (v := vi t.J) k_sc_3 rfl rfl (ST.cf hw' (i := 1) rfl) rfl)) ?_
         refine rq 4 79 (v := pt (aD b) 1) rfl (hS55.se [0, 1, 2, 3, 5, 6, 7]) (fun w' hw' => (Y_fieldAddr (B := aD b) (i := 0) (s := 0) k_fd_75_1_1_3 k_sz_3_1 rfl (hf3.get 4 1 rfl))) ?_
         refine rq 5 80 (v := vi m.Cols) rfl (hS55.se [0, 1, 2, 3, 5, 6, 7]) (fun w' hw' => (Y_load1 (B := aD b) (i := 1) (cs := kM_ m B1 c1) (v := vi m.Cols) k_sc_3 rfl rfl (ST.cf hw' (i := 0) rfl) rfl)) ?_
         refine rq 6 81 (v := vi (i64.wrap (t.J * m.Cols))) rfl (hS55.se [0, 1, 2, 3, 5, 6, 7]) (fun w' hw' => (Y_mul (k := .i64) (a := t.J) (b := m.Cols) rfl rfl rfl)) ?_
         refine rq 7 82 (v := vi (k_ : Int)) rfl (hS55.se [0, 1, 2, 3, 5, 6, 7]) (fun w' hw' => (Y_move (v := vi (k_ : Int)) rfl (hf3.get 8 5 rfl))) ?_
         refine rq 8 83 (v := vi (i64.wrap ((i64.wrap (t.J * m.Cols)) + (k_ : Int)))) rfl (hS55.se [0, 1, 2, 3, 5, 6, 7]) (fun w' hw' => (Y_add (k := .i64) (a := (i64.wrap (t.J * m.Cols))) (b := (k_ : Int)) rfl rfl rfl)) ?_
         refine rq 9 84 (v := pt B 0) rfl (hS55.se [0, 1, 2, 3, 5, 6, 7]) (fun w' hw' => (Y_move (v := pt B 0) rfl (hf3.get 0 0 rfl))) ?_
         refine rq 10 85 (v := .agg #[vi 1, vi 0, vi 0, vi 0, vi 1]) rfl (hS55.se [0, 1, 2, 3, 5, 6, 7]) (fun w' hw' => (Y_loadA (B := aD b7) (i := 0) (cs := [vi 1, vi 0, vi 0, vi 0, vi 1]) (vs := [vi 1, vi 0, vi 0, vi 0, vi 1]) k_ag_124 k_sz_124_5 rfl rfl (ST.cf hw' (i := 6) rfl) rfl rfl)) ?_
         refine rq 11 86 (v := pt B 0) rfl (hS55.se [0, 1, 2, 3, 5, 6, 7]) (fun w' hw' => (Y_move (v := pt B 0) rfl (hf3.get 0 0 rfl))) ?_
         refine rq 12 87 (v := gD_ x) rfl (hS55.se [0, 1, 2, 3, 5, 6, 7]) (fun w' hw' => (Y_loadA (B := aD b5) (i := 0) (cs := kD_ x) (vs := kD_ x) k_ag_124 k_sz_124_5 rfl (hf3.get 9 6 rfl) (ST.cf hw' (i := 4) rfl) rfl rfl)) ?_
         refine rq 13 88 (v := gD_ r_2) rfl (hS55.se [0, 1, 2, 3, 5, 6, 7]) (fun w' hw' => (Y_loadA (B := B6) (i := 0) (cs := kD_ r_2) (vs := kD_ r_2) k_ag_124 k_sz_124_5 rfl (hf3.get 10 7 rfl) (ST.cf hw' (i := 5) rfl) rfl rfl)) ?_
         refine rA [14] ?_
         refine ra_c 89 (i := 14) rfl rfl rfl (Yc_func (g := 206) (vs := [gD_ r_2]) k_call_206 rfl (mc rfl mn) (c_spec_l2Neg r_2 _  (hS55.inn0 [] rfl) hc6)) ?_ ?_
         ·rintro _ w_37 ⟨rfl, hd9⟩
          have hS56 := hS55.out00 hd9
          refine ⟨(hS56.se [0, 1, 2, 3, 5, 6, 7]), ?_⟩
          refine rA [15] ?_
          refine ra_c 90 (i := 15) rfl rfl rfl (Yc_func (g := 136) (vs := [pt B 0, gD_ x, gD_ r_7]) k_call_136 rfl (mc rfl (mc rfl (mc rfl mn))) (c_spec_l2C_add m5 x r_7 B _  (hS56.inn [false, false, false, false, false, false, false, false, true] rfl [] rfl) hc7)) ?_ ?_
          ·rintro _ w_38 ⟨rfl, hd10⟩
           have hS57 := hS56.out [false, false, false, false, false, false, false, false, true] rfl hd10
           refine ⟨(hS57.se [0, 1, 2, 3, 5, 6, 7]), ?_⟩
           refine rA [16] ?_
           refine ra_c 91 (i := 16) rfl rfl rfl (Yc_func (g := 137) (vs := [pt B 0, .agg #[vi 1, vi 0, vi 0, vi 0, vi 1], gD_ r_8]) k_call_137 rfl (mc rfl (mc rfl (mc rfl mn))) (c_spec_l2C_mul m6 (TDyadic.mk (TRing.mk 1 0 0 0) 1) r_8 B _  (hS57.inn [false, false, false, false, false, false, false, false, true] rfl [] rfl) hc8)) ?_ ?_
           ·rintro _ w_39 ⟨rfl, hd11⟩
            have hS58 := hS57.out [false, false, false, false, false, false, false, false, true] rfl hd11
            refine ⟨(hS58.se [0, 1, 2, 3, 5, 6, 7]), ?_⟩
            refine rA [17] ?_
            refine ra_y 92 (i := 17) (v := pt B5 ((i64.wrap ((i64.wrap (t.J * m.Cols)) + (k_ : Int))).toNat * 5)) rfl rfl rfl (Y_index (B := B5) (m := m.Cells.length) (c := c4) (k := .i64) (i := (i64.wrap ((i64.wrap (t.J * m.Cols)) + (k_ : Int)))) k_sl_73_124 k_sz_124_5 rfl rfl rfl (gi_isSome eN1 rfl (hS58.cf (i := 4) rfl) hx6) (getI_nn hx6) (getI_ltI hx6 (set_len _ _ _ hl))) (hS58.se [0, 1, 2, 3, 5, 6, 7]) ?_ ?_
            ·skip
             refine rA [18] ?_
             refine ra_s0 (i := 18) rfl rfl rfl (Ys_store (i := 4) (s := 5) (B := B5) (T' := 124) (v := gD_ r_9) (vs := kD_ r_9) (k := (i64.wrap ((i64.wrap (t.J * m.Cols)) + (k_ : Int))).toNat * 5) (cs' := (((Cells.set (i64.wrap ((i64.wrap (t.I * m.Cols)) + (k_ : Int))).toNat r_6).set (i64.wrap ((i64.wrap (t.J * m.Cols)) + (k_ : Int))).toNat r_9).flatMap eN0)) hS58 k_sz_124_5 rfl rfl rfl rfl rfl rfl rfl (gi_fit0 eN1 hx6) (gi_set eN1 hx6 r_9 rfl) rfl) ?_ ?_
             ·rintro _ w_40 ⟨rfl, hS59⟩
              refine ⟨(hS59.se [0, 1, 2, 3, 5, 6, 7]), ?_⟩
              refine ra_done (by kernel_rfl) ?_
              exact ⟨m7.bad, ((Cells.set (i64.wrap ((i64.wrap (t.I * m.Cols)) + (k_ : Int))).toNat r_6).set (i64.wrap ((i64.wrap (t.J * m.Cols)) + (k_ : Int))).toNat r_9), (some_inj hF6), (FF.cons (hf3.get 0 0 rfl) (FF.cons (hf3.get 4 1 rfl) (FF.cons (hf3.get 5 2 rfl) (FF.cons (hf3.get 6 3 rfl) (FF.cons (hf3.get 7 4 rfl) (FF.cons (hf3.get 8 5 rfl) FF.nil)))))), (set_len _ _ _ (set_len _ _ _ hl)), (hS59.sel [8, 0, 1, 2, 3, 4] rfl rfl)⟩
             exact allR_nil
            exact allR_nil
           exact allR_nil
          exact allR_nil
         exact allR_nil
        exact allR_nil
       exact allR_nil
      exact allR_nil
     exact allR_nil
  rintro f w ⟨bad1, Cells1, rfl, hf2, hl1, hS18⟩
  refine cw_region ?_
  refine sQ 25 (Y_move (v := vi (k_ : Int)) rfl (hf2.get 8 5 rfl)) ?_
  refine sQ 26 (Y_add (k := .i64) (a := (k_ : Int)) (b := 1) rfl rfl rfl) ?_
  refine sQ 8 (Y_assign (v := vi (i64.wrap ((k_ : Int) + 1))) rfl rfl) (rw_nil ?_)
  obtain rfl := some_inj hF2
  exact ⟨k_2, Nat.lt_succ_self _, k_ + 1, bad1, Cells1, (FF.cons (hf2.get 0 0 rfl) (FF.cons (hf2.get 4 1 rfl) (FF.cons (hf2.get 5 2 rfl) (FF.cons (hf2.get 6 3 rfl) (FF.cons (hf2.get 7 4 rfl) (FF.cons (congrArg (Value.int .i64) (wr_succ hlt1 hN)) FF.nil)))))), hl1, (hS18.sel [0, 1, 2, 3, 4, 5] rfl rfl), (by omega), hL1⟩
 ·skip
  obtain rfl : k_1 = 0 := by have h := of_decide_eq_false hlt; omega
  refine cw_exit rfl ?_
  obtain rfl := some_inj hL
  refine cw_seq (cw_region ?_)
  refine sQ 135 (Y_loadA (B := B4) (i := 0) (cs := kM_ m B5 c4) (vs := kM_ m B5 c4) k_ag_75 k_sz_75_3 rfl (hf1.get 7 4 rfl) (hS17.cf (i := 4) rfl) rfl rfl) ?_
  refine s0 (Ys_store (i := 3) (s := 3) (B := aD b2) (T' := 75) (v := gM_ m B5 c4) (vs := kM_ m B5 c4) (k := 0) (cs' := kM_ m B5 c4) hS17 k_sz_75_3 rfl (hf1.get 6 3 rfl) rfl rfl rfl rfl rfl (lB rfl) rfl rfl) ?_
  rintro _ w_41 ⟨rfl, hS60⟩
  refine rw_nil (cw_ret ?_)
  obtain ⟨rfl, rfl⟩ := pr2 (some_inj hF1)
  exact ret1 Try.results142 (v1 := gM_ m B5 c4) (resAt_cellA (B := aD b2) (i := 0) (cs := kM_ m B5 c4) (vs := kM_ m B5 c4) (hf1.get 6 3 rfl) k_ag_75 k_sz_75_3 (hS60.cf (i := 3) rfl) rfl rfl) ⟨B5, c4, (by simp [hl]), (hS60.sN [0, 5])⟩
end Go.VK
