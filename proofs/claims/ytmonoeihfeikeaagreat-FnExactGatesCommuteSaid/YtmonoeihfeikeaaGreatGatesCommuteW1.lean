/- Walks: each Go function returns what its Lean function says. By program. -/
import Derived.Test.YtmonoeihfeikeaaGreatGatesCommuteFa
import Derived.Test.YtmonoeihfeikeaaGreatGatesCommuteShelf
import Derived.Test.YtmonoeihfeikeaaGreatLibQ
import Derived.Test.YtmonoeihfeikeaaGreatLibR
set_option linter.unusedVariables false
set_option maxRecDepth 100000
set_option maxHeartbeats 4000000
namespace Go.VK
open Go.RowKit
open Go.Proofs
open Go.IntKind
attribute [local irreducible] CW RW RA CV Y Yw Yc Ys RetOf
attribute [local irreducible] F_spec_l1In F_spec_l4Gate F_spec_EqualMatrices F_spec_l1All F_spec_l1Good F_spec_l2C_ring F_spec_l1Root F_spec_l1Even F_spec_l1Half F_spec_l2Low F_spec_l1Add F_spec_l2C_add F_spec_l1Mul F_spec_l2C_mul F_spec_l2C_times F_spec_l1Turn F_spec_l2Power F_spec_l6Bit F_spec_l1Neg F_spec_l2Neg F_spec_l6One F_spec_l6Cell F_spec_l6Gate F_spec_l22Two F_spec_l23Qubits F_spec_l1Has F_spec_l24Common F_spec_l1Put F_spec_l24At F_spec_l24Small F_spec_l24Commute F_spec_GatesCommute F_laws_toGate F_impl_within F_impl_isTwo F_impl_IsValidGate F_slices_IndexFunc_impl_Gate_impl_Gate F_slices_ContainsFunc_impl_Gate_impl_Gate F_impl_IsValidCircuit_1 F_impl_IsValidCircuit F_impl_isDim F_impl_matrixOf F_impl_whole F_impl_IdentityMatrix_1 F_impl_IdentityMatrix F_impl_isCoef F_impl_IsValidRing F_impl_MulOmega F_impl_phase F_impl_bitOf F_impl_flipped F_impl_comesFrom F_impl_small F_impl_entry F_impl_GateMatrix_1 F_impl_GateMatrix F_slices_IndexFunc_impl_Dyadic_impl_Dyadic F_slices_ContainsFunc_impl_Dyadic_impl_Dyadic F_impl_isEven F_impl_IsValidDyadic F_impl_IsValidMatrix_1 F_impl_IsValidMatrix F_impl_Matrix_at F_impl_ringIf F_impl_MulRing F_impl_DivRootTwo F_impl_DyadicOf F_impl_MulDyadic F_impl_MulRootTwo F_impl_raised F_impl_combined F_impl_AddRing F_impl_AddDyadic F_impl_MulMatrix_1 F_impl_MulMatrix F_impl_applied F_impl_OperatorOf F_slices_Equal_impl_Dyadic_impl_Dyadic F_impl_EqualMatrices F_impl_qubitsOf F_slices_IndexFunc_int_int F_slices_ContainsFunc_int_int F_slices_Index_int_int F_slices_Contains_int_int F_impl_meet_1 F_impl_meet F_slices_Concat_int_int F_slices_Sort_int_int F_impl_union F_impl_mapped F_impl_commutes F_impl_GatesCommute F_laws_FnExactGatesCommute
theorem c_spec_l1In (n : Int) (lo : Int) (hi : Int)  (w0 : World)  (hS : ST w0 [] w0 [] []) {r_ : Bool} (hF : F_spec_l1In n lo hi = some r_) :
  CV Tryz.prog 69 #[vi n, vi lo, vi hi] w0 (fun v w' => v = .bool r_ ∧ ST w0 [] w' [] []) := by
 unfold F_spec_l1In at hF
 refine cv_of_cw 15 Tryz.func69 rfl Tryz.ntmps69 rfl ?_
 refine cw_seq (cw_region ?_)
 refine sQ 6 (Y_assign (v := .bool false) rfl rfl) (rw_nil (cw_seq (cw_region ?_)))
 refine sQ 7 (Y_move (v := vi n) rfl rfl) ?_
 refine sQ 8 (Y_move (v := vi lo) rfl rfl) ?_
 refine sQ 9 (Y_ge (k := .i64) (a := n) (b := lo) rfl rfl rfl) ?_
 refine sQ 10 (Y_move (v := .bool (decide (lo ≤ n))) rfl rfl) ?_
 refine sgq 11 (B := (decide (lo ≤ n))) (v := vi n) rfl rfl (uT_ 10) (fun hg => (Y_move (v := vi n) rfl rfl)) ?_
 refine sgq 12 (B := (decide (lo ≤ n))) (v := vi hi) rfl rfl (uT_ 10) (fun hg1 => (Y_move (v := vi hi) rfl rfl)) ?_
 refine sgq 13 (B := (decide (lo ≤ n))) (v := .bool (decide (n ≤ hi))) rfl rfl (uT_ 10) (fun hg2 => (Y_le (k := .i64) (a := n) (b := hi) rfl (gv_of (v := vi n) hg2) (gv_of (v := vi hi) hg2))) ?_
 refine sQ 14 (Y_and (b := (decide (lo ≤ n))) (z := (decide (n ≤ hi))) rfl rfl rfl rfl) ?_
 refine sQ 6 (Y_assign (v := .bool ((decide (lo ≤ n)) && (decide (n ≤ hi)))) rfl rfl) (rw_nil (cw_ret ?_))
 obtain rfl := some_inj hF
 exact ret1 Tryz.results69 (v1 := .bool ((decide (lo ≤ n)) && (decide (n ≤ hi)))) (resAt_tmp rfl) ⟨rfl, (hS.sN [])⟩

theorem c_spec_l4Gate (n : Int) (g : TGate)  (w0 : World)  (hS : ST w0 [] w0 [] []) {r_ : Bool} (hF : F_spec_l4Gate n g = some r_) :
  CV Tryz.prog 70 #[vi n, .agg #[vi g.Kind, vi g.A, vi g.B]] w0 (fun v w' => v = .bool r_ ∧ ST w0 [] w' [] []) := by
 unfold F_spec_l4Gate at hF
 refine cv_of_cw 55 Tryz.func70 rfl Tryz.ntmps70 rfl ?_
 refine cw_seq (cw_region ?_)
 refine sS 3 (Ys_box (T := 67) (v := .agg #[vi g.Kind, vi g.A, vi g.B]) (cs := [vi g.Kind, vi g.A, vi g.B]) (m := 3) hS rfl rfl rfl rfl) ?_
 rintro _ w_ ⟨b, rfl, hS1⟩
 refine sQ 4 (Y_assign (v := .bool false) rfl rfl) (rw_nil (cw_seq (cw_block (cw_seq (cw_region ?_)))))
 refine sQ 6 (Y_fieldAddr (B := aD b) (i := 0) (s := 0) k_fd_67_0_0_3 k_sz_3_1 rfl rfl) ?_
 refine sQ 7 (Y_load1 (B := aD b) (i := 0) (cs := [vi g.Kind, vi g.A, vi g.B]) (v := vi g.Kind) k_sc_3 rfl rfl (hS1.cf (i := 0) rfl) rfl) ?_
 obtain ⟨r_1, hc, hF⟩ := bind_inv hF
 refine sc 8 rfl rfl (Yc_func (g := 69) (vs := [vi g.Kind, vi 1, vi 8]) k_call_69 rfl (mc rfl (mc rfl (mc rfl mn))) (c_spec_l1In g.Kind 1 8 _  (hS1.inn0 [] rfl) hc)) ?_
 rintro _ w_1 ⟨rfl, hd⟩
 have hS2 := hS1.out00 hd
 refine sQ 5 (Y_assign (v := .bool r_1) rfl rfl) (rw_nil ?_)
 refine cw_cond (b := r_1) rfl (fun hb => ?_) (fun hb => ?_)
 ·skip
  have hF1 := ct hF hb
  refine cw_seq (cw_region ?_)
  refine sQ 9 (Y_fieldAddr (B := aD b) (i := 0) (s := 0) k_fd_67_1_1_3 k_sz_3_1 rfl rfl) ?_
  refine sQ 10 (Y_load1 (B := aD b) (i := 1) (cs := [vi g.Kind, vi g.A, vi g.B]) (v := vi g.A) k_sc_3 rfl rfl (hS2.cf (i := 0) rfl) rfl) ?_
  refine sQ 11 (Y_move (v := vi n) rfl rfl) ?_
  refine sQ 12 (Y_sub (k := .i64) (a := n) (b := 1) rfl rfl rfl) ?_
  obtain ⟨r_2, hc1, hF1⟩ := bind_inv hF1
  refine sc 13 rfl rfl (Yc_func (g := 69) (vs := [vi g.A, vi 0, vi (i64.wrap (n - 1))]) k_call_69 rfl (mc rfl (mc rfl (mc rfl mn))) (c_spec_l1In g.A 0 (i64.wrap (n - 1)) _  (hS2.inn0 [] rfl) hc1)) ?_
  rintro _ w_2 ⟨rfl, hd1⟩
  have hS3 := hS2.out00 hd1
  refine sQ 14 (Y_move (v := .bool r_2) rfl rfl) ?_
  refine sgq 15 (B := r_2) (v := pt (aD b) 2) rfl rfl (uT_ 14) (fun hg => (Y_fieldAddr (B := aD b) (i := 0) (s := 0) k_fd_67_2_2_3 k_sz_3_1 rfl rfl)) ?_
  refine sgq 16 (B := r_2) (v := vi g.B) rfl rfl (uT_ 14) (fun hg1 => (Y_load1 (B := aD b) (i := 2) (cs := [vi g.Kind, vi g.A, vi g.B]) (v := vi g.B) k_sc_3 rfl (gv_of (v := pt (aD b) 2) hg1) (hS3.cf (i := 0) rfl) rfl)) ?_
  refine sgq 17 (B := r_2) (v := .bool (g.B == 0)) rfl rfl (uT_ 14) (fun hg2 => (Y_eq (k := .i64) (a := g.B) (b := 0) rfl (gv_of (v := vi g.B) hg2) rfl)) ?_
  refine sQ 18 (Y_and (b := r_2) (z := (g.B == 0)) rfl rfl rfl rfl) ?_
  refine sQ 4 (Y_assign (v := .bool (r_2 && (g.B == 0))) rfl rfl) (rw_nil (cw_ret ?_))
  obtain rfl := some_inj hF1
  exact ret1 Tryz.results70 (v1 := .bool (r_2 && (g.B == 0))) (resAt_tmp rfl) ⟨rfl, (hS3.sN [])⟩
 ·skip
  have hF2 := cf' hF hb
  refine cw_seq (cw_region ?_)
  refine sQ 20 (Y_fieldAddr (B := aD b) (i := 0) (s := 0) k_fd_67_0_0_3 k_sz_3_1 rfl rfl) ?_
  refine sQ 21 (Y_load1 (B := aD b) (i := 0) (cs := [vi g.Kind, vi g.A, vi g.B]) (v := vi g.Kind) k_sc_3 rfl rfl (hS2.cf (i := 0) rfl) rfl) ?_
  obtain ⟨r_3, hc2, hF2⟩ := bind_inv hF2
  refine sc 22 rfl rfl (Yc_func (g := 69) (vs := [vi g.Kind, vi 9, vi 11]) k_call_69 rfl (mc rfl (mc rfl (mc rfl mn))) (c_spec_l1In g.Kind 9 11 _  (hS2.inn0 [] rfl) hc2)) ?_
  rintro _ w_3 ⟨rfl, hd2⟩
  have hS4 := hS2.out00 hd2
  refine sQ 19 (Y_assign (v := .bool r_3) rfl rfl) (rw_nil ?_)
  refine cw_cond (b := r_3) rfl (fun hb1 => ?_) (fun hb1 => ?_)
  ·skip
   have hF3 := ct hF2 hb1
   refine cw_seq (cw_region ?_)
   refine sQ 23 (Y_fieldAddr (B := aD b) (i := 0) (s := 0) k_fd_67_1_1_3 k_sz_3_1 rfl rfl) ?_
   refine sQ 24 (Y_load1 (B := aD b) (i := 1) (cs := [vi g.Kind, vi g.A, vi g.B]) (v := vi g.A) k_sc_3 rfl rfl (hS4.cf (i := 0) rfl) rfl) ?_
   refine sQ 25 (Y_move (v := vi n) rfl rfl) ?_
   refine sQ 26 (Y_sub (k := .i64) (a := n) (b := 1) rfl rfl rfl) ?_
   obtain ⟨r_4, hc3, hF3⟩ := bind_inv hF3
   refine sc 27 rfl rfl (Yc_func (g := 69) (vs := [vi g.A, vi 0, vi (i64.wrap (n - 1))]) k_call_69 rfl (mc rfl (mc rfl (mc rfl mn))) (c_spec_l1In g.A 0 (i64.wrap (n - 1)) _  (hS4.inn0 [] rfl) hc3)) ?_
   rintro _ w_4 ⟨rfl, hd3⟩
   have hS5 := hS4.out00 hd3
   refine sQ 28 (Y_move (v := .bool r_4) rfl rfl) ?_
   refine sgq 29 (B := r_4) (v := pt (aD b) 2) rfl rfl (uT_ 28) (fun hg3 => (Y_fieldAddr (B := aD b) (i := 0) (s := 0) k_fd_67_2_2_3 k_sz_3_1 rfl rfl)) ?_
   refine sgq 30 (B := r_4) (v := vi g.B) rfl rfl (uT_ 28) (fun hg4 => (Y_load1 (B := aD b) (i := 2) (cs := [vi g.Kind, vi g.A, vi g.B]) (v := vi g.B) k_sc_3 rfl (gv_of (v := pt (aD b) 2) hg4) (hS5.cf (i := 0) rfl) rfl)) ?_
   refine sgq 31 (B := r_4) (v := vi n) rfl rfl (uT_ 28) (fun hg5 => (Y_move (v := vi n) rfl rfl)) ?_
   refine sgq 32 (B := r_4) (v := vi (i64.wrap (n - 1))) rfl rfl (uT_ 28) (fun hg6 => (Y_sub (k := .i64) (a := n) (b := 1) rfl (gv_of (v := vi n) hg6) rfl)) ?_
   obtain ⟨r_5, hc4, hF3⟩ := bind_inv hF3
   refine sgc 33 (B := r_4) (v := .bool r_5) (F := hS5.fn) rfl rfl (uT_ 28) hS5 (fun hg7 => (Yc_func (g := 69) (vs := [vi g.B, vi 0, vi (i64.wrap (n - 1))]) k_call_69 rfl (mc (gv_of (v := vi g.B) hg7) (mc rfl (mc (gv_of (v := vi (i64.wrap (n - 1))) hg7) mn))) (CV.mono (c_spec_l1In g.B 0 (i64.wrap (n - 1)) _  (hS5.inn0 [] rfl) (gb_inv hc4 hg7)) (by rintro _ _ ⟨rfl, h⟩; exact ⟨rfl, hS5.out00 h⟩)))) ?_
   rintro w_5 hS6
   refine sQ 34 (Y_and (b := r_4) (z := r_5) rfl rfl rfl rfl) ?_
   refine sQ 35 (Y_move (v := .bool (r_4 && r_5)) rfl rfl) ?_
   refine sgq 36 (B := (r_4 && r_5)) (v := pt (aD b) 1) rfl rfl (uT_ 35) (fun hg8 => (Y_fieldAddr (B := aD b) (i := 0) (s := 0) k_fd_67_1_1_3 k_sz_3_1 rfl rfl)) ?_
   refine sgq 37 (B := (r_4 && r_5)) (v := vi g.A) rfl rfl (uT_ 35) (fun hg9 => (Y_load1 (B := aD b) (i := 1) (cs := [vi g.Kind, vi g.A, vi g.B]) (v := vi g.A) k_sc_3 rfl (gv_of (v := pt (aD b) 1) hg9) (hS6.cf (i := 0) rfl) rfl)) ?_
   refine sgq 38 (B := (r_4 && r_5)) (v := pt (aD b) 2) rfl rfl (uT_ 35) (fun hg10 => (Y_fieldAddr (B := aD b) (i := 0) (s := 0) k_fd_67_2_2_3 k_sz_3_1 rfl rfl)) ?_
   refine sgq 39 (B := (r_4 && r_5)) (v := vi g.B) rfl rfl (uT_ 35) (fun hg11 => (Y_load1 (B := aD b) (i := 2) (cs := [vi g.Kind, vi g.A, vi g.B]) (v := vi g.B) k_sc_3 rfl (gv_of (v := pt (aD b) 2) hg11) (hS6.cf (i := 0) rfl) rfl)) ?_
   refine sgq 40 (B := (r_4 && r_5)) (v := .bool (g.A != g.B)) rfl rfl (uT_ 35) (fun hg12 => (Y_ne (k := .i64) (a := g.A) (b := g.B) rfl (gv_of (v := vi g.A) hg12) (gv_of (v := vi g.B) hg12))) ?_
   refine sQ 41 (Y_and (b := (r_4 && r_5)) (z := (g.A != g.B)) rfl rfl rfl rfl) ?_
   refine sQ 4 (Y_assign (v := .bool ((r_4 && r_5) && (g.A != g.B))) rfl rfl) (rw_nil (cw_ret ?_))
   obtain rfl := some_inj hF3
   exact ret1 Tryz.results70 (v1 := .bool ((r_4 && r_5) && (g.A != g.B))) (resAt_tmp rfl) ⟨rfl, (hS6.sN [])⟩
  ·skip
   have hF4 := cf' hF2 hb1
   refine cw_skip (cw_seq (cw_region ?_))
   refine sQ 42 (Y_fieldAddr (B := aD b) (i := 0) (s := 0) k_fd_67_0_0_3 k_sz_3_1 rfl rfl) ?_
   refine sQ 43 (Y_load1 (B := aD b) (i := 0) (cs := [vi g.Kind, vi g.A, vi g.B]) (v := vi g.Kind) k_sc_3 rfl rfl (hS4.cf (i := 0) rfl) rfl) ?_
   refine sQ 44 (Y_eq (k := .i64) (a := g.Kind) (b := 12) rfl rfl rfl) ?_
   refine sQ 45 (Y_move (v := .bool (g.Kind == 12)) rfl rfl) ?_
   refine sgq 46 (B := (g.Kind == 12)) (v := pt (aD b) 1) rfl rfl (uT_ 45) (fun hg13 => (Y_fieldAddr (B := aD b) (i := 0) (s := 0) k_fd_67_1_1_3 k_sz_3_1 rfl rfl)) ?_
   refine sgq 47 (B := (g.Kind == 12)) (v := vi g.A) rfl rfl (uT_ 45) (fun hg14 => (Y_load1 (B := aD b) (i := 1) (cs := [vi g.Kind, vi g.A, vi g.B]) (v := vi g.A) k_sc_3 rfl (gv_of (v := pt (aD b) 1) hg14) (hS4.cf (i := 0) rfl) rfl)) ?_
   refine sgq 48 (B := (g.Kind == 12)) (v := .bool (g.A == 0)) rfl rfl (uT_ 45) (fun hg15 => (Y_eq (k := .i64) (a := g.A) (b := 0) rfl (gv_of (v := vi g.A) hg15) rfl)) ?_
   refine sQ 49 (Y_and (b := (g.Kind == 12)) (z := (g.A == 0)) rfl rfl rfl rfl) ?_
   refine sQ 50 (Y_move (v := .bool ((g.Kind == 12) && (g.A == 0))) rfl rfl) ?_
   refine sgq 51 (B := ((g.Kind == 12) && (g.A == 0))) (v := pt (aD b) 2) rfl rfl (uT_ 50) (fun hg16 => (Y_fieldAddr (B := aD b) (i := 0) (s := 0) k_fd_67_2_2_3 k_sz_3_1 rfl rfl)) ?_
   refine sgq 52 (B := ((g.Kind == 12) && (g.A == 0))) (v := vi g.B) rfl rfl (uT_ 50) (fun hg17 => (Y_load1 (B := aD b) (i := 2) (cs := [vi g.Kind, vi g.A, vi g.B]) (v := vi g.B) k_sc_3 rfl (gv_of (v := pt (aD b) 2) hg17) (hS4.cf (i := 0) rfl) rfl)) ?_
   refine sgq 53 (B := ((g.Kind == 12) && (g.A == 0))) (v := .bool (g.B == 0)) rfl rfl (uT_ 50) (fun hg18 => (Y_eq (k := .i64) (a := g.B) (b := 0) rfl (gv_of (v := vi g.B) hg18) rfl)) ?_
   refine sQ 54 (Y_and (b := ((g.Kind == 12) && (g.A == 0))) (z := (g.B == 0)) rfl rfl rfl rfl) ?_
   refine sQ 4 (Y_assign (v := .bool (((g.Kind == 12) && (g.A == 0)) && (g.B == 0))) rfl rfl) (rw_nil (cw_ret ?_))
   obtain rfl := some_inj hF4
   exact ret1 Tryz.results70 (v1 := .bool (((g.Kind == 12) && (g.A == 0)) && (g.B == 0))) (resAt_tmp rfl) ⟨rfl, (hS4.sN [])⟩

theorem c_spec_EqualMatrices (a : TMatrix) (b : TMatrix) (B : Option Addr) (c n : Nat) (B1 : Option Addr) (c1 n1 : Nat) (w0 : World) (hn : a.Cells.length = n) (hn1 : b.Cells.length = n1) (hS : ST w0 [] w0 [] [⟨B, (a.Cells.flatMap eN0)⟩, ⟨B1, (b.Cells.flatMap eN0)⟩]) {r_ : Bool} (hF : F_spec_EqualMatrices a b = some r_) :
  CV Tryz.prog 10 #[.agg #[vi a.Rows, vi a.Cols, .slice B n c], .agg #[vi b.Rows, vi b.Cols, .slice B1 n1 c1]] w0 (fun v w' => v = .bool r_ ∧ ST w0 [] w' [] []) := by
 subst hn
 subst hn1
 unfold F_spec_EqualMatrices at hF
 refine cv_of_cw 45 Tryz.func10 rfl Tryz.ntmps10 rfl ?_
 refine cw_seq (cw_region ?_)
 refine sS 2 (Ys_box (T := 30) (v := gM_ a B c) (cs := kM_ a B c) (m := 3) hS rfl rfl rfl rfl) ?_
 rintro _ w_ ⟨b1, rfl, hS1⟩
 refine sS 3 (Ys_box (T := 30) (v := gM_ b B1 c1) (cs := kM_ b B1 c1) (m := 3) hS1 rfl rfl rfl rfl) ?_
 rintro _ w_1 ⟨b2, rfl, hS2⟩
 refine sQ 4 (Y_assign (v := .bool false) rfl rfl) (rw_nil (cw_seq (cw_seq (cw_region ?_))))
 refine sQ 6 (Y_fieldAddr (B := aD b1) (i := 0) (s := 0) k_fd_30_0_0_3 k_sz_3_1 rfl rfl) ?_
 refine sQ 7 (Y_load1 (B := aD b1) (i := 0) (cs := kM_ a B c) (v := vi a.Rows) k_sc_3 rfl rfl (hS2.cf (i := 0) rfl) rfl) ?_
 refine sQ 8 (Y_fieldAddr (B := aD b2) (i := 0) (s := 0) k_fd_30_0_0_3 k_sz_3_1 rfl rfl) ?_
 refine sQ 9 (Y_load1 (B := aD b2) (i := 0) (cs := kM_ b B1 c1) (v := vi b.Rows) k_sc_3 rfl rfl (hS2.cf (i := 1) rfl) rfl) ?_
 refine sQ 10 (Y_ne (k := .i64) (a := a.Rows) (b := b.Rows) rfl rfl rfl) ?_
 refine sQ 11 (Y_move (v := .bool (a.Rows != b.Rows)) rfl rfl) ?_
 refine sgq 12 (B := (!(a.Rows != b.Rows))) (v := pt (aD b1) 1) rfl rfl (uF_ 11) (fun hg => (Y_fieldAddr (B := aD b1) (i := 0) (s := 0) k_fd_30_1_1_3 k_sz_3_1 rfl rfl)) ?_
 refine sgq 13 (B := (!(a.Rows != b.Rows))) (v := vi a.Cols) rfl rfl (uF_ 11) (fun hg1 => (Y_load1 (B := aD b1) (i := 1) (cs := kM_ a B c) (v := vi a.Cols) k_sc_3 rfl (gv_of (v := pt (aD b1) 1) hg1) (hS2.cf (i := 0) rfl) rfl)) ?_
 refine sgq 14 (B := (!(a.Rows != b.Rows))) (v := pt (aD b2) 1) rfl rfl (uF_ 11) (fun hg2 => (Y_fieldAddr (B := aD b2) (i := 0) (s := 0) k_fd_30_1_1_3 k_sz_3_1 rfl rfl)) ?_
 refine sgq 15 (B := (!(a.Rows != b.Rows))) (v := vi b.Cols) rfl rfl (uF_ 11) (fun hg3 => (Y_load1 (B := aD b2) (i := 1) (cs := kM_ b B1 c1) (v := vi b.Cols) k_sc_3 rfl (gv_of (v := pt (aD b2) 1) hg3) (hS2.cf (i := 1) rfl) rfl)) ?_
 refine sgq 16 (B := (!(a.Rows != b.Rows))) (v := .bool (a.Cols != b.Cols)) rfl rfl (uF_ 11) (fun hg4 => (Y_ne (k := .i64) (a := a.Cols) (b := b.Cols) rfl (gv_of (v := vi a.Cols) hg4) (gv_of (v := vi b.Cols) hg4))) ?_
 refine sQ 17 (Y_or (b := (a.Rows != b.Rows)) (z := (a.Cols != b.Cols)) rfl rfl rfl rfl) ?_
 refine sQ 18 (Y_move (v := .bool ((a.Rows != b.Rows) || (a.Cols != b.Cols))) rfl rfl) ?_
 refine sgq 19 (B := (!((a.Rows != b.Rows) || (a.Cols != b.Cols)))) (v := pt (aD b1) 2) rfl rfl (uF_ 18) (fun hg5 => (Y_fieldAddr (B := aD b1) (i := 0) (s := 0) k_fd_30_2_2_28 k_sz_28_1 rfl rfl)) ?_
 refine sgq 20 (B := (!((a.Rows != b.Rows) || (a.Cols != b.Cols)))) (v := .slice B a.Cells.length c) rfl rfl (uF_ 18) (fun hg6 => (Y_load1 (B := aD b1) (i := 2) (cs := kM_ a B c) (v := .slice B a.Cells.length c) k_sc_28 rfl (gv_of (v := pt (aD b1) 2) hg6) (hS2.cf (i := 0) rfl) rfl)) ?_
 refine sgq 21 (B := (!((a.Rows != b.Rows) || (a.Cols != b.Cols)))) (v := vi (a.Cells.length : Int)) rfl rfl (uF_ 18) (fun hg7 => (Y_len (B := B) (m := a.Cells.length) (c := c) k_sl_28_63 rfl (gv_of (v := .slice B a.Cells.length c) hg7))) ?_
 refine sgq 22 (B := (!((a.Rows != b.Rows) || (a.Cols != b.Cols)))) (v := pt (aD b2) 2) rfl rfl (uF_ 18) (fun hg8 => (Y_fieldAddr (B := aD b2) (i := 0) (s := 0) k_fd_30_2_2_28 k_sz_28_1 rfl rfl)) ?_
 refine sgq 23 (B := (!((a.Rows != b.Rows) || (a.Cols != b.Cols)))) (v := .slice B1 b.Cells.length c1) rfl rfl (uF_ 18) (fun hg9 => (Y_load1 (B := aD b2) (i := 2) (cs := kM_ b B1 c1) (v := .slice B1 b.Cells.length c1) k_sc_28 rfl (gv_of (v := pt (aD b2) 2) hg9) (hS2.cf (i := 1) rfl) rfl)) ?_
 refine sgq 24 (B := (!((a.Rows != b.Rows) || (a.Cols != b.Cols)))) (v := vi (b.Cells.length : Int)) rfl rfl (uF_ 18) (fun hg10 => (Y_len (B := B1) (m := b.Cells.length) (c := c1) k_sl_28_63 rfl (gv_of (v := .slice B1 b.Cells.length c1) hg10))) ?_
 refine sgq 25 (B := (!((a.Rows != b.Rows) || (a.Cols != b.Cols)))) (v := .bool ((a.Cells.length : Int) != (b.Cells.length : Int))) rfl rfl (uF_ 18) (fun hg11 => (Y_ne (k := .i64) (a := (a.Cells.length : Int)) (b := (b.Cells.length : Int)) rfl (gv_of (v := vi (a.Cells.length : Int)) hg11) (gv_of (v := vi (b.Cells.length : Int)) hg11))) ?_
 refine sQ 26 (Y_or (b := ((a.Rows != b.Rows) || (a.Cols != b.Cols))) (z := ((a.Cells.length : Int) != (b.Cells.length : Int))) rfl rfl rfl rfl) (rw_nil ?_)
 refine cw_cond (b := (((a.Rows != b.Rows) || (a.Cols != b.Cols)) || ((a.Cells.length : Int) != (b.Cells.length : Int)))) rfl (fun hb => ?_) (fun hb => ?_)
 ·skip
  have hF1 := ct hF hb
  refine cw_seq (cw_region ?_)
  refine sQ 4 (Y_assign (v := .bool false) rfl rfl) (rw_nil (cw_ret ?_))
  obtain rfl := some_inj hF1
  exact ret1 Tryz.results10 (v1 := .bool false) (resAt_tmp rfl) ⟨rfl, (hS2.sN [])⟩
 ·skip
  have hF2 := cf' hF hb
  refine cw_skip (cw_seq (cw_seq (cw_region ?_)))
  refine sQ 27 (Y_fieldAddr (B := aD b1) (i := 0) (s := 0) k_fd_30_2_2_28 k_sz_28_1 rfl rfl) ?_
  refine sQ 28 (Y_load1 (B := aD b1) (i := 2) (cs := kM_ a B c) (v := .slice B a.Cells.length c) k_sc_28 rfl rfl (hS2.cf (i := 0) rfl) rfl) ?_
  refine sQ 29 (Y_len (B := B) (m := a.Cells.length) (c := c) k_sl_28_63 rfl rfl) ?_
  refine sQ 30 (Y_move (v := vi 0) rfl rfl) (rw_nil ?_)
  obtain ⟨hN, hF2⟩ := chk_inv hF2
  obtain ⟨z, hz, hF3⟩ := bind_inv hF2
  refine cw_block ?_
  refine cw_loop (fun k f w => ∃ (i : Nat), FF f [(2, pt (aD b1) 0), (3, pt (aD b2) 0), (29, vi (a.Cells.length : Int)), (30, vi (i : Int))] ∧ ST w0 [] w [⟨aD b1, 30, kM_ a B c, 3⟩, ⟨aD b2, 30, kM_ b B1 c1, 3⟩] [⟨B, (a.Cells.flatMap eN0)⟩, ⟨B1, (b.Cells.flatMap eN0)⟩] ∧ i + k = a.Cells.length ∧ forX (F_spec_EqualMatrices_l1 a b) k i () = some z) a.Cells.length ⟨0, (FF.cons rfl (FF.cons rfl (FF.cons rfl (FF.cons rfl FF.nil)))), (hS2.sel [0, 1] rfl rfl), Nat.zero_add _, hz⟩ ?_
  rintro k_ f w ⟨i, hf, hS3, hik, hL⟩
  refine cw_seq (cw_region ?_)
  refine sQ 31 (Y_lt (k := .i64) (a := (i : Int)) (b := (a.Cells.length : Int)) rfl (hf.get 30 3 rfl) (hf.get 29 2 rfl)) (rw_nil (cw_seq ?_))
  refine cw_cond (b := (decide ((i : Int) < (a.Cells.length : Int)))) rfl (fun hlt => ?_) (fun hlt => ?_)
  ·skip
   have hlt1 : i < a.Cells.length := by have h := of_decide_eq_true hlt; omega
   obtain ⟨k_1, rfl⟩ : ∃ k2, k_ = k2 + 1 := ⟨k_ - 1, by omega⟩
   obtain ⟨y, hb1, hL1⟩ := forX_go hL
   unfold F_spec_EqualMatrices_l1 at hb1
   refine cw_skip (cw_seq (cw_block (cw_seq (cw_region ?_))))
   refine sQ 32 (Y_move (v := vi (i : Int)) rfl (hf.get 30 3 rfl)) ?_
   refine sQ 5 (Y_assign (v := vi (i : Int)) rfl rfl) (rw_nil (cw_seq ?_))
   obtain ⟨x, hx, hb1⟩ := bind_inv hb1
   obtain ⟨x1, hx1, hb1⟩ := bind_inv hb1
   refine ra_start (hS3.se [0, 1]).fn (by kernel_rfl) ?_
   have hS4 := hS3.drew
   refine rq 0 33 (v := pt (aD b1) 2) rfl (hS4.se [0, 1]) (fun w' hw' => (Y_fieldAddr (B := aD b1) (i := 0) (s := 0) k_fd_30_2_2_28 k_sz_28_1 rfl (hf.get 2 0 rfl))) ?_
   refine rq 1 34 (v := .slice B a.Cells.length c) rfl (hS4.se [0, 1]) (fun w' hw' => (Y_load1 (B := aD b1) (i := 2) (cs := kM_ a B c) (v := .slice B a.Cells.length c) k_sc_28 rfl rfl (ST.cf hw' (i := 0) rfl) rfl)) ?_
   refine rq 2 35 (v := vi (i : Int)) rfl (hS4.se [0, 1]) (fun w' hw' => (Y_move (v := vi (i : Int)) rfl rfl)) ?_
   refine rq 3 36 (v := pt B ((i : Int).toNat * 5)) rfl (hS4.se [0, 1]) (fun w' hw' => (Y_index (B := B) (m := a.Cells.length) (c := c) (k := .i64) (i := (i : Int)) k_sl_28_63 k_sz_63_5 rfl rfl rfl (gi_isSome enc_Dyadic_len rfl (ST.rf hw' (i := 0) rfl) hx) (getI_nn hx) (getI_ltI hx rfl))) ?_
   refine rq 4 37 (v := gD_ x) rfl (hS4.se [0, 1]) (fun w' hw' => (Y_loadA (B := B) (i := (i : Int).toNat * 5) (cs := (a.Cells.flatMap eN0)) (vs := kD_ x) k_ag_63 k_sz_63_5 rfl rfl (ST.rf hw' (i := 0) rfl) (enc_Dyadic_len x) (gi_seg enc_Dyadic_len hx))) ?_
   refine rq 5 38 (v := pt (aD b2) 2) rfl (hS4.se [0, 1]) (fun w' hw' => (Y_fieldAddr (B := aD b2) (i := 0) (s := 0) k_fd_30_2_2_28 k_sz_28_1 rfl (hf.get 3 1 rfl))) ?_
   refine rq 6 39 (v := .slice B1 b.Cells.length c1) rfl (hS4.se [0, 1]) (fun w' hw' => (Y_load1 (B := aD b2) (i := 2) (cs := kM_ b B1 c1) (v := .slice B1 b.Cells.length c1) k_sc_28 rfl rfl (ST.cf hw' (i := 1) rfl) rfl)) ?_
   refine rq 7 40 (v := vi (i : Int)) rfl (hS4.se [0, 1]) (fun w' hw' => (Y_move (v := vi (i : Int)) rfl rfl)) ?_
   refine rq 8 41 (v := pt B1 ((i : Int).toNat * 5)) rfl (hS4.se [0, 1]) (fun w' hw' => (Y_index (B := B1) (m := b.Cells.length) (c := c1) (k := .i64) (i := (i : Int)) k_sl_28_63 k_sz_63_5 rfl rfl rfl (gi_isSome enc_Dyadic_len rfl (ST.rf hw' (i := 1) rfl) hx1) (getI_nn hx1) (getI_ltI hx1 rfl))) ?_
   refine rq 9 42 (v := gD_ x1) rfl (hS4.se [0, 1]) (fun w' hw' => (Y_loadA (B := B1) (i := (i : Int).toNat * 5) (cs := (b.Cells.flatMap eN0)) (vs := kD_ x1) k_ag_63 k_sz_63_5 rfl rfl (ST.rf hw' (i := 1) rfl) (enc_Dyadic_len x1) (gi_seg enc_Dyadic_len hx1))) ?_
   refine ra_q 10 43 (v := .bool (!(((x.Num.A == x1.Num.A) && ((x.Num.B == x1.Num.B) && ((x.Num.C == x1.Num.C) && ((x.Num.D == x1.Num.D) && true)))) && ((x.Exp == x1.Exp) && true)))) rfl rfl rfl (by kernel_rfl) (by kernel_rfl) (by kernel_rfl) (hS4.se [0, 1]) (fun w' hw' => (Y_neA (xs := #[vi x.Num.A, vi x.Num.B, vi x.Num.C, vi x.Num.D, vi x.Exp]) (ys := #[vi x1.Num.A, vi x1.Num.B, vi x1.Num.C, vi x1.Num.D, vi x1.Exp]) (b := (((x.Num.A == x1.Num.A) && ((x.Num.B == x1.Num.B) && ((x.Num.C == x1.Num.C) && ((x.Num.D == x1.Num.D) && true)))) && ((x.Exp == x1.Exp) && true))) k_eg_63 rfl rfl rfl (eqr_struct (xs := kD_ x) (ys := kD_ x1) k_st_63 k_ho_63 (pts_ag (us := kR_ x.Num) (vs := kR_ x1.Num) k_ag_61 k_sz_61_4 rfl rfl (eqr_struct (xs := kR_ x.Num) (ys := kR_ x1.Num) k_st_61 k_ho_61 (pts_sc k_sc_3 rfl rfl (eqr_int k_int_3_i64) (pts_sc k_sc_3 rfl rfl (eqr_int k_int_3_i64) (pts_sc k_sc_3 rfl rfl (eqr_int k_int_3_i64) (pts_sc k_sc_3 rfl rfl (eqr_int k_int_3_i64) pts_nil))))) (pts_sc k_sc_3 rfl rfl (eqr_int k_int_3_i64) pts_nil))))) ?_
   refine ra_done (by kernel_rfl) ?_
   refine cw_cond (b := (!(((x.Num.A == x1.Num.A) && ((x.Num.B == x1.Num.B) && ((x.Num.C == x1.Num.C) && ((x.Num.D == x1.Num.D) && true)))) && ((x.Exp == x1.Exp) && true)))) rfl (fun hb2 => ?_) (fun hb2 => ?_)
   ·skip
    have hF4 := ct hb1 hb2
    refine cw_seq (cw_region ?_)
    refine sQ 4 (Y_assign (v := .bool false) rfl rfl) (rw_nil (cw_ret ?_))
    obtain rfl := some_inj hF4
    obtain rfl := some_inj hL1
    obtain rfl := some_inj hF3
    exact ret1 Tryz.results10 (v1 := .bool false) (resAt_tmp rfl) ⟨rfl, (hS4.sN [])⟩
   ·skip
    have hF5 := cf' hb1 hb2
    refine cw_skip (cw_region ?_)
    refine sQ 44 (Y_add (k := .i64) (a := (i : Int)) (b := 1) rfl (hf.get 30 3 rfl) rfl) ?_
    refine sQ 30 (Y_move (v := vi (i64.wrap ((i : Int) + 1))) rfl rfl) (rw_nil ?_)
    obtain rfl := some_inj hF5
    exact ⟨k_1, Nat.lt_succ_self _, i + 1, (FF.cons (hf.get 2 0 rfl) (FF.cons (hf.get 3 1 rfl) (FF.cons (hf.get 29 2 rfl) (FF.cons (congrArg (Value.int .i64) (wr_succ hlt1 hN)) FF.nil)))), (hS4.sel [0, 1] rfl rfl), (by omega), hL1⟩
  ·skip
   obtain rfl : k_ = 0 := by have h := of_decide_eq_false hlt; omega
   refine cw_exit rfl ?_
   obtain rfl := some_inj hL
   refine cw_seq (cw_region ?_)
   refine sQ 4 (Y_assign (v := .bool true) rfl rfl) (rw_nil (cw_ret ?_))
   obtain rfl := some_inj hF3
   exact ret1 Tryz.results10 (v1 := .bool true) (resAt_tmp rfl) ⟨rfl, (hS3.sN [])⟩

theorem c_spec_l1All (l : List Int) (lo : Int) (hi : Int) (B : Option Addr) (c n : Nat) (w0 : World) (hn : l.length = n) (hS : ST w0 [] w0 [] [⟨B, (l.flatMap encI)⟩]) {r_ : Bool} (hF : F_spec_l1All l lo hi = some r_) :
  CV Tryz.prog 166 #[.slice B n c, vi lo, vi hi] w0 (fun v w' => v = .bool r_ ∧ ST w0 [] w' [] []) := by
 subst hn
 unfold F_spec_l1All at hF
 refine cv_of_cw 21 Tryz.func166 rfl Tryz.ntmps166 rfl ?_
 refine cw_seq (cw_region ?_)
 refine sQ 6 (Y_assign (v := .bool false) rfl rfl) (rw_nil (cw_seq (cw_seq (cw_region ?_))))
 refine sQ 9 (Y_move (v := .slice B l.length c) rfl rfl) ?_
 refine sQ 10 (Y_len (B := B) (m := l.length) (c := c) k_sl_43_3 rfl rfl) ?_
 refine sQ 11 (Y_move (v := vi 0) rfl rfl) (rw_nil ?_)
 obtain ⟨hN, hF⟩ := chk_inv hF
 obtain ⟨z, hz, hF1⟩ := bind_inv hF
 refine cw_block ?_
 refine cw_loop (fun k f w => ∃ (i : Nat), FF f [(1, vi lo), (2, vi hi), (9, .slice B l.length c), (10, vi (l.length : Int)), (11, vi (i : Int))] ∧ ST w0 [] w [] [⟨B, (l.flatMap encI)⟩] ∧ i + k = l.length ∧ forX (F_spec_l1All_l1 l lo hi) k i () = some z) l.length ⟨0, (FF.cons rfl (FF.cons rfl (FF.cons rfl (FF.cons rfl (FF.cons rfl FF.nil))))), (hS.sel [] rfl rfl), Nat.zero_add _, hz⟩ ?_
 rintro k_ f w ⟨i, hf, hS1, hik, hL⟩
 refine cw_seq (cw_region ?_)
 refine sQ 12 (Y_lt (k := .i64) (a := (i : Int)) (b := (l.length : Int)) rfl (hf.get 11 4 rfl) (hf.get 10 3 rfl)) (rw_nil (cw_seq ?_))
 refine cw_cond (b := (decide ((i : Int) < (l.length : Int)))) rfl (fun hlt => ?_) (fun hlt => ?_)
 ·skip
  have hlt1 : i < l.length := by have h := of_decide_eq_true hlt; omega
  obtain ⟨k_1, rfl⟩ : ∃ k2, k_ = k2 + 1 := ⟨k_ - 1, by omega⟩
  obtain ⟨y, hb, hL1⟩ := forX_go hL
  unfold F_spec_l1All_l1 at hb
  refine cw_skip (cw_seq (cw_block (cw_seq (cw_region ?_))))
  obtain ⟨x, hx, hb⟩ := bind_inv hb
  refine sQ 13 (Y_index (B := B) (m := l.length) (c := c) (k := .i64) (i := (i : Int)) k_sl_43_3 k_sz_3_1 rfl (hf.get 9 2 rfl) (hf.get 11 4 rfl) (gi_isSome encI_len rfl (hS1.rf (i := 0) rfl) hx) (getI_nn hx) (getI_ltI hx rfl)) ?_
  refine sQ 14 (Y_load1 (B := B) (i := (i : Int).toNat * 1) (cs := (l.flatMap encI)) (v := vi x) k_sc_3 rfl rfl (hS1.rf (i := 0) rfl) (gi_at0 encI_len hx rfl)) ?_
  refine sQ 8 (Y_assign (v := vi x) rfl rfl) (rw_nil (cw_seq (cw_region ?_)))
  refine sQ 15 (Y_move (v := vi x) rfl rfl) ?_
  refine sQ 16 (Y_move (v := vi lo) rfl (hf.get 1 0 rfl)) ?_
  refine sQ 17 (Y_move (v := vi hi) rfl (hf.get 2 1 rfl)) ?_
  obtain ⟨r_1, hc, hb⟩ := bind_inv hb
  refine sc 18 rfl rfl (Yc_func (g := 69) (vs := [vi x, vi lo, vi hi]) k_call_69 rfl (mc rfl (mc rfl (mc rfl mn))) (c_spec_l1In x lo hi _  (hS1.inn0 [] rfl) hc)) ?_
  rintro _ w_ ⟨rfl, hd⟩
  have hS2 := hS1.out00 hd
  refine sQ 19 (Y_not (p := r_1) rfl rfl) (rw_nil ?_)
  refine cw_cond (b := (!r_1)) rfl (fun hb1 => ?_) (fun hb1 => ?_)
  ·skip
   have hF2 := ct hb hb1
   refine cw_seq (cw_region ?_)
   refine sQ 6 (Y_assign (v := .bool false) rfl rfl) (rw_nil (cw_ret ?_))
   obtain rfl := some_inj hF2
   obtain rfl := some_inj hL1
   obtain rfl := some_inj hF1
   exact ret1 Tryz.results166 (v1 := .bool false) (resAt_tmp rfl) ⟨rfl, (hS2.sN [])⟩
  ·skip
   have hF3 := cf' hb hb1
   refine cw_skip (cw_region ?_)
   refine sQ 20 (Y_add (k := .i64) (a := (i : Int)) (b := 1) rfl (hf.get 11 4 rfl) rfl) ?_
   refine sQ 11 (Y_move (v := vi (i64.wrap ((i : Int) + 1))) rfl rfl) (rw_nil ?_)
   obtain rfl := some_inj hF3
   exact ⟨k_1, Nat.lt_succ_self _, i + 1, (FF.cons (hf.get 1 0 rfl) (FF.cons (hf.get 2 1 rfl) (FF.cons (hf.get 9 2 rfl) (FF.cons (hf.get 10 3 rfl) (FF.cons (congrArg (Value.int .i64) (wr_succ hlt1 hN)) FF.nil))))), (hS2.sel [] rfl rfl), (by omega), hL1⟩
 ·skip
  obtain rfl : k_ = 0 := by have h := of_decide_eq_false hlt; omega
  refine cw_exit rfl ?_
  obtain rfl := some_inj hL
  refine cw_seq (cw_region ?_)
  refine sQ 6 (Y_assign (v := .bool true) rfl rfl) (rw_nil (cw_ret ?_))
  obtain rfl := some_inj hF1
  exact ret1 Tryz.results166 (v1 := .bool true) (resAt_tmp rfl) ⟨rfl, (hS1.sN [])⟩

theorem c_spec_l1Good (x : TRing)  (w0 : World)  (hS : ST w0 [] w0 [] []) {r_ : Bool} (hF : F_spec_l1Good x = some r_) :
  CV Tryz.prog 130 #[gR_ x] w0 (fun v w' => v = .bool r_ ∧ ST w0 [] w' [] []) := by
 unfold F_spec_l1Good at hF
 refine cv_of_cw 13 Tryz.func130 rfl Tryz.ntmps130 rfl ?_
 refine cw_seq (cw_region ?_)
 refine sS 1 (Ys_box (T := 61) (v := gR_ x) (cs := kR_ x) (m := 4) hS rfl rfl rfl rfl) ?_
 rintro _ w_ ⟨b, rfl, hS1⟩
 refine sQ 2 (Y_assign (v := .bool false) rfl rfl) (rw_nil (cw_seq (cw_region ?_)))
 refine sQ 3 (Y_fieldAddr (B := aD b) (i := 0) (s := 0) k_fd_61_0_0_3 k_sz_3_1 rfl rfl) ?_
 refine sQ 4 (Y_load1 (B := aD b) (i := 0) (cs := kR_ x) (v := vi x.A) k_sc_3 rfl rfl (hS1.cf (i := 0) rfl) rfl) ?_
 refine sQ 5 (Y_fieldAddr (B := aD b) (i := 0) (s := 0) k_fd_61_1_1_3 k_sz_3_1 rfl rfl) ?_
 refine sQ 6 (Y_load1 (B := aD b) (i := 1) (cs := kR_ x) (v := vi x.B) k_sc_3 rfl rfl (hS1.cf (i := 0) rfl) rfl) ?_
 refine sQ 7 (Y_fieldAddr (B := aD b) (i := 0) (s := 0) k_fd_61_2_2_3 k_sz_3_1 rfl rfl) ?_
 refine sQ 8 (Y_load1 (B := aD b) (i := 2) (cs := kR_ x) (v := vi x.C) k_sc_3 rfl rfl (hS1.cf (i := 0) rfl) rfl) ?_
 refine sQ 9 (Y_fieldAddr (B := aD b) (i := 0) (s := 0) k_fd_61_3_3_3 k_sz_3_1 rfl rfl) ?_
 refine sQ 10 (Y_load1 (B := aD b) (i := 3) (cs := kR_ x) (v := vi x.D) k_sc_3 rfl rfl (hS1.cf (i := 0) rfl) rfl) ?_
 refine sS 11 (Ys_bslice (s := 1) (len := 4) (vs := [(0, vi x.A), (1, vi x.B), (2, vi x.C), (3, vi x.D)]) (cs := kR_ x) (zs := [vi 0, vi 0, vi 0, vi 0]) (m := 4) hS1 k_sl_43_3 k_sz_3_1 k_zc_3 rfl (mpc rfl (mpc rfl (mpc rfl (mpc rfl mpn)))) rfl rfl rfl (by kernel_rfl) (by kernel_rfl) rfl) ?_
 rintro _ w_1 ⟨b1, rfl, hS2⟩
 obtain ⟨r_1, hc, hF⟩ := bind_inv hF
 refine sc 12 rfl rfl (Yc_func (g := 166) (vs := [.slice (aD b1) 4 4, vi (-1000000000), vi 1000000000]) k_call_166 rfl (mc rfl (mc rfl (mc rfl mn))) (c_spec_l1All [x.A, x.B, x.C, x.D] (-1000000000) 1000000000 (aD b1) 4 4 _ rfl (hS2.inn0 [(false, 1)] rfl) hc)) ?_
 rintro _ w_2 ⟨rfl, hd⟩
 have hS3 := hS2.out00 hd
 refine sQ 2 (Y_assign (v := .bool r_1) rfl rfl) (rw_nil (cw_ret ?_))
 obtain rfl := some_inj hF
 exact ret1 Tryz.results130 (v1 := .bool r_1) (resAt_tmp rfl) ⟨rfl, (hS3.sN [])⟩

theorem c_spec_l2C_ring (c : Tl2C) (x : TRing) (B : Option Addr) (w0 : World)  (hS : ST w0 (bl [⟨B, 75, [.bool c.bad], 1⟩]) w0 [⟨B, 75, [.bool c.bad], 1⟩] []) {r_ : TRing} {m : Tl2C} (hF : F_spec_l2C_ring c x = some (r_, m)) :
  CV Tryz.prog 132 #[pt B 0, gR_ x] w0 (fun v w' => v = (gR_ r_) ∧ ST w0 (bl [⟨B, 75, [.bool c.bad], 1⟩]) w' [⟨B, 75, [.bool m.bad], 1⟩] []) := by
 unfold F_spec_l2C_ring at hF
 refine cv_of_cw 13 Tryz.func132 rfl Tryz.ntmps132 rfl ?_
 refine cw_seq (cw_region ?_)
 refine sS 3 (Ys_box (T := 61) (v := gR_ x) (cs := kR_ x) (m := 4) hS rfl rfl rfl rfl) ?_
 rintro _ w_ ⟨b, rfl, hS1⟩
 refine sS 4 (Ys_alloc (T := 61) (cs := [vi 0, vi 0, vi 0, vi 0]) (m := 4) hS1 k_zero_61 rfl rfl rfl) ?_
 rintro _ w_1 ⟨b1, rfl, hS2⟩
 refine rw_nil (cw_seq (cw_seq (cw_region ?_)))
 refine sQ 5 (Y_loadA (B := aD b) (i := 0) (cs := kR_ x) (vs := kR_ x) k_ag_61 k_sz_61_4 rfl rfl (hS2.cf (i := 1) rfl) rfl rfl) ?_
 obtain ⟨r_1, hc, hF⟩ := bind_inv hF
 refine sc 6 rfl rfl (Yc_func (g := 130) (vs := [gR_ x]) k_call_130 rfl (mc rfl mn) (c_spec_l1Good x _  (hS2.inn0 [] rfl) hc)) ?_
 rintro _ w_2 ⟨rfl, hd⟩
 have hS3 := hS2.out00 hd
 refine sQ 7 (Y_not (p := r_1) rfl rfl) (rw_nil ?_)
 refine cw_cond (b := (!r_1)) rfl (fun hb => ?_) (fun hb => ?_)
 ·skip
  have hF1 := ct hF hb
  refine cw_seq (cw_region ?_)
  refine sQ 8 (Y_move (v := pt B 0) rfl rfl) ?_
  refine sQ 9 (Y_nilCheck (B := B) (i := 0) rfl rfl) ?_
  refine sQ 10 (Y_fieldAddr (B := B) (i := 0) (s := 0) k_fd_75_0_0_4 k_sz_4_1 rfl rfl) ?_
  refine s0 (Ys_store (i := 0) (s := 1) (B := B) (T' := 75) (v := .bool true) (vs := [.bool true]) (k := 0) (cs' := [.bool true]) hS3 k_sz_4_1 rfl rfl rfl rfl rfl rfl rfl (lB rfl) rfl rfl) ?_
  rintro _ w_3 ⟨rfl, hS4⟩
  refine rw_nil (cw_seq (cw_region ?_))
  refine sQ 11 (Y_buildS (zs := [vi 0, vi 0, vi 0, vi 0]) (vs := []) (cs := [vi 0, vi 0, vi 0, vi 0]) k_pl_61 k_zero_61 rfl mpn rfl) ?_
  refine s0 (Ys_store (i := 2) (s := 4) (B := aD b1) (T' := 61) (v := .agg #[vi 0, vi 0, vi 0, vi 0]) (vs := [vi 0, vi 0, vi 0, vi 0]) (k := 0) (cs' := [vi 0, vi 0, vi 0, vi 0]) hS4 k_sz_61_4 rfl rfl rfl rfl rfl rfl rfl (lB rfl) rfl rfl) ?_
  rintro _ w_4 ⟨rfl, hS5⟩
  refine rw_nil (cw_ret ?_)
  obtain ⟨rfl, rfl⟩ := pr2 (some_inj hF1)
  exact ret1 Tryz.results132 (v1 := .agg #[vi 0, vi 0, vi 0, vi 0]) (resAt_cellA (B := aD b1) (i := 0) (cs := [vi 0, vi 0, vi 0, vi 0]) (vs := [vi 0, vi 0, vi 0, vi 0]) rfl k_ag_61 k_sz_61_4 (hS5.cf (i := 2) rfl) rfl rfl) ⟨rfl, (hS5.sN [0])⟩
 ·skip
  have hF2 := cf' hF hb
  refine cw_skip (cw_seq (cw_region ?_))
  refine sQ 12 (Y_loadA (B := aD b) (i := 0) (cs := kR_ x) (vs := kR_ x) k_ag_61 k_sz_61_4 rfl rfl (hS3.cf (i := 1) rfl) rfl rfl) ?_
  refine s0 (Ys_store (i := 2) (s := 4) (B := aD b1) (T' := 61) (v := gR_ x) (vs := kR_ x) (k := 0) (cs' := kR_ x) hS3 k_sz_61_4 rfl rfl rfl rfl rfl rfl rfl (lB rfl) rfl rfl) ?_
  rintro _ w_5 ⟨rfl, hS6⟩
  refine rw_nil (cw_ret ?_)
  obtain ⟨rfl, rfl⟩ := pr2 (some_inj hF2)
  exact ret1 Tryz.results132 (v1 := gR_ x) (resAt_cellA (B := aD b1) (i := 0) (cs := kR_ x) (vs := kR_ x) rfl k_ag_61 k_sz_61_4 (hS6.cf (i := 2) rfl) rfl rfl) ⟨rfl, (hS6.sN [0])⟩

theorem c_spec_l1Root (x : TRing)  (w0 : World)  (hS : ST w0 [] w0 [] []) {r_ : TRing} (hF : F_spec_l1Root x = some r_) :
  CV Tryz.prog 133 #[gR_ x] w0 (fun v w' => v = (gR_ r_) ∧ ST w0 [] w' [] []) := by
 unfold F_spec_l1Root at hF
 refine cv_of_cw 24 Tryz.func133 rfl Tryz.ntmps133 rfl ?_
 refine cw_seq (cw_region ?_)
 refine sS 1 (Ys_box (T := 61) (v := gR_ x) (cs := kR_ x) (m := 4) hS rfl rfl rfl rfl) ?_
 rintro _ w_ ⟨b, rfl, hS1⟩
 refine sS 2 (Ys_alloc (T := 61) (cs := [vi 0, vi 0, vi 0, vi 0]) (m := 4) hS1 k_zero_61 rfl rfl rfl) ?_
 rintro _ w_1 ⟨b1, rfl, hS2⟩
 refine rw_nil (cw_seq (cw_region ?_))
 refine sQ 3 (Y_fieldAddr (B := aD b) (i := 0) (s := 0) k_fd_61_1_1_3 k_sz_3_1 rfl rfl) ?_
 refine sQ 4 (Y_load1 (B := aD b) (i := 1) (cs := kR_ x) (v := vi x.B) k_sc_3 rfl rfl (hS2.cf (i := 0) rfl) rfl) ?_
 refine sQ 5 (Y_fieldAddr (B := aD b) (i := 0) (s := 0) k_fd_61_3_3_3 k_sz_3_1 rfl rfl) ?_
 refine sQ 6 (Y_load1 (B := aD b) (i := 3) (cs := kR_ x) (v := vi x.D) k_sc_3 rfl rfl (hS2.cf (i := 0) rfl) rfl) ?_
 refine sQ 7 (Y_sub (k := .i64) (a := x.B) (b := x.D) rfl rfl rfl) ?_
 refine sQ 8 (Y_fieldAddr (B := aD b) (i := 0) (s := 0) k_fd_61_0_0_3 k_sz_3_1 rfl rfl) ?_
 refine sQ 9 (Y_load1 (B := aD b) (i := 0) (cs := kR_ x) (v := vi x.A) k_sc_3 rfl rfl (hS2.cf (i := 0) rfl) rfl) ?_
 refine sQ 10 (Y_fieldAddr (B := aD b) (i := 0) (s := 0) k_fd_61_2_2_3 k_sz_3_1 rfl rfl) ?_
 refine sQ 11 (Y_load1 (B := aD b) (i := 2) (cs := kR_ x) (v := vi x.C) k_sc_3 rfl rfl (hS2.cf (i := 0) rfl) rfl) ?_
 refine sQ 12 (Y_add (k := .i64) (a := x.A) (b := x.C) rfl rfl rfl) ?_
 refine sQ 13 (Y_fieldAddr (B := aD b) (i := 0) (s := 0) k_fd_61_1_1_3 k_sz_3_1 rfl rfl) ?_
 refine sQ 14 (Y_load1 (B := aD b) (i := 1) (cs := kR_ x) (v := vi x.B) k_sc_3 rfl rfl (hS2.cf (i := 0) rfl) rfl) ?_
 refine sQ 15 (Y_fieldAddr (B := aD b) (i := 0) (s := 0) k_fd_61_3_3_3 k_sz_3_1 rfl rfl) ?_
 refine sQ 16 (Y_load1 (B := aD b) (i := 3) (cs := kR_ x) (v := vi x.D) k_sc_3 rfl rfl (hS2.cf (i := 0) rfl) rfl) ?_
 refine sQ 17 (Y_add (k := .i64) (a := x.B) (b := x.D) rfl rfl rfl) ?_
 refine sQ 18 (Y_fieldAddr (B := aD b) (i := 0) (s := 0) k_fd_61_2_2_3 k_sz_3_1 rfl rfl) ?_
 refine sQ 19 (Y_load1 (B := aD b) (i := 2) (cs := kR_ x) (v := vi x.C) k_sc_3 rfl rfl (hS2.cf (i := 0) rfl) rfl) ?_
 refine sQ 20 (Y_fieldAddr (B := aD b) (i := 0) (s := 0) k_fd_61_0_0_3 k_sz_3_1 rfl rfl) ?_
 refine sQ 21 (Y_load1 (B := aD b) (i := 0) (cs := kR_ x) (v := vi x.A) k_sc_3 rfl rfl (hS2.cf (i := 0) rfl) rfl) ?_
 refine sQ 22 (Y_sub (k := .i64) (a := x.C) (b := x.A) rfl rfl rfl) ?_
 refine sQ 23 (Y_buildS (zs := [vi 0, vi 0, vi 0, vi 0]) (vs := [(0, vi (i64.wrap (x.B - x.D))), (1, vi (i64.wrap (x.A + x.C))), (2, vi (i64.wrap (x.B + x.D))), (3, vi (i64.wrap (x.C - x.A)))]) (cs := [vi (i64.wrap (x.B - x.D)), vi (i64.wrap (x.A + x.C)), vi (i64.wrap (x.B + x.D)), vi (i64.wrap (x.C - x.A))]) k_pl_61 k_zero_61 rfl (mpc rfl (mpc rfl (mpc rfl (mpc rfl mpn)))) rfl) ?_
 refine s0 (Ys_store (i := 1) (s := 4) (B := aD b1) (T' := 61) (v := .agg #[vi (i64.wrap (x.B - x.D)), vi (i64.wrap (x.A + x.C)), vi (i64.wrap (x.B + x.D)), vi (i64.wrap (x.C - x.A))]) (vs := [vi (i64.wrap (x.B - x.D)), vi (i64.wrap (x.A + x.C)), vi (i64.wrap (x.B + x.D)), vi (i64.wrap (x.C - x.A))]) (k := 0) (cs' := [vi (i64.wrap (x.B - x.D)), vi (i64.wrap (x.A + x.C)), vi (i64.wrap (x.B + x.D)), vi (i64.wrap (x.C - x.A))]) hS2 k_sz_61_4 rfl rfl rfl rfl rfl rfl rfl (lB rfl) rfl rfl) ?_
 rintro _ w_2 ⟨rfl, hS3⟩
 refine rw_nil (cw_ret ?_)
 obtain rfl := some_inj hF
 exact ret1 Tryz.results133 (v1 := .agg #[vi (i64.wrap (x.B - x.D)), vi (i64.wrap (x.A + x.C)), vi (i64.wrap (x.B + x.D)), vi (i64.wrap (x.C - x.A))]) (resAt_cellA (B := aD b1) (i := 0) (cs := [vi (i64.wrap (x.B - x.D)), vi (i64.wrap (x.A + x.C)), vi (i64.wrap (x.B + x.D)), vi (i64.wrap (x.C - x.A))]) (vs := [vi (i64.wrap (x.B - x.D)), vi (i64.wrap (x.A + x.C)), vi (i64.wrap (x.B + x.D)), vi (i64.wrap (x.C - x.A))]) rfl k_ag_61 k_sz_61_4 (hS3.cf (i := 1) rfl) rfl rfl) ⟨rfl, (hS3.sN [])⟩

theorem c_spec_l1Even (x : TRing)  (w0 : World)  (hS : ST w0 [] w0 [] []) {r_ : Bool} (hF : F_spec_l1Even x = some r_) :
  CV Tryz.prog 131 #[gR_ x] w0 (fun v w' => v = .bool r_ ∧ ST w0 [] w' [] []) := by
 unfold F_spec_l1Even at hF
 refine cv_of_cw 19 Tryz.func131 rfl Tryz.ntmps131 rfl ?_
 refine cw_seq (cw_region ?_)
 refine sS 1 (Ys_box (T := 61) (v := gR_ x) (cs := kR_ x) (m := 4) hS rfl rfl rfl rfl) ?_
 rintro _ w_ ⟨b, rfl, hS1⟩
 refine sQ 2 (Y_assign (v := .bool false) rfl rfl) (rw_nil (cw_seq (cw_region ?_)))
 refine sQ 3 (Y_fieldAddr (B := aD b) (i := 0) (s := 0) k_fd_61_0_0_3 k_sz_3_1 rfl rfl) ?_
 refine sQ 4 (Y_load1 (B := aD b) (i := 0) (cs := kR_ x) (v := vi x.A) k_sc_3 rfl rfl (hS1.cf (i := 0) rfl) rfl) ?_
 refine sQ 5 (Y_fieldAddr (B := aD b) (i := 0) (s := 0) k_fd_61_2_2_3 k_sz_3_1 rfl rfl) ?_
 refine sQ 6 (Y_load1 (B := aD b) (i := 2) (cs := kR_ x) (v := vi x.C) k_sc_3 rfl rfl (hS1.cf (i := 0) rfl) rfl) ?_
 refine sQ 7 (Y_add (k := .i64) (a := x.A) (b := x.C) rfl rfl rfl) ?_
 refine sQ 8 (Y_rem (k := .i64) (a := (i64.wrap (x.A + x.C))) (b := 2) rfl rfl rfl (by decide)) ?_
 refine sQ 9 (Y_eq (k := .i64) (a := (Int.tmod (i64.wrap (x.A + x.C)) 2)) (b := 0) rfl rfl rfl) ?_
 refine sQ 10 (Y_move (v := .bool ((Int.tmod (i64.wrap (x.A + x.C)) 2) == 0)) rfl rfl) ?_
 refine sgq 11 (B := ((Int.tmod (i64.wrap (x.A + x.C)) 2) == 0)) (v := pt (aD b) 1) rfl rfl (uT_ 10) (fun hg => (Y_fieldAddr (B := aD b) (i := 0) (s := 0) k_fd_61_1_1_3 k_sz_3_1 rfl rfl)) ?_
 refine sgq 12 (B := ((Int.tmod (i64.wrap (x.A + x.C)) 2) == 0)) (v := vi x.B) rfl rfl (uT_ 10) (fun hg1 => (Y_load1 (B := aD b) (i := 1) (cs := kR_ x) (v := vi x.B) k_sc_3 rfl (gv_of (v := pt (aD b) 1) hg1) (hS1.cf (i := 0) rfl) rfl)) ?_
 refine sgq 13 (B := ((Int.tmod (i64.wrap (x.A + x.C)) 2) == 0)) (v := pt (aD b) 3) rfl rfl (uT_ 10) (fun hg2 => (Y_fieldAddr (B := aD b) (i := 0) (s := 0) k_fd_61_3_3_3 k_sz_3_1 rfl rfl)) ?_
 refine sgq 14 (B := ((Int.tmod (i64.wrap (x.A + x.C)) 2) == 0)) (v := vi x.D) rfl rfl (uT_ 10) (fun hg3 => (Y_load1 (B := aD b) (i := 3) (cs := kR_ x) (v := vi x.D) k_sc_3 rfl (gv_of (v := pt (aD b) 3) hg3) (hS1.cf (i := 0) rfl) rfl)) ?_
 refine sgq 15 (B := ((Int.tmod (i64.wrap (x.A + x.C)) 2) == 0)) (v := vi (i64.wrap (x.B + x.D))) rfl rfl (uT_ 10) (fun hg4 => (Y_add (k := .i64) (a := x.B) (b := x.D) rfl (gv_of (v := vi x.B) hg4) (gv_of (v := vi x.D) hg4))) ?_
 refine sgq 16 (B := ((Int.tmod (i64.wrap (x.A + x.C)) 2) == 0)) (v := vi (Int.tmod (i64.wrap (x.B + x.D)) 2)) rfl rfl (uT_ 10) (fun hg5 => (Y_rem (k := .i64) (a := (i64.wrap (x.B + x.D))) (b := 2) rfl (gv_of (v := vi (i64.wrap (x.B + x.D))) hg5) rfl (by decide))) ?_
 refine sgq 17 (B := ((Int.tmod (i64.wrap (x.A + x.C)) 2) == 0)) (v := .bool ((Int.tmod (i64.wrap (x.B + x.D)) 2) == 0)) rfl rfl (uT_ 10) (fun hg6 => (Y_eq (k := .i64) (a := (Int.tmod (i64.wrap (x.B + x.D)) 2)) (b := 0) rfl (gv_of (v := vi (Int.tmod (i64.wrap (x.B + x.D)) 2)) hg6) rfl)) ?_
 refine sQ 18 (Y_and (b := ((Int.tmod (i64.wrap (x.A + x.C)) 2) == 0)) (z := ((Int.tmod (i64.wrap (x.B + x.D)) 2) == 0)) rfl rfl rfl rfl) ?_
 refine sQ 2 (Y_assign (v := .bool (((Int.tmod (i64.wrap (x.A + x.C)) 2) == 0) && ((Int.tmod (i64.wrap (x.B + x.D)) 2) == 0))) rfl rfl) (rw_nil (cw_ret ?_))
 obtain rfl := some_inj hF
 exact ret1 Tryz.results131 (v1 := .bool (((Int.tmod (i64.wrap (x.A + x.C)) 2) == 0) && ((Int.tmod (i64.wrap (x.B + x.D)) 2) == 0))) (resAt_tmp rfl) ⟨rfl, (hS1.sN [])⟩

theorem c_spec_l1Half (x : TRing)  (w0 : World)  (hS : ST w0 [] w0 [] []) {r_ : TRing} (hF : F_spec_l1Half x = some r_) :
  CV Tryz.prog 167 #[gR_ x] w0 (fun v w' => v = (gR_ r_) ∧ ST w0 [] w' [] []) := by
 unfold F_spec_l1Half at hF
 refine cv_of_cw 19 Tryz.func167 rfl Tryz.ntmps167 rfl ?_
 refine cw_seq (cw_region ?_)
 refine sS 1 (Ys_box (T := 61) (v := gR_ x) (cs := kR_ x) (m := 4) hS rfl rfl rfl rfl) ?_
 rintro _ w_ ⟨b, rfl, hS1⟩
 refine sS 2 (Ys_alloc (T := 61) (cs := [vi 0, vi 0, vi 0, vi 0]) (m := 4) hS1 k_zero_61 rfl rfl rfl) ?_
 rintro _ w_1 ⟨b1, rfl, hS2⟩
 refine rw_nil (cw_seq (cw_region ?_))
 refine sQ 4 (Y_loadA (B := aD b) (i := 0) (cs := kR_ x) (vs := kR_ x) k_ag_61 k_sz_61_4 rfl rfl (hS2.cf (i := 0) rfl) rfl rfl) ?_
 obtain ⟨r_1, hc, hF⟩ := bind_inv hF
 refine sc 5 rfl rfl (Yc_func (g := 133) (vs := [gR_ x]) k_call_133 rfl (mc rfl mn) (c_spec_l1Root x _  (hS2.inn0 [] rfl) hc)) ?_
 rintro _ w_2 ⟨rfl, hd⟩
 have hS3 := hS2.out00 hd
 refine sS 3 (Ys_alloc (T := 61) (cs := [vi 0, vi 0, vi 0, vi 0]) (m := 4) hS3 k_zero_61 rfl rfl rfl) ?_
 rintro _ w_3 ⟨b2, rfl, hS4⟩
 refine s0 (Ys_store (i := 2) (s := 4) (B := aD b2) (T' := 61) (v := gR_ r_1) (vs := kR_ r_1) (k := 0) (cs' := kR_ r_1) hS4 k_sz_61_4 rfl rfl rfl rfl rfl rfl rfl (lB rfl) rfl rfl) ?_
 rintro _ w_4 ⟨rfl, hS5⟩
 refine rw_nil (cw_seq (cw_region ?_))
 refine sQ 6 (Y_fieldAddr (B := aD b2) (i := 0) (s := 0) k_fd_61_0_0_3 k_sz_3_1 rfl rfl) ?_
 refine sQ 7 (Y_load1 (B := aD b2) (i := 0) (cs := kR_ r_1) (v := vi r_1.A) k_sc_3 rfl rfl (hS5.cf (i := 2) rfl) rfl) ?_
 refine sQ 8 (Y_quo (k := .i64) (a := r_1.A) (b := 2) rfl rfl rfl (by decide)) ?_
 refine sQ 9 (Y_fieldAddr (B := aD b2) (i := 0) (s := 0) k_fd_61_1_1_3 k_sz_3_1 rfl rfl) ?_
 refine sQ 10 (Y_load1 (B := aD b2) (i := 1) (cs := kR_ r_1) (v := vi r_1.B) k_sc_3 rfl rfl (hS5.cf (i := 2) rfl) rfl) ?_
 refine sQ 11 (Y_quo (k := .i64) (a := r_1.B) (b := 2) rfl rfl rfl (by decide)) ?_
 refine sQ 12 (Y_fieldAddr (B := aD b2) (i := 0) (s := 0) k_fd_61_2_2_3 k_sz_3_1 rfl rfl) ?_
 refine sQ 13 (Y_load1 (B := aD b2) (i := 2) (cs := kR_ r_1) (v := vi r_1.C) k_sc_3 rfl rfl (hS5.cf (i := 2) rfl) rfl) ?_
 refine sQ 14 (Y_quo (k := .i64) (a := r_1.C) (b := 2) rfl rfl rfl (by decide)) ?_
 refine sQ 15 (Y_fieldAddr (B := aD b2) (i := 0) (s := 0) k_fd_61_3_3_3 k_sz_3_1 rfl rfl) ?_
 refine sQ 16 (Y_load1 (B := aD b2) (i := 3) (cs := kR_ r_1) (v := vi r_1.D) k_sc_3 rfl rfl (hS5.cf (i := 2) rfl) rfl) ?_
 refine sQ 17 (Y_quo (k := .i64) (a := r_1.D) (b := 2) rfl rfl rfl (by decide)) ?_
 refine sQ 18 (Y_buildS (zs := [vi 0, vi 0, vi 0, vi 0]) (vs := [(0, vi (i64.wrap (Int.tdiv r_1.A 2))), (1, vi (i64.wrap (Int.tdiv r_1.B 2))), (2, vi (i64.wrap (Int.tdiv r_1.C 2))), (3, vi (i64.wrap (Int.tdiv r_1.D 2)))]) (cs := [vi (i64.wrap (Int.tdiv r_1.A 2)), vi (i64.wrap (Int.tdiv r_1.B 2)), vi (i64.wrap (Int.tdiv r_1.C 2)), vi (i64.wrap (Int.tdiv r_1.D 2))]) k_pl_61 k_zero_61 rfl (mpc rfl (mpc rfl (mpc rfl (mpc rfl mpn)))) rfl) ?_
 refine s0 (Ys_store (i := 1) (s := 4) (B := aD b1) (T' := 61) (v := .agg #[vi (i64.wrap (Int.tdiv r_1.A 2)), vi (i64.wrap (Int.tdiv r_1.B 2)), vi (i64.wrap (Int.tdiv r_1.C 2)), vi (i64.wrap (Int.tdiv r_1.D 2))]) (vs := [vi (i64.wrap (Int.tdiv r_1.A 2)), vi (i64.wrap (Int.tdiv r_1.B 2)), vi (i64.wrap (Int.tdiv r_1.C 2)), vi (i64.wrap (Int.tdiv r_1.D 2))]) (k := 0) (cs' := [vi (i64.wrap (Int.tdiv r_1.A 2)), vi (i64.wrap (Int.tdiv r_1.B 2)), vi (i64.wrap (Int.tdiv r_1.C 2)), vi (i64.wrap (Int.tdiv r_1.D 2))]) hS5 k_sz_61_4 rfl rfl rfl rfl rfl rfl rfl (lB rfl) rfl rfl) ?_
 rintro _ w_5 ⟨rfl, hS6⟩
 refine rw_nil (cw_ret ?_)
 obtain rfl := some_inj hF
 exact ret1 Tryz.results167 (v1 := .agg #[vi (i64.wrap (Int.tdiv r_1.A 2)), vi (i64.wrap (Int.tdiv r_1.B 2)), vi (i64.wrap (Int.tdiv r_1.C 2)), vi (i64.wrap (Int.tdiv r_1.D 2))]) (resAt_cellA (B := aD b1) (i := 0) (cs := [vi (i64.wrap (Int.tdiv r_1.A 2)), vi (i64.wrap (Int.tdiv r_1.B 2)), vi (i64.wrap (Int.tdiv r_1.C 2)), vi (i64.wrap (Int.tdiv r_1.D 2))]) (vs := [vi (i64.wrap (Int.tdiv r_1.A 2)), vi (i64.wrap (Int.tdiv r_1.B 2)), vi (i64.wrap (Int.tdiv r_1.C 2)), vi (i64.wrap (Int.tdiv r_1.D 2))]) rfl k_ag_61 k_sz_61_4 (hS6.cf (i := 1) rfl) rfl rfl) ⟨rfl, (hS6.sN [])⟩

theorem c_spec_l2Low (num : TRing) (exp : Int)  (w0 : World)  (hS : ST w0 [] w0 [] []) {r_ : TDyadic} (hF : F_spec_l2Low num exp = some r_) :
  CV Tryz.prog 134 #[gR_ num, vi exp] w0 (fun v w' => v = (gD_ r_) ∧ ST w0 [] w' [] []) := by
 unfold F_spec_l2Low at hF
 refine cv_of_cw 18 Tryz.func134 rfl Tryz.ntmps134 rfl ?_
 refine cw_seq (cw_region ?_)
 refine sS 2 (Ys_box (T := 61) (v := gR_ num) (cs := kR_ num) (m := 4) hS rfl rfl rfl rfl) ?_
 rintro _ w_ ⟨b, rfl, hS1⟩
 refine sS 4 (Ys_alloc (T := 63) (cs := kZ_) (m := 5) hS1 k_zero_63 rfl rfl rfl) ?_
 rintro _ w_1 ⟨b1, rfl, hS2⟩
 refine rw_nil (cw_seq ?_)
 obtain ⟨z, hz, hF1⟩ := bind_inv hF
 refine cw_block ?_
 refine cw_loop (fun k f w => ∃ (exp1 : Int) (A : Int) (B : Int) (C : Int) (D : Int), FF f [(1, vi exp1), (2, pt (aD b) 0), (4, pt (aD b1) 0)] ∧ ST w0 [] w [⟨aD b, 61, [vi A, vi B, vi C, vi D], 4⟩, ⟨aD b1, 63, kZ_, 5⟩] [] ∧ whX F_spec_l2Low_l1 k (exp1, A, B, C, D) = some z) fuel ⟨exp, num.A, num.B, num.C, num.D, (FF.cons rfl (FF.cons rfl (FF.cons rfl FF.nil))), (hS2.sel [0, 1] rfl rfl), hz⟩ ?_
 rintro k_ f w ⟨exp1, A, B, C, D, hf, hS3, hL⟩
 obtain ⟨k_1, y, rfl, hb, hL1⟩ := whX_go hL
 unfold F_spec_l2Low_l1 at hb
 refine cw_seq (cw_seq (cw_region ?_))
 refine sQ 5 (Y_move (v := vi exp1) rfl (hf.get 1 0 rfl)) ?_
 refine sQ 6 (Y_gt (k := .i64) (a := exp1) (b := 0) rfl rfl rfl) ?_
 refine sQ 7 (Y_move (v := .bool (decide (0 < exp1))) rfl rfl) ?_
 refine sgq 8 (B := (decide (0 < exp1))) (v := .agg #[vi A, vi B, vi C, vi D]) rfl rfl (uT_ 7) (fun hg => (Y_loadA (B := aD b) (i := 0) (cs := [vi A, vi B, vi C, vi D]) (vs := [vi A, vi B, vi C, vi D]) k_ag_61 k_sz_61_4 rfl (hf.get 2 1 rfl) (hS3.cf (i := 0) rfl) rfl rfl)) ?_
 obtain ⟨r_1, hc, hb⟩ := bind_inv hb
 refine sgc 9 (B := (decide (0 < exp1))) (v := .bool r_1) (F := hS3.fn) rfl rfl (uT_ 7) hS3 (fun hg1 => (Yc_func (g := 131) (vs := [.agg #[vi A, vi B, vi C, vi D]]) k_call_131 rfl (mc (gv_of (v := .agg #[vi A, vi B, vi C, vi D]) hg1) mn) (CV.mono (c_spec_l1Even (TRing.mk A B C D) _  (hS3.inn0 [] rfl) (gb_inv hc hg1)) (by rintro _ _ ⟨rfl, h⟩; exact ⟨rfl, hS3.out00 h⟩)))) ?_
 rintro w_2 hS4
 refine sQ 10 (Y_and (b := (decide (0 < exp1))) (z := r_1) rfl rfl rfl rfl) (rw_nil ?_)
 refine cw_cond (b := ((decide (0 < exp1)) && r_1)) rfl (fun hb1 => ?_) (fun hb1 => ?_)
 ·skip
  have hF2 := ct hb hb1
  refine cw_skip (cw_block (cw_seq (cw_region ?_)))
  refine sQ 11 (Y_loadA (B := aD b) (i := 0) (cs := [vi A, vi B, vi C, vi D]) (vs := [vi A, vi B, vi C, vi D]) k_ag_61 k_sz_61_4 rfl (hf.get 2 1 rfl) (hS4.cf (i := 0) rfl) rfl rfl) ?_
  obtain ⟨r_2, hc1, hF2⟩ := bind_inv hF2
  refine sc 12 rfl rfl (Yc_func (g := 167) (vs := [.agg #[vi A, vi B, vi C, vi D]]) k_call_167 rfl (mc rfl mn) (c_spec_l1Half (TRing.mk A B C D) _  (hS4.inn0 [] rfl) hc1)) ?_
  rintro _ w_3 ⟨rfl, hd⟩
  have hS5 := hS4.out00 hd
  refine s0 (Ys_store (i := 0) (s := 4) (B := aD b) (T' := 61) (v := gR_ r_2) (vs := kR_ r_2) (k := 0) (cs' := kR_ r_2) hS5 k_sz_61_4 rfl (hf.get 2 1 rfl) rfl rfl rfl rfl rfl (lB rfl) rfl rfl) ?_
  rintro _ w_4 ⟨rfl, hS6⟩
  refine rw_nil (cw_region ?_)
  refine sQ 13 (Y_move (v := vi exp1) rfl (hf.get 1 0 rfl)) ?_
  refine sQ 14 (Y_sub (k := .i64) (a := exp1) (b := 1) rfl rfl rfl) ?_
  refine sQ 1 (Y_assign (v := vi (i64.wrap (exp1 - 1))) rfl rfl) (rw_nil ?_)
  obtain rfl := some_inj hF2
  exact ⟨k_1, Nat.lt_succ_self _, (i64.wrap (exp1 - 1)), r_2.A, r_2.B, r_2.C, r_2.D, (FF.cons rfl (FF.cons (hf.get 2 1 rfl) (FF.cons (hf.get 4 2 rfl) FF.nil))), (hS6.sel [0, 1] rfl rfl), hL1⟩
 ·skip
  have hF3 := cf' hb hb1
  refine cw_exit rfl ?_
  obtain rfl := some_inj hF3
  obtain rfl := some_inj hL1
  refine cw_seq (cw_region ?_)
  refine sQ 15 (Y_loadA (B := aD b) (i := 0) (cs := [vi A, vi B, vi C, vi D]) (vs := [vi A, vi B, vi C, vi D]) k_ag_61 k_sz_61_4 rfl (hf.get 2 1 rfl) (hS4.cf (i := 0) rfl) rfl rfl) ?_
  refine sQ 16 (Y_move (v := vi exp1) rfl (hf.get 1 0 rfl)) ?_
  refine sQ 17 (Y_buildS (zs := kZ_) (vs := [(0, .agg #[vi A, vi B, vi C, vi D]), (1, vi exp1)]) (cs := [vi A, vi B, vi C, vi D, vi exp1]) k_pl_63 k_zero_63 rfl (mpc rfl (mpc rfl mpn)) rfl) ?_
  refine s0 (Ys_store (i := 1) (s := 5) (B := aD b1) (T' := 63) (v := .agg #[vi A, vi B, vi C, vi D, vi exp1]) (vs := [vi A, vi B, vi C, vi D, vi exp1]) (k := 0) (cs' := [vi A, vi B, vi C, vi D, vi exp1]) hS4 k_sz_63_5 rfl (hf.get 4 2 rfl) rfl rfl rfl rfl rfl (lB rfl) rfl rfl) ?_
  rintro _ w_5 ⟨rfl, hS7⟩
  refine rw_nil (cw_ret ?_)
  obtain rfl := some_inj hF1
  exact ret1 Tryz.results134 (v1 := .agg #[vi A, vi B, vi C, vi D, vi exp1]) (resAt_cellA (B := aD b1) (i := 0) (cs := [vi A, vi B, vi C, vi D, vi exp1]) (vs := [vi A, vi B, vi C, vi D, vi exp1]) (hf.get 4 2 rfl) k_ag_63 k_sz_63_5 (hS7.cf (i := 1) rfl) rfl rfl) ⟨rfl, (hS7.sN [])⟩

theorem c_spec_l1Add (x : TRing) (y : TRing)  (w0 : World)  (hS : ST w0 [] w0 [] []) {r_ : TRing} (hF : F_spec_l1Add x y = some r_) :
  CV Tryz.prog 135 #[gR_ x, gR_ y] w0 (fun v w' => v = (gR_ r_) ∧ ST w0 [] w' [] []) := by
 unfold F_spec_l1Add at hF
 refine cv_of_cw 26 Tryz.func135 rfl Tryz.ntmps135 rfl ?_
 refine cw_seq (cw_region ?_)
 refine sS 2 (Ys_box (T := 61) (v := gR_ x) (cs := kR_ x) (m := 4) hS rfl rfl rfl rfl) ?_
 rintro _ w_ ⟨b, rfl, hS1⟩
 refine sS 3 (Ys_box (T := 61) (v := gR_ y) (cs := kR_ y) (m := 4) hS1 rfl rfl rfl rfl) ?_
 rintro _ w_1 ⟨b1, rfl, hS2⟩
 refine sS 4 (Ys_alloc (T := 61) (cs := [vi 0, vi 0, vi 0, vi 0]) (m := 4) hS2 k_zero_61 rfl rfl rfl) ?_
 rintro _ w_2 ⟨b2, rfl, hS3⟩
 refine rw_nil (cw_seq (cw_region ?_))
 refine sQ 5 (Y_fieldAddr (B := aD b) (i := 0) (s := 0) k_fd_61_0_0_3 k_sz_3_1 rfl rfl) ?_
 refine sQ 6 (Y_load1 (B := aD b) (i := 0) (cs := kR_ x) (v := vi x.A) k_sc_3 rfl rfl (hS3.cf (i := 0) rfl) rfl) ?_
 refine sQ 7 (Y_fieldAddr (B := aD b1) (i := 0) (s := 0) k_fd_61_0_0_3 k_sz_3_1 rfl rfl) ?_
 refine sQ 8 (Y_load1 (B := aD b1) (i := 0) (cs := kR_ y) (v := vi y.A) k_sc_3 rfl rfl (hS3.cf (i := 1) rfl) rfl) ?_
 refine sQ 9 (Y_add (k := .i64) (a := x.A) (b := y.A) rfl rfl rfl) ?_
 refine sQ 10 (Y_fieldAddr (B := aD b) (i := 0) (s := 0) k_fd_61_1_1_3 k_sz_3_1 rfl rfl) ?_
 refine sQ 11 (Y_load1 (B := aD b) (i := 1) (cs := kR_ x) (v := vi x.B) k_sc_3 rfl rfl (hS3.cf (i := 0) rfl) rfl) ?_
 refine sQ 12 (Y_fieldAddr (B := aD b1) (i := 0) (s := 0) k_fd_61_1_1_3 k_sz_3_1 rfl rfl) ?_
 refine sQ 13 (Y_load1 (B := aD b1) (i := 1) (cs := kR_ y) (v := vi y.B) k_sc_3 rfl rfl (hS3.cf (i := 1) rfl) rfl) ?_
 refine sQ 14 (Y_add (k := .i64) (a := x.B) (b := y.B) rfl rfl rfl) ?_
 refine sQ 15 (Y_fieldAddr (B := aD b) (i := 0) (s := 0) k_fd_61_2_2_3 k_sz_3_1 rfl rfl) ?_
 refine sQ 16 (Y_load1 (B := aD b) (i := 2) (cs := kR_ x) (v := vi x.C) k_sc_3 rfl rfl (hS3.cf (i := 0) rfl) rfl) ?_
 refine sQ 17 (Y_fieldAddr (B := aD b1) (i := 0) (s := 0) k_fd_61_2_2_3 k_sz_3_1 rfl rfl) ?_
 refine sQ 18 (Y_load1 (B := aD b1) (i := 2) (cs := kR_ y) (v := vi y.C) k_sc_3 rfl rfl (hS3.cf (i := 1) rfl) rfl) ?_
 refine sQ 19 (Y_add (k := .i64) (a := x.C) (b := y.C) rfl rfl rfl) ?_
 refine sQ 20 (Y_fieldAddr (B := aD b) (i := 0) (s := 0) k_fd_61_3_3_3 k_sz_3_1 rfl rfl) ?_
 refine sQ 21 (Y_load1 (B := aD b) (i := 3) (cs := kR_ x) (v := vi x.D) k_sc_3 rfl rfl (hS3.cf (i := 0) rfl) rfl) ?_
 refine sQ 22 (Y_fieldAddr (B := aD b1) (i := 0) (s := 0) k_fd_61_3_3_3 k_sz_3_1 rfl rfl) ?_
 refine sQ 23 (Y_load1 (B := aD b1) (i := 3) (cs := kR_ y) (v := vi y.D) k_sc_3 rfl rfl (hS3.cf (i := 1) rfl) rfl) ?_
 refine sQ 24 (Y_add (k := .i64) (a := x.D) (b := y.D) rfl rfl rfl) ?_
 refine sQ 25 (Y_buildS (zs := [vi 0, vi 0, vi 0, vi 0]) (vs := [(0, vi (i64.wrap (x.A + y.A))), (1, vi (i64.wrap (x.B + y.B))), (2, vi (i64.wrap (x.C + y.C))), (3, vi (i64.wrap (x.D + y.D)))]) (cs := [vi (i64.wrap (x.A + y.A)), vi (i64.wrap (x.B + y.B)), vi (i64.wrap (x.C + y.C)), vi (i64.wrap (x.D + y.D))]) k_pl_61 k_zero_61 rfl (mpc rfl (mpc rfl (mpc rfl (mpc rfl mpn)))) rfl) ?_
 refine s0 (Ys_store (i := 2) (s := 4) (B := aD b2) (T' := 61) (v := .agg #[vi (i64.wrap (x.A + y.A)), vi (i64.wrap (x.B + y.B)), vi (i64.wrap (x.C + y.C)), vi (i64.wrap (x.D + y.D))]) (vs := [vi (i64.wrap (x.A + y.A)), vi (i64.wrap (x.B + y.B)), vi (i64.wrap (x.C + y.C)), vi (i64.wrap (x.D + y.D))]) (k := 0) (cs' := [vi (i64.wrap (x.A + y.A)), vi (i64.wrap (x.B + y.B)), vi (i64.wrap (x.C + y.C)), vi (i64.wrap (x.D + y.D))]) hS3 k_sz_61_4 rfl rfl rfl rfl rfl rfl rfl (lB rfl) rfl rfl) ?_
 rintro _ w_3 ⟨rfl, hS4⟩
 refine rw_nil (cw_ret ?_)
 obtain rfl := some_inj hF
 exact ret1 Tryz.results135 (v1 := .agg #[vi (i64.wrap (x.A + y.A)), vi (i64.wrap (x.B + y.B)), vi (i64.wrap (x.C + y.C)), vi (i64.wrap (x.D + y.D))]) (resAt_cellA (B := aD b2) (i := 0) (cs := [vi (i64.wrap (x.A + y.A)), vi (i64.wrap (x.B + y.B)), vi (i64.wrap (x.C + y.C)), vi (i64.wrap (x.D + y.D))]) (vs := [vi (i64.wrap (x.A + y.A)), vi (i64.wrap (x.B + y.B)), vi (i64.wrap (x.C + y.C)), vi (i64.wrap (x.D + y.D))]) rfl k_ag_61 k_sz_61_4 (hS4.cf (i := 2) rfl) rfl rfl) ⟨rfl, (hS4.sN [])⟩

theorem c_spec_l2C_add (c : Tl2C) (x : TDyadic) (y : TDyadic) (B : Option Addr) (w0 : World)  (hS : ST w0 (bl [⟨B, 75, [.bool c.bad], 1⟩]) w0 [⟨B, 75, [.bool c.bad], 1⟩] []) {r_ : TDyadic} {m : Tl2C} (hF : F_spec_l2C_add c x y = some (r_, m)) :
  CV Tryz.prog 85 #[pt B 0, gD_ x, gD_ y] w0 (fun v w' => v = (gD_ r_) ∧ ST w0 (bl [⟨B, 75, [.bool c.bad], 1⟩]) w' [⟨B, 75, [.bool m.bad], 1⟩] []) := by
 unfold F_spec_l2C_add at hF
 refine cv_of_cw 45 Tryz.func85 rfl Tryz.ntmps85 rfl ?_
 refine cw_seq (cw_region ?_)
 refine sS 4 (Ys_box (T := 63) (v := gD_ x) (cs := kD_ x) (m := 5) hS rfl rfl rfl rfl) ?_
 rintro _ w_ ⟨b, rfl, hS1⟩
 refine sS 5 (Ys_box (T := 63) (v := gD_ y) (cs := kD_ y) (m := 5) hS1 rfl rfl rfl rfl) ?_
 rintro _ w_1 ⟨b1, rfl, hS2⟩
 refine sS 6 (Ys_alloc (T := 63) (cs := kZ_) (m := 5) hS2 k_zero_63 rfl rfl rfl) ?_
 rintro _ w_2 ⟨b2, rfl, hS3⟩
 refine rw_nil (cw_seq ?_)
 obtain ⟨z, hz, hF1⟩ := bind_inv hF
 refine cw_block ?_
 refine cw_loop (fun k f w => ∃ (bad : Bool) (A : Int) (B1 : Int) (C : Int) (D : Int) (Exp : Int), FF f [(0, pt B 0), (4, pt (aD b) 0), (5, pt (aD b1) 0), (6, pt (aD b2) 0)] ∧ ST w0 (bl [⟨B, 75, [.bool c.bad], 1⟩]) w [⟨B, 75, [.bool bad], 1⟩, ⟨aD b, 63, [vi A, vi B1, vi C, vi D, vi Exp], 5⟩, ⟨aD b1, 63, kD_ y, 5⟩, ⟨aD b2, 63, kZ_, 5⟩] [] ∧ whX (F_spec_l2C_add_l1 y) k (bad, A, B1, C, D, Exp) = some z) fuel ⟨c.bad, x.Num.A, x.Num.B, x.Num.C, x.Num.D, x.Exp, (FF.cons rfl (FF.cons rfl (FF.cons rfl (FF.cons rfl FF.nil)))), (hS3.sel [0, 1, 2, 3] rfl rfl), hz⟩ ?_
 rintro k_ f w ⟨bad, A, B1, C, D, Exp, hf, hS4, hL⟩
 obtain ⟨k_1, y1, rfl, hb, hL1⟩ := whX_go hL
 unfold F_spec_l2C_add_l1 at hb
 refine cw_seq (cw_seq (cw_region ?_))
 refine sQ 7 (Y_fieldAddr (B := aD b) (i := 0) (s := 0) k_fd_63_1_4_3 k_sz_3_1 rfl (hf.get 4 1 rfl)) ?_
 refine sQ 8 (Y_load1 (B := aD b) (i := 4) (cs := [vi A, vi B1, vi C, vi D, vi Exp]) (v := vi Exp) k_sc_3 rfl rfl (hS4.cf (i := 1) rfl) rfl) ?_
 refine sQ 9 (Y_fieldAddr (B := aD b1) (i := 0) (s := 0) k_fd_63_1_4_3 k_sz_3_1 rfl (hf.get 5 2 rfl)) ?_
 refine sQ 10 (Y_load1 (B := aD b1) (i := 4) (cs := kD_ y) (v := vi y.Exp) k_sc_3 rfl rfl (hS4.cf (i := 2) rfl) rfl) ?_
 refine sQ 11 (Y_lt (k := .i64) (a := Exp) (b := y.Exp) rfl rfl rfl) (rw_nil ?_)
 refine cw_cond (b := (decide (Exp < y.Exp))) rfl (fun hb1 => ?_) (fun hb1 => ?_)
 ·skip
  have hF2 := ct hb hb1
  refine cw_skip (cw_block ?_)
  obtain ⟨r_1, hc, hF2⟩ := bind_inv hF2
  obtain ⟨⟨r_2, m1⟩, hc1, hF2⟩ := bind_inv hF2
  refine cw_mid (fun f w => FF f [(0, pt B 0), (4, pt (aD b) 0), (5, pt (aD b1) 0), (6, pt (aD b2) 0)] ∧ ST w0 (bl [⟨B, 75, [.bool c.bad], 1⟩]) w [⟨B, 75, [.bool m1.bad], 1⟩, ⟨aD b, 63, [vi r_2.A, vi r_2.B, vi r_2.C, vi r_2.D, vi (i64.wrap (Exp + 1))], 5⟩, ⟨aD b1, 63, kD_ y, 5⟩, ⟨aD b2, 63, kZ_, 5⟩] []) ?_ ?_
  ·skip
   refine ra_start (hS4.se [2, 3]).fn (by kernel_rfl) ?_
   have hS8 := hS4.drew
   refine rq 0 12 (v := pt B 0) rfl (hS8.se [2, 3]) (fun w' hw' => (Y_move (v := pt B 0) rfl (hf.get 0 0 rfl))) ?_
   refine rq 1 13 (v := pt (aD b) 0) rfl (hS8.se [2, 3]) (fun w' hw' => (Y_fieldAddr (B := aD b) (i := 0) (s := 3) k_fd_63_0_0_61 k_sz_61_4 rfl (hf.get 4 1 rfl))) ?_
   refine rq 5 17 (v := pt (aD b) 4) rfl (hS8.se [2, 3]) (fun w' hw' => (Y_fieldAddr (B := aD b) (i := 0) (s := 0) k_fd_63_1_4_3 k_sz_3_1 rfl (hf.get 4 1 rfl))) ?_
   refine rA [2, 6] ?_
   refine ra_y 14 (i := 2) (v := .agg #[vi A, vi B1, vi C, vi D]) rfl rfl rfl (Y_loadA (B := aD b) (i := 0) (cs := [vi A, vi B1, vi C, vi D, vi Exp]) (vs := [vi A, vi B1, vi C, vi D]) k_ag_61 k_sz_61_4 rfl rfl (hS8.cf (i := 1) rfl) rfl rfl) (hS8.se [2, 3]) ?_ ?_
   ·skip
    refine rA [3, 6] ?_
    refine ra_c 15 (i := 3) rfl rfl rfl (Yc_func (g := 133) (vs := [.agg #[vi A, vi B1, vi C, vi D]]) k_call_133 rfl (mc rfl mn) (c_spec_l1Root (TRing.mk A B1 C D) _  (hS8.inn0 [] rfl) hc)) ?_ ?_
    ·rintro _ w_3 ⟨rfl, hd⟩
     have hS9 := hS8.out00 hd
     refine ⟨(hS9.se [2, 3]), ?_⟩
     refine rA [4, 6] ?_
     refine ra_c 16 (i := 4) rfl rfl rfl (Yc_func (g := 132) (vs := [pt B 0, gR_ r_1]) k_call_132 rfl (mc rfl (mc rfl mn)) (c_spec_l2C_ring (Tl2C.mk bad) r_1 B _  (hS9.inn [true, false, false, false] rfl [] rfl) hc1)) ?_ ?_
     ·rintro _ w_4 ⟨rfl, hd1⟩
      have hS10 := hS9.out [true, false, false, false] rfl hd1
      refine ⟨(hS10.se [1, 2]), ?_⟩
      refine rA [6] ?_
      refine ra_y 18 (i := 6) (v := vi Exp) rfl rfl rfl (Y_load1 (B := aD b) (i := 4) (cs := [vi A, vi B1, vi C, vi D, vi Exp]) (v := vi Exp) k_sc_3 rfl rfl (hS10.cf (i := 0) rfl) rfl) (hS10.se [1, 2]) ?_ ?_
      ·skip
       refine rq 7 19 (v := vi (i64.wrap (Exp + 1))) rfl (hS10.se [1, 2]) (fun w' hw' => (Y_add (k := .i64) (a := Exp) (b := 1) rfl rfl rfl)) ?_
       refine rq 8 20 (v := .agg #[vi r_2.A, vi r_2.B, vi r_2.C, vi r_2.D, vi (i64.wrap (Exp + 1))]) rfl (hS10.se [1, 2]) (fun w' hw' => (Y_buildS (zs := kZ_) (vs := [(0, gR_ r_2), (1, vi (i64.wrap (Exp + 1)))]) (cs := [vi r_2.A, vi r_2.B, vi r_2.C, vi r_2.D, vi (i64.wrap (Exp + 1))]) k_pl_63 k_zero_63 rfl (mpc rfl (mpc rfl mpn)) rfl)) ?_
       refine rA [9] ?_
       refine ra_s0 (i := 9) rfl rfl rfl (Ys_store (i := 0) (s := 5) (B := aD b) (T' := 63) (v := .agg #[vi r_2.A, vi r_2.B, vi r_2.C, vi r_2.D, vi (i64.wrap (Exp + 1))]) (vs := [vi r_2.A, vi r_2.B, vi r_2.C, vi r_2.D, vi (i64.wrap (Exp + 1))]) (k := 0) (cs' := [vi r_2.A, vi r_2.B, vi r_2.C, vi r_2.D, vi (i64.wrap (Exp + 1))]) hS10 k_sz_63_5 rfl (hf.get 4 1 rfl) rfl rfl rfl rfl rfl (lB rfl) rfl rfl) ?_ ?_
       ·rintro _ w_5 ⟨rfl, hS11⟩
        refine ⟨(hS11.se [1, 2]), ?_⟩
        refine ra_done (by kernel_rfl) ?_
        exact ⟨(FF.cons (hf.get 0 0 rfl) (FF.cons (hf.get 4 1 rfl) (FF.cons (hf.get 5 2 rfl) (FF.cons (hf.get 6 3 rfl) FF.nil)))), (hS11.sel [3, 0, 1, 2] rfl rfl)⟩
       exact allR_nil
      exact allR_nil
     refine ra_y 18 (i := 6) (v := vi Exp) rfl rfl rfl (Y_load1 (B := aD b) (i := 4) (cs := [vi A, vi B1, vi C, vi D, vi Exp]) (v := vi Exp) k_sc_3 rfl rfl (hS9.cf (i := 1) rfl) rfl) (hS9.se [2, 3]) ?_ ?_
     ·skip
      refine rq 7 19 (v := vi (i64.wrap (Exp + 1))) rfl (hS9.se [2, 3]) (fun w' hw' => (Y_add (k := .i64) (a := Exp) (b := 1) rfl rfl rfl)) ?_
      refine rA [4] ?_
      refine ra_c 16 (i := 4) rfl rfl rfl (Yc_func (g := 132) (vs := [pt B 0, gR_ r_1]) k_call_132 rfl (mc rfl (mc rfl mn)) (c_spec_l2C_ring (Tl2C.mk bad) r_1 B _  (hS9.inn [true, false, false, false] rfl [] rfl) hc1)) ?_ ?_
      ·rintro _ w_6 ⟨rfl, hd2⟩
       have hS12 := hS9.out [true, false, false, false] rfl hd2
       refine ⟨(hS12.se [1, 2]), ?_⟩
       refine rq 8 20 (v := .agg #[vi r_2.A, vi r_2.B, vi r_2.C, vi r_2.D, vi (i64.wrap (Exp + 1))]) rfl (hS12.se [1, 2]) (fun w' hw' => (Y_buildS (zs := kZ_) (vs := [(0, gR_ r_2), (1, vi (i64.wrap (Exp + 1)))]) (cs := [vi r_2.A, vi r_2.B, vi r_2.C, vi r_2.D, vi (i64.wrap (Exp + 1))]) k_pl_63 k_zero_63 rfl (mpc rfl (mpc rfl mpn)) rfl)) ?_
       refine rA [9] ?_
       refine ra_s0 (i := 9) rfl rfl rfl (Ys_store (i := 0) (s := 5) (B := aD b) (T' := 63) (v := .agg #[vi r_2.A, vi r_2.B, vi r_2.C, vi r_2.D, vi (i64.wrap (Exp + 1))]) (vs := [vi r_2.A, vi r_2.B, vi r_2.C, vi r_2.D, vi (i64.wrap (Exp + 1))]) (k := 0) (cs' := [vi r_2.A, vi r_2.B, vi r_2.C, vi r_2.D, vi (i64.wrap (Exp + 1))]) hS12 k_sz_63_5 rfl (hf.get 4 1 rfl) rfl rfl rfl rfl rfl (lB rfl) rfl rfl) ?_ ?_
       ·rintro _ w_7 ⟨rfl, hS13⟩
        refine ⟨(hS13.se [1, 2]), ?_⟩
        refine ra_done (by kernel_rfl) ?_
        exact ⟨(FF.cons (hf.get 0 0 rfl) (FF.cons (hf.get 4 1 rfl) (FF.cons (hf.get 5 2 rfl) (FF.cons (hf.get 6 3 rfl) FF.nil)))), (hS13.sel [3, 0, 1, 2] rfl rfl)⟩
       exact allR_nil
      exact allR_nil
     exact allR_nil
    refine ra_y 18 (i := 6) (v := vi Exp) rfl rfl rfl (Y_load1 (B := aD b) (i := 4) (cs := [vi A, vi B1, vi C, vi D, vi Exp]) (v := vi Exp) k_sc_3 rfl rfl (hS8.cf (i := 1) rfl) rfl) (hS8.se [2, 3]) ?_ ?_
    ·skip
     refine rq 7 19 (v := vi (i64.wrap (Exp + 1))) rfl (hS8.se [2, 3]) (fun w' hw' => (Y_add (k := .i64) (a := Exp) (b := 1) rfl rfl rfl)) ?_
     refine rA [3] ?_
     refine ra_c 15 (i := 3) rfl rfl rfl (Yc_func (g := 133) (vs := [.agg #[vi A, vi B1, vi C, vi D]]) k_call_133 rfl (mc rfl mn) (c_spec_l1Root (TRing.mk A B1 C D) _  (hS8.inn0 [] rfl) hc)) ?_ ?_
     ·rintro _ w_8 ⟨rfl, hd3⟩
      have hS14 := hS8.out00 hd3
      refine ⟨(hS14.se [2, 3]), ?_⟩
      refine rA [4] ?_
      refine ra_c 16 (i := 4) rfl rfl rfl (Yc_func (g := 132) (vs := [pt B 0, gR_ r_1]) k_call_132 rfl (mc rfl (mc rfl mn)) (c_spec_l2C_ring (Tl2C.mk bad) r_1 B _  (hS14.inn [true, false, false, false] rfl [] rfl) hc1)) ?_ ?_
      ·rintro _ w_9 ⟨rfl, hd4⟩
       have hS15 := hS14.out [true, false, false, false] rfl hd4
       refine ⟨(hS15.se [1, 2]), ?_⟩
       refine rq 8 20 (v := .agg #[vi r_2.A, vi r_2.B, vi r_2.C, vi r_2.D, vi (i64.wrap (Exp + 1))]) rfl (hS15.se [1, 2]) (fun w' hw' => (Y_buildS (zs := kZ_) (vs := [(0, gR_ r_2), (1, vi (i64.wrap (Exp + 1)))]) (cs := [vi r_2.A, vi r_2.B, vi r_2.C, vi r_2.D, vi (i64.wrap (Exp + 1))]) k_pl_63 k_zero_63 rfl (mpc rfl (mpc rfl mpn)) rfl)) ?_
       refine rA [9] ?_
       refine ra_s0 (i := 9) rfl rfl rfl (Ys_store (i := 0) (s := 5) (B := aD b) (T' := 63) (v := .agg #[vi r_2.A, vi r_2.B, vi r_2.C, vi r_2.D, vi (i64.wrap (Exp + 1))]) (vs := [vi r_2.A, vi r_2.B, vi r_2.C, vi r_2.D, vi (i64.wrap (Exp + 1))]) (k := 0) (cs' := [vi r_2.A, vi r_2.B, vi r_2.C, vi r_2.D, vi (i64.wrap (Exp + 1))]) hS15 k_sz_63_5 rfl (hf.get 4 1 rfl) rfl rfl rfl rfl rfl (lB rfl) rfl rfl) ?_ ?_
       ·rintro _ w_10 ⟨rfl, hS16⟩
        refine ⟨(hS16.se [1, 2]), ?_⟩
        refine ra_done (by kernel_rfl) ?_
        exact ⟨(FF.cons (hf.get 0 0 rfl) (FF.cons (hf.get 4 1 rfl) (FF.cons (hf.get 5 2 rfl) (FF.cons (hf.get 6 3 rfl) FF.nil)))), (hS16.sel [3, 0, 1, 2] rfl rfl)⟩
       exact allR_nil
      exact allR_nil
     exact allR_nil
    exact allR_nil
   refine ra_y 18 (i := 6) (v := vi Exp) rfl rfl rfl (Y_load1 (B := aD b) (i := 4) (cs := [vi A, vi B1, vi C, vi D, vi Exp]) (v := vi Exp) k_sc_3 rfl rfl (hS8.cf (i := 1) rfl) rfl) (hS8.se [2, 3]) ?_ ?_
   ·skip
    refine rq 7 19 (v := vi (i64.wrap (Exp + 1))) rfl (hS8.se [2, 3]) (fun w' hw' => (Y_add (k := .i64) (a := Exp) (b := 1) rfl rfl rfl)) ?_
    refine rA [2] ?_
    refine ra_y 14 (i := 2) (v := .agg #[vi A, vi B1, vi C, vi D]) rfl rfl rfl (Y_loadA (B := aD b) (i := 0) (cs := [vi A, vi B1, vi C, vi D, vi Exp]) (vs := [vi A, vi B1, vi C, vi D]) k_ag_61 k_sz_61_4 rfl rfl (hS8.cf (i := 1) rfl) rfl rfl) (hS8.se [2, 3]) ?_ ?_
    ·skip
     refine rA [3] ?_
     refine ra_c 15 (i := 3) rfl rfl rfl (Yc_func (g := 133) (vs := [.agg #[vi A, vi B1, vi C, vi D]]) k_call_133 rfl (mc rfl mn) (c_spec_l1Root (TRing.mk A B1 C D) _  (hS8.inn0 [] rfl) hc)) ?_ ?_
     ·rintro _ w_11 ⟨rfl, hd5⟩
      have hS17 := hS8.out00 hd5
      refine ⟨(hS17.se [2, 3]), ?_⟩
      refine rA [4] ?_
      refine ra_c 16 (i := 4) rfl rfl rfl (Yc_func (g := 132) (vs := [pt B 0, gR_ r_1]) k_call_132 rfl (mc rfl (mc rfl mn)) (c_spec_l2C_ring (Tl2C.mk bad) r_1 B _  (hS17.inn [true, false, false, false] rfl [] rfl) hc1)) ?_ ?_
      ·rintro _ w_12 ⟨rfl, hd6⟩
       have hS18 := hS17.out [true, false, false, false] rfl hd6
       refine ⟨(hS18.se [1, 2]), ?_⟩
       refine rq 8 20 (v := .agg #[vi r_2.A, vi r_2.B, vi r_2.C, vi r_2.D, vi (i64.wrap (Exp + 1))]) rfl (hS18.se [1, 2]) (fun w' hw' => (Y_buildS (zs := kZ_) (vs := [(0, gR_ r_2), (1, vi (i64.wrap (Exp + 1)))]) (cs := [vi r_2.A, vi r_2.B, vi r_2.C, vi r_2.D, vi (i64.wrap (Exp + 1))]) k_pl_63 k_zero_63 rfl (mpc rfl (mpc rfl mpn)) rfl)) ?_
       refine rA [9] ?_
       refine ra_s0 (i := 9) rfl rfl rfl (Ys_store (i := 0) (s := 5) (B := aD b) (T' := 63) (v := .agg #[vi r_2.A, vi r_2.B, vi r_2.C, vi r_2.D, vi (i64.wrap (Exp + 1))]) (vs := [vi r_2.A, vi r_2.B, vi r_2.C, vi r_2.D, vi (i64.wrap (Exp + 1))]) (k := 0) (cs' := [vi r_2.A, vi r_2.B, vi r_2.C, vi r_2.D, vi (i64.wrap (Exp + 1))]) hS18 k_sz_63_5 rfl (hf.get 4 1 rfl) rfl rfl rfl rfl rfl (lB rfl) rfl rfl) ?_ ?_
       ·rintro _ w_13 ⟨rfl, hS19⟩
        refine ⟨(hS19.se [1, 2]), ?_⟩
        refine ra_done (by kernel_rfl) ?_
        exact ⟨(FF.cons (hf.get 0 0 rfl) (FF.cons (hf.get 4 1 rfl) (FF.cons (hf.get 5 2 rfl) (FF.cons (hf.get 6 3 rfl) FF.nil)))), (hS19.sel [3, 0, 1, 2] rfl rfl)⟩
       exact allR_nil
      exact allR_nil
     exact allR_nil
    exact allR_nil
   exact allR_nil
  rintro f w ⟨hf1, hS7⟩
  obtain rfl := some_inj hF2
  exact ⟨k_1, Nat.lt_succ_self _, m1.bad, r_2.A, r_2.B, r_2.C, r_2.D, (i64.wrap (Exp + 1)), (FF.cons (hf1.get 0 0 rfl) (FF.cons (hf1.get 4 1 rfl) (FF.cons (hf1.get 5 2 rfl) (FF.cons (hf1.get 6 3 rfl) FF.nil)))), (hS7.sel [0, 1, 2, 3] rfl rfl), hL1⟩
 ·skip
  have hF3 := cf' hb hb1
  refine cw_exit rfl ?_
  obtain rfl := some_inj hF3
  obtain rfl := some_inj hL1
  refine cw_seq ?_
  obtain ⟨z1, hz1, hF4⟩ := bind_inv hF1
  refine cw_block ?_
  refine cw_loop (fun k f w => ∃ (bad1 : Bool) (A1 : Int) (B2 : Int) (C1 : Int) (D1 : Int) (Exp1 : Int), FF f [(0, pt B 0), (4, pt (aD b) 0), (5, pt (aD b1) 0), (6, pt (aD b2) 0)] ∧ ST w0 (bl [⟨B, 75, [.bool c.bad], 1⟩]) w [⟨B, 75, [.bool bad1], 1⟩, ⟨aD b, 63, [vi A, vi B1, vi C, vi D, vi Exp], 5⟩, ⟨aD b1, 63, [vi A1, vi B2, vi C1, vi D1, vi Exp1], 5⟩, ⟨aD b2, 63, kZ_, 5⟩] [] ∧ whX (F_spec_l2C_add_l2 Exp bad A C D) k (bad1, A1, B2, C1, D1, Exp1) = some z1) fuel ⟨bad, y.Num.A, y.Num.B, y.Num.C, y.Num.D, y.Exp, (FF.cons (hf.get 0 0 rfl) (FF.cons (hf.get 4 1 rfl) (FF.cons (hf.get 5 2 rfl) (FF.cons (hf.get 6 3 rfl) FF.nil)))), (hS4.sel [0, 1, 2, 3] rfl rfl), hz1⟩ ?_
  rintro k_2 f w ⟨bad1, A1, B2, C1, D1, Exp1, hf2, hS20, hL2⟩
  obtain ⟨k_3, y2, rfl, hb2, hL3⟩ := whX_go hL2
  unfold F_spec_l2C_add_l2 at hb2
  refine cw_seq (cw_seq (cw_region ?_))
  refine sQ 21 (Y_fieldAddr (B := aD b1) (i := 0) (s := 0) k_fd_63_1_4_3 k_sz_3_1 rfl (hf2.get 5 2 rfl)) ?_
  refine sQ 22 (Y_load1 (B := aD b1) (i := 4) (cs := [vi A1, vi B2, vi C1, vi D1, vi Exp1]) (v := vi Exp1) k_sc_3 rfl rfl (hS20.cf (i := 2) rfl) rfl) ?_
  refine sQ 23 (Y_fieldAddr (B := aD b) (i := 0) (s := 0) k_fd_63_1_4_3 k_sz_3_1 rfl (hf2.get 4 1 rfl)) ?_
  refine sQ 24 (Y_load1 (B := aD b) (i := 4) (cs := [vi A, vi B1, vi C, vi D, vi Exp]) (v := vi Exp) k_sc_3 rfl rfl (hS20.cf (i := 1) rfl) rfl) ?_
  refine sQ 25 (Y_lt (k := .i64) (a := Exp1) (b := Exp) rfl rfl rfl) (rw_nil ?_)
  refine cw_cond (b := (decide (Exp1 < Exp))) rfl (fun hb3 => ?_) (fun hb3 => ?_)
  ·skip
   have hF5 := ct hb2 hb3
   refine cw_skip (cw_block ?_)
   obtain ⟨r_3, hc2, hF5⟩ := bind_inv hF5
   obtain ⟨⟨r_4, m2⟩, hc3, hF5⟩ := bind_inv hF5
   refine cw_mid (fun f w => FF f [(0, pt B 0), (4, pt (aD b) 0), (5, pt (aD b1) 0), (6, pt (aD b2) 0)] ∧ ST w0 (bl [⟨B, 75, [.bool c.bad], 1⟩]) w [⟨B, 75, [.bool m2.bad], 1⟩, ⟨aD b, 63, [vi A, vi B1, vi C, vi D, vi Exp], 5⟩, ⟨aD b1, 63, [vi r_4.A, vi r_4.B, vi r_4.C, vi r_4.D, vi (i64.wrap (Exp1 + 1))], 5⟩, ⟨aD b2, 63, kZ_, 5⟩] []) ?_ ?_
   ·skip
    refine ra_start (hS20.se [1, 3]).fn (by kernel_rfl) ?_
    have hS24 := hS20.drew
    refine rq 0 26 (v := pt B 0) rfl (hS24.se [1, 3]) (fun w' hw' => (Y_move (v := pt B 0) rfl (hf2.get 0 0 rfl))) ?_
    refine rq 1 27 (v := pt (aD b1) 0) rfl (hS24.se [1, 3]) (fun w' hw' => (Y_fieldAddr (B := aD b1) (i := 0) (s := 3) k_fd_63_0_0_61 k_sz_61_4 rfl (hf2.get 5 2 rfl))) ?_
    refine rq 5 31 (v := pt (aD b1) 4) rfl (hS24.se [1, 3]) (fun w' hw' => (Y_fieldAddr (B := aD b1) (i := 0) (s := 0) k_fd_63_1_4_3 k_sz_3_1 rfl (hf2.get 5 2 rfl))) ?_
    refine rA [2, 6] ?_
    refine ra_y 28 (i := 2) (v := .agg #[vi A1, vi B2, vi C1, vi D1]) rfl rfl rfl (Y_loadA (B := aD b1) (i := 0) (cs := [vi A1, vi B2, vi C1, vi D1, vi Exp1]) (vs := [vi A1, vi B2, vi C1, vi D1]) k_ag_61 k_sz_61_4 rfl rfl (hS24.cf (i := 2) rfl) rfl rfl) (hS24.se [1, 3]) ?_ ?_
    ·skip
     refine rA [3, 6] ?_
     refine ra_c 29 (i := 3) rfl rfl rfl (Yc_func (g := 133) (vs := [.agg #[vi A1, vi B2, vi C1, vi D1]]) k_call_133 rfl (mc rfl mn) (c_spec_l1Root (TRing.mk A1 B2 C1 D1) _  (hS24.inn0 [] rfl) hc2)) ?_ ?_
     ·rintro _ w_14 ⟨rfl, hd7⟩
      have hS25 := hS24.out00 hd7
      refine ⟨(hS25.se [1, 3]), ?_⟩
      refine rA [4, 6] ?_
      refine ra_c 30 (i := 4) rfl rfl rfl (Yc_func (g := 132) (vs := [pt B 0, gR_ r_3]) k_call_132 rfl (mc rfl (mc rfl mn)) (c_spec_l2C_ring (Tl2C.mk bad1) r_3 B _  (hS25.inn [true, false, false, false] rfl [] rfl) hc3)) ?_ ?_
      ·rintro _ w_15 ⟨rfl, hd8⟩
       have hS26 := hS25.out [true, false, false, false] rfl hd8
       refine ⟨(hS26.se [0, 2]), ?_⟩
       refine rA [6] ?_
       refine ra_y 32 (i := 6) (v := vi Exp1) rfl rfl rfl (Y_load1 (B := aD b1) (i := 4) (cs := [vi A1, vi B2, vi C1, vi D1, vi Exp1]) (v := vi Exp1) k_sc_3 rfl rfl (hS26.cf (i := 1) rfl) rfl) (hS26.se [0, 2]) ?_ ?_
       ·skip
        refine rq 7 33 (v := vi (i64.wrap (Exp1 + 1))) rfl (hS26.se [0, 2]) (fun w' hw' => (Y_add (k := .i64) (a := Exp1) (b := 1) rfl rfl rfl)) ?_
        refine rq 8 34 (v := .agg #[vi r_4.A, vi r_4.B, vi r_4.C, vi r_4.D, vi (i64.wrap (Exp1 + 1))]) rfl (hS26.se [0, 2]) (fun w' hw' => (Y_buildS (zs := kZ_) (vs := [(0, gR_ r_4), (1, vi (i64.wrap (Exp1 + 1)))]) (cs := [vi r_4.A, vi r_4.B, vi r_4.C, vi r_4.D, vi (i64.wrap (Exp1 + 1))]) k_pl_63 k_zero_63 rfl (mpc rfl (mpc rfl mpn)) rfl)) ?_
        refine rA [9] ?_
        refine ra_s0 (i := 9) rfl rfl rfl (Ys_store (i := 1) (s := 5) (B := aD b1) (T' := 63) (v := .agg #[vi r_4.A, vi r_4.B, vi r_4.C, vi r_4.D, vi (i64.wrap (Exp1 + 1))]) (vs := [vi r_4.A, vi r_4.B, vi r_4.C, vi r_4.D, vi (i64.wrap (Exp1 + 1))]) (k := 0) (cs' := [vi r_4.A, vi r_4.B, vi r_4.C, vi r_4.D, vi (i64.wrap (Exp1 + 1))]) hS26 k_sz_63_5 rfl (hf2.get 5 2 rfl) rfl rfl rfl rfl rfl (lB rfl) rfl rfl) ?_ ?_
        ·rintro _ w_16 ⟨rfl, hS27⟩
         refine ⟨(hS27.se [0, 2]), ?_⟩
         refine ra_done (by kernel_rfl) ?_
         exact ⟨(FF.cons (hf2.get 0 0 rfl) (FF.cons (hf2.get 4 1 rfl) (FF.cons (hf2.get 5 2 rfl) (FF.cons (hf2.get 6 3 rfl) FF.nil)))), (hS27.sel [3, 0, 1, 2] rfl rfl)⟩
        exact allR_nil
       exact allR_nil
      refine ra_y 32 (i := 6) (v := vi Exp1) rfl rfl rfl (Y_load1 (B := aD b1) (i := 4) (cs := [vi A1, vi B2, vi C1, vi D1, vi Exp1]) (v := vi Exp1) k_sc_3 rfl rfl (hS25.cf (i := 2) rfl) rfl) (hS25.se [1, 3]) ?_ ?_
      ·skip
       refine rq 7 33 (v := vi (i64.wrap (Exp1 + 1))) rfl (hS25.se [1, 3]) (fun w' hw' => (Y_add (k := .i64) (a := Exp1) (b := 1) rfl rfl rfl)) ?_
       refine rA [4] ?_
       refine ra_c 30 (i := 4) rfl rfl rfl (Yc_func (g := 132) (vs := [pt B 0, gR_ r_3]) k_call_132 rfl (mc rfl (mc rfl mn)) (c_spec_l2C_ring (Tl2C.mk bad1) r_3 B _  (hS25.inn [true, false, false, false] rfl [] rfl) hc3)) ?_ ?_
       ·rintro _ w_17 ⟨rfl, hd9⟩
        have hS28 := hS25.out [true, false, false, false] rfl hd9
        refine ⟨(hS28.se [0, 2]), ?_⟩
        refine rq 8 34 (v := .agg #[vi r_4.A, vi r_4.B, vi r_4.C, vi r_4.D, vi (i64.wrap (Exp1 + 1))]) rfl (hS28.se [0, 2]) (fun w' hw' => (Y_buildS (zs := kZ_) (vs := [(0, gR_ r_4), (1, vi (i64.wrap (Exp1 + 1)))]) (cs := [vi r_4.A, vi r_4.B, vi r_4.C, vi r_4.D, vi (i64.wrap (Exp1 + 1))]) k_pl_63 k_zero_63 rfl (mpc rfl (mpc rfl mpn)) rfl)) ?_
        refine rA [9] ?_
        refine ra_s0 (i := 9) rfl rfl rfl (Ys_store (i := 1) (s := 5) (B := aD b1) (T' := 63) (v := .agg #[vi r_4.A, vi r_4.B, vi r_4.C, vi r_4.D, vi (i64.wrap (Exp1 + 1))]) (vs := [vi r_4.A, vi r_4.B, vi r_4.C, vi r_4.D, vi (i64.wrap (Exp1 + 1))]) (k := 0) (cs' := [vi r_4.A, vi r_4.B, vi r_4.C, vi r_4.D, vi (i64.wrap (Exp1 + 1))]) hS28 k_sz_63_5 rfl (hf2.get 5 2 rfl) rfl rfl rfl rfl rfl (lB rfl) rfl rfl) ?_ ?_
        ·rintro _ w_18 ⟨rfl, hS29⟩
         refine ⟨(hS29.se [0, 2]), ?_⟩
         refine ra_done (by kernel_rfl) ?_
         exact ⟨(FF.cons (hf2.get 0 0 rfl) (FF.cons (hf2.get 4 1 rfl) (FF.cons (hf2.get 5 2 rfl) (FF.cons (hf2.get 6 3 rfl) FF.nil)))), (hS29.sel [3, 0, 1, 2] rfl rfl)⟩
        exact allR_nil
       exact allR_nil
      exact allR_nil
     refine ra_y 32 (i := 6) (v := vi Exp1) rfl rfl rfl (Y_load1 (B := aD b1) (i := 4) (cs := [vi A1, vi B2, vi C1, vi D1, vi Exp1]) (v := vi Exp1) k_sc_3 rfl rfl (hS24.cf (i := 2) rfl) rfl) (hS24.se [1, 3]) ?_ ?_
     ·skip
      refine rq 7 33 (v := vi (i64.wrap (Exp1 + 1))) rfl (hS24.se [1, 3]) (fun w' hw' => (Y_add (k := .i64) (a := Exp1) (b := 1) rfl rfl rfl)) ?_
      refine rA [3] ?_
      refine ra_c 29 (i := 3) rfl rfl rfl (Yc_func (g := 133) (vs := [.agg #[vi A1, vi B2, vi C1, vi D1]]) k_call_133 rfl (mc rfl mn) (c_spec_l1Root (TRing.mk A1 B2 C1 D1) _  (hS24.inn0 [] rfl) hc2)) ?_ ?_
      ·rintro _ w_19 ⟨rfl, hd10⟩
       have hS30 := hS24.out00 hd10
       refine ⟨(hS30.se [1, 3]), ?_⟩
       refine rA [4] ?_
       refine ra_c 30 (i := 4) rfl rfl rfl (Yc_func (g := 132) (vs := [pt B 0, gR_ r_3]) k_call_132 rfl (mc rfl (mc rfl mn)) (c_spec_l2C_ring (Tl2C.mk bad1) r_3 B _  (hS30.inn [true, false, false, false] rfl [] rfl) hc3)) ?_ ?_
       ·rintro _ w_20 ⟨rfl, hd11⟩
        have hS31 := hS30.out [true, false, false, false] rfl hd11
        refine ⟨(hS31.se [0, 2]), ?_⟩
        refine rq 8 34 (v := .agg #[vi r_4.A, vi r_4.B, vi r_4.C, vi r_4.D, vi (i64.wrap (Exp1 + 1))]) rfl (hS31.se [0, 2]) (fun w' hw' => (Y_buildS (zs := kZ_) (vs := [(0, gR_ r_4), (1, vi (i64.wrap (Exp1 + 1)))]) (cs := [vi r_4.A, vi r_4.B, vi r_4.C, vi r_4.D, vi (i64.wrap (Exp1 + 1))]) k_pl_63 k_zero_63 rfl (mpc rfl (mpc rfl mpn)) rfl)) ?_
        refine rA [9] ?_
        refine ra_s0 (i := 9) rfl rfl rfl (Ys_store (i := 1) (s := 5) (B := aD b1) (T' := 63) (v := .agg #[vi r_4.A, vi r_4.B, vi r_4.C, vi r_4.D, vi (i64.wrap (Exp1 + 1))]) (vs := [vi r_4.A, vi r_4.B, vi r_4.C, vi r_4.D, vi (i64.wrap (Exp1 + 1))]) (k := 0) (cs' := [vi r_4.A, vi r_4.B, vi r_4.C, vi r_4.D, vi (i64.wrap (Exp1 + 1))]) hS31 k_sz_63_5 rfl (hf2.get 5 2 rfl) rfl rfl rfl rfl rfl (lB rfl) rfl rfl) ?_ ?_
        ·rintro _ w_21 ⟨rfl, hS32⟩
         refine ⟨(hS32.se [0, 2]), ?_⟩
         refine ra_done (by kernel_rfl) ?_
         exact ⟨(FF.cons (hf2.get 0 0 rfl) (FF.cons (hf2.get 4 1 rfl) (FF.cons (hf2.get 5 2 rfl) (FF.cons (hf2.get 6 3 rfl) FF.nil)))), (hS32.sel [3, 0, 1, 2] rfl rfl)⟩
        exact allR_nil
       exact allR_nil
      exact allR_nil
     exact allR_nil
    refine ra_y 32 (i := 6) (v := vi Exp1) rfl rfl rfl (Y_load1 (B := aD b1) (i := 4) (cs := [vi A1, vi B2, vi C1, vi D1, vi Exp1]) (v := vi Exp1) k_sc_3 rfl rfl (hS24.cf (i := 2) rfl) rfl) (hS24.se [1, 3]) ?_ ?_
    ·skip
     refine rq 7 33 (v := vi (i64.wrap (Exp1 + 1))) rfl (hS24.se [1, 3]) (fun w' hw' => (Y_add (k := .i64) (a := Exp1) (b := 1) rfl rfl rfl)) ?_
     refine rA [2] ?_
     refine ra_y 28 (i := 2) (v := .agg #[vi A1, vi B2, vi C1, vi D1]) rfl rfl rfl (Y_loadA (B := aD b1) (i := 0) (cs := [vi A1, vi B2, vi C1, vi D1, vi Exp1]) (vs := [vi A1, vi B2, vi C1, vi D1]) k_ag_61 k_sz_61_4 rfl rfl (hS24.cf (i := 2) rfl) rfl rfl) (hS24.se [1, 3]) ?_ ?_
     ·skip
      refine rA [3] ?_
      refine ra_c 29 (i := 3) rfl rfl rfl (Yc_func (g := 133) (vs := [.agg #[vi A1, vi B2, vi C1, vi D1]]) k_call_133 rfl (mc rfl mn) (c_spec_l1Root (TRing.mk A1 B2 C1 D1) _  (hS24.inn0 [] rfl) hc2)) ?_ ?_
      ·rintro _ w_22 ⟨rfl, hd12⟩
       have hS33 := hS24.out00 hd12
       refine ⟨(hS33.se [1, 3]), ?_⟩
       refine rA [4] ?_
       refine ra_c 30 (i := 4) rfl rfl rfl (Yc_func (g := 132) (vs := [pt B 0, gR_ r_3]) k_call_132 rfl (mc rfl (mc rfl mn)) (c_spec_l2C_ring (Tl2C.mk bad1) r_3 B _  (hS33.inn [true, false, false, false] rfl [] rfl) hc3)) ?_ ?_
       ·rintro _ w_23 ⟨rfl, hd13⟩
        have hS34 := hS33.out [true, false, false, false] rfl hd13
        refine ⟨(hS34.se [0, 2]), ?_⟩
        refine rq 8 34 (v := .agg #[vi r_4.A, vi r_4.B, vi r_4.C, vi r_4.D, vi (i64.wrap (Exp1 + 1))]) rfl (hS34.se [0, 2]) (fun w' hw' => (Y_buildS (zs := kZ_) (vs := [(0, gR_ r_4), (1, vi (i64.wrap (Exp1 + 1)))]) (cs := [vi r_4.A, vi r_4.B, vi r_4.C, vi r_4.D, vi (i64.wrap (Exp1 + 1))]) k_pl_63 k_zero_63 rfl (mpc rfl (mpc rfl mpn)) rfl)) ?_
        refine rA [9] ?_
        refine ra_s0 (i := 9) rfl rfl rfl (Ys_store (i := 1) (s := 5) (B := aD b1) (T' := 63) (v := .agg #[vi r_4.A, vi r_4.B, vi r_4.C, vi r_4.D, vi (i64.wrap (Exp1 + 1))]) (vs := [vi r_4.A, vi r_4.B, vi r_4.C, vi r_4.D, vi (i64.wrap (Exp1 + 1))]) (k := 0) (cs' := [vi r_4.A, vi r_4.B, vi r_4.C, vi r_4.D, vi (i64.wrap (Exp1 + 1))]) hS34 k_sz_63_5 rfl (hf2.get 5 2 rfl) rfl rfl rfl rfl rfl (lB rfl) rfl rfl) ?_ ?_
        ·rintro _ w_24 ⟨rfl, hS35⟩
         refine ⟨(hS35.se [0, 2]), ?_⟩
         refine ra_done (by kernel_rfl) ?_
         exact ⟨(FF.cons (hf2.get 0 0 rfl) (FF.cons (hf2.get 4 1 rfl) (FF.cons (hf2.get 5 2 rfl) (FF.cons (hf2.get 6 3 rfl) FF.nil)))), (hS35.sel [3, 0, 1, 2] rfl rfl)⟩
        exact allR_nil
       exact allR_nil
      exact allR_nil
     exact allR_nil
    exact allR_nil
   rintro f w ⟨hf3, hS23⟩
   obtain rfl := some_inj hF5
   exact ⟨k_3, Nat.lt_succ_self _, m2.bad, r_4.A, r_4.B, r_4.C, r_4.D, (i64.wrap (Exp1 + 1)), (FF.cons (hf3.get 0 0 rfl) (FF.cons (hf3.get 4 1 rfl) (FF.cons (hf3.get 5 2 rfl) (FF.cons (hf3.get 6 3 rfl) FF.nil)))), (hS23.sel [0, 1, 2, 3] rfl rfl), hL3⟩
  ·skip
   have hF6 := cf' hb2 hb3
   refine cw_exit rfl ?_
   obtain rfl := some_inj hF6
   obtain rfl := some_inj hL3
   refine cw_seq ?_
   obtain ⟨r_5, hc4, hF4⟩ := bind_inv hF4
   obtain ⟨⟨r_6, m3⟩, hc5, hF4⟩ := bind_inv hF4
   obtain ⟨r_7, hc6, hF4⟩ := bind_inv hF4
   refine ra_start (hS20.se [1, 2]).fn (by kernel_rfl) ?_
   have hS39 := hS20.drew
   refine rq 0 35 (v := pt B 0) rfl (hS39.se [1, 2]) (fun w' hw' => (Y_move (v := pt B 0) rfl (hf2.get 0 0 rfl))) ?_
   refine rq 1 36 (v := pt (aD b) 0) rfl (hS39.se [1, 2]) (fun w' hw' => (Y_fieldAddr (B := aD b) (i := 0) (s := 3) k_fd_63_0_0_61 k_sz_61_4 rfl (hf2.get 4 1 rfl))) ?_
   refine rq 2 37 (v := .agg #[vi A, vi B1, vi C, vi D]) rfl (hS39.se [1, 2]) (fun w' hw' => (Y_loadA (B := aD b) (i := 0) (cs := [vi A, vi B1, vi C, vi D, vi Exp]) (vs := [vi A, vi B1, vi C, vi D]) k_ag_61 k_sz_61_4 rfl rfl (ST.cf hw' (i := 0) rfl) rfl rfl)) ?_
   refine rq 3 38 (v := pt (aD b1) 0) rfl (hS39.se [1, 2]) (fun w' hw' => (Y_fieldAddr (B := aD b1) (i := 0) (s := 3) k_fd_63_0_0_61 k_sz_61_4 rfl (hf2.get 5 2 rfl))) ?_
   refine rq 4 39 (v := .agg #[vi A1, vi B2, vi C1, vi D1]) rfl (hS39.se [1, 2]) (fun w' hw' => (Y_loadA (B := aD b1) (i := 0) (cs := [vi A1, vi B2, vi C1, vi D1, vi Exp1]) (vs := [vi A1, vi B2, vi C1, vi D1]) k_ag_61 k_sz_61_4 rfl rfl (ST.cf hw' (i := 1) rfl) rfl rfl)) ?_
   refine rq 7 42 (v := pt (aD b) 4) rfl (hS39.se [1, 2]) (fun w' hw' => (Y_fieldAddr (B := aD b) (i := 0) (s := 0) k_fd_63_1_4_3 k_sz_3_1 rfl (hf2.get 4 1 rfl))) ?_
   refine rq 8 43 (v := vi Exp) rfl (hS39.se [1, 2]) (fun w' hw' => (Y_load1 (B := aD b) (i := 4) (cs := [vi A, vi B1, vi C, vi D, vi Exp]) (v := vi Exp) k_sc_3 rfl rfl (ST.cf hw' (i := 0) rfl) rfl)) ?_
   refine rA [5] ?_
   refine ra_c 40 (i := 5) rfl rfl rfl (Yc_func (g := 135) (vs := [.agg #[vi A, vi B1, vi C, vi D], .agg #[vi A1, vi B2, vi C1, vi D1]]) k_call_135 rfl (mc rfl (mc rfl mn)) (c_spec_l1Add (TRing.mk A B1 C D) (TRing.mk A1 B2 C1 D1) _  (hS39.inn0 [] rfl) hc4)) ?_ ?_
   ·rintro _ w_25 ⟨rfl, hd14⟩
    have hS40 := hS39.out00 hd14
    refine ⟨(hS40.se [1, 2]), ?_⟩
    refine rA [6] ?_
    refine ra_c 41 (i := 6) rfl rfl rfl (Yc_func (g := 132) (vs := [pt B 0, gR_ r_5]) k_call_132 rfl (mc rfl (mc rfl mn)) (c_spec_l2C_ring (Tl2C.mk bad1) r_5 B _  (hS40.inn [true, false, false, false] rfl [] rfl) hc5)) ?_ ?_
    ·rintro _ w_26 ⟨rfl, hd15⟩
     have hS41 := hS40.out [true, false, false, false] rfl hd15
     refine ⟨(hS41.se [0, 1]), ?_⟩
     refine rA [9] ?_
     refine ra_c 44 (i := 9) rfl rfl rfl (Yc_func (g := 134) (vs := [gR_ r_6, vi Exp]) k_call_134 rfl (mc rfl (mc rfl mn)) (c_spec_l2Low r_6 Exp _  (hS41.inn0 [] rfl) hc6)) ?_ ?_
     ·rintro _ w_27 ⟨rfl, hd16⟩
      have hS42 := hS41.out00 hd16
      refine ⟨(hS42.se [0, 1]), ?_⟩
      refine rA [10] ?_
      refine ra_s0 (i := 10) rfl rfl rfl (Ys_store (i := 2) (s := 5) (B := aD b2) (T' := 63) (v := gD_ r_7) (vs := kD_ r_7) (k := 0) (cs' := kD_ r_7) hS42 k_sz_63_5 rfl (hf2.get 6 3 rfl) rfl rfl rfl rfl rfl (lB rfl) rfl rfl) ?_ ?_
      ·rintro _ w_28 ⟨rfl, hS43⟩
       refine ⟨(hS43.se [0, 1]), ?_⟩
       refine ra_done (by kernel_rfl) ?_
       refine cw_ret ?_
       obtain ⟨rfl, rfl⟩ := pr2 (some_inj hF4)
       exact ret1 Tryz.results85 (v1 := gD_ r_7) (resAt_cellA (B := aD b2) (i := 0) (cs := kD_ r_7) (vs := kD_ r_7) (hf2.get 6 3 rfl) k_ag_63 k_sz_63_5 (hS43.cf (i := 2) rfl) rfl rfl) ⟨rfl, (hS43.sN [3])⟩
      exact allR_nil
     exact allR_nil
    exact allR_nil
   exact allR_nil

theorem c_spec_l1Mul (x : TRing) (y : TRing)  (w0 : World)  (hS : ST w0 [] w0 [] []) {r_ : TRing} (hF : F_spec_l1Mul x y = some r_) :
  CV Tryz.prog 136 #[gR_ x, gR_ y] w0 (fun v w' => v = (gR_ r_) ∧ ST w0 [] w' [] []) := by
 unfold F_spec_l1Mul at hF
 refine cv_of_cw 98 Tryz.func136 rfl Tryz.ntmps136 rfl ?_
 refine cw_seq (cw_region ?_)
 refine sS 2 (Ys_box (T := 61) (v := gR_ x) (cs := kR_ x) (m := 4) hS rfl rfl rfl rfl) ?_
 rintro _ w_ ⟨b, rfl, hS1⟩
 refine sS 3 (Ys_box (T := 61) (v := gR_ y) (cs := kR_ y) (m := 4) hS1 rfl rfl rfl rfl) ?_
 rintro _ w_1 ⟨b1, rfl, hS2⟩
 refine sS 4 (Ys_alloc (T := 61) (cs := [vi 0, vi 0, vi 0, vi 0]) (m := 4) hS2 k_zero_61 rfl rfl rfl) ?_
 rintro _ w_2 ⟨b2, rfl, hS3⟩
 refine rw_nil (cw_seq (cw_region ?_))
 refine sQ 5 (Y_fieldAddr (B := aD b) (i := 0) (s := 0) k_fd_61_0_0_3 k_sz_3_1 rfl rfl) ?_
 refine sQ 6 (Y_load1 (B := aD b) (i := 0) (cs := kR_ x) (v := vi x.A) k_sc_3 rfl rfl (hS3.cf (i := 0) rfl) rfl) ?_
 refine sQ 7 (Y_fieldAddr (B := aD b1) (i := 0) (s := 0) k_fd_61_0_0_3 k_sz_3_1 rfl rfl) ?_
 refine sQ 8 (Y_load1 (B := aD b1) (i := 0) (cs := kR_ y) (v := vi y.A) k_sc_3 rfl rfl (hS3.cf (i := 1) rfl) rfl) ?_
 refine sQ 9 (Y_mul (k := .i64) (a := x.A) (b := y.A) rfl rfl rfl) ?_
 refine sQ 10 (Y_fieldAddr (B := aD b) (i := 0) (s := 0) k_fd_61_1_1_3 k_sz_3_1 rfl rfl) ?_
 refine sQ 11 (Y_load1 (B := aD b) (i := 1) (cs := kR_ x) (v := vi x.B) k_sc_3 rfl rfl (hS3.cf (i := 0) rfl) rfl) ?_
 refine sQ 12 (Y_fieldAddr (B := aD b1) (i := 0) (s := 0) k_fd_61_3_3_3 k_sz_3_1 rfl rfl) ?_
 refine sQ 13 (Y_load1 (B := aD b1) (i := 3) (cs := kR_ y) (v := vi y.D) k_sc_3 rfl rfl (hS3.cf (i := 1) rfl) rfl) ?_
 refine sQ 14 (Y_mul (k := .i64) (a := x.B) (b := y.D) rfl rfl rfl) ?_
 refine sQ 15 (Y_sub (k := .i64) (a := (i64.wrap (x.A * y.A))) (b := (i64.wrap (x.B * y.D))) rfl rfl rfl) ?_
 refine sQ 16 (Y_fieldAddr (B := aD b) (i := 0) (s := 0) k_fd_61_2_2_3 k_sz_3_1 rfl rfl) ?_
 refine sQ 17 (Y_load1 (B := aD b) (i := 2) (cs := kR_ x) (v := vi x.C) k_sc_3 rfl rfl (hS3.cf (i := 0) rfl) rfl) ?_
 refine sQ 18 (Y_fieldAddr (B := aD b1) (i := 0) (s := 0) k_fd_61_2_2_3 k_sz_3_1 rfl rfl) ?_
 refine sQ 19 (Y_load1 (B := aD b1) (i := 2) (cs := kR_ y) (v := vi y.C) k_sc_3 rfl rfl (hS3.cf (i := 1) rfl) rfl) ?_
 refine sQ 20 (Y_mul (k := .i64) (a := x.C) (b := y.C) rfl rfl rfl) ?_
 refine sQ 21 (Y_sub (k := .i64) (a := (i64.wrap ((i64.wrap (x.A * y.A)) - (i64.wrap (x.B * y.D))))) (b := (i64.wrap (x.C * y.C))) rfl rfl rfl) ?_
 refine sQ 22 (Y_fieldAddr (B := aD b) (i := 0) (s := 0) k_fd_61_3_3_3 k_sz_3_1 rfl rfl) ?_
 refine sQ 23 (Y_load1 (B := aD b) (i := 3) (cs := kR_ x) (v := vi x.D) k_sc_3 rfl rfl (hS3.cf (i := 0) rfl) rfl) ?_
 refine sQ 24 (Y_fieldAddr (B := aD b1) (i := 0) (s := 0) k_fd_61_1_1_3 k_sz_3_1 rfl rfl) ?_
 refine sQ 25 (Y_load1 (B := aD b1) (i := 1) (cs := kR_ y) (v := vi y.B) k_sc_3 rfl rfl (hS3.cf (i := 1) rfl) rfl) ?_
 refine sQ 26 (Y_mul (k := .i64) (a := x.D) (b := y.B) rfl rfl rfl) ?_
 refine sQ 27 (Y_sub (k := .i64) (a := (i64.wrap ((i64.wrap ((i64.wrap (x.A * y.A)) - (i64.wrap (x.B * y.D)))) - (i64.wrap (x.C * y.C))))) (b := (i64.wrap (x.D * y.B))) rfl rfl rfl) ?_
 refine sQ 28 (Y_fieldAddr (B := aD b) (i := 0) (s := 0) k_fd_61_0_0_3 k_sz_3_1 rfl rfl) ?_
 refine sQ 29 (Y_load1 (B := aD b) (i := 0) (cs := kR_ x) (v := vi x.A) k_sc_3 rfl rfl (hS3.cf (i := 0) rfl) rfl) ?_
 refine sQ 30 (Y_fieldAddr (B := aD b1) (i := 0) (s := 0) k_fd_61_1_1_3 k_sz_3_1 rfl rfl) ?_
 refine sQ 31 (Y_load1 (B := aD b1) (i := 1) (cs := kR_ y) (v := vi y.B) k_sc_3 rfl rfl (hS3.cf (i := 1) rfl) rfl) ?_
 refine sQ 32 (Y_mul (k := .i64) (a := x.A) (b := y.B) rfl rfl rfl) ?_
 refine sQ 33 (Y_fieldAddr (B := aD b) (i := 0) (s := 0) k_fd_61_1_1_3 k_sz_3_1 rfl rfl) ?_
 refine sQ 34 (Y_load1 (B := aD b) (i := 1) (cs := kR_ x) (v := vi x.B) k_sc_3 rfl rfl (hS3.cf (i := 0) rfl) rfl) ?_
 refine sQ 35 (Y_fieldAddr (B := aD b1) (i := 0) (s := 0) k_fd_61_0_0_3 k_sz_3_1 rfl rfl) ?_
 refine sQ 36 (Y_load1 (B := aD b1) (i := 0) (cs := kR_ y) (v := vi y.A) k_sc_3 rfl rfl (hS3.cf (i := 1) rfl) rfl) ?_
 refine sQ 37 (Y_mul (k := .i64) (a := x.B) (b := y.A) rfl rfl rfl) ?_
 refine sQ 38 (Y_add (k := .i64) (a := (i64.wrap (x.A * y.B))) (b := (i64.wrap (x.B * y.A))) rfl rfl rfl) ?_
 refine sQ 39 (Y_fieldAddr (B := aD b) (i := 0) (s := 0) k_fd_61_2_2_3 k_sz_3_1 rfl rfl) ?_
 refine sQ 40 (Y_load1 (B := aD b) (i := 2) (cs := kR_ x) (v := vi x.C) k_sc_3 rfl rfl (hS3.cf (i := 0) rfl) rfl) ?_
 refine sQ 41 (Y_fieldAddr (B := aD b1) (i := 0) (s := 0) k_fd_61_3_3_3 k_sz_3_1 rfl rfl) ?_
 refine sQ 42 (Y_load1 (B := aD b1) (i := 3) (cs := kR_ y) (v := vi y.D) k_sc_3 rfl rfl (hS3.cf (i := 1) rfl) rfl) ?_
 refine sQ 43 (Y_mul (k := .i64) (a := x.C) (b := y.D) rfl rfl rfl) ?_
 refine sQ 44 (Y_sub (k := .i64) (a := (i64.wrap ((i64.wrap (x.A * y.B)) + (i64.wrap (x.B * y.A))))) (b := (i64.wrap (x.C * y.D))) rfl rfl rfl) ?_
 refine sQ 45 (Y_fieldAddr (B := aD b) (i := 0) (s := 0) k_fd_61_3_3_3 k_sz_3_1 rfl rfl) ?_
 refine sQ 46 (Y_load1 (B := aD b) (i := 3) (cs := kR_ x) (v := vi x.D) k_sc_3 rfl rfl (hS3.cf (i := 0) rfl) rfl) ?_
 refine sQ 47 (Y_fieldAddr (B := aD b1) (i := 0) (s := 0) k_fd_61_2_2_3 k_sz_3_1 rfl rfl) ?_
 refine sQ 48 (Y_load1 (B := aD b1) (i := 2) (cs := kR_ y) (v := vi y.C) k_sc_3 rfl rfl (hS3.cf (i := 1) rfl) rfl) ?_
 refine sQ 49 (Y_mul (k := .i64) (a := x.D) (b := y.C) rfl rfl rfl) ?_
 refine sQ 50 (Y_sub (k := .i64) (a := (i64.wrap ((i64.wrap ((i64.wrap (x.A * y.B)) + (i64.wrap (x.B * y.A)))) - (i64.wrap (x.C * y.D))))) (b := (i64.wrap (x.D * y.C))) rfl rfl rfl) ?_
 refine sQ 51 (Y_fieldAddr (B := aD b) (i := 0) (s := 0) k_fd_61_0_0_3 k_sz_3_1 rfl rfl) ?_
 refine sQ 52 (Y_load1 (B := aD b) (i := 0) (cs := kR_ x) (v := vi x.A) k_sc_3 rfl rfl (hS3.cf (i := 0) rfl) rfl) ?_
 refine sQ 53 (Y_fieldAddr (B := aD b1) (i := 0) (s := 0) k_fd_61_2_2_3 k_sz_3_1 rfl rfl) ?_
 refine sQ 54 (Y_load1 (B := aD b1) (i := 2) (cs := kR_ y) (v := vi y.C) k_sc_3 rfl rfl (hS3.cf (i := 1) rfl) rfl) ?_
 refine sQ 55 (Y_mul (k := .i64) (a := x.A) (b := y.C) rfl rfl rfl) ?_
 refine sQ 56 (Y_fieldAddr (B := aD b) (i := 0) (s := 0) k_fd_61_1_1_3 k_sz_3_1 rfl rfl) ?_
 refine sQ 57 (Y_load1 (B := aD b) (i := 1) (cs := kR_ x) (v := vi x.B) k_sc_3 rfl rfl (hS3.cf (i := 0) rfl) rfl) ?_
 refine sQ 58 (Y_fieldAddr (B := aD b1) (i := 0) (s := 0) k_fd_61_1_1_3 k_sz_3_1 rfl rfl) ?_
 refine sQ 59 (Y_load1 (B := aD b1) (i := 1) (cs := kR_ y) (v := vi y.B) k_sc_3 rfl rfl (hS3.cf (i := 1) rfl) rfl) ?_
 refine sQ 60 (Y_mul (k := .i64) (a := x.B) (b := y.B) rfl rfl rfl) ?_
 refine sQ 61 (Y_add (k := .i64) (a := (i64.wrap (x.A * y.C))) (b := (i64.wrap (x.B * y.B))) rfl rfl rfl) ?_
 refine sQ 62 (Y_fieldAddr (B := aD b) (i := 0) (s := 0) k_fd_61_2_2_3 k_sz_3_1 rfl rfl) ?_
 refine sQ 63 (Y_load1 (B := aD b) (i := 2) (cs := kR_ x) (v := vi x.C) k_sc_3 rfl rfl (hS3.cf (i := 0) rfl) rfl) ?_
 refine sQ 64 (Y_fieldAddr (B := aD b1) (i := 0) (s := 0) k_fd_61_0_0_3 k_sz_3_1 rfl rfl) ?_
 refine sQ 65 (Y_load1 (B := aD b1) (i := 0) (cs := kR_ y) (v := vi y.A) k_sc_3 rfl rfl (hS3.cf (i := 1) rfl) rfl) ?_
 refine sQ 66 (Y_mul (k := .i64) (a := x.C) (b := y.A) rfl rfl rfl) ?_
 refine sQ 67 (Y_add (k := .i64) (a := (i64.wrap ((i64.wrap (x.A * y.C)) + (i64.wrap (x.B * y.B))))) (b := (i64.wrap (x.C * y.A))) rfl rfl rfl) ?_
 refine sQ 68 (Y_fieldAddr (B := aD b) (i := 0) (s := 0) k_fd_61_3_3_3 k_sz_3_1 rfl rfl) ?_
 refine sQ 69 (Y_load1 (B := aD b) (i := 3) (cs := kR_ x) (v := vi x.D) k_sc_3 rfl rfl (hS3.cf (i := 0) rfl) rfl) ?_
 refine sQ 70 (Y_fieldAddr (B := aD b1) (i := 0) (s := 0) k_fd_61_3_3_3 k_sz_3_1 rfl rfl) ?_
 refine sQ 71 (Y_load1 (B := aD b1) (i := 3) (cs := kR_ y) (v := vi y.D) k_sc_3 rfl rfl (hS3.cf (i := 1) rfl) rfl) ?_
 refine sQ 72 (Y_mul (k := .i64) (a := x.D) (b := y.D) rfl rfl rfl) ?_
 refine sQ 73 (Y_sub (k := .i64) (a := (i64.wrap ((i64.wrap ((i64.wrap (x.A * y.C)) + (i64.wrap (x.B * y.B)))) + (i64.wrap (x.C * y.A))))) (b := (i64.wrap (x.D * y.D))) rfl rfl rfl) ?_
 refine sQ 74 (Y_fieldAddr (B := aD b) (i := 0) (s := 0) k_fd_61_0_0_3 k_sz_3_1 rfl rfl) ?_
 refine sQ 75 (Y_load1 (B := aD b) (i := 0) (cs := kR_ x) (v := vi x.A) k_sc_3 rfl rfl (hS3.cf (i := 0) rfl) rfl) ?_
 refine sQ 76 (Y_fieldAddr (B := aD b1) (i := 0) (s := 0) k_fd_61_3_3_3 k_sz_3_1 rfl rfl) ?_
 refine sQ 77 (Y_load1 (B := aD b1) (i := 3) (cs := kR_ y) (v := vi y.D) k_sc_3 rfl rfl (hS3.cf (i := 1) rfl) rfl) ?_
 refine sQ 78 (Y_mul (k := .i64) (a := x.A) (b := y.D) rfl rfl rfl) ?_
 refine sQ 79 (Y_fieldAddr (B := aD b) (i := 0) (s := 0) k_fd_61_1_1_3 k_sz_3_1 rfl rfl) ?_
 refine sQ 80 (Y_load1 (B := aD b) (i := 1) (cs := kR_ x) (v := vi x.B) k_sc_3 rfl rfl (hS3.cf (i := 0) rfl) rfl) ?_
 refine sQ 81 (Y_fieldAddr (B := aD b1) (i := 0) (s := 0) k_fd_61_2_2_3 k_sz_3_1 rfl rfl) ?_
 refine sQ 82 (Y_load1 (B := aD b1) (i := 2) (cs := kR_ y) (v := vi y.C) k_sc_3 rfl rfl (hS3.cf (i := 1) rfl) rfl) ?_
 refine sQ 83 (Y_mul (k := .i64) (a := x.B) (b := y.C) rfl rfl rfl) ?_
 refine sQ 84 (Y_add (k := .i64) (a := (i64.wrap (x.A * y.D))) (b := (i64.wrap (x.B * y.C))) rfl rfl rfl) ?_
 refine sQ 85 (Y_fieldAddr (B := aD b) (i := 0) (s := 0) k_fd_61_2_2_3 k_sz_3_1 rfl rfl) ?_
 refine sQ 86 (Y_load1 (B := aD b) (i := 2) (cs := kR_ x) (v := vi x.C) k_sc_3 rfl rfl (hS3.cf (i := 0) rfl) rfl) ?_
 refine sQ 87 (Y_fieldAddr (B := aD b1) (i := 0) (s := 0) k_fd_61_1_1_3 k_sz_3_1 rfl rfl) ?_
 refine sQ 88 (Y_load1 (B := aD b1) (i := 1) (cs := kR_ y) (v := vi y.B) k_sc_3 rfl rfl (hS3.cf (i := 1) rfl) rfl) ?_
 refine sQ 89 (Y_mul (k := .i64) (a := x.C) (b := y.B) rfl rfl rfl) ?_
 refine sQ 90 (Y_add (k := .i64) (a := (i64.wrap ((i64.wrap (x.A * y.D)) + (i64.wrap (x.B * y.C))))) (b := (i64.wrap (x.C * y.B))) rfl rfl rfl) ?_
 refine sQ 91 (Y_fieldAddr (B := aD b) (i := 0) (s := 0) k_fd_61_3_3_3 k_sz_3_1 rfl rfl) ?_
 refine sQ 92 (Y_load1 (B := aD b) (i := 3) (cs := kR_ x) (v := vi x.D) k_sc_3 rfl rfl (hS3.cf (i := 0) rfl) rfl) ?_
 refine sQ 93 (Y_fieldAddr (B := aD b1) (i := 0) (s := 0) k_fd_61_0_0_3 k_sz_3_1 rfl rfl) ?_
 refine sQ 94 (Y_load1 (B := aD b1) (i := 0) (cs := kR_ y) (v := vi y.A) k_sc_3 rfl rfl (hS3.cf (i := 1) rfl) rfl) ?_
 refine sQ 95 (Y_mul (k := .i64) (a := x.D) (b := y.A) rfl rfl rfl) ?_
 refine sQ 96 (Y_add (k := .i64) (a := (i64.wrap ((i64.wrap ((i64.wrap (x.A * y.D)) + (i64.wrap (x.B * y.C)))) + (i64.wrap (x.C * y.B))))) (b := (i64.wrap (x.D * y.A))) rfl rfl rfl) ?_
 refine sQ 97 (Y_buildS (zs := [vi 0, vi 0, vi 0, vi 0]) (vs := [(0, vi (i64.wrap ((i64.wrap ((i64.wrap ((i64.wrap (x.A * y.A)) - (i64.wrap (x.B * y.D)))) - (i64.wrap (x.C * y.C)))) - (i64.wrap (x.D * y.B))))), (1, vi (i64.wrap ((i64.wrap ((i64.wrap ((i64.wrap (x.A * y.B)) + (i64.wrap (x.B * y.A)))) - (i64.wrap (x.C * y.D)))) - (i64.wrap (x.D * y.C))))), (2, vi (i64.wrap ((i64.wrap ((i64.wrap ((i64.wrap (x.A * y.C)) + (i64.wrap (x.B * y.B)))) + (i64.wrap (x.C * y.A)))) - (i64.wrap (x.D * y.D))))), (3, vi (i64.wrap ((i64.wrap ((i64.wrap ((i64.wrap (x.A * y.D)) + (i64.wrap (x.B * y.C)))) + (i64.wrap (x.C * y.B)))) + (i64.wrap (x.D * y.A)))))]) (cs := [vi (i64.wrap ((i64.wrap ((i64.wrap ((i64.wrap (x.A * y.A)) - (i64.wrap (x.B * y.D)))) - (i64.wrap (x.C * y.C)))) - (i64.wrap (x.D * y.B)))), vi (i64.wrap ((i64.wrap ((i64.wrap ((i64.wrap (x.A * y.B)) + (i64.wrap (x.B * y.A)))) - (i64.wrap (x.C * y.D)))) - (i64.wrap (x.D * y.C)))), vi (i64.wrap ((i64.wrap ((i64.wrap ((i64.wrap (x.A * y.C)) + (i64.wrap (x.B * y.B)))) + (i64.wrap (x.C * y.A)))) - (i64.wrap (x.D * y.D)))), vi (i64.wrap ((i64.wrap ((i64.wrap ((i64.wrap (x.A * y.D)) + (i64.wrap (x.B * y.C)))) + (i64.wrap (x.C * y.B)))) + (i64.wrap (x.D * y.A))))]) k_pl_61 k_zero_61 rfl (mpc rfl (mpc rfl (mpc rfl (mpc rfl mpn)))) rfl) ?_
 refine s0 (Ys_store (i := 2) (s := 4) (B := aD b2) (T' := 61) (v := .agg #[vi (i64.wrap ((i64.wrap ((i64.wrap ((i64.wrap (x.A * y.A)) - (i64.wrap (x.B * y.D)))) - (i64.wrap (x.C * y.C)))) - (i64.wrap (x.D * y.B)))), vi (i64.wrap ((i64.wrap ((i64.wrap ((i64.wrap (x.A * y.B)) + (i64.wrap (x.B * y.A)))) - (i64.wrap (x.C * y.D)))) - (i64.wrap (x.D * y.C)))), vi (i64.wrap ((i64.wrap ((i64.wrap ((i64.wrap (x.A * y.C)) + (i64.wrap (x.B * y.B)))) + (i64.wrap (x.C * y.A)))) - (i64.wrap (x.D * y.D)))), vi (i64.wrap ((i64.wrap ((i64.wrap ((i64.wrap (x.A * y.D)) + (i64.wrap (x.B * y.C)))) + (i64.wrap (x.C * y.B)))) + (i64.wrap (x.D * y.A))))]) (vs := [vi (i64.wrap ((i64.wrap ((i64.wrap ((i64.wrap (x.A * y.A)) - (i64.wrap (x.B * y.D)))) - (i64.wrap (x.C * y.C)))) - (i64.wrap (x.D * y.B)))), vi (i64.wrap ((i64.wrap ((i64.wrap ((i64.wrap (x.A * y.B)) + (i64.wrap (x.B * y.A)))) - (i64.wrap (x.C * y.D)))) - (i64.wrap (x.D * y.C)))), vi (i64.wrap ((i64.wrap ((i64.wrap ((i64.wrap (x.A * y.C)) + (i64.wrap (x.B * y.B)))) + (i64.wrap (x.C * y.A)))) - (i64.wrap (x.D * y.D)))), vi (i64.wrap ((i64.wrap ((i64.wrap ((i64.wrap (x.A * y.D)) + (i64.wrap (x.B * y.C)))) + (i64.wrap (x.C * y.B)))) + (i64.wrap (x.D * y.A))))]) (k := 0) (cs' := [vi (i64.wrap ((i64.wrap ((i64.wrap ((i64.wrap (x.A * y.A)) - (i64.wrap (x.B * y.D)))) - (i64.wrap (x.C * y.C)))) - (i64.wrap (x.D * y.B)))), vi (i64.wrap ((i64.wrap ((i64.wrap ((i64.wrap (x.A * y.B)) + (i64.wrap (x.B * y.A)))) - (i64.wrap (x.C * y.D)))) - (i64.wrap (x.D * y.C)))), vi (i64.wrap ((i64.wrap ((i64.wrap ((i64.wrap (x.A * y.C)) + (i64.wrap (x.B * y.B)))) + (i64.wrap (x.C * y.A)))) - (i64.wrap (x.D * y.D)))), vi (i64.wrap ((i64.wrap ((i64.wrap ((i64.wrap (x.A * y.D)) + (i64.wrap (x.B * y.C)))) + (i64.wrap (x.C * y.B)))) + (i64.wrap (x.D * y.A))))]) hS3 k_sz_61_4 rfl rfl rfl rfl rfl rfl rfl (lB rfl) rfl rfl) ?_
 rintro _ w_3 ⟨rfl, hS4⟩
 refine rw_nil (cw_ret ?_)
 obtain rfl := some_inj hF
 exact ret1 Tryz.results136 (v1 := .agg #[vi (i64.wrap ((i64.wrap ((i64.wrap ((i64.wrap (x.A * y.A)) - (i64.wrap (x.B * y.D)))) - (i64.wrap (x.C * y.C)))) - (i64.wrap (x.D * y.B)))), vi (i64.wrap ((i64.wrap ((i64.wrap ((i64.wrap (x.A * y.B)) + (i64.wrap (x.B * y.A)))) - (i64.wrap (x.C * y.D)))) - (i64.wrap (x.D * y.C)))), vi (i64.wrap ((i64.wrap ((i64.wrap ((i64.wrap (x.A * y.C)) + (i64.wrap (x.B * y.B)))) + (i64.wrap (x.C * y.A)))) - (i64.wrap (x.D * y.D)))), vi (i64.wrap ((i64.wrap ((i64.wrap ((i64.wrap (x.A * y.D)) + (i64.wrap (x.B * y.C)))) + (i64.wrap (x.C * y.B)))) + (i64.wrap (x.D * y.A))))]) (resAt_cellA (B := aD b2) (i := 0) (cs := [vi (i64.wrap ((i64.wrap ((i64.wrap ((i64.wrap (x.A * y.A)) - (i64.wrap (x.B * y.D)))) - (i64.wrap (x.C * y.C)))) - (i64.wrap (x.D * y.B)))), vi (i64.wrap ((i64.wrap ((i64.wrap ((i64.wrap (x.A * y.B)) + (i64.wrap (x.B * y.A)))) - (i64.wrap (x.C * y.D)))) - (i64.wrap (x.D * y.C)))), vi (i64.wrap ((i64.wrap ((i64.wrap ((i64.wrap (x.A * y.C)) + (i64.wrap (x.B * y.B)))) + (i64.wrap (x.C * y.A)))) - (i64.wrap (x.D * y.D)))), vi (i64.wrap ((i64.wrap ((i64.wrap ((i64.wrap (x.A * y.D)) + (i64.wrap (x.B * y.C)))) + (i64.wrap (x.C * y.B)))) + (i64.wrap (x.D * y.A))))]) (vs := [vi (i64.wrap ((i64.wrap ((i64.wrap ((i64.wrap (x.A * y.A)) - (i64.wrap (x.B * y.D)))) - (i64.wrap (x.C * y.C)))) - (i64.wrap (x.D * y.B)))), vi (i64.wrap ((i64.wrap ((i64.wrap ((i64.wrap (x.A * y.B)) + (i64.wrap (x.B * y.A)))) - (i64.wrap (x.C * y.D)))) - (i64.wrap (x.D * y.C)))), vi (i64.wrap ((i64.wrap ((i64.wrap ((i64.wrap (x.A * y.C)) + (i64.wrap (x.B * y.B)))) + (i64.wrap (x.C * y.A)))) - (i64.wrap (x.D * y.D)))), vi (i64.wrap ((i64.wrap ((i64.wrap ((i64.wrap (x.A * y.D)) + (i64.wrap (x.B * y.C)))) + (i64.wrap (x.C * y.B)))) + (i64.wrap (x.D * y.A))))]) rfl k_ag_61 k_sz_61_4 (hS4.cf (i := 2) rfl) rfl rfl) ⟨rfl, (hS4.sN [])⟩

theorem c_spec_l2C_mul (c : Tl2C) (x : TDyadic) (y : TDyadic) (B : Option Addr) (w0 : World)  (hS : ST w0 (bl [⟨B, 75, [.bool c.bad], 1⟩]) w0 [⟨B, 75, [.bool c.bad], 1⟩] []) {r_ : TDyadic} {m : Tl2C} (hF : F_spec_l2C_mul c x y = some (r_, m)) :
  CV Tryz.prog 86 #[pt B 0, gD_ x, gD_ y] w0 (fun v w' => v = (gD_ r_) ∧ ST w0 (bl [⟨B, 75, [.bool c.bad], 1⟩]) w' [⟨B, 75, [.bool m.bad], 1⟩] []) := by
 unfold F_spec_l2C_mul at hF
 refine cv_of_cw 30 Tryz.func86 rfl Tryz.ntmps86 rfl ?_
 refine cw_seq (cw_region ?_)
 refine sS 4 (Ys_box (T := 63) (v := gD_ x) (cs := kD_ x) (m := 5) hS rfl rfl rfl rfl) ?_
 rintro _ w_ ⟨b, rfl, hS1⟩
 refine sS 5 (Ys_box (T := 63) (v := gD_ y) (cs := kD_ y) (m := 5) hS1 rfl rfl rfl rfl) ?_
 rintro _ w_1 ⟨b1, rfl, hS2⟩
 refine sS 6 (Ys_alloc (T := 63) (cs := kZ_) (m := 5) hS2 k_zero_63 rfl rfl rfl) ?_
 rintro _ w_2 ⟨b2, rfl, hS3⟩
 refine rw_nil (cw_seq (cw_seq (cw_region ?_)))
 refine sQ 7 (Y_fieldAddr (B := aD b) (i := 0) (s := 0) k_fd_63_1_4_3 k_sz_3_1 rfl rfl) ?_
 refine sQ 8 (Y_load1 (B := aD b) (i := 4) (cs := kD_ x) (v := vi x.Exp) k_sc_3 rfl rfl (hS3.cf (i := 1) rfl) rfl) ?_
 refine sQ 9 (Y_fieldAddr (B := aD b1) (i := 0) (s := 0) k_fd_63_1_4_3 k_sz_3_1 rfl rfl) ?_
 refine sQ 10 (Y_load1 (B := aD b1) (i := 4) (cs := kD_ y) (v := vi y.Exp) k_sc_3 rfl rfl (hS3.cf (i := 2) rfl) rfl) ?_
 refine sQ 11 (Y_add (k := .i64) (a := x.Exp) (b := y.Exp) rfl rfl rfl) ?_
 refine sQ 12 (Y_gt (k := .i64) (a := (i64.wrap (x.Exp + y.Exp))) (b := 60) rfl rfl rfl) (rw_nil ?_)
 refine cw_cond (b := (decide (60 < (i64.wrap (x.Exp + y.Exp))))) rfl (fun hb => ?_) (fun hb => ?_)
 ·skip
  have hF1 := ct hF hb
  refine cw_seq (cw_region ?_)
  refine sQ 13 (Y_move (v := pt B 0) rfl rfl) ?_
  refine sQ 14 (Y_nilCheck (B := B) (i := 0) rfl rfl) ?_
  refine sQ 15 (Y_fieldAddr (B := B) (i := 0) (s := 0) k_fd_75_0_0_4 k_sz_4_1 rfl rfl) ?_
  refine s0 (Ys_store (i := 0) (s := 1) (B := B) (T' := 75) (v := .bool true) (vs := [.bool true]) (k := 0) (cs' := [.bool true]) hS3 k_sz_4_1 rfl rfl rfl rfl rfl rfl rfl (lB rfl) rfl rfl) ?_
  rintro _ w_3 ⟨rfl, hS4⟩
  refine rw_nil (cw_seq (cw_region ?_))
  refine sQ 16 (Y_buildS (zs := kZ_) (vs := []) (cs := kZ_) k_pl_63 k_zero_63 rfl mpn rfl) ?_
  refine s0 (Ys_store (i := 3) (s := 5) (B := aD b2) (T' := 63) (v := gZ_) (vs := kZ_) (k := 0) (cs' := kZ_) hS4 k_sz_63_5 rfl rfl rfl rfl rfl rfl rfl (lB rfl) rfl rfl) ?_
  rintro _ w_4 ⟨rfl, hS5⟩
  refine rw_nil (cw_ret ?_)
  obtain ⟨rfl, rfl⟩ := pr2 (some_inj hF1)
  exact ret1 Tryz.results86 (v1 := gZ_) (resAt_cellA (B := aD b2) (i := 0) (cs := kZ_) (vs := kZ_) rfl k_ag_63 k_sz_63_5 (hS5.cf (i := 3) rfl) rfl rfl) ⟨rfl, (hS5.sN [0])⟩
 ·skip
  have hF2 := cf' hF hb
  refine cw_skip (cw_seq ?_)
  obtain ⟨r_1, hc, hF2⟩ := bind_inv hF2
  obtain ⟨⟨r_2, m1⟩, hc1, hF2⟩ := bind_inv hF2
  obtain ⟨r_3, hc2, hF2⟩ := bind_inv hF2
  refine ra_start (hS3.se [1, 2]).fn (by kernel_rfl) ?_
  have hS9 := hS3.drew
  refine rq 0 17 (v := pt B 0) rfl (hS9.se [1, 2]) (fun w' hw' => (Y_move (v := pt B 0) rfl rfl)) ?_
  refine rq 1 18 (v := pt (aD b) 0) rfl (hS9.se [1, 2]) (fun w' hw' => (Y_fieldAddr (B := aD b) (i := 0) (s := 3) k_fd_63_0_0_61 k_sz_61_4 rfl rfl)) ?_
  refine rq 2 19 (v := gR_ x.Num) rfl (hS9.se [1, 2]) (fun w' hw' => (Y_loadA (B := aD b) (i := 0) (cs := kD_ x) (vs := kR_ x.Num) k_ag_61 k_sz_61_4 rfl rfl (ST.cf hw' (i := 0) rfl) rfl rfl)) ?_
  refine rq 3 20 (v := pt (aD b1) 0) rfl (hS9.se [1, 2]) (fun w' hw' => (Y_fieldAddr (B := aD b1) (i := 0) (s := 3) k_fd_63_0_0_61 k_sz_61_4 rfl rfl)) ?_
  refine rq 4 21 (v := gR_ y.Num) rfl (hS9.se [1, 2]) (fun w' hw' => (Y_loadA (B := aD b1) (i := 0) (cs := kD_ y) (vs := kR_ y.Num) k_ag_61 k_sz_61_4 rfl rfl (ST.cf hw' (i := 1) rfl) rfl rfl)) ?_
  refine rq 7 24 (v := pt (aD b) 4) rfl (hS9.se [1, 2]) (fun w' hw' => (Y_fieldAddr (B := aD b) (i := 0) (s := 0) k_fd_63_1_4_3 k_sz_3_1 rfl rfl)) ?_
  refine rq 8 25 (v := vi x.Exp) rfl (hS9.se [1, 2]) (fun w' hw' => (Y_load1 (B := aD b) (i := 4) (cs := kD_ x) (v := vi x.Exp) k_sc_3 rfl rfl (ST.cf hw' (i := 0) rfl) rfl)) ?_
  refine rq 9 26 (v := pt (aD b1) 4) rfl (hS9.se [1, 2]) (fun w' hw' => (Y_fieldAddr (B := aD b1) (i := 0) (s := 0) k_fd_63_1_4_3 k_sz_3_1 rfl rfl)) ?_
  refine rq 10 27 (v := vi y.Exp) rfl (hS9.se [1, 2]) (fun w' hw' => (Y_load1 (B := aD b1) (i := 4) (cs := kD_ y) (v := vi y.Exp) k_sc_3 rfl rfl (ST.cf hw' (i := 1) rfl) rfl)) ?_
  refine rq 11 28 (v := vi (i64.wrap (x.Exp + y.Exp))) rfl (hS9.se [1, 2]) (fun w' hw' => (Y_add (k := .i64) (a := x.Exp) (b := y.Exp) rfl rfl rfl)) ?_
  refine rA [5] ?_
  refine ra_c 22 (i := 5) rfl rfl rfl (Yc_func (g := 136) (vs := [gR_ x.Num, gR_ y.Num]) k_call_136 rfl (mc rfl (mc rfl mn)) (c_spec_l1Mul x.Num y.Num _  (hS9.inn0 [] rfl) hc)) ?_ ?_
  ·rintro _ w_5 ⟨rfl, hd⟩
   have hS10 := hS9.out00 hd
   refine ⟨(hS10.se [1, 2]), ?_⟩
   refine rA [6] ?_
   refine ra_c 23 (i := 6) rfl rfl rfl (Yc_func (g := 132) (vs := [pt B 0, gR_ r_1]) k_call_132 rfl (mc rfl (mc rfl mn)) (c_spec_l2C_ring c r_1 B _  (hS10.inn [true, false, false, false] rfl [] rfl) hc1)) ?_ ?_
   ·rintro _ w_6 ⟨rfl, hd1⟩
    have hS11 := hS10.out [true, false, false, false] rfl hd1
    refine ⟨(hS11.se [0, 1]), ?_⟩
    refine rA [12] ?_
    refine ra_c 29 (i := 12) rfl rfl rfl (Yc_func (g := 134) (vs := [gR_ r_2, vi (i64.wrap (x.Exp + y.Exp))]) k_call_134 rfl (mc rfl (mc rfl mn)) (c_spec_l2Low r_2 (i64.wrap (x.Exp + y.Exp)) _  (hS11.inn0 [] rfl) hc2)) ?_ ?_
    ·rintro _ w_7 ⟨rfl, hd2⟩
     have hS12 := hS11.out00 hd2
     refine ⟨(hS12.se [0, 1]), ?_⟩
     refine rA [13] ?_
     refine ra_s0 (i := 13) rfl rfl rfl (Ys_store (i := 2) (s := 5) (B := aD b2) (T' := 63) (v := gD_ r_3) (vs := kD_ r_3) (k := 0) (cs' := kD_ r_3) hS12 k_sz_63_5 rfl rfl rfl rfl rfl rfl rfl (lB rfl) rfl rfl) ?_ ?_
     ·rintro _ w_8 ⟨rfl, hS13⟩
      refine ⟨(hS13.se [0, 1]), ?_⟩
      refine ra_done (by kernel_rfl) ?_
      refine cw_ret ?_
      obtain ⟨rfl, rfl⟩ := pr2 (some_inj hF2)
      exact ret1 Tryz.results86 (v1 := gD_ r_3) (resAt_cellA (B := aD b2) (i := 0) (cs := kD_ r_3) (vs := kD_ r_3) rfl k_ag_63 k_sz_63_5 (hS13.cf (i := 2) rfl) rfl rfl) ⟨rfl, (hS13.sN [3])⟩
     exact allR_nil
    exact allR_nil
   exact allR_nil
  exact allR_nil

theorem c_spec_l2C_times (c : Tl2C) (a : TMatrix) (b : TMatrix) (B : Option Addr) (B1 : Option Addr) (c1 n : Nat) (B2 : Option Addr) (c2 n1 : Nat) (w0 : World) (hn : a.Cells.length = n) (hn1 : b.Cells.length = n1) (hS : ST w0 (bl [⟨B, 75, [.bool c.bad], 1⟩]) w0 [⟨B, 75, [.bool c.bad], 1⟩] [⟨B1, (a.Cells.flatMap eN0)⟩, ⟨B2, (b.Cells.flatMap eN0)⟩]) {r_ : TMatrix} {m : Tl2C} (hF : F_spec_l2C_times c a b = some (r_, m)) :
  CV Tryz.prog 39 #[pt B 0, .agg #[vi a.Rows, vi a.Cols, .slice B1 n c1], .agg #[vi b.Rows, vi b.Cols, .slice B2 n1 c2]] w0 (fun v w' => ∃ (B3 : Option Addr) (c3 : Nat), v = (gM_ r_ B3 c3) ∧ ST w0 (bl [⟨B, 75, [.bool c.bad], 1⟩]) w' [⟨B, 75, [.bool m.bad], 1⟩, ⟨B3, 63, (r_.Cells.flatMap eN0), c3 * 5⟩] []) := by
 subst hn
 subst hn1
 unfold F_spec_l2C_times at hF
 refine cv_of_cw 75 Tryz.func39 rfl Tryz.ntmps39 rfl ?_
 refine cw_seq (cw_region ?_)
 refine sS 4 (Ys_box (T := 30) (v := gM_ a B1 c1) (cs := kM_ a B1 c1) (m := 3) hS rfl rfl rfl rfl) ?_
 rintro _ w_ ⟨b1, rfl, hS1⟩
 refine sS 5 (Ys_box (T := 30) (v := gM_ b B2 c2) (cs := kM_ b B2 c2) (m := 3) hS1 rfl rfl rfl rfl) ?_
 rintro _ w_1 ⟨b2, rfl, hS2⟩
 refine sS 6 (Ys_alloc (T := 30) (cs := kN_) (m := 3) hS2 k_zero_30 rfl rfl rfl) ?_
 rintro _ w_2 ⟨b3, rfl, hS3⟩
 refine rw_nil (cw_seq (cw_region ?_))
 refine sQ 12 (Y_fieldAddr (B := aD b1) (i := 0) (s := 0) k_fd_30_0_0_3 k_sz_3_1 rfl rfl) ?_
 refine sQ 13 (Y_load1 (B := aD b1) (i := 0) (cs := kM_ a B1 c1) (v := vi a.Rows) k_sc_3 rfl rfl (hS3.cf (i := 1) rfl) rfl) ?_
 refine sQ 14 (Y_fieldAddr (B := aD b2) (i := 0) (s := 0) k_fd_30_1_1_3 k_sz_3_1 rfl rfl) ?_
 refine sQ 15 (Y_load1 (B := aD b2) (i := 1) (cs := kM_ b B2 c2) (v := vi b.Cols) k_sc_3 rfl rfl (hS3.cf (i := 2) rfl) rfl) ?_
 refine sQ 16 (Y_buildS (zs := kN_) (vs := [(0, vi a.Rows), (1, vi b.Cols)]) (cs := [vi a.Rows, vi b.Cols, .slice none 0 0]) k_pl_30 k_zero_30 rfl (mpc rfl (mpc rfl mpn)) rfl) ?_
 refine sS 7 (Ys_alloc (T := 30) (cs := kN_) (m := 3) hS3 k_zero_30 rfl rfl rfl) ?_
 rintro _ w_3 ⟨b4, rfl, hS4⟩
 refine s0 (Ys_store (i := 4) (s := 3) (B := aD b4) (T' := 30) (v := .agg #[vi a.Rows, vi b.Cols, .slice none 0 0]) (vs := [vi a.Rows, vi b.Cols, .slice none 0 0]) (k := 0) (cs' := [vi a.Rows, vi b.Cols, .slice none 0 0]) hS4 k_sz_30_3 rfl rfl rfl rfl rfl rfl rfl (lB rfl) rfl rfl) ?_
 rintro _ w_4 ⟨rfl, hS5⟩
 refine rw_nil (cw_seq (cw_seq (cw_region ?_)))
 refine sQ 8 (Y_assign (v := vi 0) rfl rfl) (rw_nil ?_)
 obtain ⟨hN, hF⟩ := chk_inv hF
 obtain ⟨z, hz, hF1⟩ := bind_inv hF
 have hS7 := hS5.addNil 63
 refine cw_block ?_
 refine cw_loop (fun k f w => ∃ (i1 : Nat) (bad : Bool) (Cells : List TDyadic) (B4 : Option Addr) (c4 : Nat), FF f [(0, pt B 0), (4, pt (aD b1) 0), (5, pt (aD b2) 0), (6, pt (aD b3) 0), (7, pt (aD b4) 0), (8, vi (i1 : Int))] ∧ ST w0 (bl [⟨B, 75, [.bool c.bad], 1⟩]) w [⟨B, 75, [.bool bad], 1⟩, ⟨aD b1, 30, kM_ a B1 c1, 3⟩, ⟨aD b2, 30, kM_ b B2 c2, 3⟩, ⟨aD b3, 30, kN_, 3⟩, ⟨aD b4, 30, [vi a.Rows, vi b.Cols, .slice B4 Cells.length c4], 3⟩, ⟨B4, 63, (Cells.flatMap eN0), c4 * 5⟩] [⟨B1, (a.Cells.flatMap eN0)⟩, ⟨B2, (b.Cells.flatMap eN0)⟩] ∧ i1 + k = a.Rows.toNat ∧ forN (F_spec_l2C_times_l1 b a) k i1 (bad, Cells) = some z) a.Rows.toNat ⟨0, c.bad, [], none, 0, (FF.cons rfl (FF.cons rfl (FF.cons rfl (FF.cons rfl (FF.cons rfl (FF.cons rfl FF.nil)))))), (hS7.sel [0, 1, 2, 3, 4, 5] rfl rfl), Nat.zero_add _, hz⟩ ?_
 rintro k_ f w ⟨i1, bad, Cells, B4, c4, hf, hS6, hik, hL⟩
 refine cw_seq (cw_seq (cw_region ?_))
 refine sQ 17 (Y_move (v := vi (i1 : Int)) rfl (hf.get 8 5 rfl)) ?_
 refine sQ 18 (Y_fieldAddr (B := aD b1) (i := 0) (s := 0) k_fd_30_0_0_3 k_sz_3_1 rfl (hf.get 4 1 rfl)) ?_
 refine sQ 19 (Y_load1 (B := aD b1) (i := 0) (cs := kM_ a B1 c1) (v := vi a.Rows) k_sc_3 rfl rfl (hS6.cf (i := 1) rfl) rfl) ?_
 refine sQ 20 (Y_lt (k := .i64) (a := (i1 : Int)) (b := a.Rows) rfl rfl rfl) (rw_nil ?_)
 refine cw_cond (b := (decide ((i1 : Int) < a.Rows))) rfl (fun hlt => ?_) (fun hlt => ?_)
 ·skip
  have hlt1 : i1 < a.Rows.toNat := by have h := of_decide_eq_true hlt; omega
  obtain ⟨k_1, rfl⟩ : ∃ k2, k_ = k2 + 1 := ⟨k_ - 1, by omega⟩
  obtain ⟨y, hb, hL1⟩ := forN_go hL
  unfold F_spec_l2C_times_l1 at hb
  refine cw_skip (cw_seq (cw_block (cw_seq (cw_region ?_))))
  refine sQ 9 (Y_assign (v := vi 0) rfl rfl) (rw_nil ?_)
  obtain ⟨hN1, hb⟩ := chk_inv hb
  obtain ⟨z1, hz1, hF2⟩ := bind_inv hb
  refine cw_block ?_
  refine cw_loop (fun k f w => ∃ (j : Nat) (bad1 : Bool) (Cells1 : List TDyadic) (B5 : Option Addr) (c5 : Nat), FF f [(0, pt B 0), (4, pt (aD b1) 0), (5, pt (aD b2) 0), (6, pt (aD b3) 0), (7, pt (aD b4) 0), (8, vi (i1 : Int)), (9, vi (j : Int))] ∧ ST w0 (bl [⟨B, 75, [.bool c.bad], 1⟩]) w [⟨B, 75, [.bool bad1], 1⟩, ⟨aD b1, 30, kM_ a B1 c1, 3⟩, ⟨aD b2, 30, kM_ b B2 c2, 3⟩, ⟨aD b3, 30, kN_, 3⟩, ⟨aD b4, 30, [vi a.Rows, vi b.Cols, .slice B5 Cells1.length c5], 3⟩, ⟨B5, 63, (Cells1.flatMap eN0), c5 * 5⟩] [⟨B1, (a.Cells.flatMap eN0)⟩, ⟨B2, (b.Cells.flatMap eN0)⟩] ∧ j + k = b.Cols.toNat ∧ forN (F_spec_l2C_times_l2 a Cells i1 b bad) k j (bad1, Cells1) = some z1) b.Cols.toNat ⟨0, bad, Cells, B4, c4, (FF.cons (hf.get 0 0 rfl) (FF.cons (hf.get 4 1 rfl) (FF.cons (hf.get 5 2 rfl) (FF.cons (hf.get 6 3 rfl) (FF.cons (hf.get 7 4 rfl) (FF.cons (hf.get 8 5 rfl) (FF.cons rfl FF.nil))))))), (hS6.sel [0, 1, 2, 3, 4, 5] rfl rfl), Nat.zero_add _, hz1⟩ ?_
  rintro k_2 f w ⟨j, bad1, Cells1, B5, c5, hf1, hS8, hik1, hL2⟩
  refine cw_seq (cw_seq (cw_region ?_))
  refine sQ 23 (Y_move (v := vi (j : Int)) rfl (hf1.get 9 6 rfl)) ?_
  refine sQ 24 (Y_fieldAddr (B := aD b2) (i := 0) (s := 0) k_fd_30_1_1_3 k_sz_3_1 rfl (hf1.get 5 2 rfl)) ?_
  refine sQ 25 (Y_load1 (B := aD b2) (i := 1) (cs := kM_ b B2 c2) (v := vi b.Cols) k_sc_3 rfl rfl (hS8.cf (i := 2) rfl) rfl) ?_
  refine sQ 26 (Y_lt (k := .i64) (a := (j : Int)) (b := b.Cols) rfl rfl rfl) (rw_nil ?_)
  refine cw_cond (b := (decide ((j : Int) < b.Cols))) rfl (fun hlt2 => ?_) (fun hlt2 => ?_)
  ·skip
   have hlt3 : j < b.Cols.toNat := by have h := of_decide_eq_true hlt2; omega
   obtain ⟨k_3, rfl⟩ : ∃ k2, k_2 = k2 + 1 := ⟨k_2 - 1, by omega⟩
   obtain ⟨y1, hb1, hL3⟩ := forN_go hL2
   unfold F_spec_l2C_times_l2 at hb1
   refine cw_skip (cw_seq (cw_block (cw_seq (cw_region ?_))))
   refine sQ 29 (Y_buildS (zs := kZ_) (vs := []) (cs := kZ_) k_pl_63 k_zero_63 rfl mpn rfl) ?_
   refine sS 10 (Ys_alloc (T := 63) (cs := kZ_) (m := 5) hS8 k_zero_63 rfl rfl rfl) ?_
   rintro _ w_5 ⟨b5, rfl, hS9⟩
   refine s0 (Ys_store (i := 6) (s := 5) (B := aD b5) (T' := 63) (v := gZ_) (vs := kZ_) (k := 0) (cs' := kZ_) hS9 k_sz_63_5 rfl rfl rfl rfl rfl rfl rfl (lB rfl) rfl rfl) ?_
   rintro _ w_6 ⟨rfl, hS10⟩
   refine rw_nil (cw_seq (cw_seq (cw_region ?_)))
   refine sQ 11 (Y_assign (v := vi 0) rfl rfl) (rw_nil ?_)
   obtain ⟨z2, hz2, hF3⟩ := bind_inv hb1
   refine cw_block ?_
   refine cw_loop (fun k f w => ∃ (bad2 : Bool) (A : Int) (B6 : Int) (C : Int) (D : Int) (Exp : Int) (k_4 : Int), FF f [(0, pt B 0), (4, pt (aD b1) 0), (5, pt (aD b2) 0), (6, pt (aD b3) 0), (7, pt (aD b4) 0), (8, vi (i1 : Int)), (9, vi (j : Int)), (10, pt (aD b5) 0), (11, vi k_4)] ∧ ST w0 (bl [⟨B, 75, [.bool c.bad], 1⟩]) w [⟨B, 75, [.bool bad2], 1⟩, ⟨aD b1, 30, kM_ a B1 c1, 3⟩, ⟨aD b2, 30, kM_ b B2 c2, 3⟩, ⟨aD b3, 30, kN_, 3⟩, ⟨aD b4, 30, [vi a.Rows, vi b.Cols, .slice B5 Cells1.length c5], 3⟩, ⟨B5, 63, (Cells1.flatMap eN0), c5 * 5⟩, ⟨aD b5, 63, [vi A, vi B6, vi C, vi D, vi Exp], 5⟩] [⟨B1, (a.Cells.flatMap eN0)⟩, ⟨B2, (b.Cells.flatMap eN0)⟩] ∧ whX (F_spec_l2C_times_l3 a Cells i1 b j bad) k (bad2, A, B6, C, D, Exp, k_4) = some z2) fuel ⟨bad1, 0, 0, 0, 0, 0, 0, (FF.cons (hf1.get 0 0 rfl) (FF.cons (hf1.get 4 1 rfl) (FF.cons (hf1.get 5 2 rfl) (FF.cons (hf1.get 6 3 rfl) (FF.cons (hf1.get 7 4 rfl) (FF.cons (hf1.get 8 5 rfl) (FF.cons (hf1.get 9 6 rfl) (FF.cons rfl (FF.cons rfl FF.nil))))))))), (hS10.sel [0, 1, 2, 3, 4, 5, 6] rfl rfl), hz2⟩ ?_
   rintro k_5 f w ⟨bad2, A, B6, C, D, Exp, k_4, hf2, hS11, hL4⟩
   obtain ⟨k_6, y2, rfl, hb2, hL5⟩ := whX_go hL4
   unfold F_spec_l2C_times_l3 at hb2
   refine cw_seq (cw_seq (cw_region ?_))
   refine sQ 30 (Y_move (v := vi k_4) rfl (hf2.get 11 8 rfl)) ?_
   refine sQ 31 (Y_fieldAddr (B := aD b1) (i := 0) (s := 0) k_fd_30_1_1_3 k_sz_3_1 rfl (hf2.get 4 1 rfl)) ?_
   refine sQ 32 (Y_load1 (B := aD b1) (i := 1) (cs := kM_ a B1 c1) (v := vi a.Cols) k_sc_3 rfl rfl (hS11.cf (i := 1) rfl) rfl) ?_
   refine sQ 33 (Y_lt (k := .i64) (a := k_4) (b := a.Cols) rfl rfl rfl) ?_
   refine sQ 34 (Y_move (v := .bool (decide (k_4 < a.Cols))) rfl rfl) ?_
   refine sgq 35 (B := (decide (k_4 < a.Cols))) (v := pt B 0) rfl rfl (uT_ 34) (fun hg => (Y_move (v := pt B 0) rfl (hf2.get 0 0 rfl))) ?_
   refine sgq 36 (B := (decide (k_4 < a.Cols))) (v := pt B 0) rfl rfl (uT_ 34) (fun hg1 => (Y_nilCheck (B := B) (i := 0) rfl (gv_of (v := pt B 0) hg1))) ?_
   refine sgq 37 (B := (decide (k_4 < a.Cols))) (v := pt B 0) rfl rfl (uT_ 34) (fun hg2 => (Y_fieldAddr (B := B) (i := 0) (s := 0) k_fd_75_0_0_4 k_sz_4_1 rfl (gv_of (v := pt B 0) hg2))) ?_
   refine sgq 38 (B := (decide (k_4 < a.Cols))) (v := .bool bad2) rfl rfl (uT_ 34) (fun hg3 => (Y_load1 (B := B) (i := 0) (cs := [.bool bad2]) (v := .bool bad2) k_sc_4 rfl (gv_of (v := pt B 0) hg3) (hS11.cf (i := 0) rfl) rfl)) ?_
   refine sgq 39 (B := (decide (k_4 < a.Cols))) (v := .bool (!bad2)) rfl rfl (uT_ 34) (fun hg4 => (Y_not (p := bad2) rfl (gv_of (v := .bool bad2) hg4))) ?_
   refine sQ 40 (Y_and (b := (decide (k_4 < a.Cols))) (z := (!bad2)) rfl rfl rfl rfl) (rw_nil ?_)
   refine cw_cond (b := ((decide (k_4 < a.Cols)) && (!bad2))) rfl (fun hb3 => ?_) (fun hb3 => ?_)
   ·skip
    have hF4 := ct hb2 hb3
    refine cw_skip (cw_seq (cw_block ?_))
    obtain ⟨x, hx, hF4⟩ := bind_inv hF4
    obtain ⟨x1, hx1, hF4⟩ := bind_inv hF4
    obtain ⟨⟨r_1, m1⟩, hc, hF4⟩ := bind_inv hF4
    obtain ⟨⟨r_2, m2⟩, hc1, hF4⟩ := bind_inv hF4
    refine cw_mid (fun f w => FF f [(0, pt B 0), (4, pt (aD b1) 0), (5, pt (aD b2) 0), (6, pt (aD b3) 0), (7, pt (aD b4) 0), (8, vi (i1 : Int)), (9, vi (j : Int)), (10, pt (aD b5) 0), (11, vi k_4)] ∧ ST w0 (bl [⟨B, 75, [.bool c.bad], 1⟩]) w [⟨B, 75, [.bool m2.bad], 1⟩, ⟨aD b1, 30, kM_ a B1 c1, 3⟩, ⟨aD b2, 30, kM_ b B2 c2, 3⟩, ⟨aD b3, 30, kN_, 3⟩, ⟨aD b4, 30, [vi a.Rows, vi b.Cols, .slice B5 Cells1.length c5], 3⟩, ⟨B5, 63, (Cells1.flatMap eN0), c5 * 5⟩, ⟨aD b5, 63, kD_ r_2, 5⟩] [⟨B1, (a.Cells.flatMap eN0)⟩, ⟨B2, (b.Cells.flatMap eN0)⟩]) ?_ ?_
    ·skip
     refine ra_start (hS11.se [1, 2, 3, 4, 5]).fn (by kernel_rfl) ?_
     have hS15 := hS11.drew
     refine rq 0 43 (v := pt B 0) rfl (hS15.se [1, 2, 3, 4, 5]) (fun w' hw' => (Y_move (v := pt B 0) rfl (hf2.get 0 0 rfl))) ?_
     refine rq 2 45 (v := pt B 0) rfl (hS15.se [1, 2, 3, 4, 5]) (fun w' hw' => (Y_move (v := pt B 0) rfl (hf2.get 0 0 rfl))) ?_
     refine rq 3 46 (v := pt (aD b1) 2) rfl (hS15.se [1, 2, 3, 4, 5]) (fun w' hw' => (Y_fieldAddr (B := aD b1) (i := 0) (s := 0) k_fd_30_2_2_28 k_sz_28_1 rfl (hf2.get 4 1 rfl))) ?_
     refine rq 4 47 (v := .slice B1 a.Cells.length c1) rfl (hS15.se [1, 2, 3, 4, 5]) (fun w' hw' => (Y_load1 (B := aD b1) (i := 2) (cs := kM_ a B1 c1) (v := .slice B1 a.Cells.length c1) k_sc_28 rfl rfl (ST.cf hw' (i := 0) rfl) rfl)) ?_
     refine rq 5 48 (v := vi (i1 : Int)) rfl (hS15.se [1, 2, 3, 4, 5]) (fun w' hw' => (Y_move (v := vi (i1 : Int)) rfl (hf2.get 8 5 rfl))) ?_
     refine rq 6 49 (v := pt (aD b1) 1) rfl (hS15.se [1, 2, 3, 4, 5]) (fun w' hw' => (Y_fieldAddr (B := aD b1) (i := 0) (s := 0) k_fd_30_1_1_3 k_sz_3_1 rfl (hf2.get 4 1 rfl))) ?_
     refine rq 7 50 (v := vi a.Cols) rfl (hS15.se [1, 2, 3, 4, 5]) (fun w' hw' => (Y_load1 (B := aD b1) (i := 1) (cs := kM_ a B1 c1) (v := vi a.Cols) k_sc_3 rfl rfl (ST.cf hw' (i := 0) rfl) rfl)) ?_
     refine rq 8 51 (v := vi (i64.wrap ((i1 : Int) * a.Cols))) rfl (hS15.se [1, 2, 3, 4, 5]) (fun w' hw' => (Y_mul (k := .i64) (a := (i1 : Int)) (b := a.Cols) rfl rfl rfl)) ?_
     refine rq 9 52 (v := vi k_4) rfl (hS15.se [1, 2, 3, 4, 5]) (fun w' hw' => (Y_move (v := vi k_4) rfl (hf2.get 11 8 rfl))) ?_
     refine rq 10 53 (v := vi (i64.wrap ((i64.wrap ((i1 : Int) * a.Cols)) + k_4))) rfl (hS15.se [1, 2, 3, 4, 5]) (fun w' hw' => (Y_add (k := .i64) (a := (i64.wrap ((i1 : Int) * a.Cols))) (b := k_4) rfl rfl rfl)) ?_
     refine rq 11 54 (v := pt B1 ((i64.wrap ((i64.wrap ((i1 : Int) * a.Cols)) + k_4)).toNat * 5)) rfl (hS15.se [1, 2, 3, 4, 5]) (fun w' hw' => (Y_index (B := B1) (m := a.Cells.length) (c := c1) (k := .i64) (i := (i64.wrap ((i64.wrap ((i1 : Int) * a.Cols)) + k_4))) k_sl_28_63 k_sz_63_5 rfl rfl rfl (gi_isSome enc_Dyadic_len rfl (ST.rf hw' (i := 0) rfl) hx) (getI_nn hx) (getI_ltI hx rfl))) ?_
     refine rq 12 55 (v := gD_ x) rfl (hS15.se [1, 2, 3, 4, 5]) (fun w' hw' => (Y_loadA (B := B1) (i := (i64.wrap ((i64.wrap ((i1 : Int) * a.Cols)) + k_4)).toNat * 5) (cs := (a.Cells.flatMap eN0)) (vs := kD_ x) k_ag_63 k_sz_63_5 rfl rfl (ST.rf hw' (i := 0) rfl) (enc_Dyadic_len x) (gi_seg enc_Dyadic_len hx))) ?_
     refine rq 13 56 (v := pt (aD b2) 2) rfl (hS15.se [1, 2, 3, 4, 5]) (fun w' hw' => (Y_fieldAddr (B := aD b2) (i := 0) (s := 0) k_fd_30_2_2_28 k_sz_28_1 rfl (hf2.get 5 2 rfl))) ?_
     refine rq 14 57 (v := .slice B2 b.Cells.length c2) rfl (hS15.se [1, 2, 3, 4, 5]) (fun w' hw' => (Y_load1 (B := aD b2) (i := 2) (cs := kM_ b B2 c2) (v := .slice B2 b.Cells.length c2) k_sc_28 rfl rfl (ST.cf hw' (i := 1) rfl) rfl)) ?_
     refine rq 15 58 (v := vi k_4) rfl (hS15.se [1, 2, 3, 4, 5]) (fun w' hw' => (Y_move (v := vi k_4) rfl (hf2.get 11 8 rfl))) ?_
     refine rq 16 59 (v := pt (aD b2) 1) rfl (hS15.se [1, 2, 3, 4, 5]) (fun w' hw' => (Y_fieldAddr (B := aD b2) (i := 0) (s := 0) k_fd_30_1_1_3 k_sz_3_1 rfl (hf2.get 5 2 rfl))) ?_
     refine rq 17 60 (v := vi b.Cols) rfl (hS15.se [1, 2, 3, 4, 5]) (fun w' hw' => (Y_load1 (B := aD b2) (i := 1) (cs := kM_ b B2 c2) (v := vi b.Cols) k_sc_3 rfl rfl (ST.cf hw' (i := 1) rfl) rfl)) ?_
     refine rq 18 61 (v := vi (i64.wrap (k_4 * b.Cols))) rfl (hS15.se [1, 2, 3, 4, 5]) (fun w' hw' => (Y_mul (k := .i64) (a := k_4) (b := b.Cols) rfl rfl rfl)) ?_
     refine rq 19 62 (v := vi (j : Int)) rfl (hS15.se [1, 2, 3, 4, 5]) (fun w' hw' => (Y_move (v := vi (j : Int)) rfl (hf2.get 9 6 rfl))) ?_
     refine rq 20 63 (v := vi (i64.wrap ((i64.wrap (k_4 * b.Cols)) + (j : Int)))) rfl (hS15.se [1, 2, 3, 4, 5]) (fun w' hw' => (Y_add (k := .i64) (a := (i64.wrap (k_4 * b.Cols))) (b := (j : Int)) rfl rfl rfl)) ?_
     refine rq 21 64 (v := pt B2 ((i64.wrap ((i64.wrap (k_4 * b.Cols)) + (j : Int))).toNat * 5)) rfl (hS15.se [1, 2, 3, 4, 5]) (fun w' hw' => (Y_index (B := B2) (m := b.Cells.length) (c := c2) (k := .i64) (i := (i64.wrap ((i64.wrap (k_4 * b.Cols)) + (j : Int)))) k_sl_28_63 k_sz_63_5 rfl rfl rfl (gi_isSome enc_Dyadic_len rfl (ST.rf hw' (i := 1) rfl) hx1) (getI_nn hx1) (getI_ltI hx1 rfl))) ?_
     refine rq 22 65 (v := gD_ x1) rfl (hS15.se [1, 2, 3, 4, 5]) (fun w' hw' => (Y_loadA (B := B2) (i := (i64.wrap ((i64.wrap (k_4 * b.Cols)) + (j : Int))).toNat * 5) (cs := (b.Cells.flatMap eN0)) (vs := kD_ x1) k_ag_63 k_sz_63_5 rfl rfl (ST.rf hw' (i := 1) rfl) (enc_Dyadic_len x1) (gi_seg enc_Dyadic_len hx1))) ?_
     refine rA [1, 23] ?_
     refine ra_y 44 (i := 1) (v := .agg #[vi A, vi B6, vi C, vi D, vi Exp]) rfl rfl rfl (Y_loadA (B := aD b5) (i := 0) (cs := [vi A, vi B6, vi C, vi D, vi Exp]) (vs := [vi A, vi B6, vi C, vi D, vi Exp]) k_ag_63 k_sz_63_5 rfl (hf2.get 10 7 rfl) (hS15.cf (i := 6) rfl) rfl rfl) (hS15.se [1, 2, 3, 4, 5]) ?_ ?_
     ·skip
      refine rA [23] ?_
      refine ra_c 66 (i := 23) rfl rfl rfl (Yc_func (g := 86) (vs := [pt B 0, gD_ x, gD_ x1]) k_call_86 rfl (mc rfl (mc rfl (mc rfl mn))) (c_spec_l2C_mul (Tl2C.mk bad2) x x1 B _  (hS15.inn [true, false, false, false, false, false, false] rfl [] rfl) hc)) ?_ ?_
      ·rintro _ w_7 ⟨rfl, hd⟩
       have hS16 := hS15.out [true, false, false, false, false, false, false] rfl hd
       refine ⟨(hS16.se [0, 1, 2, 3, 4]), ?_⟩
       refine rA [24] ?_
       refine ra_c 67 (i := 24) rfl rfl rfl (Yc_func (g := 85) (vs := [pt B 0, .agg #[vi A, vi B6, vi C, vi D, vi Exp], gD_ r_1]) k_call_85 rfl (mc rfl (mc rfl (mc rfl mn))) (c_spec_l2C_add m1 (TDyadic.mk (TRing.mk A B6 C D) Exp) r_1 B _  (hS16.inn [false, false, false, false, false, false, true] rfl [] rfl) hc1)) ?_ ?_
       ·rintro _ w_8 ⟨rfl, hd1⟩
        have hS17 := hS16.out [false, false, false, false, false, false, true] rfl hd1
        refine ⟨(hS17.se [0, 1, 2, 3, 4]), ?_⟩
        refine rA [25] ?_
        refine ra_s0 (i := 25) rfl rfl rfl (Ys_store (i := 5) (s := 5) (B := aD b5) (T' := 63) (v := gD_ r_2) (vs := kD_ r_2) (k := 0) (cs' := kD_ r_2) hS17 k_sz_63_5 rfl (hf2.get 10 7 rfl) rfl rfl rfl rfl rfl (lB rfl) rfl rfl) ?_ ?_
        ·rintro _ w_9 ⟨rfl, hS18⟩
         refine ⟨(hS18.se [0, 1, 2, 3, 4]), ?_⟩
         refine ra_done (by kernel_rfl) ?_
         exact ⟨(FF.cons (hf2.get 0 0 rfl) (FF.cons (hf2.get 4 1 rfl) (FF.cons (hf2.get 5 2 rfl) (FF.cons (hf2.get 6 3 rfl) (FF.cons (hf2.get 7 4 rfl) (FF.cons (hf2.get 8 5 rfl) (FF.cons (hf2.get 9 6 rfl) (FF.cons (hf2.get 10 7 rfl) (FF.cons (hf2.get 11 8 rfl) FF.nil))))))))), (hS18.sel [6, 0, 1, 2, 3, 4, 5] rfl rfl)⟩
        exact allR_nil
       exact allR_nil
      exact allR_nil
     refine ra_c 66 (i := 23) rfl rfl rfl (Yc_func (g := 86) (vs := [pt B 0, gD_ x, gD_ x1]) k_call_86 rfl (mc rfl (mc rfl (mc rfl mn))) (c_spec_l2C_mul (Tl2C.mk bad2) x x1 B _  (hS15.inn [true, false, false, false, false, false, false] rfl [] rfl) hc)) ?_ ?_
     ·rintro _ w_10 ⟨rfl, hd2⟩
      have hS19 := hS15.out [true, false, false, false, false, false, false] rfl hd2
      refine ⟨(hS19.se [0, 1, 2, 3, 4]), ?_⟩
      refine rA [1] ?_
      refine ra_y 44 (i := 1) (v := .agg #[vi A, vi B6, vi C, vi D, vi Exp]) rfl rfl rfl (Y_loadA (B := aD b5) (i := 0) (cs := [vi A, vi B6, vi C, vi D, vi Exp]) (vs := [vi A, vi B6, vi C, vi D, vi Exp]) k_ag_63 k_sz_63_5 rfl (hf2.get 10 7 rfl) (hS19.cf (i := 5) rfl) rfl rfl) (hS19.se [0, 1, 2, 3, 4]) ?_ ?_
      ·skip
       refine rA [24] ?_
       refine ra_c 67 (i := 24) rfl rfl rfl (Yc_func (g := 85) (vs := [pt B 0, .agg #[vi A, vi B6, vi C, vi D, vi Exp], gD_ r_1]) k_call_85 rfl (mc rfl (mc rfl (mc rfl mn))) (c_spec_l2C_add m1 (TDyadic.mk (TRing.mk A B6 C D) Exp) r_1 B _  (hS19.inn [false, false, false, false, false, false, true] rfl [] rfl) hc1)) ?_ ?_
       ·rintro _ w_11 ⟨rfl, hd3⟩
        have hS20 := hS19.out [false, false, false, false, false, false, true] rfl hd3
        refine ⟨(hS20.se [0, 1, 2, 3, 4]), ?_⟩
        refine rA [25] ?_
        refine ra_s0 (i := 25) rfl rfl rfl (Ys_store (i := 5) (s := 5) (B := aD b5) (T' := 63) (v := gD_ r_2) (vs := kD_ r_2) (k := 0) (cs' := kD_ r_2) hS20 k_sz_63_5 rfl (hf2.get 10 7 rfl) rfl rfl rfl rfl rfl (lB rfl) rfl rfl) ?_ ?_
        ·rintro _ w_12 ⟨rfl, hS21⟩
         refine ⟨(hS21.se [0, 1, 2, 3, 4]), ?_⟩
         refine ra_done (by kernel_rfl) ?_
         exact ⟨(FF.cons (hf2.get 0 0 rfl) (FF.cons (hf2.get 4 1 rfl) (FF.cons (hf2.get 5 2 rfl) (FF.cons (hf2.get 6 3 rfl) (FF.cons (hf2.get 7 4 rfl) (FF.cons (hf2.get 8 5 rfl) (FF.cons (hf2.get 9 6 rfl) (FF.cons (hf2.get 10 7 rfl) (FF.cons (hf2.get 11 8 rfl) FF.nil))))))))), (hS21.sel [6, 0, 1, 2, 3, 4, 5] rfl rfl)⟩
        exact allR_nil
       exact allR_nil
      exact allR_nil
     exact allR_nil
    rintro f w ⟨hf3, hS14⟩
    refine cw_region ?_
    refine sQ 41 (Y_move (v := vi k_4) rfl (hf3.get 11 8 rfl)) ?_
    refine sQ 42 (Y_add (k := .i64) (a := k_4) (b := 1) rfl rfl rfl) ?_
    refine sQ 11 (Y_assign (v := vi (i64.wrap (k_4 + 1))) rfl rfl) (rw_nil ?_)
    obtain rfl := some_inj hF4
    exact ⟨k_6, Nat.lt_succ_self _, m2.bad, r_2.Num.A, r_2.Num.B, r_2.Num.C, r_2.Num.D, r_2.Exp, (i64.wrap (k_4 + 1)), (FF.cons (hf3.get 0 0 rfl) (FF.cons (hf3.get 4 1 rfl) (FF.cons (hf3.get 5 2 rfl) (FF.cons (hf3.get 6 3 rfl) (FF.cons (hf3.get 7 4 rfl) (FF.cons (hf3.get 8 5 rfl) (FF.cons (hf3.get 9 6 rfl) (FF.cons (hf3.get 10 7 rfl) (FF.cons rfl FF.nil))))))))), (hS14.sel [0, 1, 2, 3, 4, 5, 6] rfl rfl), hL5⟩
   ·skip
    have hF5 := cf' hb2 hb3
    refine cw_exit rfl ?_
    obtain rfl := some_inj hF5
    obtain rfl := some_inj hL5
    refine cw_region ?_
    refine sQ 68 (Y_fieldAddr (B := aD b4) (i := 0) (s := 0) k_fd_30_2_2_28 k_sz_28_1 rfl (hf2.get 7 4 rfl)) ?_
    refine sQ 69 (Y_load1 (B := aD b4) (i := 2) (cs := [vi a.Rows, vi b.Cols, .slice B5 Cells1.length c5]) (v := .slice B5 Cells1.length c5) k_sc_28 rfl rfl (hS11.cf (i := 4) rfl) rfl) ?_
    refine sQ 70 (Y_loadA (B := aD b5) (i := 0) (cs := [vi A, vi B6, vi C, vi D, vi Exp]) (vs := [vi A, vi B6, vi C, vi D, vi Exp]) k_ag_63 k_sz_63_5 rfl (hf2.get 10 7 rfl) (hS11.cf (i := 6) rfl) rfl rfl) ?_
    refine sS 71 (Ys_bslice (s := 5) (len := 1) (vs := [(0, .agg #[vi A, vi B6, vi C, vi D, vi Exp])]) (cs := [vi A, vi B6, vi C, vi D, vi Exp]) (zs := kZ_) (m := 5) hS11 k_sl_28_63 k_sz_63_5 k_zc_63 rfl (mpc rfl mpn) rfl rfl rfl (by kernel_rfl) (by kernel_rfl) rfl) ?_
    rintro _ w_13 ⟨b6, rfl, hS22⟩
    obtain ⟨hap, hF3⟩ := chk_inv hF3
    refine sS 72 (Ys_append (s := 5) (by' := 40) (i := 5) (nn := Cells1.length) (c := c5) (k := 1) (len := (Cells1 ++ [(TDyadic.mk (TRing.mk A B6 C D) Exp)]).length) (B := B5) (xs := ([(TDyadic.mk (TRing.mk A B6 C D) Exp)].flatMap eN0)) (cs' := ((Cells1 ++ [(TDyadic.mk (TRing.mk A B6 C D) Exp)]).flatMap eN0)) hS22 k_sl_28_63 k_sz_63_5 k_by_63_40 k_zero_63 rfl (by decide) rfl rfl rfl rfl (fm_lenn (l := Cells1) enc_Dyadic_len rfl) rfl (hS22.cf (i := 7) rfl) (fm_lenn (l := [(TDyadic.mk (TRing.mk A B6 C D) Exp)]) enc_Dyadic_len rfl) (fm_one' (enc := eN0) enc_Dyadic_one [(TDyadic.mk (TRing.mk A B6 C D) Exp)]) (by have := hap; omega) (by have := hap; simp only [maxLen]; omega) (fm_app _ _) (app_len (l := Cells1) (l' := [(TDyadic.mk (TRing.mk A B6 C D) Exp)]) rfl rfl)) ?_
    rintro _ w_14 ⟨B7, c6, rfl, hS23⟩
    refine sQ 73 (Y_fieldAddr (B := aD b4) (i := 0) (s := 0) k_fd_30_2_2_28 k_sz_28_1 rfl (hf2.get 7 4 rfl)) ?_
    refine s0 (Ys_store (i := 4) (s := 1) (B := aD b4) (T' := 30) (v := .slice B7 ((Cells1 ++ [(TDyadic.mk (TRing.mk A B6 C D) Exp)]).length) c6) (vs := [.slice B7 ((Cells1 ++ [(TDyadic.mk (TRing.mk A B6 C D) Exp)]).length) c6]) (k := 2) (cs' := [vi a.Rows, vi b.Cols, .slice B7 ((Cells1 ++ [(TDyadic.mk (TRing.mk A B6 C D) Exp)]).length) c6]) hS23 k_sz_28_1 rfl rfl rfl rfl rfl rfl rfl (lB rfl) rfl rfl) ?_
    rintro _ w_15 ⟨rfl, hS24⟩
    refine rw_nil (cw_region ?_)
    refine sQ 27 (Y_move (v := vi (j : Int)) rfl (hf2.get 9 6 rfl)) ?_
    refine sQ 28 (Y_add (k := .i64) (a := (j : Int)) (b := 1) rfl rfl rfl) ?_
    refine sQ 9 (Y_assign (v := vi (i64.wrap ((j : Int) + 1))) rfl rfl) (rw_nil ?_)
    obtain rfl := some_inj hF3
    exact ⟨k_3, Nat.lt_succ_self _, j + 1, bad2, (Cells1 ++ [(TDyadic.mk (TRing.mk A B6 C D) Exp)]), B7, c6, (FF.cons (hf2.get 0 0 rfl) (FF.cons (hf2.get 4 1 rfl) (FF.cons (hf2.get 5 2 rfl) (FF.cons (hf2.get 6 3 rfl) (FF.cons (hf2.get 7 4 rfl) (FF.cons (hf2.get 8 5 rfl) (FF.cons (congrArg (Value.int .i64) (wr_succ hlt3 hN1)) FF.nil))))))), (hS24.sel [0, 1, 2, 3, 4, 5] rfl rfl), (by omega), hL3⟩
  ·skip
   obtain rfl : k_2 = 0 := by have h := of_decide_eq_false hlt2; omega
   refine cw_exit rfl ?_
   obtain rfl := some_inj hL2
   refine cw_region ?_
   refine sQ 21 (Y_move (v := vi (i1 : Int)) rfl (hf1.get 8 5 rfl)) ?_
   refine sQ 22 (Y_add (k := .i64) (a := (i1 : Int)) (b := 1) rfl rfl rfl) ?_
   refine sQ 8 (Y_assign (v := vi (i64.wrap ((i1 : Int) + 1))) rfl rfl) (rw_nil ?_)
   obtain rfl := some_inj hF2
   exact ⟨k_1, Nat.lt_succ_self _, i1 + 1, bad1, Cells1, B5, c5, (FF.cons (hf1.get 0 0 rfl) (FF.cons (hf1.get 4 1 rfl) (FF.cons (hf1.get 5 2 rfl) (FF.cons (hf1.get 6 3 rfl) (FF.cons (hf1.get 7 4 rfl) (FF.cons (congrArg (Value.int .i64) (wr_succ hlt1 hN)) FF.nil)))))), (hS8.sel [0, 1, 2, 3, 4, 5] rfl rfl), (by omega), hL1⟩
 ·skip
  obtain rfl : k_ = 0 := by have h := of_decide_eq_false hlt; omega
  refine cw_exit rfl ?_
  obtain rfl := some_inj hL
  refine cw_seq (cw_region ?_)
  refine sQ 74 (Y_loadA (B := aD b4) (i := 0) (cs := [vi a.Rows, vi b.Cols, .slice B4 Cells.length c4]) (vs := [vi a.Rows, vi b.Cols, .slice B4 Cells.length c4]) k_ag_30 k_sz_30_3 rfl (hf.get 7 4 rfl) (hS6.cf (i := 4) rfl) rfl rfl) ?_
  refine s0 (Ys_store (i := 3) (s := 3) (B := aD b3) (T' := 30) (v := .agg #[vi a.Rows, vi b.Cols, .slice B4 Cells.length c4]) (vs := [vi a.Rows, vi b.Cols, .slice B4 Cells.length c4]) (k := 0) (cs' := [vi a.Rows, vi b.Cols, .slice B4 Cells.length c4]) hS6 k_sz_30_3 rfl (hf.get 6 3 rfl) rfl rfl rfl rfl rfl (lB rfl) rfl rfl) ?_
  rintro _ w_16 ⟨rfl, hS25⟩
  refine rw_nil (cw_ret ?_)
  obtain ⟨rfl, rfl⟩ := pr2 (some_inj hF1)
  exact ret1 Tryz.results39 (v1 := .agg #[vi a.Rows, vi b.Cols, .slice B4 Cells.length c4]) (resAt_cellA (B := aD b3) (i := 0) (cs := [vi a.Rows, vi b.Cols, .slice B4 Cells.length c4]) (vs := [vi a.Rows, vi b.Cols, .slice B4 Cells.length c4]) (hf.get 6 3 rfl) k_ag_30 k_sz_30_3 (hS25.cf (i := 3) rfl) rfl rfl) ⟨B4, c4, rfl, (hS25.sN [0, 5])⟩

theorem c_spec_l1Turn (x : TRing) (k_ : Int)  (w0 : World)  (hS : ST w0 [] w0 [] []) {r_ : TRing} (hF : F_spec_l1Turn x k_ = some r_) :
  CV Tryz.prog 128 #[gR_ x, vi k_] w0 (fun v w' => v = (gR_ r_) ∧ ST w0 [] w' [] []) := by
 unfold F_spec_l1Turn at hF
 refine cv_of_cw 24 Tryz.func128 rfl Tryz.ntmps128 rfl ?_
 refine cw_seq (cw_region ?_)
 refine sS 2 (Ys_box (T := 61) (v := gR_ x) (cs := kR_ x) (m := 4) hS rfl rfl rfl rfl) ?_
 rintro _ w_ ⟨b, rfl, hS1⟩
 refine sS 4 (Ys_alloc (T := 61) (cs := [vi 0, vi 0, vi 0, vi 0]) (m := 4) hS1 k_zero_61 rfl rfl rfl) ?_
 rintro _ w_1 ⟨b1, rfl, hS2⟩
 refine rw_nil (cw_seq (cw_seq (cw_region ?_)))
 refine sQ 5 (Y_move (v := vi k_) rfl rfl) ?_
 refine sQ 6 (Y_rem (k := .i64) (a := k_) (b := 8) rfl rfl rfl (by decide)) ?_
 refine sQ 7 (Y_add (k := .i64) (a := (Int.tmod k_ 8)) (b := 8) rfl rfl rfl) ?_
 refine sQ 8 (Y_rem (k := .i64) (a := (i64.wrap ((Int.tmod k_ 8) + 8))) (b := 8) rfl rfl rfl (by decide)) ?_
 refine sQ 1 (Y_assign (v := vi (Int.tmod (i64.wrap ((Int.tmod k_ 8) + 8)) 8)) rfl rfl) (rw_nil ?_)
 obtain ⟨z, hz, hF1⟩ := bind_inv hF
 refine cw_block ?_
 refine cw_loop (fun k f w => ∃ (k_1 : Int) (A : Int) (B : Int) (C : Int) (D : Int), FF f [(1, vi k_1), (2, pt (aD b) 0), (4, pt (aD b1) 0)] ∧ ST w0 [] w [⟨aD b, 61, [vi A, vi B, vi C, vi D], 4⟩, ⟨aD b1, 61, [vi 0, vi 0, vi 0, vi 0], 4⟩] [] ∧ whX F_spec_l1Turn_l1 k (k_1, A, B, C, D) = some z) fuel ⟨(Int.tmod (i64.wrap ((Int.tmod k_ 8) + 8)) 8), x.A, x.B, x.C, x.D, (FF.cons rfl (FF.cons rfl (FF.cons rfl FF.nil))), (hS2.sel [0, 1] rfl rfl), hz⟩ ?_
 rintro k_2 f w ⟨k_1, A, B, C, D, hf, hS3, hL⟩
 obtain ⟨k_3, y, rfl, hb, hL1⟩ := whX_go hL
 unfold F_spec_l1Turn_l1 at hb
 refine cw_seq (cw_seq (cw_region ?_))
 refine sQ 9 (Y_move (v := vi k_1) rfl (hf.get 1 0 rfl)) ?_
 refine sQ 10 (Y_gt (k := .i64) (a := k_1) (b := 0) rfl rfl rfl) (rw_nil ?_)
 refine cw_cond (b := (decide (0 < k_1))) rfl (fun hb1 => ?_) (fun hb1 => ?_)
 ·skip
  have hF2 := ct hb hb1
  refine cw_skip (cw_seq (cw_block (cw_region ?_)))
  refine sQ 13 (Y_fieldAddr (B := aD b) (i := 0) (s := 0) k_fd_61_3_3_3 k_sz_3_1 rfl (hf.get 2 1 rfl)) ?_
  refine sQ 14 (Y_load1 (B := aD b) (i := 3) (cs := [vi A, vi B, vi C, vi D]) (v := vi D) k_sc_3 rfl rfl (hS3.cf (i := 0) rfl) rfl) ?_
  refine sQ 15 (Y_neg (k := .i64) (a := D) rfl rfl) ?_
  refine sQ 16 (Y_fieldAddr (B := aD b) (i := 0) (s := 0) k_fd_61_0_0_3 k_sz_3_1 rfl (hf.get 2 1 rfl)) ?_
  refine sQ 17 (Y_load1 (B := aD b) (i := 0) (cs := [vi A, vi B, vi C, vi D]) (v := vi A) k_sc_3 rfl rfl (hS3.cf (i := 0) rfl) rfl) ?_
  refine sQ 18 (Y_fieldAddr (B := aD b) (i := 0) (s := 0) k_fd_61_1_1_3 k_sz_3_1 rfl (hf.get 2 1 rfl)) ?_
  refine sQ 19 (Y_load1 (B := aD b) (i := 1) (cs := [vi A, vi B, vi C, vi D]) (v := vi B) k_sc_3 rfl rfl (hS3.cf (i := 0) rfl) rfl) ?_
  refine sQ 20 (Y_fieldAddr (B := aD b) (i := 0) (s := 0) k_fd_61_2_2_3 k_sz_3_1 rfl (hf.get 2 1 rfl)) ?_
  refine sQ 21 (Y_load1 (B := aD b) (i := 2) (cs := [vi A, vi B, vi C, vi D]) (v := vi C) k_sc_3 rfl rfl (hS3.cf (i := 0) rfl) rfl) ?_
  refine sQ 22 (Y_buildS (zs := [vi 0, vi 0, vi 0, vi 0]) (vs := [(0, vi (i64.wrap (-D))), (1, vi A), (2, vi B), (3, vi C)]) (cs := [vi (i64.wrap (-D)), vi A, vi B, vi C]) k_pl_61 k_zero_61 rfl (mpc rfl (mpc rfl (mpc rfl (mpc rfl mpn)))) rfl) ?_
  refine s0 (Ys_store (i := 0) (s := 4) (B := aD b) (T' := 61) (v := .agg #[vi (i64.wrap (-D)), vi A, vi B, vi C]) (vs := [vi (i64.wrap (-D)), vi A, vi B, vi C]) (k := 0) (cs' := [vi (i64.wrap (-D)), vi A, vi B, vi C]) hS3 k_sz_61_4 rfl (hf.get 2 1 rfl) rfl rfl rfl rfl rfl (lB rfl) rfl rfl) ?_
  rintro _ w_2 ⟨rfl, hS4⟩
  refine rw_nil (cw_region ?_)
  refine sQ 11 (Y_move (v := vi k_1) rfl (hf.get 1 0 rfl)) ?_
  refine sQ 12 (Y_sub (k := .i64) (a := k_1) (b := 1) rfl rfl rfl) ?_
  refine sQ 1 (Y_assign (v := vi (i64.wrap (k_1 - 1))) rfl rfl) (rw_nil ?_)
  obtain rfl := some_inj hF2
  exact ⟨k_3, Nat.lt_succ_self _, (i64.wrap (k_1 - 1)), (i64.wrap (-D)), A, B, C, (FF.cons rfl (FF.cons (hf.get 2 1 rfl) (FF.cons (hf.get 4 2 rfl) FF.nil))), (hS4.sel [0, 1] rfl rfl), hL1⟩
 ·skip
  have hF3 := cf' hb hb1
  refine cw_exit rfl ?_
  obtain rfl := some_inj hF3
  obtain rfl := some_inj hL1
  refine cw_seq (cw_region ?_)
  refine sQ 23 (Y_loadA (B := aD b) (i := 0) (cs := [vi A, vi B, vi C, vi D]) (vs := [vi A, vi B, vi C, vi D]) k_ag_61 k_sz_61_4 rfl (hf.get 2 1 rfl) (hS3.cf (i := 0) rfl) rfl rfl) ?_
  refine s0 (Ys_store (i := 1) (s := 4) (B := aD b1) (T' := 61) (v := .agg #[vi A, vi B, vi C, vi D]) (vs := [vi A, vi B, vi C, vi D]) (k := 0) (cs' := [vi A, vi B, vi C, vi D]) hS3 k_sz_61_4 rfl (hf.get 4 2 rfl) rfl rfl rfl rfl rfl (lB rfl) rfl rfl) ?_
  rintro _ w_3 ⟨rfl, hS5⟩
  refine rw_nil (cw_ret ?_)
  obtain rfl := some_inj hF1
  exact ret1 Tryz.results128 (v1 := .agg #[vi A, vi B, vi C, vi D]) (resAt_cellA (B := aD b1) (i := 0) (cs := [vi A, vi B, vi C, vi D]) (vs := [vi A, vi B, vi C, vi D]) (hf.get 4 2 rfl) k_ag_61 k_sz_61_4 (hS5.cf (i := 1) rfl) rfl rfl) ⟨rfl, (hS5.sN [])⟩

theorem c_spec_l2Power (k_ : Int)  (w0 : World)  (hS : ST w0 [] w0 [] []) {r_ : TDyadic} (hF : F_spec_l2Power k_ = some r_) :
  CV Tryz.prog 82 #[vi k_] w0 (fun v w' => v = (gD_ r_) ∧ ST w0 [] w' [] []) := by
 unfold F_spec_l2Power at hF
 refine cv_of_cw 7 Tryz.func82 rfl Tryz.ntmps82 rfl ?_
 refine cw_seq (cw_region ?_)
 refine sS 2 (Ys_alloc (T := 63) (cs := kZ_) (m := 5) hS k_zero_63 rfl rfl rfl) ?_
 rintro _ w_ ⟨b, rfl, hS1⟩
 refine rw_nil (cw_seq (cw_region ?_))
 refine sQ 3 (Y_buildS (zs := [vi 0, vi 0, vi 0, vi 0]) (vs := [(0, vi 1)]) (cs := [vi 1, vi 0, vi 0, vi 0]) k_pl_61 k_zero_61 rfl (mpc rfl mpn) rfl) ?_
 refine sQ 4 (Y_move (v := vi k_) rfl rfl) ?_
 obtain ⟨r_1, hc, hF⟩ := bind_inv hF
 refine sc 5 rfl rfl (Yc_func (g := 128) (vs := [.agg #[vi 1, vi 0, vi 0, vi 0], vi k_]) k_call_128 rfl (mc rfl (mc rfl mn)) (c_spec_l1Turn (TRing.mk 1 0 0 0) k_ _  (hS1.inn0 [] rfl) hc)) ?_
 rintro _ w_1 ⟨rfl, hd⟩
 have hS2 := hS1.out00 hd
 refine sQ 6 (Y_buildS (zs := kZ_) (vs := [(0, gR_ r_1)]) (cs := [vi r_1.A, vi r_1.B, vi r_1.C, vi r_1.D, vi 0]) k_pl_63 k_zero_63 rfl (mpc rfl mpn) rfl) ?_
 refine s0 (Ys_store (i := 0) (s := 5) (B := aD b) (T' := 63) (v := .agg #[vi r_1.A, vi r_1.B, vi r_1.C, vi r_1.D, vi 0]) (vs := [vi r_1.A, vi r_1.B, vi r_1.C, vi r_1.D, vi 0]) (k := 0) (cs' := [vi r_1.A, vi r_1.B, vi r_1.C, vi r_1.D, vi 0]) hS2 k_sz_63_5 rfl rfl rfl rfl rfl rfl rfl (lB rfl) rfl rfl) ?_
 rintro _ w_2 ⟨rfl, hS3⟩
 refine rw_nil (cw_ret ?_)
 obtain rfl := some_inj hF
 exact ret1 Tryz.results82 (v1 := .agg #[vi r_1.A, vi r_1.B, vi r_1.C, vi r_1.D, vi 0]) (resAt_cellA (B := aD b) (i := 0) (cs := [vi r_1.A, vi r_1.B, vi r_1.C, vi r_1.D, vi 0]) (vs := [vi r_1.A, vi r_1.B, vi r_1.C, vi r_1.D, vi 0]) rfl k_ag_63 k_sz_63_5 (hS3.cf (i := 0) rfl) rfl rfl) ⟨rfl, (hS3.sN [])⟩

theorem c_spec_l6Bit (n : Int) (k_ : Int) (q : Int)  (w0 : World)  (hS : ST w0 [] w0 [] []) {r_ : Int} (hF : F_spec_l6Bit n k_ q = some r_) :
  CV Tryz.prog 164 #[vi n, vi k_, vi q] w0 (fun v w' => v = vi r_ ∧ ST w0 [] w' [] []) := by
 unfold F_spec_l6Bit at hF
 refine cv_of_cw 15 Tryz.func164 rfl Tryz.ntmps164 rfl ?_
 refine cw_seq (cw_region ?_)
 refine sQ 6 (Y_assign (v := vi 0) rfl rfl) (rw_nil (cw_seq (cw_region ?_)))
 refine sQ 7 (Y_move (v := vi k_) rfl rfl) ?_
 refine sQ 8 (Y_move (v := vi n) rfl rfl) ?_
 refine sQ 9 (Y_sub (k := .i64) (a := n) (b := 1) rfl rfl rfl) ?_
 refine sQ 10 (Y_move (v := vi q) rfl rfl) ?_
 refine sQ 11 (Y_sub (k := .i64) (a := (i64.wrap (n - 1))) (b := q) rfl rfl rfl) ?_
 refine sQ 12 (Y_conv (k := .i64) (a := (i64.wrap ((i64.wrap (n - 1)) - q))) (T := 3) (T' := 53) k_us_3 k_int_53_u64 rfl rfl) ?_
 obtain ⟨hsh, hF⟩ := chk_inv hF
 refine sQ 13 (Y_shr (k := .i64) (a := k_) (k' := .u64) (b := (IntKind.u64.wrap (i64.wrap ((i64.wrap (n - 1)) - q)))) rfl rfl rfl hsh) ?_
 refine sQ 14 (Y_band (k := .i64) (a := (shrK .i64 k_ (IntKind.u64.wrap (i64.wrap ((i64.wrap (n - 1)) - q))))) (b := 1) rfl rfl rfl) ?_
 refine sQ 6 (Y_assign (v := vi (bits .and .i64 (shrK .i64 k_ (IntKind.u64.wrap (i64.wrap ((i64.wrap (n - 1)) - q)))) 1)) rfl rfl) (rw_nil (cw_ret ?_))
 obtain rfl := some_inj hF
 exact ret1 Tryz.results164 (v1 := vi (bits .and .i64 (shrK .i64 k_ (IntKind.u64.wrap (i64.wrap ((i64.wrap (n - 1)) - q)))) 1)) (resAt_tmp rfl) ⟨rfl, (hS.sN [])⟩

theorem c_spec_l1Neg (x : TRing)  (w0 : World)  (hS : ST w0 [] w0 [] []) {r_ : TRing} (hF : F_spec_l1Neg x = some r_) :
  CV Tryz.prog 193 #[gR_ x] w0 (fun v w' => v = (gR_ r_) ∧ ST w0 [] w' [] []) := by
 unfold F_spec_l1Neg at hF
 refine cv_of_cw 16 Tryz.func193 rfl Tryz.ntmps193 rfl ?_
 refine cw_seq (cw_region ?_)
 refine sS 1 (Ys_box (T := 61) (v := gR_ x) (cs := kR_ x) (m := 4) hS rfl rfl rfl rfl) ?_
 rintro _ w_ ⟨b, rfl, hS1⟩
 refine sS 2 (Ys_alloc (T := 61) (cs := [vi 0, vi 0, vi 0, vi 0]) (m := 4) hS1 k_zero_61 rfl rfl rfl) ?_
 rintro _ w_1 ⟨b1, rfl, hS2⟩
 refine rw_nil (cw_seq (cw_region ?_))
 refine sQ 3 (Y_fieldAddr (B := aD b) (i := 0) (s := 0) k_fd_61_0_0_3 k_sz_3_1 rfl rfl) ?_
 refine sQ 4 (Y_load1 (B := aD b) (i := 0) (cs := kR_ x) (v := vi x.A) k_sc_3 rfl rfl (hS2.cf (i := 0) rfl) rfl) ?_
 refine sQ 5 (Y_neg (k := .i64) (a := x.A) rfl rfl) ?_
 refine sQ 6 (Y_fieldAddr (B := aD b) (i := 0) (s := 0) k_fd_61_1_1_3 k_sz_3_1 rfl rfl) ?_
 refine sQ 7 (Y_load1 (B := aD b) (i := 1) (cs := kR_ x) (v := vi x.B) k_sc_3 rfl rfl (hS2.cf (i := 0) rfl) rfl) ?_
 refine sQ 8 (Y_neg (k := .i64) (a := x.B) rfl rfl) ?_
 refine sQ 9 (Y_fieldAddr (B := aD b) (i := 0) (s := 0) k_fd_61_2_2_3 k_sz_3_1 rfl rfl) ?_
 refine sQ 10 (Y_load1 (B := aD b) (i := 2) (cs := kR_ x) (v := vi x.C) k_sc_3 rfl rfl (hS2.cf (i := 0) rfl) rfl) ?_
 refine sQ 11 (Y_neg (k := .i64) (a := x.C) rfl rfl) ?_
 refine sQ 12 (Y_fieldAddr (B := aD b) (i := 0) (s := 0) k_fd_61_3_3_3 k_sz_3_1 rfl rfl) ?_
 refine sQ 13 (Y_load1 (B := aD b) (i := 3) (cs := kR_ x) (v := vi x.D) k_sc_3 rfl rfl (hS2.cf (i := 0) rfl) rfl) ?_
 refine sQ 14 (Y_neg (k := .i64) (a := x.D) rfl rfl) ?_
 refine sQ 15 (Y_buildS (zs := [vi 0, vi 0, vi 0, vi 0]) (vs := [(0, vi (i64.wrap (-x.A))), (1, vi (i64.wrap (-x.B))), (2, vi (i64.wrap (-x.C))), (3, vi (i64.wrap (-x.D)))]) (cs := [vi (i64.wrap (-x.A)), vi (i64.wrap (-x.B)), vi (i64.wrap (-x.C)), vi (i64.wrap (-x.D))]) k_pl_61 k_zero_61 rfl (mpc rfl (mpc rfl (mpc rfl (mpc rfl mpn)))) rfl) ?_
 refine s0 (Ys_store (i := 1) (s := 4) (B := aD b1) (T' := 61) (v := .agg #[vi (i64.wrap (-x.A)), vi (i64.wrap (-x.B)), vi (i64.wrap (-x.C)), vi (i64.wrap (-x.D))]) (vs := [vi (i64.wrap (-x.A)), vi (i64.wrap (-x.B)), vi (i64.wrap (-x.C)), vi (i64.wrap (-x.D))]) (k := 0) (cs' := [vi (i64.wrap (-x.A)), vi (i64.wrap (-x.B)), vi (i64.wrap (-x.C)), vi (i64.wrap (-x.D))]) hS2 k_sz_61_4 rfl rfl rfl rfl rfl rfl rfl (lB rfl) rfl rfl) ?_
 rintro _ w_2 ⟨rfl, hS3⟩
 refine rw_nil (cw_ret ?_)
 obtain rfl := some_inj hF
 exact ret1 Tryz.results193 (v1 := .agg #[vi (i64.wrap (-x.A)), vi (i64.wrap (-x.B)), vi (i64.wrap (-x.C)), vi (i64.wrap (-x.D))]) (resAt_cellA (B := aD b1) (i := 0) (cs := [vi (i64.wrap (-x.A)), vi (i64.wrap (-x.B)), vi (i64.wrap (-x.C)), vi (i64.wrap (-x.D))]) (vs := [vi (i64.wrap (-x.A)), vi (i64.wrap (-x.B)), vi (i64.wrap (-x.C)), vi (i64.wrap (-x.D))]) rfl k_ag_61 k_sz_61_4 (hS3.cf (i := 1) rfl) rfl rfl) ⟨rfl, (hS3.sN [])⟩

theorem c_spec_l2Neg (x : TDyadic)  (w0 : World)  (hS : ST w0 [] w0 [] []) {r_ : TDyadic} (hF : F_spec_l2Neg x = some r_) :
  CV Tryz.prog 182 #[gD_ x] w0 (fun v w' => v = (gD_ r_) ∧ ST w0 [] w' [] []) := by
 unfold F_spec_l2Neg at hF
 refine cv_of_cw 9 Tryz.func182 rfl Tryz.ntmps182 rfl ?_
 refine cw_seq (cw_region ?_)
 refine sS 1 (Ys_box (T := 63) (v := gD_ x) (cs := kD_ x) (m := 5) hS rfl rfl rfl rfl) ?_
 rintro _ w_ ⟨b, rfl, hS1⟩
 refine sS 2 (Ys_alloc (T := 63) (cs := kZ_) (m := 5) hS1 k_zero_63 rfl rfl rfl) ?_
 rintro _ w_1 ⟨b1, rfl, hS2⟩
 refine rw_nil (cw_seq ?_)
 obtain ⟨r_1, hc, hF⟩ := bind_inv hF
 refine ra_start (hS2.se [0]).fn (by kernel_rfl) ?_
 have hS4 := hS2.drew
 refine rq 0 3 (v := pt (aD b) 0) rfl (hS4.se [0]) (fun w' hw' => (Y_fieldAddr (B := aD b) (i := 0) (s := 3) k_fd_63_0_0_61 k_sz_61_4 rfl rfl)) ?_
 refine rq 1 4 (v := gR_ x.Num) rfl (hS4.se [0]) (fun w' hw' => (Y_loadA (B := aD b) (i := 0) (cs := kD_ x) (vs := kR_ x.Num) k_ag_61 k_sz_61_4 rfl rfl (ST.cf hw' (i := 0) rfl) rfl rfl)) ?_
 refine rq 3 6 (v := pt (aD b) 4) rfl (hS4.se [0]) (fun w' hw' => (Y_fieldAddr (B := aD b) (i := 0) (s := 0) k_fd_63_1_4_3 k_sz_3_1 rfl rfl)) ?_
 refine rq 4 7 (v := vi x.Exp) rfl (hS4.se [0]) (fun w' hw' => (Y_load1 (B := aD b) (i := 4) (cs := kD_ x) (v := vi x.Exp) k_sc_3 rfl rfl (ST.cf hw' (i := 0) rfl) rfl)) ?_
 refine rA [2] ?_
 refine ra_c 5 (i := 2) rfl rfl rfl (Yc_func (g := 193) (vs := [gR_ x.Num]) k_call_193 rfl (mc rfl mn) (c_spec_l1Neg x.Num _  (hS4.inn0 [] rfl) hc)) ?_ ?_
 ·rintro _ w_2 ⟨rfl, hd⟩
  have hS5 := hS4.out00 hd
  refine ⟨(hS5.se [0]), ?_⟩
  refine rq 5 8 (v := .agg #[vi r_1.A, vi r_1.B, vi r_1.C, vi r_1.D, vi x.Exp]) rfl (hS5.se [0]) (fun w' hw' => (Y_buildS (zs := kZ_) (vs := [(0, gR_ r_1), (1, vi x.Exp)]) (cs := [vi r_1.A, vi r_1.B, vi r_1.C, vi r_1.D, vi x.Exp]) k_pl_63 k_zero_63 rfl (mpc rfl (mpc rfl mpn)) rfl)) ?_
  refine rA [6] ?_
  refine ra_s0 (i := 6) rfl rfl rfl (Ys_store (i := 1) (s := 5) (B := aD b1) (T' := 63) (v := .agg #[vi r_1.A, vi r_1.B, vi r_1.C, vi r_1.D, vi x.Exp]) (vs := [vi r_1.A, vi r_1.B, vi r_1.C, vi r_1.D, vi x.Exp]) (k := 0) (cs' := [vi r_1.A, vi r_1.B, vi r_1.C, vi r_1.D, vi x.Exp]) hS5 k_sz_63_5 rfl rfl rfl rfl rfl rfl rfl (lB rfl) rfl rfl) ?_ ?_
  ·rintro _ w_3 ⟨rfl, hS6⟩
   refine ⟨(hS6.se [0]), ?_⟩
   refine ra_done (by kernel_rfl) ?_
   refine cw_ret ?_
   obtain rfl := some_inj hF
   exact ret1 Tryz.results182 (v1 := .agg #[vi r_1.A, vi r_1.B, vi r_1.C, vi r_1.D, vi x.Exp]) (resAt_cellA (B := aD b1) (i := 0) (cs := [vi r_1.A, vi r_1.B, vi r_1.C, vi r_1.D, vi x.Exp]) (vs := [vi r_1.A, vi r_1.B, vi r_1.C, vi r_1.D, vi x.Exp]) rfl k_ag_63 k_sz_63_5 (hS6.cf (i := 1) rfl) rfl rfl) ⟨rfl, (hS6.sN [])⟩
  exact allR_nil
 exact allR_nil

theorem c_spec_l6One (kind : Int)  (w0 : World)  (hS : ST w0 [] w0 [] []) {r_ : List TDyadic} (hF : F_spec_l6One kind = some r_) :
  CV Tryz.prog 165 #[vi kind] w0 (fun v w' => ∃ (B : Option Addr) (c : Nat), v = .slice B r_.length c ∧ ST w0 [] w' [⟨B, 63, (r_.flatMap eN0), c * 5⟩] []) := by
 unfold F_spec_l6One at hF
 refine cv_of_cw 43 Tryz.func165 rfl Tryz.ntmps165 rfl ?_
 refine cw_seq (cw_region ?_)
 refine sQ 2 (Y_assign (v := .slice none 0 0) rfl rfl) (rw_nil (cw_seq (cw_region ?_)))
 obtain ⟨r_1, hc, hF⟩ := bind_inv hF
 refine sc 6 rfl rfl (Yc_func (g := 82) (vs := [vi 0]) k_call_82 rfl (mc rfl mn) (c_spec_l2Power 0 _  (hS.inn0 [] rfl) hc)) ?_
 rintro _ w_ ⟨rfl, hd⟩
 have hS1 := hS.out00 hd
 refine sQ 7 (Y_buildS (zs := kZ_) (vs := []) (cs := kZ_) k_pl_63 k_zero_63 rfl mpn rfl) ?_
 refine sS 3 (Ys_alloc (T := 63) (cs := kZ_) (m := 5) hS1 k_zero_63 rfl rfl rfl) ?_
 rintro _ w_1 ⟨b, rfl, hS2⟩
 refine sS 4 (Ys_alloc (T := 63) (cs := kZ_) (m := 5) hS2 k_zero_63 rfl rfl rfl) ?_
 rintro _ w_2 ⟨b1, rfl, hS3⟩
 refine s0 (Ys_store (i := 0) (s := 5) (B := aD b) (T' := 63) (v := gD_ r_1) (vs := kD_ r_1) (k := 0) (cs' := kD_ r_1) hS3 k_sz_63_5 rfl rfl rfl rfl rfl rfl rfl (lB rfl) rfl rfl) ?_
 rintro _ w_3 ⟨rfl, hS4⟩
 refine s0 (Ys_store (i := 1) (s := 5) (B := aD b1) (T' := 63) (v := gZ_) (vs := kZ_) (k := 0) (cs' := kZ_) hS4 k_sz_63_5 rfl rfl rfl rfl rfl rfl rfl (lB rfl) rfl rfl) ?_
 rintro _ w_4 ⟨rfl, hS5⟩
 refine rw_nil (cw_seq (cw_region ?_))
 refine sQ 8 (Y_buildS (zs := [vi 0, vi 0, vi 0, vi 0]) (vs := [(0, vi 1)]) (cs := [vi 1, vi 0, vi 0, vi 0]) k_pl_61 k_zero_61 rfl (mpc rfl mpn) rfl) ?_
 refine sQ 9 (Y_buildS (zs := kZ_) (vs := [(0, .agg #[vi 1, vi 0, vi 0, vi 0]), (1, vi 1)]) (cs := [vi 1, vi 0, vi 0, vi 0, vi 1]) k_pl_63 k_zero_63 rfl (mpc rfl (mpc rfl mpn)) rfl) ?_
 refine sS 5 (Ys_alloc (T := 63) (cs := kZ_) (m := 5) hS5 k_zero_63 rfl rfl rfl) ?_
 rintro _ w_5 ⟨b2, rfl, hS6⟩
 refine s0 (Ys_store (i := 2) (s := 5) (B := aD b2) (T' := 63) (v := .agg #[vi 1, vi 0, vi 0, vi 0, vi 1]) (vs := [vi 1, vi 0, vi 0, vi 0, vi 1]) (k := 0) (cs' := [vi 1, vi 0, vi 0, vi 0, vi 1]) hS6 k_sz_63_5 rfl rfl rfl rfl rfl rfl rfl (lB rfl) rfl rfl) ?_
 rintro _ w_6 ⟨rfl, hS7⟩
 refine rw_nil (cw_seq (cw_seq (cw_region ?_)))
 refine sQ 10 (Y_move (v := vi kind) rfl rfl) (rw_nil (cw_block (cw_seq (cw_region ?_))))
 refine sQ 12 (Y_eq (k := .i64) (a := kind) (b := 1) rfl rfl rfl) ?_
 refine sQ 11 (Y_assign (v := .bool (kind == 1)) rfl rfl) (rw_nil ?_)
 refine cw_cond (b := (kind == 1)) rfl (fun hb => ?_) (fun hb => ?_)
 ·skip
  have hF1 := ct hF hb
  refine cw_seq ?_
  obtain ⟨r_2, hc1, hF1⟩ := bind_inv hF1
  refine ra_start (hS7.se [0, 1, 2]).fn (by kernel_rfl) ?_
  have hS9 := hS7.drew
  refine rq 0 13 (v := .agg #[vi 1, vi 0, vi 0, vi 0, vi 1]) rfl (hS9.se [0, 1, 2]) (fun w' hw' => (Y_loadA (B := aD b2) (i := 0) (cs := [vi 1, vi 0, vi 0, vi 0, vi 1]) (vs := [vi 1, vi 0, vi 0, vi 0, vi 1]) k_ag_63 k_sz_63_5 rfl rfl (ST.cf hw' (i := 2) rfl) rfl rfl)) ?_
  refine rq 1 14 (v := .agg #[vi 1, vi 0, vi 0, vi 0, vi 1]) rfl (hS9.se [0, 1, 2]) (fun w' hw' => (Y_loadA (B := aD b2) (i := 0) (cs := [vi 1, vi 0, vi 0, vi 0, vi 1]) (vs := [vi 1, vi 0, vi 0, vi 0, vi 1]) k_ag_63 k_sz_63_5 rfl rfl (ST.cf hw' (i := 2) rfl) rfl rfl)) ?_
  refine rq 2 15 (v := .agg #[vi 1, vi 0, vi 0, vi 0, vi 1]) rfl (hS9.se [0, 1, 2]) (fun w' hw' => (Y_loadA (B := aD b2) (i := 0) (cs := [vi 1, vi 0, vi 0, vi 0, vi 1]) (vs := [vi 1, vi 0, vi 0, vi 0, vi 1]) k_ag_63 k_sz_63_5 rfl rfl (ST.cf hw' (i := 2) rfl) rfl rfl)) ?_
  refine rq 3 16 (v := .agg #[vi 1, vi 0, vi 0, vi 0, vi 1]) rfl (hS9.se [0, 1, 2]) (fun w' hw' => (Y_loadA (B := aD b2) (i := 0) (cs := [vi 1, vi 0, vi 0, vi 0, vi 1]) (vs := [vi 1, vi 0, vi 0, vi 0, vi 1]) k_ag_63 k_sz_63_5 rfl rfl (ST.cf hw' (i := 2) rfl) rfl rfl)) ?_
  refine rA [4] ?_
  refine ra_c 17 (i := 4) rfl rfl rfl (Yc_func (g := 182) (vs := [.agg #[vi 1, vi 0, vi 0, vi 0, vi 1]]) k_call_182 rfl (mc rfl mn) (c_spec_l2Neg (TDyadic.mk (TRing.mk 1 0 0 0) 1) _  (hS9.inn0 [] rfl) hc1)) ?_ ?_
  ·rintro _ w_7 ⟨rfl, hd1⟩
   have hS10 := hS9.out00 hd1
   refine ⟨(hS10.se [0, 1, 2]), ?_⟩
   refine rA [5] ?_
   refine ra_s 18 (i := 5) rfl rfl rfl (Ys_bslice (s := 5) (len := 4) (vs := [(0, .agg #[vi 1, vi 0, vi 0, vi 0, vi 1]), (1, .agg #[vi 1, vi 0, vi 0, vi 0, vi 1]), (2, .agg #[vi 1, vi 0, vi 0, vi 0, vi 1]), (3, gD_ r_2)]) (cs := [vi 1, vi 0, vi 0, vi 0, vi 1, vi 1, vi 0, vi 0, vi 0, vi 1, vi 1, vi 0, vi 0, vi 0, vi 1, vi r_2.Num.A, vi r_2.Num.B, vi r_2.Num.C, vi r_2.Num.D, vi r_2.Exp]) (zs := [vi 0, vi 0, vi 0, vi 0, vi 0, vi 0, vi 0, vi 0, vi 0, vi 0, vi 0, vi 0, vi 0, vi 0, vi 0, vi 0, vi 0, vi 0, vi 0, vi 0]) (m := 20) hS10 k_sl_28_63 k_sz_63_5 k_zc_63 rfl (mpc rfl (mpc rfl (mpc rfl (mpc rfl mpn)))) rfl rfl rfl (by kernel_rfl) (by kernel_rfl) rfl) ?_ ?_
   ·rintro _ w_8 ⟨b3, rfl, hS11⟩
    refine ⟨(hS11.se [0, 1, 2]), ?_⟩
    refine rq 6 2 (v := .slice (aD b3) 4 4) rfl (hS11.se [0, 1, 2]) (fun w' hw' => (Y_assign (v := .slice (aD b3) 4 4) rfl rfl)) ?_
    refine ra_done (by kernel_rfl) ?_
    refine cw_ret ?_
    obtain rfl := some_inj hF1
    exact ret1 Tryz.results165 (v1 := .slice (aD b3) 4 4) (resAt_tmp rfl) ⟨aD b3, 4, rfl, (hS11.sN [3])⟩
   exact allR_nil
  exact allR_nil
 ·skip
  have hF2 := cf' hF hb
  refine cw_seq (cw_region ?_)
  refine sQ 20 (Y_eq (k := .i64) (a := kind) (b := 2) rfl rfl rfl) ?_
  refine sQ 19 (Y_assign (v := .bool (kind == 2)) rfl rfl) (rw_nil ?_)
  refine cw_cond (b := (kind == 2)) rfl (fun hb1 => ?_) (fun hb1 => ?_)
  ·skip
   have hF3 := ct hF2 hb1
   refine cw_seq (cw_region ?_)
   refine sQ 21 (Y_loadA (B := aD b1) (i := 0) (cs := kZ_) (vs := kZ_) k_ag_63 k_sz_63_5 rfl rfl (hS7.cf (i := 1) rfl) rfl rfl) ?_
   refine sQ 22 (Y_loadA (B := aD b) (i := 0) (cs := kD_ r_1) (vs := kD_ r_1) k_ag_63 k_sz_63_5 rfl rfl (hS7.cf (i := 0) rfl) rfl rfl) ?_
   refine sQ 23 (Y_loadA (B := aD b) (i := 0) (cs := kD_ r_1) (vs := kD_ r_1) k_ag_63 k_sz_63_5 rfl rfl (hS7.cf (i := 0) rfl) rfl rfl) ?_
   refine sQ 24 (Y_loadA (B := aD b1) (i := 0) (cs := kZ_) (vs := kZ_) k_ag_63 k_sz_63_5 rfl rfl (hS7.cf (i := 1) rfl) rfl rfl) ?_
   refine sS 25 (Ys_bslice (s := 5) (len := 4) (vs := [(0, gZ_), (1, gD_ r_1), (2, gD_ r_1), (3, gZ_)]) (cs := [vi 0, vi 0, vi 0, vi 0, vi 0, vi r_1.Num.A, vi r_1.Num.B, vi r_1.Num.C, vi r_1.Num.D, vi r_1.Exp, vi r_1.Num.A, vi r_1.Num.B, vi r_1.Num.C, vi r_1.Num.D, vi r_1.Exp, vi 0, vi 0, vi 0, vi 0, vi 0]) (zs := [vi 0, vi 0, vi 0, vi 0, vi 0, vi 0, vi 0, vi 0, vi 0, vi 0, vi 0, vi 0, vi 0, vi 0, vi 0, vi 0, vi 0, vi 0, vi 0, vi 0]) (m := 20) hS7 k_sl_28_63 k_sz_63_5 k_zc_63 rfl (mpc rfl (mpc rfl (mpc rfl (mpc rfl mpn)))) rfl rfl rfl (by kernel_rfl) (by kernel_rfl) rfl) ?_
   rintro _ w_9 ⟨b4, rfl, hS12⟩
   refine sQ 2 (Y_assign (v := .slice (aD b4) 4 4) rfl rfl) (rw_nil (cw_ret ?_))
   obtain rfl := some_inj hF3
   exact ret1 Tryz.results165 (v1 := .slice (aD b4) 4 4) (resAt_tmp rfl) ⟨aD b4, 4, rfl, (hS12.sN [3])⟩
  ·skip
   have hF4 := cf' hF2 hb1
   refine cw_seq (cw_region ?_)
   refine sQ 27 (Y_eq (k := .i64) (a := kind) (b := 3) rfl rfl rfl) ?_
   refine sQ 26 (Y_assign (v := .bool (kind == 3)) rfl rfl) (rw_nil ?_)
   refine cw_cond (b := (kind == 3)) rfl (fun hb2 => ?_) (fun hb2 => ?_)
   ·skip
    have hF5 := ct hF4 hb2
    refine cw_seq ?_
    obtain ⟨r_3, hc2, hF5⟩ := bind_inv hF5
    obtain ⟨r_4, hc3, hF5⟩ := bind_inv hF5
    refine ra_start (hS7.se [0, 1, 2]).fn (by kernel_rfl) ?_
    have hS15 := hS7.drew
    refine rq 0 28 (v := gZ_) rfl (hS15.se [0, 1, 2]) (fun w' hw' => (Y_loadA (B := aD b1) (i := 0) (cs := kZ_) (vs := kZ_) k_ag_63 k_sz_63_5 rfl rfl (ST.cf hw' (i := 1) rfl) rfl rfl)) ?_
    refine rq 3 31 (v := gZ_) rfl (hS15.se [0, 1, 2]) (fun w' hw' => (Y_loadA (B := aD b1) (i := 0) (cs := kZ_) (vs := kZ_) k_ag_63 k_sz_63_5 rfl rfl (ST.cf hw' (i := 1) rfl) rfl rfl)) ?_
    refine rA [1] ?_
    refine ra_c 29 (i := 1) rfl rfl rfl (Yc_func (g := 82) (vs := [vi 6]) k_call_82 rfl (mc rfl mn) (c_spec_l2Power 6 _  (hS15.inn0 [] rfl) hc2)) ?_ ?_
    ·rintro _ w_10 ⟨rfl, hd2⟩
     have hS16 := hS15.out00 hd2
     refine ⟨(hS16.se [0, 1, 2]), ?_⟩
     refine rA [2] ?_
     refine ra_c 30 (i := 2) rfl rfl rfl (Yc_func (g := 82) (vs := [vi 2]) k_call_82 rfl (mc rfl mn) (c_spec_l2Power 2 _  (hS16.inn0 [] rfl) hc3)) ?_ ?_
     ·rintro _ w_11 ⟨rfl, hd3⟩
      have hS17 := hS16.out00 hd3
      refine ⟨(hS17.se [0, 1, 2]), ?_⟩
      refine rA [4] ?_
      refine ra_s 32 (i := 4) rfl rfl rfl (Ys_bslice (s := 5) (len := 4) (vs := [(0, gZ_), (1, gD_ r_3), (2, gD_ r_4), (3, gZ_)]) (cs := [vi 0, vi 0, vi 0, vi 0, vi 0, vi r_3.Num.A, vi r_3.Num.B, vi r_3.Num.C, vi r_3.Num.D, vi r_3.Exp, vi r_4.Num.A, vi r_4.Num.B, vi r_4.Num.C, vi r_4.Num.D, vi r_4.Exp, vi 0, vi 0, vi 0, vi 0, vi 0]) (zs := [vi 0, vi 0, vi 0, vi 0, vi 0, vi 0, vi 0, vi 0, vi 0, vi 0, vi 0, vi 0, vi 0, vi 0, vi 0, vi 0, vi 0, vi 0, vi 0, vi 0]) (m := 20) hS17 k_sl_28_63 k_sz_63_5 k_zc_63 rfl (mpc rfl (mpc rfl (mpc rfl (mpc rfl mpn)))) rfl rfl rfl (by kernel_rfl) (by kernel_rfl) rfl) ?_ ?_
      ·rintro _ w_12 ⟨b5, rfl, hS18⟩
       refine ⟨(hS18.se [0, 1, 2]), ?_⟩
       refine rq 5 2 (v := .slice (aD b5) 4 4) rfl (hS18.se [0, 1, 2]) (fun w' hw' => (Y_assign (v := .slice (aD b5) 4 4) rfl rfl)) ?_
       refine ra_done (by kernel_rfl) ?_
       refine cw_ret ?_
       obtain rfl := some_inj hF5
       exact ret1 Tryz.results165 (v1 := .slice (aD b5) 4 4) (resAt_tmp rfl) ⟨aD b5, 4, rfl, (hS18.sN [3])⟩
      exact allR_nil
     exact allR_nil
    exact allR_nil
   ·skip
    have hF6 := cf' hF4 hb2
    refine cw_skip (cw_seq ?_)
    obtain ⟨x, hx, hF6⟩ := bind_inv hF6
    obtain ⟨r_5, hc4, hF6⟩ := bind_inv hF6
    refine ra_start (hS7.se [0, 1, 2]).fn (by kernel_rfl) ?_
    have hS20 := hS7.drew
    refine rq 0 33 (v := gD_ r_1) rfl (hS20.se [0, 1, 2]) (fun w' hw' => (Y_loadA (B := aD b) (i := 0) (cs := kD_ r_1) (vs := kD_ r_1) k_ag_63 k_sz_63_5 rfl rfl (ST.cf hw' (i := 0) rfl) rfl rfl)) ?_
    refine rq 1 34 (v := gZ_) rfl (hS20.se [0, 1, 2]) (fun w' hw' => (Y_loadA (B := aD b1) (i := 0) (cs := kZ_) (vs := kZ_) k_ag_63 k_sz_63_5 rfl rfl (ST.cf hw' (i := 1) rfl) rfl rfl)) ?_
    refine rq 2 35 (v := gZ_) rfl (hS20.se [0, 1, 2]) (fun w' hw' => (Y_loadA (B := aD b1) (i := 0) (cs := kZ_) (vs := kZ_) k_ag_63 k_sz_63_5 rfl rfl (ST.cf hw' (i := 1) rfl) rfl rfl)) ?_
    refine rq 4 37 (v := vi kind) rfl (hS20.se [0, 1, 2]) (fun w' hw' => (Y_move (v := vi kind) rfl rfl)) ?_
    refine rq 5 38 (v := vi (i64.wrap (kind - 4))) rfl (hS20.se [0, 1, 2]) (fun w' hw' => (Y_sub (k := .i64) (a := kind) (b := 4) rfl rfl rfl)) ?_
    refine rA [3] ?_
    refine ra_s 36 (i := 3) rfl rfl rfl (Ys_bslice (s := 1) (len := 5) (vs := [(0, vi 4), (1, vi 2), (2, vi 6), (3, vi 1), (4, vi 7)]) (cs := [vi 4, vi 2, vi 6, vi 1, vi 7]) (zs := kZ_) (m := 5) hS20 k_sl_43_3 k_sz_3_1 k_zc_3 rfl (mpc rfl (mpc rfl (mpc rfl (mpc rfl (mpc rfl mpn))))) rfl rfl rfl (by kernel_rfl) (by kernel_rfl) rfl) ?_ ?_
    ·rintro _ w_13 ⟨b6, rfl, hS21⟩
     refine ⟨(hS21.se [0, 1, 2]), ?_⟩
     refine rA [6] ?_
     refine ra_y 39 (i := 6) (v := pt (aD b6) ((i64.wrap (kind - 4)).toNat * 1)) rfl rfl rfl (Y_index (B := aD b6) (m := 5) (c := 5) (k := .i64) (i := (i64.wrap (kind - 4))) k_sl_43_3 k_sz_3_1 rfl rfl rfl (gi_isSome encI_len rfl (hS21.cf (i := 3) rfl) hx) (getI_nn hx) (getI_ltI hx rfl)) (hS21.se [0, 1, 2]) ?_ ?_
     ·skip
      refine rA [7] ?_
      refine ra_y 40 (i := 7) (v := vi x) rfl rfl rfl (Y_load1 (B := aD b6) (i := (i64.wrap (kind - 4)).toNat * 1) (cs := ([4, 2, 6, 1, 7].flatMap encI)) (v := vi x) k_sc_3 rfl rfl (hS21.cf (i := 3) rfl) (gi_at0 encI_len hx rfl)) (hS21.se [0, 1, 2]) ?_ ?_
      ·skip
       refine rA [8] ?_
       refine ra_c 41 (i := 8) rfl rfl rfl (Yc_func (g := 82) (vs := [vi x]) k_call_82 rfl (mc rfl mn) (c_spec_l2Power x _  (hS21.inn0 [] rfl) hc4)) ?_ ?_
       ·rintro _ w_14 ⟨rfl, hd4⟩
        have hS22 := hS21.out00 hd4
        refine ⟨(hS22.se [0, 1, 2]), ?_⟩
        refine rA [9] ?_
        refine ra_s 42 (i := 9) rfl rfl rfl (Ys_bslice (s := 5) (len := 4) (vs := [(0, gD_ r_1), (1, gZ_), (2, gZ_), (3, gD_ r_5)]) (cs := [vi r_1.Num.A, vi r_1.Num.B, vi r_1.Num.C, vi r_1.Num.D, vi r_1.Exp, vi 0, vi 0, vi 0, vi 0, vi 0, vi 0, vi 0, vi 0, vi 0, vi 0, vi r_5.Num.A, vi r_5.Num.B, vi r_5.Num.C, vi r_5.Num.D, vi r_5.Exp]) (zs := [vi 0, vi 0, vi 0, vi 0, vi 0, vi 0, vi 0, vi 0, vi 0, vi 0, vi 0, vi 0, vi 0, vi 0, vi 0, vi 0, vi 0, vi 0, vi 0, vi 0]) (m := 20) hS22 k_sl_28_63 k_sz_63_5 k_zc_63 rfl (mpc rfl (mpc rfl (mpc rfl (mpc rfl mpn)))) rfl rfl rfl (by kernel_rfl) (by kernel_rfl) rfl) ?_ ?_
        ·rintro _ w_15 ⟨b7, rfl, hS23⟩
         refine ⟨(hS23.se [0, 1, 2]), ?_⟩
         refine rq 10 2 (v := .slice (aD b7) 4 4) rfl (hS23.se [0, 1, 2]) (fun w' hw' => (Y_assign (v := .slice (aD b7) 4 4) rfl rfl)) ?_
         refine ra_done (by kernel_rfl) ?_
         refine cw_ret ?_
         obtain rfl := some_inj hF6
         exact ret1 Tryz.results165 (v1 := .slice (aD b7) 4 4) (resAt_tmp rfl) ⟨aD b7, 4, rfl, (hS23.sN [4])⟩
        exact allR_nil
       exact allR_nil
      exact allR_nil
     exact allR_nil
    exact allR_nil

theorem c_spec_l6Cell (n : Int) (g : TGate) (row : Int) (col : Int)  (w0 : World)  (hS : ST w0 [] w0 [] []) {r_ : TDyadic} (hF : F_spec_l6Cell n g row col = some r_) :
  CV Tryz.prog 127 #[vi n, .agg #[vi g.Kind, vi g.A, vi g.B], vi row, vi col] w0 (fun v w' => v = (gD_ r_) ∧ ST w0 [] w' [] []) := by
 unfold F_spec_l6Cell at hF
 refine cv_of_cw 119 Tryz.func127 rfl Tryz.ntmps127 rfl ?_
 refine cw_seq (cw_region ?_)
 refine sS 5 (Ys_box (T := 67) (v := .agg #[vi g.Kind, vi g.A, vi g.B]) (cs := [vi g.Kind, vi g.A, vi g.B]) (m := 3) hS rfl rfl rfl rfl) ?_
 rintro _ w_ ⟨b, rfl, hS1⟩
 refine sS 8 (Ys_alloc (T := 63) (cs := kZ_) (m := 5) hS1 k_zero_63 rfl rfl rfl) ?_
 rintro _ w_1 ⟨b1, rfl, hS2⟩
 refine rw_nil (cw_seq (cw_region ?_))
 obtain ⟨r_1, hc, hF⟩ := bind_inv hF
 refine sc 12 rfl rfl (Yc_func (g := 82) (vs := [vi 0]) k_call_82 rfl (mc rfl mn) (c_spec_l2Power 0 _  (hS2.inn0 [] rfl) hc)) ?_
 rintro _ w_2 ⟨rfl, hd⟩
 have hS3 := hS2.out00 hd
 refine sQ 13 (Y_buildS (zs := kZ_) (vs := []) (cs := kZ_) k_pl_63 k_zero_63 rfl mpn rfl) ?_
 refine sS 9 (Ys_alloc (T := 63) (cs := kZ_) (m := 5) hS3 k_zero_63 rfl rfl rfl) ?_
 rintro _ w_3 ⟨b2, rfl, hS4⟩
 refine sS 10 (Ys_alloc (T := 63) (cs := kZ_) (m := 5) hS4 k_zero_63 rfl rfl rfl) ?_
 rintro _ w_4 ⟨b3, rfl, hS5⟩
 refine s0 (Ys_store (i := 2) (s := 5) (B := aD b2) (T' := 63) (v := gD_ r_1) (vs := kD_ r_1) (k := 0) (cs' := kD_ r_1) hS5 k_sz_63_5 rfl rfl rfl rfl rfl rfl rfl (lB rfl) rfl rfl) ?_
 rintro _ w_5 ⟨rfl, hS6⟩
 refine s0 (Ys_store (i := 3) (s := 5) (B := aD b3) (T' := 63) (v := gZ_) (vs := kZ_) (k := 0) (cs' := kZ_) hS6 k_sz_63_5 rfl rfl rfl rfl rfl rfl rfl (lB rfl) rfl rfl) ?_
 rintro _ w_6 ⟨rfl, hS7⟩
 refine rw_nil (cw_seq (cw_region ?_))
 refine sQ 14 (Y_move (v := vi col) rfl rfl) ?_
 refine sQ 11 (Y_assign (v := vi col) rfl rfl) (rw_nil (cw_seq ?_))
 obtain ⟨z, hz, hF1⟩ := bind_inv hF
 refine cw_mid (fun f w => ∃ (A : Int) (B : Int) (C : Int) (D : Int) (Exp : Int) (to_ : Int), .inl (A, B, C, D, Exp, to_) = z ∧ FF f [(2, vi row), (8, pt (aD b1) 0), (9, pt (aD b2) 0), (10, pt (aD b3) 0), (11, vi to_)] ∧ ST w0 [] w [⟨aD b1, 63, kZ_, 5⟩, ⟨aD b2, 63, [vi A, vi B, vi C, vi D, vi Exp], 5⟩, ⟨aD b3, 63, kZ_, 5⟩] []) ?_ ?_
 ·skip
  refine cw_seq (cw_region ?_)
  refine sQ 15 (Y_fieldAddr (B := aD b) (i := 0) (s := 0) k_fd_67_0_0_3 k_sz_3_1 rfl rfl) ?_
  refine sQ 16 (Y_load1 (B := aD b) (i := 0) (cs := [vi g.Kind, vi g.A, vi g.B]) (v := vi g.Kind) k_sc_3 rfl rfl (hS7.cf (i := 0) rfl) rfl) (rw_nil (cw_block (cw_seq (cw_region ?_))))
  refine sQ 48 (Y_eq (k := .i64) (a := g.Kind) (b := 12) rfl rfl rfl) ?_
  refine sQ 47 (Y_assign (v := .bool (g.Kind == 12)) rfl rfl) (rw_nil ?_)
  refine cw_cond (b := (g.Kind == 12)) rfl (fun hb => ?_) (fun hb => ?_)
  ·skip
   have hF2 := ct hz hb
   refine cw_region ?_
   obtain ⟨r_2, hc1, hF2⟩ := bind_inv hF2
   refine sc 49 rfl rfl (Yc_func (g := 82) (vs := [vi 1]) k_call_82 rfl (mc rfl mn) (c_spec_l2Power 1 _  (hS7.inn0 [] rfl) hc1)) ?_
   rintro _ w_7 ⟨rfl, hd1⟩
   have hS9 := hS7.out00 hd1
   refine s0 (Ys_store (i := 2) (s := 5) (B := aD b2) (T' := 63) (v := gD_ r_2) (vs := kD_ r_2) (k := 0) (cs' := kD_ r_2) hS9 k_sz_63_5 rfl rfl rfl rfl rfl rfl rfl (lB rfl) rfl rfl) ?_
   rintro _ w_8 ⟨rfl, hS10⟩
   refine rw_nil ?_
   exact ⟨r_2.Num.A, r_2.Num.B, r_2.Num.C, r_2.Num.D, r_2.Exp, col, (some_inj hF2), (FF.cons rfl (FF.cons rfl (FF.cons rfl (FF.cons rfl (FF.cons rfl FF.nil))))), (hS10.sel [1, 2, 3] rfl rfl)⟩
  ·skip
   have hF3 := cf' hz hb
   refine cw_seq (cw_region ?_)
   refine sQ 51 (Y_eq (k := .i64) (a := g.Kind) (b := 9) rfl rfl rfl) ?_
   refine sQ 50 (Y_assign (v := .bool (g.Kind == 9)) rfl rfl) (rw_nil ?_)
   refine cw_cond (b := (g.Kind == 9)) rfl (fun hb1 => ?_) (fun hb1 => ?_)
   ·skip
    have hF4 := ct hF3 hb1
    refine cw_seq (cw_region ?_)
    refine sQ 52 (Y_move (v := vi n) rfl rfl) ?_
    refine sQ 53 (Y_move (v := vi col) rfl rfl) ?_
    refine sQ 54 (Y_fieldAddr (B := aD b) (i := 0) (s := 0) k_fd_67_1_1_3 k_sz_3_1 rfl rfl) ?_
    refine sQ 55 (Y_load1 (B := aD b) (i := 1) (cs := [vi g.Kind, vi g.A, vi g.B]) (v := vi g.A) k_sc_3 rfl rfl (hS7.cf (i := 0) rfl) rfl) ?_
    obtain ⟨r_3, hc2, hF4⟩ := bind_inv hF4
    refine sc 56 rfl rfl (Yc_func (g := 164) (vs := [vi n, vi col, vi g.A]) k_call_164 rfl (mc rfl (mc rfl (mc rfl mn))) (c_spec_l6Bit n col g.A _  (hS7.inn0 [] rfl) hc2)) ?_
    rintro _ w_9 ⟨rfl, hd2⟩
    have hS11 := hS7.out00 hd2
    refine sQ 57 (Y_eq (k := .i64) (a := r_3) (b := 1) rfl rfl rfl) (rw_nil ?_)
    refine cw_cond (b := (r_3 == 1)) rfl (fun hb2 => ?_) (fun hb2 => ?_)
    ·skip
     have hF5 := ct hF4 hb2
     refine cw_region ?_
     refine sQ 58 (Y_move (v := vi col) rfl rfl) ?_
     refine sQ 59 (Y_move (v := vi n) rfl rfl) ?_
     refine sQ 60 (Y_sub (k := .i64) (a := n) (b := 1) rfl rfl rfl) ?_
     refine sQ 61 (Y_fieldAddr (B := aD b) (i := 0) (s := 0) k_fd_67_2_2_3 k_sz_3_1 rfl rfl) ?_
     refine sQ 62 (Y_load1 (B := aD b) (i := 2) (cs := [vi g.Kind, vi g.A, vi g.B]) (v := vi g.B) k_sc_3 rfl rfl (hS11.cf (i := 0) rfl) rfl) ?_
     refine sQ 63 (Y_sub (k := .i64) (a := (i64.wrap (n - 1))) (b := g.B) rfl rfl rfl) ?_
     refine sQ 64 (Y_conv (k := .i64) (a := (i64.wrap ((i64.wrap (n - 1)) - g.B))) (T := 3) (T' := 53) k_us_3 k_int_53_u64 rfl rfl) ?_
     obtain ⟨hsh, hF5⟩ := chk_inv hF5
     refine sQ 65 (Y_shl (k := .i64) (a := 1) (k' := .u64) (b := (IntKind.u64.wrap (i64.wrap ((i64.wrap (n - 1)) - g.B)))) rfl rfl rfl hsh) ?_
     refine sQ 66 (Y_bxor (k := .i64) (a := col) (b := (shlK .i64 1 (IntKind.u64.wrap (i64.wrap ((i64.wrap (n - 1)) - g.B))))) rfl rfl rfl) ?_
     refine sQ 11 (Y_assign (v := vi (bits .xor .i64 col (shlK .i64 1 (IntKind.u64.wrap (i64.wrap ((i64.wrap (n - 1)) - g.B)))))) rfl rfl) (rw_nil ?_)
     exact ⟨r_1.Num.A, r_1.Num.B, r_1.Num.C, r_1.Num.D, r_1.Exp, (bits .xor .i64 col (shlK .i64 1 (IntKind.u64.wrap (i64.wrap ((i64.wrap (n - 1)) - g.B))))), (some_inj hF5), (FF.cons rfl (FF.cons rfl (FF.cons rfl (FF.cons rfl (FF.cons rfl FF.nil))))), (hS11.sel [1, 2, 3] rfl rfl)⟩
    ·skip
     have hF6 := cf' hF4 hb2
     refine cw_skip ?_
     exact ⟨r_1.Num.A, r_1.Num.B, r_1.Num.C, r_1.Num.D, r_1.Exp, col, (some_inj hF6), (FF.cons rfl (FF.cons rfl (FF.cons rfl (FF.cons rfl (FF.cons rfl FF.nil))))), (hS11.sel [1, 2, 3] rfl rfl)⟩
   ·skip
    have hF7 := cf' hF3 hb1
    refine cw_seq (cw_region ?_)
    refine sQ 68 (Y_eq (k := .i64) (a := g.Kind) (b := 10) rfl rfl rfl) ?_
    refine sQ 67 (Y_assign (v := .bool (g.Kind == 10)) rfl rfl) (rw_nil ?_)
    refine cw_cond (b := (g.Kind == 10)) rfl (fun hb3 => ?_) (fun hb3 => ?_)
    ·skip
     have hF8 := ct hF7 hb3
     refine cw_seq (cw_region ?_)
     refine sQ 69 (Y_move (v := vi n) rfl rfl) ?_
     refine sQ 70 (Y_move (v := vi col) rfl rfl) ?_
     refine sQ 71 (Y_fieldAddr (B := aD b) (i := 0) (s := 0) k_fd_67_1_1_3 k_sz_3_1 rfl rfl) ?_
     refine sQ 72 (Y_load1 (B := aD b) (i := 1) (cs := [vi g.Kind, vi g.A, vi g.B]) (v := vi g.A) k_sc_3 rfl rfl (hS7.cf (i := 0) rfl) rfl) ?_
     obtain ⟨r_4, hc3, hF8⟩ := bind_inv hF8
     refine sc 73 rfl rfl (Yc_func (g := 164) (vs := [vi n, vi col, vi g.A]) k_call_164 rfl (mc rfl (mc rfl (mc rfl mn))) (c_spec_l6Bit n col g.A _  (hS7.inn0 [] rfl) hc3)) ?_
     rintro _ w_10 ⟨rfl, hd3⟩
     have hS12 := hS7.out00 hd3
     refine sQ 74 (Y_eq (k := .i64) (a := r_4) (b := 1) rfl rfl rfl) ?_
     refine sQ 75 (Y_move (v := .bool (r_4 == 1)) rfl rfl) ?_
     refine sgq 76 (B := (r_4 == 1)) (v := vi n) rfl rfl (uT_ 75) (fun hg => (Y_move (v := vi n) rfl rfl)) ?_
     refine sgq 77 (B := (r_4 == 1)) (v := vi col) rfl rfl (uT_ 75) (fun hg1 => (Y_move (v := vi col) rfl rfl)) ?_
     refine sgq 78 (B := (r_4 == 1)) (v := pt (aD b) 2) rfl rfl (uT_ 75) (fun hg2 => (Y_fieldAddr (B := aD b) (i := 0) (s := 0) k_fd_67_2_2_3 k_sz_3_1 rfl rfl)) ?_
     refine sgq 79 (B := (r_4 == 1)) (v := vi g.B) rfl rfl (uT_ 75) (fun hg3 => (Y_load1 (B := aD b) (i := 2) (cs := [vi g.Kind, vi g.A, vi g.B]) (v := vi g.B) k_sc_3 rfl (gv_of (v := pt (aD b) 2) hg3) (hS12.cf (i := 0) rfl) rfl)) ?_
     obtain ⟨r_5, hc4, hF8⟩ := bind_inv hF8
     refine sgc 80 (B := (r_4 == 1)) (v := vi r_5) (F := hS12.fn) rfl rfl (uT_ 75) hS12 (fun hg4 => (Yc_func (g := 164) (vs := [vi n, vi col, vi g.B]) k_call_164 rfl (mc (gv_of (v := vi n) hg4) (mc (gv_of (v := vi col) hg4) (mc (gv_of (v := vi g.B) hg4) mn))) (CV.mono (c_spec_l6Bit n col g.B _  (hS12.inn0 [] rfl) (gb_inv hc4 hg4)) (by rintro _ _ ⟨rfl, h⟩; exact ⟨rfl, hS12.out00 h⟩)))) ?_
     rintro w_11 hS13
     refine sgq 81 (B := (r_4 == 1)) (v := .bool (r_5 == 1)) rfl rfl (uT_ 75) (fun hg5 => (Y_eq (k := .i64) (a := r_5) (b := 1) rfl (gv_of (v := vi r_5) hg5) rfl)) ?_
     refine sQ 82 (Y_and (b := (r_4 == 1)) (z := (r_5 == 1)) rfl rfl rfl rfl) (rw_nil ?_)
     refine cw_cond (b := ((r_4 == 1) && (r_5 == 1))) rfl (fun hb4 => ?_) (fun hb4 => ?_)
     ·skip
      have hF9 := ct hF8 hb4
      refine cw_region ?_
      obtain ⟨r_6, hc5, hF9⟩ := bind_inv hF9
      refine sc 83 rfl rfl (Yc_func (g := 82) (vs := [vi 4]) k_call_82 rfl (mc rfl mn) (c_spec_l2Power 4 _  (hS13.inn0 [] rfl) hc5)) ?_
      rintro _ w_12 ⟨rfl, hd4⟩
      have hS14 := hS13.out00 hd4
      refine s0 (Ys_store (i := 2) (s := 5) (B := aD b2) (T' := 63) (v := gD_ r_6) (vs := kD_ r_6) (k := 0) (cs' := kD_ r_6) hS14 k_sz_63_5 rfl rfl rfl rfl rfl rfl rfl (lB rfl) rfl rfl) ?_
      rintro _ w_13 ⟨rfl, hS15⟩
      refine rw_nil ?_
      exact ⟨r_6.Num.A, r_6.Num.B, r_6.Num.C, r_6.Num.D, r_6.Exp, col, (some_inj hF9), (FF.cons rfl (FF.cons rfl (FF.cons rfl (FF.cons rfl (FF.cons rfl FF.nil))))), (hS15.sel [1, 2, 3] rfl rfl)⟩
     ·skip
      have hF10 := cf' hF8 hb4
      refine cw_skip ?_
      exact ⟨r_1.Num.A, r_1.Num.B, r_1.Num.C, r_1.Num.D, r_1.Exp, col, (some_inj hF10), (FF.cons rfl (FF.cons rfl (FF.cons rfl (FF.cons rfl (FF.cons rfl FF.nil))))), (hS13.sel [1, 2, 3] rfl rfl)⟩
    ·skip
     have hF11 := cf' hF7 hb3
     refine cw_seq (cw_region ?_)
     refine sQ 85 (Y_eq (k := .i64) (a := g.Kind) (b := 11) rfl rfl rfl) ?_
     refine sQ 84 (Y_assign (v := .bool (g.Kind == 11)) rfl rfl) (rw_nil ?_)
     refine cw_cond (b := (g.Kind == 11)) rfl (fun hb5 => ?_) (fun hb5 => ?_)
     ·skip
      have hF12 := ct hF11 hb5
      refine cw_seq ?_
      obtain ⟨r_7, hc6, hF12⟩ := bind_inv hF12
      obtain ⟨r_8, hc7, hF12⟩ := bind_inv hF12
      refine ra_start (hS7.se [0, 1, 2, 3]).fn (by kernel_rfl) ?_
      have hS18 := hS7.drew
      refine rq 0 86 (v := vi n) rfl (hS18.se [0, 1, 2, 3]) (fun w' hw' => (Y_move (v := vi n) rfl rfl)) ?_
      refine rq 1 87 (v := vi col) rfl (hS18.se [0, 1, 2, 3]) (fun w' hw' => (Y_move (v := vi col) rfl rfl)) ?_
      refine rq 2 88 (v := pt (aD b) 1) rfl (hS18.se [0, 1, 2, 3]) (fun w' hw' => (Y_fieldAddr (B := aD b) (i := 0) (s := 0) k_fd_67_1_1_3 k_sz_3_1 rfl rfl)) ?_
      refine rq 3 89 (v := vi g.A) rfl (hS18.se [0, 1, 2, 3]) (fun w' hw' => (Y_load1 (B := aD b) (i := 1) (cs := [vi g.Kind, vi g.A, vi g.B]) (v := vi g.A) k_sc_3 rfl rfl (ST.cf hw' (i := 0) rfl) rfl)) ?_
      refine rq 5 91 (v := vi n) rfl (hS18.se [0, 1, 2, 3]) (fun w' hw' => (Y_move (v := vi n) rfl rfl)) ?_
      refine rq 6 92 (v := vi col) rfl (hS18.se [0, 1, 2, 3]) (fun w' hw' => (Y_move (v := vi col) rfl rfl)) ?_
      refine rq 7 93 (v := pt (aD b) 2) rfl (hS18.se [0, 1, 2, 3]) (fun w' hw' => (Y_fieldAddr (B := aD b) (i := 0) (s := 0) k_fd_67_2_2_3 k_sz_3_1 rfl rfl)) ?_
      refine rq 8 94 (v := vi g.B) rfl (hS18.se [0, 1, 2, 3]) (fun w' hw' => (Y_load1 (B := aD b) (i := 2) (cs := [vi g.Kind, vi g.A, vi g.B]) (v := vi g.B) k_sc_3 rfl rfl (ST.cf hw' (i := 0) rfl) rfl)) ?_
      refine rA [4] ?_
      refine ra_c 90 (i := 4) rfl rfl rfl (Yc_func (g := 164) (vs := [vi n, vi col, vi g.A]) k_call_164 rfl (mc rfl (mc rfl (mc rfl mn))) (c_spec_l6Bit n col g.A _  (hS18.inn0 [] rfl) hc6)) ?_ ?_
      ·rintro _ w_14 ⟨rfl, hd5⟩
       have hS19 := hS18.out00 hd5
       refine ⟨(hS19.se [0, 1, 2, 3]), ?_⟩
       refine rA [9] ?_
       refine ra_c 95 (i := 9) rfl rfl rfl (Yc_func (g := 164) (vs := [vi n, vi col, vi g.B]) k_call_164 rfl (mc rfl (mc rfl (mc rfl mn))) (c_spec_l6Bit n col g.B _  (hS19.inn0 [] rfl) hc7)) ?_ ?_
       ·rintro _ w_15 ⟨rfl, hd6⟩
        have hS20 := hS19.out00 hd6
        refine ⟨(hS20.se [0, 1, 2, 3]), ?_⟩
        refine rq 10 96 (v := .bool (r_7 != r_8)) rfl (hS20.se [0, 1, 2, 3]) (fun w' hw' => (Y_ne (k := .i64) (a := r_7) (b := r_8) rfl rfl rfl)) ?_
        refine ra_done (by kernel_rfl) ?_
        refine cw_cond (b := (r_7 != r_8)) rfl (fun hb6 => ?_) (fun hb6 => ?_)
        ·skip
         have hF13 := ct hF12 hb6
         refine cw_region ?_
         refine sQ 97 (Y_move (v := vi col) rfl rfl) ?_
         refine sQ 98 (Y_move (v := vi n) rfl rfl) ?_
         refine sQ 99 (Y_sub (k := .i64) (a := n) (b := 1) rfl rfl rfl) ?_
         refine sQ 100 (Y_fieldAddr (B := aD b) (i := 0) (s := 0) k_fd_67_1_1_3 k_sz_3_1 rfl rfl) ?_
         refine sQ 101 (Y_load1 (B := aD b) (i := 1) (cs := [vi g.Kind, vi g.A, vi g.B]) (v := vi g.A) k_sc_3 rfl rfl (hS20.cf (i := 0) rfl) rfl) ?_
         refine sQ 102 (Y_sub (k := .i64) (a := (i64.wrap (n - 1))) (b := g.A) rfl rfl rfl) ?_
         refine sQ 103 (Y_conv (k := .i64) (a := (i64.wrap ((i64.wrap (n - 1)) - g.A))) (T := 3) (T' := 53) k_us_3 k_int_53_u64 rfl rfl) ?_
         obtain ⟨hsh1, hF13⟩ := chk_inv hF13
         refine sQ 104 (Y_shl (k := .i64) (a := 1) (k' := .u64) (b := (IntKind.u64.wrap (i64.wrap ((i64.wrap (n - 1)) - g.A)))) rfl rfl rfl hsh1) ?_
         refine sQ 105 (Y_bxor (k := .i64) (a := col) (b := (shlK .i64 1 (IntKind.u64.wrap (i64.wrap ((i64.wrap (n - 1)) - g.A))))) rfl rfl rfl) ?_
         refine sQ 106 (Y_move (v := vi n) rfl rfl) ?_
         refine sQ 107 (Y_sub (k := .i64) (a := n) (b := 1) rfl rfl rfl) ?_
         refine sQ 108 (Y_fieldAddr (B := aD b) (i := 0) (s := 0) k_fd_67_2_2_3 k_sz_3_1 rfl rfl) ?_
         refine sQ 109 (Y_load1 (B := aD b) (i := 2) (cs := [vi g.Kind, vi g.A, vi g.B]) (v := vi g.B) k_sc_3 rfl rfl (hS20.cf (i := 0) rfl) rfl) ?_
         refine sQ 110 (Y_sub (k := .i64) (a := (i64.wrap (n - 1))) (b := g.B) rfl rfl rfl) ?_
         refine sQ 111 (Y_conv (k := .i64) (a := (i64.wrap ((i64.wrap (n - 1)) - g.B))) (T := 3) (T' := 53) k_us_3 k_int_53_u64 rfl rfl) ?_
         obtain ⟨hsh2, hF13⟩ := chk_inv hF13
         refine sQ 112 (Y_shl (k := .i64) (a := 1) (k' := .u64) (b := (IntKind.u64.wrap (i64.wrap ((i64.wrap (n - 1)) - g.B)))) rfl rfl rfl hsh2) ?_
         refine sQ 113 (Y_bxor (k := .i64) (a := (bits .xor .i64 col (shlK .i64 1 (IntKind.u64.wrap (i64.wrap ((i64.wrap (n - 1)) - g.A)))))) (b := (shlK .i64 1 (IntKind.u64.wrap (i64.wrap ((i64.wrap (n - 1)) - g.B))))) rfl rfl rfl) ?_
         refine sQ 11 (Y_assign (v := vi (bits .xor .i64 (bits .xor .i64 col (shlK .i64 1 (IntKind.u64.wrap (i64.wrap ((i64.wrap (n - 1)) - g.A))))) (shlK .i64 1 (IntKind.u64.wrap (i64.wrap ((i64.wrap (n - 1)) - g.B)))))) rfl rfl) (rw_nil ?_)
         exact ⟨r_1.Num.A, r_1.Num.B, r_1.Num.C, r_1.Num.D, r_1.Exp, (bits .xor .i64 (bits .xor .i64 col (shlK .i64 1 (IntKind.u64.wrap (i64.wrap ((i64.wrap (n - 1)) - g.A))))) (shlK .i64 1 (IntKind.u64.wrap (i64.wrap ((i64.wrap (n - 1)) - g.B))))), (some_inj hF13), (FF.cons rfl (FF.cons rfl (FF.cons rfl (FF.cons rfl (FF.cons rfl FF.nil))))), (hS20.sel [1, 2, 3] rfl rfl)⟩
        ·skip
         have hF14 := cf' hF12 hb6
         refine cw_skip ?_
         exact ⟨r_1.Num.A, r_1.Num.B, r_1.Num.C, r_1.Num.D, r_1.Exp, col, (some_inj hF14), (FF.cons rfl (FF.cons rfl (FF.cons rfl (FF.cons rfl (FF.cons rfl FF.nil))))), (hS20.sel [1, 2, 3] rfl rfl)⟩
       exact allR_nil
      exact allR_nil
     ·skip
      have hF15 := cf' hF11 hb5
      refine cw_seq (cw_seq (cw_region ?_))
      refine sQ 17 (Y_move (v := vi row) rfl rfl) ?_
      refine sQ 18 (Y_move (v := vi col) rfl rfl) ?_
      refine sQ 19 (Y_bxor (k := .i64) (a := row) (b := col) rfl rfl rfl) ?_
      refine sQ 20 (Y_move (v := vi n) rfl rfl) ?_
      refine sQ 21 (Y_sub (k := .i64) (a := n) (b := 1) rfl rfl rfl) ?_
      refine sQ 22 (Y_fieldAddr (B := aD b) (i := 0) (s := 0) k_fd_67_1_1_3 k_sz_3_1 rfl rfl) ?_
      refine sQ 23 (Y_load1 (B := aD b) (i := 1) (cs := [vi g.Kind, vi g.A, vi g.B]) (v := vi g.A) k_sc_3 rfl rfl (hS7.cf (i := 0) rfl) rfl) ?_
      refine sQ 24 (Y_sub (k := .i64) (a := (i64.wrap (n - 1))) (b := g.A) rfl rfl rfl) ?_
      refine sQ 25 (Y_conv (k := .i64) (a := (i64.wrap ((i64.wrap (n - 1)) - g.A))) (T := 3) (T' := 53) k_us_3 k_int_53_u64 rfl rfl) ?_
      obtain ⟨hsh3, hF15⟩ := chk_inv hF15
      refine sQ 26 (Y_shl (k := .i64) (a := 1) (k' := .u64) (b := (IntKind.u64.wrap (i64.wrap ((i64.wrap (n - 1)) - g.A)))) rfl rfl rfl hsh3) ?_
      refine sQ 27 (Y_bandNot (k := .i64) (a := (bits .xor .i64 row col)) (b := (shlK .i64 1 (IntKind.u64.wrap (i64.wrap ((i64.wrap (n - 1)) - g.A))))) rfl rfl rfl) ?_
      refine sQ 28 (Y_ne (k := .i64) (a := (bits .andNot .i64 (bits .xor .i64 row col) (shlK .i64 1 (IntKind.u64.wrap (i64.wrap ((i64.wrap (n - 1)) - g.A)))))) (b := 0) rfl rfl rfl) (rw_nil ?_)
      refine cw_cond (b := ((bits .andNot .i64 (bits .xor .i64 row col) (shlK .i64 1 (IntKind.u64.wrap (i64.wrap ((i64.wrap (n - 1)) - g.A))))) != 0)) rfl (fun hb7 => ?_) (fun hb7 => ?_)
      ·skip
       have hF16 := ct hF15 hb7
       refine cw_seq (cw_region ?_)
       refine sQ 29 (Y_loadA (B := aD b3) (i := 0) (cs := kZ_) (vs := kZ_) k_ag_63 k_sz_63_5 rfl rfl (hS7.cf (i := 3) rfl) rfl rfl) ?_
       refine s0 (Ys_store (i := 1) (s := 5) (B := aD b1) (T' := 63) (v := gZ_) (vs := kZ_) (k := 0) (cs' := kZ_) hS7 k_sz_63_5 rfl rfl rfl rfl rfl rfl rfl (lB rfl) rfl rfl) ?_
       rintro _ w_16 ⟨rfl, hS21⟩
       refine rw_nil (cw_ret ?_)
       obtain rfl := some_inj hF16
       obtain rfl := some_inj hF1
       exact ret1 Tryz.results127 (v1 := gZ_) (resAt_cellA (B := aD b1) (i := 0) (cs := kZ_) (vs := kZ_) rfl k_ag_63 k_sz_63_5 (hS21.cf (i := 1) rfl) rfl rfl) ⟨rfl, (hS21.sN [])⟩
      ·skip
       have hF17 := cf' hF15 hb7
       refine cw_skip (cw_seq ?_)
       obtain ⟨r_9, hc8, hF17⟩ := bind_inv hF17
       obtain ⟨r_10, hc9, hF17⟩ := bind_inv hF17
       obtain ⟨r_11, hc10, hF17⟩ := bind_inv hF17
       obtain ⟨x, hx, hF17⟩ := bind_inv hF17
       refine ra_start (hS7.se [0, 2, 3]).fn (by kernel_rfl) ?_
       have hS25 := hS7.drew
       refine rq 0 30 (v := pt (aD b) 0) rfl (hS25.se [0, 2, 3]) (fun w' hw' => (Y_fieldAddr (B := aD b) (i := 0) (s := 0) k_fd_67_0_0_3 k_sz_3_1 rfl rfl)) ?_
       refine rq 1 31 (v := vi g.Kind) rfl (hS25.se [0, 2, 3]) (fun w' hw' => (Y_load1 (B := aD b) (i := 0) (cs := [vi g.Kind, vi g.A, vi g.B]) (v := vi g.Kind) k_sc_3 rfl rfl (ST.cf hw' (i := 0) rfl) rfl)) ?_
       refine rq 3 33 (v := vi n) rfl (hS25.se [0, 2, 3]) (fun w' hw' => (Y_move (v := vi n) rfl rfl)) ?_
       refine rq 4 34 (v := vi row) rfl (hS25.se [0, 2, 3]) (fun w' hw' => (Y_move (v := vi row) rfl rfl)) ?_
       refine rq 5 35 (v := pt (aD b) 1) rfl (hS25.se [0, 2, 3]) (fun w' hw' => (Y_fieldAddr (B := aD b) (i := 0) (s := 0) k_fd_67_1_1_3 k_sz_3_1 rfl rfl)) ?_
       refine rq 6 36 (v := vi g.A) rfl (hS25.se [0, 2, 3]) (fun w' hw' => (Y_load1 (B := aD b) (i := 1) (cs := [vi g.Kind, vi g.A, vi g.B]) (v := vi g.A) k_sc_3 rfl rfl (ST.cf hw' (i := 0) rfl) rfl)) ?_
       refine rq 9 39 (v := vi n) rfl (hS25.se [0, 2, 3]) (fun w' hw' => (Y_move (v := vi n) rfl rfl)) ?_
       refine rq 10 40 (v := vi col) rfl (hS25.se [0, 2, 3]) (fun w' hw' => (Y_move (v := vi col) rfl rfl)) ?_
       refine rq 11 41 (v := pt (aD b) 1) rfl (hS25.se [0, 2, 3]) (fun w' hw' => (Y_fieldAddr (B := aD b) (i := 0) (s := 0) k_fd_67_1_1_3 k_sz_3_1 rfl rfl)) ?_
       refine rq 12 42 (v := vi g.A) rfl (hS25.se [0, 2, 3]) (fun w' hw' => (Y_load1 (B := aD b) (i := 1) (cs := [vi g.Kind, vi g.A, vi g.B]) (v := vi g.A) k_sc_3 rfl rfl (ST.cf hw' (i := 0) rfl) rfl)) ?_
       refine rA [2] ?_
       refine ra_c 32 (i := 2) rfl rfl rfl (Yc_func (g := 165) (vs := [vi g.Kind]) k_call_165 rfl (mc rfl mn) (c_spec_l6One g.Kind _  (hS25.inn0 [] rfl) hc8)) ?_ ?_
       ·rintro _ w_17 ⟨B1, c, rfl, hd7⟩
        have hS26 := hS25.out0 hd7
        refine ⟨(hS26.se [0, 2, 3]), ?_⟩
        refine rA [7] ?_
        refine ra_c 37 (i := 7) rfl rfl rfl (Yc_func (g := 164) (vs := [vi n, vi row, vi g.A]) k_call_164 rfl (mc rfl (mc rfl (mc rfl mn))) (c_spec_l6Bit n row g.A _  (hS26.inn0 [] rfl) hc9)) ?_ ?_
        ·rintro _ w_18 ⟨rfl, hd8⟩
         have hS27 := hS26.out00 hd8
         refine ⟨(hS27.se [0, 2, 3]), ?_⟩
         refine rq 8 38 (v := vi (i64.wrap (2 * r_10))) rfl (hS27.se [0, 2, 3]) (fun w' hw' => (Y_mul (k := .i64) (a := 2) (b := r_10) rfl rfl rfl)) ?_
         refine rA [13] ?_
         refine ra_c 43 (i := 13) rfl rfl rfl (Yc_func (g := 164) (vs := [vi n, vi col, vi g.A]) k_call_164 rfl (mc rfl (mc rfl (mc rfl mn))) (c_spec_l6Bit n col g.A _  (hS27.inn0 [] rfl) hc10)) ?_ ?_
         ·rintro _ w_19 ⟨rfl, hd9⟩
          have hS28 := hS27.out00 hd9
          refine ⟨(hS28.se [0, 2, 3]), ?_⟩
          refine rq 14 44 (v := vi (i64.wrap ((i64.wrap (2 * r_10)) + r_11))) rfl (hS28.se [0, 2, 3]) (fun w' hw' => (Y_add (k := .i64) (a := (i64.wrap (2 * r_10))) (b := r_11) rfl rfl rfl)) ?_
          refine rA [15] ?_
          refine ra_y 45 (i := 15) (v := pt B1 ((i64.wrap ((i64.wrap (2 * r_10)) + r_11)).toNat * 5)) rfl rfl rfl (Y_index (B := B1) (m := r_9.length) (c := c) (k := .i64) (i := (i64.wrap ((i64.wrap (2 * r_10)) + r_11))) k_sl_28_63 k_sz_63_5 rfl rfl rfl (gi_isSome enc_Dyadic_len rfl (hS28.cf (i := 4) rfl) hx) (getI_nn hx) (getI_ltI hx rfl)) (hS28.se [0, 2, 3]) ?_ ?_
          ·skip
           refine rA [16] ?_
           refine ra_y 46 (i := 16) (v := gD_ x) rfl rfl rfl (Y_loadA (B := B1) (i := (i64.wrap ((i64.wrap (2 * r_10)) + r_11)).toNat * 5) (cs := (r_9.flatMap eN0)) (vs := kD_ x) k_ag_63 k_sz_63_5 rfl rfl (hS28.cf (i := 4) rfl) (enc_Dyadic_len x) (gi_seg enc_Dyadic_len hx)) (hS28.se [0, 2, 3]) ?_ ?_
           ·skip
            refine rA [17] ?_
            refine ra_s0 (i := 17) rfl rfl rfl (Ys_store (i := 1) (s := 5) (B := aD b1) (T' := 63) (v := gD_ x) (vs := kD_ x) (k := 0) (cs' := kD_ x) hS28 k_sz_63_5 rfl rfl rfl rfl rfl rfl rfl (lB rfl) rfl rfl) ?_ ?_
            ·rintro _ w_20 ⟨rfl, hS29⟩
             refine ⟨(hS29.se [0, 2, 3]), ?_⟩
             refine ra_done (by kernel_rfl) ?_
             refine cw_ret ?_
             obtain rfl := some_inj hF17
             obtain rfl := some_inj hF1
             exact ret1 Tryz.results127 (v1 := gD_ x) (resAt_cellA (B := aD b1) (i := 0) (cs := kD_ x) (vs := kD_ x) rfl k_ag_63 k_sz_63_5 (hS29.cf (i := 1) rfl) rfl rfl) ⟨rfl, (hS29.sN [])⟩
            exact allR_nil
           exact allR_nil
          exact allR_nil
         exact allR_nil
        exact allR_nil
       exact allR_nil
 rintro f w ⟨A, B, C, D, Exp, to_, rfl, hf, hS8⟩
 refine cw_seq (cw_seq (cw_region ?_))
 refine sQ 114 (Y_move (v := vi row) rfl (hf.get 2 0 rfl)) ?_
 refine sQ 115 (Y_move (v := vi to_) rfl (hf.get 11 4 rfl)) ?_
 refine sQ 116 (Y_eq (k := .i64) (a := row) (b := to_) rfl rfl rfl) (rw_nil ?_)
 refine cw_cond (b := (row == to_)) rfl (fun hb8 => ?_) (fun hb8 => ?_)
 ·skip
  have hF18 := ct hF1 hb8
  refine cw_seq (cw_region ?_)
  refine sQ 117 (Y_loadA (B := aD b2) (i := 0) (cs := [vi A, vi B, vi C, vi D, vi Exp]) (vs := [vi A, vi B, vi C, vi D, vi Exp]) k_ag_63 k_sz_63_5 rfl (hf.get 9 2 rfl) (hS8.cf (i := 1) rfl) rfl rfl) ?_
  refine s0 (Ys_store (i := 0) (s := 5) (B := aD b1) (T' := 63) (v := .agg #[vi A, vi B, vi C, vi D, vi Exp]) (vs := [vi A, vi B, vi C, vi D, vi Exp]) (k := 0) (cs' := [vi A, vi B, vi C, vi D, vi Exp]) hS8 k_sz_63_5 rfl (hf.get 8 1 rfl) rfl rfl rfl rfl rfl (lB rfl) rfl rfl) ?_
  rintro _ w_21 ⟨rfl, hS30⟩
  refine rw_nil (cw_ret ?_)
  obtain rfl := some_inj hF18
  exact ret1 Tryz.results127 (v1 := .agg #[vi A, vi B, vi C, vi D, vi Exp]) (resAt_cellA (B := aD b1) (i := 0) (cs := [vi A, vi B, vi C, vi D, vi Exp]) (vs := [vi A, vi B, vi C, vi D, vi Exp]) (hf.get 8 1 rfl) k_ag_63 k_sz_63_5 (hS30.cf (i := 0) rfl) rfl rfl) ⟨rfl, (hS30.sN [])⟩
 ·skip
  have hF19 := cf' hF1 hb8
  refine cw_skip (cw_seq (cw_region ?_))
  refine sQ 118 (Y_loadA (B := aD b3) (i := 0) (cs := kZ_) (vs := kZ_) k_ag_63 k_sz_63_5 rfl (hf.get 10 3 rfl) (hS8.cf (i := 2) rfl) rfl rfl) ?_
  refine s0 (Ys_store (i := 0) (s := 5) (B := aD b1) (T' := 63) (v := gZ_) (vs := kZ_) (k := 0) (cs' := kZ_) hS8 k_sz_63_5 rfl (hf.get 8 1 rfl) rfl rfl rfl rfl rfl (lB rfl) rfl rfl) ?_
  rintro _ w_22 ⟨rfl, hS31⟩
  refine rw_nil (cw_ret ?_)
  obtain rfl := some_inj hF19
  exact ret1 Tryz.results127 (v1 := gZ_) (resAt_cellA (B := aD b1) (i := 0) (cs := kZ_) (vs := kZ_) (hf.get 8 1 rfl) k_ag_63 k_sz_63_5 (hS31.cf (i := 0) rfl) rfl rfl) ⟨rfl, (hS31.sN [])⟩

theorem c_spec_l6Gate (n : Int) (g : TGate)  (w0 : World)  (hS : ST w0 [] w0 [] []) {r_ : TMatrix} (hF : F_spec_l6Gate n g = some r_) :
  CV Tryz.prog 81 #[vi n, .agg #[vi g.Kind, vi g.A, vi g.B]] w0 (fun v w' => ∃ (B : Option Addr) (c : Nat), v = (gM_ r_ B c) ∧ ST w0 [] w' [⟨B, 63, (r_.Cells.flatMap eN0), c * 5⟩] []) := by
 unfold F_spec_l6Gate at hF
 refine cv_of_cw 36 Tryz.func81 rfl Tryz.ntmps81 rfl ?_
 refine cw_seq (cw_region ?_)
 refine sS 3 (Ys_box (T := 67) (v := .agg #[vi g.Kind, vi g.A, vi g.B]) (cs := [vi g.Kind, vi g.A, vi g.B]) (m := 3) hS rfl rfl rfl rfl) ?_
 rintro _ w_ ⟨b, rfl, hS1⟩
 refine sS 4 (Ys_alloc (T := 30) (cs := kN_) (m := 3) hS1 k_zero_30 rfl rfl rfl) ?_
 rintro _ w_1 ⟨b1, rfl, hS2⟩
 refine rw_nil (cw_seq (cw_region ?_))
 refine sQ 9 (Y_move (v := vi n) rfl rfl) ?_
 refine sQ 10 (Y_conv (k := .i64) (a := n) (T := 3) (T' := 53) k_us_3 k_int_53_u64 rfl rfl) ?_
 obtain ⟨hsh, hF⟩ := chk_inv hF
 refine sQ 11 (Y_shl (k := .i64) (a := 1) (k' := .u64) (b := (IntKind.u64.wrap n)) rfl rfl rfl hsh) ?_
 refine sQ 5 (Y_assign (v := vi (shlK .i64 1 (IntKind.u64.wrap n))) rfl rfl) (rw_nil (cw_seq (cw_region ?_)))
 refine sQ 12 (Y_move (v := vi (shlK .i64 1 (IntKind.u64.wrap n))) rfl rfl) ?_
 refine sQ 13 (Y_move (v := vi (shlK .i64 1 (IntKind.u64.wrap n))) rfl rfl) ?_
 refine sQ 14 (Y_buildS (zs := kN_) (vs := [(0, vi (shlK .i64 1 (IntKind.u64.wrap n))), (1, vi (shlK .i64 1 (IntKind.u64.wrap n)))]) (cs := [vi (shlK .i64 1 (IntKind.u64.wrap n)), vi (shlK .i64 1 (IntKind.u64.wrap n)), .slice none 0 0]) k_pl_30 k_zero_30 rfl (mpc rfl (mpc rfl mpn)) rfl) ?_
 refine sS 6 (Ys_alloc (T := 30) (cs := kN_) (m := 3) hS2 k_zero_30 rfl rfl rfl) ?_
 rintro _ w_2 ⟨b2, rfl, hS3⟩
 refine s0 (Ys_store (i := 2) (s := 3) (B := aD b2) (T' := 30) (v := .agg #[vi (shlK .i64 1 (IntKind.u64.wrap n)), vi (shlK .i64 1 (IntKind.u64.wrap n)), .slice none 0 0]) (vs := [vi (shlK .i64 1 (IntKind.u64.wrap n)), vi (shlK .i64 1 (IntKind.u64.wrap n)), .slice none 0 0]) (k := 0) (cs' := [vi (shlK .i64 1 (IntKind.u64.wrap n)), vi (shlK .i64 1 (IntKind.u64.wrap n)), .slice none 0 0]) hS3 k_sz_30_3 rfl rfl rfl rfl rfl rfl rfl (lB rfl) rfl rfl) ?_
 rintro _ w_3 ⟨rfl, hS4⟩
 refine rw_nil (cw_seq (cw_seq (cw_region ?_)))
 refine sQ 7 (Y_assign (v := vi 0) rfl rfl) (rw_nil ?_)
 obtain ⟨hN, hF⟩ := chk_inv hF
 obtain ⟨z, hz, hF1⟩ := bind_inv hF
 have hS6 := hS4.addNil 63
 refine cw_block ?_
 refine cw_loop (fun k f w => ∃ (i1 : Nat) (Cells : List TDyadic) (B1 : Option Addr) (c1 : Nat), FF f [(0, vi n), (3, pt (aD b) 0), (4, pt (aD b1) 0), (5, vi (shlK .i64 1 (IntKind.u64.wrap n))), (6, pt (aD b2) 0), (7, vi (i1 : Int))] ∧ ST w0 [] w [⟨aD b, 67, [vi g.Kind, vi g.A, vi g.B], 3⟩, ⟨aD b1, 30, kN_, 3⟩, ⟨aD b2, 30, [vi (shlK .i64 1 (IntKind.u64.wrap n)), vi (shlK .i64 1 (IntKind.u64.wrap n)), .slice B1 Cells.length c1], 3⟩, ⟨B1, 63, (Cells.flatMap eN0), c1 * 5⟩] [] ∧ i1 + k = (shlK .i64 1 (IntKind.u64.wrap n)).toNat ∧ forN (F_spec_l6Gate_l1 n g) k i1 Cells = some z) ((shlK .i64 1 (IntKind.u64.wrap n)).toNat) ⟨0, [], none, 0, (FF.cons rfl (FF.cons rfl (FF.cons rfl (FF.cons rfl (FF.cons rfl (FF.cons rfl FF.nil)))))), (hS6.sel [0, 1, 2, 3] rfl rfl), Nat.zero_add _, hz⟩ ?_
 rintro k_ f w ⟨i1, Cells, B1, c1, hf, hS5, hik, hL⟩
 refine cw_seq (cw_seq (cw_region ?_))
 refine sQ 15 (Y_move (v := vi (i1 : Int)) rfl (hf.get 7 5 rfl)) ?_
 refine sQ 16 (Y_move (v := vi (shlK .i64 1 (IntKind.u64.wrap n))) rfl (hf.get 5 3 rfl)) ?_
 refine sQ 17 (Y_lt (k := .i64) (a := (i1 : Int)) (b := (shlK .i64 1 (IntKind.u64.wrap n))) rfl rfl rfl) (rw_nil ?_)
 refine cw_cond (b := (decide ((i1 : Int) < (shlK .i64 1 (IntKind.u64.wrap n))))) rfl (fun hlt => ?_) (fun hlt => ?_)
 ·skip
  have hlt1 : i1 < (shlK .i64 1 (IntKind.u64.wrap n)).toNat := by have h := of_decide_eq_true hlt; omega
  obtain ⟨k_1, rfl⟩ : ∃ k2, k_ = k2 + 1 := ⟨k_ - 1, by omega⟩
  obtain ⟨y, hb, hL1⟩ := forN_go hL
  unfold F_spec_l6Gate_l1 at hb
  refine cw_skip (cw_seq (cw_block (cw_seq (cw_region ?_))))
  refine sQ 8 (Y_assign (v := vi 0) rfl rfl) (rw_nil ?_)
  obtain ⟨hN1, hb⟩ := chk_inv hb
  obtain ⟨z1, hz1, hF2⟩ := bind_inv hb
  refine cw_block ?_
  refine cw_loop (fun k f w => ∃ (j : Nat) (Cells1 : List TDyadic) (B2 : Option Addr) (c2 : Nat), FF f [(0, vi n), (3, pt (aD b) 0), (4, pt (aD b1) 0), (5, vi (shlK .i64 1 (IntKind.u64.wrap n))), (6, pt (aD b2) 0), (7, vi (i1 : Int)), (8, vi (j : Int))] ∧ ST w0 [] w [⟨aD b, 67, [vi g.Kind, vi g.A, vi g.B], 3⟩, ⟨aD b1, 30, kN_, 3⟩, ⟨aD b2, 30, [vi (shlK .i64 1 (IntKind.u64.wrap n)), vi (shlK .i64 1 (IntKind.u64.wrap n)), .slice B2 Cells1.length c2], 3⟩, ⟨B2, 63, (Cells1.flatMap eN0), c2 * 5⟩] [] ∧ j + k = (shlK .i64 1 (IntKind.u64.wrap n)).toNat ∧ forN (F_spec_l6Gate_l2 n g i1) k j Cells1 = some z1) ((shlK .i64 1 (IntKind.u64.wrap n)).toNat) ⟨0, Cells, B1, c1, (FF.cons (hf.get 0 0 rfl) (FF.cons (hf.get 3 1 rfl) (FF.cons (hf.get 4 2 rfl) (FF.cons (hf.get 5 3 rfl) (FF.cons (hf.get 6 4 rfl) (FF.cons (hf.get 7 5 rfl) (FF.cons rfl FF.nil))))))), (hS5.sel [0, 1, 2, 3] rfl rfl), Nat.zero_add _, hz1⟩ ?_
  rintro k_2 f w ⟨j, Cells1, B2, c2, hf1, hS7, hik1, hL2⟩
  refine cw_seq (cw_seq (cw_region ?_))
  refine sQ 20 (Y_move (v := vi (j : Int)) rfl (hf1.get 8 6 rfl)) ?_
  refine sQ 21 (Y_move (v := vi (shlK .i64 1 (IntKind.u64.wrap n))) rfl (hf1.get 5 3 rfl)) ?_
  refine sQ 22 (Y_lt (k := .i64) (a := (j : Int)) (b := (shlK .i64 1 (IntKind.u64.wrap n))) rfl rfl rfl) (rw_nil ?_)
  refine cw_cond (b := (decide ((j : Int) < (shlK .i64 1 (IntKind.u64.wrap n))))) rfl (fun hlt2 => ?_) (fun hlt2 => ?_)
  ·skip
   have hlt3 : j < (shlK .i64 1 (IntKind.u64.wrap n)).toNat := by have h := of_decide_eq_true hlt2; omega
   obtain ⟨k_3, rfl⟩ : ∃ k2, k_2 = k2 + 1 := ⟨k_2 - 1, by omega⟩
   obtain ⟨y1, hb1, hL3⟩ := forN_go hL2
   unfold F_spec_l6Gate_l2 at hb1
   refine cw_skip (cw_seq (cw_block ?_))
   obtain ⟨r_1, hc, hb1⟩ := bind_inv hb1
   obtain ⟨hap, hb1⟩ := chk_inv hb1
   refine cw_mid (fun f w => ∃ (B4 : Option Addr) (c4 : Nat), FF f [(0, vi n), (3, pt (aD b) 0), (4, pt (aD b1) 0), (5, vi (shlK .i64 1 (IntKind.u64.wrap n))), (6, pt (aD b2) 0), (7, vi (i1 : Int)), (8, vi (j : Int))] ∧ ST w0 [] w [⟨aD b, 67, [vi g.Kind, vi g.A, vi g.B], 3⟩, ⟨aD b1, 30, kN_, 3⟩, ⟨aD b2, 30, [vi (shlK .i64 1 (IntKind.u64.wrap n)), vi (shlK .i64 1 (IntKind.u64.wrap n)), .slice B4 ((Cells1 ++ [r_1]).length) c4], 3⟩, ⟨B4, 63, ((Cells1 ++ [r_1]).flatMap eN0), c4 * 5⟩] []) ?_ ?_
   ·skip
    refine ra_start (hS7.se [0, 1]).fn (by kernel_rfl) ?_
    have hS10 := hS7.drew
    refine rq 0 25 (v := pt (aD b2) 2) rfl (hS10.se [0, 1]) (fun w' hw' => (Y_fieldAddr (B := aD b2) (i := 0) (s := 0) k_fd_30_2_2_28 k_sz_28_1 rfl (hf1.get 6 4 rfl))) ?_
    refine rq 2 27 (v := vi n) rfl (hS10.se [0, 1]) (fun w' hw' => (Y_move (v := vi n) rfl (hf1.get 0 0 rfl))) ?_
    refine rq 3 28 (v := .agg #[vi g.Kind, vi g.A, vi g.B]) rfl (hS10.se [0, 1]) (fun w' hw' => (Y_loadA (B := aD b) (i := 0) (cs := [vi g.Kind, vi g.A, vi g.B]) (vs := [vi g.Kind, vi g.A, vi g.B]) k_ag_67 k_sz_67_3 rfl (hf1.get 3 1 rfl) (ST.cf hw' (i := 0) rfl) rfl rfl)) ?_
    refine rq 4 29 (v := vi (i1 : Int)) rfl (hS10.se [0, 1]) (fun w' hw' => (Y_move (v := vi (i1 : Int)) rfl (hf1.get 7 5 rfl))) ?_
    refine rq 5 30 (v := vi (j : Int)) rfl (hS10.se [0, 1]) (fun w' hw' => (Y_move (v := vi (j : Int)) rfl (hf1.get 8 6 rfl))) ?_
    refine rA [1, 6] ?_
    refine ra_y 26 (i := 1) (v := .slice B2 Cells1.length c2) rfl rfl rfl (Y_load1 (B := aD b2) (i := 2) (cs := [vi (shlK .i64 1 (IntKind.u64.wrap n)), vi (shlK .i64 1 (IntKind.u64.wrap n)), .slice B2 Cells1.length c2]) (v := .slice B2 Cells1.length c2) k_sc_28 rfl rfl (hS10.cf (i := 2) rfl) rfl) (hS10.se [0, 1]) ?_ ?_
    ·skip
     refine rA [6] ?_
     refine ra_c 31 (i := 6) rfl rfl rfl (Yc_func (g := 127) (vs := [vi n, .agg #[vi g.Kind, vi g.A, vi g.B], vi (i1 : Int), vi (j : Int)]) k_call_127 rfl (mc rfl (mc rfl (mc rfl (mc rfl mn)))) (c_spec_l6Cell n g (i1 : Int) (j : Int) _  (hS10.inn0 [] rfl) hc)) ?_ ?_
     ·rintro _ w_4 ⟨rfl, hd⟩
      have hS11 := hS10.out00 hd
      refine ⟨(hS11.se [0, 1]), ?_⟩
      refine rA [7] ?_
      refine ra_s 32 (i := 7) rfl rfl rfl (Ys_bslice (s := 5) (len := 1) (vs := [(0, gD_ r_1)]) (cs := kD_ r_1) (zs := kZ_) (m := 5) hS11 k_sl_28_63 k_sz_63_5 k_zc_63 rfl (mpc rfl mpn) rfl rfl rfl (by kernel_rfl) (by kernel_rfl) rfl) ?_ ?_
      ·rintro _ w_5 ⟨b3, rfl, hS12⟩
       refine ⟨(hS12.se [0, 1]), ?_⟩
       refine rA [8] ?_
       refine ra_s 33 (i := 8) rfl rfl rfl (Ys_append (s := 5) (by' := 40) (i := 3) (nn := Cells1.length) (c := c2) (k := 1) (len := (Cells1 ++ [r_1]).length) (B := B2) (xs := ([r_1].flatMap eN0)) (cs' := ((Cells1 ++ [r_1]).flatMap eN0)) hS12 k_sl_28_63 k_sz_63_5 k_by_63_40 k_zero_63 rfl (by decide) rfl rfl rfl rfl (fm_lenn (l := Cells1) enc_Dyadic_len rfl) rfl (hS12.cf (i := 4) rfl) (fm_lenn (l := [r_1]) enc_Dyadic_len rfl) (fm_one' (enc := eN0) enc_Dyadic_one [r_1]) (by have := hap; omega) (by have := hap; simp only [maxLen]; omega) (fm_app _ _) (app_len (l := Cells1) (l' := [r_1]) rfl rfl)) ?_ ?_
       ·rintro _ w_6 ⟨B3, c3, rfl, hS13⟩
        refine ⟨(hS13.se [0, 1]), ?_⟩
        refine rq 9 34 (v := pt (aD b2) 2) rfl (hS13.se [0, 1]) (fun w' hw' => (Y_fieldAddr (B := aD b2) (i := 0) (s := 0) k_fd_30_2_2_28 k_sz_28_1 rfl (hf1.get 6 4 rfl))) ?_
        refine rA [10] ?_
        refine ra_s0 (i := 10) rfl rfl rfl (Ys_store (i := 2) (s := 1) (B := aD b2) (T' := 30) (v := .slice B3 ((Cells1 ++ [r_1]).length) c3) (vs := [.slice B3 ((Cells1 ++ [r_1]).length) c3]) (k := 2) (cs' := [vi (shlK .i64 1 (IntKind.u64.wrap n)), vi (shlK .i64 1 (IntKind.u64.wrap n)), .slice B3 ((Cells1 ++ [r_1]).length) c3]) hS13 k_sz_28_1 rfl rfl rfl rfl rfl rfl rfl (lB rfl) rfl rfl) ?_ ?_
        ·rintro _ w_7 ⟨rfl, hS14⟩
         refine ⟨(hS14.se [0, 1]), ?_⟩
         refine ra_done (by kernel_rfl) ?_
         exact ⟨B3, c3, (FF.cons (hf1.get 0 0 rfl) (FF.cons (hf1.get 3 1 rfl) (FF.cons (hf1.get 4 2 rfl) (FF.cons (hf1.get 5 3 rfl) (FF.cons (hf1.get 6 4 rfl) (FF.cons (hf1.get 7 5 rfl) (FF.cons (hf1.get 8 6 rfl) FF.nil))))))), (hS14.sel [0, 1, 2, 3] rfl rfl)⟩
        exact allR_nil
       exact allR_nil
      exact allR_nil
     exact allR_nil
    refine ra_c 31 (i := 6) rfl rfl rfl (Yc_func (g := 127) (vs := [vi n, .agg #[vi g.Kind, vi g.A, vi g.B], vi (i1 : Int), vi (j : Int)]) k_call_127 rfl (mc rfl (mc rfl (mc rfl (mc rfl mn)))) (c_spec_l6Cell n g (i1 : Int) (j : Int) _  (hS10.inn0 [] rfl) hc)) ?_ ?_
    ·rintro _ w_8 ⟨rfl, hd1⟩
     have hS15 := hS10.out00 hd1
     refine ⟨(hS15.se [0, 1]), ?_⟩
     refine rA [1, 7] ?_
     refine ra_y 26 (i := 1) (v := .slice B2 Cells1.length c2) rfl rfl rfl (Y_load1 (B := aD b2) (i := 2) (cs := [vi (shlK .i64 1 (IntKind.u64.wrap n)), vi (shlK .i64 1 (IntKind.u64.wrap n)), .slice B2 Cells1.length c2]) (v := .slice B2 Cells1.length c2) k_sc_28 rfl rfl (hS15.cf (i := 2) rfl) rfl) (hS15.se [0, 1]) ?_ ?_
     ·skip
      refine rA [7] ?_
      refine ra_s 32 (i := 7) rfl rfl rfl (Ys_bslice (s := 5) (len := 1) (vs := [(0, gD_ r_1)]) (cs := kD_ r_1) (zs := kZ_) (m := 5) hS15 k_sl_28_63 k_sz_63_5 k_zc_63 rfl (mpc rfl mpn) rfl rfl rfl (by kernel_rfl) (by kernel_rfl) rfl) ?_ ?_
      ·rintro _ w_9 ⟨b3, rfl, hS16⟩
       refine ⟨(hS16.se [0, 1]), ?_⟩
       refine rA [8] ?_
       refine ra_s 33 (i := 8) rfl rfl rfl (Ys_append (s := 5) (by' := 40) (i := 3) (nn := Cells1.length) (c := c2) (k := 1) (len := (Cells1 ++ [r_1]).length) (B := B2) (xs := ([r_1].flatMap eN0)) (cs' := ((Cells1 ++ [r_1]).flatMap eN0)) hS16 k_sl_28_63 k_sz_63_5 k_by_63_40 k_zero_63 rfl (by decide) rfl rfl rfl rfl (fm_lenn (l := Cells1) enc_Dyadic_len rfl) rfl (hS16.cf (i := 4) rfl) (fm_lenn (l := [r_1]) enc_Dyadic_len rfl) (fm_one' (enc := eN0) enc_Dyadic_one [r_1]) (by have := hap; omega) (by have := hap; simp only [maxLen]; omega) (fm_app _ _) (app_len (l := Cells1) (l' := [r_1]) rfl rfl)) ?_ ?_
       ·rintro _ w_10 ⟨B3, c3, rfl, hS17⟩
        refine ⟨(hS17.se [0, 1]), ?_⟩
        refine rq 9 34 (v := pt (aD b2) 2) rfl (hS17.se [0, 1]) (fun w' hw' => (Y_fieldAddr (B := aD b2) (i := 0) (s := 0) k_fd_30_2_2_28 k_sz_28_1 rfl (hf1.get 6 4 rfl))) ?_
        refine rA [10] ?_
        refine ra_s0 (i := 10) rfl rfl rfl (Ys_store (i := 2) (s := 1) (B := aD b2) (T' := 30) (v := .slice B3 ((Cells1 ++ [r_1]).length) c3) (vs := [.slice B3 ((Cells1 ++ [r_1]).length) c3]) (k := 2) (cs' := [vi (shlK .i64 1 (IntKind.u64.wrap n)), vi (shlK .i64 1 (IntKind.u64.wrap n)), .slice B3 ((Cells1 ++ [r_1]).length) c3]) hS17 k_sz_28_1 rfl rfl rfl rfl rfl rfl rfl (lB rfl) rfl rfl) ?_ ?_
        ·rintro _ w_11 ⟨rfl, hS18⟩
         refine ⟨(hS18.se [0, 1]), ?_⟩
         refine ra_done (by kernel_rfl) ?_
         exact ⟨B3, c3, (FF.cons (hf1.get 0 0 rfl) (FF.cons (hf1.get 3 1 rfl) (FF.cons (hf1.get 4 2 rfl) (FF.cons (hf1.get 5 3 rfl) (FF.cons (hf1.get 6 4 rfl) (FF.cons (hf1.get 7 5 rfl) (FF.cons (hf1.get 8 6 rfl) FF.nil))))))), (hS18.sel [0, 1, 2, 3] rfl rfl)⟩
        exact allR_nil
       exact allR_nil
      exact allR_nil
     refine ra_s 32 (i := 7) rfl rfl rfl (Ys_bslice (s := 5) (len := 1) (vs := [(0, gD_ r_1)]) (cs := kD_ r_1) (zs := kZ_) (m := 5) hS15 k_sl_28_63 k_sz_63_5 k_zc_63 rfl (mpc rfl mpn) rfl rfl rfl (by kernel_rfl) (by kernel_rfl) rfl) ?_ ?_
     ·rintro _ w_12 ⟨b3, rfl, hS19⟩
      refine ⟨(hS19.se [0, 1]), ?_⟩
      refine rA [1] ?_
      refine ra_y 26 (i := 1) (v := .slice B2 Cells1.length c2) rfl rfl rfl (Y_load1 (B := aD b2) (i := 2) (cs := [vi (shlK .i64 1 (IntKind.u64.wrap n)), vi (shlK .i64 1 (IntKind.u64.wrap n)), .slice B2 Cells1.length c2]) (v := .slice B2 Cells1.length c2) k_sc_28 rfl rfl (hS19.cf (i := 2) rfl) rfl) (hS19.se [0, 1]) ?_ ?_
      ·skip
       refine rA [8] ?_
       refine ra_s 33 (i := 8) rfl rfl rfl (Ys_append (s := 5) (by' := 40) (i := 3) (nn := Cells1.length) (c := c2) (k := 1) (len := (Cells1 ++ [r_1]).length) (B := B2) (xs := ([r_1].flatMap eN0)) (cs' := ((Cells1 ++ [r_1]).flatMap eN0)) hS19 k_sl_28_63 k_sz_63_5 k_by_63_40 k_zero_63 rfl (by decide) rfl rfl rfl rfl (fm_lenn (l := Cells1) enc_Dyadic_len rfl) rfl (hS19.cf (i := 4) rfl) (fm_lenn (l := [r_1]) enc_Dyadic_len rfl) (fm_one' (enc := eN0) enc_Dyadic_one [r_1]) (by have := hap; omega) (by have := hap; simp only [maxLen]; omega) (fm_app _ _) (app_len (l := Cells1) (l' := [r_1]) rfl rfl)) ?_ ?_
       ·rintro _ w_13 ⟨B3, c3, rfl, hS20⟩
        refine ⟨(hS20.se [0, 1]), ?_⟩
        refine rq 9 34 (v := pt (aD b2) 2) rfl (hS20.se [0, 1]) (fun w' hw' => (Y_fieldAddr (B := aD b2) (i := 0) (s := 0) k_fd_30_2_2_28 k_sz_28_1 rfl (hf1.get 6 4 rfl))) ?_
        refine rA [10] ?_
        refine ra_s0 (i := 10) rfl rfl rfl (Ys_store (i := 2) (s := 1) (B := aD b2) (T' := 30) (v := .slice B3 ((Cells1 ++ [r_1]).length) c3) (vs := [.slice B3 ((Cells1 ++ [r_1]).length) c3]) (k := 2) (cs' := [vi (shlK .i64 1 (IntKind.u64.wrap n)), vi (shlK .i64 1 (IntKind.u64.wrap n)), .slice B3 ((Cells1 ++ [r_1]).length) c3]) hS20 k_sz_28_1 rfl rfl rfl rfl rfl rfl rfl (lB rfl) rfl rfl) ?_ ?_
        ·rintro _ w_14 ⟨rfl, hS21⟩
         refine ⟨(hS21.se [0, 1]), ?_⟩
         refine ra_done (by kernel_rfl) ?_
         exact ⟨B3, c3, (FF.cons (hf1.get 0 0 rfl) (FF.cons (hf1.get 3 1 rfl) (FF.cons (hf1.get 4 2 rfl) (FF.cons (hf1.get 5 3 rfl) (FF.cons (hf1.get 6 4 rfl) (FF.cons (hf1.get 7 5 rfl) (FF.cons (hf1.get 8 6 rfl) FF.nil))))))), (hS21.sel [0, 1, 2, 3] rfl rfl)⟩
        exact allR_nil
       exact allR_nil
      exact allR_nil
     exact allR_nil
    exact allR_nil
   rintro f w ⟨B4, c4, hf2, hS9⟩
   refine cw_region ?_
   refine sQ 23 (Y_move (v := vi (j : Int)) rfl (hf2.get 8 6 rfl)) ?_
   refine sQ 24 (Y_add (k := .i64) (a := (j : Int)) (b := 1) rfl rfl rfl) ?_
   refine sQ 8 (Y_assign (v := vi (i64.wrap ((j : Int) + 1))) rfl rfl) (rw_nil ?_)
   obtain rfl := some_inj hb1
   exact ⟨k_3, Nat.lt_succ_self _, j + 1, (Cells1 ++ [r_1]), B4, c4, (FF.cons (hf2.get 0 0 rfl) (FF.cons (hf2.get 3 1 rfl) (FF.cons (hf2.get 4 2 rfl) (FF.cons (hf2.get 5 3 rfl) (FF.cons (hf2.get 6 4 rfl) (FF.cons (hf2.get 7 5 rfl) (FF.cons (congrArg (Value.int .i64) (wr_succ hlt3 hN1)) FF.nil))))))), (hS9.sel [0, 1, 2, 3] rfl rfl), (by omega), hL3⟩
  ·skip
   obtain rfl : k_2 = 0 := by have h := of_decide_eq_false hlt2; omega
   refine cw_exit rfl ?_
   obtain rfl := some_inj hL2
   refine cw_region ?_
   refine sQ 18 (Y_move (v := vi (i1 : Int)) rfl (hf1.get 7 5 rfl)) ?_
   refine sQ 19 (Y_add (k := .i64) (a := (i1 : Int)) (b := 1) rfl rfl rfl) ?_
   refine sQ 7 (Y_assign (v := vi (i64.wrap ((i1 : Int) + 1))) rfl rfl) (rw_nil ?_)
   obtain rfl := some_inj hF2
   exact ⟨k_1, Nat.lt_succ_self _, i1 + 1, Cells1, B2, c2, (FF.cons (hf1.get 0 0 rfl) (FF.cons (hf1.get 3 1 rfl) (FF.cons (hf1.get 4 2 rfl) (FF.cons (hf1.get 5 3 rfl) (FF.cons (hf1.get 6 4 rfl) (FF.cons (congrArg (Value.int .i64) (wr_succ hlt1 hN)) FF.nil)))))), (hS7.sel [0, 1, 2, 3] rfl rfl), (by omega), hL1⟩
 ·skip
  obtain rfl : k_ = 0 := by have h := of_decide_eq_false hlt; omega
  refine cw_exit rfl ?_
  obtain rfl := some_inj hL
  refine cw_seq (cw_region ?_)
  refine sQ 35 (Y_loadA (B := aD b2) (i := 0) (cs := [vi (shlK .i64 1 (IntKind.u64.wrap n)), vi (shlK .i64 1 (IntKind.u64.wrap n)), .slice B1 Cells.length c1]) (vs := [vi (shlK .i64 1 (IntKind.u64.wrap n)), vi (shlK .i64 1 (IntKind.u64.wrap n)), .slice B1 Cells.length c1]) k_ag_30 k_sz_30_3 rfl (hf.get 6 4 rfl) (hS5.cf (i := 2) rfl) rfl rfl) ?_
  refine s0 (Ys_store (i := 1) (s := 3) (B := aD b1) (T' := 30) (v := .agg #[vi (shlK .i64 1 (IntKind.u64.wrap n)), vi (shlK .i64 1 (IntKind.u64.wrap n)), .slice B1 Cells.length c1]) (vs := [vi (shlK .i64 1 (IntKind.u64.wrap n)), vi (shlK .i64 1 (IntKind.u64.wrap n)), .slice B1 Cells.length c1]) (k := 0) (cs' := [vi (shlK .i64 1 (IntKind.u64.wrap n)), vi (shlK .i64 1 (IntKind.u64.wrap n)), .slice B1 Cells.length c1]) hS5 k_sz_30_3 rfl (hf.get 4 2 rfl) rfl rfl rfl rfl rfl (lB rfl) rfl rfl) ?_
  rintro _ w_15 ⟨rfl, hS22⟩
  refine rw_nil (cw_ret ?_)
  obtain rfl := some_inj hF1
  exact ret1 Tryz.results81 (v1 := .agg #[vi (shlK .i64 1 (IntKind.u64.wrap n)), vi (shlK .i64 1 (IntKind.u64.wrap n)), .slice B1 Cells.length c1]) (resAt_cellA (B := aD b1) (i := 0) (cs := [vi (shlK .i64 1 (IntKind.u64.wrap n)), vi (shlK .i64 1 (IntKind.u64.wrap n)), .slice B1 Cells.length c1]) (vs := [vi (shlK .i64 1 (IntKind.u64.wrap n)), vi (shlK .i64 1 (IntKind.u64.wrap n)), .slice B1 Cells.length c1]) (hf.get 4 2 rfl) k_ag_30 k_sz_30_3 (hS22.cf (i := 1) rfl) rfl rfl) ⟨B1, c1, rfl, (hS22.sN [3])⟩

theorem c_spec_l22Two (g : TGate)  (w0 : World)  (hS : ST w0 [] w0 [] []) {r_ : Bool} (hF : F_spec_l22Two g = some r_) :
  CV Tryz.prog 153 #[.agg #[vi g.Kind, vi g.A, vi g.B]] w0 (fun v w' => v = .bool r_ ∧ ST w0 [] w' [] []) := by
 unfold F_spec_l22Two at hF
 refine cv_of_cw 16 Tryz.func153 rfl Tryz.ntmps153 rfl ?_
 refine cw_seq (cw_region ?_)
 refine sS 1 (Ys_box (T := 67) (v := .agg #[vi g.Kind, vi g.A, vi g.B]) (cs := [vi g.Kind, vi g.A, vi g.B]) (m := 3) hS rfl rfl rfl rfl) ?_
 rintro _ w_ ⟨b, rfl, hS1⟩
 refine sQ 2 (Y_assign (v := .bool false) rfl rfl) (rw_nil (cw_seq (cw_region ?_)))
 refine sQ 3 (Y_fieldAddr (B := aD b) (i := 0) (s := 0) k_fd_67_0_0_3 k_sz_3_1 rfl rfl) ?_
 refine sQ 4 (Y_load1 (B := aD b) (i := 0) (cs := [vi g.Kind, vi g.A, vi g.B]) (v := vi g.Kind) k_sc_3 rfl rfl (hS1.cf (i := 0) rfl) rfl) ?_
 refine sQ 5 (Y_eq (k := .i64) (a := g.Kind) (b := 9) rfl rfl rfl) ?_
 refine sQ 6 (Y_move (v := .bool (g.Kind == 9)) rfl rfl) ?_
 refine sgq 7 (B := (!(g.Kind == 9))) (v := pt (aD b) 0) rfl rfl (uF_ 6) (fun hg => (Y_fieldAddr (B := aD b) (i := 0) (s := 0) k_fd_67_0_0_3 k_sz_3_1 rfl rfl)) ?_
 refine sgq 8 (B := (!(g.Kind == 9))) (v := vi g.Kind) rfl rfl (uF_ 6) (fun hg1 => (Y_load1 (B := aD b) (i := 0) (cs := [vi g.Kind, vi g.A, vi g.B]) (v := vi g.Kind) k_sc_3 rfl (gv_of (v := pt (aD b) 0) hg1) (hS1.cf (i := 0) rfl) rfl)) ?_
 refine sgq 9 (B := (!(g.Kind == 9))) (v := .bool (g.Kind == 10)) rfl rfl (uF_ 6) (fun hg2 => (Y_eq (k := .i64) (a := g.Kind) (b := 10) rfl (gv_of (v := vi g.Kind) hg2) rfl)) ?_
 refine sQ 10 (Y_or (b := (g.Kind == 9)) (z := (g.Kind == 10)) rfl rfl rfl rfl) ?_
 refine sQ 11 (Y_move (v := .bool ((g.Kind == 9) || (g.Kind == 10))) rfl rfl) ?_
 refine sgq 12 (B := (!((g.Kind == 9) || (g.Kind == 10)))) (v := pt (aD b) 0) rfl rfl (uF_ 11) (fun hg3 => (Y_fieldAddr (B := aD b) (i := 0) (s := 0) k_fd_67_0_0_3 k_sz_3_1 rfl rfl)) ?_
 refine sgq 13 (B := (!((g.Kind == 9) || (g.Kind == 10)))) (v := vi g.Kind) rfl rfl (uF_ 11) (fun hg4 => (Y_load1 (B := aD b) (i := 0) (cs := [vi g.Kind, vi g.A, vi g.B]) (v := vi g.Kind) k_sc_3 rfl (gv_of (v := pt (aD b) 0) hg4) (hS1.cf (i := 0) rfl) rfl)) ?_
 refine sgq 14 (B := (!((g.Kind == 9) || (g.Kind == 10)))) (v := .bool (g.Kind == 11)) rfl rfl (uF_ 11) (fun hg5 => (Y_eq (k := .i64) (a := g.Kind) (b := 11) rfl (gv_of (v := vi g.Kind) hg5) rfl)) ?_
 refine sQ 15 (Y_or (b := ((g.Kind == 9) || (g.Kind == 10))) (z := (g.Kind == 11)) rfl rfl rfl rfl) ?_
 refine sQ 2 (Y_assign (v := .bool (((g.Kind == 9) || (g.Kind == 10)) || (g.Kind == 11))) rfl rfl) (rw_nil (cw_ret ?_))
 obtain rfl := some_inj hF
 exact ret1 Tryz.results153 (v1 := .bool (((g.Kind == 9) || (g.Kind == 10)) || (g.Kind == 11))) (resAt_tmp rfl) ⟨rfl, (hS1.sN [])⟩

theorem c_spec_l23Qubits (x : TGate)  (w0 : World)  (hS : ST w0 [] w0 [] []) {r_ : List Int} (hF : F_spec_l23Qubits x = some r_) :
  CV Tryz.prog 108 #[.agg #[vi x.Kind, vi x.A, vi x.B]] w0 (fun v w' => ∃ (B : Option Addr) (c : Nat), v = .slice B r_.length c ∧ ST w0 [] w' [⟨B, 3, (r_.flatMap encI), c * 1⟩] []) := by
 unfold F_spec_l23Qubits at hF
 refine cv_of_cw 18 Tryz.func108 rfl Tryz.ntmps108 rfl ?_
 refine cw_seq (cw_region ?_)
 refine sS 1 (Ys_box (T := 67) (v := .agg #[vi x.Kind, vi x.A, vi x.B]) (cs := [vi x.Kind, vi x.A, vi x.B]) (m := 3) hS rfl rfl rfl rfl) ?_
 rintro _ w_ ⟨b, rfl, hS1⟩
 refine sQ 2 (Y_assign (v := .slice none 0 0) rfl rfl) (rw_nil (cw_seq (cw_block (cw_seq (cw_region ?_)))))
 refine sQ 4 (Y_fieldAddr (B := aD b) (i := 0) (s := 0) k_fd_67_0_0_3 k_sz_3_1 rfl rfl) ?_
 refine sQ 5 (Y_load1 (B := aD b) (i := 0) (cs := [vi x.Kind, vi x.A, vi x.B]) (v := vi x.Kind) k_sc_3 rfl rfl (hS1.cf (i := 0) rfl) rfl) ?_
 refine sQ 6 (Y_eq (k := .i64) (a := x.Kind) (b := 12) rfl rfl rfl) ?_
 refine sQ 3 (Y_assign (v := .bool (x.Kind == 12)) rfl rfl) (rw_nil ?_)
 refine cw_cond (b := (x.Kind == 12)) rfl (fun hb => ?_) (fun hb => ?_)
 ·skip
  have hF1 := ct hF hb
  refine cw_seq (cw_region ?_)
  refine sQ 2 (Y_assign (v := .slice none 0 0) rfl rfl) (rw_nil (cw_ret ?_))
  have hS2 := hS1.addNil 3
  obtain rfl := some_inj hF1
  exact ret1 Tryz.results108 (v1 := .slice none 0 0) (resAt_tmp rfl) ⟨none, 0, rfl, (hS2.sN [1])⟩
 ·skip
  have hF2 := cf' hF hb
  refine cw_seq (cw_region ?_)
  refine sQ 8 (Y_loadA (B := aD b) (i := 0) (cs := [vi x.Kind, vi x.A, vi x.B]) (vs := [vi x.Kind, vi x.A, vi x.B]) k_ag_67 k_sz_67_3 rfl rfl (hS1.cf (i := 0) rfl) rfl rfl) ?_
  obtain ⟨r_1, hc, hF2⟩ := bind_inv hF2
  refine sc 9 rfl rfl (Yc_func (g := 153) (vs := [.agg #[vi x.Kind, vi x.A, vi x.B]]) k_call_153 rfl (mc rfl mn) (c_spec_l22Two x _  (hS1.inn0 [] rfl) hc)) ?_
  rintro _ w_1 ⟨rfl, hd⟩
  have hS3 := hS1.out00 hd
  refine sQ 7 (Y_assign (v := .bool r_1) rfl rfl) (rw_nil ?_)
  refine cw_cond (b := r_1) rfl (fun hb1 => ?_) (fun hb1 => ?_)
  ·skip
   have hF3 := ct hF2 hb1
   refine cw_seq (cw_region ?_)
   refine sQ 10 (Y_fieldAddr (B := aD b) (i := 0) (s := 0) k_fd_67_1_1_3 k_sz_3_1 rfl rfl) ?_
   refine sQ 11 (Y_load1 (B := aD b) (i := 1) (cs := [vi x.Kind, vi x.A, vi x.B]) (v := vi x.A) k_sc_3 rfl rfl (hS3.cf (i := 0) rfl) rfl) ?_
   refine sQ 12 (Y_fieldAddr (B := aD b) (i := 0) (s := 0) k_fd_67_2_2_3 k_sz_3_1 rfl rfl) ?_
   refine sQ 13 (Y_load1 (B := aD b) (i := 2) (cs := [vi x.Kind, vi x.A, vi x.B]) (v := vi x.B) k_sc_3 rfl rfl (hS3.cf (i := 0) rfl) rfl) ?_
   refine sS 14 (Ys_bslice (s := 1) (len := 2) (vs := [(0, vi x.A), (1, vi x.B)]) (cs := [vi x.A, vi x.B]) (zs := [vi 0, vi 0]) (m := 2) hS3 k_sl_43_3 k_sz_3_1 k_zc_3 rfl (mpc rfl (mpc rfl mpn)) rfl rfl rfl (by kernel_rfl) (by kernel_rfl) rfl) ?_
   rintro _ w_2 ⟨b1, rfl, hS4⟩
   refine sQ 2 (Y_assign (v := .slice (aD b1) 2 2) rfl rfl) (rw_nil (cw_ret ?_))
   obtain rfl := some_inj hF3
   exact ret1 Tryz.results108 (v1 := .slice (aD b1) 2 2) (resAt_tmp rfl) ⟨aD b1, 2, rfl, (hS4.sN [1])⟩
  ·skip
   have hF4 := cf' hF2 hb1
   refine cw_skip (cw_seq (cw_region ?_))
   refine sQ 15 (Y_fieldAddr (B := aD b) (i := 0) (s := 0) k_fd_67_1_1_3 k_sz_3_1 rfl rfl) ?_
   refine sQ 16 (Y_load1 (B := aD b) (i := 1) (cs := [vi x.Kind, vi x.A, vi x.B]) (v := vi x.A) k_sc_3 rfl rfl (hS3.cf (i := 0) rfl) rfl) ?_
   refine sS 17 (Ys_bslice (s := 1) (len := 1) (vs := [(0, vi x.A)]) (cs := [vi x.A]) (zs := [vi 0]) (m := 1) hS3 k_sl_43_3 k_sz_3_1 k_zc_3 rfl (mpc rfl mpn) rfl rfl rfl (by kernel_rfl) (by kernel_rfl) rfl) ?_
   rintro _ w_3 ⟨b2, rfl, hS5⟩
   refine sQ 2 (Y_assign (v := .slice (aD b2) 1 1) rfl rfl) (rw_nil (cw_ret ?_))
   obtain rfl := some_inj hF4
   exact ret1 Tryz.results108 (v1 := .slice (aD b2) 1 1) (resAt_tmp rfl) ⟨aD b2, 1, rfl, (hS5.sN [1])⟩

theorem c_spec_l1Has (l : List Int) (n1 : Int) (B : Option Addr) (c n : Nat) (w0 : World) (hn : l.length = n) (hS : ST w0 [] w0 [] [⟨B, (l.flatMap encI)⟩]) {r_ : Bool} (hF : F_spec_l1Has l n1 = some r_) :
  CV Tryz.prog 129 #[.slice B n c, vi n1] w0 (fun v w' => v = .bool r_ ∧ ST w0 [] w' [] []) := by
 subst hn
 unfold F_spec_l1Has at hF
 refine cv_of_cw 17 Tryz.func129 rfl Tryz.ntmps129 rfl ?_
 refine cw_seq (cw_region ?_)
 refine sQ 4 (Y_assign (v := .bool false) rfl rfl) (rw_nil (cw_seq (cw_seq (cw_region ?_))))
 refine sQ 7 (Y_move (v := .slice B l.length c) rfl rfl) ?_
 refine sQ 8 (Y_len (B := B) (m := l.length) (c := c) k_sl_43_3 rfl rfl) ?_
 refine sQ 9 (Y_move (v := vi 0) rfl rfl) (rw_nil ?_)
 obtain ⟨hN, hF⟩ := chk_inv hF
 obtain ⟨z, hz, hF1⟩ := bind_inv hF
 refine cw_block ?_
 refine cw_loop (fun k f w => ∃ (i : Nat), FF f [(1, vi n1), (7, .slice B l.length c), (8, vi (l.length : Int)), (9, vi (i : Int))] ∧ ST w0 [] w [] [⟨B, (l.flatMap encI)⟩] ∧ i + k = l.length ∧ forX (F_spec_l1Has_l1 l n1) k i () = some z) l.length ⟨0, (FF.cons rfl (FF.cons rfl (FF.cons rfl (FF.cons rfl FF.nil)))), (hS.sel [] rfl rfl), Nat.zero_add _, hz⟩ ?_
 rintro k_ f w ⟨i, hf, hS1, hik, hL⟩
 refine cw_seq (cw_region ?_)
 refine sQ 10 (Y_lt (k := .i64) (a := (i : Int)) (b := (l.length : Int)) rfl (hf.get 9 3 rfl) (hf.get 8 2 rfl)) (rw_nil (cw_seq ?_))
 refine cw_cond (b := (decide ((i : Int) < (l.length : Int)))) rfl (fun hlt => ?_) (fun hlt => ?_)
 ·skip
  have hlt1 : i < l.length := by have h := of_decide_eq_true hlt; omega
  obtain ⟨k_1, rfl⟩ : ∃ k2, k_ = k2 + 1 := ⟨k_ - 1, by omega⟩
  obtain ⟨y, hb, hL1⟩ := forX_go hL
  unfold F_spec_l1Has_l1 at hb
  refine cw_skip (cw_seq (cw_block (cw_seq (cw_region ?_))))
  obtain ⟨x, hx, hb⟩ := bind_inv hb
  refine sQ 11 (Y_index (B := B) (m := l.length) (c := c) (k := .i64) (i := (i : Int)) k_sl_43_3 k_sz_3_1 rfl (hf.get 7 1 rfl) (hf.get 9 3 rfl) (gi_isSome encI_len rfl (hS1.rf (i := 0) rfl) hx) (getI_nn hx) (getI_ltI hx rfl)) ?_
  refine sQ 12 (Y_load1 (B := B) (i := (i : Int).toNat * 1) (cs := (l.flatMap encI)) (v := vi x) k_sc_3 rfl rfl (hS1.rf (i := 0) rfl) (gi_at0 encI_len hx rfl)) ?_
  refine sQ 6 (Y_assign (v := vi x) rfl rfl) (rw_nil (cw_seq (cw_region ?_)))
  refine sQ 13 (Y_move (v := vi x) rfl rfl) ?_
  refine sQ 14 (Y_move (v := vi n1) rfl (hf.get 1 0 rfl)) ?_
  refine sQ 15 (Y_eq (k := .i64) (a := x) (b := n1) rfl rfl rfl) (rw_nil ?_)
  refine cw_cond (b := (x == n1)) rfl (fun hb1 => ?_) (fun hb1 => ?_)
  ·skip
   have hF2 := ct hb hb1
   refine cw_seq (cw_region ?_)
   refine sQ 4 (Y_assign (v := .bool true) rfl rfl) (rw_nil (cw_ret ?_))
   obtain rfl := some_inj hF2
   obtain rfl := some_inj hL1
   obtain rfl := some_inj hF1
   exact ret1 Tryz.results129 (v1 := .bool true) (resAt_tmp rfl) ⟨rfl, (hS1.sN [])⟩
  ·skip
   have hF3 := cf' hb hb1
   refine cw_skip (cw_region ?_)
   refine sQ 16 (Y_add (k := .i64) (a := (i : Int)) (b := 1) rfl (hf.get 9 3 rfl) rfl) ?_
   refine sQ 9 (Y_move (v := vi (i64.wrap ((i : Int) + 1))) rfl rfl) (rw_nil ?_)
   obtain rfl := some_inj hF3
   exact ⟨k_1, Nat.lt_succ_self _, i + 1, (FF.cons (hf.get 1 0 rfl) (FF.cons (hf.get 7 1 rfl) (FF.cons (hf.get 8 2 rfl) (FF.cons (congrArg (Value.int .i64) (wr_succ hlt1 hN)) FF.nil)))), (hS1.sel [] rfl rfl), (by omega), hL1⟩
 ·skip
  obtain rfl : k_ = 0 := by have h := of_decide_eq_false hlt; omega
  refine cw_exit rfl ?_
  obtain rfl := some_inj hL
  refine cw_seq (cw_region ?_)
  refine sQ 4 (Y_assign (v := .bool false) rfl rfl) (rw_nil (cw_ret ?_))
  obtain rfl := some_inj hF1
  exact ret1 Tryz.results129 (v1 := .bool false) (resAt_tmp rfl) ⟨rfl, (hS1.sN [])⟩

theorem c_spec_l24Common (g : TGate) (h : TGate)  (w0 : World)  (hS : ST w0 [] w0 [] []) {r_ : Bool} (hF : F_spec_l24Common g h = some r_) :
  CV Tryz.prog 107 #[.agg #[vi g.Kind, vi g.A, vi g.B], .agg #[vi h.Kind, vi h.A, vi h.B]] w0 (fun v w' => v = .bool r_ ∧ ST w0 [] w' [] []) := by
 unfold F_spec_l24Common at hF
 refine cv_of_cw 19 Tryz.func107 rfl Tryz.ntmps107 rfl ?_
 refine cw_seq (cw_region ?_)
 refine sS 2 (Ys_box (T := 67) (v := .agg #[vi g.Kind, vi g.A, vi g.B]) (cs := [vi g.Kind, vi g.A, vi g.B]) (m := 3) hS rfl rfl rfl rfl) ?_
 rintro _ w_ ⟨b, rfl, hS1⟩
 refine sS 3 (Ys_box (T := 67) (v := .agg #[vi h.Kind, vi h.A, vi h.B]) (cs := [vi h.Kind, vi h.A, vi h.B]) (m := 3) hS1 rfl rfl rfl rfl) ?_
 rintro _ w_1 ⟨b1, rfl, hS2⟩
 refine sQ 4 (Y_assign (v := .bool false) rfl rfl) (rw_nil (cw_seq (cw_seq (cw_region ?_))))
 refine sQ 7 (Y_loadA (B := aD b) (i := 0) (cs := [vi g.Kind, vi g.A, vi g.B]) (vs := [vi g.Kind, vi g.A, vi g.B]) k_ag_67 k_sz_67_3 rfl rfl (hS2.cf (i := 0) rfl) rfl rfl) ?_
 obtain ⟨r_1, hc, hF⟩ := bind_inv hF
 refine sc 8 rfl rfl (Yc_func (g := 108) (vs := [.agg #[vi g.Kind, vi g.A, vi g.B]]) k_call_108 rfl (mc rfl mn) (c_spec_l23Qubits g _  (hS2.inn0 [] rfl) hc)) ?_
 rintro _ w_2 ⟨B, c, rfl, hd⟩
 have hS3 := hS2.out0 hd
 refine sQ 9 (Y_len (B := B) (m := r_1.length) (c := c) k_sl_43_3 rfl rfl) ?_
 refine sQ 10 (Y_move (v := vi 0) rfl rfl) (rw_nil ?_)
 obtain ⟨hN, hF⟩ := chk_inv hF
 obtain ⟨z, hz, hF1⟩ := bind_inv hF
 refine cw_block ?_
 refine cw_loop (fun k f w => ∃ (i : Nat), FF f [(3, pt (aD b1) 0), (8, .slice B r_1.length c), (9, vi (r_1.length : Int)), (10, vi (i : Int))] ∧ ST w0 [] w [⟨aD b1, 67, [vi h.Kind, vi h.A, vi h.B], 3⟩, ⟨B, 3, (r_1.flatMap encI), c * 1⟩] [] ∧ i + k = r_1.length ∧ forX (F_spec_l24Common_l1 r_1 h) k i () = some z) r_1.length ⟨0, (FF.cons rfl (FF.cons rfl (FF.cons rfl (FF.cons rfl FF.nil)))), (hS3.sel [1, 2] rfl rfl), Nat.zero_add _, hz⟩ ?_
 rintro k_ f w ⟨i, hf, hS4, hik, hL⟩
 refine cw_seq (cw_region ?_)
 refine sQ 11 (Y_lt (k := .i64) (a := (i : Int)) (b := (r_1.length : Int)) rfl (hf.get 10 3 rfl) (hf.get 9 2 rfl)) (rw_nil (cw_seq ?_))
 refine cw_cond (b := (decide ((i : Int) < (r_1.length : Int)))) rfl (fun hlt => ?_) (fun hlt => ?_)
 ·skip
  have hlt1 : i < r_1.length := by have h := of_decide_eq_true hlt; omega
  obtain ⟨k_1, rfl⟩ : ∃ k2, k_ = k2 + 1 := ⟨k_ - 1, by omega⟩
  obtain ⟨y, hb, hL1⟩ := forX_go hL
  unfold F_spec_l24Common_l1 at hb
  refine cw_skip (cw_seq (cw_block (cw_seq (cw_region ?_))))
  obtain ⟨x, hx, hb⟩ := bind_inv hb
  refine sQ 12 (Y_index (B := B) (m := r_1.length) (c := c) (k := .i64) (i := (i : Int)) k_sl_43_3 k_sz_3_1 rfl (hf.get 8 1 rfl) (hf.get 10 3 rfl) (gi_isSome encI_len rfl (hS4.cf (i := 1) rfl) hx) (getI_nn hx) (getI_ltI hx rfl)) ?_
  refine sQ 13 (Y_load1 (B := B) (i := (i : Int).toNat * 1) (cs := (r_1.flatMap encI)) (v := vi x) k_sc_3 rfl rfl (hS4.cf (i := 1) rfl) (gi_at0 encI_len hx rfl)) ?_
  refine sQ 6 (Y_assign (v := vi x) rfl rfl) (rw_nil (cw_seq (cw_region ?_)))
  refine sQ 14 (Y_loadA (B := aD b1) (i := 0) (cs := [vi h.Kind, vi h.A, vi h.B]) (vs := [vi h.Kind, vi h.A, vi h.B]) k_ag_67 k_sz_67_3 rfl (hf.get 3 0 rfl) (hS4.cf (i := 0) rfl) rfl rfl) ?_
  obtain ⟨r_2, hc1, hb⟩ := bind_inv hb
  refine sc 15 rfl rfl (Yc_func (g := 108) (vs := [.agg #[vi h.Kind, vi h.A, vi h.B]]) k_call_108 rfl (mc rfl mn) (c_spec_l23Qubits h _  (hS4.inn0 [] rfl) hc1)) ?_
  rintro _ w_3 ⟨B1, c1, rfl, hd1⟩
  have hS5 := hS4.out0 hd1
  refine sQ 16 (Y_move (v := vi x) rfl rfl) ?_
  obtain ⟨r_3, hc2, hb⟩ := bind_inv hb
  refine sc 17 rfl rfl (Yc_func (g := 129) (vs := [.slice B1 r_2.length c1, vi x]) k_call_129 rfl (mc rfl (mc rfl mn)) (c_spec_l1Has r_2 x B1 c1 r_2.length _ rfl (hS5.inn0 [(false, 2)] rfl) hc2)) ?_
  rintro _ w_4 ⟨rfl, hd2⟩
  have hS6 := hS5.out00 hd2
  refine rw_nil ?_
  refine cw_cond (b := r_3) rfl (fun hb1 => ?_) (fun hb1 => ?_)
  ·skip
   have hF2 := ct hb hb1
   refine cw_seq (cw_region ?_)
   refine sQ 4 (Y_assign (v := .bool true) rfl rfl) (rw_nil (cw_ret ?_))
   obtain rfl := some_inj hF2
   obtain rfl := some_inj hL1
   obtain rfl := some_inj hF1
   exact ret1 Tryz.results107 (v1 := .bool true) (resAt_tmp rfl) ⟨rfl, (hS6.sN [])⟩
  ·skip
   have hF3 := cf' hb hb1
   refine cw_skip (cw_region ?_)
   refine sQ 18 (Y_add (k := .i64) (a := (i : Int)) (b := 1) rfl (hf.get 10 3 rfl) rfl) ?_
   refine sQ 10 (Y_move (v := vi (i64.wrap ((i : Int) + 1))) rfl rfl) (rw_nil ?_)
   obtain rfl := some_inj hF3
   exact ⟨k_1, Nat.lt_succ_self _, i + 1, (FF.cons (hf.get 3 0 rfl) (FF.cons (hf.get 8 1 rfl) (FF.cons (hf.get 9 2 rfl) (FF.cons (congrArg (Value.int .i64) (wr_succ hlt1 hN)) FF.nil)))), (hS6.sel [0, 1] rfl rfl), (by omega), hL1⟩
 ·skip
  obtain rfl : k_ = 0 := by have h := of_decide_eq_false hlt; omega
  refine cw_exit rfl ?_
  obtain rfl := some_inj hL
  refine cw_seq (cw_region ?_)
  refine sQ 4 (Y_assign (v := .bool false) rfl rfl) (rw_nil (cw_ret ?_))
  obtain rfl := some_inj hF1
  exact ret1 Tryz.results107 (v1 := .bool false) (resAt_tmp rfl) ⟨rfl, (hS4.sN [])⟩

theorem c_spec_l1Put (l : List Int) (n1 : Int) (B : Option Addr) (c n : Nat) (w0 : World) (hn : l.length = n) (hS : ST w0 (bl [⟨B, 3, (l.flatMap encI), c * 1⟩]) w0 [⟨B, 3, (l.flatMap encI), c * 1⟩] []) {r_ : List Int} (hF : F_spec_l1Put l n1 = some r_) :
  CV Tryz.prog 109 #[.slice B n c, vi n1] w0 (fun v w' => ∃ (B1 : Option Addr) (c1 : Nat), v = .slice B1 r_.length c1 ∧ ST w0 (bl [⟨B, 3, (l.flatMap encI), c * 1⟩]) w' [⟨B1, 3, (r_.flatMap encI), c1 * 1⟩] []) := by
 subst hn
 unfold F_spec_l1Put at hF
 refine cv_of_cw 48 Tryz.func109 rfl Tryz.ntmps109 rfl ?_
 refine cw_seq (cw_region ?_)
 refine sQ 4 (Y_assign (v := .slice none 0 0) rfl rfl) (rw_nil (cw_seq (cw_region ?_)))
 refine sQ 5 (Y_assign (v := vi 0) rfl rfl) (rw_nil (cw_seq ?_))
 obtain ⟨z, hz, hF1⟩ := bind_inv hF
 refine cw_block ?_
 refine cw_loop (fun k f w => ∃ (k_ : Int), FF f [(0, .slice B l.length c), (1, vi n1), (5, vi k_)] ∧ ST w0 (bl [⟨B, 3, (l.flatMap encI), c * 1⟩]) w [⟨B, 3, (l.flatMap encI), c * 1⟩] [] ∧ whX (F_spec_l1Put_l1 l n1) k k_ = some z) fuel ⟨0, (FF.cons rfl (FF.cons rfl (FF.cons rfl FF.nil))), (hS.sel [0] rfl rfl), hz⟩ ?_
 rintro k_1 f w ⟨k_, hf, hS1, hL⟩
 obtain ⟨k_2, y, rfl, hb, hL1⟩ := whX_go hL
 unfold F_spec_l1Put_l1 at hb
 refine cw_seq (cw_seq (cw_region ?_))
 refine sQ 7 (Y_move (v := vi k_) rfl (hf.get 5 2 rfl)) ?_
 refine sQ 8 (Y_move (v := .slice B l.length c) rfl (hf.get 0 0 rfl)) ?_
 refine sQ 9 (Y_len (B := B) (m := l.length) (c := c) k_sl_43_3 rfl rfl) ?_
 refine sQ 10 (Y_lt (k := .i64) (a := k_) (b := (l.length : Int)) rfl rfl rfl) ?_
 refine sQ 11 (Y_move (v := .bool (decide (k_ < (l.length : Int)))) rfl rfl) ?_
 refine sgq 12 (B := (decide (k_ < (l.length : Int)))) (v := .slice B l.length c) rfl rfl (uT_ 11) (fun hg => (Y_move (v := .slice B l.length c) rfl (hf.get 0 0 rfl))) ?_
 refine sgq 13 (B := (decide (k_ < (l.length : Int)))) (v := vi k_) rfl rfl (uT_ 11) (fun hg1 => (Y_move (v := vi k_) rfl (hf.get 5 2 rfl))) ?_
 obtain ⟨x, hx, hb⟩ := bind_inv hb
 refine sgq 14 (B := (decide (k_ < (l.length : Int)))) (v := pt B (k_.toNat * 1)) rfl rfl (uT_ 11) (fun hg2 => (Y_index (B := B) (m := l.length) (c := c) (k := .i64) (i := k_) k_sl_43_3 k_sz_3_1 rfl (gv_of (v := .slice B l.length c) hg2) (gv_of (v := vi k_) hg2) (gi_isSome encI_len rfl (hS1.cf (i := 0) rfl) (gb_inv hx hg2)) (getI_nn (gb_inv hx hg2)) (getI_ltI (gb_inv hx hg2) rfl))) ?_
 refine sgq 15 (B := (decide (k_ < (l.length : Int)))) (v := vi x) rfl rfl (uT_ 11) (fun hg3 => (Y_load1 (B := B) (i := k_.toNat * 1) (cs := (l.flatMap encI)) (v := vi x) k_sc_3 rfl (gv_of (v := pt B (k_.toNat * 1)) hg3) (hS1.cf (i := 0) rfl) (gi_at0 encI_len (gb_inv hx hg3) rfl))) ?_
 refine sgq 16 (B := (decide (k_ < (l.length : Int)))) (v := vi n1) rfl rfl (uT_ 11) (fun hg4 => (Y_move (v := vi n1) rfl (hf.get 1 1 rfl))) ?_
 refine sgq 17 (B := (decide (k_ < (l.length : Int)))) (v := .bool (decide (x < n1))) rfl rfl (uT_ 11) (fun hg5 => (Y_lt (k := .i64) (a := x) (b := n1) rfl (gv_of (v := vi x) hg5) (gv_of (v := vi n1) hg5))) ?_
 refine sQ 18 (Y_and (b := (decide (k_ < (l.length : Int)))) (z := (decide (x < n1))) rfl rfl rfl rfl) (rw_nil ?_)
 refine cw_cond (b := ((decide (k_ < (l.length : Int))) && (decide (x < n1)))) rfl (fun hb1 => ?_) (fun hb1 => ?_)
 ·skip
  have hF2 := ct hb hb1
  refine cw_skip (cw_block (cw_region ?_))
  refine sQ 19 (Y_move (v := vi k_) rfl (hf.get 5 2 rfl)) ?_
  refine sQ 20 (Y_add (k := .i64) (a := k_) (b := 1) rfl rfl rfl) ?_
  refine sQ 5 (Y_assign (v := vi (i64.wrap (k_ + 1))) rfl rfl) (rw_nil ?_)
  obtain rfl := some_inj hF2
  exact ⟨k_2, Nat.lt_succ_self _, (i64.wrap (k_ + 1)), (FF.cons (hf.get 0 0 rfl) (FF.cons (hf.get 1 1 rfl) (FF.cons rfl FF.nil))), (hS1.sel [0] rfl rfl), hL1⟩
 ·skip
  have hF3 := cf' hb hb1
  refine cw_exit rfl ?_
  obtain rfl := some_inj hF3
  obtain rfl := some_inj hL1
  refine cw_seq (cw_seq (cw_region ?_))
  refine sQ 21 (Y_move (v := vi k_) rfl (hf.get 5 2 rfl)) ?_
  refine sQ 22 (Y_move (v := .slice B l.length c) rfl (hf.get 0 0 rfl)) ?_
  refine sQ 23 (Y_len (B := B) (m := l.length) (c := c) k_sl_43_3 rfl rfl) ?_
  refine sQ 24 (Y_lt (k := .i64) (a := k_) (b := (l.length : Int)) rfl rfl rfl) ?_
  refine sQ 25 (Y_move (v := .bool (decide (k_ < (l.length : Int)))) rfl rfl) ?_
  refine sgq 26 (B := (decide (k_ < (l.length : Int)))) (v := .slice B l.length c) rfl rfl (uT_ 25) (fun hg6 => (Y_move (v := .slice B l.length c) rfl (hf.get 0 0 rfl))) ?_
  refine sgq 27 (B := (decide (k_ < (l.length : Int)))) (v := vi k_) rfl rfl (uT_ 25) (fun hg7 => (Y_move (v := vi k_) rfl (hf.get 5 2 rfl))) ?_
  obtain ⟨x1, hx1, hF1⟩ := bind_inv hF1
  refine sgq 28 (B := (decide (k_ < (l.length : Int)))) (v := pt B (k_.toNat * 1)) rfl rfl (uT_ 25) (fun hg8 => (Y_index (B := B) (m := l.length) (c := c) (k := .i64) (i := k_) k_sl_43_3 k_sz_3_1 rfl (gv_of (v := .slice B l.length c) hg8) (gv_of (v := vi k_) hg8) (gi_isSome encI_len rfl (hS1.cf (i := 0) rfl) (gb_inv hx1 hg8)) (getI_nn (gb_inv hx1 hg8)) (getI_ltI (gb_inv hx1 hg8) rfl))) ?_
  refine sgq 29 (B := (decide (k_ < (l.length : Int)))) (v := vi x1) rfl rfl (uT_ 25) (fun hg9 => (Y_load1 (B := B) (i := k_.toNat * 1) (cs := (l.flatMap encI)) (v := vi x1) k_sc_3 rfl (gv_of (v := pt B (k_.toNat * 1)) hg9) (hS1.cf (i := 0) rfl) (gi_at0 encI_len (gb_inv hx1 hg9) rfl))) ?_
  refine sgq 30 (B := (decide (k_ < (l.length : Int)))) (v := vi n1) rfl rfl (uT_ 25) (fun hg10 => (Y_move (v := vi n1) rfl (hf.get 1 1 rfl))) ?_
  refine sgq 31 (B := (decide (k_ < (l.length : Int)))) (v := .bool (x1 == n1)) rfl rfl (uT_ 25) (fun hg11 => (Y_eq (k := .i64) (a := x1) (b := n1) rfl (gv_of (v := vi x1) hg11) (gv_of (v := vi n1) hg11))) ?_
  refine sQ 32 (Y_and (b := (decide (k_ < (l.length : Int)))) (z := (x1 == n1)) rfl rfl rfl rfl) (rw_nil ?_)
  refine cw_cond (b := ((decide (k_ < (l.length : Int))) && (x1 == n1))) rfl (fun hb2 => ?_) (fun hb2 => ?_)
  ·skip
   have hF4 := ct hF1 hb2
   refine cw_seq (cw_region ?_)
   refine sQ 33 (Y_move (v := .slice B l.length c) rfl (hf.get 0 0 rfl)) ?_
   refine sQ 4 (Y_assign (v := .slice B l.length c) rfl rfl) (rw_nil (cw_ret ?_))
   obtain rfl := some_inj hF4
   exact ret1 Tryz.results109 (v1 := .slice B l.length c) (resAt_tmp rfl) ⟨B, c, rfl, (hS1.sN [0])⟩
  ·skip
   have hF5 := cf' hF1 hb2
   refine cw_skip (cw_seq (cw_region ?_))
   refine sS 34 (Ys_bslice0 (s := 1) (e := 3) hS1 k_sl_43_3 k_sz_3_1 rfl) ?_
   rintro _ w_ ⟨b, rfl, hS2⟩
   refine sQ 35 (Y_move (v := .slice B l.length c) rfl (hf.get 0 0 rfl)) ?_
   refine sQ 36 (Y_move (v := vi k_) rfl (hf.get 5 2 rfl)) ?_
   obtain ⟨hsl, hF5⟩ := chk_inv hF5
   have hcap : l.length ≤ c := (hS2.lencap (i := 0) rfl (fm_lenn (l := l) encI_len rfl) rfl rfl)
   have ho1 : Org w0 (bl [⟨B, 3, (l.flatMap encI), c * 1⟩]) [] [⟨B, (l.flatMap encI)⟩] := ST.orgOwn hS2 (i := 0) rfl
   have hcap1 : l.length ≤ c := (hS2.lencap (i := 0) rfl (fm_lenn (l := l) encI_len rfl) rfl rfl)
   have hS3 : ST w0 (bl [⟨B, 3, (l.flatMap encI), c * 1⟩]) _ [⟨aD b, 3, ([].flatMap encI), 0 * 1⟩] [⟨B, (l.flatMap encI)⟩] := hS2.freeze (i := 0) rfl
   have hv : (List.take k_.toNat l).length = k_.toNat := (take_len rfl (by omega))
   have hq : k_.toNat ≤ c := by omega
   have ho : Org w0 (bl [⟨B, 3, (l.flatMap encI), c * 1⟩]) [] [⟨B, ((List.take k_.toNat l).flatMap encI)⟩] := org_view encI_len (q := c) ho1 (sv_zero _ _ _).symm rfl
   have hS4 : ST w0 (bl [⟨B, 3, (l.flatMap encI), c * 1⟩]) _ [⟨aD b, 3, ([].flatMap encI), 0 * 1⟩] [⟨B, ((List.take k_.toNat l).flatMap encI)⟩, ⟨B, (l.flatMap encI)⟩] := ST.view encI_len hS3 (i := 0) rfl (lo := 0) (h := k_.toNat) (q := c) (by omega) (by omega) (sv_zero _ _ _).symm rfl
   refine sQ 37 (Y_slice0 (B := B) (m := l.length) (c := c) (h := k_.toNat) (s := 1) k_sl_43_3 k_sz_3_1 rfl rfl (bnd_some rfl (nn_toNat (by omega))) (by omega)) ?_
   obtain ⟨hap, hF5⟩ := chk_inv hF5
   refine sS 38 (Ys_append (s := 1) (by' := 8) (i := 0) (nn := 0) (c := 0) (k := k_.toNat) (len := (List.take k_.toNat l).length) (B := aD b) (xs := ((List.take k_.toNat l).flatMap encI)) (cs' := ((List.take k_.toNat l).flatMap encI)) hS4 k_sl_43_3 k_sz_3_1 k_by_3_8 k_zero_3 rfl (by decide) rfl rfl rfl rfl (fm_lenn (l := []) encI_len rfl) rfl (hS4.rf (i := 0) rfl) (fm_lenn (l := (List.take k_.toNat l)) encI_len hv) (fm_one' (enc := encI) encI_one (List.take k_.toNat l)) (by have := hap; omega) (by have := hap; simp only [maxLen]; omega) rfl (app_len0 (l := (List.take k_.toNat l)) hv)) ?_
   rintro _ w_1 ⟨B2, c2, rfl, hS5⟩
   refine sQ 6 (Y_assign (v := .slice B2 ((List.take k_.toNat l).length) c2) rfl rfl) (rw_nil (cw_seq (cw_region ?_)))
   refine sQ 39 (Y_move (v := .slice B2 ((List.take k_.toNat l).length) c2) rfl rfl) ?_
   refine sQ 40 (Y_move (v := vi n1) rfl (hf.get 1 1 rfl)) ?_
   refine sS 41 (Ys_bslice (s := 1) (len := 1) (vs := [(0, vi n1)]) (cs := [vi n1]) (zs := [vi 0]) (m := 1) hS5 k_sl_43_3 k_sz_3_1 k_zc_3 rfl (mpc rfl mpn) rfl rfl rfl (by kernel_rfl) (by kernel_rfl) rfl) ?_
   rintro _ w_2 ⟨b1, rfl, hS6⟩
   obtain ⟨hap1, hF5⟩ := chk_inv hF5
   refine sS 42 (Ys_append (s := 1) (by' := 8) (i := 0) (nn := (List.take k_.toNat l).length) (c := c2) (k := 1) (len := ((List.take k_.toNat l) ++ [n1]).length) (B := B2) (xs := ([n1].flatMap encI)) (cs' := (((List.take k_.toNat l) ++ [n1]).flatMap encI)) hS6 k_sl_43_3 k_sz_3_1 k_by_3_8 k_zero_3 rfl (by decide) rfl rfl rfl rfl (fm_lenn (l := (List.take k_.toNat l)) encI_len rfl) rfl (hS6.cf (i := 1) rfl) (fm_lenn (l := [n1]) encI_len rfl) (fm_one' (enc := encI) encI_one [n1]) (by have := hap1; omega) (by have := hap1; simp only [maxLen]; omega) (fm_app _ _) (app_len (l := (List.take k_.toNat l)) (l' := [n1]) rfl rfl)) ?_
   rintro _ w_3 ⟨B3, c3, rfl, hS7⟩
   refine sQ 6 (Y_assign (v := .slice B3 (((List.take k_.toNat l) ++ [n1]).length) c3) rfl rfl) (rw_nil (cw_seq (cw_region ?_)))
   refine sQ 43 (Y_move (v := .slice B3 (((List.take k_.toNat l) ++ [n1]).length) c3) rfl rfl) ?_
   refine sQ 44 (Y_move (v := .slice B l.length c) rfl (hf.get 0 0 rfl)) ?_
   refine sQ 45 (Y_move (v := vi k_) rfl (hf.get 5 2 rfl)) ?_
   obtain ⟨hsl1, hF5⟩ := chk_inv hF5
   have hcap2 : l.length ≤ c := hcap1
   have hv1 : (List.drop k_.toNat l).length = (l.length - k_.toNat) := (drop_len rfl)
   have hq1 : (l.length - k_.toNat) ≤ (c - k_.toNat) := by omega
   have ho2 : Org w0 (bl [⟨B, 3, (l.flatMap encI), c * 1⟩]) [] [⟨(sv B k_.toNat c 1), ((List.drop k_.toNat l).flatMap encI)⟩] := org_view encI_len (q := c) ho1 rfl (take_all rfl _)
   have hS8 : ST w0 (bl [⟨B, 3, (l.flatMap encI), c * 1⟩]) _ [⟨B3, 3, (((List.take k_.toNat l) ++ [n1]).flatMap encI), c3 * 1⟩, ⟨aD b1, 3, ([n1].flatMap encI), 1 * 1⟩] [⟨(sv B k_.toNat c 1), ((List.drop k_.toNat l).flatMap encI)⟩, ⟨B, ((List.take k_.toNat l).flatMap encI)⟩, ⟨B, (l.flatMap encI)⟩] := ST.view encI_len hS7 (i := 1) rfl (lo := k_.toNat) (h := l.length) (q := c) (by omega) (by omega) rfl (take_all rfl _)
   refine sQ 46 (Y_slice1 (B := B) (m := l.length) (c := c) (l := k_.toNat) (h := l.length) (s := 1) k_sl_43_3 k_sz_3_1 rfl rfl rfl (bnd_some rfl (nn_toNat (by omega))) (by omega) (by omega)) ?_
   obtain ⟨hap2, hF5⟩ := chk_inv hF5
   refine sS 47 (Ys_append (s := 1) (by' := 8) (i := 0) (nn := ((List.take k_.toNat l) ++ [n1]).length) (c := c3) (k := (l.length - k_.toNat)) (len := (((List.take k_.toNat l) ++ [n1]) ++ (List.drop k_.toNat l)).length) (B := B3) (xs := ((List.drop k_.toNat l).flatMap encI)) (cs' := ((((List.take k_.toNat l) ++ [n1]) ++ (List.drop k_.toNat l)).flatMap encI)) hS8 k_sl_43_3 k_sz_3_1 k_by_3_8 k_zero_3 rfl (by decide) rfl rfl rfl rfl (fm_lenn (l := ((List.take k_.toNat l) ++ [n1])) encI_len rfl) rfl (hS8.rf (i := 0) rfl) (fm_lenn (l := (List.drop k_.toNat l)) encI_len hv1) (fm_one' (enc := encI) encI_one (List.drop k_.toNat l)) (by have := hap2; omega) (by have := hap2; simp only [maxLen]; omega) (fm_app _ _) (app_len (l := ((List.take k_.toNat l) ++ [n1])) (l' := (List.drop k_.toNat l)) rfl hv1)) ?_
   rintro _ w_4 ⟨B4, c4, rfl, hS9⟩
   refine sQ 4 (Y_assign (v := .slice B4 ((((List.take k_.toNat l) ++ [n1]) ++ (List.drop k_.toNat l)).length) c4) rfl rfl) (rw_nil (cw_ret ?_))
   obtain rfl := some_inj hF5
   exact ret1 Tryz.results109 (v1 := .slice B4 ((((List.take k_.toNat l) ++ [n1]) ++ (List.drop k_.toNat l)).length) c4) (resAt_tmp rfl) ⟨B4, c4, rfl, (hS9.sN [0])⟩

theorem c_spec_l24At (g : TGate) (all : List Int) (B : Option Addr) (c n : Nat) (w0 : World) (hn : all.length = n) (hS : ST w0 [] w0 [] [⟨B, (all.flatMap encI)⟩]) {r_ : Int} (hF : F_spec_l24At g all = some r_) :
  CV Tryz.prog 154 #[.agg #[vi g.Kind, vi g.A, vi g.B], .slice B n c] w0 (fun v w' => v = vi r_ ∧ ST w0 [] w' [] []) := by
 subst hn
 unfold F_spec_l24At at hF
 refine cv_of_cw 24 Tryz.func154 rfl Tryz.ntmps154 rfl ?_
 refine cw_seq (cw_region ?_)
 refine sS 2 (Ys_box (T := 67) (v := .agg #[vi g.Kind, vi g.A, vi g.B]) (cs := [vi g.Kind, vi g.A, vi g.B]) (m := 3) hS rfl rfl rfl rfl) ?_
 rintro _ w_ ⟨b, rfl, hS1⟩
 refine sQ 4 (Y_assign (v := vi 0) rfl rfl) (rw_nil (cw_seq (cw_seq (cw_region ?_))))
 refine sQ 7 (Y_move (v := .slice B all.length c) rfl rfl) ?_
 refine sQ 8 (Y_len (B := B) (m := all.length) (c := c) k_sl_43_3 rfl rfl) ?_
 refine sQ 9 (Y_move (v := vi 0) rfl rfl) (rw_nil ?_)
 obtain ⟨hN, hF⟩ := chk_inv hF
 obtain ⟨z, hz, hF1⟩ := bind_inv hF
 refine cw_block ?_
 refine cw_loop (fun k f w => ∃ (i : Nat), FF f [(2, pt (aD b) 0), (7, .slice B all.length c), (8, vi (all.length : Int)), (9, vi (i : Int))] ∧ ST w0 [] w [⟨aD b, 67, [vi g.Kind, vi g.A, vi g.B], 3⟩] [⟨B, (all.flatMap encI)⟩] ∧ i + k = all.length ∧ forX (F_spec_l24At_l1 all g) k i () = some z) all.length ⟨0, (FF.cons rfl (FF.cons rfl (FF.cons rfl (FF.cons rfl FF.nil)))), (hS1.sel [0] rfl rfl), Nat.zero_add _, hz⟩ ?_
 rintro k_ f w ⟨i, hf, hS2, hik, hL⟩
 refine cw_seq (cw_region ?_)
 refine sQ 10 (Y_lt (k := .i64) (a := (i : Int)) (b := (all.length : Int)) rfl (hf.get 9 3 rfl) (hf.get 8 2 rfl)) (rw_nil (cw_seq ?_))
 refine cw_cond (b := (decide ((i : Int) < (all.length : Int)))) rfl (fun hlt => ?_) (fun hlt => ?_)
 ·skip
  have hlt1 : i < all.length := by have h := of_decide_eq_true hlt; omega
  obtain ⟨k_1, rfl⟩ : ∃ k2, k_ = k2 + 1 := ⟨k_ - 1, by omega⟩
  obtain ⟨y, hb, hL1⟩ := forX_go hL
  unfold F_spec_l24At_l1 at hb
  refine cw_skip (cw_seq (cw_block (cw_seq (cw_region ?_))))
  refine sQ 11 (Y_move (v := vi (i : Int)) rfl (hf.get 9 3 rfl)) ?_
  obtain ⟨x, hx, hb⟩ := bind_inv hb
  refine sQ 12 (Y_index (B := B) (m := all.length) (c := c) (k := .i64) (i := (i : Int)) k_sl_43_3 k_sz_3_1 rfl (hf.get 7 1 rfl) (hf.get 9 3 rfl) (gi_isSome encI_len rfl (hS2.rf (i := 0) rfl) hx) (getI_nn hx) (getI_ltI hx rfl)) ?_
  refine sQ 13 (Y_load1 (B := B) (i := (i : Int).toNat * 1) (cs := (all.flatMap encI)) (v := vi x) k_sc_3 rfl rfl (hS2.rf (i := 0) rfl) (gi_at0 encI_len hx rfl)) ?_
  refine sQ 5 (Y_assign (v := vi (i : Int)) rfl rfl) ?_
  refine sQ 6 (Y_assign (v := vi x) rfl rfl) (rw_nil (cw_seq (cw_region ?_)))
  refine sQ 14 (Y_loadA (B := aD b) (i := 0) (cs := [vi g.Kind, vi g.A, vi g.B]) (vs := [vi g.Kind, vi g.A, vi g.B]) k_ag_67 k_sz_67_3 rfl (hf.get 2 0 rfl) (hS2.cf (i := 0) rfl) rfl rfl) ?_
  obtain ⟨r_1, hc, hb⟩ := bind_inv hb
  refine sc 15 rfl rfl (Yc_func (g := 153) (vs := [.agg #[vi g.Kind, vi g.A, vi g.B]]) k_call_153 rfl (mc rfl mn) (c_spec_l22Two g _  (hS2.inn0 [] rfl) hc)) ?_
  rintro _ w_1 ⟨rfl, hd⟩
  have hS3 := hS2.out00 hd
  refine sQ 16 (Y_move (v := .bool r_1) rfl rfl) ?_
  refine sgq 17 (B := r_1) (v := vi x) rfl rfl (uT_ 16) (fun hg => (Y_move (v := vi x) rfl rfl)) ?_
  refine sgq 18 (B := r_1) (v := pt (aD b) 2) rfl rfl (uT_ 16) (fun hg1 => (Y_fieldAddr (B := aD b) (i := 0) (s := 0) k_fd_67_2_2_3 k_sz_3_1 rfl (hf.get 2 0 rfl))) ?_
  refine sgq 19 (B := r_1) (v := vi g.B) rfl rfl (uT_ 16) (fun hg2 => (Y_load1 (B := aD b) (i := 2) (cs := [vi g.Kind, vi g.A, vi g.B]) (v := vi g.B) k_sc_3 rfl (gv_of (v := pt (aD b) 2) hg2) (hS3.cf (i := 0) rfl) rfl)) ?_
  refine sgq 20 (B := r_1) (v := .bool (x == g.B)) rfl rfl (uT_ 16) (fun hg3 => (Y_eq (k := .i64) (a := x) (b := g.B) rfl (gv_of (v := vi x) hg3) (gv_of (v := vi g.B) hg3))) ?_
  refine sQ 21 (Y_and (b := r_1) (z := (x == g.B)) rfl rfl rfl rfl) (rw_nil ?_)
  refine cw_cond (b := (r_1 && (x == g.B))) rfl (fun hb1 => ?_) (fun hb1 => ?_)
  ·skip
   have hF2 := ct hb hb1
   refine cw_seq (cw_region ?_)
   refine sQ 22 (Y_move (v := vi (i : Int)) rfl rfl) ?_
   refine sQ 4 (Y_assign (v := vi (i : Int)) rfl rfl) (rw_nil (cw_ret ?_))
   obtain rfl := some_inj hF2
   obtain rfl := some_inj hL1
   obtain rfl := some_inj hF1
   exact ret1 Tryz.results154 (v1 := vi (i : Int)) (resAt_tmp rfl) ⟨rfl, (hS3.sN [])⟩
  ·skip
   have hF3 := cf' hb hb1
   refine cw_skip (cw_region ?_)
   refine sQ 23 (Y_add (k := .i64) (a := (i : Int)) (b := 1) rfl (hf.get 9 3 rfl) rfl) ?_
   refine sQ 9 (Y_move (v := vi (i64.wrap ((i : Int) + 1))) rfl rfl) (rw_nil ?_)
   obtain rfl := some_inj hF3
   exact ⟨k_1, Nat.lt_succ_self _, i + 1, (FF.cons (hf.get 2 0 rfl) (FF.cons (hf.get 7 1 rfl) (FF.cons (hf.get 8 2 rfl) (FF.cons (congrArg (Value.int .i64) (wr_succ hlt1 hN)) FF.nil)))), (hS3.sel [0] rfl rfl), (by omega), hL1⟩
 ·skip
  obtain rfl : k_ = 0 := by have h := of_decide_eq_false hlt; omega
  refine cw_exit rfl ?_
  obtain rfl := some_inj hL
  refine cw_seq (cw_region ?_)
  refine sQ 4 (Y_assign (v := vi 0) rfl rfl) (rw_nil (cw_ret ?_))
  obtain rfl := some_inj hF1
  exact ret1 Tryz.results154 (v1 := vi 0) (resAt_tmp rfl) ⟨rfl, (hS2.sN [])⟩
end Go.VK
