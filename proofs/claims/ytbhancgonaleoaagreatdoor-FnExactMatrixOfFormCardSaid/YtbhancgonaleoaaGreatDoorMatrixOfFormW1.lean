/- Walks: each Go function returns what its Lean function says. By program. -/
import Derived.Test.YtbhancgonaleoaaGreatDoorMatrixOfFormFa
set_option linter.unusedVariables false
set_option maxRecDepth 100000
set_option maxHeartbeats 1000000
namespace Go.VK
open Go.RowKit
open Go.Proofs
open Go.IntKind
attribute [local irreducible] CW RW RA CV Y Yw Yc Ys RetOf
attribute [local irreducible] F_laws_szNormalForm F_laws_toNormalForm F_spec_l1In F_spec_l10Valid F_spec_l9Same F_spec_l1Even F_spec_l1Root F_spec_l1Half F_spec_l2Low F_spec_l1All F_spec_l1Good F_spec_l2C_ring F_spec_l1Mul F_spec_l2C_mul F_spec_l1Add F_spec_l2C_add F_spec_l2C_times F_spec_l1Neg F_spec_l2Neg F_spec_l1Turn F_spec_l2Power F_spec_l6One F_spec_l9Pauli F_spec_l1Conj F_spec_l2Conj F_spec_l3Adj F_spec_l9Bloch F_spec_l6Bit F_spec_l6Cell F_spec_l6Gate F_spec_l2C_run F_spec_l3Unit F_spec_l6Op F_spec_l9Word F_spec_l9Words F_spec_l10Gates F_spec_l10Circuit F_spec_MatrixOfForm F_impl_within F_impl_IsValidForm F_impl_isCoef F_impl_IsValidRing F_impl_isEven F_impl_IsValidDyadic F_impl_ringIf F_impl_MulRing F_impl_DivRootTwo F_impl_DyadicOf F_impl_MulDyadic F_impl_MulRootTwo F_impl_raised F_impl_combined F_impl_AddRing F_impl_AddDyadic F_impl_mulBloch F_impl_whole F_impl_small F_impl_isDim F_impl_matrixOf F_impl_isTwo F_impl_IsValidGate F_impl_MulOmega F_impl_phase F_impl_bitOf F_impl_flipped F_impl_comesFrom F_impl_entry F_impl_GateMatrix_1 F_impl_GateMatrix F_slices_IndexFunc_impl_Dyadic_impl_Dyadic F_slices_ContainsFunc_impl_Dyadic_impl_Dyadic F_impl_IsValidMatrix_1 F_impl_IsValidMatrix F_impl_IdentityMatrix_1 F_impl_IdentityMatrix F_impl_Matrix_at F_impl_MulMatrix_1 F_impl_MulMatrix F_impl_Conjugate F_impl_ConjDyadic F_impl_Adjoint_1 F_impl_Adjoint F_slices_Equal_impl_Dyadic_impl_Dyadic F_impl_EqualMatrices F_impl_IsUnitary F_impl_IsOneQubit F_impl_TraceOf F_impl_blochCell F_impl_BlochOf F_impl_blochGate F_slices_IndexFunc_SSimpl_Dyadic_impl_Dyadic F_slices_ContainsFunc_SSimpl_Dyadic_impl_Dyadic F_impl_cliffordList_1 F_impl_cliffordList F_impl_CliffordWord F_impl_wordGates F_impl_syllableGates F_impl_formGates F_slices_IndexFunc_impl_Gate_impl_Gate F_slices_ContainsFunc_impl_Gate_impl_Gate F_impl_IsValidCircuit_1 F_impl_IsValidCircuit F_impl_applied F_impl_OperatorOf F_impl_ScaleMatrix_1 F_impl_ScaleMatrix F_impl_MatrixOfForm F_laws_eqRing F_laws_eqDyadic F_laws_eqDyadicS F_laws_eqMatrix F_laws_markDyadicS F_laws_markMatrix F_laws_heldDyadicS F_laws_heldMatrix F_laws_FnExactMatrixOfForm
theorem c_laws_szNormalForm (a : TNormalForm) (left : Int)  (w0 : World)  (hS : ST w0 [] w0 [] []) {r_ : Int} (hF : F_laws_szNormalForm a left = some r_) :
  CV Tryz.prog 11 #[.agg #[.string (bstr a.Syllables), vi a.Clifford, vi a.Phase], vi left] w0 (fun v w' => v = vi r_ ∧ ST w0 [] w' [] []) := by
 unfold F_laws_szNormalForm at hF
 refine cv_of_cw 13 Tryz.func11 rfl Tryz.ntmps11 rfl ?_
 refine cw_seq (cw_region ?_)
 refine sS 2 (Ys_box (T := 35) (v := .agg #[.string (bstr a.Syllables), vi a.Clifford, vi a.Phase]) (cs := [.string (bstr a.Syllables), vi a.Clifford, vi a.Phase]) (m := 3) hS rfl rfl rfl rfl) ?_
 rintro _ w_ ⟨b, rfl, hS1⟩
 refine sQ 4 (Y_assign (v := vi 0) rfl rfl) (rw_nil (cw_seq (cw_region ?_)))
 refine sQ 5 (Y_move (v := vi left) rfl rfl) ?_
 refine sQ 6 (Y_fieldAddr (B := aD b) (i := 0) (s := 0) k_fd_35_0_0_9 k_sz_9_1 rfl rfl) ?_
 refine sQ 7 (Y_load1 (B := aD b) (i := 0) (cs := [.string (bstr a.Syllables), vi a.Clifford, vi a.Phase]) (v := .string (bstr a.Syllables)) k_sc_9 rfl rfl (hS1.cf (i := 0) rfl) rfl) ?_
 refine sQ 8 (Y_slen (a := a.Syllables) k_str_9 rfl rfl) ?_
 refine sQ 9 (Y_sub (k := .i64) (a := left) (b := (a.Syllables.length : Int)) rfl rfl rfl) ?_
 refine sQ 1 (Y_assign (v := vi (i64.wrap (left - (a.Syllables.length : Int)))) rfl rfl) (rw_nil (cw_seq (cw_seq (cw_region ?_))))
 refine sQ 10 (Y_move (v := vi (i64.wrap (left - (a.Syllables.length : Int)))) rfl rfl) ?_
 refine sQ 11 (Y_lt (k := .i64) (a := (i64.wrap (left - (a.Syllables.length : Int)))) (b := 0) rfl rfl rfl) (rw_nil ?_)
 refine cw_cond (b := (decide ((i64.wrap (left - (a.Syllables.length : Int))) < 0))) rfl (fun hb => ?_) (fun hb => ?_)
 ·skip
  have hF1 := ct hF hb
  refine cw_seq (cw_region ?_)
  refine sQ 4 (Y_assign (v := vi (-1)) rfl rfl) (rw_nil (cw_ret ?_))
  obtain rfl := some_inj hF1
  exact ret1 Tryz.results11 (v1 := vi (-1)) (resAt_tmp rfl) ⟨rfl, (hS1.sN [])⟩
 ·skip
  have hF2 := cf' hF hb
  refine cw_skip (cw_seq (cw_region ?_))
  refine sQ 12 (Y_move (v := vi (i64.wrap (left - (a.Syllables.length : Int)))) rfl rfl) ?_
  refine sQ 4 (Y_assign (v := vi (i64.wrap (left - (a.Syllables.length : Int)))) rfl rfl) (rw_nil (cw_ret ?_))
  obtain rfl := some_inj hF2
  exact ret1 Tryz.results11 (v1 := vi (i64.wrap (left - (a.Syllables.length : Int)))) (resAt_tmp rfl) ⟨rfl, (hS1.sN [])⟩

theorem c_laws_toNormalForm (a : TNormalForm)  (w0 : World)  (hS : ST w0 [] w0 [] []) {r_ : TNormalForm} (hF : F_laws_toNormalForm a = some r_) :
  CV Tryz.prog 13 #[.agg #[.string (bstr a.Syllables), vi a.Clifford, vi a.Phase]] w0 (fun v w' => v = .agg #[.string (bstr r_.Syllables), vi r_.Clifford, vi r_.Phase] ∧ ST w0 [] w' [] []) := by
 unfold F_laws_toNormalForm at hF
 refine cv_of_cw 14 Tryz.func13 rfl Tryz.ntmps13 rfl ?_
 refine cw_seq (cw_region ?_)
 refine sS 1 (Ys_box (T := 35) (v := .agg #[.string (bstr a.Syllables), vi a.Clifford, vi a.Phase]) (cs := [.string (bstr a.Syllables), vi a.Clifford, vi a.Phase]) (m := 3) hS rfl rfl rfl rfl) ?_
 rintro _ w_ ⟨b, rfl, hS1⟩
 refine sS 2 (Ys_alloc (T := 42) (cs := [.string (bstr ([] : List UInt8)), vi 0, vi 0]) (m := 3) hS1 k_zero_42 rfl rfl rfl) ?_
 rintro _ w_1 ⟨b1, rfl, hS2⟩
 refine rw_nil (cw_seq (cw_region ?_))
 refine sS 3 (Ys_alloc (T := 42) (cs := [.string (bstr ([] : List UInt8)), vi 0, vi 0]) (m := 3) hS2 k_zero_42 rfl rfl rfl) ?_
 rintro _ w_2 ⟨b2, rfl, hS3⟩
 refine rw_nil (cw_seq (cw_region ?_))
 refine sQ 4 (Y_fieldAddr (B := aD b) (i := 0) (s := 0) k_fd_35_0_0_9 k_sz_9_1 rfl rfl) ?_
 refine sQ 5 (Y_load1 (B := aD b) (i := 0) (cs := [.string (bstr a.Syllables), vi a.Clifford, vi a.Phase]) (v := .string (bstr a.Syllables)) k_sc_9 rfl rfl (hS3.cf (i := 0) rfl) rfl) ?_
 refine sQ 6 (Y_fieldAddr (B := aD b2) (i := 0) (s := 0) k_fd_42_0_0_9 k_sz_9_1 rfl rfl) ?_
 refine s0 (Ys_store (i := 2) (s := 1) (B := aD b2) (T' := 42) (v := .string (bstr a.Syllables)) (vs := [.string (bstr a.Syllables)]) (k := 0) (cs' := [.string (bstr a.Syllables), vi 0, vi 0]) hS3 k_sz_9_1 rfl rfl rfl rfl rfl rfl rfl (lB rfl) rfl rfl) ?_
 rintro _ w_3 ⟨rfl, hS4⟩
 refine rw_nil (cw_seq (cw_region ?_))
 refine sQ 7 (Y_fieldAddr (B := aD b) (i := 0) (s := 0) k_fd_35_1_1_3 k_sz_3_1 rfl rfl) ?_
 refine sQ 8 (Y_load1 (B := aD b) (i := 1) (cs := [.string (bstr a.Syllables), vi a.Clifford, vi a.Phase]) (v := vi a.Clifford) k_sc_3 rfl rfl (hS4.cf (i := 0) rfl) rfl) ?_
 refine sQ 9 (Y_fieldAddr (B := aD b2) (i := 0) (s := 0) k_fd_42_1_1_3 k_sz_3_1 rfl rfl) ?_
 refine s0 (Ys_store (i := 2) (s := 1) (B := aD b2) (T' := 42) (v := vi a.Clifford) (vs := [vi a.Clifford]) (k := 1) (cs' := [.string (bstr a.Syllables), vi a.Clifford, vi 0]) hS4 k_sz_3_1 rfl rfl rfl rfl rfl rfl rfl (lB rfl) rfl rfl) ?_
 rintro _ w_4 ⟨rfl, hS5⟩
 refine rw_nil (cw_seq (cw_region ?_))
 refine sQ 10 (Y_fieldAddr (B := aD b) (i := 0) (s := 0) k_fd_35_2_2_3 k_sz_3_1 rfl rfl) ?_
 refine sQ 11 (Y_load1 (B := aD b) (i := 2) (cs := [.string (bstr a.Syllables), vi a.Clifford, vi a.Phase]) (v := vi a.Phase) k_sc_3 rfl rfl (hS5.cf (i := 0) rfl) rfl) ?_
 refine sQ 12 (Y_fieldAddr (B := aD b2) (i := 0) (s := 0) k_fd_42_2_2_3 k_sz_3_1 rfl rfl) ?_
 refine s0 (Ys_store (i := 2) (s := 1) (B := aD b2) (T' := 42) (v := vi a.Phase) (vs := [vi a.Phase]) (k := 2) (cs' := [.string (bstr a.Syllables), vi a.Clifford, vi a.Phase]) hS5 k_sz_3_1 rfl rfl rfl rfl rfl rfl rfl (lB rfl) rfl rfl) ?_
 rintro _ w_5 ⟨rfl, hS6⟩
 refine rw_nil (cw_seq (cw_region ?_))
 refine sQ 13 (Y_loadA (B := aD b2) (i := 0) (cs := [.string (bstr a.Syllables), vi a.Clifford, vi a.Phase]) (vs := [.string (bstr a.Syllables), vi a.Clifford, vi a.Phase]) k_ag_42 k_sz_42_3 rfl rfl (hS6.cf (i := 2) rfl) rfl rfl) ?_
 refine s0 (Ys_store (i := 1) (s := 3) (B := aD b1) (T' := 42) (v := .agg #[.string (bstr a.Syllables), vi a.Clifford, vi a.Phase]) (vs := [.string (bstr a.Syllables), vi a.Clifford, vi a.Phase]) (k := 0) (cs' := [.string (bstr a.Syllables), vi a.Clifford, vi a.Phase]) hS6 k_sz_42_3 rfl rfl rfl rfl rfl rfl rfl (lB rfl) rfl rfl) ?_
 rintro _ w_6 ⟨rfl, hS7⟩
 refine rw_nil (cw_ret ?_)
 obtain rfl := some_inj hF
 exact ret1 Tryz.results13 (v1 := .agg #[.string (bstr a.Syllables), vi a.Clifford, vi a.Phase]) (resAt_cellA (B := aD b1) (i := 0) (cs := [.string (bstr a.Syllables), vi a.Clifford, vi a.Phase]) (vs := [.string (bstr a.Syllables), vi a.Clifford, vi a.Phase]) rfl k_ag_42 k_sz_42_3 (hS7.cf (i := 1) rfl) rfl rfl) ⟨rfl, (hS7.sN [])⟩

theorem c_spec_l1In (n : Int) (lo : Int) (hi : Int)  (w0 : World)  (hS : ST w0 [] w0 [] []) {r_ : Bool} (hF : F_spec_l1In n lo hi = some r_) :
  CV Tryz.prog 71 #[vi n, vi lo, vi hi] w0 (fun v w' => v = .bool r_ ∧ ST w0 [] w' [] []) := by
 unfold F_spec_l1In at hF
 refine cv_of_cw 15 Tryz.func71 rfl Tryz.ntmps71 rfl ?_
 refine cw_seq (cw_region ?_)
 refine sQ 6 (Y_assign (v := .bool false) rfl rfl) (rw_nil (cw_seq (cw_region ?_)))
 refine sQ 7 (Y_move (v := vi n) rfl rfl) ?_
 refine sQ 8 (Y_move (v := vi lo) rfl rfl) ?_
 refine sQ 9 (Y_ge (k := .i64) (a := n) (b := lo) rfl rfl rfl) ?_
 refine sQ 10 (Y_move (v := .bool (decide (lo ≤ n))) rfl rfl) ?_
 refine sgq 11 (B := (decide (lo ≤ n))) (v := vi n) rfl rfl (uT_ 10) (fun hg => (Y_move (v := vi n) rfl rfl)) ?_
 refine sgq 12 (B := (decide (lo ≤ n))) (v := vi hi) rfl rfl (uT_ 10) (fun hg1 => (Y_move (v := vi hi) rfl rfl)) ?_
 refine sgq 13 (B := (decide (lo ≤ n))) (v := .bool (decide (n ≤ hi))) rfl rfl (uT_ 10) (fun hg2 => (Y_le (k := .i64) (a := n) (b := hi) rfl (gv_of (v := vi n) hg2) (gv_of (v := vi hi) hg2))) ?_
 refine sQ 14 (Y_and (b := (decide (lo ≤ n))) (z := (decide (n ≤ hi))) rfl rfl rfl rfl) ?_
 refine sQ 6 (Y_assign (v := .bool ((decide (lo ≤ n)) && (decide (n ≤ hi)))) rfl rfl) (rw_nil (cw_ret ?_))
 obtain rfl := some_inj hF
 exact ret1 Tryz.results71 (v1 := .bool ((decide (lo ≤ n)) && (decide (n ≤ hi)))) (resAt_tmp rfl) ⟨rfl, (hS.sN [])⟩

theorem c_spec_l10Valid (f_ : TNormalForm)  (w0 : World)  (hS : ST w0 [] w0 [] []) {r_ : Bool} (hF : F_spec_l10Valid f_ = some r_) :
  CV Tryz.prog 31 #[.agg #[.string (bstr f_.Syllables), vi f_.Clifford, vi f_.Phase]] w0 (fun v w' => v = .bool r_ ∧ ST w0 [] w' [] []) := by
 unfold F_spec_l10Valid at hF
 refine cv_of_cw 44 Tryz.func31 rfl Tryz.ntmps31 rfl ?_
 refine cw_seq (cw_region ?_)
 refine sS 1 (Ys_box (T := 42) (v := .agg #[.string (bstr f_.Syllables), vi f_.Clifford, vi f_.Phase]) (cs := [.string (bstr f_.Syllables), vi f_.Clifford, vi f_.Phase]) (m := 3) hS rfl rfl rfl rfl) ?_
 rintro _ w_ ⟨b, rfl, hS1⟩
 refine sQ 2 (Y_assign (v := .bool false) rfl rfl) (rw_nil (cw_seq (cw_seq (cw_region ?_))))
 refine sQ 3 (Y_assign (v := vi 0) rfl rfl) (rw_nil ?_)
 obtain ⟨hN, hF⟩ := chk_inv hF
 obtain ⟨z, hz, hF1⟩ := bind_inv hF
 refine cw_block ?_
 refine cw_loop (fun k f w => ∃ (i1 : Nat), FF f [(1, pt (aD b) 0), (3, vi (i1 : Int))] ∧ ST w0 [] w [⟨aD b, 42, [.string (bstr f_.Syllables), vi f_.Clifford, vi f_.Phase], 3⟩] [] ∧ i1 + k = f_.Syllables.length ∧ forX (F_spec_l10Valid_l1 f_) k i1 () = some z) f_.Syllables.length ⟨0, (FF.cons rfl (FF.cons rfl FF.nil)), (hS1.sel [0] rfl rfl), Nat.zero_add _, hz⟩ ?_
 rintro k_ f w ⟨i1, hf, hS2, hik, hL⟩
 refine cw_seq (cw_seq (cw_region ?_))
 refine sQ 5 (Y_move (v := vi (i1 : Int)) rfl (hf.get 3 1 rfl)) ?_
 refine sQ 6 (Y_fieldAddr (B := aD b) (i := 0) (s := 0) k_fd_42_0_0_9 k_sz_9_1 rfl (hf.get 1 0 rfl)) ?_
 refine sQ 7 (Y_load1 (B := aD b) (i := 0) (cs := [.string (bstr f_.Syllables), vi f_.Clifford, vi f_.Phase]) (v := .string (bstr f_.Syllables)) k_sc_9 rfl rfl (hS2.cf (i := 0) rfl) rfl) ?_
 refine sQ 8 (Y_slen (a := f_.Syllables) k_str_9 rfl rfl) ?_
 refine sQ 9 (Y_lt (k := .i64) (a := (i1 : Int)) (b := (f_.Syllables.length : Int)) rfl rfl rfl) (rw_nil ?_)
 refine cw_cond (b := (decide ((i1 : Int) < (f_.Syllables.length : Int)))) rfl (fun hlt => ?_) (fun hlt => ?_)
 ·skip
  have hlt1 : i1 < f_.Syllables.length := by have h := of_decide_eq_true hlt; omega
  obtain ⟨k_1, rfl⟩ : ∃ k2, k_ = k2 + 1 := ⟨k_ - 1, by omega⟩
  obtain ⟨y, hb, hL1⟩ := forX_go hL
  unfold F_spec_l10Valid_l1 at hb
  refine cw_skip (cw_seq (cw_block (cw_seq (cw_region ?_))))
  refine sQ 12 (Y_fieldAddr (B := aD b) (i := 0) (s := 0) k_fd_42_0_0_9 k_sz_9_1 rfl (hf.get 1 0 rfl)) ?_
  refine sQ 13 (Y_load1 (B := aD b) (i := 0) (cs := [.string (bstr f_.Syllables), vi f_.Clifford, vi f_.Phase]) (v := .string (bstr f_.Syllables)) k_sc_9 rfl rfl (hS2.cf (i := 0) rfl) rfl) ?_
  refine sQ 14 (Y_move (v := vi (i1 : Int)) rfl (hf.get 3 1 rfl)) ?_
  obtain ⟨x, hx, hb⟩ := bind_inv hb
  refine sQ 15 (Y_sidx (a := f_.Syllables) (k := .i64) (i := (i1 : Int)) (b := x) k_str_9 rfl rfl rfl hx) ?_
  refine sQ 4 (Y_assign (v := .int .u8 (x.toNat : Int)) rfl rfl) (rw_nil (cw_seq (cw_region ?_)))
  refine sQ 16 (Y_move (v := .int .u8 (x.toNat : Int)) rfl rfl) ?_
  refine sQ 17 (Y_ne (k := .u8) (a := (x.toNat : Int)) (b := 72) rfl rfl rfl) ?_
  refine sQ 18 (Y_move (v := .bool ((x.toNat : Int) != 72)) rfl rfl) ?_
  refine sgq 19 (B := ((x.toNat : Int) != 72)) (v := .int .u8 (x.toNat : Int)) rfl rfl (uT_ 18) (fun hg => (Y_move (v := .int .u8 (x.toNat : Int)) rfl rfl)) ?_
  refine sgq 20 (B := ((x.toNat : Int) != 72)) (v := .bool ((x.toNat : Int) != 83)) rfl rfl (uT_ 18) (fun hg1 => (Y_ne (k := .u8) (a := (x.toNat : Int)) (b := 83) rfl (gv_of (v := .int .u8 (x.toNat : Int)) hg1) rfl)) ?_
  refine sQ 21 (Y_and (b := ((x.toNat : Int) != 72)) (z := ((x.toNat : Int) != 83)) rfl rfl rfl rfl) ?_
  refine sQ 22 (Y_move (v := .bool (((x.toNat : Int) != 72) && ((x.toNat : Int) != 83))) rfl rfl) ?_
  refine sgq 23 (B := (((x.toNat : Int) != 72) && ((x.toNat : Int) != 83))) (v := .int .u8 (x.toNat : Int)) rfl rfl (uT_ 22) (fun hg2 => (Y_move (v := .int .u8 (x.toNat : Int)) rfl rfl)) ?_
  refine sgq 24 (B := (((x.toNat : Int) != 72) && ((x.toNat : Int) != 83))) (v := .bool ((x.toNat : Int) != 84)) rfl rfl (uT_ 22) (fun hg3 => (Y_ne (k := .u8) (a := (x.toNat : Int)) (b := 84) rfl (gv_of (v := .int .u8 (x.toNat : Int)) hg3) rfl)) ?_
  refine sgq 25 (B := (((x.toNat : Int) != 72) && ((x.toNat : Int) != 83))) (v := .bool ((x.toNat : Int) != 84)) rfl rfl (uT_ 22) (fun hg4 => (Y_move (v := .bool ((x.toNat : Int) != 84)) rfl (gv_of (v := .bool ((x.toNat : Int) != 84)) hg4))) ?_
  refine sgq 26 (B := ((((x.toNat : Int) != 72) && ((x.toNat : Int) != 83)) && (!((x.toNat : Int) != 84)))) (v := vi (i1 : Int)) rfl rfl (wt_gf (gd_of (t := 25) (by kernel_rfl) rfl)) (fun hg5 => (Y_move (v := vi (i1 : Int)) rfl (hf.get 3 1 rfl))) ?_
  refine sgq 27 (B := ((((x.toNat : Int) != 72) && ((x.toNat : Int) != 83)) && (!((x.toNat : Int) != 84)))) (v := .bool (decide (0 < (i1 : Int)))) rfl rfl (wt_gf (gd_of (t := 25) (by kernel_rfl) rfl)) (fun hg6 => (Y_gt (k := .i64) (a := (i1 : Int)) (b := 0) rfl (gv_of (v := vi (i1 : Int)) hg6) rfl)) ?_
  refine sgq 28 (B := (((x.toNat : Int) != 72) && ((x.toNat : Int) != 83))) (v := .bool (((x.toNat : Int) != 84) || (decide (0 < (i1 : Int))))) rfl rfl (uT_ 22) (fun hg7 => (Y_or (b := ((x.toNat : Int) != 84)) (z := (decide (0 < (i1 : Int)))) rfl (gv_of (v := .bool ((x.toNat : Int) != 84)) hg7) rfl (gv_and (B := (((x.toNat : Int) != 72) && ((x.toNat : Int) != 83))) (C := (!((x.toNat : Int) != 84))) (v := .bool (decide (0 < (i1 : Int)))) hg7))) ?_
  refine sQ 29 (Y_and (b := (((x.toNat : Int) != 72) && ((x.toNat : Int) != 83))) (z := (((x.toNat : Int) != 84) || (decide (0 < (i1 : Int))))) rfl rfl rfl rfl) (rw_nil ?_)
  refine cw_cond (b := ((((x.toNat : Int) != 72) && ((x.toNat : Int) != 83)) && (((x.toNat : Int) != 84) || (decide (0 < (i1 : Int)))))) rfl (fun hb1 => ?_) (fun hb1 => ?_)
  ·skip
   have hF2 := ct hb hb1
   refine cw_seq (cw_region ?_)
   refine sQ 2 (Y_assign (v := .bool false) rfl rfl) (rw_nil (cw_ret ?_))
   obtain rfl := some_inj hF2
   obtain rfl := some_inj hL1
   obtain rfl := some_inj hF1
   exact ret1 Tryz.results31 (v1 := .bool false) (resAt_tmp rfl) ⟨rfl, (hS2.sN [])⟩
  ·skip
   have hF3 := cf' hb hb1
   refine cw_skip (cw_region ?_)
   refine sQ 10 (Y_move (v := vi (i1 : Int)) rfl (hf.get 3 1 rfl)) ?_
   refine sQ 11 (Y_add (k := .i64) (a := (i1 : Int)) (b := 1) rfl rfl rfl) ?_
   refine sQ 3 (Y_assign (v := vi (i64.wrap ((i1 : Int) + 1))) rfl rfl) (rw_nil ?_)
   obtain rfl := some_inj hF3
   exact ⟨k_1, Nat.lt_succ_self _, i1 + 1, (FF.cons (hf.get 1 0 rfl) (FF.cons (congrArg (Value.int .i64) (wr_succ hlt1 hN)) FF.nil)), (hS2.sel [0] rfl rfl), (by omega), hL1⟩
 ·skip
  obtain rfl : k_ = 0 := by have h := of_decide_eq_false hlt; omega
  refine cw_exit rfl ?_
  obtain rfl := some_inj hL
  refine cw_seq (cw_region ?_)
  refine sQ 30 (Y_fieldAddr (B := aD b) (i := 0) (s := 0) k_fd_42_0_0_9 k_sz_9_1 rfl (hf.get 1 0 rfl)) ?_
  refine sQ 31 (Y_load1 (B := aD b) (i := 0) (cs := [.string (bstr f_.Syllables), vi f_.Clifford, vi f_.Phase]) (v := .string (bstr f_.Syllables)) k_sc_9 rfl rfl (hS2.cf (i := 0) rfl) rfl) ?_
  refine sQ 32 (Y_slen (a := f_.Syllables) k_str_9 rfl rfl) ?_
  refine sQ 33 (Y_le (k := .i64) (a := (f_.Syllables.length : Int)) (b := 40) rfl rfl rfl) ?_
  refine sQ 34 (Y_move (v := .bool (decide ((f_.Syllables.length : Int) ≤ 40))) rfl rfl) ?_
  refine sgq 35 (B := (decide ((f_.Syllables.length : Int) ≤ 40))) (v := pt (aD b) 1) rfl rfl (uT_ 34) (fun hg8 => (Y_fieldAddr (B := aD b) (i := 0) (s := 0) k_fd_42_1_1_3 k_sz_3_1 rfl (hf.get 1 0 rfl))) ?_
  refine sgq 36 (B := (decide ((f_.Syllables.length : Int) ≤ 40))) (v := vi f_.Clifford) rfl rfl (uT_ 34) (fun hg9 => (Y_load1 (B := aD b) (i := 1) (cs := [.string (bstr f_.Syllables), vi f_.Clifford, vi f_.Phase]) (v := vi f_.Clifford) k_sc_3 rfl (gv_of (v := pt (aD b) 1) hg9) (hS2.cf (i := 0) rfl) rfl)) ?_
  obtain ⟨r_1, hc, hF1⟩ := bind_inv hF1
  refine sgc 37 (B := (decide ((f_.Syllables.length : Int) ≤ 40))) (v := .bool r_1) (F := hS2.fn) rfl rfl (uT_ 34) hS2 (fun hg10 => (Yc_func (g := 71) (vs := [vi f_.Clifford, vi 0, vi 23]) k_call_71 rfl (mc (gv_of (v := vi f_.Clifford) hg10) (mc rfl (mc rfl mn))) (CV.mono (c_spec_l1In f_.Clifford 0 23 _  (hS2.inn0 [] rfl) (gb_inv hc hg10)) (by rintro _ _ ⟨rfl, h⟩; exact ⟨rfl, hS2.out00 h⟩)))) ?_
  rintro w_1 hS3
  refine sQ 38 (Y_and (b := (decide ((f_.Syllables.length : Int) ≤ 40))) (z := r_1) rfl rfl rfl rfl) ?_
  refine sQ 39 (Y_move (v := .bool ((decide ((f_.Syllables.length : Int) ≤ 40)) && r_1)) rfl rfl) ?_
  refine sgq 40 (B := ((decide ((f_.Syllables.length : Int) ≤ 40)) && r_1)) (v := pt (aD b) 2) rfl rfl (uT_ 39) (fun hg11 => (Y_fieldAddr (B := aD b) (i := 0) (s := 0) k_fd_42_2_2_3 k_sz_3_1 rfl (hf.get 1 0 rfl))) ?_
  refine sgq 41 (B := ((decide ((f_.Syllables.length : Int) ≤ 40)) && r_1)) (v := vi f_.Phase) rfl rfl (uT_ 39) (fun hg12 => (Y_load1 (B := aD b) (i := 2) (cs := [.string (bstr f_.Syllables), vi f_.Clifford, vi f_.Phase]) (v := vi f_.Phase) k_sc_3 rfl (gv_of (v := pt (aD b) 2) hg12) (hS3.cf (i := 0) rfl) rfl)) ?_
  obtain ⟨r_2, hc1, hF1⟩ := bind_inv hF1
  refine sgc 42 (B := ((decide ((f_.Syllables.length : Int) ≤ 40)) && r_1)) (v := .bool r_2) (F := hS3.fn) rfl rfl (uT_ 39) hS3 (fun hg13 => (Yc_func (g := 71) (vs := [vi f_.Phase, vi 0, vi 7]) k_call_71 rfl (mc (gv_of (v := vi f_.Phase) hg13) (mc rfl (mc rfl mn))) (CV.mono (c_spec_l1In f_.Phase 0 7 _  (hS3.inn0 [] rfl) (gb_inv hc1 hg13)) (by rintro _ _ ⟨rfl, h⟩; exact ⟨rfl, hS3.out00 h⟩)))) ?_
  rintro w_2 hS4
  refine sQ 43 (Y_and (b := ((decide ((f_.Syllables.length : Int) ≤ 40)) && r_1)) (z := r_2) rfl rfl rfl rfl) ?_
  refine sQ 2 (Y_assign (v := .bool (((decide ((f_.Syllables.length : Int) ≤ 40)) && r_1) && r_2)) rfl rfl) (rw_nil (cw_ret ?_))
  obtain rfl := some_inj hF1
  exact ret1 Tryz.results31 (v1 := .bool (((decide ((f_.Syllables.length : Int) ≤ 40)) && r_1) && r_2)) (resAt_tmp rfl) ⟨rfl, (hS4.sN [])⟩

theorem c_spec_l9Same (a : TBloch) (b : TBloch) (B : Option Addr) (c n : Nat) (B1 : Option Addr) (c1 n1 : Nat) (w0 : World) (hn : a.Cells.length = n) (hn1 : b.Cells.length = n1) (hS : ST w0 [] w0 [] [⟨B, (a.Cells.flatMap eN0)⟩, ⟨B1, (b.Cells.flatMap eN0)⟩]) {r_ : Bool} (hF : F_spec_l9Same a b = some r_) :
  CV Tryz.prog 52 #[.agg #[.slice B n c], .agg #[.slice B1 n1 c1]] w0 (fun v w' => v = .bool r_ ∧ ST w0 [] w' [] []) := by
 subst hn
 subst hn1
 unfold F_spec_l9Same at hF
 refine cv_of_cw 24 Tryz.func52 rfl Tryz.ntmps52 rfl ?_
 refine cw_seq (cw_region ?_)
 refine sS 2 (Ys_box (T := 30) (v := gB_ a B c) (cs := kB_ a B c) (m := 1) hS rfl rfl rfl rfl) ?_
 rintro _ w_ ⟨b1, rfl, hS1⟩
 refine sS 3 (Ys_box (T := 30) (v := gB_ b B1 c1) (cs := kB_ b B1 c1) (m := 1) hS1 rfl rfl rfl rfl) ?_
 rintro _ w_1 ⟨b2, rfl, hS2⟩
 refine sQ 4 (Y_assign (v := .bool false) rfl rfl) (rw_nil (cw_seq (cw_seq (cw_region ?_))))
 refine sQ 6 (Y_fieldAddr (B := aD b1) (i := 0) (s := 0) k_fd_30_0_0_28 k_sz_28_1 rfl rfl) ?_
 refine sQ 7 (Y_load1 (B := aD b1) (i := 0) (cs := kB_ a B c) (v := .slice B a.Cells.length c) k_sc_28 rfl rfl (hS2.cf (i := 0) rfl) rfl) ?_
 refine sQ 8 (Y_len (B := B) (m := a.Cells.length) (c := c) k_sl_28_65 rfl rfl) ?_
 refine sQ 9 (Y_move (v := vi 0) rfl rfl) (rw_nil ?_)
 obtain ⟨hN, hF⟩ := chk_inv hF
 obtain ⟨z, hz, hF1⟩ := bind_inv hF
 refine cw_block ?_
 refine cw_loop (fun k f w => ∃ (i : Nat), FF f [(2, pt (aD b1) 0), (3, pt (aD b2) 0), (8, vi (a.Cells.length : Int)), (9, vi (i : Int))] ∧ ST w0 [] w [⟨aD b1, 30, kB_ a B c, 1⟩, ⟨aD b2, 30, kB_ b B1 c1, 1⟩] [⟨B, (a.Cells.flatMap eN0)⟩, ⟨B1, (b.Cells.flatMap eN0)⟩] ∧ i + k = a.Cells.length ∧ forX (F_spec_l9Same_l1 a b) k i () = some z) a.Cells.length ⟨0, (FF.cons rfl (FF.cons rfl (FF.cons rfl (FF.cons rfl FF.nil)))), (hS2.sel [0, 1] rfl rfl), Nat.zero_add _, hz⟩ ?_
 rintro k_ f w ⟨i, hf, hS3, hik, hL⟩
 refine cw_seq (cw_region ?_)
 refine sQ 10 (Y_lt (k := .i64) (a := (i : Int)) (b := (a.Cells.length : Int)) rfl (hf.get 9 3 rfl) (hf.get 8 2 rfl)) (rw_nil (cw_seq ?_))
 refine cw_cond (b := (decide ((i : Int) < (a.Cells.length : Int)))) rfl (fun hlt => ?_) (fun hlt => ?_)
 ·skip
  have hlt1 : i < a.Cells.length := by have h := of_decide_eq_true hlt; omega
  obtain ⟨k_1, rfl⟩ : ∃ k2, k_ = k2 + 1 := ⟨k_ - 1, by omega⟩
  obtain ⟨y, hb, hL1⟩ := forX_go hL
  unfold F_spec_l9Same_l1 at hb
  refine cw_skip (cw_seq (cw_block (cw_seq (cw_region ?_))))
  refine sQ 11 (Y_move (v := vi (i : Int)) rfl (hf.get 9 3 rfl)) ?_
  refine sQ 5 (Y_assign (v := vi (i : Int)) rfl rfl) (rw_nil (cw_seq ?_))
  obtain ⟨x, hx, hb⟩ := bind_inv hb
  obtain ⟨x1, hx1, hb⟩ := bind_inv hb
  refine ra_start (hS3.se [0, 1]).fn (by kernel_rfl) ?_
  have hS4 := hS3.drew
  refine rq 0 12 (v := pt (aD b1) 0) rfl (hS4.se [0, 1]) (fun w' hw' => (Y_fieldAddr (B := aD b1) (i := 0) (s := 0) k_fd_30_0_0_28 k_sz_28_1 rfl (hf.get 2 0 rfl))) ?_
  refine rq 1 13 (v := .slice B a.Cells.length c) rfl (hS4.se [0, 1]) (fun w' hw' => (Y_load1 (B := aD b1) (i := 0) (cs := kB_ a B c) (v := .slice B a.Cells.length c) k_sc_28 rfl rfl (ST.cf hw' (i := 0) rfl) rfl)) ?_
  refine rq 2 14 (v := vi (i : Int)) rfl (hS4.se [0, 1]) (fun w' hw' => (Y_move (v := vi (i : Int)) rfl rfl)) ?_
  refine rq 3 15 (v := pt B ((i : Int).toNat * 5)) rfl (hS4.se [0, 1]) (fun w' hw' => (Y_index (B := B) (m := a.Cells.length) (c := c) (k := .i64) (i := (i : Int)) k_sl_28_65 k_sz_65_5 rfl rfl rfl (gi_isSome eN2 rfl (ST.rf hw' (i := 0) rfl) hx) (getI_nn hx) (getI_ltI hx rfl))) ?_
  refine rq 4 16 (v := gD_ x) rfl (hS4.se [0, 1]) (fun w' hw' => (Y_loadA (B := B) (i := (i : Int).toNat * 5) (cs := (a.Cells.flatMap eN0)) (vs := kD_ x) k_ag_65 k_sz_65_5 rfl rfl (ST.rf hw' (i := 0) rfl) (eN2 x) (gi_seg eN2 hx))) ?_
  refine rq 5 17 (v := pt (aD b2) 0) rfl (hS4.se [0, 1]) (fun w' hw' => (Y_fieldAddr (B := aD b2) (i := 0) (s := 0) k_fd_30_0_0_28 k_sz_28_1 rfl (hf.get 3 1 rfl))) ?_
  refine rq 6 18 (v := .slice B1 b.Cells.length c1) rfl (hS4.se [0, 1]) (fun w' hw' => (Y_load1 (B := aD b2) (i := 0) (cs := kB_ b B1 c1) (v := .slice B1 b.Cells.length c1) k_sc_28 rfl rfl (ST.cf hw' (i := 1) rfl) rfl)) ?_
  refine rq 7 19 (v := vi (i : Int)) rfl (hS4.se [0, 1]) (fun w' hw' => (Y_move (v := vi (i : Int)) rfl rfl)) ?_
  refine rq 8 20 (v := pt B1 ((i : Int).toNat * 5)) rfl (hS4.se [0, 1]) (fun w' hw' => (Y_index (B := B1) (m := b.Cells.length) (c := c1) (k := .i64) (i := (i : Int)) k_sl_28_65 k_sz_65_5 rfl rfl rfl (gi_isSome eN2 rfl (ST.rf hw' (i := 1) rfl) hx1) (getI_nn hx1) (getI_ltI hx1 rfl))) ?_
  refine rq 9 21 (v := gD_ x1) rfl (hS4.se [0, 1]) (fun w' hw' => (Y_loadA (B := B1) (i := (i : Int).toNat * 5) (cs := (b.Cells.flatMap eN0)) (vs := kD_ x1) k_ag_65 k_sz_65_5 rfl rfl (ST.rf hw' (i := 1) rfl) (eN2 x1) (gi_seg eN2 hx1))) ?_
  refine ra_q 10 22 (v := .bool (!(((x.Num.A == x1.Num.A) && ((x.Num.B == x1.Num.B) && ((x.Num.C == x1.Num.C) && ((x.Num.D == x1.Num.D) && true)))) && ((x.Exp == x1.Exp) && true)))) rfl rfl rfl (by kernel_rfl) (by kernel_rfl) (by kernel_rfl) (hS4.se [0, 1]) (fun w' hw' => (Y_neA (xs := #[vi x.Num.A, vi x.Num.B, vi x.Num.C, vi x.Num.D, vi x.Exp]) (ys := #[vi x1.Num.A, vi x1.Num.B, vi x1.Num.C, vi x1.Num.D, vi x1.Exp]) (b := (((x.Num.A == x1.Num.A) && ((x.Num.B == x1.Num.B) && ((x.Num.C == x1.Num.C) && ((x.Num.D == x1.Num.D) && true)))) && ((x.Exp == x1.Exp) && true))) k_eg_65 rfl rfl rfl (eqr_struct (xs := kD_ x) (ys := kD_ x1) k_st_65 k_ho_65 (pts_ag (us := kR_ x.Num) (vs := kR_ x1.Num) k_ag_63 k_sz_63_4 rfl rfl (eqr_struct (xs := kR_ x.Num) (ys := kR_ x1.Num) k_st_63 k_ho_63 (pts_sc k_sc_3 rfl rfl (eqr_int k_int_3_i64) (pts_sc k_sc_3 rfl rfl (eqr_int k_int_3_i64) (pts_sc k_sc_3 rfl rfl (eqr_int k_int_3_i64) (pts_sc k_sc_3 rfl rfl (eqr_int k_int_3_i64) pts_nil))))) (pts_sc k_sc_3 rfl rfl (eqr_int k_int_3_i64) pts_nil))))) ?_
  refine ra_done (by kernel_rfl) ?_
  refine cw_cond (b := (!(((x.Num.A == x1.Num.A) && ((x.Num.B == x1.Num.B) && ((x.Num.C == x1.Num.C) && ((x.Num.D == x1.Num.D) && true)))) && ((x.Exp == x1.Exp) && true)))) rfl (fun hb1 => ?_) (fun hb1 => ?_)
  ·skip
   have hF2 := ct hb hb1
   refine cw_seq (cw_region ?_)
   refine sQ 4 (Y_assign (v := .bool false) rfl rfl) (rw_nil (cw_ret ?_))
   obtain rfl := some_inj hF2
   obtain rfl := some_inj hL1
   obtain rfl := some_inj hF1
   exact ret1 Tryz.results52 (v1 := .bool false) (resAt_tmp rfl) ⟨rfl, (hS4.sN [])⟩
  ·skip
   have hF3 := cf' hb hb1
   refine cw_skip (cw_region ?_)
   refine sQ 23 (Y_add (k := .i64) (a := (i : Int)) (b := 1) rfl (hf.get 9 3 rfl) rfl) ?_
   refine sQ 9 (Y_move (v := vi (i64.wrap ((i : Int) + 1))) rfl rfl) (rw_nil ?_)
   obtain rfl := some_inj hF3
   exact ⟨k_1, Nat.lt_succ_self _, i + 1, (FF.cons (hf.get 2 0 rfl) (FF.cons (hf.get 3 1 rfl) (FF.cons (hf.get 8 2 rfl) (FF.cons (congrArg (Value.int .i64) (wr_succ hlt1 hN)) FF.nil)))), (hS4.sel [0, 1] rfl rfl), (by omega), hL1⟩
 ·skip
  obtain rfl : k_ = 0 := by have h := of_decide_eq_false hlt; omega
  refine cw_exit rfl ?_
  obtain rfl := some_inj hL
  refine cw_seq (cw_region ?_)
  refine sQ 4 (Y_assign (v := .bool true) rfl rfl) (rw_nil (cw_ret ?_))
  obtain rfl := some_inj hF1
  exact ret1 Tryz.results52 (v1 := .bool true) (resAt_tmp rfl) ⟨rfl, (hS3.sN [])⟩

theorem c_spec_l1Even (x : TRing)  (w0 : World)  (hS : ST w0 [] w0 [] []) {r_ : Bool} (hF : F_spec_l1Even x = some r_) :
  CV Tryz.prog 90 #[gR_ x] w0 (fun v w' => v = .bool r_ ∧ ST w0 [] w' [] []) := by
 unfold F_spec_l1Even at hF
 refine cv_of_cw 19 Tryz.func90 rfl Tryz.ntmps90 rfl ?_
 refine cw_seq (cw_region ?_)
 refine sS 1 (Ys_box (T := 63) (v := gR_ x) (cs := kR_ x) (m := 4) hS rfl rfl rfl rfl) ?_
 rintro _ w_ ⟨b, rfl, hS1⟩
 refine sQ 2 (Y_assign (v := .bool false) rfl rfl) (rw_nil (cw_seq (cw_region ?_)))
 refine sQ 3 (Y_fieldAddr (B := aD b) (i := 0) (s := 0) k_fd_63_0_0_3 k_sz_3_1 rfl rfl) ?_
 refine sQ 4 (Y_load1 (B := aD b) (i := 0) (cs := kR_ x) (v := vi x.A) k_sc_3 rfl rfl (hS1.cf (i := 0) rfl) rfl) ?_
 refine sQ 5 (Y_fieldAddr (B := aD b) (i := 0) (s := 0) k_fd_63_2_2_3 k_sz_3_1 rfl rfl) ?_
 refine sQ 6 (Y_load1 (B := aD b) (i := 2) (cs := kR_ x) (v := vi x.C) k_sc_3 rfl rfl (hS1.cf (i := 0) rfl) rfl) ?_
 refine sQ 7 (Y_add (k := .i64) (a := x.A) (b := x.C) rfl rfl rfl) ?_
 refine sQ 8 (Y_rem (k := .i64) (a := (i64.wrap (x.A + x.C))) (b := 2) rfl rfl rfl (by decide)) ?_
 refine sQ 9 (Y_eq (k := .i64) (a := (Int.tmod (i64.wrap (x.A + x.C)) 2)) (b := 0) rfl rfl rfl) ?_
 refine sQ 10 (Y_move (v := .bool ((Int.tmod (i64.wrap (x.A + x.C)) 2) == 0)) rfl rfl) ?_
 refine sgq 11 (B := ((Int.tmod (i64.wrap (x.A + x.C)) 2) == 0)) (v := pt (aD b) 1) rfl rfl (uT_ 10) (fun hg => (Y_fieldAddr (B := aD b) (i := 0) (s := 0) k_fd_63_1_1_3 k_sz_3_1 rfl rfl)) ?_
 refine sgq 12 (B := ((Int.tmod (i64.wrap (x.A + x.C)) 2) == 0)) (v := vi x.B) rfl rfl (uT_ 10) (fun hg1 => (Y_load1 (B := aD b) (i := 1) (cs := kR_ x) (v := vi x.B) k_sc_3 rfl (gv_of (v := pt (aD b) 1) hg1) (hS1.cf (i := 0) rfl) rfl)) ?_
 refine sgq 13 (B := ((Int.tmod (i64.wrap (x.A + x.C)) 2) == 0)) (v := pt (aD b) 3) rfl rfl (uT_ 10) (fun hg2 => (Y_fieldAddr (B := aD b) (i := 0) (s := 0) k_fd_63_3_3_3 k_sz_3_1 rfl rfl)) ?_
 refine sgq 14 (B := ((Int.tmod (i64.wrap (x.A + x.C)) 2) == 0)) (v := vi x.D) rfl rfl (uT_ 10) (fun hg3 => (Y_load1 (B := aD b) (i := 3) (cs := kR_ x) (v := vi x.D) k_sc_3 rfl (gv_of (v := pt (aD b) 3) hg3) (hS1.cf (i := 0) rfl) rfl)) ?_
 refine sgq 15 (B := ((Int.tmod (i64.wrap (x.A + x.C)) 2) == 0)) (v := vi (i64.wrap (x.B + x.D))) rfl rfl (uT_ 10) (fun hg4 => (Y_add (k := .i64) (a := x.B) (b := x.D) rfl (gv_of (v := vi x.B) hg4) (gv_of (v := vi x.D) hg4))) ?_
 refine sgq 16 (B := ((Int.tmod (i64.wrap (x.A + x.C)) 2) == 0)) (v := vi (Int.tmod (i64.wrap (x.B + x.D)) 2)) rfl rfl (uT_ 10) (fun hg5 => (Y_rem (k := .i64) (a := (i64.wrap (x.B + x.D))) (b := 2) rfl (gv_of (v := vi (i64.wrap (x.B + x.D))) hg5) rfl (by decide))) ?_
 refine sgq 17 (B := ((Int.tmod (i64.wrap (x.A + x.C)) 2) == 0)) (v := .bool ((Int.tmod (i64.wrap (x.B + x.D)) 2) == 0)) rfl rfl (uT_ 10) (fun hg6 => (Y_eq (k := .i64) (a := (Int.tmod (i64.wrap (x.B + x.D)) 2)) (b := 0) rfl (gv_of (v := vi (Int.tmod (i64.wrap (x.B + x.D)) 2)) hg6) rfl)) ?_
 refine sQ 18 (Y_and (b := ((Int.tmod (i64.wrap (x.A + x.C)) 2) == 0)) (z := ((Int.tmod (i64.wrap (x.B + x.D)) 2) == 0)) rfl rfl rfl rfl) ?_
 refine sQ 2 (Y_assign (v := .bool (((Int.tmod (i64.wrap (x.A + x.C)) 2) == 0) && ((Int.tmod (i64.wrap (x.B + x.D)) 2) == 0))) rfl rfl) (rw_nil (cw_ret ?_))
 obtain rfl := some_inj hF
 exact ret1 Tryz.results90 (v1 := .bool (((Int.tmod (i64.wrap (x.A + x.C)) 2) == 0) && ((Int.tmod (i64.wrap (x.B + x.D)) 2) == 0))) (resAt_tmp rfl) ⟨rfl, (hS1.sN [])⟩

theorem c_spec_l1Root (x : TRing)  (w0 : World)  (hS : ST w0 [] w0 [] []) {r_ : TRing} (hF : F_spec_l1Root x = some r_) :
  CV Tryz.prog 94 #[gR_ x] w0 (fun v w' => v = (gR_ r_) ∧ ST w0 [] w' [] []) := by
 unfold F_spec_l1Root at hF
 refine cv_of_cw 24 Tryz.func94 rfl Tryz.ntmps94 rfl ?_
 refine cw_seq (cw_region ?_)
 refine sS 1 (Ys_box (T := 63) (v := gR_ x) (cs := kR_ x) (m := 4) hS rfl rfl rfl rfl) ?_
 rintro _ w_ ⟨b, rfl, hS1⟩
 refine sS 2 (Ys_alloc (T := 63) (cs := [vi 0, vi 0, vi 0, vi 0]) (m := 4) hS1 k_zero_63 rfl rfl rfl) ?_
 rintro _ w_1 ⟨b1, rfl, hS2⟩
 refine rw_nil (cw_seq (cw_region ?_))
 refine sQ 3 (Y_fieldAddr (B := aD b) (i := 0) (s := 0) k_fd_63_1_1_3 k_sz_3_1 rfl rfl) ?_
 refine sQ 4 (Y_load1 (B := aD b) (i := 1) (cs := kR_ x) (v := vi x.B) k_sc_3 rfl rfl (hS2.cf (i := 0) rfl) rfl) ?_
 refine sQ 5 (Y_fieldAddr (B := aD b) (i := 0) (s := 0) k_fd_63_3_3_3 k_sz_3_1 rfl rfl) ?_
 refine sQ 6 (Y_load1 (B := aD b) (i := 3) (cs := kR_ x) (v := vi x.D) k_sc_3 rfl rfl (hS2.cf (i := 0) rfl) rfl) ?_
 refine sQ 7 (Y_sub (k := .i64) (a := x.B) (b := x.D) rfl rfl rfl) ?_
 refine sQ 8 (Y_fieldAddr (B := aD b) (i := 0) (s := 0) k_fd_63_0_0_3 k_sz_3_1 rfl rfl) ?_
 refine sQ 9 (Y_load1 (B := aD b) (i := 0) (cs := kR_ x) (v := vi x.A) k_sc_3 rfl rfl (hS2.cf (i := 0) rfl) rfl) ?_
 refine sQ 10 (Y_fieldAddr (B := aD b) (i := 0) (s := 0) k_fd_63_2_2_3 k_sz_3_1 rfl rfl) ?_
 refine sQ 11 (Y_load1 (B := aD b) (i := 2) (cs := kR_ x) (v := vi x.C) k_sc_3 rfl rfl (hS2.cf (i := 0) rfl) rfl) ?_
 refine sQ 12 (Y_add (k := .i64) (a := x.A) (b := x.C) rfl rfl rfl) ?_
 refine sQ 13 (Y_fieldAddr (B := aD b) (i := 0) (s := 0) k_fd_63_1_1_3 k_sz_3_1 rfl rfl) ?_
 refine sQ 14 (Y_load1 (B := aD b) (i := 1) (cs := kR_ x) (v := vi x.B) k_sc_3 rfl rfl (hS2.cf (i := 0) rfl) rfl) ?_
 refine sQ 15 (Y_fieldAddr (B := aD b) (i := 0) (s := 0) k_fd_63_3_3_3 k_sz_3_1 rfl rfl) ?_
 refine sQ 16 (Y_load1 (B := aD b) (i := 3) (cs := kR_ x) (v := vi x.D) k_sc_3 rfl rfl (hS2.cf (i := 0) rfl) rfl) ?_
 refine sQ 17 (Y_add (k := .i64) (a := x.B) (b := x.D) rfl rfl rfl) ?_
 refine sQ 18 (Y_fieldAddr (B := aD b) (i := 0) (s := 0) k_fd_63_2_2_3 k_sz_3_1 rfl rfl) ?_
 refine sQ 19 (Y_load1 (B := aD b) (i := 2) (cs := kR_ x) (v := vi x.C) k_sc_3 rfl rfl (hS2.cf (i := 0) rfl) rfl) ?_
 refine sQ 20 (Y_fieldAddr (B := aD b) (i := 0) (s := 0) k_fd_63_0_0_3 k_sz_3_1 rfl rfl) ?_
 refine sQ 21 (Y_load1 (B := aD b) (i := 0) (cs := kR_ x) (v := vi x.A) k_sc_3 rfl rfl (hS2.cf (i := 0) rfl) rfl) ?_
 refine sQ 22 (Y_sub (k := .i64) (a := x.C) (b := x.A) rfl rfl rfl) ?_
 refine sQ 23 (Y_buildS (zs := [vi 0, vi 0, vi 0, vi 0]) (vs := [(0, vi (i64.wrap (x.B - x.D))), (1, vi (i64.wrap (x.A + x.C))), (2, vi (i64.wrap (x.B + x.D))), (3, vi (i64.wrap (x.C - x.A)))]) (cs := [vi (i64.wrap (x.B - x.D)), vi (i64.wrap (x.A + x.C)), vi (i64.wrap (x.B + x.D)), vi (i64.wrap (x.C - x.A))]) k_pl_63 k_zero_63 rfl (mpc rfl (mpc rfl (mpc rfl (mpc rfl mpn)))) rfl) ?_
 refine s0 (Ys_store (i := 1) (s := 4) (B := aD b1) (T' := 63) (v := .agg #[vi (i64.wrap (x.B - x.D)), vi (i64.wrap (x.A + x.C)), vi (i64.wrap (x.B + x.D)), vi (i64.wrap (x.C - x.A))]) (vs := [vi (i64.wrap (x.B - x.D)), vi (i64.wrap (x.A + x.C)), vi (i64.wrap (x.B + x.D)), vi (i64.wrap (x.C - x.A))]) (k := 0) (cs' := [vi (i64.wrap (x.B - x.D)), vi (i64.wrap (x.A + x.C)), vi (i64.wrap (x.B + x.D)), vi (i64.wrap (x.C - x.A))]) hS2 k_sz_63_4 rfl rfl rfl rfl rfl rfl rfl (lB rfl) rfl rfl) ?_
 rintro _ w_2 ⟨rfl, hS3⟩
 refine rw_nil (cw_ret ?_)
 obtain rfl := some_inj hF
 exact ret1 Tryz.results94 (v1 := .agg #[vi (i64.wrap (x.B - x.D)), vi (i64.wrap (x.A + x.C)), vi (i64.wrap (x.B + x.D)), vi (i64.wrap (x.C - x.A))]) (resAt_cellA (B := aD b1) (i := 0) (cs := [vi (i64.wrap (x.B - x.D)), vi (i64.wrap (x.A + x.C)), vi (i64.wrap (x.B + x.D)), vi (i64.wrap (x.C - x.A))]) (vs := [vi (i64.wrap (x.B - x.D)), vi (i64.wrap (x.A + x.C)), vi (i64.wrap (x.B + x.D)), vi (i64.wrap (x.C - x.A))]) rfl k_ag_63 k_sz_63_4 (hS3.cf (i := 1) rfl) rfl rfl) ⟨rfl, (hS3.sN [])⟩

theorem c_spec_l1Half (x : TRing)  (w0 : World)  (hS : ST w0 [] w0 [] []) {r_ : TRing} (hF : F_spec_l1Half x = some r_) :
  CV Tryz.prog 124 #[gR_ x] w0 (fun v w' => v = (gR_ r_) ∧ ST w0 [] w' [] []) := by
 unfold F_spec_l1Half at hF
 refine cv_of_cw 19 Tryz.func124 rfl Tryz.ntmps124 rfl ?_
 refine cw_seq (cw_region ?_)
 refine sS 1 (Ys_box (T := 63) (v := gR_ x) (cs := kR_ x) (m := 4) hS rfl rfl rfl rfl) ?_
 rintro _ w_ ⟨b, rfl, hS1⟩
 refine sS 2 (Ys_alloc (T := 63) (cs := [vi 0, vi 0, vi 0, vi 0]) (m := 4) hS1 k_zero_63 rfl rfl rfl) ?_
 rintro _ w_1 ⟨b1, rfl, hS2⟩
 refine rw_nil (cw_seq (cw_region ?_))
 refine sQ 4 (Y_loadA (B := aD b) (i := 0) (cs := kR_ x) (vs := kR_ x) k_ag_63 k_sz_63_4 rfl rfl (hS2.cf (i := 0) rfl) rfl rfl) ?_
 obtain ⟨r_1, hc, hF⟩ := bind_inv hF
 refine sc 5 rfl rfl (Yc_func (g := 94) (vs := [gR_ x]) k_call_94 rfl (mc rfl mn) (c_spec_l1Root x _  (hS2.inn0 [] rfl) hc)) ?_
 rintro _ w_2 ⟨rfl, hd⟩
 have hS3 := hS2.out00 hd
 refine sS 3 (Ys_alloc (T := 63) (cs := [vi 0, vi 0, vi 0, vi 0]) (m := 4) hS3 k_zero_63 rfl rfl rfl) ?_
 rintro _ w_3 ⟨b2, rfl, hS4⟩
 refine s0 (Ys_store (i := 2) (s := 4) (B := aD b2) (T' := 63) (v := gR_ r_1) (vs := kR_ r_1) (k := 0) (cs' := kR_ r_1) hS4 k_sz_63_4 rfl rfl rfl rfl rfl rfl rfl (lB rfl) rfl rfl) ?_
 rintro _ w_4 ⟨rfl, hS5⟩
 refine rw_nil (cw_seq (cw_region ?_))
 refine sQ 6 (Y_fieldAddr (B := aD b2) (i := 0) (s := 0) k_fd_63_0_0_3 k_sz_3_1 rfl rfl) ?_
 refine sQ 7 (Y_load1 (B := aD b2) (i := 0) (cs := kR_ r_1) (v := vi r_1.A) k_sc_3 rfl rfl (hS5.cf (i := 2) rfl) rfl) ?_
 refine sQ 8 (Y_quo (k := .i64) (a := r_1.A) (b := 2) rfl rfl rfl (by decide)) ?_
 refine sQ 9 (Y_fieldAddr (B := aD b2) (i := 0) (s := 0) k_fd_63_1_1_3 k_sz_3_1 rfl rfl) ?_
 refine sQ 10 (Y_load1 (B := aD b2) (i := 1) (cs := kR_ r_1) (v := vi r_1.B) k_sc_3 rfl rfl (hS5.cf (i := 2) rfl) rfl) ?_
 refine sQ 11 (Y_quo (k := .i64) (a := r_1.B) (b := 2) rfl rfl rfl (by decide)) ?_
 refine sQ 12 (Y_fieldAddr (B := aD b2) (i := 0) (s := 0) k_fd_63_2_2_3 k_sz_3_1 rfl rfl) ?_
 refine sQ 13 (Y_load1 (B := aD b2) (i := 2) (cs := kR_ r_1) (v := vi r_1.C) k_sc_3 rfl rfl (hS5.cf (i := 2) rfl) rfl) ?_
 refine sQ 14 (Y_quo (k := .i64) (a := r_1.C) (b := 2) rfl rfl rfl (by decide)) ?_
 refine sQ 15 (Y_fieldAddr (B := aD b2) (i := 0) (s := 0) k_fd_63_3_3_3 k_sz_3_1 rfl rfl) ?_
 refine sQ 16 (Y_load1 (B := aD b2) (i := 3) (cs := kR_ r_1) (v := vi r_1.D) k_sc_3 rfl rfl (hS5.cf (i := 2) rfl) rfl) ?_
 refine sQ 17 (Y_quo (k := .i64) (a := r_1.D) (b := 2) rfl rfl rfl (by decide)) ?_
 refine sQ 18 (Y_buildS (zs := [vi 0, vi 0, vi 0, vi 0]) (vs := [(0, vi (i64.wrap (Int.tdiv r_1.A 2))), (1, vi (i64.wrap (Int.tdiv r_1.B 2))), (2, vi (i64.wrap (Int.tdiv r_1.C 2))), (3, vi (i64.wrap (Int.tdiv r_1.D 2)))]) (cs := [vi (i64.wrap (Int.tdiv r_1.A 2)), vi (i64.wrap (Int.tdiv r_1.B 2)), vi (i64.wrap (Int.tdiv r_1.C 2)), vi (i64.wrap (Int.tdiv r_1.D 2))]) k_pl_63 k_zero_63 rfl (mpc rfl (mpc rfl (mpc rfl (mpc rfl mpn)))) rfl) ?_
 refine s0 (Ys_store (i := 1) (s := 4) (B := aD b1) (T' := 63) (v := .agg #[vi (i64.wrap (Int.tdiv r_1.A 2)), vi (i64.wrap (Int.tdiv r_1.B 2)), vi (i64.wrap (Int.tdiv r_1.C 2)), vi (i64.wrap (Int.tdiv r_1.D 2))]) (vs := [vi (i64.wrap (Int.tdiv r_1.A 2)), vi (i64.wrap (Int.tdiv r_1.B 2)), vi (i64.wrap (Int.tdiv r_1.C 2)), vi (i64.wrap (Int.tdiv r_1.D 2))]) (k := 0) (cs' := [vi (i64.wrap (Int.tdiv r_1.A 2)), vi (i64.wrap (Int.tdiv r_1.B 2)), vi (i64.wrap (Int.tdiv r_1.C 2)), vi (i64.wrap (Int.tdiv r_1.D 2))]) hS5 k_sz_63_4 rfl rfl rfl rfl rfl rfl rfl (lB rfl) rfl rfl) ?_
 rintro _ w_5 ⟨rfl, hS6⟩
 refine rw_nil (cw_ret ?_)
 obtain rfl := some_inj hF
 exact ret1 Tryz.results124 (v1 := .agg #[vi (i64.wrap (Int.tdiv r_1.A 2)), vi (i64.wrap (Int.tdiv r_1.B 2)), vi (i64.wrap (Int.tdiv r_1.C 2)), vi (i64.wrap (Int.tdiv r_1.D 2))]) (resAt_cellA (B := aD b1) (i := 0) (cs := [vi (i64.wrap (Int.tdiv r_1.A 2)), vi (i64.wrap (Int.tdiv r_1.B 2)), vi (i64.wrap (Int.tdiv r_1.C 2)), vi (i64.wrap (Int.tdiv r_1.D 2))]) (vs := [vi (i64.wrap (Int.tdiv r_1.A 2)), vi (i64.wrap (Int.tdiv r_1.B 2)), vi (i64.wrap (Int.tdiv r_1.C 2)), vi (i64.wrap (Int.tdiv r_1.D 2))]) rfl k_ag_63 k_sz_63_4 (hS6.cf (i := 1) rfl) rfl rfl) ⟨rfl, (hS6.sN [])⟩

theorem c_spec_l2Low (num : TRing) (exp : Int)  (w0 : World)  (hS : ST w0 [] w0 [] []) {r_ : TDyadic} (hF : F_spec_l2Low num exp = some r_) :
  CV Tryz.prog 91 #[gR_ num, vi exp] w0 (fun v w' => v = (gD_ r_) ∧ ST w0 [] w' [] []) := by
 unfold F_spec_l2Low at hF
 refine cv_of_cw 18 Tryz.func91 rfl Tryz.ntmps91 rfl ?_
 refine cw_seq (cw_region ?_)
 refine sS 2 (Ys_box (T := 63) (v := gR_ num) (cs := kR_ num) (m := 4) hS rfl rfl rfl rfl) ?_
 rintro _ w_ ⟨b, rfl, hS1⟩
 refine sS 4 (Ys_alloc (T := 65) (cs := kZ_) (m := 5) hS1 k_zero_65 rfl rfl rfl) ?_
 rintro _ w_1 ⟨b1, rfl, hS2⟩
 refine rw_nil (cw_seq ?_)
 obtain ⟨z, hz, hF1⟩ := bind_inv hF
 refine cw_block ?_
 refine cw_loop (fun k f w => ∃ (exp1 : Int) (A : Int) (B : Int) (C : Int) (D : Int), FF f [(1, vi exp1), (2, pt (aD b) 0), (4, pt (aD b1) 0)] ∧ ST w0 [] w [⟨aD b, 63, [vi A, vi B, vi C, vi D], 4⟩, ⟨aD b1, 65, kZ_, 5⟩] [] ∧ whX F_spec_l2Low_l1 k (exp1, A, B, C, D) = some z) fuel ⟨exp, num.A, num.B, num.C, num.D, (FF.cons rfl (FF.cons rfl (FF.cons rfl FF.nil))), (hS2.sel [0, 1] rfl rfl), hz⟩ ?_
 rintro k_ f w ⟨exp1, A, B, C, D, hf, hS3, hL⟩
 obtain ⟨k_1, y, rfl, hb, hL1⟩ := whX_go hL
 unfold F_spec_l2Low_l1 at hb
 refine cw_seq (cw_seq (cw_region ?_))
 refine sQ 5 (Y_move (v := vi exp1) rfl (hf.get 1 0 rfl)) ?_
 refine sQ 6 (Y_gt (k := .i64) (a := exp1) (b := 0) rfl rfl rfl) ?_
 refine sQ 7 (Y_move (v := .bool (decide (0 < exp1))) rfl rfl) ?_
 refine sgq 8 (B := (decide (0 < exp1))) (v := .agg #[vi A, vi B, vi C, vi D]) rfl rfl (uT_ 7) (fun hg => (Y_loadA (B := aD b) (i := 0) (cs := [vi A, vi B, vi C, vi D]) (vs := [vi A, vi B, vi C, vi D]) k_ag_63 k_sz_63_4 rfl (hf.get 2 1 rfl) (hS3.cf (i := 0) rfl) rfl rfl)) ?_
 obtain ⟨r_1, hc, hb⟩ := bind_inv hb
 refine sgc 9 (B := (decide (0 < exp1))) (v := .bool r_1) (F := hS3.fn) rfl rfl (uT_ 7) hS3 (fun hg1 => (Yc_func (g := 90) (vs := [.agg #[vi A, vi B, vi C, vi D]]) k_call_90 rfl (mc (gv_of (v := .agg #[vi A, vi B, vi C, vi D]) hg1) mn) (CV.mono (c_spec_l1Even (TRing.mk A B C D) _  (hS3.inn0 [] rfl) (gb_inv hc hg1)) (by rintro _ _ ⟨rfl, h⟩; exact ⟨rfl, hS3.out00 h⟩)))) ?_
 rintro w_2 hS4
 refine sQ 10 (Y_and (b := (decide (0 < exp1))) (z := r_1) rfl rfl rfl rfl) (rw_nil ?_)
 refine cw_cond (b := ((decide (0 < exp1)) && r_1)) rfl (fun hb1 => ?_) (fun hb1 => ?_)
 ·skip
  have hF2 := ct hb hb1
  refine cw_skip (cw_block (cw_seq (cw_region ?_)))
  refine sQ 11 (Y_loadA (B := aD b) (i := 0) (cs := [vi A, vi B, vi C, vi D]) (vs := [vi A, vi B, vi C, vi D]) k_ag_63 k_sz_63_4 rfl (hf.get 2 1 rfl) (hS4.cf (i := 0) rfl) rfl rfl) ?_
  obtain ⟨r_2, hc1, hF2⟩ := bind_inv hF2
  refine sc 12 rfl rfl (Yc_func (g := 124) (vs := [.agg #[vi A, vi B, vi C, vi D]]) k_call_124 rfl (mc rfl mn) (c_spec_l1Half (TRing.mk A B C D) _  (hS4.inn0 [] rfl) hc1)) ?_
  rintro _ w_3 ⟨rfl, hd⟩
  have hS5 := hS4.out00 hd
  refine s0 (Ys_store (i := 0) (s := 4) (B := aD b) (T' := 63) (v := gR_ r_2) (vs := kR_ r_2) (k := 0) (cs' := kR_ r_2) hS5 k_sz_63_4 rfl (hf.get 2 1 rfl) rfl rfl rfl rfl rfl (lB rfl) rfl rfl) ?_
  rintro _ w_4 ⟨rfl, hS6⟩
  refine rw_nil (cw_region ?_)
  refine sQ 13 (Y_move (v := vi exp1) rfl (hf.get 1 0 rfl)) ?_
  refine sQ 14 (Y_sub (k := .i64) (a := exp1) (b := 1) rfl rfl rfl) ?_
  refine sQ 1 (Y_assign (v := vi (i64.wrap (exp1 - 1))) rfl rfl) (rw_nil ?_)
  obtain rfl := some_inj hF2
  exact ⟨k_1, Nat.lt_succ_self _, (i64.wrap (exp1 - 1)), r_2.A, r_2.B, r_2.C, r_2.D, (FF.cons rfl (FF.cons (hf.get 2 1 rfl) (FF.cons (hf.get 4 2 rfl) FF.nil))), (hS6.sel [0, 1] rfl rfl), hL1⟩
 ·skip
  have hF3 := cf' hb hb1
  refine cw_exit rfl ?_
  obtain rfl := some_inj hF3
  obtain rfl := some_inj hL1
  refine cw_seq (cw_region ?_)
  refine sQ 15 (Y_loadA (B := aD b) (i := 0) (cs := [vi A, vi B, vi C, vi D]) (vs := [vi A, vi B, vi C, vi D]) k_ag_63 k_sz_63_4 rfl (hf.get 2 1 rfl) (hS4.cf (i := 0) rfl) rfl rfl) ?_
  refine sQ 16 (Y_move (v := vi exp1) rfl (hf.get 1 0 rfl)) ?_
  refine sQ 17 (Y_buildS (zs := kZ_) (vs := [(0, .agg #[vi A, vi B, vi C, vi D]), (1, vi exp1)]) (cs := [vi A, vi B, vi C, vi D, vi exp1]) k_pl_65 k_zero_65 rfl (mpc rfl (mpc rfl mpn)) rfl) ?_
  refine s0 (Ys_store (i := 1) (s := 5) (B := aD b1) (T' := 65) (v := .agg #[vi A, vi B, vi C, vi D, vi exp1]) (vs := [vi A, vi B, vi C, vi D, vi exp1]) (k := 0) (cs' := [vi A, vi B, vi C, vi D, vi exp1]) hS4 k_sz_65_5 rfl (hf.get 4 2 rfl) rfl rfl rfl rfl rfl (lB rfl) rfl rfl) ?_
  rintro _ w_5 ⟨rfl, hS7⟩
  refine rw_nil (cw_ret ?_)
  obtain rfl := some_inj hF1
  exact ret1 Tryz.results91 (v1 := .agg #[vi A, vi B, vi C, vi D, vi exp1]) (resAt_cellA (B := aD b1) (i := 0) (cs := [vi A, vi B, vi C, vi D, vi exp1]) (vs := [vi A, vi B, vi C, vi D, vi exp1]) (hf.get 4 2 rfl) k_ag_65 k_sz_65_5 (hS7.cf (i := 1) rfl) rfl rfl) ⟨rfl, (hS7.sN [])⟩

theorem c_spec_l1All (l : List Int) (lo : Int) (hi : Int) (B : Option Addr) (c n : Nat) (w0 : World) (hn : l.length = n) (hS : ST w0 [] w0 [] [⟨B, (l.flatMap encI)⟩]) {r_ : Bool} (hF : F_spec_l1All l lo hi = some r_) :
  CV Tryz.prog 123 #[.slice B n c, vi lo, vi hi] w0 (fun v w' => v = .bool r_ ∧ ST w0 [] w' [] []) := by
 subst hn
 unfold F_spec_l1All at hF
 refine cv_of_cw 21 Tryz.func123 rfl Tryz.ntmps123 rfl ?_
 refine cw_seq (cw_region ?_)
 refine sQ 6 (Y_assign (v := .bool false) rfl rfl) (rw_nil (cw_seq (cw_seq (cw_region ?_))))
 refine sQ 9 (Y_move (v := .slice B l.length c) rfl rfl) ?_
 refine sQ 10 (Y_len (B := B) (m := l.length) (c := c) k_sl_150_3 rfl rfl) ?_
 refine sQ 11 (Y_move (v := vi 0) rfl rfl) (rw_nil ?_)
 obtain ⟨hN, hF⟩ := chk_inv hF
 obtain ⟨z, hz, hF1⟩ := bind_inv hF
 refine cw_block ?_
 refine cw_loop (fun k f w => ∃ (i : Nat), FF f [(1, vi lo), (2, vi hi), (9, .slice B l.length c), (10, vi (l.length : Int)), (11, vi (i : Int))] ∧ ST w0 [] w [] [⟨B, (l.flatMap encI)⟩] ∧ i + k = l.length ∧ forX (F_spec_l1All_l1 l lo hi) k i () = some z) l.length ⟨0, (FF.cons rfl (FF.cons rfl (FF.cons rfl (FF.cons rfl (FF.cons rfl FF.nil))))), (hS.sel [] rfl rfl), Nat.zero_add _, hz⟩ ?_
 rintro k_ f w ⟨i, hf, hS1, hik, hL⟩
 refine cw_seq (cw_region ?_)
 refine sQ 12 (Y_lt (k := .i64) (a := (i : Int)) (b := (l.length : Int)) rfl (hf.get 11 4 rfl) (hf.get 10 3 rfl)) (rw_nil (cw_seq ?_))
 refine cw_cond (b := (decide ((i : Int) < (l.length : Int)))) rfl (fun hlt => ?_) (fun hlt => ?_)
 ·skip
  have hlt1 : i < l.length := by have h := of_decide_eq_true hlt; omega
  obtain ⟨k_1, rfl⟩ : ∃ k2, k_ = k2 + 1 := ⟨k_ - 1, by omega⟩
  obtain ⟨y, hb, hL1⟩ := forX_go hL
  unfold F_spec_l1All_l1 at hb
  refine cw_skip (cw_seq (cw_block (cw_seq (cw_region ?_))))
  obtain ⟨x, hx, hb⟩ := bind_inv hb
  refine sQ 13 (Y_index (B := B) (m := l.length) (c := c) (k := .i64) (i := (i : Int)) k_sl_150_3 k_sz_3_1 rfl (hf.get 9 2 rfl) (hf.get 11 4 rfl) (gi_isSome encI_len rfl (hS1.rf (i := 0) rfl) hx) (getI_nn hx) (getI_ltI hx rfl)) ?_
  refine sQ 14 (Y_load1 (B := B) (i := (i : Int).toNat * 1) (cs := (l.flatMap encI)) (v := vi x) k_sc_3 rfl rfl (hS1.rf (i := 0) rfl) (gi_at0 encI_len hx rfl)) ?_
  refine sQ 8 (Y_assign (v := vi x) rfl rfl) (rw_nil (cw_seq (cw_region ?_)))
  refine sQ 15 (Y_move (v := vi x) rfl rfl) ?_
  refine sQ 16 (Y_move (v := vi lo) rfl (hf.get 1 0 rfl)) ?_
  refine sQ 17 (Y_move (v := vi hi) rfl (hf.get 2 1 rfl)) ?_
  obtain ⟨r_1, hc, hb⟩ := bind_inv hb
  refine sc 18 rfl rfl (Yc_func (g := 71) (vs := [vi x, vi lo, vi hi]) k_call_71 rfl (mc rfl (mc rfl (mc rfl mn))) (c_spec_l1In x lo hi _  (hS1.inn0 [] rfl) hc)) ?_
  rintro _ w_ ⟨rfl, hd⟩
  have hS2 := hS1.out00 hd
  refine sQ 19 (Y_not (p := r_1) rfl rfl) (rw_nil ?_)
  refine cw_cond (b := (!r_1)) rfl (fun hb1 => ?_) (fun hb1 => ?_)
  ·skip
   have hF2 := ct hb hb1
   refine cw_seq (cw_region ?_)
   refine sQ 6 (Y_assign (v := .bool false) rfl rfl) (rw_nil (cw_ret ?_))
   obtain rfl := some_inj hF2
   obtain rfl := some_inj hL1
   obtain rfl := some_inj hF1
   exact ret1 Tryz.results123 (v1 := .bool false) (resAt_tmp rfl) ⟨rfl, (hS2.sN [])⟩
  ·skip
   have hF3 := cf' hb hb1
   refine cw_skip (cw_region ?_)
   refine sQ 20 (Y_add (k := .i64) (a := (i : Int)) (b := 1) rfl (hf.get 11 4 rfl) rfl) ?_
   refine sQ 11 (Y_move (v := vi (i64.wrap ((i : Int) + 1))) rfl rfl) (rw_nil ?_)
   obtain rfl := some_inj hF3
   exact ⟨k_1, Nat.lt_succ_self _, i + 1, (FF.cons (hf.get 1 0 rfl) (FF.cons (hf.get 2 1 rfl) (FF.cons (hf.get 9 2 rfl) (FF.cons (hf.get 10 3 rfl) (FF.cons (congrArg (Value.int .i64) (wr_succ hlt1 hN)) FF.nil))))), (hS2.sel [] rfl rfl), (by omega), hL1⟩
 ·skip
  obtain rfl : k_ = 0 := by have h := of_decide_eq_false hlt; omega
  refine cw_exit rfl ?_
  obtain rfl := some_inj hL
  refine cw_seq (cw_region ?_)
  refine sQ 6 (Y_assign (v := .bool true) rfl rfl) (rw_nil (cw_ret ?_))
  obtain rfl := some_inj hF1
  exact ret1 Tryz.results123 (v1 := .bool true) (resAt_tmp rfl) ⟨rfl, (hS1.sN [])⟩

theorem c_spec_l1Good (x : TRing)  (w0 : World)  (hS : ST w0 [] w0 [] []) {r_ : Bool} (hF : F_spec_l1Good x = some r_) :
  CV Tryz.prog 89 #[gR_ x] w0 (fun v w' => v = .bool r_ ∧ ST w0 [] w' [] []) := by
 unfold F_spec_l1Good at hF
 refine cv_of_cw 13 Tryz.func89 rfl Tryz.ntmps89 rfl ?_
 refine cw_seq (cw_region ?_)
 refine sS 1 (Ys_box (T := 63) (v := gR_ x) (cs := kR_ x) (m := 4) hS rfl rfl rfl rfl) ?_
 rintro _ w_ ⟨b, rfl, hS1⟩
 refine sQ 2 (Y_assign (v := .bool false) rfl rfl) (rw_nil (cw_seq (cw_region ?_)))
 refine sQ 3 (Y_fieldAddr (B := aD b) (i := 0) (s := 0) k_fd_63_0_0_3 k_sz_3_1 rfl rfl) ?_
 refine sQ 4 (Y_load1 (B := aD b) (i := 0) (cs := kR_ x) (v := vi x.A) k_sc_3 rfl rfl (hS1.cf (i := 0) rfl) rfl) ?_
 refine sQ 5 (Y_fieldAddr (B := aD b) (i := 0) (s := 0) k_fd_63_1_1_3 k_sz_3_1 rfl rfl) ?_
 refine sQ 6 (Y_load1 (B := aD b) (i := 1) (cs := kR_ x) (v := vi x.B) k_sc_3 rfl rfl (hS1.cf (i := 0) rfl) rfl) ?_
 refine sQ 7 (Y_fieldAddr (B := aD b) (i := 0) (s := 0) k_fd_63_2_2_3 k_sz_3_1 rfl rfl) ?_
 refine sQ 8 (Y_load1 (B := aD b) (i := 2) (cs := kR_ x) (v := vi x.C) k_sc_3 rfl rfl (hS1.cf (i := 0) rfl) rfl) ?_
 refine sQ 9 (Y_fieldAddr (B := aD b) (i := 0) (s := 0) k_fd_63_3_3_3 k_sz_3_1 rfl rfl) ?_
 refine sQ 10 (Y_load1 (B := aD b) (i := 3) (cs := kR_ x) (v := vi x.D) k_sc_3 rfl rfl (hS1.cf (i := 0) rfl) rfl) ?_
 refine sS 11 (Ys_bslice (s := 1) (len := 4) (vs := [(0, vi x.A), (1, vi x.B), (2, vi x.C), (3, vi x.D)]) (cs := kR_ x) (zs := [vi 0, vi 0, vi 0, vi 0]) (m := 4) hS1 k_sl_150_3 k_sz_3_1 k_zc_3 rfl (mpc rfl (mpc rfl (mpc rfl (mpc rfl mpn)))) rfl rfl rfl (by kernel_rfl) (by kernel_rfl) rfl) ?_
 rintro _ w_1 ⟨b1, rfl, hS2⟩
 obtain ⟨r_1, hc, hF⟩ := bind_inv hF
 refine sc 12 rfl rfl (Yc_func (g := 123) (vs := [.slice (aD b1) 4 4, vi (-1000000000), vi 1000000000]) k_call_123 rfl (mc rfl (mc rfl (mc rfl mn))) (c_spec_l1All [x.A, x.B, x.C, x.D] (-1000000000) 1000000000 (aD b1) 4 4 _ rfl (hS2.inn0 [(false, 1)] rfl) hc)) ?_
 rintro _ w_2 ⟨rfl, hd⟩
 have hS3 := hS2.out00 hd
 refine sQ 2 (Y_assign (v := .bool r_1) rfl rfl) (rw_nil (cw_ret ?_))
 obtain rfl := some_inj hF
 exact ret1 Tryz.results89 (v1 := .bool r_1) (resAt_tmp rfl) ⟨rfl, (hS3.sN [])⟩

theorem c_spec_l2C_ring (c : Tl2C) (x : TRing) (B : Option Addr) (w0 : World)  (hS : ST w0 (bl [⟨B, 82, [.bool c.bad], 1⟩]) w0 [⟨B, 82, [.bool c.bad], 1⟩] []) {r_ : TRing} {m : Tl2C} (hF : F_spec_l2C_ring c x = some (r_, m)) :
  CV Tryz.prog 92 #[pt B 0, gR_ x] w0 (fun v w' => v = (gR_ r_) ∧ ST w0 (bl [⟨B, 82, [.bool c.bad], 1⟩]) w' [⟨B, 82, [.bool m.bad], 1⟩] []) := by
 unfold F_spec_l2C_ring at hF
 refine cv_of_cw 13 Tryz.func92 rfl Tryz.ntmps92 rfl ?_
 refine cw_seq (cw_region ?_)
 refine sS 3 (Ys_box (T := 63) (v := gR_ x) (cs := kR_ x) (m := 4) hS rfl rfl rfl rfl) ?_
 rintro _ w_ ⟨b, rfl, hS1⟩
 refine sS 4 (Ys_alloc (T := 63) (cs := [vi 0, vi 0, vi 0, vi 0]) (m := 4) hS1 k_zero_63 rfl rfl rfl) ?_
 rintro _ w_1 ⟨b1, rfl, hS2⟩
 refine rw_nil (cw_seq (cw_seq (cw_region ?_)))
 refine sQ 5 (Y_loadA (B := aD b) (i := 0) (cs := kR_ x) (vs := kR_ x) k_ag_63 k_sz_63_4 rfl rfl (hS2.cf (i := 1) rfl) rfl rfl) ?_
 obtain ⟨r_1, hc, hF⟩ := bind_inv hF
 refine sc 6 rfl rfl (Yc_func (g := 89) (vs := [gR_ x]) k_call_89 rfl (mc rfl mn) (c_spec_l1Good x _  (hS2.inn0 [] rfl) hc)) ?_
 rintro _ w_2 ⟨rfl, hd⟩
 have hS3 := hS2.out00 hd
 refine sQ 7 (Y_not (p := r_1) rfl rfl) (rw_nil ?_)
 refine cw_cond (b := (!r_1)) rfl (fun hb => ?_) (fun hb => ?_)
 ·skip
  have hF1 := ct hF hb
  refine cw_seq (cw_region ?_)
  refine sQ 8 (Y_move (v := pt B 0) rfl rfl) ?_
  refine sQ 9 (Y_nilCheck (B := B) (i := 0) rfl rfl) ?_
  refine sQ 10 (Y_fieldAddr (B := B) (i := 0) (s := 0) k_fd_82_0_0_4 k_sz_4_1 rfl rfl) ?_
  refine s0 (Ys_store (i := 0) (s := 1) (B := B) (T' := 82) (v := .bool true) (vs := [.bool true]) (k := 0) (cs' := [.bool true]) hS3 k_sz_4_1 rfl rfl rfl rfl rfl rfl rfl (lB rfl) rfl rfl) ?_
  rintro _ w_3 ⟨rfl, hS4⟩
  refine rw_nil (cw_seq (cw_region ?_))
  refine sQ 11 (Y_buildS (zs := [vi 0, vi 0, vi 0, vi 0]) (vs := []) (cs := [vi 0, vi 0, vi 0, vi 0]) k_pl_63 k_zero_63 rfl mpn rfl) ?_
  refine s0 (Ys_store (i := 2) (s := 4) (B := aD b1) (T' := 63) (v := .agg #[vi 0, vi 0, vi 0, vi 0]) (vs := [vi 0, vi 0, vi 0, vi 0]) (k := 0) (cs' := [vi 0, vi 0, vi 0, vi 0]) hS4 k_sz_63_4 rfl rfl rfl rfl rfl rfl rfl (lB rfl) rfl rfl) ?_
  rintro _ w_4 ⟨rfl, hS5⟩
  refine rw_nil (cw_ret ?_)
  obtain ⟨rfl, rfl⟩ := pr2 (some_inj hF1)
  exact ret1 Tryz.results92 (v1 := .agg #[vi 0, vi 0, vi 0, vi 0]) (resAt_cellA (B := aD b1) (i := 0) (cs := [vi 0, vi 0, vi 0, vi 0]) (vs := [vi 0, vi 0, vi 0, vi 0]) rfl k_ag_63 k_sz_63_4 (hS5.cf (i := 2) rfl) rfl rfl) ⟨rfl, (hS5.sN [0])⟩
 ·skip
  have hF2 := cf' hF hb
  refine cw_skip (cw_seq (cw_region ?_))
  refine sQ 12 (Y_loadA (B := aD b) (i := 0) (cs := kR_ x) (vs := kR_ x) k_ag_63 k_sz_63_4 rfl rfl (hS3.cf (i := 1) rfl) rfl rfl) ?_
  refine s0 (Ys_store (i := 2) (s := 4) (B := aD b1) (T' := 63) (v := gR_ x) (vs := kR_ x) (k := 0) (cs' := kR_ x) hS3 k_sz_63_4 rfl rfl rfl rfl rfl rfl rfl (lB rfl) rfl rfl) ?_
  rintro _ w_5 ⟨rfl, hS6⟩
  refine rw_nil (cw_ret ?_)
  obtain ⟨rfl, rfl⟩ := pr2 (some_inj hF2)
  exact ret1 Tryz.results92 (v1 := gR_ x) (resAt_cellA (B := aD b1) (i := 0) (cs := kR_ x) (vs := kR_ x) rfl k_ag_63 k_sz_63_4 (hS6.cf (i := 2) rfl) rfl rfl) ⟨rfl, (hS6.sN [0])⟩

theorem c_spec_l1Mul (x : TRing) (y : TRing)  (w0 : World)  (hS : ST w0 [] w0 [] []) {r_ : TRing} (hF : F_spec_l1Mul x y = some r_) :
  CV Tryz.prog 93 #[gR_ x, gR_ y] w0 (fun v w' => v = (gR_ r_) ∧ ST w0 [] w' [] []) := by
 unfold F_spec_l1Mul at hF
 refine cv_of_cw 98 Tryz.func93 rfl Tryz.ntmps93 rfl ?_
 refine cw_seq (cw_region ?_)
 refine sS 2 (Ys_box (T := 63) (v := gR_ x) (cs := kR_ x) (m := 4) hS rfl rfl rfl rfl) ?_
 rintro _ w_ ⟨b, rfl, hS1⟩
 refine sS 3 (Ys_box (T := 63) (v := gR_ y) (cs := kR_ y) (m := 4) hS1 rfl rfl rfl rfl) ?_
 rintro _ w_1 ⟨b1, rfl, hS2⟩
 refine sS 4 (Ys_alloc (T := 63) (cs := [vi 0, vi 0, vi 0, vi 0]) (m := 4) hS2 k_zero_63 rfl rfl rfl) ?_
 rintro _ w_2 ⟨b2, rfl, hS3⟩
 refine rw_nil (cw_seq (cw_region ?_))
 refine sQ 5 (Y_fieldAddr (B := aD b) (i := 0) (s := 0) k_fd_63_0_0_3 k_sz_3_1 rfl rfl) ?_
 refine sQ 6 (Y_load1 (B := aD b) (i := 0) (cs := kR_ x) (v := vi x.A) k_sc_3 rfl rfl (hS3.cf (i := 0) rfl) rfl) ?_
 refine sQ 7 (Y_fieldAddr (B := aD b1) (i := 0) (s := 0) k_fd_63_0_0_3 k_sz_3_1 rfl rfl) ?_
 refine sQ 8 (Y_load1 (B := aD b1) (i := 0) (cs := kR_ y) (v := vi y.A) k_sc_3 rfl rfl (hS3.cf (i := 1) rfl) rfl) ?_
 refine sQ 9 (Y_mul (k := .i64) (a := x.A) (b := y.A) rfl rfl rfl) ?_
 refine sQ 10 (Y_fieldAddr (B := aD b) (i := 0) (s := 0) k_fd_63_1_1_3 k_sz_3_1 rfl rfl) ?_
 refine sQ 11 (Y_load1 (B := aD b) (i := 1) (cs := kR_ x) (v := vi x.B) k_sc_3 rfl rfl (hS3.cf (i := 0) rfl) rfl) ?_
 refine sQ 12 (Y_fieldAddr (B := aD b1) (i := 0) (s := 0) k_fd_63_3_3_3 k_sz_3_1 rfl rfl) ?_
 refine sQ 13 (Y_load1 (B := aD b1) (i := 3) (cs := kR_ y) (v := vi y.D) k_sc_3 rfl rfl (hS3.cf (i := 1) rfl) rfl) ?_
 refine sQ 14 (Y_mul (k := .i64) (a := x.B) (b := y.D) rfl rfl rfl) ?_
 refine sQ 15 (Y_sub (k := .i64) (a := (i64.wrap (x.A * y.A))) (b := (i64.wrap (x.B * y.D))) rfl rfl rfl) ?_
 refine sQ 16 (Y_fieldAddr (B := aD b) (i := 0) (s := 0) k_fd_63_2_2_3 k_sz_3_1 rfl rfl) ?_
 refine sQ 17 (Y_load1 (B := aD b) (i := 2) (cs := kR_ x) (v := vi x.C) k_sc_3 rfl rfl (hS3.cf (i := 0) rfl) rfl) ?_
 refine sQ 18 (Y_fieldAddr (B := aD b1) (i := 0) (s := 0) k_fd_63_2_2_3 k_sz_3_1 rfl rfl) ?_
 refine sQ 19 (Y_load1 (B := aD b1) (i := 2) (cs := kR_ y) (v := vi y.C) k_sc_3 rfl rfl (hS3.cf (i := 1) rfl) rfl) ?_
 refine sQ 20 (Y_mul (k := .i64) (a := x.C) (b := y.C) rfl rfl rfl) ?_
 refine sQ 21 (Y_sub (k := .i64) (a := (i64.wrap ((i64.wrap (x.A * y.A)) - (i64.wrap (x.B * y.D))))) (b := (i64.wrap (x.C * y.C))) rfl rfl rfl) ?_
 refine sQ 22 (Y_fieldAddr (B := aD b) (i := 0) (s := 0) k_fd_63_3_3_3 k_sz_3_1 rfl rfl) ?_
 refine sQ 23 (Y_load1 (B := aD b) (i := 3) (cs := kR_ x) (v := vi x.D) k_sc_3 rfl rfl (hS3.cf (i := 0) rfl) rfl) ?_
 refine sQ 24 (Y_fieldAddr (B := aD b1) (i := 0) (s := 0) k_fd_63_1_1_3 k_sz_3_1 rfl rfl) ?_
 refine sQ 25 (Y_load1 (B := aD b1) (i := 1) (cs := kR_ y) (v := vi y.B) k_sc_3 rfl rfl (hS3.cf (i := 1) rfl) rfl) ?_
 refine sQ 26 (Y_mul (k := .i64) (a := x.D) (b := y.B) rfl rfl rfl) ?_
 refine sQ 27 (Y_sub (k := .i64) (a := (i64.wrap ((i64.wrap ((i64.wrap (x.A * y.A)) - (i64.wrap (x.B * y.D)))) - (i64.wrap (x.C * y.C))))) (b := (i64.wrap (x.D * y.B))) rfl rfl rfl) ?_
 refine sQ 28 (Y_fieldAddr (B := aD b) (i := 0) (s := 0) k_fd_63_0_0_3 k_sz_3_1 rfl rfl) ?_
 refine sQ 29 (Y_load1 (B := aD b) (i := 0) (cs := kR_ x) (v := vi x.A) k_sc_3 rfl rfl (hS3.cf (i := 0) rfl) rfl) ?_
 refine sQ 30 (Y_fieldAddr (B := aD b1) (i := 0) (s := 0) k_fd_63_1_1_3 k_sz_3_1 rfl rfl) ?_
 refine sQ 31 (Y_load1 (B := aD b1) (i := 1) (cs := kR_ y) (v := vi y.B) k_sc_3 rfl rfl (hS3.cf (i := 1) rfl) rfl) ?_
 refine sQ 32 (Y_mul (k := .i64) (a := x.A) (b := y.B) rfl rfl rfl) ?_
 refine sQ 33 (Y_fieldAddr (B := aD b) (i := 0) (s := 0) k_fd_63_1_1_3 k_sz_3_1 rfl rfl) ?_
 refine sQ 34 (Y_load1 (B := aD b) (i := 1) (cs := kR_ x) (v := vi x.B) k_sc_3 rfl rfl (hS3.cf (i := 0) rfl) rfl) ?_
 refine sQ 35 (Y_fieldAddr (B := aD b1) (i := 0) (s := 0) k_fd_63_0_0_3 k_sz_3_1 rfl rfl) ?_
 refine sQ 36 (Y_load1 (B := aD b1) (i := 0) (cs := kR_ y) (v := vi y.A) k_sc_3 rfl rfl (hS3.cf (i := 1) rfl) rfl) ?_
 refine sQ 37 (Y_mul (k := .i64) (a := x.B) (b := y.A) rfl rfl rfl) ?_
 refine sQ 38 (Y_add (k := .i64) (a := (i64.wrap (x.A * y.B))) (b := (i64.wrap (x.B * y.A))) rfl rfl rfl) ?_
 refine sQ 39 (Y_fieldAddr (B := aD b) (i := 0) (s := 0) k_fd_63_2_2_3 k_sz_3_1 rfl rfl) ?_
 refine sQ 40 (Y_load1 (B := aD b) (i := 2) (cs := kR_ x) (v := vi x.C) k_sc_3 rfl rfl (hS3.cf (i := 0) rfl) rfl) ?_
 refine sQ 41 (Y_fieldAddr (B := aD b1) (i := 0) (s := 0) k_fd_63_3_3_3 k_sz_3_1 rfl rfl) ?_
 refine sQ 42 (Y_load1 (B := aD b1) (i := 3) (cs := kR_ y) (v := vi y.D) k_sc_3 rfl rfl (hS3.cf (i := 1) rfl) rfl) ?_
 refine sQ 43 (Y_mul (k := .i64) (a := x.C) (b := y.D) rfl rfl rfl) ?_
 refine sQ 44 (Y_sub (k := .i64) (a := (i64.wrap ((i64.wrap (x.A * y.B)) + (i64.wrap (x.B * y.A))))) (b := (i64.wrap (x.C * y.D))) rfl rfl rfl) ?_
 refine sQ 45 (Y_fieldAddr (B := aD b) (i := 0) (s := 0) k_fd_63_3_3_3 k_sz_3_1 rfl rfl) ?_
 refine sQ 46 (Y_load1 (B := aD b) (i := 3) (cs := kR_ x) (v := vi x.D) k_sc_3 rfl rfl (hS3.cf (i := 0) rfl) rfl) ?_
 refine sQ 47 (Y_fieldAddr (B := aD b1) (i := 0) (s := 0) k_fd_63_2_2_3 k_sz_3_1 rfl rfl) ?_
 refine sQ 48 (Y_load1 (B := aD b1) (i := 2) (cs := kR_ y) (v := vi y.C) k_sc_3 rfl rfl (hS3.cf (i := 1) rfl) rfl) ?_
 refine sQ 49 (Y_mul (k := .i64) (a := x.D) (b := y.C) rfl rfl rfl) ?_
 refine sQ 50 (Y_sub (k := .i64) (a := (i64.wrap ((i64.wrap ((i64.wrap (x.A * y.B)) + (i64.wrap (x.B * y.A)))) - (i64.wrap (x.C * y.D))))) (b := (i64.wrap (x.D * y.C))) rfl rfl rfl) ?_
 refine sQ 51 (Y_fieldAddr (B := aD b) (i := 0) (s := 0) k_fd_63_0_0_3 k_sz_3_1 rfl rfl) ?_
 refine sQ 52 (Y_load1 (B := aD b) (i := 0) (cs := kR_ x) (v := vi x.A) k_sc_3 rfl rfl (hS3.cf (i := 0) rfl) rfl) ?_
 refine sQ 53 (Y_fieldAddr (B := aD b1) (i := 0) (s := 0) k_fd_63_2_2_3 k_sz_3_1 rfl rfl) ?_
 refine sQ 54 (Y_load1 (B := aD b1) (i := 2) (cs := kR_ y) (v := vi y.C) k_sc_3 rfl rfl (hS3.cf (i := 1) rfl) rfl) ?_
 refine sQ 55 (Y_mul (k := .i64) (a := x.A) (b := y.C) rfl rfl rfl) ?_
 refine sQ 56 (Y_fieldAddr (B := aD b) (i := 0) (s := 0) k_fd_63_1_1_3 k_sz_3_1 rfl rfl) ?_
 refine sQ 57 (Y_load1 (B := aD b) (i := 1) (cs := kR_ x) (v := vi x.B) k_sc_3 rfl rfl (hS3.cf (i := 0) rfl) rfl) ?_
 refine sQ 58 (Y_fieldAddr (B := aD b1) (i := 0) (s := 0) k_fd_63_1_1_3 k_sz_3_1 rfl rfl) ?_
 refine sQ 59 (Y_load1 (B := aD b1) (i := 1) (cs := kR_ y) (v := vi y.B) k_sc_3 rfl rfl (hS3.cf (i := 1) rfl) rfl) ?_
 refine sQ 60 (Y_mul (k := .i64) (a := x.B) (b := y.B) rfl rfl rfl) ?_
 refine sQ 61 (Y_add (k := .i64) (a := (i64.wrap (x.A * y.C))) (b := (i64.wrap (x.B * y.B))) rfl rfl rfl) ?_
 refine sQ 62 (Y_fieldAddr (B := aD b) (i := 0) (s := 0) k_fd_63_2_2_3 k_sz_3_1 rfl rfl) ?_
 refine sQ 63 (Y_load1 (B := aD b) (i := 2) (cs := kR_ x) (v := vi x.C) k_sc_3 rfl rfl (hS3.cf (i := 0) rfl) rfl) ?_
 refine sQ 64 (Y_fieldAddr (B := aD b1) (i := 0) (s := 0) k_fd_63_0_0_3 k_sz_3_1 rfl rfl) ?_
 refine sQ 65 (Y_load1 (B := aD b1) (i := 0) (cs := kR_ y) (v := vi y.A) k_sc_3 rfl rfl (hS3.cf (i := 1) rfl) rfl) ?_
 refine sQ 66 (Y_mul (k := .i64) (a := x.C) (b := y.A) rfl rfl rfl) ?_
 refine sQ 67 (Y_add (k := .i64) (a := (i64.wrap ((i64.wrap (x.A * y.C)) + (i64.wrap (x.B * y.B))))) (b := (i64.wrap (x.C * y.A))) rfl rfl rfl) ?_
 refine sQ 68 (Y_fieldAddr (B := aD b) (i := 0) (s := 0) k_fd_63_3_3_3 k_sz_3_1 rfl rfl) ?_
 refine sQ 69 (Y_load1 (B := aD b) (i := 3) (cs := kR_ x) (v := vi x.D) k_sc_3 rfl rfl (hS3.cf (i := 0) rfl) rfl) ?_
 refine sQ 70 (Y_fieldAddr (B := aD b1) (i := 0) (s := 0) k_fd_63_3_3_3 k_sz_3_1 rfl rfl) ?_
 refine sQ 71 (Y_load1 (B := aD b1) (i := 3) (cs := kR_ y) (v := vi y.D) k_sc_3 rfl rfl (hS3.cf (i := 1) rfl) rfl) ?_
 refine sQ 72 (Y_mul (k := .i64) (a := x.D) (b := y.D) rfl rfl rfl) ?_
 refine sQ 73 (Y_sub (k := .i64) (a := (i64.wrap ((i64.wrap ((i64.wrap (x.A * y.C)) + (i64.wrap (x.B * y.B)))) + (i64.wrap (x.C * y.A))))) (b := (i64.wrap (x.D * y.D))) rfl rfl rfl) ?_
 refine sQ 74 (Y_fieldAddr (B := aD b) (i := 0) (s := 0) k_fd_63_0_0_3 k_sz_3_1 rfl rfl) ?_
 refine sQ 75 (Y_load1 (B := aD b) (i := 0) (cs := kR_ x) (v := vi x.A) k_sc_3 rfl rfl (hS3.cf (i := 0) rfl) rfl) ?_
 refine sQ 76 (Y_fieldAddr (B := aD b1) (i := 0) (s := 0) k_fd_63_3_3_3 k_sz_3_1 rfl rfl) ?_
 refine sQ 77 (Y_load1 (B := aD b1) (i := 3) (cs := kR_ y) (v := vi y.D) k_sc_3 rfl rfl (hS3.cf (i := 1) rfl) rfl) ?_
 refine sQ 78 (Y_mul (k := .i64) (a := x.A) (b := y.D) rfl rfl rfl) ?_
 refine sQ 79 (Y_fieldAddr (B := aD b) (i := 0) (s := 0) k_fd_63_1_1_3 k_sz_3_1 rfl rfl) ?_
 refine sQ 80 (Y_load1 (B := aD b) (i := 1) (cs := kR_ x) (v := vi x.B) k_sc_3 rfl rfl (hS3.cf (i := 0) rfl) rfl) ?_
 refine sQ 81 (Y_fieldAddr (B := aD b1) (i := 0) (s := 0) k_fd_63_2_2_3 k_sz_3_1 rfl rfl) ?_
 refine sQ 82 (Y_load1 (B := aD b1) (i := 2) (cs := kR_ y) (v := vi y.C) k_sc_3 rfl rfl (hS3.cf (i := 1) rfl) rfl) ?_
 refine sQ 83 (Y_mul (k := .i64) (a := x.B) (b := y.C) rfl rfl rfl) ?_
 refine sQ 84 (Y_add (k := .i64) (a := (i64.wrap (x.A * y.D))) (b := (i64.wrap (x.B * y.C))) rfl rfl rfl) ?_
 refine sQ 85 (Y_fieldAddr (B := aD b) (i := 0) (s := 0) k_fd_63_2_2_3 k_sz_3_1 rfl rfl) ?_
 refine sQ 86 (Y_load1 (B := aD b) (i := 2) (cs := kR_ x) (v := vi x.C) k_sc_3 rfl rfl (hS3.cf (i := 0) rfl) rfl) ?_
 refine sQ 87 (Y_fieldAddr (B := aD b1) (i := 0) (s := 0) k_fd_63_1_1_3 k_sz_3_1 rfl rfl) ?_
 refine sQ 88 (Y_load1 (B := aD b1) (i := 1) (cs := kR_ y) (v := vi y.B) k_sc_3 rfl rfl (hS3.cf (i := 1) rfl) rfl) ?_
 refine sQ 89 (Y_mul (k := .i64) (a := x.C) (b := y.B) rfl rfl rfl) ?_
 refine sQ 90 (Y_add (k := .i64) (a := (i64.wrap ((i64.wrap (x.A * y.D)) + (i64.wrap (x.B * y.C))))) (b := (i64.wrap (x.C * y.B))) rfl rfl rfl) ?_
 refine sQ 91 (Y_fieldAddr (B := aD b) (i := 0) (s := 0) k_fd_63_3_3_3 k_sz_3_1 rfl rfl) ?_
 refine sQ 92 (Y_load1 (B := aD b) (i := 3) (cs := kR_ x) (v := vi x.D) k_sc_3 rfl rfl (hS3.cf (i := 0) rfl) rfl) ?_
 refine sQ 93 (Y_fieldAddr (B := aD b1) (i := 0) (s := 0) k_fd_63_0_0_3 k_sz_3_1 rfl rfl) ?_
 refine sQ 94 (Y_load1 (B := aD b1) (i := 0) (cs := kR_ y) (v := vi y.A) k_sc_3 rfl rfl (hS3.cf (i := 1) rfl) rfl) ?_
 refine sQ 95 (Y_mul (k := .i64) (a := x.D) (b := y.A) rfl rfl rfl) ?_
 refine sQ 96 (Y_add (k := .i64) (a := (i64.wrap ((i64.wrap ((i64.wrap (x.A * y.D)) + (i64.wrap (x.B * y.C)))) + (i64.wrap (x.C * y.B))))) (b := (i64.wrap (x.D * y.A))) rfl rfl rfl) ?_
 refine sQ 97 (Y_buildS (zs := [vi 0, vi 0, vi 0, vi 0]) (vs := [(0, vi (i64.wrap ((i64.wrap ((i64.wrap ((i64.wrap (x.A * y.A)) - (i64.wrap (x.B * y.D)))) - (i64.wrap (x.C * y.C)))) - (i64.wrap (x.D * y.B))))), (1, vi (i64.wrap ((i64.wrap ((i64.wrap ((i64.wrap (x.A * y.B)) + (i64.wrap (x.B * y.A)))) - (i64.wrap (x.C * y.D)))) - (i64.wrap (x.D * y.C))))), (2, vi (i64.wrap ((i64.wrap ((i64.wrap ((i64.wrap (x.A * y.C)) + (i64.wrap (x.B * y.B)))) + (i64.wrap (x.C * y.A)))) - (i64.wrap (x.D * y.D))))), (3, vi (i64.wrap ((i64.wrap ((i64.wrap ((i64.wrap (x.A * y.D)) + (i64.wrap (x.B * y.C)))) + (i64.wrap (x.C * y.B)))) + (i64.wrap (x.D * y.A)))))]) (cs := [vi (i64.wrap ((i64.wrap ((i64.wrap ((i64.wrap (x.A * y.A)) - (i64.wrap (x.B * y.D)))) - (i64.wrap (x.C * y.C)))) - (i64.wrap (x.D * y.B)))), vi (i64.wrap ((i64.wrap ((i64.wrap ((i64.wrap (x.A * y.B)) + (i64.wrap (x.B * y.A)))) - (i64.wrap (x.C * y.D)))) - (i64.wrap (x.D * y.C)))), vi (i64.wrap ((i64.wrap ((i64.wrap ((i64.wrap (x.A * y.C)) + (i64.wrap (x.B * y.B)))) + (i64.wrap (x.C * y.A)))) - (i64.wrap (x.D * y.D)))), vi (i64.wrap ((i64.wrap ((i64.wrap ((i64.wrap (x.A * y.D)) + (i64.wrap (x.B * y.C)))) + (i64.wrap (x.C * y.B)))) + (i64.wrap (x.D * y.A))))]) k_pl_63 k_zero_63 rfl (mpc rfl (mpc rfl (mpc rfl (mpc rfl mpn)))) rfl) ?_
 refine s0 (Ys_store (i := 2) (s := 4) (B := aD b2) (T' := 63) (v := .agg #[vi (i64.wrap ((i64.wrap ((i64.wrap ((i64.wrap (x.A * y.A)) - (i64.wrap (x.B * y.D)))) - (i64.wrap (x.C * y.C)))) - (i64.wrap (x.D * y.B)))), vi (i64.wrap ((i64.wrap ((i64.wrap ((i64.wrap (x.A * y.B)) + (i64.wrap (x.B * y.A)))) - (i64.wrap (x.C * y.D)))) - (i64.wrap (x.D * y.C)))), vi (i64.wrap ((i64.wrap ((i64.wrap ((i64.wrap (x.A * y.C)) + (i64.wrap (x.B * y.B)))) + (i64.wrap (x.C * y.A)))) - (i64.wrap (x.D * y.D)))), vi (i64.wrap ((i64.wrap ((i64.wrap ((i64.wrap (x.A * y.D)) + (i64.wrap (x.B * y.C)))) + (i64.wrap (x.C * y.B)))) + (i64.wrap (x.D * y.A))))]) (vs := [vi (i64.wrap ((i64.wrap ((i64.wrap ((i64.wrap (x.A * y.A)) - (i64.wrap (x.B * y.D)))) - (i64.wrap (x.C * y.C)))) - (i64.wrap (x.D * y.B)))), vi (i64.wrap ((i64.wrap ((i64.wrap ((i64.wrap (x.A * y.B)) + (i64.wrap (x.B * y.A)))) - (i64.wrap (x.C * y.D)))) - (i64.wrap (x.D * y.C)))), vi (i64.wrap ((i64.wrap ((i64.wrap ((i64.wrap (x.A * y.C)) + (i64.wrap (x.B * y.B)))) + (i64.wrap (x.C * y.A)))) - (i64.wrap (x.D * y.D)))), vi (i64.wrap ((i64.wrap ((i64.wrap ((i64.wrap (x.A * y.D)) + (i64.wrap (x.B * y.C)))) + (i64.wrap (x.C * y.B)))) + (i64.wrap (x.D * y.A))))]) (k := 0) (cs' := [vi (i64.wrap ((i64.wrap ((i64.wrap ((i64.wrap (x.A * y.A)) - (i64.wrap (x.B * y.D)))) - (i64.wrap (x.C * y.C)))) - (i64.wrap (x.D * y.B)))), vi (i64.wrap ((i64.wrap ((i64.wrap ((i64.wrap (x.A * y.B)) + (i64.wrap (x.B * y.A)))) - (i64.wrap (x.C * y.D)))) - (i64.wrap (x.D * y.C)))), vi (i64.wrap ((i64.wrap ((i64.wrap ((i64.wrap (x.A * y.C)) + (i64.wrap (x.B * y.B)))) + (i64.wrap (x.C * y.A)))) - (i64.wrap (x.D * y.D)))), vi (i64.wrap ((i64.wrap ((i64.wrap ((i64.wrap (x.A * y.D)) + (i64.wrap (x.B * y.C)))) + (i64.wrap (x.C * y.B)))) + (i64.wrap (x.D * y.A))))]) hS3 k_sz_63_4 rfl rfl rfl rfl rfl rfl rfl (lB rfl) rfl rfl) ?_
 rintro _ w_3 ⟨rfl, hS4⟩
 refine rw_nil (cw_ret ?_)
 obtain rfl := some_inj hF
 exact ret1 Tryz.results93 (v1 := .agg #[vi (i64.wrap ((i64.wrap ((i64.wrap ((i64.wrap (x.A * y.A)) - (i64.wrap (x.B * y.D)))) - (i64.wrap (x.C * y.C)))) - (i64.wrap (x.D * y.B)))), vi (i64.wrap ((i64.wrap ((i64.wrap ((i64.wrap (x.A * y.B)) + (i64.wrap (x.B * y.A)))) - (i64.wrap (x.C * y.D)))) - (i64.wrap (x.D * y.C)))), vi (i64.wrap ((i64.wrap ((i64.wrap ((i64.wrap (x.A * y.C)) + (i64.wrap (x.B * y.B)))) + (i64.wrap (x.C * y.A)))) - (i64.wrap (x.D * y.D)))), vi (i64.wrap ((i64.wrap ((i64.wrap ((i64.wrap (x.A * y.D)) + (i64.wrap (x.B * y.C)))) + (i64.wrap (x.C * y.B)))) + (i64.wrap (x.D * y.A))))]) (resAt_cellA (B := aD b2) (i := 0) (cs := [vi (i64.wrap ((i64.wrap ((i64.wrap ((i64.wrap (x.A * y.A)) - (i64.wrap (x.B * y.D)))) - (i64.wrap (x.C * y.C)))) - (i64.wrap (x.D * y.B)))), vi (i64.wrap ((i64.wrap ((i64.wrap ((i64.wrap (x.A * y.B)) + (i64.wrap (x.B * y.A)))) - (i64.wrap (x.C * y.D)))) - (i64.wrap (x.D * y.C)))), vi (i64.wrap ((i64.wrap ((i64.wrap ((i64.wrap (x.A * y.C)) + (i64.wrap (x.B * y.B)))) + (i64.wrap (x.C * y.A)))) - (i64.wrap (x.D * y.D)))), vi (i64.wrap ((i64.wrap ((i64.wrap ((i64.wrap (x.A * y.D)) + (i64.wrap (x.B * y.C)))) + (i64.wrap (x.C * y.B)))) + (i64.wrap (x.D * y.A))))]) (vs := [vi (i64.wrap ((i64.wrap ((i64.wrap ((i64.wrap (x.A * y.A)) - (i64.wrap (x.B * y.D)))) - (i64.wrap (x.C * y.C)))) - (i64.wrap (x.D * y.B)))), vi (i64.wrap ((i64.wrap ((i64.wrap ((i64.wrap (x.A * y.B)) + (i64.wrap (x.B * y.A)))) - (i64.wrap (x.C * y.D)))) - (i64.wrap (x.D * y.C)))), vi (i64.wrap ((i64.wrap ((i64.wrap ((i64.wrap (x.A * y.C)) + (i64.wrap (x.B * y.B)))) + (i64.wrap (x.C * y.A)))) - (i64.wrap (x.D * y.D)))), vi (i64.wrap ((i64.wrap ((i64.wrap ((i64.wrap (x.A * y.D)) + (i64.wrap (x.B * y.C)))) + (i64.wrap (x.C * y.B)))) + (i64.wrap (x.D * y.A))))]) rfl k_ag_63 k_sz_63_4 (hS4.cf (i := 2) rfl) rfl rfl) ⟨rfl, (hS4.sN [])⟩

theorem c_spec_l2C_mul (c : Tl2C) (x : TDyadic) (y : TDyadic) (B : Option Addr) (w0 : World)  (hS : ST w0 (bl [⟨B, 82, [.bool c.bad], 1⟩]) w0 [⟨B, 82, [.bool c.bad], 1⟩] []) {r_ : TDyadic} {m : Tl2C} (hF : F_spec_l2C_mul c x y = some (r_, m)) :
  CV Tryz.prog 48 #[pt B 0, gD_ x, gD_ y] w0 (fun v w' => v = (gD_ r_) ∧ ST w0 (bl [⟨B, 82, [.bool c.bad], 1⟩]) w' [⟨B, 82, [.bool m.bad], 1⟩] []) := by
 unfold F_spec_l2C_mul at hF
 refine cv_of_cw 30 Tryz.func48 rfl Tryz.ntmps48 rfl ?_
 refine cw_seq (cw_region ?_)
 refine sS 4 (Ys_box (T := 65) (v := gD_ x) (cs := kD_ x) (m := 5) hS rfl rfl rfl rfl) ?_
 rintro _ w_ ⟨b, rfl, hS1⟩
 refine sS 5 (Ys_box (T := 65) (v := gD_ y) (cs := kD_ y) (m := 5) hS1 rfl rfl rfl rfl) ?_
 rintro _ w_1 ⟨b1, rfl, hS2⟩
 refine sS 6 (Ys_alloc (T := 65) (cs := kZ_) (m := 5) hS2 k_zero_65 rfl rfl rfl) ?_
 rintro _ w_2 ⟨b2, rfl, hS3⟩
 refine rw_nil (cw_seq (cw_seq (cw_region ?_)))
 refine sQ 7 (Y_fieldAddr (B := aD b) (i := 0) (s := 0) k_fd_65_1_4_3 k_sz_3_1 rfl rfl) ?_
 refine sQ 8 (Y_load1 (B := aD b) (i := 4) (cs := kD_ x) (v := vi x.Exp) k_sc_3 rfl rfl (hS3.cf (i := 1) rfl) rfl) ?_
 refine sQ 9 (Y_fieldAddr (B := aD b1) (i := 0) (s := 0) k_fd_65_1_4_3 k_sz_3_1 rfl rfl) ?_
 refine sQ 10 (Y_load1 (B := aD b1) (i := 4) (cs := kD_ y) (v := vi y.Exp) k_sc_3 rfl rfl (hS3.cf (i := 2) rfl) rfl) ?_
 refine sQ 11 (Y_add (k := .i64) (a := x.Exp) (b := y.Exp) rfl rfl rfl) ?_
 refine sQ 12 (Y_gt (k := .i64) (a := (i64.wrap (x.Exp + y.Exp))) (b := 60) rfl rfl rfl) (rw_nil ?_)
 refine cw_cond (b := (decide (60 < (i64.wrap (x.Exp + y.Exp))))) rfl (fun hb => ?_) (fun hb => ?_)
 ·skip
  have hF1 := ct hF hb
  refine cw_seq (cw_region ?_)
  refine sQ 13 (Y_move (v := pt B 0) rfl rfl) ?_
  refine sQ 14 (Y_nilCheck (B := B) (i := 0) rfl rfl) ?_
  refine sQ 15 (Y_fieldAddr (B := B) (i := 0) (s := 0) k_fd_82_0_0_4 k_sz_4_1 rfl rfl) ?_
  refine s0 (Ys_store (i := 0) (s := 1) (B := B) (T' := 82) (v := .bool true) (vs := [.bool true]) (k := 0) (cs' := [.bool true]) hS3 k_sz_4_1 rfl rfl rfl rfl rfl rfl rfl (lB rfl) rfl rfl) ?_
  rintro _ w_3 ⟨rfl, hS4⟩
  refine rw_nil (cw_seq (cw_region ?_))
  refine sQ 16 (Y_buildS (zs := kZ_) (vs := []) (cs := kZ_) k_pl_65 k_zero_65 rfl mpn rfl) ?_
  refine s0 (Ys_store (i := 3) (s := 5) (B := aD b2) (T' := 65) (v := gZ_) (vs := kZ_) (k := 0) (cs' := kZ_) hS4 k_sz_65_5 rfl rfl rfl rfl rfl rfl rfl (lB rfl) rfl rfl) ?_
  rintro _ w_4 ⟨rfl, hS5⟩
  refine rw_nil (cw_ret ?_)
  obtain ⟨rfl, rfl⟩ := pr2 (some_inj hF1)
  exact ret1 Tryz.results48 (v1 := gZ_) (resAt_cellA (B := aD b2) (i := 0) (cs := kZ_) (vs := kZ_) rfl k_ag_65 k_sz_65_5 (hS5.cf (i := 3) rfl) rfl rfl) ⟨rfl, (hS5.sN [0])⟩
 ·skip
  have hF2 := cf' hF hb
  refine cw_skip (cw_seq ?_)
  obtain ⟨r_1, hc, hF2⟩ := bind_inv hF2
  obtain ⟨⟨r_2, m1⟩, hc1, hF2⟩ := bind_inv hF2
  obtain ⟨r_3, hc2, hF2⟩ := bind_inv hF2
  refine ra_start (hS3.se [1, 2]).fn (by kernel_rfl) ?_
  have hS9 := hS3.drew
  refine rq 0 17 (v := pt B 0) rfl (hS9.se [1, 2]) (fun w' hw' => (Y_move (v := pt B 0) rfl rfl)) ?_
  refine rq 1 18 (v := pt (aD b) 0) rfl (hS9.se [1, 2]) (fun w' hw' => (Y_fieldAddr (B := aD b) (i := 0) (s := 3) k_fd_65_0_0_63 k_sz_63_4 rfl rfl)) ?_
  refine rq 2 19 (v := gR_ x.Num) rfl (hS9.se [1, 2]) (fun w' hw' => (Y_loadA (B := aD b) (i := 0) (cs := kD_ x) (vs := kR_ x.Num) k_ag_63 k_sz_63_4 rfl rfl (ST.cf hw' (i := 0) rfl) rfl rfl)) ?_
  refine rq 3 20 (v := pt (aD b1) 0) rfl (hS9.se [1, 2]) (fun w' hw' => (Y_fieldAddr (B := aD b1) (i := 0) (s := 3) k_fd_65_0_0_63 k_sz_63_4 rfl rfl)) ?_
  refine rq 4 21 (v := gR_ y.Num) rfl (hS9.se [1, 2]) (fun w' hw' => (Y_loadA (B := aD b1) (i := 0) (cs := kD_ y) (vs := kR_ y.Num) k_ag_63 k_sz_63_4 rfl rfl (ST.cf hw' (i := 1) rfl) rfl rfl)) ?_
  refine rq 7 24 (v := pt (aD b) 4) rfl (hS9.se [1, 2]) (fun w' hw' => (Y_fieldAddr (B := aD b) (i := 0) (s := 0) k_fd_65_1_4_3 k_sz_3_1 rfl rfl)) ?_
  refine rq 8 25 (v := vi x.Exp) rfl (hS9.se [1, 2]) (fun w' hw' => (Y_load1 (B := aD b) (i := 4) (cs := kD_ x) (v := vi x.Exp) k_sc_3 rfl rfl (ST.cf hw' (i := 0) rfl) rfl)) ?_
  refine rq 9 26 (v := pt (aD b1) 4) rfl (hS9.se [1, 2]) (fun w' hw' => (Y_fieldAddr (B := aD b1) (i := 0) (s := 0) k_fd_65_1_4_3 k_sz_3_1 rfl rfl)) ?_
  refine rq 10 27 (v := vi y.Exp) rfl (hS9.se [1, 2]) (fun w' hw' => (Y_load1 (B := aD b1) (i := 4) (cs := kD_ y) (v := vi y.Exp) k_sc_3 rfl rfl (ST.cf hw' (i := 1) rfl) rfl)) ?_
  refine rq 11 28 (v := vi (i64.wrap (x.Exp + y.Exp))) rfl (hS9.se [1, 2]) (fun w' hw' => (Y_add (k := .i64) (a := x.Exp) (b := y.Exp) rfl rfl rfl)) ?_
  refine rA [5] ?_
  refine ra_c 22 (i := 5) rfl rfl rfl (Yc_func (g := 93) (vs := [gR_ x.Num, gR_ y.Num]) k_call_93 rfl (mc rfl (mc rfl mn)) (c_spec_l1Mul x.Num y.Num _  (hS9.inn0 [] rfl) hc)) ?_ ?_
  ·rintro _ w_5 ⟨rfl, hd⟩
   have hS10 := hS9.out00 hd
   refine ⟨(hS10.se [1, 2]), ?_⟩
   refine rA [6] ?_
   refine ra_c 23 (i := 6) rfl rfl rfl (Yc_func (g := 92) (vs := [pt B 0, gR_ r_1]) k_call_92 rfl (mc rfl (mc rfl mn)) (c_spec_l2C_ring c r_1 B _  (hS10.inn [true, false, false, false] rfl [] rfl) hc1)) ?_ ?_
   ·rintro _ w_6 ⟨rfl, hd1⟩
    have hS11 := hS10.out [true, false, false, false] rfl hd1
    refine ⟨(hS11.se [0, 1]), ?_⟩
    refine rA [12] ?_
    refine ra_c 29 (i := 12) rfl rfl rfl (Yc_func (g := 91) (vs := [gR_ r_2, vi (i64.wrap (x.Exp + y.Exp))]) k_call_91 rfl (mc rfl (mc rfl mn)) (c_spec_l2Low r_2 (i64.wrap (x.Exp + y.Exp)) _  (hS11.inn0 [] rfl) hc2)) ?_ ?_
    ·rintro _ w_7 ⟨rfl, hd2⟩
     have hS12 := hS11.out00 hd2
     refine ⟨(hS12.se [0, 1]), ?_⟩
     refine rA [13] ?_
     refine ra_s0 (i := 13) rfl rfl rfl (Ys_store (i := 2) (s := 5) (B := aD b2) (T' := 65) (v := gD_ r_3) (vs := kD_ r_3) (k := 0) (cs' := kD_ r_3) hS12 k_sz_65_5 rfl rfl rfl rfl rfl rfl rfl (lB rfl) rfl rfl) ?_ ?_
     ·rintro _ w_8 ⟨rfl, hS13⟩
      refine ⟨(hS13.se [0, 1]), ?_⟩
      refine ra_done (by kernel_rfl) ?_
      refine cw_ret ?_
      obtain ⟨rfl, rfl⟩ := pr2 (some_inj hF2)
      exact ret1 Tryz.results48 (v1 := gD_ r_3) (resAt_cellA (B := aD b2) (i := 0) (cs := kD_ r_3) (vs := kD_ r_3) rfl k_ag_65 k_sz_65_5 (hS13.cf (i := 2) rfl) rfl rfl) ⟨rfl, (hS13.sN [3])⟩
     exact allR_nil
    exact allR_nil
   exact allR_nil
  exact allR_nil

theorem c_spec_l1Add (x : TRing) (y : TRing)  (w0 : World)  (hS : ST w0 [] w0 [] []) {r_ : TRing} (hF : F_spec_l1Add x y = some r_) :
  CV Tryz.prog 95 #[gR_ x, gR_ y] w0 (fun v w' => v = (gR_ r_) ∧ ST w0 [] w' [] []) := by
 unfold F_spec_l1Add at hF
 refine cv_of_cw 26 Tryz.func95 rfl Tryz.ntmps95 rfl ?_
 refine cw_seq (cw_region ?_)
 refine sS 2 (Ys_box (T := 63) (v := gR_ x) (cs := kR_ x) (m := 4) hS rfl rfl rfl rfl) ?_
 rintro _ w_ ⟨b, rfl, hS1⟩
 refine sS 3 (Ys_box (T := 63) (v := gR_ y) (cs := kR_ y) (m := 4) hS1 rfl rfl rfl rfl) ?_
 rintro _ w_1 ⟨b1, rfl, hS2⟩
 refine sS 4 (Ys_alloc (T := 63) (cs := [vi 0, vi 0, vi 0, vi 0]) (m := 4) hS2 k_zero_63 rfl rfl rfl) ?_
 rintro _ w_2 ⟨b2, rfl, hS3⟩
 refine rw_nil (cw_seq (cw_region ?_))
 refine sQ 5 (Y_fieldAddr (B := aD b) (i := 0) (s := 0) k_fd_63_0_0_3 k_sz_3_1 rfl rfl) ?_
 refine sQ 6 (Y_load1 (B := aD b) (i := 0) (cs := kR_ x) (v := vi x.A) k_sc_3 rfl rfl (hS3.cf (i := 0) rfl) rfl) ?_
 refine sQ 7 (Y_fieldAddr (B := aD b1) (i := 0) (s := 0) k_fd_63_0_0_3 k_sz_3_1 rfl rfl) ?_
 refine sQ 8 (Y_load1 (B := aD b1) (i := 0) (cs := kR_ y) (v := vi y.A) k_sc_3 rfl rfl (hS3.cf (i := 1) rfl) rfl) ?_
 refine sQ 9 (Y_add (k := .i64) (a := x.A) (b := y.A) rfl rfl rfl) ?_
 refine sQ 10 (Y_fieldAddr (B := aD b) (i := 0) (s := 0) k_fd_63_1_1_3 k_sz_3_1 rfl rfl) ?_
 refine sQ 11 (Y_load1 (B := aD b) (i := 1) (cs := kR_ x) (v := vi x.B) k_sc_3 rfl rfl (hS3.cf (i := 0) rfl) rfl) ?_
 refine sQ 12 (Y_fieldAddr (B := aD b1) (i := 0) (s := 0) k_fd_63_1_1_3 k_sz_3_1 rfl rfl) ?_
 refine sQ 13 (Y_load1 (B := aD b1) (i := 1) (cs := kR_ y) (v := vi y.B) k_sc_3 rfl rfl (hS3.cf (i := 1) rfl) rfl) ?_
 refine sQ 14 (Y_add (k := .i64) (a := x.B) (b := y.B) rfl rfl rfl) ?_
 refine sQ 15 (Y_fieldAddr (B := aD b) (i := 0) (s := 0) k_fd_63_2_2_3 k_sz_3_1 rfl rfl) ?_
 refine sQ 16 (Y_load1 (B := aD b) (i := 2) (cs := kR_ x) (v := vi x.C) k_sc_3 rfl rfl (hS3.cf (i := 0) rfl) rfl) ?_
 refine sQ 17 (Y_fieldAddr (B := aD b1) (i := 0) (s := 0) k_fd_63_2_2_3 k_sz_3_1 rfl rfl) ?_
 refine sQ 18 (Y_load1 (B := aD b1) (i := 2) (cs := kR_ y) (v := vi y.C) k_sc_3 rfl rfl (hS3.cf (i := 1) rfl) rfl) ?_
 refine sQ 19 (Y_add (k := .i64) (a := x.C) (b := y.C) rfl rfl rfl) ?_
 refine sQ 20 (Y_fieldAddr (B := aD b) (i := 0) (s := 0) k_fd_63_3_3_3 k_sz_3_1 rfl rfl) ?_
 refine sQ 21 (Y_load1 (B := aD b) (i := 3) (cs := kR_ x) (v := vi x.D) k_sc_3 rfl rfl (hS3.cf (i := 0) rfl) rfl) ?_
 refine sQ 22 (Y_fieldAddr (B := aD b1) (i := 0) (s := 0) k_fd_63_3_3_3 k_sz_3_1 rfl rfl) ?_
 refine sQ 23 (Y_load1 (B := aD b1) (i := 3) (cs := kR_ y) (v := vi y.D) k_sc_3 rfl rfl (hS3.cf (i := 1) rfl) rfl) ?_
 refine sQ 24 (Y_add (k := .i64) (a := x.D) (b := y.D) rfl rfl rfl) ?_
 refine sQ 25 (Y_buildS (zs := [vi 0, vi 0, vi 0, vi 0]) (vs := [(0, vi (i64.wrap (x.A + y.A))), (1, vi (i64.wrap (x.B + y.B))), (2, vi (i64.wrap (x.C + y.C))), (3, vi (i64.wrap (x.D + y.D)))]) (cs := [vi (i64.wrap (x.A + y.A)), vi (i64.wrap (x.B + y.B)), vi (i64.wrap (x.C + y.C)), vi (i64.wrap (x.D + y.D))]) k_pl_63 k_zero_63 rfl (mpc rfl (mpc rfl (mpc rfl (mpc rfl mpn)))) rfl) ?_
 refine s0 (Ys_store (i := 2) (s := 4) (B := aD b2) (T' := 63) (v := .agg #[vi (i64.wrap (x.A + y.A)), vi (i64.wrap (x.B + y.B)), vi (i64.wrap (x.C + y.C)), vi (i64.wrap (x.D + y.D))]) (vs := [vi (i64.wrap (x.A + y.A)), vi (i64.wrap (x.B + y.B)), vi (i64.wrap (x.C + y.C)), vi (i64.wrap (x.D + y.D))]) (k := 0) (cs' := [vi (i64.wrap (x.A + y.A)), vi (i64.wrap (x.B + y.B)), vi (i64.wrap (x.C + y.C)), vi (i64.wrap (x.D + y.D))]) hS3 k_sz_63_4 rfl rfl rfl rfl rfl rfl rfl (lB rfl) rfl rfl) ?_
 rintro _ w_3 ⟨rfl, hS4⟩
 refine rw_nil (cw_ret ?_)
 obtain rfl := some_inj hF
 exact ret1 Tryz.results95 (v1 := .agg #[vi (i64.wrap (x.A + y.A)), vi (i64.wrap (x.B + y.B)), vi (i64.wrap (x.C + y.C)), vi (i64.wrap (x.D + y.D))]) (resAt_cellA (B := aD b2) (i := 0) (cs := [vi (i64.wrap (x.A + y.A)), vi (i64.wrap (x.B + y.B)), vi (i64.wrap (x.C + y.C)), vi (i64.wrap (x.D + y.D))]) (vs := [vi (i64.wrap (x.A + y.A)), vi (i64.wrap (x.B + y.B)), vi (i64.wrap (x.C + y.C)), vi (i64.wrap (x.D + y.D))]) rfl k_ag_63 k_sz_63_4 (hS4.cf (i := 2) rfl) rfl rfl) ⟨rfl, (hS4.sN [])⟩

theorem c_spec_l2C_add (c : Tl2C) (x : TDyadic) (y : TDyadic) (B : Option Addr) (w0 : World)  (hS : ST w0 (bl [⟨B, 82, [.bool c.bad], 1⟩]) w0 [⟨B, 82, [.bool c.bad], 1⟩] []) {r_ : TDyadic} {m : Tl2C} (hF : F_spec_l2C_add c x y = some (r_, m)) :
  CV Tryz.prog 50 #[pt B 0, gD_ x, gD_ y] w0 (fun v w' => v = (gD_ r_) ∧ ST w0 (bl [⟨B, 82, [.bool c.bad], 1⟩]) w' [⟨B, 82, [.bool m.bad], 1⟩] []) := by
 unfold F_spec_l2C_add at hF
 refine cv_of_cw 45 Tryz.func50 rfl Tryz.ntmps50 rfl ?_
 refine cw_seq (cw_region ?_)
 refine sS 4 (Ys_box (T := 65) (v := gD_ x) (cs := kD_ x) (m := 5) hS rfl rfl rfl rfl) ?_
 rintro _ w_ ⟨b, rfl, hS1⟩
 refine sS 5 (Ys_box (T := 65) (v := gD_ y) (cs := kD_ y) (m := 5) hS1 rfl rfl rfl rfl) ?_
 rintro _ w_1 ⟨b1, rfl, hS2⟩
 refine sS 6 (Ys_alloc (T := 65) (cs := kZ_) (m := 5) hS2 k_zero_65 rfl rfl rfl) ?_
 rintro _ w_2 ⟨b2, rfl, hS3⟩
 refine rw_nil (cw_seq ?_)
 obtain ⟨z, hz, hF1⟩ := bind_inv hF
 refine cw_block ?_
 refine cw_loop (fun k f w => ∃ (bad : Bool) (A : Int) (B1 : Int) (C : Int) (D : Int) (Exp : Int), FF f [(0, pt B 0), (4, pt (aD b) 0), (5, pt (aD b1) 0), (6, pt (aD b2) 0)] ∧ ST w0 (bl [⟨B, 82, [.bool c.bad], 1⟩]) w [⟨B, 82, [.bool bad], 1⟩, ⟨aD b, 65, [vi A, vi B1, vi C, vi D, vi Exp], 5⟩, ⟨aD b1, 65, kD_ y, 5⟩, ⟨aD b2, 65, kZ_, 5⟩] [] ∧ whX (F_spec_l2C_add_l1 y) k (bad, A, B1, C, D, Exp) = some z) fuel ⟨c.bad, x.Num.A, x.Num.B, x.Num.C, x.Num.D, x.Exp, (FF.cons rfl (FF.cons rfl (FF.cons rfl (FF.cons rfl FF.nil)))), (hS3.sel [0, 1, 2, 3] rfl rfl), hz⟩ ?_
 rintro k_ f w ⟨bad, A, B1, C, D, Exp, hf, hS4, hL⟩
 obtain ⟨k_1, y1, rfl, hb, hL1⟩ := whX_go hL
 unfold F_spec_l2C_add_l1 at hb
 refine cw_seq (cw_seq (cw_region ?_))
 refine sQ 7 (Y_fieldAddr (B := aD b) (i := 0) (s := 0) k_fd_65_1_4_3 k_sz_3_1 rfl (hf.get 4 1 rfl)) ?_
 refine sQ 8 (Y_load1 (B := aD b) (i := 4) (cs := [vi A, vi B1, vi C, vi D, vi Exp]) (v := vi Exp) k_sc_3 rfl rfl (hS4.cf (i := 1) rfl) rfl) ?_
 refine sQ 9 (Y_fieldAddr (B := aD b1) (i := 0) (s := 0) k_fd_65_1_4_3 k_sz_3_1 rfl (hf.get 5 2 rfl)) ?_
 refine sQ 10 (Y_load1 (B := aD b1) (i := 4) (cs := kD_ y) (v := vi y.Exp) k_sc_3 rfl rfl (hS4.cf (i := 2) rfl) rfl) ?_
 refine sQ 11 (Y_lt (k := .i64) (a := Exp) (b := y.Exp) rfl rfl rfl) (rw_nil ?_)
 refine cw_cond (b := (decide (Exp < y.Exp))) rfl (fun hb1 => ?_) (fun hb1 => ?_)
 ·skip
  have hF2 := ct hb hb1
  refine cw_skip (cw_block ?_)
  obtain ⟨r_1, hc, hF2⟩ := bind_inv hF2
  obtain ⟨⟨r_2, m1⟩, hc1, hF2⟩ := bind_inv hF2
  refine cw_mid (fun f w => FF f [(0, pt B 0), (4, pt (aD b) 0), (5, pt (aD b1) 0), (6, pt (aD b2) 0)] ∧ ST w0 (bl [⟨B, 82, [.bool c.bad], 1⟩]) w [⟨B, 82, [.bool m1.bad], 1⟩, ⟨aD b, 65, [vi r_2.A, vi r_2.B, vi r_2.C, vi r_2.D, vi (i64.wrap (Exp + 1))], 5⟩, ⟨aD b1, 65, kD_ y, 5⟩, ⟨aD b2, 65, kZ_, 5⟩] []) ?_ ?_
  ·skip
   refine ra_start (hS4.se [2, 3]).fn (by kernel_rfl) ?_
   have hS8 := hS4.drew
   refine rq 0 12 (v := pt B 0) rfl (hS8.se [2, 3]) (fun w' hw' => (Y_move (v := pt B 0) rfl (hf.get 0 0 rfl))) ?_
   refine rq 1 13 (v := pt (aD b) 0) rfl (hS8.se [2, 3]) (fun w' hw' => (Y_fieldAddr (B := aD b) (i := 0) (s := 3) k_fd_65_0_0_63 k_sz_63_4 rfl (hf.get 4 1 rfl))) ?_
   refine rq 5 17 (v := pt (aD b) 4) rfl (hS8.se [2, 3]) (fun w' hw' => (Y_fieldAddr (B := aD b) (i := 0) (s := 0) k_fd_65_1_4_3 k_sz_3_1 rfl (hf.get 4 1 rfl))) ?_
   refine rA [2, 6] ?_
   refine ra_y 14 (i := 2) (v := .agg #[vi A, vi B1, vi C, vi D]) rfl rfl rfl (Y_loadA (B := aD b) (i := 0) (cs := [vi A, vi B1, vi C, vi D, vi Exp]) (vs := [vi A, vi B1, vi C, vi D]) k_ag_63 k_sz_63_4 rfl rfl (hS8.cf (i := 1) rfl) rfl rfl) (hS8.se [2, 3]) ?_ ?_
   ·skip
    refine rA [3, 6] ?_
    refine ra_c 15 (i := 3) rfl rfl rfl (Yc_func (g := 94) (vs := [.agg #[vi A, vi B1, vi C, vi D]]) k_call_94 rfl (mc rfl mn) (c_spec_l1Root (TRing.mk A B1 C D) _  (hS8.inn0 [] rfl) hc)) ?_ ?_
    ·rintro _ w_3 ⟨rfl, hd⟩
     have hS9 := hS8.out00 hd
     refine ⟨(hS9.se [2, 3]), ?_⟩
     refine rA [4, 6] ?_
     refine ra_c 16 (i := 4) rfl rfl rfl (Yc_func (g := 92) (vs := [pt B 0, gR_ r_1]) k_call_92 rfl (mc rfl (mc rfl mn)) (c_spec_l2C_ring (Tl2C.mk bad) r_1 B _  (hS9.inn [true, false, false, false] rfl [] rfl) hc1)) ?_ ?_
     ·rintro _ w_4 ⟨rfl, hd1⟩
      have hS10 := hS9.out [true, false, false, false] rfl hd1
      refine ⟨(hS10.se [1, 2]), ?_⟩
      refine rA [6] ?_
      refine ra_y 18 (i := 6) (v := vi Exp) rfl rfl rfl (Y_load1 (B := aD b) (i := 4) (cs := [vi A, vi B1, vi C, vi D, vi Exp]) (v := vi Exp) k_sc_3 rfl rfl (hS10.cf (i := 0) rfl) rfl) (hS10.se [1, 2]) ?_ ?_
      ·skip
       refine rq 7 19 (v := vi (i64.wrap (Exp + 1))) rfl (hS10.se [1, 2]) (fun w' hw' => (Y_add (k := .i64) (a := Exp) (b := 1) rfl rfl rfl)) ?_
       refine rq 8 20 (v := .agg #[vi r_2.A, vi r_2.B, vi r_2.C, vi r_2.D, vi (i64.wrap (Exp + 1))]) rfl (hS10.se [1, 2]) (fun w' hw' => (Y_buildS (zs := kZ_) (vs := [(0, gR_ r_2), (1, vi (i64.wrap (Exp + 1)))]) (cs := [vi r_2.A, vi r_2.B, vi r_2.C, vi r_2.D, vi (i64.wrap (Exp + 1))]) k_pl_65 k_zero_65 rfl (mpc rfl (mpc rfl mpn)) rfl)) ?_
       refine rA [9] ?_
       refine ra_s0 (i := 9) rfl rfl rfl (Ys_store (i := 0) (s := 5) (B := aD b) (T' := 65) (v := .agg #[vi r_2.A, vi r_2.B, vi r_2.C, vi r_2.D, vi (i64.wrap (Exp + 1))]) (vs := [vi r_2.A, vi r_2.B, vi r_2.C, vi r_2.D, vi (i64.wrap (Exp + 1))]) (k := 0) (cs' := [vi r_2.A, vi r_2.B, vi r_2.C, vi r_2.D, vi (i64.wrap (Exp + 1))]) hS10 k_sz_65_5 rfl (hf.get 4 1 rfl) rfl rfl rfl rfl rfl (lB rfl) rfl rfl) ?_ ?_
       ·rintro _ w_5 ⟨rfl, hS11⟩
        refine ⟨(hS11.se [1, 2]), ?_⟩
        refine ra_done (by kernel_rfl) ?_
        exact ⟨(FF.cons (hf.get 0 0 rfl) (FF.cons (hf.get 4 1 rfl) (FF.cons (hf.get 5 2 rfl) (FF.cons (hf.get 6 3 rfl) FF.nil)))), (hS11.sel [3, 0, 1, 2] rfl rfl)⟩
       exact allR_nil
      exact allR_nil
     refine ra_y 18 (i := 6) (v := vi Exp) rfl rfl rfl (Y_load1 (B := aD b) (i := 4) (cs := [vi A, vi B1, vi C, vi D, vi Exp]) (v := vi Exp) k_sc_3 rfl rfl (hS9.cf (i := 1) rfl) rfl) (hS9.se [2, 3]) ?_ ?_
     ·skip
      refine rq 7 19 (v := vi (i64.wrap (Exp + 1))) rfl (hS9.se [2, 3]) (fun w' hw' => (Y_add (k := .i64) (a := Exp) (b := 1) rfl rfl rfl)) ?_
      refine rA [4] ?_
      refine ra_c 16 (i := 4) rfl rfl rfl (Yc_func (g := 92) (vs := [pt B 0, gR_ r_1]) k_call_92 rfl (mc rfl (mc rfl mn)) (c_spec_l2C_ring (Tl2C.mk bad) r_1 B _  (hS9.inn [true, false, false, false] rfl [] rfl) hc1)) ?_ ?_
      ·rintro _ w_6 ⟨rfl, hd2⟩
       have hS12 := hS9.out [true, false, false, false] rfl hd2
       refine ⟨(hS12.se [1, 2]), ?_⟩
       refine rq 8 20 (v := .agg #[vi r_2.A, vi r_2.B, vi r_2.C, vi r_2.D, vi (i64.wrap (Exp + 1))]) rfl (hS12.se [1, 2]) (fun w' hw' => (Y_buildS (zs := kZ_) (vs := [(0, gR_ r_2), (1, vi (i64.wrap (Exp + 1)))]) (cs := [vi r_2.A, vi r_2.B, vi r_2.C, vi r_2.D, vi (i64.wrap (Exp + 1))]) k_pl_65 k_zero_65 rfl (mpc rfl (mpc rfl mpn)) rfl)) ?_
       refine rA [9] ?_
       refine ra_s0 (i := 9) rfl rfl rfl (Ys_store (i := 0) (s := 5) (B := aD b) (T' := 65) (v := .agg #[vi r_2.A, vi r_2.B, vi r_2.C, vi r_2.D, vi (i64.wrap (Exp + 1))]) (vs := [vi r_2.A, vi r_2.B, vi r_2.C, vi r_2.D, vi (i64.wrap (Exp + 1))]) (k := 0) (cs' := [vi r_2.A, vi r_2.B, vi r_2.C, vi r_2.D, vi (i64.wrap (Exp + 1))]) hS12 k_sz_65_5 rfl (hf.get 4 1 rfl) rfl rfl rfl rfl rfl (lB rfl) rfl rfl) ?_ ?_
       ·rintro _ w_7 ⟨rfl, hS13⟩
        refine ⟨(hS13.se [1, 2]), ?_⟩
        refine ra_done (by kernel_rfl) ?_
        exact ⟨(FF.cons (hf.get 0 0 rfl) (FF.cons (hf.get 4 1 rfl) (FF.cons (hf.get 5 2 rfl) (FF.cons (hf.get 6 3 rfl) FF.nil)))), (hS13.sel [3, 0, 1, 2] rfl rfl)⟩
       exact allR_nil
      exact allR_nil
     exact allR_nil
    refine ra_y 18 (i := 6) (v := vi Exp) rfl rfl rfl (Y_load1 (B := aD b) (i := 4) (cs := [vi A, vi B1, vi C, vi D, vi Exp]) (v := vi Exp) k_sc_3 rfl rfl (hS8.cf (i := 1) rfl) rfl) (hS8.se [2, 3]) ?_ ?_
    ·skip
     refine rq 7 19 (v := vi (i64.wrap (Exp + 1))) rfl (hS8.se [2, 3]) (fun w' hw' => (Y_add (k := .i64) (a := Exp) (b := 1) rfl rfl rfl)) ?_
     refine rA [3] ?_
     refine ra_c 15 (i := 3) rfl rfl rfl (Yc_func (g := 94) (vs := [.agg #[vi A, vi B1, vi C, vi D]]) k_call_94 rfl (mc rfl mn) (c_spec_l1Root (TRing.mk A B1 C D) _  (hS8.inn0 [] rfl) hc)) ?_ ?_
     ·rintro _ w_8 ⟨rfl, hd3⟩
      have hS14 := hS8.out00 hd3
      refine ⟨(hS14.se [2, 3]), ?_⟩
      refine rA [4] ?_
      refine ra_c 16 (i := 4) rfl rfl rfl (Yc_func (g := 92) (vs := [pt B 0, gR_ r_1]) k_call_92 rfl (mc rfl (mc rfl mn)) (c_spec_l2C_ring (Tl2C.mk bad) r_1 B _  (hS14.inn [true, false, false, false] rfl [] rfl) hc1)) ?_ ?_
      ·rintro _ w_9 ⟨rfl, hd4⟩
       have hS15 := hS14.out [true, false, false, false] rfl hd4
       refine ⟨(hS15.se [1, 2]), ?_⟩
       refine rq 8 20 (v := .agg #[vi r_2.A, vi r_2.B, vi r_2.C, vi r_2.D, vi (i64.wrap (Exp + 1))]) rfl (hS15.se [1, 2]) (fun w' hw' => (Y_buildS (zs := kZ_) (vs := [(0, gR_ r_2), (1, vi (i64.wrap (Exp + 1)))]) (cs := [vi r_2.A, vi r_2.B, vi r_2.C, vi r_2.D, vi (i64.wrap (Exp + 1))]) k_pl_65 k_zero_65 rfl (mpc rfl (mpc rfl mpn)) rfl)) ?_
       refine rA [9] ?_
       refine ra_s0 (i := 9) rfl rfl rfl (Ys_store (i := 0) (s := 5) (B := aD b) (T' := 65) (v := .agg #[vi r_2.A, vi r_2.B, vi r_2.C, vi r_2.D, vi (i64.wrap (Exp + 1))]) (vs := [vi r_2.A, vi r_2.B, vi r_2.C, vi r_2.D, vi (i64.wrap (Exp + 1))]) (k := 0) (cs' := [vi r_2.A, vi r_2.B, vi r_2.C, vi r_2.D, vi (i64.wrap (Exp + 1))]) hS15 k_sz_65_5 rfl (hf.get 4 1 rfl) rfl rfl rfl rfl rfl (lB rfl) rfl rfl) ?_ ?_
       ·rintro _ w_10 ⟨rfl, hS16⟩
        refine ⟨(hS16.se [1, 2]), ?_⟩
        refine ra_done (by kernel_rfl) ?_
        exact ⟨(FF.cons (hf.get 0 0 rfl) (FF.cons (hf.get 4 1 rfl) (FF.cons (hf.get 5 2 rfl) (FF.cons (hf.get 6 3 rfl) FF.nil)))), (hS16.sel [3, 0, 1, 2] rfl rfl)⟩
       exact allR_nil
      exact allR_nil
     exact allR_nil
    exact allR_nil
   refine ra_y 18 (i := 6) (v := vi Exp) rfl rfl rfl (Y_load1 (B := aD b) (i := 4) (cs := [vi A, vi B1, vi C, vi D, vi Exp]) (v := vi Exp) k_sc_3 rfl rfl (hS8.cf (i := 1) rfl) rfl) (hS8.se [2, 3]) ?_ ?_
   ·skip
    refine rq 7 19 (v := vi (i64.wrap (Exp + 1))) rfl (hS8.se [2, 3]) (fun w' hw' => (Y_add (k := .i64) (a := Exp) (b := 1) rfl rfl rfl)) ?_
    refine rA [2] ?_
    refine ra_y 14 (i := 2) (v := .agg #[vi A, vi B1, vi C, vi D]) rfl rfl rfl (Y_loadA (B := aD b) (i := 0) (cs := [vi A, vi B1, vi C, vi D, vi Exp]) (vs := [vi A, vi B1, vi C, vi D]) k_ag_63 k_sz_63_4 rfl rfl (hS8.cf (i := 1) rfl) rfl rfl) (hS8.se [2, 3]) ?_ ?_
    ·skip
     refine rA [3] ?_
     refine ra_c 15 (i := 3) rfl rfl rfl (Yc_func (g := 94) (vs := [.agg #[vi A, vi B1, vi C, vi D]]) k_call_94 rfl (mc rfl mn) (c_spec_l1Root (TRing.mk A B1 C D) _  (hS8.inn0 [] rfl) hc)) ?_ ?_
     ·rintro _ w_11 ⟨rfl, hd5⟩
      have hS17 := hS8.out00 hd5
      refine ⟨(hS17.se [2, 3]), ?_⟩
      refine rA [4] ?_
      refine ra_c 16 (i := 4) rfl rfl rfl (Yc_func (g := 92) (vs := [pt B 0, gR_ r_1]) k_call_92 rfl (mc rfl (mc rfl mn)) (c_spec_l2C_ring (Tl2C.mk bad) r_1 B _  (hS17.inn [true, false, false, false] rfl [] rfl) hc1)) ?_ ?_
      ·rintro _ w_12 ⟨rfl, hd6⟩
       have hS18 := hS17.out [true, false, false, false] rfl hd6
       refine ⟨(hS18.se [1, 2]), ?_⟩
       refine rq 8 20 (v := .agg #[vi r_2.A, vi r_2.B, vi r_2.C, vi r_2.D, vi (i64.wrap (Exp + 1))]) rfl (hS18.se [1, 2]) (fun w' hw' => (Y_buildS (zs := kZ_) (vs := [(0, gR_ r_2), (1, vi (i64.wrap (Exp + 1)))]) (cs := [vi r_2.A, vi r_2.B, vi r_2.C, vi r_2.D, vi (i64.wrap (Exp + 1))]) k_pl_65 k_zero_65 rfl (mpc rfl (mpc rfl mpn)) rfl)) ?_
       refine rA [9] ?_
       refine ra_s0 (i := 9) rfl rfl rfl (Ys_store (i := 0) (s := 5) (B := aD b) (T' := 65) (v := .agg #[vi r_2.A, vi r_2.B, vi r_2.C, vi r_2.D, vi (i64.wrap (Exp + 1))]) (vs := [vi r_2.A, vi r_2.B, vi r_2.C, vi r_2.D, vi (i64.wrap (Exp + 1))]) (k := 0) (cs' := [vi r_2.A, vi r_2.B, vi r_2.C, vi r_2.D, vi (i64.wrap (Exp + 1))]) hS18 k_sz_65_5 rfl (hf.get 4 1 rfl) rfl rfl rfl rfl rfl (lB rfl) rfl rfl) ?_ ?_
       ·rintro _ w_13 ⟨rfl, hS19⟩
        refine ⟨(hS19.se [1, 2]), ?_⟩
        refine ra_done (by kernel_rfl) ?_
        exact ⟨(FF.cons (hf.get 0 0 rfl) (FF.cons (hf.get 4 1 rfl) (FF.cons (hf.get 5 2 rfl) (FF.cons (hf.get 6 3 rfl) FF.nil)))), (hS19.sel [3, 0, 1, 2] rfl rfl)⟩
       exact allR_nil
      exact allR_nil
     exact allR_nil
    exact allR_nil
   exact allR_nil
  rintro f w ⟨hf1, hS7⟩
  obtain rfl := some_inj hF2
  exact ⟨k_1, Nat.lt_succ_self _, m1.bad, r_2.A, r_2.B, r_2.C, r_2.D, (i64.wrap (Exp + 1)), (FF.cons (hf1.get 0 0 rfl) (FF.cons (hf1.get 4 1 rfl) (FF.cons (hf1.get 5 2 rfl) (FF.cons (hf1.get 6 3 rfl) FF.nil)))), (hS7.sel [0, 1, 2, 3] rfl rfl), hL1⟩
 ·skip
  have hF3 := cf' hb hb1
  refine cw_exit rfl ?_
  obtain rfl := some_inj hF3
  obtain rfl := some_inj hL1
  refine cw_seq ?_
  obtain ⟨z1, hz1, hF4⟩ := bind_inv hF1
  refine cw_block ?_
  refine cw_loop (fun k f w => ∃ (bad1 : Bool) (A1 : Int) (B2 : Int) (C1 : Int) (D1 : Int) (Exp1 : Int), FF f [(0, pt B 0), (4, pt (aD b) 0), (5, pt (aD b1) 0), (6, pt (aD b2) 0)] ∧ ST w0 (bl [⟨B, 82, [.bool c.bad], 1⟩]) w [⟨B, 82, [.bool bad1], 1⟩, ⟨aD b, 65, [vi A, vi B1, vi C, vi D, vi Exp], 5⟩, ⟨aD b1, 65, [vi A1, vi B2, vi C1, vi D1, vi Exp1], 5⟩, ⟨aD b2, 65, kZ_, 5⟩] [] ∧ whX (F_spec_l2C_add_l2 Exp bad A C D) k (bad1, A1, B2, C1, D1, Exp1) = some z1) fuel ⟨bad, y.Num.A, y.Num.B, y.Num.C, y.Num.D, y.Exp, (FF.cons (hf.get 0 0 rfl) (FF.cons (hf.get 4 1 rfl) (FF.cons (hf.get 5 2 rfl) (FF.cons (hf.get 6 3 rfl) FF.nil)))), (hS4.sel [0, 1, 2, 3] rfl rfl), hz1⟩ ?_
  rintro k_2 f w ⟨bad1, A1, B2, C1, D1, Exp1, hf2, hS20, hL2⟩
  obtain ⟨k_3, y2, rfl, hb2, hL3⟩ := whX_go hL2
  unfold F_spec_l2C_add_l2 at hb2
  refine cw_seq (cw_seq (cw_region ?_))
  refine sQ 21 (Y_fieldAddr (B := aD b1) (i := 0) (s := 0) k_fd_65_1_4_3 k_sz_3_1 rfl (hf2.get 5 2 rfl)) ?_
  refine sQ 22 (Y_load1 (B := aD b1) (i := 4) (cs := [vi A1, vi B2, vi C1, vi D1, vi Exp1]) (v := vi Exp1) k_sc_3 rfl rfl (hS20.cf (i := 2) rfl) rfl) ?_
  refine sQ 23 (Y_fieldAddr (B := aD b) (i := 0) (s := 0) k_fd_65_1_4_3 k_sz_3_1 rfl (hf2.get 4 1 rfl)) ?_
  refine sQ 24 (Y_load1 (B := aD b) (i := 4) (cs := [vi A, vi B1, vi C, vi D, vi Exp]) (v := vi Exp) k_sc_3 rfl rfl (hS20.cf (i := 1) rfl) rfl) ?_
  refine sQ 25 (Y_lt (k := .i64) (a := Exp1) (b := Exp) rfl rfl rfl) (rw_nil ?_)
  refine cw_cond (b := (decide (Exp1 < Exp))) rfl (fun hb3 => ?_) (fun hb3 => ?_)
  ·skip
   have hF5 := ct hb2 hb3
   refine cw_skip (cw_block ?_)
   obtain ⟨r_3, hc2, hF5⟩ := bind_inv hF5
   obtain ⟨⟨r_4, m2⟩, hc3, hF5⟩ := bind_inv hF5
   refine cw_mid (fun f w => FF f [(0, pt B 0), (4, pt (aD b) 0), (5, pt (aD b1) 0), (6, pt (aD b2) 0)] ∧ ST w0 (bl [⟨B, 82, [.bool c.bad], 1⟩]) w [⟨B, 82, [.bool m2.bad], 1⟩, ⟨aD b, 65, [vi A, vi B1, vi C, vi D, vi Exp], 5⟩, ⟨aD b1, 65, [vi r_4.A, vi r_4.B, vi r_4.C, vi r_4.D, vi (i64.wrap (Exp1 + 1))], 5⟩, ⟨aD b2, 65, kZ_, 5⟩] []) ?_ ?_
   ·skip
    refine ra_start (hS20.se [1, 3]).fn (by kernel_rfl) ?_
    have hS24 := hS20.drew
    refine rq 0 26 (v := pt B 0) rfl (hS24.se [1, 3]) (fun w' hw' => (Y_move (v := pt B 0) rfl (hf2.get 0 0 rfl))) ?_
    refine rq 1 27 (v := pt (aD b1) 0) rfl (hS24.se [1, 3]) (fun w' hw' => (Y_fieldAddr (B := aD b1) (i := 0) (s := 3) k_fd_65_0_0_63 k_sz_63_4 rfl (hf2.get 5 2 rfl))) ?_
    refine rq 5 31 (v := pt (aD b1) 4) rfl (hS24.se [1, 3]) (fun w' hw' => (Y_fieldAddr (B := aD b1) (i := 0) (s := 0) k_fd_65_1_4_3 k_sz_3_1 rfl (hf2.get 5 2 rfl))) ?_
    refine rA [2, 6] ?_
    refine ra_y 28 (i := 2) (v := .agg #[vi A1, vi B2, vi C1, vi D1]) rfl rfl rfl (Y_loadA (B := aD b1) (i := 0) (cs := [vi A1, vi B2, vi C1, vi D1, vi Exp1]) (vs := [vi A1, vi B2, vi C1, vi D1]) k_ag_63 k_sz_63_4 rfl rfl (hS24.cf (i := 2) rfl) rfl rfl) (hS24.se [1, 3]) ?_ ?_
    ·skip
     refine rA [3, 6] ?_
     refine ra_c 29 (i := 3) rfl rfl rfl (Yc_func (g := 94) (vs := [.agg #[vi A1, vi B2, vi C1, vi D1]]) k_call_94 rfl (mc rfl mn) (c_spec_l1Root (TRing.mk A1 B2 C1 D1) _  (hS24.inn0 [] rfl) hc2)) ?_ ?_
     ·rintro _ w_14 ⟨rfl, hd7⟩
      have hS25 := hS24.out00 hd7
      refine ⟨(hS25.se [1, 3]), ?_⟩
      refine rA [4, 6] ?_
      refine ra_c 30 (i := 4) rfl rfl rfl (Yc_func (g := 92) (vs := [pt B 0, gR_ r_3]) k_call_92 rfl (mc rfl (mc rfl mn)) (c_spec_l2C_ring (Tl2C.mk bad1) r_3 B _  (hS25.inn [true, false, false, false] rfl [] rfl) hc3)) ?_ ?_
      ·rintro _ w_15 ⟨rfl, hd8⟩
       have hS26 := hS25.out [true, false, false, false] rfl hd8
       refine ⟨(hS26.se [0, 2]), ?_⟩
       refine rA [6] ?_
       refine ra_y 32 (i := 6) (v := vi Exp1) rfl rfl rfl (Y_load1 (B := aD b1) (i := 4) (cs := [vi A1, vi B2, vi C1, vi D1, vi Exp1]) (v := vi Exp1) k_sc_3 rfl rfl (hS26.cf (i := 1) rfl) rfl) (hS26.se [0, 2]) ?_ ?_
       ·skip
        refine rq 7 33 (v := vi (i64.wrap (Exp1 + 1))) rfl (hS26.se [0, 2]) (fun w' hw' => (Y_add (k := .i64) (a := Exp1) (b := 1) rfl rfl rfl)) ?_
        refine rq 8 34 (v := .agg #[vi r_4.A, vi r_4.B, vi r_4.C, vi r_4.D, vi (i64.wrap (Exp1 + 1))]) rfl (hS26.se [0, 2]) (fun w' hw' => (Y_buildS (zs := kZ_) (vs := [(0, gR_ r_4), (1, vi (i64.wrap (Exp1 + 1)))]) (cs := [vi r_4.A, vi r_4.B, vi r_4.C, vi r_4.D, vi (i64.wrap (Exp1 + 1))]) k_pl_65 k_zero_65 rfl (mpc rfl (mpc rfl mpn)) rfl)) ?_
        refine rA [9] ?_
        refine ra_s0 (i := 9) rfl rfl rfl (Ys_store (i := 1) (s := 5) (B := aD b1) (T' := 65) (v := .agg #[vi r_4.A, vi r_4.B, vi r_4.C, vi r_4.D, vi (i64.wrap (Exp1 + 1))]) (vs := [vi r_4.A, vi r_4.B, vi r_4.C, vi r_4.D, vi (i64.wrap (Exp1 + 1))]) (k := 0) (cs' := [vi r_4.A, vi r_4.B, vi r_4.C, vi r_4.D, vi (i64.wrap (Exp1 + 1))]) hS26 k_sz_65_5 rfl (hf2.get 5 2 rfl) rfl rfl rfl rfl rfl (lB rfl) rfl rfl) ?_ ?_
        ·rintro _ w_16 ⟨rfl, hS27⟩
         refine ⟨(hS27.se [0, 2]), ?_⟩
         refine ra_done (by kernel_rfl) ?_
         exact ⟨(FF.cons (hf2.get 0 0 rfl) (FF.cons (hf2.get 4 1 rfl) (FF.cons (hf2.get 5 2 rfl) (FF.cons (hf2.get 6 3 rfl) FF.nil)))), (hS27.sel [3, 0, 1, 2] rfl rfl)⟩
        exact allR_nil
       exact allR_nil
      refine ra_y 32 (i := 6) (v := vi Exp1) rfl rfl rfl (Y_load1 (B := aD b1) (i := 4) (cs := [vi A1, vi B2, vi C1, vi D1, vi Exp1]) (v := vi Exp1) k_sc_3 rfl rfl (hS25.cf (i := 2) rfl) rfl) (hS25.se [1, 3]) ?_ ?_
      ·skip
       refine rq 7 33 (v := vi (i64.wrap (Exp1 + 1))) rfl (hS25.se [1, 3]) (fun w' hw' => (Y_add (k := .i64) (a := Exp1) (b := 1) rfl rfl rfl)) ?_
       refine rA [4] ?_
       refine ra_c 30 (i := 4) rfl rfl rfl (Yc_func (g := 92) (vs := [pt B 0, gR_ r_3]) k_call_92 rfl (mc rfl (mc rfl mn)) (c_spec_l2C_ring (Tl2C.mk bad1) r_3 B _  (hS25.inn [true, false, false, false] rfl [] rfl) hc3)) ?_ ?_
       ·rintro _ w_17 ⟨rfl, hd9⟩
        have hS28 := hS25.out [true, false, false, false] rfl hd9
        refine ⟨(hS28.se [0, 2]), ?_⟩
        refine rq 8 34 (v := .agg #[vi r_4.A, vi r_4.B, vi r_4.C, vi r_4.D, vi (i64.wrap (Exp1 + 1))]) rfl (hS28.se [0, 2]) (fun w' hw' => (Y_buildS (zs := kZ_) (vs := [(0, gR_ r_4), (1, vi (i64.wrap (Exp1 + 1)))]) (cs := [vi r_4.A, vi r_4.B, vi r_4.C, vi r_4.D, vi (i64.wrap (Exp1 + 1))]) k_pl_65 k_zero_65 rfl (mpc rfl (mpc rfl mpn)) rfl)) ?_
        refine rA [9] ?_
        refine ra_s0 (i := 9) rfl rfl rfl (Ys_store (i := 1) (s := 5) (B := aD b1) (T' := 65) (v := .agg #[vi r_4.A, vi r_4.B, vi r_4.C, vi r_4.D, vi (i64.wrap (Exp1 + 1))]) (vs := [vi r_4.A, vi r_4.B, vi r_4.C, vi r_4.D, vi (i64.wrap (Exp1 + 1))]) (k := 0) (cs' := [vi r_4.A, vi r_4.B, vi r_4.C, vi r_4.D, vi (i64.wrap (Exp1 + 1))]) hS28 k_sz_65_5 rfl (hf2.get 5 2 rfl) rfl rfl rfl rfl rfl (lB rfl) rfl rfl) ?_ ?_
        ·rintro _ w_18 ⟨rfl, hS29⟩
         refine ⟨(hS29.se [0, 2]), ?_⟩
         refine ra_done (by kernel_rfl) ?_
         exact ⟨(FF.cons (hf2.get 0 0 rfl) (FF.cons (hf2.get 4 1 rfl) (FF.cons (hf2.get 5 2 rfl) (FF.cons (hf2.get 6 3 rfl) FF.nil)))), (hS29.sel [3, 0, 1, 2] rfl rfl)⟩
        exact allR_nil
       exact allR_nil
      exact allR_nil
     refine ra_y 32 (i := 6) (v := vi Exp1) rfl rfl rfl (Y_load1 (B := aD b1) (i := 4) (cs := [vi A1, vi B2, vi C1, vi D1, vi Exp1]) (v := vi Exp1) k_sc_3 rfl rfl (hS24.cf (i := 2) rfl) rfl) (hS24.se [1, 3]) ?_ ?_
     ·skip
      refine rq 7 33 (v := vi (i64.wrap (Exp1 + 1))) rfl (hS24.se [1, 3]) (fun w' hw' => (Y_add (k := .i64) (a := Exp1) (b := 1) rfl rfl rfl)) ?_
      refine rA [3] ?_
      refine ra_c 29 (i := 3) rfl rfl rfl (Yc_func (g := 94) (vs := [.agg #[vi A1, vi B2, vi C1, vi D1]]) k_call_94 rfl (mc rfl mn) (c_spec_l1Root (TRing.mk A1 B2 C1 D1) _  (hS24.inn0 [] rfl) hc2)) ?_ ?_
      ·rintro _ w_19 ⟨rfl, hd10⟩
       have hS30 := hS24.out00 hd10
       refine ⟨(hS30.se [1, 3]), ?_⟩
       refine rA [4] ?_
       refine ra_c 30 (i := 4) rfl rfl rfl (Yc_func (g := 92) (vs := [pt B 0, gR_ r_3]) k_call_92 rfl (mc rfl (mc rfl mn)) (c_spec_l2C_ring (Tl2C.mk bad1) r_3 B _  (hS30.inn [true, false, false, false] rfl [] rfl) hc3)) ?_ ?_
       ·rintro _ w_20 ⟨rfl, hd11⟩
        have hS31 := hS30.out [true, false, false, false] rfl hd11
        refine ⟨(hS31.se [0, 2]), ?_⟩
        refine rq 8 34 (v := .agg #[vi r_4.A, vi r_4.B, vi r_4.C, vi r_4.D, vi (i64.wrap (Exp1 + 1))]) rfl (hS31.se [0, 2]) (fun w' hw' => (Y_buildS (zs := kZ_) (vs := [(0, gR_ r_4), (1, vi (i64.wrap (Exp1 + 1)))]) (cs := [vi r_4.A, vi r_4.B, vi r_4.C, vi r_4.D, vi (i64.wrap (Exp1 + 1))]) k_pl_65 k_zero_65 rfl (mpc rfl (mpc rfl mpn)) rfl)) ?_
        refine rA [9] ?_
        refine ra_s0 (i := 9) rfl rfl rfl (Ys_store (i := 1) (s := 5) (B := aD b1) (T' := 65) (v := .agg #[vi r_4.A, vi r_4.B, vi r_4.C, vi r_4.D, vi (i64.wrap (Exp1 + 1))]) (vs := [vi r_4.A, vi r_4.B, vi r_4.C, vi r_4.D, vi (i64.wrap (Exp1 + 1))]) (k := 0) (cs' := [vi r_4.A, vi r_4.B, vi r_4.C, vi r_4.D, vi (i64.wrap (Exp1 + 1))]) hS31 k_sz_65_5 rfl (hf2.get 5 2 rfl) rfl rfl rfl rfl rfl (lB rfl) rfl rfl) ?_ ?_
        ·rintro _ w_21 ⟨rfl, hS32⟩
         refine ⟨(hS32.se [0, 2]), ?_⟩
         refine ra_done (by kernel_rfl) ?_
         exact ⟨(FF.cons (hf2.get 0 0 rfl) (FF.cons (hf2.get 4 1 rfl) (FF.cons (hf2.get 5 2 rfl) (FF.cons (hf2.get 6 3 rfl) FF.nil)))), (hS32.sel [3, 0, 1, 2] rfl rfl)⟩
        exact allR_nil
       exact allR_nil
      exact allR_nil
     exact allR_nil
    refine ra_y 32 (i := 6) (v := vi Exp1) rfl rfl rfl (Y_load1 (B := aD b1) (i := 4) (cs := [vi A1, vi B2, vi C1, vi D1, vi Exp1]) (v := vi Exp1) k_sc_3 rfl rfl (hS24.cf (i := 2) rfl) rfl) (hS24.se [1, 3]) ?_ ?_
    ·skip
     refine rq 7 33 (v := vi (i64.wrap (Exp1 + 1))) rfl (hS24.se [1, 3]) (fun w' hw' => (Y_add (k := .i64) (a := Exp1) (b := 1) rfl rfl rfl)) ?_
     refine rA [2] ?_
     refine ra_y 28 (i := 2) (v := .agg #[vi A1, vi B2, vi C1, vi D1]) rfl rfl rfl (Y_loadA (B := aD b1) (i := 0) (cs := [vi A1, vi B2, vi C1, vi D1, vi Exp1]) (vs := [vi A1, vi B2, vi C1, vi D1]) k_ag_63 k_sz_63_4 rfl rfl (hS24.cf (i := 2) rfl) rfl rfl) (hS24.se [1, 3]) ?_ ?_
     ·skip
      refine rA [3] ?_
      refine ra_c 29 (i := 3) rfl rfl rfl (Yc_func (g := 94) (vs := [.agg #[vi A1, vi B2, vi C1, vi D1]]) k_call_94 rfl (mc rfl mn) (c_spec_l1Root (TRing.mk A1 B2 C1 D1) _  (hS24.inn0 [] rfl) hc2)) ?_ ?_
      ·rintro _ w_22 ⟨rfl, hd12⟩
       have hS33 := hS24.out00 hd12
       refine ⟨(hS33.se [1, 3]), ?_⟩
       refine rA [4] ?_
       refine ra_c 30 (i := 4) rfl rfl rfl (Yc_func (g := 92) (vs := [pt B 0, gR_ r_3]) k_call_92 rfl (mc rfl (mc rfl mn)) (c_spec_l2C_ring (Tl2C.mk bad1) r_3 B _  (hS33.inn [true, false, false, false] rfl [] rfl) hc3)) ?_ ?_
       ·rintro _ w_23 ⟨rfl, hd13⟩
        have hS34 := hS33.out [true, false, false, false] rfl hd13
        refine ⟨(hS34.se [0, 2]), ?_⟩
        refine rq 8 34 (v := .agg #[vi r_4.A, vi r_4.B, vi r_4.C, vi r_4.D, vi (i64.wrap (Exp1 + 1))]) rfl (hS34.se [0, 2]) (fun w' hw' => (Y_buildS (zs := kZ_) (vs := [(0, gR_ r_4), (1, vi (i64.wrap (Exp1 + 1)))]) (cs := [vi r_4.A, vi r_4.B, vi r_4.C, vi r_4.D, vi (i64.wrap (Exp1 + 1))]) k_pl_65 k_zero_65 rfl (mpc rfl (mpc rfl mpn)) rfl)) ?_
        refine rA [9] ?_
        refine ra_s0 (i := 9) rfl rfl rfl (Ys_store (i := 1) (s := 5) (B := aD b1) (T' := 65) (v := .agg #[vi r_4.A, vi r_4.B, vi r_4.C, vi r_4.D, vi (i64.wrap (Exp1 + 1))]) (vs := [vi r_4.A, vi r_4.B, vi r_4.C, vi r_4.D, vi (i64.wrap (Exp1 + 1))]) (k := 0) (cs' := [vi r_4.A, vi r_4.B, vi r_4.C, vi r_4.D, vi (i64.wrap (Exp1 + 1))]) hS34 k_sz_65_5 rfl (hf2.get 5 2 rfl) rfl rfl rfl rfl rfl (lB rfl) rfl rfl) ?_ ?_
        ·rintro _ w_24 ⟨rfl, hS35⟩
         refine ⟨(hS35.se [0, 2]), ?_⟩
         refine ra_done (by kernel_rfl) ?_
         exact ⟨(FF.cons (hf2.get 0 0 rfl) (FF.cons (hf2.get 4 1 rfl) (FF.cons (hf2.get 5 2 rfl) (FF.cons (hf2.get 6 3 rfl) FF.nil)))), (hS35.sel [3, 0, 1, 2] rfl rfl)⟩
        exact allR_nil
       exact allR_nil
      exact allR_nil
     exact allR_nil
    exact allR_nil
   rintro f w ⟨hf3, hS23⟩
   obtain rfl := some_inj hF5
   exact ⟨k_3, Nat.lt_succ_self _, m2.bad, r_4.A, r_4.B, r_4.C, r_4.D, (i64.wrap (Exp1 + 1)), (FF.cons (hf3.get 0 0 rfl) (FF.cons (hf3.get 4 1 rfl) (FF.cons (hf3.get 5 2 rfl) (FF.cons (hf3.get 6 3 rfl) FF.nil)))), (hS23.sel [0, 1, 2, 3] rfl rfl), hL3⟩
  ·skip
   have hF6 := cf' hb2 hb3
   refine cw_exit rfl ?_
   obtain rfl := some_inj hF6
   obtain rfl := some_inj hL3
   refine cw_seq ?_
   obtain ⟨r_5, hc4, hF4⟩ := bind_inv hF4
   obtain ⟨⟨r_6, m3⟩, hc5, hF4⟩ := bind_inv hF4
   obtain ⟨r_7, hc6, hF4⟩ := bind_inv hF4
   refine ra_start (hS20.se [1, 2]).fn (by kernel_rfl) ?_
   have hS39 := hS20.drew
   refine rq 0 35 (v := pt B 0) rfl (hS39.se [1, 2]) (fun w' hw' => (Y_move (v := pt B 0) rfl (hf2.get 0 0 rfl))) ?_
   refine rq 1 36 (v := pt (aD b) 0) rfl (hS39.se [1, 2]) (fun w' hw' => (Y_fieldAddr (B := aD b) (i := 0) (s := 3) k_fd_65_0_0_63 k_sz_63_4 rfl (hf2.get 4 1 rfl))) ?_
   refine rq 2 37 (v := .agg #[vi A, vi B1, vi C, vi D]) rfl (hS39.se [1, 2]) (fun w' hw' => (Y_loadA (B := aD b) (i := 0) (cs := [vi A, vi B1, vi C, vi D, vi Exp]) (vs := [vi A, vi B1, vi C, vi D]) k_ag_63 k_sz_63_4 rfl rfl (ST.cf hw' (i := 0) rfl) rfl rfl)) ?_
   refine rq 3 38 (v := pt (aD b1) 0) rfl (hS39.se [1, 2]) (fun w' hw' => (Y_fieldAddr (B := aD b1) (i := 0) (s := 3) k_fd_65_0_0_63 k_sz_63_4 rfl (hf2.get 5 2 rfl))) ?_
   refine rq 4 39 (v := .agg #[vi A1, vi B2, vi C1, vi D1]) rfl (hS39.se [1, 2]) (fun w' hw' => (Y_loadA (B := aD b1) (i := 0) (cs := [vi A1, vi B2, vi C1, vi D1, vi Exp1]) (vs := [vi A1, vi B2, vi C1, vi D1]) k_ag_63 k_sz_63_4 rfl rfl (ST.cf hw' (i := 1) rfl) rfl rfl)) ?_
   refine rq 7 42 (v := pt (aD b) 4) rfl (hS39.se [1, 2]) (fun w' hw' => (Y_fieldAddr (B := aD b) (i := 0) (s := 0) k_fd_65_1_4_3 k_sz_3_1 rfl (hf2.get 4 1 rfl))) ?_
   refine rq 8 43 (v := vi Exp) rfl (hS39.se [1, 2]) (fun w' hw' => (Y_load1 (B := aD b) (i := 4) (cs := [vi A, vi B1, vi C, vi D, vi Exp]) (v := vi Exp) k_sc_3 rfl rfl (ST.cf hw' (i := 0) rfl) rfl)) ?_
   refine rA [5] ?_
   refine ra_c 40 (i := 5) rfl rfl rfl (Yc_func (g := 95) (vs := [.agg #[vi A, vi B1, vi C, vi D], .agg #[vi A1, vi B2, vi C1, vi D1]]) k_call_95 rfl (mc rfl (mc rfl mn)) (c_spec_l1Add (TRing.mk A B1 C D) (TRing.mk A1 B2 C1 D1) _  (hS39.inn0 [] rfl) hc4)) ?_ ?_
   ·rintro _ w_25 ⟨rfl, hd14⟩
    have hS40 := hS39.out00 hd14
    refine ⟨(hS40.se [1, 2]), ?_⟩
    refine rA [6] ?_
    refine ra_c 41 (i := 6) rfl rfl rfl (Yc_func (g := 92) (vs := [pt B 0, gR_ r_5]) k_call_92 rfl (mc rfl (mc rfl mn)) (c_spec_l2C_ring (Tl2C.mk bad1) r_5 B _  (hS40.inn [true, false, false, false] rfl [] rfl) hc5)) ?_ ?_
    ·rintro _ w_26 ⟨rfl, hd15⟩
     have hS41 := hS40.out [true, false, false, false] rfl hd15
     refine ⟨(hS41.se [0, 1]), ?_⟩
     refine rA [9] ?_
     refine ra_c 44 (i := 9) rfl rfl rfl (Yc_func (g := 91) (vs := [gR_ r_6, vi Exp]) k_call_91 rfl (mc rfl (mc rfl mn)) (c_spec_l2Low r_6 Exp _  (hS41.inn0 [] rfl) hc6)) ?_ ?_
     ·rintro _ w_27 ⟨rfl, hd16⟩
      have hS42 := hS41.out00 hd16
      refine ⟨(hS42.se [0, 1]), ?_⟩
      refine rA [10] ?_
      refine ra_s0 (i := 10) rfl rfl rfl (Ys_store (i := 2) (s := 5) (B := aD b2) (T' := 65) (v := gD_ r_7) (vs := kD_ r_7) (k := 0) (cs' := kD_ r_7) hS42 k_sz_65_5 rfl (hf2.get 6 3 rfl) rfl rfl rfl rfl rfl (lB rfl) rfl rfl) ?_ ?_
      ·rintro _ w_28 ⟨rfl, hS43⟩
       refine ⟨(hS43.se [0, 1]), ?_⟩
       refine ra_done (by kernel_rfl) ?_
       refine cw_ret ?_
       obtain ⟨rfl, rfl⟩ := pr2 (some_inj hF4)
       exact ret1 Tryz.results50 (v1 := gD_ r_7) (resAt_cellA (B := aD b2) (i := 0) (cs := kD_ r_7) (vs := kD_ r_7) (hf2.get 6 3 rfl) k_ag_65 k_sz_65_5 (hS43.cf (i := 2) rfl) rfl rfl) ⟨rfl, (hS43.sN [3])⟩
      exact allR_nil
     exact allR_nil
    exact allR_nil
   exact allR_nil

theorem c_spec_l2C_times (c : Tl2C) (a : TMatrix) (b : TMatrix) (B : Option Addr) (B1 : Option Addr) (c1 n : Nat) (B2 : Option Addr) (c2 n1 : Nat) (w0 : World) (hn : a.Cells.length = n) (hn1 : b.Cells.length = n1) (hS : ST w0 (bl [⟨B, 82, [.bool c.bad], 1⟩]) w0 [⟨B, 82, [.bool c.bad], 1⟩] [⟨B1, (a.Cells.flatMap eN0)⟩, ⟨B2, (b.Cells.flatMap eN0)⟩]) {r_ : TMatrix} {m : Tl2C} (hF : F_spec_l2C_times c a b = some (r_, m)) :
  CV Tryz.prog 98 #[pt B 0, .agg #[vi a.Rows, vi a.Cols, .slice B1 n c1], .agg #[vi b.Rows, vi b.Cols, .slice B2 n1 c2]] w0 (fun v w' => ∃ (B3 : Option Addr) (c3 : Nat), v = (gM_ r_ B3 c3) ∧ ST w0 (bl [⟨B, 82, [.bool c.bad], 1⟩]) w' [⟨B, 82, [.bool m.bad], 1⟩, ⟨B3, 65, (r_.Cells.flatMap eN0), c3 * 5⟩] []) := by
 subst hn
 subst hn1
 unfold F_spec_l2C_times at hF
 refine cv_of_cw 75 Tryz.func98 rfl Tryz.ntmps98 rfl ?_
 refine cw_seq (cw_region ?_)
 refine sS 4 (Ys_box (T := 48) (v := gM_ a B1 c1) (cs := kM_ a B1 c1) (m := 3) hS rfl rfl rfl rfl) ?_
 rintro _ w_ ⟨b1, rfl, hS1⟩
 refine sS 5 (Ys_box (T := 48) (v := gM_ b B2 c2) (cs := kM_ b B2 c2) (m := 3) hS1 rfl rfl rfl rfl) ?_
 rintro _ w_1 ⟨b2, rfl, hS2⟩
 refine sS 6 (Ys_alloc (T := 48) (cs := kN_) (m := 3) hS2 k_zero_48 rfl rfl rfl) ?_
 rintro _ w_2 ⟨b3, rfl, hS3⟩
 refine rw_nil (cw_seq (cw_region ?_))
 refine sQ 12 (Y_fieldAddr (B := aD b1) (i := 0) (s := 0) k_fd_48_0_0_3 k_sz_3_1 rfl rfl) ?_
 refine sQ 13 (Y_load1 (B := aD b1) (i := 0) (cs := kM_ a B1 c1) (v := vi a.Rows) k_sc_3 rfl rfl (hS3.cf (i := 1) rfl) rfl) ?_
 refine sQ 14 (Y_fieldAddr (B := aD b2) (i := 0) (s := 0) k_fd_48_1_1_3 k_sz_3_1 rfl rfl) ?_
 refine sQ 15 (Y_load1 (B := aD b2) (i := 1) (cs := kM_ b B2 c2) (v := vi b.Cols) k_sc_3 rfl rfl (hS3.cf (i := 2) rfl) rfl) ?_
 refine sQ 16 (Y_buildS (zs := kN_) (vs := [(0, vi a.Rows), (1, vi b.Cols)]) (cs := [vi a.Rows, vi b.Cols, .slice none 0 0]) k_pl_48 k_zero_48 rfl (mpc rfl (mpc rfl mpn)) rfl) ?_
 refine sS 7 (Ys_alloc (T := 48) (cs := kN_) (m := 3) hS3 k_zero_48 rfl rfl rfl) ?_
 rintro _ w_3 ⟨b4, rfl, hS4⟩
 refine s0 (Ys_store (i := 4) (s := 3) (B := aD b4) (T' := 48) (v := .agg #[vi a.Rows, vi b.Cols, .slice none 0 0]) (vs := [vi a.Rows, vi b.Cols, .slice none 0 0]) (k := 0) (cs' := [vi a.Rows, vi b.Cols, .slice none 0 0]) hS4 k_sz_48_3 rfl rfl rfl rfl rfl rfl rfl (lB rfl) rfl rfl) ?_
 rintro _ w_4 ⟨rfl, hS5⟩
 refine rw_nil (cw_seq (cw_seq (cw_region ?_)))
 refine sQ 8 (Y_assign (v := vi 0) rfl rfl) (rw_nil ?_)
 obtain ⟨hN, hF⟩ := chk_inv hF
 obtain ⟨z, hz, hF1⟩ := bind_inv hF
 have hS7 := hS5.addNil 65
 refine cw_block ?_
 refine cw_loop (fun k f w => ∃ (i1 : Nat) (bad : Bool) (Cells : List TDyadic) (B4 : Option Addr) (c4 : Nat), FF f [(0, pt B 0), (4, pt (aD b1) 0), (5, pt (aD b2) 0), (6, pt (aD b3) 0), (7, pt (aD b4) 0), (8, vi (i1 : Int))] ∧ ST w0 (bl [⟨B, 82, [.bool c.bad], 1⟩]) w [⟨B, 82, [.bool bad], 1⟩, ⟨aD b1, 48, kM_ a B1 c1, 3⟩, ⟨aD b2, 48, kM_ b B2 c2, 3⟩, ⟨aD b3, 48, kN_, 3⟩, ⟨aD b4, 48, [vi a.Rows, vi b.Cols, .slice B4 Cells.length c4], 3⟩, ⟨B4, 65, (Cells.flatMap eN0), c4 * 5⟩] [⟨B1, (a.Cells.flatMap eN0)⟩, ⟨B2, (b.Cells.flatMap eN0)⟩] ∧ i1 + k = a.Rows.toNat ∧ forN (F_spec_l2C_times_l1 b a) k i1 (bad, Cells) = some z) a.Rows.toNat ⟨0, c.bad, [], none, 0, (FF.cons rfl (FF.cons rfl (FF.cons rfl (FF.cons rfl (FF.cons rfl (FF.cons rfl FF.nil)))))), (hS7.sel [0, 1, 2, 3, 4, 5] rfl rfl), Nat.zero_add _, hz⟩ ?_
 rintro k_ f w ⟨i1, bad, Cells, B4, c4, hf, hS6, hik, hL⟩
 refine cw_seq (cw_seq (cw_region ?_))
 refine sQ 17 (Y_move (v := vi (i1 : Int)) rfl (hf.get 8 5 rfl)) ?_
 refine sQ 18 (Y_fieldAddr (B := aD b1) (i := 0) (s := 0) k_fd_48_0_0_3 k_sz_3_1 rfl (hf.get 4 1 rfl)) ?_
 refine sQ 19 (Y_load1 (B := aD b1) (i := 0) (cs := kM_ a B1 c1) (v := vi a.Rows) k_sc_3 rfl rfl (hS6.cf (i := 1) rfl) rfl) ?_
 refine sQ 20 (Y_lt (k := .i64) (a := (i1 : Int)) (b := a.Rows) rfl rfl rfl) (rw_nil ?_)
 refine cw_cond (b := (decide ((i1 : Int) < a.Rows))) rfl (fun hlt => ?_) (fun hlt => ?_)
 ·skip
  have hlt1 : i1 < a.Rows.toNat := by have h := of_decide_eq_true hlt; omega
  obtain ⟨k_1, rfl⟩ : ∃ k2, k_ = k2 + 1 := ⟨k_ - 1, by omega⟩
  obtain ⟨y, hb, hL1⟩ := forN_go hL
  unfold F_spec_l2C_times_l1 at hb
  refine cw_skip (cw_seq (cw_block (cw_seq (cw_region ?_))))
  refine sQ 9 (Y_assign (v := vi 0) rfl rfl) (rw_nil ?_)
  obtain ⟨hN1, hb⟩ := chk_inv hb
  obtain ⟨z1, hz1, hF2⟩ := bind_inv hb
  refine cw_block ?_
  refine cw_loop (fun k f w => ∃ (j : Nat) (bad1 : Bool) (Cells1 : List TDyadic) (B5 : Option Addr) (c5 : Nat), FF f [(0, pt B 0), (4, pt (aD b1) 0), (5, pt (aD b2) 0), (6, pt (aD b3) 0), (7, pt (aD b4) 0), (8, vi (i1 : Int)), (9, vi (j : Int))] ∧ ST w0 (bl [⟨B, 82, [.bool c.bad], 1⟩]) w [⟨B, 82, [.bool bad1], 1⟩, ⟨aD b1, 48, kM_ a B1 c1, 3⟩, ⟨aD b2, 48, kM_ b B2 c2, 3⟩, ⟨aD b3, 48, kN_, 3⟩, ⟨aD b4, 48, [vi a.Rows, vi b.Cols, .slice B5 Cells1.length c5], 3⟩, ⟨B5, 65, (Cells1.flatMap eN0), c5 * 5⟩] [⟨B1, (a.Cells.flatMap eN0)⟩, ⟨B2, (b.Cells.flatMap eN0)⟩] ∧ j + k = b.Cols.toNat ∧ forN (F_spec_l2C_times_l2 a Cells i1 b bad) k j (bad1, Cells1) = some z1) b.Cols.toNat ⟨0, bad, Cells, B4, c4, (FF.cons (hf.get 0 0 rfl) (FF.cons (hf.get 4 1 rfl) (FF.cons (hf.get 5 2 rfl) (FF.cons (hf.get 6 3 rfl) (FF.cons (hf.get 7 4 rfl) (FF.cons (hf.get 8 5 rfl) (FF.cons rfl FF.nil))))))), (hS6.sel [0, 1, 2, 3, 4, 5] rfl rfl), Nat.zero_add _, hz1⟩ ?_
  rintro k_2 f w ⟨j, bad1, Cells1, B5, c5, hf1, hS8, hik1, hL2⟩
  refine cw_seq (cw_seq (cw_region ?_))
  refine sQ 23 (Y_move (v := vi (j : Int)) rfl (hf1.get 9 6 rfl)) ?_
  refine sQ 24 (Y_fieldAddr (B := aD b2) (i := 0) (s := 0) k_fd_48_1_1_3 k_sz_3_1 rfl (hf1.get 5 2 rfl)) ?_
  refine sQ 25 (Y_load1 (B := aD b2) (i := 1) (cs := kM_ b B2 c2) (v := vi b.Cols) k_sc_3 rfl rfl (hS8.cf (i := 2) rfl) rfl) ?_
  refine sQ 26 (Y_lt (k := .i64) (a := (j : Int)) (b := b.Cols) rfl rfl rfl) (rw_nil ?_)
  refine cw_cond (b := (decide ((j : Int) < b.Cols))) rfl (fun hlt2 => ?_) (fun hlt2 => ?_)
  ·skip
   have hlt3 : j < b.Cols.toNat := by have h := of_decide_eq_true hlt2; omega
   obtain ⟨k_3, rfl⟩ : ∃ k2, k_2 = k2 + 1 := ⟨k_2 - 1, by omega⟩
   obtain ⟨y1, hb1, hL3⟩ := forN_go hL2
   unfold F_spec_l2C_times_l2 at hb1
   refine cw_skip (cw_seq (cw_block (cw_seq (cw_region ?_))))
   refine sQ 29 (Y_buildS (zs := kZ_) (vs := []) (cs := kZ_) k_pl_65 k_zero_65 rfl mpn rfl) ?_
   refine sS 10 (Ys_alloc (T := 65) (cs := kZ_) (m := 5) hS8 k_zero_65 rfl rfl rfl) ?_
   rintro _ w_5 ⟨b5, rfl, hS9⟩
   refine s0 (Ys_store (i := 6) (s := 5) (B := aD b5) (T' := 65) (v := gZ_) (vs := kZ_) (k := 0) (cs' := kZ_) hS9 k_sz_65_5 rfl rfl rfl rfl rfl rfl rfl (lB rfl) rfl rfl) ?_
   rintro _ w_6 ⟨rfl, hS10⟩
   refine rw_nil (cw_seq (cw_seq (cw_region ?_)))
   refine sQ 11 (Y_assign (v := vi 0) rfl rfl) (rw_nil ?_)
   obtain ⟨z2, hz2, hF3⟩ := bind_inv hb1
   refine cw_block ?_
   refine cw_loop (fun k f w => ∃ (bad2 : Bool) (A : Int) (B6 : Int) (C : Int) (D : Int) (Exp : Int) (k_4 : Int), FF f [(0, pt B 0), (4, pt (aD b1) 0), (5, pt (aD b2) 0), (6, pt (aD b3) 0), (7, pt (aD b4) 0), (8, vi (i1 : Int)), (9, vi (j : Int)), (10, pt (aD b5) 0), (11, vi k_4)] ∧ ST w0 (bl [⟨B, 82, [.bool c.bad], 1⟩]) w [⟨B, 82, [.bool bad2], 1⟩, ⟨aD b1, 48, kM_ a B1 c1, 3⟩, ⟨aD b2, 48, kM_ b B2 c2, 3⟩, ⟨aD b3, 48, kN_, 3⟩, ⟨aD b4, 48, [vi a.Rows, vi b.Cols, .slice B5 Cells1.length c5], 3⟩, ⟨B5, 65, (Cells1.flatMap eN0), c5 * 5⟩, ⟨aD b5, 65, [vi A, vi B6, vi C, vi D, vi Exp], 5⟩] [⟨B1, (a.Cells.flatMap eN0)⟩, ⟨B2, (b.Cells.flatMap eN0)⟩] ∧ whX (F_spec_l2C_times_l3 a Cells i1 b j bad) k (bad2, A, B6, C, D, Exp, k_4) = some z2) fuel ⟨bad1, 0, 0, 0, 0, 0, 0, (FF.cons (hf1.get 0 0 rfl) (FF.cons (hf1.get 4 1 rfl) (FF.cons (hf1.get 5 2 rfl) (FF.cons (hf1.get 6 3 rfl) (FF.cons (hf1.get 7 4 rfl) (FF.cons (hf1.get 8 5 rfl) (FF.cons (hf1.get 9 6 rfl) (FF.cons rfl (FF.cons rfl FF.nil))))))))), (hS10.sel [0, 1, 2, 3, 4, 5, 6] rfl rfl), hz2⟩ ?_
   rintro k_5 f w ⟨bad2, A, B6, C, D, Exp, k_4, hf2, hS11, hL4⟩
   obtain ⟨k_6, y2, rfl, hb2, hL5⟩ := whX_go hL4
   unfold F_spec_l2C_times_l3 at hb2
   refine cw_seq (cw_seq (cw_region ?_))
   refine sQ 30 (Y_move (v := vi k_4) rfl (hf2.get 11 8 rfl)) ?_
   refine sQ 31 (Y_fieldAddr (B := aD b1) (i := 0) (s := 0) k_fd_48_1_1_3 k_sz_3_1 rfl (hf2.get 4 1 rfl)) ?_
   refine sQ 32 (Y_load1 (B := aD b1) (i := 1) (cs := kM_ a B1 c1) (v := vi a.Cols) k_sc_3 rfl rfl (hS11.cf (i := 1) rfl) rfl) ?_
   refine sQ 33 (Y_lt (k := .i64) (a := k_4) (b := a.Cols) rfl rfl rfl) ?_
   refine sQ 34 (Y_move (v := .bool (decide (k_4 < a.Cols))) rfl rfl) ?_
   refine sgq 35 (B := (decide (k_4 < a.Cols))) (v := pt B 0) rfl rfl (uT_ 34) (fun hg => (Y_move (v := pt B 0) rfl (hf2.get 0 0 rfl))) ?_
   refine sgq 36 (B := (decide (k_4 < a.Cols))) (v := pt B 0) rfl rfl (uT_ 34) (fun hg1 => (Y_nilCheck (B := B) (i := 0) rfl (gv_of (v := pt B 0) hg1))) ?_
   refine sgq 37 (B := (decide (k_4 < a.Cols))) (v := pt B 0) rfl rfl (uT_ 34) (fun hg2 => (Y_fieldAddr (B := B) (i := 0) (s := 0) k_fd_82_0_0_4 k_sz_4_1 rfl (gv_of (v := pt B 0) hg2))) ?_
   refine sgq 38 (B := (decide (k_4 < a.Cols))) (v := .bool bad2) rfl rfl (uT_ 34) (fun hg3 => (Y_load1 (B := B) (i := 0) (cs := [.bool bad2]) (v := .bool bad2) k_sc_4 rfl (gv_of (v := pt B 0) hg3) (hS11.cf (i := 0) rfl) rfl)) ?_
   refine sgq 39 (B := (decide (k_4 < a.Cols))) (v := .bool (!bad2)) rfl rfl (uT_ 34) (fun hg4 => (Y_not (p := bad2) rfl (gv_of (v := .bool bad2) hg4))) ?_
   refine sQ 40 (Y_and (b := (decide (k_4 < a.Cols))) (z := (!bad2)) rfl rfl rfl rfl) (rw_nil ?_)
   refine cw_cond (b := ((decide (k_4 < a.Cols)) && (!bad2))) rfl (fun hb3 => ?_) (fun hb3 => ?_)
   ·skip
    have hF4 := ct hb2 hb3
    refine cw_skip (cw_seq (cw_block ?_))
    obtain ⟨x, hx, hF4⟩ := bind_inv hF4
    obtain ⟨x1, hx1, hF4⟩ := bind_inv hF4
    obtain ⟨⟨r_1, m1⟩, hc, hF4⟩ := bind_inv hF4
    obtain ⟨⟨r_2, m2⟩, hc1, hF4⟩ := bind_inv hF4
    refine cw_mid (fun f w => FF f [(0, pt B 0), (4, pt (aD b1) 0), (5, pt (aD b2) 0), (6, pt (aD b3) 0), (7, pt (aD b4) 0), (8, vi (i1 : Int)), (9, vi (j : Int)), (10, pt (aD b5) 0), (11, vi k_4)] ∧ ST w0 (bl [⟨B, 82, [.bool c.bad], 1⟩]) w [⟨B, 82, [.bool m2.bad], 1⟩, ⟨aD b1, 48, kM_ a B1 c1, 3⟩, ⟨aD b2, 48, kM_ b B2 c2, 3⟩, ⟨aD b3, 48, kN_, 3⟩, ⟨aD b4, 48, [vi a.Rows, vi b.Cols, .slice B5 Cells1.length c5], 3⟩, ⟨B5, 65, (Cells1.flatMap eN0), c5 * 5⟩, ⟨aD b5, 65, kD_ r_2, 5⟩] [⟨B1, (a.Cells.flatMap eN0)⟩, ⟨B2, (b.Cells.flatMap eN0)⟩]) ?_ ?_
    ·skip
     refine ra_start (hS11.se [1, 2, 3, 4, 5]).fn (by kernel_rfl) ?_
     have hS15 := hS11.drew
     refine rq 0 43 (v := pt B 0) rfl (hS15.se [1, 2, 3, 4, 5]) (fun w' hw' => (Y_move (v := pt B 0) rfl (hf2.get 0 0 rfl))) ?_
     refine rq 2 45 (v := pt B 0) rfl (hS15.se [1, 2, 3, 4, 5]) (fun w' hw' => (Y_move (v := pt B 0) rfl (hf2.get 0 0 rfl))) ?_
     refine rq 3 46 (v := pt (aD b1) 2) rfl (hS15.se [1, 2, 3, 4, 5]) (fun w' hw' => (Y_fieldAddr (B := aD b1) (i := 0) (s := 0) k_fd_48_2_2_28 k_sz_28_1 rfl (hf2.get 4 1 rfl))) ?_
     refine rq 4 47 (v := .slice B1 a.Cells.length c1) rfl (hS15.se [1, 2, 3, 4, 5]) (fun w' hw' => (Y_load1 (B := aD b1) (i := 2) (cs := kM_ a B1 c1) (v := .slice B1 a.Cells.length c1) k_sc_28 rfl rfl (ST.cf hw' (i := 0) rfl) rfl)) ?_
     refine rq 5 48 (v := vi (i1 : Int)) rfl (hS15.se [1, 2, 3, 4, 5]) (fun w' hw' => (Y_move (v := vi (i1 : Int)) rfl (hf2.get 8 5 rfl))) ?_
     refine rq 6 49 (v := pt (aD b1) 1) rfl (hS15.se [1, 2, 3, 4, 5]) (fun w' hw' => (Y_fieldAddr (B := aD b1) (i := 0) (s := 0) k_fd_48_1_1_3 k_sz_3_1 rfl (hf2.get 4 1 rfl))) ?_
     refine rq 7 50 (v := vi a.Cols) rfl (hS15.se [1, 2, 3, 4, 5]) (fun w' hw' => (Y_load1 (B := aD b1) (i := 1) (cs := kM_ a B1 c1) (v := vi a.Cols) k_sc_3 rfl rfl (ST.cf hw' (i := 0) rfl) rfl)) ?_
     refine rq 8 51 (v := vi (i64.wrap ((i1 : Int) * a.Cols))) rfl (hS15.se [1, 2, 3, 4, 5]) (fun w' hw' => (Y_mul (k := .i64) (a := (i1 : Int)) (b := a.Cols) rfl rfl rfl)) ?_
     refine rq 9 52 (v := vi k_4) rfl (hS15.se [1, 2, 3, 4, 5]) (fun w' hw' => (Y_move (v := vi k_4) rfl (hf2.get 11 8 rfl))) ?_
     refine rq 10 53 (v := vi (i64.wrap ((i64.wrap ((i1 : Int) * a.Cols)) + k_4))) rfl (hS15.se [1, 2, 3, 4, 5]) (fun w' hw' => (Y_add (k := .i64) (a := (i64.wrap ((i1 : Int) * a.Cols))) (b := k_4) rfl rfl rfl)) ?_
     refine rq 11 54 (v := pt B1 ((i64.wrap ((i64.wrap ((i1 : Int) * a.Cols)) + k_4)).toNat * 5)) rfl (hS15.se [1, 2, 3, 4, 5]) (fun w' hw' => (Y_index (B := B1) (m := a.Cells.length) (c := c1) (k := .i64) (i := (i64.wrap ((i64.wrap ((i1 : Int) * a.Cols)) + k_4))) k_sl_28_65 k_sz_65_5 rfl rfl rfl (gi_isSome eN2 rfl (ST.rf hw' (i := 0) rfl) hx) (getI_nn hx) (getI_ltI hx rfl))) ?_
     refine rq 12 55 (v := gD_ x) rfl (hS15.se [1, 2, 3, 4, 5]) (fun w' hw' => (Y_loadA (B := B1) (i := (i64.wrap ((i64.wrap ((i1 : Int) * a.Cols)) + k_4)).toNat * 5) (cs := (a.Cells.flatMap eN0)) (vs := kD_ x) k_ag_65 k_sz_65_5 rfl rfl (ST.rf hw' (i := 0) rfl) (eN2 x) (gi_seg eN2 hx))) ?_
     refine rq 13 56 (v := pt (aD b2) 2) rfl (hS15.se [1, 2, 3, 4, 5]) (fun w' hw' => (Y_fieldAddr (B := aD b2) (i := 0) (s := 0) k_fd_48_2_2_28 k_sz_28_1 rfl (hf2.get 5 2 rfl))) ?_
     refine rq 14 57 (v := .slice B2 b.Cells.length c2) rfl (hS15.se [1, 2, 3, 4, 5]) (fun w' hw' => (Y_load1 (B := aD b2) (i := 2) (cs := kM_ b B2 c2) (v := .slice B2 b.Cells.length c2) k_sc_28 rfl rfl (ST.cf hw' (i := 1) rfl) rfl)) ?_
     refine rq 15 58 (v := vi k_4) rfl (hS15.se [1, 2, 3, 4, 5]) (fun w' hw' => (Y_move (v := vi k_4) rfl (hf2.get 11 8 rfl))) ?_
     refine rq 16 59 (v := pt (aD b2) 1) rfl (hS15.se [1, 2, 3, 4, 5]) (fun w' hw' => (Y_fieldAddr (B := aD b2) (i := 0) (s := 0) k_fd_48_1_1_3 k_sz_3_1 rfl (hf2.get 5 2 rfl))) ?_
     refine rq 17 60 (v := vi b.Cols) rfl (hS15.se [1, 2, 3, 4, 5]) (fun w' hw' => (Y_load1 (B := aD b2) (i := 1) (cs := kM_ b B2 c2) (v := vi b.Cols) k_sc_3 rfl rfl (ST.cf hw' (i := 1) rfl) rfl)) ?_
     refine rq 18 61 (v := vi (i64.wrap (k_4 * b.Cols))) rfl (hS15.se [1, 2, 3, 4, 5]) (fun w' hw' => (Y_mul (k := .i64) (a := k_4) (b := b.Cols) rfl rfl rfl)) ?_
     refine rq 19 62 (v := vi (j : Int)) rfl (hS15.se [1, 2, 3, 4, 5]) (fun w' hw' => (Y_move (v := vi (j : Int)) rfl (hf2.get 9 6 rfl))) ?_
     refine rq 20 63 (v := vi (i64.wrap ((i64.wrap (k_4 * b.Cols)) + (j : Int)))) rfl (hS15.se [1, 2, 3, 4, 5]) (fun w' hw' => (Y_add (k := .i64) (a := (i64.wrap (k_4 * b.Cols))) (b := (j : Int)) rfl rfl rfl)) ?_
     refine rq 21 64 (v := pt B2 ((i64.wrap ((i64.wrap (k_4 * b.Cols)) + (j : Int))).toNat * 5)) rfl (hS15.se [1, 2, 3, 4, 5]) (fun w' hw' => (Y_index (B := B2) (m := b.Cells.length) (c := c2) (k := .i64) (i := (i64.wrap ((i64.wrap (k_4 * b.Cols)) + (j : Int)))) k_sl_28_65 k_sz_65_5 rfl rfl rfl (gi_isSome eN2 rfl (ST.rf hw' (i := 1) rfl) hx1) (getI_nn hx1) (getI_ltI hx1 rfl))) ?_
     refine rq 22 65 (v := gD_ x1) rfl (hS15.se [1, 2, 3, 4, 5]) (fun w' hw' => (Y_loadA (B := B2) (i := (i64.wrap ((i64.wrap (k_4 * b.Cols)) + (j : Int))).toNat * 5) (cs := (b.Cells.flatMap eN0)) (vs := kD_ x1) k_ag_65 k_sz_65_5 rfl rfl (ST.rf hw' (i := 1) rfl) (eN2 x1) (gi_seg eN2 hx1))) ?_
     refine rA [1, 23] ?_
     refine ra_y 44 (i := 1) (v := .agg #[vi A, vi B6, vi C, vi D, vi Exp]) rfl rfl rfl (Y_loadA (B := aD b5) (i := 0) (cs := [vi A, vi B6, vi C, vi D, vi Exp]) (vs := [vi A, vi B6, vi C, vi D, vi Exp]) k_ag_65 k_sz_65_5 rfl (hf2.get 10 7 rfl) (hS15.cf (i := 6) rfl) rfl rfl) (hS15.se [1, 2, 3, 4, 5]) ?_ ?_
     ·skip
      refine rA [23] ?_
      refine ra_c 66 (i := 23) rfl rfl rfl (Yc_func (g := 48) (vs := [pt B 0, gD_ x, gD_ x1]) k_call_48 rfl (mc rfl (mc rfl (mc rfl mn))) (c_spec_l2C_mul (Tl2C.mk bad2) x x1 B _  (hS15.inn [true, false, false, false, false, false, false] rfl [] rfl) hc)) ?_ ?_
      ·rintro _ w_7 ⟨rfl, hd⟩
       have hS16 := hS15.out [true, false, false, false, false, false, false] rfl hd
       refine ⟨(hS16.se [0, 1, 2, 3, 4]), ?_⟩
       refine rA [24] ?_
       refine ra_c 67 (i := 24) rfl rfl rfl (Yc_func (g := 50) (vs := [pt B 0, .agg #[vi A, vi B6, vi C, vi D, vi Exp], gD_ r_1]) k_call_50 rfl (mc rfl (mc rfl (mc rfl mn))) (c_spec_l2C_add m1 (TDyadic.mk (TRing.mk A B6 C D) Exp) r_1 B _  (hS16.inn [false, false, false, false, false, false, true] rfl [] rfl) hc1)) ?_ ?_
       ·rintro _ w_8 ⟨rfl, hd1⟩
        have hS17 := hS16.out [false, false, false, false, false, false, true] rfl hd1
        refine ⟨(hS17.se [0, 1, 2, 3, 4]), ?_⟩
        refine rA [25] ?_
        refine ra_s0 (i := 25) rfl rfl rfl (Ys_store (i := 5) (s := 5) (B := aD b5) (T' := 65) (v := gD_ r_2) (vs := kD_ r_2) (k := 0) (cs' := kD_ r_2) hS17 k_sz_65_5 rfl (hf2.get 10 7 rfl) rfl rfl rfl rfl rfl (lB rfl) rfl rfl) ?_ ?_
        ·rintro _ w_9 ⟨rfl, hS18⟩
         refine ⟨(hS18.se [0, 1, 2, 3, 4]), ?_⟩
         refine ra_done (by kernel_rfl) ?_
         exact ⟨(FF.cons (hf2.get 0 0 rfl) (FF.cons (hf2.get 4 1 rfl) (FF.cons (hf2.get 5 2 rfl) (FF.cons (hf2.get 6 3 rfl) (FF.cons (hf2.get 7 4 rfl) (FF.cons (hf2.get 8 5 rfl) (FF.cons (hf2.get 9 6 rfl) (FF.cons (hf2.get 10 7 rfl) (FF.cons (hf2.get 11 8 rfl) FF.nil))))))))), (hS18.sel [6, 0, 1, 2, 3, 4, 5] rfl rfl)⟩
        exact allR_nil
       exact allR_nil
      exact allR_nil
     refine ra_c 66 (i := 23) rfl rfl rfl (Yc_func (g := 48) (vs := [pt B 0, gD_ x, gD_ x1]) k_call_48 rfl (mc rfl (mc rfl (mc rfl mn))) (c_spec_l2C_mul (Tl2C.mk bad2) x x1 B _  (hS15.inn [true, false, false, false, false, false, false] rfl [] rfl) hc)) ?_ ?_
     ·rintro _ w_10 ⟨rfl, hd2⟩
      have hS19 := hS15.out [true, false, false, false, false, false, false] rfl hd2
      refine ⟨(hS19.se [0, 1, 2, 3, 4]), ?_⟩
      refine rA [1] ?_
      refine ra_y 44 (i := 1) (v := .agg #[vi A, vi B6, vi C, vi D, vi Exp]) rfl rfl rfl (Y_loadA (B := aD b5) (i := 0) (cs := [vi A, vi B6, vi C, vi D, vi Exp]) (vs := [vi A, vi B6, vi C, vi D, vi Exp]) k_ag_65 k_sz_65_5 rfl (hf2.get 10 7 rfl) (hS19.cf (i := 5) rfl) rfl rfl) (hS19.se [0, 1, 2, 3, 4]) ?_ ?_
      ·skip
       refine rA [24] ?_
       refine ra_c 67 (i := 24) rfl rfl rfl (Yc_func (g := 50) (vs := [pt B 0, .agg #[vi A, vi B6, vi C, vi D, vi Exp], gD_ r_1]) k_call_50 rfl (mc rfl (mc rfl (mc rfl mn))) (c_spec_l2C_add m1 (TDyadic.mk (TRing.mk A B6 C D) Exp) r_1 B _  (hS19.inn [false, false, false, false, false, false, true] rfl [] rfl) hc1)) ?_ ?_
       ·rintro _ w_11 ⟨rfl, hd3⟩
        have hS20 := hS19.out [false, false, false, false, false, false, true] rfl hd3
        refine ⟨(hS20.se [0, 1, 2, 3, 4]), ?_⟩
        refine rA [25] ?_
        refine ra_s0 (i := 25) rfl rfl rfl (Ys_store (i := 5) (s := 5) (B := aD b5) (T' := 65) (v := gD_ r_2) (vs := kD_ r_2) (k := 0) (cs' := kD_ r_2) hS20 k_sz_65_5 rfl (hf2.get 10 7 rfl) rfl rfl rfl rfl rfl (lB rfl) rfl rfl) ?_ ?_
        ·rintro _ w_12 ⟨rfl, hS21⟩
         refine ⟨(hS21.se [0, 1, 2, 3, 4]), ?_⟩
         refine ra_done (by kernel_rfl) ?_
         exact ⟨(FF.cons (hf2.get 0 0 rfl) (FF.cons (hf2.get 4 1 rfl) (FF.cons (hf2.get 5 2 rfl) (FF.cons (hf2.get 6 3 rfl) (FF.cons (hf2.get 7 4 rfl) (FF.cons (hf2.get 8 5 rfl) (FF.cons (hf2.get 9 6 rfl) (FF.cons (hf2.get 10 7 rfl) (FF.cons (hf2.get 11 8 rfl) FF.nil))))))))), (hS21.sel [6, 0, 1, 2, 3, 4, 5] rfl rfl)⟩
        exact allR_nil
       exact allR_nil
      exact allR_nil
     exact allR_nil
    rintro f w ⟨hf3, hS14⟩
    refine cw_region ?_
    refine sQ 41 (Y_move (v := vi k_4) rfl (hf3.get 11 8 rfl)) ?_
    refine sQ 42 (Y_add (k := .i64) (a := k_4) (b := 1) rfl rfl rfl) ?_
    refine sQ 11 (Y_assign (v := vi (i64.wrap (k_4 + 1))) rfl rfl) (rw_nil ?_)
    obtain rfl := some_inj hF4
    exact ⟨k_6, Nat.lt_succ_self _, m2.bad, r_2.Num.A, r_2.Num.B, r_2.Num.C, r_2.Num.D, r_2.Exp, (i64.wrap (k_4 + 1)), (FF.cons (hf3.get 0 0 rfl) (FF.cons (hf3.get 4 1 rfl) (FF.cons (hf3.get 5 2 rfl) (FF.cons (hf3.get 6 3 rfl) (FF.cons (hf3.get 7 4 rfl) (FF.cons (hf3.get 8 5 rfl) (FF.cons (hf3.get 9 6 rfl) (FF.cons (hf3.get 10 7 rfl) (FF.cons rfl FF.nil))))))))), (hS14.sel [0, 1, 2, 3, 4, 5, 6] rfl rfl), hL5⟩
   ·skip
    have hF5 := cf' hb2 hb3
    refine cw_exit rfl ?_
    obtain rfl := some_inj hF5
    obtain rfl := some_inj hL5
    refine cw_region ?_
    refine sQ 68 (Y_fieldAddr (B := aD b4) (i := 0) (s := 0) k_fd_48_2_2_28 k_sz_28_1 rfl (hf2.get 7 4 rfl)) ?_
    refine sQ 69 (Y_load1 (B := aD b4) (i := 2) (cs := [vi a.Rows, vi b.Cols, .slice B5 Cells1.length c5]) (v := .slice B5 Cells1.length c5) k_sc_28 rfl rfl (hS11.cf (i := 4) rfl) rfl) ?_
    refine sQ 70 (Y_loadA (B := aD b5) (i := 0) (cs := [vi A, vi B6, vi C, vi D, vi Exp]) (vs := [vi A, vi B6, vi C, vi D, vi Exp]) k_ag_65 k_sz_65_5 rfl (hf2.get 10 7 rfl) (hS11.cf (i := 6) rfl) rfl rfl) ?_
    refine sS 71 (Ys_bslice (s := 5) (len := 1) (vs := [(0, .agg #[vi A, vi B6, vi C, vi D, vi Exp])]) (cs := [vi A, vi B6, vi C, vi D, vi Exp]) (zs := kZ_) (m := 5) hS11 k_sl_28_65 k_sz_65_5 k_zc_65 rfl (mpc rfl mpn) rfl rfl rfl (by kernel_rfl) (by kernel_rfl) rfl) ?_
    rintro _ w_13 ⟨b6, rfl, hS22⟩
    obtain ⟨hap, hF3⟩ := chk_inv hF3
    refine sS 72 (Ys_append (s := 5) (by' := 40) (i := 5) (nn := Cells1.length) (c := c5) (k := 1) (len := (Cells1 ++ [(TDyadic.mk (TRing.mk A B6 C D) Exp)]).length) (B := B5) (xs := ([(TDyadic.mk (TRing.mk A B6 C D) Exp)].flatMap eN0)) (cs' := ((Cells1 ++ [(TDyadic.mk (TRing.mk A B6 C D) Exp)]).flatMap eN0)) hS22 k_sl_28_65 k_sz_65_5 k_by_65_40 k_zero_65 rfl (by decide) rfl rfl rfl rfl (fm_lenn (l := Cells1) eN2 rfl) rfl (hS22.cf (i := 7) rfl) (fm_lenn (l := [(TDyadic.mk (TRing.mk A B6 C D) Exp)]) eN2 rfl) (fm_one' (enc := eN0) enc_Dyadic_one [(TDyadic.mk (TRing.mk A B6 C D) Exp)]) (by have := hap; omega) (by have := hap; simp only [maxLen]; omega) (fm_app _ _) (app_len (l := Cells1) (l' := [(TDyadic.mk (TRing.mk A B6 C D) Exp)]) rfl rfl)) ?_
    rintro _ w_14 ⟨B7, c6, rfl, hS23⟩
    refine sQ 73 (Y_fieldAddr (B := aD b4) (i := 0) (s := 0) k_fd_48_2_2_28 k_sz_28_1 rfl (hf2.get 7 4 rfl)) ?_
    refine s0 (Ys_store (i := 4) (s := 1) (B := aD b4) (T' := 48) (v := .slice B7 ((Cells1 ++ [(TDyadic.mk (TRing.mk A B6 C D) Exp)]).length) c6) (vs := [.slice B7 ((Cells1 ++ [(TDyadic.mk (TRing.mk A B6 C D) Exp)]).length) c6]) (k := 2) (cs' := [vi a.Rows, vi b.Cols, .slice B7 ((Cells1 ++ [(TDyadic.mk (TRing.mk A B6 C D) Exp)]).length) c6]) hS23 k_sz_28_1 rfl rfl rfl rfl rfl rfl rfl (lB rfl) rfl rfl) ?_
    rintro _ w_15 ⟨rfl, hS24⟩
    refine rw_nil (cw_region ?_)
    refine sQ 27 (Y_move (v := vi (j : Int)) rfl (hf2.get 9 6 rfl)) ?_
    refine sQ 28 (Y_add (k := .i64) (a := (j : Int)) (b := 1) rfl rfl rfl) ?_
    refine sQ 9 (Y_assign (v := vi (i64.wrap ((j : Int) + 1))) rfl rfl) (rw_nil ?_)
    obtain rfl := some_inj hF3
    exact ⟨k_3, Nat.lt_succ_self _, j + 1, bad2, (Cells1 ++ [(TDyadic.mk (TRing.mk A B6 C D) Exp)]), B7, c6, (FF.cons (hf2.get 0 0 rfl) (FF.cons (hf2.get 4 1 rfl) (FF.cons (hf2.get 5 2 rfl) (FF.cons (hf2.get 6 3 rfl) (FF.cons (hf2.get 7 4 rfl) (FF.cons (hf2.get 8 5 rfl) (FF.cons (congrArg (Value.int .i64) (wr_succ hlt3 hN1)) FF.nil))))))), (hS24.sel [0, 1, 2, 3, 4, 5] rfl rfl), (by omega), hL3⟩
  ·skip
   obtain rfl : k_2 = 0 := by have h := of_decide_eq_false hlt2; omega
   refine cw_exit rfl ?_
   obtain rfl := some_inj hL2
   refine cw_region ?_
   refine sQ 21 (Y_move (v := vi (i1 : Int)) rfl (hf1.get 8 5 rfl)) ?_
   refine sQ 22 (Y_add (k := .i64) (a := (i1 : Int)) (b := 1) rfl rfl rfl) ?_
   refine sQ 8 (Y_assign (v := vi (i64.wrap ((i1 : Int) + 1))) rfl rfl) (rw_nil ?_)
   obtain rfl := some_inj hF2
   exact ⟨k_1, Nat.lt_succ_self _, i1 + 1, bad1, Cells1, B5, c5, (FF.cons (hf1.get 0 0 rfl) (FF.cons (hf1.get 4 1 rfl) (FF.cons (hf1.get 5 2 rfl) (FF.cons (hf1.get 6 3 rfl) (FF.cons (hf1.get 7 4 rfl) (FF.cons (congrArg (Value.int .i64) (wr_succ hlt1 hN)) FF.nil)))))), (hS8.sel [0, 1, 2, 3, 4, 5] rfl rfl), (by omega), hL1⟩
 ·skip
  obtain rfl : k_ = 0 := by have h := of_decide_eq_false hlt; omega
  refine cw_exit rfl ?_
  obtain rfl := some_inj hL
  refine cw_seq (cw_region ?_)
  refine sQ 74 (Y_loadA (B := aD b4) (i := 0) (cs := [vi a.Rows, vi b.Cols, .slice B4 Cells.length c4]) (vs := [vi a.Rows, vi b.Cols, .slice B4 Cells.length c4]) k_ag_48 k_sz_48_3 rfl (hf.get 7 4 rfl) (hS6.cf (i := 4) rfl) rfl rfl) ?_
  refine s0 (Ys_store (i := 3) (s := 3) (B := aD b3) (T' := 48) (v := .agg #[vi a.Rows, vi b.Cols, .slice B4 Cells.length c4]) (vs := [vi a.Rows, vi b.Cols, .slice B4 Cells.length c4]) (k := 0) (cs' := [vi a.Rows, vi b.Cols, .slice B4 Cells.length c4]) hS6 k_sz_48_3 rfl (hf.get 6 3 rfl) rfl rfl rfl rfl rfl (lB rfl) rfl rfl) ?_
  rintro _ w_16 ⟨rfl, hS25⟩
  refine rw_nil (cw_ret ?_)
  obtain ⟨rfl, rfl⟩ := pr2 (some_inj hF1)
  exact ret1 Tryz.results98 (v1 := .agg #[vi a.Rows, vi b.Cols, .slice B4 Cells.length c4]) (resAt_cellA (B := aD b3) (i := 0) (cs := [vi a.Rows, vi b.Cols, .slice B4 Cells.length c4]) (vs := [vi a.Rows, vi b.Cols, .slice B4 Cells.length c4]) (hf.get 6 3 rfl) k_ag_48 k_sz_48_3 (hS25.cf (i := 3) rfl) rfl rfl) ⟨B4, c4, rfl, (hS25.sN [0, 5])⟩

theorem c_spec_l1Neg (x : TRing)  (w0 : World)  (hS : ST w0 [] w0 [] []) {r_ : TRing} (hF : F_spec_l1Neg x = some r_) :
  CV Tryz.prog 96 #[gR_ x] w0 (fun v w' => v = (gR_ r_) ∧ ST w0 [] w' [] []) := by
 unfold F_spec_l1Neg at hF
 refine cv_of_cw 16 Tryz.func96 rfl Tryz.ntmps96 rfl ?_
 refine cw_seq (cw_region ?_)
 refine sS 1 (Ys_box (T := 63) (v := gR_ x) (cs := kR_ x) (m := 4) hS rfl rfl rfl rfl) ?_
 rintro _ w_ ⟨b, rfl, hS1⟩
 refine sS 2 (Ys_alloc (T := 63) (cs := [vi 0, vi 0, vi 0, vi 0]) (m := 4) hS1 k_zero_63 rfl rfl rfl) ?_
 rintro _ w_1 ⟨b1, rfl, hS2⟩
 refine rw_nil (cw_seq (cw_region ?_))
 refine sQ 3 (Y_fieldAddr (B := aD b) (i := 0) (s := 0) k_fd_63_0_0_3 k_sz_3_1 rfl rfl) ?_
 refine sQ 4 (Y_load1 (B := aD b) (i := 0) (cs := kR_ x) (v := vi x.A) k_sc_3 rfl rfl (hS2.cf (i := 0) rfl) rfl) ?_
 refine sQ 5 (Y_neg (k := .i64) (a := x.A) rfl rfl) ?_
 refine sQ 6 (Y_fieldAddr (B := aD b) (i := 0) (s := 0) k_fd_63_1_1_3 k_sz_3_1 rfl rfl) ?_
 refine sQ 7 (Y_load1 (B := aD b) (i := 1) (cs := kR_ x) (v := vi x.B) k_sc_3 rfl rfl (hS2.cf (i := 0) rfl) rfl) ?_
 refine sQ 8 (Y_neg (k := .i64) (a := x.B) rfl rfl) ?_
 refine sQ 9 (Y_fieldAddr (B := aD b) (i := 0) (s := 0) k_fd_63_2_2_3 k_sz_3_1 rfl rfl) ?_
 refine sQ 10 (Y_load1 (B := aD b) (i := 2) (cs := kR_ x) (v := vi x.C) k_sc_3 rfl rfl (hS2.cf (i := 0) rfl) rfl) ?_
 refine sQ 11 (Y_neg (k := .i64) (a := x.C) rfl rfl) ?_
 refine sQ 12 (Y_fieldAddr (B := aD b) (i := 0) (s := 0) k_fd_63_3_3_3 k_sz_3_1 rfl rfl) ?_
 refine sQ 13 (Y_load1 (B := aD b) (i := 3) (cs := kR_ x) (v := vi x.D) k_sc_3 rfl rfl (hS2.cf (i := 0) rfl) rfl) ?_
 refine sQ 14 (Y_neg (k := .i64) (a := x.D) rfl rfl) ?_
 refine sQ 15 (Y_buildS (zs := [vi 0, vi 0, vi 0, vi 0]) (vs := [(0, vi (i64.wrap (-x.A))), (1, vi (i64.wrap (-x.B))), (2, vi (i64.wrap (-x.C))), (3, vi (i64.wrap (-x.D)))]) (cs := [vi (i64.wrap (-x.A)), vi (i64.wrap (-x.B)), vi (i64.wrap (-x.C)), vi (i64.wrap (-x.D))]) k_pl_63 k_zero_63 rfl (mpc rfl (mpc rfl (mpc rfl (mpc rfl mpn)))) rfl) ?_
 refine s0 (Ys_store (i := 1) (s := 4) (B := aD b1) (T' := 63) (v := .agg #[vi (i64.wrap (-x.A)), vi (i64.wrap (-x.B)), vi (i64.wrap (-x.C)), vi (i64.wrap (-x.D))]) (vs := [vi (i64.wrap (-x.A)), vi (i64.wrap (-x.B)), vi (i64.wrap (-x.C)), vi (i64.wrap (-x.D))]) (k := 0) (cs' := [vi (i64.wrap (-x.A)), vi (i64.wrap (-x.B)), vi (i64.wrap (-x.C)), vi (i64.wrap (-x.D))]) hS2 k_sz_63_4 rfl rfl rfl rfl rfl rfl rfl (lB rfl) rfl rfl) ?_
 rintro _ w_2 ⟨rfl, hS3⟩
 refine rw_nil (cw_ret ?_)
 obtain rfl := some_inj hF
 exact ret1 Tryz.results96 (v1 := .agg #[vi (i64.wrap (-x.A)), vi (i64.wrap (-x.B)), vi (i64.wrap (-x.C)), vi (i64.wrap (-x.D))]) (resAt_cellA (B := aD b1) (i := 0) (cs := [vi (i64.wrap (-x.A)), vi (i64.wrap (-x.B)), vi (i64.wrap (-x.C)), vi (i64.wrap (-x.D))]) (vs := [vi (i64.wrap (-x.A)), vi (i64.wrap (-x.B)), vi (i64.wrap (-x.C)), vi (i64.wrap (-x.D))]) rfl k_ag_63 k_sz_63_4 (hS3.cf (i := 1) rfl) rfl rfl) ⟨rfl, (hS3.sN [])⟩

theorem c_spec_l2Neg (x : TDyadic)  (w0 : World)  (hS : ST w0 [] w0 [] []) {r_ : TDyadic} (hF : F_spec_l2Neg x = some r_) :
  CV Tryz.prog 51 #[gD_ x] w0 (fun v w' => v = (gD_ r_) ∧ ST w0 [] w' [] []) := by
 unfold F_spec_l2Neg at hF
 refine cv_of_cw 9 Tryz.func51 rfl Tryz.ntmps51 rfl ?_
 refine cw_seq (cw_region ?_)
 refine sS 1 (Ys_box (T := 65) (v := gD_ x) (cs := kD_ x) (m := 5) hS rfl rfl rfl rfl) ?_
 rintro _ w_ ⟨b, rfl, hS1⟩
 refine sS 2 (Ys_alloc (T := 65) (cs := kZ_) (m := 5) hS1 k_zero_65 rfl rfl rfl) ?_
 rintro _ w_1 ⟨b1, rfl, hS2⟩
 refine rw_nil (cw_seq ?_)
 obtain ⟨r_1, hc, hF⟩ := bind_inv hF
 refine ra_start (hS2.se [0]).fn (by kernel_rfl) ?_
 have hS4 := hS2.drew
 refine rq 0 3 (v := pt (aD b) 0) rfl (hS4.se [0]) (fun w' hw' => (Y_fieldAddr (B := aD b) (i := 0) (s := 3) k_fd_65_0_0_63 k_sz_63_4 rfl rfl)) ?_
 refine rq 1 4 (v := gR_ x.Num) rfl (hS4.se [0]) (fun w' hw' => (Y_loadA (B := aD b) (i := 0) (cs := kD_ x) (vs := kR_ x.Num) k_ag_63 k_sz_63_4 rfl rfl (ST.cf hw' (i := 0) rfl) rfl rfl)) ?_
 refine rq 3 6 (v := pt (aD b) 4) rfl (hS4.se [0]) (fun w' hw' => (Y_fieldAddr (B := aD b) (i := 0) (s := 0) k_fd_65_1_4_3 k_sz_3_1 rfl rfl)) ?_
 refine rq 4 7 (v := vi x.Exp) rfl (hS4.se [0]) (fun w' hw' => (Y_load1 (B := aD b) (i := 4) (cs := kD_ x) (v := vi x.Exp) k_sc_3 rfl rfl (ST.cf hw' (i := 0) rfl) rfl)) ?_
 refine rA [2] ?_
 refine ra_c 5 (i := 2) rfl rfl rfl (Yc_func (g := 96) (vs := [gR_ x.Num]) k_call_96 rfl (mc rfl mn) (c_spec_l1Neg x.Num _  (hS4.inn0 [] rfl) hc)) ?_ ?_
 ·rintro _ w_2 ⟨rfl, hd⟩
  have hS5 := hS4.out00 hd
  refine ⟨(hS5.se [0]), ?_⟩
  refine rq 5 8 (v := .agg #[vi r_1.A, vi r_1.B, vi r_1.C, vi r_1.D, vi x.Exp]) rfl (hS5.se [0]) (fun w' hw' => (Y_buildS (zs := kZ_) (vs := [(0, gR_ r_1), (1, vi x.Exp)]) (cs := [vi r_1.A, vi r_1.B, vi r_1.C, vi r_1.D, vi x.Exp]) k_pl_65 k_zero_65 rfl (mpc rfl (mpc rfl mpn)) rfl)) ?_
  refine rA [6] ?_
  refine ra_s0 (i := 6) rfl rfl rfl (Ys_store (i := 1) (s := 5) (B := aD b1) (T' := 65) (v := .agg #[vi r_1.A, vi r_1.B, vi r_1.C, vi r_1.D, vi x.Exp]) (vs := [vi r_1.A, vi r_1.B, vi r_1.C, vi r_1.D, vi x.Exp]) (k := 0) (cs' := [vi r_1.A, vi r_1.B, vi r_1.C, vi r_1.D, vi x.Exp]) hS5 k_sz_65_5 rfl rfl rfl rfl rfl rfl rfl (lB rfl) rfl rfl) ?_ ?_
  ·rintro _ w_3 ⟨rfl, hS6⟩
   refine ⟨(hS6.se [0]), ?_⟩
   refine ra_done (by kernel_rfl) ?_
   refine cw_ret ?_
   obtain rfl := some_inj hF
   exact ret1 Tryz.results51 (v1 := .agg #[vi r_1.A, vi r_1.B, vi r_1.C, vi r_1.D, vi x.Exp]) (resAt_cellA (B := aD b1) (i := 0) (cs := [vi r_1.A, vi r_1.B, vi r_1.C, vi r_1.D, vi x.Exp]) (vs := [vi r_1.A, vi r_1.B, vi r_1.C, vi r_1.D, vi x.Exp]) rfl k_ag_65 k_sz_65_5 (hS6.cf (i := 1) rfl) rfl rfl) ⟨rfl, (hS6.sN [])⟩
  exact allR_nil
 exact allR_nil

theorem c_spec_l1Turn (x : TRing) (k_ : Int)  (w0 : World)  (hS : ST w0 [] w0 [] []) {r_ : TRing} (hF : F_spec_l1Turn x k_ = some r_) :
  CV Tryz.prog 97 #[gR_ x, vi k_] w0 (fun v w' => v = (gR_ r_) ∧ ST w0 [] w' [] []) := by
 unfold F_spec_l1Turn at hF
 refine cv_of_cw 24 Tryz.func97 rfl Tryz.ntmps97 rfl ?_
 refine cw_seq (cw_region ?_)
 refine sS 2 (Ys_box (T := 63) (v := gR_ x) (cs := kR_ x) (m := 4) hS rfl rfl rfl rfl) ?_
 rintro _ w_ ⟨b, rfl, hS1⟩
 refine sS 4 (Ys_alloc (T := 63) (cs := [vi 0, vi 0, vi 0, vi 0]) (m := 4) hS1 k_zero_63 rfl rfl rfl) ?_
 rintro _ w_1 ⟨b1, rfl, hS2⟩
 refine rw_nil (cw_seq (cw_seq (cw_region ?_)))
 refine sQ 5 (Y_move (v := vi k_) rfl rfl) ?_
 refine sQ 6 (Y_rem (k := .i64) (a := k_) (b := 8) rfl rfl rfl (by decide)) ?_
 refine sQ 7 (Y_add (k := .i64) (a := (Int.tmod k_ 8)) (b := 8) rfl rfl rfl) ?_
 refine sQ 8 (Y_rem (k := .i64) (a := (i64.wrap ((Int.tmod k_ 8) + 8))) (b := 8) rfl rfl rfl (by decide)) ?_
 refine sQ 1 (Y_assign (v := vi (Int.tmod (i64.wrap ((Int.tmod k_ 8) + 8)) 8)) rfl rfl) (rw_nil ?_)
 obtain ⟨z, hz, hF1⟩ := bind_inv hF
 refine cw_block ?_
 refine cw_loop (fun k f w => ∃ (k_1 : Int) (A : Int) (B : Int) (C : Int) (D : Int), FF f [(1, vi k_1), (2, pt (aD b) 0), (4, pt (aD b1) 0)] ∧ ST w0 [] w [⟨aD b, 63, [vi A, vi B, vi C, vi D], 4⟩, ⟨aD b1, 63, [vi 0, vi 0, vi 0, vi 0], 4⟩] [] ∧ whX F_spec_l1Turn_l1 k (k_1, A, B, C, D) = some z) fuel ⟨(Int.tmod (i64.wrap ((Int.tmod k_ 8) + 8)) 8), x.A, x.B, x.C, x.D, (FF.cons rfl (FF.cons rfl (FF.cons rfl FF.nil))), (hS2.sel [0, 1] rfl rfl), hz⟩ ?_
 rintro k_2 f w ⟨k_1, A, B, C, D, hf, hS3, hL⟩
 obtain ⟨k_3, y, rfl, hb, hL1⟩ := whX_go hL
 unfold F_spec_l1Turn_l1 at hb
 refine cw_seq (cw_seq (cw_region ?_))
 refine sQ 9 (Y_move (v := vi k_1) rfl (hf.get 1 0 rfl)) ?_
 refine sQ 10 (Y_gt (k := .i64) (a := k_1) (b := 0) rfl rfl rfl) (rw_nil ?_)
 refine cw_cond (b := (decide (0 < k_1))) rfl (fun hb1 => ?_) (fun hb1 => ?_)
 ·skip
  have hF2 := ct hb hb1
  refine cw_skip (cw_seq (cw_block (cw_region ?_)))
  refine sQ 13 (Y_fieldAddr (B := aD b) (i := 0) (s := 0) k_fd_63_3_3_3 k_sz_3_1 rfl (hf.get 2 1 rfl)) ?_
  refine sQ 14 (Y_load1 (B := aD b) (i := 3) (cs := [vi A, vi B, vi C, vi D]) (v := vi D) k_sc_3 rfl rfl (hS3.cf (i := 0) rfl) rfl) ?_
  refine sQ 15 (Y_neg (k := .i64) (a := D) rfl rfl) ?_
  refine sQ 16 (Y_fieldAddr (B := aD b) (i := 0) (s := 0) k_fd_63_0_0_3 k_sz_3_1 rfl (hf.get 2 1 rfl)) ?_
  refine sQ 17 (Y_load1 (B := aD b) (i := 0) (cs := [vi A, vi B, vi C, vi D]) (v := vi A) k_sc_3 rfl rfl (hS3.cf (i := 0) rfl) rfl) ?_
  refine sQ 18 (Y_fieldAddr (B := aD b) (i := 0) (s := 0) k_fd_63_1_1_3 k_sz_3_1 rfl (hf.get 2 1 rfl)) ?_
  refine sQ 19 (Y_load1 (B := aD b) (i := 1) (cs := [vi A, vi B, vi C, vi D]) (v := vi B) k_sc_3 rfl rfl (hS3.cf (i := 0) rfl) rfl) ?_
  refine sQ 20 (Y_fieldAddr (B := aD b) (i := 0) (s := 0) k_fd_63_2_2_3 k_sz_3_1 rfl (hf.get 2 1 rfl)) ?_
  refine sQ 21 (Y_load1 (B := aD b) (i := 2) (cs := [vi A, vi B, vi C, vi D]) (v := vi C) k_sc_3 rfl rfl (hS3.cf (i := 0) rfl) rfl) ?_
  refine sQ 22 (Y_buildS (zs := [vi 0, vi 0, vi 0, vi 0]) (vs := [(0, vi (i64.wrap (-D))), (1, vi A), (2, vi B), (3, vi C)]) (cs := [vi (i64.wrap (-D)), vi A, vi B, vi C]) k_pl_63 k_zero_63 rfl (mpc rfl (mpc rfl (mpc rfl (mpc rfl mpn)))) rfl) ?_
  refine s0 (Ys_store (i := 0) (s := 4) (B := aD b) (T' := 63) (v := .agg #[vi (i64.wrap (-D)), vi A, vi B, vi C]) (vs := [vi (i64.wrap (-D)), vi A, vi B, vi C]) (k := 0) (cs' := [vi (i64.wrap (-D)), vi A, vi B, vi C]) hS3 k_sz_63_4 rfl (hf.get 2 1 rfl) rfl rfl rfl rfl rfl (lB rfl) rfl rfl) ?_
  rintro _ w_2 ⟨rfl, hS4⟩
  refine rw_nil (cw_region ?_)
  refine sQ 11 (Y_move (v := vi k_1) rfl (hf.get 1 0 rfl)) ?_
  refine sQ 12 (Y_sub (k := .i64) (a := k_1) (b := 1) rfl rfl rfl) ?_
  refine sQ 1 (Y_assign (v := vi (i64.wrap (k_1 - 1))) rfl rfl) (rw_nil ?_)
  obtain rfl := some_inj hF2
  exact ⟨k_3, Nat.lt_succ_self _, (i64.wrap (k_1 - 1)), (i64.wrap (-D)), A, B, C, (FF.cons rfl (FF.cons (hf.get 2 1 rfl) (FF.cons (hf.get 4 2 rfl) FF.nil))), (hS4.sel [0, 1] rfl rfl), hL1⟩
 ·skip
  have hF3 := cf' hb hb1
  refine cw_exit rfl ?_
  obtain rfl := some_inj hF3
  obtain rfl := some_inj hL1
  refine cw_seq (cw_region ?_)
  refine sQ 23 (Y_loadA (B := aD b) (i := 0) (cs := [vi A, vi B, vi C, vi D]) (vs := [vi A, vi B, vi C, vi D]) k_ag_63 k_sz_63_4 rfl (hf.get 2 1 rfl) (hS3.cf (i := 0) rfl) rfl rfl) ?_
  refine s0 (Ys_store (i := 1) (s := 4) (B := aD b1) (T' := 63) (v := .agg #[vi A, vi B, vi C, vi D]) (vs := [vi A, vi B, vi C, vi D]) (k := 0) (cs' := [vi A, vi B, vi C, vi D]) hS3 k_sz_63_4 rfl (hf.get 4 2 rfl) rfl rfl rfl rfl rfl (lB rfl) rfl rfl) ?_
  rintro _ w_3 ⟨rfl, hS5⟩
  refine rw_nil (cw_ret ?_)
  obtain rfl := some_inj hF1
  exact ret1 Tryz.results97 (v1 := .agg #[vi A, vi B, vi C, vi D]) (resAt_cellA (B := aD b1) (i := 0) (cs := [vi A, vi B, vi C, vi D]) (vs := [vi A, vi B, vi C, vi D]) (hf.get 4 2 rfl) k_ag_63 k_sz_63_4 (hS5.cf (i := 1) rfl) rfl rfl) ⟨rfl, (hS5.sN [])⟩

theorem c_spec_l2Power (k_ : Int)  (w0 : World)  (hS : ST w0 [] w0 [] []) {r_ : TDyadic} (hF : F_spec_l2Power k_ = some r_) :
  CV Tryz.prog 54 #[vi k_] w0 (fun v w' => v = (gD_ r_) ∧ ST w0 [] w' [] []) := by
 unfold F_spec_l2Power at hF
 refine cv_of_cw 7 Tryz.func54 rfl Tryz.ntmps54 rfl ?_
 refine cw_seq (cw_region ?_)
 refine sS 2 (Ys_alloc (T := 65) (cs := kZ_) (m := 5) hS k_zero_65 rfl rfl rfl) ?_
 rintro _ w_ ⟨b, rfl, hS1⟩
 refine rw_nil (cw_seq (cw_region ?_))
 refine sQ 3 (Y_buildS (zs := [vi 0, vi 0, vi 0, vi 0]) (vs := [(0, vi 1)]) (cs := [vi 1, vi 0, vi 0, vi 0]) k_pl_63 k_zero_63 rfl (mpc rfl mpn) rfl) ?_
 refine sQ 4 (Y_move (v := vi k_) rfl rfl) ?_
 obtain ⟨r_1, hc, hF⟩ := bind_inv hF
 refine sc 5 rfl rfl (Yc_func (g := 97) (vs := [.agg #[vi 1, vi 0, vi 0, vi 0], vi k_]) k_call_97 rfl (mc rfl (mc rfl mn)) (c_spec_l1Turn (TRing.mk 1 0 0 0) k_ _  (hS1.inn0 [] rfl) hc)) ?_
 rintro _ w_1 ⟨rfl, hd⟩
 have hS2 := hS1.out00 hd
 refine sQ 6 (Y_buildS (zs := kZ_) (vs := [(0, gR_ r_1)]) (cs := [vi r_1.A, vi r_1.B, vi r_1.C, vi r_1.D, vi 0]) k_pl_65 k_zero_65 rfl (mpc rfl mpn) rfl) ?_
 refine s0 (Ys_store (i := 0) (s := 5) (B := aD b) (T' := 65) (v := .agg #[vi r_1.A, vi r_1.B, vi r_1.C, vi r_1.D, vi 0]) (vs := [vi r_1.A, vi r_1.B, vi r_1.C, vi r_1.D, vi 0]) (k := 0) (cs' := [vi r_1.A, vi r_1.B, vi r_1.C, vi r_1.D, vi 0]) hS2 k_sz_65_5 rfl rfl rfl rfl rfl rfl rfl (lB rfl) rfl rfl) ?_
 rintro _ w_2 ⟨rfl, hS3⟩
 refine rw_nil (cw_ret ?_)
 obtain rfl := some_inj hF
 exact ret1 Tryz.results54 (v1 := .agg #[vi r_1.A, vi r_1.B, vi r_1.C, vi r_1.D, vi 0]) (resAt_cellA (B := aD b) (i := 0) (cs := [vi r_1.A, vi r_1.B, vi r_1.C, vi r_1.D, vi 0]) (vs := [vi r_1.A, vi r_1.B, vi r_1.C, vi r_1.D, vi 0]) rfl k_ag_65 k_sz_65_5 (hS3.cf (i := 0) rfl) rfl rfl) ⟨rfl, (hS3.sN [])⟩

theorem c_spec_l6One (kind : Int)  (w0 : World)  (hS : ST w0 [] w0 [] []) {r_ : List TDyadic} (hF : F_spec_l6One kind = some r_) :
  CV Tryz.prog 125 #[vi kind] w0 (fun v w' => ∃ (B : Option Addr) (c : Nat), v = .slice B r_.length c ∧ ST w0 [] w' [⟨B, 65, (r_.flatMap eN0), c * 5⟩] []) := by
 unfold F_spec_l6One at hF
 refine cv_of_cw 43 Tryz.func125 rfl Tryz.ntmps125 rfl ?_
 refine cw_seq (cw_region ?_)
 refine sQ 2 (Y_assign (v := .slice none 0 0) rfl rfl) (rw_nil (cw_seq (cw_region ?_)))
 obtain ⟨r_1, hc, hF⟩ := bind_inv hF
 refine sc 6 rfl rfl (Yc_func (g := 54) (vs := [vi 0]) k_call_54 rfl (mc rfl mn) (c_spec_l2Power 0 _  (hS.inn0 [] rfl) hc)) ?_
 rintro _ w_ ⟨rfl, hd⟩
 have hS1 := hS.out00 hd
 refine sQ 7 (Y_buildS (zs := kZ_) (vs := []) (cs := kZ_) k_pl_65 k_zero_65 rfl mpn rfl) ?_
 refine sS 3 (Ys_alloc (T := 65) (cs := kZ_) (m := 5) hS1 k_zero_65 rfl rfl rfl) ?_
 rintro _ w_1 ⟨b, rfl, hS2⟩
 refine sS 4 (Ys_alloc (T := 65) (cs := kZ_) (m := 5) hS2 k_zero_65 rfl rfl rfl) ?_
 rintro _ w_2 ⟨b1, rfl, hS3⟩
 refine s0 (Ys_store (i := 0) (s := 5) (B := aD b) (T' := 65) (v := gD_ r_1) (vs := kD_ r_1) (k := 0) (cs' := kD_ r_1) hS3 k_sz_65_5 rfl rfl rfl rfl rfl rfl rfl (lB rfl) rfl rfl) ?_
 rintro _ w_3 ⟨rfl, hS4⟩
 refine s0 (Ys_store (i := 1) (s := 5) (B := aD b1) (T' := 65) (v := gZ_) (vs := kZ_) (k := 0) (cs' := kZ_) hS4 k_sz_65_5 rfl rfl rfl rfl rfl rfl rfl (lB rfl) rfl rfl) ?_
 rintro _ w_4 ⟨rfl, hS5⟩
 refine rw_nil (cw_seq (cw_region ?_))
 refine sQ 8 (Y_buildS (zs := [vi 0, vi 0, vi 0, vi 0]) (vs := [(0, vi 1)]) (cs := [vi 1, vi 0, vi 0, vi 0]) k_pl_63 k_zero_63 rfl (mpc rfl mpn) rfl) ?_
 refine sQ 9 (Y_buildS (zs := kZ_) (vs := [(0, .agg #[vi 1, vi 0, vi 0, vi 0]), (1, vi 1)]) (cs := [vi 1, vi 0, vi 0, vi 0, vi 1]) k_pl_65 k_zero_65 rfl (mpc rfl (mpc rfl mpn)) rfl) ?_
 refine sS 5 (Ys_alloc (T := 65) (cs := kZ_) (m := 5) hS5 k_zero_65 rfl rfl rfl) ?_
 rintro _ w_5 ⟨b2, rfl, hS6⟩
 refine s0 (Ys_store (i := 2) (s := 5) (B := aD b2) (T' := 65) (v := .agg #[vi 1, vi 0, vi 0, vi 0, vi 1]) (vs := [vi 1, vi 0, vi 0, vi 0, vi 1]) (k := 0) (cs' := [vi 1, vi 0, vi 0, vi 0, vi 1]) hS6 k_sz_65_5 rfl rfl rfl rfl rfl rfl rfl (lB rfl) rfl rfl) ?_
 rintro _ w_6 ⟨rfl, hS7⟩
 refine rw_nil (cw_seq (cw_seq (cw_region ?_)))
 refine sQ 10 (Y_move (v := vi kind) rfl rfl) (rw_nil (cw_block (cw_seq (cw_region ?_))))
 refine sQ 12 (Y_eq (k := .i64) (a := kind) (b := 1) rfl rfl rfl) ?_
 refine sQ 11 (Y_assign (v := .bool (kind == 1)) rfl rfl) (rw_nil ?_)
 refine cw_cond (b := (kind == 1)) rfl (fun hb => ?_) (fun hb => ?_)
 ·skip
  have hF1 := ct hF hb
  refine cw_seq ?_
  obtain ⟨r_2, hc1, hF1⟩ := bind_inv hF1
  refine ra_start (hS7.se [0, 1, 2]).fn (by kernel_rfl) ?_
  have hS9 := hS7.drew
  refine rq 0 13 (v := .agg #[vi 1, vi 0, vi 0, vi 0, vi 1]) rfl (hS9.se [0, 1, 2]) (fun w' hw' => (Y_loadA (B := aD b2) (i := 0) (cs := [vi 1, vi 0, vi 0, vi 0, vi 1]) (vs := [vi 1, vi 0, vi 0, vi 0, vi 1]) k_ag_65 k_sz_65_5 rfl rfl (ST.cf hw' (i := 2) rfl) rfl rfl)) ?_
  refine rq 1 14 (v := .agg #[vi 1, vi 0, vi 0, vi 0, vi 1]) rfl (hS9.se [0, 1, 2]) (fun w' hw' => (Y_loadA (B := aD b2) (i := 0) (cs := [vi 1, vi 0, vi 0, vi 0, vi 1]) (vs := [vi 1, vi 0, vi 0, vi 0, vi 1]) k_ag_65 k_sz_65_5 rfl rfl (ST.cf hw' (i := 2) rfl) rfl rfl)) ?_
  refine rq 2 15 (v := .agg #[vi 1, vi 0, vi 0, vi 0, vi 1]) rfl (hS9.se [0, 1, 2]) (fun w' hw' => (Y_loadA (B := aD b2) (i := 0) (cs := [vi 1, vi 0, vi 0, vi 0, vi 1]) (vs := [vi 1, vi 0, vi 0, vi 0, vi 1]) k_ag_65 k_sz_65_5 rfl rfl (ST.cf hw' (i := 2) rfl) rfl rfl)) ?_
  refine rq 3 16 (v := .agg #[vi 1, vi 0, vi 0, vi 0, vi 1]) rfl (hS9.se [0, 1, 2]) (fun w' hw' => (Y_loadA (B := aD b2) (i := 0) (cs := [vi 1, vi 0, vi 0, vi 0, vi 1]) (vs := [vi 1, vi 0, vi 0, vi 0, vi 1]) k_ag_65 k_sz_65_5 rfl rfl (ST.cf hw' (i := 2) rfl) rfl rfl)) ?_
  refine rA [4] ?_
  refine ra_c 17 (i := 4) rfl rfl rfl (Yc_func (g := 51) (vs := [.agg #[vi 1, vi 0, vi 0, vi 0, vi 1]]) k_call_51 rfl (mc rfl mn) (c_spec_l2Neg (TDyadic.mk (TRing.mk 1 0 0 0) 1) _  (hS9.inn0 [] rfl) hc1)) ?_ ?_
  ·rintro _ w_7 ⟨rfl, hd1⟩
   have hS10 := hS9.out00 hd1
   refine ⟨(hS10.se [0, 1, 2]), ?_⟩
   refine rA [5] ?_
   refine ra_s 18 (i := 5) rfl rfl rfl (Ys_bslice (s := 5) (len := 4) (vs := [(0, .agg #[vi 1, vi 0, vi 0, vi 0, vi 1]), (1, .agg #[vi 1, vi 0, vi 0, vi 0, vi 1]), (2, .agg #[vi 1, vi 0, vi 0, vi 0, vi 1]), (3, gD_ r_2)]) (cs := [vi 1, vi 0, vi 0, vi 0, vi 1, vi 1, vi 0, vi 0, vi 0, vi 1, vi 1, vi 0, vi 0, vi 0, vi 1, vi r_2.Num.A, vi r_2.Num.B, vi r_2.Num.C, vi r_2.Num.D, vi r_2.Exp]) (zs := [vi 0, vi 0, vi 0, vi 0, vi 0, vi 0, vi 0, vi 0, vi 0, vi 0, vi 0, vi 0, vi 0, vi 0, vi 0, vi 0, vi 0, vi 0, vi 0, vi 0]) (m := 20) hS10 k_sl_28_65 k_sz_65_5 k_zc_65 rfl (mpc rfl (mpc rfl (mpc rfl (mpc rfl mpn)))) rfl rfl rfl (by kernel_rfl) (by kernel_rfl) rfl) ?_ ?_
   ·rintro _ w_8 ⟨b3, rfl, hS11⟩
    refine ⟨(hS11.se [0, 1, 2]), ?_⟩
    refine rq 6 2 (v := .slice (aD b3) 4 4) rfl (hS11.se [0, 1, 2]) (fun w' hw' => (Y_assign (v := .slice (aD b3) 4 4) rfl rfl)) ?_
    refine ra_done (by kernel_rfl) ?_
    refine cw_ret ?_
    obtain rfl := some_inj hF1
    exact ret1 Tryz.results125 (v1 := .slice (aD b3) 4 4) (resAt_tmp rfl) ⟨aD b3, 4, rfl, (hS11.sN [3])⟩
   exact allR_nil
  exact allR_nil
 ·skip
  have hF2 := cf' hF hb
  refine cw_seq (cw_region ?_)
  refine sQ 20 (Y_eq (k := .i64) (a := kind) (b := 2) rfl rfl rfl) ?_
  refine sQ 19 (Y_assign (v := .bool (kind == 2)) rfl rfl) (rw_nil ?_)
  refine cw_cond (b := (kind == 2)) rfl (fun hb1 => ?_) (fun hb1 => ?_)
  ·skip
   have hF3 := ct hF2 hb1
   refine cw_seq (cw_region ?_)
   refine sQ 21 (Y_loadA (B := aD b1) (i := 0) (cs := kZ_) (vs := kZ_) k_ag_65 k_sz_65_5 rfl rfl (hS7.cf (i := 1) rfl) rfl rfl) ?_
   refine sQ 22 (Y_loadA (B := aD b) (i := 0) (cs := kD_ r_1) (vs := kD_ r_1) k_ag_65 k_sz_65_5 rfl rfl (hS7.cf (i := 0) rfl) rfl rfl) ?_
   refine sQ 23 (Y_loadA (B := aD b) (i := 0) (cs := kD_ r_1) (vs := kD_ r_1) k_ag_65 k_sz_65_5 rfl rfl (hS7.cf (i := 0) rfl) rfl rfl) ?_
   refine sQ 24 (Y_loadA (B := aD b1) (i := 0) (cs := kZ_) (vs := kZ_) k_ag_65 k_sz_65_5 rfl rfl (hS7.cf (i := 1) rfl) rfl rfl) ?_
   refine sS 25 (Ys_bslice (s := 5) (len := 4) (vs := [(0, gZ_), (1, gD_ r_1), (2, gD_ r_1), (3, gZ_)]) (cs := [vi 0, vi 0, vi 0, vi 0, vi 0, vi r_1.Num.A, vi r_1.Num.B, vi r_1.Num.C, vi r_1.Num.D, vi r_1.Exp, vi r_1.Num.A, vi r_1.Num.B, vi r_1.Num.C, vi r_1.Num.D, vi r_1.Exp, vi 0, vi 0, vi 0, vi 0, vi 0]) (zs := [vi 0, vi 0, vi 0, vi 0, vi 0, vi 0, vi 0, vi 0, vi 0, vi 0, vi 0, vi 0, vi 0, vi 0, vi 0, vi 0, vi 0, vi 0, vi 0, vi 0]) (m := 20) hS7 k_sl_28_65 k_sz_65_5 k_zc_65 rfl (mpc rfl (mpc rfl (mpc rfl (mpc rfl mpn)))) rfl rfl rfl (by kernel_rfl) (by kernel_rfl) rfl) ?_
   rintro _ w_9 ⟨b4, rfl, hS12⟩
   refine sQ 2 (Y_assign (v := .slice (aD b4) 4 4) rfl rfl) (rw_nil (cw_ret ?_))
   obtain rfl := some_inj hF3
   exact ret1 Tryz.results125 (v1 := .slice (aD b4) 4 4) (resAt_tmp rfl) ⟨aD b4, 4, rfl, (hS12.sN [3])⟩
  ·skip
   have hF4 := cf' hF2 hb1
   refine cw_seq (cw_region ?_)
   refine sQ 27 (Y_eq (k := .i64) (a := kind) (b := 3) rfl rfl rfl) ?_
   refine sQ 26 (Y_assign (v := .bool (kind == 3)) rfl rfl) (rw_nil ?_)
   refine cw_cond (b := (kind == 3)) rfl (fun hb2 => ?_) (fun hb2 => ?_)
   ·skip
    have hF5 := ct hF4 hb2
    refine cw_seq ?_
    obtain ⟨r_3, hc2, hF5⟩ := bind_inv hF5
    obtain ⟨r_4, hc3, hF5⟩ := bind_inv hF5
    refine ra_start (hS7.se [0, 1, 2]).fn (by kernel_rfl) ?_
    have hS15 := hS7.drew
    refine rq 0 28 (v := gZ_) rfl (hS15.se [0, 1, 2]) (fun w' hw' => (Y_loadA (B := aD b1) (i := 0) (cs := kZ_) (vs := kZ_) k_ag_65 k_sz_65_5 rfl rfl (ST.cf hw' (i := 1) rfl) rfl rfl)) ?_
    refine rq 3 31 (v := gZ_) rfl (hS15.se [0, 1, 2]) (fun w' hw' => (Y_loadA (B := aD b1) (i := 0) (cs := kZ_) (vs := kZ_) k_ag_65 k_sz_65_5 rfl rfl (ST.cf hw' (i := 1) rfl) rfl rfl)) ?_
    refine rA [1] ?_
    refine ra_c 29 (i := 1) rfl rfl rfl (Yc_func (g := 54) (vs := [vi 6]) k_call_54 rfl (mc rfl mn) (c_spec_l2Power 6 _  (hS15.inn0 [] rfl) hc2)) ?_ ?_
    ·rintro _ w_10 ⟨rfl, hd2⟩
     have hS16 := hS15.out00 hd2
     refine ⟨(hS16.se [0, 1, 2]), ?_⟩
     refine rA [2] ?_
     refine ra_c 30 (i := 2) rfl rfl rfl (Yc_func (g := 54) (vs := [vi 2]) k_call_54 rfl (mc rfl mn) (c_spec_l2Power 2 _  (hS16.inn0 [] rfl) hc3)) ?_ ?_
     ·rintro _ w_11 ⟨rfl, hd3⟩
      have hS17 := hS16.out00 hd3
      refine ⟨(hS17.se [0, 1, 2]), ?_⟩
      refine rA [4] ?_
      refine ra_s 32 (i := 4) rfl rfl rfl (Ys_bslice (s := 5) (len := 4) (vs := [(0, gZ_), (1, gD_ r_3), (2, gD_ r_4), (3, gZ_)]) (cs := [vi 0, vi 0, vi 0, vi 0, vi 0, vi r_3.Num.A, vi r_3.Num.B, vi r_3.Num.C, vi r_3.Num.D, vi r_3.Exp, vi r_4.Num.A, vi r_4.Num.B, vi r_4.Num.C, vi r_4.Num.D, vi r_4.Exp, vi 0, vi 0, vi 0, vi 0, vi 0]) (zs := [vi 0, vi 0, vi 0, vi 0, vi 0, vi 0, vi 0, vi 0, vi 0, vi 0, vi 0, vi 0, vi 0, vi 0, vi 0, vi 0, vi 0, vi 0, vi 0, vi 0]) (m := 20) hS17 k_sl_28_65 k_sz_65_5 k_zc_65 rfl (mpc rfl (mpc rfl (mpc rfl (mpc rfl mpn)))) rfl rfl rfl (by kernel_rfl) (by kernel_rfl) rfl) ?_ ?_
      ·rintro _ w_12 ⟨b5, rfl, hS18⟩
       refine ⟨(hS18.se [0, 1, 2]), ?_⟩
       refine rq 5 2 (v := .slice (aD b5) 4 4) rfl (hS18.se [0, 1, 2]) (fun w' hw' => (Y_assign (v := .slice (aD b5) 4 4) rfl rfl)) ?_
       refine ra_done (by kernel_rfl) ?_
       refine cw_ret ?_
       obtain rfl := some_inj hF5
       exact ret1 Tryz.results125 (v1 := .slice (aD b5) 4 4) (resAt_tmp rfl) ⟨aD b5, 4, rfl, (hS18.sN [3])⟩
      exact allR_nil
     exact allR_nil
    exact allR_nil
   ·skip
    have hF6 := cf' hF4 hb2
    refine cw_skip (cw_seq ?_)
    obtain ⟨x, hx, hF6⟩ := bind_inv hF6
    obtain ⟨r_5, hc4, hF6⟩ := bind_inv hF6
    refine ra_start (hS7.se [0, 1, 2]).fn (by kernel_rfl) ?_
    have hS20 := hS7.drew
    refine rq 0 33 (v := gD_ r_1) rfl (hS20.se [0, 1, 2]) (fun w' hw' => (Y_loadA (B := aD b) (i := 0) (cs := kD_ r_1) (vs := kD_ r_1) k_ag_65 k_sz_65_5 rfl rfl (ST.cf hw' (i := 0) rfl) rfl rfl)) ?_
    refine rq 1 34 (v := gZ_) rfl (hS20.se [0, 1, 2]) (fun w' hw' => (Y_loadA (B := aD b1) (i := 0) (cs := kZ_) (vs := kZ_) k_ag_65 k_sz_65_5 rfl rfl (ST.cf hw' (i := 1) rfl) rfl rfl)) ?_
    refine rq 2 35 (v := gZ_) rfl (hS20.se [0, 1, 2]) (fun w' hw' => (Y_loadA (B := aD b1) (i := 0) (cs := kZ_) (vs := kZ_) k_ag_65 k_sz_65_5 rfl rfl (ST.cf hw' (i := 1) rfl) rfl rfl)) ?_
    refine rq 4 37 (v := vi kind) rfl (hS20.se [0, 1, 2]) (fun w' hw' => (Y_move (v := vi kind) rfl rfl)) ?_
    refine rq 5 38 (v := vi (i64.wrap (kind - 4))) rfl (hS20.se [0, 1, 2]) (fun w' hw' => (Y_sub (k := .i64) (a := kind) (b := 4) rfl rfl rfl)) ?_
    refine rA [3] ?_
    refine ra_s 36 (i := 3) rfl rfl rfl (Ys_bslice (s := 1) (len := 5) (vs := [(0, vi 4), (1, vi 2), (2, vi 6), (3, vi 1), (4, vi 7)]) (cs := [vi 4, vi 2, vi 6, vi 1, vi 7]) (zs := kZ_) (m := 5) hS20 k_sl_150_3 k_sz_3_1 k_zc_3 rfl (mpc rfl (mpc rfl (mpc rfl (mpc rfl (mpc rfl mpn))))) rfl rfl rfl (by kernel_rfl) (by kernel_rfl) rfl) ?_ ?_
    ·rintro _ w_13 ⟨b6, rfl, hS21⟩
     refine ⟨(hS21.se [0, 1, 2]), ?_⟩
     refine rA [6] ?_
     refine ra_y 39 (i := 6) (v := pt (aD b6) ((i64.wrap (kind - 4)).toNat * 1)) rfl rfl rfl (Y_index (B := aD b6) (m := 5) (c := 5) (k := .i64) (i := (i64.wrap (kind - 4))) k_sl_150_3 k_sz_3_1 rfl rfl rfl (gi_isSome encI_len rfl (hS21.cf (i := 3) rfl) hx) (getI_nn hx) (getI_ltI hx rfl)) (hS21.se [0, 1, 2]) ?_ ?_
     ·skip
      refine rA [7] ?_
      refine ra_y 40 (i := 7) (v := vi x) rfl rfl rfl (Y_load1 (B := aD b6) (i := (i64.wrap (kind - 4)).toNat * 1) (cs := ([4, 2, 6, 1, 7].flatMap encI)) (v := vi x) k_sc_3 rfl rfl (hS21.cf (i := 3) rfl) (gi_at0 encI_len hx rfl)) (hS21.se [0, 1, 2]) ?_ ?_
      ·skip
       refine rA [8] ?_
       refine ra_c 41 (i := 8) rfl rfl rfl (Yc_func (g := 54) (vs := [vi x]) k_call_54 rfl (mc rfl mn) (c_spec_l2Power x _  (hS21.inn0 [] rfl) hc4)) ?_ ?_
       ·rintro _ w_14 ⟨rfl, hd4⟩
        have hS22 := hS21.out00 hd4
        refine ⟨(hS22.se [0, 1, 2]), ?_⟩
        refine rA [9] ?_
        refine ra_s 42 (i := 9) rfl rfl rfl (Ys_bslice (s := 5) (len := 4) (vs := [(0, gD_ r_1), (1, gZ_), (2, gZ_), (3, gD_ r_5)]) (cs := [vi r_1.Num.A, vi r_1.Num.B, vi r_1.Num.C, vi r_1.Num.D, vi r_1.Exp, vi 0, vi 0, vi 0, vi 0, vi 0, vi 0, vi 0, vi 0, vi 0, vi 0, vi r_5.Num.A, vi r_5.Num.B, vi r_5.Num.C, vi r_5.Num.D, vi r_5.Exp]) (zs := [vi 0, vi 0, vi 0, vi 0, vi 0, vi 0, vi 0, vi 0, vi 0, vi 0, vi 0, vi 0, vi 0, vi 0, vi 0, vi 0, vi 0, vi 0, vi 0, vi 0]) (m := 20) hS22 k_sl_28_65 k_sz_65_5 k_zc_65 rfl (mpc rfl (mpc rfl (mpc rfl (mpc rfl mpn)))) rfl rfl rfl (by kernel_rfl) (by kernel_rfl) rfl) ?_ ?_
        ·rintro _ w_15 ⟨b7, rfl, hS23⟩
         refine ⟨(hS23.se [0, 1, 2]), ?_⟩
         refine rq 10 2 (v := .slice (aD b7) 4 4) rfl (hS23.se [0, 1, 2]) (fun w' hw' => (Y_assign (v := .slice (aD b7) 4 4) rfl rfl)) ?_
         refine ra_done (by kernel_rfl) ?_
         refine cw_ret ?_
         obtain rfl := some_inj hF6
         exact ret1 Tryz.results125 (v1 := .slice (aD b7) 4 4) (resAt_tmp rfl) ⟨aD b7, 4, rfl, (hS23.sN [4])⟩
        exact allR_nil
       exact allR_nil
      exact allR_nil
     exact allR_nil
    exact allR_nil

theorem c_spec_l9Pauli (i : Int)  (w0 : World)  (hS : ST w0 [] w0 [] []) {r_ : TMatrix} (hF : F_spec_l9Pauli i = some r_) :
  CV Tryz.prog 99 #[vi i] w0 (fun v w' => ∃ (B : Option Addr) (c : Nat), v = (gM_ r_ B c) ∧ ST w0 [] w' [⟨B, 65, (r_.Cells.flatMap eN0), c * 5⟩] []) := by
 unfold F_spec_l9Pauli at hF
 refine cv_of_cw 7 Tryz.func99 rfl Tryz.ntmps99 rfl ?_
 refine cw_seq (cw_region ?_)
 refine sS 2 (Ys_alloc (T := 48) (cs := kN_) (m := 3) hS k_zero_48 rfl rfl rfl) ?_
 rintro _ w_ ⟨b, rfl, hS1⟩
 refine rw_nil (cw_seq (cw_region ?_))
 refine sQ 3 (Y_move (v := vi i) rfl rfl) ?_
 refine sQ 4 (Y_add (k := .i64) (a := 2) (b := i) rfl rfl rfl) ?_
 obtain ⟨r_1, hc, hF⟩ := bind_inv hF
 refine sc 5 rfl rfl (Yc_func (g := 125) (vs := [vi (i64.wrap (2 + i))]) k_call_125 rfl (mc rfl mn) (c_spec_l6One (i64.wrap (2 + i)) _  (hS1.inn0 [] rfl) hc)) ?_
 rintro _ w_1 ⟨B1, c1, rfl, hd⟩
 have hS2 := hS1.out0 hd
 refine sQ 6 (Y_buildS (zs := kN_) (vs := [(0, vi 2), (1, vi 2), (2, .slice B1 r_1.length c1)]) (cs := [vi 2, vi 2, .slice B1 r_1.length c1]) k_pl_48 k_zero_48 rfl (mpc rfl (mpc rfl (mpc rfl mpn))) rfl) ?_
 refine s0 (Ys_store (i := 0) (s := 3) (B := aD b) (T' := 48) (v := .agg #[vi 2, vi 2, .slice B1 r_1.length c1]) (vs := [vi 2, vi 2, .slice B1 r_1.length c1]) (k := 0) (cs' := [vi 2, vi 2, .slice B1 r_1.length c1]) hS2 k_sz_48_3 rfl rfl rfl rfl rfl rfl rfl (lB rfl) rfl rfl) ?_
 rintro _ w_2 ⟨rfl, hS3⟩
 refine rw_nil (cw_ret ?_)
 obtain rfl := some_inj hF
 exact ret1 Tryz.results99 (v1 := .agg #[vi 2, vi 2, .slice B1 r_1.length c1]) (resAt_cellA (B := aD b) (i := 0) (cs := [vi 2, vi 2, .slice B1 r_1.length c1]) (vs := [vi 2, vi 2, .slice B1 r_1.length c1]) rfl k_ag_48 k_sz_48_3 (hS3.cf (i := 0) rfl) rfl rfl) ⟨B1, c1, rfl, (hS3.sN [1])⟩

theorem c_spec_l1Conj (x : TRing)  (w0 : World)  (hS : ST w0 [] w0 [] []) {r_ : TRing} (hF : F_spec_l1Conj x = some r_) :
  CV Tryz.prog 145 #[gR_ x] w0 (fun v w' => v = (gR_ r_) ∧ ST w0 [] w' [] []) := by
 unfold F_spec_l1Conj at hF
 refine cv_of_cw 15 Tryz.func145 rfl Tryz.ntmps145 rfl ?_
 refine cw_seq (cw_region ?_)
 refine sS 1 (Ys_box (T := 63) (v := gR_ x) (cs := kR_ x) (m := 4) hS rfl rfl rfl rfl) ?_
 rintro _ w_ ⟨b, rfl, hS1⟩
 refine sS 2 (Ys_alloc (T := 63) (cs := [vi 0, vi 0, vi 0, vi 0]) (m := 4) hS1 k_zero_63 rfl rfl rfl) ?_
 rintro _ w_1 ⟨b1, rfl, hS2⟩
 refine rw_nil (cw_seq (cw_region ?_))
 refine sQ 3 (Y_fieldAddr (B := aD b) (i := 0) (s := 0) k_fd_63_0_0_3 k_sz_3_1 rfl rfl) ?_
 refine sQ 4 (Y_load1 (B := aD b) (i := 0) (cs := kR_ x) (v := vi x.A) k_sc_3 rfl rfl (hS2.cf (i := 0) rfl) rfl) ?_
 refine sQ 5 (Y_fieldAddr (B := aD b) (i := 0) (s := 0) k_fd_63_3_3_3 k_sz_3_1 rfl rfl) ?_
 refine sQ 6 (Y_load1 (B := aD b) (i := 3) (cs := kR_ x) (v := vi x.D) k_sc_3 rfl rfl (hS2.cf (i := 0) rfl) rfl) ?_
 refine sQ 7 (Y_neg (k := .i64) (a := x.D) rfl rfl) ?_
 refine sQ 8 (Y_fieldAddr (B := aD b) (i := 0) (s := 0) k_fd_63_2_2_3 k_sz_3_1 rfl rfl) ?_
 refine sQ 9 (Y_load1 (B := aD b) (i := 2) (cs := kR_ x) (v := vi x.C) k_sc_3 rfl rfl (hS2.cf (i := 0) rfl) rfl) ?_
 refine sQ 10 (Y_neg (k := .i64) (a := x.C) rfl rfl) ?_
 refine sQ 11 (Y_fieldAddr (B := aD b) (i := 0) (s := 0) k_fd_63_1_1_3 k_sz_3_1 rfl rfl) ?_
 refine sQ 12 (Y_load1 (B := aD b) (i := 1) (cs := kR_ x) (v := vi x.B) k_sc_3 rfl rfl (hS2.cf (i := 0) rfl) rfl) ?_
 refine sQ 13 (Y_neg (k := .i64) (a := x.B) rfl rfl) ?_
 refine sQ 14 (Y_buildS (zs := [vi 0, vi 0, vi 0, vi 0]) (vs := [(0, vi x.A), (1, vi (i64.wrap (-x.D))), (2, vi (i64.wrap (-x.C))), (3, vi (i64.wrap (-x.B)))]) (cs := [vi x.A, vi (i64.wrap (-x.D)), vi (i64.wrap (-x.C)), vi (i64.wrap (-x.B))]) k_pl_63 k_zero_63 rfl (mpc rfl (mpc rfl (mpc rfl (mpc rfl mpn)))) rfl) ?_
 refine s0 (Ys_store (i := 1) (s := 4) (B := aD b1) (T' := 63) (v := .agg #[vi x.A, vi (i64.wrap (-x.D)), vi (i64.wrap (-x.C)), vi (i64.wrap (-x.B))]) (vs := [vi x.A, vi (i64.wrap (-x.D)), vi (i64.wrap (-x.C)), vi (i64.wrap (-x.B))]) (k := 0) (cs' := [vi x.A, vi (i64.wrap (-x.D)), vi (i64.wrap (-x.C)), vi (i64.wrap (-x.B))]) hS2 k_sz_63_4 rfl rfl rfl rfl rfl rfl rfl (lB rfl) rfl rfl) ?_
 rintro _ w_2 ⟨rfl, hS3⟩
 refine rw_nil (cw_ret ?_)
 obtain rfl := some_inj hF
 exact ret1 Tryz.results145 (v1 := .agg #[vi x.A, vi (i64.wrap (-x.D)), vi (i64.wrap (-x.C)), vi (i64.wrap (-x.B))]) (resAt_cellA (B := aD b1) (i := 0) (cs := [vi x.A, vi (i64.wrap (-x.D)), vi (i64.wrap (-x.C)), vi (i64.wrap (-x.B))]) (vs := [vi x.A, vi (i64.wrap (-x.D)), vi (i64.wrap (-x.C)), vi (i64.wrap (-x.B))]) rfl k_ag_63 k_sz_63_4 (hS3.cf (i := 1) rfl) rfl rfl) ⟨rfl, (hS3.sN [])⟩

theorem c_spec_l2Conj (x : TDyadic)  (w0 : World)  (hS : ST w0 [] w0 [] []) {r_ : TDyadic} (hF : F_spec_l2Conj x = some r_) :
  CV Tryz.prog 126 #[gD_ x] w0 (fun v w' => v = (gD_ r_) ∧ ST w0 [] w' [] []) := by
 unfold F_spec_l2Conj at hF
 refine cv_of_cw 9 Tryz.func126 rfl Tryz.ntmps126 rfl ?_
 refine cw_seq (cw_region ?_)
 refine sS 1 (Ys_box (T := 65) (v := gD_ x) (cs := kD_ x) (m := 5) hS rfl rfl rfl rfl) ?_
 rintro _ w_ ⟨b, rfl, hS1⟩
 refine sS 2 (Ys_alloc (T := 65) (cs := kZ_) (m := 5) hS1 k_zero_65 rfl rfl rfl) ?_
 rintro _ w_1 ⟨b1, rfl, hS2⟩
 refine rw_nil (cw_seq ?_)
 obtain ⟨r_1, hc, hF⟩ := bind_inv hF
 refine ra_start (hS2.se [0]).fn (by kernel_rfl) ?_
 have hS4 := hS2.drew
 refine rq 0 3 (v := pt (aD b) 0) rfl (hS4.se [0]) (fun w' hw' => (Y_fieldAddr (B := aD b) (i := 0) (s := 3) k_fd_65_0_0_63 k_sz_63_4 rfl rfl)) ?_
 refine rq 1 4 (v := gR_ x.Num) rfl (hS4.se [0]) (fun w' hw' => (Y_loadA (B := aD b) (i := 0) (cs := kD_ x) (vs := kR_ x.Num) k_ag_63 k_sz_63_4 rfl rfl (ST.cf hw' (i := 0) rfl) rfl rfl)) ?_
 refine rq 3 6 (v := pt (aD b) 4) rfl (hS4.se [0]) (fun w' hw' => (Y_fieldAddr (B := aD b) (i := 0) (s := 0) k_fd_65_1_4_3 k_sz_3_1 rfl rfl)) ?_
 refine rq 4 7 (v := vi x.Exp) rfl (hS4.se [0]) (fun w' hw' => (Y_load1 (B := aD b) (i := 4) (cs := kD_ x) (v := vi x.Exp) k_sc_3 rfl rfl (ST.cf hw' (i := 0) rfl) rfl)) ?_
 refine rA [2] ?_
 refine ra_c 5 (i := 2) rfl rfl rfl (Yc_func (g := 145) (vs := [gR_ x.Num]) k_call_145 rfl (mc rfl mn) (c_spec_l1Conj x.Num _  (hS4.inn0 [] rfl) hc)) ?_ ?_
 ·rintro _ w_2 ⟨rfl, hd⟩
  have hS5 := hS4.out00 hd
  refine ⟨(hS5.se [0]), ?_⟩
  refine rq 5 8 (v := .agg #[vi r_1.A, vi r_1.B, vi r_1.C, vi r_1.D, vi x.Exp]) rfl (hS5.se [0]) (fun w' hw' => (Y_buildS (zs := kZ_) (vs := [(0, gR_ r_1), (1, vi x.Exp)]) (cs := [vi r_1.A, vi r_1.B, vi r_1.C, vi r_1.D, vi x.Exp]) k_pl_65 k_zero_65 rfl (mpc rfl (mpc rfl mpn)) rfl)) ?_
  refine rA [6] ?_
  refine ra_s0 (i := 6) rfl rfl rfl (Ys_store (i := 1) (s := 5) (B := aD b1) (T' := 65) (v := .agg #[vi r_1.A, vi r_1.B, vi r_1.C, vi r_1.D, vi x.Exp]) (vs := [vi r_1.A, vi r_1.B, vi r_1.C, vi r_1.D, vi x.Exp]) (k := 0) (cs' := [vi r_1.A, vi r_1.B, vi r_1.C, vi r_1.D, vi x.Exp]) hS5 k_sz_65_5 rfl rfl rfl rfl rfl rfl rfl (lB rfl) rfl rfl) ?_ ?_
  ·rintro _ w_3 ⟨rfl, hS6⟩
   refine ⟨(hS6.se [0]), ?_⟩
   refine ra_done (by kernel_rfl) ?_
   refine cw_ret ?_
   obtain rfl := some_inj hF
   exact ret1 Tryz.results126 (v1 := .agg #[vi r_1.A, vi r_1.B, vi r_1.C, vi r_1.D, vi x.Exp]) (resAt_cellA (B := aD b1) (i := 0) (cs := [vi r_1.A, vi r_1.B, vi r_1.C, vi r_1.D, vi x.Exp]) (vs := [vi r_1.A, vi r_1.B, vi r_1.C, vi r_1.D, vi x.Exp]) rfl k_ag_65 k_sz_65_5 (hS6.cf (i := 1) rfl) rfl rfl) ⟨rfl, (hS6.sN [])⟩
  exact allR_nil
 exact allR_nil

theorem c_spec_l3Adj (m : TMatrix) (B : Option Addr) (c n : Nat) (w0 : World) (hn : m.Cells.length = n) (hS : ST w0 [] w0 [] [⟨B, (m.Cells.flatMap eN0)⟩]) {r_ : TMatrix} (hF : F_spec_l3Adj m = some r_) :
  CV Tryz.prog 100 #[.agg #[vi m.Rows, vi m.Cols, .slice B n c]] w0 (fun v w' => ∃ (B1 : Option Addr) (c1 : Nat), v = (gM_ r_ B1 c1) ∧ ST w0 [] w' [⟨B1, 65, (r_.Cells.flatMap eN0), c1 * 5⟩] []) := by
 subst hn
 unfold F_spec_l3Adj at hF
 refine cv_of_cw 40 Tryz.func100 rfl Tryz.ntmps100 rfl ?_
 refine cw_seq (cw_region ?_)
 refine sS 1 (Ys_box (T := 48) (v := gM_ m B c) (cs := kM_ m B c) (m := 3) hS rfl rfl rfl rfl) ?_
 rintro _ w_ ⟨b, rfl, hS1⟩
 refine sS 2 (Ys_alloc (T := 48) (cs := kN_) (m := 3) hS1 k_zero_48 rfl rfl rfl) ?_
 rintro _ w_1 ⟨b1, rfl, hS2⟩
 refine rw_nil (cw_seq (cw_region ?_))
 refine sQ 6 (Y_fieldAddr (B := aD b) (i := 0) (s := 0) k_fd_48_1_1_3 k_sz_3_1 rfl rfl) ?_
 refine sQ 7 (Y_load1 (B := aD b) (i := 1) (cs := kM_ m B c) (v := vi m.Cols) k_sc_3 rfl rfl (hS2.cf (i := 0) rfl) rfl) ?_
 refine sQ 8 (Y_fieldAddr (B := aD b) (i := 0) (s := 0) k_fd_48_0_0_3 k_sz_3_1 rfl rfl) ?_
 refine sQ 9 (Y_load1 (B := aD b) (i := 0) (cs := kM_ m B c) (v := vi m.Rows) k_sc_3 rfl rfl (hS2.cf (i := 0) rfl) rfl) ?_
 refine sQ 10 (Y_buildS (zs := kN_) (vs := [(0, vi m.Cols), (1, vi m.Rows)]) (cs := [vi m.Cols, vi m.Rows, .slice none 0 0]) k_pl_48 k_zero_48 rfl (mpc rfl (mpc rfl mpn)) rfl) ?_
 refine sS 3 (Ys_alloc (T := 48) (cs := kN_) (m := 3) hS2 k_zero_48 rfl rfl rfl) ?_
 rintro _ w_2 ⟨b2, rfl, hS3⟩
 refine s0 (Ys_store (i := 2) (s := 3) (B := aD b2) (T' := 48) (v := .agg #[vi m.Cols, vi m.Rows, .slice none 0 0]) (vs := [vi m.Cols, vi m.Rows, .slice none 0 0]) (k := 0) (cs' := [vi m.Cols, vi m.Rows, .slice none 0 0]) hS3 k_sz_48_3 rfl rfl rfl rfl rfl rfl rfl (lB rfl) rfl rfl) ?_
 rintro _ w_3 ⟨rfl, hS4⟩
 refine rw_nil (cw_seq (cw_seq (cw_region ?_)))
 refine sQ 4 (Y_assign (v := vi 0) rfl rfl) (rw_nil ?_)
 obtain ⟨hN, hF⟩ := chk_inv hF
 obtain ⟨z, hz, hF1⟩ := bind_inv hF
 have hS6 := hS4.addNil 65
 refine cw_block ?_
 refine cw_loop (fun k f w => ∃ (j : Nat) (Cells : List TDyadic) (B2 : Option Addr) (c2 : Nat), FF f [(1, pt (aD b) 0), (2, pt (aD b1) 0), (3, pt (aD b2) 0), (4, vi (j : Int))] ∧ ST w0 [] w [⟨aD b, 48, kM_ m B c, 3⟩, ⟨aD b1, 48, kN_, 3⟩, ⟨aD b2, 48, [vi m.Cols, vi m.Rows, .slice B2 Cells.length c2], 3⟩, ⟨B2, 65, (Cells.flatMap eN0), c2 * 5⟩] [⟨B, (m.Cells.flatMap eN0)⟩] ∧ j + k = m.Cols.toNat ∧ forN (F_spec_l3Adj_l1 m) k j Cells = some z) m.Cols.toNat ⟨0, [], none, 0, (FF.cons rfl (FF.cons rfl (FF.cons rfl (FF.cons rfl FF.nil)))), (hS6.sel [0, 1, 2, 3] rfl rfl), Nat.zero_add _, hz⟩ ?_
 rintro k_ f w ⟨j, Cells, B2, c2, hf, hS5, hik, hL⟩
 refine cw_seq (cw_seq (cw_region ?_))
 refine sQ 11 (Y_move (v := vi (j : Int)) rfl (hf.get 4 3 rfl)) ?_
 refine sQ 12 (Y_fieldAddr (B := aD b) (i := 0) (s := 0) k_fd_48_1_1_3 k_sz_3_1 rfl (hf.get 1 0 rfl)) ?_
 refine sQ 13 (Y_load1 (B := aD b) (i := 1) (cs := kM_ m B c) (v := vi m.Cols) k_sc_3 rfl rfl (hS5.cf (i := 0) rfl) rfl) ?_
 refine sQ 14 (Y_lt (k := .i64) (a := (j : Int)) (b := m.Cols) rfl rfl rfl) (rw_nil ?_)
 refine cw_cond (b := (decide ((j : Int) < m.Cols))) rfl (fun hlt => ?_) (fun hlt => ?_)
 ·skip
  have hlt1 : j < m.Cols.toNat := by have h := of_decide_eq_true hlt; omega
  obtain ⟨k_1, rfl⟩ : ∃ k2, k_ = k2 + 1 := ⟨k_ - 1, by omega⟩
  obtain ⟨y, hb, hL1⟩ := forN_go hL
  unfold F_spec_l3Adj_l1 at hb
  refine cw_skip (cw_seq (cw_block (cw_seq (cw_region ?_))))
  refine sQ 5 (Y_assign (v := vi 0) rfl rfl) (rw_nil ?_)
  obtain ⟨hN1, hb⟩ := chk_inv hb
  obtain ⟨z1, hz1, hF2⟩ := bind_inv hb
  refine cw_block ?_
  refine cw_loop (fun k f w => ∃ (i2 : Nat) (Cells1 : List TDyadic) (B3 : Option Addr) (c3 : Nat), FF f [(1, pt (aD b) 0), (2, pt (aD b1) 0), (3, pt (aD b2) 0), (4, vi (j : Int)), (5, vi (i2 : Int))] ∧ ST w0 [] w [⟨aD b, 48, kM_ m B c, 3⟩, ⟨aD b1, 48, kN_, 3⟩, ⟨aD b2, 48, [vi m.Cols, vi m.Rows, .slice B3 Cells1.length c3], 3⟩, ⟨B3, 65, (Cells1.flatMap eN0), c3 * 5⟩] [⟨B, (m.Cells.flatMap eN0)⟩] ∧ i2 + k = m.Rows.toNat ∧ forN (F_spec_l3Adj_l2 m Cells j) k i2 Cells1 = some z1) m.Rows.toNat ⟨0, Cells, B2, c2, (FF.cons (hf.get 1 0 rfl) (FF.cons (hf.get 2 1 rfl) (FF.cons (hf.get 3 2 rfl) (FF.cons (hf.get 4 3 rfl) (FF.cons rfl FF.nil))))), (hS5.sel [0, 1, 2, 3] rfl rfl), Nat.zero_add _, hz1⟩ ?_
  rintro k_2 f w ⟨i2, Cells1, B3, c3, hf1, hS7, hik1, hL2⟩
  refine cw_seq (cw_seq (cw_region ?_))
  refine sQ 17 (Y_move (v := vi (i2 : Int)) rfl (hf1.get 5 4 rfl)) ?_
  refine sQ 18 (Y_fieldAddr (B := aD b) (i := 0) (s := 0) k_fd_48_0_0_3 k_sz_3_1 rfl (hf1.get 1 0 rfl)) ?_
  refine sQ 19 (Y_load1 (B := aD b) (i := 0) (cs := kM_ m B c) (v := vi m.Rows) k_sc_3 rfl rfl (hS7.cf (i := 0) rfl) rfl) ?_
  refine sQ 20 (Y_lt (k := .i64) (a := (i2 : Int)) (b := m.Rows) rfl rfl rfl) (rw_nil ?_)
  refine cw_cond (b := (decide ((i2 : Int) < m.Rows))) rfl (fun hlt2 => ?_) (fun hlt2 => ?_)
  ·skip
   have hlt3 : i2 < m.Rows.toNat := by have h := of_decide_eq_true hlt2; omega
   obtain ⟨k_3, rfl⟩ : ∃ k2, k_2 = k2 + 1 := ⟨k_2 - 1, by omega⟩
   obtain ⟨y1, hb1, hL3⟩ := forN_go hL2
   unfold F_spec_l3Adj_l2 at hb1
   refine cw_skip (cw_seq (cw_block ?_))
   obtain ⟨x, hx, hb1⟩ := bind_inv hb1
   obtain ⟨r_1, hc, hb1⟩ := bind_inv hb1
   obtain ⟨hap, hb1⟩ := chk_inv hb1
   refine cw_mid (fun f w => ∃ (B5 : Option Addr) (c5 : Nat), FF f [(1, pt (aD b) 0), (2, pt (aD b1) 0), (3, pt (aD b2) 0), (4, vi (j : Int)), (5, vi (i2 : Int))] ∧ ST w0 [] w [⟨aD b, 48, kM_ m B c, 3⟩, ⟨aD b1, 48, kN_, 3⟩, ⟨aD b2, 48, [vi m.Cols, vi m.Rows, .slice B5 ((Cells1 ++ [r_1]).length) c5], 3⟩, ⟨B5, 65, ((Cells1 ++ [r_1]).flatMap eN0), c5 * 5⟩] [⟨B, (m.Cells.flatMap eN0)⟩]) ?_ ?_
   ·skip
    refine ra_start (hS7.se [0, 1]).fn (by kernel_rfl) ?_
    have hS10 := hS7.drew
    refine rq 0 23 (v := pt (aD b2) 2) rfl (hS10.se [0, 1]) (fun w' hw' => (Y_fieldAddr (B := aD b2) (i := 0) (s := 0) k_fd_48_2_2_28 k_sz_28_1 rfl (hf1.get 3 2 rfl))) ?_
    refine rq 2 25 (v := pt (aD b) 2) rfl (hS10.se [0, 1]) (fun w' hw' => (Y_fieldAddr (B := aD b) (i := 0) (s := 0) k_fd_48_2_2_28 k_sz_28_1 rfl (hf1.get 1 0 rfl))) ?_
    refine rq 3 26 (v := .slice B m.Cells.length c) rfl (hS10.se [0, 1]) (fun w' hw' => (Y_load1 (B := aD b) (i := 2) (cs := kM_ m B c) (v := .slice B m.Cells.length c) k_sc_28 rfl rfl (ST.cf hw' (i := 0) rfl) rfl)) ?_
    refine rq 4 27 (v := vi (i2 : Int)) rfl (hS10.se [0, 1]) (fun w' hw' => (Y_move (v := vi (i2 : Int)) rfl (hf1.get 5 4 rfl))) ?_
    refine rq 5 28 (v := pt (aD b) 1) rfl (hS10.se [0, 1]) (fun w' hw' => (Y_fieldAddr (B := aD b) (i := 0) (s := 0) k_fd_48_1_1_3 k_sz_3_1 rfl (hf1.get 1 0 rfl))) ?_
    refine rq 6 29 (v := vi m.Cols) rfl (hS10.se [0, 1]) (fun w' hw' => (Y_load1 (B := aD b) (i := 1) (cs := kM_ m B c) (v := vi m.Cols) k_sc_3 rfl rfl (ST.cf hw' (i := 0) rfl) rfl)) ?_
    refine rq 7 30 (v := vi (i64.wrap ((i2 : Int) * m.Cols))) rfl (hS10.se [0, 1]) (fun w' hw' => (Y_mul (k := .i64) (a := (i2 : Int)) (b := m.Cols) rfl rfl rfl)) ?_
    refine rq 8 31 (v := vi (j : Int)) rfl (hS10.se [0, 1]) (fun w' hw' => (Y_move (v := vi (j : Int)) rfl (hf1.get 4 3 rfl))) ?_
    refine rq 9 32 (v := vi (i64.wrap ((i64.wrap ((i2 : Int) * m.Cols)) + (j : Int)))) rfl (hS10.se [0, 1]) (fun w' hw' => (Y_add (k := .i64) (a := (i64.wrap ((i2 : Int) * m.Cols))) (b := (j : Int)) rfl rfl rfl)) ?_
    refine rq 10 33 (v := pt B ((i64.wrap ((i64.wrap ((i2 : Int) * m.Cols)) + (j : Int))).toNat * 5)) rfl (hS10.se [0, 1]) (fun w' hw' => (Y_index (B := B) (m := m.Cells.length) (c := c) (k := .i64) (i := (i64.wrap ((i64.wrap ((i2 : Int) * m.Cols)) + (j : Int)))) k_sl_28_65 k_sz_65_5 rfl rfl rfl (gi_isSome eN2 rfl (ST.rf hw' (i := 0) rfl) hx) (getI_nn hx) (getI_ltI hx rfl))) ?_
    refine rq 11 34 (v := gD_ x) rfl (hS10.se [0, 1]) (fun w' hw' => (Y_loadA (B := B) (i := (i64.wrap ((i64.wrap ((i2 : Int) * m.Cols)) + (j : Int))).toNat * 5) (cs := (m.Cells.flatMap eN0)) (vs := kD_ x) k_ag_65 k_sz_65_5 rfl rfl (ST.rf hw' (i := 0) rfl) (eN2 x) (gi_seg eN2 hx))) ?_
    refine rA [1, 12] ?_
    refine ra_y 24 (i := 1) (v := .slice B3 Cells1.length c3) rfl rfl rfl (Y_load1 (B := aD b2) (i := 2) (cs := [vi m.Cols, vi m.Rows, .slice B3 Cells1.length c3]) (v := .slice B3 Cells1.length c3) k_sc_28 rfl rfl (hS10.cf (i := 2) rfl) rfl) (hS10.se [0, 1]) ?_ ?_
    ·skip
     refine rA [12] ?_
     refine ra_c 35 (i := 12) rfl rfl rfl (Yc_func (g := 126) (vs := [gD_ x]) k_call_126 rfl (mc rfl mn) (c_spec_l2Conj x _  (hS10.inn0 [] rfl) hc)) ?_ ?_
     ·rintro _ w_4 ⟨rfl, hd⟩
      have hS11 := hS10.out00 hd
      refine ⟨(hS11.se [0, 1]), ?_⟩
      refine rA [13] ?_
      refine ra_s 36 (i := 13) rfl rfl rfl (Ys_bslice (s := 5) (len := 1) (vs := [(0, gD_ r_1)]) (cs := kD_ r_1) (zs := kZ_) (m := 5) hS11 k_sl_28_65 k_sz_65_5 k_zc_65 rfl (mpc rfl mpn) rfl rfl rfl (by kernel_rfl) (by kernel_rfl) rfl) ?_ ?_
      ·rintro _ w_5 ⟨b3, rfl, hS12⟩
       refine ⟨(hS12.se [0, 1]), ?_⟩
       refine rA [14] ?_
       refine ra_s 37 (i := 14) rfl rfl rfl (Ys_append (s := 5) (by' := 40) (i := 3) (nn := Cells1.length) (c := c3) (k := 1) (len := (Cells1 ++ [r_1]).length) (B := B3) (xs := ([r_1].flatMap eN0)) (cs' := ((Cells1 ++ [r_1]).flatMap eN0)) hS12 k_sl_28_65 k_sz_65_5 k_by_65_40 k_zero_65 rfl (by decide) rfl rfl rfl rfl (fm_lenn (l := Cells1) eN2 rfl) rfl (hS12.cf (i := 4) rfl) (fm_lenn (l := [r_1]) eN2 rfl) (fm_one' (enc := eN0) enc_Dyadic_one [r_1]) (by have := hap; omega) (by have := hap; simp only [maxLen]; omega) (fm_app _ _) (app_len (l := Cells1) (l' := [r_1]) rfl rfl)) ?_ ?_
       ·rintro _ w_6 ⟨B4, c4, rfl, hS13⟩
        refine ⟨(hS13.se [0, 1]), ?_⟩
        refine rq 15 38 (v := pt (aD b2) 2) rfl (hS13.se [0, 1]) (fun w' hw' => (Y_fieldAddr (B := aD b2) (i := 0) (s := 0) k_fd_48_2_2_28 k_sz_28_1 rfl (hf1.get 3 2 rfl))) ?_
        refine rA [16] ?_
        refine ra_s0 (i := 16) rfl rfl rfl (Ys_store (i := 2) (s := 1) (B := aD b2) (T' := 48) (v := .slice B4 ((Cells1 ++ [r_1]).length) c4) (vs := [.slice B4 ((Cells1 ++ [r_1]).length) c4]) (k := 2) (cs' := [vi m.Cols, vi m.Rows, .slice B4 ((Cells1 ++ [r_1]).length) c4]) hS13 k_sz_28_1 rfl rfl rfl rfl rfl rfl rfl (lB rfl) rfl rfl) ?_ ?_
        ·rintro _ w_7 ⟨rfl, hS14⟩
         refine ⟨(hS14.se [0, 1]), ?_⟩
         refine ra_done (by kernel_rfl) ?_
         exact ⟨B4, c4, (FF.cons (hf1.get 1 0 rfl) (FF.cons (hf1.get 2 1 rfl) (FF.cons (hf1.get 3 2 rfl) (FF.cons (hf1.get 4 3 rfl) (FF.cons (hf1.get 5 4 rfl) FF.nil))))), (hS14.sel [0, 1, 2, 3] rfl rfl)⟩
        exact allR_nil
       exact allR_nil
      exact allR_nil
     exact allR_nil
    refine ra_c 35 (i := 12) rfl rfl rfl (Yc_func (g := 126) (vs := [gD_ x]) k_call_126 rfl (mc rfl mn) (c_spec_l2Conj x _  (hS10.inn0 [] rfl) hc)) ?_ ?_
    ·rintro _ w_8 ⟨rfl, hd1⟩
     have hS15 := hS10.out00 hd1
     refine ⟨(hS15.se [0, 1]), ?_⟩
     refine rA [1, 13] ?_
     refine ra_y 24 (i := 1) (v := .slice B3 Cells1.length c3) rfl rfl rfl (Y_load1 (B := aD b2) (i := 2) (cs := [vi m.Cols, vi m.Rows, .slice B3 Cells1.length c3]) (v := .slice B3 Cells1.length c3) k_sc_28 rfl rfl (hS15.cf (i := 2) rfl) rfl) (hS15.se [0, 1]) ?_ ?_
     ·skip
      refine rA [13] ?_
      refine ra_s 36 (i := 13) rfl rfl rfl (Ys_bslice (s := 5) (len := 1) (vs := [(0, gD_ r_1)]) (cs := kD_ r_1) (zs := kZ_) (m := 5) hS15 k_sl_28_65 k_sz_65_5 k_zc_65 rfl (mpc rfl mpn) rfl rfl rfl (by kernel_rfl) (by kernel_rfl) rfl) ?_ ?_
      ·rintro _ w_9 ⟨b3, rfl, hS16⟩
       refine ⟨(hS16.se [0, 1]), ?_⟩
       refine rA [14] ?_
       refine ra_s 37 (i := 14) rfl rfl rfl (Ys_append (s := 5) (by' := 40) (i := 3) (nn := Cells1.length) (c := c3) (k := 1) (len := (Cells1 ++ [r_1]).length) (B := B3) (xs := ([r_1].flatMap eN0)) (cs' := ((Cells1 ++ [r_1]).flatMap eN0)) hS16 k_sl_28_65 k_sz_65_5 k_by_65_40 k_zero_65 rfl (by decide) rfl rfl rfl rfl (fm_lenn (l := Cells1) eN2 rfl) rfl (hS16.cf (i := 4) rfl) (fm_lenn (l := [r_1]) eN2 rfl) (fm_one' (enc := eN0) enc_Dyadic_one [r_1]) (by have := hap; omega) (by have := hap; simp only [maxLen]; omega) (fm_app _ _) (app_len (l := Cells1) (l' := [r_1]) rfl rfl)) ?_ ?_
       ·rintro _ w_10 ⟨B4, c4, rfl, hS17⟩
        refine ⟨(hS17.se [0, 1]), ?_⟩
        refine rq 15 38 (v := pt (aD b2) 2) rfl (hS17.se [0, 1]) (fun w' hw' => (Y_fieldAddr (B := aD b2) (i := 0) (s := 0) k_fd_48_2_2_28 k_sz_28_1 rfl (hf1.get 3 2 rfl))) ?_
        refine rA [16] ?_
        refine ra_s0 (i := 16) rfl rfl rfl (Ys_store (i := 2) (s := 1) (B := aD b2) (T' := 48) (v := .slice B4 ((Cells1 ++ [r_1]).length) c4) (vs := [.slice B4 ((Cells1 ++ [r_1]).length) c4]) (k := 2) (cs' := [vi m.Cols, vi m.Rows, .slice B4 ((Cells1 ++ [r_1]).length) c4]) hS17 k_sz_28_1 rfl rfl rfl rfl rfl rfl rfl (lB rfl) rfl rfl) ?_ ?_
        ·rintro _ w_11 ⟨rfl, hS18⟩
         refine ⟨(hS18.se [0, 1]), ?_⟩
         refine ra_done (by kernel_rfl) ?_
         exact ⟨B4, c4, (FF.cons (hf1.get 1 0 rfl) (FF.cons (hf1.get 2 1 rfl) (FF.cons (hf1.get 3 2 rfl) (FF.cons (hf1.get 4 3 rfl) (FF.cons (hf1.get 5 4 rfl) FF.nil))))), (hS18.sel [0, 1, 2, 3] rfl rfl)⟩
        exact allR_nil
       exact allR_nil
      exact allR_nil
     refine ra_s 36 (i := 13) rfl rfl rfl (Ys_bslice (s := 5) (len := 1) (vs := [(0, gD_ r_1)]) (cs := kD_ r_1) (zs := kZ_) (m := 5) hS15 k_sl_28_65 k_sz_65_5 k_zc_65 rfl (mpc rfl mpn) rfl rfl rfl (by kernel_rfl) (by kernel_rfl) rfl) ?_ ?_
     ·rintro _ w_12 ⟨b3, rfl, hS19⟩
      refine ⟨(hS19.se [0, 1]), ?_⟩
      refine rA [1] ?_
      refine ra_y 24 (i := 1) (v := .slice B3 Cells1.length c3) rfl rfl rfl (Y_load1 (B := aD b2) (i := 2) (cs := [vi m.Cols, vi m.Rows, .slice B3 Cells1.length c3]) (v := .slice B3 Cells1.length c3) k_sc_28 rfl rfl (hS19.cf (i := 2) rfl) rfl) (hS19.se [0, 1]) ?_ ?_
      ·skip
       refine rA [14] ?_
       refine ra_s 37 (i := 14) rfl rfl rfl (Ys_append (s := 5) (by' := 40) (i := 3) (nn := Cells1.length) (c := c3) (k := 1) (len := (Cells1 ++ [r_1]).length) (B := B3) (xs := ([r_1].flatMap eN0)) (cs' := ((Cells1 ++ [r_1]).flatMap eN0)) hS19 k_sl_28_65 k_sz_65_5 k_by_65_40 k_zero_65 rfl (by decide) rfl rfl rfl rfl (fm_lenn (l := Cells1) eN2 rfl) rfl (hS19.cf (i := 4) rfl) (fm_lenn (l := [r_1]) eN2 rfl) (fm_one' (enc := eN0) enc_Dyadic_one [r_1]) (by have := hap; omega) (by have := hap; simp only [maxLen]; omega) (fm_app _ _) (app_len (l := Cells1) (l' := [r_1]) rfl rfl)) ?_ ?_
       ·rintro _ w_13 ⟨B4, c4, rfl, hS20⟩
        refine ⟨(hS20.se [0, 1]), ?_⟩
        refine rq 15 38 (v := pt (aD b2) 2) rfl (hS20.se [0, 1]) (fun w' hw' => (Y_fieldAddr (B := aD b2) (i := 0) (s := 0) k_fd_48_2_2_28 k_sz_28_1 rfl (hf1.get 3 2 rfl))) ?_
        refine rA [16] ?_
        refine ra_s0 (i := 16) rfl rfl rfl (Ys_store (i := 2) (s := 1) (B := aD b2) (T' := 48) (v := .slice B4 ((Cells1 ++ [r_1]).length) c4) (vs := [.slice B4 ((Cells1 ++ [r_1]).length) c4]) (k := 2) (cs' := [vi m.Cols, vi m.Rows, .slice B4 ((Cells1 ++ [r_1]).length) c4]) hS20 k_sz_28_1 rfl rfl rfl rfl rfl rfl rfl (lB rfl) rfl rfl) ?_ ?_
        ·rintro _ w_14 ⟨rfl, hS21⟩
         refine ⟨(hS21.se [0, 1]), ?_⟩
         refine ra_done (by kernel_rfl) ?_
         exact ⟨B4, c4, (FF.cons (hf1.get 1 0 rfl) (FF.cons (hf1.get 2 1 rfl) (FF.cons (hf1.get 3 2 rfl) (FF.cons (hf1.get 4 3 rfl) (FF.cons (hf1.get 5 4 rfl) FF.nil))))), (hS21.sel [0, 1, 2, 3] rfl rfl)⟩
        exact allR_nil
       exact allR_nil
      exact allR_nil
     exact allR_nil
    exact allR_nil
   rintro f w ⟨B5, c5, hf2, hS9⟩
   refine cw_region ?_
   refine sQ 21 (Y_move (v := vi (i2 : Int)) rfl (hf2.get 5 4 rfl)) ?_
   refine sQ 22 (Y_add (k := .i64) (a := (i2 : Int)) (b := 1) rfl rfl rfl) ?_
   refine sQ 5 (Y_assign (v := vi (i64.wrap ((i2 : Int) + 1))) rfl rfl) (rw_nil ?_)
   obtain rfl := some_inj hb1
   exact ⟨k_3, Nat.lt_succ_self _, i2 + 1, (Cells1 ++ [r_1]), B5, c5, (FF.cons (hf2.get 1 0 rfl) (FF.cons (hf2.get 2 1 rfl) (FF.cons (hf2.get 3 2 rfl) (FF.cons (hf2.get 4 3 rfl) (FF.cons (congrArg (Value.int .i64) (wr_succ hlt3 hN1)) FF.nil))))), (hS9.sel [0, 1, 2, 3] rfl rfl), (by omega), hL3⟩
  ·skip
   obtain rfl : k_2 = 0 := by have h := of_decide_eq_false hlt2; omega
   refine cw_exit rfl ?_
   obtain rfl := some_inj hL2
   refine cw_region ?_
   refine sQ 15 (Y_move (v := vi (j : Int)) rfl (hf1.get 4 3 rfl)) ?_
   refine sQ 16 (Y_add (k := .i64) (a := (j : Int)) (b := 1) rfl rfl rfl) ?_
   refine sQ 4 (Y_assign (v := vi (i64.wrap ((j : Int) + 1))) rfl rfl) (rw_nil ?_)
   obtain rfl := some_inj hF2
   exact ⟨k_1, Nat.lt_succ_self _, j + 1, Cells1, B3, c3, (FF.cons (hf1.get 1 0 rfl) (FF.cons (hf1.get 2 1 rfl) (FF.cons (hf1.get 3 2 rfl) (FF.cons (congrArg (Value.int .i64) (wr_succ hlt1 hN)) FF.nil)))), (hS7.sel [0, 1, 2, 3] rfl rfl), (by omega), hL1⟩
 ·skip
  obtain rfl : k_ = 0 := by have h := of_decide_eq_false hlt; omega
  refine cw_exit rfl ?_
  obtain rfl := some_inj hL
  refine cw_seq (cw_region ?_)
  refine sQ 39 (Y_loadA (B := aD b2) (i := 0) (cs := [vi m.Cols, vi m.Rows, .slice B2 Cells.length c2]) (vs := [vi m.Cols, vi m.Rows, .slice B2 Cells.length c2]) k_ag_48 k_sz_48_3 rfl (hf.get 3 2 rfl) (hS5.cf (i := 2) rfl) rfl rfl) ?_
  refine s0 (Ys_store (i := 1) (s := 3) (B := aD b1) (T' := 48) (v := .agg #[vi m.Cols, vi m.Rows, .slice B2 Cells.length c2]) (vs := [vi m.Cols, vi m.Rows, .slice B2 Cells.length c2]) (k := 0) (cs' := [vi m.Cols, vi m.Rows, .slice B2 Cells.length c2]) hS5 k_sz_48_3 rfl (hf.get 2 1 rfl) rfl rfl rfl rfl rfl (lB rfl) rfl rfl) ?_
  rintro _ w_15 ⟨rfl, hS22⟩
  refine rw_nil (cw_ret ?_)
  obtain rfl := some_inj hF1
  exact ret1 Tryz.results100 (v1 := .agg #[vi m.Cols, vi m.Rows, .slice B2 Cells.length c2]) (resAt_cellA (B := aD b1) (i := 0) (cs := [vi m.Cols, vi m.Rows, .slice B2 Cells.length c2]) (vs := [vi m.Cols, vi m.Rows, .slice B2 Cells.length c2]) (hf.get 2 1 rfl) k_ag_48 k_sz_48_3 (hS22.cf (i := 1) rfl) rfl rfl) ⟨B2, c2, rfl, (hS22.sN [3])⟩

theorem c_spec_l9Bloch (m : TMatrix) (B : Option Addr) (c n : Nat) (w0 : World) (hn : m.Cells.length = n) (hS : ST w0 [] w0 [] [⟨B, (m.Cells.flatMap eN0)⟩]) {r_ : TBloch} {r_1 : Bool} (hF : F_spec_l9Bloch m = some (r_, r_1)) :
  CV Tryz.prog 56 #[.agg #[vi m.Rows, vi m.Cols, .slice B n c]] w0 (fun v w' => ∃ (B1 : Option Addr) (c1 : Nat), v = .tuple #[gB_ r_ B1 c1, .bool r_1] ∧ ST w0 [] w' [⟨B1, 65, (r_.Cells.flatMap eN0), c1 * 5⟩] []) := by
 subst hn
 unfold F_spec_l9Bloch at hF
 refine cv_of_cw 59 Tryz.func56 rfl Tryz.ntmps56 rfl ?_
 refine cw_seq (cw_region ?_)
 refine sS 1 (Ys_box (T := 48) (v := gM_ m B c) (cs := kM_ m B c) (m := 3) hS rfl rfl rfl rfl) ?_
 rintro _ w_ ⟨b, rfl, hS1⟩
 refine sS 2 (Ys_alloc (T := 30) (cs := [.slice none 0 0]) (m := 1) hS1 k_zero_30 rfl rfl rfl) ?_
 rintro _ w_1 ⟨b1, rfl, hS2⟩
 refine sQ 3 (Y_assign (v := .bool false) rfl rfl) (rw_nil (cw_seq (cw_region ?_)))
 refine sQ 10 (Y_buildS (zs := [.bool false]) (vs := []) (cs := [.bool false]) k_pl_82 k_zero_82 rfl mpn rfl) ?_
 refine sS 11 (Ys_box (T := 82) (v := .agg #[.bool false]) (cs := [.bool false]) (m := 1) hS2 rfl rfl rfl rfl) ?_
 rintro _ w_2 ⟨b2, rfl, hS3⟩
 refine sQ 4 (Y_assign (v := pt (aD b2) 0) rfl rfl) (rw_nil (cw_seq (cw_region ?_)))
 refine sS 5 (Ys_alloc (T := 30) (cs := [.slice none 0 0]) (m := 1) hS3 k_zero_30 rfl rfl rfl) ?_
 rintro _ w_3 ⟨b3, rfl, hS4⟩
 refine rw_nil (cw_seq (cw_seq (cw_region ?_)))
 refine sQ 6 (Y_assign (v := vi 0) rfl rfl) (rw_nil ?_)
 obtain ⟨z, hz, hF1⟩ := bind_inv hF
 have hS6 := hS4.addNil 65
 refine cw_block ?_
 refine cw_loop (fun k f w => ∃ (i1 : Nat) (bad : Bool) (Cells : List TDyadic) (B2 : Option Addr) (c2 : Nat), FF f [(1, pt (aD b) 0), (2, pt (aD b1) 0), (4, pt (aD b2) 0), (5, pt (aD b3) 0), (6, vi (i1 : Int))] ∧ ST w0 [] w [⟨aD b, 48, kM_ m B c, 3⟩, ⟨aD b1, 30, [.slice none 0 0], 1⟩, ⟨aD b2, 82, [.bool bad], 1⟩, ⟨aD b3, 30, [.slice B2 Cells.length c2], 1⟩, ⟨B2, 65, (Cells.flatMap eN0), c2 * 5⟩] [⟨B, (m.Cells.flatMap eN0)⟩] ∧ i1 + k = 3 ∧ forN (F_spec_l9Bloch_l1 m) k i1 (bad, Cells) = some z) 3 ⟨0, false, [], none, 0, (FF.cons rfl (FF.cons rfl (FF.cons rfl (FF.cons rfl (FF.cons rfl FF.nil))))), (hS6.sel [0, 1, 2, 3, 4] rfl rfl), Nat.zero_add _, hz⟩ ?_
 rintro k_ f w ⟨i1, bad, Cells, B2, c2, hf, hS5, hik, hL⟩
 refine cw_seq (cw_seq (cw_region ?_))
 refine sQ 12 (Y_move (v := vi (i1 : Int)) rfl (hf.get 6 4 rfl)) ?_
 refine sQ 13 (Y_lt (k := .i64) (a := (i1 : Int)) (b := 3) rfl rfl rfl) (rw_nil ?_)
 refine cw_cond (b := (decide ((i1 : Int) < 3))) rfl (fun hlt => ?_) (fun hlt => ?_)
 ·skip
  have hlt1 : i1 < 3 := by have h := of_decide_eq_true hlt; omega
  obtain ⟨k_1, rfl⟩ : ∃ k2, k_ = k2 + 1 := ⟨k_ - 1, by omega⟩
  obtain ⟨y, hb, hL1⟩ := forN_go hL
  unfold F_spec_l9Bloch_l1 at hb
  refine cw_skip (cw_seq (cw_block (cw_seq (cw_region ?_))))
  refine sQ 7 (Y_assign (v := vi 0) rfl rfl) (rw_nil ?_)
  obtain ⟨z1, hz1, hF2⟩ := bind_inv hb
  refine cw_block ?_
  refine cw_loop (fun k f w => ∃ (j : Nat) (bad1 : Bool) (Cells1 : List TDyadic) (B3 : Option Addr) (c3 : Nat), FF f [(1, pt (aD b) 0), (2, pt (aD b1) 0), (4, pt (aD b2) 0), (5, pt (aD b3) 0), (6, vi (i1 : Int)), (7, vi (j : Int))] ∧ ST w0 [] w [⟨aD b, 48, kM_ m B c, 3⟩, ⟨aD b1, 30, [.slice none 0 0], 1⟩, ⟨aD b2, 82, [.bool bad1], 1⟩, ⟨aD b3, 30, [.slice B3 Cells1.length c3], 1⟩, ⟨B3, 65, (Cells1.flatMap eN0), c3 * 5⟩] [⟨B, (m.Cells.flatMap eN0)⟩] ∧ j + k = 3 ∧ forN (F_spec_l9Bloch_l2 i1 m Cells bad) k j (bad1, Cells1) = some z1) 3 ⟨0, bad, Cells, B2, c2, (FF.cons (hf.get 1 0 rfl) (FF.cons (hf.get 2 1 rfl) (FF.cons (hf.get 4 2 rfl) (FF.cons (hf.get 5 3 rfl) (FF.cons (hf.get 6 4 rfl) (FF.cons rfl FF.nil)))))), (hS5.sel [0, 1, 2, 3, 4] rfl rfl), Nat.zero_add _, hz1⟩ ?_
  rintro k_2 f w ⟨j, bad1, Cells1, B3, c3, hf1, hS7, hik1, hL2⟩
  refine cw_seq (cw_seq (cw_region ?_))
  refine sQ 16 (Y_move (v := vi (j : Int)) rfl (hf1.get 7 5 rfl)) ?_
  refine sQ 17 (Y_lt (k := .i64) (a := (j : Int)) (b := 3) rfl rfl rfl) (rw_nil ?_)
  refine cw_cond (b := (decide ((j : Int) < 3))) rfl (fun hlt2 => ?_) (fun hlt2 => ?_)
  ·skip
   have hlt3 : j < 3 := by have h := of_decide_eq_true hlt2; omega
   obtain ⟨k_3, rfl⟩ : ∃ k2, k_2 = k2 + 1 := ⟨k_2 - 1, by omega⟩
   obtain ⟨y1, hb1, hL3⟩ := forN_go hL2
   unfold F_spec_l9Bloch_l2 at hb1
   refine cw_skip (cw_seq (cw_block (cw_seq ?_)))
   obtain ⟨r_2, hc, hb1⟩ := bind_inv hb1
   obtain ⟨⟨r_3, m1⟩, hc1, hb1⟩ := bind_inv hb1
   obtain ⟨r_4, hc2, hb1⟩ := bind_inv hb1
   obtain ⟨⟨r_5, m2⟩, hc3, hb1⟩ := bind_inv hb1
   obtain ⟨r_6, hc4, hb1⟩ := bind_inv hb1
   obtain ⟨⟨r_7, m3⟩, hc5, hb1⟩ := bind_inv hb1
   refine cw_mid (fun f w => ∃ (B10 : Option Addr) (B11 : Option Addr) (c10 : Nat), FF f [(1, pt (aD b) 0), (2, pt (aD b1) 0), (4, pt (aD b2) 0), (5, pt (aD b3) 0), (6, vi (i1 : Int)), (7, vi (j : Int)), (8, pt B10 0)] ∧ ST w0 [] w [⟨aD b, 48, kM_ m B c, 3⟩, ⟨aD b1, 30, [.slice none 0 0], 1⟩, ⟨aD b2, 82, [.bool m3.bad], 1⟩, ⟨aD b3, 30, [.slice B3 Cells1.length c3], 1⟩, ⟨B3, 65, (Cells1.flatMap eN0), c3 * 5⟩, ⟨B10, 48, kM_ r_7 B11 c10, 3⟩, ⟨B11, 65, (r_7.Cells.flatMap eN0), c10 * 5⟩] [⟨B, (m.Cells.flatMap eN0)⟩]) ?_ ?_
   ·skip
    refine ra_start (hS7.se [0, 1, 3, 4]).fn (by kernel_rfl) ?_
    have hS15 := hS7.drew
    refine rq 0 20 (v := pt (aD b2) 0) rfl (hS15.se [0, 1, 3, 4]) (fun w' hw' => (Y_move (v := pt (aD b2) 0) rfl (hf1.get 4 2 rfl))) ?_
    refine rq 1 21 (v := pt (aD b2) 0) rfl (hS15.se [0, 1, 3, 4]) (fun w' hw' => (Y_move (v := pt (aD b2) 0) rfl (hf1.get 4 2 rfl))) ?_
    refine rq 2 22 (v := pt (aD b2) 0) rfl (hS15.se [0, 1, 3, 4]) (fun w' hw' => (Y_move (v := pt (aD b2) 0) rfl (hf1.get 4 2 rfl))) ?_
    refine rq 3 23 (v := vi (i1 : Int)) rfl (hS15.se [0, 1, 3, 4]) (fun w' hw' => (Y_move (v := vi (i1 : Int)) rfl (hf1.get 6 4 rfl))) ?_
    refine rq 5 25 (v := gM_ m B c) rfl (hS15.se [0, 1, 3, 4]) (fun w' hw' => (Y_loadA (B := aD b) (i := 0) (cs := kM_ m B c) (vs := kM_ m B c) k_ag_48 k_sz_48_3 rfl (hf1.get 1 0 rfl) (ST.cf hw' (i := 0) rfl) rfl rfl)) ?_
    refine rq 7 27 (v := vi (j : Int)) rfl (hS15.se [0, 1, 3, 4]) (fun w' hw' => (Y_move (v := vi (j : Int)) rfl (hf1.get 7 5 rfl))) ?_
    refine rq 10 30 (v := gM_ m B c) rfl (hS15.se [0, 1, 3, 4]) (fun w' hw' => (Y_loadA (B := aD b) (i := 0) (cs := kM_ m B c) (vs := kM_ m B c) k_ag_48 k_sz_48_3 rfl (hf1.get 1 0 rfl) (ST.cf hw' (i := 0) rfl) rfl rfl)) ?_
    refine rA [4, 13] ?_
    refine ra_c 24 (i := 4) rfl rfl rfl (Yc_func (g := 99) (vs := [vi (i1 : Int)]) k_call_99 rfl (mc rfl mn) (c_spec_l9Pauli (i1 : Int) _  (hS15.inn0 [] rfl) hc)) ?_ ?_
    ·rintro _ w_4 ⟨B4, c4, rfl, hd⟩
     have hS16 := hS15.out0 hd
     refine ⟨(hS16.se [0, 1, 3, 4]), ?_⟩
     refine rA [6, 13] ?_
     refine ra_c 26 (i := 6) rfl rfl rfl (Yc_func (g := 98) (vs := [pt (aD b2) 0, gM_ r_2 B4 c4, gM_ m B c]) k_call_98 rfl (mc rfl (mc rfl (mc rfl mn))) (c_spec_l2C_times (Tl2C.mk bad1) r_2 m (aD b2) B4 c4 r_2.Cells.length B c m.Cells.length _ rfl rfl (hS16.inn [false, false, true, false, false, false] rfl [(false, 4), (true, 0)] rfl) hc1)) ?_ ?_
     ·rintro _ w_5 ⟨B5, c5, rfl, hd1⟩
      have hS17 := hS16.out [false, false, true, false, false, false] rfl hd1
      refine ⟨(hS17.se [0, 1, 2, 3]), ?_⟩
      refine rA [8, 13] ?_
      refine ra_c 28 (i := 8) rfl rfl rfl (Yc_func (g := 99) (vs := [vi (j : Int)]) k_call_99 rfl (mc rfl mn) (c_spec_l9Pauli (j : Int) _  (hS17.inn0 [] rfl) hc2)) ?_ ?_
      ·rintro _ w_6 ⟨B6, c6, rfl, hd2⟩
       have hS18 := hS17.out0 hd2
       refine ⟨(hS18.se [0, 1, 2, 3]), ?_⟩
       refine rA [9, 13] ?_
       refine ra_c 29 (i := 9) rfl rfl rfl (Yc_func (g := 98) (vs := [pt (aD b2) 0, gM_ r_3 B5 c5, gM_ r_4 B6 c6]) k_call_98 rfl (mc rfl (mc rfl (mc rfl mn))) (c_spec_l2C_times m1 r_3 r_4 (aD b2) B5 c5 r_3.Cells.length B6 c6 r_4.Cells.length _ rfl rfl (hS18.inn [false, false, false, false, false, true, false, false] rfl [(false, 5), (false, 6)] rfl) hc3)) ?_ ?_
       ·rintro _ w_7 ⟨B7, c7, rfl, hd3⟩
        have hS19 := hS18.out [false, false, false, false, false, true, false, false] rfl hd3
        refine ⟨(hS19.se [0, 1, 2, 3]), ?_⟩
        refine rA [11, 13] ?_
        refine ra_c 31 (i := 11) rfl rfl rfl (Yc_func (g := 100) (vs := [gM_ m B c]) k_call_100 rfl (mc rfl mn) (c_spec_l3Adj m B c m.Cells.length _ rfl (hS19.inn0 [(true, 0)] rfl) hc4)) ?_ ?_
        ·rintro _ w_8 ⟨B8, c8, rfl, hd4⟩
         have hS20 := hS19.out0 hd4
         refine ⟨(hS20.se [0, 1, 2, 3]), ?_⟩
         refine rA [12, 13] ?_
         refine ra_c 32 (i := 12) rfl rfl rfl (Yc_func (g := 98) (vs := [pt (aD b2) 0, gM_ r_5 B7 c7, gM_ r_6 B8 c8]) k_call_98 rfl (mc rfl (mc rfl (mc rfl mn))) (c_spec_l2C_times m2 r_5 r_6 (aD b2) B7 c7 r_5.Cells.length B8 c8 r_6.Cells.length _ rfl rfl (hS20.inn [false, false, false, false, false, false, false, true, false, false] rfl [(false, 7), (false, 8)] rfl) hc5)) ?_ ?_
         ·rintro _ w_9 ⟨B9, c9, rfl, hd5⟩
          have hS21 := hS20.out [false, false, false, false, false, false, false, true, false, false] rfl hd5
          refine ⟨(hS21.se [0, 1, 2, 3]), ?_⟩
          refine rA [13] ?_
          refine ra_s 8 (i := 13) rfl rfl rfl (Ys_alloc (T := 48) (cs := kN_) (m := 3) hS21 k_zero_48 rfl rfl rfl) ?_ ?_
          ·rintro _ w_10 ⟨b4, rfl, hS22⟩
           refine ⟨(hS22.se [0, 1, 2, 3]), ?_⟩
           refine rA [14] ?_
           refine ra_s0 (i := 14) rfl rfl rfl (Ys_store (i := 11) (s := 3) (B := aD b4) (T' := 48) (v := gM_ r_7 B9 c9) (vs := kM_ r_7 B9 c9) (k := 0) (cs' := kM_ r_7 B9 c9) hS22 k_sz_48_3 rfl rfl rfl rfl rfl rfl rfl (lB rfl) rfl rfl) ?_ ?_
           ·rintro _ w_11 ⟨rfl, hS23⟩
            refine ⟨(hS23.se [0, 1, 2, 3]), ?_⟩
            refine ra_done (by kernel_rfl) ?_
            exact ⟨aD b4, B9, c9, (FF.cons (hf1.get 1 0 rfl) (FF.cons (hf1.get 2 1 rfl) (FF.cons (hf1.get 4 2 rfl) (FF.cons (hf1.get 5 3 rfl) (FF.cons (hf1.get 6 4 rfl) (FF.cons (hf1.get 7 5 rfl) (FF.cons rfl FF.nil))))))), (hS23.sel [0, 1, 9, 2, 3, 11, 10] rfl rfl)⟩
           exact allR_nil
          exact allR_nil
         refine ra_s 8 (i := 13) rfl rfl rfl (Ys_alloc (T := 48) (cs := kN_) (m := 3) hS20 k_zero_48 rfl rfl rfl) ?_ ?_
         ·rintro _ w_12 ⟨b4, rfl, hS24⟩
          refine ⟨(hS24.se [0, 1, 2, 3]), ?_⟩
          refine rA [12] ?_
          refine ra_c 32 (i := 12) rfl rfl rfl (Yc_func (g := 98) (vs := [pt (aD b2) 0, gM_ r_5 B7 c7, gM_ r_6 B8 c8]) k_call_98 rfl (mc rfl (mc rfl (mc rfl mn))) (c_spec_l2C_times m2 r_5 r_6 (aD b2) B7 c7 r_5.Cells.length B8 c8 r_6.Cells.length _ rfl rfl (hS24.inn [false, false, false, false, false, false, false, true, false, false, false] rfl [(false, 7), (false, 8)] rfl) hc5)) ?_ ?_
          ·rintro _ w_13 ⟨B9, c9, rfl, hd6⟩
           have hS25 := hS24.out [false, false, false, false, false, false, false, true, false, false, false] rfl hd6
           refine ⟨(hS25.se [0, 1, 2, 3]), ?_⟩
           refine rA [14] ?_
           refine ra_s0 (i := 14) rfl rfl rfl (Ys_store (i := 9) (s := 3) (B := aD b4) (T' := 48) (v := gM_ r_7 B9 c9) (vs := kM_ r_7 B9 c9) (k := 0) (cs' := kM_ r_7 B9 c9) hS25 k_sz_48_3 rfl rfl rfl rfl rfl rfl rfl (lB rfl) rfl rfl) ?_ ?_
           ·rintro _ w_14 ⟨rfl, hS26⟩
            refine ⟨(hS26.se [0, 1, 2, 3]), ?_⟩
            refine ra_done (by kernel_rfl) ?_
            exact ⟨aD b4, B9, c9, (FF.cons (hf1.get 1 0 rfl) (FF.cons (hf1.get 2 1 rfl) (FF.cons (hf1.get 4 2 rfl) (FF.cons (hf1.get 5 3 rfl) (FF.cons (hf1.get 6 4 rfl) (FF.cons (hf1.get 7 5 rfl) (FF.cons rfl FF.nil))))))), (hS26.sel [0, 1, 10, 2, 3, 9, 11] rfl rfl)⟩
           exact allR_nil
          exact allR_nil
         exact allR_nil
        refine ra_s 8 (i := 13) rfl rfl rfl (Ys_alloc (T := 48) (cs := kN_) (m := 3) hS19 k_zero_48 rfl rfl rfl) ?_ ?_
        ·rintro _ w_15 ⟨b4, rfl, hS27⟩
         refine ⟨(hS27.se [0, 1, 2, 3]), ?_⟩
         refine rA [11] ?_
         refine ra_c 31 (i := 11) rfl rfl rfl (Yc_func (g := 100) (vs := [gM_ m B c]) k_call_100 rfl (mc rfl mn) (c_spec_l3Adj m B c m.Cells.length _ rfl (hS27.inn0 [(true, 0)] rfl) hc4)) ?_ ?_
         ·rintro _ w_16 ⟨B8, c8, rfl, hd7⟩
          have hS28 := hS27.out0 hd7
          refine ⟨(hS28.se [0, 1, 2, 3]), ?_⟩
          refine rA [12] ?_
          refine ra_c 32 (i := 12) rfl rfl rfl (Yc_func (g := 98) (vs := [pt (aD b2) 0, gM_ r_5 B7 c7, gM_ r_6 B8 c8]) k_call_98 rfl (mc rfl (mc rfl (mc rfl mn))) (c_spec_l2C_times m2 r_5 r_6 (aD b2) B7 c7 r_5.Cells.length B8 c8 r_6.Cells.length _ rfl rfl (hS28.inn [false, false, false, false, false, false, false, true, false, false, false] rfl [(false, 7), (false, 9)] rfl) hc5)) ?_ ?_
          ·rintro _ w_17 ⟨B9, c9, rfl, hd8⟩
           have hS29 := hS28.out [false, false, false, false, false, false, false, true, false, false, false] rfl hd8
           refine ⟨(hS29.se [0, 1, 2, 3]), ?_⟩
           refine rA [14] ?_
           refine ra_s0 (i := 14) rfl rfl rfl (Ys_store (i := 8) (s := 3) (B := aD b4) (T' := 48) (v := gM_ r_7 B9 c9) (vs := kM_ r_7 B9 c9) (k := 0) (cs' := kM_ r_7 B9 c9) hS29 k_sz_48_3 rfl rfl rfl rfl rfl rfl rfl (lB rfl) rfl rfl) ?_ ?_
           ·rintro _ w_18 ⟨rfl, hS30⟩
            refine ⟨(hS30.se [0, 1, 2, 3]), ?_⟩
            refine ra_done (by kernel_rfl) ?_
            exact ⟨aD b4, B9, c9, (FF.cons (hf1.get 1 0 rfl) (FF.cons (hf1.get 2 1 rfl) (FF.cons (hf1.get 4 2 rfl) (FF.cons (hf1.get 5 3 rfl) (FF.cons (hf1.get 6 4 rfl) (FF.cons (hf1.get 7 5 rfl) (FF.cons rfl FF.nil))))))), (hS30.sel [0, 1, 10, 2, 3, 8, 11] rfl rfl)⟩
           exact allR_nil
          exact allR_nil
         exact allR_nil
        exact allR_nil
       refine ra_s 8 (i := 13) rfl rfl rfl (Ys_alloc (T := 48) (cs := kN_) (m := 3) hS18 k_zero_48 rfl rfl rfl) ?_ ?_
       ·rintro _ w_19 ⟨b4, rfl, hS31⟩
        refine ⟨(hS31.se [0, 1, 2, 3]), ?_⟩
        refine rA [9] ?_
        refine ra_c 29 (i := 9) rfl rfl rfl (Yc_func (g := 98) (vs := [pt (aD b2) 0, gM_ r_3 B5 c5, gM_ r_4 B6 c6]) k_call_98 rfl (mc rfl (mc rfl (mc rfl mn))) (c_spec_l2C_times m1 r_3 r_4 (aD b2) B5 c5 r_3.Cells.length B6 c6 r_4.Cells.length _ rfl rfl (hS31.inn [false, false, false, false, false, true, false, false, false] rfl [(false, 5), (false, 6)] rfl) hc3)) ?_ ?_
        ·rintro _ w_20 ⟨B7, c7, rfl, hd9⟩
         have hS32 := hS31.out [false, false, false, false, false, true, false, false, false] rfl hd9
         refine ⟨(hS32.se [0, 1, 2, 3]), ?_⟩
         refine rA [11] ?_
         refine ra_c 31 (i := 11) rfl rfl rfl (Yc_func (g := 100) (vs := [gM_ m B c]) k_call_100 rfl (mc rfl mn) (c_spec_l3Adj m B c m.Cells.length _ rfl (hS32.inn0 [(true, 0)] rfl) hc4)) ?_ ?_
         ·rintro _ w_21 ⟨B8, c8, rfl, hd10⟩
          have hS33 := hS32.out0 hd10
          refine ⟨(hS33.se [0, 1, 2, 3]), ?_⟩
          refine rA [12] ?_
          refine ra_c 32 (i := 12) rfl rfl rfl (Yc_func (g := 98) (vs := [pt (aD b2) 0, gM_ r_5 B7 c7, gM_ r_6 B8 c8]) k_call_98 rfl (mc rfl (mc rfl (mc rfl mn))) (c_spec_l2C_times m2 r_5 r_6 (aD b2) B7 c7 r_5.Cells.length B8 c8 r_6.Cells.length _ rfl rfl (hS33.inn [false, false, false, false, false, false, false, false, true, false, false] rfl [(false, 8), (false, 9)] rfl) hc5)) ?_ ?_
          ·rintro _ w_22 ⟨B9, c9, rfl, hd11⟩
           have hS34 := hS33.out [false, false, false, false, false, false, false, false, true, false, false] rfl hd11
           refine ⟨(hS34.se [0, 1, 2, 3]), ?_⟩
           refine rA [14] ?_
           refine ra_s0 (i := 14) rfl rfl rfl (Ys_store (i := 7) (s := 3) (B := aD b4) (T' := 48) (v := gM_ r_7 B9 c9) (vs := kM_ r_7 B9 c9) (k := 0) (cs' := kM_ r_7 B9 c9) hS34 k_sz_48_3 rfl rfl rfl rfl rfl rfl rfl (lB rfl) rfl rfl) ?_ ?_
           ·rintro _ w_23 ⟨rfl, hS35⟩
            refine ⟨(hS35.se [0, 1, 2, 3]), ?_⟩
            refine ra_done (by kernel_rfl) ?_
            exact ⟨aD b4, B9, c9, (FF.cons (hf1.get 1 0 rfl) (FF.cons (hf1.get 2 1 rfl) (FF.cons (hf1.get 4 2 rfl) (FF.cons (hf1.get 5 3 rfl) (FF.cons (hf1.get 6 4 rfl) (FF.cons (hf1.get 7 5 rfl) (FF.cons rfl FF.nil))))))), (hS35.sel [0, 1, 10, 2, 3, 7, 11] rfl rfl)⟩
           exact allR_nil
          exact allR_nil
         exact allR_nil
        exact allR_nil
       exact allR_nil
      refine ra_s 8 (i := 13) rfl rfl rfl (Ys_alloc (T := 48) (cs := kN_) (m := 3) hS17 k_zero_48 rfl rfl rfl) ?_ ?_
      ·rintro _ w_24 ⟨b4, rfl, hS36⟩
       refine ⟨(hS36.se [0, 1, 2, 3]), ?_⟩
       refine rA [8] ?_
       refine ra_c 28 (i := 8) rfl rfl rfl (Yc_func (g := 99) (vs := [vi (j : Int)]) k_call_99 rfl (mc rfl mn) (c_spec_l9Pauli (j : Int) _  (hS36.inn0 [] rfl) hc2)) ?_ ?_
       ·rintro _ w_25 ⟨B6, c6, rfl, hd12⟩
        have hS37 := hS36.out0 hd12
        refine ⟨(hS37.se [0, 1, 2, 3]), ?_⟩
        refine rA [9] ?_
        refine ra_c 29 (i := 9) rfl rfl rfl (Yc_func (g := 98) (vs := [pt (aD b2) 0, gM_ r_3 B5 c5, gM_ r_4 B6 c6]) k_call_98 rfl (mc rfl (mc rfl (mc rfl mn))) (c_spec_l2C_times m1 r_3 r_4 (aD b2) B5 c5 r_3.Cells.length B6 c6 r_4.Cells.length _ rfl rfl (hS37.inn [false, false, false, false, false, true, false, false, false] rfl [(false, 5), (false, 7)] rfl) hc3)) ?_ ?_
        ·rintro _ w_26 ⟨B7, c7, rfl, hd13⟩
         have hS38 := hS37.out [false, false, false, false, false, true, false, false, false] rfl hd13
         refine ⟨(hS38.se [0, 1, 2, 3]), ?_⟩
         refine rA [11] ?_
         refine ra_c 31 (i := 11) rfl rfl rfl (Yc_func (g := 100) (vs := [gM_ m B c]) k_call_100 rfl (mc rfl mn) (c_spec_l3Adj m B c m.Cells.length _ rfl (hS38.inn0 [(true, 0)] rfl) hc4)) ?_ ?_
         ·rintro _ w_27 ⟨B8, c8, rfl, hd14⟩
          have hS39 := hS38.out0 hd14
          refine ⟨(hS39.se [0, 1, 2, 3]), ?_⟩
          refine rA [12] ?_
          refine ra_c 32 (i := 12) rfl rfl rfl (Yc_func (g := 98) (vs := [pt (aD b2) 0, gM_ r_5 B7 c7, gM_ r_6 B8 c8]) k_call_98 rfl (mc rfl (mc rfl (mc rfl mn))) (c_spec_l2C_times m2 r_5 r_6 (aD b2) B7 c7 r_5.Cells.length B8 c8 r_6.Cells.length _ rfl rfl (hS39.inn [false, false, false, false, false, false, false, false, true, false, false] rfl [(false, 8), (false, 9)] rfl) hc5)) ?_ ?_
          ·rintro _ w_28 ⟨B9, c9, rfl, hd15⟩
           have hS40 := hS39.out [false, false, false, false, false, false, false, false, true, false, false] rfl hd15
           refine ⟨(hS40.se [0, 1, 2, 3]), ?_⟩
           refine rA [14] ?_
           refine ra_s0 (i := 14) rfl rfl rfl (Ys_store (i := 6) (s := 3) (B := aD b4) (T' := 48) (v := gM_ r_7 B9 c9) (vs := kM_ r_7 B9 c9) (k := 0) (cs' := kM_ r_7 B9 c9) hS40 k_sz_48_3 rfl rfl rfl rfl rfl rfl rfl (lB rfl) rfl rfl) ?_ ?_
           ·rintro _ w_29 ⟨rfl, hS41⟩
            refine ⟨(hS41.se [0, 1, 2, 3]), ?_⟩
            refine ra_done (by kernel_rfl) ?_
            exact ⟨aD b4, B9, c9, (FF.cons (hf1.get 1 0 rfl) (FF.cons (hf1.get 2 1 rfl) (FF.cons (hf1.get 4 2 rfl) (FF.cons (hf1.get 5 3 rfl) (FF.cons (hf1.get 6 4 rfl) (FF.cons (hf1.get 7 5 rfl) (FF.cons rfl FF.nil))))))), (hS41.sel [0, 1, 10, 2, 3, 6, 11] rfl rfl)⟩
           exact allR_nil
          exact allR_nil
         exact allR_nil
        exact allR_nil
       exact allR_nil
      exact allR_nil
     refine ra_s 8 (i := 13) rfl rfl rfl (Ys_alloc (T := 48) (cs := kN_) (m := 3) hS16 k_zero_48 rfl rfl rfl) ?_ ?_
     ·rintro _ w_30 ⟨b4, rfl, hS42⟩
      have hS42 : ST w0 [] _ [⟨aD b, 48, kM_ m B c, 3⟩, ⟨aD b1, 30, [.slice none 0 0], 1⟩, ⟨aD b2, 82, [.bool bad1], 1⟩, ⟨aD b3, 30, [.slice B3 Cells1.length c3], 1⟩, ⟨B3, 65, (Cells1.flatMap eN0), c3 * 5⟩, ⟨B4, 65, (r_2.Cells.flatMap eN0), c4 * 5⟩, ⟨aD b4, 48, kN_, 3⟩] [⟨B, (m.Cells.flatMap eN0)⟩] := hS42
      refine ⟨(hS42.se [0, 1, 3, 4]), ?_⟩
      refine rA [6] ?_
      refine ra_c 26 (i := 6) rfl rfl rfl (Yc_func (g := 98) (vs := [pt (aD b2) 0, gM_ r_2 B4 c4, gM_ m B c]) k_call_98 rfl (mc rfl (mc rfl (mc rfl mn))) (c_spec_l2C_times (Tl2C.mk bad1) r_2 m (aD b2) B4 c4 r_2.Cells.length B c m.Cells.length _ rfl rfl (hS42.inn [false, false, true, false, false, false, false] rfl [(false, 4), (true, 0)] rfl) hc1)) ?_ ?_
      ·rintro _ w_31 ⟨B5, c5, rfl, hd16⟩
       have hS43 := hS42.out [false, false, true, false, false, false, false] rfl hd16
       refine ⟨(hS43.se [0, 1, 2, 3]), ?_⟩
       refine rA [8] ?_
       refine ra_c 28 (i := 8) rfl rfl rfl (Yc_func (g := 99) (vs := [vi (j : Int)]) k_call_99 rfl (mc rfl mn) (c_spec_l9Pauli (j : Int) _  (hS43.inn0 [] rfl) hc2)) ?_ ?_
       ·rintro _ w_32 ⟨B6, c6, rfl, hd17⟩
        have hS44 := hS43.out0 hd17
        refine ⟨(hS44.se [0, 1, 2, 3]), ?_⟩
        refine rA [9] ?_
        refine ra_c 29 (i := 9) rfl rfl rfl (Yc_func (g := 98) (vs := [pt (aD b2) 0, gM_ r_3 B5 c5, gM_ r_4 B6 c6]) k_call_98 rfl (mc rfl (mc rfl (mc rfl mn))) (c_spec_l2C_times m1 r_3 r_4 (aD b2) B5 c5 r_3.Cells.length B6 c6 r_4.Cells.length _ rfl rfl (hS44.inn [false, false, false, false, false, false, true, false, false] rfl [(false, 6), (false, 7)] rfl) hc3)) ?_ ?_
        ·rintro _ w_33 ⟨B7, c7, rfl, hd18⟩
         have hS45 := hS44.out [false, false, false, false, false, false, true, false, false] rfl hd18
         refine ⟨(hS45.se [0, 1, 2, 3]), ?_⟩
         refine rA [11] ?_
         refine ra_c 31 (i := 11) rfl rfl rfl (Yc_func (g := 100) (vs := [gM_ m B c]) k_call_100 rfl (mc rfl mn) (c_spec_l3Adj m B c m.Cells.length _ rfl (hS45.inn0 [(true, 0)] rfl) hc4)) ?_ ?_
         ·rintro _ w_34 ⟨B8, c8, rfl, hd19⟩
          have hS46 := hS45.out0 hd19
          refine ⟨(hS46.se [0, 1, 2, 3]), ?_⟩
          refine rA [12] ?_
          refine ra_c 32 (i := 12) rfl rfl rfl (Yc_func (g := 98) (vs := [pt (aD b2) 0, gM_ r_5 B7 c7, gM_ r_6 B8 c8]) k_call_98 rfl (mc rfl (mc rfl (mc rfl mn))) (c_spec_l2C_times m2 r_5 r_6 (aD b2) B7 c7 r_5.Cells.length B8 c8 r_6.Cells.length _ rfl rfl (hS46.inn [false, false, false, false, false, false, false, false, true, false, false] rfl [(false, 8), (false, 9)] rfl) hc5)) ?_ ?_
          ·rintro _ w_35 ⟨B9, c9, rfl, hd20⟩
           have hS47 := hS46.out [false, false, false, false, false, false, false, false, true, false, false] rfl hd20
           refine ⟨(hS47.se [0, 1, 2, 3]), ?_⟩
           refine rA [14] ?_
           refine ra_s0 (i := 14) rfl rfl rfl (Ys_store (i := 5) (s := 3) (B := aD b4) (T' := 48) (v := gM_ r_7 B9 c9) (vs := kM_ r_7 B9 c9) (k := 0) (cs' := kM_ r_7 B9 c9) hS47 k_sz_48_3 rfl rfl rfl rfl rfl rfl rfl (lB rfl) rfl rfl) ?_ ?_
           ·rintro _ w_36 ⟨rfl, hS48⟩
            refine ⟨(hS48.se [0, 1, 2, 3]), ?_⟩
            refine ra_done (by kernel_rfl) ?_
            exact ⟨aD b4, B9, c9, (FF.cons (hf1.get 1 0 rfl) (FF.cons (hf1.get 2 1 rfl) (FF.cons (hf1.get 4 2 rfl) (FF.cons (hf1.get 5 3 rfl) (FF.cons (hf1.get 6 4 rfl) (FF.cons (hf1.get 7 5 rfl) (FF.cons rfl FF.nil))))))), (hS48.sel [0, 1, 10, 2, 3, 5, 11] rfl rfl)⟩
           exact allR_nil
          exact allR_nil
         exact allR_nil
        exact allR_nil
       exact allR_nil
      exact allR_nil
     exact allR_nil
    refine ra_s 8 (i := 13) rfl rfl rfl (Ys_alloc (T := 48) (cs := kN_) (m := 3) hS15 k_zero_48 rfl rfl rfl) ?_ ?_
    ·rintro _ w_37 ⟨b4, rfl, hS49⟩
     refine ⟨(hS49.se [0, 1, 3, 4]), ?_⟩
     refine rA [4] ?_
     refine ra_c 24 (i := 4) rfl rfl rfl (Yc_func (g := 99) (vs := [vi (i1 : Int)]) k_call_99 rfl (mc rfl mn) (c_spec_l9Pauli (i1 : Int) _  (hS49.inn0 [] rfl) hc)) ?_ ?_
     ·rintro _ w_38 ⟨B4, c4, rfl, hd21⟩
      have hS50 := hS49.out0 hd21
      refine ⟨(hS50.se [0, 1, 3, 4]), ?_⟩
      refine rA [6] ?_
      refine ra_c 26 (i := 6) rfl rfl rfl (Yc_func (g := 98) (vs := [pt (aD b2) 0, gM_ r_2 B4 c4, gM_ m B c]) k_call_98 rfl (mc rfl (mc rfl (mc rfl mn))) (c_spec_l2C_times (Tl2C.mk bad1) r_2 m (aD b2) B4 c4 r_2.Cells.length B c m.Cells.length _ rfl rfl (hS50.inn [false, false, true, false, false, false, false] rfl [(false, 5), (true, 0)] rfl) hc1)) ?_ ?_
      ·rintro _ w_39 ⟨B5, c5, rfl, hd22⟩
       have hS51 := hS50.out [false, false, true, false, false, false, false] rfl hd22
       refine ⟨(hS51.se [0, 1, 2, 3]), ?_⟩
       refine rA [8] ?_
       refine ra_c 28 (i := 8) rfl rfl rfl (Yc_func (g := 99) (vs := [vi (j : Int)]) k_call_99 rfl (mc rfl mn) (c_spec_l9Pauli (j : Int) _  (hS51.inn0 [] rfl) hc2)) ?_ ?_
       ·rintro _ w_40 ⟨B6, c6, rfl, hd23⟩
        have hS52 := hS51.out0 hd23
        refine ⟨(hS52.se [0, 1, 2, 3]), ?_⟩
        refine rA [9] ?_
        refine ra_c 29 (i := 9) rfl rfl rfl (Yc_func (g := 98) (vs := [pt (aD b2) 0, gM_ r_3 B5 c5, gM_ r_4 B6 c6]) k_call_98 rfl (mc rfl (mc rfl (mc rfl mn))) (c_spec_l2C_times m1 r_3 r_4 (aD b2) B5 c5 r_3.Cells.length B6 c6 r_4.Cells.length _ rfl rfl (hS52.inn [false, false, false, false, false, false, true, false, false] rfl [(false, 6), (false, 7)] rfl) hc3)) ?_ ?_
        ·rintro _ w_41 ⟨B7, c7, rfl, hd24⟩
         have hS53 := hS52.out [false, false, false, false, false, false, true, false, false] rfl hd24
         refine ⟨(hS53.se [0, 1, 2, 3]), ?_⟩
         refine rA [11] ?_
         refine ra_c 31 (i := 11) rfl rfl rfl (Yc_func (g := 100) (vs := [gM_ m B c]) k_call_100 rfl (mc rfl mn) (c_spec_l3Adj m B c m.Cells.length _ rfl (hS53.inn0 [(true, 0)] rfl) hc4)) ?_ ?_
         ·rintro _ w_42 ⟨B8, c8, rfl, hd25⟩
          have hS54 := hS53.out0 hd25
          refine ⟨(hS54.se [0, 1, 2, 3]), ?_⟩
          refine rA [12] ?_
          refine ra_c 32 (i := 12) rfl rfl rfl (Yc_func (g := 98) (vs := [pt (aD b2) 0, gM_ r_5 B7 c7, gM_ r_6 B8 c8]) k_call_98 rfl (mc rfl (mc rfl (mc rfl mn))) (c_spec_l2C_times m2 r_5 r_6 (aD b2) B7 c7 r_5.Cells.length B8 c8 r_6.Cells.length _ rfl rfl (hS54.inn [false, false, false, false, false, false, false, false, true, false, false] rfl [(false, 8), (false, 9)] rfl) hc5)) ?_ ?_
          ·rintro _ w_43 ⟨B9, c9, rfl, hd26⟩
           have hS55 := hS54.out [false, false, false, false, false, false, false, false, true, false, false] rfl hd26
           refine ⟨(hS55.se [0, 1, 2, 3]), ?_⟩
           refine rA [14] ?_
           refine ra_s0 (i := 14) rfl rfl rfl (Ys_store (i := 4) (s := 3) (B := aD b4) (T' := 48) (v := gM_ r_7 B9 c9) (vs := kM_ r_7 B9 c9) (k := 0) (cs' := kM_ r_7 B9 c9) hS55 k_sz_48_3 rfl rfl rfl rfl rfl rfl rfl (lB rfl) rfl rfl) ?_ ?_
           ·rintro _ w_44 ⟨rfl, hS56⟩
            refine ⟨(hS56.se [0, 1, 2, 3]), ?_⟩
            refine ra_done (by kernel_rfl) ?_
            exact ⟨aD b4, B9, c9, (FF.cons (hf1.get 1 0 rfl) (FF.cons (hf1.get 2 1 rfl) (FF.cons (hf1.get 4 2 rfl) (FF.cons (hf1.get 5 3 rfl) (FF.cons (hf1.get 6 4 rfl) (FF.cons (hf1.get 7 5 rfl) (FF.cons rfl FF.nil))))))), (hS56.sel [0, 1, 10, 2, 3, 4, 11] rfl rfl)⟩
           exact allR_nil
          exact allR_nil
         exact allR_nil
        exact allR_nil
       exact allR_nil
      exact allR_nil
     exact allR_nil
    exact allR_nil
   rintro f w ⟨B10, B11, c10, hf2, hS14⟩
   refine cw_seq ?_
   obtain ⟨x, hx, hb1⟩ := bind_inv hb1
   obtain ⟨x1, hx1, hb1⟩ := bind_inv hb1
   obtain ⟨⟨r_8, m4⟩, hc6, hb1⟩ := bind_inv hb1
   refine cw_mid (fun f w => ∃ (B12 : Option Addr), FF f [(1, pt (aD b) 0), (2, pt (aD b1) 0), (4, pt (aD b2) 0), (5, pt (aD b3) 0), (6, vi (i1 : Int)), (7, vi (j : Int)), (9, pt B12 0)] ∧ ST w0 [] w [⟨aD b, 48, kM_ m B c, 3⟩, ⟨aD b1, 30, [.slice none 0 0], 1⟩, ⟨aD b2, 82, [.bool m4.bad], 1⟩, ⟨aD b3, 30, [.slice B3 Cells1.length c3], 1⟩, ⟨B3, 65, (Cells1.flatMap eN0), c3 * 5⟩, ⟨B12, 65, kD_ r_8, 5⟩] [⟨B, (m.Cells.flatMap eN0)⟩]) ?_ ?_
   ·skip
    refine ra_start (hS14.se [0, 1, 3, 4, 5, 6]).fn (by kernel_rfl) ?_
    have hS59 := hS14.drew
    refine rq 0 33 (v := pt (aD b2) 0) rfl (hS59.se [0, 1, 3, 4, 5, 6]) (fun w' hw' => (Y_move (v := pt (aD b2) 0) rfl (hf2.get 4 2 rfl))) ?_
    refine rq 1 34 (v := pt B10 2) rfl (hS59.se [0, 1, 3, 4, 5, 6]) (fun w' hw' => (Y_fieldAddr (B := B10) (i := 0) (s := 0) k_fd_48_2_2_28 k_sz_28_1 rfl (hf2.get 8 6 rfl))) ?_
    refine rq 2 35 (v := .slice B11 r_7.Cells.length c10) rfl (hS59.se [0, 1, 3, 4, 5, 6]) (fun w' hw' => (Y_load1 (B := B10) (i := 2) (cs := kM_ r_7 B11 c10) (v := .slice B11 r_7.Cells.length c10) k_sc_28 rfl rfl (ST.cf hw' (i := 4) rfl) rfl)) ?_
    refine rq 3 36 (v := pt B11 ((0 : Int).toNat * 5)) rfl (hS59.se [0, 1, 3, 4, 5, 6]) (fun w' hw' => (Y_index (B := B11) (m := r_7.Cells.length) (c := c10) (k := .i64) (i := 0) k_sl_28_65 k_sz_65_5 rfl rfl rfl (gi_isSome eN2 rfl (ST.cf hw' (i := 5) rfl) hx) (getI_nn hx) (getI_ltI hx rfl))) ?_
    refine rq 4 37 (v := gD_ x) rfl (hS59.se [0, 1, 3, 4, 5, 6]) (fun w' hw' => (Y_loadA (B := B11) (i := (0 : Int).toNat * 5) (cs := (r_7.Cells.flatMap eN0)) (vs := kD_ x) k_ag_65 k_sz_65_5 rfl rfl (ST.cf hw' (i := 5) rfl) (eN2 x) (gi_seg eN2 hx))) ?_
    refine rq 5 38 (v := pt B10 2) rfl (hS59.se [0, 1, 3, 4, 5, 6]) (fun w' hw' => (Y_fieldAddr (B := B10) (i := 0) (s := 0) k_fd_48_2_2_28 k_sz_28_1 rfl (hf2.get 8 6 rfl))) ?_
    refine rq 6 39 (v := .slice B11 r_7.Cells.length c10) rfl (hS59.se [0, 1, 3, 4, 5, 6]) (fun w' hw' => (Y_load1 (B := B10) (i := 2) (cs := kM_ r_7 B11 c10) (v := .slice B11 r_7.Cells.length c10) k_sc_28 rfl rfl (ST.cf hw' (i := 4) rfl) rfl)) ?_
    refine rq 7 40 (v := pt B11 ((3 : Int).toNat * 5)) rfl (hS59.se [0, 1, 3, 4, 5, 6]) (fun w' hw' => (Y_index (B := B11) (m := r_7.Cells.length) (c := c10) (k := .i64) (i := 3) k_sl_28_65 k_sz_65_5 rfl rfl rfl (gi_isSome eN2 rfl (ST.cf hw' (i := 5) rfl) hx1) (getI_nn hx1) (getI_ltI hx1 rfl))) ?_
    refine rq 8 41 (v := gD_ x1) rfl (hS59.se [0, 1, 3, 4, 5, 6]) (fun w' hw' => (Y_loadA (B := B11) (i := (3 : Int).toNat * 5) (cs := (r_7.Cells.flatMap eN0)) (vs := kD_ x1) k_ag_65 k_sz_65_5 rfl rfl (ST.cf hw' (i := 5) rfl) (eN2 x1) (gi_seg eN2 hx1))) ?_
    refine rA [9, 10] ?_
    refine ra_c 42 (i := 9) rfl rfl rfl (Yc_func (g := 50) (vs := [pt (aD b2) 0, gD_ x, gD_ x1]) k_call_50 rfl (mc rfl (mc rfl (mc rfl mn))) (c_spec_l2C_add m3 x x1 (aD b2) _  (hS59.inn [false, false, true, false, false, false, false] rfl [] rfl) hc6)) ?_ ?_
    ·rintro _ w_45 ⟨rfl, hd27⟩
     have hS60 := hS59.out [false, false, true, false, false, false, false] rfl hd27
     refine ⟨(hS60.se [0, 1, 2, 3, 4, 5]), ?_⟩
     refine rA [10] ?_
     refine ra_s 9 (i := 10) rfl rfl rfl (Ys_alloc (T := 65) (cs := kZ_) (m := 5) hS60 k_zero_65 rfl rfl rfl) ?_ ?_
     ·rintro _ w_46 ⟨b5, rfl, hS61⟩
      refine ⟨(hS61.se [0, 1, 2, 3, 4, 5]), ?_⟩
      refine rA [11] ?_
      refine ra_s0 (i := 11) rfl rfl rfl (Ys_store (i := 7) (s := 5) (B := aD b5) (T' := 65) (v := gD_ r_8) (vs := kD_ r_8) (k := 0) (cs' := kD_ r_8) hS61 k_sz_65_5 rfl rfl rfl rfl rfl rfl rfl (lB rfl) rfl rfl) ?_ ?_
      ·rintro _ w_47 ⟨rfl, hS62⟩
       refine ⟨(hS62.se [0, 1, 2, 3, 4, 5]), ?_⟩
       refine ra_done (by kernel_rfl) ?_
       exact ⟨aD b5, (FF.cons (hf2.get 1 0 rfl) (FF.cons (hf2.get 2 1 rfl) (FF.cons (hf2.get 4 2 rfl) (FF.cons (hf2.get 5 3 rfl) (FF.cons (hf2.get 6 4 rfl) (FF.cons (hf2.get 7 5 rfl) (FF.cons rfl FF.nil))))))), (hS62.sel [0, 1, 6, 2, 3, 7] rfl rfl)⟩
      exact allR_nil
     exact allR_nil
    refine ra_s 9 (i := 10) rfl rfl rfl (Ys_alloc (T := 65) (cs := kZ_) (m := 5) hS59 k_zero_65 rfl rfl rfl) ?_ ?_
    ·rintro _ w_48 ⟨b5, rfl, hS63⟩
     refine ⟨(hS63.se [0, 1, 3, 4, 5, 6]), ?_⟩
     refine rA [9] ?_
     refine ra_c 42 (i := 9) rfl rfl rfl (Yc_func (g := 50) (vs := [pt (aD b2) 0, gD_ x, gD_ x1]) k_call_50 rfl (mc rfl (mc rfl (mc rfl mn))) (c_spec_l2C_add m3 x x1 (aD b2) _  (hS63.inn [false, false, true, false, false, false, false, false] rfl [] rfl) hc6)) ?_ ?_
     ·rintro _ w_49 ⟨rfl, hd28⟩
      have hS64 := hS63.out [false, false, true, false, false, false, false, false] rfl hd28
      refine ⟨(hS64.se [0, 1, 2, 3, 4, 5]), ?_⟩
      refine rA [11] ?_
      refine ra_s0 (i := 11) rfl rfl rfl (Ys_store (i := 6) (s := 5) (B := aD b5) (T' := 65) (v := gD_ r_8) (vs := kD_ r_8) (k := 0) (cs' := kD_ r_8) hS64 k_sz_65_5 rfl rfl rfl rfl rfl rfl rfl (lB rfl) rfl rfl) ?_ ?_
      ·rintro _ w_50 ⟨rfl, hS65⟩
       refine ⟨(hS65.se [0, 1, 2, 3, 4, 5]), ?_⟩
       refine ra_done (by kernel_rfl) ?_
       exact ⟨aD b5, (FF.cons (hf2.get 1 0 rfl) (FF.cons (hf2.get 2 1 rfl) (FF.cons (hf2.get 4 2 rfl) (FF.cons (hf2.get 5 3 rfl) (FF.cons (hf2.get 6 4 rfl) (FF.cons (hf2.get 7 5 rfl) (FF.cons rfl FF.nil))))))), (hS65.sel [0, 1, 7, 2, 3, 6] rfl rfl)⟩
      exact allR_nil
     exact allR_nil
    exact allR_nil
   rintro f w ⟨B12, hf3, hS58⟩
   obtain ⟨⟨r_9, m5⟩, hc7, hb1⟩ := bind_inv hb1
   obtain ⟨hap, hb1⟩ := chk_inv hb1
   refine cw_mid (fun f w => ∃ (B14 : Option Addr) (c12 : Nat), FF f [(1, pt (aD b) 0), (2, pt (aD b1) 0), (4, pt (aD b2) 0), (5, pt (aD b3) 0), (6, vi (i1 : Int)), (7, vi (j : Int))] ∧ ST w0 [] w [⟨aD b, 48, kM_ m B c, 3⟩, ⟨aD b1, 30, [.slice none 0 0], 1⟩, ⟨aD b2, 82, [.bool m5.bad], 1⟩, ⟨aD b3, 30, [.slice B14 ((Cells1 ++ [r_9]).length) c12], 1⟩, ⟨B14, 65, ((Cells1 ++ [r_9]).flatMap eN0), c12 * 5⟩] [⟨B, (m.Cells.flatMap eN0)⟩]) ?_ ?_
   ·skip
    refine ra_start (hS58.se [0, 1, 5]).fn (by kernel_rfl) ?_
    have hS68 := hS58.drew
    refine rq 0 43 (v := pt (aD b3) 0) rfl (hS68.se [0, 1, 5]) (fun w' hw' => (Y_fieldAddr (B := aD b3) (i := 0) (s := 0) k_fd_30_0_0_28 k_sz_28_1 rfl (hf3.get 5 3 rfl))) ?_
    refine rq 2 45 (v := pt (aD b2) 0) rfl (hS68.se [0, 1, 5]) (fun w' hw' => (Y_move (v := pt (aD b2) 0) rfl (hf3.get 4 2 rfl))) ?_
    refine rq 3 46 (v := gD_ r_8) rfl (hS68.se [0, 1, 5]) (fun w' hw' => (Y_loadA (B := B12) (i := 0) (cs := kD_ r_8) (vs := kD_ r_8) k_ag_65 k_sz_65_5 rfl (hf3.get 9 6 rfl) (ST.cf hw' (i := 2) rfl) rfl rfl)) ?_
    refine rq 4 47 (v := .agg #[vi 1, vi 0, vi 0, vi 0]) rfl (hS68.se [0, 1, 5]) (fun w' hw' => (Y_buildS (zs := [vi 0, vi 0, vi 0, vi 0]) (vs := [(0, vi 1)]) (cs := [vi 1, vi 0, vi 0, vi 0]) k_pl_63 k_zero_63 rfl (mpc rfl mpn) rfl)) ?_
    refine rq 5 48 (v := .agg #[vi 1, vi 0, vi 0, vi 0, vi 2]) rfl (hS68.se [0, 1, 5]) (fun w' hw' => (Y_buildS (zs := kZ_) (vs := [(0, .agg #[vi 1, vi 0, vi 0, vi 0]), (1, vi 2)]) (cs := [vi 1, vi 0, vi 0, vi 0, vi 2]) k_pl_65 k_zero_65 rfl (mpc rfl (mpc rfl mpn)) rfl)) ?_
    refine rA [1, 6] ?_
    refine ra_y 44 (i := 1) (v := .slice B3 Cells1.length c3) rfl rfl rfl (Y_load1 (B := aD b3) (i := 0) (cs := [.slice B3 Cells1.length c3]) (v := .slice B3 Cells1.length c3) k_sc_28 rfl rfl (hS68.cf (i := 3) rfl) rfl) (hS68.se [0, 1, 5]) ?_ ?_
    ·skip
     refine rA [6] ?_
     refine ra_c 49 (i := 6) rfl rfl rfl (Yc_func (g := 48) (vs := [pt (aD b2) 0, gD_ r_8, .agg #[vi 1, vi 0, vi 0, vi 0, vi 2]]) k_call_48 rfl (mc rfl (mc rfl (mc rfl mn))) (c_spec_l2C_mul m4 r_8 (TDyadic.mk (TRing.mk 1 0 0 0) 2) (aD b2) _  (hS68.inn [false, false, true, false, false, false] rfl [] rfl) hc7)) ?_ ?_
     ·rintro _ w_51 ⟨rfl, hd29⟩
      have hS69 := hS68.out [false, false, true, false, false, false] rfl hd29
      refine ⟨(hS69.se [0, 1, 4]), ?_⟩
      refine rA [7] ?_
      refine ra_s 50 (i := 7) rfl rfl rfl (Ys_bslice (s := 5) (len := 1) (vs := [(0, gD_ r_9)]) (cs := kD_ r_9) (zs := kZ_) (m := 5) hS69 k_sl_28_65 k_sz_65_5 k_zc_65 rfl (mpc rfl mpn) rfl rfl rfl (by kernel_rfl) (by kernel_rfl) rfl) ?_ ?_
      ·rintro _ w_52 ⟨b6, rfl, hS70⟩
       refine ⟨(hS70.se [0, 1, 4]), ?_⟩
       refine rA [8] ?_
       refine ra_s 51 (i := 8) rfl rfl rfl (Ys_append (s := 5) (by' := 40) (i := 3) (nn := Cells1.length) (c := c3) (k := 1) (len := (Cells1 ++ [r_9]).length) (B := B3) (xs := ([r_9].flatMap eN0)) (cs' := ((Cells1 ++ [r_9]).flatMap eN0)) hS70 k_sl_28_65 k_sz_65_5 k_by_65_40 k_zero_65 rfl (by decide) rfl rfl rfl rfl (fm_lenn (l := Cells1) eN2 rfl) rfl (hS70.cf (i := 6) rfl) (fm_lenn (l := [r_9]) eN2 rfl) (fm_one' (enc := eN0) enc_Dyadic_one [r_9]) (by have := hap; omega) (by have := hap; simp only [maxLen]; omega) (fm_app _ _) (app_len (l := Cells1) (l' := [r_9]) rfl rfl)) ?_ ?_
       ·rintro _ w_53 ⟨B13, c11, rfl, hS71⟩
        refine ⟨(hS71.se [0, 1, 4]), ?_⟩
        refine rq 9 52 (v := pt (aD b3) 0) rfl (hS71.se [0, 1, 4]) (fun w' hw' => (Y_fieldAddr (B := aD b3) (i := 0) (s := 0) k_fd_30_0_0_28 k_sz_28_1 rfl (hf3.get 5 3 rfl))) ?_
        refine rA [10] ?_
        refine ra_s0 (i := 10) rfl rfl rfl (Ys_store (i := 2) (s := 1) (B := aD b3) (T' := 30) (v := .slice B13 ((Cells1 ++ [r_9]).length) c11) (vs := [.slice B13 ((Cells1 ++ [r_9]).length) c11]) (k := 0) (cs' := [.slice B13 ((Cells1 ++ [r_9]).length) c11]) hS71 k_sz_28_1 rfl rfl rfl rfl rfl rfl rfl (lB rfl) rfl rfl) ?_ ?_
        ·rintro _ w_54 ⟨rfl, hS72⟩
         refine ⟨(hS72.se [0, 1, 4]), ?_⟩
         refine ra_done (by kernel_rfl) ?_
         exact ⟨B13, c11, (FF.cons (hf3.get 1 0 rfl) (FF.cons (hf3.get 2 1 rfl) (FF.cons (hf3.get 4 2 rfl) (FF.cons (hf3.get 5 3 rfl) (FF.cons (hf3.get 6 4 rfl) (FF.cons (hf3.get 7 5 rfl) FF.nil)))))), (hS72.sel [0, 1, 5, 2, 3] rfl rfl)⟩
        exact allR_nil
       exact allR_nil
      exact allR_nil
     exact allR_nil
    refine ra_c 49 (i := 6) rfl rfl rfl (Yc_func (g := 48) (vs := [pt (aD b2) 0, gD_ r_8, .agg #[vi 1, vi 0, vi 0, vi 0, vi 2]]) k_call_48 rfl (mc rfl (mc rfl (mc rfl mn))) (c_spec_l2C_mul m4 r_8 (TDyadic.mk (TRing.mk 1 0 0 0) 2) (aD b2) _  (hS68.inn [false, false, true, false, false, false] rfl [] rfl) hc7)) ?_ ?_
    ·rintro _ w_55 ⟨rfl, hd30⟩
     have hS73 := hS68.out [false, false, true, false, false, false] rfl hd30
     refine ⟨(hS73.se [0, 1, 4]), ?_⟩
     refine rA [1, 7] ?_
     refine ra_y 44 (i := 1) (v := .slice B3 Cells1.length c3) rfl rfl rfl (Y_load1 (B := aD b3) (i := 0) (cs := [.slice B3 Cells1.length c3]) (v := .slice B3 Cells1.length c3) k_sc_28 rfl rfl (hS73.cf (i := 2) rfl) rfl) (hS73.se [0, 1, 4]) ?_ ?_
     ·skip
      refine rA [7] ?_
      refine ra_s 50 (i := 7) rfl rfl rfl (Ys_bslice (s := 5) (len := 1) (vs := [(0, gD_ r_9)]) (cs := kD_ r_9) (zs := kZ_) (m := 5) hS73 k_sl_28_65 k_sz_65_5 k_zc_65 rfl (mpc rfl mpn) rfl rfl rfl (by kernel_rfl) (by kernel_rfl) rfl) ?_ ?_
      ·rintro _ w_56 ⟨b6, rfl, hS74⟩
       refine ⟨(hS74.se [0, 1, 4]), ?_⟩
       refine rA [8] ?_
       refine ra_s 51 (i := 8) rfl rfl rfl (Ys_append (s := 5) (by' := 40) (i := 3) (nn := Cells1.length) (c := c3) (k := 1) (len := (Cells1 ++ [r_9]).length) (B := B3) (xs := ([r_9].flatMap eN0)) (cs' := ((Cells1 ++ [r_9]).flatMap eN0)) hS74 k_sl_28_65 k_sz_65_5 k_by_65_40 k_zero_65 rfl (by decide) rfl rfl rfl rfl (fm_lenn (l := Cells1) eN2 rfl) rfl (hS74.cf (i := 6) rfl) (fm_lenn (l := [r_9]) eN2 rfl) (fm_one' (enc := eN0) enc_Dyadic_one [r_9]) (by have := hap; omega) (by have := hap; simp only [maxLen]; omega) (fm_app _ _) (app_len (l := Cells1) (l' := [r_9]) rfl rfl)) ?_ ?_
       ·rintro _ w_57 ⟨B13, c11, rfl, hS75⟩
        refine ⟨(hS75.se [0, 1, 4]), ?_⟩
        refine rq 9 52 (v := pt (aD b3) 0) rfl (hS75.se [0, 1, 4]) (fun w' hw' => (Y_fieldAddr (B := aD b3) (i := 0) (s := 0) k_fd_30_0_0_28 k_sz_28_1 rfl (hf3.get 5 3 rfl))) ?_
        refine rA [10] ?_
        refine ra_s0 (i := 10) rfl rfl rfl (Ys_store (i := 2) (s := 1) (B := aD b3) (T' := 30) (v := .slice B13 ((Cells1 ++ [r_9]).length) c11) (vs := [.slice B13 ((Cells1 ++ [r_9]).length) c11]) (k := 0) (cs' := [.slice B13 ((Cells1 ++ [r_9]).length) c11]) hS75 k_sz_28_1 rfl rfl rfl rfl rfl rfl rfl (lB rfl) rfl rfl) ?_ ?_
        ·rintro _ w_58 ⟨rfl, hS76⟩
         refine ⟨(hS76.se [0, 1, 4]), ?_⟩
         refine ra_done (by kernel_rfl) ?_
         exact ⟨B13, c11, (FF.cons (hf3.get 1 0 rfl) (FF.cons (hf3.get 2 1 rfl) (FF.cons (hf3.get 4 2 rfl) (FF.cons (hf3.get 5 3 rfl) (FF.cons (hf3.get 6 4 rfl) (FF.cons (hf3.get 7 5 rfl) FF.nil)))))), (hS76.sel [0, 1, 5, 2, 3] rfl rfl)⟩
        exact allR_nil
       exact allR_nil
      exact allR_nil
     refine ra_s 50 (i := 7) rfl rfl rfl (Ys_bslice (s := 5) (len := 1) (vs := [(0, gD_ r_9)]) (cs := kD_ r_9) (zs := kZ_) (m := 5) hS73 k_sl_28_65 k_sz_65_5 k_zc_65 rfl (mpc rfl mpn) rfl rfl rfl (by kernel_rfl) (by kernel_rfl) rfl) ?_ ?_
     ·rintro _ w_59 ⟨b6, rfl, hS77⟩
      refine ⟨(hS77.se [0, 1, 4]), ?_⟩
      refine rA [1] ?_
      refine ra_y 44 (i := 1) (v := .slice B3 Cells1.length c3) rfl rfl rfl (Y_load1 (B := aD b3) (i := 0) (cs := [.slice B3 Cells1.length c3]) (v := .slice B3 Cells1.length c3) k_sc_28 rfl rfl (hS77.cf (i := 2) rfl) rfl) (hS77.se [0, 1, 4]) ?_ ?_
      ·skip
       refine rA [8] ?_
       refine ra_s 51 (i := 8) rfl rfl rfl (Ys_append (s := 5) (by' := 40) (i := 3) (nn := Cells1.length) (c := c3) (k := 1) (len := (Cells1 ++ [r_9]).length) (B := B3) (xs := ([r_9].flatMap eN0)) (cs' := ((Cells1 ++ [r_9]).flatMap eN0)) hS77 k_sl_28_65 k_sz_65_5 k_by_65_40 k_zero_65 rfl (by decide) rfl rfl rfl rfl (fm_lenn (l := Cells1) eN2 rfl) rfl (hS77.cf (i := 6) rfl) (fm_lenn (l := [r_9]) eN2 rfl) (fm_one' (enc := eN0) enc_Dyadic_one [r_9]) (by have := hap; omega) (by have := hap; simp only [maxLen]; omega) (fm_app _ _) (app_len (l := Cells1) (l' := [r_9]) rfl rfl)) ?_ ?_
       ·rintro _ w_60 ⟨B13, c11, rfl, hS78⟩
        have hS78 : ST w0 [] _ [⟨aD b, 48, kM_ m B c, 3⟩, ⟨aD b1, 30, [.slice none 0 0], 1⟩, ⟨aD b3, 30, [.slice B3 Cells1.length c3], 1⟩, ⟨B13, 65, ((Cells1 ++ [r_9]).flatMap eN0), c11 * 5⟩, ⟨B12, 65, kD_ r_8, 5⟩, ⟨aD b2, 82, [.bool m5.bad], 1⟩, ⟨aD b6, 65, ([r_9].flatMap eN0), 1 * 5⟩] [⟨B, (m.Cells.flatMap eN0)⟩] := hS78
        refine ⟨(hS78.se [0, 1, 4]), ?_⟩
        refine rq 9 52 (v := pt (aD b3) 0) rfl (hS78.se [0, 1, 4]) (fun w' hw' => (Y_fieldAddr (B := aD b3) (i := 0) (s := 0) k_fd_30_0_0_28 k_sz_28_1 rfl (hf3.get 5 3 rfl))) ?_
        refine rA [10] ?_
        refine ra_s0 (i := 10) rfl rfl rfl (Ys_store (i := 2) (s := 1) (B := aD b3) (T' := 30) (v := .slice B13 ((Cells1 ++ [r_9]).length) c11) (vs := [.slice B13 ((Cells1 ++ [r_9]).length) c11]) (k := 0) (cs' := [.slice B13 ((Cells1 ++ [r_9]).length) c11]) hS78 k_sz_28_1 rfl rfl rfl rfl rfl rfl rfl (lB rfl) rfl rfl) ?_ ?_
        ·rintro _ w_61 ⟨rfl, hS79⟩
         refine ⟨(hS79.se [0, 1, 4]), ?_⟩
         refine ra_done (by kernel_rfl) ?_
         exact ⟨B13, c11, (FF.cons (hf3.get 1 0 rfl) (FF.cons (hf3.get 2 1 rfl) (FF.cons (hf3.get 4 2 rfl) (FF.cons (hf3.get 5 3 rfl) (FF.cons (hf3.get 6 4 rfl) (FF.cons (hf3.get 7 5 rfl) FF.nil)))))), (hS79.sel [0, 1, 5, 2, 3] rfl rfl)⟩
        exact allR_nil
       exact allR_nil
      exact allR_nil
     exact allR_nil
    exact allR_nil
   rintro f w ⟨B14, c12, hf4, hS67⟩
   refine cw_region ?_
   refine sQ 18 (Y_move (v := vi (j : Int)) rfl (hf4.get 7 5 rfl)) ?_
   refine sQ 19 (Y_add (k := .i64) (a := (j : Int)) (b := 1) rfl rfl rfl) ?_
   refine sQ 7 (Y_assign (v := vi (i64.wrap ((j : Int) + 1))) rfl rfl) (rw_nil ?_)
   obtain rfl := some_inj hb1
   exact ⟨k_3, Nat.lt_succ_self _, j + 1, m5.bad, (Cells1 ++ [r_9]), B14, c12, (FF.cons (hf4.get 1 0 rfl) (FF.cons (hf4.get 2 1 rfl) (FF.cons (hf4.get 4 2 rfl) (FF.cons (hf4.get 5 3 rfl) (FF.cons (hf4.get 6 4 rfl) (FF.cons (congrArg (Value.int .i64) (wr_succ hlt3 (show 3 ≤ 9223372036854775807 by decide))) FF.nil)))))), (hS67.sel [0, 1, 2, 3, 4] rfl rfl), (by omega), hL3⟩
  ·skip
   obtain rfl : k_2 = 0 := by have h := of_decide_eq_false hlt2; omega
   refine cw_exit rfl ?_
   obtain rfl := some_inj hL2
   refine cw_region ?_
   refine sQ 14 (Y_move (v := vi (i1 : Int)) rfl (hf1.get 6 4 rfl)) ?_
   refine sQ 15 (Y_add (k := .i64) (a := (i1 : Int)) (b := 1) rfl rfl rfl) ?_
   refine sQ 6 (Y_assign (v := vi (i64.wrap ((i1 : Int) + 1))) rfl rfl) (rw_nil ?_)
   obtain rfl := some_inj hF2
   exact ⟨k_1, Nat.lt_succ_self _, i1 + 1, bad1, Cells1, B3, c3, (FF.cons (hf1.get 1 0 rfl) (FF.cons (hf1.get 2 1 rfl) (FF.cons (hf1.get 4 2 rfl) (FF.cons (hf1.get 5 3 rfl) (FF.cons (congrArg (Value.int .i64) (wr_succ hlt1 (show 3 ≤ 9223372036854775807 by decide))) FF.nil))))), (hS7.sel [0, 1, 2, 3, 4] rfl rfl), (by omega), hL1⟩
 ·skip
  obtain rfl : k_ = 0 := by have h := of_decide_eq_false hlt; omega
  refine cw_exit rfl ?_
  obtain rfl := some_inj hL
  refine cw_seq (cw_seq (cw_region ?_))
  refine sQ 53 (Y_move (v := pt (aD b2) 0) rfl (hf.get 4 2 rfl)) ?_
  refine sQ 54 (Y_nilCheck (B := aD b2) (i := 0) rfl rfl) ?_
  refine sQ 55 (Y_fieldAddr (B := aD b2) (i := 0) (s := 0) k_fd_82_0_0_4 k_sz_4_1 rfl rfl) ?_
  refine sQ 56 (Y_load1 (B := aD b2) (i := 0) (cs := [.bool bad]) (v := .bool bad) k_sc_4 rfl rfl (hS5.cf (i := 2) rfl) rfl) (rw_nil ?_)
  refine cw_cond (b := bad) rfl (fun hb2 => ?_) (fun hb2 => ?_)
  ·skip
   have hF3 := ct hF1 hb2
   refine cw_seq (cw_region ?_)
   refine sQ 57 (Y_buildS (zs := [.slice none 0 0]) (vs := []) (cs := [.slice none 0 0]) k_pl_30 k_zero_30 rfl mpn rfl) ?_
   refine s0 (Ys_store (i := 1) (s := 1) (B := aD b1) (T' := 30) (v := .agg #[.slice none 0 0]) (vs := [.slice none 0 0]) (k := 0) (cs' := [.slice none 0 0]) hS5 k_sz_30_1 rfl (hf.get 2 1 rfl) rfl rfl rfl rfl rfl (lB rfl) rfl rfl) ?_
   rintro _ w_62 ⟨rfl, hS80⟩
   refine sQ 3 (Y_assign (v := .bool false) rfl rfl) (rw_nil (cw_ret ?_))
   have hS81 := hS80.addNil 65
   obtain ⟨rfl, rfl⟩ := pr2 (some_inj hF3)
   exact ret2 Tryz.results56 (v1 := .agg #[.slice none 0 0]) (resAt_cellA (B := aD b1) (i := 0) (cs := [.slice none 0 0]) (vs := [.slice none 0 0]) (hf.get 2 1 rfl) k_ag_30 k_sz_30_1 (hS81.cf (i := 1) rfl) rfl rfl) (v2 := .bool false) (resAt_tmp rfl) ⟨none, 0, rfl, (hS81.sN [5])⟩
  ·skip
   have hF4 := cf' hF1 hb2
   refine cw_skip (cw_seq (cw_region ?_))
   refine sQ 58 (Y_loadA (B := aD b3) (i := 0) (cs := [.slice B2 Cells.length c2]) (vs := [.slice B2 Cells.length c2]) k_ag_30 k_sz_30_1 rfl (hf.get 5 3 rfl) (hS5.cf (i := 3) rfl) rfl rfl) ?_
   refine s0 (Ys_store (i := 1) (s := 1) (B := aD b1) (T' := 30) (v := .agg #[.slice B2 Cells.length c2]) (vs := [.slice B2 Cells.length c2]) (k := 0) (cs' := [.slice B2 Cells.length c2]) hS5 k_sz_30_1 rfl (hf.get 2 1 rfl) rfl rfl rfl rfl rfl (lB rfl) rfl rfl) ?_
   rintro _ w_63 ⟨rfl, hS82⟩
   refine sQ 3 (Y_assign (v := .bool true) rfl rfl) (rw_nil (cw_ret ?_))
   obtain ⟨rfl, rfl⟩ := pr2 (some_inj hF4)
   exact ret2 Tryz.results56 (v1 := .agg #[.slice B2 Cells.length c2]) (resAt_cellA (B := aD b1) (i := 0) (cs := [.slice B2 Cells.length c2]) (vs := [.slice B2 Cells.length c2]) (hf.get 2 1 rfl) k_ag_30 k_sz_30_1 (hS82.cf (i := 1) rfl) rfl rfl) (v2 := .bool true) (resAt_tmp rfl) ⟨B2, c2, rfl, (hS82.sN [4])⟩

theorem c_spec_l6Bit (n : Int) (k_ : Int) (q : Int)  (w0 : World)  (hS : ST w0 [] w0 [] []) {r_ : Int} (hF : F_spec_l6Bit n k_ q = some r_) :
  CV Tryz.prog 151 #[vi n, vi k_, vi q] w0 (fun v w' => v = vi r_ ∧ ST w0 [] w' [] []) := by
 unfold F_spec_l6Bit at hF
 refine cv_of_cw 15 Tryz.func151 rfl Tryz.ntmps151 rfl ?_
 refine cw_seq (cw_region ?_)
 refine sQ 6 (Y_assign (v := vi 0) rfl rfl) (rw_nil (cw_seq (cw_region ?_)))
 refine sQ 7 (Y_move (v := vi k_) rfl rfl) ?_
 refine sQ 8 (Y_move (v := vi n) rfl rfl) ?_
 refine sQ 9 (Y_sub (k := .i64) (a := n) (b := 1) rfl rfl rfl) ?_
 refine sQ 10 (Y_move (v := vi q) rfl rfl) ?_
 refine sQ 11 (Y_sub (k := .i64) (a := (i64.wrap (n - 1))) (b := q) rfl rfl rfl) ?_
 refine sQ 12 (Y_conv (k := .i64) (a := (i64.wrap ((i64.wrap (n - 1)) - q))) (T := 3) (T' := 115) k_us_3 k_int_115_u64 rfl rfl) ?_
 obtain ⟨hsh, hF⟩ := chk_inv hF
 refine sQ 13 (Y_shr (k := .i64) (a := k_) (k' := .u64) (b := (IntKind.u64.wrap (i64.wrap ((i64.wrap (n - 1)) - q)))) rfl rfl rfl hsh) ?_
 refine sQ 14 (Y_band (k := .i64) (a := (shrK .i64 k_ (IntKind.u64.wrap (i64.wrap ((i64.wrap (n - 1)) - q))))) (b := 1) rfl rfl rfl) ?_
 refine sQ 6 (Y_assign (v := vi (bits .and .i64 (shrK .i64 k_ (IntKind.u64.wrap (i64.wrap ((i64.wrap (n - 1)) - q)))) 1)) rfl rfl) (rw_nil (cw_ret ?_))
 obtain rfl := some_inj hF
 exact ret1 Tryz.results151 (v1 := vi (bits .and .i64 (shrK .i64 k_ (IntKind.u64.wrap (i64.wrap ((i64.wrap (n - 1)) - q)))) 1)) (resAt_tmp rfl) ⟨rfl, (hS.sN [])⟩
end Go.VK
