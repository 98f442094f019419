/- Walks: each Go function returns what its Lean function says. By program. -/
import Derived.Test.YtoladcammhboiaaDoorCliffordWordFa
import Derived.Test.YtoladcammhboiaaDoorCliffordWordW3
set_option linter.unusedVariables false
set_option maxRecDepth 100000
set_option maxHeartbeats 1000000
namespace Go.VK
open Go.RowKit
open Go.Proofs
open Go.IntKind
attribute [local irreducible] CW RW RA CV Y Yw Yc Ys RetOf
attribute [local irreducible] F_spec_l1In F_spec_l1All F_spec_l1Good F_spec_l2C_ring F_spec_l1Root F_spec_l1Even F_spec_l1Half F_spec_l2Low F_spec_l1Add F_spec_l2C_add F_spec_l1Mul F_spec_l2C_mul F_spec_l2C_times F_spec_l1Turn F_spec_l2Power F_spec_l1Neg F_spec_l2Neg F_spec_l6One F_spec_l9Pauli F_spec_l1Conj F_spec_l2Conj F_spec_l3Adj F_spec_l9Bloch F_spec_l6Bit F_spec_l6Cell F_spec_l6Gate F_spec_l2C_run F_spec_l3Unit F_spec_l6Op F_spec_l9Word F_spec_l9Same F_spec_l9Words F_spec_CliffordWord F_impl_whole F_impl_small F_impl_within F_impl_isTwo F_impl_IsValidGate F_impl_isDim F_impl_matrixOf F_impl_isCoef F_impl_IsValidRing F_impl_MulOmega F_impl_phase F_impl_bitOf F_impl_flipped F_impl_comesFrom F_impl_entry F_impl_GateMatrix_1 F_impl_GateMatrix F_slices_IndexFunc_impl_Dyadic_impl_Dyadic F_slices_ContainsFunc_impl_Dyadic_impl_Dyadic F_impl_isEven F_impl_IsValidDyadic F_impl_IsValidMatrix_1 F_impl_IsValidMatrix F_impl_ringIf F_impl_Conjugate F_impl_ConjDyadic F_impl_Matrix_at F_impl_Adjoint_1 F_impl_Adjoint F_impl_MulRing F_impl_DivRootTwo F_impl_DyadicOf F_impl_MulDyadic F_impl_MulRootTwo F_impl_raised F_impl_combined F_impl_AddRing F_impl_AddDyadic F_impl_MulMatrix_1 F_impl_MulMatrix F_impl_IdentityMatrix_1 F_impl_IdentityMatrix F_slices_Equal_impl_Dyadic_impl_Dyadic F_impl_EqualMatrices F_impl_IsUnitary F_impl_IsOneQubit F_impl_TraceOf F_impl_blochCell F_impl_BlochOf F_impl_blochGate F_impl_mulBloch F_slices_IndexFunc_SSimpl_Dyadic_impl_Dyadic F_slices_ContainsFunc_SSimpl_Dyadic_impl_Dyadic F_impl_cliffordList_1 F_impl_cliffordList F_impl_CliffordWord F_laws_FnExactCliffordWord
theorem c_impl_MulRing (x : TRing) (y : TRing)  (w0 : World)  (hS : ST w0 [] w0 [] []) {r_ : TRing} {r_1 : Bool} (hF : F_impl_MulRing x y = some (r_, r_1)) :
  CV Tryd.prog 52 #[.agg #[vi x.A, vi x.B, vi x.C, vi x.D], .agg #[vi y.A, vi y.B, vi y.C, vi y.D]] w0 (fun v w' => v = .tuple #[.agg #[vi r_.A, vi r_.B, vi r_.C, vi r_.D], .bool r_1] ∧ ST w0 [] w' [] []) := by
 unfold F_impl_MulRing at hF
 refine cv_of_cw 105 Tryd.func52 rfl Tryd.ntmps52 rfl ?_
 refine cw_seq ?_
 refine cw_region ?_
 refine ss 2 rfl rfl (Ys_box (T := 42) (v := .agg #[vi x.A, vi x.B, vi x.C, vi x.D]) (cs := [vi x.A, vi x.B, vi x.C, vi x.D]) (m := 4) hS rfl rfl rfl rfl) ?_
 rintro _ w_ ⟨b, rfl, hS1⟩
 refine ss 3 rfl rfl (Ys_box (T := 42) (v := .agg #[vi y.A, vi y.B, vi y.C, vi y.D]) (cs := [vi y.A, vi y.B, vi y.C, vi y.D]) (m := 4) hS1 rfl rfl rfl rfl) ?_
 rintro _ w_1 ⟨b1, rfl, hS2⟩
 have hS2 : ST w0 [] _ [⟨aD b, 42, [vi x.A, vi x.B, vi x.C, vi x.D], 4⟩, ⟨aD b1, 42, [vi y.A, vi y.B, vi y.C, vi y.D], 4⟩] [] := hS2
 refine ss 4 rfl rfl (Ys_alloc (T := 42) (cs := [vi 0, vi 0, vi 0, vi 0]) (m := 4) hS2 k_zero_42 rfl rfl rfl) ?_
 rintro _ w_2 ⟨b2, rfl, hS3⟩
 have hS3 : ST w0 [] _ [⟨aD b, 42, [vi x.A, vi x.B, vi x.C, vi x.D], 4⟩, ⟨aD b1, 42, [vi y.A, vi y.B, vi y.C, vi y.D], 4⟩, ⟨aD b2, 42, [vi 0, vi 0, vi 0, vi 0], 4⟩] [] := hS3
 refine sq 5 rfl rfl (Y_assign (v := .bool false) rfl rfl) ?_
 refine rw_nil ?_
 refine cw_seq ?_
 refine cw_region ?_
 refine sq 6 rfl rfl (Y_fieldAddr (B := aD b) (i := 0) (s := 0) k_fd_42_0_0_3 k_sz_3_1 rfl rfl) ?_
 refine sq 7 rfl rfl (Y_load1 (B := aD b) (i := 0) (cs := [vi x.A, vi x.B, vi x.C, vi x.D]) (v := vi x.A) k_sc_3 rfl rfl (hS3.cf (i := 0) rfl) rfl) ?_
 refine sq 8 rfl rfl (Y_fieldAddr (B := aD b1) (i := 0) (s := 0) k_fd_42_0_0_3 k_sz_3_1 rfl rfl) ?_
 refine sq 9 rfl rfl (Y_load1 (B := aD b1) (i := 0) (cs := [vi y.A, vi y.B, vi y.C, vi y.D]) (v := vi y.A) k_sc_3 rfl rfl (hS3.cf (i := 1) rfl) rfl) ?_
 refine sq 10 rfl rfl (Y_mul (k := .i64) (a := x.A) (b := y.A) rfl rfl rfl) ?_
 refine sq 11 rfl rfl (Y_fieldAddr (B := aD b) (i := 0) (s := 0) k_fd_42_1_1_3 k_sz_3_1 rfl rfl) ?_
 refine sq 12 rfl rfl (Y_load1 (B := aD b) (i := 1) (cs := [vi x.A, vi x.B, vi x.C, vi x.D]) (v := vi x.B) k_sc_3 rfl rfl (hS3.cf (i := 0) rfl) rfl) ?_
 refine sq 13 rfl rfl (Y_fieldAddr (B := aD b1) (i := 0) (s := 0) k_fd_42_3_3_3 k_sz_3_1 rfl rfl) ?_
 refine sq 14 rfl rfl (Y_load1 (B := aD b1) (i := 3) (cs := [vi y.A, vi y.B, vi y.C, vi y.D]) (v := vi y.D) k_sc_3 rfl rfl (hS3.cf (i := 1) rfl) rfl) ?_
 refine sq 15 rfl rfl (Y_mul (k := .i64) (a := x.B) (b := y.D) rfl rfl rfl) ?_
 refine sq 16 rfl rfl (Y_sub (k := .i64) (a := (i64.wrap (x.A * y.A))) (b := (i64.wrap (x.B * y.D))) rfl rfl rfl) ?_
 refine sq 17 rfl rfl (Y_fieldAddr (B := aD b) (i := 0) (s := 0) k_fd_42_2_2_3 k_sz_3_1 rfl rfl) ?_
 refine sq 18 rfl rfl (Y_load1 (B := aD b) (i := 2) (cs := [vi x.A, vi x.B, vi x.C, vi x.D]) (v := vi x.C) k_sc_3 rfl rfl (hS3.cf (i := 0) rfl) rfl) ?_
 refine sq 19 rfl rfl (Y_fieldAddr (B := aD b1) (i := 0) (s := 0) k_fd_42_2_2_3 k_sz_3_1 rfl rfl) ?_
 refine sq 20 rfl rfl (Y_load1 (B := aD b1) (i := 2) (cs := [vi y.A, vi y.B, vi y.C, vi y.D]) (v := vi y.C) k_sc_3 rfl rfl (hS3.cf (i := 1) rfl) rfl) ?_
 refine sq 21 rfl rfl (Y_mul (k := .i64) (a := x.C) (b := y.C) rfl rfl rfl) ?_
 refine sq 22 rfl rfl (Y_sub (k := .i64) (a := (i64.wrap ((i64.wrap (x.A * y.A)) - (i64.wrap (x.B * y.D))))) (b := (i64.wrap (x.C * y.C))) rfl rfl rfl) ?_
 refine sq 23 rfl rfl (Y_fieldAddr (B := aD b) (i := 0) (s := 0) k_fd_42_3_3_3 k_sz_3_1 rfl rfl) ?_
 refine sq 24 rfl rfl (Y_load1 (B := aD b) (i := 3) (cs := [vi x.A, vi x.B, vi x.C, vi x.D]) (v := vi x.D) k_sc_3 rfl rfl (hS3.cf (i := 0) rfl) rfl) ?_
 refine sq 25 rfl rfl (Y_fieldAddr (B := aD b1) (i := 0) (s := 0) k_fd_42_1_1_3 k_sz_3_1 rfl rfl) ?_
 refine sq 26 rfl rfl (Y_load1 (B := aD b1) (i := 1) (cs := [vi y.A, vi y.B, vi y.C, vi y.D]) (v := vi y.B) k_sc_3 rfl rfl (hS3.cf (i := 1) rfl) rfl) ?_
 refine sq 27 rfl rfl (Y_mul (k := .i64) (a := x.D) (b := y.B) rfl rfl rfl) ?_
 refine sq 28 rfl rfl (Y_sub (k := .i64) (a := (i64.wrap ((i64.wrap ((i64.wrap (x.A * y.A)) - (i64.wrap (x.B * y.D)))) - (i64.wrap (x.C * y.C))))) (b := (i64.wrap (x.D * y.B))) rfl rfl rfl) ?_
 refine sq 29 rfl rfl (Y_fieldAddr (B := aD b) (i := 0) (s := 0) k_fd_42_0_0_3 k_sz_3_1 rfl rfl) ?_
 refine sq 30 rfl rfl (Y_load1 (B := aD b) (i := 0) (cs := [vi x.A, vi x.B, vi x.C, vi x.D]) (v := vi x.A) k_sc_3 rfl rfl (hS3.cf (i := 0) rfl) rfl) ?_
 refine sq 31 rfl rfl (Y_fieldAddr (B := aD b1) (i := 0) (s := 0) k_fd_42_1_1_3 k_sz_3_1 rfl rfl) ?_
 refine sq 32 rfl rfl (Y_load1 (B := aD b1) (i := 1) (cs := [vi y.A, vi y.B, vi y.C, vi y.D]) (v := vi y.B) k_sc_3 rfl rfl (hS3.cf (i := 1) rfl) rfl) ?_
 refine sq 33 rfl rfl (Y_mul (k := .i64) (a := x.A) (b := y.B) rfl rfl rfl) ?_
 refine sq 34 rfl rfl (Y_fieldAddr (B := aD b) (i := 0) (s := 0) k_fd_42_1_1_3 k_sz_3_1 rfl rfl) ?_
 refine sq 35 rfl rfl (Y_load1 (B := aD b) (i := 1) (cs := [vi x.A, vi x.B, vi x.C, vi x.D]) (v := vi x.B) k_sc_3 rfl rfl (hS3.cf (i := 0) rfl) rfl) ?_
 refine sq 36 rfl rfl (Y_fieldAddr (B := aD b1) (i := 0) (s := 0) k_fd_42_0_0_3 k_sz_3_1 rfl rfl) ?_
 refine sq 37 rfl rfl (Y_load1 (B := aD b1) (i := 0) (cs := [vi y.A, vi y.B, vi y.C, vi y.D]) (v := vi y.A) k_sc_3 rfl rfl (hS3.cf (i := 1) rfl) rfl) ?_
 refine sq 38 rfl rfl (Y_mul (k := .i64) (a := x.B) (b := y.A) rfl rfl rfl) ?_
 refine sq 39 rfl rfl (Y_add (k := .i64) (a := (i64.wrap (x.A * y.B))) (b := (i64.wrap (x.B * y.A))) rfl rfl rfl) ?_
 refine sq 40 rfl rfl (Y_fieldAddr (B := aD b) (i := 0) (s := 0) k_fd_42_2_2_3 k_sz_3_1 rfl rfl) ?_
 refine sq 41 rfl rfl (Y_load1 (B := aD b) (i := 2) (cs := [vi x.A, vi x.B, vi x.C, vi x.D]) (v := vi x.C) k_sc_3 rfl rfl (hS3.cf (i := 0) rfl) rfl) ?_
 refine sq 42 rfl rfl (Y_fieldAddr (B := aD b1) (i := 0) (s := 0) k_fd_42_3_3_3 k_sz_3_1 rfl rfl) ?_
 refine sq 43 rfl rfl (Y_load1 (B := aD b1) (i := 3) (cs := [vi y.A, vi y.B, vi y.C, vi y.D]) (v := vi y.D) k_sc_3 rfl rfl (hS3.cf (i := 1) rfl) rfl) ?_
 refine sq 44 rfl rfl (Y_mul (k := .i64) (a := x.C) (b := y.D) rfl rfl rfl) ?_
 refine sq 45 rfl rfl (Y_sub (k := .i64) (a := (i64.wrap ((i64.wrap (x.A * y.B)) + (i64.wrap (x.B * y.A))))) (b := (i64.wrap (x.C * y.D))) rfl rfl rfl) ?_
 refine sq 46 rfl rfl (Y_fieldAddr (B := aD b) (i := 0) (s := 0) k_fd_42_3_3_3 k_sz_3_1 rfl rfl) ?_
 refine sq 47 rfl rfl (Y_load1 (B := aD b) (i := 3) (cs := [vi x.A, vi x.B, vi x.C, vi x.D]) (v := vi x.D) k_sc_3 rfl rfl (hS3.cf (i := 0) rfl) rfl) ?_
 refine sq 48 rfl rfl (Y_fieldAddr (B := aD b1) (i := 0) (s := 0) k_fd_42_2_2_3 k_sz_3_1 rfl rfl) ?_
 refine sq 49 rfl rfl (Y_load1 (B := aD b1) (i := 2) (cs := [vi y.A, vi y.B, vi y.C, vi y.D]) (v := vi y.C) k_sc_3 rfl rfl (hS3.cf (i := 1) rfl) rfl) ?_
 refine sq 50 rfl rfl (Y_mul (k := .i64) (a := x.D) (b := y.C) rfl rfl rfl) ?_
 refine sq 51 rfl rfl (Y_sub (k := .i64) (a := (i64.wrap ((i64.wrap ((i64.wrap (x.A * y.B)) + (i64.wrap (x.B * y.A)))) - (i64.wrap (x.C * y.D))))) (b := (i64.wrap (x.D * y.C))) rfl rfl rfl) ?_
 refine sq 52 rfl rfl (Y_fieldAddr (B := aD b) (i := 0) (s := 0) k_fd_42_0_0_3 k_sz_3_1 rfl rfl) ?_
 refine sq 53 rfl rfl (Y_load1 (B := aD b) (i := 0) (cs := [vi x.A, vi x.B, vi x.C, vi x.D]) (v := vi x.A) k_sc_3 rfl rfl (hS3.cf (i := 0) rfl) rfl) ?_
 refine sq 54 rfl rfl (Y_fieldAddr (B := aD b1) (i := 0) (s := 0) k_fd_42_2_2_3 k_sz_3_1 rfl rfl) ?_
 refine sq 55 rfl rfl (Y_load1 (B := aD b1) (i := 2) (cs := [vi y.A, vi y.B, vi y.C, vi y.D]) (v := vi y.C) k_sc_3 rfl rfl (hS3.cf (i := 1) rfl) rfl) ?_
 refine sq 56 rfl rfl (Y_mul (k := .i64) (a := x.A) (b := y.C) rfl rfl rfl) ?_
 refine sq 57 rfl rfl (Y_fieldAddr (B := aD b) (i := 0) (s := 0) k_fd_42_1_1_3 k_sz_3_1 rfl rfl) ?_
 refine sq 58 rfl rfl (Y_load1 (B := aD b) (i := 1) (cs := [vi x.A, vi x.B, vi x.C, vi x.D]) (v := vi x.B) k_sc_3 rfl rfl (hS3.cf (i := 0) rfl) rfl) ?_
 refine sq 59 rfl rfl (Y_fieldAddr (B := aD b1) (i := 0) (s := 0) k_fd_42_1_1_3 k_sz_3_1 rfl rfl) ?_
 refine sq 60 rfl rfl (Y_load1 (B := aD b1) (i := 1) (cs := [vi y.A, vi y.B, vi y.C, vi y.D]) (v := vi y.B) k_sc_3 rfl rfl (hS3.cf (i := 1) rfl) rfl) ?_
 refine sq 61 rfl rfl (Y_mul (k := .i64) (a := x.B) (b := y.B) rfl rfl rfl) ?_
 refine sq 62 rfl rfl (Y_add (k := .i64) (a := (i64.wrap (x.A * y.C))) (b := (i64.wrap (x.B * y.B))) rfl rfl rfl) ?_
 refine sq 63 rfl rfl (Y_fieldAddr (B := aD b) (i := 0) (s := 0) k_fd_42_2_2_3 k_sz_3_1 rfl rfl) ?_
 refine sq 64 rfl rfl (Y_load1 (B := aD b) (i := 2) (cs := [vi x.A, vi x.B, vi x.C, vi x.D]) (v := vi x.C) k_sc_3 rfl rfl (hS3.cf (i := 0) rfl) rfl) ?_
 refine sq 65 rfl rfl (Y_fieldAddr (B := aD b1) (i := 0) (s := 0) k_fd_42_0_0_3 k_sz_3_1 rfl rfl) ?_
 refine sq 66 rfl rfl (Y_load1 (B := aD b1) (i := 0) (cs := [vi y.A, vi y.B, vi y.C, vi y.D]) (v := vi y.A) k_sc_3 rfl rfl (hS3.cf (i := 1) rfl) rfl) ?_
 refine sq 67 rfl rfl (Y_mul (k := .i64) (a := x.C) (b := y.A) rfl rfl rfl) ?_
 refine sq 68 rfl rfl (Y_add (k := .i64) (a := (i64.wrap ((i64.wrap (x.A * y.C)) + (i64.wrap (x.B * y.B))))) (b := (i64.wrap (x.C * y.A))) rfl rfl rfl) ?_
 refine sq 69 rfl rfl (Y_fieldAddr (B := aD b) (i := 0) (s := 0) k_fd_42_3_3_3 k_sz_3_1 rfl rfl) ?_
 refine sq 70 rfl rfl (Y_load1 (B := aD b) (i := 3) (cs := [vi x.A, vi x.B, vi x.C, vi x.D]) (v := vi x.D) k_sc_3 rfl rfl (hS3.cf (i := 0) rfl) rfl) ?_
 refine sq 71 rfl rfl (Y_fieldAddr (B := aD b1) (i := 0) (s := 0) k_fd_42_3_3_3 k_sz_3_1 rfl rfl) ?_
 refine sq 72 rfl rfl (Y_load1 (B := aD b1) (i := 3) (cs := [vi y.A, vi y.B, vi y.C, vi y.D]) (v := vi y.D) k_sc_3 rfl rfl (hS3.cf (i := 1) rfl) rfl) ?_
 refine sq 73 rfl rfl (Y_mul (k := .i64) (a := x.D) (b := y.D) rfl rfl rfl) ?_
 refine sq 74 rfl rfl (Y_sub (k := .i64) (a := (i64.wrap ((i64.wrap ((i64.wrap (x.A * y.C)) + (i64.wrap (x.B * y.B)))) + (i64.wrap (x.C * y.A))))) (b := (i64.wrap (x.D * y.D))) rfl rfl rfl) ?_
 refine sq 75 rfl rfl (Y_fieldAddr (B := aD b) (i := 0) (s := 0) k_fd_42_0_0_3 k_sz_3_1 rfl rfl) ?_
 refine sq 76 rfl rfl (Y_load1 (B := aD b) (i := 0) (cs := [vi x.A, vi x.B, vi x.C, vi x.D]) (v := vi x.A) k_sc_3 rfl rfl (hS3.cf (i := 0) rfl) rfl) ?_
 refine sq 77 rfl rfl (Y_fieldAddr (B := aD b1) (i := 0) (s := 0) k_fd_42_3_3_3 k_sz_3_1 rfl rfl) ?_
 refine sq 78 rfl rfl (Y_load1 (B := aD b1) (i := 3) (cs := [vi y.A, vi y.B, vi y.C, vi y.D]) (v := vi y.D) k_sc_3 rfl rfl (hS3.cf (i := 1) rfl) rfl) ?_
 refine sq 79 rfl rfl (Y_mul (k := .i64) (a := x.A) (b := y.D) rfl rfl rfl) ?_
 refine sq 80 rfl rfl (Y_fieldAddr (B := aD b) (i := 0) (s := 0) k_fd_42_1_1_3 k_sz_3_1 rfl rfl) ?_
 refine sq 81 rfl rfl (Y_load1 (B := aD b) (i := 1) (cs := [vi x.A, vi x.B, vi x.C, vi x.D]) (v := vi x.B) k_sc_3 rfl rfl (hS3.cf (i := 0) rfl) rfl) ?_
 refine sq 82 rfl rfl (Y_fieldAddr (B := aD b1) (i := 0) (s := 0) k_fd_42_2_2_3 k_sz_3_1 rfl rfl) ?_
 refine sq 83 rfl rfl (Y_load1 (B := aD b1) (i := 2) (cs := [vi y.A, vi y.B, vi y.C, vi y.D]) (v := vi y.C) k_sc_3 rfl rfl (hS3.cf (i := 1) rfl) rfl) ?_
 refine sq 84 rfl rfl (Y_mul (k := .i64) (a := x.B) (b := y.C) rfl rfl rfl) ?_
 refine sq 85 rfl rfl (Y_add (k := .i64) (a := (i64.wrap (x.A * y.D))) (b := (i64.wrap (x.B * y.C))) rfl rfl rfl) ?_
 refine sq 86 rfl rfl (Y_fieldAddr (B := aD b) (i := 0) (s := 0) k_fd_42_2_2_3 k_sz_3_1 rfl rfl) ?_
 refine sq 87 rfl rfl (Y_load1 (B := aD b) (i := 2) (cs := [vi x.A, vi x.B, vi x.C, vi x.D]) (v := vi x.C) k_sc_3 rfl rfl (hS3.cf (i := 0) rfl) rfl) ?_
 refine sq 88 rfl rfl (Y_fieldAddr (B := aD b1) (i := 0) (s := 0) k_fd_42_1_1_3 k_sz_3_1 rfl rfl) ?_
 refine sq 89 rfl rfl (Y_load1 (B := aD b1) (i := 1) (cs := [vi y.A, vi y.B, vi y.C, vi y.D]) (v := vi y.B) k_sc_3 rfl rfl (hS3.cf (i := 1) rfl) rfl) ?_
 refine sq 90 rfl rfl (Y_mul (k := .i64) (a := x.C) (b := y.B) rfl rfl rfl) ?_
 refine sq 91 rfl rfl (Y_add (k := .i64) (a := (i64.wrap ((i64.wrap (x.A * y.D)) + (i64.wrap (x.B * y.C))))) (b := (i64.wrap (x.C * y.B))) rfl rfl rfl) ?_
 refine sq 92 rfl rfl (Y_fieldAddr (B := aD b) (i := 0) (s := 0) k_fd_42_3_3_3 k_sz_3_1 rfl rfl) ?_
 refine sq 93 rfl rfl (Y_load1 (B := aD b) (i := 3) (cs := [vi x.A, vi x.B, vi x.C, vi x.D]) (v := vi x.D) k_sc_3 rfl rfl (hS3.cf (i := 0) rfl) rfl) ?_
 refine sq 94 rfl rfl (Y_fieldAddr (B := aD b1) (i := 0) (s := 0) k_fd_42_0_0_3 k_sz_3_1 rfl rfl) ?_
 refine sq 95 rfl rfl (Y_load1 (B := aD b1) (i := 0) (cs := [vi y.A, vi y.B, vi y.C, vi y.D]) (v := vi y.A) k_sc_3 rfl rfl (hS3.cf (i := 1) rfl) rfl) ?_
 refine sq 96 rfl rfl (Y_mul (k := .i64) (a := x.D) (b := y.A) rfl rfl rfl) ?_
 refine sq 97 rfl rfl (Y_add (k := .i64) (a := (i64.wrap ((i64.wrap ((i64.wrap (x.A * y.D)) + (i64.wrap (x.B * y.C)))) + (i64.wrap (x.C * y.B))))) (b := (i64.wrap (x.D * y.A))) rfl rfl rfl) ?_
 refine sq 98 rfl rfl (Y_buildS (zs := [vi 0, vi 0, vi 0, vi 0]) (vs := [(0, vi (i64.wrap ((i64.wrap ((i64.wrap ((i64.wrap (x.A * y.A)) - (i64.wrap (x.B * y.D)))) - (i64.wrap (x.C * y.C)))) - (i64.wrap (x.D * y.B))))), (1, vi (i64.wrap ((i64.wrap ((i64.wrap ((i64.wrap (x.A * y.B)) + (i64.wrap (x.B * y.A)))) - (i64.wrap (x.C * y.D)))) - (i64.wrap (x.D * y.C))))), (2, vi (i64.wrap ((i64.wrap ((i64.wrap ((i64.wrap (x.A * y.C)) + (i64.wrap (x.B * y.B)))) + (i64.wrap (x.C * y.A)))) - (i64.wrap (x.D * y.D))))), (3, vi (i64.wrap ((i64.wrap ((i64.wrap ((i64.wrap (x.A * y.D)) + (i64.wrap (x.B * y.C)))) + (i64.wrap (x.C * y.B)))) + (i64.wrap (x.D * y.A)))))]) (cs := [vi (i64.wrap ((i64.wrap ((i64.wrap ((i64.wrap (x.A * y.A)) - (i64.wrap (x.B * y.D)))) - (i64.wrap (x.C * y.C)))) - (i64.wrap (x.D * y.B)))), vi (i64.wrap ((i64.wrap ((i64.wrap ((i64.wrap (x.A * y.B)) + (i64.wrap (x.B * y.A)))) - (i64.wrap (x.C * y.D)))) - (i64.wrap (x.D * y.C)))), vi (i64.wrap ((i64.wrap ((i64.wrap ((i64.wrap (x.A * y.C)) + (i64.wrap (x.B * y.B)))) + (i64.wrap (x.C * y.A)))) - (i64.wrap (x.D * y.D)))), vi (i64.wrap ((i64.wrap ((i64.wrap ((i64.wrap (x.A * y.D)) + (i64.wrap (x.B * y.C)))) + (i64.wrap (x.C * y.B)))) + (i64.wrap (x.D * y.A))))]) k_pl_42 k_zero_42 rfl (mpc rfl (mpc rfl (mpc rfl (mpc rfl mpn)))) rfl) ?_
 refine sq 99 rfl rfl (Y_loadA (B := aD b) (i := 0) (cs := [vi x.A, vi x.B, vi x.C, vi x.D]) (vs := [vi x.A, vi x.B, vi x.C, vi x.D]) k_ag_42 k_sz_42_4 rfl rfl (hS3.cf (i := 0) rfl) rfl rfl) ?_
 refine sq 100 rfl rfl (Y_loadA (B := aD b1) (i := 0) (cs := [vi y.A, vi y.B, vi y.C, vi y.D]) (vs := [vi y.A, vi y.B, vi y.C, vi y.D]) k_ag_42 k_sz_42_4 rfl rfl (hS3.cf (i := 1) rfl) rfl rfl) ?_
 refine ss 101 rfl rfl (Ys_bslice (s := 4) (len := 2) (vs := [(0, .agg #[vi x.A, vi x.B, vi x.C, vi x.D]), (1, .agg #[vi y.A, vi y.B, vi y.C, vi y.D])]) (cs := [vi x.A, vi x.B, vi x.C, vi x.D, vi y.A, vi y.B, vi y.C, vi y.D]) (zs := [vi 0, vi 0, vi 0, vi 0, vi 0, vi 0, vi 0, vi 0]) (m := 8) hS3 k_sl_113_42 k_sz_42_4 k_zc_42 rfl (mpc rfl (mpc rfl mpn)) rfl rfl rfl (by kernel_rfl) (by kernel_rfl) rfl) ?_
 rintro _ w_3 ⟨b3, rfl, hS4⟩
 have hS4 : ST w0 [] _ [⟨aD b, 42, [vi x.A, vi x.B, vi x.C, vi x.D], 4⟩, ⟨aD b1, 42, [vi y.A, vi y.B, vi y.C, vi y.D], 4⟩, ⟨aD b2, 42, [vi 0, vi 0, vi 0, vi 0], 4⟩, ⟨aD b3, 42, ([x, y].flatMap enc_Ring), 2 * 4⟩] [] := hS4
 obtain ⟨⟨r_2, r_3⟩, hc, hF⟩ := bind_inv hF
 refine sc 102 rfl rfl (Yc_func (g := 73) (vs := [.agg #[vi (i64.wrap ((i64.wrap ((i64.wrap ((i64.wrap (x.A * y.A)) - (i64.wrap (x.B * y.D)))) - (i64.wrap (x.C * y.C)))) - (i64.wrap (x.D * y.B)))), vi (i64.wrap ((i64.wrap ((i64.wrap ((i64.wrap (x.A * y.B)) + (i64.wrap (x.B * y.A)))) - (i64.wrap (x.C * y.D)))) - (i64.wrap (x.D * y.C)))), vi (i64.wrap ((i64.wrap ((i64.wrap ((i64.wrap (x.A * y.C)) + (i64.wrap (x.B * y.B)))) + (i64.wrap (x.C * y.A)))) - (i64.wrap (x.D * y.D)))), vi (i64.wrap ((i64.wrap ((i64.wrap ((i64.wrap (x.A * y.D)) + (i64.wrap (x.B * y.C)))) + (i64.wrap (x.C * y.B)))) + (i64.wrap (x.D * y.A))))], .slice (aD b3) 2 2]) k_call_73 rfl (mc rfl (mc rfl mn)) (c_impl_ringIf (TRing.mk (i64.wrap ((i64.wrap ((i64.wrap ((i64.wrap (x.A * y.A)) - (i64.wrap (x.B * y.D)))) - (i64.wrap (x.C * y.C)))) - (i64.wrap (x.D * y.B)))) (i64.wrap ((i64.wrap ((i64.wrap ((i64.wrap (x.A * y.B)) + (i64.wrap (x.B * y.A)))) - (i64.wrap (x.C * y.D)))) - (i64.wrap (x.D * y.C)))) (i64.wrap ((i64.wrap ((i64.wrap ((i64.wrap (x.A * y.C)) + (i64.wrap (x.B * y.B)))) + (i64.wrap (x.C * y.A)))) - (i64.wrap (x.D * y.D)))) (i64.wrap ((i64.wrap ((i64.wrap ((i64.wrap (x.A * y.D)) + (i64.wrap (x.B * y.C)))) + (i64.wrap (x.C * y.B)))) + (i64.wrap (x.D * y.A))))) [x, y] (aD b3) 2 2 _ rfl (hS4.inn [false, false, false, true] rfl [] rfl) hc)) ?_
 rintro _ w_4 ⟨rfl, hd⟩
 have hS5 := hS4.out [false, false, false, true] rfl hd
 have hS5 : ST w0 [] _ [⟨aD b, 42, [vi x.A, vi x.B, vi x.C, vi x.D], 4⟩, ⟨aD b1, 42, [vi y.A, vi y.B, vi y.C, vi y.D], 4⟩, ⟨aD b2, 42, [vi 0, vi 0, vi 0, vi 0], 4⟩] [] := hS5
 refine sq 103 rfl rfl (Y_extract (v := .agg #[vi r_2.A, vi r_2.B, vi r_2.C, vi r_2.D]) rfl rfl rfl) ?_
 refine sq 104 rfl rfl (Y_extract (v := .bool r_3) rfl rfl rfl) ?_
 refine ss0 rfl rfl (Ys_store (i := 2) (s := 4) (B := aD b2) (T' := 42) (v := .agg #[vi r_2.A, vi r_2.B, vi r_2.C, vi r_2.D]) (vs := [vi r_2.A, vi r_2.B, vi r_2.C, vi r_2.D]) (k := 0) (cs' := [vi r_2.A, vi r_2.B, vi r_2.C, vi r_2.D]) hS5 k_sz_42_4 rfl rfl rfl rfl rfl rfl rfl (Nat.le_of_ble_eq_true rfl) rfl rfl) ?_
 rintro _ w_5 ⟨rfl, hS6⟩
 have hS6 : ST w0 [] _ [⟨aD b, 42, [vi x.A, vi x.B, vi x.C, vi x.D], 4⟩, ⟨aD b1, 42, [vi y.A, vi y.B, vi y.C, vi y.D], 4⟩, ⟨aD b2, 42, [vi r_2.A, vi r_2.B, vi r_2.C, vi r_2.D], 4⟩] [] := hS6
 refine sq 5 rfl rfl (Y_assign (v := .bool r_3) rfl rfl) ?_
 refine rw_nil ?_
 refine cw_ret ?_
 obtain ⟨rfl, rfl⟩ := pr2 (some_inj hF)
 exact ret2 Tryd.results52 (v1 := .agg #[vi r_2.A, vi r_2.B, vi r_2.C, vi r_2.D]) (resAt_cellA (B := aD b2) (i := 0) (cs := [vi r_2.A, vi r_2.B, vi r_2.C, vi r_2.D]) (vs := [vi r_2.A, vi r_2.B, vi r_2.C, vi r_2.D]) rfl k_ag_42 k_sz_42_4 (hS6.cf (i := 2) rfl) rfl rfl) (v2 := .bool r_3) (resAt_tmp rfl) ⟨rfl, (ST.subR (R' := []) (hS6.sel [] rfl rfl) (fun _ h => by cases h))⟩

theorem c_impl_DivRootTwo (x : TRing)  (w0 : World)  (hS : ST w0 [] w0 [] []) {r_ : TRing} {r_1 : Bool} (hF : F_impl_DivRootTwo x = some (r_, r_1)) :
  CV Tryd.prog 76 #[.agg #[vi x.A, vi x.B, vi x.C, vi x.D]] w0 (fun v w' => v = .tuple #[.agg #[vi r_.A, vi r_.B, vi r_.C, vi r_.D], .bool r_1] ∧ ST w0 [] w' [] []) := by
 unfold F_impl_DivRootTwo at hF
 refine cv_of_cw 43 Tryd.func76 rfl Tryd.ntmps76 rfl ?_
 refine cw_seq ?_
 refine cw_region ?_
 refine ss 1 rfl rfl (Ys_box (T := 42) (v := .agg #[vi x.A, vi x.B, vi x.C, vi x.D]) (cs := [vi x.A, vi x.B, vi x.C, vi x.D]) (m := 4) hS rfl rfl rfl rfl) ?_
 rintro _ w_ ⟨b, rfl, hS1⟩
 refine ss 2 rfl rfl (Ys_alloc (T := 42) (cs := [vi 0, vi 0, vi 0, vi 0]) (m := 4) hS1 k_zero_42 rfl rfl rfl) ?_
 rintro _ w_1 ⟨b1, rfl, hS2⟩
 have hS2 : ST w0 [] _ [⟨aD b, 42, [vi x.A, vi x.B, vi x.C, vi x.D], 4⟩, ⟨aD b1, 42, [vi 0, vi 0, vi 0, vi 0], 4⟩] [] := hS2
 refine sq 3 rfl rfl (Y_assign (v := .bool false) rfl rfl) ?_
 refine rw_nil ?_
 refine cw_seq ?_
 refine cw_seq ?_
 refine cw_region ?_
 refine sq 4 rfl rfl (Y_loadA (B := aD b) (i := 0) (cs := [vi x.A, vi x.B, vi x.C, vi x.D]) (vs := [vi x.A, vi x.B, vi x.C, vi x.D]) k_ag_42 k_sz_42_4 rfl rfl (hS2.cf (i := 0) rfl) rfl rfl) ?_
 obtain ⟨r_2, hc, hF⟩ := bind_inv hF
 refine sc 5 rfl rfl (Yc_func (g := 74) (vs := [.agg #[vi x.A, vi x.B, vi x.C, vi x.D]]) k_call_74 rfl (mc rfl mn) (c_impl_IsValidRing x _  (hS2.inn0 [] rfl) hc)) ?_
 rintro _ w_2 ⟨rfl, hd⟩
 have hS3 := hS2.out00 hd
 have hS3 : ST w0 [] _ [⟨aD b, 42, [vi x.A, vi x.B, vi x.C, vi x.D], 4⟩, ⟨aD b1, 42, [vi 0, vi 0, vi 0, vi 0], 4⟩] [] := hS3
 refine sq 6 rfl rfl (Y_not (p := r_2) rfl rfl) ?_
 refine sq 7 rfl rfl (Y_move (v := .bool (!r_2)) rfl rfl) ?_
 refine sgq 8 (B := (!(!r_2))) (v := .agg #[vi x.A, vi x.B, vi x.C, vi x.D]) rfl rfl (wt_f (gd_of (t := 7) (by kernel_rfl) rfl)) (fun hg => (Y_loadA (B := aD b) (i := 0) (cs := [vi x.A, vi x.B, vi x.C, vi x.D]) (vs := [vi x.A, vi x.B, vi x.C, vi x.D]) k_ag_42 k_sz_42_4 rfl rfl (hS3.cf (i := 0) rfl) rfl rfl)) ?_
 obtain ⟨r_3, hc1, hF⟩ := bind_inv hF
 refine sgc 9 (B := (!(!r_2))) (v := .bool r_3) (F := hS3.fn) rfl rfl (wt_f (gd_of (t := 7) (by kernel_rfl) rfl)) hS3 (fun hg1 => (Yc_func (g := 75) (vs := [.agg #[vi x.A, vi x.B, vi x.C, vi x.D]]) k_call_75 rfl (mc (gv_of (B := (!(!r_2))) (v := .agg #[vi x.A, vi x.B, vi x.C, vi x.D]) hg1) mn) (CV.mono (c_impl_isEven x _  (hS3.inn0 [] rfl) (gb_inv hc1 hg1)) (by rintro _ _ ⟨rfl, h⟩; exact ⟨rfl, hS3.out00 h⟩)))) ?_
 rintro w_3 hS4
 have hS4 : ST _ _ w_3 _ _ := hS4
 refine sgq 10 (B := (!(!r_2))) (v := .bool (!r_3)) rfl rfl (wt_f (gd_of (t := 7) (by kernel_rfl) rfl)) (fun hg2 => (Y_not (p := r_3) rfl (gv_of (B := (!(!r_2))) (v := .bool r_3) hg2))) ?_
 refine sq 11 rfl rfl (Y_or (b := (!r_2)) (z := (!r_3)) rfl rfl rfl rfl) ?_
 refine rw_nil ?_
 refine cw_cond (b := ((!r_2) || (!r_3))) rfl (fun hb => ?_) (fun hb => ?_)
 ·skip
  have hF1 := ct hF hb
  refine cw_seq ?_
  refine cw_region ?_
  refine sq 12 rfl rfl (Y_buildS (zs := [vi 0, vi 0, vi 0, vi 0]) (vs := []) (cs := [vi 0, vi 0, vi 0, vi 0]) k_pl_42 k_zero_42 rfl mpn rfl) ?_
  refine ss0 rfl rfl (Ys_store (i := 1) (s := 4) (B := aD b1) (T' := 42) (v := .agg #[vi 0, vi 0, vi 0, vi 0]) (vs := [vi 0, vi 0, vi 0, vi 0]) (k := 0) (cs' := [vi 0, vi 0, vi 0, vi 0]) hS4 k_sz_42_4 rfl rfl rfl rfl rfl rfl rfl (Nat.le_of_ble_eq_true rfl) rfl rfl) ?_
  rintro _ w_4 ⟨rfl, hS5⟩
  have hS5 : ST w0 [] _ [⟨aD b, 42, [vi x.A, vi x.B, vi x.C, vi x.D], 4⟩, ⟨aD b1, 42, [vi 0, vi 0, vi 0, vi 0], 4⟩] [] := hS5
  refine sq 3 rfl rfl (Y_assign (v := .bool false) rfl rfl) ?_
  refine rw_nil ?_
  refine cw_ret ?_
  obtain ⟨rfl, rfl⟩ := pr2 (some_inj hF1)
  exact ret2 Tryd.results76 (v1 := .agg #[vi 0, vi 0, vi 0, vi 0]) (resAt_cellA (B := aD b1) (i := 0) (cs := [vi 0, vi 0, vi 0, vi 0]) (vs := [vi 0, vi 0, vi 0, vi 0]) rfl k_ag_42 k_sz_42_4 (hS5.cf (i := 1) rfl) rfl rfl) (v2 := .bool false) (resAt_tmp rfl) ⟨rfl, (ST.subR (R' := []) (hS5.sel [] rfl rfl) (fun _ h => by cases h))⟩
 ·skip
  have hF2 := cf' hF hb
  refine cw_skip ?_
  refine cw_seq ?_
  refine cw_region ?_
  refine sq 13 rfl rfl (Y_fieldAddr (B := aD b) (i := 0) (s := 0) k_fd_42_1_1_3 k_sz_3_1 rfl rfl) ?_
  refine sq 14 rfl rfl (Y_load1 (B := aD b) (i := 1) (cs := [vi x.A, vi x.B, vi x.C, vi x.D]) (v := vi x.B) k_sc_3 rfl rfl (hS4.cf (i := 0) rfl) rfl) ?_
  refine sq 15 rfl rfl (Y_fieldAddr (B := aD b) (i := 0) (s := 0) k_fd_42_3_3_3 k_sz_3_1 rfl rfl) ?_
  refine sq 16 rfl rfl (Y_load1 (B := aD b) (i := 3) (cs := [vi x.A, vi x.B, vi x.C, vi x.D]) (v := vi x.D) k_sc_3 rfl rfl (hS4.cf (i := 0) rfl) rfl) ?_
  refine sq 17 rfl rfl (Y_sub (k := .i64) (a := x.B) (b := x.D) rfl rfl rfl) ?_
  refine sq 18 rfl rfl (Y_quo (k := .i64) (a := (i64.wrap (x.B - x.D))) (b := 2) rfl rfl rfl (by decide)) ?_
  refine sq 19 rfl rfl (Y_fieldAddr (B := aD b) (i := 0) (s := 0) k_fd_42_0_0_3 k_sz_3_1 rfl rfl) ?_
  refine sq 20 rfl rfl (Y_load1 (B := aD b) (i := 0) (cs := [vi x.A, vi x.B, vi x.C, vi x.D]) (v := vi x.A) k_sc_3 rfl rfl (hS4.cf (i := 0) rfl) rfl) ?_
  refine sq 21 rfl rfl (Y_fieldAddr (B := aD b) (i := 0) (s := 0) k_fd_42_2_2_3 k_sz_3_1 rfl rfl) ?_
  refine sq 22 rfl rfl (Y_load1 (B := aD b) (i := 2) (cs := [vi x.A, vi x.B, vi x.C, vi x.D]) (v := vi x.C) k_sc_3 rfl rfl (hS4.cf (i := 0) rfl) rfl) ?_
  refine sq 23 rfl rfl (Y_add (k := .i64) (a := x.A) (b := x.C) rfl rfl rfl) ?_
  refine sq 24 rfl rfl (Y_quo (k := .i64) (a := (i64.wrap (x.A + x.C))) (b := 2) rfl rfl rfl (by decide)) ?_
  refine sq 25 rfl rfl (Y_fieldAddr (B := aD b) (i := 0) (s := 0) k_fd_42_1_1_3 k_sz_3_1 rfl rfl) ?_
  refine sq 26 rfl rfl (Y_load1 (B := aD b) (i := 1) (cs := [vi x.A, vi x.B, vi x.C, vi x.D]) (v := vi x.B) k_sc_3 rfl rfl (hS4.cf (i := 0) rfl) rfl) ?_
  refine sq 27 rfl rfl (Y_fieldAddr (B := aD b) (i := 0) (s := 0) k_fd_42_3_3_3 k_sz_3_1 rfl rfl) ?_
  refine sq 28 rfl rfl (Y_load1 (B := aD b) (i := 3) (cs := [vi x.A, vi x.B, vi x.C, vi x.D]) (v := vi x.D) k_sc_3 rfl rfl (hS4.cf (i := 0) rfl) rfl) ?_
  refine sq 29 rfl rfl (Y_add (k := .i64) (a := x.B) (b := x.D) rfl rfl rfl) ?_
  refine sq 30 rfl rfl (Y_quo (k := .i64) (a := (i64.wrap (x.B + x.D))) (b := 2) rfl rfl rfl (by decide)) ?_
  refine sq 31 rfl rfl (Y_fieldAddr (B := aD b) (i := 0) (s := 0) k_fd_42_2_2_3 k_sz_3_1 rfl rfl) ?_
  refine sq 32 rfl rfl (Y_load1 (B := aD b) (i := 2) (cs := [vi x.A, vi x.B, vi x.C, vi x.D]) (v := vi x.C) k_sc_3 rfl rfl (hS4.cf (i := 0) rfl) rfl) ?_
  refine sq 33 rfl rfl (Y_fieldAddr (B := aD b) (i := 0) (s := 0) k_fd_42_0_0_3 k_sz_3_1 rfl rfl) ?_
  refine sq 34 rfl rfl (Y_load1 (B := aD b) (i := 0) (cs := [vi x.A, vi x.B, vi x.C, vi x.D]) (v := vi x.A) k_sc_3 rfl rfl (hS4.cf (i := 0) rfl) rfl) ?_
  refine sq 35 rfl rfl (Y_sub (k := .i64) (a := x.C) (b := x.A) rfl rfl rfl) ?_
  refine sq 36 rfl rfl (Y_quo (k := .i64) (a := (i64.wrap (x.C - x.A))) (b := 2) rfl rfl rfl (by decide)) ?_
  refine sq 37 rfl rfl (Y_buildS (zs := [vi 0, vi 0, vi 0, vi 0]) (vs := [(0, vi (i64.wrap (Int.tdiv (i64.wrap (x.B - x.D)) 2))), (1, vi (i64.wrap (Int.tdiv (i64.wrap (x.A + x.C)) 2))), (2, vi (i64.wrap (Int.tdiv (i64.wrap (x.B + x.D)) 2))), (3, vi (i64.wrap (Int.tdiv (i64.wrap (x.C - x.A)) 2)))]) (cs := [vi (i64.wrap (Int.tdiv (i64.wrap (x.B - x.D)) 2)), vi (i64.wrap (Int.tdiv (i64.wrap (x.A + x.C)) 2)), vi (i64.wrap (Int.tdiv (i64.wrap (x.B + x.D)) 2)), vi (i64.wrap (Int.tdiv (i64.wrap (x.C - x.A)) 2))]) k_pl_42 k_zero_42 rfl (mpc rfl (mpc rfl (mpc rfl (mpc rfl mpn)))) rfl) ?_
  refine sq 38 rfl rfl (Y_loadA (B := aD b) (i := 0) (cs := [vi x.A, vi x.B, vi x.C, vi x.D]) (vs := [vi x.A, vi x.B, vi x.C, vi x.D]) k_ag_42 k_sz_42_4 rfl rfl (hS4.cf (i := 0) rfl) rfl rfl) ?_
  refine ss 39 rfl rfl (Ys_bslice (s := 4) (len := 1) (vs := [(0, .agg #[vi x.A, vi x.B, vi x.C, vi x.D])]) (cs := [vi x.A, vi x.B, vi x.C, vi x.D]) (zs := [vi 0, vi 0, vi 0, vi 0]) (m := 4) hS4 k_sl_113_42 k_sz_42_4 k_zc_42 rfl (mpc rfl mpn) rfl rfl rfl (by kernel_rfl) (by kernel_rfl) rfl) ?_
  rintro _ w_5 ⟨b2, rfl, hS6⟩
  have hS6 : ST w0 [] _ [⟨aD b, 42, [vi x.A, vi x.B, vi x.C, vi x.D], 4⟩, ⟨aD b1, 42, [vi 0, vi 0, vi 0, vi 0], 4⟩, ⟨aD b2, 42, ([x].flatMap enc_Ring), 1 * 4⟩] [] := hS6
  obtain ⟨⟨r_4, r_5⟩, hc2, hF2⟩ := bind_inv hF2
  refine sc 40 rfl rfl (Yc_func (g := 73) (vs := [.agg #[vi (i64.wrap (Int.tdiv (i64.wrap (x.B - x.D)) 2)), vi (i64.wrap (Int.tdiv (i64.wrap (x.A + x.C)) 2)), vi (i64.wrap (Int.tdiv (i64.wrap (x.B + x.D)) 2)), vi (i64.wrap (Int.tdiv (i64.wrap (x.C - x.A)) 2))], .slice (aD b2) 1 1]) k_call_73 rfl (mc rfl (mc rfl mn)) (c_impl_ringIf (TRing.mk (i64.wrap (Int.tdiv (i64.wrap (x.B - x.D)) 2)) (i64.wrap (Int.tdiv (i64.wrap (x.A + x.C)) 2)) (i64.wrap (Int.tdiv (i64.wrap (x.B + x.D)) 2)) (i64.wrap (Int.tdiv (i64.wrap (x.C - x.A)) 2))) [x] (aD b2) 1 1 _ rfl (hS6.inn [false, false, true] rfl [] rfl) hc2)) ?_
  rintro _ w_6 ⟨rfl, hd1⟩
  have hS7 := hS6.out [false, false, true] rfl hd1
  have hS7 : ST w0 [] _ [⟨aD b, 42, [vi x.A, vi x.B, vi x.C, vi x.D], 4⟩, ⟨aD b1, 42, [vi 0, vi 0, vi 0, vi 0], 4⟩] [] := hS7
  refine sq 41 rfl rfl (Y_extract (v := .agg #[vi r_4.A, vi r_4.B, vi r_4.C, vi r_4.D]) rfl rfl rfl) ?_
  refine sq 42 rfl rfl (Y_extract (v := .bool r_5) rfl rfl rfl) ?_
  refine ss0 rfl rfl (Ys_store (i := 1) (s := 4) (B := aD b1) (T' := 42) (v := .agg #[vi r_4.A, vi r_4.B, vi r_4.C, vi r_4.D]) (vs := [vi r_4.A, vi r_4.B, vi r_4.C, vi r_4.D]) (k := 0) (cs' := [vi r_4.A, vi r_4.B, vi r_4.C, vi r_4.D]) hS7 k_sz_42_4 rfl rfl rfl rfl rfl rfl rfl (Nat.le_of_ble_eq_true rfl) rfl rfl) ?_
  rintro _ w_7 ⟨rfl, hS8⟩
  have hS8 : ST w0 [] _ [⟨aD b, 42, [vi x.A, vi x.B, vi x.C, vi x.D], 4⟩, ⟨aD b1, 42, [vi r_4.A, vi r_4.B, vi r_4.C, vi r_4.D], 4⟩] [] := hS8
  refine sq 3 rfl rfl (Y_assign (v := .bool r_5) rfl rfl) ?_
  refine rw_nil ?_
  refine cw_ret ?_
  obtain ⟨rfl, rfl⟩ := pr2 (some_inj hF2)
  exact ret2 Tryd.results76 (v1 := .agg #[vi r_4.A, vi r_4.B, vi r_4.C, vi r_4.D]) (resAt_cellA (B := aD b1) (i := 0) (cs := [vi r_4.A, vi r_4.B, vi r_4.C, vi r_4.D]) (vs := [vi r_4.A, vi r_4.B, vi r_4.C, vi r_4.D]) rfl k_ag_42 k_sz_42_4 (hS8.cf (i := 1) rfl) rfl rfl) (v2 := .bool r_5) (resAt_tmp rfl) ⟨rfl, (ST.subR (R' := []) (hS8.sel [] rfl rfl) (fun _ h => by cases h))⟩

theorem c_impl_DyadicOf (num : TRing) (exp : Int)  (w0 : World)  (hS : ST w0 [] w0 [] []) {r_ : TDyadic} {r_1 : Bool} (hF : F_impl_DyadicOf num exp = some (r_, r_1)) :
  CV Tryd.prog 54 #[.agg #[vi num.A, vi num.B, vi num.C, vi num.D], vi exp] w0 (fun v w' => v = .tuple #[.agg #[vi r_.Num.A, vi r_.Num.B, vi r_.Num.C, vi r_.Num.D, vi r_.Exp], .bool r_1] ∧ ST w0 [] w' [] []) := by
 unfold F_impl_DyadicOf at hF
 refine cv_of_cw 31 Tryd.func54 rfl Tryd.ntmps54 rfl ?_
 refine cw_seq ?_
 refine cw_region ?_
 refine ss 2 rfl rfl (Ys_box (T := 42) (v := .agg #[vi num.A, vi num.B, vi num.C, vi num.D]) (cs := [vi num.A, vi num.B, vi num.C, vi num.D]) (m := 4) hS rfl rfl rfl rfl) ?_
 rintro _ w_ ⟨b, rfl, hS1⟩
 refine ss 4 rfl rfl (Ys_alloc (T := 44) (cs := [vi 0, vi 0, vi 0, vi 0, vi 0]) (m := 5) hS1 k_zero_44 rfl rfl rfl) ?_
 rintro _ w_1 ⟨b1, rfl, hS2⟩
 have hS2 : ST w0 [] _ [⟨aD b, 42, [vi num.A, vi num.B, vi num.C, vi num.D], 4⟩, ⟨aD b1, 44, [vi 0, vi 0, vi 0, vi 0, vi 0], 5⟩] [] := hS2
 refine sq 5 rfl rfl (Y_assign (v := .bool false) rfl rfl) ?_
 refine rw_nil ?_
 refine cw_seq ?_
 refine cw_seq ?_
 refine cw_region ?_
 refine sq 6 rfl rfl (Y_loadA (B := aD b) (i := 0) (cs := [vi num.A, vi num.B, vi num.C, vi num.D]) (vs := [vi num.A, vi num.B, vi num.C, vi num.D]) k_ag_42 k_sz_42_4 rfl rfl (hS2.cf (i := 0) rfl) rfl rfl) ?_
 obtain ⟨r_2, hc, hF⟩ := bind_inv hF
 refine sc 7 rfl rfl (Yc_func (g := 74) (vs := [.agg #[vi num.A, vi num.B, vi num.C, vi num.D]]) k_call_74 rfl (mc rfl mn) (c_impl_IsValidRing num _  (hS2.inn0 [] rfl) hc)) ?_
 rintro _ w_2 ⟨rfl, hd⟩
 have hS3 := hS2.out00 hd
 have hS3 : ST w0 [] _ [⟨aD b, 42, [vi num.A, vi num.B, vi num.C, vi num.D], 4⟩, ⟨aD b1, 44, [vi 0, vi 0, vi 0, vi 0, vi 0], 5⟩] [] := hS3
 refine sq 8 rfl rfl (Y_not (p := r_2) rfl rfl) ?_
 refine sq 9 rfl rfl (Y_move (v := .bool (!r_2)) rfl rfl) ?_
 refine sgq 10 (B := (!(!r_2))) (v := vi exp) rfl rfl (wt_f (gd_of (t := 9) (by kernel_rfl) rfl)) (fun hg => (Y_move (v := vi exp) rfl rfl)) ?_
 obtain ⟨r_3, hc1, hF⟩ := bind_inv hF
 refine sgc 11 (B := (!(!r_2))) (v := .bool r_3) (F := hS3.fn) rfl rfl (wt_f (gd_of (t := 9) (by kernel_rfl) rfl)) hS3 (fun hg1 => (Yc_func (g := 9) (vs := [vi exp, vi 0, vi 60]) k_call_9 rfl (mc (gv_of (B := (!(!r_2))) (v := vi exp) hg1) (mc rfl (mc rfl mn))) (CV.mono (c_impl_within exp 0 60 _  (hS3.inn0 [] rfl) (gb_inv hc1 hg1)) (by rintro _ _ ⟨rfl, h⟩; exact ⟨rfl, hS3.out00 h⟩)))) ?_
 rintro w_3 hS4
 have hS4 : ST _ _ w_3 _ _ := hS4
 refine sgq 12 (B := (!(!r_2))) (v := .bool (!r_3)) rfl rfl (wt_f (gd_of (t := 9) (by kernel_rfl) rfl)) (fun hg2 => (Y_not (p := r_3) rfl (gv_of (B := (!(!r_2))) (v := .bool r_3) hg2))) ?_
 refine sq 13 rfl rfl (Y_or (b := (!r_2)) (z := (!r_3)) rfl rfl rfl rfl) ?_
 refine rw_nil ?_
 refine cw_cond (b := ((!r_2) || (!r_3))) rfl (fun hb => ?_) (fun hb => ?_)
 ·skip
  have hF1 := ct hF hb
  refine cw_seq ?_
  refine cw_region ?_
  refine sq 14 rfl rfl (Y_buildS (zs := [vi 0, vi 0, vi 0, vi 0, vi 0]) (vs := []) (cs := [vi 0, vi 0, vi 0, vi 0, vi 0]) k_pl_44 k_zero_44 rfl mpn rfl) ?_
  refine ss0 rfl rfl (Ys_store (i := 1) (s := 5) (B := aD b1) (T' := 44) (v := .agg #[vi 0, vi 0, vi 0, vi 0, vi 0]) (vs := [vi 0, vi 0, vi 0, vi 0, vi 0]) (k := 0) (cs' := [vi 0, vi 0, vi 0, vi 0, vi 0]) hS4 k_sz_44_5 rfl rfl rfl rfl rfl rfl rfl (Nat.le_of_ble_eq_true rfl) rfl rfl) ?_
  rintro _ w_4 ⟨rfl, hS5⟩
  have hS5 : ST w0 [] _ [⟨aD b, 42, [vi num.A, vi num.B, vi num.C, vi num.D], 4⟩, ⟨aD b1, 44, [vi 0, vi 0, vi 0, vi 0, vi 0], 5⟩] [] := hS5
  refine sq 5 rfl rfl (Y_assign (v := .bool false) rfl rfl) ?_
  refine rw_nil ?_
  refine cw_ret ?_
  obtain ⟨rfl, rfl⟩ := pr2 (some_inj hF1)
  exact ret2 Tryd.results54 (v1 := .agg #[vi 0, vi 0, vi 0, vi 0, vi 0]) (resAt_cellA (B := aD b1) (i := 0) (cs := [vi 0, vi 0, vi 0, vi 0, vi 0]) (vs := [vi 0, vi 0, vi 0, vi 0, vi 0]) rfl k_ag_44 k_sz_44_5 (hS5.cf (i := 1) rfl) rfl rfl) (v2 := .bool false) (resAt_tmp rfl) ⟨rfl, (ST.subR (R' := []) (hS5.sel [] rfl rfl) (fun _ h => by cases h))⟩
 ·skip
  have hF2 := cf' hF hb
  refine cw_skip ?_
  refine cw_seq ?_
  obtain ⟨z, hz, hF3⟩ := bind_inv hF2
  refine cw_block ?_
  refine cw_loop (fun k f w => ∃ (exp1 : Int) (A : Int) (B : Int) (C : Int) (D : Int), FF f [(1, vi exp1), (2, pt (aD b) 0), (4, pt (aD b1) 0)] ∧ ST w0 [] w [⟨aD b, 42, [vi A, vi B, vi C, vi D], 4⟩, ⟨aD b1, 44, [vi 0, vi 0, vi 0, vi 0, vi 0], 5⟩] [] ∧ whX F_impl_DyadicOf_l1 k (exp1, A, B, C, D) = some z) fuel ⟨exp, num.A, num.B, num.C, num.D, (FF.cons rfl (FF.cons rfl (FF.cons rfl FF.nil))), (hS4.sel [0, 1] rfl rfl), hz⟩ ?_
  rintro k_ f w ⟨exp1, A, B, C, D, hf, hS6, hL⟩
  obtain ⟨k_1, y, rfl, hb1, hL1⟩ := whX_go hL
  unfold F_impl_DyadicOf_l1 at hb1
  refine cw_seq ?_
  refine cw_seq ?_
  refine cw_region ?_
  refine sq 15 rfl rfl (Y_move (v := vi exp1) rfl (hf.get 1 0 rfl)) ?_
  refine sq 16 rfl rfl (Y_gt (k := .i64) (a := exp1) (b := 0) rfl rfl rfl) ?_
  refine sq 17 rfl rfl (Y_move (v := .bool (decide (0 < exp1))) rfl rfl) ?_
  refine sgq 18 (B := (decide (0 < exp1))) (v := .agg #[vi A, vi B, vi C, vi D]) rfl rfl (wt_t (gd_of (t := 17) (by kernel_rfl) rfl)) (fun hg3 => (Y_loadA (B := aD b) (i := 0) (cs := [vi A, vi B, vi C, vi D]) (vs := [vi A, vi B, vi C, vi D]) k_ag_42 k_sz_42_4 rfl (hf.get 2 1 rfl) (hS6.cf (i := 0) rfl) rfl rfl)) ?_
  obtain ⟨r_4, hc2, hb1⟩ := bind_inv hb1
  refine sgc 19 (B := (decide (0 < exp1))) (v := .bool r_4) (F := hS6.fn) rfl rfl (wt_t (gd_of (t := 17) (by kernel_rfl) rfl)) hS6 (fun hg4 => (Yc_func (g := 75) (vs := [.agg #[vi A, vi B, vi C, vi D]]) k_call_75 rfl (mc (gv_of (B := (decide (0 < exp1))) (v := .agg #[vi A, vi B, vi C, vi D]) hg4) mn) (CV.mono (c_impl_isEven (TRing.mk A B C D) _  (hS6.inn0 [] rfl) (gb_inv hc2 hg4)) (by rintro _ _ ⟨rfl, h⟩; exact ⟨rfl, hS6.out00 h⟩)))) ?_
  rintro w_5 hS7
  have hS7 : ST _ _ w_5 _ _ := hS7
  refine sq 20 rfl rfl (Y_and (b := (decide (0 < exp1))) (z := r_4) rfl rfl rfl rfl) ?_
  refine rw_nil ?_
  refine cw_cond (b := ((decide (0 < exp1)) && r_4)) rfl (fun hb2 => ?_) (fun hb2 => ?_)
  ·skip
   have hF4 := ct hb1 hb2
   refine cw_skip ?_
   refine cw_block ?_
   refine cw_seq ?_
   refine cw_region ?_
   refine sq 22 rfl rfl (Y_loadA (B := aD b) (i := 0) (cs := [vi A, vi B, vi C, vi D]) (vs := [vi A, vi B, vi C, vi D]) k_ag_42 k_sz_42_4 rfl (hf.get 2 1 rfl) (hS7.cf (i := 0) rfl) rfl rfl) ?_
   obtain ⟨⟨r_5, r_6⟩, hc3, hF4⟩ := bind_inv hF4
   refine sc 23 rfl rfl (Yc_func (g := 76) (vs := [.agg #[vi A, vi B, vi C, vi D]]) k_call_76 rfl (mc rfl mn) (c_impl_DivRootTwo (TRing.mk A B C D) _  (hS7.inn0 [] rfl) hc3)) ?_
   rintro _ w_6 ⟨rfl, hd1⟩
   have hS8 := hS7.out00 hd1
   have hS8 : ST w0 [] _ [⟨aD b, 42, [vi A, vi B, vi C, vi D], 4⟩, ⟨aD b1, 44, [vi 0, vi 0, vi 0, vi 0, vi 0], 5⟩] [] := hS8
   refine sq 21 rfl rfl (Y_move (v := .tuple #[.agg #[vi r_5.A, vi r_5.B, vi r_5.C, vi r_5.D], .bool r_6]) rfl rfl) ?_
   refine sq 24 rfl rfl (Y_extract (v := .agg #[vi r_5.A, vi r_5.B, vi r_5.C, vi r_5.D]) rfl rfl rfl) ?_
   refine sq 25 rfl rfl (Y_extract (v := .bool r_6) rfl rfl rfl) ?_
   refine ss0 rfl rfl (Ys_store (i := 0) (s := 4) (B := aD b) (T' := 42) (v := .agg #[vi r_5.A, vi r_5.B, vi r_5.C, vi r_5.D]) (vs := [vi r_5.A, vi r_5.B, vi r_5.C, vi r_5.D]) (k := 0) (cs' := [vi r_5.A, vi r_5.B, vi r_5.C, vi r_5.D]) hS8 k_sz_42_4 rfl (hf.get 2 1 rfl) rfl rfl rfl rfl rfl (Nat.le_of_ble_eq_true rfl) rfl rfl) ?_
   rintro _ w_7 ⟨rfl, hS9⟩
   have hS9 : ST w0 [] _ [⟨aD b, 42, [vi r_5.A, vi r_5.B, vi r_5.C, vi r_5.D], 4⟩, ⟨aD b1, 44, [vi 0, vi 0, vi 0, vi 0, vi 0], 5⟩] [] := hS9
   refine rw_nil ?_
   refine cw_region ?_
   refine sq 26 rfl rfl (Y_move (v := vi exp1) rfl (hf.get 1 0 rfl)) ?_
   refine sq 27 rfl rfl (Y_sub (k := .i64) (a := exp1) (b := 1) rfl rfl rfl) ?_
   refine sq 1 rfl rfl (Y_assign (v := vi (i64.wrap (exp1 - 1))) rfl rfl) ?_
   refine rw_nil ?_
   obtain rfl := some_inj hF4
   exact ⟨k_1, Nat.lt_succ_self _, (i64.wrap (exp1 - 1)), r_5.A, r_5.B, r_5.C, r_5.D, (FF.cons rfl (FF.cons (hf.get 2 1 rfl) (FF.cons (hf.get 4 2 rfl) FF.nil))), (hS9.sel [0, 1] rfl rfl), hL1⟩
  ·skip
   have hF5 := cf' hb1 hb2
   refine cw_exit rfl ?_
   obtain rfl := some_inj hF5
   obtain rfl := some_inj hL1
   refine cw_seq ?_
   refine cw_region ?_
   refine sq 28 rfl rfl (Y_loadA (B := aD b) (i := 0) (cs := [vi A, vi B, vi C, vi D]) (vs := [vi A, vi B, vi C, vi D]) k_ag_42 k_sz_42_4 rfl (hf.get 2 1 rfl) (hS7.cf (i := 0) rfl) rfl rfl) ?_
   refine sq 29 rfl rfl (Y_move (v := vi exp1) rfl (hf.get 1 0 rfl)) ?_
   refine sq 30 rfl rfl (Y_buildS (zs := [vi 0, vi 0, vi 0, vi 0, vi 0]) (vs := [(0, .agg #[vi A, vi B, vi C, vi D]), (1, vi exp1)]) (cs := [vi A, vi B, vi C, vi D, vi exp1]) k_pl_44 k_zero_44 rfl (mpc rfl (mpc rfl mpn)) rfl) ?_
   refine ss0 rfl rfl (Ys_store (i := 1) (s := 5) (B := aD b1) (T' := 44) (v := .agg #[vi A, vi B, vi C, vi D, vi exp1]) (vs := [vi A, vi B, vi C, vi D, vi exp1]) (k := 0) (cs' := [vi A, vi B, vi C, vi D, vi exp1]) hS7 k_sz_44_5 rfl (hf.get 4 2 rfl) rfl rfl rfl rfl rfl (Nat.le_of_ble_eq_true rfl) rfl rfl) ?_
   rintro _ w_8 ⟨rfl, hS10⟩
   have hS10 : ST w0 [] _ [⟨aD b, 42, [vi A, vi B, vi C, vi D], 4⟩, ⟨aD b1, 44, [vi A, vi B, vi C, vi D, vi exp1], 5⟩] [] := hS10
   refine sq 5 rfl rfl (Y_assign (v := .bool true) rfl rfl) ?_
   refine rw_nil ?_
   refine cw_ret ?_
   obtain ⟨rfl, rfl⟩ := pr2 (some_inj hF3)
   exact ret2 Tryd.results54 (v1 := .agg #[vi A, vi B, vi C, vi D, vi exp1]) (resAt_cellA (B := aD b1) (i := 0) (cs := [vi A, vi B, vi C, vi D, vi exp1]) (vs := [vi A, vi B, vi C, vi D, vi exp1]) (hf.get 4 2 rfl) k_ag_44 k_sz_44_5 (hS10.cf (i := 1) rfl) rfl rfl) (v2 := .bool true) (resAt_tmp rfl) ⟨rfl, (ST.subR (R' := []) (hS10.sel [] rfl rfl) (fun _ h => by cases h))⟩

theorem c_impl_MulDyadic (x : TDyadic) (y : TDyadic)  (w0 : World)  (hS : ST w0 [] w0 [] []) {r_ : TDyadic} {r_1 : Bool} (hF : F_impl_MulDyadic x y = some (r_, r_1)) :
  CV Tryd.prog 28 #[.agg #[vi x.Num.A, vi x.Num.B, vi x.Num.C, vi x.Num.D, vi x.Exp], .agg #[vi y.Num.A, vi y.Num.B, vi y.Num.C, vi y.Num.D, vi y.Exp]] w0 (fun v w' => v = .tuple #[.agg #[vi r_.Num.A, vi r_.Num.B, vi r_.Num.C, vi r_.Num.D, vi r_.Exp], .bool r_1] ∧ ST w0 [] w' [] []) := by
 unfold F_impl_MulDyadic at hF
 refine cv_of_cw 38 Tryd.func28 rfl Tryd.ntmps28 rfl ?_
 refine cw_seq ?_
 refine cw_region ?_
 refine ss 2 rfl rfl (Ys_box (T := 44) (v := .agg #[vi x.Num.A, vi x.Num.B, vi x.Num.C, vi x.Num.D, vi x.Exp]) (cs := [vi x.Num.A, vi x.Num.B, vi x.Num.C, vi x.Num.D, vi x.Exp]) (m := 5) hS rfl rfl rfl rfl) ?_
 rintro _ w_ ⟨b, rfl, hS1⟩
 refine ss 3 rfl rfl (Ys_box (T := 44) (v := .agg #[vi y.Num.A, vi y.Num.B, vi y.Num.C, vi y.Num.D, vi y.Exp]) (cs := [vi y.Num.A, vi y.Num.B, vi y.Num.C, vi y.Num.D, vi y.Exp]) (m := 5) hS1 rfl rfl rfl rfl) ?_
 rintro _ w_1 ⟨b1, rfl, hS2⟩
 have hS2 : ST w0 [] _ [⟨aD b, 44, [vi x.Num.A, vi x.Num.B, vi x.Num.C, vi x.Num.D, vi x.Exp], 5⟩, ⟨aD b1, 44, [vi y.Num.A, vi y.Num.B, vi y.Num.C, vi y.Num.D, vi y.Exp], 5⟩] [] := hS2
 refine ss 4 rfl rfl (Ys_alloc (T := 44) (cs := [vi 0, vi 0, vi 0, vi 0, vi 0]) (m := 5) hS2 k_zero_44 rfl rfl rfl) ?_
 rintro _ w_2 ⟨b2, rfl, hS3⟩
 have hS3 : ST w0 [] _ [⟨aD b, 44, [vi x.Num.A, vi x.Num.B, vi x.Num.C, vi x.Num.D, vi x.Exp], 5⟩, ⟨aD b1, 44, [vi y.Num.A, vi y.Num.B, vi y.Num.C, vi y.Num.D, vi y.Exp], 5⟩, ⟨aD b2, 44, [vi 0, vi 0, vi 0, vi 0, vi 0], 5⟩] [] := hS3
 refine sq 5 rfl rfl (Y_assign (v := .bool false) rfl rfl) ?_
 refine rw_nil ?_
 refine cw_seq ?_
 refine cw_region ?_
 refine sq 9 rfl rfl (Y_fieldAddr (B := aD b) (i := 0) (s := 3) k_fd_44_0_0_42 k_sz_42_4 rfl rfl) ?_
 refine sq 10 rfl rfl (Y_loadA (B := aD b) (i := 0) (cs := [vi x.Num.A, vi x.Num.B, vi x.Num.C, vi x.Num.D, vi x.Exp]) (vs := [vi x.Num.A, vi x.Num.B, vi x.Num.C, vi x.Num.D]) k_ag_42 k_sz_42_4 rfl rfl (hS3.cf (i := 0) rfl) rfl rfl) ?_
 refine sq 11 rfl rfl (Y_fieldAddr (B := aD b1) (i := 0) (s := 3) k_fd_44_0_0_42 k_sz_42_4 rfl rfl) ?_
 refine sq 12 rfl rfl (Y_loadA (B := aD b1) (i := 0) (cs := [vi y.Num.A, vi y.Num.B, vi y.Num.C, vi y.Num.D, vi y.Exp]) (vs := [vi y.Num.A, vi y.Num.B, vi y.Num.C, vi y.Num.D]) k_ag_42 k_sz_42_4 rfl rfl (hS3.cf (i := 1) rfl) rfl rfl) ?_
 obtain ⟨⟨r_2, r_3⟩, hc, hF⟩ := bind_inv hF
 refine sc 13 rfl rfl (Yc_func (g := 52) (vs := [.agg #[vi x.Num.A, vi x.Num.B, vi x.Num.C, vi x.Num.D], .agg #[vi y.Num.A, vi y.Num.B, vi y.Num.C, vi y.Num.D]]) k_call_52 rfl (mc rfl (mc rfl mn)) (c_impl_MulRing x.Num y.Num _  (hS3.inn0 [] rfl) hc)) ?_
 rintro _ w_3 ⟨rfl, hd⟩
 have hS4 := hS3.out00 hd
 have hS4 : ST w0 [] _ [⟨aD b, 44, [vi x.Num.A, vi x.Num.B, vi x.Num.C, vi x.Num.D, vi x.Exp], 5⟩, ⟨aD b1, 44, [vi y.Num.A, vi y.Num.B, vi y.Num.C, vi y.Num.D, vi y.Exp], 5⟩, ⟨aD b2, 44, [vi 0, vi 0, vi 0, vi 0, vi 0], 5⟩] [] := hS4
 refine sq 8 rfl rfl (Y_move (v := .tuple #[.agg #[vi r_2.A, vi r_2.B, vi r_2.C, vi r_2.D], .bool r_3]) rfl rfl) ?_
 refine sq 14 rfl rfl (Y_extract (v := .agg #[vi r_2.A, vi r_2.B, vi r_2.C, vi r_2.D]) rfl rfl rfl) ?_
 refine sq 15 rfl rfl (Y_extract (v := .bool r_3) rfl rfl rfl) ?_
 refine ss 6 rfl rfl (Ys_alloc (T := 42) (cs := [vi 0, vi 0, vi 0, vi 0]) (m := 4) hS4 k_zero_42 rfl rfl rfl) ?_
 rintro _ w_4 ⟨b3, rfl, hS5⟩
 have hS5 : ST w0 [] _ [⟨aD b, 44, [vi x.Num.A, vi x.Num.B, vi x.Num.C, vi x.Num.D, vi x.Exp], 5⟩, ⟨aD b1, 44, [vi y.Num.A, vi y.Num.B, vi y.Num.C, vi y.Num.D, vi y.Exp], 5⟩, ⟨aD b2, 44, [vi 0, vi 0, vi 0, vi 0, vi 0], 5⟩, ⟨aD b3, 42, [vi 0, vi 0, vi 0, vi 0], 4⟩] [] := hS5
 refine ss0 rfl rfl (Ys_store (i := 3) (s := 4) (B := aD b3) (T' := 42) (v := .agg #[vi r_2.A, vi r_2.B, vi r_2.C, vi r_2.D]) (vs := [vi r_2.A, vi r_2.B, vi r_2.C, vi r_2.D]) (k := 0) (cs' := [vi r_2.A, vi r_2.B, vi r_2.C, vi r_2.D]) hS5 k_sz_42_4 rfl rfl rfl rfl rfl rfl rfl (Nat.le_of_ble_eq_true rfl) rfl rfl) ?_
 rintro _ w_5 ⟨rfl, hS6⟩
 have hS6 : ST w0 [] _ [⟨aD b, 44, [vi x.Num.A, vi x.Num.B, vi x.Num.C, vi x.Num.D, vi x.Exp], 5⟩, ⟨aD b1, 44, [vi y.Num.A, vi y.Num.B, vi y.Num.C, vi y.Num.D, vi y.Exp], 5⟩, ⟨aD b2, 44, [vi 0, vi 0, vi 0, vi 0, vi 0], 5⟩, ⟨aD b3, 42, [vi r_2.A, vi r_2.B, vi r_2.C, vi r_2.D], 4⟩] [] := hS6
 refine sq 7 rfl rfl (Y_assign (v := .bool r_3) rfl rfl) ?_
 refine rw_nil ?_
 refine cw_seq ?_
 refine cw_seq ?_
 refine cw_region ?_
 refine sq 16 rfl rfl (Y_loadA (B := aD b) (i := 0) (cs := [vi x.Num.A, vi x.Num.B, vi x.Num.C, vi x.Num.D, vi x.Exp]) (vs := [vi x.Num.A, vi x.Num.B, vi x.Num.C, vi x.Num.D, vi x.Exp]) k_ag_44 k_sz_44_5 rfl rfl (hS6.cf (i := 0) rfl) rfl rfl) ?_
 obtain ⟨r_4, hc1, hF⟩ := bind_inv hF
 refine sc 17 rfl rfl (Yc_func (g := 53) (vs := [.agg #[vi x.Num.A, vi x.Num.B, vi x.Num.C, vi x.Num.D, vi x.Exp]]) k_call_53 rfl (mc rfl mn) (c_impl_IsValidDyadic x _  (hS6.inn0 [] rfl) hc1)) ?_
 rintro _ w_6 ⟨rfl, hd1⟩
 have hS7 := hS6.out00 hd1
 have hS7 : ST w0 [] _ [⟨aD b, 44, [vi x.Num.A, vi x.Num.B, vi x.Num.C, vi x.Num.D, vi x.Exp], 5⟩, ⟨aD b1, 44, [vi y.Num.A, vi y.Num.B, vi y.Num.C, vi y.Num.D, vi y.Exp], 5⟩, ⟨aD b2, 44, [vi 0, vi 0, vi 0, vi 0, vi 0], 5⟩, ⟨aD b3, 42, [vi r_2.A, vi r_2.B, vi r_2.C, vi r_2.D], 4⟩] [] := hS7
 refine sq 18 rfl rfl (Y_not (p := r_4) rfl rfl) ?_
 refine sq 19 rfl rfl (Y_move (v := .bool (!r_4)) rfl rfl) ?_
 refine sgq 20 (B := (!(!r_4))) (v := .agg #[vi y.Num.A, vi y.Num.B, vi y.Num.C, vi y.Num.D, vi y.Exp]) rfl rfl (wt_f (gd_of (t := 19) (by kernel_rfl) rfl)) (fun hg => (Y_loadA (B := aD b1) (i := 0) (cs := [vi y.Num.A, vi y.Num.B, vi y.Num.C, vi y.Num.D, vi y.Exp]) (vs := [vi y.Num.A, vi y.Num.B, vi y.Num.C, vi y.Num.D, vi y.Exp]) k_ag_44 k_sz_44_5 rfl rfl (hS7.cf (i := 1) rfl) rfl rfl)) ?_
 obtain ⟨r_5, hc2, hF⟩ := bind_inv hF
 refine sgc 21 (B := (!(!r_4))) (v := .bool r_5) (F := hS7.fn) rfl rfl (wt_f (gd_of (t := 19) (by kernel_rfl) rfl)) hS7 (fun hg1 => (Yc_func (g := 53) (vs := [.agg #[vi y.Num.A, vi y.Num.B, vi y.Num.C, vi y.Num.D, vi y.Exp]]) k_call_53 rfl (mc (gv_of (B := (!(!r_4))) (v := .agg #[vi y.Num.A, vi y.Num.B, vi y.Num.C, vi y.Num.D, vi y.Exp]) hg1) mn) (CV.mono (c_impl_IsValidDyadic y _  (hS7.inn0 [] rfl) (gb_inv hc2 hg1)) (by rintro _ _ ⟨rfl, h⟩; exact ⟨rfl, hS7.out00 h⟩)))) ?_
 rintro w_7 hS8
 have hS8 : ST _ _ w_7 _ _ := hS8
 refine sgq 22 (B := (!(!r_4))) (v := .bool (!r_5)) rfl rfl (wt_f (gd_of (t := 19) (by kernel_rfl) rfl)) (fun hg2 => (Y_not (p := r_5) rfl (gv_of (B := (!(!r_4))) (v := .bool r_5) hg2))) ?_
 refine sq 23 rfl rfl (Y_or (b := (!r_4)) (z := (!r_5)) rfl rfl rfl rfl) ?_
 refine sq 24 rfl rfl (Y_move (v := .bool ((!r_4) || (!r_5))) rfl rfl) ?_
 refine sgq 25 (B := (!((!r_4) || (!r_5)))) (v := .bool r_3) rfl rfl (wt_f (gd_of (t := 24) (by kernel_rfl) rfl)) (fun hg3 => (Y_move (v := .bool r_3) rfl rfl)) ?_
 refine sgq 26 (B := (!((!r_4) || (!r_5)))) (v := .bool (!r_3)) rfl rfl (wt_f (gd_of (t := 24) (by kernel_rfl) rfl)) (fun hg4 => (Y_not (p := r_3) rfl (gv_of (B := (!((!r_4) || (!r_5)))) (v := .bool r_3) hg4))) ?_
 refine sq 27 rfl rfl (Y_or (b := ((!r_4) || (!r_5))) (z := (!r_3)) rfl rfl rfl rfl) ?_
 refine rw_nil ?_
 refine cw_cond (b := (((!r_4) || (!r_5)) || (!r_3))) rfl (fun hb => ?_) (fun hb => ?_)
 ·skip
  have hF1 := ct hF hb
  refine cw_seq ?_
  refine cw_region ?_
  refine sq 28 rfl rfl (Y_buildS (zs := [vi 0, vi 0, vi 0, vi 0, vi 0]) (vs := []) (cs := [vi 0, vi 0, vi 0, vi 0, vi 0]) k_pl_44 k_zero_44 rfl mpn rfl) ?_
  refine ss0 rfl rfl (Ys_store (i := 2) (s := 5) (B := aD b2) (T' := 44) (v := .agg #[vi 0, vi 0, vi 0, vi 0, vi 0]) (vs := [vi 0, vi 0, vi 0, vi 0, vi 0]) (k := 0) (cs' := [vi 0, vi 0, vi 0, vi 0, vi 0]) hS8 k_sz_44_5 rfl rfl rfl rfl rfl rfl rfl (Nat.le_of_ble_eq_true rfl) rfl rfl) ?_
  rintro _ w_8 ⟨rfl, hS9⟩
  have hS9 : ST w0 [] _ [⟨aD b, 44, [vi x.Num.A, vi x.Num.B, vi x.Num.C, vi x.Num.D, vi x.Exp], 5⟩, ⟨aD b1, 44, [vi y.Num.A, vi y.Num.B, vi y.Num.C, vi y.Num.D, vi y.Exp], 5⟩, ⟨aD b2, 44, [vi 0, vi 0, vi 0, vi 0, vi 0], 5⟩, ⟨aD b3, 42, [vi r_2.A, vi r_2.B, vi r_2.C, vi r_2.D], 4⟩] [] := hS9
  refine sq 5 rfl rfl (Y_assign (v := .bool false) rfl rfl) ?_
  refine rw_nil ?_
  refine cw_ret ?_
  obtain ⟨rfl, rfl⟩ := pr2 (some_inj hF1)
  exact ret2 Tryd.results28 (v1 := .agg #[vi 0, vi 0, vi 0, vi 0, vi 0]) (resAt_cellA (B := aD b2) (i := 0) (cs := [vi 0, vi 0, vi 0, vi 0, vi 0]) (vs := [vi 0, vi 0, vi 0, vi 0, vi 0]) rfl k_ag_44 k_sz_44_5 (hS9.cf (i := 2) rfl) rfl rfl) (v2 := .bool false) (resAt_tmp rfl) ⟨rfl, (ST.subR (R' := []) (hS9.sel [] rfl rfl) (fun _ h => by cases h))⟩
 ·skip
  have hF2 := cf' hF hb
  refine cw_skip ?_
  refine cw_seq ?_
  refine cw_region ?_
  refine sq 29 rfl rfl (Y_loadA (B := aD b3) (i := 0) (cs := [vi r_2.A, vi r_2.B, vi r_2.C, vi r_2.D]) (vs := [vi r_2.A, vi r_2.B, vi r_2.C, vi r_2.D]) k_ag_42 k_sz_42_4 rfl rfl (hS8.cf (i := 3) rfl) rfl rfl) ?_
  refine sq 30 rfl rfl (Y_fieldAddr (B := aD b) (i := 0) (s := 0) k_fd_44_1_4_3 k_sz_3_1 rfl rfl) ?_
  refine sq 31 rfl rfl (Y_load1 (B := aD b) (i := 4) (cs := [vi x.Num.A, vi x.Num.B, vi x.Num.C, vi x.Num.D, vi x.Exp]) (v := vi x.Exp) k_sc_3 rfl rfl (hS8.cf (i := 0) rfl) rfl) ?_
  refine sq 32 rfl rfl (Y_fieldAddr (B := aD b1) (i := 0) (s := 0) k_fd_44_1_4_3 k_sz_3_1 rfl rfl) ?_
  refine sq 33 rfl rfl (Y_load1 (B := aD b1) (i := 4) (cs := [vi y.Num.A, vi y.Num.B, vi y.Num.C, vi y.Num.D, vi y.Exp]) (v := vi y.Exp) k_sc_3 rfl rfl (hS8.cf (i := 1) rfl) rfl) ?_
  refine sq 34 rfl rfl (Y_add (k := .i64) (a := x.Exp) (b := y.Exp) rfl rfl rfl) ?_
  obtain ⟨⟨r_6, r_7⟩, hc3, hF2⟩ := bind_inv hF2
  refine sc 35 rfl rfl (Yc_func (g := 54) (vs := [.agg #[vi r_2.A, vi r_2.B, vi r_2.C, vi r_2.D], vi (i64.wrap (x.Exp + y.Exp))]) k_call_54 rfl (mc rfl (mc rfl mn)) (c_impl_DyadicOf r_2 (i64.wrap (x.Exp + y.Exp)) _  (hS8.inn0 [] rfl) hc3)) ?_
  rintro _ w_9 ⟨rfl, hd2⟩
  have hS10 := hS8.out00 hd2
  have hS10 : ST w0 [] _ [⟨aD b, 44, [vi x.Num.A, vi x.Num.B, vi x.Num.C, vi x.Num.D, vi x.Exp], 5⟩, ⟨aD b1, 44, [vi y.Num.A, vi y.Num.B, vi y.Num.C, vi y.Num.D, vi y.Exp], 5⟩, ⟨aD b2, 44, [vi 0, vi 0, vi 0, vi 0, vi 0], 5⟩, ⟨aD b3, 42, [vi r_2.A, vi r_2.B, vi r_2.C, vi r_2.D], 4⟩] [] := hS10
  refine sq 36 rfl rfl (Y_extract (v := .agg #[vi r_6.Num.A, vi r_6.Num.B, vi r_6.Num.C, vi r_6.Num.D, vi r_6.Exp]) rfl rfl rfl) ?_
  refine sq 37 rfl rfl (Y_extract (v := .bool r_7) rfl rfl rfl) ?_
  refine ss0 rfl rfl (Ys_store (i := 2) (s := 5) (B := aD b2) (T' := 44) (v := .agg #[vi r_6.Num.A, vi r_6.Num.B, vi r_6.Num.C, vi r_6.Num.D, vi r_6.Exp]) (vs := [vi r_6.Num.A, vi r_6.Num.B, vi r_6.Num.C, vi r_6.Num.D, vi r_6.Exp]) (k := 0) (cs' := [vi r_6.Num.A, vi r_6.Num.B, vi r_6.Num.C, vi r_6.Num.D, vi r_6.Exp]) hS10 k_sz_44_5 rfl rfl rfl rfl rfl rfl rfl (Nat.le_of_ble_eq_true rfl) rfl rfl) ?_
  rintro _ w_10 ⟨rfl, hS11⟩
  have hS11 : ST w0 [] _ [⟨aD b, 44, [vi x.Num.A, vi x.Num.B, vi x.Num.C, vi x.Num.D, vi x.Exp], 5⟩, ⟨aD b1, 44, [vi y.Num.A, vi y.Num.B, vi y.Num.C, vi y.Num.D, vi y.Exp], 5⟩, ⟨aD b2, 44, [vi r_6.Num.A, vi r_6.Num.B, vi r_6.Num.C, vi r_6.Num.D, vi r_6.Exp], 5⟩, ⟨aD b3, 42, [vi r_2.A, vi r_2.B, vi r_2.C, vi r_2.D], 4⟩] [] := hS11
  refine sq 5 rfl rfl (Y_assign (v := .bool r_7) rfl rfl) ?_
  refine rw_nil ?_
  refine cw_ret ?_
  obtain ⟨rfl, rfl⟩ := pr2 (some_inj hF2)
  exact ret2 Tryd.results28 (v1 := .agg #[vi r_6.Num.A, vi r_6.Num.B, vi r_6.Num.C, vi r_6.Num.D, vi r_6.Exp]) (resAt_cellA (B := aD b2) (i := 0) (cs := [vi r_6.Num.A, vi r_6.Num.B, vi r_6.Num.C, vi r_6.Num.D, vi r_6.Exp]) (vs := [vi r_6.Num.A, vi r_6.Num.B, vi r_6.Num.C, vi r_6.Num.D, vi r_6.Exp]) rfl k_ag_44 k_sz_44_5 (hS11.cf (i := 2) rfl) rfl rfl) (v2 := .bool r_7) (resAt_tmp rfl) ⟨rfl, (ST.subR (R' := []) (hS11.sel [] rfl rfl) (fun _ h => by cases h))⟩

theorem c_impl_MulRootTwo (x : TRing)  (w0 : World)  (hS : ST w0 [] w0 [] []) {r_ : TRing} {r_1 : Bool} (hF : F_impl_MulRootTwo x = some (r_, r_1)) :
  CV Tryd.prog 89 #[.agg #[vi x.A, vi x.B, vi x.C, vi x.D]] w0 (fun v w' => v = .tuple #[.agg #[vi r_.A, vi r_.B, vi r_.C, vi r_.D], .bool r_1] ∧ ST w0 [] w' [] []) := by
 unfold F_impl_MulRootTwo at hF
 refine cv_of_cw 30 Tryd.func89 rfl Tryd.ntmps89 rfl ?_
 refine cw_seq ?_
 refine cw_region ?_
 refine ss 1 rfl rfl (Ys_box (T := 42) (v := .agg #[vi x.A, vi x.B, vi x.C, vi x.D]) (cs := [vi x.A, vi x.B, vi x.C, vi x.D]) (m := 4) hS rfl rfl rfl rfl) ?_
 rintro _ w_ ⟨b, rfl, hS1⟩
 refine ss 2 rfl rfl (Ys_alloc (T := 42) (cs := [vi 0, vi 0, vi 0, vi 0]) (m := 4) hS1 k_zero_42 rfl rfl rfl) ?_
 rintro _ w_1 ⟨b1, rfl, hS2⟩
 have hS2 : ST w0 [] _ [⟨aD b, 42, [vi x.A, vi x.B, vi x.C, vi x.D], 4⟩, ⟨aD b1, 42, [vi 0, vi 0, vi 0, vi 0], 4⟩] [] := hS2
 refine sq 3 rfl rfl (Y_assign (v := .bool false) rfl rfl) ?_
 refine rw_nil ?_
 refine cw_seq ?_
 refine cw_region ?_
 refine sq 4 rfl rfl (Y_fieldAddr (B := aD b) (i := 0) (s := 0) k_fd_42_1_1_3 k_sz_3_1 rfl rfl) ?_
 refine sq 5 rfl rfl (Y_load1 (B := aD b) (i := 1) (cs := [vi x.A, vi x.B, vi x.C, vi x.D]) (v := vi x.B) k_sc_3 rfl rfl (hS2.cf (i := 0) rfl) rfl) ?_
 refine sq 6 rfl rfl (Y_fieldAddr (B := aD b) (i := 0) (s := 0) k_fd_42_3_3_3 k_sz_3_1 rfl rfl) ?_
 refine sq 7 rfl rfl (Y_load1 (B := aD b) (i := 3) (cs := [vi x.A, vi x.B, vi x.C, vi x.D]) (v := vi x.D) k_sc_3 rfl rfl (hS2.cf (i := 0) rfl) rfl) ?_
 refine sq 8 rfl rfl (Y_sub (k := .i64) (a := x.B) (b := x.D) rfl rfl rfl) ?_
 refine sq 9 rfl rfl (Y_fieldAddr (B := aD b) (i := 0) (s := 0) k_fd_42_0_0_3 k_sz_3_1 rfl rfl) ?_
 refine sq 10 rfl rfl (Y_load1 (B := aD b) (i := 0) (cs := [vi x.A, vi x.B, vi x.C, vi x.D]) (v := vi x.A) k_sc_3 rfl rfl (hS2.cf (i := 0) rfl) rfl) ?_
 refine sq 11 rfl rfl (Y_fieldAddr (B := aD b) (i := 0) (s := 0) k_fd_42_2_2_3 k_sz_3_1 rfl rfl) ?_
 refine sq 12 rfl rfl (Y_load1 (B := aD b) (i := 2) (cs := [vi x.A, vi x.B, vi x.C, vi x.D]) (v := vi x.C) k_sc_3 rfl rfl (hS2.cf (i := 0) rfl) rfl) ?_
 refine sq 13 rfl rfl (Y_add (k := .i64) (a := x.A) (b := x.C) rfl rfl rfl) ?_
 refine sq 14 rfl rfl (Y_fieldAddr (B := aD b) (i := 0) (s := 0) k_fd_42_1_1_3 k_sz_3_1 rfl rfl) ?_
 refine sq 15 rfl rfl (Y_load1 (B := aD b) (i := 1) (cs := [vi x.A, vi x.B, vi x.C, vi x.D]) (v := vi x.B) k_sc_3 rfl rfl (hS2.cf (i := 0) rfl) rfl) ?_
 refine sq 16 rfl rfl (Y_fieldAddr (B := aD b) (i := 0) (s := 0) k_fd_42_3_3_3 k_sz_3_1 rfl rfl) ?_
 refine sq 17 rfl rfl (Y_load1 (B := aD b) (i := 3) (cs := [vi x.A, vi x.B, vi x.C, vi x.D]) (v := vi x.D) k_sc_3 rfl rfl (hS2.cf (i := 0) rfl) rfl) ?_
 refine sq 18 rfl rfl (Y_add (k := .i64) (a := x.B) (b := x.D) rfl rfl rfl) ?_
 refine sq 19 rfl rfl (Y_fieldAddr (B := aD b) (i := 0) (s := 0) k_fd_42_2_2_3 k_sz_3_1 rfl rfl) ?_
 refine sq 20 rfl rfl (Y_load1 (B := aD b) (i := 2) (cs := [vi x.A, vi x.B, vi x.C, vi x.D]) (v := vi x.C) k_sc_3 rfl rfl (hS2.cf (i := 0) rfl) rfl) ?_
 refine sq 21 rfl rfl (Y_fieldAddr (B := aD b) (i := 0) (s := 0) k_fd_42_0_0_3 k_sz_3_1 rfl rfl) ?_
 refine sq 22 rfl rfl (Y_load1 (B := aD b) (i := 0) (cs := [vi x.A, vi x.B, vi x.C, vi x.D]) (v := vi x.A) k_sc_3 rfl rfl (hS2.cf (i := 0) rfl) rfl) ?_
 refine sq 23 rfl rfl (Y_sub (k := .i64) (a := x.C) (b := x.A) rfl rfl rfl) ?_
 refine sq 24 rfl rfl (Y_buildS (zs := [vi 0, vi 0, vi 0, vi 0]) (vs := [(0, vi (i64.wrap (x.B - x.D))), (1, vi (i64.wrap (x.A + x.C))), (2, vi (i64.wrap (x.B + x.D))), (3, vi (i64.wrap (x.C - x.A)))]) (cs := [vi (i64.wrap (x.B - x.D)), vi (i64.wrap (x.A + x.C)), vi (i64.wrap (x.B + x.D)), vi (i64.wrap (x.C - x.A))]) k_pl_42 k_zero_42 rfl (mpc rfl (mpc rfl (mpc rfl (mpc rfl mpn)))) rfl) ?_
 refine sq 25 rfl rfl (Y_loadA (B := aD b) (i := 0) (cs := [vi x.A, vi x.B, vi x.C, vi x.D]) (vs := [vi x.A, vi x.B, vi x.C, vi x.D]) k_ag_42 k_sz_42_4 rfl rfl (hS2.cf (i := 0) rfl) rfl rfl) ?_
 refine ss 26 rfl rfl (Ys_bslice (s := 4) (len := 1) (vs := [(0, .agg #[vi x.A, vi x.B, vi x.C, vi x.D])]) (cs := [vi x.A, vi x.B, vi x.C, vi x.D]) (zs := [vi 0, vi 0, vi 0, vi 0]) (m := 4) hS2 k_sl_113_42 k_sz_42_4 k_zc_42 rfl (mpc rfl mpn) rfl rfl rfl (by kernel_rfl) (by kernel_rfl) rfl) ?_
 rintro _ w_2 ⟨b2, rfl, hS3⟩
 have hS3 : ST w0 [] _ [⟨aD b, 42, [vi x.A, vi x.B, vi x.C, vi x.D], 4⟩, ⟨aD b1, 42, [vi 0, vi 0, vi 0, vi 0], 4⟩, ⟨aD b2, 42, ([x].flatMap enc_Ring), 1 * 4⟩] [] := hS3
 obtain ⟨⟨r_2, r_3⟩, hc, hF⟩ := bind_inv hF
 refine sc 27 rfl rfl (Yc_func (g := 73) (vs := [.agg #[vi (i64.wrap (x.B - x.D)), vi (i64.wrap (x.A + x.C)), vi (i64.wrap (x.B + x.D)), vi (i64.wrap (x.C - x.A))], .slice (aD b2) 1 1]) k_call_73 rfl (mc rfl (mc rfl mn)) (c_impl_ringIf (TRing.mk (i64.wrap (x.B - x.D)) (i64.wrap (x.A + x.C)) (i64.wrap (x.B + x.D)) (i64.wrap (x.C - x.A))) [x] (aD b2) 1 1 _ rfl (hS3.inn [false, false, true] rfl [] rfl) hc)) ?_
 rintro _ w_3 ⟨rfl, hd⟩
 have hS4 := hS3.out [false, false, true] rfl hd
 have hS4 : ST w0 [] _ [⟨aD b, 42, [vi x.A, vi x.B, vi x.C, vi x.D], 4⟩, ⟨aD b1, 42, [vi 0, vi 0, vi 0, vi 0], 4⟩] [] := hS4
 refine sq 28 rfl rfl (Y_extract (v := .agg #[vi r_2.A, vi r_2.B, vi r_2.C, vi r_2.D]) rfl rfl rfl) ?_
 refine sq 29 rfl rfl (Y_extract (v := .bool r_3) rfl rfl rfl) ?_
 refine ss0 rfl rfl (Ys_store (i := 1) (s := 4) (B := aD b1) (T' := 42) (v := .agg #[vi r_2.A, vi r_2.B, vi r_2.C, vi r_2.D]) (vs := [vi r_2.A, vi r_2.B, vi r_2.C, vi r_2.D]) (k := 0) (cs' := [vi r_2.A, vi r_2.B, vi r_2.C, vi r_2.D]) hS4 k_sz_42_4 rfl rfl rfl rfl rfl rfl rfl (Nat.le_of_ble_eq_true rfl) rfl rfl) ?_
 rintro _ w_4 ⟨rfl, hS5⟩
 have hS5 : ST w0 [] _ [⟨aD b, 42, [vi x.A, vi x.B, vi x.C, vi x.D], 4⟩, ⟨aD b1, 42, [vi r_2.A, vi r_2.B, vi r_2.C, vi r_2.D], 4⟩] [] := hS5
 refine sq 3 rfl rfl (Y_assign (v := .bool r_3) rfl rfl) ?_
 refine rw_nil ?_
 refine cw_ret ?_
 obtain ⟨rfl, rfl⟩ := pr2 (some_inj hF)
 exact ret2 Tryd.results89 (v1 := .agg #[vi r_2.A, vi r_2.B, vi r_2.C, vi r_2.D]) (resAt_cellA (B := aD b1) (i := 0) (cs := [vi r_2.A, vi r_2.B, vi r_2.C, vi r_2.D]) (vs := [vi r_2.A, vi r_2.B, vi r_2.C, vi r_2.D]) rfl k_ag_42 k_sz_42_4 (hS5.cf (i := 1) rfl) rfl rfl) (v2 := .bool r_3) (resAt_tmp rfl) ⟨rfl, (ST.subR (R' := []) (hS5.sel [] rfl rfl) (fun _ h => by cases h))⟩

theorem c_impl_raised (x : TDyadic) (exp : Int)  (w0 : World)  (hS : ST w0 [] w0 [] []) {r_ : TRing} {r_1 : Bool} (hF : F_impl_raised x exp = some (r_, r_1)) :
  CV Tryd.prog 77 #[.agg #[vi x.Num.A, vi x.Num.B, vi x.Num.C, vi x.Num.D, vi x.Exp], vi exp] w0 (fun v w' => v = .tuple #[.agg #[vi r_.A, vi r_.B, vi r_.C, vi r_.D], .bool r_1] ∧ ST w0 [] w' [] []) := by
 unfold F_impl_raised at hF
 refine cv_of_cw 28 Tryd.func77 rfl Tryd.ntmps77 rfl ?_
 refine cw_seq ?_
 refine cw_region ?_
 refine ss 2 rfl rfl (Ys_box (T := 44) (v := .agg #[vi x.Num.A, vi x.Num.B, vi x.Num.C, vi x.Num.D, vi x.Exp]) (cs := [vi x.Num.A, vi x.Num.B, vi x.Num.C, vi x.Num.D, vi x.Exp]) (m := 5) hS rfl rfl rfl rfl) ?_
 rintro _ w_ ⟨b, rfl, hS1⟩
 refine ss 4 rfl rfl (Ys_alloc (T := 42) (cs := [vi 0, vi 0, vi 0, vi 0]) (m := 4) hS1 k_zero_42 rfl rfl rfl) ?_
 rintro _ w_1 ⟨b1, rfl, hS2⟩
 have hS2 : ST w0 [] _ [⟨aD b, 44, [vi x.Num.A, vi x.Num.B, vi x.Num.C, vi x.Num.D, vi x.Exp], 5⟩, ⟨aD b1, 42, [vi 0, vi 0, vi 0, vi 0], 4⟩] [] := hS2
 refine sq 5 rfl rfl (Y_assign (v := .bool false) rfl rfl) ?_
 refine rw_nil ?_
 refine cw_seq ?_
 refine cw_region ?_
 refine sq 9 rfl rfl (Y_fieldAddr (B := aD b) (i := 0) (s := 3) k_fd_44_0_0_42 k_sz_42_4 rfl rfl) ?_
 refine sq 10 rfl rfl (Y_loadA (B := aD b) (i := 0) (cs := [vi x.Num.A, vi x.Num.B, vi x.Num.C, vi x.Num.D, vi x.Exp]) (vs := [vi x.Num.A, vi x.Num.B, vi x.Num.C, vi x.Num.D]) k_ag_42 k_sz_42_4 rfl rfl (hS2.cf (i := 0) rfl) rfl rfl) ?_
 refine ss 6 rfl rfl (Ys_alloc (T := 42) (cs := [vi 0, vi 0, vi 0, vi 0]) (m := 4) hS2 k_zero_42 rfl rfl rfl) ?_
 rintro _ w_2 ⟨b2, rfl, hS3⟩
 have hS3 : ST w0 [] _ [⟨aD b, 44, [vi x.Num.A, vi x.Num.B, vi x.Num.C, vi x.Num.D, vi x.Exp], 5⟩, ⟨aD b1, 42, [vi 0, vi 0, vi 0, vi 0], 4⟩, ⟨aD b2, 42, [vi 0, vi 0, vi 0, vi 0], 4⟩] [] := hS3
 refine ss0 rfl rfl (Ys_store (i := 2) (s := 4) (B := aD b2) (T' := 42) (v := .agg #[vi x.Num.A, vi x.Num.B, vi x.Num.C, vi x.Num.D]) (vs := [vi x.Num.A, vi x.Num.B, vi x.Num.C, vi x.Num.D]) (k := 0) (cs' := [vi x.Num.A, vi x.Num.B, vi x.Num.C, vi x.Num.D]) hS3 k_sz_42_4 rfl rfl rfl rfl rfl rfl rfl (Nat.le_of_ble_eq_true rfl) rfl rfl) ?_
 rintro _ w_3 ⟨rfl, hS4⟩
 have hS4 : ST w0 [] _ [⟨aD b, 44, [vi x.Num.A, vi x.Num.B, vi x.Num.C, vi x.Num.D, vi x.Exp], 5⟩, ⟨aD b1, 42, [vi 0, vi 0, vi 0, vi 0], 4⟩, ⟨aD b2, 42, [vi x.Num.A, vi x.Num.B, vi x.Num.C, vi x.Num.D], 4⟩] [] := hS4
 refine sq 7 rfl rfl (Y_assign (v := .bool true) rfl rfl) ?_
 refine rw_nil ?_
 refine cw_seq ?_
 refine cw_seq ?_
 refine cw_region ?_
 refine sq 11 rfl rfl (Y_fieldAddr (B := aD b) (i := 0) (s := 0) k_fd_44_1_4_3 k_sz_3_1 rfl rfl) ?_
 refine sq 12 rfl rfl (Y_load1 (B := aD b) (i := 4) (cs := [vi x.Num.A, vi x.Num.B, vi x.Num.C, vi x.Num.D, vi x.Exp]) (v := vi x.Exp) k_sc_3 rfl rfl (hS4.cf (i := 0) rfl) rfl) ?_
 refine sq 8 rfl rfl (Y_assign (v := vi x.Exp) rfl rfl) ?_
 refine rw_nil ?_
 obtain ⟨z, hz, hF1⟩ := bind_inv hF
 refine cw_block ?_
 refine cw_loop (fun k f w => ∃ (A : Int) (B : Int) (C : Int) (D : Int) (ok : Bool) (k_ : Int), FF f [(1, vi exp), (4, pt (aD b1) 0), (6, pt (aD b2) 0), (7, .bool ok), (8, vi k_)] ∧ ST w0 [] w [⟨aD b1, 42, [vi 0, vi 0, vi 0, vi 0], 4⟩, ⟨aD b2, 42, [vi A, vi B, vi C, vi D], 4⟩] [] ∧ whX (F_impl_raised_l1 exp) k (A, B, C, D, ok, k_) = some z) fuel ⟨x.Num.A, x.Num.B, x.Num.C, x.Num.D, true, x.Exp, (FF.cons rfl (FF.cons rfl (FF.cons rfl (FF.cons rfl (FF.cons rfl FF.nil))))), (hS4.sel [1, 2] rfl rfl), hz⟩ ?_
 rintro k_1 f w ⟨A, B, C, D, ok, k_, hf, hS5, hL⟩
 obtain ⟨k_2, y, rfl, hb, hL1⟩ := whX_go hL
 unfold F_impl_raised_l1 at hb
 refine cw_seq ?_
 refine cw_seq ?_
 refine cw_region ?_
 refine sq 13 rfl rfl (Y_move (v := vi k_) rfl (hf.get 8 4 rfl)) ?_
 refine sq 14 rfl rfl (Y_move (v := vi exp) rfl (hf.get 1 0 rfl)) ?_
 refine sq 15 rfl rfl (Y_lt (k := .i64) (a := k_) (b := exp) rfl rfl rfl) ?_
 refine sq 16 rfl rfl (Y_move (v := .bool (decide (k_ < exp))) rfl rfl) ?_
 refine sgq 17 (B := (decide (k_ < exp))) (v := .bool ok) rfl rfl (wt_t (gd_of (t := 16) (by kernel_rfl) rfl)) (fun hg => (Y_move (v := .bool ok) rfl (hf.get 7 3 rfl))) ?_
 refine sq 18 rfl rfl (Y_and (b := (decide (k_ < exp))) (z := ok) rfl rfl rfl rfl) ?_
 refine rw_nil ?_
 refine cw_cond (b := ((decide (k_ < exp)) && ok)) rfl (fun hb1 => ?_) (fun hb1 => ?_)
 ·skip
  have hF2 := ct hb hb1
  refine cw_skip ?_
  refine cw_seq ?_
  refine cw_block ?_
  refine cw_region ?_
  refine sq 22 rfl rfl (Y_loadA (B := aD b2) (i := 0) (cs := [vi A, vi B, vi C, vi D]) (vs := [vi A, vi B, vi C, vi D]) k_ag_42 k_sz_42_4 rfl (hf.get 6 2 rfl) (hS5.cf (i := 1) rfl) rfl rfl) ?_
  obtain ⟨⟨r_2, r_3⟩, hc, hF2⟩ := bind_inv hF2
  refine sc 23 rfl rfl (Yc_func (g := 89) (vs := [.agg #[vi A, vi B, vi C, vi D]]) k_call_89 rfl (mc rfl mn) (c_impl_MulRootTwo (TRing.mk A B C D) _  (hS5.inn0 [] rfl) hc)) ?_
  rintro _ w_4 ⟨rfl, hd⟩
  have hS6 := hS5.out00 hd
  have hS6 : ST w0 [] _ [⟨aD b1, 42, [vi 0, vi 0, vi 0, vi 0], 4⟩, ⟨aD b2, 42, [vi A, vi B, vi C, vi D], 4⟩] [] := hS6
  refine sq 21 rfl rfl (Y_move (v := .tuple #[.agg #[vi r_2.A, vi r_2.B, vi r_2.C, vi r_2.D], .bool r_3]) rfl rfl) ?_
  refine sq 24 rfl rfl (Y_extract (v := .agg #[vi r_2.A, vi r_2.B, vi r_2.C, vi r_2.D]) rfl rfl rfl) ?_
  refine sq 25 rfl rfl (Y_extract (v := .bool r_3) rfl rfl rfl) ?_
  refine ss0 rfl rfl (Ys_store (i := 1) (s := 4) (B := aD b2) (T' := 42) (v := .agg #[vi r_2.A, vi r_2.B, vi r_2.C, vi r_2.D]) (vs := [vi r_2.A, vi r_2.B, vi r_2.C, vi r_2.D]) (k := 0) (cs' := [vi r_2.A, vi r_2.B, vi r_2.C, vi r_2.D]) hS6 k_sz_42_4 rfl (hf.get 6 2 rfl) rfl rfl rfl rfl rfl (Nat.le_of_ble_eq_true rfl) rfl rfl) ?_
  rintro _ w_5 ⟨rfl, hS7⟩
  have hS7 : ST w0 [] _ [⟨aD b1, 42, [vi 0, vi 0, vi 0, vi 0], 4⟩, ⟨aD b2, 42, [vi r_2.A, vi r_2.B, vi r_2.C, vi r_2.D], 4⟩] [] := hS7
  refine sq 7 rfl rfl (Y_assign (v := .bool r_3) rfl rfl) ?_
  refine rw_nil ?_
  refine cw_region ?_
  refine sq 19 rfl rfl (Y_move (v := vi k_) rfl (hf.get 8 4 rfl)) ?_
  refine sq 20 rfl rfl (Y_add (k := .i64) (a := k_) (b := 1) rfl rfl rfl) ?_
  refine sq 8 rfl rfl (Y_assign (v := vi (i64.wrap (k_ + 1))) rfl rfl) ?_
  refine rw_nil ?_
  obtain rfl := some_inj hF2
  exact ⟨k_2, Nat.lt_succ_self _, r_2.A, r_2.B, r_2.C, r_2.D, r_3, (i64.wrap (k_ + 1)), (FF.cons (hf.get 1 0 rfl) (FF.cons (hf.get 4 1 rfl) (FF.cons (hf.get 6 2 rfl) (FF.cons rfl (FF.cons rfl FF.nil))))), (hS7.sel [0, 1] rfl rfl), hL1⟩
 ·skip
  have hF3 := cf' hb hb1
  refine cw_exit rfl ?_
  obtain rfl := some_inj hF3
  obtain rfl := some_inj hL1
  refine cw_seq ?_
  refine cw_region ?_
  refine sq 26 rfl rfl (Y_loadA (B := aD b2) (i := 0) (cs := [vi A, vi B, vi C, vi D]) (vs := [vi A, vi B, vi C, vi D]) k_ag_42 k_sz_42_4 rfl (hf.get 6 2 rfl) (hS5.cf (i := 1) rfl) rfl rfl) ?_
  refine sq 27 rfl rfl (Y_move (v := .bool ok) rfl (hf.get 7 3 rfl)) ?_
  refine ss0 rfl rfl (Ys_store (i := 0) (s := 4) (B := aD b1) (T' := 42) (v := .agg #[vi A, vi B, vi C, vi D]) (vs := [vi A, vi B, vi C, vi D]) (k := 0) (cs' := [vi A, vi B, vi C, vi D]) hS5 k_sz_42_4 rfl (hf.get 4 1 rfl) rfl rfl rfl rfl rfl (Nat.le_of_ble_eq_true rfl) rfl rfl) ?_
  rintro _ w_6 ⟨rfl, hS8⟩
  have hS8 : ST w0 [] _ [⟨aD b1, 42, [vi A, vi B, vi C, vi D], 4⟩, ⟨aD b2, 42, [vi A, vi B, vi C, vi D], 4⟩] [] := hS8
  refine sq 5 rfl rfl (Y_assign (v := .bool ok) rfl rfl) ?_
  refine rw_nil ?_
  refine cw_ret ?_
  obtain ⟨rfl, rfl⟩ := pr2 (some_inj hF1)
  exact ret2 Tryd.results77 (v1 := .agg #[vi A, vi B, vi C, vi D]) (resAt_cellA (B := aD b1) (i := 0) (cs := [vi A, vi B, vi C, vi D]) (vs := [vi A, vi B, vi C, vi D]) (hf.get 4 1 rfl) k_ag_42 k_sz_42_4 (hS8.cf (i := 0) rfl) rfl rfl) (v2 := .bool ok) (resAt_tmp rfl) ⟨rfl, (ST.subR (R' := []) (hS8.sel [] rfl rfl) (fun _ h => by cases h))⟩

theorem c_impl_combined (x : TDyadic) (y : TDyadic) (operation : TRing → TRing → Option (TRing × Bool)) (kf : Nat) (caps : Array Value) (Rf : List Ro) (w0 : World) (hk : callB Tryd.prog kf = true) (hp : ∀ (w : World), ST w [] w [] Rf → ∀ (x1 : TRing) (x2 : TRing) (y2 : TRing) (y3 : Bool), operation x1 x2 = some (y2, y3) → CV Tryd.prog kf ((.agg #[vi x1.A, vi x1.B, vi x1.C, vi x1.D]) :: (.agg #[vi x2.A, vi x2.B, vi x2.C, vi x2.D]) :: caps.toList).toArray w (fun v w' => v = .tuple #[.agg #[vi y2.A, vi y2.B, vi y2.C, vi y2.D], .bool y3] ∧ ST w [] w' [] [])) (hS : ST w0 [] w0 [] (Rf)) {r_ : TDyadic} {r_1 : Bool} (hF : F_impl_combined x y operation = some (r_, r_1)) :
  CV Tryd.prog 55 #[.agg #[vi x.Num.A, vi x.Num.B, vi x.Num.C, vi x.Num.D, vi x.Exp], .agg #[vi y.Num.A, vi y.Num.B, vi y.Num.C, vi y.Num.D, vi y.Exp], .func (.func kf) #[] caps] w0 (fun v w' => v = .tuple #[.agg #[vi r_.Num.A, vi r_.Num.B, vi r_.Num.C, vi r_.Num.D, vi r_.Exp], .bool r_1] ∧ ST w0 [] w' [] []) := by
 unfold F_impl_combined at hF
 refine cv_of_cw 64 Tryd.func55 rfl Tryd.ntmps55 rfl ?_
 refine cw_seq ?_
 refine cw_region ?_
 refine ss 3 rfl rfl (Ys_box (T := 44) (v := .agg #[vi x.Num.A, vi x.Num.B, vi x.Num.C, vi x.Num.D, vi x.Exp]) (cs := [vi x.Num.A, vi x.Num.B, vi x.Num.C, vi x.Num.D, vi x.Exp]) (m := 5) hS rfl rfl rfl rfl) ?_
 rintro _ w_ ⟨b, rfl, hS1⟩
 refine ss 4 rfl rfl (Ys_box (T := 44) (v := .agg #[vi y.Num.A, vi y.Num.B, vi y.Num.C, vi y.Num.D, vi y.Exp]) (cs := [vi y.Num.A, vi y.Num.B, vi y.Num.C, vi y.Num.D, vi y.Exp]) (m := 5) hS1 rfl rfl rfl rfl) ?_
 rintro _ w_1 ⟨b1, rfl, hS2⟩
 have hS2 : ST w0 [] _ [⟨aD b, 44, [vi x.Num.A, vi x.Num.B, vi x.Num.C, vi x.Num.D, vi x.Exp], 5⟩, ⟨aD b1, 44, [vi y.Num.A, vi y.Num.B, vi y.Num.C, vi y.Num.D, vi y.Exp], 5⟩] (Rf) := hS2
 refine ss 6 rfl rfl (Ys_alloc (T := 44) (cs := [vi 0, vi 0, vi 0, vi 0, vi 0]) (m := 5) hS2 k_zero_44 rfl rfl rfl) ?_
 rintro _ w_2 ⟨b2, rfl, hS3⟩
 have hS3 : ST w0 [] _ [⟨aD b, 44, [vi x.Num.A, vi x.Num.B, vi x.Num.C, vi x.Num.D, vi x.Exp], 5⟩, ⟨aD b1, 44, [vi y.Num.A, vi y.Num.B, vi y.Num.C, vi y.Num.D, vi y.Exp], 5⟩, ⟨aD b2, 44, [vi 0, vi 0, vi 0, vi 0, vi 0], 5⟩] (Rf) := hS3
 refine sq 7 rfl rfl (Y_assign (v := .bool false) rfl rfl) ?_
 refine rw_nil ?_
 refine cw_seq ?_
 refine cw_seq ?_
 refine cw_region ?_
 refine sq 15 rfl rfl (Y_loadA (B := aD b) (i := 0) (cs := [vi x.Num.A, vi x.Num.B, vi x.Num.C, vi x.Num.D, vi x.Exp]) (vs := [vi x.Num.A, vi x.Num.B, vi x.Num.C, vi x.Num.D, vi x.Exp]) k_ag_44 k_sz_44_5 rfl rfl (hS3.cf (i := 0) rfl) rfl rfl) ?_
 obtain ⟨r_2, hc, hF⟩ := bind_inv hF
 refine sc 16 rfl rfl (Yc_func (g := 53) (vs := [.agg #[vi x.Num.A, vi x.Num.B, vi x.Num.C, vi x.Num.D, vi x.Exp]]) k_call_53 rfl (mc rfl mn) (c_impl_IsValidDyadic x _  (hS3.inn0 [] rfl) hc)) ?_
 rintro _ w_3 ⟨rfl, hd⟩
 have hS4 := hS3.out00 hd
 have hS4 : ST w0 [] _ [⟨aD b, 44, [vi x.Num.A, vi x.Num.B, vi x.Num.C, vi x.Num.D, vi x.Exp], 5⟩, ⟨aD b1, 44, [vi y.Num.A, vi y.Num.B, vi y.Num.C, vi y.Num.D, vi y.Exp], 5⟩, ⟨aD b2, 44, [vi 0, vi 0, vi 0, vi 0, vi 0], 5⟩] (Rf) := hS4
 refine sq 17 rfl rfl (Y_not (p := r_2) rfl rfl) ?_
 refine sq 18 rfl rfl (Y_move (v := .bool (!r_2)) rfl rfl) ?_
 refine sgq 19 (B := (!(!r_2))) (v := .agg #[vi y.Num.A, vi y.Num.B, vi y.Num.C, vi y.Num.D, vi y.Exp]) rfl rfl (wt_f (gd_of (t := 18) (by kernel_rfl) rfl)) (fun hg => (Y_loadA (B := aD b1) (i := 0) (cs := [vi y.Num.A, vi y.Num.B, vi y.Num.C, vi y.Num.D, vi y.Exp]) (vs := [vi y.Num.A, vi y.Num.B, vi y.Num.C, vi y.Num.D, vi y.Exp]) k_ag_44 k_sz_44_5 rfl rfl (hS4.cf (i := 1) rfl) rfl rfl)) ?_
 obtain ⟨r_3, hc1, hF⟩ := bind_inv hF
 refine sgc 20 (B := (!(!r_2))) (v := .bool r_3) (F := hS4.fn) rfl rfl (wt_f (gd_of (t := 18) (by kernel_rfl) rfl)) hS4 (fun hg1 => (Yc_func (g := 53) (vs := [.agg #[vi y.Num.A, vi y.Num.B, vi y.Num.C, vi y.Num.D, vi y.Exp]]) k_call_53 rfl (mc (gv_of (B := (!(!r_2))) (v := .agg #[vi y.Num.A, vi y.Num.B, vi y.Num.C, vi y.Num.D, vi y.Exp]) hg1) mn) (CV.mono (c_impl_IsValidDyadic y _  (hS4.inn0 [] rfl) (gb_inv hc1 hg1)) (by rintro _ _ ⟨rfl, h⟩; exact ⟨rfl, hS4.out00 h⟩)))) ?_
 rintro w_4 hS5
 have hS5 : ST _ _ w_4 _ _ := hS5
 refine sgq 21 (B := (!(!r_2))) (v := .bool (!r_3)) rfl rfl (wt_f (gd_of (t := 18) (by kernel_rfl) rfl)) (fun hg2 => (Y_not (p := r_3) rfl (gv_of (B := (!(!r_2))) (v := .bool r_3) hg2))) ?_
 refine sq 22 rfl rfl (Y_or (b := (!r_2)) (z := (!r_3)) rfl rfl rfl rfl) ?_
 refine rw_nil ?_
 refine cw_cond (b := ((!r_2) || (!r_3))) rfl (fun hb => ?_) (fun hb => ?_)
 ·skip
  have hF1 := ct hF hb
  refine cw_seq ?_
  refine cw_region ?_
  refine sq 23 rfl rfl (Y_buildS (zs := [vi 0, vi 0, vi 0, vi 0, vi 0]) (vs := []) (cs := [vi 0, vi 0, vi 0, vi 0, vi 0]) k_pl_44 k_zero_44 rfl mpn rfl) ?_
  refine ss0 rfl rfl (Ys_store (i := 2) (s := 5) (B := aD b2) (T' := 44) (v := .agg #[vi 0, vi 0, vi 0, vi 0, vi 0]) (vs := [vi 0, vi 0, vi 0, vi 0, vi 0]) (k := 0) (cs' := [vi 0, vi 0, vi 0, vi 0, vi 0]) hS5 k_sz_44_5 rfl rfl rfl rfl rfl rfl rfl (Nat.le_of_ble_eq_true rfl) rfl rfl) ?_
  rintro _ w_5 ⟨rfl, hS6⟩
  have hS6 : ST w0 [] _ [⟨aD b, 44, [vi x.Num.A, vi x.Num.B, vi x.Num.C, vi x.Num.D, vi x.Exp], 5⟩, ⟨aD b1, 44, [vi y.Num.A, vi y.Num.B, vi y.Num.C, vi y.Num.D, vi y.Exp], 5⟩, ⟨aD b2, 44, [vi 0, vi 0, vi 0, vi 0, vi 0], 5⟩] (Rf) := hS6
  refine sq 7 rfl rfl (Y_assign (v := .bool false) rfl rfl) ?_
  refine rw_nil ?_
  refine cw_ret ?_
  obtain ⟨rfl, rfl⟩ := pr2 (some_inj hF1)
  exact ret2 Tryd.results55 (v1 := .agg #[vi 0, vi 0, vi 0, vi 0, vi 0]) (resAt_cellA (B := aD b2) (i := 0) (cs := [vi 0, vi 0, vi 0, vi 0, vi 0]) (vs := [vi 0, vi 0, vi 0, vi 0, vi 0]) rfl k_ag_44 k_sz_44_5 (hS6.cf (i := 2) rfl) rfl rfl) (v2 := .bool false) (resAt_tmp rfl) ⟨rfl, (ST.subR (R' := []) (hS6.sel [] rfl rfl) (fun _ h => by cases h))⟩
 ·skip
  have hF2 := cf' hF hb
  refine cw_skip ?_
  refine cw_seq ?_
  refine cw_region ?_
  refine sq 24 rfl rfl (Y_fieldAddr (B := aD b) (i := 0) (s := 0) k_fd_44_1_4_3 k_sz_3_1 rfl rfl) ?_
  refine sq 25 rfl rfl (Y_load1 (B := aD b) (i := 4) (cs := [vi x.Num.A, vi x.Num.B, vi x.Num.C, vi x.Num.D, vi x.Exp]) (v := vi x.Exp) k_sc_3 rfl rfl (hS5.cf (i := 0) rfl) rfl) ?_
  refine sq 26 rfl rfl (Y_fieldAddr (B := aD b1) (i := 0) (s := 0) k_fd_44_1_4_3 k_sz_3_1 rfl rfl) ?_
  refine sq 27 rfl rfl (Y_load1 (B := aD b1) (i := 4) (cs := [vi y.Num.A, vi y.Num.B, vi y.Num.C, vi y.Num.D, vi y.Exp]) (v := vi y.Exp) k_sc_3 rfl rfl (hS5.cf (i := 1) rfl) rfl) ?_
  refine sq 28 rfl rfl (Y_max2 (k := .i64) (a := x.Exp) (b := y.Exp) rfl rfl rfl) ?_
  refine sq 8 rfl rfl (Y_assign (v := vi (if x.Exp < y.Exp then y.Exp else x.Exp)) rfl rfl) ?_
  refine rw_nil ?_
  refine cw_seq ?_
  refine cw_region ?_
  refine sq 30 rfl rfl (Y_loadA (B := aD b) (i := 0) (cs := [vi x.Num.A, vi x.Num.B, vi x.Num.C, vi x.Num.D, vi x.Exp]) (vs := [vi x.Num.A, vi x.Num.B, vi x.Num.C, vi x.Num.D, vi x.Exp]) k_ag_44 k_sz_44_5 rfl rfl (hS5.cf (i := 0) rfl) rfl rfl) ?_
  refine sq 31 rfl rfl (Y_move (v := vi (if x.Exp < y.Exp then y.Exp else x.Exp)) rfl rfl) ?_
  obtain ⟨⟨r_4, r_5⟩, hc2, hF2⟩ := bind_inv hF2
  refine sc 32 rfl rfl (Yc_func (g := 77) (vs := [.agg #[vi x.Num.A, vi x.Num.B, vi x.Num.C, vi x.Num.D, vi x.Exp], vi (if x.Exp < y.Exp then y.Exp else x.Exp)]) k_call_77 rfl (mc rfl (mc rfl mn)) (c_impl_raised x (if x.Exp < y.Exp then y.Exp else x.Exp) _  (hS5.inn0 [] rfl) hc2)) ?_
  rintro _ w_6 ⟨rfl, hd1⟩
  have hS7 := hS5.out00 hd1
  have hS7 : ST w0 [] _ [⟨aD b, 44, [vi x.Num.A, vi x.Num.B, vi x.Num.C, vi x.Num.D, vi x.Exp], 5⟩, ⟨aD b1, 44, [vi y.Num.A, vi y.Num.B, vi y.Num.C, vi y.Num.D, vi y.Exp], 5⟩, ⟨aD b2, 44, [vi 0, vi 0, vi 0, vi 0, vi 0], 5⟩] (Rf) := hS7
  refine sq 29 rfl rfl (Y_move (v := .tuple #[.agg #[vi r_4.A, vi r_4.B, vi r_4.C, vi r_4.D], .bool r_5]) rfl rfl) ?_
  refine sq 33 rfl rfl (Y_extract (v := .agg #[vi r_4.A, vi r_4.B, vi r_4.C, vi r_4.D]) rfl rfl rfl) ?_
  refine sq 34 rfl rfl (Y_extract (v := .bool r_5) rfl rfl rfl) ?_
  refine ss 9 rfl rfl (Ys_alloc (T := 42) (cs := [vi 0, vi 0, vi 0, vi 0]) (m := 4) hS7 k_zero_42 rfl rfl rfl) ?_
  rintro _ w_7 ⟨b3, rfl, hS8⟩
  have hS8 : ST w0 [] _ [⟨aD b, 44, [vi x.Num.A, vi x.Num.B, vi x.Num.C, vi x.Num.D, vi x.Exp], 5⟩, ⟨aD b1, 44, [vi y.Num.A, vi y.Num.B, vi y.Num.C, vi y.Num.D, vi y.Exp], 5⟩, ⟨aD b2, 44, [vi 0, vi 0, vi 0, vi 0, vi 0], 5⟩, ⟨aD b3, 42, [vi 0, vi 0, vi 0, vi 0], 4⟩] (Rf) := hS8
  refine ss0 rfl rfl (Ys_store (i := 3) (s := 4) (B := aD b3) (T' := 42) (v := .agg #[vi r_4.A, vi r_4.B, vi r_4.C, vi r_4.D]) (vs := [vi r_4.A, vi r_4.B, vi r_4.C, vi r_4.D]) (k := 0) (cs' := [vi r_4.A, vi r_4.B, vi r_4.C, vi r_4.D]) hS8 k_sz_42_4 rfl rfl rfl rfl rfl rfl rfl (Nat.le_of_ble_eq_true rfl) rfl rfl) ?_
  rintro _ w_8 ⟨rfl, hS9⟩
  have hS9 : ST w0 [] _ [⟨aD b, 44, [vi x.Num.A, vi x.Num.B, vi x.Num.C, vi x.Num.D, vi x.Exp], 5⟩, ⟨aD b1, 44, [vi y.Num.A, vi y.Num.B, vi y.Num.C, vi y.Num.D, vi y.Exp], 5⟩, ⟨aD b2, 44, [vi 0, vi 0, vi 0, vi 0, vi 0], 5⟩, ⟨aD b3, 42, [vi r_4.A, vi r_4.B, vi r_4.C, vi r_4.D], 4⟩] (Rf) := hS9
  refine sq 10 rfl rfl (Y_assign (v := .bool r_5) rfl rfl) ?_
  refine rw_nil ?_
  refine cw_seq ?_
  refine cw_region ?_
  refine sq 36 rfl rfl (Y_loadA (B := aD b1) (i := 0) (cs := [vi y.Num.A, vi y.Num.B, vi y.Num.C, vi y.Num.D, vi y.Exp]) (vs := [vi y.Num.A, vi y.Num.B, vi y.Num.C, vi y.Num.D, vi y.Exp]) k_ag_44 k_sz_44_5 rfl rfl (hS9.cf (i := 1) rfl) rfl rfl) ?_
  refine sq 37 rfl rfl (Y_move (v := vi (if x.Exp < y.Exp then y.Exp else x.Exp)) rfl rfl) ?_
  obtain ⟨⟨r_6, r_7⟩, hc3, hF2⟩ := bind_inv hF2
  refine sc 38 rfl rfl (Yc_func (g := 77) (vs := [.agg #[vi y.Num.A, vi y.Num.B, vi y.Num.C, vi y.Num.D, vi y.Exp], vi (if x.Exp < y.Exp then y.Exp else x.Exp)]) k_call_77 rfl (mc rfl (mc rfl mn)) (c_impl_raised y (if x.Exp < y.Exp then y.Exp else x.Exp) _  (hS9.inn0 [] rfl) hc3)) ?_
  rintro _ w_9 ⟨rfl, hd2⟩
  have hS10 := hS9.out00 hd2
  have hS10 : ST w0 [] _ [⟨aD b, 44, [vi x.Num.A, vi x.Num.B, vi x.Num.C, vi x.Num.D, vi x.Exp], 5⟩, ⟨aD b1, 44, [vi y.Num.A, vi y.Num.B, vi y.Num.C, vi y.Num.D, vi y.Exp], 5⟩, ⟨aD b2, 44, [vi 0, vi 0, vi 0, vi 0, vi 0], 5⟩, ⟨aD b3, 42, [vi r_4.A, vi r_4.B, vi r_4.C, vi r_4.D], 4⟩] (Rf) := hS10
  refine sq 35 rfl rfl (Y_move (v := .tuple #[.agg #[vi r_6.A, vi r_6.B, vi r_6.C, vi r_6.D], .bool r_7]) rfl rfl) ?_
  refine sq 39 rfl rfl (Y_extract (v := .agg #[vi r_6.A, vi r_6.B, vi r_6.C, vi r_6.D]) rfl rfl rfl) ?_
  refine sq 40 rfl rfl (Y_extract (v := .bool r_7) rfl rfl rfl) ?_
  refine ss 11 rfl rfl (Ys_alloc (T := 42) (cs := [vi 0, vi 0, vi 0, vi 0]) (m := 4) hS10 k_zero_42 rfl rfl rfl) ?_
  rintro _ w_10 ⟨b4, rfl, hS11⟩
  have hS11 : ST w0 [] _ [⟨aD b, 44, [vi x.Num.A, vi x.Num.B, vi x.Num.C, vi x.Num.D, vi x.Exp], 5⟩, ⟨aD b1, 44, [vi y.Num.A, vi y.Num.B, vi y.Num.C, vi y.Num.D, vi y.Exp], 5⟩, ⟨aD b2, 44, [vi 0, vi 0, vi 0, vi 0, vi 0], 5⟩, ⟨aD b3, 42, [vi r_4.A, vi r_4.B, vi r_4.C, vi r_4.D], 4⟩, ⟨aD b4, 42, [vi 0, vi 0, vi 0, vi 0], 4⟩] (Rf) := hS11
  refine ss0 rfl rfl (Ys_store (i := 4) (s := 4) (B := aD b4) (T' := 42) (v := .agg #[vi r_6.A, vi r_6.B, vi r_6.C, vi r_6.D]) (vs := [vi r_6.A, vi r_6.B, vi r_6.C, vi r_6.D]) (k := 0) (cs' := [vi r_6.A, vi r_6.B, vi r_6.C, vi r_6.D]) hS11 k_sz_42_4 rfl rfl rfl rfl rfl rfl rfl (Nat.le_of_ble_eq_true rfl) rfl rfl) ?_
  rintro _ w_11 ⟨rfl, hS12⟩
  have hS12 : ST w0 [] _ [⟨aD b, 44, [vi x.Num.A, vi x.Num.B, vi x.Num.C, vi x.Num.D, vi x.Exp], 5⟩, ⟨aD b1, 44, [vi y.Num.A, vi y.Num.B, vi y.Num.C, vi y.Num.D, vi y.Exp], 5⟩, ⟨aD b2, 44, [vi 0, vi 0, vi 0, vi 0, vi 0], 5⟩, ⟨aD b3, 42, [vi r_4.A, vi r_4.B, vi r_4.C, vi r_4.D], 4⟩, ⟨aD b4, 42, [vi r_6.A, vi r_6.B, vi r_6.C, vi r_6.D], 4⟩] (Rf) := hS12
  refine sq 12 rfl rfl (Y_assign (v := .bool r_7) rfl rfl) ?_
  refine rw_nil ?_
  refine cw_seq ?_
  refine cw_region ?_
  refine sq 42 rfl rfl (Y_move (v := .func (.func kf) #[] caps) rfl rfl) ?_
  refine sq 43 rfl rfl (Y_loadA (B := aD b3) (i := 0) (cs := [vi r_4.A, vi r_4.B, vi r_4.C, vi r_4.D]) (vs := [vi r_4.A, vi r_4.B, vi r_4.C, vi r_4.D]) k_ag_42 k_sz_42_4 rfl rfl (hS12.cf (i := 3) rfl) rfl rfl) ?_
  refine sq 44 rfl rfl (Y_loadA (B := aD b4) (i := 0) (cs := [vi r_6.A, vi r_6.B, vi r_6.C, vi r_6.D]) (vs := [vi r_6.A, vi r_6.B, vi r_6.C, vi r_6.D]) k_ag_42 k_sz_42_4 rfl rfl (hS12.cf (i := 4) rfl) rfl rfl) ?_
  obtain ⟨⟨r_8, r_9⟩, hc4, hF2⟩ := bind_inv hF2
  refine sc 45 rfl rfl (Yc_clos (g := kf) (vs := (.agg #[vi r_4.A, vi r_4.B, vi r_4.C, vi r_4.D]) :: (.agg #[vi r_6.A, vi r_6.B, vi r_6.C, vi r_6.D]) :: caps.toList) hk rfl rfl (clo_args (mc rfl (mc rfl mn))) (hp _ (hS12.innS (fun _ h => List.mem_of_mem_drop (i := 0) h)) r_4 r_6 r_8 r_9 hc4)) ?_
  rintro _ w_12 ⟨rfl, hd3⟩
  have hS13 := hS12.out00 hd3
  have hS13 : ST w0 [] _ [⟨aD b, 44, [vi x.Num.A, vi x.Num.B, vi x.Num.C, vi x.Num.D, vi x.Exp], 5⟩, ⟨aD b1, 44, [vi y.Num.A, vi y.Num.B, vi y.Num.C, vi y.Num.D, vi y.Exp], 5⟩, ⟨aD b2, 44, [vi 0, vi 0, vi 0, vi 0, vi 0], 5⟩, ⟨aD b3, 42, [vi r_4.A, vi r_4.B, vi r_4.C, vi r_4.D], 4⟩, ⟨aD b4, 42, [vi r_6.A, vi r_6.B, vi r_6.C, vi r_6.D], 4⟩] (Rf) := hS13
  refine sq 41 rfl rfl (Y_move (v := .tuple #[.agg #[vi r_8.A, vi r_8.B, vi r_8.C, vi r_8.D], .bool r_9]) rfl rfl) ?_
  refine sq 46 rfl rfl (Y_extract (v := .agg #[vi r_8.A, vi r_8.B, vi r_8.C, vi r_8.D]) rfl rfl rfl) ?_
  refine sq 47 rfl rfl (Y_extract (v := .bool r_9) rfl rfl rfl) ?_
  refine ss 13 rfl rfl (Ys_alloc (T := 42) (cs := [vi 0, vi 0, vi 0, vi 0]) (m := 4) hS13 k_zero_42 rfl rfl rfl) ?_
  rintro _ w_13 ⟨b5, rfl, hS14⟩
  have hS14 : ST w0 [] _ [⟨aD b, 44, [vi x.Num.A, vi x.Num.B, vi x.Num.C, vi x.Num.D, vi x.Exp], 5⟩, ⟨aD b1, 44, [vi y.Num.A, vi y.Num.B, vi y.Num.C, vi y.Num.D, vi y.Exp], 5⟩, ⟨aD b2, 44, [vi 0, vi 0, vi 0, vi 0, vi 0], 5⟩, ⟨aD b3, 42, [vi r_4.A, vi r_4.B, vi r_4.C, vi r_4.D], 4⟩, ⟨aD b4, 42, [vi r_6.A, vi r_6.B, vi r_6.C, vi r_6.D], 4⟩, ⟨aD b5, 42, [vi 0, vi 0, vi 0, vi 0], 4⟩] (Rf) := hS14
  refine ss0 rfl rfl (Ys_store (i := 5) (s := 4) (B := aD b5) (T' := 42) (v := .agg #[vi r_8.A, vi r_8.B, vi r_8.C, vi r_8.D]) (vs := [vi r_8.A, vi r_8.B, vi r_8.C, vi r_8.D]) (k := 0) (cs' := [vi r_8.A, vi r_8.B, vi r_8.C, vi r_8.D]) hS14 k_sz_42_4 rfl rfl rfl rfl rfl rfl rfl (Nat.le_of_ble_eq_true rfl) rfl rfl) ?_
  rintro _ w_14 ⟨rfl, hS15⟩
  have hS15 : ST w0 [] _ [⟨aD b, 44, [vi x.Num.A, vi x.Num.B, vi x.Num.C, vi x.Num.D, vi x.Exp], 5⟩, ⟨aD b1, 44, [vi y.Num.A, vi y.Num.B, vi y.Num.C, vi y.Num.D, vi y.Exp], 5⟩, ⟨aD b2, 44, [vi 0, vi 0, vi 0, vi 0, vi 0], 5⟩, ⟨aD b3, 42, [vi r_4.A, vi r_4.B, vi r_4.C, vi r_4.D], 4⟩, ⟨aD b4, 42, [vi r_6.A, vi r_6.B, vi r_6.C, vi r_6.D], 4⟩, ⟨aD b5, 42, [vi r_8.A, vi r_8.B, vi r_8.C, vi r_8.D], 4⟩] (Rf) := hS15
  refine sq 14 rfl rfl (Y_assign (v := .bool r_9) rfl rfl) ?_
  refine rw_nil ?_
  refine cw_seq ?_
  refine cw_seq ?_
  refine cw_region ?_
  refine sq 48 rfl rfl (Y_move (v := .bool r_5) rfl rfl) ?_
  refine sq 49 rfl rfl (Y_not (p := r_5) rfl rfl) ?_
  refine sq 50 rfl rfl (Y_move (v := .bool (!r_5)) rfl rfl) ?_
  refine sgq 51 (B := (!(!r_5))) (v := .bool r_7) rfl rfl (wt_f (gd_of (t := 50) (by kernel_rfl) rfl)) (fun hg3 => (Y_move (v := .bool r_7) rfl rfl)) ?_
  refine sgq 52 (B := (!(!r_5))) (v := .bool (!r_7)) rfl rfl (wt_f (gd_of (t := 50) (by kernel_rfl) rfl)) (fun hg4 => (Y_not (p := r_7) rfl (gv_of (B := (!(!r_5))) (v := .bool r_7) hg4))) ?_
  refine sq 53 rfl rfl (Y_or (b := (!r_5)) (z := (!r_7)) rfl rfl rfl rfl) ?_
  refine sq 54 rfl rfl (Y_move (v := .bool ((!r_5) || (!r_7))) rfl rfl) ?_
  refine sgq 55 (B := (!((!r_5) || (!r_7)))) (v := .bool r_9) rfl rfl (wt_f (gd_of (t := 54) (by kernel_rfl) rfl)) (fun hg5 => (Y_move (v := .bool r_9) rfl rfl)) ?_
  refine sgq 56 (B := (!((!r_5) || (!r_7)))) (v := .bool (!r_9)) rfl rfl (wt_f (gd_of (t := 54) (by kernel_rfl) rfl)) (fun hg6 => (Y_not (p := r_9) rfl (gv_of (B := (!((!r_5) || (!r_7)))) (v := .bool r_9) hg6))) ?_
  refine sq 57 rfl rfl (Y_or (b := ((!r_5) || (!r_7))) (z := (!r_9)) rfl rfl rfl rfl) ?_
  refine rw_nil ?_
  refine cw_cond (b := (((!r_5) || (!r_7)) || (!r_9))) rfl (fun hb1 => ?_) (fun hb1 => ?_)
  ·skip
   have hF3 := ct hF2 hb1
   refine cw_seq ?_
   refine cw_region ?_
   refine sq 58 rfl rfl (Y_buildS (zs := [vi 0, vi 0, vi 0, vi 0, vi 0]) (vs := []) (cs := [vi 0, vi 0, vi 0, vi 0, vi 0]) k_pl_44 k_zero_44 rfl mpn rfl) ?_
   refine ss0 rfl rfl (Ys_store (i := 2) (s := 5) (B := aD b2) (T' := 44) (v := .agg #[vi 0, vi 0, vi 0, vi 0, vi 0]) (vs := [vi 0, vi 0, vi 0, vi 0, vi 0]) (k := 0) (cs' := [vi 0, vi 0, vi 0, vi 0, vi 0]) hS15 k_sz_44_5 rfl rfl rfl rfl rfl rfl rfl (Nat.le_of_ble_eq_true rfl) rfl rfl) ?_
   rintro _ w_15 ⟨rfl, hS16⟩
   have hS16 : ST w0 [] _ [⟨aD b, 44, [vi x.Num.A, vi x.Num.B, vi x.Num.C, vi x.Num.D, vi x.Exp], 5⟩, ⟨aD b1, 44, [vi y.Num.A, vi y.Num.B, vi y.Num.C, vi y.Num.D, vi y.Exp], 5⟩, ⟨aD b2, 44, [vi 0, vi 0, vi 0, vi 0, vi 0], 5⟩, ⟨aD b3, 42, [vi r_4.A, vi r_4.B, vi r_4.C, vi r_4.D], 4⟩, ⟨aD b4, 42, [vi r_6.A, vi r_6.B, vi r_6.C, vi r_6.D], 4⟩, ⟨aD b5, 42, [vi r_8.A, vi r_8.B, vi r_8.C, vi r_8.D], 4⟩] (Rf) := hS16
   refine sq 7 rfl rfl (Y_assign (v := .bool false) rfl rfl) ?_
   refine rw_nil ?_
   refine cw_ret ?_
   obtain ⟨rfl, rfl⟩ := pr2 (some_inj hF3)
   exact ret2 Tryd.results55 (v1 := .agg #[vi 0, vi 0, vi 0, vi 0, vi 0]) (resAt_cellA (B := aD b2) (i := 0) (cs := [vi 0, vi 0, vi 0, vi 0, vi 0]) (vs := [vi 0, vi 0, vi 0, vi 0, vi 0]) rfl k_ag_44 k_sz_44_5 (hS16.cf (i := 2) rfl) rfl rfl) (v2 := .bool false) (resAt_tmp rfl) ⟨rfl, (ST.subR (R' := []) (hS16.sel [] rfl rfl) (fun _ h => by cases h))⟩
  ·skip
   have hF4 := cf' hF2 hb1
   refine cw_skip ?_
   refine cw_seq ?_
   refine cw_region ?_
   refine sq 59 rfl rfl (Y_loadA (B := aD b5) (i := 0) (cs := [vi r_8.A, vi r_8.B, vi r_8.C, vi r_8.D]) (vs := [vi r_8.A, vi r_8.B, vi r_8.C, vi r_8.D]) k_ag_42 k_sz_42_4 rfl rfl (hS15.cf (i := 5) rfl) rfl rfl) ?_
   refine sq 60 rfl rfl (Y_move (v := vi (if x.Exp < y.Exp then y.Exp else x.Exp)) rfl rfl) ?_
   obtain ⟨⟨r_10, r_11⟩, hc5, hF4⟩ := bind_inv hF4
   refine sc 61 rfl rfl (Yc_func (g := 54) (vs := [.agg #[vi r_8.A, vi r_8.B, vi r_8.C, vi r_8.D], vi (if x.Exp < y.Exp then y.Exp else x.Exp)]) k_call_54 rfl (mc rfl (mc rfl mn)) (c_impl_DyadicOf r_8 (if x.Exp < y.Exp then y.Exp else x.Exp) _  (hS15.inn0 [] rfl) hc5)) ?_
   rintro _ w_16 ⟨rfl, hd4⟩
   have hS17 := hS15.out00 hd4
   have hS17 : ST w0 [] _ [⟨aD b, 44, [vi x.Num.A, vi x.Num.B, vi x.Num.C, vi x.Num.D, vi x.Exp], 5⟩, ⟨aD b1, 44, [vi y.Num.A, vi y.Num.B, vi y.Num.C, vi y.Num.D, vi y.Exp], 5⟩, ⟨aD b2, 44, [vi 0, vi 0, vi 0, vi 0, vi 0], 5⟩, ⟨aD b3, 42, [vi r_4.A, vi r_4.B, vi r_4.C, vi r_4.D], 4⟩, ⟨aD b4, 42, [vi r_6.A, vi r_6.B, vi r_6.C, vi r_6.D], 4⟩, ⟨aD b5, 42, [vi r_8.A, vi r_8.B, vi r_8.C, vi r_8.D], 4⟩] (Rf) := hS17
   refine sq 62 rfl rfl (Y_extract (v := .agg #[vi r_10.Num.A, vi r_10.Num.B, vi r_10.Num.C, vi r_10.Num.D, vi r_10.Exp]) rfl rfl rfl) ?_
   refine sq 63 rfl rfl (Y_extract (v := .bool r_11) rfl rfl rfl) ?_
   refine ss0 rfl rfl (Ys_store (i := 2) (s := 5) (B := aD b2) (T' := 44) (v := .agg #[vi r_10.Num.A, vi r_10.Num.B, vi r_10.Num.C, vi r_10.Num.D, vi r_10.Exp]) (vs := [vi r_10.Num.A, vi r_10.Num.B, vi r_10.Num.C, vi r_10.Num.D, vi r_10.Exp]) (k := 0) (cs' := [vi r_10.Num.A, vi r_10.Num.B, vi r_10.Num.C, vi r_10.Num.D, vi r_10.Exp]) hS17 k_sz_44_5 rfl rfl rfl rfl rfl rfl rfl (Nat.le_of_ble_eq_true rfl) rfl rfl) ?_
   rintro _ w_17 ⟨rfl, hS18⟩
   have hS18 : ST w0 [] _ [⟨aD b, 44, [vi x.Num.A, vi x.Num.B, vi x.Num.C, vi x.Num.D, vi x.Exp], 5⟩, ⟨aD b1, 44, [vi y.Num.A, vi y.Num.B, vi y.Num.C, vi y.Num.D, vi y.Exp], 5⟩, ⟨aD b2, 44, [vi r_10.Num.A, vi r_10.Num.B, vi r_10.Num.C, vi r_10.Num.D, vi r_10.Exp], 5⟩, ⟨aD b3, 42, [vi r_4.A, vi r_4.B, vi r_4.C, vi r_4.D], 4⟩, ⟨aD b4, 42, [vi r_6.A, vi r_6.B, vi r_6.C, vi r_6.D], 4⟩, ⟨aD b5, 42, [vi r_8.A, vi r_8.B, vi r_8.C, vi r_8.D], 4⟩] (Rf) := hS18
   refine sq 7 rfl rfl (Y_assign (v := .bool r_11) rfl rfl) ?_
   refine rw_nil ?_
   refine cw_ret ?_
   obtain ⟨rfl, rfl⟩ := pr2 (some_inj hF4)
   exact ret2 Tryd.results55 (v1 := .agg #[vi r_10.Num.A, vi r_10.Num.B, vi r_10.Num.C, vi r_10.Num.D, vi r_10.Exp]) (resAt_cellA (B := aD b2) (i := 0) (cs := [vi r_10.Num.A, vi r_10.Num.B, vi r_10.Num.C, vi r_10.Num.D, vi r_10.Exp]) (vs := [vi r_10.Num.A, vi r_10.Num.B, vi r_10.Num.C, vi r_10.Num.D, vi r_10.Exp]) rfl k_ag_44 k_sz_44_5 (hS18.cf (i := 2) rfl) rfl rfl) (v2 := .bool r_11) (resAt_tmp rfl) ⟨rfl, (ST.subR (R' := []) (hS18.sel [] rfl rfl) (fun _ h => by cases h))⟩

theorem c_impl_AddRing (x : TRing) (y : TRing)  (w0 : World)  (hS : ST w0 [] w0 [] []) {r_ : TRing} {r_1 : Bool} (hF : F_impl_AddRing x y = some (r_, r_1)) :
  CV Tryd.prog 56 #[.agg #[vi x.A, vi x.B, vi x.C, vi x.D], .agg #[vi y.A, vi y.B, vi y.C, vi y.D]] w0 (fun v w' => v = .tuple #[.agg #[vi r_.A, vi r_.B, vi r_.C, vi r_.D], .bool r_1] ∧ ST w0 [] w' [] []) := by
 unfold F_impl_AddRing at hF
 refine cv_of_cw 33 Tryd.func56 rfl Tryd.ntmps56 rfl ?_
 refine cw_seq ?_
 refine cw_region ?_
 refine ss 2 rfl rfl (Ys_box (T := 42) (v := .agg #[vi x.A, vi x.B, vi x.C, vi x.D]) (cs := [vi x.A, vi x.B, vi x.C, vi x.D]) (m := 4) hS rfl rfl rfl rfl) ?_
 rintro _ w_ ⟨b, rfl, hS1⟩
 refine ss 3 rfl rfl (Ys_box (T := 42) (v := .agg #[vi y.A, vi y.B, vi y.C, vi y.D]) (cs := [vi y.A, vi y.B, vi y.C, vi y.D]) (m := 4) hS1 rfl rfl rfl rfl) ?_
 rintro _ w_1 ⟨b1, rfl, hS2⟩
 have hS2 : ST w0 [] _ [⟨aD b, 42, [vi x.A, vi x.B, vi x.C, vi x.D], 4⟩, ⟨aD b1, 42, [vi y.A, vi y.B, vi y.C, vi y.D], 4⟩] [] := hS2
 refine ss 4 rfl rfl (Ys_alloc (T := 42) (cs := [vi 0, vi 0, vi 0, vi 0]) (m := 4) hS2 k_zero_42 rfl rfl rfl) ?_
 rintro _ w_2 ⟨b2, rfl, hS3⟩
 have hS3 : ST w0 [] _ [⟨aD b, 42, [vi x.A, vi x.B, vi x.C, vi x.D], 4⟩, ⟨aD b1, 42, [vi y.A, vi y.B, vi y.C, vi y.D], 4⟩, ⟨aD b2, 42, [vi 0, vi 0, vi 0, vi 0], 4⟩] [] := hS3
 refine sq 5 rfl rfl (Y_assign (v := .bool false) rfl rfl) ?_
 refine rw_nil ?_
 refine cw_seq ?_
 refine cw_region ?_
 refine sq 6 rfl rfl (Y_fieldAddr (B := aD b) (i := 0) (s := 0) k_fd_42_0_0_3 k_sz_3_1 rfl rfl) ?_
 refine sq 7 rfl rfl (Y_load1 (B := aD b) (i := 0) (cs := [vi x.A, vi x.B, vi x.C, vi x.D]) (v := vi x.A) k_sc_3 rfl rfl (hS3.cf (i := 0) rfl) rfl) ?_
 refine sq 8 rfl rfl (Y_fieldAddr (B := aD b1) (i := 0) (s := 0) k_fd_42_0_0_3 k_sz_3_1 rfl rfl) ?_
 refine sq 9 rfl rfl (Y_load1 (B := aD b1) (i := 0) (cs := [vi y.A, vi y.B, vi y.C, vi y.D]) (v := vi y.A) k_sc_3 rfl rfl (hS3.cf (i := 1) rfl) rfl) ?_
 refine sq 10 rfl rfl (Y_add (k := .i64) (a := x.A) (b := y.A) rfl rfl rfl) ?_
 refine sq 11 rfl rfl (Y_fieldAddr (B := aD b) (i := 0) (s := 0) k_fd_42_1_1_3 k_sz_3_1 rfl rfl) ?_
 refine sq 12 rfl rfl (Y_load1 (B := aD b) (i := 1) (cs := [vi x.A, vi x.B, vi x.C, vi x.D]) (v := vi x.B) k_sc_3 rfl rfl (hS3.cf (i := 0) rfl) rfl) ?_
 refine sq 13 rfl rfl (Y_fieldAddr (B := aD b1) (i := 0) (s := 0) k_fd_42_1_1_3 k_sz_3_1 rfl rfl) ?_
 refine sq 14 rfl rfl (Y_load1 (B := aD b1) (i := 1) (cs := [vi y.A, vi y.B, vi y.C, vi y.D]) (v := vi y.B) k_sc_3 rfl rfl (hS3.cf (i := 1) rfl) rfl) ?_
 refine sq 15 rfl rfl (Y_add (k := .i64) (a := x.B) (b := y.B) rfl rfl rfl) ?_
 refine sq 16 rfl rfl (Y_fieldAddr (B := aD b) (i := 0) (s := 0) k_fd_42_2_2_3 k_sz_3_1 rfl rfl) ?_
 refine sq 17 rfl rfl (Y_load1 (B := aD b) (i := 2) (cs := [vi x.A, vi x.B, vi x.C, vi x.D]) (v := vi x.C) k_sc_3 rfl rfl (hS3.cf (i := 0) rfl) rfl) ?_
 refine sq 18 rfl rfl (Y_fieldAddr (B := aD b1) (i := 0) (s := 0) k_fd_42_2_2_3 k_sz_3_1 rfl rfl) ?_
 refine sq 19 rfl rfl (Y_load1 (B := aD b1) (i := 2) (cs := [vi y.A, vi y.B, vi y.C, vi y.D]) (v := vi y.C) k_sc_3 rfl rfl (hS3.cf (i := 1) rfl) rfl) ?_
 refine sq 20 rfl rfl (Y_add (k := .i64) (a := x.C) (b := y.C) rfl rfl rfl) ?_
 refine sq 21 rfl rfl (Y_fieldAddr (B := aD b) (i := 0) (s := 0) k_fd_42_3_3_3 k_sz_3_1 rfl rfl) ?_
 refine sq 22 rfl rfl (Y_load1 (B := aD b) (i := 3) (cs := [vi x.A, vi x.B, vi x.C, vi x.D]) (v := vi x.D) k_sc_3 rfl rfl (hS3.cf (i := 0) rfl) rfl) ?_
 refine sq 23 rfl rfl (Y_fieldAddr (B := aD b1) (i := 0) (s := 0) k_fd_42_3_3_3 k_sz_3_1 rfl rfl) ?_
 refine sq 24 rfl rfl (Y_load1 (B := aD b1) (i := 3) (cs := [vi y.A, vi y.B, vi y.C, vi y.D]) (v := vi y.D) k_sc_3 rfl rfl (hS3.cf (i := 1) rfl) rfl) ?_
 refine sq 25 rfl rfl (Y_add (k := .i64) (a := x.D) (b := y.D) rfl rfl rfl) ?_
 refine sq 26 rfl rfl (Y_buildS (zs := [vi 0, vi 0, vi 0, vi 0]) (vs := [(0, vi (i64.wrap (x.A + y.A))), (1, vi (i64.wrap (x.B + y.B))), (2, vi (i64.wrap (x.C + y.C))), (3, vi (i64.wrap (x.D + y.D)))]) (cs := [vi (i64.wrap (x.A + y.A)), vi (i64.wrap (x.B + y.B)), vi (i64.wrap (x.C + y.C)), vi (i64.wrap (x.D + y.D))]) k_pl_42 k_zero_42 rfl (mpc rfl (mpc rfl (mpc rfl (mpc rfl mpn)))) rfl) ?_
 refine sq 27 rfl rfl (Y_loadA (B := aD b) (i := 0) (cs := [vi x.A, vi x.B, vi x.C, vi x.D]) (vs := [vi x.A, vi x.B, vi x.C, vi x.D]) k_ag_42 k_sz_42_4 rfl rfl (hS3.cf (i := 0) rfl) rfl rfl) ?_
 refine sq 28 rfl rfl (Y_loadA (B := aD b1) (i := 0) (cs := [vi y.A, vi y.B, vi y.C, vi y.D]) (vs := [vi y.A, vi y.B, vi y.C, vi y.D]) k_ag_42 k_sz_42_4 rfl rfl (hS3.cf (i := 1) rfl) rfl rfl) ?_
 refine ss 29 rfl rfl (Ys_bslice (s := 4) (len := 2) (vs := [(0, .agg #[vi x.A, vi x.B, vi x.C, vi x.D]), (1, .agg #[vi y.A, vi y.B, vi y.C, vi y.D])]) (cs := [vi x.A, vi x.B, vi x.C, vi x.D, vi y.A, vi y.B, vi y.C, vi y.D]) (zs := [vi 0, vi 0, vi 0, vi 0, vi 0, vi 0, vi 0, vi 0]) (m := 8) hS3 k_sl_113_42 k_sz_42_4 k_zc_42 rfl (mpc rfl (mpc rfl mpn)) rfl rfl rfl (by kernel_rfl) (by kernel_rfl) rfl) ?_
 rintro _ w_3 ⟨b3, rfl, hS4⟩
 have hS4 : ST w0 [] _ [⟨aD b, 42, [vi x.A, vi x.B, vi x.C, vi x.D], 4⟩, ⟨aD b1, 42, [vi y.A, vi y.B, vi y.C, vi y.D], 4⟩, ⟨aD b2, 42, [vi 0, vi 0, vi 0, vi 0], 4⟩, ⟨aD b3, 42, ([x, y].flatMap enc_Ring), 2 * 4⟩] [] := hS4
 obtain ⟨⟨r_2, r_3⟩, hc, hF⟩ := bind_inv hF
 refine sc 30 rfl rfl (Yc_func (g := 73) (vs := [.agg #[vi (i64.wrap (x.A + y.A)), vi (i64.wrap (x.B + y.B)), vi (i64.wrap (x.C + y.C)), vi (i64.wrap (x.D + y.D))], .slice (aD b3) 2 2]) k_call_73 rfl (mc rfl (mc rfl mn)) (c_impl_ringIf (TRing.mk (i64.wrap (x.A + y.A)) (i64.wrap (x.B + y.B)) (i64.wrap (x.C + y.C)) (i64.wrap (x.D + y.D))) [x, y] (aD b3) 2 2 _ rfl (hS4.inn [false, false, false, true] rfl [] rfl) hc)) ?_
 rintro _ w_4 ⟨rfl, hd⟩
 have hS5 := hS4.out [false, false, false, true] rfl hd
 have hS5 : ST w0 [] _ [⟨aD b, 42, [vi x.A, vi x.B, vi x.C, vi x.D], 4⟩, ⟨aD b1, 42, [vi y.A, vi y.B, vi y.C, vi y.D], 4⟩, ⟨aD b2, 42, [vi 0, vi 0, vi 0, vi 0], 4⟩] [] := hS5
 refine sq 31 rfl rfl (Y_extract (v := .agg #[vi r_2.A, vi r_2.B, vi r_2.C, vi r_2.D]) rfl rfl rfl) ?_
 refine sq 32 rfl rfl (Y_extract (v := .bool r_3) rfl rfl rfl) ?_
 refine ss0 rfl rfl (Ys_store (i := 2) (s := 4) (B := aD b2) (T' := 42) (v := .agg #[vi r_2.A, vi r_2.B, vi r_2.C, vi r_2.D]) (vs := [vi r_2.A, vi r_2.B, vi r_2.C, vi r_2.D]) (k := 0) (cs' := [vi r_2.A, vi r_2.B, vi r_2.C, vi r_2.D]) hS5 k_sz_42_4 rfl rfl rfl rfl rfl rfl rfl (Nat.le_of_ble_eq_true rfl) rfl rfl) ?_
 rintro _ w_5 ⟨rfl, hS6⟩
 have hS6 : ST w0 [] _ [⟨aD b, 42, [vi x.A, vi x.B, vi x.C, vi x.D], 4⟩, ⟨aD b1, 42, [vi y.A, vi y.B, vi y.C, vi y.D], 4⟩, ⟨aD b2, 42, [vi r_2.A, vi r_2.B, vi r_2.C, vi r_2.D], 4⟩] [] := hS6
 refine sq 5 rfl rfl (Y_assign (v := .bool r_3) rfl rfl) ?_
 refine rw_nil ?_
 refine cw_ret ?_
 obtain ⟨rfl, rfl⟩ := pr2 (some_inj hF)
 exact ret2 Tryd.results56 (v1 := .agg #[vi r_2.A, vi r_2.B, vi r_2.C, vi r_2.D]) (resAt_cellA (B := aD b2) (i := 0) (cs := [vi r_2.A, vi r_2.B, vi r_2.C, vi r_2.D]) (vs := [vi r_2.A, vi r_2.B, vi r_2.C, vi r_2.D]) rfl k_ag_42 k_sz_42_4 (hS6.cf (i := 2) rfl) rfl rfl) (v2 := .bool r_3) (resAt_tmp rfl) ⟨rfl, (ST.subR (R' := []) (hS6.sel [] rfl rfl) (fun _ h => by cases h))⟩

theorem c_impl_AddDyadic (x : TDyadic) (y : TDyadic)  (w0 : World)  (hS : ST w0 [] w0 [] []) {r_ : TDyadic} {r_1 : Bool} (hF : F_impl_AddDyadic x y = some (r_, r_1)) :
  CV Tryd.prog 29 #[.agg #[vi x.Num.A, vi x.Num.B, vi x.Num.C, vi x.Num.D, vi x.Exp], .agg #[vi y.Num.A, vi y.Num.B, vi y.Num.C, vi y.Num.D, vi y.Exp]] w0 (fun v w' => v = .tuple #[.agg #[vi r_.Num.A, vi r_.Num.B, vi r_.Num.C, vi r_.Num.D, vi r_.Exp], .bool r_1] ∧ ST w0 [] w' [] []) := by
 unfold F_impl_AddDyadic at hF
 refine cv_of_cw 11 Tryd.func29 rfl Tryd.ntmps29 rfl ?_
 refine cw_seq ?_
 refine cw_region ?_
 refine ss 2 rfl rfl (Ys_box (T := 44) (v := .agg #[vi x.Num.A, vi x.Num.B, vi x.Num.C, vi x.Num.D, vi x.Exp]) (cs := [vi x.Num.A, vi x.Num.B, vi x.Num.C, vi x.Num.D, vi x.Exp]) (m := 5) hS rfl rfl rfl rfl) ?_
 rintro _ w_ ⟨b, rfl, hS1⟩
 refine ss 3 rfl rfl (Ys_box (T := 44) (v := .agg #[vi y.Num.A, vi y.Num.B, vi y.Num.C, vi y.Num.D, vi y.Exp]) (cs := [vi y.Num.A, vi y.Num.B, vi y.Num.C, vi y.Num.D, vi y.Exp]) (m := 5) hS1 rfl rfl rfl rfl) ?_
 rintro _ w_1 ⟨b1, rfl, hS2⟩
 have hS2 : ST w0 [] _ [⟨aD b, 44, [vi x.Num.A, vi x.Num.B, vi x.Num.C, vi x.Num.D, vi x.Exp], 5⟩, ⟨aD b1, 44, [vi y.Num.A, vi y.Num.B, vi y.Num.C, vi y.Num.D, vi y.Exp], 5⟩] [] := hS2
 refine ss 4 rfl rfl (Ys_alloc (T := 44) (cs := [vi 0, vi 0, vi 0, vi 0, vi 0]) (m := 5) hS2 k_zero_44 rfl rfl rfl) ?_
 rintro _ w_2 ⟨b2, rfl, hS3⟩
 have hS3 : ST w0 [] _ [⟨aD b, 44, [vi x.Num.A, vi x.Num.B, vi x.Num.C, vi x.Num.D, vi x.Exp], 5⟩, ⟨aD b1, 44, [vi y.Num.A, vi y.Num.B, vi y.Num.C, vi y.Num.D, vi y.Exp], 5⟩, ⟨aD b2, 44, [vi 0, vi 0, vi 0, vi 0, vi 0], 5⟩] [] := hS3
 refine sq 5 rfl rfl (Y_assign (v := .bool false) rfl rfl) ?_
 refine rw_nil ?_
 refine cw_seq ?_
 refine cw_region ?_
 refine sq 6 rfl rfl (Y_loadA (B := aD b) (i := 0) (cs := [vi x.Num.A, vi x.Num.B, vi x.Num.C, vi x.Num.D, vi x.Exp]) (vs := [vi x.Num.A, vi x.Num.B, vi x.Num.C, vi x.Num.D, vi x.Exp]) k_ag_44 k_sz_44_5 rfl rfl (hS3.cf (i := 0) rfl) rfl rfl) ?_
 refine sq 7 rfl rfl (Y_loadA (B := aD b1) (i := 0) (cs := [vi y.Num.A, vi y.Num.B, vi y.Num.C, vi y.Num.D, vi y.Exp]) (vs := [vi y.Num.A, vi y.Num.B, vi y.Num.C, vi y.Num.D, vi y.Exp]) k_ag_44 k_sz_44_5 rfl rfl (hS3.cf (i := 1) rfl) rfl rfl) ?_
 obtain ⟨⟨r_2, r_3⟩, hc, hF⟩ := bind_inv hF
 refine sc 8 rfl rfl (Yc_func (g := 55) (vs := [.agg #[vi x.Num.A, vi x.Num.B, vi x.Num.C, vi x.Num.D, vi x.Exp], .agg #[vi y.Num.A, vi y.Num.B, vi y.Num.C, vi y.Num.D, vi y.Exp], .func (.func 56) #[] #[]]) k_call_55 rfl (mc rfl (mc rfl (mc rfl mn))) (c_impl_combined x y F_impl_AddRing 56 (#[]) [] _ k_call_56 (fun w hw x_0 x_1 y_0 y_1 h_ => c_impl_AddRing x_0 x_1  w  hw h_) (hS3.inn0 [] rfl) hc)) ?_
 rintro _ w_3 ⟨rfl, hd⟩
 have hS4 := hS3.out00 hd
 have hS4 : ST w0 [] _ [⟨aD b, 44, [vi x.Num.A, vi x.Num.B, vi x.Num.C, vi x.Num.D, vi x.Exp], 5⟩, ⟨aD b1, 44, [vi y.Num.A, vi y.Num.B, vi y.Num.C, vi y.Num.D, vi y.Exp], 5⟩, ⟨aD b2, 44, [vi 0, vi 0, vi 0, vi 0, vi 0], 5⟩] [] := hS4
 refine sq 9 rfl rfl (Y_extract (v := .agg #[vi r_2.Num.A, vi r_2.Num.B, vi r_2.Num.C, vi r_2.Num.D, vi r_2.Exp]) rfl rfl rfl) ?_
 refine sq 10 rfl rfl (Y_extract (v := .bool r_3) rfl rfl rfl) ?_
 refine ss0 rfl rfl (Ys_store (i := 2) (s := 5) (B := aD b2) (T' := 44) (v := .agg #[vi r_2.Num.A, vi r_2.Num.B, vi r_2.Num.C, vi r_2.Num.D, vi r_2.Exp]) (vs := [vi r_2.Num.A, vi r_2.Num.B, vi r_2.Num.C, vi r_2.Num.D, vi r_2.Exp]) (k := 0) (cs' := [vi r_2.Num.A, vi r_2.Num.B, vi r_2.Num.C, vi r_2.Num.D, vi r_2.Exp]) hS4 k_sz_44_5 rfl rfl rfl rfl rfl rfl rfl (Nat.le_of_ble_eq_true rfl) rfl rfl) ?_
 rintro _ w_4 ⟨rfl, hS5⟩
 have hS5 : ST w0 [] _ [⟨aD b, 44, [vi x.Num.A, vi x.Num.B, vi x.Num.C, vi x.Num.D, vi x.Exp], 5⟩, ⟨aD b1, 44, [vi y.Num.A, vi y.Num.B, vi y.Num.C, vi y.Num.D, vi y.Exp], 5⟩, ⟨aD b2, 44, [vi r_2.Num.A, vi r_2.Num.B, vi r_2.Num.C, vi r_2.Num.D, vi r_2.Exp], 5⟩] [] := hS5
 refine sq 5 rfl rfl (Y_assign (v := .bool r_3) rfl rfl) ?_
 refine rw_nil ?_
 refine cw_ret ?_
 obtain ⟨rfl, rfl⟩ := pr2 (some_inj hF)
 exact ret2 Tryd.results29 (v1 := .agg #[vi r_2.Num.A, vi r_2.Num.B, vi r_2.Num.C, vi r_2.Num.D, vi r_2.Exp]) (resAt_cellA (B := aD b2) (i := 0) (cs := [vi r_2.Num.A, vi r_2.Num.B, vi r_2.Num.C, vi r_2.Num.D, vi r_2.Exp]) (vs := [vi r_2.Num.A, vi r_2.Num.B, vi r_2.Num.C, vi r_2.Num.D, vi r_2.Exp]) rfl k_ag_44 k_sz_44_5 (hS5.cf (i := 2) rfl) rfl rfl) (v2 := .bool r_3) (resAt_tmp rfl) ⟨rfl, (ST.subR (R' := []) (hS5.sel [] rfl rfl) (fun _ h => by cases h))⟩

theorem c_impl_MulMatrix_1 (i : Int) (j : Int) (p : TMatrix) (p1 : TMatrix) (B : Option Addr) (B1 : Option Addr) (c n : Nat) (B2 : Option Addr) (B3 : Option Addr) (c1 n1 : Nat) (w0 : World) (hn : p.Cells.length = n) (hn1 : p1.Cells.length = n1) (hS : ST w0 [] w0 [] [⟨B, [vi p.Rows, vi p.Cols, .slice B1 n c]⟩, ⟨B1, (p.Cells.flatMap eN0)⟩, ⟨B2, [vi p1.Rows, vi p1.Cols, .slice B3 n1 c1]⟩, ⟨B3, (p1.Cells.flatMap eN0)⟩]) {r_ : TDyadic} {r_1 : Bool} (hF : F_impl_MulMatrix_1 i j p p1 = some (r_, r_1)) :
  CV Tryd.prog 87 #[vi i, vi j, pt B 0, pt B2 0] w0 (fun v w' => v = .tuple #[.agg #[vi r_.Num.A, vi r_.Num.B, vi r_.Num.C, vi r_.Num.D, vi r_.Exp], .bool r_1] ∧ ST w0 [] w' [] []) := by
 subst hn
 subst hn1
 unfold F_impl_MulMatrix_1 at hF
 refine cv_of_cw 48 Tryd.func87 rfl Tryd.ntmps87 rfl ?_
 refine cw_seq ?_
 refine cw_region ?_
 refine ss 6 rfl rfl (Ys_alloc (T := 44) (cs := [vi 0, vi 0, vi 0, vi 0, vi 0]) (m := 5) hS k_zero_44 rfl rfl rfl) ?_
 rintro _ w_ ⟨b, rfl, hS1⟩
 refine sq 7 rfl rfl (Y_assign (v := .bool false) rfl rfl) ?_
 refine rw_nil ?_
 refine cw_seq ?_
 refine cw_region ?_
 refine sq 14 rfl rfl (Y_buildS (zs := [vi 0, vi 0, vi 0, vi 0, vi 0]) (vs := []) (cs := [vi 0, vi 0, vi 0, vi 0, vi 0]) k_pl_44 k_zero_44 rfl mpn rfl) ?_
 refine ss 8 rfl rfl (Ys_alloc (T := 44) (cs := [vi 0, vi 0, vi 0, vi 0, vi 0]) (m := 5) hS1 k_zero_44 rfl rfl rfl) ?_
 rintro _ w_1 ⟨b1, rfl, hS2⟩
 have hS2 : ST w0 [] _ [⟨aD b, 44, [vi 0, vi 0, vi 0, vi 0, vi 0], 5⟩, ⟨aD b1, 44, [vi 0, vi 0, vi 0, vi 0, vi 0], 5⟩] [⟨B, [vi p.Rows, vi p.Cols, .slice B1 p.Cells.length c]⟩, ⟨B1, (p.Cells.flatMap eN0)⟩, ⟨B2, [vi p1.Rows, vi p1.Cols, .slice B3 p1.Cells.length c1]⟩, ⟨B3, (p1.Cells.flatMap eN0)⟩] := hS2
 refine ss0 rfl rfl (Ys_store (i := 1) (s := 5) (B := aD b1) (T' := 44) (v := .agg #[vi 0, vi 0, vi 0, vi 0, vi 0]) (vs := [vi 0, vi 0, vi 0, vi 0, vi 0]) (k := 0) (cs' := [vi 0, vi 0, vi 0, vi 0, vi 0]) hS2 k_sz_44_5 rfl rfl rfl rfl rfl rfl rfl (Nat.le_of_ble_eq_true rfl) rfl rfl) ?_
 rintro _ w_2 ⟨rfl, hS3⟩
 have hS3 : ST w0 [] _ [⟨aD b, 44, [vi 0, vi 0, vi 0, vi 0, vi 0], 5⟩, ⟨aD b1, 44, [vi 0, vi 0, vi 0, vi 0, vi 0], 5⟩] [⟨B, [vi p.Rows, vi p.Cols, .slice B1 p.Cells.length c]⟩, ⟨B1, (p.Cells.flatMap eN0)⟩, ⟨B2, [vi p1.Rows, vi p1.Cols, .slice B3 p1.Cells.length c1]⟩, ⟨B3, (p1.Cells.flatMap eN0)⟩] := hS3
 refine rw_nil ?_
 refine cw_seq ?_
 refine cw_seq ?_
 refine cw_region ?_
 refine sq 15 rfl rfl (Y_fieldAddr (B := B) (i := 0) (s := 0) k_fd_38_1_1_3 k_sz_3_1 rfl rfl) ?_
 refine sq 16 rfl rfl (Y_load1 (B := B) (i := 1) (cs := [vi p.Rows, vi p.Cols, .slice B1 p.Cells.length c]) (v := vi p.Cols) k_sc_3 rfl rfl (hS3.rf (i := 0) rfl) rfl) ?_
 refine sq 17 rfl rfl (Y_move (v := vi 0) rfl rfl) ?_
 refine rw_nil ?_
 obtain ⟨hN, hF⟩ := chk_inv hF
 obtain ⟨z, hz, hF1⟩ := bind_inv hF
 refine cw_block ?_
 refine cw_loop (fun k f w => ∃ (i1 : Nat) (A : Int) (B4 : Int) (C : Int) (D : Int) (Exp : Int), FF f [(0, vi i), (1, vi j), (2, pt B 0), (3, pt B2 0), (6, pt (aD b) 0), (8, pt (aD b1) 0), (16, vi p.Cols), (17, vi (i1 : Int))] ∧ ST w0 [] w [⟨aD b, 44, [vi 0, vi 0, vi 0, vi 0, vi 0], 5⟩, ⟨aD b1, 44, [vi A, vi B4, vi C, vi D, vi Exp], 5⟩] [⟨B, [vi p.Rows, vi p.Cols, .slice B1 p.Cells.length c]⟩, ⟨B1, (p.Cells.flatMap eN0)⟩, ⟨B2, [vi p1.Rows, vi p1.Cols, .slice B3 p1.Cells.length c1]⟩, ⟨B3, (p1.Cells.flatMap eN0)⟩] ∧ i1 + k = p.Cols.toNat ∧ forX (F_impl_MulMatrix_1_l1 p i p1 j) k i1 (A, B4, C, D, Exp) = some z) p.Cols.toNat ⟨0, 0, 0, 0, 0, 0, (FF.cons rfl (FF.cons rfl (FF.cons rfl (FF.cons rfl (FF.cons rfl (FF.cons rfl (FF.cons rfl (FF.cons rfl FF.nil)))))))), (hS3.sel [0, 1] rfl rfl), Nat.zero_add _, hz⟩ ?_
 rintro k_ f w ⟨i1, A, B4, C, D, Exp, hf, hS4, hik, hL⟩
 refine cw_seq ?_
 refine cw_region ?_
 refine sq 18 rfl rfl (Y_lt (k := .i64) (a := (i1 : Int)) (b := p.Cols) rfl (hf.get 17 7 rfl) (hf.get 16 6 rfl)) ?_
 refine rw_nil ?_
 refine cw_seq ?_
 refine cw_cond (b := (decide ((i1 : Int) < p.Cols))) rfl (fun hlt => ?_) (fun hlt => ?_)
 ·skip
  have hlt1 : i1 < p.Cols.toNat := by have h := of_decide_eq_true hlt; omega
  obtain ⟨k_1, rfl⟩ : ∃ k2, k_ = k2 + 1 := ⟨k_ - 1, by omega⟩
  obtain ⟨y, hb, hL1⟩ := forX_go hL
  unfold F_impl_MulMatrix_1_l1 at hb
  refine cw_skip ?_
  refine cw_seq ?_
  refine cw_block ?_
  refine cw_seq ?_
  refine cw_region ?_
  refine sq 19 rfl rfl (Y_move (v := vi (i1 : Int)) rfl (hf.get 17 7 rfl)) ?_
  refine sq 9 rfl rfl (Y_assign (v := vi (i1 : Int)) rfl rfl) ?_
  refine rw_nil ?_
  refine cw_seq ?_
  obtain ⟨r_2, hc, hb⟩ := bind_inv hb
  obtain ⟨r_3, hc1, hb⟩ := bind_inv hb
  obtain ⟨⟨r_4, r_5⟩, hc2, hb⟩ := bind_inv hb
  refine cw_mid (fun f w => ∃ (B5 : Option Addr), FF f [(0, vi i), (1, vi j), (2, pt B 0), (3, pt B2 0), (6, pt (aD b) 0), (8, pt (aD b1) 0), (10, pt B5 0), (11, .bool r_5), (16, vi p.Cols), (17, vi (i1 : Int))] ∧ ST w0 [] w [⟨aD b, 44, [vi 0, vi 0, vi 0, vi 0, vi 0], 5⟩, ⟨aD b1, 44, [vi A, vi B4, vi C, vi D, vi Exp], 5⟩, ⟨B5, 44, [vi r_4.Num.A, vi r_4.Num.B, vi r_4.Num.C, vi r_4.Num.D, vi r_4.Exp], 5⟩] [⟨B, [vi p.Rows, vi p.Cols, .slice B1 p.Cells.length c]⟩, ⟨B1, (p.Cells.flatMap eN0)⟩, ⟨B2, [vi p1.Rows, vi p1.Cols, .slice B3 p1.Cells.length c1]⟩, ⟨B3, (p1.Cells.flatMap eN0)⟩]) ?_ ?_
  ·skip
   refine ra_start (ST.sel hS4 [0, 1] rfl rfl).fn (by kernel_rfl) ?_
   have hS9 := hS4.drew
   refine ra_q 0 21 (v := .agg #[vi p.Rows, vi p.Cols, .slice B1 p.Cells.length c]) rfl rfl rfl (by kernel_rfl) (by kernel_rfl) (by kernel_rfl) (ST.sel hS9 [0, 1] rfl rfl) (fun w' hw' => (Y_loadA (B := B) (i := 0) (cs := [vi p.Rows, vi p.Cols, .slice B1 p.Cells.length c]) (vs := [vi p.Rows, vi p.Cols, .slice B1 p.Cells.length c]) k_ag_38 k_sz_38_3 rfl (hf.get 2 2 rfl) (ST.rf hw' (i := 0) rfl) rfl rfl)) ?_
   refine ra_q 1 22 (v := vi i) rfl rfl rfl (by kernel_rfl) (by kernel_rfl) (by kernel_rfl) (ST.sel hS9 [0, 1] rfl rfl) (fun w' hw' => (Y_move (v := vi i) rfl (hf.get 0 0 rfl))) ?_
   refine ra_q 2 23 (v := vi (i1 : Int)) rfl rfl rfl (by kernel_rfl) (by kernel_rfl) (by kernel_rfl) (ST.sel hS9 [0, 1] rfl rfl) (fun w' hw' => (Y_move (v := vi (i1 : Int)) rfl rfl)) ?_
   refine ra_q 4 25 (v := .agg #[vi p1.Rows, vi p1.Cols, .slice B3 p1.Cells.length c1]) rfl rfl rfl (by kernel_rfl) (by kernel_rfl) (by kernel_rfl) (ST.sel hS9 [0, 1] rfl rfl) (fun w' hw' => (Y_loadA (B := B2) (i := 0) (cs := [vi p1.Rows, vi p1.Cols, .slice B3 p1.Cells.length c1]) (vs := [vi p1.Rows, vi p1.Cols, .slice B3 p1.Cells.length c1]) k_ag_38 k_sz_38_3 rfl (hf.get 3 3 rfl) (ST.rf hw' (i := 2) rfl) rfl rfl)) ?_
   refine ra_q 5 26 (v := vi (i1 : Int)) rfl rfl rfl (by kernel_rfl) (by kernel_rfl) (by kernel_rfl) (ST.sel hS9 [0, 1] rfl rfl) (fun w' hw' => (Y_move (v := vi (i1 : Int)) rfl rfl)) ?_
   refine ra_q 6 27 (v := vi j) rfl rfl rfl (by kernel_rfl) (by kernel_rfl) (by kernel_rfl) (ST.sel hS9 [0, 1] rfl rfl) (fun w' hw' => (Y_move (v := vi j) rfl (hf.get 1 1 rfl))) ?_
   refine ra_all (rs := [3, 12]) (by kernel_rfl) rfl ?_
   refine ra_c 24 (i := 3) rfl rfl rfl (Yc_func (g := 70) (vs := [.agg #[vi p.Rows, vi p.Cols, .slice B1 p.Cells.length c], vi i, vi (i1 : Int)]) k_call_70 rfl (mc rfl (mc rfl (mc rfl mn))) (c_impl_Matrix_at p i (i1 : Int) B1 c p.Cells.length _ rfl (hS9.inn0 [(true, 1)] rfl) hc)) ?_ ?_
   ·rintro _ w_3 ⟨rfl, hd⟩
    have hS10 := hS9.out00 hd
    have hS10 : ST w0 [] _ [⟨aD b, 44, [vi 0, vi 0, vi 0, vi 0, vi 0], 5⟩, ⟨aD b1, 44, [vi A, vi B4, vi C, vi D, vi Exp], 5⟩] [⟨B, [vi p.Rows, vi p.Cols, .slice B1 p.Cells.length c]⟩, ⟨B1, (p.Cells.flatMap eN0)⟩, ⟨B2, [vi p1.Rows, vi p1.Cols, .slice B3 p1.Cells.length c1]⟩, ⟨B3, (p1.Cells.flatMap eN0)⟩] := hS10
    refine ⟨(ST.sel hS10 [0, 1] rfl rfl), ?_⟩
    refine ra_all (rs := [7, 12]) (by kernel_rfl) rfl ?_
    refine ra_c 28 (i := 7) rfl rfl rfl (Yc_func (g := 70) (vs := [.agg #[vi p1.Rows, vi p1.Cols, .slice B3 p1.Cells.length c1], vi (i1 : Int), vi j]) k_call_70 rfl (mc rfl (mc rfl (mc rfl mn))) (c_impl_Matrix_at p1 (i1 : Int) j B3 c1 p1.Cells.length _ rfl (hS10.inn0 [(true, 3)] rfl) hc1)) ?_ ?_
    ·rintro _ w_4 ⟨rfl, hd1⟩
     have hS11 := hS10.out00 hd1
     have hS11 : ST w0 [] _ [⟨aD b, 44, [vi 0, vi 0, vi 0, vi 0, vi 0], 5⟩, ⟨aD b1, 44, [vi A, vi B4, vi C, vi D, vi Exp], 5⟩] [⟨B, [vi p.Rows, vi p.Cols, .slice B1 p.Cells.length c]⟩, ⟨B1, (p.Cells.flatMap eN0)⟩, ⟨B2, [vi p1.Rows, vi p1.Cols, .slice B3 p1.Cells.length c1]⟩, ⟨B3, (p1.Cells.flatMap eN0)⟩] := hS11
     refine ⟨(ST.sel hS11 [0, 1] rfl rfl), ?_⟩
     refine ra_all (rs := [8, 12]) (by kernel_rfl) rfl ?_
     refine ra_c 29 (i := 8) rfl rfl rfl (Yc_func (g := 28) (vs := [.agg #[vi r_2.Num.A, vi r_2.Num.B, vi r_2.Num.C, vi r_2.Num.D, vi r_2.Exp], .agg #[vi r_3.Num.A, vi r_3.Num.B, vi r_3.Num.C, vi r_3.Num.D, vi r_3.Exp]]) k_call_28 rfl (mc rfl (mc rfl mn)) (c_impl_MulDyadic r_2 r_3 _  (hS11.inn0 [] rfl) hc2)) ?_ ?_
     ·rintro _ w_5 ⟨rfl, hd2⟩
      have hS12 := hS11.out00 hd2
      have hS12 : ST w0 [] _ [⟨aD b, 44, [vi 0, vi 0, vi 0, vi 0, vi 0], 5⟩, ⟨aD b1, 44, [vi A, vi B4, vi C, vi D, vi Exp], 5⟩] [⟨B, [vi p.Rows, vi p.Cols, .slice B1 p.Cells.length c]⟩, ⟨B1, (p.Cells.flatMap eN0)⟩, ⟨B2, [vi p1.Rows, vi p1.Cols, .slice B3 p1.Cells.length c1]⟩, ⟨B3, (p1.Cells.flatMap eN0)⟩] := hS12
      refine ⟨(ST.sel hS12 [0, 1] rfl rfl), ?_⟩
      refine ra_q 9 20 (v := .tuple #[.agg #[vi r_4.Num.A, vi r_4.Num.B, vi r_4.Num.C, vi r_4.Num.D, vi r_4.Exp], .bool r_5]) rfl rfl rfl (by kernel_rfl) (by kernel_rfl) (by kernel_rfl) (ST.sel hS12 [0, 1] rfl rfl) (fun w' hw' => (Y_move (v := .tuple #[.agg #[vi r_4.Num.A, vi r_4.Num.B, vi r_4.Num.C, vi r_4.Num.D, vi r_4.Exp], .bool r_5]) rfl rfl)) ?_
      refine ra_q 10 30 (v := .agg #[vi r_4.Num.A, vi r_4.Num.B, vi r_4.Num.C, vi r_4.Num.D, vi r_4.Exp]) rfl rfl rfl (by kernel_rfl) (by kernel_rfl) (by kernel_rfl) (ST.sel hS12 [0, 1] rfl rfl) (fun w' hw' => (Y_extract (v := .agg #[vi r_4.Num.A, vi r_4.Num.B, vi r_4.Num.C, vi r_4.Num.D, vi r_4.Exp]) rfl rfl rfl)) ?_
      refine ra_q 11 31 (v := .bool r_5) rfl rfl rfl (by kernel_rfl) (by kernel_rfl) (by kernel_rfl) (ST.sel hS12 [0, 1] rfl rfl) (fun w' hw' => (Y_extract (v := .bool r_5) rfl rfl rfl)) ?_
      refine ra_all (rs := [12]) (by kernel_rfl) rfl ?_
      refine ra_s 10 (i := 12) rfl rfl rfl (Ys_alloc (T := 44) (cs := [vi 0, vi 0, vi 0, vi 0, vi 0]) (m := 5) hS12 k_zero_44 rfl rfl rfl) ?_ ?_
      ·rintro _ w_6 ⟨b2, rfl, hS13⟩
       have hS13 : ST w0 [] _ [⟨aD b, 44, [vi 0, vi 0, vi 0, vi 0, vi 0], 5⟩, ⟨aD b1, 44, [vi A, vi B4, vi C, vi D, vi Exp], 5⟩, ⟨aD b2, 44, [vi 0, vi 0, vi 0, vi 0, vi 0], 5⟩] [⟨B, [vi p.Rows, vi p.Cols, .slice B1 p.Cells.length c]⟩, ⟨B1, (p.Cells.flatMap eN0)⟩, ⟨B2, [vi p1.Rows, vi p1.Cols, .slice B3 p1.Cells.length c1]⟩, ⟨B3, (p1.Cells.flatMap eN0)⟩] := hS13
       refine ⟨(ST.sel hS13 [0, 1] rfl rfl), ?_⟩
       refine ra_all (rs := [13]) (by kernel_rfl) rfl ?_
       refine ra_s0 (i := 13) rfl rfl rfl (Ys_store (i := 2) (s := 5) (B := aD b2) (T' := 44) (v := .agg #[vi r_4.Num.A, vi r_4.Num.B, vi r_4.Num.C, vi r_4.Num.D, vi r_4.Exp]) (vs := [vi r_4.Num.A, vi r_4.Num.B, vi r_4.Num.C, vi r_4.Num.D, vi r_4.Exp]) (k := 0) (cs' := [vi r_4.Num.A, vi r_4.Num.B, vi r_4.Num.C, vi r_4.Num.D, vi r_4.Exp]) hS13 k_sz_44_5 rfl rfl rfl rfl rfl rfl rfl (Nat.le_of_ble_eq_true rfl) rfl rfl) ?_ ?_
       ·rintro _ w_7 ⟨rfl, hS14⟩
        have hS14 : ST w0 [] _ [⟨aD b, 44, [vi 0, vi 0, vi 0, vi 0, vi 0], 5⟩, ⟨aD b1, 44, [vi A, vi B4, vi C, vi D, vi Exp], 5⟩, ⟨aD b2, 44, [vi r_4.Num.A, vi r_4.Num.B, vi r_4.Num.C, vi r_4.Num.D, vi r_4.Exp], 5⟩] [⟨B, [vi p.Rows, vi p.Cols, .slice B1 p.Cells.length c]⟩, ⟨B1, (p.Cells.flatMap eN0)⟩, ⟨B2, [vi p1.Rows, vi p1.Cols, .slice B3 p1.Cells.length c1]⟩, ⟨B3, (p1.Cells.flatMap eN0)⟩] := hS14
        refine ⟨(ST.sel hS14 [0, 1] rfl rfl), ?_⟩
        refine ra_q 14 11 (v := .bool r_5) rfl rfl rfl (by kernel_rfl) (by kernel_rfl) (by kernel_rfl) (ST.sel hS14 [0, 1] rfl rfl) (fun w' hw' => (Y_assign (v := .bool r_5) rfl rfl)) ?_
        refine ra_done (by kernel_rfl) ?_
        exact ⟨aD b2, (FF.cons (hf.get 0 0 rfl) (FF.cons (hf.get 1 1 rfl) (FF.cons (hf.get 2 2 rfl) (FF.cons (hf.get 3 3 rfl) (FF.cons (hf.get 6 4 rfl) (FF.cons (hf.get 8 5 rfl) (FF.cons rfl (FF.cons rfl (FF.cons (hf.get 16 6 rfl) (FF.cons (hf.get 17 7 rfl) FF.nil)))))))))), (hS14.sel [0, 1, 2] rfl rfl)⟩
       exact allR_nil
      exact allR_nil
     refine ra_s 10 (i := 12) rfl rfl rfl (Ys_alloc (T := 44) (cs := [vi 0, vi 0, vi 0, vi 0, vi 0]) (m := 5) hS11 k_zero_44 rfl rfl rfl) ?_ ?_
     ·rintro _ w_8 ⟨b2, rfl, hS15⟩
      have hS15 : ST w0 [] _ [⟨aD b, 44, [vi 0, vi 0, vi 0, vi 0, vi 0], 5⟩, ⟨aD b1, 44, [vi A, vi B4, vi C, vi D, vi Exp], 5⟩, ⟨aD b2, 44, [vi 0, vi 0, vi 0, vi 0, vi 0], 5⟩] [⟨B, [vi p.Rows, vi p.Cols, .slice B1 p.Cells.length c]⟩, ⟨B1, (p.Cells.flatMap eN0)⟩, ⟨B2, [vi p1.Rows, vi p1.Cols, .slice B3 p1.Cells.length c1]⟩, ⟨B3, (p1.Cells.flatMap eN0)⟩] := hS15
      refine ⟨(ST.sel hS15 [0, 1] rfl rfl), ?_⟩
      refine ra_all (rs := [8]) (by kernel_rfl) rfl ?_
      refine ra_c 29 (i := 8) rfl rfl rfl (Yc_func (g := 28) (vs := [.agg #[vi r_2.Num.A, vi r_2.Num.B, vi r_2.Num.C, vi r_2.Num.D, vi r_2.Exp], .agg #[vi r_3.Num.A, vi r_3.Num.B, vi r_3.Num.C, vi r_3.Num.D, vi r_3.Exp]]) k_call_28 rfl (mc rfl (mc rfl mn)) (c_impl_MulDyadic r_2 r_3 _  (hS15.inn0 [] rfl) hc2)) ?_ ?_
      ·rintro _ w_9 ⟨rfl, hd3⟩
       have hS16 := hS15.out00 hd3
       have hS16 : ST w0 [] _ [⟨aD b, 44, [vi 0, vi 0, vi 0, vi 0, vi 0], 5⟩, ⟨aD b1, 44, [vi A, vi B4, vi C, vi D, vi Exp], 5⟩, ⟨aD b2, 44, [vi 0, vi 0, vi 0, vi 0, vi 0], 5⟩] [⟨B, [vi p.Rows, vi p.Cols, .slice B1 p.Cells.length c]⟩, ⟨B1, (p.Cells.flatMap eN0)⟩, ⟨B2, [vi p1.Rows, vi p1.Cols, .slice B3 p1.Cells.length c1]⟩, ⟨B3, (p1.Cells.flatMap eN0)⟩] := hS16
       refine ⟨(ST.sel hS16 [0, 1] rfl rfl), ?_⟩
       refine ra_q 9 20 (v := .tuple #[.agg #[vi r_4.Num.A, vi r_4.Num.B, vi r_4.Num.C, vi r_4.Num.D, vi r_4.Exp], .bool r_5]) rfl rfl rfl (by kernel_rfl) (by kernel_rfl) (by kernel_rfl) (ST.sel hS16 [0, 1] rfl rfl) (fun w' hw' => (Y_move (v := .tuple #[.agg #[vi r_4.Num.A, vi r_4.Num.B, vi r_4.Num.C, vi r_4.Num.D, vi r_4.Exp], .bool r_5]) rfl rfl)) ?_
       refine ra_q 10 30 (v := .agg #[vi r_4.Num.A, vi r_4.Num.B, vi r_4.Num.C, vi r_4.Num.D, vi r_4.Exp]) rfl rfl rfl (by kernel_rfl) (by kernel_rfl) (by kernel_rfl) (ST.sel hS16 [0, 1] rfl rfl) (fun w' hw' => (Y_extract (v := .agg #[vi r_4.Num.A, vi r_4.Num.B, vi r_4.Num.C, vi r_4.Num.D, vi r_4.Exp]) rfl rfl rfl)) ?_
       refine ra_q 11 31 (v := .bool r_5) rfl rfl rfl (by kernel_rfl) (by kernel_rfl) (by kernel_rfl) (ST.sel hS16 [0, 1] rfl rfl) (fun w' hw' => (Y_extract (v := .bool r_5) rfl rfl rfl)) ?_
       refine ra_all (rs := [13]) (by kernel_rfl) rfl ?_
       refine ra_s0 (i := 13) rfl rfl rfl (Ys_store (i := 2) (s := 5) (B := aD b2) (T' := 44) (v := .agg #[vi r_4.Num.A, vi r_4.Num.B, vi r_4.Num.C, vi r_4.Num.D, vi r_4.Exp]) (vs := [vi r_4.Num.A, vi r_4.Num.B, vi r_4.Num.C, vi r_4.Num.D, vi r_4.Exp]) (k := 0) (cs' := [vi r_4.Num.A, vi r_4.Num.B, vi r_4.Num.C, vi r_4.Num.D, vi r_4.Exp]) hS16 k_sz_44_5 rfl rfl rfl rfl rfl rfl rfl (Nat.le_of_ble_eq_true rfl) rfl rfl) ?_ ?_
       ·rintro _ w_10 ⟨rfl, hS17⟩
        have hS17 : ST w0 [] _ [⟨aD b, 44, [vi 0, vi 0, vi 0, vi 0, vi 0], 5⟩, ⟨aD b1, 44, [vi A, vi B4, vi C, vi D, vi Exp], 5⟩, ⟨aD b2, 44, [vi r_4.Num.A, vi r_4.Num.B, vi r_4.Num.C, vi r_4.Num.D, vi r_4.Exp], 5⟩] [⟨B, [vi p.Rows, vi p.Cols, .slice B1 p.Cells.length c]⟩, ⟨B1, (p.Cells.flatMap eN0)⟩, ⟨B2, [vi p1.Rows, vi p1.Cols, .slice B3 p1.Cells.length c1]⟩, ⟨B3, (p1.Cells.flatMap eN0)⟩] := hS17
        refine ⟨(ST.sel hS17 [0, 1] rfl rfl), ?_⟩
        refine ra_q 14 11 (v := .bool r_5) rfl rfl rfl (by kernel_rfl) (by kernel_rfl) (by kernel_rfl) (ST.sel hS17 [0, 1] rfl rfl) (fun w' hw' => (Y_assign (v := .bool r_5) rfl rfl)) ?_
        refine ra_done (by kernel_rfl) ?_
        exact ⟨aD b2, (FF.cons (hf.get 0 0 rfl) (FF.cons (hf.get 1 1 rfl) (FF.cons (hf.get 2 2 rfl) (FF.cons (hf.get 3 3 rfl) (FF.cons (hf.get 6 4 rfl) (FF.cons (hf.get 8 5 rfl) (FF.cons rfl (FF.cons rfl (FF.cons (hf.get 16 6 rfl) (FF.cons (hf.get 17 7 rfl) FF.nil)))))))))), (hS17.sel [0, 1, 2] rfl rfl)⟩
       exact allR_nil
      exact allR_nil
     exact allR_nil
    refine ra_s 10 (i := 12) rfl rfl rfl (Ys_alloc (T := 44) (cs := [vi 0, vi 0, vi 0, vi 0, vi 0]) (m := 5) hS10 k_zero_44 rfl rfl rfl) ?_ ?_
    ·rintro _ w_11 ⟨b2, rfl, hS18⟩
     have hS18 : ST w0 [] _ [⟨aD b, 44, [vi 0, vi 0, vi 0, vi 0, vi 0], 5⟩, ⟨aD b1, 44, [vi A, vi B4, vi C, vi D, vi Exp], 5⟩, ⟨aD b2, 44, [vi 0, vi 0, vi 0, vi 0, vi 0], 5⟩] [⟨B, [vi p.Rows, vi p.Cols, .slice B1 p.Cells.length c]⟩, ⟨B1, (p.Cells.flatMap eN0)⟩, ⟨B2, [vi p1.Rows, vi p1.Cols, .slice B3 p1.Cells.length c1]⟩, ⟨B3, (p1.Cells.flatMap eN0)⟩] := hS18
     refine ⟨(ST.sel hS18 [0, 1] rfl rfl), ?_⟩
     refine ra_all (rs := [7]) (by kernel_rfl) rfl ?_
     refine ra_c 28 (i := 7) rfl rfl rfl (Yc_func (g := 70) (vs := [.agg #[vi p1.Rows, vi p1.Cols, .slice B3 p1.Cells.length c1], vi (i1 : Int), vi j]) k_call_70 rfl (mc rfl (mc rfl (mc rfl mn))) (c_impl_Matrix_at p1 (i1 : Int) j B3 c1 p1.Cells.length _ rfl (hS18.inn0 [(true, 3)] rfl) hc1)) ?_ ?_
     ·rintro _ w_12 ⟨rfl, hd4⟩
      have hS19 := hS18.out00 hd4
      have hS19 : ST w0 [] _ [⟨aD b, 44, [vi 0, vi 0, vi 0, vi 0, vi 0], 5⟩, ⟨aD b1, 44, [vi A, vi B4, vi C, vi D, vi Exp], 5⟩, ⟨aD b2, 44, [vi 0, vi 0, vi 0, vi 0, vi 0], 5⟩] [⟨B, [vi p.Rows, vi p.Cols, .slice B1 p.Cells.length c]⟩, ⟨B1, (p.Cells.flatMap eN0)⟩, ⟨B2, [vi p1.Rows, vi p1.Cols, .slice B3 p1.Cells.length c1]⟩, ⟨B3, (p1.Cells.flatMap eN0)⟩] := hS19
      refine ⟨(ST.sel hS19 [0, 1] rfl rfl), ?_⟩
      refine ra_all (rs := [8]) (by kernel_rfl) rfl ?_
      refine ra_c 29 (i := 8) rfl rfl rfl (Yc_func (g := 28) (vs := [.agg #[vi r_2.Num.A, vi r_2.Num.B, vi r_2.Num.C, vi r_2.Num.D, vi r_2.Exp], .agg #[vi r_3.Num.A, vi r_3.Num.B, vi r_3.Num.C, vi r_3.Num.D, vi r_3.Exp]]) k_call_28 rfl (mc rfl (mc rfl mn)) (c_impl_MulDyadic r_2 r_3 _  (hS19.inn0 [] rfl) hc2)) ?_ ?_
      ·rintro _ w_13 ⟨rfl, hd5⟩
       have hS20 := hS19.out00 hd5
       have hS20 : ST w0 [] _ [⟨aD b, 44, [vi 0, vi 0, vi 0, vi 0, vi 0], 5⟩, ⟨aD b1, 44, [vi A, vi B4, vi C, vi D, vi Exp], 5⟩, ⟨aD b2, 44, [vi 0, vi 0, vi 0, vi 0, vi 0], 5⟩] [⟨B, [vi p.Rows, vi p.Cols, .slice B1 p.Cells.length c]⟩, ⟨B1, (p.Cells.flatMap eN0)⟩, ⟨B2, [vi p1.Rows, vi p1.Cols, .slice B3 p1.Cells.length c1]⟩, ⟨B3, (p1.Cells.flatMap eN0)⟩] := hS20
       refine ⟨(ST.sel hS20 [0, 1] rfl rfl), ?_⟩
       refine ra_q 9 20 (v := .tuple #[.agg #[vi r_4.Num.A, vi r_4.Num.B, vi r_4.Num.C, vi r_4.Num.D, vi r_4.Exp], .bool r_5]) rfl rfl rfl (by kernel_rfl) (by kernel_rfl) (by kernel_rfl) (ST.sel hS20 [0, 1] rfl rfl) (fun w' hw' => (Y_move (v := .tuple #[.agg #[vi r_4.Num.A, vi r_4.Num.B, vi r_4.Num.C, vi r_4.Num.D, vi r_4.Exp], .bool r_5]) rfl rfl)) ?_
       refine ra_q 10 30 (v := .agg #[vi r_4.Num.A, vi r_4.Num.B, vi r_4.Num.C, vi r_4.Num.D, vi r_4.Exp]) rfl rfl rfl (by kernel_rfl) (by kernel_rfl) (by kernel_rfl) (ST.sel hS20 [0, 1] rfl rfl) (fun w' hw' => (Y_extract (v := .agg #[vi r_4.Num.A, vi r_4.Num.B, vi r_4.Num.C, vi r_4.Num.D, vi r_4.Exp]) rfl rfl rfl)) ?_
       refine ra_q 11 31 (v := .bool r_5) rfl rfl rfl (by kernel_rfl) (by kernel_rfl) (by kernel_rfl) (ST.sel hS20 [0, 1] rfl rfl) (fun w' hw' => (Y_extract (v := .bool r_5) rfl rfl rfl)) ?_
       refine ra_all (rs := [13]) (by kernel_rfl) rfl ?_
       refine ra_s0 (i := 13) rfl rfl rfl (Ys_store (i := 2) (s := 5) (B := aD b2) (T' := 44) (v := .agg #[vi r_4.Num.A, vi r_4.Num.B, vi r_4.Num.C, vi r_4.Num.D, vi r_4.Exp]) (vs := [vi r_4.Num.A, vi r_4.Num.B, vi r_4.Num.C, vi r_4.Num.D, vi r_4.Exp]) (k := 0) (cs' := [vi r_4.Num.A, vi r_4.Num.B, vi r_4.Num.C, vi r_4.Num.D, vi r_4.Exp]) hS20 k_sz_44_5 rfl rfl rfl rfl rfl rfl rfl (Nat.le_of_ble_eq_true rfl) rfl rfl) ?_ ?_
       ·rintro _ w_14 ⟨rfl, hS21⟩
        have hS21 : ST w0 [] _ [⟨aD b, 44, [vi 0, vi 0, vi 0, vi 0, vi 0], 5⟩, ⟨aD b1, 44, [vi A, vi B4, vi C, vi D, vi Exp], 5⟩, ⟨aD b2, 44, [vi r_4.Num.A, vi r_4.Num.B, vi r_4.Num.C, vi r_4.Num.D, vi r_4.Exp], 5⟩] [⟨B, [vi p.Rows, vi p.Cols, .slice B1 p.Cells.length c]⟩, ⟨B1, (p.Cells.flatMap eN0)⟩, ⟨B2, [vi p1.Rows, vi p1.Cols, .slice B3 p1.Cells.length c1]⟩, ⟨B3, (p1.Cells.flatMap eN0)⟩] := hS21
        refine ⟨(ST.sel hS21 [0, 1] rfl rfl), ?_⟩
        refine ra_q 14 11 (v := .bool r_5) rfl rfl rfl (by kernel_rfl) (by kernel_rfl) (by kernel_rfl) (ST.sel hS21 [0, 1] rfl rfl) (fun w' hw' => (Y_assign (v := .bool r_5) rfl rfl)) ?_
        refine ra_done (by kernel_rfl) ?_
        exact ⟨aD b2, (FF.cons (hf.get 0 0 rfl) (FF.cons (hf.get 1 1 rfl) (FF.cons (hf.get 2 2 rfl) (FF.cons (hf.get 3 3 rfl) (FF.cons (hf.get 6 4 rfl) (FF.cons (hf.get 8 5 rfl) (FF.cons rfl (FF.cons rfl (FF.cons (hf.get 16 6 rfl) (FF.cons (hf.get 17 7 rfl) FF.nil)))))))))), (hS21.sel [0, 1, 2] rfl rfl)⟩
       exact allR_nil
      exact allR_nil
     exact allR_nil
    exact allR_nil
   refine ra_s 10 (i := 12) rfl rfl rfl (Ys_alloc (T := 44) (cs := [vi 0, vi 0, vi 0, vi 0, vi 0]) (m := 5) hS9 k_zero_44 rfl rfl rfl) ?_ ?_
   ·rintro _ w_15 ⟨b2, rfl, hS22⟩
    have hS22 : ST w0 [] _ [⟨aD b, 44, [vi 0, vi 0, vi 0, vi 0, vi 0], 5⟩, ⟨aD b1, 44, [vi A, vi B4, vi C, vi D, vi Exp], 5⟩, ⟨aD b2, 44, [vi 0, vi 0, vi 0, vi 0, vi 0], 5⟩] [⟨B, [vi p.Rows, vi p.Cols, .slice B1 p.Cells.length c]⟩, ⟨B1, (p.Cells.flatMap eN0)⟩, ⟨B2, [vi p1.Rows, vi p1.Cols, .slice B3 p1.Cells.length c1]⟩, ⟨B3, (p1.Cells.flatMap eN0)⟩] := hS22
    refine ⟨(ST.sel hS22 [0, 1] rfl rfl), ?_⟩
    refine ra_all (rs := [3]) (by kernel_rfl) rfl ?_
    refine ra_c 24 (i := 3) rfl rfl rfl (Yc_func (g := 70) (vs := [.agg #[vi p.Rows, vi p.Cols, .slice B1 p.Cells.length c], vi i, vi (i1 : Int)]) k_call_70 rfl (mc rfl (mc rfl (mc rfl mn))) (c_impl_Matrix_at p i (i1 : Int) B1 c p.Cells.length _ rfl (hS22.inn0 [(true, 1)] rfl) hc)) ?_ ?_
    ·rintro _ w_16 ⟨rfl, hd6⟩
     have hS23 := hS22.out00 hd6
     have hS23 : ST w0 [] _ [⟨aD b, 44, [vi 0, vi 0, vi 0, vi 0, vi 0], 5⟩, ⟨aD b1, 44, [vi A, vi B4, vi C, vi D, vi Exp], 5⟩, ⟨aD b2, 44, [vi 0, vi 0, vi 0, vi 0, vi 0], 5⟩] [⟨B, [vi p.Rows, vi p.Cols, .slice B1 p.Cells.length c]⟩, ⟨B1, (p.Cells.flatMap eN0)⟩, ⟨B2, [vi p1.Rows, vi p1.Cols, .slice B3 p1.Cells.length c1]⟩, ⟨B3, (p1.Cells.flatMap eN0)⟩] := hS23
     refine ⟨(ST.sel hS23 [0, 1] rfl rfl), ?_⟩
     refine ra_all (rs := [7]) (by kernel_rfl) rfl ?_
     refine ra_c 28 (i := 7) rfl rfl rfl (Yc_func (g := 70) (vs := [.agg #[vi p1.Rows, vi p1.Cols, .slice B3 p1.Cells.length c1], vi (i1 : Int), vi j]) k_call_70 rfl (mc rfl (mc rfl (mc rfl mn))) (c_impl_Matrix_at p1 (i1 : Int) j B3 c1 p1.Cells.length _ rfl (hS23.inn0 [(true, 3)] rfl) hc1)) ?_ ?_
     ·rintro _ w_17 ⟨rfl, hd7⟩
      have hS24 := hS23.out00 hd7
      have hS24 : ST w0 [] _ [⟨aD b, 44, [vi 0, vi 0, vi 0, vi 0, vi 0], 5⟩, ⟨aD b1, 44, [vi A, vi B4, vi C, vi D, vi Exp], 5⟩, ⟨aD b2, 44, [vi 0, vi 0, vi 0, vi 0, vi 0], 5⟩] [⟨B, [vi p.Rows, vi p.Cols, .slice B1 p.Cells.length c]⟩, ⟨B1, (p.Cells.flatMap eN0)⟩, ⟨B2, [vi p1.Rows, vi p1.Cols, .slice B3 p1.Cells.length c1]⟩, ⟨B3, (p1.Cells.flatMap eN0)⟩] := hS24
      refine ⟨(ST.sel hS24 [0, 1] rfl rfl), ?_⟩
      refine ra_all (rs := [8]) (by kernel_rfl) rfl ?_
      refine ra_c 29 (i := 8) rfl rfl rfl (Yc_func (g := 28) (vs := [.agg #[vi r_2.Num.A, vi r_2.Num.B, vi r_2.Num.C, vi r_2.Num.D, vi r_2.Exp], .agg #[vi r_3.Num.A, vi r_3.Num.B, vi r_3.Num.C, vi r_3.Num.D, vi r_3.Exp]]) k_call_28 rfl (mc rfl (mc rfl mn)) (c_impl_MulDyadic r_2 r_3 _  (hS24.inn0 [] rfl) hc2)) ?_ ?_
      ·rintro _ w_18 ⟨rfl, hd8⟩
       have hS25 := hS24.out00 hd8
       have hS25 : ST w0 [] _ [⟨aD b, 44, [vi 0, vi 0, vi 0, vi 0, vi 0], 5⟩, ⟨aD b1, 44, [vi A, vi B4, vi C, vi D, vi Exp], 5⟩, ⟨aD b2, 44, [vi 0, vi 0, vi 0, vi 0, vi 0], 5⟩] [⟨B, [vi p.Rows, vi p.Cols, .slice B1 p.Cells.length c]⟩, ⟨B1, (p.Cells.flatMap eN0)⟩, ⟨B2, [vi p1.Rows, vi p1.Cols, .slice B3 p1.Cells.length c1]⟩, ⟨B3, (p1.Cells.flatMap eN0)⟩] := hS25
       refine ⟨(ST.sel hS25 [0, 1] rfl rfl), ?_⟩
       refine ra_q 9 20 (v := .tuple #[.agg #[vi r_4.Num.A, vi r_4.Num.B, vi r_4.Num.C, vi r_4.Num.D, vi r_4.Exp], .bool r_5]) rfl rfl rfl (by kernel_rfl) (by kernel_rfl) (by kernel_rfl) (ST.sel hS25 [0, 1] rfl rfl) (fun w' hw' => (Y_move (v := .tuple #[.agg #[vi r_4.Num.A, vi r_4.Num.B, vi r_4.Num.C, vi r_4.Num.D, vi r_4.Exp], .bool r_5]) rfl rfl)) ?_
       refine ra_q 10 30 (v := .agg #[vi r_4.Num.A, vi r_4.Num.B, vi r_4.Num.C, vi r_4.Num.D, vi r_4.Exp]) rfl rfl rfl (by kernel_rfl) (by kernel_rfl) (by kernel_rfl) (ST.sel hS25 [0, 1] rfl rfl) (fun w' hw' => (Y_extract (v := .agg #[vi r_4.Num.A, vi r_4.Num.B, vi r_4.Num.C, vi r_4.Num.D, vi r_4.Exp]) rfl rfl rfl)) ?_
       refine ra_q 11 31 (v := .bool r_5) rfl rfl rfl (by kernel_rfl) (by kernel_rfl) (by kernel_rfl) (ST.sel hS25 [0, 1] rfl rfl) (fun w' hw' => (Y_extract (v := .bool r_5) rfl rfl rfl)) ?_
       refine ra_all (rs := [13]) (by kernel_rfl) rfl ?_
       refine ra_s0 (i := 13) rfl rfl rfl (Ys_store (i := 2) (s := 5) (B := aD b2) (T' := 44) (v := .agg #[vi r_4.Num.A, vi r_4.Num.B, vi r_4.Num.C, vi r_4.Num.D, vi r_4.Exp]) (vs := [vi r_4.Num.A, vi r_4.Num.B, vi r_4.Num.C, vi r_4.Num.D, vi r_4.Exp]) (k := 0) (cs' := [vi r_4.Num.A, vi r_4.Num.B, vi r_4.Num.C, vi r_4.Num.D, vi r_4.Exp]) hS25 k_sz_44_5 rfl rfl rfl rfl rfl rfl rfl (Nat.le_of_ble_eq_true rfl) rfl rfl) ?_ ?_
       ·rintro _ w_19 ⟨rfl, hS26⟩
        have hS26 : ST w0 [] _ [⟨aD b, 44, [vi 0, vi 0, vi 0, vi 0, vi 0], 5⟩, ⟨aD b1, 44, [vi A, vi B4, vi C, vi D, vi Exp], 5⟩, ⟨aD b2, 44, [vi r_4.Num.A, vi r_4.Num.B, vi r_4.Num.C, vi r_4.Num.D, vi r_4.Exp], 5⟩] [⟨B, [vi p.Rows, vi p.Cols, .slice B1 p.Cells.length c]⟩, ⟨B1, (p.Cells.flatMap eN0)⟩, ⟨B2, [vi p1.Rows, vi p1.Cols, .slice B3 p1.Cells.length c1]⟩, ⟨B3, (p1.Cells.flatMap eN0)⟩] := hS26
        refine ⟨(ST.sel hS26 [0, 1] rfl rfl), ?_⟩
        refine ra_q 14 11 (v := .bool r_5) rfl rfl rfl (by kernel_rfl) (by kernel_rfl) (by kernel_rfl) (ST.sel hS26 [0, 1] rfl rfl) (fun w' hw' => (Y_assign (v := .bool r_5) rfl rfl)) ?_
        refine ra_done (by kernel_rfl) ?_
        exact ⟨aD b2, (FF.cons (hf.get 0 0 rfl) (FF.cons (hf.get 1 1 rfl) (FF.cons (hf.get 2 2 rfl) (FF.cons (hf.get 3 3 rfl) (FF.cons (hf.get 6 4 rfl) (FF.cons (hf.get 8 5 rfl) (FF.cons rfl (FF.cons rfl (FF.cons (hf.get 16 6 rfl) (FF.cons (hf.get 17 7 rfl) FF.nil)))))))))), (hS26.sel [0, 1, 2] rfl rfl)⟩
       exact allR_nil
      exact allR_nil
     exact allR_nil
    exact allR_nil
   exact allR_nil
  rintro f w ⟨B5, hf1, hS8⟩
  refine cw_seq ?_
  refine cw_region ?_
  refine sq 33 rfl rfl (Y_loadA (B := aD b1) (i := 0) (cs := [vi A, vi B4, vi C, vi D, vi Exp]) (vs := [vi A, vi B4, vi C, vi D, vi Exp]) k_ag_44 k_sz_44_5 rfl (hf1.get 8 5 rfl) (hS8.cf (i := 1) rfl) rfl rfl) ?_
  refine sq 34 rfl rfl (Y_loadA (B := B5) (i := 0) (cs := [vi r_4.Num.A, vi r_4.Num.B, vi r_4.Num.C, vi r_4.Num.D, vi r_4.Exp]) (vs := [vi r_4.Num.A, vi r_4.Num.B, vi r_4.Num.C, vi r_4.Num.D, vi r_4.Exp]) k_ag_44 k_sz_44_5 rfl (hf1.get 10 6 rfl) (hS8.cf (i := 2) rfl) rfl rfl) ?_
  obtain ⟨⟨r_6, r_7⟩, hc3, hb⟩ := bind_inv hb
  refine sc 35 rfl rfl (Yc_func (g := 29) (vs := [.agg #[vi A, vi B4, vi C, vi D, vi Exp], .agg #[vi r_4.Num.A, vi r_4.Num.B, vi r_4.Num.C, vi r_4.Num.D, vi r_4.Exp]]) k_call_29 rfl (mc rfl (mc rfl mn)) (c_impl_AddDyadic (TDyadic.mk (TRing.mk A B4 C D) Exp) r_4 _  (hS8.inn0 [] rfl) hc3)) ?_
  rintro _ w_20 ⟨rfl, hd9⟩
  have hS27 := hS8.out00 hd9
  have hS27 : ST w0 [] _ [⟨aD b, 44, [vi 0, vi 0, vi 0, vi 0, vi 0], 5⟩, ⟨aD b1, 44, [vi A, vi B4, vi C, vi D, vi Exp], 5⟩, ⟨B5, 44, [vi r_4.Num.A, vi r_4.Num.B, vi r_4.Num.C, vi r_4.Num.D, vi r_4.Exp], 5⟩] [⟨B, [vi p.Rows, vi p.Cols, .slice B1 p.Cells.length c]⟩, ⟨B1, (p.Cells.flatMap eN0)⟩, ⟨B2, [vi p1.Rows, vi p1.Cols, .slice B3 p1.Cells.length c1]⟩, ⟨B3, (p1.Cells.flatMap eN0)⟩] := hS27
  refine sq 32 rfl rfl (Y_move (v := .tuple #[.agg #[vi r_6.Num.A, vi r_6.Num.B, vi r_6.Num.C, vi r_6.Num.D, vi r_6.Exp], .bool r_7]) rfl rfl) ?_
  refine sq 36 rfl rfl (Y_extract (v := .agg #[vi r_6.Num.A, vi r_6.Num.B, vi r_6.Num.C, vi r_6.Num.D, vi r_6.Exp]) rfl rfl rfl) ?_
  refine sq 37 rfl rfl (Y_extract (v := .bool r_7) rfl rfl rfl) ?_
  refine ss 12 rfl rfl (Ys_alloc (T := 44) (cs := [vi 0, vi 0, vi 0, vi 0, vi 0]) (m := 5) hS27 k_zero_44 rfl rfl rfl) ?_
  rintro _ w_21 ⟨b3, rfl, hS28⟩
  have hS28 : ST w0 [] _ [⟨aD b, 44, [vi 0, vi 0, vi 0, vi 0, vi 0], 5⟩, ⟨aD b1, 44, [vi A, vi B4, vi C, vi D, vi Exp], 5⟩, ⟨B5, 44, [vi r_4.Num.A, vi r_4.Num.B, vi r_4.Num.C, vi r_4.Num.D, vi r_4.Exp], 5⟩, ⟨aD b3, 44, [vi 0, vi 0, vi 0, vi 0, vi 0], 5⟩] [⟨B, [vi p.Rows, vi p.Cols, .slice B1 p.Cells.length c]⟩, ⟨B1, (p.Cells.flatMap eN0)⟩, ⟨B2, [vi p1.Rows, vi p1.Cols, .slice B3 p1.Cells.length c1]⟩, ⟨B3, (p1.Cells.flatMap eN0)⟩] := hS28
  refine ss0 rfl rfl (Ys_store (i := 3) (s := 5) (B := aD b3) (T' := 44) (v := .agg #[vi r_6.Num.A, vi r_6.Num.B, vi r_6.Num.C, vi r_6.Num.D, vi r_6.Exp]) (vs := [vi r_6.Num.A, vi r_6.Num.B, vi r_6.Num.C, vi r_6.Num.D, vi r_6.Exp]) (k := 0) (cs' := [vi r_6.Num.A, vi r_6.Num.B, vi r_6.Num.C, vi r_6.Num.D, vi r_6.Exp]) hS28 k_sz_44_5 rfl rfl rfl rfl rfl rfl rfl (Nat.le_of_ble_eq_true rfl) rfl rfl) ?_
  rintro _ w_22 ⟨rfl, hS29⟩
  have hS29 : ST w0 [] _ [⟨aD b, 44, [vi 0, vi 0, vi 0, vi 0, vi 0], 5⟩, ⟨aD b1, 44, [vi A, vi B4, vi C, vi D, vi Exp], 5⟩, ⟨B5, 44, [vi r_4.Num.A, vi r_4.Num.B, vi r_4.Num.C, vi r_4.Num.D, vi r_4.Exp], 5⟩, ⟨aD b3, 44, [vi r_6.Num.A, vi r_6.Num.B, vi r_6.Num.C, vi r_6.Num.D, vi r_6.Exp], 5⟩] [⟨B, [vi p.Rows, vi p.Cols, .slice B1 p.Cells.length c]⟩, ⟨B1, (p.Cells.flatMap eN0)⟩, ⟨B2, [vi p1.Rows, vi p1.Cols, .slice B3 p1.Cells.length c1]⟩, ⟨B3, (p1.Cells.flatMap eN0)⟩] := hS29
  refine sq 13 rfl rfl (Y_assign (v := .bool r_7) rfl rfl) ?_
  refine rw_nil ?_
  refine cw_seq ?_
  refine cw_seq ?_
  refine cw_region ?_
  refine sq 38 rfl rfl (Y_move (v := .bool r_5) rfl (hf1.get 11 7 rfl)) ?_
  refine sq 39 rfl rfl (Y_not (p := r_5) rfl rfl) ?_
  refine sq 40 rfl rfl (Y_move (v := .bool (!r_5)) rfl rfl) ?_
  refine sgq 41 (B := (!(!r_5))) (v := .bool r_7) rfl rfl (wt_f (gd_of (t := 40) (by kernel_rfl) rfl)) (fun hg => (Y_move (v := .bool r_7) rfl rfl)) ?_
  refine sgq 42 (B := (!(!r_5))) (v := .bool (!r_7)) rfl rfl (wt_f (gd_of (t := 40) (by kernel_rfl) rfl)) (fun hg1 => (Y_not (p := r_7) rfl (gv_of (B := (!(!r_5))) (v := .bool r_7) hg1))) ?_
  refine sq 43 rfl rfl (Y_or (b := (!r_5)) (z := (!r_7)) rfl rfl rfl rfl) ?_
  refine rw_nil ?_
  refine cw_cond (b := ((!r_5) || (!r_7))) rfl (fun hb1 => ?_) (fun hb1 => ?_)
  ·skip
   have hF2 := ct hb hb1
   refine cw_seq ?_
   refine cw_region ?_
   refine sq 44 rfl rfl (Y_buildS (zs := [vi 0, vi 0, vi 0, vi 0, vi 0]) (vs := []) (cs := [vi 0, vi 0, vi 0, vi 0, vi 0]) k_pl_44 k_zero_44 rfl mpn rfl) ?_
   refine ss0 rfl rfl (Ys_store (i := 0) (s := 5) (B := aD b) (T' := 44) (v := .agg #[vi 0, vi 0, vi 0, vi 0, vi 0]) (vs := [vi 0, vi 0, vi 0, vi 0, vi 0]) (k := 0) (cs' := [vi 0, vi 0, vi 0, vi 0, vi 0]) hS29 k_sz_44_5 rfl (hf1.get 6 4 rfl) rfl rfl rfl rfl rfl (Nat.le_of_ble_eq_true rfl) rfl rfl) ?_
   rintro _ w_23 ⟨rfl, hS30⟩
   have hS30 : ST w0 [] _ [⟨aD b, 44, [vi 0, vi 0, vi 0, vi 0, vi 0], 5⟩, ⟨aD b1, 44, [vi A, vi B4, vi C, vi D, vi Exp], 5⟩, ⟨B5, 44, [vi r_4.Num.A, vi r_4.Num.B, vi r_4.Num.C, vi r_4.Num.D, vi r_4.Exp], 5⟩, ⟨aD b3, 44, [vi r_6.Num.A, vi r_6.Num.B, vi r_6.Num.C, vi r_6.Num.D, vi r_6.Exp], 5⟩] [⟨B, [vi p.Rows, vi p.Cols, .slice B1 p.Cells.length c]⟩, ⟨B1, (p.Cells.flatMap eN0)⟩, ⟨B2, [vi p1.Rows, vi p1.Cols, .slice B3 p1.Cells.length c1]⟩, ⟨B3, (p1.Cells.flatMap eN0)⟩] := hS30
   refine sq 7 rfl rfl (Y_assign (v := .bool false) rfl rfl) ?_
   refine rw_nil ?_
   refine cw_ret ?_
   obtain rfl := some_inj hF2
   obtain rfl := some_inj hL1
   obtain ⟨rfl, rfl⟩ := pr2 (some_inj hF1)
   exact ret2 Tryd.results87 (v1 := .agg #[vi 0, vi 0, vi 0, vi 0, vi 0]) (resAt_cellA (B := aD b) (i := 0) (cs := [vi 0, vi 0, vi 0, vi 0, vi 0]) (vs := [vi 0, vi 0, vi 0, vi 0, vi 0]) (hf1.get 6 4 rfl) k_ag_44 k_sz_44_5 (hS30.cf (i := 0) rfl) rfl rfl) (v2 := .bool false) (resAt_tmp rfl) ⟨rfl, (ST.subR (R' := []) (hS30.sel [] rfl rfl) (fun _ h => by cases h))⟩
  ·skip
   have hF3 := cf' hb hb1
   refine cw_skip ?_
   refine cw_region ?_
   refine sq 45 rfl rfl (Y_loadA (B := aD b3) (i := 0) (cs := [vi r_6.Num.A, vi r_6.Num.B, vi r_6.Num.C, vi r_6.Num.D, vi r_6.Exp]) (vs := [vi r_6.Num.A, vi r_6.Num.B, vi r_6.Num.C, vi r_6.Num.D, vi r_6.Exp]) k_ag_44 k_sz_44_5 rfl rfl (hS29.cf (i := 3) rfl) rfl rfl) ?_
   refine ss0 rfl rfl (Ys_store (i := 1) (s := 5) (B := aD b1) (T' := 44) (v := .agg #[vi r_6.Num.A, vi r_6.Num.B, vi r_6.Num.C, vi r_6.Num.D, vi r_6.Exp]) (vs := [vi r_6.Num.A, vi r_6.Num.B, vi r_6.Num.C, vi r_6.Num.D, vi r_6.Exp]) (k := 0) (cs' := [vi r_6.Num.A, vi r_6.Num.B, vi r_6.Num.C, vi r_6.Num.D, vi r_6.Exp]) hS29 k_sz_44_5 rfl (hf1.get 8 5 rfl) rfl rfl rfl rfl rfl (Nat.le_of_ble_eq_true rfl) rfl rfl) ?_
   rintro _ w_24 ⟨rfl, hS31⟩
   have hS31 : ST w0 [] _ [⟨aD b, 44, [vi 0, vi 0, vi 0, vi 0, vi 0], 5⟩, ⟨aD b1, 44, [vi r_6.Num.A, vi r_6.Num.B, vi r_6.Num.C, vi r_6.Num.D, vi r_6.Exp], 5⟩, ⟨B5, 44, [vi r_4.Num.A, vi r_4.Num.B, vi r_4.Num.C, vi r_4.Num.D, vi r_4.Exp], 5⟩, ⟨aD b3, 44, [vi r_6.Num.A, vi r_6.Num.B, vi r_6.Num.C, vi r_6.Num.D, vi r_6.Exp], 5⟩] [⟨B, [vi p.Rows, vi p.Cols, .slice B1 p.Cells.length c]⟩, ⟨B1, (p.Cells.flatMap eN0)⟩, ⟨B2, [vi p1.Rows, vi p1.Cols, .slice B3 p1.Cells.length c1]⟩, ⟨B3, (p1.Cells.flatMap eN0)⟩] := hS31
   refine rw_nil ?_
   refine cw_region ?_
   refine sq 46 rfl rfl (Y_add (k := .i64) (a := (i1 : Int)) (b := 1) rfl (hf1.get 17 9 rfl) rfl) ?_
   refine sq 17 rfl rfl (Y_move (v := vi (i64.wrap ((i1 : Int) + 1))) rfl rfl) ?_
   refine rw_nil ?_
   obtain rfl := some_inj hF3
   exact ⟨k_1, Nat.lt_succ_self _, i1 + 1, r_6.Num.A, r_6.Num.B, r_6.Num.C, r_6.Num.D, r_6.Exp, (FF.cons (hf1.get 0 0 rfl) (FF.cons (hf1.get 1 1 rfl) (FF.cons (hf1.get 2 2 rfl) (FF.cons (hf1.get 3 3 rfl) (FF.cons (hf1.get 6 4 rfl) (FF.cons (hf1.get 8 5 rfl) (FF.cons (hf1.get 16 8 rfl) (FF.cons (congrArg (Value.int .i64) (wr_succ hlt1 hN)) FF.nil)))))))), (hS31.sel [0, 1] rfl rfl), (by omega), hL1⟩
 ·skip
  obtain rfl : k_ = 0 := by have h := of_decide_eq_false hlt; omega
  refine cw_exit rfl ?_
  obtain rfl := some_inj hL
  refine cw_seq ?_
  refine cw_region ?_
  refine sq 47 rfl rfl (Y_loadA (B := aD b1) (i := 0) (cs := [vi A, vi B4, vi C, vi D, vi Exp]) (vs := [vi A, vi B4, vi C, vi D, vi Exp]) k_ag_44 k_sz_44_5 rfl (hf.get 8 5 rfl) (hS4.cf (i := 1) rfl) rfl rfl) ?_
  refine ss0 rfl rfl (Ys_store (i := 0) (s := 5) (B := aD b) (T' := 44) (v := .agg #[vi A, vi B4, vi C, vi D, vi Exp]) (vs := [vi A, vi B4, vi C, vi D, vi Exp]) (k := 0) (cs' := [vi A, vi B4, vi C, vi D, vi Exp]) hS4 k_sz_44_5 rfl (hf.get 6 4 rfl) rfl rfl rfl rfl rfl (Nat.le_of_ble_eq_true rfl) rfl rfl) ?_
  rintro _ w_25 ⟨rfl, hS32⟩
  have hS32 : ST w0 [] _ [⟨aD b, 44, [vi A, vi B4, vi C, vi D, vi Exp], 5⟩, ⟨aD b1, 44, [vi A, vi B4, vi C, vi D, vi Exp], 5⟩] [⟨B, [vi p.Rows, vi p.Cols, .slice B1 p.Cells.length c]⟩, ⟨B1, (p.Cells.flatMap eN0)⟩, ⟨B2, [vi p1.Rows, vi p1.Cols, .slice B3 p1.Cells.length c1]⟩, ⟨B3, (p1.Cells.flatMap eN0)⟩] := hS32
  refine sq 7 rfl rfl (Y_assign (v := .bool true) rfl rfl) ?_
  refine rw_nil ?_
  refine cw_ret ?_
  obtain ⟨rfl, rfl⟩ := pr2 (some_inj hF1)
  exact ret2 Tryd.results87 (v1 := .agg #[vi A, vi B4, vi C, vi D, vi Exp]) (resAt_cellA (B := aD b) (i := 0) (cs := [vi A, vi B4, vi C, vi D, vi Exp]) (vs := [vi A, vi B4, vi C, vi D, vi Exp]) (hf.get 6 4 rfl) k_ag_44 k_sz_44_5 (hS32.cf (i := 0) rfl) rfl rfl) (v2 := .bool true) (resAt_tmp rfl) ⟨rfl, (ST.subR (R' := []) (hS32.sel [] rfl rfl) (fun _ h => by cases h))⟩

theorem c_impl_MulMatrix (a : TMatrix) (b : TMatrix) (B : Option Addr) (c n : Nat) (B1 : Option Addr) (c1 n1 : Nat) (w0 : World) (hn : a.Cells.length = n) (hn1 : b.Cells.length = n1) (hS : ST w0 [] w0 [] [⟨B, (a.Cells.flatMap eN0)⟩, ⟨B1, (b.Cells.flatMap eN0)⟩]) {r_ : TMatrix} {r_1 : Bool} (hF : F_impl_MulMatrix a b = some (r_, r_1)) :
  CV Tryd.prog 71 #[.agg #[vi a.Rows, vi a.Cols, .slice B n c], .agg #[vi b.Rows, vi b.Cols, .slice B1 n1 c1]] w0 (fun v w' => ∃ (B2 : Option Addr) (c2 : Nat), v = .tuple #[.agg #[vi r_.Rows, vi r_.Cols, .slice B2 r_.Cells.length c2], .bool r_1] ∧ ST w0 [] w' [⟨B2, 44, (r_.Cells.flatMap eN0), c2 * 5⟩] []) := by
 subst hn
 subst hn1
 unfold F_impl_MulMatrix at hF
 refine cv_of_cw 30 Tryd.func71 rfl Tryd.ntmps71 rfl ?_
 refine cw_seq ?_
 refine cw_region ?_
 refine ss 2 rfl rfl (Ys_box (T := 38) (v := .agg #[vi a.Rows, vi a.Cols, .slice B a.Cells.length c]) (cs := [vi a.Rows, vi a.Cols, .slice B a.Cells.length c]) (m := 3) hS rfl rfl rfl rfl) ?_
 rintro _ w_ ⟨b1, rfl, hS1⟩
 refine ss 3 rfl rfl (Ys_box (T := 38) (v := .agg #[vi b.Rows, vi b.Cols, .slice B1 b.Cells.length c1]) (cs := [vi b.Rows, vi b.Cols, .slice B1 b.Cells.length c1]) (m := 3) hS1 rfl rfl rfl rfl) ?_
 rintro _ w_1 ⟨b2, rfl, hS2⟩
 have hS2 : ST w0 [] _ [⟨aD b1, 38, [vi a.Rows, vi a.Cols, .slice B a.Cells.length c], 3⟩, ⟨aD b2, 38, [vi b.Rows, vi b.Cols, .slice B1 b.Cells.length c1], 3⟩] [⟨B, (a.Cells.flatMap eN0)⟩, ⟨B1, (b.Cells.flatMap eN0)⟩] := hS2
 refine ss 4 rfl rfl (Ys_alloc (T := 38) (cs := [vi 0, vi 0, .slice none 0 0]) (m := 3) hS2 k_zero_38 rfl rfl rfl) ?_
 rintro _ w_2 ⟨b3, rfl, hS3⟩
 have hS3 : ST w0 [] _ [⟨aD b1, 38, [vi a.Rows, vi a.Cols, .slice B a.Cells.length c], 3⟩, ⟨aD b2, 38, [vi b.Rows, vi b.Cols, .slice B1 b.Cells.length c1], 3⟩, ⟨aD b3, 38, [vi 0, vi 0, .slice none 0 0], 3⟩] [⟨B, (a.Cells.flatMap eN0)⟩, ⟨B1, (b.Cells.flatMap eN0)⟩] := hS3
 refine sq 5 rfl rfl (Y_assign (v := .bool false) rfl rfl) ?_
 refine rw_nil ?_
 refine cw_seq ?_
 refine cw_seq ?_
 refine cw_region ?_
 refine sq 6 rfl rfl (Y_loadA (B := aD b1) (i := 0) (cs := [vi a.Rows, vi a.Cols, .slice B a.Cells.length c]) (vs := [vi a.Rows, vi a.Cols, .slice B a.Cells.length c]) k_ag_38 k_sz_38_3 rfl rfl (hS3.cf (i := 0) rfl) rfl rfl) ?_
 obtain ⟨r_2, hc, hF⟩ := bind_inv hF
 refine sc 7 rfl rfl (Yc_func (g := 66) (vs := [.agg #[vi a.Rows, vi a.Cols, .slice B a.Cells.length c]]) k_call_66 rfl (mc rfl mn) (c_impl_IsValidMatrix a B c a.Cells.length _ rfl (hS3.inn0 [(true, 0)] rfl) hc)) ?_
 rintro _ w_3 ⟨rfl, hd⟩
 have hS4 := hS3.out00 hd
 have hS4 : ST w0 [] _ [⟨aD b1, 38, [vi a.Rows, vi a.Cols, .slice B a.Cells.length c], 3⟩, ⟨aD b2, 38, [vi b.Rows, vi b.Cols, .slice B1 b.Cells.length c1], 3⟩, ⟨aD b3, 38, [vi 0, vi 0, .slice none 0 0], 3⟩] [⟨B, (a.Cells.flatMap eN0)⟩, ⟨B1, (b.Cells.flatMap eN0)⟩] := hS4
 refine sq 8 rfl rfl (Y_not (p := r_2) rfl rfl) ?_
 refine sq 9 rfl rfl (Y_move (v := .bool (!r_2)) rfl rfl) ?_
 refine sgq 10 (B := (!(!r_2))) (v := .agg #[vi b.Rows, vi b.Cols, .slice B1 b.Cells.length c1]) rfl rfl (wt_f (gd_of (t := 9) (by kernel_rfl) rfl)) (fun hg => (Y_loadA (B := aD b2) (i := 0) (cs := [vi b.Rows, vi b.Cols, .slice B1 b.Cells.length c1]) (vs := [vi b.Rows, vi b.Cols, .slice B1 b.Cells.length c1]) k_ag_38 k_sz_38_3 rfl rfl (hS4.cf (i := 1) rfl) rfl rfl)) ?_
 obtain ⟨r_3, hc1, hF⟩ := bind_inv hF
 refine sgc 11 (B := (!(!r_2))) (v := .bool r_3) (F := hS4.fn) rfl rfl (wt_f (gd_of (t := 9) (by kernel_rfl) rfl)) hS4 (fun hg1 => (Yc_func (g := 66) (vs := [.agg #[vi b.Rows, vi b.Cols, .slice B1 b.Cells.length c1]]) k_call_66 rfl (mc (gv_of (B := (!(!r_2))) (v := .agg #[vi b.Rows, vi b.Cols, .slice B1 b.Cells.length c1]) hg1) mn) (CV.mono (c_impl_IsValidMatrix b B1 c1 b.Cells.length _ rfl (hS4.inn0 [(true, 1)] rfl) (gb_inv hc1 hg1)) (by rintro _ _ ⟨rfl, h⟩; exact ⟨rfl, hS4.out00 h⟩)))) ?_
 rintro w_4 hS5
 have hS5 : ST _ _ w_4 _ _ := hS5
 refine sgq 12 (B := (!(!r_2))) (v := .bool (!r_3)) rfl rfl (wt_f (gd_of (t := 9) (by kernel_rfl) rfl)) (fun hg2 => (Y_not (p := r_3) rfl (gv_of (B := (!(!r_2))) (v := .bool r_3) hg2))) ?_
 refine sq 13 rfl rfl (Y_or (b := (!r_2)) (z := (!r_3)) rfl rfl rfl rfl) ?_
 refine sq 14 rfl rfl (Y_move (v := .bool ((!r_2) || (!r_3))) rfl rfl) ?_
 refine sgq 15 (B := (!((!r_2) || (!r_3)))) (v := pt (aD b1) 1) rfl rfl (wt_f (gd_of (t := 14) (by kernel_rfl) rfl)) (fun hg3 => (Y_fieldAddr (B := aD b1) (i := 0) (s := 0) k_fd_38_1_1_3 k_sz_3_1 rfl rfl)) ?_
 refine sgq 16 (B := (!((!r_2) || (!r_3)))) (v := vi a.Cols) rfl rfl (wt_f (gd_of (t := 14) (by kernel_rfl) rfl)) (fun hg4 => (Y_load1 (B := aD b1) (i := 1) (cs := [vi a.Rows, vi a.Cols, .slice B a.Cells.length c]) (v := vi a.Cols) k_sc_3 rfl (gv_of (B := (!((!r_2) || (!r_3)))) (v := pt (aD b1) 1) hg4) (hS5.cf (i := 0) rfl) rfl)) ?_
 refine sgq 17 (B := (!((!r_2) || (!r_3)))) (v := pt (aD b2) 0) rfl rfl (wt_f (gd_of (t := 14) (by kernel_rfl) rfl)) (fun hg5 => (Y_fieldAddr (B := aD b2) (i := 0) (s := 0) k_fd_38_0_0_3 k_sz_3_1 rfl rfl)) ?_
 refine sgq 18 (B := (!((!r_2) || (!r_3)))) (v := vi b.Rows) rfl rfl (wt_f (gd_of (t := 14) (by kernel_rfl) rfl)) (fun hg6 => (Y_load1 (B := aD b2) (i := 0) (cs := [vi b.Rows, vi b.Cols, .slice B1 b.Cells.length c1]) (v := vi b.Rows) k_sc_3 rfl (gv_of (B := (!((!r_2) || (!r_3)))) (v := pt (aD b2) 0) hg6) (hS5.cf (i := 1) rfl) rfl)) ?_
 refine sgq 19 (B := (!((!r_2) || (!r_3)))) (v := .bool (a.Cols != b.Rows)) rfl rfl (wt_f (gd_of (t := 14) (by kernel_rfl) rfl)) (fun hg7 => (Y_ne (k := .i64) (a := a.Cols) (b := b.Rows) rfl (gv_of (B := (!((!r_2) || (!r_3)))) (v := vi a.Cols) hg7) (gv_of (B := (!((!r_2) || (!r_3)))) (v := vi b.Rows) hg7))) ?_
 refine sq 20 rfl rfl (Y_or (b := ((!r_2) || (!r_3))) (z := (a.Cols != b.Rows)) rfl rfl rfl rfl) ?_
 refine rw_nil ?_
 refine cw_cond (b := (((!r_2) || (!r_3)) || (a.Cols != b.Rows))) rfl (fun hb => ?_) (fun hb => ?_)
 ·skip
  have hF1 := ct hF hb
  refine cw_seq ?_
  refine cw_region ?_
  refine sq 21 rfl rfl (Y_buildS (zs := [vi 0, vi 0, .slice none 0 0]) (vs := []) (cs := [vi 0, vi 0, .slice none 0 0]) k_pl_38 k_zero_38 rfl mpn rfl) ?_
  refine ss0 rfl rfl (Ys_store (i := 2) (s := 3) (B := aD b3) (T' := 38) (v := .agg #[vi 0, vi 0, .slice none 0 0]) (vs := [vi 0, vi 0, .slice none 0 0]) (k := 0) (cs' := [vi 0, vi 0, .slice none 0 0]) hS5 k_sz_38_3 rfl rfl rfl rfl rfl rfl rfl (Nat.le_of_ble_eq_true rfl) rfl rfl) ?_
  rintro _ w_5 ⟨rfl, hS6⟩
  have hS6 : ST w0 [] _ [⟨aD b1, 38, [vi a.Rows, vi a.Cols, .slice B a.Cells.length c], 3⟩, ⟨aD b2, 38, [vi b.Rows, vi b.Cols, .slice B1 b.Cells.length c1], 3⟩, ⟨aD b3, 38, [vi 0, vi 0, .slice none 0 0], 3⟩] [⟨B, (a.Cells.flatMap eN0)⟩, ⟨B1, (b.Cells.flatMap eN0)⟩] := hS6
  refine sq 5 rfl rfl (Y_assign (v := .bool false) rfl rfl) ?_
  refine rw_nil ?_
  refine cw_ret ?_
  have hS7 := hS6.addNil 44
  obtain ⟨rfl, rfl⟩ := pr2 (some_inj hF1)
  exact ret2 Tryd.results71 (v1 := .agg #[vi 0, vi 0, .slice none 0 0]) (resAt_cellA (B := aD b3) (i := 0) (cs := [vi 0, vi 0, .slice none 0 0]) (vs := [vi 0, vi 0, .slice none 0 0]) rfl k_ag_38 k_sz_38_3 (hS7.cf (i := 2) rfl) rfl rfl) (v2 := .bool false) (resAt_tmp rfl) ⟨none, 0, rfl, (ST.subR (R' := []) (hS7.sel [3] rfl rfl) (fun _ h => by cases h))⟩
 ·skip
  have hF2 := cf' hF hb
  refine cw_skip ?_
  refine cw_seq ?_
  refine cw_region ?_
  refine sq 22 rfl rfl (Y_fieldAddr (B := aD b1) (i := 0) (s := 0) k_fd_38_0_0_3 k_sz_3_1 rfl rfl) ?_
  refine sq 23 rfl rfl (Y_load1 (B := aD b1) (i := 0) (cs := [vi a.Rows, vi a.Cols, .slice B a.Cells.length c]) (v := vi a.Rows) k_sc_3 rfl rfl (hS5.cf (i := 0) rfl) rfl) ?_
  refine sq 24 rfl rfl (Y_fieldAddr (B := aD b2) (i := 0) (s := 0) k_fd_38_1_1_3 k_sz_3_1 rfl rfl) ?_
  refine sq 25 rfl rfl (Y_load1 (B := aD b2) (i := 1) (cs := [vi b.Rows, vi b.Cols, .slice B1 b.Cells.length c1]) (v := vi b.Cols) k_sc_3 rfl rfl (hS5.cf (i := 1) rfl) rfl) ?_
  refine sq 26 rfl rfl (Y_makeFunc (cs := [pt (aD b1) 0, pt (aD b2) 0]) rfl rfl (mc rfl (mc rfl mn))) ?_
  obtain ⟨⟨r_4, r_5⟩, hc2, hF2⟩ := bind_inv hF2
  refine sc 27 rfl rfl (Yc_func (g := 41) (vs := [vi a.Rows, vi b.Cols, .func (.func 87) #[] #[pt (aD b1) 0, pt (aD b2) 0]]) k_call_41 rfl (mc rfl (mc rfl (mc rfl mn))) (c_impl_matrixOf a.Rows b.Cols (fun x_0 x_1 => F_impl_MulMatrix_1 x_0 x_1 a b) 87 (#[pt (aD b1) 0, pt (aD b2) 0]) [⟨aD b1, [vi a.Rows, vi a.Cols, .slice B a.Cells.length c]⟩, ⟨B, (a.Cells.flatMap eN0)⟩, ⟨aD b2, [vi b.Rows, vi b.Cols, .slice B1 b.Cells.length c1]⟩, ⟨B1, (b.Cells.flatMap eN0)⟩] _ k_call_87 (fun w hw x_0 x_1 y_0 y_1 h_ => c_impl_MulMatrix_1 x_0 x_1 a b (aD b1) B c a.Cells.length (aD b2) B1 c1 b.Cells.length w rfl rfl hw h_) (hS5.inn0 [(false, 0), (true, 0), (false, 1), (true, 1)] rfl) hc2)) ?_
  rintro _ w_6 ⟨B3, c3, rfl, hd1⟩
  have hS8 := hS5.out0 hd1
  have hS8 : ST w0 [] _ [⟨aD b1, 38, [vi a.Rows, vi a.Cols, .slice B a.Cells.length c], 3⟩, ⟨aD b2, 38, [vi b.Rows, vi b.Cols, .slice B1 b.Cells.length c1], 3⟩, ⟨aD b3, 38, [vi 0, vi 0, .slice none 0 0], 3⟩, ⟨B3, 44, (r_4.Cells.flatMap eN0), c3 * 5⟩] [⟨B, (a.Cells.flatMap eN0)⟩, ⟨B1, (b.Cells.flatMap eN0)⟩] := hS8
  refine sq 28 rfl rfl (Y_extract (v := .agg #[vi r_4.Rows, vi r_4.Cols, .slice B3 r_4.Cells.length c3]) rfl rfl rfl) ?_
  refine sq 29 rfl rfl (Y_extract (v := .bool r_5) rfl rfl rfl) ?_
  refine ss0 rfl rfl (Ys_store (i := 2) (s := 3) (B := aD b3) (T' := 38) (v := .agg #[vi r_4.Rows, vi r_4.Cols, .slice B3 r_4.Cells.length c3]) (vs := [vi r_4.Rows, vi r_4.Cols, .slice B3 r_4.Cells.length c3]) (k := 0) (cs' := [vi r_4.Rows, vi r_4.Cols, .slice B3 r_4.Cells.length c3]) hS8 k_sz_38_3 rfl rfl rfl rfl rfl rfl rfl (Nat.le_of_ble_eq_true rfl) rfl rfl) ?_
  rintro _ w_7 ⟨rfl, hS9⟩
  have hS9 : ST w0 [] _ [⟨aD b1, 38, [vi a.Rows, vi a.Cols, .slice B a.Cells.length c], 3⟩, ⟨aD b2, 38, [vi b.Rows, vi b.Cols, .slice B1 b.Cells.length c1], 3⟩, ⟨aD b3, 38, [vi r_4.Rows, vi r_4.Cols, .slice B3 r_4.Cells.length c3], 3⟩, ⟨B3, 44, (r_4.Cells.flatMap eN0), c3 * 5⟩] [⟨B, (a.Cells.flatMap eN0)⟩, ⟨B1, (b.Cells.flatMap eN0)⟩] := hS9
  refine sq 5 rfl rfl (Y_assign (v := .bool r_5) rfl rfl) ?_
  refine rw_nil ?_
  refine cw_ret ?_
  obtain ⟨rfl, rfl⟩ := pr2 (some_inj hF2)
  exact ret2 Tryd.results71 (v1 := .agg #[vi r_4.Rows, vi r_4.Cols, .slice B3 r_4.Cells.length c3]) (resAt_cellA (B := aD b3) (i := 0) (cs := [vi r_4.Rows, vi r_4.Cols, .slice B3 r_4.Cells.length c3]) (vs := [vi r_4.Rows, vi r_4.Cols, .slice B3 r_4.Cells.length c3]) rfl k_ag_38 k_sz_38_3 (hS9.cf (i := 2) rfl) rfl rfl) (v2 := .bool r_5) (resAt_tmp rfl) ⟨B3, c3, rfl, (ST.subR (R' := []) (hS9.sel [3] rfl rfl) (fun _ h => by cases h))⟩

theorem c_impl_IdentityMatrix_1 (i : Int) (j : Int)  (w0 : World)  (hS : ST w0 [] w0 [] []) {r_ : TDyadic} {r_1 : Bool} (hF : F_impl_IdentityMatrix_1 i j = some (r_, r_1)) :
  CV Tryd.prog 92 #[vi i, vi j] w0 (fun v w' => v = .tuple #[.agg #[vi r_.Num.A, vi r_.Num.B, vi r_.Num.C, vi r_.Num.D, vi r_.Exp], .bool r_1] ∧ ST w0 [] w' [] []) := by
 unfold F_impl_IdentityMatrix_1 at hF
 refine cv_of_cw 11 Tryd.func92 rfl Tryd.ntmps92 rfl ?_
 refine cw_seq ?_
 refine cw_region ?_
 refine ss 4 rfl rfl (Ys_alloc (T := 44) (cs := [vi 0, vi 0, vi 0, vi 0, vi 0]) (m := 5) hS k_zero_44 rfl rfl rfl) ?_
 rintro _ w_ ⟨b, rfl, hS1⟩
 refine sq 5 rfl rfl (Y_assign (v := .bool false) rfl rfl) ?_
 refine rw_nil ?_
 refine cw_seq ?_
 refine cw_seq ?_
 refine cw_region ?_
 refine sq 6 rfl rfl (Y_move (v := vi i) rfl rfl) ?_
 refine sq 7 rfl rfl (Y_move (v := vi j) rfl rfl) ?_
 refine sq 8 rfl rfl (Y_eq (k := .i64) (a := i) (b := j) rfl rfl rfl) ?_
 refine rw_nil ?_
 refine cw_cond (b := (i == j)) rfl (fun hb => ?_) (fun hb => ?_)
 ·skip
  have hF1 := ct hF hb
  refine cw_seq ?_
  refine cw_region ?_
  obtain ⟨r_2, hc, hF1⟩ := bind_inv hF1
  refine sc 9 rfl rfl (Yc_func (g := 13) (vs := [vi 1]) k_call_13 rfl (mc rfl mn) (c_impl_whole 1 _  (hS1.inn0 [] rfl) hc)) ?_
  rintro _ w_1 ⟨rfl, hd⟩
  have hS2 := hS1.out00 hd
  refine ss0 rfl rfl (Ys_store (i := 0) (s := 5) (B := aD b) (T' := 44) (v := .agg #[vi r_2.Num.A, vi r_2.Num.B, vi r_2.Num.C, vi r_2.Num.D, vi r_2.Exp]) (vs := [vi r_2.Num.A, vi r_2.Num.B, vi r_2.Num.C, vi r_2.Num.D, vi r_2.Exp]) (k := 0) (cs' := [vi r_2.Num.A, vi r_2.Num.B, vi r_2.Num.C, vi r_2.Num.D, vi r_2.Exp]) hS2 k_sz_44_5 rfl rfl rfl rfl rfl rfl rfl (Nat.le_of_ble_eq_true rfl) rfl rfl) ?_
  rintro _ w_2 ⟨rfl, hS3⟩
  refine sq 5 rfl rfl (Y_assign (v := .bool true) rfl rfl) ?_
  refine rw_nil ?_
  refine cw_ret ?_
  obtain ⟨rfl, rfl⟩ := pr2 (some_inj hF1)
  exact ret2 Tryd.results92 (v1 := .agg #[vi r_2.Num.A, vi r_2.Num.B, vi r_2.Num.C, vi r_2.Num.D, vi r_2.Exp]) (resAt_cellA (B := aD b) (i := 0) (cs := [vi r_2.Num.A, vi r_2.Num.B, vi r_2.Num.C, vi r_2.Num.D, vi r_2.Exp]) (vs := [vi r_2.Num.A, vi r_2.Num.B, vi r_2.Num.C, vi r_2.Num.D, vi r_2.Exp]) rfl k_ag_44 k_sz_44_5 (hS3.cf (i := 0) rfl) rfl rfl) (v2 := .bool true) (resAt_tmp rfl) ⟨rfl, (ST.subR (R' := []) (hS3.sel [] rfl rfl) (fun _ h => by cases h))⟩
 ·skip
  have hF2 := cf' hF hb
  refine cw_skip ?_
  refine cw_seq ?_
  refine cw_region ?_
  refine sq 10 rfl rfl (Y_buildS (zs := [vi 0, vi 0, vi 0, vi 0, vi 0]) (vs := []) (cs := [vi 0, vi 0, vi 0, vi 0, vi 0]) k_pl_44 k_zero_44 rfl mpn rfl) ?_
  refine ss0 rfl rfl (Ys_store (i := 0) (s := 5) (B := aD b) (T' := 44) (v := .agg #[vi 0, vi 0, vi 0, vi 0, vi 0]) (vs := [vi 0, vi 0, vi 0, vi 0, vi 0]) (k := 0) (cs' := [vi 0, vi 0, vi 0, vi 0, vi 0]) hS1 k_sz_44_5 rfl rfl rfl rfl rfl rfl rfl (Nat.le_of_ble_eq_true rfl) rfl rfl) ?_
  rintro _ w_3 ⟨rfl, hS4⟩
  refine sq 5 rfl rfl (Y_assign (v := .bool true) rfl rfl) ?_
  refine rw_nil ?_
  refine cw_ret ?_
  obtain ⟨rfl, rfl⟩ := pr2 (some_inj hF2)
  exact ret2 Tryd.results92 (v1 := .agg #[vi 0, vi 0, vi 0, vi 0, vi 0]) (resAt_cellA (B := aD b) (i := 0) (cs := [vi 0, vi 0, vi 0, vi 0, vi 0]) (vs := [vi 0, vi 0, vi 0, vi 0, vi 0]) rfl k_ag_44 k_sz_44_5 (hS4.cf (i := 0) rfl) rfl rfl) (v2 := .bool true) (resAt_tmp rfl) ⟨rfl, (ST.subR (R' := []) (hS4.sel [] rfl rfl) (fun _ h => by cases h))⟩

theorem c_impl_IdentityMatrix (n : Int)  (w0 : World)  (hS : ST w0 [] w0 [] []) {r_ : TMatrix} {r_1 : Bool} (hF : F_impl_IdentityMatrix n = some (r_, r_1)) :
  CV Tryd.prog 84 #[vi n] w0 (fun v w' => ∃ (B : Option Addr) (c : Nat), v = .tuple #[.agg #[vi r_.Rows, vi r_.Cols, .slice B r_.Cells.length c], .bool r_1] ∧ ST w0 [] w' [⟨B, 44, (r_.Cells.flatMap eN0), c * 5⟩] []) := by
 unfold F_impl_IdentityMatrix at hF
 refine cv_of_cw 9 Tryd.func84 rfl Tryd.ntmps84 rfl ?_
 refine cw_seq ?_
 refine cw_region ?_
 refine ss 2 rfl rfl (Ys_alloc (T := 38) (cs := [vi 0, vi 0, .slice none 0 0]) (m := 3) hS k_zero_38 rfl rfl rfl) ?_
 rintro _ w_ ⟨b, rfl, hS1⟩
 refine sq 3 rfl rfl (Y_assign (v := .bool false) rfl rfl) ?_
 refine rw_nil ?_
 refine cw_seq ?_
 refine cw_region ?_
 refine sq 4 rfl rfl (Y_move (v := vi n) rfl rfl) ?_
 refine sq 5 rfl rfl (Y_move (v := vi n) rfl rfl) ?_
 obtain ⟨⟨r_2, r_3⟩, hc, hF⟩ := bind_inv hF
 refine sc 6 rfl rfl (Yc_func (g := 41) (vs := [vi n, vi n, .func (.func 92) #[] #[]]) k_call_41 rfl (mc rfl (mc rfl (mc rfl mn))) (c_impl_matrixOf n n F_impl_IdentityMatrix_1 92 (#[]) [] _ k_call_92 (fun w hw x_0 x_1 y_0 y_1 h_ => c_impl_IdentityMatrix_1 x_0 x_1  w  hw h_) (hS1.inn0 [] rfl) hc)) ?_
 rintro _ w_1 ⟨B1, c1, rfl, hd⟩
 have hS2 := hS1.out0 hd
 have hS2 : ST w0 [] _ [⟨aD b, 38, [vi 0, vi 0, .slice none 0 0], 3⟩, ⟨B1, 44, (r_2.Cells.flatMap eN0), c1 * 5⟩] [] := hS2
 refine sq 7 rfl rfl (Y_extract (v := .agg #[vi r_2.Rows, vi r_2.Cols, .slice B1 r_2.Cells.length c1]) rfl rfl rfl) ?_
 refine sq 8 rfl rfl (Y_extract (v := .bool r_3) rfl rfl rfl) ?_
 refine ss0 rfl rfl (Ys_store (i := 0) (s := 3) (B := aD b) (T' := 38) (v := .agg #[vi r_2.Rows, vi r_2.Cols, .slice B1 r_2.Cells.length c1]) (vs := [vi r_2.Rows, vi r_2.Cols, .slice B1 r_2.Cells.length c1]) (k := 0) (cs' := [vi r_2.Rows, vi r_2.Cols, .slice B1 r_2.Cells.length c1]) hS2 k_sz_38_3 rfl rfl rfl rfl rfl rfl rfl (Nat.le_of_ble_eq_true rfl) rfl rfl) ?_
 rintro _ w_2 ⟨rfl, hS3⟩
 have hS3 : ST w0 [] _ [⟨aD b, 38, [vi r_2.Rows, vi r_2.Cols, .slice B1 r_2.Cells.length c1], 3⟩, ⟨B1, 44, (r_2.Cells.flatMap eN0), c1 * 5⟩] [] := hS3
 refine sq 3 rfl rfl (Y_assign (v := .bool r_3) rfl rfl) ?_
 refine rw_nil ?_
 refine cw_ret ?_
 obtain ⟨rfl, rfl⟩ := pr2 (some_inj hF)
 exact ret2 Tryd.results84 (v1 := .agg #[vi r_2.Rows, vi r_2.Cols, .slice B1 r_2.Cells.length c1]) (resAt_cellA (B := aD b) (i := 0) (cs := [vi r_2.Rows, vi r_2.Cols, .slice B1 r_2.Cells.length c1]) (vs := [vi r_2.Rows, vi r_2.Cols, .slice B1 r_2.Cells.length c1]) rfl k_ag_38 k_sz_38_3 (hS3.cf (i := 0) rfl) rfl rfl) (v2 := .bool r_3) (resAt_tmp rfl) ⟨B1, c1, rfl, (ST.subR (R' := []) (hS3.sel [1] rfl rfl) (fun _ h => by cases h))⟩

theorem c_slices_Equal_impl_Dyadic_impl_Dyadic (s1 : List TDyadic) (s2 : List TDyadic) (B : Option Addr) (c n : Nat) (B1 : Option Addr) (c1 n1 : Nat) (w0 : World) (hn : s1.length = n) (hn1 : s2.length = n1) (hS : ST w0 [] w0 [] [⟨B, (s1.flatMap eN0)⟩, ⟨B1, (s2.flatMap eN0)⟩]) {r_ : Bool} (hF : F_slices_Equal_impl_Dyadic_impl_Dyadic s1 s2 = some r_) :
  CV Tryd.prog 19 #[.slice B n c, .slice B1 n1 c1] w0 (fun v w' => v = .bool r_ ∧ ST w0 [] w' [] []) := by
 subst hn
 subst hn1
 unfold F_slices_Equal_impl_Dyadic_impl_Dyadic at hF
 refine cv_of_cw 26 Tryd.func19 rfl Tryd.ntmps19 rfl ?_
 refine cw_seq ?_
 refine cw_region ?_
 refine sq 4 rfl rfl (Y_assign (v := .bool false) rfl rfl) ?_
 refine rw_nil ?_
 refine cw_seq ?_
 refine cw_seq ?_
 refine cw_region ?_
 refine sq 6 rfl rfl (Y_move (v := .slice B s1.length c) rfl rfl) ?_
 refine sq 7 rfl rfl (Y_len (B := B) (m := s1.length) (c := c) k_sl_32_44 rfl rfl) ?_
 refine sq 8 rfl rfl (Y_move (v := .slice B1 s2.length c1) rfl rfl) ?_
 refine sq 9 rfl rfl (Y_len (B := B1) (m := s2.length) (c := c1) k_sl_32_44 rfl rfl) ?_
 refine sq 10 rfl rfl (Y_ne (k := .i64) (a := (s1.length : Int)) (b := (s2.length : Int)) rfl rfl rfl) ?_
 refine rw_nil ?_
 refine cw_cond (b := ((s1.length : Int) != (s2.length : Int))) rfl (fun hb => ?_) (fun hb => ?_)
 ·skip
  have hF1 := ct hF hb
  refine cw_seq ?_
  refine cw_region ?_
  refine sq 4 rfl rfl (Y_assign (v := .bool false) rfl rfl) ?_
  refine rw_nil ?_
  refine cw_ret ?_
  obtain rfl := some_inj hF1
  exact ret1 Tryd.results19 (v1 := .bool false) (resAt_tmp rfl) ⟨rfl, (ST.subR (R' := []) (hS.sel [] rfl rfl) (fun _ h => by cases h))⟩
 ·skip
  have hF2 := cf' hF hb
  refine cw_skip ?_
  refine cw_seq ?_
  refine cw_seq ?_
  refine cw_region ?_
  refine sq 11 rfl rfl (Y_move (v := .slice B s1.length c) rfl rfl) ?_
  refine sq 12 rfl rfl (Y_len (B := B) (m := s1.length) (c := c) k_sl_32_44 rfl rfl) ?_
  refine sq 13 rfl rfl (Y_move (v := vi 0) rfl rfl) ?_
  refine rw_nil ?_
  obtain ⟨hN, hF2⟩ := chk_inv hF2
  obtain ⟨z, hz, hF3⟩ := bind_inv hF2
  refine cw_block ?_
  refine cw_loop (fun k f w => ∃ (i : Nat), FF f [(0, .slice B s1.length c), (1, .slice B1 s2.length c1), (12, vi (s1.length : Int)), (13, vi (i : Int))] ∧ ST w0 [] w [] [⟨B, (s1.flatMap eN0)⟩, ⟨B1, (s2.flatMap eN0)⟩] ∧ i + k = s1.length ∧ forX (F_slices_Equal_impl_Dyadic_impl_Dyadic_l1 s1 s2) k i () = some z) s1.length ⟨0, (FF.cons rfl (FF.cons rfl (FF.cons rfl (FF.cons rfl FF.nil)))), (hS.sel [] rfl rfl), Nat.zero_add _, hz⟩ ?_
  rintro k_ f w ⟨i, hf, hS1, hik, hL⟩
  refine cw_seq ?_
  refine cw_region ?_
  refine sq 14 rfl rfl (Y_lt (k := .i64) (a := (i : Int)) (b := (s1.length : Int)) rfl (hf.get 13 3 rfl) (hf.get 12 2 rfl)) ?_
  refine rw_nil ?_
  refine cw_seq ?_
  refine cw_cond (b := (decide ((i : Int) < (s1.length : Int)))) rfl (fun hlt => ?_) (fun hlt => ?_)
  ·skip
   have hlt1 : i < s1.length := by have h := of_decide_eq_true hlt; omega
   obtain ⟨k_1, rfl⟩ : ∃ k2, k_ = k2 + 1 := ⟨k_ - 1, by omega⟩
   obtain ⟨y, hb1, hL1⟩ := forX_go hL
   unfold F_slices_Equal_impl_Dyadic_impl_Dyadic_l1 at hb1
   refine cw_skip ?_
   refine cw_seq ?_
   refine cw_block ?_
   refine cw_seq ?_
   refine cw_region ?_
   refine sq 15 rfl rfl (Y_move (v := vi (i : Int)) rfl (hf.get 13 3 rfl)) ?_
   refine sq 5 rfl rfl (Y_assign (v := vi (i : Int)) rfl rfl) ?_
   refine rw_nil ?_
   refine cw_seq ?_
   obtain ⟨x, hx, hb1⟩ := bind_inv hb1
   obtain ⟨x1, hx1, hb1⟩ := bind_inv hb1
   refine ra_start (ST.sel hS1 [] rfl rfl).fn (by kernel_rfl) ?_
   have hS2 := hS1.drew
   refine ra_q 0 16 (v := .slice B s1.length c) rfl rfl rfl (by kernel_rfl) (by kernel_rfl) (by kernel_rfl) (ST.sel hS2 [] rfl rfl) (fun w' hw' => (Y_move (v := .slice B s1.length c) rfl (hf.get 0 0 rfl))) ?_
   refine ra_q 1 17 (v := vi (i : Int)) rfl rfl rfl (by kernel_rfl) (by kernel_rfl) (by kernel_rfl) (ST.sel hS2 [] rfl rfl) (fun w' hw' => (Y_move (v := vi (i : Int)) rfl rfl)) ?_
   refine ra_q 2 18 (v := pt B ((i : Int).toNat * 5)) rfl rfl rfl (by kernel_rfl) (by kernel_rfl) (by kernel_rfl) (ST.sel hS2 [] rfl rfl) (fun w' hw' => (Y_index (B := B) (m := s1.length) (c := c) (k := .i64) (i := (i : Int)) k_sl_32_44 k_sz_44_5 rfl rfl rfl (gi_isSome eN3 rfl (ST.rf hw' (i := 0) rfl) hx) (getI_nn hx) (getI_ltI hx rfl))) ?_
   refine ra_q 3 19 (v := .agg #[vi x.Num.A, vi x.Num.B, vi x.Num.C, vi x.Num.D, vi x.Exp]) rfl rfl rfl (by kernel_rfl) (by kernel_rfl) (by kernel_rfl) (ST.sel hS2 [] rfl rfl) (fun w' hw' => (Y_loadA (B := B) (i := (i : Int).toNat * 5) (cs := (s1.flatMap eN0)) (vs := [vi x.Num.A, vi x.Num.B, vi x.Num.C, vi x.Num.D, vi x.Exp]) k_ag_44 k_sz_44_5 rfl rfl (ST.rf hw' (i := 0) rfl) (eN3 x) (gi_seg eN3 hx))) ?_
   refine ra_q 4 20 (v := .slice B1 s2.length c1) rfl rfl rfl (by kernel_rfl) (by kernel_rfl) (by kernel_rfl) (ST.sel hS2 [] rfl rfl) (fun w' hw' => (Y_move (v := .slice B1 s2.length c1) rfl (hf.get 1 1 rfl))) ?_
   refine ra_q 5 21 (v := vi (i : Int)) rfl rfl rfl (by kernel_rfl) (by kernel_rfl) (by kernel_rfl) (ST.sel hS2 [] rfl rfl) (fun w' hw' => (Y_move (v := vi (i : Int)) rfl rfl)) ?_
   refine ra_q 6 22 (v := pt B1 ((i : Int).toNat * 5)) rfl rfl rfl (by kernel_rfl) (by kernel_rfl) (by kernel_rfl) (ST.sel hS2 [] rfl rfl) (fun w' hw' => (Y_index (B := B1) (m := s2.length) (c := c1) (k := .i64) (i := (i : Int)) k_sl_32_44 k_sz_44_5 rfl rfl rfl (gi_isSome eN3 rfl (ST.rf hw' (i := 1) rfl) hx1) (getI_nn hx1) (getI_ltI hx1 rfl))) ?_
   refine ra_q 7 23 (v := .agg #[vi x1.Num.A, vi x1.Num.B, vi x1.Num.C, vi x1.Num.D, vi x1.Exp]) rfl rfl rfl (by kernel_rfl) (by kernel_rfl) (by kernel_rfl) (ST.sel hS2 [] rfl rfl) (fun w' hw' => (Y_loadA (B := B1) (i := (i : Int).toNat * 5) (cs := (s2.flatMap eN0)) (vs := [vi x1.Num.A, vi x1.Num.B, vi x1.Num.C, vi x1.Num.D, vi x1.Exp]) k_ag_44 k_sz_44_5 rfl rfl (ST.rf hw' (i := 1) rfl) (eN3 x1) (gi_seg eN3 hx1))) ?_
   refine ra_q 8 24 (v := .bool (!(((x.Num.A == x1.Num.A) && ((x.Num.B == x1.Num.B) && ((x.Num.C == x1.Num.C) && ((x.Num.D == x1.Num.D) && true)))) && ((x.Exp == x1.Exp) && true)))) rfl rfl rfl (by kernel_rfl) (by kernel_rfl) (by kernel_rfl) (ST.sel hS2 [] rfl rfl) (fun w' hw' => (Y_neA (xs := #[vi x.Num.A, vi x.Num.B, vi x.Num.C, vi x.Num.D, vi x.Exp]) (ys := #[vi x1.Num.A, vi x1.Num.B, vi x1.Num.C, vi x1.Num.D, vi x1.Exp]) (b := (((x.Num.A == x1.Num.A) && ((x.Num.B == x1.Num.B) && ((x.Num.C == x1.Num.C) && ((x.Num.D == x1.Num.D) && true)))) && ((x.Exp == x1.Exp) && true))) k_eg_44 rfl rfl rfl (eqr_struct (xs := [vi x.Num.A, vi x.Num.B, vi x.Num.C, vi x.Num.D, vi x.Exp]) (ys := [vi x1.Num.A, vi x1.Num.B, vi x1.Num.C, vi x1.Num.D, vi x1.Exp]) k_st_44 k_ho_44 (pts_ag (us := [vi x.Num.A, vi x.Num.B, vi x.Num.C, vi x.Num.D]) (vs := [vi x1.Num.A, vi x1.Num.B, vi x1.Num.C, vi x1.Num.D]) k_ag_42 k_sz_42_4 rfl rfl (eqr_struct (xs := [vi x.Num.A, vi x.Num.B, vi x.Num.C, vi x.Num.D]) (ys := [vi x1.Num.A, vi x1.Num.B, vi x1.Num.C, vi x1.Num.D]) k_st_42 k_ho_42 (pts_sc k_sc_3 rfl rfl (eqr_int k_int_3_i64) (pts_sc k_sc_3 rfl rfl (eqr_int k_int_3_i64) (pts_sc k_sc_3 rfl rfl (eqr_int k_int_3_i64) (pts_sc k_sc_3 rfl rfl (eqr_int k_int_3_i64) pts_nil))))) (pts_sc k_sc_3 rfl rfl (eqr_int k_int_3_i64) pts_nil))))) ?_
   refine ra_done (by kernel_rfl) ?_
   refine cw_cond (b := (!(((x.Num.A == x1.Num.A) && ((x.Num.B == x1.Num.B) && ((x.Num.C == x1.Num.C) && ((x.Num.D == x1.Num.D) && true)))) && ((x.Exp == x1.Exp) && true)))) rfl (fun hb2 => ?_) (fun hb2 => ?_)
   ·skip
    have hF4 := ct hb1 hb2
    refine cw_seq ?_
    refine cw_region ?_
    refine sq 4 rfl rfl (Y_assign (v := .bool false) rfl rfl) ?_
    refine rw_nil ?_
    refine cw_ret ?_
    obtain rfl := some_inj hF4
    obtain rfl := some_inj hL1
    obtain rfl := some_inj hF3
    exact ret1 Tryd.results19 (v1 := .bool false) (resAt_tmp rfl) ⟨rfl, (ST.subR (R' := []) (hS2.sel [] rfl rfl) (fun _ h => by cases h))⟩
   ·skip
    have hF5 := cf' hb1 hb2
    refine cw_skip ?_
    refine cw_region ?_
    refine sq 25 rfl rfl (Y_add (k := .i64) (a := (i : Int)) (b := 1) rfl (hf.get 13 3 rfl) rfl) ?_
    refine sq 13 rfl rfl (Y_move (v := vi (i64.wrap ((i : Int) + 1))) rfl rfl) ?_
    refine rw_nil ?_
    obtain rfl := some_inj hF5
    exact ⟨k_1, Nat.lt_succ_self _, i + 1, (FF.cons (hf.get 0 0 rfl) (FF.cons (hf.get 1 1 rfl) (FF.cons (hf.get 12 2 rfl) (FF.cons (congrArg (Value.int .i64) (wr_succ hlt1 hN)) FF.nil)))), (hS2.sel [] rfl rfl), (by omega), hL1⟩
  ·skip
   obtain rfl : k_ = 0 := by have h := of_decide_eq_false hlt; omega
   refine cw_exit rfl ?_
   obtain rfl := some_inj hL
   refine cw_seq ?_
   refine cw_region ?_
   refine sq 4 rfl rfl (Y_assign (v := .bool true) rfl rfl) ?_
   refine rw_nil ?_
   refine cw_ret ?_
   obtain rfl := some_inj hF3
   exact ret1 Tryd.results19 (v1 := .bool true) (resAt_tmp rfl) ⟨rfl, (ST.subR (R' := []) (hS1.sel [] rfl rfl) (fun _ h => by cases h))⟩

theorem c_impl_EqualMatrices (a : TMatrix) (b : TMatrix) (B : Option Addr) (c n : Nat) (B1 : Option Addr) (c1 n1 : Nat) (w0 : World) (hn : a.Cells.length = n) (hn1 : b.Cells.length = n1) (hS : ST w0 [] w0 [] [⟨B, (a.Cells.flatMap eN0)⟩, ⟨B1, (b.Cells.flatMap eN0)⟩]) {r_ : Bool} (hF : F_impl_EqualMatrices a b = some r_) :
  CV Tryd.prog 85 #[.agg #[vi a.Rows, vi a.Cols, .slice B n c], .agg #[vi b.Rows, vi b.Cols, .slice B1 n1 c1]] w0 (fun v w' => v = .bool r_ ∧ ST w0 [] w' [] []) := by
 subst hn
 subst hn1
 unfold F_impl_EqualMatrices at hF
 refine cv_of_cw 24 Tryd.func85 rfl Tryd.ntmps85 rfl ?_
 refine cw_seq ?_
 refine cw_region ?_
 refine ss 2 rfl rfl (Ys_box (T := 38) (v := .agg #[vi a.Rows, vi a.Cols, .slice B a.Cells.length c]) (cs := [vi a.Rows, vi a.Cols, .slice B a.Cells.length c]) (m := 3) hS rfl rfl rfl rfl) ?_
 rintro _ w_ ⟨b1, rfl, hS1⟩
 refine ss 3 rfl rfl (Ys_box (T := 38) (v := .agg #[vi b.Rows, vi b.Cols, .slice B1 b.Cells.length c1]) (cs := [vi b.Rows, vi b.Cols, .slice B1 b.Cells.length c1]) (m := 3) hS1 rfl rfl rfl rfl) ?_
 rintro _ w_1 ⟨b2, rfl, hS2⟩
 have hS2 : ST w0 [] _ [⟨aD b1, 38, [vi a.Rows, vi a.Cols, .slice B a.Cells.length c], 3⟩, ⟨aD b2, 38, [vi b.Rows, vi b.Cols, .slice B1 b.Cells.length c1], 3⟩] [⟨B, (a.Cells.flatMap eN0)⟩, ⟨B1, (b.Cells.flatMap eN0)⟩] := hS2
 refine sq 4 rfl rfl (Y_assign (v := .bool false) rfl rfl) ?_
 refine rw_nil ?_
 refine cw_seq ?_
 refine cw_region ?_
 refine sq 5 rfl rfl (Y_fieldAddr (B := aD b1) (i := 0) (s := 0) k_fd_38_0_0_3 k_sz_3_1 rfl rfl) ?_
 refine sq 6 rfl rfl (Y_load1 (B := aD b1) (i := 0) (cs := [vi a.Rows, vi a.Cols, .slice B a.Cells.length c]) (v := vi a.Rows) k_sc_3 rfl rfl (hS2.cf (i := 0) rfl) rfl) ?_
 refine sq 7 rfl rfl (Y_fieldAddr (B := aD b2) (i := 0) (s := 0) k_fd_38_0_0_3 k_sz_3_1 rfl rfl) ?_
 refine sq 8 rfl rfl (Y_load1 (B := aD b2) (i := 0) (cs := [vi b.Rows, vi b.Cols, .slice B1 b.Cells.length c1]) (v := vi b.Rows) k_sc_3 rfl rfl (hS2.cf (i := 1) rfl) rfl) ?_
 refine sq 9 rfl rfl (Y_eq (k := .i64) (a := a.Rows) (b := b.Rows) rfl rfl rfl) ?_
 refine sq 10 rfl rfl (Y_move (v := .bool (a.Rows == b.Rows)) rfl rfl) ?_
 refine sgq 11 (B := (a.Rows == b.Rows)) (v := pt (aD b1) 1) rfl rfl (wt_t (gd_of (t := 10) (by kernel_rfl) rfl)) (fun hg => (Y_fieldAddr (B := aD b1) (i := 0) (s := 0) k_fd_38_1_1_3 k_sz_3_1 rfl rfl)) ?_
 refine sgq 12 (B := (a.Rows == b.Rows)) (v := vi a.Cols) rfl rfl (wt_t (gd_of (t := 10) (by kernel_rfl) rfl)) (fun hg1 => (Y_load1 (B := aD b1) (i := 1) (cs := [vi a.Rows, vi a.Cols, .slice B a.Cells.length c]) (v := vi a.Cols) k_sc_3 rfl (gv_of (B := (a.Rows == b.Rows)) (v := pt (aD b1) 1) hg1) (hS2.cf (i := 0) rfl) rfl)) ?_
 refine sgq 13 (B := (a.Rows == b.Rows)) (v := pt (aD b2) 1) rfl rfl (wt_t (gd_of (t := 10) (by kernel_rfl) rfl)) (fun hg2 => (Y_fieldAddr (B := aD b2) (i := 0) (s := 0) k_fd_38_1_1_3 k_sz_3_1 rfl rfl)) ?_
 refine sgq 14 (B := (a.Rows == b.Rows)) (v := vi b.Cols) rfl rfl (wt_t (gd_of (t := 10) (by kernel_rfl) rfl)) (fun hg3 => (Y_load1 (B := aD b2) (i := 1) (cs := [vi b.Rows, vi b.Cols, .slice B1 b.Cells.length c1]) (v := vi b.Cols) k_sc_3 rfl (gv_of (B := (a.Rows == b.Rows)) (v := pt (aD b2) 1) hg3) (hS2.cf (i := 1) rfl) rfl)) ?_
 refine sgq 15 (B := (a.Rows == b.Rows)) (v := .bool (a.Cols == b.Cols)) rfl rfl (wt_t (gd_of (t := 10) (by kernel_rfl) rfl)) (fun hg4 => (Y_eq (k := .i64) (a := a.Cols) (b := b.Cols) rfl (gv_of (B := (a.Rows == b.Rows)) (v := vi a.Cols) hg4) (gv_of (B := (a.Rows == b.Rows)) (v := vi b.Cols) hg4))) ?_
 refine sq 16 rfl rfl (Y_and (b := (a.Rows == b.Rows)) (z := (a.Cols == b.Cols)) rfl rfl rfl rfl) ?_
 refine sq 17 rfl rfl (Y_move (v := .bool ((a.Rows == b.Rows) && (a.Cols == b.Cols))) rfl rfl) ?_
 refine sgq 18 (B := ((a.Rows == b.Rows) && (a.Cols == b.Cols))) (v := pt (aD b1) 2) rfl rfl (wt_t (gd_of (t := 17) (by kernel_rfl) rfl)) (fun hg5 => (Y_fieldAddr (B := aD b1) (i := 0) (s := 0) k_fd_38_2_2_32 k_sz_32_1 rfl rfl)) ?_
 refine sgq 19 (B := ((a.Rows == b.Rows) && (a.Cols == b.Cols))) (v := .slice B a.Cells.length c) rfl rfl (wt_t (gd_of (t := 17) (by kernel_rfl) rfl)) (fun hg6 => (Y_load1 (B := aD b1) (i := 2) (cs := [vi a.Rows, vi a.Cols, .slice B a.Cells.length c]) (v := .slice B a.Cells.length c) k_sc_32 rfl (gv_of (B := ((a.Rows == b.Rows) && (a.Cols == b.Cols))) (v := pt (aD b1) 2) hg6) (hS2.cf (i := 0) rfl) rfl)) ?_
 refine sgq 20 (B := ((a.Rows == b.Rows) && (a.Cols == b.Cols))) (v := pt (aD b2) 2) rfl rfl (wt_t (gd_of (t := 17) (by kernel_rfl) rfl)) (fun hg7 => (Y_fieldAddr (B := aD b2) (i := 0) (s := 0) k_fd_38_2_2_32 k_sz_32_1 rfl rfl)) ?_
 refine sgq 21 (B := ((a.Rows == b.Rows) && (a.Cols == b.Cols))) (v := .slice B1 b.Cells.length c1) rfl rfl (wt_t (gd_of (t := 17) (by kernel_rfl) rfl)) (fun hg8 => (Y_load1 (B := aD b2) (i := 2) (cs := [vi b.Rows, vi b.Cols, .slice B1 b.Cells.length c1]) (v := .slice B1 b.Cells.length c1) k_sc_32 rfl (gv_of (B := ((a.Rows == b.Rows) && (a.Cols == b.Cols))) (v := pt (aD b2) 2) hg8) (hS2.cf (i := 1) rfl) rfl)) ?_
 obtain ⟨r_1, hc, hF⟩ := bind_inv hF
 refine sgc 22 (B := ((a.Rows == b.Rows) && (a.Cols == b.Cols))) (v := .bool r_1) (F := hS2.fn) rfl rfl (wt_t (gd_of (t := 17) (by kernel_rfl) rfl)) hS2 (fun hg9 => (Yc_func (g := 19) (vs := [.slice B a.Cells.length c, .slice B1 b.Cells.length c1]) k_call_19 rfl (mc (gv_of (B := ((a.Rows == b.Rows) && (a.Cols == b.Cols))) (v := .slice B a.Cells.length c) hg9) (mc (gv_of (B := ((a.Rows == b.Rows) && (a.Cols == b.Cols))) (v := .slice B1 b.Cells.length c1) hg9) mn)) (CV.mono (c_slices_Equal_impl_Dyadic_impl_Dyadic a.Cells b.Cells B c a.Cells.length B1 c1 b.Cells.length _ rfl rfl (hS2.inn0 [(true, 0), (true, 1)] rfl) (gb_inv hc hg9)) (by rintro _ _ ⟨rfl, h⟩; exact ⟨rfl, hS2.out00 h⟩)))) ?_
 rintro w_2 hS3
 have hS3 : ST _ _ w_2 _ _ := hS3
 refine sq 23 rfl rfl (Y_and (b := ((a.Rows == b.Rows) && (a.Cols == b.Cols))) (z := r_1) rfl rfl rfl rfl) ?_
 refine sq 4 rfl rfl (Y_assign (v := .bool (((a.Rows == b.Rows) && (a.Cols == b.Cols)) && r_1)) rfl rfl) ?_
 refine rw_nil ?_
 refine cw_ret ?_
 obtain rfl := some_inj hF
 exact ret1 Tryd.results85 (v1 := .bool (((a.Rows == b.Rows) && (a.Cols == b.Cols)) && r_1)) (resAt_tmp rfl) ⟨rfl, (ST.subR (R' := []) (hS3.sel [] rfl rfl) (fun _ h => by cases h))⟩

theorem c_impl_IsUnitary (m : TMatrix) (B : Option Addr) (c n : Nat) (w0 : World) (hn : m.Cells.length = n) (hS : ST w0 [] w0 [] [⟨B, (m.Cells.flatMap eN0)⟩]) {r_ : Bool} {r_1 : Bool} (hF : F_impl_IsUnitary m = some (r_, r_1)) :
  CV Tryd.prog 67 #[.agg #[vi m.Rows, vi m.Cols, .slice B n c]] w0 (fun v w' => v = .tuple #[.bool r_, .bool r_1] ∧ ST w0 [] w' [] []) := by
 subst hn
 unfold F_impl_IsUnitary at hF
 refine cv_of_cw 44 Tryd.func67 rfl Tryd.ntmps67 rfl ?_
 refine cw_seq ?_
 refine cw_region ?_
 refine ss 1 rfl rfl (Ys_box (T := 38) (v := .agg #[vi m.Rows, vi m.Cols, .slice B m.Cells.length c]) (cs := [vi m.Rows, vi m.Cols, .slice B m.Cells.length c]) (m := 3) hS rfl rfl rfl rfl) ?_
 rintro _ w_ ⟨b, rfl, hS1⟩
 refine sq 2 rfl rfl (Y_assign (v := .bool false) rfl rfl) ?_
 refine sq 3 rfl rfl (Y_assign (v := .bool false) rfl rfl) ?_
 refine rw_nil ?_
 refine cw_seq ?_
 refine cw_seq ?_
 refine cw_region ?_
 refine sq 10 rfl rfl (Y_loadA (B := aD b) (i := 0) (cs := [vi m.Rows, vi m.Cols, .slice B m.Cells.length c]) (vs := [vi m.Rows, vi m.Cols, .slice B m.Cells.length c]) k_ag_38 k_sz_38_3 rfl rfl (hS1.cf (i := 0) rfl) rfl rfl) ?_
 obtain ⟨r_2, hc, hF⟩ := bind_inv hF
 refine sc 11 rfl rfl (Yc_func (g := 66) (vs := [.agg #[vi m.Rows, vi m.Cols, .slice B m.Cells.length c]]) k_call_66 rfl (mc rfl mn) (c_impl_IsValidMatrix m B c m.Cells.length _ rfl (hS1.inn0 [(true, 0)] rfl) hc)) ?_
 rintro _ w_1 ⟨rfl, hd⟩
 have hS2 := hS1.out00 hd
 refine sq 12 rfl rfl (Y_not (p := r_2) rfl rfl) ?_
 refine sq 13 rfl rfl (Y_move (v := .bool (!r_2)) rfl rfl) ?_
 refine sgq 14 (B := (!(!r_2))) (v := pt (aD b) 0) rfl rfl (wt_f (gd_of (t := 13) (by kernel_rfl) rfl)) (fun hg => (Y_fieldAddr (B := aD b) (i := 0) (s := 0) k_fd_38_0_0_3 k_sz_3_1 rfl rfl)) ?_
 refine sgq 15 (B := (!(!r_2))) (v := vi m.Rows) rfl rfl (wt_f (gd_of (t := 13) (by kernel_rfl) rfl)) (fun hg1 => (Y_load1 (B := aD b) (i := 0) (cs := [vi m.Rows, vi m.Cols, .slice B m.Cells.length c]) (v := vi m.Rows) k_sc_3 rfl (gv_of (B := (!(!r_2))) (v := pt (aD b) 0) hg1) (hS2.cf (i := 0) rfl) rfl)) ?_
 refine sgq 16 (B := (!(!r_2))) (v := pt (aD b) 1) rfl rfl (wt_f (gd_of (t := 13) (by kernel_rfl) rfl)) (fun hg2 => (Y_fieldAddr (B := aD b) (i := 0) (s := 0) k_fd_38_1_1_3 k_sz_3_1 rfl rfl)) ?_
 refine sgq 17 (B := (!(!r_2))) (v := vi m.Cols) rfl rfl (wt_f (gd_of (t := 13) (by kernel_rfl) rfl)) (fun hg3 => (Y_load1 (B := aD b) (i := 1) (cs := [vi m.Rows, vi m.Cols, .slice B m.Cells.length c]) (v := vi m.Cols) k_sc_3 rfl (gv_of (B := (!(!r_2))) (v := pt (aD b) 1) hg3) (hS2.cf (i := 0) rfl) rfl)) ?_
 refine sgq 18 (B := (!(!r_2))) (v := .bool (m.Rows != m.Cols)) rfl rfl (wt_f (gd_of (t := 13) (by kernel_rfl) rfl)) (fun hg4 => (Y_ne (k := .i64) (a := m.Rows) (b := m.Cols) rfl (gv_of (B := (!(!r_2))) (v := vi m.Rows) hg4) (gv_of (B := (!(!r_2))) (v := vi m.Cols) hg4))) ?_
 refine sq 19 rfl rfl (Y_or (b := (!r_2)) (z := (m.Rows != m.Cols)) rfl rfl rfl rfl) ?_
 refine rw_nil ?_
 refine cw_cond (b := ((!r_2) || (m.Rows != m.Cols))) rfl (fun hb => ?_) (fun hb => ?_)
 ·skip
  have hF1 := ct hF hb
  refine cw_seq ?_
  refine cw_region ?_
  refine sq 2 rfl rfl (Y_assign (v := .bool false) rfl rfl) ?_
  refine sq 3 rfl rfl (Y_assign (v := .bool false) rfl rfl) ?_
  refine rw_nil ?_
  refine cw_ret ?_
  obtain ⟨rfl, rfl⟩ := pr2 (some_inj hF1)
  exact ret2 Tryd.results67 (v1 := .bool false) (resAt_tmp rfl) (v2 := .bool false) (resAt_tmp rfl) ⟨rfl, (ST.subR (R' := []) (hS2.sel [] rfl rfl) (fun _ h => by cases h))⟩
 ·skip
  have hF2 := cf' hF hb
  refine cw_skip ?_
  refine cw_seq ?_
  refine cw_region ?_
  refine sq 21 rfl rfl (Y_loadA (B := aD b) (i := 0) (cs := [vi m.Rows, vi m.Cols, .slice B m.Cells.length c]) (vs := [vi m.Rows, vi m.Cols, .slice B m.Cells.length c]) k_ag_38 k_sz_38_3 rfl rfl (hS2.cf (i := 0) rfl) rfl rfl) ?_
  obtain ⟨⟨r_3, r_4⟩, hc1, hF2⟩ := bind_inv hF2
  refine sc 22 rfl rfl (Yc_func (g := 50) (vs := [.agg #[vi m.Rows, vi m.Cols, .slice B m.Cells.length c]]) k_call_50 rfl (mc rfl mn) (c_impl_Adjoint m B c m.Cells.length _ rfl (hS2.inn0 [(true, 0)] rfl) hc1)) ?_
  rintro _ w_2 ⟨B1, c1, rfl, hd1⟩
  have hS3 := hS2.out0 hd1
  have hS3 : ST w0 [] _ [⟨aD b, 38, [vi m.Rows, vi m.Cols, .slice B m.Cells.length c], 3⟩, ⟨B1, 44, (r_3.Cells.flatMap eN0), c1 * 5⟩] [⟨B, (m.Cells.flatMap eN0)⟩] := hS3
  refine sq 20 rfl rfl (Y_move (v := .tuple #[.agg #[vi r_3.Rows, vi r_3.Cols, .slice B1 r_3.Cells.length c1], .bool r_4]) rfl rfl) ?_
  refine sq 23 rfl rfl (Y_extract (v := .agg #[vi r_3.Rows, vi r_3.Cols, .slice B1 r_3.Cells.length c1]) rfl rfl rfl) ?_
  refine sq 24 rfl rfl (Y_extract (v := .bool r_4) rfl rfl rfl) ?_
  refine ss 4 rfl rfl (Ys_alloc (T := 38) (cs := [vi 0, vi 0, .slice none 0 0]) (m := 3) hS3 k_zero_38 rfl rfl rfl) ?_
  rintro _ w_3 ⟨b1, rfl, hS4⟩
  have hS4 : ST w0 [] _ [⟨aD b, 38, [vi m.Rows, vi m.Cols, .slice B m.Cells.length c], 3⟩, ⟨B1, 44, (r_3.Cells.flatMap eN0), c1 * 5⟩, ⟨aD b1, 38, [vi 0, vi 0, .slice none 0 0], 3⟩] [⟨B, (m.Cells.flatMap eN0)⟩] := hS4
  refine ss0 rfl rfl (Ys_store (i := 2) (s := 3) (B := aD b1) (T' := 38) (v := .agg #[vi r_3.Rows, vi r_3.Cols, .slice B1 r_3.Cells.length c1]) (vs := [vi r_3.Rows, vi r_3.Cols, .slice B1 r_3.Cells.length c1]) (k := 0) (cs' := [vi r_3.Rows, vi r_3.Cols, .slice B1 r_3.Cells.length c1]) hS4 k_sz_38_3 rfl rfl rfl rfl rfl rfl rfl (Nat.le_of_ble_eq_true rfl) rfl rfl) ?_
  rintro _ w_4 ⟨rfl, hS5⟩
  have hS5 : ST w0 [] _ [⟨aD b, 38, [vi m.Rows, vi m.Cols, .slice B m.Cells.length c], 3⟩, ⟨B1, 44, (r_3.Cells.flatMap eN0), c1 * 5⟩, ⟨aD b1, 38, [vi r_3.Rows, vi r_3.Cols, .slice B1 r_3.Cells.length c1], 3⟩] [⟨B, (m.Cells.flatMap eN0)⟩] := hS5
  refine sq 5 rfl rfl (Y_assign (v := .bool r_4) rfl rfl) ?_
  refine rw_nil ?_
  refine cw_seq ?_
  refine cw_region ?_
  refine sq 26 rfl rfl (Y_loadA (B := aD b) (i := 0) (cs := [vi m.Rows, vi m.Cols, .slice B m.Cells.length c]) (vs := [vi m.Rows, vi m.Cols, .slice B m.Cells.length c]) k_ag_38 k_sz_38_3 rfl rfl (hS5.cf (i := 0) rfl) rfl rfl) ?_
  refine sq 27 rfl rfl (Y_loadA (B := aD b1) (i := 0) (cs := [vi r_3.Rows, vi r_3.Cols, .slice B1 r_3.Cells.length c1]) (vs := [vi r_3.Rows, vi r_3.Cols, .slice B1 r_3.Cells.length c1]) k_ag_38 k_sz_38_3 rfl rfl (hS5.cf (i := 2) rfl) rfl rfl) ?_
  obtain ⟨⟨r_5, r_6⟩, hc2, hF2⟩ := bind_inv hF2
  refine sc 28 rfl rfl (Yc_func (g := 71) (vs := [.agg #[vi m.Rows, vi m.Cols, .slice B m.Cells.length c], .agg #[vi r_3.Rows, vi r_3.Cols, .slice B1 r_3.Cells.length c1]]) k_call_71 rfl (mc rfl (mc rfl mn)) (c_impl_MulMatrix m r_3 B c m.Cells.length B1 c1 r_3.Cells.length _ rfl rfl (hS5.inn0 [(true, 0), (false, 1)] rfl) hc2)) ?_
  rintro _ w_5 ⟨B2, c2, rfl, hd2⟩
  have hS6 := hS5.out0 hd2
  have hS6 : ST w0 [] _ [⟨aD b, 38, [vi m.Rows, vi m.Cols, .slice B m.Cells.length c], 3⟩, ⟨B1, 44, (r_3.Cells.flatMap eN0), c1 * 5⟩, ⟨aD b1, 38, [vi r_3.Rows, vi r_3.Cols, .slice B1 r_3.Cells.length c1], 3⟩, ⟨B2, 44, (r_5.Cells.flatMap eN0), c2 * 5⟩] [⟨B, (m.Cells.flatMap eN0)⟩] := hS6
  refine sq 25 rfl rfl (Y_move (v := .tuple #[.agg #[vi r_5.Rows, vi r_5.Cols, .slice B2 r_5.Cells.length c2], .bool r_6]) rfl rfl) ?_
  refine sq 29 rfl rfl (Y_extract (v := .agg #[vi r_5.Rows, vi r_5.Cols, .slice B2 r_5.Cells.length c2]) rfl rfl rfl) ?_
  refine sq 30 rfl rfl (Y_extract (v := .bool r_6) rfl rfl rfl) ?_
  refine ss 6 rfl rfl (Ys_alloc (T := 38) (cs := [vi 0, vi 0, .slice none 0 0]) (m := 3) hS6 k_zero_38 rfl rfl rfl) ?_
  rintro _ w_6 ⟨b2, rfl, hS7⟩
  have hS7 : ST w0 [] _ [⟨aD b, 38, [vi m.Rows, vi m.Cols, .slice B m.Cells.length c], 3⟩, ⟨B1, 44, (r_3.Cells.flatMap eN0), c1 * 5⟩, ⟨aD b1, 38, [vi r_3.Rows, vi r_3.Cols, .slice B1 r_3.Cells.length c1], 3⟩, ⟨B2, 44, (r_5.Cells.flatMap eN0), c2 * 5⟩, ⟨aD b2, 38, [vi 0, vi 0, .slice none 0 0], 3⟩] [⟨B, (m.Cells.flatMap eN0)⟩] := hS7
  refine ss0 rfl rfl (Ys_store (i := 4) (s := 3) (B := aD b2) (T' := 38) (v := .agg #[vi r_5.Rows, vi r_5.Cols, .slice B2 r_5.Cells.length c2]) (vs := [vi r_5.Rows, vi r_5.Cols, .slice B2 r_5.Cells.length c2]) (k := 0) (cs' := [vi r_5.Rows, vi r_5.Cols, .slice B2 r_5.Cells.length c2]) hS7 k_sz_38_3 rfl rfl rfl rfl rfl rfl rfl (Nat.le_of_ble_eq_true rfl) rfl rfl) ?_
  rintro _ w_7 ⟨rfl, hS8⟩
  have hS8 : ST w0 [] _ [⟨aD b, 38, [vi m.Rows, vi m.Cols, .slice B m.Cells.length c], 3⟩, ⟨B1, 44, (r_3.Cells.flatMap eN0), c1 * 5⟩, ⟨aD b1, 38, [vi r_3.Rows, vi r_3.Cols, .slice B1 r_3.Cells.length c1], 3⟩, ⟨B2, 44, (r_5.Cells.flatMap eN0), c2 * 5⟩, ⟨aD b2, 38, [vi r_5.Rows, vi r_5.Cols, .slice B2 r_5.Cells.length c2], 3⟩] [⟨B, (m.Cells.flatMap eN0)⟩] := hS8
  refine sq 7 rfl rfl (Y_assign (v := .bool r_6) rfl rfl) ?_
  refine rw_nil ?_
  refine cw_seq ?_
  refine cw_region ?_
  refine sq 32 rfl rfl (Y_fieldAddr (B := aD b) (i := 0) (s := 0) k_fd_38_0_0_3 k_sz_3_1 rfl rfl) ?_
  refine sq 33 rfl rfl (Y_load1 (B := aD b) (i := 0) (cs := [vi m.Rows, vi m.Cols, .slice B m.Cells.length c]) (v := vi m.Rows) k_sc_3 rfl rfl (hS8.cf (i := 0) rfl) rfl) ?_
  obtain ⟨⟨r_7, r_8⟩, hc3, hF2⟩ := bind_inv hF2
  refine sc 34 rfl rfl (Yc_func (g := 84) (vs := [vi m.Rows]) k_call_84 rfl (mc rfl mn) (c_impl_IdentityMatrix m.Rows _  (hS8.inn0 [] rfl) hc3)) ?_
  rintro _ w_8 ⟨B3, c3, rfl, hd3⟩
  have hS9 := hS8.out0 hd3
  have hS9 : ST w0 [] _ [⟨aD b, 38, [vi m.Rows, vi m.Cols, .slice B m.Cells.length c], 3⟩, ⟨B1, 44, (r_3.Cells.flatMap eN0), c1 * 5⟩, ⟨aD b1, 38, [vi r_3.Rows, vi r_3.Cols, .slice B1 r_3.Cells.length c1], 3⟩, ⟨B2, 44, (r_5.Cells.flatMap eN0), c2 * 5⟩, ⟨aD b2, 38, [vi r_5.Rows, vi r_5.Cols, .slice B2 r_5.Cells.length c2], 3⟩, ⟨B3, 44, (r_7.Cells.flatMap eN0), c3 * 5⟩] [⟨B, (m.Cells.flatMap eN0)⟩] := hS9
  refine sq 31 rfl rfl (Y_move (v := .tuple #[.agg #[vi r_7.Rows, vi r_7.Cols, .slice B3 r_7.Cells.length c3], .bool r_8]) rfl rfl) ?_
  refine sq 35 rfl rfl (Y_extract (v := .agg #[vi r_7.Rows, vi r_7.Cols, .slice B3 r_7.Cells.length c3]) rfl rfl rfl) ?_
  refine sq 36 rfl rfl (Y_extract (v := .bool r_8) rfl rfl rfl) ?_
  refine ss 8 rfl rfl (Ys_alloc (T := 38) (cs := [vi 0, vi 0, .slice none 0 0]) (m := 3) hS9 k_zero_38 rfl rfl rfl) ?_
  rintro _ w_9 ⟨b3, rfl, hS10⟩
  have hS10 : ST w0 [] _ [⟨aD b, 38, [vi m.Rows, vi m.Cols, .slice B m.Cells.length c], 3⟩, ⟨B1, 44, (r_3.Cells.flatMap eN0), c1 * 5⟩, ⟨aD b1, 38, [vi r_3.Rows, vi r_3.Cols, .slice B1 r_3.Cells.length c1], 3⟩, ⟨B2, 44, (r_5.Cells.flatMap eN0), c2 * 5⟩, ⟨aD b2, 38, [vi r_5.Rows, vi r_5.Cols, .slice B2 r_5.Cells.length c2], 3⟩, ⟨B3, 44, (r_7.Cells.flatMap eN0), c3 * 5⟩, ⟨aD b3, 38, [vi 0, vi 0, .slice none 0 0], 3⟩] [⟨B, (m.Cells.flatMap eN0)⟩] := hS10
  refine ss0 rfl rfl (Ys_store (i := 6) (s := 3) (B := aD b3) (T' := 38) (v := .agg #[vi r_7.Rows, vi r_7.Cols, .slice B3 r_7.Cells.length c3]) (vs := [vi r_7.Rows, vi r_7.Cols, .slice B3 r_7.Cells.length c3]) (k := 0) (cs' := [vi r_7.Rows, vi r_7.Cols, .slice B3 r_7.Cells.length c3]) hS10 k_sz_38_3 rfl rfl rfl rfl rfl rfl rfl (Nat.le_of_ble_eq_true rfl) rfl rfl) ?_
  rintro _ w_10 ⟨rfl, hS11⟩
  have hS11 : ST w0 [] _ [⟨aD b, 38, [vi m.Rows, vi m.Cols, .slice B m.Cells.length c], 3⟩, ⟨B1, 44, (r_3.Cells.flatMap eN0), c1 * 5⟩, ⟨aD b1, 38, [vi r_3.Rows, vi r_3.Cols, .slice B1 r_3.Cells.length c1], 3⟩, ⟨B2, 44, (r_5.Cells.flatMap eN0), c2 * 5⟩, ⟨aD b2, 38, [vi r_5.Rows, vi r_5.Cols, .slice B2 r_5.Cells.length c2], 3⟩, ⟨B3, 44, (r_7.Cells.flatMap eN0), c3 * 5⟩, ⟨aD b3, 38, [vi r_7.Rows, vi r_7.Cols, .slice B3 r_7.Cells.length c3], 3⟩] [⟨B, (m.Cells.flatMap eN0)⟩] := hS11
  refine sq 9 rfl rfl (Y_assign (v := .bool r_8) rfl rfl) ?_
  refine rw_nil ?_
  refine cw_seq ?_
  refine cw_region ?_
  refine sq 37 rfl rfl (Y_move (v := .bool r_6) rfl rfl) ?_
  refine sq 38 rfl rfl (Y_move (v := .bool r_6) rfl rfl) ?_
  refine sgq 39 (B := r_6) (v := .agg #[vi r_5.Rows, vi r_5.Cols, .slice B2 r_5.Cells.length c2]) rfl rfl (wt_t (gd_of (t := 38) (by kernel_rfl) rfl)) (fun hg5 => (Y_loadA (B := aD b2) (i := 0) (cs := [vi r_5.Rows, vi r_5.Cols, .slice B2 r_5.Cells.length c2]) (vs := [vi r_5.Rows, vi r_5.Cols, .slice B2 r_5.Cells.length c2]) k_ag_38 k_sz_38_3 rfl rfl (hS11.cf (i := 4) rfl) rfl rfl)) ?_
  refine sgq 40 (B := r_6) (v := .agg #[vi r_7.Rows, vi r_7.Cols, .slice B3 r_7.Cells.length c3]) rfl rfl (wt_t (gd_of (t := 38) (by kernel_rfl) rfl)) (fun hg6 => (Y_loadA (B := aD b3) (i := 0) (cs := [vi r_7.Rows, vi r_7.Cols, .slice B3 r_7.Cells.length c3]) (vs := [vi r_7.Rows, vi r_7.Cols, .slice B3 r_7.Cells.length c3]) k_ag_38 k_sz_38_3 rfl rfl (hS11.cf (i := 6) rfl) rfl rfl)) ?_
  obtain ⟨r_9, hc4, hF2⟩ := bind_inv hF2
  refine sgc 41 (B := r_6) (v := .bool r_9) (F := hS11.fn) rfl rfl (wt_t (gd_of (t := 38) (by kernel_rfl) rfl)) hS11 (fun hg7 => (Yc_func (g := 85) (vs := [.agg #[vi r_5.Rows, vi r_5.Cols, .slice B2 r_5.Cells.length c2], .agg #[vi r_7.Rows, vi r_7.Cols, .slice B3 r_7.Cells.length c3]]) k_call_85 rfl (mc (gv_of (B := r_6) (v := .agg #[vi r_5.Rows, vi r_5.Cols, .slice B2 r_5.Cells.length c2]) hg7) (mc (gv_of (B := r_6) (v := .agg #[vi r_7.Rows, vi r_7.Cols, .slice B3 r_7.Cells.length c3]) hg7) mn)) (CV.mono (c_impl_EqualMatrices r_5 r_7 B2 c2 r_5.Cells.length B3 c3 r_7.Cells.length _ rfl rfl (hS11.inn0 [(false, 3), (false, 5)] rfl) (gb_inv hc4 hg7)) (by rintro _ _ ⟨rfl, h⟩; exact ⟨rfl, hS11.out00 h⟩)))) ?_
  rintro w_11 hS12
  have hS12 : ST _ _ w_11 _ _ := hS12
  refine sq 42 rfl rfl (Y_and (b := r_6) (z := r_9) rfl rfl rfl rfl) ?_
  refine sq 43 rfl rfl (Y_move (v := .bool r_6) rfl rfl) ?_
  refine sq 2 rfl rfl (Y_assign (v := .bool (r_6 && r_9)) rfl rfl) ?_
  refine sq 3 rfl rfl (Y_assign (v := .bool r_6) rfl rfl) ?_
  refine rw_nil ?_
  refine cw_ret ?_
  obtain ⟨rfl, rfl⟩ := pr2 (some_inj hF2)
  exact ret2 Tryd.results67 (v1 := .bool (r_6 && r_9)) (resAt_tmp rfl) (v2 := .bool r_6) (resAt_tmp rfl) ⟨rfl, (ST.subR (R' := []) (hS12.sel [] rfl rfl) (fun _ h => by cases h))⟩

theorem c_impl_IsOneQubit (m : TMatrix) (B : Option Addr) (c n : Nat) (w0 : World) (hn : m.Cells.length = n) (hS : ST w0 [] w0 [] [⟨B, (m.Cells.flatMap eN0)⟩]) {r_ : Bool} (hF : F_impl_IsOneQubit m = some r_) :
  CV Tryd.prog 49 #[.agg #[vi m.Rows, vi m.Cols, .slice B n c]] w0 (fun v w' => v = .bool r_ ∧ ST w0 [] w' [] []) := by
 subst hn
 unfold F_impl_IsOneQubit at hF
 refine cv_of_cw 27 Tryd.func49 rfl Tryd.ntmps49 rfl ?_
 refine cw_seq ?_
 refine cw_region ?_
 refine ss 1 rfl rfl (Ys_box (T := 38) (v := .agg #[vi m.Rows, vi m.Cols, .slice B m.Cells.length c]) (cs := [vi m.Rows, vi m.Cols, .slice B m.Cells.length c]) (m := 3) hS rfl rfl rfl rfl) ?_
 rintro _ w_ ⟨b, rfl, hS1⟩
 refine sq 2 rfl rfl (Y_assign (v := .bool false) rfl rfl) ?_
 refine rw_nil ?_
 refine cw_seq ?_
 refine cw_seq ?_
 refine cw_region ?_
 refine sq 5 rfl rfl (Y_loadA (B := aD b) (i := 0) (cs := [vi m.Rows, vi m.Cols, .slice B m.Cells.length c]) (vs := [vi m.Rows, vi m.Cols, .slice B m.Cells.length c]) k_ag_38 k_sz_38_3 rfl rfl (hS1.cf (i := 0) rfl) rfl rfl) ?_
 obtain ⟨r_1, hc, hF⟩ := bind_inv hF
 refine sc 6 rfl rfl (Yc_func (g := 66) (vs := [.agg #[vi m.Rows, vi m.Cols, .slice B m.Cells.length c]]) k_call_66 rfl (mc rfl mn) (c_impl_IsValidMatrix m B c m.Cells.length _ rfl (hS1.inn0 [(true, 0)] rfl) hc)) ?_
 rintro _ w_1 ⟨rfl, hd⟩
 have hS2 := hS1.out00 hd
 refine sq 7 rfl rfl (Y_not (p := r_1) rfl rfl) ?_
 refine sq 8 rfl rfl (Y_move (v := .bool (!r_1)) rfl rfl) ?_
 refine sgq 9 (B := (!(!r_1))) (v := pt (aD b) 0) rfl rfl (wt_f (gd_of (t := 8) (by kernel_rfl) rfl)) (fun hg => (Y_fieldAddr (B := aD b) (i := 0) (s := 0) k_fd_38_0_0_3 k_sz_3_1 rfl rfl)) ?_
 refine sgq 10 (B := (!(!r_1))) (v := vi m.Rows) rfl rfl (wt_f (gd_of (t := 8) (by kernel_rfl) rfl)) (fun hg1 => (Y_load1 (B := aD b) (i := 0) (cs := [vi m.Rows, vi m.Cols, .slice B m.Cells.length c]) (v := vi m.Rows) k_sc_3 rfl (gv_of (B := (!(!r_1))) (v := pt (aD b) 0) hg1) (hS2.cf (i := 0) rfl) rfl)) ?_
 refine sgq 11 (B := (!(!r_1))) (v := .bool (m.Rows != 2)) rfl rfl (wt_f (gd_of (t := 8) (by kernel_rfl) rfl)) (fun hg2 => (Y_ne (k := .i64) (a := m.Rows) (b := 2) rfl (gv_of (B := (!(!r_1))) (v := vi m.Rows) hg2) rfl)) ?_
 refine sq 12 rfl rfl (Y_or (b := (!r_1)) (z := (m.Rows != 2)) rfl rfl rfl rfl) ?_
 refine sq 13 rfl rfl (Y_move (v := .bool ((!r_1) || (m.Rows != 2))) rfl rfl) ?_
 refine sgq 14 (B := (!((!r_1) || (m.Rows != 2)))) (v := pt (aD b) 1) rfl rfl (wt_f (gd_of (t := 13) (by kernel_rfl) rfl)) (fun hg3 => (Y_fieldAddr (B := aD b) (i := 0) (s := 0) k_fd_38_1_1_3 k_sz_3_1 rfl rfl)) ?_
 refine sgq 15 (B := (!((!r_1) || (m.Rows != 2)))) (v := vi m.Cols) rfl rfl (wt_f (gd_of (t := 13) (by kernel_rfl) rfl)) (fun hg4 => (Y_load1 (B := aD b) (i := 1) (cs := [vi m.Rows, vi m.Cols, .slice B m.Cells.length c]) (v := vi m.Cols) k_sc_3 rfl (gv_of (B := (!((!r_1) || (m.Rows != 2)))) (v := pt (aD b) 1) hg4) (hS2.cf (i := 0) rfl) rfl)) ?_
 refine sgq 16 (B := (!((!r_1) || (m.Rows != 2)))) (v := .bool (m.Cols != 2)) rfl rfl (wt_f (gd_of (t := 13) (by kernel_rfl) rfl)) (fun hg5 => (Y_ne (k := .i64) (a := m.Cols) (b := 2) rfl (gv_of (B := (!((!r_1) || (m.Rows != 2)))) (v := vi m.Cols) hg5) rfl)) ?_
 refine sq 17 rfl rfl (Y_or (b := ((!r_1) || (m.Rows != 2))) (z := (m.Cols != 2)) rfl rfl rfl rfl) ?_
 refine rw_nil ?_
 refine cw_cond (b := (((!r_1) || (m.Rows != 2)) || (m.Cols != 2))) rfl (fun hb => ?_) (fun hb => ?_)
 ·skip
  have hF1 := ct hF hb
  refine cw_seq ?_
  refine cw_region ?_
  refine sq 2 rfl rfl (Y_assign (v := .bool false) rfl rfl) ?_
  refine rw_nil ?_
  refine cw_ret ?_
  obtain rfl := some_inj hF1
  exact ret1 Tryd.results49 (v1 := .bool false) (resAt_tmp rfl) ⟨rfl, (ST.subR (R' := []) (hS2.sel [] rfl rfl) (fun _ h => by cases h))⟩
 ·skip
  have hF2 := cf' hF hb
  refine cw_skip ?_
  refine cw_seq ?_
  refine cw_region ?_
  refine sq 19 rfl rfl (Y_loadA (B := aD b) (i := 0) (cs := [vi m.Rows, vi m.Cols, .slice B m.Cells.length c]) (vs := [vi m.Rows, vi m.Cols, .slice B m.Cells.length c]) k_ag_38 k_sz_38_3 rfl rfl (hS2.cf (i := 0) rfl) rfl rfl) ?_
  obtain ⟨⟨r_2, r_3⟩, hc1, hF2⟩ := bind_inv hF2
  refine sc 20 rfl rfl (Yc_func (g := 67) (vs := [.agg #[vi m.Rows, vi m.Cols, .slice B m.Cells.length c]]) k_call_67 rfl (mc rfl mn) (c_impl_IsUnitary m B c m.Cells.length _ rfl (hS2.inn0 [(true, 0)] rfl) hc1)) ?_
  rintro _ w_2 ⟨rfl, hd1⟩
  have hS3 := hS2.out00 hd1
  refine sq 18 rfl rfl (Y_move (v := .tuple #[.bool r_2, .bool r_3]) rfl rfl) ?_
  refine sq 21 rfl rfl (Y_extract (v := .bool r_2) rfl rfl rfl) ?_
  refine sq 22 rfl rfl (Y_extract (v := .bool r_3) rfl rfl rfl) ?_
  refine sq 3 rfl rfl (Y_assign (v := .bool r_2) rfl rfl) ?_
  refine sq 4 rfl rfl (Y_assign (v := .bool r_3) rfl rfl) ?_
  refine rw_nil ?_
  refine cw_seq ?_
  refine cw_region ?_
  refine sq 23 rfl rfl (Y_move (v := .bool r_3) rfl rfl) ?_
  refine sq 24 rfl rfl (Y_move (v := .bool r_3) rfl rfl) ?_
  refine sgq 25 (B := r_3) (v := .bool r_2) rfl rfl (wt_t (gd_of (t := 24) (by kernel_rfl) rfl)) (fun hg6 => (Y_move (v := .bool r_2) rfl rfl)) ?_
  refine sq 26 rfl rfl (Y_and (b := r_3) (z := r_2) rfl rfl rfl rfl) ?_
  refine sq 2 rfl rfl (Y_assign (v := .bool (r_3 && r_2)) rfl rfl) ?_
  refine rw_nil ?_
  refine cw_ret ?_
  obtain rfl := some_inj hF2
  exact ret1 Tryd.results49 (v1 := .bool (r_3 && r_2)) (resAt_tmp rfl) ⟨rfl, (ST.subR (R' := []) (hS3.sel [] rfl rfl) (fun _ h => by cases h))⟩

theorem c_impl_TraceOf (m : TMatrix) (B : Option Addr) (c n : Nat) (w0 : World) (hn : m.Cells.length = n) (hS : ST w0 [] w0 [] [⟨B, (m.Cells.flatMap eN0)⟩]) {r_ : TDyadic} {r_1 : Bool} (hF : F_impl_TraceOf m = some (r_, r_1)) :
  CV Tryd.prog 72 #[.agg #[vi m.Rows, vi m.Cols, .slice B n c]] w0 (fun v w' => v = .tuple #[.agg #[vi r_.Num.A, vi r_.Num.B, vi r_.Num.C, vi r_.Num.D, vi r_.Exp], .bool r_1] ∧ ST w0 [] w' [] []) := by
 subst hn
 unfold F_impl_TraceOf at hF
 refine cv_of_cw 39 Tryd.func72 rfl Tryd.ntmps72 rfl ?_
 refine cw_seq ?_
 refine cw_region ?_
 refine ss 1 rfl rfl (Ys_box (T := 38) (v := .agg #[vi m.Rows, vi m.Cols, .slice B m.Cells.length c]) (cs := [vi m.Rows, vi m.Cols, .slice B m.Cells.length c]) (m := 3) hS rfl rfl rfl rfl) ?_
 rintro _ w_ ⟨b, rfl, hS1⟩
 refine ss 2 rfl rfl (Ys_alloc (T := 44) (cs := [vi 0, vi 0, vi 0, vi 0, vi 0]) (m := 5) hS1 k_zero_44 rfl rfl rfl) ?_
 rintro _ w_1 ⟨b1, rfl, hS2⟩
 have hS2 : ST w0 [] _ [⟨aD b, 38, [vi m.Rows, vi m.Cols, .slice B m.Cells.length c], 3⟩, ⟨aD b1, 44, [vi 0, vi 0, vi 0, vi 0, vi 0], 5⟩] [⟨B, (m.Cells.flatMap eN0)⟩] := hS2
 refine sq 3 rfl rfl (Y_assign (v := .bool false) rfl rfl) ?_
 refine rw_nil ?_
 refine cw_seq ?_
 refine cw_seq ?_
 refine cw_region ?_
 refine sq 7 rfl rfl (Y_loadA (B := aD b) (i := 0) (cs := [vi m.Rows, vi m.Cols, .slice B m.Cells.length c]) (vs := [vi m.Rows, vi m.Cols, .slice B m.Cells.length c]) k_ag_38 k_sz_38_3 rfl rfl (hS2.cf (i := 0) rfl) rfl rfl) ?_
 obtain ⟨r_2, hc, hF⟩ := bind_inv hF
 refine sc 8 rfl rfl (Yc_func (g := 66) (vs := [.agg #[vi m.Rows, vi m.Cols, .slice B m.Cells.length c]]) k_call_66 rfl (mc rfl mn) (c_impl_IsValidMatrix m B c m.Cells.length _ rfl (hS2.inn0 [(true, 0)] rfl) hc)) ?_
 rintro _ w_2 ⟨rfl, hd⟩
 have hS3 := hS2.out00 hd
 have hS3 : ST w0 [] _ [⟨aD b, 38, [vi m.Rows, vi m.Cols, .slice B m.Cells.length c], 3⟩, ⟨aD b1, 44, [vi 0, vi 0, vi 0, vi 0, vi 0], 5⟩] [⟨B, (m.Cells.flatMap eN0)⟩] := hS3
 refine sq 9 rfl rfl (Y_not (p := r_2) rfl rfl) ?_
 refine sq 10 rfl rfl (Y_move (v := .bool (!r_2)) rfl rfl) ?_
 refine sgq 11 (B := (!(!r_2))) (v := pt (aD b) 0) rfl rfl (wt_f (gd_of (t := 10) (by kernel_rfl) rfl)) (fun hg => (Y_fieldAddr (B := aD b) (i := 0) (s := 0) k_fd_38_0_0_3 k_sz_3_1 rfl rfl)) ?_
 refine sgq 12 (B := (!(!r_2))) (v := vi m.Rows) rfl rfl (wt_f (gd_of (t := 10) (by kernel_rfl) rfl)) (fun hg1 => (Y_load1 (B := aD b) (i := 0) (cs := [vi m.Rows, vi m.Cols, .slice B m.Cells.length c]) (v := vi m.Rows) k_sc_3 rfl (gv_of (B := (!(!r_2))) (v := pt (aD b) 0) hg1) (hS3.cf (i := 0) rfl) rfl)) ?_
 refine sgq 13 (B := (!(!r_2))) (v := pt (aD b) 1) rfl rfl (wt_f (gd_of (t := 10) (by kernel_rfl) rfl)) (fun hg2 => (Y_fieldAddr (B := aD b) (i := 0) (s := 0) k_fd_38_1_1_3 k_sz_3_1 rfl rfl)) ?_
 refine sgq 14 (B := (!(!r_2))) (v := vi m.Cols) rfl rfl (wt_f (gd_of (t := 10) (by kernel_rfl) rfl)) (fun hg3 => (Y_load1 (B := aD b) (i := 1) (cs := [vi m.Rows, vi m.Cols, .slice B m.Cells.length c]) (v := vi m.Cols) k_sc_3 rfl (gv_of (B := (!(!r_2))) (v := pt (aD b) 1) hg3) (hS3.cf (i := 0) rfl) rfl)) ?_
 refine sgq 15 (B := (!(!r_2))) (v := .bool (m.Rows != m.Cols)) rfl rfl (wt_f (gd_of (t := 10) (by kernel_rfl) rfl)) (fun hg4 => (Y_ne (k := .i64) (a := m.Rows) (b := m.Cols) rfl (gv_of (B := (!(!r_2))) (v := vi m.Rows) hg4) (gv_of (B := (!(!r_2))) (v := vi m.Cols) hg4))) ?_
 refine sq 16 rfl rfl (Y_or (b := (!r_2)) (z := (m.Rows != m.Cols)) rfl rfl rfl rfl) ?_
 refine rw_nil ?_
 refine cw_cond (b := ((!r_2) || (m.Rows != m.Cols))) rfl (fun hb => ?_) (fun hb => ?_)
 ·skip
  have hF1 := ct hF hb
  refine cw_seq ?_
  refine cw_region ?_
  refine sq 17 rfl rfl (Y_buildS (zs := [vi 0, vi 0, vi 0, vi 0, vi 0]) (vs := []) (cs := [vi 0, vi 0, vi 0, vi 0, vi 0]) k_pl_44 k_zero_44 rfl mpn rfl) ?_
  refine ss0 rfl rfl (Ys_store (i := 1) (s := 5) (B := aD b1) (T' := 44) (v := .agg #[vi 0, vi 0, vi 0, vi 0, vi 0]) (vs := [vi 0, vi 0, vi 0, vi 0, vi 0]) (k := 0) (cs' := [vi 0, vi 0, vi 0, vi 0, vi 0]) hS3 k_sz_44_5 rfl rfl rfl rfl rfl rfl rfl (Nat.le_of_ble_eq_true rfl) rfl rfl) ?_
  rintro _ w_3 ⟨rfl, hS4⟩
  have hS4 : ST w0 [] _ [⟨aD b, 38, [vi m.Rows, vi m.Cols, .slice B m.Cells.length c], 3⟩, ⟨aD b1, 44, [vi 0, vi 0, vi 0, vi 0, vi 0], 5⟩] [⟨B, (m.Cells.flatMap eN0)⟩] := hS4
  refine sq 3 rfl rfl (Y_assign (v := .bool false) rfl rfl) ?_
  refine rw_nil ?_
  refine cw_ret ?_
  obtain ⟨rfl, rfl⟩ := pr2 (some_inj hF1)
  exact ret2 Tryd.results72 (v1 := .agg #[vi 0, vi 0, vi 0, vi 0, vi 0]) (resAt_cellA (B := aD b1) (i := 0) (cs := [vi 0, vi 0, vi 0, vi 0, vi 0]) (vs := [vi 0, vi 0, vi 0, vi 0, vi 0]) rfl k_ag_44 k_sz_44_5 (hS4.cf (i := 1) rfl) rfl rfl) (v2 := .bool false) (resAt_tmp rfl) ⟨rfl, (ST.subR (R' := []) (hS4.sel [] rfl rfl) (fun _ h => by cases h))⟩
 ·skip
  have hF2 := cf' hF hb
  refine cw_skip ?_
  refine cw_seq ?_
  refine cw_region ?_
  refine sq 18 rfl rfl (Y_buildS (zs := [vi 0, vi 0, vi 0, vi 0, vi 0]) (vs := []) (cs := [vi 0, vi 0, vi 0, vi 0, vi 0]) k_pl_44 k_zero_44 rfl mpn rfl) ?_
  refine ss 4 rfl rfl (Ys_alloc (T := 44) (cs := [vi 0, vi 0, vi 0, vi 0, vi 0]) (m := 5) hS3 k_zero_44 rfl rfl rfl) ?_
  rintro _ w_4 ⟨b2, rfl, hS5⟩
  have hS5 : ST w0 [] _ [⟨aD b, 38, [vi m.Rows, vi m.Cols, .slice B m.Cells.length c], 3⟩, ⟨aD b1, 44, [vi 0, vi 0, vi 0, vi 0, vi 0], 5⟩, ⟨aD b2, 44, [vi 0, vi 0, vi 0, vi 0, vi 0], 5⟩] [⟨B, (m.Cells.flatMap eN0)⟩] := hS5
  refine ss0 rfl rfl (Ys_store (i := 2) (s := 5) (B := aD b2) (T' := 44) (v := .agg #[vi 0, vi 0, vi 0, vi 0, vi 0]) (vs := [vi 0, vi 0, vi 0, vi 0, vi 0]) (k := 0) (cs' := [vi 0, vi 0, vi 0, vi 0, vi 0]) hS5 k_sz_44_5 rfl rfl rfl rfl rfl rfl rfl (Nat.le_of_ble_eq_true rfl) rfl rfl) ?_
  rintro _ w_5 ⟨rfl, hS6⟩
  have hS6 : ST w0 [] _ [⟨aD b, 38, [vi m.Rows, vi m.Cols, .slice B m.Cells.length c], 3⟩, ⟨aD b1, 44, [vi 0, vi 0, vi 0, vi 0, vi 0], 5⟩, ⟨aD b2, 44, [vi 0, vi 0, vi 0, vi 0, vi 0], 5⟩] [⟨B, (m.Cells.flatMap eN0)⟩] := hS6
  refine sq 5 rfl rfl (Y_assign (v := .bool true) rfl rfl) ?_
  refine rw_nil ?_
  refine cw_seq ?_
  refine cw_seq ?_
  refine cw_region ?_
  refine sq 6 rfl rfl (Y_assign (v := vi 0) rfl rfl) ?_
  refine rw_nil ?_
  obtain ⟨z, hz, hF3⟩ := bind_inv hF2
  refine cw_block ?_
  refine cw_loop (fun k f w => ∃ (A : Int) (B1 : Int) (C : Int) (D : Int) (Exp : Int) (ok : Bool) (i : Int), FF f [(1, pt (aD b) 0), (2, pt (aD b1) 0), (4, pt (aD b2) 0), (5, .bool ok), (6, vi i)] ∧ ST w0 [] w [⟨aD b, 38, [vi m.Rows, vi m.Cols, .slice B m.Cells.length c], 3⟩, ⟨aD b1, 44, [vi 0, vi 0, vi 0, vi 0, vi 0], 5⟩, ⟨aD b2, 44, [vi A, vi B1, vi C, vi D, vi Exp], 5⟩] [⟨B, (m.Cells.flatMap eN0)⟩] ∧ whX (F_impl_TraceOf_l1 m) k (A, B1, C, D, Exp, ok, i) = some z) fuel ⟨0, 0, 0, 0, 0, true, 0, (FF.cons rfl (FF.cons rfl (FF.cons rfl (FF.cons rfl (FF.cons rfl FF.nil))))), (hS6.sel [0, 1, 2] rfl rfl), hz⟩ ?_
  rintro k_ f w ⟨A, B1, C, D, Exp, ok, i, hf, hS7, hL⟩
  obtain ⟨k_1, y, rfl, hb1, hL1⟩ := whX_go hL
  unfold F_impl_TraceOf_l1 at hb1
  refine cw_seq ?_
  refine cw_seq ?_
  refine cw_region ?_
  refine sq 19 rfl rfl (Y_move (v := vi i) rfl (hf.get 6 4 rfl)) ?_
  refine sq 20 rfl rfl (Y_fieldAddr (B := aD b) (i := 0) (s := 0) k_fd_38_0_0_3 k_sz_3_1 rfl (hf.get 1 0 rfl)) ?_
  refine sq 21 rfl rfl (Y_load1 (B := aD b) (i := 0) (cs := [vi m.Rows, vi m.Cols, .slice B m.Cells.length c]) (v := vi m.Rows) k_sc_3 rfl rfl (hS7.cf (i := 0) rfl) rfl) ?_
  refine sq 22 rfl rfl (Y_lt (k := .i64) (a := i) (b := m.Rows) rfl rfl rfl) ?_
  refine sq 23 rfl rfl (Y_move (v := .bool (decide (i < m.Rows))) rfl rfl) ?_
  refine sgq 24 (B := (decide (i < m.Rows))) (v := .bool ok) rfl rfl (wt_t (gd_of (t := 23) (by kernel_rfl) rfl)) (fun hg5 => (Y_move (v := .bool ok) rfl (hf.get 5 3 rfl))) ?_
  refine sq 25 rfl rfl (Y_and (b := (decide (i < m.Rows))) (z := ok) rfl rfl rfl rfl) ?_
  refine rw_nil ?_
  refine cw_cond (b := ((decide (i < m.Rows)) && ok)) rfl (fun hb2 => ?_) (fun hb2 => ?_)
  ·skip
   have hF4 := ct hb1 hb2
   refine cw_skip ?_
   refine cw_seq ?_
   refine cw_block ?_
   obtain ⟨r_3, hc1, hF4⟩ := bind_inv hF4
   obtain ⟨⟨r_4, r_5⟩, hc2, hF4⟩ := bind_inv hF4
   refine cw_mid (fun f w => FF f [(1, pt (aD b) 0), (2, pt (aD b1) 0), (4, pt (aD b2) 0), (5, .bool r_5), (6, vi i)] ∧ ST w0 [] w [⟨aD b, 38, [vi m.Rows, vi m.Cols, .slice B m.Cells.length c], 3⟩, ⟨aD b1, 44, [vi 0, vi 0, vi 0, vi 0, vi 0], 5⟩, ⟨aD b2, 44, [vi r_4.Num.A, vi r_4.Num.B, vi r_4.Num.C, vi r_4.Num.D, vi r_4.Exp], 5⟩] [⟨B, (m.Cells.flatMap eN0)⟩]) ?_ ?_
   ·skip
    refine ra_start (ST.sel hS7 [0, 1] rfl rfl).fn (by kernel_rfl) ?_
    have hS11 := hS7.drew
    refine ra_q 1 30 (v := .agg #[vi m.Rows, vi m.Cols, .slice B m.Cells.length c]) rfl rfl rfl (by kernel_rfl) (by kernel_rfl) (by kernel_rfl) (ST.sel hS11 [0, 1] rfl rfl) (fun w' hw' => (Y_loadA (B := aD b) (i := 0) (cs := [vi m.Rows, vi m.Cols, .slice B m.Cells.length c]) (vs := [vi m.Rows, vi m.Cols, .slice B m.Cells.length c]) k_ag_38 k_sz_38_3 rfl (hf.get 1 0 rfl) (ST.cf hw' (i := 0) rfl) rfl rfl)) ?_
    refine ra_q 2 31 (v := vi i) rfl rfl rfl (by kernel_rfl) (by kernel_rfl) (by kernel_rfl) (ST.sel hS11 [0, 1] rfl rfl) (fun w' hw' => (Y_move (v := vi i) rfl (hf.get 6 4 rfl))) ?_
    refine ra_q 3 32 (v := vi i) rfl rfl rfl (by kernel_rfl) (by kernel_rfl) (by kernel_rfl) (ST.sel hS11 [0, 1] rfl rfl) (fun w' hw' => (Y_move (v := vi i) rfl (hf.get 6 4 rfl))) ?_
    refine ra_all (rs := [0, 4]) (by kernel_rfl) rfl ?_
    refine ra_y 29 (i := 0) (v := .agg #[vi A, vi B1, vi C, vi D, vi Exp]) rfl rfl rfl (Y_loadA (B := aD b2) (i := 0) (cs := [vi A, vi B1, vi C, vi D, vi Exp]) (vs := [vi A, vi B1, vi C, vi D, vi Exp]) k_ag_44 k_sz_44_5 rfl (hf.get 4 2 rfl) (hS11.cf (i := 2) rfl) rfl rfl) (ST.sel hS11 [0, 1] rfl rfl) ?_ ?_
    ·skip
     refine ra_all (rs := [4]) (by kernel_rfl) rfl ?_
     refine ra_c 33 (i := 4) rfl rfl rfl (Yc_func (g := 70) (vs := [.agg #[vi m.Rows, vi m.Cols, .slice B m.Cells.length c], vi i, vi i]) k_call_70 rfl (mc rfl (mc rfl (mc rfl mn))) (c_impl_Matrix_at m i i B c m.Cells.length _ rfl (hS11.inn0 [(true, 0)] rfl) hc1)) ?_ ?_
     ·rintro _ w_6 ⟨rfl, hd1⟩
      have hS12 := hS11.out00 hd1
      have hS12 : ST w0 [] _ [⟨aD b, 38, [vi m.Rows, vi m.Cols, .slice B m.Cells.length c], 3⟩, ⟨aD b1, 44, [vi 0, vi 0, vi 0, vi 0, vi 0], 5⟩, ⟨aD b2, 44, [vi A, vi B1, vi C, vi D, vi Exp], 5⟩] [⟨B, (m.Cells.flatMap eN0)⟩] := hS12
      refine ⟨(ST.sel hS12 [0, 1] rfl rfl), ?_⟩
      refine ra_all (rs := [5]) (by kernel_rfl) rfl ?_
      refine ra_c 34 (i := 5) rfl rfl rfl (Yc_func (g := 29) (vs := [.agg #[vi A, vi B1, vi C, vi D, vi Exp], .agg #[vi r_3.Num.A, vi r_3.Num.B, vi r_3.Num.C, vi r_3.Num.D, vi r_3.Exp]]) k_call_29 rfl (mc rfl (mc rfl mn)) (c_impl_AddDyadic (TDyadic.mk (TRing.mk A B1 C D) Exp) r_3 _  (hS12.inn0 [] rfl) hc2)) ?_ ?_
      ·rintro _ w_7 ⟨rfl, hd2⟩
       have hS13 := hS12.out00 hd2
       have hS13 : ST w0 [] _ [⟨aD b, 38, [vi m.Rows, vi m.Cols, .slice B m.Cells.length c], 3⟩, ⟨aD b1, 44, [vi 0, vi 0, vi 0, vi 0, vi 0], 5⟩, ⟨aD b2, 44, [vi A, vi B1, vi C, vi D, vi Exp], 5⟩] [⟨B, (m.Cells.flatMap eN0)⟩] := hS13
       refine ⟨(ST.sel hS13 [0, 1] rfl rfl), ?_⟩
       refine ra_q 6 28 (v := .tuple #[.agg #[vi r_4.Num.A, vi r_4.Num.B, vi r_4.Num.C, vi r_4.Num.D, vi r_4.Exp], .bool r_5]) rfl rfl rfl (by kernel_rfl) (by kernel_rfl) (by kernel_rfl) (ST.sel hS13 [0, 1] rfl rfl) (fun w' hw' => (Y_move (v := .tuple #[.agg #[vi r_4.Num.A, vi r_4.Num.B, vi r_4.Num.C, vi r_4.Num.D, vi r_4.Exp], .bool r_5]) rfl rfl)) ?_
       refine ra_q 7 35 (v := .agg #[vi r_4.Num.A, vi r_4.Num.B, vi r_4.Num.C, vi r_4.Num.D, vi r_4.Exp]) rfl rfl rfl (by kernel_rfl) (by kernel_rfl) (by kernel_rfl) (ST.sel hS13 [0, 1] rfl rfl) (fun w' hw' => (Y_extract (v := .agg #[vi r_4.Num.A, vi r_4.Num.B, vi r_4.Num.C, vi r_4.Num.D, vi r_4.Exp]) rfl rfl rfl)) ?_
       refine ra_q 8 36 (v := .bool r_5) rfl rfl rfl (by kernel_rfl) (by kernel_rfl) (by kernel_rfl) (ST.sel hS13 [0, 1] rfl rfl) (fun w' hw' => (Y_extract (v := .bool r_5) rfl rfl rfl)) ?_
       refine ra_all (rs := [9]) (by kernel_rfl) rfl ?_
       refine ra_s0 (i := 9) rfl rfl rfl (Ys_store (i := 2) (s := 5) (B := aD b2) (T' := 44) (v := .agg #[vi r_4.Num.A, vi r_4.Num.B, vi r_4.Num.C, vi r_4.Num.D, vi r_4.Exp]) (vs := [vi r_4.Num.A, vi r_4.Num.B, vi r_4.Num.C, vi r_4.Num.D, vi r_4.Exp]) (k := 0) (cs' := [vi r_4.Num.A, vi r_4.Num.B, vi r_4.Num.C, vi r_4.Num.D, vi r_4.Exp]) hS13 k_sz_44_5 rfl (hf.get 4 2 rfl) rfl rfl rfl rfl rfl (Nat.le_of_ble_eq_true rfl) rfl rfl) ?_ ?_
       ·rintro _ w_8 ⟨rfl, hS14⟩
        have hS14 : ST w0 [] _ [⟨aD b, 38, [vi m.Rows, vi m.Cols, .slice B m.Cells.length c], 3⟩, ⟨aD b1, 44, [vi 0, vi 0, vi 0, vi 0, vi 0], 5⟩, ⟨aD b2, 44, [vi r_4.Num.A, vi r_4.Num.B, vi r_4.Num.C, vi r_4.Num.D, vi r_4.Exp], 5⟩] [⟨B, (m.Cells.flatMap eN0)⟩] := hS14
        refine ⟨(ST.sel hS14 [0, 1] rfl rfl), ?_⟩
        refine ra_q 10 5 (v := .bool r_5) rfl rfl rfl (by kernel_rfl) (by kernel_rfl) (by kernel_rfl) (ST.sel hS14 [0, 1] rfl rfl) (fun w' hw' => (Y_assign (v := .bool r_5) rfl rfl)) ?_
        refine ra_done (by kernel_rfl) ?_
        exact ⟨(FF.cons (hf.get 1 0 rfl) (FF.cons (hf.get 2 1 rfl) (FF.cons (hf.get 4 2 rfl) (FF.cons rfl (FF.cons (hf.get 6 4 rfl) FF.nil))))), (hS14.sel [0, 1, 2] rfl rfl)⟩
       exact allR_nil
      exact allR_nil
     exact allR_nil
    refine ra_c 33 (i := 4) rfl rfl rfl (Yc_func (g := 70) (vs := [.agg #[vi m.Rows, vi m.Cols, .slice B m.Cells.length c], vi i, vi i]) k_call_70 rfl (mc rfl (mc rfl (mc rfl mn))) (c_impl_Matrix_at m i i B c m.Cells.length _ rfl (hS11.inn0 [(true, 0)] rfl) hc1)) ?_ ?_
    ·rintro _ w_9 ⟨rfl, hd3⟩
     have hS15 := hS11.out00 hd3
     have hS15 : ST w0 [] _ [⟨aD b, 38, [vi m.Rows, vi m.Cols, .slice B m.Cells.length c], 3⟩, ⟨aD b1, 44, [vi 0, vi 0, vi 0, vi 0, vi 0], 5⟩, ⟨aD b2, 44, [vi A, vi B1, vi C, vi D, vi Exp], 5⟩] [⟨B, (m.Cells.flatMap eN0)⟩] := hS15
     refine ⟨(ST.sel hS15 [0, 1] rfl rfl), ?_⟩
     refine ra_all (rs := [0]) (by kernel_rfl) rfl ?_
     refine ra_y 29 (i := 0) (v := .agg #[vi A, vi B1, vi C, vi D, vi Exp]) rfl rfl rfl (Y_loadA (B := aD b2) (i := 0) (cs := [vi A, vi B1, vi C, vi D, vi Exp]) (vs := [vi A, vi B1, vi C, vi D, vi Exp]) k_ag_44 k_sz_44_5 rfl (hf.get 4 2 rfl) (hS15.cf (i := 2) rfl) rfl rfl) (ST.sel hS15 [0, 1] rfl rfl) ?_ ?_
     ·skip
      refine ra_all (rs := [5]) (by kernel_rfl) rfl ?_
      refine ra_c 34 (i := 5) rfl rfl rfl (Yc_func (g := 29) (vs := [.agg #[vi A, vi B1, vi C, vi D, vi Exp], .agg #[vi r_3.Num.A, vi r_3.Num.B, vi r_3.Num.C, vi r_3.Num.D, vi r_3.Exp]]) k_call_29 rfl (mc rfl (mc rfl mn)) (c_impl_AddDyadic (TDyadic.mk (TRing.mk A B1 C D) Exp) r_3 _  (hS15.inn0 [] rfl) hc2)) ?_ ?_
      ·rintro _ w_10 ⟨rfl, hd4⟩
       have hS16 := hS15.out00 hd4
       have hS16 : ST w0 [] _ [⟨aD b, 38, [vi m.Rows, vi m.Cols, .slice B m.Cells.length c], 3⟩, ⟨aD b1, 44, [vi 0, vi 0, vi 0, vi 0, vi 0], 5⟩, ⟨aD b2, 44, [vi A, vi B1, vi C, vi D, vi Exp], 5⟩] [⟨B, (m.Cells.flatMap eN0)⟩] := hS16
       refine ⟨(ST.sel hS16 [0, 1] rfl rfl), ?_⟩
       refine ra_q 6 28 (v := .tuple #[.agg #[vi r_4.Num.A, vi r_4.Num.B, vi r_4.Num.C, vi r_4.Num.D, vi r_4.Exp], .bool r_5]) rfl rfl rfl (by kernel_rfl) (by kernel_rfl) (by kernel_rfl) (ST.sel hS16 [0, 1] rfl rfl) (fun w' hw' => (Y_move (v := .tuple #[.agg #[vi r_4.Num.A, vi r_4.Num.B, vi r_4.Num.C, vi r_4.Num.D, vi r_4.Exp], .bool r_5]) rfl rfl)) ?_
       refine ra_q 7 35 (v := .agg #[vi r_4.Num.A, vi r_4.Num.B, vi r_4.Num.C, vi r_4.Num.D, vi r_4.Exp]) rfl rfl rfl (by kernel_rfl) (by kernel_rfl) (by kernel_rfl) (ST.sel hS16 [0, 1] rfl rfl) (fun w' hw' => (Y_extract (v := .agg #[vi r_4.Num.A, vi r_4.Num.B, vi r_4.Num.C, vi r_4.Num.D, vi r_4.Exp]) rfl rfl rfl)) ?_
       refine ra_q 8 36 (v := .bool r_5) rfl rfl rfl (by kernel_rfl) (by kernel_rfl) (by kernel_rfl) (ST.sel hS16 [0, 1] rfl rfl) (fun w' hw' => (Y_extract (v := .bool r_5) rfl rfl rfl)) ?_
       refine ra_all (rs := [9]) (by kernel_rfl) rfl ?_
       refine ra_s0 (i := 9) rfl rfl rfl (Ys_store (i := 2) (s := 5) (B := aD b2) (T' := 44) (v := .agg #[vi r_4.Num.A, vi r_4.Num.B, vi r_4.Num.C, vi r_4.Num.D, vi r_4.Exp]) (vs := [vi r_4.Num.A, vi r_4.Num.B, vi r_4.Num.C, vi r_4.Num.D, vi r_4.Exp]) (k := 0) (cs' := [vi r_4.Num.A, vi r_4.Num.B, vi r_4.Num.C, vi r_4.Num.D, vi r_4.Exp]) hS16 k_sz_44_5 rfl (hf.get 4 2 rfl) rfl rfl rfl rfl rfl (Nat.le_of_ble_eq_true rfl) rfl rfl) ?_ ?_
       ·rintro _ w_11 ⟨rfl, hS17⟩
        have hS17 : ST w0 [] _ [⟨aD b, 38, [vi m.Rows, vi m.Cols, .slice B m.Cells.length c], 3⟩, ⟨aD b1, 44, [vi 0, vi 0, vi 0, vi 0, vi 0], 5⟩, ⟨aD b2, 44, [vi r_4.Num.A, vi r_4.Num.B, vi r_4.Num.C, vi r_4.Num.D, vi r_4.Exp], 5⟩] [⟨B, (m.Cells.flatMap eN0)⟩] := hS17
        refine ⟨(ST.sel hS17 [0, 1] rfl rfl), ?_⟩
        refine ra_q 10 5 (v := .bool r_5) rfl rfl rfl (by kernel_rfl) (by kernel_rfl) (by kernel_rfl) (ST.sel hS17 [0, 1] rfl rfl) (fun w' hw' => (Y_assign (v := .bool r_5) rfl rfl)) ?_
        refine ra_done (by kernel_rfl) ?_
        exact ⟨(FF.cons (hf.get 1 0 rfl) (FF.cons (hf.get 2 1 rfl) (FF.cons (hf.get 4 2 rfl) (FF.cons rfl (FF.cons (hf.get 6 4 rfl) FF.nil))))), (hS17.sel [0, 1, 2] rfl rfl)⟩
       exact allR_nil
      exact allR_nil
     exact allR_nil
    exact allR_nil
   rintro f w ⟨hf1, hS10⟩
   refine cw_region ?_
   refine sq 26 rfl rfl (Y_move (v := vi i) rfl (hf1.get 6 4 rfl)) ?_
   refine sq 27 rfl rfl (Y_add (k := .i64) (a := i) (b := 1) rfl rfl rfl) ?_
   refine sq 6 rfl rfl (Y_assign (v := vi (i64.wrap (i + 1))) rfl rfl) ?_
   refine rw_nil ?_
   obtain rfl := some_inj hF4
   exact ⟨k_1, Nat.lt_succ_self _, r_4.Num.A, r_4.Num.B, r_4.Num.C, r_4.Num.D, r_4.Exp, r_5, (i64.wrap (i + 1)), (FF.cons (hf1.get 1 0 rfl) (FF.cons (hf1.get 2 1 rfl) (FF.cons (hf1.get 4 2 rfl) (FF.cons (hf1.get 5 3 rfl) (FF.cons rfl FF.nil))))), (hS10.sel [0, 1, 2] rfl rfl), hL1⟩
  ·skip
   have hF5 := cf' hb1 hb2
   refine cw_exit rfl ?_
   obtain rfl := some_inj hF5
   obtain rfl := some_inj hL1
   refine cw_seq ?_
   refine cw_region ?_
   refine sq 37 rfl rfl (Y_loadA (B := aD b2) (i := 0) (cs := [vi A, vi B1, vi C, vi D, vi Exp]) (vs := [vi A, vi B1, vi C, vi D, vi Exp]) k_ag_44 k_sz_44_5 rfl (hf.get 4 2 rfl) (hS7.cf (i := 2) rfl) rfl rfl) ?_
   refine sq 38 rfl rfl (Y_move (v := .bool ok) rfl (hf.get 5 3 rfl)) ?_
   refine ss0 rfl rfl (Ys_store (i := 1) (s := 5) (B := aD b1) (T' := 44) (v := .agg #[vi A, vi B1, vi C, vi D, vi Exp]) (vs := [vi A, vi B1, vi C, vi D, vi Exp]) (k := 0) (cs' := [vi A, vi B1, vi C, vi D, vi Exp]) hS7 k_sz_44_5 rfl (hf.get 2 1 rfl) rfl rfl rfl rfl rfl (Nat.le_of_ble_eq_true rfl) rfl rfl) ?_
   rintro _ w_12 ⟨rfl, hS18⟩
   have hS18 : ST w0 [] _ [⟨aD b, 38, [vi m.Rows, vi m.Cols, .slice B m.Cells.length c], 3⟩, ⟨aD b1, 44, [vi A, vi B1, vi C, vi D, vi Exp], 5⟩, ⟨aD b2, 44, [vi A, vi B1, vi C, vi D, vi Exp], 5⟩] [⟨B, (m.Cells.flatMap eN0)⟩] := hS18
   refine sq 3 rfl rfl (Y_assign (v := .bool ok) rfl rfl) ?_
   refine rw_nil ?_
   refine cw_ret ?_
   obtain ⟨rfl, rfl⟩ := pr2 (some_inj hF3)
   exact ret2 Tryd.results72 (v1 := .agg #[vi A, vi B1, vi C, vi D, vi Exp]) (resAt_cellA (B := aD b1) (i := 0) (cs := [vi A, vi B1, vi C, vi D, vi Exp]) (vs := [vi A, vi B1, vi C, vi D, vi Exp]) (hf.get 2 1 rfl) k_ag_44 k_sz_44_5 (hS18.cf (i := 1) rfl) rfl rfl) (v2 := .bool ok) (resAt_tmp rfl) ⟨rfl, (ST.subR (R' := []) (hS18.sel [] rfl rfl) (fun _ h => by cases h))⟩
end Go.VK
