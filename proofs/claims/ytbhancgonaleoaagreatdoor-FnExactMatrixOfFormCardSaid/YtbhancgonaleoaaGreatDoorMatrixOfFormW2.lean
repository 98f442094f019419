/- Walks: each Go function returns what its Lean function says. By program. -/
import Derived.Test.YtbhancgonaleoaaGreatDoorMatrixOfFormFa
import Derived.Test.YtbhancgonaleoaaGreatDoorMatrixOfFormW1
set_option linter.unusedVariables false
set_option maxRecDepth 100000
set_option maxHeartbeats 1000000
namespace Go.VK
open Go.RowKit
open Go.Proofs
open Go.IntKind
attribute [local irreducible] CW RW RA CV Y Yw Yc Ys RetOf
attribute [local irreducible] F_laws_szNormalForm F_laws_toNormalForm F_spec_l1In F_spec_l10Valid F_spec_l9Same F_spec_l1Even F_spec_l1Root F_spec_l1Half F_spec_l2Low F_spec_l1All F_spec_l1Good F_spec_l2C_ring F_spec_l1Mul F_spec_l2C_mul F_spec_l1Add F_spec_l2C_add F_spec_l2C_times F_spec_l1Neg F_spec_l2Neg F_spec_l1Turn F_spec_l2Power F_spec_l6One F_spec_l9Pauli F_spec_l1Conj F_spec_l2Conj F_spec_l3Adj F_spec_l9Bloch F_spec_l6Bit F_spec_l6Cell F_spec_l6Gate F_spec_l2C_run F_spec_l3Unit F_spec_l6Op F_spec_l9Word F_spec_l9Words F_spec_l10Gates F_spec_l10Circuit F_spec_MatrixOfForm F_impl_within F_impl_IsValidForm F_impl_isCoef F_impl_IsValidRing F_impl_isEven F_impl_IsValidDyadic F_impl_ringIf F_impl_MulRing F_impl_DivRootTwo F_impl_DyadicOf F_impl_MulDyadic F_impl_MulRootTwo F_impl_raised F_impl_combined F_impl_AddRing F_impl_AddDyadic F_impl_mulBloch F_impl_whole F_impl_small F_impl_isDim F_impl_matrixOf F_impl_isTwo F_impl_IsValidGate F_impl_MulOmega F_impl_phase F_impl_bitOf F_impl_flipped F_impl_comesFrom F_impl_entry F_impl_GateMatrix_1 F_impl_GateMatrix F_slices_IndexFunc_impl_Dyadic_impl_Dyadic F_slices_ContainsFunc_impl_Dyadic_impl_Dyadic F_impl_IsValidMatrix_1 F_impl_IsValidMatrix F_impl_IdentityMatrix_1 F_impl_IdentityMatrix F_impl_Matrix_at F_impl_MulMatrix_1 F_impl_MulMatrix F_impl_Conjugate F_impl_ConjDyadic F_impl_Adjoint_1 F_impl_Adjoint F_slices_Equal_impl_Dyadic_impl_Dyadic F_impl_EqualMatrices F_impl_IsUnitary F_impl_IsOneQubit F_impl_TraceOf F_impl_blochCell F_impl_BlochOf F_impl_blochGate F_slices_IndexFunc_SSimpl_Dyadic_impl_Dyadic F_slices_ContainsFunc_SSimpl_Dyadic_impl_Dyadic F_impl_cliffordList_1 F_impl_cliffordList F_impl_CliffordWord F_impl_wordGates F_impl_syllableGates F_impl_formGates F_slices_IndexFunc_impl_Gate_impl_Gate F_slices_ContainsFunc_impl_Gate_impl_Gate F_impl_IsValidCircuit_1 F_impl_IsValidCircuit F_impl_applied F_impl_OperatorOf F_impl_ScaleMatrix_1 F_impl_ScaleMatrix F_impl_MatrixOfForm F_laws_eqRing F_laws_eqDyadic F_laws_eqDyadicS F_laws_eqMatrix F_laws_markDyadicS F_laws_markMatrix F_laws_heldDyadicS F_laws_heldMatrix F_laws_FnExactMatrixOfForm
theorem c_spec_l6Cell (n : Int) (g : TGate) (row : Int) (col : Int)  (w0 : World)  (hS : ST w0 [] w0 [] []) {r_ : TDyadic} (hF : F_spec_l6Cell n g row col = some r_) :
  CV Tryz.prog 140 #[vi n, .agg #[vi g.Kind, vi g.A, vi g.B], vi row, vi col] w0 (fun v w' => v = (gD_ r_) ∧ ST w0 [] w' [] []) := by
 unfold F_spec_l6Cell at hF
 refine cv_of_cw 119 Tryz.func140 rfl Tryz.ntmps140 rfl ?_
 refine cw_seq (cw_region ?_)
 refine sS 5 (Ys_box (T := 70) (v := .agg #[vi g.Kind, vi g.A, vi g.B]) (cs := [vi g.Kind, vi g.A, vi g.B]) (m := 3) hS rfl rfl rfl rfl) ?_
 rintro _ w_ ⟨b, rfl, hS1⟩
 refine sS 8 (Ys_alloc (T := 65) (cs := kZ_) (m := 5) hS1 k_zero_65 rfl rfl rfl) ?_
 rintro _ w_1 ⟨b1, rfl, hS2⟩
 refine rw_nil (cw_seq (cw_region ?_))
 obtain ⟨r_1, hc, hF⟩ := bind_inv hF
 refine sc 12 rfl rfl (Yc_func (g := 54) (vs := [vi 0]) k_call_54 rfl (mc rfl mn) (c_spec_l2Power 0 _  (hS2.inn0 [] rfl) hc)) ?_
 rintro _ w_2 ⟨rfl, hd⟩
 have hS3 := hS2.out00 hd
 refine sQ 13 (Y_buildS (zs := kZ_) (vs := []) (cs := kZ_) k_pl_65 k_zero_65 rfl mpn rfl) ?_
 refine sS 9 (Ys_alloc (T := 65) (cs := kZ_) (m := 5) hS3 k_zero_65 rfl rfl rfl) ?_
 rintro _ w_3 ⟨b2, rfl, hS4⟩
 refine sS 10 (Ys_alloc (T := 65) (cs := kZ_) (m := 5) hS4 k_zero_65 rfl rfl rfl) ?_
 rintro _ w_4 ⟨b3, rfl, hS5⟩
 refine s0 (Ys_store (i := 2) (s := 5) (B := aD b2) (T' := 65) (v := gD_ r_1) (vs := kD_ r_1) (k := 0) (cs' := kD_ r_1) hS5 k_sz_65_5 rfl rfl rfl rfl rfl rfl rfl (lB rfl) rfl rfl) ?_
 rintro _ w_5 ⟨rfl, hS6⟩
 refine s0 (Ys_store (i := 3) (s := 5) (B := aD b3) (T' := 65) (v := gZ_) (vs := kZ_) (k := 0) (cs' := kZ_) hS6 k_sz_65_5 rfl rfl rfl rfl rfl rfl rfl (lB rfl) rfl rfl) ?_
 rintro _ w_6 ⟨rfl, hS7⟩
 refine rw_nil (cw_seq (cw_region ?_))
 refine sQ 14 (Y_move (v := vi col) rfl rfl) ?_
 refine sQ 11 (Y_assign (v := vi col) rfl rfl) (rw_nil (cw_seq ?_))
 obtain ⟨z, hz, hF1⟩ := bind_inv hF
 refine cw_mid (fun f w => ∃ (A : Int) (B : Int) (C : Int) (D : Int) (Exp : Int) (to_ : Int), .inl (A, B, C, D, Exp, to_) = z ∧ FF f [(2, vi row), (8, pt (aD b1) 0), (9, pt (aD b2) 0), (10, pt (aD b3) 0), (11, vi to_)] ∧ ST w0 [] w [⟨aD b1, 65, kZ_, 5⟩, ⟨aD b2, 65, [vi A, vi B, vi C, vi D, vi Exp], 5⟩, ⟨aD b3, 65, kZ_, 5⟩] []) ?_ ?_
 ·skip
  refine cw_seq (cw_region ?_)
  refine sQ 15 (Y_fieldAddr (B := aD b) (i := 0) (s := 0) k_fd_70_0_0_3 k_sz_3_1 rfl rfl) ?_
  refine sQ 16 (Y_load1 (B := aD b) (i := 0) (cs := [vi g.Kind, vi g.A, vi g.B]) (v := vi g.Kind) k_sc_3 rfl rfl (hS7.cf (i := 0) rfl) rfl) (rw_nil (cw_block (cw_seq (cw_region ?_))))
  refine sQ 48 (Y_eq (k := .i64) (a := g.Kind) (b := 12) rfl rfl rfl) ?_
  refine sQ 47 (Y_assign (v := .bool (g.Kind == 12)) rfl rfl) (rw_nil ?_)
  refine cw_cond (b := (g.Kind == 12)) rfl (fun hb => ?_) (fun hb => ?_)
  ·skip
   have hF2 := ct hz hb
   refine cw_region ?_
   obtain ⟨r_2, hc1, hF2⟩ := bind_inv hF2
   refine sc 49 rfl rfl (Yc_func (g := 54) (vs := [vi 1]) k_call_54 rfl (mc rfl mn) (c_spec_l2Power 1 _  (hS7.inn0 [] rfl) hc1)) ?_
   rintro _ w_7 ⟨rfl, hd1⟩
   have hS9 := hS7.out00 hd1
   refine s0 (Ys_store (i := 2) (s := 5) (B := aD b2) (T' := 65) (v := gD_ r_2) (vs := kD_ r_2) (k := 0) (cs' := kD_ r_2) hS9 k_sz_65_5 rfl rfl rfl rfl rfl rfl rfl (lB rfl) rfl rfl) ?_
   rintro _ w_8 ⟨rfl, hS10⟩
   refine rw_nil ?_
   exact ⟨r_2.Num.A, r_2.Num.B, r_2.Num.C, r_2.Num.D, r_2.Exp, col, (some_inj hF2), (FF.cons rfl (FF.cons rfl (FF.cons rfl (FF.cons rfl (FF.cons rfl FF.nil))))), (hS10.sel [1, 2, 3] rfl rfl)⟩
  ·skip
   have hF3 := cf' hz hb
   refine cw_seq (cw_region ?_)
   refine sQ 51 (Y_eq (k := .i64) (a := g.Kind) (b := 9) rfl rfl rfl) ?_
   refine sQ 50 (Y_assign (v := .bool (g.Kind == 9)) rfl rfl) (rw_nil ?_)
   refine cw_cond (b := (g.Kind == 9)) rfl (fun hb1 => ?_) (fun hb1 => ?_)
   ·skip
    have hF4 := ct hF3 hb1
    refine cw_seq (cw_region ?_)
    refine sQ 52 (Y_move (v := vi n) rfl rfl) ?_
    refine sQ 53 (Y_move (v := vi col) rfl rfl) ?_
    refine sQ 54 (Y_fieldAddr (B := aD b) (i := 0) (s := 0) k_fd_70_1_1_3 k_sz_3_1 rfl rfl) ?_
    refine sQ 55 (Y_load1 (B := aD b) (i := 1) (cs := [vi g.Kind, vi g.A, vi g.B]) (v := vi g.A) k_sc_3 rfl rfl (hS7.cf (i := 0) rfl) rfl) ?_
    obtain ⟨r_3, hc2, hF4⟩ := bind_inv hF4
    refine sc 56 rfl rfl (Yc_func (g := 151) (vs := [vi n, vi col, vi g.A]) k_call_151 rfl (mc rfl (mc rfl (mc rfl mn))) (c_spec_l6Bit n col g.A _  (hS7.inn0 [] rfl) hc2)) ?_
    rintro _ w_9 ⟨rfl, hd2⟩
    have hS11 := hS7.out00 hd2
    refine sQ 57 (Y_eq (k := .i64) (a := r_3) (b := 1) rfl rfl rfl) (rw_nil ?_)
    refine cw_cond (b := (r_3 == 1)) rfl (fun hb2 => ?_) (fun hb2 => ?_)
    ·skip
     have hF5 := ct hF4 hb2
     refine cw_region ?_
     refine sQ 58 (Y_move (v := vi col) rfl rfl) ?_
     refine sQ 59 (Y_move (v := vi n) rfl rfl) ?_
     refine sQ 60 (Y_sub (k := .i64) (a := n) (b := 1) rfl rfl rfl) ?_
     refine sQ 61 (Y_fieldAddr (B := aD b) (i := 0) (s := 0) k_fd_70_2_2_3 k_sz_3_1 rfl rfl) ?_
     refine sQ 62 (Y_load1 (B := aD b) (i := 2) (cs := [vi g.Kind, vi g.A, vi g.B]) (v := vi g.B) k_sc_3 rfl rfl (hS11.cf (i := 0) rfl) rfl) ?_
     refine sQ 63 (Y_sub (k := .i64) (a := (i64.wrap (n - 1))) (b := g.B) rfl rfl rfl) ?_
     refine sQ 64 (Y_conv (k := .i64) (a := (i64.wrap ((i64.wrap (n - 1)) - g.B))) (T := 3) (T' := 115) k_us_3 k_int_115_u64 rfl rfl) ?_
     obtain ⟨hsh, hF5⟩ := chk_inv hF5
     refine sQ 65 (Y_shl (k := .i64) (a := 1) (k' := .u64) (b := (IntKind.u64.wrap (i64.wrap ((i64.wrap (n - 1)) - g.B)))) rfl rfl rfl hsh) ?_
     refine sQ 66 (Y_bxor (k := .i64) (a := col) (b := (shlK .i64 1 (IntKind.u64.wrap (i64.wrap ((i64.wrap (n - 1)) - g.B))))) rfl rfl rfl) ?_
     refine sQ 11 (Y_assign (v := vi (bits .xor .i64 col (shlK .i64 1 (IntKind.u64.wrap (i64.wrap ((i64.wrap (n - 1)) - g.B)))))) rfl rfl) (rw_nil ?_)
     exact ⟨r_1.Num.A, r_1.Num.B, r_1.Num.C, r_1.Num.D, r_1.Exp, (bits .xor .i64 col (shlK .i64 1 (IntKind.u64.wrap (i64.wrap ((i64.wrap (n - 1)) - g.B))))), (some_inj hF5), (FF.cons rfl (FF.cons rfl (FF.cons rfl (FF.cons rfl (FF.cons rfl FF.nil))))), (hS11.sel [1, 2, 3] rfl rfl)⟩
    ·skip
     have hF6 := cf' hF4 hb2
     refine cw_skip ?_
     exact ⟨r_1.Num.A, r_1.Num.B, r_1.Num.C, r_1.Num.D, r_1.Exp, col, (some_inj hF6), (FF.cons rfl (FF.cons rfl (FF.cons rfl (FF.cons rfl (FF.cons rfl FF.nil))))), (hS11.sel [1, 2, 3] rfl rfl)⟩
   ·skip
    have hF7 := cf' hF3 hb1
    refine cw_seq (cw_region ?_)
    refine sQ 68 (Y_eq (k := .i64) (a := g.Kind) (b := 10) rfl rfl rfl) ?_
    refine sQ 67 (Y_assign (v := .bool (g.Kind == 10)) rfl rfl) (rw_nil ?_)
    refine cw_cond (b := (g.Kind == 10)) rfl (fun hb3 => ?_) (fun hb3 => ?_)
    ·skip
     have hF8 := ct hF7 hb3
     refine cw_seq (cw_region ?_)
     refine sQ 69 (Y_move (v := vi n) rfl rfl) ?_
     refine sQ 70 (Y_move (v := vi col) rfl rfl) ?_
     refine sQ 71 (Y_fieldAddr (B := aD b) (i := 0) (s := 0) k_fd_70_1_1_3 k_sz_3_1 rfl rfl) ?_
     refine sQ 72 (Y_load1 (B := aD b) (i := 1) (cs := [vi g.Kind, vi g.A, vi g.B]) (v := vi g.A) k_sc_3 rfl rfl (hS7.cf (i := 0) rfl) rfl) ?_
     obtain ⟨r_4, hc3, hF8⟩ := bind_inv hF8
     refine sc 73 rfl rfl (Yc_func (g := 151) (vs := [vi n, vi col, vi g.A]) k_call_151 rfl (mc rfl (mc rfl (mc rfl mn))) (c_spec_l6Bit n col g.A _  (hS7.inn0 [] rfl) hc3)) ?_
     rintro _ w_10 ⟨rfl, hd3⟩
     have hS12 := hS7.out00 hd3
     refine sQ 74 (Y_eq (k := .i64) (a := r_4) (b := 1) rfl rfl rfl) ?_
     refine sQ 75 (Y_move (v := .bool (r_4 == 1)) rfl rfl) ?_
     refine sgq 76 (B := (r_4 == 1)) (v := vi n) rfl rfl (uT_ 75) (fun hg => (Y_move (v := vi n) rfl rfl)) ?_
     refine sgq 77 (B := (r_4 == 1)) (v := vi col) rfl rfl (uT_ 75) (fun hg1 => (Y_move (v := vi col) rfl rfl)) ?_
     refine sgq 78 (B := (r_4 == 1)) (v := pt (aD b) 2) rfl rfl (uT_ 75) (fun hg2 => (Y_fieldAddr (B := aD b) (i := 0) (s := 0) k_fd_70_2_2_3 k_sz_3_1 rfl rfl)) ?_
     refine sgq 79 (B := (r_4 == 1)) (v := vi g.B) rfl rfl (uT_ 75) (fun hg3 => (Y_load1 (B := aD b) (i := 2) (cs := [vi g.Kind, vi g.A, vi g.B]) (v := vi g.B) k_sc_3 rfl (gv_of (v := pt (aD b) 2) hg3) (hS12.cf (i := 0) rfl) rfl)) ?_
     obtain ⟨r_5, hc4, hF8⟩ := bind_inv hF8
     refine sgc 80 (B := (r_4 == 1)) (v := vi r_5) (F := hS12.fn) rfl rfl (uT_ 75) hS12 (fun hg4 => (Yc_func (g := 151) (vs := [vi n, vi col, vi g.B]) k_call_151 rfl (mc (gv_of (v := vi n) hg4) (mc (gv_of (v := vi col) hg4) (mc (gv_of (v := vi g.B) hg4) mn))) (CV.mono (c_spec_l6Bit n col g.B _  (hS12.inn0 [] rfl) (gb_inv hc4 hg4)) (by rintro _ _ ⟨rfl, h⟩; exact ⟨rfl, hS12.out00 h⟩)))) ?_
     rintro w_11 hS13
     refine sgq 81 (B := (r_4 == 1)) (v := .bool (r_5 == 1)) rfl rfl (uT_ 75) (fun hg5 => (Y_eq (k := .i64) (a := r_5) (b := 1) rfl (gv_of (v := vi r_5) hg5) rfl)) ?_
     refine sQ 82 (Y_and (b := (r_4 == 1)) (z := (r_5 == 1)) rfl rfl rfl rfl) (rw_nil ?_)
     refine cw_cond (b := ((r_4 == 1) && (r_5 == 1))) rfl (fun hb4 => ?_) (fun hb4 => ?_)
     ·skip
      have hF9 := ct hF8 hb4
      refine cw_region ?_
      obtain ⟨r_6, hc5, hF9⟩ := bind_inv hF9
      refine sc 83 rfl rfl (Yc_func (g := 54) (vs := [vi 4]) k_call_54 rfl (mc rfl mn) (c_spec_l2Power 4 _  (hS13.inn0 [] rfl) hc5)) ?_
      rintro _ w_12 ⟨rfl, hd4⟩
      have hS14 := hS13.out00 hd4
      refine s0 (Ys_store (i := 2) (s := 5) (B := aD b2) (T' := 65) (v := gD_ r_6) (vs := kD_ r_6) (k := 0) (cs' := kD_ r_6) hS14 k_sz_65_5 rfl rfl rfl rfl rfl rfl rfl (lB rfl) rfl rfl) ?_
      rintro _ w_13 ⟨rfl, hS15⟩
      refine rw_nil ?_
      exact ⟨r_6.Num.A, r_6.Num.B, r_6.Num.C, r_6.Num.D, r_6.Exp, col, (some_inj hF9), (FF.cons rfl (FF.cons rfl (FF.cons rfl (FF.cons rfl (FF.cons rfl FF.nil))))), (hS15.sel [1, 2, 3] rfl rfl)⟩
     ·skip
      have hF10 := cf' hF8 hb4
      refine cw_skip ?_
      exact ⟨r_1.Num.A, r_1.Num.B, r_1.Num.C, r_1.Num.D, r_1.Exp, col, (some_inj hF10), (FF.cons rfl (FF.cons rfl (FF.cons rfl (FF.cons rfl (FF.cons rfl FF.nil))))), (hS13.sel [1, 2, 3] rfl rfl)⟩
    ·skip
     have hF11 := cf' hF7 hb3
     refine cw_seq (cw_region ?_)
     refine sQ 85 (Y_eq (k := .i64) (a := g.Kind) (b := 11) rfl rfl rfl) ?_
     refine sQ 84 (Y_assign (v := .bool (g.Kind == 11)) rfl rfl) (rw_nil ?_)
     refine cw_cond (b := (g.Kind == 11)) rfl (fun hb5 => ?_) (fun hb5 => ?_)
     ·skip
      have hF12 := ct hF11 hb5
      refine cw_seq ?_
      obtain ⟨r_7, hc6, hF12⟩ := bind_inv hF12
      obtain ⟨r_8, hc7, hF12⟩ := bind_inv hF12
      refine ra_start (hS7.se [0, 1, 2, 3]).fn (by kernel_rfl) ?_
      have hS18 := hS7.drew
      refine rq 0 86 (v := vi n) rfl (hS18.se [0, 1, 2, 3]) (fun w' hw' => (Y_move (v := vi n) rfl rfl)) ?_
      refine rq 1 87 (v := vi col) rfl (hS18.se [0, 1, 2, 3]) (fun w' hw' => (Y_move (v := vi col) rfl rfl)) ?_
      refine rq 2 88 (v := pt (aD b) 1) rfl (hS18.se [0, 1, 2, 3]) (fun w' hw' => (Y_fieldAddr (B := aD b) (i := 0) (s := 0) k_fd_70_1_1_3 k_sz_3_1 rfl rfl)) ?_
      refine rq 3 89 (v := vi g.A) rfl (hS18.se [0, 1, 2, 3]) (fun w' hw' => (Y_load1 (B := aD b) (i := 1) (cs := [vi g.Kind, vi g.A, vi g.B]) (v := vi g.A) k_sc_3 rfl rfl (ST.cf hw' (i := 0) rfl) rfl)) ?_
      refine rq 5 91 (v := vi n) rfl (hS18.se [0, 1, 2, 3]) (fun w' hw' => (Y_move (v := vi n) rfl rfl)) ?_
      refine rq 6 92 (v := vi col) rfl (hS18.se [0, 1, 2, 3]) (fun w' hw' => (Y_move (v := vi col) rfl rfl)) ?_
      refine rq 7 93 (v := pt (aD b) 2) rfl (hS18.se [0, 1, 2, 3]) (fun w' hw' => (Y_fieldAddr (B := aD b) (i := 0) (s := 0) k_fd_70_2_2_3 k_sz_3_1 rfl rfl)) ?_
      refine rq 8 94 (v := vi g.B) rfl (hS18.se [0, 1, 2, 3]) (fun w' hw' => (Y_load1 (B := aD b) (i := 2) (cs := [vi g.Kind, vi g.A, vi g.B]) (v := vi g.B) k_sc_3 rfl rfl (ST.cf hw' (i := 0) rfl) rfl)) ?_
      refine rA [4] ?_
      refine ra_c 90 (i := 4) rfl rfl rfl (Yc_func (g := 151) (vs := [vi n, vi col, vi g.A]) k_call_151 rfl (mc rfl (mc rfl (mc rfl mn))) (c_spec_l6Bit n col g.A _  (hS18.inn0 [] rfl) hc6)) ?_ ?_
      ·rintro _ w_14 ⟨rfl, hd5⟩
       have hS19 := hS18.out00 hd5
       refine ⟨(hS19.se [0, 1, 2, 3]), ?_⟩
       refine rA [9] ?_
       refine ra_c 95 (i := 9) rfl rfl rfl (Yc_func (g := 151) (vs := [vi n, vi col, vi g.B]) k_call_151 rfl (mc rfl (mc rfl (mc rfl mn))) (c_spec_l6Bit n col g.B _  (hS19.inn0 [] rfl) hc7)) ?_ ?_
       ·rintro _ w_15 ⟨rfl, hd6⟩
        have hS20 := hS19.out00 hd6
        refine ⟨(hS20.se [0, 1, 2, 3]), ?_⟩
        refine rq 10 96 (v := .bool (r_7 != r_8)) rfl (hS20.se [0, 1, 2, 3]) (fun w' hw' => (Y_ne (k := .i64) (a := r_7) (b := r_8) rfl rfl rfl)) ?_
        refine ra_done (by kernel_rfl) ?_
        refine cw_cond (b := (r_7 != r_8)) rfl (fun hb6 => ?_) (fun hb6 => ?_)
        ·skip
         have hF13 := ct hF12 hb6
         refine cw_region ?_
         refine sQ 97 (Y_move (v := vi col) rfl rfl) ?_
         refine sQ 98 (Y_move (v := vi n) rfl rfl) ?_
         refine sQ 99 (Y_sub (k := .i64) (a := n) (b := 1) rfl rfl rfl) ?_
         refine sQ 100 (Y_fieldAddr (B := aD b) (i := 0) (s := 0) k_fd_70_1_1_3 k_sz_3_1 rfl rfl) ?_
         refine sQ 101 (Y_load1 (B := aD b) (i := 1) (cs := [vi g.Kind, vi g.A, vi g.B]) (v := vi g.A) k_sc_3 rfl rfl (hS20.cf (i := 0) rfl) rfl) ?_
         refine sQ 102 (Y_sub (k := .i64) (a := (i64.wrap (n - 1))) (b := g.A) rfl rfl rfl) ?_
         refine sQ 103 (Y_conv (k := .i64) (a := (i64.wrap ((i64.wrap (n - 1)) - g.A))) (T := 3) (T' := 115) k_us_3 k_int_115_u64 rfl rfl) ?_
         obtain ⟨hsh1, hF13⟩ := chk_inv hF13
         refine sQ 104 (Y_shl (k := .i64) (a := 1) (k' := .u64) (b := (IntKind.u64.wrap (i64.wrap ((i64.wrap (n - 1)) - g.A)))) rfl rfl rfl hsh1) ?_
         refine sQ 105 (Y_bxor (k := .i64) (a := col) (b := (shlK .i64 1 (IntKind.u64.wrap (i64.wrap ((i64.wrap (n - 1)) - g.A))))) rfl rfl rfl) ?_
         refine sQ 106 (Y_move (v := vi n) rfl rfl) ?_
         refine sQ 107 (Y_sub (k := .i64) (a := n) (b := 1) rfl rfl rfl) ?_
         refine sQ 108 (Y_fieldAddr (B := aD b) (i := 0) (s := 0) k_fd_70_2_2_3 k_sz_3_1 rfl rfl) ?_
         refine sQ 109 (Y_load1 (B := aD b) (i := 2) (cs := [vi g.Kind, vi g.A, vi g.B]) (v := vi g.B) k_sc_3 rfl rfl (hS20.cf (i := 0) rfl) rfl) ?_
         refine sQ 110 (Y_sub (k := .i64) (a := (i64.wrap (n - 1))) (b := g.B) rfl rfl rfl) ?_
         refine sQ 111 (Y_conv (k := .i64) (a := (i64.wrap ((i64.wrap (n - 1)) - g.B))) (T := 3) (T' := 115) k_us_3 k_int_115_u64 rfl rfl) ?_
         obtain ⟨hsh2, hF13⟩ := chk_inv hF13
         refine sQ 112 (Y_shl (k := .i64) (a := 1) (k' := .u64) (b := (IntKind.u64.wrap (i64.wrap ((i64.wrap (n - 1)) - g.B)))) rfl rfl rfl hsh2) ?_
         refine sQ 113 (Y_bxor (k := .i64) (a := (bits .xor .i64 col (shlK .i64 1 (IntKind.u64.wrap (i64.wrap ((i64.wrap (n - 1)) - g.A)))))) (b := (shlK .i64 1 (IntKind.u64.wrap (i64.wrap ((i64.wrap (n - 1)) - g.B))))) rfl rfl rfl) ?_
         refine sQ 11 (Y_assign (v := vi (bits .xor .i64 (bits .xor .i64 col (shlK .i64 1 (IntKind.u64.wrap (i64.wrap ((i64.wrap (n - 1)) - g.A))))) (shlK .i64 1 (IntKind.u64.wrap (i64.wrap ((i64.wrap (n - 1)) - g.B)))))) rfl rfl) (rw_nil ?_)
         exact ⟨r_1.Num.A, r_1.Num.B, r_1.Num.C, r_1.Num.D, r_1.Exp, (bits .xor .i64 (bits .xor .i64 col (shlK .i64 1 (IntKind.u64.wrap (i64.wrap ((i64.wrap (n - 1)) - g.A))))) (shlK .i64 1 (IntKind.u64.wrap (i64.wrap ((i64.wrap (n - 1)) - g.B))))), (some_inj hF13), (FF.cons rfl (FF.cons rfl (FF.cons rfl (FF.cons rfl (FF.cons rfl FF.nil))))), (hS20.sel [1, 2, 3] rfl rfl)⟩
        ·skip
         have hF14 := cf' hF12 hb6
         refine cw_skip ?_
         exact ⟨r_1.Num.A, r_1.Num.B, r_1.Num.C, r_1.Num.D, r_1.Exp, col, (some_inj hF14), (FF.cons rfl (FF.cons rfl (FF.cons rfl (FF.cons rfl (FF.cons rfl FF.nil))))), (hS20.sel [1, 2, 3] rfl rfl)⟩
       exact allR_nil
      exact allR_nil
     ·skip
      have hF15 := cf' hF11 hb5
      refine cw_seq (cw_seq (cw_region ?_))
      refine sQ 17 (Y_move (v := vi row) rfl rfl) ?_
      refine sQ 18 (Y_move (v := vi col) rfl rfl) ?_
      refine sQ 19 (Y_bxor (k := .i64) (a := row) (b := col) rfl rfl rfl) ?_
      refine sQ 20 (Y_move (v := vi n) rfl rfl) ?_
      refine sQ 21 (Y_sub (k := .i64) (a := n) (b := 1) rfl rfl rfl) ?_
      refine sQ 22 (Y_fieldAddr (B := aD b) (i := 0) (s := 0) k_fd_70_1_1_3 k_sz_3_1 rfl rfl) ?_
      refine sQ 23 (Y_load1 (B := aD b) (i := 1) (cs := [vi g.Kind, vi g.A, vi g.B]) (v := vi g.A) k_sc_3 rfl rfl (hS7.cf (i := 0) rfl) rfl) ?_
      refine sQ 24 (Y_sub (k := .i64) (a := (i64.wrap (n - 1))) (b := g.A) rfl rfl rfl) ?_
      refine sQ 25 (Y_conv (k := .i64) (a := (i64.wrap ((i64.wrap (n - 1)) - g.A))) (T := 3) (T' := 115) k_us_3 k_int_115_u64 rfl rfl) ?_
      obtain ⟨hsh3, hF15⟩ := chk_inv hF15
      refine sQ 26 (Y_shl (k := .i64) (a := 1) (k' := .u64) (b := (IntKind.u64.wrap (i64.wrap ((i64.wrap (n - 1)) - g.A)))) rfl rfl rfl hsh3) ?_
      refine sQ 27 (Y_bandNot (k := .i64) (a := (bits .xor .i64 row col)) (b := (shlK .i64 1 (IntKind.u64.wrap (i64.wrap ((i64.wrap (n - 1)) - g.A))))) rfl rfl rfl) ?_
      refine sQ 28 (Y_ne (k := .i64) (a := (bits .andNot .i64 (bits .xor .i64 row col) (shlK .i64 1 (IntKind.u64.wrap (i64.wrap ((i64.wrap (n - 1)) - g.A)))))) (b := 0) rfl rfl rfl) (rw_nil ?_)
      refine cw_cond (b := ((bits .andNot .i64 (bits .xor .i64 row col) (shlK .i64 1 (IntKind.u64.wrap (i64.wrap ((i64.wrap (n - 1)) - g.A))))) != 0)) rfl (fun hb7 => ?_) (fun hb7 => ?_)
      ·skip
       have hF16 := ct hF15 hb7
       refine cw_seq (cw_region ?_)
       refine sQ 29 (Y_loadA (B := aD b3) (i := 0) (cs := kZ_) (vs := kZ_) k_ag_65 k_sz_65_5 rfl rfl (hS7.cf (i := 3) rfl) rfl rfl) ?_
       refine s0 (Ys_store (i := 1) (s := 5) (B := aD b1) (T' := 65) (v := gZ_) (vs := kZ_) (k := 0) (cs' := kZ_) hS7 k_sz_65_5 rfl rfl rfl rfl rfl rfl rfl (lB rfl) rfl rfl) ?_
       rintro _ w_16 ⟨rfl, hS21⟩
       refine rw_nil (cw_ret ?_)
       obtain rfl := some_inj hF16
       obtain rfl := some_inj hF1
       exact ret1 Tryz.results140 (v1 := gZ_) (resAt_cellA (B := aD b1) (i := 0) (cs := kZ_) (vs := kZ_) rfl k_ag_65 k_sz_65_5 (hS21.cf (i := 1) rfl) rfl rfl) ⟨rfl, (hS21.sN [])⟩
      ·skip
       have hF17 := cf' hF15 hb7
       refine cw_skip (cw_seq ?_)
       obtain ⟨r_9, hc8, hF17⟩ := bind_inv hF17
       obtain ⟨r_10, hc9, hF17⟩ := bind_inv hF17
       obtain ⟨r_11, hc10, hF17⟩ := bind_inv hF17
       obtain ⟨x, hx, hF17⟩ := bind_inv hF17
       refine ra_start (hS7.se [0, 2, 3]).fn (by kernel_rfl) ?_
       have hS25 := hS7.drew
       refine rq 0 30 (v := pt (aD b) 0) rfl (hS25.se [0, 2, 3]) (fun w' hw' => (Y_fieldAddr (B := aD b) (i := 0) (s := 0) k_fd_70_0_0_3 k_sz_3_1 rfl rfl)) ?_
       refine rq 1 31 (v := vi g.Kind) rfl (hS25.se [0, 2, 3]) (fun w' hw' => (Y_load1 (B := aD b) (i := 0) (cs := [vi g.Kind, vi g.A, vi g.B]) (v := vi g.Kind) k_sc_3 rfl rfl (ST.cf hw' (i := 0) rfl) rfl)) ?_
       refine rq 3 33 (v := vi n) rfl (hS25.se [0, 2, 3]) (fun w' hw' => (Y_move (v := vi n) rfl rfl)) ?_
       refine rq 4 34 (v := vi row) rfl (hS25.se [0, 2, 3]) (fun w' hw' => (Y_move (v := vi row) rfl rfl)) ?_
       refine rq 5 35 (v := pt (aD b) 1) rfl (hS25.se [0, 2, 3]) (fun w' hw' => (Y_fieldAddr (B := aD b) (i := 0) (s := 0) k_fd_70_1_1_3 k_sz_3_1 rfl rfl)) ?_
       refine rq 6 36 (v := vi g.A) rfl (hS25.se [0, 2, 3]) (fun w' hw' => (Y_load1 (B := aD b) (i := 1) (cs := [vi g.Kind, vi g.A, vi g.B]) (v := vi g.A) k_sc_3 rfl rfl (ST.cf hw' (i := 0) rfl) rfl)) ?_
       refine rq 9 39 (v := vi n) rfl (hS25.se [0, 2, 3]) (fun w' hw' => (Y_move (v := vi n) rfl rfl)) ?_
       refine rq 10 40 (v := vi col) rfl (hS25.se [0, 2, 3]) (fun w' hw' => (Y_move (v := vi col) rfl rfl)) ?_
       refine rq 11 41 (v := pt (aD b) 1) rfl (hS25.se [0, 2, 3]) (fun w' hw' => (Y_fieldAddr (B := aD b) (i := 0) (s := 0) k_fd_70_1_1_3 k_sz_3_1 rfl rfl)) ?_
       refine rq 12 42 (v := vi g.A) rfl (hS25.se [0, 2, 3]) (fun w' hw' => (Y_load1 (B := aD b) (i := 1) (cs := [vi g.Kind, vi g.A, vi g.B]) (v := vi g.A) k_sc_3 rfl rfl (ST.cf hw' (i := 0) rfl) rfl)) ?_
       refine rA [2] ?_
       refine ra_c 32 (i := 2) rfl rfl rfl (Yc_func (g := 125) (vs := [vi g.Kind]) k_call_125 rfl (mc rfl mn) (c_spec_l6One g.Kind _  (hS25.inn0 [] rfl) hc8)) ?_ ?_
       ·rintro _ w_17 ⟨B1, c, rfl, hd7⟩
        have hS26 := hS25.out0 hd7
        refine ⟨(hS26.se [0, 2, 3]), ?_⟩
        refine rA [7] ?_
        refine ra_c 37 (i := 7) rfl rfl rfl (Yc_func (g := 151) (vs := [vi n, vi row, vi g.A]) k_call_151 rfl (mc rfl (mc rfl (mc rfl mn))) (c_spec_l6Bit n row g.A _  (hS26.inn0 [] rfl) hc9)) ?_ ?_
        ·rintro _ w_18 ⟨rfl, hd8⟩
         have hS27 := hS26.out00 hd8
         refine ⟨(hS27.se [0, 2, 3]), ?_⟩
         refine rq 8 38 (v := vi (i64.wrap (2 * r_10))) rfl (hS27.se [0, 2, 3]) (fun w' hw' => (Y_mul (k := .i64) (a := 2) (b := r_10) rfl rfl rfl)) ?_
         refine rA [13] ?_
         refine ra_c 43 (i := 13) rfl rfl rfl (Yc_func (g := 151) (vs := [vi n, vi col, vi g.A]) k_call_151 rfl (mc rfl (mc rfl (mc rfl mn))) (c_spec_l6Bit n col g.A _  (hS27.inn0 [] rfl) hc10)) ?_ ?_
         ·rintro _ w_19 ⟨rfl, hd9⟩
          have hS28 := hS27.out00 hd9
          refine ⟨(hS28.se [0, 2, 3]), ?_⟩
          refine rq 14 44 (v := vi (i64.wrap ((i64.wrap (2 * r_10)) + r_11))) rfl (hS28.se [0, 2, 3]) (fun w' hw' => (Y_add (k := .i64) (a := (i64.wrap (2 * r_10))) (b := r_11) rfl rfl rfl)) ?_
          refine rA [15] ?_
          refine ra_y 45 (i := 15) (v := pt B1 ((i64.wrap ((i64.wrap (2 * r_10)) + r_11)).toNat * 5)) rfl rfl rfl (Y_index (B := B1) (m := r_9.length) (c := c) (k := .i64) (i := (i64.wrap ((i64.wrap (2 * r_10)) + r_11))) k_sl_28_65 k_sz_65_5 rfl rfl rfl (gi_isSome eN2 rfl (hS28.cf (i := 4) rfl) hx) (getI_nn hx) (getI_ltI hx rfl)) (hS28.se [0, 2, 3]) ?_ ?_
          ·skip
           refine rA [16] ?_
           refine ra_y 46 (i := 16) (v := gD_ x) rfl rfl rfl (Y_loadA (B := B1) (i := (i64.wrap ((i64.wrap (2 * r_10)) + r_11)).toNat * 5) (cs := (r_9.flatMap eN0)) (vs := kD_ x) k_ag_65 k_sz_65_5 rfl rfl (hS28.cf (i := 4) rfl) (eN2 x) (gi_seg eN2 hx)) (hS28.se [0, 2, 3]) ?_ ?_
           ·skip
            refine rA [17] ?_
            refine ra_s0 (i := 17) rfl rfl rfl (Ys_store (i := 1) (s := 5) (B := aD b1) (T' := 65) (v := gD_ x) (vs := kD_ x) (k := 0) (cs' := kD_ x) hS28 k_sz_65_5 rfl rfl rfl rfl rfl rfl rfl (lB rfl) rfl rfl) ?_ ?_
            ·rintro _ w_20 ⟨rfl, hS29⟩
             refine ⟨(hS29.se [0, 2, 3]), ?_⟩
             refine ra_done (by kernel_rfl) ?_
             refine cw_ret ?_
             obtain rfl := some_inj hF17
             obtain rfl := some_inj hF1
             exact ret1 Tryz.results140 (v1 := gD_ x) (resAt_cellA (B := aD b1) (i := 0) (cs := kD_ x) (vs := kD_ x) rfl k_ag_65 k_sz_65_5 (hS29.cf (i := 1) rfl) rfl rfl) ⟨rfl, (hS29.sN [])⟩
            exact allR_nil
           exact allR_nil
          exact allR_nil
         exact allR_nil
        exact allR_nil
       exact allR_nil
 rintro f w ⟨A, B, C, D, Exp, to_, rfl, hf, hS8⟩
 refine cw_seq (cw_seq (cw_region ?_))
 refine sQ 114 (Y_move (v := vi row) rfl (hf.get 2 0 rfl)) ?_
 refine sQ 115 (Y_move (v := vi to_) rfl (hf.get 11 4 rfl)) ?_
 refine sQ 116 (Y_eq (k := .i64) (a := row) (b := to_) rfl rfl rfl) (rw_nil ?_)
 refine cw_cond (b := (row == to_)) rfl (fun hb8 => ?_) (fun hb8 => ?_)
 ·skip
  have hF18 := ct hF1 hb8
  refine cw_seq (cw_region ?_)
  refine sQ 117 (Y_loadA (B := aD b2) (i := 0) (cs := [vi A, vi B, vi C, vi D, vi Exp]) (vs := [vi A, vi B, vi C, vi D, vi Exp]) k_ag_65 k_sz_65_5 rfl (hf.get 9 2 rfl) (hS8.cf (i := 1) rfl) rfl rfl) ?_
  refine s0 (Ys_store (i := 0) (s := 5) (B := aD b1) (T' := 65) (v := .agg #[vi A, vi B, vi C, vi D, vi Exp]) (vs := [vi A, vi B, vi C, vi D, vi Exp]) (k := 0) (cs' := [vi A, vi B, vi C, vi D, vi Exp]) hS8 k_sz_65_5 rfl (hf.get 8 1 rfl) rfl rfl rfl rfl rfl (lB rfl) rfl rfl) ?_
  rintro _ w_21 ⟨rfl, hS30⟩
  refine rw_nil (cw_ret ?_)
  obtain rfl := some_inj hF18
  exact ret1 Tryz.results140 (v1 := .agg #[vi A, vi B, vi C, vi D, vi Exp]) (resAt_cellA (B := aD b1) (i := 0) (cs := [vi A, vi B, vi C, vi D, vi Exp]) (vs := [vi A, vi B, vi C, vi D, vi Exp]) (hf.get 8 1 rfl) k_ag_65 k_sz_65_5 (hS30.cf (i := 0) rfl) rfl rfl) ⟨rfl, (hS30.sN [])⟩
 ·skip
  have hF19 := cf' hF1 hb8
  refine cw_skip (cw_seq (cw_region ?_))
  refine sQ 118 (Y_loadA (B := aD b3) (i := 0) (cs := kZ_) (vs := kZ_) k_ag_65 k_sz_65_5 rfl (hf.get 10 3 rfl) (hS8.cf (i := 2) rfl) rfl rfl) ?_
  refine s0 (Ys_store (i := 0) (s := 5) (B := aD b1) (T' := 65) (v := gZ_) (vs := kZ_) (k := 0) (cs' := kZ_) hS8 k_sz_65_5 rfl (hf.get 8 1 rfl) rfl rfl rfl rfl rfl (lB rfl) rfl rfl) ?_
  rintro _ w_22 ⟨rfl, hS31⟩
  refine rw_nil (cw_ret ?_)
  obtain rfl := some_inj hF19
  exact ret1 Tryz.results140 (v1 := gZ_) (resAt_cellA (B := aD b1) (i := 0) (cs := kZ_) (vs := kZ_) (hf.get 8 1 rfl) k_ag_65 k_sz_65_5 (hS31.cf (i := 0) rfl) rfl rfl) ⟨rfl, (hS31.sN [])⟩

theorem c_spec_l6Gate (n : Int) (g : TGate)  (w0 : World)  (hS : ST w0 [] w0 [] []) {r_ : TMatrix} (hF : F_spec_l6Gate n g = some r_) :
  CV Tryz.prog 114 #[vi n, .agg #[vi g.Kind, vi g.A, vi g.B]] w0 (fun v w' => ∃ (B : Option Addr) (c : Nat), v = (gM_ r_ B c) ∧ ST w0 [] w' [⟨B, 65, (r_.Cells.flatMap eN0), c * 5⟩] []) := by
 unfold F_spec_l6Gate at hF
 refine cv_of_cw 36 Tryz.func114 rfl Tryz.ntmps114 rfl ?_
 refine cw_seq (cw_region ?_)
 refine sS 3 (Ys_box (T := 70) (v := .agg #[vi g.Kind, vi g.A, vi g.B]) (cs := [vi g.Kind, vi g.A, vi g.B]) (m := 3) hS rfl rfl rfl rfl) ?_
 rintro _ w_ ⟨b, rfl, hS1⟩
 refine sS 4 (Ys_alloc (T := 48) (cs := kN_) (m := 3) hS1 k_zero_48 rfl rfl rfl) ?_
 rintro _ w_1 ⟨b1, rfl, hS2⟩
 refine rw_nil (cw_seq (cw_region ?_))
 refine sQ 9 (Y_move (v := vi n) rfl rfl) ?_
 refine sQ 10 (Y_conv (k := .i64) (a := n) (T := 3) (T' := 115) k_us_3 k_int_115_u64 rfl rfl) ?_
 obtain ⟨hsh, hF⟩ := chk_inv hF
 refine sQ 11 (Y_shl (k := .i64) (a := 1) (k' := .u64) (b := (IntKind.u64.wrap n)) rfl rfl rfl hsh) ?_
 refine sQ 5 (Y_assign (v := vi (shlK .i64 1 (IntKind.u64.wrap n))) rfl rfl) (rw_nil (cw_seq (cw_region ?_)))
 refine sQ 12 (Y_move (v := vi (shlK .i64 1 (IntKind.u64.wrap n))) rfl rfl) ?_
 refine sQ 13 (Y_move (v := vi (shlK .i64 1 (IntKind.u64.wrap n))) rfl rfl) ?_
 refine sQ 14 (Y_buildS (zs := kN_) (vs := [(0, vi (shlK .i64 1 (IntKind.u64.wrap n))), (1, vi (shlK .i64 1 (IntKind.u64.wrap n)))]) (cs := [vi (shlK .i64 1 (IntKind.u64.wrap n)), vi (shlK .i64 1 (IntKind.u64.wrap n)), .slice none 0 0]) k_pl_48 k_zero_48 rfl (mpc rfl (mpc rfl mpn)) rfl) ?_
 refine sS 6 (Ys_alloc (T := 48) (cs := kN_) (m := 3) hS2 k_zero_48 rfl rfl rfl) ?_
 rintro _ w_2 ⟨b2, rfl, hS3⟩
 refine s0 (Ys_store (i := 2) (s := 3) (B := aD b2) (T' := 48) (v := .agg #[vi (shlK .i64 1 (IntKind.u64.wrap n)), vi (shlK .i64 1 (IntKind.u64.wrap n)), .slice none 0 0]) (vs := [vi (shlK .i64 1 (IntKind.u64.wrap n)), vi (shlK .i64 1 (IntKind.u64.wrap n)), .slice none 0 0]) (k := 0) (cs' := [vi (shlK .i64 1 (IntKind.u64.wrap n)), vi (shlK .i64 1 (IntKind.u64.wrap n)), .slice none 0 0]) hS3 k_sz_48_3 rfl rfl rfl rfl rfl rfl rfl (lB rfl) rfl rfl) ?_
 rintro _ w_3 ⟨rfl, hS4⟩
 refine rw_nil (cw_seq (cw_seq (cw_region ?_)))
 refine sQ 7 (Y_assign (v := vi 0) rfl rfl) (rw_nil ?_)
 obtain ⟨hN, hF⟩ := chk_inv hF
 obtain ⟨z, hz, hF1⟩ := bind_inv hF
 have hS6 := hS4.addNil 65
 refine cw_block ?_
 refine cw_loop (fun k f w => ∃ (i1 : Nat) (Cells : List TDyadic) (B1 : Option Addr) (c1 : Nat), FF f [(0, vi n), (3, pt (aD b) 0), (4, pt (aD b1) 0), (5, vi (shlK .i64 1 (IntKind.u64.wrap n))), (6, pt (aD b2) 0), (7, vi (i1 : Int))] ∧ ST w0 [] w [⟨aD b, 70, [vi g.Kind, vi g.A, vi g.B], 3⟩, ⟨aD b1, 48, kN_, 3⟩, ⟨aD b2, 48, [vi (shlK .i64 1 (IntKind.u64.wrap n)), vi (shlK .i64 1 (IntKind.u64.wrap n)), .slice B1 Cells.length c1], 3⟩, ⟨B1, 65, (Cells.flatMap eN0), c1 * 5⟩] [] ∧ i1 + k = (shlK .i64 1 (IntKind.u64.wrap n)).toNat ∧ forN (F_spec_l6Gate_l1 n g) k i1 Cells = some z) ((shlK .i64 1 (IntKind.u64.wrap n)).toNat) ⟨0, [], none, 0, (FF.cons rfl (FF.cons rfl (FF.cons rfl (FF.cons rfl (FF.cons rfl (FF.cons rfl FF.nil)))))), (hS6.sel [0, 1, 2, 3] rfl rfl), Nat.zero_add _, hz⟩ ?_
 rintro k_ f w ⟨i1, Cells, B1, c1, hf, hS5, hik, hL⟩
 refine cw_seq (cw_seq (cw_region ?_))
 refine sQ 15 (Y_move (v := vi (i1 : Int)) rfl (hf.get 7 5 rfl)) ?_
 refine sQ 16 (Y_move (v := vi (shlK .i64 1 (IntKind.u64.wrap n))) rfl (hf.get 5 3 rfl)) ?_
 refine sQ 17 (Y_lt (k := .i64) (a := (i1 : Int)) (b := (shlK .i64 1 (IntKind.u64.wrap n))) rfl rfl rfl) (rw_nil ?_)
 refine cw_cond (b := (decide ((i1 : Int) < (shlK .i64 1 (IntKind.u64.wrap n))))) rfl (fun hlt => ?_) (fun hlt => ?_)
 ·skip
  have hlt1 : i1 < (shlK .i64 1 (IntKind.u64.wrap n)).toNat := by have h := of_decide_eq_true hlt; omega
  obtain ⟨k_1, rfl⟩ : ∃ k2, k_ = k2 + 1 := ⟨k_ - 1, by omega⟩
  obtain ⟨y, hb, hL1⟩ := forN_go hL
  unfold F_spec_l6Gate_l1 at hb
  refine cw_skip (cw_seq (cw_block (cw_seq (cw_region ?_))))
  refine sQ 8 (Y_assign (v := vi 0) rfl rfl) (rw_nil ?_)
  obtain ⟨hN1, hb⟩ := chk_inv hb
  obtain ⟨z1, hz1, hF2⟩ := bind_inv hb
  refine cw_block ?_
  refine cw_loop (fun k f w => ∃ (j : Nat) (Cells1 : List TDyadic) (B2 : Option Addr) (c2 : Nat), FF f [(0, vi n), (3, pt (aD b) 0), (4, pt (aD b1) 0), (5, vi (shlK .i64 1 (IntKind.u64.wrap n))), (6, pt (aD b2) 0), (7, vi (i1 : Int)), (8, vi (j : Int))] ∧ ST w0 [] w [⟨aD b, 70, [vi g.Kind, vi g.A, vi g.B], 3⟩, ⟨aD b1, 48, kN_, 3⟩, ⟨aD b2, 48, [vi (shlK .i64 1 (IntKind.u64.wrap n)), vi (shlK .i64 1 (IntKind.u64.wrap n)), .slice B2 Cells1.length c2], 3⟩, ⟨B2, 65, (Cells1.flatMap eN0), c2 * 5⟩] [] ∧ j + k = (shlK .i64 1 (IntKind.u64.wrap n)).toNat ∧ forN (F_spec_l6Gate_l2 n g i1) k j Cells1 = some z1) ((shlK .i64 1 (IntKind.u64.wrap n)).toNat) ⟨0, Cells, B1, c1, (FF.cons (hf.get 0 0 rfl) (FF.cons (hf.get 3 1 rfl) (FF.cons (hf.get 4 2 rfl) (FF.cons (hf.get 5 3 rfl) (FF.cons (hf.get 6 4 rfl) (FF.cons (hf.get 7 5 rfl) (FF.cons rfl FF.nil))))))), (hS5.sel [0, 1, 2, 3] rfl rfl), Nat.zero_add _, hz1⟩ ?_
  rintro k_2 f w ⟨j, Cells1, B2, c2, hf1, hS7, hik1, hL2⟩
  refine cw_seq (cw_seq (cw_region ?_))
  refine sQ 20 (Y_move (v := vi (j : Int)) rfl (hf1.get 8 6 rfl)) ?_
  refine sQ 21 (Y_move (v := vi (shlK .i64 1 (IntKind.u64.wrap n))) rfl (hf1.get 5 3 rfl)) ?_
  refine sQ 22 (Y_lt (k := .i64) (a := (j : Int)) (b := (shlK .i64 1 (IntKind.u64.wrap n))) rfl rfl rfl) (rw_nil ?_)
  refine cw_cond (b := (decide ((j : Int) < (shlK .i64 1 (IntKind.u64.wrap n))))) rfl (fun hlt2 => ?_) (fun hlt2 => ?_)
  ·skip
   have hlt3 : j < (shlK .i64 1 (IntKind.u64.wrap n)).toNat := by have h := of_decide_eq_true hlt2; omega
   obtain ⟨k_3, rfl⟩ : ∃ k2, k_2 = k2 + 1 := ⟨k_2 - 1, by omega⟩
   obtain ⟨y1, hb1, hL3⟩ := forN_go hL2
   unfold F_spec_l6Gate_l2 at hb1
   refine cw_skip (cw_seq (cw_block ?_))
   obtain ⟨r_1, hc, hb1⟩ := bind_inv hb1
   obtain ⟨hap, hb1⟩ := chk_inv hb1
   refine cw_mid (fun f w => ∃ (B4 : Option Addr) (c4 : Nat), FF f [(0, vi n), (3, pt (aD b) 0), (4, pt (aD b1) 0), (5, vi (shlK .i64 1 (IntKind.u64.wrap n))), (6, pt (aD b2) 0), (7, vi (i1 : Int)), (8, vi (j : Int))] ∧ ST w0 [] w [⟨aD b, 70, [vi g.Kind, vi g.A, vi g.B], 3⟩, ⟨aD b1, 48, kN_, 3⟩, ⟨aD b2, 48, [vi (shlK .i64 1 (IntKind.u64.wrap n)), vi (shlK .i64 1 (IntKind.u64.wrap n)), .slice B4 ((Cells1 ++ [r_1]).length) c4], 3⟩, ⟨B4, 65, ((Cells1 ++ [r_1]).flatMap eN0), c4 * 5⟩] []) ?_ ?_
   ·skip
    refine ra_start (hS7.se [0, 1]).fn (by kernel_rfl) ?_
    have hS10 := hS7.drew
    refine rq 0 25 (v := pt (aD b2) 2) rfl (hS10.se [0, 1]) (fun w' hw' => (Y_fieldAddr (B := aD b2) (i := 0) (s := 0) k_fd_48_2_2_28 k_sz_28_1 rfl (hf1.get 6 4 rfl))) ?_
    refine rq 2 27 (v := vi n) rfl (hS10.se [0, 1]) (fun w' hw' => (Y_move (v := vi n) rfl (hf1.get 0 0 rfl))) ?_
    refine rq 3 28 (v := .agg #[vi g.Kind, vi g.A, vi g.B]) rfl (hS10.se [0, 1]) (fun w' hw' => (Y_loadA (B := aD b) (i := 0) (cs := [vi g.Kind, vi g.A, vi g.B]) (vs := [vi g.Kind, vi g.A, vi g.B]) k_ag_70 k_sz_70_3 rfl (hf1.get 3 1 rfl) (ST.cf hw' (i := 0) rfl) rfl rfl)) ?_
    refine rq 4 29 (v := vi (i1 : Int)) rfl (hS10.se [0, 1]) (fun w' hw' => (Y_move (v := vi (i1 : Int)) rfl (hf1.get 7 5 rfl))) ?_
    refine rq 5 30 (v := vi (j : Int)) rfl (hS10.se [0, 1]) (fun w' hw' => (Y_move (v := vi (j : Int)) rfl (hf1.get 8 6 rfl))) ?_
    refine rA [1, 6] ?_
    refine ra_y 26 (i := 1) (v := .slice B2 Cells1.length c2) rfl rfl rfl (Y_load1 (B := aD b2) (i := 2) (cs := [vi (shlK .i64 1 (IntKind.u64.wrap n)), vi (shlK .i64 1 (IntKind.u64.wrap n)), .slice B2 Cells1.length c2]) (v := .slice B2 Cells1.length c2) k_sc_28 rfl rfl (hS10.cf (i := 2) rfl) rfl) (hS10.se [0, 1]) ?_ ?_
    ·skip
     refine rA [6] ?_
     refine ra_c 31 (i := 6) rfl rfl rfl (Yc_func (g := 140) (vs := [vi n, .agg #[vi g.Kind, vi g.A, vi g.B], vi (i1 : Int), vi (j : Int)]) k_call_140 rfl (mc rfl (mc rfl (mc rfl (mc rfl mn)))) (c_spec_l6Cell n g (i1 : Int) (j : Int) _  (hS10.inn0 [] rfl) hc)) ?_ ?_
     ·rintro _ w_4 ⟨rfl, hd⟩
      have hS11 := hS10.out00 hd
      refine ⟨(hS11.se [0, 1]), ?_⟩
      refine rA [7] ?_
      refine ra_s 32 (i := 7) rfl rfl rfl (Ys_bslice (s := 5) (len := 1) (vs := [(0, gD_ r_1)]) (cs := kD_ r_1) (zs := kZ_) (m := 5) hS11 k_sl_28_65 k_sz_65_5 k_zc_65 rfl (mpc rfl mpn) rfl rfl rfl (by kernel_rfl) (by kernel_rfl) rfl) ?_ ?_
      ·rintro _ w_5 ⟨b3, rfl, hS12⟩
       refine ⟨(hS12.se [0, 1]), ?_⟩
       refine rA [8] ?_
       refine ra_s 33 (i := 8) rfl rfl rfl (Ys_append (s := 5) (by' := 40) (i := 3) (nn := Cells1.length) (c := c2) (k := 1) (len := (Cells1 ++ [r_1]).length) (B := B2) (xs := ([r_1].flatMap eN0)) (cs' := ((Cells1 ++ [r_1]).flatMap eN0)) hS12 k_sl_28_65 k_sz_65_5 k_by_65_40 k_zero_65 rfl (by decide) rfl rfl rfl rfl (fm_lenn (l := Cells1) eN2 rfl) rfl (hS12.cf (i := 4) rfl) (fm_lenn (l := [r_1]) eN2 rfl) (fm_one' (enc := eN0) enc_Dyadic_one [r_1]) (by have := hap; omega) (by have := hap; simp only [maxLen]; omega) (fm_app _ _) (app_len (l := Cells1) (l' := [r_1]) rfl rfl)) ?_ ?_
       ·rintro _ w_6 ⟨B3, c3, rfl, hS13⟩
        refine ⟨(hS13.se [0, 1]), ?_⟩
        refine rq 9 34 (v := pt (aD b2) 2) rfl (hS13.se [0, 1]) (fun w' hw' => (Y_fieldAddr (B := aD b2) (i := 0) (s := 0) k_fd_48_2_2_28 k_sz_28_1 rfl (hf1.get 6 4 rfl))) ?_
        refine rA [10] ?_
        refine ra_s0 (i := 10) rfl rfl rfl (Ys_store (i := 2) (s := 1) (B := aD b2) (T' := 48) (v := .slice B3 ((Cells1 ++ [r_1]).length) c3) (vs := [.slice B3 ((Cells1 ++ [r_1]).length) c3]) (k := 2) (cs' := [vi (shlK .i64 1 (IntKind.u64.wrap n)), vi (shlK .i64 1 (IntKind.u64.wrap n)), .slice B3 ((Cells1 ++ [r_1]).length) c3]) hS13 k_sz_28_1 rfl rfl rfl rfl rfl rfl rfl (lB rfl) rfl rfl) ?_ ?_
        ·rintro _ w_7 ⟨rfl, hS14⟩
         refine ⟨(hS14.se [0, 1]), ?_⟩
         refine ra_done (by kernel_rfl) ?_
         exact ⟨B3, c3, (FF.cons (hf1.get 0 0 rfl) (FF.cons (hf1.get 3 1 rfl) (FF.cons (hf1.get 4 2 rfl) (FF.cons (hf1.get 5 3 rfl) (FF.cons (hf1.get 6 4 rfl) (FF.cons (hf1.get 7 5 rfl) (FF.cons (hf1.get 8 6 rfl) FF.nil))))))), (hS14.sel [0, 1, 2, 3] rfl rfl)⟩
        exact allR_nil
       exact allR_nil
      exact allR_nil
     exact allR_nil
    refine ra_c 31 (i := 6) rfl rfl rfl (Yc_func (g := 140) (vs := [vi n, .agg #[vi g.Kind, vi g.A, vi g.B], vi (i1 : Int), vi (j : Int)]) k_call_140 rfl (mc rfl (mc rfl (mc rfl (mc rfl mn)))) (c_spec_l6Cell n g (i1 : Int) (j : Int) _  (hS10.inn0 [] rfl) hc)) ?_ ?_
    ·rintro _ w_8 ⟨rfl, hd1⟩
     have hS15 := hS10.out00 hd1
     refine ⟨(hS15.se [0, 1]), ?_⟩
     refine rA [1, 7] ?_
     refine ra_y 26 (i := 1) (v := .slice B2 Cells1.length c2) rfl rfl rfl (Y_load1 (B := aD b2) (i := 2) (cs := [vi (shlK .i64 1 (IntKind.u64.wrap n)), vi (shlK .i64 1 (IntKind.u64.wrap n)), .slice B2 Cells1.length c2]) (v := .slice B2 Cells1.length c2) k_sc_28 rfl rfl (hS15.cf (i := 2) rfl) rfl) (hS15.se [0, 1]) ?_ ?_
     ·skip
      refine rA [7] ?_
      refine ra_s 32 (i := 7) rfl rfl rfl (Ys_bslice (s := 5) (len := 1) (vs := [(0, gD_ r_1)]) (cs := kD_ r_1) (zs := kZ_) (m := 5) hS15 k_sl_28_65 k_sz_65_5 k_zc_65 rfl (mpc rfl mpn) rfl rfl rfl (by kernel_rfl) (by kernel_rfl) rfl) ?_ ?_
      ·rintro _ w_9 ⟨b3, rfl, hS16⟩
       refine ⟨(hS16.se [0, 1]), ?_⟩
       refine rA [8] ?_
       refine ra_s 33 (i := 8) rfl rfl rfl (Ys_append (s := 5) (by' := 40) (i := 3) (nn := Cells1.length) (c := c2) (k := 1) (len := (Cells1 ++ [r_1]).length) (B := B2) (xs := ([r_1].flatMap eN0)) (cs' := ((Cells1 ++ [r_1]).flatMap eN0)) hS16 k_sl_28_65 k_sz_65_5 k_by_65_40 k_zero_65 rfl (by decide) rfl rfl rfl rfl (fm_lenn (l := Cells1) eN2 rfl) rfl (hS16.cf (i := 4) rfl) (fm_lenn (l := [r_1]) eN2 rfl) (fm_one' (enc := eN0) enc_Dyadic_one [r_1]) (by have := hap; omega) (by have := hap; simp only [maxLen]; omega) (fm_app _ _) (app_len (l := Cells1) (l' := [r_1]) rfl rfl)) ?_ ?_
       ·rintro _ w_10 ⟨B3, c3, rfl, hS17⟩
        refine ⟨(hS17.se [0, 1]), ?_⟩
        refine rq 9 34 (v := pt (aD b2) 2) rfl (hS17.se [0, 1]) (fun w' hw' => (Y_fieldAddr (B := aD b2) (i := 0) (s := 0) k_fd_48_2_2_28 k_sz_28_1 rfl (hf1.get 6 4 rfl))) ?_
        refine rA [10] ?_
        refine ra_s0 (i := 10) rfl rfl rfl (Ys_store (i := 2) (s := 1) (B := aD b2) (T' := 48) (v := .slice B3 ((Cells1 ++ [r_1]).length) c3) (vs := [.slice B3 ((Cells1 ++ [r_1]).length) c3]) (k := 2) (cs' := [vi (shlK .i64 1 (IntKind.u64.wrap n)), vi (shlK .i64 1 (IntKind.u64.wrap n)), .slice B3 ((Cells1 ++ [r_1]).length) c3]) hS17 k_sz_28_1 rfl rfl rfl rfl rfl rfl rfl (lB rfl) rfl rfl) ?_ ?_
        ·rintro _ w_11 ⟨rfl, hS18⟩
         refine ⟨(hS18.se [0, 1]), ?_⟩
         refine ra_done (by kernel_rfl) ?_
         exact ⟨B3, c3, (FF.cons (hf1.get 0 0 rfl) (FF.cons (hf1.get 3 1 rfl) (FF.cons (hf1.get 4 2 rfl) (FF.cons (hf1.get 5 3 rfl) (FF.cons (hf1.get 6 4 rfl) (FF.cons (hf1.get 7 5 rfl) (FF.cons (hf1.get 8 6 rfl) FF.nil))))))), (hS18.sel [0, 1, 2, 3] rfl rfl)⟩
        exact allR_nil
       exact allR_nil
      exact allR_nil
     refine ra_s 32 (i := 7) rfl rfl rfl (Ys_bslice (s := 5) (len := 1) (vs := [(0, gD_ r_1)]) (cs := kD_ r_1) (zs := kZ_) (m := 5) hS15 k_sl_28_65 k_sz_65_5 k_zc_65 rfl (mpc rfl mpn) rfl rfl rfl (by kernel_rfl) (by kernel_rfl) rfl) ?_ ?_
     ·rintro _ w_12 ⟨b3, rfl, hS19⟩
      refine ⟨(hS19.se [0, 1]), ?_⟩
      refine rA [1] ?_
      refine ra_y 26 (i := 1) (v := .slice B2 Cells1.length c2) rfl rfl rfl (Y_load1 (B := aD b2) (i := 2) (cs := [vi (shlK .i64 1 (IntKind.u64.wrap n)), vi (shlK .i64 1 (IntKind.u64.wrap n)), .slice B2 Cells1.length c2]) (v := .slice B2 Cells1.length c2) k_sc_28 rfl rfl (hS19.cf (i := 2) rfl) rfl) (hS19.se [0, 1]) ?_ ?_
      ·skip
       refine rA [8] ?_
       refine ra_s 33 (i := 8) rfl rfl rfl (Ys_append (s := 5) (by' := 40) (i := 3) (nn := Cells1.length) (c := c2) (k := 1) (len := (Cells1 ++ [r_1]).length) (B := B2) (xs := ([r_1].flatMap eN0)) (cs' := ((Cells1 ++ [r_1]).flatMap eN0)) hS19 k_sl_28_65 k_sz_65_5 k_by_65_40 k_zero_65 rfl (by decide) rfl rfl rfl rfl (fm_lenn (l := Cells1) eN2 rfl) rfl (hS19.cf (i := 4) rfl) (fm_lenn (l := [r_1]) eN2 rfl) (fm_one' (enc := eN0) enc_Dyadic_one [r_1]) (by have := hap; omega) (by have := hap; simp only [maxLen]; omega) (fm_app _ _) (app_len (l := Cells1) (l' := [r_1]) rfl rfl)) ?_ ?_
       ·rintro _ w_13 ⟨B3, c3, rfl, hS20⟩
        refine ⟨(hS20.se [0, 1]), ?_⟩
        refine rq 9 34 (v := pt (aD b2) 2) rfl (hS20.se [0, 1]) (fun w' hw' => (Y_fieldAddr (B := aD b2) (i := 0) (s := 0) k_fd_48_2_2_28 k_sz_28_1 rfl (hf1.get 6 4 rfl))) ?_
        refine rA [10] ?_
        refine ra_s0 (i := 10) rfl rfl rfl (Ys_store (i := 2) (s := 1) (B := aD b2) (T' := 48) (v := .slice B3 ((Cells1 ++ [r_1]).length) c3) (vs := [.slice B3 ((Cells1 ++ [r_1]).length) c3]) (k := 2) (cs' := [vi (shlK .i64 1 (IntKind.u64.wrap n)), vi (shlK .i64 1 (IntKind.u64.wrap n)), .slice B3 ((Cells1 ++ [r_1]).length) c3]) hS20 k_sz_28_1 rfl rfl rfl rfl rfl rfl rfl (lB rfl) rfl rfl) ?_ ?_
        ·rintro _ w_14 ⟨rfl, hS21⟩
         refine ⟨(hS21.se [0, 1]), ?_⟩
         refine ra_done (by kernel_rfl) ?_
         exact ⟨B3, c3, (FF.cons (hf1.get 0 0 rfl) (FF.cons (hf1.get 3 1 rfl) (FF.cons (hf1.get 4 2 rfl) (FF.cons (hf1.get 5 3 rfl) (FF.cons (hf1.get 6 4 rfl) (FF.cons (hf1.get 7 5 rfl) (FF.cons (hf1.get 8 6 rfl) FF.nil))))))), (hS21.sel [0, 1, 2, 3] rfl rfl)⟩
        exact allR_nil
       exact allR_nil
      exact allR_nil
     exact allR_nil
    exact allR_nil
   rintro f w ⟨B4, c4, hf2, hS9⟩
   refine cw_region ?_
   refine sQ 23 (Y_move (v := vi (j : Int)) rfl (hf2.get 8 6 rfl)) ?_
   refine sQ 24 (Y_add (k := .i64) (a := (j : Int)) (b := 1) rfl rfl rfl) ?_
   refine sQ 8 (Y_assign (v := vi (i64.wrap ((j : Int) + 1))) rfl rfl) (rw_nil ?_)
   obtain rfl := some_inj hb1
   exact ⟨k_3, Nat.lt_succ_self _, j + 1, (Cells1 ++ [r_1]), B4, c4, (FF.cons (hf2.get 0 0 rfl) (FF.cons (hf2.get 3 1 rfl) (FF.cons (hf2.get 4 2 rfl) (FF.cons (hf2.get 5 3 rfl) (FF.cons (hf2.get 6 4 rfl) (FF.cons (hf2.get 7 5 rfl) (FF.cons (congrArg (Value.int .i64) (wr_succ hlt3 hN1)) FF.nil))))))), (hS9.sel [0, 1, 2, 3] rfl rfl), (by omega), hL3⟩
  ·skip
   obtain rfl : k_2 = 0 := by have h := of_decide_eq_false hlt2; omega
   refine cw_exit rfl ?_
   obtain rfl := some_inj hL2
   refine cw_region ?_
   refine sQ 18 (Y_move (v := vi (i1 : Int)) rfl (hf1.get 7 5 rfl)) ?_
   refine sQ 19 (Y_add (k := .i64) (a := (i1 : Int)) (b := 1) rfl rfl rfl) ?_
   refine sQ 7 (Y_assign (v := vi (i64.wrap ((i1 : Int) + 1))) rfl rfl) (rw_nil ?_)
   obtain rfl := some_inj hF2
   exact ⟨k_1, Nat.lt_succ_self _, i1 + 1, Cells1, B2, c2, (FF.cons (hf1.get 0 0 rfl) (FF.cons (hf1.get 3 1 rfl) (FF.cons (hf1.get 4 2 rfl) (FF.cons (hf1.get 5 3 rfl) (FF.cons (hf1.get 6 4 rfl) (FF.cons (congrArg (Value.int .i64) (wr_succ hlt1 hN)) FF.nil)))))), (hS7.sel [0, 1, 2, 3] rfl rfl), (by omega), hL1⟩
 ·skip
  obtain rfl : k_ = 0 := by have h := of_decide_eq_false hlt; omega
  refine cw_exit rfl ?_
  obtain rfl := some_inj hL
  refine cw_seq (cw_region ?_)
  refine sQ 35 (Y_loadA (B := aD b2) (i := 0) (cs := [vi (shlK .i64 1 (IntKind.u64.wrap n)), vi (shlK .i64 1 (IntKind.u64.wrap n)), .slice B1 Cells.length c1]) (vs := [vi (shlK .i64 1 (IntKind.u64.wrap n)), vi (shlK .i64 1 (IntKind.u64.wrap n)), .slice B1 Cells.length c1]) k_ag_48 k_sz_48_3 rfl (hf.get 6 4 rfl) (hS5.cf (i := 2) rfl) rfl rfl) ?_
  refine s0 (Ys_store (i := 1) (s := 3) (B := aD b1) (T' := 48) (v := .agg #[vi (shlK .i64 1 (IntKind.u64.wrap n)), vi (shlK .i64 1 (IntKind.u64.wrap n)), .slice B1 Cells.length c1]) (vs := [vi (shlK .i64 1 (IntKind.u64.wrap n)), vi (shlK .i64 1 (IntKind.u64.wrap n)), .slice B1 Cells.length c1]) (k := 0) (cs' := [vi (shlK .i64 1 (IntKind.u64.wrap n)), vi (shlK .i64 1 (IntKind.u64.wrap n)), .slice B1 Cells.length c1]) hS5 k_sz_48_3 rfl (hf.get 4 2 rfl) rfl rfl rfl rfl rfl (lB rfl) rfl rfl) ?_
  rintro _ w_15 ⟨rfl, hS22⟩
  refine rw_nil (cw_ret ?_)
  obtain rfl := some_inj hF1
  exact ret1 Tryz.results114 (v1 := .agg #[vi (shlK .i64 1 (IntKind.u64.wrap n)), vi (shlK .i64 1 (IntKind.u64.wrap n)), .slice B1 Cells.length c1]) (resAt_cellA (B := aD b1) (i := 0) (cs := [vi (shlK .i64 1 (IntKind.u64.wrap n)), vi (shlK .i64 1 (IntKind.u64.wrap n)), .slice B1 Cells.length c1]) (vs := [vi (shlK .i64 1 (IntKind.u64.wrap n)), vi (shlK .i64 1 (IntKind.u64.wrap n)), .slice B1 Cells.length c1]) (hf.get 4 2 rfl) k_ag_48 k_sz_48_3 (hS22.cf (i := 1) rfl) rfl rfl) ⟨B1, c1, rfl, (hS22.sN [3])⟩

theorem c_spec_l2C_run (c : Tl2C) (x : TCircuit) (m : TMatrix) (B : Option Addr) (B1 : Option Addr) (c1 n : Nat) (B2 : Option Addr) (c2 n1 : Nat) (w0 : World) (hn : x.Gates.length = n) (hn1 : m.Cells.length = n1) (hS : ST w0 (bl [⟨B, 82, [.bool c.bad], 1⟩, ⟨B2, 65, (m.Cells.flatMap eN0), c2 * 5⟩]) w0 [⟨B, 82, [.bool c.bad], 1⟩, ⟨B2, 65, (m.Cells.flatMap eN0), c2 * 5⟩] [⟨B1, (x.Gates.flatMap eN4)⟩]) {r_ : TMatrix} {m1 : Tl2C} (hF : F_spec_l2C_run c x m = some (r_, m1)) :
  CV Tryz.prog 78 #[pt B 0, .agg #[vi x.Qubits, .slice B1 n c1], .agg #[vi m.Rows, vi m.Cols, .slice B2 n1 c2]] w0 (fun v w' => ∃ (B3 : Option Addr) (c3 : Nat), v = (gM_ r_ B3 c3) ∧ ST w0 (bl [⟨B, 82, [.bool c.bad], 1⟩, ⟨B2, 65, (m.Cells.flatMap eN0), c2 * 5⟩]) w' [⟨B, 82, [.bool m1.bad], 1⟩, ⟨B3, 65, (r_.Cells.flatMap eN0), c3 * 5⟩] []) := by
 subst hn
 subst hn1
 unfold F_spec_l2C_run at hF
 refine cv_of_cw 30 Tryz.func78 rfl Tryz.ntmps78 rfl ?_
 refine cw_seq (cw_region ?_)
 refine sS 4 (Ys_box (T := 39) (v := .agg #[vi x.Qubits, .slice B1 x.Gates.length c1]) (cs := [vi x.Qubits, .slice B1 x.Gates.length c1]) (m := 2) hS rfl rfl rfl rfl) ?_
 rintro _ w_ ⟨b, rfl, hS1⟩
 refine sS 5 (Ys_box (T := 48) (v := gM_ m B2 c2) (cs := kM_ m B2 c2) (m := 3) hS1 rfl rfl rfl rfl) ?_
 rintro _ w_1 ⟨b1, rfl, hS2⟩
 refine sS 6 (Ys_alloc (T := 48) (cs := kN_) (m := 3) hS2 k_zero_48 rfl rfl rfl) ?_
 rintro _ w_2 ⟨b2, rfl, hS3⟩
 refine rw_nil (cw_seq (cw_seq (cw_region ?_)))
 refine sQ 9 (Y_fieldAddr (B := aD b) (i := 0) (s := 0) k_fd_39_1_1_37 k_sz_37_1 rfl rfl) ?_
 refine sQ 10 (Y_load1 (B := aD b) (i := 1) (cs := [vi x.Qubits, .slice B1 x.Gates.length c1]) (v := .slice B1 x.Gates.length c1) k_sc_37 rfl rfl (hS3.cf (i := 2) rfl) rfl) ?_
 refine sQ 11 (Y_len (B := B1) (m := x.Gates.length) (c := c1) k_sl_37_70 rfl rfl) ?_
 refine sQ 12 (Y_move (v := vi 0) rfl rfl) (rw_nil ?_)
 obtain ⟨hN, hF⟩ := chk_inv hF
 obtain ⟨z, hz, hF1⟩ := bind_inv hF
 refine cw_block ?_
 refine cw_loop (fun k f w => ∃ (i : Nat) (bad : Bool) (Rows : Int) (Cols : Int) (Cells : List TDyadic) (B4 : Option Addr) (c4 : Nat), FF f [(0, pt B 0), (4, pt (aD b) 0), (5, pt (aD b1) 0), (6, pt (aD b2) 0), (10, .slice B1 x.Gates.length c1), (11, vi (x.Gates.length : Int)), (12, vi (i : Int))] ∧ ST w0 (bl [⟨B, 82, [.bool c.bad], 1⟩, ⟨B2, 65, (m.Cells.flatMap eN0), c2 * 5⟩]) w [⟨B, 82, [.bool bad], 1⟩, ⟨aD b, 39, [vi x.Qubits, .slice B1 x.Gates.length c1], 2⟩, ⟨aD b1, 48, [vi Rows, vi Cols, .slice B4 Cells.length c4], 3⟩, ⟨B4, 65, (Cells.flatMap eN0), c4 * 5⟩, ⟨aD b2, 48, kN_, 3⟩] [⟨B1, (x.Gates.flatMap eN4)⟩] ∧ i + k = x.Gates.length ∧ forN (F_spec_l2C_run_l1 x) k i (bad, Rows, Cols, Cells) = some z) x.Gates.length ⟨0, c.bad, m.Rows, m.Cols, m.Cells, B2, c2, (FF.cons rfl (FF.cons rfl (FF.cons rfl (FF.cons rfl (FF.cons rfl (FF.cons rfl (FF.cons rfl FF.nil))))))), (hS3.sel [0, 2, 3, 1, 4] rfl rfl), Nat.zero_add _, hz⟩ ?_
 rintro k_ f w ⟨i, bad, Rows, Cols, Cells, B4, c4, hf, hS4, hik, hL⟩
 refine cw_seq (cw_region ?_)
 refine sQ 13 (Y_lt (k := .i64) (a := (i : Int)) (b := (x.Gates.length : Int)) rfl (hf.get 12 6 rfl) (hf.get 11 5 rfl)) (rw_nil (cw_seq ?_))
 refine cw_cond (b := (decide ((i : Int) < (x.Gates.length : Int)))) rfl (fun hlt => ?_) (fun hlt => ?_)
 ·skip
  have hlt1 : i < x.Gates.length := by have h := of_decide_eq_true hlt; omega
  obtain ⟨k_1, rfl⟩ : ∃ k2, k_ = k2 + 1 := ⟨k_ - 1, by omega⟩
  obtain ⟨y, hb, hL1⟩ := forN_go hL
  unfold F_spec_l2C_run_l1 at hb
  refine cw_skip (cw_seq ?_)
  obtain ⟨z1, hz1, hF2⟩ := bind_inv hb
  refine cw_mid (fun f w => ∃ (bad1 : Bool) (Rows1 : Int) (Cols1 : Int) (Cells1 : List TDyadic) (B5 : Option Addr) (c5 : Nat), (bad1, Rows1, Cols1, Cells1) = z1 ∧ FF f [(0, pt B 0), (4, pt (aD b) 0), (5, pt (aD b1) 0), (6, pt (aD b2) 0), (10, .slice B1 x.Gates.length c1), (11, vi (x.Gates.length : Int)), (12, vi (i : Int))] ∧ ST w0 (bl [⟨B, 82, [.bool c.bad], 1⟩, ⟨B2, 65, (m.Cells.flatMap eN0), c2 * 5⟩]) w [⟨B, 82, [.bool bad1], 1⟩, ⟨aD b, 39, [vi x.Qubits, .slice B1 x.Gates.length c1], 2⟩, ⟨aD b1, 48, [vi Rows1, vi Cols1, .slice B5 Cells1.length c5], 3⟩, ⟨B5, 65, (Cells1.flatMap eN0), c5 * 5⟩, ⟨aD b2, 48, kN_, 3⟩] [⟨B1, (x.Gates.flatMap eN4)⟩]) ?_ ?_
  ·skip
   refine cw_block (cw_seq (cw_region ?_))
   obtain ⟨x1, hx, hz1⟩ := bind_inv hz1
   refine sQ 14 (Y_index (B := B1) (m := x.Gates.length) (c := c1) (k := .i64) (i := (i : Int)) k_sl_37_70 k_sz_70_3 rfl (hf.get 10 4 rfl) (hf.get 12 6 rfl) (gi_isSome enc_Gate_len rfl (hS4.rf (i := 0) rfl) hx) (getI_nn hx) (getI_ltI hx rfl)) ?_
   refine sQ 15 (Y_loadA (B := B1) (i := (i : Int).toNat * 3) (cs := (x.Gates.flatMap eN4)) (vs := [vi x1.Kind, vi x1.A, vi x1.B]) k_ag_70 k_sz_70_3 rfl rfl (hS4.rf (i := 0) rfl) (enc_Gate_len x1) (gi_seg enc_Gate_len hx)) ?_
   refine sS 8 (Ys_alloc (T := 70) (cs := [vi 0, vi 0, vi 0]) (m := 3) hS4 k_zero_70 rfl rfl rfl) ?_
   rintro _ w_3 ⟨b3, rfl, hS6⟩
   refine s0 (Ys_store (i := 5) (s := 3) (B := aD b3) (T' := 70) (v := .agg #[vi x1.Kind, vi x1.A, vi x1.B]) (vs := [vi x1.Kind, vi x1.A, vi x1.B]) (k := 0) (cs' := [vi x1.Kind, vi x1.A, vi x1.B]) hS6 k_sz_70_3 rfl rfl rfl rfl rfl rfl rfl (lB rfl) rfl rfl) ?_
   rintro _ w_4 ⟨rfl, hS7⟩
   refine rw_nil (cw_seq (cw_region ?_))
   refine sQ 16 (Y_move (v := pt B 0) rfl (hf.get 0 0 rfl)) ?_
   refine sQ 17 (Y_nilCheck (B := B) (i := 0) rfl rfl) ?_
   refine sQ 18 (Y_fieldAddr (B := B) (i := 0) (s := 0) k_fd_82_0_0_4 k_sz_4_1 rfl rfl) ?_
   refine sQ 19 (Y_load1 (B := B) (i := 0) (cs := [.bool bad]) (v := .bool bad) k_sc_4 rfl rfl (hS7.cf (i := 0) rfl) rfl) ?_
   refine sQ 20 (Y_not (p := bad) rfl rfl) (rw_nil ?_)
   refine cw_cond (b := (!bad)) rfl (fun hb1 => ?_) (fun hb1 => ?_)
   ·skip
    have hF3 := ct hz1 hb1
    obtain ⟨r_1, hc, hF3⟩ := bind_inv hF3
    obtain ⟨⟨r_2, m2⟩, hc1, hF3⟩ := bind_inv hF3
    refine cw_mid (fun f w => ∃ (B8 : Option Addr) (c8 : Nat), FF f [(0, pt B 0), (4, pt (aD b) 0), (5, pt (aD b1) 0), (6, pt (aD b2) 0), (10, .slice B1 x.Gates.length c1), (11, vi (x.Gates.length : Int)), (12, vi (i : Int))] ∧ ST w0 (bl [⟨B, 82, [.bool c.bad], 1⟩, ⟨B2, 65, (m.Cells.flatMap eN0), c2 * 5⟩]) w [⟨B, 82, [.bool m2.bad], 1⟩, ⟨aD b, 39, [vi x.Qubits, .slice B1 x.Gates.length c1], 2⟩, ⟨aD b1, 48, kM_ r_2 B8 c8, 3⟩, ⟨B8, 65, (r_2.Cells.flatMap eN0), c8 * 5⟩, ⟨aD b2, 48, kN_, 3⟩] [⟨B1, (x.Gates.flatMap eN4)⟩]) ?_ ?_
    ·skip
     refine ra_start (hS7.se [1, 3, 4, 5]).fn (by kernel_rfl) ?_
     have hS11 := hS7.drew
     refine rq 0 21 (v := pt B 0) rfl (hS11.se [1, 3, 4, 5]) (fun w' hw' => (Y_move (v := pt B 0) rfl (hf.get 0 0 rfl))) ?_
     refine rq 1 22 (v := pt (aD b) 0) rfl (hS11.se [1, 3, 4, 5]) (fun w' hw' => (Y_fieldAddr (B := aD b) (i := 0) (s := 0) k_fd_39_0_0_3 k_sz_3_1 rfl (hf.get 4 1 rfl))) ?_
     refine rq 2 23 (v := vi x.Qubits) rfl (hS11.se [1, 3, 4, 5]) (fun w' hw' => (Y_load1 (B := aD b) (i := 0) (cs := [vi x.Qubits, .slice B1 x.Gates.length c1]) (v := vi x.Qubits) k_sc_3 rfl rfl (ST.cf hw' (i := 0) rfl) rfl)) ?_
     refine rq 3 24 (v := .agg #[vi x1.Kind, vi x1.A, vi x1.B]) rfl (hS11.se [1, 3, 4, 5]) (fun w' hw' => (Y_loadA (B := aD b3) (i := 0) (cs := [vi x1.Kind, vi x1.A, vi x1.B]) (vs := [vi x1.Kind, vi x1.A, vi x1.B]) k_ag_70 k_sz_70_3 rfl rfl (ST.cf hw' (i := 3) rfl) rfl rfl)) ?_
     refine rA [4, 5] ?_
     refine ra_c 25 (i := 4) rfl rfl rfl (Yc_func (g := 114) (vs := [vi x.Qubits, .agg #[vi x1.Kind, vi x1.A, vi x1.B]]) k_call_114 rfl (mc rfl (mc rfl mn)) (c_spec_l6Gate x.Qubits x1 _  (hS11.inn0 [] rfl) hc)) ?_ ?_
     ·rintro _ w_5 ⟨B6, c6, rfl, hd⟩
      have hS12 := hS11.out0 hd
      refine ⟨(hS12.se [1, 3, 4, 5]), ?_⟩
      refine rA [5] ?_
      refine ra_y 26 (i := 5) (v := .agg #[vi Rows, vi Cols, .slice B4 Cells.length c4]) rfl rfl rfl (Y_loadA (B := aD b1) (i := 0) (cs := [vi Rows, vi Cols, .slice B4 Cells.length c4]) (vs := [vi Rows, vi Cols, .slice B4 Cells.length c4]) k_ag_48 k_sz_48_3 rfl (hf.get 5 2 rfl) (hS12.cf (i := 2) rfl) rfl rfl) (hS12.se [1, 3, 4, 5]) ?_ ?_
      ·skip
       refine rA [6] ?_
       refine ra_c 27 (i := 6) rfl rfl rfl (Yc_func (g := 98) (vs := [pt B 0, gM_ r_1 B6 c6, .agg #[vi Rows, vi Cols, .slice B4 Cells.length c4]]) k_call_98 rfl (mc rfl (mc rfl (mc rfl mn))) (c_spec_l2C_times (Tl2C.mk bad) r_1 (TMatrix.mk Rows Cols Cells) B B6 c6 r_1.Cells.length B4 c4 Cells.length _ rfl rfl (hS12.inn [true, false, false, false, false, false, false] rfl [(false, 5), (false, 2)] rfl) hc1)) ?_ ?_
       ·rintro _ w_6 ⟨B7, c7, rfl, hd1⟩
        have hS13 := hS12.out [true, false, false, false, false, false, false] rfl hd1
        refine ⟨(hS13.se [0, 2, 3, 4]), ?_⟩
        refine rA [7] ?_
        refine ra_s0 (i := 7) rfl rfl rfl (Ys_store (i := 1) (s := 3) (B := aD b1) (T' := 48) (v := gM_ r_2 B7 c7) (vs := kM_ r_2 B7 c7) (k := 0) (cs' := kM_ r_2 B7 c7) hS13 k_sz_48_3 rfl (hf.get 5 2 rfl) rfl rfl rfl rfl rfl (lB rfl) rfl rfl) ?_ ?_
        ·rintro _ w_7 ⟨rfl, hS14⟩
         refine ⟨(hS14.se [0, 2, 3, 4]), ?_⟩
         refine ra_done (by kernel_rfl) ?_
         exact ⟨B7, c7, (FF.cons (hf.get 0 0 rfl) (FF.cons (hf.get 4 1 rfl) (FF.cons (hf.get 5 2 rfl) (FF.cons (hf.get 6 3 rfl) (FF.cons (hf.get 10 4 rfl) (FF.cons (hf.get 11 5 rfl) (FF.cons (hf.get 12 6 rfl) FF.nil))))))), (hS14.sel [6, 0, 1, 7, 3] rfl rfl)⟩
        exact allR_nil
       exact allR_nil
      exact allR_nil
     refine ra_y 26 (i := 5) (v := .agg #[vi Rows, vi Cols, .slice B4 Cells.length c4]) rfl rfl rfl (Y_loadA (B := aD b1) (i := 0) (cs := [vi Rows, vi Cols, .slice B4 Cells.length c4]) (vs := [vi Rows, vi Cols, .slice B4 Cells.length c4]) k_ag_48 k_sz_48_3 rfl (hf.get 5 2 rfl) (hS11.cf (i := 2) rfl) rfl rfl) (hS11.se [1, 3, 4, 5]) ?_ ?_
     ·skip
      refine rA [4] ?_
      refine ra_c 25 (i := 4) rfl rfl rfl (Yc_func (g := 114) (vs := [vi x.Qubits, .agg #[vi x1.Kind, vi x1.A, vi x1.B]]) k_call_114 rfl (mc rfl (mc rfl mn)) (c_spec_l6Gate x.Qubits x1 _  (hS11.inn0 [] rfl) hc)) ?_ ?_
      ·rintro _ w_8 ⟨B6, c6, rfl, hd2⟩
       have hS15 := hS11.out0 hd2
       refine ⟨(hS15.se [1, 3, 4, 5]), ?_⟩
       refine rA [6] ?_
       refine ra_c 27 (i := 6) rfl rfl rfl (Yc_func (g := 98) (vs := [pt B 0, gM_ r_1 B6 c6, .agg #[vi Rows, vi Cols, .slice B4 Cells.length c4]]) k_call_98 rfl (mc rfl (mc rfl (mc rfl mn))) (c_spec_l2C_times (Tl2C.mk bad) r_1 (TMatrix.mk Rows Cols Cells) B B6 c6 r_1.Cells.length B4 c4 Cells.length _ rfl rfl (hS15.inn [true, false, false, false, false, false, false] rfl [(false, 5), (false, 2)] rfl) hc1)) ?_ ?_
       ·rintro _ w_9 ⟨B7, c7, rfl, hd3⟩
        have hS16 := hS15.out [true, false, false, false, false, false, false] rfl hd3
        refine ⟨(hS16.se [0, 2, 3, 4]), ?_⟩
        refine rA [7] ?_
        refine ra_s0 (i := 7) rfl rfl rfl (Ys_store (i := 1) (s := 3) (B := aD b1) (T' := 48) (v := gM_ r_2 B7 c7) (vs := kM_ r_2 B7 c7) (k := 0) (cs' := kM_ r_2 B7 c7) hS16 k_sz_48_3 rfl (hf.get 5 2 rfl) rfl rfl rfl rfl rfl (lB rfl) rfl rfl) ?_ ?_
        ·rintro _ w_10 ⟨rfl, hS17⟩
         refine ⟨(hS17.se [0, 2, 3, 4]), ?_⟩
         refine ra_done (by kernel_rfl) ?_
         exact ⟨B7, c7, (FF.cons (hf.get 0 0 rfl) (FF.cons (hf.get 4 1 rfl) (FF.cons (hf.get 5 2 rfl) (FF.cons (hf.get 6 3 rfl) (FF.cons (hf.get 10 4 rfl) (FF.cons (hf.get 11 5 rfl) (FF.cons (hf.get 12 6 rfl) FF.nil))))))), (hS17.sel [6, 0, 1, 7, 3] rfl rfl)⟩
        exact allR_nil
       exact allR_nil
      exact allR_nil
     exact allR_nil
    rintro f w ⟨B8, c8, hf2, hS10⟩
    exact ⟨m2.bad, r_2.Rows, r_2.Cols, r_2.Cells, B8, c8, (some_inj hF3), (FF.cons (hf2.get 0 0 rfl) (FF.cons (hf2.get 4 1 rfl) (FF.cons (hf2.get 5 2 rfl) (FF.cons (hf2.get 6 3 rfl) (FF.cons (hf2.get 10 4 rfl) (FF.cons (hf2.get 11 5 rfl) (FF.cons (hf2.get 12 6 rfl) FF.nil))))))), (hS10.sel [0, 1, 2, 3, 4] rfl rfl)⟩
   ·skip
    have hF4 := cf' hz1 hb1
    refine cw_skip ?_
    exact ⟨bad, Rows, Cols, Cells, B4, c4, (some_inj hF4), (FF.cons (hf.get 0 0 rfl) (FF.cons (hf.get 4 1 rfl) (FF.cons (hf.get 5 2 rfl) (FF.cons (hf.get 6 3 rfl) (FF.cons (hf.get 10 4 rfl) (FF.cons (hf.get 11 5 rfl) (FF.cons (hf.get 12 6 rfl) FF.nil))))))), (hS7.sel [0, 1, 2, 3, 4] rfl rfl)⟩
  rintro f w ⟨bad1, Rows1, Cols1, Cells1, B5, c5, rfl, hf1, hS5⟩
  refine cw_region ?_
  refine sQ 28 (Y_add (k := .i64) (a := (i : Int)) (b := 1) rfl (hf1.get 12 6 rfl) rfl) ?_
  refine sQ 12 (Y_move (v := vi (i64.wrap ((i : Int) + 1))) rfl rfl) (rw_nil ?_)
  obtain rfl := some_inj hF2
  exact ⟨k_1, Nat.lt_succ_self _, i + 1, bad1, Rows1, Cols1, Cells1, B5, c5, (FF.cons (hf1.get 0 0 rfl) (FF.cons (hf1.get 4 1 rfl) (FF.cons (hf1.get 5 2 rfl) (FF.cons (hf1.get 6 3 rfl) (FF.cons (hf1.get 10 4 rfl) (FF.cons (hf1.get 11 5 rfl) (FF.cons (congrArg (Value.int .i64) (wr_succ hlt1 hN)) FF.nil))))))), (hS5.sel [0, 1, 2, 3, 4] rfl rfl), (by omega), hL1⟩
 ·skip
  obtain rfl : k_ = 0 := by have h := of_decide_eq_false hlt; omega
  refine cw_exit rfl ?_
  obtain rfl := some_inj hL
  refine cw_seq (cw_region ?_)
  refine sQ 29 (Y_loadA (B := aD b1) (i := 0) (cs := [vi Rows, vi Cols, .slice B4 Cells.length c4]) (vs := [vi Rows, vi Cols, .slice B4 Cells.length c4]) k_ag_48 k_sz_48_3 rfl (hf.get 5 2 rfl) (hS4.cf (i := 2) rfl) rfl rfl) ?_
  refine s0 (Ys_store (i := 4) (s := 3) (B := aD b2) (T' := 48) (v := .agg #[vi Rows, vi Cols, .slice B4 Cells.length c4]) (vs := [vi Rows, vi Cols, .slice B4 Cells.length c4]) (k := 0) (cs' := [vi Rows, vi Cols, .slice B4 Cells.length c4]) hS4 k_sz_48_3 rfl (hf.get 6 3 rfl) rfl rfl rfl rfl rfl (lB rfl) rfl rfl) ?_
  rintro _ w_11 ⟨rfl, hS18⟩
  refine rw_nil (cw_ret ?_)
  obtain ⟨rfl, rfl⟩ := pr2 (some_inj hF1)
  exact ret1 Tryz.results78 (v1 := .agg #[vi Rows, vi Cols, .slice B4 Cells.length c4]) (resAt_cellA (B := aD b2) (i := 0) (cs := [vi Rows, vi Cols, .slice B4 Cells.length c4]) (vs := [vi Rows, vi Cols, .slice B4 Cells.length c4]) (hf.get 6 3 rfl) k_ag_48 k_sz_48_3 (hS18.cf (i := 4) rfl) rfl rfl) ⟨B4, c4, rfl, (hS18.sN [0, 3])⟩

theorem c_spec_l3Unit (n : Int)  (w0 : World)  (hS : ST w0 [] w0 [] []) {r_ : TMatrix} (hF : F_spec_l3Unit n = some r_) :
  CV Tryz.prog 79 #[vi n] w0 (fun v w' => ∃ (B : Option Addr) (c : Nat), v = (gM_ r_ B c) ∧ ST w0 [] w' [⟨B, 65, (r_.Cells.flatMap eN0), c * 5⟩] []) := by
 unfold F_spec_l3Unit at hF
 refine cv_of_cw 27 Tryz.func79 rfl Tryz.ntmps79 rfl ?_
 refine cw_seq (cw_region ?_)
 refine sS 2 (Ys_alloc (T := 48) (cs := kN_) (m := 3) hS k_zero_48 rfl rfl rfl) ?_
 rintro _ w_ ⟨b, rfl, hS1⟩
 refine rw_nil (cw_seq (cw_region ?_))
 refine sQ 5 (Y_move (v := vi n) rfl rfl) ?_
 refine sQ 6 (Y_move (v := vi n) rfl rfl) ?_
 refine sQ 7 (Y_move (v := vi n) rfl rfl) ?_
 refine sQ 8 (Y_move (v := vi n) rfl rfl) ?_
 refine sQ 9 (Y_mul (k := .i64) (a := n) (b := n) rfl rfl rfl) ?_
 obtain ⟨hmk, hF⟩ := chk_inv hF
 refine sS 10 (Ys_make (s := 5) (by' := 40) (nn := (i64.wrap (n * n)).toNat) (a := (i64.wrap (n * n))) (b := (i64.wrap (n * n))) (cs := ((List.replicate ((i64.wrap (n * n)).toNat) (TDyadic.mk (TRing.mk 0 0 0 0) 0)).flatMap eN0)) hS1 k_sl_28_65 k_sz_65_5 k_by_65_40 k_zero_65 rfl rfl rfl rfl hmk.1 rfl (by have := hmk; omega) (by have := hmk; omega) (by omega) (fm_rep (enc := eN0) (d := (TDyadic.mk (TRing.mk 0 0 0 0) 0)) rfl _)) ?_
 rintro _ w_1 ⟨b1, rfl, hS2⟩
 refine sQ 11 (Y_buildS (zs := kN_) (vs := [(0, vi n), (1, vi n), (2, .slice (aD b1) ((i64.wrap (n * n)).toNat) ((i64.wrap (n * n)).toNat))]) (cs := [vi n, vi n, .slice (aD b1) ((i64.wrap (n * n)).toNat) ((i64.wrap (n * n)).toNat)]) k_pl_48 k_zero_48 rfl (mpc rfl (mpc rfl (mpc rfl mpn))) rfl) ?_
 refine sS 3 (Ys_alloc (T := 48) (cs := kN_) (m := 3) hS2 k_zero_48 rfl rfl rfl) ?_
 rintro _ w_2 ⟨b2, rfl, hS3⟩
 refine s0 (Ys_store (i := 2) (s := 3) (B := aD b2) (T' := 48) (v := .agg #[vi n, vi n, .slice (aD b1) ((i64.wrap (n * n)).toNat) ((i64.wrap (n * n)).toNat)]) (vs := [vi n, vi n, .slice (aD b1) ((i64.wrap (n * n)).toNat) ((i64.wrap (n * n)).toNat)]) (k := 0) (cs' := [vi n, vi n, .slice (aD b1) ((i64.wrap (n * n)).toNat) ((i64.wrap (n * n)).toNat)]) hS3 k_sz_48_3 rfl rfl rfl rfl rfl rfl rfl (lB rfl) rfl rfl) ?_
 rintro _ w_3 ⟨rfl, hS4⟩
 refine rw_nil (cw_seq (cw_seq (cw_region ?_)))
 refine sQ 4 (Y_assign (v := vi 0) rfl rfl) (rw_nil ?_)
 obtain ⟨hN, hF⟩ := chk_inv hF
 obtain ⟨z, hz, hF1⟩ := bind_inv hF
 refine cw_block ?_
 refine cw_loop (fun k f w => ∃ (i1 : Nat) (Cells : List TDyadic), FF f [(0, vi n), (2, pt (aD b) 0), (3, pt (aD b2) 0), (4, vi (i1 : Int))] ∧ Cells.length = (i64.wrap (n * n)).toNat ∧ ST w0 [] w [⟨aD b, 48, kN_, 3⟩, ⟨aD b2, 48, [vi n, vi n, .slice (aD b1) ((i64.wrap (n * n)).toNat) ((i64.wrap (n * n)).toNat)], 3⟩, ⟨aD b1, 65, (Cells.flatMap eN0), ((i64.wrap (n * n)).toNat) * 5⟩] [] ∧ i1 + k = n.toNat ∧ forN (F_spec_l3Unit_l1 n) k i1 Cells = some z) n.toNat ⟨0, (List.replicate ((i64.wrap (n * n)).toNat) (TDyadic.mk (TRing.mk 0 0 0 0) 0)), (FF.cons rfl (FF.cons rfl (FF.cons rfl (FF.cons rfl FF.nil)))), List.length_replicate, (hS4.sel [0, 2, 1] rfl rfl), Nat.zero_add _, hz⟩ ?_
 rintro k_ f w ⟨i1, Cells, hf, hl, hS5, hik, hL⟩
 refine cw_seq (cw_seq (cw_region ?_))
 refine sQ 12 (Y_move (v := vi (i1 : Int)) rfl (hf.get 4 3 rfl)) ?_
 refine sQ 13 (Y_move (v := vi n) rfl (hf.get 0 0 rfl)) ?_
 refine sQ 14 (Y_lt (k := .i64) (a := (i1 : Int)) (b := n) rfl rfl rfl) (rw_nil ?_)
 refine cw_cond (b := (decide ((i1 : Int) < n))) rfl (fun hlt => ?_) (fun hlt => ?_)
 ·skip
  have hlt1 : i1 < n.toNat := by have h := of_decide_eq_true hlt; omega
  obtain ⟨k_1, rfl⟩ : ∃ k2, k_ = k2 + 1 := ⟨k_ - 1, by omega⟩
  obtain ⟨y, hb, hL1⟩ := forN_go hL
  unfold F_spec_l3Unit_l1 at hb
  refine cw_skip (cw_seq (cw_block ?_))
  obtain ⟨r_1, hc, hb⟩ := bind_inv hb
  obtain ⟨x, hx, hb⟩ := bind_inv hb
  refine ra_start (hS5.se [0, 1]).fn (by kernel_rfl) ?_
  have hS7 := hS5.drew
  refine rq 0 17 (v := pt (aD b2) 2) rfl (hS7.se [0, 1]) (fun w' hw' => (Y_fieldAddr (B := aD b2) (i := 0) (s := 0) k_fd_48_2_2_28 k_sz_28_1 rfl (hf.get 3 2 rfl))) ?_
  refine rq 1 18 (v := .slice (aD b1) ((i64.wrap (n * n)).toNat) ((i64.wrap (n * n)).toNat)) rfl (hS7.se [0, 1]) (fun w' hw' => (Y_load1 (B := aD b2) (i := 2) (cs := [vi n, vi n, .slice (aD b1) ((i64.wrap (n * n)).toNat) ((i64.wrap (n * n)).toNat)]) (v := .slice (aD b1) ((i64.wrap (n * n)).toNat) ((i64.wrap (n * n)).toNat)) k_sc_28 rfl rfl (ST.cf hw' (i := 1) rfl) rfl)) ?_
  refine rq 2 19 (v := vi (i1 : Int)) rfl (hS7.se [0, 1]) (fun w' hw' => (Y_move (v := vi (i1 : Int)) rfl (hf.get 4 3 rfl))) ?_
  refine rq 3 20 (v := vi n) rfl (hS7.se [0, 1]) (fun w' hw' => (Y_move (v := vi n) rfl (hf.get 0 0 rfl))) ?_
  refine rq 4 21 (v := vi (i64.wrap ((i1 : Int) * n))) rfl (hS7.se [0, 1]) (fun w' hw' => (Y_mul (k := .i64) (a := (i1 : Int)) (b := n) rfl rfl rfl)) ?_
  refine rq 5 22 (v := vi (i1 : Int)) rfl (hS7.se [0, 1]) (fun w' hw' => (Y_move (v := vi (i1 : Int)) rfl (hf.get 4 3 rfl))) ?_
  refine rq 6 23 (v := vi (i64.wrap ((i64.wrap ((i1 : Int) * n)) + (i1 : Int)))) rfl (hS7.se [0, 1]) (fun w' hw' => (Y_add (k := .i64) (a := (i64.wrap ((i1 : Int) * n))) (b := (i1 : Int)) rfl rfl rfl)) ?_
  refine rA [7] ?_
  refine ra_c 24 (i := 7) rfl rfl rfl (Yc_func (g := 54) (vs := [vi 0]) k_call_54 rfl (mc rfl mn) (c_spec_l2Power 0 _  (hS7.inn0 [] rfl) hc)) ?_ ?_
  ·rintro _ w_4 ⟨rfl, hd⟩
   have hS8 := hS7.out00 hd
   refine ⟨(hS8.se [0, 1]), ?_⟩
   refine rA [8] ?_
   refine ra_y 25 (i := 8) (v := pt (aD b1) ((i64.wrap ((i64.wrap ((i1 : Int) * n)) + (i1 : Int))).toNat * 5)) rfl rfl rfl (Y_index (B := aD b1) (m := (i64.wrap (n * n)).toNat) (c := (i64.wrap (n * n)).toNat) (k := .i64) (i := (i64.wrap ((i64.wrap ((i1 : Int) * n)) + (i1 : Int)))) k_sl_28_65 k_sz_65_5 rfl rfl rfl (gi_isSome eN2 rfl (hS8.cf (i := 2) rfl) hx) (getI_nn hx) (getI_ltI hx hl)) (hS8.se [0, 1]) ?_ ?_
   ·skip
    refine rA [9] ?_
    refine ra_s0 (i := 9) rfl rfl rfl (Ys_store (i := 2) (s := 5) (B := aD b1) (T' := 65) (v := gD_ r_1) (vs := kD_ r_1) (k := (i64.wrap ((i64.wrap ((i1 : Int) * n)) + (i1 : Int))).toNat * 5) (cs' := ((Cells.set (i64.wrap ((i64.wrap ((i1 : Int) * n)) + (i1 : Int))).toNat r_1).flatMap eN0)) hS8 k_sz_65_5 rfl rfl rfl rfl rfl rfl rfl (gi_fit0 eN2 hx) (gi_set eN2 hx r_1 rfl) rfl) ?_ ?_
    ·rintro _ w_5 ⟨rfl, hS9⟩
     refine ⟨(hS9.se [0, 1]), ?_⟩
     refine ra_done (by kernel_rfl) ?_
     refine cw_region ?_
     refine sQ 15 (Y_move (v := vi (i1 : Int)) rfl (hf.get 4 3 rfl)) ?_
     refine sQ 16 (Y_add (k := .i64) (a := (i1 : Int)) (b := 1) rfl rfl rfl) ?_
     refine sQ 4 (Y_assign (v := vi (i64.wrap ((i1 : Int) + 1))) rfl rfl) (rw_nil ?_)
     obtain rfl := some_inj hb
     exact ⟨k_1, Nat.lt_succ_self _, i1 + 1, (Cells.set (i64.wrap ((i64.wrap ((i1 : Int) * n)) + (i1 : Int))).toNat r_1), (FF.cons (hf.get 0 0 rfl) (FF.cons (hf.get 2 1 rfl) (FF.cons (hf.get 3 2 rfl) (FF.cons (congrArg (Value.int .i64) (wr_succ hlt1 hN)) FF.nil)))), (set_len _ _ _ hl), (hS9.sel [0, 1, 2] rfl rfl), (by omega), hL1⟩
    exact allR_nil
   exact allR_nil
  exact allR_nil
 ·skip
  obtain rfl : k_ = 0 := by have h := of_decide_eq_false hlt; omega
  refine cw_exit rfl ?_
  obtain rfl := some_inj hL
  refine cw_seq (cw_region ?_)
  refine sQ 26 (Y_loadA (B := aD b2) (i := 0) (cs := [vi n, vi n, .slice (aD b1) ((i64.wrap (n * n)).toNat) ((i64.wrap (n * n)).toNat)]) (vs := [vi n, vi n, .slice (aD b1) ((i64.wrap (n * n)).toNat) ((i64.wrap (n * n)).toNat)]) k_ag_48 k_sz_48_3 rfl (hf.get 3 2 rfl) (hS5.cf (i := 1) rfl) rfl rfl) ?_
  refine s0 (Ys_store (i := 0) (s := 3) (B := aD b) (T' := 48) (v := .agg #[vi n, vi n, .slice (aD b1) ((i64.wrap (n * n)).toNat) ((i64.wrap (n * n)).toNat)]) (vs := [vi n, vi n, .slice (aD b1) ((i64.wrap (n * n)).toNat) ((i64.wrap (n * n)).toNat)]) (k := 0) (cs' := [vi n, vi n, .slice (aD b1) ((i64.wrap (n * n)).toNat) ((i64.wrap (n * n)).toNat)]) hS5 k_sz_48_3 rfl (hf.get 2 1 rfl) rfl rfl rfl rfl rfl (lB rfl) rfl rfl) ?_
  rintro _ w_6 ⟨rfl, hS10⟩
  refine rw_nil (cw_ret ?_)
  obtain rfl := some_inj hF1
  exact ret1 Tryz.results79 (v1 := .agg #[vi n, vi n, .slice (aD b1) ((i64.wrap (n * n)).toNat) ((i64.wrap (n * n)).toNat)]) (resAt_cellA (B := aD b) (i := 0) (cs := [vi n, vi n, .slice (aD b1) ((i64.wrap (n * n)).toNat) ((i64.wrap (n * n)).toNat)]) (vs := [vi n, vi n, .slice (aD b1) ((i64.wrap (n * n)).toNat) ((i64.wrap (n * n)).toNat)]) (hf.get 2 1 rfl) k_ag_48 k_sz_48_3 (hS10.cf (i := 0) rfl) rfl rfl) ⟨aD b1, (i64.wrap (n * n)).toNat, (by simp [hl]), (hS10.sN [2])⟩

theorem c_spec_l6Op (x : TCircuit) (B : Option Addr) (c n : Nat) (w0 : World) (hn : x.Gates.length = n) (hS : ST w0 [] w0 [] [⟨B, (x.Gates.flatMap eN4)⟩]) {r_ : TMatrix} (hF : F_spec_l6Op x = some r_) :
  CV Tryz.prog 39 #[.agg #[vi x.Qubits, .slice B n c]] w0 (fun v w' => ∃ (B1 : Option Addr) (c1 : Nat), v = (gM_ r_ B1 c1) ∧ ST w0 [] w' [⟨B1, 65, (r_.Cells.flatMap eN0), c1 * 5⟩] []) := by
 subst hn
 unfold F_spec_l6Op at hF
 refine cv_of_cw 14 Tryz.func39 rfl Tryz.ntmps39 rfl ?_
 refine cw_seq (cw_region ?_)
 refine sS 1 (Ys_box (T := 39) (v := .agg #[vi x.Qubits, .slice B x.Gates.length c]) (cs := [vi x.Qubits, .slice B x.Gates.length c]) (m := 2) hS rfl rfl rfl rfl) ?_
 rintro _ w_ ⟨b, rfl, hS1⟩
 refine sS 2 (Ys_alloc (T := 48) (cs := kN_) (m := 3) hS1 k_zero_48 rfl rfl rfl) ?_
 rintro _ w_1 ⟨b1, rfl, hS2⟩
 refine rw_nil (cw_seq (cw_region ?_))
 refine sQ 4 (Y_buildS (zs := [.bool false]) (vs := []) (cs := [.bool false]) k_pl_82 k_zero_82 rfl mpn rfl) ?_
 refine sS 5 (Ys_box (T := 82) (v := .agg #[.bool false]) (cs := [.bool false]) (m := 1) hS2 rfl rfl rfl rfl) ?_
 rintro _ w_2 ⟨b2, rfl, hS3⟩
 refine sQ 3 (Y_assign (v := pt (aD b2) 0) rfl rfl) (rw_nil (cw_seq ?_))
 obtain ⟨hsh, hF⟩ := chk_inv hF
 obtain ⟨r_1, hc, hF⟩ := bind_inv hF
 obtain ⟨⟨r_2, m⟩, hc1, hF⟩ := bind_inv hF
 refine ra_start (hS3.se [0]).fn (by kernel_rfl) ?_
 have hS6 := hS3.drew
 refine rq 0 6 (v := pt (aD b2) 0) rfl (hS6.se [0]) (fun w' hw' => (Y_move (v := pt (aD b2) 0) rfl rfl)) ?_
 refine rq 1 7 (v := .agg #[vi x.Qubits, .slice B x.Gates.length c]) rfl (hS6.se [0]) (fun w' hw' => (Y_loadA (B := aD b) (i := 0) (cs := [vi x.Qubits, .slice B x.Gates.length c]) (vs := [vi x.Qubits, .slice B x.Gates.length c]) k_ag_39 k_sz_39_2 rfl rfl (ST.cf hw' (i := 0) rfl) rfl rfl)) ?_
 refine rq 2 8 (v := pt (aD b) 0) rfl (hS6.se [0]) (fun w' hw' => (Y_fieldAddr (B := aD b) (i := 0) (s := 0) k_fd_39_0_0_3 k_sz_3_1 rfl rfl)) ?_
 refine rq 3 9 (v := vi x.Qubits) rfl (hS6.se [0]) (fun w' hw' => (Y_load1 (B := aD b) (i := 0) (cs := [vi x.Qubits, .slice B x.Gates.length c]) (v := vi x.Qubits) k_sc_3 rfl rfl (ST.cf hw' (i := 0) rfl) rfl)) ?_
 refine rq 4 10 (v := .int .u64 (IntKind.u64.wrap x.Qubits)) rfl (hS6.se [0]) (fun w' hw' => (Y_conv (k := .i64) (a := x.Qubits) (T := 3) (T' := 115) k_us_3 k_int_115_u64 rfl rfl)) ?_
 refine rq 5 11 (v := vi (shlK .i64 1 (IntKind.u64.wrap x.Qubits))) rfl (hS6.se [0]) (fun w' hw' => (Y_shl (k := .i64) (a := 1) (k' := .u64) (b := (IntKind.u64.wrap x.Qubits)) rfl rfl rfl hsh)) ?_
 refine rA [6] ?_
 refine ra_c 12 (i := 6) rfl rfl rfl (Yc_func (g := 79) (vs := [vi (shlK .i64 1 (IntKind.u64.wrap x.Qubits))]) k_call_79 rfl (mc rfl mn) (c_spec_l3Unit (shlK .i64 1 (IntKind.u64.wrap x.Qubits)) _  (hS6.inn0 [] rfl) hc)) ?_ ?_
 ·rintro _ w_3 ⟨B2, c2, rfl, hd⟩
  have hS7 := hS6.out0 hd
  refine ⟨(hS7.se [0]), ?_⟩
  refine rA [7] ?_
  refine ra_c 13 (i := 7) rfl rfl rfl (Yc_func (g := 78) (vs := [pt (aD b2) 0, .agg #[vi x.Qubits, .slice B x.Gates.length c], gM_ r_1 B2 c2]) k_call_78 rfl (mc rfl (mc rfl (mc rfl mn))) (c_spec_l2C_run (Tl2C.mk false) x r_1 (aD b2) B c x.Gates.length B2 c2 r_1.Cells.length _ rfl rfl (hS7.inn [false, false, true, true] rfl [(true, 0)] rfl) hc1)) ?_ ?_
  ·rintro _ w_4 ⟨B3, c3, rfl, hd1⟩
   have hS8 := hS7.out [false, false, true, true] rfl hd1
   refine ⟨(hS8.se [0]), ?_⟩
   refine rA [8] ?_
   refine ra_s0 (i := 8) rfl rfl rfl (Ys_store (i := 1) (s := 3) (B := aD b1) (T' := 48) (v := gM_ r_2 B3 c3) (vs := kM_ r_2 B3 c3) (k := 0) (cs' := kM_ r_2 B3 c3) hS8 k_sz_48_3 rfl rfl rfl rfl rfl rfl rfl (lB rfl) rfl rfl) ?_ ?_
   ·rintro _ w_5 ⟨rfl, hS9⟩
    refine ⟨(hS9.se [0]), ?_⟩
    refine ra_done (by kernel_rfl) ?_
    refine cw_ret ?_
    obtain rfl := some_inj hF
    exact ret1 Tryz.results39 (v1 := gM_ r_2 B3 c3) (resAt_cellA (B := aD b1) (i := 0) (cs := kM_ r_2 B3 c3) (vs := kM_ r_2 B3 c3) rfl k_ag_48 k_sz_48_3 (hS9.cf (i := 1) rfl) rfl rfl) ⟨B3, c3, rfl, (hS9.sN [3])⟩
   exact allR_nil
  exact allR_nil
 exact allR_nil

theorem c_spec_l9Word (w_ : List UInt8)  (w0 : World)  (hS : ST w0 [] w0 [] []) {r_ : TMatrix} (hF : F_spec_l9Word w_ = some r_) :
  CV Tryz.prog 57 #[.string (bstr w_)] w0 (fun v w' => ∃ (B : Option Addr) (c : Nat), v = (gM_ r_ B c) ∧ ST w0 [] w' [⟨B, 65, (r_.Cells.flatMap eN0), c * 5⟩] []) := by
 unfold F_spec_l9Word at hF
 refine cv_of_cw 26 Tryz.func57 rfl Tryz.ntmps57 rfl ?_
 refine cw_seq (cw_region ?_)
 refine sS 2 (Ys_alloc (T := 48) (cs := kN_) (m := 3) hS k_zero_48 rfl rfl rfl) ?_
 rintro _ w_1 ⟨b, rfl, hS1⟩
 refine rw_nil (cw_seq (cw_region ?_))
 refine sQ 6 (Y_buildS (zs := [vi 0, .slice none 0 0]) (vs := [(0, vi 1)]) (cs := [vi 1, .slice none 0 0]) k_pl_39 k_zero_39 rfl (mpc rfl mpn) rfl) ?_
 refine sS 3 (Ys_alloc (T := 39) (cs := [vi 0, .slice none 0 0]) (m := 2) hS1 k_zero_39 rfl rfl rfl) ?_
 rintro _ w_2 ⟨b1, rfl, hS2⟩
 refine s0 (Ys_store (i := 1) (s := 2) (B := aD b1) (T' := 39) (v := .agg #[vi 1, .slice none 0 0]) (vs := [vi 1, .slice none 0 0]) (k := 0) (cs' := [vi 1, .slice none 0 0]) hS2 k_sz_39_2 rfl rfl rfl rfl rfl rfl rfl (lB rfl) rfl rfl) ?_
 rintro _ w_3 ⟨rfl, hS3⟩
 refine rw_nil (cw_seq (cw_seq (cw_region ?_)))
 refine sQ 4 (Y_assign (v := vi 0) rfl rfl) (rw_nil ?_)
 obtain ⟨hN, hF⟩ := chk_inv hF
 obtain ⟨z, hz, hF1⟩ := bind_inv hF
 have hS5 := hS3.addNil 70
 refine cw_block ?_
 refine cw_loop (fun k f w => ∃ (i1 : Nat) (Gates : List TGate) (B1 : Option Addr) (c1 : Nat), FF f [(0, .string (bstr w_)), (2, pt (aD b) 0), (3, pt (aD b1) 0), (4, vi (i1 : Int))] ∧ ST w0 [] w [⟨aD b, 48, kN_, 3⟩, ⟨aD b1, 39, [vi 1, .slice B1 Gates.length c1], 2⟩, ⟨B1, 70, (Gates.flatMap eN4), c1 * 3⟩] [] ∧ i1 + k = w_.length ∧ forN (F_spec_l9Word_l1 w_) k i1 Gates = some z) w_.length ⟨0, [], none, 0, (FF.cons rfl (FF.cons rfl (FF.cons rfl (FF.cons rfl FF.nil)))), (hS5.sel [0, 1, 2] rfl rfl), Nat.zero_add _, hz⟩ ?_
 rintro k_ f w ⟨i1, Gates, B1, c1, hf, hS4, hik, hL⟩
 refine cw_seq (cw_seq (cw_region ?_))
 refine sQ 7 (Y_move (v := vi (i1 : Int)) rfl (hf.get 4 3 rfl)) ?_
 refine sQ 8 (Y_move (v := .string (bstr w_)) rfl (hf.get 0 0 rfl)) ?_
 refine sQ 9 (Y_slen (a := w_) k_str_9 rfl rfl) ?_
 refine sQ 10 (Y_lt (k := .i64) (a := (i1 : Int)) (b := (w_.length : Int)) rfl rfl rfl) (rw_nil ?_)
 refine cw_cond (b := (decide ((i1 : Int) < (w_.length : Int)))) rfl (fun hlt => ?_) (fun hlt => ?_)
 ·skip
  have hlt1 : i1 < w_.length := by have h := of_decide_eq_true hlt; omega
  obtain ⟨k_1, rfl⟩ : ∃ k2, k_ = k2 + 1 := ⟨k_ - 1, by omega⟩
  obtain ⟨y, hb, hL1⟩ := forN_go hL
  unfold F_spec_l9Word_l1 at hb
  refine cw_skip (cw_seq (cw_block (cw_seq (cw_region ?_))))
  refine sQ 5 (Y_assign (v := vi 1) rfl rfl) (rw_nil (cw_seq ?_))
  obtain ⟨z1, hz1, hF2⟩ := bind_inv hb
  refine cw_mid (fun f w => ∃ (kind : Int), kind = z1 ∧ FF f [(0, .string (bstr w_)), (2, pt (aD b) 0), (3, pt (aD b1) 0), (4, vi (i1 : Int)), (5, vi kind)] ∧ ST w0 [] w [⟨aD b, 48, kN_, 3⟩, ⟨aD b1, 39, [vi 1, .slice B1 Gates.length c1], 2⟩, ⟨B1, 70, (Gates.flatMap eN4), c1 * 3⟩] []) ?_ ?_
  ·skip
   refine cw_seq (cw_region ?_)
   refine sQ 13 (Y_move (v := .string (bstr w_)) rfl (hf.get 0 0 rfl)) ?_
   refine sQ 14 (Y_move (v := vi (i1 : Int)) rfl (hf.get 4 3 rfl)) ?_
   obtain ⟨x, hx, hz1⟩ := bind_inv hz1
   refine sQ 15 (Y_sidx (a := w_) (k := .i64) (i := (i1 : Int)) (b := x) k_str_9 rfl rfl rfl hx) ?_
   refine sQ 16 (Y_eq (k := .u8) (a := (x.toNat : Int)) (b := 83) rfl rfl rfl) (rw_nil ?_)
   refine cw_cond (b := ((x.toNat : Int) == 83)) rfl (fun hb1 => ?_) (fun hb1 => ?_)
   ·skip
    have hF3 := ct hz1 hb1
    refine cw_region ?_
    refine sQ 5 (Y_assign (v := vi 5) rfl rfl) (rw_nil ?_)
    exact ⟨5, (some_inj hF3), (FF.cons (hf.get 0 0 rfl) (FF.cons (hf.get 2 1 rfl) (FF.cons (hf.get 3 2 rfl) (FF.cons (hf.get 4 3 rfl) (FF.cons rfl FF.nil))))), (hS4.sel [0, 1, 2] rfl rfl)⟩
   ·skip
    have hF4 := cf' hz1 hb1
    refine cw_skip ?_
    exact ⟨1, (some_inj hF4), (FF.cons (hf.get 0 0 rfl) (FF.cons (hf.get 2 1 rfl) (FF.cons (hf.get 3 2 rfl) (FF.cons (hf.get 4 3 rfl) (FF.cons rfl FF.nil))))), (hS4.sel [0, 1, 2] rfl rfl)⟩
  rintro f w ⟨kind, rfl, hf1, hS6⟩
  refine cw_region ?_
  refine sQ 17 (Y_fieldAddr (B := aD b1) (i := 0) (s := 0) k_fd_39_1_1_37 k_sz_37_1 rfl (hf1.get 3 2 rfl)) ?_
  refine sQ 18 (Y_load1 (B := aD b1) (i := 1) (cs := [vi 1, .slice B1 Gates.length c1]) (v := .slice B1 Gates.length c1) k_sc_37 rfl rfl (hS6.cf (i := 1) rfl) rfl) ?_
  refine sQ 19 (Y_move (v := vi kind) rfl (hf1.get 5 4 rfl)) ?_
  refine sQ 20 (Y_buildS (zs := [vi 0, vi 0, vi 0]) (vs := [(0, vi kind)]) (cs := [vi kind, vi 0, vi 0]) k_pl_70 k_zero_70 rfl (mpc rfl mpn) rfl) ?_
  refine sS 21 (Ys_bslice (s := 3) (len := 1) (vs := [(0, .agg #[vi kind, vi 0, vi 0])]) (cs := [vi kind, vi 0, vi 0]) (zs := [vi 0, vi 0, vi 0]) (m := 3) hS6 k_sl_37_70 k_sz_70_3 k_zc_70 rfl (mpc rfl mpn) rfl rfl rfl (by kernel_rfl) (by kernel_rfl) rfl) ?_
  rintro _ w_4 ⟨b2, rfl, hS7⟩
  obtain ⟨hap, hF2⟩ := chk_inv hF2
  refine sS 22 (Ys_append (s := 3) (by' := 24) (i := 2) (nn := Gates.length) (c := c1) (k := 1) (len := (Gates ++ [(TGate.mk kind 0 0)]).length) (B := B1) (xs := ([(TGate.mk kind 0 0)].flatMap eN4)) (cs' := ((Gates ++ [(TGate.mk kind 0 0)]).flatMap eN4)) hS7 k_sl_37_70 k_sz_70_3 k_by_70_24 k_zero_70 rfl (by decide) rfl rfl rfl rfl (fm_lenn (l := Gates) enc_Gate_len rfl) rfl (hS7.cf (i := 3) rfl) (fm_lenn (l := [(TGate.mk kind 0 0)]) enc_Gate_len rfl) (fm_one' (enc := eN4) enc_Gate_one [(TGate.mk kind 0 0)]) (by have := hap; omega) (by have := hap; simp only [maxLen]; omega) (fm_app _ _) (app_len (l := Gates) (l' := [(TGate.mk kind 0 0)]) rfl rfl)) ?_
  rintro _ w_5 ⟨B2, c2, rfl, hS8⟩
  refine sQ 23 (Y_fieldAddr (B := aD b1) (i := 0) (s := 0) k_fd_39_1_1_37 k_sz_37_1 rfl (hf1.get 3 2 rfl)) ?_
  refine s0 (Ys_store (i := 1) (s := 1) (B := aD b1) (T' := 39) (v := .slice B2 ((Gates ++ [(TGate.mk kind 0 0)]).length) c2) (vs := [.slice B2 ((Gates ++ [(TGate.mk kind 0 0)]).length) c2]) (k := 1) (cs' := [vi 1, .slice B2 ((Gates ++ [(TGate.mk kind 0 0)]).length) c2]) hS8 k_sz_37_1 rfl rfl rfl rfl rfl rfl rfl (lB rfl) rfl rfl) ?_
  rintro _ w_6 ⟨rfl, hS9⟩
  refine rw_nil (cw_region ?_)
  refine sQ 11 (Y_move (v := vi (i1 : Int)) rfl (hf1.get 4 3 rfl)) ?_
  refine sQ 12 (Y_add (k := .i64) (a := (i1 : Int)) (b := 1) rfl rfl rfl) ?_
  refine sQ 4 (Y_assign (v := vi (i64.wrap ((i1 : Int) + 1))) rfl rfl) (rw_nil ?_)
  obtain rfl := some_inj hF2
  exact ⟨k_1, Nat.lt_succ_self _, i1 + 1, (Gates ++ [(TGate.mk kind 0 0)]), B2, c2, (FF.cons (hf1.get 0 0 rfl) (FF.cons (hf1.get 2 1 rfl) (FF.cons (hf1.get 3 2 rfl) (FF.cons (congrArg (Value.int .i64) (wr_succ hlt1 hN)) FF.nil)))), (hS9.sel [0, 1, 2] rfl rfl), (by omega), hL1⟩
 ·skip
  obtain rfl : k_ = 0 := by have h := of_decide_eq_false hlt; omega
  refine cw_exit rfl ?_
  obtain rfl := some_inj hL
  refine cw_seq (cw_region ?_)
  refine sQ 24 (Y_loadA (B := aD b1) (i := 0) (cs := [vi 1, .slice B1 Gates.length c1]) (vs := [vi 1, .slice B1 Gates.length c1]) k_ag_39 k_sz_39_2 rfl (hf.get 3 2 rfl) (hS4.cf (i := 1) rfl) rfl rfl) ?_
  obtain ⟨r_1, hc, hF1⟩ := bind_inv hF1
  refine sc 25 rfl rfl (Yc_func (g := 39) (vs := [.agg #[vi 1, .slice B1 Gates.length c1]]) k_call_39 rfl (mc rfl mn) (c_spec_l6Op (TCircuit.mk 1 Gates) B1 c1 Gates.length _ rfl (hS4.inn0 [(false, 2)] rfl) hc)) ?_
  rintro _ w_7 ⟨B3, c3, rfl, hd⟩
  have hS10 := hS4.out0 hd
  refine s0 (Ys_store (i := 0) (s := 3) (B := aD b) (T' := 48) (v := gM_ r_1 B3 c3) (vs := kM_ r_1 B3 c3) (k := 0) (cs' := kM_ r_1 B3 c3) hS10 k_sz_48_3 rfl (hf.get 2 1 rfl) rfl rfl rfl rfl rfl (lB rfl) rfl rfl) ?_
  rintro _ w_8 ⟨rfl, hS11⟩
  refine rw_nil (cw_ret ?_)
  obtain rfl := some_inj hF1
  exact ret1 Tryz.results57 (v1 := gM_ r_1 B3 c3) (resAt_cellA (B := aD b) (i := 0) (cs := kM_ r_1 B3 c3) (vs := kM_ r_1 B3 c3) (hf.get 2 1 rfl) k_ag_48 k_sz_48_3 (hS11.cf (i := 0) rfl) rfl rfl) ⟨B3, c3, rfl, (hS11.sN [3])⟩

theorem c_spec_l9Words   (w0 : World)  (hS : ST w0 [] w0 [] []) {r_ : List (List UInt8)} (hF : F_spec_l9Words = some r_) :
  CV Tryz.prog 55 #[] w0 (fun v w' => ∃ (B : Option Addr) (c : Nat), v = .slice B r_.length c ∧ ST w0 [] w' [⟨B, 9, (r_.flatMap encS), c * 1⟩] []) := by
 unfold F_spec_l9Words at hF
 refine cv_of_cw 61 Tryz.func55 rfl Tryz.ntmps55 rfl ?_
 refine cw_seq (cw_region ?_)
 refine sQ 0 (Y_assign (v := .slice none 0 0) rfl rfl) (rw_nil (cw_seq (cw_region ?_)))
 refine sQ 1 (Y_assign (v := .slice none 0 0) rfl rfl) (rw_nil (cw_seq (cw_region ?_)))
 refine sQ 2 (Y_assign (v := .slice none 0 0) rfl rfl) (rw_nil (cw_seq (cw_region ?_)))
 refine sS 12 (Ys_bslice (s := 1) (len := 1) (vs := [(0, .string (bstr ([] : List UInt8)))]) (cs := [.string (bstr ([] : List UInt8))]) (zs := [.string (bstr ([] : List UInt8))]) (m := 1) hS k_sl_57_9 k_sz_9_1 k_zc_9 rfl (mpc rfl mpn) rfl rfl rfl (by kernel_rfl) (by kernel_rfl) rfl) ?_
 rintro _ w_ ⟨b, rfl, hS1⟩
 refine sQ 3 (Y_assign (v := .slice (aD b) 1 1) rfl rfl) (rw_nil (cw_seq ?_))
 obtain ⟨z, hz, hF1⟩ := bind_inv hF
 have hS3 := hS1.addNil 9
 have hS4 := hS3.addNil 30
 have hS5 : ST w0 [] _ [⟨aD b, 9, ([([] : List UInt8)].flatMap encS), 1 * 1⟩, ⟨none, 9, ([].flatMap encS), 0 * 1⟩, ⟨none, 30, (([] : List (Hd × TBloch)).flatMap encD_Bloch), 0 * 1⟩] (((([] : List (Hd × TBloch)).flatMap rowD_Bloch) ++ [])) := ST.subR hS4 (suba fsub_nil (fun _ h => by cases h))
 refine cw_block ?_
 refine cw_loop (fun k f w => ∃ (words : List (List UInt8)) (seen : List TBloch) (level : List (List UInt8)) (B1 : Option Addr) (c1 : Nat) (B2 : Option Addr) (c2 : Nat) (D : List (Hd × TBloch)) (B3 : Option Addr) (c3 : Nat), FF f [(1, .slice B1 words.length c1), (2, .slice B2 seen.length c2), (3, .slice B3 level.length c3)] ∧ D.map Prod.snd = seen ∧ Org w0 [] [] (D.flatMap rowD_Bloch) ∧ ST w0 [] w [⟨B1, 9, (words.flatMap encS), c1 * 1⟩, ⟨B2, 30, (D.flatMap encD_Bloch), c2 * 1⟩, ⟨B3, 9, (level.flatMap encS), c3 * 1⟩] (((D.flatMap rowD_Bloch) ++ [])) ∧ whX F_spec_l9Words_l1 k (words, seen, level) = some z) fuel ⟨[], ([] : List TBloch), [([] : List UInt8)], none, 0, none, 0, ([] : List (Hd × TBloch)), aD b, 1, (FF.cons rfl (FF.cons rfl (FF.cons rfl FF.nil))), rfl, forg_nil, (hS5.sel [1, 2, 0] rfl rfl), hz⟩ ?_
 rintro k_ f w ⟨words, seen, level, B1, c1, B2, c2, D, B3, c3, hf, hD, ho, hS2, hL⟩
 obtain ⟨k_1, y, rfl, hb, hL1⟩ := whX_go hL
 unfold F_spec_l9Words_l1 at hb
 refine cw_seq (cw_seq (cw_region ?_))
 refine sQ 13 (Y_move (v := .slice B1 words.length c1) rfl (hf.get 1 0 rfl)) ?_
 refine sQ 14 (Y_len (B := B1) (m := words.length) (c := c1) k_sl_57_9 rfl rfl) ?_
 refine sQ 15 (Y_lt (k := .i64) (a := (words.length : Int)) (b := 24) rfl rfl rfl) (rw_nil ?_)
 refine cw_cond (b := (decide ((words.length : Int) < 24))) rfl (fun hb1 => ?_) (fun hb1 => ?_)
 ·skip
  have hF2 := ct hb hb1
  refine cw_skip (cw_block (cw_seq (cw_region ?_)))
  refine sQ 4 (Y_assign (v := .slice none 0 0) rfl rfl) (rw_nil (cw_seq (cw_seq (cw_region ?_))))
  refine sQ 16 (Y_move (v := .slice B3 level.length c3) rfl (hf.get 3 2 rfl)) ?_
  refine sQ 17 (Y_len (B := B3) (m := level.length) (c := c3) k_sl_57_9 rfl rfl) ?_
  refine sQ 18 (Y_move (v := vi 0) rfl rfl) (rw_nil ?_)
  obtain ⟨hN, hF2⟩ := chk_inv hF2
  obtain ⟨z1, hz1, hF3⟩ := bind_inv hF2
  have hS7 := hS2.addNil 9
  refine cw_block ?_
  refine cw_loop (fun k f w => ∃ (i : Nat) (words1 : List (List UInt8)) (seen1 : List TBloch) (next_ : List (List UInt8)) (B4 : Option Addr) (c4 : Nat) (B5 : Option Addr) (c5 : Nat) (D1 : List (Hd × TBloch)) (B6 : Option Addr) (c6 : Nat), FF f [(1, .slice B4 words1.length c4), (2, .slice B5 seen1.length c5), (4, .slice B6 next_.length c6), (16, .slice B3 level.length c3), (17, vi (level.length : Int)), (18, vi (i : Int))] ∧ D1.map Prod.snd = seen1 ∧ Org w0 [] [] (D1.flatMap rowD_Bloch) ∧ ST w0 [] w [⟨B4, 9, (words1.flatMap encS), c4 * 1⟩, ⟨B5, 30, (D1.flatMap encD_Bloch), c5 * 1⟩, ⟨B6, 9, (next_.flatMap encS), c6 * 1⟩, ⟨B3, 9, (level.flatMap encS), c3 * 1⟩] (((D1.flatMap rowD_Bloch) ++ [])) ∧ i + k = level.length ∧ forN (F_spec_l9Words_l2 level) k i (words1, seen1, next_) = some z1) level.length ⟨0, words, seen, [], B1, c1, B2, c2, D, none, 0, (FF.cons (hf.get 1 0 rfl) (FF.cons (hf.get 2 1 rfl) (FF.cons rfl (FF.cons rfl (FF.cons rfl (FF.cons rfl FF.nil)))))), hD, ho, (hS7.sel [0, 1, 3, 2] rfl rfl), Nat.zero_add _, hz1⟩ ?_
  rintro k_2 f w ⟨i, words1, seen1, next_, B4, c4, B5, c5, D1, B6, c6, hf1, hD1, ho1, hS6, hik1, hL2⟩
  refine cw_seq (cw_region ?_)
  refine sQ 19 (Y_lt (k := .i64) (a := (i : Int)) (b := (level.length : Int)) rfl (hf1.get 18 5 rfl) (hf1.get 17 4 rfl)) (rw_nil (cw_seq ?_))
  refine cw_cond (b := (decide ((i : Int) < (level.length : Int)))) rfl (fun hlt => ?_) (fun hlt => ?_)
  ·skip
   have hlt1 : i < level.length := by have h := of_decide_eq_true hlt; omega
   obtain ⟨k_3, rfl⟩ : ∃ k2, k_2 = k2 + 1 := ⟨k_2 - 1, by omega⟩
   obtain ⟨y1, hb2, hL3⟩ := forN_go hL2
   unfold F_spec_l9Words_l2 at hb2
   refine cw_skip (cw_seq ?_)
   obtain ⟨z2, hz2, hF4⟩ := bind_inv hb2
   refine cw_mid (fun f w => ∃ (words2 : List (List UInt8)) (seen2 : List TBloch) (next_1 : List (List UInt8)) (B7 : Option Addr) (c7 : Nat) (B8 : Option Addr) (c8 : Nat) (D2 : List (Hd × TBloch)) (B9 : Option Addr) (c9 : Nat), (words2, seen2, next_1) = z2 ∧ FF f [(1, .slice B7 words2.length c7), (2, .slice B8 seen2.length c8), (4, .slice B9 next_1.length c9), (16, .slice B3 level.length c3), (17, vi (level.length : Int)), (18, vi (i : Int))] ∧ D2.map Prod.snd = seen2 ∧ Org w0 [] [] (D2.flatMap rowD_Bloch) ∧ ST w0 [] w [⟨B7, 9, (words2.flatMap encS), c7 * 1⟩, ⟨B8, 30, (D2.flatMap encD_Bloch), c8 * 1⟩, ⟨B9, 9, (next_1.flatMap encS), c9 * 1⟩, ⟨B3, 9, (level.flatMap encS), c3 * 1⟩] (((D2.flatMap rowD_Bloch) ++ []))) ?_ ?_
   ·skip
    refine cw_block (cw_seq (cw_region ?_))
    obtain ⟨x, hx, hz2⟩ := bind_inv hz2
    refine sQ 20 (Y_index (B := B3) (m := level.length) (c := c3) (k := .i64) (i := (i : Int)) k_sl_57_9 k_sz_9_1 rfl (hf1.get 16 3 rfl) (hf1.get 18 5 rfl) (gi_isSome encS_len rfl (hS6.cf (i := 3) rfl) hx) (getI_nn hx) (getI_ltI hx rfl)) ?_
    refine sQ 21 (Y_load1 (B := B3) (i := (i : Int).toNat * 1) (cs := (level.flatMap encS)) (v := .string (bstr x)) k_sc_9 rfl rfl (hS6.cf (i := 3) rfl) (gi_at0 encS_len hx rfl)) ?_
    refine sQ 6 (Y_assign (v := .string (bstr x)) rfl rfl) (rw_nil (cw_seq (cw_region ?_)))
    refine sQ 23 (Y_move (v := .string (bstr x)) rfl rfl) ?_
    obtain ⟨r_1, hc, hz2⟩ := bind_inv hz2
    refine sc 24 rfl rfl (Yc_func (g := 57) (vs := [.string (bstr x)]) k_call_57 rfl (mc rfl mn) (c_spec_l9Word x _  (hS6.inn0 [] rfl) hc)) ?_
    rintro _ w_1 ⟨B10, c10, rfl, hd⟩
    have hS9 := hS6.out0 hd
    obtain ⟨⟨r_2, r_3⟩, hc1, hz2⟩ := bind_inv hz2
    refine sc 25 rfl rfl (Yc_func (g := 56) (vs := [gM_ r_1 B10 c10]) k_call_56 rfl (mc rfl mn) (c_spec_l9Bloch r_1 B10 c10 r_1.Cells.length _ rfl (hS9.inn0 [(false, 4)] rfl) hc1)) ?_
    rintro _ w_2 ⟨B11, c11, rfl, hd1⟩
    have hS10 := hS9.out0 hd1
    refine sQ 22 (Y_move (v := .tuple #[gB_ r_2 B11 c11, .bool r_3]) rfl rfl) ?_
    refine sQ 26 (Y_extract (v := gB_ r_2 B11 c11) rfl rfl rfl) ?_
    refine sQ 27 (Y_extract (v := .bool r_3) rfl rfl rfl) ?_
    refine sS 7 (Ys_alloc (T := 30) (cs := [.slice none 0 0]) (m := 1) hS10 k_zero_30 rfl rfl rfl) ?_
    rintro _ w_3 ⟨b1, rfl, hS11⟩
    refine s0 (Ys_store (i := 6) (s := 1) (B := aD b1) (T' := 30) (v := gB_ r_2 B11 c11) (vs := kB_ r_2 B11 c11) (k := 0) (cs' := kB_ r_2 B11 c11) hS11 k_sz_30_1 rfl rfl rfl rfl rfl rfl rfl (lB rfl) rfl rfl) ?_
    rintro _ w_4 ⟨rfl, hS12⟩
    refine sQ 8 (Y_assign (v := .bool r_3) rfl rfl) (rw_nil (cw_seq (cw_region ?_)))
    refine sQ 9 (Y_assign (v := .bool false) rfl rfl) (rw_nil (cw_seq (cw_seq (cw_region ?_))))
    refine sQ 28 (Y_move (v := .slice B5 seen1.length c5) rfl (hf1.get 2 1 rfl)) ?_
    refine sQ 29 (Y_len (B := B5) (m := seen1.length) (c := c5) k_sl_130_30 rfl rfl) ?_
    refine sQ 30 (Y_move (v := vi 0) rfl rfl) (rw_nil ?_)
    obtain ⟨hN1, hz2⟩ := chk_inv hz2
    obtain ⟨z3, hz3, hF5⟩ := bind_inv hz2
    refine cw_block ?_
    refine cw_loop (fun k f w => ∃ (i1 : Nat) (known : Bool) (D3 : List (Hd × TBloch)), FF f [(1, .slice B4 words1.length c4), (2, .slice B5 seen1.length c5), (4, .slice B6 next_.length c6), (6, .string (bstr x)), (7, pt (aD b1) 0), (9, .bool known), (16, .slice B3 level.length c3), (17, vi (level.length : Int)), (18, vi (i : Int)), (28, .slice B5 seen1.length c5), (29, vi (seen1.length : Int)), (30, vi (i1 : Int))] ∧ D3.map Prod.snd = seen1 ∧ Org w0 [] [] (D3.flatMap rowD_Bloch) ∧ ST w0 [] w [⟨B4, 9, (words1.flatMap encS), c4 * 1⟩, ⟨B5, 30, (D3.flatMap encD_Bloch), c5 * 1⟩, ⟨B6, 9, (next_.flatMap encS), c6 * 1⟩, ⟨aD b1, 30, kB_ r_2 B11 c11, 1⟩, ⟨B11, 65, (r_2.Cells.flatMap eN0), c11 * 5⟩, ⟨B3, 9, (level.flatMap encS), c3 * 1⟩] (((D3.flatMap rowD_Bloch) ++ [])) ∧ i1 + k = seen1.length ∧ forN (F_spec_l9Words_l3 seen1 r_2) k i1 known = some z3) seen1.length ⟨0, false, D1, (FF.cons (hf1.get 1 0 rfl) (FF.cons (hf1.get 2 1 rfl) (FF.cons (hf1.get 4 2 rfl) (FF.cons rfl (FF.cons rfl (FF.cons rfl (FF.cons (hf1.get 16 3 rfl) (FF.cons (hf1.get 17 4 rfl) (FF.cons (hf1.get 18 5 rfl) (FF.cons rfl (FF.cons rfl (FF.cons rfl FF.nil)))))))))))), hD1, ho1, (hS12.sel [0, 1, 2, 6, 5, 3] rfl rfl), Nat.zero_add _, hz3⟩ ?_
    rintro k_4 f w ⟨i1, known, D3, hf3, hD3, ho3, hS13, hik2, hL4⟩
    refine cw_seq (cw_region ?_)
    refine sQ 31 (Y_lt (k := .i64) (a := (i1 : Int)) (b := (seen1.length : Int)) rfl (hf3.get 30 11 rfl) (hf3.get 29 10 rfl)) (rw_nil (cw_seq ?_))
    refine cw_cond (b := (decide ((i1 : Int) < (seen1.length : Int)))) rfl (fun hlt2 => ?_) (fun hlt2 => ?_)
    ·skip
     have hlt3 : i1 < seen1.length := by have h := of_decide_eq_true hlt2; omega
     obtain ⟨k_5, rfl⟩ : ∃ k2, k_4 = k2 + 1 := ⟨k_4 - 1, by omega⟩
     obtain ⟨y2, hb3, hL5⟩ := forN_go hL4
     unfold F_spec_l9Words_l3 at hb3
     refine cw_skip (cw_seq (cw_block (cw_seq (cw_region ?_))))
     obtain ⟨x1, hx1, hb3⟩ := bind_inv hb3
     obtain ⟨⟨B12, c12⟩, hp⟩ := getI_snd hD3 hx1
     refine sQ 32 (Y_index (B := B5) (m := seen1.length) (c := c5) (k := .i64) (i := (i1 : Int)) k_sl_130_30 k_sz_30_1 rfl (hf3.get 28 9 rfl) (hf3.get 30 11 rfl) (gi_isSome encD_Bloch_len rfl (hS13.cf (i := 1) rfl) hp) (getI_nn hp) (getI_ltI hp (dl_len hD3))) ?_
     have hm : (⟨B12, (x1.Cells.flatMap eN0)⟩ : Ro) ∈ ((((D3.flatMap rowD_Bloch) ++ [])) : List Ro) := app_mem (fun r_ (h : r_ ∈ ((D3.flatMap rowD_Bloch) : List Ro)) => mOd (i := 0) (show r_ ∈ ((((D3.flatMap rowD_Bloch) ++ [])) : List Ro) from mAl _ h)) (row_mem (rw_ := rowD_Bloch) hp _ (mem_at (i := 0) rfl))
     have hS14 : ST w0 [] _ [⟨B4, 9, (words1.flatMap encS), c4 * 1⟩, ⟨B5, 30, (D3.flatMap encD_Bloch), c5 * 1⟩, ⟨B6, 9, (next_.flatMap encS), c6 * 1⟩, ⟨aD b1, 30, kB_ r_2 B11 c11, 1⟩, ⟨B11, 65, (r_2.Cells.flatMap eN0), c11 * 5⟩, ⟨B3, 9, (level.flatMap encS), c3 * 1⟩] (⟨B12, (x1.Cells.flatMap eN0)⟩ :: ((D3.flatMap rowD_Bloch) ++ [])) := ST.subR hS13 (subc hm (fun _ h => h))
     refine sQ 33 (Y_loadA (B := B5) (i := (i1 : Int).toNat * 1) (cs := (D3.flatMap encD_Bloch)) (vs := kB_ x1 B12 c12) k_ag_30 k_sz_30_1 rfl rfl (hS14.cf (i := 1) rfl) (encD_Bloch_len ((B12, c12), x1)) (gi_seg encD_Bloch_len hp)) ?_
     refine sS 11 (Ys_alloc (T := 30) (cs := [.slice none 0 0]) (m := 1) hS14 k_zero_30 rfl rfl rfl) ?_
     rintro _ w_5 ⟨b2, rfl, hS15⟩
     refine s0 (Ys_store (i := 6) (s := 1) (B := aD b2) (T' := 30) (v := gB_ x1 B12 c12) (vs := kB_ x1 B12 c12) (k := 0) (cs' := kB_ x1 B12 c12) hS15 k_sz_30_1 rfl rfl rfl rfl rfl rfl rfl (lB rfl) rfl rfl) ?_
     rintro _ w_6 ⟨rfl, hS16⟩
     refine rw_nil (cw_region ?_)
     refine sQ 34 (Y_move (v := .bool known) rfl (hf3.get 9 5 rfl)) ?_
     refine sQ 35 (Y_move (v := .bool known) rfl rfl) ?_
     refine sgq 36 (B := (!known)) (v := gB_ x1 B12 c12) rfl rfl (uF_ 35) (fun hg => (Y_loadA (B := aD b2) (i := 0) (cs := kB_ x1 B12 c12) (vs := kB_ x1 B12 c12) k_ag_30 k_sz_30_1 rfl rfl (hS16.cf (i := 6) rfl) rfl rfl)) ?_
     refine sgq 37 (B := (!known)) (v := gB_ r_2 B11 c11) rfl rfl (uF_ 35) (fun hg1 => (Y_loadA (B := aD b1) (i := 0) (cs := kB_ r_2 B11 c11) (vs := kB_ r_2 B11 c11) k_ag_30 k_sz_30_1 rfl (hf3.get 7 4 rfl) (hS16.cf (i := 3) rfl) rfl rfl)) ?_
     obtain ⟨r_4, hc2, hb3⟩ := bind_inv hb3
     refine sgc 38 (B := (!known)) (v := .bool r_4) (F := hS16.fn) rfl rfl (uF_ 35) hS16 (fun hg2 => (Yc_func (g := 52) (vs := [gB_ x1 B12 c12, gB_ r_2 B11 c11]) k_call_52 rfl (mc (gv_of (v := gB_ x1 B12 c12) hg2) (mc (gv_of (v := gB_ r_2 B11 c11) hg2) mn)) (CV.mono (c_spec_l9Same x1 r_2 B12 c12 x1.Cells.length B11 c11 r_2.Cells.length _ rfl rfl (hS16.inn0 [(true, 0), (false, 4)] rfl) (gb_inv hc2 hg2)) (by rintro _ _ ⟨rfl, h⟩; exact ⟨rfl, hS16.out00 h⟩)))) ?_
     rintro w_7 hS17
     refine sQ 39 (Y_or (b := known) (z := r_4) rfl rfl rfl rfl) ?_
     refine sQ 9 (Y_assign (v := .bool (known || r_4)) rfl rfl) (rw_nil (cw_region ?_))
     refine sQ 40 (Y_add (k := .i64) (a := (i1 : Int)) (b := 1) rfl (hf3.get 30 11 rfl) rfl) ?_
     refine sQ 30 (Y_move (v := vi (i64.wrap ((i1 : Int) + 1))) rfl rfl) (rw_nil ?_)
     obtain rfl := some_inj hb3
     have hS18 : ST w0 [] _ [⟨B4, 9, (words1.flatMap encS), c4 * 1⟩, ⟨B5, 30, (D3.flatMap encD_Bloch), c5 * 1⟩, ⟨B6, 9, (next_.flatMap encS), c6 * 1⟩, ⟨aD b1, 30, kB_ r_2 B11 c11, 1⟩, ⟨B11, 65, (r_2.Cells.flatMap eN0), c11 * 5⟩, ⟨B3, 9, (level.flatMap encS), c3 * 1⟩, ⟨aD b2, 30, kB_ x1 B12 c12, 1⟩] (((D3.flatMap rowD_Bloch) ++ [])) := ST.subR hS17 (suba (fun r_ (h : r_ ∈ ((D3.flatMap rowD_Bloch) : List Ro)) => mOd (i := 1) (show r_ ∈ ((((D3.flatMap rowD_Bloch) ++ [])) : List Ro) from mAl _ h)) (fun _ h => by cases h))
     exact ⟨k_5, Nat.lt_succ_self _, i1 + 1, (known || r_4), D3, (FF.cons (hf3.get 1 0 rfl) (FF.cons (hf3.get 2 1 rfl) (FF.cons (hf3.get 4 2 rfl) (FF.cons (hf3.get 6 3 rfl) (FF.cons (hf3.get 7 4 rfl) (FF.cons rfl (FF.cons (hf3.get 16 6 rfl) (FF.cons (hf3.get 17 7 rfl) (FF.cons (hf3.get 18 8 rfl) (FF.cons (hf3.get 28 9 rfl) (FF.cons (hf3.get 29 10 rfl) (FF.cons (congrArg (Value.int .i64) (wr_succ hlt3 hN1)) FF.nil)))))))))))), hD3, ho3, (hS18.sel [0, 1, 2, 3, 4, 5] rfl rfl), (by omega), hL5⟩
    ·skip
     obtain rfl : k_4 = 0 := by have h := of_decide_eq_false hlt2; omega
     refine cw_exit rfl ?_
     obtain rfl := some_inj hL4
     refine cw_seq (cw_region ?_)
     refine sQ 41 (Y_move (v := .bool known) rfl (hf3.get 9 5 rfl)) ?_
     refine sQ 42 (Y_not (p := known) rfl rfl) (rw_nil ?_)
     refine cw_cond (b := (!known)) rfl (fun hb4 => ?_) (fun hb4 => ?_)
     ·skip
      have hF6 := ct hF5 hb4
      refine cw_seq (cw_region ?_)
      refine sQ 43 (Y_move (v := .slice B4 words1.length c4) rfl (hf3.get 1 0 rfl)) ?_
      refine sQ 44 (Y_move (v := .string (bstr x)) rfl (hf3.get 6 3 rfl)) ?_
      refine sS 45 (Ys_bslice (s := 1) (len := 1) (vs := [(0, .string (bstr x))]) (cs := [.string (bstr x)]) (zs := [.string (bstr ([] : List UInt8))]) (m := 1) hS13 k_sl_57_9 k_sz_9_1 k_zc_9 rfl (mpc rfl mpn) rfl rfl rfl (by kernel_rfl) (by kernel_rfl) rfl) ?_
      rintro _ w_8 ⟨b3, rfl, hS19⟩
      obtain ⟨hap, hF6⟩ := chk_inv hF6
      refine sS 46 (Ys_append (s := 1) (by' := 16) (i := 0) (nn := words1.length) (c := c4) (k := 1) (len := (words1 ++ [x]).length) (B := B4) (xs := ([x].flatMap encS)) (cs' := ((words1 ++ [x]).flatMap encS)) hS19 k_sl_57_9 k_sz_9_1 k_by_9_16 k_zero_9 rfl (by decide) rfl rfl rfl rfl (fm_lenn (l := words1) encS_len rfl) rfl (hS19.cf (i := 6) rfl) (fm_lenn (l := [x]) encS_len rfl) (fm_one' (enc := encS) encS_one [x]) (by have := hap; omega) (by have := hap; simp only [maxLen]; omega) (fm_app _ _) (app_len (l := words1) (l' := [x]) rfl rfl)) ?_
      rintro _ w_9 ⟨B13, c13, rfl, hS20⟩
      refine sQ 1 (Y_assign (v := .slice B13 ((words1 ++ [x]).length) c13) rfl rfl) (rw_nil (cw_seq (cw_region ?_)))
      refine sQ 47 (Y_move (v := .slice B5 seen1.length c5) rfl (hf3.get 2 1 rfl)) ?_
      refine sQ 48 (Y_loadA (B := aD b1) (i := 0) (cs := kB_ r_2 B11 c11) (vs := kB_ r_2 B11 c11) k_ag_30 k_sz_30_1 rfl (hf3.get 7 4 rfl) (hS20.cf (i := 3) rfl) rfl rfl) ?_
      have ho4 : Org w0 [] [] [⟨B11, (r_2.Cells.flatMap eN0)⟩] := ST.orgOwn hS20 (i := 4) rfl
      have hcap : r_2.Cells.length ≤ c11 := (hS20.lencap (i := 4) rfl (fm_lenn (l := r_2.Cells) eN2 rfl) rfl rfl)
      have hS21 : ST w0 [] _ [⟨B13, 9, ((words1 ++ [x]).flatMap encS), c13 * 1⟩, ⟨B5, 30, (D3.flatMap encD_Bloch), c5 * 1⟩, ⟨B6, 9, (next_.flatMap encS), c6 * 1⟩, ⟨aD b1, 30, kB_ r_2 B11 c11, 1⟩, ⟨B3, 9, (level.flatMap encS), c3 * 1⟩, ⟨aD b3, 9, ([x].flatMap encS), 1 * 1⟩] (⟨B11, (r_2.Cells.flatMap eN0)⟩ :: ((D3.flatMap rowD_Bloch) ++ [])) := hS20.freeze (i := 4) rfl
      refine sS 49 (Ys_bslice (s := 1) (len := 1) (vs := [(0, gB_ r_2 B11 c11)]) (cs := kB_ r_2 B11 c11) (zs := [.slice none 0 0]) (m := 1) hS21 k_sl_130_30 k_sz_30_1 k_zc_30 rfl (mpc rfl mpn) rfl rfl rfl (by kernel_rfl) (by kernel_rfl) rfl) ?_
      rintro _ w_10 ⟨b4, rfl, hS22⟩
      have hm1 : ∀ r ∈ (([((B11, c11), r_2)] : List (Hd × TBloch)).flatMap rowD_Bloch), r ∈ ((⟨B11, (r_2.Cells.flatMap eN0)⟩ :: ((D3.flatMap rowD_Bloch) ++ [])) : List Ro) := (fsub_cons (subc (mem_at (i := 0) rfl) (fun _ h => by cases h)) fsub_nil)
      have ho5 : Org w0 [] [] (([((B11, c11), r_2)] : List (Hd × TBloch)).flatMap rowD_Bloch) := (forg_cons (org_cons ho4 org_nil) forg_nil)
      have hS23 : ST w0 [] _ [⟨B13, 9, ((words1 ++ [x]).flatMap encS), c13 * 1⟩, ⟨B5, 30, (D3.flatMap encD_Bloch), c5 * 1⟩, ⟨B6, 9, (next_.flatMap encS), c6 * 1⟩, ⟨aD b1, 30, kB_ r_2 B11 c11, 1⟩, ⟨B3, 9, (level.flatMap encS), c3 * 1⟩, ⟨aD b3, 9, ([x].flatMap encS), 1 * 1⟩, ⟨aD b4, 30, (([((B11, c11), r_2)] : List (Hd × TBloch)).flatMap encD_Bloch), 1 * 1⟩] (⟨B11, (r_2.Cells.flatMap eN0)⟩ :: ((([((B11, c11), r_2)] : List (Hd × TBloch)).flatMap rowD_Bloch) ++ ((D3.flatMap rowD_Bloch) ++ []))) := ST.subR hS22 (subc (mem_at (i := 0) rfl) (suba hm1 (suba (fun r_ (h : r_ ∈ ((D3.flatMap rowD_Bloch) : List Ro)) => mOd (i := 1) (show r_ ∈ ((((D3.flatMap rowD_Bloch) ++ [])) : List Ro) from mAl _ h)) (fun _ h => by cases h))))
      obtain ⟨hap1, hF6⟩ := chk_inv hF6
      refine sS 50 (Ys_append (s := 1) (by' := 24) (i := 1) (nn := seen1.length) (c := c5) (k := 1) (len := (seen1 ++ ([r_2] : List TBloch)).length) (B := B5) (xs := (([((B11, c11), r_2)] : List (Hd × TBloch)).flatMap encD_Bloch)) (cs' := ((D3 ++ ([((B11, c11), r_2)] : List (Hd × TBloch))).flatMap encD_Bloch)) hS23 k_sl_130_30 k_sz_30_1 k_by_30_24 k_zero_30 rfl (by decide) rfl rfl rfl rfl (fm_lenn (l := D3) encD_Bloch_len (dl_len hD3)) rfl (hS23.cf (i := 6) rfl) (fm_lenn (l := ([((B11, c11), r_2)] : List (Hd × TBloch))) encD_Bloch_len rfl) (fm_one' (enc := encD_Bloch) encD_Bloch_one ([((B11, c11), r_2)] : List (Hd × TBloch))) (by have := hap1; omega) (by have := hap1; simp only [maxLen]; omega) (fm_app _ _) (dl_sum (dl_len hD3) rfl (dl_app hD3 (show List.map Prod.snd ([((B11, c11), r_2)] : List (Hd × TBloch)) = ([r_2] : List TBloch) from rfl)))) ?_
      rintro _ w_11 ⟨B14, c14, rfl, hS24⟩
      have ho6 : Org w0 [] [] ((D3 ++ ([((B11, c11), r_2)] : List (Hd × TBloch))).flatMap rowD_Bloch) := (forg_app ho3 ho5)
      have hS25 : ST w0 [] _ [⟨B13, 9, ((words1 ++ [x]).flatMap encS), c13 * 1⟩, ⟨B14, 30, ((D3 ++ ([((B11, c11), r_2)] : List (Hd × TBloch))).flatMap encD_Bloch), c14 * 1⟩, ⟨B6, 9, (next_.flatMap encS), c6 * 1⟩, ⟨aD b1, 30, kB_ r_2 B11 c11, 1⟩, ⟨B3, 9, (level.flatMap encS), c3 * 1⟩, ⟨aD b3, 9, ([x].flatMap encS), 1 * 1⟩, ⟨aD b4, 30, (([((B11, c11), r_2)] : List (Hd × TBloch)).flatMap encD_Bloch), 1 * 1⟩] (⟨B11, (r_2.Cells.flatMap eN0)⟩ :: (((D3 ++ ([((B11, c11), r_2)] : List (Hd × TBloch))).flatMap rowD_Bloch) ++ ((([((B11, c11), r_2)] : List (Hd × TBloch)).flatMap rowD_Bloch) ++ []))) := ST.subR hS24 (subc (mem_at (i := 0) rfl) (suba (fsub_app (fun r_ (h : r_ ∈ ((D3.flatMap rowD_Bloch) : List Ro)) => mOd (i := 1) (show r_ ∈ ((((([((B11, c11), r_2)] : List (Hd × TBloch)).flatMap rowD_Bloch) ++ ((D3.flatMap rowD_Bloch) ++ []))) : List Ro) from mAr _ (mAl _ h))) (fun r_ (h : r_ ∈ ((([((B11, c11), r_2)] : List (Hd × TBloch)).flatMap rowD_Bloch) : List Ro)) => mOd (i := 1) (show r_ ∈ ((((([((B11, c11), r_2)] : List (Hd × TBloch)).flatMap rowD_Bloch) ++ ((D3.flatMap rowD_Bloch) ++ []))) : List Ro) from mAl _ h))) (suba (fun r_ (h : r_ ∈ ((([((B11, c11), r_2)] : List (Hd × TBloch)).flatMap rowD_Bloch) : List Ro)) => mOd (i := 1) (show r_ ∈ ((((([((B11, c11), r_2)] : List (Hd × TBloch)).flatMap rowD_Bloch) ++ ((D3.flatMap rowD_Bloch) ++ []))) : List Ro) from mAl _ h)) (fun _ h => by cases h))))
      refine sQ 2 (Y_assign (v := .slice B14 ((seen1 ++ ([r_2] : List TBloch)).length) c14) rfl rfl) (rw_nil (cw_region ?_))
      refine sQ 51 (Y_move (v := .slice B6 next_.length c6) rfl (hf3.get 4 2 rfl)) ?_
      refine sQ 52 (Y_move (v := .string (bstr x)) rfl (hf3.get 6 3 rfl)) ?_
      obtain ⟨hsa, hF6⟩ := chk_inv hF6
      refine sQ 53 (Y_sadd (a := x) (b := ([72] : List UInt8)) rfl rfl rfl hsa) ?_
      refine sQ 54 (Y_move (v := .string (bstr x)) rfl (hf3.get 6 3 rfl)) ?_
      obtain ⟨hsa1, hF6⟩ := chk_inv hF6
      refine sQ 55 (Y_sadd (a := x) (b := ([83] : List UInt8)) rfl rfl rfl hsa1) ?_
      refine sS 56 (Ys_bslice (s := 1) (len := 2) (vs := [(0, .string (bstr (x ++ ([72] : List UInt8)))), (1, .string (bstr (x ++ ([83] : List UInt8))))]) (cs := [.string (bstr (x ++ ([72] : List UInt8))), .string (bstr (x ++ ([83] : List UInt8)))]) (zs := [.string (bstr ([] : List UInt8)), .string (bstr ([] : List UInt8))]) (m := 2) hS25 k_sl_57_9 k_sz_9_1 k_zc_9 rfl (mpc rfl (mpc rfl mpn)) rfl rfl rfl (by kernel_rfl) (by kernel_rfl) rfl) ?_
      rintro _ w_12 ⟨b5, rfl, hS26⟩
      obtain ⟨hap2, hF6⟩ := chk_inv hF6
      refine sS 57 (Ys_append (s := 1) (by' := 16) (i := 2) (nn := next_.length) (c := c6) (k := 2) (len := (next_ ++ [(x ++ ([72] : List UInt8)), (x ++ ([83] : List UInt8))]).length) (B := B6) (xs := ([(x ++ ([72] : List UInt8)), (x ++ ([83] : List UInt8))].flatMap encS)) (cs' := ((next_ ++ [(x ++ ([72] : List UInt8)), (x ++ ([83] : List UInt8))]).flatMap encS)) hS26 k_sl_57_9 k_sz_9_1 k_by_9_16 k_zero_9 rfl (by decide) rfl rfl rfl rfl (fm_lenn (l := next_) encS_len rfl) rfl (hS26.cf (i := 7) rfl) (fm_lenn (l := [(x ++ ([72] : List UInt8)), (x ++ ([83] : List UInt8))]) encS_len rfl) (fm_one' (enc := encS) encS_one [(x ++ ([72] : List UInt8)), (x ++ ([83] : List UInt8))]) (by have := hap2; omega) (by have := hap2; simp only [maxLen]; omega) (fm_app _ _) (app_len (l := next_) (l' := [(x ++ ([72] : List UInt8)), (x ++ ([83] : List UInt8))]) rfl rfl)) ?_
      rintro _ w_13 ⟨B15, c15, rfl, hS27⟩
      refine sQ 4 (Y_assign (v := .slice B15 ((next_ ++ [(x ++ ([72] : List UInt8)), (x ++ ([83] : List UInt8))]).length) c15) rfl rfl) (rw_nil ?_)
      have hS28 : ST w0 [] _ [⟨B13, 9, ((words1 ++ [x]).flatMap encS), c13 * 1⟩, ⟨B14, 30, ((D3 ++ ([((B11, c11), r_2)] : List (Hd × TBloch))).flatMap encD_Bloch), c14 * 1⟩, ⟨B15, 9, ((next_ ++ [(x ++ ([72] : List UInt8)), (x ++ ([83] : List UInt8))]).flatMap encS), c15 * 1⟩, ⟨aD b1, 30, kB_ r_2 B11 c11, 1⟩, ⟨B3, 9, (level.flatMap encS), c3 * 1⟩, ⟨aD b3, 9, ([x].flatMap encS), 1 * 1⟩, ⟨aD b4, 30, (([((B11, c11), r_2)] : List (Hd × TBloch)).flatMap encD_Bloch), 1 * 1⟩, ⟨aD b5, 9, ([(x ++ ([72] : List UInt8)), (x ++ ([83] : List UInt8))].flatMap encS), 2 * 1⟩] ((((D3 ++ ([((B11, c11), r_2)] : List (Hd × TBloch))).flatMap rowD_Bloch) ++ [])) := ST.subR hS27 (suba (fun r_ (h : r_ ∈ (((D3 ++ ([((B11, c11), r_2)] : List (Hd × TBloch))).flatMap rowD_Bloch) : List Ro)) => mOd (i := 1) (show r_ ∈ (((((D3 ++ ([((B11, c11), r_2)] : List (Hd × TBloch))).flatMap rowD_Bloch) ++ ((([((B11, c11), r_2)] : List (Hd × TBloch)).flatMap rowD_Bloch) ++ []))) : List Ro) from mAl _ h)) (fun _ h => by cases h))
      exact ⟨(words1 ++ [x]), (seen1 ++ ([r_2] : List TBloch)), (next_ ++ [(x ++ ([72] : List UInt8)), (x ++ ([83] : List UInt8))]), B13, c13, B14, c14, (D3 ++ ([((B11, c11), r_2)] : List (Hd × TBloch))), B15, c15, (some_inj hF6), (FF.cons rfl (FF.cons rfl (FF.cons rfl (FF.cons (hf3.get 16 6 rfl) (FF.cons (hf3.get 17 7 rfl) (FF.cons (hf3.get 18 8 rfl) FF.nil)))))), (dl_app hD3 (show List.map Prod.snd ([((B11, c11), r_2)] : List (Hd × TBloch)) = ([r_2] : List TBloch) from rfl)), ho6, (hS28.sel [0, 1, 2, 4] rfl rfl)⟩
     ·skip
      have hF7 := cf' hF5 hb4
      refine cw_skip ?_
      exact ⟨words1, seen1, next_, B4, c4, B5, c5, D3, B6, c6, (some_inj hF7), (FF.cons (hf3.get 1 0 rfl) (FF.cons (hf3.get 2 1 rfl) (FF.cons (hf3.get 4 2 rfl) (FF.cons (hf3.get 16 6 rfl) (FF.cons (hf3.get 17 7 rfl) (FF.cons (hf3.get 18 8 rfl) FF.nil)))))), hD3, ho3, (hS13.sel [0, 1, 2, 5] rfl rfl)⟩
   rintro f w ⟨words2, seen2, next_1, B7, c7, B8, c8, D2, B9, c9, rfl, hf2, hD2, ho2, hS8⟩
   refine cw_region ?_
   refine sQ 58 (Y_add (k := .i64) (a := (i : Int)) (b := 1) rfl (hf2.get 18 5 rfl) rfl) ?_
   refine sQ 18 (Y_move (v := vi (i64.wrap ((i : Int) + 1))) rfl rfl) (rw_nil ?_)
   obtain rfl := some_inj hF4
   exact ⟨k_3, Nat.lt_succ_self _, i + 1, words2, seen2, next_1, B7, c7, B8, c8, D2, B9, c9, (FF.cons (hf2.get 1 0 rfl) (FF.cons (hf2.get 2 1 rfl) (FF.cons (hf2.get 4 2 rfl) (FF.cons (hf2.get 16 3 rfl) (FF.cons (hf2.get 17 4 rfl) (FF.cons (congrArg (Value.int .i64) (wr_succ hlt1 hN)) FF.nil)))))), hD2, ho2, (hS8.sel [0, 1, 2, 3] rfl rfl), (by omega), hL3⟩
  ·skip
   obtain rfl : k_2 = 0 := by have h := of_decide_eq_false hlt; omega
   refine cw_exit rfl ?_
   obtain rfl := some_inj hL2
   refine cw_region ?_
   refine sQ 59 (Y_move (v := .slice B6 next_.length c6) rfl (hf1.get 4 2 rfl)) ?_
   refine sQ 3 (Y_assign (v := .slice B6 next_.length c6) rfl rfl) (rw_nil ?_)
   obtain rfl := some_inj hF3
   exact ⟨k_1, Nat.lt_succ_self _, words1, seen1, next_, B4, c4, B5, c5, D1, B6, c6, (FF.cons (hf1.get 1 0 rfl) (FF.cons (hf1.get 2 1 rfl) (FF.cons rfl FF.nil))), hD1, ho1, (hS6.sel [0, 1, 2] rfl rfl), hL1⟩
 ·skip
  have hF8 := cf' hb hb1
  refine cw_exit rfl ?_
  obtain rfl := some_inj hF8
  obtain rfl := some_inj hL1
  refine cw_seq (cw_region ?_)
  refine sQ 60 (Y_move (v := .slice B1 words.length c1) rfl (hf.get 1 0 rfl)) ?_
  refine sQ 0 (Y_assign (v := .slice B1 words.length c1) rfl rfl) (rw_nil (cw_ret ?_))
  obtain rfl := some_inj hF1
  exact ret1 Tryz.results55 (v1 := .slice B1 words.length c1) (resAt_tmp rfl) ⟨B1, c1, rfl, (hS2.sN [0])⟩

theorem c_spec_l10Gates (b : Int)  (w0 : World)  (hS : ST w0 [] w0 [] []) {r_ : List TGate} (hF : F_spec_l10Gates b = some r_) :
  CV Tryz.prog 72 #[.int .u8 b] w0 (fun v w' => ∃ (B : Option Addr) (c : Nat), v = .slice B r_.length c ∧ ST w0 [] w' [⟨B, 70, (r_.flatMap eN4), c * 3⟩] []) := by
 unfold F_spec_l10Gates at hF
 refine cv_of_cw 19 Tryz.func72 rfl Tryz.ntmps72 rfl ?_
 refine cw_seq (cw_region ?_)
 refine sQ 2 (Y_assign (v := .slice none 0 0) rfl rfl) (rw_nil (cw_seq (cw_region ?_)))
 refine sQ 4 (Y_buildS (zs := [vi 0, vi 0, vi 0]) (vs := [(0, vi 7)]) (cs := [vi 7, vi 0, vi 0]) k_pl_70 k_zero_70 rfl (mpc rfl mpn) rfl) ?_
 refine sS 5 (Ys_bslice (s := 3) (len := 1) (vs := [(0, .agg #[vi 7, vi 0, vi 0])]) (cs := [vi 7, vi 0, vi 0]) (zs := [vi 0, vi 0, vi 0]) (m := 3) hS k_sl_37_70 k_sz_70_3 k_zc_70 rfl (mpc rfl mpn) rfl rfl rfl (by kernel_rfl) (by kernel_rfl) rfl) ?_
 rintro _ w_ ⟨b1, rfl, hS1⟩
 refine sQ 3 (Y_assign (v := .slice (aD b1) 1 1) rfl rfl) (rw_nil (cw_seq ?_))
 obtain ⟨z, hz, hF1⟩ := bind_inv hF
 refine cw_mid (fun f w => ∃ (l : List TGate) (B1 : Option Addr) (c1 : Nat), l = z ∧ FF f [(0, .int .u8 b), (3, .slice B1 l.length c1)] ∧ ST w0 [] w [⟨B1, 70, (l.flatMap eN4), c1 * 3⟩] []) ?_ ?_
 ·skip
  refine cw_seq (cw_region ?_)
  refine sQ 6 (Y_move (v := .int .u8 b) rfl rfl) ?_
  refine sQ 7 (Y_ne (k := .u8) (a := b) (b := 84) rfl rfl rfl) (rw_nil ?_)
  refine cw_cond (b := (b != 84)) rfl (fun hb => ?_) (fun hb => ?_)
  ·skip
   have hF2 := ct hz hb
   refine cw_region ?_
   refine sQ 8 (Y_move (v := .slice (aD b1) 1 1) rfl rfl) ?_
   refine sQ 9 (Y_buildS (zs := [vi 0, vi 0, vi 0]) (vs := [(0, vi 1)]) (cs := [vi 1, vi 0, vi 0]) k_pl_70 k_zero_70 rfl (mpc rfl mpn) rfl) ?_
   refine sS 10 (Ys_bslice (s := 3) (len := 1) (vs := [(0, .agg #[vi 1, vi 0, vi 0])]) (cs := [vi 1, vi 0, vi 0]) (zs := [vi 0, vi 0, vi 0]) (m := 3) hS1 k_sl_37_70 k_sz_70_3 k_zc_70 rfl (mpc rfl mpn) rfl rfl rfl (by kernel_rfl) (by kernel_rfl) rfl) ?_
   rintro _ w_1 ⟨b2, rfl, hS3⟩
   have hS3 : ST w0 [] _ [⟨aD b1, 70, ([(TGate.mk 7 0 0)].flatMap eN4), 1 * 3⟩, ⟨aD b2, 70, ([(TGate.mk 1 0 0)].flatMap eN4), 1 * 3⟩] [] := hS3
   refine sS 11 (Ys_append (s := 3) (by' := 24) (i := 0) (nn := 1) (c := 1) (k := 1) (len := 2) (B := aD b1) (xs := ([(TGate.mk 1 0 0)].flatMap eN4)) (cs' := (([(TGate.mk 7 0 0)] ++ [(TGate.mk 1 0 0)]).flatMap eN4)) hS3 k_sl_37_70 k_sz_70_3 k_by_70_24 k_zero_70 rfl (by decide) rfl rfl rfl rfl (fm_lenn (l := [(TGate.mk 7 0 0)]) enc_Gate_len rfl) rfl (hS3.cf (i := 1) rfl) (fm_lenn (l := [(TGate.mk 1 0 0)]) enc_Gate_len rfl) (fm_one' (enc := eN4) enc_Gate_one [(TGate.mk 1 0 0)]) (by have := (show 1 + 1 ≤ 1099511627776 by decide); omega) (by have := (show 1 + 1 ≤ 1099511627776 by decide); simp only [maxLen]; omega) (fm_app _ _) rfl) ?_
   rintro _ w_2 ⟨B2, c2, rfl, hS4⟩
   have hS4 : ST w0 [] _ [⟨B2, 70, (([(TGate.mk 7 0 0)] ++ [(TGate.mk 1 0 0)]).flatMap eN4), c2 * 3⟩, ⟨aD b2, 70, ([(TGate.mk 1 0 0)].flatMap eN4), 1 * 3⟩] [] := hS4
   refine sQ 3 (Y_assign (v := .slice B2 2 c2) rfl rfl) (rw_nil ?_)
   exact ⟨([(TGate.mk 7 0 0)] ++ [(TGate.mk 1 0 0)]), B2, c2, (some_inj hF2), (FF.cons rfl (FF.cons (sl_len (by simp) rfl) FF.nil)), (hS4.sel [0] rfl rfl)⟩
  ·skip
   have hF3 := cf' hz hb
   refine cw_skip ?_
   exact ⟨[(TGate.mk 7 0 0)], aD b1, 1, (some_inj hF3), (FF.cons rfl (FF.cons rfl FF.nil)), (hS1.sel [0] rfl rfl)⟩
 rintro f w ⟨l, B1, c1, rfl, hf, hS2⟩
 refine cw_seq ?_
 obtain ⟨z1, hz1, hF4⟩ := bind_inv hF1
 refine cw_mid (fun f w => ∃ (l1 : List TGate) (B3 : Option Addr) (c3 : Nat), l1 = z1 ∧ FF f [(3, .slice B3 l1.length c3)] ∧ ST w0 [] w [⟨B3, 70, (l1.flatMap eN4), c3 * 3⟩] []) ?_ ?_
 ·skip
  refine cw_seq (cw_region ?_)
  refine sQ 12 (Y_move (v := .int .u8 b) rfl (hf.get 0 0 rfl)) ?_
  refine sQ 13 (Y_eq (k := .u8) (a := b) (b := 83) rfl rfl rfl) (rw_nil ?_)
  refine cw_cond (b := (b == 83)) rfl (fun hb1 => ?_) (fun hb1 => ?_)
  ·skip
   have hF5 := ct hz1 hb1
   refine cw_region ?_
   refine sQ 14 (Y_move (v := .slice B1 l.length c1) rfl (hf.get 3 1 rfl)) ?_
   refine sQ 15 (Y_buildS (zs := [vi 0, vi 0, vi 0]) (vs := [(0, vi 5)]) (cs := [vi 5, vi 0, vi 0]) k_pl_70 k_zero_70 rfl (mpc rfl mpn) rfl) ?_
   refine sS 16 (Ys_bslice (s := 3) (len := 1) (vs := [(0, .agg #[vi 5, vi 0, vi 0])]) (cs := [vi 5, vi 0, vi 0]) (zs := [vi 0, vi 0, vi 0]) (m := 3) hS2 k_sl_37_70 k_sz_70_3 k_zc_70 rfl (mpc rfl mpn) rfl rfl rfl (by kernel_rfl) (by kernel_rfl) rfl) ?_
   rintro _ w_3 ⟨b3, rfl, hS6⟩
   have hS6 : ST w0 [] _ [⟨B1, 70, (l.flatMap eN4), c1 * 3⟩, ⟨aD b3, 70, ([(TGate.mk 5 0 0)].flatMap eN4), 1 * 3⟩] [] := hS6
   obtain ⟨hap, hF5⟩ := chk_inv hF5
   refine sS 17 (Ys_append (s := 3) (by' := 24) (i := 0) (nn := l.length) (c := c1) (k := 1) (len := (l ++ [(TGate.mk 5 0 0)]).length) (B := B1) (xs := ([(TGate.mk 5 0 0)].flatMap eN4)) (cs' := ((l ++ [(TGate.mk 5 0 0)]).flatMap eN4)) hS6 k_sl_37_70 k_sz_70_3 k_by_70_24 k_zero_70 rfl (by decide) rfl rfl rfl rfl (fm_lenn (l := l) enc_Gate_len rfl) rfl (hS6.cf (i := 1) rfl) (fm_lenn (l := [(TGate.mk 5 0 0)]) enc_Gate_len rfl) (fm_one' (enc := eN4) enc_Gate_one [(TGate.mk 5 0 0)]) (by have := hap; omega) (by have := hap; simp only [maxLen]; omega) (fm_app _ _) (app_len (l := l) (l' := [(TGate.mk 5 0 0)]) rfl rfl)) ?_
   rintro _ w_4 ⟨B4, c4, rfl, hS7⟩
   have hS7 : ST w0 [] _ [⟨B4, 70, ((l ++ [(TGate.mk 5 0 0)]).flatMap eN4), c4 * 3⟩, ⟨aD b3, 70, ([(TGate.mk 5 0 0)].flatMap eN4), 1 * 3⟩] [] := hS7
   refine sQ 3 (Y_assign (v := .slice B4 ((l ++ [(TGate.mk 5 0 0)]).length) c4) rfl rfl) (rw_nil ?_)
   exact ⟨(l ++ [(TGate.mk 5 0 0)]), B4, c4, (some_inj hF5), (FF.cons rfl FF.nil), (hS7.sel [0] rfl rfl)⟩
  ·skip
   have hF6 := cf' hz1 hb1
   refine cw_skip ?_
   exact ⟨l, B1, c1, (some_inj hF6), (FF.cons (hf.get 3 1 rfl) FF.nil), (hS2.sel [0] rfl rfl)⟩
 rintro f w ⟨l1, B3, c3, rfl, hf1, hS5⟩
 refine cw_seq (cw_region ?_)
 refine sQ 18 (Y_move (v := .slice B3 l1.length c3) rfl (hf1.get 3 0 rfl)) ?_
 refine sQ 2 (Y_assign (v := .slice B3 l1.length c3) rfl rfl) (rw_nil (cw_ret ?_))
 obtain rfl := some_inj hF4
 exact ret1 Tryz.results72 (v1 := .slice B3 l1.length c3) (resAt_tmp rfl) ⟨B3, c3, rfl, (hS5.sN [0])⟩

theorem c_spec_l10Circuit (f_ : TNormalForm)  (w0 : World)  (hS : ST w0 [] w0 [] []) {r_ : TCircuit} (hF : F_spec_l10Circuit f_ = some r_) :
  CV Tryz.prog 32 #[.agg #[.string (bstr f_.Syllables), vi f_.Clifford, vi f_.Phase]] w0 (fun v w' => ∃ (B : Option Addr) (c : Nat), v = .agg #[vi r_.Qubits, .slice B r_.Gates.length c] ∧ ST w0 [] w' [⟨B, 70, (r_.Gates.flatMap eN4), c * 3⟩] []) := by
 unfold F_spec_l10Circuit at hF
 refine cv_of_cw 62 Tryz.func32 rfl Tryz.ntmps32 rfl ?_
 refine cw_seq (cw_region ?_)
 refine sS 1 (Ys_box (T := 42) (v := .agg #[.string (bstr f_.Syllables), vi f_.Clifford, vi f_.Phase]) (cs := [.string (bstr f_.Syllables), vi f_.Clifford, vi f_.Phase]) (m := 3) hS rfl rfl rfl rfl) ?_
 rintro _ w_ ⟨b, rfl, hS1⟩
 refine sS 2 (Ys_alloc (T := 39) (cs := [vi 0, .slice none 0 0]) (m := 2) hS1 k_zero_39 rfl rfl rfl) ?_
 rintro _ w_1 ⟨b1, rfl, hS2⟩
 refine rw_nil (cw_seq (cw_region ?_))
 refine sQ 9 (Y_buildS (zs := [vi 0, .slice none 0 0]) (vs := [(0, vi 1)]) (cs := [vi 1, .slice none 0 0]) k_pl_39 k_zero_39 rfl (mpc rfl mpn) rfl) ?_
 refine sS 3 (Ys_alloc (T := 39) (cs := [vi 0, .slice none 0 0]) (m := 2) hS2 k_zero_39 rfl rfl rfl) ?_
 rintro _ w_2 ⟨b2, rfl, hS3⟩
 refine s0 (Ys_store (i := 2) (s := 2) (B := aD b2) (T' := 39) (v := .agg #[vi 1, .slice none 0 0]) (vs := [vi 1, .slice none 0 0]) (k := 0) (cs' := [vi 1, .slice none 0 0]) hS3 k_sz_39_2 rfl rfl rfl rfl rfl rfl rfl (lB rfl) rfl rfl) ?_
 rintro _ w_3 ⟨rfl, hS4⟩
 refine rw_nil (cw_seq ?_)
 obtain ⟨r_1, hc, hF⟩ := bind_inv hF
 obtain ⟨x, hx, hF⟩ := bind_inv hF
 refine ra_start (hS4.se [0, 1, 2]).fn (by kernel_rfl) ?_
 have hS6 := hS4.drew
 refine rq 1 11 (v := pt (aD b) 1) rfl (hS6.se [0, 1, 2]) (fun w' hw' => (Y_fieldAddr (B := aD b) (i := 0) (s := 0) k_fd_42_1_1_3 k_sz_3_1 rfl rfl)) ?_
 refine rq 2 12 (v := vi f_.Clifford) rfl (hS6.se [0, 1, 2]) (fun w' hw' => (Y_load1 (B := aD b) (i := 1) (cs := [.string (bstr f_.Syllables), vi f_.Clifford, vi f_.Phase]) (v := vi f_.Clifford) k_sc_3 rfl rfl (ST.cf hw' (i := 0) rfl) rfl)) ?_
 refine rA [0] ?_
 refine ra_c 10 (i := 0) rfl rfl rfl (Yc_func (g := 55) (vs := []) k_call_55 rfl mn (c_spec_l9Words  _  (hS6.inn0 [] rfl) hc)) ?_ ?_
 ·rintro _ w_4 ⟨B1, c1, rfl, hd⟩
  have hS7 := hS6.out0 hd
  refine ⟨(hS7.se [0, 1, 2]), ?_⟩
  refine rA [3] ?_
  refine ra_y 13 (i := 3) (v := pt B1 (f_.Clifford.toNat * 1)) rfl rfl rfl (Y_index (B := B1) (m := r_1.length) (c := c1) (k := .i64) (i := f_.Clifford) k_sl_57_9 k_sz_9_1 rfl rfl rfl (gi_isSome encS_len rfl (hS7.cf (i := 3) rfl) hx) (getI_nn hx) (getI_ltI hx rfl)) (hS7.se [0, 1, 2]) ?_ ?_
  ·skip
   refine rA [4] ?_
   refine ra_y 14 (i := 4) (v := .string (bstr x)) rfl rfl rfl (Y_load1 (B := B1) (i := f_.Clifford.toNat * 1) (cs := (r_1.flatMap encS)) (v := .string (bstr x)) k_sc_9 rfl rfl (hS7.cf (i := 3) rfl) (gi_at0 encS_len hx rfl)) (hS7.se [0, 1, 2]) ?_ ?_
   ·skip
    refine rq 5 4 (v := .string (bstr x)) rfl (hS7.se [0, 1, 2]) (fun w' hw' => (Y_assign (v := .string (bstr x)) rfl rfl)) ?_
    refine ra_done (by kernel_rfl) ?_
    refine cw_seq (cw_seq (cw_region ?_))
    refine sQ 5 (Y_assign (v := vi 0) rfl rfl) (rw_nil ?_)
    obtain ⟨hN, hF⟩ := chk_inv hF
    obtain ⟨z, hz, hF1⟩ := bind_inv hF
    have hS9 := hS7.addNil 70
    refine cw_block ?_
    refine cw_loop (fun k f w => ∃ (i1 : Nat) (Gates : List TGate) (B2 : Option Addr) (c2 : Nat), FF f [(1, pt (aD b) 0), (2, pt (aD b1) 0), (3, pt (aD b2) 0), (4, .string (bstr x)), (5, vi (i1 : Int))] ∧ ST w0 [] w [⟨aD b, 42, [.string (bstr f_.Syllables), vi f_.Clifford, vi f_.Phase], 3⟩, ⟨aD b1, 39, [vi 0, .slice none 0 0], 2⟩, ⟨aD b2, 39, [vi 1, .slice B2 Gates.length c2], 2⟩, ⟨B2, 70, (Gates.flatMap eN4), c2 * 3⟩] [] ∧ i1 + k = x.length ∧ forN (F_spec_l10Circuit_l1 x) k i1 Gates = some z) x.length ⟨0, [], none, 0, (FF.cons rfl (FF.cons rfl (FF.cons rfl (FF.cons rfl (FF.cons rfl FF.nil))))), (hS9.sel [0, 1, 2, 4] rfl rfl), Nat.zero_add _, hz⟩ ?_
    rintro k_ f w ⟨i1, Gates, B2, c2, hf, hS8, hik, hL⟩
    refine cw_seq (cw_seq (cw_region ?_))
    refine sQ 15 (Y_move (v := vi (i1 : Int)) rfl (hf.get 5 4 rfl)) ?_
    refine sQ 16 (Y_move (v := .string (bstr x)) rfl (hf.get 4 3 rfl)) ?_
    refine sQ 17 (Y_slen (a := x) k_str_9 rfl rfl) ?_
    refine sQ 18 (Y_lt (k := .i64) (a := (i1 : Int)) (b := (x.length : Int)) rfl rfl rfl) (rw_nil ?_)
    refine cw_cond (b := (decide ((i1 : Int) < (x.length : Int)))) rfl (fun hlt => ?_) (fun hlt => ?_)
    ·skip
     have hlt1 : i1 < x.length := by have h := of_decide_eq_true hlt; omega
     obtain ⟨k_1, rfl⟩ : ∃ k2, k_ = k2 + 1 := ⟨k_ - 1, by omega⟩
     obtain ⟨y, hb, hL1⟩ := forN_go hL
     unfold F_spec_l10Circuit_l1 at hb
     refine cw_skip (cw_seq (cw_block (cw_seq (cw_region ?_))))
     refine sQ 6 (Y_assign (v := vi 1) rfl rfl) (rw_nil (cw_seq ?_))
     obtain ⟨z1, hz1, hF2⟩ := bind_inv hb
     refine cw_mid (fun f w => ∃ (kind : Int), kind = z1 ∧ FF f [(1, pt (aD b) 0), (2, pt (aD b1) 0), (3, pt (aD b2) 0), (4, .string (bstr x)), (5, vi (i1 : Int)), (6, vi kind)] ∧ ST w0 [] w [⟨aD b, 42, [.string (bstr f_.Syllables), vi f_.Clifford, vi f_.Phase], 3⟩, ⟨aD b1, 39, [vi 0, .slice none 0 0], 2⟩, ⟨aD b2, 39, [vi 1, .slice B2 Gates.length c2], 2⟩, ⟨B2, 70, (Gates.flatMap eN4), c2 * 3⟩] []) ?_ ?_
     ·skip
      refine cw_seq (cw_region ?_)
      refine sQ 21 (Y_move (v := .string (bstr x)) rfl (hf.get 4 3 rfl)) ?_
      refine sQ 22 (Y_move (v := vi (i1 : Int)) rfl (hf.get 5 4 rfl)) ?_
      obtain ⟨x1, hx1, hz1⟩ := bind_inv hz1
      refine sQ 23 (Y_sidx (a := x) (k := .i64) (i := (i1 : Int)) (b := x1) k_str_9 rfl rfl rfl hx1) ?_
      refine sQ 24 (Y_eq (k := .u8) (a := (x1.toNat : Int)) (b := 83) rfl rfl rfl) (rw_nil ?_)
      refine cw_cond (b := ((x1.toNat : Int) == 83)) rfl (fun hb1 => ?_) (fun hb1 => ?_)
      ·skip
       have hF3 := ct hz1 hb1
       refine cw_region ?_
       refine sQ 6 (Y_assign (v := vi 5) rfl rfl) (rw_nil ?_)
       exact ⟨5, (some_inj hF3), (FF.cons (hf.get 1 0 rfl) (FF.cons (hf.get 2 1 rfl) (FF.cons (hf.get 3 2 rfl) (FF.cons (hf.get 4 3 rfl) (FF.cons (hf.get 5 4 rfl) (FF.cons rfl FF.nil)))))), (hS8.sel [0, 1, 2, 3] rfl rfl)⟩
      ·skip
       have hF4 := cf' hz1 hb1
       refine cw_skip ?_
       exact ⟨1, (some_inj hF4), (FF.cons (hf.get 1 0 rfl) (FF.cons (hf.get 2 1 rfl) (FF.cons (hf.get 3 2 rfl) (FF.cons (hf.get 4 3 rfl) (FF.cons (hf.get 5 4 rfl) (FF.cons rfl FF.nil)))))), (hS8.sel [0, 1, 2, 3] rfl rfl)⟩
     rintro f w ⟨kind, rfl, hf1, hS10⟩
     refine cw_region ?_
     refine sQ 25 (Y_fieldAddr (B := aD b2) (i := 0) (s := 0) k_fd_39_1_1_37 k_sz_37_1 rfl (hf1.get 3 2 rfl)) ?_
     refine sQ 26 (Y_load1 (B := aD b2) (i := 1) (cs := [vi 1, .slice B2 Gates.length c2]) (v := .slice B2 Gates.length c2) k_sc_37 rfl rfl (hS10.cf (i := 2) rfl) rfl) ?_
     refine sQ 27 (Y_move (v := vi kind) rfl (hf1.get 6 5 rfl)) ?_
     refine sQ 28 (Y_buildS (zs := [vi 0, vi 0, vi 0]) (vs := [(0, vi kind)]) (cs := [vi kind, vi 0, vi 0]) k_pl_70 k_zero_70 rfl (mpc rfl mpn) rfl) ?_
     refine sS 29 (Ys_bslice (s := 3) (len := 1) (vs := [(0, .agg #[vi kind, vi 0, vi 0])]) (cs := [vi kind, vi 0, vi 0]) (zs := [vi 0, vi 0, vi 0]) (m := 3) hS10 k_sl_37_70 k_sz_70_3 k_zc_70 rfl (mpc rfl mpn) rfl rfl rfl (by kernel_rfl) (by kernel_rfl) rfl) ?_
     rintro _ w_5 ⟨b3, rfl, hS11⟩
     obtain ⟨hap, hF2⟩ := chk_inv hF2
     refine sS 30 (Ys_append (s := 3) (by' := 24) (i := 3) (nn := Gates.length) (c := c2) (k := 1) (len := (Gates ++ [(TGate.mk kind 0 0)]).length) (B := B2) (xs := ([(TGate.mk kind 0 0)].flatMap eN4)) (cs' := ((Gates ++ [(TGate.mk kind 0 0)]).flatMap eN4)) hS11 k_sl_37_70 k_sz_70_3 k_by_70_24 k_zero_70 rfl (by decide) rfl rfl rfl rfl (fm_lenn (l := Gates) enc_Gate_len rfl) rfl (hS11.cf (i := 4) rfl) (fm_lenn (l := [(TGate.mk kind 0 0)]) enc_Gate_len rfl) (fm_one' (enc := eN4) enc_Gate_one [(TGate.mk kind 0 0)]) (by have := hap; omega) (by have := hap; simp only [maxLen]; omega) (fm_app _ _) (app_len (l := Gates) (l' := [(TGate.mk kind 0 0)]) rfl rfl)) ?_
     rintro _ w_6 ⟨B3, c3, rfl, hS12⟩
     refine sQ 31 (Y_fieldAddr (B := aD b2) (i := 0) (s := 0) k_fd_39_1_1_37 k_sz_37_1 rfl (hf1.get 3 2 rfl)) ?_
     refine s0 (Ys_store (i := 2) (s := 1) (B := aD b2) (T' := 39) (v := .slice B3 ((Gates ++ [(TGate.mk kind 0 0)]).length) c3) (vs := [.slice B3 ((Gates ++ [(TGate.mk kind 0 0)]).length) c3]) (k := 1) (cs' := [vi 1, .slice B3 ((Gates ++ [(TGate.mk kind 0 0)]).length) c3]) hS12 k_sz_37_1 rfl rfl rfl rfl rfl rfl rfl (lB rfl) rfl rfl) ?_
     rintro _ w_7 ⟨rfl, hS13⟩
     refine rw_nil (cw_region ?_)
     refine sQ 19 (Y_move (v := vi (i1 : Int)) rfl (hf1.get 5 4 rfl)) ?_
     refine sQ 20 (Y_add (k := .i64) (a := (i1 : Int)) (b := 1) rfl rfl rfl) ?_
     refine sQ 5 (Y_assign (v := vi (i64.wrap ((i1 : Int) + 1))) rfl rfl) (rw_nil ?_)
     obtain rfl := some_inj hF2
     exact ⟨k_1, Nat.lt_succ_self _, i1 + 1, (Gates ++ [(TGate.mk kind 0 0)]), B3, c3, (FF.cons (hf1.get 1 0 rfl) (FF.cons (hf1.get 2 1 rfl) (FF.cons (hf1.get 3 2 rfl) (FF.cons (hf1.get 4 3 rfl) (FF.cons (congrArg (Value.int .i64) (wr_succ hlt1 hN)) FF.nil))))), (hS13.sel [0, 1, 2, 3] rfl rfl), (by omega), hL1⟩
    ·skip
     obtain rfl : k_ = 0 := by have h := of_decide_eq_false hlt; omega
     refine cw_exit rfl ?_
     obtain rfl := some_inj hL
     refine cw_seq (cw_seq (cw_region ?_))
     refine sQ 32 (Y_fieldAddr (B := aD b) (i := 0) (s := 0) k_fd_42_0_0_9 k_sz_9_1 rfl (hf.get 1 0 rfl)) ?_
     refine sQ 33 (Y_load1 (B := aD b) (i := 0) (cs := [.string (bstr f_.Syllables), vi f_.Clifford, vi f_.Phase]) (v := .string (bstr f_.Syllables)) k_sc_9 rfl rfl (hS8.cf (i := 0) rfl) rfl) ?_
     refine sQ 34 (Y_slen (a := f_.Syllables) k_str_9 rfl rfl) ?_
     refine sQ 35 (Y_sub (k := .i64) (a := (f_.Syllables.length : Int)) (b := 1) rfl rfl rfl) ?_
     refine sQ 7 (Y_assign (v := vi (i64.wrap ((f_.Syllables.length : Int) - 1))) rfl rfl) (rw_nil ?_)
     obtain ⟨z2, hz2, hF5⟩ := bind_inv hF1
     refine cw_block ?_
     refine cw_loop (fun k f w => ∃ (Gates1 : List TGate) (i2 : Int) (B4 : Option Addr) (c4 : Nat), FF f [(1, pt (aD b) 0), (2, pt (aD b1) 0), (3, pt (aD b2) 0), (7, vi i2)] ∧ ST w0 [] w [⟨aD b, 42, [.string (bstr f_.Syllables), vi f_.Clifford, vi f_.Phase], 3⟩, ⟨aD b1, 39, [vi 0, .slice none 0 0], 2⟩, ⟨aD b2, 39, [vi 1, .slice B4 Gates1.length c4], 2⟩, ⟨B4, 70, (Gates1.flatMap eN4), c4 * 3⟩] [] ∧ whX (F_spec_l10Circuit_l2 f_) k (Gates1, i2) = some z2) fuel ⟨Gates, (i64.wrap ((f_.Syllables.length : Int) - 1)), B2, c2, (FF.cons (hf.get 1 0 rfl) (FF.cons (hf.get 2 1 rfl) (FF.cons (hf.get 3 2 rfl) (FF.cons rfl FF.nil)))), (hS8.sel [0, 1, 2, 3] rfl rfl), hz2⟩ ?_
     rintro k_2 f w ⟨Gates1, i2, B4, c4, hf2, hS14, hL2⟩
     obtain ⟨k_3, y1, rfl, hb2, hL3⟩ := whX_go hL2
     unfold F_spec_l10Circuit_l2 at hb2
     refine cw_seq (cw_seq (cw_region ?_))
     refine sQ 36 (Y_move (v := vi i2) rfl (hf2.get 7 3 rfl)) ?_
     refine sQ 37 (Y_ge (k := .i64) (a := i2) (b := 0) rfl rfl rfl) (rw_nil ?_)
     refine cw_cond (b := (decide (0 ≤ i2))) rfl (fun hb3 => ?_) (fun hb3 => ?_)
     ·skip
      have hF6 := ct hb2 hb3
      refine cw_skip (cw_seq (cw_block ?_))
      obtain ⟨x2, hx2, hF6⟩ := bind_inv hF6
      obtain ⟨r_2, hc1, hF6⟩ := bind_inv hF6
      obtain ⟨hap1, hF6⟩ := chk_inv hF6
      refine cw_mid (fun f w => ∃ (B7 : Option Addr) (c7 : Nat), FF f [(1, pt (aD b) 0), (2, pt (aD b1) 0), (3, pt (aD b2) 0), (7, vi i2)] ∧ ST w0 [] w [⟨aD b, 42, [.string (bstr f_.Syllables), vi f_.Clifford, vi f_.Phase], 3⟩, ⟨aD b1, 39, [vi 0, .slice none 0 0], 2⟩, ⟨aD b2, 39, [vi 1, .slice B7 ((Gates1 ++ r_2).length) c7], 2⟩, ⟨B7, 70, ((Gates1 ++ r_2).flatMap eN4), c7 * 3⟩] []) ?_ ?_
      ·skip
       refine ra_start (hS14.se [0, 1]).fn (by kernel_rfl) ?_
       have hS17 := hS14.drew
       refine rq 0 40 (v := pt (aD b2) 1) rfl (hS17.se [0, 1]) (fun w' hw' => (Y_fieldAddr (B := aD b2) (i := 0) (s := 0) k_fd_39_1_1_37 k_sz_37_1 rfl (hf2.get 3 2 rfl))) ?_
       refine rq 2 42 (v := pt (aD b) 0) rfl (hS17.se [0, 1]) (fun w' hw' => (Y_fieldAddr (B := aD b) (i := 0) (s := 0) k_fd_42_0_0_9 k_sz_9_1 rfl (hf2.get 1 0 rfl))) ?_
       refine rq 3 43 (v := .string (bstr f_.Syllables)) rfl (hS17.se [0, 1]) (fun w' hw' => (Y_load1 (B := aD b) (i := 0) (cs := [.string (bstr f_.Syllables), vi f_.Clifford, vi f_.Phase]) (v := .string (bstr f_.Syllables)) k_sc_9 rfl rfl (ST.cf hw' (i := 0) rfl) rfl)) ?_
       refine rq 4 44 (v := vi i2) rfl (hS17.se [0, 1]) (fun w' hw' => (Y_move (v := vi i2) rfl (hf2.get 7 3 rfl))) ?_
       refine rq 5 45 (v := .int .u8 (x2.toNat : Int)) rfl (hS17.se [0, 1]) (fun w' hw' => (Y_sidx (a := f_.Syllables) (k := .i64) (i := i2) (b := x2) k_str_9 rfl rfl rfl hx2)) ?_
       refine rA [1, 6] ?_
       refine ra_y 41 (i := 1) (v := .slice B4 Gates1.length c4) rfl rfl rfl (Y_load1 (B := aD b2) (i := 1) (cs := [vi 1, .slice B4 Gates1.length c4]) (v := .slice B4 Gates1.length c4) k_sc_37 rfl rfl (hS17.cf (i := 2) rfl) rfl) (hS17.se [0, 1]) ?_ ?_
       ·skip
        refine rA [6] ?_
        refine ra_c 46 (i := 6) rfl rfl rfl (Yc_func (g := 72) (vs := [.int .u8 (x2.toNat : Int)]) k_call_72 rfl (mc rfl mn) (c_spec_l10Gates (x2.toNat : Int) _  (hS17.inn0 [] rfl) hc1)) ?_ ?_
        ·rintro _ w_8 ⟨B5, c5, rfl, hd1⟩
         have hS18 := hS17.out0 hd1
         refine ⟨(hS18.se [0, 1]), ?_⟩
         refine rA [7] ?_
         refine ra_s 47 (i := 7) rfl rfl rfl (Ys_append (s := 3) (by' := 24) (i := 3) (nn := Gates1.length) (c := c4) (k := r_2.length) (len := (Gates1 ++ r_2).length) (B := B4) (xs := (r_2.flatMap eN4)) (cs' := ((Gates1 ++ r_2).flatMap eN4)) hS18 k_sl_37_70 k_sz_70_3 k_by_70_24 k_zero_70 rfl (by decide) rfl rfl rfl rfl (fm_lenn (l := Gates1) enc_Gate_len rfl) rfl (hS18.cf (i := 4) rfl) (fm_lenn (l := r_2) enc_Gate_len rfl) (fm_one' (enc := eN4) enc_Gate_one r_2) (by have := hap1; omega) (by have := hap1; simp only [maxLen]; omega) (fm_app _ _) (app_len (l := Gates1) (l' := r_2) rfl rfl)) ?_ ?_
         ·rintro _ w_9 ⟨B6, c6, rfl, hS19⟩
          refine ⟨(hS19.se [0, 1]), ?_⟩
          refine rq 8 48 (v := pt (aD b2) 1) rfl (hS19.se [0, 1]) (fun w' hw' => (Y_fieldAddr (B := aD b2) (i := 0) (s := 0) k_fd_39_1_1_37 k_sz_37_1 rfl (hf2.get 3 2 rfl))) ?_
          refine rA [9] ?_
          refine ra_s0 (i := 9) rfl rfl rfl (Ys_store (i := 2) (s := 1) (B := aD b2) (T' := 39) (v := .slice B6 ((Gates1 ++ r_2).length) c6) (vs := [.slice B6 ((Gates1 ++ r_2).length) c6]) (k := 1) (cs' := [vi 1, .slice B6 ((Gates1 ++ r_2).length) c6]) hS19 k_sz_37_1 rfl rfl rfl rfl rfl rfl rfl (lB rfl) rfl rfl) ?_ ?_
          ·rintro _ w_10 ⟨rfl, hS20⟩
           refine ⟨(hS20.se [0, 1]), ?_⟩
           refine ra_done (by kernel_rfl) ?_
           exact ⟨B6, c6, (FF.cons (hf2.get 1 0 rfl) (FF.cons (hf2.get 2 1 rfl) (FF.cons (hf2.get 3 2 rfl) (FF.cons (hf2.get 7 3 rfl) FF.nil)))), (hS20.sel [0, 1, 2, 3] rfl rfl)⟩
          exact allR_nil
         exact allR_nil
        exact allR_nil
       refine ra_c 46 (i := 6) rfl rfl rfl (Yc_func (g := 72) (vs := [.int .u8 (x2.toNat : Int)]) k_call_72 rfl (mc rfl mn) (c_spec_l10Gates (x2.toNat : Int) _  (hS17.inn0 [] rfl) hc1)) ?_ ?_
       ·rintro _ w_11 ⟨B5, c5, rfl, hd2⟩
        have hS21 := hS17.out0 hd2
        refine ⟨(hS21.se [0, 1]), ?_⟩
        refine rA [1] ?_
        refine ra_y 41 (i := 1) (v := .slice B4 Gates1.length c4) rfl rfl rfl (Y_load1 (B := aD b2) (i := 1) (cs := [vi 1, .slice B4 Gates1.length c4]) (v := .slice B4 Gates1.length c4) k_sc_37 rfl rfl (hS21.cf (i := 2) rfl) rfl) (hS21.se [0, 1]) ?_ ?_
        ·skip
         refine rA [7] ?_
         refine ra_s 47 (i := 7) rfl rfl rfl (Ys_append (s := 3) (by' := 24) (i := 3) (nn := Gates1.length) (c := c4) (k := r_2.length) (len := (Gates1 ++ r_2).length) (B := B4) (xs := (r_2.flatMap eN4)) (cs' := ((Gates1 ++ r_2).flatMap eN4)) hS21 k_sl_37_70 k_sz_70_3 k_by_70_24 k_zero_70 rfl (by decide) rfl rfl rfl rfl (fm_lenn (l := Gates1) enc_Gate_len rfl) rfl (hS21.cf (i := 4) rfl) (fm_lenn (l := r_2) enc_Gate_len rfl) (fm_one' (enc := eN4) enc_Gate_one r_2) (by have := hap1; omega) (by have := hap1; simp only [maxLen]; omega) (fm_app _ _) (app_len (l := Gates1) (l' := r_2) rfl rfl)) ?_ ?_
         ·rintro _ w_12 ⟨B6, c6, rfl, hS22⟩
          refine ⟨(hS22.se [0, 1]), ?_⟩
          refine rq 8 48 (v := pt (aD b2) 1) rfl (hS22.se [0, 1]) (fun w' hw' => (Y_fieldAddr (B := aD b2) (i := 0) (s := 0) k_fd_39_1_1_37 k_sz_37_1 rfl (hf2.get 3 2 rfl))) ?_
          refine rA [9] ?_
          refine ra_s0 (i := 9) rfl rfl rfl (Ys_store (i := 2) (s := 1) (B := aD b2) (T' := 39) (v := .slice B6 ((Gates1 ++ r_2).length) c6) (vs := [.slice B6 ((Gates1 ++ r_2).length) c6]) (k := 1) (cs' := [vi 1, .slice B6 ((Gates1 ++ r_2).length) c6]) hS22 k_sz_37_1 rfl rfl rfl rfl rfl rfl rfl (lB rfl) rfl rfl) ?_ ?_
          ·rintro _ w_13 ⟨rfl, hS23⟩
           refine ⟨(hS23.se [0, 1]), ?_⟩
           refine ra_done (by kernel_rfl) ?_
           exact ⟨B6, c6, (FF.cons (hf2.get 1 0 rfl) (FF.cons (hf2.get 2 1 rfl) (FF.cons (hf2.get 3 2 rfl) (FF.cons (hf2.get 7 3 rfl) FF.nil)))), (hS23.sel [0, 1, 2, 3] rfl rfl)⟩
          exact allR_nil
         exact allR_nil
        exact allR_nil
       exact allR_nil
      rintro f w ⟨B7, c7, hf3, hS16⟩
      refine cw_region ?_
      refine sQ 38 (Y_move (v := vi i2) rfl (hf3.get 7 3 rfl)) ?_
      refine sQ 39 (Y_sub (k := .i64) (a := i2) (b := 1) rfl rfl rfl) ?_
      refine sQ 7 (Y_assign (v := vi (i64.wrap (i2 - 1))) rfl rfl) (rw_nil ?_)
      obtain rfl := some_inj hF6
      exact ⟨k_3, Nat.lt_succ_self _, (Gates1 ++ r_2), (i64.wrap (i2 - 1)), B7, c7, (FF.cons (hf3.get 1 0 rfl) (FF.cons (hf3.get 2 1 rfl) (FF.cons (hf3.get 3 2 rfl) (FF.cons rfl FF.nil)))), (hS16.sel [0, 1, 2, 3] rfl rfl), hL3⟩
     ·skip
      have hF7 := cf' hb2 hb3
      refine cw_exit rfl ?_
      obtain rfl := some_inj hF7
      obtain rfl := some_inj hL3
      refine cw_seq (cw_seq (cw_region ?_))
      refine sQ 8 (Y_assign (v := vi 0) rfl rfl) (rw_nil ?_)
      obtain ⟨hN1, hF5⟩ := chk_inv hF5
      obtain ⟨z3, hz3, hF8⟩ := bind_inv hF5
      refine cw_block ?_
      refine cw_loop (fun k f w => ∃ (i4 : Nat) (Gates2 : List TGate) (B8 : Option Addr) (c8 : Nat), FF f [(1, pt (aD b) 0), (2, pt (aD b1) 0), (3, pt (aD b2) 0), (8, vi (i4 : Int))] ∧ ST w0 [] w [⟨aD b, 42, [.string (bstr f_.Syllables), vi f_.Clifford, vi f_.Phase], 3⟩, ⟨aD b1, 39, [vi 0, .slice none 0 0], 2⟩, ⟨aD b2, 39, [vi 1, .slice B8 Gates2.length c8], 2⟩, ⟨B8, 70, (Gates2.flatMap eN4), c8 * 3⟩] [] ∧ i4 + k = f_.Phase.toNat ∧ forN F_spec_l10Circuit_l3 k i4 Gates2 = some z3) f_.Phase.toNat ⟨0, Gates1, B4, c4, (FF.cons (hf2.get 1 0 rfl) (FF.cons (hf2.get 2 1 rfl) (FF.cons (hf2.get 3 2 rfl) (FF.cons rfl FF.nil)))), (hS14.sel [0, 1, 2, 3] rfl rfl), Nat.zero_add _, hz3⟩ ?_
      rintro k_4 f w ⟨i4, Gates2, B8, c8, hf4, hS24, hik2, hL4⟩
      refine cw_seq (cw_seq (cw_region ?_))
      refine sQ 49 (Y_move (v := vi (i4 : Int)) rfl (hf4.get 8 3 rfl)) ?_
      refine sQ 50 (Y_fieldAddr (B := aD b) (i := 0) (s := 0) k_fd_42_2_2_3 k_sz_3_1 rfl (hf4.get 1 0 rfl)) ?_
      refine sQ 51 (Y_load1 (B := aD b) (i := 2) (cs := [.string (bstr f_.Syllables), vi f_.Clifford, vi f_.Phase]) (v := vi f_.Phase) k_sc_3 rfl rfl (hS24.cf (i := 0) rfl) rfl) ?_
      refine sQ 52 (Y_lt (k := .i64) (a := (i4 : Int)) (b := f_.Phase) rfl rfl rfl) (rw_nil ?_)
      refine cw_cond (b := (decide ((i4 : Int) < f_.Phase))) rfl (fun hlt2 => ?_) (fun hlt2 => ?_)
      ·skip
       have hlt3 : i4 < f_.Phase.toNat := by have h := of_decide_eq_true hlt2; omega
       obtain ⟨k_5, rfl⟩ : ∃ k2, k_4 = k2 + 1 := ⟨k_4 - 1, by omega⟩
       obtain ⟨y2, hb4, hL5⟩ := forN_go hL4
       unfold F_spec_l10Circuit_l3 at hb4
       refine cw_skip (cw_seq (cw_block (cw_region ?_)))
       refine sQ 55 (Y_fieldAddr (B := aD b2) (i := 0) (s := 0) k_fd_39_1_1_37 k_sz_37_1 rfl (hf4.get 3 2 rfl)) ?_
       refine sQ 56 (Y_load1 (B := aD b2) (i := 1) (cs := [vi 1, .slice B8 Gates2.length c8]) (v := .slice B8 Gates2.length c8) k_sc_37 rfl rfl (hS24.cf (i := 2) rfl) rfl) ?_
       refine sQ 57 (Y_buildS (zs := [vi 0, vi 0, vi 0]) (vs := [(0, vi 12)]) (cs := [vi 12, vi 0, vi 0]) k_pl_70 k_zero_70 rfl (mpc rfl mpn) rfl) ?_
       refine sS 58 (Ys_bslice (s := 3) (len := 1) (vs := [(0, .agg #[vi 12, vi 0, vi 0])]) (cs := [vi 12, vi 0, vi 0]) (zs := [vi 0, vi 0, vi 0]) (m := 3) hS24 k_sl_37_70 k_sz_70_3 k_zc_70 rfl (mpc rfl mpn) rfl rfl rfl (by kernel_rfl) (by kernel_rfl) rfl) ?_
       rintro _ w_14 ⟨b4, rfl, hS25⟩
       have hS25 : ST w0 [] _ [⟨aD b, 42, [.string (bstr f_.Syllables), vi f_.Clifford, vi f_.Phase], 3⟩, ⟨aD b1, 39, [vi 0, .slice none 0 0], 2⟩, ⟨aD b2, 39, [vi 1, .slice B8 Gates2.length c8], 2⟩, ⟨B8, 70, (Gates2.flatMap eN4), c8 * 3⟩, ⟨aD b4, 70, ([(TGate.mk 12 0 0)].flatMap eN4), 1 * 3⟩] [] := hS25
       obtain ⟨hap2, hb4⟩ := chk_inv hb4
       refine sS 59 (Ys_append (s := 3) (by' := 24) (i := 3) (nn := Gates2.length) (c := c8) (k := 1) (len := (Gates2 ++ [(TGate.mk 12 0 0)]).length) (B := B8) (xs := ([(TGate.mk 12 0 0)].flatMap eN4)) (cs' := ((Gates2 ++ [(TGate.mk 12 0 0)]).flatMap eN4)) hS25 k_sl_37_70 k_sz_70_3 k_by_70_24 k_zero_70 rfl (by decide) rfl rfl rfl rfl (fm_lenn (l := Gates2) enc_Gate_len rfl) rfl (hS25.cf (i := 4) rfl) (fm_lenn (l := [(TGate.mk 12 0 0)]) enc_Gate_len rfl) (fm_one' (enc := eN4) enc_Gate_one [(TGate.mk 12 0 0)]) (by have := hap2; omega) (by have := hap2; simp only [maxLen]; omega) (fm_app _ _) (app_len (l := Gates2) (l' := [(TGate.mk 12 0 0)]) rfl rfl)) ?_
       rintro _ w_15 ⟨B9, c9, rfl, hS26⟩
       have hS26 : ST w0 [] _ [⟨aD b, 42, [.string (bstr f_.Syllables), vi f_.Clifford, vi f_.Phase], 3⟩, ⟨aD b1, 39, [vi 0, .slice none 0 0], 2⟩, ⟨aD b2, 39, [vi 1, .slice B8 Gates2.length c8], 2⟩, ⟨B9, 70, ((Gates2 ++ [(TGate.mk 12 0 0)]).flatMap eN4), c9 * 3⟩, ⟨aD b4, 70, ([(TGate.mk 12 0 0)].flatMap eN4), 1 * 3⟩] [] := hS26
       refine sQ 60 (Y_fieldAddr (B := aD b2) (i := 0) (s := 0) k_fd_39_1_1_37 k_sz_37_1 rfl (hf4.get 3 2 rfl)) ?_
       refine s0 (Ys_store (i := 2) (s := 1) (B := aD b2) (T' := 39) (v := .slice B9 ((Gates2 ++ [(TGate.mk 12 0 0)]).length) c9) (vs := [.slice B9 ((Gates2 ++ [(TGate.mk 12 0 0)]).length) c9]) (k := 1) (cs' := [vi 1, .slice B9 ((Gates2 ++ [(TGate.mk 12 0 0)]).length) c9]) hS26 k_sz_37_1 rfl rfl rfl rfl rfl rfl rfl (lB rfl) rfl rfl) ?_
       rintro _ w_16 ⟨rfl, hS27⟩
       have hS27 : ST w0 [] _ [⟨aD b, 42, [.string (bstr f_.Syllables), vi f_.Clifford, vi f_.Phase], 3⟩, ⟨aD b1, 39, [vi 0, .slice none 0 0], 2⟩, ⟨aD b2, 39, [vi 1, .slice B9 ((Gates2 ++ [(TGate.mk 12 0 0)]).length) c9], 2⟩, ⟨B9, 70, ((Gates2 ++ [(TGate.mk 12 0 0)]).flatMap eN4), c9 * 3⟩, ⟨aD b4, 70, ([(TGate.mk 12 0 0)].flatMap eN4), 1 * 3⟩] [] := hS27
       refine rw_nil (cw_region ?_)
       refine sQ 53 (Y_move (v := vi (i4 : Int)) rfl (hf4.get 8 3 rfl)) ?_
       refine sQ 54 (Y_add (k := .i64) (a := (i4 : Int)) (b := 1) rfl rfl rfl) ?_
       refine sQ 8 (Y_assign (v := vi (i64.wrap ((i4 : Int) + 1))) rfl rfl) (rw_nil ?_)
       obtain rfl := some_inj hb4
       exact ⟨k_5, Nat.lt_succ_self _, i4 + 1, (Gates2 ++ [(TGate.mk 12 0 0)]), B9, c9, (FF.cons (hf4.get 1 0 rfl) (FF.cons (hf4.get 2 1 rfl) (FF.cons (hf4.get 3 2 rfl) (FF.cons (congrArg (Value.int .i64) (wr_succ hlt3 hN1)) FF.nil)))), (hS27.sel [0, 1, 2, 3] rfl rfl), (by omega), hL5⟩
      ·skip
       obtain rfl : k_4 = 0 := by have h := of_decide_eq_false hlt2; omega
       refine cw_exit rfl ?_
       obtain rfl := some_inj hL4
       refine cw_seq (cw_region ?_)
       refine sQ 61 (Y_loadA (B := aD b2) (i := 0) (cs := [vi 1, .slice B8 Gates2.length c8]) (vs := [vi 1, .slice B8 Gates2.length c8]) k_ag_39 k_sz_39_2 rfl (hf4.get 3 2 rfl) (hS24.cf (i := 2) rfl) rfl rfl) ?_
       refine s0 (Ys_store (i := 1) (s := 2) (B := aD b1) (T' := 39) (v := .agg #[vi 1, .slice B8 Gates2.length c8]) (vs := [vi 1, .slice B8 Gates2.length c8]) (k := 0) (cs' := [vi 1, .slice B8 Gates2.length c8]) hS24 k_sz_39_2 rfl (hf4.get 2 1 rfl) rfl rfl rfl rfl rfl (lB rfl) rfl rfl) ?_
       rintro _ w_17 ⟨rfl, hS28⟩
       refine rw_nil (cw_ret ?_)
       obtain rfl := some_inj hF8
       exact ret1 Tryz.results32 (v1 := .agg #[vi 1, .slice B8 Gates2.length c8]) (resAt_cellA (B := aD b1) (i := 0) (cs := [vi 1, .slice B8 Gates2.length c8]) (vs := [vi 1, .slice B8 Gates2.length c8]) (hf4.get 2 1 rfl) k_ag_39 k_sz_39_2 (hS28.cf (i := 1) rfl) rfl rfl) ⟨B8, c8, rfl, (hS28.sN [3])⟩
   exact allR_nil
  exact allR_nil
 exact allR_nil

theorem c_spec_MatrixOfForm (f_ : TNormalForm)  (w0 : World)  (hS : ST w0 [] w0 [] []) {r_ : TMatrix} {r_1 : Bool} (hF : F_spec_MatrixOfForm f_ = some (r_, r_1)) :
  CV Tryz.prog 18 #[.agg #[.string (bstr f_.Syllables), vi f_.Clifford, vi f_.Phase]] w0 (fun v w' => ∃ (B : Option Addr) (c : Nat), v = .tuple #[gM_ r_ B c, .bool r_1] ∧ ST w0 [] w' [⟨B, 65, (r_.Cells.flatMap eN0), c * 5⟩] []) := by
 unfold F_spec_MatrixOfForm at hF
 refine cv_of_cw 11 Tryz.func18 rfl Tryz.ntmps18 rfl ?_
 refine cw_seq (cw_region ?_)
 refine sS 1 (Ys_box (T := 42) (v := .agg #[.string (bstr f_.Syllables), vi f_.Clifford, vi f_.Phase]) (cs := [.string (bstr f_.Syllables), vi f_.Clifford, vi f_.Phase]) (m := 3) hS rfl rfl rfl rfl) ?_
 rintro _ w_ ⟨b, rfl, hS1⟩
 refine sS 2 (Ys_alloc (T := 48) (cs := kN_) (m := 3) hS1 k_zero_48 rfl rfl rfl) ?_
 rintro _ w_1 ⟨b1, rfl, hS2⟩
 refine sQ 3 (Y_assign (v := .bool false) rfl rfl) (rw_nil (cw_seq (cw_seq (cw_region ?_))))
 refine sQ 4 (Y_loadA (B := aD b) (i := 0) (cs := [.string (bstr f_.Syllables), vi f_.Clifford, vi f_.Phase]) (vs := [.string (bstr f_.Syllables), vi f_.Clifford, vi f_.Phase]) k_ag_42 k_sz_42_3 rfl rfl (hS2.cf (i := 0) rfl) rfl rfl) ?_
 obtain ⟨r_2, hc, hF⟩ := bind_inv hF
 refine sc 5 rfl rfl (Yc_func (g := 31) (vs := [.agg #[.string (bstr f_.Syllables), vi f_.Clifford, vi f_.Phase]]) k_call_31 rfl (mc rfl mn) (c_spec_l10Valid f_ _  (hS2.inn0 [] rfl) hc)) ?_
 rintro _ w_2 ⟨rfl, hd⟩
 have hS3 := hS2.out00 hd
 refine sQ 6 (Y_not (p := r_2) rfl rfl) (rw_nil ?_)
 refine cw_cond (b := (!r_2)) rfl (fun hb => ?_) (fun hb => ?_)
 ·skip
  have hF1 := ct hF hb
  refine cw_seq (cw_region ?_)
  refine sQ 7 (Y_buildS (zs := kN_) (vs := []) (cs := kN_) k_pl_48 k_zero_48 rfl mpn rfl) ?_
  refine s0 (Ys_store (i := 1) (s := 3) (B := aD b1) (T' := 48) (v := gN_) (vs := kN_) (k := 0) (cs' := kN_) hS3 k_sz_48_3 rfl rfl rfl rfl rfl rfl rfl (lB rfl) rfl rfl) ?_
  rintro _ w_3 ⟨rfl, hS4⟩
  refine sQ 3 (Y_assign (v := .bool false) rfl rfl) (rw_nil (cw_ret ?_))
  have hS5 := hS4.addNil 65
  obtain ⟨rfl, rfl⟩ := pr2 (some_inj hF1)
  exact ret2 Tryz.results18 (v1 := gN_) (resAt_cellA (B := aD b1) (i := 0) (cs := kN_) (vs := kN_) rfl k_ag_48 k_sz_48_3 (hS5.cf (i := 1) rfl) rfl rfl) (v2 := .bool false) (resAt_tmp rfl) ⟨none, 0, rfl, (hS5.sN [2])⟩
 ·skip
  have hF2 := cf' hF hb
  refine cw_skip (cw_seq (cw_region ?_))
  refine sQ 8 (Y_loadA (B := aD b) (i := 0) (cs := [.string (bstr f_.Syllables), vi f_.Clifford, vi f_.Phase]) (vs := [.string (bstr f_.Syllables), vi f_.Clifford, vi f_.Phase]) k_ag_42 k_sz_42_3 rfl rfl (hS3.cf (i := 0) rfl) rfl rfl) ?_
  obtain ⟨r_3, hc1, hF2⟩ := bind_inv hF2
  refine sc 9 rfl rfl (Yc_func (g := 32) (vs := [.agg #[.string (bstr f_.Syllables), vi f_.Clifford, vi f_.Phase]]) k_call_32 rfl (mc rfl mn) (c_spec_l10Circuit f_ _  (hS3.inn0 [] rfl) hc1)) ?_
  rintro _ w_4 ⟨B1, c1, rfl, hd1⟩
  have hS6 := hS3.out0 hd1
  obtain ⟨r_4, hc2, hF2⟩ := bind_inv hF2
  refine sc 10 rfl rfl (Yc_func (g := 39) (vs := [.agg #[vi r_3.Qubits, .slice B1 r_3.Gates.length c1]]) k_call_39 rfl (mc rfl mn) (c_spec_l6Op r_3 B1 c1 r_3.Gates.length _ rfl (hS6.inn0 [(false, 2)] rfl) hc2)) ?_
  rintro _ w_5 ⟨B2, c2, rfl, hd2⟩
  have hS7 := hS6.out0 hd2
  refine s0 (Ys_store (i := 1) (s := 3) (B := aD b1) (T' := 48) (v := gM_ r_4 B2 c2) (vs := kM_ r_4 B2 c2) (k := 0) (cs' := kM_ r_4 B2 c2) hS7 k_sz_48_3 rfl rfl rfl rfl rfl rfl rfl (lB rfl) rfl rfl) ?_
  rintro _ w_6 ⟨rfl, hS8⟩
  refine sQ 3 (Y_assign (v := .bool true) rfl rfl) (rw_nil (cw_ret ?_))
  obtain ⟨rfl, rfl⟩ := pr2 (some_inj hF2)
  exact ret2 Tryz.results18 (v1 := gM_ r_4 B2 c2) (resAt_cellA (B := aD b1) (i := 0) (cs := kM_ r_4 B2 c2) (vs := kM_ r_4 B2 c2) rfl k_ag_48 k_sz_48_3 (hS8.cf (i := 1) rfl) rfl rfl) (v2 := .bool true) (resAt_tmp rfl) ⟨B2, c2, rfl, (hS8.sN [3])⟩

theorem c_impl_within (n : Int) (low : Int) (high : Int)  (w0 : World)  (hS : ST w0 [] w0 [] []) {r_ : Bool} (hF : F_impl_within n low high = some r_) :
  CV Tryz.prog 73 #[vi n, vi low, vi high] w0 (fun v w' => v = .bool r_ ∧ ST w0 [] w' [] []) := by
 unfold F_impl_within at hF
 refine cv_of_cw 15 Tryz.func73 rfl Tryz.ntmps73 rfl ?_
 refine cw_seq (cw_region ?_)
 refine sQ 6 (Y_assign (v := .bool false) rfl rfl) (rw_nil (cw_seq (cw_region ?_)))
 refine sQ 7 (Y_move (v := vi low) rfl rfl) ?_
 refine sQ 8 (Y_move (v := vi n) rfl rfl) ?_
 refine sQ 9 (Y_le (k := .i64) (a := low) (b := n) rfl rfl rfl) ?_
 refine sQ 10 (Y_move (v := .bool (decide (low ≤ n))) rfl rfl) ?_
 refine sgq 11 (B := (decide (low ≤ n))) (v := vi n) rfl rfl (uT_ 10) (fun hg => (Y_move (v := vi n) rfl rfl)) ?_
 refine sgq 12 (B := (decide (low ≤ n))) (v := vi high) rfl rfl (uT_ 10) (fun hg1 => (Y_move (v := vi high) rfl rfl)) ?_
 refine sgq 13 (B := (decide (low ≤ n))) (v := .bool (decide (n ≤ high))) rfl rfl (uT_ 10) (fun hg2 => (Y_le (k := .i64) (a := n) (b := high) rfl (gv_of (v := vi n) hg2) (gv_of (v := vi high) hg2))) ?_
 refine sQ 14 (Y_and (b := (decide (low ≤ n))) (z := (decide (n ≤ high))) rfl rfl rfl rfl) ?_
 refine sQ 6 (Y_assign (v := .bool ((decide (low ≤ n)) && (decide (n ≤ high)))) rfl rfl) (rw_nil (cw_ret ?_))
 obtain rfl := some_inj hF
 exact ret1 Tryz.results73 (v1 := .bool ((decide (low ≤ n)) && (decide (n ≤ high)))) (resAt_tmp rfl) ⟨rfl, (hS.sN [])⟩

theorem c_impl_IsValidForm (f_ : TNormalForm)  (w0 : World)  (hS : ST w0 [] w0 [] []) {r_ : Bool} (hF : F_impl_IsValidForm f_ = some r_) :
  CV Tryz.prog 33 #[.agg #[.string (bstr f_.Syllables), vi f_.Clifford, vi f_.Phase]] w0 (fun v w' => v = .bool r_ ∧ ST w0 [] w' [] []) := by
 unfold F_impl_IsValidForm at hF
 refine cv_of_cw 44 Tryz.func33 rfl Tryz.ntmps33 rfl ?_
 refine cw_seq (cw_region ?_)
 refine sS 1 (Ys_box (T := 42) (v := .agg #[.string (bstr f_.Syllables), vi f_.Clifford, vi f_.Phase]) (cs := [.string (bstr f_.Syllables), vi f_.Clifford, vi f_.Phase]) (m := 3) hS rfl rfl rfl rfl) ?_
 rintro _ w_ ⟨b, rfl, hS1⟩
 refine sQ 2 (Y_assign (v := .bool false) rfl rfl) (rw_nil (cw_seq (cw_seq (cw_region ?_))))
 refine sQ 3 (Y_assign (v := vi 0) rfl rfl) (rw_nil ?_)
 obtain ⟨hN, hF⟩ := chk_inv hF
 obtain ⟨z, hz, hF1⟩ := bind_inv hF
 refine cw_block ?_
 refine cw_loop (fun k f w => ∃ (i1 : Nat), FF f [(1, pt (aD b) 0), (3, vi (i1 : Int))] ∧ ST w0 [] w [⟨aD b, 42, [.string (bstr f_.Syllables), vi f_.Clifford, vi f_.Phase], 3⟩] [] ∧ i1 + k = f_.Syllables.length ∧ forX (F_impl_IsValidForm_l1 f_) k i1 () = some z) f_.Syllables.length ⟨0, (FF.cons rfl (FF.cons rfl FF.nil)), (hS1.sel [0] rfl rfl), Nat.zero_add _, hz⟩ ?_
 rintro k_ f w ⟨i1, hf, hS2, hik, hL⟩
 refine cw_seq (cw_seq (cw_region ?_))
 refine sQ 5 (Y_move (v := vi (i1 : Int)) rfl (hf.get 3 1 rfl)) ?_
 refine sQ 6 (Y_fieldAddr (B := aD b) (i := 0) (s := 0) k_fd_42_0_0_9 k_sz_9_1 rfl (hf.get 1 0 rfl)) ?_
 refine sQ 7 (Y_load1 (B := aD b) (i := 0) (cs := [.string (bstr f_.Syllables), vi f_.Clifford, vi f_.Phase]) (v := .string (bstr f_.Syllables)) k_sc_9 rfl rfl (hS2.cf (i := 0) rfl) rfl) ?_
 refine sQ 8 (Y_slen (a := f_.Syllables) k_str_9 rfl rfl) ?_
 refine sQ 9 (Y_lt (k := .i64) (a := (i1 : Int)) (b := (f_.Syllables.length : Int)) rfl rfl rfl) (rw_nil ?_)
 refine cw_cond (b := (decide ((i1 : Int) < (f_.Syllables.length : Int)))) rfl (fun hlt => ?_) (fun hlt => ?_)
 ·skip
  have hlt1 : i1 < f_.Syllables.length := by have h := of_decide_eq_true hlt; omega
  obtain ⟨k_1, rfl⟩ : ∃ k2, k_ = k2 + 1 := ⟨k_ - 1, by omega⟩
  obtain ⟨y, hb, hL1⟩ := forX_go hL
  unfold F_impl_IsValidForm_l1 at hb
  refine cw_skip (cw_seq (cw_block (cw_seq (cw_region ?_))))
  refine sQ 12 (Y_fieldAddr (B := aD b) (i := 0) (s := 0) k_fd_42_0_0_9 k_sz_9_1 rfl (hf.get 1 0 rfl)) ?_
  refine sQ 13 (Y_load1 (B := aD b) (i := 0) (cs := [.string (bstr f_.Syllables), vi f_.Clifford, vi f_.Phase]) (v := .string (bstr f_.Syllables)) k_sc_9 rfl rfl (hS2.cf (i := 0) rfl) rfl) ?_
  refine sQ 14 (Y_move (v := vi (i1 : Int)) rfl (hf.get 3 1 rfl)) ?_
  obtain ⟨x, hx, hb⟩ := bind_inv hb
  refine sQ 15 (Y_sidx (a := f_.Syllables) (k := .i64) (i := (i1 : Int)) (b := x) k_str_9 rfl rfl rfl hx) ?_
  refine sQ 4 (Y_assign (v := .int .u8 (x.toNat : Int)) rfl rfl) (rw_nil (cw_seq (cw_region ?_)))
  refine sQ 16 (Y_move (v := .int .u8 (x.toNat : Int)) rfl rfl) ?_
  refine sQ 17 (Y_ne (k := .u8) (a := (x.toNat : Int)) (b := 72) rfl rfl rfl) ?_
  refine sQ 18 (Y_move (v := .bool ((x.toNat : Int) != 72)) rfl rfl) ?_
  refine sgq 19 (B := ((x.toNat : Int) != 72)) (v := .int .u8 (x.toNat : Int)) rfl rfl (uT_ 18) (fun hg => (Y_move (v := .int .u8 (x.toNat : Int)) rfl rfl)) ?_
  refine sgq 20 (B := ((x.toNat : Int) != 72)) (v := .bool ((x.toNat : Int) != 83)) rfl rfl (uT_ 18) (fun hg1 => (Y_ne (k := .u8) (a := (x.toNat : Int)) (b := 83) rfl (gv_of (v := .int .u8 (x.toNat : Int)) hg1) rfl)) ?_
  refine sQ 21 (Y_and (b := ((x.toNat : Int) != 72)) (z := ((x.toNat : Int) != 83)) rfl rfl rfl rfl) ?_
  refine sQ 22 (Y_move (v := .bool (((x.toNat : Int) != 72) && ((x.toNat : Int) != 83))) rfl rfl) ?_
  refine sgq 23 (B := (((x.toNat : Int) != 72) && ((x.toNat : Int) != 83))) (v := .int .u8 (x.toNat : Int)) rfl rfl (uT_ 22) (fun hg2 => (Y_move (v := .int .u8 (x.toNat : Int)) rfl rfl)) ?_
  refine sgq 24 (B := (((x.toNat : Int) != 72) && ((x.toNat : Int) != 83))) (v := .bool ((x.toNat : Int) != 84)) rfl rfl (uT_ 22) (fun hg3 => (Y_ne (k := .u8) (a := (x.toNat : Int)) (b := 84) rfl (gv_of (v := .int .u8 (x.toNat : Int)) hg3) rfl)) ?_
  refine sgq 25 (B := (((x.toNat : Int) != 72) && ((x.toNat : Int) != 83))) (v := .bool ((x.toNat : Int) != 84)) rfl rfl (uT_ 22) (fun hg4 => (Y_move (v := .bool ((x.toNat : Int) != 84)) rfl (gv_of (v := .bool ((x.toNat : Int) != 84)) hg4))) ?_
  refine sgq 26 (B := ((((x.toNat : Int) != 72) && ((x.toNat : Int) != 83)) && (!((x.toNat : Int) != 84)))) (v := vi (i1 : Int)) rfl rfl (wt_gf (gd_of (t := 25) (by kernel_rfl) rfl)) (fun hg5 => (Y_move (v := vi (i1 : Int)) rfl (hf.get 3 1 rfl))) ?_
  refine sgq 27 (B := ((((x.toNat : Int) != 72) && ((x.toNat : Int) != 83)) && (!((x.toNat : Int) != 84)))) (v := .bool (decide (0 < (i1 : Int)))) rfl rfl (wt_gf (gd_of (t := 25) (by kernel_rfl) rfl)) (fun hg6 => (Y_gt (k := .i64) (a := (i1 : Int)) (b := 0) rfl (gv_of (v := vi (i1 : Int)) hg6) rfl)) ?_
  refine sgq 28 (B := (((x.toNat : Int) != 72) && ((x.toNat : Int) != 83))) (v := .bool (((x.toNat : Int) != 84) || (decide (0 < (i1 : Int))))) rfl rfl (uT_ 22) (fun hg7 => (Y_or (b := ((x.toNat : Int) != 84)) (z := (decide (0 < (i1 : Int)))) rfl (gv_of (v := .bool ((x.toNat : Int) != 84)) hg7) rfl (gv_and (B := (((x.toNat : Int) != 72) && ((x.toNat : Int) != 83))) (C := (!((x.toNat : Int) != 84))) (v := .bool (decide (0 < (i1 : Int)))) hg7))) ?_
  refine sQ 29 (Y_and (b := (((x.toNat : Int) != 72) && ((x.toNat : Int) != 83))) (z := (((x.toNat : Int) != 84) || (decide (0 < (i1 : Int))))) rfl rfl rfl rfl) (rw_nil ?_)
  refine cw_cond (b := ((((x.toNat : Int) != 72) && ((x.toNat : Int) != 83)) && (((x.toNat : Int) != 84) || (decide (0 < (i1 : Int)))))) rfl (fun hb1 => ?_) (fun hb1 => ?_)
  ·skip
   have hF2 := ct hb hb1
   refine cw_seq (cw_region ?_)
   refine sQ 2 (Y_assign (v := .bool false) rfl rfl) (rw_nil (cw_ret ?_))
   obtain rfl := some_inj hF2
   obtain rfl := some_inj hL1
   obtain rfl := some_inj hF1
   exact ret1 Tryz.results33 (v1 := .bool false) (resAt_tmp rfl) ⟨rfl, (hS2.sN [])⟩
  ·skip
   have hF3 := cf' hb hb1
   refine cw_skip (cw_region ?_)
   refine sQ 10 (Y_move (v := vi (i1 : Int)) rfl (hf.get 3 1 rfl)) ?_
   refine sQ 11 (Y_add (k := .i64) (a := (i1 : Int)) (b := 1) rfl rfl rfl) ?_
   refine sQ 3 (Y_assign (v := vi (i64.wrap ((i1 : Int) + 1))) rfl rfl) (rw_nil ?_)
   obtain rfl := some_inj hF3
   exact ⟨k_1, Nat.lt_succ_self _, i1 + 1, (FF.cons (hf.get 1 0 rfl) (FF.cons (congrArg (Value.int .i64) (wr_succ hlt1 hN)) FF.nil)), (hS2.sel [0] rfl rfl), (by omega), hL1⟩
 ·skip
  obtain rfl : k_ = 0 := by have h := of_decide_eq_false hlt; omega
  refine cw_exit rfl ?_
  obtain rfl := some_inj hL
  refine cw_seq (cw_region ?_)
  refine sQ 30 (Y_fieldAddr (B := aD b) (i := 0) (s := 0) k_fd_42_0_0_9 k_sz_9_1 rfl (hf.get 1 0 rfl)) ?_
  refine sQ 31 (Y_load1 (B := aD b) (i := 0) (cs := [.string (bstr f_.Syllables), vi f_.Clifford, vi f_.Phase]) (v := .string (bstr f_.Syllables)) k_sc_9 rfl rfl (hS2.cf (i := 0) rfl) rfl) ?_
  refine sQ 32 (Y_slen (a := f_.Syllables) k_str_9 rfl rfl) ?_
  refine sQ 33 (Y_le (k := .i64) (a := (f_.Syllables.length : Int)) (b := 40) rfl rfl rfl) ?_
  refine sQ 34 (Y_move (v := .bool (decide ((f_.Syllables.length : Int) ≤ 40))) rfl rfl) ?_
  refine sgq 35 (B := (decide ((f_.Syllables.length : Int) ≤ 40))) (v := pt (aD b) 1) rfl rfl (uT_ 34) (fun hg8 => (Y_fieldAddr (B := aD b) (i := 0) (s := 0) k_fd_42_1_1_3 k_sz_3_1 rfl (hf.get 1 0 rfl))) ?_
  refine sgq 36 (B := (decide ((f_.Syllables.length : Int) ≤ 40))) (v := vi f_.Clifford) rfl rfl (uT_ 34) (fun hg9 => (Y_load1 (B := aD b) (i := 1) (cs := [.string (bstr f_.Syllables), vi f_.Clifford, vi f_.Phase]) (v := vi f_.Clifford) k_sc_3 rfl (gv_of (v := pt (aD b) 1) hg9) (hS2.cf (i := 0) rfl) rfl)) ?_
  obtain ⟨r_1, hc, hF1⟩ := bind_inv hF1
  refine sgc 37 (B := (decide ((f_.Syllables.length : Int) ≤ 40))) (v := .bool r_1) (F := hS2.fn) rfl rfl (uT_ 34) hS2 (fun hg10 => (Yc_func (g := 73) (vs := [vi f_.Clifford, vi 0, vi 23]) k_call_73 rfl (mc (gv_of (v := vi f_.Clifford) hg10) (mc rfl (mc rfl mn))) (CV.mono (c_impl_within f_.Clifford 0 23 _  (hS2.inn0 [] rfl) (gb_inv hc hg10)) (by rintro _ _ ⟨rfl, h⟩; exact ⟨rfl, hS2.out00 h⟩)))) ?_
  rintro w_1 hS3
  refine sQ 38 (Y_and (b := (decide ((f_.Syllables.length : Int) ≤ 40))) (z := r_1) rfl rfl rfl rfl) ?_
  refine sQ 39 (Y_move (v := .bool ((decide ((f_.Syllables.length : Int) ≤ 40)) && r_1)) rfl rfl) ?_
  refine sgq 40 (B := ((decide ((f_.Syllables.length : Int) ≤ 40)) && r_1)) (v := pt (aD b) 2) rfl rfl (uT_ 39) (fun hg11 => (Y_fieldAddr (B := aD b) (i := 0) (s := 0) k_fd_42_2_2_3 k_sz_3_1 rfl (hf.get 1 0 rfl))) ?_
  refine sgq 41 (B := ((decide ((f_.Syllables.length : Int) ≤ 40)) && r_1)) (v := vi f_.Phase) rfl rfl (uT_ 39) (fun hg12 => (Y_load1 (B := aD b) (i := 2) (cs := [.string (bstr f_.Syllables), vi f_.Clifford, vi f_.Phase]) (v := vi f_.Phase) k_sc_3 rfl (gv_of (v := pt (aD b) 2) hg12) (hS3.cf (i := 0) rfl) rfl)) ?_
  obtain ⟨r_2, hc1, hF1⟩ := bind_inv hF1
  refine sgc 42 (B := ((decide ((f_.Syllables.length : Int) ≤ 40)) && r_1)) (v := .bool r_2) (F := hS3.fn) rfl rfl (uT_ 39) hS3 (fun hg13 => (Yc_func (g := 73) (vs := [vi f_.Phase, vi 0, vi 7]) k_call_73 rfl (mc (gv_of (v := vi f_.Phase) hg13) (mc rfl (mc rfl mn))) (CV.mono (c_impl_within f_.Phase 0 7 _  (hS3.inn0 [] rfl) (gb_inv hc1 hg13)) (by rintro _ _ ⟨rfl, h⟩; exact ⟨rfl, hS3.out00 h⟩)))) ?_
  rintro w_2 hS4
  refine sQ 43 (Y_and (b := ((decide ((f_.Syllables.length : Int) ≤ 40)) && r_1)) (z := r_2) rfl rfl rfl rfl) ?_
  refine sQ 2 (Y_assign (v := .bool (((decide ((f_.Syllables.length : Int) ≤ 40)) && r_1) && r_2)) rfl rfl) (rw_nil (cw_ret ?_))
  obtain rfl := some_inj hF1
  exact ret1 Tryz.results33 (v1 := .bool (((decide ((f_.Syllables.length : Int) ≤ 40)) && r_1) && r_2)) (resAt_tmp rfl) ⟨rfl, (hS4.sN [])⟩

theorem c_impl_isCoef (n : Int)  (w0 : World)  (hS : ST w0 [] w0 [] []) {r_ : Bool} (hF : F_impl_isCoef n = some r_) :
  CV Tryz.prog 142 #[vi n] w0 (fun v w' => v = .bool r_ ∧ ST w0 [] w' [] []) := by
 unfold F_impl_isCoef at hF
 refine cv_of_cw 5 Tryz.func142 rfl Tryz.ntmps142 rfl ?_
 refine cw_seq (cw_region ?_)
 refine sQ 2 (Y_assign (v := .bool false) rfl rfl) (rw_nil (cw_seq (cw_region ?_)))
 refine sQ 3 (Y_move (v := vi n) rfl rfl) ?_
 obtain ⟨r_1, hc, hF⟩ := bind_inv hF
 refine sc 4 rfl rfl (Yc_func (g := 73) (vs := [vi n, vi (-1000000000), vi 1000000000]) k_call_73 rfl (mc rfl (mc rfl (mc rfl mn))) (c_impl_within n (-1000000000) 1000000000 _  (hS.inn0 [] rfl) hc)) ?_
 rintro _ w_ ⟨rfl, hd⟩
 have hS1 := hS.out00 hd
 refine sQ 2 (Y_assign (v := .bool r_1) rfl rfl) (rw_nil (cw_ret ?_))
 obtain rfl := some_inj hF
 exact ret1 Tryz.results142 (v1 := .bool r_1) (resAt_tmp rfl) ⟨rfl, (hS1.sN [])⟩

theorem c_impl_IsValidRing (x : TRing)  (w0 : World)  (hS : ST w0 [] w0 [] []) {r_ : Bool} (hF : F_impl_IsValidRing x = some r_) :
  CV Tryz.prog 119 #[gR_ x] w0 (fun v w' => v = .bool r_ ∧ ST w0 [] w' [] []) := by
 unfold F_impl_IsValidRing at hF
 refine cv_of_cw 21 Tryz.func119 rfl Tryz.ntmps119 rfl ?_
 refine cw_seq (cw_region ?_)
 refine sS 1 (Ys_box (T := 63) (v := gR_ x) (cs := kR_ x) (m := 4) hS rfl rfl rfl rfl) ?_
 rintro _ w_ ⟨b, rfl, hS1⟩
 refine sQ 2 (Y_assign (v := .bool false) rfl rfl) (rw_nil (cw_seq (cw_region ?_)))
 refine sQ 3 (Y_fieldAddr (B := aD b) (i := 0) (s := 0) k_fd_63_0_0_3 k_sz_3_1 rfl rfl) ?_
 refine sQ 4 (Y_load1 (B := aD b) (i := 0) (cs := kR_ x) (v := vi x.A) k_sc_3 rfl rfl (hS1.cf (i := 0) rfl) rfl) ?_
 obtain ⟨r_1, hc, hF⟩ := bind_inv hF
 refine sc 5 rfl rfl (Yc_func (g := 142) (vs := [vi x.A]) k_call_142 rfl (mc rfl mn) (c_impl_isCoef x.A _  (hS1.inn0 [] rfl) hc)) ?_
 rintro _ w_1 ⟨rfl, hd⟩
 have hS2 := hS1.out00 hd
 refine sQ 6 (Y_move (v := .bool r_1) rfl rfl) ?_
 refine sgq 7 (B := r_1) (v := pt (aD b) 1) rfl rfl (uT_ 6) (fun hg => (Y_fieldAddr (B := aD b) (i := 0) (s := 0) k_fd_63_1_1_3 k_sz_3_1 rfl rfl)) ?_
 refine sgq 8 (B := r_1) (v := vi x.B) rfl rfl (uT_ 6) (fun hg1 => (Y_load1 (B := aD b) (i := 1) (cs := kR_ x) (v := vi x.B) k_sc_3 rfl (gv_of (v := pt (aD b) 1) hg1) (hS2.cf (i := 0) rfl) rfl)) ?_
 obtain ⟨r_2, hc1, hF⟩ := bind_inv hF
 refine sgc 9 (B := r_1) (v := .bool r_2) (F := hS2.fn) rfl rfl (uT_ 6) hS2 (fun hg2 => (Yc_func (g := 142) (vs := [vi x.B]) k_call_142 rfl (mc (gv_of (v := vi x.B) hg2) mn) (CV.mono (c_impl_isCoef x.B _  (hS2.inn0 [] rfl) (gb_inv hc1 hg2)) (by rintro _ _ ⟨rfl, h⟩; exact ⟨rfl, hS2.out00 h⟩)))) ?_
 rintro w_2 hS3
 refine sQ 10 (Y_and (b := r_1) (z := r_2) rfl rfl rfl rfl) ?_
 refine sQ 11 (Y_move (v := .bool (r_1 && r_2)) rfl rfl) ?_
 refine sgq 12 (B := (r_1 && r_2)) (v := pt (aD b) 2) rfl rfl (uT_ 11) (fun hg3 => (Y_fieldAddr (B := aD b) (i := 0) (s := 0) k_fd_63_2_2_3 k_sz_3_1 rfl rfl)) ?_
 refine sgq 13 (B := (r_1 && r_2)) (v := vi x.C) rfl rfl (uT_ 11) (fun hg4 => (Y_load1 (B := aD b) (i := 2) (cs := kR_ x) (v := vi x.C) k_sc_3 rfl (gv_of (v := pt (aD b) 2) hg4) (hS3.cf (i := 0) rfl) rfl)) ?_
 obtain ⟨r_3, hc2, hF⟩ := bind_inv hF
 refine sgc 14 (B := (r_1 && r_2)) (v := .bool r_3) (F := hS3.fn) rfl rfl (uT_ 11) hS3 (fun hg5 => (Yc_func (g := 142) (vs := [vi x.C]) k_call_142 rfl (mc (gv_of (v := vi x.C) hg5) mn) (CV.mono (c_impl_isCoef x.C _  (hS3.inn0 [] rfl) (gb_inv hc2 hg5)) (by rintro _ _ ⟨rfl, h⟩; exact ⟨rfl, hS3.out00 h⟩)))) ?_
 rintro w_3 hS4
 refine sQ 15 (Y_and (b := (r_1 && r_2)) (z := r_3) rfl rfl rfl rfl) ?_
 refine sQ 16 (Y_move (v := .bool ((r_1 && r_2) && r_3)) rfl rfl) ?_
 refine sgq 17 (B := ((r_1 && r_2) && r_3)) (v := pt (aD b) 3) rfl rfl (uT_ 16) (fun hg6 => (Y_fieldAddr (B := aD b) (i := 0) (s := 0) k_fd_63_3_3_3 k_sz_3_1 rfl rfl)) ?_
 refine sgq 18 (B := ((r_1 && r_2) && r_3)) (v := vi x.D) rfl rfl (uT_ 16) (fun hg7 => (Y_load1 (B := aD b) (i := 3) (cs := kR_ x) (v := vi x.D) k_sc_3 rfl (gv_of (v := pt (aD b) 3) hg7) (hS4.cf (i := 0) rfl) rfl)) ?_
 obtain ⟨r_4, hc3, hF⟩ := bind_inv hF
 refine sgc 19 (B := ((r_1 && r_2) && r_3)) (v := .bool r_4) (F := hS4.fn) rfl rfl (uT_ 16) hS4 (fun hg8 => (Yc_func (g := 142) (vs := [vi x.D]) k_call_142 rfl (mc (gv_of (v := vi x.D) hg8) mn) (CV.mono (c_impl_isCoef x.D _  (hS4.inn0 [] rfl) (gb_inv hc3 hg8)) (by rintro _ _ ⟨rfl, h⟩; exact ⟨rfl, hS4.out00 h⟩)))) ?_
 rintro w_4 hS5
 refine sQ 20 (Y_and (b := ((r_1 && r_2) && r_3)) (z := r_4) rfl rfl rfl rfl) ?_
 refine sQ 2 (Y_assign (v := .bool (((r_1 && r_2) && r_3) && r_4)) rfl rfl) (rw_nil (cw_ret ?_))
 obtain rfl := some_inj hF
 exact ret1 Tryz.results119 (v1 := .bool (((r_1 && r_2) && r_3) && r_4)) (resAt_tmp rfl) ⟨rfl, (hS5.sN [])⟩

theorem c_impl_isEven (x : TRing)  (w0 : World)  (hS : ST w0 [] w0 [] []) {r_ : Bool} (hF : F_impl_isEven x = some r_) :
  CV Tryz.prog 120 #[gR_ x] w0 (fun v w' => v = .bool r_ ∧ ST w0 [] w' [] []) := by
 unfold F_impl_isEven at hF
 refine cv_of_cw 19 Tryz.func120 rfl Tryz.ntmps120 rfl ?_
 refine cw_seq (cw_region ?_)
 refine sS 1 (Ys_box (T := 63) (v := gR_ x) (cs := kR_ x) (m := 4) hS rfl rfl rfl rfl) ?_
 rintro _ w_ ⟨b, rfl, hS1⟩
 refine sQ 2 (Y_assign (v := .bool false) rfl rfl) (rw_nil (cw_seq (cw_region ?_)))
 refine sQ 3 (Y_fieldAddr (B := aD b) (i := 0) (s := 0) k_fd_63_0_0_3 k_sz_3_1 rfl rfl) ?_
 refine sQ 4 (Y_load1 (B := aD b) (i := 0) (cs := kR_ x) (v := vi x.A) k_sc_3 rfl rfl (hS1.cf (i := 0) rfl) rfl) ?_
 refine sQ 5 (Y_fieldAddr (B := aD b) (i := 0) (s := 0) k_fd_63_2_2_3 k_sz_3_1 rfl rfl) ?_
 refine sQ 6 (Y_load1 (B := aD b) (i := 2) (cs := kR_ x) (v := vi x.C) k_sc_3 rfl rfl (hS1.cf (i := 0) rfl) rfl) ?_
 refine sQ 7 (Y_add (k := .i64) (a := x.A) (b := x.C) rfl rfl rfl) ?_
 refine sQ 8 (Y_rem (k := .i64) (a := (i64.wrap (x.A + x.C))) (b := 2) rfl rfl rfl (by decide)) ?_
 refine sQ 9 (Y_eq (k := .i64) (a := (Int.tmod (i64.wrap (x.A + x.C)) 2)) (b := 0) rfl rfl rfl) ?_
 refine sQ 10 (Y_move (v := .bool ((Int.tmod (i64.wrap (x.A + x.C)) 2) == 0)) rfl rfl) ?_
 refine sgq 11 (B := ((Int.tmod (i64.wrap (x.A + x.C)) 2) == 0)) (v := pt (aD b) 1) rfl rfl (uT_ 10) (fun hg => (Y_fieldAddr (B := aD b) (i := 0) (s := 0) k_fd_63_1_1_3 k_sz_3_1 rfl rfl)) ?_
 refine sgq 12 (B := ((Int.tmod (i64.wrap (x.A + x.C)) 2) == 0)) (v := vi x.B) rfl rfl (uT_ 10) (fun hg1 => (Y_load1 (B := aD b) (i := 1) (cs := kR_ x) (v := vi x.B) k_sc_3 rfl (gv_of (v := pt (aD b) 1) hg1) (hS1.cf (i := 0) rfl) rfl)) ?_
 refine sgq 13 (B := ((Int.tmod (i64.wrap (x.A + x.C)) 2) == 0)) (v := pt (aD b) 3) rfl rfl (uT_ 10) (fun hg2 => (Y_fieldAddr (B := aD b) (i := 0) (s := 0) k_fd_63_3_3_3 k_sz_3_1 rfl rfl)) ?_
 refine sgq 14 (B := ((Int.tmod (i64.wrap (x.A + x.C)) 2) == 0)) (v := vi x.D) rfl rfl (uT_ 10) (fun hg3 => (Y_load1 (B := aD b) (i := 3) (cs := kR_ x) (v := vi x.D) k_sc_3 rfl (gv_of (v := pt (aD b) 3) hg3) (hS1.cf (i := 0) rfl) rfl)) ?_
 refine sgq 15 (B := ((Int.tmod (i64.wrap (x.A + x.C)) 2) == 0)) (v := vi (i64.wrap (x.B + x.D))) rfl rfl (uT_ 10) (fun hg4 => (Y_add (k := .i64) (a := x.B) (b := x.D) rfl (gv_of (v := vi x.B) hg4) (gv_of (v := vi x.D) hg4))) ?_
 refine sgq 16 (B := ((Int.tmod (i64.wrap (x.A + x.C)) 2) == 0)) (v := vi (Int.tmod (i64.wrap (x.B + x.D)) 2)) rfl rfl (uT_ 10) (fun hg5 => (Y_rem (k := .i64) (a := (i64.wrap (x.B + x.D))) (b := 2) rfl (gv_of (v := vi (i64.wrap (x.B + x.D))) hg5) rfl (by decide))) ?_
 refine sgq 17 (B := ((Int.tmod (i64.wrap (x.A + x.C)) 2) == 0)) (v := .bool ((Int.tmod (i64.wrap (x.B + x.D)) 2) == 0)) rfl rfl (uT_ 10) (fun hg6 => (Y_eq (k := .i64) (a := (Int.tmod (i64.wrap (x.B + x.D)) 2)) (b := 0) rfl (gv_of (v := vi (Int.tmod (i64.wrap (x.B + x.D)) 2)) hg6) rfl)) ?_
 refine sQ 18 (Y_and (b := ((Int.tmod (i64.wrap (x.A + x.C)) 2) == 0)) (z := ((Int.tmod (i64.wrap (x.B + x.D)) 2) == 0)) rfl rfl rfl rfl) ?_
 refine sQ 2 (Y_assign (v := .bool (((Int.tmod (i64.wrap (x.A + x.C)) 2) == 0) && ((Int.tmod (i64.wrap (x.B + x.D)) 2) == 0))) rfl rfl) (rw_nil (cw_ret ?_))
 obtain rfl := some_inj hF
 exact ret1 Tryz.results120 (v1 := .bool (((Int.tmod (i64.wrap (x.A + x.C)) 2) == 0) && ((Int.tmod (i64.wrap (x.B + x.D)) 2) == 0))) (resAt_tmp rfl) ⟨rfl, (hS1.sN [])⟩

theorem c_impl_IsValidDyadic (x : TDyadic)  (w0 : World)  (hS : ST w0 [] w0 [] []) {r_ : Bool} (hF : F_impl_IsValidDyadic x = some r_) :
  CV Tryz.prog 83 #[gD_ x] w0 (fun v w' => v = .bool r_ ∧ ST w0 [] w' [] []) := by
 unfold F_impl_IsValidDyadic at hF
 refine cv_of_cw 22 Tryz.func83 rfl Tryz.ntmps83 rfl ?_
 refine cw_seq (cw_region ?_)
 refine sS 1 (Ys_box (T := 65) (v := gD_ x) (cs := kD_ x) (m := 5) hS rfl rfl rfl rfl) ?_
 rintro _ w_ ⟨b, rfl, hS1⟩
 refine sQ 2 (Y_assign (v := .bool false) rfl rfl) (rw_nil (cw_seq (cw_region ?_)))
 refine sQ 3 (Y_fieldAddr (B := aD b) (i := 0) (s := 3) k_fd_65_0_0_63 k_sz_63_4 rfl rfl) ?_
 refine sQ 4 (Y_loadA (B := aD b) (i := 0) (cs := kD_ x) (vs := kR_ x.Num) k_ag_63 k_sz_63_4 rfl rfl (hS1.cf (i := 0) rfl) rfl rfl) ?_
 obtain ⟨r_1, hc, hF⟩ := bind_inv hF
 refine sc 5 rfl rfl (Yc_func (g := 119) (vs := [gR_ x.Num]) k_call_119 rfl (mc rfl mn) (c_impl_IsValidRing x.Num _  (hS1.inn0 [] rfl) hc)) ?_
 rintro _ w_1 ⟨rfl, hd⟩
 have hS2 := hS1.out00 hd
 refine sQ 6 (Y_move (v := .bool r_1) rfl rfl) ?_
 refine sgq 7 (B := r_1) (v := pt (aD b) 4) rfl rfl (uT_ 6) (fun hg => (Y_fieldAddr (B := aD b) (i := 0) (s := 0) k_fd_65_1_4_3 k_sz_3_1 rfl rfl)) ?_
 refine sgq 8 (B := r_1) (v := vi x.Exp) rfl rfl (uT_ 6) (fun hg1 => (Y_load1 (B := aD b) (i := 4) (cs := kD_ x) (v := vi x.Exp) k_sc_3 rfl (gv_of (v := pt (aD b) 4) hg1) (hS2.cf (i := 0) rfl) rfl)) ?_
 obtain ⟨r_2, hc1, hF⟩ := bind_inv hF
 refine sgc 9 (B := r_1) (v := .bool r_2) (F := hS2.fn) rfl rfl (uT_ 6) hS2 (fun hg2 => (Yc_func (g := 73) (vs := [vi x.Exp, vi 0, vi 60]) k_call_73 rfl (mc (gv_of (v := vi x.Exp) hg2) (mc rfl (mc rfl mn))) (CV.mono (c_impl_within x.Exp 0 60 _  (hS2.inn0 [] rfl) (gb_inv hc1 hg2)) (by rintro _ _ ⟨rfl, h⟩; exact ⟨rfl, hS2.out00 h⟩)))) ?_
 rintro w_2 hS3
 refine sQ 10 (Y_and (b := r_1) (z := r_2) rfl rfl rfl rfl) ?_
 refine sQ 11 (Y_move (v := .bool (r_1 && r_2)) rfl rfl) ?_
 refine sgq 12 (B := (r_1 && r_2)) (v := pt (aD b) 4) rfl rfl (uT_ 11) (fun hg3 => (Y_fieldAddr (B := aD b) (i := 0) (s := 0) k_fd_65_1_4_3 k_sz_3_1 rfl rfl)) ?_
 refine sgq 13 (B := (r_1 && r_2)) (v := vi x.Exp) rfl rfl (uT_ 11) (fun hg4 => (Y_load1 (B := aD b) (i := 4) (cs := kD_ x) (v := vi x.Exp) k_sc_3 rfl (gv_of (v := pt (aD b) 4) hg4) (hS3.cf (i := 0) rfl) rfl)) ?_
 refine sgq 14 (B := (r_1 && r_2)) (v := .bool (x.Exp == 0)) rfl rfl (uT_ 11) (fun hg5 => (Y_eq (k := .i64) (a := x.Exp) (b := 0) rfl (gv_of (v := vi x.Exp) hg5) rfl)) ?_
 refine sgq 15 (B := (r_1 && r_2)) (v := .bool (x.Exp == 0)) rfl rfl (uT_ 11) (fun hg6 => (Y_move (v := .bool (x.Exp == 0)) rfl (gv_of (v := .bool (x.Exp == 0)) hg6))) ?_
 refine sgq 16 (B := ((r_1 && r_2) && (!(x.Exp == 0)))) (v := pt (aD b) 0) rfl rfl (wt_gf (gd_of (t := 15) (by kernel_rfl) rfl)) (fun hg7 => (Y_fieldAddr (B := aD b) (i := 0) (s := 3) k_fd_65_0_0_63 k_sz_63_4 rfl rfl)) ?_
 refine sgq 17 (B := ((r_1 && r_2) && (!(x.Exp == 0)))) (v := gR_ x.Num) rfl rfl (wt_gf (gd_of (t := 15) (by kernel_rfl) rfl)) (fun hg8 => (Y_loadA (B := aD b) (i := 0) (cs := kD_ x) (vs := kR_ x.Num) k_ag_63 k_sz_63_4 rfl (gv_of (v := pt (aD b) 0) hg8) (hS3.cf (i := 0) rfl) rfl rfl)) ?_
 obtain ⟨r_3, hc2, hF⟩ := bind_inv hF
 refine sgc 18 (B := ((r_1 && r_2) && (!(x.Exp == 0)))) (v := .bool r_3) (F := hS3.fn) rfl rfl (wt_gf (gd_of (t := 15) (by kernel_rfl) rfl)) hS3 (fun hg9 => (Yc_func (g := 120) (vs := [gR_ x.Num]) k_call_120 rfl (mc (gv_of (v := gR_ x.Num) hg9) mn) (CV.mono (c_impl_isEven x.Num _  (hS3.inn0 [] rfl) (gb_inv hc2 hg9)) (by rintro _ _ ⟨rfl, h⟩; exact ⟨rfl, hS3.out00 h⟩)))) ?_
 rintro w_3 hS4
 refine sgq 19 (B := ((r_1 && r_2) && (!(x.Exp == 0)))) (v := .bool (!r_3)) rfl rfl (wt_gf (gd_of (t := 15) (by kernel_rfl) rfl)) (fun hg10 => (Y_not (p := r_3) rfl (gv_of (v := .bool r_3) hg10))) ?_
 refine sgq 20 (B := (r_1 && r_2)) (v := .bool ((x.Exp == 0) || (!r_3))) rfl rfl (uT_ 11) (fun hg11 => (Y_or (b := (x.Exp == 0)) (z := (!r_3)) rfl (gv_of (v := .bool (x.Exp == 0)) hg11) rfl (gv_and (B := (r_1 && r_2)) (C := (!(x.Exp == 0))) (v := .bool (!r_3)) hg11))) ?_
 refine sQ 21 (Y_and (b := (r_1 && r_2)) (z := ((x.Exp == 0) || (!r_3))) rfl rfl rfl rfl) ?_
 refine sQ 2 (Y_assign (v := .bool ((r_1 && r_2) && ((x.Exp == 0) || (!r_3)))) rfl rfl) (rw_nil (cw_ret ?_))
 obtain rfl := some_inj hF
 exact ret1 Tryz.results83 (v1 := .bool ((r_1 && r_2) && ((x.Exp == 0) || (!r_3)))) (resAt_tmp rfl) ⟨rfl, (hS4.sN [])⟩

theorem c_impl_ringIf (out : TRing) (args : List TRing) (B : Option Addr) (c n : Nat) (w0 : World) (hn : args.length = n) (hS : ST w0 (bl [⟨B, 63, (args.flatMap enc_Ring), c * 4⟩]) w0 [⟨B, 63, (args.flatMap enc_Ring), c * 4⟩] []) {r_ : TRing} {r_1 : Bool} (hF : F_impl_ringIf out args = some (r_, r_1)) :
  CV Tryz.prog 143 #[gR_ out, .slice B n c] w0 (fun v w' => v = .tuple #[gR_ r_, .bool r_1] ∧ ST w0 (bl [⟨B, 63, (args.flatMap enc_Ring), c * 4⟩]) w' [] []) := by
 subst hn
 unfold F_impl_ringIf at hF
 refine cv_of_cw 23 Tryz.func143 rfl Tryz.ntmps143 rfl ?_
 refine cw_seq (cw_region ?_)
 refine sS 2 (Ys_box (T := 63) (v := gR_ out) (cs := kR_ out) (m := 4) hS rfl rfl rfl rfl) ?_
 rintro _ w_ ⟨b, rfl, hS1⟩
 refine sS 4 (Ys_alloc (T := 63) (cs := [vi 0, vi 0, vi 0, vi 0]) (m := 4) hS1 k_zero_63 rfl rfl rfl) ?_
 rintro _ w_1 ⟨b1, rfl, hS2⟩
 refine sQ 5 (Y_assign (v := .bool false) rfl rfl) (rw_nil (cw_seq (cw_seq (cw_region ?_))))
 refine sQ 8 (Y_move (v := .slice B args.length c) rfl rfl) ?_
 refine sQ 9 (Y_loadA (B := aD b) (i := 0) (cs := kR_ out) (vs := kR_ out) k_ag_63 k_sz_63_4 rfl rfl (hS2.cf (i := 1) rfl) rfl rfl) ?_
 refine sS 10 (Ys_bslice (s := 4) (len := 1) (vs := [(0, gR_ out)]) (cs := kR_ out) (zs := [vi 0, vi 0, vi 0, vi 0]) (m := 4) hS2 k_sl_169_63 k_sz_63_4 k_zc_63 rfl (mpc rfl mpn) rfl rfl rfl (by kernel_rfl) (by kernel_rfl) rfl) ?_
 rintro _ w_2 ⟨b2, rfl, hS3⟩
 obtain ⟨hap, hF⟩ := chk_inv hF
 refine sS 11 (Ys_append (s := 4) (by' := 32) (i := 0) (nn := args.length) (c := c) (k := 1) (len := (args ++ [out]).length) (B := B) (xs := ([out].flatMap enc_Ring)) (cs' := ((args ++ [out]).flatMap enc_Ring)) hS3 k_sl_169_63 k_sz_63_4 k_by_63_32 k_zero_63 rfl (by decide) rfl rfl rfl rfl (fm_lenn (l := args) enc_Ring_len rfl) rfl (hS3.cf (i := 3) rfl) (fm_lenn (l := [out]) enc_Ring_len rfl) (fm_one' (enc := enc_Ring) enc_Ring_one [out]) (by have := hap; omega) (by have := hap; simp only [maxLen]; omega) (fm_app _ _) (app_len (l := args) (l' := [out]) rfl rfl)) ?_
 rintro _ w_3 ⟨B1, c1, rfl, hS4⟩
 refine sQ 12 (Y_len (B := B1) (m := (args ++ [out]).length) (c := c1) k_sl_169_63 rfl rfl) ?_
 refine sQ 13 (Y_move (v := vi 0) rfl rfl) (rw_nil ?_)
 obtain ⟨hN, hF⟩ := chk_inv hF
 obtain ⟨z, hz, hF1⟩ := bind_inv hF
 refine cw_block ?_
 refine cw_loop (fun k f w => ∃ (i : Nat), FF f [(2, pt (aD b) 0), (4, pt (aD b1) 0), (11, .slice B1 ((args ++ [out]).length) c1), (12, vi ((args ++ [out]).length : Int)), (13, vi (i : Int))] ∧ ST w0 (bl [⟨B, 63, (args.flatMap enc_Ring), c * 4⟩]) w [⟨aD b, 63, kR_ out, 4⟩, ⟨aD b1, 63, [vi 0, vi 0, vi 0, vi 0], 4⟩, ⟨B1, 63, ((args ++ [out]).flatMap enc_Ring), c1 * 4⟩] [] ∧ i + k = (args ++ [out]).length ∧ forX (F_impl_ringIf_l1 args out) k i () = some z) ((args ++ [out]).length) ⟨0, (FF.cons rfl (FF.cons rfl (FF.cons rfl (FF.cons rfl (FF.cons rfl FF.nil))))), (hS4.sel [1, 2, 0] rfl rfl), Nat.zero_add _, hz⟩ ?_
 rintro k_ f w ⟨i, hf, hS5, hik, hL⟩
 refine cw_seq (cw_region ?_)
 refine sQ 14 (Y_lt (k := .i64) (a := (i : Int)) (b := ((args ++ [out]).length : Int)) rfl (hf.get 13 4 rfl) (hf.get 12 3 rfl)) (rw_nil (cw_seq ?_))
 refine cw_cond (b := (decide ((i : Int) < ((args ++ [out]).length : Int)))) rfl (fun hlt => ?_) (fun hlt => ?_)
 ·skip
  have hlt1 : i < (args ++ [out]).length := by have h := of_decide_eq_true hlt; omega
  obtain ⟨k_1, rfl⟩ : ∃ k2, k_ = k2 + 1 := ⟨k_ - 1, by omega⟩
  obtain ⟨y, hb, hL1⟩ := forX_go hL
  unfold F_impl_ringIf_l1 at hb
  refine cw_skip (cw_seq (cw_block (cw_seq (cw_region ?_))))
  obtain ⟨x, hx, hb⟩ := bind_inv hb
  refine sQ 15 (Y_index (B := B1) (m := (args ++ [out]).length) (c := c1) (k := .i64) (i := (i : Int)) k_sl_169_63 k_sz_63_4 rfl (hf.get 11 2 rfl) (hf.get 13 4 rfl) (gi_isSome enc_Ring_len rfl (hS5.cf (i := 2) rfl) hx) (getI_nn hx) (getI_ltI hx rfl)) ?_
  refine sQ 16 (Y_loadA (B := B1) (i := (i : Int).toNat * 4) (cs := ((args ++ [out]).flatMap enc_Ring)) (vs := kR_ x) k_ag_63 k_sz_63_4 rfl rfl (hS5.cf (i := 2) rfl) (enc_Ring_len x) (gi_seg enc_Ring_len hx)) ?_
  refine sS 7 (Ys_alloc (T := 63) (cs := [vi 0, vi 0, vi 0, vi 0]) (m := 4) hS5 k_zero_63 rfl rfl rfl) ?_
  rintro _ w_4 ⟨b3, rfl, hS6⟩
  refine s0 (Ys_store (i := 3) (s := 4) (B := aD b3) (T' := 63) (v := gR_ x) (vs := kR_ x) (k := 0) (cs' := kR_ x) hS6 k_sz_63_4 rfl rfl rfl rfl rfl rfl rfl (lB rfl) rfl rfl) ?_
  rintro _ w_5 ⟨rfl, hS7⟩
  refine rw_nil (cw_seq (cw_region ?_))
  refine sQ 17 (Y_loadA (B := aD b3) (i := 0) (cs := kR_ x) (vs := kR_ x) k_ag_63 k_sz_63_4 rfl rfl (hS7.cf (i := 3) rfl) rfl rfl) ?_
  obtain ⟨r_2, hc, hb⟩ := bind_inv hb
  refine sc 18 rfl rfl (Yc_func (g := 119) (vs := [gR_ x]) k_call_119 rfl (mc rfl mn) (c_impl_IsValidRing x _  (hS7.inn0 [] rfl) hc)) ?_
  rintro _ w_6 ⟨rfl, hd⟩
  have hS8 := hS7.out00 hd
  refine sQ 19 (Y_not (p := r_2) rfl rfl) (rw_nil ?_)
  refine cw_cond (b := (!r_2)) rfl (fun hb1 => ?_) (fun hb1 => ?_)
  ·skip
   have hF2 := ct hb hb1
   refine cw_seq (cw_region ?_)
   refine sQ 20 (Y_buildS (zs := [vi 0, vi 0, vi 0, vi 0]) (vs := []) (cs := [vi 0, vi 0, vi 0, vi 0]) k_pl_63 k_zero_63 rfl mpn rfl) ?_
   refine s0 (Ys_store (i := 1) (s := 4) (B := aD b1) (T' := 63) (v := .agg #[vi 0, vi 0, vi 0, vi 0]) (vs := [vi 0, vi 0, vi 0, vi 0]) (k := 0) (cs' := [vi 0, vi 0, vi 0, vi 0]) hS8 k_sz_63_4 rfl (hf.get 4 1 rfl) rfl rfl rfl rfl rfl (lB rfl) rfl rfl) ?_
   rintro _ w_7 ⟨rfl, hS9⟩
   refine sQ 5 (Y_assign (v := .bool false) rfl rfl) (rw_nil (cw_ret ?_))
   obtain rfl := some_inj hF2
   obtain rfl := some_inj hL1
   obtain ⟨rfl, rfl⟩ := pr2 (some_inj hF1)
   exact ret2 Tryz.results143 (v1 := .agg #[vi 0, vi 0, vi 0, vi 0]) (resAt_cellA (B := aD b1) (i := 0) (cs := [vi 0, vi 0, vi 0, vi 0]) (vs := [vi 0, vi 0, vi 0, vi 0]) (hf.get 4 1 rfl) k_ag_63 k_sz_63_4 (hS9.cf (i := 1) rfl) rfl rfl) (v2 := .bool false) (resAt_tmp rfl) ⟨rfl, (hS9.sN [])⟩
  ·skip
   have hF3 := cf' hb hb1
   refine cw_skip (cw_region ?_)
   refine sQ 21 (Y_add (k := .i64) (a := (i : Int)) (b := 1) rfl (hf.get 13 4 rfl) rfl) ?_
   refine sQ 13 (Y_move (v := vi (i64.wrap ((i : Int) + 1))) rfl rfl) (rw_nil ?_)
   obtain rfl := some_inj hF3
   exact ⟨k_1, Nat.lt_succ_self _, i + 1, (FF.cons (hf.get 2 0 rfl) (FF.cons (hf.get 4 1 rfl) (FF.cons (hf.get 11 2 rfl) (FF.cons (hf.get 12 3 rfl) (FF.cons (congrArg (Value.int .i64) (wr_succ hlt1 hN)) FF.nil))))), (hS8.sel [0, 1, 2] rfl rfl), (by omega), hL1⟩
 ·skip
  obtain rfl : k_ = 0 := by have h := of_decide_eq_false hlt; omega
  refine cw_exit rfl ?_
  obtain rfl := some_inj hL
  refine cw_seq (cw_region ?_)
  refine sQ 22 (Y_loadA (B := aD b) (i := 0) (cs := kR_ out) (vs := kR_ out) k_ag_63 k_sz_63_4 rfl (hf.get 2 0 rfl) (hS5.cf (i := 0) rfl) rfl rfl) ?_
  refine s0 (Ys_store (i := 1) (s := 4) (B := aD b1) (T' := 63) (v := gR_ out) (vs := kR_ out) (k := 0) (cs' := kR_ out) hS5 k_sz_63_4 rfl (hf.get 4 1 rfl) rfl rfl rfl rfl rfl (lB rfl) rfl rfl) ?_
  rintro _ w_8 ⟨rfl, hS10⟩
  refine sQ 5 (Y_assign (v := .bool true) rfl rfl) (rw_nil (cw_ret ?_))
  obtain ⟨rfl, rfl⟩ := pr2 (some_inj hF1)
  exact ret2 Tryz.results143 (v1 := gR_ out) (resAt_cellA (B := aD b1) (i := 0) (cs := kR_ out) (vs := kR_ out) (hf.get 4 1 rfl) k_ag_63 k_sz_63_4 (hS10.cf (i := 1) rfl) rfl rfl) (v2 := .bool true) (resAt_tmp rfl) ⟨rfl, (hS10.sN [])⟩

theorem c_impl_MulRing (x : TRing) (y : TRing)  (w0 : World)  (hS : ST w0 [] w0 [] []) {r_ : TRing} {r_1 : Bool} (hF : F_impl_MulRing x y = some (r_, r_1)) :
  CV Tryz.prog 121 #[gR_ x, gR_ y] w0 (fun v w' => v = .tuple #[gR_ r_, .bool r_1] ∧ ST w0 [] w' [] []) := by
 unfold F_impl_MulRing at hF
 refine cv_of_cw 105 Tryz.func121 rfl Tryz.ntmps121 rfl ?_
 refine cw_seq (cw_region ?_)
 refine sS 2 (Ys_box (T := 63) (v := gR_ x) (cs := kR_ x) (m := 4) hS rfl rfl rfl rfl) ?_
 rintro _ w_ ⟨b, rfl, hS1⟩
 refine sS 3 (Ys_box (T := 63) (v := gR_ y) (cs := kR_ y) (m := 4) hS1 rfl rfl rfl rfl) ?_
 rintro _ w_1 ⟨b1, rfl, hS2⟩
 refine sS 4 (Ys_alloc (T := 63) (cs := [vi 0, vi 0, vi 0, vi 0]) (m := 4) hS2 k_zero_63 rfl rfl rfl) ?_
 rintro _ w_2 ⟨b2, rfl, hS3⟩
 refine sQ 5 (Y_assign (v := .bool false) rfl rfl) (rw_nil (cw_seq (cw_region ?_)))
 refine sQ 6 (Y_fieldAddr (B := aD b) (i := 0) (s := 0) k_fd_63_0_0_3 k_sz_3_1 rfl rfl) ?_
 refine sQ 7 (Y_load1 (B := aD b) (i := 0) (cs := kR_ x) (v := vi x.A) k_sc_3 rfl rfl (hS3.cf (i := 0) rfl) rfl) ?_
 refine sQ 8 (Y_fieldAddr (B := aD b1) (i := 0) (s := 0) k_fd_63_0_0_3 k_sz_3_1 rfl rfl) ?_
 refine sQ 9 (Y_load1 (B := aD b1) (i := 0) (cs := kR_ y) (v := vi y.A) k_sc_3 rfl rfl (hS3.cf (i := 1) rfl) rfl) ?_
 refine sQ 10 (Y_mul (k := .i64) (a := x.A) (b := y.A) rfl rfl rfl) ?_
 refine sQ 11 (Y_fieldAddr (B := aD b) (i := 0) (s := 0) k_fd_63_1_1_3 k_sz_3_1 rfl rfl) ?_
 refine sQ 12 (Y_load1 (B := aD b) (i := 1) (cs := kR_ x) (v := vi x.B) k_sc_3 rfl rfl (hS3.cf (i := 0) rfl) rfl) ?_
 refine sQ 13 (Y_fieldAddr (B := aD b1) (i := 0) (s := 0) k_fd_63_3_3_3 k_sz_3_1 rfl rfl) ?_
 refine sQ 14 (Y_load1 (B := aD b1) (i := 3) (cs := kR_ y) (v := vi y.D) k_sc_3 rfl rfl (hS3.cf (i := 1) rfl) rfl) ?_
 refine sQ 15 (Y_mul (k := .i64) (a := x.B) (b := y.D) rfl rfl rfl) ?_
 refine sQ 16 (Y_sub (k := .i64) (a := (i64.wrap (x.A * y.A))) (b := (i64.wrap (x.B * y.D))) rfl rfl rfl) ?_
 refine sQ 17 (Y_fieldAddr (B := aD b) (i := 0) (s := 0) k_fd_63_2_2_3 k_sz_3_1 rfl rfl) ?_
 refine sQ 18 (Y_load1 (B := aD b) (i := 2) (cs := kR_ x) (v := vi x.C) k_sc_3 rfl rfl (hS3.cf (i := 0) rfl) rfl) ?_
 refine sQ 19 (Y_fieldAddr (B := aD b1) (i := 0) (s := 0) k_fd_63_2_2_3 k_sz_3_1 rfl rfl) ?_
 refine sQ 20 (Y_load1 (B := aD b1) (i := 2) (cs := kR_ y) (v := vi y.C) k_sc_3 rfl rfl (hS3.cf (i := 1) rfl) rfl) ?_
 refine sQ 21 (Y_mul (k := .i64) (a := x.C) (b := y.C) rfl rfl rfl) ?_
 refine sQ 22 (Y_sub (k := .i64) (a := (i64.wrap ((i64.wrap (x.A * y.A)) - (i64.wrap (x.B * y.D))))) (b := (i64.wrap (x.C * y.C))) rfl rfl rfl) ?_
 refine sQ 23 (Y_fieldAddr (B := aD b) (i := 0) (s := 0) k_fd_63_3_3_3 k_sz_3_1 rfl rfl) ?_
 refine sQ 24 (Y_load1 (B := aD b) (i := 3) (cs := kR_ x) (v := vi x.D) k_sc_3 rfl rfl (hS3.cf (i := 0) rfl) rfl) ?_
 refine sQ 25 (Y_fieldAddr (B := aD b1) (i := 0) (s := 0) k_fd_63_1_1_3 k_sz_3_1 rfl rfl) ?_
 refine sQ 26 (Y_load1 (B := aD b1) (i := 1) (cs := kR_ y) (v := vi y.B) k_sc_3 rfl rfl (hS3.cf (i := 1) rfl) rfl) ?_
 refine sQ 27 (Y_mul (k := .i64) (a := x.D) (b := y.B) rfl rfl rfl) ?_
 refine sQ 28 (Y_sub (k := .i64) (a := (i64.wrap ((i64.wrap ((i64.wrap (x.A * y.A)) - (i64.wrap (x.B * y.D)))) - (i64.wrap (x.C * y.C))))) (b := (i64.wrap (x.D * y.B))) rfl rfl rfl) ?_
 refine sQ 29 (Y_fieldAddr (B := aD b) (i := 0) (s := 0) k_fd_63_0_0_3 k_sz_3_1 rfl rfl) ?_
 refine sQ 30 (Y_load1 (B := aD b) (i := 0) (cs := kR_ x) (v := vi x.A) k_sc_3 rfl rfl (hS3.cf (i := 0) rfl) rfl) ?_
 refine sQ 31 (Y_fieldAddr (B := aD b1) (i := 0) (s := 0) k_fd_63_1_1_3 k_sz_3_1 rfl rfl) ?_
 refine sQ 32 (Y_load1 (B := aD b1) (i := 1) (cs := kR_ y) (v := vi y.B) k_sc_3 rfl rfl (hS3.cf (i := 1) rfl) rfl) ?_
 refine sQ 33 (Y_mul (k := .i64) (a := x.A) (b := y.B) rfl rfl rfl) ?_
 refine sQ 34 (Y_fieldAddr (B := aD b) (i := 0) (s := 0) k_fd_63_1_1_3 k_sz_3_1 rfl rfl) ?_
 refine sQ 35 (Y_load1 (B := aD b) (i := 1) (cs := kR_ x) (v := vi x.B) k_sc_3 rfl rfl (hS3.cf (i := 0) rfl) rfl) ?_
 refine sQ 36 (Y_fieldAddr (B := aD b1) (i := 0) (s := 0) k_fd_63_0_0_3 k_sz_3_1 rfl rfl) ?_
 refine sQ 37 (Y_load1 (B := aD b1) (i := 0) (cs := kR_ y) (v := vi y.A) k_sc_3 rfl rfl (hS3.cf (i := 1) rfl) rfl) ?_
 refine sQ 38 (Y_mul (k := .i64) (a := x.B) (b := y.A) rfl rfl rfl) ?_
 refine sQ 39 (Y_add (k := .i64) (a := (i64.wrap (x.A * y.B))) (b := (i64.wrap (x.B * y.A))) rfl rfl rfl) ?_
 refine sQ 40 (Y_fieldAddr (B := aD b) (i := 0) (s := 0) k_fd_63_2_2_3 k_sz_3_1 rfl rfl) ?_
 refine sQ 41 (Y_load1 (B := aD b) (i := 2) (cs := kR_ x) (v := vi x.C) k_sc_3 rfl rfl (hS3.cf (i := 0) rfl) rfl) ?_
 refine sQ 42 (Y_fieldAddr (B := aD b1) (i := 0) (s := 0) k_fd_63_3_3_3 k_sz_3_1 rfl rfl) ?_
 refine sQ 43 (Y_load1 (B := aD b1) (i := 3) (cs := kR_ y) (v := vi y.D) k_sc_3 rfl rfl (hS3.cf (i := 1) rfl) rfl) ?_
 refine sQ 44 (Y_mul (k := .i64) (a := x.C) (b := y.D) rfl rfl rfl) ?_
 refine sQ 45 (Y_sub (k := .i64) (a := (i64.wrap ((i64.wrap (x.A * y.B)) + (i64.wrap (x.B * y.A))))) (b := (i64.wrap (x.C * y.D))) rfl rfl rfl) ?_
 refine sQ 46 (Y_fieldAddr (B := aD b) (i := 0) (s := 0) k_fd_63_3_3_3 k_sz_3_1 rfl rfl) ?_
 refine sQ 47 (Y_load1 (B := aD b) (i := 3) (cs := kR_ x) (v := vi x.D) k_sc_3 rfl rfl (hS3.cf (i := 0) rfl) rfl) ?_
 refine sQ 48 (Y_fieldAddr (B := aD b1) (i := 0) (s := 0) k_fd_63_2_2_3 k_sz_3_1 rfl rfl) ?_
 refine sQ 49 (Y_load1 (B := aD b1) (i := 2) (cs := kR_ y) (v := vi y.C) k_sc_3 rfl rfl (hS3.cf (i := 1) rfl) rfl) ?_
 refine sQ 50 (Y_mul (k := .i64) (a := x.D) (b := y.C) rfl rfl rfl) ?_
 refine sQ 51 (Y_sub (k := .i64) (a := (i64.wrap ((i64.wrap ((i64.wrap (x.A * y.B)) + (i64.wrap (x.B * y.A)))) - (i64.wrap (x.C * y.D))))) (b := (i64.wrap (x.D * y.C))) rfl rfl rfl) ?_
 refine sQ 52 (Y_fieldAddr (B := aD b) (i := 0) (s := 0) k_fd_63_0_0_3 k_sz_3_1 rfl rfl) ?_
 refine sQ 53 (Y_load1 (B := aD b) (i := 0) (cs := kR_ x) (v := vi x.A) k_sc_3 rfl rfl (hS3.cf (i := 0) rfl) rfl) ?_
 refine sQ 54 (Y_fieldAddr (B := aD b1) (i := 0) (s := 0) k_fd_63_2_2_3 k_sz_3_1 rfl rfl) ?_
 refine sQ 55 (Y_load1 (B := aD b1) (i := 2) (cs := kR_ y) (v := vi y.C) k_sc_3 rfl rfl (hS3.cf (i := 1) rfl) rfl) ?_
 refine sQ 56 (Y_mul (k := .i64) (a := x.A) (b := y.C) rfl rfl rfl) ?_
 refine sQ 57 (Y_fieldAddr (B := aD b) (i := 0) (s := 0) k_fd_63_1_1_3 k_sz_3_1 rfl rfl) ?_
 refine sQ 58 (Y_load1 (B := aD b) (i := 1) (cs := kR_ x) (v := vi x.B) k_sc_3 rfl rfl (hS3.cf (i := 0) rfl) rfl) ?_
 refine sQ 59 (Y_fieldAddr (B := aD b1) (i := 0) (s := 0) k_fd_63_1_1_3 k_sz_3_1 rfl rfl) ?_
 refine sQ 60 (Y_load1 (B := aD b1) (i := 1) (cs := kR_ y) (v := vi y.B) k_sc_3 rfl rfl (hS3.cf (i := 1) rfl) rfl) ?_
 refine sQ 61 (Y_mul (k := .i64) (a := x.B) (b := y.B) rfl rfl rfl) ?_
 refine sQ 62 (Y_add (k := .i64) (a := (i64.wrap (x.A * y.C))) (b := (i64.wrap (x.B * y.B))) rfl rfl rfl) ?_
 refine sQ 63 (Y_fieldAddr (B := aD b) (i := 0) (s := 0) k_fd_63_2_2_3 k_sz_3_1 rfl rfl) ?_
 refine sQ 64 (Y_load1 (B := aD b) (i := 2) (cs := kR_ x) (v := vi x.C) k_sc_3 rfl rfl (hS3.cf (i := 0) rfl) rfl) ?_
 refine sQ 65 (Y_fieldAddr (B := aD b1) (i := 0) (s := 0) k_fd_63_0_0_3 k_sz_3_1 rfl rfl) ?_
 refine sQ 66 (Y_load1 (B := aD b1) (i := 0) (cs := kR_ y) (v := vi y.A) k_sc_3 rfl rfl (hS3.cf (i := 1) rfl) rfl) ?_
 refine sQ 67 (Y_mul (k := .i64) (a := x.C) (b := y.A) rfl rfl rfl) ?_
 refine sQ 68 (Y_add (k := .i64) (a := (i64.wrap ((i64.wrap (x.A * y.C)) + (i64.wrap (x.B * y.B))))) (b := (i64.wrap (x.C * y.A))) rfl rfl rfl) ?_
 refine sQ 69 (Y_fieldAddr (B := aD b) (i := 0) (s := 0) k_fd_63_3_3_3 k_sz_3_1 rfl rfl) ?_
 refine sQ 70 (Y_load1 (B := aD b) (i := 3) (cs := kR_ x) (v := vi x.D) k_sc_3 rfl rfl (hS3.cf (i := 0) rfl) rfl) ?_
 refine sQ 71 (Y_fieldAddr (B := aD b1) (i := 0) (s := 0) k_fd_63_3_3_3 k_sz_3_1 rfl rfl) ?_
 refine sQ 72 (Y_load1 (B := aD b1) (i := 3) (cs := kR_ y) (v := vi y.D) k_sc_3 rfl rfl (hS3.cf (i := 1) rfl) rfl) ?_
 refine sQ 73 (Y_mul (k := .i64) (a := x.D) (b := y.D) rfl rfl rfl) ?_
 refine sQ 74 (Y_sub (k := .i64) (a := (i64.wrap ((i64.wrap ((i64.wrap (x.A * y.C)) + (i64.wrap (x.B * y.B)))) + (i64.wrap (x.C * y.A))))) (b := (i64.wrap (x.D * y.D))) rfl rfl rfl) ?_
 refine sQ 75 (Y_fieldAddr (B := aD b) (i := 0) (s := 0) k_fd_63_0_0_3 k_sz_3_1 rfl rfl) ?_
 refine sQ 76 (Y_load1 (B := aD b) (i := 0) (cs := kR_ x) (v := vi x.A) k_sc_3 rfl rfl (hS3.cf (i := 0) rfl) rfl) ?_
 refine sQ 77 (Y_fieldAddr (B := aD b1) (i := 0) (s := 0) k_fd_63_3_3_3 k_sz_3_1 rfl rfl) ?_
 refine sQ 78 (Y_load1 (B := aD b1) (i := 3) (cs := kR_ y) (v := vi y.D) k_sc_3 rfl rfl (hS3.cf (i := 1) rfl) rfl) ?_
 refine sQ 79 (Y_mul (k := .i64) (a := x.A) (b := y.D) rfl rfl rfl) ?_
 refine sQ 80 (Y_fieldAddr (B := aD b) (i := 0) (s := 0) k_fd_63_1_1_3 k_sz_3_1 rfl rfl) ?_
 refine sQ 81 (Y_load1 (B := aD b) (i := 1) (cs := kR_ x) (v := vi x.B) k_sc_3 rfl rfl (hS3.cf (i := 0) rfl) rfl) ?_
 refine sQ 82 (Y_fieldAddr (B := aD b1) (i := 0) (s := 0) k_fd_63_2_2_3 k_sz_3_1 rfl rfl) ?_
 refine sQ 83 (Y_load1 (B := aD b1) (i := 2) (cs := kR_ y) (v := vi y.C) k_sc_3 rfl rfl (hS3.cf (i := 1) rfl) rfl) ?_
 refine sQ 84 (Y_mul (k := .i64) (a := x.B) (b := y.C) rfl rfl rfl) ?_
 refine sQ 85 (Y_add (k := .i64) (a := (i64.wrap (x.A * y.D))) (b := (i64.wrap (x.B * y.C))) rfl rfl rfl) ?_
 refine sQ 86 (Y_fieldAddr (B := aD b) (i := 0) (s := 0) k_fd_63_2_2_3 k_sz_3_1 rfl rfl) ?_
 refine sQ 87 (Y_load1 (B := aD b) (i := 2) (cs := kR_ x) (v := vi x.C) k_sc_3 rfl rfl (hS3.cf (i := 0) rfl) rfl) ?_
 refine sQ 88 (Y_fieldAddr (B := aD b1) (i := 0) (s := 0) k_fd_63_1_1_3 k_sz_3_1 rfl rfl) ?_
 refine sQ 89 (Y_load1 (B := aD b1) (i := 1) (cs := kR_ y) (v := vi y.B) k_sc_3 rfl rfl (hS3.cf (i := 1) rfl) rfl) ?_
 refine sQ 90 (Y_mul (k := .i64) (a := x.C) (b := y.B) rfl rfl rfl) ?_
 refine sQ 91 (Y_add (k := .i64) (a := (i64.wrap ((i64.wrap (x.A * y.D)) + (i64.wrap (x.B * y.C))))) (b := (i64.wrap (x.C * y.B))) rfl rfl rfl) ?_
 refine sQ 92 (Y_fieldAddr (B := aD b) (i := 0) (s := 0) k_fd_63_3_3_3 k_sz_3_1 rfl rfl) ?_
 refine sQ 93 (Y_load1 (B := aD b) (i := 3) (cs := kR_ x) (v := vi x.D) k_sc_3 rfl rfl (hS3.cf (i := 0) rfl) rfl) ?_
 refine sQ 94 (Y_fieldAddr (B := aD b1) (i := 0) (s := 0) k_fd_63_0_0_3 k_sz_3_1 rfl rfl) ?_
 refine sQ 95 (Y_load1 (B := aD b1) (i := 0) (cs := kR_ y) (v := vi y.A) k_sc_3 rfl rfl (hS3.cf (i := 1) rfl) rfl) ?_
 refine sQ 96 (Y_mul (k := .i64) (a := x.D) (b := y.A) rfl rfl rfl) ?_
 refine sQ 97 (Y_add (k := .i64) (a := (i64.wrap ((i64.wrap ((i64.wrap (x.A * y.D)) + (i64.wrap (x.B * y.C)))) + (i64.wrap (x.C * y.B))))) (b := (i64.wrap (x.D * y.A))) rfl rfl rfl) ?_
 refine sQ 98 (Y_buildS (zs := [vi 0, vi 0, vi 0, vi 0]) (vs := [(0, vi (i64.wrap ((i64.wrap ((i64.wrap ((i64.wrap (x.A * y.A)) - (i64.wrap (x.B * y.D)))) - (i64.wrap (x.C * y.C)))) - (i64.wrap (x.D * y.B))))), (1, vi (i64.wrap ((i64.wrap ((i64.wrap ((i64.wrap (x.A * y.B)) + (i64.wrap (x.B * y.A)))) - (i64.wrap (x.C * y.D)))) - (i64.wrap (x.D * y.C))))), (2, vi (i64.wrap ((i64.wrap ((i64.wrap ((i64.wrap (x.A * y.C)) + (i64.wrap (x.B * y.B)))) + (i64.wrap (x.C * y.A)))) - (i64.wrap (x.D * y.D))))), (3, vi (i64.wrap ((i64.wrap ((i64.wrap ((i64.wrap (x.A * y.D)) + (i64.wrap (x.B * y.C)))) + (i64.wrap (x.C * y.B)))) + (i64.wrap (x.D * y.A)))))]) (cs := [vi (i64.wrap ((i64.wrap ((i64.wrap ((i64.wrap (x.A * y.A)) - (i64.wrap (x.B * y.D)))) - (i64.wrap (x.C * y.C)))) - (i64.wrap (x.D * y.B)))), vi (i64.wrap ((i64.wrap ((i64.wrap ((i64.wrap (x.A * y.B)) + (i64.wrap (x.B * y.A)))) - (i64.wrap (x.C * y.D)))) - (i64.wrap (x.D * y.C)))), vi (i64.wrap ((i64.wrap ((i64.wrap ((i64.wrap (x.A * y.C)) + (i64.wrap (x.B * y.B)))) + (i64.wrap (x.C * y.A)))) - (i64.wrap (x.D * y.D)))), vi (i64.wrap ((i64.wrap ((i64.wrap ((i64.wrap (x.A * y.D)) + (i64.wrap (x.B * y.C)))) + (i64.wrap (x.C * y.B)))) + (i64.wrap (x.D * y.A))))]) k_pl_63 k_zero_63 rfl (mpc rfl (mpc rfl (mpc rfl (mpc rfl mpn)))) rfl) ?_
 refine sQ 99 (Y_loadA (B := aD b) (i := 0) (cs := kR_ x) (vs := kR_ x) k_ag_63 k_sz_63_4 rfl rfl (hS3.cf (i := 0) rfl) rfl rfl) ?_
 refine sQ 100 (Y_loadA (B := aD b1) (i := 0) (cs := kR_ y) (vs := kR_ y) k_ag_63 k_sz_63_4 rfl rfl (hS3.cf (i := 1) rfl) rfl rfl) ?_
 refine sS 101 (Ys_bslice (s := 4) (len := 2) (vs := [(0, gR_ x), (1, gR_ y)]) (cs := [vi x.A, vi x.B, vi x.C, vi x.D, vi y.A, vi y.B, vi y.C, vi y.D]) (zs := [vi 0, vi 0, vi 0, vi 0, vi 0, vi 0, vi 0, vi 0]) (m := 8) hS3 k_sl_169_63 k_sz_63_4 k_zc_63 rfl (mpc rfl (mpc rfl mpn)) rfl rfl rfl (by kernel_rfl) (by kernel_rfl) rfl) ?_
 rintro _ w_3 ⟨b3, rfl, hS4⟩
 obtain ⟨⟨r_2, r_3⟩, hc, hF⟩ := bind_inv hF
 refine sc 102 rfl rfl (Yc_func (g := 143) (vs := [.agg #[vi (i64.wrap ((i64.wrap ((i64.wrap ((i64.wrap (x.A * y.A)) - (i64.wrap (x.B * y.D)))) - (i64.wrap (x.C * y.C)))) - (i64.wrap (x.D * y.B)))), vi (i64.wrap ((i64.wrap ((i64.wrap ((i64.wrap (x.A * y.B)) + (i64.wrap (x.B * y.A)))) - (i64.wrap (x.C * y.D)))) - (i64.wrap (x.D * y.C)))), vi (i64.wrap ((i64.wrap ((i64.wrap ((i64.wrap (x.A * y.C)) + (i64.wrap (x.B * y.B)))) + (i64.wrap (x.C * y.A)))) - (i64.wrap (x.D * y.D)))), vi (i64.wrap ((i64.wrap ((i64.wrap ((i64.wrap (x.A * y.D)) + (i64.wrap (x.B * y.C)))) + (i64.wrap (x.C * y.B)))) + (i64.wrap (x.D * y.A))))], .slice (aD b3) 2 2]) k_call_143 rfl (mc rfl (mc rfl mn)) (c_impl_ringIf (TRing.mk (i64.wrap ((i64.wrap ((i64.wrap ((i64.wrap (x.A * y.A)) - (i64.wrap (x.B * y.D)))) - (i64.wrap (x.C * y.C)))) - (i64.wrap (x.D * y.B)))) (i64.wrap ((i64.wrap ((i64.wrap ((i64.wrap (x.A * y.B)) + (i64.wrap (x.B * y.A)))) - (i64.wrap (x.C * y.D)))) - (i64.wrap (x.D * y.C)))) (i64.wrap ((i64.wrap ((i64.wrap ((i64.wrap (x.A * y.C)) + (i64.wrap (x.B * y.B)))) + (i64.wrap (x.C * y.A)))) - (i64.wrap (x.D * y.D)))) (i64.wrap ((i64.wrap ((i64.wrap ((i64.wrap (x.A * y.D)) + (i64.wrap (x.B * y.C)))) + (i64.wrap (x.C * y.B)))) + (i64.wrap (x.D * y.A))))) [x, y] (aD b3) 2 2 _ rfl (hS4.inn [false, false, false, true] rfl [] rfl) hc)) ?_
 rintro _ w_4 ⟨rfl, hd⟩
 have hS5 := hS4.out [false, false, false, true] rfl hd
 refine sQ 103 (Y_extract (v := gR_ r_2) rfl rfl rfl) ?_
 refine sQ 104 (Y_extract (v := .bool r_3) rfl rfl rfl) ?_
 refine s0 (Ys_store (i := 2) (s := 4) (B := aD b2) (T' := 63) (v := gR_ r_2) (vs := kR_ r_2) (k := 0) (cs' := kR_ r_2) hS5 k_sz_63_4 rfl rfl rfl rfl rfl rfl rfl (lB rfl) rfl rfl) ?_
 rintro _ w_5 ⟨rfl, hS6⟩
 refine sQ 5 (Y_assign (v := .bool r_3) rfl rfl) (rw_nil (cw_ret ?_))
 obtain ⟨rfl, rfl⟩ := pr2 (some_inj hF)
 exact ret2 Tryz.results121 (v1 := gR_ r_2) (resAt_cellA (B := aD b2) (i := 0) (cs := kR_ r_2) (vs := kR_ r_2) rfl k_ag_63 k_sz_63_4 (hS6.cf (i := 2) rfl) rfl rfl) (v2 := .bool r_3) (resAt_tmp rfl) ⟨rfl, (hS6.sN [])⟩

theorem c_impl_DivRootTwo (x : TRing)  (w0 : World)  (hS : ST w0 [] w0 [] []) {r_ : TRing} {r_1 : Bool} (hF : F_impl_DivRootTwo x = some (r_, r_1)) :
  CV Tryz.prog 144 #[gR_ x] w0 (fun v w' => v = .tuple #[gR_ r_, .bool r_1] ∧ ST w0 [] w' [] []) := by
 unfold F_impl_DivRootTwo at hF
 refine cv_of_cw 43 Tryz.func144 rfl Tryz.ntmps144 rfl ?_
 refine cw_seq (cw_region ?_)
 refine sS 1 (Ys_box (T := 63) (v := gR_ x) (cs := kR_ x) (m := 4) hS rfl rfl rfl rfl) ?_
 rintro _ w_ ⟨b, rfl, hS1⟩
 refine sS 2 (Ys_alloc (T := 63) (cs := [vi 0, vi 0, vi 0, vi 0]) (m := 4) hS1 k_zero_63 rfl rfl rfl) ?_
 rintro _ w_1 ⟨b1, rfl, hS2⟩
 refine sQ 3 (Y_assign (v := .bool false) rfl rfl) (rw_nil (cw_seq (cw_seq (cw_region ?_))))
 refine sQ 4 (Y_loadA (B := aD b) (i := 0) (cs := kR_ x) (vs := kR_ x) k_ag_63 k_sz_63_4 rfl rfl (hS2.cf (i := 0) rfl) rfl rfl) ?_
 obtain ⟨r_2, hc, hF⟩ := bind_inv hF
 refine sc 5 rfl rfl (Yc_func (g := 119) (vs := [gR_ x]) k_call_119 rfl (mc rfl mn) (c_impl_IsValidRing x _  (hS2.inn0 [] rfl) hc)) ?_
 rintro _ w_2 ⟨rfl, hd⟩
 have hS3 := hS2.out00 hd
 refine sQ 6 (Y_not (p := r_2) rfl rfl) ?_
 refine sQ 7 (Y_move (v := .bool (!r_2)) rfl rfl) ?_
 refine sgq 8 (B := (!(!r_2))) (v := gR_ x) rfl rfl (uF_ 7) (fun hg => (Y_loadA (B := aD b) (i := 0) (cs := kR_ x) (vs := kR_ x) k_ag_63 k_sz_63_4 rfl rfl (hS3.cf (i := 0) rfl) rfl rfl)) ?_
 obtain ⟨r_3, hc1, hF⟩ := bind_inv hF
 refine sgc 9 (B := (!(!r_2))) (v := .bool r_3) (F := hS3.fn) rfl rfl (uF_ 7) hS3 (fun hg1 => (Yc_func (g := 120) (vs := [gR_ x]) k_call_120 rfl (mc (gv_of (v := gR_ x) hg1) mn) (CV.mono (c_impl_isEven x _  (hS3.inn0 [] rfl) (gb_inv hc1 hg1)) (by rintro _ _ ⟨rfl, h⟩; exact ⟨rfl, hS3.out00 h⟩)))) ?_
 rintro w_3 hS4
 refine sgq 10 (B := (!(!r_2))) (v := .bool (!r_3)) rfl rfl (uF_ 7) (fun hg2 => (Y_not (p := r_3) rfl (gv_of (v := .bool r_3) hg2))) ?_
 refine sQ 11 (Y_or (b := (!r_2)) (z := (!r_3)) rfl rfl rfl rfl) (rw_nil ?_)
 refine cw_cond (b := ((!r_2) || (!r_3))) rfl (fun hb => ?_) (fun hb => ?_)
 ·skip
  have hF1 := ct hF hb
  refine cw_seq (cw_region ?_)
  refine sQ 12 (Y_buildS (zs := [vi 0, vi 0, vi 0, vi 0]) (vs := []) (cs := [vi 0, vi 0, vi 0, vi 0]) k_pl_63 k_zero_63 rfl mpn rfl) ?_
  refine s0 (Ys_store (i := 1) (s := 4) (B := aD b1) (T' := 63) (v := .agg #[vi 0, vi 0, vi 0, vi 0]) (vs := [vi 0, vi 0, vi 0, vi 0]) (k := 0) (cs' := [vi 0, vi 0, vi 0, vi 0]) hS4 k_sz_63_4 rfl rfl rfl rfl rfl rfl rfl (lB rfl) rfl rfl) ?_
  rintro _ w_4 ⟨rfl, hS5⟩
  refine sQ 3 (Y_assign (v := .bool false) rfl rfl) (rw_nil (cw_ret ?_))
  obtain ⟨rfl, rfl⟩ := pr2 (some_inj hF1)
  exact ret2 Tryz.results144 (v1 := .agg #[vi 0, vi 0, vi 0, vi 0]) (resAt_cellA (B := aD b1) (i := 0) (cs := [vi 0, vi 0, vi 0, vi 0]) (vs := [vi 0, vi 0, vi 0, vi 0]) rfl k_ag_63 k_sz_63_4 (hS5.cf (i := 1) rfl) rfl rfl) (v2 := .bool false) (resAt_tmp rfl) ⟨rfl, (hS5.sN [])⟩
 ·skip
  have hF2 := cf' hF hb
  refine cw_skip (cw_seq (cw_region ?_))
  refine sQ 13 (Y_fieldAddr (B := aD b) (i := 0) (s := 0) k_fd_63_1_1_3 k_sz_3_1 rfl rfl) ?_
  refine sQ 14 (Y_load1 (B := aD b) (i := 1) (cs := kR_ x) (v := vi x.B) k_sc_3 rfl rfl (hS4.cf (i := 0) rfl) rfl) ?_
  refine sQ 15 (Y_fieldAddr (B := aD b) (i := 0) (s := 0) k_fd_63_3_3_3 k_sz_3_1 rfl rfl) ?_
  refine sQ 16 (Y_load1 (B := aD b) (i := 3) (cs := kR_ x) (v := vi x.D) k_sc_3 rfl rfl (hS4.cf (i := 0) rfl) rfl) ?_
  refine sQ 17 (Y_sub (k := .i64) (a := x.B) (b := x.D) rfl rfl rfl) ?_
  refine sQ 18 (Y_quo (k := .i64) (a := (i64.wrap (x.B - x.D))) (b := 2) rfl rfl rfl (by decide)) ?_
  refine sQ 19 (Y_fieldAddr (B := aD b) (i := 0) (s := 0) k_fd_63_0_0_3 k_sz_3_1 rfl rfl) ?_
  refine sQ 20 (Y_load1 (B := aD b) (i := 0) (cs := kR_ x) (v := vi x.A) k_sc_3 rfl rfl (hS4.cf (i := 0) rfl) rfl) ?_
  refine sQ 21 (Y_fieldAddr (B := aD b) (i := 0) (s := 0) k_fd_63_2_2_3 k_sz_3_1 rfl rfl) ?_
  refine sQ 22 (Y_load1 (B := aD b) (i := 2) (cs := kR_ x) (v := vi x.C) k_sc_3 rfl rfl (hS4.cf (i := 0) rfl) rfl) ?_
  refine sQ 23 (Y_add (k := .i64) (a := x.A) (b := x.C) rfl rfl rfl) ?_
  refine sQ 24 (Y_quo (k := .i64) (a := (i64.wrap (x.A + x.C))) (b := 2) rfl rfl rfl (by decide)) ?_
  refine sQ 25 (Y_fieldAddr (B := aD b) (i := 0) (s := 0) k_fd_63_1_1_3 k_sz_3_1 rfl rfl) ?_
  refine sQ 26 (Y_load1 (B := aD b) (i := 1) (cs := kR_ x) (v := vi x.B) k_sc_3 rfl rfl (hS4.cf (i := 0) rfl) rfl) ?_
  refine sQ 27 (Y_fieldAddr (B := aD b) (i := 0) (s := 0) k_fd_63_3_3_3 k_sz_3_1 rfl rfl) ?_
  refine sQ 28 (Y_load1 (B := aD b) (i := 3) (cs := kR_ x) (v := vi x.D) k_sc_3 rfl rfl (hS4.cf (i := 0) rfl) rfl) ?_
  refine sQ 29 (Y_add (k := .i64) (a := x.B) (b := x.D) rfl rfl rfl) ?_
  refine sQ 30 (Y_quo (k := .i64) (a := (i64.wrap (x.B + x.D))) (b := 2) rfl rfl rfl (by decide)) ?_
  refine sQ 31 (Y_fieldAddr (B := aD b) (i := 0) (s := 0) k_fd_63_2_2_3 k_sz_3_1 rfl rfl) ?_
  refine sQ 32 (Y_load1 (B := aD b) (i := 2) (cs := kR_ x) (v := vi x.C) k_sc_3 rfl rfl (hS4.cf (i := 0) rfl) rfl) ?_
  refine sQ 33 (Y_fieldAddr (B := aD b) (i := 0) (s := 0) k_fd_63_0_0_3 k_sz_3_1 rfl rfl) ?_
  refine sQ 34 (Y_load1 (B := aD b) (i := 0) (cs := kR_ x) (v := vi x.A) k_sc_3 rfl rfl (hS4.cf (i := 0) rfl) rfl) ?_
  refine sQ 35 (Y_sub (k := .i64) (a := x.C) (b := x.A) rfl rfl rfl) ?_
  refine sQ 36 (Y_quo (k := .i64) (a := (i64.wrap (x.C - x.A))) (b := 2) rfl rfl rfl (by decide)) ?_
  refine sQ 37 (Y_buildS (zs := [vi 0, vi 0, vi 0, vi 0]) (vs := [(0, vi (i64.wrap (Int.tdiv (i64.wrap (x.B - x.D)) 2))), (1, vi (i64.wrap (Int.tdiv (i64.wrap (x.A + x.C)) 2))), (2, vi (i64.wrap (Int.tdiv (i64.wrap (x.B + x.D)) 2))), (3, vi (i64.wrap (Int.tdiv (i64.wrap (x.C - x.A)) 2)))]) (cs := [vi (i64.wrap (Int.tdiv (i64.wrap (x.B - x.D)) 2)), vi (i64.wrap (Int.tdiv (i64.wrap (x.A + x.C)) 2)), vi (i64.wrap (Int.tdiv (i64.wrap (x.B + x.D)) 2)), vi (i64.wrap (Int.tdiv (i64.wrap (x.C - x.A)) 2))]) k_pl_63 k_zero_63 rfl (mpc rfl (mpc rfl (mpc rfl (mpc rfl mpn)))) rfl) ?_
  refine sQ 38 (Y_loadA (B := aD b) (i := 0) (cs := kR_ x) (vs := kR_ x) k_ag_63 k_sz_63_4 rfl rfl (hS4.cf (i := 0) rfl) rfl rfl) ?_
  refine sS 39 (Ys_bslice (s := 4) (len := 1) (vs := [(0, gR_ x)]) (cs := kR_ x) (zs := [vi 0, vi 0, vi 0, vi 0]) (m := 4) hS4 k_sl_169_63 k_sz_63_4 k_zc_63 rfl (mpc rfl mpn) rfl rfl rfl (by kernel_rfl) (by kernel_rfl) rfl) ?_
  rintro _ w_5 ⟨b2, rfl, hS6⟩
  obtain ⟨⟨r_4, r_5⟩, hc2, hF2⟩ := bind_inv hF2
  refine sc 40 rfl rfl (Yc_func (g := 143) (vs := [.agg #[vi (i64.wrap (Int.tdiv (i64.wrap (x.B - x.D)) 2)), vi (i64.wrap (Int.tdiv (i64.wrap (x.A + x.C)) 2)), vi (i64.wrap (Int.tdiv (i64.wrap (x.B + x.D)) 2)), vi (i64.wrap (Int.tdiv (i64.wrap (x.C - x.A)) 2))], .slice (aD b2) 1 1]) k_call_143 rfl (mc rfl (mc rfl mn)) (c_impl_ringIf (TRing.mk (i64.wrap (Int.tdiv (i64.wrap (x.B - x.D)) 2)) (i64.wrap (Int.tdiv (i64.wrap (x.A + x.C)) 2)) (i64.wrap (Int.tdiv (i64.wrap (x.B + x.D)) 2)) (i64.wrap (Int.tdiv (i64.wrap (x.C - x.A)) 2))) [x] (aD b2) 1 1 _ rfl (hS6.inn [false, false, true] rfl [] rfl) hc2)) ?_
  rintro _ w_6 ⟨rfl, hd1⟩
  have hS7 := hS6.out [false, false, true] rfl hd1
  refine sQ 41 (Y_extract (v := gR_ r_4) rfl rfl rfl) ?_
  refine sQ 42 (Y_extract (v := .bool r_5) rfl rfl rfl) ?_
  refine s0 (Ys_store (i := 1) (s := 4) (B := aD b1) (T' := 63) (v := gR_ r_4) (vs := kR_ r_4) (k := 0) (cs' := kR_ r_4) hS7 k_sz_63_4 rfl rfl rfl rfl rfl rfl rfl (lB rfl) rfl rfl) ?_
  rintro _ w_7 ⟨rfl, hS8⟩
  refine sQ 3 (Y_assign (v := .bool r_5) rfl rfl) (rw_nil (cw_ret ?_))
  obtain ⟨rfl, rfl⟩ := pr2 (some_inj hF2)
  exact ret2 Tryz.results144 (v1 := gR_ r_4) (resAt_cellA (B := aD b1) (i := 0) (cs := kR_ r_4) (vs := kR_ r_4) rfl k_ag_63 k_sz_63_4 (hS8.cf (i := 1) rfl) rfl rfl) (v2 := .bool r_5) (resAt_tmp rfl) ⟨rfl, (hS8.sN [])⟩

theorem c_impl_DyadicOf (num : TRing) (exp : Int)  (w0 : World)  (hS : ST w0 [] w0 [] []) {r_ : TDyadic} {r_1 : Bool} (hF : F_impl_DyadicOf num exp = some (r_, r_1)) :
  CV Tryz.prog 122 #[gR_ num, vi exp] w0 (fun v w' => v = .tuple #[gD_ r_, .bool r_1] ∧ ST w0 [] w' [] []) := by
 unfold F_impl_DyadicOf at hF
 refine cv_of_cw 31 Tryz.func122 rfl Tryz.ntmps122 rfl ?_
 refine cw_seq (cw_region ?_)
 refine sS 2 (Ys_box (T := 63) (v := gR_ num) (cs := kR_ num) (m := 4) hS rfl rfl rfl rfl) ?_
 rintro _ w_ ⟨b, rfl, hS1⟩
 refine sS 4 (Ys_alloc (T := 65) (cs := kZ_) (m := 5) hS1 k_zero_65 rfl rfl rfl) ?_
 rintro _ w_1 ⟨b1, rfl, hS2⟩
 refine sQ 5 (Y_assign (v := .bool false) rfl rfl) (rw_nil (cw_seq (cw_seq (cw_region ?_))))
 refine sQ 6 (Y_loadA (B := aD b) (i := 0) (cs := kR_ num) (vs := kR_ num) k_ag_63 k_sz_63_4 rfl rfl (hS2.cf (i := 0) rfl) rfl rfl) ?_
 obtain ⟨r_2, hc, hF⟩ := bind_inv hF
 refine sc 7 rfl rfl (Yc_func (g := 119) (vs := [gR_ num]) k_call_119 rfl (mc rfl mn) (c_impl_IsValidRing num _  (hS2.inn0 [] rfl) hc)) ?_
 rintro _ w_2 ⟨rfl, hd⟩
 have hS3 := hS2.out00 hd
 refine sQ 8 (Y_not (p := r_2) rfl rfl) ?_
 refine sQ 9 (Y_move (v := .bool (!r_2)) rfl rfl) ?_
 refine sgq 10 (B := (!(!r_2))) (v := vi exp) rfl rfl (uF_ 9) (fun hg => (Y_move (v := vi exp) rfl rfl)) ?_
 obtain ⟨r_3, hc1, hF⟩ := bind_inv hF
 refine sgc 11 (B := (!(!r_2))) (v := .bool r_3) (F := hS3.fn) rfl rfl (uF_ 9) hS3 (fun hg1 => (Yc_func (g := 73) (vs := [vi exp, vi 0, vi 60]) k_call_73 rfl (mc (gv_of (v := vi exp) hg1) (mc rfl (mc rfl mn))) (CV.mono (c_impl_within exp 0 60 _  (hS3.inn0 [] rfl) (gb_inv hc1 hg1)) (by rintro _ _ ⟨rfl, h⟩; exact ⟨rfl, hS3.out00 h⟩)))) ?_
 rintro w_3 hS4
 refine sgq 12 (B := (!(!r_2))) (v := .bool (!r_3)) rfl rfl (uF_ 9) (fun hg2 => (Y_not (p := r_3) rfl (gv_of (v := .bool r_3) hg2))) ?_
 refine sQ 13 (Y_or (b := (!r_2)) (z := (!r_3)) rfl rfl rfl rfl) (rw_nil ?_)
 refine cw_cond (b := ((!r_2) || (!r_3))) rfl (fun hb => ?_) (fun hb => ?_)
 ·skip
  have hF1 := ct hF hb
  refine cw_seq (cw_region ?_)
  refine sQ 14 (Y_buildS (zs := kZ_) (vs := []) (cs := kZ_) k_pl_65 k_zero_65 rfl mpn rfl) ?_
  refine s0 (Ys_store (i := 1) (s := 5) (B := aD b1) (T' := 65) (v := gZ_) (vs := kZ_) (k := 0) (cs' := kZ_) hS4 k_sz_65_5 rfl rfl rfl rfl rfl rfl rfl (lB rfl) rfl rfl) ?_
  rintro _ w_4 ⟨rfl, hS5⟩
  refine sQ 5 (Y_assign (v := .bool false) rfl rfl) (rw_nil (cw_ret ?_))
  obtain ⟨rfl, rfl⟩ := pr2 (some_inj hF1)
  exact ret2 Tryz.results122 (v1 := gZ_) (resAt_cellA (B := aD b1) (i := 0) (cs := kZ_) (vs := kZ_) rfl k_ag_65 k_sz_65_5 (hS5.cf (i := 1) rfl) rfl rfl) (v2 := .bool false) (resAt_tmp rfl) ⟨rfl, (hS5.sN [])⟩
 ·skip
  have hF2 := cf' hF hb
  refine cw_skip (cw_seq ?_)
  obtain ⟨z, hz, hF3⟩ := bind_inv hF2
  refine cw_block ?_
  refine cw_loop (fun k f w => ∃ (exp1 : Int) (A : Int) (B : Int) (C : Int) (D : Int), FF f [(1, vi exp1), (2, pt (aD b) 0), (4, pt (aD b1) 0)] ∧ ST w0 [] w [⟨aD b, 63, [vi A, vi B, vi C, vi D], 4⟩, ⟨aD b1, 65, kZ_, 5⟩] [] ∧ whX F_impl_DyadicOf_l1 k (exp1, A, B, C, D) = some z) fuel ⟨exp, num.A, num.B, num.C, num.D, (FF.cons rfl (FF.cons rfl (FF.cons rfl FF.nil))), (hS4.sel [0, 1] rfl rfl), hz⟩ ?_
  rintro k_ f w ⟨exp1, A, B, C, D, hf, hS6, hL⟩
  obtain ⟨k_1, y, rfl, hb1, hL1⟩ := whX_go hL
  unfold F_impl_DyadicOf_l1 at hb1
  refine cw_seq (cw_seq (cw_region ?_))
  refine sQ 15 (Y_move (v := vi exp1) rfl (hf.get 1 0 rfl)) ?_
  refine sQ 16 (Y_gt (k := .i64) (a := exp1) (b := 0) rfl rfl rfl) ?_
  refine sQ 17 (Y_move (v := .bool (decide (0 < exp1))) rfl rfl) ?_
  refine sgq 18 (B := (decide (0 < exp1))) (v := .agg #[vi A, vi B, vi C, vi D]) rfl rfl (uT_ 17) (fun hg3 => (Y_loadA (B := aD b) (i := 0) (cs := [vi A, vi B, vi C, vi D]) (vs := [vi A, vi B, vi C, vi D]) k_ag_63 k_sz_63_4 rfl (hf.get 2 1 rfl) (hS6.cf (i := 0) rfl) rfl rfl)) ?_
  obtain ⟨r_4, hc2, hb1⟩ := bind_inv hb1
  refine sgc 19 (B := (decide (0 < exp1))) (v := .bool r_4) (F := hS6.fn) rfl rfl (uT_ 17) hS6 (fun hg4 => (Yc_func (g := 120) (vs := [.agg #[vi A, vi B, vi C, vi D]]) k_call_120 rfl (mc (gv_of (v := .agg #[vi A, vi B, vi C, vi D]) hg4) mn) (CV.mono (c_impl_isEven (TRing.mk A B C D) _  (hS6.inn0 [] rfl) (gb_inv hc2 hg4)) (by rintro _ _ ⟨rfl, h⟩; exact ⟨rfl, hS6.out00 h⟩)))) ?_
  rintro w_5 hS7
  refine sQ 20 (Y_and (b := (decide (0 < exp1))) (z := r_4) rfl rfl rfl rfl) (rw_nil ?_)
  refine cw_cond (b := ((decide (0 < exp1)) && r_4)) rfl (fun hb2 => ?_) (fun hb2 => ?_)
  ·skip
   have hF4 := ct hb1 hb2
   refine cw_skip (cw_block (cw_seq (cw_region ?_)))
   refine sQ 22 (Y_loadA (B := aD b) (i := 0) (cs := [vi A, vi B, vi C, vi D]) (vs := [vi A, vi B, vi C, vi D]) k_ag_63 k_sz_63_4 rfl (hf.get 2 1 rfl) (hS7.cf (i := 0) rfl) rfl rfl) ?_
   obtain ⟨⟨r_5, r_6⟩, hc3, hF4⟩ := bind_inv hF4
   refine sc 23 rfl rfl (Yc_func (g := 144) (vs := [.agg #[vi A, vi B, vi C, vi D]]) k_call_144 rfl (mc rfl mn) (c_impl_DivRootTwo (TRing.mk A B C D) _  (hS7.inn0 [] rfl) hc3)) ?_
   rintro _ w_6 ⟨rfl, hd1⟩
   have hS8 := hS7.out00 hd1
   refine sQ 21 (Y_move (v := .tuple #[gR_ r_5, .bool r_6]) rfl rfl) ?_
   refine sQ 24 (Y_extract (v := gR_ r_5) rfl rfl rfl) ?_
   refine sQ 25 (Y_extract (v := .bool r_6) rfl rfl rfl) ?_
   refine s0 (Ys_store (i := 0) (s := 4) (B := aD b) (T' := 63) (v := gR_ r_5) (vs := kR_ r_5) (k := 0) (cs' := kR_ r_5) hS8 k_sz_63_4 rfl (hf.get 2 1 rfl) rfl rfl rfl rfl rfl (lB rfl) rfl rfl) ?_
   rintro _ w_7 ⟨rfl, hS9⟩
   refine rw_nil (cw_region ?_)
   refine sQ 26 (Y_move (v := vi exp1) rfl (hf.get 1 0 rfl)) ?_
   refine sQ 27 (Y_sub (k := .i64) (a := exp1) (b := 1) rfl rfl rfl) ?_
   refine sQ 1 (Y_assign (v := vi (i64.wrap (exp1 - 1))) rfl rfl) (rw_nil ?_)
   obtain rfl := some_inj hF4
   exact ⟨k_1, Nat.lt_succ_self _, (i64.wrap (exp1 - 1)), r_5.A, r_5.B, r_5.C, r_5.D, (FF.cons rfl (FF.cons (hf.get 2 1 rfl) (FF.cons (hf.get 4 2 rfl) FF.nil))), (hS9.sel [0, 1] rfl rfl), hL1⟩
  ·skip
   have hF5 := cf' hb1 hb2
   refine cw_exit rfl ?_
   obtain rfl := some_inj hF5
   obtain rfl := some_inj hL1
   refine cw_seq (cw_region ?_)
   refine sQ 28 (Y_loadA (B := aD b) (i := 0) (cs := [vi A, vi B, vi C, vi D]) (vs := [vi A, vi B, vi C, vi D]) k_ag_63 k_sz_63_4 rfl (hf.get 2 1 rfl) (hS7.cf (i := 0) rfl) rfl rfl) ?_
   refine sQ 29 (Y_move (v := vi exp1) rfl (hf.get 1 0 rfl)) ?_
   refine sQ 30 (Y_buildS (zs := kZ_) (vs := [(0, .agg #[vi A, vi B, vi C, vi D]), (1, vi exp1)]) (cs := [vi A, vi B, vi C, vi D, vi exp1]) k_pl_65 k_zero_65 rfl (mpc rfl (mpc rfl mpn)) rfl) ?_
   refine s0 (Ys_store (i := 1) (s := 5) (B := aD b1) (T' := 65) (v := .agg #[vi A, vi B, vi C, vi D, vi exp1]) (vs := [vi A, vi B, vi C, vi D, vi exp1]) (k := 0) (cs' := [vi A, vi B, vi C, vi D, vi exp1]) hS7 k_sz_65_5 rfl (hf.get 4 2 rfl) rfl rfl rfl rfl rfl (lB rfl) rfl rfl) ?_
   rintro _ w_8 ⟨rfl, hS10⟩
   refine sQ 5 (Y_assign (v := .bool true) rfl rfl) (rw_nil (cw_ret ?_))
   obtain ⟨rfl, rfl⟩ := pr2 (some_inj hF3)
   exact ret2 Tryz.results122 (v1 := .agg #[vi A, vi B, vi C, vi D, vi exp1]) (resAt_cellA (B := aD b1) (i := 0) (cs := [vi A, vi B, vi C, vi D, vi exp1]) (vs := [vi A, vi B, vi C, vi D, vi exp1]) (hf.get 4 2 rfl) k_ag_65 k_sz_65_5 (hS10.cf (i := 1) rfl) rfl rfl) (v2 := .bool true) (resAt_tmp rfl) ⟨rfl, (hS10.sN [])⟩

theorem c_impl_MulDyadic (x : TDyadic) (y : TDyadic)  (w0 : World)  (hS : ST w0 [] w0 [] []) {r_ : TDyadic} {r_1 : Bool} (hF : F_impl_MulDyadic x y = some (r_, r_1)) :
  CV Tryz.prog 86 #[gD_ x, gD_ y] w0 (fun v w' => v = .tuple #[gD_ r_, .bool r_1] ∧ ST w0 [] w' [] []) := by
 unfold F_impl_MulDyadic at hF
 refine cv_of_cw 38 Tryz.func86 rfl Tryz.ntmps86 rfl ?_
 refine cw_seq (cw_region ?_)
 refine sS 2 (Ys_box (T := 65) (v := gD_ x) (cs := kD_ x) (m := 5) hS rfl rfl rfl rfl) ?_
 rintro _ w_ ⟨b, rfl, hS1⟩
 refine sS 3 (Ys_box (T := 65) (v := gD_ y) (cs := kD_ y) (m := 5) hS1 rfl rfl rfl rfl) ?_
 rintro _ w_1 ⟨b1, rfl, hS2⟩
 refine sS 4 (Ys_alloc (T := 65) (cs := kZ_) (m := 5) hS2 k_zero_65 rfl rfl rfl) ?_
 rintro _ w_2 ⟨b2, rfl, hS3⟩
 refine sQ 5 (Y_assign (v := .bool false) rfl rfl) (rw_nil (cw_seq (cw_region ?_)))
 refine sQ 9 (Y_fieldAddr (B := aD b) (i := 0) (s := 3) k_fd_65_0_0_63 k_sz_63_4 rfl rfl) ?_
 refine sQ 10 (Y_loadA (B := aD b) (i := 0) (cs := kD_ x) (vs := kR_ x.Num) k_ag_63 k_sz_63_4 rfl rfl (hS3.cf (i := 0) rfl) rfl rfl) ?_
 refine sQ 11 (Y_fieldAddr (B := aD b1) (i := 0) (s := 3) k_fd_65_0_0_63 k_sz_63_4 rfl rfl) ?_
 refine sQ 12 (Y_loadA (B := aD b1) (i := 0) (cs := kD_ y) (vs := kR_ y.Num) k_ag_63 k_sz_63_4 rfl rfl (hS3.cf (i := 1) rfl) rfl rfl) ?_
 obtain ⟨⟨r_2, r_3⟩, hc, hF⟩ := bind_inv hF
 refine sc 13 rfl rfl (Yc_func (g := 121) (vs := [gR_ x.Num, gR_ y.Num]) k_call_121 rfl (mc rfl (mc rfl mn)) (c_impl_MulRing x.Num y.Num _  (hS3.inn0 [] rfl) hc)) ?_
 rintro _ w_3 ⟨rfl, hd⟩
 have hS4 := hS3.out00 hd
 refine sQ 8 (Y_move (v := .tuple #[gR_ r_2, .bool r_3]) rfl rfl) ?_
 refine sQ 14 (Y_extract (v := gR_ r_2) rfl rfl rfl) ?_
 refine sQ 15 (Y_extract (v := .bool r_3) rfl rfl rfl) ?_
 refine sS 6 (Ys_alloc (T := 63) (cs := [vi 0, vi 0, vi 0, vi 0]) (m := 4) hS4 k_zero_63 rfl rfl rfl) ?_
 rintro _ w_4 ⟨b3, rfl, hS5⟩
 refine s0 (Ys_store (i := 3) (s := 4) (B := aD b3) (T' := 63) (v := gR_ r_2) (vs := kR_ r_2) (k := 0) (cs' := kR_ r_2) hS5 k_sz_63_4 rfl rfl rfl rfl rfl rfl rfl (lB rfl) rfl rfl) ?_
 rintro _ w_5 ⟨rfl, hS6⟩
 refine sQ 7 (Y_assign (v := .bool r_3) rfl rfl) (rw_nil (cw_seq (cw_seq (cw_region ?_))))
 refine sQ 16 (Y_loadA (B := aD b) (i := 0) (cs := kD_ x) (vs := kD_ x) k_ag_65 k_sz_65_5 rfl rfl (hS6.cf (i := 0) rfl) rfl rfl) ?_
 obtain ⟨r_4, hc1, hF⟩ := bind_inv hF
 refine sc 17 rfl rfl (Yc_func (g := 83) (vs := [gD_ x]) k_call_83 rfl (mc rfl mn) (c_impl_IsValidDyadic x _  (hS6.inn0 [] rfl) hc1)) ?_
 rintro _ w_6 ⟨rfl, hd1⟩
 have hS7 := hS6.out00 hd1
 refine sQ 18 (Y_not (p := r_4) rfl rfl) ?_
 refine sQ 19 (Y_move (v := .bool (!r_4)) rfl rfl) ?_
 refine sgq 20 (B := (!(!r_4))) (v := gD_ y) rfl rfl (uF_ 19) (fun hg => (Y_loadA (B := aD b1) (i := 0) (cs := kD_ y) (vs := kD_ y) k_ag_65 k_sz_65_5 rfl rfl (hS7.cf (i := 1) rfl) rfl rfl)) ?_
 obtain ⟨r_5, hc2, hF⟩ := bind_inv hF
 refine sgc 21 (B := (!(!r_4))) (v := .bool r_5) (F := hS7.fn) rfl rfl (uF_ 19) hS7 (fun hg1 => (Yc_func (g := 83) (vs := [gD_ y]) k_call_83 rfl (mc (gv_of (v := gD_ y) hg1) mn) (CV.mono (c_impl_IsValidDyadic y _  (hS7.inn0 [] rfl) (gb_inv hc2 hg1)) (by rintro _ _ ⟨rfl, h⟩; exact ⟨rfl, hS7.out00 h⟩)))) ?_
 rintro w_7 hS8
 refine sgq 22 (B := (!(!r_4))) (v := .bool (!r_5)) rfl rfl (uF_ 19) (fun hg2 => (Y_not (p := r_5) rfl (gv_of (v := .bool r_5) hg2))) ?_
 refine sQ 23 (Y_or (b := (!r_4)) (z := (!r_5)) rfl rfl rfl rfl) ?_
 refine sQ 24 (Y_move (v := .bool ((!r_4) || (!r_5))) rfl rfl) ?_
 refine sgq 25 (B := (!((!r_4) || (!r_5)))) (v := .bool r_3) rfl rfl (uF_ 24) (fun hg3 => (Y_move (v := .bool r_3) rfl rfl)) ?_
 refine sgq 26 (B := (!((!r_4) || (!r_5)))) (v := .bool (!r_3)) rfl rfl (uF_ 24) (fun hg4 => (Y_not (p := r_3) rfl (gv_of (v := .bool r_3) hg4))) ?_
 refine sQ 27 (Y_or (b := ((!r_4) || (!r_5))) (z := (!r_3)) rfl rfl rfl rfl) (rw_nil ?_)
 refine cw_cond (b := (((!r_4) || (!r_5)) || (!r_3))) rfl (fun hb => ?_) (fun hb => ?_)
 ·skip
  have hF1 := ct hF hb
  refine cw_seq (cw_region ?_)
  refine sQ 28 (Y_buildS (zs := kZ_) (vs := []) (cs := kZ_) k_pl_65 k_zero_65 rfl mpn rfl) ?_
  refine s0 (Ys_store (i := 2) (s := 5) (B := aD b2) (T' := 65) (v := gZ_) (vs := kZ_) (k := 0) (cs' := kZ_) hS8 k_sz_65_5 rfl rfl rfl rfl rfl rfl rfl (lB rfl) rfl rfl) ?_
  rintro _ w_8 ⟨rfl, hS9⟩
  refine sQ 5 (Y_assign (v := .bool false) rfl rfl) (rw_nil (cw_ret ?_))
  obtain ⟨rfl, rfl⟩ := pr2 (some_inj hF1)
  exact ret2 Tryz.results86 (v1 := gZ_) (resAt_cellA (B := aD b2) (i := 0) (cs := kZ_) (vs := kZ_) rfl k_ag_65 k_sz_65_5 (hS9.cf (i := 2) rfl) rfl rfl) (v2 := .bool false) (resAt_tmp rfl) ⟨rfl, (hS9.sN [])⟩
 ·skip
  have hF2 := cf' hF hb
  refine cw_skip (cw_seq (cw_region ?_))
  refine sQ 29 (Y_loadA (B := aD b3) (i := 0) (cs := kR_ r_2) (vs := kR_ r_2) k_ag_63 k_sz_63_4 rfl rfl (hS8.cf (i := 3) rfl) rfl rfl) ?_
  refine sQ 30 (Y_fieldAddr (B := aD b) (i := 0) (s := 0) k_fd_65_1_4_3 k_sz_3_1 rfl rfl) ?_
  refine sQ 31 (Y_load1 (B := aD b) (i := 4) (cs := kD_ x) (v := vi x.Exp) k_sc_3 rfl rfl (hS8.cf (i := 0) rfl) rfl) ?_
  refine sQ 32 (Y_fieldAddr (B := aD b1) (i := 0) (s := 0) k_fd_65_1_4_3 k_sz_3_1 rfl rfl) ?_
  refine sQ 33 (Y_load1 (B := aD b1) (i := 4) (cs := kD_ y) (v := vi y.Exp) k_sc_3 rfl rfl (hS8.cf (i := 1) rfl) rfl) ?_
  refine sQ 34 (Y_add (k := .i64) (a := x.Exp) (b := y.Exp) rfl rfl rfl) ?_
  obtain ⟨⟨r_6, r_7⟩, hc3, hF2⟩ := bind_inv hF2
  refine sc 35 rfl rfl (Yc_func (g := 122) (vs := [gR_ r_2, vi (i64.wrap (x.Exp + y.Exp))]) k_call_122 rfl (mc rfl (mc rfl mn)) (c_impl_DyadicOf r_2 (i64.wrap (x.Exp + y.Exp)) _  (hS8.inn0 [] rfl) hc3)) ?_
  rintro _ w_9 ⟨rfl, hd2⟩
  have hS10 := hS8.out00 hd2
  refine sQ 36 (Y_extract (v := gD_ r_6) rfl rfl rfl) ?_
  refine sQ 37 (Y_extract (v := .bool r_7) rfl rfl rfl) ?_
  refine s0 (Ys_store (i := 2) (s := 5) (B := aD b2) (T' := 65) (v := gD_ r_6) (vs := kD_ r_6) (k := 0) (cs' := kD_ r_6) hS10 k_sz_65_5 rfl rfl rfl rfl rfl rfl rfl (lB rfl) rfl rfl) ?_
  rintro _ w_10 ⟨rfl, hS11⟩
  refine sQ 5 (Y_assign (v := .bool r_7) rfl rfl) (rw_nil (cw_ret ?_))
  obtain ⟨rfl, rfl⟩ := pr2 (some_inj hF2)
  exact ret2 Tryz.results86 (v1 := gD_ r_6) (resAt_cellA (B := aD b2) (i := 0) (cs := kD_ r_6) (vs := kD_ r_6) rfl k_ag_65 k_sz_65_5 (hS11.cf (i := 2) rfl) rfl rfl) (v2 := .bool r_7) (resAt_tmp rfl) ⟨rfl, (hS11.sN [])⟩

theorem c_impl_MulRootTwo (x : TRing)  (w0 : World)  (hS : ST w0 [] w0 [] []) {r_ : TRing} {r_1 : Bool} (hF : F_impl_MulRootTwo x = some (r_, r_1)) :
  CV Tryz.prog 152 #[gR_ x] w0 (fun v w' => v = .tuple #[gR_ r_, .bool r_1] ∧ ST w0 [] w' [] []) := by
 unfold F_impl_MulRootTwo at hF
 refine cv_of_cw 30 Tryz.func152 rfl Tryz.ntmps152 rfl ?_
 refine cw_seq (cw_region ?_)
 refine sS 1 (Ys_box (T := 63) (v := gR_ x) (cs := kR_ x) (m := 4) hS rfl rfl rfl rfl) ?_
 rintro _ w_ ⟨b, rfl, hS1⟩
 refine sS 2 (Ys_alloc (T := 63) (cs := [vi 0, vi 0, vi 0, vi 0]) (m := 4) hS1 k_zero_63 rfl rfl rfl) ?_
 rintro _ w_1 ⟨b1, rfl, hS2⟩
 refine sQ 3 (Y_assign (v := .bool false) rfl rfl) (rw_nil (cw_seq (cw_region ?_)))
 refine sQ 4 (Y_fieldAddr (B := aD b) (i := 0) (s := 0) k_fd_63_1_1_3 k_sz_3_1 rfl rfl) ?_
 refine sQ 5 (Y_load1 (B := aD b) (i := 1) (cs := kR_ x) (v := vi x.B) k_sc_3 rfl rfl (hS2.cf (i := 0) rfl) rfl) ?_
 refine sQ 6 (Y_fieldAddr (B := aD b) (i := 0) (s := 0) k_fd_63_3_3_3 k_sz_3_1 rfl rfl) ?_
 refine sQ 7 (Y_load1 (B := aD b) (i := 3) (cs := kR_ x) (v := vi x.D) k_sc_3 rfl rfl (hS2.cf (i := 0) rfl) rfl) ?_
 refine sQ 8 (Y_sub (k := .i64) (a := x.B) (b := x.D) rfl rfl rfl) ?_
 refine sQ 9 (Y_fieldAddr (B := aD b) (i := 0) (s := 0) k_fd_63_0_0_3 k_sz_3_1 rfl rfl) ?_
 refine sQ 10 (Y_load1 (B := aD b) (i := 0) (cs := kR_ x) (v := vi x.A) k_sc_3 rfl rfl (hS2.cf (i := 0) rfl) rfl) ?_
 refine sQ 11 (Y_fieldAddr (B := aD b) (i := 0) (s := 0) k_fd_63_2_2_3 k_sz_3_1 rfl rfl) ?_
 refine sQ 12 (Y_load1 (B := aD b) (i := 2) (cs := kR_ x) (v := vi x.C) k_sc_3 rfl rfl (hS2.cf (i := 0) rfl) rfl) ?_
 refine sQ 13 (Y_add (k := .i64) (a := x.A) (b := x.C) rfl rfl rfl) ?_
 refine sQ 14 (Y_fieldAddr (B := aD b) (i := 0) (s := 0) k_fd_63_1_1_3 k_sz_3_1 rfl rfl) ?_
 refine sQ 15 (Y_load1 (B := aD b) (i := 1) (cs := kR_ x) (v := vi x.B) k_sc_3 rfl rfl (hS2.cf (i := 0) rfl) rfl) ?_
 refine sQ 16 (Y_fieldAddr (B := aD b) (i := 0) (s := 0) k_fd_63_3_3_3 k_sz_3_1 rfl rfl) ?_
 refine sQ 17 (Y_load1 (B := aD b) (i := 3) (cs := kR_ x) (v := vi x.D) k_sc_3 rfl rfl (hS2.cf (i := 0) rfl) rfl) ?_
 refine sQ 18 (Y_add (k := .i64) (a := x.B) (b := x.D) rfl rfl rfl) ?_
 refine sQ 19 (Y_fieldAddr (B := aD b) (i := 0) (s := 0) k_fd_63_2_2_3 k_sz_3_1 rfl rfl) ?_
 refine sQ 20 (Y_load1 (B := aD b) (i := 2) (cs := kR_ x) (v := vi x.C) k_sc_3 rfl rfl (hS2.cf (i := 0) rfl) rfl) ?_
 refine sQ 21 (Y_fieldAddr (B := aD b) (i := 0) (s := 0) k_fd_63_0_0_3 k_sz_3_1 rfl rfl) ?_
 refine sQ 22 (Y_load1 (B := aD b) (i := 0) (cs := kR_ x) (v := vi x.A) k_sc_3 rfl rfl (hS2.cf (i := 0) rfl) rfl) ?_
 refine sQ 23 (Y_sub (k := .i64) (a := x.C) (b := x.A) rfl rfl rfl) ?_
 refine sQ 24 (Y_buildS (zs := [vi 0, vi 0, vi 0, vi 0]) (vs := [(0, vi (i64.wrap (x.B - x.D))), (1, vi (i64.wrap (x.A + x.C))), (2, vi (i64.wrap (x.B + x.D))), (3, vi (i64.wrap (x.C - x.A)))]) (cs := [vi (i64.wrap (x.B - x.D)), vi (i64.wrap (x.A + x.C)), vi (i64.wrap (x.B + x.D)), vi (i64.wrap (x.C - x.A))]) k_pl_63 k_zero_63 rfl (mpc rfl (mpc rfl (mpc rfl (mpc rfl mpn)))) rfl) ?_
 refine sQ 25 (Y_loadA (B := aD b) (i := 0) (cs := kR_ x) (vs := kR_ x) k_ag_63 k_sz_63_4 rfl rfl (hS2.cf (i := 0) rfl) rfl rfl) ?_
 refine sS 26 (Ys_bslice (s := 4) (len := 1) (vs := [(0, gR_ x)]) (cs := kR_ x) (zs := [vi 0, vi 0, vi 0, vi 0]) (m := 4) hS2 k_sl_169_63 k_sz_63_4 k_zc_63 rfl (mpc rfl mpn) rfl rfl rfl (by kernel_rfl) (by kernel_rfl) rfl) ?_
 rintro _ w_2 ⟨b2, rfl, hS3⟩
 obtain ⟨⟨r_2, r_3⟩, hc, hF⟩ := bind_inv hF
 refine sc 27 rfl rfl (Yc_func (g := 143) (vs := [.agg #[vi (i64.wrap (x.B - x.D)), vi (i64.wrap (x.A + x.C)), vi (i64.wrap (x.B + x.D)), vi (i64.wrap (x.C - x.A))], .slice (aD b2) 1 1]) k_call_143 rfl (mc rfl (mc rfl mn)) (c_impl_ringIf (TRing.mk (i64.wrap (x.B - x.D)) (i64.wrap (x.A + x.C)) (i64.wrap (x.B + x.D)) (i64.wrap (x.C - x.A))) [x] (aD b2) 1 1 _ rfl (hS3.inn [false, false, true] rfl [] rfl) hc)) ?_
 rintro _ w_3 ⟨rfl, hd⟩
 have hS4 := hS3.out [false, false, true] rfl hd
 refine sQ 28 (Y_extract (v := gR_ r_2) rfl rfl rfl) ?_
 refine sQ 29 (Y_extract (v := .bool r_3) rfl rfl rfl) ?_
 refine s0 (Ys_store (i := 1) (s := 4) (B := aD b1) (T' := 63) (v := gR_ r_2) (vs := kR_ r_2) (k := 0) (cs' := kR_ r_2) hS4 k_sz_63_4 rfl rfl rfl rfl rfl rfl rfl (lB rfl) rfl rfl) ?_
 rintro _ w_4 ⟨rfl, hS5⟩
 refine sQ 3 (Y_assign (v := .bool r_3) rfl rfl) (rw_nil (cw_ret ?_))
 obtain ⟨rfl, rfl⟩ := pr2 (some_inj hF)
 exact ret2 Tryz.results152 (v1 := gR_ r_2) (resAt_cellA (B := aD b1) (i := 0) (cs := kR_ r_2) (vs := kR_ r_2) rfl k_ag_63 k_sz_63_4 (hS5.cf (i := 1) rfl) rfl rfl) (v2 := .bool r_3) (resAt_tmp rfl) ⟨rfl, (hS5.sN [])⟩

theorem c_impl_raised (x : TDyadic) (exp : Int)  (w0 : World)  (hS : ST w0 [] w0 [] []) {r_ : TRing} {r_1 : Bool} (hF : F_impl_raised x exp = some (r_, r_1)) :
  CV Tryz.prog 146 #[gD_ x, vi exp] w0 (fun v w' => v = .tuple #[gR_ r_, .bool r_1] ∧ ST w0 [] w' [] []) := by
 unfold F_impl_raised at hF
 refine cv_of_cw 28 Tryz.func146 rfl Tryz.ntmps146 rfl ?_
 refine cw_seq (cw_region ?_)
 refine sS 2 (Ys_box (T := 65) (v := gD_ x) (cs := kD_ x) (m := 5) hS rfl rfl rfl rfl) ?_
 rintro _ w_ ⟨b, rfl, hS1⟩
 refine sS 4 (Ys_alloc (T := 63) (cs := [vi 0, vi 0, vi 0, vi 0]) (m := 4) hS1 k_zero_63 rfl rfl rfl) ?_
 rintro _ w_1 ⟨b1, rfl, hS2⟩
 refine sQ 5 (Y_assign (v := .bool false) rfl rfl) (rw_nil (cw_seq (cw_region ?_)))
 refine sQ 9 (Y_fieldAddr (B := aD b) (i := 0) (s := 3) k_fd_65_0_0_63 k_sz_63_4 rfl rfl) ?_
 refine sQ 10 (Y_loadA (B := aD b) (i := 0) (cs := kD_ x) (vs := kR_ x.Num) k_ag_63 k_sz_63_4 rfl rfl (hS2.cf (i := 0) rfl) rfl rfl) ?_
 refine sS 6 (Ys_alloc (T := 63) (cs := [vi 0, vi 0, vi 0, vi 0]) (m := 4) hS2 k_zero_63 rfl rfl rfl) ?_
 rintro _ w_2 ⟨b2, rfl, hS3⟩
 refine s0 (Ys_store (i := 2) (s := 4) (B := aD b2) (T' := 63) (v := gR_ x.Num) (vs := kR_ x.Num) (k := 0) (cs' := kR_ x.Num) hS3 k_sz_63_4 rfl rfl rfl rfl rfl rfl rfl (lB rfl) rfl rfl) ?_
 rintro _ w_3 ⟨rfl, hS4⟩
 refine sQ 7 (Y_assign (v := .bool true) rfl rfl) (rw_nil (cw_seq (cw_seq (cw_region ?_))))
 refine sQ 11 (Y_fieldAddr (B := aD b) (i := 0) (s := 0) k_fd_65_1_4_3 k_sz_3_1 rfl rfl) ?_
 refine sQ 12 (Y_load1 (B := aD b) (i := 4) (cs := kD_ x) (v := vi x.Exp) k_sc_3 rfl rfl (hS4.cf (i := 0) rfl) rfl) ?_
 refine sQ 8 (Y_assign (v := vi x.Exp) rfl rfl) (rw_nil ?_)
 obtain ⟨z, hz, hF1⟩ := bind_inv hF
 refine cw_block ?_
 refine cw_loop (fun k f w => ∃ (A : Int) (B : Int) (C : Int) (D : Int) (ok : Bool) (k_ : Int), FF f [(1, vi exp), (4, pt (aD b1) 0), (6, pt (aD b2) 0), (7, .bool ok), (8, vi k_)] ∧ ST w0 [] w [⟨aD b1, 63, [vi 0, vi 0, vi 0, vi 0], 4⟩, ⟨aD b2, 63, [vi A, vi B, vi C, vi D], 4⟩] [] ∧ whX (F_impl_raised_l1 exp) k (A, B, C, D, ok, k_) = some z) fuel ⟨x.Num.A, x.Num.B, x.Num.C, x.Num.D, true, x.Exp, (FF.cons rfl (FF.cons rfl (FF.cons rfl (FF.cons rfl (FF.cons rfl FF.nil))))), (hS4.sel [1, 2] rfl rfl), hz⟩ ?_
 rintro k_1 f w ⟨A, B, C, D, ok, k_, hf, hS5, hL⟩
 obtain ⟨k_2, y, rfl, hb, hL1⟩ := whX_go hL
 unfold F_impl_raised_l1 at hb
 refine cw_seq (cw_seq (cw_region ?_))
 refine sQ 13 (Y_move (v := vi k_) rfl (hf.get 8 4 rfl)) ?_
 refine sQ 14 (Y_move (v := vi exp) rfl (hf.get 1 0 rfl)) ?_
 refine sQ 15 (Y_lt (k := .i64) (a := k_) (b := exp) rfl rfl rfl) ?_
 refine sQ 16 (Y_move (v := .bool (decide (k_ < exp))) rfl rfl) ?_
 refine sgq 17 (B := (decide (k_ < exp))) (v := .bool ok) rfl rfl (uT_ 16) (fun hg => (Y_move (v := .bool ok) rfl (hf.get 7 3 rfl))) ?_
 refine sQ 18 (Y_and (b := (decide (k_ < exp))) (z := ok) rfl rfl rfl rfl) (rw_nil ?_)
 refine cw_cond (b := ((decide (k_ < exp)) && ok)) rfl (fun hb1 => ?_) (fun hb1 => ?_)
 ·skip
  have hF2 := ct hb hb1
  refine cw_skip (cw_seq (cw_block (cw_region ?_)))
  refine sQ 22 (Y_loadA (B := aD b2) (i := 0) (cs := [vi A, vi B, vi C, vi D]) (vs := [vi A, vi B, vi C, vi D]) k_ag_63 k_sz_63_4 rfl (hf.get 6 2 rfl) (hS5.cf (i := 1) rfl) rfl rfl) ?_
  obtain ⟨⟨r_2, r_3⟩, hc, hF2⟩ := bind_inv hF2
  refine sc 23 rfl rfl (Yc_func (g := 152) (vs := [.agg #[vi A, vi B, vi C, vi D]]) k_call_152 rfl (mc rfl mn) (c_impl_MulRootTwo (TRing.mk A B C D) _  (hS5.inn0 [] rfl) hc)) ?_
  rintro _ w_4 ⟨rfl, hd⟩
  have hS6 := hS5.out00 hd
  refine sQ 21 (Y_move (v := .tuple #[gR_ r_2, .bool r_3]) rfl rfl) ?_
  refine sQ 24 (Y_extract (v := gR_ r_2) rfl rfl rfl) ?_
  refine sQ 25 (Y_extract (v := .bool r_3) rfl rfl rfl) ?_
  refine s0 (Ys_store (i := 1) (s := 4) (B := aD b2) (T' := 63) (v := gR_ r_2) (vs := kR_ r_2) (k := 0) (cs' := kR_ r_2) hS6 k_sz_63_4 rfl (hf.get 6 2 rfl) rfl rfl rfl rfl rfl (lB rfl) rfl rfl) ?_
  rintro _ w_5 ⟨rfl, hS7⟩
  refine sQ 7 (Y_assign (v := .bool r_3) rfl rfl) (rw_nil (cw_region ?_))
  refine sQ 19 (Y_move (v := vi k_) rfl (hf.get 8 4 rfl)) ?_
  refine sQ 20 (Y_add (k := .i64) (a := k_) (b := 1) rfl rfl rfl) ?_
  refine sQ 8 (Y_assign (v := vi (i64.wrap (k_ + 1))) rfl rfl) (rw_nil ?_)
  obtain rfl := some_inj hF2
  exact ⟨k_2, Nat.lt_succ_self _, r_2.A, r_2.B, r_2.C, r_2.D, r_3, (i64.wrap (k_ + 1)), (FF.cons (hf.get 1 0 rfl) (FF.cons (hf.get 4 1 rfl) (FF.cons (hf.get 6 2 rfl) (FF.cons rfl (FF.cons rfl FF.nil))))), (hS7.sel [0, 1] rfl rfl), hL1⟩
 ·skip
  have hF3 := cf' hb hb1
  refine cw_exit rfl ?_
  obtain rfl := some_inj hF3
  obtain rfl := some_inj hL1
  refine cw_seq (cw_region ?_)
  refine sQ 26 (Y_loadA (B := aD b2) (i := 0) (cs := [vi A, vi B, vi C, vi D]) (vs := [vi A, vi B, vi C, vi D]) k_ag_63 k_sz_63_4 rfl (hf.get 6 2 rfl) (hS5.cf (i := 1) rfl) rfl rfl) ?_
  refine sQ 27 (Y_move (v := .bool ok) rfl (hf.get 7 3 rfl)) ?_
  refine s0 (Ys_store (i := 0) (s := 4) (B := aD b1) (T' := 63) (v := .agg #[vi A, vi B, vi C, vi D]) (vs := [vi A, vi B, vi C, vi D]) (k := 0) (cs' := [vi A, vi B, vi C, vi D]) hS5 k_sz_63_4 rfl (hf.get 4 1 rfl) rfl rfl rfl rfl rfl (lB rfl) rfl rfl) ?_
  rintro _ w_6 ⟨rfl, hS8⟩
  refine sQ 5 (Y_assign (v := .bool ok) rfl rfl) (rw_nil (cw_ret ?_))
  obtain ⟨rfl, rfl⟩ := pr2 (some_inj hF1)
  exact ret2 Tryz.results146 (v1 := .agg #[vi A, vi B, vi C, vi D]) (resAt_cellA (B := aD b1) (i := 0) (cs := [vi A, vi B, vi C, vi D]) (vs := [vi A, vi B, vi C, vi D]) (hf.get 4 1 rfl) k_ag_63 k_sz_63_4 (hS8.cf (i := 0) rfl) rfl rfl) (v2 := .bool ok) (resAt_tmp rfl) ⟨rfl, (hS8.sN [])⟩

theorem c_impl_combined (x : TDyadic) (y : TDyadic) (operation : TRing → TRing → Option (TRing × Bool)) (kf : Nat) (caps : Array Value) (Rf : List Ro) (w0 : World) (hk : callB Tryz.prog kf = true) (hp : ∀ (w : World), ST w [] w [] Rf → ∀ (x1 : TRing) (x2 : TRing) (y2 : TRing) (y3 : Bool), operation x1 x2 = some (y2, y3) → CV Tryz.prog kf ((gR_ x1) :: (gR_ x2) :: caps.toList).toArray w (fun v w' => v = .tuple #[gR_ y2, .bool y3] ∧ ST w [] w' [] [])) (hS : ST w0 [] w0 [] (Rf)) {r_ : TDyadic} {r_1 : Bool} (hF : F_impl_combined x y operation = some (r_, r_1)) :
  CV Tryz.prog 127 #[gD_ x, gD_ y, .func (.func kf) #[] caps] w0 (fun v w' => v = .tuple #[gD_ r_, .bool r_1] ∧ ST w0 [] w' [] []) := by
 unfold F_impl_combined at hF
 refine cv_of_cw 64 Tryz.func127 rfl Tryz.ntmps127 rfl ?_
 refine cw_seq (cw_region ?_)
 refine sS 3 (Ys_box (T := 65) (v := gD_ x) (cs := kD_ x) (m := 5) hS rfl rfl rfl rfl) ?_
 rintro _ w_ ⟨b, rfl, hS1⟩
 refine sS 4 (Ys_box (T := 65) (v := gD_ y) (cs := kD_ y) (m := 5) hS1 rfl rfl rfl rfl) ?_
 rintro _ w_1 ⟨b1, rfl, hS2⟩
 refine sS 6 (Ys_alloc (T := 65) (cs := kZ_) (m := 5) hS2 k_zero_65 rfl rfl rfl) ?_
 rintro _ w_2 ⟨b2, rfl, hS3⟩
 refine sQ 7 (Y_assign (v := .bool false) rfl rfl) (rw_nil (cw_seq (cw_seq (cw_region ?_))))
 refine sQ 15 (Y_loadA (B := aD b) (i := 0) (cs := kD_ x) (vs := kD_ x) k_ag_65 k_sz_65_5 rfl rfl (hS3.cf (i := 0) rfl) rfl rfl) ?_
 obtain ⟨r_2, hc, hF⟩ := bind_inv hF
 refine sc 16 rfl rfl (Yc_func (g := 83) (vs := [gD_ x]) k_call_83 rfl (mc rfl mn) (c_impl_IsValidDyadic x _  (hS3.inn0 [] rfl) hc)) ?_
 rintro _ w_3 ⟨rfl, hd⟩
 have hS4 := hS3.out00 hd
 refine sQ 17 (Y_not (p := r_2) rfl rfl) ?_
 refine sQ 18 (Y_move (v := .bool (!r_2)) rfl rfl) ?_
 refine sgq 19 (B := (!(!r_2))) (v := gD_ y) rfl rfl (uF_ 18) (fun hg => (Y_loadA (B := aD b1) (i := 0) (cs := kD_ y) (vs := kD_ y) k_ag_65 k_sz_65_5 rfl rfl (hS4.cf (i := 1) rfl) rfl rfl)) ?_
 obtain ⟨r_3, hc1, hF⟩ := bind_inv hF
 refine sgc 20 (B := (!(!r_2))) (v := .bool r_3) (F := hS4.fn) rfl rfl (uF_ 18) hS4 (fun hg1 => (Yc_func (g := 83) (vs := [gD_ y]) k_call_83 rfl (mc (gv_of (v := gD_ y) hg1) mn) (CV.mono (c_impl_IsValidDyadic y _  (hS4.inn0 [] rfl) (gb_inv hc1 hg1)) (by rintro _ _ ⟨rfl, h⟩; exact ⟨rfl, hS4.out00 h⟩)))) ?_
 rintro w_4 hS5
 refine sgq 21 (B := (!(!r_2))) (v := .bool (!r_3)) rfl rfl (uF_ 18) (fun hg2 => (Y_not (p := r_3) rfl (gv_of (v := .bool r_3) hg2))) ?_
 refine sQ 22 (Y_or (b := (!r_2)) (z := (!r_3)) rfl rfl rfl rfl) (rw_nil ?_)
 refine cw_cond (b := ((!r_2) || (!r_3))) rfl (fun hb => ?_) (fun hb => ?_)
 ·skip
  have hF1 := ct hF hb
  refine cw_seq (cw_region ?_)
  refine sQ 23 (Y_buildS (zs := kZ_) (vs := []) (cs := kZ_) k_pl_65 k_zero_65 rfl mpn rfl) ?_
  refine s0 (Ys_store (i := 2) (s := 5) (B := aD b2) (T' := 65) (v := gZ_) (vs := kZ_) (k := 0) (cs' := kZ_) hS5 k_sz_65_5 rfl rfl rfl rfl rfl rfl rfl (lB rfl) rfl rfl) ?_
  rintro _ w_5 ⟨rfl, hS6⟩
  refine sQ 7 (Y_assign (v := .bool false) rfl rfl) (rw_nil (cw_ret ?_))
  obtain ⟨rfl, rfl⟩ := pr2 (some_inj hF1)
  exact ret2 Tryz.results127 (v1 := gZ_) (resAt_cellA (B := aD b2) (i := 0) (cs := kZ_) (vs := kZ_) rfl k_ag_65 k_sz_65_5 (hS6.cf (i := 2) rfl) rfl rfl) (v2 := .bool false) (resAt_tmp rfl) ⟨rfl, (hS6.sN [])⟩
 ·skip
  have hF2 := cf' hF hb
  refine cw_skip (cw_seq (cw_region ?_))
  refine sQ 24 (Y_fieldAddr (B := aD b) (i := 0) (s := 0) k_fd_65_1_4_3 k_sz_3_1 rfl rfl) ?_
  refine sQ 25 (Y_load1 (B := aD b) (i := 4) (cs := kD_ x) (v := vi x.Exp) k_sc_3 rfl rfl (hS5.cf (i := 0) rfl) rfl) ?_
  refine sQ 26 (Y_fieldAddr (B := aD b1) (i := 0) (s := 0) k_fd_65_1_4_3 k_sz_3_1 rfl rfl) ?_
  refine sQ 27 (Y_load1 (B := aD b1) (i := 4) (cs := kD_ y) (v := vi y.Exp) k_sc_3 rfl rfl (hS5.cf (i := 1) rfl) rfl) ?_
  refine sQ 28 (Y_max2 (k := .i64) (a := x.Exp) (b := y.Exp) rfl rfl rfl) ?_
  refine sQ 8 (Y_assign (v := vi (if x.Exp < y.Exp then y.Exp else x.Exp)) rfl rfl) (rw_nil (cw_seq (cw_region ?_)))
  refine sQ 30 (Y_loadA (B := aD b) (i := 0) (cs := kD_ x) (vs := kD_ x) k_ag_65 k_sz_65_5 rfl rfl (hS5.cf (i := 0) rfl) rfl rfl) ?_
  refine sQ 31 (Y_move (v := vi (if x.Exp < y.Exp then y.Exp else x.Exp)) rfl rfl) ?_
  obtain ⟨⟨r_4, r_5⟩, hc2, hF2⟩ := bind_inv hF2
  refine sc 32 rfl rfl (Yc_func (g := 146) (vs := [gD_ x, vi (if x.Exp < y.Exp then y.Exp else x.Exp)]) k_call_146 rfl (mc rfl (mc rfl mn)) (c_impl_raised x (if x.Exp < y.Exp then y.Exp else x.Exp) _  (hS5.inn0 [] rfl) hc2)) ?_
  rintro _ w_6 ⟨rfl, hd1⟩
  have hS7 := hS5.out00 hd1
  refine sQ 29 (Y_move (v := .tuple #[gR_ r_4, .bool r_5]) rfl rfl) ?_
  refine sQ 33 (Y_extract (v := gR_ r_4) rfl rfl rfl) ?_
  refine sQ 34 (Y_extract (v := .bool r_5) rfl rfl rfl) ?_
  refine sS 9 (Ys_alloc (T := 63) (cs := [vi 0, vi 0, vi 0, vi 0]) (m := 4) hS7 k_zero_63 rfl rfl rfl) ?_
  rintro _ w_7 ⟨b3, rfl, hS8⟩
  refine s0 (Ys_store (i := 3) (s := 4) (B := aD b3) (T' := 63) (v := gR_ r_4) (vs := kR_ r_4) (k := 0) (cs' := kR_ r_4) hS8 k_sz_63_4 rfl rfl rfl rfl rfl rfl rfl (lB rfl) rfl rfl) ?_
  rintro _ w_8 ⟨rfl, hS9⟩
  refine sQ 10 (Y_assign (v := .bool r_5) rfl rfl) (rw_nil (cw_seq (cw_region ?_)))
  refine sQ 36 (Y_loadA (B := aD b1) (i := 0) (cs := kD_ y) (vs := kD_ y) k_ag_65 k_sz_65_5 rfl rfl (hS9.cf (i := 1) rfl) rfl rfl) ?_
  refine sQ 37 (Y_move (v := vi (if x.Exp < y.Exp then y.Exp else x.Exp)) rfl rfl) ?_
  obtain ⟨⟨r_6, r_7⟩, hc3, hF2⟩ := bind_inv hF2
  refine sc 38 rfl rfl (Yc_func (g := 146) (vs := [gD_ y, vi (if x.Exp < y.Exp then y.Exp else x.Exp)]) k_call_146 rfl (mc rfl (mc rfl mn)) (c_impl_raised y (if x.Exp < y.Exp then y.Exp else x.Exp) _  (hS9.inn0 [] rfl) hc3)) ?_
  rintro _ w_9 ⟨rfl, hd2⟩
  have hS10 := hS9.out00 hd2
  refine sQ 35 (Y_move (v := .tuple #[gR_ r_6, .bool r_7]) rfl rfl) ?_
  refine sQ 39 (Y_extract (v := gR_ r_6) rfl rfl rfl) ?_
  refine sQ 40 (Y_extract (v := .bool r_7) rfl rfl rfl) ?_
  refine sS 11 (Ys_alloc (T := 63) (cs := [vi 0, vi 0, vi 0, vi 0]) (m := 4) hS10 k_zero_63 rfl rfl rfl) ?_
  rintro _ w_10 ⟨b4, rfl, hS11⟩
  refine s0 (Ys_store (i := 4) (s := 4) (B := aD b4) (T' := 63) (v := gR_ r_6) (vs := kR_ r_6) (k := 0) (cs' := kR_ r_6) hS11 k_sz_63_4 rfl rfl rfl rfl rfl rfl rfl (lB rfl) rfl rfl) ?_
  rintro _ w_11 ⟨rfl, hS12⟩
  refine sQ 12 (Y_assign (v := .bool r_7) rfl rfl) (rw_nil (cw_seq (cw_region ?_)))
  refine sQ 42 (Y_move (v := .func (.func kf) #[] caps) rfl rfl) ?_
  refine sQ 43 (Y_loadA (B := aD b3) (i := 0) (cs := kR_ r_4) (vs := kR_ r_4) k_ag_63 k_sz_63_4 rfl rfl (hS12.cf (i := 3) rfl) rfl rfl) ?_
  refine sQ 44 (Y_loadA (B := aD b4) (i := 0) (cs := kR_ r_6) (vs := kR_ r_6) k_ag_63 k_sz_63_4 rfl rfl (hS12.cf (i := 4) rfl) rfl rfl) ?_
  obtain ⟨⟨r_8, r_9⟩, hc4, hF2⟩ := bind_inv hF2
  refine sc 45 rfl rfl (Yc_clos (g := kf) (vs := (gR_ r_4) :: (gR_ r_6) :: caps.toList) hk rfl rfl (clo_args (mc rfl (mc rfl mn))) (hp _ (hS12.innS (fun _ h => mOd (i := 0) h)) r_4 r_6 r_8 r_9 hc4)) ?_
  rintro _ w_12 ⟨rfl, hd3⟩
  have hS13 := hS12.out00 hd3
  refine sQ 41 (Y_move (v := .tuple #[gR_ r_8, .bool r_9]) rfl rfl) ?_
  refine sQ 46 (Y_extract (v := gR_ r_8) rfl rfl rfl) ?_
  refine sQ 47 (Y_extract (v := .bool r_9) rfl rfl rfl) ?_
  refine sS 13 (Ys_alloc (T := 63) (cs := [vi 0, vi 0, vi 0, vi 0]) (m := 4) hS13 k_zero_63 rfl rfl rfl) ?_
  rintro _ w_13 ⟨b5, rfl, hS14⟩
  refine s0 (Ys_store (i := 5) (s := 4) (B := aD b5) (T' := 63) (v := gR_ r_8) (vs := kR_ r_8) (k := 0) (cs' := kR_ r_8) hS14 k_sz_63_4 rfl rfl rfl rfl rfl rfl rfl (lB rfl) rfl rfl) ?_
  rintro _ w_14 ⟨rfl, hS15⟩
  refine sQ 14 (Y_assign (v := .bool r_9) rfl rfl) (rw_nil (cw_seq (cw_seq (cw_region ?_))))
  refine sQ 48 (Y_move (v := .bool r_5) rfl rfl) ?_
  refine sQ 49 (Y_not (p := r_5) rfl rfl) ?_
  refine sQ 50 (Y_move (v := .bool (!r_5)) rfl rfl) ?_
  refine sgq 51 (B := (!(!r_5))) (v := .bool r_7) rfl rfl (uF_ 50) (fun hg3 => (Y_move (v := .bool r_7) rfl rfl)) ?_
  refine sgq 52 (B := (!(!r_5))) (v := .bool (!r_7)) rfl rfl (uF_ 50) (fun hg4 => (Y_not (p := r_7) rfl (gv_of (v := .bool r_7) hg4))) ?_
  refine sQ 53 (Y_or (b := (!r_5)) (z := (!r_7)) rfl rfl rfl rfl) ?_
  refine sQ 54 (Y_move (v := .bool ((!r_5) || (!r_7))) rfl rfl) ?_
  refine sgq 55 (B := (!((!r_5) || (!r_7)))) (v := .bool r_9) rfl rfl (uF_ 54) (fun hg5 => (Y_move (v := .bool r_9) rfl rfl)) ?_
  refine sgq 56 (B := (!((!r_5) || (!r_7)))) (v := .bool (!r_9)) rfl rfl (uF_ 54) (fun hg6 => (Y_not (p := r_9) rfl (gv_of (v := .bool r_9) hg6))) ?_
  refine sQ 57 (Y_or (b := ((!r_5) || (!r_7))) (z := (!r_9)) rfl rfl rfl rfl) (rw_nil ?_)
  refine cw_cond (b := (((!r_5) || (!r_7)) || (!r_9))) rfl (fun hb1 => ?_) (fun hb1 => ?_)
  ·skip
   have hF3 := ct hF2 hb1
   refine cw_seq (cw_region ?_)
   refine sQ 58 (Y_buildS (zs := kZ_) (vs := []) (cs := kZ_) k_pl_65 k_zero_65 rfl mpn rfl) ?_
   refine s0 (Ys_store (i := 2) (s := 5) (B := aD b2) (T' := 65) (v := gZ_) (vs := kZ_) (k := 0) (cs' := kZ_) hS15 k_sz_65_5 rfl rfl rfl rfl rfl rfl rfl (lB rfl) rfl rfl) ?_
   rintro _ w_15 ⟨rfl, hS16⟩
   refine sQ 7 (Y_assign (v := .bool false) rfl rfl) (rw_nil (cw_ret ?_))
   obtain ⟨rfl, rfl⟩ := pr2 (some_inj hF3)
   exact ret2 Tryz.results127 (v1 := gZ_) (resAt_cellA (B := aD b2) (i := 0) (cs := kZ_) (vs := kZ_) rfl k_ag_65 k_sz_65_5 (hS16.cf (i := 2) rfl) rfl rfl) (v2 := .bool false) (resAt_tmp rfl) ⟨rfl, (hS16.sN [])⟩
  ·skip
   have hF4 := cf' hF2 hb1
   refine cw_skip (cw_seq (cw_region ?_))
   refine sQ 59 (Y_loadA (B := aD b5) (i := 0) (cs := kR_ r_8) (vs := kR_ r_8) k_ag_63 k_sz_63_4 rfl rfl (hS15.cf (i := 5) rfl) rfl rfl) ?_
   refine sQ 60 (Y_move (v := vi (if x.Exp < y.Exp then y.Exp else x.Exp)) rfl rfl) ?_
   obtain ⟨⟨r_10, r_11⟩, hc5, hF4⟩ := bind_inv hF4
   refine sc 61 rfl rfl (Yc_func (g := 122) (vs := [gR_ r_8, vi (if x.Exp < y.Exp then y.Exp else x.Exp)]) k_call_122 rfl (mc rfl (mc rfl mn)) (c_impl_DyadicOf r_8 (if x.Exp < y.Exp then y.Exp else x.Exp) _  (hS15.inn0 [] rfl) hc5)) ?_
   rintro _ w_16 ⟨rfl, hd4⟩
   have hS17 := hS15.out00 hd4
   refine sQ 62 (Y_extract (v := gD_ r_10) rfl rfl rfl) ?_
   refine sQ 63 (Y_extract (v := .bool r_11) rfl rfl rfl) ?_
   refine s0 (Ys_store (i := 2) (s := 5) (B := aD b2) (T' := 65) (v := gD_ r_10) (vs := kD_ r_10) (k := 0) (cs' := kD_ r_10) hS17 k_sz_65_5 rfl rfl rfl rfl rfl rfl rfl (lB rfl) rfl rfl) ?_
   rintro _ w_17 ⟨rfl, hS18⟩
   refine sQ 7 (Y_assign (v := .bool r_11) rfl rfl) (rw_nil (cw_ret ?_))
   obtain ⟨rfl, rfl⟩ := pr2 (some_inj hF4)
   exact ret2 Tryz.results127 (v1 := gD_ r_10) (resAt_cellA (B := aD b2) (i := 0) (cs := kD_ r_10) (vs := kD_ r_10) rfl k_ag_65 k_sz_65_5 (hS18.cf (i := 2) rfl) rfl rfl) (v2 := .bool r_11) (resAt_tmp rfl) ⟨rfl, (hS18.sN [])⟩

theorem c_impl_AddRing (x : TRing) (y : TRing)  (w0 : World)  (hS : ST w0 [] w0 [] []) {r_ : TRing} {r_1 : Bool} (hF : F_impl_AddRing x y = some (r_, r_1)) :
  CV Tryz.prog 128 #[gR_ x, gR_ y] w0 (fun v w' => v = .tuple #[gR_ r_, .bool r_1] ∧ ST w0 [] w' [] []) := by
 unfold F_impl_AddRing at hF
 refine cv_of_cw 33 Tryz.func128 rfl Tryz.ntmps128 rfl ?_
 refine cw_seq (cw_region ?_)
 refine sS 2 (Ys_box (T := 63) (v := gR_ x) (cs := kR_ x) (m := 4) hS rfl rfl rfl rfl) ?_
 rintro _ w_ ⟨b, rfl, hS1⟩
 refine sS 3 (Ys_box (T := 63) (v := gR_ y) (cs := kR_ y) (m := 4) hS1 rfl rfl rfl rfl) ?_
 rintro _ w_1 ⟨b1, rfl, hS2⟩
 refine sS 4 (Ys_alloc (T := 63) (cs := [vi 0, vi 0, vi 0, vi 0]) (m := 4) hS2 k_zero_63 rfl rfl rfl) ?_
 rintro _ w_2 ⟨b2, rfl, hS3⟩
 refine sQ 5 (Y_assign (v := .bool false) rfl rfl) (rw_nil (cw_seq (cw_region ?_)))
 refine sQ 6 (Y_fieldAddr (B := aD b) (i := 0) (s := 0) k_fd_63_0_0_3 k_sz_3_1 rfl rfl) ?_
 refine sQ 7 (Y_load1 (B := aD b) (i := 0) (cs := kR_ x) (v := vi x.A) k_sc_3 rfl rfl (hS3.cf (i := 0) rfl) rfl) ?_
 refine sQ 8 (Y_fieldAddr (B := aD b1) (i := 0) (s := 0) k_fd_63_0_0_3 k_sz_3_1 rfl rfl) ?_
 refine sQ 9 (Y_load1 (B := aD b1) (i := 0) (cs := kR_ y) (v := vi y.A) k_sc_3 rfl rfl (hS3.cf (i := 1) rfl) rfl) ?_
 refine sQ 10 (Y_add (k := .i64) (a := x.A) (b := y.A) rfl rfl rfl) ?_
 refine sQ 11 (Y_fieldAddr (B := aD b) (i := 0) (s := 0) k_fd_63_1_1_3 k_sz_3_1 rfl rfl) ?_
 refine sQ 12 (Y_load1 (B := aD b) (i := 1) (cs := kR_ x) (v := vi x.B) k_sc_3 rfl rfl (hS3.cf (i := 0) rfl) rfl) ?_
 refine sQ 13 (Y_fieldAddr (B := aD b1) (i := 0) (s := 0) k_fd_63_1_1_3 k_sz_3_1 rfl rfl) ?_
 refine sQ 14 (Y_load1 (B := aD b1) (i := 1) (cs := kR_ y) (v := vi y.B) k_sc_3 rfl rfl (hS3.cf (i := 1) rfl) rfl) ?_
 refine sQ 15 (Y_add (k := .i64) (a := x.B) (b := y.B) rfl rfl rfl) ?_
 refine sQ 16 (Y_fieldAddr (B := aD b) (i := 0) (s := 0) k_fd_63_2_2_3 k_sz_3_1 rfl rfl) ?_
 refine sQ 17 (Y_load1 (B := aD b) (i := 2) (cs := kR_ x) (v := vi x.C) k_sc_3 rfl rfl (hS3.cf (i := 0) rfl) rfl) ?_
 refine sQ 18 (Y_fieldAddr (B := aD b1) (i := 0) (s := 0) k_fd_63_2_2_3 k_sz_3_1 rfl rfl) ?_
 refine sQ 19 (Y_load1 (B := aD b1) (i := 2) (cs := kR_ y) (v := vi y.C) k_sc_3 rfl rfl (hS3.cf (i := 1) rfl) rfl) ?_
 refine sQ 20 (Y_add (k := .i64) (a := x.C) (b := y.C) rfl rfl rfl) ?_
 refine sQ 21 (Y_fieldAddr (B := aD b) (i := 0) (s := 0) k_fd_63_3_3_3 k_sz_3_1 rfl rfl) ?_
 refine sQ 22 (Y_load1 (B := aD b) (i := 3) (cs := kR_ x) (v := vi x.D) k_sc_3 rfl rfl (hS3.cf (i := 0) rfl) rfl) ?_
 refine sQ 23 (Y_fieldAddr (B := aD b1) (i := 0) (s := 0) k_fd_63_3_3_3 k_sz_3_1 rfl rfl) ?_
 refine sQ 24 (Y_load1 (B := aD b1) (i := 3) (cs := kR_ y) (v := vi y.D) k_sc_3 rfl rfl (hS3.cf (i := 1) rfl) rfl) ?_
 refine sQ 25 (Y_add (k := .i64) (a := x.D) (b := y.D) rfl rfl rfl) ?_
 refine sQ 26 (Y_buildS (zs := [vi 0, vi 0, vi 0, vi 0]) (vs := [(0, vi (i64.wrap (x.A + y.A))), (1, vi (i64.wrap (x.B + y.B))), (2, vi (i64.wrap (x.C + y.C))), (3, vi (i64.wrap (x.D + y.D)))]) (cs := [vi (i64.wrap (x.A + y.A)), vi (i64.wrap (x.B + y.B)), vi (i64.wrap (x.C + y.C)), vi (i64.wrap (x.D + y.D))]) k_pl_63 k_zero_63 rfl (mpc rfl (mpc rfl (mpc rfl (mpc rfl mpn)))) rfl) ?_
 refine sQ 27 (Y_loadA (B := aD b) (i := 0) (cs := kR_ x) (vs := kR_ x) k_ag_63 k_sz_63_4 rfl rfl (hS3.cf (i := 0) rfl) rfl rfl) ?_
 refine sQ 28 (Y_loadA (B := aD b1) (i := 0) (cs := kR_ y) (vs := kR_ y) k_ag_63 k_sz_63_4 rfl rfl (hS3.cf (i := 1) rfl) rfl rfl) ?_
 refine sS 29 (Ys_bslice (s := 4) (len := 2) (vs := [(0, gR_ x), (1, gR_ y)]) (cs := [vi x.A, vi x.B, vi x.C, vi x.D, vi y.A, vi y.B, vi y.C, vi y.D]) (zs := [vi 0, vi 0, vi 0, vi 0, vi 0, vi 0, vi 0, vi 0]) (m := 8) hS3 k_sl_169_63 k_sz_63_4 k_zc_63 rfl (mpc rfl (mpc rfl mpn)) rfl rfl rfl (by kernel_rfl) (by kernel_rfl) rfl) ?_
 rintro _ w_3 ⟨b3, rfl, hS4⟩
 obtain ⟨⟨r_2, r_3⟩, hc, hF⟩ := bind_inv hF
 refine sc 30 rfl rfl (Yc_func (g := 143) (vs := [.agg #[vi (i64.wrap (x.A + y.A)), vi (i64.wrap (x.B + y.B)), vi (i64.wrap (x.C + y.C)), vi (i64.wrap (x.D + y.D))], .slice (aD b3) 2 2]) k_call_143 rfl (mc rfl (mc rfl mn)) (c_impl_ringIf (TRing.mk (i64.wrap (x.A + y.A)) (i64.wrap (x.B + y.B)) (i64.wrap (x.C + y.C)) (i64.wrap (x.D + y.D))) [x, y] (aD b3) 2 2 _ rfl (hS4.inn [false, false, false, true] rfl [] rfl) hc)) ?_
 rintro _ w_4 ⟨rfl, hd⟩
 have hS5 := hS4.out [false, false, false, true] rfl hd
 refine sQ 31 (Y_extract (v := gR_ r_2) rfl rfl rfl) ?_
 refine sQ 32 (Y_extract (v := .bool r_3) rfl rfl rfl) ?_
 refine s0 (Ys_store (i := 2) (s := 4) (B := aD b2) (T' := 63) (v := gR_ r_2) (vs := kR_ r_2) (k := 0) (cs' := kR_ r_2) hS5 k_sz_63_4 rfl rfl rfl rfl rfl rfl rfl (lB rfl) rfl rfl) ?_
 rintro _ w_5 ⟨rfl, hS6⟩
 refine sQ 5 (Y_assign (v := .bool r_3) rfl rfl) (rw_nil (cw_ret ?_))
 obtain ⟨rfl, rfl⟩ := pr2 (some_inj hF)
 exact ret2 Tryz.results128 (v1 := gR_ r_2) (resAt_cellA (B := aD b2) (i := 0) (cs := kR_ r_2) (vs := kR_ r_2) rfl k_ag_63 k_sz_63_4 (hS6.cf (i := 2) rfl) rfl rfl) (v2 := .bool r_3) (resAt_tmp rfl) ⟨rfl, (hS6.sN [])⟩

theorem c_impl_AddDyadic (x : TDyadic) (y : TDyadic)  (w0 : World)  (hS : ST w0 [] w0 [] []) {r_ : TDyadic} {r_1 : Bool} (hF : F_impl_AddDyadic x y = some (r_, r_1)) :
  CV Tryz.prog 103 #[gD_ x, gD_ y] w0 (fun v w' => v = .tuple #[gD_ r_, .bool r_1] ∧ ST w0 [] w' [] []) := by
 unfold F_impl_AddDyadic at hF
 refine cv_of_cw 11 Tryz.func103 rfl Tryz.ntmps103 rfl ?_
 refine cw_seq (cw_region ?_)
 refine sS 2 (Ys_box (T := 65) (v := gD_ x) (cs := kD_ x) (m := 5) hS rfl rfl rfl rfl) ?_
 rintro _ w_ ⟨b, rfl, hS1⟩
 refine sS 3 (Ys_box (T := 65) (v := gD_ y) (cs := kD_ y) (m := 5) hS1 rfl rfl rfl rfl) ?_
 rintro _ w_1 ⟨b1, rfl, hS2⟩
 refine sS 4 (Ys_alloc (T := 65) (cs := kZ_) (m := 5) hS2 k_zero_65 rfl rfl rfl) ?_
 rintro _ w_2 ⟨b2, rfl, hS3⟩
 refine sQ 5 (Y_assign (v := .bool false) rfl rfl) (rw_nil (cw_seq (cw_region ?_)))
 refine sQ 6 (Y_loadA (B := aD b) (i := 0) (cs := kD_ x) (vs := kD_ x) k_ag_65 k_sz_65_5 rfl rfl (hS3.cf (i := 0) rfl) rfl rfl) ?_
 refine sQ 7 (Y_loadA (B := aD b1) (i := 0) (cs := kD_ y) (vs := kD_ y) k_ag_65 k_sz_65_5 rfl rfl (hS3.cf (i := 1) rfl) rfl rfl) ?_
 obtain ⟨⟨r_2, r_3⟩, hc, hF⟩ := bind_inv hF
 refine sc 8 rfl rfl (Yc_func (g := 127) (vs := [gD_ x, gD_ y, .func (.func 128) #[] #[]]) k_call_127 rfl (mc rfl (mc rfl (mc rfl mn))) (c_impl_combined x y F_impl_AddRing 128 (#[]) [] _ k_call_128 (fun w hw x_0 x_1 y_0 y_1 h_ => c_impl_AddRing x_0 x_1  w  hw h_) (hS3.inn0 [] rfl) hc)) ?_
 rintro _ w_3 ⟨rfl, hd⟩
 have hS4 := hS3.out00 hd
 refine sQ 9 (Y_extract (v := gD_ r_2) rfl rfl rfl) ?_
 refine sQ 10 (Y_extract (v := .bool r_3) rfl rfl rfl) ?_
 refine s0 (Ys_store (i := 2) (s := 5) (B := aD b2) (T' := 65) (v := gD_ r_2) (vs := kD_ r_2) (k := 0) (cs' := kD_ r_2) hS4 k_sz_65_5 rfl rfl rfl rfl rfl rfl rfl (lB rfl) rfl rfl) ?_
 rintro _ w_4 ⟨rfl, hS5⟩
 refine sQ 5 (Y_assign (v := .bool r_3) rfl rfl) (rw_nil (cw_ret ?_))
 obtain ⟨rfl, rfl⟩ := pr2 (some_inj hF)
 exact ret2 Tryz.results103 (v1 := gD_ r_2) (resAt_cellA (B := aD b2) (i := 0) (cs := kD_ r_2) (vs := kD_ r_2) rfl k_ag_65 k_sz_65_5 (hS5.cf (i := 2) rfl) rfl rfl) (v2 := .bool r_3) (resAt_tmp rfl) ⟨rfl, (hS5.sN [])⟩
end Go.VK
