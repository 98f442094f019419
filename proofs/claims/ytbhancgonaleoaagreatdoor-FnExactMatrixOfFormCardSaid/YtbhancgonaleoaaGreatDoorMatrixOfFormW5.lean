/- Walks: each Go function returns what its Lean function says. By program. -/
import Derived.Test.YtbhancgonaleoaaGreatDoorMatrixOfFormFa
import Derived.Test.YtbhancgonaleoaaGreatDoorMatrixOfFormW4
set_option linter.unusedVariables false
set_option maxRecDepth 100000
set_option maxHeartbeats 1000000
namespace Go.VK
open Go.RowKit
open Go.Proofs
open Go.IntKind
attribute [local irreducible] CW RW RA CV Y Yw Yc Ys RetOf
attribute [local irreducible] F_laws_szNormalForm F_laws_toNormalForm F_spec_l1In F_spec_l10Valid F_spec_l9Same F_spec_l1Even F_spec_l1Root F_spec_l1Half F_spec_l2Low F_spec_l1All F_spec_l1Good F_spec_l2C_ring F_spec_l1Mul F_spec_l2C_mul F_spec_l1Add F_spec_l2C_add F_spec_l2C_times F_spec_l1Neg F_spec_l2Neg F_spec_l1Turn F_spec_l2Power F_spec_l6One F_spec_l9Pauli F_spec_l1Conj F_spec_l2Conj F_spec_l3Adj F_spec_l9Bloch F_spec_l6Bit F_spec_l6Cell F_spec_l6Gate F_spec_l2C_run F_spec_l3Unit F_spec_l6Op F_spec_l9Word F_spec_l9Words F_spec_l10Gates F_spec_l10Circuit F_spec_MatrixOfForm F_impl_within F_impl_IsValidForm F_impl_isCoef F_impl_IsValidRing F_impl_isEven F_impl_IsValidDyadic F_impl_ringIf F_impl_MulRing F_impl_DivRootTwo F_impl_DyadicOf F_impl_MulDyadic F_impl_MulRootTwo F_impl_raised F_impl_combined F_impl_AddRing F_impl_AddDyadic F_impl_mulBloch F_impl_whole F_impl_small F_impl_isDim F_impl_matrixOf F_impl_isTwo F_impl_IsValidGate F_impl_MulOmega F_impl_phase F_impl_bitOf F_impl_flipped F_impl_comesFrom F_impl_entry F_impl_GateMatrix_1 F_impl_GateMatrix F_slices_IndexFunc_impl_Dyadic_impl_Dyadic F_slices_ContainsFunc_impl_Dyadic_impl_Dyadic F_impl_IsValidMatrix_1 F_impl_IsValidMatrix F_impl_IdentityMatrix_1 F_impl_IdentityMatrix F_impl_Matrix_at F_impl_MulMatrix_1 F_impl_MulMatrix F_impl_Conjugate F_impl_ConjDyadic F_impl_Adjoint_1 F_impl_Adjoint F_slices_Equal_impl_Dyadic_impl_Dyadic F_impl_EqualMatrices F_impl_IsUnitary F_impl_IsOneQubit F_impl_TraceOf F_impl_blochCell F_impl_BlochOf F_impl_blochGate F_slices_IndexFunc_SSimpl_Dyadic_impl_Dyadic F_slices_ContainsFunc_SSimpl_Dyadic_impl_Dyadic F_impl_cliffordList_1 F_impl_cliffordList F_impl_CliffordWord F_impl_wordGates F_impl_syllableGates F_impl_formGates F_slices_IndexFunc_impl_Gate_impl_Gate F_slices_ContainsFunc_impl_Gate_impl_Gate F_impl_IsValidCircuit_1 F_impl_IsValidCircuit F_impl_applied F_impl_OperatorOf F_impl_ScaleMatrix_1 F_impl_ScaleMatrix F_impl_MatrixOfForm F_laws_eqRing F_laws_eqDyadic F_laws_eqDyadicS F_laws_eqMatrix F_laws_markDyadicS F_laws_markMatrix F_laws_heldDyadicS F_laws_heldMatrix F_laws_FnExactMatrixOfForm
theorem c_laws_markDyadicS (a : List TDyadic) (k_ : Int) (B : Option Addr) (c n : Nat) (w0 : World) (hn : a.length = n) (hS : ST w0 (bl [⟨B, 65, (a.flatMap eN0), c * 5⟩]) w0 [⟨B, 65, (a.flatMap eN0), c * 5⟩] []) {r_ : Int} {m : List TDyadic} (hF : F_laws_markDyadicS a k_ = some (r_, m)) :
  CV Tryz.prog 43 #[.slice B n c, vi k_] w0 (fun v w' => v = vi r_ ∧ m.length = n ∧ ST w0 (bl [⟨B, 65, (a.flatMap eN0), c * 5⟩]) w' [⟨B, 65, (m.flatMap eN0), c * 5⟩] []) := by
 subst hn
 unfold F_laws_markDyadicS at hF
 refine cv_of_cw 52 Tryz.func43 rfl Tryz.ntmps43 rfl ?_
 refine cw_seq (cw_region ?_)
 refine sQ 4 (Y_assign (v := vi 0) rfl rfl) (rw_nil (cw_seq (cw_seq (cw_region ?_))))
 refine sQ 5 (Y_assign (v := vi 0) rfl rfl) (rw_nil ?_)
 obtain ⟨hN, hF⟩ := chk_inv hF
 obtain ⟨z, hz, hF1⟩ := bind_inv hF
 refine cw_block ?_
 refine cw_loop (fun k f w => ∃ (i1 : Nat) (m1 : List TDyadic) (k_1 : Int), FF f [(0, .slice B a.length c), (1, vi k_1), (5, vi (i1 : Int))] ∧ m1.length = a.length ∧ ST w0 (bl [⟨B, 65, (a.flatMap eN0), c * 5⟩]) w [⟨B, 65, (m1.flatMap eN0), c * 5⟩] [] ∧ i1 + k = a.length ∧ forN F_laws_markDyadicS_l1 k i1 (m1, k_1) = some z) a.length ⟨0, a, k_, (FF.cons rfl (FF.cons rfl (FF.cons rfl FF.nil))), rfl, (hS.sel [0] rfl rfl), Nat.zero_add _, hz⟩ ?_
 rintro k_2 f w ⟨i1, m1, k_1, hf, hl, hS1, hik, hL⟩
 refine cw_seq (cw_seq (cw_region ?_))
 refine sQ 6 (Y_move (v := vi (i1 : Int)) rfl (hf.get 5 2 rfl)) ?_
 refine sQ 7 (Y_move (v := .slice B a.length c) rfl (hf.get 0 0 rfl)) ?_
 refine sQ 8 (Y_len (B := B) (m := a.length) (c := c) k_sl_28_65 rfl rfl) ?_
 refine sQ 9 (Y_lt (k := .i64) (a := (i1 : Int)) (b := (a.length : Int)) rfl rfl rfl) (rw_nil ?_)
 refine cw_cond (b := (decide ((i1 : Int) < (a.length : Int)))) rfl (fun hlt => ?_) (fun hlt => ?_)
 ·skip
  have hlt1 : i1 < a.length := by have h := of_decide_eq_true hlt; omega
  obtain ⟨k_3, rfl⟩ : ∃ k2, k_2 = k2 + 1 := ⟨k_2 - 1, by omega⟩
  obtain ⟨y, hb, hL1⟩ := forN_go hL
  unfold F_laws_markDyadicS_l1 at hb
  refine cw_skip (cw_seq (cw_block (cw_seq (cw_region ?_))))
  refine sQ 12 (Y_move (v := .slice B a.length c) rfl (hf.get 0 0 rfl)) ?_
  refine sQ 13 (Y_move (v := vi (i1 : Int)) rfl (hf.get 5 2 rfl)) ?_
  refine sQ 14 (Y_move (v := vi k_1) rfl (hf.get 1 1 rfl)) ?_
  obtain ⟨x, hx, hb⟩ := bind_inv hb
  refine sQ 15 (Y_index (B := B) (m := a.length) (c := c) (k := .i64) (i := (i1 : Int)) k_sl_28_65 k_sz_65_5 rfl rfl rfl (gi_isSome eN2 rfl (hS1.cf (i := 0) rfl) hx) (getI_nn hx) (getI_ltI hx hl)) ?_
  refine sQ 16 (Y_fieldAddr (B := B) (i := (i1 : Int).toNat * 5) (s := 3) k_fd_65_0_0_63 k_sz_63_4 rfl rfl) ?_
  refine sQ 17 (Y_fieldAddr2 (B := B) (i := (i1 : Int).toNat * 5) (e := 0) (l := 0) (s := 0) k_fd_63_0_0_3 k_sz_3_1 rfl rfl rfl) ?_
  refine s0 (Ys_store (i := 0) (s := 1) (B := B) (T' := 65) (v := vi k_1) (vs := [vi k_1]) (k := (i1 : Int).toNat * 5 + 0) (cs' := ((m1.set (i1 : Int).toNat (TDyadic.mk (TRing.mk k_1 x.Num.B x.Num.C x.Num.D) x.Exp)).flatMap eN0)) hS1 k_sz_3_1 rfl rfl rfl rfl rfl rfl rfl (gi_fit eN2 hx (j := 0) (k := 1) (by decide)) (gi_setf eN2 hx (TDyadic.mk (TRing.mk k_1 x.Num.B x.Num.C x.Num.D) x.Exp) rfl (lB rfl)) rfl) ?_
  rintro _ w_ ⟨rfl, hS2⟩
  refine rw_nil (cw_seq (cw_region ?_))
  refine sQ 18 (Y_move (v := vi k_1) rfl (hf.get 1 1 rfl)) ?_
  refine sQ 19 (Y_add (k := .i64) (a := k_1) (b := 1) rfl rfl rfl) ?_
  refine sQ 1 (Y_assign (v := vi (i64.wrap (k_1 + 1))) rfl rfl) (rw_nil (cw_seq (cw_region ?_)))
  refine sQ 20 (Y_move (v := .slice B a.length c) rfl (hf.get 0 0 rfl)) ?_
  refine sQ 21 (Y_move (v := vi (i1 : Int)) rfl (hf.get 5 2 rfl)) ?_
  refine sQ 22 (Y_move (v := vi (i64.wrap (k_1 + 1))) rfl rfl) ?_
  refine sQ 23 (Y_index (B := B) (m := a.length) (c := c) (k := .i64) (i := (i1 : Int)) k_sl_28_65 k_sz_65_5 rfl rfl rfl (gi_isSome eN2 rfl (hS2.cf (i := 0) rfl) (getI_set (y := (TDyadic.mk (TRing.mk k_1 x.Num.B x.Num.C x.Num.D) x.Exp)) hx)) (getI_nn (getI_set (y := (TDyadic.mk (TRing.mk k_1 x.Num.B x.Num.C x.Num.D) x.Exp)) hx)) (getI_ltI (getI_set (y := (TDyadic.mk (TRing.mk k_1 x.Num.B x.Num.C x.Num.D) x.Exp)) hx) (set_len _ _ _ hl))) ?_
  refine sQ 24 (Y_fieldAddr (B := B) (i := (i1 : Int).toNat * 5) (s := 3) k_fd_65_0_0_63 k_sz_63_4 rfl rfl) ?_
  refine sQ 25 (Y_fieldAddr2 (B := B) (i := (i1 : Int).toNat * 5) (e := 0) (l := 1) (s := 0) k_fd_63_1_1_3 k_sz_3_1 rfl rfl rfl) ?_
  refine s0 (Ys_store (i := 0) (s := 1) (B := B) (T' := 65) (v := vi (i64.wrap (k_1 + 1))) (vs := [vi (i64.wrap (k_1 + 1))]) (k := (i1 : Int).toNat * 5 + 1) (cs' := (((m1.set (i1 : Int).toNat (TDyadic.mk (TRing.mk k_1 x.Num.B x.Num.C x.Num.D) x.Exp)).set (i1 : Int).toNat (TDyadic.mk (TRing.mk k_1 (i64.wrap (k_1 + 1)) x.Num.C x.Num.D) x.Exp)).flatMap eN0)) hS2 k_sz_3_1 rfl rfl rfl rfl rfl rfl rfl (gi_fit eN2 (getI_set (y := (TDyadic.mk (TRing.mk k_1 x.Num.B x.Num.C x.Num.D) x.Exp)) hx) (j := 1) (k := 1) (by decide)) (gi_setf eN2 (getI_set (y := (TDyadic.mk (TRing.mk k_1 x.Num.B x.Num.C x.Num.D) x.Exp)) hx) (TDyadic.mk (TRing.mk k_1 (i64.wrap (k_1 + 1)) x.Num.C x.Num.D) x.Exp) rfl (lB rfl)) rfl) ?_
  rintro _ w_1 ⟨rfl, hS3⟩
  refine rw_nil (cw_seq (cw_region ?_))
  refine sQ 26 (Y_move (v := vi (i64.wrap (k_1 + 1))) rfl rfl) ?_
  refine sQ 27 (Y_add (k := .i64) (a := (i64.wrap (k_1 + 1))) (b := 1) rfl rfl rfl) ?_
  refine sQ 1 (Y_assign (v := vi (i64.wrap ((i64.wrap (k_1 + 1)) + 1))) rfl rfl) (rw_nil (cw_seq (cw_region ?_)))
  refine sQ 28 (Y_move (v := .slice B a.length c) rfl (hf.get 0 0 rfl)) ?_
  refine sQ 29 (Y_move (v := vi (i1 : Int)) rfl (hf.get 5 2 rfl)) ?_
  refine sQ 30 (Y_move (v := vi (i64.wrap ((i64.wrap (k_1 + 1)) + 1))) rfl rfl) ?_
  refine sQ 31 (Y_index (B := B) (m := a.length) (c := c) (k := .i64) (i := (i1 : Int)) k_sl_28_65 k_sz_65_5 rfl rfl rfl (gi_isSome eN2 rfl (hS3.cf (i := 0) rfl) (getI_set (y := (TDyadic.mk (TRing.mk k_1 (i64.wrap (k_1 + 1)) x.Num.C x.Num.D) x.Exp)) (getI_set (y := (TDyadic.mk (TRing.mk k_1 x.Num.B x.Num.C x.Num.D) x.Exp)) hx))) (getI_nn (getI_set (y := (TDyadic.mk (TRing.mk k_1 (i64.wrap (k_1 + 1)) x.Num.C x.Num.D) x.Exp)) (getI_set (y := (TDyadic.mk (TRing.mk k_1 x.Num.B x.Num.C x.Num.D) x.Exp)) hx))) (getI_ltI (getI_set (y := (TDyadic.mk (TRing.mk k_1 (i64.wrap (k_1 + 1)) x.Num.C x.Num.D) x.Exp)) (getI_set (y := (TDyadic.mk (TRing.mk k_1 x.Num.B x.Num.C x.Num.D) x.Exp)) hx)) (set_len _ _ _ (set_len _ _ _ hl)))) ?_
  refine sQ 32 (Y_fieldAddr (B := B) (i := (i1 : Int).toNat * 5) (s := 3) k_fd_65_0_0_63 k_sz_63_4 rfl rfl) ?_
  refine sQ 33 (Y_fieldAddr2 (B := B) (i := (i1 : Int).toNat * 5) (e := 0) (l := 2) (s := 0) k_fd_63_2_2_3 k_sz_3_1 rfl rfl rfl) ?_
  refine s0 (Ys_store (i := 0) (s := 1) (B := B) (T' := 65) (v := vi (i64.wrap ((i64.wrap (k_1 + 1)) + 1))) (vs := [vi (i64.wrap ((i64.wrap (k_1 + 1)) + 1))]) (k := (i1 : Int).toNat * 5 + 2) (cs' := ((((m1.set (i1 : Int).toNat (TDyadic.mk (TRing.mk k_1 x.Num.B x.Num.C x.Num.D) x.Exp)).set (i1 : Int).toNat (TDyadic.mk (TRing.mk k_1 (i64.wrap (k_1 + 1)) x.Num.C x.Num.D) x.Exp)).set (i1 : Int).toNat (TDyadic.mk (TRing.mk k_1 (i64.wrap (k_1 + 1)) (i64.wrap ((i64.wrap (k_1 + 1)) + 1)) x.Num.D) x.Exp)).flatMap eN0)) hS3 k_sz_3_1 rfl rfl rfl rfl rfl rfl rfl (gi_fit eN2 (getI_set (y := (TDyadic.mk (TRing.mk k_1 (i64.wrap (k_1 + 1)) x.Num.C x.Num.D) x.Exp)) (getI_set (y := (TDyadic.mk (TRing.mk k_1 x.Num.B x.Num.C x.Num.D) x.Exp)) hx)) (j := 2) (k := 1) (by decide)) (gi_setf eN2 (getI_set (y := (TDyadic.mk (TRing.mk k_1 (i64.wrap (k_1 + 1)) x.Num.C x.Num.D) x.Exp)) (getI_set (y := (TDyadic.mk (TRing.mk k_1 x.Num.B x.Num.C x.Num.D) x.Exp)) hx)) (TDyadic.mk (TRing.mk k_1 (i64.wrap (k_1 + 1)) (i64.wrap ((i64.wrap (k_1 + 1)) + 1)) x.Num.D) x.Exp) rfl (lB rfl)) rfl) ?_
  rintro _ w_2 ⟨rfl, hS4⟩
  refine rw_nil (cw_seq (cw_region ?_))
  refine sQ 34 (Y_move (v := vi (i64.wrap ((i64.wrap (k_1 + 1)) + 1))) rfl rfl) ?_
  refine sQ 35 (Y_add (k := .i64) (a := (i64.wrap ((i64.wrap (k_1 + 1)) + 1))) (b := 1) rfl rfl rfl) ?_
  refine sQ 1 (Y_assign (v := vi (i64.wrap ((i64.wrap ((i64.wrap (k_1 + 1)) + 1)) + 1))) rfl rfl) (rw_nil (cw_seq (cw_region ?_)))
  refine sQ 36 (Y_move (v := .slice B a.length c) rfl (hf.get 0 0 rfl)) ?_
  refine sQ 37 (Y_move (v := vi (i1 : Int)) rfl (hf.get 5 2 rfl)) ?_
  refine sQ 38 (Y_move (v := vi (i64.wrap ((i64.wrap ((i64.wrap (k_1 + 1)) + 1)) + 1))) rfl rfl) ?_
  refine sQ 39 (Y_index (B := B) (m := a.length) (c := c) (k := .i64) (i := (i1 : Int)) k_sl_28_65 k_sz_65_5 rfl rfl rfl (gi_isSome eN2 rfl (hS4.cf (i := 0) rfl) (getI_set (y := (TDyadic.mk (TRing.mk k_1 (i64.wrap (k_1 + 1)) (i64.wrap ((i64.wrap (k_1 + 1)) + 1)) x.Num.D) x.Exp)) (getI_set (y := (TDyadic.mk (TRing.mk k_1 (i64.wrap (k_1 + 1)) x.Num.C x.Num.D) x.Exp)) (getI_set (y := (TDyadic.mk (TRing.mk k_1 x.Num.B x.Num.C x.Num.D) x.Exp)) hx)))) (getI_nn (getI_set (y := (TDyadic.mk (TRing.mk k_1 (i64.wrap (k_1 + 1)) (i64.wrap ((i64.wrap (k_1 + 1)) + 1)) x.Num.D) x.Exp)) (getI_set (y := (TDyadic.mk (TRing.mk k_1 (i64.wrap (k_1 + 1)) x.Num.C x.Num.D) x.Exp)) (getI_set (y := (TDyadic.mk (TRing.mk k_1 x.Num.B x.Num.C x.Num.D) x.Exp)) hx)))) (getI_ltI (getI_set (y := (TDyadic.mk (TRing.mk k_1 (i64.wrap (k_1 + 1)) (i64.wrap ((i64.wrap (k_1 + 1)) + 1)) x.Num.D) x.Exp)) (getI_set (y := (TDyadic.mk (TRing.mk k_1 (i64.wrap (k_1 + 1)) x.Num.C x.Num.D) x.Exp)) (getI_set (y := (TDyadic.mk (TRing.mk k_1 x.Num.B x.Num.C x.Num.D) x.Exp)) hx))) (set_len _ _ _ (set_len _ _ _ (set_len _ _ _ hl))))) ?_
  refine sQ 40 (Y_fieldAddr (B := B) (i := (i1 : Int).toNat * 5) (s := 3) k_fd_65_0_0_63 k_sz_63_4 rfl rfl) ?_
  refine sQ 41 (Y_fieldAddr2 (B := B) (i := (i1 : Int).toNat * 5) (e := 0) (l := 3) (s := 0) k_fd_63_3_3_3 k_sz_3_1 rfl rfl rfl) ?_
  refine s0 (Ys_store (i := 0) (s := 1) (B := B) (T' := 65) (v := vi (i64.wrap ((i64.wrap ((i64.wrap (k_1 + 1)) + 1)) + 1))) (vs := [vi (i64.wrap ((i64.wrap ((i64.wrap (k_1 + 1)) + 1)) + 1))]) (k := (i1 : Int).toNat * 5 + 3) (cs' := (((((m1.set (i1 : Int).toNat (TDyadic.mk (TRing.mk k_1 x.Num.B x.Num.C x.Num.D) x.Exp)).set (i1 : Int).toNat (TDyadic.mk (TRing.mk k_1 (i64.wrap (k_1 + 1)) x.Num.C x.Num.D) x.Exp)).set (i1 : Int).toNat (TDyadic.mk (TRing.mk k_1 (i64.wrap (k_1 + 1)) (i64.wrap ((i64.wrap (k_1 + 1)) + 1)) x.Num.D) x.Exp)).set (i1 : Int).toNat (TDyadic.mk (TRing.mk k_1 (i64.wrap (k_1 + 1)) (i64.wrap ((i64.wrap (k_1 + 1)) + 1)) (i64.wrap ((i64.wrap ((i64.wrap (k_1 + 1)) + 1)) + 1))) x.Exp)).flatMap eN0)) hS4 k_sz_3_1 rfl rfl rfl rfl rfl rfl rfl (gi_fit eN2 (getI_set (y := (TDyadic.mk (TRing.mk k_1 (i64.wrap (k_1 + 1)) (i64.wrap ((i64.wrap (k_1 + 1)) + 1)) x.Num.D) x.Exp)) (getI_set (y := (TDyadic.mk (TRing.mk k_1 (i64.wrap (k_1 + 1)) x.Num.C x.Num.D) x.Exp)) (getI_set (y := (TDyadic.mk (TRing.mk k_1 x.Num.B x.Num.C x.Num.D) x.Exp)) hx))) (j := 3) (k := 1) (by decide)) (gi_setf eN2 (getI_set (y := (TDyadic.mk (TRing.mk k_1 (i64.wrap (k_1 + 1)) (i64.wrap ((i64.wrap (k_1 + 1)) + 1)) x.Num.D) x.Exp)) (getI_set (y := (TDyadic.mk (TRing.mk k_1 (i64.wrap (k_1 + 1)) x.Num.C x.Num.D) x.Exp)) (getI_set (y := (TDyadic.mk (TRing.mk k_1 x.Num.B x.Num.C x.Num.D) x.Exp)) hx))) (TDyadic.mk (TRing.mk k_1 (i64.wrap (k_1 + 1)) (i64.wrap ((i64.wrap (k_1 + 1)) + 1)) (i64.wrap ((i64.wrap ((i64.wrap (k_1 + 1)) + 1)) + 1))) x.Exp) rfl (lB rfl)) rfl) ?_
  rintro _ w_3 ⟨rfl, hS5⟩
  refine rw_nil (cw_seq (cw_region ?_))
  refine sQ 42 (Y_move (v := vi (i64.wrap ((i64.wrap ((i64.wrap (k_1 + 1)) + 1)) + 1))) rfl rfl) ?_
  refine sQ 43 (Y_add (k := .i64) (a := (i64.wrap ((i64.wrap ((i64.wrap (k_1 + 1)) + 1)) + 1))) (b := 1) rfl rfl rfl) ?_
  refine sQ 1 (Y_assign (v := vi (i64.wrap ((i64.wrap ((i64.wrap ((i64.wrap (k_1 + 1)) + 1)) + 1)) + 1))) rfl rfl) (rw_nil (cw_seq (cw_region ?_)))
  refine sQ 44 (Y_move (v := .slice B a.length c) rfl (hf.get 0 0 rfl)) ?_
  refine sQ 45 (Y_move (v := vi (i1 : Int)) rfl (hf.get 5 2 rfl)) ?_
  refine sQ 46 (Y_move (v := vi (i64.wrap ((i64.wrap ((i64.wrap ((i64.wrap (k_1 + 1)) + 1)) + 1)) + 1))) rfl rfl) ?_
  refine sQ 47 (Y_index (B := B) (m := a.length) (c := c) (k := .i64) (i := (i1 : Int)) k_sl_28_65 k_sz_65_5 rfl rfl rfl (gi_isSome eN2 rfl (hS5.cf (i := 0) rfl) (getI_set (y := (TDyadic.mk (TRing.mk k_1 (i64.wrap (k_1 + 1)) (i64.wrap ((i64.wrap (k_1 + 1)) + 1)) (i64.wrap ((i64.wrap ((i64.wrap (k_1 + 1)) + 1)) + 1))) x.Exp)) (getI_set (y := (TDyadic.mk (TRing.mk k_1 (i64.wrap (k_1 + 1)) (i64.wrap ((i64.wrap (k_1 + 1)) + 1)) x.Num.D) x.Exp)) (getI_set (y := (TDyadic.mk (TRing.mk k_1 (i64.wrap (k_1 + 1)) x.Num.C x.Num.D) x.Exp)) (getI_set (y := (TDyadic.mk (TRing.mk k_1 x.Num.B x.Num.C x.Num.D) x.Exp)) hx))))) (getI_nn (getI_set (y := (TDyadic.mk (TRing.mk k_1 (i64.wrap (k_1 + 1)) (i64.wrap ((i64.wrap (k_1 + 1)) + 1)) (i64.wrap ((i64.wrap ((i64.wrap (k_1 + 1)) + 1)) + 1))) x.Exp)) (getI_set (y := (TDyadic.mk (TRing.mk k_1 (i64.wrap (k_1 + 1)) (i64.wrap ((i64.wrap (k_1 + 1)) + 1)) x.Num.D) x.Exp)) (getI_set (y := (TDyadic.mk (TRing.mk k_1 (i64.wrap (k_1 + 1)) x.Num.C x.Num.D) x.Exp)) (getI_set (y := (TDyadic.mk (TRing.mk k_1 x.Num.B x.Num.C x.Num.D) x.Exp)) hx))))) (getI_ltI (getI_set (y := (TDyadic.mk (TRing.mk k_1 (i64.wrap (k_1 + 1)) (i64.wrap ((i64.wrap (k_1 + 1)) + 1)) (i64.wrap ((i64.wrap ((i64.wrap (k_1 + 1)) + 1)) + 1))) x.Exp)) (getI_set (y := (TDyadic.mk (TRing.mk k_1 (i64.wrap (k_1 + 1)) (i64.wrap ((i64.wrap (k_1 + 1)) + 1)) x.Num.D) x.Exp)) (getI_set (y := (TDyadic.mk (TRing.mk k_1 (i64.wrap (k_1 + 1)) x.Num.C x.Num.D) x.Exp)) (getI_set (y := (TDyadic.mk (TRing.mk k_1 x.Num.B x.Num.C x.Num.D) x.Exp)) hx)))) (set_len _ _ _ (set_len _ _ _ (set_len _ _ _ (set_len _ _ _ hl)))))) ?_
  refine sQ 48 (Y_fieldAddr (B := B) (i := (i1 : Int).toNat * 5) (s := 0) k_fd_65_1_4_3 k_sz_3_1 rfl rfl) ?_
  refine s0 (Ys_store (i := 0) (s := 1) (B := B) (T' := 65) (v := vi (i64.wrap ((i64.wrap ((i64.wrap ((i64.wrap (k_1 + 1)) + 1)) + 1)) + 1))) (vs := [vi (i64.wrap ((i64.wrap ((i64.wrap ((i64.wrap (k_1 + 1)) + 1)) + 1)) + 1))]) (k := (i1 : Int).toNat * 5 + 4) (cs' := ((((((m1.set (i1 : Int).toNat (TDyadic.mk (TRing.mk k_1 x.Num.B x.Num.C x.Num.D) x.Exp)).set (i1 : Int).toNat (TDyadic.mk (TRing.mk k_1 (i64.wrap (k_1 + 1)) x.Num.C x.Num.D) x.Exp)).set (i1 : Int).toNat (TDyadic.mk (TRing.mk k_1 (i64.wrap (k_1 + 1)) (i64.wrap ((i64.wrap (k_1 + 1)) + 1)) x.Num.D) x.Exp)).set (i1 : Int).toNat (TDyadic.mk (TRing.mk k_1 (i64.wrap (k_1 + 1)) (i64.wrap ((i64.wrap (k_1 + 1)) + 1)) (i64.wrap ((i64.wrap ((i64.wrap (k_1 + 1)) + 1)) + 1))) x.Exp)).set (i1 : Int).toNat (TDyadic.mk (TRing.mk k_1 (i64.wrap (k_1 + 1)) (i64.wrap ((i64.wrap (k_1 + 1)) + 1)) (i64.wrap ((i64.wrap ((i64.wrap (k_1 + 1)) + 1)) + 1))) (i64.wrap ((i64.wrap ((i64.wrap ((i64.wrap (k_1 + 1)) + 1)) + 1)) + 1)))).flatMap eN0)) hS5 k_sz_3_1 rfl rfl rfl rfl rfl rfl rfl (gi_fit eN2 (getI_set (y := (TDyadic.mk (TRing.mk k_1 (i64.wrap (k_1 + 1)) (i64.wrap ((i64.wrap (k_1 + 1)) + 1)) (i64.wrap ((i64.wrap ((i64.wrap (k_1 + 1)) + 1)) + 1))) x.Exp)) (getI_set (y := (TDyadic.mk (TRing.mk k_1 (i64.wrap (k_1 + 1)) (i64.wrap ((i64.wrap (k_1 + 1)) + 1)) x.Num.D) x.Exp)) (getI_set (y := (TDyadic.mk (TRing.mk k_1 (i64.wrap (k_1 + 1)) x.Num.C x.Num.D) x.Exp)) (getI_set (y := (TDyadic.mk (TRing.mk k_1 x.Num.B x.Num.C x.Num.D) x.Exp)) hx)))) (j := 4) (k := 1) (by decide)) (gi_setf eN2 (getI_set (y := (TDyadic.mk (TRing.mk k_1 (i64.wrap (k_1 + 1)) (i64.wrap ((i64.wrap (k_1 + 1)) + 1)) (i64.wrap ((i64.wrap ((i64.wrap (k_1 + 1)) + 1)) + 1))) x.Exp)) (getI_set (y := (TDyadic.mk (TRing.mk k_1 (i64.wrap (k_1 + 1)) (i64.wrap ((i64.wrap (k_1 + 1)) + 1)) x.Num.D) x.Exp)) (getI_set (y := (TDyadic.mk (TRing.mk k_1 (i64.wrap (k_1 + 1)) x.Num.C x.Num.D) x.Exp)) (getI_set (y := (TDyadic.mk (TRing.mk k_1 x.Num.B x.Num.C x.Num.D) x.Exp)) hx)))) (TDyadic.mk (TRing.mk k_1 (i64.wrap (k_1 + 1)) (i64.wrap ((i64.wrap (k_1 + 1)) + 1)) (i64.wrap ((i64.wrap ((i64.wrap (k_1 + 1)) + 1)) + 1))) (i64.wrap ((i64.wrap ((i64.wrap ((i64.wrap (k_1 + 1)) + 1)) + 1)) + 1))) rfl (lB rfl)) rfl) ?_
  rintro _ w_4 ⟨rfl, hS6⟩
  refine rw_nil (cw_region ?_)
  refine sQ 49 (Y_move (v := vi (i64.wrap ((i64.wrap ((i64.wrap ((i64.wrap (k_1 + 1)) + 1)) + 1)) + 1))) rfl rfl) ?_
  refine sQ 50 (Y_add (k := .i64) (a := (i64.wrap ((i64.wrap ((i64.wrap ((i64.wrap (k_1 + 1)) + 1)) + 1)) + 1))) (b := 1) rfl rfl rfl) ?_
  refine sQ 1 (Y_assign (v := vi (i64.wrap ((i64.wrap ((i64.wrap ((i64.wrap ((i64.wrap (k_1 + 1)) + 1)) + 1)) + 1)) + 1))) rfl rfl) (rw_nil (cw_region ?_))
  refine sQ 10 (Y_move (v := vi (i1 : Int)) rfl (hf.get 5 2 rfl)) ?_
  refine sQ 11 (Y_add (k := .i64) (a := (i1 : Int)) (b := 1) rfl rfl rfl) ?_
  refine sQ 5 (Y_assign (v := vi (i64.wrap ((i1 : Int) + 1))) rfl rfl) (rw_nil ?_)
  obtain rfl := some_inj hb
  exact ⟨k_3, Nat.lt_succ_self _, i1 + 1, (((((m1.set (i1 : Int).toNat (TDyadic.mk (TRing.mk k_1 x.Num.B x.Num.C x.Num.D) x.Exp)).set (i1 : Int).toNat (TDyadic.mk (TRing.mk k_1 (i64.wrap (k_1 + 1)) x.Num.C x.Num.D) x.Exp)).set (i1 : Int).toNat (TDyadic.mk (TRing.mk k_1 (i64.wrap (k_1 + 1)) (i64.wrap ((i64.wrap (k_1 + 1)) + 1)) x.Num.D) x.Exp)).set (i1 : Int).toNat (TDyadic.mk (TRing.mk k_1 (i64.wrap (k_1 + 1)) (i64.wrap ((i64.wrap (k_1 + 1)) + 1)) (i64.wrap ((i64.wrap ((i64.wrap (k_1 + 1)) + 1)) + 1))) x.Exp)).set (i1 : Int).toNat (TDyadic.mk (TRing.mk k_1 (i64.wrap (k_1 + 1)) (i64.wrap ((i64.wrap (k_1 + 1)) + 1)) (i64.wrap ((i64.wrap ((i64.wrap (k_1 + 1)) + 1)) + 1))) (i64.wrap ((i64.wrap ((i64.wrap ((i64.wrap (k_1 + 1)) + 1)) + 1)) + 1)))), (i64.wrap ((i64.wrap ((i64.wrap ((i64.wrap ((i64.wrap (k_1 + 1)) + 1)) + 1)) + 1)) + 1)), (FF.cons (hf.get 0 0 rfl) (FF.cons rfl (FF.cons (congrArg (Value.int .i64) (wr_succ hlt1 hN)) FF.nil))), (set_len _ _ _ (set_len _ _ _ (set_len _ _ _ (set_len _ _ _ (set_len _ _ _ hl))))), (hS6.sel [0] rfl rfl), (by omega), hL1⟩
 ·skip
  obtain rfl : k_2 = 0 := by have h := of_decide_eq_false hlt; omega
  refine cw_exit rfl ?_
  obtain rfl := some_inj hL
  refine cw_seq (cw_region ?_)
  refine sQ 51 (Y_move (v := vi k_1) rfl (hf.get 1 1 rfl)) ?_
  refine sQ 4 (Y_assign (v := vi k_1) rfl rfl) (rw_nil (cw_ret ?_))
  obtain ⟨rfl, rfl⟩ := pr2 (some_inj hF1)
  exact ret1 Tryz.results43 (v1 := vi k_1) (resAt_tmp rfl) ⟨rfl, hl, (hS1.sN [0])⟩

theorem c_laws_markMatrix (a : TMatrix) (k_ : Int) (B : Option Addr) (c n : Nat) (w0 : World) (hn : a.Cells.length = n) (hS : ST w0 (bl [⟨B, 65, (a.Cells.flatMap eN0), c * 5⟩]) w0 [⟨B, 65, (a.Cells.flatMap eN0), c * 5⟩] []) {r_ : Int} {m : List TDyadic} (hF : F_laws_markMatrix a k_ = some (r_, m)) :
  CV Tryz.prog 21 #[.agg #[vi a.Rows, vi a.Cols, .slice B n c], vi k_] w0 (fun v w' => v = vi r_ ∧ m.length = n ∧ ST w0 (bl [⟨B, 65, (a.Cells.flatMap eN0), c * 5⟩]) w' [⟨B, 65, (m.flatMap eN0), c * 5⟩] []) := by
 subst hn
 unfold F_laws_markMatrix at hF
 refine cv_of_cw 10 Tryz.func21 rfl Tryz.ntmps21 rfl ?_
 refine cw_seq (cw_region ?_)
 refine sS 2 (Ys_box (T := 48) (v := gM_ a B c) (cs := kM_ a B c) (m := 3) hS rfl rfl rfl rfl) ?_
 rintro _ w_ ⟨b, rfl, hS1⟩
 refine sQ 4 (Y_assign (v := vi 0) rfl rfl) (rw_nil (cw_seq (cw_region ?_)))
 refine sQ 5 (Y_fieldAddr (B := aD b) (i := 0) (s := 0) k_fd_48_2_2_28 k_sz_28_1 rfl rfl) ?_
 refine sQ 6 (Y_load1 (B := aD b) (i := 2) (cs := kM_ a B c) (v := .slice B a.Cells.length c) k_sc_28 rfl rfl (hS1.cf (i := 1) rfl) rfl) ?_
 refine sQ 7 (Y_move (v := vi k_) rfl rfl) ?_
 obtain ⟨⟨r_1, m1⟩, hc, hF⟩ := bind_inv hF
 refine sc 8 rfl rfl (Yc_func (g := 43) (vs := [.slice B a.Cells.length c, vi k_]) k_call_43 rfl (mc rfl (mc rfl mn)) (c_laws_markDyadicS a.Cells k_ B c a.Cells.length _ rfl (hS1.inn [true, false] rfl [] rfl) hc)) ?_
 rintro _ w_1 ⟨rfl, hl, hd⟩
 have hS2 := hS1.out [true, false] rfl hd
 refine sQ 1 (Y_assign (v := vi r_1) rfl rfl) (rw_nil (cw_seq (cw_region ?_)))
 refine sQ 9 (Y_move (v := vi r_1) rfl rfl) ?_
 refine sQ 4 (Y_assign (v := vi r_1) rfl rfl) (rw_nil (cw_ret ?_))
 obtain ⟨rfl, rfl⟩ := pr2 (some_inj hF)
 exact ret1 Tryz.results21 (v1 := vi r_1) (resAt_tmp rfl) ⟨rfl, hl, (hS2.sN [1])⟩

theorem c_laws_heldDyadicS (a : List TDyadic) (k_ : Int) (B : Option Addr) (c n : Nat) (w0 : World) (hn : a.length = n) (hS : ST w0 [] w0 [] [⟨B, (a.flatMap eN0)⟩]) {r_ : Int} (hF : F_laws_heldDyadicS a k_ = some r_) :
  CV Tryz.prog 44 #[.slice B n c, vi k_] w0 (fun v w' => v = vi r_ ∧ ST w0 [] w' [] []) := by
 subst hn
 unfold F_laws_heldDyadicS at hF
 refine cv_of_cw 62 Tryz.func44 rfl Tryz.ntmps44 rfl ?_
 refine cw_seq (cw_region ?_)
 refine sQ 4 (Y_assign (v := vi 0) rfl rfl) (rw_nil (cw_seq (cw_seq (cw_region ?_))))
 refine sQ 5 (Y_assign (v := vi 0) rfl rfl) (rw_nil ?_)
 obtain ⟨hN, hF⟩ := chk_inv hF
 obtain ⟨z, hz, hF1⟩ := bind_inv hF
 refine cw_block ?_
 refine cw_loop (fun k f w => ∃ (i1 : Nat) (k_1 : Int), FF f [(0, .slice B a.length c), (1, vi k_1), (5, vi (i1 : Int))] ∧ ST w0 [] w [] [⟨B, (a.flatMap eN0)⟩] ∧ i1 + k = a.length ∧ forX (F_laws_heldDyadicS_l1 a) k i1 k_1 = some z) a.length ⟨0, k_, (FF.cons rfl (FF.cons rfl (FF.cons rfl FF.nil))), (hS.sel [] rfl rfl), Nat.zero_add _, hz⟩ ?_
 rintro k_2 f w ⟨i1, k_1, hf, hS1, hik, hL⟩
 refine cw_seq (cw_seq (cw_region ?_))
 refine sQ 6 (Y_move (v := vi (i1 : Int)) rfl (hf.get 5 2 rfl)) ?_
 refine sQ 7 (Y_move (v := .slice B a.length c) rfl (hf.get 0 0 rfl)) ?_
 refine sQ 8 (Y_len (B := B) (m := a.length) (c := c) k_sl_28_65 rfl rfl) ?_
 refine sQ 9 (Y_lt (k := .i64) (a := (i1 : Int)) (b := (a.length : Int)) rfl rfl rfl) (rw_nil ?_)
 refine cw_cond (b := (decide ((i1 : Int) < (a.length : Int)))) rfl (fun hlt => ?_) (fun hlt => ?_)
 ·skip
  have hlt1 : i1 < a.length := by have h := of_decide_eq_true hlt; omega
  obtain ⟨k_3, rfl⟩ : ∃ k2, k_2 = k2 + 1 := ⟨k_2 - 1, by omega⟩
  obtain ⟨y, hb, hL1⟩ := forX_go hL
  unfold F_laws_heldDyadicS_l1 at hb
  refine cw_skip (cw_seq (cw_block (cw_seq (cw_seq (cw_region ?_)))))
  refine sQ 12 (Y_move (v := .slice B a.length c) rfl (hf.get 0 0 rfl)) ?_
  refine sQ 13 (Y_move (v := vi (i1 : Int)) rfl (hf.get 5 2 rfl)) ?_
  obtain ⟨x, hx, hb⟩ := bind_inv hb
  refine sQ 14 (Y_index (B := B) (m := a.length) (c := c) (k := .i64) (i := (i1 : Int)) k_sl_28_65 k_sz_65_5 rfl rfl rfl (gi_isSome eN2 rfl (hS1.rf (i := 0) rfl) hx) (getI_nn hx) (getI_ltI hx rfl)) ?_
  refine sQ 15 (Y_fieldAddr (B := B) (i := (i1 : Int).toNat * 5) (s := 3) k_fd_65_0_0_63 k_sz_63_4 rfl rfl) ?_
  refine sQ 16 (Y_fieldAddr2 (B := B) (i := (i1 : Int).toNat * 5) (e := 0) (l := 0) (s := 0) k_fd_63_0_0_3 k_sz_3_1 rfl rfl rfl) ?_
  refine sQ 17 (Y_load1 (B := B) (i := (i1 : Int).toNat * 5 + 0) (cs := (a.flatMap eN0)) (v := vi x.Num.A) k_sc_3 rfl rfl (hS1.rf (i := 0) rfl) (gi_at eN2 hx rfl)) ?_
  refine sQ 18 (Y_move (v := vi k_1) rfl (hf.get 1 1 rfl)) ?_
  refine sQ 19 (Y_ne (k := .i64) (a := x.Num.A) (b := k_1) rfl rfl rfl) (rw_nil ?_)
  refine cw_cond (b := (x.Num.A != k_1)) rfl (fun hb1 => ?_) (fun hb1 => ?_)
  ·skip
   have hF2 := ct hb hb1
   refine cw_seq (cw_region ?_)
   refine sQ 4 (Y_assign (v := vi (-1)) rfl rfl) (rw_nil (cw_ret ?_))
   obtain rfl := some_inj hF2
   obtain rfl := some_inj hL1
   obtain rfl := some_inj hF1
   exact ret1 Tryz.results44 (v1 := vi (-1)) (resAt_tmp rfl) ⟨rfl, (hS1.sN [])⟩
  ·skip
   have hF3 := cf' hb hb1
   refine cw_skip (cw_seq (cw_region ?_))
   refine sQ 20 (Y_move (v := vi k_1) rfl (hf.get 1 1 rfl)) ?_
   refine sQ 21 (Y_add (k := .i64) (a := k_1) (b := 1) rfl rfl rfl) ?_
   refine sQ 1 (Y_assign (v := vi (i64.wrap (k_1 + 1))) rfl rfl) (rw_nil (cw_seq (cw_seq (cw_region ?_))))
   refine sQ 22 (Y_move (v := .slice B a.length c) rfl (hf.get 0 0 rfl)) ?_
   refine sQ 23 (Y_move (v := vi (i1 : Int)) rfl (hf.get 5 2 rfl)) ?_
   refine sQ 24 (Y_index (B := B) (m := a.length) (c := c) (k := .i64) (i := (i1 : Int)) k_sl_28_65 k_sz_65_5 rfl rfl rfl (gi_isSome eN2 rfl (hS1.rf (i := 0) rfl) hx) (getI_nn hx) (getI_ltI hx rfl)) ?_
   refine sQ 25 (Y_fieldAddr (B := B) (i := (i1 : Int).toNat * 5) (s := 3) k_fd_65_0_0_63 k_sz_63_4 rfl rfl) ?_
   refine sQ 26 (Y_fieldAddr2 (B := B) (i := (i1 : Int).toNat * 5) (e := 0) (l := 1) (s := 0) k_fd_63_1_1_3 k_sz_3_1 rfl rfl rfl) ?_
   refine sQ 27 (Y_load1 (B := B) (i := (i1 : Int).toNat * 5 + 1) (cs := (a.flatMap eN0)) (v := vi x.Num.B) k_sc_3 rfl rfl (hS1.rf (i := 0) rfl) (gi_at eN2 hx rfl)) ?_
   refine sQ 28 (Y_move (v := vi (i64.wrap (k_1 + 1))) rfl rfl) ?_
   refine sQ 29 (Y_ne (k := .i64) (a := x.Num.B) (b := (i64.wrap (k_1 + 1))) rfl rfl rfl) (rw_nil ?_)
   refine cw_cond (b := (x.Num.B != (i64.wrap (k_1 + 1)))) rfl (fun hb2 => ?_) (fun hb2 => ?_)
   ·skip
    have hF4 := ct hF3 hb2
    refine cw_seq (cw_region ?_)
    refine sQ 4 (Y_assign (v := vi (-1)) rfl rfl) (rw_nil (cw_ret ?_))
    obtain rfl := some_inj hF4
    obtain rfl := some_inj hL1
    obtain rfl := some_inj hF1
    exact ret1 Tryz.results44 (v1 := vi (-1)) (resAt_tmp rfl) ⟨rfl, (hS1.sN [])⟩
   ·skip
    have hF5 := cf' hF3 hb2
    refine cw_skip (cw_seq (cw_region ?_))
    refine sQ 30 (Y_move (v := vi (i64.wrap (k_1 + 1))) rfl rfl) ?_
    refine sQ 31 (Y_add (k := .i64) (a := (i64.wrap (k_1 + 1))) (b := 1) rfl rfl rfl) ?_
    refine sQ 1 (Y_assign (v := vi (i64.wrap ((i64.wrap (k_1 + 1)) + 1))) rfl rfl) (rw_nil (cw_seq (cw_seq (cw_region ?_))))
    refine sQ 32 (Y_move (v := .slice B a.length c) rfl (hf.get 0 0 rfl)) ?_
    refine sQ 33 (Y_move (v := vi (i1 : Int)) rfl (hf.get 5 2 rfl)) ?_
    refine sQ 34 (Y_index (B := B) (m := a.length) (c := c) (k := .i64) (i := (i1 : Int)) k_sl_28_65 k_sz_65_5 rfl rfl rfl (gi_isSome eN2 rfl (hS1.rf (i := 0) rfl) hx) (getI_nn hx) (getI_ltI hx rfl)) ?_
    refine sQ 35 (Y_fieldAddr (B := B) (i := (i1 : Int).toNat * 5) (s := 3) k_fd_65_0_0_63 k_sz_63_4 rfl rfl) ?_
    refine sQ 36 (Y_fieldAddr2 (B := B) (i := (i1 : Int).toNat * 5) (e := 0) (l := 2) (s := 0) k_fd_63_2_2_3 k_sz_3_1 rfl rfl rfl) ?_
    refine sQ 37 (Y_load1 (B := B) (i := (i1 : Int).toNat * 5 + 2) (cs := (a.flatMap eN0)) (v := vi x.Num.C) k_sc_3 rfl rfl (hS1.rf (i := 0) rfl) (gi_at eN2 hx rfl)) ?_
    refine sQ 38 (Y_move (v := vi (i64.wrap ((i64.wrap (k_1 + 1)) + 1))) rfl rfl) ?_
    refine sQ 39 (Y_ne (k := .i64) (a := x.Num.C) (b := (i64.wrap ((i64.wrap (k_1 + 1)) + 1))) rfl rfl rfl) (rw_nil ?_)
    refine cw_cond (b := (x.Num.C != (i64.wrap ((i64.wrap (k_1 + 1)) + 1)))) rfl (fun hb3 => ?_) (fun hb3 => ?_)
    ·skip
     have hF6 := ct hF5 hb3
     refine cw_seq (cw_region ?_)
     refine sQ 4 (Y_assign (v := vi (-1)) rfl rfl) (rw_nil (cw_ret ?_))
     obtain rfl := some_inj hF6
     obtain rfl := some_inj hL1
     obtain rfl := some_inj hF1
     exact ret1 Tryz.results44 (v1 := vi (-1)) (resAt_tmp rfl) ⟨rfl, (hS1.sN [])⟩
    ·skip
     have hF7 := cf' hF5 hb3
     refine cw_skip (cw_seq (cw_region ?_))
     refine sQ 40 (Y_move (v := vi (i64.wrap ((i64.wrap (k_1 + 1)) + 1))) rfl rfl) ?_
     refine sQ 41 (Y_add (k := .i64) (a := (i64.wrap ((i64.wrap (k_1 + 1)) + 1))) (b := 1) rfl rfl rfl) ?_
     refine sQ 1 (Y_assign (v := vi (i64.wrap ((i64.wrap ((i64.wrap (k_1 + 1)) + 1)) + 1))) rfl rfl) (rw_nil (cw_seq (cw_seq (cw_region ?_))))
     refine sQ 42 (Y_move (v := .slice B a.length c) rfl (hf.get 0 0 rfl)) ?_
     refine sQ 43 (Y_move (v := vi (i1 : Int)) rfl (hf.get 5 2 rfl)) ?_
     refine sQ 44 (Y_index (B := B) (m := a.length) (c := c) (k := .i64) (i := (i1 : Int)) k_sl_28_65 k_sz_65_5 rfl rfl rfl (gi_isSome eN2 rfl (hS1.rf (i := 0) rfl) hx) (getI_nn hx) (getI_ltI hx rfl)) ?_
     refine sQ 45 (Y_fieldAddr (B := B) (i := (i1 : Int).toNat * 5) (s := 3) k_fd_65_0_0_63 k_sz_63_4 rfl rfl) ?_
     refine sQ 46 (Y_fieldAddr2 (B := B) (i := (i1 : Int).toNat * 5) (e := 0) (l := 3) (s := 0) k_fd_63_3_3_3 k_sz_3_1 rfl rfl rfl) ?_
     refine sQ 47 (Y_load1 (B := B) (i := (i1 : Int).toNat * 5 + 3) (cs := (a.flatMap eN0)) (v := vi x.Num.D) k_sc_3 rfl rfl (hS1.rf (i := 0) rfl) (gi_at eN2 hx rfl)) ?_
     refine sQ 48 (Y_move (v := vi (i64.wrap ((i64.wrap ((i64.wrap (k_1 + 1)) + 1)) + 1))) rfl rfl) ?_
     refine sQ 49 (Y_ne (k := .i64) (a := x.Num.D) (b := (i64.wrap ((i64.wrap ((i64.wrap (k_1 + 1)) + 1)) + 1))) rfl rfl rfl) (rw_nil ?_)
     refine cw_cond (b := (x.Num.D != (i64.wrap ((i64.wrap ((i64.wrap (k_1 + 1)) + 1)) + 1)))) rfl (fun hb4 => ?_) (fun hb4 => ?_)
     ·skip
      have hF8 := ct hF7 hb4
      refine cw_seq (cw_region ?_)
      refine sQ 4 (Y_assign (v := vi (-1)) rfl rfl) (rw_nil (cw_ret ?_))
      obtain rfl := some_inj hF8
      obtain rfl := some_inj hL1
      obtain rfl := some_inj hF1
      exact ret1 Tryz.results44 (v1 := vi (-1)) (resAt_tmp rfl) ⟨rfl, (hS1.sN [])⟩
     ·skip
      have hF9 := cf' hF7 hb4
      refine cw_skip (cw_seq (cw_region ?_))
      refine sQ 50 (Y_move (v := vi (i64.wrap ((i64.wrap ((i64.wrap (k_1 + 1)) + 1)) + 1))) rfl rfl) ?_
      refine sQ 51 (Y_add (k := .i64) (a := (i64.wrap ((i64.wrap ((i64.wrap (k_1 + 1)) + 1)) + 1))) (b := 1) rfl rfl rfl) ?_
      refine sQ 1 (Y_assign (v := vi (i64.wrap ((i64.wrap ((i64.wrap ((i64.wrap (k_1 + 1)) + 1)) + 1)) + 1))) rfl rfl) (rw_nil (cw_seq (cw_seq (cw_region ?_))))
      refine sQ 52 (Y_move (v := .slice B a.length c) rfl (hf.get 0 0 rfl)) ?_
      refine sQ 53 (Y_move (v := vi (i1 : Int)) rfl (hf.get 5 2 rfl)) ?_
      refine sQ 54 (Y_index (B := B) (m := a.length) (c := c) (k := .i64) (i := (i1 : Int)) k_sl_28_65 k_sz_65_5 rfl rfl rfl (gi_isSome eN2 rfl (hS1.rf (i := 0) rfl) hx) (getI_nn hx) (getI_ltI hx rfl)) ?_
      refine sQ 55 (Y_fieldAddr (B := B) (i := (i1 : Int).toNat * 5) (s := 0) k_fd_65_1_4_3 k_sz_3_1 rfl rfl) ?_
      refine sQ 56 (Y_load1 (B := B) (i := (i1 : Int).toNat * 5 + 4) (cs := (a.flatMap eN0)) (v := vi x.Exp) k_sc_3 rfl rfl (hS1.rf (i := 0) rfl) (gi_at eN2 hx rfl)) ?_
      refine sQ 57 (Y_move (v := vi (i64.wrap ((i64.wrap ((i64.wrap ((i64.wrap (k_1 + 1)) + 1)) + 1)) + 1))) rfl rfl) ?_
      refine sQ 58 (Y_ne (k := .i64) (a := x.Exp) (b := (i64.wrap ((i64.wrap ((i64.wrap ((i64.wrap (k_1 + 1)) + 1)) + 1)) + 1))) rfl rfl rfl) (rw_nil ?_)
      refine cw_cond (b := (x.Exp != (i64.wrap ((i64.wrap ((i64.wrap ((i64.wrap (k_1 + 1)) + 1)) + 1)) + 1)))) rfl (fun hb5 => ?_) (fun hb5 => ?_)
      ·skip
       have hF10 := ct hF9 hb5
       refine cw_seq (cw_region ?_)
       refine sQ 4 (Y_assign (v := vi (-1)) rfl rfl) (rw_nil (cw_ret ?_))
       obtain rfl := some_inj hF10
       obtain rfl := some_inj hL1
       obtain rfl := some_inj hF1
       exact ret1 Tryz.results44 (v1 := vi (-1)) (resAt_tmp rfl) ⟨rfl, (hS1.sN [])⟩
      ·skip
       have hF11 := cf' hF9 hb5
       refine cw_skip (cw_region ?_)
       refine sQ 59 (Y_move (v := vi (i64.wrap ((i64.wrap ((i64.wrap ((i64.wrap (k_1 + 1)) + 1)) + 1)) + 1))) rfl rfl) ?_
       refine sQ 60 (Y_add (k := .i64) (a := (i64.wrap ((i64.wrap ((i64.wrap ((i64.wrap (k_1 + 1)) + 1)) + 1)) + 1))) (b := 1) rfl rfl rfl) ?_
       refine sQ 1 (Y_assign (v := vi (i64.wrap ((i64.wrap ((i64.wrap ((i64.wrap ((i64.wrap (k_1 + 1)) + 1)) + 1)) + 1)) + 1))) rfl rfl) (rw_nil (cw_region ?_))
       refine sQ 10 (Y_move (v := vi (i1 : Int)) rfl (hf.get 5 2 rfl)) ?_
       refine sQ 11 (Y_add (k := .i64) (a := (i1 : Int)) (b := 1) rfl rfl rfl) ?_
       refine sQ 5 (Y_assign (v := vi (i64.wrap ((i1 : Int) + 1))) rfl rfl) (rw_nil ?_)
       obtain rfl := some_inj hF11
       exact ⟨k_3, Nat.lt_succ_self _, i1 + 1, (i64.wrap ((i64.wrap ((i64.wrap ((i64.wrap ((i64.wrap (k_1 + 1)) + 1)) + 1)) + 1)) + 1)), (FF.cons (hf.get 0 0 rfl) (FF.cons rfl (FF.cons (congrArg (Value.int .i64) (wr_succ hlt1 hN)) FF.nil))), (hS1.sel [] rfl rfl), (by omega), hL1⟩
 ·skip
  obtain rfl : k_2 = 0 := by have h := of_decide_eq_false hlt; omega
  refine cw_exit rfl ?_
  obtain rfl := some_inj hL
  refine cw_seq (cw_region ?_)
  refine sQ 61 (Y_move (v := vi k_1) rfl (hf.get 1 1 rfl)) ?_
  refine sQ 4 (Y_assign (v := vi k_1) rfl rfl) (rw_nil (cw_ret ?_))
  obtain rfl := some_inj hF1
  exact ret1 Tryz.results44 (v1 := vi k_1) (resAt_tmp rfl) ⟨rfl, (hS1.sN [])⟩

theorem c_laws_heldMatrix (a : TMatrix) (k_ : Int) (B : Option Addr) (c n : Nat) (w0 : World) (hn : a.Cells.length = n) (hS : ST w0 [] w0 [] [⟨B, (a.Cells.flatMap eN0)⟩]) {r_ : Int} (hF : F_laws_heldMatrix a k_ = some r_) :
  CV Tryz.prog 22 #[.agg #[vi a.Rows, vi a.Cols, .slice B n c], vi k_] w0 (fun v w' => v = vi r_ ∧ ST w0 [] w' [] []) := by
 subst hn
 unfold F_laws_heldMatrix at hF
 refine cv_of_cw 12 Tryz.func22 rfl Tryz.ntmps22 rfl ?_
 refine cw_seq (cw_region ?_)
 refine sS 2 (Ys_box (T := 48) (v := gM_ a B c) (cs := kM_ a B c) (m := 3) hS rfl rfl rfl rfl) ?_
 rintro _ w_ ⟨b, rfl, hS1⟩
 refine sQ 4 (Y_assign (v := vi 0) rfl rfl) (rw_nil (cw_seq (cw_region ?_)))
 refine sQ 5 (Y_fieldAddr (B := aD b) (i := 0) (s := 0) k_fd_48_2_2_28 k_sz_28_1 rfl rfl) ?_
 refine sQ 6 (Y_load1 (B := aD b) (i := 2) (cs := kM_ a B c) (v := .slice B a.Cells.length c) k_sc_28 rfl rfl (hS1.cf (i := 0) rfl) rfl) ?_
 refine sQ 7 (Y_move (v := vi k_) rfl rfl) ?_
 obtain ⟨r_1, hc, hF⟩ := bind_inv hF
 refine sc 8 rfl rfl (Yc_func (g := 44) (vs := [.slice B a.Cells.length c, vi k_]) k_call_44 rfl (mc rfl (mc rfl mn)) (c_laws_heldDyadicS a.Cells k_ B c a.Cells.length _ rfl (hS1.inn0 [(true, 0)] rfl) hc)) ?_
 rintro _ w_1 ⟨rfl, hd⟩
 have hS2 := hS1.out00 hd
 refine sQ 1 (Y_assign (v := vi r_1) rfl rfl) (rw_nil (cw_seq (cw_seq (cw_region ?_))))
 refine sQ 9 (Y_move (v := vi r_1) rfl rfl) ?_
 refine sQ 10 (Y_lt (k := .i64) (a := r_1) (b := 0) rfl rfl rfl) (rw_nil ?_)
 refine cw_cond (b := (decide (r_1 < 0))) rfl (fun hb => ?_) (fun hb => ?_)
 ·skip
  have hF1 := ct hF hb
  refine cw_seq (cw_region ?_)
  refine sQ 4 (Y_assign (v := vi (-1)) rfl rfl) (rw_nil (cw_ret ?_))
  obtain rfl := some_inj hF1
  exact ret1 Tryz.results22 (v1 := vi (-1)) (resAt_tmp rfl) ⟨rfl, (hS2.sN [])⟩
 ·skip
  have hF2 := cf' hF hb
  refine cw_skip (cw_seq (cw_region ?_))
  refine sQ 11 (Y_move (v := vi r_1) rfl rfl) ?_
  refine sQ 4 (Y_assign (v := vi r_1) rfl rfl) (rw_nil (cw_ret ?_))
  obtain rfl := some_inj hF2
  exact ret1 Tryz.results22 (v1 := vi r_1) (resAt_tmp rfl) ⟨rfl, (hS2.sN [])⟩

theorem c_laws_FnExactMatrixOfForm (aF : TNormalForm)  (w0 : World)  (hS : ST w0 [] w0 [] [⟨(aD 0), [vi 1, vi 0, vi 0, vi 0, vi 2]⟩]) {r_ : Bool} (hF : F_laws_FnExactMatrixOfForm aF = some r_) :
  CV Tryz.prog 5 #[.agg #[.string (bstr aF.Syllables), vi aF.Clifford, vi aF.Phase]] w0 (fun v w' => v = .bool r_ ∧ ST w0 [] w' [] []) := by
 unfold F_laws_FnExactMatrixOfForm at hF
 refine cv_of_cw 72 Tryz.func5 rfl Tryz.ntmps5 rfl ?_
 refine cw_seq (cw_region ?_)
 refine sS 1 (Ys_box (T := 35) (v := .agg #[.string (bstr aF.Syllables), vi aF.Clifford, vi aF.Phase]) (cs := [.string (bstr aF.Syllables), vi aF.Clifford, vi aF.Phase]) (m := 3) hS rfl rfl rfl rfl) ?_
 rintro _ w_ ⟨b, rfl, hS1⟩
 refine sQ 2 (Y_assign (v := .bool false) rfl rfl) (rw_nil (cw_seq (cw_region ?_)))
 refine sQ 3 (Y_assign (v := vi 1048576) rfl rfl) (rw_nil (cw_seq (cw_region ?_)))
 refine sQ 12 (Y_loadA (B := aD b) (i := 0) (cs := [.string (bstr aF.Syllables), vi aF.Clifford, vi aF.Phase]) (vs := [.string (bstr aF.Syllables), vi aF.Clifford, vi aF.Phase]) k_ag_35 k_sz_35_3 rfl rfl (hS1.cf (i := 0) rfl) rfl rfl) ?_
 refine sQ 13 (Y_move (v := vi 1048576) rfl rfl) ?_
 obtain ⟨r_1, hc, hF⟩ := bind_inv hF
 refine sc 14 rfl rfl (Yc_func (g := 11) (vs := [.agg #[.string (bstr aF.Syllables), vi aF.Clifford, vi aF.Phase], vi 1048576]) k_call_11 rfl (mc rfl (mc rfl mn)) (c_laws_szNormalForm aF 1048576 _  (hS1.inn0 [] rfl) hc)) ?_
 rintro _ w_1 ⟨rfl, hd⟩
 have hS2 := hS1.out00 hd
 refine sQ 3 (Y_assign (v := vi r_1) rfl rfl) (rw_nil (cw_seq (cw_seq (cw_region ?_))))
 refine sQ 15 (Y_move (v := vi r_1) rfl rfl) ?_
 refine sQ 16 (Y_lt (k := .i64) (a := r_1) (b := 0) rfl rfl rfl) (rw_nil ?_)
 refine cw_cond (b := (decide (r_1 < 0))) rfl (fun hb => ?_) (fun hb => ?_)
 ·skip
  have hF1 := ct hF hb
  refine cw_seq (cw_region ?_)
  refine sQ 2 (Y_assign (v := .bool true) rfl rfl) (rw_nil (cw_ret ?_))
  obtain rfl := some_inj hF1
  exact ret1 Tryz.results5 (v1 := .bool true) (resAt_tmp rfl) ⟨rfl, (hS2.sN [])⟩
 ·skip
  have hF2 := cf' hF hb
  refine cw_skip (cw_seq (cw_region ?_))
  refine sQ 18 (Y_loadA (B := aD b) (i := 0) (cs := [.string (bstr aF.Syllables), vi aF.Clifford, vi aF.Phase]) (vs := [.string (bstr aF.Syllables), vi aF.Clifford, vi aF.Phase]) k_ag_35 k_sz_35_3 rfl rfl (hS2.cf (i := 0) rfl) rfl rfl) ?_
  obtain ⟨r_2, hc1, hF2⟩ := bind_inv hF2
  refine sc 19 rfl rfl (Yc_func (g := 13) (vs := [.agg #[.string (bstr aF.Syllables), vi aF.Clifford, vi aF.Phase]]) k_call_13 rfl (mc rfl mn) (c_laws_toNormalForm aF _  (hS2.inn0 [] rfl) hc1)) ?_
  rintro _ w_2 ⟨rfl, hd1⟩
  have hS3 := hS2.out00 hd1
  obtain ⟨⟨r_3, r_4⟩, hc2, hF2⟩ := bind_inv hF2
  refine sc 20 rfl rfl (Yc_func (g := 18) (vs := [.agg #[.string (bstr r_2.Syllables), vi r_2.Clifford, vi r_2.Phase]]) k_call_18 rfl (mc rfl mn) (c_spec_MatrixOfForm r_2 _  (hS3.inn0 [] rfl) hc2)) ?_
  rintro _ w_3 ⟨B, c, rfl, hd2⟩
  have hS4 := hS3.out0 hd2
  refine sQ 17 (Y_move (v := .tuple #[gM_ r_3 B c, .bool r_4]) rfl rfl) ?_
  refine sQ 21 (Y_extract (v := gM_ r_3 B c) rfl rfl rfl) ?_
  refine sQ 22 (Y_extract (v := .bool r_4) rfl rfl rfl) ?_
  refine sS 4 (Ys_alloc (T := 48) (cs := kN_) (m := 3) hS4 k_zero_48 rfl rfl rfl) ?_
  rintro _ w_4 ⟨b1, rfl, hS5⟩
  refine s0 (Ys_store (i := 2) (s := 3) (B := aD b1) (T' := 48) (v := gM_ r_3 B c) (vs := kM_ r_3 B c) (k := 0) (cs' := kM_ r_3 B c) hS5 k_sz_48_3 rfl rfl rfl rfl rfl rfl rfl (lB rfl) rfl rfl) ?_
  rintro _ w_5 ⟨rfl, hS6⟩
  refine sQ 5 (Y_assign (v := .bool r_4) rfl rfl) (rw_nil (cw_seq (cw_region ?_)))
  refine sQ 24 (Y_loadA (B := aD b) (i := 0) (cs := [.string (bstr aF.Syllables), vi aF.Clifford, vi aF.Phase]) (vs := [.string (bstr aF.Syllables), vi aF.Clifford, vi aF.Phase]) k_ag_35 k_sz_35_3 rfl rfl (hS6.cf (i := 0) rfl) rfl rfl) ?_
  obtain ⟨r_5, hc3, hF2⟩ := bind_inv hF2
  refine sc 25 rfl rfl (Yc_func (g := 13) (vs := [.agg #[.string (bstr aF.Syllables), vi aF.Clifford, vi aF.Phase]]) k_call_13 rfl (mc rfl mn) (c_laws_toNormalForm aF _  (hS6.inn0 [] rfl) hc3)) ?_
  rintro _ w_6 ⟨rfl, hd3⟩
  have hS7 := hS6.out00 hd3
  obtain ⟨⟨r_6, r_7⟩, hc4, hF2⟩ := bind_inv hF2
  refine sc 26 rfl rfl (Yc_func (g := 19) (vs := [.agg #[.string (bstr r_5.Syllables), vi r_5.Clifford, vi r_5.Phase]]) k_call_19 rfl (mc rfl mn) (c_impl_MatrixOfForm r_5 _  (hS7.inn0 [(true, 0)] rfl) hc4)) ?_
  rintro _ w_7 ⟨B1, c1, rfl, hd4⟩
  have hS8 := hS7.out0 hd4
  refine sQ 23 (Y_move (v := .tuple #[gM_ r_6 B1 c1, .bool r_7]) rfl rfl) ?_
  refine sQ 27 (Y_extract (v := gM_ r_6 B1 c1) rfl rfl rfl) ?_
  refine sQ 28 (Y_extract (v := .bool r_7) rfl rfl rfl) ?_
  refine sS 6 (Ys_alloc (T := 48) (cs := kN_) (m := 3) hS8 k_zero_48 rfl rfl rfl) ?_
  rintro _ w_8 ⟨b2, rfl, hS9⟩
  refine s0 (Ys_store (i := 4) (s := 3) (B := aD b2) (T' := 48) (v := gM_ r_6 B1 c1) (vs := kM_ r_6 B1 c1) (k := 0) (cs' := kM_ r_6 B1 c1) hS9 k_sz_48_3 rfl rfl rfl rfl rfl rfl rfl (lB rfl) rfl rfl) ?_
  rintro _ w_9 ⟨rfl, hS10⟩
  refine sQ 7 (Y_assign (v := .bool r_7) rfl rfl) (rw_nil (cw_seq (cw_seq (cw_region ?_))))
  refine sQ 29 (Y_loadA (B := aD b2) (i := 0) (cs := kM_ r_6 B1 c1) (vs := kM_ r_6 B1 c1) k_ag_48 k_sz_48_3 rfl rfl (hS10.cf (i := 4) rfl) rfl rfl) ?_
  refine sQ 30 (Y_loadA (B := aD b1) (i := 0) (cs := kM_ r_3 B c) (vs := kM_ r_3 B c) k_ag_48 k_sz_48_3 rfl rfl (hS10.cf (i := 2) rfl) rfl rfl) ?_
  obtain ⟨r_8, hc5, hF2⟩ := bind_inv hF2
  refine sc 31 rfl rfl (Yc_func (g := 20) (vs := [gM_ r_6 B1 c1, gM_ r_3 B c]) k_call_20 rfl (mc rfl (mc rfl mn)) (c_laws_eqMatrix r_6 r_3 B1 c1 r_6.Cells.length B c r_3.Cells.length _ rfl rfl (hS10.inn0 [(false, 3), (false, 1)] rfl) hc5)) ?_
  rintro _ w_10 ⟨rfl, hd5⟩
  have hS11 := hS10.out00 hd5
  refine sQ 32 (Y_not (p := r_8) rfl rfl) ?_
  refine sQ 33 (Y_move (v := .bool (!r_8)) rfl rfl) ?_
  refine sgq 34 (B := (!(!r_8))) (v := .bool r_7) rfl rfl (uF_ 33) (fun hg => (Y_move (v := .bool r_7) rfl rfl)) ?_
  refine sgq 35 (B := (!(!r_8))) (v := .bool r_4) rfl rfl (uF_ 33) (fun hg1 => (Y_move (v := .bool r_4) rfl rfl)) ?_
  refine sgq 36 (B := (!(!r_8))) (v := .bool (!(r_7 == r_4))) rfl rfl (uF_ 33) (fun hg2 => (Y_bne (p := r_7) (q := r_4) k_und_4 rfl (gv_of (v := .bool r_7) hg2) (gv_of (v := .bool r_4) hg2))) ?_
  refine sQ 37 (Y_or (b := (!r_8)) (z := (!(r_7 == r_4))) rfl rfl rfl rfl) (rw_nil ?_)
  refine cw_cond (b := ((!r_8) || (!(r_7 == r_4)))) rfl (fun hb1 => ?_) (fun hb1 => ?_)
  ·skip
   have hF3 := ct hF2 hb1
   refine cw_seq (cw_region ?_)
   refine sQ 2 (Y_assign (v := .bool false) rfl rfl) (rw_nil (cw_ret ?_))
   obtain rfl := some_inj hF3
   exact ret1 Tryz.results5 (v1 := .bool false) (resAt_tmp rfl) ⟨rfl, (hS11.sN [])⟩
  ·skip
   have hF4 := cf' hF2 hb1
   refine cw_skip (cw_seq (cw_region ?_))
   refine sQ 8 (Y_assign (v := vi 1) rfl rfl) (rw_nil (cw_seq (cw_region ?_)))
   refine sQ 38 (Y_loadA (B := aD b2) (i := 0) (cs := kM_ r_6 B1 c1) (vs := kM_ r_6 B1 c1) k_ag_48 k_sz_48_3 rfl rfl (hS11.cf (i := 4) rfl) rfl rfl) ?_
   refine sQ 39 (Y_move (v := vi 1) rfl rfl) ?_
   obtain ⟨⟨r_9, m⟩, hc6, hF4⟩ := bind_inv hF4
   refine sc 40 rfl rfl (Yc_func (g := 21) (vs := [gM_ r_6 B1 c1, vi 1]) k_call_21 rfl (mc rfl (mc rfl mn)) (c_laws_markMatrix r_6 1 B1 c1 r_6.Cells.length _ rfl (hS11.inn [false, false, false, true, false] rfl [] rfl) hc6)) ?_
   rintro _ w_11 ⟨rfl, hl, hd6⟩
   have hS12 := hS11.out [false, false, false, true, false] rfl hd6
   refine sQ 8 (Y_assign (v := vi r_9) rfl rfl) (rw_nil (cw_seq (cw_region ?_)))
   refine sQ 9 (Y_assign (v := vi 1) rfl rfl) (rw_nil (cw_seq (cw_region ?_)))
   refine sQ 41 (Y_loadA (B := aD b2) (i := 0) (cs := kM_ r_6 B1 c1) (vs := kM_ r_6 B1 c1) k_ag_48 k_sz_48_3 rfl rfl (hS12.cf (i := 3) rfl) rfl rfl) ?_
   refine sQ 42 (Y_move (v := vi 1) rfl rfl) ?_
   obtain ⟨r_10, hc7, hF4⟩ := bind_inv hF4
   refine sc 43 rfl rfl (Yc_func (g := 22) (vs := [gM_ r_6 B1 c1, vi 1]) k_call_22 rfl (mc rfl (mc rfl mn)) (c_laws_heldMatrix (TMatrix.mk r_6.Rows r_6.Cols m) 1 B1 c1 r_6.Cells.length _ hl (hS12.inn0 [(false, 4)] rfl) hc7)) ?_
   rintro _ w_12 ⟨rfl, hd7⟩
   have hS13 := hS12.out00 hd7
   refine sQ 9 (Y_assign (v := vi r_10) rfl rfl) (rw_nil (cw_seq (cw_seq (cw_region ?_))))
   refine sQ 44 (Y_move (v := vi r_10) rfl rfl) ?_
   refine sQ 45 (Y_lt (k := .i64) (a := r_10) (b := 0) rfl rfl rfl) (rw_nil ?_)
   refine cw_cond (b := (decide (r_10 < 0))) rfl (fun hb2 => ?_) (fun hb2 => ?_)
   ·skip
    have hF5 := ct hF4 hb2
    refine cw_seq (cw_region ?_)
    refine sQ 2 (Y_assign (v := .bool false) rfl rfl) (rw_nil (cw_ret ?_))
    obtain rfl := some_inj hF5
    exact ret1 Tryz.results5 (v1 := .bool false) (resAt_tmp rfl) ⟨rfl, (hS13.sN [])⟩
   ·skip
    have hF6 := cf' hF4 hb2
    refine cw_skip (cw_seq (cw_seq (cw_region ?_)))
    refine sQ 46 (Y_move (v := vi r_10) rfl rfl) ?_
    refine sQ 47 (Y_move (v := vi r_9) rfl rfl) ?_
    refine sQ 48 (Y_ne (k := .i64) (a := r_10) (b := r_9) rfl rfl rfl) (rw_nil ?_)
    refine cw_cond (b := (r_10 != r_9)) rfl (fun hb3 => ?_) (fun hb3 => ?_)
    ·skip
     have hF7 := ct hF6 hb3
     refine cw_seq (cw_region ?_)
     refine sQ 2 (Y_assign (v := .bool false) rfl rfl) (rw_nil (cw_ret ?_))
     obtain rfl := some_inj hF7
     exact ret1 Tryz.results5 (v1 := .bool false) (resAt_tmp rfl) ⟨rfl, (hS13.sN [])⟩
    ·skip
     have hF8 := cf' hF6 hb3
     refine cw_skip (cw_seq (cw_region ?_))
     refine sQ 50 (Y_loadA (B := aD b) (i := 0) (cs := [.string (bstr aF.Syllables), vi aF.Clifford, vi aF.Phase]) (vs := [.string (bstr aF.Syllables), vi aF.Clifford, vi aF.Phase]) k_ag_35 k_sz_35_3 rfl rfl (hS13.cf (i := 0) rfl) rfl rfl) ?_
     obtain ⟨r_11, hc8, hF8⟩ := bind_inv hF8
     refine sc 51 rfl rfl (Yc_func (g := 13) (vs := [.agg #[.string (bstr aF.Syllables), vi aF.Clifford, vi aF.Phase]]) k_call_13 rfl (mc rfl mn) (c_laws_toNormalForm aF _  (hS13.inn0 [] rfl) hc8)) ?_
     rintro _ w_13 ⟨rfl, hd8⟩
     have hS14 := hS13.out00 hd8
     obtain ⟨⟨r_12, r_13⟩, hc9, hF8⟩ := bind_inv hF8
     refine sc 52 rfl rfl (Yc_func (g := 19) (vs := [.agg #[.string (bstr r_11.Syllables), vi r_11.Clifford, vi r_11.Phase]]) k_call_19 rfl (mc rfl mn) (c_impl_MatrixOfForm r_11 _  (hS14.inn0 [(true, 0)] rfl) hc9)) ?_
     rintro _ w_14 ⟨B2, c2, rfl, hd9⟩
     have hS15 := hS14.out0 hd9
     refine sQ 49 (Y_move (v := .tuple #[gM_ r_12 B2 c2, .bool r_13]) rfl rfl) ?_
     refine sQ 53 (Y_extract (v := gM_ r_12 B2 c2) rfl rfl rfl) ?_
     refine sQ 54 (Y_extract (v := .bool r_13) rfl rfl rfl) ?_
     refine sS 10 (Ys_alloc (T := 48) (cs := kN_) (m := 3) hS15 k_zero_48 rfl rfl rfl) ?_
     rintro _ w_15 ⟨b3, rfl, hS16⟩
     refine s0 (Ys_store (i := 6) (s := 3) (B := aD b3) (T' := 48) (v := gM_ r_12 B2 c2) (vs := kM_ r_12 B2 c2) (k := 0) (cs' := kM_ r_12 B2 c2) hS16 k_sz_48_3 rfl rfl rfl rfl rfl rfl rfl (lB rfl) rfl rfl) ?_
     rintro _ w_16 ⟨rfl, hS17⟩
     refine sQ 11 (Y_assign (v := .bool r_13) rfl rfl) (rw_nil (cw_seq (cw_seq (cw_region ?_))))
     refine sQ 55 (Y_loadA (B := aD b3) (i := 0) (cs := kM_ r_12 B2 c2) (vs := kM_ r_12 B2 c2) k_ag_48 k_sz_48_3 rfl rfl (hS17.cf (i := 6) rfl) rfl rfl) ?_
     refine sQ 56 (Y_loadA (B := aD b1) (i := 0) (cs := kM_ r_3 B c) (vs := kM_ r_3 B c) k_ag_48 k_sz_48_3 rfl rfl (hS17.cf (i := 2) rfl) rfl rfl) ?_
     obtain ⟨r_14, hc10, hF8⟩ := bind_inv hF8
     refine sc 57 rfl rfl (Yc_func (g := 20) (vs := [gM_ r_12 B2 c2, gM_ r_3 B c]) k_call_20 rfl (mc rfl (mc rfl mn)) (c_laws_eqMatrix r_12 r_3 B2 c2 r_12.Cells.length B c r_3.Cells.length _ rfl rfl (hS17.inn0 [(false, 5), (false, 1)] rfl) hc10)) ?_
     rintro _ w_17 ⟨rfl, hd10⟩
     have hS18 := hS17.out00 hd10
     refine sQ 58 (Y_not (p := r_14) rfl rfl) ?_
     refine sQ 59 (Y_move (v := .bool (!r_14)) rfl rfl) ?_
     refine sgq 60 (B := (!(!r_14))) (v := .bool r_13) rfl rfl (uF_ 59) (fun hg3 => (Y_move (v := .bool r_13) rfl rfl)) ?_
     refine sgq 61 (B := (!(!r_14))) (v := .bool r_4) rfl rfl (uF_ 59) (fun hg4 => (Y_move (v := .bool r_4) rfl rfl)) ?_
     refine sgq 62 (B := (!(!r_14))) (v := .bool (!(r_13 == r_4))) rfl rfl (uF_ 59) (fun hg5 => (Y_bne (p := r_13) (q := r_4) k_und_4 rfl (gv_of (v := .bool r_13) hg5) (gv_of (v := .bool r_4) hg5))) ?_
     refine sQ 63 (Y_or (b := (!r_14)) (z := (!(r_13 == r_4))) rfl rfl rfl rfl) (rw_nil ?_)
     refine cw_cond (b := ((!r_14) || (!(r_13 == r_4)))) rfl (fun hb4 => ?_) (fun hb4 => ?_)
     ·skip
      have hF9 := ct hF8 hb4
      refine cw_seq (cw_region ?_)
      refine sQ 2 (Y_assign (v := .bool false) rfl rfl) (rw_nil (cw_ret ?_))
      obtain rfl := some_inj hF9
      exact ret1 Tryz.results5 (v1 := .bool false) (resAt_tmp rfl) ⟨rfl, (hS18.sN [])⟩
     ·skip
      have hF10 := cf' hF8 hb4
      refine cw_skip (cw_seq (cw_region ?_))
      refine sQ 9 (Y_assign (v := vi 1) rfl rfl) (rw_nil (cw_seq (cw_region ?_)))
      refine sQ 64 (Y_loadA (B := aD b2) (i := 0) (cs := kM_ r_6 B1 c1) (vs := kM_ r_6 B1 c1) k_ag_48 k_sz_48_3 rfl rfl (hS18.cf (i := 3) rfl) rfl rfl) ?_
      refine sQ 65 (Y_move (v := vi 1) rfl rfl) ?_
      obtain ⟨r_15, hc11, hF10⟩ := bind_inv hF10
      refine sc 66 rfl rfl (Yc_func (g := 22) (vs := [gM_ r_6 B1 c1, vi 1]) k_call_22 rfl (mc rfl (mc rfl mn)) (c_laws_heldMatrix (TMatrix.mk r_6.Rows r_6.Cols m) 1 B1 c1 r_6.Cells.length _ hl (hS18.inn0 [(false, 4)] rfl) hc11)) ?_
      rintro _ w_18 ⟨rfl, hd11⟩
      have hS19 := hS18.out00 hd11
      refine sQ 9 (Y_assign (v := vi r_15) rfl rfl) (rw_nil (cw_seq (cw_seq (cw_region ?_))))
      refine sQ 67 (Y_move (v := vi r_15) rfl rfl) ?_
      refine sQ 68 (Y_lt (k := .i64) (a := r_15) (b := 0) rfl rfl rfl) (rw_nil ?_)
      refine cw_cond (b := (decide (r_15 < 0))) rfl (fun hb5 => ?_) (fun hb5 => ?_)
      ·skip
       have hF11 := ct hF10 hb5
       refine cw_seq (cw_region ?_)
       refine sQ 2 (Y_assign (v := .bool false) rfl rfl) (rw_nil (cw_ret ?_))
       obtain rfl := some_inj hF11
       exact ret1 Tryz.results5 (v1 := .bool false) (resAt_tmp rfl) ⟨rfl, (hS19.sN [])⟩
      ·skip
       have hF12 := cf' hF10 hb5
       refine cw_skip (cw_seq (cw_seq (cw_region ?_)))
       refine sQ 69 (Y_move (v := vi r_15) rfl rfl) ?_
       refine sQ 70 (Y_move (v := vi r_9) rfl rfl) ?_
       refine sQ 71 (Y_ne (k := .i64) (a := r_15) (b := r_9) rfl rfl rfl) (rw_nil ?_)
       refine cw_cond (b := (r_15 != r_9)) rfl (fun hb6 => ?_) (fun hb6 => ?_)
       ·skip
        have hF13 := ct hF12 hb6
        refine cw_seq (cw_region ?_)
        refine sQ 2 (Y_assign (v := .bool false) rfl rfl) (rw_nil (cw_ret ?_))
        obtain rfl := some_inj hF13
        exact ret1 Tryz.results5 (v1 := .bool false) (resAt_tmp rfl) ⟨rfl, (hS19.sN [])⟩
       ·skip
        have hF14 := cf' hF12 hb6
        refine cw_skip (cw_seq (cw_region ?_))
        refine sQ 2 (Y_assign (v := .bool true) rfl rfl) (rw_nil (cw_ret ?_))
        obtain rfl := some_inj hF14
        exact ret1 Tryz.results5 (v1 := .bool true) (resAt_tmp rfl) ⟨rfl, (hS19.sN [])⟩
end Go.VK
