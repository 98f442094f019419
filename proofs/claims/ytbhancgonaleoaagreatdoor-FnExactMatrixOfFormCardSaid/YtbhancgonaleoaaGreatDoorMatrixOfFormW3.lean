/- Walks: each Go function returns what its Lean function says. By program. -/
import Derived.Test.YtbhancgonaleoaaGreatDoorMatrixOfFormFa
import Derived.Test.YtbhancgonaleoaaGreatDoorMatrixOfFormW2
set_option linter.unusedVariables false
set_option maxRecDepth 100000
set_option maxHeartbeats 1000000
namespace Go.VK
open Go.RowKit
open Go.Proofs
open Go.IntKind
attribute [local irreducible] CW RW RA CV Y Yw Yc Ys RetOf
attribute [local irreducible] F_laws_szNormalForm F_laws_toNormalForm F_spec_l1In F_spec_l10Valid F_spec_l9Same F_spec_l1Even F_spec_l1Root F_spec_l1Half F_spec_l2Low F_spec_l1All F_spec_l1Good F_spec_l2C_ring F_spec_l1Mul F_spec_l2C_mul F_spec_l1Add F_spec_l2C_add F_spec_l2C_times F_spec_l1Neg F_spec_l2Neg F_spec_l1Turn F_spec_l2Power F_spec_l6One F_spec_l9Pauli F_spec_l1Conj F_spec_l2Conj F_spec_l3Adj F_spec_l9Bloch F_spec_l6Bit F_spec_l6Cell F_spec_l6Gate F_spec_l2C_run F_spec_l3Unit F_spec_l6Op F_spec_l9Word F_spec_l9Words F_spec_l10Gates F_spec_l10Circuit F_spec_MatrixOfForm F_impl_within F_impl_IsValidForm F_impl_isCoef F_impl_IsValidRing F_impl_isEven F_impl_IsValidDyadic F_impl_ringIf F_impl_MulRing F_impl_DivRootTwo F_impl_DyadicOf F_impl_MulDyadic F_impl_MulRootTwo F_impl_raised F_impl_combined F_impl_AddRing F_impl_AddDyadic F_impl_mulBloch F_impl_whole F_impl_small F_impl_isDim F_impl_matrixOf F_impl_isTwo F_impl_IsValidGate F_impl_MulOmega F_impl_phase F_impl_bitOf F_impl_flipped F_impl_comesFrom F_impl_entry F_impl_GateMatrix_1 F_impl_GateMatrix F_slices_IndexFunc_impl_Dyadic_impl_Dyadic F_slices_ContainsFunc_impl_Dyadic_impl_Dyadic F_impl_IsValidMatrix_1 F_impl_IsValidMatrix F_impl_IdentityMatrix_1 F_impl_IdentityMatrix F_impl_Matrix_at F_impl_MulMatrix_1 F_impl_MulMatrix F_impl_Conjugate F_impl_ConjDyadic F_impl_Adjoint_1 F_impl_Adjoint F_slices_Equal_impl_Dyadic_impl_Dyadic F_impl_EqualMatrices F_impl_IsUnitary F_impl_IsOneQubit F_impl_TraceOf F_impl_blochCell F_impl_BlochOf F_impl_blochGate F_slices_IndexFunc_SSimpl_Dyadic_impl_Dyadic F_slices_ContainsFunc_SSimpl_Dyadic_impl_Dyadic F_impl_cliffordList_1 F_impl_cliffordList F_impl_CliffordWord F_impl_wordGates F_impl_syllableGates F_impl_formGates F_slices_IndexFunc_impl_Gate_impl_Gate F_slices_ContainsFunc_impl_Gate_impl_Gate F_impl_IsValidCircuit_1 F_impl_IsValidCircuit F_impl_applied F_impl_OperatorOf F_impl_ScaleMatrix_1 F_impl_ScaleMatrix F_impl_MatrixOfForm F_laws_eqRing F_laws_eqDyadic F_laws_eqDyadicS F_laws_eqMatrix F_laws_markDyadicS F_laws_markMatrix F_laws_heldDyadicS F_laws_heldMatrix F_laws_FnExactMatrixOfForm
theorem c_impl_mulBloch (a : List TDyadic) (b : List TDyadic) (B : Option Addr) (c n : Nat) (B1 : Option Addr) (c1 n1 : Nat) (w0 : World) (hn : a.length = n) (hn1 : b.length = n1) (hS : ST w0 [] w0 [] [⟨B, (a.flatMap eN0)⟩, ⟨B1, (b.flatMap eN0)⟩]) {r_ : List TDyadic} {r_1 : Bool} (hF : F_impl_mulBloch a b = some (r_, r_1)) :
  CV Tryz.prog 62 #[.slice B n c, .slice B1 n1 c1] w0 (fun v w' => ∃ (B2 : Option Addr) (c2 : Nat), v = .tuple #[.slice B2 r_.length c2, .bool r_1] ∧ ST w0 [] w' [⟨B2, 65, (r_.flatMap eN0), c2 * 5⟩] []) := by
 subst hn
 subst hn1
 unfold F_impl_mulBloch at hF
 refine cv_of_cw 65 Tryz.func62 rfl Tryz.ntmps62 rfl ?_
 refine cw_seq (cw_region ?_)
 refine sQ 4 (Y_assign (v := .slice none 0 0) rfl rfl) ?_
 refine sQ 5 (Y_assign (v := .bool false) rfl rfl) (rw_nil (cw_seq (cw_region ?_)))
 refine sS 15 (Ys_bslice0 (s := 5) (e := 65) hS k_sl_28_65 k_sz_65_5 rfl) ?_
 rintro _ w_ ⟨b1, rfl, hS1⟩
 refine sQ 6 (Y_assign (v := .slice (aD b1) 0 0) rfl rfl) (rw_nil (cw_seq (cw_seq (cw_region ?_))))
 refine sQ 16 (Y_move (v := vi 0) rfl rfl) (rw_nil ?_)
 obtain ⟨z, hz, hF1⟩ := bind_inv hF
 refine cw_block ?_
 refine cw_loop (fun k f w => ∃ (i : Nat) (out : List TDyadic) (B3 : Option Addr) (c3 : Nat), FF f [(0, .slice B a.length c), (1, .slice B1 b.length c1), (6, .slice B3 out.length c3), (16, vi (i : Int))] ∧ ST w0 [] w [⟨B3, 65, (out.flatMap eN0), c3 * 5⟩] [⟨B, (a.flatMap eN0)⟩, ⟨B1, (b.flatMap eN0)⟩] ∧ i + k = 3 ∧ forX (F_impl_mulBloch_l1 a b) k i out = some z) 3 ⟨0, [], aD b1, 0, (FF.cons rfl (FF.cons rfl (FF.cons rfl (FF.cons rfl FF.nil)))), (hS1.sel [0] rfl rfl), Nat.zero_add _, hz⟩ ?_
 rintro k_ f w ⟨i, out, B3, c3, hf, hS2, hik, hL⟩
 refine cw_seq (cw_region ?_)
 refine sQ 17 (Y_lt (k := .i64) (a := (i : Int)) (b := 3) rfl (hf.get 16 3 rfl) rfl) (rw_nil (cw_seq ?_))
 refine cw_cond (b := (decide ((i : Int) < 3))) rfl (fun hlt => ?_) (fun hlt => ?_)
 ·skip
  have hlt1 : i < 3 := by have h := of_decide_eq_true hlt; omega
  obtain ⟨k_1, rfl⟩ : ∃ k2, k_ = k2 + 1 := ⟨k_ - 1, by omega⟩
  obtain ⟨y, hb, hL1⟩ := forX_go hL
  unfold F_impl_mulBloch_l1 at hb
  refine cw_skip (cw_seq (cw_block (cw_seq (cw_region ?_))))
  refine sQ 18 (Y_move (v := vi (i : Int)) rfl (hf.get 16 3 rfl)) ?_
  refine sQ 7 (Y_assign (v := vi (i : Int)) rfl rfl) (rw_nil (cw_seq (cw_region ?_)))
  refine sQ 19 (Y_move (v := vi 0) rfl rfl) (rw_nil ?_)
  obtain ⟨z1, hz1, hF2⟩ := bind_inv hb
  refine cw_block ?_
  refine cw_loop (fun k f w => ∃ (i1 : Nat) (out1 : List TDyadic) (B4 : Option Addr) (c4 : Nat), FF f [(0, .slice B a.length c), (1, .slice B1 b.length c1), (6, .slice B4 out1.length c4), (7, vi (i : Int)), (16, vi (i : Int)), (19, vi (i1 : Int))] ∧ ST w0 [] w [⟨B4, 65, (out1.flatMap eN0), c4 * 5⟩] [⟨B, (a.flatMap eN0)⟩, ⟨B1, (b.flatMap eN0)⟩] ∧ i1 + k = 3 ∧ forX (F_impl_mulBloch_l2 a i b) k i1 out1 = some z1) 3 ⟨0, out, B3, c3, (FF.cons (hf.get 0 0 rfl) (FF.cons (hf.get 1 1 rfl) (FF.cons (hf.get 6 2 rfl) (FF.cons rfl (FF.cons (hf.get 16 3 rfl) (FF.cons rfl FF.nil)))))), (hS2.sel [0] rfl rfl), Nat.zero_add _, hz1⟩ ?_
  rintro k_2 f w ⟨i1, out1, B4, c4, hf1, hS3, hik1, hL2⟩
  refine cw_seq (cw_region ?_)
  refine sQ 20 (Y_lt (k := .i64) (a := (i1 : Int)) (b := 3) rfl (hf1.get 19 5 rfl) rfl) (rw_nil (cw_seq ?_))
  refine cw_cond (b := (decide ((i1 : Int) < 3))) rfl (fun hlt2 => ?_) (fun hlt2 => ?_)
  ·skip
   have hlt3 : i1 < 3 := by have h := of_decide_eq_true hlt2; omega
   obtain ⟨k_3, rfl⟩ : ∃ k2, k_2 = k2 + 1 := ⟨k_2 - 1, by omega⟩
   obtain ⟨y1, hb1, hL3⟩ := forX_go hL2
   unfold F_impl_mulBloch_l2 at hb1
   refine cw_skip (cw_seq (cw_block (cw_seq (cw_region ?_))))
   refine sQ 21 (Y_move (v := vi (i1 : Int)) rfl (hf1.get 19 5 rfl)) ?_
   refine sQ 8 (Y_assign (v := vi (i1 : Int)) rfl rfl) (rw_nil (cw_seq (cw_region ?_)))
   refine sQ 22 (Y_buildS (zs := kZ_) (vs := []) (cs := kZ_) k_pl_65 k_zero_65 rfl mpn rfl) ?_
   refine sS 9 (Ys_alloc (T := 65) (cs := kZ_) (m := 5) hS3 k_zero_65 rfl rfl rfl) ?_
   rintro _ w_1 ⟨b2, rfl, hS4⟩
   refine s0 (Ys_store (i := 1) (s := 5) (B := aD b2) (T' := 65) (v := gZ_) (vs := kZ_) (k := 0) (cs' := kZ_) hS4 k_sz_65_5 rfl rfl rfl rfl rfl rfl rfl (lB rfl) rfl rfl) ?_
   rintro _ w_2 ⟨rfl, hS5⟩
   refine rw_nil (cw_seq (cw_seq (cw_region ?_)))
   refine sQ 23 (Y_move (v := vi 0) rfl rfl) (rw_nil ?_)
   obtain ⟨z2, hz2, hF3⟩ := bind_inv hb1
   refine cw_block ?_
   refine cw_loop (fun k f w => ∃ (i2 : Nat) (A : Int) (B5 : Int) (C : Int) (D : Int) (Exp : Int), FF f [(0, .slice B a.length c), (1, .slice B1 b.length c1), (6, .slice B4 out1.length c4), (7, vi (i : Int)), (8, vi (i1 : Int)), (9, pt (aD b2) 0), (16, vi (i : Int)), (19, vi (i1 : Int)), (23, vi (i2 : Int))] ∧ ST w0 [] w [⟨B4, 65, (out1.flatMap eN0), c4 * 5⟩, ⟨aD b2, 65, [vi A, vi B5, vi C, vi D, vi Exp], 5⟩] [⟨B, (a.flatMap eN0)⟩, ⟨B1, (b.flatMap eN0)⟩] ∧ i2 + k = 3 ∧ forX (F_impl_mulBloch_l3 a i b i1) k i2 (A, B5, C, D, Exp) = some z2) 3 ⟨0, 0, 0, 0, 0, 0, (FF.cons (hf1.get 0 0 rfl) (FF.cons (hf1.get 1 1 rfl) (FF.cons (hf1.get 6 2 rfl) (FF.cons (hf1.get 7 3 rfl) (FF.cons rfl (FF.cons rfl (FF.cons (hf1.get 16 4 rfl) (FF.cons (hf1.get 19 5 rfl) (FF.cons rfl FF.nil))))))))), (hS5.sel [0, 1] rfl rfl), Nat.zero_add _, hz2⟩ ?_
   rintro k_4 f w ⟨i2, A, B5, C, D, Exp, hf2, hS6, hik2, hL4⟩
   refine cw_seq (cw_region ?_)
   refine sQ 24 (Y_lt (k := .i64) (a := (i2 : Int)) (b := 3) rfl (hf2.get 23 8 rfl) rfl) (rw_nil (cw_seq ?_))
   refine cw_cond (b := (decide ((i2 : Int) < 3))) rfl (fun hlt4 => ?_) (fun hlt4 => ?_)
   ·skip
    have hlt5 : i2 < 3 := by have h := of_decide_eq_true hlt4; omega
    obtain ⟨k_5, rfl⟩ : ∃ k2, k_4 = k2 + 1 := ⟨k_4 - 1, by omega⟩
    obtain ⟨y2, hb2, hL5⟩ := forX_go hL4
    unfold F_impl_mulBloch_l3 at hb2
    refine cw_skip (cw_seq (cw_block (cw_seq (cw_region ?_))))
    refine sQ 25 (Y_move (v := vi (i2 : Int)) rfl (hf2.get 23 8 rfl)) ?_
    refine sQ 10 (Y_assign (v := vi (i2 : Int)) rfl rfl) (rw_nil (cw_seq ?_))
    obtain ⟨x, hx, hb2⟩ := bind_inv hb2
    obtain ⟨x1, hx1, hb2⟩ := bind_inv hb2
    obtain ⟨⟨r_2, r_3⟩, hc, hb2⟩ := bind_inv hb2
    refine cw_mid (fun f w => ∃ (B6 : Option Addr), FF f [(0, .slice B a.length c), (1, .slice B1 b.length c1), (6, .slice B4 out1.length c4), (7, vi (i : Int)), (8, vi (i1 : Int)), (9, pt (aD b2) 0), (11, pt B6 0), (12, .bool r_3), (16, vi (i : Int)), (19, vi (i1 : Int)), (23, vi (i2 : Int))] ∧ ST w0 [] w [⟨B4, 65, (out1.flatMap eN0), c4 * 5⟩, ⟨aD b2, 65, [vi A, vi B5, vi C, vi D, vi Exp], 5⟩, ⟨B6, 65, kD_ r_2, 5⟩] [⟨B, (a.flatMap eN0)⟩, ⟨B1, (b.flatMap eN0)⟩]) ?_ ?_
    ·skip
     refine ra_start (hS6.se [0, 1]).fn (by kernel_rfl) ?_
     have hS9 := hS6.drew
     refine rq 0 27 (v := .slice B a.length c) rfl (hS9.se [0, 1]) (fun w' hw' => (Y_move (v := .slice B a.length c) rfl (hf2.get 0 0 rfl))) ?_
     refine rq 1 28 (v := vi (i : Int)) rfl (hS9.se [0, 1]) (fun w' hw' => (Y_move (v := vi (i : Int)) rfl (hf2.get 7 3 rfl))) ?_
     refine rq 2 29 (v := vi (i64.wrap (3 * (i : Int)))) rfl (hS9.se [0, 1]) (fun w' hw' => (Y_mul (k := .i64) (a := 3) (b := (i : Int)) rfl rfl rfl)) ?_
     refine rq 3 30 (v := vi (i2 : Int)) rfl (hS9.se [0, 1]) (fun w' hw' => (Y_move (v := vi (i2 : Int)) rfl rfl)) ?_
     refine rq 4 31 (v := vi (i64.wrap ((i64.wrap (3 * (i : Int))) + (i2 : Int)))) rfl (hS9.se [0, 1]) (fun w' hw' => (Y_add (k := .i64) (a := (i64.wrap (3 * (i : Int)))) (b := (i2 : Int)) rfl rfl rfl)) ?_
     refine rq 5 32 (v := pt B ((i64.wrap ((i64.wrap (3 * (i : Int))) + (i2 : Int))).toNat * 5)) rfl (hS9.se [0, 1]) (fun w' hw' => (Y_index (B := B) (m := a.length) (c := c) (k := .i64) (i := (i64.wrap ((i64.wrap (3 * (i : Int))) + (i2 : Int)))) k_sl_28_65 k_sz_65_5 rfl rfl rfl (gi_isSome eN2 rfl (ST.rf hw' (i := 0) rfl) hx) (getI_nn hx) (getI_ltI hx rfl))) ?_
     refine rq 6 33 (v := gD_ x) rfl (hS9.se [0, 1]) (fun w' hw' => (Y_loadA (B := B) (i := (i64.wrap ((i64.wrap (3 * (i : Int))) + (i2 : Int))).toNat * 5) (cs := (a.flatMap eN0)) (vs := kD_ x) k_ag_65 k_sz_65_5 rfl rfl (ST.rf hw' (i := 0) rfl) (eN2 x) (gi_seg eN2 hx))) ?_
     refine rq 7 34 (v := .slice B1 b.length c1) rfl (hS9.se [0, 1]) (fun w' hw' => (Y_move (v := .slice B1 b.length c1) rfl (hf2.get 1 1 rfl))) ?_
     refine rq 8 35 (v := vi (i2 : Int)) rfl (hS9.se [0, 1]) (fun w' hw' => (Y_move (v := vi (i2 : Int)) rfl rfl)) ?_
     refine rq 9 36 (v := vi (i64.wrap (3 * (i2 : Int)))) rfl (hS9.se [0, 1]) (fun w' hw' => (Y_mul (k := .i64) (a := 3) (b := (i2 : Int)) rfl rfl rfl)) ?_
     refine rq 10 37 (v := vi (i1 : Int)) rfl (hS9.se [0, 1]) (fun w' hw' => (Y_move (v := vi (i1 : Int)) rfl (hf2.get 8 4 rfl))) ?_
     refine rq 11 38 (v := vi (i64.wrap ((i64.wrap (3 * (i2 : Int))) + (i1 : Int)))) rfl (hS9.se [0, 1]) (fun w' hw' => (Y_add (k := .i64) (a := (i64.wrap (3 * (i2 : Int)))) (b := (i1 : Int)) rfl rfl rfl)) ?_
     refine rq 12 39 (v := pt B1 ((i64.wrap ((i64.wrap (3 * (i2 : Int))) + (i1 : Int))).toNat * 5)) rfl (hS9.se [0, 1]) (fun w' hw' => (Y_index (B := B1) (m := b.length) (c := c1) (k := .i64) (i := (i64.wrap ((i64.wrap (3 * (i2 : Int))) + (i1 : Int)))) k_sl_28_65 k_sz_65_5 rfl rfl rfl (gi_isSome eN2 rfl (ST.rf hw' (i := 1) rfl) hx1) (getI_nn hx1) (getI_ltI hx1 rfl))) ?_
     refine rq 13 40 (v := gD_ x1) rfl (hS9.se [0, 1]) (fun w' hw' => (Y_loadA (B := B1) (i := (i64.wrap ((i64.wrap (3 * (i2 : Int))) + (i1 : Int))).toNat * 5) (cs := (b.flatMap eN0)) (vs := kD_ x1) k_ag_65 k_sz_65_5 rfl rfl (ST.rf hw' (i := 1) rfl) (eN2 x1) (gi_seg eN2 hx1))) ?_
     refine rA [14, 18] ?_
     refine ra_c 41 (i := 14) rfl rfl rfl (Yc_func (g := 86) (vs := [gD_ x, gD_ x1]) k_call_86 rfl (mc rfl (mc rfl mn)) (c_impl_MulDyadic x x1 _  (hS9.inn0 [] rfl) hc)) ?_ ?_
     ·rintro _ w_3 ⟨rfl, hd⟩
      have hS10 := hS9.out00 hd
      refine ⟨(hS10.se [0, 1]), ?_⟩
      refine rq 15 26 (v := .tuple #[gD_ r_2, .bool r_3]) rfl (hS10.se [0, 1]) (fun w' hw' => (Y_move (v := .tuple #[gD_ r_2, .bool r_3]) rfl rfl)) ?_
      refine rq 16 42 (v := gD_ r_2) rfl (hS10.se [0, 1]) (fun w' hw' => (Y_extract (v := gD_ r_2) rfl rfl rfl)) ?_
      refine rq 17 43 (v := .bool r_3) rfl (hS10.se [0, 1]) (fun w' hw' => (Y_extract (v := .bool r_3) rfl rfl rfl)) ?_
      refine rA [18] ?_
      refine ra_s 11 (i := 18) rfl rfl rfl (Ys_alloc (T := 65) (cs := kZ_) (m := 5) hS10 k_zero_65 rfl rfl rfl) ?_ ?_
      ·rintro _ w_4 ⟨b3, rfl, hS11⟩
       refine ⟨(hS11.se [0, 1]), ?_⟩
       refine rA [19] ?_
       refine ra_s0 (i := 19) rfl rfl rfl (Ys_store (i := 2) (s := 5) (B := aD b3) (T' := 65) (v := gD_ r_2) (vs := kD_ r_2) (k := 0) (cs' := kD_ r_2) hS11 k_sz_65_5 rfl rfl rfl rfl rfl rfl rfl (lB rfl) rfl rfl) ?_ ?_
       ·rintro _ w_5 ⟨rfl, hS12⟩
        refine ⟨(hS12.se [0, 1]), ?_⟩
        refine rq 20 12 (v := .bool r_3) rfl (hS12.se [0, 1]) (fun w' hw' => (Y_assign (v := .bool r_3) rfl rfl)) ?_
        refine ra_done (by kernel_rfl) ?_
        exact ⟨aD b3, (FF.cons (hf2.get 0 0 rfl) (FF.cons (hf2.get 1 1 rfl) (FF.cons (hf2.get 6 2 rfl) (FF.cons (hf2.get 7 3 rfl) (FF.cons (hf2.get 8 4 rfl) (FF.cons (hf2.get 9 5 rfl) (FF.cons rfl (FF.cons rfl (FF.cons (hf2.get 16 6 rfl) (FF.cons (hf2.get 19 7 rfl) (FF.cons (hf2.get 23 8 rfl) FF.nil))))))))))), (hS12.sel [0, 1, 2] rfl rfl)⟩
       exact allR_nil
      exact allR_nil
     refine ra_s 11 (i := 18) rfl rfl rfl (Ys_alloc (T := 65) (cs := kZ_) (m := 5) hS9 k_zero_65 rfl rfl rfl) ?_ ?_
     ·rintro _ w_6 ⟨b3, rfl, hS13⟩
      refine ⟨(hS13.se [0, 1]), ?_⟩
      refine rA [14] ?_
      refine ra_c 41 (i := 14) rfl rfl rfl (Yc_func (g := 86) (vs := [gD_ x, gD_ x1]) k_call_86 rfl (mc rfl (mc rfl mn)) (c_impl_MulDyadic x x1 _  (hS13.inn0 [] rfl) hc)) ?_ ?_
      ·rintro _ w_7 ⟨rfl, hd1⟩
       have hS14 := hS13.out00 hd1
       refine ⟨(hS14.se [0, 1]), ?_⟩
       refine rq 15 26 (v := .tuple #[gD_ r_2, .bool r_3]) rfl (hS14.se [0, 1]) (fun w' hw' => (Y_move (v := .tuple #[gD_ r_2, .bool r_3]) rfl rfl)) ?_
       refine rq 16 42 (v := gD_ r_2) rfl (hS14.se [0, 1]) (fun w' hw' => (Y_extract (v := gD_ r_2) rfl rfl rfl)) ?_
       refine rq 17 43 (v := .bool r_3) rfl (hS14.se [0, 1]) (fun w' hw' => (Y_extract (v := .bool r_3) rfl rfl rfl)) ?_
       refine rA [19] ?_
       refine ra_s0 (i := 19) rfl rfl rfl (Ys_store (i := 2) (s := 5) (B := aD b3) (T' := 65) (v := gD_ r_2) (vs := kD_ r_2) (k := 0) (cs' := kD_ r_2) hS14 k_sz_65_5 rfl rfl rfl rfl rfl rfl rfl (lB rfl) rfl rfl) ?_ ?_
       ·rintro _ w_8 ⟨rfl, hS15⟩
        refine ⟨(hS15.se [0, 1]), ?_⟩
        refine rq 20 12 (v := .bool r_3) rfl (hS15.se [0, 1]) (fun w' hw' => (Y_assign (v := .bool r_3) rfl rfl)) ?_
        refine ra_done (by kernel_rfl) ?_
        exact ⟨aD b3, (FF.cons (hf2.get 0 0 rfl) (FF.cons (hf2.get 1 1 rfl) (FF.cons (hf2.get 6 2 rfl) (FF.cons (hf2.get 7 3 rfl) (FF.cons (hf2.get 8 4 rfl) (FF.cons (hf2.get 9 5 rfl) (FF.cons rfl (FF.cons rfl (FF.cons (hf2.get 16 6 rfl) (FF.cons (hf2.get 19 7 rfl) (FF.cons (hf2.get 23 8 rfl) FF.nil))))))))))), (hS15.sel [0, 1, 2] rfl rfl)⟩
       exact allR_nil
      exact allR_nil
     exact allR_nil
    rintro f w ⟨B6, hf3, hS8⟩
    refine cw_seq (cw_region ?_)
    refine sQ 45 (Y_loadA (B := aD b2) (i := 0) (cs := [vi A, vi B5, vi C, vi D, vi Exp]) (vs := [vi A, vi B5, vi C, vi D, vi Exp]) k_ag_65 k_sz_65_5 rfl (hf3.get 9 5 rfl) (hS8.cf (i := 1) rfl) rfl rfl) ?_
    refine sQ 46 (Y_loadA (B := B6) (i := 0) (cs := kD_ r_2) (vs := kD_ r_2) k_ag_65 k_sz_65_5 rfl (hf3.get 11 6 rfl) (hS8.cf (i := 2) rfl) rfl rfl) ?_
    obtain ⟨⟨r_4, r_5⟩, hc1, hb2⟩ := bind_inv hb2
    refine sc 47 rfl rfl (Yc_func (g := 103) (vs := [.agg #[vi A, vi B5, vi C, vi D, vi Exp], gD_ r_2]) k_call_103 rfl (mc rfl (mc rfl mn)) (c_impl_AddDyadic (TDyadic.mk (TRing.mk A B5 C D) Exp) r_2 _  (hS8.inn0 [] rfl) hc1)) ?_
    rintro _ w_9 ⟨rfl, hd2⟩
    have hS16 := hS8.out00 hd2
    refine sQ 44 (Y_move (v := .tuple #[gD_ r_4, .bool r_5]) rfl rfl) ?_
    refine sQ 48 (Y_extract (v := gD_ r_4) rfl rfl rfl) ?_
    refine sQ 49 (Y_extract (v := .bool r_5) rfl rfl rfl) ?_
    refine sS 13 (Ys_alloc (T := 65) (cs := kZ_) (m := 5) hS16 k_zero_65 rfl rfl rfl) ?_
    rintro _ w_10 ⟨b4, rfl, hS17⟩
    refine s0 (Ys_store (i := 3) (s := 5) (B := aD b4) (T' := 65) (v := gD_ r_4) (vs := kD_ r_4) (k := 0) (cs' := kD_ r_4) hS17 k_sz_65_5 rfl rfl rfl rfl rfl rfl rfl (lB rfl) rfl rfl) ?_
    rintro _ w_11 ⟨rfl, hS18⟩
    refine sQ 14 (Y_assign (v := .bool r_5) rfl rfl) (rw_nil (cw_seq (cw_seq (cw_region ?_))))
    refine sQ 50 (Y_move (v := .bool r_3) rfl (hf3.get 12 7 rfl)) ?_
    refine sQ 51 (Y_not (p := r_3) rfl rfl) ?_
    refine sQ 52 (Y_move (v := .bool (!r_3)) rfl rfl) ?_
    refine sgq 53 (B := (!(!r_3))) (v := .bool r_5) rfl rfl (uF_ 52) (fun hg => (Y_move (v := .bool r_5) rfl rfl)) ?_
    refine sgq 54 (B := (!(!r_3))) (v := .bool (!r_5)) rfl rfl (uF_ 52) (fun hg1 => (Y_not (p := r_5) rfl (gv_of (v := .bool r_5) hg1))) ?_
    refine sQ 55 (Y_or (b := (!r_3)) (z := (!r_5)) rfl rfl rfl rfl) (rw_nil ?_)
    refine cw_cond (b := ((!r_3) || (!r_5))) rfl (fun hb3 => ?_) (fun hb3 => ?_)
    ·skip
     have hF4 := ct hb2 hb3
     refine cw_seq (cw_region ?_)
     refine sQ 4 (Y_assign (v := .slice none 0 0) rfl rfl) ?_
     refine sQ 5 (Y_assign (v := .bool false) rfl rfl) (rw_nil (cw_ret ?_))
     have hS19 := hS18.addNil 65
     obtain rfl := some_inj hF4
     obtain rfl := some_inj hL5
     obtain rfl := some_inj hF3
     obtain rfl := some_inj hL3
     obtain rfl := some_inj hF2
     obtain rfl := some_inj hL1
     obtain ⟨rfl, rfl⟩ := pr2 (some_inj hF1)
     exact ret2 Tryz.results62 (v1 := .slice none 0 0) (resAt_tmp rfl) (v2 := .bool false) (resAt_tmp rfl) ⟨none, 0, rfl, (hS19.sN [4])⟩
    ·skip
     have hF5 := cf' hb2 hb3
     refine cw_skip (cw_region ?_)
     refine sQ 56 (Y_loadA (B := aD b4) (i := 0) (cs := kD_ r_4) (vs := kD_ r_4) k_ag_65 k_sz_65_5 rfl rfl (hS18.cf (i := 3) rfl) rfl rfl) ?_
     refine s0 (Ys_store (i := 1) (s := 5) (B := aD b2) (T' := 65) (v := gD_ r_4) (vs := kD_ r_4) (k := 0) (cs' := kD_ r_4) hS18 k_sz_65_5 rfl (hf3.get 9 5 rfl) rfl rfl rfl rfl rfl (lB rfl) rfl rfl) ?_
     rintro _ w_12 ⟨rfl, hS20⟩
     refine rw_nil (cw_region ?_)
     refine sQ 57 (Y_add (k := .i64) (a := (i2 : Int)) (b := 1) rfl (hf3.get 23 10 rfl) rfl) ?_
     refine sQ 23 (Y_move (v := vi (i64.wrap ((i2 : Int) + 1))) rfl rfl) (rw_nil ?_)
     obtain rfl := some_inj hF5
     exact ⟨k_5, Nat.lt_succ_self _, i2 + 1, r_4.Num.A, r_4.Num.B, r_4.Num.C, r_4.Num.D, r_4.Exp, (FF.cons (hf3.get 0 0 rfl) (FF.cons (hf3.get 1 1 rfl) (FF.cons (hf3.get 6 2 rfl) (FF.cons (hf3.get 7 3 rfl) (FF.cons (hf3.get 8 4 rfl) (FF.cons (hf3.get 9 5 rfl) (FF.cons (hf3.get 16 8 rfl) (FF.cons (hf3.get 19 9 rfl) (FF.cons (congrArg (Value.int .i64) (wr_succ hlt5 (show 3 ≤ 9223372036854775807 by decide))) FF.nil))))))))), (hS20.sel [0, 1] rfl rfl), (by omega), hL5⟩
   ·skip
    obtain rfl : k_4 = 0 := by have h := of_decide_eq_false hlt4; omega
    refine cw_exit rfl ?_
    obtain rfl := some_inj hL4
    refine cw_region ?_
    refine sQ 58 (Y_move (v := .slice B4 out1.length c4) rfl (hf2.get 6 2 rfl)) ?_
    refine sQ 59 (Y_loadA (B := aD b2) (i := 0) (cs := [vi A, vi B5, vi C, vi D, vi Exp]) (vs := [vi A, vi B5, vi C, vi D, vi Exp]) k_ag_65 k_sz_65_5 rfl (hf2.get 9 5 rfl) (hS6.cf (i := 1) rfl) rfl rfl) ?_
    refine sS 60 (Ys_bslice (s := 5) (len := 1) (vs := [(0, .agg #[vi A, vi B5, vi C, vi D, vi Exp])]) (cs := [vi A, vi B5, vi C, vi D, vi Exp]) (zs := kZ_) (m := 5) hS6 k_sl_28_65 k_sz_65_5 k_zc_65 rfl (mpc rfl mpn) rfl rfl rfl (by kernel_rfl) (by kernel_rfl) rfl) ?_
    rintro _ w_13 ⟨b5, rfl, hS21⟩
    obtain ⟨hap, hF3⟩ := chk_inv hF3
    refine sS 61 (Ys_append (s := 5) (by' := 40) (i := 0) (nn := out1.length) (c := c4) (k := 1) (len := (out1 ++ [(TDyadic.mk (TRing.mk A B5 C D) Exp)]).length) (B := B4) (xs := ([(TDyadic.mk (TRing.mk A B5 C D) Exp)].flatMap eN0)) (cs' := ((out1 ++ [(TDyadic.mk (TRing.mk A B5 C D) Exp)]).flatMap eN0)) hS21 k_sl_28_65 k_sz_65_5 k_by_65_40 k_zero_65 rfl (by decide) rfl rfl rfl rfl (fm_lenn (l := out1) eN2 rfl) rfl (hS21.cf (i := 2) rfl) (fm_lenn (l := [(TDyadic.mk (TRing.mk A B5 C D) Exp)]) eN2 rfl) (fm_one' (enc := eN0) enc_Dyadic_one [(TDyadic.mk (TRing.mk A B5 C D) Exp)]) (by have := hap; omega) (by have := hap; simp only [maxLen]; omega) (fm_app _ _) (app_len (l := out1) (l' := [(TDyadic.mk (TRing.mk A B5 C D) Exp)]) rfl rfl)) ?_
    rintro _ w_14 ⟨B7, c5, rfl, hS22⟩
    refine sQ 6 (Y_assign (v := .slice B7 ((out1 ++ [(TDyadic.mk (TRing.mk A B5 C D) Exp)]).length) c5) rfl rfl) (rw_nil (cw_region ?_))
    refine sQ 62 (Y_add (k := .i64) (a := (i1 : Int)) (b := 1) rfl (hf2.get 19 7 rfl) rfl) ?_
    refine sQ 19 (Y_move (v := vi (i64.wrap ((i1 : Int) + 1))) rfl rfl) (rw_nil ?_)
    obtain rfl := some_inj hF3
    exact ⟨k_3, Nat.lt_succ_self _, i1 + 1, (out1 ++ [(TDyadic.mk (TRing.mk A B5 C D) Exp)]), B7, c5, (FF.cons (hf2.get 0 0 rfl) (FF.cons (hf2.get 1 1 rfl) (FF.cons rfl (FF.cons (hf2.get 7 3 rfl) (FF.cons (hf2.get 16 6 rfl) (FF.cons (congrArg (Value.int .i64) (wr_succ hlt3 (show 3 ≤ 9223372036854775807 by decide))) FF.nil)))))), (hS22.sel [0] rfl rfl), (by omega), hL3⟩
  ·skip
   obtain rfl : k_2 = 0 := by have h := of_decide_eq_false hlt2; omega
   refine cw_exit rfl ?_
   obtain rfl := some_inj hL2
   refine cw_region ?_
   refine sQ 63 (Y_add (k := .i64) (a := (i : Int)) (b := 1) rfl (hf1.get 16 4 rfl) rfl) ?_
   refine sQ 16 (Y_move (v := vi (i64.wrap ((i : Int) + 1))) rfl rfl) (rw_nil ?_)
   obtain rfl := some_inj hF2
   exact ⟨k_1, Nat.lt_succ_self _, i + 1, out1, B4, c4, (FF.cons (hf1.get 0 0 rfl) (FF.cons (hf1.get 1 1 rfl) (FF.cons (hf1.get 6 2 rfl) (FF.cons (congrArg (Value.int .i64) (wr_succ hlt1 (show 3 ≤ 9223372036854775807 by decide))) FF.nil)))), (hS3.sel [0] rfl rfl), (by omega), hL1⟩
 ·skip
  obtain rfl : k_ = 0 := by have h := of_decide_eq_false hlt; omega
  refine cw_exit rfl ?_
  obtain rfl := some_inj hL
  refine cw_seq (cw_region ?_)
  refine sQ 64 (Y_move (v := .slice B3 out.length c3) rfl (hf.get 6 2 rfl)) ?_
  refine sQ 4 (Y_assign (v := .slice B3 out.length c3) rfl rfl) ?_
  refine sQ 5 (Y_assign (v := .bool true) rfl rfl) (rw_nil (cw_ret ?_))
  obtain ⟨rfl, rfl⟩ := pr2 (some_inj hF1)
  exact ret2 Tryz.results62 (v1 := .slice B3 out.length c3) (resAt_tmp rfl) (v2 := .bool true) (resAt_tmp rfl) ⟨B3, c3, rfl, (hS2.sN [0])⟩

theorem c_impl_whole (n : Int)  (w0 : World)  (hS : ST w0 [] w0 [] []) {r_ : TDyadic} (hF : F_impl_whole n = some r_) :
  CV Tryz.prog 65 #[vi n] w0 (fun v w' => v = (gD_ r_) ∧ ST w0 [] w' [] []) := by
 unfold F_impl_whole at hF
 refine cv_of_cw 6 Tryz.func65 rfl Tryz.ntmps65 rfl ?_
 refine cw_seq (cw_region ?_)
 refine sS 2 (Ys_alloc (T := 65) (cs := kZ_) (m := 5) hS k_zero_65 rfl rfl rfl) ?_
 rintro _ w_ ⟨b, rfl, hS1⟩
 refine rw_nil (cw_seq (cw_region ?_))
 refine sQ 3 (Y_move (v := vi n) rfl rfl) ?_
 refine sQ 4 (Y_buildS (zs := [vi 0, vi 0, vi 0, vi 0]) (vs := [(0, vi n)]) (cs := [vi n, vi 0, vi 0, vi 0]) k_pl_63 k_zero_63 rfl (mpc rfl mpn) rfl) ?_
 refine sQ 5 (Y_buildS (zs := kZ_) (vs := [(0, .agg #[vi n, vi 0, vi 0, vi 0])]) (cs := [vi n, vi 0, vi 0, vi 0, vi 0]) k_pl_65 k_zero_65 rfl (mpc rfl mpn) rfl) ?_
 refine s0 (Ys_store (i := 0) (s := 5) (B := aD b) (T' := 65) (v := .agg #[vi n, vi 0, vi 0, vi 0, vi 0]) (vs := [vi n, vi 0, vi 0, vi 0, vi 0]) (k := 0) (cs' := [vi n, vi 0, vi 0, vi 0, vi 0]) hS1 k_sz_65_5 rfl rfl rfl rfl rfl rfl rfl (lB rfl) rfl rfl) ?_
 rintro _ w_1 ⟨rfl, hS2⟩
 refine rw_nil (cw_ret ?_)
 obtain rfl := some_inj hF
 exact ret1 Tryz.results65 (v1 := .agg #[vi n, vi 0, vi 0, vi 0, vi 0]) (resAt_cellA (B := aD b) (i := 0) (cs := [vi n, vi 0, vi 0, vi 0, vi 0]) (vs := [vi n, vi 0, vi 0, vi 0, vi 0]) rfl k_ag_65 k_sz_65_5 (hS2.cf (i := 0) rfl) rfl rfl) ⟨rfl, (hS2.sN [])⟩

theorem c_impl_small (holds : Bool)  (w0 : World)  (hS : ST w0 [] w0 [] []) {r_ : Int} (hF : F_impl_small holds = some r_) :
  CV Tryz.prog 66 #[.bool holds] w0 (fun v w' => v = vi r_ ∧ ST w0 [] w' [] []) := by
 unfold F_impl_small at hF
 refine cv_of_cw 4 Tryz.func66 rfl Tryz.ntmps66 rfl ?_
 refine cw_seq (cw_region ?_)
 refine sQ 2 (Y_assign (v := vi 0) rfl rfl) (rw_nil (cw_seq (cw_seq (cw_region ?_))))
 refine sQ 3 (Y_move (v := .bool holds) rfl rfl) (rw_nil ?_)
 refine cw_cond (b := holds) rfl (fun hb => ?_) (fun hb => ?_)
 ·skip
  have hF1 := ct hF hb
  refine cw_seq (cw_region ?_)
  refine sQ 2 (Y_assign (v := vi 1) rfl rfl) (rw_nil (cw_ret ?_))
  obtain rfl := some_inj hF1
  exact ret1 Tryz.results66 (v1 := vi 1) (resAt_tmp rfl) ⟨rfl, (hS.sN [])⟩
 ·skip
  have hF2 := cf' hF hb
  refine cw_skip (cw_seq (cw_region ?_))
  refine sQ 2 (Y_assign (v := vi 0) rfl rfl) (rw_nil (cw_ret ?_))
  obtain rfl := some_inj hF2
  exact ret1 Tryz.results66 (v1 := vi 0) (resAt_tmp rfl) ⟨rfl, (hS.sN [])⟩

theorem c_impl_isDim (n : Int)  (w0 : World)  (hS : ST w0 [] w0 [] []) {r_ : Bool} (hF : F_impl_isDim n = some r_) :
  CV Tryz.prog 117 #[vi n] w0 (fun v w' => v = .bool r_ ∧ ST w0 [] w' [] []) := by
 unfold F_impl_isDim at hF
 refine cv_of_cw 12 Tryz.func117 rfl Tryz.ntmps117 rfl ?_
 refine cw_seq (cw_region ?_)
 refine sQ 2 (Y_assign (v := .bool false) rfl rfl) (rw_nil (cw_seq (cw_region ?_)))
 refine sQ 3 (Y_move (v := vi n) rfl rfl) ?_
 obtain ⟨r_1, hc, hF⟩ := bind_inv hF
 refine sc 4 rfl rfl (Yc_func (g := 73) (vs := [vi n, vi 1, vi 32]) k_call_73 rfl (mc rfl (mc rfl (mc rfl mn))) (c_impl_within n 1 32 _  (hS.inn0 [] rfl) hc)) ?_
 rintro _ w_ ⟨rfl, hd⟩
 have hS1 := hS.out00 hd
 refine sQ 5 (Y_move (v := .bool r_1) rfl rfl) ?_
 refine sgq 6 (B := r_1) (v := vi n) rfl rfl (uT_ 5) (fun hg => (Y_move (v := vi n) rfl rfl)) ?_
 refine sgq 7 (B := r_1) (v := vi n) rfl rfl (uT_ 5) (fun hg1 => (Y_move (v := vi n) rfl rfl)) ?_
 refine sgq 8 (B := r_1) (v := vi (i64.wrap (n - 1))) rfl rfl (uT_ 5) (fun hg2 => (Y_sub (k := .i64) (a := n) (b := 1) rfl (gv_of (v := vi n) hg2) rfl)) ?_
 refine sgq 9 (B := r_1) (v := vi (bits .and .i64 n (i64.wrap (n - 1)))) rfl rfl (uT_ 5) (fun hg3 => (Y_band (k := .i64) (a := n) (b := (i64.wrap (n - 1))) rfl (gv_of (v := vi n) hg3) (gv_of (v := vi (i64.wrap (n - 1))) hg3))) ?_
 refine sgq 10 (B := r_1) (v := .bool ((bits .and .i64 n (i64.wrap (n - 1))) == 0)) rfl rfl (uT_ 5) (fun hg4 => (Y_eq (k := .i64) (a := (bits .and .i64 n (i64.wrap (n - 1)))) (b := 0) rfl (gv_of (v := vi (bits .and .i64 n (i64.wrap (n - 1)))) hg4) rfl)) ?_
 refine sQ 11 (Y_and (b := r_1) (z := ((bits .and .i64 n (i64.wrap (n - 1))) == 0)) rfl rfl rfl rfl) ?_
 refine sQ 2 (Y_assign (v := .bool (r_1 && ((bits .and .i64 n (i64.wrap (n - 1))) == 0))) rfl rfl) (rw_nil (cw_ret ?_))
 obtain rfl := some_inj hF
 exact ret1 Tryz.results117 (v1 := .bool (r_1 && ((bits .and .i64 n (i64.wrap (n - 1))) == 0))) (resAt_tmp rfl) ⟨rfl, (hS1.sN [])⟩

theorem c_impl_matrixOf (rows : Int) (cols : Int) (cell : Int → Int → Option (TDyadic × Bool)) (kf : Nat) (caps : Array Value) (Rf : List Ro) (w0 : World) (hk : callB Tryz.prog kf = true) (hp : ∀ (w : World), ST w [] w [] Rf → ∀ (x : Int) (x1 : Int) (y1 : TDyadic) (y2 : Bool), cell x x1 = some (y1, y2) → CV Tryz.prog kf ((vi x) :: (vi x1) :: caps.toList).toArray w (fun v w' => v = .tuple #[gD_ y1, .bool y2] ∧ ST w [] w' [] [])) (hS : ST w0 [] w0 [] (Rf)) {r_ : TMatrix} {r_1 : Bool} (hF : F_impl_matrixOf rows cols cell = some (r_, r_1)) :
  CV Tryz.prog 84 #[vi rows, vi cols, .func (.func kf) #[] caps] w0 (fun v w' => ∃ (B : Option Addr) (c : Nat), v = .tuple #[gM_ r_ B c, .bool r_1] ∧ ST w0 [] w' [⟨B, 65, (r_.Cells.flatMap eN0), c * 5⟩] []) := by
 unfold F_impl_matrixOf at hF
 refine cv_of_cw 52 Tryz.func84 rfl Tryz.ntmps84 rfl ?_
 refine cw_seq (cw_region ?_)
 refine sS 6 (Ys_alloc (T := 48) (cs := kN_) (m := 3) hS k_zero_48 rfl rfl rfl) ?_
 rintro _ w_ ⟨b, rfl, hS1⟩
 refine sQ 7 (Y_assign (v := .bool false) rfl rfl) (rw_nil (cw_seq (cw_region ?_)))
 refine sQ 13 (Y_move (v := vi rows) rfl rfl) ?_
 refine sQ 14 (Y_move (v := vi cols) rfl rfl) ?_
 refine sQ 15 (Y_buildS (zs := kN_) (vs := [(0, vi rows), (1, vi cols)]) (cs := [vi rows, vi cols, .slice none 0 0]) k_pl_48 k_zero_48 rfl (mpc rfl (mpc rfl mpn)) rfl) ?_
 refine sS 8 (Ys_alloc (T := 48) (cs := kN_) (m := 3) hS1 k_zero_48 rfl rfl rfl) ?_
 rintro _ w_1 ⟨b1, rfl, hS2⟩
 refine s0 (Ys_store (i := 1) (s := 3) (B := aD b1) (T' := 48) (v := .agg #[vi rows, vi cols, .slice none 0 0]) (vs := [vi rows, vi cols, .slice none 0 0]) (k := 0) (cs' := [vi rows, vi cols, .slice none 0 0]) hS2 k_sz_48_3 rfl rfl rfl rfl rfl rfl rfl (lB rfl) rfl rfl) ?_
 rintro _ w_2 ⟨rfl, hS3⟩
 refine rw_nil (cw_seq (cw_seq (cw_region ?_)))
 refine sQ 16 (Y_move (v := vi rows) rfl rfl) ?_
 obtain ⟨r_2, hc, hF⟩ := bind_inv hF
 refine sc 17 rfl rfl (Yc_func (g := 117) (vs := [vi rows]) k_call_117 rfl (mc rfl mn) (c_impl_isDim rows _  (hS3.inn0 [] rfl) hc)) ?_
 rintro _ w_3 ⟨rfl, hd⟩
 have hS4 := hS3.out00 hd
 refine sQ 18 (Y_not (p := r_2) rfl rfl) ?_
 refine sQ 19 (Y_move (v := .bool (!r_2)) rfl rfl) ?_
 refine sgq 20 (B := (!(!r_2))) (v := vi cols) rfl rfl (uF_ 19) (fun hg => (Y_move (v := vi cols) rfl rfl)) ?_
 obtain ⟨r_3, hc1, hF⟩ := bind_inv hF
 refine sgc 21 (B := (!(!r_2))) (v := .bool r_3) (F := hS4.fn) rfl rfl (uF_ 19) hS4 (fun hg1 => (Yc_func (g := 117) (vs := [vi cols]) k_call_117 rfl (mc (gv_of (v := vi cols) hg1) mn) (CV.mono (c_impl_isDim cols _  (hS4.inn0 [] rfl) (gb_inv hc1 hg1)) (by rintro _ _ ⟨rfl, h⟩; exact ⟨rfl, hS4.out00 h⟩)))) ?_
 rintro w_4 hS5
 refine sgq 22 (B := (!(!r_2))) (v := .bool (!r_3)) rfl rfl (uF_ 19) (fun hg2 => (Y_not (p := r_3) rfl (gv_of (v := .bool r_3) hg2))) ?_
 refine sQ 23 (Y_or (b := (!r_2)) (z := (!r_3)) rfl rfl rfl rfl) (rw_nil ?_)
 refine cw_cond (b := ((!r_2) || (!r_3))) rfl (fun hb => ?_) (fun hb => ?_)
 ·skip
  have hF1 := ct hF hb
  refine cw_seq (cw_region ?_)
  refine sQ 24 (Y_buildS (zs := kN_) (vs := []) (cs := kN_) k_pl_48 k_zero_48 rfl mpn rfl) ?_
  refine s0 (Ys_store (i := 0) (s := 3) (B := aD b) (T' := 48) (v := gN_) (vs := kN_) (k := 0) (cs' := kN_) hS5 k_sz_48_3 rfl rfl rfl rfl rfl rfl rfl (lB rfl) rfl rfl) ?_
  rintro _ w_5 ⟨rfl, hS6⟩
  refine sQ 7 (Y_assign (v := .bool false) rfl rfl) (rw_nil (cw_ret ?_))
  have hS7 := hS6.addNil 65
  obtain ⟨rfl, rfl⟩ := pr2 (some_inj hF1)
  exact ret2 Tryz.results84 (v1 := gN_) (resAt_cellA (B := aD b) (i := 0) (cs := kN_) (vs := kN_) rfl k_ag_48 k_sz_48_3 (hS7.cf (i := 0) rfl) rfl rfl) (v2 := .bool false) (resAt_tmp rfl) ⟨none, 0, rfl, (hS7.sN [2])⟩
 ·skip
  have hF2 := cf' hF hb
  refine cw_skip (cw_seq (cw_seq (cw_region ?_)))
  refine sQ 25 (Y_move (v := vi rows) rfl rfl) ?_
  refine sQ 26 (Y_move (v := vi 0) rfl rfl) (rw_nil ?_)
  obtain ⟨hN, hF2⟩ := chk_inv hF2
  obtain ⟨z, hz, hF3⟩ := bind_inv hF2
  have hS9 := hS5.addNil 65
  refine cw_block ?_
  refine cw_loop (fun k f w => ∃ (i : Nat) (Cells : List TDyadic) (B1 : Option Addr) (c1 : Nat), FF f [(1, vi cols), (2, .func (.func kf) #[] caps), (6, pt (aD b) 0), (8, pt (aD b1) 0), (25, vi rows), (26, vi (i : Int))] ∧ ST w0 [] w [⟨aD b, 48, kN_, 3⟩, ⟨aD b1, 48, [vi rows, vi cols, .slice B1 Cells.length c1], 3⟩, ⟨B1, 65, (Cells.flatMap eN0), c1 * 5⟩] (Rf) ∧ i + k = rows.toNat ∧ forX (F_impl_matrixOf_l1 cols cell) k i Cells = some z) rows.toNat ⟨0, [], none, 0, (FF.cons rfl (FF.cons rfl (FF.cons rfl (FF.cons rfl (FF.cons rfl (FF.cons rfl FF.nil)))))), (hS9.sel [0, 1, 2] rfl rfl), Nat.zero_add _, hz⟩ ?_
  rintro k_ f w ⟨i, Cells, B1, c1, hf, hS8, hik, hL⟩
  refine cw_seq (cw_region ?_)
  refine sQ 27 (Y_lt (k := .i64) (a := (i : Int)) (b := rows) rfl (hf.get 26 5 rfl) (hf.get 25 4 rfl)) (rw_nil (cw_seq ?_))
  refine cw_cond (b := (decide ((i : Int) < rows))) rfl (fun hlt => ?_) (fun hlt => ?_)
  ·skip
   have hlt1 : i < rows.toNat := by have h := of_decide_eq_true hlt; omega
   obtain ⟨k_1, rfl⟩ : ∃ k2, k_ = k2 + 1 := ⟨k_ - 1, by omega⟩
   obtain ⟨y3, hb1, hL1⟩ := forX_go hL
   unfold F_impl_matrixOf_l1 at hb1
   refine cw_skip (cw_seq (cw_block (cw_seq (cw_region ?_))))
   refine sQ 28 (Y_move (v := vi (i : Int)) rfl (hf.get 26 5 rfl)) ?_
   refine sQ 9 (Y_assign (v := vi (i : Int)) rfl rfl) (rw_nil (cw_seq (cw_region ?_)))
   refine sQ 29 (Y_move (v := vi cols) rfl (hf.get 1 0 rfl)) ?_
   refine sQ 30 (Y_move (v := vi 0) rfl rfl) (rw_nil ?_)
   obtain ⟨hN1, hb1⟩ := chk_inv hb1
   obtain ⟨z1, hz1, hF4⟩ := bind_inv hb1
   refine cw_block ?_
   refine cw_loop (fun k f w => ∃ (i1 : Nat) (Cells1 : List TDyadic) (B2 : Option Addr) (c2 : Nat), FF f [(1, vi cols), (2, .func (.func kf) #[] caps), (6, pt (aD b) 0), (8, pt (aD b1) 0), (9, vi (i : Int)), (25, vi rows), (26, vi (i : Int)), (29, vi cols), (30, vi (i1 : Int))] ∧ ST w0 [] w [⟨aD b, 48, kN_, 3⟩, ⟨aD b1, 48, [vi rows, vi cols, .slice B2 Cells1.length c2], 3⟩, ⟨B2, 65, (Cells1.flatMap eN0), c2 * 5⟩] (Rf) ∧ i1 + k = cols.toNat ∧ forX (F_impl_matrixOf_l2 cell i) k i1 Cells1 = some z1) cols.toNat ⟨0, Cells, B1, c1, (FF.cons (hf.get 1 0 rfl) (FF.cons (hf.get 2 1 rfl) (FF.cons (hf.get 6 2 rfl) (FF.cons (hf.get 8 3 rfl) (FF.cons rfl (FF.cons (hf.get 25 4 rfl) (FF.cons (hf.get 26 5 rfl) (FF.cons rfl (FF.cons rfl FF.nil))))))))), (hS8.sel [0, 1, 2] rfl rfl), Nat.zero_add _, hz1⟩ ?_
   rintro k_2 f w ⟨i1, Cells1, B2, c2, hf1, hS10, hik1, hL2⟩
   refine cw_seq (cw_region ?_)
   refine sQ 31 (Y_lt (k := .i64) (a := (i1 : Int)) (b := cols) rfl (hf1.get 30 8 rfl) (hf1.get 29 7 rfl)) (rw_nil (cw_seq ?_))
   refine cw_cond (b := (decide ((i1 : Int) < cols))) rfl (fun hlt2 => ?_) (fun hlt2 => ?_)
   ·skip
    have hlt3 : i1 < cols.toNat := by have h := of_decide_eq_true hlt2; omega
    obtain ⟨k_3, rfl⟩ : ∃ k2, k_2 = k2 + 1 := ⟨k_2 - 1, by omega⟩
    obtain ⟨y4, hb2, hL3⟩ := forX_go hL2
    unfold F_impl_matrixOf_l2 at hb2
    refine cw_skip (cw_seq (cw_block (cw_seq (cw_region ?_))))
    refine sQ 32 (Y_move (v := vi (i1 : Int)) rfl (hf1.get 30 8 rfl)) ?_
    refine sQ 10 (Y_assign (v := vi (i1 : Int)) rfl rfl) (rw_nil (cw_seq (cw_region ?_)))
    refine sQ 34 (Y_move (v := .func (.func kf) #[] caps) rfl (hf1.get 2 1 rfl)) ?_
    refine sQ 35 (Y_move (v := vi (i : Int)) rfl (hf1.get 9 4 rfl)) ?_
    refine sQ 36 (Y_move (v := vi (i1 : Int)) rfl rfl) ?_
    obtain ⟨⟨r_4, r_5⟩, hc2, hb2⟩ := bind_inv hb2
    refine sc 37 rfl rfl (Yc_clos (g := kf) (vs := (vi (i : Int)) :: (vi (i1 : Int)) :: caps.toList) hk rfl rfl (clo_args (mc rfl (mc rfl mn))) (hp _ (hS10.innS (fun _ h => mOd (i := 0) h)) (i : Int) (i1 : Int) r_4 r_5 hc2)) ?_
    rintro _ w_6 ⟨rfl, hd1⟩
    have hS11 := hS10.out00 hd1
    refine sQ 33 (Y_move (v := .tuple #[gD_ r_4, .bool r_5]) rfl rfl) ?_
    refine sQ 38 (Y_extract (v := gD_ r_4) rfl rfl rfl) ?_
    refine sQ 39 (Y_extract (v := .bool r_5) rfl rfl rfl) ?_
    refine sS 11 (Ys_alloc (T := 65) (cs := kZ_) (m := 5) hS11 k_zero_65 rfl rfl rfl) ?_
    rintro _ w_7 ⟨b2, rfl, hS12⟩
    refine s0 (Ys_store (i := 3) (s := 5) (B := aD b2) (T' := 65) (v := gD_ r_4) (vs := kD_ r_4) (k := 0) (cs' := kD_ r_4) hS12 k_sz_65_5 rfl rfl rfl rfl rfl rfl rfl (lB rfl) rfl rfl) ?_
    rintro _ w_8 ⟨rfl, hS13⟩
    refine sQ 12 (Y_assign (v := .bool r_5) rfl rfl) (rw_nil (cw_seq (cw_seq (cw_region ?_))))
    refine sQ 40 (Y_move (v := .bool r_5) rfl rfl) ?_
    refine sQ 41 (Y_not (p := r_5) rfl rfl) (rw_nil ?_)
    refine cw_cond (b := (!r_5)) rfl (fun hb3 => ?_) (fun hb3 => ?_)
    ·skip
     have hF5 := ct hb2 hb3
     refine cw_seq (cw_region ?_)
     refine sQ 42 (Y_buildS (zs := kN_) (vs := []) (cs := kN_) k_pl_48 k_zero_48 rfl mpn rfl) ?_
     refine s0 (Ys_store (i := 0) (s := 3) (B := aD b) (T' := 48) (v := gN_) (vs := kN_) (k := 0) (cs' := kN_) hS13 k_sz_48_3 rfl (hf1.get 6 2 rfl) rfl rfl rfl rfl rfl (lB rfl) rfl rfl) ?_
     rintro _ w_9 ⟨rfl, hS14⟩
     refine sQ 7 (Y_assign (v := .bool false) rfl rfl) (rw_nil (cw_ret ?_))
     have hS15 := hS14.addNil 65
     obtain rfl := some_inj hF5
     obtain rfl := some_inj hL3
     obtain rfl := some_inj hF4
     obtain rfl := some_inj hL1
     obtain ⟨rfl, rfl⟩ := pr2 (some_inj hF3)
     exact ret2 Tryz.results84 (v1 := gN_) (resAt_cellA (B := aD b) (i := 0) (cs := kN_) (vs := kN_) (hf1.get 6 2 rfl) k_ag_48 k_sz_48_3 (hS15.cf (i := 0) rfl) rfl rfl) (v2 := .bool false) (resAt_tmp rfl) ⟨none, 0, rfl, (hS15.sN [4])⟩
    ·skip
     have hF6 := cf' hb2 hb3
     refine cw_skip (cw_region ?_)
     refine sQ 43 (Y_fieldAddr (B := aD b1) (i := 0) (s := 0) k_fd_48_2_2_28 k_sz_28_1 rfl (hf1.get 8 3 rfl)) ?_
     refine sQ 44 (Y_load1 (B := aD b1) (i := 2) (cs := [vi rows, vi cols, .slice B2 Cells1.length c2]) (v := .slice B2 Cells1.length c2) k_sc_28 rfl rfl (hS13.cf (i := 1) rfl) rfl) ?_
     refine sQ 45 (Y_loadA (B := aD b2) (i := 0) (cs := kD_ r_4) (vs := kD_ r_4) k_ag_65 k_sz_65_5 rfl rfl (hS13.cf (i := 3) rfl) rfl rfl) ?_
     refine sS 46 (Ys_bslice (s := 5) (len := 1) (vs := [(0, gD_ r_4)]) (cs := kD_ r_4) (zs := kZ_) (m := 5) hS13 k_sl_28_65 k_sz_65_5 k_zc_65 rfl (mpc rfl mpn) rfl rfl rfl (by kernel_rfl) (by kernel_rfl) rfl) ?_
     rintro _ w_10 ⟨b3, rfl, hS16⟩
     obtain ⟨hap, hF6⟩ := chk_inv hF6
     refine sS 47 (Ys_append (s := 5) (by' := 40) (i := 2) (nn := Cells1.length) (c := c2) (k := 1) (len := (Cells1 ++ [r_4]).length) (B := B2) (xs := ([r_4].flatMap eN0)) (cs' := ((Cells1 ++ [r_4]).flatMap eN0)) hS16 k_sl_28_65 k_sz_65_5 k_by_65_40 k_zero_65 rfl (by decide) rfl rfl rfl rfl (fm_lenn (l := Cells1) eN2 rfl) rfl (hS16.cf (i := 4) rfl) (fm_lenn (l := [r_4]) eN2 rfl) (fm_one' (enc := eN0) enc_Dyadic_one [r_4]) (by have := hap; omega) (by have := hap; simp only [maxLen]; omega) (fm_app _ _) (app_len (l := Cells1) (l' := [r_4]) rfl rfl)) ?_
     rintro _ w_11 ⟨B3, c3, rfl, hS17⟩
     refine sQ 48 (Y_fieldAddr (B := aD b1) (i := 0) (s := 0) k_fd_48_2_2_28 k_sz_28_1 rfl (hf1.get 8 3 rfl)) ?_
     refine s0 (Ys_store (i := 1) (s := 1) (B := aD b1) (T' := 48) (v := .slice B3 ((Cells1 ++ [r_4]).length) c3) (vs := [.slice B3 ((Cells1 ++ [r_4]).length) c3]) (k := 2) (cs' := [vi rows, vi cols, .slice B3 ((Cells1 ++ [r_4]).length) c3]) hS17 k_sz_28_1 rfl rfl rfl rfl rfl rfl rfl (lB rfl) rfl rfl) ?_
     rintro _ w_12 ⟨rfl, hS18⟩
     refine rw_nil (cw_region ?_)
     refine sQ 49 (Y_add (k := .i64) (a := (i1 : Int)) (b := 1) rfl (hf1.get 30 8 rfl) rfl) ?_
     refine sQ 30 (Y_move (v := vi (i64.wrap ((i1 : Int) + 1))) rfl rfl) (rw_nil ?_)
     obtain rfl := some_inj hF6
     exact ⟨k_3, Nat.lt_succ_self _, i1 + 1, (Cells1 ++ [r_4]), B3, c3, (FF.cons (hf1.get 1 0 rfl) (FF.cons (hf1.get 2 1 rfl) (FF.cons (hf1.get 6 2 rfl) (FF.cons (hf1.get 8 3 rfl) (FF.cons (hf1.get 9 4 rfl) (FF.cons (hf1.get 25 5 rfl) (FF.cons (hf1.get 26 6 rfl) (FF.cons (hf1.get 29 7 rfl) (FF.cons (congrArg (Value.int .i64) (wr_succ hlt3 hN1)) FF.nil))))))))), (hS18.sel [0, 1, 2] rfl rfl), (by omega), hL3⟩
   ·skip
    obtain rfl : k_2 = 0 := by have h := of_decide_eq_false hlt2; omega
    refine cw_exit rfl ?_
    obtain rfl := some_inj hL2
    refine cw_region ?_
    refine sQ 50 (Y_add (k := .i64) (a := (i : Int)) (b := 1) rfl (hf1.get 26 6 rfl) rfl) ?_
    refine sQ 26 (Y_move (v := vi (i64.wrap ((i : Int) + 1))) rfl rfl) (rw_nil ?_)
    obtain rfl := some_inj hF4
    exact ⟨k_1, Nat.lt_succ_self _, i + 1, Cells1, B2, c2, (FF.cons (hf1.get 1 0 rfl) (FF.cons (hf1.get 2 1 rfl) (FF.cons (hf1.get 6 2 rfl) (FF.cons (hf1.get 8 3 rfl) (FF.cons (hf1.get 25 5 rfl) (FF.cons (congrArg (Value.int .i64) (wr_succ hlt1 hN)) FF.nil)))))), (hS10.sel [0, 1, 2] rfl rfl), (by omega), hL1⟩
  ·skip
   obtain rfl : k_ = 0 := by have h := of_decide_eq_false hlt; omega
   refine cw_exit rfl ?_
   obtain rfl := some_inj hL
   refine cw_seq (cw_region ?_)
   refine sQ 51 (Y_loadA (B := aD b1) (i := 0) (cs := [vi rows, vi cols, .slice B1 Cells.length c1]) (vs := [vi rows, vi cols, .slice B1 Cells.length c1]) k_ag_48 k_sz_48_3 rfl (hf.get 8 3 rfl) (hS8.cf (i := 1) rfl) rfl rfl) ?_
   refine s0 (Ys_store (i := 0) (s := 3) (B := aD b) (T' := 48) (v := .agg #[vi rows, vi cols, .slice B1 Cells.length c1]) (vs := [vi rows, vi cols, .slice B1 Cells.length c1]) (k := 0) (cs' := [vi rows, vi cols, .slice B1 Cells.length c1]) hS8 k_sz_48_3 rfl (hf.get 6 2 rfl) rfl rfl rfl rfl rfl (lB rfl) rfl rfl) ?_
   rintro _ w_13 ⟨rfl, hS19⟩
   refine sQ 7 (Y_assign (v := .bool true) rfl rfl) (rw_nil (cw_ret ?_))
   obtain ⟨rfl, rfl⟩ := pr2 (some_inj hF3)
   exact ret2 Tryz.results84 (v1 := .agg #[vi rows, vi cols, .slice B1 Cells.length c1]) (resAt_cellA (B := aD b) (i := 0) (cs := [vi rows, vi cols, .slice B1 Cells.length c1]) (vs := [vi rows, vi cols, .slice B1 Cells.length c1]) (hf.get 6 2 rfl) k_ag_48 k_sz_48_3 (hS19.cf (i := 0) rfl) rfl rfl) (v2 := .bool true) (resAt_tmp rfl) ⟨B1, c1, rfl, (hS19.sN [2])⟩

theorem c_impl_isTwo (kind : Int)  (w0 : World)  (hS : ST w0 [] w0 [] []) {r_ : Bool} (hF : F_impl_isTwo kind = some r_) :
  CV Tryz.prog 131 #[vi kind] w0 (fun v w' => v = .bool r_ ∧ ST w0 [] w' [] []) := by
 unfold F_impl_isTwo at hF
 refine cv_of_cw 5 Tryz.func131 rfl Tryz.ntmps131 rfl ?_
 refine cw_seq (cw_region ?_)
 refine sQ 2 (Y_assign (v := .bool false) rfl rfl) (rw_nil (cw_seq (cw_region ?_)))
 refine sQ 3 (Y_move (v := vi kind) rfl rfl) ?_
 obtain ⟨r_1, hc, hF⟩ := bind_inv hF
 refine sc 4 rfl rfl (Yc_func (g := 73) (vs := [vi kind, vi 9, vi 11]) k_call_73 rfl (mc rfl (mc rfl (mc rfl mn))) (c_impl_within kind 9 11 _  (hS.inn0 [] rfl) hc)) ?_
 rintro _ w_ ⟨rfl, hd⟩
 have hS1 := hS.out00 hd
 refine sQ 2 (Y_assign (v := .bool r_1) rfl rfl) (rw_nil (cw_ret ?_))
 obtain rfl := some_inj hF
 exact ret1 Tryz.results131 (v1 := .bool r_1) (resAt_tmp rfl) ⟨rfl, (hS1.sN [])⟩

theorem c_impl_IsValidGate (n : Int) (g : TGate)  (w0 : World)  (hS : ST w0 [] w0 [] []) {r_ : Bool} (hF : F_impl_IsValidGate n g = some r_) :
  CV Tryz.prog 113 #[vi n, .agg #[vi g.Kind, vi g.A, vi g.B]] w0 (fun v w' => v = .bool r_ ∧ ST w0 [] w' [] []) := by
 unfold F_impl_IsValidGate at hF
 refine cv_of_cw 60 Tryz.func113 rfl Tryz.ntmps113 rfl ?_
 refine cw_seq (cw_region ?_)
 refine sS 3 (Ys_box (T := 70) (v := .agg #[vi g.Kind, vi g.A, vi g.B]) (cs := [vi g.Kind, vi g.A, vi g.B]) (m := 3) hS rfl rfl rfl rfl) ?_
 rintro _ w_ ⟨b, rfl, hS1⟩
 refine sQ 4 (Y_assign (v := .bool false) rfl rfl) (rw_nil (cw_seq (cw_block (cw_seq (cw_region ?_)))))
 refine sQ 6 (Y_move (v := vi n) rfl rfl) ?_
 obtain ⟨r_1, hc, hF⟩ := bind_inv hF
 refine sc 7 rfl rfl (Yc_func (g := 73) (vs := [vi n, vi 1, vi 5]) k_call_73 rfl (mc rfl (mc rfl (mc rfl mn))) (c_impl_within n 1 5 _  (hS1.inn0 [] rfl) hc)) ?_
 rintro _ w_1 ⟨rfl, hd⟩
 have hS2 := hS1.out00 hd
 refine sQ 8 (Y_not (p := r_1) rfl rfl) ?_
 refine sQ 9 (Y_move (v := .bool (!r_1)) rfl rfl) ?_
 refine sgq 10 (B := (!(!r_1))) (v := pt (aD b) 0) rfl rfl (uF_ 9) (fun hg => (Y_fieldAddr (B := aD b) (i := 0) (s := 0) k_fd_70_0_0_3 k_sz_3_1 rfl rfl)) ?_
 refine sgq 11 (B := (!(!r_1))) (v := vi g.Kind) rfl rfl (uF_ 9) (fun hg1 => (Y_load1 (B := aD b) (i := 0) (cs := [vi g.Kind, vi g.A, vi g.B]) (v := vi g.Kind) k_sc_3 rfl (gv_of (v := pt (aD b) 0) hg1) (hS2.cf (i := 0) rfl) rfl)) ?_
 obtain ⟨r_2, hc1, hF⟩ := bind_inv hF
 refine sgc 12 (B := (!(!r_1))) (v := .bool r_2) (F := hS2.fn) rfl rfl (uF_ 9) hS2 (fun hg2 => (Yc_func (g := 73) (vs := [vi g.Kind, vi 1, vi 12]) k_call_73 rfl (mc (gv_of (v := vi g.Kind) hg2) (mc rfl (mc rfl mn))) (CV.mono (c_impl_within g.Kind 1 12 _  (hS2.inn0 [] rfl) (gb_inv hc1 hg2)) (by rintro _ _ ⟨rfl, h⟩; exact ⟨rfl, hS2.out00 h⟩)))) ?_
 rintro w_2 hS3
 refine sgq 13 (B := (!(!r_1))) (v := .bool (!r_2)) rfl rfl (uF_ 9) (fun hg3 => (Y_not (p := r_2) rfl (gv_of (v := .bool r_2) hg3))) ?_
 refine sQ 14 (Y_or (b := (!r_1)) (z := (!r_2)) rfl rfl rfl rfl) ?_
 refine sQ 5 (Y_assign (v := .bool ((!r_1) || (!r_2))) rfl rfl) (rw_nil ?_)
 refine cw_cond (b := ((!r_1) || (!r_2))) rfl (fun hb => ?_) (fun hb => ?_)
 ·skip
  have hF1 := ct hF hb
  refine cw_seq (cw_region ?_)
  refine sQ 4 (Y_assign (v := .bool false) rfl rfl) (rw_nil (cw_ret ?_))
  obtain rfl := some_inj hF1
  exact ret1 Tryz.results113 (v1 := .bool false) (resAt_tmp rfl) ⟨rfl, (hS3.sN [])⟩
 ·skip
  have hF2 := cf' hF hb
  refine cw_seq (cw_region ?_)
  refine sQ 16 (Y_fieldAddr (B := aD b) (i := 0) (s := 0) k_fd_70_0_0_3 k_sz_3_1 rfl rfl) ?_
  refine sQ 17 (Y_load1 (B := aD b) (i := 0) (cs := [vi g.Kind, vi g.A, vi g.B]) (v := vi g.Kind) k_sc_3 rfl rfl (hS3.cf (i := 0) rfl) rfl) ?_
  refine sQ 18 (Y_eq (k := .i64) (a := g.Kind) (b := 12) rfl rfl rfl) ?_
  refine sQ 15 (Y_assign (v := .bool (g.Kind == 12)) rfl rfl) (rw_nil ?_)
  refine cw_cond (b := (g.Kind == 12)) rfl (fun hb1 => ?_) (fun hb1 => ?_)
  ·skip
   have hF3 := ct hF2 hb1
   refine cw_seq (cw_region ?_)
   refine sQ 19 (Y_fieldAddr (B := aD b) (i := 0) (s := 0) k_fd_70_1_1_3 k_sz_3_1 rfl rfl) ?_
   refine sQ 20 (Y_load1 (B := aD b) (i := 1) (cs := [vi g.Kind, vi g.A, vi g.B]) (v := vi g.A) k_sc_3 rfl rfl (hS3.cf (i := 0) rfl) rfl) ?_
   refine sQ 21 (Y_eq (k := .i64) (a := g.A) (b := 0) rfl rfl rfl) ?_
   refine sQ 22 (Y_move (v := .bool (g.A == 0)) rfl rfl) ?_
   refine sgq 23 (B := (g.A == 0)) (v := pt (aD b) 2) rfl rfl (uT_ 22) (fun hg4 => (Y_fieldAddr (B := aD b) (i := 0) (s := 0) k_fd_70_2_2_3 k_sz_3_1 rfl rfl)) ?_
   refine sgq 24 (B := (g.A == 0)) (v := vi g.B) rfl rfl (uT_ 22) (fun hg5 => (Y_load1 (B := aD b) (i := 2) (cs := [vi g.Kind, vi g.A, vi g.B]) (v := vi g.B) k_sc_3 rfl (gv_of (v := pt (aD b) 2) hg5) (hS3.cf (i := 0) rfl) rfl)) ?_
   refine sgq 25 (B := (g.A == 0)) (v := .bool (g.B == 0)) rfl rfl (uT_ 22) (fun hg6 => (Y_eq (k := .i64) (a := g.B) (b := 0) rfl (gv_of (v := vi g.B) hg6) rfl)) ?_
   refine sQ 26 (Y_and (b := (g.A == 0)) (z := (g.B == 0)) rfl rfl rfl rfl) ?_
   refine sQ 4 (Y_assign (v := .bool ((g.A == 0) && (g.B == 0))) rfl rfl) (rw_nil (cw_ret ?_))
   obtain rfl := some_inj hF3
   exact ret1 Tryz.results113 (v1 := .bool ((g.A == 0) && (g.B == 0))) (resAt_tmp rfl) ⟨rfl, (hS3.sN [])⟩
  ·skip
   have hF4 := cf' hF2 hb1
   refine cw_seq (cw_region ?_)
   refine sQ 28 (Y_fieldAddr (B := aD b) (i := 0) (s := 0) k_fd_70_0_0_3 k_sz_3_1 rfl rfl) ?_
   refine sQ 29 (Y_load1 (B := aD b) (i := 0) (cs := [vi g.Kind, vi g.A, vi g.B]) (v := vi g.Kind) k_sc_3 rfl rfl (hS3.cf (i := 0) rfl) rfl) ?_
   obtain ⟨r_3, hc2, hF4⟩ := bind_inv hF4
   refine sc 30 rfl rfl (Yc_func (g := 131) (vs := [vi g.Kind]) k_call_131 rfl (mc rfl mn) (c_impl_isTwo g.Kind _  (hS3.inn0 [] rfl) hc2)) ?_
   rintro _ w_3 ⟨rfl, hd1⟩
   have hS4 := hS3.out00 hd1
   refine sQ 27 (Y_assign (v := .bool r_3) rfl rfl) (rw_nil ?_)
   refine cw_cond (b := r_3) rfl (fun hb2 => ?_) (fun hb2 => ?_)
   ·skip
    have hF5 := ct hF4 hb2
    refine cw_seq (cw_region ?_)
    refine sQ 31 (Y_fieldAddr (B := aD b) (i := 0) (s := 0) k_fd_70_1_1_3 k_sz_3_1 rfl rfl) ?_
    refine sQ 32 (Y_load1 (B := aD b) (i := 1) (cs := [vi g.Kind, vi g.A, vi g.B]) (v := vi g.A) k_sc_3 rfl rfl (hS4.cf (i := 0) rfl) rfl) ?_
    refine sQ 33 (Y_move (v := vi n) rfl rfl) ?_
    refine sQ 34 (Y_sub (k := .i64) (a := n) (b := 1) rfl rfl rfl) ?_
    obtain ⟨r_4, hc3, hF5⟩ := bind_inv hF5
    refine sc 35 rfl rfl (Yc_func (g := 73) (vs := [vi g.A, vi 0, vi (i64.wrap (n - 1))]) k_call_73 rfl (mc rfl (mc rfl (mc rfl mn))) (c_impl_within g.A 0 (i64.wrap (n - 1)) _  (hS4.inn0 [] rfl) hc3)) ?_
    rintro _ w_4 ⟨rfl, hd2⟩
    have hS5 := hS4.out00 hd2
    refine sQ 36 (Y_move (v := .bool r_4) rfl rfl) ?_
    refine sgq 37 (B := r_4) (v := pt (aD b) 2) rfl rfl (uT_ 36) (fun hg7 => (Y_fieldAddr (B := aD b) (i := 0) (s := 0) k_fd_70_2_2_3 k_sz_3_1 rfl rfl)) ?_
    refine sgq 38 (B := r_4) (v := vi g.B) rfl rfl (uT_ 36) (fun hg8 => (Y_load1 (B := aD b) (i := 2) (cs := [vi g.Kind, vi g.A, vi g.B]) (v := vi g.B) k_sc_3 rfl (gv_of (v := pt (aD b) 2) hg8) (hS5.cf (i := 0) rfl) rfl)) ?_
    refine sgq 39 (B := r_4) (v := vi n) rfl rfl (uT_ 36) (fun hg9 => (Y_move (v := vi n) rfl rfl)) ?_
    refine sgq 40 (B := r_4) (v := vi (i64.wrap (n - 1))) rfl rfl (uT_ 36) (fun hg10 => (Y_sub (k := .i64) (a := n) (b := 1) rfl (gv_of (v := vi n) hg10) rfl)) ?_
    obtain ⟨r_5, hc4, hF5⟩ := bind_inv hF5
    refine sgc 41 (B := r_4) (v := .bool r_5) (F := hS5.fn) rfl rfl (uT_ 36) hS5 (fun hg11 => (Yc_func (g := 73) (vs := [vi g.B, vi 0, vi (i64.wrap (n - 1))]) k_call_73 rfl (mc (gv_of (v := vi g.B) hg11) (mc rfl (mc (gv_of (v := vi (i64.wrap (n - 1))) hg11) mn))) (CV.mono (c_impl_within g.B 0 (i64.wrap (n - 1)) _  (hS5.inn0 [] rfl) (gb_inv hc4 hg11)) (by rintro _ _ ⟨rfl, h⟩; exact ⟨rfl, hS5.out00 h⟩)))) ?_
    rintro w_5 hS6
    refine sQ 42 (Y_and (b := r_4) (z := r_5) rfl rfl rfl rfl) ?_
    refine sQ 43 (Y_move (v := .bool (r_4 && r_5)) rfl rfl) ?_
    refine sgq 44 (B := (r_4 && r_5)) (v := pt (aD b) 1) rfl rfl (uT_ 43) (fun hg12 => (Y_fieldAddr (B := aD b) (i := 0) (s := 0) k_fd_70_1_1_3 k_sz_3_1 rfl rfl)) ?_
    refine sgq 45 (B := (r_4 && r_5)) (v := vi g.A) rfl rfl (uT_ 43) (fun hg13 => (Y_load1 (B := aD b) (i := 1) (cs := [vi g.Kind, vi g.A, vi g.B]) (v := vi g.A) k_sc_3 rfl (gv_of (v := pt (aD b) 1) hg13) (hS6.cf (i := 0) rfl) rfl)) ?_
    refine sgq 46 (B := (r_4 && r_5)) (v := pt (aD b) 2) rfl rfl (uT_ 43) (fun hg14 => (Y_fieldAddr (B := aD b) (i := 0) (s := 0) k_fd_70_2_2_3 k_sz_3_1 rfl rfl)) ?_
    refine sgq 47 (B := (r_4 && r_5)) (v := vi g.B) rfl rfl (uT_ 43) (fun hg15 => (Y_load1 (B := aD b) (i := 2) (cs := [vi g.Kind, vi g.A, vi g.B]) (v := vi g.B) k_sc_3 rfl (gv_of (v := pt (aD b) 2) hg15) (hS6.cf (i := 0) rfl) rfl)) ?_
    refine sgq 48 (B := (r_4 && r_5)) (v := .bool (g.A != g.B)) rfl rfl (uT_ 43) (fun hg16 => (Y_ne (k := .i64) (a := g.A) (b := g.B) rfl (gv_of (v := vi g.A) hg16) (gv_of (v := vi g.B) hg16))) ?_
    refine sQ 49 (Y_and (b := (r_4 && r_5)) (z := (g.A != g.B)) rfl rfl rfl rfl) ?_
    refine sQ 4 (Y_assign (v := .bool ((r_4 && r_5) && (g.A != g.B))) rfl rfl) (rw_nil (cw_ret ?_))
    obtain rfl := some_inj hF5
    exact ret1 Tryz.results113 (v1 := .bool ((r_4 && r_5) && (g.A != g.B))) (resAt_tmp rfl) ⟨rfl, (hS6.sN [])⟩
   ·skip
    have hF6 := cf' hF4 hb2
    refine cw_skip (cw_seq (cw_region ?_))
    refine sQ 50 (Y_fieldAddr (B := aD b) (i := 0) (s := 0) k_fd_70_1_1_3 k_sz_3_1 rfl rfl) ?_
    refine sQ 51 (Y_load1 (B := aD b) (i := 1) (cs := [vi g.Kind, vi g.A, vi g.B]) (v := vi g.A) k_sc_3 rfl rfl (hS4.cf (i := 0) rfl) rfl) ?_
    refine sQ 52 (Y_move (v := vi n) rfl rfl) ?_
    refine sQ 53 (Y_sub (k := .i64) (a := n) (b := 1) rfl rfl rfl) ?_
    obtain ⟨r_6, hc5, hF6⟩ := bind_inv hF6
    refine sc 54 rfl rfl (Yc_func (g := 73) (vs := [vi g.A, vi 0, vi (i64.wrap (n - 1))]) k_call_73 rfl (mc rfl (mc rfl (mc rfl mn))) (c_impl_within g.A 0 (i64.wrap (n - 1)) _  (hS4.inn0 [] rfl) hc5)) ?_
    rintro _ w_6 ⟨rfl, hd3⟩
    have hS7 := hS4.out00 hd3
    refine sQ 55 (Y_move (v := .bool r_6) rfl rfl) ?_
    refine sgq 56 (B := r_6) (v := pt (aD b) 2) rfl rfl (uT_ 55) (fun hg17 => (Y_fieldAddr (B := aD b) (i := 0) (s := 0) k_fd_70_2_2_3 k_sz_3_1 rfl rfl)) ?_
    refine sgq 57 (B := r_6) (v := vi g.B) rfl rfl (uT_ 55) (fun hg18 => (Y_load1 (B := aD b) (i := 2) (cs := [vi g.Kind, vi g.A, vi g.B]) (v := vi g.B) k_sc_3 rfl (gv_of (v := pt (aD b) 2) hg18) (hS7.cf (i := 0) rfl) rfl)) ?_
    refine sgq 58 (B := r_6) (v := .bool (g.B == 0)) rfl rfl (uT_ 55) (fun hg19 => (Y_eq (k := .i64) (a := g.B) (b := 0) rfl (gv_of (v := vi g.B) hg19) rfl)) ?_
    refine sQ 59 (Y_and (b := r_6) (z := (g.B == 0)) rfl rfl rfl rfl) ?_
    refine sQ 4 (Y_assign (v := .bool (r_6 && (g.B == 0))) rfl rfl) (rw_nil (cw_ret ?_))
    obtain rfl := some_inj hF6
    exact ret1 Tryz.results113 (v1 := .bool (r_6 && (g.B == 0))) (resAt_tmp rfl) ⟨rfl, (hS7.sN [])⟩

theorem c_impl_MulOmega (x : TRing) (k_ : Int)  (w0 : World)  (hS : ST w0 [] w0 [] []) {r_ : TRing} {r_1 : Bool} (hF : F_impl_MulOmega x k_ = some (r_, r_1)) :
  CV Tryz.prog 88 #[gR_ x, vi k_] w0 (fun v w' => v = .tuple #[gR_ r_, .bool r_1] ∧ ST w0 [] w' [] []) := by
 unfold F_impl_MulOmega at hF
 refine cv_of_cw 33 Tryz.func88 rfl Tryz.ntmps88 rfl ?_
 refine cw_seq (cw_region ?_)
 refine sS 2 (Ys_box (T := 63) (v := gR_ x) (cs := kR_ x) (m := 4) hS rfl rfl rfl rfl) ?_
 rintro _ w_ ⟨b, rfl, hS1⟩
 refine sS 4 (Ys_alloc (T := 63) (cs := [vi 0, vi 0, vi 0, vi 0]) (m := 4) hS1 k_zero_63 rfl rfl rfl) ?_
 rintro _ w_1 ⟨b1, rfl, hS2⟩
 refine sQ 5 (Y_assign (v := .bool false) rfl rfl) (rw_nil (cw_seq (cw_seq (cw_region ?_))))
 refine sQ 6 (Y_move (v := vi k_) rfl rfl) ?_
 obtain ⟨r_2, hc, hF⟩ := bind_inv hF
 refine sc 7 rfl rfl (Yc_func (g := 73) (vs := [vi k_, vi (-1000), vi 1000]) k_call_73 rfl (mc rfl (mc rfl (mc rfl mn))) (c_impl_within k_ (-1000) 1000 _  (hS2.inn0 [] rfl) hc)) ?_
 rintro _ w_2 ⟨rfl, hd⟩
 have hS3 := hS2.out00 hd
 refine sQ 8 (Y_not (p := r_2) rfl rfl) ?_
 refine sQ 9 (Y_move (v := .bool (!r_2)) rfl rfl) ?_
 refine sgq 10 (B := (!(!r_2))) (v := gR_ x) rfl rfl (uF_ 9) (fun hg => (Y_loadA (B := aD b) (i := 0) (cs := kR_ x) (vs := kR_ x) k_ag_63 k_sz_63_4 rfl rfl (hS3.cf (i := 0) rfl) rfl rfl)) ?_
 obtain ⟨r_3, hc1, hF⟩ := bind_inv hF
 refine sgc 11 (B := (!(!r_2))) (v := .bool r_3) (F := hS3.fn) rfl rfl (uF_ 9) hS3 (fun hg1 => (Yc_func (g := 119) (vs := [gR_ x]) k_call_119 rfl (mc (gv_of (v := gR_ x) hg1) mn) (CV.mono (c_impl_IsValidRing x _  (hS3.inn0 [] rfl) (gb_inv hc1 hg1)) (by rintro _ _ ⟨rfl, h⟩; exact ⟨rfl, hS3.out00 h⟩)))) ?_
 rintro w_3 hS4
 refine sgq 12 (B := (!(!r_2))) (v := .bool (!r_3)) rfl rfl (uF_ 9) (fun hg2 => (Y_not (p := r_3) rfl (gv_of (v := .bool r_3) hg2))) ?_
 refine sQ 13 (Y_or (b := (!r_2)) (z := (!r_3)) rfl rfl rfl rfl) (rw_nil ?_)
 refine cw_cond (b := ((!r_2) || (!r_3))) rfl (fun hb => ?_) (fun hb => ?_)
 ·skip
  have hF1 := ct hF hb
  refine cw_seq (cw_region ?_)
  refine sQ 14 (Y_buildS (zs := [vi 0, vi 0, vi 0, vi 0]) (vs := []) (cs := [vi 0, vi 0, vi 0, vi 0]) k_pl_63 k_zero_63 rfl mpn rfl) ?_
  refine s0 (Ys_store (i := 1) (s := 4) (B := aD b1) (T' := 63) (v := .agg #[vi 0, vi 0, vi 0, vi 0]) (vs := [vi 0, vi 0, vi 0, vi 0]) (k := 0) (cs' := [vi 0, vi 0, vi 0, vi 0]) hS4 k_sz_63_4 rfl rfl rfl rfl rfl rfl rfl (lB rfl) rfl rfl) ?_
  rintro _ w_4 ⟨rfl, hS5⟩
  refine sQ 5 (Y_assign (v := .bool false) rfl rfl) (rw_nil (cw_ret ?_))
  obtain ⟨rfl, rfl⟩ := pr2 (some_inj hF1)
  exact ret2 Tryz.results88 (v1 := .agg #[vi 0, vi 0, vi 0, vi 0]) (resAt_cellA (B := aD b1) (i := 0) (cs := [vi 0, vi 0, vi 0, vi 0]) (vs := [vi 0, vi 0, vi 0, vi 0]) rfl k_ag_63 k_sz_63_4 (hS5.cf (i := 1) rfl) rfl rfl) (v2 := .bool false) (resAt_tmp rfl) ⟨rfl, (hS5.sN [])⟩
 ·skip
  have hF2 := cf' hF hb
  refine cw_skip (cw_seq (cw_seq (cw_region ?_)))
  refine sQ 15 (Y_move (v := vi k_) rfl rfl) ?_
  refine sQ 16 (Y_rem (k := .i64) (a := k_) (b := 8) rfl rfl rfl (by decide)) ?_
  refine sQ 17 (Y_add (k := .i64) (a := (Int.tmod k_ 8)) (b := 8) rfl rfl rfl) ?_
  refine sQ 18 (Y_rem (k := .i64) (a := (i64.wrap ((Int.tmod k_ 8) + 8))) (b := 8) rfl rfl rfl (by decide)) ?_
  refine sQ 19 (Y_move (v := vi 0) rfl rfl) (rw_nil ?_)
  obtain ⟨hN, hF2⟩ := chk_inv hF2
  obtain ⟨z, hz, hF3⟩ := bind_inv hF2
  refine cw_block ?_
  refine cw_loop (fun k f w => ∃ (i : Nat) (A : Int) (B : Int) (C : Int) (D : Int), FF f [(2, pt (aD b) 0), (4, pt (aD b1) 0), (18, vi (Int.tmod (i64.wrap ((Int.tmod k_ 8) + 8)) 8)), (19, vi (i : Int))] ∧ ST w0 [] w [⟨aD b, 63, [vi A, vi B, vi C, vi D], 4⟩, ⟨aD b1, 63, [vi 0, vi 0, vi 0, vi 0], 4⟩] [] ∧ i + k = (Int.tmod (i64.wrap ((Int.tmod k_ 8) + 8)) 8).toNat ∧ forN F_impl_MulOmega_l1 k i (A, B, C, D) = some z) ((Int.tmod (i64.wrap ((Int.tmod k_ 8) + 8)) 8).toNat) ⟨0, x.A, x.B, x.C, x.D, (FF.cons rfl (FF.cons rfl (FF.cons rfl (FF.cons rfl FF.nil)))), (hS4.sel [0, 1] rfl rfl), Nat.zero_add _, hz⟩ ?_
  rintro k_1 f w ⟨i, A, B, C, D, hf, hS6, hik, hL⟩
  refine cw_seq (cw_region ?_)
  refine sQ 20 (Y_lt (k := .i64) (a := (i : Int)) (b := (Int.tmod (i64.wrap ((Int.tmod k_ 8) + 8)) 8)) rfl (hf.get 19 3 rfl) (hf.get 18 2 rfl)) (rw_nil (cw_seq ?_))
  refine cw_cond (b := (decide ((i : Int) < (Int.tmod (i64.wrap ((Int.tmod k_ 8) + 8)) 8)))) rfl (fun hlt => ?_) (fun hlt => ?_)
  ·skip
   have hlt1 : i < (Int.tmod (i64.wrap ((Int.tmod k_ 8) + 8)) 8).toNat := by have h := of_decide_eq_true hlt; omega
   obtain ⟨k_2, rfl⟩ : ∃ k2, k_1 = k2 + 1 := ⟨k_1 - 1, by omega⟩
   obtain ⟨y, hb1, hL1⟩ := forN_go hL
   unfold F_impl_MulOmega_l1 at hb1
   refine cw_skip (cw_seq (cw_block (cw_region ?_)))
   refine sQ 21 (Y_fieldAddr (B := aD b) (i := 0) (s := 0) k_fd_63_3_3_3 k_sz_3_1 rfl (hf.get 2 0 rfl)) ?_
   refine sQ 22 (Y_load1 (B := aD b) (i := 3) (cs := [vi A, vi B, vi C, vi D]) (v := vi D) k_sc_3 rfl rfl (hS6.cf (i := 0) rfl) rfl) ?_
   refine sQ 23 (Y_neg (k := .i64) (a := D) rfl rfl) ?_
   refine sQ 24 (Y_fieldAddr (B := aD b) (i := 0) (s := 0) k_fd_63_0_0_3 k_sz_3_1 rfl (hf.get 2 0 rfl)) ?_
   refine sQ 25 (Y_load1 (B := aD b) (i := 0) (cs := [vi A, vi B, vi C, vi D]) (v := vi A) k_sc_3 rfl rfl (hS6.cf (i := 0) rfl) rfl) ?_
   refine sQ 26 (Y_fieldAddr (B := aD b) (i := 0) (s := 0) k_fd_63_1_1_3 k_sz_3_1 rfl (hf.get 2 0 rfl)) ?_
   refine sQ 27 (Y_load1 (B := aD b) (i := 1) (cs := [vi A, vi B, vi C, vi D]) (v := vi B) k_sc_3 rfl rfl (hS6.cf (i := 0) rfl) rfl) ?_
   refine sQ 28 (Y_fieldAddr (B := aD b) (i := 0) (s := 0) k_fd_63_2_2_3 k_sz_3_1 rfl (hf.get 2 0 rfl)) ?_
   refine sQ 29 (Y_load1 (B := aD b) (i := 2) (cs := [vi A, vi B, vi C, vi D]) (v := vi C) k_sc_3 rfl rfl (hS6.cf (i := 0) rfl) rfl) ?_
   refine sQ 30 (Y_buildS (zs := [vi 0, vi 0, vi 0, vi 0]) (vs := [(0, vi (i64.wrap (-D))), (1, vi A), (2, vi B), (3, vi C)]) (cs := [vi (i64.wrap (-D)), vi A, vi B, vi C]) k_pl_63 k_zero_63 rfl (mpc rfl (mpc rfl (mpc rfl (mpc rfl mpn)))) rfl) ?_
   refine s0 (Ys_store (i := 0) (s := 4) (B := aD b) (T' := 63) (v := .agg #[vi (i64.wrap (-D)), vi A, vi B, vi C]) (vs := [vi (i64.wrap (-D)), vi A, vi B, vi C]) (k := 0) (cs' := [vi (i64.wrap (-D)), vi A, vi B, vi C]) hS6 k_sz_63_4 rfl (hf.get 2 0 rfl) rfl rfl rfl rfl rfl (lB rfl) rfl rfl) ?_
   rintro _ w_5 ⟨rfl, hS7⟩
   refine rw_nil (cw_region ?_)
   refine sQ 31 (Y_add (k := .i64) (a := (i : Int)) (b := 1) rfl (hf.get 19 3 rfl) rfl) ?_
   refine sQ 19 (Y_move (v := vi (i64.wrap ((i : Int) + 1))) rfl rfl) (rw_nil ?_)
   obtain rfl := some_inj hb1
   exact ⟨k_2, Nat.lt_succ_self _, i + 1, (i64.wrap (-D)), A, B, C, (FF.cons (hf.get 2 0 rfl) (FF.cons (hf.get 4 1 rfl) (FF.cons (hf.get 18 2 rfl) (FF.cons (congrArg (Value.int .i64) (wr_succ hlt1 hN)) FF.nil)))), (hS7.sel [0, 1] rfl rfl), (by omega), hL1⟩
  ·skip
   obtain rfl : k_1 = 0 := by have h := of_decide_eq_false hlt; omega
   refine cw_exit rfl ?_
   obtain rfl := some_inj hL
   refine cw_seq (cw_region ?_)
   refine sQ 32 (Y_loadA (B := aD b) (i := 0) (cs := [vi A, vi B, vi C, vi D]) (vs := [vi A, vi B, vi C, vi D]) k_ag_63 k_sz_63_4 rfl (hf.get 2 0 rfl) (hS6.cf (i := 0) rfl) rfl rfl) ?_
   refine s0 (Ys_store (i := 1) (s := 4) (B := aD b1) (T' := 63) (v := .agg #[vi A, vi B, vi C, vi D]) (vs := [vi A, vi B, vi C, vi D]) (k := 0) (cs' := [vi A, vi B, vi C, vi D]) hS6 k_sz_63_4 rfl (hf.get 4 1 rfl) rfl rfl rfl rfl rfl (lB rfl) rfl rfl) ?_
   rintro _ w_6 ⟨rfl, hS8⟩
   refine sQ 5 (Y_assign (v := .bool true) rfl rfl) (rw_nil (cw_ret ?_))
   obtain ⟨rfl, rfl⟩ := pr2 (some_inj hF3)
   exact ret2 Tryz.results88 (v1 := .agg #[vi A, vi B, vi C, vi D]) (resAt_cellA (B := aD b1) (i := 0) (cs := [vi A, vi B, vi C, vi D]) (vs := [vi A, vi B, vi C, vi D]) (hf.get 4 1 rfl) k_ag_63 k_sz_63_4 (hS8.cf (i := 1) rfl) rfl rfl) (v2 := .bool true) (resAt_tmp rfl) ⟨rfl, (hS8.sN [])⟩

theorem c_impl_phase (k_ : Int)  (w0 : World)  (hS : ST w0 [] w0 [] []) {r_ : TDyadic} (hF : F_impl_phase k_ = some r_) :
  CV Tryz.prog 42 #[vi k_] w0 (fun v w' => v = (gD_ r_) ∧ ST w0 [] w' [] []) := by
 unfold F_impl_phase at hF
 refine cv_of_cw 13 Tryz.func42 rfl Tryz.ntmps42 rfl ?_
 refine cw_seq (cw_region ?_)
 refine sS 2 (Ys_alloc (T := 65) (cs := kZ_) (m := 5) hS k_zero_65 rfl rfl rfl) ?_
 rintro _ w_ ⟨b, rfl, hS1⟩
 refine rw_nil (cw_seq (cw_region ?_))
 refine sQ 6 (Y_buildS (zs := [vi 0, vi 0, vi 0, vi 0]) (vs := [(0, vi 1)]) (cs := [vi 1, vi 0, vi 0, vi 0]) k_pl_63 k_zero_63 rfl (mpc rfl mpn) rfl) ?_
 refine sQ 7 (Y_move (v := vi k_) rfl rfl) ?_
 obtain ⟨⟨r_1, r_2⟩, hc, hF⟩ := bind_inv hF
 refine sc 8 rfl rfl (Yc_func (g := 88) (vs := [.agg #[vi 1, vi 0, vi 0, vi 0], vi k_]) k_call_88 rfl (mc rfl (mc rfl mn)) (c_impl_MulOmega (TRing.mk 1 0 0 0) k_ _  (hS1.inn0 [] rfl) hc)) ?_
 rintro _ w_1 ⟨rfl, hd⟩
 have hS2 := hS1.out00 hd
 refine sQ 5 (Y_move (v := .tuple #[gR_ r_1, .bool r_2]) rfl rfl) ?_
 refine sQ 9 (Y_extract (v := gR_ r_1) rfl rfl rfl) ?_
 refine sQ 10 (Y_extract (v := .bool r_2) rfl rfl rfl) ?_
 refine sS 3 (Ys_alloc (T := 63) (cs := [vi 0, vi 0, vi 0, vi 0]) (m := 4) hS2 k_zero_63 rfl rfl rfl) ?_
 rintro _ w_2 ⟨b1, rfl, hS3⟩
 refine s0 (Ys_store (i := 1) (s := 4) (B := aD b1) (T' := 63) (v := gR_ r_1) (vs := kR_ r_1) (k := 0) (cs' := kR_ r_1) hS3 k_sz_63_4 rfl rfl rfl rfl rfl rfl rfl (lB rfl) rfl rfl) ?_
 rintro _ w_3 ⟨rfl, hS4⟩
 refine sQ 4 (Y_assign (v := .bool r_2) rfl rfl) (rw_nil (cw_seq (cw_region ?_)))
 refine sQ 11 (Y_loadA (B := aD b1) (i := 0) (cs := kR_ r_1) (vs := kR_ r_1) k_ag_63 k_sz_63_4 rfl rfl (hS4.cf (i := 1) rfl) rfl rfl) ?_
 refine sQ 12 (Y_buildS (zs := kZ_) (vs := [(0, gR_ r_1)]) (cs := [vi r_1.A, vi r_1.B, vi r_1.C, vi r_1.D, vi 0]) k_pl_65 k_zero_65 rfl (mpc rfl mpn) rfl) ?_
 refine s0 (Ys_store (i := 0) (s := 5) (B := aD b) (T' := 65) (v := .agg #[vi r_1.A, vi r_1.B, vi r_1.C, vi r_1.D, vi 0]) (vs := [vi r_1.A, vi r_1.B, vi r_1.C, vi r_1.D, vi 0]) (k := 0) (cs' := [vi r_1.A, vi r_1.B, vi r_1.C, vi r_1.D, vi 0]) hS4 k_sz_65_5 rfl rfl rfl rfl rfl rfl rfl (lB rfl) rfl rfl) ?_
 rintro _ w_4 ⟨rfl, hS5⟩
 refine rw_nil (cw_ret ?_)
 obtain rfl := some_inj hF
 exact ret1 Tryz.results42 (v1 := .agg #[vi r_1.A, vi r_1.B, vi r_1.C, vi r_1.D, vi 0]) (resAt_cellA (B := aD b) (i := 0) (cs := [vi r_1.A, vi r_1.B, vi r_1.C, vi r_1.D, vi 0]) (vs := [vi r_1.A, vi r_1.B, vi r_1.C, vi r_1.D, vi 0]) rfl k_ag_65 k_sz_65_5 (hS5.cf (i := 0) rfl) rfl rfl) ⟨rfl, (hS5.sN [])⟩

theorem c_impl_bitOf (n : Int) (state : Int) (q : Int)  (w0 : World)  (hS : ST w0 [] w0 [] []) {r_ : Int} (hF : F_impl_bitOf n state q = some r_) :
  CV Tryz.prog 133 #[vi n, vi state, vi q] w0 (fun v w' => v = vi r_ ∧ ST w0 [] w' [] []) := by
 unfold F_impl_bitOf at hF
 refine cv_of_cw 14 Tryz.func133 rfl Tryz.ntmps133 rfl ?_
 refine cw_seq (cw_region ?_)
 refine sQ 6 (Y_assign (v := vi 0) rfl rfl) (rw_nil (cw_seq (cw_region ?_)))
 refine sQ 7 (Y_move (v := vi state) rfl rfl) ?_
 refine sQ 8 (Y_move (v := vi n) rfl rfl) ?_
 refine sQ 9 (Y_sub (k := .i64) (a := n) (b := 1) rfl rfl rfl) ?_
 refine sQ 10 (Y_move (v := vi q) rfl rfl) ?_
 refine sQ 11 (Y_sub (k := .i64) (a := (i64.wrap (n - 1))) (b := q) rfl rfl rfl) ?_
 obtain ⟨hsh, hF⟩ := chk_inv hF
 refine sQ 12 (Y_shr (k := .i64) (a := state) (k' := .i64) (b := (i64.wrap ((i64.wrap (n - 1)) - q))) rfl rfl rfl hsh) ?_
 refine sQ 13 (Y_band (k := .i64) (a := (shrK .i64 state (i64.wrap ((i64.wrap (n - 1)) - q)))) (b := 1) rfl rfl rfl) ?_
 refine sQ 6 (Y_assign (v := vi (bits .and .i64 (shrK .i64 state (i64.wrap ((i64.wrap (n - 1)) - q))) 1)) rfl rfl) (rw_nil (cw_ret ?_))
 obtain rfl := some_inj hF
 exact ret1 Tryz.results133 (v1 := vi (bits .and .i64 (shrK .i64 state (i64.wrap ((i64.wrap (n - 1)) - q))) 1)) (resAt_tmp rfl) ⟨rfl, (hS.sN [])⟩

theorem c_impl_flipped (n : Int) (state : Int) (q : Int)  (w0 : World)  (hS : ST w0 [] w0 [] []) {r_ : Int} (hF : F_impl_flipped n state q = some r_) :
  CV Tryz.prog 134 #[vi n, vi state, vi q] w0 (fun v w' => v = vi r_ ∧ ST w0 [] w' [] []) := by
 unfold F_impl_flipped at hF
 refine cv_of_cw 14 Tryz.func134 rfl Tryz.ntmps134 rfl ?_
 refine cw_seq (cw_region ?_)
 refine sQ 6 (Y_assign (v := vi 0) rfl rfl) (rw_nil (cw_seq (cw_region ?_)))
 refine sQ 7 (Y_move (v := vi state) rfl rfl) ?_
 refine sQ 8 (Y_move (v := vi n) rfl rfl) ?_
 refine sQ 9 (Y_sub (k := .i64) (a := n) (b := 1) rfl rfl rfl) ?_
 refine sQ 10 (Y_move (v := vi q) rfl rfl) ?_
 refine sQ 11 (Y_sub (k := .i64) (a := (i64.wrap (n - 1))) (b := q) rfl rfl rfl) ?_
 obtain ⟨hsh, hF⟩ := chk_inv hF
 refine sQ 12 (Y_shl (k := .i64) (a := 1) (k' := .i64) (b := (i64.wrap ((i64.wrap (n - 1)) - q))) rfl rfl rfl hsh) ?_
 refine sQ 13 (Y_bxor (k := .i64) (a := state) (b := (shlK .i64 1 (i64.wrap ((i64.wrap (n - 1)) - q)))) rfl rfl rfl) ?_
 refine sQ 6 (Y_assign (v := vi (bits .xor .i64 state (shlK .i64 1 (i64.wrap ((i64.wrap (n - 1)) - q))))) rfl rfl) (rw_nil (cw_ret ?_))
 obtain rfl := some_inj hF
 exact ret1 Tryz.results134 (v1 := vi (bits .xor .i64 state (shlK .i64 1 (i64.wrap ((i64.wrap (n - 1)) - q))))) (resAt_tmp rfl) ⟨rfl, (hS.sN [])⟩

theorem c_impl_comesFrom (n : Int) (g : TGate) (state : Int)  (w0 : World)  (hS : ST w0 [] w0 [] []) {r_ : Int} (hF : F_impl_comesFrom n g state = some r_) :
  CV Tryz.prog 132 #[vi n, .agg #[vi g.Kind, vi g.A, vi g.B], vi state] w0 (fun v w' => v = vi r_ ∧ ST w0 [] w' [] []) := by
 unfold F_impl_comesFrom at hF
 refine cv_of_cw 51 Tryz.func132 rfl Tryz.ntmps132 rfl ?_
 refine cw_seq (cw_region ?_)
 refine sS 4 (Ys_box (T := 70) (v := .agg #[vi g.Kind, vi g.A, vi g.B]) (cs := [vi g.Kind, vi g.A, vi g.B]) (m := 3) hS rfl rfl rfl rfl) ?_
 rintro _ w_ ⟨b, rfl, hS1⟩
 refine sQ 6 (Y_assign (v := vi 0) rfl rfl) (rw_nil (cw_seq ?_))
 obtain ⟨r_1, hc, hF⟩ := bind_inv hF
 obtain ⟨r_2, hc1, hF⟩ := bind_inv hF
 refine ra_start (hS1.se [0]).fn (by kernel_rfl) ?_
 have hS4 := hS1.drew
 refine rq 0 9 (v := vi n) rfl (hS4.se [0]) (fun w' hw' => (Y_move (v := vi n) rfl rfl)) ?_
 refine rq 1 10 (v := vi state) rfl (hS4.se [0]) (fun w' hw' => (Y_move (v := vi state) rfl rfl)) ?_
 refine rq 2 11 (v := pt (aD b) 1) rfl (hS4.se [0]) (fun w' hw' => (Y_fieldAddr (B := aD b) (i := 0) (s := 0) k_fd_70_1_1_3 k_sz_3_1 rfl rfl)) ?_
 refine rq 3 12 (v := vi g.A) rfl (hS4.se [0]) (fun w' hw' => (Y_load1 (B := aD b) (i := 1) (cs := [vi g.Kind, vi g.A, vi g.B]) (v := vi g.A) k_sc_3 rfl rfl (ST.cf hw' (i := 0) rfl) rfl)) ?_
 refine rq 5 14 (v := vi n) rfl (hS4.se [0]) (fun w' hw' => (Y_move (v := vi n) rfl rfl)) ?_
 refine rq 6 15 (v := vi state) rfl (hS4.se [0]) (fun w' hw' => (Y_move (v := vi state) rfl rfl)) ?_
 refine rq 7 16 (v := pt (aD b) 2) rfl (hS4.se [0]) (fun w' hw' => (Y_fieldAddr (B := aD b) (i := 0) (s := 0) k_fd_70_2_2_3 k_sz_3_1 rfl rfl)) ?_
 refine rq 8 17 (v := vi g.B) rfl (hS4.se [0]) (fun w' hw' => (Y_load1 (B := aD b) (i := 2) (cs := [vi g.Kind, vi g.A, vi g.B]) (v := vi g.B) k_sc_3 rfl rfl (ST.cf hw' (i := 0) rfl) rfl)) ?_
 refine rA [4] ?_
 refine ra_c 13 (i := 4) rfl rfl rfl (Yc_func (g := 133) (vs := [vi n, vi state, vi g.A]) k_call_133 rfl (mc rfl (mc rfl (mc rfl mn))) (c_impl_bitOf n state g.A _  (hS4.inn0 [] rfl) hc)) ?_ ?_
 ·rintro _ w_1 ⟨rfl, hd⟩
  have hS5 := hS4.out00 hd
  refine ⟨(hS5.se [0]), ?_⟩
  refine rA [9] ?_
  refine ra_c 18 (i := 9) rfl rfl rfl (Yc_func (g := 133) (vs := [vi n, vi state, vi g.B]) k_call_133 rfl (mc rfl (mc rfl (mc rfl mn))) (c_impl_bitOf n state g.B _  (hS5.inn0 [] rfl) hc1)) ?_ ?_
  ·rintro _ w_2 ⟨rfl, hd1⟩
   have hS6 := hS5.out00 hd1
   refine ⟨(hS6.se [0]), ?_⟩
   refine rq 10 7 (v := vi r_1) rfl (hS6.se [0]) (fun w' hw' => (Y_assign (v := vi r_1) rfl rfl)) ?_
   refine rq 11 8 (v := vi r_2) rfl (hS6.se [0]) (fun w' hw' => (Y_assign (v := vi r_2) rfl rfl)) ?_
   refine ra_done (by kernel_rfl) ?_
   refine cw_seq (cw_block (cw_seq (cw_region ?_)))
   refine sQ 20 (Y_fieldAddr (B := aD b) (i := 0) (s := 0) k_fd_70_0_0_3 k_sz_3_1 rfl rfl) ?_
   refine sQ 21 (Y_load1 (B := aD b) (i := 0) (cs := [vi g.Kind, vi g.A, vi g.B]) (v := vi g.Kind) k_sc_3 rfl rfl (hS6.cf (i := 0) rfl) rfl) ?_
   refine sQ 22 (Y_eq (k := .i64) (a := g.Kind) (b := 9) rfl rfl rfl) ?_
   refine sQ 23 (Y_move (v := .bool (g.Kind == 9)) rfl rfl) ?_
   refine sgq 24 (B := (g.Kind == 9)) (v := vi r_1) rfl rfl (uT_ 23) (fun hg => (Y_move (v := vi r_1) rfl rfl)) ?_
   refine sgq 25 (B := (g.Kind == 9)) (v := .bool (r_1 == 1)) rfl rfl (uT_ 23) (fun hg1 => (Y_eq (k := .i64) (a := r_1) (b := 1) rfl (gv_of (v := vi r_1) hg1) rfl)) ?_
   refine sQ 26 (Y_and (b := (g.Kind == 9)) (z := (r_1 == 1)) rfl rfl rfl rfl) ?_
   refine sQ 19 (Y_assign (v := .bool ((g.Kind == 9) && (r_1 == 1))) rfl rfl) (rw_nil ?_)
   refine cw_cond (b := ((g.Kind == 9) && (r_1 == 1))) rfl (fun hb => ?_) (fun hb => ?_)
   ·skip
    have hF1 := ct hF hb
    refine cw_seq (cw_region ?_)
    refine sQ 27 (Y_move (v := vi n) rfl rfl) ?_
    refine sQ 28 (Y_move (v := vi state) rfl rfl) ?_
    refine sQ 29 (Y_fieldAddr (B := aD b) (i := 0) (s := 0) k_fd_70_2_2_3 k_sz_3_1 rfl rfl) ?_
    refine sQ 30 (Y_load1 (B := aD b) (i := 2) (cs := [vi g.Kind, vi g.A, vi g.B]) (v := vi g.B) k_sc_3 rfl rfl (hS6.cf (i := 0) rfl) rfl) ?_
    obtain ⟨r_3, hc2, hF1⟩ := bind_inv hF1
    refine sc 31 rfl rfl (Yc_func (g := 134) (vs := [vi n, vi state, vi g.B]) k_call_134 rfl (mc rfl (mc rfl (mc rfl mn))) (c_impl_flipped n state g.B _  (hS6.inn0 [] rfl) hc2)) ?_
    rintro _ w_3 ⟨rfl, hd2⟩
    have hS7 := hS6.out00 hd2
    refine sQ 6 (Y_assign (v := vi r_3) rfl rfl) (rw_nil (cw_ret ?_))
    obtain rfl := some_inj hF1
    exact ret1 Tryz.results132 (v1 := vi r_3) (resAt_tmp rfl) ⟨rfl, (hS7.sN [])⟩
   ·skip
    have hF2 := cf' hF hb
    refine cw_seq (cw_region ?_)
    refine sQ 33 (Y_fieldAddr (B := aD b) (i := 0) (s := 0) k_fd_70_0_0_3 k_sz_3_1 rfl rfl) ?_
    refine sQ 34 (Y_load1 (B := aD b) (i := 0) (cs := [vi g.Kind, vi g.A, vi g.B]) (v := vi g.Kind) k_sc_3 rfl rfl (hS6.cf (i := 0) rfl) rfl) ?_
    refine sQ 35 (Y_eq (k := .i64) (a := g.Kind) (b := 11) rfl rfl rfl) ?_
    refine sQ 36 (Y_move (v := .bool (g.Kind == 11)) rfl rfl) ?_
    refine sgq 37 (B := (g.Kind == 11)) (v := vi r_1) rfl rfl (uT_ 36) (fun hg2 => (Y_move (v := vi r_1) rfl rfl)) ?_
    refine sgq 38 (B := (g.Kind == 11)) (v := vi r_2) rfl rfl (uT_ 36) (fun hg3 => (Y_move (v := vi r_2) rfl rfl)) ?_
    refine sgq 39 (B := (g.Kind == 11)) (v := .bool (r_1 != r_2)) rfl rfl (uT_ 36) (fun hg4 => (Y_ne (k := .i64) (a := r_1) (b := r_2) rfl (gv_of (v := vi r_1) hg4) (gv_of (v := vi r_2) hg4))) ?_
    refine sQ 40 (Y_and (b := (g.Kind == 11)) (z := (r_1 != r_2)) rfl rfl rfl rfl) ?_
    refine sQ 32 (Y_assign (v := .bool ((g.Kind == 11) && (r_1 != r_2))) rfl rfl) (rw_nil ?_)
    refine cw_cond (b := ((g.Kind == 11) && (r_1 != r_2))) rfl (fun hb1 => ?_) (fun hb1 => ?_)
    ·skip
     have hF3 := ct hF2 hb1
     refine cw_seq ?_
     obtain ⟨r_4, hc3, hF3⟩ := bind_inv hF3
     obtain ⟨r_5, hc4, hF3⟩ := bind_inv hF3
     refine ra_start (hS6.se [0]).fn (by kernel_rfl) ?_
     have hS10 := hS6.drew
     refine rq 0 41 (v := vi n) rfl (hS10.se [0]) (fun w' hw' => (Y_move (v := vi n) rfl rfl)) ?_
     refine rq 1 42 (v := vi n) rfl (hS10.se [0]) (fun w' hw' => (Y_move (v := vi n) rfl rfl)) ?_
     refine rq 2 43 (v := vi state) rfl (hS10.se [0]) (fun w' hw' => (Y_move (v := vi state) rfl rfl)) ?_
     refine rq 3 44 (v := pt (aD b) 1) rfl (hS10.se [0]) (fun w' hw' => (Y_fieldAddr (B := aD b) (i := 0) (s := 0) k_fd_70_1_1_3 k_sz_3_1 rfl rfl)) ?_
     refine rq 4 45 (v := vi g.A) rfl (hS10.se [0]) (fun w' hw' => (Y_load1 (B := aD b) (i := 1) (cs := [vi g.Kind, vi g.A, vi g.B]) (v := vi g.A) k_sc_3 rfl rfl (ST.cf hw' (i := 0) rfl) rfl)) ?_
     refine rq 6 47 (v := pt (aD b) 2) rfl (hS10.se [0]) (fun w' hw' => (Y_fieldAddr (B := aD b) (i := 0) (s := 0) k_fd_70_2_2_3 k_sz_3_1 rfl rfl)) ?_
     refine rq 7 48 (v := vi g.B) rfl (hS10.se [0]) (fun w' hw' => (Y_load1 (B := aD b) (i := 2) (cs := [vi g.Kind, vi g.A, vi g.B]) (v := vi g.B) k_sc_3 rfl rfl (ST.cf hw' (i := 0) rfl) rfl)) ?_
     refine rA [5] ?_
     refine ra_c 46 (i := 5) rfl rfl rfl (Yc_func (g := 134) (vs := [vi n, vi state, vi g.A]) k_call_134 rfl (mc rfl (mc rfl (mc rfl mn))) (c_impl_flipped n state g.A _  (hS10.inn0 [] rfl) hc3)) ?_ ?_
     ·rintro _ w_4 ⟨rfl, hd3⟩
      have hS11 := hS10.out00 hd3
      refine ⟨(hS11.se [0]), ?_⟩
      refine rA [8] ?_
      refine ra_c 49 (i := 8) rfl rfl rfl (Yc_func (g := 134) (vs := [vi n, vi r_4, vi g.B]) k_call_134 rfl (mc rfl (mc rfl (mc rfl mn))) (c_impl_flipped n r_4 g.B _  (hS11.inn0 [] rfl) hc4)) ?_ ?_
      ·rintro _ w_5 ⟨rfl, hd4⟩
       have hS12 := hS11.out00 hd4
       refine ⟨(hS12.se [0]), ?_⟩
       refine rq 9 6 (v := vi r_5) rfl (hS12.se [0]) (fun w' hw' => (Y_assign (v := vi r_5) rfl rfl)) ?_
       refine ra_done (by kernel_rfl) ?_
       refine cw_ret ?_
       obtain rfl := some_inj hF3
       exact ret1 Tryz.results132 (v1 := vi r_5) (resAt_tmp rfl) ⟨rfl, (hS12.sN [])⟩
      exact allR_nil
     exact allR_nil
    ·skip
     have hF4 := cf' hF2 hb1
     refine cw_skip (cw_seq (cw_region ?_))
     refine sQ 50 (Y_move (v := vi state) rfl rfl) ?_
     refine sQ 6 (Y_assign (v := vi state) rfl rfl) (rw_nil (cw_ret ?_))
     obtain rfl := some_inj hF4
     exact ret1 Tryz.results132 (v1 := vi state) (resAt_tmp rfl) ⟨rfl, (hS6.sN [])⟩
  exact allR_nil
 exact allR_nil

theorem c_impl_entry (kind : Int) (i : Int) (j : Int)  (w0 : World)  (hS : ST w0 [] w0 [] []) {r_ : TDyadic} (hF : F_impl_entry kind i j = some r_) :
  CV Tryz.prog 135 #[vi kind, vi i, vi j] w0 (fun v w' => v = (gD_ r_) ∧ ST w0 [] w' [] []) := by
 unfold F_impl_entry at hF
 refine cv_of_cw 67 Tryz.func135 rfl Tryz.ntmps135 rfl ?_
 refine cw_seq (cw_region ?_)
 refine sS 6 (Ys_alloc (T := 65) (cs := kZ_) (m := 5) hS k_zero_65 rfl rfl rfl) ?_
 rintro _ w_ ⟨b, rfl, hS1⟩
 refine rw_nil (cw_seq (cw_region ?_))
 refine sQ 9 (Y_buildS (zs := [vi 0, vi 0, vi 0, vi 0]) (vs := [(0, vi 1)]) (cs := [vi 1, vi 0, vi 0, vi 0]) k_pl_63 k_zero_63 rfl (mpc rfl mpn) rfl) ?_
 refine sQ 10 (Y_buildS (zs := kZ_) (vs := [(0, .agg #[vi 1, vi 0, vi 0, vi 0]), (1, vi 1)]) (cs := [vi 1, vi 0, vi 0, vi 0, vi 1]) k_pl_65 k_zero_65 rfl (mpc rfl (mpc rfl mpn)) rfl) ?_
 refine sS 7 (Ys_alloc (T := 65) (cs := kZ_) (m := 5) hS1 k_zero_65 rfl rfl rfl) ?_
 rintro _ w_1 ⟨b1, rfl, hS2⟩
 refine s0 (Ys_store (i := 1) (s := 5) (B := aD b1) (T' := 65) (v := .agg #[vi 1, vi 0, vi 0, vi 0, vi 1]) (vs := [vi 1, vi 0, vi 0, vi 0, vi 1]) (k := 0) (cs' := [vi 1, vi 0, vi 0, vi 0, vi 1]) hS2 k_sz_65_5 rfl rfl rfl rfl rfl rfl rfl (lB rfl) rfl rfl) ?_
 rintro _ w_2 ⟨rfl, hS3⟩
 refine rw_nil (cw_seq (cw_region ?_))
 refine sS 11 (Ys_makeMap (T := 163) hS3 rfl) ?_
 rintro _ w_3 ⟨g, rfl, hS4⟩
 have hS5 := hS4.st
 refine s0 (Ys_insert (kd := .i64) (ed := .i64) (a := 4) (b := 4) (es := #[]) hS4 k_map_163_3_3 k_int_3_i64 rfl rfl rfl rfl rfl) ?_
 rintro _ w_4 ⟨rfl, hS6⟩
 have hS7 := hS6.st
 refine s0 (Ys_insert (kd := .i64) (ed := .i64) (a := 5) (b := 2) (es := (#[].push ⟨vi 4, vi 4, 0⟩)) hS6 k_map_163_3_3 k_int_3_i64 rfl rfl rfl rfl rfl) ?_
 rintro _ w_5 ⟨rfl, hS8⟩
 have hS9 := hS8.st
 refine s0 (Ys_insert (kd := .i64) (ed := .i64) (a := 6) (b := 6) (es := ((#[].push ⟨vi 4, vi 4, 0⟩).push ⟨vi 5, vi 2, 1⟩)) hS8 k_map_163_3_3 k_int_3_i64 rfl rfl rfl rfl rfl) ?_
 rintro _ w_6 ⟨rfl, hS10⟩
 have hS11 := hS10.st
 refine s0 (Ys_insert (kd := .i64) (ed := .i64) (a := 7) (b := 1) (es := (((#[].push ⟨vi 4, vi 4, 0⟩).push ⟨vi 5, vi 2, 1⟩).push ⟨vi 6, vi 6, 2⟩)) hS10 k_map_163_3_3 k_int_3_i64 rfl rfl rfl rfl rfl) ?_
 rintro _ w_7 ⟨rfl, hS12⟩
 have hS13 := hS12.st
 refine s0 (Ys_insert (kd := .i64) (ed := .i64) (a := 8) (b := 7) (es := ((((#[].push ⟨vi 4, vi 4, 0⟩).push ⟨vi 5, vi 2, 1⟩).push ⟨vi 6, vi 6, 2⟩).push ⟨vi 7, vi 1, 3⟩)) hS12 k_map_163_3_3 k_int_3_i64 rfl rfl rfl rfl rfl) ?_
 rintro _ w_8 ⟨rfl, hS14⟩
 have hS15 := hS14.st
 refine sQ 12 (Y_move (v := .map (some g)) rfl rfl) ?_
 refine sQ 8 (Y_assign (v := .map (some g)) rfl rfl) (rw_nil (cw_seq (cw_block (cw_seq (cw_region ?_)))))
 refine sQ 14 (Y_move (v := vi kind) rfl rfl) ?_
 refine sQ 15 (Y_eq (k := .i64) (a := kind) (b := 1) rfl rfl rfl) ?_
 refine sQ 13 (Y_assign (v := .bool (kind == 1)) rfl rfl) (rw_nil ?_)
 refine cw_cond (b := (kind == 1)) rfl (fun hb => ?_) (fun hb => ?_)
 ·skip
  have hF1 := ct hF hb
  refine cw_seq ?_
  obtain ⟨z, hz, hF2⟩ := bind_inv hF1
  refine cw_mid (fun f w => ∃ (A : Int), A = z ∧ FF f [(6, pt (aD b) 0), (7, pt (aD b1) 0)] ∧ ST w0 [] w [⟨aD b, 65, kZ_, 5⟩, ⟨aD b1, 65, [vi A, vi 0, vi 0, vi 0, vi 1], 5⟩] []) ?_ ?_
  ·skip
   refine cw_seq (cw_region ?_)
   refine sQ 16 (Y_move (v := vi i) rfl rfl) ?_
   refine sQ 17 (Y_eq (k := .i64) (a := i) (b := 1) rfl rfl rfl) ?_
   refine sQ 18 (Y_move (v := .bool (i == 1)) rfl rfl) ?_
   refine sgq 19 (B := (i == 1)) (v := vi j) rfl rfl (uT_ 18) (fun hg => (Y_move (v := vi j) rfl rfl)) ?_
   refine sgq 20 (B := (i == 1)) (v := .bool (j == 1)) rfl rfl (uT_ 18) (fun hg1 => (Y_eq (k := .i64) (a := j) (b := 1) rfl (gv_of (v := vi j) hg1) rfl)) ?_
   refine sQ 21 (Y_and (b := (i == 1)) (z := (j == 1)) rfl rfl rfl rfl) (rw_nil ?_)
   refine cw_cond (b := ((i == 1) && (j == 1))) rfl (fun hb1 => ?_) (fun hb1 => ?_)
   ·skip
    have hF3 := ct hz hb1
    refine cw_region ?_
    refine sQ 22 (Y_fieldAddr (B := aD b1) (i := 0) (s := 3) k_fd_65_0_0_63 k_sz_63_4 rfl rfl) ?_
    refine sQ 23 (Y_fieldAddr (B := aD b1) (i := 0) (s := 0) k_fd_63_0_0_3 k_sz_3_1 rfl rfl) ?_
    refine s0 (Ys_store (i := 1) (s := 1) (B := aD b1) (T' := 65) (v := vi (-1)) (vs := [vi (-1)]) (k := 0) (cs' := [vi (-1), vi 0, vi 0, vi 0, vi 1]) hS15 k_sz_3_1 rfl rfl rfl rfl rfl rfl rfl (lB rfl) rfl rfl) ?_
    rintro _ w_9 ⟨rfl, hS17⟩
    refine rw_nil ?_
    exact ⟨(-1), (some_inj hF3), (FF.cons rfl (FF.cons rfl FF.nil)), (hS17.sel [0, 1] rfl rfl)⟩
   ·skip
    have hF4 := cf' hz hb1
    refine cw_skip ?_
    exact ⟨1, (some_inj hF4), (FF.cons rfl (FF.cons rfl FF.nil)), (hS15.sel [0, 1] rfl rfl)⟩
  rintro f w ⟨A, rfl, hf, hS16⟩
  refine cw_seq (cw_region ?_)
  refine sQ 24 (Y_loadA (B := aD b1) (i := 0) (cs := [vi A, vi 0, vi 0, vi 0, vi 1]) (vs := [vi A, vi 0, vi 0, vi 0, vi 1]) k_ag_65 k_sz_65_5 rfl (hf.get 7 1 rfl) (hS16.cf (i := 1) rfl) rfl rfl) ?_
  refine s0 (Ys_store (i := 0) (s := 5) (B := aD b) (T' := 65) (v := .agg #[vi A, vi 0, vi 0, vi 0, vi 1]) (vs := [vi A, vi 0, vi 0, vi 0, vi 1]) (k := 0) (cs' := [vi A, vi 0, vi 0, vi 0, vi 1]) hS16 k_sz_65_5 rfl (hf.get 6 0 rfl) rfl rfl rfl rfl rfl (lB rfl) rfl rfl) ?_
  rintro _ w_10 ⟨rfl, hS18⟩
  refine rw_nil (cw_ret ?_)
  obtain rfl := some_inj hF2
  exact ret1 Tryz.results135 (v1 := .agg #[vi A, vi 0, vi 0, vi 0, vi 1]) (resAt_cellA (B := aD b) (i := 0) (cs := [vi A, vi 0, vi 0, vi 0, vi 1]) (vs := [vi A, vi 0, vi 0, vi 0, vi 1]) (hf.get 6 0 rfl) k_ag_65 k_sz_65_5 (hS18.cf (i := 0) rfl) rfl rfl) ⟨rfl, (hS18.sN [])⟩
 ·skip
  have hF5 := cf' hF hb
  refine cw_seq (cw_region ?_)
  refine sQ 26 (Y_move (v := vi kind) rfl rfl) ?_
  refine sQ 27 (Y_eq (k := .i64) (a := kind) (b := 2) rfl rfl rfl) ?_
  refine sQ 28 (Y_move (v := .bool (kind == 2)) rfl rfl) ?_
  refine sgq 29 (B := (kind == 2)) (v := vi i) rfl rfl (uT_ 28) (fun hg2 => (Y_move (v := vi i) rfl rfl)) ?_
  refine sgq 30 (B := (kind == 2)) (v := vi j) rfl rfl (uT_ 28) (fun hg3 => (Y_move (v := vi j) rfl rfl)) ?_
  refine sgq 31 (B := (kind == 2)) (v := .bool (i != j)) rfl rfl (uT_ 28) (fun hg4 => (Y_ne (k := .i64) (a := i) (b := j) rfl (gv_of (v := vi i) hg4) (gv_of (v := vi j) hg4))) ?_
  refine sQ 32 (Y_and (b := (kind == 2)) (z := (i != j)) rfl rfl rfl rfl) ?_
  refine sQ 25 (Y_assign (v := .bool ((kind == 2) && (i != j))) rfl rfl) (rw_nil ?_)
  refine cw_cond (b := ((kind == 2) && (i != j))) rfl (fun hb2 => ?_) (fun hb2 => ?_)
  ·skip
   have hF6 := ct hF5 hb2
   refine cw_seq (cw_region ?_)
   obtain ⟨r_1, hc, hF6⟩ := bind_inv hF6
   refine sc 33 rfl rfl (Yc_func (g := 65) (vs := [vi 1]) k_call_65 rfl (mc rfl mn) (c_impl_whole 1 _  (hS15.inn0 [] rfl) hc)) ?_
   rintro _ w_11 ⟨rfl, hd⟩
   have hS19 := hS15.out00 hd
   refine s0 (Ys_store (i := 0) (s := 5) (B := aD b) (T' := 65) (v := gD_ r_1) (vs := kD_ r_1) (k := 0) (cs' := kD_ r_1) hS19 k_sz_65_5 rfl rfl rfl rfl rfl rfl rfl (lB rfl) rfl rfl) ?_
   rintro _ w_12 ⟨rfl, hS20⟩
   refine rw_nil (cw_ret ?_)
   obtain rfl := some_inj hF6
   exact ret1 Tryz.results135 (v1 := gD_ r_1) (resAt_cellA (B := aD b) (i := 0) (cs := kD_ r_1) (vs := kD_ r_1) rfl k_ag_65 k_sz_65_5 (hS20.cf (i := 0) rfl) rfl rfl) ⟨rfl, (hS20.sN [])⟩
  ·skip
   have hF7 := cf' hF5 hb2
   refine cw_seq (cw_region ?_)
   refine sQ 35 (Y_move (v := vi kind) rfl rfl) ?_
   refine sQ 36 (Y_eq (k := .i64) (a := kind) (b := 3) rfl rfl rfl) ?_
   refine sQ 37 (Y_move (v := .bool (kind == 3)) rfl rfl) ?_
   refine sgq 38 (B := (kind == 3)) (v := vi i) rfl rfl (uT_ 37) (fun hg5 => (Y_move (v := vi i) rfl rfl)) ?_
   refine sgq 39 (B := (kind == 3)) (v := vi j) rfl rfl (uT_ 37) (fun hg6 => (Y_move (v := vi j) rfl rfl)) ?_
   refine sgq 40 (B := (kind == 3)) (v := .bool (i != j)) rfl rfl (uT_ 37) (fun hg7 => (Y_ne (k := .i64) (a := i) (b := j) rfl (gv_of (v := vi i) hg7) (gv_of (v := vi j) hg7))) ?_
   refine sQ 41 (Y_and (b := (kind == 3)) (z := (i != j)) rfl rfl rfl rfl) ?_
   refine sQ 34 (Y_assign (v := .bool ((kind == 3) && (i != j))) rfl rfl) (rw_nil ?_)
   refine cw_cond (b := ((kind == 3) && (i != j))) rfl (fun hb3 => ?_) (fun hb3 => ?_)
   ·skip
    have hF8 := ct hF7 hb3
    refine cw_seq (cw_region ?_)
    refine sQ 42 (Y_move (v := vi j) rfl rfl) ?_
    refine sQ 43 (Y_mul (k := .i64) (a := 4) (b := j) rfl rfl rfl) ?_
    refine sQ 44 (Y_add (k := .i64) (a := 2) (b := (i64.wrap (4 * j))) rfl rfl rfl) ?_
    obtain ⟨r_2, hc1, hF8⟩ := bind_inv hF8
    refine sc 45 rfl rfl (Yc_func (g := 42) (vs := [vi (i64.wrap (2 + (i64.wrap (4 * j))))]) k_call_42 rfl (mc rfl mn) (c_impl_phase (i64.wrap (2 + (i64.wrap (4 * j)))) _  (hS15.inn0 [] rfl) hc1)) ?_
    rintro _ w_13 ⟨rfl, hd1⟩
    have hS21 := hS15.out00 hd1
    refine s0 (Ys_store (i := 0) (s := 5) (B := aD b) (T' := 65) (v := gD_ r_2) (vs := kD_ r_2) (k := 0) (cs' := kD_ r_2) hS21 k_sz_65_5 rfl rfl rfl rfl rfl rfl rfl (lB rfl) rfl rfl) ?_
    rintro _ w_14 ⟨rfl, hS22⟩
    refine rw_nil (cw_ret ?_)
    obtain rfl := some_inj hF8
    exact ret1 Tryz.results135 (v1 := gD_ r_2) (resAt_cellA (B := aD b) (i := 0) (cs := kD_ r_2) (vs := kD_ r_2) rfl k_ag_65 k_sz_65_5 (hS22.cf (i := 0) rfl) rfl rfl) ⟨rfl, (hS22.sN [])⟩
   ·skip
    have hF9 := cf' hF7 hb3
    refine cw_seq (cw_region ?_)
    refine sQ 47 (Y_move (v := vi kind) rfl rfl) ?_
    refine sQ 48 (Y_eq (k := .i64) (a := kind) (b := 2) rfl rfl rfl) ?_
    refine sQ 49 (Y_move (v := .bool (kind == 2)) rfl rfl) ?_
    refine sgq 50 (B := (!(kind == 2))) (v := vi kind) rfl rfl (uF_ 49) (fun hg8 => (Y_move (v := vi kind) rfl rfl)) ?_
    refine sgq 51 (B := (!(kind == 2))) (v := .bool (kind == 3)) rfl rfl (uF_ 49) (fun hg9 => (Y_eq (k := .i64) (a := kind) (b := 3) rfl (gv_of (v := vi kind) hg9) rfl)) ?_
    refine sQ 52 (Y_or (b := (kind == 2)) (z := (kind == 3)) rfl rfl rfl rfl) ?_
    refine sQ 53 (Y_move (v := .bool ((kind == 2) || (kind == 3))) rfl rfl) ?_
    refine sgq 54 (B := (!((kind == 2) || (kind == 3)))) (v := vi i) rfl rfl (uF_ 53) (fun hg10 => (Y_move (v := vi i) rfl rfl)) ?_
    refine sgq 55 (B := (!((kind == 2) || (kind == 3)))) (v := vi j) rfl rfl (uF_ 53) (fun hg11 => (Y_move (v := vi j) rfl rfl)) ?_
    refine sgq 56 (B := (!((kind == 2) || (kind == 3)))) (v := .bool (i != j)) rfl rfl (uF_ 53) (fun hg12 => (Y_ne (k := .i64) (a := i) (b := j) rfl (gv_of (v := vi i) hg12) (gv_of (v := vi j) hg12))) ?_
    refine sQ 57 (Y_or (b := ((kind == 2) || (kind == 3))) (z := (i != j)) rfl rfl rfl rfl) ?_
    refine sQ 46 (Y_assign (v := .bool (((kind == 2) || (kind == 3)) || (i != j))) rfl rfl) (rw_nil ?_)
    refine cw_cond (b := (((kind == 2) || (kind == 3)) || (i != j))) rfl (fun hb4 => ?_) (fun hb4 => ?_)
    ·skip
     have hF10 := ct hF9 hb4
     refine cw_seq (cw_region ?_)
     refine sQ 58 (Y_buildS (zs := kZ_) (vs := []) (cs := kZ_) k_pl_65 k_zero_65 rfl mpn rfl) ?_
     refine s0 (Ys_store (i := 0) (s := 5) (B := aD b) (T' := 65) (v := gZ_) (vs := kZ_) (k := 0) (cs' := kZ_) hS15 k_sz_65_5 rfl rfl rfl rfl rfl rfl rfl (lB rfl) rfl rfl) ?_
     rintro _ w_15 ⟨rfl, hS23⟩
     refine rw_nil (cw_ret ?_)
     obtain rfl := some_inj hF10
     exact ret1 Tryz.results135 (v1 := gZ_) (resAt_cellA (B := aD b) (i := 0) (cs := kZ_) (vs := kZ_) rfl k_ag_65 k_sz_65_5 (hS23.cf (i := 0) rfl) rfl rfl) ⟨rfl, (hS23.sN [])⟩
    ·skip
     have hF11 := cf' hF9 hb4
     refine cw_seq (cw_region ?_)
     refine sQ 60 (Y_move (v := vi i) rfl rfl) ?_
     refine sQ 61 (Y_eq (k := .i64) (a := i) (b := 0) rfl rfl rfl) ?_
     refine sQ 59 (Y_assign (v := .bool (i == 0)) rfl rfl) (rw_nil ?_)
     refine cw_cond (b := (i == 0)) rfl (fun hb5 => ?_) (fun hb5 => ?_)
     ·skip
      have hF12 := ct hF11 hb5
      refine cw_seq (cw_region ?_)
      obtain ⟨r_3, hc2, hF12⟩ := bind_inv hF12
      refine sc 62 rfl rfl (Yc_func (g := 65) (vs := [vi 1]) k_call_65 rfl (mc rfl mn) (c_impl_whole 1 _  (hS15.inn0 [] rfl) hc2)) ?_
      rintro _ w_16 ⟨rfl, hd2⟩
      have hS24 := hS15.out00 hd2
      refine s0 (Ys_store (i := 0) (s := 5) (B := aD b) (T' := 65) (v := gD_ r_3) (vs := kD_ r_3) (k := 0) (cs' := kD_ r_3) hS24 k_sz_65_5 rfl rfl rfl rfl rfl rfl rfl (lB rfl) rfl rfl) ?_
      rintro _ w_17 ⟨rfl, hS25⟩
      refine rw_nil (cw_ret ?_)
      obtain rfl := some_inj hF12
      exact ret1 Tryz.results135 (v1 := gD_ r_3) (resAt_cellA (B := aD b) (i := 0) (cs := kD_ r_3) (vs := kD_ r_3) rfl k_ag_65 k_sz_65_5 (hS25.cf (i := 0) rfl) rfl rfl) ⟨rfl, (hS25.sN [])⟩
     ·skip
      have hF13 := cf' hF11 hb5
      refine cw_skip (cw_seq (cw_region ?_))
      refine sQ 63 (Y_move (v := .map (some g)) rfl rfl) ?_
      refine sQ 64 (Y_move (v := vi kind) rfl rfl) ?_
      refine sQ 65 (Y_lookup (kd := .i64) (ed := .i64) (k := kind) (l := [(4, 4), (5, 2), (6, 6), (7, 1), (8, 7)]) hS14.here rfl k_map_163_3_3 k_int_3_i64 k_zero_3 rfl rfl rfl) ?_
      obtain ⟨r_4, hc3, hF13⟩ := bind_inv hF13
      refine sc 66 rfl rfl (Yc_func (g := 42) (vs := [vi (mget [(4, 4), (5, 2), (6, 6), (7, 1), (8, 7)] kind)]) k_call_42 rfl (mc rfl mn) (c_impl_phase (mget [(4, 4), (5, 2), (6, 6), (7, 1), (8, 7)] kind) _  (hS15.inn0 [] rfl) hc3)) ?_
      rintro _ w_18 ⟨rfl, hd3⟩
      have hS26 := hS15.out00 hd3
      refine s0 (Ys_store (i := 0) (s := 5) (B := aD b) (T' := 65) (v := gD_ r_4) (vs := kD_ r_4) (k := 0) (cs' := kD_ r_4) hS26 k_sz_65_5 rfl rfl rfl rfl rfl rfl rfl (lB rfl) rfl rfl) ?_
      rintro _ w_19 ⟨rfl, hS27⟩
      refine rw_nil (cw_ret ?_)
      obtain rfl := some_inj hF13
      exact ret1 Tryz.results135 (v1 := gD_ r_4) (resAt_cellA (B := aD b) (i := 0) (cs := kD_ r_4) (vs := kD_ r_4) rfl k_ag_65 k_sz_65_5 (hS27.cf (i := 0) rfl) rfl rfl) ⟨rfl, (hS27.sN [])⟩

theorem c_impl_GateMatrix_1 (i : Int) (j : Int) (p : TGate) (p1 : Int) (B : Option Addr) (B1 : Option Addr) (w0 : World)  (hS : ST w0 [] w0 [] [⟨B, [vi p.Kind, vi p.A, vi p.B]⟩, ⟨B1, [vi p1]⟩]) {r_ : TDyadic} {r_1 : Bool} (hF : F_impl_GateMatrix_1 i j p p1 = some (r_, r_1)) :
  CV Tryz.prog 130 #[vi i, vi j, pt B 0, pt B1 0] w0 (fun v w' => v = .tuple #[gD_ r_, .bool r_1] ∧ ST w0 [] w' [] []) := by
 unfold F_impl_GateMatrix_1 at hF
 refine cv_of_cw 75 Tryz.func130 rfl Tryz.ntmps130 rfl ?_
 refine cw_seq (cw_region ?_)
 refine sS 6 (Ys_alloc (T := 65) (cs := kZ_) (m := 5) hS k_zero_65 rfl rfl rfl) ?_
 rintro _ w_ ⟨b, rfl, hS1⟩
 refine sQ 7 (Y_assign (v := .bool false) rfl rfl) (rw_nil (cw_seq ?_))
 obtain ⟨z, hz, hF1⟩ := bind_inv hF
 refine cw_mid (fun f w => .inl () = z ∧ FF f [(6, pt (aD b) 0)] ∧ ST w0 [] w [⟨aD b, 65, kZ_, 5⟩] [⟨B, [vi p.Kind, vi p.A, vi p.B]⟩, ⟨B1, [vi p1]⟩]) ?_ ?_
 ·skip
  refine cw_block (cw_seq (cw_region ?_))
  refine sQ 9 (Y_fieldAddr (B := B) (i := 0) (s := 0) k_fd_70_0_0_3 k_sz_3_1 rfl rfl) ?_
  refine sQ 10 (Y_load1 (B := B) (i := 0) (cs := [vi p.Kind, vi p.A, vi p.B]) (v := vi p.Kind) k_sc_3 rfl rfl (hS1.rf (i := 0) rfl) rfl) ?_
  refine sQ 11 (Y_eq (k := .i64) (a := p.Kind) (b := 12) rfl rfl rfl) ?_
  refine sQ 8 (Y_assign (v := .bool (p.Kind == 12)) rfl rfl) (rw_nil ?_)
  refine cw_cond (b := (p.Kind == 12)) rfl (fun hb => ?_) (fun hb => ?_)
  ·skip
   have hF2 := ct hz hb
   refine cw_seq (cw_region ?_)
   refine sQ 12 (Y_move (v := vi i) rfl rfl) ?_
   refine sQ 13 (Y_move (v := vi j) rfl rfl) ?_
   refine sQ 14 (Y_eq (k := .i64) (a := i) (b := j) rfl rfl rfl) (rw_nil ?_)
   refine cw_cond (b := (i == j)) rfl (fun hb1 => ?_) (fun hb1 => ?_)
   ·skip
    have hF3 := ct hF2 hb1
    refine cw_seq (cw_region ?_)
    obtain ⟨r_2, hc, hF3⟩ := bind_inv hF3
    refine sc 15 rfl rfl (Yc_func (g := 42) (vs := [vi 1]) k_call_42 rfl (mc rfl mn) (c_impl_phase 1 _  (hS1.inn0 [] rfl) hc)) ?_
    rintro _ w_1 ⟨rfl, hd⟩
    have hS3 := hS1.out00 hd
    refine s0 (Ys_store (i := 0) (s := 5) (B := aD b) (T' := 65) (v := gD_ r_2) (vs := kD_ r_2) (k := 0) (cs' := kD_ r_2) hS3 k_sz_65_5 rfl rfl rfl rfl rfl rfl rfl (lB rfl) rfl rfl) ?_
    rintro _ w_2 ⟨rfl, hS4⟩
    refine sQ 7 (Y_assign (v := .bool true) rfl rfl) (rw_nil (cw_ret ?_))
    obtain rfl := some_inj hF3
    obtain ⟨rfl, rfl⟩ := pr2 (some_inj hF1)
    exact ret2 Tryz.results130 (v1 := gD_ r_2) (resAt_cellA (B := aD b) (i := 0) (cs := kD_ r_2) (vs := kD_ r_2) rfl k_ag_65 k_sz_65_5 (hS4.cf (i := 0) rfl) rfl rfl) (v2 := .bool true) (resAt_tmp rfl) ⟨rfl, (hS4.sN [])⟩
   ·skip
    have hF4 := cf' hF2 hb1
    refine cw_skip ?_
    exact ⟨(some_inj hF4), (FF.cons rfl FF.nil), (hS1.sel [0] rfl rfl)⟩
  ·skip
   have hF5 := cf' hz hb
   refine cw_seq (cw_region ?_)
   refine sQ 17 (Y_fieldAddr (B := B) (i := 0) (s := 0) k_fd_70_0_0_3 k_sz_3_1 rfl rfl) ?_
   refine sQ 18 (Y_load1 (B := B) (i := 0) (cs := [vi p.Kind, vi p.A, vi p.B]) (v := vi p.Kind) k_sc_3 rfl rfl (hS1.rf (i := 0) rfl) rfl) ?_
   obtain ⟨r_3, hc1, hF5⟩ := bind_inv hF5
   refine sc 19 rfl rfl (Yc_func (g := 131) (vs := [vi p.Kind]) k_call_131 rfl (mc rfl mn) (c_impl_isTwo p.Kind _  (hS1.inn0 [] rfl) hc1)) ?_
   rintro _ w_3 ⟨rfl, hd1⟩
   have hS5 := hS1.out00 hd1
   refine sQ 16 (Y_assign (v := .bool r_3) rfl rfl) (rw_nil ?_)
   refine cw_cond (b := r_3) rfl (fun hb2 => ?_) (fun hb2 => ?_)
   ·skip
    have hF6 := ct hF5 hb2
    refine cw_seq (cw_region ?_)
    refine sQ 20 (Y_load1 (B := B1) (i := 0) (cs := [vi p1]) (v := vi p1) k_sc_3 rfl rfl (hS5.rf (i := 1) rfl) rfl) ?_
    refine sQ 21 (Y_loadA (B := B) (i := 0) (cs := [vi p.Kind, vi p.A, vi p.B]) (vs := [vi p.Kind, vi p.A, vi p.B]) k_ag_70 k_sz_70_3 rfl rfl (hS5.rf (i := 0) rfl) rfl rfl) ?_
    refine sQ 22 (Y_move (v := vi i) rfl rfl) ?_
    obtain ⟨r_4, hc2, hF6⟩ := bind_inv hF6
    refine sc 23 rfl rfl (Yc_func (g := 132) (vs := [vi p1, .agg #[vi p.Kind, vi p.A, vi p.B], vi i]) k_call_132 rfl (mc rfl (mc rfl (mc rfl mn))) (c_impl_comesFrom p1 p i _  (hS5.inn0 [] rfl) hc2)) ?_
    rintro _ w_4 ⟨rfl, hd2⟩
    have hS6 := hS5.out00 hd2
    refine sQ 24 (Y_move (v := vi j) rfl rfl) ?_
    refine sQ 25 (Y_eq (k := .i64) (a := r_4) (b := j) rfl rfl rfl) (rw_nil ?_)
    refine cw_cond (b := (r_4 == j)) rfl (fun hb3 => ?_) (fun hb3 => ?_)
    ·skip
     have hF7 := ct hF6 hb3
     refine cw_seq (cw_region ?_)
     refine sQ 26 (Y_fieldAddr (B := B) (i := 0) (s := 0) k_fd_70_0_0_3 k_sz_3_1 rfl rfl) ?_
     refine sQ 27 (Y_load1 (B := B) (i := 0) (cs := [vi p.Kind, vi p.A, vi p.B]) (v := vi p.Kind) k_sc_3 rfl rfl (hS6.rf (i := 0) rfl) rfl) ?_
     refine sQ 28 (Y_eq (k := .i64) (a := p.Kind) (b := 10) rfl rfl rfl) ?_
     refine sQ 29 (Y_move (v := .bool (p.Kind == 10)) rfl rfl) ?_
     refine sgq 30 (B := (p.Kind == 10)) (v := vi p1) rfl rfl (uT_ 29) (fun hg => (Y_load1 (B := B1) (i := 0) (cs := [vi p1]) (v := vi p1) k_sc_3 rfl rfl (hS6.rf (i := 1) rfl) rfl)) ?_
     refine sgq 31 (B := (p.Kind == 10)) (v := vi i) rfl rfl (uT_ 29) (fun hg1 => (Y_move (v := vi i) rfl rfl)) ?_
     refine sgq 32 (B := (p.Kind == 10)) (v := pt B 1) rfl rfl (uT_ 29) (fun hg2 => (Y_fieldAddr (B := B) (i := 0) (s := 0) k_fd_70_1_1_3 k_sz_3_1 rfl rfl)) ?_
     refine sgq 33 (B := (p.Kind == 10)) (v := vi p.A) rfl rfl (uT_ 29) (fun hg3 => (Y_load1 (B := B) (i := 1) (cs := [vi p.Kind, vi p.A, vi p.B]) (v := vi p.A) k_sc_3 rfl (gv_of (v := pt B 1) hg3) (hS6.rf (i := 0) rfl) rfl)) ?_
     obtain ⟨r_5, hc3, hF7⟩ := bind_inv hF7
     refine sgc 34 (B := (p.Kind == 10)) (v := vi r_5) (F := hS6.fn) rfl rfl (uT_ 29) hS6 (fun hg4 => (Yc_func (g := 133) (vs := [vi p1, vi i, vi p.A]) k_call_133 rfl (mc (gv_of (v := vi p1) hg4) (mc (gv_of (v := vi i) hg4) (mc (gv_of (v := vi p.A) hg4) mn))) (CV.mono (c_impl_bitOf p1 i p.A _  (hS6.inn0 [] rfl) (gb_inv hc3 hg4)) (by rintro _ _ ⟨rfl, h⟩; exact ⟨rfl, hS6.out00 h⟩)))) ?_
     rintro w_5 hS7
     refine sgq 35 (B := (p.Kind == 10)) (v := .bool (r_5 == 1)) rfl rfl (uT_ 29) (fun hg5 => (Y_eq (k := .i64) (a := r_5) (b := 1) rfl (gv_of (v := vi r_5) hg5) rfl)) ?_
     refine sQ 36 (Y_and (b := (p.Kind == 10)) (z := (r_5 == 1)) rfl rfl rfl rfl) ?_
     refine sQ 37 (Y_move (v := .bool ((p.Kind == 10) && (r_5 == 1))) rfl rfl) ?_
     refine sgq 38 (B := ((p.Kind == 10) && (r_5 == 1))) (v := vi p1) rfl rfl (uT_ 37) (fun hg6 => (Y_load1 (B := B1) (i := 0) (cs := [vi p1]) (v := vi p1) k_sc_3 rfl rfl (hS7.rf (i := 1) rfl) rfl)) ?_
     refine sgq 39 (B := ((p.Kind == 10) && (r_5 == 1))) (v := vi i) rfl rfl (uT_ 37) (fun hg7 => (Y_move (v := vi i) rfl rfl)) ?_
     refine sgq 40 (B := ((p.Kind == 10) && (r_5 == 1))) (v := pt B 2) rfl rfl (uT_ 37) (fun hg8 => (Y_fieldAddr (B := B) (i := 0) (s := 0) k_fd_70_2_2_3 k_sz_3_1 rfl rfl)) ?_
     refine sgq 41 (B := ((p.Kind == 10) && (r_5 == 1))) (v := vi p.B) rfl rfl (uT_ 37) (fun hg9 => (Y_load1 (B := B) (i := 2) (cs := [vi p.Kind, vi p.A, vi p.B]) (v := vi p.B) k_sc_3 rfl (gv_of (v := pt B 2) hg9) (hS7.rf (i := 0) rfl) rfl)) ?_
     obtain ⟨r_6, hc4, hF7⟩ := bind_inv hF7
     refine sgc 42 (B := ((p.Kind == 10) && (r_5 == 1))) (v := vi r_6) (F := hS7.fn) rfl rfl (uT_ 37) hS7 (fun hg10 => (Yc_func (g := 133) (vs := [vi p1, vi i, vi p.B]) k_call_133 rfl (mc (gv_of (v := vi p1) hg10) (mc (gv_of (v := vi i) hg10) (mc (gv_of (v := vi p.B) hg10) mn))) (CV.mono (c_impl_bitOf p1 i p.B _  (hS7.inn0 [] rfl) (gb_inv hc4 hg10)) (by rintro _ _ ⟨rfl, h⟩; exact ⟨rfl, hS7.out00 h⟩)))) ?_
     rintro w_6 hS8
     refine sgq 43 (B := ((p.Kind == 10) && (r_5 == 1))) (v := .bool (r_6 == 1)) rfl rfl (uT_ 37) (fun hg11 => (Y_eq (k := .i64) (a := r_6) (b := 1) rfl (gv_of (v := vi r_6) hg11) rfl)) ?_
     refine sQ 44 (Y_and (b := ((p.Kind == 10) && (r_5 == 1))) (z := (r_6 == 1)) rfl rfl rfl rfl) ?_
     obtain ⟨r_7, hc5, hF7⟩ := bind_inv hF7
     refine sc 45 rfl rfl (Yc_func (g := 66) (vs := [.bool (((p.Kind == 10) && (r_5 == 1)) && (r_6 == 1))]) k_call_66 rfl (mc rfl mn) (c_impl_small (((p.Kind == 10) && (r_5 == 1)) && (r_6 == 1)) _  (hS8.inn0 [] rfl) hc5)) ?_
     rintro _ w_7 ⟨rfl, hd3⟩
     have hS9 := hS8.out00 hd3
     refine sQ 46 (Y_mul (k := .i64) (a := 4) (b := r_7) rfl rfl rfl) ?_
     obtain ⟨r_8, hc6, hF7⟩ := bind_inv hF7
     refine sc 47 rfl rfl (Yc_func (g := 42) (vs := [vi (i64.wrap (4 * r_7))]) k_call_42 rfl (mc rfl mn) (c_impl_phase (i64.wrap (4 * r_7)) _  (hS9.inn0 [] rfl) hc6)) ?_
     rintro _ w_8 ⟨rfl, hd4⟩
     have hS10 := hS9.out00 hd4
     refine s0 (Ys_store (i := 0) (s := 5) (B := aD b) (T' := 65) (v := gD_ r_8) (vs := kD_ r_8) (k := 0) (cs' := kD_ r_8) hS10 k_sz_65_5 rfl rfl rfl rfl rfl rfl rfl (lB rfl) rfl rfl) ?_
     rintro _ w_9 ⟨rfl, hS11⟩
     refine sQ 7 (Y_assign (v := .bool true) rfl rfl) (rw_nil (cw_ret ?_))
     obtain rfl := some_inj hF7
     obtain ⟨rfl, rfl⟩ := pr2 (some_inj hF1)
     exact ret2 Tryz.results130 (v1 := gD_ r_8) (resAt_cellA (B := aD b) (i := 0) (cs := kD_ r_8) (vs := kD_ r_8) rfl k_ag_65 k_sz_65_5 (hS11.cf (i := 0) rfl) rfl rfl) (v2 := .bool true) (resAt_tmp rfl) ⟨rfl, (hS11.sN [])⟩
    ·skip
     have hF8 := cf' hF6 hb3
     refine cw_skip ?_
     exact ⟨(some_inj hF8), (FF.cons rfl FF.nil), (hS6.sel [0] rfl rfl)⟩
   ·skip
    have hF9 := cf' hF5 hb2
    refine cw_seq (cw_region ?_)
    refine sQ 49 (Y_move (v := vi i) rfl rfl) ?_
    refine sQ 50 (Y_move (v := vi j) rfl rfl) ?_
    refine sQ 51 (Y_eq (k := .i64) (a := i) (b := j) rfl rfl rfl) ?_
    refine sQ 52 (Y_move (v := .bool (i == j)) rfl rfl) ?_
    refine sgq 53 (B := (!(i == j))) (v := vi p1) rfl rfl (uF_ 52) (fun hg12 => (Y_load1 (B := B1) (i := 0) (cs := [vi p1]) (v := vi p1) k_sc_3 rfl rfl (hS5.rf (i := 1) rfl) rfl)) ?_
    refine sgq 54 (B := (!(i == j))) (v := vi i) rfl rfl (uF_ 52) (fun hg13 => (Y_move (v := vi i) rfl rfl)) ?_
    refine sgq 55 (B := (!(i == j))) (v := pt B 1) rfl rfl (uF_ 52) (fun hg14 => (Y_fieldAddr (B := B) (i := 0) (s := 0) k_fd_70_1_1_3 k_sz_3_1 rfl rfl)) ?_
    refine sgq 56 (B := (!(i == j))) (v := vi p.A) rfl rfl (uF_ 52) (fun hg15 => (Y_load1 (B := B) (i := 1) (cs := [vi p.Kind, vi p.A, vi p.B]) (v := vi p.A) k_sc_3 rfl (gv_of (v := pt B 1) hg15) (hS5.rf (i := 0) rfl) rfl)) ?_
    obtain ⟨r_9, hc7, hF9⟩ := bind_inv hF9
    refine sgc 57 (B := (!(i == j))) (v := vi r_9) (F := hS5.fn) rfl rfl (uF_ 52) hS5 (fun hg16 => (Yc_func (g := 134) (vs := [vi p1, vi i, vi p.A]) k_call_134 rfl (mc (gv_of (v := vi p1) hg16) (mc (gv_of (v := vi i) hg16) (mc (gv_of (v := vi p.A) hg16) mn))) (CV.mono (c_impl_flipped p1 i p.A _  (hS5.inn0 [] rfl) (gb_inv hc7 hg16)) (by rintro _ _ ⟨rfl, h⟩; exact ⟨rfl, hS5.out00 h⟩)))) ?_
    rintro w_10 hS12
    refine sgq 58 (B := (!(i == j))) (v := vi j) rfl rfl (uF_ 52) (fun hg17 => (Y_move (v := vi j) rfl rfl)) ?_
    refine sgq 59 (B := (!(i == j))) (v := .bool (r_9 == j)) rfl rfl (uF_ 52) (fun hg18 => (Y_eq (k := .i64) (a := r_9) (b := j) rfl (gv_of (v := vi r_9) hg18) (gv_of (v := vi j) hg18))) ?_
    refine sQ 60 (Y_or (b := (i == j)) (z := (r_9 == j)) rfl rfl rfl rfl) ?_
    refine sQ 48 (Y_assign (v := .bool ((i == j) || (r_9 == j))) rfl rfl) (rw_nil ?_)
    refine cw_cond (b := ((i == j) || (r_9 == j))) rfl (fun hb4 => ?_) (fun hb4 => ?_)
    ·skip
     have hF10 := ct hF9 hb4
     refine cw_seq ?_
     obtain ⟨r_10, hc8, hF10⟩ := bind_inv hF10
     obtain ⟨r_11, hc9, hF10⟩ := bind_inv hF10
     obtain ⟨r_12, hc10, hF10⟩ := bind_inv hF10
     refine ra_start (hS12.se []).fn (by kernel_rfl) ?_
     have hS16 := hS12.drew
     refine rq 0 61 (v := pt B 0) rfl (hS16.se []) (fun w' hw' => (Y_fieldAddr (B := B) (i := 0) (s := 0) k_fd_70_0_0_3 k_sz_3_1 rfl rfl)) ?_
     refine rq 1 62 (v := vi p.Kind) rfl (hS16.se []) (fun w' hw' => (Y_load1 (B := B) (i := 0) (cs := [vi p.Kind, vi p.A, vi p.B]) (v := vi p.Kind) k_sc_3 rfl rfl (ST.rf hw' (i := 0) rfl) rfl)) ?_
     refine rq 2 63 (v := vi p1) rfl (hS16.se []) (fun w' hw' => (Y_load1 (B := B1) (i := 0) (cs := [vi p1]) (v := vi p1) k_sc_3 rfl rfl (ST.rf hw' (i := 1) rfl) rfl)) ?_
     refine rq 3 64 (v := vi i) rfl (hS16.se []) (fun w' hw' => (Y_move (v := vi i) rfl rfl)) ?_
     refine rq 4 65 (v := pt B 1) rfl (hS16.se []) (fun w' hw' => (Y_fieldAddr (B := B) (i := 0) (s := 0) k_fd_70_1_1_3 k_sz_3_1 rfl rfl)) ?_
     refine rq 5 66 (v := vi p.A) rfl (hS16.se []) (fun w' hw' => (Y_load1 (B := B) (i := 1) (cs := [vi p.Kind, vi p.A, vi p.B]) (v := vi p.A) k_sc_3 rfl rfl (ST.rf hw' (i := 0) rfl) rfl)) ?_
     refine rq 7 68 (v := vi p1) rfl (hS16.se []) (fun w' hw' => (Y_load1 (B := B1) (i := 0) (cs := [vi p1]) (v := vi p1) k_sc_3 rfl rfl (ST.rf hw' (i := 1) rfl) rfl)) ?_
     refine rq 8 69 (v := vi j) rfl (hS16.se []) (fun w' hw' => (Y_move (v := vi j) rfl rfl)) ?_
     refine rq 9 70 (v := pt B 1) rfl (hS16.se []) (fun w' hw' => (Y_fieldAddr (B := B) (i := 0) (s := 0) k_fd_70_1_1_3 k_sz_3_1 rfl rfl)) ?_
     refine rq 10 71 (v := vi p.A) rfl (hS16.se []) (fun w' hw' => (Y_load1 (B := B) (i := 1) (cs := [vi p.Kind, vi p.A, vi p.B]) (v := vi p.A) k_sc_3 rfl rfl (ST.rf hw' (i := 0) rfl) rfl)) ?_
     refine rA [6] ?_
     refine ra_c 67 (i := 6) rfl rfl rfl (Yc_func (g := 133) (vs := [vi p1, vi i, vi p.A]) k_call_133 rfl (mc rfl (mc rfl (mc rfl mn))) (c_impl_bitOf p1 i p.A _  (hS16.inn0 [] rfl) hc8)) ?_ ?_
     ·rintro _ w_11 ⟨rfl, hd5⟩
      have hS17 := hS16.out00 hd5
      refine ⟨(hS17.se []), ?_⟩
      refine rA [11] ?_
      refine ra_c 72 (i := 11) rfl rfl rfl (Yc_func (g := 133) (vs := [vi p1, vi j, vi p.A]) k_call_133 rfl (mc rfl (mc rfl (mc rfl mn))) (c_impl_bitOf p1 j p.A _  (hS17.inn0 [] rfl) hc9)) ?_ ?_
      ·rintro _ w_12 ⟨rfl, hd6⟩
       have hS18 := hS17.out00 hd6
       refine ⟨(hS18.se []), ?_⟩
       refine rA [12] ?_
       refine ra_c 73 (i := 12) rfl rfl rfl (Yc_func (g := 135) (vs := [vi p.Kind, vi r_10, vi r_11]) k_call_135 rfl (mc rfl (mc rfl (mc rfl mn))) (c_impl_entry p.Kind r_10 r_11 _  (hS18.inn0 [] rfl) hc10)) ?_ ?_
       ·rintro _ w_13 ⟨rfl, hd7⟩
        have hS19 := hS18.out00 hd7
        refine ⟨(hS19.se []), ?_⟩
        refine rA [13] ?_
        refine ra_s0 (i := 13) rfl rfl rfl (Ys_store (i := 0) (s := 5) (B := aD b) (T' := 65) (v := gD_ r_12) (vs := kD_ r_12) (k := 0) (cs' := kD_ r_12) hS19 k_sz_65_5 rfl rfl rfl rfl rfl rfl rfl (lB rfl) rfl rfl) ?_ ?_
        ·rintro _ w_14 ⟨rfl, hS20⟩
         refine ⟨(hS20.se []), ?_⟩
         refine rq 14 7 (v := .bool true) rfl (hS20.se []) (fun w' hw' => (Y_assign (v := .bool true) rfl rfl)) ?_
         refine ra_done (by kernel_rfl) ?_
         refine cw_ret ?_
         obtain rfl := some_inj hF10
         obtain ⟨rfl, rfl⟩ := pr2 (some_inj hF1)
         exact ret2 Tryz.results130 (v1 := gD_ r_12) (resAt_cellA (B := aD b) (i := 0) (cs := kD_ r_12) (vs := kD_ r_12) rfl k_ag_65 k_sz_65_5 (hS20.cf (i := 0) rfl) rfl rfl) (v2 := .bool true) (resAt_tmp rfl) ⟨rfl, (hS20.sN [])⟩
        exact allR_nil
       exact allR_nil
      exact allR_nil
     exact allR_nil
    ·skip
     have hF11 := cf' hF9 hb4
     refine cw_skip ?_
     exact ⟨(some_inj hF11), (FF.cons rfl FF.nil), (hS12.sel [0] rfl rfl)⟩
 rintro f w ⟨rfl, hf, hS2⟩
 refine cw_seq (cw_region ?_)
 refine sQ 74 (Y_buildS (zs := kZ_) (vs := []) (cs := kZ_) k_pl_65 k_zero_65 rfl mpn rfl) ?_
 refine s0 (Ys_store (i := 0) (s := 5) (B := aD b) (T' := 65) (v := gZ_) (vs := kZ_) (k := 0) (cs' := kZ_) hS2 k_sz_65_5 rfl (hf.get 6 0 rfl) rfl rfl rfl rfl rfl (lB rfl) rfl rfl) ?_
 rintro _ w_15 ⟨rfl, hS21⟩
 refine sQ 7 (Y_assign (v := .bool true) rfl rfl) (rw_nil (cw_ret ?_))
 obtain ⟨rfl, rfl⟩ := pr2 (some_inj hF1)
 exact ret2 Tryz.results130 (v1 := gZ_) (resAt_cellA (B := aD b) (i := 0) (cs := kZ_) (vs := kZ_) (hf.get 6 0 rfl) k_ag_65 k_sz_65_5 (hS21.cf (i := 0) rfl) rfl rfl) (v2 := .bool true) (resAt_tmp rfl) ⟨rfl, (hS21.sN [])⟩

theorem c_impl_GateMatrix (n : Int) (g : TGate)  (w0 : World)  (hS : ST w0 [] w0 [] []) {r_ : TMatrix} {r_1 : Bool} (hF : F_impl_GateMatrix n g = some (r_, r_1)) :
  CV Tryz.prog 106 #[vi n, .agg #[vi g.Kind, vi g.A, vi g.B]] w0 (fun v w' => ∃ (B : Option Addr) (c : Nat), v = .tuple #[gM_ r_ B c, .bool r_1] ∧ ST w0 [] w' [⟨B, 65, (r_.Cells.flatMap eN0), c * 5⟩] []) := by
 unfold F_impl_GateMatrix at hF
 refine cv_of_cw 19 Tryz.func106 rfl Tryz.ntmps106 rfl ?_
 refine cw_seq (cw_region ?_)
 refine sS 2 (Ys_box (T := 3) (v := vi n) (cs := [vi n]) (m := 1) hS rfl rfl rfl rfl) ?_
 rintro _ w_ ⟨b, rfl, hS1⟩
 refine sS 3 (Ys_box (T := 70) (v := .agg #[vi g.Kind, vi g.A, vi g.B]) (cs := [vi g.Kind, vi g.A, vi g.B]) (m := 3) hS1 rfl rfl rfl rfl) ?_
 rintro _ w_1 ⟨b1, rfl, hS2⟩
 refine sS 4 (Ys_alloc (T := 48) (cs := kN_) (m := 3) hS2 k_zero_48 rfl rfl rfl) ?_
 rintro _ w_2 ⟨b2, rfl, hS3⟩
 refine sQ 5 (Y_assign (v := .bool false) rfl rfl) (rw_nil (cw_seq (cw_seq (cw_region ?_))))
 refine sQ 6 (Y_load1 (B := aD b) (i := 0) (cs := [vi n]) (v := vi n) k_sc_3 rfl rfl (hS3.cf (i := 0) rfl) rfl) ?_
 refine sQ 7 (Y_loadA (B := aD b1) (i := 0) (cs := [vi g.Kind, vi g.A, vi g.B]) (vs := [vi g.Kind, vi g.A, vi g.B]) k_ag_70 k_sz_70_3 rfl rfl (hS3.cf (i := 1) rfl) rfl rfl) ?_
 obtain ⟨r_2, hc, hF⟩ := bind_inv hF
 refine sc 8 rfl rfl (Yc_func (g := 113) (vs := [vi n, .agg #[vi g.Kind, vi g.A, vi g.B]]) k_call_113 rfl (mc rfl (mc rfl mn)) (c_impl_IsValidGate n g _  (hS3.inn0 [] rfl) hc)) ?_
 rintro _ w_3 ⟨rfl, hd⟩
 have hS4 := hS3.out00 hd
 refine sQ 9 (Y_not (p := r_2) rfl rfl) (rw_nil ?_)
 refine cw_cond (b := (!r_2)) rfl (fun hb => ?_) (fun hb => ?_)
 ·skip
  have hF1 := ct hF hb
  refine cw_seq (cw_region ?_)
  refine sQ 10 (Y_buildS (zs := kN_) (vs := []) (cs := kN_) k_pl_48 k_zero_48 rfl mpn rfl) ?_
  refine s0 (Ys_store (i := 2) (s := 3) (B := aD b2) (T' := 48) (v := gN_) (vs := kN_) (k := 0) (cs' := kN_) hS4 k_sz_48_3 rfl rfl rfl rfl rfl rfl rfl (lB rfl) rfl rfl) ?_
  rintro _ w_4 ⟨rfl, hS5⟩
  refine sQ 5 (Y_assign (v := .bool false) rfl rfl) (rw_nil (cw_ret ?_))
  have hS6 := hS5.addNil 65
  obtain ⟨rfl, rfl⟩ := pr2 (some_inj hF1)
  exact ret2 Tryz.results106 (v1 := gN_) (resAt_cellA (B := aD b2) (i := 0) (cs := kN_) (vs := kN_) rfl k_ag_48 k_sz_48_3 (hS6.cf (i := 2) rfl) rfl rfl) (v2 := .bool false) (resAt_tmp rfl) ⟨none, 0, rfl, (hS6.sN [3])⟩
 ·skip
  have hF2 := cf' hF hb
  refine cw_skip (cw_seq ?_)
  obtain ⟨hsh, hF2⟩ := chk_inv hF2
  obtain ⟨hsh1, hF2⟩ := chk_inv hF2
  obtain ⟨⟨r_3, r_4⟩, hc1, hF2⟩ := bind_inv hF2
  refine ra_start (hS4.se [0, 1]).fn (by kernel_rfl) ?_
  have hS8 := hS4.drew
  refine rq 0 11 (v := vi n) rfl (hS8.se [0, 1]) (fun w' hw' => (Y_load1 (B := aD b) (i := 0) (cs := [vi n]) (v := vi n) k_sc_3 rfl rfl (ST.cf hw' (i := 0) rfl) rfl)) ?_
  refine rq 1 12 (v := vi (shlK .i64 1 n)) rfl (hS8.se [0, 1]) (fun w' hw' => (Y_shl (k := .i64) (a := 1) (k' := .i64) (b := n) rfl rfl rfl hsh)) ?_
  refine rq 2 13 (v := vi n) rfl (hS8.se [0, 1]) (fun w' hw' => (Y_load1 (B := aD b) (i := 0) (cs := [vi n]) (v := vi n) k_sc_3 rfl rfl (ST.cf hw' (i := 0) rfl) rfl)) ?_
  refine rq 3 14 (v := vi (shlK .i64 1 n)) rfl (hS8.se [0, 1]) (fun w' hw' => (Y_shl (k := .i64) (a := 1) (k' := .i64) (b := n) rfl rfl rfl hsh1)) ?_
  refine rq 4 15 (v := .func (.func 130) #[] #[pt (aD b1) 0, pt (aD b) 0]) rfl (hS8.se [0, 1]) (fun w' hw' => (Y_makeFunc (cs := [pt (aD b1) 0, pt (aD b) 0]) rfl rfl (mc rfl (mc rfl mn)))) ?_
  refine rA [5] ?_
  refine ra_c 16 (i := 5) rfl rfl rfl (Yc_func (g := 84) (vs := [vi (shlK .i64 1 n), vi (shlK .i64 1 n), .func (.func 130) #[] #[pt (aD b1) 0, pt (aD b) 0]]) k_call_84 rfl (mc rfl (mc rfl (mc rfl mn))) (c_impl_matrixOf (shlK .i64 1 n) (shlK .i64 1 n) (fun x_0 x_1 => F_impl_GateMatrix_1 x_0 x_1 g n) 130 (#[pt (aD b1) 0, pt (aD b) 0]) [⟨aD b1, [vi g.Kind, vi g.A, vi g.B]⟩, ⟨aD b, [vi n]⟩] _ k_call_130 (fun w hw x_0 x_1 y_0 y_1 h_ => c_impl_GateMatrix_1 x_0 x_1 g n (aD b1) (aD b) w  hw h_) (hS8.inn0 [(false, 1), (false, 0)] rfl) hc1)) ?_ ?_
  ·rintro _ w_5 ⟨B1, c1, rfl, hd1⟩
   have hS9 := hS8.out0 hd1
   refine ⟨(hS9.se [0, 1]), ?_⟩
   refine rq 6 17 (v := gM_ r_3 B1 c1) rfl (hS9.se [0, 1]) (fun w' hw' => (Y_extract (v := gM_ r_3 B1 c1) rfl rfl rfl)) ?_
   refine rq 7 18 (v := .bool r_4) rfl (hS9.se [0, 1]) (fun w' hw' => (Y_extract (v := .bool r_4) rfl rfl rfl)) ?_
   refine rA [8] ?_
   refine ra_s0 (i := 8) rfl rfl rfl (Ys_store (i := 2) (s := 3) (B := aD b2) (T' := 48) (v := gM_ r_3 B1 c1) (vs := kM_ r_3 B1 c1) (k := 0) (cs' := kM_ r_3 B1 c1) hS9 k_sz_48_3 rfl rfl rfl rfl rfl rfl rfl (lB rfl) rfl rfl) ?_ ?_
   ·rintro _ w_6 ⟨rfl, hS10⟩
    refine ⟨(hS10.se [0, 1]), ?_⟩
    refine rq 9 5 (v := .bool r_4) rfl (hS10.se [0, 1]) (fun w' hw' => (Y_assign (v := .bool r_4) rfl rfl)) ?_
    refine ra_done (by kernel_rfl) ?_
    refine cw_ret ?_
    obtain ⟨rfl, rfl⟩ := pr2 (some_inj hF2)
    exact ret2 Tryz.results106 (v1 := gM_ r_3 B1 c1) (resAt_cellA (B := aD b2) (i := 0) (cs := kM_ r_3 B1 c1) (vs := kM_ r_3 B1 c1) rfl k_ag_48 k_sz_48_3 (hS10.cf (i := 2) rfl) rfl rfl) (v2 := .bool r_4) (resAt_tmp rfl) ⟨B1, c1, rfl, (hS10.sN [3])⟩
   exact allR_nil
  exact allR_nil

theorem c_slices_IndexFunc_impl_Dyadic_impl_Dyadic (s : List TDyadic) (f_ : TDyadic → Option (Bool)) (B : Option Addr) (c n : Nat) (kf : Nat) (caps : Array Value) (Rf : List Ro) (w0 : World) (hn : s.length = n) (hk : callB Tryz.prog kf = true) (hp : ∀ (w : World), ST w [] w [] Rf → ∀ (x : TDyadic) (y : Bool), f_ x = some y → CV Tryz.prog kf ((gD_ x) :: caps.toList).toArray w (fun v w' => v = .bool y ∧ ST w [] w' [] [])) (hS : ST w0 [] w0 [] (⟨B, (s.flatMap eN0)⟩ :: Rf)) {r_ : Int} (hF : F_slices_IndexFunc_impl_Dyadic_impl_Dyadic s f_ = some r_) :
  CV Tryz.prog 102 #[.slice B n c, .func (.func kf) #[] caps] w0 (fun v w' => v = vi r_ ∧ ST w0 [] w' [] []) := by
 subst hn
 unfold F_slices_IndexFunc_impl_Dyadic_impl_Dyadic at hF
 refine cv_of_cw 19 Tryz.func102 rfl Tryz.ntmps102 rfl ?_
 refine cw_seq (cw_region ?_)
 refine sQ 4 (Y_assign (v := vi 0) rfl rfl) (rw_nil (cw_seq (cw_seq (cw_region ?_))))
 refine sQ 6 (Y_move (v := .slice B s.length c) rfl rfl) ?_
 refine sQ 7 (Y_len (B := B) (m := s.length) (c := c) k_sl_28_65 rfl rfl) ?_
 refine sQ 8 (Y_move (v := vi 0) rfl rfl) (rw_nil ?_)
 obtain ⟨hN, hF⟩ := chk_inv hF
 obtain ⟨z, hz, hF1⟩ := bind_inv hF
 refine cw_block ?_
 refine cw_loop (fun k f w => ∃ (i : Nat), FF f [(0, .slice B s.length c), (1, .func (.func kf) #[] caps), (7, vi (s.length : Int)), (8, vi (i : Int))] ∧ ST w0 [] w [] (⟨B, (s.flatMap eN0)⟩ :: Rf) ∧ i + k = s.length ∧ forX (F_slices_IndexFunc_impl_Dyadic_impl_Dyadic_l1 s f_) k i () = some z) s.length ⟨0, (FF.cons rfl (FF.cons rfl (FF.cons rfl (FF.cons rfl FF.nil)))), (hS.sel [] rfl rfl), Nat.zero_add _, hz⟩ ?_
 rintro k_ f w ⟨i, hf, hS1, hik, hL⟩
 refine cw_seq (cw_region ?_)
 refine sQ 9 (Y_lt (k := .i64) (a := (i : Int)) (b := (s.length : Int)) rfl (hf.get 8 3 rfl) (hf.get 7 2 rfl)) (rw_nil (cw_seq ?_))
 refine cw_cond (b := (decide ((i : Int) < (s.length : Int)))) rfl (fun hlt => ?_) (fun hlt => ?_)
 ·skip
  have hlt1 : i < s.length := by have h := of_decide_eq_true hlt; omega
  obtain ⟨k_1, rfl⟩ : ∃ k2, k_ = k2 + 1 := ⟨k_ - 1, by omega⟩
  obtain ⟨y1, hb, hL1⟩ := forX_go hL
  unfold F_slices_IndexFunc_impl_Dyadic_impl_Dyadic_l1 at hb
  refine cw_skip (cw_seq (cw_block (cw_seq (cw_region ?_))))
  refine sQ 10 (Y_move (v := vi (i : Int)) rfl (hf.get 8 3 rfl)) ?_
  refine sQ 5 (Y_assign (v := vi (i : Int)) rfl rfl) (rw_nil (cw_seq (cw_region ?_)))
  refine sQ 11 (Y_move (v := .func (.func kf) #[] caps) rfl (hf.get 1 1 rfl)) ?_
  refine sQ 12 (Y_move (v := .slice B s.length c) rfl (hf.get 0 0 rfl)) ?_
  refine sQ 13 (Y_move (v := vi (i : Int)) rfl rfl) ?_
  obtain ⟨x1, hx, hb⟩ := bind_inv hb
  refine sQ 14 (Y_index (B := B) (m := s.length) (c := c) (k := .i64) (i := (i : Int)) k_sl_28_65 k_sz_65_5 rfl rfl rfl (gi_isSome eN2 rfl (hS1.rf (i := 0) rfl) hx) (getI_nn hx) (getI_ltI hx rfl)) ?_
  refine sQ 15 (Y_loadA (B := B) (i := (i : Int).toNat * 5) (cs := (s.flatMap eN0)) (vs := kD_ x1) k_ag_65 k_sz_65_5 rfl rfl (hS1.rf (i := 0) rfl) (eN2 x1) (gi_seg eN2 hx)) ?_
  obtain ⟨r_1, hc, hb⟩ := bind_inv hb
  refine sc 16 rfl rfl (Yc_clos (g := kf) (vs := (gD_ x1) :: caps.toList) hk rfl rfl (clo_args (mc rfl mn)) (hp _ (hS1.innS (fun _ h => mOd (i := 1) h)) x1 r_1 hc)) ?_
  rintro _ w_ ⟨rfl, hd⟩
  have hS2 := hS1.out00 hd
  refine rw_nil ?_
  refine cw_cond (b := r_1) rfl (fun hb1 => ?_) (fun hb1 => ?_)
  ·skip
   have hF2 := ct hb hb1
   refine cw_seq (cw_region ?_)
   refine sQ 17 (Y_move (v := vi (i : Int)) rfl rfl) ?_
   refine sQ 4 (Y_assign (v := vi (i : Int)) rfl rfl) (rw_nil (cw_ret ?_))
   obtain rfl := some_inj hF2
   obtain rfl := some_inj hL1
   obtain rfl := some_inj hF1
   exact ret1 Tryz.results102 (v1 := vi (i : Int)) (resAt_tmp rfl) ⟨rfl, (hS2.sN [])⟩
  ·skip
   have hF3 := cf' hb hb1
   refine cw_skip (cw_region ?_)
   refine sQ 18 (Y_add (k := .i64) (a := (i : Int)) (b := 1) rfl (hf.get 8 3 rfl) rfl) ?_
   refine sQ 8 (Y_move (v := vi (i64.wrap ((i : Int) + 1))) rfl rfl) (rw_nil ?_)
   obtain rfl := some_inj hF3
   exact ⟨k_1, Nat.lt_succ_self _, i + 1, (FF.cons (hf.get 0 0 rfl) (FF.cons (hf.get 1 1 rfl) (FF.cons (hf.get 7 2 rfl) (FF.cons (congrArg (Value.int .i64) (wr_succ hlt1 hN)) FF.nil)))), (hS2.sel [] rfl rfl), (by omega), hL1⟩
 ·skip
  obtain rfl : k_ = 0 := by have h := of_decide_eq_false hlt; omega
  refine cw_exit rfl ?_
  obtain rfl := some_inj hL
  refine cw_seq (cw_region ?_)
  refine sQ 4 (Y_assign (v := vi (-1)) rfl rfl) (rw_nil (cw_ret ?_))
  obtain rfl := some_inj hF1
  exact ret1 Tryz.results102 (v1 := vi (-1)) (resAt_tmp rfl) ⟨rfl, (hS1.sN [])⟩

theorem c_slices_ContainsFunc_impl_Dyadic_impl_Dyadic (s : List TDyadic) (f_ : TDyadic → Option (Bool)) (B : Option Addr) (c n : Nat) (kf : Nat) (caps : Array Value) (Rf : List Ro) (w0 : World) (hn : s.length = n) (hk : callB Tryz.prog kf = true) (hp : ∀ (w : World), ST w [] w [] Rf → ∀ (x : TDyadic) (y : Bool), f_ x = some y → CV Tryz.prog kf ((gD_ x) :: caps.toList).toArray w (fun v w' => v = .bool y ∧ ST w [] w' [] [])) (hS : ST w0 [] w0 [] (⟨B, (s.flatMap eN0)⟩ :: Rf)) {r_ : Bool} (hF : F_slices_ContainsFunc_impl_Dyadic_impl_Dyadic s f_ = some r_) :
  CV Tryz.prog 59 #[.slice B n c, .func (.func kf) #[] caps] w0 (fun v w' => v = .bool r_ ∧ ST w0 [] w' [] []) := by
 subst hn
 unfold F_slices_ContainsFunc_impl_Dyadic_impl_Dyadic at hF
 refine cv_of_cw 9 Tryz.func59 rfl Tryz.ntmps59 rfl ?_
 refine cw_seq (cw_region ?_)
 refine sQ 4 (Y_assign (v := .bool false) rfl rfl) (rw_nil (cw_seq (cw_region ?_)))
 refine sQ 5 (Y_move (v := .slice B s.length c) rfl rfl) ?_
 refine sQ 6 (Y_move (v := .func (.func kf) #[] caps) rfl rfl) ?_
 obtain ⟨r_1, hc, hF⟩ := bind_inv hF
 refine sc 7 rfl rfl (Yc_func (g := 102) (vs := [.slice B s.length c, .func (.func kf) #[] caps]) k_call_102 rfl (mc rfl (mc rfl mn)) (c_slices_IndexFunc_impl_Dyadic_impl_Dyadic s f_ B c s.length kf caps Rf _ rfl hk hp (hS.innS (subc (mem_at (i := 0) rfl) (fun _ h => mOd (i := 1) h))) hc)) ?_
 rintro _ w_ ⟨rfl, hd⟩
 have hS1 := hS.out00 hd
 refine sQ 8 (Y_ge (k := .i64) (a := r_1) (b := 0) rfl rfl rfl) ?_
 refine sQ 4 (Y_assign (v := .bool (decide (0 ≤ r_1))) rfl rfl) (rw_nil (cw_ret ?_))
 obtain rfl := some_inj hF
 exact ret1 Tryz.results59 (v1 := .bool (decide (0 ≤ r_1))) (resAt_tmp rfl) ⟨rfl, (hS1.sN [])⟩

theorem c_impl_IsValidMatrix_1 (x : TDyadic)  (w0 : World)  (hS : ST w0 [] w0 [] []) {r_ : Bool} (hF : F_impl_IsValidMatrix_1 x = some r_) :
  CV Tryz.prog 118 #[gD_ x] w0 (fun v w' => v = .bool r_ ∧ ST w0 [] w' [] []) := by
 unfold F_impl_IsValidMatrix_1 at hF
 refine cv_of_cw 6 Tryz.func118 rfl Tryz.ntmps118 rfl ?_
 refine cw_seq (cw_region ?_)
 refine sS 1 (Ys_box (T := 65) (v := gD_ x) (cs := kD_ x) (m := 5) hS rfl rfl rfl rfl) ?_
 rintro _ w_ ⟨b, rfl, hS1⟩
 refine sQ 2 (Y_assign (v := .bool false) rfl rfl) (rw_nil (cw_seq (cw_region ?_)))
 refine sQ 3 (Y_loadA (B := aD b) (i := 0) (cs := kD_ x) (vs := kD_ x) k_ag_65 k_sz_65_5 rfl rfl (hS1.cf (i := 0) rfl) rfl rfl) ?_
 obtain ⟨r_1, hc, hF⟩ := bind_inv hF
 refine sc 4 rfl rfl (Yc_func (g := 83) (vs := [gD_ x]) k_call_83 rfl (mc rfl mn) (c_impl_IsValidDyadic x _  (hS1.inn0 [] rfl) hc)) ?_
 rintro _ w_1 ⟨rfl, hd⟩
 have hS2 := hS1.out00 hd
 refine sQ 5 (Y_not (p := r_1) rfl rfl) ?_
 refine sQ 2 (Y_assign (v := .bool (!r_1)) rfl rfl) (rw_nil (cw_ret ?_))
 obtain rfl := some_inj hF
 exact ret1 Tryz.results118 (v1 := .bool (!r_1)) (resAt_tmp rfl) ⟨rfl, (hS2.sN [])⟩

theorem c_impl_IsValidMatrix (m : TMatrix) (B : Option Addr) (c n : Nat) (w0 : World) (hn : m.Cells.length = n) (hS : ST w0 [] w0 [] [⟨B, (m.Cells.flatMap eN0)⟩]) {r_ : Bool} (hF : F_impl_IsValidMatrix m = some r_) :
  CV Tryz.prog 82 #[.agg #[vi m.Rows, vi m.Cols, .slice B n c]] w0 (fun v w' => v = .bool r_ ∧ ST w0 [] w' [] []) := by
 subst hn
 unfold F_impl_IsValidMatrix at hF
 refine cv_of_cw 28 Tryz.func82 rfl Tryz.ntmps82 rfl ?_
 refine cw_seq (cw_region ?_)
 refine sS 1 (Ys_box (T := 48) (v := gM_ m B c) (cs := kM_ m B c) (m := 3) hS rfl rfl rfl rfl) ?_
 rintro _ w_ ⟨b, rfl, hS1⟩
 refine sQ 2 (Y_assign (v := .bool false) rfl rfl) (rw_nil (cw_seq (cw_region ?_)))
 refine sQ 3 (Y_fieldAddr (B := aD b) (i := 0) (s := 0) k_fd_48_0_0_3 k_sz_3_1 rfl rfl) ?_
 refine sQ 4 (Y_load1 (B := aD b) (i := 0) (cs := kM_ m B c) (v := vi m.Rows) k_sc_3 rfl rfl (hS1.cf (i := 0) rfl) rfl) ?_
 obtain ⟨r_1, hc, hF⟩ := bind_inv hF
 refine sc 5 rfl rfl (Yc_func (g := 117) (vs := [vi m.Rows]) k_call_117 rfl (mc rfl mn) (c_impl_isDim m.Rows _  (hS1.inn0 [] rfl) hc)) ?_
 rintro _ w_1 ⟨rfl, hd⟩
 have hS2 := hS1.out00 hd
 refine sQ 6 (Y_move (v := .bool r_1) rfl rfl) ?_
 refine sgq 7 (B := r_1) (v := pt (aD b) 1) rfl rfl (uT_ 6) (fun hg => (Y_fieldAddr (B := aD b) (i := 0) (s := 0) k_fd_48_1_1_3 k_sz_3_1 rfl rfl)) ?_
 refine sgq 8 (B := r_1) (v := vi m.Cols) rfl rfl (uT_ 6) (fun hg1 => (Y_load1 (B := aD b) (i := 1) (cs := kM_ m B c) (v := vi m.Cols) k_sc_3 rfl (gv_of (v := pt (aD b) 1) hg1) (hS2.cf (i := 0) rfl) rfl)) ?_
 obtain ⟨r_2, hc1, hF⟩ := bind_inv hF
 refine sgc 9 (B := r_1) (v := .bool r_2) (F := hS2.fn) rfl rfl (uT_ 6) hS2 (fun hg2 => (Yc_func (g := 117) (vs := [vi m.Cols]) k_call_117 rfl (mc (gv_of (v := vi m.Cols) hg2) mn) (CV.mono (c_impl_isDim m.Cols _  (hS2.inn0 [] rfl) (gb_inv hc1 hg2)) (by rintro _ _ ⟨rfl, h⟩; exact ⟨rfl, hS2.out00 h⟩)))) ?_
 rintro w_2 hS3
 refine sQ 10 (Y_and (b := r_1) (z := r_2) rfl rfl rfl rfl) ?_
 refine sQ 11 (Y_move (v := .bool (r_1 && r_2)) rfl rfl) ?_
 refine sgq 12 (B := (r_1 && r_2)) (v := pt (aD b) 2) rfl rfl (uT_ 11) (fun hg3 => (Y_fieldAddr (B := aD b) (i := 0) (s := 0) k_fd_48_2_2_28 k_sz_28_1 rfl rfl)) ?_
 refine sgq 13 (B := (r_1 && r_2)) (v := .slice B m.Cells.length c) rfl rfl (uT_ 11) (fun hg4 => (Y_load1 (B := aD b) (i := 2) (cs := kM_ m B c) (v := .slice B m.Cells.length c) k_sc_28 rfl (gv_of (v := pt (aD b) 2) hg4) (hS3.cf (i := 0) rfl) rfl)) ?_
 refine sgq 14 (B := (r_1 && r_2)) (v := vi (m.Cells.length : Int)) rfl rfl (uT_ 11) (fun hg5 => (Y_len (B := B) (m := m.Cells.length) (c := c) k_sl_28_65 rfl (gv_of (v := .slice B m.Cells.length c) hg5))) ?_
 refine sgq 15 (B := (r_1 && r_2)) (v := pt (aD b) 0) rfl rfl (uT_ 11) (fun hg6 => (Y_fieldAddr (B := aD b) (i := 0) (s := 0) k_fd_48_0_0_3 k_sz_3_1 rfl rfl)) ?_
 refine sgq 16 (B := (r_1 && r_2)) (v := vi m.Rows) rfl rfl (uT_ 11) (fun hg7 => (Y_load1 (B := aD b) (i := 0) (cs := kM_ m B c) (v := vi m.Rows) k_sc_3 rfl (gv_of (v := pt (aD b) 0) hg7) (hS3.cf (i := 0) rfl) rfl)) ?_
 refine sgq 17 (B := (r_1 && r_2)) (v := pt (aD b) 1) rfl rfl (uT_ 11) (fun hg8 => (Y_fieldAddr (B := aD b) (i := 0) (s := 0) k_fd_48_1_1_3 k_sz_3_1 rfl rfl)) ?_
 refine sgq 18 (B := (r_1 && r_2)) (v := vi m.Cols) rfl rfl (uT_ 11) (fun hg9 => (Y_load1 (B := aD b) (i := 1) (cs := kM_ m B c) (v := vi m.Cols) k_sc_3 rfl (gv_of (v := pt (aD b) 1) hg9) (hS3.cf (i := 0) rfl) rfl)) ?_
 refine sgq 19 (B := (r_1 && r_2)) (v := vi (i64.wrap (m.Rows * m.Cols))) rfl rfl (uT_ 11) (fun hg10 => (Y_mul (k := .i64) (a := m.Rows) (b := m.Cols) rfl (gv_of (v := vi m.Rows) hg10) (gv_of (v := vi m.Cols) hg10))) ?_
 refine sgq 20 (B := (r_1 && r_2)) (v := .bool ((m.Cells.length : Int) == (i64.wrap (m.Rows * m.Cols)))) rfl rfl (uT_ 11) (fun hg11 => (Y_eq (k := .i64) (a := (m.Cells.length : Int)) (b := (i64.wrap (m.Rows * m.Cols))) rfl (gv_of (v := vi (m.Cells.length : Int)) hg11) (gv_of (v := vi (i64.wrap (m.Rows * m.Cols))) hg11))) ?_
 refine sQ 21 (Y_and (b := (r_1 && r_2)) (z := ((m.Cells.length : Int) == (i64.wrap (m.Rows * m.Cols)))) rfl rfl rfl rfl) ?_
 refine sQ 22 (Y_move (v := .bool ((r_1 && r_2) && ((m.Cells.length : Int) == (i64.wrap (m.Rows * m.Cols))))) rfl rfl) ?_
 refine sgq 23 (B := ((r_1 && r_2) && ((m.Cells.length : Int) == (i64.wrap (m.Rows * m.Cols))))) (v := pt (aD b) 2) rfl rfl (uT_ 22) (fun hg12 => (Y_fieldAddr (B := aD b) (i := 0) (s := 0) k_fd_48_2_2_28 k_sz_28_1 rfl rfl)) ?_
 refine sgq 24 (B := ((r_1 && r_2) && ((m.Cells.length : Int) == (i64.wrap (m.Rows * m.Cols))))) (v := .slice B m.Cells.length c) rfl rfl (uT_ 22) (fun hg13 => (Y_load1 (B := aD b) (i := 2) (cs := kM_ m B c) (v := .slice B m.Cells.length c) k_sc_28 rfl (gv_of (v := pt (aD b) 2) hg13) (hS3.cf (i := 0) rfl) rfl)) ?_
 obtain ⟨r_3, hc2, hF⟩ := bind_inv hF
 refine sgc 25 (B := ((r_1 && r_2) && ((m.Cells.length : Int) == (i64.wrap (m.Rows * m.Cols))))) (v := .bool r_3) (F := hS3.fn) rfl rfl (uT_ 22) hS3 (fun hg14 => (Yc_func (g := 59) (vs := [.slice B m.Cells.length c, .func (.func 118) #[] #[]]) k_call_59 rfl (mc (gv_of (v := .slice B m.Cells.length c) hg14) (mc rfl mn)) (CV.mono (c_slices_ContainsFunc_impl_Dyadic_impl_Dyadic m.Cells F_impl_IsValidMatrix_1 B c m.Cells.length 118 (#[]) [] _ rfl k_call_118 (fun w hw x_0 y_0 h_ => c_impl_IsValidMatrix_1 x_0  w  hw h_) (hS3.inn0 [(true, 0)] rfl) (gb_inv hc2 hg14)) (by rintro _ _ ⟨rfl, h⟩; exact ⟨rfl, hS3.out00 h⟩)))) ?_
 rintro w_3 hS4
 refine sgq 26 (B := ((r_1 && r_2) && ((m.Cells.length : Int) == (i64.wrap (m.Rows * m.Cols))))) (v := .bool (!r_3)) rfl rfl (uT_ 22) (fun hg15 => (Y_not (p := r_3) rfl (gv_of (v := .bool r_3) hg15))) ?_
 refine sQ 27 (Y_and (b := ((r_1 && r_2) && ((m.Cells.length : Int) == (i64.wrap (m.Rows * m.Cols))))) (z := (!r_3)) rfl rfl rfl rfl) ?_
 refine sQ 2 (Y_assign (v := .bool (((r_1 && r_2) && ((m.Cells.length : Int) == (i64.wrap (m.Rows * m.Cols)))) && (!r_3))) rfl rfl) (rw_nil (cw_ret ?_))
 obtain rfl := some_inj hF
 exact ret1 Tryz.results82 (v1 := .bool (((r_1 && r_2) && ((m.Cells.length : Int) == (i64.wrap (m.Rows * m.Cols)))) && (!r_3))) (resAt_tmp rfl) ⟨rfl, (hS4.sN [])⟩

theorem c_impl_IdentityMatrix_1 (i : Int) (j : Int)  (w0 : World)  (hS : ST w0 [] w0 [] []) {r_ : TDyadic} {r_1 : Bool} (hF : F_impl_IdentityMatrix_1 i j = some (r_, r_1)) :
  CV Tryz.prog 115 #[vi i, vi j] w0 (fun v w' => v = .tuple #[gD_ r_, .bool r_1] ∧ ST w0 [] w' [] []) := by
 unfold F_impl_IdentityMatrix_1 at hF
 refine cv_of_cw 11 Tryz.func115 rfl Tryz.ntmps115 rfl ?_
 refine cw_seq (cw_region ?_)
 refine sS 4 (Ys_alloc (T := 65) (cs := kZ_) (m := 5) hS k_zero_65 rfl rfl rfl) ?_
 rintro _ w_ ⟨b, rfl, hS1⟩
 refine sQ 5 (Y_assign (v := .bool false) rfl rfl) (rw_nil (cw_seq (cw_seq (cw_region ?_))))
 refine sQ 6 (Y_move (v := vi i) rfl rfl) ?_
 refine sQ 7 (Y_move (v := vi j) rfl rfl) ?_
 refine sQ 8 (Y_eq (k := .i64) (a := i) (b := j) rfl rfl rfl) (rw_nil ?_)
 refine cw_cond (b := (i == j)) rfl (fun hb => ?_) (fun hb => ?_)
 ·skip
  have hF1 := ct hF hb
  refine cw_seq (cw_region ?_)
  obtain ⟨r_2, hc, hF1⟩ := bind_inv hF1
  refine sc 9 rfl rfl (Yc_func (g := 65) (vs := [vi 1]) k_call_65 rfl (mc rfl mn) (c_impl_whole 1 _  (hS1.inn0 [] rfl) hc)) ?_
  rintro _ w_1 ⟨rfl, hd⟩
  have hS2 := hS1.out00 hd
  refine s0 (Ys_store (i := 0) (s := 5) (B := aD b) (T' := 65) (v := gD_ r_2) (vs := kD_ r_2) (k := 0) (cs' := kD_ r_2) hS2 k_sz_65_5 rfl rfl rfl rfl rfl rfl rfl (lB rfl) rfl rfl) ?_
  rintro _ w_2 ⟨rfl, hS3⟩
  refine sQ 5 (Y_assign (v := .bool true) rfl rfl) (rw_nil (cw_ret ?_))
  obtain ⟨rfl, rfl⟩ := pr2 (some_inj hF1)
  exact ret2 Tryz.results115 (v1 := gD_ r_2) (resAt_cellA (B := aD b) (i := 0) (cs := kD_ r_2) (vs := kD_ r_2) rfl k_ag_65 k_sz_65_5 (hS3.cf (i := 0) rfl) rfl rfl) (v2 := .bool true) (resAt_tmp rfl) ⟨rfl, (hS3.sN [])⟩
 ·skip
  have hF2 := cf' hF hb
  refine cw_skip (cw_seq (cw_region ?_))
  refine sQ 10 (Y_buildS (zs := kZ_) (vs := []) (cs := kZ_) k_pl_65 k_zero_65 rfl mpn rfl) ?_
  refine s0 (Ys_store (i := 0) (s := 5) (B := aD b) (T' := 65) (v := gZ_) (vs := kZ_) (k := 0) (cs' := kZ_) hS1 k_sz_65_5 rfl rfl rfl rfl rfl rfl rfl (lB rfl) rfl rfl) ?_
  rintro _ w_3 ⟨rfl, hS4⟩
  refine sQ 5 (Y_assign (v := .bool true) rfl rfl) (rw_nil (cw_ret ?_))
  obtain ⟨rfl, rfl⟩ := pr2 (some_inj hF2)
  exact ret2 Tryz.results115 (v1 := gZ_) (resAt_cellA (B := aD b) (i := 0) (cs := kZ_) (vs := kZ_) rfl k_ag_65 k_sz_65_5 (hS4.cf (i := 0) rfl) rfl rfl) (v2 := .bool true) (resAt_tmp rfl) ⟨rfl, (hS4.sN [])⟩

theorem c_impl_IdentityMatrix (n : Int)  (w0 : World)  (hS : ST w0 [] w0 [] []) {r_ : TMatrix} {r_1 : Bool} (hF : F_impl_IdentityMatrix n = some (r_, r_1)) :
  CV Tryz.prog 80 #[vi n] w0 (fun v w' => ∃ (B : Option Addr) (c : Nat), v = .tuple #[gM_ r_ B c, .bool r_1] ∧ ST w0 [] w' [⟨B, 65, (r_.Cells.flatMap eN0), c * 5⟩] []) := by
 unfold F_impl_IdentityMatrix at hF
 refine cv_of_cw 9 Tryz.func80 rfl Tryz.ntmps80 rfl ?_
 refine cw_seq (cw_region ?_)
 refine sS 2 (Ys_alloc (T := 48) (cs := kN_) (m := 3) hS k_zero_48 rfl rfl rfl) ?_
 rintro _ w_ ⟨b, rfl, hS1⟩
 refine sQ 3 (Y_assign (v := .bool false) rfl rfl) (rw_nil (cw_seq (cw_region ?_)))
 refine sQ 4 (Y_move (v := vi n) rfl rfl) ?_
 refine sQ 5 (Y_move (v := vi n) rfl rfl) ?_
 obtain ⟨⟨r_2, r_3⟩, hc, hF⟩ := bind_inv hF
 refine sc 6 rfl rfl (Yc_func (g := 84) (vs := [vi n, vi n, .func (.func 115) #[] #[]]) k_call_84 rfl (mc rfl (mc rfl (mc rfl mn))) (c_impl_matrixOf n n F_impl_IdentityMatrix_1 115 (#[]) [] _ k_call_115 (fun w hw x_0 x_1 y_0 y_1 h_ => c_impl_IdentityMatrix_1 x_0 x_1  w  hw h_) (hS1.inn0 [] rfl) hc)) ?_
 rintro _ w_1 ⟨B1, c1, rfl, hd⟩
 have hS2 := hS1.out0 hd
 refine sQ 7 (Y_extract (v := gM_ r_2 B1 c1) rfl rfl rfl) ?_
 refine sQ 8 (Y_extract (v := .bool r_3) rfl rfl rfl) ?_
 refine s0 (Ys_store (i := 0) (s := 3) (B := aD b) (T' := 48) (v := gM_ r_2 B1 c1) (vs := kM_ r_2 B1 c1) (k := 0) (cs' := kM_ r_2 B1 c1) hS2 k_sz_48_3 rfl rfl rfl rfl rfl rfl rfl (lB rfl) rfl rfl) ?_
 rintro _ w_2 ⟨rfl, hS3⟩
 refine sQ 3 (Y_assign (v := .bool r_3) rfl rfl) (rw_nil (cw_ret ?_))
 obtain ⟨rfl, rfl⟩ := pr2 (some_inj hF)
 exact ret2 Tryz.results80 (v1 := gM_ r_2 B1 c1) (resAt_cellA (B := aD b) (i := 0) (cs := kM_ r_2 B1 c1) (vs := kM_ r_2 B1 c1) rfl k_ag_48 k_sz_48_3 (hS3.cf (i := 0) rfl) rfl rfl) (v2 := .bool r_3) (resAt_tmp rfl) ⟨B1, c1, rfl, (hS3.sN [1])⟩

theorem c_impl_Matrix_at (m : TMatrix) (i : Int) (j : Int) (B : Option Addr) (c n : Nat) (w0 : World) (hn : m.Cells.length = n) (hS : ST w0 [] w0 [] [⟨B, (m.Cells.flatMap eN0)⟩]) {r_ : TDyadic} (hF : F_impl_Matrix_at m i j = some r_) :
  CV Tryz.prog 87 #[.agg #[vi m.Rows, vi m.Cols, .slice B n c], vi i, vi j] w0 (fun v w' => v = (gD_ r_) ∧ ST w0 [] w' [] []) := by
 subst hn
 unfold F_impl_Matrix_at at hF
 refine cv_of_cw 17 Tryz.func87 rfl Tryz.ntmps87 rfl ?_
 refine cw_seq (cw_region ?_)
 refine sS 3 (Ys_box (T := 48) (v := gM_ m B c) (cs := kM_ m B c) (m := 3) hS rfl rfl rfl rfl) ?_
 rintro _ w_ ⟨b, rfl, hS1⟩
 refine sS 6 (Ys_alloc (T := 65) (cs := kZ_) (m := 5) hS1 k_zero_65 rfl rfl rfl) ?_
 rintro _ w_1 ⟨b1, rfl, hS2⟩
 refine rw_nil (cw_seq (cw_region ?_))
 refine sQ 7 (Y_fieldAddr (B := aD b) (i := 0) (s := 0) k_fd_48_2_2_28 k_sz_28_1 rfl rfl) ?_
 refine sQ 8 (Y_load1 (B := aD b) (i := 2) (cs := kM_ m B c) (v := .slice B m.Cells.length c) k_sc_28 rfl rfl (hS2.cf (i := 0) rfl) rfl) ?_
 refine sQ 9 (Y_move (v := vi i) rfl rfl) ?_
 refine sQ 10 (Y_fieldAddr (B := aD b) (i := 0) (s := 0) k_fd_48_1_1_3 k_sz_3_1 rfl rfl) ?_
 refine sQ 11 (Y_load1 (B := aD b) (i := 1) (cs := kM_ m B c) (v := vi m.Cols) k_sc_3 rfl rfl (hS2.cf (i := 0) rfl) rfl) ?_
 refine sQ 12 (Y_mul (k := .i64) (a := i) (b := m.Cols) rfl rfl rfl) ?_
 refine sQ 13 (Y_move (v := vi j) rfl rfl) ?_
 refine sQ 14 (Y_add (k := .i64) (a := (i64.wrap (i * m.Cols))) (b := j) rfl rfl rfl) ?_
 obtain ⟨x, hx, hF⟩ := bind_inv hF
 refine sQ 15 (Y_index (B := B) (m := m.Cells.length) (c := c) (k := .i64) (i := (i64.wrap ((i64.wrap (i * m.Cols)) + j))) k_sl_28_65 k_sz_65_5 rfl rfl rfl (gi_isSome eN2 rfl (hS2.rf (i := 0) rfl) hx) (getI_nn hx) (getI_ltI hx rfl)) ?_
 refine sQ 16 (Y_loadA (B := B) (i := (i64.wrap ((i64.wrap (i * m.Cols)) + j)).toNat * 5) (cs := (m.Cells.flatMap eN0)) (vs := kD_ x) k_ag_65 k_sz_65_5 rfl rfl (hS2.rf (i := 0) rfl) (eN2 x) (gi_seg eN2 hx)) ?_
 refine s0 (Ys_store (i := 1) (s := 5) (B := aD b1) (T' := 65) (v := gD_ x) (vs := kD_ x) (k := 0) (cs' := kD_ x) hS2 k_sz_65_5 rfl rfl rfl rfl rfl rfl rfl (lB rfl) rfl rfl) ?_
 rintro _ w_2 ⟨rfl, hS3⟩
 refine rw_nil (cw_ret ?_)
 obtain rfl := some_inj hF
 exact ret1 Tryz.results87 (v1 := gD_ x) (resAt_cellA (B := aD b1) (i := 0) (cs := kD_ x) (vs := kD_ x) rfl k_ag_65 k_sz_65_5 (hS3.cf (i := 1) rfl) rfl rfl) ⟨rfl, (hS3.sN [])⟩

theorem c_impl_MulMatrix_1 (i : Int) (j : Int) (p : TMatrix) (p1 : TMatrix) (B : Option Addr) (B1 : Option Addr) (c n : Nat) (B2 : Option Addr) (B3 : Option Addr) (c1 n1 : Nat) (w0 : World) (hn : p.Cells.length = n) (hn1 : p1.Cells.length = n1) (hS : ST w0 [] w0 [] [⟨B, [vi p.Rows, vi p.Cols, .slice B1 n c]⟩, ⟨B1, (p.Cells.flatMap eN0)⟩, ⟨B2, [vi p1.Rows, vi p1.Cols, .slice B3 n1 c1]⟩, ⟨B3, (p1.Cells.flatMap eN0)⟩]) {r_ : TDyadic} {r_1 : Bool} (hF : F_impl_MulMatrix_1 i j p p1 = some (r_, r_1)) :
  CV Tryz.prog 141 #[vi i, vi j, pt B 0, pt B2 0] w0 (fun v w' => v = .tuple #[gD_ r_, .bool r_1] ∧ ST w0 [] w' [] []) := by
 subst hn
 subst hn1
 unfold F_impl_MulMatrix_1 at hF
 refine cv_of_cw 48 Tryz.func141 rfl Tryz.ntmps141 rfl ?_
 refine cw_seq (cw_region ?_)
 refine sS 6 (Ys_alloc (T := 65) (cs := kZ_) (m := 5) hS k_zero_65 rfl rfl rfl) ?_
 rintro _ w_ ⟨b, rfl, hS1⟩
 refine sQ 7 (Y_assign (v := .bool false) rfl rfl) (rw_nil (cw_seq (cw_region ?_)))
 refine sQ 14 (Y_buildS (zs := kZ_) (vs := []) (cs := kZ_) k_pl_65 k_zero_65 rfl mpn rfl) ?_
 refine sS 8 (Ys_alloc (T := 65) (cs := kZ_) (m := 5) hS1 k_zero_65 rfl rfl rfl) ?_
 rintro _ w_1 ⟨b1, rfl, hS2⟩
 refine s0 (Ys_store (i := 1) (s := 5) (B := aD b1) (T' := 65) (v := gZ_) (vs := kZ_) (k := 0) (cs' := kZ_) hS2 k_sz_65_5 rfl rfl rfl rfl rfl rfl rfl (lB rfl) rfl rfl) ?_
 rintro _ w_2 ⟨rfl, hS3⟩
 refine rw_nil (cw_seq (cw_seq (cw_region ?_)))
 refine sQ 15 (Y_fieldAddr (B := B) (i := 0) (s := 0) k_fd_48_1_1_3 k_sz_3_1 rfl rfl) ?_
 refine sQ 16 (Y_load1 (B := B) (i := 1) (cs := kM_ p B1 c) (v := vi p.Cols) k_sc_3 rfl rfl (hS3.rf (i := 0) rfl) rfl) ?_
 refine sQ 17 (Y_move (v := vi 0) rfl rfl) (rw_nil ?_)
 obtain ⟨hN, hF⟩ := chk_inv hF
 obtain ⟨z, hz, hF1⟩ := bind_inv hF
 refine cw_block ?_
 refine cw_loop (fun k f w => ∃ (i1 : Nat) (A : Int) (B4 : Int) (C : Int) (D : Int) (Exp : Int), FF f [(0, vi i), (1, vi j), (2, pt B 0), (3, pt B2 0), (6, pt (aD b) 0), (8, pt (aD b1) 0), (16, vi p.Cols), (17, vi (i1 : Int))] ∧ ST w0 [] w [⟨aD b, 65, kZ_, 5⟩, ⟨aD b1, 65, [vi A, vi B4, vi C, vi D, vi Exp], 5⟩] [⟨B, kM_ p B1 c⟩, ⟨B1, (p.Cells.flatMap eN0)⟩, ⟨B2, kM_ p1 B3 c1⟩, ⟨B3, (p1.Cells.flatMap eN0)⟩] ∧ i1 + k = p.Cols.toNat ∧ forX (F_impl_MulMatrix_1_l1 p i p1 j) k i1 (A, B4, C, D, Exp) = some z) p.Cols.toNat ⟨0, 0, 0, 0, 0, 0, (FF.cons rfl (FF.cons rfl (FF.cons rfl (FF.cons rfl (FF.cons rfl (FF.cons rfl (FF.cons rfl (FF.cons rfl FF.nil)))))))), (hS3.sel [0, 1] rfl rfl), Nat.zero_add _, hz⟩ ?_
 rintro k_ f w ⟨i1, A, B4, C, D, Exp, hf, hS4, hik, hL⟩
 refine cw_seq (cw_region ?_)
 refine sQ 18 (Y_lt (k := .i64) (a := (i1 : Int)) (b := p.Cols) rfl (hf.get 17 7 rfl) (hf.get 16 6 rfl)) (rw_nil (cw_seq ?_))
 refine cw_cond (b := (decide ((i1 : Int) < p.Cols))) rfl (fun hlt => ?_) (fun hlt => ?_)
 ·skip
  have hlt1 : i1 < p.Cols.toNat := by have h := of_decide_eq_true hlt; omega
  obtain ⟨k_1, rfl⟩ : ∃ k2, k_ = k2 + 1 := ⟨k_ - 1, by omega⟩
  obtain ⟨y, hb, hL1⟩ := forX_go hL
  unfold F_impl_MulMatrix_1_l1 at hb
  refine cw_skip (cw_seq (cw_block (cw_seq (cw_region ?_))))
  refine sQ 19 (Y_move (v := vi (i1 : Int)) rfl (hf.get 17 7 rfl)) ?_
  refine sQ 9 (Y_assign (v := vi (i1 : Int)) rfl rfl) (rw_nil (cw_seq ?_))
  obtain ⟨r_2, hc, hb⟩ := bind_inv hb
  obtain ⟨r_3, hc1, hb⟩ := bind_inv hb
  obtain ⟨⟨r_4, r_5⟩, hc2, hb⟩ := bind_inv hb
  refine cw_mid (fun f w => ∃ (B5 : Option Addr), FF f [(0, vi i), (1, vi j), (2, pt B 0), (3, pt B2 0), (6, pt (aD b) 0), (8, pt (aD b1) 0), (10, pt B5 0), (11, .bool r_5), (16, vi p.Cols), (17, vi (i1 : Int))] ∧ ST w0 [] w [⟨aD b, 65, kZ_, 5⟩, ⟨aD b1, 65, [vi A, vi B4, vi C, vi D, vi Exp], 5⟩, ⟨B5, 65, kD_ r_4, 5⟩] [⟨B, kM_ p B1 c⟩, ⟨B1, (p.Cells.flatMap eN0)⟩, ⟨B2, kM_ p1 B3 c1⟩, ⟨B3, (p1.Cells.flatMap eN0)⟩]) ?_ ?_
  ·skip
   refine ra_start (hS4.se [0, 1]).fn (by kernel_rfl) ?_
   have hS9 := hS4.drew
   refine rq 0 21 (v := gM_ p B1 c) rfl (hS9.se [0, 1]) (fun w' hw' => (Y_loadA (B := B) (i := 0) (cs := kM_ p B1 c) (vs := kM_ p B1 c) k_ag_48 k_sz_48_3 rfl (hf.get 2 2 rfl) (ST.rf hw' (i := 0) rfl) rfl rfl)) ?_
   refine rq 1 22 (v := vi i) rfl (hS9.se [0, 1]) (fun w' hw' => (Y_move (v := vi i) rfl (hf.get 0 0 rfl))) ?_
   refine rq 2 23 (v := vi (i1 : Int)) rfl (hS9.se [0, 1]) (fun w' hw' => (Y_move (v := vi (i1 : Int)) rfl rfl)) ?_
   refine rq 4 25 (v := gM_ p1 B3 c1) rfl (hS9.se [0, 1]) (fun w' hw' => (Y_loadA (B := B2) (i := 0) (cs := kM_ p1 B3 c1) (vs := kM_ p1 B3 c1) k_ag_48 k_sz_48_3 rfl (hf.get 3 3 rfl) (ST.rf hw' (i := 2) rfl) rfl rfl)) ?_
   refine rq 5 26 (v := vi (i1 : Int)) rfl (hS9.se [0, 1]) (fun w' hw' => (Y_move (v := vi (i1 : Int)) rfl rfl)) ?_
   refine rq 6 27 (v := vi j) rfl (hS9.se [0, 1]) (fun w' hw' => (Y_move (v := vi j) rfl (hf.get 1 1 rfl))) ?_
   refine rA [3, 12] ?_
   refine ra_c 24 (i := 3) rfl rfl rfl (Yc_func (g := 87) (vs := [gM_ p B1 c, vi i, vi (i1 : Int)]) k_call_87 rfl (mc rfl (mc rfl (mc rfl mn))) (c_impl_Matrix_at p i (i1 : Int) B1 c p.Cells.length _ rfl (hS9.inn0 [(true, 1)] rfl) hc)) ?_ ?_
   ·rintro _ w_3 ⟨rfl, hd⟩
    have hS10 := hS9.out00 hd
    refine ⟨(hS10.se [0, 1]), ?_⟩
    refine rA [7, 12] ?_
    refine ra_c 28 (i := 7) rfl rfl rfl (Yc_func (g := 87) (vs := [gM_ p1 B3 c1, vi (i1 : Int), vi j]) k_call_87 rfl (mc rfl (mc rfl (mc rfl mn))) (c_impl_Matrix_at p1 (i1 : Int) j B3 c1 p1.Cells.length _ rfl (hS10.inn0 [(true, 3)] rfl) hc1)) ?_ ?_
    ·rintro _ w_4 ⟨rfl, hd1⟩
     have hS11 := hS10.out00 hd1
     refine ⟨(hS11.se [0, 1]), ?_⟩
     refine rA [8, 12] ?_
     refine ra_c 29 (i := 8) rfl rfl rfl (Yc_func (g := 86) (vs := [gD_ r_2, gD_ r_3]) k_call_86 rfl (mc rfl (mc rfl mn)) (c_impl_MulDyadic r_2 r_3 _  (hS11.inn0 [] rfl) hc2)) ?_ ?_
     ·rintro _ w_5 ⟨rfl, hd2⟩
      have hS12 := hS11.out00 hd2
      refine ⟨(hS12.se [0, 1]), ?_⟩
      refine rq 9 20 (v := .tuple #[gD_ r_4, .bool r_5]) rfl (hS12.se [0, 1]) (fun w' hw' => (Y_move (v := .tuple #[gD_ r_4, .bool r_5]) rfl rfl)) ?_
      refine rq 10 30 (v := gD_ r_4) rfl (hS12.se [0, 1]) (fun w' hw' => (Y_extract (v := gD_ r_4) rfl rfl rfl)) ?_
      refine rq 11 31 (v := .bool r_5) rfl (hS12.se [0, 1]) (fun w' hw' => (Y_extract (v := .bool r_5) rfl rfl rfl)) ?_
      refine rA [12] ?_
      refine ra_s 10 (i := 12) rfl rfl rfl (Ys_alloc (T := 65) (cs := kZ_) (m := 5) hS12 k_zero_65 rfl rfl rfl) ?_ ?_
      ·rintro _ w_6 ⟨b2, rfl, hS13⟩
       refine ⟨(hS13.se [0, 1]), ?_⟩
       refine rA [13] ?_
       refine ra_s0 (i := 13) rfl rfl rfl (Ys_store (i := 2) (s := 5) (B := aD b2) (T' := 65) (v := gD_ r_4) (vs := kD_ r_4) (k := 0) (cs' := kD_ r_4) hS13 k_sz_65_5 rfl rfl rfl rfl rfl rfl rfl (lB rfl) rfl rfl) ?_ ?_
       ·rintro _ w_7 ⟨rfl, hS14⟩
        refine ⟨(hS14.se [0, 1]), ?_⟩
        refine rq 14 11 (v := .bool r_5) rfl (hS14.se [0, 1]) (fun w' hw' => (Y_assign (v := .bool r_5) rfl rfl)) ?_
        refine ra_done (by kernel_rfl) ?_
        exact ⟨aD b2, (FF.cons (hf.get 0 0 rfl) (FF.cons (hf.get 1 1 rfl) (FF.cons (hf.get 2 2 rfl) (FF.cons (hf.get 3 3 rfl) (FF.cons (hf.get 6 4 rfl) (FF.cons (hf.get 8 5 rfl) (FF.cons rfl (FF.cons rfl (FF.cons (hf.get 16 6 rfl) (FF.cons (hf.get 17 7 rfl) FF.nil)))))))))), (hS14.sel [0, 1, 2] rfl rfl)⟩
       exact allR_nil
      exact allR_nil
     refine ra_s 10 (i := 12) rfl rfl rfl (Ys_alloc (T := 65) (cs := kZ_) (m := 5) hS11 k_zero_65 rfl rfl rfl) ?_ ?_
     ·rintro _ w_8 ⟨b2, rfl, hS15⟩
      refine ⟨(hS15.se [0, 1]), ?_⟩
      refine rA [8] ?_
      refine ra_c 29 (i := 8) rfl rfl rfl (Yc_func (g := 86) (vs := [gD_ r_2, gD_ r_3]) k_call_86 rfl (mc rfl (mc rfl mn)) (c_impl_MulDyadic r_2 r_3 _  (hS15.inn0 [] rfl) hc2)) ?_ ?_
      ·rintro _ w_9 ⟨rfl, hd3⟩
       have hS16 := hS15.out00 hd3
       refine ⟨(hS16.se [0, 1]), ?_⟩
       refine rq 9 20 (v := .tuple #[gD_ r_4, .bool r_5]) rfl (hS16.se [0, 1]) (fun w' hw' => (Y_move (v := .tuple #[gD_ r_4, .bool r_5]) rfl rfl)) ?_
       refine rq 10 30 (v := gD_ r_4) rfl (hS16.se [0, 1]) (fun w' hw' => (Y_extract (v := gD_ r_4) rfl rfl rfl)) ?_
       refine rq 11 31 (v := .bool r_5) rfl (hS16.se [0, 1]) (fun w' hw' => (Y_extract (v := .bool r_5) rfl rfl rfl)) ?_
       refine rA [13] ?_
       refine ra_s0 (i := 13) rfl rfl rfl (Ys_store (i := 2) (s := 5) (B := aD b2) (T' := 65) (v := gD_ r_4) (vs := kD_ r_4) (k := 0) (cs' := kD_ r_4) hS16 k_sz_65_5 rfl rfl rfl rfl rfl rfl rfl (lB rfl) rfl rfl) ?_ ?_
       ·rintro _ w_10 ⟨rfl, hS17⟩
        refine ⟨(hS17.se [0, 1]), ?_⟩
        refine rq 14 11 (v := .bool r_5) rfl (hS17.se [0, 1]) (fun w' hw' => (Y_assign (v := .bool r_5) rfl rfl)) ?_
        refine ra_done (by kernel_rfl) ?_
        exact ⟨aD b2, (FF.cons (hf.get 0 0 rfl) (FF.cons (hf.get 1 1 rfl) (FF.cons (hf.get 2 2 rfl) (FF.cons (hf.get 3 3 rfl) (FF.cons (hf.get 6 4 rfl) (FF.cons (hf.get 8 5 rfl) (FF.cons rfl (FF.cons rfl (FF.cons (hf.get 16 6 rfl) (FF.cons (hf.get 17 7 rfl) FF.nil)))))))))), (hS17.sel [0, 1, 2] rfl rfl)⟩
       exact allR_nil
      exact allR_nil
     exact allR_nil
    refine ra_s 10 (i := 12) rfl rfl rfl (Ys_alloc (T := 65) (cs := kZ_) (m := 5) hS10 k_zero_65 rfl rfl rfl) ?_ ?_
    ·rintro _ w_11 ⟨b2, rfl, hS18⟩
     refine ⟨(hS18.se [0, 1]), ?_⟩
     refine rA [7] ?_
     refine ra_c 28 (i := 7) rfl rfl rfl (Yc_func (g := 87) (vs := [gM_ p1 B3 c1, vi (i1 : Int), vi j]) k_call_87 rfl (mc rfl (mc rfl (mc rfl mn))) (c_impl_Matrix_at p1 (i1 : Int) j B3 c1 p1.Cells.length _ rfl (hS18.inn0 [(true, 3)] rfl) hc1)) ?_ ?_
     ·rintro _ w_12 ⟨rfl, hd4⟩
      have hS19 := hS18.out00 hd4
      refine ⟨(hS19.se [0, 1]), ?_⟩
      refine rA [8] ?_
      refine ra_c 29 (i := 8) rfl rfl rfl (Yc_func (g := 86) (vs := [gD_ r_2, gD_ r_3]) k_call_86 rfl (mc rfl (mc rfl mn)) (c_impl_MulDyadic r_2 r_3 _  (hS19.inn0 [] rfl) hc2)) ?_ ?_
      ·rintro _ w_13 ⟨rfl, hd5⟩
       have hS20 := hS19.out00 hd5
       refine ⟨(hS20.se [0, 1]), ?_⟩
       refine rq 9 20 (v := .tuple #[gD_ r_4, .bool r_5]) rfl (hS20.se [0, 1]) (fun w' hw' => (Y_move (v := .tuple #[gD_ r_4, .bool r_5]) rfl rfl)) ?_
       refine rq 10 30 (v := gD_ r_4) rfl (hS20.se [0, 1]) (fun w' hw' => (Y_extract (v := gD_ r_4) rfl rfl rfl)) ?_
       refine rq 11 31 (v := .bool r_5) rfl (hS20.se [0, 1]) (fun w' hw' => (Y_extract (v := .bool r_5) rfl rfl rfl)) ?_
       refine rA [13] ?_
       refine ra_s0 (i := 13) rfl rfl rfl (Ys_store (i := 2) (s := 5) (B := aD b2) (T' := 65) (v := gD_ r_4) (vs := kD_ r_4) (k := 0) (cs' := kD_ r_4) hS20 k_sz_65_5 rfl rfl rfl rfl rfl rfl rfl (lB rfl) rfl rfl) ?_ ?_
       ·rintro _ w_14 ⟨rfl, hS21⟩
        refine ⟨(hS21.se [0, 1]), ?_⟩
        refine rq 14 11 (v := .bool r_5) rfl (hS21.se [0, 1]) (fun w' hw' => (Y_assign (v := .bool r_5) rfl rfl)) ?_
        refine ra_done (by kernel_rfl) ?_
        exact ⟨aD b2, (FF.cons (hf.get 0 0 rfl) (FF.cons (hf.get 1 1 rfl) (FF.cons (hf.get 2 2 rfl) (FF.cons (hf.get 3 3 rfl) (FF.cons (hf.get 6 4 rfl) (FF.cons (hf.get 8 5 rfl) (FF.cons rfl (FF.cons rfl (FF.cons (hf.get 16 6 rfl) (FF.cons (hf.get 17 7 rfl) FF.nil)))))))))), (hS21.sel [0, 1, 2] rfl rfl)⟩
       exact allR_nil
      exact allR_nil
     exact allR_nil
    exact allR_nil
   refine ra_s 10 (i := 12) rfl rfl rfl (Ys_alloc (T := 65) (cs := kZ_) (m := 5) hS9 k_zero_65 rfl rfl rfl) ?_ ?_
   ·rintro _ w_15 ⟨b2, rfl, hS22⟩
    refine ⟨(hS22.se [0, 1]), ?_⟩
    refine rA [3] ?_
    refine ra_c 24 (i := 3) rfl rfl rfl (Yc_func (g := 87) (vs := [gM_ p B1 c, vi i, vi (i1 : Int)]) k_call_87 rfl (mc rfl (mc rfl (mc rfl mn))) (c_impl_Matrix_at p i (i1 : Int) B1 c p.Cells.length _ rfl (hS22.inn0 [(true, 1)] rfl) hc)) ?_ ?_
    ·rintro _ w_16 ⟨rfl, hd6⟩
     have hS23 := hS22.out00 hd6
     refine ⟨(hS23.se [0, 1]), ?_⟩
     refine rA [7] ?_
     refine ra_c 28 (i := 7) rfl rfl rfl (Yc_func (g := 87) (vs := [gM_ p1 B3 c1, vi (i1 : Int), vi j]) k_call_87 rfl (mc rfl (mc rfl (mc rfl mn))) (c_impl_Matrix_at p1 (i1 : Int) j B3 c1 p1.Cells.length _ rfl (hS23.inn0 [(true, 3)] rfl) hc1)) ?_ ?_
     ·rintro _ w_17 ⟨rfl, hd7⟩
      have hS24 := hS23.out00 hd7
      refine ⟨(hS24.se [0, 1]), ?_⟩
      refine rA [8] ?_
      refine ra_c 29 (i := 8) rfl rfl rfl (Yc_func (g := 86) (vs := [gD_ r_2, gD_ r_3]) k_call_86 rfl (mc rfl (mc rfl mn)) (c_impl_MulDyadic r_2 r_3 _  (hS24.inn0 [] rfl) hc2)) ?_ ?_
      ·rintro _ w_18 ⟨rfl, hd8⟩
       have hS25 := hS24.out00 hd8
       refine ⟨(hS25.se [0, 1]), ?_⟩
       refine rq 9 20 (v := .tuple #[gD_ r_4, .bool r_5]) rfl (hS25.se [0, 1]) (fun w' hw' => (Y_move (v := .tuple #[gD_ r_4, .bool r_5]) rfl rfl)) ?_
       refine rq 10 30 (v := gD_ r_4) rfl (hS25.se [0, 1]) (fun w' hw' => (Y_extract (v := gD_ r_4) rfl rfl rfl)) ?_
       refine rq 11 31 (v := .bool r_5) rfl (hS25.se [0, 1]) (fun w' hw' => (Y_extract (v := .bool r_5) rfl rfl rfl)) ?_
       refine rA [13] ?_
       refine ra_s0 (i := 13) rfl rfl rfl (Ys_store (i := 2) (s := 5) (B := aD b2) (T' := 65) (v := gD_ r_4) (vs := kD_ r_4) (k := 0) (cs' := kD_ r_4) hS25 k_sz_65_5 rfl rfl rfl rfl rfl rfl rfl (lB rfl) rfl rfl) ?_ ?_
       ·rintro _ w_19 ⟨rfl, hS26⟩
        refine ⟨(hS26.se [0, 1]), ?_⟩
        refine rq 14 11 (v := .bool r_5) rfl (hS26.se [0, 1]) (fun w' hw' => (Y_assign (v := .bool r_5) rfl rfl)) ?_
        refine ra_done (by kernel_rfl) ?_
        exact ⟨aD b2, (FF.cons (hf.get 0 0 rfl) (FF.cons (hf.get 1 1 rfl) (FF.cons (hf.get 2 2 rfl) (FF.cons (hf.get 3 3 rfl) (FF.cons (hf.get 6 4 rfl) (FF.cons (hf.get 8 5 rfl) (FF.cons rfl (FF.cons rfl (FF.cons (hf.get 16 6 rfl) (FF.cons (hf.get 17 7 rfl) FF.nil)))))))))), (hS26.sel [0, 1, 2] rfl rfl)⟩
       exact allR_nil
      exact allR_nil
     exact allR_nil
    exact allR_nil
   exact allR_nil
  rintro f w ⟨B5, hf1, hS8⟩
  refine cw_seq (cw_region ?_)
  refine sQ 33 (Y_loadA (B := aD b1) (i := 0) (cs := [vi A, vi B4, vi C, vi D, vi Exp]) (vs := [vi A, vi B4, vi C, vi D, vi Exp]) k_ag_65 k_sz_65_5 rfl (hf1.get 8 5 rfl) (hS8.cf (i := 1) rfl) rfl rfl) ?_
  refine sQ 34 (Y_loadA (B := B5) (i := 0) (cs := kD_ r_4) (vs := kD_ r_4) k_ag_65 k_sz_65_5 rfl (hf1.get 10 6 rfl) (hS8.cf (i := 2) rfl) rfl rfl) ?_
  obtain ⟨⟨r_6, r_7⟩, hc3, hb⟩ := bind_inv hb
  refine sc 35 rfl rfl (Yc_func (g := 103) (vs := [.agg #[vi A, vi B4, vi C, vi D, vi Exp], gD_ r_4]) k_call_103 rfl (mc rfl (mc rfl mn)) (c_impl_AddDyadic (TDyadic.mk (TRing.mk A B4 C D) Exp) r_4 _  (hS8.inn0 [] rfl) hc3)) ?_
  rintro _ w_20 ⟨rfl, hd9⟩
  have hS27 := hS8.out00 hd9
  refine sQ 32 (Y_move (v := .tuple #[gD_ r_6, .bool r_7]) rfl rfl) ?_
  refine sQ 36 (Y_extract (v := gD_ r_6) rfl rfl rfl) ?_
  refine sQ 37 (Y_extract (v := .bool r_7) rfl rfl rfl) ?_
  refine sS 12 (Ys_alloc (T := 65) (cs := kZ_) (m := 5) hS27 k_zero_65 rfl rfl rfl) ?_
  rintro _ w_21 ⟨b3, rfl, hS28⟩
  refine s0 (Ys_store (i := 3) (s := 5) (B := aD b3) (T' := 65) (v := gD_ r_6) (vs := kD_ r_6) (k := 0) (cs' := kD_ r_6) hS28 k_sz_65_5 rfl rfl rfl rfl rfl rfl rfl (lB rfl) rfl rfl) ?_
  rintro _ w_22 ⟨rfl, hS29⟩
  refine sQ 13 (Y_assign (v := .bool r_7) rfl rfl) (rw_nil (cw_seq (cw_seq (cw_region ?_))))
  refine sQ 38 (Y_move (v := .bool r_5) rfl (hf1.get 11 7 rfl)) ?_
  refine sQ 39 (Y_not (p := r_5) rfl rfl) ?_
  refine sQ 40 (Y_move (v := .bool (!r_5)) rfl rfl) ?_
  refine sgq 41 (B := (!(!r_5))) (v := .bool r_7) rfl rfl (uF_ 40) (fun hg => (Y_move (v := .bool r_7) rfl rfl)) ?_
  refine sgq 42 (B := (!(!r_5))) (v := .bool (!r_7)) rfl rfl (uF_ 40) (fun hg1 => (Y_not (p := r_7) rfl (gv_of (v := .bool r_7) hg1))) ?_
  refine sQ 43 (Y_or (b := (!r_5)) (z := (!r_7)) rfl rfl rfl rfl) (rw_nil ?_)
  refine cw_cond (b := ((!r_5) || (!r_7))) rfl (fun hb1 => ?_) (fun hb1 => ?_)
  ·skip
   have hF2 := ct hb hb1
   refine cw_seq (cw_region ?_)
   refine sQ 44 (Y_buildS (zs := kZ_) (vs := []) (cs := kZ_) k_pl_65 k_zero_65 rfl mpn rfl) ?_
   refine s0 (Ys_store (i := 0) (s := 5) (B := aD b) (T' := 65) (v := gZ_) (vs := kZ_) (k := 0) (cs' := kZ_) hS29 k_sz_65_5 rfl (hf1.get 6 4 rfl) rfl rfl rfl rfl rfl (lB rfl) rfl rfl) ?_
   rintro _ w_23 ⟨rfl, hS30⟩
   refine sQ 7 (Y_assign (v := .bool false) rfl rfl) (rw_nil (cw_ret ?_))
   obtain rfl := some_inj hF2
   obtain rfl := some_inj hL1
   obtain ⟨rfl, rfl⟩ := pr2 (some_inj hF1)
   exact ret2 Tryz.results141 (v1 := gZ_) (resAt_cellA (B := aD b) (i := 0) (cs := kZ_) (vs := kZ_) (hf1.get 6 4 rfl) k_ag_65 k_sz_65_5 (hS30.cf (i := 0) rfl) rfl rfl) (v2 := .bool false) (resAt_tmp rfl) ⟨rfl, (hS30.sN [])⟩
  ·skip
   have hF3 := cf' hb hb1
   refine cw_skip (cw_region ?_)
   refine sQ 45 (Y_loadA (B := aD b3) (i := 0) (cs := kD_ r_6) (vs := kD_ r_6) k_ag_65 k_sz_65_5 rfl rfl (hS29.cf (i := 3) rfl) rfl rfl) ?_
   refine s0 (Ys_store (i := 1) (s := 5) (B := aD b1) (T' := 65) (v := gD_ r_6) (vs := kD_ r_6) (k := 0) (cs' := kD_ r_6) hS29 k_sz_65_5 rfl (hf1.get 8 5 rfl) rfl rfl rfl rfl rfl (lB rfl) rfl rfl) ?_
   rintro _ w_24 ⟨rfl, hS31⟩
   refine rw_nil (cw_region ?_)
   refine sQ 46 (Y_add (k := .i64) (a := (i1 : Int)) (b := 1) rfl (hf1.get 17 9 rfl) rfl) ?_
   refine sQ 17 (Y_move (v := vi (i64.wrap ((i1 : Int) + 1))) rfl rfl) (rw_nil ?_)
   obtain rfl := some_inj hF3
   exact ⟨k_1, Nat.lt_succ_self _, i1 + 1, r_6.Num.A, r_6.Num.B, r_6.Num.C, r_6.Num.D, r_6.Exp, (FF.cons (hf1.get 0 0 rfl) (FF.cons (hf1.get 1 1 rfl) (FF.cons (hf1.get 2 2 rfl) (FF.cons (hf1.get 3 3 rfl) (FF.cons (hf1.get 6 4 rfl) (FF.cons (hf1.get 8 5 rfl) (FF.cons (hf1.get 16 8 rfl) (FF.cons (congrArg (Value.int .i64) (wr_succ hlt1 hN)) FF.nil)))))))), (hS31.sel [0, 1] rfl rfl), (by omega), hL1⟩
 ·skip
  obtain rfl : k_ = 0 := by have h := of_decide_eq_false hlt; omega
  refine cw_exit rfl ?_
  obtain rfl := some_inj hL
  refine cw_seq (cw_region ?_)
  refine sQ 47 (Y_loadA (B := aD b1) (i := 0) (cs := [vi A, vi B4, vi C, vi D, vi Exp]) (vs := [vi A, vi B4, vi C, vi D, vi Exp]) k_ag_65 k_sz_65_5 rfl (hf.get 8 5 rfl) (hS4.cf (i := 1) rfl) rfl rfl) ?_
  refine s0 (Ys_store (i := 0) (s := 5) (B := aD b) (T' := 65) (v := .agg #[vi A, vi B4, vi C, vi D, vi Exp]) (vs := [vi A, vi B4, vi C, vi D, vi Exp]) (k := 0) (cs' := [vi A, vi B4, vi C, vi D, vi Exp]) hS4 k_sz_65_5 rfl (hf.get 6 4 rfl) rfl rfl rfl rfl rfl (lB rfl) rfl rfl) ?_
  rintro _ w_25 ⟨rfl, hS32⟩
  refine sQ 7 (Y_assign (v := .bool true) rfl rfl) (rw_nil (cw_ret ?_))
  obtain ⟨rfl, rfl⟩ := pr2 (some_inj hF1)
  exact ret2 Tryz.results141 (v1 := .agg #[vi A, vi B4, vi C, vi D, vi Exp]) (resAt_cellA (B := aD b) (i := 0) (cs := [vi A, vi B4, vi C, vi D, vi Exp]) (vs := [vi A, vi B4, vi C, vi D, vi Exp]) (hf.get 6 4 rfl) k_ag_65 k_sz_65_5 (hS32.cf (i := 0) rfl) rfl rfl) (v2 := .bool true) (resAt_tmp rfl) ⟨rfl, (hS32.sN [])⟩

theorem c_impl_MulMatrix (a : TMatrix) (b : TMatrix) (B : Option Addr) (c n : Nat) (B1 : Option Addr) (c1 n1 : Nat) (w0 : World) (hn : a.Cells.length = n) (hn1 : b.Cells.length = n1) (hS : ST w0 [] w0 [] [⟨B, (a.Cells.flatMap eN0)⟩, ⟨B1, (b.Cells.flatMap eN0)⟩]) {r_ : TMatrix} {r_1 : Bool} (hF : F_impl_MulMatrix a b = some (r_, r_1)) :
  CV Tryz.prog 116 #[.agg #[vi a.Rows, vi a.Cols, .slice B n c], .agg #[vi b.Rows, vi b.Cols, .slice B1 n1 c1]] w0 (fun v w' => ∃ (B2 : Option Addr) (c2 : Nat), v = .tuple #[gM_ r_ B2 c2, .bool r_1] ∧ ST w0 [] w' [⟨B2, 65, (r_.Cells.flatMap eN0), c2 * 5⟩] []) := by
 subst hn
 subst hn1
 unfold F_impl_MulMatrix at hF
 refine cv_of_cw 30 Tryz.func116 rfl Tryz.ntmps116 rfl ?_
 refine cw_seq (cw_region ?_)
 refine sS 2 (Ys_box (T := 48) (v := gM_ a B c) (cs := kM_ a B c) (m := 3) hS rfl rfl rfl rfl) ?_
 rintro _ w_ ⟨b1, rfl, hS1⟩
 refine sS 3 (Ys_box (T := 48) (v := gM_ b B1 c1) (cs := kM_ b B1 c1) (m := 3) hS1 rfl rfl rfl rfl) ?_
 rintro _ w_1 ⟨b2, rfl, hS2⟩
 refine sS 4 (Ys_alloc (T := 48) (cs := kN_) (m := 3) hS2 k_zero_48 rfl rfl rfl) ?_
 rintro _ w_2 ⟨b3, rfl, hS3⟩
 refine sQ 5 (Y_assign (v := .bool false) rfl rfl) (rw_nil (cw_seq (cw_seq (cw_region ?_))))
 refine sQ 6 (Y_loadA (B := aD b1) (i := 0) (cs := kM_ a B c) (vs := kM_ a B c) k_ag_48 k_sz_48_3 rfl rfl (hS3.cf (i := 0) rfl) rfl rfl) ?_
 obtain ⟨r_2, hc, hF⟩ := bind_inv hF
 refine sc 7 rfl rfl (Yc_func (g := 82) (vs := [gM_ a B c]) k_call_82 rfl (mc rfl mn) (c_impl_IsValidMatrix a B c a.Cells.length _ rfl (hS3.inn0 [(true, 0)] rfl) hc)) ?_
 rintro _ w_3 ⟨rfl, hd⟩
 have hS4 := hS3.out00 hd
 refine sQ 8 (Y_not (p := r_2) rfl rfl) ?_
 refine sQ 9 (Y_move (v := .bool (!r_2)) rfl rfl) ?_
 refine sgq 10 (B := (!(!r_2))) (v := gM_ b B1 c1) rfl rfl (uF_ 9) (fun hg => (Y_loadA (B := aD b2) (i := 0) (cs := kM_ b B1 c1) (vs := kM_ b B1 c1) k_ag_48 k_sz_48_3 rfl rfl (hS4.cf (i := 1) rfl) rfl rfl)) ?_
 obtain ⟨r_3, hc1, hF⟩ := bind_inv hF
 refine sgc 11 (B := (!(!r_2))) (v := .bool r_3) (F := hS4.fn) rfl rfl (uF_ 9) hS4 (fun hg1 => (Yc_func (g := 82) (vs := [gM_ b B1 c1]) k_call_82 rfl (mc (gv_of (v := gM_ b B1 c1) hg1) mn) (CV.mono (c_impl_IsValidMatrix b B1 c1 b.Cells.length _ rfl (hS4.inn0 [(true, 1)] rfl) (gb_inv hc1 hg1)) (by rintro _ _ ⟨rfl, h⟩; exact ⟨rfl, hS4.out00 h⟩)))) ?_
 rintro w_4 hS5
 refine sgq 12 (B := (!(!r_2))) (v := .bool (!r_3)) rfl rfl (uF_ 9) (fun hg2 => (Y_not (p := r_3) rfl (gv_of (v := .bool r_3) hg2))) ?_
 refine sQ 13 (Y_or (b := (!r_2)) (z := (!r_3)) rfl rfl rfl rfl) ?_
 refine sQ 14 (Y_move (v := .bool ((!r_2) || (!r_3))) rfl rfl) ?_
 refine sgq 15 (B := (!((!r_2) || (!r_3)))) (v := pt (aD b1) 1) rfl rfl (uF_ 14) (fun hg3 => (Y_fieldAddr (B := aD b1) (i := 0) (s := 0) k_fd_48_1_1_3 k_sz_3_1 rfl rfl)) ?_
 refine sgq 16 (B := (!((!r_2) || (!r_3)))) (v := vi a.Cols) rfl rfl (uF_ 14) (fun hg4 => (Y_load1 (B := aD b1) (i := 1) (cs := kM_ a B c) (v := vi a.Cols) k_sc_3 rfl (gv_of (v := pt (aD b1) 1) hg4) (hS5.cf (i := 0) rfl) rfl)) ?_
 refine sgq 17 (B := (!((!r_2) || (!r_3)))) (v := pt (aD b2) 0) rfl rfl (uF_ 14) (fun hg5 => (Y_fieldAddr (B := aD b2) (i := 0) (s := 0) k_fd_48_0_0_3 k_sz_3_1 rfl rfl)) ?_
 refine sgq 18 (B := (!((!r_2) || (!r_3)))) (v := vi b.Rows) rfl rfl (uF_ 14) (fun hg6 => (Y_load1 (B := aD b2) (i := 0) (cs := kM_ b B1 c1) (v := vi b.Rows) k_sc_3 rfl (gv_of (v := pt (aD b2) 0) hg6) (hS5.cf (i := 1) rfl) rfl)) ?_
 refine sgq 19 (B := (!((!r_2) || (!r_3)))) (v := .bool (a.Cols != b.Rows)) rfl rfl (uF_ 14) (fun hg7 => (Y_ne (k := .i64) (a := a.Cols) (b := b.Rows) rfl (gv_of (v := vi a.Cols) hg7) (gv_of (v := vi b.Rows) hg7))) ?_
 refine sQ 20 (Y_or (b := ((!r_2) || (!r_3))) (z := (a.Cols != b.Rows)) rfl rfl rfl rfl) (rw_nil ?_)
 refine cw_cond (b := (((!r_2) || (!r_3)) || (a.Cols != b.Rows))) rfl (fun hb => ?_) (fun hb => ?_)
 ·skip
  have hF1 := ct hF hb
  refine cw_seq (cw_region ?_)
  refine sQ 21 (Y_buildS (zs := kN_) (vs := []) (cs := kN_) k_pl_48 k_zero_48 rfl mpn rfl) ?_
  refine s0 (Ys_store (i := 2) (s := 3) (B := aD b3) (T' := 48) (v := gN_) (vs := kN_) (k := 0) (cs' := kN_) hS5 k_sz_48_3 rfl rfl rfl rfl rfl rfl rfl (lB rfl) rfl rfl) ?_
  rintro _ w_5 ⟨rfl, hS6⟩
  refine sQ 5 (Y_assign (v := .bool false) rfl rfl) (rw_nil (cw_ret ?_))
  have hS7 := hS6.addNil 65
  obtain ⟨rfl, rfl⟩ := pr2 (some_inj hF1)
  exact ret2 Tryz.results116 (v1 := gN_) (resAt_cellA (B := aD b3) (i := 0) (cs := kN_) (vs := kN_) rfl k_ag_48 k_sz_48_3 (hS7.cf (i := 2) rfl) rfl rfl) (v2 := .bool false) (resAt_tmp rfl) ⟨none, 0, rfl, (hS7.sN [3])⟩
 ·skip
  have hF2 := cf' hF hb
  refine cw_skip (cw_seq (cw_region ?_))
  refine sQ 22 (Y_fieldAddr (B := aD b1) (i := 0) (s := 0) k_fd_48_0_0_3 k_sz_3_1 rfl rfl) ?_
  refine sQ 23 (Y_load1 (B := aD b1) (i := 0) (cs := kM_ a B c) (v := vi a.Rows) k_sc_3 rfl rfl (hS5.cf (i := 0) rfl) rfl) ?_
  refine sQ 24 (Y_fieldAddr (B := aD b2) (i := 0) (s := 0) k_fd_48_1_1_3 k_sz_3_1 rfl rfl) ?_
  refine sQ 25 (Y_load1 (B := aD b2) (i := 1) (cs := kM_ b B1 c1) (v := vi b.Cols) k_sc_3 rfl rfl (hS5.cf (i := 1) rfl) rfl) ?_
  refine sQ 26 (Y_makeFunc (cs := [pt (aD b1) 0, pt (aD b2) 0]) rfl rfl (mc rfl (mc rfl mn))) ?_
  obtain ⟨⟨r_4, r_5⟩, hc2, hF2⟩ := bind_inv hF2
  refine sc 27 rfl rfl (Yc_func (g := 84) (vs := [vi a.Rows, vi b.Cols, .func (.func 141) #[] #[pt (aD b1) 0, pt (aD b2) 0]]) k_call_84 rfl (mc rfl (mc rfl (mc rfl mn))) (c_impl_matrixOf a.Rows b.Cols (fun x_0 x_1 => F_impl_MulMatrix_1 x_0 x_1 a b) 141 (#[pt (aD b1) 0, pt (aD b2) 0]) [⟨aD b1, kM_ a B c⟩, ⟨B, (a.Cells.flatMap eN0)⟩, ⟨aD b2, kM_ b B1 c1⟩, ⟨B1, (b.Cells.flatMap eN0)⟩] _ k_call_141 (fun w hw x_0 x_1 y_0 y_1 h_ => c_impl_MulMatrix_1 x_0 x_1 a b (aD b1) B c a.Cells.length (aD b2) B1 c1 b.Cells.length w rfl rfl hw h_) (hS5.inn0 [(false, 0), (true, 0), (false, 1), (true, 1)] rfl) hc2)) ?_
  rintro _ w_6 ⟨B3, c3, rfl, hd1⟩
  have hS8 := hS5.out0 hd1
  refine sQ 28 (Y_extract (v := gM_ r_4 B3 c3) rfl rfl rfl) ?_
  refine sQ 29 (Y_extract (v := .bool r_5) rfl rfl rfl) ?_
  refine s0 (Ys_store (i := 2) (s := 3) (B := aD b3) (T' := 48) (v := gM_ r_4 B3 c3) (vs := kM_ r_4 B3 c3) (k := 0) (cs' := kM_ r_4 B3 c3) hS8 k_sz_48_3 rfl rfl rfl rfl rfl rfl rfl (lB rfl) rfl rfl) ?_
  rintro _ w_7 ⟨rfl, hS9⟩
  refine sQ 5 (Y_assign (v := .bool r_5) rfl rfl) (rw_nil (cw_ret ?_))
  obtain ⟨rfl, rfl⟩ := pr2 (some_inj hF2)
  exact ret2 Tryz.results116 (v1 := gM_ r_4 B3 c3) (resAt_cellA (B := aD b3) (i := 0) (cs := kM_ r_4 B3 c3) (vs := kM_ r_4 B3 c3) rfl k_ag_48 k_sz_48_3 (hS9.cf (i := 2) rfl) rfl rfl) (v2 := .bool r_5) (resAt_tmp rfl) ⟨B3, c3, rfl, (hS9.sN [3])⟩

theorem c_impl_Conjugate (x : TRing)  (w0 : World)  (hS : ST w0 [] w0 [] []) {r_ : TRing} {r_1 : Bool} (hF : F_impl_Conjugate x = some (r_, r_1)) :
  CV Tryz.prog 154 #[gR_ x] w0 (fun v w' => v = .tuple #[gR_ r_, .bool r_1] ∧ ST w0 [] w' [] []) := by
 unfold F_impl_Conjugate at hF
 refine cv_of_cw 21 Tryz.func154 rfl Tryz.ntmps154 rfl ?_
 refine cw_seq (cw_region ?_)
 refine sS 1 (Ys_box (T := 63) (v := gR_ x) (cs := kR_ x) (m := 4) hS rfl rfl rfl rfl) ?_
 rintro _ w_ ⟨b, rfl, hS1⟩
 refine sS 2 (Ys_alloc (T := 63) (cs := [vi 0, vi 0, vi 0, vi 0]) (m := 4) hS1 k_zero_63 rfl rfl rfl) ?_
 rintro _ w_1 ⟨b1, rfl, hS2⟩
 refine sQ 3 (Y_assign (v := .bool false) rfl rfl) (rw_nil (cw_seq (cw_region ?_)))
 refine sQ 4 (Y_fieldAddr (B := aD b) (i := 0) (s := 0) k_fd_63_0_0_3 k_sz_3_1 rfl rfl) ?_
 refine sQ 5 (Y_load1 (B := aD b) (i := 0) (cs := kR_ x) (v := vi x.A) k_sc_3 rfl rfl (hS2.cf (i := 0) rfl) rfl) ?_
 refine sQ 6 (Y_fieldAddr (B := aD b) (i := 0) (s := 0) k_fd_63_3_3_3 k_sz_3_1 rfl rfl) ?_
 refine sQ 7 (Y_load1 (B := aD b) (i := 3) (cs := kR_ x) (v := vi x.D) k_sc_3 rfl rfl (hS2.cf (i := 0) rfl) rfl) ?_
 refine sQ 8 (Y_neg (k := .i64) (a := x.D) rfl rfl) ?_
 refine sQ 9 (Y_fieldAddr (B := aD b) (i := 0) (s := 0) k_fd_63_2_2_3 k_sz_3_1 rfl rfl) ?_
 refine sQ 10 (Y_load1 (B := aD b) (i := 2) (cs := kR_ x) (v := vi x.C) k_sc_3 rfl rfl (hS2.cf (i := 0) rfl) rfl) ?_
 refine sQ 11 (Y_neg (k := .i64) (a := x.C) rfl rfl) ?_
 refine sQ 12 (Y_fieldAddr (B := aD b) (i := 0) (s := 0) k_fd_63_1_1_3 k_sz_3_1 rfl rfl) ?_
 refine sQ 13 (Y_load1 (B := aD b) (i := 1) (cs := kR_ x) (v := vi x.B) k_sc_3 rfl rfl (hS2.cf (i := 0) rfl) rfl) ?_
 refine sQ 14 (Y_neg (k := .i64) (a := x.B) rfl rfl) ?_
 refine sQ 15 (Y_buildS (zs := [vi 0, vi 0, vi 0, vi 0]) (vs := [(0, vi x.A), (1, vi (i64.wrap (-x.D))), (2, vi (i64.wrap (-x.C))), (3, vi (i64.wrap (-x.B)))]) (cs := [vi x.A, vi (i64.wrap (-x.D)), vi (i64.wrap (-x.C)), vi (i64.wrap (-x.B))]) k_pl_63 k_zero_63 rfl (mpc rfl (mpc rfl (mpc rfl (mpc rfl mpn)))) rfl) ?_
 refine sQ 16 (Y_loadA (B := aD b) (i := 0) (cs := kR_ x) (vs := kR_ x) k_ag_63 k_sz_63_4 rfl rfl (hS2.cf (i := 0) rfl) rfl rfl) ?_
 refine sS 17 (Ys_bslice (s := 4) (len := 1) (vs := [(0, gR_ x)]) (cs := kR_ x) (zs := [vi 0, vi 0, vi 0, vi 0]) (m := 4) hS2 k_sl_169_63 k_sz_63_4 k_zc_63 rfl (mpc rfl mpn) rfl rfl rfl (by kernel_rfl) (by kernel_rfl) rfl) ?_
 rintro _ w_2 ⟨b2, rfl, hS3⟩
 obtain ⟨⟨r_2, r_3⟩, hc, hF⟩ := bind_inv hF
 refine sc 18 rfl rfl (Yc_func (g := 143) (vs := [.agg #[vi x.A, vi (i64.wrap (-x.D)), vi (i64.wrap (-x.C)), vi (i64.wrap (-x.B))], .slice (aD b2) 1 1]) k_call_143 rfl (mc rfl (mc rfl mn)) (c_impl_ringIf (TRing.mk x.A (i64.wrap (-x.D)) (i64.wrap (-x.C)) (i64.wrap (-x.B))) [x] (aD b2) 1 1 _ rfl (hS3.inn [false, false, true] rfl [] rfl) hc)) ?_
 rintro _ w_3 ⟨rfl, hd⟩
 have hS4 := hS3.out [false, false, true] rfl hd
 refine sQ 19 (Y_extract (v := gR_ r_2) rfl rfl rfl) ?_
 refine sQ 20 (Y_extract (v := .bool r_3) rfl rfl rfl) ?_
 refine s0 (Ys_store (i := 1) (s := 4) (B := aD b1) (T' := 63) (v := gR_ r_2) (vs := kR_ r_2) (k := 0) (cs' := kR_ r_2) hS4 k_sz_63_4 rfl rfl rfl rfl rfl rfl rfl (lB rfl) rfl rfl) ?_
 rintro _ w_4 ⟨rfl, hS5⟩
 refine sQ 3 (Y_assign (v := .bool r_3) rfl rfl) (rw_nil (cw_ret ?_))
 obtain ⟨rfl, rfl⟩ := pr2 (some_inj hF)
 exact ret2 Tryz.results154 (v1 := gR_ r_2) (resAt_cellA (B := aD b1) (i := 0) (cs := kR_ r_2) (vs := kR_ r_2) rfl k_ag_63 k_sz_63_4 (hS5.cf (i := 1) rfl) rfl rfl) (v2 := .bool r_3) (resAt_tmp rfl) ⟨rfl, (hS5.sN [])⟩

theorem c_impl_ConjDyadic (x : TDyadic)  (w0 : World)  (hS : ST w0 [] w0 [] []) {r_ : TDyadic} {r_1 : Bool} (hF : F_impl_ConjDyadic x = some (r_, r_1)) :
  CV Tryz.prog 149 #[gD_ x] w0 (fun v w' => v = .tuple #[gD_ r_, .bool r_1] ∧ ST w0 [] w' [] []) := by
 unfold F_impl_ConjDyadic at hF
 refine cv_of_cw 20 Tryz.func149 rfl Tryz.ntmps149 rfl ?_
 refine cw_seq (cw_region ?_)
 refine sS 1 (Ys_box (T := 65) (v := gD_ x) (cs := kD_ x) (m := 5) hS rfl rfl rfl rfl) ?_
 rintro _ w_ ⟨b, rfl, hS1⟩
 refine sS 2 (Ys_alloc (T := 65) (cs := kZ_) (m := 5) hS1 k_zero_65 rfl rfl rfl) ?_
 rintro _ w_1 ⟨b1, rfl, hS2⟩
 refine sQ 3 (Y_assign (v := .bool false) rfl rfl) (rw_nil (cw_seq (cw_seq (cw_region ?_))))
 refine sQ 6 (Y_loadA (B := aD b) (i := 0) (cs := kD_ x) (vs := kD_ x) k_ag_65 k_sz_65_5 rfl rfl (hS2.cf (i := 0) rfl) rfl rfl) ?_
 obtain ⟨r_2, hc, hF⟩ := bind_inv hF
 refine sc 7 rfl rfl (Yc_func (g := 83) (vs := [gD_ x]) k_call_83 rfl (mc rfl mn) (c_impl_IsValidDyadic x _  (hS2.inn0 [] rfl) hc)) ?_
 rintro _ w_2 ⟨rfl, hd⟩
 have hS3 := hS2.out00 hd
 refine sQ 8 (Y_not (p := r_2) rfl rfl) (rw_nil ?_)
 refine cw_cond (b := (!r_2)) rfl (fun hb => ?_) (fun hb => ?_)
 ·skip
  have hF1 := ct hF hb
  refine cw_seq (cw_region ?_)
  refine sQ 9 (Y_buildS (zs := kZ_) (vs := []) (cs := kZ_) k_pl_65 k_zero_65 rfl mpn rfl) ?_
  refine s0 (Ys_store (i := 1) (s := 5) (B := aD b1) (T' := 65) (v := gZ_) (vs := kZ_) (k := 0) (cs' := kZ_) hS3 k_sz_65_5 rfl rfl rfl rfl rfl rfl rfl (lB rfl) rfl rfl) ?_
  rintro _ w_3 ⟨rfl, hS4⟩
  refine sQ 3 (Y_assign (v := .bool false) rfl rfl) (rw_nil (cw_ret ?_))
  obtain ⟨rfl, rfl⟩ := pr2 (some_inj hF1)
  exact ret2 Tryz.results149 (v1 := gZ_) (resAt_cellA (B := aD b1) (i := 0) (cs := kZ_) (vs := kZ_) rfl k_ag_65 k_sz_65_5 (hS4.cf (i := 1) rfl) rfl rfl) (v2 := .bool false) (resAt_tmp rfl) ⟨rfl, (hS4.sN [])⟩
 ·skip
  have hF2 := cf' hF hb
  refine cw_skip (cw_seq (cw_region ?_))
  refine sQ 11 (Y_fieldAddr (B := aD b) (i := 0) (s := 3) k_fd_65_0_0_63 k_sz_63_4 rfl rfl) ?_
  refine sQ 12 (Y_loadA (B := aD b) (i := 0) (cs := kD_ x) (vs := kR_ x.Num) k_ag_63 k_sz_63_4 rfl rfl (hS3.cf (i := 0) rfl) rfl rfl) ?_
  obtain ⟨⟨r_3, r_4⟩, hc1, hF2⟩ := bind_inv hF2
  refine sc 13 rfl rfl (Yc_func (g := 154) (vs := [gR_ x.Num]) k_call_154 rfl (mc rfl mn) (c_impl_Conjugate x.Num _  (hS3.inn0 [] rfl) hc1)) ?_
  rintro _ w_4 ⟨rfl, hd1⟩
  have hS5 := hS3.out00 hd1
  refine sQ 10 (Y_move (v := .tuple #[gR_ r_3, .bool r_4]) rfl rfl) ?_
  refine sQ 14 (Y_extract (v := gR_ r_3) rfl rfl rfl) ?_
  refine sQ 15 (Y_extract (v := .bool r_4) rfl rfl rfl) ?_
  refine sS 4 (Ys_alloc (T := 63) (cs := [vi 0, vi 0, vi 0, vi 0]) (m := 4) hS5 k_zero_63 rfl rfl rfl) ?_
  rintro _ w_5 ⟨b2, rfl, hS6⟩
  refine s0 (Ys_store (i := 2) (s := 4) (B := aD b2) (T' := 63) (v := gR_ r_3) (vs := kR_ r_3) (k := 0) (cs' := kR_ r_3) hS6 k_sz_63_4 rfl rfl rfl rfl rfl rfl rfl (lB rfl) rfl rfl) ?_
  rintro _ w_6 ⟨rfl, hS7⟩
  refine sQ 5 (Y_assign (v := .bool r_4) rfl rfl) (rw_nil (cw_seq (cw_region ?_)))
  refine sQ 16 (Y_loadA (B := aD b2) (i := 0) (cs := kR_ r_3) (vs := kR_ r_3) k_ag_63 k_sz_63_4 rfl rfl (hS7.cf (i := 2) rfl) rfl rfl) ?_
  refine sQ 17 (Y_fieldAddr (B := aD b) (i := 0) (s := 0) k_fd_65_1_4_3 k_sz_3_1 rfl rfl) ?_
  refine sQ 18 (Y_load1 (B := aD b) (i := 4) (cs := kD_ x) (v := vi x.Exp) k_sc_3 rfl rfl (hS7.cf (i := 0) rfl) rfl) ?_
  refine sQ 19 (Y_buildS (zs := kZ_) (vs := [(0, gR_ r_3), (1, vi x.Exp)]) (cs := [vi r_3.A, vi r_3.B, vi r_3.C, vi r_3.D, vi x.Exp]) k_pl_65 k_zero_65 rfl (mpc rfl (mpc rfl mpn)) rfl) ?_
  refine s0 (Ys_store (i := 1) (s := 5) (B := aD b1) (T' := 65) (v := .agg #[vi r_3.A, vi r_3.B, vi r_3.C, vi r_3.D, vi x.Exp]) (vs := [vi r_3.A, vi r_3.B, vi r_3.C, vi r_3.D, vi x.Exp]) (k := 0) (cs' := [vi r_3.A, vi r_3.B, vi r_3.C, vi r_3.D, vi x.Exp]) hS7 k_sz_65_5 rfl rfl rfl rfl rfl rfl rfl (lB rfl) rfl rfl) ?_
  rintro _ w_7 ⟨rfl, hS8⟩
  refine sQ 3 (Y_assign (v := .bool true) rfl rfl) (rw_nil (cw_ret ?_))
  obtain ⟨rfl, rfl⟩ := pr2 (some_inj hF2)
  exact ret2 Tryz.results149 (v1 := .agg #[vi r_3.A, vi r_3.B, vi r_3.C, vi r_3.D, vi x.Exp]) (resAt_cellA (B := aD b1) (i := 0) (cs := [vi r_3.A, vi r_3.B, vi r_3.C, vi r_3.D, vi x.Exp]) (vs := [vi r_3.A, vi r_3.B, vi r_3.C, vi r_3.D, vi x.Exp]) rfl k_ag_65 k_sz_65_5 (hS8.cf (i := 1) rfl) rfl rfl) (v2 := .bool true) (resAt_tmp rfl) ⟨rfl, (hS8.sN [])⟩

theorem c_impl_Adjoint_1 (i : Int) (j : Int) (p : TMatrix) (B : Option Addr) (B1 : Option Addr) (c n : Nat) (w0 : World) (hn : p.Cells.length = n) (hS : ST w0 [] w0 [] [⟨B, [vi p.Rows, vi p.Cols, .slice B1 n c]⟩, ⟨B1, (p.Cells.flatMap eN0)⟩]) {r_ : TDyadic} {r_1 : Bool} (hF : F_impl_Adjoint_1 i j p = some (r_, r_1)) :
  CV Tryz.prog 148 #[vi i, vi j, pt B 0] w0 (fun v w' => v = .tuple #[gD_ r_, .bool r_1] ∧ ST w0 [] w' [] []) := by
 subst hn
 unfold F_impl_Adjoint_1 at hF
 refine cv_of_cw 14 Tryz.func148 rfl Tryz.ntmps148 rfl ?_
 refine cw_seq (cw_region ?_)
 refine sS 5 (Ys_alloc (T := 65) (cs := kZ_) (m := 5) hS k_zero_65 rfl rfl rfl) ?_
 rintro _ w_ ⟨b, rfl, hS1⟩
 refine sQ 6 (Y_assign (v := .bool false) rfl rfl) (rw_nil (cw_seq (cw_region ?_)))
 refine sQ 7 (Y_loadA (B := B) (i := 0) (cs := kM_ p B1 c) (vs := kM_ p B1 c) k_ag_48 k_sz_48_3 rfl rfl (hS1.rf (i := 0) rfl) rfl rfl) ?_
 refine sQ 8 (Y_move (v := vi j) rfl rfl) ?_
 refine sQ 9 (Y_move (v := vi i) rfl rfl) ?_
 obtain ⟨r_2, hc, hF⟩ := bind_inv hF
 refine sc 10 rfl rfl (Yc_func (g := 87) (vs := [gM_ p B1 c, vi j, vi i]) k_call_87 rfl (mc rfl (mc rfl (mc rfl mn))) (c_impl_Matrix_at p j i B1 c p.Cells.length _ rfl (hS1.inn0 [(true, 1)] rfl) hc)) ?_
 rintro _ w_1 ⟨rfl, hd⟩
 have hS2 := hS1.out00 hd
 obtain ⟨⟨r_3, r_4⟩, hc1, hF⟩ := bind_inv hF
 refine sc 11 rfl rfl (Yc_func (g := 149) (vs := [gD_ r_2]) k_call_149 rfl (mc rfl mn) (c_impl_ConjDyadic r_2 _  (hS2.inn0 [] rfl) hc1)) ?_
 rintro _ w_2 ⟨rfl, hd1⟩
 have hS3 := hS2.out00 hd1
 refine sQ 12 (Y_extract (v := gD_ r_3) rfl rfl rfl) ?_
 refine sQ 13 (Y_extract (v := .bool r_4) rfl rfl rfl) ?_
 refine s0 (Ys_store (i := 0) (s := 5) (B := aD b) (T' := 65) (v := gD_ r_3) (vs := kD_ r_3) (k := 0) (cs' := kD_ r_3) hS3 k_sz_65_5 rfl rfl rfl rfl rfl rfl rfl (lB rfl) rfl rfl) ?_
 rintro _ w_3 ⟨rfl, hS4⟩
 refine sQ 6 (Y_assign (v := .bool r_4) rfl rfl) (rw_nil (cw_ret ?_))
 obtain ⟨rfl, rfl⟩ := pr2 (some_inj hF)
 exact ret2 Tryz.results148 (v1 := gD_ r_3) (resAt_cellA (B := aD b) (i := 0) (cs := kD_ r_3) (vs := kD_ r_3) rfl k_ag_65 k_sz_65_5 (hS4.cf (i := 0) rfl) rfl rfl) (v2 := .bool r_4) (resAt_tmp rfl) ⟨rfl, (hS4.sN [])⟩

theorem c_impl_Adjoint (m : TMatrix) (B : Option Addr) (c n : Nat) (w0 : World) (hn : m.Cells.length = n) (hS : ST w0 [] w0 [] [⟨B, (m.Cells.flatMap eN0)⟩]) {r_ : TMatrix} {r_1 : Bool} (hF : F_impl_Adjoint m = some (r_, r_1)) :
  CV Tryz.prog 137 #[.agg #[vi m.Rows, vi m.Cols, .slice B n c]] w0 (fun v w' => ∃ (B1 : Option Addr) (c1 : Nat), v = .tuple #[gM_ r_ B1 c1, .bool r_1] ∧ ST w0 [] w' [⟨B1, 65, (r_.Cells.flatMap eN0), c1 * 5⟩] []) := by
 subst hn
 unfold F_impl_Adjoint at hF
 refine cv_of_cw 16 Tryz.func137 rfl Tryz.ntmps137 rfl ?_
 refine cw_seq (cw_region ?_)
 refine sS 1 (Ys_box (T := 48) (v := gM_ m B c) (cs := kM_ m B c) (m := 3) hS rfl rfl rfl rfl) ?_
 rintro _ w_ ⟨b, rfl, hS1⟩
 refine sS 2 (Ys_alloc (T := 48) (cs := kN_) (m := 3) hS1 k_zero_48 rfl rfl rfl) ?_
 rintro _ w_1 ⟨b1, rfl, hS2⟩
 refine sQ 3 (Y_assign (v := .bool false) rfl rfl) (rw_nil (cw_seq (cw_seq (cw_region ?_))))
 refine sQ 4 (Y_loadA (B := aD b) (i := 0) (cs := kM_ m B c) (vs := kM_ m B c) k_ag_48 k_sz_48_3 rfl rfl (hS2.cf (i := 0) rfl) rfl rfl) ?_
 obtain ⟨r_2, hc, hF⟩ := bind_inv hF
 refine sc 5 rfl rfl (Yc_func (g := 82) (vs := [gM_ m B c]) k_call_82 rfl (mc rfl mn) (c_impl_IsValidMatrix m B c m.Cells.length _ rfl (hS2.inn0 [(true, 0)] rfl) hc)) ?_
 rintro _ w_2 ⟨rfl, hd⟩
 have hS3 := hS2.out00 hd
 refine sQ 6 (Y_not (p := r_2) rfl rfl) (rw_nil ?_)
 refine cw_cond (b := (!r_2)) rfl (fun hb => ?_) (fun hb => ?_)
 ·skip
  have hF1 := ct hF hb
  refine cw_seq (cw_region ?_)
  refine sQ 7 (Y_buildS (zs := kN_) (vs := []) (cs := kN_) k_pl_48 k_zero_48 rfl mpn rfl) ?_
  refine s0 (Ys_store (i := 1) (s := 3) (B := aD b1) (T' := 48) (v := gN_) (vs := kN_) (k := 0) (cs' := kN_) hS3 k_sz_48_3 rfl rfl rfl rfl rfl rfl rfl (lB rfl) rfl rfl) ?_
  rintro _ w_3 ⟨rfl, hS4⟩
  refine sQ 3 (Y_assign (v := .bool false) rfl rfl) (rw_nil (cw_ret ?_))
  have hS5 := hS4.addNil 65
  obtain ⟨rfl, rfl⟩ := pr2 (some_inj hF1)
  exact ret2 Tryz.results137 (v1 := gN_) (resAt_cellA (B := aD b1) (i := 0) (cs := kN_) (vs := kN_) rfl k_ag_48 k_sz_48_3 (hS5.cf (i := 1) rfl) rfl rfl) (v2 := .bool false) (resAt_tmp rfl) ⟨none, 0, rfl, (hS5.sN [2])⟩
 ·skip
  have hF2 := cf' hF hb
  refine cw_skip (cw_seq (cw_region ?_))
  refine sQ 8 (Y_fieldAddr (B := aD b) (i := 0) (s := 0) k_fd_48_1_1_3 k_sz_3_1 rfl rfl) ?_
  refine sQ 9 (Y_load1 (B := aD b) (i := 1) (cs := kM_ m B c) (v := vi m.Cols) k_sc_3 rfl rfl (hS3.cf (i := 0) rfl) rfl) ?_
  refine sQ 10 (Y_fieldAddr (B := aD b) (i := 0) (s := 0) k_fd_48_0_0_3 k_sz_3_1 rfl rfl) ?_
  refine sQ 11 (Y_load1 (B := aD b) (i := 0) (cs := kM_ m B c) (v := vi m.Rows) k_sc_3 rfl rfl (hS3.cf (i := 0) rfl) rfl) ?_
  refine sQ 12 (Y_makeFunc (cs := [pt (aD b) 0]) rfl rfl (mc rfl mn)) ?_
  obtain ⟨⟨r_3, r_4⟩, hc1, hF2⟩ := bind_inv hF2
  refine sc 13 rfl rfl (Yc_func (g := 84) (vs := [vi m.Cols, vi m.Rows, .func (.func 148) #[] #[pt (aD b) 0]]) k_call_84 rfl (mc rfl (mc rfl (mc rfl mn))) (c_impl_matrixOf m.Cols m.Rows (fun x_0 x_1 => F_impl_Adjoint_1 x_0 x_1 m) 148 (#[pt (aD b) 0]) [⟨aD b, kM_ m B c⟩, ⟨B, (m.Cells.flatMap eN0)⟩] _ k_call_148 (fun w hw x_0 x_1 y_0 y_1 h_ => c_impl_Adjoint_1 x_0 x_1 m (aD b) B c m.Cells.length w rfl hw h_) (hS3.inn0 [(false, 0), (true, 0)] rfl) hc1)) ?_
  rintro _ w_4 ⟨B2, c2, rfl, hd1⟩
  have hS6 := hS3.out0 hd1
  refine sQ 14 (Y_extract (v := gM_ r_3 B2 c2) rfl rfl rfl) ?_
  refine sQ 15 (Y_extract (v := .bool r_4) rfl rfl rfl) ?_
  refine s0 (Ys_store (i := 1) (s := 3) (B := aD b1) (T' := 48) (v := gM_ r_3 B2 c2) (vs := kM_ r_3 B2 c2) (k := 0) (cs' := kM_ r_3 B2 c2) hS6 k_sz_48_3 rfl rfl rfl rfl rfl rfl rfl (lB rfl) rfl rfl) ?_
  rintro _ w_5 ⟨rfl, hS7⟩
  refine sQ 3 (Y_assign (v := .bool r_4) rfl rfl) (rw_nil (cw_ret ?_))
  obtain ⟨rfl, rfl⟩ := pr2 (some_inj hF2)
  exact ret2 Tryz.results137 (v1 := gM_ r_3 B2 c2) (resAt_cellA (B := aD b1) (i := 0) (cs := kM_ r_3 B2 c2) (vs := kM_ r_3 B2 c2) rfl k_ag_48 k_sz_48_3 (hS7.cf (i := 1) rfl) rfl rfl) (v2 := .bool r_4) (resAt_tmp rfl) ⟨B2, c2, rfl, (hS7.sN [2])⟩

theorem c_slices_Equal_impl_Dyadic_impl_Dyadic (s1 : List TDyadic) (s2 : List TDyadic) (B : Option Addr) (c n : Nat) (B1 : Option Addr) (c1 n1 : Nat) (w0 : World) (hn : s1.length = n) (hn1 : s2.length = n1) (hS : ST w0 [] w0 [] [⟨B, (s1.flatMap eN0)⟩, ⟨B1, (s2.flatMap eN0)⟩]) {r_ : Bool} (hF : F_slices_Equal_impl_Dyadic_impl_Dyadic s1 s2 = some r_) :
  CV Tryz.prog 29 #[.slice B n c, .slice B1 n1 c1] w0 (fun v w' => v = .bool r_ ∧ ST w0 [] w' [] []) := by
 subst hn
 subst hn1
 unfold F_slices_Equal_impl_Dyadic_impl_Dyadic at hF
 refine cv_of_cw 26 Tryz.func29 rfl Tryz.ntmps29 rfl ?_
 refine cw_seq (cw_region ?_)
 refine sQ 4 (Y_assign (v := .bool false) rfl rfl) (rw_nil (cw_seq (cw_seq (cw_region ?_))))
 refine sQ 6 (Y_move (v := .slice B s1.length c) rfl rfl) ?_
 refine sQ 7 (Y_len (B := B) (m := s1.length) (c := c) k_sl_28_65 rfl rfl) ?_
 refine sQ 8 (Y_move (v := .slice B1 s2.length c1) rfl rfl) ?_
 refine sQ 9 (Y_len (B := B1) (m := s2.length) (c := c1) k_sl_28_65 rfl rfl) ?_
 refine sQ 10 (Y_ne (k := .i64) (a := (s1.length : Int)) (b := (s2.length : Int)) rfl rfl rfl) (rw_nil ?_)
 refine cw_cond (b := ((s1.length : Int) != (s2.length : Int))) rfl (fun hb => ?_) (fun hb => ?_)
 ·skip
  have hF1 := ct hF hb
  refine cw_seq (cw_region ?_)
  refine sQ 4 (Y_assign (v := .bool false) rfl rfl) (rw_nil (cw_ret ?_))
  obtain rfl := some_inj hF1
  exact ret1 Tryz.results29 (v1 := .bool false) (resAt_tmp rfl) ⟨rfl, (hS.sN [])⟩
 ·skip
  have hF2 := cf' hF hb
  refine cw_skip (cw_seq (cw_seq (cw_region ?_)))
  refine sQ 11 (Y_move (v := .slice B s1.length c) rfl rfl) ?_
  refine sQ 12 (Y_len (B := B) (m := s1.length) (c := c) k_sl_28_65 rfl rfl) ?_
  refine sQ 13 (Y_move (v := vi 0) rfl rfl) (rw_nil ?_)
  obtain ⟨hN, hF2⟩ := chk_inv hF2
  obtain ⟨z, hz, hF3⟩ := bind_inv hF2
  refine cw_block ?_
  refine cw_loop (fun k f w => ∃ (i : Nat), FF f [(0, .slice B s1.length c), (1, .slice B1 s2.length c1), (12, vi (s1.length : Int)), (13, vi (i : Int))] ∧ ST w0 [] w [] [⟨B, (s1.flatMap eN0)⟩, ⟨B1, (s2.flatMap eN0)⟩] ∧ i + k = s1.length ∧ forX (F_slices_Equal_impl_Dyadic_impl_Dyadic_l1 s1 s2) k i () = some z) s1.length ⟨0, (FF.cons rfl (FF.cons rfl (FF.cons rfl (FF.cons rfl FF.nil)))), (hS.sel [] rfl rfl), Nat.zero_add _, hz⟩ ?_
  rintro k_ f w ⟨i, hf, hS1, hik, hL⟩
  refine cw_seq (cw_region ?_)
  refine sQ 14 (Y_lt (k := .i64) (a := (i : Int)) (b := (s1.length : Int)) rfl (hf.get 13 3 rfl) (hf.get 12 2 rfl)) (rw_nil (cw_seq ?_))
  refine cw_cond (b := (decide ((i : Int) < (s1.length : Int)))) rfl (fun hlt => ?_) (fun hlt => ?_)
  ·skip
   have hlt1 : i < s1.length := by have h := of_decide_eq_true hlt; omega
   obtain ⟨k_1, rfl⟩ : ∃ k2, k_ = k2 + 1 := ⟨k_ - 1, by omega⟩
   obtain ⟨y, hb1, hL1⟩ := forX_go hL
   unfold F_slices_Equal_impl_Dyadic_impl_Dyadic_l1 at hb1
   refine cw_skip (cw_seq (cw_block (cw_seq (cw_region ?_))))
   refine sQ 15 (Y_move (v := vi (i : Int)) rfl (hf.get 13 3 rfl)) ?_
   refine sQ 5 (Y_assign (v := vi (i : Int)) rfl rfl) (rw_nil (cw_seq ?_))
   obtain ⟨x, hx, hb1⟩ := bind_inv hb1
   obtain ⟨x1, hx1, hb1⟩ := bind_inv hb1
   refine ra_start (hS1.se []).fn (by kernel_rfl) ?_
   have hS2 := hS1.drew
   refine rq 0 16 (v := .slice B s1.length c) rfl (hS2.se []) (fun w' hw' => (Y_move (v := .slice B s1.length c) rfl (hf.get 0 0 rfl))) ?_
   refine rq 1 17 (v := vi (i : Int)) rfl (hS2.se []) (fun w' hw' => (Y_move (v := vi (i : Int)) rfl rfl)) ?_
   refine rq 2 18 (v := pt B ((i : Int).toNat * 5)) rfl (hS2.se []) (fun w' hw' => (Y_index (B := B) (m := s1.length) (c := c) (k := .i64) (i := (i : Int)) k_sl_28_65 k_sz_65_5 rfl rfl rfl (gi_isSome eN2 rfl (ST.rf hw' (i := 0) rfl) hx) (getI_nn hx) (getI_ltI hx rfl))) ?_
   refine rq 3 19 (v := gD_ x) rfl (hS2.se []) (fun w' hw' => (Y_loadA (B := B) (i := (i : Int).toNat * 5) (cs := (s1.flatMap eN0)) (vs := kD_ x) k_ag_65 k_sz_65_5 rfl rfl (ST.rf hw' (i := 0) rfl) (eN2 x) (gi_seg eN2 hx))) ?_
   refine rq 4 20 (v := .slice B1 s2.length c1) rfl (hS2.se []) (fun w' hw' => (Y_move (v := .slice B1 s2.length c1) rfl (hf.get 1 1 rfl))) ?_
   refine rq 5 21 (v := vi (i : Int)) rfl (hS2.se []) (fun w' hw' => (Y_move (v := vi (i : Int)) rfl rfl)) ?_
   refine rq 6 22 (v := pt B1 ((i : Int).toNat * 5)) rfl (hS2.se []) (fun w' hw' => (Y_index (B := B1) (m := s2.length) (c := c1) (k := .i64) (i := (i : Int)) k_sl_28_65 k_sz_65_5 rfl rfl rfl (gi_isSome eN2 rfl (ST.rf hw' (i := 1) rfl) hx1) (getI_nn hx1) (getI_ltI hx1 rfl))) ?_
   refine rq 7 23 (v := gD_ x1) rfl (hS2.se []) (fun w' hw' => (Y_loadA (B := B1) (i := (i : Int).toNat * 5) (cs := (s2.flatMap eN0)) (vs := kD_ x1) k_ag_65 k_sz_65_5 rfl rfl (ST.rf hw' (i := 1) rfl) (eN2 x1) (gi_seg eN2 hx1))) ?_
   refine ra_q 8 24 (v := .bool (!(((x.Num.A == x1.Num.A) && ((x.Num.B == x1.Num.B) && ((x.Num.C == x1.Num.C) && ((x.Num.D == x1.Num.D) && true)))) && ((x.Exp == x1.Exp) && true)))) rfl rfl rfl (by kernel_rfl) (by kernel_rfl) (by kernel_rfl) (hS2.se []) (fun w' hw' => (Y_neA (xs := #[vi x.Num.A, vi x.Num.B, vi x.Num.C, vi x.Num.D, vi x.Exp]) (ys := #[vi x1.Num.A, vi x1.Num.B, vi x1.Num.C, vi x1.Num.D, vi x1.Exp]) (b := (((x.Num.A == x1.Num.A) && ((x.Num.B == x1.Num.B) && ((x.Num.C == x1.Num.C) && ((x.Num.D == x1.Num.D) && true)))) && ((x.Exp == x1.Exp) && true))) k_eg_65 rfl rfl rfl (eqr_struct (xs := kD_ x) (ys := kD_ x1) k_st_65 k_ho_65 (pts_ag (us := kR_ x.Num) (vs := kR_ x1.Num) k_ag_63 k_sz_63_4 rfl rfl (eqr_struct (xs := kR_ x.Num) (ys := kR_ x1.Num) k_st_63 k_ho_63 (pts_sc k_sc_3 rfl rfl (eqr_int k_int_3_i64) (pts_sc k_sc_3 rfl rfl (eqr_int k_int_3_i64) (pts_sc k_sc_3 rfl rfl (eqr_int k_int_3_i64) (pts_sc k_sc_3 rfl rfl (eqr_int k_int_3_i64) pts_nil))))) (pts_sc k_sc_3 rfl rfl (eqr_int k_int_3_i64) pts_nil))))) ?_
   refine ra_done (by kernel_rfl) ?_
   refine cw_cond (b := (!(((x.Num.A == x1.Num.A) && ((x.Num.B == x1.Num.B) && ((x.Num.C == x1.Num.C) && ((x.Num.D == x1.Num.D) && true)))) && ((x.Exp == x1.Exp) && true)))) rfl (fun hb2 => ?_) (fun hb2 => ?_)
   ·skip
    have hF4 := ct hb1 hb2
    refine cw_seq (cw_region ?_)
    refine sQ 4 (Y_assign (v := .bool false) rfl rfl) (rw_nil (cw_ret ?_))
    obtain rfl := some_inj hF4
    obtain rfl := some_inj hL1
    obtain rfl := some_inj hF3
    exact ret1 Tryz.results29 (v1 := .bool false) (resAt_tmp rfl) ⟨rfl, (hS2.sN [])⟩
   ·skip
    have hF5 := cf' hb1 hb2
    refine cw_skip (cw_region ?_)
    refine sQ 25 (Y_add (k := .i64) (a := (i : Int)) (b := 1) rfl (hf.get 13 3 rfl) rfl) ?_
    refine sQ 13 (Y_move (v := vi (i64.wrap ((i : Int) + 1))) rfl rfl) (rw_nil ?_)
    obtain rfl := some_inj hF5
    exact ⟨k_1, Nat.lt_succ_self _, i + 1, (FF.cons (hf.get 0 0 rfl) (FF.cons (hf.get 1 1 rfl) (FF.cons (hf.get 12 2 rfl) (FF.cons (congrArg (Value.int .i64) (wr_succ hlt1 hN)) FF.nil)))), (hS2.sel [] rfl rfl), (by omega), hL1⟩
  ·skip
   obtain rfl : k_ = 0 := by have h := of_decide_eq_false hlt; omega
   refine cw_exit rfl ?_
   obtain rfl := some_inj hL
   refine cw_seq (cw_region ?_)
   refine sQ 4 (Y_assign (v := .bool true) rfl rfl) (rw_nil (cw_ret ?_))
   obtain rfl := some_inj hF3
   exact ret1 Tryz.results29 (v1 := .bool true) (resAt_tmp rfl) ⟨rfl, (hS1.sN [])⟩

theorem c_impl_EqualMatrices (a : TMatrix) (b : TMatrix) (B : Option Addr) (c n : Nat) (B1 : Option Addr) (c1 n1 : Nat) (w0 : World) (hn : a.Cells.length = n) (hn1 : b.Cells.length = n1) (hS : ST w0 [] w0 [] [⟨B, (a.Cells.flatMap eN0)⟩, ⟨B1, (b.Cells.flatMap eN0)⟩]) {r_ : Bool} (hF : F_impl_EqualMatrices a b = some r_) :
  CV Tryz.prog 153 #[.agg #[vi a.Rows, vi a.Cols, .slice B n c], .agg #[vi b.Rows, vi b.Cols, .slice B1 n1 c1]] w0 (fun v w' => v = .bool r_ ∧ ST w0 [] w' [] []) := by
 subst hn
 subst hn1
 unfold F_impl_EqualMatrices at hF
 refine cv_of_cw 24 Tryz.func153 rfl Tryz.ntmps153 rfl ?_
 refine cw_seq (cw_region ?_)
 refine sS 2 (Ys_box (T := 48) (v := gM_ a B c) (cs := kM_ a B c) (m := 3) hS rfl rfl rfl rfl) ?_
 rintro _ w_ ⟨b1, rfl, hS1⟩
 refine sS 3 (Ys_box (T := 48) (v := gM_ b B1 c1) (cs := kM_ b B1 c1) (m := 3) hS1 rfl rfl rfl rfl) ?_
 rintro _ w_1 ⟨b2, rfl, hS2⟩
 refine sQ 4 (Y_assign (v := .bool false) rfl rfl) (rw_nil (cw_seq (cw_region ?_)))
 refine sQ 5 (Y_fieldAddr (B := aD b1) (i := 0) (s := 0) k_fd_48_0_0_3 k_sz_3_1 rfl rfl) ?_
 refine sQ 6 (Y_load1 (B := aD b1) (i := 0) (cs := kM_ a B c) (v := vi a.Rows) k_sc_3 rfl rfl (hS2.cf (i := 0) rfl) rfl) ?_
 refine sQ 7 (Y_fieldAddr (B := aD b2) (i := 0) (s := 0) k_fd_48_0_0_3 k_sz_3_1 rfl rfl) ?_
 refine sQ 8 (Y_load1 (B := aD b2) (i := 0) (cs := kM_ b B1 c1) (v := vi b.Rows) k_sc_3 rfl rfl (hS2.cf (i := 1) rfl) rfl) ?_
 refine sQ 9 (Y_eq (k := .i64) (a := a.Rows) (b := b.Rows) rfl rfl rfl) ?_
 refine sQ 10 (Y_move (v := .bool (a.Rows == b.Rows)) rfl rfl) ?_
 refine sgq 11 (B := (a.Rows == b.Rows)) (v := pt (aD b1) 1) rfl rfl (uT_ 10) (fun hg => (Y_fieldAddr (B := aD b1) (i := 0) (s := 0) k_fd_48_1_1_3 k_sz_3_1 rfl rfl)) ?_
 refine sgq 12 (B := (a.Rows == b.Rows)) (v := vi a.Cols) rfl rfl (uT_ 10) (fun hg1 => (Y_load1 (B := aD b1) (i := 1) (cs := kM_ a B c) (v := vi a.Cols) k_sc_3 rfl (gv_of (v := pt (aD b1) 1) hg1) (hS2.cf (i := 0) rfl) rfl)) ?_
 refine sgq 13 (B := (a.Rows == b.Rows)) (v := pt (aD b2) 1) rfl rfl (uT_ 10) (fun hg2 => (Y_fieldAddr (B := aD b2) (i := 0) (s := 0) k_fd_48_1_1_3 k_sz_3_1 rfl rfl)) ?_
 refine sgq 14 (B := (a.Rows == b.Rows)) (v := vi b.Cols) rfl rfl (uT_ 10) (fun hg3 => (Y_load1 (B := aD b2) (i := 1) (cs := kM_ b B1 c1) (v := vi b.Cols) k_sc_3 rfl (gv_of (v := pt (aD b2) 1) hg3) (hS2.cf (i := 1) rfl) rfl)) ?_
 refine sgq 15 (B := (a.Rows == b.Rows)) (v := .bool (a.Cols == b.Cols)) rfl rfl (uT_ 10) (fun hg4 => (Y_eq (k := .i64) (a := a.Cols) (b := b.Cols) rfl (gv_of (v := vi a.Cols) hg4) (gv_of (v := vi b.Cols) hg4))) ?_
 refine sQ 16 (Y_and (b := (a.Rows == b.Rows)) (z := (a.Cols == b.Cols)) rfl rfl rfl rfl) ?_
 refine sQ 17 (Y_move (v := .bool ((a.Rows == b.Rows) && (a.Cols == b.Cols))) rfl rfl) ?_
 refine sgq 18 (B := ((a.Rows == b.Rows) && (a.Cols == b.Cols))) (v := pt (aD b1) 2) rfl rfl (uT_ 17) (fun hg5 => (Y_fieldAddr (B := aD b1) (i := 0) (s := 0) k_fd_48_2_2_28 k_sz_28_1 rfl rfl)) ?_
 refine sgq 19 (B := ((a.Rows == b.Rows) && (a.Cols == b.Cols))) (v := .slice B a.Cells.length c) rfl rfl (uT_ 17) (fun hg6 => (Y_load1 (B := aD b1) (i := 2) (cs := kM_ a B c) (v := .slice B a.Cells.length c) k_sc_28 rfl (gv_of (v := pt (aD b1) 2) hg6) (hS2.cf (i := 0) rfl) rfl)) ?_
 refine sgq 20 (B := ((a.Rows == b.Rows) && (a.Cols == b.Cols))) (v := pt (aD b2) 2) rfl rfl (uT_ 17) (fun hg7 => (Y_fieldAddr (B := aD b2) (i := 0) (s := 0) k_fd_48_2_2_28 k_sz_28_1 rfl rfl)) ?_
 refine sgq 21 (B := ((a.Rows == b.Rows) && (a.Cols == b.Cols))) (v := .slice B1 b.Cells.length c1) rfl rfl (uT_ 17) (fun hg8 => (Y_load1 (B := aD b2) (i := 2) (cs := kM_ b B1 c1) (v := .slice B1 b.Cells.length c1) k_sc_28 rfl (gv_of (v := pt (aD b2) 2) hg8) (hS2.cf (i := 1) rfl) rfl)) ?_
 obtain ⟨r_1, hc, hF⟩ := bind_inv hF
 refine sgc 22 (B := ((a.Rows == b.Rows) && (a.Cols == b.Cols))) (v := .bool r_1) (F := hS2.fn) rfl rfl (uT_ 17) hS2 (fun hg9 => (Yc_func (g := 29) (vs := [.slice B a.Cells.length c, .slice B1 b.Cells.length c1]) k_call_29 rfl (mc (gv_of (v := .slice B a.Cells.length c) hg9) (mc (gv_of (v := .slice B1 b.Cells.length c1) hg9) mn)) (CV.mono (c_slices_Equal_impl_Dyadic_impl_Dyadic a.Cells b.Cells B c a.Cells.length B1 c1 b.Cells.length _ rfl rfl (hS2.inn0 [(true, 0), (true, 1)] rfl) (gb_inv hc hg9)) (by rintro _ _ ⟨rfl, h⟩; exact ⟨rfl, hS2.out00 h⟩)))) ?_
 rintro w_2 hS3
 refine sQ 23 (Y_and (b := ((a.Rows == b.Rows) && (a.Cols == b.Cols))) (z := r_1) rfl rfl rfl rfl) ?_
 refine sQ 4 (Y_assign (v := .bool (((a.Rows == b.Rows) && (a.Cols == b.Cols)) && r_1)) rfl rfl) (rw_nil (cw_ret ?_))
 obtain rfl := some_inj hF
 exact ret1 Tryz.results153 (v1 := .bool (((a.Rows == b.Rows) && (a.Cols == b.Cols)) && r_1)) (resAt_tmp rfl) ⟨rfl, (hS3.sN [])⟩

theorem c_impl_IsUnitary (m : TMatrix) (B : Option Addr) (c n : Nat) (w0 : World) (hn : m.Cells.length = n) (hS : ST w0 [] w0 [] [⟨B, (m.Cells.flatMap eN0)⟩]) {r_ : Bool} {r_1 : Bool} (hF : F_impl_IsUnitary m = some (r_, r_1)) :
  CV Tryz.prog 147 #[.agg #[vi m.Rows, vi m.Cols, .slice B n c]] w0 (fun v w' => v = .tuple #[.bool r_, .bool r_1] ∧ ST w0 [] w' [] []) := by
 subst hn
 unfold F_impl_IsUnitary at hF
 refine cv_of_cw 44 Tryz.func147 rfl Tryz.ntmps147 rfl ?_
 refine cw_seq (cw_region ?_)
 refine sS 1 (Ys_box (T := 48) (v := gM_ m B c) (cs := kM_ m B c) (m := 3) hS rfl rfl rfl rfl) ?_
 rintro _ w_ ⟨b, rfl, hS1⟩
 refine sQ 2 (Y_assign (v := .bool false) rfl rfl) ?_
 refine sQ 3 (Y_assign (v := .bool false) rfl rfl) (rw_nil (cw_seq (cw_seq (cw_region ?_))))
 refine sQ 10 (Y_loadA (B := aD b) (i := 0) (cs := kM_ m B c) (vs := kM_ m B c) k_ag_48 k_sz_48_3 rfl rfl (hS1.cf (i := 0) rfl) rfl rfl) ?_
 obtain ⟨r_2, hc, hF⟩ := bind_inv hF
 refine sc 11 rfl rfl (Yc_func (g := 82) (vs := [gM_ m B c]) k_call_82 rfl (mc rfl mn) (c_impl_IsValidMatrix m B c m.Cells.length _ rfl (hS1.inn0 [(true, 0)] rfl) hc)) ?_
 rintro _ w_1 ⟨rfl, hd⟩
 have hS2 := hS1.out00 hd
 refine sQ 12 (Y_not (p := r_2) rfl rfl) ?_
 refine sQ 13 (Y_move (v := .bool (!r_2)) rfl rfl) ?_
 refine sgq 14 (B := (!(!r_2))) (v := pt (aD b) 0) rfl rfl (uF_ 13) (fun hg => (Y_fieldAddr (B := aD b) (i := 0) (s := 0) k_fd_48_0_0_3 k_sz_3_1 rfl rfl)) ?_
 refine sgq 15 (B := (!(!r_2))) (v := vi m.Rows) rfl rfl (uF_ 13) (fun hg1 => (Y_load1 (B := aD b) (i := 0) (cs := kM_ m B c) (v := vi m.Rows) k_sc_3 rfl (gv_of (v := pt (aD b) 0) hg1) (hS2.cf (i := 0) rfl) rfl)) ?_
 refine sgq 16 (B := (!(!r_2))) (v := pt (aD b) 1) rfl rfl (uF_ 13) (fun hg2 => (Y_fieldAddr (B := aD b) (i := 0) (s := 0) k_fd_48_1_1_3 k_sz_3_1 rfl rfl)) ?_
 refine sgq 17 (B := (!(!r_2))) (v := vi m.Cols) rfl rfl (uF_ 13) (fun hg3 => (Y_load1 (B := aD b) (i := 1) (cs := kM_ m B c) (v := vi m.Cols) k_sc_3 rfl (gv_of (v := pt (aD b) 1) hg3) (hS2.cf (i := 0) rfl) rfl)) ?_
 refine sgq 18 (B := (!(!r_2))) (v := .bool (m.Rows != m.Cols)) rfl rfl (uF_ 13) (fun hg4 => (Y_ne (k := .i64) (a := m.Rows) (b := m.Cols) rfl (gv_of (v := vi m.Rows) hg4) (gv_of (v := vi m.Cols) hg4))) ?_
 refine sQ 19 (Y_or (b := (!r_2)) (z := (m.Rows != m.Cols)) rfl rfl rfl rfl) (rw_nil ?_)
 refine cw_cond (b := ((!r_2) || (m.Rows != m.Cols))) rfl (fun hb => ?_) (fun hb => ?_)
 ·skip
  have hF1 := ct hF hb
  refine cw_seq (cw_region ?_)
  refine sQ 2 (Y_assign (v := .bool false) rfl rfl) ?_
  refine sQ 3 (Y_assign (v := .bool false) rfl rfl) (rw_nil (cw_ret ?_))
  obtain ⟨rfl, rfl⟩ := pr2 (some_inj hF1)
  exact ret2 Tryz.results147 (v1 := .bool false) (resAt_tmp rfl) (v2 := .bool false) (resAt_tmp rfl) ⟨rfl, (hS2.sN [])⟩
 ·skip
  have hF2 := cf' hF hb
  refine cw_skip (cw_seq (cw_region ?_))
  refine sQ 21 (Y_loadA (B := aD b) (i := 0) (cs := kM_ m B c) (vs := kM_ m B c) k_ag_48 k_sz_48_3 rfl rfl (hS2.cf (i := 0) rfl) rfl rfl) ?_
  obtain ⟨⟨r_3, r_4⟩, hc1, hF2⟩ := bind_inv hF2
  refine sc 22 rfl rfl (Yc_func (g := 137) (vs := [gM_ m B c]) k_call_137 rfl (mc rfl mn) (c_impl_Adjoint m B c m.Cells.length _ rfl (hS2.inn0 [(true, 0)] rfl) hc1)) ?_
  rintro _ w_2 ⟨B1, c1, rfl, hd1⟩
  have hS3 := hS2.out0 hd1
  refine sQ 20 (Y_move (v := .tuple #[gM_ r_3 B1 c1, .bool r_4]) rfl rfl) ?_
  refine sQ 23 (Y_extract (v := gM_ r_3 B1 c1) rfl rfl rfl) ?_
  refine sQ 24 (Y_extract (v := .bool r_4) rfl rfl rfl) ?_
  refine sS 4 (Ys_alloc (T := 48) (cs := kN_) (m := 3) hS3 k_zero_48 rfl rfl rfl) ?_
  rintro _ w_3 ⟨b1, rfl, hS4⟩
  refine s0 (Ys_store (i := 2) (s := 3) (B := aD b1) (T' := 48) (v := gM_ r_3 B1 c1) (vs := kM_ r_3 B1 c1) (k := 0) (cs' := kM_ r_3 B1 c1) hS4 k_sz_48_3 rfl rfl rfl rfl rfl rfl rfl (lB rfl) rfl rfl) ?_
  rintro _ w_4 ⟨rfl, hS5⟩
  refine sQ 5 (Y_assign (v := .bool r_4) rfl rfl) (rw_nil (cw_seq (cw_region ?_)))
  refine sQ 26 (Y_loadA (B := aD b) (i := 0) (cs := kM_ m B c) (vs := kM_ m B c) k_ag_48 k_sz_48_3 rfl rfl (hS5.cf (i := 0) rfl) rfl rfl) ?_
  refine sQ 27 (Y_loadA (B := aD b1) (i := 0) (cs := kM_ r_3 B1 c1) (vs := kM_ r_3 B1 c1) k_ag_48 k_sz_48_3 rfl rfl (hS5.cf (i := 2) rfl) rfl rfl) ?_
  obtain ⟨⟨r_5, r_6⟩, hc2, hF2⟩ := bind_inv hF2
  refine sc 28 rfl rfl (Yc_func (g := 116) (vs := [gM_ m B c, gM_ r_3 B1 c1]) k_call_116 rfl (mc rfl (mc rfl mn)) (c_impl_MulMatrix m r_3 B c m.Cells.length B1 c1 r_3.Cells.length _ rfl rfl (hS5.inn0 [(true, 0), (false, 1)] rfl) hc2)) ?_
  rintro _ w_5 ⟨B2, c2, rfl, hd2⟩
  have hS6 := hS5.out0 hd2
  refine sQ 25 (Y_move (v := .tuple #[gM_ r_5 B2 c2, .bool r_6]) rfl rfl) ?_
  refine sQ 29 (Y_extract (v := gM_ r_5 B2 c2) rfl rfl rfl) ?_
  refine sQ 30 (Y_extract (v := .bool r_6) rfl rfl rfl) ?_
  refine sS 6 (Ys_alloc (T := 48) (cs := kN_) (m := 3) hS6 k_zero_48 rfl rfl rfl) ?_
  rintro _ w_6 ⟨b2, rfl, hS7⟩
  refine s0 (Ys_store (i := 4) (s := 3) (B := aD b2) (T' := 48) (v := gM_ r_5 B2 c2) (vs := kM_ r_5 B2 c2) (k := 0) (cs' := kM_ r_5 B2 c2) hS7 k_sz_48_3 rfl rfl rfl rfl rfl rfl rfl (lB rfl) rfl rfl) ?_
  rintro _ w_7 ⟨rfl, hS8⟩
  refine sQ 7 (Y_assign (v := .bool r_6) rfl rfl) (rw_nil (cw_seq (cw_region ?_)))
  refine sQ 32 (Y_fieldAddr (B := aD b) (i := 0) (s := 0) k_fd_48_0_0_3 k_sz_3_1 rfl rfl) ?_
  refine sQ 33 (Y_load1 (B := aD b) (i := 0) (cs := kM_ m B c) (v := vi m.Rows) k_sc_3 rfl rfl (hS8.cf (i := 0) rfl) rfl) ?_
  obtain ⟨⟨r_7, r_8⟩, hc3, hF2⟩ := bind_inv hF2
  refine sc 34 rfl rfl (Yc_func (g := 80) (vs := [vi m.Rows]) k_call_80 rfl (mc rfl mn) (c_impl_IdentityMatrix m.Rows _  (hS8.inn0 [] rfl) hc3)) ?_
  rintro _ w_8 ⟨B3, c3, rfl, hd3⟩
  have hS9 := hS8.out0 hd3
  refine sQ 31 (Y_move (v := .tuple #[gM_ r_7 B3 c3, .bool r_8]) rfl rfl) ?_
  refine sQ 35 (Y_extract (v := gM_ r_7 B3 c3) rfl rfl rfl) ?_
  refine sQ 36 (Y_extract (v := .bool r_8) rfl rfl rfl) ?_
  refine sS 8 (Ys_alloc (T := 48) (cs := kN_) (m := 3) hS9 k_zero_48 rfl rfl rfl) ?_
  rintro _ w_9 ⟨b3, rfl, hS10⟩
  refine s0 (Ys_store (i := 6) (s := 3) (B := aD b3) (T' := 48) (v := gM_ r_7 B3 c3) (vs := kM_ r_7 B3 c3) (k := 0) (cs' := kM_ r_7 B3 c3) hS10 k_sz_48_3 rfl rfl rfl rfl rfl rfl rfl (lB rfl) rfl rfl) ?_
  rintro _ w_10 ⟨rfl, hS11⟩
  refine sQ 9 (Y_assign (v := .bool r_8) rfl rfl) (rw_nil (cw_seq (cw_region ?_)))
  refine sQ 37 (Y_move (v := .bool r_6) rfl rfl) ?_
  refine sQ 38 (Y_move (v := .bool r_6) rfl rfl) ?_
  refine sgq 39 (B := r_6) (v := gM_ r_5 B2 c2) rfl rfl (uT_ 38) (fun hg5 => (Y_loadA (B := aD b2) (i := 0) (cs := kM_ r_5 B2 c2) (vs := kM_ r_5 B2 c2) k_ag_48 k_sz_48_3 rfl rfl (hS11.cf (i := 4) rfl) rfl rfl)) ?_
  refine sgq 40 (B := r_6) (v := gM_ r_7 B3 c3) rfl rfl (uT_ 38) (fun hg6 => (Y_loadA (B := aD b3) (i := 0) (cs := kM_ r_7 B3 c3) (vs := kM_ r_7 B3 c3) k_ag_48 k_sz_48_3 rfl rfl (hS11.cf (i := 6) rfl) rfl rfl)) ?_
  obtain ⟨r_9, hc4, hF2⟩ := bind_inv hF2
  refine sgc 41 (B := r_6) (v := .bool r_9) (F := hS11.fn) rfl rfl (uT_ 38) hS11 (fun hg7 => (Yc_func (g := 153) (vs := [gM_ r_5 B2 c2, gM_ r_7 B3 c3]) k_call_153 rfl (mc (gv_of (v := gM_ r_5 B2 c2) hg7) (mc (gv_of (v := gM_ r_7 B3 c3) hg7) mn)) (CV.mono (c_impl_EqualMatrices r_5 r_7 B2 c2 r_5.Cells.length B3 c3 r_7.Cells.length _ rfl rfl (hS11.inn0 [(false, 3), (false, 5)] rfl) (gb_inv hc4 hg7)) (by rintro _ _ ⟨rfl, h⟩; exact ⟨rfl, hS11.out00 h⟩)))) ?_
  rintro w_11 hS12
  refine sQ 42 (Y_and (b := r_6) (z := r_9) rfl rfl rfl rfl) ?_
  refine sQ 43 (Y_move (v := .bool r_6) rfl rfl) ?_
  refine sQ 2 (Y_assign (v := .bool (r_6 && r_9)) rfl rfl) ?_
  refine sQ 3 (Y_assign (v := .bool r_6) rfl rfl) (rw_nil (cw_ret ?_))
  obtain ⟨rfl, rfl⟩ := pr2 (some_inj hF2)
  exact ret2 Tryz.results147 (v1 := .bool (r_6 && r_9)) (resAt_tmp rfl) (v2 := .bool r_6) (resAt_tmp rfl) ⟨rfl, (hS12.sN [])⟩

theorem c_impl_IsOneQubit (m : TMatrix) (B : Option Addr) (c n : Nat) (w0 : World) (hn : m.Cells.length = n) (hS : ST w0 [] w0 [] [⟨B, (m.Cells.flatMap eN0)⟩]) {r_ : Bool} (hF : F_impl_IsOneQubit m = some r_) :
  CV Tryz.prog 136 #[.agg #[vi m.Rows, vi m.Cols, .slice B n c]] w0 (fun v w' => v = .bool r_ ∧ ST w0 [] w' [] []) := by
 subst hn
 unfold F_impl_IsOneQubit at hF
 refine cv_of_cw 27 Tryz.func136 rfl Tryz.ntmps136 rfl ?_
 refine cw_seq (cw_region ?_)
 refine sS 1 (Ys_box (T := 48) (v := gM_ m B c) (cs := kM_ m B c) (m := 3) hS rfl rfl rfl rfl) ?_
 rintro _ w_ ⟨b, rfl, hS1⟩
 refine sQ 2 (Y_assign (v := .bool false) rfl rfl) (rw_nil (cw_seq (cw_seq (cw_region ?_))))
 refine sQ 5 (Y_loadA (B := aD b) (i := 0) (cs := kM_ m B c) (vs := kM_ m B c) k_ag_48 k_sz_48_3 rfl rfl (hS1.cf (i := 0) rfl) rfl rfl) ?_
 obtain ⟨r_1, hc, hF⟩ := bind_inv hF
 refine sc 6 rfl rfl (Yc_func (g := 82) (vs := [gM_ m B c]) k_call_82 rfl (mc rfl mn) (c_impl_IsValidMatrix m B c m.Cells.length _ rfl (hS1.inn0 [(true, 0)] rfl) hc)) ?_
 rintro _ w_1 ⟨rfl, hd⟩
 have hS2 := hS1.out00 hd
 refine sQ 7 (Y_not (p := r_1) rfl rfl) ?_
 refine sQ 8 (Y_move (v := .bool (!r_1)) rfl rfl) ?_
 refine sgq 9 (B := (!(!r_1))) (v := pt (aD b) 0) rfl rfl (uF_ 8) (fun hg => (Y_fieldAddr (B := aD b) (i := 0) (s := 0) k_fd_48_0_0_3 k_sz_3_1 rfl rfl)) ?_
 refine sgq 10 (B := (!(!r_1))) (v := vi m.Rows) rfl rfl (uF_ 8) (fun hg1 => (Y_load1 (B := aD b) (i := 0) (cs := kM_ m B c) (v := vi m.Rows) k_sc_3 rfl (gv_of (v := pt (aD b) 0) hg1) (hS2.cf (i := 0) rfl) rfl)) ?_
 refine sgq 11 (B := (!(!r_1))) (v := .bool (m.Rows != 2)) rfl rfl (uF_ 8) (fun hg2 => (Y_ne (k := .i64) (a := m.Rows) (b := 2) rfl (gv_of (v := vi m.Rows) hg2) rfl)) ?_
 refine sQ 12 (Y_or (b := (!r_1)) (z := (m.Rows != 2)) rfl rfl rfl rfl) ?_
 refine sQ 13 (Y_move (v := .bool ((!r_1) || (m.Rows != 2))) rfl rfl) ?_
 refine sgq 14 (B := (!((!r_1) || (m.Rows != 2)))) (v := pt (aD b) 1) rfl rfl (uF_ 13) (fun hg3 => (Y_fieldAddr (B := aD b) (i := 0) (s := 0) k_fd_48_1_1_3 k_sz_3_1 rfl rfl)) ?_
 refine sgq 15 (B := (!((!r_1) || (m.Rows != 2)))) (v := vi m.Cols) rfl rfl (uF_ 13) (fun hg4 => (Y_load1 (B := aD b) (i := 1) (cs := kM_ m B c) (v := vi m.Cols) k_sc_3 rfl (gv_of (v := pt (aD b) 1) hg4) (hS2.cf (i := 0) rfl) rfl)) ?_
 refine sgq 16 (B := (!((!r_1) || (m.Rows != 2)))) (v := .bool (m.Cols != 2)) rfl rfl (uF_ 13) (fun hg5 => (Y_ne (k := .i64) (a := m.Cols) (b := 2) rfl (gv_of (v := vi m.Cols) hg5) rfl)) ?_
 refine sQ 17 (Y_or (b := ((!r_1) || (m.Rows != 2))) (z := (m.Cols != 2)) rfl rfl rfl rfl) (rw_nil ?_)
 refine cw_cond (b := (((!r_1) || (m.Rows != 2)) || (m.Cols != 2))) rfl (fun hb => ?_) (fun hb => ?_)
 ·skip
  have hF1 := ct hF hb
  refine cw_seq (cw_region ?_)
  refine sQ 2 (Y_assign (v := .bool false) rfl rfl) (rw_nil (cw_ret ?_))
  obtain rfl := some_inj hF1
  exact ret1 Tryz.results136 (v1 := .bool false) (resAt_tmp rfl) ⟨rfl, (hS2.sN [])⟩
 ·skip
  have hF2 := cf' hF hb
  refine cw_skip (cw_seq (cw_region ?_))
  refine sQ 19 (Y_loadA (B := aD b) (i := 0) (cs := kM_ m B c) (vs := kM_ m B c) k_ag_48 k_sz_48_3 rfl rfl (hS2.cf (i := 0) rfl) rfl rfl) ?_
  obtain ⟨⟨r_2, r_3⟩, hc1, hF2⟩ := bind_inv hF2
  refine sc 20 rfl rfl (Yc_func (g := 147) (vs := [gM_ m B c]) k_call_147 rfl (mc rfl mn) (c_impl_IsUnitary m B c m.Cells.length _ rfl (hS2.inn0 [(true, 0)] rfl) hc1)) ?_
  rintro _ w_2 ⟨rfl, hd1⟩
  have hS3 := hS2.out00 hd1
  refine sQ 18 (Y_move (v := .tuple #[.bool r_2, .bool r_3]) rfl rfl) ?_
  refine sQ 21 (Y_extract (v := .bool r_2) rfl rfl rfl) ?_
  refine sQ 22 (Y_extract (v := .bool r_3) rfl rfl rfl) ?_
  refine sQ 3 (Y_assign (v := .bool r_2) rfl rfl) ?_
  refine sQ 4 (Y_assign (v := .bool r_3) rfl rfl) (rw_nil (cw_seq (cw_region ?_)))
  refine sQ 23 (Y_move (v := .bool r_3) rfl rfl) ?_
  refine sQ 24 (Y_move (v := .bool r_3) rfl rfl) ?_
  refine sgq 25 (B := r_3) (v := .bool r_2) rfl rfl (uT_ 24) (fun hg6 => (Y_move (v := .bool r_2) rfl rfl)) ?_
  refine sQ 26 (Y_and (b := r_3) (z := r_2) rfl rfl rfl rfl) ?_
  refine sQ 2 (Y_assign (v := .bool (r_3 && r_2)) rfl rfl) (rw_nil (cw_ret ?_))
  obtain rfl := some_inj hF2
  exact ret1 Tryz.results136 (v1 := .bool (r_3 && r_2)) (resAt_tmp rfl) ⟨rfl, (hS3.sN [])⟩

theorem c_impl_TraceOf (m : TMatrix) (B : Option Addr) (c n : Nat) (w0 : World) (hn : m.Cells.length = n) (hS : ST w0 [] w0 [] [⟨B, (m.Cells.flatMap eN0)⟩]) {r_ : TDyadic} {r_1 : Bool} (hF : F_impl_TraceOf m = some (r_, r_1)) :
  CV Tryz.prog 150 #[.agg #[vi m.Rows, vi m.Cols, .slice B n c]] w0 (fun v w' => v = .tuple #[gD_ r_, .bool r_1] ∧ ST w0 [] w' [] []) := by
 subst hn
 unfold F_impl_TraceOf at hF
 refine cv_of_cw 39 Tryz.func150 rfl Tryz.ntmps150 rfl ?_
 refine cw_seq (cw_region ?_)
 refine sS 1 (Ys_box (T := 48) (v := gM_ m B c) (cs := kM_ m B c) (m := 3) hS rfl rfl rfl rfl) ?_
 rintro _ w_ ⟨b, rfl, hS1⟩
 refine sS 2 (Ys_alloc (T := 65) (cs := kZ_) (m := 5) hS1 k_zero_65 rfl rfl rfl) ?_
 rintro _ w_1 ⟨b1, rfl, hS2⟩
 refine sQ 3 (Y_assign (v := .bool false) rfl rfl) (rw_nil (cw_seq (cw_seq (cw_region ?_))))
 refine sQ 7 (Y_loadA (B := aD b) (i := 0) (cs := kM_ m B c) (vs := kM_ m B c) k_ag_48 k_sz_48_3 rfl rfl (hS2.cf (i := 0) rfl) rfl rfl) ?_
 obtain ⟨r_2, hc, hF⟩ := bind_inv hF
 refine sc 8 rfl rfl (Yc_func (g := 82) (vs := [gM_ m B c]) k_call_82 rfl (mc rfl mn) (c_impl_IsValidMatrix m B c m.Cells.length _ rfl (hS2.inn0 [(true, 0)] rfl) hc)) ?_
 rintro _ w_2 ⟨rfl, hd⟩
 have hS3 := hS2.out00 hd
 refine sQ 9 (Y_not (p := r_2) rfl rfl) ?_
 refine sQ 10 (Y_move (v := .bool (!r_2)) rfl rfl) ?_
 refine sgq 11 (B := (!(!r_2))) (v := pt (aD b) 0) rfl rfl (uF_ 10) (fun hg => (Y_fieldAddr (B := aD b) (i := 0) (s := 0) k_fd_48_0_0_3 k_sz_3_1 rfl rfl)) ?_
 refine sgq 12 (B := (!(!r_2))) (v := vi m.Rows) rfl rfl (uF_ 10) (fun hg1 => (Y_load1 (B := aD b) (i := 0) (cs := kM_ m B c) (v := vi m.Rows) k_sc_3 rfl (gv_of (v := pt (aD b) 0) hg1) (hS3.cf (i := 0) rfl) rfl)) ?_
 refine sgq 13 (B := (!(!r_2))) (v := pt (aD b) 1) rfl rfl (uF_ 10) (fun hg2 => (Y_fieldAddr (B := aD b) (i := 0) (s := 0) k_fd_48_1_1_3 k_sz_3_1 rfl rfl)) ?_
 refine sgq 14 (B := (!(!r_2))) (v := vi m.Cols) rfl rfl (uF_ 10) (fun hg3 => (Y_load1 (B := aD b) (i := 1) (cs := kM_ m B c) (v := vi m.Cols) k_sc_3 rfl (gv_of (v := pt (aD b) 1) hg3) (hS3.cf (i := 0) rfl) rfl)) ?_
 refine sgq 15 (B := (!(!r_2))) (v := .bool (m.Rows != m.Cols)) rfl rfl (uF_ 10) (fun hg4 => (Y_ne (k := .i64) (a := m.Rows) (b := m.Cols) rfl (gv_of (v := vi m.Rows) hg4) (gv_of (v := vi m.Cols) hg4))) ?_
 refine sQ 16 (Y_or (b := (!r_2)) (z := (m.Rows != m.Cols)) rfl rfl rfl rfl) (rw_nil ?_)
 refine cw_cond (b := ((!r_2) || (m.Rows != m.Cols))) rfl (fun hb => ?_) (fun hb => ?_)
 ·skip
  have hF1 := ct hF hb
  refine cw_seq (cw_region ?_)
  refine sQ 17 (Y_buildS (zs := kZ_) (vs := []) (cs := kZ_) k_pl_65 k_zero_65 rfl mpn rfl) ?_
  refine s0 (Ys_store (i := 1) (s := 5) (B := aD b1) (T' := 65) (v := gZ_) (vs := kZ_) (k := 0) (cs' := kZ_) hS3 k_sz_65_5 rfl rfl rfl rfl rfl rfl rfl (lB rfl) rfl rfl) ?_
  rintro _ w_3 ⟨rfl, hS4⟩
  refine sQ 3 (Y_assign (v := .bool false) rfl rfl) (rw_nil (cw_ret ?_))
  obtain ⟨rfl, rfl⟩ := pr2 (some_inj hF1)
  exact ret2 Tryz.results150 (v1 := gZ_) (resAt_cellA (B := aD b1) (i := 0) (cs := kZ_) (vs := kZ_) rfl k_ag_65 k_sz_65_5 (hS4.cf (i := 1) rfl) rfl rfl) (v2 := .bool false) (resAt_tmp rfl) ⟨rfl, (hS4.sN [])⟩
 ·skip
  have hF2 := cf' hF hb
  refine cw_skip (cw_seq (cw_region ?_))
  refine sQ 18 (Y_buildS (zs := kZ_) (vs := []) (cs := kZ_) k_pl_65 k_zero_65 rfl mpn rfl) ?_
  refine sS 4 (Ys_alloc (T := 65) (cs := kZ_) (m := 5) hS3 k_zero_65 rfl rfl rfl) ?_
  rintro _ w_4 ⟨b2, rfl, hS5⟩
  refine s0 (Ys_store (i := 2) (s := 5) (B := aD b2) (T' := 65) (v := gZ_) (vs := kZ_) (k := 0) (cs' := kZ_) hS5 k_sz_65_5 rfl rfl rfl rfl rfl rfl rfl (lB rfl) rfl rfl) ?_
  rintro _ w_5 ⟨rfl, hS6⟩
  refine sQ 5 (Y_assign (v := .bool true) rfl rfl) (rw_nil (cw_seq (cw_seq (cw_region ?_))))
  refine sQ 6 (Y_assign (v := vi 0) rfl rfl) (rw_nil ?_)
  obtain ⟨z, hz, hF3⟩ := bind_inv hF2
  refine cw_block ?_
  refine cw_loop (fun k f w => ∃ (A : Int) (B1 : Int) (C : Int) (D : Int) (Exp : Int) (ok : Bool) (i : Int), FF f [(1, pt (aD b) 0), (2, pt (aD b1) 0), (4, pt (aD b2) 0), (5, .bool ok), (6, vi i)] ∧ ST w0 [] w [⟨aD b, 48, kM_ m B c, 3⟩, ⟨aD b1, 65, kZ_, 5⟩, ⟨aD b2, 65, [vi A, vi B1, vi C, vi D, vi Exp], 5⟩] [⟨B, (m.Cells.flatMap eN0)⟩] ∧ whX (F_impl_TraceOf_l1 m) k (A, B1, C, D, Exp, ok, i) = some z) fuel ⟨0, 0, 0, 0, 0, true, 0, (FF.cons rfl (FF.cons rfl (FF.cons rfl (FF.cons rfl (FF.cons rfl FF.nil))))), (hS6.sel [0, 1, 2] rfl rfl), hz⟩ ?_
  rintro k_ f w ⟨A, B1, C, D, Exp, ok, i, hf, hS7, hL⟩
  obtain ⟨k_1, y, rfl, hb1, hL1⟩ := whX_go hL
  unfold F_impl_TraceOf_l1 at hb1
  refine cw_seq (cw_seq (cw_region ?_))
  refine sQ 19 (Y_move (v := vi i) rfl (hf.get 6 4 rfl)) ?_
  refine sQ 20 (Y_fieldAddr (B := aD b) (i := 0) (s := 0) k_fd_48_0_0_3 k_sz_3_1 rfl (hf.get 1 0 rfl)) ?_
  refine sQ 21 (Y_load1 (B := aD b) (i := 0) (cs := kM_ m B c) (v := vi m.Rows) k_sc_3 rfl rfl (hS7.cf (i := 0) rfl) rfl) ?_
  refine sQ 22 (Y_lt (k := .i64) (a := i) (b := m.Rows) rfl rfl rfl) ?_
  refine sQ 23 (Y_move (v := .bool (decide (i < m.Rows))) rfl rfl) ?_
  refine sgq 24 (B := (decide (i < m.Rows))) (v := .bool ok) rfl rfl (uT_ 23) (fun hg5 => (Y_move (v := .bool ok) rfl (hf.get 5 3 rfl))) ?_
  refine sQ 25 (Y_and (b := (decide (i < m.Rows))) (z := ok) rfl rfl rfl rfl) (rw_nil ?_)
  refine cw_cond (b := ((decide (i < m.Rows)) && ok)) rfl (fun hb2 => ?_) (fun hb2 => ?_)
  ·skip
   have hF4 := ct hb1 hb2
   refine cw_skip (cw_seq (cw_block ?_))
   obtain ⟨r_3, hc1, hF4⟩ := bind_inv hF4
   obtain ⟨⟨r_4, r_5⟩, hc2, hF4⟩ := bind_inv hF4
   refine cw_mid (fun f w => FF f [(1, pt (aD b) 0), (2, pt (aD b1) 0), (4, pt (aD b2) 0), (5, .bool r_5), (6, vi i)] ∧ ST w0 [] w [⟨aD b, 48, kM_ m B c, 3⟩, ⟨aD b1, 65, kZ_, 5⟩, ⟨aD b2, 65, kD_ r_4, 5⟩] [⟨B, (m.Cells.flatMap eN0)⟩]) ?_ ?_
   ·skip
    refine ra_start (hS7.se [0, 1]).fn (by kernel_rfl) ?_
    have hS11 := hS7.drew
    refine rq 1 30 (v := gM_ m B c) rfl (hS11.se [0, 1]) (fun w' hw' => (Y_loadA (B := aD b) (i := 0) (cs := kM_ m B c) (vs := kM_ m B c) k_ag_48 k_sz_48_3 rfl (hf.get 1 0 rfl) (ST.cf hw' (i := 0) rfl) rfl rfl)) ?_
    refine rq 2 31 (v := vi i) rfl (hS11.se [0, 1]) (fun w' hw' => (Y_move (v := vi i) rfl (hf.get 6 4 rfl))) ?_
    refine rq 3 32 (v := vi i) rfl (hS11.se [0, 1]) (fun w' hw' => (Y_move (v := vi i) rfl (hf.get 6 4 rfl))) ?_
    refine rA [0, 4] ?_
    refine ra_y 29 (i := 0) (v := .agg #[vi A, vi B1, vi C, vi D, vi Exp]) rfl rfl rfl (Y_loadA (B := aD b2) (i := 0) (cs := [vi A, vi B1, vi C, vi D, vi Exp]) (vs := [vi A, vi B1, vi C, vi D, vi Exp]) k_ag_65 k_sz_65_5 rfl (hf.get 4 2 rfl) (hS11.cf (i := 2) rfl) rfl rfl) (hS11.se [0, 1]) ?_ ?_
    ·skip
     refine rA [4] ?_
     refine ra_c 33 (i := 4) rfl rfl rfl (Yc_func (g := 87) (vs := [gM_ m B c, vi i, vi i]) k_call_87 rfl (mc rfl (mc rfl (mc rfl mn))) (c_impl_Matrix_at m i i B c m.Cells.length _ rfl (hS11.inn0 [(true, 0)] rfl) hc1)) ?_ ?_
     ·rintro _ w_6 ⟨rfl, hd1⟩
      have hS12 := hS11.out00 hd1
      refine ⟨(hS12.se [0, 1]), ?_⟩
      refine rA [5] ?_
      refine ra_c 34 (i := 5) rfl rfl rfl (Yc_func (g := 103) (vs := [.agg #[vi A, vi B1, vi C, vi D, vi Exp], gD_ r_3]) k_call_103 rfl (mc rfl (mc rfl mn)) (c_impl_AddDyadic (TDyadic.mk (TRing.mk A B1 C D) Exp) r_3 _  (hS12.inn0 [] rfl) hc2)) ?_ ?_
      ·rintro _ w_7 ⟨rfl, hd2⟩
       have hS13 := hS12.out00 hd2
       refine ⟨(hS13.se [0, 1]), ?_⟩
       refine rq 6 28 (v := .tuple #[gD_ r_4, .bool r_5]) rfl (hS13.se [0, 1]) (fun w' hw' => (Y_move (v := .tuple #[gD_ r_4, .bool r_5]) rfl rfl)) ?_
       refine rq 7 35 (v := gD_ r_4) rfl (hS13.se [0, 1]) (fun w' hw' => (Y_extract (v := gD_ r_4) rfl rfl rfl)) ?_
       refine rq 8 36 (v := .bool r_5) rfl (hS13.se [0, 1]) (fun w' hw' => (Y_extract (v := .bool r_5) rfl rfl rfl)) ?_
       refine rA [9] ?_
       refine ra_s0 (i := 9) rfl rfl rfl (Ys_store (i := 2) (s := 5) (B := aD b2) (T' := 65) (v := gD_ r_4) (vs := kD_ r_4) (k := 0) (cs' := kD_ r_4) hS13 k_sz_65_5 rfl (hf.get 4 2 rfl) rfl rfl rfl rfl rfl (lB rfl) rfl rfl) ?_ ?_
       ·rintro _ w_8 ⟨rfl, hS14⟩
        refine ⟨(hS14.se [0, 1]), ?_⟩
        refine rq 10 5 (v := .bool r_5) rfl (hS14.se [0, 1]) (fun w' hw' => (Y_assign (v := .bool r_5) rfl rfl)) ?_
        refine ra_done (by kernel_rfl) ?_
        exact ⟨(FF.cons (hf.get 1 0 rfl) (FF.cons (hf.get 2 1 rfl) (FF.cons (hf.get 4 2 rfl) (FF.cons rfl (FF.cons (hf.get 6 4 rfl) FF.nil))))), (hS14.sel [0, 1, 2] rfl rfl)⟩
       exact allR_nil
      exact allR_nil
     exact allR_nil
    refine ra_c 33 (i := 4) rfl rfl rfl (Yc_func (g := 87) (vs := [gM_ m B c, vi i, vi i]) k_call_87 rfl (mc rfl (mc rfl (mc rfl mn))) (c_impl_Matrix_at m i i B c m.Cells.length _ rfl (hS11.inn0 [(true, 0)] rfl) hc1)) ?_ ?_
    ·rintro _ w_9 ⟨rfl, hd3⟩
     have hS15 := hS11.out00 hd3
     refine ⟨(hS15.se [0, 1]), ?_⟩
     refine rA [0] ?_
     refine ra_y 29 (i := 0) (v := .agg #[vi A, vi B1, vi C, vi D, vi Exp]) rfl rfl rfl (Y_loadA (B := aD b2) (i := 0) (cs := [vi A, vi B1, vi C, vi D, vi Exp]) (vs := [vi A, vi B1, vi C, vi D, vi Exp]) k_ag_65 k_sz_65_5 rfl (hf.get 4 2 rfl) (hS15.cf (i := 2) rfl) rfl rfl) (hS15.se [0, 1]) ?_ ?_
     ·skip
      refine rA [5] ?_
      refine ra_c 34 (i := 5) rfl rfl rfl (Yc_func (g := 103) (vs := [.agg #[vi A, vi B1, vi C, vi D, vi Exp], gD_ r_3]) k_call_103 rfl (mc rfl (mc rfl mn)) (c_impl_AddDyadic (TDyadic.mk (TRing.mk A B1 C D) Exp) r_3 _  (hS15.inn0 [] rfl) hc2)) ?_ ?_
      ·rintro _ w_10 ⟨rfl, hd4⟩
       have hS16 := hS15.out00 hd4
       refine ⟨(hS16.se [0, 1]), ?_⟩
       refine rq 6 28 (v := .tuple #[gD_ r_4, .bool r_5]) rfl (hS16.se [0, 1]) (fun w' hw' => (Y_move (v := .tuple #[gD_ r_4, .bool r_5]) rfl rfl)) ?_
       refine rq 7 35 (v := gD_ r_4) rfl (hS16.se [0, 1]) (fun w' hw' => (Y_extract (v := gD_ r_4) rfl rfl rfl)) ?_
       refine rq 8 36 (v := .bool r_5) rfl (hS16.se [0, 1]) (fun w' hw' => (Y_extract (v := .bool r_5) rfl rfl rfl)) ?_
       refine rA [9] ?_
       refine ra_s0 (i := 9) rfl rfl rfl (Ys_store (i := 2) (s := 5) (B := aD b2) (T' := 65) (v := gD_ r_4) (vs := kD_ r_4) (k := 0) (cs' := kD_ r_4) hS16 k_sz_65_5 rfl (hf.get 4 2 rfl) rfl rfl rfl rfl rfl (lB rfl) rfl rfl) ?_ ?_
       ·rintro _ w_11 ⟨rfl, hS17⟩
        refine ⟨(hS17.se [0, 1]), ?_⟩
        refine rq 10 5 (v := .bool r_5) rfl (hS17.se [0, 1]) (fun w' hw' => (Y_assign (v := .bool r_5) rfl rfl)) ?_
        refine ra_done (by kernel_rfl) ?_
        exact ⟨(FF.cons (hf.get 1 0 rfl) (FF.cons (hf.get 2 1 rfl) (FF.cons (hf.get 4 2 rfl) (FF.cons rfl (FF.cons (hf.get 6 4 rfl) FF.nil))))), (hS17.sel [0, 1, 2] rfl rfl)⟩
       exact allR_nil
      exact allR_nil
     exact allR_nil
    exact allR_nil
   rintro f w ⟨hf1, hS10⟩
   refine cw_region ?_
   refine sQ 26 (Y_move (v := vi i) rfl (hf1.get 6 4 rfl)) ?_
   refine sQ 27 (Y_add (k := .i64) (a := i) (b := 1) rfl rfl rfl) ?_
   refine sQ 6 (Y_assign (v := vi (i64.wrap (i + 1))) rfl rfl) (rw_nil ?_)
   obtain rfl := some_inj hF4
   exact ⟨k_1, Nat.lt_succ_self _, r_4.Num.A, r_4.Num.B, r_4.Num.C, r_4.Num.D, r_4.Exp, r_5, (i64.wrap (i + 1)), (FF.cons (hf1.get 1 0 rfl) (FF.cons (hf1.get 2 1 rfl) (FF.cons (hf1.get 4 2 rfl) (FF.cons (hf1.get 5 3 rfl) (FF.cons rfl FF.nil))))), (hS10.sel [0, 1, 2] rfl rfl), hL1⟩
  ·skip
   have hF5 := cf' hb1 hb2
   refine cw_exit rfl ?_
   obtain rfl := some_inj hF5
   obtain rfl := some_inj hL1
   refine cw_seq (cw_region ?_)
   refine sQ 37 (Y_loadA (B := aD b2) (i := 0) (cs := [vi A, vi B1, vi C, vi D, vi Exp]) (vs := [vi A, vi B1, vi C, vi D, vi Exp]) k_ag_65 k_sz_65_5 rfl (hf.get 4 2 rfl) (hS7.cf (i := 2) rfl) rfl rfl) ?_
   refine sQ 38 (Y_move (v := .bool ok) rfl (hf.get 5 3 rfl)) ?_
   refine s0 (Ys_store (i := 1) (s := 5) (B := aD b1) (T' := 65) (v := .agg #[vi A, vi B1, vi C, vi D, vi Exp]) (vs := [vi A, vi B1, vi C, vi D, vi Exp]) (k := 0) (cs' := [vi A, vi B1, vi C, vi D, vi Exp]) hS7 k_sz_65_5 rfl (hf.get 2 1 rfl) rfl rfl rfl rfl rfl (lB rfl) rfl rfl) ?_
   rintro _ w_12 ⟨rfl, hS18⟩
   refine sQ 3 (Y_assign (v := .bool ok) rfl rfl) (rw_nil (cw_ret ?_))
   obtain ⟨rfl, rfl⟩ := pr2 (some_inj hF3)
   exact ret2 Tryz.results150 (v1 := .agg #[vi A, vi B1, vi C, vi D, vi Exp]) (resAt_cellA (B := aD b1) (i := 0) (cs := [vi A, vi B1, vi C, vi D, vi Exp]) (vs := [vi A, vi B1, vi C, vi D, vi Exp]) (hf.get 2 1 rfl) k_ag_65 k_sz_65_5 (hS18.cf (i := 1) rfl) rfl rfl) (v2 := .bool ok) (resAt_tmp rfl) ⟨rfl, (hS18.sN [])⟩

theorem c_impl_blochCell (m : TMatrix) (bar : TMatrix) (i : Int) (j : Int) (B : Option Addr) (c n : Nat) (B1 : Option Addr) (c1 n1 : Nat) (w0 : World) (hn : m.Cells.length = n) (hn1 : bar.Cells.length = n1) (hS : ST w0 [] w0 [] [⟨B, (m.Cells.flatMap eN0)⟩, ⟨B1, (bar.Cells.flatMap eN0)⟩, ⟨(aD 0), [vi 1, vi 0, vi 0, vi 0, vi 2]⟩]) {r_ : TDyadic} {r_1 : Bool} (hF : F_impl_blochCell m bar i j = some (r_, r_1)) :
  CV Tryz.prog 138 #[.agg #[vi m.Rows, vi m.Cols, .slice B n c], .agg #[vi bar.Rows, vi bar.Cols, .slice B1 n1 c1], vi i, vi j] w0 (fun v w' => v = .tuple #[gD_ r_, .bool r_1] ∧ ST w0 [] w' [] []) := by
 subst hn
 subst hn1
 unfold F_impl_blochCell at hF
 refine cv_of_cw 83 Tryz.func138 rfl Tryz.ntmps138 rfl ?_
 refine cw_seq (cw_region ?_)
 refine sS 4 (Ys_box (T := 48) (v := gM_ m B c) (cs := kM_ m B c) (m := 3) hS rfl rfl rfl rfl) ?_
 rintro _ w_ ⟨b, rfl, hS1⟩
 refine sS 5 (Ys_box (T := 48) (v := gM_ bar B1 c1) (cs := kM_ bar B1 c1) (m := 3) hS1 rfl rfl rfl rfl) ?_
 rintro _ w_1 ⟨b1, rfl, hS2⟩
 refine sS 8 (Ys_alloc (T := 65) (cs := kZ_) (m := 5) hS2 k_zero_65 rfl rfl rfl) ?_
 rintro _ w_2 ⟨b2, rfl, hS3⟩
 refine sQ 9 (Y_assign (v := .bool false) rfl rfl) (rw_nil (cw_seq (cw_region ?_)))
 refine sQ 23 (show Y _ _ _ _ _ (.agg (([2, 3, 4] : List Int).flatMap encI).toArray) from Y_buildA (zs := [vi 0, vi 0, vi 0]) (vs := [(0, vi 2), (1, vi 3), (2, vi 4)]) (cs := [vi 2, vi 3, vi 4]) k_ar_167_3_3 k_sz_3_1 k_zero_167 rfl (mpc rfl (mpc rfl (mpc rfl mpn))) (by kernel_rfl)) ?_
 refine sS 10 (Ys_alloc (T := 167) (cs := ((List.replicate 3 0).flatMap encI)) (m := 3) hS3 k_zero_167 rfl rfl rfl) ?_
 rintro _ w_3 ⟨b3, rfl, hS4⟩
 refine s0 (Ys_store (i := 3) (s := 3) (B := aD b3) (T' := 167) (v := .agg (([2, 3, 4] : List Int).flatMap encI).toArray) (vs := (([2, 3, 4] : List Int).flatMap encI)) (k := 0) (cs' := (([2, 3, 4] : List Int).flatMap encI)) hS4 k_sz_167_3 rfl rfl rfl rfl (fm_lenn2 encI_len rfl rfl) (fm_one' encI_one _) rfl (fm_fit encI_len (List.length_replicate (n := 3)) rfl) (fm_spl encI_len (List.length_replicate (n := 3)) rfl) rfl) ?_
 rintro _ w_4 ⟨rfl, hS5⟩
 refine rw_nil (cw_seq (cw_region ?_))
 refine sQ 25 (Y_move (v := vi i) rfl rfl) ?_
 obtain ⟨x, hx, hF⟩ := bind_inv hF
 refine sQ 26 (Y_indexArr0 (B := aD b3) (k := .i64) (i := i) k_ar_167_3_3 k_sz_3_1 rfl rfl rfl (getI_nn hx) (getI_ltI hx rfl)) ?_
 refine sQ 27 (Y_load1 (B := aD b3) (i := i.toNat * 1) (cs := (([2, 3, 4] : List Int).flatMap encI)) (v := vi x) k_sc_3 rfl rfl (hS5.cf (i := 3) rfl) (gi_at0 encI_len hx rfl)) ?_
 refine sQ 28 (Y_buildS (zs := [vi 0, vi 0, vi 0]) (vs := [(0, vi x)]) (cs := [vi x, vi 0, vi 0]) k_pl_70 k_zero_70 rfl (mpc rfl mpn) rfl) ?_
 obtain ⟨⟨r_2, r_3⟩, hc, hF⟩ := bind_inv hF
 refine sc 29 rfl rfl (Yc_func (g := 106) (vs := [vi 1, .agg #[vi x, vi 0, vi 0]]) k_call_106 rfl (mc rfl (mc rfl mn)) (c_impl_GateMatrix 1 (TGate.mk x 0 0) _  (hS5.inn0 [] rfl) hc)) ?_
 rintro _ w_5 ⟨B2, c2, rfl, hd⟩
 have hS6 := hS5.out0 hd
 refine sQ 24 (Y_move (v := .tuple #[gM_ r_2 B2 c2, .bool r_3]) rfl rfl) ?_
 refine sQ 30 (Y_extract (v := gM_ r_2 B2 c2) rfl rfl rfl) ?_
 refine sQ 31 (Y_extract (v := .bool r_3) rfl rfl rfl) ?_
 refine sS 11 (Ys_alloc (T := 48) (cs := kN_) (m := 3) hS6 k_zero_48 rfl rfl rfl) ?_
 rintro _ w_6 ⟨b4, rfl, hS7⟩
 refine s0 (Ys_store (i := 5) (s := 3) (B := aD b4) (T' := 48) (v := gM_ r_2 B2 c2) (vs := kM_ r_2 B2 c2) (k := 0) (cs' := kM_ r_2 B2 c2) hS7 k_sz_48_3 rfl rfl rfl rfl rfl rfl rfl (lB rfl) rfl rfl) ?_
 rintro _ w_7 ⟨rfl, hS8⟩
 refine sQ 12 (Y_assign (v := .bool r_3) rfl rfl) (rw_nil (cw_seq (cw_region ?_)))
 refine sQ 33 (Y_move (v := vi j) rfl rfl) ?_
 obtain ⟨x1, hx1, hF⟩ := bind_inv hF
 refine sQ 34 (Y_indexArr0 (B := aD b3) (k := .i64) (i := j) k_ar_167_3_3 k_sz_3_1 rfl rfl rfl (getI_nn hx1) (getI_ltI hx1 rfl)) ?_
 refine sQ 35 (Y_load1 (B := aD b3) (i := j.toNat * 1) (cs := (([2, 3, 4] : List Int).flatMap encI)) (v := vi x1) k_sc_3 rfl rfl (hS8.cf (i := 3) rfl) (gi_at0 encI_len hx1 rfl)) ?_
 refine sQ 36 (Y_buildS (zs := [vi 0, vi 0, vi 0]) (vs := [(0, vi x1)]) (cs := [vi x1, vi 0, vi 0]) k_pl_70 k_zero_70 rfl (mpc rfl mpn) rfl) ?_
 obtain ⟨⟨r_4, r_5⟩, hc1, hF⟩ := bind_inv hF
 refine sc 37 rfl rfl (Yc_func (g := 106) (vs := [vi 1, .agg #[vi x1, vi 0, vi 0]]) k_call_106 rfl (mc rfl (mc rfl mn)) (c_impl_GateMatrix 1 (TGate.mk x1 0 0) _  (hS8.inn0 [] rfl) hc1)) ?_
 rintro _ w_8 ⟨B3, c3, rfl, hd1⟩
 have hS9 := hS8.out0 hd1
 refine sQ 32 (Y_move (v := .tuple #[gM_ r_4 B3 c3, .bool r_5]) rfl rfl) ?_
 refine sQ 38 (Y_extract (v := gM_ r_4 B3 c3) rfl rfl rfl) ?_
 refine sQ 39 (Y_extract (v := .bool r_5) rfl rfl rfl) ?_
 refine sS 13 (Ys_alloc (T := 48) (cs := kN_) (m := 3) hS9 k_zero_48 rfl rfl rfl) ?_
 rintro _ w_9 ⟨b5, rfl, hS10⟩
 refine s0 (Ys_store (i := 7) (s := 3) (B := aD b5) (T' := 48) (v := gM_ r_4 B3 c3) (vs := kM_ r_4 B3 c3) (k := 0) (cs' := kM_ r_4 B3 c3) hS10 k_sz_48_3 rfl rfl rfl rfl rfl rfl rfl (lB rfl) rfl rfl) ?_
 rintro _ w_10 ⟨rfl, hS11⟩
 have hS11 : ST w0 [] _ [⟨aD b, 48, kM_ m B c, 3⟩, ⟨aD b1, 48, kM_ bar B1 c1, 3⟩, ⟨aD b2, 65, kZ_, 5⟩, ⟨aD b3, 167, (([2, 3, 4] : List Int).flatMap encI), 3⟩, ⟨B2, 65, (r_2.Cells.flatMap eN0), c2 * 5⟩, ⟨aD b4, 48, kM_ r_2 B2 c2, 3⟩, ⟨B3, 65, (r_4.Cells.flatMap eN0), c3 * 5⟩, ⟨aD b5, 48, kM_ r_4 B3 c3, 3⟩] [⟨B, (m.Cells.flatMap eN0)⟩, ⟨B1, (bar.Cells.flatMap eN0)⟩, ⟨(aD 0), [vi 1, vi 0, vi 0, vi 0, vi 2]⟩] := hS11
 refine sQ 14 (Y_assign (v := .bool r_5) rfl rfl) (rw_nil (cw_seq (cw_region ?_)))
 refine sQ 41 (Y_loadA (B := aD b4) (i := 0) (cs := kM_ r_2 B2 c2) (vs := kM_ r_2 B2 c2) k_ag_48 k_sz_48_3 rfl rfl (hS11.cf (i := 5) rfl) rfl rfl) ?_
 refine sQ 42 (Y_loadA (B := aD b) (i := 0) (cs := kM_ m B c) (vs := kM_ m B c) k_ag_48 k_sz_48_3 rfl rfl (hS11.cf (i := 0) rfl) rfl rfl) ?_
 obtain ⟨⟨r_6, r_7⟩, hc2, hF⟩ := bind_inv hF
 refine sc 43 rfl rfl (Yc_func (g := 116) (vs := [gM_ r_2 B2 c2, gM_ m B c]) k_call_116 rfl (mc rfl (mc rfl mn)) (c_impl_MulMatrix r_2 m B2 c2 r_2.Cells.length B c m.Cells.length _ rfl rfl (hS11.inn0 [(false, 4), (true, 0)] rfl) hc2)) ?_
 rintro _ w_11 ⟨B4, c4, rfl, hd2⟩
 have hS12 := hS11.out0 hd2
 refine sQ 40 (Y_move (v := .tuple #[gM_ r_6 B4 c4, .bool r_7]) rfl rfl) ?_
 refine sQ 44 (Y_extract (v := gM_ r_6 B4 c4) rfl rfl rfl) ?_
 refine sQ 45 (Y_extract (v := .bool r_7) rfl rfl rfl) ?_
 refine sS 15 (Ys_alloc (T := 48) (cs := kN_) (m := 3) hS12 k_zero_48 rfl rfl rfl) ?_
 rintro _ w_12 ⟨b6, rfl, hS13⟩
 refine s0 (Ys_store (i := 9) (s := 3) (B := aD b6) (T' := 48) (v := gM_ r_6 B4 c4) (vs := kM_ r_6 B4 c4) (k := 0) (cs' := kM_ r_6 B4 c4) hS13 k_sz_48_3 rfl rfl rfl rfl rfl rfl rfl (lB rfl) rfl rfl) ?_
 rintro _ w_13 ⟨rfl, hS14⟩
 refine sQ 16 (Y_assign (v := .bool r_7) rfl rfl) (rw_nil (cw_seq (cw_region ?_)))
 refine sQ 47 (Y_loadA (B := aD b6) (i := 0) (cs := kM_ r_6 B4 c4) (vs := kM_ r_6 B4 c4) k_ag_48 k_sz_48_3 rfl rfl (hS14.cf (i := 9) rfl) rfl rfl) ?_
 refine sQ 48 (Y_loadA (B := aD b5) (i := 0) (cs := kM_ r_4 B3 c3) (vs := kM_ r_4 B3 c3) k_ag_48 k_sz_48_3 rfl rfl (hS14.cf (i := 7) rfl) rfl rfl) ?_
 obtain ⟨⟨r_8, r_9⟩, hc3, hF⟩ := bind_inv hF
 refine sc 49 rfl rfl (Yc_func (g := 116) (vs := [gM_ r_6 B4 c4, gM_ r_4 B3 c3]) k_call_116 rfl (mc rfl (mc rfl mn)) (c_impl_MulMatrix r_6 r_4 B4 c4 r_6.Cells.length B3 c3 r_4.Cells.length _ rfl rfl (hS14.inn0 [(false, 8), (false, 6)] rfl) hc3)) ?_
 rintro _ w_14 ⟨B5, c5, rfl, hd3⟩
 have hS15 := hS14.out0 hd3
 refine sQ 46 (Y_move (v := .tuple #[gM_ r_8 B5 c5, .bool r_9]) rfl rfl) ?_
 refine sQ 50 (Y_extract (v := gM_ r_8 B5 c5) rfl rfl rfl) ?_
 refine sQ 51 (Y_extract (v := .bool r_9) rfl rfl rfl) ?_
 refine s0 (Ys_store (i := 9) (s := 3) (B := aD b6) (T' := 48) (v := gM_ r_8 B5 c5) (vs := kM_ r_8 B5 c5) (k := 0) (cs' := kM_ r_8 B5 c5) hS15 k_sz_48_3 rfl rfl rfl rfl rfl rfl rfl (lB rfl) rfl rfl) ?_
 rintro _ w_15 ⟨rfl, hS16⟩
 refine sQ 17 (Y_assign (v := .bool r_9) rfl rfl) (rw_nil (cw_seq (cw_region ?_)))
 refine sQ 53 (Y_loadA (B := aD b6) (i := 0) (cs := kM_ r_8 B5 c5) (vs := kM_ r_8 B5 c5) k_ag_48 k_sz_48_3 rfl rfl (hS16.cf (i := 9) rfl) rfl rfl) ?_
 refine sQ 54 (Y_loadA (B := aD b1) (i := 0) (cs := kM_ bar B1 c1) (vs := kM_ bar B1 c1) k_ag_48 k_sz_48_3 rfl rfl (hS16.cf (i := 1) rfl) rfl rfl) ?_
 obtain ⟨⟨r_10, r_11⟩, hc4, hF⟩ := bind_inv hF
 refine sc 55 rfl rfl (Yc_func (g := 116) (vs := [gM_ r_8 B5 c5, gM_ bar B1 c1]) k_call_116 rfl (mc rfl (mc rfl mn)) (c_impl_MulMatrix r_8 bar B5 c5 r_8.Cells.length B1 c1 bar.Cells.length _ rfl rfl (hS16.inn0 [(false, 10), (true, 1)] rfl) hc4)) ?_
 rintro _ w_16 ⟨B6, c6, rfl, hd4⟩
 have hS17 := hS16.out0 hd4
 refine sQ 52 (Y_move (v := .tuple #[gM_ r_10 B6 c6, .bool r_11]) rfl rfl) ?_
 refine sQ 56 (Y_extract (v := gM_ r_10 B6 c6) rfl rfl rfl) ?_
 refine sQ 57 (Y_extract (v := .bool r_11) rfl rfl rfl) ?_
 refine s0 (Ys_store (i := 9) (s := 3) (B := aD b6) (T' := 48) (v := gM_ r_10 B6 c6) (vs := kM_ r_10 B6 c6) (k := 0) (cs' := kM_ r_10 B6 c6) hS17 k_sz_48_3 rfl rfl rfl rfl rfl rfl rfl (lB rfl) rfl rfl) ?_
 rintro _ w_17 ⟨rfl, hS18⟩
 refine sQ 18 (Y_assign (v := .bool r_11) rfl rfl) (rw_nil (cw_seq (cw_region ?_)))
 refine sQ 59 (Y_loadA (B := aD b6) (i := 0) (cs := kM_ r_10 B6 c6) (vs := kM_ r_10 B6 c6) k_ag_48 k_sz_48_3 rfl rfl (hS18.cf (i := 9) rfl) rfl rfl) ?_
 obtain ⟨⟨r_12, r_13⟩, hc5, hF⟩ := bind_inv hF
 refine sc 60 rfl rfl (Yc_func (g := 150) (vs := [gM_ r_10 B6 c6]) k_call_150 rfl (mc rfl mn) (c_impl_TraceOf r_10 B6 c6 r_10.Cells.length _ rfl (hS18.inn0 [(false, 11)] rfl) hc5)) ?_
 rintro _ w_18 ⟨rfl, hd5⟩
 have hS19 := hS18.out00 hd5
 refine sQ 58 (Y_move (v := .tuple #[gD_ r_12, .bool r_13]) rfl rfl) ?_
 refine sQ 61 (Y_extract (v := gD_ r_12) rfl rfl rfl) ?_
 refine sQ 62 (Y_extract (v := .bool r_13) rfl rfl rfl) ?_
 refine sS 19 (Ys_alloc (T := 65) (cs := kZ_) (m := 5) hS19 k_zero_65 rfl rfl rfl) ?_
 rintro _ w_19 ⟨b7, rfl, hS20⟩
 refine s0 (Ys_store (i := 12) (s := 5) (B := aD b7) (T' := 65) (v := gD_ r_12) (vs := kD_ r_12) (k := 0) (cs' := kD_ r_12) hS20 k_sz_65_5 rfl rfl rfl rfl rfl rfl rfl (lB rfl) rfl rfl) ?_
 rintro _ w_20 ⟨rfl, hS21⟩
 have hS21 : ST w0 [] _ [⟨aD b, 48, kM_ m B c, 3⟩, ⟨aD b1, 48, kM_ bar B1 c1, 3⟩, ⟨aD b2, 65, kZ_, 5⟩, ⟨aD b3, 167, (([2, 3, 4] : List Int).flatMap encI), 3⟩, ⟨B2, 65, (r_2.Cells.flatMap eN0), c2 * 5⟩, ⟨aD b4, 48, kM_ r_2 B2 c2, 3⟩, ⟨B3, 65, (r_4.Cells.flatMap eN0), c3 * 5⟩, ⟨aD b5, 48, kM_ r_4 B3 c3, 3⟩, ⟨B4, 65, (r_6.Cells.flatMap eN0), c4 * 5⟩, ⟨aD b6, 48, kM_ r_10 B6 c6, 3⟩, ⟨B5, 65, (r_8.Cells.flatMap eN0), c5 * 5⟩, ⟨B6, 65, (r_10.Cells.flatMap eN0), c6 * 5⟩, ⟨aD b7, 65, kD_ r_12, 5⟩] [⟨B, (m.Cells.flatMap eN0)⟩, ⟨B1, (bar.Cells.flatMap eN0)⟩, ⟨(aD 0), [vi 1, vi 0, vi 0, vi 0, vi 2]⟩] := hS21
 refine sQ 20 (Y_assign (v := .bool r_13) rfl rfl) (rw_nil (cw_seq (cw_region ?_)))
 refine sQ 64 (Y_loadA (B := aD b7) (i := 0) (cs := kD_ r_12) (vs := kD_ r_12) k_ag_65 k_sz_65_5 rfl rfl (hS21.cf (i := 12) rfl) rfl rfl) ?_
 refine sQ 65 (Y_loadA (B := (aD 0)) (i := 0) (cs := [vi 1, vi 0, vi 0, vi 0, vi 2]) (vs := [vi 1, vi 0, vi 0, vi 0, vi 2]) k_ag_65 k_sz_65_5 rfl rfl (hS21.rf (i := 2) rfl) rfl rfl) ?_
 obtain ⟨⟨r_14, r_15⟩, hc6, hF⟩ := bind_inv hF
 refine sc 66 rfl rfl (Yc_func (g := 86) (vs := [gD_ r_12, .agg #[vi 1, vi 0, vi 0, vi 0, vi 2]]) k_call_86 rfl (mc rfl (mc rfl mn)) (c_impl_MulDyadic r_12 (TDyadic.mk (TRing.mk 1 0 0 0) 2) _  (hS21.inn0 [] rfl) hc6)) ?_
 rintro _ w_21 ⟨rfl, hd6⟩
 have hS22 := hS21.out00 hd6
 refine sQ 63 (Y_move (v := .tuple #[gD_ r_14, .bool r_15]) rfl rfl) ?_
 refine sQ 67 (Y_extract (v := gD_ r_14) rfl rfl rfl) ?_
 refine sQ 68 (Y_extract (v := .bool r_15) rfl rfl rfl) ?_
 refine sS 21 (Ys_alloc (T := 65) (cs := kZ_) (m := 5) hS22 k_zero_65 rfl rfl rfl) ?_
 rintro _ w_22 ⟨b8, rfl, hS23⟩
 refine s0 (Ys_store (i := 13) (s := 5) (B := aD b8) (T' := 65) (v := gD_ r_14) (vs := kD_ r_14) (k := 0) (cs' := kD_ r_14) hS23 k_sz_65_5 rfl rfl rfl rfl rfl rfl rfl (lB rfl) rfl rfl) ?_
 rintro _ w_23 ⟨rfl, hS24⟩
 refine sQ 22 (Y_assign (v := .bool r_15) rfl rfl) (rw_nil (cw_seq (cw_region ?_)))
 refine sQ 69 (Y_loadA (B := aD b8) (i := 0) (cs := kD_ r_14) (vs := kD_ r_14) k_ag_65 k_sz_65_5 rfl rfl (hS24.cf (i := 13) rfl) rfl rfl) ?_
 refine sQ 70 (Y_move (v := .bool r_7) rfl rfl) ?_
 refine sQ 71 (Y_move (v := .bool r_7) rfl rfl) ?_
 refine sgq 72 (B := r_7) (v := .bool r_9) rfl rfl (uT_ 71) (fun hg => (Y_move (v := .bool r_9) rfl rfl)) ?_
 refine sQ 73 (Y_and (b := r_7) (z := r_9) rfl rfl rfl rfl) ?_
 refine sQ 74 (Y_move (v := .bool (r_7 && r_9)) rfl rfl) ?_
 refine sgq 75 (B := (r_7 && r_9)) (v := .bool r_11) rfl rfl (uT_ 74) (fun hg1 => (Y_move (v := .bool r_11) rfl rfl)) ?_
 refine sQ 76 (Y_and (b := (r_7 && r_9)) (z := r_11) rfl rfl rfl rfl) ?_
 refine sQ 77 (Y_move (v := .bool ((r_7 && r_9) && r_11)) rfl rfl) ?_
 refine sgq 78 (B := ((r_7 && r_9) && r_11)) (v := .bool r_13) rfl rfl (uT_ 77) (fun hg2 => (Y_move (v := .bool r_13) rfl rfl)) ?_
 refine sQ 79 (Y_and (b := ((r_7 && r_9) && r_11)) (z := r_13) rfl rfl rfl rfl) ?_
 refine sQ 80 (Y_move (v := .bool (((r_7 && r_9) && r_11) && r_13)) rfl rfl) ?_
 refine sgq 81 (B := (((r_7 && r_9) && r_11) && r_13)) (v := .bool r_15) rfl rfl (uT_ 80) (fun hg3 => (Y_move (v := .bool r_15) rfl rfl)) ?_
 refine sQ 82 (Y_and (b := (((r_7 && r_9) && r_11) && r_13)) (z := r_15) rfl rfl rfl rfl) ?_
 refine s0 (Ys_store (i := 2) (s := 5) (B := aD b2) (T' := 65) (v := gD_ r_14) (vs := kD_ r_14) (k := 0) (cs' := kD_ r_14) hS24 k_sz_65_5 rfl rfl rfl rfl rfl rfl rfl (lB rfl) rfl rfl) ?_
 rintro _ w_24 ⟨rfl, hS25⟩
 refine sQ 9 (Y_assign (v := .bool ((((r_7 && r_9) && r_11) && r_13) && r_15)) rfl rfl) (rw_nil (cw_ret ?_))
 obtain ⟨rfl, rfl⟩ := pr2 (some_inj hF)
 exact ret2 Tryz.results138 (v1 := gD_ r_14) (resAt_cellA (B := aD b2) (i := 0) (cs := kD_ r_14) (vs := kD_ r_14) rfl k_ag_65 k_sz_65_5 (hS25.cf (i := 2) rfl) rfl rfl) (v2 := .bool ((((r_7 && r_9) && r_11) && r_13) && r_15)) (resAt_tmp rfl) ⟨rfl, (hS25.sN [])⟩

theorem c_impl_BlochOf (m : TMatrix) (B : Option Addr) (c n : Nat) (w0 : World) (hn : m.Cells.length = n) (hS : ST w0 [] w0 [] [⟨B, (m.Cells.flatMap eN0)⟩, ⟨(aD 0), [vi 1, vi 0, vi 0, vi 0, vi 2]⟩]) {r_ : TBloch} {r_1 : Bool} (hF : F_impl_BlochOf m = some (r_, r_1)) :
  CV Tryz.prog 107 #[.agg #[vi m.Rows, vi m.Cols, .slice B n c]] w0 (fun v w' => ∃ (B1 : Option Addr) (c1 : Nat), v = .tuple #[gB_ r_ B1 c1, .bool r_1] ∧ ST w0 [] w' [⟨B1, 65, (r_.Cells.flatMap eN0), c1 * 5⟩] []) := by
 subst hn
 unfold F_impl_BlochOf at hF
 refine cv_of_cw 47 Tryz.func107 rfl Tryz.ntmps107 rfl ?_
 refine cw_seq (cw_region ?_)
 refine sS 1 (Ys_box (T := 48) (v := gM_ m B c) (cs := kM_ m B c) (m := 3) hS rfl rfl rfl rfl) ?_
 rintro _ w_ ⟨b, rfl, hS1⟩
 refine sS 2 (Ys_alloc (T := 30) (cs := [.slice none 0 0]) (m := 1) hS1 k_zero_30 rfl rfl rfl) ?_
 rintro _ w_1 ⟨b1, rfl, hS2⟩
 refine sQ 3 (Y_assign (v := .bool false) rfl rfl) (rw_nil (cw_seq (cw_seq (cw_region ?_))))
 refine sQ 11 (Y_loadA (B := aD b) (i := 0) (cs := kM_ m B c) (vs := kM_ m B c) k_ag_48 k_sz_48_3 rfl rfl (hS2.cf (i := 0) rfl) rfl rfl) ?_
 obtain ⟨r_2, hc, hF⟩ := bind_inv hF
 refine sc 12 rfl rfl (Yc_func (g := 136) (vs := [gM_ m B c]) k_call_136 rfl (mc rfl mn) (c_impl_IsOneQubit m B c m.Cells.length _ rfl (hS2.inn0 [(true, 0)] rfl) hc)) ?_
 rintro _ w_2 ⟨rfl, hd⟩
 have hS3 := hS2.out00 hd
 refine sQ 13 (Y_not (p := r_2) rfl rfl) (rw_nil ?_)
 refine cw_cond (b := (!r_2)) rfl (fun hb => ?_) (fun hb => ?_)
 ·skip
  have hF1 := ct hF hb
  refine cw_seq (cw_region ?_)
  refine sQ 14 (Y_buildS (zs := [.slice none 0 0]) (vs := []) (cs := [.slice none 0 0]) k_pl_30 k_zero_30 rfl mpn rfl) ?_
  refine s0 (Ys_store (i := 1) (s := 1) (B := aD b1) (T' := 30) (v := .agg #[.slice none 0 0]) (vs := [.slice none 0 0]) (k := 0) (cs' := [.slice none 0 0]) hS3 k_sz_30_1 rfl rfl rfl rfl rfl rfl rfl (lB rfl) rfl rfl) ?_
  rintro _ w_3 ⟨rfl, hS4⟩
  refine sQ 3 (Y_assign (v := .bool false) rfl rfl) (rw_nil (cw_ret ?_))
  have hS5 := hS4.addNil 65
  obtain ⟨rfl, rfl⟩ := pr2 (some_inj hF1)
  exact ret2 Tryz.results107 (v1 := .agg #[.slice none 0 0]) (resAt_cellA (B := aD b1) (i := 0) (cs := [.slice none 0 0]) (vs := [.slice none 0 0]) rfl k_ag_30 k_sz_30_1 (hS5.cf (i := 1) rfl) rfl rfl) (v2 := .bool false) (resAt_tmp rfl) ⟨none, 0, rfl, (hS5.sN [2])⟩
 ·skip
  have hF2 := cf' hF hb
  refine cw_skip (cw_seq (cw_region ?_))
  refine sQ 16 (Y_loadA (B := aD b) (i := 0) (cs := kM_ m B c) (vs := kM_ m B c) k_ag_48 k_sz_48_3 rfl rfl (hS3.cf (i := 0) rfl) rfl rfl) ?_
  obtain ⟨⟨r_3, r_4⟩, hc1, hF2⟩ := bind_inv hF2
  refine sc 17 rfl rfl (Yc_func (g := 137) (vs := [gM_ m B c]) k_call_137 rfl (mc rfl mn) (c_impl_Adjoint m B c m.Cells.length _ rfl (hS3.inn0 [(true, 0)] rfl) hc1)) ?_
  rintro _ w_4 ⟨B2, c2, rfl, hd1⟩
  have hS6 := hS3.out0 hd1
  refine sQ 15 (Y_move (v := .tuple #[gM_ r_3 B2 c2, .bool r_4]) rfl rfl) ?_
  refine sQ 18 (Y_extract (v := gM_ r_3 B2 c2) rfl rfl rfl) ?_
  refine sQ 19 (Y_extract (v := .bool r_4) rfl rfl rfl) ?_
  refine sS 4 (Ys_alloc (T := 48) (cs := kN_) (m := 3) hS6 k_zero_48 rfl rfl rfl) ?_
  rintro _ w_5 ⟨b2, rfl, hS7⟩
  refine s0 (Ys_store (i := 3) (s := 3) (B := aD b2) (T' := 48) (v := gM_ r_3 B2 c2) (vs := kM_ r_3 B2 c2) (k := 0) (cs' := kM_ r_3 B2 c2) hS7 k_sz_48_3 rfl rfl rfl rfl rfl rfl rfl (lB rfl) rfl rfl) ?_
  rintro _ w_6 ⟨rfl, hS8⟩
  refine sQ 5 (Y_assign (v := .bool r_4) rfl rfl) (rw_nil (cw_seq (cw_region ?_)))
  refine sQ 20 (Y_buildS (zs := [.slice none 0 0]) (vs := []) (cs := [.slice none 0 0]) k_pl_30 k_zero_30 rfl mpn rfl) ?_
  refine sS 6 (Ys_alloc (T := 30) (cs := [.slice none 0 0]) (m := 1) hS8 k_zero_30 rfl rfl rfl) ?_
  rintro _ w_7 ⟨b3, rfl, hS9⟩
  refine s0 (Ys_store (i := 4) (s := 1) (B := aD b3) (T' := 30) (v := .agg #[.slice none 0 0]) (vs := [.slice none 0 0]) (k := 0) (cs' := [.slice none 0 0]) hS9 k_sz_30_1 rfl rfl rfl rfl rfl rfl rfl (lB rfl) rfl rfl) ?_
  rintro _ w_8 ⟨rfl, hS10⟩
  refine rw_nil (cw_seq (cw_seq (cw_region ?_)))
  refine sQ 21 (Y_move (v := vi 0) rfl rfl) (rw_nil ?_)
  obtain ⟨z, hz, hF3⟩ := bind_inv hF2
  have hS12 := hS10.addNil 65
  refine cw_block ?_
  refine cw_loop (fun k f w => ∃ (i : Nat) (Cells : List TDyadic) (B3 : Option Addr) (c3 : Nat), FF f [(1, pt (aD b) 0), (2, pt (aD b1) 0), (4, pt (aD b2) 0), (6, pt (aD b3) 0), (21, vi (i : Int))] ∧ ST w0 [] w [⟨aD b, 48, kM_ m B c, 3⟩, ⟨aD b1, 30, [.slice none 0 0], 1⟩, ⟨aD b2, 48, kM_ r_3 B2 c2, 3⟩, ⟨B2, 65, (r_3.Cells.flatMap eN0), c2 * 5⟩, ⟨aD b3, 30, [.slice B3 Cells.length c3], 1⟩, ⟨B3, 65, (Cells.flatMap eN0), c3 * 5⟩] [⟨B, (m.Cells.flatMap eN0)⟩, ⟨(aD 0), [vi 1, vi 0, vi 0, vi 0, vi 2]⟩] ∧ i + k = 3 ∧ forX (F_impl_BlochOf_l1 m r_3) k i Cells = some z) 3 ⟨0, [], none, 0, (FF.cons rfl (FF.cons rfl (FF.cons rfl (FF.cons rfl (FF.cons rfl FF.nil))))), (hS12.sel [0, 1, 3, 2, 4, 5] rfl rfl), Nat.zero_add _, hz⟩ ?_
  rintro k_ f w ⟨i, Cells, B3, c3, hf, hS11, hik, hL⟩
  refine cw_seq (cw_region ?_)
  refine sQ 22 (Y_lt (k := .i64) (a := (i : Int)) (b := 3) rfl (hf.get 21 4 rfl) rfl) (rw_nil (cw_seq ?_))
  refine cw_cond (b := (decide ((i : Int) < 3))) rfl (fun hlt => ?_) (fun hlt => ?_)
  ·skip
   have hlt1 : i < 3 := by have h := of_decide_eq_true hlt; omega
   obtain ⟨k_1, rfl⟩ : ∃ k2, k_ = k2 + 1 := ⟨k_ - 1, by omega⟩
   obtain ⟨y, hb1, hL1⟩ := forX_go hL
   unfold F_impl_BlochOf_l1 at hb1
   refine cw_skip (cw_seq (cw_block (cw_seq (cw_region ?_))))
   refine sQ 23 (Y_move (v := vi (i : Int)) rfl (hf.get 21 4 rfl)) ?_
   refine sQ 7 (Y_assign (v := vi (i : Int)) rfl rfl) (rw_nil (cw_seq (cw_region ?_)))
   refine sQ 24 (Y_move (v := vi 0) rfl rfl) (rw_nil ?_)
   obtain ⟨z1, hz1, hF4⟩ := bind_inv hb1
   refine cw_block ?_
   refine cw_loop (fun k f w => ∃ (i1 : Nat) (Cells1 : List TDyadic) (B4 : Option Addr) (c4 : Nat), FF f [(1, pt (aD b) 0), (2, pt (aD b1) 0), (4, pt (aD b2) 0), (6, pt (aD b3) 0), (7, vi (i : Int)), (21, vi (i : Int)), (24, vi (i1 : Int))] ∧ ST w0 [] w [⟨aD b, 48, kM_ m B c, 3⟩, ⟨aD b1, 30, [.slice none 0 0], 1⟩, ⟨aD b2, 48, kM_ r_3 B2 c2, 3⟩, ⟨B2, 65, (r_3.Cells.flatMap eN0), c2 * 5⟩, ⟨aD b3, 30, [.slice B4 Cells1.length c4], 1⟩, ⟨B4, 65, (Cells1.flatMap eN0), c4 * 5⟩] [⟨B, (m.Cells.flatMap eN0)⟩, ⟨(aD 0), [vi 1, vi 0, vi 0, vi 0, vi 2]⟩] ∧ i1 + k = 3 ∧ forX (F_impl_BlochOf_l2 m r_3 i) k i1 Cells1 = some z1) 3 ⟨0, Cells, B3, c3, (FF.cons (hf.get 1 0 rfl) (FF.cons (hf.get 2 1 rfl) (FF.cons (hf.get 4 2 rfl) (FF.cons (hf.get 6 3 rfl) (FF.cons rfl (FF.cons (hf.get 21 4 rfl) (FF.cons rfl FF.nil))))))), (hS11.sel [0, 1, 2, 3, 4, 5] rfl rfl), Nat.zero_add _, hz1⟩ ?_
   rintro k_2 f w ⟨i1, Cells1, B4, c4, hf1, hS13, hik1, hL2⟩
   refine cw_seq (cw_region ?_)
   refine sQ 25 (Y_lt (k := .i64) (a := (i1 : Int)) (b := 3) rfl (hf1.get 24 6 rfl) rfl) (rw_nil (cw_seq ?_))
   refine cw_cond (b := (decide ((i1 : Int) < 3))) rfl (fun hlt2 => ?_) (fun hlt2 => ?_)
   ·skip
    have hlt3 : i1 < 3 := by have h := of_decide_eq_true hlt2; omega
    obtain ⟨k_3, rfl⟩ : ∃ k2, k_2 = k2 + 1 := ⟨k_2 - 1, by omega⟩
    obtain ⟨y1, hb2, hL3⟩ := forX_go hL2
    unfold F_impl_BlochOf_l2 at hb2
    refine cw_skip (cw_seq (cw_block (cw_seq (cw_region ?_))))
    refine sQ 26 (Y_move (v := vi (i1 : Int)) rfl (hf1.get 24 6 rfl)) ?_
    refine sQ 8 (Y_assign (v := vi (i1 : Int)) rfl rfl) (rw_nil (cw_seq (cw_region ?_)))
    refine sQ 28 (Y_loadA (B := aD b) (i := 0) (cs := kM_ m B c) (vs := kM_ m B c) k_ag_48 k_sz_48_3 rfl (hf1.get 1 0 rfl) (hS13.cf (i := 0) rfl) rfl rfl) ?_
    refine sQ 29 (Y_loadA (B := aD b2) (i := 0) (cs := kM_ r_3 B2 c2) (vs := kM_ r_3 B2 c2) k_ag_48 k_sz_48_3 rfl (hf1.get 4 2 rfl) (hS13.cf (i := 2) rfl) rfl rfl) ?_
    refine sQ 30 (Y_move (v := vi (i : Int)) rfl (hf1.get 7 4 rfl)) ?_
    refine sQ 31 (Y_move (v := vi (i1 : Int)) rfl rfl) ?_
    obtain ⟨⟨r_5, r_6⟩, hc2, hb2⟩ := bind_inv hb2
    refine sc 32 rfl rfl (Yc_func (g := 138) (vs := [gM_ m B c, gM_ r_3 B2 c2, vi (i : Int), vi (i1 : Int)]) k_call_138 rfl (mc rfl (mc rfl (mc rfl (mc rfl mn)))) (c_impl_blochCell m r_3 (i : Int) (i1 : Int) B c m.Cells.length B2 c2 r_3.Cells.length _ rfl rfl (hS13.inn0 [(true, 0), (false, 3), (true, 1)] rfl) hc2)) ?_
    rintro _ w_9 ⟨rfl, hd2⟩
    have hS14 := hS13.out00 hd2
    refine sQ 27 (Y_move (v := .tuple #[gD_ r_5, .bool r_6]) rfl rfl) ?_
    refine sQ 33 (Y_extract (v := gD_ r_5) rfl rfl rfl) ?_
    refine sQ 34 (Y_extract (v := .bool r_6) rfl rfl rfl) ?_
    refine sS 9 (Ys_alloc (T := 65) (cs := kZ_) (m := 5) hS14 k_zero_65 rfl rfl rfl) ?_
    rintro _ w_10 ⟨b4, rfl, hS15⟩
    refine s0 (Ys_store (i := 6) (s := 5) (B := aD b4) (T' := 65) (v := gD_ r_5) (vs := kD_ r_5) (k := 0) (cs' := kD_ r_5) hS15 k_sz_65_5 rfl rfl rfl rfl rfl rfl rfl (lB rfl) rfl rfl) ?_
    rintro _ w_11 ⟨rfl, hS16⟩
    refine sQ 10 (Y_assign (v := .bool r_6) rfl rfl) (rw_nil (cw_seq (cw_seq (cw_region ?_))))
    refine sQ 35 (Y_move (v := .bool r_6) rfl rfl) ?_
    refine sQ 36 (Y_not (p := r_6) rfl rfl) (rw_nil ?_)
    refine cw_cond (b := (!r_6)) rfl (fun hb3 => ?_) (fun hb3 => ?_)
    ·skip
     have hF5 := ct hb2 hb3
     refine cw_seq (cw_region ?_)
     refine sQ 37 (Y_buildS (zs := [.slice none 0 0]) (vs := []) (cs := [.slice none 0 0]) k_pl_30 k_zero_30 rfl mpn rfl) ?_
     refine s0 (Ys_store (i := 1) (s := 1) (B := aD b1) (T' := 30) (v := .agg #[.slice none 0 0]) (vs := [.slice none 0 0]) (k := 0) (cs' := [.slice none 0 0]) hS16 k_sz_30_1 rfl (hf1.get 2 1 rfl) rfl rfl rfl rfl rfl (lB rfl) rfl rfl) ?_
     rintro _ w_12 ⟨rfl, hS17⟩
     refine sQ 3 (Y_assign (v := .bool false) rfl rfl) (rw_nil (cw_ret ?_))
     have hS18 := hS17.addNil 65
     obtain rfl := some_inj hF5
     obtain rfl := some_inj hL3
     obtain rfl := some_inj hF4
     obtain rfl := some_inj hL1
     obtain ⟨rfl, rfl⟩ := pr2 (some_inj hF3)
     exact ret2 Tryz.results107 (v1 := .agg #[.slice none 0 0]) (resAt_cellA (B := aD b1) (i := 0) (cs := [.slice none 0 0]) (vs := [.slice none 0 0]) (hf1.get 2 1 rfl) k_ag_30 k_sz_30_1 (hS18.cf (i := 1) rfl) rfl rfl) (v2 := .bool false) (resAt_tmp rfl) ⟨none, 0, rfl, (hS18.sN [7])⟩
    ·skip
     have hF6 := cf' hb2 hb3
     refine cw_skip (cw_region ?_)
     refine sQ 38 (Y_fieldAddr (B := aD b3) (i := 0) (s := 0) k_fd_30_0_0_28 k_sz_28_1 rfl (hf1.get 6 3 rfl)) ?_
     refine sQ 39 (Y_load1 (B := aD b3) (i := 0) (cs := [.slice B4 Cells1.length c4]) (v := .slice B4 Cells1.length c4) k_sc_28 rfl rfl (hS16.cf (i := 4) rfl) rfl) ?_
     refine sQ 40 (Y_loadA (B := aD b4) (i := 0) (cs := kD_ r_5) (vs := kD_ r_5) k_ag_65 k_sz_65_5 rfl rfl (hS16.cf (i := 6) rfl) rfl rfl) ?_
     refine sS 41 (Ys_bslice (s := 5) (len := 1) (vs := [(0, gD_ r_5)]) (cs := kD_ r_5) (zs := kZ_) (m := 5) hS16 k_sl_28_65 k_sz_65_5 k_zc_65 rfl (mpc rfl mpn) rfl rfl rfl (by kernel_rfl) (by kernel_rfl) rfl) ?_
     rintro _ w_13 ⟨b5, rfl, hS19⟩
     obtain ⟨hap, hF6⟩ := chk_inv hF6
     refine sS 42 (Ys_append (s := 5) (by' := 40) (i := 5) (nn := Cells1.length) (c := c4) (k := 1) (len := (Cells1 ++ [r_5]).length) (B := B4) (xs := ([r_5].flatMap eN0)) (cs' := ((Cells1 ++ [r_5]).flatMap eN0)) hS19 k_sl_28_65 k_sz_65_5 k_by_65_40 k_zero_65 rfl (by decide) rfl rfl rfl rfl (fm_lenn (l := Cells1) eN2 rfl) rfl (hS19.cf (i := 7) rfl) (fm_lenn (l := [r_5]) eN2 rfl) (fm_one' (enc := eN0) enc_Dyadic_one [r_5]) (by have := hap; omega) (by have := hap; simp only [maxLen]; omega) (fm_app _ _) (app_len (l := Cells1) (l' := [r_5]) rfl rfl)) ?_
     rintro _ w_14 ⟨B5, c5, rfl, hS20⟩
     refine sQ 43 (Y_fieldAddr (B := aD b3) (i := 0) (s := 0) k_fd_30_0_0_28 k_sz_28_1 rfl (hf1.get 6 3 rfl)) ?_
     refine s0 (Ys_store (i := 4) (s := 1) (B := aD b3) (T' := 30) (v := .slice B5 ((Cells1 ++ [r_5]).length) c5) (vs := [.slice B5 ((Cells1 ++ [r_5]).length) c5]) (k := 0) (cs' := [.slice B5 ((Cells1 ++ [r_5]).length) c5]) hS20 k_sz_28_1 rfl rfl rfl rfl rfl rfl rfl (lB rfl) rfl rfl) ?_
     rintro _ w_15 ⟨rfl, hS21⟩
     refine rw_nil (cw_region ?_)
     refine sQ 44 (Y_add (k := .i64) (a := (i1 : Int)) (b := 1) rfl (hf1.get 24 6 rfl) rfl) ?_
     refine sQ 24 (Y_move (v := vi (i64.wrap ((i1 : Int) + 1))) rfl rfl) (rw_nil ?_)
     obtain rfl := some_inj hF6
     exact ⟨k_3, Nat.lt_succ_self _, i1 + 1, (Cells1 ++ [r_5]), B5, c5, (FF.cons (hf1.get 1 0 rfl) (FF.cons (hf1.get 2 1 rfl) (FF.cons (hf1.get 4 2 rfl) (FF.cons (hf1.get 6 3 rfl) (FF.cons (hf1.get 7 4 rfl) (FF.cons (hf1.get 21 5 rfl) (FF.cons (congrArg (Value.int .i64) (wr_succ hlt3 (show 3 ≤ 9223372036854775807 by decide))) FF.nil))))))), (hS21.sel [0, 1, 2, 3, 4, 5] rfl rfl), (by omega), hL3⟩
   ·skip
    obtain rfl : k_2 = 0 := by have h := of_decide_eq_false hlt2; omega
    refine cw_exit rfl ?_
    obtain rfl := some_inj hL2
    refine cw_region ?_
    refine sQ 45 (Y_add (k := .i64) (a := (i : Int)) (b := 1) rfl (hf1.get 21 5 rfl) rfl) ?_
    refine sQ 21 (Y_move (v := vi (i64.wrap ((i : Int) + 1))) rfl rfl) (rw_nil ?_)
    obtain rfl := some_inj hF4
    exact ⟨k_1, Nat.lt_succ_self _, i + 1, Cells1, B4, c4, (FF.cons (hf1.get 1 0 rfl) (FF.cons (hf1.get 2 1 rfl) (FF.cons (hf1.get 4 2 rfl) (FF.cons (hf1.get 6 3 rfl) (FF.cons (congrArg (Value.int .i64) (wr_succ hlt1 (show 3 ≤ 9223372036854775807 by decide))) FF.nil))))), (hS13.sel [0, 1, 2, 3, 4, 5] rfl rfl), (by omega), hL1⟩
  ·skip
   obtain rfl : k_ = 0 := by have h := of_decide_eq_false hlt; omega
   refine cw_exit rfl ?_
   obtain rfl := some_inj hL
   refine cw_seq (cw_region ?_)
   refine sQ 46 (Y_loadA (B := aD b3) (i := 0) (cs := [.slice B3 Cells.length c3]) (vs := [.slice B3 Cells.length c3]) k_ag_30 k_sz_30_1 rfl (hf.get 6 3 rfl) (hS11.cf (i := 4) rfl) rfl rfl) ?_
   refine s0 (Ys_store (i := 1) (s := 1) (B := aD b1) (T' := 30) (v := .agg #[.slice B3 Cells.length c3]) (vs := [.slice B3 Cells.length c3]) (k := 0) (cs' := [.slice B3 Cells.length c3]) hS11 k_sz_30_1 rfl (hf.get 2 1 rfl) rfl rfl rfl rfl rfl (lB rfl) rfl rfl) ?_
   rintro _ w_16 ⟨rfl, hS22⟩
   refine sQ 3 (Y_assign (v := .bool true) rfl rfl) (rw_nil (cw_ret ?_))
   obtain ⟨rfl, rfl⟩ := pr2 (some_inj hF3)
   exact ret2 Tryz.results107 (v1 := .agg #[.slice B3 Cells.length c3]) (resAt_cellA (B := aD b1) (i := 0) (cs := [.slice B3 Cells.length c3]) (vs := [.slice B3 Cells.length c3]) (hf.get 2 1 rfl) k_ag_30 k_sz_30_1 (hS22.cf (i := 1) rfl) rfl rfl) (v2 := .bool true) (resAt_tmp rfl) ⟨B3, c3, rfl, (hS22.sN [5])⟩

theorem c_impl_blochGate (kind : Int)  (w0 : World)  (hS : ST w0 [] w0 [] [⟨(aD 0), [vi 1, vi 0, vi 0, vi 0, vi 2]⟩]) {r_ : TBloch} (hF : F_impl_blochGate kind = some r_) :
  CV Tryz.prog 67 #[vi kind] w0 (fun v w' => ∃ (B : Option Addr) (c : Nat), v = (gB_ r_ B c) ∧ ST w0 [] w' [⟨B, 65, (r_.Cells.flatMap eN0), c * 5⟩] []) := by
 unfold F_impl_blochGate at hF
 refine cv_of_cw 19 Tryz.func67 rfl Tryz.ntmps67 rfl ?_
 refine cw_seq (cw_region ?_)
 refine sS 2 (Ys_alloc (T := 30) (cs := [.slice none 0 0]) (m := 1) hS k_zero_30 rfl rfl rfl) ?_
 rintro _ w_ ⟨b, rfl, hS1⟩
 refine rw_nil (cw_seq (cw_region ?_))
 refine sQ 8 (Y_move (v := vi kind) rfl rfl) ?_
 refine sQ 9 (Y_buildS (zs := [vi 0, vi 0, vi 0]) (vs := [(0, vi kind)]) (cs := [vi kind, vi 0, vi 0]) k_pl_70 k_zero_70 rfl (mpc rfl mpn) rfl) ?_
 obtain ⟨⟨r_1, r_2⟩, hc, hF⟩ := bind_inv hF
 refine sc 10 rfl rfl (Yc_func (g := 106) (vs := [vi 1, .agg #[vi kind, vi 0, vi 0]]) k_call_106 rfl (mc rfl (mc rfl mn)) (c_impl_GateMatrix 1 (TGate.mk kind 0 0) _  (hS1.inn0 [] rfl) hc)) ?_
 rintro _ w_1 ⟨B1, c1, rfl, hd⟩
 have hS2 := hS1.out0 hd
 refine sQ 7 (Y_move (v := .tuple #[gM_ r_1 B1 c1, .bool r_2]) rfl rfl) ?_
 refine sQ 11 (Y_extract (v := gM_ r_1 B1 c1) rfl rfl rfl) ?_
 refine sQ 12 (Y_extract (v := .bool r_2) rfl rfl rfl) ?_
 refine sS 3 (Ys_alloc (T := 48) (cs := kN_) (m := 3) hS2 k_zero_48 rfl rfl rfl) ?_
 rintro _ w_2 ⟨b1, rfl, hS3⟩
 refine s0 (Ys_store (i := 2) (s := 3) (B := aD b1) (T' := 48) (v := gM_ r_1 B1 c1) (vs := kM_ r_1 B1 c1) (k := 0) (cs' := kM_ r_1 B1 c1) hS3 k_sz_48_3 rfl rfl rfl rfl rfl rfl rfl (lB rfl) rfl rfl) ?_
 rintro _ w_3 ⟨rfl, hS4⟩
 refine sQ 4 (Y_assign (v := .bool r_2) rfl rfl) (rw_nil (cw_seq (cw_region ?_)))
 refine sQ 14 (Y_loadA (B := aD b1) (i := 0) (cs := kM_ r_1 B1 c1) (vs := kM_ r_1 B1 c1) k_ag_48 k_sz_48_3 rfl rfl (hS4.cf (i := 2) rfl) rfl rfl) ?_
 obtain ⟨⟨r_3, r_4⟩, hc1, hF⟩ := bind_inv hF
 refine sc 15 rfl rfl (Yc_func (g := 107) (vs := [gM_ r_1 B1 c1]) k_call_107 rfl (mc rfl mn) (c_impl_BlochOf r_1 B1 c1 r_1.Cells.length _ rfl (hS4.inn0 [(false, 1), (true, 0)] rfl) hc1)) ?_
 rintro _ w_4 ⟨B2, c2, rfl, hd1⟩
 have hS5 := hS4.out0 hd1
 refine sQ 13 (Y_move (v := .tuple #[gB_ r_3 B2 c2, .bool r_4]) rfl rfl) ?_
 refine sQ 16 (Y_extract (v := gB_ r_3 B2 c2) rfl rfl rfl) ?_
 refine sQ 17 (Y_extract (v := .bool r_4) rfl rfl rfl) ?_
 refine sS 5 (Ys_alloc (T := 30) (cs := [.slice none 0 0]) (m := 1) hS5 k_zero_30 rfl rfl rfl) ?_
 rintro _ w_5 ⟨b2, rfl, hS6⟩
 refine s0 (Ys_store (i := 4) (s := 1) (B := aD b2) (T' := 30) (v := gB_ r_3 B2 c2) (vs := kB_ r_3 B2 c2) (k := 0) (cs' := kB_ r_3 B2 c2) hS6 k_sz_30_1 rfl rfl rfl rfl rfl rfl rfl (lB rfl) rfl rfl) ?_
 rintro _ w_6 ⟨rfl, hS7⟩
 refine sQ 6 (Y_assign (v := .bool r_4) rfl rfl) (rw_nil (cw_seq (cw_region ?_)))
 refine sQ 18 (Y_loadA (B := aD b2) (i := 0) (cs := kB_ r_3 B2 c2) (vs := kB_ r_3 B2 c2) k_ag_30 k_sz_30_1 rfl rfl (hS7.cf (i := 4) rfl) rfl rfl) ?_
 refine s0 (Ys_store (i := 0) (s := 1) (B := aD b) (T' := 30) (v := gB_ r_3 B2 c2) (vs := kB_ r_3 B2 c2) (k := 0) (cs' := kB_ r_3 B2 c2) hS7 k_sz_30_1 rfl rfl rfl rfl rfl rfl rfl (lB rfl) rfl rfl) ?_
 rintro _ w_7 ⟨rfl, hS8⟩
 refine rw_nil (cw_ret ?_)
 obtain rfl := some_inj hF
 exact ret1 Tryz.results67 (v1 := gB_ r_3 B2 c2) (resAt_cellA (B := aD b) (i := 0) (cs := kB_ r_3 B2 c2) (vs := kB_ r_3 B2 c2) rfl k_ag_30 k_sz_30_1 (hS8.cf (i := 0) rfl) rfl rfl) ⟨B2, c2, rfl, (hS8.sN [3])⟩
end Go.VK
