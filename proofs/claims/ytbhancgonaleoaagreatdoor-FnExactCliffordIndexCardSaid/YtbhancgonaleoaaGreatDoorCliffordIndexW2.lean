/- Walks: each Go function returns what its Lean function says. By program. -/
import Derived.Test.YtbhancgonaleoaaGreatDoorCliffordIndexFa
import Derived.Test.YtbhancgonaleoaaGreatDoorCliffordIndexW1
set_option linter.unusedVariables false
set_option maxRecDepth 100000
set_option maxHeartbeats 1000000
namespace Go.VK
open Go.RowKit
open Go.Proofs
open Go.IntKind
attribute [local irreducible] CW RW RA CV Y Yw Yc Ys RetOf
attribute [local irreducible] F_laws_szDyadicS F_laws_szBloch F_spec_l1In F_spec_l1All F_spec_l1Good F_spec_l1Even F_spec_l2Good F_spec_l1Root F_spec_l1Half F_spec_l2Low F_spec_l2C_ring F_spec_l1Mul F_spec_l2C_mul F_spec_l1Add F_spec_l2C_add F_spec_l2C_bloch F_spec_l9Turn F_spec_l1Neg F_spec_l2Neg F_spec_l2C_minor F_spec_l9Same F_spec_l1Turn F_spec_l2Power F_spec_l9Unit F_spec_l9Valid F_spec_l2C_times F_spec_l6One F_spec_l9Pauli F_spec_l1Conj F_spec_l2Conj F_spec_l3Adj F_spec_l9Bloch F_spec_l6Bit F_spec_l6Cell F_spec_l6Gate F_spec_l2C_run F_spec_l3Unit F_spec_l6Op F_spec_l9Word F_spec_l9Words F_spec_l9Index F_spec_CliffordIndex F_laws_toRing F_laws_toDyadic F_laws_toDyadicS F_laws_toBloch F_slices_IndexFunc_impl_Dyadic_impl_Dyadic F_slices_ContainsFunc_impl_Dyadic_impl_Dyadic F_impl_within F_impl_isCoef F_impl_IsValidRing F_impl_isEven F_impl_IsValidDyadic F_impl_isReal F_impl_IsValidBloch_1 F_impl_ringIf F_impl_MulRing F_impl_DivRootTwo F_impl_DyadicOf F_impl_MulDyadic F_impl_MulRootTwo F_impl_raised F_impl_combined F_impl_AddRing F_impl_AddDyadic F_impl_mulBloch F_impl_transposed F_impl_SubRing F_impl_SubDyadic F_impl_minor F_impl_determinant F_impl_whole F_impl_small F_impl_IsValidBloch F_impl_isDim F_impl_matrixOf F_impl_isTwo F_impl_IsValidGate F_impl_MulOmega F_impl_phase F_impl_bitOf F_impl_flipped F_impl_comesFrom F_impl_entry F_impl_GateMatrix_1 F_impl_GateMatrix F_impl_IsValidMatrix_1 F_impl_IsValidMatrix F_impl_IdentityMatrix_1 F_impl_IdentityMatrix F_impl_Matrix_at F_impl_MulMatrix_1 F_impl_MulMatrix F_impl_Conjugate F_impl_ConjDyadic F_impl_Adjoint_1 F_impl_Adjoint F_slices_Equal_impl_Dyadic_impl_Dyadic F_impl_EqualMatrices F_impl_IsUnitary F_impl_IsOneQubit F_impl_TraceOf F_impl_blochCell F_impl_BlochOf F_impl_blochGate F_slices_IndexFunc_SSimpl_Dyadic_impl_Dyadic F_slices_ContainsFunc_SSimpl_Dyadic_impl_Dyadic F_impl_cliffordList_1 F_impl_cliffordList F_impl_CliffordIndex F_laws_eqRing F_laws_eqDyadic F_laws_eqDyadicS F_laws_eqBloch F_laws_FnExactCliffordIndex
theorem c_spec_l2C_times (c : Tl2C) (a : TMatrix) (b : TMatrix) (B : Option Addr) (B1 : Option Addr) (c1 n : Nat) (B2 : Option Addr) (c2 n1 : Nat) (w0 : World) (hn : a.Cells.length = n) (hn1 : b.Cells.length = n1) (hS : ST w0 (bl [⟨B, 82, [.bool c.bad], 1⟩]) w0 [⟨B, 82, [.bool c.bad], 1⟩] [⟨B1, (a.Cells.flatMap eN0)⟩, ⟨B2, (b.Cells.flatMap eN0)⟩]) {r_ : TMatrix} {m : Tl2C} (hF : F_spec_l2C_times c a b = some (r_, m)) :
  CV Tryz.prog 98 #[pt B 0, .agg #[vi a.Rows, vi a.Cols, .slice B1 n c1], .agg #[vi b.Rows, vi b.Cols, .slice B2 n1 c2]] w0 (fun v w' => ∃ (B3 : Option Addr) (c3 : Nat), v = (gM_ r_ B3 c3) ∧ ST w0 (bl [⟨B, 82, [.bool c.bad], 1⟩]) w' [⟨B, 82, [.bool m.bad], 1⟩, ⟨B3, 65, (r_.Cells.flatMap eN0), c3 * 5⟩] []) := by
 subst hn
 subst hn1
 unfold F_spec_l2C_times at hF
 refine cv_of_cw 75 Tryz.func98 rfl Tryz.ntmps98 rfl ?_
 refine cw_seq (cw_region ?_)
 refine sS 4 (Ys_box (T := 48) (v := gM_ a B1 c1) (cs := kM_ a B1 c1) (m := 3) hS rfl rfl rfl rfl) ?_
 rintro _ w_ ⟨b1, rfl, hS1⟩
 refine sS 5 (Ys_box (T := 48) (v := gM_ b B2 c2) (cs := kM_ b B2 c2) (m := 3) hS1 rfl rfl rfl rfl) ?_
 rintro _ w_1 ⟨b2, rfl, hS2⟩
 refine sS 6 (Ys_alloc (T := 48) (cs := kN_) (m := 3) hS2 k_zero_48 rfl rfl rfl) ?_
 rintro _ w_2 ⟨b3, rfl, hS3⟩
 refine rw_nil (cw_seq (cw_region ?_))
 refine sQ 12 (Y_fieldAddr (B := aD b1) (i := 0) (s := 0) k_fd_48_0_0_3 k_sz_3_1 rfl rfl) ?_
 refine sQ 13 (Y_load1 (B := aD b1) (i := 0) (cs := kM_ a B1 c1) (v := vi a.Rows) k_sc_3 rfl rfl (hS3.cf (i := 1) rfl) rfl) ?_
 refine sQ 14 (Y_fieldAddr (B := aD b2) (i := 0) (s := 0) k_fd_48_1_1_3 k_sz_3_1 rfl rfl) ?_
 refine sQ 15 (Y_load1 (B := aD b2) (i := 1) (cs := kM_ b B2 c2) (v := vi b.Cols) k_sc_3 rfl rfl (hS3.cf (i := 2) rfl) rfl) ?_
 refine sQ 16 (Y_buildS (zs := kN_) (vs := [(0, vi a.Rows), (1, vi b.Cols)]) (cs := [vi a.Rows, vi b.Cols, .slice none 0 0]) k_pl_48 k_zero_48 rfl (mpc rfl (mpc rfl mpn)) rfl) ?_
 refine sS 7 (Ys_alloc (T := 48) (cs := kN_) (m := 3) hS3 k_zero_48 rfl rfl rfl) ?_
 rintro _ w_3 ⟨b4, rfl, hS4⟩
 refine s0 (Ys_store (i := 4) (s := 3) (B := aD b4) (T' := 48) (v := .agg #[vi a.Rows, vi b.Cols, .slice none 0 0]) (vs := [vi a.Rows, vi b.Cols, .slice none 0 0]) (k := 0) (cs' := [vi a.Rows, vi b.Cols, .slice none 0 0]) hS4 k_sz_48_3 rfl rfl rfl rfl rfl rfl rfl (lB rfl) rfl rfl) ?_
 rintro _ w_4 ⟨rfl, hS5⟩
 refine rw_nil (cw_seq (cw_seq (cw_region ?_)))
 refine sQ 8 (Y_assign (v := vi 0) rfl rfl) (rw_nil ?_)
 obtain ⟨hN, hF⟩ := chk_inv hF
 obtain ⟨z, hz, hF1⟩ := bind_inv hF
 have hS7 := hS5.addNil 65
 refine cw_block ?_
 refine cw_loop (fun k f w => ∃ (i1 : Nat) (bad : Bool) (Cells : List TDyadic) (B4 : Option Addr) (c4 : Nat), FF f [(0, pt B 0), (4, pt (aD b1) 0), (5, pt (aD b2) 0), (6, pt (aD b3) 0), (7, pt (aD b4) 0), (8, vi (i1 : Int))] ∧ ST w0 (bl [⟨B, 82, [.bool c.bad], 1⟩]) w [⟨B, 82, [.bool bad], 1⟩, ⟨aD b1, 48, kM_ a B1 c1, 3⟩, ⟨aD b2, 48, kM_ b B2 c2, 3⟩, ⟨aD b3, 48, kN_, 3⟩, ⟨aD b4, 48, [vi a.Rows, vi b.Cols, .slice B4 Cells.length c4], 3⟩, ⟨B4, 65, (Cells.flatMap eN0), c4 * 5⟩] [⟨B1, (a.Cells.flatMap eN0)⟩, ⟨B2, (b.Cells.flatMap eN0)⟩] ∧ i1 + k = a.Rows.toNat ∧ forN (F_spec_l2C_times_l1 b a) k i1 (bad, Cells) = some z) a.Rows.toNat ⟨0, c.bad, [], none, 0, (FF.cons rfl (FF.cons rfl (FF.cons rfl (FF.cons rfl (FF.cons rfl (FF.cons rfl FF.nil)))))), (hS7.sel [0, 1, 2, 3, 4, 5] rfl rfl), Nat.zero_add _, hz⟩ ?_
 rintro k_ f w ⟨i1, bad, Cells, B4, c4, hf, hS6, hik, hL⟩
 refine cw_seq (cw_seq (cw_region ?_))
 refine sQ 17 (Y_move (v := vi (i1 : Int)) rfl (hf.get 8 5 rfl)) ?_
 refine sQ 18 (Y_fieldAddr (B := aD b1) (i := 0) (s := 0) k_fd_48_0_0_3 k_sz_3_1 rfl (hf.get 4 1 rfl)) ?_
 refine sQ 19 (Y_load1 (B := aD b1) (i := 0) (cs := kM_ a B1 c1) (v := vi a.Rows) k_sc_3 rfl rfl (hS6.cf (i := 1) rfl) rfl) ?_
 refine sQ 20 (Y_lt (k := .i64) (a := (i1 : Int)) (b := a.Rows) rfl rfl rfl) (rw_nil ?_)
 refine cw_cond (b := (decide ((i1 : Int) < a.Rows))) rfl (fun hlt => ?_) (fun hlt => ?_)
 ·skip
  have hlt1 : i1 < a.Rows.toNat := by have h := of_decide_eq_true hlt; omega
  obtain ⟨k_1, rfl⟩ : ∃ k2, k_ = k2 + 1 := ⟨k_ - 1, by omega⟩
  obtain ⟨y, hb, hL1⟩ := forN_go hL
  unfold F_spec_l2C_times_l1 at hb
  refine cw_skip (cw_seq (cw_block (cw_seq (cw_region ?_))))
  refine sQ 9 (Y_assign (v := vi 0) rfl rfl) (rw_nil ?_)
  obtain ⟨hN1, hb⟩ := chk_inv hb
  obtain ⟨z1, hz1, hF2⟩ := bind_inv hb
  refine cw_block ?_
  refine cw_loop (fun k f w => ∃ (j : Nat) (bad1 : Bool) (Cells1 : List TDyadic) (B5 : Option Addr) (c5 : Nat), FF f [(0, pt B 0), (4, pt (aD b1) 0), (5, pt (aD b2) 0), (6, pt (aD b3) 0), (7, pt (aD b4) 0), (8, vi (i1 : Int)), (9, vi (j : Int))] ∧ ST w0 (bl [⟨B, 82, [.bool c.bad], 1⟩]) w [⟨B, 82, [.bool bad1], 1⟩, ⟨aD b1, 48, kM_ a B1 c1, 3⟩, ⟨aD b2, 48, kM_ b B2 c2, 3⟩, ⟨aD b3, 48, kN_, 3⟩, ⟨aD b4, 48, [vi a.Rows, vi b.Cols, .slice B5 Cells1.length c5], 3⟩, ⟨B5, 65, (Cells1.flatMap eN0), c5 * 5⟩] [⟨B1, (a.Cells.flatMap eN0)⟩, ⟨B2, (b.Cells.flatMap eN0)⟩] ∧ j + k = b.Cols.toNat ∧ forN (F_spec_l2C_times_l2 a Cells i1 b bad) k j (bad1, Cells1) = some z1) b.Cols.toNat ⟨0, bad, Cells, B4, c4, (FF.cons (hf.get 0 0 rfl) (FF.cons (hf.get 4 1 rfl) (FF.cons (hf.get 5 2 rfl) (FF.cons (hf.get 6 3 rfl) (FF.cons (hf.get 7 4 rfl) (FF.cons (hf.get 8 5 rfl) (FF.cons rfl FF.nil))))))), (hS6.sel [0, 1, 2, 3, 4, 5] rfl rfl), Nat.zero_add _, hz1⟩ ?_
  rintro k_2 f w ⟨j, bad1, Cells1, B5, c5, hf1, hS8, hik1, hL2⟩
  refine cw_seq (cw_seq (cw_region ?_))
  refine sQ 23 (Y_move (v := vi (j : Int)) rfl (hf1.get 9 6 rfl)) ?_
  refine sQ 24 (Y_fieldAddr (B := aD b2) (i := 0) (s := 0) k_fd_48_1_1_3 k_sz_3_1 rfl (hf1.get 5 2 rfl)) ?_
  refine sQ 25 (Y_load1 (B := aD b2) (i := 1) (cs := kM_ b B2 c2) (v := vi b.Cols) k_sc_3 rfl rfl (hS8.cf (i := 2) rfl) rfl) ?_
  refine sQ 26 (Y_lt (k := .i64) (a := (j : Int)) (b := b.Cols) rfl rfl rfl) (rw_nil ?_)
  refine cw_cond (b := (decide ((j : Int) < b.Cols))) rfl (fun hlt2 => ?_) (fun hlt2 => ?_)
  ·skip
   have hlt3 : j < b.Cols.toNat := by have h := of_decide_eq_true hlt2; omega
   obtain ⟨k_3, rfl⟩ : ∃ k2, k_2 = k2 + 1 := ⟨k_2 - 1, by omega⟩
   obtain ⟨y1, hb1, hL3⟩ := forN_go hL2
   unfold F_spec_l2C_times_l2 at hb1
   refine cw_skip (cw_seq (cw_block (cw_seq (cw_region ?_))))
   refine sQ 29 (Y_buildS (zs := kZ_) (vs := []) (cs := kZ_) k_pl_65 k_zero_65 rfl mpn rfl) ?_
   refine sS 10 (Ys_alloc (T := 65) (cs := kZ_) (m := 5) hS8 k_zero_65 rfl rfl rfl) ?_
   rintro _ w_5 ⟨b5, rfl, hS9⟩
   refine s0 (Ys_store (i := 6) (s := 5) (B := aD b5) (T' := 65) (v := gZ_) (vs := kZ_) (k := 0) (cs' := kZ_) hS9 k_sz_65_5 rfl rfl rfl rfl rfl rfl rfl (lB rfl) rfl rfl) ?_
   rintro _ w_6 ⟨rfl, hS10⟩
   refine rw_nil (cw_seq (cw_seq (cw_region ?_)))
   refine sQ 11 (Y_assign (v := vi 0) rfl rfl) (rw_nil ?_)
   obtain ⟨z2, hz2, hF3⟩ := bind_inv hb1
   refine cw_block ?_
   refine cw_loop (fun k f w => ∃ (bad2 : Bool) (A : Int) (B6 : Int) (C : Int) (D : Int) (Exp : Int) (k_4 : Int), FF f [(0, pt B 0), (4, pt (aD b1) 0), (5, pt (aD b2) 0), (6, pt (aD b3) 0), (7, pt (aD b4) 0), (8, vi (i1 : Int)), (9, vi (j : Int)), (10, pt (aD b5) 0), (11, vi k_4)] ∧ ST w0 (bl [⟨B, 82, [.bool c.bad], 1⟩]) w [⟨B, 82, [.bool bad2], 1⟩, ⟨aD b1, 48, kM_ a B1 c1, 3⟩, ⟨aD b2, 48, kM_ b B2 c2, 3⟩, ⟨aD b3, 48, kN_, 3⟩, ⟨aD b4, 48, [vi a.Rows, vi b.Cols, .slice B5 Cells1.length c5], 3⟩, ⟨B5, 65, (Cells1.flatMap eN0), c5 * 5⟩, ⟨aD b5, 65, [vi A, vi B6, vi C, vi D, vi Exp], 5⟩] [⟨B1, (a.Cells.flatMap eN0)⟩, ⟨B2, (b.Cells.flatMap eN0)⟩] ∧ whX (F_spec_l2C_times_l3 a Cells i1 b j bad) k (bad2, A, B6, C, D, Exp, k_4) = some z2) fuel ⟨bad1, 0, 0, 0, 0, 0, 0, (FF.cons (hf1.get 0 0 rfl) (FF.cons (hf1.get 4 1 rfl) (FF.cons (hf1.get 5 2 rfl) (FF.cons (hf1.get 6 3 rfl) (FF.cons (hf1.get 7 4 rfl) (FF.cons (hf1.get 8 5 rfl) (FF.cons (hf1.get 9 6 rfl) (FF.cons rfl (FF.cons rfl FF.nil))))))))), (hS10.sel [0, 1, 2, 3, 4, 5, 6] rfl rfl), hz2⟩ ?_
   rintro k_5 f w ⟨bad2, A, B6, C, D, Exp, k_4, hf2, hS11, hL4⟩
   obtain ⟨k_6, y2, rfl, hb2, hL5⟩ := whX_go hL4
   unfold F_spec_l2C_times_l3 at hb2
   refine cw_seq (cw_seq (cw_region ?_))
   refine sQ 30 (Y_move (v := vi k_4) rfl (hf2.get 11 8 rfl)) ?_
   refine sQ 31 (Y_fieldAddr (B := aD b1) (i := 0) (s := 0) k_fd_48_1_1_3 k_sz_3_1 rfl (hf2.get 4 1 rfl)) ?_
   refine sQ 32 (Y_load1 (B := aD b1) (i := 1) (cs := kM_ a B1 c1) (v := vi a.Cols) k_sc_3 rfl rfl (hS11.cf (i := 1) rfl) rfl) ?_
   refine sQ 33 (Y_lt (k := .i64) (a := k_4) (b := a.Cols) rfl rfl rfl) ?_
   refine sQ 34 (Y_move (v := .bool (decide (k_4 < a.Cols))) rfl rfl) ?_
   refine sgq 35 (B := (decide (k_4 < a.Cols))) (v := pt B 0) rfl rfl (wT 34) (fun hg => (Y_move (v := pt B 0) rfl (hf2.get 0 0 rfl))) ?_
   refine sgq 36 (B := (decide (k_4 < a.Cols))) (v := pt B 0) rfl rfl (wT 34) (fun hg1 => (Y_nilCheck (B := B) (i := 0) rfl (gv_of (v := pt B 0) hg1))) ?_
   refine sgq 37 (B := (decide (k_4 < a.Cols))) (v := pt B 0) rfl rfl (wT 34) (fun hg2 => (Y_fieldAddr (B := B) (i := 0) (s := 0) k_fd_82_0_0_4 k_sz_4_1 rfl (gv_of (v := pt B 0) hg2))) ?_
   refine sgq 38 (B := (decide (k_4 < a.Cols))) (v := .bool bad2) rfl rfl (wT 34) (fun hg3 => (Y_load1 (B := B) (i := 0) (cs := [.bool bad2]) (v := .bool bad2) k_sc_4 rfl (gv_of (v := pt B 0) hg3) (hS11.cf (i := 0) rfl) rfl)) ?_
   refine sgq 39 (B := (decide (k_4 < a.Cols))) (v := .bool (!bad2)) rfl rfl (wT 34) (fun hg4 => (Y_not (p := bad2) rfl (gv_of (v := .bool bad2) hg4))) ?_
   refine sQ 40 (Y_and (b := (decide (k_4 < a.Cols))) (z := (!bad2)) rfl rfl rfl rfl) (rw_nil ?_)
   refine cw_cond (b := ((decide (k_4 < a.Cols)) && (!bad2))) rfl (fun hb3 => ?_) (fun hb3 => ?_)
   ·skip
    have hF4 := ct hb2 hb3
    refine cw_skip (cw_seq (cw_block ?_))
    obtain ⟨x, hx, hF4⟩ := bind_inv hF4
    obtain ⟨x1, hx1, hF4⟩ := bind_inv hF4
    obtain ⟨⟨r_1, m1⟩, hc, hF4⟩ := bind_inv hF4
    obtain ⟨⟨r_2, m2⟩, hc1, hF4⟩ := bind_inv hF4
    refine cw_mid (fun f w => FF f [(0, pt B 0), (4, pt (aD b1) 0), (5, pt (aD b2) 0), (6, pt (aD b3) 0), (7, pt (aD b4) 0), (8, vi (i1 : Int)), (9, vi (j : Int)), (10, pt (aD b5) 0), (11, vi k_4)] ∧ ST w0 (bl [⟨B, 82, [.bool c.bad], 1⟩]) w [⟨B, 82, [.bool m2.bad], 1⟩, ⟨aD b1, 48, kM_ a B1 c1, 3⟩, ⟨aD b2, 48, kM_ b B2 c2, 3⟩, ⟨aD b3, 48, kN_, 3⟩, ⟨aD b4, 48, [vi a.Rows, vi b.Cols, .slice B5 Cells1.length c5], 3⟩, ⟨B5, 65, (Cells1.flatMap eN0), c5 * 5⟩, ⟨aD b5, 65, kD_ r_2, 5⟩] [⟨B1, (a.Cells.flatMap eN0)⟩, ⟨B2, (b.Cells.flatMap eN0)⟩]) ?_ ?_
    ·skip
     refine ra_start (hS11.se [1, 2, 3, 4, 5]).fn (by kernel_rfl) ?_
     have hS15 := hS11.drew
     refine rq 0 43 (v := pt B 0) rfl (hS15.se [1, 2, 3, 4, 5]) (fun w' hw' => (Y_move (v := pt B 0) rfl (hf2.get 0 0 rfl))) ?_
     refine rq 2 45 (v := pt B 0) rfl (hS15.se [1, 2, 3, 4, 5]) (fun w' hw' => (Y_move (v := pt B 0) rfl (hf2.get 0 0 rfl))) ?_
     refine rq 3 46 (v := pt (aD b1) 2) rfl (hS15.se [1, 2, 3, 4, 5]) (fun w' hw' => (Y_fieldAddr (B := aD b1) (i := 0) (s := 0) k_fd_48_2_2_28 k_sz_28_1 rfl (hf2.get 4 1 rfl))) ?_
     refine rq 4 47 (v := .slice B1 a.Cells.length c1) rfl (hS15.se [1, 2, 3, 4, 5]) (fun w' hw' => (Y_load1 (B := aD b1) (i := 2) (cs := kM_ a B1 c1) (v := .slice B1 a.Cells.length c1) k_sc_28 rfl rfl (ST.cf hw' (i := 0) rfl) rfl)) ?_
     refine rq 5 48 (v := vi (i1 : Int)) rfl (hS15.se [1, 2, 3, 4, 5]) (fun w' hw' => (Y_move (v := vi (i1 : Int)) rfl (hf2.get 8 5 rfl))) ?_
     refine rq 6 49 (v := pt (aD b1) 1) rfl (hS15.se [1, 2, 3, 4, 5]) (fun w' hw' => (Y_fieldAddr (B := aD b1) (i := 0) (s := 0) k_fd_48_1_1_3 k_sz_3_1 rfl (hf2.get 4 1 rfl))) ?_
     refine rq 7 50 (v := vi a.Cols) rfl (hS15.se [1, 2, 3, 4, 5]) (fun w' hw' => (Y_load1 (B := aD b1) (i := 1) (cs := kM_ a B1 c1) (v := vi a.Cols) k_sc_3 rfl rfl (ST.cf hw' (i := 0) rfl) rfl)) ?_
     refine rq 8 51 (v := vi (i64.wrap ((i1 : Int) * a.Cols))) rfl (hS15.se [1, 2, 3, 4, 5]) (fun w' hw' => (Y_mul (k := .i64) (a := (i1 : Int)) (b := a.Cols) rfl rfl rfl)) ?_
     refine rq 9 52 (v := vi k_4) rfl (hS15.se [1, 2, 3, 4, 5]) (fun w' hw' => (Y_move (v := vi k_4) rfl (hf2.get 11 8 rfl))) ?_
     refine rq 10 53 (v := vi (i64.wrap ((i64.wrap ((i1 : Int) * a.Cols)) + k_4))) rfl (hS15.se [1, 2, 3, 4, 5]) (fun w' hw' => (Y_add (k := .i64) (a := (i64.wrap ((i1 : Int) * a.Cols))) (b := k_4) rfl rfl rfl)) ?_
     refine rq 11 54 (v := pt B1 ((i64.wrap ((i64.wrap ((i1 : Int) * a.Cols)) + k_4)).toNat * 5)) rfl (hS15.se [1, 2, 3, 4, 5]) (fun w' hw' => (Y_index (B := B1) (m := a.Cells.length) (c := c1) (k := .i64) (i := (i64.wrap ((i64.wrap ((i1 : Int) * a.Cols)) + k_4))) k_sl_28_65 k_sz_65_5 rfl rfl rfl (gi_isSome eN2 rfl (ST.rf hw' (i := 0) rfl) hx) (getI_nn hx) (getI_ltI hx rfl))) ?_
     refine rq 12 55 (v := gD_ x) rfl (hS15.se [1, 2, 3, 4, 5]) (fun w' hw' => (Y_loadA (B := B1) (i := (i64.wrap ((i64.wrap ((i1 : Int) * a.Cols)) + k_4)).toNat * 5) (cs := (a.Cells.flatMap eN0)) (vs := kD_ x) k_ag_65 k_sz_65_5 rfl rfl (ST.rf hw' (i := 0) rfl) (eN2 x) (gi_seg eN2 hx))) ?_
     refine rq 13 56 (v := pt (aD b2) 2) rfl (hS15.se [1, 2, 3, 4, 5]) (fun w' hw' => (Y_fieldAddr (B := aD b2) (i := 0) (s := 0) k_fd_48_2_2_28 k_sz_28_1 rfl (hf2.get 5 2 rfl))) ?_
     refine rq 14 57 (v := .slice B2 b.Cells.length c2) rfl (hS15.se [1, 2, 3, 4, 5]) (fun w' hw' => (Y_load1 (B := aD b2) (i := 2) (cs := kM_ b B2 c2) (v := .slice B2 b.Cells.length c2) k_sc_28 rfl rfl (ST.cf hw' (i := 1) rfl) rfl)) ?_
     refine rq 15 58 (v := vi k_4) rfl (hS15.se [1, 2, 3, 4, 5]) (fun w' hw' => (Y_move (v := vi k_4) rfl (hf2.get 11 8 rfl))) ?_
     refine rq 16 59 (v := pt (aD b2) 1) rfl (hS15.se [1, 2, 3, 4, 5]) (fun w' hw' => (Y_fieldAddr (B := aD b2) (i := 0) (s := 0) k_fd_48_1_1_3 k_sz_3_1 rfl (hf2.get 5 2 rfl))) ?_
     refine rq 17 60 (v := vi b.Cols) rfl (hS15.se [1, 2, 3, 4, 5]) (fun w' hw' => (Y_load1 (B := aD b2) (i := 1) (cs := kM_ b B2 c2) (v := vi b.Cols) k_sc_3 rfl rfl (ST.cf hw' (i := 1) rfl) rfl)) ?_
     refine rq 18 61 (v := vi (i64.wrap (k_4 * b.Cols))) rfl (hS15.se [1, 2, 3, 4, 5]) (fun w' hw' => (Y_mul (k := .i64) (a := k_4) (b := b.Cols) rfl rfl rfl)) ?_
     refine rq 19 62 (v := vi (j : Int)) rfl (hS15.se [1, 2, 3, 4, 5]) (fun w' hw' => (Y_move (v := vi (j : Int)) rfl (hf2.get 9 6 rfl))) ?_
     refine rq 20 63 (v := vi (i64.wrap ((i64.wrap (k_4 * b.Cols)) + (j : Int)))) rfl (hS15.se [1, 2, 3, 4, 5]) (fun w' hw' => (Y_add (k := .i64) (a := (i64.wrap (k_4 * b.Cols))) (b := (j : Int)) rfl rfl rfl)) ?_
     refine rq 21 64 (v := pt B2 ((i64.wrap ((i64.wrap (k_4 * b.Cols)) + (j : Int))).toNat * 5)) rfl (hS15.se [1, 2, 3, 4, 5]) (fun w' hw' => (Y_index (B := B2) (m := b.Cells.length) (c := c2) (k := .i64) (i := (i64.wrap ((i64.wrap (k_4 * b.Cols)) + (j : Int)))) k_sl_28_65 k_sz_65_5 rfl rfl rfl (gi_isSome eN2 rfl (ST.rf hw' (i := 1) rfl) hx1) (getI_nn hx1) (getI_ltI hx1 rfl))) ?_
     refine rq 22 65 (v := gD_ x1) rfl (hS15.se [1, 2, 3, 4, 5]) (fun w' hw' => (Y_loadA (B := B2) (i := (i64.wrap ((i64.wrap (k_4 * b.Cols)) + (j : Int))).toNat * 5) (cs := (b.Cells.flatMap eN0)) (vs := kD_ x1) k_ag_65 k_sz_65_5 rfl rfl (ST.rf hw' (i := 1) rfl) (eN2 x1) (gi_seg eN2 hx1))) ?_
     refine rA [1, 23] ?_
     refine ra_y 44 (i := 1) (v := .agg #[vi A, vi B6, vi C, vi D, vi Exp]) rfl rfl rfl (Y_loadA (B := aD b5) (i := 0) (cs := [vi A, vi B6, vi C, vi D, vi Exp]) (vs := [vi A, vi B6, vi C, vi D, vi Exp]) k_ag_65 k_sz_65_5 rfl (hf2.get 10 7 rfl) (hS15.cf (i := 6) rfl) rfl rfl) (hS15.se [1, 2, 3, 4, 5]) ?_ ?_
     ·skip
      refine rA [23] ?_
      refine ra_c 66 (i := 23) rfl rfl rfl (Yc_func (g := 48) (vs := [pt B 0, gD_ x, gD_ x1]) k_call_48 rfl (mc rfl (mc rfl (mc rfl mn))) (c_spec_l2C_mul (Tl2C.mk bad2) x x1 B _  (hS15.inn [true, false, false, false, false, false, false] rfl [] rfl) hc)) ?_ ?_
      ·rintro _ w_7 ⟨rfl, hd⟩
       have hS16 := hS15.out [true, false, false, false, false, false, false] rfl hd
       have hS16 : ST w0 (bl [⟨B, 82, [.bool c.bad], 1⟩]) _ [⟨aD b1, 48, kM_ a B1 c1, 3⟩, ⟨aD b2, 48, kM_ b B2 c2, 3⟩, ⟨aD b3, 48, kN_, 3⟩, ⟨aD b4, 48, [vi a.Rows, vi b.Cols, .slice B5 Cells1.length c5], 3⟩, ⟨B5, 65, (Cells1.flatMap eN0), c5 * 5⟩, ⟨aD b5, 65, [vi A, vi B6, vi C, vi D, vi Exp], 5⟩, ⟨B, 82, [.bool m1.bad], 1⟩] [⟨B1, (a.Cells.flatMap eN0)⟩, ⟨B2, (b.Cells.flatMap eN0)⟩] := hS16
       refine ⟨(hS16.se [0, 1, 2, 3, 4]), ?_⟩
       refine rA [24] ?_
       refine ra_c 67 (i := 24) rfl rfl rfl (Yc_func (g := 50) (vs := [pt B 0, .agg #[vi A, vi B6, vi C, vi D, vi Exp], gD_ r_1]) k_call_50 rfl (mc rfl (mc rfl (mc rfl mn))) (c_spec_l2C_add m1 (TDyadic.mk (TRing.mk A B6 C D) Exp) r_1 B _  (hS16.inn [false, false, false, false, false, false, true] rfl [] rfl) hc1)) ?_ ?_
       ·rintro _ w_8 ⟨rfl, hd1⟩
        have hS17 := hS16.out [false, false, false, false, false, false, true] rfl hd1
        refine ⟨(hS17.se [0, 1, 2, 3, 4]), ?_⟩
        refine rA [25] ?_
        refine ra_s0 (i := 25) rfl rfl rfl (Ys_store (i := 5) (s := 5) (B := aD b5) (T' := 65) (v := gD_ r_2) (vs := kD_ r_2) (k := 0) (cs' := kD_ r_2) hS17 k_sz_65_5 rfl (hf2.get 10 7 rfl) rfl rfl rfl rfl rfl (lB rfl) rfl rfl) ?_ ?_
        ·rintro _ w_9 ⟨rfl, hS18⟩
         refine ⟨(hS18.se [0, 1, 2, 3, 4]), ?_⟩
         refine ra_done (by kernel_rfl) ?_
         exact ⟨(FF.cons (hf2.get 0 0 rfl) (FF.cons (hf2.get 4 1 rfl) (FF.cons (hf2.get 5 2 rfl) (FF.cons (hf2.get 6 3 rfl) (FF.cons (hf2.get 7 4 rfl) (FF.cons (hf2.get 8 5 rfl) (FF.cons (hf2.get 9 6 rfl) (FF.cons (hf2.get 10 7 rfl) (FF.cons (hf2.get 11 8 rfl) FF.nil))))))))), (hS18.sel [6, 0, 1, 2, 3, 4, 5] rfl rfl)⟩
        exact allR_nil
       exact allR_nil
      exact allR_nil
     refine ra_c 66 (i := 23) rfl rfl rfl (Yc_func (g := 48) (vs := [pt B 0, gD_ x, gD_ x1]) k_call_48 rfl (mc rfl (mc rfl (mc rfl mn))) (c_spec_l2C_mul (Tl2C.mk bad2) x x1 B _  (hS15.inn [true, false, false, false, false, false, false] rfl [] rfl) hc)) ?_ ?_
     ·rintro _ w_10 ⟨rfl, hd2⟩
      have hS19 := hS15.out [true, false, false, false, false, false, false] rfl hd2
      refine ⟨(hS19.se [0, 1, 2, 3, 4]), ?_⟩
      refine rA [1] ?_
      refine ra_y 44 (i := 1) (v := .agg #[vi A, vi B6, vi C, vi D, vi Exp]) rfl rfl rfl (Y_loadA (B := aD b5) (i := 0) (cs := [vi A, vi B6, vi C, vi D, vi Exp]) (vs := [vi A, vi B6, vi C, vi D, vi Exp]) k_ag_65 k_sz_65_5 rfl (hf2.get 10 7 rfl) (hS19.cf (i := 5) rfl) rfl rfl) (hS19.se [0, 1, 2, 3, 4]) ?_ ?_
      ·skip
       refine rA [24] ?_
       refine ra_c 67 (i := 24) rfl rfl rfl (Yc_func (g := 50) (vs := [pt B 0, .agg #[vi A, vi B6, vi C, vi D, vi Exp], gD_ r_1]) k_call_50 rfl (mc rfl (mc rfl (mc rfl mn))) (c_spec_l2C_add m1 (TDyadic.mk (TRing.mk A B6 C D) Exp) r_1 B _  (hS19.inn [false, false, false, false, false, false, true] rfl [] rfl) hc1)) ?_ ?_
       ·rintro _ w_11 ⟨rfl, hd3⟩
        have hS20 := hS19.out [false, false, false, false, false, false, true] rfl hd3
        refine ⟨(hS20.se [0, 1, 2, 3, 4]), ?_⟩
        refine rA [25] ?_
        refine ra_s0 (i := 25) rfl rfl rfl (Ys_store (i := 5) (s := 5) (B := aD b5) (T' := 65) (v := gD_ r_2) (vs := kD_ r_2) (k := 0) (cs' := kD_ r_2) hS20 k_sz_65_5 rfl (hf2.get 10 7 rfl) rfl rfl rfl rfl rfl (lB rfl) rfl rfl) ?_ ?_
        ·rintro _ w_12 ⟨rfl, hS21⟩
         refine ⟨(hS21.se [0, 1, 2, 3, 4]), ?_⟩
         refine ra_done (by kernel_rfl) ?_
         exact ⟨(FF.cons (hf2.get 0 0 rfl) (FF.cons (hf2.get 4 1 rfl) (FF.cons (hf2.get 5 2 rfl) (FF.cons (hf2.get 6 3 rfl) (FF.cons (hf2.get 7 4 rfl) (FF.cons (hf2.get 8 5 rfl) (FF.cons (hf2.get 9 6 rfl) (FF.cons (hf2.get 10 7 rfl) (FF.cons (hf2.get 11 8 rfl) FF.nil))))))))), (hS21.sel [6, 0, 1, 2, 3, 4, 5] rfl rfl)⟩
        exact allR_nil
       exact allR_nil
      exact allR_nil
     exact allR_nil
    rintro f w ⟨hf3, hS14⟩
    refine cw_region ?_
    refine sQ 41 (Y_move (v := vi k_4) rfl (hf3.get 11 8 rfl)) ?_
    refine sQ 42 (Y_add (k := .i64) (a := k_4) (b := 1) rfl rfl rfl) ?_
    refine sQ 11 (Y_assign (v := vi (i64.wrap (k_4 + 1))) rfl rfl) (rw_nil ?_)
    obtain rfl := some_inj hF4
    exact ⟨k_6, Nat.lt_succ_self _, m2.bad, r_2.Num.A, r_2.Num.B, r_2.Num.C, r_2.Num.D, r_2.Exp, (i64.wrap (k_4 + 1)), (FF.cons (hf3.get 0 0 rfl) (FF.cons (hf3.get 4 1 rfl) (FF.cons (hf3.get 5 2 rfl) (FF.cons (hf3.get 6 3 rfl) (FF.cons (hf3.get 7 4 rfl) (FF.cons (hf3.get 8 5 rfl) (FF.cons (hf3.get 9 6 rfl) (FF.cons (hf3.get 10 7 rfl) (FF.cons rfl FF.nil))))))))), (hS14.sel [0, 1, 2, 3, 4, 5, 6] rfl rfl), hL5⟩
   ·skip
    have hF5 := cf' hb2 hb3
    refine cw_exit rfl ?_
    obtain rfl := some_inj hF5
    obtain rfl := some_inj hL5
    refine cw_region ?_
    refine sQ 68 (Y_fieldAddr (B := aD b4) (i := 0) (s := 0) k_fd_48_2_2_28 k_sz_28_1 rfl (hf2.get 7 4 rfl)) ?_
    refine sQ 69 (Y_load1 (B := aD b4) (i := 2) (cs := [vi a.Rows, vi b.Cols, .slice B5 Cells1.length c5]) (v := .slice B5 Cells1.length c5) k_sc_28 rfl rfl (hS11.cf (i := 4) rfl) rfl) ?_
    refine sQ 70 (Y_loadA (B := aD b5) (i := 0) (cs := [vi A, vi B6, vi C, vi D, vi Exp]) (vs := [vi A, vi B6, vi C, vi D, vi Exp]) k_ag_65 k_sz_65_5 rfl (hf2.get 10 7 rfl) (hS11.cf (i := 6) rfl) rfl rfl) ?_
    refine sS 71 (Ys_bslice (s := 5) (len := 1) (vs := [(0, .agg #[vi A, vi B6, vi C, vi D, vi Exp])]) (cs := [vi A, vi B6, vi C, vi D, vi Exp]) (zs := kZ_) (m := 5) hS11 k_sl_28_65 k_sz_65_5 k_zc_65 rfl (mpc rfl mpn) rfl rfl rfl (by kernel_rfl) (by kernel_rfl) rfl) ?_
    rintro _ w_13 ⟨b6, rfl, hS22⟩
    obtain ⟨hap, hF3⟩ := chk_inv hF3
    refine sS 72 (Ys_append (s := 5) (by' := 40) (i := 5) (nn := Cells1.length) (c := c5) (k := 1) (len := (Cells1 ++ [(TDyadic.mk (TRing.mk A B6 C D) Exp)]).length) (B := B5) (xs := ([(TDyadic.mk (TRing.mk A B6 C D) Exp)].flatMap eN0)) (cs' := ((Cells1 ++ [(TDyadic.mk (TRing.mk A B6 C D) Exp)]).flatMap eN0)) hS22 k_sl_28_65 k_sz_65_5 k_by_65_40 k_zero_65 rfl (by decide) rfl rfl rfl rfl (fm_lenn (l := Cells1) eN2 rfl) rfl (hS22.cf (i := 7) rfl) (fm_lenn (l := [(TDyadic.mk (TRing.mk A B6 C D) Exp)]) eN2 rfl) (fm_one' (enc := eN0) enc_Dyadic_one [(TDyadic.mk (TRing.mk A B6 C D) Exp)]) (by have := hap; omega) (by have := hap; simp only [maxLen]; omega) (fm_app _ _) (app_len (l := Cells1) (l' := [(TDyadic.mk (TRing.mk A B6 C D) Exp)]) rfl rfl)) ?_
    rintro _ w_14 ⟨B7, c6, rfl, hS23⟩
    refine sQ 73 (Y_fieldAddr (B := aD b4) (i := 0) (s := 0) k_fd_48_2_2_28 k_sz_28_1 rfl (hf2.get 7 4 rfl)) ?_
    refine s0 (Ys_store (i := 4) (s := 1) (B := aD b4) (T' := 48) (v := .slice B7 ((Cells1 ++ [(TDyadic.mk (TRing.mk A B6 C D) Exp)]).length) c6) (vs := [.slice B7 ((Cells1 ++ [(TDyadic.mk (TRing.mk A B6 C D) Exp)]).length) c6]) (k := 2) (cs' := [vi a.Rows, vi b.Cols, .slice B7 ((Cells1 ++ [(TDyadic.mk (TRing.mk A B6 C D) Exp)]).length) c6]) hS23 k_sz_28_1 rfl rfl rfl rfl rfl rfl rfl (lB rfl) rfl rfl) ?_
    rintro _ w_15 ⟨rfl, hS24⟩
    have hS24 : ST w0 (bl [⟨B, 82, [.bool c.bad], 1⟩]) _ [⟨B, 82, [.bool bad2], 1⟩, ⟨aD b1, 48, kM_ a B1 c1, 3⟩, ⟨aD b2, 48, kM_ b B2 c2, 3⟩, ⟨aD b3, 48, kN_, 3⟩, ⟨aD b4, 48, [vi a.Rows, vi b.Cols, .slice B7 ((Cells1 ++ [(TDyadic.mk (TRing.mk A B6 C D) Exp)]).length) c6], 3⟩, ⟨B7, 65, ((Cells1 ++ [(TDyadic.mk (TRing.mk A B6 C D) Exp)]).flatMap eN0), c6 * 5⟩, ⟨aD b5, 65, [vi A, vi B6, vi C, vi D, vi Exp], 5⟩, ⟨aD b6, 65, ([(TDyadic.mk (TRing.mk A B6 C D) Exp)].flatMap eN0), 1 * 5⟩] [⟨B1, (a.Cells.flatMap eN0)⟩, ⟨B2, (b.Cells.flatMap eN0)⟩] := hS24
    refine rw_nil (cw_region ?_)
    refine sQ 27 (Y_move (v := vi (j : Int)) rfl (hf2.get 9 6 rfl)) ?_
    refine sQ 28 (Y_add (k := .i64) (a := (j : Int)) (b := 1) rfl rfl rfl) ?_
    refine sQ 9 (Y_assign (v := vi (i64.wrap ((j : Int) + 1))) rfl rfl) (rw_nil ?_)
    obtain rfl := some_inj hF3
    exact ⟨k_3, Nat.lt_succ_self _, j + 1, bad2, (Cells1 ++ [(TDyadic.mk (TRing.mk A B6 C D) Exp)]), B7, c6, (FF.cons (hf2.get 0 0 rfl) (FF.cons (hf2.get 4 1 rfl) (FF.cons (hf2.get 5 2 rfl) (FF.cons (hf2.get 6 3 rfl) (FF.cons (hf2.get 7 4 rfl) (FF.cons (hf2.get 8 5 rfl) (FF.cons (congrArg (Value.int .i64) (wr_succ hlt3 hN1)) FF.nil))))))), (hS24.sel [0, 1, 2, 3, 4, 5] rfl rfl), (by omega), hL3⟩
  ·skip
   obtain rfl : k_2 = 0 := by have h := of_decide_eq_false hlt2; omega
   refine cw_exit rfl ?_
   obtain rfl := some_inj hL2
   refine cw_region ?_
   refine sQ 21 (Y_move (v := vi (i1 : Int)) rfl (hf1.get 8 5 rfl)) ?_
   refine sQ 22 (Y_add (k := .i64) (a := (i1 : Int)) (b := 1) rfl rfl rfl) ?_
   refine sQ 8 (Y_assign (v := vi (i64.wrap ((i1 : Int) + 1))) rfl rfl) (rw_nil ?_)
   obtain rfl := some_inj hF2
   exact ⟨k_1, Nat.lt_succ_self _, i1 + 1, bad1, Cells1, B5, c5, (FF.cons (hf1.get 0 0 rfl) (FF.cons (hf1.get 4 1 rfl) (FF.cons (hf1.get 5 2 rfl) (FF.cons (hf1.get 6 3 rfl) (FF.cons (hf1.get 7 4 rfl) (FF.cons (congrArg (Value.int .i64) (wr_succ hlt1 hN)) FF.nil)))))), (hS8.sel [0, 1, 2, 3, 4, 5] rfl rfl), (by omega), hL1⟩
 ·skip
  obtain rfl : k_ = 0 := by have h := of_decide_eq_false hlt; omega
  refine cw_exit rfl ?_
  obtain rfl := some_inj hL
  refine cw_seq (cw_region ?_)
  refine sQ 74 (Y_loadA (B := aD b4) (i := 0) (cs := [vi a.Rows, vi b.Cols, .slice B4 Cells.length c4]) (vs := [vi a.Rows, vi b.Cols, .slice B4 Cells.length c4]) k_ag_48 k_sz_48_3 rfl (hf.get 7 4 rfl) (hS6.cf (i := 4) rfl) rfl rfl) ?_
  refine s0 (Ys_store (i := 3) (s := 3) (B := aD b3) (T' := 48) (v := .agg #[vi a.Rows, vi b.Cols, .slice B4 Cells.length c4]) (vs := [vi a.Rows, vi b.Cols, .slice B4 Cells.length c4]) (k := 0) (cs' := [vi a.Rows, vi b.Cols, .slice B4 Cells.length c4]) hS6 k_sz_48_3 rfl (hf.get 6 3 rfl) rfl rfl rfl rfl rfl (lB rfl) rfl rfl) ?_
  rintro _ w_16 ⟨rfl, hS25⟩
  refine rw_nil (cw_ret ?_)
  obtain ⟨rfl, rfl⟩ := pr2 (some_inj hF1)
  exact ret1 Tryz.results98 (v1 := .agg #[vi a.Rows, vi b.Cols, .slice B4 Cells.length c4]) (resAt_cellA (B := aD b3) (i := 0) (cs := [vi a.Rows, vi b.Cols, .slice B4 Cells.length c4]) (vs := [vi a.Rows, vi b.Cols, .slice B4 Cells.length c4]) (hf.get 6 3 rfl) k_ag_48 k_sz_48_3 (hS25.cf (i := 3) rfl) rfl rfl) ⟨B4, c4, rfl, (hS25.sN [0, 5])⟩

theorem c_spec_l6One (kind : Int)  (w0 : World)  (hS : ST w0 [] w0 [] []) {r_ : List TDyadic} (hF : F_spec_l6One kind = some r_) :
  CV Tryz.prog 125 #[vi kind] w0 (fun v w' => ∃ (B : Option Addr) (c : Nat), v = .slice B r_.length c ∧ ST w0 [] w' [⟨B, 65, (r_.flatMap eN0), c * 5⟩] []) := by
 unfold F_spec_l6One at hF
 refine cv_of_cw 43 Tryz.func125 rfl Tryz.ntmps125 rfl ?_
 refine cw_seq (cw_region ?_)
 refine sQ 2 (Y_assign (v := .slice none 0 0) rfl rfl) (rw_nil (cw_seq (cw_region ?_)))
 obtain ⟨r_1, hc, hF⟩ := bind_inv hF
 refine sc 6 rfl rfl (Yc_func (g := 54) (vs := [vi 0]) k_call_54 rfl (mc rfl mn) (c_spec_l2Power 0 _  (hS.inn0 [] rfl) hc)) ?_
 rintro _ w_ ⟨rfl, hd⟩
 have hS1 := hS.out00 hd
 refine sQ 7 (Y_buildS (zs := kZ_) (vs := []) (cs := kZ_) k_pl_65 k_zero_65 rfl mpn rfl) ?_
 refine sS 3 (Ys_alloc (T := 65) (cs := kZ_) (m := 5) hS1 k_zero_65 rfl rfl rfl) ?_
 rintro _ w_1 ⟨b, rfl, hS2⟩
 refine sS 4 (Ys_alloc (T := 65) (cs := kZ_) (m := 5) hS2 k_zero_65 rfl rfl rfl) ?_
 rintro _ w_2 ⟨b1, rfl, hS3⟩
 refine s0 (Ys_store (i := 0) (s := 5) (B := aD b) (T' := 65) (v := gD_ r_1) (vs := kD_ r_1) (k := 0) (cs' := kD_ r_1) hS3 k_sz_65_5 rfl rfl rfl rfl rfl rfl rfl (lB rfl) rfl rfl) ?_
 rintro _ w_3 ⟨rfl, hS4⟩
 refine s0 (Ys_store (i := 1) (s := 5) (B := aD b1) (T' := 65) (v := gZ_) (vs := kZ_) (k := 0) (cs' := kZ_) hS4 k_sz_65_5 rfl rfl rfl rfl rfl rfl rfl (lB rfl) rfl rfl) ?_
 rintro _ w_4 ⟨rfl, hS5⟩
 refine rw_nil (cw_seq (cw_region ?_))
 refine sQ 8 (Y_buildS (zs := [vi 0, vi 0, vi 0, vi 0]) (vs := [(0, vi 1)]) (cs := [vi 1, vi 0, vi 0, vi 0]) k_pl_63 k_zero_63 rfl (mpc rfl mpn) rfl) ?_
 refine sQ 9 (Y_buildS (zs := kZ_) (vs := [(0, .agg #[vi 1, vi 0, vi 0, vi 0]), (1, vi 1)]) (cs := [vi 1, vi 0, vi 0, vi 0, vi 1]) k_pl_65 k_zero_65 rfl (mpc rfl (mpc rfl mpn)) rfl) ?_
 refine sS 5 (Ys_alloc (T := 65) (cs := kZ_) (m := 5) hS5 k_zero_65 rfl rfl rfl) ?_
 rintro _ w_5 ⟨b2, rfl, hS6⟩
 refine s0 (Ys_store (i := 2) (s := 5) (B := aD b2) (T' := 65) (v := .agg #[vi 1, vi 0, vi 0, vi 0, vi 1]) (vs := [vi 1, vi 0, vi 0, vi 0, vi 1]) (k := 0) (cs' := [vi 1, vi 0, vi 0, vi 0, vi 1]) hS6 k_sz_65_5 rfl rfl rfl rfl rfl rfl rfl (lB rfl) rfl rfl) ?_
 rintro _ w_6 ⟨rfl, hS7⟩
 refine rw_nil (cw_seq (cw_seq (cw_region ?_)))
 refine sQ 10 (Y_move (v := vi kind) rfl rfl) (rw_nil (cw_block (cw_seq (cw_region ?_))))
 refine sQ 12 (Y_eq (k := .i64) (a := kind) (b := 1) rfl rfl rfl) ?_
 refine sQ 11 (Y_assign (v := .bool (kind == 1)) rfl rfl) (rw_nil ?_)
 refine cw_cond (b := (kind == 1)) rfl (fun hb => ?_) (fun hb => ?_)
 ·skip
  have hF1 := ct hF hb
  refine cw_seq ?_
  obtain ⟨r_2, hc1, hF1⟩ := bind_inv hF1
  refine ra_start (hS7.se [0, 1, 2]).fn (by kernel_rfl) ?_
  have hS9 := hS7.drew
  refine rq 0 13 (v := .agg #[vi 1, vi 0, vi 0, vi 0, vi 1]) rfl (hS9.se [0, 1, 2]) (fun w' hw' => (Y_loadA (B := aD b2) (i := 0) (cs := [vi 1, vi 0, vi 0, vi 0, vi 1]) (vs := [vi 1, vi 0, vi 0, vi 0, vi 1]) k_ag_65 k_sz_65_5 rfl rfl (ST.cf hw' (i := 2) rfl) rfl rfl)) ?_
  refine rq 1 14 (v := .agg #[vi 1, vi 0, vi 0, vi 0, vi 1]) rfl (hS9.se [0, 1, 2]) (fun w' hw' => (Y_loadA (B := aD b2) (i := 0) (cs := [vi 1, vi 0, vi 0, vi 0, vi 1]) (vs := [vi 1, vi 0, vi 0, vi 0, vi 1]) k_ag_65 k_sz_65_5 rfl rfl (ST.cf hw' (i := 2) rfl) rfl rfl)) ?_
  refine rq 2 15 (v := .agg #[vi 1, vi 0, vi 0, vi 0, vi 1]) rfl (hS9.se [0, 1, 2]) (fun w' hw' => (Y_loadA (B := aD b2) (i := 0) (cs := [vi 1, vi 0, vi 0, vi 0, vi 1]) (vs := [vi 1, vi 0, vi 0, vi 0, vi 1]) k_ag_65 k_sz_65_5 rfl rfl (ST.cf hw' (i := 2) rfl) rfl rfl)) ?_
  refine rq 3 16 (v := .agg #[vi 1, vi 0, vi 0, vi 0, vi 1]) rfl (hS9.se [0, 1, 2]) (fun w' hw' => (Y_loadA (B := aD b2) (i := 0) (cs := [vi 1, vi 0, vi 0, vi 0, vi 1]) (vs := [vi 1, vi 0, vi 0, vi 0, vi 1]) k_ag_65 k_sz_65_5 rfl rfl (ST.cf hw' (i := 2) rfl) rfl rfl)) ?_
  refine rA [4] ?_
  refine ra_c 17 (i := 4) rfl rfl rfl (Yc_func (g := 51) (vs := [.agg #[vi 1, vi 0, vi 0, vi 0, vi 1]]) k_call_51 rfl (mc rfl mn) (c_spec_l2Neg (TDyadic.mk (TRing.mk 1 0 0 0) 1) _  (hS9.inn0 [] rfl) hc1)) ?_ ?_
  ·rintro _ w_7 ⟨rfl, hd1⟩
   have hS10 := hS9.out00 hd1
   refine ⟨(hS10.se [0, 1, 2]), ?_⟩
   refine rA [5] ?_
   refine ra_s 18 (i := 5) rfl rfl rfl (Ys_bslice (s := 5) (len := 4) (vs := [(0, .agg #[vi 1, vi 0, vi 0, vi 0, vi 1]), (1, .agg #[vi 1, vi 0, vi 0, vi 0, vi 1]), (2, .agg #[vi 1, vi 0, vi 0, vi 0, vi 1]), (3, gD_ r_2)]) (cs := [vi 1, vi 0, vi 0, vi 0, vi 1, vi 1, vi 0, vi 0, vi 0, vi 1, vi 1, vi 0, vi 0, vi 0, vi 1, vi r_2.Num.A, vi r_2.Num.B, vi r_2.Num.C, vi r_2.Num.D, vi r_2.Exp]) (zs := [vi 0, vi 0, vi 0, vi 0, vi 0, vi 0, vi 0, vi 0, vi 0, vi 0, vi 0, vi 0, vi 0, vi 0, vi 0, vi 0, vi 0, vi 0, vi 0, vi 0]) (m := 20) hS10 k_sl_28_65 k_sz_65_5 k_zc_65 rfl (mpc rfl (mpc rfl (mpc rfl (mpc rfl mpn)))) rfl rfl rfl (by kernel_rfl) (by kernel_rfl) rfl) ?_ ?_
   ·rintro _ w_8 ⟨b3, rfl, hS11⟩
    refine ⟨(hS11.se [0, 1, 2]), ?_⟩
    refine rq 6 2 (v := .slice (aD b3) 4 4) rfl (hS11.se [0, 1, 2]) (fun w' hw' => (Y_assign (v := .slice (aD b3) 4 4) rfl rfl)) ?_
    refine ra_done (by kernel_rfl) ?_
    refine cw_ret ?_
    obtain rfl := some_inj hF1
    exact ret1 Tryz.results125 (v1 := .slice (aD b3) 4 4) (resAt_tmp rfl) ⟨aD b3, 4, rfl, (hS11.sN [3])⟩
   exact allR_nil
  exact allR_nil
 ·skip
  have hF2 := cf' hF hb
  refine cw_seq (cw_region ?_)
  refine sQ 20 (Y_eq (k := .i64) (a := kind) (b := 2) rfl rfl rfl) ?_
  refine sQ 19 (Y_assign (v := .bool (kind == 2)) rfl rfl) (rw_nil ?_)
  refine cw_cond (b := (kind == 2)) rfl (fun hb1 => ?_) (fun hb1 => ?_)
  ·skip
   have hF3 := ct hF2 hb1
   refine cw_seq (cw_region ?_)
   refine sQ 21 (Y_loadA (B := aD b1) (i := 0) (cs := kZ_) (vs := kZ_) k_ag_65 k_sz_65_5 rfl rfl (hS7.cf (i := 1) rfl) rfl rfl) ?_
   refine sQ 22 (Y_loadA (B := aD b) (i := 0) (cs := kD_ r_1) (vs := kD_ r_1) k_ag_65 k_sz_65_5 rfl rfl (hS7.cf (i := 0) rfl) rfl rfl) ?_
   refine sQ 23 (Y_loadA (B := aD b) (i := 0) (cs := kD_ r_1) (vs := kD_ r_1) k_ag_65 k_sz_65_5 rfl rfl (hS7.cf (i := 0) rfl) rfl rfl) ?_
   refine sQ 24 (Y_loadA (B := aD b1) (i := 0) (cs := kZ_) (vs := kZ_) k_ag_65 k_sz_65_5 rfl rfl (hS7.cf (i := 1) rfl) rfl rfl) ?_
   refine sS 25 (Ys_bslice (s := 5) (len := 4) (vs := [(0, gZ_), (1, gD_ r_1), (2, gD_ r_1), (3, gZ_)]) (cs := [vi 0, vi 0, vi 0, vi 0, vi 0, vi r_1.Num.A, vi r_1.Num.B, vi r_1.Num.C, vi r_1.Num.D, vi r_1.Exp, vi r_1.Num.A, vi r_1.Num.B, vi r_1.Num.C, vi r_1.Num.D, vi r_1.Exp, vi 0, vi 0, vi 0, vi 0, vi 0]) (zs := [vi 0, vi 0, vi 0, vi 0, vi 0, vi 0, vi 0, vi 0, vi 0, vi 0, vi 0, vi 0, vi 0, vi 0, vi 0, vi 0, vi 0, vi 0, vi 0, vi 0]) (m := 20) hS7 k_sl_28_65 k_sz_65_5 k_zc_65 rfl (mpc rfl (mpc rfl (mpc rfl (mpc rfl mpn)))) rfl rfl rfl (by kernel_rfl) (by kernel_rfl) rfl) ?_
   rintro _ w_9 ⟨b4, rfl, hS12⟩
   have hS12 : ST w0 [] _ [⟨aD b, 65, kD_ r_1, 5⟩, ⟨aD b1, 65, kZ_, 5⟩, ⟨aD b2, 65, [vi 1, vi 0, vi 0, vi 0, vi 1], 5⟩, ⟨aD b4, 65, ([(TDyadic.mk (TRing.mk 0 0 0 0) 0), r_1, r_1, (TDyadic.mk (TRing.mk 0 0 0 0) 0)].flatMap eN0), 4 * 5⟩] [] := hS12
   refine sQ 2 (Y_assign (v := .slice (aD b4) 4 4) rfl rfl) (rw_nil (cw_ret ?_))
   obtain rfl := some_inj hF3
   exact ret1 Tryz.results125 (v1 := .slice (aD b4) 4 4) (resAt_tmp rfl) ⟨aD b4, 4, rfl, (hS12.sN [3])⟩
  ·skip
   have hF4 := cf' hF2 hb1
   refine cw_seq (cw_region ?_)
   refine sQ 27 (Y_eq (k := .i64) (a := kind) (b := 3) rfl rfl rfl) ?_
   refine sQ 26 (Y_assign (v := .bool (kind == 3)) rfl rfl) (rw_nil ?_)
   refine cw_cond (b := (kind == 3)) rfl (fun hb2 => ?_) (fun hb2 => ?_)
   ·skip
    have hF5 := ct hF4 hb2
    refine cw_seq ?_
    obtain ⟨r_3, hc2, hF5⟩ := bind_inv hF5
    obtain ⟨r_4, hc3, hF5⟩ := bind_inv hF5
    refine ra_start (hS7.se [0, 1, 2]).fn (by kernel_rfl) ?_
    have hS15 := hS7.drew
    refine rq 0 28 (v := gZ_) rfl (hS15.se [0, 1, 2]) (fun w' hw' => (Y_loadA (B := aD b1) (i := 0) (cs := kZ_) (vs := kZ_) k_ag_65 k_sz_65_5 rfl rfl (ST.cf hw' (i := 1) rfl) rfl rfl)) ?_
    refine rq 3 31 (v := gZ_) rfl (hS15.se [0, 1, 2]) (fun w' hw' => (Y_loadA (B := aD b1) (i := 0) (cs := kZ_) (vs := kZ_) k_ag_65 k_sz_65_5 rfl rfl (ST.cf hw' (i := 1) rfl) rfl rfl)) ?_
    refine rA [1] ?_
    refine ra_c 29 (i := 1) rfl rfl rfl (Yc_func (g := 54) (vs := [vi 6]) k_call_54 rfl (mc rfl mn) (c_spec_l2Power 6 _  (hS15.inn0 [] rfl) hc2)) ?_ ?_
    ·rintro _ w_10 ⟨rfl, hd2⟩
     have hS16 := hS15.out00 hd2
     refine ⟨(hS16.se [0, 1, 2]), ?_⟩
     refine rA [2] ?_
     refine ra_c 30 (i := 2) rfl rfl rfl (Yc_func (g := 54) (vs := [vi 2]) k_call_54 rfl (mc rfl mn) (c_spec_l2Power 2 _  (hS16.inn0 [] rfl) hc3)) ?_ ?_
     ·rintro _ w_11 ⟨rfl, hd3⟩
      have hS17 := hS16.out00 hd3
      refine ⟨(hS17.se [0, 1, 2]), ?_⟩
      refine rA [4] ?_
      refine ra_s 32 (i := 4) rfl rfl rfl (Ys_bslice (s := 5) (len := 4) (vs := [(0, gZ_), (1, gD_ r_3), (2, gD_ r_4), (3, gZ_)]) (cs := [vi 0, vi 0, vi 0, vi 0, vi 0, vi r_3.Num.A, vi r_3.Num.B, vi r_3.Num.C, vi r_3.Num.D, vi r_3.Exp, vi r_4.Num.A, vi r_4.Num.B, vi r_4.Num.C, vi r_4.Num.D, vi r_4.Exp, vi 0, vi 0, vi 0, vi 0, vi 0]) (zs := [vi 0, vi 0, vi 0, vi 0, vi 0, vi 0, vi 0, vi 0, vi 0, vi 0, vi 0, vi 0, vi 0, vi 0, vi 0, vi 0, vi 0, vi 0, vi 0, vi 0]) (m := 20) hS17 k_sl_28_65 k_sz_65_5 k_zc_65 rfl (mpc rfl (mpc rfl (mpc rfl (mpc rfl mpn)))) rfl rfl rfl (by kernel_rfl) (by kernel_rfl) rfl) ?_ ?_
      ·rintro _ w_12 ⟨b5, rfl, hS18⟩
       refine ⟨(hS18.se [0, 1, 2]), ?_⟩
       refine rq 5 2 (v := .slice (aD b5) 4 4) rfl (hS18.se [0, 1, 2]) (fun w' hw' => (Y_assign (v := .slice (aD b5) 4 4) rfl rfl)) ?_
       refine ra_done (by kernel_rfl) ?_
       refine cw_ret ?_
       obtain rfl := some_inj hF5
       exact ret1 Tryz.results125 (v1 := .slice (aD b5) 4 4) (resAt_tmp rfl) ⟨aD b5, 4, rfl, (hS18.sN [3])⟩
      exact allR_nil
     exact allR_nil
    exact allR_nil
   ·skip
    have hF6 := cf' hF4 hb2
    refine cw_skip (cw_seq ?_)
    obtain ⟨x, hx, hF6⟩ := bind_inv hF6
    obtain ⟨r_5, hc4, hF6⟩ := bind_inv hF6
    refine ra_start (hS7.se [0, 1, 2]).fn (by kernel_rfl) ?_
    have hS20 := hS7.drew
    refine rq 0 33 (v := gD_ r_1) rfl (hS20.se [0, 1, 2]) (fun w' hw' => (Y_loadA (B := aD b) (i := 0) (cs := kD_ r_1) (vs := kD_ r_1) k_ag_65 k_sz_65_5 rfl rfl (ST.cf hw' (i := 0) rfl) rfl rfl)) ?_
    refine rq 1 34 (v := gZ_) rfl (hS20.se [0, 1, 2]) (fun w' hw' => (Y_loadA (B := aD b1) (i := 0) (cs := kZ_) (vs := kZ_) k_ag_65 k_sz_65_5 rfl rfl (ST.cf hw' (i := 1) rfl) rfl rfl)) ?_
    refine rq 2 35 (v := gZ_) rfl (hS20.se [0, 1, 2]) (fun w' hw' => (Y_loadA (B := aD b1) (i := 0) (cs := kZ_) (vs := kZ_) k_ag_65 k_sz_65_5 rfl rfl (ST.cf hw' (i := 1) rfl) rfl rfl)) ?_
    refine rq 4 37 (v := vi kind) rfl (hS20.se [0, 1, 2]) (fun w' hw' => (Y_move (v := vi kind) rfl rfl)) ?_
    refine rq 5 38 (v := vi (i64.wrap (kind - 4))) rfl (hS20.se [0, 1, 2]) (fun w' hw' => (Y_sub (k := .i64) (a := kind) (b := 4) rfl rfl rfl)) ?_
    refine rA [3] ?_
    refine ra_s 36 (i := 3) rfl rfl rfl (Ys_bslice (s := 1) (len := 5) (vs := [(0, vi 4), (1, vi 2), (2, vi 6), (3, vi 1), (4, vi 7)]) (cs := [vi 4, vi 2, vi 6, vi 1, vi 7]) (zs := kZ_) (m := 5) hS20 k_sl_150_3 k_sz_3_1 k_zc_3 rfl (mpc rfl (mpc rfl (mpc rfl (mpc rfl (mpc rfl mpn))))) rfl rfl rfl (by kernel_rfl) (by kernel_rfl) rfl) ?_ ?_
    ·rintro _ w_13 ⟨b6, rfl, hS21⟩
     refine ⟨(hS21.se [0, 1, 2]), ?_⟩
     refine rA [6] ?_
     refine ra_y 39 (i := 6) (v := pt (aD b6) ((i64.wrap (kind - 4)).toNat * 1)) rfl rfl rfl (Y_index (B := aD b6) (m := 5) (c := 5) (k := .i64) (i := (i64.wrap (kind - 4))) k_sl_150_3 k_sz_3_1 rfl rfl rfl (gi_isSome encI_len rfl (hS21.cf (i := 3) rfl) hx) (getI_nn hx) (getI_ltI hx rfl)) (hS21.se [0, 1, 2]) ?_ ?_
     ·skip
      refine rA [7] ?_
      refine ra_y 40 (i := 7) (v := vi x) rfl rfl rfl (Y_load1 (B := aD b6) (i := (i64.wrap (kind - 4)).toNat * 1) (cs := ([4, 2, 6, 1, 7].flatMap encI)) (v := vi x) k_sc_3 rfl rfl (hS21.cf (i := 3) rfl) (gi_at0 encI_len hx rfl)) (hS21.se [0, 1, 2]) ?_ ?_
      ·skip
       refine rA [8] ?_
       refine ra_c 41 (i := 8) rfl rfl rfl (Yc_func (g := 54) (vs := [vi x]) k_call_54 rfl (mc rfl mn) (c_spec_l2Power x _  (hS21.inn0 [] rfl) hc4)) ?_ ?_
       ·rintro _ w_14 ⟨rfl, hd4⟩
        have hS22 := hS21.out00 hd4
        refine ⟨(hS22.se [0, 1, 2]), ?_⟩
        refine rA [9] ?_
        refine ra_s 42 (i := 9) rfl rfl rfl (Ys_bslice (s := 5) (len := 4) (vs := [(0, gD_ r_1), (1, gZ_), (2, gZ_), (3, gD_ r_5)]) (cs := [vi r_1.Num.A, vi r_1.Num.B, vi r_1.Num.C, vi r_1.Num.D, vi r_1.Exp, vi 0, vi 0, vi 0, vi 0, vi 0, vi 0, vi 0, vi 0, vi 0, vi 0, vi r_5.Num.A, vi r_5.Num.B, vi r_5.Num.C, vi r_5.Num.D, vi r_5.Exp]) (zs := [vi 0, vi 0, vi 0, vi 0, vi 0, vi 0, vi 0, vi 0, vi 0, vi 0, vi 0, vi 0, vi 0, vi 0, vi 0, vi 0, vi 0, vi 0, vi 0, vi 0]) (m := 20) hS22 k_sl_28_65 k_sz_65_5 k_zc_65 rfl (mpc rfl (mpc rfl (mpc rfl (mpc rfl mpn)))) rfl rfl rfl (by kernel_rfl) (by kernel_rfl) rfl) ?_ ?_
        ·rintro _ w_15 ⟨b7, rfl, hS23⟩
         refine ⟨(hS23.se [0, 1, 2]), ?_⟩
         refine rq 10 2 (v := .slice (aD b7) 4 4) rfl (hS23.se [0, 1, 2]) (fun w' hw' => (Y_assign (v := .slice (aD b7) 4 4) rfl rfl)) ?_
         refine ra_done (by kernel_rfl) ?_
         refine cw_ret ?_
         obtain rfl := some_inj hF6
         exact ret1 Tryz.results125 (v1 := .slice (aD b7) 4 4) (resAt_tmp rfl) ⟨aD b7, 4, rfl, (hS23.sN [4])⟩
        exact allR_nil
       exact allR_nil
      exact allR_nil
     exact allR_nil
    exact allR_nil

theorem c_spec_l9Pauli (i : Int)  (w0 : World)  (hS : ST w0 [] w0 [] []) {r_ : TMatrix} (hF : F_spec_l9Pauli i = some r_) :
  CV Tryz.prog 99 #[vi i] w0 (fun v w' => ∃ (B : Option Addr) (c : Nat), v = (gM_ r_ B c) ∧ ST w0 [] w' [⟨B, 65, (r_.Cells.flatMap eN0), c * 5⟩] []) := by
 unfold F_spec_l9Pauli at hF
 refine cv_of_cw 7 Tryz.func99 rfl Tryz.ntmps99 rfl ?_
 refine cw_seq (cw_region ?_)
 refine sS 2 (Ys_alloc (T := 48) (cs := kN_) (m := 3) hS k_zero_48 rfl rfl rfl) ?_
 rintro _ w_ ⟨b, rfl, hS1⟩
 refine rw_nil (cw_seq (cw_region ?_))
 refine sQ 3 (Y_move (v := vi i) rfl rfl) ?_
 refine sQ 4 (Y_add (k := .i64) (a := 2) (b := i) rfl rfl rfl) ?_
 obtain ⟨r_1, hc, hF⟩ := bind_inv hF
 refine sc 5 rfl rfl (Yc_func (g := 125) (vs := [vi (i64.wrap (2 + i))]) k_call_125 rfl (mc rfl mn) (c_spec_l6One (i64.wrap (2 + i)) _  (hS1.inn0 [] rfl) hc)) ?_
 rintro _ w_1 ⟨B1, c1, rfl, hd⟩
 have hS2 := hS1.out0 hd
 refine sQ 6 (Y_buildS (zs := kN_) (vs := [(0, vi 2), (1, vi 2), (2, .slice B1 r_1.length c1)]) (cs := [vi 2, vi 2, .slice B1 r_1.length c1]) k_pl_48 k_zero_48 rfl (mpc rfl (mpc rfl (mpc rfl mpn))) rfl) ?_
 refine s0 (Ys_store (i := 0) (s := 3) (B := aD b) (T' := 48) (v := .agg #[vi 2, vi 2, .slice B1 r_1.length c1]) (vs := [vi 2, vi 2, .slice B1 r_1.length c1]) (k := 0) (cs' := [vi 2, vi 2, .slice B1 r_1.length c1]) hS2 k_sz_48_3 rfl rfl rfl rfl rfl rfl rfl (lB rfl) rfl rfl) ?_
 rintro _ w_2 ⟨rfl, hS3⟩
 refine rw_nil (cw_ret ?_)
 obtain rfl := some_inj hF
 exact ret1 Tryz.results99 (v1 := .agg #[vi 2, vi 2, .slice B1 r_1.length c1]) (resAt_cellA (B := aD b) (i := 0) (cs := [vi 2, vi 2, .slice B1 r_1.length c1]) (vs := [vi 2, vi 2, .slice B1 r_1.length c1]) rfl k_ag_48 k_sz_48_3 (hS3.cf (i := 0) rfl) rfl rfl) ⟨B1, c1, rfl, (hS3.sN [1])⟩

theorem c_spec_l1Conj (x : TRing)  (w0 : World)  (hS : ST w0 [] w0 [] []) {r_ : TRing} (hF : F_spec_l1Conj x = some r_) :
  CV Tryz.prog 145 #[gR_ x] w0 (fun v w' => v = (gR_ r_) ∧ ST w0 [] w' [] []) := by
 unfold F_spec_l1Conj at hF
 refine cv_of_cw 15 Tryz.func145 rfl Tryz.ntmps145 rfl ?_
 refine cw_seq (cw_region ?_)
 refine sS 1 (Ys_box (T := 63) (v := gR_ x) (cs := kR_ x) (m := 4) hS rfl rfl rfl rfl) ?_
 rintro _ w_ ⟨b, rfl, hS1⟩
 refine sS 2 (Ys_alloc (T := 63) (cs := [vi 0, vi 0, vi 0, vi 0]) (m := 4) hS1 k_zero_63 rfl rfl rfl) ?_
 rintro _ w_1 ⟨b1, rfl, hS2⟩
 refine rw_nil (cw_seq (cw_region ?_))
 refine sQ 3 (Y_fieldAddr (B := aD b) (i := 0) (s := 0) k_fd_63_0_0_3 k_sz_3_1 rfl rfl) ?_
 refine sQ 4 (Y_load1 (B := aD b) (i := 0) (cs := kR_ x) (v := vi x.A) k_sc_3 rfl rfl (hS2.cf (i := 0) rfl) rfl) ?_
 refine sQ 5 (Y_fieldAddr (B := aD b) (i := 0) (s := 0) k_fd_63_3_3_3 k_sz_3_1 rfl rfl) ?_
 refine sQ 6 (Y_load1 (B := aD b) (i := 3) (cs := kR_ x) (v := vi x.D) k_sc_3 rfl rfl (hS2.cf (i := 0) rfl) rfl) ?_
 refine sQ 7 (Y_neg (k := .i64) (a := x.D) rfl rfl) ?_
 refine sQ 8 (Y_fieldAddr (B := aD b) (i := 0) (s := 0) k_fd_63_2_2_3 k_sz_3_1 rfl rfl) ?_
 refine sQ 9 (Y_load1 (B := aD b) (i := 2) (cs := kR_ x) (v := vi x.C) k_sc_3 rfl rfl (hS2.cf (i := 0) rfl) rfl) ?_
 refine sQ 10 (Y_neg (k := .i64) (a := x.C) rfl rfl) ?_
 refine sQ 11 (Y_fieldAddr (B := aD b) (i := 0) (s := 0) k_fd_63_1_1_3 k_sz_3_1 rfl rfl) ?_
 refine sQ 12 (Y_load1 (B := aD b) (i := 1) (cs := kR_ x) (v := vi x.B) k_sc_3 rfl rfl (hS2.cf (i := 0) rfl) rfl) ?_
 refine sQ 13 (Y_neg (k := .i64) (a := x.B) rfl rfl) ?_
 refine sQ 14 (Y_buildS (zs := [vi 0, vi 0, vi 0, vi 0]) (vs := [(0, vi x.A), (1, vi (i64.wrap (-x.D))), (2, vi (i64.wrap (-x.C))), (3, vi (i64.wrap (-x.B)))]) (cs := [vi x.A, vi (i64.wrap (-x.D)), vi (i64.wrap (-x.C)), vi (i64.wrap (-x.B))]) k_pl_63 k_zero_63 rfl (mpc rfl (mpc rfl (mpc rfl (mpc rfl mpn)))) rfl) ?_
 refine s0 (Ys_store (i := 1) (s := 4) (B := aD b1) (T' := 63) (v := .agg #[vi x.A, vi (i64.wrap (-x.D)), vi (i64.wrap (-x.C)), vi (i64.wrap (-x.B))]) (vs := [vi x.A, vi (i64.wrap (-x.D)), vi (i64.wrap (-x.C)), vi (i64.wrap (-x.B))]) (k := 0) (cs' := [vi x.A, vi (i64.wrap (-x.D)), vi (i64.wrap (-x.C)), vi (i64.wrap (-x.B))]) hS2 k_sz_63_4 rfl rfl rfl rfl rfl rfl rfl (lB rfl) rfl rfl) ?_
 rintro _ w_2 ⟨rfl, hS3⟩
 refine rw_nil (cw_ret ?_)
 obtain rfl := some_inj hF
 exact ret1 Tryz.results145 (v1 := .agg #[vi x.A, vi (i64.wrap (-x.D)), vi (i64.wrap (-x.C)), vi (i64.wrap (-x.B))]) (resAt_cellA (B := aD b1) (i := 0) (cs := [vi x.A, vi (i64.wrap (-x.D)), vi (i64.wrap (-x.C)), vi (i64.wrap (-x.B))]) (vs := [vi x.A, vi (i64.wrap (-x.D)), vi (i64.wrap (-x.C)), vi (i64.wrap (-x.B))]) rfl k_ag_63 k_sz_63_4 (hS3.cf (i := 1) rfl) rfl rfl) ⟨rfl, (hS3.sN [])⟩

theorem c_spec_l2Conj (x : TDyadic)  (w0 : World)  (hS : ST w0 [] w0 [] []) {r_ : TDyadic} (hF : F_spec_l2Conj x = some r_) :
  CV Tryz.prog 126 #[gD_ x] w0 (fun v w' => v = (gD_ r_) ∧ ST w0 [] w' [] []) := by
 unfold F_spec_l2Conj at hF
 refine cv_of_cw 9 Tryz.func126 rfl Tryz.ntmps126 rfl ?_
 refine cw_seq (cw_region ?_)
 refine sS 1 (Ys_box (T := 65) (v := gD_ x) (cs := kD_ x) (m := 5) hS rfl rfl rfl rfl) ?_
 rintro _ w_ ⟨b, rfl, hS1⟩
 refine sS 2 (Ys_alloc (T := 65) (cs := kZ_) (m := 5) hS1 k_zero_65 rfl rfl rfl) ?_
 rintro _ w_1 ⟨b1, rfl, hS2⟩
 refine rw_nil (cw_seq ?_)
 obtain ⟨r_1, hc, hF⟩ := bind_inv hF
 refine ra_start (hS2.se [0]).fn (by kernel_rfl) ?_
 have hS4 := hS2.drew
 refine rq 0 3 (v := pt (aD b) 0) rfl (hS4.se [0]) (fun w' hw' => (Y_fieldAddr (B := aD b) (i := 0) (s := 3) k_fd_65_0_0_63 k_sz_63_4 rfl rfl)) ?_
 refine rq 1 4 (v := gR_ x.Num) rfl (hS4.se [0]) (fun w' hw' => (Y_loadA (B := aD b) (i := 0) (cs := kD_ x) (vs := kR_ x.Num) k_ag_63 k_sz_63_4 rfl rfl (ST.cf hw' (i := 0) rfl) rfl rfl)) ?_
 refine rq 3 6 (v := pt (aD b) 4) rfl (hS4.se [0]) (fun w' hw' => (Y_fieldAddr (B := aD b) (i := 0) (s := 0) k_fd_65_1_4_3 k_sz_3_1 rfl rfl)) ?_
 refine rq 4 7 (v := vi x.Exp) rfl (hS4.se [0]) (fun w' hw' => (Y_load1 (B := aD b) (i := 4) (cs := kD_ x) (v := vi x.Exp) k_sc_3 rfl rfl (ST.cf hw' (i := 0) rfl) rfl)) ?_
 refine rA [2] ?_
 refine ra_c 5 (i := 2) rfl rfl rfl (Yc_func (g := 145) (vs := [gR_ x.Num]) k_call_145 rfl (mc rfl mn) (c_spec_l1Conj x.Num _  (hS4.inn0 [] rfl) hc)) ?_ ?_
 ·rintro _ w_2 ⟨rfl, hd⟩
  have hS5 := hS4.out00 hd
  refine ⟨(hS5.se [0]), ?_⟩
  refine rq 5 8 (v := .agg #[vi r_1.A, vi r_1.B, vi r_1.C, vi r_1.D, vi x.Exp]) rfl (hS5.se [0]) (fun w' hw' => (Y_buildS (zs := kZ_) (vs := [(0, gR_ r_1), (1, vi x.Exp)]) (cs := [vi r_1.A, vi r_1.B, vi r_1.C, vi r_1.D, vi x.Exp]) k_pl_65 k_zero_65 rfl (mpc rfl (mpc rfl mpn)) rfl)) ?_
  refine rA [6] ?_
  refine ra_s0 (i := 6) rfl rfl rfl (Ys_store (i := 1) (s := 5) (B := aD b1) (T' := 65) (v := .agg #[vi r_1.A, vi r_1.B, vi r_1.C, vi r_1.D, vi x.Exp]) (vs := [vi r_1.A, vi r_1.B, vi r_1.C, vi r_1.D, vi x.Exp]) (k := 0) (cs' := [vi r_1.A, vi r_1.B, vi r_1.C, vi r_1.D, vi x.Exp]) hS5 k_sz_65_5 rfl rfl rfl rfl rfl rfl rfl (lB rfl) rfl rfl) ?_ ?_
  ·rintro _ w_3 ⟨rfl, hS6⟩
   refine ⟨(hS6.se [0]), ?_⟩
   refine ra_done (by kernel_rfl) ?_
   refine cw_ret ?_
   obtain rfl := some_inj hF
   exact ret1 Tryz.results126 (v1 := .agg #[vi r_1.A, vi r_1.B, vi r_1.C, vi r_1.D, vi x.Exp]) (resAt_cellA (B := aD b1) (i := 0) (cs := [vi r_1.A, vi r_1.B, vi r_1.C, vi r_1.D, vi x.Exp]) (vs := [vi r_1.A, vi r_1.B, vi r_1.C, vi r_1.D, vi x.Exp]) rfl k_ag_65 k_sz_65_5 (hS6.cf (i := 1) rfl) rfl rfl) ⟨rfl, (hS6.sN [])⟩
  exact allR_nil
 exact allR_nil

theorem c_spec_l3Adj (m : TMatrix) (B : Option Addr) (c n : Nat) (w0 : World) (hn : m.Cells.length = n) (hS : ST w0 [] w0 [] [⟨B, (m.Cells.flatMap eN0)⟩]) {r_ : TMatrix} (hF : F_spec_l3Adj m = some r_) :
  CV Tryz.prog 100 #[.agg #[vi m.Rows, vi m.Cols, .slice B n c]] w0 (fun v w' => ∃ (B1 : Option Addr) (c1 : Nat), v = (gM_ r_ B1 c1) ∧ ST w0 [] w' [⟨B1, 65, (r_.Cells.flatMap eN0), c1 * 5⟩] []) := by
 subst hn
 unfold F_spec_l3Adj at hF
 refine cv_of_cw 40 Tryz.func100 rfl Tryz.ntmps100 rfl ?_
 refine cw_seq (cw_region ?_)
 refine sS 1 (Ys_box (T := 48) (v := gM_ m B c) (cs := kM_ m B c) (m := 3) hS rfl rfl rfl rfl) ?_
 rintro _ w_ ⟨b, rfl, hS1⟩
 refine sS 2 (Ys_alloc (T := 48) (cs := kN_) (m := 3) hS1 k_zero_48 rfl rfl rfl) ?_
 rintro _ w_1 ⟨b1, rfl, hS2⟩
 refine rw_nil (cw_seq (cw_region ?_))
 refine sQ 6 (Y_fieldAddr (B := aD b) (i := 0) (s := 0) k_fd_48_1_1_3 k_sz_3_1 rfl rfl) ?_
 refine sQ 7 (Y_load1 (B := aD b) (i := 1) (cs := kM_ m B c) (v := vi m.Cols) k_sc_3 rfl rfl (hS2.cf (i := 0) rfl) rfl) ?_
 refine sQ 8 (Y_fieldAddr (B := aD b) (i := 0) (s := 0) k_fd_48_0_0_3 k_sz_3_1 rfl rfl) ?_
 refine sQ 9 (Y_load1 (B := aD b) (i := 0) (cs := kM_ m B c) (v := vi m.Rows) k_sc_3 rfl rfl (hS2.cf (i := 0) rfl) rfl) ?_
 refine sQ 10 (Y_buildS (zs := kN_) (vs := [(0, vi m.Cols), (1, vi m.Rows)]) (cs := [vi m.Cols, vi m.Rows, .slice none 0 0]) k_pl_48 k_zero_48 rfl (mpc rfl (mpc rfl mpn)) rfl) ?_
 refine sS 3 (Ys_alloc (T := 48) (cs := kN_) (m := 3) hS2 k_zero_48 rfl rfl rfl) ?_
 rintro _ w_2 ⟨b2, rfl, hS3⟩
 refine s0 (Ys_store (i := 2) (s := 3) (B := aD b2) (T' := 48) (v := .agg #[vi m.Cols, vi m.Rows, .slice none 0 0]) (vs := [vi m.Cols, vi m.Rows, .slice none 0 0]) (k := 0) (cs' := [vi m.Cols, vi m.Rows, .slice none 0 0]) hS3 k_sz_48_3 rfl rfl rfl rfl rfl rfl rfl (lB rfl) rfl rfl) ?_
 rintro _ w_3 ⟨rfl, hS4⟩
 refine rw_nil (cw_seq (cw_seq (cw_region ?_)))
 refine sQ 4 (Y_assign (v := vi 0) rfl rfl) (rw_nil ?_)
 obtain ⟨hN, hF⟩ := chk_inv hF
 obtain ⟨z, hz, hF1⟩ := bind_inv hF
 have hS6 := hS4.addNil 65
 refine cw_block ?_
 refine cw_loop (fun k f w => ∃ (j : Nat) (Cells : List TDyadic) (B2 : Option Addr) (c2 : Nat), FF f [(1, pt (aD b) 0), (2, pt (aD b1) 0), (3, pt (aD b2) 0), (4, vi (j : Int))] ∧ ST w0 [] w [⟨aD b, 48, kM_ m B c, 3⟩, ⟨aD b1, 48, kN_, 3⟩, ⟨aD b2, 48, [vi m.Cols, vi m.Rows, .slice B2 Cells.length c2], 3⟩, ⟨B2, 65, (Cells.flatMap eN0), c2 * 5⟩] [⟨B, (m.Cells.flatMap eN0)⟩] ∧ j + k = m.Cols.toNat ∧ forN (F_spec_l3Adj_l1 m) k j Cells = some z) m.Cols.toNat ⟨0, [], none, 0, (FF.cons rfl (FF.cons rfl (FF.cons rfl (FF.cons rfl FF.nil)))), (hS6.sel [0, 1, 2, 3] rfl rfl), Nat.zero_add _, hz⟩ ?_
 rintro k_ f w ⟨j, Cells, B2, c2, hf, hS5, hik, hL⟩
 refine cw_seq (cw_seq (cw_region ?_))
 refine sQ 11 (Y_move (v := vi (j : Int)) rfl (hf.get 4 3 rfl)) ?_
 refine sQ 12 (Y_fieldAddr (B := aD b) (i := 0) (s := 0) k_fd_48_1_1_3 k_sz_3_1 rfl (hf.get 1 0 rfl)) ?_
 refine sQ 13 (Y_load1 (B := aD b) (i := 1) (cs := kM_ m B c) (v := vi m.Cols) k_sc_3 rfl rfl (hS5.cf (i := 0) rfl) rfl) ?_
 refine sQ 14 (Y_lt (k := .i64) (a := (j : Int)) (b := m.Cols) rfl rfl rfl) (rw_nil ?_)
 refine cw_cond (b := (decide ((j : Int) < m.Cols))) rfl (fun hlt => ?_) (fun hlt => ?_)
 ·skip
  have hlt1 : j < m.Cols.toNat := by have h := of_decide_eq_true hlt; omega
  obtain ⟨k_1, rfl⟩ : ∃ k2, k_ = k2 + 1 := ⟨k_ - 1, by omega⟩
  obtain ⟨y, hb, hL1⟩ := forN_go hL
  unfold F_spec_l3Adj_l1 at hb
  refine cw_skip (cw_seq (cw_block (cw_seq (cw_region ?_))))
  refine sQ 5 (Y_assign (v := vi 0) rfl rfl) (rw_nil ?_)
  obtain ⟨hN1, hb⟩ := chk_inv hb
  obtain ⟨z1, hz1, hF2⟩ := bind_inv hb
  refine cw_block ?_
  refine cw_loop (fun k f w => ∃ (i2 : Nat) (Cells1 : List TDyadic) (B3 : Option Addr) (c3 : Nat), FF f [(1, pt (aD b) 0), (2, pt (aD b1) 0), (3, pt (aD b2) 0), (4, vi (j : Int)), (5, vi (i2 : Int))] ∧ ST w0 [] w [⟨aD b, 48, kM_ m B c, 3⟩, ⟨aD b1, 48, kN_, 3⟩, ⟨aD b2, 48, [vi m.Cols, vi m.Rows, .slice B3 Cells1.length c3], 3⟩, ⟨B3, 65, (Cells1.flatMap eN0), c3 * 5⟩] [⟨B, (m.Cells.flatMap eN0)⟩] ∧ i2 + k = m.Rows.toNat ∧ forN (F_spec_l3Adj_l2 m Cells j) k i2 Cells1 = some z1) m.Rows.toNat ⟨0, Cells, B2, c2, (FF.cons (hf.get 1 0 rfl) (FF.cons (hf.get 2 1 rfl) (FF.cons (hf.get 3 2 rfl) (FF.cons (hf.get 4 3 rfl) (FF.cons rfl FF.nil))))), (hS5.sel [0, 1, 2, 3] rfl rfl), Nat.zero_add _, hz1⟩ ?_
  rintro k_2 f w ⟨i2, Cells1, B3, c3, hf1, hS7, hik1, hL2⟩
  refine cw_seq (cw_seq (cw_region ?_))
  refine sQ 17 (Y_move (v := vi (i2 : Int)) rfl (hf1.get 5 4 rfl)) ?_
  refine sQ 18 (Y_fieldAddr (B := aD b) (i := 0) (s := 0) k_fd_48_0_0_3 k_sz_3_1 rfl (hf1.get 1 0 rfl)) ?_
  refine sQ 19 (Y_load1 (B := aD b) (i := 0) (cs := kM_ m B c) (v := vi m.Rows) k_sc_3 rfl rfl (hS7.cf (i := 0) rfl) rfl) ?_
  refine sQ 20 (Y_lt (k := .i64) (a := (i2 : Int)) (b := m.Rows) rfl rfl rfl) (rw_nil ?_)
  refine cw_cond (b := (decide ((i2 : Int) < m.Rows))) rfl (fun hlt2 => ?_) (fun hlt2 => ?_)
  ·skip
   have hlt3 : i2 < m.Rows.toNat := by have h := of_decide_eq_true hlt2; omega
   obtain ⟨k_3, rfl⟩ : ∃ k2, k_2 = k2 + 1 := ⟨k_2 - 1, by omega⟩
   obtain ⟨y1, hb1, hL3⟩ := forN_go hL2
   unfold F_spec_l3Adj_l2 at hb1
   refine cw_skip (cw_seq (cw_block ?_))
   obtain ⟨x, hx, hb1⟩ := bind_inv hb1
   obtain ⟨r_1, hc, hb1⟩ := bind_inv hb1
   obtain ⟨hap, hb1⟩ := chk_inv hb1
   refine cw_mid (fun f w => ∃ (B5 : Option Addr) (c5 : Nat), FF f [(1, pt (aD b) 0), (2, pt (aD b1) 0), (3, pt (aD b2) 0), (4, vi (j : Int)), (5, vi (i2 : Int))] ∧ ST w0 [] w [⟨aD b, 48, kM_ m B c, 3⟩, ⟨aD b1, 48, kN_, 3⟩, ⟨aD b2, 48, [vi m.Cols, vi m.Rows, .slice B5 ((Cells1 ++ [r_1]).length) c5], 3⟩, ⟨B5, 65, ((Cells1 ++ [r_1]).flatMap eN0), c5 * 5⟩] [⟨B, (m.Cells.flatMap eN0)⟩]) ?_ ?_
   ·skip
    refine ra_start (hS7.se [0, 1]).fn (by kernel_rfl) ?_
    have hS10 := hS7.drew
    refine rq 0 23 (v := pt (aD b2) 2) rfl (hS10.se [0, 1]) (fun w' hw' => (Y_fieldAddr (B := aD b2) (i := 0) (s := 0) k_fd_48_2_2_28 k_sz_28_1 rfl (hf1.get 3 2 rfl))) ?_
    refine rq 2 25 (v := pt (aD b) 2) rfl (hS10.se [0, 1]) (fun w' hw' => (Y_fieldAddr (B := aD b) (i := 0) (s := 0) k_fd_48_2_2_28 k_sz_28_1 rfl (hf1.get 1 0 rfl))) ?_
    refine rq 3 26 (v := .slice B m.Cells.length c) rfl (hS10.se [0, 1]) (fun w' hw' => (Y_load1 (B := aD b) (i := 2) (cs := kM_ m B c) (v := .slice B m.Cells.length c) k_sc_28 rfl rfl (ST.cf hw' (i := 0) rfl) rfl)) ?_
    refine rq 4 27 (v := vi (i2 : Int)) rfl (hS10.se [0, 1]) (fun w' hw' => (Y_move (v := vi (i2 : Int)) rfl (hf1.get 5 4 rfl))) ?_
    refine rq 5 28 (v := pt (aD b) 1) rfl (hS10.se [0, 1]) (fun w' hw' => (Y_fieldAddr (B := aD b) (i := 0) (s := 0) k_fd_48_1_1_3 k_sz_3_1 rfl (hf1.get 1 0 rfl))) ?_
    refine rq 6 29 (v := vi m.Cols) rfl (hS10.se [0, 1]) (fun w' hw' => (Y_load1 (B := aD b) (i := 1) (cs := kM_ m B c) (v := vi m.Cols) k_sc_3 rfl rfl (ST.cf hw' (i := 0) rfl) rfl)) ?_
    refine rq 7 30 (v := vi (i64.wrap ((i2 : Int) * m.Cols))) rfl (hS10.se [0, 1]) (fun w' hw' => (Y_mul (k := .i64) (a := (i2 : Int)) (b := m.Cols) rfl rfl rfl)) ?_
    refine rq 8 31 (v := vi (j : Int)) rfl (hS10.se [0, 1]) (fun w' hw' => (Y_move (v := vi (j : Int)) rfl (hf1.get 4 3 rfl))) ?_
    refine rq 9 32 (v := vi (i64.wrap ((i64.wrap ((i2 : Int) * m.Cols)) + (j : Int)))) rfl (hS10.se [0, 1]) (fun w' hw' => (Y_add (k := .i64) (a := (i64.wrap ((i2 : Int) * m.Cols))) (b := (j : Int)) rfl rfl rfl)) ?_
    refine rq 10 33 (v := pt B ((i64.wrap ((i64.wrap ((i2 : Int) * m.Cols)) + (j : Int))).toNat * 5)) rfl (hS10.se [0, 1]) (fun w' hw' => (Y_index (B := B) (m := m.Cells.length) (c := c) (k := .i64) (i := (i64.wrap ((i64.wrap ((i2 : Int) * m.Cols)) + (j : Int)))) k_sl_28_65 k_sz_65_5 rfl rfl rfl (gi_isSome eN2 rfl (ST.rf hw' (i := 0) rfl) hx) (getI_nn hx) (getI_ltI hx rfl))) ?_
    refine rq 11 34 (v := gD_ x) rfl (hS10.se [0, 1]) (fun w' hw' => (Y_loadA (B := B) (i := (i64.wrap ((i64.wrap ((i2 : Int) * m.Cols)) + (j : Int))).toNat * 5) (cs := (m.Cells.flatMap eN0)) (vs := kD_ x) k_ag_65 k_sz_65_5 rfl rfl (ST.rf hw' (i := 0) rfl) (eN2 x) (gi_seg eN2 hx))) ?_
    refine rA [1, 12] ?_
    refine ra_y 24 (i := 1) (v := .slice B3 Cells1.length c3) rfl rfl rfl (Y_load1 (B := aD b2) (i := 2) (cs := [vi m.Cols, vi m.Rows, .slice B3 Cells1.length c3]) (v := .slice B3 Cells1.length c3) k_sc_28 rfl rfl (hS10.cf (i := 2) rfl) rfl) (hS10.se [0, 1]) ?_ ?_
    ·skip
     refine rA [12] ?_
     refine ra_c 35 (i := 12) rfl rfl rfl (Yc_func (g := 126) (vs := [gD_ x]) k_call_126 rfl (mc rfl mn) (c_spec_l2Conj x _  (hS10.inn0 [] rfl) hc)) ?_ ?_
     ·rintro _ w_4 ⟨rfl, hd⟩
      have hS11 := hS10.out00 hd
      refine ⟨(hS11.se [0, 1]), ?_⟩
      refine rA [13] ?_
      refine ra_s 36 (i := 13) rfl rfl rfl (Ys_bslice (s := 5) (len := 1) (vs := [(0, gD_ r_1)]) (cs := kD_ r_1) (zs := kZ_) (m := 5) hS11 k_sl_28_65 k_sz_65_5 k_zc_65 rfl (mpc rfl mpn) rfl rfl rfl (by kernel_rfl) (by kernel_rfl) rfl) ?_ ?_
      ·rintro _ w_5 ⟨b3, rfl, hS12⟩
       refine ⟨(hS12.se [0, 1]), ?_⟩
       refine rA [14] ?_
       refine ra_s 37 (i := 14) rfl rfl rfl (Ys_append (s := 5) (by' := 40) (i := 3) (nn := Cells1.length) (c := c3) (k := 1) (len := (Cells1 ++ [r_1]).length) (B := B3) (xs := ([r_1].flatMap eN0)) (cs' := ((Cells1 ++ [r_1]).flatMap eN0)) hS12 k_sl_28_65 k_sz_65_5 k_by_65_40 k_zero_65 rfl (by decide) rfl rfl rfl rfl (fm_lenn (l := Cells1) eN2 rfl) rfl (hS12.cf (i := 4) rfl) (fm_lenn (l := [r_1]) eN2 rfl) (fm_one' (enc := eN0) enc_Dyadic_one [r_1]) (by have := hap; omega) (by have := hap; simp only [maxLen]; omega) (fm_app _ _) (app_len (l := Cells1) (l' := [r_1]) rfl rfl)) ?_ ?_
       ·rintro _ w_6 ⟨B4, c4, rfl, hS13⟩
        refine ⟨(hS13.se [0, 1]), ?_⟩
        refine rq 15 38 (v := pt (aD b2) 2) rfl (hS13.se [0, 1]) (fun w' hw' => (Y_fieldAddr (B := aD b2) (i := 0) (s := 0) k_fd_48_2_2_28 k_sz_28_1 rfl (hf1.get 3 2 rfl))) ?_
        refine rA [16] ?_
        refine ra_s0 (i := 16) rfl rfl rfl (Ys_store (i := 2) (s := 1) (B := aD b2) (T' := 48) (v := .slice B4 ((Cells1 ++ [r_1]).length) c4) (vs := [.slice B4 ((Cells1 ++ [r_1]).length) c4]) (k := 2) (cs' := [vi m.Cols, vi m.Rows, .slice B4 ((Cells1 ++ [r_1]).length) c4]) hS13 k_sz_28_1 rfl rfl rfl rfl rfl rfl rfl (lB rfl) rfl rfl) ?_ ?_
        ·rintro _ w_7 ⟨rfl, hS14⟩
         refine ⟨(hS14.se [0, 1]), ?_⟩
         refine ra_done (by kernel_rfl) ?_
         exact ⟨B4, c4, (FF.cons (hf1.get 1 0 rfl) (FF.cons (hf1.get 2 1 rfl) (FF.cons (hf1.get 3 2 rfl) (FF.cons (hf1.get 4 3 rfl) (FF.cons (hf1.get 5 4 rfl) FF.nil))))), (hS14.sel [0, 1, 2, 3] rfl rfl)⟩
        exact allR_nil
       exact allR_nil
      exact allR_nil
     exact allR_nil
    refine ra_c 35 (i := 12) rfl rfl rfl (Yc_func (g := 126) (vs := [gD_ x]) k_call_126 rfl (mc rfl mn) (c_spec_l2Conj x _  (hS10.inn0 [] rfl) hc)) ?_ ?_
    ·rintro _ w_8 ⟨rfl, hd1⟩
     have hS15 := hS10.out00 hd1
     have hS15 : ST w0 [] _ [⟨aD b, 48, kM_ m B c, 3⟩, ⟨aD b1, 48, kN_, 3⟩, ⟨aD b2, 48, [vi m.Cols, vi m.Rows, .slice B3 Cells1.length c3], 3⟩, ⟨B3, 65, (Cells1.flatMap eN0), c3 * 5⟩] [⟨B, (m.Cells.flatMap eN0)⟩] := hS15
     refine ⟨(hS15.se [0, 1]), ?_⟩
     refine rA [1, 13] ?_
     refine ra_y 24 (i := 1) (v := .slice B3 Cells1.length c3) rfl rfl rfl (Y_load1 (B := aD b2) (i := 2) (cs := [vi m.Cols, vi m.Rows, .slice B3 Cells1.length c3]) (v := .slice B3 Cells1.length c3) k_sc_28 rfl rfl (hS15.cf (i := 2) rfl) rfl) (hS15.se [0, 1]) ?_ ?_
     ·skip
      refine rA [13] ?_
      refine ra_s 36 (i := 13) rfl rfl rfl (Ys_bslice (s := 5) (len := 1) (vs := [(0, gD_ r_1)]) (cs := kD_ r_1) (zs := kZ_) (m := 5) hS15 k_sl_28_65 k_sz_65_5 k_zc_65 rfl (mpc rfl mpn) rfl rfl rfl (by kernel_rfl) (by kernel_rfl) rfl) ?_ ?_
      ·rintro _ w_9 ⟨b3, rfl, hS16⟩
       refine ⟨(hS16.se [0, 1]), ?_⟩
       refine rA [14] ?_
       refine ra_s 37 (i := 14) rfl rfl rfl (Ys_append (s := 5) (by' := 40) (i := 3) (nn := Cells1.length) (c := c3) (k := 1) (len := (Cells1 ++ [r_1]).length) (B := B3) (xs := ([r_1].flatMap eN0)) (cs' := ((Cells1 ++ [r_1]).flatMap eN0)) hS16 k_sl_28_65 k_sz_65_5 k_by_65_40 k_zero_65 rfl (by decide) rfl rfl rfl rfl (fm_lenn (l := Cells1) eN2 rfl) rfl (hS16.cf (i := 4) rfl) (fm_lenn (l := [r_1]) eN2 rfl) (fm_one' (enc := eN0) enc_Dyadic_one [r_1]) (by have := hap; omega) (by have := hap; simp only [maxLen]; omega) (fm_app _ _) (app_len (l := Cells1) (l' := [r_1]) rfl rfl)) ?_ ?_
       ·rintro _ w_10 ⟨B4, c4, rfl, hS17⟩
        refine ⟨(hS17.se [0, 1]), ?_⟩
        refine rq 15 38 (v := pt (aD b2) 2) rfl (hS17.se [0, 1]) (fun w' hw' => (Y_fieldAddr (B := aD b2) (i := 0) (s := 0) k_fd_48_2_2_28 k_sz_28_1 rfl (hf1.get 3 2 rfl))) ?_
        refine rA [16] ?_
        refine ra_s0 (i := 16) rfl rfl rfl (Ys_store (i := 2) (s := 1) (B := aD b2) (T' := 48) (v := .slice B4 ((Cells1 ++ [r_1]).length) c4) (vs := [.slice B4 ((Cells1 ++ [r_1]).length) c4]) (k := 2) (cs' := [vi m.Cols, vi m.Rows, .slice B4 ((Cells1 ++ [r_1]).length) c4]) hS17 k_sz_28_1 rfl rfl rfl rfl rfl rfl rfl (lB rfl) rfl rfl) ?_ ?_
        ·rintro _ w_11 ⟨rfl, hS18⟩
         refine ⟨(hS18.se [0, 1]), ?_⟩
         refine ra_done (by kernel_rfl) ?_
         exact ⟨B4, c4, (FF.cons (hf1.get 1 0 rfl) (FF.cons (hf1.get 2 1 rfl) (FF.cons (hf1.get 3 2 rfl) (FF.cons (hf1.get 4 3 rfl) (FF.cons (hf1.get 5 4 rfl) FF.nil))))), (hS18.sel [0, 1, 2, 3] rfl rfl)⟩
        exact allR_nil
       exact allR_nil
      exact allR_nil
     refine ra_s 36 (i := 13) rfl rfl rfl (Ys_bslice (s := 5) (len := 1) (vs := [(0, gD_ r_1)]) (cs := kD_ r_1) (zs := kZ_) (m := 5) hS15 k_sl_28_65 k_sz_65_5 k_zc_65 rfl (mpc rfl mpn) rfl rfl rfl (by kernel_rfl) (by kernel_rfl) rfl) ?_ ?_
     ·rintro _ w_12 ⟨b3, rfl, hS19⟩
      refine ⟨(hS19.se [0, 1]), ?_⟩
      refine rA [1] ?_
      refine ra_y 24 (i := 1) (v := .slice B3 Cells1.length c3) rfl rfl rfl (Y_load1 (B := aD b2) (i := 2) (cs := [vi m.Cols, vi m.Rows, .slice B3 Cells1.length c3]) (v := .slice B3 Cells1.length c3) k_sc_28 rfl rfl (hS19.cf (i := 2) rfl) rfl) (hS19.se [0, 1]) ?_ ?_
      ·skip
       refine rA [14] ?_
       refine ra_s 37 (i := 14) rfl rfl rfl (Ys_append (s := 5) (by' := 40) (i := 3) (nn := Cells1.length) (c := c3) (k := 1) (len := (Cells1 ++ [r_1]).length) (B := B3) (xs := ([r_1].flatMap eN0)) (cs' := ((Cells1 ++ [r_1]).flatMap eN0)) hS19 k_sl_28_65 k_sz_65_5 k_by_65_40 k_zero_65 rfl (by decide) rfl rfl rfl rfl (fm_lenn (l := Cells1) eN2 rfl) rfl (hS19.cf (i := 4) rfl) (fm_lenn (l := [r_1]) eN2 rfl) (fm_one' (enc := eN0) enc_Dyadic_one [r_1]) (by have := hap; omega) (by have := hap; simp only [maxLen]; omega) (fm_app _ _) (app_len (l := Cells1) (l' := [r_1]) rfl rfl)) ?_ ?_
       ·rintro _ w_13 ⟨B4, c4, rfl, hS20⟩
        refine ⟨(hS20.se [0, 1]), ?_⟩
        refine rq 15 38 (v := pt (aD b2) 2) rfl (hS20.se [0, 1]) (fun w' hw' => (Y_fieldAddr (B := aD b2) (i := 0) (s := 0) k_fd_48_2_2_28 k_sz_28_1 rfl (hf1.get 3 2 rfl))) ?_
        refine rA [16] ?_
        refine ra_s0 (i := 16) rfl rfl rfl (Ys_store (i := 2) (s := 1) (B := aD b2) (T' := 48) (v := .slice B4 ((Cells1 ++ [r_1]).length) c4) (vs := [.slice B4 ((Cells1 ++ [r_1]).length) c4]) (k := 2) (cs' := [vi m.Cols, vi m.Rows, .slice B4 ((Cells1 ++ [r_1]).length) c4]) hS20 k_sz_28_1 rfl rfl rfl rfl rfl rfl rfl (lB rfl) rfl rfl) ?_ ?_
        ·rintro _ w_14 ⟨rfl, hS21⟩
         refine ⟨(hS21.se [0, 1]), ?_⟩
         refine ra_done (by kernel_rfl) ?_
         exact ⟨B4, c4, (FF.cons (hf1.get 1 0 rfl) (FF.cons (hf1.get 2 1 rfl) (FF.cons (hf1.get 3 2 rfl) (FF.cons (hf1.get 4 3 rfl) (FF.cons (hf1.get 5 4 rfl) FF.nil))))), (hS21.sel [0, 1, 2, 3] rfl rfl)⟩
        exact allR_nil
       exact allR_nil
      exact allR_nil
     exact allR_nil
    exact allR_nil
   rintro f w ⟨B5, c5, hf2, hS9⟩
   refine cw_region ?_
   refine sQ 21 (Y_move (v := vi (i2 : Int)) rfl (hf2.get 5 4 rfl)) ?_
   refine sQ 22 (Y_add (k := .i64) (a := (i2 : Int)) (b := 1) rfl rfl rfl) ?_
   refine sQ 5 (Y_assign (v := vi (i64.wrap ((i2 : Int) + 1))) rfl rfl) (rw_nil ?_)
   obtain rfl := some_inj hb1
   exact ⟨k_3, Nat.lt_succ_self _, i2 + 1, (Cells1 ++ [r_1]), B5, c5, (FF.cons (hf2.get 1 0 rfl) (FF.cons (hf2.get 2 1 rfl) (FF.cons (hf2.get 3 2 rfl) (FF.cons (hf2.get 4 3 rfl) (FF.cons (congrArg (Value.int .i64) (wr_succ hlt3 hN1)) FF.nil))))), (hS9.sel [0, 1, 2, 3] rfl rfl), (by omega), hL3⟩
  ·skip
   obtain rfl : k_2 = 0 := by have h := of_decide_eq_false hlt2; omega
   refine cw_exit rfl ?_
   obtain rfl := some_inj hL2
   refine cw_region ?_
   refine sQ 15 (Y_move (v := vi (j : Int)) rfl (hf1.get 4 3 rfl)) ?_
   refine sQ 16 (Y_add (k := .i64) (a := (j : Int)) (b := 1) rfl rfl rfl) ?_
   refine sQ 4 (Y_assign (v := vi (i64.wrap ((j : Int) + 1))) rfl rfl) (rw_nil ?_)
   obtain rfl := some_inj hF2
   exact ⟨k_1, Nat.lt_succ_self _, j + 1, Cells1, B3, c3, (FF.cons (hf1.get 1 0 rfl) (FF.cons (hf1.get 2 1 rfl) (FF.cons (hf1.get 3 2 rfl) (FF.cons (congrArg (Value.int .i64) (wr_succ hlt1 hN)) FF.nil)))), (hS7.sel [0, 1, 2, 3] rfl rfl), (by omega), hL1⟩
 ·skip
  obtain rfl : k_ = 0 := by have h := of_decide_eq_false hlt; omega
  refine cw_exit rfl ?_
  obtain rfl := some_inj hL
  refine cw_seq (cw_region ?_)
  refine sQ 39 (Y_loadA (B := aD b2) (i := 0) (cs := [vi m.Cols, vi m.Rows, .slice B2 Cells.length c2]) (vs := [vi m.Cols, vi m.Rows, .slice B2 Cells.length c2]) k_ag_48 k_sz_48_3 rfl (hf.get 3 2 rfl) (hS5.cf (i := 2) rfl) rfl rfl) ?_
  refine s0 (Ys_store (i := 1) (s := 3) (B := aD b1) (T' := 48) (v := .agg #[vi m.Cols, vi m.Rows, .slice B2 Cells.length c2]) (vs := [vi m.Cols, vi m.Rows, .slice B2 Cells.length c2]) (k := 0) (cs' := [vi m.Cols, vi m.Rows, .slice B2 Cells.length c2]) hS5 k_sz_48_3 rfl (hf.get 2 1 rfl) rfl rfl rfl rfl rfl (lB rfl) rfl rfl) ?_
  rintro _ w_15 ⟨rfl, hS22⟩
  refine rw_nil (cw_ret ?_)
  obtain rfl := some_inj hF1
  exact ret1 Tryz.results100 (v1 := .agg #[vi m.Cols, vi m.Rows, .slice B2 Cells.length c2]) (resAt_cellA (B := aD b1) (i := 0) (cs := [vi m.Cols, vi m.Rows, .slice B2 Cells.length c2]) (vs := [vi m.Cols, vi m.Rows, .slice B2 Cells.length c2]) (hf.get 2 1 rfl) k_ag_48 k_sz_48_3 (hS22.cf (i := 1) rfl) rfl rfl) ⟨B2, c2, rfl, (hS22.sN [3])⟩

theorem c_spec_l9Bloch (m : TMatrix) (B : Option Addr) (c n : Nat) (w0 : World) (hn : m.Cells.length = n) (hS : ST w0 [] w0 [] [⟨B, (m.Cells.flatMap eN0)⟩]) {r_ : TBloch} {r_1 : Bool} (hF : F_spec_l9Bloch m = some (r_, r_1)) :
  CV Tryz.prog 56 #[.agg #[vi m.Rows, vi m.Cols, .slice B n c]] w0 (fun v w' => ∃ (B1 : Option Addr) (c1 : Nat), v = .tuple #[gB_ r_ B1 c1, .bool r_1] ∧ ST w0 [] w' [⟨B1, 65, (r_.Cells.flatMap eN0), c1 * 5⟩] []) := by
 subst hn
 unfold F_spec_l9Bloch at hF
 refine cv_of_cw 59 Tryz.func56 rfl Tryz.ntmps56 rfl ?_
 refine cw_seq (cw_region ?_)
 refine sS 1 (Ys_box (T := 48) (v := gM_ m B c) (cs := kM_ m B c) (m := 3) hS rfl rfl rfl rfl) ?_
 rintro _ w_ ⟨b, rfl, hS1⟩
 refine sS 2 (Ys_alloc (T := 30) (cs := [.slice none 0 0]) (m := 1) hS1 k_zero_30 rfl rfl rfl) ?_
 rintro _ w_1 ⟨b1, rfl, hS2⟩
 refine sQ 3 (Y_assign (v := .bool false) rfl rfl) (rw_nil (cw_seq (cw_region ?_)))
 refine sQ 10 (Y_buildS (zs := [.bool false]) (vs := []) (cs := [.bool false]) k_pl_82 k_zero_82 rfl mpn rfl) ?_
 refine sS 11 (Ys_box (T := 82) (v := .agg #[.bool false]) (cs := [.bool false]) (m := 1) hS2 rfl rfl rfl rfl) ?_
 rintro _ w_2 ⟨b2, rfl, hS3⟩
 refine sQ 4 (Y_assign (v := pt (aD b2) 0) rfl rfl) (rw_nil (cw_seq (cw_region ?_)))
 refine sS 5 (Ys_alloc (T := 30) (cs := [.slice none 0 0]) (m := 1) hS3 k_zero_30 rfl rfl rfl) ?_
 rintro _ w_3 ⟨b3, rfl, hS4⟩
 refine rw_nil (cw_seq (cw_seq (cw_region ?_)))
 refine sQ 6 (Y_assign (v := vi 0) rfl rfl) (rw_nil ?_)
 obtain ⟨z, hz, hF1⟩ := bind_inv hF
 have hS6 := hS4.addNil 65
 refine cw_block ?_
 refine cw_loop (fun k f w => ∃ (i1 : Nat) (bad : Bool) (Cells : List TDyadic) (B2 : Option Addr) (c2 : Nat), FF f [(1, pt (aD b) 0), (2, pt (aD b1) 0), (4, pt (aD b2) 0), (5, pt (aD b3) 0), (6, vi (i1 : Int))] ∧ ST w0 [] w [⟨aD b, 48, kM_ m B c, 3⟩, ⟨aD b1, 30, [.slice none 0 0], 1⟩, ⟨aD b2, 82, [.bool bad], 1⟩, ⟨aD b3, 30, [.slice B2 Cells.length c2], 1⟩, ⟨B2, 65, (Cells.flatMap eN0), c2 * 5⟩] [⟨B, (m.Cells.flatMap eN0)⟩] ∧ i1 + k = 3 ∧ forN (F_spec_l9Bloch_l1 m) k i1 (bad, Cells) = some z) 3 ⟨0, false, [], none, 0, (FF.cons rfl (FF.cons rfl (FF.cons rfl (FF.cons rfl (FF.cons rfl FF.nil))))), (hS6.sel [0, 1, 2, 3, 4] rfl rfl), Nat.zero_add _, hz⟩ ?_
 rintro k_ f w ⟨i1, bad, Cells, B2, c2, hf, hS5, hik, hL⟩
 refine cw_seq (cw_seq (cw_region ?_))
 refine sQ 12 (Y_move (v := vi (i1 : Int)) rfl (hf.get 6 4 rfl)) ?_
 refine sQ 13 (Y_lt (k := .i64) (a := (i1 : Int)) (b := 3) rfl rfl rfl) (rw_nil ?_)
 refine cw_cond (b := (decide ((i1 : Int) < 3))) rfl (fun hlt => ?_) (fun hlt => ?_)
 ·skip
  have hlt1 : i1 < 3 := by have h := of_decide_eq_true hlt; omega
  obtain ⟨k_1, rfl⟩ : ∃ k2, k_ = k2 + 1 := ⟨k_ - 1, by omega⟩
  obtain ⟨y, hb, hL1⟩ := forN_go hL
  unfold F_spec_l9Bloch_l1 at hb
  refine cw_skip (cw_seq (cw_block (cw_seq (cw_region ?_))))
  refine sQ 7 (Y_assign (v := vi 0) rfl rfl) (rw_nil ?_)
  obtain ⟨z1, hz1, hF2⟩ := bind_inv hb
  refine cw_block ?_
  refine cw_loop (fun k f w => ∃ (j : Nat) (bad1 : Bool) (Cells1 : List TDyadic) (B3 : Option Addr) (c3 : Nat), FF f [(1, pt (aD b) 0), (2, pt (aD b1) 0), (4, pt (aD b2) 0), (5, pt (aD b3) 0), (6, vi (i1 : Int)), (7, vi (j : Int))] ∧ ST w0 [] w [⟨aD b, 48, kM_ m B c, 3⟩, ⟨aD b1, 30, [.slice none 0 0], 1⟩, ⟨aD b2, 82, [.bool bad1], 1⟩, ⟨aD b3, 30, [.slice B3 Cells1.length c3], 1⟩, ⟨B3, 65, (Cells1.flatMap eN0), c3 * 5⟩] [⟨B, (m.Cells.flatMap eN0)⟩] ∧ j + k = 3 ∧ forN (F_spec_l9Bloch_l2 i1 m Cells bad) k j (bad1, Cells1) = some z1) 3 ⟨0, bad, Cells, B2, c2, (FF.cons (hf.get 1 0 rfl) (FF.cons (hf.get 2 1 rfl) (FF.cons (hf.get 4 2 rfl) (FF.cons (hf.get 5 3 rfl) (FF.cons (hf.get 6 4 rfl) (FF.cons rfl FF.nil)))))), (hS5.sel [0, 1, 2, 3, 4] rfl rfl), Nat.zero_add _, hz1⟩ ?_
  rintro k_2 f w ⟨j, bad1, Cells1, B3, c3, hf1, hS7, hik1, hL2⟩
  refine cw_seq (cw_seq (cw_region ?_))
  refine sQ 16 (Y_move (v := vi (j : Int)) rfl (hf1.get 7 5 rfl)) ?_
  refine sQ 17 (Y_lt (k := .i64) (a := (j : Int)) (b := 3) rfl rfl rfl) (rw_nil ?_)
  refine cw_cond (b := (decide ((j : Int) < 3))) rfl (fun hlt2 => ?_) (fun hlt2 => ?_)
  ·skip
   have hlt3 : j < 3 := by have h := of_decide_eq_true hlt2; omega
   obtain ⟨k_3, rfl⟩ : ∃ k2, k_2 = k2 + 1 := ⟨k_2 - 1, by omega⟩
   obtain ⟨y1, hb1, hL3⟩ := forN_go hL2
   unfold F_spec_l9Bloch_l2 at hb1
   refine cw_skip (cw_seq (cw_block (cw_seq ?_)))
   obtain ⟨r_2, hc, hb1⟩ := bind_inv hb1
   obtain ⟨⟨r_3, m1⟩, hc1, hb1⟩ := bind_inv hb1
   obtain ⟨r_4, hc2, hb1⟩ := bind_inv hb1
   obtain ⟨⟨r_5, m2⟩, hc3, hb1⟩ := bind_inv hb1
   obtain ⟨r_6, hc4, hb1⟩ := bind_inv hb1
   obtain ⟨⟨r_7, m3⟩, hc5, hb1⟩ := bind_inv hb1
   refine cw_mid (fun f w => ∃ (B10 : Option Addr) (B11 : Option Addr) (c10 : Nat), FF f [(1, pt (aD b) 0), (2, pt (aD b1) 0), (4, pt (aD b2) 0), (5, pt (aD b3) 0), (6, vi (i1 : Int)), (7, vi (j : Int)), (8, pt B10 0)] ∧ ST w0 [] w [⟨aD b, 48, kM_ m B c, 3⟩, ⟨aD b1, 30, [.slice none 0 0], 1⟩, ⟨aD b2, 82, [.bool m3.bad], 1⟩, ⟨aD b3, 30, [.slice B3 Cells1.length c3], 1⟩, ⟨B3, 65, (Cells1.flatMap eN0), c3 * 5⟩, ⟨B10, 48, kM_ r_7 B11 c10, 3⟩, ⟨B11, 65, (r_7.Cells.flatMap eN0), c10 * 5⟩] [⟨B, (m.Cells.flatMap eN0)⟩]) ?_ ?_
   ·skip
    refine ra_start (hS7.se [0, 1, 3, 4]).fn (by kernel_rfl) ?_
    have hS15 := hS7.drew
    refine rq 0 20 (v := pt (aD b2) 0) rfl (hS15.se [0, 1, 3, 4]) (fun w' hw' => (Y_move (v := pt (aD b2) 0) rfl (hf1.get 4 2 rfl))) ?_
    refine rq 1 21 (v := pt (aD b2) 0) rfl (hS15.se [0, 1, 3, 4]) (fun w' hw' => (Y_move (v := pt (aD b2) 0) rfl (hf1.get 4 2 rfl))) ?_
    refine rq 2 22 (v := pt (aD b2) 0) rfl (hS15.se [0, 1, 3, 4]) (fun w' hw' => (Y_move (v := pt (aD b2) 0) rfl (hf1.get 4 2 rfl))) ?_
    refine rq 3 23 (v := vi (i1 : Int)) rfl (hS15.se [0, 1, 3, 4]) (fun w' hw' => (Y_move (v := vi (i1 : Int)) rfl (hf1.get 6 4 rfl))) ?_
    refine rq 5 25 (v := gM_ m B c) rfl (hS15.se [0, 1, 3, 4]) (fun w' hw' => (Y_loadA (B := aD b) (i := 0) (cs := kM_ m B c) (vs := kM_ m B c) k_ag_48 k_sz_48_3 rfl (hf1.get 1 0 rfl) (ST.cf hw' (i := 0) rfl) rfl rfl)) ?_
    refine rq 7 27 (v := vi (j : Int)) rfl (hS15.se [0, 1, 3, 4]) (fun w' hw' => (Y_move (v := vi (j : Int)) rfl (hf1.get 7 5 rfl))) ?_
    refine rq 10 30 (v := gM_ m B c) rfl (hS15.se [0, 1, 3, 4]) (fun w' hw' => (Y_loadA (B := aD b) (i := 0) (cs := kM_ m B c) (vs := kM_ m B c) k_ag_48 k_sz_48_3 rfl (hf1.get 1 0 rfl) (ST.cf hw' (i := 0) rfl) rfl rfl)) ?_
    refine rA [4, 13] ?_
    refine ra_c 24 (i := 4) rfl rfl rfl (Yc_func (g := 99) (vs := [vi (i1 : Int)]) k_call_99 rfl (mc rfl mn) (c_spec_l9Pauli (i1 : Int) _  (hS15.inn0 [] rfl) hc)) ?_ ?_
    ·rintro _ w_4 ⟨B4, c4, rfl, hd⟩
     have hS16 := hS15.out0 hd
     refine ⟨(hS16.se [0, 1, 3, 4]), ?_⟩
     refine rA [6, 13] ?_
     refine ra_c 26 (i := 6) rfl rfl rfl (Yc_func (g := 98) (vs := [pt (aD b2) 0, gM_ r_2 B4 c4, gM_ m B c]) k_call_98 rfl (mc rfl (mc rfl (mc rfl mn))) (c_spec_l2C_times (Tl2C.mk bad1) r_2 m (aD b2) B4 c4 r_2.Cells.length B c m.Cells.length _ rfl rfl (hS16.inn [false, false, true, false, false, false] rfl [(false, 4), (true, 0)] rfl) hc1)) ?_ ?_
     ·rintro _ w_5 ⟨B5, c5, rfl, hd1⟩
      have hS17 := hS16.out [false, false, true, false, false, false] rfl hd1
      refine ⟨(hS17.se [0, 1, 2, 3]), ?_⟩
      refine rA [8, 13] ?_
      refine ra_c 28 (i := 8) rfl rfl rfl (Yc_func (g := 99) (vs := [vi (j : Int)]) k_call_99 rfl (mc rfl mn) (c_spec_l9Pauli (j : Int) _  (hS17.inn0 [] rfl) hc2)) ?_ ?_
      ·rintro _ w_6 ⟨B6, c6, rfl, hd2⟩
       have hS18 := hS17.out0 hd2
       refine ⟨(hS18.se [0, 1, 2, 3]), ?_⟩
       refine rA [9, 13] ?_
       refine ra_c 29 (i := 9) rfl rfl rfl (Yc_func (g := 98) (vs := [pt (aD b2) 0, gM_ r_3 B5 c5, gM_ r_4 B6 c6]) k_call_98 rfl (mc rfl (mc rfl (mc rfl mn))) (c_spec_l2C_times m1 r_3 r_4 (aD b2) B5 c5 r_3.Cells.length B6 c6 r_4.Cells.length _ rfl rfl (hS18.inn [false, false, false, false, false, true, false, false] rfl [(false, 5), (false, 6)] rfl) hc3)) ?_ ?_
       ·rintro _ w_7 ⟨B7, c7, rfl, hd3⟩
        have hS19 := hS18.out [false, false, false, false, false, true, false, false] rfl hd3
        refine ⟨(hS19.se [0, 1, 2, 3]), ?_⟩
        refine rA [11, 13] ?_
        refine ra_c 31 (i := 11) rfl rfl rfl (Yc_func (g := 100) (vs := [gM_ m B c]) k_call_100 rfl (mc rfl mn) (c_spec_l3Adj m B c m.Cells.length _ rfl (hS19.inn0 [(true, 0)] rfl) hc4)) ?_ ?_
        ·rintro _ w_8 ⟨B8, c8, rfl, hd4⟩
         have hS20 := hS19.out0 hd4
         have hS20 : ST w0 [] _ [⟨aD b, 48, kM_ m B c, 3⟩, ⟨aD b1, 30, [.slice none 0 0], 1⟩, ⟨aD b3, 30, [.slice B3 Cells1.length c3], 1⟩, ⟨B3, 65, (Cells1.flatMap eN0), c3 * 5⟩, ⟨B4, 65, (r_2.Cells.flatMap eN0), c4 * 5⟩, ⟨B5, 65, (r_3.Cells.flatMap eN0), c5 * 5⟩, ⟨B6, 65, (r_4.Cells.flatMap eN0), c6 * 5⟩, ⟨aD b2, 82, [.bool m2.bad], 1⟩, ⟨B7, 65, (r_5.Cells.flatMap eN0), c7 * 5⟩, ⟨B8, 65, (r_6.Cells.flatMap eN0), c8 * 5⟩] [⟨B, (m.Cells.flatMap eN0)⟩] := hS20
         refine ⟨(hS20.se [0, 1, 2, 3]), ?_⟩
         refine rA [12, 13] ?_
         refine ra_c 32 (i := 12) rfl rfl rfl (Yc_func (g := 98) (vs := [pt (aD b2) 0, gM_ r_5 B7 c7, gM_ r_6 B8 c8]) k_call_98 rfl (mc rfl (mc rfl (mc rfl mn))) (c_spec_l2C_times m2 r_5 r_6 (aD b2) B7 c7 r_5.Cells.length B8 c8 r_6.Cells.length _ rfl rfl (hS20.inn [false, false, false, false, false, false, false, true, false, false] rfl [(false, 7), (false, 8)] rfl) hc5)) ?_ ?_
         ·rintro _ w_9 ⟨B9, c9, rfl, hd5⟩
          have hS21 := hS20.out [false, false, false, false, false, false, false, true, false, false] rfl hd5
          refine ⟨(hS21.se [0, 1, 2, 3]), ?_⟩
          refine rA [13] ?_
          refine ra_s 8 (i := 13) rfl rfl rfl (Ys_alloc (T := 48) (cs := kN_) (m := 3) hS21 k_zero_48 rfl rfl rfl) ?_ ?_
          ·rintro _ w_10 ⟨b4, rfl, hS22⟩
           refine ⟨(hS22.se [0, 1, 2, 3]), ?_⟩
           refine rA [14] ?_
           refine ra_s0 (i := 14) rfl rfl rfl (Ys_store (i := 11) (s := 3) (B := aD b4) (T' := 48) (v := gM_ r_7 B9 c9) (vs := kM_ r_7 B9 c9) (k := 0) (cs' := kM_ r_7 B9 c9) hS22 k_sz_48_3 rfl rfl rfl rfl rfl rfl rfl (lB rfl) rfl rfl) ?_ ?_
           ·rintro _ w_11 ⟨rfl, hS23⟩
            refine ⟨(hS23.se [0, 1, 2, 3]), ?_⟩
            refine ra_done (by kernel_rfl) ?_
            exact ⟨aD b4, B9, c9, (FF.cons (hf1.get 1 0 rfl) (FF.cons (hf1.get 2 1 rfl) (FF.cons (hf1.get 4 2 rfl) (FF.cons (hf1.get 5 3 rfl) (FF.cons (hf1.get 6 4 rfl) (FF.cons (hf1.get 7 5 rfl) (FF.cons rfl FF.nil))))))), (hS23.sel [0, 1, 9, 2, 3, 11, 10] rfl rfl)⟩
           exact allR_nil
          exact allR_nil
         refine ra_s 8 (i := 13) rfl rfl rfl (Ys_alloc (T := 48) (cs := kN_) (m := 3) hS20 k_zero_48 rfl rfl rfl) ?_ ?_
         ·rintro _ w_12 ⟨b4, rfl, hS24⟩
          refine ⟨(hS24.se [0, 1, 2, 3]), ?_⟩
          refine rA [12] ?_
          refine ra_c 32 (i := 12) rfl rfl rfl (Yc_func (g := 98) (vs := [pt (aD b2) 0, gM_ r_5 B7 c7, gM_ r_6 B8 c8]) k_call_98 rfl (mc rfl (mc rfl (mc rfl mn))) (c_spec_l2C_times m2 r_5 r_6 (aD b2) B7 c7 r_5.Cells.length B8 c8 r_6.Cells.length _ rfl rfl (hS24.inn [false, false, false, false, false, false, false, true, false, false, false] rfl [(false, 7), (false, 8)] rfl) hc5)) ?_ ?_
          ·rintro _ w_13 ⟨B9, c9, rfl, hd6⟩
           have hS25 := hS24.out [false, false, false, false, false, false, false, true, false, false, false] rfl hd6
           refine ⟨(hS25.se [0, 1, 2, 3]), ?_⟩
           refine rA [14] ?_
           refine ra_s0 (i := 14) rfl rfl rfl (Ys_store (i := 9) (s := 3) (B := aD b4) (T' := 48) (v := gM_ r_7 B9 c9) (vs := kM_ r_7 B9 c9) (k := 0) (cs' := kM_ r_7 B9 c9) hS25 k_sz_48_3 rfl rfl rfl rfl rfl rfl rfl (lB rfl) rfl rfl) ?_ ?_
           ·rintro _ w_14 ⟨rfl, hS26⟩
            refine ⟨(hS26.se [0, 1, 2, 3]), ?_⟩
            refine ra_done (by kernel_rfl) ?_
            exact ⟨aD b4, B9, c9, (FF.cons (hf1.get 1 0 rfl) (FF.cons (hf1.get 2 1 rfl) (FF.cons (hf1.get 4 2 rfl) (FF.cons (hf1.get 5 3 rfl) (FF.cons (hf1.get 6 4 rfl) (FF.cons (hf1.get 7 5 rfl) (FF.cons rfl FF.nil))))))), (hS26.sel [0, 1, 10, 2, 3, 9, 11] rfl rfl)⟩
           exact allR_nil
          exact allR_nil
         exact allR_nil
        refine ra_s 8 (i := 13) rfl rfl rfl (Ys_alloc (T := 48) (cs := kN_) (m := 3) hS19 k_zero_48 rfl rfl rfl) ?_ ?_
        ·rintro _ w_15 ⟨b4, rfl, hS27⟩
         refine ⟨(hS27.se [0, 1, 2, 3]), ?_⟩
         refine rA [11] ?_
         refine ra_c 31 (i := 11) rfl rfl rfl (Yc_func (g := 100) (vs := [gM_ m B c]) k_call_100 rfl (mc rfl mn) (c_spec_l3Adj m B c m.Cells.length _ rfl (hS27.inn0 [(true, 0)] rfl) hc4)) ?_ ?_
         ·rintro _ w_16 ⟨B8, c8, rfl, hd7⟩
          have hS28 := hS27.out0 hd7
          have hS28 : ST w0 [] _ [⟨aD b, 48, kM_ m B c, 3⟩, ⟨aD b1, 30, [.slice none 0 0], 1⟩, ⟨aD b3, 30, [.slice B3 Cells1.length c3], 1⟩, ⟨B3, 65, (Cells1.flatMap eN0), c3 * 5⟩, ⟨B4, 65, (r_2.Cells.flatMap eN0), c4 * 5⟩, ⟨B5, 65, (r_3.Cells.flatMap eN0), c5 * 5⟩, ⟨B6, 65, (r_4.Cells.flatMap eN0), c6 * 5⟩, ⟨aD b2, 82, [.bool m2.bad], 1⟩, ⟨B7, 65, (r_5.Cells.flatMap eN0), c7 * 5⟩, ⟨aD b4, 48, kN_, 3⟩, ⟨B8, 65, (r_6.Cells.flatMap eN0), c8 * 5⟩] [⟨B, (m.Cells.flatMap eN0)⟩] := hS28
          refine ⟨(hS28.se [0, 1, 2, 3]), ?_⟩
          refine rA [12] ?_
          refine ra_c 32 (i := 12) rfl rfl rfl (Yc_func (g := 98) (vs := [pt (aD b2) 0, gM_ r_5 B7 c7, gM_ r_6 B8 c8]) k_call_98 rfl (mc rfl (mc rfl (mc rfl mn))) (c_spec_l2C_times m2 r_5 r_6 (aD b2) B7 c7 r_5.Cells.length B8 c8 r_6.Cells.length _ rfl rfl (hS28.inn [false, false, false, false, false, false, false, true, false, false, false] rfl [(false, 7), (false, 9)] rfl) hc5)) ?_ ?_
          ·rintro _ w_17 ⟨B9, c9, rfl, hd8⟩
           have hS29 := hS28.out [false, false, false, false, false, false, false, true, false, false, false] rfl hd8
           refine ⟨(hS29.se [0, 1, 2, 3]), ?_⟩
           refine rA [14] ?_
           refine ra_s0 (i := 14) rfl rfl rfl (Ys_store (i := 8) (s := 3) (B := aD b4) (T' := 48) (v := gM_ r_7 B9 c9) (vs := kM_ r_7 B9 c9) (k := 0) (cs' := kM_ r_7 B9 c9) hS29 k_sz_48_3 rfl rfl rfl rfl rfl rfl rfl (lB rfl) rfl rfl) ?_ ?_
           ·rintro _ w_18 ⟨rfl, hS30⟩
            refine ⟨(hS30.se [0, 1, 2, 3]), ?_⟩
            refine ra_done (by kernel_rfl) ?_
            exact ⟨aD b4, B9, c9, (FF.cons (hf1.get 1 0 rfl) (FF.cons (hf1.get 2 1 rfl) (FF.cons (hf1.get 4 2 rfl) (FF.cons (hf1.get 5 3 rfl) (FF.cons (hf1.get 6 4 rfl) (FF.cons (hf1.get 7 5 rfl) (FF.cons rfl FF.nil))))))), (hS30.sel [0, 1, 10, 2, 3, 8, 11] rfl rfl)⟩
           exact allR_nil
          exact allR_nil
         exact allR_nil
        exact allR_nil
       refine ra_s 8 (i := 13) rfl rfl rfl (Ys_alloc (T := 48) (cs := kN_) (m := 3) hS18 k_zero_48 rfl rfl rfl) ?_ ?_
       ·rintro _ w_19 ⟨b4, rfl, hS31⟩
        refine ⟨(hS31.se [0, 1, 2, 3]), ?_⟩
        refine rA [9] ?_
        refine ra_c 29 (i := 9) rfl rfl rfl (Yc_func (g := 98) (vs := [pt (aD b2) 0, gM_ r_3 B5 c5, gM_ r_4 B6 c6]) k_call_98 rfl (mc rfl (mc rfl (mc rfl mn))) (c_spec_l2C_times m1 r_3 r_4 (aD b2) B5 c5 r_3.Cells.length B6 c6 r_4.Cells.length _ rfl rfl (hS31.inn [false, false, false, false, false, true, false, false, false] rfl [(false, 5), (false, 6)] rfl) hc3)) ?_ ?_
        ·rintro _ w_20 ⟨B7, c7, rfl, hd9⟩
         have hS32 := hS31.out [false, false, false, false, false, true, false, false, false] rfl hd9
         refine ⟨(hS32.se [0, 1, 2, 3]), ?_⟩
         refine rA [11] ?_
         refine ra_c 31 (i := 11) rfl rfl rfl (Yc_func (g := 100) (vs := [gM_ m B c]) k_call_100 rfl (mc rfl mn) (c_spec_l3Adj m B c m.Cells.length _ rfl (hS32.inn0 [(true, 0)] rfl) hc4)) ?_ ?_
         ·rintro _ w_21 ⟨B8, c8, rfl, hd10⟩
          have hS33 := hS32.out0 hd10
          refine ⟨(hS33.se [0, 1, 2, 3]), ?_⟩
          refine rA [12] ?_
          refine ra_c 32 (i := 12) rfl rfl rfl (Yc_func (g := 98) (vs := [pt (aD b2) 0, gM_ r_5 B7 c7, gM_ r_6 B8 c8]) k_call_98 rfl (mc rfl (mc rfl (mc rfl mn))) (c_spec_l2C_times m2 r_5 r_6 (aD b2) B7 c7 r_5.Cells.length B8 c8 r_6.Cells.length _ rfl rfl (hS33.inn [false, false, false, false, false, false, false, false, true, false, false] rfl [(false, 8), (false, 9)] rfl) hc5)) ?_ ?_
          ·rintro _ w_22 ⟨B9, c9, rfl, hd11⟩
           have hS34 := hS33.out [false, false, false, false, false, false, false, false, true, false, false] rfl hd11
           refine ⟨(hS34.se [0, 1, 2, 3]), ?_⟩
           refine rA [14] ?_
           refine ra_s0 (i := 14) rfl rfl rfl (Ys_store (i := 7) (s := 3) (B := aD b4) (T' := 48) (v := gM_ r_7 B9 c9) (vs := kM_ r_7 B9 c9) (k := 0) (cs' := kM_ r_7 B9 c9) hS34 k_sz_48_3 rfl rfl rfl rfl rfl rfl rfl (lB rfl) rfl rfl) ?_ ?_
           ·rintro _ w_23 ⟨rfl, hS35⟩
            refine ⟨(hS35.se [0, 1, 2, 3]), ?_⟩
            refine ra_done (by kernel_rfl) ?_
            exact ⟨aD b4, B9, c9, (FF.cons (hf1.get 1 0 rfl) (FF.cons (hf1.get 2 1 rfl) (FF.cons (hf1.get 4 2 rfl) (FF.cons (hf1.get 5 3 rfl) (FF.cons (hf1.get 6 4 rfl) (FF.cons (hf1.get 7 5 rfl) (FF.cons rfl FF.nil))))))), (hS35.sel [0, 1, 10, 2, 3, 7, 11] rfl rfl)⟩
           exact allR_nil
          exact allR_nil
         exact allR_nil
        exact allR_nil
       exact allR_nil
      refine ra_s 8 (i := 13) rfl rfl rfl (Ys_alloc (T := 48) (cs := kN_) (m := 3) hS17 k_zero_48 rfl rfl rfl) ?_ ?_
      ·rintro _ w_24 ⟨b4, rfl, hS36⟩
       have hS36 : ST w0 [] _ [⟨aD b, 48, kM_ m B c, 3⟩, ⟨aD b1, 30, [.slice none 0 0], 1⟩, ⟨aD b3, 30, [.slice B3 Cells1.length c3], 1⟩, ⟨B3, 65, (Cells1.flatMap eN0), c3 * 5⟩, ⟨B4, 65, (r_2.Cells.flatMap eN0), c4 * 5⟩, ⟨aD b2, 82, [.bool m1.bad], 1⟩, ⟨B5, 65, (r_3.Cells.flatMap eN0), c5 * 5⟩, ⟨aD b4, 48, kN_, 3⟩] [⟨B, (m.Cells.flatMap eN0)⟩] := hS36
       refine ⟨(hS36.se [0, 1, 2, 3]), ?_⟩
       refine rA [8] ?_
       refine ra_c 28 (i := 8) rfl rfl rfl (Yc_func (g := 99) (vs := [vi (j : Int)]) k_call_99 rfl (mc rfl mn) (c_spec_l9Pauli (j : Int) _  (hS36.inn0 [] rfl) hc2)) ?_ ?_
       ·rintro _ w_25 ⟨B6, c6, rfl, hd12⟩
        have hS37 := hS36.out0 hd12
        refine ⟨(hS37.se [0, 1, 2, 3]), ?_⟩
        refine rA [9] ?_
        refine ra_c 29 (i := 9) rfl rfl rfl (Yc_func (g := 98) (vs := [pt (aD b2) 0, gM_ r_3 B5 c5, gM_ r_4 B6 c6]) k_call_98 rfl (mc rfl (mc rfl (mc rfl mn))) (c_spec_l2C_times m1 r_3 r_4 (aD b2) B5 c5 r_3.Cells.length B6 c6 r_4.Cells.length _ rfl rfl (hS37.inn [false, false, false, false, false, true, false, false, false] rfl [(false, 5), (false, 7)] rfl) hc3)) ?_ ?_
        ·rintro _ w_26 ⟨B7, c7, rfl, hd13⟩
         have hS38 := hS37.out [false, false, false, false, false, true, false, false, false] rfl hd13
         refine ⟨(hS38.se [0, 1, 2, 3]), ?_⟩
         refine rA [11] ?_
         refine ra_c 31 (i := 11) rfl rfl rfl (Yc_func (g := 100) (vs := [gM_ m B c]) k_call_100 rfl (mc rfl mn) (c_spec_l3Adj m B c m.Cells.length _ rfl (hS38.inn0 [(true, 0)] rfl) hc4)) ?_ ?_
         ·rintro _ w_27 ⟨B8, c8, rfl, hd14⟩
          have hS39 := hS38.out0 hd14
          refine ⟨(hS39.se [0, 1, 2, 3]), ?_⟩
          refine rA [12] ?_
          refine ra_c 32 (i := 12) rfl rfl rfl (Yc_func (g := 98) (vs := [pt (aD b2) 0, gM_ r_5 B7 c7, gM_ r_6 B8 c8]) k_call_98 rfl (mc rfl (mc rfl (mc rfl mn))) (c_spec_l2C_times m2 r_5 r_6 (aD b2) B7 c7 r_5.Cells.length B8 c8 r_6.Cells.length _ rfl rfl (hS39.inn [false, false, false, false, false, false, false, false, true, false, false] rfl [(false, 8), (false, 9)] rfl) hc5)) ?_ ?_
          ·rintro _ w_28 ⟨B9, c9, rfl, hd15⟩
           have hS40 := hS39.out [false, false, false, false, false, false, false, false, true, false, false] rfl hd15
           refine ⟨(hS40.se [0, 1, 2, 3]), ?_⟩
           refine rA [14] ?_
           refine ra_s0 (i := 14) rfl rfl rfl (Ys_store (i := 6) (s := 3) (B := aD b4) (T' := 48) (v := gM_ r_7 B9 c9) (vs := kM_ r_7 B9 c9) (k := 0) (cs' := kM_ r_7 B9 c9) hS40 k_sz_48_3 rfl rfl rfl rfl rfl rfl rfl (lB rfl) rfl rfl) ?_ ?_
           ·rintro _ w_29 ⟨rfl, hS41⟩
            refine ⟨(hS41.se [0, 1, 2, 3]), ?_⟩
            refine ra_done (by kernel_rfl) ?_
            exact ⟨aD b4, B9, c9, (FF.cons (hf1.get 1 0 rfl) (FF.cons (hf1.get 2 1 rfl) (FF.cons (hf1.get 4 2 rfl) (FF.cons (hf1.get 5 3 rfl) (FF.cons (hf1.get 6 4 rfl) (FF.cons (hf1.get 7 5 rfl) (FF.cons rfl FF.nil))))))), (hS41.sel [0, 1, 10, 2, 3, 6, 11] rfl rfl)⟩
           exact allR_nil
          exact allR_nil
         exact allR_nil
        exact allR_nil
       exact allR_nil
      exact allR_nil
     refine ra_s 8 (i := 13) rfl rfl rfl (Ys_alloc (T := 48) (cs := kN_) (m := 3) hS16 k_zero_48 rfl rfl rfl) ?_ ?_
     ·rintro _ w_30 ⟨b4, rfl, hS42⟩
      refine ⟨(hS42.se [0, 1, 3, 4]), ?_⟩
      refine rA [6] ?_
      refine ra_c 26 (i := 6) rfl rfl rfl (Yc_func (g := 98) (vs := [pt (aD b2) 0, gM_ r_2 B4 c4, gM_ m B c]) k_call_98 rfl (mc rfl (mc rfl (mc rfl mn))) (c_spec_l2C_times (Tl2C.mk bad1) r_2 m (aD b2) B4 c4 r_2.Cells.length B c m.Cells.length _ rfl rfl (hS42.inn [false, false, true, false, false, false, false] rfl [(false, 4), (true, 0)] rfl) hc1)) ?_ ?_
      ·rintro _ w_31 ⟨B5, c5, rfl, hd16⟩
       have hS43 := hS42.out [false, false, true, false, false, false, false] rfl hd16
       refine ⟨(hS43.se [0, 1, 2, 3]), ?_⟩
       refine rA [8] ?_
       refine ra_c 28 (i := 8) rfl rfl rfl (Yc_func (g := 99) (vs := [vi (j : Int)]) k_call_99 rfl (mc rfl mn) (c_spec_l9Pauli (j : Int) _  (hS43.inn0 [] rfl) hc2)) ?_ ?_
       ·rintro _ w_32 ⟨B6, c6, rfl, hd17⟩
        have hS44 := hS43.out0 hd17
        have hS44 : ST w0 [] _ [⟨aD b, 48, kM_ m B c, 3⟩, ⟨aD b1, 30, [.slice none 0 0], 1⟩, ⟨aD b3, 30, [.slice B3 Cells1.length c3], 1⟩, ⟨B3, 65, (Cells1.flatMap eN0), c3 * 5⟩, ⟨B4, 65, (r_2.Cells.flatMap eN0), c4 * 5⟩, ⟨aD b4, 48, kN_, 3⟩, ⟨aD b2, 82, [.bool m1.bad], 1⟩, ⟨B5, 65, (r_3.Cells.flatMap eN0), c5 * 5⟩, ⟨B6, 65, (r_4.Cells.flatMap eN0), c6 * 5⟩] [⟨B, (m.Cells.flatMap eN0)⟩] := hS44
        refine ⟨(hS44.se [0, 1, 2, 3]), ?_⟩
        refine rA [9] ?_
        refine ra_c 29 (i := 9) rfl rfl rfl (Yc_func (g := 98) (vs := [pt (aD b2) 0, gM_ r_3 B5 c5, gM_ r_4 B6 c6]) k_call_98 rfl (mc rfl (mc rfl (mc rfl mn))) (c_spec_l2C_times m1 r_3 r_4 (aD b2) B5 c5 r_3.Cells.length B6 c6 r_4.Cells.length _ rfl rfl (hS44.inn [false, false, false, false, false, false, true, false, false] rfl [(false, 6), (false, 7)] rfl) hc3)) ?_ ?_
        ·rintro _ w_33 ⟨B7, c7, rfl, hd18⟩
         have hS45 := hS44.out [false, false, false, false, false, false, true, false, false] rfl hd18
         refine ⟨(hS45.se [0, 1, 2, 3]), ?_⟩
         refine rA [11] ?_
         refine ra_c 31 (i := 11) rfl rfl rfl (Yc_func (g := 100) (vs := [gM_ m B c]) k_call_100 rfl (mc rfl mn) (c_spec_l3Adj m B c m.Cells.length _ rfl (hS45.inn0 [(true, 0)] rfl) hc4)) ?_ ?_
         ·rintro _ w_34 ⟨B8, c8, rfl, hd19⟩
          have hS46 := hS45.out0 hd19
          refine ⟨(hS46.se [0, 1, 2, 3]), ?_⟩
          refine rA [12] ?_
          refine ra_c 32 (i := 12) rfl rfl rfl (Yc_func (g := 98) (vs := [pt (aD b2) 0, gM_ r_5 B7 c7, gM_ r_6 B8 c8]) k_call_98 rfl (mc rfl (mc rfl (mc rfl mn))) (c_spec_l2C_times m2 r_5 r_6 (aD b2) B7 c7 r_5.Cells.length B8 c8 r_6.Cells.length _ rfl rfl (hS46.inn [false, false, false, false, false, false, false, false, true, false, false] rfl [(false, 8), (false, 9)] rfl) hc5)) ?_ ?_
          ·rintro _ w_35 ⟨B9, c9, rfl, hd20⟩
           have hS47 := hS46.out [false, false, false, false, false, false, false, false, true, false, false] rfl hd20
           refine ⟨(hS47.se [0, 1, 2, 3]), ?_⟩
           refine rA [14] ?_
           refine ra_s0 (i := 14) rfl rfl rfl (Ys_store (i := 5) (s := 3) (B := aD b4) (T' := 48) (v := gM_ r_7 B9 c9) (vs := kM_ r_7 B9 c9) (k := 0) (cs' := kM_ r_7 B9 c9) hS47 k_sz_48_3 rfl rfl rfl rfl rfl rfl rfl (lB rfl) rfl rfl) ?_ ?_
           ·rintro _ w_36 ⟨rfl, hS48⟩
            refine ⟨(hS48.se [0, 1, 2, 3]), ?_⟩
            refine ra_done (by kernel_rfl) ?_
            exact ⟨aD b4, B9, c9, (FF.cons (hf1.get 1 0 rfl) (FF.cons (hf1.get 2 1 rfl) (FF.cons (hf1.get 4 2 rfl) (FF.cons (hf1.get 5 3 rfl) (FF.cons (hf1.get 6 4 rfl) (FF.cons (hf1.get 7 5 rfl) (FF.cons rfl FF.nil))))))), (hS48.sel [0, 1, 10, 2, 3, 5, 11] rfl rfl)⟩
           exact allR_nil
          exact allR_nil
         exact allR_nil
        exact allR_nil
       exact allR_nil
      exact allR_nil
     exact allR_nil
    refine ra_s 8 (i := 13) rfl rfl rfl (Ys_alloc (T := 48) (cs := kN_) (m := 3) hS15 k_zero_48 rfl rfl rfl) ?_ ?_
    ·rintro _ w_37 ⟨b4, rfl, hS49⟩
     refine ⟨(hS49.se [0, 1, 3, 4]), ?_⟩
     refine rA [4] ?_
     refine ra_c 24 (i := 4) rfl rfl rfl (Yc_func (g := 99) (vs := [vi (i1 : Int)]) k_call_99 rfl (mc rfl mn) (c_spec_l9Pauli (i1 : Int) _  (hS49.inn0 [] rfl) hc)) ?_ ?_
     ·rintro _ w_38 ⟨B4, c4, rfl, hd21⟩
      have hS50 := hS49.out0 hd21
      refine ⟨(hS50.se [0, 1, 3, 4]), ?_⟩
      refine rA [6] ?_
      refine ra_c 26 (i := 6) rfl rfl rfl (Yc_func (g := 98) (vs := [pt (aD b2) 0, gM_ r_2 B4 c4, gM_ m B c]) k_call_98 rfl (mc rfl (mc rfl (mc rfl mn))) (c_spec_l2C_times (Tl2C.mk bad1) r_2 m (aD b2) B4 c4 r_2.Cells.length B c m.Cells.length _ rfl rfl (hS50.inn [false, false, true, false, false, false, false] rfl [(false, 5), (true, 0)] rfl) hc1)) ?_ ?_
      ·rintro _ w_39 ⟨B5, c5, rfl, hd22⟩
       have hS51 := hS50.out [false, false, true, false, false, false, false] rfl hd22
       refine ⟨(hS51.se [0, 1, 2, 3]), ?_⟩
       refine rA [8] ?_
       refine ra_c 28 (i := 8) rfl rfl rfl (Yc_func (g := 99) (vs := [vi (j : Int)]) k_call_99 rfl (mc rfl mn) (c_spec_l9Pauli (j : Int) _  (hS51.inn0 [] rfl) hc2)) ?_ ?_
       ·rintro _ w_40 ⟨B6, c6, rfl, hd23⟩
        have hS52 := hS51.out0 hd23
        have hS52 : ST w0 [] _ [⟨aD b, 48, kM_ m B c, 3⟩, ⟨aD b1, 30, [.slice none 0 0], 1⟩, ⟨aD b3, 30, [.slice B3 Cells1.length c3], 1⟩, ⟨B3, 65, (Cells1.flatMap eN0), c3 * 5⟩, ⟨aD b4, 48, kN_, 3⟩, ⟨B4, 65, (r_2.Cells.flatMap eN0), c4 * 5⟩, ⟨aD b2, 82, [.bool m1.bad], 1⟩, ⟨B5, 65, (r_3.Cells.flatMap eN0), c5 * 5⟩, ⟨B6, 65, (r_4.Cells.flatMap eN0), c6 * 5⟩] [⟨B, (m.Cells.flatMap eN0)⟩] := hS52
        refine ⟨(hS52.se [0, 1, 2, 3]), ?_⟩
        refine rA [9] ?_
        refine ra_c 29 (i := 9) rfl rfl rfl (Yc_func (g := 98) (vs := [pt (aD b2) 0, gM_ r_3 B5 c5, gM_ r_4 B6 c6]) k_call_98 rfl (mc rfl (mc rfl (mc rfl mn))) (c_spec_l2C_times m1 r_3 r_4 (aD b2) B5 c5 r_3.Cells.length B6 c6 r_4.Cells.length _ rfl rfl (hS52.inn [false, false, false, false, false, false, true, false, false] rfl [(false, 6), (false, 7)] rfl) hc3)) ?_ ?_
        ·rintro _ w_41 ⟨B7, c7, rfl, hd24⟩
         have hS53 := hS52.out [false, false, false, false, false, false, true, false, false] rfl hd24
         refine ⟨(hS53.se [0, 1, 2, 3]), ?_⟩
         refine rA [11] ?_
         refine ra_c 31 (i := 11) rfl rfl rfl (Yc_func (g := 100) (vs := [gM_ m B c]) k_call_100 rfl (mc rfl mn) (c_spec_l3Adj m B c m.Cells.length _ rfl (hS53.inn0 [(true, 0)] rfl) hc4)) ?_ ?_
         ·rintro _ w_42 ⟨B8, c8, rfl, hd25⟩
          have hS54 := hS53.out0 hd25
          refine ⟨(hS54.se [0, 1, 2, 3]), ?_⟩
          refine rA [12] ?_
          refine ra_c 32 (i := 12) rfl rfl rfl (Yc_func (g := 98) (vs := [pt (aD b2) 0, gM_ r_5 B7 c7, gM_ r_6 B8 c8]) k_call_98 rfl (mc rfl (mc rfl (mc rfl mn))) (c_spec_l2C_times m2 r_5 r_6 (aD b2) B7 c7 r_5.Cells.length B8 c8 r_6.Cells.length _ rfl rfl (hS54.inn [false, false, false, false, false, false, false, false, true, false, false] rfl [(false, 8), (false, 9)] rfl) hc5)) ?_ ?_
          ·rintro _ w_43 ⟨B9, c9, rfl, hd26⟩
           have hS55 := hS54.out [false, false, false, false, false, false, false, false, true, false, false] rfl hd26
           refine ⟨(hS55.se [0, 1, 2, 3]), ?_⟩
           refine rA [14] ?_
           refine ra_s0 (i := 14) rfl rfl rfl (Ys_store (i := 4) (s := 3) (B := aD b4) (T' := 48) (v := gM_ r_7 B9 c9) (vs := kM_ r_7 B9 c9) (k := 0) (cs' := kM_ r_7 B9 c9) hS55 k_sz_48_3 rfl rfl rfl rfl rfl rfl rfl (lB rfl) rfl rfl) ?_ ?_
           ·rintro _ w_44 ⟨rfl, hS56⟩
            refine ⟨(hS56.se [0, 1, 2, 3]), ?_⟩
            refine ra_done (by kernel_rfl) ?_
            exact ⟨aD b4, B9, c9, (FF.cons (hf1.get 1 0 rfl) (FF.cons (hf1.get 2 1 rfl) (FF.cons (hf1.get 4 2 rfl) (FF.cons (hf1.get 5 3 rfl) (FF.cons (hf1.get 6 4 rfl) (FF.cons (hf1.get 7 5 rfl) (FF.cons rfl FF.nil))))))), (hS56.sel [0, 1, 10, 2, 3, 4, 11] rfl rfl)⟩
           exact allR_nil
          exact allR_nil
         exact allR_nil
        exact allR_nil
       exact allR_nil
      exact allR_nil
     exact allR_nil
    exact allR_nil
   rintro f w ⟨B10, B11, c10, hf2, hS14⟩
   refine cw_seq ?_
   obtain ⟨x, hx, hb1⟩ := bind_inv hb1
   obtain ⟨x1, hx1, hb1⟩ := bind_inv hb1
   obtain ⟨⟨r_8, m4⟩, hc6, hb1⟩ := bind_inv hb1
   refine cw_mid (fun f w => ∃ (B12 : Option Addr), FF f [(1, pt (aD b) 0), (2, pt (aD b1) 0), (4, pt (aD b2) 0), (5, pt (aD b3) 0), (6, vi (i1 : Int)), (7, vi (j : Int)), (9, pt B12 0)] ∧ ST w0 [] w [⟨aD b, 48, kM_ m B c, 3⟩, ⟨aD b1, 30, [.slice none 0 0], 1⟩, ⟨aD b2, 82, [.bool m4.bad], 1⟩, ⟨aD b3, 30, [.slice B3 Cells1.length c3], 1⟩, ⟨B3, 65, (Cells1.flatMap eN0), c3 * 5⟩, ⟨B12, 65, kD_ r_8, 5⟩] [⟨B, (m.Cells.flatMap eN0)⟩]) ?_ ?_
   ·skip
    refine ra_start (hS14.se [0, 1, 3, 4, 5, 6]).fn (by kernel_rfl) ?_
    have hS59 := hS14.drew
    refine rq 0 33 (v := pt (aD b2) 0) rfl (hS59.se [0, 1, 3, 4, 5, 6]) (fun w' hw' => (Y_move (v := pt (aD b2) 0) rfl (hf2.get 4 2 rfl))) ?_
    refine rq 1 34 (v := pt B10 2) rfl (hS59.se [0, 1, 3, 4, 5, 6]) (fun w' hw' => (Y_fieldAddr (B := B10) (i := 0) (s := 0) k_fd_48_2_2_28 k_sz_28_1 rfl (hf2.get 8 6 rfl))) ?_
    refine rq 2 35 (v := .slice B11 r_7.Cells.length c10) rfl (hS59.se [0, 1, 3, 4, 5, 6]) (fun w' hw' => (Y_load1 (B := B10) (i := 2) (cs := kM_ r_7 B11 c10) (v := .slice B11 r_7.Cells.length c10) k_sc_28 rfl rfl (ST.cf hw' (i := 4) rfl) rfl)) ?_
    refine rq 3 36 (v := pt B11 ((0 : Int).toNat * 5)) rfl (hS59.se [0, 1, 3, 4, 5, 6]) (fun w' hw' => (Y_index (B := B11) (m := r_7.Cells.length) (c := c10) (k := .i64) (i := 0) k_sl_28_65 k_sz_65_5 rfl rfl rfl (gi_isSome eN2 rfl (ST.cf hw' (i := 5) rfl) hx) (getI_nn hx) (getI_ltI hx rfl))) ?_
    refine rq 4 37 (v := gD_ x) rfl (hS59.se [0, 1, 3, 4, 5, 6]) (fun w' hw' => (Y_loadA (B := B11) (i := (0 : Int).toNat * 5) (cs := (r_7.Cells.flatMap eN0)) (vs := kD_ x) k_ag_65 k_sz_65_5 rfl rfl (ST.cf hw' (i := 5) rfl) (eN2 x) (gi_seg eN2 hx))) ?_
    refine rq 5 38 (v := pt B10 2) rfl (hS59.se [0, 1, 3, 4, 5, 6]) (fun w' hw' => (Y_fieldAddr (B := B10) (i := 0) (s := 0) k_fd_48_2_2_28 k_sz_28_1 rfl (hf2.get 8 6 rfl))) ?_
    refine rq 6 39 (v := .slice B11 r_7.Cells.length c10) rfl (hS59.se [0, 1, 3, 4, 5, 6]) (fun w' hw' => (Y_load1 (B := B10) (i := 2) (cs := kM_ r_7 B11 c10) (v := .slice B11 r_7.Cells.length c10) k_sc_28 rfl rfl (ST.cf hw' (i := 4) rfl) rfl)) ?_
    refine rq 7 40 (v := pt B11 ((3 : Int).toNat * 5)) rfl (hS59.se [0, 1, 3, 4, 5, 6]) (fun w' hw' => (Y_index (B := B11) (m := r_7.Cells.length) (c := c10) (k := .i64) (i := 3) k_sl_28_65 k_sz_65_5 rfl rfl rfl (gi_isSome eN2 rfl (ST.cf hw' (i := 5) rfl) hx1) (getI_nn hx1) (getI_ltI hx1 rfl))) ?_
    refine rq 8 41 (v := gD_ x1) rfl (hS59.se [0, 1, 3, 4, 5, 6]) (fun w' hw' => (Y_loadA (B := B11) (i := (3 : Int).toNat * 5) (cs := (r_7.Cells.flatMap eN0)) (vs := kD_ x1) k_ag_65 k_sz_65_5 rfl rfl (ST.cf hw' (i := 5) rfl) (eN2 x1) (gi_seg eN2 hx1))) ?_
    refine rA [9, 10] ?_
    refine ra_c 42 (i := 9) rfl rfl rfl (Yc_func (g := 50) (vs := [pt (aD b2) 0, gD_ x, gD_ x1]) k_call_50 rfl (mc rfl (mc rfl (mc rfl mn))) (c_spec_l2C_add m3 x x1 (aD b2) _  (hS59.inn [false, false, true, false, false, false, false] rfl [] rfl) hc6)) ?_ ?_
    ·rintro _ w_45 ⟨rfl, hd27⟩
     have hS60 := hS59.out [false, false, true, false, false, false, false] rfl hd27
     refine ⟨(hS60.se [0, 1, 2, 3, 4, 5]), ?_⟩
     refine rA [10] ?_
     refine ra_s 9 (i := 10) rfl rfl rfl (Ys_alloc (T := 65) (cs := kZ_) (m := 5) hS60 k_zero_65 rfl rfl rfl) ?_ ?_
     ·rintro _ w_46 ⟨b5, rfl, hS61⟩
      refine ⟨(hS61.se [0, 1, 2, 3, 4, 5]), ?_⟩
      refine rA [11] ?_
      refine ra_s0 (i := 11) rfl rfl rfl (Ys_store (i := 7) (s := 5) (B := aD b5) (T' := 65) (v := gD_ r_8) (vs := kD_ r_8) (k := 0) (cs' := kD_ r_8) hS61 k_sz_65_5 rfl rfl rfl rfl rfl rfl rfl (lB rfl) rfl rfl) ?_ ?_
      ·rintro _ w_47 ⟨rfl, hS62⟩
       refine ⟨(hS62.se [0, 1, 2, 3, 4, 5]), ?_⟩
       refine ra_done (by kernel_rfl) ?_
       exact ⟨aD b5, (FF.cons (hf2.get 1 0 rfl) (FF.cons (hf2.get 2 1 rfl) (FF.cons (hf2.get 4 2 rfl) (FF.cons (hf2.get 5 3 rfl) (FF.cons (hf2.get 6 4 rfl) (FF.cons (hf2.get 7 5 rfl) (FF.cons rfl FF.nil))))))), (hS62.sel [0, 1, 6, 2, 3, 7] rfl rfl)⟩
      exact allR_nil
     exact allR_nil
    refine ra_s 9 (i := 10) rfl rfl rfl (Ys_alloc (T := 65) (cs := kZ_) (m := 5) hS59 k_zero_65 rfl rfl rfl) ?_ ?_
    ·rintro _ w_48 ⟨b5, rfl, hS63⟩
     have hS63 : ST w0 [] _ [⟨aD b, 48, kM_ m B c, 3⟩, ⟨aD b1, 30, [.slice none 0 0], 1⟩, ⟨aD b2, 82, [.bool m3.bad], 1⟩, ⟨aD b3, 30, [.slice B3 Cells1.length c3], 1⟩, ⟨B3, 65, (Cells1.flatMap eN0), c3 * 5⟩, ⟨B10, 48, kM_ r_7 B11 c10, 3⟩, ⟨B11, 65, (r_7.Cells.flatMap eN0), c10 * 5⟩, ⟨aD b5, 65, kZ_, 5⟩] [⟨B, (m.Cells.flatMap eN0)⟩] := hS63
     refine ⟨(hS63.se [0, 1, 3, 4, 5, 6]), ?_⟩
     refine rA [9] ?_
     refine ra_c 42 (i := 9) rfl rfl rfl (Yc_func (g := 50) (vs := [pt (aD b2) 0, gD_ x, gD_ x1]) k_call_50 rfl (mc rfl (mc rfl (mc rfl mn))) (c_spec_l2C_add m3 x x1 (aD b2) _  (hS63.inn [false, false, true, false, false, false, false, false] rfl [] rfl) hc6)) ?_ ?_
     ·rintro _ w_49 ⟨rfl, hd28⟩
      have hS64 := hS63.out [false, false, true, false, false, false, false, false] rfl hd28
      refine ⟨(hS64.se [0, 1, 2, 3, 4, 5]), ?_⟩
      refine rA [11] ?_
      refine ra_s0 (i := 11) rfl rfl rfl (Ys_store (i := 6) (s := 5) (B := aD b5) (T' := 65) (v := gD_ r_8) (vs := kD_ r_8) (k := 0) (cs' := kD_ r_8) hS64 k_sz_65_5 rfl rfl rfl rfl rfl rfl rfl (lB rfl) rfl rfl) ?_ ?_
      ·rintro _ w_50 ⟨rfl, hS65⟩
       refine ⟨(hS65.se [0, 1, 2, 3, 4, 5]), ?_⟩
       refine ra_done (by kernel_rfl) ?_
       exact ⟨aD b5, (FF.cons (hf2.get 1 0 rfl) (FF.cons (hf2.get 2 1 rfl) (FF.cons (hf2.get 4 2 rfl) (FF.cons (hf2.get 5 3 rfl) (FF.cons (hf2.get 6 4 rfl) (FF.cons (hf2.get 7 5 rfl) (FF.cons rfl FF.nil))))))), (hS65.sel [0, 1, 7, 2, 3, 6] rfl rfl)⟩
      exact allR_nil
     exact allR_nil
    exact allR_nil
   rintro f w ⟨B12, hf3, hS58⟩
   obtain ⟨⟨r_9, m5⟩, hc7, hb1⟩ := bind_inv hb1
   obtain ⟨hap, hb1⟩ := chk_inv hb1
   refine cw_mid (fun f w => ∃ (B14 : Option Addr) (c12 : Nat), FF f [(1, pt (aD b) 0), (2, pt (aD b1) 0), (4, pt (aD b2) 0), (5, pt (aD b3) 0), (6, vi (i1 : Int)), (7, vi (j : Int))] ∧ ST w0 [] w [⟨aD b, 48, kM_ m B c, 3⟩, ⟨aD b1, 30, [.slice none 0 0], 1⟩, ⟨aD b2, 82, [.bool m5.bad], 1⟩, ⟨aD b3, 30, [.slice B14 ((Cells1 ++ [r_9]).length) c12], 1⟩, ⟨B14, 65, ((Cells1 ++ [r_9]).flatMap eN0), c12 * 5⟩] [⟨B, (m.Cells.flatMap eN0)⟩]) ?_ ?_
   ·skip
    refine ra_start (hS58.se [0, 1, 5]).fn (by kernel_rfl) ?_
    have hS68 := hS58.drew
    refine rq 0 43 (v := pt (aD b3) 0) rfl (hS68.se [0, 1, 5]) (fun w' hw' => (Y_fieldAddr (B := aD b3) (i := 0) (s := 0) k_fd_30_0_0_28 k_sz_28_1 rfl (hf3.get 5 3 rfl))) ?_
    refine rq 2 45 (v := pt (aD b2) 0) rfl (hS68.se [0, 1, 5]) (fun w' hw' => (Y_move (v := pt (aD b2) 0) rfl (hf3.get 4 2 rfl))) ?_
    refine rq 3 46 (v := gD_ r_8) rfl (hS68.se [0, 1, 5]) (fun w' hw' => (Y_loadA (B := B12) (i := 0) (cs := kD_ r_8) (vs := kD_ r_8) k_ag_65 k_sz_65_5 rfl (hf3.get 9 6 rfl) (ST.cf hw' (i := 2) rfl) rfl rfl)) ?_
    refine rq 4 47 (v := .agg #[vi 1, vi 0, vi 0, vi 0]) rfl (hS68.se [0, 1, 5]) (fun w' hw' => (Y_buildS (zs := [vi 0, vi 0, vi 0, vi 0]) (vs := [(0, vi 1)]) (cs := [vi 1, vi 0, vi 0, vi 0]) k_pl_63 k_zero_63 rfl (mpc rfl mpn) rfl)) ?_
    refine rq 5 48 (v := .agg #[vi 1, vi 0, vi 0, vi 0, vi 2]) rfl (hS68.se [0, 1, 5]) (fun w' hw' => (Y_buildS (zs := kZ_) (vs := [(0, .agg #[vi 1, vi 0, vi 0, vi 0]), (1, vi 2)]) (cs := [vi 1, vi 0, vi 0, vi 0, vi 2]) k_pl_65 k_zero_65 rfl (mpc rfl (mpc rfl mpn)) rfl)) ?_
    refine rA [1, 6] ?_
    refine ra_y 44 (i := 1) (v := .slice B3 Cells1.length c3) rfl rfl rfl (Y_load1 (B := aD b3) (i := 0) (cs := [.slice B3 Cells1.length c3]) (v := .slice B3 Cells1.length c3) k_sc_28 rfl rfl (hS68.cf (i := 3) rfl) rfl) (hS68.se [0, 1, 5]) ?_ ?_
    ·skip
     refine rA [6] ?_
     refine ra_c 49 (i := 6) rfl rfl rfl (Yc_func (g := 48) (vs := [pt (aD b2) 0, gD_ r_8, .agg #[vi 1, vi 0, vi 0, vi 0, vi 2]]) k_call_48 rfl (mc rfl (mc rfl (mc rfl mn))) (c_spec_l2C_mul m4 r_8 (TDyadic.mk (TRing.mk 1 0 0 0) 2) (aD b2) _  (hS68.inn [false, false, true, false, false, false] rfl [] rfl) hc7)) ?_ ?_
     ·rintro _ w_51 ⟨rfl, hd29⟩
      have hS69 := hS68.out [false, false, true, false, false, false] rfl hd29
      refine ⟨(hS69.se [0, 1, 4]), ?_⟩
      refine rA [7] ?_
      refine ra_s 50 (i := 7) rfl rfl rfl (Ys_bslice (s := 5) (len := 1) (vs := [(0, gD_ r_9)]) (cs := kD_ r_9) (zs := kZ_) (m := 5) hS69 k_sl_28_65 k_sz_65_5 k_zc_65 rfl (mpc rfl mpn) rfl rfl rfl (by kernel_rfl) (by kernel_rfl) rfl) ?_ ?_
      ·rintro _ w_52 ⟨b6, rfl, hS70⟩
       refine ⟨(hS70.se [0, 1, 4]), ?_⟩
       refine rA [8] ?_
       refine ra_s 51 (i := 8) rfl rfl rfl (Ys_append (s := 5) (by' := 40) (i := 3) (nn := Cells1.length) (c := c3) (k := 1) (len := (Cells1 ++ [r_9]).length) (B := B3) (xs := ([r_9].flatMap eN0)) (cs' := ((Cells1 ++ [r_9]).flatMap eN0)) hS70 k_sl_28_65 k_sz_65_5 k_by_65_40 k_zero_65 rfl (by decide) rfl rfl rfl rfl (fm_lenn (l := Cells1) eN2 rfl) rfl (hS70.cf (i := 6) rfl) (fm_lenn (l := [r_9]) eN2 rfl) (fm_one' (enc := eN0) enc_Dyadic_one [r_9]) (by have := hap; omega) (by have := hap; simp only [maxLen]; omega) (fm_app _ _) (app_len (l := Cells1) (l' := [r_9]) rfl rfl)) ?_ ?_
       ·rintro _ w_53 ⟨B13, c11, rfl, hS71⟩
        refine ⟨(hS71.se [0, 1, 4]), ?_⟩
        refine rq 9 52 (v := pt (aD b3) 0) rfl (hS71.se [0, 1, 4]) (fun w' hw' => (Y_fieldAddr (B := aD b3) (i := 0) (s := 0) k_fd_30_0_0_28 k_sz_28_1 rfl (hf3.get 5 3 rfl))) ?_
        refine rA [10] ?_
        refine ra_s0 (i := 10) rfl rfl rfl (Ys_store (i := 2) (s := 1) (B := aD b3) (T' := 30) (v := .slice B13 ((Cells1 ++ [r_9]).length) c11) (vs := [.slice B13 ((Cells1 ++ [r_9]).length) c11]) (k := 0) (cs' := [.slice B13 ((Cells1 ++ [r_9]).length) c11]) hS71 k_sz_28_1 rfl rfl rfl rfl rfl rfl rfl (lB rfl) rfl rfl) ?_ ?_
        ·rintro _ w_54 ⟨rfl, hS72⟩
         refine ⟨(hS72.se [0, 1, 4]), ?_⟩
         refine ra_done (by kernel_rfl) ?_
         exact ⟨B13, c11, (FF.cons (hf3.get 1 0 rfl) (FF.cons (hf3.get 2 1 rfl) (FF.cons (hf3.get 4 2 rfl) (FF.cons (hf3.get 5 3 rfl) (FF.cons (hf3.get 6 4 rfl) (FF.cons (hf3.get 7 5 rfl) FF.nil)))))), (hS72.sel [0, 1, 5, 2, 3] rfl rfl)⟩
        exact allR_nil
       exact allR_nil
      exact allR_nil
     exact allR_nil
    refine ra_c 49 (i := 6) rfl rfl rfl (Yc_func (g := 48) (vs := [pt (aD b2) 0, gD_ r_8, .agg #[vi 1, vi 0, vi 0, vi 0, vi 2]]) k_call_48 rfl (mc rfl (mc rfl (mc rfl mn))) (c_spec_l2C_mul m4 r_8 (TDyadic.mk (TRing.mk 1 0 0 0) 2) (aD b2) _  (hS68.inn [false, false, true, false, false, false] rfl [] rfl) hc7)) ?_ ?_
    ·rintro _ w_55 ⟨rfl, hd30⟩
     have hS73 := hS68.out [false, false, true, false, false, false] rfl hd30
     refine ⟨(hS73.se [0, 1, 4]), ?_⟩
     refine rA [1, 7] ?_
     refine ra_y 44 (i := 1) (v := .slice B3 Cells1.length c3) rfl rfl rfl (Y_load1 (B := aD b3) (i := 0) (cs := [.slice B3 Cells1.length c3]) (v := .slice B3 Cells1.length c3) k_sc_28 rfl rfl (hS73.cf (i := 2) rfl) rfl) (hS73.se [0, 1, 4]) ?_ ?_
     ·skip
      refine rA [7] ?_
      refine ra_s 50 (i := 7) rfl rfl rfl (Ys_bslice (s := 5) (len := 1) (vs := [(0, gD_ r_9)]) (cs := kD_ r_9) (zs := kZ_) (m := 5) hS73 k_sl_28_65 k_sz_65_5 k_zc_65 rfl (mpc rfl mpn) rfl rfl rfl (by kernel_rfl) (by kernel_rfl) rfl) ?_ ?_
      ·rintro _ w_56 ⟨b6, rfl, hS74⟩
       have hS74 : ST w0 [] _ [⟨aD b, 48, kM_ m B c, 3⟩, ⟨aD b1, 30, [.slice none 0 0], 1⟩, ⟨aD b3, 30, [.slice B3 Cells1.length c3], 1⟩, ⟨B3, 65, (Cells1.flatMap eN0), c3 * 5⟩, ⟨B12, 65, kD_ r_8, 5⟩, ⟨aD b2, 82, [.bool m5.bad], 1⟩, ⟨aD b6, 65, ([r_9].flatMap eN0), 1 * 5⟩] [⟨B, (m.Cells.flatMap eN0)⟩] := hS74
       refine ⟨(hS74.se [0, 1, 4]), ?_⟩
       refine rA [8] ?_
       refine ra_s 51 (i := 8) rfl rfl rfl (Ys_append (s := 5) (by' := 40) (i := 3) (nn := Cells1.length) (c := c3) (k := 1) (len := (Cells1 ++ [r_9]).length) (B := B3) (xs := ([r_9].flatMap eN0)) (cs' := ((Cells1 ++ [r_9]).flatMap eN0)) hS74 k_sl_28_65 k_sz_65_5 k_by_65_40 k_zero_65 rfl (by decide) rfl rfl rfl rfl (fm_lenn (l := Cells1) eN2 rfl) rfl (hS74.cf (i := 6) rfl) (fm_lenn (l := [r_9]) eN2 rfl) (fm_one' (enc := eN0) enc_Dyadic_one [r_9]) (by have := hap; omega) (by have := hap; simp only [maxLen]; omega) (fm_app _ _) (app_len (l := Cells1) (l' := [r_9]) rfl rfl)) ?_ ?_
       ·rintro _ w_57 ⟨B13, c11, rfl, hS75⟩
        refine ⟨(hS75.se [0, 1, 4]), ?_⟩
        refine rq 9 52 (v := pt (aD b3) 0) rfl (hS75.se [0, 1, 4]) (fun w' hw' => (Y_fieldAddr (B := aD b3) (i := 0) (s := 0) k_fd_30_0_0_28 k_sz_28_1 rfl (hf3.get 5 3 rfl))) ?_
        refine rA [10] ?_
        refine ra_s0 (i := 10) rfl rfl rfl (Ys_store (i := 2) (s := 1) (B := aD b3) (T' := 30) (v := .slice B13 ((Cells1 ++ [r_9]).length) c11) (vs := [.slice B13 ((Cells1 ++ [r_9]).length) c11]) (k := 0) (cs' := [.slice B13 ((Cells1 ++ [r_9]).length) c11]) hS75 k_sz_28_1 rfl rfl rfl rfl rfl rfl rfl (lB rfl) rfl rfl) ?_ ?_
        ·rintro _ w_58 ⟨rfl, hS76⟩
         refine ⟨(hS76.se [0, 1, 4]), ?_⟩
         refine ra_done (by kernel_rfl) ?_
         exact ⟨B13, c11, (FF.cons (hf3.get 1 0 rfl) (FF.cons (hf3.get 2 1 rfl) (FF.cons (hf3.get 4 2 rfl) (FF.cons (hf3.get 5 3 rfl) (FF.cons (hf3.get 6 4 rfl) (FF.cons (hf3.get 7 5 rfl) FF.nil)))))), (hS76.sel [0, 1, 5, 2, 3] rfl rfl)⟩
        exact allR_nil
       exact allR_nil
      exact allR_nil
     refine ra_s 50 (i := 7) rfl rfl rfl (Ys_bslice (s := 5) (len := 1) (vs := [(0, gD_ r_9)]) (cs := kD_ r_9) (zs := kZ_) (m := 5) hS73 k_sl_28_65 k_sz_65_5 k_zc_65 rfl (mpc rfl mpn) rfl rfl rfl (by kernel_rfl) (by kernel_rfl) rfl) ?_ ?_
     ·rintro _ w_59 ⟨b6, rfl, hS77⟩
      refine ⟨(hS77.se [0, 1, 4]), ?_⟩
      refine rA [1] ?_
      refine ra_y 44 (i := 1) (v := .slice B3 Cells1.length c3) rfl rfl rfl (Y_load1 (B := aD b3) (i := 0) (cs := [.slice B3 Cells1.length c3]) (v := .slice B3 Cells1.length c3) k_sc_28 rfl rfl (hS77.cf (i := 2) rfl) rfl) (hS77.se [0, 1, 4]) ?_ ?_
      ·skip
       refine rA [8] ?_
       refine ra_s 51 (i := 8) rfl rfl rfl (Ys_append (s := 5) (by' := 40) (i := 3) (nn := Cells1.length) (c := c3) (k := 1) (len := (Cells1 ++ [r_9]).length) (B := B3) (xs := ([r_9].flatMap eN0)) (cs' := ((Cells1 ++ [r_9]).flatMap eN0)) hS77 k_sl_28_65 k_sz_65_5 k_by_65_40 k_zero_65 rfl (by decide) rfl rfl rfl rfl (fm_lenn (l := Cells1) eN2 rfl) rfl (hS77.cf (i := 6) rfl) (fm_lenn (l := [r_9]) eN2 rfl) (fm_one' (enc := eN0) enc_Dyadic_one [r_9]) (by have := hap; omega) (by have := hap; simp only [maxLen]; omega) (fm_app _ _) (app_len (l := Cells1) (l' := [r_9]) rfl rfl)) ?_ ?_
       ·rintro _ w_60 ⟨B13, c11, rfl, hS78⟩
        refine ⟨(hS78.se [0, 1, 4]), ?_⟩
        refine rq 9 52 (v := pt (aD b3) 0) rfl (hS78.se [0, 1, 4]) (fun w' hw' => (Y_fieldAddr (B := aD b3) (i := 0) (s := 0) k_fd_30_0_0_28 k_sz_28_1 rfl (hf3.get 5 3 rfl))) ?_
        refine rA [10] ?_
        refine ra_s0 (i := 10) rfl rfl rfl (Ys_store (i := 2) (s := 1) (B := aD b3) (T' := 30) (v := .slice B13 ((Cells1 ++ [r_9]).length) c11) (vs := [.slice B13 ((Cells1 ++ [r_9]).length) c11]) (k := 0) (cs' := [.slice B13 ((Cells1 ++ [r_9]).length) c11]) hS78 k_sz_28_1 rfl rfl rfl rfl rfl rfl rfl (lB rfl) rfl rfl) ?_ ?_
        ·rintro _ w_61 ⟨rfl, hS79⟩
         refine ⟨(hS79.se [0, 1, 4]), ?_⟩
         refine ra_done (by kernel_rfl) ?_
         exact ⟨B13, c11, (FF.cons (hf3.get 1 0 rfl) (FF.cons (hf3.get 2 1 rfl) (FF.cons (hf3.get 4 2 rfl) (FF.cons (hf3.get 5 3 rfl) (FF.cons (hf3.get 6 4 rfl) (FF.cons (hf3.get 7 5 rfl) FF.nil)))))), (hS79.sel [0, 1, 5, 2, 3] rfl rfl)⟩
        exact allR_nil
       exact allR_nil
      exact allR_nil
     exact allR_nil
    exact allR_nil
   rintro f w ⟨B14, c12, hf4, hS67⟩
   refine cw_region ?_
   refine sQ 18 (Y_move (v := vi (j : Int)) rfl (hf4.get 7 5 rfl)) ?_
   refine sQ 19 (Y_add (k := .i64) (a := (j : Int)) (b := 1) rfl rfl rfl) ?_
   refine sQ 7 (Y_assign (v := vi (i64.wrap ((j : Int) + 1))) rfl rfl) (rw_nil ?_)
   obtain rfl := some_inj hb1
   exact ⟨k_3, Nat.lt_succ_self _, j + 1, m5.bad, (Cells1 ++ [r_9]), B14, c12, (FF.cons (hf4.get 1 0 rfl) (FF.cons (hf4.get 2 1 rfl) (FF.cons (hf4.get 4 2 rfl) (FF.cons (hf4.get 5 3 rfl) (FF.cons (hf4.get 6 4 rfl) (FF.cons (congrArg (Value.int .i64) (wr_succ hlt3 (show 3 ≤ 9223372036854775807 by decide))) FF.nil)))))), (hS67.sel [0, 1, 2, 3, 4] rfl rfl), (by omega), hL3⟩
  ·skip
   obtain rfl : k_2 = 0 := by have h := of_decide_eq_false hlt2; omega
   refine cw_exit rfl ?_
   obtain rfl := some_inj hL2
   refine cw_region ?_
   refine sQ 14 (Y_move (v := vi (i1 : Int)) rfl (hf1.get 6 4 rfl)) ?_
   refine sQ 15 (Y_add (k := .i64) (a := (i1 : Int)) (b := 1) rfl rfl rfl) ?_
   refine sQ 6 (Y_assign (v := vi (i64.wrap ((i1 : Int) + 1))) rfl rfl) (rw_nil ?_)
   obtain rfl := some_inj hF2
   exact ⟨k_1, Nat.lt_succ_self _, i1 + 1, bad1, Cells1, B3, c3, (FF.cons (hf1.get 1 0 rfl) (FF.cons (hf1.get 2 1 rfl) (FF.cons (hf1.get 4 2 rfl) (FF.cons (hf1.get 5 3 rfl) (FF.cons (congrArg (Value.int .i64) (wr_succ hlt1 (show 3 ≤ 9223372036854775807 by decide))) FF.nil))))), (hS7.sel [0, 1, 2, 3, 4] rfl rfl), (by omega), hL1⟩
 ·skip
  obtain rfl : k_ = 0 := by have h := of_decide_eq_false hlt; omega
  refine cw_exit rfl ?_
  obtain rfl := some_inj hL
  refine cw_seq (cw_seq (cw_region ?_))
  refine sQ 53 (Y_move (v := pt (aD b2) 0) rfl (hf.get 4 2 rfl)) ?_
  refine sQ 54 (Y_nilCheck (B := aD b2) (i := 0) rfl rfl) ?_
  refine sQ 55 (Y_fieldAddr (B := aD b2) (i := 0) (s := 0) k_fd_82_0_0_4 k_sz_4_1 rfl rfl) ?_
  refine sQ 56 (Y_load1 (B := aD b2) (i := 0) (cs := [.bool bad]) (v := .bool bad) k_sc_4 rfl rfl (hS5.cf (i := 2) rfl) rfl) (rw_nil ?_)
  refine cw_cond (b := bad) rfl (fun hb2 => ?_) (fun hb2 => ?_)
  ·skip
   have hF3 := ct hF1 hb2
   refine cw_seq (cw_region ?_)
   refine sQ 57 (Y_buildS (zs := [.slice none 0 0]) (vs := []) (cs := [.slice none 0 0]) k_pl_30 k_zero_30 rfl mpn rfl) ?_
   refine s0 (Ys_store (i := 1) (s := 1) (B := aD b1) (T' := 30) (v := .agg #[.slice none 0 0]) (vs := [.slice none 0 0]) (k := 0) (cs' := [.slice none 0 0]) hS5 k_sz_30_1 rfl (hf.get 2 1 rfl) rfl rfl rfl rfl rfl (lB rfl) rfl rfl) ?_
   rintro _ w_62 ⟨rfl, hS80⟩
   refine sQ 3 (Y_assign (v := .bool false) rfl rfl) (rw_nil (cw_ret ?_))
   have hS81 := hS80.addNil 65
   obtain ⟨rfl, rfl⟩ := pr2 (some_inj hF3)
   exact ret2 Tryz.results56 (v1 := .agg #[.slice none 0 0]) (resAt_cellA (B := aD b1) (i := 0) (cs := [.slice none 0 0]) (vs := [.slice none 0 0]) (hf.get 2 1 rfl) k_ag_30 k_sz_30_1 (hS81.cf (i := 1) rfl) rfl rfl) (v2 := .bool false) (resAt_tmp rfl) ⟨none, 0, rfl, (hS81.sN [5])⟩
  ·skip
   have hF4 := cf' hF1 hb2
   refine cw_skip (cw_seq (cw_region ?_))
   refine sQ 58 (Y_loadA (B := aD b3) (i := 0) (cs := [.slice B2 Cells.length c2]) (vs := [.slice B2 Cells.length c2]) k_ag_30 k_sz_30_1 rfl (hf.get 5 3 rfl) (hS5.cf (i := 3) rfl) rfl rfl) ?_
   refine s0 (Ys_store (i := 1) (s := 1) (B := aD b1) (T' := 30) (v := .agg #[.slice B2 Cells.length c2]) (vs := [.slice B2 Cells.length c2]) (k := 0) (cs' := [.slice B2 Cells.length c2]) hS5 k_sz_30_1 rfl (hf.get 2 1 rfl) rfl rfl rfl rfl rfl (lB rfl) rfl rfl) ?_
   rintro _ w_63 ⟨rfl, hS82⟩
   refine sQ 3 (Y_assign (v := .bool true) rfl rfl) (rw_nil (cw_ret ?_))
   obtain ⟨rfl, rfl⟩ := pr2 (some_inj hF4)
   exact ret2 Tryz.results56 (v1 := .agg #[.slice B2 Cells.length c2]) (resAt_cellA (B := aD b1) (i := 0) (cs := [.slice B2 Cells.length c2]) (vs := [.slice B2 Cells.length c2]) (hf.get 2 1 rfl) k_ag_30 k_sz_30_1 (hS82.cf (i := 1) rfl) rfl rfl) (v2 := .bool true) (resAt_tmp rfl) ⟨B2, c2, rfl, (hS82.sN [4])⟩

theorem c_spec_l6Bit (n : Int) (k_ : Int) (q : Int)  (w0 : World)  (hS : ST w0 [] w0 [] []) {r_ : Int} (hF : F_spec_l6Bit n k_ q = some r_) :
  CV Tryz.prog 151 #[vi n, vi k_, vi q] w0 (fun v w' => v = vi r_ ∧ ST w0 [] w' [] []) := by
 unfold F_spec_l6Bit at hF
 refine cv_of_cw 15 Tryz.func151 rfl Tryz.ntmps151 rfl ?_
 refine cw_seq (cw_region ?_)
 refine sQ 6 (Y_assign (v := vi 0) rfl rfl) (rw_nil (cw_seq (cw_region ?_)))
 refine sQ 7 (Y_move (v := vi k_) rfl rfl) ?_
 refine sQ 8 (Y_move (v := vi n) rfl rfl) ?_
 refine sQ 9 (Y_sub (k := .i64) (a := n) (b := 1) rfl rfl rfl) ?_
 refine sQ 10 (Y_move (v := vi q) rfl rfl) ?_
 refine sQ 11 (Y_sub (k := .i64) (a := (i64.wrap (n - 1))) (b := q) rfl rfl rfl) ?_
 refine sQ 12 (Y_conv (k := .i64) (a := (i64.wrap ((i64.wrap (n - 1)) - q))) (T := 3) (T' := 115) k_us_3 k_int_115_u64 rfl rfl) ?_
 obtain ⟨hsh, hF⟩ := chk_inv hF
 refine sQ 13 (Y_shr (k := .i64) (a := k_) (k' := .u64) (b := (IntKind.u64.wrap (i64.wrap ((i64.wrap (n - 1)) - q)))) rfl rfl rfl hsh) ?_
 refine sQ 14 (Y_band (k := .i64) (a := (shrK .i64 k_ (IntKind.u64.wrap (i64.wrap ((i64.wrap (n - 1)) - q))))) (b := 1) rfl rfl rfl) ?_
 refine sQ 6 (Y_assign (v := vi (bits .and .i64 (shrK .i64 k_ (IntKind.u64.wrap (i64.wrap ((i64.wrap (n - 1)) - q)))) 1)) rfl rfl) (rw_nil (cw_ret ?_))
 obtain rfl := some_inj hF
 exact ret1 Tryz.results151 (v1 := vi (bits .and .i64 (shrK .i64 k_ (IntKind.u64.wrap (i64.wrap ((i64.wrap (n - 1)) - q)))) 1)) (resAt_tmp rfl) ⟨rfl, (hS.sN [])⟩

theorem c_spec_l6Cell (n : Int) (g : TGate) (row : Int) (col : Int)  (w0 : World)  (hS : ST w0 [] w0 [] []) {r_ : TDyadic} (hF : F_spec_l6Cell n g row col = some r_) :
  CV Tryz.prog 140 #[vi n, .agg #[vi g.Kind, vi g.A, vi g.B], vi row, vi col] w0 (fun v w' => v = (gD_ r_) ∧ ST w0 [] w' [] []) := by
 unfold F_spec_l6Cell at hF
 refine cv_of_cw 119 Tryz.func140 rfl Tryz.ntmps140 rfl ?_
 refine cw_seq (cw_region ?_)
 refine sS 5 (Ys_box (T := 70) (v := .agg #[vi g.Kind, vi g.A, vi g.B]) (cs := [vi g.Kind, vi g.A, vi g.B]) (m := 3) hS rfl rfl rfl rfl) ?_
 rintro _ w_ ⟨b, rfl, hS1⟩
 refine sS 8 (Ys_alloc (T := 65) (cs := kZ_) (m := 5) hS1 k_zero_65 rfl rfl rfl) ?_
 rintro _ w_1 ⟨b1, rfl, hS2⟩
 refine rw_nil (cw_seq (cw_region ?_))
 obtain ⟨r_1, hc, hF⟩ := bind_inv hF
 refine sc 12 rfl rfl (Yc_func (g := 54) (vs := [vi 0]) k_call_54 rfl (mc rfl mn) (c_spec_l2Power 0 _  (hS2.inn0 [] rfl) hc)) ?_
 rintro _ w_2 ⟨rfl, hd⟩
 have hS3 := hS2.out00 hd
 refine sQ 13 (Y_buildS (zs := kZ_) (vs := []) (cs := kZ_) k_pl_65 k_zero_65 rfl mpn rfl) ?_
 refine sS 9 (Ys_alloc (T := 65) (cs := kZ_) (m := 5) hS3 k_zero_65 rfl rfl rfl) ?_
 rintro _ w_3 ⟨b2, rfl, hS4⟩
 refine sS 10 (Ys_alloc (T := 65) (cs := kZ_) (m := 5) hS4 k_zero_65 rfl rfl rfl) ?_
 rintro _ w_4 ⟨b3, rfl, hS5⟩
 refine s0 (Ys_store (i := 2) (s := 5) (B := aD b2) (T' := 65) (v := gD_ r_1) (vs := kD_ r_1) (k := 0) (cs' := kD_ r_1) hS5 k_sz_65_5 rfl rfl rfl rfl rfl rfl rfl (lB rfl) rfl rfl) ?_
 rintro _ w_5 ⟨rfl, hS6⟩
 refine s0 (Ys_store (i := 3) (s := 5) (B := aD b3) (T' := 65) (v := gZ_) (vs := kZ_) (k := 0) (cs' := kZ_) hS6 k_sz_65_5 rfl rfl rfl rfl rfl rfl rfl (lB rfl) rfl rfl) ?_
 rintro _ w_6 ⟨rfl, hS7⟩
 refine rw_nil (cw_seq (cw_region ?_))
 refine sQ 14 (Y_move (v := vi col) rfl rfl) ?_
 refine sQ 11 (Y_assign (v := vi col) rfl rfl) (rw_nil (cw_seq ?_))
 obtain ⟨z, hz, hF1⟩ := bind_inv hF
 refine cw_mid (fun f w => ∃ (A : Int) (B : Int) (C : Int) (D : Int) (Exp : Int) (to_ : Int), .inl (A, B, C, D, Exp, to_) = z ∧ FF f [(2, vi row), (8, pt (aD b1) 0), (9, pt (aD b2) 0), (10, pt (aD b3) 0), (11, vi to_)] ∧ ST w0 [] w [⟨aD b1, 65, kZ_, 5⟩, ⟨aD b2, 65, [vi A, vi B, vi C, vi D, vi Exp], 5⟩, ⟨aD b3, 65, kZ_, 5⟩] []) ?_ ?_
 ·skip
  refine cw_seq (cw_region ?_)
  refine sQ 15 (Y_fieldAddr (B := aD b) (i := 0) (s := 0) k_fd_70_0_0_3 k_sz_3_1 rfl rfl) ?_
  refine sQ 16 (Y_load1 (B := aD b) (i := 0) (cs := [vi g.Kind, vi g.A, vi g.B]) (v := vi g.Kind) k_sc_3 rfl rfl (hS7.cf (i := 0) rfl) rfl) (rw_nil (cw_block (cw_seq (cw_region ?_))))
  refine sQ 48 (Y_eq (k := .i64) (a := g.Kind) (b := 12) rfl rfl rfl) ?_
  refine sQ 47 (Y_assign (v := .bool (g.Kind == 12)) rfl rfl) (rw_nil ?_)
  refine cw_cond (b := (g.Kind == 12)) rfl (fun hb => ?_) (fun hb => ?_)
  ·skip
   have hF2 := ct hz hb
   refine cw_region ?_
   obtain ⟨r_2, hc1, hF2⟩ := bind_inv hF2
   refine sc 49 rfl rfl (Yc_func (g := 54) (vs := [vi 1]) k_call_54 rfl (mc rfl mn) (c_spec_l2Power 1 _  (hS7.inn0 [] rfl) hc1)) ?_
   rintro _ w_7 ⟨rfl, hd1⟩
   have hS9 := hS7.out00 hd1
   refine s0 (Ys_store (i := 2) (s := 5) (B := aD b2) (T' := 65) (v := gD_ r_2) (vs := kD_ r_2) (k := 0) (cs' := kD_ r_2) hS9 k_sz_65_5 rfl rfl rfl rfl rfl rfl rfl (lB rfl) rfl rfl) ?_
   rintro _ w_8 ⟨rfl, hS10⟩
   have hS10 : ST w0 [] _ [⟨aD b, 70, [vi g.Kind, vi g.A, vi g.B], 3⟩, ⟨aD b1, 65, kZ_, 5⟩, ⟨aD b2, 65, kD_ r_2, 5⟩, ⟨aD b3, 65, kZ_, 5⟩] [] := hS10
   refine rw_nil ?_
   exact ⟨r_2.Num.A, r_2.Num.B, r_2.Num.C, r_2.Num.D, r_2.Exp, col, (some_inj hF2), (FF.cons rfl (FF.cons rfl (FF.cons rfl (FF.cons rfl (FF.cons rfl FF.nil))))), (hS10.sel [1, 2, 3] rfl rfl)⟩
  ·skip
   have hF3 := cf' hz hb
   refine cw_seq (cw_region ?_)
   refine sQ 51 (Y_eq (k := .i64) (a := g.Kind) (b := 9) rfl rfl rfl) ?_
   refine sQ 50 (Y_assign (v := .bool (g.Kind == 9)) rfl rfl) (rw_nil ?_)
   refine cw_cond (b := (g.Kind == 9)) rfl (fun hb1 => ?_) (fun hb1 => ?_)
   ·skip
    have hF4 := ct hF3 hb1
    refine cw_seq (cw_region ?_)
    refine sQ 52 (Y_move (v := vi n) rfl rfl) ?_
    refine sQ 53 (Y_move (v := vi col) rfl rfl) ?_
    refine sQ 54 (Y_fieldAddr (B := aD b) (i := 0) (s := 0) k_fd_70_1_1_3 k_sz_3_1 rfl rfl) ?_
    refine sQ 55 (Y_load1 (B := aD b) (i := 1) (cs := [vi g.Kind, vi g.A, vi g.B]) (v := vi g.A) k_sc_3 rfl rfl (hS7.cf (i := 0) rfl) rfl) ?_
    obtain ⟨r_3, hc2, hF4⟩ := bind_inv hF4
    refine sc 56 rfl rfl (Yc_func (g := 151) (vs := [vi n, vi col, vi g.A]) k_call_151 rfl (mc rfl (mc rfl (mc rfl mn))) (c_spec_l6Bit n col g.A _  (hS7.inn0 [] rfl) hc2)) ?_
    rintro _ w_9 ⟨rfl, hd2⟩
    have hS11 := hS7.out00 hd2
    refine sQ 57 (Y_eq (k := .i64) (a := r_3) (b := 1) rfl rfl rfl) (rw_nil ?_)
    refine cw_cond (b := (r_3 == 1)) rfl (fun hb2 => ?_) (fun hb2 => ?_)
    ·skip
     have hF5 := ct hF4 hb2
     refine cw_region ?_
     refine sQ 58 (Y_move (v := vi col) rfl rfl) ?_
     refine sQ 59 (Y_move (v := vi n) rfl rfl) ?_
     refine sQ 60 (Y_sub (k := .i64) (a := n) (b := 1) rfl rfl rfl) ?_
     refine sQ 61 (Y_fieldAddr (B := aD b) (i := 0) (s := 0) k_fd_70_2_2_3 k_sz_3_1 rfl rfl) ?_
     refine sQ 62 (Y_load1 (B := aD b) (i := 2) (cs := [vi g.Kind, vi g.A, vi g.B]) (v := vi g.B) k_sc_3 rfl rfl (hS11.cf (i := 0) rfl) rfl) ?_
     refine sQ 63 (Y_sub (k := .i64) (a := (i64.wrap (n - 1))) (b := g.B) rfl rfl rfl) ?_
     refine sQ 64 (Y_conv (k := .i64) (a := (i64.wrap ((i64.wrap (n - 1)) - g.B))) (T := 3) (T' := 115) k_us_3 k_int_115_u64 rfl rfl) ?_
     obtain ⟨hsh, hF5⟩ := chk_inv hF5
     refine sQ 65 (Y_shl (k := .i64) (a := 1) (k' := .u64) (b := (IntKind.u64.wrap (i64.wrap ((i64.wrap (n - 1)) - g.B)))) rfl rfl rfl hsh) ?_
     refine sQ 66 (Y_bxor (k := .i64) (a := col) (b := (shlK .i64 1 (IntKind.u64.wrap (i64.wrap ((i64.wrap (n - 1)) - g.B))))) rfl rfl rfl) ?_
     refine sQ 11 (Y_assign (v := vi (bits .xor .i64 col (shlK .i64 1 (IntKind.u64.wrap (i64.wrap ((i64.wrap (n - 1)) - g.B)))))) rfl rfl) (rw_nil ?_)
     exact ⟨r_1.Num.A, r_1.Num.B, r_1.Num.C, r_1.Num.D, r_1.Exp, (bits .xor .i64 col (shlK .i64 1 (IntKind.u64.wrap (i64.wrap ((i64.wrap (n - 1)) - g.B))))), (some_inj hF5), (FF.cons rfl (FF.cons rfl (FF.cons rfl (FF.cons rfl (FF.cons rfl FF.nil))))), (hS11.sel [1, 2, 3] rfl rfl)⟩
    ·skip
     have hF6 := cf' hF4 hb2
     refine cw_skip ?_
     exact ⟨r_1.Num.A, r_1.Num.B, r_1.Num.C, r_1.Num.D, r_1.Exp, col, (some_inj hF6), (FF.cons rfl (FF.cons rfl (FF.cons rfl (FF.cons rfl (FF.cons rfl FF.nil))))), (hS11.sel [1, 2, 3] rfl rfl)⟩
   ·skip
    have hF7 := cf' hF3 hb1
    refine cw_seq (cw_region ?_)
    refine sQ 68 (Y_eq (k := .i64) (a := g.Kind) (b := 10) rfl rfl rfl) ?_
    refine sQ 67 (Y_assign (v := .bool (g.Kind == 10)) rfl rfl) (rw_nil ?_)
    refine cw_cond (b := (g.Kind == 10)) rfl (fun hb3 => ?_) (fun hb3 => ?_)
    ·skip
     have hF8 := ct hF7 hb3
     refine cw_seq (cw_region ?_)
     refine sQ 69 (Y_move (v := vi n) rfl rfl) ?_
     refine sQ 70 (Y_move (v := vi col) rfl rfl) ?_
     refine sQ 71 (Y_fieldAddr (B := aD b) (i := 0) (s := 0) k_fd_70_1_1_3 k_sz_3_1 rfl rfl) ?_
     refine sQ 72 (Y_load1 (B := aD b) (i := 1) (cs := [vi g.Kind, vi g.A, vi g.B]) (v := vi g.A) k_sc_3 rfl rfl (hS7.cf (i := 0) rfl) rfl) ?_
     obtain ⟨r_4, hc3, hF8⟩ := bind_inv hF8
     refine sc 73 rfl rfl (Yc_func (g := 151) (vs := [vi n, vi col, vi g.A]) k_call_151 rfl (mc rfl (mc rfl (mc rfl mn))) (c_spec_l6Bit n col g.A _  (hS7.inn0 [] rfl) hc3)) ?_
     rintro _ w_10 ⟨rfl, hd3⟩
     have hS12 := hS7.out00 hd3
     refine sQ 74 (Y_eq (k := .i64) (a := r_4) (b := 1) rfl rfl rfl) ?_
     refine sQ 75 (Y_move (v := .bool (r_4 == 1)) rfl rfl) ?_
     refine sgq 76 (B := (r_4 == 1)) (v := vi n) rfl rfl (wT 75) (fun hg => (Y_move (v := vi n) rfl rfl)) ?_
     refine sgq 77 (B := (r_4 == 1)) (v := vi col) rfl rfl (wT 75) (fun hg1 => (Y_move (v := vi col) rfl rfl)) ?_
     refine sgq 78 (B := (r_4 == 1)) (v := pt (aD b) 2) rfl rfl (wT 75) (fun hg2 => (Y_fieldAddr (B := aD b) (i := 0) (s := 0) k_fd_70_2_2_3 k_sz_3_1 rfl rfl)) ?_
     refine sgq 79 (B := (r_4 == 1)) (v := vi g.B) rfl rfl (wT 75) (fun hg3 => (Y_load1 (B := aD b) (i := 2) (cs := [vi g.Kind, vi g.A, vi g.B]) (v := vi g.B) k_sc_3 rfl (gv_of (v := pt (aD b) 2) hg3) (hS12.cf (i := 0) rfl) rfl)) ?_
     obtain ⟨r_5, hc4, hF8⟩ := bind_inv hF8
     refine sgc 80 (B := (r_4 == 1)) (v := vi r_5) (F := hS12.fn) rfl rfl (wT 75) hS12 (fun hg4 => (Yc_func (g := 151) (vs := [vi n, vi col, vi g.B]) k_call_151 rfl (mc (gv_of (v := vi n) hg4) (mc (gv_of (v := vi col) hg4) (mc (gv_of (v := vi g.B) hg4) mn))) (CV.mono (c_spec_l6Bit n col g.B _  (hS12.inn0 [] rfl) (gb_inv hc4 hg4)) (by rintro _ _ ⟨rfl, h⟩; exact ⟨rfl, hS12.out00 h⟩)))) ?_
     rintro w_11 hS13
     refine sgq 81 (B := (r_4 == 1)) (v := .bool (r_5 == 1)) rfl rfl (wT 75) (fun hg5 => (Y_eq (k := .i64) (a := r_5) (b := 1) rfl (gv_of (v := vi r_5) hg5) rfl)) ?_
     refine sQ 82 (Y_and (b := (r_4 == 1)) (z := (r_5 == 1)) rfl rfl rfl rfl) (rw_nil ?_)
     refine cw_cond (b := ((r_4 == 1) && (r_5 == 1))) rfl (fun hb4 => ?_) (fun hb4 => ?_)
     ·skip
      have hF9 := ct hF8 hb4
      refine cw_region ?_
      obtain ⟨r_6, hc5, hF9⟩ := bind_inv hF9
      refine sc 83 rfl rfl (Yc_func (g := 54) (vs := [vi 4]) k_call_54 rfl (mc rfl mn) (c_spec_l2Power 4 _  (hS13.inn0 [] rfl) hc5)) ?_
      rintro _ w_12 ⟨rfl, hd4⟩
      have hS14 := hS13.out00 hd4
      refine s0 (Ys_store (i := 2) (s := 5) (B := aD b2) (T' := 65) (v := gD_ r_6) (vs := kD_ r_6) (k := 0) (cs' := kD_ r_6) hS14 k_sz_65_5 rfl rfl rfl rfl rfl rfl rfl (lB rfl) rfl rfl) ?_
      rintro _ w_13 ⟨rfl, hS15⟩
      refine rw_nil ?_
      exact ⟨r_6.Num.A, r_6.Num.B, r_6.Num.C, r_6.Num.D, r_6.Exp, col, (some_inj hF9), (FF.cons rfl (FF.cons rfl (FF.cons rfl (FF.cons rfl (FF.cons rfl FF.nil))))), (hS15.sel [1, 2, 3] rfl rfl)⟩
     ·skip
      have hF10 := cf' hF8 hb4
      refine cw_skip ?_
      exact ⟨r_1.Num.A, r_1.Num.B, r_1.Num.C, r_1.Num.D, r_1.Exp, col, (some_inj hF10), (FF.cons rfl (FF.cons rfl (FF.cons rfl (FF.cons rfl (FF.cons rfl FF.nil))))), (hS13.sel [1, 2, 3] rfl rfl)⟩
    ·skip
     have hF11 := cf' hF7 hb3
     refine cw_seq (cw_region ?_)
     refine sQ 85 (Y_eq (k := .i64) (a := g.Kind) (b := 11) rfl rfl rfl) ?_
     refine sQ 84 (Y_assign (v := .bool (g.Kind == 11)) rfl rfl) (rw_nil ?_)
     refine cw_cond (b := (g.Kind == 11)) rfl (fun hb5 => ?_) (fun hb5 => ?_)
     ·skip
      have hF12 := ct hF11 hb5
      refine cw_seq ?_
      obtain ⟨r_7, hc6, hF12⟩ := bind_inv hF12
      obtain ⟨r_8, hc7, hF12⟩ := bind_inv hF12
      refine ra_start (hS7.se [0, 1, 2, 3]).fn (by kernel_rfl) ?_
      have hS18 := hS7.drew
      refine rq 0 86 (v := vi n) rfl (hS18.se [0, 1, 2, 3]) (fun w' hw' => (Y_move (v := vi n) rfl rfl)) ?_
      refine rq 1 87 (v := vi col) rfl (hS18.se [0, 1, 2, 3]) (fun w' hw' => (Y_move (v := vi col) rfl rfl)) ?_
      refine rq 2 88 (v := pt (aD b) 1) rfl (hS18.se [0, 1, 2, 3]) (fun w' hw' => (Y_fieldAddr (B := aD b) (i := 0) (s := 0) k_fd_70_1_1_3 k_sz_3_1 rfl rfl)) ?_
      refine rq 3 89 (v := vi g.A) rfl (hS18.se [0, 1, 2, 3]) (fun w' hw' => (Y_load1 (B := aD b) (i := 1) (cs := [vi g.Kind, vi g.A, vi g.B]) (v := vi g.A) k_sc_3 rfl rfl (ST.cf hw' (i := 0) rfl) rfl)) ?_
      refine rq 5 91 (v := vi n) rfl (hS18.se [0, 1, 2, 3]) (fun w' hw' => (Y_move (v := vi n) rfl rfl)) ?_
      refine rq 6 92 (v := vi col) rfl (hS18.se [0, 1, 2, 3]) (fun w' hw' => (Y_move (v := vi col) rfl rfl)) ?_
      refine rq 7 93 (v := pt (aD b) 2) rfl (hS18.se [0, 1, 2, 3]) (fun w' hw' => (Y_fieldAddr (B := aD b) (i := 0) (s := 0) k_fd_70_2_2_3 k_sz_3_1 rfl rfl)) ?_
      refine rq 8 94 (v := vi g.B) rfl (hS18.se [0, 1, 2, 3]) (fun w' hw' => (Y_load1 (B := aD b) (i := 2) (cs := [vi g.Kind, vi g.A, vi g.B]) (v := vi g.B) k_sc_3 rfl rfl (ST.cf hw' (i := 0) rfl) rfl)) ?_
      refine rA [4] ?_
      refine ra_c 90 (i := 4) rfl rfl rfl (Yc_func (g := 151) (vs := [vi n, vi col, vi g.A]) k_call_151 rfl (mc rfl (mc rfl (mc rfl mn))) (c_spec_l6Bit n col g.A _  (hS18.inn0 [] rfl) hc6)) ?_ ?_
      ·rintro _ w_14 ⟨rfl, hd5⟩
       have hS19 := hS18.out00 hd5
       refine ⟨(hS19.se [0, 1, 2, 3]), ?_⟩
       refine rA [9] ?_
       refine ra_c 95 (i := 9) rfl rfl rfl (Yc_func (g := 151) (vs := [vi n, vi col, vi g.B]) k_call_151 rfl (mc rfl (mc rfl (mc rfl mn))) (c_spec_l6Bit n col g.B _  (hS19.inn0 [] rfl) hc7)) ?_ ?_
       ·rintro _ w_15 ⟨rfl, hd6⟩
        have hS20 := hS19.out00 hd6
        refine ⟨(hS20.se [0, 1, 2, 3]), ?_⟩
        refine rq 10 96 (v := .bool (r_7 != r_8)) rfl (hS20.se [0, 1, 2, 3]) (fun w' hw' => (Y_ne (k := .i64) (a := r_7) (b := r_8) rfl rfl rfl)) ?_
        refine ra_done (by kernel_rfl) ?_
        refine cw_cond (b := (r_7 != r_8)) rfl (fun hb6 => ?_) (fun hb6 => ?_)
        ·skip
         have hF13 := ct hF12 hb6
         refine cw_region ?_
         refine sQ 97 (Y_move (v := vi col) rfl rfl) ?_
         refine sQ 98 (Y_move (v := vi n) rfl rfl) ?_
         refine sQ 99 (Y_sub (k := .i64) (a := n) (b := 1) rfl rfl rfl) ?_
         refine sQ 100 (Y_fieldAddr (B := aD b) (i := 0) (s := 0) k_fd_70_1_1_3 k_sz_3_1 rfl rfl) ?_
         refine sQ 101 (Y_load1 (B := aD b) (i := 1) (cs := [vi g.Kind, vi g.A, vi g.B]) (v := vi g.A) k_sc_3 rfl rfl (hS20.cf (i := 0) rfl) rfl) ?_
         refine sQ 102 (Y_sub (k := .i64) (a := (i64.wrap (n - 1))) (b := g.A) rfl rfl rfl) ?_
         refine sQ 103 (Y_conv (k := .i64) (a := (i64.wrap ((i64.wrap (n - 1)) - g.A))) (T := 3) (T' := 115) k_us_3 k_int_115_u64 rfl rfl) ?_
         obtain ⟨hsh1, hF13⟩ := chk_inv hF13
         refine sQ 104 (Y_shl (k := .i64) (a := 1) (k' := .u64) (b := (IntKind.u64.wrap (i64.wrap ((i64.wrap (n - 1)) - g.A)))) rfl rfl rfl hsh1) ?_
         refine sQ 105 (Y_bxor (k := .i64) (a := col) (b := (shlK .i64 1 (IntKind.u64.wrap (i64.wrap ((i64.wrap (n - 1)) - g.A))))) rfl rfl rfl) ?_
         refine sQ 106 (Y_move (v := vi n) rfl rfl) ?_
         refine sQ 107 (Y_sub (k := .i64) (a := n) (b := 1) rfl rfl rfl) ?_
         refine sQ 108 (Y_fieldAddr (B := aD b) (i := 0) (s := 0) k_fd_70_2_2_3 k_sz_3_1 rfl rfl) ?_
         refine sQ 109 (Y_load1 (B := aD b) (i := 2) (cs := [vi g.Kind, vi g.A, vi g.B]) (v := vi g.B) k_sc_3 rfl rfl (hS20.cf (i := 0) rfl) rfl) ?_
         refine sQ 110 (Y_sub (k := .i64) (a := (i64.wrap (n - 1))) (b := g.B) rfl rfl rfl) ?_
         refine sQ 111 (Y_conv (k := .i64) (a := (i64.wrap ((i64.wrap (n - 1)) - g.B))) (T := 3) (T' := 115) k_us_3 k_int_115_u64 rfl rfl) ?_
         obtain ⟨hsh2, hF13⟩ := chk_inv hF13
         refine sQ 112 (Y_shl (k := .i64) (a := 1) (k' := .u64) (b := (IntKind.u64.wrap (i64.wrap ((i64.wrap (n - 1)) - g.B)))) rfl rfl rfl hsh2) ?_
         refine sQ 113 (Y_bxor (k := .i64) (a := (bits .xor .i64 col (shlK .i64 1 (IntKind.u64.wrap (i64.wrap ((i64.wrap (n - 1)) - g.A)))))) (b := (shlK .i64 1 (IntKind.u64.wrap (i64.wrap ((i64.wrap (n - 1)) - g.B))))) rfl rfl rfl) ?_
         refine sQ 11 (Y_assign (v := vi (bits .xor .i64 (bits .xor .i64 col (shlK .i64 1 (IntKind.u64.wrap (i64.wrap ((i64.wrap (n - 1)) - g.A))))) (shlK .i64 1 (IntKind.u64.wrap (i64.wrap ((i64.wrap (n - 1)) - g.B)))))) rfl rfl) (rw_nil ?_)
         exact ⟨r_1.Num.A, r_1.Num.B, r_1.Num.C, r_1.Num.D, r_1.Exp, (bits .xor .i64 (bits .xor .i64 col (shlK .i64 1 (IntKind.u64.wrap (i64.wrap ((i64.wrap (n - 1)) - g.A))))) (shlK .i64 1 (IntKind.u64.wrap (i64.wrap ((i64.wrap (n - 1)) - g.B))))), (some_inj hF13), (FF.cons rfl (FF.cons rfl (FF.cons rfl (FF.cons rfl (FF.cons rfl FF.nil))))), (hS20.sel [1, 2, 3] rfl rfl)⟩
        ·skip
         have hF14 := cf' hF12 hb6
         refine cw_skip ?_
         exact ⟨r_1.Num.A, r_1.Num.B, r_1.Num.C, r_1.Num.D, r_1.Exp, col, (some_inj hF14), (FF.cons rfl (FF.cons rfl (FF.cons rfl (FF.cons rfl (FF.cons rfl FF.nil))))), (hS20.sel [1, 2, 3] rfl rfl)⟩
       exact allR_nil
      exact allR_nil
     ·skip
      have hF15 := cf' hF11 hb5
      refine cw_seq (cw_seq (cw_region ?_))
      refine sQ 17 (Y_move (v := vi row) rfl rfl) ?_
      refine sQ 18 (Y_move (v := vi col) rfl rfl) ?_
      refine sQ 19 (Y_bxor (k := .i64) (a := row) (b := col) rfl rfl rfl) ?_
      refine sQ 20 (Y_move (v := vi n) rfl rfl) ?_
      refine sQ 21 (Y_sub (k := .i64) (a := n) (b := 1) rfl rfl rfl) ?_
      refine sQ 22 (Y_fieldAddr (B := aD b) (i := 0) (s := 0) k_fd_70_1_1_3 k_sz_3_1 rfl rfl) ?_
      refine sQ 23 (Y_load1 (B := aD b) (i := 1) (cs := [vi g.Kind, vi g.A, vi g.B]) (v := vi g.A) k_sc_3 rfl rfl (hS7.cf (i := 0) rfl) rfl) ?_
      refine sQ 24 (Y_sub (k := .i64) (a := (i64.wrap (n - 1))) (b := g.A) rfl rfl rfl) ?_
      refine sQ 25 (Y_conv (k := .i64) (a := (i64.wrap ((i64.wrap (n - 1)) - g.A))) (T := 3) (T' := 115) k_us_3 k_int_115_u64 rfl rfl) ?_
      obtain ⟨hsh3, hF15⟩ := chk_inv hF15
      refine sQ 26 (Y_shl (k := .i64) (a := 1) (k' := .u64) (b := (IntKind.u64.wrap (i64.wrap ((i64.wrap (n - 1)) - g.A)))) rfl rfl rfl hsh3) ?_
      refine sQ 27 (Y_bandNot (k := .i64) (a := (bits .xor .i64 row col)) (b := (shlK .i64 1 (IntKind.u64.wrap (i64.wrap ((i64.wrap (n - 1)) - g.A))))) rfl rfl rfl) ?_
      refine sQ 28 (Y_ne (k := .i64) (a := (bits .andNot .i64 (bits .xor .i64 row col) (shlK .i64 1 (IntKind.u64.wrap (i64.wrap ((i64.wrap (n - 1)) - g.A)))))) (b := 0) rfl rfl rfl) (rw_nil ?_)
      refine cw_cond (b := ((bits .andNot .i64 (bits .xor .i64 row col) (shlK .i64 1 (IntKind.u64.wrap (i64.wrap ((i64.wrap (n - 1)) - g.A))))) != 0)) rfl (fun hb7 => ?_) (fun hb7 => ?_)
      ·skip
       have hF16 := ct hF15 hb7
       refine cw_seq (cw_region ?_)
       refine sQ 29 (Y_loadA (B := aD b3) (i := 0) (cs := kZ_) (vs := kZ_) k_ag_65 k_sz_65_5 rfl rfl (hS7.cf (i := 3) rfl) rfl rfl) ?_
       refine s0 (Ys_store (i := 1) (s := 5) (B := aD b1) (T' := 65) (v := gZ_) (vs := kZ_) (k := 0) (cs' := kZ_) hS7 k_sz_65_5 rfl rfl rfl rfl rfl rfl rfl (lB rfl) rfl rfl) ?_
       rintro _ w_16 ⟨rfl, hS21⟩
       have hS21 : ST w0 [] _ [⟨aD b, 70, [vi g.Kind, vi g.A, vi g.B], 3⟩, ⟨aD b1, 65, kZ_, 5⟩, ⟨aD b2, 65, kD_ r_1, 5⟩, ⟨aD b3, 65, kZ_, 5⟩] [] := hS21
       refine rw_nil (cw_ret ?_)
       obtain rfl := some_inj hF16
       obtain rfl := some_inj hF1
       exact ret1 Tryz.results140 (v1 := gZ_) (resAt_cellA (B := aD b1) (i := 0) (cs := kZ_) (vs := kZ_) rfl k_ag_65 k_sz_65_5 (hS21.cf (i := 1) rfl) rfl rfl) ⟨rfl, (hS21.sN [])⟩
      ·skip
       have hF17 := cf' hF15 hb7
       refine cw_skip (cw_seq ?_)
       obtain ⟨r_9, hc8, hF17⟩ := bind_inv hF17
       obtain ⟨r_10, hc9, hF17⟩ := bind_inv hF17
       obtain ⟨r_11, hc10, hF17⟩ := bind_inv hF17
       obtain ⟨x, hx, hF17⟩ := bind_inv hF17
       refine ra_start (hS7.se [0, 2, 3]).fn (by kernel_rfl) ?_
       have hS25 := hS7.drew
       refine rq 0 30 (v := pt (aD b) 0) rfl (hS25.se [0, 2, 3]) (fun w' hw' => (Y_fieldAddr (B := aD b) (i := 0) (s := 0) k_fd_70_0_0_3 k_sz_3_1 rfl rfl)) ?_
       refine rq 1 31 (v := vi g.Kind) rfl (hS25.se [0, 2, 3]) (fun w' hw' => (Y_load1 (B := aD b) (i := 0) (cs := [vi g.Kind, vi g.A, vi g.B]) (v := vi g.Kind) k_sc_3 rfl rfl (ST.cf hw' (i := 0) rfl) rfl)) ?_
       refine rq 3 33 (v := vi n) rfl (hS25.se [0, 2, 3]) (fun w' hw' => (Y_move (v := vi n) rfl rfl)) ?_
       refine rq 4 34 (v := vi row) rfl (hS25.se [0, 2, 3]) (fun w' hw' => (Y_move (v := vi row) rfl rfl)) ?_
       refine rq 5 35 (v := pt (aD b) 1) rfl (hS25.se [0, 2, 3]) (fun w' hw' => (Y_fieldAddr (B := aD b) (i := 0) (s := 0) k_fd_70_1_1_3 k_sz_3_1 rfl rfl)) ?_
       refine rq 6 36 (v := vi g.A) rfl (hS25.se [0, 2, 3]) (fun w' hw' => (Y_load1 (B := aD b) (i := 1) (cs := [vi g.Kind, vi g.A, vi g.B]) (v := vi g.A) k_sc_3 rfl rfl (ST.cf hw' (i := 0) rfl) rfl)) ?_
       refine rq 9 39 (v := vi n) rfl (hS25.se [0, 2, 3]) (fun w' hw' => (Y_move (v := vi n) rfl rfl)) ?_
       refine rq 10 40 (v := vi col) rfl (hS25.se [0, 2, 3]) (fun w' hw' => (Y_move (v := vi col) rfl rfl)) ?_
       refine rq 11 41 (v := pt (aD b) 1) rfl (hS25.se [0, 2, 3]) (fun w' hw' => (Y_fieldAddr (B := aD b) (i := 0) (s := 0) k_fd_70_1_1_3 k_sz_3_1 rfl rfl)) ?_
       refine rq 12 42 (v := vi g.A) rfl (hS25.se [0, 2, 3]) (fun w' hw' => (Y_load1 (B := aD b) (i := 1) (cs := [vi g.Kind, vi g.A, vi g.B]) (v := vi g.A) k_sc_3 rfl rfl (ST.cf hw' (i := 0) rfl) rfl)) ?_
       refine rA [2] ?_
       refine ra_c 32 (i := 2) rfl rfl rfl (Yc_func (g := 125) (vs := [vi g.Kind]) k_call_125 rfl (mc rfl mn) (c_spec_l6One g.Kind _  (hS25.inn0 [] rfl) hc8)) ?_ ?_
       ·rintro _ w_17 ⟨B1, c, rfl, hd7⟩
        have hS26 := hS25.out0 hd7
        refine ⟨(hS26.se [0, 2, 3]), ?_⟩
        refine rA [7] ?_
        refine ra_c 37 (i := 7) rfl rfl rfl (Yc_func (g := 151) (vs := [vi n, vi row, vi g.A]) k_call_151 rfl (mc rfl (mc rfl (mc rfl mn))) (c_spec_l6Bit n row g.A _  (hS26.inn0 [] rfl) hc9)) ?_ ?_
        ·rintro _ w_18 ⟨rfl, hd8⟩
         have hS27 := hS26.out00 hd8
         refine ⟨(hS27.se [0, 2, 3]), ?_⟩
         refine rq 8 38 (v := vi (i64.wrap (2 * r_10))) rfl (hS27.se [0, 2, 3]) (fun w' hw' => (Y_mul (k := .i64) (a := 2) (b := r_10) rfl rfl rfl)) ?_
         refine rA [13] ?_
         refine ra_c 43 (i := 13) rfl rfl rfl (Yc_func (g := 151) (vs := [vi n, vi col, vi g.A]) k_call_151 rfl (mc rfl (mc rfl (mc rfl mn))) (c_spec_l6Bit n col g.A _  (hS27.inn0 [] rfl) hc10)) ?_ ?_
         ·rintro _ w_19 ⟨rfl, hd9⟩
          have hS28 := hS27.out00 hd9
          refine ⟨(hS28.se [0, 2, 3]), ?_⟩
          refine rq 14 44 (v := vi (i64.wrap ((i64.wrap (2 * r_10)) + r_11))) rfl (hS28.se [0, 2, 3]) (fun w' hw' => (Y_add (k := .i64) (a := (i64.wrap (2 * r_10))) (b := r_11) rfl rfl rfl)) ?_
          refine rA [15] ?_
          refine ra_y 45 (i := 15) (v := pt B1 ((i64.wrap ((i64.wrap (2 * r_10)) + r_11)).toNat * 5)) rfl rfl rfl (Y_index (B := B1) (m := r_9.length) (c := c) (k := .i64) (i := (i64.wrap ((i64.wrap (2 * r_10)) + r_11))) k_sl_28_65 k_sz_65_5 rfl rfl rfl (gi_isSome eN2 rfl (hS28.cf (i := 4) rfl) hx) (getI_nn hx) (getI_ltI hx rfl)) (hS28.se [0, 2, 3]) ?_ ?_
          ·skip
           refine rA [16] ?_
           refine ra_y 46 (i := 16) (v := gD_ x) rfl rfl rfl (Y_loadA (B := B1) (i := (i64.wrap ((i64.wrap (2 * r_10)) + r_11)).toNat * 5) (cs := (r_9.flatMap eN0)) (vs := kD_ x) k_ag_65 k_sz_65_5 rfl rfl (hS28.cf (i := 4) rfl) (eN2 x) (gi_seg eN2 hx)) (hS28.se [0, 2, 3]) ?_ ?_
           ·skip
            refine rA [17] ?_
            refine ra_s0 (i := 17) rfl rfl rfl (Ys_store (i := 1) (s := 5) (B := aD b1) (T' := 65) (v := gD_ x) (vs := kD_ x) (k := 0) (cs' := kD_ x) hS28 k_sz_65_5 rfl rfl rfl rfl rfl rfl rfl (lB rfl) rfl rfl) ?_ ?_
            ·rintro _ w_20 ⟨rfl, hS29⟩
             refine ⟨(hS29.se [0, 2, 3]), ?_⟩
             refine ra_done (by kernel_rfl) ?_
             refine cw_ret ?_
             obtain rfl := some_inj hF17
             obtain rfl := some_inj hF1
             exact ret1 Tryz.results140 (v1 := gD_ x) (resAt_cellA (B := aD b1) (i := 0) (cs := kD_ x) (vs := kD_ x) rfl k_ag_65 k_sz_65_5 (hS29.cf (i := 1) rfl) rfl rfl) ⟨rfl, (hS29.sN [])⟩
            exact allR_nil
           exact allR_nil
          exact allR_nil
         exact allR_nil
        exact allR_nil
       exact allR_nil
 rintro f w ⟨A, B, C, D, Exp, to_, rfl, hf, hS8⟩
 refine cw_seq (cw_seq (cw_region ?_))
 refine sQ 114 (Y_move (v := vi row) rfl (hf.get 2 0 rfl)) ?_
 refine sQ 115 (Y_move (v := vi to_) rfl (hf.get 11 4 rfl)) ?_
 refine sQ 116 (Y_eq (k := .i64) (a := row) (b := to_) rfl rfl rfl) (rw_nil ?_)
 refine cw_cond (b := (row == to_)) rfl (fun hb8 => ?_) (fun hb8 => ?_)
 ·skip
  have hF18 := ct hF1 hb8
  refine cw_seq (cw_region ?_)
  refine sQ 117 (Y_loadA (B := aD b2) (i := 0) (cs := [vi A, vi B, vi C, vi D, vi Exp]) (vs := [vi A, vi B, vi C, vi D, vi Exp]) k_ag_65 k_sz_65_5 rfl (hf.get 9 2 rfl) (hS8.cf (i := 1) rfl) rfl rfl) ?_
  refine s0 (Ys_store (i := 0) (s := 5) (B := aD b1) (T' := 65) (v := .agg #[vi A, vi B, vi C, vi D, vi Exp]) (vs := [vi A, vi B, vi C, vi D, vi Exp]) (k := 0) (cs' := [vi A, vi B, vi C, vi D, vi Exp]) hS8 k_sz_65_5 rfl (hf.get 8 1 rfl) rfl rfl rfl rfl rfl (lB rfl) rfl rfl) ?_
  rintro _ w_21 ⟨rfl, hS30⟩
  refine rw_nil (cw_ret ?_)
  obtain rfl := some_inj hF18
  exact ret1 Tryz.results140 (v1 := .agg #[vi A, vi B, vi C, vi D, vi Exp]) (resAt_cellA (B := aD b1) (i := 0) (cs := [vi A, vi B, vi C, vi D, vi Exp]) (vs := [vi A, vi B, vi C, vi D, vi Exp]) (hf.get 8 1 rfl) k_ag_65 k_sz_65_5 (hS30.cf (i := 0) rfl) rfl rfl) ⟨rfl, (hS30.sN [])⟩
 ·skip
  have hF19 := cf' hF1 hb8
  refine cw_skip (cw_seq (cw_region ?_))
  refine sQ 118 (Y_loadA (B := aD b3) (i := 0) (cs := kZ_) (vs := kZ_) k_ag_65 k_sz_65_5 rfl (hf.get 10 3 rfl) (hS8.cf (i := 2) rfl) rfl rfl) ?_
  refine s0 (Ys_store (i := 0) (s := 5) (B := aD b1) (T' := 65) (v := gZ_) (vs := kZ_) (k := 0) (cs' := kZ_) hS8 k_sz_65_5 rfl (hf.get 8 1 rfl) rfl rfl rfl rfl rfl (lB rfl) rfl rfl) ?_
  rintro _ w_22 ⟨rfl, hS31⟩
  refine rw_nil (cw_ret ?_)
  obtain rfl := some_inj hF19
  exact ret1 Tryz.results140 (v1 := gZ_) (resAt_cellA (B := aD b1) (i := 0) (cs := kZ_) (vs := kZ_) (hf.get 8 1 rfl) k_ag_65 k_sz_65_5 (hS31.cf (i := 0) rfl) rfl rfl) ⟨rfl, (hS31.sN [])⟩

theorem c_spec_l6Gate (n : Int) (g : TGate)  (w0 : World)  (hS : ST w0 [] w0 [] []) {r_ : TMatrix} (hF : F_spec_l6Gate n g = some r_) :
  CV Tryz.prog 114 #[vi n, .agg #[vi g.Kind, vi g.A, vi g.B]] w0 (fun v w' => ∃ (B : Option Addr) (c : Nat), v = (gM_ r_ B c) ∧ ST w0 [] w' [⟨B, 65, (r_.Cells.flatMap eN0), c * 5⟩] []) := by
 unfold F_spec_l6Gate at hF
 refine cv_of_cw 36 Tryz.func114 rfl Tryz.ntmps114 rfl ?_
 refine cw_seq (cw_region ?_)
 refine sS 3 (Ys_box (T := 70) (v := .agg #[vi g.Kind, vi g.A, vi g.B]) (cs := [vi g.Kind, vi g.A, vi g.B]) (m := 3) hS rfl rfl rfl rfl) ?_
 rintro _ w_ ⟨b, rfl, hS1⟩
 refine sS 4 (Ys_alloc (T := 48) (cs := kN_) (m := 3) hS1 k_zero_48 rfl rfl rfl) ?_
 rintro _ w_1 ⟨b1, rfl, hS2⟩
 refine rw_nil (cw_seq (cw_region ?_))
 refine sQ 9 (Y_move (v := vi n) rfl rfl) ?_
 refine sQ 10 (Y_conv (k := .i64) (a := n) (T := 3) (T' := 115) k_us_3 k_int_115_u64 rfl rfl) ?_
 obtain ⟨hsh, hF⟩ := chk_inv hF
 refine sQ 11 (Y_shl (k := .i64) (a := 1) (k' := .u64) (b := (IntKind.u64.wrap n)) rfl rfl rfl hsh) ?_
 refine sQ 5 (Y_assign (v := vi (shlK .i64 1 (IntKind.u64.wrap n))) rfl rfl) (rw_nil (cw_seq (cw_region ?_)))
 refine sQ 12 (Y_move (v := vi (shlK .i64 1 (IntKind.u64.wrap n))) rfl rfl) ?_
 refine sQ 13 (Y_move (v := vi (shlK .i64 1 (IntKind.u64.wrap n))) rfl rfl) ?_
 refine sQ 14 (Y_buildS (zs := kN_) (vs := [(0, vi (shlK .i64 1 (IntKind.u64.wrap n))), (1, vi (shlK .i64 1 (IntKind.u64.wrap n)))]) (cs := [vi (shlK .i64 1 (IntKind.u64.wrap n)), vi (shlK .i64 1 (IntKind.u64.wrap n)), .slice none 0 0]) k_pl_48 k_zero_48 rfl (mpc rfl (mpc rfl mpn)) rfl) ?_
 refine sS 6 (Ys_alloc (T := 48) (cs := kN_) (m := 3) hS2 k_zero_48 rfl rfl rfl) ?_
 rintro _ w_2 ⟨b2, rfl, hS3⟩
 refine s0 (Ys_store (i := 2) (s := 3) (B := aD b2) (T' := 48) (v := .agg #[vi (shlK .i64 1 (IntKind.u64.wrap n)), vi (shlK .i64 1 (IntKind.u64.wrap n)), .slice none 0 0]) (vs := [vi (shlK .i64 1 (IntKind.u64.wrap n)), vi (shlK .i64 1 (IntKind.u64.wrap n)), .slice none 0 0]) (k := 0) (cs' := [vi (shlK .i64 1 (IntKind.u64.wrap n)), vi (shlK .i64 1 (IntKind.u64.wrap n)), .slice none 0 0]) hS3 k_sz_48_3 rfl rfl rfl rfl rfl rfl rfl (lB rfl) rfl rfl) ?_
 rintro _ w_3 ⟨rfl, hS4⟩
 refine rw_nil (cw_seq (cw_seq (cw_region ?_)))
 refine sQ 7 (Y_assign (v := vi 0) rfl rfl) (rw_nil ?_)
 obtain ⟨hN, hF⟩ := chk_inv hF
 obtain ⟨z, hz, hF1⟩ := bind_inv hF
 have hS6 := hS4.addNil 65
 refine cw_block ?_
 refine cw_loop (fun k f w => ∃ (i1 : Nat) (Cells : List TDyadic) (B1 : Option Addr) (c1 : Nat), FF f [(0, vi n), (3, pt (aD b) 0), (4, pt (aD b1) 0), (5, vi (shlK .i64 1 (IntKind.u64.wrap n))), (6, pt (aD b2) 0), (7, vi (i1 : Int))] ∧ ST w0 [] w [⟨aD b, 70, [vi g.Kind, vi g.A, vi g.B], 3⟩, ⟨aD b1, 48, kN_, 3⟩, ⟨aD b2, 48, [vi (shlK .i64 1 (IntKind.u64.wrap n)), vi (shlK .i64 1 (IntKind.u64.wrap n)), .slice B1 Cells.length c1], 3⟩, ⟨B1, 65, (Cells.flatMap eN0), c1 * 5⟩] [] ∧ i1 + k = (shlK .i64 1 (IntKind.u64.wrap n)).toNat ∧ forN (F_spec_l6Gate_l1 n g) k i1 Cells = some z) ((shlK .i64 1 (IntKind.u64.wrap n)).toNat) ⟨0, [], none, 0, (FF.cons rfl (FF.cons rfl (FF.cons rfl (FF.cons rfl (FF.cons rfl (FF.cons rfl FF.nil)))))), (hS6.sel [0, 1, 2, 3] rfl rfl), Nat.zero_add _, hz⟩ ?_
 rintro k_ f w ⟨i1, Cells, B1, c1, hf, hS5, hik, hL⟩
 refine cw_seq (cw_seq (cw_region ?_))
 refine sQ 15 (Y_move (v := vi (i1 : Int)) rfl (hf.get 7 5 rfl)) ?_
 refine sQ 16 (Y_move (v := vi (shlK .i64 1 (IntKind.u64.wrap n))) rfl (hf.get 5 3 rfl)) ?_
 refine sQ 17 (Y_lt (k := .i64) (a := (i1 : Int)) (b := (shlK .i64 1 (IntKind.u64.wrap n))) rfl rfl rfl) (rw_nil ?_)
 refine cw_cond (b := (decide ((i1 : Int) < (shlK .i64 1 (IntKind.u64.wrap n))))) rfl (fun hlt => ?_) (fun hlt => ?_)
 ·skip
  have hlt1 : i1 < (shlK .i64 1 (IntKind.u64.wrap n)).toNat := by have h := of_decide_eq_true hlt; omega
  obtain ⟨k_1, rfl⟩ : ∃ k2, k_ = k2 + 1 := ⟨k_ - 1, by omega⟩
  obtain ⟨y, hb, hL1⟩ := forN_go hL
  unfold F_spec_l6Gate_l1 at hb
  refine cw_skip (cw_seq (cw_block (cw_seq (cw_region ?_))))
  refine sQ 8 (Y_assign (v := vi 0) rfl rfl) (rw_nil ?_)
  obtain ⟨hN1, hb⟩ := chk_inv hb
  obtain ⟨z1, hz1, hF2⟩ := bind_inv hb
  refine cw_block ?_
  refine cw_loop (fun k f w => ∃ (j : Nat) (Cells1 : List TDyadic) (B2 : Option Addr) (c2 : Nat), FF f [(0, vi n), (3, pt (aD b) 0), (4, pt (aD b1) 0), (5, vi (shlK .i64 1 (IntKind.u64.wrap n))), (6, pt (aD b2) 0), (7, vi (i1 : Int)), (8, vi (j : Int))] ∧ ST w0 [] w [⟨aD b, 70, [vi g.Kind, vi g.A, vi g.B], 3⟩, ⟨aD b1, 48, kN_, 3⟩, ⟨aD b2, 48, [vi (shlK .i64 1 (IntKind.u64.wrap n)), vi (shlK .i64 1 (IntKind.u64.wrap n)), .slice B2 Cells1.length c2], 3⟩, ⟨B2, 65, (Cells1.flatMap eN0), c2 * 5⟩] [] ∧ j + k = (shlK .i64 1 (IntKind.u64.wrap n)).toNat ∧ forN (F_spec_l6Gate_l2 n g i1) k j Cells1 = some z1) ((shlK .i64 1 (IntKind.u64.wrap n)).toNat) ⟨0, Cells, B1, c1, (FF.cons (hf.get 0 0 rfl) (FF.cons (hf.get 3 1 rfl) (FF.cons (hf.get 4 2 rfl) (FF.cons (hf.get 5 3 rfl) (FF.cons (hf.get 6 4 rfl) (FF.cons (hf.get 7 5 rfl) (FF.cons rfl FF.nil))))))), (hS5.sel [0, 1, 2, 3] rfl rfl), Nat.zero_add _, hz1⟩ ?_
  rintro k_2 f w ⟨j, Cells1, B2, c2, hf1, hS7, hik1, hL2⟩
  refine cw_seq (cw_seq (cw_region ?_))
  refine sQ 20 (Y_move (v := vi (j : Int)) rfl (hf1.get 8 6 rfl)) ?_
  refine sQ 21 (Y_move (v := vi (shlK .i64 1 (IntKind.u64.wrap n))) rfl (hf1.get 5 3 rfl)) ?_
  refine sQ 22 (Y_lt (k := .i64) (a := (j : Int)) (b := (shlK .i64 1 (IntKind.u64.wrap n))) rfl rfl rfl) (rw_nil ?_)
  refine cw_cond (b := (decide ((j : Int) < (shlK .i64 1 (IntKind.u64.wrap n))))) rfl (fun hlt2 => ?_) (fun hlt2 => ?_)
  ·skip
   have hlt3 : j < (shlK .i64 1 (IntKind.u64.wrap n)).toNat := by have h := of_decide_eq_true hlt2; omega
   obtain ⟨k_3, rfl⟩ : ∃ k2, k_2 = k2 + 1 := ⟨k_2 - 1, by omega⟩
   obtain ⟨y1, hb1, hL3⟩ := forN_go hL2
   unfold F_spec_l6Gate_l2 at hb1
   refine cw_skip (cw_seq (cw_block ?_))
   obtain ⟨r_1, hc, hb1⟩ := bind_inv hb1
   obtain ⟨hap, hb1⟩ := chk_inv hb1
   refine cw_mid (fun f w => ∃ (B4 : Option Addr) (c4 : Nat), FF f [(0, vi n), (3, pt (aD b) 0), (4, pt (aD b1) 0), (5, vi (shlK .i64 1 (IntKind.u64.wrap n))), (6, pt (aD b2) 0), (7, vi (i1 : Int)), (8, vi (j : Int))] ∧ ST w0 [] w [⟨aD b, 70, [vi g.Kind, vi g.A, vi g.B], 3⟩, ⟨aD b1, 48, kN_, 3⟩, ⟨aD b2, 48, [vi (shlK .i64 1 (IntKind.u64.wrap n)), vi (shlK .i64 1 (IntKind.u64.wrap n)), .slice B4 ((Cells1 ++ [r_1]).length) c4], 3⟩, ⟨B4, 65, ((Cells1 ++ [r_1]).flatMap eN0), c4 * 5⟩] []) ?_ ?_
   ·skip
    refine ra_start (hS7.se [0, 1]).fn (by kernel_rfl) ?_
    have hS10 := hS7.drew
    refine rq 0 25 (v := pt (aD b2) 2) rfl (hS10.se [0, 1]) (fun w' hw' => (Y_fieldAddr (B := aD b2) (i := 0) (s := 0) k_fd_48_2_2_28 k_sz_28_1 rfl (hf1.get 6 4 rfl))) ?_
    refine rq 2 27 (v := vi n) rfl (hS10.se [0, 1]) (fun w' hw' => (Y_move (v := vi n) rfl (hf1.get 0 0 rfl))) ?_
    refine rq 3 28 (v := .agg #[vi g.Kind, vi g.A, vi g.B]) rfl (hS10.se [0, 1]) (fun w' hw' => (Y_loadA (B := aD b) (i := 0) (cs := [vi g.Kind, vi g.A, vi g.B]) (vs := [vi g.Kind, vi g.A, vi g.B]) k_ag_70 k_sz_70_3 rfl (hf1.get 3 1 rfl) (ST.cf hw' (i := 0) rfl) rfl rfl)) ?_
    refine rq 4 29 (v := vi (i1 : Int)) rfl (hS10.se [0, 1]) (fun w' hw' => (Y_move (v := vi (i1 : Int)) rfl (hf1.get 7 5 rfl))) ?_
    refine rq 5 30 (v := vi (j : Int)) rfl (hS10.se [0, 1]) (fun w' hw' => (Y_move (v := vi (j : Int)) rfl (hf1.get 8 6 rfl))) ?_
    refine rA [1, 6] ?_
    refine ra_y 26 (i := 1) (v := .slice B2 Cells1.length c2) rfl rfl rfl (Y_load1 (B := aD b2) (i := 2) (cs := [vi (shlK .i64 1 (IntKind.u64.wrap n)), vi (shlK .i64 1 (IntKind.u64.wrap n)), .slice B2 Cells1.length c2]) (v := .slice B2 Cells1.length c2) k_sc_28 rfl rfl (hS10.cf (i := 2) rfl) rfl) (hS10.se [0, 1]) ?_ ?_
    ·skip
     refine rA [6] ?_
     refine ra_c 31 (i := 6) rfl rfl rfl (Yc_func (g := 140) (vs := [vi n, .agg #[vi g.Kind, vi g.A, vi g.B], vi (i1 : Int), vi (j : Int)]) k_call_140 rfl (mc rfl (mc rfl (mc rfl (mc rfl mn)))) (c_spec_l6Cell n g (i1 : Int) (j : Int) _  (hS10.inn0 [] rfl) hc)) ?_ ?_
     ·rintro _ w_4 ⟨rfl, hd⟩
      have hS11 := hS10.out00 hd
      refine ⟨(hS11.se [0, 1]), ?_⟩
      refine rA [7] ?_
      refine ra_s 32 (i := 7) rfl rfl rfl (Ys_bslice (s := 5) (len := 1) (vs := [(0, gD_ r_1)]) (cs := kD_ r_1) (zs := kZ_) (m := 5) hS11 k_sl_28_65 k_sz_65_5 k_zc_65 rfl (mpc rfl mpn) rfl rfl rfl (by kernel_rfl) (by kernel_rfl) rfl) ?_ ?_
      ·rintro _ w_5 ⟨b3, rfl, hS12⟩
       refine ⟨(hS12.se [0, 1]), ?_⟩
       refine rA [8] ?_
       refine ra_s 33 (i := 8) rfl rfl rfl (Ys_append (s := 5) (by' := 40) (i := 3) (nn := Cells1.length) (c := c2) (k := 1) (len := (Cells1 ++ [r_1]).length) (B := B2) (xs := ([r_1].flatMap eN0)) (cs' := ((Cells1 ++ [r_1]).flatMap eN0)) hS12 k_sl_28_65 k_sz_65_5 k_by_65_40 k_zero_65 rfl (by decide) rfl rfl rfl rfl (fm_lenn (l := Cells1) eN2 rfl) rfl (hS12.cf (i := 4) rfl) (fm_lenn (l := [r_1]) eN2 rfl) (fm_one' (enc := eN0) enc_Dyadic_one [r_1]) (by have := hap; omega) (by have := hap; simp only [maxLen]; omega) (fm_app _ _) (app_len (l := Cells1) (l' := [r_1]) rfl rfl)) ?_ ?_
       ·rintro _ w_6 ⟨B3, c3, rfl, hS13⟩
        refine ⟨(hS13.se [0, 1]), ?_⟩
        refine rq 9 34 (v := pt (aD b2) 2) rfl (hS13.se [0, 1]) (fun w' hw' => (Y_fieldAddr (B := aD b2) (i := 0) (s := 0) k_fd_48_2_2_28 k_sz_28_1 rfl (hf1.get 6 4 rfl))) ?_
        refine rA [10] ?_
        refine ra_s0 (i := 10) rfl rfl rfl (Ys_store (i := 2) (s := 1) (B := aD b2) (T' := 48) (v := .slice B3 ((Cells1 ++ [r_1]).length) c3) (vs := [.slice B3 ((Cells1 ++ [r_1]).length) c3]) (k := 2) (cs' := [vi (shlK .i64 1 (IntKind.u64.wrap n)), vi (shlK .i64 1 (IntKind.u64.wrap n)), .slice B3 ((Cells1 ++ [r_1]).length) c3]) hS13 k_sz_28_1 rfl rfl rfl rfl rfl rfl rfl (lB rfl) rfl rfl) ?_ ?_
        ·rintro _ w_7 ⟨rfl, hS14⟩
         refine ⟨(hS14.se [0, 1]), ?_⟩
         refine ra_done (by kernel_rfl) ?_
         exact ⟨B3, c3, (FF.cons (hf1.get 0 0 rfl) (FF.cons (hf1.get 3 1 rfl) (FF.cons (hf1.get 4 2 rfl) (FF.cons (hf1.get 5 3 rfl) (FF.cons (hf1.get 6 4 rfl) (FF.cons (hf1.get 7 5 rfl) (FF.cons (hf1.get 8 6 rfl) FF.nil))))))), (hS14.sel [0, 1, 2, 3] rfl rfl)⟩
        exact allR_nil
       exact allR_nil
      exact allR_nil
     exact allR_nil
    refine ra_c 31 (i := 6) rfl rfl rfl (Yc_func (g := 140) (vs := [vi n, .agg #[vi g.Kind, vi g.A, vi g.B], vi (i1 : Int), vi (j : Int)]) k_call_140 rfl (mc rfl (mc rfl (mc rfl (mc rfl mn)))) (c_spec_l6Cell n g (i1 : Int) (j : Int) _  (hS10.inn0 [] rfl) hc)) ?_ ?_
    ·rintro _ w_8 ⟨rfl, hd1⟩
     have hS15 := hS10.out00 hd1
     have hS15 : ST w0 [] _ [⟨aD b, 70, [vi g.Kind, vi g.A, vi g.B], 3⟩, ⟨aD b1, 48, kN_, 3⟩, ⟨aD b2, 48, [vi (shlK .i64 1 (IntKind.u64.wrap n)), vi (shlK .i64 1 (IntKind.u64.wrap n)), .slice B2 Cells1.length c2], 3⟩, ⟨B2, 65, (Cells1.flatMap eN0), c2 * 5⟩] [] := hS15
     refine ⟨(hS15.se [0, 1]), ?_⟩
     refine rA [1, 7] ?_
     refine ra_y 26 (i := 1) (v := .slice B2 Cells1.length c2) rfl rfl rfl (Y_load1 (B := aD b2) (i := 2) (cs := [vi (shlK .i64 1 (IntKind.u64.wrap n)), vi (shlK .i64 1 (IntKind.u64.wrap n)), .slice B2 Cells1.length c2]) (v := .slice B2 Cells1.length c2) k_sc_28 rfl rfl (hS15.cf (i := 2) rfl) rfl) (hS15.se [0, 1]) ?_ ?_
     ·skip
      refine rA [7] ?_
      refine ra_s 32 (i := 7) rfl rfl rfl (Ys_bslice (s := 5) (len := 1) (vs := [(0, gD_ r_1)]) (cs := kD_ r_1) (zs := kZ_) (m := 5) hS15 k_sl_28_65 k_sz_65_5 k_zc_65 rfl (mpc rfl mpn) rfl rfl rfl (by kernel_rfl) (by kernel_rfl) rfl) ?_ ?_
      ·rintro _ w_9 ⟨b3, rfl, hS16⟩
       refine ⟨(hS16.se [0, 1]), ?_⟩
       refine rA [8] ?_
       refine ra_s 33 (i := 8) rfl rfl rfl (Ys_append (s := 5) (by' := 40) (i := 3) (nn := Cells1.length) (c := c2) (k := 1) (len := (Cells1 ++ [r_1]).length) (B := B2) (xs := ([r_1].flatMap eN0)) (cs' := ((Cells1 ++ [r_1]).flatMap eN0)) hS16 k_sl_28_65 k_sz_65_5 k_by_65_40 k_zero_65 rfl (by decide) rfl rfl rfl rfl (fm_lenn (l := Cells1) eN2 rfl) rfl (hS16.cf (i := 4) rfl) (fm_lenn (l := [r_1]) eN2 rfl) (fm_one' (enc := eN0) enc_Dyadic_one [r_1]) (by have := hap; omega) (by have := hap; simp only [maxLen]; omega) (fm_app _ _) (app_len (l := Cells1) (l' := [r_1]) rfl rfl)) ?_ ?_
       ·rintro _ w_10 ⟨B3, c3, rfl, hS17⟩
        refine ⟨(hS17.se [0, 1]), ?_⟩
        refine rq 9 34 (v := pt (aD b2) 2) rfl (hS17.se [0, 1]) (fun w' hw' => (Y_fieldAddr (B := aD b2) (i := 0) (s := 0) k_fd_48_2_2_28 k_sz_28_1 rfl (hf1.get 6 4 rfl))) ?_
        refine rA [10] ?_
        refine ra_s0 (i := 10) rfl rfl rfl (Ys_store (i := 2) (s := 1) (B := aD b2) (T' := 48) (v := .slice B3 ((Cells1 ++ [r_1]).length) c3) (vs := [.slice B3 ((Cells1 ++ [r_1]).length) c3]) (k := 2) (cs' := [vi (shlK .i64 1 (IntKind.u64.wrap n)), vi (shlK .i64 1 (IntKind.u64.wrap n)), .slice B3 ((Cells1 ++ [r_1]).length) c3]) hS17 k_sz_28_1 rfl rfl rfl rfl rfl rfl rfl (lB rfl) rfl rfl) ?_ ?_
        ·rintro _ w_11 ⟨rfl, hS18⟩
         refine ⟨(hS18.se [0, 1]), ?_⟩
         refine ra_done (by kernel_rfl) ?_
         exact ⟨B3, c3, (FF.cons (hf1.get 0 0 rfl) (FF.cons (hf1.get 3 1 rfl) (FF.cons (hf1.get 4 2 rfl) (FF.cons (hf1.get 5 3 rfl) (FF.cons (hf1.get 6 4 rfl) (FF.cons (hf1.get 7 5 rfl) (FF.cons (hf1.get 8 6 rfl) FF.nil))))))), (hS18.sel [0, 1, 2, 3] rfl rfl)⟩
        exact allR_nil
       exact allR_nil
      exact allR_nil
     refine ra_s 32 (i := 7) rfl rfl rfl (Ys_bslice (s := 5) (len := 1) (vs := [(0, gD_ r_1)]) (cs := kD_ r_1) (zs := kZ_) (m := 5) hS15 k_sl_28_65 k_sz_65_5 k_zc_65 rfl (mpc rfl mpn) rfl rfl rfl (by kernel_rfl) (by kernel_rfl) rfl) ?_ ?_
     ·rintro _ w_12 ⟨b3, rfl, hS19⟩
      refine ⟨(hS19.se [0, 1]), ?_⟩
      refine rA [1] ?_
      refine ra_y 26 (i := 1) (v := .slice B2 Cells1.length c2) rfl rfl rfl (Y_load1 (B := aD b2) (i := 2) (cs := [vi (shlK .i64 1 (IntKind.u64.wrap n)), vi (shlK .i64 1 (IntKind.u64.wrap n)), .slice B2 Cells1.length c2]) (v := .slice B2 Cells1.length c2) k_sc_28 rfl rfl (hS19.cf (i := 2) rfl) rfl) (hS19.se [0, 1]) ?_ ?_
      ·skip
       refine rA [8] ?_
       refine ra_s 33 (i := 8) rfl rfl rfl (Ys_append (s := 5) (by' := 40) (i := 3) (nn := Cells1.length) (c := c2) (k := 1) (len := (Cells1 ++ [r_1]).length) (B := B2) (xs := ([r_1].flatMap eN0)) (cs' := ((Cells1 ++ [r_1]).flatMap eN0)) hS19 k_sl_28_65 k_sz_65_5 k_by_65_40 k_zero_65 rfl (by decide) rfl rfl rfl rfl (fm_lenn (l := Cells1) eN2 rfl) rfl (hS19.cf (i := 4) rfl) (fm_lenn (l := [r_1]) eN2 rfl) (fm_one' (enc := eN0) enc_Dyadic_one [r_1]) (by have := hap; omega) (by have := hap; simp only [maxLen]; omega) (fm_app _ _) (app_len (l := Cells1) (l' := [r_1]) rfl rfl)) ?_ ?_
       ·rintro _ w_13 ⟨B3, c3, rfl, hS20⟩
        refine ⟨(hS20.se [0, 1]), ?_⟩
        refine rq 9 34 (v := pt (aD b2) 2) rfl (hS20.se [0, 1]) (fun w' hw' => (Y_fieldAddr (B := aD b2) (i := 0) (s := 0) k_fd_48_2_2_28 k_sz_28_1 rfl (hf1.get 6 4 rfl))) ?_
        refine rA [10] ?_
        refine ra_s0 (i := 10) rfl rfl rfl (Ys_store (i := 2) (s := 1) (B := aD b2) (T' := 48) (v := .slice B3 ((Cells1 ++ [r_1]).length) c3) (vs := [.slice B3 ((Cells1 ++ [r_1]).length) c3]) (k := 2) (cs' := [vi (shlK .i64 1 (IntKind.u64.wrap n)), vi (shlK .i64 1 (IntKind.u64.wrap n)), .slice B3 ((Cells1 ++ [r_1]).length) c3]) hS20 k_sz_28_1 rfl rfl rfl rfl rfl rfl rfl (lB rfl) rfl rfl) ?_ ?_
        ·rintro _ w_14 ⟨rfl, hS21⟩
         refine ⟨(hS21.se [0, 1]), ?_⟩
         refine ra_done (by kernel_rfl) ?_
         exact ⟨B3, c3, (FF.cons (hf1.get 0 0 rfl) (FF.cons (hf1.get 3 1 rfl) (FF.cons (hf1.get 4 2 rfl) (FF.cons (hf1.get 5 3 rfl) (FF.cons (hf1.get 6 4 rfl) (FF.cons (hf1.get 7 5 rfl) (FF.cons (hf1.get 8 6 rfl) FF.nil))))))), (hS21.sel [0, 1, 2, 3] rfl rfl)⟩
        exact allR_nil
       exact allR_nil
      exact allR_nil
     exact allR_nil
    exact allR_nil
   rintro f w ⟨B4, c4, hf2, hS9⟩
   refine cw_region ?_
   refine sQ 23 (Y_move (v := vi (j : Int)) rfl (hf2.get 8 6 rfl)) ?_
   refine sQ 24 (Y_add (k := .i64) (a := (j : Int)) (b := 1) rfl rfl rfl) ?_
   refine sQ 8 (Y_assign (v := vi (i64.wrap ((j : Int) + 1))) rfl rfl) (rw_nil ?_)
   obtain rfl := some_inj hb1
   exact ⟨k_3, Nat.lt_succ_self _, j + 1, (Cells1 ++ [r_1]), B4, c4, (FF.cons (hf2.get 0 0 rfl) (FF.cons (hf2.get 3 1 rfl) (FF.cons (hf2.get 4 2 rfl) (FF.cons (hf2.get 5 3 rfl) (FF.cons (hf2.get 6 4 rfl) (FF.cons (hf2.get 7 5 rfl) (FF.cons (congrArg (Value.int .i64) (wr_succ hlt3 hN1)) FF.nil))))))), (hS9.sel [0, 1, 2, 3] rfl rfl), (by omega), hL3⟩
  ·skip
   obtain rfl : k_2 = 0 := by have h := of_decide_eq_false hlt2; omega
   refine cw_exit rfl ?_
   obtain rfl := some_inj hL2
   refine cw_region ?_
   refine sQ 18 (Y_move (v := vi (i1 : Int)) rfl (hf1.get 7 5 rfl)) ?_
   refine sQ 19 (Y_add (k := .i64) (a := (i1 : Int)) (b := 1) rfl rfl rfl) ?_
   refine sQ 7 (Y_assign (v := vi (i64.wrap ((i1 : Int) + 1))) rfl rfl) (rw_nil ?_)
   obtain rfl := some_inj hF2
   exact ⟨k_1, Nat.lt_succ_self _, i1 + 1, Cells1, B2, c2, (FF.cons (hf1.get 0 0 rfl) (FF.cons (hf1.get 3 1 rfl) (FF.cons (hf1.get 4 2 rfl) (FF.cons (hf1.get 5 3 rfl) (FF.cons (hf1.get 6 4 rfl) (FF.cons (congrArg (Value.int .i64) (wr_succ hlt1 hN)) FF.nil)))))), (hS7.sel [0, 1, 2, 3] rfl rfl), (by omega), hL1⟩
 ·skip
  obtain rfl : k_ = 0 := by have h := of_decide_eq_false hlt; omega
  refine cw_exit rfl ?_
  obtain rfl := some_inj hL
  refine cw_seq (cw_region ?_)
  refine sQ 35 (Y_loadA (B := aD b2) (i := 0) (cs := [vi (shlK .i64 1 (IntKind.u64.wrap n)), vi (shlK .i64 1 (IntKind.u64.wrap n)), .slice B1 Cells.length c1]) (vs := [vi (shlK .i64 1 (IntKind.u64.wrap n)), vi (shlK .i64 1 (IntKind.u64.wrap n)), .slice B1 Cells.length c1]) k_ag_48 k_sz_48_3 rfl (hf.get 6 4 rfl) (hS5.cf (i := 2) rfl) rfl rfl) ?_
  refine s0 (Ys_store (i := 1) (s := 3) (B := aD b1) (T' := 48) (v := .agg #[vi (shlK .i64 1 (IntKind.u64.wrap n)), vi (shlK .i64 1 (IntKind.u64.wrap n)), .slice B1 Cells.length c1]) (vs := [vi (shlK .i64 1 (IntKind.u64.wrap n)), vi (shlK .i64 1 (IntKind.u64.wrap n)), .slice B1 Cells.length c1]) (k := 0) (cs' := [vi (shlK .i64 1 (IntKind.u64.wrap n)), vi (shlK .i64 1 (IntKind.u64.wrap n)), .slice B1 Cells.length c1]) hS5 k_sz_48_3 rfl (hf.get 4 2 rfl) rfl rfl rfl rfl rfl (lB rfl) rfl rfl) ?_
  rintro _ w_15 ⟨rfl, hS22⟩
  refine rw_nil (cw_ret ?_)
  obtain rfl := some_inj hF1
  exact ret1 Tryz.results114 (v1 := .agg #[vi (shlK .i64 1 (IntKind.u64.wrap n)), vi (shlK .i64 1 (IntKind.u64.wrap n)), .slice B1 Cells.length c1]) (resAt_cellA (B := aD b1) (i := 0) (cs := [vi (shlK .i64 1 (IntKind.u64.wrap n)), vi (shlK .i64 1 (IntKind.u64.wrap n)), .slice B1 Cells.length c1]) (vs := [vi (shlK .i64 1 (IntKind.u64.wrap n)), vi (shlK .i64 1 (IntKind.u64.wrap n)), .slice B1 Cells.length c1]) (hf.get 4 2 rfl) k_ag_48 k_sz_48_3 (hS22.cf (i := 1) rfl) rfl rfl) ⟨B1, c1, rfl, (hS22.sN [3])⟩

theorem c_spec_l2C_run (c : Tl2C) (x : TCircuit) (m : TMatrix) (B : Option Addr) (B1 : Option Addr) (c1 n : Nat) (B2 : Option Addr) (c2 n1 : Nat) (w0 : World) (hn : x.Gates.length = n) (hn1 : m.Cells.length = n1) (hS : ST w0 (bl [⟨B, 82, [.bool c.bad], 1⟩, ⟨B2, 65, (m.Cells.flatMap eN0), c2 * 5⟩]) w0 [⟨B, 82, [.bool c.bad], 1⟩, ⟨B2, 65, (m.Cells.flatMap eN0), c2 * 5⟩] [⟨B1, (x.Gates.flatMap enc_Gate)⟩]) {r_ : TMatrix} {m1 : Tl2C} (hF : F_spec_l2C_run c x m = some (r_, m1)) :
  CV Tryz.prog 78 #[pt B 0, .agg #[vi x.Qubits, .slice B1 n c1], .agg #[vi m.Rows, vi m.Cols, .slice B2 n1 c2]] w0 (fun v w' => ∃ (B3 : Option Addr) (c3 : Nat), v = (gM_ r_ B3 c3) ∧ ST w0 (bl [⟨B, 82, [.bool c.bad], 1⟩, ⟨B2, 65, (m.Cells.flatMap eN0), c2 * 5⟩]) w' [⟨B, 82, [.bool m1.bad], 1⟩, ⟨B3, 65, (r_.Cells.flatMap eN0), c3 * 5⟩] []) := by
 subst hn
 subst hn1
 unfold F_spec_l2C_run at hF
 refine cv_of_cw 30 Tryz.func78 rfl Tryz.ntmps78 rfl ?_
 refine cw_seq (cw_region ?_)
 refine sS 4 (Ys_box (T := 39) (v := .agg #[vi x.Qubits, .slice B1 x.Gates.length c1]) (cs := [vi x.Qubits, .slice B1 x.Gates.length c1]) (m := 2) hS rfl rfl rfl rfl) ?_
 rintro _ w_ ⟨b, rfl, hS1⟩
 refine sS 5 (Ys_box (T := 48) (v := gM_ m B2 c2) (cs := kM_ m B2 c2) (m := 3) hS1 rfl rfl rfl rfl) ?_
 rintro _ w_1 ⟨b1, rfl, hS2⟩
 refine sS 6 (Ys_alloc (T := 48) (cs := kN_) (m := 3) hS2 k_zero_48 rfl rfl rfl) ?_
 rintro _ w_2 ⟨b2, rfl, hS3⟩
 refine rw_nil (cw_seq (cw_seq (cw_region ?_)))
 refine sQ 9 (Y_fieldAddr (B := aD b) (i := 0) (s := 0) k_fd_39_1_1_37 k_sz_37_1 rfl rfl) ?_
 refine sQ 10 (Y_load1 (B := aD b) (i := 1) (cs := [vi x.Qubits, .slice B1 x.Gates.length c1]) (v := .slice B1 x.Gates.length c1) k_sc_37 rfl rfl (hS3.cf (i := 2) rfl) rfl) ?_
 refine sQ 11 (Y_len (B := B1) (m := x.Gates.length) (c := c1) k_sl_37_70 rfl rfl) ?_
 refine sQ 12 (Y_move (v := vi 0) rfl rfl) (rw_nil ?_)
 obtain ⟨hN, hF⟩ := chk_inv hF
 obtain ⟨z, hz, hF1⟩ := bind_inv hF
 refine cw_block ?_
 refine cw_loop (fun k f w => ∃ (i : Nat) (bad : Bool) (Rows : Int) (Cols : Int) (Cells : List TDyadic) (B4 : Option Addr) (c4 : Nat), FF f [(0, pt B 0), (4, pt (aD b) 0), (5, pt (aD b1) 0), (6, pt (aD b2) 0), (10, .slice B1 x.Gates.length c1), (11, vi (x.Gates.length : Int)), (12, vi (i : Int))] ∧ ST w0 (bl [⟨B, 82, [.bool c.bad], 1⟩, ⟨B2, 65, (m.Cells.flatMap eN0), c2 * 5⟩]) w [⟨B, 82, [.bool bad], 1⟩, ⟨aD b, 39, [vi x.Qubits, .slice B1 x.Gates.length c1], 2⟩, ⟨aD b1, 48, [vi Rows, vi Cols, .slice B4 Cells.length c4], 3⟩, ⟨B4, 65, (Cells.flatMap eN0), c4 * 5⟩, ⟨aD b2, 48, kN_, 3⟩] [⟨B1, (x.Gates.flatMap enc_Gate)⟩] ∧ i + k = x.Gates.length ∧ forN (F_spec_l2C_run_l1 x) k i (bad, Rows, Cols, Cells) = some z) x.Gates.length ⟨0, c.bad, m.Rows, m.Cols, m.Cells, B2, c2, (FF.cons rfl (FF.cons rfl (FF.cons rfl (FF.cons rfl (FF.cons rfl (FF.cons rfl (FF.cons rfl FF.nil))))))), (hS3.sel [0, 2, 3, 1, 4] rfl rfl), Nat.zero_add _, hz⟩ ?_
 rintro k_ f w ⟨i, bad, Rows, Cols, Cells, B4, c4, hf, hS4, hik, hL⟩
 refine cw_seq (cw_region ?_)
 refine sQ 13 (Y_lt (k := .i64) (a := (i : Int)) (b := (x.Gates.length : Int)) rfl (hf.get 12 6 rfl) (hf.get 11 5 rfl)) (rw_nil (cw_seq ?_))
 refine cw_cond (b := (decide ((i : Int) < (x.Gates.length : Int)))) rfl (fun hlt => ?_) (fun hlt => ?_)
 ·skip
  have hlt1 : i < x.Gates.length := by have h := of_decide_eq_true hlt; omega
  obtain ⟨k_1, rfl⟩ : ∃ k2, k_ = k2 + 1 := ⟨k_ - 1, by omega⟩
  obtain ⟨y, hb, hL1⟩ := forN_go hL
  unfold F_spec_l2C_run_l1 at hb
  refine cw_skip (cw_seq ?_)
  obtain ⟨z1, hz1, hF2⟩ := bind_inv hb
  refine cw_mid (fun f w => ∃ (bad1 : Bool) (Rows1 : Int) (Cols1 : Int) (Cells1 : List TDyadic) (B5 : Option Addr) (c5 : Nat), (bad1, Rows1, Cols1, Cells1) = z1 ∧ FF f [(0, pt B 0), (4, pt (aD b) 0), (5, pt (aD b1) 0), (6, pt (aD b2) 0), (10, .slice B1 x.Gates.length c1), (11, vi (x.Gates.length : Int)), (12, vi (i : Int))] ∧ ST w0 (bl [⟨B, 82, [.bool c.bad], 1⟩, ⟨B2, 65, (m.Cells.flatMap eN0), c2 * 5⟩]) w [⟨B, 82, [.bool bad1], 1⟩, ⟨aD b, 39, [vi x.Qubits, .slice B1 x.Gates.length c1], 2⟩, ⟨aD b1, 48, [vi Rows1, vi Cols1, .slice B5 Cells1.length c5], 3⟩, ⟨B5, 65, (Cells1.flatMap eN0), c5 * 5⟩, ⟨aD b2, 48, kN_, 3⟩] [⟨B1, (x.Gates.flatMap enc_Gate)⟩]) ?_ ?_
  ·skip
   refine cw_block (cw_seq (cw_region ?_))
   obtain ⟨x1, hx, hz1⟩ := bind_inv hz1
   refine sQ 14 (Y_index (B := B1) (m := x.Gates.length) (c := c1) (k := .i64) (i := (i : Int)) k_sl_37_70 k_sz_70_3 rfl (hf.get 10 4 rfl) (hf.get 12 6 rfl) (gi_isSome enc_Gate_len rfl (hS4.rf (i := 0) rfl) hx) (getI_nn hx) (getI_ltI hx rfl)) ?_
   refine sQ 15 (Y_loadA (B := B1) (i := (i : Int).toNat * 3) (cs := (x.Gates.flatMap enc_Gate)) (vs := [vi x1.Kind, vi x1.A, vi x1.B]) k_ag_70 k_sz_70_3 rfl rfl (hS4.rf (i := 0) rfl) (enc_Gate_len x1) (gi_seg enc_Gate_len hx)) ?_
   refine sS 8 (Ys_alloc (T := 70) (cs := [vi 0, vi 0, vi 0]) (m := 3) hS4 k_zero_70 rfl rfl rfl) ?_
   rintro _ w_3 ⟨b3, rfl, hS6⟩
   refine s0 (Ys_store (i := 5) (s := 3) (B := aD b3) (T' := 70) (v := .agg #[vi x1.Kind, vi x1.A, vi x1.B]) (vs := [vi x1.Kind, vi x1.A, vi x1.B]) (k := 0) (cs' := [vi x1.Kind, vi x1.A, vi x1.B]) hS6 k_sz_70_3 rfl rfl rfl rfl rfl rfl rfl (lB rfl) rfl rfl) ?_
   rintro _ w_4 ⟨rfl, hS7⟩
   refine rw_nil (cw_seq (cw_region ?_))
   refine sQ 16 (Y_move (v := pt B 0) rfl (hf.get 0 0 rfl)) ?_
   refine sQ 17 (Y_nilCheck (B := B) (i := 0) rfl rfl) ?_
   refine sQ 18 (Y_fieldAddr (B := B) (i := 0) (s := 0) k_fd_82_0_0_4 k_sz_4_1 rfl rfl) ?_
   refine sQ 19 (Y_load1 (B := B) (i := 0) (cs := [.bool bad]) (v := .bool bad) k_sc_4 rfl rfl (hS7.cf (i := 0) rfl) rfl) ?_
   refine sQ 20 (Y_not (p := bad) rfl rfl) (rw_nil ?_)
   refine cw_cond (b := (!bad)) rfl (fun hb1 => ?_) (fun hb1 => ?_)
   ·skip
    have hF3 := ct hz1 hb1
    obtain ⟨r_1, hc, hF3⟩ := bind_inv hF3
    obtain ⟨⟨r_2, m2⟩, hc1, hF3⟩ := bind_inv hF3
    refine cw_mid (fun f w => ∃ (B8 : Option Addr) (c8 : Nat), FF f [(0, pt B 0), (4, pt (aD b) 0), (5, pt (aD b1) 0), (6, pt (aD b2) 0), (10, .slice B1 x.Gates.length c1), (11, vi (x.Gates.length : Int)), (12, vi (i : Int))] ∧ ST w0 (bl [⟨B, 82, [.bool c.bad], 1⟩, ⟨B2, 65, (m.Cells.flatMap eN0), c2 * 5⟩]) w [⟨B, 82, [.bool m2.bad], 1⟩, ⟨aD b, 39, [vi x.Qubits, .slice B1 x.Gates.length c1], 2⟩, ⟨aD b1, 48, kM_ r_2 B8 c8, 3⟩, ⟨B8, 65, (r_2.Cells.flatMap eN0), c8 * 5⟩, ⟨aD b2, 48, kN_, 3⟩] [⟨B1, (x.Gates.flatMap enc_Gate)⟩]) ?_ ?_
    ·skip
     refine ra_start (hS7.se [1, 3, 4, 5]).fn (by kernel_rfl) ?_
     have hS11 := hS7.drew
     refine rq 0 21 (v := pt B 0) rfl (hS11.se [1, 3, 4, 5]) (fun w' hw' => (Y_move (v := pt B 0) rfl (hf.get 0 0 rfl))) ?_
     refine rq 1 22 (v := pt (aD b) 0) rfl (hS11.se [1, 3, 4, 5]) (fun w' hw' => (Y_fieldAddr (B := aD b) (i := 0) (s := 0) k_fd_39_0_0_3 k_sz_3_1 rfl (hf.get 4 1 rfl))) ?_
     refine rq 2 23 (v := vi x.Qubits) rfl (hS11.se [1, 3, 4, 5]) (fun w' hw' => (Y_load1 (B := aD b) (i := 0) (cs := [vi x.Qubits, .slice B1 x.Gates.length c1]) (v := vi x.Qubits) k_sc_3 rfl rfl (ST.cf hw' (i := 0) rfl) rfl)) ?_
     refine rq 3 24 (v := .agg #[vi x1.Kind, vi x1.A, vi x1.B]) rfl (hS11.se [1, 3, 4, 5]) (fun w' hw' => (Y_loadA (B := aD b3) (i := 0) (cs := [vi x1.Kind, vi x1.A, vi x1.B]) (vs := [vi x1.Kind, vi x1.A, vi x1.B]) k_ag_70 k_sz_70_3 rfl rfl (ST.cf hw' (i := 3) rfl) rfl rfl)) ?_
     refine rA [4, 5] ?_
     refine ra_c 25 (i := 4) rfl rfl rfl (Yc_func (g := 114) (vs := [vi x.Qubits, .agg #[vi x1.Kind, vi x1.A, vi x1.B]]) k_call_114 rfl (mc rfl (mc rfl mn)) (c_spec_l6Gate x.Qubits x1 _  (hS11.inn0 [] rfl) hc)) ?_ ?_
     ·rintro _ w_5 ⟨B6, c6, rfl, hd⟩
      have hS12 := hS11.out0 hd
      refine ⟨(hS12.se [1, 3, 4, 5]), ?_⟩
      refine rA [5] ?_
      refine ra_y 26 (i := 5) (v := .agg #[vi Rows, vi Cols, .slice B4 Cells.length c4]) rfl rfl rfl (Y_loadA (B := aD b1) (i := 0) (cs := [vi Rows, vi Cols, .slice B4 Cells.length c4]) (vs := [vi Rows, vi Cols, .slice B4 Cells.length c4]) k_ag_48 k_sz_48_3 rfl (hf.get 5 2 rfl) (hS12.cf (i := 2) rfl) rfl rfl) (hS12.se [1, 3, 4, 5]) ?_ ?_
      ·skip
       refine rA [6] ?_
       refine ra_c 27 (i := 6) rfl rfl rfl (Yc_func (g := 98) (vs := [pt B 0, gM_ r_1 B6 c6, .agg #[vi Rows, vi Cols, .slice B4 Cells.length c4]]) k_call_98 rfl (mc rfl (mc rfl (mc rfl mn))) (c_spec_l2C_times (Tl2C.mk bad) r_1 (TMatrix.mk Rows Cols Cells) B B6 c6 r_1.Cells.length B4 c4 Cells.length _ rfl rfl (hS12.inn [true, false, false, false, false, false, false] rfl [(false, 5), (false, 2)] rfl) hc1)) ?_ ?_
       ·rintro _ w_6 ⟨B7, c7, rfl, hd1⟩
        have hS13 := hS12.out [true, false, false, false, false, false, false] rfl hd1
        refine ⟨(hS13.se [0, 2, 3, 4]), ?_⟩
        refine rA [7] ?_
        refine ra_s0 (i := 7) rfl rfl rfl (Ys_store (i := 1) (s := 3) (B := aD b1) (T' := 48) (v := gM_ r_2 B7 c7) (vs := kM_ r_2 B7 c7) (k := 0) (cs' := kM_ r_2 B7 c7) hS13 k_sz_48_3 rfl (hf.get 5 2 rfl) rfl rfl rfl rfl rfl (lB rfl) rfl rfl) ?_ ?_
        ·rintro _ w_7 ⟨rfl, hS14⟩
         have hS14 : ST w0 (bl [⟨B, 82, [.bool c.bad], 1⟩, ⟨B2, 65, (m.Cells.flatMap eN0), c2 * 5⟩]) _ [⟨aD b, 39, [vi x.Qubits, .slice B1 x.Gates.length c1], 2⟩, ⟨aD b1, 48, kM_ r_2 B7 c7, 3⟩, ⟨B4, 65, (Cells.flatMap eN0), c4 * 5⟩, ⟨aD b2, 48, kN_, 3⟩, ⟨aD b3, 70, [vi x1.Kind, vi x1.A, vi x1.B], 3⟩, ⟨B6, 65, (r_1.Cells.flatMap eN0), c6 * 5⟩, ⟨B, 82, [.bool m2.bad], 1⟩, ⟨B7, 65, (r_2.Cells.flatMap eN0), c7 * 5⟩] [⟨B1, (x.Gates.flatMap enc_Gate)⟩] := hS14
         refine ⟨(hS14.se [0, 2, 3, 4]), ?_⟩
         refine ra_done (by kernel_rfl) ?_
         exact ⟨B7, c7, (FF.cons (hf.get 0 0 rfl) (FF.cons (hf.get 4 1 rfl) (FF.cons (hf.get 5 2 rfl) (FF.cons (hf.get 6 3 rfl) (FF.cons (hf.get 10 4 rfl) (FF.cons (hf.get 11 5 rfl) (FF.cons (hf.get 12 6 rfl) FF.nil))))))), (hS14.sel [6, 0, 1, 7, 3] rfl rfl)⟩
        exact allR_nil
       exact allR_nil
      exact allR_nil
     refine ra_y 26 (i := 5) (v := .agg #[vi Rows, vi Cols, .slice B4 Cells.length c4]) rfl rfl rfl (Y_loadA (B := aD b1) (i := 0) (cs := [vi Rows, vi Cols, .slice B4 Cells.length c4]) (vs := [vi Rows, vi Cols, .slice B4 Cells.length c4]) k_ag_48 k_sz_48_3 rfl (hf.get 5 2 rfl) (hS11.cf (i := 2) rfl) rfl rfl) (hS11.se [1, 3, 4, 5]) ?_ ?_
     ·skip
      refine rA [4] ?_
      refine ra_c 25 (i := 4) rfl rfl rfl (Yc_func (g := 114) (vs := [vi x.Qubits, .agg #[vi x1.Kind, vi x1.A, vi x1.B]]) k_call_114 rfl (mc rfl (mc rfl mn)) (c_spec_l6Gate x.Qubits x1 _  (hS11.inn0 [] rfl) hc)) ?_ ?_
      ·rintro _ w_8 ⟨B6, c6, rfl, hd2⟩
       have hS15 := hS11.out0 hd2
       refine ⟨(hS15.se [1, 3, 4, 5]), ?_⟩
       refine rA [6] ?_
       refine ra_c 27 (i := 6) rfl rfl rfl (Yc_func (g := 98) (vs := [pt B 0, gM_ r_1 B6 c6, .agg #[vi Rows, vi Cols, .slice B4 Cells.length c4]]) k_call_98 rfl (mc rfl (mc rfl (mc rfl mn))) (c_spec_l2C_times (Tl2C.mk bad) r_1 (TMatrix.mk Rows Cols Cells) B B6 c6 r_1.Cells.length B4 c4 Cells.length _ rfl rfl (hS15.inn [true, false, false, false, false, false, false] rfl [(false, 5), (false, 2)] rfl) hc1)) ?_ ?_
       ·rintro _ w_9 ⟨B7, c7, rfl, hd3⟩
        have hS16 := hS15.out [true, false, false, false, false, false, false] rfl hd3
        refine ⟨(hS16.se [0, 2, 3, 4]), ?_⟩
        refine rA [7] ?_
        refine ra_s0 (i := 7) rfl rfl rfl (Ys_store (i := 1) (s := 3) (B := aD b1) (T' := 48) (v := gM_ r_2 B7 c7) (vs := kM_ r_2 B7 c7) (k := 0) (cs' := kM_ r_2 B7 c7) hS16 k_sz_48_3 rfl (hf.get 5 2 rfl) rfl rfl rfl rfl rfl (lB rfl) rfl rfl) ?_ ?_
        ·rintro _ w_10 ⟨rfl, hS17⟩
         refine ⟨(hS17.se [0, 2, 3, 4]), ?_⟩
         refine ra_done (by kernel_rfl) ?_
         exact ⟨B7, c7, (FF.cons (hf.get 0 0 rfl) (FF.cons (hf.get 4 1 rfl) (FF.cons (hf.get 5 2 rfl) (FF.cons (hf.get 6 3 rfl) (FF.cons (hf.get 10 4 rfl) (FF.cons (hf.get 11 5 rfl) (FF.cons (hf.get 12 6 rfl) FF.nil))))))), (hS17.sel [6, 0, 1, 7, 3] rfl rfl)⟩
        exact allR_nil
       exact allR_nil
      exact allR_nil
     exact allR_nil
    rintro f w ⟨B8, c8, hf2, hS10⟩
    exact ⟨m2.bad, r_2.Rows, r_2.Cols, r_2.Cells, B8, c8, (some_inj hF3), (FF.cons (hf2.get 0 0 rfl) (FF.cons (hf2.get 4 1 rfl) (FF.cons (hf2.get 5 2 rfl) (FF.cons (hf2.get 6 3 rfl) (FF.cons (hf2.get 10 4 rfl) (FF.cons (hf2.get 11 5 rfl) (FF.cons (hf2.get 12 6 rfl) FF.nil))))))), (hS10.sel [0, 1, 2, 3, 4] rfl rfl)⟩
   ·skip
    have hF4 := cf' hz1 hb1
    refine cw_skip ?_
    exact ⟨bad, Rows, Cols, Cells, B4, c4, (some_inj hF4), (FF.cons (hf.get 0 0 rfl) (FF.cons (hf.get 4 1 rfl) (FF.cons (hf.get 5 2 rfl) (FF.cons (hf.get 6 3 rfl) (FF.cons (hf.get 10 4 rfl) (FF.cons (hf.get 11 5 rfl) (FF.cons (hf.get 12 6 rfl) FF.nil))))))), (hS7.sel [0, 1, 2, 3, 4] rfl rfl)⟩
  rintro f w ⟨bad1, Rows1, Cols1, Cells1, B5, c5, rfl, hf1, hS5⟩
  refine cw_region ?_
  refine sQ 28 (Y_add (k := .i64) (a := (i : Int)) (b := 1) rfl (hf1.get 12 6 rfl) rfl) ?_
  refine sQ 12 (Y_move (v := vi (i64.wrap ((i : Int) + 1))) rfl rfl) (rw_nil ?_)
  obtain rfl := some_inj hF2
  exact ⟨k_1, Nat.lt_succ_self _, i + 1, bad1, Rows1, Cols1, Cells1, B5, c5, (FF.cons (hf1.get 0 0 rfl) (FF.cons (hf1.get 4 1 rfl) (FF.cons (hf1.get 5 2 rfl) (FF.cons (hf1.get 6 3 rfl) (FF.cons (hf1.get 10 4 rfl) (FF.cons (hf1.get 11 5 rfl) (FF.cons (congrArg (Value.int .i64) (wr_succ hlt1 hN)) FF.nil))))))), (hS5.sel [0, 1, 2, 3, 4] rfl rfl), (by omega), hL1⟩
 ·skip
  obtain rfl : k_ = 0 := by have h := of_decide_eq_false hlt; omega
  refine cw_exit rfl ?_
  obtain rfl := some_inj hL
  refine cw_seq (cw_region ?_)
  refine sQ 29 (Y_loadA (B := aD b1) (i := 0) (cs := [vi Rows, vi Cols, .slice B4 Cells.length c4]) (vs := [vi Rows, vi Cols, .slice B4 Cells.length c4]) k_ag_48 k_sz_48_3 rfl (hf.get 5 2 rfl) (hS4.cf (i := 2) rfl) rfl rfl) ?_
  refine s0 (Ys_store (i := 4) (s := 3) (B := aD b2) (T' := 48) (v := .agg #[vi Rows, vi Cols, .slice B4 Cells.length c4]) (vs := [vi Rows, vi Cols, .slice B4 Cells.length c4]) (k := 0) (cs' := [vi Rows, vi Cols, .slice B4 Cells.length c4]) hS4 k_sz_48_3 rfl (hf.get 6 3 rfl) rfl rfl rfl rfl rfl (lB rfl) rfl rfl) ?_
  rintro _ w_11 ⟨rfl, hS18⟩
  refine rw_nil (cw_ret ?_)
  obtain ⟨rfl, rfl⟩ := pr2 (some_inj hF1)
  exact ret1 Tryz.results78 (v1 := .agg #[vi Rows, vi Cols, .slice B4 Cells.length c4]) (resAt_cellA (B := aD b2) (i := 0) (cs := [vi Rows, vi Cols, .slice B4 Cells.length c4]) (vs := [vi Rows, vi Cols, .slice B4 Cells.length c4]) (hf.get 6 3 rfl) k_ag_48 k_sz_48_3 (hS18.cf (i := 4) rfl) rfl rfl) ⟨B4, c4, rfl, (hS18.sN [0, 3])⟩

theorem c_spec_l3Unit (n : Int)  (w0 : World)  (hS : ST w0 [] w0 [] []) {r_ : TMatrix} (hF : F_spec_l3Unit n = some r_) :
  CV Tryz.prog 79 #[vi n] w0 (fun v w' => ∃ (B : Option Addr) (c : Nat), v = (gM_ r_ B c) ∧ ST w0 [] w' [⟨B, 65, (r_.Cells.flatMap eN0), c * 5⟩] []) := by
 unfold F_spec_l3Unit at hF
 refine cv_of_cw 27 Tryz.func79 rfl Tryz.ntmps79 rfl ?_
 refine cw_seq (cw_region ?_)
 refine sS 2 (Ys_alloc (T := 48) (cs := kN_) (m := 3) hS k_zero_48 rfl rfl rfl) ?_
 rintro _ w_ ⟨b, rfl, hS1⟩
 refine rw_nil (cw_seq (cw_region ?_))
 refine sQ 5 (Y_move (v := vi n) rfl rfl) ?_
 refine sQ 6 (Y_move (v := vi n) rfl rfl) ?_
 refine sQ 7 (Y_move (v := vi n) rfl rfl) ?_
 refine sQ 8 (Y_move (v := vi n) rfl rfl) ?_
 refine sQ 9 (Y_mul (k := .i64) (a := n) (b := n) rfl rfl rfl) ?_
 obtain ⟨hmk, hF⟩ := chk_inv hF
 refine sS 10 (Ys_make (s := 5) (by' := 40) (nn := (i64.wrap (n * n)).toNat) (a := (i64.wrap (n * n))) (b := (i64.wrap (n * n))) (cs := ((List.replicate ((i64.wrap (n * n)).toNat) (TDyadic.mk (TRing.mk 0 0 0 0) 0)).flatMap eN0)) hS1 k_sl_28_65 k_sz_65_5 k_by_65_40 k_zero_65 rfl rfl rfl rfl hmk.1 rfl (by have := hmk; omega) (by have := hmk; omega) (by omega) (fm_rep (enc := eN0) (d := (TDyadic.mk (TRing.mk 0 0 0 0) 0)) rfl _)) ?_
 rintro _ w_1 ⟨b1, rfl, hS2⟩
 refine sQ 11 (Y_buildS (zs := kN_) (vs := [(0, vi n), (1, vi n), (2, .slice (aD b1) ((i64.wrap (n * n)).toNat) ((i64.wrap (n * n)).toNat))]) (cs := [vi n, vi n, .slice (aD b1) ((i64.wrap (n * n)).toNat) ((i64.wrap (n * n)).toNat)]) k_pl_48 k_zero_48 rfl (mpc rfl (mpc rfl (mpc rfl mpn))) rfl) ?_
 refine sS 3 (Ys_alloc (T := 48) (cs := kN_) (m := 3) hS2 k_zero_48 rfl rfl rfl) ?_
 rintro _ w_2 ⟨b2, rfl, hS3⟩
 refine s0 (Ys_store (i := 2) (s := 3) (B := aD b2) (T' := 48) (v := .agg #[vi n, vi n, .slice (aD b1) ((i64.wrap (n * n)).toNat) ((i64.wrap (n * n)).toNat)]) (vs := [vi n, vi n, .slice (aD b1) ((i64.wrap (n * n)).toNat) ((i64.wrap (n * n)).toNat)]) (k := 0) (cs' := [vi n, vi n, .slice (aD b1) ((i64.wrap (n * n)).toNat) ((i64.wrap (n * n)).toNat)]) hS3 k_sz_48_3 rfl rfl rfl rfl rfl rfl rfl (lB rfl) rfl rfl) ?_
 rintro _ w_3 ⟨rfl, hS4⟩
 refine rw_nil (cw_seq (cw_seq (cw_region ?_)))
 refine sQ 4 (Y_assign (v := vi 0) rfl rfl) (rw_nil ?_)
 obtain ⟨hN, hF⟩ := chk_inv hF
 obtain ⟨z, hz, hF1⟩ := bind_inv hF
 refine cw_block ?_
 refine cw_loop (fun k f w => ∃ (i1 : Nat) (Cells : List TDyadic), FF f [(0, vi n), (2, pt (aD b) 0), (3, pt (aD b2) 0), (4, vi (i1 : Int))] ∧ Cells.length = (i64.wrap (n * n)).toNat ∧ ST w0 [] w [⟨aD b, 48, kN_, 3⟩, ⟨aD b2, 48, [vi n, vi n, .slice (aD b1) ((i64.wrap (n * n)).toNat) ((i64.wrap (n * n)).toNat)], 3⟩, ⟨aD b1, 65, (Cells.flatMap eN0), ((i64.wrap (n * n)).toNat) * 5⟩] [] ∧ i1 + k = n.toNat ∧ forN (F_spec_l3Unit_l1 n) k i1 Cells = some z) n.toNat ⟨0, (List.replicate ((i64.wrap (n * n)).toNat) (TDyadic.mk (TRing.mk 0 0 0 0) 0)), (FF.cons rfl (FF.cons rfl (FF.cons rfl (FF.cons rfl FF.nil)))), List.length_replicate, (hS4.sel [0, 2, 1] rfl rfl), Nat.zero_add _, hz⟩ ?_
 rintro k_ f w ⟨i1, Cells, hf, hl, hS5, hik, hL⟩
 refine cw_seq (cw_seq (cw_region ?_))
 refine sQ 12 (Y_move (v := vi (i1 : Int)) rfl (hf.get 4 3 rfl)) ?_
 refine sQ 13 (Y_move (v := vi n) rfl (hf.get 0 0 rfl)) ?_
 refine sQ 14 (Y_lt (k := .i64) (a := (i1 : Int)) (b := n) rfl rfl rfl) (rw_nil ?_)
 refine cw_cond (b := (decide ((i1 : Int) < n))) rfl (fun hlt => ?_) (fun hlt => ?_)
 ·skip
  have hlt1 : i1 < n.toNat := by have h := of_decide_eq_true hlt; omega
  obtain ⟨k_1, rfl⟩ : ∃ k2, k_ = k2 + 1 := ⟨k_ - 1, by omega⟩
  obtain ⟨y, hb, hL1⟩ := forN_go hL
  unfold F_spec_l3Unit_l1 at hb
  refine cw_skip (cw_seq (cw_block ?_))
  obtain ⟨r_1, hc, hb⟩ := bind_inv hb
  obtain ⟨x, hx, hb⟩ := bind_inv hb
  refine ra_start (hS5.se [0, 1]).fn (by kernel_rfl) ?_
  have hS7 := hS5.drew
  refine rq 0 17 (v := pt (aD b2) 2) rfl (hS7.se [0, 1]) (fun w' hw' => (Y_fieldAddr (B := aD b2) (i := 0) (s := 0) k_fd_48_2_2_28 k_sz_28_1 rfl (hf.get 3 2 rfl))) ?_
  refine rq 1 18 (v := .slice (aD b1) ((i64.wrap (n * n)).toNat) ((i64.wrap (n * n)).toNat)) rfl (hS7.se [0, 1]) (fun w' hw' => (Y_load1 (B := aD b2) (i := 2) (cs := [vi n, vi n, .slice (aD b1) ((i64.wrap (n * n)).toNat) ((i64.wrap (n * n)).toNat)]) (v := .slice (aD b1) ((i64.wrap (n * n)).toNat) ((i64.wrap (n * n)).toNat)) k_sc_28 rfl rfl (ST.cf hw' (i := 1) rfl) rfl)) ?_
  refine rq 2 19 (v := vi (i1 : Int)) rfl (hS7.se [0, 1]) (fun w' hw' => (Y_move (v := vi (i1 : Int)) rfl (hf.get 4 3 rfl))) ?_
  refine rq 3 20 (v := vi n) rfl (hS7.se [0, 1]) (fun w' hw' => (Y_move (v := vi n) rfl (hf.get 0 0 rfl))) ?_
  refine rq 4 21 (v := vi (i64.wrap ((i1 : Int) * n))) rfl (hS7.se [0, 1]) (fun w' hw' => (Y_mul (k := .i64) (a := (i1 : Int)) (b := n) rfl rfl rfl)) ?_
  refine rq 5 22 (v := vi (i1 : Int)) rfl (hS7.se [0, 1]) (fun w' hw' => (Y_move (v := vi (i1 : Int)) rfl (hf.get 4 3 rfl))) ?_
  refine rq 6 23 (v := vi (i64.wrap ((i64.wrap ((i1 : Int) * n)) + (i1 : Int)))) rfl (hS7.se [0, 1]) (fun w' hw' => (Y_add (k := .i64) (a := (i64.wrap ((i1 : Int) * n))) (b := (i1 : Int)) rfl rfl rfl)) ?_
  refine rA [7] ?_
  refine ra_c 24 (i := 7) rfl rfl rfl (Yc_func (g := 54) (vs := [vi 0]) k_call_54 rfl (mc rfl mn) (c_spec_l2Power 0 _  (hS7.inn0 [] rfl) hc)) ?_ ?_
  ·rintro _ w_4 ⟨rfl, hd⟩
   have hS8 := hS7.out00 hd
   refine ⟨(hS8.se [0, 1]), ?_⟩
   refine rA [8] ?_
   refine ra_y 25 (i := 8) (v := pt (aD b1) ((i64.wrap ((i64.wrap ((i1 : Int) * n)) + (i1 : Int))).toNat * 5)) rfl rfl rfl (Y_index (B := aD b1) (m := (i64.wrap (n * n)).toNat) (c := (i64.wrap (n * n)).toNat) (k := .i64) (i := (i64.wrap ((i64.wrap ((i1 : Int) * n)) + (i1 : Int)))) k_sl_28_65 k_sz_65_5 rfl rfl rfl (gi_isSome eN2 rfl (hS8.cf (i := 2) rfl) hx) (getI_nn hx) (getI_ltI hx hl)) (hS8.se [0, 1]) ?_ ?_
   ·skip
    refine rA [9] ?_
    refine ra_s0 (i := 9) rfl rfl rfl (Ys_store (i := 2) (s := 5) (B := aD b1) (T' := 65) (v := gD_ r_1) (vs := kD_ r_1) (k := (i64.wrap ((i64.wrap ((i1 : Int) * n)) + (i1 : Int))).toNat * 5) (cs' := ((Cells.set (i64.wrap ((i64.wrap ((i1 : Int) * n)) + (i1 : Int))).toNat r_1).flatMap eN0)) hS8 k_sz_65_5 rfl rfl rfl rfl rfl rfl rfl (gi_fit0 eN2 hx) (gi_set eN2 hx r_1 rfl) rfl) ?_ ?_
    ·rintro _ w_5 ⟨rfl, hS9⟩
     refine ⟨(hS9.se [0, 1]), ?_⟩
     refine ra_done (by kernel_rfl) ?_
     refine cw_region ?_
     refine sQ 15 (Y_move (v := vi (i1 : Int)) rfl (hf.get 4 3 rfl)) ?_
     refine sQ 16 (Y_add (k := .i64) (a := (i1 : Int)) (b := 1) rfl rfl rfl) ?_
     refine sQ 4 (Y_assign (v := vi (i64.wrap ((i1 : Int) + 1))) rfl rfl) (rw_nil ?_)
     obtain rfl := some_inj hb
     exact ⟨k_1, Nat.lt_succ_self _, i1 + 1, (Cells.set (i64.wrap ((i64.wrap ((i1 : Int) * n)) + (i1 : Int))).toNat r_1), (FF.cons (hf.get 0 0 rfl) (FF.cons (hf.get 2 1 rfl) (FF.cons (hf.get 3 2 rfl) (FF.cons (congrArg (Value.int .i64) (wr_succ hlt1 hN)) FF.nil)))), (set_len _ _ _ hl), (hS9.sel [0, 1, 2] rfl rfl), (by omega), hL1⟩
    exact allR_nil
   exact allR_nil
  exact allR_nil
 ·skip
  obtain rfl : k_ = 0 := by have h := of_decide_eq_false hlt; omega
  refine cw_exit rfl ?_
  obtain rfl := some_inj hL
  refine cw_seq (cw_region ?_)
  refine sQ 26 (Y_loadA (B := aD b2) (i := 0) (cs := [vi n, vi n, .slice (aD b1) ((i64.wrap (n * n)).toNat) ((i64.wrap (n * n)).toNat)]) (vs := [vi n, vi n, .slice (aD b1) ((i64.wrap (n * n)).toNat) ((i64.wrap (n * n)).toNat)]) k_ag_48 k_sz_48_3 rfl (hf.get 3 2 rfl) (hS5.cf (i := 1) rfl) rfl rfl) ?_
  refine s0 (Ys_store (i := 0) (s := 3) (B := aD b) (T' := 48) (v := .agg #[vi n, vi n, .slice (aD b1) ((i64.wrap (n * n)).toNat) ((i64.wrap (n * n)).toNat)]) (vs := [vi n, vi n, .slice (aD b1) ((i64.wrap (n * n)).toNat) ((i64.wrap (n * n)).toNat)]) (k := 0) (cs' := [vi n, vi n, .slice (aD b1) ((i64.wrap (n * n)).toNat) ((i64.wrap (n * n)).toNat)]) hS5 k_sz_48_3 rfl (hf.get 2 1 rfl) rfl rfl rfl rfl rfl (lB rfl) rfl rfl) ?_
  rintro _ w_6 ⟨rfl, hS10⟩
  refine rw_nil (cw_ret ?_)
  obtain rfl := some_inj hF1
  exact ret1 Tryz.results79 (v1 := .agg #[vi n, vi n, .slice (aD b1) ((i64.wrap (n * n)).toNat) ((i64.wrap (n * n)).toNat)]) (resAt_cellA (B := aD b) (i := 0) (cs := [vi n, vi n, .slice (aD b1) ((i64.wrap (n * n)).toNat) ((i64.wrap (n * n)).toNat)]) (vs := [vi n, vi n, .slice (aD b1) ((i64.wrap (n * n)).toNat) ((i64.wrap (n * n)).toNat)]) (hf.get 2 1 rfl) k_ag_48 k_sz_48_3 (hS10.cf (i := 0) rfl) rfl rfl) ⟨aD b1, (i64.wrap (n * n)).toNat, (by simp [hl]), (hS10.sN [2])⟩

theorem c_spec_l6Op (x : TCircuit) (B : Option Addr) (c n : Nat) (w0 : World) (hn : x.Gates.length = n) (hS : ST w0 [] w0 [] [⟨B, (x.Gates.flatMap enc_Gate)⟩]) {r_ : TMatrix} (hF : F_spec_l6Op x = some r_) :
  CV Tryz.prog 39 #[.agg #[vi x.Qubits, .slice B n c]] w0 (fun v w' => ∃ (B1 : Option Addr) (c1 : Nat), v = (gM_ r_ B1 c1) ∧ ST w0 [] w' [⟨B1, 65, (r_.Cells.flatMap eN0), c1 * 5⟩] []) := by
 subst hn
 unfold F_spec_l6Op at hF
 refine cv_of_cw 14 Tryz.func39 rfl Tryz.ntmps39 rfl ?_
 refine cw_seq (cw_region ?_)
 refine sS 1 (Ys_box (T := 39) (v := .agg #[vi x.Qubits, .slice B x.Gates.length c]) (cs := [vi x.Qubits, .slice B x.Gates.length c]) (m := 2) hS rfl rfl rfl rfl) ?_
 rintro _ w_ ⟨b, rfl, hS1⟩
 refine sS 2 (Ys_alloc (T := 48) (cs := kN_) (m := 3) hS1 k_zero_48 rfl rfl rfl) ?_
 rintro _ w_1 ⟨b1, rfl, hS2⟩
 refine rw_nil (cw_seq (cw_region ?_))
 refine sQ 4 (Y_buildS (zs := [.bool false]) (vs := []) (cs := [.bool false]) k_pl_82 k_zero_82 rfl mpn rfl) ?_
 refine sS 5 (Ys_box (T := 82) (v := .agg #[.bool false]) (cs := [.bool false]) (m := 1) hS2 rfl rfl rfl rfl) ?_
 rintro _ w_2 ⟨b2, rfl, hS3⟩
 refine sQ 3 (Y_assign (v := pt (aD b2) 0) rfl rfl) (rw_nil (cw_seq ?_))
 obtain ⟨hsh, hF⟩ := chk_inv hF
 obtain ⟨r_1, hc, hF⟩ := bind_inv hF
 obtain ⟨⟨r_2, m⟩, hc1, hF⟩ := bind_inv hF
 refine ra_start (hS3.se [0]).fn (by kernel_rfl) ?_
 have hS6 := hS3.drew
 refine rq 0 6 (v := pt (aD b2) 0) rfl (hS6.se [0]) (fun w' hw' => (Y_move (v := pt (aD b2) 0) rfl rfl)) ?_
 refine rq 1 7 (v := .agg #[vi x.Qubits, .slice B x.Gates.length c]) rfl (hS6.se [0]) (fun w' hw' => (Y_loadA (B := aD b) (i := 0) (cs := [vi x.Qubits, .slice B x.Gates.length c]) (vs := [vi x.Qubits, .slice B x.Gates.length c]) k_ag_39 k_sz_39_2 rfl rfl (ST.cf hw' (i := 0) rfl) rfl rfl)) ?_
 refine rq 2 8 (v := pt (aD b) 0) rfl (hS6.se [0]) (fun w' hw' => (Y_fieldAddr (B := aD b) (i := 0) (s := 0) k_fd_39_0_0_3 k_sz_3_1 rfl rfl)) ?_
 refine rq 3 9 (v := vi x.Qubits) rfl (hS6.se [0]) (fun w' hw' => (Y_load1 (B := aD b) (i := 0) (cs := [vi x.Qubits, .slice B x.Gates.length c]) (v := vi x.Qubits) k_sc_3 rfl rfl (ST.cf hw' (i := 0) rfl) rfl)) ?_
 refine rq 4 10 (v := .int .u64 (IntKind.u64.wrap x.Qubits)) rfl (hS6.se [0]) (fun w' hw' => (Y_conv (k := .i64) (a := x.Qubits) (T := 3) (T' := 115) k_us_3 k_int_115_u64 rfl rfl)) ?_
 refine rq 5 11 (v := vi (shlK .i64 1 (IntKind.u64.wrap x.Qubits))) rfl (hS6.se [0]) (fun w' hw' => (Y_shl (k := .i64) (a := 1) (k' := .u64) (b := (IntKind.u64.wrap x.Qubits)) rfl rfl rfl hsh)) ?_
 refine rA [6] ?_
 refine ra_c 12 (i := 6) rfl rfl rfl (Yc_func (g := 79) (vs := [vi (shlK .i64 1 (IntKind.u64.wrap x.Qubits))]) k_call_79 rfl (mc rfl mn) (c_spec_l3Unit (shlK .i64 1 (IntKind.u64.wrap x.Qubits)) _  (hS6.inn0 [] rfl) hc)) ?_ ?_
 ·rintro _ w_3 ⟨B2, c2, rfl, hd⟩
  have hS7 := hS6.out0 hd
  refine ⟨(hS7.se [0]), ?_⟩
  refine rA [7] ?_
  refine ra_c 13 (i := 7) rfl rfl rfl (Yc_func (g := 78) (vs := [pt (aD b2) 0, .agg #[vi x.Qubits, .slice B x.Gates.length c], gM_ r_1 B2 c2]) k_call_78 rfl (mc rfl (mc rfl (mc rfl mn))) (c_spec_l2C_run (Tl2C.mk false) x r_1 (aD b2) B c x.Gates.length B2 c2 r_1.Cells.length _ rfl rfl (hS7.inn [false, false, true, true] rfl [(true, 0)] rfl) hc1)) ?_ ?_
  ·rintro _ w_4 ⟨B3, c3, rfl, hd1⟩
   have hS8 := hS7.out [false, false, true, true] rfl hd1
   refine ⟨(hS8.se [0]), ?_⟩
   refine rA [8] ?_
   refine ra_s0 (i := 8) rfl rfl rfl (Ys_store (i := 1) (s := 3) (B := aD b1) (T' := 48) (v := gM_ r_2 B3 c3) (vs := kM_ r_2 B3 c3) (k := 0) (cs' := kM_ r_2 B3 c3) hS8 k_sz_48_3 rfl rfl rfl rfl rfl rfl rfl (lB rfl) rfl rfl) ?_ ?_
   ·rintro _ w_5 ⟨rfl, hS9⟩
    refine ⟨(hS9.se [0]), ?_⟩
    refine ra_done (by kernel_rfl) ?_
    refine cw_ret ?_
    obtain rfl := some_inj hF
    exact ret1 Tryz.results39 (v1 := gM_ r_2 B3 c3) (resAt_cellA (B := aD b1) (i := 0) (cs := kM_ r_2 B3 c3) (vs := kM_ r_2 B3 c3) rfl k_ag_48 k_sz_48_3 (hS9.cf (i := 1) rfl) rfl rfl) ⟨B3, c3, rfl, (hS9.sN [3])⟩
   exact allR_nil
  exact allR_nil
 exact allR_nil

theorem c_spec_l9Word (w_ : List UInt8)  (w0 : World)  (hS : ST w0 [] w0 [] []) {r_ : TMatrix} (hF : F_spec_l9Word w_ = some r_) :
  CV Tryz.prog 57 #[.string (bstr w_)] w0 (fun v w' => ∃ (B : Option Addr) (c : Nat), v = (gM_ r_ B c) ∧ ST w0 [] w' [⟨B, 65, (r_.Cells.flatMap eN0), c * 5⟩] []) := by
 unfold F_spec_l9Word at hF
 refine cv_of_cw 26 Tryz.func57 rfl Tryz.ntmps57 rfl ?_
 refine cw_seq (cw_region ?_)
 refine sS 2 (Ys_alloc (T := 48) (cs := kN_) (m := 3) hS k_zero_48 rfl rfl rfl) ?_
 rintro _ w_1 ⟨b, rfl, hS1⟩
 refine rw_nil (cw_seq (cw_region ?_))
 refine sQ 6 (Y_buildS (zs := [vi 0, .slice none 0 0]) (vs := [(0, vi 1)]) (cs := [vi 1, .slice none 0 0]) k_pl_39 k_zero_39 rfl (mpc rfl mpn) rfl) ?_
 refine sS 3 (Ys_alloc (T := 39) (cs := [vi 0, .slice none 0 0]) (m := 2) hS1 k_zero_39 rfl rfl rfl) ?_
 rintro _ w_2 ⟨b1, rfl, hS2⟩
 refine s0 (Ys_store (i := 1) (s := 2) (B := aD b1) (T' := 39) (v := .agg #[vi 1, .slice none 0 0]) (vs := [vi 1, .slice none 0 0]) (k := 0) (cs' := [vi 1, .slice none 0 0]) hS2 k_sz_39_2 rfl rfl rfl rfl rfl rfl rfl (lB rfl) rfl rfl) ?_
 rintro _ w_3 ⟨rfl, hS3⟩
 refine rw_nil (cw_seq (cw_seq (cw_region ?_)))
 refine sQ 4 (Y_assign (v := vi 0) rfl rfl) (rw_nil ?_)
 obtain ⟨hN, hF⟩ := chk_inv hF
 obtain ⟨z, hz, hF1⟩ := bind_inv hF
 have hS5 := hS3.addNil 70
 refine cw_block ?_
 refine cw_loop (fun k f w => ∃ (i1 : Nat) (Gates : List TGate) (B1 : Option Addr) (c1 : Nat), FF f [(0, .string (bstr w_)), (2, pt (aD b) 0), (3, pt (aD b1) 0), (4, vi (i1 : Int))] ∧ ST w0 [] w [⟨aD b, 48, kN_, 3⟩, ⟨aD b1, 39, [vi 1, .slice B1 Gates.length c1], 2⟩, ⟨B1, 70, (Gates.flatMap enc_Gate), c1 * 3⟩] [] ∧ i1 + k = w_.length ∧ forN (F_spec_l9Word_l1 w_) k i1 Gates = some z) w_.length ⟨0, [], none, 0, (FF.cons rfl (FF.cons rfl (FF.cons rfl (FF.cons rfl FF.nil)))), (hS5.sel [0, 1, 2] rfl rfl), Nat.zero_add _, hz⟩ ?_
 rintro k_ f w ⟨i1, Gates, B1, c1, hf, hS4, hik, hL⟩
 refine cw_seq (cw_seq (cw_region ?_))
 refine sQ 7 (Y_move (v := vi (i1 : Int)) rfl (hf.get 4 3 rfl)) ?_
 refine sQ 8 (Y_move (v := .string (bstr w_)) rfl (hf.get 0 0 rfl)) ?_
 refine sQ 9 (Y_slen (a := w_) k_str_9 rfl rfl) ?_
 refine sQ 10 (Y_lt (k := .i64) (a := (i1 : Int)) (b := (w_.length : Int)) rfl rfl rfl) (rw_nil ?_)
 refine cw_cond (b := (decide ((i1 : Int) < (w_.length : Int)))) rfl (fun hlt => ?_) (fun hlt => ?_)
 ·skip
  have hlt1 : i1 < w_.length := by have h := of_decide_eq_true hlt; omega
  obtain ⟨k_1, rfl⟩ : ∃ k2, k_ = k2 + 1 := ⟨k_ - 1, by omega⟩
  obtain ⟨y, hb, hL1⟩ := forN_go hL
  unfold F_spec_l9Word_l1 at hb
  refine cw_skip (cw_seq (cw_block (cw_seq (cw_region ?_))))
  refine sQ 5 (Y_assign (v := vi 1) rfl rfl) (rw_nil (cw_seq ?_))
  obtain ⟨z1, hz1, hF2⟩ := bind_inv hb
  refine cw_mid (fun f w => ∃ (kind : Int), kind = z1 ∧ FF f [(0, .string (bstr w_)), (2, pt (aD b) 0), (3, pt (aD b1) 0), (4, vi (i1 : Int)), (5, vi kind)] ∧ ST w0 [] w [⟨aD b, 48, kN_, 3⟩, ⟨aD b1, 39, [vi 1, .slice B1 Gates.length c1], 2⟩, ⟨B1, 70, (Gates.flatMap enc_Gate), c1 * 3⟩] []) ?_ ?_
  ·skip
   refine cw_seq (cw_region ?_)
   refine sQ 13 (Y_move (v := .string (bstr w_)) rfl (hf.get 0 0 rfl)) ?_
   refine sQ 14 (Y_move (v := vi (i1 : Int)) rfl (hf.get 4 3 rfl)) ?_
   obtain ⟨x, hx, hz1⟩ := bind_inv hz1
   refine sQ 15 (Y_sidx (a := w_) (k := .i64) (i := (i1 : Int)) (b := x) k_str_9 rfl rfl rfl hx) ?_
   refine sQ 16 (Y_eq (k := .u8) (a := (x.toNat : Int)) (b := 83) rfl rfl rfl) (rw_nil ?_)
   refine cw_cond (b := ((x.toNat : Int) == 83)) rfl (fun hb1 => ?_) (fun hb1 => ?_)
   ·skip
    have hF3 := ct hz1 hb1
    refine cw_region ?_
    refine sQ 5 (Y_assign (v := vi 5) rfl rfl) (rw_nil ?_)
    exact ⟨5, (some_inj hF3), (FF.cons (hf.get 0 0 rfl) (FF.cons (hf.get 2 1 rfl) (FF.cons (hf.get 3 2 rfl) (FF.cons (hf.get 4 3 rfl) (FF.cons rfl FF.nil))))), (hS4.sel [0, 1, 2] rfl rfl)⟩
   ·skip
    have hF4 := cf' hz1 hb1
    refine cw_skip ?_
    exact ⟨1, (some_inj hF4), (FF.cons (hf.get 0 0 rfl) (FF.cons (hf.get 2 1 rfl) (FF.cons (hf.get 3 2 rfl) (FF.cons (hf.get 4 3 rfl) (FF.cons rfl FF.nil))))), (hS4.sel [0, 1, 2] rfl rfl)⟩
  rintro f w ⟨kind, rfl, hf1, hS6⟩
  refine cw_region ?_
  refine sQ 17 (Y_fieldAddr (B := aD b1) (i := 0) (s := 0) k_fd_39_1_1_37 k_sz_37_1 rfl (hf1.get 3 2 rfl)) ?_
  refine sQ 18 (Y_load1 (B := aD b1) (i := 1) (cs := [vi 1, .slice B1 Gates.length c1]) (v := .slice B1 Gates.length c1) k_sc_37 rfl rfl (hS6.cf (i := 1) rfl) rfl) ?_
  refine sQ 19 (Y_move (v := vi kind) rfl (hf1.get 5 4 rfl)) ?_
  refine sQ 20 (Y_buildS (zs := [vi 0, vi 0, vi 0]) (vs := [(0, vi kind)]) (cs := [vi kind, vi 0, vi 0]) k_pl_70 k_zero_70 rfl (mpc rfl mpn) rfl) ?_
  refine sS 21 (Ys_bslice (s := 3) (len := 1) (vs := [(0, .agg #[vi kind, vi 0, vi 0])]) (cs := [vi kind, vi 0, vi 0]) (zs := [vi 0, vi 0, vi 0]) (m := 3) hS6 k_sl_37_70 k_sz_70_3 k_zc_70 rfl (mpc rfl mpn) rfl rfl rfl (by kernel_rfl) (by kernel_rfl) rfl) ?_
  rintro _ w_4 ⟨b2, rfl, hS7⟩
  obtain ⟨hap, hF2⟩ := chk_inv hF2
  refine sS 22 (Ys_append (s := 3) (by' := 24) (i := 2) (nn := Gates.length) (c := c1) (k := 1) (len := (Gates ++ [(TGate.mk kind 0 0)]).length) (B := B1) (xs := ([(TGate.mk kind 0 0)].flatMap enc_Gate)) (cs' := ((Gates ++ [(TGate.mk kind 0 0)]).flatMap enc_Gate)) hS7 k_sl_37_70 k_sz_70_3 k_by_70_24 k_zero_70 rfl (by decide) rfl rfl rfl rfl (fm_lenn (l := Gates) enc_Gate_len rfl) rfl (hS7.cf (i := 3) rfl) (fm_lenn (l := [(TGate.mk kind 0 0)]) enc_Gate_len rfl) (fm_one' (enc := enc_Gate) enc_Gate_one [(TGate.mk kind 0 0)]) (by have := hap; omega) (by have := hap; simp only [maxLen]; omega) (fm_app _ _) (app_len (l := Gates) (l' := [(TGate.mk kind 0 0)]) rfl rfl)) ?_
  rintro _ w_5 ⟨B2, c2, rfl, hS8⟩
  refine sQ 23 (Y_fieldAddr (B := aD b1) (i := 0) (s := 0) k_fd_39_1_1_37 k_sz_37_1 rfl (hf1.get 3 2 rfl)) ?_
  refine s0 (Ys_store (i := 1) (s := 1) (B := aD b1) (T' := 39) (v := .slice B2 ((Gates ++ [(TGate.mk kind 0 0)]).length) c2) (vs := [.slice B2 ((Gates ++ [(TGate.mk kind 0 0)]).length) c2]) (k := 1) (cs' := [vi 1, .slice B2 ((Gates ++ [(TGate.mk kind 0 0)]).length) c2]) hS8 k_sz_37_1 rfl rfl rfl rfl rfl rfl rfl (lB rfl) rfl rfl) ?_
  rintro _ w_6 ⟨rfl, hS9⟩
  refine rw_nil (cw_region ?_)
  refine sQ 11 (Y_move (v := vi (i1 : Int)) rfl (hf1.get 4 3 rfl)) ?_
  refine sQ 12 (Y_add (k := .i64) (a := (i1 : Int)) (b := 1) rfl rfl rfl) ?_
  refine sQ 4 (Y_assign (v := vi (i64.wrap ((i1 : Int) + 1))) rfl rfl) (rw_nil ?_)
  obtain rfl := some_inj hF2
  exact ⟨k_1, Nat.lt_succ_self _, i1 + 1, (Gates ++ [(TGate.mk kind 0 0)]), B2, c2, (FF.cons (hf1.get 0 0 rfl) (FF.cons (hf1.get 2 1 rfl) (FF.cons (hf1.get 3 2 rfl) (FF.cons (congrArg (Value.int .i64) (wr_succ hlt1 hN)) FF.nil)))), (hS9.sel [0, 1, 2] rfl rfl), (by omega), hL1⟩
 ·skip
  obtain rfl : k_ = 0 := by have h := of_decide_eq_false hlt; omega
  refine cw_exit rfl ?_
  obtain rfl := some_inj hL
  refine cw_seq (cw_region ?_)
  refine sQ 24 (Y_loadA (B := aD b1) (i := 0) (cs := [vi 1, .slice B1 Gates.length c1]) (vs := [vi 1, .slice B1 Gates.length c1]) k_ag_39 k_sz_39_2 rfl (hf.get 3 2 rfl) (hS4.cf (i := 1) rfl) rfl rfl) ?_
  obtain ⟨r_1, hc, hF1⟩ := bind_inv hF1
  refine sc 25 rfl rfl (Yc_func (g := 39) (vs := [.agg #[vi 1, .slice B1 Gates.length c1]]) k_call_39 rfl (mc rfl mn) (c_spec_l6Op (TCircuit.mk 1 Gates) B1 c1 Gates.length _ rfl (hS4.inn0 [(false, 2)] rfl) hc)) ?_
  rintro _ w_7 ⟨B3, c3, rfl, hd⟩
  have hS10 := hS4.out0 hd
  refine s0 (Ys_store (i := 0) (s := 3) (B := aD b) (T' := 48) (v := gM_ r_1 B3 c3) (vs := kM_ r_1 B3 c3) (k := 0) (cs' := kM_ r_1 B3 c3) hS10 k_sz_48_3 rfl (hf.get 2 1 rfl) rfl rfl rfl rfl rfl (lB rfl) rfl rfl) ?_
  rintro _ w_8 ⟨rfl, hS11⟩
  refine rw_nil (cw_ret ?_)
  obtain rfl := some_inj hF1
  exact ret1 Tryz.results57 (v1 := gM_ r_1 B3 c3) (resAt_cellA (B := aD b) (i := 0) (cs := kM_ r_1 B3 c3) (vs := kM_ r_1 B3 c3) (hf.get 2 1 rfl) k_ag_48 k_sz_48_3 (hS11.cf (i := 0) rfl) rfl rfl) ⟨B3, c3, rfl, (hS11.sN [3])⟩

theorem c_spec_l9Words   (w0 : World)  (hS : ST w0 [] w0 [] []) {r_ : List (List UInt8)} (hF : F_spec_l9Words = some r_) :
  CV Tryz.prog 55 #[] w0 (fun v w' => ∃ (B : Option Addr) (c : Nat), v = .slice B r_.length c ∧ ST w0 [] w' [⟨B, 9, (r_.flatMap encS), c * 1⟩] []) := by
 unfold F_spec_l9Words at hF
 refine cv_of_cw 61 Tryz.func55 rfl Tryz.ntmps55 rfl ?_
 refine cw_seq (cw_region ?_)
 refine sQ 0 (Y_assign (v := .slice none 0 0) rfl rfl) (rw_nil (cw_seq (cw_region ?_)))
 refine sQ 1 (Y_assign (v := .slice none 0 0) rfl rfl) (rw_nil (cw_seq (cw_region ?_)))
 refine sQ 2 (Y_assign (v := .slice none 0 0) rfl rfl) (rw_nil (cw_seq (cw_region ?_)))
 refine sS 12 (Ys_bslice (s := 1) (len := 1) (vs := [(0, .string (bstr ([] : List UInt8)))]) (cs := [.string (bstr ([] : List UInt8))]) (zs := [.string (bstr ([] : List UInt8))]) (m := 1) hS k_sl_57_9 k_sz_9_1 k_zc_9 rfl (mpc rfl mpn) rfl rfl rfl (by kernel_rfl) (by kernel_rfl) rfl) ?_
 rintro _ w_ ⟨b, rfl, hS1⟩
 refine sQ 3 (Y_assign (v := .slice (aD b) 1 1) rfl rfl) (rw_nil (cw_seq ?_))
 obtain ⟨z, hz, hF1⟩ := bind_inv hF
 have hS3 := hS1.addNil 9
 have hS4 := hS3.addNil 30
 have hS5 : ST w0 [] _ [⟨aD b, 9, ([([] : List UInt8)].flatMap encS), 1 * 1⟩, ⟨none, 9, ([].flatMap encS), 0 * 1⟩, ⟨none, 30, (([] : List (Hd × TBloch)).flatMap encD_Bloch), 0 * 1⟩] (((([] : List (Hd × TBloch)).flatMap rowD_Bloch) ++ [])) := ST.subR hS4 (suba fsub_nil (fun _ h => by cases h))
 refine cw_block ?_
 refine cw_loop (fun k f w => ∃ (words : List (List UInt8)) (seen : List TBloch) (level : List (List UInt8)) (B1 : Option Addr) (c1 : Nat) (B2 : Option Addr) (c2 : Nat) (D : List (Hd × TBloch)) (B3 : Option Addr) (c3 : Nat), FF f [(1, .slice B1 words.length c1), (2, .slice B2 seen.length c2), (3, .slice B3 level.length c3)] ∧ D.map Prod.snd = seen ∧ Org w0 [] [] (D.flatMap rowD_Bloch) ∧ ST w0 [] w [⟨B1, 9, (words.flatMap encS), c1 * 1⟩, ⟨B2, 30, (D.flatMap encD_Bloch), c2 * 1⟩, ⟨B3, 9, (level.flatMap encS), c3 * 1⟩] (((D.flatMap rowD_Bloch) ++ [])) ∧ whX F_spec_l9Words_l1 k (words, seen, level) = some z) fuel ⟨[], ([] : List TBloch), [([] : List UInt8)], none, 0, none, 0, ([] : List (Hd × TBloch)), aD b, 1, (FF.cons rfl (FF.cons rfl (FF.cons rfl FF.nil))), rfl, forg_nil, (hS5.sel [1, 2, 0] rfl rfl), hz⟩ ?_
 rintro k_ f w ⟨words, seen, level, B1, c1, B2, c2, D, B3, c3, hf, hD, ho, hS2, hL⟩
 obtain ⟨k_1, y, rfl, hb, hL1⟩ := whX_go hL
 unfold F_spec_l9Words_l1 at hb
 refine cw_seq (cw_seq (cw_region ?_))
 refine sQ 13 (Y_move (v := .slice B1 words.length c1) rfl (hf.get 1 0 rfl)) ?_
 refine sQ 14 (Y_len (B := B1) (m := words.length) (c := c1) k_sl_57_9 rfl rfl) ?_
 refine sQ 15 (Y_lt (k := .i64) (a := (words.length : Int)) (b := 24) rfl rfl rfl) (rw_nil ?_)
 refine cw_cond (b := (decide ((words.length : Int) < 24))) rfl (fun hb1 => ?_) (fun hb1 => ?_)
 ·skip
  have hF2 := ct hb hb1
  refine cw_skip (cw_block (cw_seq (cw_region ?_)))
  refine sQ 4 (Y_assign (v := .slice none 0 0) rfl rfl) (rw_nil (cw_seq (cw_seq (cw_region ?_))))
  refine sQ 16 (Y_move (v := .slice B3 level.length c3) rfl (hf.get 3 2 rfl)) ?_
  refine sQ 17 (Y_len (B := B3) (m := level.length) (c := c3) k_sl_57_9 rfl rfl) ?_
  refine sQ 18 (Y_move (v := vi 0) rfl rfl) (rw_nil ?_)
  obtain ⟨hN, hF2⟩ := chk_inv hF2
  obtain ⟨z1, hz1, hF3⟩ := bind_inv hF2
  have hS7 := hS2.addNil 9
  refine cw_block ?_
  refine cw_loop (fun k f w => ∃ (i : Nat) (words1 : List (List UInt8)) (seen1 : List TBloch) (next_ : List (List UInt8)) (B4 : Option Addr) (c4 : Nat) (B5 : Option Addr) (c5 : Nat) (D1 : List (Hd × TBloch)) (B6 : Option Addr) (c6 : Nat), FF f [(1, .slice B4 words1.length c4), (2, .slice B5 seen1.length c5), (4, .slice B6 next_.length c6), (16, .slice B3 level.length c3), (17, vi (level.length : Int)), (18, vi (i : Int))] ∧ D1.map Prod.snd = seen1 ∧ Org w0 [] [] (D1.flatMap rowD_Bloch) ∧ ST w0 [] w [⟨B4, 9, (words1.flatMap encS), c4 * 1⟩, ⟨B5, 30, (D1.flatMap encD_Bloch), c5 * 1⟩, ⟨B6, 9, (next_.flatMap encS), c6 * 1⟩, ⟨B3, 9, (level.flatMap encS), c3 * 1⟩] (((D1.flatMap rowD_Bloch) ++ [])) ∧ i + k = level.length ∧ forN (F_spec_l9Words_l2 level) k i (words1, seen1, next_) = some z1) level.length ⟨0, words, seen, [], B1, c1, B2, c2, D, none, 0, (FF.cons (hf.get 1 0 rfl) (FF.cons (hf.get 2 1 rfl) (FF.cons rfl (FF.cons rfl (FF.cons rfl (FF.cons rfl FF.nil)))))), hD, ho, (hS7.sel [0, 1, 3, 2] rfl rfl), Nat.zero_add _, hz1⟩ ?_
  rintro k_2 f w ⟨i, words1, seen1, next_, B4, c4, B5, c5, D1, B6, c6, hf1, hD1, ho1, hS6, hik1, hL2⟩
  refine cw_seq (cw_region ?_)
  refine sQ 19 (Y_lt (k := .i64) (a := (i : Int)) (b := (level.length : Int)) rfl (hf1.get 18 5 rfl) (hf1.get 17 4 rfl)) (rw_nil (cw_seq ?_))
  refine cw_cond (b := (decide ((i : Int) < (level.length : Int)))) rfl (fun hlt => ?_) (fun hlt => ?_)
  ·skip
   have hlt1 : i < level.length := by have h := of_decide_eq_true hlt; omega
   obtain ⟨k_3, rfl⟩ : ∃ k2, k_2 = k2 + 1 := ⟨k_2 - 1, by omega⟩
   obtain ⟨y1, hb2, hL3⟩ := forN_go hL2
   unfold F_spec_l9Words_l2 at hb2
   refine cw_skip (cw_seq ?_)
   obtain ⟨z2, hz2, hF4⟩ := bind_inv hb2
   refine cw_mid (fun f w => ∃ (words2 : List (List UInt8)) (seen2 : List TBloch) (next_1 : List (List UInt8)) (B7 : Option Addr) (c7 : Nat) (B8 : Option Addr) (c8 : Nat) (D2 : List (Hd × TBloch)) (B9 : Option Addr) (c9 : Nat), (words2, seen2, next_1) = z2 ∧ FF f [(1, .slice B7 words2.length c7), (2, .slice B8 seen2.length c8), (4, .slice B9 next_1.length c9), (16, .slice B3 level.length c3), (17, vi (level.length : Int)), (18, vi (i : Int))] ∧ D2.map Prod.snd = seen2 ∧ Org w0 [] [] (D2.flatMap rowD_Bloch) ∧ ST w0 [] w [⟨B7, 9, (words2.flatMap encS), c7 * 1⟩, ⟨B8, 30, (D2.flatMap encD_Bloch), c8 * 1⟩, ⟨B9, 9, (next_1.flatMap encS), c9 * 1⟩, ⟨B3, 9, (level.flatMap encS), c3 * 1⟩] (((D2.flatMap rowD_Bloch) ++ []))) ?_ ?_
   ·skip
    refine cw_block (cw_seq (cw_region ?_))
    obtain ⟨x, hx, hz2⟩ := bind_inv hz2
    refine sQ 20 (Y_index (B := B3) (m := level.length) (c := c3) (k := .i64) (i := (i : Int)) k_sl_57_9 k_sz_9_1 rfl (hf1.get 16 3 rfl) (hf1.get 18 5 rfl) (gi_isSome encS_len rfl (hS6.cf (i := 3) rfl) hx) (getI_nn hx) (getI_ltI hx rfl)) ?_
    refine sQ 21 (Y_load1 (B := B3) (i := (i : Int).toNat * 1) (cs := (level.flatMap encS)) (v := .string (bstr x)) k_sc_9 rfl rfl (hS6.cf (i := 3) rfl) (gi_at0 encS_len hx rfl)) ?_
    refine sQ 6 (Y_assign (v := .string (bstr x)) rfl rfl) (rw_nil (cw_seq (cw_region ?_)))
    refine sQ 23 (Y_move (v := .string (bstr x)) rfl rfl) ?_
    obtain ⟨r_1, hc, hz2⟩ := bind_inv hz2
    refine sc 24 rfl rfl (Yc_func (g := 57) (vs := [.string (bstr x)]) k_call_57 rfl (mc rfl mn) (c_spec_l9Word x _  (hS6.inn0 [] rfl) hc)) ?_
    rintro _ w_1 ⟨B10, c10, rfl, hd⟩
    have hS9 := hS6.out0 hd
    obtain ⟨⟨r_2, r_3⟩, hc1, hz2⟩ := bind_inv hz2
    refine sc 25 rfl rfl (Yc_func (g := 56) (vs := [gM_ r_1 B10 c10]) k_call_56 rfl (mc rfl mn) (c_spec_l9Bloch r_1 B10 c10 r_1.Cells.length _ rfl (hS9.inn0 [(false, 4)] rfl) hc1)) ?_
    rintro _ w_2 ⟨B11, c11, rfl, hd1⟩
    have hS10 := hS9.out0 hd1
    refine sQ 22 (Y_move (v := .tuple #[gB_ r_2 B11 c11, .bool r_3]) rfl rfl) ?_
    refine sQ 26 (Y_extract (v := gB_ r_2 B11 c11) rfl rfl rfl) ?_
    refine sQ 27 (Y_extract (v := .bool r_3) rfl rfl rfl) ?_
    refine sS 7 (Ys_alloc (T := 30) (cs := [.slice none 0 0]) (m := 1) hS10 k_zero_30 rfl rfl rfl) ?_
    rintro _ w_3 ⟨b1, rfl, hS11⟩
    refine s0 (Ys_store (i := 6) (s := 1) (B := aD b1) (T' := 30) (v := gB_ r_2 B11 c11) (vs := kB_ r_2 B11 c11) (k := 0) (cs' := kB_ r_2 B11 c11) hS11 k_sz_30_1 rfl rfl rfl rfl rfl rfl rfl (lB rfl) rfl rfl) ?_
    rintro _ w_4 ⟨rfl, hS12⟩
    refine sQ 8 (Y_assign (v := .bool r_3) rfl rfl) (rw_nil (cw_seq (cw_region ?_)))
    refine sQ 9 (Y_assign (v := .bool false) rfl rfl) (rw_nil (cw_seq (cw_seq (cw_region ?_))))
    refine sQ 28 (Y_move (v := .slice B5 seen1.length c5) rfl (hf1.get 2 1 rfl)) ?_
    refine sQ 29 (Y_len (B := B5) (m := seen1.length) (c := c5) k_sl_130_30 rfl rfl) ?_
    refine sQ 30 (Y_move (v := vi 0) rfl rfl) (rw_nil ?_)
    obtain ⟨hN1, hz2⟩ := chk_inv hz2
    obtain ⟨z3, hz3, hF5⟩ := bind_inv hz2
    refine cw_block ?_
    refine cw_loop (fun k f w => ∃ (i1 : Nat) (known : Bool) (D3 : List (Hd × TBloch)), FF f [(1, .slice B4 words1.length c4), (2, .slice B5 seen1.length c5), (4, .slice B6 next_.length c6), (6, .string (bstr x)), (7, pt (aD b1) 0), (9, .bool known), (16, .slice B3 level.length c3), (17, vi (level.length : Int)), (18, vi (i : Int)), (28, .slice B5 seen1.length c5), (29, vi (seen1.length : Int)), (30, vi (i1 : Int))] ∧ D3.map Prod.snd = seen1 ∧ Org w0 [] [] (D3.flatMap rowD_Bloch) ∧ ST w0 [] w [⟨B4, 9, (words1.flatMap encS), c4 * 1⟩, ⟨B5, 30, (D3.flatMap encD_Bloch), c5 * 1⟩, ⟨B6, 9, (next_.flatMap encS), c6 * 1⟩, ⟨aD b1, 30, kB_ r_2 B11 c11, 1⟩, ⟨B11, 65, (r_2.Cells.flatMap eN0), c11 * 5⟩, ⟨B3, 9, (level.flatMap encS), c3 * 1⟩] (((D3.flatMap rowD_Bloch) ++ [])) ∧ i1 + k = seen1.length ∧ forN (F_spec_l9Words_l3 seen1 r_2) k i1 known = some z3) seen1.length ⟨0, false, D1, (FF.cons (hf1.get 1 0 rfl) (FF.cons (hf1.get 2 1 rfl) (FF.cons (hf1.get 4 2 rfl) (FF.cons rfl (FF.cons rfl (FF.cons rfl (FF.cons (hf1.get 16 3 rfl) (FF.cons (hf1.get 17 4 rfl) (FF.cons (hf1.get 18 5 rfl) (FF.cons rfl (FF.cons rfl (FF.cons rfl FF.nil)))))))))))), hD1, ho1, (hS12.sel [0, 1, 2, 6, 5, 3] rfl rfl), Nat.zero_add _, hz3⟩ ?_
    rintro k_4 f w ⟨i1, known, D3, hf3, hD3, ho3, hS13, hik2, hL4⟩
    refine cw_seq (cw_region ?_)
    refine sQ 31 (Y_lt (k := .i64) (a := (i1 : Int)) (b := (seen1.length : Int)) rfl (hf3.get 30 11 rfl) (hf3.get 29 10 rfl)) (rw_nil (cw_seq ?_))
    refine cw_cond (b := (decide ((i1 : Int) < (seen1.length : Int)))) rfl (fun hlt2 => ?_) (fun hlt2 => ?_)
    ·skip
     have hlt3 : i1 < seen1.length := by have h := of_decide_eq_true hlt2; omega
     obtain ⟨k_5, rfl⟩ : ∃ k2, k_4 = k2 + 1 := ⟨k_4 - 1, by omega⟩
     obtain ⟨y2, hb3, hL5⟩ := forN_go hL4
     unfold F_spec_l9Words_l3 at hb3
     refine cw_skip (cw_seq (cw_block (cw_seq (cw_region ?_))))
     obtain ⟨x1, hx1, hb3⟩ := bind_inv hb3
     obtain ⟨⟨B12, c12⟩, hp⟩ := getI_snd hD3 hx1
     refine sQ 32 (Y_index (B := B5) (m := seen1.length) (c := c5) (k := .i64) (i := (i1 : Int)) k_sl_130_30 k_sz_30_1 rfl (hf3.get 28 9 rfl) (hf3.get 30 11 rfl) (gi_isSome encD_Bloch_len rfl (hS13.cf (i := 1) rfl) hp) (getI_nn hp) (getI_ltI hp (dl_len hD3))) ?_
     have hm : (⟨B12, (x1.Cells.flatMap eN0)⟩ : Ro) ∈ ((((D3.flatMap rowD_Bloch) ++ [])) : List Ro) := app_mem (fun r_ (h : r_ ∈ ((D3.flatMap rowD_Bloch) : List Ro)) => mOd (i := 0) (show r_ ∈ ((((D3.flatMap rowD_Bloch) ++ [])) : List Ro) from mAl _ h)) (row_mem (rw_ := rowD_Bloch) hp _ (mem_at (i := 0) rfl))
     have hS14 : ST w0 [] _ [⟨B4, 9, (words1.flatMap encS), c4 * 1⟩, ⟨B5, 30, (D3.flatMap encD_Bloch), c5 * 1⟩, ⟨B6, 9, (next_.flatMap encS), c6 * 1⟩, ⟨aD b1, 30, kB_ r_2 B11 c11, 1⟩, ⟨B11, 65, (r_2.Cells.flatMap eN0), c11 * 5⟩, ⟨B3, 9, (level.flatMap encS), c3 * 1⟩] (⟨B12, (x1.Cells.flatMap eN0)⟩ :: ((D3.flatMap rowD_Bloch) ++ [])) := ST.subR hS13 (subc hm (fun _ h => h))
     refine sQ 33 (Y_loadA (B := B5) (i := (i1 : Int).toNat * 1) (cs := (D3.flatMap encD_Bloch)) (vs := kB_ x1 B12 c12) k_ag_30 k_sz_30_1 rfl rfl (hS14.cf (i := 1) rfl) (encD_Bloch_len ((B12, c12), x1)) (gi_seg encD_Bloch_len hp)) ?_
     refine sS 11 (Ys_alloc (T := 30) (cs := [.slice none 0 0]) (m := 1) hS14 k_zero_30 rfl rfl rfl) ?_
     rintro _ w_5 ⟨b2, rfl, hS15⟩
     refine s0 (Ys_store (i := 6) (s := 1) (B := aD b2) (T' := 30) (v := gB_ x1 B12 c12) (vs := kB_ x1 B12 c12) (k := 0) (cs' := kB_ x1 B12 c12) hS15 k_sz_30_1 rfl rfl rfl rfl rfl rfl rfl (lB rfl) rfl rfl) ?_
     rintro _ w_6 ⟨rfl, hS16⟩
     refine rw_nil (cw_region ?_)
     refine sQ 34 (Y_move (v := .bool known) rfl (hf3.get 9 5 rfl)) ?_
     refine sQ 35 (Y_move (v := .bool known) rfl rfl) ?_
     refine sgq 36 (B := (!known)) (v := gB_ x1 B12 c12) rfl rfl (wF 35) (fun hg => (Y_loadA (B := aD b2) (i := 0) (cs := kB_ x1 B12 c12) (vs := kB_ x1 B12 c12) k_ag_30 k_sz_30_1 rfl rfl (hS16.cf (i := 6) rfl) rfl rfl)) ?_
     refine sgq 37 (B := (!known)) (v := gB_ r_2 B11 c11) rfl rfl (wF 35) (fun hg1 => (Y_loadA (B := aD b1) (i := 0) (cs := kB_ r_2 B11 c11) (vs := kB_ r_2 B11 c11) k_ag_30 k_sz_30_1 rfl (hf3.get 7 4 rfl) (hS16.cf (i := 3) rfl) rfl rfl)) ?_
     obtain ⟨r_4, hc2, hb3⟩ := bind_inv hb3
     refine sgc 38 (B := (!known)) (v := .bool r_4) (F := hS16.fn) rfl rfl (wF 35) hS16 (fun hg2 => (Yc_func (g := 52) (vs := [gB_ x1 B12 c12, gB_ r_2 B11 c11]) k_call_52 rfl (mc (gv_of (v := gB_ x1 B12 c12) hg2) (mc (gv_of (v := gB_ r_2 B11 c11) hg2) mn)) (CV.mono (c_spec_l9Same x1 r_2 B12 c12 x1.Cells.length B11 c11 r_2.Cells.length _ rfl rfl (hS16.inn0 [(true, 0), (false, 4)] rfl) (gb_inv hc2 hg2)) (by rintro _ _ ⟨rfl, h⟩; exact ⟨rfl, hS16.out00 h⟩)))) ?_
     rintro w_7 hS17
     refine sQ 39 (Y_or (b := known) (z := r_4) rfl rfl rfl rfl) ?_
     refine sQ 9 (Y_assign (v := .bool (known || r_4)) rfl rfl) (rw_nil (cw_region ?_))
     refine sQ 40 (Y_add (k := .i64) (a := (i1 : Int)) (b := 1) rfl (hf3.get 30 11 rfl) rfl) ?_
     refine sQ 30 (Y_move (v := vi (i64.wrap ((i1 : Int) + 1))) rfl rfl) (rw_nil ?_)
     obtain rfl := some_inj hb3
     have hS18 : ST w0 [] _ [⟨B4, 9, (words1.flatMap encS), c4 * 1⟩, ⟨B5, 30, (D3.flatMap encD_Bloch), c5 * 1⟩, ⟨B6, 9, (next_.flatMap encS), c6 * 1⟩, ⟨aD b1, 30, kB_ r_2 B11 c11, 1⟩, ⟨B11, 65, (r_2.Cells.flatMap eN0), c11 * 5⟩, ⟨B3, 9, (level.flatMap encS), c3 * 1⟩, ⟨aD b2, 30, kB_ x1 B12 c12, 1⟩] (((D3.flatMap rowD_Bloch) ++ [])) := ST.subR hS17 (suba (fun r_ (h : r_ ∈ ((D3.flatMap rowD_Bloch) : List Ro)) => mOd (i := 1) (show r_ ∈ ((((D3.flatMap rowD_Bloch) ++ [])) : List Ro) from mAl _ h)) (fun _ h => by cases h))
     exact ⟨k_5, Nat.lt_succ_self _, i1 + 1, (known || r_4), D3, (FF.cons (hf3.get 1 0 rfl) (FF.cons (hf3.get 2 1 rfl) (FF.cons (hf3.get 4 2 rfl) (FF.cons (hf3.get 6 3 rfl) (FF.cons (hf3.get 7 4 rfl) (FF.cons rfl (FF.cons (hf3.get 16 6 rfl) (FF.cons (hf3.get 17 7 rfl) (FF.cons (hf3.get 18 8 rfl) (FF.cons (hf3.get 28 9 rfl) (FF.cons (hf3.get 29 10 rfl) (FF.cons (congrArg (Value.int .i64) (wr_succ hlt3 hN1)) FF.nil)))))))))))), hD3, ho3, (hS18.sel [0, 1, 2, 3, 4, 5] rfl rfl), (by omega), hL5⟩
    ·skip
     obtain rfl : k_4 = 0 := by have h := of_decide_eq_false hlt2; omega
     refine cw_exit rfl ?_
     obtain rfl := some_inj hL4
     refine cw_seq (cw_region ?_)
     refine sQ 41 (Y_move (v := .bool known) rfl (hf3.get 9 5 rfl)) ?_
     refine sQ 42 (Y_not (p := known) rfl rfl) (rw_nil ?_)
     refine cw_cond (b := (!known)) rfl (fun hb4 => ?_) (fun hb4 => ?_)
     ·skip
      have hF6 := ct hF5 hb4
      refine cw_seq (cw_region ?_)
      refine sQ 43 (Y_move (v := .slice B4 words1.length c4) rfl (hf3.get 1 0 rfl)) ?_
      refine sQ 44 (Y_move (v := .string (bstr x)) rfl (hf3.get 6 3 rfl)) ?_
      refine sS 45 (Ys_bslice (s := 1) (len := 1) (vs := [(0, .string (bstr x))]) (cs := [.string (bstr x)]) (zs := [.string (bstr ([] : List UInt8))]) (m := 1) hS13 k_sl_57_9 k_sz_9_1 k_zc_9 rfl (mpc rfl mpn) rfl rfl rfl (by kernel_rfl) (by kernel_rfl) rfl) ?_
      rintro _ w_8 ⟨b3, rfl, hS19⟩
      have hS19 : ST w0 [] _ [⟨B4, 9, (words1.flatMap encS), c4 * 1⟩, ⟨B5, 30, (D3.flatMap encD_Bloch), c5 * 1⟩, ⟨B6, 9, (next_.flatMap encS), c6 * 1⟩, ⟨aD b1, 30, kB_ r_2 B11 c11, 1⟩, ⟨B11, 65, (r_2.Cells.flatMap eN0), c11 * 5⟩, ⟨B3, 9, (level.flatMap encS), c3 * 1⟩, ⟨aD b3, 9, ([x].flatMap encS), 1 * 1⟩] (((D3.flatMap rowD_Bloch) ++ [])) := hS19
      obtain ⟨hap, hF6⟩ := chk_inv hF6
      refine sS 46 (Ys_append (s := 1) (by' := 16) (i := 0) (nn := words1.length) (c := c4) (k := 1) (len := (words1 ++ [x]).length) (B := B4) (xs := ([x].flatMap encS)) (cs' := ((words1 ++ [x]).flatMap encS)) hS19 k_sl_57_9 k_sz_9_1 k_by_9_16 k_zero_9 rfl (by decide) rfl rfl rfl rfl (fm_lenn (l := words1) encS_len rfl) rfl (hS19.cf (i := 6) rfl) (fm_lenn (l := [x]) encS_len rfl) (fm_one' (enc := encS) encS_one [x]) (by have := hap; omega) (by have := hap; simp only [maxLen]; omega) (fm_app _ _) (app_len (l := words1) (l' := [x]) rfl rfl)) ?_
      rintro _ w_9 ⟨B13, c13, rfl, hS20⟩
      refine sQ 1 (Y_assign (v := .slice B13 ((words1 ++ [x]).length) c13) rfl rfl) (rw_nil (cw_seq (cw_region ?_)))
      refine sQ 47 (Y_move (v := .slice B5 seen1.length c5) rfl (hf3.get 2 1 rfl)) ?_
      refine sQ 48 (Y_loadA (B := aD b1) (i := 0) (cs := kB_ r_2 B11 c11) (vs := kB_ r_2 B11 c11) k_ag_30 k_sz_30_1 rfl (hf3.get 7 4 rfl) (hS20.cf (i := 3) rfl) rfl rfl) ?_
      have ho4 : Org w0 [] [] [⟨B11, (r_2.Cells.flatMap eN0)⟩] := ST.orgOwn hS20 (i := 4) rfl
      have hcap : r_2.Cells.length ≤ c11 := (hS20.lencap (i := 4) rfl (fm_lenn (l := r_2.Cells) eN2 rfl) rfl rfl)
      have hS21 : ST w0 [] _ [⟨B13, 9, ((words1 ++ [x]).flatMap encS), c13 * 1⟩, ⟨B5, 30, (D3.flatMap encD_Bloch), c5 * 1⟩, ⟨B6, 9, (next_.flatMap encS), c6 * 1⟩, ⟨aD b1, 30, kB_ r_2 B11 c11, 1⟩, ⟨B3, 9, (level.flatMap encS), c3 * 1⟩, ⟨aD b3, 9, ([x].flatMap encS), 1 * 1⟩] (⟨B11, (r_2.Cells.flatMap eN0)⟩ :: ((D3.flatMap rowD_Bloch) ++ [])) := hS20.freeze (i := 4) rfl
      refine sS 49 (Ys_bslice (s := 1) (len := 1) (vs := [(0, gB_ r_2 B11 c11)]) (cs := kB_ r_2 B11 c11) (zs := [.slice none 0 0]) (m := 1) hS21 k_sl_130_30 k_sz_30_1 k_zc_30 rfl (mpc rfl mpn) rfl rfl rfl (by kernel_rfl) (by kernel_rfl) rfl) ?_
      rintro _ w_10 ⟨b4, rfl, hS22⟩
      have hm1 : ∀ r ∈ (([((B11, c11), r_2)] : List (Hd × TBloch)).flatMap rowD_Bloch), r ∈ ((⟨B11, (r_2.Cells.flatMap eN0)⟩ :: ((D3.flatMap rowD_Bloch) ++ [])) : List Ro) := (fsub_cons (subc (mem_at (i := 0) rfl) (fun _ h => by cases h)) fsub_nil)
      have ho5 : Org w0 [] [] (([((B11, c11), r_2)] : List (Hd × TBloch)).flatMap rowD_Bloch) := (forg_cons (org_cons ho4 org_nil) forg_nil)
      have hS23 : ST w0 [] _ [⟨B13, 9, ((words1 ++ [x]).flatMap encS), c13 * 1⟩, ⟨B5, 30, (D3.flatMap encD_Bloch), c5 * 1⟩, ⟨B6, 9, (next_.flatMap encS), c6 * 1⟩, ⟨aD b1, 30, kB_ r_2 B11 c11, 1⟩, ⟨B3, 9, (level.flatMap encS), c3 * 1⟩, ⟨aD b3, 9, ([x].flatMap encS), 1 * 1⟩, ⟨aD b4, 30, (([((B11, c11), r_2)] : List (Hd × TBloch)).flatMap encD_Bloch), 1 * 1⟩] (⟨B11, (r_2.Cells.flatMap eN0)⟩ :: ((([((B11, c11), r_2)] : List (Hd × TBloch)).flatMap rowD_Bloch) ++ ((D3.flatMap rowD_Bloch) ++ []))) := ST.subR hS22 (subc (mem_at (i := 0) rfl) (suba hm1 (suba (fun r_ (h : r_ ∈ ((D3.flatMap rowD_Bloch) : List Ro)) => mOd (i := 1) (show r_ ∈ ((((D3.flatMap rowD_Bloch) ++ [])) : List Ro) from mAl _ h)) (fun _ h => by cases h))))
      obtain ⟨hap1, hF6⟩ := chk_inv hF6
      refine sS 50 (Ys_append (s := 1) (by' := 24) (i := 1) (nn := seen1.length) (c := c5) (k := 1) (len := (seen1 ++ ([r_2] : List TBloch)).length) (B := B5) (xs := (([((B11, c11), r_2)] : List (Hd × TBloch)).flatMap encD_Bloch)) (cs' := ((D3 ++ ([((B11, c11), r_2)] : List (Hd × TBloch))).flatMap encD_Bloch)) hS23 k_sl_130_30 k_sz_30_1 k_by_30_24 k_zero_30 rfl (by decide) rfl rfl rfl rfl (fm_lenn (l := D3) encD_Bloch_len (dl_len hD3)) rfl (hS23.cf (i := 6) rfl) (fm_lenn (l := ([((B11, c11), r_2)] : List (Hd × TBloch))) encD_Bloch_len rfl) (fm_one' (enc := encD_Bloch) encD_Bloch_one ([((B11, c11), r_2)] : List (Hd × TBloch))) (by have := hap1; omega) (by have := hap1; simp only [maxLen]; omega) (fm_app _ _) (dl_sum (dl_len hD3) rfl (dl_app hD3 (show List.map Prod.snd ([((B11, c11), r_2)] : List (Hd × TBloch)) = ([r_2] : List TBloch) from rfl)))) ?_
      rintro _ w_11 ⟨B14, c14, rfl, hS24⟩
      have ho6 : Org w0 [] [] ((D3 ++ ([((B11, c11), r_2)] : List (Hd × TBloch))).flatMap rowD_Bloch) := (forg_app ho3 ho5)
      have hS25 : ST w0 [] _ [⟨B13, 9, ((words1 ++ [x]).flatMap encS), c13 * 1⟩, ⟨B14, 30, ((D3 ++ ([((B11, c11), r_2)] : List (Hd × TBloch))).flatMap encD_Bloch), c14 * 1⟩, ⟨B6, 9, (next_.flatMap encS), c6 * 1⟩, ⟨aD b1, 30, kB_ r_2 B11 c11, 1⟩, ⟨B3, 9, (level.flatMap encS), c3 * 1⟩, ⟨aD b3, 9, ([x].flatMap encS), 1 * 1⟩, ⟨aD b4, 30, (([((B11, c11), r_2)] : List (Hd × TBloch)).flatMap encD_Bloch), 1 * 1⟩] (⟨B11, (r_2.Cells.flatMap eN0)⟩ :: (((D3 ++ ([((B11, c11), r_2)] : List (Hd × TBloch))).flatMap rowD_Bloch) ++ ((([((B11, c11), r_2)] : List (Hd × TBloch)).flatMap rowD_Bloch) ++ []))) := ST.subR hS24 (subc (mem_at (i := 0) rfl) (suba (fsub_app (fun r_ (h : r_ ∈ ((D3.flatMap rowD_Bloch) : List Ro)) => mOd (i := 1) (show r_ ∈ ((((([((B11, c11), r_2)] : List (Hd × TBloch)).flatMap rowD_Bloch) ++ ((D3.flatMap rowD_Bloch) ++ []))) : List Ro) from mAr _ (mAl _ h))) (fun r_ (h : r_ ∈ ((([((B11, c11), r_2)] : List (Hd × TBloch)).flatMap rowD_Bloch) : List Ro)) => mOd (i := 1) (show r_ ∈ ((((([((B11, c11), r_2)] : List (Hd × TBloch)).flatMap rowD_Bloch) ++ ((D3.flatMap rowD_Bloch) ++ []))) : List Ro) from mAl _ h))) (suba (fun r_ (h : r_ ∈ ((([((B11, c11), r_2)] : List (Hd × TBloch)).flatMap rowD_Bloch) : List Ro)) => mOd (i := 1) (show r_ ∈ ((((([((B11, c11), r_2)] : List (Hd × TBloch)).flatMap rowD_Bloch) ++ ((D3.flatMap rowD_Bloch) ++ []))) : List Ro) from mAl _ h)) (fun _ h => by cases h))))
      refine sQ 2 (Y_assign (v := .slice B14 ((seen1 ++ ([r_2] : List TBloch)).length) c14) rfl rfl) (rw_nil (cw_region ?_))
      refine sQ 51 (Y_move (v := .slice B6 next_.length c6) rfl (hf3.get 4 2 rfl)) ?_
      refine sQ 52 (Y_move (v := .string (bstr x)) rfl (hf3.get 6 3 rfl)) ?_
      obtain ⟨hsa, hF6⟩ := chk_inv hF6
      refine sQ 53 (Y_sadd (a := x) (b := ([72] : List UInt8)) rfl rfl rfl hsa) ?_
      refine sQ 54 (Y_move (v := .string (bstr x)) rfl (hf3.get 6 3 rfl)) ?_
      obtain ⟨hsa1, hF6⟩ := chk_inv hF6
      refine sQ 55 (Y_sadd (a := x) (b := ([83] : List UInt8)) rfl rfl rfl hsa1) ?_
      refine sS 56 (Ys_bslice (s := 1) (len := 2) (vs := [(0, .string (bstr (x ++ ([72] : List UInt8)))), (1, .string (bstr (x ++ ([83] : List UInt8))))]) (cs := [.string (bstr (x ++ ([72] : List UInt8))), .string (bstr (x ++ ([83] : List UInt8)))]) (zs := [.string (bstr ([] : List UInt8)), .string (bstr ([] : List UInt8))]) (m := 2) hS25 k_sl_57_9 k_sz_9_1 k_zc_9 rfl (mpc rfl (mpc rfl mpn)) rfl rfl rfl (by kernel_rfl) (by kernel_rfl) rfl) ?_
      rintro _ w_12 ⟨b5, rfl, hS26⟩
      obtain ⟨hap2, hF6⟩ := chk_inv hF6
      refine sS 57 (Ys_append (s := 1) (by' := 16) (i := 2) (nn := next_.length) (c := c6) (k := 2) (len := (next_ ++ [(x ++ ([72] : List UInt8)), (x ++ ([83] : List UInt8))]).length) (B := B6) (xs := ([(x ++ ([72] : List UInt8)), (x ++ ([83] : List UInt8))].flatMap encS)) (cs' := ((next_ ++ [(x ++ ([72] : List UInt8)), (x ++ ([83] : List UInt8))]).flatMap encS)) hS26 k_sl_57_9 k_sz_9_1 k_by_9_16 k_zero_9 rfl (by decide) rfl rfl rfl rfl (fm_lenn (l := next_) encS_len rfl) rfl (hS26.cf (i := 7) rfl) (fm_lenn (l := [(x ++ ([72] : List UInt8)), (x ++ ([83] : List UInt8))]) encS_len rfl) (fm_one' (enc := encS) encS_one [(x ++ ([72] : List UInt8)), (x ++ ([83] : List UInt8))]) (by have := hap2; omega) (by have := hap2; simp only [maxLen]; omega) (fm_app _ _) (app_len (l := next_) (l' := [(x ++ ([72] : List UInt8)), (x ++ ([83] : List UInt8))]) rfl rfl)) ?_
      rintro _ w_13 ⟨B15, c15, rfl, hS27⟩
      refine sQ 4 (Y_assign (v := .slice B15 ((next_ ++ [(x ++ ([72] : List UInt8)), (x ++ ([83] : List UInt8))]).length) c15) rfl rfl) (rw_nil ?_)
      have hS28 : ST w0 [] _ [⟨B13, 9, ((words1 ++ [x]).flatMap encS), c13 * 1⟩, ⟨B14, 30, ((D3 ++ ([((B11, c11), r_2)] : List (Hd × TBloch))).flatMap encD_Bloch), c14 * 1⟩, ⟨B15, 9, ((next_ ++ [(x ++ ([72] : List UInt8)), (x ++ ([83] : List UInt8))]).flatMap encS), c15 * 1⟩, ⟨aD b1, 30, kB_ r_2 B11 c11, 1⟩, ⟨B3, 9, (level.flatMap encS), c3 * 1⟩, ⟨aD b3, 9, ([x].flatMap encS), 1 * 1⟩, ⟨aD b4, 30, (([((B11, c11), r_2)] : List (Hd × TBloch)).flatMap encD_Bloch), 1 * 1⟩, ⟨aD b5, 9, ([(x ++ ([72] : List UInt8)), (x ++ ([83] : List UInt8))].flatMap encS), 2 * 1⟩] ((((D3 ++ ([((B11, c11), r_2)] : List (Hd × TBloch))).flatMap rowD_Bloch) ++ [])) := ST.subR hS27 (suba (fun r_ (h : r_ ∈ (((D3 ++ ([((B11, c11), r_2)] : List (Hd × TBloch))).flatMap rowD_Bloch) : List Ro)) => mOd (i := 1) (show r_ ∈ (((((D3 ++ ([((B11, c11), r_2)] : List (Hd × TBloch))).flatMap rowD_Bloch) ++ ((([((B11, c11), r_2)] : List (Hd × TBloch)).flatMap rowD_Bloch) ++ []))) : List Ro) from mAl _ h)) (fun _ h => by cases h))
      exact ⟨(words1 ++ [x]), (seen1 ++ ([r_2] : List TBloch)), (next_ ++ [(x ++ ([72] : List UInt8)), (x ++ ([83] : List UInt8))]), B13, c13, B14, c14, (D3 ++ ([((B11, c11), r_2)] : List (Hd × TBloch))), B15, c15, (some_inj hF6), (FF.cons rfl (FF.cons rfl (FF.cons rfl (FF.cons (hf3.get 16 6 rfl) (FF.cons (hf3.get 17 7 rfl) (FF.cons (hf3.get 18 8 rfl) FF.nil)))))), (dl_app hD3 (show List.map Prod.snd ([((B11, c11), r_2)] : List (Hd × TBloch)) = ([r_2] : List TBloch) from rfl)), ho6, (hS28.sel [0, 1, 2, 4] rfl rfl)⟩
     ·skip
      have hF7 := cf' hF5 hb4
      refine cw_skip ?_
      exact ⟨words1, seen1, next_, B4, c4, B5, c5, D3, B6, c6, (some_inj hF7), (FF.cons (hf3.get 1 0 rfl) (FF.cons (hf3.get 2 1 rfl) (FF.cons (hf3.get 4 2 rfl) (FF.cons (hf3.get 16 6 rfl) (FF.cons (hf3.get 17 7 rfl) (FF.cons (hf3.get 18 8 rfl) FF.nil)))))), hD3, ho3, (hS13.sel [0, 1, 2, 5] rfl rfl)⟩
   rintro f w ⟨words2, seen2, next_1, B7, c7, B8, c8, D2, B9, c9, rfl, hf2, hD2, ho2, hS8⟩
   refine cw_region ?_
   refine sQ 58 (Y_add (k := .i64) (a := (i : Int)) (b := 1) rfl (hf2.get 18 5 rfl) rfl) ?_
   refine sQ 18 (Y_move (v := vi (i64.wrap ((i : Int) + 1))) rfl rfl) (rw_nil ?_)
   obtain rfl := some_inj hF4
   exact ⟨k_3, Nat.lt_succ_self _, i + 1, words2, seen2, next_1, B7, c7, B8, c8, D2, B9, c9, (FF.cons (hf2.get 1 0 rfl) (FF.cons (hf2.get 2 1 rfl) (FF.cons (hf2.get 4 2 rfl) (FF.cons (hf2.get 16 3 rfl) (FF.cons (hf2.get 17 4 rfl) (FF.cons (congrArg (Value.int .i64) (wr_succ hlt1 hN)) FF.nil)))))), hD2, ho2, (hS8.sel [0, 1, 2, 3] rfl rfl), (by omega), hL3⟩
  ·skip
   obtain rfl : k_2 = 0 := by have h := of_decide_eq_false hlt; omega
   refine cw_exit rfl ?_
   obtain rfl := some_inj hL2
   refine cw_region ?_
   refine sQ 59 (Y_move (v := .slice B6 next_.length c6) rfl (hf1.get 4 2 rfl)) ?_
   refine sQ 3 (Y_assign (v := .slice B6 next_.length c6) rfl rfl) (rw_nil ?_)
   obtain rfl := some_inj hF3
   exact ⟨k_1, Nat.lt_succ_self _, words1, seen1, next_, B4, c4, B5, c5, D1, B6, c6, (FF.cons (hf1.get 1 0 rfl) (FF.cons (hf1.get 2 1 rfl) (FF.cons rfl FF.nil))), hD1, ho1, (hS6.sel [0, 1, 2] rfl rfl), hL1⟩
 ·skip
  have hF8 := cf' hb hb1
  refine cw_exit rfl ?_
  obtain rfl := some_inj hF8
  obtain rfl := some_inj hL1
  refine cw_seq (cw_region ?_)
  refine sQ 60 (Y_move (v := .slice B1 words.length c1) rfl (hf.get 1 0 rfl)) ?_
  refine sQ 0 (Y_assign (v := .slice B1 words.length c1) rfl rfl) (rw_nil (cw_ret ?_))
  obtain rfl := some_inj hF1
  exact ret1 Tryz.results55 (v1 := .slice B1 words.length c1) (resAt_tmp rfl) ⟨B1, c1, rfl, (hS2.sN [0])⟩

theorem c_spec_l9Index (b : TBloch) (B : Option Addr) (c n : Nat) (w0 : World) (hn : b.Cells.length = n) (hS : ST w0 [] w0 [] [⟨B, (b.Cells.flatMap eN0)⟩]) {r_ : Int} (hF : F_spec_l9Index b = some r_) :
  CV Tryz.prog 25 #[.agg #[.slice B n c]] w0 (fun v w' => v = vi r_ ∧ ST w0 [] w' [] []) := by
 subst hn
 unfold F_spec_l9Index at hF
 refine cv_of_cw 25 Tryz.func25 rfl Tryz.ntmps25 rfl ?_
 refine cw_seq (cw_region ?_)
 refine sS 1 (Ys_box (T := 30) (v := gB_ b B c) (cs := kB_ b B c) (m := 1) hS rfl rfl rfl rfl) ?_
 rintro _ w_ ⟨b1, rfl, hS1⟩
 refine sQ 2 (Y_assign (v := vi 0) rfl rfl) (rw_nil (cw_seq (cw_seq (cw_region ?_))))
 obtain ⟨r_1, hc, hF⟩ := bind_inv hF
 refine sc 7 rfl rfl (Yc_func (g := 55) (vs := []) k_call_55 rfl mn (c_spec_l9Words  _  (hS1.inn0 [] rfl) hc)) ?_
 rintro _ w_1 ⟨B1, c1, rfl, hd⟩
 have hS2 := hS1.out0 hd
 refine sQ 8 (Y_len (B := B1) (m := r_1.length) (c := c1) k_sl_57_9 rfl rfl) ?_
 refine sQ 9 (Y_move (v := vi 0) rfl rfl) (rw_nil ?_)
 obtain ⟨hN, hF⟩ := chk_inv hF
 obtain ⟨z, hz, hF1⟩ := bind_inv hF
 refine cw_block ?_
 refine cw_loop (fun k f w => ∃ (i : Nat), FF f [(1, pt (aD b1) 0), (7, .slice B1 r_1.length c1), (8, vi (r_1.length : Int)), (9, vi (i : Int))] ∧ ST w0 [] w [⟨aD b1, 30, kB_ b B c, 1⟩, ⟨B1, 9, (r_1.flatMap encS), c1 * 1⟩] [⟨B, (b.Cells.flatMap eN0)⟩] ∧ i + k = r_1.length ∧ forX (F_spec_l9Index_l1 r_1 b) k i () = some z) r_1.length ⟨0, (FF.cons rfl (FF.cons rfl (FF.cons rfl (FF.cons rfl FF.nil)))), (hS2.sel [0, 1] rfl rfl), Nat.zero_add _, hz⟩ ?_
 rintro k_ f w ⟨i, hf, hS3, hik, hL⟩
 refine cw_seq (cw_region ?_)
 refine sQ 10 (Y_lt (k := .i64) (a := (i : Int)) (b := (r_1.length : Int)) rfl (hf.get 9 3 rfl) (hf.get 8 2 rfl)) (rw_nil (cw_seq ?_))
 refine cw_cond (b := (decide ((i : Int) < (r_1.length : Int)))) rfl (fun hlt => ?_) (fun hlt => ?_)
 ·skip
  have hlt1 : i < r_1.length := by have h := of_decide_eq_true hlt; omega
  obtain ⟨k_1, rfl⟩ : ∃ k2, k_ = k2 + 1 := ⟨k_ - 1, by omega⟩
  obtain ⟨y, hb, hL1⟩ := forX_go hL
  unfold F_spec_l9Index_l1 at hb
  refine cw_skip (cw_seq (cw_block (cw_seq (cw_region ?_))))
  refine sQ 11 (Y_move (v := vi (i : Int)) rfl (hf.get 9 3 rfl)) ?_
  obtain ⟨x, hx, hb⟩ := bind_inv hb
  refine sQ 12 (Y_index (B := B1) (m := r_1.length) (c := c1) (k := .i64) (i := (i : Int)) k_sl_57_9 k_sz_9_1 rfl (hf.get 7 1 rfl) (hf.get 9 3 rfl) (gi_isSome encS_len rfl (hS3.cf (i := 1) rfl) hx) (getI_nn hx) (getI_ltI hx rfl)) ?_
  refine sQ 13 (Y_load1 (B := B1) (i := (i : Int).toNat * 1) (cs := (r_1.flatMap encS)) (v := .string (bstr x)) k_sc_9 rfl rfl (hS3.cf (i := 1) rfl) (gi_at0 encS_len hx rfl)) ?_
  refine sQ 3 (Y_assign (v := vi (i : Int)) rfl rfl) ?_
  refine sQ 4 (Y_assign (v := .string (bstr x)) rfl rfl) (rw_nil (cw_seq (cw_region ?_)))
  refine sQ 15 (Y_move (v := .string (bstr x)) rfl rfl) ?_
  obtain ⟨r_2, hc1, hb⟩ := bind_inv hb
  refine sc 16 rfl rfl (Yc_func (g := 57) (vs := [.string (bstr x)]) k_call_57 rfl (mc rfl mn) (c_spec_l9Word x _  (hS3.inn0 [] rfl) hc1)) ?_
  rintro _ w_2 ⟨B2, c2, rfl, hd1⟩
  have hS4 := hS3.out0 hd1
  obtain ⟨⟨r_3, r_4⟩, hc2, hb⟩ := bind_inv hb
  refine sc 17 rfl rfl (Yc_func (g := 56) (vs := [gM_ r_2 B2 c2]) k_call_56 rfl (mc rfl mn) (c_spec_l9Bloch r_2 B2 c2 r_2.Cells.length _ rfl (hS4.inn0 [(false, 2)] rfl) hc2)) ?_
  rintro _ w_3 ⟨B3, c3, rfl, hd2⟩
  have hS5 := hS4.out0 hd2
  refine sQ 14 (Y_move (v := .tuple #[gB_ r_3 B3 c3, .bool r_4]) rfl rfl) ?_
  refine sQ 18 (Y_extract (v := gB_ r_3 B3 c3) rfl rfl rfl) ?_
  refine sQ 19 (Y_extract (v := .bool r_4) rfl rfl rfl) ?_
  refine sS 5 (Ys_alloc (T := 30) (cs := [.slice none 0 0]) (m := 1) hS5 k_zero_30 rfl rfl rfl) ?_
  rintro _ w_4 ⟨b2, rfl, hS6⟩
  refine s0 (Ys_store (i := 4) (s := 1) (B := aD b2) (T' := 30) (v := gB_ r_3 B3 c3) (vs := kB_ r_3 B3 c3) (k := 0) (cs' := kB_ r_3 B3 c3) hS6 k_sz_30_1 rfl rfl rfl rfl rfl rfl rfl (lB rfl) rfl rfl) ?_
  rintro _ w_5 ⟨rfl, hS7⟩
  refine sQ 6 (Y_assign (v := .bool r_4) rfl rfl) (rw_nil (cw_seq (cw_region ?_)))
  refine sQ 20 (Y_loadA (B := aD b2) (i := 0) (cs := kB_ r_3 B3 c3) (vs := kB_ r_3 B3 c3) k_ag_30 k_sz_30_1 rfl rfl (hS7.cf (i := 4) rfl) rfl rfl) ?_
  refine sQ 21 (Y_loadA (B := aD b1) (i := 0) (cs := kB_ b B c) (vs := kB_ b B c) k_ag_30 k_sz_30_1 rfl (hf.get 1 0 rfl) (hS7.cf (i := 0) rfl) rfl rfl) ?_
  obtain ⟨r_5, hc3, hb⟩ := bind_inv hb
  refine sc 22 rfl rfl (Yc_func (g := 52) (vs := [gB_ r_3 B3 c3, gB_ b B c]) k_call_52 rfl (mc rfl (mc rfl mn)) (c_spec_l9Same r_3 b B3 c3 r_3.Cells.length B c b.Cells.length _ rfl rfl (hS7.inn0 [(false, 3), (true, 0)] rfl) hc3)) ?_
  rintro _ w_6 ⟨rfl, hd3⟩
  have hS8 := hS7.out00 hd3
  refine rw_nil ?_
  refine cw_cond (b := r_5) rfl (fun hb1 => ?_) (fun hb1 => ?_)
  ·skip
   have hF2 := ct hb hb1
   refine cw_seq (cw_region ?_)
   refine sQ 23 (Y_move (v := vi (i : Int)) rfl rfl) ?_
   refine sQ 2 (Y_assign (v := vi (i : Int)) rfl rfl) (rw_nil (cw_ret ?_))
   obtain rfl := some_inj hF2
   obtain rfl := some_inj hL1
   obtain rfl := some_inj hF1
   exact ret1 Tryz.results25 (v1 := vi (i : Int)) (resAt_tmp rfl) ⟨rfl, (hS8.sN [])⟩
  ·skip
   have hF3 := cf' hb hb1
   refine cw_skip (cw_region ?_)
   refine sQ 24 (Y_add (k := .i64) (a := (i : Int)) (b := 1) rfl (hf.get 9 3 rfl) rfl) ?_
   refine sQ 9 (Y_move (v := vi (i64.wrap ((i : Int) + 1))) rfl rfl) (rw_nil ?_)
   obtain rfl := some_inj hF3
   exact ⟨k_1, Nat.lt_succ_self _, i + 1, (FF.cons (hf.get 1 0 rfl) (FF.cons (hf.get 7 1 rfl) (FF.cons (hf.get 8 2 rfl) (FF.cons (congrArg (Value.int .i64) (wr_succ hlt1 hN)) FF.nil)))), (hS8.sel [0, 1] rfl rfl), (by omega), hL1⟩
 ·skip
  obtain rfl : k_ = 0 := by have h := of_decide_eq_false hlt; omega
  refine cw_exit rfl ?_
  obtain rfl := some_inj hL
  refine cw_seq (cw_region ?_)
  refine sQ 2 (Y_assign (v := vi (-1)) rfl rfl) (rw_nil (cw_ret ?_))
  obtain rfl := some_inj hF1
  exact ret1 Tryz.results25 (v1 := vi (-1)) (resAt_tmp rfl) ⟨rfl, (hS3.sN [])⟩

theorem c_spec_CliffordIndex (b : TBloch) (B : Option Addr) (c n : Nat) (w0 : World) (hn : b.Cells.length = n) (hS : ST w0 [] w0 [] [⟨B, (b.Cells.flatMap eN0)⟩]) {r_ : Int} {r_1 : Bool} (hF : F_spec_CliffordIndex b = some (r_, r_1)) :
  CV Tryz.prog 7 #[.agg #[.slice B n c]] w0 (fun v w' => v = .tuple #[vi r_, .bool r_1] ∧ ST w0 [] w' [] []) := by
 subst hn
 unfold F_spec_CliffordIndex at hF
 refine cv_of_cw 14 Tryz.func7 rfl Tryz.ntmps7 rfl ?_
 refine cw_seq (cw_region ?_)
 refine sS 1 (Ys_box (T := 30) (v := gB_ b B c) (cs := kB_ b B c) (m := 1) hS rfl rfl rfl rfl) ?_
 rintro _ w_ ⟨b1, rfl, hS1⟩
 refine sQ 2 (Y_assign (v := vi 0) rfl rfl) ?_
 refine sQ 3 (Y_assign (v := .bool false) rfl rfl) (rw_nil (cw_seq (cw_seq (cw_region ?_))))
 refine sQ 4 (Y_loadA (B := aD b1) (i := 0) (cs := kB_ b B c) (vs := kB_ b B c) k_ag_30 k_sz_30_1 rfl rfl (hS1.cf (i := 0) rfl) rfl rfl) ?_
 obtain ⟨r_2, hc, hF⟩ := bind_inv hF
 refine sc 5 rfl rfl (Yc_func (g := 24) (vs := [gB_ b B c]) k_call_24 rfl (mc rfl mn) (c_spec_l9Valid b B c b.Cells.length _ rfl (hS1.inn0 [(true, 0)] rfl) hc)) ?_
 rintro _ w_1 ⟨rfl, hd⟩
 have hS2 := hS1.out00 hd
 refine sQ 6 (Y_not (p := r_2) rfl rfl) ?_
 refine sQ 7 (Y_move (v := .bool (!r_2)) rfl rfl) ?_
 refine sgq 8 (B := (!(!r_2))) (v := gB_ b B c) rfl rfl (wF 7) (fun hg => (Y_loadA (B := aD b1) (i := 0) (cs := kB_ b B c) (vs := kB_ b B c) k_ag_30 k_sz_30_1 rfl rfl (hS2.cf (i := 0) rfl) rfl rfl)) ?_
 obtain ⟨r_3, hc1, hF⟩ := bind_inv hF
 refine sgc 9 (B := (!(!r_2))) (v := vi r_3) (F := hS2.fn) rfl rfl (wF 7) hS2 (fun hg1 => (Yc_func (g := 25) (vs := [gB_ b B c]) k_call_25 rfl (mc (gv_of (v := gB_ b B c) hg1) mn) (CV.mono (c_spec_l9Index b B c b.Cells.length _ rfl (hS2.inn0 [(true, 0)] rfl) (gb_inv hc1 hg1)) (by rintro _ _ ⟨rfl, h⟩; exact ⟨rfl, hS2.out00 h⟩)))) ?_
 rintro w_2 hS3
 refine sgq 10 (B := (!(!r_2))) (v := .bool (decide (r_3 < 0))) rfl rfl (wF 7) (fun hg2 => (Y_lt (k := .i64) (a := r_3) (b := 0) rfl (gv_of (v := vi r_3) hg2) rfl)) ?_
 refine sQ 11 (Y_or (b := (!r_2)) (z := (decide (r_3 < 0))) rfl rfl rfl rfl) (rw_nil ?_)
 refine cw_cond (b := ((!r_2) || (decide (r_3 < 0)))) rfl (fun hb => ?_) (fun hb => ?_)
 ·skip
  have hF1 := ct hF hb
  refine cw_seq (cw_region ?_)
  refine sQ 2 (Y_assign (v := vi 0) rfl rfl) ?_
  refine sQ 3 (Y_assign (v := .bool false) rfl rfl) (rw_nil (cw_ret ?_))
  obtain ⟨rfl, rfl⟩ := pr2 (some_inj hF1)
  exact ret2 Tryz.results7 (v1 := vi 0) (resAt_tmp rfl) (v2 := .bool false) (resAt_tmp rfl) ⟨rfl, (hS3.sN [])⟩
 ·skip
  have hF2 := cf' hF hb
  refine cw_skip (cw_seq (cw_region ?_))
  refine sQ 12 (Y_loadA (B := aD b1) (i := 0) (cs := kB_ b B c) (vs := kB_ b B c) k_ag_30 k_sz_30_1 rfl rfl (hS3.cf (i := 0) rfl) rfl rfl) ?_
  obtain ⟨r_4, hc2, hF2⟩ := bind_inv hF2
  refine sc 13 rfl rfl (Yc_func (g := 25) (vs := [gB_ b B c]) k_call_25 rfl (mc rfl mn) (c_spec_l9Index b B c b.Cells.length _ rfl (hS3.inn0 [(true, 0)] rfl) hc2)) ?_
  rintro _ w_3 ⟨rfl, hd1⟩
  have hS4 := hS3.out00 hd1
  refine sQ 2 (Y_assign (v := vi r_4) rfl rfl) ?_
  refine sQ 3 (Y_assign (v := .bool true) rfl rfl) (rw_nil (cw_ret ?_))
  obtain ⟨rfl, rfl⟩ := pr2 (some_inj hF2)
  exact ret2 Tryz.results7 (v1 := vi r_4) (resAt_tmp rfl) (v2 := .bool true) (resAt_tmp rfl) ⟨rfl, (hS4.sN [])⟩

theorem c_laws_toRing (a : TRing)  (w0 : World)  (hS : ST w0 [] w0 [] []) {r_ : TRing} (hF : F_laws_toRing a = some r_) :
  CV Tryz.prog 101 #[gR_ a] w0 (fun v w' => v = (gR_ r_) ∧ ST w0 [] w' [] []) := by
 unfold F_laws_toRing at hF
 refine cv_of_cw 17 Tryz.func101 rfl Tryz.ntmps101 rfl ?_
 refine cw_seq (cw_region ?_)
 refine sS 1 (Ys_box (T := 94) (v := gR_ a) (cs := kR_ a) (m := 4) hS rfl rfl rfl rfl) ?_
 rintro _ w_ ⟨b, rfl, hS1⟩
 refine sS 2 (Ys_alloc (T := 63) (cs := [vi 0, vi 0, vi 0, vi 0]) (m := 4) hS1 k_zero_63 rfl rfl rfl) ?_
 rintro _ w_1 ⟨b1, rfl, hS2⟩
 refine rw_nil (cw_seq (cw_region ?_))
 refine sS 3 (Ys_alloc (T := 63) (cs := [vi 0, vi 0, vi 0, vi 0]) (m := 4) hS2 k_zero_63 rfl rfl rfl) ?_
 rintro _ w_2 ⟨b2, rfl, hS3⟩
 refine rw_nil (cw_seq (cw_region ?_))
 refine sQ 4 (Y_fieldAddr (B := aD b) (i := 0) (s := 0) k_fd_94_0_0_3 k_sz_3_1 rfl rfl) ?_
 refine sQ 5 (Y_load1 (B := aD b) (i := 0) (cs := kR_ a) (v := vi a.A) k_sc_3 rfl rfl (hS3.cf (i := 0) rfl) rfl) ?_
 refine sQ 6 (Y_fieldAddr (B := aD b2) (i := 0) (s := 0) k_fd_63_0_0_3 k_sz_3_1 rfl rfl) ?_
 refine s0 (Ys_store (i := 2) (s := 1) (B := aD b2) (T' := 63) (v := vi a.A) (vs := [vi a.A]) (k := 0) (cs' := [vi a.A, vi 0, vi 0, vi 0]) hS3 k_sz_3_1 rfl rfl rfl rfl rfl rfl rfl (lB rfl) rfl rfl) ?_
 rintro _ w_3 ⟨rfl, hS4⟩
 refine rw_nil (cw_seq (cw_region ?_))
 refine sQ 7 (Y_fieldAddr (B := aD b) (i := 0) (s := 0) k_fd_94_1_1_3 k_sz_3_1 rfl rfl) ?_
 refine sQ 8 (Y_load1 (B := aD b) (i := 1) (cs := kR_ a) (v := vi a.B) k_sc_3 rfl rfl (hS4.cf (i := 0) rfl) rfl) ?_
 refine sQ 9 (Y_fieldAddr (B := aD b2) (i := 0) (s := 0) k_fd_63_1_1_3 k_sz_3_1 rfl rfl) ?_
 refine s0 (Ys_store (i := 2) (s := 1) (B := aD b2) (T' := 63) (v := vi a.B) (vs := [vi a.B]) (k := 1) (cs' := [vi a.A, vi a.B, vi 0, vi 0]) hS4 k_sz_3_1 rfl rfl rfl rfl rfl rfl rfl (lB rfl) rfl rfl) ?_
 rintro _ w_4 ⟨rfl, hS5⟩
 refine rw_nil (cw_seq (cw_region ?_))
 refine sQ 10 (Y_fieldAddr (B := aD b) (i := 0) (s := 0) k_fd_94_2_2_3 k_sz_3_1 rfl rfl) ?_
 refine sQ 11 (Y_load1 (B := aD b) (i := 2) (cs := kR_ a) (v := vi a.C) k_sc_3 rfl rfl (hS5.cf (i := 0) rfl) rfl) ?_
 refine sQ 12 (Y_fieldAddr (B := aD b2) (i := 0) (s := 0) k_fd_63_2_2_3 k_sz_3_1 rfl rfl) ?_
 refine s0 (Ys_store (i := 2) (s := 1) (B := aD b2) (T' := 63) (v := vi a.C) (vs := [vi a.C]) (k := 2) (cs' := [vi a.A, vi a.B, vi a.C, vi 0]) hS5 k_sz_3_1 rfl rfl rfl rfl rfl rfl rfl (lB rfl) rfl rfl) ?_
 rintro _ w_5 ⟨rfl, hS6⟩
 refine rw_nil (cw_seq (cw_region ?_))
 refine sQ 13 (Y_fieldAddr (B := aD b) (i := 0) (s := 0) k_fd_94_3_3_3 k_sz_3_1 rfl rfl) ?_
 refine sQ 14 (Y_load1 (B := aD b) (i := 3) (cs := kR_ a) (v := vi a.D) k_sc_3 rfl rfl (hS6.cf (i := 0) rfl) rfl) ?_
 refine sQ 15 (Y_fieldAddr (B := aD b2) (i := 0) (s := 0) k_fd_63_3_3_3 k_sz_3_1 rfl rfl) ?_
 refine s0 (Ys_store (i := 2) (s := 1) (B := aD b2) (T' := 63) (v := vi a.D) (vs := [vi a.D]) (k := 3) (cs' := kR_ a) hS6 k_sz_3_1 rfl rfl rfl rfl rfl rfl rfl (lB rfl) rfl rfl) ?_
 rintro _ w_6 ⟨rfl, hS7⟩
 refine rw_nil (cw_seq (cw_region ?_))
 refine sQ 16 (Y_loadA (B := aD b2) (i := 0) (cs := kR_ a) (vs := kR_ a) k_ag_63 k_sz_63_4 rfl rfl (hS7.cf (i := 2) rfl) rfl rfl) ?_
 refine s0 (Ys_store (i := 1) (s := 4) (B := aD b1) (T' := 63) (v := gR_ a) (vs := kR_ a) (k := 0) (cs' := kR_ a) hS7 k_sz_63_4 rfl rfl rfl rfl rfl rfl rfl (lB rfl) rfl rfl) ?_
 rintro _ w_7 ⟨rfl, hS8⟩
 refine rw_nil (cw_ret ?_)
 obtain rfl := some_inj hF
 exact ret1 Tryz.results101 (v1 := gR_ a) (resAt_cellA (B := aD b1) (i := 0) (cs := kR_ a) (vs := kR_ a) rfl k_ag_63 k_sz_63_4 (hS8.cf (i := 1) rfl) rfl rfl) ⟨rfl, (hS8.sN [])⟩
end Go.VK
