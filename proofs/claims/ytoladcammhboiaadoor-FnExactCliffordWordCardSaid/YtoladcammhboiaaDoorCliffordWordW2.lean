/- Walks: each Go function returns what its Lean function says. By program. -/
import Derived.Test.YtoladcammhboiaaDoorCliffordWordFa
import Derived.Test.YtoladcammhboiaaDoorCliffordWordW1
set_option linter.unusedVariables false
set_option maxRecDepth 100000
set_option maxHeartbeats 1000000
namespace Go.VK
open Go.RowKit
open Go.Proofs
open Go.IntKind
attribute [local irreducible] CW RW RA CV Y Yw Yc Ys RetOf
attribute [local irreducible] F_spec_l1In F_spec_l1All F_spec_l1Good F_spec_l2C_ring F_spec_l1Root F_spec_l1Even F_spec_l1Half F_spec_l2Low F_spec_l1Add F_spec_l2C_add F_spec_l1Mul F_spec_l2C_mul F_spec_l2C_times F_spec_l1Turn F_spec_l2Power F_spec_l1Neg F_spec_l2Neg F_spec_l6One F_spec_l9Pauli F_spec_l1Conj F_spec_l2Conj F_spec_l3Adj F_spec_l9Bloch F_spec_l6Bit F_spec_l6Cell F_spec_l6Gate F_spec_l2C_run F_spec_l3Unit F_spec_l6Op F_spec_l9Word F_spec_l9Same F_spec_l9Words F_spec_CliffordWord F_impl_whole F_impl_small F_impl_within F_impl_isTwo F_impl_IsValidGate F_impl_isDim F_impl_matrixOf F_impl_isCoef F_impl_IsValidRing F_impl_MulOmega F_impl_phase F_impl_bitOf F_impl_flipped F_impl_comesFrom F_impl_entry F_impl_GateMatrix_1 F_impl_GateMatrix F_slices_IndexFunc_impl_Dyadic_impl_Dyadic F_slices_ContainsFunc_impl_Dyadic_impl_Dyadic F_impl_isEven F_impl_IsValidDyadic F_impl_IsValidMatrix_1 F_impl_IsValidMatrix F_impl_ringIf F_impl_Conjugate F_impl_ConjDyadic F_impl_Matrix_at F_impl_Adjoint_1 F_impl_Adjoint F_impl_MulRing F_impl_DivRootTwo F_impl_DyadicOf F_impl_MulDyadic F_impl_MulRootTwo F_impl_raised F_impl_combined F_impl_AddRing F_impl_AddDyadic F_impl_MulMatrix_1 F_impl_MulMatrix F_impl_IdentityMatrix_1 F_impl_IdentityMatrix F_slices_Equal_impl_Dyadic_impl_Dyadic F_impl_EqualMatrices F_impl_IsUnitary F_impl_IsOneQubit F_impl_TraceOf F_impl_blochCell F_impl_BlochOf F_impl_blochGate F_impl_mulBloch F_slices_IndexFunc_SSimpl_Dyadic_impl_Dyadic F_slices_ContainsFunc_SSimpl_Dyadic_impl_Dyadic F_impl_cliffordList_1 F_impl_cliffordList F_impl_CliffordWord F_laws_FnExactCliffordWord
theorem c_spec_l9Bloch (m : TMatrix) (B : Option Addr) (c n : Nat) (w0 : World) (hn : m.Cells.length = n) (hS : ST w0 [] w0 [] [⟨B, (m.Cells.flatMap eN0)⟩]) {r_ : TBloch} {r_1 : Bool} (hF : F_spec_l9Bloch m = some (r_, r_1)) :
  CV Tryd.prog 10 #[.agg #[vi m.Rows, vi m.Cols, .slice B n c]] w0 (fun v w' => ∃ (B1 : Option Addr) (c1 : Nat), v = .tuple #[.agg #[.slice B1 r_.Cells.length c1], .bool r_1] ∧ ST w0 [] w' [⟨B1, 44, (r_.Cells.flatMap eN0), c1 * 5⟩] []) := by
 subst hn
 unfold F_spec_l9Bloch at hF
 refine cv_of_cw 59 Tryd.func10 rfl Tryd.ntmps10 rfl ?_
 refine cw_seq ?_
 refine cw_region ?_
 refine ss 1 rfl rfl (Ys_box (T := 38) (v := .agg #[vi m.Rows, vi m.Cols, .slice B m.Cells.length c]) (cs := [vi m.Rows, vi m.Cols, .slice B m.Cells.length c]) (m := 3) hS rfl rfl rfl rfl) ?_
 rintro _ w_ ⟨b, rfl, hS1⟩
 refine ss 2 rfl rfl (Ys_alloc (T := 34) (cs := [.slice none 0 0]) (m := 1) hS1 k_zero_34 rfl rfl rfl) ?_
 rintro _ w_1 ⟨b1, rfl, hS2⟩
 have hS2 : ST w0 [] _ [⟨aD b, 38, [vi m.Rows, vi m.Cols, .slice B m.Cells.length c], 3⟩, ⟨aD b1, 34, [.slice none 0 0], 1⟩] [⟨B, (m.Cells.flatMap eN0)⟩] := hS2
 refine sq 3 rfl rfl (Y_assign (v := .bool false) rfl rfl) ?_
 refine rw_nil ?_
 refine cw_seq ?_
 refine cw_region ?_
 refine sq 10 rfl rfl (Y_buildS (zs := [.bool false]) (vs := []) (cs := [.bool false]) k_pl_55 k_zero_55 rfl mpn rfl) ?_
 refine ss 11 rfl rfl (Ys_box (T := 55) (v := .agg #[.bool false]) (cs := [.bool false]) (m := 1) hS2 rfl rfl rfl rfl) ?_
 rintro _ w_2 ⟨b2, rfl, hS3⟩
 have hS3 : ST w0 [] _ [⟨aD b, 38, [vi m.Rows, vi m.Cols, .slice B m.Cells.length c], 3⟩, ⟨aD b1, 34, [.slice none 0 0], 1⟩, ⟨aD b2, 55, [.bool false], 1⟩] [⟨B, (m.Cells.flatMap eN0)⟩] := hS3
 refine sq 4 rfl rfl (Y_assign (v := pt (aD b2) 0) rfl rfl) ?_
 refine rw_nil ?_
 refine cw_seq ?_
 refine cw_region ?_
 refine ss 5 rfl rfl (Ys_alloc (T := 34) (cs := [.slice none 0 0]) (m := 1) hS3 k_zero_34 rfl rfl rfl) ?_
 rintro _ w_3 ⟨b3, rfl, hS4⟩
 have hS4 : ST w0 [] _ [⟨aD b, 38, [vi m.Rows, vi m.Cols, .slice B m.Cells.length c], 3⟩, ⟨aD b1, 34, [.slice none 0 0], 1⟩, ⟨aD b2, 55, [.bool false], 1⟩, ⟨aD b3, 34, [.slice none 0 0], 1⟩] [⟨B, (m.Cells.flatMap eN0)⟩] := hS4
 refine rw_nil ?_
 refine cw_seq ?_
 refine cw_seq ?_
 refine cw_region ?_
 refine sq 6 rfl rfl (Y_assign (v := vi 0) rfl rfl) ?_
 refine rw_nil ?_
 obtain ⟨z, hz, hF1⟩ := bind_inv hF
 have hS6 := hS4.addNil 44
 refine cw_block ?_
 refine cw_loop (fun k f w => ∃ (i1 : Nat) (bad : Bool) (Cells : List TDyadic) (B2 : Option Addr) (c2 : Nat), FF f [(1, pt (aD b) 0), (2, pt (aD b1) 0), (4, pt (aD b2) 0), (5, pt (aD b3) 0), (6, vi (i1 : Int))] ∧ ST w0 [] w [⟨aD b, 38, [vi m.Rows, vi m.Cols, .slice B m.Cells.length c], 3⟩, ⟨aD b1, 34, [.slice none 0 0], 1⟩, ⟨aD b2, 55, [.bool bad], 1⟩, ⟨aD b3, 34, [.slice B2 Cells.length c2], 1⟩, ⟨B2, 44, (Cells.flatMap eN0), c2 * 5⟩] [⟨B, (m.Cells.flatMap eN0)⟩] ∧ i1 + k = 3 ∧ forN (F_spec_l9Bloch_l1 m) k i1 (bad, Cells) = some z) 3 ⟨0, false, [], none, 0, (FF.cons rfl (FF.cons rfl (FF.cons rfl (FF.cons rfl (FF.cons rfl FF.nil))))), (hS6.sel [0, 1, 2, 3, 4] rfl rfl), Nat.zero_add _, hz⟩ ?_
 rintro k_ f w ⟨i1, bad, Cells, B2, c2, hf, hS5, hik, hL⟩
 refine cw_seq ?_
 refine cw_seq ?_
 refine cw_region ?_
 refine sq 12 rfl rfl (Y_move (v := vi (i1 : Int)) rfl (hf.get 6 4 rfl)) ?_
 refine sq 13 rfl rfl (Y_lt (k := .i64) (a := (i1 : Int)) (b := 3) rfl rfl rfl) ?_
 refine rw_nil ?_
 refine cw_cond (b := (decide ((i1 : Int) < 3))) rfl (fun hlt => ?_) (fun hlt => ?_)
 ·skip
  have hlt1 : i1 < 3 := by have h := of_decide_eq_true hlt; omega
  obtain ⟨k_1, rfl⟩ : ∃ k2, k_ = k2 + 1 := ⟨k_ - 1, by omega⟩
  obtain ⟨y, hb, hL1⟩ := forN_go hL
  unfold F_spec_l9Bloch_l1 at hb
  refine cw_skip ?_
  refine cw_seq ?_
  refine cw_block ?_
  refine cw_seq ?_
  refine cw_region ?_
  refine sq 7 rfl rfl (Y_assign (v := vi 0) rfl rfl) ?_
  refine rw_nil ?_
  obtain ⟨z1, hz1, hF2⟩ := bind_inv hb
  refine cw_block ?_
  refine cw_loop (fun k f w => ∃ (j : Nat) (bad1 : Bool) (Cells1 : List TDyadic) (B3 : Option Addr) (c3 : Nat), FF f [(1, pt (aD b) 0), (2, pt (aD b1) 0), (4, pt (aD b2) 0), (5, pt (aD b3) 0), (6, vi (i1 : Int)), (7, vi (j : Int))] ∧ ST w0 [] w [⟨aD b, 38, [vi m.Rows, vi m.Cols, .slice B m.Cells.length c], 3⟩, ⟨aD b1, 34, [.slice none 0 0], 1⟩, ⟨aD b2, 55, [.bool bad1], 1⟩, ⟨aD b3, 34, [.slice B3 Cells1.length c3], 1⟩, ⟨B3, 44, (Cells1.flatMap eN0), c3 * 5⟩] [⟨B, (m.Cells.flatMap eN0)⟩] ∧ j + k = 3 ∧ forN (F_spec_l9Bloch_l2 i1 m Cells bad) k j (bad1, Cells1) = some z1) 3 ⟨0, bad, Cells, B2, c2, (FF.cons (hf.get 1 0 rfl) (FF.cons (hf.get 2 1 rfl) (FF.cons (hf.get 4 2 rfl) (FF.cons (hf.get 5 3 rfl) (FF.cons (hf.get 6 4 rfl) (FF.cons rfl FF.nil)))))), (hS5.sel [0, 1, 2, 3, 4] rfl rfl), Nat.zero_add _, hz1⟩ ?_
  rintro k_2 f w ⟨j, bad1, Cells1, B3, c3, hf1, hS7, hik1, hL2⟩
  refine cw_seq ?_
  refine cw_seq ?_
  refine cw_region ?_
  refine sq 16 rfl rfl (Y_move (v := vi (j : Int)) rfl (hf1.get 7 5 rfl)) ?_
  refine sq 17 rfl rfl (Y_lt (k := .i64) (a := (j : Int)) (b := 3) rfl rfl rfl) ?_
  refine rw_nil ?_
  refine cw_cond (b := (decide ((j : Int) < 3))) rfl (fun hlt2 => ?_) (fun hlt2 => ?_)
  ·skip
   have hlt3 : j < 3 := by have h := of_decide_eq_true hlt2; omega
   obtain ⟨k_3, rfl⟩ : ∃ k2, k_2 = k2 + 1 := ⟨k_2 - 1, by omega⟩
   obtain ⟨y1, hb1, hL3⟩ := forN_go hL2
   unfold F_spec_l9Bloch_l2 at hb1
   refine cw_skip ?_
   refine cw_seq ?_
   refine cw_block ?_
   refine cw_seq ?_
   obtain ⟨r_2, hc, hb1⟩ := bind_inv hb1
   obtain ⟨⟨r_3, m1⟩, hc1, hb1⟩ := bind_inv hb1
   obtain ⟨r_4, hc2, hb1⟩ := bind_inv hb1
   obtain ⟨⟨r_5, m2⟩, hc3, hb1⟩ := bind_inv hb1
   obtain ⟨r_6, hc4, hb1⟩ := bind_inv hb1
   obtain ⟨⟨r_7, m3⟩, hc5, hb1⟩ := bind_inv hb1
   refine cw_mid (fun f w => ∃ (B10 : Option Addr) (B11 : Option Addr) (c10 : Nat), FF f [(1, pt (aD b) 0), (2, pt (aD b1) 0), (4, pt (aD b2) 0), (5, pt (aD b3) 0), (6, vi (i1 : Int)), (7, vi (j : Int)), (8, pt B10 0)] ∧ ST w0 [] w [⟨aD b, 38, [vi m.Rows, vi m.Cols, .slice B m.Cells.length c], 3⟩, ⟨aD b1, 34, [.slice none 0 0], 1⟩, ⟨aD b2, 55, [.bool m3.bad], 1⟩, ⟨aD b3, 34, [.slice B3 Cells1.length c3], 1⟩, ⟨B3, 44, (Cells1.flatMap eN0), c3 * 5⟩, ⟨B10, 38, [vi r_7.Rows, vi r_7.Cols, .slice B11 r_7.Cells.length c10], 3⟩, ⟨B11, 44, (r_7.Cells.flatMap eN0), c10 * 5⟩] [⟨B, (m.Cells.flatMap eN0)⟩]) ?_ ?_
   ·skip
    refine ra_start (ST.sel hS7 [0, 1, 3, 4] rfl rfl).fn (by kernel_rfl) ?_
    have hS15 := hS7.drew
    refine ra_q 0 20 (v := pt (aD b2) 0) rfl rfl rfl (by kernel_rfl) (by kernel_rfl) (by kernel_rfl) (ST.sel hS15 [0, 1, 3, 4] rfl rfl) (fun w' hw' => (Y_move (v := pt (aD b2) 0) rfl (hf1.get 4 2 rfl))) ?_
    refine ra_q 1 21 (v := pt (aD b2) 0) rfl rfl rfl (by kernel_rfl) (by kernel_rfl) (by kernel_rfl) (ST.sel hS15 [0, 1, 3, 4] rfl rfl) (fun w' hw' => (Y_move (v := pt (aD b2) 0) rfl (hf1.get 4 2 rfl))) ?_
    refine ra_q 2 22 (v := pt (aD b2) 0) rfl rfl rfl (by kernel_rfl) (by kernel_rfl) (by kernel_rfl) (ST.sel hS15 [0, 1, 3, 4] rfl rfl) (fun w' hw' => (Y_move (v := pt (aD b2) 0) rfl (hf1.get 4 2 rfl))) ?_
    refine ra_q 3 23 (v := vi (i1 : Int)) rfl rfl rfl (by kernel_rfl) (by kernel_rfl) (by kernel_rfl) (ST.sel hS15 [0, 1, 3, 4] rfl rfl) (fun w' hw' => (Y_move (v := vi (i1 : Int)) rfl (hf1.get 6 4 rfl))) ?_
    refine ra_q 5 25 (v := .agg #[vi m.Rows, vi m.Cols, .slice B m.Cells.length c]) rfl rfl rfl (by kernel_rfl) (by kernel_rfl) (by kernel_rfl) (ST.sel hS15 [0, 1, 3, 4] rfl rfl) (fun w' hw' => (Y_loadA (B := aD b) (i := 0) (cs := [vi m.Rows, vi m.Cols, .slice B m.Cells.length c]) (vs := [vi m.Rows, vi m.Cols, .slice B m.Cells.length c]) k_ag_38 k_sz_38_3 rfl (hf1.get 1 0 rfl) (ST.cf hw' (i := 0) rfl) rfl rfl)) ?_
    refine ra_q 7 27 (v := vi (j : Int)) rfl rfl rfl (by kernel_rfl) (by kernel_rfl) (by kernel_rfl) (ST.sel hS15 [0, 1, 3, 4] rfl rfl) (fun w' hw' => (Y_move (v := vi (j : Int)) rfl (hf1.get 7 5 rfl))) ?_
    refine ra_q 10 30 (v := .agg #[vi m.Rows, vi m.Cols, .slice B m.Cells.length c]) rfl rfl rfl (by kernel_rfl) (by kernel_rfl) (by kernel_rfl) (ST.sel hS15 [0, 1, 3, 4] rfl rfl) (fun w' hw' => (Y_loadA (B := aD b) (i := 0) (cs := [vi m.Rows, vi m.Cols, .slice B m.Cells.length c]) (vs := [vi m.Rows, vi m.Cols, .slice B m.Cells.length c]) k_ag_38 k_sz_38_3 rfl (hf1.get 1 0 rfl) (ST.cf hw' (i := 0) rfl) rfl rfl)) ?_
    refine ra_all (rs := [4, 13]) (by kernel_rfl) rfl ?_
    refine ra_c 24 (i := 4) rfl rfl rfl (Yc_func (g := 21) (vs := [vi (i1 : Int)]) k_call_21 rfl (mc rfl mn) (c_spec_l9Pauli (i1 : Int) _  (hS15.inn0 [] rfl) hc)) ?_ ?_
    ·rintro _ w_4 ⟨B4, c4, rfl, hd⟩
     have hS16 := hS15.out0 hd
     have hS16 : ST w0 [] _ [⟨aD b, 38, [vi m.Rows, vi m.Cols, .slice B m.Cells.length c], 3⟩, ⟨aD b1, 34, [.slice none 0 0], 1⟩, ⟨aD b2, 55, [.bool bad1], 1⟩, ⟨aD b3, 34, [.slice B3 Cells1.length c3], 1⟩, ⟨B3, 44, (Cells1.flatMap eN0), c3 * 5⟩, ⟨B4, 44, (r_2.Cells.flatMap eN0), c4 * 5⟩] [⟨B, (m.Cells.flatMap eN0)⟩] := hS16
     refine ⟨(ST.sel hS16 [0, 1, 3, 4] rfl rfl), ?_⟩
     refine ra_all (rs := [6, 13]) (by kernel_rfl) rfl ?_
     refine ra_c 26 (i := 6) rfl rfl rfl (Yc_func (g := 20) (vs := [pt (aD b2) 0, .agg #[vi r_2.Rows, vi r_2.Cols, .slice B4 r_2.Cells.length c4], .agg #[vi m.Rows, vi m.Cols, .slice B m.Cells.length c]]) k_call_20 rfl (mc rfl (mc rfl (mc rfl mn))) (c_spec_l2C_times (Tl2C.mk bad1) r_2 m (aD b2) B4 c4 r_2.Cells.length B c m.Cells.length _ rfl rfl (hS16.inn [false, false, true, false, false, false] rfl [(false, 4), (true, 0)] rfl) hc1)) ?_ ?_
     ·rintro _ w_5 ⟨B5, c5, rfl, hd1⟩
      have hS17 := hS16.out [false, false, true, false, false, false] rfl hd1
      have hS17 : ST w0 [] _ [⟨aD b, 38, [vi m.Rows, vi m.Cols, .slice B m.Cells.length c], 3⟩, ⟨aD b1, 34, [.slice none 0 0], 1⟩, ⟨aD b3, 34, [.slice B3 Cells1.length c3], 1⟩, ⟨B3, 44, (Cells1.flatMap eN0), c3 * 5⟩, ⟨B4, 44, (r_2.Cells.flatMap eN0), c4 * 5⟩, ⟨aD b2, 55, [.bool m1.bad], 1⟩, ⟨B5, 44, (r_3.Cells.flatMap eN0), c5 * 5⟩] [⟨B, (m.Cells.flatMap eN0)⟩] := hS17
      refine ⟨(ST.sel hS17 [0, 1, 2, 3] rfl rfl), ?_⟩
      refine ra_all (rs := [8, 13]) (by kernel_rfl) rfl ?_
      refine ra_c 28 (i := 8) rfl rfl rfl (Yc_func (g := 21) (vs := [vi (j : Int)]) k_call_21 rfl (mc rfl mn) (c_spec_l9Pauli (j : Int) _  (hS17.inn0 [] rfl) hc2)) ?_ ?_
      ·rintro _ w_6 ⟨B6, c6, rfl, hd2⟩
       have hS18 := hS17.out0 hd2
       have hS18 : ST w0 [] _ [⟨aD b, 38, [vi m.Rows, vi m.Cols, .slice B m.Cells.length c], 3⟩, ⟨aD b1, 34, [.slice none 0 0], 1⟩, ⟨aD b3, 34, [.slice B3 Cells1.length c3], 1⟩, ⟨B3, 44, (Cells1.flatMap eN0), c3 * 5⟩, ⟨B4, 44, (r_2.Cells.flatMap eN0), c4 * 5⟩, ⟨aD b2, 55, [.bool m1.bad], 1⟩, ⟨B5, 44, (r_3.Cells.flatMap eN0), c5 * 5⟩, ⟨B6, 44, (r_4.Cells.flatMap eN0), c6 * 5⟩] [⟨B, (m.Cells.flatMap eN0)⟩] := hS18
       refine ⟨(ST.sel hS18 [0, 1, 2, 3] rfl rfl), ?_⟩
       refine ra_all (rs := [9, 13]) (by kernel_rfl) rfl ?_
       refine ra_c 29 (i := 9) rfl rfl rfl (Yc_func (g := 20) (vs := [pt (aD b2) 0, .agg #[vi r_3.Rows, vi r_3.Cols, .slice B5 r_3.Cells.length c5], .agg #[vi r_4.Rows, vi r_4.Cols, .slice B6 r_4.Cells.length c6]]) k_call_20 rfl (mc rfl (mc rfl (mc rfl mn))) (c_spec_l2C_times m1 r_3 r_4 (aD b2) B5 c5 r_3.Cells.length B6 c6 r_4.Cells.length _ rfl rfl (hS18.inn [false, false, false, false, false, true, false, false] rfl [(false, 5), (false, 6)] rfl) hc3)) ?_ ?_
       ·rintro _ w_7 ⟨B7, c7, rfl, hd3⟩
        have hS19 := hS18.out [false, false, false, false, false, true, false, false] rfl hd3
        have hS19 : ST w0 [] _ [⟨aD b, 38, [vi m.Rows, vi m.Cols, .slice B m.Cells.length c], 3⟩, ⟨aD b1, 34, [.slice none 0 0], 1⟩, ⟨aD b3, 34, [.slice B3 Cells1.length c3], 1⟩, ⟨B3, 44, (Cells1.flatMap eN0), c3 * 5⟩, ⟨B4, 44, (r_2.Cells.flatMap eN0), c4 * 5⟩, ⟨B5, 44, (r_3.Cells.flatMap eN0), c5 * 5⟩, ⟨B6, 44, (r_4.Cells.flatMap eN0), c6 * 5⟩, ⟨aD b2, 55, [.bool m2.bad], 1⟩, ⟨B7, 44, (r_5.Cells.flatMap eN0), c7 * 5⟩] [⟨B, (m.Cells.flatMap eN0)⟩] := hS19
        refine ⟨(ST.sel hS19 [0, 1, 2, 3] rfl rfl), ?_⟩
        refine ra_all (rs := [11, 13]) (by kernel_rfl) rfl ?_
        refine ra_c 31 (i := 11) rfl rfl rfl (Yc_func (g := 22) (vs := [.agg #[vi m.Rows, vi m.Cols, .slice B m.Cells.length c]]) k_call_22 rfl (mc rfl mn) (c_spec_l3Adj m B c m.Cells.length _ rfl (hS19.inn0 [(true, 0)] rfl) hc4)) ?_ ?_
        ·rintro _ w_8 ⟨B8, c8, rfl, hd4⟩
         have hS20 := hS19.out0 hd4
         have hS20 : ST w0 [] _ [⟨aD b, 38, [vi m.Rows, vi m.Cols, .slice B m.Cells.length c], 3⟩, ⟨aD b1, 34, [.slice none 0 0], 1⟩, ⟨aD b3, 34, [.slice B3 Cells1.length c3], 1⟩, ⟨B3, 44, (Cells1.flatMap eN0), c3 * 5⟩, ⟨B4, 44, (r_2.Cells.flatMap eN0), c4 * 5⟩, ⟨B5, 44, (r_3.Cells.flatMap eN0), c5 * 5⟩, ⟨B6, 44, (r_4.Cells.flatMap eN0), c6 * 5⟩, ⟨aD b2, 55, [.bool m2.bad], 1⟩, ⟨B7, 44, (r_5.Cells.flatMap eN0), c7 * 5⟩, ⟨B8, 44, (r_6.Cells.flatMap eN0), c8 * 5⟩] [⟨B, (m.Cells.flatMap eN0)⟩] := hS20
         refine ⟨(ST.sel hS20 [0, 1, 2, 3] rfl rfl), ?_⟩
         refine ra_all (rs := [12, 13]) (by kernel_rfl) rfl ?_
         refine ra_c 32 (i := 12) rfl rfl rfl (Yc_func (g := 20) (vs := [pt (aD b2) 0, .agg #[vi r_5.Rows, vi r_5.Cols, .slice B7 r_5.Cells.length c7], .agg #[vi r_6.Rows, vi r_6.Cols, .slice B8 r_6.Cells.length c8]]) k_call_20 rfl (mc rfl (mc rfl (mc rfl mn))) (c_spec_l2C_times m2 r_5 r_6 (aD b2) B7 c7 r_5.Cells.length B8 c8 r_6.Cells.length _ rfl rfl (hS20.inn [false, false, false, false, false, false, false, true, false, false] rfl [(false, 7), (false, 8)] rfl) hc5)) ?_ ?_
         ·rintro _ w_9 ⟨B9, c9, rfl, hd5⟩
          have hS21 := hS20.out [false, false, false, false, false, false, false, true, false, false] rfl hd5
          have hS21 : ST w0 [] _ [⟨aD b, 38, [vi m.Rows, vi m.Cols, .slice B m.Cells.length c], 3⟩, ⟨aD b1, 34, [.slice none 0 0], 1⟩, ⟨aD b3, 34, [.slice B3 Cells1.length c3], 1⟩, ⟨B3, 44, (Cells1.flatMap eN0), c3 * 5⟩, ⟨B4, 44, (r_2.Cells.flatMap eN0), c4 * 5⟩, ⟨B5, 44, (r_3.Cells.flatMap eN0), c5 * 5⟩, ⟨B6, 44, (r_4.Cells.flatMap eN0), c6 * 5⟩, ⟨B7, 44, (r_5.Cells.flatMap eN0), c7 * 5⟩, ⟨B8, 44, (r_6.Cells.flatMap eN0), c8 * 5⟩, ⟨aD b2, 55, [.bool m3.bad], 1⟩, ⟨B9, 44, (r_7.Cells.flatMap eN0), c9 * 5⟩] [⟨B, (m.Cells.flatMap eN0)⟩] := hS21
          refine ⟨(ST.sel hS21 [0, 1, 2, 3] rfl rfl), ?_⟩
          refine ra_all (rs := [13]) (by kernel_rfl) rfl ?_
          refine ra_s 8 (i := 13) rfl rfl rfl (Ys_alloc (T := 38) (cs := [vi 0, vi 0, .slice none 0 0]) (m := 3) hS21 k_zero_38 rfl rfl rfl) ?_ ?_
          ·rintro _ w_10 ⟨b4, rfl, hS22⟩
           have hS22 : ST w0 [] _ [⟨aD b, 38, [vi m.Rows, vi m.Cols, .slice B m.Cells.length c], 3⟩, ⟨aD b1, 34, [.slice none 0 0], 1⟩, ⟨aD b3, 34, [.slice B3 Cells1.length c3], 1⟩, ⟨B3, 44, (Cells1.flatMap eN0), c3 * 5⟩, ⟨B4, 44, (r_2.Cells.flatMap eN0), c4 * 5⟩, ⟨B5, 44, (r_3.Cells.flatMap eN0), c5 * 5⟩, ⟨B6, 44, (r_4.Cells.flatMap eN0), c6 * 5⟩, ⟨B7, 44, (r_5.Cells.flatMap eN0), c7 * 5⟩, ⟨B8, 44, (r_6.Cells.flatMap eN0), c8 * 5⟩, ⟨aD b2, 55, [.bool m3.bad], 1⟩, ⟨B9, 44, (r_7.Cells.flatMap eN0), c9 * 5⟩, ⟨aD b4, 38, [vi 0, vi 0, .slice none 0 0], 3⟩] [⟨B, (m.Cells.flatMap eN0)⟩] := hS22
           refine ⟨(ST.sel hS22 [0, 1, 2, 3] rfl rfl), ?_⟩
           refine ra_all (rs := [14]) (by kernel_rfl) rfl ?_
           refine ra_s0 (i := 14) rfl rfl rfl (Ys_store (i := 11) (s := 3) (B := aD b4) (T' := 38) (v := .agg #[vi r_7.Rows, vi r_7.Cols, .slice B9 r_7.Cells.length c9]) (vs := [vi r_7.Rows, vi r_7.Cols, .slice B9 r_7.Cells.length c9]) (k := 0) (cs' := [vi r_7.Rows, vi r_7.Cols, .slice B9 r_7.Cells.length c9]) hS22 k_sz_38_3 rfl rfl rfl rfl rfl rfl rfl (Nat.le_of_ble_eq_true rfl) rfl rfl) ?_ ?_
           ·rintro _ w_11 ⟨rfl, hS23⟩
            have hS23 : ST w0 [] _ [⟨aD b, 38, [vi m.Rows, vi m.Cols, .slice B m.Cells.length c], 3⟩, ⟨aD b1, 34, [.slice none 0 0], 1⟩, ⟨aD b3, 34, [.slice B3 Cells1.length c3], 1⟩, ⟨B3, 44, (Cells1.flatMap eN0), c3 * 5⟩, ⟨B4, 44, (r_2.Cells.flatMap eN0), c4 * 5⟩, ⟨B5, 44, (r_3.Cells.flatMap eN0), c5 * 5⟩, ⟨B6, 44, (r_4.Cells.flatMap eN0), c6 * 5⟩, ⟨B7, 44, (r_5.Cells.flatMap eN0), c7 * 5⟩, ⟨B8, 44, (r_6.Cells.flatMap eN0), c8 * 5⟩, ⟨aD b2, 55, [.bool m3.bad], 1⟩, ⟨B9, 44, (r_7.Cells.flatMap eN0), c9 * 5⟩, ⟨aD b4, 38, [vi r_7.Rows, vi r_7.Cols, .slice B9 r_7.Cells.length c9], 3⟩] [⟨B, (m.Cells.flatMap eN0)⟩] := hS23
            refine ⟨(ST.sel hS23 [0, 1, 2, 3] rfl rfl), ?_⟩
            refine ra_done (by kernel_rfl) ?_
            exact ⟨aD b4, B9, c9, (FF.cons (hf1.get 1 0 rfl) (FF.cons (hf1.get 2 1 rfl) (FF.cons (hf1.get 4 2 rfl) (FF.cons (hf1.get 5 3 rfl) (FF.cons (hf1.get 6 4 rfl) (FF.cons (hf1.get 7 5 rfl) (FF.cons rfl FF.nil))))))), (hS23.sel [0, 1, 9, 2, 3, 11, 10] rfl rfl)⟩
           exact allR_nil
          exact allR_nil
         refine ra_s 8 (i := 13) rfl rfl rfl (Ys_alloc (T := 38) (cs := [vi 0, vi 0, .slice none 0 0]) (m := 3) hS20 k_zero_38 rfl rfl rfl) ?_ ?_
         ·rintro _ w_12 ⟨b4, rfl, hS24⟩
          have hS24 : ST w0 [] _ [⟨aD b, 38, [vi m.Rows, vi m.Cols, .slice B m.Cells.length c], 3⟩, ⟨aD b1, 34, [.slice none 0 0], 1⟩, ⟨aD b3, 34, [.slice B3 Cells1.length c3], 1⟩, ⟨B3, 44, (Cells1.flatMap eN0), c3 * 5⟩, ⟨B4, 44, (r_2.Cells.flatMap eN0), c4 * 5⟩, ⟨B5, 44, (r_3.Cells.flatMap eN0), c5 * 5⟩, ⟨B6, 44, (r_4.Cells.flatMap eN0), c6 * 5⟩, ⟨aD b2, 55, [.bool m2.bad], 1⟩, ⟨B7, 44, (r_5.Cells.flatMap eN0), c7 * 5⟩, ⟨B8, 44, (r_6.Cells.flatMap eN0), c8 * 5⟩, ⟨aD b4, 38, [vi 0, vi 0, .slice none 0 0], 3⟩] [⟨B, (m.Cells.flatMap eN0)⟩] := hS24
          refine ⟨(ST.sel hS24 [0, 1, 2, 3] rfl rfl), ?_⟩
          refine ra_all (rs := [12]) (by kernel_rfl) rfl ?_
          refine ra_c 32 (i := 12) rfl rfl rfl (Yc_func (g := 20) (vs := [pt (aD b2) 0, .agg #[vi r_5.Rows, vi r_5.Cols, .slice B7 r_5.Cells.length c7], .agg #[vi r_6.Rows, vi r_6.Cols, .slice B8 r_6.Cells.length c8]]) k_call_20 rfl (mc rfl (mc rfl (mc rfl mn))) (c_spec_l2C_times m2 r_5 r_6 (aD b2) B7 c7 r_5.Cells.length B8 c8 r_6.Cells.length _ rfl rfl (hS24.inn [false, false, false, false, false, false, false, true, false, false, false] rfl [(false, 7), (false, 8)] rfl) hc5)) ?_ ?_
          ·rintro _ w_13 ⟨B9, c9, rfl, hd6⟩
           have hS25 := hS24.out [false, false, false, false, false, false, false, true, false, false, false] rfl hd6
           have hS25 : ST w0 [] _ [⟨aD b, 38, [vi m.Rows, vi m.Cols, .slice B m.Cells.length c], 3⟩, ⟨aD b1, 34, [.slice none 0 0], 1⟩, ⟨aD b3, 34, [.slice B3 Cells1.length c3], 1⟩, ⟨B3, 44, (Cells1.flatMap eN0), c3 * 5⟩, ⟨B4, 44, (r_2.Cells.flatMap eN0), c4 * 5⟩, ⟨B5, 44, (r_3.Cells.flatMap eN0), c5 * 5⟩, ⟨B6, 44, (r_4.Cells.flatMap eN0), c6 * 5⟩, ⟨B7, 44, (r_5.Cells.flatMap eN0), c7 * 5⟩, ⟨B8, 44, (r_6.Cells.flatMap eN0), c8 * 5⟩, ⟨aD b4, 38, [vi 0, vi 0, .slice none 0 0], 3⟩, ⟨aD b2, 55, [.bool m3.bad], 1⟩, ⟨B9, 44, (r_7.Cells.flatMap eN0), c9 * 5⟩] [⟨B, (m.Cells.flatMap eN0)⟩] := hS25
           refine ⟨(ST.sel hS25 [0, 1, 2, 3] rfl rfl), ?_⟩
           refine ra_all (rs := [14]) (by kernel_rfl) rfl ?_
           refine ra_s0 (i := 14) rfl rfl rfl (Ys_store (i := 9) (s := 3) (B := aD b4) (T' := 38) (v := .agg #[vi r_7.Rows, vi r_7.Cols, .slice B9 r_7.Cells.length c9]) (vs := [vi r_7.Rows, vi r_7.Cols, .slice B9 r_7.Cells.length c9]) (k := 0) (cs' := [vi r_7.Rows, vi r_7.Cols, .slice B9 r_7.Cells.length c9]) hS25 k_sz_38_3 rfl rfl rfl rfl rfl rfl rfl (Nat.le_of_ble_eq_true rfl) rfl rfl) ?_ ?_
           ·rintro _ w_14 ⟨rfl, hS26⟩
            have hS26 : ST w0 [] _ [⟨aD b, 38, [vi m.Rows, vi m.Cols, .slice B m.Cells.length c], 3⟩, ⟨aD b1, 34, [.slice none 0 0], 1⟩, ⟨aD b3, 34, [.slice B3 Cells1.length c3], 1⟩, ⟨B3, 44, (Cells1.flatMap eN0), c3 * 5⟩, ⟨B4, 44, (r_2.Cells.flatMap eN0), c4 * 5⟩, ⟨B5, 44, (r_3.Cells.flatMap eN0), c5 * 5⟩, ⟨B6, 44, (r_4.Cells.flatMap eN0), c6 * 5⟩, ⟨B7, 44, (r_5.Cells.flatMap eN0), c7 * 5⟩, ⟨B8, 44, (r_6.Cells.flatMap eN0), c8 * 5⟩, ⟨aD b4, 38, [vi r_7.Rows, vi r_7.Cols, .slice B9 r_7.Cells.length c9], 3⟩, ⟨aD b2, 55, [.bool m3.bad], 1⟩, ⟨B9, 44, (r_7.Cells.flatMap eN0), c9 * 5⟩] [⟨B, (m.Cells.flatMap eN0)⟩] := hS26
            refine ⟨(ST.sel hS26 [0, 1, 2, 3] rfl rfl), ?_⟩
            refine ra_done (by kernel_rfl) ?_
            exact ⟨aD b4, B9, c9, (FF.cons (hf1.get 1 0 rfl) (FF.cons (hf1.get 2 1 rfl) (FF.cons (hf1.get 4 2 rfl) (FF.cons (hf1.get 5 3 rfl) (FF.cons (hf1.get 6 4 rfl) (FF.cons (hf1.get 7 5 rfl) (FF.cons rfl FF.nil))))))), (hS26.sel [0, 1, 10, 2, 3, 9, 11] rfl rfl)⟩
           exact allR_nil
          exact allR_nil
         exact allR_nil
        refine ra_s 8 (i := 13) rfl rfl rfl (Ys_alloc (T := 38) (cs := [vi 0, vi 0, .slice none 0 0]) (m := 3) hS19 k_zero_38 rfl rfl rfl) ?_ ?_
        ·rintro _ w_15 ⟨b4, rfl, hS27⟩
         have hS27 : ST w0 [] _ [⟨aD b, 38, [vi m.Rows, vi m.Cols, .slice B m.Cells.length c], 3⟩, ⟨aD b1, 34, [.slice none 0 0], 1⟩, ⟨aD b3, 34, [.slice B3 Cells1.length c3], 1⟩, ⟨B3, 44, (Cells1.flatMap eN0), c3 * 5⟩, ⟨B4, 44, (r_2.Cells.flatMap eN0), c4 * 5⟩, ⟨B5, 44, (r_3.Cells.flatMap eN0), c5 * 5⟩, ⟨B6, 44, (r_4.Cells.flatMap eN0), c6 * 5⟩, ⟨aD b2, 55, [.bool m2.bad], 1⟩, ⟨B7, 44, (r_5.Cells.flatMap eN0), c7 * 5⟩, ⟨aD b4, 38, [vi 0, vi 0, .slice none 0 0], 3⟩] [⟨B, (m.Cells.flatMap eN0)⟩] := hS27
         refine ⟨(ST.sel hS27 [0, 1, 2, 3] rfl rfl), ?_⟩
         refine ra_all (rs := [11]) (by kernel_rfl) rfl ?_
         refine ra_c 31 (i := 11) rfl rfl rfl (Yc_func (g := 22) (vs := [.agg #[vi m.Rows, vi m.Cols, .slice B m.Cells.length c]]) k_call_22 rfl (mc rfl mn) (c_spec_l3Adj m B c m.Cells.length _ rfl (hS27.inn0 [(true, 0)] rfl) hc4)) ?_ ?_
         ·rintro _ w_16 ⟨B8, c8, rfl, hd7⟩
          have hS28 := hS27.out0 hd7
          have hS28 : ST w0 [] _ [⟨aD b, 38, [vi m.Rows, vi m.Cols, .slice B m.Cells.length c], 3⟩, ⟨aD b1, 34, [.slice none 0 0], 1⟩, ⟨aD b3, 34, [.slice B3 Cells1.length c3], 1⟩, ⟨B3, 44, (Cells1.flatMap eN0), c3 * 5⟩, ⟨B4, 44, (r_2.Cells.flatMap eN0), c4 * 5⟩, ⟨B5, 44, (r_3.Cells.flatMap eN0), c5 * 5⟩, ⟨B6, 44, (r_4.Cells.flatMap eN0), c6 * 5⟩, ⟨aD b2, 55, [.bool m2.bad], 1⟩, ⟨B7, 44, (r_5.Cells.flatMap eN0), c7 * 5⟩, ⟨aD b4, 38, [vi 0, vi 0, .slice none 0 0], 3⟩, ⟨B8, 44, (r_6.Cells.flatMap eN0), c8 * 5⟩] [⟨B, (m.Cells.flatMap eN0)⟩] := hS28
          refine ⟨(ST.sel hS28 [0, 1, 2, 3] rfl rfl), ?_⟩
          refine ra_all (rs := [12]) (by kernel_rfl) rfl ?_
          refine ra_c 32 (i := 12) rfl rfl rfl (Yc_func (g := 20) (vs := [pt (aD b2) 0, .agg #[vi r_5.Rows, vi r_5.Cols, .slice B7 r_5.Cells.length c7], .agg #[vi r_6.Rows, vi r_6.Cols, .slice B8 r_6.Cells.length c8]]) k_call_20 rfl (mc rfl (mc rfl (mc rfl mn))) (c_spec_l2C_times m2 r_5 r_6 (aD b2) B7 c7 r_5.Cells.length B8 c8 r_6.Cells.length _ rfl rfl (hS28.inn [false, false, false, false, false, false, false, true, false, false, false] rfl [(false, 7), (false, 9)] rfl) hc5)) ?_ ?_
          ·rintro _ w_17 ⟨B9, c9, rfl, hd8⟩
           have hS29 := hS28.out [false, false, false, false, false, false, false, true, false, false, false] rfl hd8
           have hS29 : ST w0 [] _ [⟨aD b, 38, [vi m.Rows, vi m.Cols, .slice B m.Cells.length c], 3⟩, ⟨aD b1, 34, [.slice none 0 0], 1⟩, ⟨aD b3, 34, [.slice B3 Cells1.length c3], 1⟩, ⟨B3, 44, (Cells1.flatMap eN0), c3 * 5⟩, ⟨B4, 44, (r_2.Cells.flatMap eN0), c4 * 5⟩, ⟨B5, 44, (r_3.Cells.flatMap eN0), c5 * 5⟩, ⟨B6, 44, (r_4.Cells.flatMap eN0), c6 * 5⟩, ⟨B7, 44, (r_5.Cells.flatMap eN0), c7 * 5⟩, ⟨aD b4, 38, [vi 0, vi 0, .slice none 0 0], 3⟩, ⟨B8, 44, (r_6.Cells.flatMap eN0), c8 * 5⟩, ⟨aD b2, 55, [.bool m3.bad], 1⟩, ⟨B9, 44, (r_7.Cells.flatMap eN0), c9 * 5⟩] [⟨B, (m.Cells.flatMap eN0)⟩] := hS29
           refine ⟨(ST.sel hS29 [0, 1, 2, 3] rfl rfl), ?_⟩
           refine ra_all (rs := [14]) (by kernel_rfl) rfl ?_
           refine ra_s0 (i := 14) rfl rfl rfl (Ys_store (i := 8) (s := 3) (B := aD b4) (T' := 38) (v := .agg #[vi r_7.Rows, vi r_7.Cols, .slice B9 r_7.Cells.length c9]) (vs := [vi r_7.Rows, vi r_7.Cols, .slice B9 r_7.Cells.length c9]) (k := 0) (cs' := [vi r_7.Rows, vi r_7.Cols, .slice B9 r_7.Cells.length c9]) hS29 k_sz_38_3 rfl rfl rfl rfl rfl rfl rfl (Nat.le_of_ble_eq_true rfl) rfl rfl) ?_ ?_
           ·rintro _ w_18 ⟨rfl, hS30⟩
            have hS30 : ST w0 [] _ [⟨aD b, 38, [vi m.Rows, vi m.Cols, .slice B m.Cells.length c], 3⟩, ⟨aD b1, 34, [.slice none 0 0], 1⟩, ⟨aD b3, 34, [.slice B3 Cells1.length c3], 1⟩, ⟨B3, 44, (Cells1.flatMap eN0), c3 * 5⟩, ⟨B4, 44, (r_2.Cells.flatMap eN0), c4 * 5⟩, ⟨B5, 44, (r_3.Cells.flatMap eN0), c5 * 5⟩, ⟨B6, 44, (r_4.Cells.flatMap eN0), c6 * 5⟩, ⟨B7, 44, (r_5.Cells.flatMap eN0), c7 * 5⟩, ⟨aD b4, 38, [vi r_7.Rows, vi r_7.Cols, .slice B9 r_7.Cells.length c9], 3⟩, ⟨B8, 44, (r_6.Cells.flatMap eN0), c8 * 5⟩, ⟨aD b2, 55, [.bool m3.bad], 1⟩, ⟨B9, 44, (r_7.Cells.flatMap eN0), c9 * 5⟩] [⟨B, (m.Cells.flatMap eN0)⟩] := hS30
            refine ⟨(ST.sel hS30 [0, 1, 2, 3] rfl rfl), ?_⟩
            refine ra_done (by kernel_rfl) ?_
            exact ⟨aD b4, B9, c9, (FF.cons (hf1.get 1 0 rfl) (FF.cons (hf1.get 2 1 rfl) (FF.cons (hf1.get 4 2 rfl) (FF.cons (hf1.get 5 3 rfl) (FF.cons (hf1.get 6 4 rfl) (FF.cons (hf1.get 7 5 rfl) (FF.cons rfl FF.nil))))))), (hS30.sel [0, 1, 10, 2, 3, 8, 11] rfl rfl)⟩
           exact allR_nil
          exact allR_nil
         exact allR_nil
        exact allR_nil
       refine ra_s 8 (i := 13) rfl rfl rfl (Ys_alloc (T := 38) (cs := [vi 0, vi 0, .slice none 0 0]) (m := 3) hS18 k_zero_38 rfl rfl rfl) ?_ ?_
       ·rintro _ w_19 ⟨b4, rfl, hS31⟩
        have hS31 : ST w0 [] _ [⟨aD b, 38, [vi m.Rows, vi m.Cols, .slice B m.Cells.length c], 3⟩, ⟨aD b1, 34, [.slice none 0 0], 1⟩, ⟨aD b3, 34, [.slice B3 Cells1.length c3], 1⟩, ⟨B3, 44, (Cells1.flatMap eN0), c3 * 5⟩, ⟨B4, 44, (r_2.Cells.flatMap eN0), c4 * 5⟩, ⟨aD b2, 55, [.bool m1.bad], 1⟩, ⟨B5, 44, (r_3.Cells.flatMap eN0), c5 * 5⟩, ⟨B6, 44, (r_4.Cells.flatMap eN0), c6 * 5⟩, ⟨aD b4, 38, [vi 0, vi 0, .slice none 0 0], 3⟩] [⟨B, (m.Cells.flatMap eN0)⟩] := hS31
        refine ⟨(ST.sel hS31 [0, 1, 2, 3] rfl rfl), ?_⟩
        refine ra_all (rs := [9]) (by kernel_rfl) rfl ?_
        refine ra_c 29 (i := 9) rfl rfl rfl (Yc_func (g := 20) (vs := [pt (aD b2) 0, .agg #[vi r_3.Rows, vi r_3.Cols, .slice B5 r_3.Cells.length c5], .agg #[vi r_4.Rows, vi r_4.Cols, .slice B6 r_4.Cells.length c6]]) k_call_20 rfl (mc rfl (mc rfl (mc rfl mn))) (c_spec_l2C_times m1 r_3 r_4 (aD b2) B5 c5 r_3.Cells.length B6 c6 r_4.Cells.length _ rfl rfl (hS31.inn [false, false, false, false, false, true, false, false, false] rfl [(false, 5), (false, 6)] rfl) hc3)) ?_ ?_
        ·rintro _ w_20 ⟨B7, c7, rfl, hd9⟩
         have hS32 := hS31.out [false, false, false, false, false, true, false, false, false] rfl hd9
         have hS32 : ST w0 [] _ [⟨aD b, 38, [vi m.Rows, vi m.Cols, .slice B m.Cells.length c], 3⟩, ⟨aD b1, 34, [.slice none 0 0], 1⟩, ⟨aD b3, 34, [.slice B3 Cells1.length c3], 1⟩, ⟨B3, 44, (Cells1.flatMap eN0), c3 * 5⟩, ⟨B4, 44, (r_2.Cells.flatMap eN0), c4 * 5⟩, ⟨B5, 44, (r_3.Cells.flatMap eN0), c5 * 5⟩, ⟨B6, 44, (r_4.Cells.flatMap eN0), c6 * 5⟩, ⟨aD b4, 38, [vi 0, vi 0, .slice none 0 0], 3⟩, ⟨aD b2, 55, [.bool m2.bad], 1⟩, ⟨B7, 44, (r_5.Cells.flatMap eN0), c7 * 5⟩] [⟨B, (m.Cells.flatMap eN0)⟩] := hS32
         refine ⟨(ST.sel hS32 [0, 1, 2, 3] rfl rfl), ?_⟩
         refine ra_all (rs := [11]) (by kernel_rfl) rfl ?_
         refine ra_c 31 (i := 11) rfl rfl rfl (Yc_func (g := 22) (vs := [.agg #[vi m.Rows, vi m.Cols, .slice B m.Cells.length c]]) k_call_22 rfl (mc rfl mn) (c_spec_l3Adj m B c m.Cells.length _ rfl (hS32.inn0 [(true, 0)] rfl) hc4)) ?_ ?_
         ·rintro _ w_21 ⟨B8, c8, rfl, hd10⟩
          have hS33 := hS32.out0 hd10
          have hS33 : ST w0 [] _ [⟨aD b, 38, [vi m.Rows, vi m.Cols, .slice B m.Cells.length c], 3⟩, ⟨aD b1, 34, [.slice none 0 0], 1⟩, ⟨aD b3, 34, [.slice B3 Cells1.length c3], 1⟩, ⟨B3, 44, (Cells1.flatMap eN0), c3 * 5⟩, ⟨B4, 44, (r_2.Cells.flatMap eN0), c4 * 5⟩, ⟨B5, 44, (r_3.Cells.flatMap eN0), c5 * 5⟩, ⟨B6, 44, (r_4.Cells.flatMap eN0), c6 * 5⟩, ⟨aD b4, 38, [vi 0, vi 0, .slice none 0 0], 3⟩, ⟨aD b2, 55, [.bool m2.bad], 1⟩, ⟨B7, 44, (r_5.Cells.flatMap eN0), c7 * 5⟩, ⟨B8, 44, (r_6.Cells.flatMap eN0), c8 * 5⟩] [⟨B, (m.Cells.flatMap eN0)⟩] := hS33
          refine ⟨(ST.sel hS33 [0, 1, 2, 3] rfl rfl), ?_⟩
          refine ra_all (rs := [12]) (by kernel_rfl) rfl ?_
          refine ra_c 32 (i := 12) rfl rfl rfl (Yc_func (g := 20) (vs := [pt (aD b2) 0, .agg #[vi r_5.Rows, vi r_5.Cols, .slice B7 r_5.Cells.length c7], .agg #[vi r_6.Rows, vi r_6.Cols, .slice B8 r_6.Cells.length c8]]) k_call_20 rfl (mc rfl (mc rfl (mc rfl mn))) (c_spec_l2C_times m2 r_5 r_6 (aD b2) B7 c7 r_5.Cells.length B8 c8 r_6.Cells.length _ rfl rfl (hS33.inn [false, false, false, false, false, false, false, false, true, false, false] rfl [(false, 8), (false, 9)] rfl) hc5)) ?_ ?_
          ·rintro _ w_22 ⟨B9, c9, rfl, hd11⟩
           have hS34 := hS33.out [false, false, false, false, false, false, false, false, true, false, false] rfl hd11
           have hS34 : ST w0 [] _ [⟨aD b, 38, [vi m.Rows, vi m.Cols, .slice B m.Cells.length c], 3⟩, ⟨aD b1, 34, [.slice none 0 0], 1⟩, ⟨aD b3, 34, [.slice B3 Cells1.length c3], 1⟩, ⟨B3, 44, (Cells1.flatMap eN0), c3 * 5⟩, ⟨B4, 44, (r_2.Cells.flatMap eN0), c4 * 5⟩, ⟨B5, 44, (r_3.Cells.flatMap eN0), c5 * 5⟩, ⟨B6, 44, (r_4.Cells.flatMap eN0), c6 * 5⟩, ⟨aD b4, 38, [vi 0, vi 0, .slice none 0 0], 3⟩, ⟨B7, 44, (r_5.Cells.flatMap eN0), c7 * 5⟩, ⟨B8, 44, (r_6.Cells.flatMap eN0), c8 * 5⟩, ⟨aD b2, 55, [.bool m3.bad], 1⟩, ⟨B9, 44, (r_7.Cells.flatMap eN0), c9 * 5⟩] [⟨B, (m.Cells.flatMap eN0)⟩] := hS34
           refine ⟨(ST.sel hS34 [0, 1, 2, 3] rfl rfl), ?_⟩
           refine ra_all (rs := [14]) (by kernel_rfl) rfl ?_
           refine ra_s0 (i := 14) rfl rfl rfl (Ys_store (i := 7) (s := 3) (B := aD b4) (T' := 38) (v := .agg #[vi r_7.Rows, vi r_7.Cols, .slice B9 r_7.Cells.length c9]) (vs := [vi r_7.Rows, vi r_7.Cols, .slice B9 r_7.Cells.length c9]) (k := 0) (cs' := [vi r_7.Rows, vi r_7.Cols, .slice B9 r_7.Cells.length c9]) hS34 k_sz_38_3 rfl rfl rfl rfl rfl rfl rfl (Nat.le_of_ble_eq_true rfl) rfl rfl) ?_ ?_
           ·rintro _ w_23 ⟨rfl, hS35⟩
            have hS35 : ST w0 [] _ [⟨aD b, 38, [vi m.Rows, vi m.Cols, .slice B m.Cells.length c], 3⟩, ⟨aD b1, 34, [.slice none 0 0], 1⟩, ⟨aD b3, 34, [.slice B3 Cells1.length c3], 1⟩, ⟨B3, 44, (Cells1.flatMap eN0), c3 * 5⟩, ⟨B4, 44, (r_2.Cells.flatMap eN0), c4 * 5⟩, ⟨B5, 44, (r_3.Cells.flatMap eN0), c5 * 5⟩, ⟨B6, 44, (r_4.Cells.flatMap eN0), c6 * 5⟩, ⟨aD b4, 38, [vi r_7.Rows, vi r_7.Cols, .slice B9 r_7.Cells.length c9], 3⟩, ⟨B7, 44, (r_5.Cells.flatMap eN0), c7 * 5⟩, ⟨B8, 44, (r_6.Cells.flatMap eN0), c8 * 5⟩, ⟨aD b2, 55, [.bool m3.bad], 1⟩, ⟨B9, 44, (r_7.Cells.flatMap eN0), c9 * 5⟩] [⟨B, (m.Cells.flatMap eN0)⟩] := hS35
            refine ⟨(ST.sel hS35 [0, 1, 2, 3] rfl rfl), ?_⟩
            refine ra_done (by kernel_rfl) ?_
            exact ⟨aD b4, B9, c9, (FF.cons (hf1.get 1 0 rfl) (FF.cons (hf1.get 2 1 rfl) (FF.cons (hf1.get 4 2 rfl) (FF.cons (hf1.get 5 3 rfl) (FF.cons (hf1.get 6 4 rfl) (FF.cons (hf1.get 7 5 rfl) (FF.cons rfl FF.nil))))))), (hS35.sel [0, 1, 10, 2, 3, 7, 11] rfl rfl)⟩
           exact allR_nil
          exact allR_nil
         exact allR_nil
        exact allR_nil
       exact allR_nil
      refine ra_s 8 (i := 13) rfl rfl rfl (Ys_alloc (T := 38) (cs := [vi 0, vi 0, .slice none 0 0]) (m := 3) hS17 k_zero_38 rfl rfl rfl) ?_ ?_
      ·rintro _ w_24 ⟨b4, rfl, hS36⟩
       have hS36 : ST w0 [] _ [⟨aD b, 38, [vi m.Rows, vi m.Cols, .slice B m.Cells.length c], 3⟩, ⟨aD b1, 34, [.slice none 0 0], 1⟩, ⟨aD b3, 34, [.slice B3 Cells1.length c3], 1⟩, ⟨B3, 44, (Cells1.flatMap eN0), c3 * 5⟩, ⟨B4, 44, (r_2.Cells.flatMap eN0), c4 * 5⟩, ⟨aD b2, 55, [.bool m1.bad], 1⟩, ⟨B5, 44, (r_3.Cells.flatMap eN0), c5 * 5⟩, ⟨aD b4, 38, [vi 0, vi 0, .slice none 0 0], 3⟩] [⟨B, (m.Cells.flatMap eN0)⟩] := hS36
       refine ⟨(ST.sel hS36 [0, 1, 2, 3] rfl rfl), ?_⟩
       refine ra_all (rs := [8]) (by kernel_rfl) rfl ?_
       refine ra_c 28 (i := 8) rfl rfl rfl (Yc_func (g := 21) (vs := [vi (j : Int)]) k_call_21 rfl (mc rfl mn) (c_spec_l9Pauli (j : Int) _  (hS36.inn0 [] rfl) hc2)) ?_ ?_
       ·rintro _ w_25 ⟨B6, c6, rfl, hd12⟩
        have hS37 := hS36.out0 hd12
        have hS37 : ST w0 [] _ [⟨aD b, 38, [vi m.Rows, vi m.Cols, .slice B m.Cells.length c], 3⟩, ⟨aD b1, 34, [.slice none 0 0], 1⟩, ⟨aD b3, 34, [.slice B3 Cells1.length c3], 1⟩, ⟨B3, 44, (Cells1.flatMap eN0), c3 * 5⟩, ⟨B4, 44, (r_2.Cells.flatMap eN0), c4 * 5⟩, ⟨aD b2, 55, [.bool m1.bad], 1⟩, ⟨B5, 44, (r_3.Cells.flatMap eN0), c5 * 5⟩, ⟨aD b4, 38, [vi 0, vi 0, .slice none 0 0], 3⟩, ⟨B6, 44, (r_4.Cells.flatMap eN0), c6 * 5⟩] [⟨B, (m.Cells.flatMap eN0)⟩] := hS37
        refine ⟨(ST.sel hS37 [0, 1, 2, 3] rfl rfl), ?_⟩
        refine ra_all (rs := [9]) (by kernel_rfl) rfl ?_
        refine ra_c 29 (i := 9) rfl rfl rfl (Yc_func (g := 20) (vs := [pt (aD b2) 0, .agg #[vi r_3.Rows, vi r_3.Cols, .slice B5 r_3.Cells.length c5], .agg #[vi r_4.Rows, vi r_4.Cols, .slice B6 r_4.Cells.length c6]]) k_call_20 rfl (mc rfl (mc rfl (mc rfl mn))) (c_spec_l2C_times m1 r_3 r_4 (aD b2) B5 c5 r_3.Cells.length B6 c6 r_4.Cells.length _ rfl rfl (hS37.inn [false, false, false, false, false, true, false, false, false] rfl [(false, 5), (false, 7)] rfl) hc3)) ?_ ?_
        ·rintro _ w_26 ⟨B7, c7, rfl, hd13⟩
         have hS38 := hS37.out [false, false, false, false, false, true, false, false, false] rfl hd13
         have hS38 : ST w0 [] _ [⟨aD b, 38, [vi m.Rows, vi m.Cols, .slice B m.Cells.length c], 3⟩, ⟨aD b1, 34, [.slice none 0 0], 1⟩, ⟨aD b3, 34, [.slice B3 Cells1.length c3], 1⟩, ⟨B3, 44, (Cells1.flatMap eN0), c3 * 5⟩, ⟨B4, 44, (r_2.Cells.flatMap eN0), c4 * 5⟩, ⟨B5, 44, (r_3.Cells.flatMap eN0), c5 * 5⟩, ⟨aD b4, 38, [vi 0, vi 0, .slice none 0 0], 3⟩, ⟨B6, 44, (r_4.Cells.flatMap eN0), c6 * 5⟩, ⟨aD b2, 55, [.bool m2.bad], 1⟩, ⟨B7, 44, (r_5.Cells.flatMap eN0), c7 * 5⟩] [⟨B, (m.Cells.flatMap eN0)⟩] := hS38
         refine ⟨(ST.sel hS38 [0, 1, 2, 3] rfl rfl), ?_⟩
         refine ra_all (rs := [11]) (by kernel_rfl) rfl ?_
         refine ra_c 31 (i := 11) rfl rfl rfl (Yc_func (g := 22) (vs := [.agg #[vi m.Rows, vi m.Cols, .slice B m.Cells.length c]]) k_call_22 rfl (mc rfl mn) (c_spec_l3Adj m B c m.Cells.length _ rfl (hS38.inn0 [(true, 0)] rfl) hc4)) ?_ ?_
         ·rintro _ w_27 ⟨B8, c8, rfl, hd14⟩
          have hS39 := hS38.out0 hd14
          have hS39 : ST w0 [] _ [⟨aD b, 38, [vi m.Rows, vi m.Cols, .slice B m.Cells.length c], 3⟩, ⟨aD b1, 34, [.slice none 0 0], 1⟩, ⟨aD b3, 34, [.slice B3 Cells1.length c3], 1⟩, ⟨B3, 44, (Cells1.flatMap eN0), c3 * 5⟩, ⟨B4, 44, (r_2.Cells.flatMap eN0), c4 * 5⟩, ⟨B5, 44, (r_3.Cells.flatMap eN0), c5 * 5⟩, ⟨aD b4, 38, [vi 0, vi 0, .slice none 0 0], 3⟩, ⟨B6, 44, (r_4.Cells.flatMap eN0), c6 * 5⟩, ⟨aD b2, 55, [.bool m2.bad], 1⟩, ⟨B7, 44, (r_5.Cells.flatMap eN0), c7 * 5⟩, ⟨B8, 44, (r_6.Cells.flatMap eN0), c8 * 5⟩] [⟨B, (m.Cells.flatMap eN0)⟩] := hS39
          refine ⟨(ST.sel hS39 [0, 1, 2, 3] rfl rfl), ?_⟩
          refine ra_all (rs := [12]) (by kernel_rfl) rfl ?_
          refine ra_c 32 (i := 12) rfl rfl rfl (Yc_func (g := 20) (vs := [pt (aD b2) 0, .agg #[vi r_5.Rows, vi r_5.Cols, .slice B7 r_5.Cells.length c7], .agg #[vi r_6.Rows, vi r_6.Cols, .slice B8 r_6.Cells.length c8]]) k_call_20 rfl (mc rfl (mc rfl (mc rfl mn))) (c_spec_l2C_times m2 r_5 r_6 (aD b2) B7 c7 r_5.Cells.length B8 c8 r_6.Cells.length _ rfl rfl (hS39.inn [false, false, false, false, false, false, false, false, true, false, false] rfl [(false, 8), (false, 9)] rfl) hc5)) ?_ ?_
          ·rintro _ w_28 ⟨B9, c9, rfl, hd15⟩
           have hS40 := hS39.out [false, false, false, false, false, false, false, false, true, false, false] rfl hd15
           have hS40 : ST w0 [] _ [⟨aD b, 38, [vi m.Rows, vi m.Cols, .slice B m.Cells.length c], 3⟩, ⟨aD b1, 34, [.slice none 0 0], 1⟩, ⟨aD b3, 34, [.slice B3 Cells1.length c3], 1⟩, ⟨B3, 44, (Cells1.flatMap eN0), c3 * 5⟩, ⟨B4, 44, (r_2.Cells.flatMap eN0), c4 * 5⟩, ⟨B5, 44, (r_3.Cells.flatMap eN0), c5 * 5⟩, ⟨aD b4, 38, [vi 0, vi 0, .slice none 0 0], 3⟩, ⟨B6, 44, (r_4.Cells.flatMap eN0), c6 * 5⟩, ⟨B7, 44, (r_5.Cells.flatMap eN0), c7 * 5⟩, ⟨B8, 44, (r_6.Cells.flatMap eN0), c8 * 5⟩, ⟨aD b2, 55, [.bool m3.bad], 1⟩, ⟨B9, 44, (r_7.Cells.flatMap eN0), c9 * 5⟩] [⟨B, (m.Cells.flatMap eN0)⟩] := hS40
           refine ⟨(ST.sel hS40 [0, 1, 2, 3] rfl rfl), ?_⟩
           refine ra_all (rs := [14]) (by kernel_rfl) rfl ?_
           refine ra_s0 (i := 14) rfl rfl rfl (Ys_store (i := 6) (s := 3) (B := aD b4) (T' := 38) (v := .agg #[vi r_7.Rows, vi r_7.Cols, .slice B9 r_7.Cells.length c9]) (vs := [vi r_7.Rows, vi r_7.Cols, .slice B9 r_7.Cells.length c9]) (k := 0) (cs' := [vi r_7.Rows, vi r_7.Cols, .slice B9 r_7.Cells.length c9]) hS40 k_sz_38_3 rfl rfl rfl rfl rfl rfl rfl (Nat.le_of_ble_eq_true rfl) rfl rfl) ?_ ?_
           ·rintro _ w_29 ⟨rfl, hS41⟩
            have hS41 : ST w0 [] _ [⟨aD b, 38, [vi m.Rows, vi m.Cols, .slice B m.Cells.length c], 3⟩, ⟨aD b1, 34, [.slice none 0 0], 1⟩, ⟨aD b3, 34, [.slice B3 Cells1.length c3], 1⟩, ⟨B3, 44, (Cells1.flatMap eN0), c3 * 5⟩, ⟨B4, 44, (r_2.Cells.flatMap eN0), c4 * 5⟩, ⟨B5, 44, (r_3.Cells.flatMap eN0), c5 * 5⟩, ⟨aD b4, 38, [vi r_7.Rows, vi r_7.Cols, .slice B9 r_7.Cells.length c9], 3⟩, ⟨B6, 44, (r_4.Cells.flatMap eN0), c6 * 5⟩, ⟨B7, 44, (r_5.Cells.flatMap eN0), c7 * 5⟩, ⟨B8, 44, (r_6.Cells.flatMap eN0), c8 * 5⟩, ⟨aD b2, 55, [.bool m3.bad], 1⟩, ⟨B9, 44, (r_7.Cells.flatMap eN0), c9 * 5⟩] [⟨B, (m.Cells.flatMap eN0)⟩] := hS41
            refine ⟨(ST.sel hS41 [0, 1, 2, 3] rfl rfl), ?_⟩
            refine ra_done (by kernel_rfl) ?_
            exact ⟨aD b4, B9, c9, (FF.cons (hf1.get 1 0 rfl) (FF.cons (hf1.get 2 1 rfl) (FF.cons (hf1.get 4 2 rfl) (FF.cons (hf1.get 5 3 rfl) (FF.cons (hf1.get 6 4 rfl) (FF.cons (hf1.get 7 5 rfl) (FF.cons rfl FF.nil))))))), (hS41.sel [0, 1, 10, 2, 3, 6, 11] rfl rfl)⟩
           exact allR_nil
          exact allR_nil
         exact allR_nil
        exact allR_nil
       exact allR_nil
      exact allR_nil
     refine ra_s 8 (i := 13) rfl rfl rfl (Ys_alloc (T := 38) (cs := [vi 0, vi 0, .slice none 0 0]) (m := 3) hS16 k_zero_38 rfl rfl rfl) ?_ ?_
     ·rintro _ w_30 ⟨b4, rfl, hS42⟩
      have hS42 : ST w0 [] _ [⟨aD b, 38, [vi m.Rows, vi m.Cols, .slice B m.Cells.length c], 3⟩, ⟨aD b1, 34, [.slice none 0 0], 1⟩, ⟨aD b2, 55, [.bool bad1], 1⟩, ⟨aD b3, 34, [.slice B3 Cells1.length c3], 1⟩, ⟨B3, 44, (Cells1.flatMap eN0), c3 * 5⟩, ⟨B4, 44, (r_2.Cells.flatMap eN0), c4 * 5⟩, ⟨aD b4, 38, [vi 0, vi 0, .slice none 0 0], 3⟩] [⟨B, (m.Cells.flatMap eN0)⟩] := hS42
      refine ⟨(ST.sel hS42 [0, 1, 3, 4] rfl rfl), ?_⟩
      refine ra_all (rs := [6]) (by kernel_rfl) rfl ?_
      refine ra_c 26 (i := 6) rfl rfl rfl (Yc_func (g := 20) (vs := [pt (aD b2) 0, .agg #[vi r_2.Rows, vi r_2.Cols, .slice B4 r_2.Cells.length c4], .agg #[vi m.Rows, vi m.Cols, .slice B m.Cells.length c]]) k_call_20 rfl (mc rfl (mc rfl (mc rfl mn))) (c_spec_l2C_times (Tl2C.mk bad1) r_2 m (aD b2) B4 c4 r_2.Cells.length B c m.Cells.length _ rfl rfl (hS42.inn [false, false, true, false, false, false, false] rfl [(false, 4), (true, 0)] rfl) hc1)) ?_ ?_
      ·rintro _ w_31 ⟨B5, c5, rfl, hd16⟩
       have hS43 := hS42.out [false, false, true, false, false, false, false] rfl hd16
       have hS43 : ST w0 [] _ [⟨aD b, 38, [vi m.Rows, vi m.Cols, .slice B m.Cells.length c], 3⟩, ⟨aD b1, 34, [.slice none 0 0], 1⟩, ⟨aD b3, 34, [.slice B3 Cells1.length c3], 1⟩, ⟨B3, 44, (Cells1.flatMap eN0), c3 * 5⟩, ⟨B4, 44, (r_2.Cells.flatMap eN0), c4 * 5⟩, ⟨aD b4, 38, [vi 0, vi 0, .slice none 0 0], 3⟩, ⟨aD b2, 55, [.bool m1.bad], 1⟩, ⟨B5, 44, (r_3.Cells.flatMap eN0), c5 * 5⟩] [⟨B, (m.Cells.flatMap eN0)⟩] := hS43
       refine ⟨(ST.sel hS43 [0, 1, 2, 3] rfl rfl), ?_⟩
       refine ra_all (rs := [8]) (by kernel_rfl) rfl ?_
       refine ra_c 28 (i := 8) rfl rfl rfl (Yc_func (g := 21) (vs := [vi (j : Int)]) k_call_21 rfl (mc rfl mn) (c_spec_l9Pauli (j : Int) _  (hS43.inn0 [] rfl) hc2)) ?_ ?_
       ·rintro _ w_32 ⟨B6, c6, rfl, hd17⟩
        have hS44 := hS43.out0 hd17
        have hS44 : ST w0 [] _ [⟨aD b, 38, [vi m.Rows, vi m.Cols, .slice B m.Cells.length c], 3⟩, ⟨aD b1, 34, [.slice none 0 0], 1⟩, ⟨aD b3, 34, [.slice B3 Cells1.length c3], 1⟩, ⟨B3, 44, (Cells1.flatMap eN0), c3 * 5⟩, ⟨B4, 44, (r_2.Cells.flatMap eN0), c4 * 5⟩, ⟨aD b4, 38, [vi 0, vi 0, .slice none 0 0], 3⟩, ⟨aD b2, 55, [.bool m1.bad], 1⟩, ⟨B5, 44, (r_3.Cells.flatMap eN0), c5 * 5⟩, ⟨B6, 44, (r_4.Cells.flatMap eN0), c6 * 5⟩] [⟨B, (m.Cells.flatMap eN0)⟩] := hS44
        refine ⟨(ST.sel hS44 [0, 1, 2, 3] rfl rfl), ?_⟩
        refine ra_all (rs := [9]) (by kernel_rfl) rfl ?_
        refine ra_c 29 (i := 9) rfl rfl rfl (Yc_func (g := 20) (vs := [pt (aD b2) 0, .agg #[vi r_3.Rows, vi r_3.Cols, .slice B5 r_3.Cells.length c5], .agg #[vi r_4.Rows, vi r_4.Cols, .slice B6 r_4.Cells.length c6]]) k_call_20 rfl (mc rfl (mc rfl (mc rfl mn))) (c_spec_l2C_times m1 r_3 r_4 (aD b2) B5 c5 r_3.Cells.length B6 c6 r_4.Cells.length _ rfl rfl (hS44.inn [false, false, false, false, false, false, true, false, false] rfl [(false, 6), (false, 7)] rfl) hc3)) ?_ ?_
        ·rintro _ w_33 ⟨B7, c7, rfl, hd18⟩
         have hS45 := hS44.out [false, false, false, false, false, false, true, false, false] rfl hd18
         have hS45 : ST w0 [] _ [⟨aD b, 38, [vi m.Rows, vi m.Cols, .slice B m.Cells.length c], 3⟩, ⟨aD b1, 34, [.slice none 0 0], 1⟩, ⟨aD b3, 34, [.slice B3 Cells1.length c3], 1⟩, ⟨B3, 44, (Cells1.flatMap eN0), c3 * 5⟩, ⟨B4, 44, (r_2.Cells.flatMap eN0), c4 * 5⟩, ⟨aD b4, 38, [vi 0, vi 0, .slice none 0 0], 3⟩, ⟨B5, 44, (r_3.Cells.flatMap eN0), c5 * 5⟩, ⟨B6, 44, (r_4.Cells.flatMap eN0), c6 * 5⟩, ⟨aD b2, 55, [.bool m2.bad], 1⟩, ⟨B7, 44, (r_5.Cells.flatMap eN0), c7 * 5⟩] [⟨B, (m.Cells.flatMap eN0)⟩] := hS45
         refine ⟨(ST.sel hS45 [0, 1, 2, 3] rfl rfl), ?_⟩
         refine ra_all (rs := [11]) (by kernel_rfl) rfl ?_
         refine ra_c 31 (i := 11) rfl rfl rfl (Yc_func (g := 22) (vs := [.agg #[vi m.Rows, vi m.Cols, .slice B m.Cells.length c]]) k_call_22 rfl (mc rfl mn) (c_spec_l3Adj m B c m.Cells.length _ rfl (hS45.inn0 [(true, 0)] rfl) hc4)) ?_ ?_
         ·rintro _ w_34 ⟨B8, c8, rfl, hd19⟩
          have hS46 := hS45.out0 hd19
          have hS46 : ST w0 [] _ [⟨aD b, 38, [vi m.Rows, vi m.Cols, .slice B m.Cells.length c], 3⟩, ⟨aD b1, 34, [.slice none 0 0], 1⟩, ⟨aD b3, 34, [.slice B3 Cells1.length c3], 1⟩, ⟨B3, 44, (Cells1.flatMap eN0), c3 * 5⟩, ⟨B4, 44, (r_2.Cells.flatMap eN0), c4 * 5⟩, ⟨aD b4, 38, [vi 0, vi 0, .slice none 0 0], 3⟩, ⟨B5, 44, (r_3.Cells.flatMap eN0), c5 * 5⟩, ⟨B6, 44, (r_4.Cells.flatMap eN0), c6 * 5⟩, ⟨aD b2, 55, [.bool m2.bad], 1⟩, ⟨B7, 44, (r_5.Cells.flatMap eN0), c7 * 5⟩, ⟨B8, 44, (r_6.Cells.flatMap eN0), c8 * 5⟩] [⟨B, (m.Cells.flatMap eN0)⟩] := hS46
          refine ⟨(ST.sel hS46 [0, 1, 2, 3] rfl rfl), ?_⟩
          refine ra_all (rs := [12]) (by kernel_rfl) rfl ?_
          refine ra_c 32 (i := 12) rfl rfl rfl (Yc_func (g := 20) (vs := [pt (aD b2) 0, .agg #[vi r_5.Rows, vi r_5.Cols, .slice B7 r_5.Cells.length c7], .agg #[vi r_6.Rows, vi r_6.Cols, .slice B8 r_6.Cells.length c8]]) k_call_20 rfl (mc rfl (mc rfl (mc rfl mn))) (c_spec_l2C_times m2 r_5 r_6 (aD b2) B7 c7 r_5.Cells.length B8 c8 r_6.Cells.length _ rfl rfl (hS46.inn [false, false, false, false, false, false, false, false, true, false, false] rfl [(false, 8), (false, 9)] rfl) hc5)) ?_ ?_
          ·rintro _ w_35 ⟨B9, c9, rfl, hd20⟩
           have hS47 := hS46.out [false, false, false, false, false, false, false, false, true, false, false] rfl hd20
           have hS47 : ST w0 [] _ [⟨aD b, 38, [vi m.Rows, vi m.Cols, .slice B m.Cells.length c], 3⟩, ⟨aD b1, 34, [.slice none 0 0], 1⟩, ⟨aD b3, 34, [.slice B3 Cells1.length c3], 1⟩, ⟨B3, 44, (Cells1.flatMap eN0), c3 * 5⟩, ⟨B4, 44, (r_2.Cells.flatMap eN0), c4 * 5⟩, ⟨aD b4, 38, [vi 0, vi 0, .slice none 0 0], 3⟩, ⟨B5, 44, (r_3.Cells.flatMap eN0), c5 * 5⟩, ⟨B6, 44, (r_4.Cells.flatMap eN0), c6 * 5⟩, ⟨B7, 44, (r_5.Cells.flatMap eN0), c7 * 5⟩, ⟨B8, 44, (r_6.Cells.flatMap eN0), c8 * 5⟩, ⟨aD b2, 55, [.bool m3.bad], 1⟩, ⟨B9, 44, (r_7.Cells.flatMap eN0), c9 * 5⟩] [⟨B, (m.Cells.flatMap eN0)⟩] := hS47
           refine ⟨(ST.sel hS47 [0, 1, 2, 3] rfl rfl), ?_⟩
           refine ra_all (rs := [14]) (by kernel_rfl) rfl ?_
           refine ra_s0 (i := 14) rfl rfl rfl (Ys_store (i := 5) (s := 3) (B := aD b4) (T' := 38) (v := .agg #[vi r_7.Rows, vi r_7.Cols, .slice B9 r_7.Cells.length c9]) (vs := [vi r_7.Rows, vi r_7.Cols, .slice B9 r_7.Cells.length c9]) (k := 0) (cs' := [vi r_7.Rows, vi r_7.Cols, .slice B9 r_7.Cells.length c9]) hS47 k_sz_38_3 rfl rfl rfl rfl rfl rfl rfl (Nat.le_of_ble_eq_true rfl) rfl rfl) ?_ ?_
           ·rintro _ w_36 ⟨rfl, hS48⟩
            have hS48 : ST w0 [] _ [⟨aD b, 38, [vi m.Rows, vi m.Cols, .slice B m.Cells.length c], 3⟩, ⟨aD b1, 34, [.slice none 0 0], 1⟩, ⟨aD b3, 34, [.slice B3 Cells1.length c3], 1⟩, ⟨B3, 44, (Cells1.flatMap eN0), c3 * 5⟩, ⟨B4, 44, (r_2.Cells.flatMap eN0), c4 * 5⟩, ⟨aD b4, 38, [vi r_7.Rows, vi r_7.Cols, .slice B9 r_7.Cells.length c9], 3⟩, ⟨B5, 44, (r_3.Cells.flatMap eN0), c5 * 5⟩, ⟨B6, 44, (r_4.Cells.flatMap eN0), c6 * 5⟩, ⟨B7, 44, (r_5.Cells.flatMap eN0), c7 * 5⟩, ⟨B8, 44, (r_6.Cells.flatMap eN0), c8 * 5⟩, ⟨aD b2, 55, [.bool m3.bad], 1⟩, ⟨B9, 44, (r_7.Cells.flatMap eN0), c9 * 5⟩] [⟨B, (m.Cells.flatMap eN0)⟩] := hS48
            refine ⟨(ST.sel hS48 [0, 1, 2, 3] rfl rfl), ?_⟩
            refine ra_done (by kernel_rfl) ?_
            exact ⟨aD b4, B9, c9, (FF.cons (hf1.get 1 0 rfl) (FF.cons (hf1.get 2 1 rfl) (FF.cons (hf1.get 4 2 rfl) (FF.cons (hf1.get 5 3 rfl) (FF.cons (hf1.get 6 4 rfl) (FF.cons (hf1.get 7 5 rfl) (FF.cons rfl FF.nil))))))), (hS48.sel [0, 1, 10, 2, 3, 5, 11] rfl rfl)⟩
           exact allR_nil
          exact allR_nil
         exact allR_nil
        exact allR_nil
       exact allR_nil
      exact allR_nil
     exact allR_nil
    refine ra_s 8 (i := 13) rfl rfl rfl (Ys_alloc (T := 38) (cs := [vi 0, vi 0, .slice none 0 0]) (m := 3) hS15 k_zero_38 rfl rfl rfl) ?_ ?_
    ·rintro _ w_37 ⟨b4, rfl, hS49⟩
     have hS49 : ST w0 [] _ [⟨aD b, 38, [vi m.Rows, vi m.Cols, .slice B m.Cells.length c], 3⟩, ⟨aD b1, 34, [.slice none 0 0], 1⟩, ⟨aD b2, 55, [.bool bad1], 1⟩, ⟨aD b3, 34, [.slice B3 Cells1.length c3], 1⟩, ⟨B3, 44, (Cells1.flatMap eN0), c3 * 5⟩, ⟨aD b4, 38, [vi 0, vi 0, .slice none 0 0], 3⟩] [⟨B, (m.Cells.flatMap eN0)⟩] := hS49
     refine ⟨(ST.sel hS49 [0, 1, 3, 4] rfl rfl), ?_⟩
     refine ra_all (rs := [4]) (by kernel_rfl) rfl ?_
     refine ra_c 24 (i := 4) rfl rfl rfl (Yc_func (g := 21) (vs := [vi (i1 : Int)]) k_call_21 rfl (mc rfl mn) (c_spec_l9Pauli (i1 : Int) _  (hS49.inn0 [] rfl) hc)) ?_ ?_
     ·rintro _ w_38 ⟨B4, c4, rfl, hd21⟩
      have hS50 := hS49.out0 hd21
      have hS50 : ST w0 [] _ [⟨aD b, 38, [vi m.Rows, vi m.Cols, .slice B m.Cells.length c], 3⟩, ⟨aD b1, 34, [.slice none 0 0], 1⟩, ⟨aD b2, 55, [.bool bad1], 1⟩, ⟨aD b3, 34, [.slice B3 Cells1.length c3], 1⟩, ⟨B3, 44, (Cells1.flatMap eN0), c3 * 5⟩, ⟨aD b4, 38, [vi 0, vi 0, .slice none 0 0], 3⟩, ⟨B4, 44, (r_2.Cells.flatMap eN0), c4 * 5⟩] [⟨B, (m.Cells.flatMap eN0)⟩] := hS50
      refine ⟨(ST.sel hS50 [0, 1, 3, 4] rfl rfl), ?_⟩
      refine ra_all (rs := [6]) (by kernel_rfl) rfl ?_
      refine ra_c 26 (i := 6) rfl rfl rfl (Yc_func (g := 20) (vs := [pt (aD b2) 0, .agg #[vi r_2.Rows, vi r_2.Cols, .slice B4 r_2.Cells.length c4], .agg #[vi m.Rows, vi m.Cols, .slice B m.Cells.length c]]) k_call_20 rfl (mc rfl (mc rfl (mc rfl mn))) (c_spec_l2C_times (Tl2C.mk bad1) r_2 m (aD b2) B4 c4 r_2.Cells.length B c m.Cells.length _ rfl rfl (hS50.inn [false, false, true, false, false, false, false] rfl [(false, 5), (true, 0)] rfl) hc1)) ?_ ?_
      ·rintro _ w_39 ⟨B5, c5, rfl, hd22⟩
       have hS51 := hS50.out [false, false, true, false, false, false, false] rfl hd22
       have hS51 : ST w0 [] _ [⟨aD b, 38, [vi m.Rows, vi m.Cols, .slice B m.Cells.length c], 3⟩, ⟨aD b1, 34, [.slice none 0 0], 1⟩, ⟨aD b3, 34, [.slice B3 Cells1.length c3], 1⟩, ⟨B3, 44, (Cells1.flatMap eN0), c3 * 5⟩, ⟨aD b4, 38, [vi 0, vi 0, .slice none 0 0], 3⟩, ⟨B4, 44, (r_2.Cells.flatMap eN0), c4 * 5⟩, ⟨aD b2, 55, [.bool m1.bad], 1⟩, ⟨B5, 44, (r_3.Cells.flatMap eN0), c5 * 5⟩] [⟨B, (m.Cells.flatMap eN0)⟩] := hS51
       refine ⟨(ST.sel hS51 [0, 1, 2, 3] rfl rfl), ?_⟩
       refine ra_all (rs := [8]) (by kernel_rfl) rfl ?_
       refine ra_c 28 (i := 8) rfl rfl rfl (Yc_func (g := 21) (vs := [vi (j : Int)]) k_call_21 rfl (mc rfl mn) (c_spec_l9Pauli (j : Int) _  (hS51.inn0 [] rfl) hc2)) ?_ ?_
       ·rintro _ w_40 ⟨B6, c6, rfl, hd23⟩
        have hS52 := hS51.out0 hd23
        have hS52 : ST w0 [] _ [⟨aD b, 38, [vi m.Rows, vi m.Cols, .slice B m.Cells.length c], 3⟩, ⟨aD b1, 34, [.slice none 0 0], 1⟩, ⟨aD b3, 34, [.slice B3 Cells1.length c3], 1⟩, ⟨B3, 44, (Cells1.flatMap eN0), c3 * 5⟩, ⟨aD b4, 38, [vi 0, vi 0, .slice none 0 0], 3⟩, ⟨B4, 44, (r_2.Cells.flatMap eN0), c4 * 5⟩, ⟨aD b2, 55, [.bool m1.bad], 1⟩, ⟨B5, 44, (r_3.Cells.flatMap eN0), c5 * 5⟩, ⟨B6, 44, (r_4.Cells.flatMap eN0), c6 * 5⟩] [⟨B, (m.Cells.flatMap eN0)⟩] := hS52
        refine ⟨(ST.sel hS52 [0, 1, 2, 3] rfl rfl), ?_⟩
        refine ra_all (rs := [9]) (by kernel_rfl) rfl ?_
        refine ra_c 29 (i := 9) rfl rfl rfl (Yc_func (g := 20) (vs := [pt (aD b2) 0, .agg #[vi r_3.Rows, vi r_3.Cols, .slice B5 r_3.Cells.length c5], .agg #[vi r_4.Rows, vi r_4.Cols, .slice B6 r_4.Cells.length c6]]) k_call_20 rfl (mc rfl (mc rfl (mc rfl mn))) (c_spec_l2C_times m1 r_3 r_4 (aD b2) B5 c5 r_3.Cells.length B6 c6 r_4.Cells.length _ rfl rfl (hS52.inn [false, false, false, false, false, false, true, false, false] rfl [(false, 6), (false, 7)] rfl) hc3)) ?_ ?_
        ·rintro _ w_41 ⟨B7, c7, rfl, hd24⟩
         have hS53 := hS52.out [false, false, false, false, false, false, true, false, false] rfl hd24
         have hS53 : ST w0 [] _ [⟨aD b, 38, [vi m.Rows, vi m.Cols, .slice B m.Cells.length c], 3⟩, ⟨aD b1, 34, [.slice none 0 0], 1⟩, ⟨aD b3, 34, [.slice B3 Cells1.length c3], 1⟩, ⟨B3, 44, (Cells1.flatMap eN0), c3 * 5⟩, ⟨aD b4, 38, [vi 0, vi 0, .slice none 0 0], 3⟩, ⟨B4, 44, (r_2.Cells.flatMap eN0), c4 * 5⟩, ⟨B5, 44, (r_3.Cells.flatMap eN0), c5 * 5⟩, ⟨B6, 44, (r_4.Cells.flatMap eN0), c6 * 5⟩, ⟨aD b2, 55, [.bool m2.bad], 1⟩, ⟨B7, 44, (r_5.Cells.flatMap eN0), c7 * 5⟩] [⟨B, (m.Cells.flatMap eN0)⟩] := hS53
         refine ⟨(ST.sel hS53 [0, 1, 2, 3] rfl rfl), ?_⟩
         refine ra_all (rs := [11]) (by kernel_rfl) rfl ?_
         refine ra_c 31 (i := 11) rfl rfl rfl (Yc_func (g := 22) (vs := [.agg #[vi m.Rows, vi m.Cols, .slice B m.Cells.length c]]) k_call_22 rfl (mc rfl mn) (c_spec_l3Adj m B c m.Cells.length _ rfl (hS53.inn0 [(true, 0)] rfl) hc4)) ?_ ?_
         ·rintro _ w_42 ⟨B8, c8, rfl, hd25⟩
          have hS54 := hS53.out0 hd25
          have hS54 : ST w0 [] _ [⟨aD b, 38, [vi m.Rows, vi m.Cols, .slice B m.Cells.length c], 3⟩, ⟨aD b1, 34, [.slice none 0 0], 1⟩, ⟨aD b3, 34, [.slice B3 Cells1.length c3], 1⟩, ⟨B3, 44, (Cells1.flatMap eN0), c3 * 5⟩, ⟨aD b4, 38, [vi 0, vi 0, .slice none 0 0], 3⟩, ⟨B4, 44, (r_2.Cells.flatMap eN0), c4 * 5⟩, ⟨B5, 44, (r_3.Cells.flatMap eN0), c5 * 5⟩, ⟨B6, 44, (r_4.Cells.flatMap eN0), c6 * 5⟩, ⟨aD b2, 55, [.bool m2.bad], 1⟩, ⟨B7, 44, (r_5.Cells.flatMap eN0), c7 * 5⟩, ⟨B8, 44, (r_6.Cells.flatMap eN0), c8 * 5⟩] [⟨B, (m.Cells.flatMap eN0)⟩] := hS54
          refine ⟨(ST.sel hS54 [0, 1, 2, 3] rfl rfl), ?_⟩
          refine ra_all (rs := [12]) (by kernel_rfl) rfl ?_
          refine ra_c 32 (i := 12) rfl rfl rfl (Yc_func (g := 20) (vs := [pt (aD b2) 0, .agg #[vi r_5.Rows, vi r_5.Cols, .slice B7 r_5.Cells.length c7], .agg #[vi r_6.Rows, vi r_6.Cols, .slice B8 r_6.Cells.length c8]]) k_call_20 rfl (mc rfl (mc rfl (mc rfl mn))) (c_spec_l2C_times m2 r_5 r_6 (aD b2) B7 c7 r_5.Cells.length B8 c8 r_6.Cells.length _ rfl rfl (hS54.inn [false, false, false, false, false, false, false, false, true, false, false] rfl [(false, 8), (false, 9)] rfl) hc5)) ?_ ?_
          ·rintro _ w_43 ⟨B9, c9, rfl, hd26⟩
           have hS55 := hS54.out [false, false, false, false, false, false, false, false, true, false, false] rfl hd26
           have hS55 : ST w0 [] _ [⟨aD b, 38, [vi m.Rows, vi m.Cols, .slice B m.Cells.length c], 3⟩, ⟨aD b1, 34, [.slice none 0 0], 1⟩, ⟨aD b3, 34, [.slice B3 Cells1.length c3], 1⟩, ⟨B3, 44, (Cells1.flatMap eN0), c3 * 5⟩, ⟨aD b4, 38, [vi 0, vi 0, .slice none 0 0], 3⟩, ⟨B4, 44, (r_2.Cells.flatMap eN0), c4 * 5⟩, ⟨B5, 44, (r_3.Cells.flatMap eN0), c5 * 5⟩, ⟨B6, 44, (r_4.Cells.flatMap eN0), c6 * 5⟩, ⟨B7, 44, (r_5.Cells.flatMap eN0), c7 * 5⟩, ⟨B8, 44, (r_6.Cells.flatMap eN0), c8 * 5⟩, ⟨aD b2, 55, [.bool m3.bad], 1⟩, ⟨B9, 44, (r_7.Cells.flatMap eN0), c9 * 5⟩] [⟨B, (m.Cells.flatMap eN0)⟩] := hS55
           refine ⟨(ST.sel hS55 [0, 1, 2, 3] rfl rfl), ?_⟩
           refine ra_all (rs := [14]) (by kernel_rfl) rfl ?_
           refine ra_s0 (i := 14) rfl rfl rfl (Ys_store (i := 4) (s := 3) (B := aD b4) (T' := 38) (v := .agg #[vi r_7.Rows, vi r_7.Cols, .slice B9 r_7.Cells.length c9]) (vs := [vi r_7.Rows, vi r_7.Cols, .slice B9 r_7.Cells.length c9]) (k := 0) (cs' := [vi r_7.Rows, vi r_7.Cols, .slice B9 r_7.Cells.length c9]) hS55 k_sz_38_3 rfl rfl rfl rfl rfl rfl rfl (Nat.le_of_ble_eq_true rfl) rfl rfl) ?_ ?_
           ·rintro _ w_44 ⟨rfl, hS56⟩
            have hS56 : ST w0 [] _ [⟨aD b, 38, [vi m.Rows, vi m.Cols, .slice B m.Cells.length c], 3⟩, ⟨aD b1, 34, [.slice none 0 0], 1⟩, ⟨aD b3, 34, [.slice B3 Cells1.length c3], 1⟩, ⟨B3, 44, (Cells1.flatMap eN0), c3 * 5⟩, ⟨aD b4, 38, [vi r_7.Rows, vi r_7.Cols, .slice B9 r_7.Cells.length c9], 3⟩, ⟨B4, 44, (r_2.Cells.flatMap eN0), c4 * 5⟩, ⟨B5, 44, (r_3.Cells.flatMap eN0), c5 * 5⟩, ⟨B6, 44, (r_4.Cells.flatMap eN0), c6 * 5⟩, ⟨B7, 44, (r_5.Cells.flatMap eN0), c7 * 5⟩, ⟨B8, 44, (r_6.Cells.flatMap eN0), c8 * 5⟩, ⟨aD b2, 55, [.bool m3.bad], 1⟩, ⟨B9, 44, (r_7.Cells.flatMap eN0), c9 * 5⟩] [⟨B, (m.Cells.flatMap eN0)⟩] := hS56
            refine ⟨(ST.sel hS56 [0, 1, 2, 3] rfl rfl), ?_⟩
            refine ra_done (by kernel_rfl) ?_
            exact ⟨aD b4, B9, c9, (FF.cons (hf1.get 1 0 rfl) (FF.cons (hf1.get 2 1 rfl) (FF.cons (hf1.get 4 2 rfl) (FF.cons (hf1.get 5 3 rfl) (FF.cons (hf1.get 6 4 rfl) (FF.cons (hf1.get 7 5 rfl) (FF.cons rfl FF.nil))))))), (hS56.sel [0, 1, 10, 2, 3, 4, 11] rfl rfl)⟩
           exact allR_nil
          exact allR_nil
         exact allR_nil
        exact allR_nil
       exact allR_nil
      exact allR_nil
     exact allR_nil
    exact allR_nil
   rintro f w ⟨B10, B11, c10, hf2, hS14⟩
   refine cw_seq ?_
   obtain ⟨x, hx, hb1⟩ := bind_inv hb1
   obtain ⟨x1, hx1, hb1⟩ := bind_inv hb1
   obtain ⟨⟨r_8, m4⟩, hc6, hb1⟩ := bind_inv hb1
   refine cw_mid (fun f w => ∃ (B12 : Option Addr), FF f [(1, pt (aD b) 0), (2, pt (aD b1) 0), (4, pt (aD b2) 0), (5, pt (aD b3) 0), (6, vi (i1 : Int)), (7, vi (j : Int)), (9, pt B12 0)] ∧ ST w0 [] w [⟨aD b, 38, [vi m.Rows, vi m.Cols, .slice B m.Cells.length c], 3⟩, ⟨aD b1, 34, [.slice none 0 0], 1⟩, ⟨aD b2, 55, [.bool m4.bad], 1⟩, ⟨aD b3, 34, [.slice B3 Cells1.length c3], 1⟩, ⟨B3, 44, (Cells1.flatMap eN0), c3 * 5⟩, ⟨B12, 44, [vi r_8.Num.A, vi r_8.Num.B, vi r_8.Num.C, vi r_8.Num.D, vi r_8.Exp], 5⟩] [⟨B, (m.Cells.flatMap eN0)⟩]) ?_ ?_
   ·skip
    refine ra_start (ST.sel hS14 [0, 1, 3, 4, 5, 6] rfl rfl).fn (by kernel_rfl) ?_
    have hS59 := hS14.drew
    refine ra_q 0 33 (v := pt (aD b2) 0) rfl rfl rfl (by kernel_rfl) (by kernel_rfl) (by kernel_rfl) (ST.sel hS59 [0, 1, 3, 4, 5, 6] rfl rfl) (fun w' hw' => (Y_move (v := pt (aD b2) 0) rfl (hf2.get 4 2 rfl))) ?_
    refine ra_q 1 34 (v := pt B10 2) rfl rfl rfl (by kernel_rfl) (by kernel_rfl) (by kernel_rfl) (ST.sel hS59 [0, 1, 3, 4, 5, 6] rfl rfl) (fun w' hw' => (Y_fieldAddr (B := B10) (i := 0) (s := 0) k_fd_38_2_2_32 k_sz_32_1 rfl (hf2.get 8 6 rfl))) ?_
    refine ra_q 2 35 (v := .slice B11 r_7.Cells.length c10) rfl rfl rfl (by kernel_rfl) (by kernel_rfl) (by kernel_rfl) (ST.sel hS59 [0, 1, 3, 4, 5, 6] rfl rfl) (fun w' hw' => (Y_load1 (B := B10) (i := 2) (cs := [vi r_7.Rows, vi r_7.Cols, .slice B11 r_7.Cells.length c10]) (v := .slice B11 r_7.Cells.length c10) k_sc_32 rfl rfl (ST.cf hw' (i := 4) rfl) rfl)) ?_
    refine ra_q 3 36 (v := pt B11 ((0 : Int).toNat * 5)) rfl rfl rfl (by kernel_rfl) (by kernel_rfl) (by kernel_rfl) (ST.sel hS59 [0, 1, 3, 4, 5, 6] rfl rfl) (fun w' hw' => (Y_index (B := B11) (m := r_7.Cells.length) (c := c10) (k := .i64) (i := 0) k_sl_32_44 k_sz_44_5 rfl rfl rfl (gi_isSome eN3 rfl (ST.cf hw' (i := 5) rfl) hx) (getI_nn hx) (getI_ltI hx rfl))) ?_
    refine ra_q 4 37 (v := .agg #[vi x.Num.A, vi x.Num.B, vi x.Num.C, vi x.Num.D, vi x.Exp]) rfl rfl rfl (by kernel_rfl) (by kernel_rfl) (by kernel_rfl) (ST.sel hS59 [0, 1, 3, 4, 5, 6] rfl rfl) (fun w' hw' => (Y_loadA (B := B11) (i := (0 : Int).toNat * 5) (cs := (r_7.Cells.flatMap eN0)) (vs := [vi x.Num.A, vi x.Num.B, vi x.Num.C, vi x.Num.D, vi x.Exp]) k_ag_44 k_sz_44_5 rfl rfl (ST.cf hw' (i := 5) rfl) (eN3 x) (gi_seg eN3 hx))) ?_
    refine ra_q 5 38 (v := pt B10 2) rfl rfl rfl (by kernel_rfl) (by kernel_rfl) (by kernel_rfl) (ST.sel hS59 [0, 1, 3, 4, 5, 6] rfl rfl) (fun w' hw' => (Y_fieldAddr (B := B10) (i := 0) (s := 0) k_fd_38_2_2_32 k_sz_32_1 rfl (hf2.get 8 6 rfl))) ?_
    refine ra_q 6 39 (v := .slice B11 r_7.Cells.length c10) rfl rfl rfl (by kernel_rfl) (by kernel_rfl) (by kernel_rfl) (ST.sel hS59 [0, 1, 3, 4, 5, 6] rfl rfl) (fun w' hw' => (Y_load1 (B := B10) (i := 2) (cs := [vi r_7.Rows, vi r_7.Cols, .slice B11 r_7.Cells.length c10]) (v := .slice B11 r_7.Cells.length c10) k_sc_32 rfl rfl (ST.cf hw' (i := 4) rfl) rfl)) ?_
    refine ra_q 7 40 (v := pt B11 ((3 : Int).toNat * 5)) rfl rfl rfl (by kernel_rfl) (by kernel_rfl) (by kernel_rfl) (ST.sel hS59 [0, 1, 3, 4, 5, 6] rfl rfl) (fun w' hw' => (Y_index (B := B11) (m := r_7.Cells.length) (c := c10) (k := .i64) (i := 3) k_sl_32_44 k_sz_44_5 rfl rfl rfl (gi_isSome eN3 rfl (ST.cf hw' (i := 5) rfl) hx1) (getI_nn hx1) (getI_ltI hx1 rfl))) ?_
    refine ra_q 8 41 (v := .agg #[vi x1.Num.A, vi x1.Num.B, vi x1.Num.C, vi x1.Num.D, vi x1.Exp]) rfl rfl rfl (by kernel_rfl) (by kernel_rfl) (by kernel_rfl) (ST.sel hS59 [0, 1, 3, 4, 5, 6] rfl rfl) (fun w' hw' => (Y_loadA (B := B11) (i := (3 : Int).toNat * 5) (cs := (r_7.Cells.flatMap eN0)) (vs := [vi x1.Num.A, vi x1.Num.B, vi x1.Num.C, vi x1.Num.D, vi x1.Exp]) k_ag_44 k_sz_44_5 rfl rfl (ST.cf hw' (i := 5) rfl) (eN3 x1) (gi_seg eN3 hx1))) ?_
    refine ra_all (rs := [9, 10]) (by kernel_rfl) rfl ?_
    refine ra_c 42 (i := 9) rfl rfl rfl (Yc_func (g := 23) (vs := [pt (aD b2) 0, .agg #[vi x.Num.A, vi x.Num.B, vi x.Num.C, vi x.Num.D, vi x.Exp], .agg #[vi x1.Num.A, vi x1.Num.B, vi x1.Num.C, vi x1.Num.D, vi x1.Exp]]) k_call_23 rfl (mc rfl (mc rfl (mc rfl mn))) (c_spec_l2C_add m3 x x1 (aD b2) _  (hS59.inn [false, false, true, false, false, false, false] rfl [] rfl) hc6)) ?_ ?_
    ·rintro _ w_45 ⟨rfl, hd27⟩
     have hS60 := hS59.out [false, false, true, false, false, false, false] rfl hd27
     have hS60 : ST w0 [] _ [⟨aD b, 38, [vi m.Rows, vi m.Cols, .slice B m.Cells.length c], 3⟩, ⟨aD b1, 34, [.slice none 0 0], 1⟩, ⟨aD b3, 34, [.slice B3 Cells1.length c3], 1⟩, ⟨B3, 44, (Cells1.flatMap eN0), c3 * 5⟩, ⟨B10, 38, [vi r_7.Rows, vi r_7.Cols, .slice B11 r_7.Cells.length c10], 3⟩, ⟨B11, 44, (r_7.Cells.flatMap eN0), c10 * 5⟩, ⟨aD b2, 55, [.bool m4.bad], 1⟩] [⟨B, (m.Cells.flatMap eN0)⟩] := hS60
     refine ⟨(ST.sel hS60 [0, 1, 2, 3, 4, 5] rfl rfl), ?_⟩
     refine ra_all (rs := [10]) (by kernel_rfl) rfl ?_
     refine ra_s 9 (i := 10) rfl rfl rfl (Ys_alloc (T := 44) (cs := [vi 0, vi 0, vi 0, vi 0, vi 0]) (m := 5) hS60 k_zero_44 rfl rfl rfl) ?_ ?_
     ·rintro _ w_46 ⟨b5, rfl, hS61⟩
      have hS61 : ST w0 [] _ [⟨aD b, 38, [vi m.Rows, vi m.Cols, .slice B m.Cells.length c], 3⟩, ⟨aD b1, 34, [.slice none 0 0], 1⟩, ⟨aD b3, 34, [.slice B3 Cells1.length c3], 1⟩, ⟨B3, 44, (Cells1.flatMap eN0), c3 * 5⟩, ⟨B10, 38, [vi r_7.Rows, vi r_7.Cols, .slice B11 r_7.Cells.length c10], 3⟩, ⟨B11, 44, (r_7.Cells.flatMap eN0), c10 * 5⟩, ⟨aD b2, 55, [.bool m4.bad], 1⟩, ⟨aD b5, 44, [vi 0, vi 0, vi 0, vi 0, vi 0], 5⟩] [⟨B, (m.Cells.flatMap eN0)⟩] := hS61
      refine ⟨(ST.sel hS61 [0, 1, 2, 3, 4, 5] rfl rfl), ?_⟩
      refine ra_all (rs := [11]) (by kernel_rfl) rfl ?_
      refine ra_s0 (i := 11) rfl rfl rfl (Ys_store (i := 7) (s := 5) (B := aD b5) (T' := 44) (v := .agg #[vi r_8.Num.A, vi r_8.Num.B, vi r_8.Num.C, vi r_8.Num.D, vi r_8.Exp]) (vs := [vi r_8.Num.A, vi r_8.Num.B, vi r_8.Num.C, vi r_8.Num.D, vi r_8.Exp]) (k := 0) (cs' := [vi r_8.Num.A, vi r_8.Num.B, vi r_8.Num.C, vi r_8.Num.D, vi r_8.Exp]) hS61 k_sz_44_5 rfl rfl rfl rfl rfl rfl rfl (Nat.le_of_ble_eq_true rfl) rfl rfl) ?_ ?_
      ·rintro _ w_47 ⟨rfl, hS62⟩
       have hS62 : ST w0 [] _ [⟨aD b, 38, [vi m.Rows, vi m.Cols, .slice B m.Cells.length c], 3⟩, ⟨aD b1, 34, [.slice none 0 0], 1⟩, ⟨aD b3, 34, [.slice B3 Cells1.length c3], 1⟩, ⟨B3, 44, (Cells1.flatMap eN0), c3 * 5⟩, ⟨B10, 38, [vi r_7.Rows, vi r_7.Cols, .slice B11 r_7.Cells.length c10], 3⟩, ⟨B11, 44, (r_7.Cells.flatMap eN0), c10 * 5⟩, ⟨aD b2, 55, [.bool m4.bad], 1⟩, ⟨aD b5, 44, [vi r_8.Num.A, vi r_8.Num.B, vi r_8.Num.C, vi r_8.Num.D, vi r_8.Exp], 5⟩] [⟨B, (m.Cells.flatMap eN0)⟩] := hS62
       refine ⟨(ST.sel hS62 [0, 1, 2, 3, 4, 5] rfl rfl), ?_⟩
       refine ra_done (by kernel_rfl) ?_
       exact ⟨aD b5, (FF.cons (hf2.get 1 0 rfl) (FF.cons (hf2.get 2 1 rfl) (FF.cons (hf2.get 4 2 rfl) (FF.cons (hf2.get 5 3 rfl) (FF.cons (hf2.get 6 4 rfl) (FF.cons (hf2.get 7 5 rfl) (FF.cons rfl FF.nil))))))), (hS62.sel [0, 1, 6, 2, 3, 7] rfl rfl)⟩
      exact allR_nil
     exact allR_nil
    refine ra_s 9 (i := 10) rfl rfl rfl (Ys_alloc (T := 44) (cs := [vi 0, vi 0, vi 0, vi 0, vi 0]) (m := 5) hS59 k_zero_44 rfl rfl rfl) ?_ ?_
    ·rintro _ w_48 ⟨b5, rfl, hS63⟩
     have hS63 : ST w0 [] _ [⟨aD b, 38, [vi m.Rows, vi m.Cols, .slice B m.Cells.length c], 3⟩, ⟨aD b1, 34, [.slice none 0 0], 1⟩, ⟨aD b2, 55, [.bool m3.bad], 1⟩, ⟨aD b3, 34, [.slice B3 Cells1.length c3], 1⟩, ⟨B3, 44, (Cells1.flatMap eN0), c3 * 5⟩, ⟨B10, 38, [vi r_7.Rows, vi r_7.Cols, .slice B11 r_7.Cells.length c10], 3⟩, ⟨B11, 44, (r_7.Cells.flatMap eN0), c10 * 5⟩, ⟨aD b5, 44, [vi 0, vi 0, vi 0, vi 0, vi 0], 5⟩] [⟨B, (m.Cells.flatMap eN0)⟩] := hS63
     refine ⟨(ST.sel hS63 [0, 1, 3, 4, 5, 6] rfl rfl), ?_⟩
     refine ra_all (rs := [9]) (by kernel_rfl) rfl ?_
     refine ra_c 42 (i := 9) rfl rfl rfl (Yc_func (g := 23) (vs := [pt (aD b2) 0, .agg #[vi x.Num.A, vi x.Num.B, vi x.Num.C, vi x.Num.D, vi x.Exp], .agg #[vi x1.Num.A, vi x1.Num.B, vi x1.Num.C, vi x1.Num.D, vi x1.Exp]]) k_call_23 rfl (mc rfl (mc rfl (mc rfl mn))) (c_spec_l2C_add m3 x x1 (aD b2) _  (hS63.inn [false, false, true, false, false, false, false, false] rfl [] rfl) hc6)) ?_ ?_
     ·rintro _ w_49 ⟨rfl, hd28⟩
      have hS64 := hS63.out [false, false, true, false, false, false, false, false] rfl hd28
      have hS64 : ST w0 [] _ [⟨aD b, 38, [vi m.Rows, vi m.Cols, .slice B m.Cells.length c], 3⟩, ⟨aD b1, 34, [.slice none 0 0], 1⟩, ⟨aD b3, 34, [.slice B3 Cells1.length c3], 1⟩, ⟨B3, 44, (Cells1.flatMap eN0), c3 * 5⟩, ⟨B10, 38, [vi r_7.Rows, vi r_7.Cols, .slice B11 r_7.Cells.length c10], 3⟩, ⟨B11, 44, (r_7.Cells.flatMap eN0), c10 * 5⟩, ⟨aD b5, 44, [vi 0, vi 0, vi 0, vi 0, vi 0], 5⟩, ⟨aD b2, 55, [.bool m4.bad], 1⟩] [⟨B, (m.Cells.flatMap eN0)⟩] := hS64
      refine ⟨(ST.sel hS64 [0, 1, 2, 3, 4, 5] rfl rfl), ?_⟩
      refine ra_all (rs := [11]) (by kernel_rfl) rfl ?_
      refine ra_s0 (i := 11) rfl rfl rfl (Ys_store (i := 6) (s := 5) (B := aD b5) (T' := 44) (v := .agg #[vi r_8.Num.A, vi r_8.Num.B, vi r_8.Num.C, vi r_8.Num.D, vi r_8.Exp]) (vs := [vi r_8.Num.A, vi r_8.Num.B, vi r_8.Num.C, vi r_8.Num.D, vi r_8.Exp]) (k := 0) (cs' := [vi r_8.Num.A, vi r_8.Num.B, vi r_8.Num.C, vi r_8.Num.D, vi r_8.Exp]) hS64 k_sz_44_5 rfl rfl rfl rfl rfl rfl rfl (Nat.le_of_ble_eq_true rfl) rfl rfl) ?_ ?_
      ·rintro _ w_50 ⟨rfl, hS65⟩
       have hS65 : ST w0 [] _ [⟨aD b, 38, [vi m.Rows, vi m.Cols, .slice B m.Cells.length c], 3⟩, ⟨aD b1, 34, [.slice none 0 0], 1⟩, ⟨aD b3, 34, [.slice B3 Cells1.length c3], 1⟩, ⟨B3, 44, (Cells1.flatMap eN0), c3 * 5⟩, ⟨B10, 38, [vi r_7.Rows, vi r_7.Cols, .slice B11 r_7.Cells.length c10], 3⟩, ⟨B11, 44, (r_7.Cells.flatMap eN0), c10 * 5⟩, ⟨aD b5, 44, [vi r_8.Num.A, vi r_8.Num.B, vi r_8.Num.C, vi r_8.Num.D, vi r_8.Exp], 5⟩, ⟨aD b2, 55, [.bool m4.bad], 1⟩] [⟨B, (m.Cells.flatMap eN0)⟩] := hS65
       refine ⟨(ST.sel hS65 [0, 1, 2, 3, 4, 5] rfl rfl), ?_⟩
       refine ra_done (by kernel_rfl) ?_
       exact ⟨aD b5, (FF.cons (hf2.get 1 0 rfl) (FF.cons (hf2.get 2 1 rfl) (FF.cons (hf2.get 4 2 rfl) (FF.cons (hf2.get 5 3 rfl) (FF.cons (hf2.get 6 4 rfl) (FF.cons (hf2.get 7 5 rfl) (FF.cons rfl FF.nil))))))), (hS65.sel [0, 1, 7, 2, 3, 6] rfl rfl)⟩
      exact allR_nil
     exact allR_nil
    exact allR_nil
   rintro f w ⟨B12, hf3, hS58⟩
   obtain ⟨⟨r_9, m5⟩, hc7, hb1⟩ := bind_inv hb1
   obtain ⟨hap, hb1⟩ := chk_inv hb1
   refine cw_mid (fun f w => ∃ (B14 : Option Addr) (c12 : Nat), FF f [(1, pt (aD b) 0), (2, pt (aD b1) 0), (4, pt (aD b2) 0), (5, pt (aD b3) 0), (6, vi (i1 : Int)), (7, vi (j : Int))] ∧ ST w0 [] w [⟨aD b, 38, [vi m.Rows, vi m.Cols, .slice B m.Cells.length c], 3⟩, ⟨aD b1, 34, [.slice none 0 0], 1⟩, ⟨aD b2, 55, [.bool m5.bad], 1⟩, ⟨aD b3, 34, [.slice B14 ((Cells1 ++ [r_9]).length) c12], 1⟩, ⟨B14, 44, ((Cells1 ++ [r_9]).flatMap eN0), c12 * 5⟩] [⟨B, (m.Cells.flatMap eN0)⟩]) ?_ ?_
   ·skip
    refine ra_start (ST.sel hS58 [0, 1, 5] rfl rfl).fn (by kernel_rfl) ?_
    have hS68 := hS58.drew
    refine ra_q 0 43 (v := pt (aD b3) 0) rfl rfl rfl (by kernel_rfl) (by kernel_rfl) (by kernel_rfl) (ST.sel hS68 [0, 1, 5] rfl rfl) (fun w' hw' => (Y_fieldAddr (B := aD b3) (i := 0) (s := 0) k_fd_34_0_0_32 k_sz_32_1 rfl (hf3.get 5 3 rfl))) ?_
    refine ra_q 2 45 (v := pt (aD b2) 0) rfl rfl rfl (by kernel_rfl) (by kernel_rfl) (by kernel_rfl) (ST.sel hS68 [0, 1, 5] rfl rfl) (fun w' hw' => (Y_move (v := pt (aD b2) 0) rfl (hf3.get 4 2 rfl))) ?_
    refine ra_q 3 46 (v := .agg #[vi r_8.Num.A, vi r_8.Num.B, vi r_8.Num.C, vi r_8.Num.D, vi r_8.Exp]) rfl rfl rfl (by kernel_rfl) (by kernel_rfl) (by kernel_rfl) (ST.sel hS68 [0, 1, 5] rfl rfl) (fun w' hw' => (Y_loadA (B := B12) (i := 0) (cs := [vi r_8.Num.A, vi r_8.Num.B, vi r_8.Num.C, vi r_8.Num.D, vi r_8.Exp]) (vs := [vi r_8.Num.A, vi r_8.Num.B, vi r_8.Num.C, vi r_8.Num.D, vi r_8.Exp]) k_ag_44 k_sz_44_5 rfl (hf3.get 9 6 rfl) (ST.cf hw' (i := 2) rfl) rfl rfl)) ?_
    refine ra_q 4 47 (v := .agg #[vi 1, vi 0, vi 0, vi 0]) rfl rfl rfl (by kernel_rfl) (by kernel_rfl) (by kernel_rfl) (ST.sel hS68 [0, 1, 5] rfl rfl) (fun w' hw' => (Y_buildS (zs := [vi 0, vi 0, vi 0, vi 0]) (vs := [(0, vi 1)]) (cs := [vi 1, vi 0, vi 0, vi 0]) k_pl_42 k_zero_42 rfl (mpc rfl mpn) rfl)) ?_
    refine ra_q 5 48 (v := .agg #[vi 1, vi 0, vi 0, vi 0, vi 2]) rfl rfl rfl (by kernel_rfl) (by kernel_rfl) (by kernel_rfl) (ST.sel hS68 [0, 1, 5] rfl rfl) (fun w' hw' => (Y_buildS (zs := [vi 0, vi 0, vi 0, vi 0, vi 0]) (vs := [(0, .agg #[vi 1, vi 0, vi 0, vi 0]), (1, vi 2)]) (cs := [vi 1, vi 0, vi 0, vi 0, vi 2]) k_pl_44 k_zero_44 rfl (mpc rfl (mpc rfl mpn)) rfl)) ?_
    refine ra_all (rs := [1, 6]) (by kernel_rfl) rfl ?_
    refine ra_y 44 (i := 1) (v := .slice B3 Cells1.length c3) rfl rfl rfl (Y_load1 (B := aD b3) (i := 0) (cs := [.slice B3 Cells1.length c3]) (v := .slice B3 Cells1.length c3) k_sc_32 rfl rfl (hS68.cf (i := 3) rfl) rfl) (ST.sel hS68 [0, 1, 5] rfl rfl) ?_ ?_
    ·skip
     refine ra_all (rs := [6]) (by kernel_rfl) rfl ?_
     refine ra_c 49 (i := 6) rfl rfl rfl (Yc_func (g := 24) (vs := [pt (aD b2) 0, .agg #[vi r_8.Num.A, vi r_8.Num.B, vi r_8.Num.C, vi r_8.Num.D, vi r_8.Exp], .agg #[vi 1, vi 0, vi 0, vi 0, vi 2]]) k_call_24 rfl (mc rfl (mc rfl (mc rfl mn))) (c_spec_l2C_mul m4 r_8 (TDyadic.mk (TRing.mk 1 0 0 0) 2) (aD b2) _  (hS68.inn [false, false, true, false, false, false] rfl [] rfl) hc7)) ?_ ?_
     ·rintro _ w_51 ⟨rfl, hd29⟩
      have hS69 := hS68.out [false, false, true, false, false, false] rfl hd29
      have hS69 : ST w0 [] _ [⟨aD b, 38, [vi m.Rows, vi m.Cols, .slice B m.Cells.length c], 3⟩, ⟨aD b1, 34, [.slice none 0 0], 1⟩, ⟨aD b3, 34, [.slice B3 Cells1.length c3], 1⟩, ⟨B3, 44, (Cells1.flatMap eN0), c3 * 5⟩, ⟨B12, 44, [vi r_8.Num.A, vi r_8.Num.B, vi r_8.Num.C, vi r_8.Num.D, vi r_8.Exp], 5⟩, ⟨aD b2, 55, [.bool m5.bad], 1⟩] [⟨B, (m.Cells.flatMap eN0)⟩] := hS69
      refine ⟨(ST.sel hS69 [0, 1, 4] rfl rfl), ?_⟩
      refine ra_all (rs := [7]) (by kernel_rfl) rfl ?_
      refine ra_s 50 (i := 7) rfl rfl rfl (Ys_bslice (s := 5) (len := 1) (vs := [(0, .agg #[vi r_9.Num.A, vi r_9.Num.B, vi r_9.Num.C, vi r_9.Num.D, vi r_9.Exp])]) (cs := [vi r_9.Num.A, vi r_9.Num.B, vi r_9.Num.C, vi r_9.Num.D, vi r_9.Exp]) (zs := [vi 0, vi 0, vi 0, vi 0, vi 0]) (m := 5) hS69 k_sl_32_44 k_sz_44_5 k_zc_44 rfl (mpc rfl mpn) rfl rfl rfl (by kernel_rfl) (by kernel_rfl) rfl) ?_ ?_
      ·rintro _ w_52 ⟨b6, rfl, hS70⟩
       have hS70 : ST w0 [] _ [⟨aD b, 38, [vi m.Rows, vi m.Cols, .slice B m.Cells.length c], 3⟩, ⟨aD b1, 34, [.slice none 0 0], 1⟩, ⟨aD b3, 34, [.slice B3 Cells1.length c3], 1⟩, ⟨B3, 44, (Cells1.flatMap eN0), c3 * 5⟩, ⟨B12, 44, [vi r_8.Num.A, vi r_8.Num.B, vi r_8.Num.C, vi r_8.Num.D, vi r_8.Exp], 5⟩, ⟨aD b2, 55, [.bool m5.bad], 1⟩, ⟨aD b6, 44, ([r_9].flatMap eN0), 1 * 5⟩] [⟨B, (m.Cells.flatMap eN0)⟩] := hS70
       refine ⟨(ST.sel hS70 [0, 1, 4] rfl rfl), ?_⟩
       refine ra_all (rs := [8]) (by kernel_rfl) rfl ?_
       refine ra_s 51 (i := 8) rfl rfl rfl (Ys_append (s := 5) (by' := 40) (i := 3) (nn := Cells1.length) (c := c3) (k := 1) (len := (Cells1 ++ [r_9]).length) (B := B3) (xs := ([r_9].flatMap eN0)) (cs' := ((Cells1 ++ [r_9]).flatMap eN0)) hS70 k_sl_32_44 k_sz_44_5 k_by_44_40 k_zero_44 rfl (by decide) rfl rfl rfl rfl (fm_lenn (l := Cells1) eN3 rfl) rfl (hS70.cf (i := 6) rfl) (fm_lenn (l := [r_9]) eN3 rfl) (fm_one' (enc := eN0) enc_Dyadic_one [r_9]) (by have := hap; omega) (by have := hap; simp only [maxLen]; omega) (fm_app _ _) (app_len (l := Cells1) (l' := [r_9]) rfl rfl)) ?_ ?_
       ·rintro _ w_53 ⟨B13, c11, rfl, hS71⟩
        have hS71 : ST w0 [] _ [⟨aD b, 38, [vi m.Rows, vi m.Cols, .slice B m.Cells.length c], 3⟩, ⟨aD b1, 34, [.slice none 0 0], 1⟩, ⟨aD b3, 34, [.slice B3 Cells1.length c3], 1⟩, ⟨B13, 44, ((Cells1 ++ [r_9]).flatMap eN0), c11 * 5⟩, ⟨B12, 44, [vi r_8.Num.A, vi r_8.Num.B, vi r_8.Num.C, vi r_8.Num.D, vi r_8.Exp], 5⟩, ⟨aD b2, 55, [.bool m5.bad], 1⟩, ⟨aD b6, 44, ([r_9].flatMap eN0), 1 * 5⟩] [⟨B, (m.Cells.flatMap eN0)⟩] := hS71
        refine ⟨(ST.sel hS71 [0, 1, 4] rfl rfl), ?_⟩
        refine ra_q 9 52 (v := pt (aD b3) 0) rfl rfl rfl (by kernel_rfl) (by kernel_rfl) (by kernel_rfl) (ST.sel hS71 [0, 1, 4] rfl rfl) (fun w' hw' => (Y_fieldAddr (B := aD b3) (i := 0) (s := 0) k_fd_34_0_0_32 k_sz_32_1 rfl (hf3.get 5 3 rfl))) ?_
        refine ra_all (rs := [10]) (by kernel_rfl) rfl ?_
        refine ra_s0 (i := 10) rfl rfl rfl (Ys_store (i := 2) (s := 1) (B := aD b3) (T' := 34) (v := .slice B13 ((Cells1 ++ [r_9]).length) c11) (vs := [.slice B13 ((Cells1 ++ [r_9]).length) c11]) (k := 0) (cs' := [.slice B13 ((Cells1 ++ [r_9]).length) c11]) hS71 k_sz_32_1 rfl rfl rfl rfl rfl rfl rfl (Nat.le_of_ble_eq_true rfl) rfl rfl) ?_ ?_
        ·rintro _ w_54 ⟨rfl, hS72⟩
         have hS72 : ST w0 [] _ [⟨aD b, 38, [vi m.Rows, vi m.Cols, .slice B m.Cells.length c], 3⟩, ⟨aD b1, 34, [.slice none 0 0], 1⟩, ⟨aD b3, 34, [.slice B13 ((Cells1 ++ [r_9]).length) c11], 1⟩, ⟨B13, 44, ((Cells1 ++ [r_9]).flatMap eN0), c11 * 5⟩, ⟨B12, 44, [vi r_8.Num.A, vi r_8.Num.B, vi r_8.Num.C, vi r_8.Num.D, vi r_8.Exp], 5⟩, ⟨aD b2, 55, [.bool m5.bad], 1⟩, ⟨aD b6, 44, ([r_9].flatMap eN0), 1 * 5⟩] [⟨B, (m.Cells.flatMap eN0)⟩] := hS72
         refine ⟨(ST.sel hS72 [0, 1, 4] rfl rfl), ?_⟩
         refine ra_done (by kernel_rfl) ?_
         exact ⟨B13, c11, (FF.cons (hf3.get 1 0 rfl) (FF.cons (hf3.get 2 1 rfl) (FF.cons (hf3.get 4 2 rfl) (FF.cons (hf3.get 5 3 rfl) (FF.cons (hf3.get 6 4 rfl) (FF.cons (hf3.get 7 5 rfl) FF.nil)))))), (hS72.sel [0, 1, 5, 2, 3] rfl rfl)⟩
        exact allR_nil
       exact allR_nil
      exact allR_nil
     exact allR_nil
    refine ra_c 49 (i := 6) rfl rfl rfl (Yc_func (g := 24) (vs := [pt (aD b2) 0, .agg #[vi r_8.Num.A, vi r_8.Num.B, vi r_8.Num.C, vi r_8.Num.D, vi r_8.Exp], .agg #[vi 1, vi 0, vi 0, vi 0, vi 2]]) k_call_24 rfl (mc rfl (mc rfl (mc rfl mn))) (c_spec_l2C_mul m4 r_8 (TDyadic.mk (TRing.mk 1 0 0 0) 2) (aD b2) _  (hS68.inn [false, false, true, false, false, false] rfl [] rfl) hc7)) ?_ ?_
    ·rintro _ w_55 ⟨rfl, hd30⟩
     have hS73 := hS68.out [false, false, true, false, false, false] rfl hd30
     have hS73 : ST w0 [] _ [⟨aD b, 38, [vi m.Rows, vi m.Cols, .slice B m.Cells.length c], 3⟩, ⟨aD b1, 34, [.slice none 0 0], 1⟩, ⟨aD b3, 34, [.slice B3 Cells1.length c3], 1⟩, ⟨B3, 44, (Cells1.flatMap eN0), c3 * 5⟩, ⟨B12, 44, [vi r_8.Num.A, vi r_8.Num.B, vi r_8.Num.C, vi r_8.Num.D, vi r_8.Exp], 5⟩, ⟨aD b2, 55, [.bool m5.bad], 1⟩] [⟨B, (m.Cells.flatMap eN0)⟩] := hS73
     refine ⟨(ST.sel hS73 [0, 1, 4] rfl rfl), ?_⟩
     refine ra_all (rs := [1, 7]) (by kernel_rfl) rfl ?_
     refine ra_y 44 (i := 1) (v := .slice B3 Cells1.length c3) rfl rfl rfl (Y_load1 (B := aD b3) (i := 0) (cs := [.slice B3 Cells1.length c3]) (v := .slice B3 Cells1.length c3) k_sc_32 rfl rfl (hS73.cf (i := 2) rfl) rfl) (ST.sel hS73 [0, 1, 4] rfl rfl) ?_ ?_
     ·skip
      refine ra_all (rs := [7]) (by kernel_rfl) rfl ?_
      refine ra_s 50 (i := 7) rfl rfl rfl (Ys_bslice (s := 5) (len := 1) (vs := [(0, .agg #[vi r_9.Num.A, vi r_9.Num.B, vi r_9.Num.C, vi r_9.Num.D, vi r_9.Exp])]) (cs := [vi r_9.Num.A, vi r_9.Num.B, vi r_9.Num.C, vi r_9.Num.D, vi r_9.Exp]) (zs := [vi 0, vi 0, vi 0, vi 0, vi 0]) (m := 5) hS73 k_sl_32_44 k_sz_44_5 k_zc_44 rfl (mpc rfl mpn) rfl rfl rfl (by kernel_rfl) (by kernel_rfl) rfl) ?_ ?_
      ·rintro _ w_56 ⟨b6, rfl, hS74⟩
       have hS74 : ST w0 [] _ [⟨aD b, 38, [vi m.Rows, vi m.Cols, .slice B m.Cells.length c], 3⟩, ⟨aD b1, 34, [.slice none 0 0], 1⟩, ⟨aD b3, 34, [.slice B3 Cells1.length c3], 1⟩, ⟨B3, 44, (Cells1.flatMap eN0), c3 * 5⟩, ⟨B12, 44, [vi r_8.Num.A, vi r_8.Num.B, vi r_8.Num.C, vi r_8.Num.D, vi r_8.Exp], 5⟩, ⟨aD b2, 55, [.bool m5.bad], 1⟩, ⟨aD b6, 44, ([r_9].flatMap eN0), 1 * 5⟩] [⟨B, (m.Cells.flatMap eN0)⟩] := hS74
       refine ⟨(ST.sel hS74 [0, 1, 4] rfl rfl), ?_⟩
       refine ra_all (rs := [8]) (by kernel_rfl) rfl ?_
       refine ra_s 51 (i := 8) rfl rfl rfl (Ys_append (s := 5) (by' := 40) (i := 3) (nn := Cells1.length) (c := c3) (k := 1) (len := (Cells1 ++ [r_9]).length) (B := B3) (xs := ([r_9].flatMap eN0)) (cs' := ((Cells1 ++ [r_9]).flatMap eN0)) hS74 k_sl_32_44 k_sz_44_5 k_by_44_40 k_zero_44 rfl (by decide) rfl rfl rfl rfl (fm_lenn (l := Cells1) eN3 rfl) rfl (hS74.cf (i := 6) rfl) (fm_lenn (l := [r_9]) eN3 rfl) (fm_one' (enc := eN0) enc_Dyadic_one [r_9]) (by have := hap; omega) (by have := hap; simp only [maxLen]; omega) (fm_app _ _) (app_len (l := Cells1) (l' := [r_9]) rfl rfl)) ?_ ?_
       ·rintro _ w_57 ⟨B13, c11, rfl, hS75⟩
        have hS75 : ST w0 [] _ [⟨aD b, 38, [vi m.Rows, vi m.Cols, .slice B m.Cells.length c], 3⟩, ⟨aD b1, 34, [.slice none 0 0], 1⟩, ⟨aD b3, 34, [.slice B3 Cells1.length c3], 1⟩, ⟨B13, 44, ((Cells1 ++ [r_9]).flatMap eN0), c11 * 5⟩, ⟨B12, 44, [vi r_8.Num.A, vi r_8.Num.B, vi r_8.Num.C, vi r_8.Num.D, vi r_8.Exp], 5⟩, ⟨aD b2, 55, [.bool m5.bad], 1⟩, ⟨aD b6, 44, ([r_9].flatMap eN0), 1 * 5⟩] [⟨B, (m.Cells.flatMap eN0)⟩] := hS75
        refine ⟨(ST.sel hS75 [0, 1, 4] rfl rfl), ?_⟩
        refine ra_q 9 52 (v := pt (aD b3) 0) rfl rfl rfl (by kernel_rfl) (by kernel_rfl) (by kernel_rfl) (ST.sel hS75 [0, 1, 4] rfl rfl) (fun w' hw' => (Y_fieldAddr (B := aD b3) (i := 0) (s := 0) k_fd_34_0_0_32 k_sz_32_1 rfl (hf3.get 5 3 rfl))) ?_
        refine ra_all (rs := [10]) (by kernel_rfl) rfl ?_
        refine ra_s0 (i := 10) rfl rfl rfl (Ys_store (i := 2) (s := 1) (B := aD b3) (T' := 34) (v := .slice B13 ((Cells1 ++ [r_9]).length) c11) (vs := [.slice B13 ((Cells1 ++ [r_9]).length) c11]) (k := 0) (cs' := [.slice B13 ((Cells1 ++ [r_9]).length) c11]) hS75 k_sz_32_1 rfl rfl rfl rfl rfl rfl rfl (Nat.le_of_ble_eq_true rfl) rfl rfl) ?_ ?_
        ·rintro _ w_58 ⟨rfl, hS76⟩
         have hS76 : ST w0 [] _ [⟨aD b, 38, [vi m.Rows, vi m.Cols, .slice B m.Cells.length c], 3⟩, ⟨aD b1, 34, [.slice none 0 0], 1⟩, ⟨aD b3, 34, [.slice B13 ((Cells1 ++ [r_9]).length) c11], 1⟩, ⟨B13, 44, ((Cells1 ++ [r_9]).flatMap eN0), c11 * 5⟩, ⟨B12, 44, [vi r_8.Num.A, vi r_8.Num.B, vi r_8.Num.C, vi r_8.Num.D, vi r_8.Exp], 5⟩, ⟨aD b2, 55, [.bool m5.bad], 1⟩, ⟨aD b6, 44, ([r_9].flatMap eN0), 1 * 5⟩] [⟨B, (m.Cells.flatMap eN0)⟩] := hS76
         refine ⟨(ST.sel hS76 [0, 1, 4] rfl rfl), ?_⟩
         refine ra_done (by kernel_rfl) ?_
         exact ⟨B13, c11, (FF.cons (hf3.get 1 0 rfl) (FF.cons (hf3.get 2 1 rfl) (FF.cons (hf3.get 4 2 rfl) (FF.cons (hf3.get 5 3 rfl) (FF.cons (hf3.get 6 4 rfl) (FF.cons (hf3.get 7 5 rfl) FF.nil)))))), (hS76.sel [0, 1, 5, 2, 3] rfl rfl)⟩
        exact allR_nil
       exact allR_nil
      exact allR_nil
     refine ra_s 50 (i := 7) rfl rfl rfl (Ys_bslice (s := 5) (len := 1) (vs := [(0, .agg #[vi r_9.Num.A, vi r_9.Num.B, vi r_9.Num.C, vi r_9.Num.D, vi r_9.Exp])]) (cs := [vi r_9.Num.A, vi r_9.Num.B, vi r_9.Num.C, vi r_9.Num.D, vi r_9.Exp]) (zs := [vi 0, vi 0, vi 0, vi 0, vi 0]) (m := 5) hS73 k_sl_32_44 k_sz_44_5 k_zc_44 rfl (mpc rfl mpn) rfl rfl rfl (by kernel_rfl) (by kernel_rfl) rfl) ?_ ?_
     ·rintro _ w_59 ⟨b6, rfl, hS77⟩
      have hS77 : ST w0 [] _ [⟨aD b, 38, [vi m.Rows, vi m.Cols, .slice B m.Cells.length c], 3⟩, ⟨aD b1, 34, [.slice none 0 0], 1⟩, ⟨aD b3, 34, [.slice B3 Cells1.length c3], 1⟩, ⟨B3, 44, (Cells1.flatMap eN0), c3 * 5⟩, ⟨B12, 44, [vi r_8.Num.A, vi r_8.Num.B, vi r_8.Num.C, vi r_8.Num.D, vi r_8.Exp], 5⟩, ⟨aD b2, 55, [.bool m5.bad], 1⟩, ⟨aD b6, 44, ([r_9].flatMap eN0), 1 * 5⟩] [⟨B, (m.Cells.flatMap eN0)⟩] := hS77
      refine ⟨(ST.sel hS77 [0, 1, 4] rfl rfl), ?_⟩
      refine ra_all (rs := [1]) (by kernel_rfl) rfl ?_
      refine ra_y 44 (i := 1) (v := .slice B3 Cells1.length c3) rfl rfl rfl (Y_load1 (B := aD b3) (i := 0) (cs := [.slice B3 Cells1.length c3]) (v := .slice B3 Cells1.length c3) k_sc_32 rfl rfl (hS77.cf (i := 2) rfl) rfl) (ST.sel hS77 [0, 1, 4] rfl rfl) ?_ ?_
      ·skip
       refine ra_all (rs := [8]) (by kernel_rfl) rfl ?_
       refine ra_s 51 (i := 8) rfl rfl rfl (Ys_append (s := 5) (by' := 40) (i := 3) (nn := Cells1.length) (c := c3) (k := 1) (len := (Cells1 ++ [r_9]).length) (B := B3) (xs := ([r_9].flatMap eN0)) (cs' := ((Cells1 ++ [r_9]).flatMap eN0)) hS77 k_sl_32_44 k_sz_44_5 k_by_44_40 k_zero_44 rfl (by decide) rfl rfl rfl rfl (fm_lenn (l := Cells1) eN3 rfl) rfl (hS77.cf (i := 6) rfl) (fm_lenn (l := [r_9]) eN3 rfl) (fm_one' (enc := eN0) enc_Dyadic_one [r_9]) (by have := hap; omega) (by have := hap; simp only [maxLen]; omega) (fm_app _ _) (app_len (l := Cells1) (l' := [r_9]) rfl rfl)) ?_ ?_
       ·rintro _ w_60 ⟨B13, c11, rfl, hS78⟩
        have hS78 : ST w0 [] _ [⟨aD b, 38, [vi m.Rows, vi m.Cols, .slice B m.Cells.length c], 3⟩, ⟨aD b1, 34, [.slice none 0 0], 1⟩, ⟨aD b3, 34, [.slice B3 Cells1.length c3], 1⟩, ⟨B13, 44, ((Cells1 ++ [r_9]).flatMap eN0), c11 * 5⟩, ⟨B12, 44, [vi r_8.Num.A, vi r_8.Num.B, vi r_8.Num.C, vi r_8.Num.D, vi r_8.Exp], 5⟩, ⟨aD b2, 55, [.bool m5.bad], 1⟩, ⟨aD b6, 44, ([r_9].flatMap eN0), 1 * 5⟩] [⟨B, (m.Cells.flatMap eN0)⟩] := hS78
        refine ⟨(ST.sel hS78 [0, 1, 4] rfl rfl), ?_⟩
        refine ra_q 9 52 (v := pt (aD b3) 0) rfl rfl rfl (by kernel_rfl) (by kernel_rfl) (by kernel_rfl) (ST.sel hS78 [0, 1, 4] rfl rfl) (fun w' hw' => (Y_fieldAddr (B := aD b3) (i := 0) (s := 0) k_fd_34_0_0_32 k_sz_32_1 rfl (hf3.get 5 3 rfl))) ?_
        refine ra_all (rs := [10]) (by kernel_rfl) rfl ?_
        refine ra_s0 (i := 10) rfl rfl rfl (Ys_store (i := 2) (s := 1) (B := aD b3) (T' := 34) (v := .slice B13 ((Cells1 ++ [r_9]).length) c11) (vs := [.slice B13 ((Cells1 ++ [r_9]).length) c11]) (k := 0) (cs' := [.slice B13 ((Cells1 ++ [r_9]).length) c11]) hS78 k_sz_32_1 rfl rfl rfl rfl rfl rfl rfl (Nat.le_of_ble_eq_true rfl) rfl rfl) ?_ ?_
        ·rintro _ w_61 ⟨rfl, hS79⟩
         have hS79 : ST w0 [] _ [⟨aD b, 38, [vi m.Rows, vi m.Cols, .slice B m.Cells.length c], 3⟩, ⟨aD b1, 34, [.slice none 0 0], 1⟩, ⟨aD b3, 34, [.slice B13 ((Cells1 ++ [r_9]).length) c11], 1⟩, ⟨B13, 44, ((Cells1 ++ [r_9]).flatMap eN0), c11 * 5⟩, ⟨B12, 44, [vi r_8.Num.A, vi r_8.Num.B, vi r_8.Num.C, vi r_8.Num.D, vi r_8.Exp], 5⟩, ⟨aD b2, 55, [.bool m5.bad], 1⟩, ⟨aD b6, 44, ([r_9].flatMap eN0), 1 * 5⟩] [⟨B, (m.Cells.flatMap eN0)⟩] := hS79
         refine ⟨(ST.sel hS79 [0, 1, 4] rfl rfl), ?_⟩
         refine ra_done (by kernel_rfl) ?_
         exact ⟨B13, c11, (FF.cons (hf3.get 1 0 rfl) (FF.cons (hf3.get 2 1 rfl) (FF.cons (hf3.get 4 2 rfl) (FF.cons (hf3.get 5 3 rfl) (FF.cons (hf3.get 6 4 rfl) (FF.cons (hf3.get 7 5 rfl) FF.nil)))))), (hS79.sel [0, 1, 5, 2, 3] rfl rfl)⟩
        exact allR_nil
       exact allR_nil
      exact allR_nil
     exact allR_nil
    exact allR_nil
   rintro f w ⟨B14, c12, hf4, hS67⟩
   refine cw_region ?_
   refine sq 18 rfl rfl (Y_move (v := vi (j : Int)) rfl (hf4.get 7 5 rfl)) ?_
   refine sq 19 rfl rfl (Y_add (k := .i64) (a := (j : Int)) (b := 1) rfl rfl rfl) ?_
   refine sq 7 rfl rfl (Y_assign (v := vi (i64.wrap ((j : Int) + 1))) rfl rfl) ?_
   refine rw_nil ?_
   obtain rfl := some_inj hb1
   exact ⟨k_3, Nat.lt_succ_self _, j + 1, m5.bad, (Cells1 ++ [r_9]), B14, c12, (FF.cons (hf4.get 1 0 rfl) (FF.cons (hf4.get 2 1 rfl) (FF.cons (hf4.get 4 2 rfl) (FF.cons (hf4.get 5 3 rfl) (FF.cons (hf4.get 6 4 rfl) (FF.cons (congrArg (Value.int .i64) (wr_succ hlt3 (show 3 ≤ 9223372036854775807 by decide))) FF.nil)))))), (hS67.sel [0, 1, 2, 3, 4] rfl rfl), (by omega), hL3⟩
  ·skip
   obtain rfl : k_2 = 0 := by have h := of_decide_eq_false hlt2; omega
   refine cw_exit rfl ?_
   obtain rfl := some_inj hL2
   refine cw_region ?_
   refine sq 14 rfl rfl (Y_move (v := vi (i1 : Int)) rfl (hf1.get 6 4 rfl)) ?_
   refine sq 15 rfl rfl (Y_add (k := .i64) (a := (i1 : Int)) (b := 1) rfl rfl rfl) ?_
   refine sq 6 rfl rfl (Y_assign (v := vi (i64.wrap ((i1 : Int) + 1))) rfl rfl) ?_
   refine rw_nil ?_
   obtain rfl := some_inj hF2
   exact ⟨k_1, Nat.lt_succ_self _, i1 + 1, bad1, Cells1, B3, c3, (FF.cons (hf1.get 1 0 rfl) (FF.cons (hf1.get 2 1 rfl) (FF.cons (hf1.get 4 2 rfl) (FF.cons (hf1.get 5 3 rfl) (FF.cons (congrArg (Value.int .i64) (wr_succ hlt1 (show 3 ≤ 9223372036854775807 by decide))) FF.nil))))), (hS7.sel [0, 1, 2, 3, 4] rfl rfl), (by omega), hL1⟩
 ·skip
  obtain rfl : k_ = 0 := by have h := of_decide_eq_false hlt; omega
  refine cw_exit rfl ?_
  obtain rfl := some_inj hL
  refine cw_seq ?_
  refine cw_seq ?_
  refine cw_region ?_
  refine sq 53 rfl rfl (Y_move (v := pt (aD b2) 0) rfl (hf.get 4 2 rfl)) ?_
  refine sq 54 rfl rfl (Y_nilCheck (B := aD b2) (i := 0) rfl rfl) ?_
  refine sq 55 rfl rfl (Y_fieldAddr (B := aD b2) (i := 0) (s := 0) k_fd_55_0_0_4 k_sz_4_1 rfl rfl) ?_
  refine sq 56 rfl rfl (Y_load1 (B := aD b2) (i := 0) (cs := [.bool bad]) (v := .bool bad) k_sc_4 rfl rfl (hS5.cf (i := 2) rfl) rfl) ?_
  refine rw_nil ?_
  refine cw_cond (b := bad) rfl (fun hb2 => ?_) (fun hb2 => ?_)
  ·skip
   have hF3 := ct hF1 hb2
   refine cw_seq ?_
   refine cw_region ?_
   refine sq 57 rfl rfl (Y_buildS (zs := [.slice none 0 0]) (vs := []) (cs := [.slice none 0 0]) k_pl_34 k_zero_34 rfl mpn rfl) ?_
   refine ss0 rfl rfl (Ys_store (i := 1) (s := 1) (B := aD b1) (T' := 34) (v := .agg #[.slice none 0 0]) (vs := [.slice none 0 0]) (k := 0) (cs' := [.slice none 0 0]) hS5 k_sz_34_1 rfl (hf.get 2 1 rfl) rfl rfl rfl rfl rfl (Nat.le_of_ble_eq_true rfl) rfl rfl) ?_
   rintro _ w_62 ⟨rfl, hS80⟩
   have hS80 : ST w0 [] _ [⟨aD b, 38, [vi m.Rows, vi m.Cols, .slice B m.Cells.length c], 3⟩, ⟨aD b1, 34, [.slice none 0 0], 1⟩, ⟨aD b2, 55, [.bool bad], 1⟩, ⟨aD b3, 34, [.slice B2 Cells.length c2], 1⟩, ⟨B2, 44, (Cells.flatMap eN0), c2 * 5⟩] [⟨B, (m.Cells.flatMap eN0)⟩] := hS80
   refine sq 3 rfl rfl (Y_assign (v := .bool false) rfl rfl) ?_
   refine rw_nil ?_
   refine cw_ret ?_
   have hS81 := hS80.addNil 44
   obtain ⟨rfl, rfl⟩ := pr2 (some_inj hF3)
   exact ret2 Tryd.results10 (v1 := .agg #[.slice none 0 0]) (resAt_cellA (B := aD b1) (i := 0) (cs := [.slice none 0 0]) (vs := [.slice none 0 0]) (hf.get 2 1 rfl) k_ag_34 k_sz_34_1 (hS81.cf (i := 1) rfl) rfl rfl) (v2 := .bool false) (resAt_tmp rfl) ⟨none, 0, rfl, (ST.subR (R' := []) (hS81.sel [5] rfl rfl) (fun _ h => by cases h))⟩
  ·skip
   have hF4 := cf' hF1 hb2
   refine cw_skip ?_
   refine cw_seq ?_
   refine cw_region ?_
   refine sq 58 rfl rfl (Y_loadA (B := aD b3) (i := 0) (cs := [.slice B2 Cells.length c2]) (vs := [.slice B2 Cells.length c2]) k_ag_34 k_sz_34_1 rfl (hf.get 5 3 rfl) (hS5.cf (i := 3) rfl) rfl rfl) ?_
   refine ss0 rfl rfl (Ys_store (i := 1) (s := 1) (B := aD b1) (T' := 34) (v := .agg #[.slice B2 Cells.length c2]) (vs := [.slice B2 Cells.length c2]) (k := 0) (cs' := [.slice B2 Cells.length c2]) hS5 k_sz_34_1 rfl (hf.get 2 1 rfl) rfl rfl rfl rfl rfl (Nat.le_of_ble_eq_true rfl) rfl rfl) ?_
   rintro _ w_63 ⟨rfl, hS82⟩
   have hS82 : ST w0 [] _ [⟨aD b, 38, [vi m.Rows, vi m.Cols, .slice B m.Cells.length c], 3⟩, ⟨aD b1, 34, [.slice B2 Cells.length c2], 1⟩, ⟨aD b2, 55, [.bool bad], 1⟩, ⟨aD b3, 34, [.slice B2 Cells.length c2], 1⟩, ⟨B2, 44, (Cells.flatMap eN0), c2 * 5⟩] [⟨B, (m.Cells.flatMap eN0)⟩] := hS82
   refine sq 3 rfl rfl (Y_assign (v := .bool true) rfl rfl) ?_
   refine rw_nil ?_
   refine cw_ret ?_
   obtain ⟨rfl, rfl⟩ := pr2 (some_inj hF4)
   exact ret2 Tryd.results10 (v1 := .agg #[.slice B2 Cells.length c2]) (resAt_cellA (B := aD b1) (i := 0) (cs := [.slice B2 Cells.length c2]) (vs := [.slice B2 Cells.length c2]) (hf.get 2 1 rfl) k_ag_34 k_sz_34_1 (hS82.cf (i := 1) rfl) rfl rfl) (v2 := .bool true) (resAt_tmp rfl) ⟨B2, c2, rfl, (ST.subR (R' := []) (hS82.sel [4] rfl rfl) (fun _ h => by cases h))⟩

theorem c_spec_l6Bit (n : Int) (k_ : Int) (q : Int)  (w0 : World)  (hS : ST w0 [] w0 [] []) {r_ : Int} (hF : F_spec_l6Bit n k_ q = some r_) :
  CV Tryd.prog 90 #[vi n, vi k_, vi q] w0 (fun v w' => v = vi r_ ∧ ST w0 [] w' [] []) := by
 unfold F_spec_l6Bit at hF
 refine cv_of_cw 15 Tryd.func90 rfl Tryd.ntmps90 rfl ?_
 refine cw_seq ?_
 refine cw_region ?_
 refine sq 6 rfl rfl (Y_assign (v := vi 0) rfl rfl) ?_
 refine rw_nil ?_
 refine cw_seq ?_
 refine cw_region ?_
 refine sq 7 rfl rfl (Y_move (v := vi k_) rfl rfl) ?_
 refine sq 8 rfl rfl (Y_move (v := vi n) rfl rfl) ?_
 refine sq 9 rfl rfl (Y_sub (k := .i64) (a := n) (b := 1) rfl rfl rfl) ?_
 refine sq 10 rfl rfl (Y_move (v := vi q) rfl rfl) ?_
 refine sq 11 rfl rfl (Y_sub (k := .i64) (a := (i64.wrap (n - 1))) (b := q) rfl rfl rfl) ?_
 refine sq 12 rfl rfl (Y_conv (k := .i64) (a := (i64.wrap ((i64.wrap (n - 1)) - q))) (T := 3) (T' := 77) k_us_3 k_int_77_u64 rfl rfl) ?_
 obtain ⟨hsh, hF⟩ := chk_inv hF
 refine sq 13 rfl rfl (Y_shr (k := .i64) (a := k_) (k' := .u64) (b := (IntKind.u64.wrap (i64.wrap ((i64.wrap (n - 1)) - q)))) rfl rfl rfl hsh) ?_
 refine sq 14 rfl rfl (Y_band (k := .i64) (a := (shrK .i64 k_ (IntKind.u64.wrap (i64.wrap ((i64.wrap (n - 1)) - q))))) (b := 1) rfl rfl rfl) ?_
 refine sq 6 rfl rfl (Y_assign (v := vi (bits .and .i64 (shrK .i64 k_ (IntKind.u64.wrap (i64.wrap ((i64.wrap (n - 1)) - q)))) 1)) rfl rfl) ?_
 refine rw_nil ?_
 refine cw_ret ?_
 obtain rfl := some_inj hF
 exact ret1 Tryd.results90 (v1 := vi (bits .and .i64 (shrK .i64 k_ (IntKind.u64.wrap (i64.wrap ((i64.wrap (n - 1)) - q)))) 1)) (resAt_tmp rfl) ⟨rfl, (ST.subR (R' := []) (hS.sel [] rfl rfl) (fun _ h => by cases h))⟩

theorem c_spec_l6Cell (n : Int) (g : TGate) (row : Int) (col : Int)  (w0 : World)  (hS : ST w0 [] w0 [] []) {r_ : TDyadic} (hF : F_spec_l6Cell n g row col = some r_) :
  CV Tryd.prog 81 #[vi n, .agg #[vi g.Kind, vi g.A, vi g.B], vi row, vi col] w0 (fun v w' => v = .agg #[vi r_.Num.A, vi r_.Num.B, vi r_.Num.C, vi r_.Num.D, vi r_.Exp] ∧ ST w0 [] w' [] []) := by
 unfold F_spec_l6Cell at hF
 refine cv_of_cw 119 Tryd.func81 rfl Tryd.ntmps81 rfl ?_
 refine cw_seq ?_
 refine cw_region ?_
 refine ss 5 rfl rfl (Ys_box (T := 64) (v := .agg #[vi g.Kind, vi g.A, vi g.B]) (cs := [vi g.Kind, vi g.A, vi g.B]) (m := 3) hS rfl rfl rfl rfl) ?_
 rintro _ w_ ⟨b, rfl, hS1⟩
 refine ss 8 rfl rfl (Ys_alloc (T := 44) (cs := [vi 0, vi 0, vi 0, vi 0, vi 0]) (m := 5) hS1 k_zero_44 rfl rfl rfl) ?_
 rintro _ w_1 ⟨b1, rfl, hS2⟩
 have hS2 : ST w0 [] _ [⟨aD b, 64, [vi g.Kind, vi g.A, vi g.B], 3⟩, ⟨aD b1, 44, [vi 0, vi 0, vi 0, vi 0, vi 0], 5⟩] [] := hS2
 refine rw_nil ?_
 refine cw_seq ?_
 refine cw_region ?_
 obtain ⟨r_1, hc, hF⟩ := bind_inv hF
 refine sc 12 rfl rfl (Yc_func (g := 57) (vs := [vi 0]) k_call_57 rfl (mc rfl mn) (c_spec_l2Power 0 _  (hS2.inn0 [] rfl) hc)) ?_
 rintro _ w_2 ⟨rfl, hd⟩
 have hS3 := hS2.out00 hd
 have hS3 : ST w0 [] _ [⟨aD b, 64, [vi g.Kind, vi g.A, vi g.B], 3⟩, ⟨aD b1, 44, [vi 0, vi 0, vi 0, vi 0, vi 0], 5⟩] [] := hS3
 refine sq 13 rfl rfl (Y_buildS (zs := [vi 0, vi 0, vi 0, vi 0, vi 0]) (vs := []) (cs := [vi 0, vi 0, vi 0, vi 0, vi 0]) k_pl_44 k_zero_44 rfl mpn rfl) ?_
 refine ss 9 rfl rfl (Ys_alloc (T := 44) (cs := [vi 0, vi 0, vi 0, vi 0, vi 0]) (m := 5) hS3 k_zero_44 rfl rfl rfl) ?_
 rintro _ w_3 ⟨b2, rfl, hS4⟩
 have hS4 : ST w0 [] _ [⟨aD b, 64, [vi g.Kind, vi g.A, vi g.B], 3⟩, ⟨aD b1, 44, [vi 0, vi 0, vi 0, vi 0, vi 0], 5⟩, ⟨aD b2, 44, [vi 0, vi 0, vi 0, vi 0, vi 0], 5⟩] [] := hS4
 refine ss 10 rfl rfl (Ys_alloc (T := 44) (cs := [vi 0, vi 0, vi 0, vi 0, vi 0]) (m := 5) hS4 k_zero_44 rfl rfl rfl) ?_
 rintro _ w_4 ⟨b3, rfl, hS5⟩
 have hS5 : ST w0 [] _ [⟨aD b, 64, [vi g.Kind, vi g.A, vi g.B], 3⟩, ⟨aD b1, 44, [vi 0, vi 0, vi 0, vi 0, vi 0], 5⟩, ⟨aD b2, 44, [vi 0, vi 0, vi 0, vi 0, vi 0], 5⟩, ⟨aD b3, 44, [vi 0, vi 0, vi 0, vi 0, vi 0], 5⟩] [] := hS5
 refine ss0 rfl rfl (Ys_store (i := 2) (s := 5) (B := aD b2) (T' := 44) (v := .agg #[vi r_1.Num.A, vi r_1.Num.B, vi r_1.Num.C, vi r_1.Num.D, vi r_1.Exp]) (vs := [vi r_1.Num.A, vi r_1.Num.B, vi r_1.Num.C, vi r_1.Num.D, vi r_1.Exp]) (k := 0) (cs' := [vi r_1.Num.A, vi r_1.Num.B, vi r_1.Num.C, vi r_1.Num.D, vi r_1.Exp]) hS5 k_sz_44_5 rfl rfl rfl rfl rfl rfl rfl (Nat.le_of_ble_eq_true rfl) rfl rfl) ?_
 rintro _ w_5 ⟨rfl, hS6⟩
 have hS6 : ST w0 [] _ [⟨aD b, 64, [vi g.Kind, vi g.A, vi g.B], 3⟩, ⟨aD b1, 44, [vi 0, vi 0, vi 0, vi 0, vi 0], 5⟩, ⟨aD b2, 44, [vi r_1.Num.A, vi r_1.Num.B, vi r_1.Num.C, vi r_1.Num.D, vi r_1.Exp], 5⟩, ⟨aD b3, 44, [vi 0, vi 0, vi 0, vi 0, vi 0], 5⟩] [] := hS6
 refine ss0 rfl rfl (Ys_store (i := 3) (s := 5) (B := aD b3) (T' := 44) (v := .agg #[vi 0, vi 0, vi 0, vi 0, vi 0]) (vs := [vi 0, vi 0, vi 0, vi 0, vi 0]) (k := 0) (cs' := [vi 0, vi 0, vi 0, vi 0, vi 0]) hS6 k_sz_44_5 rfl rfl rfl rfl rfl rfl rfl (Nat.le_of_ble_eq_true rfl) rfl rfl) ?_
 rintro _ w_6 ⟨rfl, hS7⟩
 have hS7 : ST w0 [] _ [⟨aD b, 64, [vi g.Kind, vi g.A, vi g.B], 3⟩, ⟨aD b1, 44, [vi 0, vi 0, vi 0, vi 0, vi 0], 5⟩, ⟨aD b2, 44, [vi r_1.Num.A, vi r_1.Num.B, vi r_1.Num.C, vi r_1.Num.D, vi r_1.Exp], 5⟩, ⟨aD b3, 44, [vi 0, vi 0, vi 0, vi 0, vi 0], 5⟩] [] := hS7
 refine rw_nil ?_
 refine cw_seq ?_
 refine cw_region ?_
 refine sq 14 rfl rfl (Y_move (v := vi col) rfl rfl) ?_
 refine sq 11 rfl rfl (Y_assign (v := vi col) rfl rfl) ?_
 refine rw_nil ?_
 refine cw_seq ?_
 obtain ⟨z, hz, hF1⟩ := bind_inv hF
 refine cw_mid (fun f w => ∃ (A : Int) (B : Int) (C : Int) (D : Int) (Exp : Int) (to_ : Int), .inl (A, B, C, D, Exp, to_) = z ∧ FF f [(2, vi row), (8, pt (aD b1) 0), (9, pt (aD b2) 0), (10, pt (aD b3) 0), (11, vi to_)] ∧ ST w0 [] w [⟨aD b1, 44, [vi 0, vi 0, vi 0, vi 0, vi 0], 5⟩, ⟨aD b2, 44, [vi A, vi B, vi C, vi D, vi Exp], 5⟩, ⟨aD b3, 44, [vi 0, vi 0, vi 0, vi 0, vi 0], 5⟩] []) ?_ ?_
 ·skip
  refine cw_seq ?_
  refine cw_region ?_
  refine sq 15 rfl rfl (Y_fieldAddr (B := aD b) (i := 0) (s := 0) k_fd_64_0_0_3 k_sz_3_1 rfl rfl) ?_
  refine sq 16 rfl rfl (Y_load1 (B := aD b) (i := 0) (cs := [vi g.Kind, vi g.A, vi g.B]) (v := vi g.Kind) k_sc_3 rfl rfl (hS7.cf (i := 0) rfl) rfl) ?_
  refine rw_nil ?_
  refine cw_block ?_
  refine cw_seq ?_
  refine cw_region ?_
  refine sq 48 rfl rfl (Y_eq (k := .i64) (a := g.Kind) (b := 12) rfl rfl rfl) ?_
  refine sq 47 rfl rfl (Y_assign (v := .bool (g.Kind == 12)) rfl rfl) ?_
  refine rw_nil ?_
  refine cw_cond (b := (g.Kind == 12)) rfl (fun hb => ?_) (fun hb => ?_)
  ·skip
   have hF2 := ct hz hb
   refine cw_region ?_
   obtain ⟨r_2, hc1, hF2⟩ := bind_inv hF2
   refine sc 49 rfl rfl (Yc_func (g := 57) (vs := [vi 1]) k_call_57 rfl (mc rfl mn) (c_spec_l2Power 1 _  (hS7.inn0 [] rfl) hc1)) ?_
   rintro _ w_7 ⟨rfl, hd1⟩
   have hS9 := hS7.out00 hd1
   have hS9 : ST w0 [] _ [⟨aD b, 64, [vi g.Kind, vi g.A, vi g.B], 3⟩, ⟨aD b1, 44, [vi 0, vi 0, vi 0, vi 0, vi 0], 5⟩, ⟨aD b2, 44, [vi r_1.Num.A, vi r_1.Num.B, vi r_1.Num.C, vi r_1.Num.D, vi r_1.Exp], 5⟩, ⟨aD b3, 44, [vi 0, vi 0, vi 0, vi 0, vi 0], 5⟩] [] := hS9
   refine ss0 rfl rfl (Ys_store (i := 2) (s := 5) (B := aD b2) (T' := 44) (v := .agg #[vi r_2.Num.A, vi r_2.Num.B, vi r_2.Num.C, vi r_2.Num.D, vi r_2.Exp]) (vs := [vi r_2.Num.A, vi r_2.Num.B, vi r_2.Num.C, vi r_2.Num.D, vi r_2.Exp]) (k := 0) (cs' := [vi r_2.Num.A, vi r_2.Num.B, vi r_2.Num.C, vi r_2.Num.D, vi r_2.Exp]) hS9 k_sz_44_5 rfl rfl rfl rfl rfl rfl rfl (Nat.le_of_ble_eq_true rfl) rfl rfl) ?_
   rintro _ w_8 ⟨rfl, hS10⟩
   have hS10 : ST w0 [] _ [⟨aD b, 64, [vi g.Kind, vi g.A, vi g.B], 3⟩, ⟨aD b1, 44, [vi 0, vi 0, vi 0, vi 0, vi 0], 5⟩, ⟨aD b2, 44, [vi r_2.Num.A, vi r_2.Num.B, vi r_2.Num.C, vi r_2.Num.D, vi r_2.Exp], 5⟩, ⟨aD b3, 44, [vi 0, vi 0, vi 0, vi 0, vi 0], 5⟩] [] := hS10
   refine rw_nil ?_
   exact ⟨r_2.Num.A, r_2.Num.B, r_2.Num.C, r_2.Num.D, r_2.Exp, col, (some_inj hF2), (FF.cons rfl (FF.cons rfl (FF.cons rfl (FF.cons rfl (FF.cons rfl FF.nil))))), (hS10.sel [1, 2, 3] rfl rfl)⟩
  ·skip
   have hF3 := cf' hz hb
   refine cw_seq ?_
   refine cw_region ?_
   refine sq 51 rfl rfl (Y_eq (k := .i64) (a := g.Kind) (b := 9) rfl rfl rfl) ?_
   refine sq 50 rfl rfl (Y_assign (v := .bool (g.Kind == 9)) rfl rfl) ?_
   refine rw_nil ?_
   refine cw_cond (b := (g.Kind == 9)) rfl (fun hb1 => ?_) (fun hb1 => ?_)
   ·skip
    have hF4 := ct hF3 hb1
    refine cw_seq ?_
    refine cw_region ?_
    refine sq 52 rfl rfl (Y_move (v := vi n) rfl rfl) ?_
    refine sq 53 rfl rfl (Y_move (v := vi col) rfl rfl) ?_
    refine sq 54 rfl rfl (Y_fieldAddr (B := aD b) (i := 0) (s := 0) k_fd_64_1_1_3 k_sz_3_1 rfl rfl) ?_
    refine sq 55 rfl rfl (Y_load1 (B := aD b) (i := 1) (cs := [vi g.Kind, vi g.A, vi g.B]) (v := vi g.A) k_sc_3 rfl rfl (hS7.cf (i := 0) rfl) rfl) ?_
    obtain ⟨r_3, hc2, hF4⟩ := bind_inv hF4
    refine sc 56 rfl rfl (Yc_func (g := 90) (vs := [vi n, vi col, vi g.A]) k_call_90 rfl (mc rfl (mc rfl (mc rfl mn))) (c_spec_l6Bit n col g.A _  (hS7.inn0 [] rfl) hc2)) ?_
    rintro _ w_9 ⟨rfl, hd2⟩
    have hS11 := hS7.out00 hd2
    have hS11 : ST w0 [] _ [⟨aD b, 64, [vi g.Kind, vi g.A, vi g.B], 3⟩, ⟨aD b1, 44, [vi 0, vi 0, vi 0, vi 0, vi 0], 5⟩, ⟨aD b2, 44, [vi r_1.Num.A, vi r_1.Num.B, vi r_1.Num.C, vi r_1.Num.D, vi r_1.Exp], 5⟩, ⟨aD b3, 44, [vi 0, vi 0, vi 0, vi 0, vi 0], 5⟩] [] := hS11
    refine sq 57 rfl rfl (Y_eq (k := .i64) (a := r_3) (b := 1) rfl rfl rfl) ?_
    refine rw_nil ?_
    refine cw_cond (b := (r_3 == 1)) rfl (fun hb2 => ?_) (fun hb2 => ?_)
    ·skip
     have hF5 := ct hF4 hb2
     refine cw_region ?_
     refine sq 58 rfl rfl (Y_move (v := vi col) rfl rfl) ?_
     refine sq 59 rfl rfl (Y_move (v := vi n) rfl rfl) ?_
     refine sq 60 rfl rfl (Y_sub (k := .i64) (a := n) (b := 1) rfl rfl rfl) ?_
     refine sq 61 rfl rfl (Y_fieldAddr (B := aD b) (i := 0) (s := 0) k_fd_64_2_2_3 k_sz_3_1 rfl rfl) ?_
     refine sq 62 rfl rfl (Y_load1 (B := aD b) (i := 2) (cs := [vi g.Kind, vi g.A, vi g.B]) (v := vi g.B) k_sc_3 rfl rfl (hS11.cf (i := 0) rfl) rfl) ?_
     refine sq 63 rfl rfl (Y_sub (k := .i64) (a := (i64.wrap (n - 1))) (b := g.B) rfl rfl rfl) ?_
     refine sq 64 rfl rfl (Y_conv (k := .i64) (a := (i64.wrap ((i64.wrap (n - 1)) - g.B))) (T := 3) (T' := 77) k_us_3 k_int_77_u64 rfl rfl) ?_
     obtain ⟨hsh, hF5⟩ := chk_inv hF5
     refine sq 65 rfl rfl (Y_shl (k := .i64) (a := 1) (k' := .u64) (b := (IntKind.u64.wrap (i64.wrap ((i64.wrap (n - 1)) - g.B)))) rfl rfl rfl hsh) ?_
     refine sq 66 rfl rfl (Y_bxor (k := .i64) (a := col) (b := (shlK .i64 1 (IntKind.u64.wrap (i64.wrap ((i64.wrap (n - 1)) - g.B))))) rfl rfl rfl) ?_
     refine sq 11 rfl rfl (Y_assign (v := vi (bits .xor .i64 col (shlK .i64 1 (IntKind.u64.wrap (i64.wrap ((i64.wrap (n - 1)) - g.B)))))) rfl rfl) ?_
     refine rw_nil ?_
     exact ⟨r_1.Num.A, r_1.Num.B, r_1.Num.C, r_1.Num.D, r_1.Exp, (bits .xor .i64 col (shlK .i64 1 (IntKind.u64.wrap (i64.wrap ((i64.wrap (n - 1)) - g.B))))), (some_inj hF5), (FF.cons rfl (FF.cons rfl (FF.cons rfl (FF.cons rfl (FF.cons rfl FF.nil))))), (hS11.sel [1, 2, 3] rfl rfl)⟩
    ·skip
     have hF6 := cf' hF4 hb2
     refine cw_skip ?_
     exact ⟨r_1.Num.A, r_1.Num.B, r_1.Num.C, r_1.Num.D, r_1.Exp, col, (some_inj hF6), (FF.cons rfl (FF.cons rfl (FF.cons rfl (FF.cons rfl (FF.cons rfl FF.nil))))), (hS11.sel [1, 2, 3] rfl rfl)⟩
   ·skip
    have hF7 := cf' hF3 hb1
    refine cw_seq ?_
    refine cw_region ?_
    refine sq 68 rfl rfl (Y_eq (k := .i64) (a := g.Kind) (b := 10) rfl rfl rfl) ?_
    refine sq 67 rfl rfl (Y_assign (v := .bool (g.Kind == 10)) rfl rfl) ?_
    refine rw_nil ?_
    refine cw_cond (b := (g.Kind == 10)) rfl (fun hb3 => ?_) (fun hb3 => ?_)
    ·skip
     have hF8 := ct hF7 hb3
     refine cw_seq ?_
     refine cw_region ?_
     refine sq 69 rfl rfl (Y_move (v := vi n) rfl rfl) ?_
     refine sq 70 rfl rfl (Y_move (v := vi col) rfl rfl) ?_
     refine sq 71 rfl rfl (Y_fieldAddr (B := aD b) (i := 0) (s := 0) k_fd_64_1_1_3 k_sz_3_1 rfl rfl) ?_
     refine sq 72 rfl rfl (Y_load1 (B := aD b) (i := 1) (cs := [vi g.Kind, vi g.A, vi g.B]) (v := vi g.A) k_sc_3 rfl rfl (hS7.cf (i := 0) rfl) rfl) ?_
     obtain ⟨r_4, hc3, hF8⟩ := bind_inv hF8
     refine sc 73 rfl rfl (Yc_func (g := 90) (vs := [vi n, vi col, vi g.A]) k_call_90 rfl (mc rfl (mc rfl (mc rfl mn))) (c_spec_l6Bit n col g.A _  (hS7.inn0 [] rfl) hc3)) ?_
     rintro _ w_10 ⟨rfl, hd3⟩
     have hS12 := hS7.out00 hd3
     have hS12 : ST w0 [] _ [⟨aD b, 64, [vi g.Kind, vi g.A, vi g.B], 3⟩, ⟨aD b1, 44, [vi 0, vi 0, vi 0, vi 0, vi 0], 5⟩, ⟨aD b2, 44, [vi r_1.Num.A, vi r_1.Num.B, vi r_1.Num.C, vi r_1.Num.D, vi r_1.Exp], 5⟩, ⟨aD b3, 44, [vi 0, vi 0, vi 0, vi 0, vi 0], 5⟩] [] := hS12
     refine sq 74 rfl rfl (Y_eq (k := .i64) (a := r_4) (b := 1) rfl rfl rfl) ?_
     refine sq 75 rfl rfl (Y_move (v := .bool (r_4 == 1)) rfl rfl) ?_
     refine sgq 76 (B := (r_4 == 1)) (v := vi n) rfl rfl (wt_t (gd_of (t := 75) (by kernel_rfl) rfl)) (fun hg => (Y_move (v := vi n) rfl rfl)) ?_
     refine sgq 77 (B := (r_4 == 1)) (v := vi col) rfl rfl (wt_t (gd_of (t := 75) (by kernel_rfl) rfl)) (fun hg1 => (Y_move (v := vi col) rfl rfl)) ?_
     refine sgq 78 (B := (r_4 == 1)) (v := pt (aD b) 2) rfl rfl (wt_t (gd_of (t := 75) (by kernel_rfl) rfl)) (fun hg2 => (Y_fieldAddr (B := aD b) (i := 0) (s := 0) k_fd_64_2_2_3 k_sz_3_1 rfl rfl)) ?_
     refine sgq 79 (B := (r_4 == 1)) (v := vi g.B) rfl rfl (wt_t (gd_of (t := 75) (by kernel_rfl) rfl)) (fun hg3 => (Y_load1 (B := aD b) (i := 2) (cs := [vi g.Kind, vi g.A, vi g.B]) (v := vi g.B) k_sc_3 rfl (gv_of (B := (r_4 == 1)) (v := pt (aD b) 2) hg3) (hS12.cf (i := 0) rfl) rfl)) ?_
     obtain ⟨r_5, hc4, hF8⟩ := bind_inv hF8
     refine sgc 80 (B := (r_4 == 1)) (v := vi r_5) (F := hS12.fn) rfl rfl (wt_t (gd_of (t := 75) (by kernel_rfl) rfl)) hS12 (fun hg4 => (Yc_func (g := 90) (vs := [vi n, vi col, vi g.B]) k_call_90 rfl (mc (gv_of (B := (r_4 == 1)) (v := vi n) hg4) (mc (gv_of (B := (r_4 == 1)) (v := vi col) hg4) (mc (gv_of (B := (r_4 == 1)) (v := vi g.B) hg4) mn))) (CV.mono (c_spec_l6Bit n col g.B _  (hS12.inn0 [] rfl) (gb_inv hc4 hg4)) (by rintro _ _ ⟨rfl, h⟩; exact ⟨rfl, hS12.out00 h⟩)))) ?_
     rintro w_11 hS13
     have hS13 : ST _ _ w_11 _ _ := hS13
     refine sgq 81 (B := (r_4 == 1)) (v := .bool (r_5 == 1)) rfl rfl (wt_t (gd_of (t := 75) (by kernel_rfl) rfl)) (fun hg5 => (Y_eq (k := .i64) (a := r_5) (b := 1) rfl (gv_of (B := (r_4 == 1)) (v := vi r_5) hg5) rfl)) ?_
     refine sq 82 rfl rfl (Y_and (b := (r_4 == 1)) (z := (r_5 == 1)) rfl rfl rfl rfl) ?_
     refine rw_nil ?_
     refine cw_cond (b := ((r_4 == 1) && (r_5 == 1))) rfl (fun hb4 => ?_) (fun hb4 => ?_)
     ·skip
      have hF9 := ct hF8 hb4
      refine cw_region ?_
      obtain ⟨r_6, hc5, hF9⟩ := bind_inv hF9
      refine sc 83 rfl rfl (Yc_func (g := 57) (vs := [vi 4]) k_call_57 rfl (mc rfl mn) (c_spec_l2Power 4 _  (hS13.inn0 [] rfl) hc5)) ?_
      rintro _ w_12 ⟨rfl, hd4⟩
      have hS14 := hS13.out00 hd4
      have hS14 : ST w0 [] _ [⟨aD b, 64, [vi g.Kind, vi g.A, vi g.B], 3⟩, ⟨aD b1, 44, [vi 0, vi 0, vi 0, vi 0, vi 0], 5⟩, ⟨aD b2, 44, [vi r_1.Num.A, vi r_1.Num.B, vi r_1.Num.C, vi r_1.Num.D, vi r_1.Exp], 5⟩, ⟨aD b3, 44, [vi 0, vi 0, vi 0, vi 0, vi 0], 5⟩] [] := hS14
      refine ss0 rfl rfl (Ys_store (i := 2) (s := 5) (B := aD b2) (T' := 44) (v := .agg #[vi r_6.Num.A, vi r_6.Num.B, vi r_6.Num.C, vi r_6.Num.D, vi r_6.Exp]) (vs := [vi r_6.Num.A, vi r_6.Num.B, vi r_6.Num.C, vi r_6.Num.D, vi r_6.Exp]) (k := 0) (cs' := [vi r_6.Num.A, vi r_6.Num.B, vi r_6.Num.C, vi r_6.Num.D, vi r_6.Exp]) hS14 k_sz_44_5 rfl rfl rfl rfl rfl rfl rfl (Nat.le_of_ble_eq_true rfl) rfl rfl) ?_
      rintro _ w_13 ⟨rfl, hS15⟩
      have hS15 : ST w0 [] _ [⟨aD b, 64, [vi g.Kind, vi g.A, vi g.B], 3⟩, ⟨aD b1, 44, [vi 0, vi 0, vi 0, vi 0, vi 0], 5⟩, ⟨aD b2, 44, [vi r_6.Num.A, vi r_6.Num.B, vi r_6.Num.C, vi r_6.Num.D, vi r_6.Exp], 5⟩, ⟨aD b3, 44, [vi 0, vi 0, vi 0, vi 0, vi 0], 5⟩] [] := hS15
      refine rw_nil ?_
      exact ⟨r_6.Num.A, r_6.Num.B, r_6.Num.C, r_6.Num.D, r_6.Exp, col, (some_inj hF9), (FF.cons rfl (FF.cons rfl (FF.cons rfl (FF.cons rfl (FF.cons rfl FF.nil))))), (hS15.sel [1, 2, 3] rfl rfl)⟩
     ·skip
      have hF10 := cf' hF8 hb4
      refine cw_skip ?_
      exact ⟨r_1.Num.A, r_1.Num.B, r_1.Num.C, r_1.Num.D, r_1.Exp, col, (some_inj hF10), (FF.cons rfl (FF.cons rfl (FF.cons rfl (FF.cons rfl (FF.cons rfl FF.nil))))), (hS13.sel [1, 2, 3] rfl rfl)⟩
    ·skip
     have hF11 := cf' hF7 hb3
     refine cw_seq ?_
     refine cw_region ?_
     refine sq 85 rfl rfl (Y_eq (k := .i64) (a := g.Kind) (b := 11) rfl rfl rfl) ?_
     refine sq 84 rfl rfl (Y_assign (v := .bool (g.Kind == 11)) rfl rfl) ?_
     refine rw_nil ?_
     refine cw_cond (b := (g.Kind == 11)) rfl (fun hb5 => ?_) (fun hb5 => ?_)
     ·skip
      have hF12 := ct hF11 hb5
      refine cw_seq ?_
      obtain ⟨r_7, hc6, hF12⟩ := bind_inv hF12
      obtain ⟨r_8, hc7, hF12⟩ := bind_inv hF12
      refine ra_start (ST.sel hS7 [0, 1, 2, 3] rfl rfl).fn (by kernel_rfl) ?_
      have hS18 := hS7.drew
      refine ra_q 0 86 (v := vi n) rfl rfl rfl (by kernel_rfl) (by kernel_rfl) (by kernel_rfl) (ST.sel hS18 [0, 1, 2, 3] rfl rfl) (fun w' hw' => (Y_move (v := vi n) rfl rfl)) ?_
      refine ra_q 1 87 (v := vi col) rfl rfl rfl (by kernel_rfl) (by kernel_rfl) (by kernel_rfl) (ST.sel hS18 [0, 1, 2, 3] rfl rfl) (fun w' hw' => (Y_move (v := vi col) rfl rfl)) ?_
      refine ra_q 2 88 (v := pt (aD b) 1) rfl rfl rfl (by kernel_rfl) (by kernel_rfl) (by kernel_rfl) (ST.sel hS18 [0, 1, 2, 3] rfl rfl) (fun w' hw' => (Y_fieldAddr (B := aD b) (i := 0) (s := 0) k_fd_64_1_1_3 k_sz_3_1 rfl rfl)) ?_
      refine ra_q 3 89 (v := vi g.A) rfl rfl rfl (by kernel_rfl) (by kernel_rfl) (by kernel_rfl) (ST.sel hS18 [0, 1, 2, 3] rfl rfl) (fun w' hw' => (Y_load1 (B := aD b) (i := 1) (cs := [vi g.Kind, vi g.A, vi g.B]) (v := vi g.A) k_sc_3 rfl rfl (ST.cf hw' (i := 0) rfl) rfl)) ?_
      refine ra_q 5 91 (v := vi n) rfl rfl rfl (by kernel_rfl) (by kernel_rfl) (by kernel_rfl) (ST.sel hS18 [0, 1, 2, 3] rfl rfl) (fun w' hw' => (Y_move (v := vi n) rfl rfl)) ?_
      refine ra_q 6 92 (v := vi col) rfl rfl rfl (by kernel_rfl) (by kernel_rfl) (by kernel_rfl) (ST.sel hS18 [0, 1, 2, 3] rfl rfl) (fun w' hw' => (Y_move (v := vi col) rfl rfl)) ?_
      refine ra_q 7 93 (v := pt (aD b) 2) rfl rfl rfl (by kernel_rfl) (by kernel_rfl) (by kernel_rfl) (ST.sel hS18 [0, 1, 2, 3] rfl rfl) (fun w' hw' => (Y_fieldAddr (B := aD b) (i := 0) (s := 0) k_fd_64_2_2_3 k_sz_3_1 rfl rfl)) ?_
      refine ra_q 8 94 (v := vi g.B) rfl rfl rfl (by kernel_rfl) (by kernel_rfl) (by kernel_rfl) (ST.sel hS18 [0, 1, 2, 3] rfl rfl) (fun w' hw' => (Y_load1 (B := aD b) (i := 2) (cs := [vi g.Kind, vi g.A, vi g.B]) (v := vi g.B) k_sc_3 rfl rfl (ST.cf hw' (i := 0) rfl) rfl)) ?_
      refine ra_all (rs := [4]) (by kernel_rfl) rfl ?_
      refine ra_c 90 (i := 4) rfl rfl rfl (Yc_func (g := 90) (vs := [vi n, vi col, vi g.A]) k_call_90 rfl (mc rfl (mc rfl (mc rfl mn))) (c_spec_l6Bit n col g.A _  (hS18.inn0 [] rfl) hc6)) ?_ ?_
      ·rintro _ w_14 ⟨rfl, hd5⟩
       have hS19 := hS18.out00 hd5
       have hS19 : ST w0 [] _ [⟨aD b, 64, [vi g.Kind, vi g.A, vi g.B], 3⟩, ⟨aD b1, 44, [vi 0, vi 0, vi 0, vi 0, vi 0], 5⟩, ⟨aD b2, 44, [vi r_1.Num.A, vi r_1.Num.B, vi r_1.Num.C, vi r_1.Num.D, vi r_1.Exp], 5⟩, ⟨aD b3, 44, [vi 0, vi 0, vi 0, vi 0, vi 0], 5⟩] [] := hS19
       refine ⟨(ST.sel hS19 [0, 1, 2, 3] rfl rfl), ?_⟩
       refine ra_all (rs := [9]) (by kernel_rfl) rfl ?_
       refine ra_c 95 (i := 9) rfl rfl rfl (Yc_func (g := 90) (vs := [vi n, vi col, vi g.B]) k_call_90 rfl (mc rfl (mc rfl (mc rfl mn))) (c_spec_l6Bit n col g.B _  (hS19.inn0 [] rfl) hc7)) ?_ ?_
       ·rintro _ w_15 ⟨rfl, hd6⟩
        have hS20 := hS19.out00 hd6
        have hS20 : ST w0 [] _ [⟨aD b, 64, [vi g.Kind, vi g.A, vi g.B], 3⟩, ⟨aD b1, 44, [vi 0, vi 0, vi 0, vi 0, vi 0], 5⟩, ⟨aD b2, 44, [vi r_1.Num.A, vi r_1.Num.B, vi r_1.Num.C, vi r_1.Num.D, vi r_1.Exp], 5⟩, ⟨aD b3, 44, [vi 0, vi 0, vi 0, vi 0, vi 0], 5⟩] [] := hS20
        refine ⟨(ST.sel hS20 [0, 1, 2, 3] rfl rfl), ?_⟩
        refine ra_q 10 96 (v := .bool (r_7 != r_8)) rfl rfl rfl (by kernel_rfl) (by kernel_rfl) (by kernel_rfl) (ST.sel hS20 [0, 1, 2, 3] rfl rfl) (fun w' hw' => (Y_ne (k := .i64) (a := r_7) (b := r_8) rfl rfl rfl)) ?_
        refine ra_done (by kernel_rfl) ?_
        refine cw_cond (b := (r_7 != r_8)) rfl (fun hb6 => ?_) (fun hb6 => ?_)
        ·skip
         have hF13 := ct hF12 hb6
         refine cw_region ?_
         refine sq 97 rfl rfl (Y_move (v := vi col) rfl rfl) ?_
         refine sq 98 rfl rfl (Y_move (v := vi n) rfl rfl) ?_
         refine sq 99 rfl rfl (Y_sub (k := .i64) (a := n) (b := 1) rfl rfl rfl) ?_
         refine sq 100 rfl rfl (Y_fieldAddr (B := aD b) (i := 0) (s := 0) k_fd_64_1_1_3 k_sz_3_1 rfl rfl) ?_
         refine sq 101 rfl rfl (Y_load1 (B := aD b) (i := 1) (cs := [vi g.Kind, vi g.A, vi g.B]) (v := vi g.A) k_sc_3 rfl rfl (hS20.cf (i := 0) rfl) rfl) ?_
         refine sq 102 rfl rfl (Y_sub (k := .i64) (a := (i64.wrap (n - 1))) (b := g.A) rfl rfl rfl) ?_
         refine sq 103 rfl rfl (Y_conv (k := .i64) (a := (i64.wrap ((i64.wrap (n - 1)) - g.A))) (T := 3) (T' := 77) k_us_3 k_int_77_u64 rfl rfl) ?_
         obtain ⟨hsh1, hF13⟩ := chk_inv hF13
         refine sq 104 rfl rfl (Y_shl (k := .i64) (a := 1) (k' := .u64) (b := (IntKind.u64.wrap (i64.wrap ((i64.wrap (n - 1)) - g.A)))) rfl rfl rfl hsh1) ?_
         refine sq 105 rfl rfl (Y_bxor (k := .i64) (a := col) (b := (shlK .i64 1 (IntKind.u64.wrap (i64.wrap ((i64.wrap (n - 1)) - g.A))))) rfl rfl rfl) ?_
         refine sq 106 rfl rfl (Y_move (v := vi n) rfl rfl) ?_
         refine sq 107 rfl rfl (Y_sub (k := .i64) (a := n) (b := 1) rfl rfl rfl) ?_
         refine sq 108 rfl rfl (Y_fieldAddr (B := aD b) (i := 0) (s := 0) k_fd_64_2_2_3 k_sz_3_1 rfl rfl) ?_
         refine sq 109 rfl rfl (Y_load1 (B := aD b) (i := 2) (cs := [vi g.Kind, vi g.A, vi g.B]) (v := vi g.B) k_sc_3 rfl rfl (hS20.cf (i := 0) rfl) rfl) ?_
         refine sq 110 rfl rfl (Y_sub (k := .i64) (a := (i64.wrap (n - 1))) (b := g.B) rfl rfl rfl) ?_
         refine sq 111 rfl rfl (Y_conv (k := .i64) (a := (i64.wrap ((i64.wrap (n - 1)) - g.B))) (T := 3) (T' := 77) k_us_3 k_int_77_u64 rfl rfl) ?_
         obtain ⟨hsh2, hF13⟩ := chk_inv hF13
         refine sq 112 rfl rfl (Y_shl (k := .i64) (a := 1) (k' := .u64) (b := (IntKind.u64.wrap (i64.wrap ((i64.wrap (n - 1)) - g.B)))) rfl rfl rfl hsh2) ?_
         refine sq 113 rfl rfl (Y_bxor (k := .i64) (a := (bits .xor .i64 col (shlK .i64 1 (IntKind.u64.wrap (i64.wrap ((i64.wrap (n - 1)) - g.A)))))) (b := (shlK .i64 1 (IntKind.u64.wrap (i64.wrap ((i64.wrap (n - 1)) - g.B))))) rfl rfl rfl) ?_
         refine sq 11 rfl rfl (Y_assign (v := vi (bits .xor .i64 (bits .xor .i64 col (shlK .i64 1 (IntKind.u64.wrap (i64.wrap ((i64.wrap (n - 1)) - g.A))))) (shlK .i64 1 (IntKind.u64.wrap (i64.wrap ((i64.wrap (n - 1)) - g.B)))))) rfl rfl) ?_
         refine rw_nil ?_
         exact ⟨r_1.Num.A, r_1.Num.B, r_1.Num.C, r_1.Num.D, r_1.Exp, (bits .xor .i64 (bits .xor .i64 col (shlK .i64 1 (IntKind.u64.wrap (i64.wrap ((i64.wrap (n - 1)) - g.A))))) (shlK .i64 1 (IntKind.u64.wrap (i64.wrap ((i64.wrap (n - 1)) - g.B))))), (some_inj hF13), (FF.cons rfl (FF.cons rfl (FF.cons rfl (FF.cons rfl (FF.cons rfl FF.nil))))), (hS20.sel [1, 2, 3] rfl rfl)⟩
        ·skip
         have hF14 := cf' hF12 hb6
         refine cw_skip ?_
         exact ⟨r_1.Num.A, r_1.Num.B, r_1.Num.C, r_1.Num.D, r_1.Exp, col, (some_inj hF14), (FF.cons rfl (FF.cons rfl (FF.cons rfl (FF.cons rfl (FF.cons rfl FF.nil))))), (hS20.sel [1, 2, 3] rfl rfl)⟩
       exact allR_nil
      exact allR_nil
     ·skip
      have hF15 := cf' hF11 hb5
      refine cw_seq ?_
      refine cw_seq ?_
      refine cw_region ?_
      refine sq 17 rfl rfl (Y_move (v := vi row) rfl rfl) ?_
      refine sq 18 rfl rfl (Y_move (v := vi col) rfl rfl) ?_
      refine sq 19 rfl rfl (Y_bxor (k := .i64) (a := row) (b := col) rfl rfl rfl) ?_
      refine sq 20 rfl rfl (Y_move (v := vi n) rfl rfl) ?_
      refine sq 21 rfl rfl (Y_sub (k := .i64) (a := n) (b := 1) rfl rfl rfl) ?_
      refine sq 22 rfl rfl (Y_fieldAddr (B := aD b) (i := 0) (s := 0) k_fd_64_1_1_3 k_sz_3_1 rfl rfl) ?_
      refine sq 23 rfl rfl (Y_load1 (B := aD b) (i := 1) (cs := [vi g.Kind, vi g.A, vi g.B]) (v := vi g.A) k_sc_3 rfl rfl (hS7.cf (i := 0) rfl) rfl) ?_
      refine sq 24 rfl rfl (Y_sub (k := .i64) (a := (i64.wrap (n - 1))) (b := g.A) rfl rfl rfl) ?_
      refine sq 25 rfl rfl (Y_conv (k := .i64) (a := (i64.wrap ((i64.wrap (n - 1)) - g.A))) (T := 3) (T' := 77) k_us_3 k_int_77_u64 rfl rfl) ?_
      obtain ⟨hsh3, hF15⟩ := chk_inv hF15
      refine sq 26 rfl rfl (Y_shl (k := .i64) (a := 1) (k' := .u64) (b := (IntKind.u64.wrap (i64.wrap ((i64.wrap (n - 1)) - g.A)))) rfl rfl rfl hsh3) ?_
      refine sq 27 rfl rfl (Y_bandNot (k := .i64) (a := (bits .xor .i64 row col)) (b := (shlK .i64 1 (IntKind.u64.wrap (i64.wrap ((i64.wrap (n - 1)) - g.A))))) rfl rfl rfl) ?_
      refine sq 28 rfl rfl (Y_ne (k := .i64) (a := (bits .andNot .i64 (bits .xor .i64 row col) (shlK .i64 1 (IntKind.u64.wrap (i64.wrap ((i64.wrap (n - 1)) - g.A)))))) (b := 0) rfl rfl rfl) ?_
      refine rw_nil ?_
      refine cw_cond (b := ((bits .andNot .i64 (bits .xor .i64 row col) (shlK .i64 1 (IntKind.u64.wrap (i64.wrap ((i64.wrap (n - 1)) - g.A))))) != 0)) rfl (fun hb7 => ?_) (fun hb7 => ?_)
      ·skip
       have hF16 := ct hF15 hb7
       refine cw_seq ?_
       refine cw_region ?_
       refine sq 29 rfl rfl (Y_loadA (B := aD b3) (i := 0) (cs := [vi 0, vi 0, vi 0, vi 0, vi 0]) (vs := [vi 0, vi 0, vi 0, vi 0, vi 0]) k_ag_44 k_sz_44_5 rfl rfl (hS7.cf (i := 3) rfl) rfl rfl) ?_
       refine ss0 rfl rfl (Ys_store (i := 1) (s := 5) (B := aD b1) (T' := 44) (v := .agg #[vi 0, vi 0, vi 0, vi 0, vi 0]) (vs := [vi 0, vi 0, vi 0, vi 0, vi 0]) (k := 0) (cs' := [vi 0, vi 0, vi 0, vi 0, vi 0]) hS7 k_sz_44_5 rfl rfl rfl rfl rfl rfl rfl (Nat.le_of_ble_eq_true rfl) rfl rfl) ?_
       rintro _ w_16 ⟨rfl, hS21⟩
       have hS21 : ST w0 [] _ [⟨aD b, 64, [vi g.Kind, vi g.A, vi g.B], 3⟩, ⟨aD b1, 44, [vi 0, vi 0, vi 0, vi 0, vi 0], 5⟩, ⟨aD b2, 44, [vi r_1.Num.A, vi r_1.Num.B, vi r_1.Num.C, vi r_1.Num.D, vi r_1.Exp], 5⟩, ⟨aD b3, 44, [vi 0, vi 0, vi 0, vi 0, vi 0], 5⟩] [] := hS21
       refine rw_nil ?_
       refine cw_ret ?_
       obtain rfl := some_inj hF16
       obtain rfl := some_inj hF1
       exact ret1 Tryd.results81 (v1 := .agg #[vi 0, vi 0, vi 0, vi 0, vi 0]) (resAt_cellA (B := aD b1) (i := 0) (cs := [vi 0, vi 0, vi 0, vi 0, vi 0]) (vs := [vi 0, vi 0, vi 0, vi 0, vi 0]) rfl k_ag_44 k_sz_44_5 (hS21.cf (i := 1) rfl) rfl rfl) ⟨rfl, (ST.subR (R' := []) (hS21.sel [] rfl rfl) (fun _ h => by cases h))⟩
      ·skip
       have hF17 := cf' hF15 hb7
       refine cw_skip ?_
       refine cw_seq ?_
       obtain ⟨r_9, hc8, hF17⟩ := bind_inv hF17
       obtain ⟨r_10, hc9, hF17⟩ := bind_inv hF17
       obtain ⟨r_11, hc10, hF17⟩ := bind_inv hF17
       obtain ⟨x, hx, hF17⟩ := bind_inv hF17
       refine ra_start (ST.sel hS7 [0, 2, 3] rfl rfl).fn (by kernel_rfl) ?_
       have hS25 := hS7.drew
       refine ra_q 0 30 (v := pt (aD b) 0) rfl rfl rfl (by kernel_rfl) (by kernel_rfl) (by kernel_rfl) (ST.sel hS25 [0, 2, 3] rfl rfl) (fun w' hw' => (Y_fieldAddr (B := aD b) (i := 0) (s := 0) k_fd_64_0_0_3 k_sz_3_1 rfl rfl)) ?_
       refine ra_q 1 31 (v := vi g.Kind) rfl rfl rfl (by kernel_rfl) (by kernel_rfl) (by kernel_rfl) (ST.sel hS25 [0, 2, 3] rfl rfl) (fun w' hw' => (Y_load1 (B := aD b) (i := 0) (cs := [vi g.Kind, vi g.A, vi g.B]) (v := vi g.Kind) k_sc_3 rfl rfl (ST.cf hw' (i := 0) rfl) rfl)) ?_
       refine ra_q 3 33 (v := vi n) rfl rfl rfl (by kernel_rfl) (by kernel_rfl) (by kernel_rfl) (ST.sel hS25 [0, 2, 3] rfl rfl) (fun w' hw' => (Y_move (v := vi n) rfl rfl)) ?_
       refine ra_q 4 34 (v := vi row) rfl rfl rfl (by kernel_rfl) (by kernel_rfl) (by kernel_rfl) (ST.sel hS25 [0, 2, 3] rfl rfl) (fun w' hw' => (Y_move (v := vi row) rfl rfl)) ?_
       refine ra_q 5 35 (v := pt (aD b) 1) rfl rfl rfl (by kernel_rfl) (by kernel_rfl) (by kernel_rfl) (ST.sel hS25 [0, 2, 3] rfl rfl) (fun w' hw' => (Y_fieldAddr (B := aD b) (i := 0) (s := 0) k_fd_64_1_1_3 k_sz_3_1 rfl rfl)) ?_
       refine ra_q 6 36 (v := vi g.A) rfl rfl rfl (by kernel_rfl) (by kernel_rfl) (by kernel_rfl) (ST.sel hS25 [0, 2, 3] rfl rfl) (fun w' hw' => (Y_load1 (B := aD b) (i := 1) (cs := [vi g.Kind, vi g.A, vi g.B]) (v := vi g.A) k_sc_3 rfl rfl (ST.cf hw' (i := 0) rfl) rfl)) ?_
       refine ra_q 9 39 (v := vi n) rfl rfl rfl (by kernel_rfl) (by kernel_rfl) (by kernel_rfl) (ST.sel hS25 [0, 2, 3] rfl rfl) (fun w' hw' => (Y_move (v := vi n) rfl rfl)) ?_
       refine ra_q 10 40 (v := vi col) rfl rfl rfl (by kernel_rfl) (by kernel_rfl) (by kernel_rfl) (ST.sel hS25 [0, 2, 3] rfl rfl) (fun w' hw' => (Y_move (v := vi col) rfl rfl)) ?_
       refine ra_q 11 41 (v := pt (aD b) 1) rfl rfl rfl (by kernel_rfl) (by kernel_rfl) (by kernel_rfl) (ST.sel hS25 [0, 2, 3] rfl rfl) (fun w' hw' => (Y_fieldAddr (B := aD b) (i := 0) (s := 0) k_fd_64_1_1_3 k_sz_3_1 rfl rfl)) ?_
       refine ra_q 12 42 (v := vi g.A) rfl rfl rfl (by kernel_rfl) (by kernel_rfl) (by kernel_rfl) (ST.sel hS25 [0, 2, 3] rfl rfl) (fun w' hw' => (Y_load1 (B := aD b) (i := 1) (cs := [vi g.Kind, vi g.A, vi g.B]) (v := vi g.A) k_sc_3 rfl rfl (ST.cf hw' (i := 0) rfl) rfl)) ?_
       refine ra_all (rs := [2]) (by kernel_rfl) rfl ?_
       refine ra_c 32 (i := 2) rfl rfl rfl (Yc_func (g := 31) (vs := [vi g.Kind]) k_call_31 rfl (mc rfl mn) (c_spec_l6One g.Kind _  (hS25.inn0 [] rfl) hc8)) ?_ ?_
       ·rintro _ w_17 ⟨B1, c, rfl, hd7⟩
        have hS26 := hS25.out0 hd7
        have hS26 : ST w0 [] _ [⟨aD b, 64, [vi g.Kind, vi g.A, vi g.B], 3⟩, ⟨aD b1, 44, [vi 0, vi 0, vi 0, vi 0, vi 0], 5⟩, ⟨aD b2, 44, [vi r_1.Num.A, vi r_1.Num.B, vi r_1.Num.C, vi r_1.Num.D, vi r_1.Exp], 5⟩, ⟨aD b3, 44, [vi 0, vi 0, vi 0, vi 0, vi 0], 5⟩, ⟨B1, 44, (r_9.flatMap eN0), c * 5⟩] [] := hS26
        refine ⟨(ST.sel hS26 [0, 2, 3] rfl rfl), ?_⟩
        refine ra_all (rs := [7]) (by kernel_rfl) rfl ?_
        refine ra_c 37 (i := 7) rfl rfl rfl (Yc_func (g := 90) (vs := [vi n, vi row, vi g.A]) k_call_90 rfl (mc rfl (mc rfl (mc rfl mn))) (c_spec_l6Bit n row g.A _  (hS26.inn0 [] rfl) hc9)) ?_ ?_
        ·rintro _ w_18 ⟨rfl, hd8⟩
         have hS27 := hS26.out00 hd8
         have hS27 : ST w0 [] _ [⟨aD b, 64, [vi g.Kind, vi g.A, vi g.B], 3⟩, ⟨aD b1, 44, [vi 0, vi 0, vi 0, vi 0, vi 0], 5⟩, ⟨aD b2, 44, [vi r_1.Num.A, vi r_1.Num.B, vi r_1.Num.C, vi r_1.Num.D, vi r_1.Exp], 5⟩, ⟨aD b3, 44, [vi 0, vi 0, vi 0, vi 0, vi 0], 5⟩, ⟨B1, 44, (r_9.flatMap eN0), c * 5⟩] [] := hS27
         refine ⟨(ST.sel hS27 [0, 2, 3] rfl rfl), ?_⟩
         refine ra_q 8 38 (v := vi (i64.wrap (2 * r_10))) rfl rfl rfl (by kernel_rfl) (by kernel_rfl) (by kernel_rfl) (ST.sel hS27 [0, 2, 3] rfl rfl) (fun w' hw' => (Y_mul (k := .i64) (a := 2) (b := r_10) rfl rfl rfl)) ?_
         refine ra_all (rs := [13]) (by kernel_rfl) rfl ?_
         refine ra_c 43 (i := 13) rfl rfl rfl (Yc_func (g := 90) (vs := [vi n, vi col, vi g.A]) k_call_90 rfl (mc rfl (mc rfl (mc rfl mn))) (c_spec_l6Bit n col g.A _  (hS27.inn0 [] rfl) hc10)) ?_ ?_
         ·rintro _ w_19 ⟨rfl, hd9⟩
          have hS28 := hS27.out00 hd9
          have hS28 : ST w0 [] _ [⟨aD b, 64, [vi g.Kind, vi g.A, vi g.B], 3⟩, ⟨aD b1, 44, [vi 0, vi 0, vi 0, vi 0, vi 0], 5⟩, ⟨aD b2, 44, [vi r_1.Num.A, vi r_1.Num.B, vi r_1.Num.C, vi r_1.Num.D, vi r_1.Exp], 5⟩, ⟨aD b3, 44, [vi 0, vi 0, vi 0, vi 0, vi 0], 5⟩, ⟨B1, 44, (r_9.flatMap eN0), c * 5⟩] [] := hS28
          refine ⟨(ST.sel hS28 [0, 2, 3] rfl rfl), ?_⟩
          refine ra_q 14 44 (v := vi (i64.wrap ((i64.wrap (2 * r_10)) + r_11))) rfl rfl rfl (by kernel_rfl) (by kernel_rfl) (by kernel_rfl) (ST.sel hS28 [0, 2, 3] rfl rfl) (fun w' hw' => (Y_add (k := .i64) (a := (i64.wrap (2 * r_10))) (b := r_11) rfl rfl rfl)) ?_
          refine ra_all (rs := [15]) (by kernel_rfl) rfl ?_
          refine ra_y 45 (i := 15) (v := pt B1 ((i64.wrap ((i64.wrap (2 * r_10)) + r_11)).toNat * 5)) rfl rfl rfl (Y_index (B := B1) (m := r_9.length) (c := c) (k := .i64) (i := (i64.wrap ((i64.wrap (2 * r_10)) + r_11))) k_sl_32_44 k_sz_44_5 rfl rfl rfl (gi_isSome eN3 rfl (hS28.cf (i := 4) rfl) hx) (getI_nn hx) (getI_ltI hx rfl)) (ST.sel hS28 [0, 2, 3] rfl rfl) ?_ ?_
          ·skip
           refine ra_all (rs := [16]) (by kernel_rfl) rfl ?_
           refine ra_y 46 (i := 16) (v := .agg #[vi x.Num.A, vi x.Num.B, vi x.Num.C, vi x.Num.D, vi x.Exp]) rfl rfl rfl (Y_loadA (B := B1) (i := (i64.wrap ((i64.wrap (2 * r_10)) + r_11)).toNat * 5) (cs := (r_9.flatMap eN0)) (vs := [vi x.Num.A, vi x.Num.B, vi x.Num.C, vi x.Num.D, vi x.Exp]) k_ag_44 k_sz_44_5 rfl rfl (hS28.cf (i := 4) rfl) (eN3 x) (gi_seg eN3 hx)) (ST.sel hS28 [0, 2, 3] rfl rfl) ?_ ?_
           ·skip
            refine ra_all (rs := [17]) (by kernel_rfl) rfl ?_
            refine ra_s0 (i := 17) rfl rfl rfl (Ys_store (i := 1) (s := 5) (B := aD b1) (T' := 44) (v := .agg #[vi x.Num.A, vi x.Num.B, vi x.Num.C, vi x.Num.D, vi x.Exp]) (vs := [vi x.Num.A, vi x.Num.B, vi x.Num.C, vi x.Num.D, vi x.Exp]) (k := 0) (cs' := [vi x.Num.A, vi x.Num.B, vi x.Num.C, vi x.Num.D, vi x.Exp]) hS28 k_sz_44_5 rfl rfl rfl rfl rfl rfl rfl (Nat.le_of_ble_eq_true rfl) rfl rfl) ?_ ?_
            ·rintro _ w_20 ⟨rfl, hS29⟩
             have hS29 : ST w0 [] _ [⟨aD b, 64, [vi g.Kind, vi g.A, vi g.B], 3⟩, ⟨aD b1, 44, [vi x.Num.A, vi x.Num.B, vi x.Num.C, vi x.Num.D, vi x.Exp], 5⟩, ⟨aD b2, 44, [vi r_1.Num.A, vi r_1.Num.B, vi r_1.Num.C, vi r_1.Num.D, vi r_1.Exp], 5⟩, ⟨aD b3, 44, [vi 0, vi 0, vi 0, vi 0, vi 0], 5⟩, ⟨B1, 44, (r_9.flatMap eN0), c * 5⟩] [] := hS29
             refine ⟨(ST.sel hS29 [0, 2, 3] rfl rfl), ?_⟩
             refine ra_done (by kernel_rfl) ?_
             refine cw_ret ?_
             obtain rfl := some_inj hF17
             obtain rfl := some_inj hF1
             exact ret1 Tryd.results81 (v1 := .agg #[vi x.Num.A, vi x.Num.B, vi x.Num.C, vi x.Num.D, vi x.Exp]) (resAt_cellA (B := aD b1) (i := 0) (cs := [vi x.Num.A, vi x.Num.B, vi x.Num.C, vi x.Num.D, vi x.Exp]) (vs := [vi x.Num.A, vi x.Num.B, vi x.Num.C, vi x.Num.D, vi x.Exp]) rfl k_ag_44 k_sz_44_5 (hS29.cf (i := 1) rfl) rfl rfl) ⟨rfl, (ST.subR (R' := []) (hS29.sel [] rfl rfl) (fun _ h => by cases h))⟩
            exact allR_nil
           exact allR_nil
          exact allR_nil
         exact allR_nil
        exact allR_nil
       exact allR_nil
 rintro f w ⟨A, B, C, D, Exp, to_, rfl, hf, hS8⟩
 refine cw_seq ?_
 refine cw_seq ?_
 refine cw_region ?_
 refine sq 114 rfl rfl (Y_move (v := vi row) rfl (hf.get 2 0 rfl)) ?_
 refine sq 115 rfl rfl (Y_move (v := vi to_) rfl (hf.get 11 4 rfl)) ?_
 refine sq 116 rfl rfl (Y_eq (k := .i64) (a := row) (b := to_) rfl rfl rfl) ?_
 refine rw_nil ?_
 refine cw_cond (b := (row == to_)) rfl (fun hb8 => ?_) (fun hb8 => ?_)
 ·skip
  have hF18 := ct hF1 hb8
  refine cw_seq ?_
  refine cw_region ?_
  refine sq 117 rfl rfl (Y_loadA (B := aD b2) (i := 0) (cs := [vi A, vi B, vi C, vi D, vi Exp]) (vs := [vi A, vi B, vi C, vi D, vi Exp]) k_ag_44 k_sz_44_5 rfl (hf.get 9 2 rfl) (hS8.cf (i := 1) rfl) rfl rfl) ?_
  refine ss0 rfl rfl (Ys_store (i := 0) (s := 5) (B := aD b1) (T' := 44) (v := .agg #[vi A, vi B, vi C, vi D, vi Exp]) (vs := [vi A, vi B, vi C, vi D, vi Exp]) (k := 0) (cs' := [vi A, vi B, vi C, vi D, vi Exp]) hS8 k_sz_44_5 rfl (hf.get 8 1 rfl) rfl rfl rfl rfl rfl (Nat.le_of_ble_eq_true rfl) rfl rfl) ?_
  rintro _ w_21 ⟨rfl, hS30⟩
  have hS30 : ST w0 [] _ [⟨aD b1, 44, [vi A, vi B, vi C, vi D, vi Exp], 5⟩, ⟨aD b2, 44, [vi A, vi B, vi C, vi D, vi Exp], 5⟩, ⟨aD b3, 44, [vi 0, vi 0, vi 0, vi 0, vi 0], 5⟩] [] := hS30
  refine rw_nil ?_
  refine cw_ret ?_
  obtain rfl := some_inj hF18
  exact ret1 Tryd.results81 (v1 := .agg #[vi A, vi B, vi C, vi D, vi Exp]) (resAt_cellA (B := aD b1) (i := 0) (cs := [vi A, vi B, vi C, vi D, vi Exp]) (vs := [vi A, vi B, vi C, vi D, vi Exp]) (hf.get 8 1 rfl) k_ag_44 k_sz_44_5 (hS30.cf (i := 0) rfl) rfl rfl) ⟨rfl, (ST.subR (R' := []) (hS30.sel [] rfl rfl) (fun _ h => by cases h))⟩
 ·skip
  have hF19 := cf' hF1 hb8
  refine cw_skip ?_
  refine cw_seq ?_
  refine cw_region ?_
  refine sq 118 rfl rfl (Y_loadA (B := aD b3) (i := 0) (cs := [vi 0, vi 0, vi 0, vi 0, vi 0]) (vs := [vi 0, vi 0, vi 0, vi 0, vi 0]) k_ag_44 k_sz_44_5 rfl (hf.get 10 3 rfl) (hS8.cf (i := 2) rfl) rfl rfl) ?_
  refine ss0 rfl rfl (Ys_store (i := 0) (s := 5) (B := aD b1) (T' := 44) (v := .agg #[vi 0, vi 0, vi 0, vi 0, vi 0]) (vs := [vi 0, vi 0, vi 0, vi 0, vi 0]) (k := 0) (cs' := [vi 0, vi 0, vi 0, vi 0, vi 0]) hS8 k_sz_44_5 rfl (hf.get 8 1 rfl) rfl rfl rfl rfl rfl (Nat.le_of_ble_eq_true rfl) rfl rfl) ?_
  rintro _ w_22 ⟨rfl, hS31⟩
  have hS31 : ST w0 [] _ [⟨aD b1, 44, [vi 0, vi 0, vi 0, vi 0, vi 0], 5⟩, ⟨aD b2, 44, [vi A, vi B, vi C, vi D, vi Exp], 5⟩, ⟨aD b3, 44, [vi 0, vi 0, vi 0, vi 0, vi 0], 5⟩] [] := hS31
  refine rw_nil ?_
  refine cw_ret ?_
  obtain rfl := some_inj hF19
  exact ret1 Tryd.results81 (v1 := .agg #[vi 0, vi 0, vi 0, vi 0, vi 0]) (resAt_cellA (B := aD b1) (i := 0) (cs := [vi 0, vi 0, vi 0, vi 0, vi 0]) (vs := [vi 0, vi 0, vi 0, vi 0, vi 0]) (hf.get 8 1 rfl) k_ag_44 k_sz_44_5 (hS31.cf (i := 0) rfl) rfl rfl) ⟨rfl, (ST.subR (R' := []) (hS31.sel [] rfl rfl) (fun _ h => by cases h))⟩

theorem c_spec_l6Gate (n : Int) (g : TGate)  (w0 : World)  (hS : ST w0 [] w0 [] []) {r_ : TMatrix} (hF : F_spec_l6Gate n g = some r_) :
  CV Tryd.prog 63 #[vi n, .agg #[vi g.Kind, vi g.A, vi g.B]] w0 (fun v w' => ∃ (B : Option Addr) (c : Nat), v = .agg #[vi r_.Rows, vi r_.Cols, .slice B r_.Cells.length c] ∧ ST w0 [] w' [⟨B, 44, (r_.Cells.flatMap eN0), c * 5⟩] []) := by
 unfold F_spec_l6Gate at hF
 refine cv_of_cw 36 Tryd.func63 rfl Tryd.ntmps63 rfl ?_
 refine cw_seq ?_
 refine cw_region ?_
 refine ss 3 rfl rfl (Ys_box (T := 64) (v := .agg #[vi g.Kind, vi g.A, vi g.B]) (cs := [vi g.Kind, vi g.A, vi g.B]) (m := 3) hS rfl rfl rfl rfl) ?_
 rintro _ w_ ⟨b, rfl, hS1⟩
 refine ss 4 rfl rfl (Ys_alloc (T := 38) (cs := [vi 0, vi 0, .slice none 0 0]) (m := 3) hS1 k_zero_38 rfl rfl rfl) ?_
 rintro _ w_1 ⟨b1, rfl, hS2⟩
 have hS2 : ST w0 [] _ [⟨aD b, 64, [vi g.Kind, vi g.A, vi g.B], 3⟩, ⟨aD b1, 38, [vi 0, vi 0, .slice none 0 0], 3⟩] [] := hS2
 refine rw_nil ?_
 refine cw_seq ?_
 refine cw_region ?_
 refine sq 9 rfl rfl (Y_move (v := vi n) rfl rfl) ?_
 refine sq 10 rfl rfl (Y_conv (k := .i64) (a := n) (T := 3) (T' := 77) k_us_3 k_int_77_u64 rfl rfl) ?_
 obtain ⟨hsh, hF⟩ := chk_inv hF
 refine sq 11 rfl rfl (Y_shl (k := .i64) (a := 1) (k' := .u64) (b := (IntKind.u64.wrap n)) rfl rfl rfl hsh) ?_
 refine sq 5 rfl rfl (Y_assign (v := vi (shlK .i64 1 (IntKind.u64.wrap n))) rfl rfl) ?_
 refine rw_nil ?_
 refine cw_seq ?_
 refine cw_region ?_
 refine sq 12 rfl rfl (Y_move (v := vi (shlK .i64 1 (IntKind.u64.wrap n))) rfl rfl) ?_
 refine sq 13 rfl rfl (Y_move (v := vi (shlK .i64 1 (IntKind.u64.wrap n))) rfl rfl) ?_
 refine sq 14 rfl rfl (Y_buildS (zs := [vi 0, vi 0, .slice none 0 0]) (vs := [(0, vi (shlK .i64 1 (IntKind.u64.wrap n))), (1, vi (shlK .i64 1 (IntKind.u64.wrap n)))]) (cs := [vi (shlK .i64 1 (IntKind.u64.wrap n)), vi (shlK .i64 1 (IntKind.u64.wrap n)), .slice none 0 0]) k_pl_38 k_zero_38 rfl (mpc rfl (mpc rfl mpn)) rfl) ?_
 refine ss 6 rfl rfl (Ys_alloc (T := 38) (cs := [vi 0, vi 0, .slice none 0 0]) (m := 3) hS2 k_zero_38 rfl rfl rfl) ?_
 rintro _ w_2 ⟨b2, rfl, hS3⟩
 have hS3 : ST w0 [] _ [⟨aD b, 64, [vi g.Kind, vi g.A, vi g.B], 3⟩, ⟨aD b1, 38, [vi 0, vi 0, .slice none 0 0], 3⟩, ⟨aD b2, 38, [vi 0, vi 0, .slice none 0 0], 3⟩] [] := hS3
 refine ss0 rfl rfl (Ys_store (i := 2) (s := 3) (B := aD b2) (T' := 38) (v := .agg #[vi (shlK .i64 1 (IntKind.u64.wrap n)), vi (shlK .i64 1 (IntKind.u64.wrap n)), .slice none 0 0]) (vs := [vi (shlK .i64 1 (IntKind.u64.wrap n)), vi (shlK .i64 1 (IntKind.u64.wrap n)), .slice none 0 0]) (k := 0) (cs' := [vi (shlK .i64 1 (IntKind.u64.wrap n)), vi (shlK .i64 1 (IntKind.u64.wrap n)), .slice none 0 0]) hS3 k_sz_38_3 rfl rfl rfl rfl rfl rfl rfl (Nat.le_of_ble_eq_true rfl) rfl rfl) ?_
 rintro _ w_3 ⟨rfl, hS4⟩
 have hS4 : ST w0 [] _ [⟨aD b, 64, [vi g.Kind, vi g.A, vi g.B], 3⟩, ⟨aD b1, 38, [vi 0, vi 0, .slice none 0 0], 3⟩, ⟨aD b2, 38, [vi (shlK .i64 1 (IntKind.u64.wrap n)), vi (shlK .i64 1 (IntKind.u64.wrap n)), .slice none 0 0], 3⟩] [] := hS4
 refine rw_nil ?_
 refine cw_seq ?_
 refine cw_seq ?_
 refine cw_region ?_
 refine sq 7 rfl rfl (Y_assign (v := vi 0) rfl rfl) ?_
 refine rw_nil ?_
 obtain ⟨hN, hF⟩ := chk_inv hF
 obtain ⟨z, hz, hF1⟩ := bind_inv hF
 have hS6 := hS4.addNil 44
 refine cw_block ?_
 refine cw_loop (fun k f w => ∃ (i1 : Nat) (Cells : List TDyadic) (B1 : Option Addr) (c1 : Nat), FF f [(0, vi n), (3, pt (aD b) 0), (4, pt (aD b1) 0), (5, vi (shlK .i64 1 (IntKind.u64.wrap n))), (6, pt (aD b2) 0), (7, vi (i1 : Int))] ∧ ST w0 [] w [⟨aD b, 64, [vi g.Kind, vi g.A, vi g.B], 3⟩, ⟨aD b1, 38, [vi 0, vi 0, .slice none 0 0], 3⟩, ⟨aD b2, 38, [vi (shlK .i64 1 (IntKind.u64.wrap n)), vi (shlK .i64 1 (IntKind.u64.wrap n)), .slice B1 Cells.length c1], 3⟩, ⟨B1, 44, (Cells.flatMap eN0), c1 * 5⟩] [] ∧ i1 + k = (shlK .i64 1 (IntKind.u64.wrap n)).toNat ∧ forN (F_spec_l6Gate_l1 n g) k i1 Cells = some z) ((shlK .i64 1 (IntKind.u64.wrap n)).toNat) ⟨0, [], none, 0, (FF.cons rfl (FF.cons rfl (FF.cons rfl (FF.cons rfl (FF.cons rfl (FF.cons rfl FF.nil)))))), (hS6.sel [0, 1, 2, 3] rfl rfl), Nat.zero_add _, hz⟩ ?_
 rintro k_ f w ⟨i1, Cells, B1, c1, hf, hS5, hik, hL⟩
 refine cw_seq ?_
 refine cw_seq ?_
 refine cw_region ?_
 refine sq 15 rfl rfl (Y_move (v := vi (i1 : Int)) rfl (hf.get 7 5 rfl)) ?_
 refine sq 16 rfl rfl (Y_move (v := vi (shlK .i64 1 (IntKind.u64.wrap n))) rfl (hf.get 5 3 rfl)) ?_
 refine sq 17 rfl rfl (Y_lt (k := .i64) (a := (i1 : Int)) (b := (shlK .i64 1 (IntKind.u64.wrap n))) rfl rfl rfl) ?_
 refine rw_nil ?_
 refine cw_cond (b := (decide ((i1 : Int) < (shlK .i64 1 (IntKind.u64.wrap n))))) rfl (fun hlt => ?_) (fun hlt => ?_)
 ·skip
  have hlt1 : i1 < (shlK .i64 1 (IntKind.u64.wrap n)).toNat := by have h := of_decide_eq_true hlt; omega
  obtain ⟨k_1, rfl⟩ : ∃ k2, k_ = k2 + 1 := ⟨k_ - 1, by omega⟩
  obtain ⟨y, hb, hL1⟩ := forN_go hL
  unfold F_spec_l6Gate_l1 at hb
  refine cw_skip ?_
  refine cw_seq ?_
  refine cw_block ?_
  refine cw_seq ?_
  refine cw_region ?_
  refine sq 8 rfl rfl (Y_assign (v := vi 0) rfl rfl) ?_
  refine rw_nil ?_
  obtain ⟨hN1, hb⟩ := chk_inv hb
  obtain ⟨z1, hz1, hF2⟩ := bind_inv hb
  refine cw_block ?_
  refine cw_loop (fun k f w => ∃ (j : Nat) (Cells1 : List TDyadic) (B2 : Option Addr) (c2 : Nat), FF f [(0, vi n), (3, pt (aD b) 0), (4, pt (aD b1) 0), (5, vi (shlK .i64 1 (IntKind.u64.wrap n))), (6, pt (aD b2) 0), (7, vi (i1 : Int)), (8, vi (j : Int))] ∧ ST w0 [] w [⟨aD b, 64, [vi g.Kind, vi g.A, vi g.B], 3⟩, ⟨aD b1, 38, [vi 0, vi 0, .slice none 0 0], 3⟩, ⟨aD b2, 38, [vi (shlK .i64 1 (IntKind.u64.wrap n)), vi (shlK .i64 1 (IntKind.u64.wrap n)), .slice B2 Cells1.length c2], 3⟩, ⟨B2, 44, (Cells1.flatMap eN0), c2 * 5⟩] [] ∧ j + k = (shlK .i64 1 (IntKind.u64.wrap n)).toNat ∧ forN (F_spec_l6Gate_l2 n g i1) k j Cells1 = some z1) ((shlK .i64 1 (IntKind.u64.wrap n)).toNat) ⟨0, Cells, B1, c1, (FF.cons (hf.get 0 0 rfl) (FF.cons (hf.get 3 1 rfl) (FF.cons (hf.get 4 2 rfl) (FF.cons (hf.get 5 3 rfl) (FF.cons (hf.get 6 4 rfl) (FF.cons (hf.get 7 5 rfl) (FF.cons rfl FF.nil))))))), (hS5.sel [0, 1, 2, 3] rfl rfl), Nat.zero_add _, hz1⟩ ?_
  rintro k_2 f w ⟨j, Cells1, B2, c2, hf1, hS7, hik1, hL2⟩
  refine cw_seq ?_
  refine cw_seq ?_
  refine cw_region ?_
  refine sq 20 rfl rfl (Y_move (v := vi (j : Int)) rfl (hf1.get 8 6 rfl)) ?_
  refine sq 21 rfl rfl (Y_move (v := vi (shlK .i64 1 (IntKind.u64.wrap n))) rfl (hf1.get 5 3 rfl)) ?_
  refine sq 22 rfl rfl (Y_lt (k := .i64) (a := (j : Int)) (b := (shlK .i64 1 (IntKind.u64.wrap n))) rfl rfl rfl) ?_
  refine rw_nil ?_
  refine cw_cond (b := (decide ((j : Int) < (shlK .i64 1 (IntKind.u64.wrap n))))) rfl (fun hlt2 => ?_) (fun hlt2 => ?_)
  ·skip
   have hlt3 : j < (shlK .i64 1 (IntKind.u64.wrap n)).toNat := by have h := of_decide_eq_true hlt2; omega
   obtain ⟨k_3, rfl⟩ : ∃ k2, k_2 = k2 + 1 := ⟨k_2 - 1, by omega⟩
   obtain ⟨y1, hb1, hL3⟩ := forN_go hL2
   unfold F_spec_l6Gate_l2 at hb1
   refine cw_skip ?_
   refine cw_seq ?_
   refine cw_block ?_
   obtain ⟨r_1, hc, hb1⟩ := bind_inv hb1
   obtain ⟨hap, hb1⟩ := chk_inv hb1
   refine cw_mid (fun f w => ∃ (B4 : Option Addr) (c4 : Nat), FF f [(0, vi n), (3, pt (aD b) 0), (4, pt (aD b1) 0), (5, vi (shlK .i64 1 (IntKind.u64.wrap n))), (6, pt (aD b2) 0), (7, vi (i1 : Int)), (8, vi (j : Int))] ∧ ST w0 [] w [⟨aD b, 64, [vi g.Kind, vi g.A, vi g.B], 3⟩, ⟨aD b1, 38, [vi 0, vi 0, .slice none 0 0], 3⟩, ⟨aD b2, 38, [vi (shlK .i64 1 (IntKind.u64.wrap n)), vi (shlK .i64 1 (IntKind.u64.wrap n)), .slice B4 ((Cells1 ++ [r_1]).length) c4], 3⟩, ⟨B4, 44, ((Cells1 ++ [r_1]).flatMap eN0), c4 * 5⟩] []) ?_ ?_
   ·skip
    refine ra_start (ST.sel hS7 [0, 1] rfl rfl).fn (by kernel_rfl) ?_
    have hS10 := hS7.drew
    refine ra_q 0 25 (v := pt (aD b2) 2) rfl rfl rfl (by kernel_rfl) (by kernel_rfl) (by kernel_rfl) (ST.sel hS10 [0, 1] rfl rfl) (fun w' hw' => (Y_fieldAddr (B := aD b2) (i := 0) (s := 0) k_fd_38_2_2_32 k_sz_32_1 rfl (hf1.get 6 4 rfl))) ?_
    refine ra_q 2 27 (v := vi n) rfl rfl rfl (by kernel_rfl) (by kernel_rfl) (by kernel_rfl) (ST.sel hS10 [0, 1] rfl rfl) (fun w' hw' => (Y_move (v := vi n) rfl (hf1.get 0 0 rfl))) ?_
    refine ra_q 3 28 (v := .agg #[vi g.Kind, vi g.A, vi g.B]) rfl rfl rfl (by kernel_rfl) (by kernel_rfl) (by kernel_rfl) (ST.sel hS10 [0, 1] rfl rfl) (fun w' hw' => (Y_loadA (B := aD b) (i := 0) (cs := [vi g.Kind, vi g.A, vi g.B]) (vs := [vi g.Kind, vi g.A, vi g.B]) k_ag_64 k_sz_64_3 rfl (hf1.get 3 1 rfl) (ST.cf hw' (i := 0) rfl) rfl rfl)) ?_
    refine ra_q 4 29 (v := vi (i1 : Int)) rfl rfl rfl (by kernel_rfl) (by kernel_rfl) (by kernel_rfl) (ST.sel hS10 [0, 1] rfl rfl) (fun w' hw' => (Y_move (v := vi (i1 : Int)) rfl (hf1.get 7 5 rfl))) ?_
    refine ra_q 5 30 (v := vi (j : Int)) rfl rfl rfl (by kernel_rfl) (by kernel_rfl) (by kernel_rfl) (ST.sel hS10 [0, 1] rfl rfl) (fun w' hw' => (Y_move (v := vi (j : Int)) rfl (hf1.get 8 6 rfl))) ?_
    refine ra_all (rs := [1, 6]) (by kernel_rfl) rfl ?_
    refine ra_y 26 (i := 1) (v := .slice B2 Cells1.length c2) rfl rfl rfl (Y_load1 (B := aD b2) (i := 2) (cs := [vi (shlK .i64 1 (IntKind.u64.wrap n)), vi (shlK .i64 1 (IntKind.u64.wrap n)), .slice B2 Cells1.length c2]) (v := .slice B2 Cells1.length c2) k_sc_32 rfl rfl (hS10.cf (i := 2) rfl) rfl) (ST.sel hS10 [0, 1] rfl rfl) ?_ ?_
    ·skip
     refine ra_all (rs := [6]) (by kernel_rfl) rfl ?_
     refine ra_c 31 (i := 6) rfl rfl rfl (Yc_func (g := 81) (vs := [vi n, .agg #[vi g.Kind, vi g.A, vi g.B], vi (i1 : Int), vi (j : Int)]) k_call_81 rfl (mc rfl (mc rfl (mc rfl (mc rfl mn)))) (c_spec_l6Cell n g (i1 : Int) (j : Int) _  (hS10.inn0 [] rfl) hc)) ?_ ?_
     ·rintro _ w_4 ⟨rfl, hd⟩
      have hS11 := hS10.out00 hd
      have hS11 : ST w0 [] _ [⟨aD b, 64, [vi g.Kind, vi g.A, vi g.B], 3⟩, ⟨aD b1, 38, [vi 0, vi 0, .slice none 0 0], 3⟩, ⟨aD b2, 38, [vi (shlK .i64 1 (IntKind.u64.wrap n)), vi (shlK .i64 1 (IntKind.u64.wrap n)), .slice B2 Cells1.length c2], 3⟩, ⟨B2, 44, (Cells1.flatMap eN0), c2 * 5⟩] [] := hS11
      refine ⟨(ST.sel hS11 [0, 1] rfl rfl), ?_⟩
      refine ra_all (rs := [7]) (by kernel_rfl) rfl ?_
      refine ra_s 32 (i := 7) rfl rfl rfl (Ys_bslice (s := 5) (len := 1) (vs := [(0, .agg #[vi r_1.Num.A, vi r_1.Num.B, vi r_1.Num.C, vi r_1.Num.D, vi r_1.Exp])]) (cs := [vi r_1.Num.A, vi r_1.Num.B, vi r_1.Num.C, vi r_1.Num.D, vi r_1.Exp]) (zs := [vi 0, vi 0, vi 0, vi 0, vi 0]) (m := 5) hS11 k_sl_32_44 k_sz_44_5 k_zc_44 rfl (mpc rfl mpn) rfl rfl rfl (by kernel_rfl) (by kernel_rfl) rfl) ?_ ?_
      ·rintro _ w_5 ⟨b3, rfl, hS12⟩
       have hS12 : ST w0 [] _ [⟨aD b, 64, [vi g.Kind, vi g.A, vi g.B], 3⟩, ⟨aD b1, 38, [vi 0, vi 0, .slice none 0 0], 3⟩, ⟨aD b2, 38, [vi (shlK .i64 1 (IntKind.u64.wrap n)), vi (shlK .i64 1 (IntKind.u64.wrap n)), .slice B2 Cells1.length c2], 3⟩, ⟨B2, 44, (Cells1.flatMap eN0), c2 * 5⟩, ⟨aD b3, 44, ([r_1].flatMap eN0), 1 * 5⟩] [] := hS12
       refine ⟨(ST.sel hS12 [0, 1] rfl rfl), ?_⟩
       refine ra_all (rs := [8]) (by kernel_rfl) rfl ?_
       refine ra_s 33 (i := 8) rfl rfl rfl (Ys_append (s := 5) (by' := 40) (i := 3) (nn := Cells1.length) (c := c2) (k := 1) (len := (Cells1 ++ [r_1]).length) (B := B2) (xs := ([r_1].flatMap eN0)) (cs' := ((Cells1 ++ [r_1]).flatMap eN0)) hS12 k_sl_32_44 k_sz_44_5 k_by_44_40 k_zero_44 rfl (by decide) rfl rfl rfl rfl (fm_lenn (l := Cells1) eN3 rfl) rfl (hS12.cf (i := 4) rfl) (fm_lenn (l := [r_1]) eN3 rfl) (fm_one' (enc := eN0) enc_Dyadic_one [r_1]) (by have := hap; omega) (by have := hap; simp only [maxLen]; omega) (fm_app _ _) (app_len (l := Cells1) (l' := [r_1]) rfl rfl)) ?_ ?_
       ·rintro _ w_6 ⟨B3, c3, rfl, hS13⟩
        have hS13 : ST w0 [] _ [⟨aD b, 64, [vi g.Kind, vi g.A, vi g.B], 3⟩, ⟨aD b1, 38, [vi 0, vi 0, .slice none 0 0], 3⟩, ⟨aD b2, 38, [vi (shlK .i64 1 (IntKind.u64.wrap n)), vi (shlK .i64 1 (IntKind.u64.wrap n)), .slice B2 Cells1.length c2], 3⟩, ⟨B3, 44, ((Cells1 ++ [r_1]).flatMap eN0), c3 * 5⟩, ⟨aD b3, 44, ([r_1].flatMap eN0), 1 * 5⟩] [] := hS13
        refine ⟨(ST.sel hS13 [0, 1] rfl rfl), ?_⟩
        refine ra_q 9 34 (v := pt (aD b2) 2) rfl rfl rfl (by kernel_rfl) (by kernel_rfl) (by kernel_rfl) (ST.sel hS13 [0, 1] rfl rfl) (fun w' hw' => (Y_fieldAddr (B := aD b2) (i := 0) (s := 0) k_fd_38_2_2_32 k_sz_32_1 rfl (hf1.get 6 4 rfl))) ?_
        refine ra_all (rs := [10]) (by kernel_rfl) rfl ?_
        refine ra_s0 (i := 10) rfl rfl rfl (Ys_store (i := 2) (s := 1) (B := aD b2) (T' := 38) (v := .slice B3 ((Cells1 ++ [r_1]).length) c3) (vs := [.slice B3 ((Cells1 ++ [r_1]).length) c3]) (k := 2) (cs' := [vi (shlK .i64 1 (IntKind.u64.wrap n)), vi (shlK .i64 1 (IntKind.u64.wrap n)), .slice B3 ((Cells1 ++ [r_1]).length) c3]) hS13 k_sz_32_1 rfl rfl rfl rfl rfl rfl rfl (Nat.le_of_ble_eq_true rfl) rfl rfl) ?_ ?_
        ·rintro _ w_7 ⟨rfl, hS14⟩
         have hS14 : ST w0 [] _ [⟨aD b, 64, [vi g.Kind, vi g.A, vi g.B], 3⟩, ⟨aD b1, 38, [vi 0, vi 0, .slice none 0 0], 3⟩, ⟨aD b2, 38, [vi (shlK .i64 1 (IntKind.u64.wrap n)), vi (shlK .i64 1 (IntKind.u64.wrap n)), .slice B3 ((Cells1 ++ [r_1]).length) c3], 3⟩, ⟨B3, 44, ((Cells1 ++ [r_1]).flatMap eN0), c3 * 5⟩, ⟨aD b3, 44, ([r_1].flatMap eN0), 1 * 5⟩] [] := hS14
         refine ⟨(ST.sel hS14 [0, 1] rfl rfl), ?_⟩
         refine ra_done (by kernel_rfl) ?_
         exact ⟨B3, c3, (FF.cons (hf1.get 0 0 rfl) (FF.cons (hf1.get 3 1 rfl) (FF.cons (hf1.get 4 2 rfl) (FF.cons (hf1.get 5 3 rfl) (FF.cons (hf1.get 6 4 rfl) (FF.cons (hf1.get 7 5 rfl) (FF.cons (hf1.get 8 6 rfl) FF.nil))))))), (hS14.sel [0, 1, 2, 3] rfl rfl)⟩
        exact allR_nil
       exact allR_nil
      exact allR_nil
     exact allR_nil
    refine ra_c 31 (i := 6) rfl rfl rfl (Yc_func (g := 81) (vs := [vi n, .agg #[vi g.Kind, vi g.A, vi g.B], vi (i1 : Int), vi (j : Int)]) k_call_81 rfl (mc rfl (mc rfl (mc rfl (mc rfl mn)))) (c_spec_l6Cell n g (i1 : Int) (j : Int) _  (hS10.inn0 [] rfl) hc)) ?_ ?_
    ·rintro _ w_8 ⟨rfl, hd1⟩
     have hS15 := hS10.out00 hd1
     have hS15 : ST w0 [] _ [⟨aD b, 64, [vi g.Kind, vi g.A, vi g.B], 3⟩, ⟨aD b1, 38, [vi 0, vi 0, .slice none 0 0], 3⟩, ⟨aD b2, 38, [vi (shlK .i64 1 (IntKind.u64.wrap n)), vi (shlK .i64 1 (IntKind.u64.wrap n)), .slice B2 Cells1.length c2], 3⟩, ⟨B2, 44, (Cells1.flatMap eN0), c2 * 5⟩] [] := hS15
     refine ⟨(ST.sel hS15 [0, 1] rfl rfl), ?_⟩
     refine ra_all (rs := [1, 7]) (by kernel_rfl) rfl ?_
     refine ra_y 26 (i := 1) (v := .slice B2 Cells1.length c2) rfl rfl rfl (Y_load1 (B := aD b2) (i := 2) (cs := [vi (shlK .i64 1 (IntKind.u64.wrap n)), vi (shlK .i64 1 (IntKind.u64.wrap n)), .slice B2 Cells1.length c2]) (v := .slice B2 Cells1.length c2) k_sc_32 rfl rfl (hS15.cf (i := 2) rfl) rfl) (ST.sel hS15 [0, 1] rfl rfl) ?_ ?_
     ·skip
      refine ra_all (rs := [7]) (by kernel_rfl) rfl ?_
      refine ra_s 32 (i := 7) rfl rfl rfl (Ys_bslice (s := 5) (len := 1) (vs := [(0, .agg #[vi r_1.Num.A, vi r_1.Num.B, vi r_1.Num.C, vi r_1.Num.D, vi r_1.Exp])]) (cs := [vi r_1.Num.A, vi r_1.Num.B, vi r_1.Num.C, vi r_1.Num.D, vi r_1.Exp]) (zs := [vi 0, vi 0, vi 0, vi 0, vi 0]) (m := 5) hS15 k_sl_32_44 k_sz_44_5 k_zc_44 rfl (mpc rfl mpn) rfl rfl rfl (by kernel_rfl) (by kernel_rfl) rfl) ?_ ?_
      ·rintro _ w_9 ⟨b3, rfl, hS16⟩
       have hS16 : ST w0 [] _ [⟨aD b, 64, [vi g.Kind, vi g.A, vi g.B], 3⟩, ⟨aD b1, 38, [vi 0, vi 0, .slice none 0 0], 3⟩, ⟨aD b2, 38, [vi (shlK .i64 1 (IntKind.u64.wrap n)), vi (shlK .i64 1 (IntKind.u64.wrap n)), .slice B2 Cells1.length c2], 3⟩, ⟨B2, 44, (Cells1.flatMap eN0), c2 * 5⟩, ⟨aD b3, 44, ([r_1].flatMap eN0), 1 * 5⟩] [] := hS16
       refine ⟨(ST.sel hS16 [0, 1] rfl rfl), ?_⟩
       refine ra_all (rs := [8]) (by kernel_rfl) rfl ?_
       refine ra_s 33 (i := 8) rfl rfl rfl (Ys_append (s := 5) (by' := 40) (i := 3) (nn := Cells1.length) (c := c2) (k := 1) (len := (Cells1 ++ [r_1]).length) (B := B2) (xs := ([r_1].flatMap eN0)) (cs' := ((Cells1 ++ [r_1]).flatMap eN0)) hS16 k_sl_32_44 k_sz_44_5 k_by_44_40 k_zero_44 rfl (by decide) rfl rfl rfl rfl (fm_lenn (l := Cells1) eN3 rfl) rfl (hS16.cf (i := 4) rfl) (fm_lenn (l := [r_1]) eN3 rfl) (fm_one' (enc := eN0) enc_Dyadic_one [r_1]) (by have := hap; omega) (by have := hap; simp only [maxLen]; omega) (fm_app _ _) (app_len (l := Cells1) (l' := [r_1]) rfl rfl)) ?_ ?_
       ·rintro _ w_10 ⟨B3, c3, rfl, hS17⟩
        have hS17 : ST w0 [] _ [⟨aD b, 64, [vi g.Kind, vi g.A, vi g.B], 3⟩, ⟨aD b1, 38, [vi 0, vi 0, .slice none 0 0], 3⟩, ⟨aD b2, 38, [vi (shlK .i64 1 (IntKind.u64.wrap n)), vi (shlK .i64 1 (IntKind.u64.wrap n)), .slice B2 Cells1.length c2], 3⟩, ⟨B3, 44, ((Cells1 ++ [r_1]).flatMap eN0), c3 * 5⟩, ⟨aD b3, 44, ([r_1].flatMap eN0), 1 * 5⟩] [] := hS17
        refine ⟨(ST.sel hS17 [0, 1] rfl rfl), ?_⟩
        refine ra_q 9 34 (v := pt (aD b2) 2) rfl rfl rfl (by kernel_rfl) (by kernel_rfl) (by kernel_rfl) (ST.sel hS17 [0, 1] rfl rfl) (fun w' hw' => (Y_fieldAddr (B := aD b2) (i := 0) (s := 0) k_fd_38_2_2_32 k_sz_32_1 rfl (hf1.get 6 4 rfl))) ?_
        refine ra_all (rs := [10]) (by kernel_rfl) rfl ?_
        refine ra_s0 (i := 10) rfl rfl rfl (Ys_store (i := 2) (s := 1) (B := aD b2) (T' := 38) (v := .slice B3 ((Cells1 ++ [r_1]).length) c3) (vs := [.slice B3 ((Cells1 ++ [r_1]).length) c3]) (k := 2) (cs' := [vi (shlK .i64 1 (IntKind.u64.wrap n)), vi (shlK .i64 1 (IntKind.u64.wrap n)), .slice B3 ((Cells1 ++ [r_1]).length) c3]) hS17 k_sz_32_1 rfl rfl rfl rfl rfl rfl rfl (Nat.le_of_ble_eq_true rfl) rfl rfl) ?_ ?_
        ·rintro _ w_11 ⟨rfl, hS18⟩
         have hS18 : ST w0 [] _ [⟨aD b, 64, [vi g.Kind, vi g.A, vi g.B], 3⟩, ⟨aD b1, 38, [vi 0, vi 0, .slice none 0 0], 3⟩, ⟨aD b2, 38, [vi (shlK .i64 1 (IntKind.u64.wrap n)), vi (shlK .i64 1 (IntKind.u64.wrap n)), .slice B3 ((Cells1 ++ [r_1]).length) c3], 3⟩, ⟨B3, 44, ((Cells1 ++ [r_1]).flatMap eN0), c3 * 5⟩, ⟨aD b3, 44, ([r_1].flatMap eN0), 1 * 5⟩] [] := hS18
         refine ⟨(ST.sel hS18 [0, 1] rfl rfl), ?_⟩
         refine ra_done (by kernel_rfl) ?_
         exact ⟨B3, c3, (FF.cons (hf1.get 0 0 rfl) (FF.cons (hf1.get 3 1 rfl) (FF.cons (hf1.get 4 2 rfl) (FF.cons (hf1.get 5 3 rfl) (FF.cons (hf1.get 6 4 rfl) (FF.cons (hf1.get 7 5 rfl) (FF.cons (hf1.get 8 6 rfl) FF.nil))))))), (hS18.sel [0, 1, 2, 3] rfl rfl)⟩
        exact allR_nil
       exact allR_nil
      exact allR_nil
     refine ra_s 32 (i := 7) rfl rfl rfl (Ys_bslice (s := 5) (len := 1) (vs := [(0, .agg #[vi r_1.Num.A, vi r_1.Num.B, vi r_1.Num.C, vi r_1.Num.D, vi r_1.Exp])]) (cs := [vi r_1.Num.A, vi r_1.Num.B, vi r_1.Num.C, vi r_1.Num.D, vi r_1.Exp]) (zs := [vi 0, vi 0, vi 0, vi 0, vi 0]) (m := 5) hS15 k_sl_32_44 k_sz_44_5 k_zc_44 rfl (mpc rfl mpn) rfl rfl rfl (by kernel_rfl) (by kernel_rfl) rfl) ?_ ?_
     ·rintro _ w_12 ⟨b3, rfl, hS19⟩
      have hS19 : ST w0 [] _ [⟨aD b, 64, [vi g.Kind, vi g.A, vi g.B], 3⟩, ⟨aD b1, 38, [vi 0, vi 0, .slice none 0 0], 3⟩, ⟨aD b2, 38, [vi (shlK .i64 1 (IntKind.u64.wrap n)), vi (shlK .i64 1 (IntKind.u64.wrap n)), .slice B2 Cells1.length c2], 3⟩, ⟨B2, 44, (Cells1.flatMap eN0), c2 * 5⟩, ⟨aD b3, 44, ([r_1].flatMap eN0), 1 * 5⟩] [] := hS19
      refine ⟨(ST.sel hS19 [0, 1] rfl rfl), ?_⟩
      refine ra_all (rs := [1]) (by kernel_rfl) rfl ?_
      refine ra_y 26 (i := 1) (v := .slice B2 Cells1.length c2) rfl rfl rfl (Y_load1 (B := aD b2) (i := 2) (cs := [vi (shlK .i64 1 (IntKind.u64.wrap n)), vi (shlK .i64 1 (IntKind.u64.wrap n)), .slice B2 Cells1.length c2]) (v := .slice B2 Cells1.length c2) k_sc_32 rfl rfl (hS19.cf (i := 2) rfl) rfl) (ST.sel hS19 [0, 1] rfl rfl) ?_ ?_
      ·skip
       refine ra_all (rs := [8]) (by kernel_rfl) rfl ?_
       refine ra_s 33 (i := 8) rfl rfl rfl (Ys_append (s := 5) (by' := 40) (i := 3) (nn := Cells1.length) (c := c2) (k := 1) (len := (Cells1 ++ [r_1]).length) (B := B2) (xs := ([r_1].flatMap eN0)) (cs' := ((Cells1 ++ [r_1]).flatMap eN0)) hS19 k_sl_32_44 k_sz_44_5 k_by_44_40 k_zero_44 rfl (by decide) rfl rfl rfl rfl (fm_lenn (l := Cells1) eN3 rfl) rfl (hS19.cf (i := 4) rfl) (fm_lenn (l := [r_1]) eN3 rfl) (fm_one' (enc := eN0) enc_Dyadic_one [r_1]) (by have := hap; omega) (by have := hap; simp only [maxLen]; omega) (fm_app _ _) (app_len (l := Cells1) (l' := [r_1]) rfl rfl)) ?_ ?_
       ·rintro _ w_13 ⟨B3, c3, rfl, hS20⟩
        have hS20 : ST w0 [] _ [⟨aD b, 64, [vi g.Kind, vi g.A, vi g.B], 3⟩, ⟨aD b1, 38, [vi 0, vi 0, .slice none 0 0], 3⟩, ⟨aD b2, 38, [vi (shlK .i64 1 (IntKind.u64.wrap n)), vi (shlK .i64 1 (IntKind.u64.wrap n)), .slice B2 Cells1.length c2], 3⟩, ⟨B3, 44, ((Cells1 ++ [r_1]).flatMap eN0), c3 * 5⟩, ⟨aD b3, 44, ([r_1].flatMap eN0), 1 * 5⟩] [] := hS20
        refine ⟨(ST.sel hS20 [0, 1] rfl rfl), ?_⟩
        refine ra_q 9 34 (v := pt (aD b2) 2) rfl rfl rfl (by kernel_rfl) (by kernel_rfl) (by kernel_rfl) (ST.sel hS20 [0, 1] rfl rfl) (fun w' hw' => (Y_fieldAddr (B := aD b2) (i := 0) (s := 0) k_fd_38_2_2_32 k_sz_32_1 rfl (hf1.get 6 4 rfl))) ?_
        refine ra_all (rs := [10]) (by kernel_rfl) rfl ?_
        refine ra_s0 (i := 10) rfl rfl rfl (Ys_store (i := 2) (s := 1) (B := aD b2) (T' := 38) (v := .slice B3 ((Cells1 ++ [r_1]).length) c3) (vs := [.slice B3 ((Cells1 ++ [r_1]).length) c3]) (k := 2) (cs' := [vi (shlK .i64 1 (IntKind.u64.wrap n)), vi (shlK .i64 1 (IntKind.u64.wrap n)), .slice B3 ((Cells1 ++ [r_1]).length) c3]) hS20 k_sz_32_1 rfl rfl rfl rfl rfl rfl rfl (Nat.le_of_ble_eq_true rfl) rfl rfl) ?_ ?_
        ·rintro _ w_14 ⟨rfl, hS21⟩
         have hS21 : ST w0 [] _ [⟨aD b, 64, [vi g.Kind, vi g.A, vi g.B], 3⟩, ⟨aD b1, 38, [vi 0, vi 0, .slice none 0 0], 3⟩, ⟨aD b2, 38, [vi (shlK .i64 1 (IntKind.u64.wrap n)), vi (shlK .i64 1 (IntKind.u64.wrap n)), .slice B3 ((Cells1 ++ [r_1]).length) c3], 3⟩, ⟨B3, 44, ((Cells1 ++ [r_1]).flatMap eN0), c3 * 5⟩, ⟨aD b3, 44, ([r_1].flatMap eN0), 1 * 5⟩] [] := hS21
         refine ⟨(ST.sel hS21 [0, 1] rfl rfl), ?_⟩
         refine ra_done (by kernel_rfl) ?_
         exact ⟨B3, c3, (FF.cons (hf1.get 0 0 rfl) (FF.cons (hf1.get 3 1 rfl) (FF.cons (hf1.get 4 2 rfl) (FF.cons (hf1.get 5 3 rfl) (FF.cons (hf1.get 6 4 rfl) (FF.cons (hf1.get 7 5 rfl) (FF.cons (hf1.get 8 6 rfl) FF.nil))))))), (hS21.sel [0, 1, 2, 3] rfl rfl)⟩
        exact allR_nil
       exact allR_nil
      exact allR_nil
     exact allR_nil
    exact allR_nil
   rintro f w ⟨B4, c4, hf2, hS9⟩
   refine cw_region ?_
   refine sq 23 rfl rfl (Y_move (v := vi (j : Int)) rfl (hf2.get 8 6 rfl)) ?_
   refine sq 24 rfl rfl (Y_add (k := .i64) (a := (j : Int)) (b := 1) rfl rfl rfl) ?_
   refine sq 8 rfl rfl (Y_assign (v := vi (i64.wrap ((j : Int) + 1))) rfl rfl) ?_
   refine rw_nil ?_
   obtain rfl := some_inj hb1
   exact ⟨k_3, Nat.lt_succ_self _, j + 1, (Cells1 ++ [r_1]), B4, c4, (FF.cons (hf2.get 0 0 rfl) (FF.cons (hf2.get 3 1 rfl) (FF.cons (hf2.get 4 2 rfl) (FF.cons (hf2.get 5 3 rfl) (FF.cons (hf2.get 6 4 rfl) (FF.cons (hf2.get 7 5 rfl) (FF.cons (congrArg (Value.int .i64) (wr_succ hlt3 hN1)) FF.nil))))))), (hS9.sel [0, 1, 2, 3] rfl rfl), (by omega), hL3⟩
  ·skip
   obtain rfl : k_2 = 0 := by have h := of_decide_eq_false hlt2; omega
   refine cw_exit rfl ?_
   obtain rfl := some_inj hL2
   refine cw_region ?_
   refine sq 18 rfl rfl (Y_move (v := vi (i1 : Int)) rfl (hf1.get 7 5 rfl)) ?_
   refine sq 19 rfl rfl (Y_add (k := .i64) (a := (i1 : Int)) (b := 1) rfl rfl rfl) ?_
   refine sq 7 rfl rfl (Y_assign (v := vi (i64.wrap ((i1 : Int) + 1))) rfl rfl) ?_
   refine rw_nil ?_
   obtain rfl := some_inj hF2
   exact ⟨k_1, Nat.lt_succ_self _, i1 + 1, Cells1, B2, c2, (FF.cons (hf1.get 0 0 rfl) (FF.cons (hf1.get 3 1 rfl) (FF.cons (hf1.get 4 2 rfl) (FF.cons (hf1.get 5 3 rfl) (FF.cons (hf1.get 6 4 rfl) (FF.cons (congrArg (Value.int .i64) (wr_succ hlt1 hN)) FF.nil)))))), (hS7.sel [0, 1, 2, 3] rfl rfl), (by omega), hL1⟩
 ·skip
  obtain rfl : k_ = 0 := by have h := of_decide_eq_false hlt; omega
  refine cw_exit rfl ?_
  obtain rfl := some_inj hL
  refine cw_seq ?_
  refine cw_region ?_
  refine sq 35 rfl rfl (Y_loadA (B := aD b2) (i := 0) (cs := [vi (shlK .i64 1 (IntKind.u64.wrap n)), vi (shlK .i64 1 (IntKind.u64.wrap n)), .slice B1 Cells.length c1]) (vs := [vi (shlK .i64 1 (IntKind.u64.wrap n)), vi (shlK .i64 1 (IntKind.u64.wrap n)), .slice B1 Cells.length c1]) k_ag_38 k_sz_38_3 rfl (hf.get 6 4 rfl) (hS5.cf (i := 2) rfl) rfl rfl) ?_
  refine ss0 rfl rfl (Ys_store (i := 1) (s := 3) (B := aD b1) (T' := 38) (v := .agg #[vi (shlK .i64 1 (IntKind.u64.wrap n)), vi (shlK .i64 1 (IntKind.u64.wrap n)), .slice B1 Cells.length c1]) (vs := [vi (shlK .i64 1 (IntKind.u64.wrap n)), vi (shlK .i64 1 (IntKind.u64.wrap n)), .slice B1 Cells.length c1]) (k := 0) (cs' := [vi (shlK .i64 1 (IntKind.u64.wrap n)), vi (shlK .i64 1 (IntKind.u64.wrap n)), .slice B1 Cells.length c1]) hS5 k_sz_38_3 rfl (hf.get 4 2 rfl) rfl rfl rfl rfl rfl (Nat.le_of_ble_eq_true rfl) rfl rfl) ?_
  rintro _ w_15 ⟨rfl, hS22⟩
  have hS22 : ST w0 [] _ [⟨aD b, 64, [vi g.Kind, vi g.A, vi g.B], 3⟩, ⟨aD b1, 38, [vi (shlK .i64 1 (IntKind.u64.wrap n)), vi (shlK .i64 1 (IntKind.u64.wrap n)), .slice B1 Cells.length c1], 3⟩, ⟨aD b2, 38, [vi (shlK .i64 1 (IntKind.u64.wrap n)), vi (shlK .i64 1 (IntKind.u64.wrap n)), .slice B1 Cells.length c1], 3⟩, ⟨B1, 44, (Cells.flatMap eN0), c1 * 5⟩] [] := hS22
  refine rw_nil ?_
  refine cw_ret ?_
  obtain rfl := some_inj hF1
  exact ret1 Tryd.results63 (v1 := .agg #[vi (shlK .i64 1 (IntKind.u64.wrap n)), vi (shlK .i64 1 (IntKind.u64.wrap n)), .slice B1 Cells.length c1]) (resAt_cellA (B := aD b1) (i := 0) (cs := [vi (shlK .i64 1 (IntKind.u64.wrap n)), vi (shlK .i64 1 (IntKind.u64.wrap n)), .slice B1 Cells.length c1]) (vs := [vi (shlK .i64 1 (IntKind.u64.wrap n)), vi (shlK .i64 1 (IntKind.u64.wrap n)), .slice B1 Cells.length c1]) (hf.get 4 2 rfl) k_ag_38 k_sz_38_3 (hS22.cf (i := 1) rfl) rfl rfl) ⟨B1, c1, rfl, (ST.subR (R' := []) (hS22.sel [3] rfl rfl) (fun _ h => by cases h))⟩

theorem c_spec_l2C_run (c : Tl2C) (x : TCircuit) (m : TMatrix) (B : Option Addr) (B1 : Option Addr) (c1 n : Nat) (B2 : Option Addr) (c2 n1 : Nat) (w0 : World) (hn : x.Gates.length = n) (hn1 : m.Cells.length = n1) (hS : ST w0 (bl [⟨B, 55, [.bool c.bad], 1⟩, ⟨B2, 44, (m.Cells.flatMap eN0), c2 * 5⟩]) w0 [⟨B, 55, [.bool c.bad], 1⟩, ⟨B2, 44, (m.Cells.flatMap eN0), c2 * 5⟩] [⟨B1, (x.Gates.flatMap enc_Gate)⟩]) {r_ : TMatrix} {m1 : Tl2C} (hF : F_spec_l2C_run c x m = some (r_, m1)) :
  CV Tryd.prog 38 #[pt B 0, .agg #[vi x.Qubits, .slice B1 n c1], .agg #[vi m.Rows, vi m.Cols, .slice B2 n1 c2]] w0 (fun v w' => ∃ (B3 : Option Addr) (c3 : Nat), v = .agg #[vi r_.Rows, vi r_.Cols, .slice B3 r_.Cells.length c3] ∧ ST w0 (bl [⟨B, 55, [.bool c.bad], 1⟩, ⟨B2, 44, (m.Cells.flatMap eN0), c2 * 5⟩]) w' [⟨B, 55, [.bool m1.bad], 1⟩, ⟨B3, 44, (r_.Cells.flatMap eN0), c3 * 5⟩] []) := by
 subst hn
 subst hn1
 unfold F_spec_l2C_run at hF
 refine cv_of_cw 30 Tryd.func38 rfl Tryd.ntmps38 rfl ?_
 refine cw_seq ?_
 refine cw_region ?_
 refine ss 4 rfl rfl (Ys_box (T := 62) (v := .agg #[vi x.Qubits, .slice B1 x.Gates.length c1]) (cs := [vi x.Qubits, .slice B1 x.Gates.length c1]) (m := 2) hS rfl rfl rfl rfl) ?_
 rintro _ w_ ⟨b, rfl, hS1⟩
 have hS1 : ST w0 (bl [⟨B, 55, [.bool c.bad], 1⟩, ⟨B2, 44, (m.Cells.flatMap eN0), c2 * 5⟩]) _ [⟨B, 55, [.bool c.bad], 1⟩, ⟨B2, 44, (m.Cells.flatMap eN0), c2 * 5⟩, ⟨aD b, 62, [vi x.Qubits, .slice B1 x.Gates.length c1], 2⟩] [⟨B1, (x.Gates.flatMap enc_Gate)⟩] := hS1
 refine ss 5 rfl rfl (Ys_box (T := 38) (v := .agg #[vi m.Rows, vi m.Cols, .slice B2 m.Cells.length c2]) (cs := [vi m.Rows, vi m.Cols, .slice B2 m.Cells.length c2]) (m := 3) hS1 rfl rfl rfl rfl) ?_
 rintro _ w_1 ⟨b1, rfl, hS2⟩
 have hS2 : ST w0 (bl [⟨B, 55, [.bool c.bad], 1⟩, ⟨B2, 44, (m.Cells.flatMap eN0), c2 * 5⟩]) _ [⟨B, 55, [.bool c.bad], 1⟩, ⟨B2, 44, (m.Cells.flatMap eN0), c2 * 5⟩, ⟨aD b, 62, [vi x.Qubits, .slice B1 x.Gates.length c1], 2⟩, ⟨aD b1, 38, [vi m.Rows, vi m.Cols, .slice B2 m.Cells.length c2], 3⟩] [⟨B1, (x.Gates.flatMap enc_Gate)⟩] := hS2
 refine ss 6 rfl rfl (Ys_alloc (T := 38) (cs := [vi 0, vi 0, .slice none 0 0]) (m := 3) hS2 k_zero_38 rfl rfl rfl) ?_
 rintro _ w_2 ⟨b2, rfl, hS3⟩
 have hS3 : ST w0 (bl [⟨B, 55, [.bool c.bad], 1⟩, ⟨B2, 44, (m.Cells.flatMap eN0), c2 * 5⟩]) _ [⟨B, 55, [.bool c.bad], 1⟩, ⟨B2, 44, (m.Cells.flatMap eN0), c2 * 5⟩, ⟨aD b, 62, [vi x.Qubits, .slice B1 x.Gates.length c1], 2⟩, ⟨aD b1, 38, [vi m.Rows, vi m.Cols, .slice B2 m.Cells.length c2], 3⟩, ⟨aD b2, 38, [vi 0, vi 0, .slice none 0 0], 3⟩] [⟨B1, (x.Gates.flatMap enc_Gate)⟩] := hS3
 refine rw_nil ?_
 refine cw_seq ?_
 refine cw_seq ?_
 refine cw_region ?_
 refine sq 9 rfl rfl (Y_fieldAddr (B := aD b) (i := 0) (s := 0) k_fd_62_1_1_60 k_sz_60_1 rfl rfl) ?_
 refine sq 10 rfl rfl (Y_load1 (B := aD b) (i := 1) (cs := [vi x.Qubits, .slice B1 x.Gates.length c1]) (v := .slice B1 x.Gates.length c1) k_sc_60 rfl rfl (hS3.cf (i := 2) rfl) rfl) ?_
 refine sq 11 rfl rfl (Y_len (B := B1) (m := x.Gates.length) (c := c1) k_sl_60_64 rfl rfl) ?_
 refine sq 12 rfl rfl (Y_move (v := vi 0) rfl rfl) ?_
 refine rw_nil ?_
 obtain ⟨hN, hF⟩ := chk_inv hF
 obtain ⟨z, hz, hF1⟩ := bind_inv hF
 refine cw_block ?_
 refine cw_loop (fun k f w => ∃ (i : Nat) (bad : Bool) (Rows : Int) (Cols : Int) (Cells : List TDyadic) (B4 : Option Addr) (c4 : Nat), FF f [(0, pt B 0), (4, pt (aD b) 0), (5, pt (aD b1) 0), (6, pt (aD b2) 0), (10, .slice B1 x.Gates.length c1), (11, vi (x.Gates.length : Int)), (12, vi (i : Int))] ∧ ST w0 (bl [⟨B, 55, [.bool c.bad], 1⟩, ⟨B2, 44, (m.Cells.flatMap eN0), c2 * 5⟩]) w [⟨B, 55, [.bool bad], 1⟩, ⟨aD b, 62, [vi x.Qubits, .slice B1 x.Gates.length c1], 2⟩, ⟨aD b1, 38, [vi Rows, vi Cols, .slice B4 Cells.length c4], 3⟩, ⟨B4, 44, (Cells.flatMap eN0), c4 * 5⟩, ⟨aD b2, 38, [vi 0, vi 0, .slice none 0 0], 3⟩] [⟨B1, (x.Gates.flatMap enc_Gate)⟩] ∧ i + k = x.Gates.length ∧ forN (F_spec_l2C_run_l1 x) k i (bad, Rows, Cols, Cells) = some z) x.Gates.length ⟨0, c.bad, m.Rows, m.Cols, m.Cells, B2, c2, (FF.cons rfl (FF.cons rfl (FF.cons rfl (FF.cons rfl (FF.cons rfl (FF.cons rfl (FF.cons rfl FF.nil))))))), (hS3.sel [0, 2, 3, 1, 4] rfl rfl), Nat.zero_add _, hz⟩ ?_
 rintro k_ f w ⟨i, bad, Rows, Cols, Cells, B4, c4, hf, hS4, hik, hL⟩
 refine cw_seq ?_
 refine cw_region ?_
 refine sq 13 rfl rfl (Y_lt (k := .i64) (a := (i : Int)) (b := (x.Gates.length : Int)) rfl (hf.get 12 6 rfl) (hf.get 11 5 rfl)) ?_
 refine rw_nil ?_
 refine cw_seq ?_
 refine cw_cond (b := (decide ((i : Int) < (x.Gates.length : Int)))) rfl (fun hlt => ?_) (fun hlt => ?_)
 ·skip
  have hlt1 : i < x.Gates.length := by have h := of_decide_eq_true hlt; omega
  obtain ⟨k_1, rfl⟩ : ∃ k2, k_ = k2 + 1 := ⟨k_ - 1, by omega⟩
  obtain ⟨y, hb, hL1⟩ := forN_go hL
  unfold F_spec_l2C_run_l1 at hb
  refine cw_skip ?_
  refine cw_seq ?_
  obtain ⟨z1, hz1, hF2⟩ := bind_inv hb
  refine cw_mid (fun f w => ∃ (bad1 : Bool) (Rows1 : Int) (Cols1 : Int) (Cells1 : List TDyadic) (B5 : Option Addr) (c5 : Nat), (bad1, Rows1, Cols1, Cells1) = z1 ∧ FF f [(0, pt B 0), (4, pt (aD b) 0), (5, pt (aD b1) 0), (6, pt (aD b2) 0), (10, .slice B1 x.Gates.length c1), (11, vi (x.Gates.length : Int)), (12, vi (i : Int))] ∧ ST w0 (bl [⟨B, 55, [.bool c.bad], 1⟩, ⟨B2, 44, (m.Cells.flatMap eN0), c2 * 5⟩]) w [⟨B, 55, [.bool bad1], 1⟩, ⟨aD b, 62, [vi x.Qubits, .slice B1 x.Gates.length c1], 2⟩, ⟨aD b1, 38, [vi Rows1, vi Cols1, .slice B5 Cells1.length c5], 3⟩, ⟨B5, 44, (Cells1.flatMap eN0), c5 * 5⟩, ⟨aD b2, 38, [vi 0, vi 0, .slice none 0 0], 3⟩] [⟨B1, (x.Gates.flatMap enc_Gate)⟩]) ?_ ?_
  ·skip
   refine cw_block ?_
   refine cw_seq ?_
   refine cw_region ?_
   obtain ⟨x1, hx, hz1⟩ := bind_inv hz1
   refine sq 14 rfl rfl (Y_index (B := B1) (m := x.Gates.length) (c := c1) (k := .i64) (i := (i : Int)) k_sl_60_64 k_sz_64_3 rfl (hf.get 10 4 rfl) (hf.get 12 6 rfl) (gi_isSome enc_Gate_len rfl (hS4.rf (i := 0) rfl) hx) (getI_nn hx) (getI_ltI hx rfl)) ?_
   refine sq 15 rfl rfl (Y_loadA (B := B1) (i := (i : Int).toNat * 3) (cs := (x.Gates.flatMap enc_Gate)) (vs := [vi x1.Kind, vi x1.A, vi x1.B]) k_ag_64 k_sz_64_3 rfl rfl (hS4.rf (i := 0) rfl) (enc_Gate_len x1) (gi_seg enc_Gate_len hx)) ?_
   refine ss 8 rfl rfl (Ys_alloc (T := 64) (cs := [vi 0, vi 0, vi 0]) (m := 3) hS4 k_zero_64 rfl rfl rfl) ?_
   rintro _ w_3 ⟨b3, rfl, hS6⟩
   have hS6 : ST w0 (bl [⟨B, 55, [.bool c.bad], 1⟩, ⟨B2, 44, (m.Cells.flatMap eN0), c2 * 5⟩]) _ [⟨B, 55, [.bool bad], 1⟩, ⟨aD b, 62, [vi x.Qubits, .slice B1 x.Gates.length c1], 2⟩, ⟨aD b1, 38, [vi Rows, vi Cols, .slice B4 Cells.length c4], 3⟩, ⟨B4, 44, (Cells.flatMap eN0), c4 * 5⟩, ⟨aD b2, 38, [vi 0, vi 0, .slice none 0 0], 3⟩, ⟨aD b3, 64, [vi 0, vi 0, vi 0], 3⟩] [⟨B1, (x.Gates.flatMap enc_Gate)⟩] := hS6
   refine ss0 rfl rfl (Ys_store (i := 5) (s := 3) (B := aD b3) (T' := 64) (v := .agg #[vi x1.Kind, vi x1.A, vi x1.B]) (vs := [vi x1.Kind, vi x1.A, vi x1.B]) (k := 0) (cs' := [vi x1.Kind, vi x1.A, vi x1.B]) hS6 k_sz_64_3 rfl rfl rfl rfl rfl rfl rfl (Nat.le_of_ble_eq_true rfl) rfl rfl) ?_
   rintro _ w_4 ⟨rfl, hS7⟩
   have hS7 : ST w0 (bl [⟨B, 55, [.bool c.bad], 1⟩, ⟨B2, 44, (m.Cells.flatMap eN0), c2 * 5⟩]) _ [⟨B, 55, [.bool bad], 1⟩, ⟨aD b, 62, [vi x.Qubits, .slice B1 x.Gates.length c1], 2⟩, ⟨aD b1, 38, [vi Rows, vi Cols, .slice B4 Cells.length c4], 3⟩, ⟨B4, 44, (Cells.flatMap eN0), c4 * 5⟩, ⟨aD b2, 38, [vi 0, vi 0, .slice none 0 0], 3⟩, ⟨aD b3, 64, [vi x1.Kind, vi x1.A, vi x1.B], 3⟩] [⟨B1, (x.Gates.flatMap enc_Gate)⟩] := hS7
   refine rw_nil ?_
   refine cw_seq ?_
   refine cw_region ?_
   refine sq 16 rfl rfl (Y_move (v := pt B 0) rfl (hf.get 0 0 rfl)) ?_
   refine sq 17 rfl rfl (Y_nilCheck (B := B) (i := 0) rfl rfl) ?_
   refine sq 18 rfl rfl (Y_fieldAddr (B := B) (i := 0) (s := 0) k_fd_55_0_0_4 k_sz_4_1 rfl rfl) ?_
   refine sq 19 rfl rfl (Y_load1 (B := B) (i := 0) (cs := [.bool bad]) (v := .bool bad) k_sc_4 rfl rfl (hS7.cf (i := 0) rfl) rfl) ?_
   refine sq 20 rfl rfl (Y_not (p := bad) rfl rfl) ?_
   refine rw_nil ?_
   refine cw_cond (b := (!bad)) rfl (fun hb1 => ?_) (fun hb1 => ?_)
   ·skip
    have hF3 := ct hz1 hb1
    obtain ⟨r_1, hc, hF3⟩ := bind_inv hF3
    obtain ⟨⟨r_2, m2⟩, hc1, hF3⟩ := bind_inv hF3
    refine cw_mid (fun f w => ∃ (B8 : Option Addr) (c8 : Nat), FF f [(0, pt B 0), (4, pt (aD b) 0), (5, pt (aD b1) 0), (6, pt (aD b2) 0), (10, .slice B1 x.Gates.length c1), (11, vi (x.Gates.length : Int)), (12, vi (i : Int))] ∧ ST w0 (bl [⟨B, 55, [.bool c.bad], 1⟩, ⟨B2, 44, (m.Cells.flatMap eN0), c2 * 5⟩]) w [⟨B, 55, [.bool m2.bad], 1⟩, ⟨aD b, 62, [vi x.Qubits, .slice B1 x.Gates.length c1], 2⟩, ⟨aD b1, 38, [vi r_2.Rows, vi r_2.Cols, .slice B8 r_2.Cells.length c8], 3⟩, ⟨B8, 44, (r_2.Cells.flatMap eN0), c8 * 5⟩, ⟨aD b2, 38, [vi 0, vi 0, .slice none 0 0], 3⟩] [⟨B1, (x.Gates.flatMap enc_Gate)⟩]) ?_ ?_
    ·skip
     refine ra_start (ST.sel hS7 [1, 3, 4, 5] rfl rfl).fn (by kernel_rfl) ?_
     have hS11 := hS7.drew
     refine ra_q 0 21 (v := pt B 0) rfl rfl rfl (by kernel_rfl) (by kernel_rfl) (by kernel_rfl) (ST.sel hS11 [1, 3, 4, 5] rfl rfl) (fun w' hw' => (Y_move (v := pt B 0) rfl (hf.get 0 0 rfl))) ?_
     refine ra_q 1 22 (v := pt (aD b) 0) rfl rfl rfl (by kernel_rfl) (by kernel_rfl) (by kernel_rfl) (ST.sel hS11 [1, 3, 4, 5] rfl rfl) (fun w' hw' => (Y_fieldAddr (B := aD b) (i := 0) (s := 0) k_fd_62_0_0_3 k_sz_3_1 rfl (hf.get 4 1 rfl))) ?_
     refine ra_q 2 23 (v := vi x.Qubits) rfl rfl rfl (by kernel_rfl) (by kernel_rfl) (by kernel_rfl) (ST.sel hS11 [1, 3, 4, 5] rfl rfl) (fun w' hw' => (Y_load1 (B := aD b) (i := 0) (cs := [vi x.Qubits, .slice B1 x.Gates.length c1]) (v := vi x.Qubits) k_sc_3 rfl rfl (ST.cf hw' (i := 0) rfl) rfl)) ?_
     refine ra_q 3 24 (v := .agg #[vi x1.Kind, vi x1.A, vi x1.B]) rfl rfl rfl (by kernel_rfl) (by kernel_rfl) (by kernel_rfl) (ST.sel hS11 [1, 3, 4, 5] rfl rfl) (fun w' hw' => (Y_loadA (B := aD b3) (i := 0) (cs := [vi x1.Kind, vi x1.A, vi x1.B]) (vs := [vi x1.Kind, vi x1.A, vi x1.B]) k_ag_64 k_sz_64_3 rfl rfl (ST.cf hw' (i := 3) rfl) rfl rfl)) ?_
     refine ra_all (rs := [4, 5]) (by kernel_rfl) rfl ?_
     refine ra_c 25 (i := 4) rfl rfl rfl (Yc_func (g := 63) (vs := [vi x.Qubits, .agg #[vi x1.Kind, vi x1.A, vi x1.B]]) k_call_63 rfl (mc rfl (mc rfl mn)) (c_spec_l6Gate x.Qubits x1 _  (hS11.inn0 [] rfl) hc)) ?_ ?_
     ·rintro _ w_5 ⟨B6, c6, rfl, hd⟩
      have hS12 := hS11.out0 hd
      have hS12 : ST w0 (bl [⟨B, 55, [.bool c.bad], 1⟩, ⟨B2, 44, (m.Cells.flatMap eN0), c2 * 5⟩]) _ [⟨B, 55, [.bool bad], 1⟩, ⟨aD b, 62, [vi x.Qubits, .slice B1 x.Gates.length c1], 2⟩, ⟨aD b1, 38, [vi Rows, vi Cols, .slice B4 Cells.length c4], 3⟩, ⟨B4, 44, (Cells.flatMap eN0), c4 * 5⟩, ⟨aD b2, 38, [vi 0, vi 0, .slice none 0 0], 3⟩, ⟨aD b3, 64, [vi x1.Kind, vi x1.A, vi x1.B], 3⟩, ⟨B6, 44, (r_1.Cells.flatMap eN0), c6 * 5⟩] [⟨B1, (x.Gates.flatMap enc_Gate)⟩] := hS12
      refine ⟨(ST.sel hS12 [1, 3, 4, 5] rfl rfl), ?_⟩
      refine ra_all (rs := [5]) (by kernel_rfl) rfl ?_
      refine ra_y 26 (i := 5) (v := .agg #[vi Rows, vi Cols, .slice B4 Cells.length c4]) rfl rfl rfl (Y_loadA (B := aD b1) (i := 0) (cs := [vi Rows, vi Cols, .slice B4 Cells.length c4]) (vs := [vi Rows, vi Cols, .slice B4 Cells.length c4]) k_ag_38 k_sz_38_3 rfl (hf.get 5 2 rfl) (hS12.cf (i := 2) rfl) rfl rfl) (ST.sel hS12 [1, 3, 4, 5] rfl rfl) ?_ ?_
      ·skip
       refine ra_all (rs := [6]) (by kernel_rfl) rfl ?_
       refine ra_c 27 (i := 6) rfl rfl rfl (Yc_func (g := 20) (vs := [pt B 0, .agg #[vi r_1.Rows, vi r_1.Cols, .slice B6 r_1.Cells.length c6], .agg #[vi Rows, vi Cols, .slice B4 Cells.length c4]]) k_call_20 rfl (mc rfl (mc rfl (mc rfl mn))) (c_spec_l2C_times (Tl2C.mk bad) r_1 (TMatrix.mk Rows Cols Cells) B B6 c6 r_1.Cells.length B4 c4 Cells.length _ rfl rfl (hS12.inn [true, false, false, false, false, false, false] rfl [(false, 5), (false, 2)] rfl) hc1)) ?_ ?_
       ·rintro _ w_6 ⟨B7, c7, rfl, hd1⟩
        have hS13 := hS12.out [true, false, false, false, false, false, false] rfl hd1
        have hS13 : ST w0 (bl [⟨B, 55, [.bool c.bad], 1⟩, ⟨B2, 44, (m.Cells.flatMap eN0), c2 * 5⟩]) _ [⟨aD b, 62, [vi x.Qubits, .slice B1 x.Gates.length c1], 2⟩, ⟨aD b1, 38, [vi Rows, vi Cols, .slice B4 Cells.length c4], 3⟩, ⟨B4, 44, (Cells.flatMap eN0), c4 * 5⟩, ⟨aD b2, 38, [vi 0, vi 0, .slice none 0 0], 3⟩, ⟨aD b3, 64, [vi x1.Kind, vi x1.A, vi x1.B], 3⟩, ⟨B6, 44, (r_1.Cells.flatMap eN0), c6 * 5⟩, ⟨B, 55, [.bool m2.bad], 1⟩, ⟨B7, 44, (r_2.Cells.flatMap eN0), c7 * 5⟩] [⟨B1, (x.Gates.flatMap enc_Gate)⟩] := hS13
        refine ⟨(ST.sel hS13 [0, 2, 3, 4] rfl rfl), ?_⟩
        refine ra_all (rs := [7]) (by kernel_rfl) rfl ?_
        refine ra_s0 (i := 7) rfl rfl rfl (Ys_store (i := 1) (s := 3) (B := aD b1) (T' := 38) (v := .agg #[vi r_2.Rows, vi r_2.Cols, .slice B7 r_2.Cells.length c7]) (vs := [vi r_2.Rows, vi r_2.Cols, .slice B7 r_2.Cells.length c7]) (k := 0) (cs' := [vi r_2.Rows, vi r_2.Cols, .slice B7 r_2.Cells.length c7]) hS13 k_sz_38_3 rfl (hf.get 5 2 rfl) rfl rfl rfl rfl rfl (Nat.le_of_ble_eq_true rfl) rfl rfl) ?_ ?_
        ·rintro _ w_7 ⟨rfl, hS14⟩
         have hS14 : ST w0 (bl [⟨B, 55, [.bool c.bad], 1⟩, ⟨B2, 44, (m.Cells.flatMap eN0), c2 * 5⟩]) _ [⟨aD b, 62, [vi x.Qubits, .slice B1 x.Gates.length c1], 2⟩, ⟨aD b1, 38, [vi r_2.Rows, vi r_2.Cols, .slice B7 r_2.Cells.length c7], 3⟩, ⟨B4, 44, (Cells.flatMap eN0), c4 * 5⟩, ⟨aD b2, 38, [vi 0, vi 0, .slice none 0 0], 3⟩, ⟨aD b3, 64, [vi x1.Kind, vi x1.A, vi x1.B], 3⟩, ⟨B6, 44, (r_1.Cells.flatMap eN0), c6 * 5⟩, ⟨B, 55, [.bool m2.bad], 1⟩, ⟨B7, 44, (r_2.Cells.flatMap eN0), c7 * 5⟩] [⟨B1, (x.Gates.flatMap enc_Gate)⟩] := hS14
         refine ⟨(ST.sel hS14 [0, 2, 3, 4] rfl rfl), ?_⟩
         refine ra_done (by kernel_rfl) ?_
         exact ⟨B7, c7, (FF.cons (hf.get 0 0 rfl) (FF.cons (hf.get 4 1 rfl) (FF.cons (hf.get 5 2 rfl) (FF.cons (hf.get 6 3 rfl) (FF.cons (hf.get 10 4 rfl) (FF.cons (hf.get 11 5 rfl) (FF.cons (hf.get 12 6 rfl) FF.nil))))))), (hS14.sel [6, 0, 1, 7, 3] rfl rfl)⟩
        exact allR_nil
       exact allR_nil
      exact allR_nil
     refine ra_y 26 (i := 5) (v := .agg #[vi Rows, vi Cols, .slice B4 Cells.length c4]) rfl rfl rfl (Y_loadA (B := aD b1) (i := 0) (cs := [vi Rows, vi Cols, .slice B4 Cells.length c4]) (vs := [vi Rows, vi Cols, .slice B4 Cells.length c4]) k_ag_38 k_sz_38_3 rfl (hf.get 5 2 rfl) (hS11.cf (i := 2) rfl) rfl rfl) (ST.sel hS11 [1, 3, 4, 5] rfl rfl) ?_ ?_
     ·skip
      refine ra_all (rs := [4]) (by kernel_rfl) rfl ?_
      refine ra_c 25 (i := 4) rfl rfl rfl (Yc_func (g := 63) (vs := [vi x.Qubits, .agg #[vi x1.Kind, vi x1.A, vi x1.B]]) k_call_63 rfl (mc rfl (mc rfl mn)) (c_spec_l6Gate x.Qubits x1 _  (hS11.inn0 [] rfl) hc)) ?_ ?_
      ·rintro _ w_8 ⟨B6, c6, rfl, hd2⟩
       have hS15 := hS11.out0 hd2
       have hS15 : ST w0 (bl [⟨B, 55, [.bool c.bad], 1⟩, ⟨B2, 44, (m.Cells.flatMap eN0), c2 * 5⟩]) _ [⟨B, 55, [.bool bad], 1⟩, ⟨aD b, 62, [vi x.Qubits, .slice B1 x.Gates.length c1], 2⟩, ⟨aD b1, 38, [vi Rows, vi Cols, .slice B4 Cells.length c4], 3⟩, ⟨B4, 44, (Cells.flatMap eN0), c4 * 5⟩, ⟨aD b2, 38, [vi 0, vi 0, .slice none 0 0], 3⟩, ⟨aD b3, 64, [vi x1.Kind, vi x1.A, vi x1.B], 3⟩, ⟨B6, 44, (r_1.Cells.flatMap eN0), c6 * 5⟩] [⟨B1, (x.Gates.flatMap enc_Gate)⟩] := hS15
       refine ⟨(ST.sel hS15 [1, 3, 4, 5] rfl rfl), ?_⟩
       refine ra_all (rs := [6]) (by kernel_rfl) rfl ?_
       refine ra_c 27 (i := 6) rfl rfl rfl (Yc_func (g := 20) (vs := [pt B 0, .agg #[vi r_1.Rows, vi r_1.Cols, .slice B6 r_1.Cells.length c6], .agg #[vi Rows, vi Cols, .slice B4 Cells.length c4]]) k_call_20 rfl (mc rfl (mc rfl (mc rfl mn))) (c_spec_l2C_times (Tl2C.mk bad) r_1 (TMatrix.mk Rows Cols Cells) B B6 c6 r_1.Cells.length B4 c4 Cells.length _ rfl rfl (hS15.inn [true, false, false, false, false, false, false] rfl [(false, 5), (false, 2)] rfl) hc1)) ?_ ?_
       ·rintro _ w_9 ⟨B7, c7, rfl, hd3⟩
        have hS16 := hS15.out [true, false, false, false, false, false, false] rfl hd3
        have hS16 : ST w0 (bl [⟨B, 55, [.bool c.bad], 1⟩, ⟨B2, 44, (m.Cells.flatMap eN0), c2 * 5⟩]) _ [⟨aD b, 62, [vi x.Qubits, .slice B1 x.Gates.length c1], 2⟩, ⟨aD b1, 38, [vi Rows, vi Cols, .slice B4 Cells.length c4], 3⟩, ⟨B4, 44, (Cells.flatMap eN0), c4 * 5⟩, ⟨aD b2, 38, [vi 0, vi 0, .slice none 0 0], 3⟩, ⟨aD b3, 64, [vi x1.Kind, vi x1.A, vi x1.B], 3⟩, ⟨B6, 44, (r_1.Cells.flatMap eN0), c6 * 5⟩, ⟨B, 55, [.bool m2.bad], 1⟩, ⟨B7, 44, (r_2.Cells.flatMap eN0), c7 * 5⟩] [⟨B1, (x.Gates.flatMap enc_Gate)⟩] := hS16
        refine ⟨(ST.sel hS16 [0, 2, 3, 4] rfl rfl), ?_⟩
        refine ra_all (rs := [7]) (by kernel_rfl) rfl ?_
        refine ra_s0 (i := 7) rfl rfl rfl (Ys_store (i := 1) (s := 3) (B := aD b1) (T' := 38) (v := .agg #[vi r_2.Rows, vi r_2.Cols, .slice B7 r_2.Cells.length c7]) (vs := [vi r_2.Rows, vi r_2.Cols, .slice B7 r_2.Cells.length c7]) (k := 0) (cs' := [vi r_2.Rows, vi r_2.Cols, .slice B7 r_2.Cells.length c7]) hS16 k_sz_38_3 rfl (hf.get 5 2 rfl) rfl rfl rfl rfl rfl (Nat.le_of_ble_eq_true rfl) rfl rfl) ?_ ?_
        ·rintro _ w_10 ⟨rfl, hS17⟩
         have hS17 : ST w0 (bl [⟨B, 55, [.bool c.bad], 1⟩, ⟨B2, 44, (m.Cells.flatMap eN0), c2 * 5⟩]) _ [⟨aD b, 62, [vi x.Qubits, .slice B1 x.Gates.length c1], 2⟩, ⟨aD b1, 38, [vi r_2.Rows, vi r_2.Cols, .slice B7 r_2.Cells.length c7], 3⟩, ⟨B4, 44, (Cells.flatMap eN0), c4 * 5⟩, ⟨aD b2, 38, [vi 0, vi 0, .slice none 0 0], 3⟩, ⟨aD b3, 64, [vi x1.Kind, vi x1.A, vi x1.B], 3⟩, ⟨B6, 44, (r_1.Cells.flatMap eN0), c6 * 5⟩, ⟨B, 55, [.bool m2.bad], 1⟩, ⟨B7, 44, (r_2.Cells.flatMap eN0), c7 * 5⟩] [⟨B1, (x.Gates.flatMap enc_Gate)⟩] := hS17
         refine ⟨(ST.sel hS17 [0, 2, 3, 4] rfl rfl), ?_⟩
         refine ra_done (by kernel_rfl) ?_
         exact ⟨B7, c7, (FF.cons (hf.get 0 0 rfl) (FF.cons (hf.get 4 1 rfl) (FF.cons (hf.get 5 2 rfl) (FF.cons (hf.get 6 3 rfl) (FF.cons (hf.get 10 4 rfl) (FF.cons (hf.get 11 5 rfl) (FF.cons (hf.get 12 6 rfl) FF.nil))))))), (hS17.sel [6, 0, 1, 7, 3] rfl rfl)⟩
        exact allR_nil
       exact allR_nil
      exact allR_nil
     exact allR_nil
    rintro f w ⟨B8, c8, hf2, hS10⟩
    exact ⟨m2.bad, r_2.Rows, r_2.Cols, r_2.Cells, B8, c8, (some_inj hF3), (FF.cons (hf2.get 0 0 rfl) (FF.cons (hf2.get 4 1 rfl) (FF.cons (hf2.get 5 2 rfl) (FF.cons (hf2.get 6 3 rfl) (FF.cons (hf2.get 10 4 rfl) (FF.cons (hf2.get 11 5 rfl) (FF.cons (hf2.get 12 6 rfl) FF.nil))))))), (hS10.sel [0, 1, 2, 3, 4] rfl rfl)⟩
   ·skip
    have hF4 := cf' hz1 hb1
    refine cw_skip ?_
    exact ⟨bad, Rows, Cols, Cells, B4, c4, (some_inj hF4), (FF.cons (hf.get 0 0 rfl) (FF.cons (hf.get 4 1 rfl) (FF.cons (hf.get 5 2 rfl) (FF.cons (hf.get 6 3 rfl) (FF.cons (hf.get 10 4 rfl) (FF.cons (hf.get 11 5 rfl) (FF.cons (hf.get 12 6 rfl) FF.nil))))))), (hS7.sel [0, 1, 2, 3, 4] rfl rfl)⟩
  rintro f w ⟨bad1, Rows1, Cols1, Cells1, B5, c5, rfl, hf1, hS5⟩
  refine cw_region ?_
  refine sq 28 rfl rfl (Y_add (k := .i64) (a := (i : Int)) (b := 1) rfl (hf1.get 12 6 rfl) rfl) ?_
  refine sq 12 rfl rfl (Y_move (v := vi (i64.wrap ((i : Int) + 1))) rfl rfl) ?_
  refine rw_nil ?_
  obtain rfl := some_inj hF2
  exact ⟨k_1, Nat.lt_succ_self _, i + 1, bad1, Rows1, Cols1, Cells1, B5, c5, (FF.cons (hf1.get 0 0 rfl) (FF.cons (hf1.get 4 1 rfl) (FF.cons (hf1.get 5 2 rfl) (FF.cons (hf1.get 6 3 rfl) (FF.cons (hf1.get 10 4 rfl) (FF.cons (hf1.get 11 5 rfl) (FF.cons (congrArg (Value.int .i64) (wr_succ hlt1 hN)) FF.nil))))))), (hS5.sel [0, 1, 2, 3, 4] rfl rfl), (by omega), hL1⟩
 ·skip
  obtain rfl : k_ = 0 := by have h := of_decide_eq_false hlt; omega
  refine cw_exit rfl ?_
  obtain rfl := some_inj hL
  refine cw_seq ?_
  refine cw_region ?_
  refine sq 29 rfl rfl (Y_loadA (B := aD b1) (i := 0) (cs := [vi Rows, vi Cols, .slice B4 Cells.length c4]) (vs := [vi Rows, vi Cols, .slice B4 Cells.length c4]) k_ag_38 k_sz_38_3 rfl (hf.get 5 2 rfl) (hS4.cf (i := 2) rfl) rfl rfl) ?_
  refine ss0 rfl rfl (Ys_store (i := 4) (s := 3) (B := aD b2) (T' := 38) (v := .agg #[vi Rows, vi Cols, .slice B4 Cells.length c4]) (vs := [vi Rows, vi Cols, .slice B4 Cells.length c4]) (k := 0) (cs' := [vi Rows, vi Cols, .slice B4 Cells.length c4]) hS4 k_sz_38_3 rfl (hf.get 6 3 rfl) rfl rfl rfl rfl rfl (Nat.le_of_ble_eq_true rfl) rfl rfl) ?_
  rintro _ w_11 ⟨rfl, hS18⟩
  have hS18 : ST w0 (bl [⟨B, 55, [.bool c.bad], 1⟩, ⟨B2, 44, (m.Cells.flatMap eN0), c2 * 5⟩]) _ [⟨B, 55, [.bool bad], 1⟩, ⟨aD b, 62, [vi x.Qubits, .slice B1 x.Gates.length c1], 2⟩, ⟨aD b1, 38, [vi Rows, vi Cols, .slice B4 Cells.length c4], 3⟩, ⟨B4, 44, (Cells.flatMap eN0), c4 * 5⟩, ⟨aD b2, 38, [vi Rows, vi Cols, .slice B4 Cells.length c4], 3⟩] [⟨B1, (x.Gates.flatMap enc_Gate)⟩] := hS18
  refine rw_nil ?_
  refine cw_ret ?_
  obtain ⟨rfl, rfl⟩ := pr2 (some_inj hF1)
  exact ret1 Tryd.results38 (v1 := .agg #[vi Rows, vi Cols, .slice B4 Cells.length c4]) (resAt_cellA (B := aD b2) (i := 0) (cs := [vi Rows, vi Cols, .slice B4 Cells.length c4]) (vs := [vi Rows, vi Cols, .slice B4 Cells.length c4]) (hf.get 6 3 rfl) k_ag_38 k_sz_38_3 (hS18.cf (i := 4) rfl) rfl rfl) ⟨B4, c4, rfl, (ST.subR (R' := []) (hS18.sel [0, 3] rfl rfl) (fun _ h => by cases h))⟩

theorem c_spec_l3Unit (n : Int)  (w0 : World)  (hS : ST w0 [] w0 [] []) {r_ : TMatrix} (hF : F_spec_l3Unit n = some r_) :
  CV Tryd.prog 39 #[vi n] w0 (fun v w' => ∃ (B : Option Addr) (c : Nat), v = .agg #[vi r_.Rows, vi r_.Cols, .slice B r_.Cells.length c] ∧ ST w0 [] w' [⟨B, 44, (r_.Cells.flatMap eN0), c * 5⟩] []) := by
 unfold F_spec_l3Unit at hF
 refine cv_of_cw 27 Tryd.func39 rfl Tryd.ntmps39 rfl ?_
 refine cw_seq ?_
 refine cw_region ?_
 refine ss 2 rfl rfl (Ys_alloc (T := 38) (cs := [vi 0, vi 0, .slice none 0 0]) (m := 3) hS k_zero_38 rfl rfl rfl) ?_
 rintro _ w_ ⟨b, rfl, hS1⟩
 refine rw_nil ?_
 refine cw_seq ?_
 refine cw_region ?_
 refine sq 5 rfl rfl (Y_move (v := vi n) rfl rfl) ?_
 refine sq 6 rfl rfl (Y_move (v := vi n) rfl rfl) ?_
 refine sq 7 rfl rfl (Y_move (v := vi n) rfl rfl) ?_
 refine sq 8 rfl rfl (Y_move (v := vi n) rfl rfl) ?_
 refine sq 9 rfl rfl (Y_mul (k := .i64) (a := n) (b := n) rfl rfl rfl) ?_
 obtain ⟨hmk, hF⟩ := chk_inv hF
 refine ss 10 rfl rfl (Ys_make (s := 5) (by' := 40) (nn := (i64.wrap (n * n)).toNat) (a := (i64.wrap (n * n))) (b := (i64.wrap (n * n))) (cs := ((List.replicate ((i64.wrap (n * n)).toNat) (TDyadic.mk (TRing.mk 0 0 0 0) 0)).flatMap eN0)) hS1 k_sl_32_44 k_sz_44_5 k_by_44_40 k_zero_44 rfl rfl rfl rfl hmk.1 rfl (by have := hmk; omega) (by have := hmk; omega) (by omega) (fm_rep (enc := eN0) (d := (TDyadic.mk (TRing.mk 0 0 0 0) 0)) rfl _)) ?_
 rintro _ w_1 ⟨b1, rfl, hS2⟩
 have hS2 : ST w0 [] _ [⟨aD b, 38, [vi 0, vi 0, .slice none 0 0], 3⟩, ⟨aD b1, 44, ((List.replicate ((i64.wrap (n * n)).toNat) (TDyadic.mk (TRing.mk 0 0 0 0) 0)).flatMap eN0), ((i64.wrap (n * n)).toNat) * 5⟩] [] := hS2
 refine sq 11 rfl rfl (Y_buildS (zs := [vi 0, vi 0, .slice none 0 0]) (vs := [(0, vi n), (1, vi n), (2, .slice (aD b1) ((i64.wrap (n * n)).toNat) ((i64.wrap (n * n)).toNat))]) (cs := [vi n, vi n, .slice (aD b1) ((i64.wrap (n * n)).toNat) ((i64.wrap (n * n)).toNat)]) k_pl_38 k_zero_38 rfl (mpc rfl (mpc rfl (mpc rfl mpn))) rfl) ?_
 refine ss 3 rfl rfl (Ys_alloc (T := 38) (cs := [vi 0, vi 0, .slice none 0 0]) (m := 3) hS2 k_zero_38 rfl rfl rfl) ?_
 rintro _ w_2 ⟨b2, rfl, hS3⟩
 have hS3 : ST w0 [] _ [⟨aD b, 38, [vi 0, vi 0, .slice none 0 0], 3⟩, ⟨aD b1, 44, ((List.replicate ((i64.wrap (n * n)).toNat) (TDyadic.mk (TRing.mk 0 0 0 0) 0)).flatMap eN0), ((i64.wrap (n * n)).toNat) * 5⟩, ⟨aD b2, 38, [vi 0, vi 0, .slice none 0 0], 3⟩] [] := hS3
 refine ss0 rfl rfl (Ys_store (i := 2) (s := 3) (B := aD b2) (T' := 38) (v := .agg #[vi n, vi n, .slice (aD b1) ((i64.wrap (n * n)).toNat) ((i64.wrap (n * n)).toNat)]) (vs := [vi n, vi n, .slice (aD b1) ((i64.wrap (n * n)).toNat) ((i64.wrap (n * n)).toNat)]) (k := 0) (cs' := [vi n, vi n, .slice (aD b1) ((i64.wrap (n * n)).toNat) ((i64.wrap (n * n)).toNat)]) hS3 k_sz_38_3 rfl rfl rfl rfl rfl rfl rfl (Nat.le_of_ble_eq_true rfl) rfl rfl) ?_
 rintro _ w_3 ⟨rfl, hS4⟩
 have hS4 : ST w0 [] _ [⟨aD b, 38, [vi 0, vi 0, .slice none 0 0], 3⟩, ⟨aD b1, 44, ((List.replicate ((i64.wrap (n * n)).toNat) (TDyadic.mk (TRing.mk 0 0 0 0) 0)).flatMap eN0), ((i64.wrap (n * n)).toNat) * 5⟩, ⟨aD b2, 38, [vi n, vi n, .slice (aD b1) ((i64.wrap (n * n)).toNat) ((i64.wrap (n * n)).toNat)], 3⟩] [] := hS4
 refine rw_nil ?_
 refine cw_seq ?_
 refine cw_seq ?_
 refine cw_region ?_
 refine sq 4 rfl rfl (Y_assign (v := vi 0) rfl rfl) ?_
 refine rw_nil ?_
 obtain ⟨hN, hF⟩ := chk_inv hF
 obtain ⟨z, hz, hF1⟩ := bind_inv hF
 refine cw_block ?_
 refine cw_loop (fun k f w => ∃ (i1 : Nat) (Cells : List TDyadic), FF f [(0, vi n), (2, pt (aD b) 0), (3, pt (aD b2) 0), (4, vi (i1 : Int))] ∧ Cells.length = (i64.wrap (n * n)).toNat ∧ ST w0 [] w [⟨aD b, 38, [vi 0, vi 0, .slice none 0 0], 3⟩, ⟨aD b2, 38, [vi n, vi n, .slice (aD b1) ((i64.wrap (n * n)).toNat) ((i64.wrap (n * n)).toNat)], 3⟩, ⟨aD b1, 44, (Cells.flatMap eN0), ((i64.wrap (n * n)).toNat) * 5⟩] [] ∧ i1 + k = n.toNat ∧ forN (F_spec_l3Unit_l1 n) k i1 Cells = some z) n.toNat ⟨0, (List.replicate ((i64.wrap (n * n)).toNat) (TDyadic.mk (TRing.mk 0 0 0 0) 0)), (FF.cons rfl (FF.cons rfl (FF.cons rfl (FF.cons rfl FF.nil)))), List.length_replicate, (hS4.sel [0, 2, 1] rfl rfl), Nat.zero_add _, hz⟩ ?_
 rintro k_ f w ⟨i1, Cells, hf, hl, hS5, hik, hL⟩
 refine cw_seq ?_
 refine cw_seq ?_
 refine cw_region ?_
 refine sq 12 rfl rfl (Y_move (v := vi (i1 : Int)) rfl (hf.get 4 3 rfl)) ?_
 refine sq 13 rfl rfl (Y_move (v := vi n) rfl (hf.get 0 0 rfl)) ?_
 refine sq 14 rfl rfl (Y_lt (k := .i64) (a := (i1 : Int)) (b := n) rfl rfl rfl) ?_
 refine rw_nil ?_
 refine cw_cond (b := (decide ((i1 : Int) < n))) rfl (fun hlt => ?_) (fun hlt => ?_)
 ·skip
  have hlt1 : i1 < n.toNat := by have h := of_decide_eq_true hlt; omega
  obtain ⟨k_1, rfl⟩ : ∃ k2, k_ = k2 + 1 := ⟨k_ - 1, by omega⟩
  obtain ⟨y, hb, hL1⟩ := forN_go hL
  unfold F_spec_l3Unit_l1 at hb
  refine cw_skip ?_
  refine cw_seq ?_
  refine cw_block ?_
  obtain ⟨r_1, hc, hb⟩ := bind_inv hb
  obtain ⟨x, hx, hb⟩ := bind_inv hb
  refine ra_start (ST.sel hS5 [0, 1] rfl rfl).fn (by kernel_rfl) ?_
  have hS7 := hS5.drew
  refine ra_q 0 17 (v := pt (aD b2) 2) rfl rfl rfl (by kernel_rfl) (by kernel_rfl) (by kernel_rfl) (ST.sel hS7 [0, 1] rfl rfl) (fun w' hw' => (Y_fieldAddr (B := aD b2) (i := 0) (s := 0) k_fd_38_2_2_32 k_sz_32_1 rfl (hf.get 3 2 rfl))) ?_
  refine ra_q 1 18 (v := .slice (aD b1) ((i64.wrap (n * n)).toNat) ((i64.wrap (n * n)).toNat)) rfl rfl rfl (by kernel_rfl) (by kernel_rfl) (by kernel_rfl) (ST.sel hS7 [0, 1] rfl rfl) (fun w' hw' => (Y_load1 (B := aD b2) (i := 2) (cs := [vi n, vi n, .slice (aD b1) ((i64.wrap (n * n)).toNat) ((i64.wrap (n * n)).toNat)]) (v := .slice (aD b1) ((i64.wrap (n * n)).toNat) ((i64.wrap (n * n)).toNat)) k_sc_32 rfl rfl (ST.cf hw' (i := 1) rfl) rfl)) ?_
  refine ra_q 2 19 (v := vi (i1 : Int)) rfl rfl rfl (by kernel_rfl) (by kernel_rfl) (by kernel_rfl) (ST.sel hS7 [0, 1] rfl rfl) (fun w' hw' => (Y_move (v := vi (i1 : Int)) rfl (hf.get 4 3 rfl))) ?_
  refine ra_q 3 20 (v := vi n) rfl rfl rfl (by kernel_rfl) (by kernel_rfl) (by kernel_rfl) (ST.sel hS7 [0, 1] rfl rfl) (fun w' hw' => (Y_move (v := vi n) rfl (hf.get 0 0 rfl))) ?_
  refine ra_q 4 21 (v := vi (i64.wrap ((i1 : Int) * n))) rfl rfl rfl (by kernel_rfl) (by kernel_rfl) (by kernel_rfl) (ST.sel hS7 [0, 1] rfl rfl) (fun w' hw' => (Y_mul (k := .i64) (a := (i1 : Int)) (b := n) rfl rfl rfl)) ?_
  refine ra_q 5 22 (v := vi (i1 : Int)) rfl rfl rfl (by kernel_rfl) (by kernel_rfl) (by kernel_rfl) (ST.sel hS7 [0, 1] rfl rfl) (fun w' hw' => (Y_move (v := vi (i1 : Int)) rfl (hf.get 4 3 rfl))) ?_
  refine ra_q 6 23 (v := vi (i64.wrap ((i64.wrap ((i1 : Int) * n)) + (i1 : Int)))) rfl rfl rfl (by kernel_rfl) (by kernel_rfl) (by kernel_rfl) (ST.sel hS7 [0, 1] rfl rfl) (fun w' hw' => (Y_add (k := .i64) (a := (i64.wrap ((i1 : Int) * n))) (b := (i1 : Int)) rfl rfl rfl)) ?_
  refine ra_all (rs := [7]) (by kernel_rfl) rfl ?_
  refine ra_c 24 (i := 7) rfl rfl rfl (Yc_func (g := 57) (vs := [vi 0]) k_call_57 rfl (mc rfl mn) (c_spec_l2Power 0 _  (hS7.inn0 [] rfl) hc)) ?_ ?_
  ·rintro _ w_4 ⟨rfl, hd⟩
   have hS8 := hS7.out00 hd
   have hS8 : ST w0 [] _ [⟨aD b, 38, [vi 0, vi 0, .slice none 0 0], 3⟩, ⟨aD b2, 38, [vi n, vi n, .slice (aD b1) ((i64.wrap (n * n)).toNat) ((i64.wrap (n * n)).toNat)], 3⟩, ⟨aD b1, 44, (Cells.flatMap eN0), ((i64.wrap (n * n)).toNat) * 5⟩] [] := hS8
   refine ⟨(ST.sel hS8 [0, 1] rfl rfl), ?_⟩
   refine ra_all (rs := [8]) (by kernel_rfl) rfl ?_
   refine ra_y 25 (i := 8) (v := pt (aD b1) ((i64.wrap ((i64.wrap ((i1 : Int) * n)) + (i1 : Int))).toNat * 5)) rfl rfl rfl (Y_index (B := aD b1) (m := (i64.wrap (n * n)).toNat) (c := (i64.wrap (n * n)).toNat) (k := .i64) (i := (i64.wrap ((i64.wrap ((i1 : Int) * n)) + (i1 : Int)))) k_sl_32_44 k_sz_44_5 rfl rfl rfl (gi_isSome eN3 rfl (hS8.cf (i := 2) rfl) hx) (getI_nn hx) (getI_ltI hx hl)) (ST.sel hS8 [0, 1] rfl rfl) ?_ ?_
   ·skip
    refine ra_all (rs := [9]) (by kernel_rfl) rfl ?_
    refine ra_s0 (i := 9) rfl rfl rfl (Ys_store (i := 2) (s := 5) (B := aD b1) (T' := 44) (v := .agg #[vi r_1.Num.A, vi r_1.Num.B, vi r_1.Num.C, vi r_1.Num.D, vi r_1.Exp]) (vs := [vi r_1.Num.A, vi r_1.Num.B, vi r_1.Num.C, vi r_1.Num.D, vi r_1.Exp]) (k := (i64.wrap ((i64.wrap ((i1 : Int) * n)) + (i1 : Int))).toNat * 5) (cs' := ((Cells.set (i64.wrap ((i64.wrap ((i1 : Int) * n)) + (i1 : Int))).toNat r_1).flatMap eN0)) hS8 k_sz_44_5 rfl rfl rfl rfl rfl rfl rfl (gi_fit0 eN3 hx) (gi_set eN3 hx r_1 rfl) rfl) ?_ ?_
    ·rintro _ w_5 ⟨rfl, hS9⟩
     have hS9 : ST w0 [] _ [⟨aD b, 38, [vi 0, vi 0, .slice none 0 0], 3⟩, ⟨aD b2, 38, [vi n, vi n, .slice (aD b1) ((i64.wrap (n * n)).toNat) ((i64.wrap (n * n)).toNat)], 3⟩, ⟨aD b1, 44, ((Cells.set (i64.wrap ((i64.wrap ((i1 : Int) * n)) + (i1 : Int))).toNat r_1).flatMap eN0), ((i64.wrap (n * n)).toNat) * 5⟩] [] := hS9
     refine ⟨(ST.sel hS9 [0, 1] rfl rfl), ?_⟩
     refine ra_done (by kernel_rfl) ?_
     refine cw_region ?_
     refine sq 15 rfl rfl (Y_move (v := vi (i1 : Int)) rfl (hf.get 4 3 rfl)) ?_
     refine sq 16 rfl rfl (Y_add (k := .i64) (a := (i1 : Int)) (b := 1) rfl rfl rfl) ?_
     refine sq 4 rfl rfl (Y_assign (v := vi (i64.wrap ((i1 : Int) + 1))) rfl rfl) ?_
     refine rw_nil ?_
     obtain rfl := some_inj hb
     exact ⟨k_1, Nat.lt_succ_self _, i1 + 1, (Cells.set (i64.wrap ((i64.wrap ((i1 : Int) * n)) + (i1 : Int))).toNat r_1), (FF.cons (hf.get 0 0 rfl) (FF.cons (hf.get 2 1 rfl) (FF.cons (hf.get 3 2 rfl) (FF.cons (congrArg (Value.int .i64) (wr_succ hlt1 hN)) FF.nil)))), (set_len _ _ _ hl), (hS9.sel [0, 1, 2] rfl rfl), (by omega), hL1⟩
    exact allR_nil
   exact allR_nil
  exact allR_nil
 ·skip
  obtain rfl : k_ = 0 := by have h := of_decide_eq_false hlt; omega
  refine cw_exit rfl ?_
  obtain rfl := some_inj hL
  refine cw_seq ?_
  refine cw_region ?_
  refine sq 26 rfl rfl (Y_loadA (B := aD b2) (i := 0) (cs := [vi n, vi n, .slice (aD b1) ((i64.wrap (n * n)).toNat) ((i64.wrap (n * n)).toNat)]) (vs := [vi n, vi n, .slice (aD b1) ((i64.wrap (n * n)).toNat) ((i64.wrap (n * n)).toNat)]) k_ag_38 k_sz_38_3 rfl (hf.get 3 2 rfl) (hS5.cf (i := 1) rfl) rfl rfl) ?_
  refine ss0 rfl rfl (Ys_store (i := 0) (s := 3) (B := aD b) (T' := 38) (v := .agg #[vi n, vi n, .slice (aD b1) ((i64.wrap (n * n)).toNat) ((i64.wrap (n * n)).toNat)]) (vs := [vi n, vi n, .slice (aD b1) ((i64.wrap (n * n)).toNat) ((i64.wrap (n * n)).toNat)]) (k := 0) (cs' := [vi n, vi n, .slice (aD b1) ((i64.wrap (n * n)).toNat) ((i64.wrap (n * n)).toNat)]) hS5 k_sz_38_3 rfl (hf.get 2 1 rfl) rfl rfl rfl rfl rfl (Nat.le_of_ble_eq_true rfl) rfl rfl) ?_
  rintro _ w_6 ⟨rfl, hS10⟩
  have hS10 : ST w0 [] _ [⟨aD b, 38, [vi n, vi n, .slice (aD b1) ((i64.wrap (n * n)).toNat) ((i64.wrap (n * n)).toNat)], 3⟩, ⟨aD b2, 38, [vi n, vi n, .slice (aD b1) ((i64.wrap (n * n)).toNat) ((i64.wrap (n * n)).toNat)], 3⟩, ⟨aD b1, 44, (Cells.flatMap eN0), ((i64.wrap (n * n)).toNat) * 5⟩] [] := hS10
  refine rw_nil ?_
  refine cw_ret ?_
  obtain rfl := some_inj hF1
  exact ret1 Tryd.results39 (v1 := .agg #[vi n, vi n, .slice (aD b1) ((i64.wrap (n * n)).toNat) ((i64.wrap (n * n)).toNat)]) (resAt_cellA (B := aD b) (i := 0) (cs := [vi n, vi n, .slice (aD b1) ((i64.wrap (n * n)).toNat) ((i64.wrap (n * n)).toNat)]) (vs := [vi n, vi n, .slice (aD b1) ((i64.wrap (n * n)).toNat) ((i64.wrap (n * n)).toNat)]) (hf.get 2 1 rfl) k_ag_38 k_sz_38_3 (hS10.cf (i := 0) rfl) rfl rfl) ⟨aD b1, (i64.wrap (n * n)).toNat, (by simp [hl]), (ST.subR (R' := []) (hS10.sel [2] rfl rfl) (fun _ h => by cases h))⟩

theorem c_spec_l6Op (x : TCircuit) (B : Option Addr) (c n : Nat) (w0 : World) (hn : x.Gates.length = n) (hS : ST w0 [] w0 [] [⟨B, (x.Gates.flatMap enc_Gate)⟩]) {r_ : TMatrix} (hF : F_spec_l6Op x = some r_) :
  CV Tryd.prog 25 #[.agg #[vi x.Qubits, .slice B n c]] w0 (fun v w' => ∃ (B1 : Option Addr) (c1 : Nat), v = .agg #[vi r_.Rows, vi r_.Cols, .slice B1 r_.Cells.length c1] ∧ ST w0 [] w' [⟨B1, 44, (r_.Cells.flatMap eN0), c1 * 5⟩] []) := by
 subst hn
 unfold F_spec_l6Op at hF
 refine cv_of_cw 14 Tryd.func25 rfl Tryd.ntmps25 rfl ?_
 refine cw_seq ?_
 refine cw_region ?_
 refine ss 1 rfl rfl (Ys_box (T := 62) (v := .agg #[vi x.Qubits, .slice B x.Gates.length c]) (cs := [vi x.Qubits, .slice B x.Gates.length c]) (m := 2) hS rfl rfl rfl rfl) ?_
 rintro _ w_ ⟨b, rfl, hS1⟩
 refine ss 2 rfl rfl (Ys_alloc (T := 38) (cs := [vi 0, vi 0, .slice none 0 0]) (m := 3) hS1 k_zero_38 rfl rfl rfl) ?_
 rintro _ w_1 ⟨b1, rfl, hS2⟩
 have hS2 : ST w0 [] _ [⟨aD b, 62, [vi x.Qubits, .slice B x.Gates.length c], 2⟩, ⟨aD b1, 38, [vi 0, vi 0, .slice none 0 0], 3⟩] [⟨B, (x.Gates.flatMap enc_Gate)⟩] := hS2
 refine rw_nil ?_
 refine cw_seq ?_
 refine cw_region ?_
 refine sq 4 rfl rfl (Y_buildS (zs := [.bool false]) (vs := []) (cs := [.bool false]) k_pl_55 k_zero_55 rfl mpn rfl) ?_
 refine ss 5 rfl rfl (Ys_box (T := 55) (v := .agg #[.bool false]) (cs := [.bool false]) (m := 1) hS2 rfl rfl rfl rfl) ?_
 rintro _ w_2 ⟨b2, rfl, hS3⟩
 have hS3 : ST w0 [] _ [⟨aD b, 62, [vi x.Qubits, .slice B x.Gates.length c], 2⟩, ⟨aD b1, 38, [vi 0, vi 0, .slice none 0 0], 3⟩, ⟨aD b2, 55, [.bool false], 1⟩] [⟨B, (x.Gates.flatMap enc_Gate)⟩] := hS3
 refine sq 3 rfl rfl (Y_assign (v := pt (aD b2) 0) rfl rfl) ?_
 refine rw_nil ?_
 refine cw_seq ?_
 obtain ⟨hsh, hF⟩ := chk_inv hF
 obtain ⟨r_1, hc, hF⟩ := bind_inv hF
 obtain ⟨⟨r_2, m⟩, hc1, hF⟩ := bind_inv hF
 refine ra_start (ST.sel hS3 [0] rfl rfl).fn (by kernel_rfl) ?_
 have hS6 := hS3.drew
 refine ra_q 0 6 (v := pt (aD b2) 0) rfl rfl rfl (by kernel_rfl) (by kernel_rfl) (by kernel_rfl) (ST.sel hS6 [0] rfl rfl) (fun w' hw' => (Y_move (v := pt (aD b2) 0) rfl rfl)) ?_
 refine ra_q 1 7 (v := .agg #[vi x.Qubits, .slice B x.Gates.length c]) rfl rfl rfl (by kernel_rfl) (by kernel_rfl) (by kernel_rfl) (ST.sel hS6 [0] rfl rfl) (fun w' hw' => (Y_loadA (B := aD b) (i := 0) (cs := [vi x.Qubits, .slice B x.Gates.length c]) (vs := [vi x.Qubits, .slice B x.Gates.length c]) k_ag_62 k_sz_62_2 rfl rfl (ST.cf hw' (i := 0) rfl) rfl rfl)) ?_
 refine ra_q 2 8 (v := pt (aD b) 0) rfl rfl rfl (by kernel_rfl) (by kernel_rfl) (by kernel_rfl) (ST.sel hS6 [0] rfl rfl) (fun w' hw' => (Y_fieldAddr (B := aD b) (i := 0) (s := 0) k_fd_62_0_0_3 k_sz_3_1 rfl rfl)) ?_
 refine ra_q 3 9 (v := vi x.Qubits) rfl rfl rfl (by kernel_rfl) (by kernel_rfl) (by kernel_rfl) (ST.sel hS6 [0] rfl rfl) (fun w' hw' => (Y_load1 (B := aD b) (i := 0) (cs := [vi x.Qubits, .slice B x.Gates.length c]) (v := vi x.Qubits) k_sc_3 rfl rfl (ST.cf hw' (i := 0) rfl) rfl)) ?_
 refine ra_q 4 10 (v := .int .u64 (IntKind.u64.wrap x.Qubits)) rfl rfl rfl (by kernel_rfl) (by kernel_rfl) (by kernel_rfl) (ST.sel hS6 [0] rfl rfl) (fun w' hw' => (Y_conv (k := .i64) (a := x.Qubits) (T := 3) (T' := 77) k_us_3 k_int_77_u64 rfl rfl)) ?_
 refine ra_q 5 11 (v := vi (shlK .i64 1 (IntKind.u64.wrap x.Qubits))) rfl rfl rfl (by kernel_rfl) (by kernel_rfl) (by kernel_rfl) (ST.sel hS6 [0] rfl rfl) (fun w' hw' => (Y_shl (k := .i64) (a := 1) (k' := .u64) (b := (IntKind.u64.wrap x.Qubits)) rfl rfl rfl hsh)) ?_
 refine ra_all (rs := [6]) (by kernel_rfl) rfl ?_
 refine ra_c 12 (i := 6) rfl rfl rfl (Yc_func (g := 39) (vs := [vi (shlK .i64 1 (IntKind.u64.wrap x.Qubits))]) k_call_39 rfl (mc rfl mn) (c_spec_l3Unit (shlK .i64 1 (IntKind.u64.wrap x.Qubits)) _  (hS6.inn0 [] rfl) hc)) ?_ ?_
 ·rintro _ w_3 ⟨B2, c2, rfl, hd⟩
  have hS7 := hS6.out0 hd
  have hS7 : ST w0 [] _ [⟨aD b, 62, [vi x.Qubits, .slice B x.Gates.length c], 2⟩, ⟨aD b1, 38, [vi 0, vi 0, .slice none 0 0], 3⟩, ⟨aD b2, 55, [.bool false], 1⟩, ⟨B2, 44, (r_1.Cells.flatMap eN0), c2 * 5⟩] [⟨B, (x.Gates.flatMap enc_Gate)⟩] := hS7
  refine ⟨(ST.sel hS7 [0] rfl rfl), ?_⟩
  refine ra_all (rs := [7]) (by kernel_rfl) rfl ?_
  refine ra_c 13 (i := 7) rfl rfl rfl (Yc_func (g := 38) (vs := [pt (aD b2) 0, .agg #[vi x.Qubits, .slice B x.Gates.length c], .agg #[vi r_1.Rows, vi r_1.Cols, .slice B2 r_1.Cells.length c2]]) k_call_38 rfl (mc rfl (mc rfl (mc rfl mn))) (c_spec_l2C_run (Tl2C.mk false) x r_1 (aD b2) B c x.Gates.length B2 c2 r_1.Cells.length _ rfl rfl (hS7.inn [false, false, true, true] rfl [(true, 0)] rfl) hc1)) ?_ ?_
  ·rintro _ w_4 ⟨B3, c3, rfl, hd1⟩
   have hS8 := hS7.out [false, false, true, true] rfl hd1
   have hS8 : ST w0 [] _ [⟨aD b, 62, [vi x.Qubits, .slice B x.Gates.length c], 2⟩, ⟨aD b1, 38, [vi 0, vi 0, .slice none 0 0], 3⟩, ⟨aD b2, 55, [.bool m.bad], 1⟩, ⟨B3, 44, (r_2.Cells.flatMap eN0), c3 * 5⟩] [⟨B, (x.Gates.flatMap enc_Gate)⟩] := hS8
   refine ⟨(ST.sel hS8 [0] rfl rfl), ?_⟩
   refine ra_all (rs := [8]) (by kernel_rfl) rfl ?_
   refine ra_s0 (i := 8) rfl rfl rfl (Ys_store (i := 1) (s := 3) (B := aD b1) (T' := 38) (v := .agg #[vi r_2.Rows, vi r_2.Cols, .slice B3 r_2.Cells.length c3]) (vs := [vi r_2.Rows, vi r_2.Cols, .slice B3 r_2.Cells.length c3]) (k := 0) (cs' := [vi r_2.Rows, vi r_2.Cols, .slice B3 r_2.Cells.length c3]) hS8 k_sz_38_3 rfl rfl rfl rfl rfl rfl rfl (Nat.le_of_ble_eq_true rfl) rfl rfl) ?_ ?_
   ·rintro _ w_5 ⟨rfl, hS9⟩
    have hS9 : ST w0 [] _ [⟨aD b, 62, [vi x.Qubits, .slice B x.Gates.length c], 2⟩, ⟨aD b1, 38, [vi r_2.Rows, vi r_2.Cols, .slice B3 r_2.Cells.length c3], 3⟩, ⟨aD b2, 55, [.bool m.bad], 1⟩, ⟨B3, 44, (r_2.Cells.flatMap eN0), c3 * 5⟩] [⟨B, (x.Gates.flatMap enc_Gate)⟩] := hS9
    refine ⟨(ST.sel hS9 [0] rfl rfl), ?_⟩
    refine ra_done (by kernel_rfl) ?_
    refine cw_ret ?_
    obtain rfl := some_inj hF
    exact ret1 Tryd.results25 (v1 := .agg #[vi r_2.Rows, vi r_2.Cols, .slice B3 r_2.Cells.length c3]) (resAt_cellA (B := aD b1) (i := 0) (cs := [vi r_2.Rows, vi r_2.Cols, .slice B3 r_2.Cells.length c3]) (vs := [vi r_2.Rows, vi r_2.Cols, .slice B3 r_2.Cells.length c3]) rfl k_ag_38 k_sz_38_3 (hS9.cf (i := 1) rfl) rfl rfl) ⟨B3, c3, rfl, (ST.subR (R' := []) (hS9.sel [3] rfl rfl) (fun _ h => by cases h))⟩
   exact allR_nil
  exact allR_nil
 exact allR_nil

theorem c_spec_l9Word (w_ : List UInt8)  (w0 : World)  (hS : ST w0 [] w0 [] []) {r_ : TMatrix} (hF : F_spec_l9Word w_ = some r_) :
  CV Tryd.prog 11 #[.string (bstr w_)] w0 (fun v w' => ∃ (B : Option Addr) (c : Nat), v = .agg #[vi r_.Rows, vi r_.Cols, .slice B r_.Cells.length c] ∧ ST w0 [] w' [⟨B, 44, (r_.Cells.flatMap eN0), c * 5⟩] []) := by
 unfold F_spec_l9Word at hF
 refine cv_of_cw 26 Tryd.func11 rfl Tryd.ntmps11 rfl ?_
 refine cw_seq ?_
 refine cw_region ?_
 refine ss 2 rfl rfl (Ys_alloc (T := 38) (cs := [vi 0, vi 0, .slice none 0 0]) (m := 3) hS k_zero_38 rfl rfl rfl) ?_
 rintro _ w_1 ⟨b, rfl, hS1⟩
 refine rw_nil ?_
 refine cw_seq ?_
 refine cw_region ?_
 refine sq 6 rfl rfl (Y_buildS (zs := [vi 0, .slice none 0 0]) (vs := [(0, vi 1)]) (cs := [vi 1, .slice none 0 0]) k_pl_62 k_zero_62 rfl (mpc rfl mpn) rfl) ?_
 refine ss 3 rfl rfl (Ys_alloc (T := 62) (cs := [vi 0, .slice none 0 0]) (m := 2) hS1 k_zero_62 rfl rfl rfl) ?_
 rintro _ w_2 ⟨b1, rfl, hS2⟩
 have hS2 : ST w0 [] _ [⟨aD b, 38, [vi 0, vi 0, .slice none 0 0], 3⟩, ⟨aD b1, 62, [vi 0, .slice none 0 0], 2⟩] [] := hS2
 refine ss0 rfl rfl (Ys_store (i := 1) (s := 2) (B := aD b1) (T' := 62) (v := .agg #[vi 1, .slice none 0 0]) (vs := [vi 1, .slice none 0 0]) (k := 0) (cs' := [vi 1, .slice none 0 0]) hS2 k_sz_62_2 rfl rfl rfl rfl rfl rfl rfl (Nat.le_of_ble_eq_true rfl) rfl rfl) ?_
 rintro _ w_3 ⟨rfl, hS3⟩
 have hS3 : ST w0 [] _ [⟨aD b, 38, [vi 0, vi 0, .slice none 0 0], 3⟩, ⟨aD b1, 62, [vi 1, .slice none 0 0], 2⟩] [] := hS3
 refine rw_nil ?_
 refine cw_seq ?_
 refine cw_seq ?_
 refine cw_region ?_
 refine sq 4 rfl rfl (Y_assign (v := vi 0) rfl rfl) ?_
 refine rw_nil ?_
 obtain ⟨hN, hF⟩ := chk_inv hF
 obtain ⟨z, hz, hF1⟩ := bind_inv hF
 have hS5 := hS3.addNil 64
 refine cw_block ?_
 refine cw_loop (fun k f w => ∃ (i1 : Nat) (Gates : List TGate) (B1 : Option Addr) (c1 : Nat), FF f [(0, .string (bstr w_)), (2, pt (aD b) 0), (3, pt (aD b1) 0), (4, vi (i1 : Int))] ∧ ST w0 [] w [⟨aD b, 38, [vi 0, vi 0, .slice none 0 0], 3⟩, ⟨aD b1, 62, [vi 1, .slice B1 Gates.length c1], 2⟩, ⟨B1, 64, (Gates.flatMap enc_Gate), c1 * 3⟩] [] ∧ i1 + k = w_.length ∧ forN (F_spec_l9Word_l1 w_) k i1 Gates = some z) w_.length ⟨0, [], none, 0, (FF.cons rfl (FF.cons rfl (FF.cons rfl (FF.cons rfl FF.nil)))), (hS5.sel [0, 1, 2] rfl rfl), Nat.zero_add _, hz⟩ ?_
 rintro k_ f w ⟨i1, Gates, B1, c1, hf, hS4, hik, hL⟩
 refine cw_seq ?_
 refine cw_seq ?_
 refine cw_region ?_
 refine sq 7 rfl rfl (Y_move (v := vi (i1 : Int)) rfl (hf.get 4 3 rfl)) ?_
 refine sq 8 rfl rfl (Y_move (v := .string (bstr w_)) rfl (hf.get 0 0 rfl)) ?_
 refine sq 9 rfl rfl (Y_slen (a := w_) k_str_9 rfl rfl) ?_
 refine sq 10 rfl rfl (Y_lt (k := .i64) (a := (i1 : Int)) (b := (w_.length : Int)) rfl rfl rfl) ?_
 refine rw_nil ?_
 refine cw_cond (b := (decide ((i1 : Int) < (w_.length : Int)))) rfl (fun hlt => ?_) (fun hlt => ?_)
 ·skip
  have hlt1 : i1 < w_.length := by have h := of_decide_eq_true hlt; omega
  obtain ⟨k_1, rfl⟩ : ∃ k2, k_ = k2 + 1 := ⟨k_ - 1, by omega⟩
  obtain ⟨y, hb, hL1⟩ := forN_go hL
  unfold F_spec_l9Word_l1 at hb
  refine cw_skip ?_
  refine cw_seq ?_
  refine cw_block ?_
  refine cw_seq ?_
  refine cw_region ?_
  refine sq 5 rfl rfl (Y_assign (v := vi 1) rfl rfl) ?_
  refine rw_nil ?_
  refine cw_seq ?_
  obtain ⟨z1, hz1, hF2⟩ := bind_inv hb
  refine cw_mid (fun f w => ∃ (kind : Int), kind = z1 ∧ FF f [(0, .string (bstr w_)), (2, pt (aD b) 0), (3, pt (aD b1) 0), (4, vi (i1 : Int)), (5, vi kind)] ∧ ST w0 [] w [⟨aD b, 38, [vi 0, vi 0, .slice none 0 0], 3⟩, ⟨aD b1, 62, [vi 1, .slice B1 Gates.length c1], 2⟩, ⟨B1, 64, (Gates.flatMap enc_Gate), c1 * 3⟩] []) ?_ ?_
  ·skip
   refine cw_seq ?_
   refine cw_region ?_
   refine sq 13 rfl rfl (Y_move (v := .string (bstr w_)) rfl (hf.get 0 0 rfl)) ?_
   refine sq 14 rfl rfl (Y_move (v := vi (i1 : Int)) rfl (hf.get 4 3 rfl)) ?_
   obtain ⟨x, hx, hz1⟩ := bind_inv hz1
   refine sq 15 rfl rfl (Y_sidx (a := w_) (k := .i64) (i := (i1 : Int)) (b := x) k_str_9 rfl rfl rfl hx) ?_
   refine sq 16 rfl rfl (Y_eq (k := .u8) (a := (x.toNat : Int)) (b := 83) rfl rfl rfl) ?_
   refine rw_nil ?_
   refine cw_cond (b := ((x.toNat : Int) == 83)) rfl (fun hb1 => ?_) (fun hb1 => ?_)
   ·skip
    have hF3 := ct hz1 hb1
    refine cw_region ?_
    refine sq 5 rfl rfl (Y_assign (v := vi 5) rfl rfl) ?_
    refine rw_nil ?_
    exact ⟨5, (some_inj hF3), (FF.cons (hf.get 0 0 rfl) (FF.cons (hf.get 2 1 rfl) (FF.cons (hf.get 3 2 rfl) (FF.cons (hf.get 4 3 rfl) (FF.cons rfl FF.nil))))), (hS4.sel [0, 1, 2] rfl rfl)⟩
   ·skip
    have hF4 := cf' hz1 hb1
    refine cw_skip ?_
    exact ⟨1, (some_inj hF4), (FF.cons (hf.get 0 0 rfl) (FF.cons (hf.get 2 1 rfl) (FF.cons (hf.get 3 2 rfl) (FF.cons (hf.get 4 3 rfl) (FF.cons rfl FF.nil))))), (hS4.sel [0, 1, 2] rfl rfl)⟩
  rintro f w ⟨kind, rfl, hf1, hS6⟩
  refine cw_region ?_
  refine sq 17 rfl rfl (Y_fieldAddr (B := aD b1) (i := 0) (s := 0) k_fd_62_1_1_60 k_sz_60_1 rfl (hf1.get 3 2 rfl)) ?_
  refine sq 18 rfl rfl (Y_load1 (B := aD b1) (i := 1) (cs := [vi 1, .slice B1 Gates.length c1]) (v := .slice B1 Gates.length c1) k_sc_60 rfl rfl (hS6.cf (i := 1) rfl) rfl) ?_
  refine sq 19 rfl rfl (Y_move (v := vi kind) rfl (hf1.get 5 4 rfl)) ?_
  refine sq 20 rfl rfl (Y_buildS (zs := [vi 0, vi 0, vi 0]) (vs := [(0, vi kind)]) (cs := [vi kind, vi 0, vi 0]) k_pl_64 k_zero_64 rfl (mpc rfl mpn) rfl) ?_
  refine ss 21 rfl rfl (Ys_bslice (s := 3) (len := 1) (vs := [(0, .agg #[vi kind, vi 0, vi 0])]) (cs := [vi kind, vi 0, vi 0]) (zs := [vi 0, vi 0, vi 0]) (m := 3) hS6 k_sl_60_64 k_sz_64_3 k_zc_64 rfl (mpc rfl mpn) rfl rfl rfl (by kernel_rfl) (by kernel_rfl) rfl) ?_
  rintro _ w_4 ⟨b2, rfl, hS7⟩
  have hS7 : ST w0 [] _ [⟨aD b, 38, [vi 0, vi 0, .slice none 0 0], 3⟩, ⟨aD b1, 62, [vi 1, .slice B1 Gates.length c1], 2⟩, ⟨B1, 64, (Gates.flatMap enc_Gate), c1 * 3⟩, ⟨aD b2, 64, ([(TGate.mk kind 0 0)].flatMap enc_Gate), 1 * 3⟩] [] := hS7
  obtain ⟨hap, hF2⟩ := chk_inv hF2
  refine ss 22 rfl rfl (Ys_append (s := 3) (by' := 24) (i := 2) (nn := Gates.length) (c := c1) (k := 1) (len := (Gates ++ [(TGate.mk kind 0 0)]).length) (B := B1) (xs := ([(TGate.mk kind 0 0)].flatMap enc_Gate)) (cs' := ((Gates ++ [(TGate.mk kind 0 0)]).flatMap enc_Gate)) hS7 k_sl_60_64 k_sz_64_3 k_by_64_24 k_zero_64 rfl (by decide) rfl rfl rfl rfl (fm_lenn (l := Gates) enc_Gate_len rfl) rfl (hS7.cf (i := 3) rfl) (fm_lenn (l := [(TGate.mk kind 0 0)]) enc_Gate_len rfl) (fm_one' (enc := enc_Gate) enc_Gate_one [(TGate.mk kind 0 0)]) (by have := hap; omega) (by have := hap; simp only [maxLen]; omega) (fm_app _ _) (app_len (l := Gates) (l' := [(TGate.mk kind 0 0)]) rfl rfl)) ?_
  rintro _ w_5 ⟨B2, c2, rfl, hS8⟩
  have hS8 : ST w0 [] _ [⟨aD b, 38, [vi 0, vi 0, .slice none 0 0], 3⟩, ⟨aD b1, 62, [vi 1, .slice B1 Gates.length c1], 2⟩, ⟨B2, 64, ((Gates ++ [(TGate.mk kind 0 0)]).flatMap enc_Gate), c2 * 3⟩, ⟨aD b2, 64, ([(TGate.mk kind 0 0)].flatMap enc_Gate), 1 * 3⟩] [] := hS8
  refine sq 23 rfl rfl (Y_fieldAddr (B := aD b1) (i := 0) (s := 0) k_fd_62_1_1_60 k_sz_60_1 rfl (hf1.get 3 2 rfl)) ?_
  refine ss0 rfl rfl (Ys_store (i := 1) (s := 1) (B := aD b1) (T' := 62) (v := .slice B2 ((Gates ++ [(TGate.mk kind 0 0)]).length) c2) (vs := [.slice B2 ((Gates ++ [(TGate.mk kind 0 0)]).length) c2]) (k := 1) (cs' := [vi 1, .slice B2 ((Gates ++ [(TGate.mk kind 0 0)]).length) c2]) hS8 k_sz_60_1 rfl rfl rfl rfl rfl rfl rfl (Nat.le_of_ble_eq_true rfl) rfl rfl) ?_
  rintro _ w_6 ⟨rfl, hS9⟩
  have hS9 : ST w0 [] _ [⟨aD b, 38, [vi 0, vi 0, .slice none 0 0], 3⟩, ⟨aD b1, 62, [vi 1, .slice B2 ((Gates ++ [(TGate.mk kind 0 0)]).length) c2], 2⟩, ⟨B2, 64, ((Gates ++ [(TGate.mk kind 0 0)]).flatMap enc_Gate), c2 * 3⟩, ⟨aD b2, 64, ([(TGate.mk kind 0 0)].flatMap enc_Gate), 1 * 3⟩] [] := hS9
  refine rw_nil ?_
  refine cw_region ?_
  refine sq 11 rfl rfl (Y_move (v := vi (i1 : Int)) rfl (hf1.get 4 3 rfl)) ?_
  refine sq 12 rfl rfl (Y_add (k := .i64) (a := (i1 : Int)) (b := 1) rfl rfl rfl) ?_
  refine sq 4 rfl rfl (Y_assign (v := vi (i64.wrap ((i1 : Int) + 1))) rfl rfl) ?_
  refine rw_nil ?_
  obtain rfl := some_inj hF2
  exact ⟨k_1, Nat.lt_succ_self _, i1 + 1, (Gates ++ [(TGate.mk kind 0 0)]), B2, c2, (FF.cons (hf1.get 0 0 rfl) (FF.cons (hf1.get 2 1 rfl) (FF.cons (hf1.get 3 2 rfl) (FF.cons (congrArg (Value.int .i64) (wr_succ hlt1 hN)) FF.nil)))), (hS9.sel [0, 1, 2] rfl rfl), (by omega), hL1⟩
 ·skip
  obtain rfl : k_ = 0 := by have h := of_decide_eq_false hlt; omega
  refine cw_exit rfl ?_
  obtain rfl := some_inj hL
  refine cw_seq ?_
  refine cw_region ?_
  refine sq 24 rfl rfl (Y_loadA (B := aD b1) (i := 0) (cs := [vi 1, .slice B1 Gates.length c1]) (vs := [vi 1, .slice B1 Gates.length c1]) k_ag_62 k_sz_62_2 rfl (hf.get 3 2 rfl) (hS4.cf (i := 1) rfl) rfl rfl) ?_
  obtain ⟨r_1, hc, hF1⟩ := bind_inv hF1
  refine sc 25 rfl rfl (Yc_func (g := 25) (vs := [.agg #[vi 1, .slice B1 Gates.length c1]]) k_call_25 rfl (mc rfl mn) (c_spec_l6Op (TCircuit.mk 1 Gates) B1 c1 Gates.length _ rfl (hS4.inn0 [(false, 2)] rfl) hc)) ?_
  rintro _ w_7 ⟨B3, c3, rfl, hd⟩
  have hS10 := hS4.out0 hd
  have hS10 : ST w0 [] _ [⟨aD b, 38, [vi 0, vi 0, .slice none 0 0], 3⟩, ⟨aD b1, 62, [vi 1, .slice B1 Gates.length c1], 2⟩, ⟨B1, 64, (Gates.flatMap enc_Gate), c1 * 3⟩, ⟨B3, 44, (r_1.Cells.flatMap eN0), c3 * 5⟩] [] := hS10
  refine ss0 rfl rfl (Ys_store (i := 0) (s := 3) (B := aD b) (T' := 38) (v := .agg #[vi r_1.Rows, vi r_1.Cols, .slice B3 r_1.Cells.length c3]) (vs := [vi r_1.Rows, vi r_1.Cols, .slice B3 r_1.Cells.length c3]) (k := 0) (cs' := [vi r_1.Rows, vi r_1.Cols, .slice B3 r_1.Cells.length c3]) hS10 k_sz_38_3 rfl (hf.get 2 1 rfl) rfl rfl rfl rfl rfl (Nat.le_of_ble_eq_true rfl) rfl rfl) ?_
  rintro _ w_8 ⟨rfl, hS11⟩
  have hS11 : ST w0 [] _ [⟨aD b, 38, [vi r_1.Rows, vi r_1.Cols, .slice B3 r_1.Cells.length c3], 3⟩, ⟨aD b1, 62, [vi 1, .slice B1 Gates.length c1], 2⟩, ⟨B1, 64, (Gates.flatMap enc_Gate), c1 * 3⟩, ⟨B3, 44, (r_1.Cells.flatMap eN0), c3 * 5⟩] [] := hS11
  refine rw_nil ?_
  refine cw_ret ?_
  obtain rfl := some_inj hF1
  exact ret1 Tryd.results11 (v1 := .agg #[vi r_1.Rows, vi r_1.Cols, .slice B3 r_1.Cells.length c3]) (resAt_cellA (B := aD b) (i := 0) (cs := [vi r_1.Rows, vi r_1.Cols, .slice B3 r_1.Cells.length c3]) (vs := [vi r_1.Rows, vi r_1.Cols, .slice B3 r_1.Cells.length c3]) (hf.get 2 1 rfl) k_ag_38 k_sz_38_3 (hS11.cf (i := 0) rfl) rfl rfl) ⟨B3, c3, rfl, (ST.subR (R' := []) (hS11.sel [3] rfl rfl) (fun _ h => by cases h))⟩

theorem c_spec_l9Same (a : TBloch) (b : TBloch) (B : Option Addr) (c n : Nat) (B1 : Option Addr) (c1 n1 : Nat) (w0 : World) (hn : a.Cells.length = n) (hn1 : b.Cells.length = n1) (hS : ST w0 [] w0 [] [⟨B, (a.Cells.flatMap eN0)⟩, ⟨B1, (b.Cells.flatMap eN0)⟩]) {r_ : Bool} (hF : F_spec_l9Same a b = some r_) :
  CV Tryd.prog 12 #[.agg #[.slice B n c], .agg #[.slice B1 n1 c1]] w0 (fun v w' => v = .bool r_ ∧ ST w0 [] w' [] []) := by
 subst hn
 subst hn1
 unfold F_spec_l9Same at hF
 refine cv_of_cw 24 Tryd.func12 rfl Tryd.ntmps12 rfl ?_
 refine cw_seq ?_
 refine cw_region ?_
 refine ss 2 rfl rfl (Ys_box (T := 34) (v := .agg #[.slice B a.Cells.length c]) (cs := [.slice B a.Cells.length c]) (m := 1) hS rfl rfl rfl rfl) ?_
 rintro _ w_ ⟨b1, rfl, hS1⟩
 refine ss 3 rfl rfl (Ys_box (T := 34) (v := .agg #[.slice B1 b.Cells.length c1]) (cs := [.slice B1 b.Cells.length c1]) (m := 1) hS1 rfl rfl rfl rfl) ?_
 rintro _ w_1 ⟨b2, rfl, hS2⟩
 have hS2 : ST w0 [] _ [⟨aD b1, 34, [.slice B a.Cells.length c], 1⟩, ⟨aD b2, 34, [.slice B1 b.Cells.length c1], 1⟩] [⟨B, (a.Cells.flatMap eN0)⟩, ⟨B1, (b.Cells.flatMap eN0)⟩] := hS2
 refine sq 4 rfl rfl (Y_assign (v := .bool false) rfl rfl) ?_
 refine rw_nil ?_
 refine cw_seq ?_
 refine cw_seq ?_
 refine cw_region ?_
 refine sq 6 rfl rfl (Y_fieldAddr (B := aD b1) (i := 0) (s := 0) k_fd_34_0_0_32 k_sz_32_1 rfl rfl) ?_
 refine sq 7 rfl rfl (Y_load1 (B := aD b1) (i := 0) (cs := [.slice B a.Cells.length c]) (v := .slice B a.Cells.length c) k_sc_32 rfl rfl (hS2.cf (i := 0) rfl) rfl) ?_
 refine sq 8 rfl rfl (Y_len (B := B) (m := a.Cells.length) (c := c) k_sl_32_44 rfl rfl) ?_
 refine sq 9 rfl rfl (Y_move (v := vi 0) rfl rfl) ?_
 refine rw_nil ?_
 obtain ⟨hN, hF⟩ := chk_inv hF
 obtain ⟨z, hz, hF1⟩ := bind_inv hF
 refine cw_block ?_
 refine cw_loop (fun k f w => ∃ (i : Nat), FF f [(2, pt (aD b1) 0), (3, pt (aD b2) 0), (8, vi (a.Cells.length : Int)), (9, vi (i : Int))] ∧ ST w0 [] w [⟨aD b1, 34, [.slice B a.Cells.length c], 1⟩, ⟨aD b2, 34, [.slice B1 b.Cells.length c1], 1⟩] [⟨B, (a.Cells.flatMap eN0)⟩, ⟨B1, (b.Cells.flatMap eN0)⟩] ∧ i + k = a.Cells.length ∧ forX (F_spec_l9Same_l1 a b) k i () = some z) a.Cells.length ⟨0, (FF.cons rfl (FF.cons rfl (FF.cons rfl (FF.cons rfl FF.nil)))), (hS2.sel [0, 1] rfl rfl), Nat.zero_add _, hz⟩ ?_
 rintro k_ f w ⟨i, hf, hS3, hik, hL⟩
 refine cw_seq ?_
 refine cw_region ?_
 refine sq 10 rfl rfl (Y_lt (k := .i64) (a := (i : Int)) (b := (a.Cells.length : Int)) rfl (hf.get 9 3 rfl) (hf.get 8 2 rfl)) ?_
 refine rw_nil ?_
 refine cw_seq ?_
 refine cw_cond (b := (decide ((i : Int) < (a.Cells.length : Int)))) rfl (fun hlt => ?_) (fun hlt => ?_)
 ·skip
  have hlt1 : i < a.Cells.length := by have h := of_decide_eq_true hlt; omega
  obtain ⟨k_1, rfl⟩ : ∃ k2, k_ = k2 + 1 := ⟨k_ - 1, by omega⟩
  obtain ⟨y, hb, hL1⟩ := forX_go hL
  unfold F_spec_l9Same_l1 at hb
  refine cw_skip ?_
  refine cw_seq ?_
  refine cw_block ?_
  refine cw_seq ?_
  refine cw_region ?_
  refine sq 11 rfl rfl (Y_move (v := vi (i : Int)) rfl (hf.get 9 3 rfl)) ?_
  refine sq 5 rfl rfl (Y_assign (v := vi (i : Int)) rfl rfl) ?_
  refine rw_nil ?_
  refine cw_seq ?_
  obtain ⟨x, hx, hb⟩ := bind_inv hb
  obtain ⟨x1, hx1, hb⟩ := bind_inv hb
  refine ra_start (ST.sel hS3 [0, 1] rfl rfl).fn (by kernel_rfl) ?_
  have hS4 := hS3.drew
  refine ra_q 0 12 (v := pt (aD b1) 0) rfl rfl rfl (by kernel_rfl) (by kernel_rfl) (by kernel_rfl) (ST.sel hS4 [0, 1] rfl rfl) (fun w' hw' => (Y_fieldAddr (B := aD b1) (i := 0) (s := 0) k_fd_34_0_0_32 k_sz_32_1 rfl (hf.get 2 0 rfl))) ?_
  refine ra_q 1 13 (v := .slice B a.Cells.length c) rfl rfl rfl (by kernel_rfl) (by kernel_rfl) (by kernel_rfl) (ST.sel hS4 [0, 1] rfl rfl) (fun w' hw' => (Y_load1 (B := aD b1) (i := 0) (cs := [.slice B a.Cells.length c]) (v := .slice B a.Cells.length c) k_sc_32 rfl rfl (ST.cf hw' (i := 0) rfl) rfl)) ?_
  refine ra_q 2 14 (v := vi (i : Int)) rfl rfl rfl (by kernel_rfl) (by kernel_rfl) (by kernel_rfl) (ST.sel hS4 [0, 1] rfl rfl) (fun w' hw' => (Y_move (v := vi (i : Int)) rfl rfl)) ?_
  refine ra_q 3 15 (v := pt B ((i : Int).toNat * 5)) rfl rfl rfl (by kernel_rfl) (by kernel_rfl) (by kernel_rfl) (ST.sel hS4 [0, 1] rfl rfl) (fun w' hw' => (Y_index (B := B) (m := a.Cells.length) (c := c) (k := .i64) (i := (i : Int)) k_sl_32_44 k_sz_44_5 rfl rfl rfl (gi_isSome eN3 rfl (ST.rf hw' (i := 0) rfl) hx) (getI_nn hx) (getI_ltI hx rfl))) ?_
  refine ra_q 4 16 (v := .agg #[vi x.Num.A, vi x.Num.B, vi x.Num.C, vi x.Num.D, vi x.Exp]) rfl rfl rfl (by kernel_rfl) (by kernel_rfl) (by kernel_rfl) (ST.sel hS4 [0, 1] rfl rfl) (fun w' hw' => (Y_loadA (B := B) (i := (i : Int).toNat * 5) (cs := (a.Cells.flatMap eN0)) (vs := [vi x.Num.A, vi x.Num.B, vi x.Num.C, vi x.Num.D, vi x.Exp]) k_ag_44 k_sz_44_5 rfl rfl (ST.rf hw' (i := 0) rfl) (eN3 x) (gi_seg eN3 hx))) ?_
  refine ra_q 5 17 (v := pt (aD b2) 0) rfl rfl rfl (by kernel_rfl) (by kernel_rfl) (by kernel_rfl) (ST.sel hS4 [0, 1] rfl rfl) (fun w' hw' => (Y_fieldAddr (B := aD b2) (i := 0) (s := 0) k_fd_34_0_0_32 k_sz_32_1 rfl (hf.get 3 1 rfl))) ?_
  refine ra_q 6 18 (v := .slice B1 b.Cells.length c1) rfl rfl rfl (by kernel_rfl) (by kernel_rfl) (by kernel_rfl) (ST.sel hS4 [0, 1] rfl rfl) (fun w' hw' => (Y_load1 (B := aD b2) (i := 0) (cs := [.slice B1 b.Cells.length c1]) (v := .slice B1 b.Cells.length c1) k_sc_32 rfl rfl (ST.cf hw' (i := 1) rfl) rfl)) ?_
  refine ra_q 7 19 (v := vi (i : Int)) rfl rfl rfl (by kernel_rfl) (by kernel_rfl) (by kernel_rfl) (ST.sel hS4 [0, 1] rfl rfl) (fun w' hw' => (Y_move (v := vi (i : Int)) rfl rfl)) ?_
  refine ra_q 8 20 (v := pt B1 ((i : Int).toNat * 5)) rfl rfl rfl (by kernel_rfl) (by kernel_rfl) (by kernel_rfl) (ST.sel hS4 [0, 1] rfl rfl) (fun w' hw' => (Y_index (B := B1) (m := b.Cells.length) (c := c1) (k := .i64) (i := (i : Int)) k_sl_32_44 k_sz_44_5 rfl rfl rfl (gi_isSome eN3 rfl (ST.rf hw' (i := 1) rfl) hx1) (getI_nn hx1) (getI_ltI hx1 rfl))) ?_
  refine ra_q 9 21 (v := .agg #[vi x1.Num.A, vi x1.Num.B, vi x1.Num.C, vi x1.Num.D, vi x1.Exp]) rfl rfl rfl (by kernel_rfl) (by kernel_rfl) (by kernel_rfl) (ST.sel hS4 [0, 1] rfl rfl) (fun w' hw' => (Y_loadA (B := B1) (i := (i : Int).toNat * 5) (cs := (b.Cells.flatMap eN0)) (vs := [vi x1.Num.A, vi x1.Num.B, vi x1.Num.C, vi x1.Num.D, vi x1.Exp]) k_ag_44 k_sz_44_5 rfl rfl (ST.rf hw' (i := 1) rfl) (eN3 x1) (gi_seg eN3 hx1))) ?_
  refine ra_q 10 22 (v := .bool (!(((x.Num.A == x1.Num.A) && ((x.Num.B == x1.Num.B) && ((x.Num.C == x1.Num.C) && ((x.Num.D == x1.Num.D) && true)))) && ((x.Exp == x1.Exp) && true)))) rfl rfl rfl (by kernel_rfl) (by kernel_rfl) (by kernel_rfl) (ST.sel hS4 [0, 1] rfl rfl) (fun w' hw' => (Y_neA (xs := #[vi x.Num.A, vi x.Num.B, vi x.Num.C, vi x.Num.D, vi x.Exp]) (ys := #[vi x1.Num.A, vi x1.Num.B, vi x1.Num.C, vi x1.Num.D, vi x1.Exp]) (b := (((x.Num.A == x1.Num.A) && ((x.Num.B == x1.Num.B) && ((x.Num.C == x1.Num.C) && ((x.Num.D == x1.Num.D) && true)))) && ((x.Exp == x1.Exp) && true))) k_eg_44 rfl rfl rfl (eqr_struct (xs := [vi x.Num.A, vi x.Num.B, vi x.Num.C, vi x.Num.D, vi x.Exp]) (ys := [vi x1.Num.A, vi x1.Num.B, vi x1.Num.C, vi x1.Num.D, vi x1.Exp]) k_st_44 k_ho_44 (pts_ag (us := [vi x.Num.A, vi x.Num.B, vi x.Num.C, vi x.Num.D]) (vs := [vi x1.Num.A, vi x1.Num.B, vi x1.Num.C, vi x1.Num.D]) k_ag_42 k_sz_42_4 rfl rfl (eqr_struct (xs := [vi x.Num.A, vi x.Num.B, vi x.Num.C, vi x.Num.D]) (ys := [vi x1.Num.A, vi x1.Num.B, vi x1.Num.C, vi x1.Num.D]) k_st_42 k_ho_42 (pts_sc k_sc_3 rfl rfl (eqr_int k_int_3_i64) (pts_sc k_sc_3 rfl rfl (eqr_int k_int_3_i64) (pts_sc k_sc_3 rfl rfl (eqr_int k_int_3_i64) (pts_sc k_sc_3 rfl rfl (eqr_int k_int_3_i64) pts_nil))))) (pts_sc k_sc_3 rfl rfl (eqr_int k_int_3_i64) pts_nil))))) ?_
  refine ra_done (by kernel_rfl) ?_
  refine cw_cond (b := (!(((x.Num.A == x1.Num.A) && ((x.Num.B == x1.Num.B) && ((x.Num.C == x1.Num.C) && ((x.Num.D == x1.Num.D) && true)))) && ((x.Exp == x1.Exp) && true)))) rfl (fun hb1 => ?_) (fun hb1 => ?_)
  ·skip
   have hF2 := ct hb hb1
   refine cw_seq ?_
   refine cw_region ?_
   refine sq 4 rfl rfl (Y_assign (v := .bool false) rfl rfl) ?_
   refine rw_nil ?_
   refine cw_ret ?_
   obtain rfl := some_inj hF2
   obtain rfl := some_inj hL1
   obtain rfl := some_inj hF1
   exact ret1 Tryd.results12 (v1 := .bool false) (resAt_tmp rfl) ⟨rfl, (ST.subR (R' := []) (hS4.sel [] rfl rfl) (fun _ h => by cases h))⟩
  ·skip
   have hF3 := cf' hb hb1
   refine cw_skip ?_
   refine cw_region ?_
   refine sq 23 rfl rfl (Y_add (k := .i64) (a := (i : Int)) (b := 1) rfl (hf.get 9 3 rfl) rfl) ?_
   refine sq 9 rfl rfl (Y_move (v := vi (i64.wrap ((i : Int) + 1))) rfl rfl) ?_
   refine rw_nil ?_
   obtain rfl := some_inj hF3
   exact ⟨k_1, Nat.lt_succ_self _, i + 1, (FF.cons (hf.get 2 0 rfl) (FF.cons (hf.get 3 1 rfl) (FF.cons (hf.get 8 2 rfl) (FF.cons (congrArg (Value.int .i64) (wr_succ hlt1 hN)) FF.nil)))), (hS4.sel [0, 1] rfl rfl), (by omega), hL1⟩
 ·skip
  obtain rfl : k_ = 0 := by have h := of_decide_eq_false hlt; omega
  refine cw_exit rfl ?_
  obtain rfl := some_inj hL
  refine cw_seq ?_
  refine cw_region ?_
  refine sq 4 rfl rfl (Y_assign (v := .bool true) rfl rfl) ?_
  refine rw_nil ?_
  refine cw_ret ?_
  obtain rfl := some_inj hF1
  exact ret1 Tryd.results12 (v1 := .bool true) (resAt_tmp rfl) ⟨rfl, (ST.subR (R' := []) (hS3.sel [] rfl rfl) (fun _ h => by cases h))⟩
end Go.VK
