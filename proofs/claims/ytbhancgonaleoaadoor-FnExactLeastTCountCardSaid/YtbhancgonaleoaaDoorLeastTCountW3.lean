/- Walks: each Go function returns what its Lean function says. By program. -/
import Derived.Test.YtbhancgonaleoaaDoorLeastTCountFa
import Derived.Test.YtbhancgonaleoaaDoorLeastTCountW2
set_option linter.unusedVariables false
set_option maxRecDepth 100000
set_option maxHeartbeats 1000000
namespace Go.VK
open Go.RowKit
open Go.Proofs
open Go.IntKind
attribute [local irreducible] CW RW RA CV Y Yw Yc Ys RetOf
attribute [local irreducible] F_laws_szDyadicS F_laws_szMatrix F_laws_toRing F_laws_toDyadic F_laws_toDyadicS F_laws_toMatrix F_laws_eqRing F_laws_eqDyadic F_laws_eqDyadicS F_laws_eqMatrix F_spec_l1In F_spec_l1All F_spec_l1Good F_spec_l2C_ring F_spec_l1Root F_spec_l1Even F_spec_l1Half F_spec_l2Low F_spec_l1Add F_spec_l2C_add F_spec_l1Mul F_spec_l2C_mul F_spec_l2C_times F_spec_l1Conj F_spec_l2Conj F_spec_l3Adj F_spec_l1Has F_spec_l3Dim F_spec_l2Good F_spec_l3Good F_spec_EqualMatrices F_spec_l1Turn F_spec_l2Power F_spec_l3Unit F_spec_IsUnitary F_spec_l9Good F_spec_l1Neg F_spec_l2Neg F_spec_l6One F_spec_l9Pauli F_spec_l9Bloch F_spec_BlochOf F_spec_l1Most F_spec_l9Exp F_spec_LeastTCount F_impl_within F_impl_isDim F_slices_IndexFunc_impl_Dyadic_impl_Dyadic F_slices_ContainsFunc_impl_Dyadic_impl_Dyadic F_impl_isCoef F_impl_IsValidRing F_impl_isEven F_impl_IsValidDyadic F_impl_IsValidMatrix_1 F_impl_IsValidMatrix F_impl_matrixOf F_impl_ringIf F_impl_Conjugate F_impl_ConjDyadic F_impl_Matrix_at F_impl_Adjoint_1 F_impl_Adjoint F_impl_MulRing F_impl_DivRootTwo F_impl_DyadicOf F_impl_MulDyadic F_impl_MulRootTwo F_impl_raised F_impl_combined F_impl_AddRing F_impl_AddDyadic F_impl_MulMatrix_1 F_impl_MulMatrix F_impl_whole F_impl_IdentityMatrix_1 F_impl_IdentityMatrix F_slices_Equal_impl_Dyadic_impl_Dyadic F_impl_EqualMatrices F_impl_IsUnitary F_impl_IsOneQubit F_impl_isTwo F_impl_IsValidGate F_impl_MulOmega F_impl_phase F_impl_bitOf F_impl_flipped F_impl_comesFrom F_impl_small F_impl_entry F_impl_GateMatrix_1 F_impl_GateMatrix F_impl_TraceOf F_impl_blochCell F_impl_BlochOf F_impl_blochExp F_impl_LeastTCount F_laws_FnExactLeastTCount
theorem c_spec_l9Bloch (m : TMatrix) (B : Option Addr) (c n : Nat) (w0 : World) (hn : m.Cells.length = n) (hS : ST w0 [] w0 [] [⟨B, (m.Cells.flatMap enc_Dyadic)⟩]) {r_ : TBloch} {r_1 : Bool} (hF : F_spec_l9Bloch m = some (r_, r_1)) :
    CV Tryd.prog 18 #[.agg #[vi m.Rows, vi m.Cols, .slice B n c]] w0 (fun v w' => ∃ (B1 : Option Addr) (c1 : Nat), v = .tuple #[.agg #[.slice B1 r_.Cells.length c1], .bool r_1] ∧ ST w0 [] w' [⟨B1, 49, (r_.Cells.flatMap enc_Dyadic), c1 * 5⟩] []) := by
  subst hn
  unfold F_spec_l9Bloch at hF
  refine cv_of_cw 59 Tryd.func18 rfl Tryd.ntmps18 rfl ?_
  refine cw_seq ?_
  refine cw_region ?_
  refine ss 1 rfl rfl (Ys_box (T := 32) (v := .agg #[vi m.Rows, vi m.Cols, .slice B m.Cells.length c]) (cs := [vi m.Rows, vi m.Cols, .slice B m.Cells.length c]) (m := 3) hS rfl rfl rfl rfl) ?_
  rintro _ w_ ⟨b, rfl, hS1⟩
  refine ss 2 rfl rfl (Ys_alloc (T := 28) (cs := [.slice none 0 0]) (m := 1) hS1 k_zero_28 rfl rfl rfl) ?_
  rintro _ w_1 ⟨b1, rfl, hS2⟩
  have hS2 : ST w0 [] _ [⟨some ⟨b, 0, none⟩, 32, [vi m.Rows, vi m.Cols, .slice B m.Cells.length c], 3⟩, ⟨some ⟨b1, 0, none⟩, 28, [.slice none 0 0], 1⟩] [⟨B, (m.Cells.flatMap enc_Dyadic)⟩] := hS2
  refine sq 3 rfl rfl (Y_assign (v := .bool false) rfl rfl) ?_
  refine rw_nil ?_
  refine cw_seq ?_
  refine cw_region ?_
  refine sq 10 rfl rfl (Y_buildS (zs := [.bool false]) (vs := []) (cs := [.bool false]) k_pl_59 k_zero_59 rfl mpn rfl) ?_
  refine ss 11 rfl rfl (Ys_box (T := 59) (v := .agg #[.bool false]) (cs := [.bool false]) (m := 1) hS2 rfl rfl rfl rfl) ?_
  rintro _ w_2 ⟨b2, rfl, hS3⟩
  have hS3 : ST w0 [] _ [⟨some ⟨b, 0, none⟩, 32, [vi m.Rows, vi m.Cols, .slice B m.Cells.length c], 3⟩, ⟨some ⟨b1, 0, none⟩, 28, [.slice none 0 0], 1⟩, ⟨some ⟨b2, 0, none⟩, 59, [.bool false], 1⟩] [⟨B, (m.Cells.flatMap enc_Dyadic)⟩] := hS3
  refine sq 4 rfl rfl (Y_assign (v := pt (some ⟨b2, 0, none⟩) 0) rfl rfl) ?_
  refine rw_nil ?_
  refine cw_seq ?_
  refine cw_region ?_
  refine ss 5 rfl rfl (Ys_alloc (T := 28) (cs := [.slice none 0 0]) (m := 1) hS3 k_zero_28 rfl rfl rfl) ?_
  rintro _ w_3 ⟨b3, rfl, hS4⟩
  have hS4 : ST w0 [] _ [⟨some ⟨b, 0, none⟩, 32, [vi m.Rows, vi m.Cols, .slice B m.Cells.length c], 3⟩, ⟨some ⟨b1, 0, none⟩, 28, [.slice none 0 0], 1⟩, ⟨some ⟨b2, 0, none⟩, 59, [.bool false], 1⟩, ⟨some ⟨b3, 0, none⟩, 28, [.slice none 0 0], 1⟩] [⟨B, (m.Cells.flatMap enc_Dyadic)⟩] := hS4
  refine rw_nil ?_
  refine cw_seq ?_
  refine cw_seq ?_
  refine cw_region ?_
  refine sq 6 rfl rfl (Y_assign (v := vi 0) rfl rfl) ?_
  refine rw_nil ?_
  obtain ⟨z, hz, hF1⟩ := bind_inv hF
  have hS6 := hS4.addNil 49
  refine cw_block ?_
  refine cw_loop (fun k f w => ∃ (i1 : Nat) (bad : Bool) (Cells : List TDyadic) (B2 : Option Addr) (c2 : Nat), FF f [(1, pt (some ⟨b, 0, none⟩) 0), (2, pt (some ⟨b1, 0, none⟩) 0), (4, pt (some ⟨b2, 0, none⟩) 0), (5, pt (some ⟨b3, 0, none⟩) 0), (6, vi (i1 : Int))] ∧ ST w0 [] w [⟨some ⟨b, 0, none⟩, 32, [vi m.Rows, vi m.Cols, .slice B m.Cells.length c], 3⟩, ⟨some ⟨b1, 0, none⟩, 28, [.slice none 0 0], 1⟩, ⟨some ⟨b2, 0, none⟩, 59, [.bool bad], 1⟩, ⟨some ⟨b3, 0, none⟩, 28, [.slice B2 Cells.length c2], 1⟩, ⟨B2, 49, (Cells.flatMap enc_Dyadic), c2 * 5⟩] [⟨B, (m.Cells.flatMap enc_Dyadic)⟩] ∧ i1 + k = 3 ∧ forN (F_spec_l9Bloch_l1 m) k i1 (bad, Cells) = some z) 3 ⟨0, false, [], none, 0, (FF.cons rfl (FF.cons rfl (FF.cons rfl (FF.cons rfl (FF.cons rfl FF.nil))))), (hS6.sel [0, 1, 2, 3, 4] rfl rfl), Nat.zero_add _, hz⟩ ?_
  rintro k_ f w ⟨i1, bad, Cells, B2, c2, hf, hS5, hik, hL⟩
  refine cw_seq ?_
  refine cw_seq ?_
  refine cw_region ?_
  refine sq 12 rfl rfl (Y_move (v := vi (i1 : Int)) rfl (hf.get 6 4 rfl)) ?_
  refine sq 13 rfl rfl (Y_lt (k := .i64) (a := (i1 : Int)) (b := 3) rfl rfl rfl) ?_
  refine rw_nil ?_
  refine cw_cond (b := (decide ((i1 : Int) < 3))) rfl (fun hlt => ?_) (fun hlt => ?_)
  · skip
    have hlt1 : i1 < 3 := by have h := of_decide_eq_true hlt; omega
    obtain ⟨k_1, rfl⟩ : ∃ k2, k_ = k2 + 1 := ⟨k_ - 1, by omega⟩
    obtain ⟨y, hb, hL1⟩ := forN_go hL
    unfold F_spec_l9Bloch_l1 at hb
    refine cw_skip ?_
    refine cw_seq ?_
    refine cw_block ?_
    refine cw_seq ?_
    refine cw_region ?_
    refine sq 7 rfl rfl (Y_assign (v := vi 0) rfl rfl) ?_
    refine rw_nil ?_
    obtain ⟨z1, hz1, hF2⟩ := bind_inv hb
    refine cw_block ?_
    refine cw_loop (fun k f w => ∃ (j : Nat) (bad1 : Bool) (Cells1 : List TDyadic) (B3 : Option Addr) (c3 : Nat), FF f [(1, pt (some ⟨b, 0, none⟩) 0), (2, pt (some ⟨b1, 0, none⟩) 0), (4, pt (some ⟨b2, 0, none⟩) 0), (5, pt (some ⟨b3, 0, none⟩) 0), (6, vi (i1 : Int)), (7, vi (j : Int))] ∧ ST w0 [] w [⟨some ⟨b, 0, none⟩, 32, [vi m.Rows, vi m.Cols, .slice B m.Cells.length c], 3⟩, ⟨some ⟨b1, 0, none⟩, 28, [.slice none 0 0], 1⟩, ⟨some ⟨b2, 0, none⟩, 59, [.bool bad1], 1⟩, ⟨some ⟨b3, 0, none⟩, 28, [.slice B3 Cells1.length c3], 1⟩, ⟨B3, 49, (Cells1.flatMap enc_Dyadic), c3 * 5⟩] [⟨B, (m.Cells.flatMap enc_Dyadic)⟩] ∧ j + k = 3 ∧ forN (F_spec_l9Bloch_l2 i1 m Cells bad) k j (bad1, Cells1) = some z1) 3 ⟨0, bad, Cells, B2, c2, (FF.cons (hf.get 1 0 rfl) (FF.cons (hf.get 2 1 rfl) (FF.cons (hf.get 4 2 rfl) (FF.cons (hf.get 5 3 rfl) (FF.cons (hf.get 6 4 rfl) (FF.cons rfl FF.nil)))))), (hS5.sel [0, 1, 2, 3, 4] rfl rfl), Nat.zero_add _, hz1⟩ ?_
    rintro k_2 f w ⟨j, bad1, Cells1, B3, c3, hf1, hS7, hik1, hL2⟩
    refine cw_seq ?_
    refine cw_seq ?_
    refine cw_region ?_
    refine sq 16 rfl rfl (Y_move (v := vi (j : Int)) rfl (hf1.get 7 5 rfl)) ?_
    refine sq 17 rfl rfl (Y_lt (k := .i64) (a := (j : Int)) (b := 3) rfl rfl rfl) ?_
    refine rw_nil ?_
    refine cw_cond (b := (decide ((j : Int) < 3))) rfl (fun hlt2 => ?_) (fun hlt2 => ?_)
    · skip
      have hlt3 : j < 3 := by have h := of_decide_eq_true hlt2; omega
      obtain ⟨k_3, rfl⟩ : ∃ k2, k_2 = k2 + 1 := ⟨k_2 - 1, by omega⟩
      obtain ⟨y1, hb1, hL3⟩ := forN_go hL2
      unfold F_spec_l9Bloch_l2 at hb1
      refine cw_skip ?_
      refine cw_seq ?_
      refine cw_block ?_
      refine cw_seq ?_
      obtain ⟨r_2, hc, hb1⟩ := bind_inv hb1
      obtain ⟨⟨r_3, m1⟩, hc1, hb1⟩ := bind_inv hb1
      obtain ⟨r_4, hc2, hb1⟩ := bind_inv hb1
      obtain ⟨⟨r_5, m2⟩, hc3, hb1⟩ := bind_inv hb1
      obtain ⟨r_6, hc4, hb1⟩ := bind_inv hb1
      obtain ⟨⟨r_7, m3⟩, hc5, hb1⟩ := bind_inv hb1
      refine cw_mid (fun f w => ∃ (B10 : Option Addr) (B11 : Option Addr) (c10 : Nat), FF f [(1, pt (some ⟨b, 0, none⟩) 0), (2, pt (some ⟨b1, 0, none⟩) 0), (4, pt (some ⟨b2, 0, none⟩) 0), (5, pt (some ⟨b3, 0, none⟩) 0), (6, vi (i1 : Int)), (7, vi (j : Int)), (8, pt B10 0)] ∧ ST w0 [] w [⟨some ⟨b, 0, none⟩, 32, [vi m.Rows, vi m.Cols, .slice B m.Cells.length c], 3⟩, ⟨some ⟨b1, 0, none⟩, 28, [.slice none 0 0], 1⟩, ⟨some ⟨b2, 0, none⟩, 59, [.bool m3.bad], 1⟩, ⟨some ⟨b3, 0, none⟩, 28, [.slice B3 Cells1.length c3], 1⟩, ⟨B3, 49, (Cells1.flatMap enc_Dyadic), c3 * 5⟩, ⟨B10, 32, [vi r_7.Rows, vi r_7.Cols, .slice B11 r_7.Cells.length c10], 3⟩, ⟨B11, 49, (r_7.Cells.flatMap enc_Dyadic), c10 * 5⟩] [⟨B, (m.Cells.flatMap enc_Dyadic)⟩]) ?_ ?_
      · skip
        refine ra_start (ST.sel hS7 [0, 1, 3, 4] rfl rfl).fn (by kernel_rfl) ?_
        have hS15 := hS7.drew
        refine ra_q 0 20 (v := pt (some ⟨b2, 0, none⟩) 0) rfl rfl rfl (by kernel_rfl) (by kernel_rfl) (by kernel_rfl) (ST.sel hS15 [0, 1, 3, 4] rfl rfl) (fun w' hw' => (Y_move (v := pt (some ⟨b2, 0, none⟩) 0) rfl (hf1.get 4 2 rfl))) ?_
        refine ra_q 1 21 (v := pt (some ⟨b2, 0, none⟩) 0) rfl rfl rfl (by kernel_rfl) (by kernel_rfl) (by kernel_rfl) (ST.sel hS15 [0, 1, 3, 4] rfl rfl) (fun w' hw' => (Y_move (v := pt (some ⟨b2, 0, none⟩) 0) rfl (hf1.get 4 2 rfl))) ?_
        refine ra_q 2 22 (v := pt (some ⟨b2, 0, none⟩) 0) rfl rfl rfl (by kernel_rfl) (by kernel_rfl) (by kernel_rfl) (ST.sel hS15 [0, 1, 3, 4] rfl rfl) (fun w' hw' => (Y_move (v := pt (some ⟨b2, 0, none⟩) 0) rfl (hf1.get 4 2 rfl))) ?_
        refine ra_q 3 23 (v := vi (i1 : Int)) rfl rfl rfl (by kernel_rfl) (by kernel_rfl) (by kernel_rfl) (ST.sel hS15 [0, 1, 3, 4] rfl rfl) (fun w' hw' => (Y_move (v := vi (i1 : Int)) rfl (hf1.get 6 4 rfl))) ?_
        refine ra_q 5 25 (v := .agg #[vi m.Rows, vi m.Cols, .slice B m.Cells.length c]) rfl rfl rfl (by kernel_rfl) (by kernel_rfl) (by kernel_rfl) (ST.sel hS15 [0, 1, 3, 4] rfl rfl) (fun w' hw' => (Y_loadA (B := some ⟨b, 0, none⟩) (i := 0) (cs := [vi m.Rows, vi m.Cols, .slice B m.Cells.length c]) (vs := [vi m.Rows, vi m.Cols, .slice B m.Cells.length c]) k_ag_32 k_sz_32_3 rfl (hf1.get 1 0 rfl) (ST.cf hw' (i := 0) rfl) rfl rfl)) ?_
        refine ra_q 7 27 (v := vi (j : Int)) rfl rfl rfl (by kernel_rfl) (by kernel_rfl) (by kernel_rfl) (ST.sel hS15 [0, 1, 3, 4] rfl rfl) (fun w' hw' => (Y_move (v := vi (j : Int)) rfl (hf1.get 7 5 rfl))) ?_
        refine ra_q 10 30 (v := .agg #[vi m.Rows, vi m.Cols, .slice B m.Cells.length c]) rfl rfl rfl (by kernel_rfl) (by kernel_rfl) (by kernel_rfl) (ST.sel hS15 [0, 1, 3, 4] rfl rfl) (fun w' hw' => (Y_loadA (B := some ⟨b, 0, none⟩) (i := 0) (cs := [vi m.Rows, vi m.Cols, .slice B m.Cells.length c]) (vs := [vi m.Rows, vi m.Cols, .slice B m.Cells.length c]) k_ag_32 k_sz_32_3 rfl (hf1.get 1 0 rfl) (ST.cf hw' (i := 0) rfl) rfl rfl)) ?_
        refine ra_all (rs := [4, 13]) (by kernel_rfl) rfl ?_
        refine ra_c 24 (i := 4) rfl rfl rfl (Yc_func (g := 30) (vs := [vi (i1 : Int)]) k_call_30 rfl (mc rfl mn) (c_spec_l9Pauli (i1 : Int) _  (hS15.inn0 [] rfl) hc)) ?_ ?_
        · rintro _ w_4 ⟨B4, c4, rfl, hd⟩
          have hS16 := hS15.out0 hd
          have hS16 : ST w0 [] _ [⟨some ⟨b, 0, none⟩, 32, [vi m.Rows, vi m.Cols, .slice B m.Cells.length c], 3⟩, ⟨some ⟨b1, 0, none⟩, 28, [.slice none 0 0], 1⟩, ⟨some ⟨b2, 0, none⟩, 59, [.bool bad1], 1⟩, ⟨some ⟨b3, 0, none⟩, 28, [.slice B3 Cells1.length c3], 1⟩, ⟨B3, 49, (Cells1.flatMap enc_Dyadic), c3 * 5⟩, ⟨B4, 49, (r_2.Cells.flatMap enc_Dyadic), c4 * 5⟩] [⟨B, (m.Cells.flatMap enc_Dyadic)⟩] := hS16
          refine ⟨(ST.sel hS16 [0, 1, 3, 4] rfl rfl), ?_⟩
          refine ra_all (rs := [6, 13]) (by kernel_rfl) rfl ?_
          refine ra_c 26 (i := 6) rfl rfl rfl (Yc_func (g := 29) (vs := [pt (some ⟨b2, 0, none⟩) 0, .agg #[vi r_2.Rows, vi r_2.Cols, .slice B4 r_2.Cells.length c4], .agg #[vi m.Rows, vi m.Cols, .slice B m.Cells.length c]]) k_call_29 rfl (mc rfl (mc rfl (mc rfl mn))) (c_spec_l2C_times (Tl2C.mk bad1) r_2 m (some ⟨b2, 0, none⟩) B4 c4 r_2.Cells.length B c m.Cells.length _ rfl rfl (hS16.inn [false, false, true, false, false, false] rfl [(false, 4), (true, 0)] rfl) hc1)) ?_ ?_
          · rintro _ w_5 ⟨B5, c5, rfl, hd1⟩
            have hS17 := hS16.out [false, false, true, false, false, false] rfl hd1
            have hS17 : ST w0 [] _ [⟨some ⟨b, 0, none⟩, 32, [vi m.Rows, vi m.Cols, .slice B m.Cells.length c], 3⟩, ⟨some ⟨b1, 0, none⟩, 28, [.slice none 0 0], 1⟩, ⟨some ⟨b3, 0, none⟩, 28, [.slice B3 Cells1.length c3], 1⟩, ⟨B3, 49, (Cells1.flatMap enc_Dyadic), c3 * 5⟩, ⟨B4, 49, (r_2.Cells.flatMap enc_Dyadic), c4 * 5⟩, ⟨some ⟨b2, 0, none⟩, 59, [.bool m1.bad], 1⟩, ⟨B5, 49, (r_3.Cells.flatMap enc_Dyadic), c5 * 5⟩] [⟨B, (m.Cells.flatMap enc_Dyadic)⟩] := hS17
            refine ⟨(ST.sel hS17 [0, 1, 2, 3] rfl rfl), ?_⟩
            refine ra_all (rs := [8, 13]) (by kernel_rfl) rfl ?_
            refine ra_c 28 (i := 8) rfl rfl rfl (Yc_func (g := 30) (vs := [vi (j : Int)]) k_call_30 rfl (mc rfl mn) (c_spec_l9Pauli (j : Int) _  (hS17.inn0 [] rfl) hc2)) ?_ ?_
            · rintro _ w_6 ⟨B6, c6, rfl, hd2⟩
              have hS18 := hS17.out0 hd2
              have hS18 : ST w0 [] _ [⟨some ⟨b, 0, none⟩, 32, [vi m.Rows, vi m.Cols, .slice B m.Cells.length c], 3⟩, ⟨some ⟨b1, 0, none⟩, 28, [.slice none 0 0], 1⟩, ⟨some ⟨b3, 0, none⟩, 28, [.slice B3 Cells1.length c3], 1⟩, ⟨B3, 49, (Cells1.flatMap enc_Dyadic), c3 * 5⟩, ⟨B4, 49, (r_2.Cells.flatMap enc_Dyadic), c4 * 5⟩, ⟨some ⟨b2, 0, none⟩, 59, [.bool m1.bad], 1⟩, ⟨B5, 49, (r_3.Cells.flatMap enc_Dyadic), c5 * 5⟩, ⟨B6, 49, (r_4.Cells.flatMap enc_Dyadic), c6 * 5⟩] [⟨B, (m.Cells.flatMap enc_Dyadic)⟩] := hS18
              refine ⟨(ST.sel hS18 [0, 1, 2, 3] rfl rfl), ?_⟩
              refine ra_all (rs := [9, 13]) (by kernel_rfl) rfl ?_
              refine ra_c 29 (i := 9) rfl rfl rfl (Yc_func (g := 29) (vs := [pt (some ⟨b2, 0, none⟩) 0, .agg #[vi r_3.Rows, vi r_3.Cols, .slice B5 r_3.Cells.length c5], .agg #[vi r_4.Rows, vi r_4.Cols, .slice B6 r_4.Cells.length c6]]) k_call_29 rfl (mc rfl (mc rfl (mc rfl mn))) (c_spec_l2C_times m1 r_3 r_4 (some ⟨b2, 0, none⟩) B5 c5 r_3.Cells.length B6 c6 r_4.Cells.length _ rfl rfl (hS18.inn [false, false, false, false, false, true, false, false] rfl [(false, 5), (false, 6)] rfl) hc3)) ?_ ?_
              · rintro _ w_7 ⟨B7, c7, rfl, hd3⟩
                have hS19 := hS18.out [false, false, false, false, false, true, false, false] rfl hd3
                have hS19 : ST w0 [] _ [⟨some ⟨b, 0, none⟩, 32, [vi m.Rows, vi m.Cols, .slice B m.Cells.length c], 3⟩, ⟨some ⟨b1, 0, none⟩, 28, [.slice none 0 0], 1⟩, ⟨some ⟨b3, 0, none⟩, 28, [.slice B3 Cells1.length c3], 1⟩, ⟨B3, 49, (Cells1.flatMap enc_Dyadic), c3 * 5⟩, ⟨B4, 49, (r_2.Cells.flatMap enc_Dyadic), c4 * 5⟩, ⟨B5, 49, (r_3.Cells.flatMap enc_Dyadic), c5 * 5⟩, ⟨B6, 49, (r_4.Cells.flatMap enc_Dyadic), c6 * 5⟩, ⟨some ⟨b2, 0, none⟩, 59, [.bool m2.bad], 1⟩, ⟨B7, 49, (r_5.Cells.flatMap enc_Dyadic), c7 * 5⟩] [⟨B, (m.Cells.flatMap enc_Dyadic)⟩] := hS19
                refine ⟨(ST.sel hS19 [0, 1, 2, 3] rfl rfl), ?_⟩
                refine ra_all (rs := [11, 13]) (by kernel_rfl) rfl ?_
                refine ra_c 31 (i := 11) rfl rfl rfl (Yc_func (g := 31) (vs := [.agg #[vi m.Rows, vi m.Cols, .slice B m.Cells.length c]]) k_call_31 rfl (mc rfl mn) (c_spec_l3Adj m B c m.Cells.length _ rfl (hS19.inn0 [(true, 0)] rfl) hc4)) ?_ ?_
                · rintro _ w_8 ⟨B8, c8, rfl, hd4⟩
                  have hS20 := hS19.out0 hd4
                  have hS20 : ST w0 [] _ [⟨some ⟨b, 0, none⟩, 32, [vi m.Rows, vi m.Cols, .slice B m.Cells.length c], 3⟩, ⟨some ⟨b1, 0, none⟩, 28, [.slice none 0 0], 1⟩, ⟨some ⟨b3, 0, none⟩, 28, [.slice B3 Cells1.length c3], 1⟩, ⟨B3, 49, (Cells1.flatMap enc_Dyadic), c3 * 5⟩, ⟨B4, 49, (r_2.Cells.flatMap enc_Dyadic), c4 * 5⟩, ⟨B5, 49, (r_3.Cells.flatMap enc_Dyadic), c5 * 5⟩, ⟨B6, 49, (r_4.Cells.flatMap enc_Dyadic), c6 * 5⟩, ⟨some ⟨b2, 0, none⟩, 59, [.bool m2.bad], 1⟩, ⟨B7, 49, (r_5.Cells.flatMap enc_Dyadic), c7 * 5⟩, ⟨B8, 49, (r_6.Cells.flatMap enc_Dyadic), c8 * 5⟩] [⟨B, (m.Cells.flatMap enc_Dyadic)⟩] := hS20
                  refine ⟨(ST.sel hS20 [0, 1, 2, 3] rfl rfl), ?_⟩
                  refine ra_all (rs := [12, 13]) (by kernel_rfl) rfl ?_
                  refine ra_c 32 (i := 12) rfl rfl rfl (Yc_func (g := 29) (vs := [pt (some ⟨b2, 0, none⟩) 0, .agg #[vi r_5.Rows, vi r_5.Cols, .slice B7 r_5.Cells.length c7], .agg #[vi r_6.Rows, vi r_6.Cols, .slice B8 r_6.Cells.length c8]]) k_call_29 rfl (mc rfl (mc rfl (mc rfl mn))) (c_spec_l2C_times m2 r_5 r_6 (some ⟨b2, 0, none⟩) B7 c7 r_5.Cells.length B8 c8 r_6.Cells.length _ rfl rfl (hS20.inn [false, false, false, false, false, false, false, true, false, false] rfl [(false, 7), (false, 8)] rfl) hc5)) ?_ ?_
                  · rintro _ w_9 ⟨B9, c9, rfl, hd5⟩
                    have hS21 := hS20.out [false, false, false, false, false, false, false, true, false, false] rfl hd5
                    have hS21 : ST w0 [] _ [⟨some ⟨b, 0, none⟩, 32, [vi m.Rows, vi m.Cols, .slice B m.Cells.length c], 3⟩, ⟨some ⟨b1, 0, none⟩, 28, [.slice none 0 0], 1⟩, ⟨some ⟨b3, 0, none⟩, 28, [.slice B3 Cells1.length c3], 1⟩, ⟨B3, 49, (Cells1.flatMap enc_Dyadic), c3 * 5⟩, ⟨B4, 49, (r_2.Cells.flatMap enc_Dyadic), c4 * 5⟩, ⟨B5, 49, (r_3.Cells.flatMap enc_Dyadic), c5 * 5⟩, ⟨B6, 49, (r_4.Cells.flatMap enc_Dyadic), c6 * 5⟩, ⟨B7, 49, (r_5.Cells.flatMap enc_Dyadic), c7 * 5⟩, ⟨B8, 49, (r_6.Cells.flatMap enc_Dyadic), c8 * 5⟩, ⟨some ⟨b2, 0, none⟩, 59, [.bool m3.bad], 1⟩, ⟨B9, 49, (r_7.Cells.flatMap enc_Dyadic), c9 * 5⟩] [⟨B, (m.Cells.flatMap enc_Dyadic)⟩] := hS21
                    refine ⟨(ST.sel hS21 [0, 1, 2, 3] rfl rfl), ?_⟩
                    refine ra_all (rs := [13]) (by kernel_rfl) rfl ?_
                    refine ra_s 8 (i := 13) rfl rfl rfl (Ys_alloc (T := 32) (cs := [vi 0, vi 0, .slice none 0 0]) (m := 3) hS21 k_zero_32 rfl rfl rfl) ?_ ?_
                    · rintro _ w_10 ⟨b4, rfl, hS22⟩
                      have hS22 : ST w0 [] _ [⟨some ⟨b, 0, none⟩, 32, [vi m.Rows, vi m.Cols, .slice B m.Cells.length c], 3⟩, ⟨some ⟨b1, 0, none⟩, 28, [.slice none 0 0], 1⟩, ⟨some ⟨b3, 0, none⟩, 28, [.slice B3 Cells1.length c3], 1⟩, ⟨B3, 49, (Cells1.flatMap enc_Dyadic), c3 * 5⟩, ⟨B4, 49, (r_2.Cells.flatMap enc_Dyadic), c4 * 5⟩, ⟨B5, 49, (r_3.Cells.flatMap enc_Dyadic), c5 * 5⟩, ⟨B6, 49, (r_4.Cells.flatMap enc_Dyadic), c6 * 5⟩, ⟨B7, 49, (r_5.Cells.flatMap enc_Dyadic), c7 * 5⟩, ⟨B8, 49, (r_6.Cells.flatMap enc_Dyadic), c8 * 5⟩, ⟨some ⟨b2, 0, none⟩, 59, [.bool m3.bad], 1⟩, ⟨B9, 49, (r_7.Cells.flatMap enc_Dyadic), c9 * 5⟩, ⟨some ⟨b4, 0, none⟩, 32, [vi 0, vi 0, .slice none 0 0], 3⟩] [⟨B, (m.Cells.flatMap enc_Dyadic)⟩] := hS22
                      refine ⟨(ST.sel hS22 [0, 1, 2, 3] rfl rfl), ?_⟩
                      refine ra_all (rs := [14]) (by kernel_rfl) rfl ?_
                      refine ra_s0 (i := 14) rfl rfl rfl (Ys_store (i := 11) (s := 3) (B := some ⟨b4, 0, none⟩) (T' := 32) (v := .agg #[vi r_7.Rows, vi r_7.Cols, .slice B9 r_7.Cells.length c9]) (vs := [vi r_7.Rows, vi r_7.Cols, .slice B9 r_7.Cells.length c9]) (k := 0) (cs' := [vi r_7.Rows, vi r_7.Cols, .slice B9 r_7.Cells.length c9]) hS22 k_sz_32_3 rfl rfl rfl rfl rfl rfl rfl (Nat.le_of_ble_eq_true rfl) rfl rfl) ?_ ?_
                      · rintro _ w_11 ⟨rfl, hS23⟩
                        have hS23 : ST w0 [] _ [⟨some ⟨b, 0, none⟩, 32, [vi m.Rows, vi m.Cols, .slice B m.Cells.length c], 3⟩, ⟨some ⟨b1, 0, none⟩, 28, [.slice none 0 0], 1⟩, ⟨some ⟨b3, 0, none⟩, 28, [.slice B3 Cells1.length c3], 1⟩, ⟨B3, 49, (Cells1.flatMap enc_Dyadic), c3 * 5⟩, ⟨B4, 49, (r_2.Cells.flatMap enc_Dyadic), c4 * 5⟩, ⟨B5, 49, (r_3.Cells.flatMap enc_Dyadic), c5 * 5⟩, ⟨B6, 49, (r_4.Cells.flatMap enc_Dyadic), c6 * 5⟩, ⟨B7, 49, (r_5.Cells.flatMap enc_Dyadic), c7 * 5⟩, ⟨B8, 49, (r_6.Cells.flatMap enc_Dyadic), c8 * 5⟩, ⟨some ⟨b2, 0, none⟩, 59, [.bool m3.bad], 1⟩, ⟨B9, 49, (r_7.Cells.flatMap enc_Dyadic), c9 * 5⟩, ⟨some ⟨b4, 0, none⟩, 32, [vi r_7.Rows, vi r_7.Cols, .slice B9 r_7.Cells.length c9], 3⟩] [⟨B, (m.Cells.flatMap enc_Dyadic)⟩] := hS23
                        refine ⟨(ST.sel hS23 [0, 1, 2, 3] rfl rfl), ?_⟩
                        refine ra_done (by kernel_rfl) ?_
                        exact ⟨some ⟨b4, 0, none⟩, B9, c9, (FF.cons (hf1.get 1 0 rfl) (FF.cons (hf1.get 2 1 rfl) (FF.cons (hf1.get 4 2 rfl) (FF.cons (hf1.get 5 3 rfl) (FF.cons (hf1.get 6 4 rfl) (FF.cons (hf1.get 7 5 rfl) (FF.cons rfl FF.nil))))))), (hS23.sel [0, 1, 9, 2, 3, 11, 10] rfl rfl)⟩
                      exact allR_nil
                    exact allR_nil
                  refine ra_s 8 (i := 13) rfl rfl rfl (Ys_alloc (T := 32) (cs := [vi 0, vi 0, .slice none 0 0]) (m := 3) hS20 k_zero_32 rfl rfl rfl) ?_ ?_
                  · rintro _ w_12 ⟨b4, rfl, hS24⟩
                    have hS24 : ST w0 [] _ [⟨some ⟨b, 0, none⟩, 32, [vi m.Rows, vi m.Cols, .slice B m.Cells.length c], 3⟩, ⟨some ⟨b1, 0, none⟩, 28, [.slice none 0 0], 1⟩, ⟨some ⟨b3, 0, none⟩, 28, [.slice B3 Cells1.length c3], 1⟩, ⟨B3, 49, (Cells1.flatMap enc_Dyadic), c3 * 5⟩, ⟨B4, 49, (r_2.Cells.flatMap enc_Dyadic), c4 * 5⟩, ⟨B5, 49, (r_3.Cells.flatMap enc_Dyadic), c5 * 5⟩, ⟨B6, 49, (r_4.Cells.flatMap enc_Dyadic), c6 * 5⟩, ⟨some ⟨b2, 0, none⟩, 59, [.bool m2.bad], 1⟩, ⟨B7, 49, (r_5.Cells.flatMap enc_Dyadic), c7 * 5⟩, ⟨B8, 49, (r_6.Cells.flatMap enc_Dyadic), c8 * 5⟩, ⟨some ⟨b4, 0, none⟩, 32, [vi 0, vi 0, .slice none 0 0], 3⟩] [⟨B, (m.Cells.flatMap enc_Dyadic)⟩] := hS24
                    refine ⟨(ST.sel hS24 [0, 1, 2, 3] rfl rfl), ?_⟩
                    refine ra_all (rs := [12]) (by kernel_rfl) rfl ?_
                    refine ra_c 32 (i := 12) rfl rfl rfl (Yc_func (g := 29) (vs := [pt (some ⟨b2, 0, none⟩) 0, .agg #[vi r_5.Rows, vi r_5.Cols, .slice B7 r_5.Cells.length c7], .agg #[vi r_6.Rows, vi r_6.Cols, .slice B8 r_6.Cells.length c8]]) k_call_29 rfl (mc rfl (mc rfl (mc rfl mn))) (c_spec_l2C_times m2 r_5 r_6 (some ⟨b2, 0, none⟩) B7 c7 r_5.Cells.length B8 c8 r_6.Cells.length _ rfl rfl (hS24.inn [false, false, false, false, false, false, false, true, false, false, false] rfl [(false, 7), (false, 8)] rfl) hc5)) ?_ ?_
                    · rintro _ w_13 ⟨B9, c9, rfl, hd6⟩
                      have hS25 := hS24.out [false, false, false, false, false, false, false, true, false, false, false] rfl hd6
                      have hS25 : ST w0 [] _ [⟨some ⟨b, 0, none⟩, 32, [vi m.Rows, vi m.Cols, .slice B m.Cells.length c], 3⟩, ⟨some ⟨b1, 0, none⟩, 28, [.slice none 0 0], 1⟩, ⟨some ⟨b3, 0, none⟩, 28, [.slice B3 Cells1.length c3], 1⟩, ⟨B3, 49, (Cells1.flatMap enc_Dyadic), c3 * 5⟩, ⟨B4, 49, (r_2.Cells.flatMap enc_Dyadic), c4 * 5⟩, ⟨B5, 49, (r_3.Cells.flatMap enc_Dyadic), c5 * 5⟩, ⟨B6, 49, (r_4.Cells.flatMap enc_Dyadic), c6 * 5⟩, ⟨B7, 49, (r_5.Cells.flatMap enc_Dyadic), c7 * 5⟩, ⟨B8, 49, (r_6.Cells.flatMap enc_Dyadic), c8 * 5⟩, ⟨some ⟨b4, 0, none⟩, 32, [vi 0, vi 0, .slice none 0 0], 3⟩, ⟨some ⟨b2, 0, none⟩, 59, [.bool m3.bad], 1⟩, ⟨B9, 49, (r_7.Cells.flatMap enc_Dyadic), c9 * 5⟩] [⟨B, (m.Cells.flatMap enc_Dyadic)⟩] := hS25
                      refine ⟨(ST.sel hS25 [0, 1, 2, 3] rfl rfl), ?_⟩
                      refine ra_all (rs := [14]) (by kernel_rfl) rfl ?_
                      refine ra_s0 (i := 14) rfl rfl rfl (Ys_store (i := 9) (s := 3) (B := some ⟨b4, 0, none⟩) (T' := 32) (v := .agg #[vi r_7.Rows, vi r_7.Cols, .slice B9 r_7.Cells.length c9]) (vs := [vi r_7.Rows, vi r_7.Cols, .slice B9 r_7.Cells.length c9]) (k := 0) (cs' := [vi r_7.Rows, vi r_7.Cols, .slice B9 r_7.Cells.length c9]) hS25 k_sz_32_3 rfl rfl rfl rfl rfl rfl rfl (Nat.le_of_ble_eq_true rfl) rfl rfl) ?_ ?_
                      · rintro _ w_14 ⟨rfl, hS26⟩
                        have hS26 : ST w0 [] _ [⟨some ⟨b, 0, none⟩, 32, [vi m.Rows, vi m.Cols, .slice B m.Cells.length c], 3⟩, ⟨some ⟨b1, 0, none⟩, 28, [.slice none 0 0], 1⟩, ⟨some ⟨b3, 0, none⟩, 28, [.slice B3 Cells1.length c3], 1⟩, ⟨B3, 49, (Cells1.flatMap enc_Dyadic), c3 * 5⟩, ⟨B4, 49, (r_2.Cells.flatMap enc_Dyadic), c4 * 5⟩, ⟨B5, 49, (r_3.Cells.flatMap enc_Dyadic), c5 * 5⟩, ⟨B6, 49, (r_4.Cells.flatMap enc_Dyadic), c6 * 5⟩, ⟨B7, 49, (r_5.Cells.flatMap enc_Dyadic), c7 * 5⟩, ⟨B8, 49, (r_6.Cells.flatMap enc_Dyadic), c8 * 5⟩, ⟨some ⟨b4, 0, none⟩, 32, [vi r_7.Rows, vi r_7.Cols, .slice B9 r_7.Cells.length c9], 3⟩, ⟨some ⟨b2, 0, none⟩, 59, [.bool m3.bad], 1⟩, ⟨B9, 49, (r_7.Cells.flatMap enc_Dyadic), c9 * 5⟩] [⟨B, (m.Cells.flatMap enc_Dyadic)⟩] := hS26
                        refine ⟨(ST.sel hS26 [0, 1, 2, 3] rfl rfl), ?_⟩
                        refine ra_done (by kernel_rfl) ?_
                        exact ⟨some ⟨b4, 0, none⟩, B9, c9, (FF.cons (hf1.get 1 0 rfl) (FF.cons (hf1.get 2 1 rfl) (FF.cons (hf1.get 4 2 rfl) (FF.cons (hf1.get 5 3 rfl) (FF.cons (hf1.get 6 4 rfl) (FF.cons (hf1.get 7 5 rfl) (FF.cons rfl FF.nil))))))), (hS26.sel [0, 1, 10, 2, 3, 9, 11] rfl rfl)⟩
                      exact allR_nil
                    exact allR_nil
                  exact allR_nil
                refine ra_s 8 (i := 13) rfl rfl rfl (Ys_alloc (T := 32) (cs := [vi 0, vi 0, .slice none 0 0]) (m := 3) hS19 k_zero_32 rfl rfl rfl) ?_ ?_
                · rintro _ w_15 ⟨b4, rfl, hS27⟩
                  have hS27 : ST w0 [] _ [⟨some ⟨b, 0, none⟩, 32, [vi m.Rows, vi m.Cols, .slice B m.Cells.length c], 3⟩, ⟨some ⟨b1, 0, none⟩, 28, [.slice none 0 0], 1⟩, ⟨some ⟨b3, 0, none⟩, 28, [.slice B3 Cells1.length c3], 1⟩, ⟨B3, 49, (Cells1.flatMap enc_Dyadic), c3 * 5⟩, ⟨B4, 49, (r_2.Cells.flatMap enc_Dyadic), c4 * 5⟩, ⟨B5, 49, (r_3.Cells.flatMap enc_Dyadic), c5 * 5⟩, ⟨B6, 49, (r_4.Cells.flatMap enc_Dyadic), c6 * 5⟩, ⟨some ⟨b2, 0, none⟩, 59, [.bool m2.bad], 1⟩, ⟨B7, 49, (r_5.Cells.flatMap enc_Dyadic), c7 * 5⟩, ⟨some ⟨b4, 0, none⟩, 32, [vi 0, vi 0, .slice none 0 0], 3⟩] [⟨B, (m.Cells.flatMap enc_Dyadic)⟩] := hS27
                  refine ⟨(ST.sel hS27 [0, 1, 2, 3] rfl rfl), ?_⟩
                  refine ra_all (rs := [11]) (by kernel_rfl) rfl ?_
                  refine ra_c 31 (i := 11) rfl rfl rfl (Yc_func (g := 31) (vs := [.agg #[vi m.Rows, vi m.Cols, .slice B m.Cells.length c]]) k_call_31 rfl (mc rfl mn) (c_spec_l3Adj m B c m.Cells.length _ rfl (hS27.inn0 [(true, 0)] rfl) hc4)) ?_ ?_
                  · rintro _ w_16 ⟨B8, c8, rfl, hd7⟩
                    have hS28 := hS27.out0 hd7
                    have hS28 : ST w0 [] _ [⟨some ⟨b, 0, none⟩, 32, [vi m.Rows, vi m.Cols, .slice B m.Cells.length c], 3⟩, ⟨some ⟨b1, 0, none⟩, 28, [.slice none 0 0], 1⟩, ⟨some ⟨b3, 0, none⟩, 28, [.slice B3 Cells1.length c3], 1⟩, ⟨B3, 49, (Cells1.flatMap enc_Dyadic), c3 * 5⟩, ⟨B4, 49, (r_2.Cells.flatMap enc_Dyadic), c4 * 5⟩, ⟨B5, 49, (r_3.Cells.flatMap enc_Dyadic), c5 * 5⟩, ⟨B6, 49, (r_4.Cells.flatMap enc_Dyadic), c6 * 5⟩, ⟨some ⟨b2, 0, none⟩, 59, [.bool m2.bad], 1⟩, ⟨B7, 49, (r_5.Cells.flatMap enc_Dyadic), c7 * 5⟩, ⟨some ⟨b4, 0, none⟩, 32, [vi 0, vi 0, .slice none 0 0], 3⟩, ⟨B8, 49, (r_6.Cells.flatMap enc_Dyadic), c8 * 5⟩] [⟨B, (m.Cells.flatMap enc_Dyadic)⟩] := hS28
                    refine ⟨(ST.sel hS28 [0, 1, 2, 3] rfl rfl), ?_⟩
                    refine ra_all (rs := [12]) (by kernel_rfl) rfl ?_
                    refine ra_c 32 (i := 12) rfl rfl rfl (Yc_func (g := 29) (vs := [pt (some ⟨b2, 0, none⟩) 0, .agg #[vi r_5.Rows, vi r_5.Cols, .slice B7 r_5.Cells.length c7], .agg #[vi r_6.Rows, vi r_6.Cols, .slice B8 r_6.Cells.length c8]]) k_call_29 rfl (mc rfl (mc rfl (mc rfl mn))) (c_spec_l2C_times m2 r_5 r_6 (some ⟨b2, 0, none⟩) B7 c7 r_5.Cells.length B8 c8 r_6.Cells.length _ rfl rfl (hS28.inn [false, false, false, false, false, false, false, true, false, false, false] rfl [(false, 7), (false, 9)] rfl) hc5)) ?_ ?_
                    · rintro _ w_17 ⟨B9, c9, rfl, hd8⟩
                      have hS29 := hS28.out [false, false, false, false, false, false, false, true, false, false, false] rfl hd8
                      have hS29 : ST w0 [] _ [⟨some ⟨b, 0, none⟩, 32, [vi m.Rows, vi m.Cols, .slice B m.Cells.length c], 3⟩, ⟨some ⟨b1, 0, none⟩, 28, [.slice none 0 0], 1⟩, ⟨some ⟨b3, 0, none⟩, 28, [.slice B3 Cells1.length c3], 1⟩, ⟨B3, 49, (Cells1.flatMap enc_Dyadic), c3 * 5⟩, ⟨B4, 49, (r_2.Cells.flatMap enc_Dyadic), c4 * 5⟩, ⟨B5, 49, (r_3.Cells.flatMap enc_Dyadic), c5 * 5⟩, ⟨B6, 49, (r_4.Cells.flatMap enc_Dyadic), c6 * 5⟩, ⟨B7, 49, (r_5.Cells.flatMap enc_Dyadic), c7 * 5⟩, ⟨some ⟨b4, 0, none⟩, 32, [vi 0, vi 0, .slice none 0 0], 3⟩, ⟨B8, 49, (r_6.Cells.flatMap enc_Dyadic), c8 * 5⟩, ⟨some ⟨b2, 0, none⟩, 59, [.bool m3.bad], 1⟩, ⟨B9, 49, (r_7.Cells.flatMap enc_Dyadic), c9 * 5⟩] [⟨B, (m.Cells.flatMap enc_Dyadic)⟩] := hS29
                      refine ⟨(ST.sel hS29 [0, 1, 2, 3] rfl rfl), ?_⟩
                      refine ra_all (rs := [14]) (by kernel_rfl) rfl ?_
                      refine ra_s0 (i := 14) rfl rfl rfl (Ys_store (i := 8) (s := 3) (B := some ⟨b4, 0, none⟩) (T' := 32) (v := .agg #[vi r_7.Rows, vi r_7.Cols, .slice B9 r_7.Cells.length c9]) (vs := [vi r_7.Rows, vi r_7.Cols, .slice B9 r_7.Cells.length c9]) (k := 0) (cs' := [vi r_7.Rows, vi r_7.Cols, .slice B9 r_7.Cells.length c9]) hS29 k_sz_32_3 rfl rfl rfl rfl rfl rfl rfl (Nat.le_of_ble_eq_true rfl) rfl rfl) ?_ ?_
                      · rintro _ w_18 ⟨rfl, hS30⟩
                        have hS30 : ST w0 [] _ [⟨some ⟨b, 0, none⟩, 32, [vi m.Rows, vi m.Cols, .slice B m.Cells.length c], 3⟩, ⟨some ⟨b1, 0, none⟩, 28, [.slice none 0 0], 1⟩, ⟨some ⟨b3, 0, none⟩, 28, [.slice B3 Cells1.length c3], 1⟩, ⟨B3, 49, (Cells1.flatMap enc_Dyadic), c3 * 5⟩, ⟨B4, 49, (r_2.Cells.flatMap enc_Dyadic), c4 * 5⟩, ⟨B5, 49, (r_3.Cells.flatMap enc_Dyadic), c5 * 5⟩, ⟨B6, 49, (r_4.Cells.flatMap enc_Dyadic), c6 * 5⟩, ⟨B7, 49, (r_5.Cells.flatMap enc_Dyadic), c7 * 5⟩, ⟨some ⟨b4, 0, none⟩, 32, [vi r_7.Rows, vi r_7.Cols, .slice B9 r_7.Cells.length c9], 3⟩, ⟨B8, 49, (r_6.Cells.flatMap enc_Dyadic), c8 * 5⟩, ⟨some ⟨b2, 0, none⟩, 59, [.bool m3.bad], 1⟩, ⟨B9, 49, (r_7.Cells.flatMap enc_Dyadic), c9 * 5⟩] [⟨B, (m.Cells.flatMap enc_Dyadic)⟩] := hS30
                        refine ⟨(ST.sel hS30 [0, 1, 2, 3] rfl rfl), ?_⟩
                        refine ra_done (by kernel_rfl) ?_
                        exact ⟨some ⟨b4, 0, none⟩, B9, c9, (FF.cons (hf1.get 1 0 rfl) (FF.cons (hf1.get 2 1 rfl) (FF.cons (hf1.get 4 2 rfl) (FF.cons (hf1.get 5 3 rfl) (FF.cons (hf1.get 6 4 rfl) (FF.cons (hf1.get 7 5 rfl) (FF.cons rfl FF.nil))))))), (hS30.sel [0, 1, 10, 2, 3, 8, 11] rfl rfl)⟩
                      exact allR_nil
                    exact allR_nil
                  exact allR_nil
                exact allR_nil
              refine ra_s 8 (i := 13) rfl rfl rfl (Ys_alloc (T := 32) (cs := [vi 0, vi 0, .slice none 0 0]) (m := 3) hS18 k_zero_32 rfl rfl rfl) ?_ ?_
              · rintro _ w_19 ⟨b4, rfl, hS31⟩
                have hS31 : ST w0 [] _ [⟨some ⟨b, 0, none⟩, 32, [vi m.Rows, vi m.Cols, .slice B m.Cells.length c], 3⟩, ⟨some ⟨b1, 0, none⟩, 28, [.slice none 0 0], 1⟩, ⟨some ⟨b3, 0, none⟩, 28, [.slice B3 Cells1.length c3], 1⟩, ⟨B3, 49, (Cells1.flatMap enc_Dyadic), c3 * 5⟩, ⟨B4, 49, (r_2.Cells.flatMap enc_Dyadic), c4 * 5⟩, ⟨some ⟨b2, 0, none⟩, 59, [.bool m1.bad], 1⟩, ⟨B5, 49, (r_3.Cells.flatMap enc_Dyadic), c5 * 5⟩, ⟨B6, 49, (r_4.Cells.flatMap enc_Dyadic), c6 * 5⟩, ⟨some ⟨b4, 0, none⟩, 32, [vi 0, vi 0, .slice none 0 0], 3⟩] [⟨B, (m.Cells.flatMap enc_Dyadic)⟩] := hS31
                refine ⟨(ST.sel hS31 [0, 1, 2, 3] rfl rfl), ?_⟩
                refine ra_all (rs := [9]) (by kernel_rfl) rfl ?_
                refine ra_c 29 (i := 9) rfl rfl rfl (Yc_func (g := 29) (vs := [pt (some ⟨b2, 0, none⟩) 0, .agg #[vi r_3.Rows, vi r_3.Cols, .slice B5 r_3.Cells.length c5], .agg #[vi r_4.Rows, vi r_4.Cols, .slice B6 r_4.Cells.length c6]]) k_call_29 rfl (mc rfl (mc rfl (mc rfl mn))) (c_spec_l2C_times m1 r_3 r_4 (some ⟨b2, 0, none⟩) B5 c5 r_3.Cells.length B6 c6 r_4.Cells.length _ rfl rfl (hS31.inn [false, false, false, false, false, true, false, false, false] rfl [(false, 5), (false, 6)] rfl) hc3)) ?_ ?_
                · rintro _ w_20 ⟨B7, c7, rfl, hd9⟩
                  have hS32 := hS31.out [false, false, false, false, false, true, false, false, false] rfl hd9
                  have hS32 : ST w0 [] _ [⟨some ⟨b, 0, none⟩, 32, [vi m.Rows, vi m.Cols, .slice B m.Cells.length c], 3⟩, ⟨some ⟨b1, 0, none⟩, 28, [.slice none 0 0], 1⟩, ⟨some ⟨b3, 0, none⟩, 28, [.slice B3 Cells1.length c3], 1⟩, ⟨B3, 49, (Cells1.flatMap enc_Dyadic), c3 * 5⟩, ⟨B4, 49, (r_2.Cells.flatMap enc_Dyadic), c4 * 5⟩, ⟨B5, 49, (r_3.Cells.flatMap enc_Dyadic), c5 * 5⟩, ⟨B6, 49, (r_4.Cells.flatMap enc_Dyadic), c6 * 5⟩, ⟨some ⟨b4, 0, none⟩, 32, [vi 0, vi 0, .slice none 0 0], 3⟩, ⟨some ⟨b2, 0, none⟩, 59, [.bool m2.bad], 1⟩, ⟨B7, 49, (r_5.Cells.flatMap enc_Dyadic), c7 * 5⟩] [⟨B, (m.Cells.flatMap enc_Dyadic)⟩] := hS32
                  refine ⟨(ST.sel hS32 [0, 1, 2, 3] rfl rfl), ?_⟩
                  refine ra_all (rs := [11]) (by kernel_rfl) rfl ?_
                  refine ra_c 31 (i := 11) rfl rfl rfl (Yc_func (g := 31) (vs := [.agg #[vi m.Rows, vi m.Cols, .slice B m.Cells.length c]]) k_call_31 rfl (mc rfl mn) (c_spec_l3Adj m B c m.Cells.length _ rfl (hS32.inn0 [(true, 0)] rfl) hc4)) ?_ ?_
                  · rintro _ w_21 ⟨B8, c8, rfl, hd10⟩
                    have hS33 := hS32.out0 hd10
                    have hS33 : ST w0 [] _ [⟨some ⟨b, 0, none⟩, 32, [vi m.Rows, vi m.Cols, .slice B m.Cells.length c], 3⟩, ⟨some ⟨b1, 0, none⟩, 28, [.slice none 0 0], 1⟩, ⟨some ⟨b3, 0, none⟩, 28, [.slice B3 Cells1.length c3], 1⟩, ⟨B3, 49, (Cells1.flatMap enc_Dyadic), c3 * 5⟩, ⟨B4, 49, (r_2.Cells.flatMap enc_Dyadic), c4 * 5⟩, ⟨B5, 49, (r_3.Cells.flatMap enc_Dyadic), c5 * 5⟩, ⟨B6, 49, (r_4.Cells.flatMap enc_Dyadic), c6 * 5⟩, ⟨some ⟨b4, 0, none⟩, 32, [vi 0, vi 0, .slice none 0 0], 3⟩, ⟨some ⟨b2, 0, none⟩, 59, [.bool m2.bad], 1⟩, ⟨B7, 49, (r_5.Cells.flatMap enc_Dyadic), c7 * 5⟩, ⟨B8, 49, (r_6.Cells.flatMap enc_Dyadic), c8 * 5⟩] [⟨B, (m.Cells.flatMap enc_Dyadic)⟩] := hS33
                    refine ⟨(ST.sel hS33 [0, 1, 2, 3] rfl rfl), ?_⟩
                    refine ra_all (rs := [12]) (by kernel_rfl) rfl ?_
                    refine ra_c 32 (i := 12) rfl rfl rfl (Yc_func (g := 29) (vs := [pt (some ⟨b2, 0, none⟩) 0, .agg #[vi r_5.Rows, vi r_5.Cols, .slice B7 r_5.Cells.length c7], .agg #[vi r_6.Rows, vi r_6.Cols, .slice B8 r_6.Cells.length c8]]) k_call_29 rfl (mc rfl (mc rfl (mc rfl mn))) (c_spec_l2C_times m2 r_5 r_6 (some ⟨b2, 0, none⟩) B7 c7 r_5.Cells.length B8 c8 r_6.Cells.length _ rfl rfl (hS33.inn [false, false, false, false, false, false, false, false, true, false, false] rfl [(false, 8), (false, 9)] rfl) hc5)) ?_ ?_
                    · rintro _ w_22 ⟨B9, c9, rfl, hd11⟩
                      have hS34 := hS33.out [false, false, false, false, false, false, false, false, true, false, false] rfl hd11
                      have hS34 : ST w0 [] _ [⟨some ⟨b, 0, none⟩, 32, [vi m.Rows, vi m.Cols, .slice B m.Cells.length c], 3⟩, ⟨some ⟨b1, 0, none⟩, 28, [.slice none 0 0], 1⟩, ⟨some ⟨b3, 0, none⟩, 28, [.slice B3 Cells1.length c3], 1⟩, ⟨B3, 49, (Cells1.flatMap enc_Dyadic), c3 * 5⟩, ⟨B4, 49, (r_2.Cells.flatMap enc_Dyadic), c4 * 5⟩, ⟨B5, 49, (r_3.Cells.flatMap enc_Dyadic), c5 * 5⟩, ⟨B6, 49, (r_4.Cells.flatMap enc_Dyadic), c6 * 5⟩, ⟨some ⟨b4, 0, none⟩, 32, [vi 0, vi 0, .slice none 0 0], 3⟩, ⟨B7, 49, (r_5.Cells.flatMap enc_Dyadic), c7 * 5⟩, ⟨B8, 49, (r_6.Cells.flatMap enc_Dyadic), c8 * 5⟩, ⟨some ⟨b2, 0, none⟩, 59, [.bool m3.bad], 1⟩, ⟨B9, 49, (r_7.Cells.flatMap enc_Dyadic), c9 * 5⟩] [⟨B, (m.Cells.flatMap enc_Dyadic)⟩] := hS34
                      refine ⟨(ST.sel hS34 [0, 1, 2, 3] rfl rfl), ?_⟩
                      refine ra_all (rs := [14]) (by kernel_rfl) rfl ?_
                      refine ra_s0 (i := 14) rfl rfl rfl (Ys_store (i := 7) (s := 3) (B := some ⟨b4, 0, none⟩) (T' := 32) (v := .agg #[vi r_7.Rows, vi r_7.Cols, .slice B9 r_7.Cells.length c9]) (vs := [vi r_7.Rows, vi r_7.Cols, .slice B9 r_7.Cells.length c9]) (k := 0) (cs' := [vi r_7.Rows, vi r_7.Cols, .slice B9 r_7.Cells.length c9]) hS34 k_sz_32_3 rfl rfl rfl rfl rfl rfl rfl (Nat.le_of_ble_eq_true rfl) rfl rfl) ?_ ?_
                      · rintro _ w_23 ⟨rfl, hS35⟩
                        have hS35 : ST w0 [] _ [⟨some ⟨b, 0, none⟩, 32, [vi m.Rows, vi m.Cols, .slice B m.Cells.length c], 3⟩, ⟨some ⟨b1, 0, none⟩, 28, [.slice none 0 0], 1⟩, ⟨some ⟨b3, 0, none⟩, 28, [.slice B3 Cells1.length c3], 1⟩, ⟨B3, 49, (Cells1.flatMap enc_Dyadic), c3 * 5⟩, ⟨B4, 49, (r_2.Cells.flatMap enc_Dyadic), c4 * 5⟩, ⟨B5, 49, (r_3.Cells.flatMap enc_Dyadic), c5 * 5⟩, ⟨B6, 49, (r_4.Cells.flatMap enc_Dyadic), c6 * 5⟩, ⟨some ⟨b4, 0, none⟩, 32, [vi r_7.Rows, vi r_7.Cols, .slice B9 r_7.Cells.length c9], 3⟩, ⟨B7, 49, (r_5.Cells.flatMap enc_Dyadic), c7 * 5⟩, ⟨B8, 49, (r_6.Cells.flatMap enc_Dyadic), c8 * 5⟩, ⟨some ⟨b2, 0, none⟩, 59, [.bool m3.bad], 1⟩, ⟨B9, 49, (r_7.Cells.flatMap enc_Dyadic), c9 * 5⟩] [⟨B, (m.Cells.flatMap enc_Dyadic)⟩] := hS35
                        refine ⟨(ST.sel hS35 [0, 1, 2, 3] rfl rfl), ?_⟩
                        refine ra_done (by kernel_rfl) ?_
                        exact ⟨some ⟨b4, 0, none⟩, B9, c9, (FF.cons (hf1.get 1 0 rfl) (FF.cons (hf1.get 2 1 rfl) (FF.cons (hf1.get 4 2 rfl) (FF.cons (hf1.get 5 3 rfl) (FF.cons (hf1.get 6 4 rfl) (FF.cons (hf1.get 7 5 rfl) (FF.cons rfl FF.nil))))))), (hS35.sel [0, 1, 10, 2, 3, 7, 11] rfl rfl)⟩
                      exact allR_nil
                    exact allR_nil
                  exact allR_nil
                exact allR_nil
              exact allR_nil
            refine ra_s 8 (i := 13) rfl rfl rfl (Ys_alloc (T := 32) (cs := [vi 0, vi 0, .slice none 0 0]) (m := 3) hS17 k_zero_32 rfl rfl rfl) ?_ ?_
            · rintro _ w_24 ⟨b4, rfl, hS36⟩
              have hS36 : ST w0 [] _ [⟨some ⟨b, 0, none⟩, 32, [vi m.Rows, vi m.Cols, .slice B m.Cells.length c], 3⟩, ⟨some ⟨b1, 0, none⟩, 28, [.slice none 0 0], 1⟩, ⟨some ⟨b3, 0, none⟩, 28, [.slice B3 Cells1.length c3], 1⟩, ⟨B3, 49, (Cells1.flatMap enc_Dyadic), c3 * 5⟩, ⟨B4, 49, (r_2.Cells.flatMap enc_Dyadic), c4 * 5⟩, ⟨some ⟨b2, 0, none⟩, 59, [.bool m1.bad], 1⟩, ⟨B5, 49, (r_3.Cells.flatMap enc_Dyadic), c5 * 5⟩, ⟨some ⟨b4, 0, none⟩, 32, [vi 0, vi 0, .slice none 0 0], 3⟩] [⟨B, (m.Cells.flatMap enc_Dyadic)⟩] := hS36
              refine ⟨(ST.sel hS36 [0, 1, 2, 3] rfl rfl), ?_⟩
              refine ra_all (rs := [8]) (by kernel_rfl) rfl ?_
              refine ra_c 28 (i := 8) rfl rfl rfl (Yc_func (g := 30) (vs := [vi (j : Int)]) k_call_30 rfl (mc rfl mn) (c_spec_l9Pauli (j : Int) _  (hS36.inn0 [] rfl) hc2)) ?_ ?_
              · rintro _ w_25 ⟨B6, c6, rfl, hd12⟩
                have hS37 := hS36.out0 hd12
                have hS37 : ST w0 [] _ [⟨some ⟨b, 0, none⟩, 32, [vi m.Rows, vi m.Cols, .slice B m.Cells.length c], 3⟩, ⟨some ⟨b1, 0, none⟩, 28, [.slice none 0 0], 1⟩, ⟨some ⟨b3, 0, none⟩, 28, [.slice B3 Cells1.length c3], 1⟩, ⟨B3, 49, (Cells1.flatMap enc_Dyadic), c3 * 5⟩, ⟨B4, 49, (r_2.Cells.flatMap enc_Dyadic), c4 * 5⟩, ⟨some ⟨b2, 0, none⟩, 59, [.bool m1.bad], 1⟩, ⟨B5, 49, (r_3.Cells.flatMap enc_Dyadic), c5 * 5⟩, ⟨some ⟨b4, 0, none⟩, 32, [vi 0, vi 0, .slice none 0 0], 3⟩, ⟨B6, 49, (r_4.Cells.flatMap enc_Dyadic), c6 * 5⟩] [⟨B, (m.Cells.flatMap enc_Dyadic)⟩] := hS37
                refine ⟨(ST.sel hS37 [0, 1, 2, 3] rfl rfl), ?_⟩
                refine ra_all (rs := [9]) (by kernel_rfl) rfl ?_
                refine ra_c 29 (i := 9) rfl rfl rfl (Yc_func (g := 29) (vs := [pt (some ⟨b2, 0, none⟩) 0, .agg #[vi r_3.Rows, vi r_3.Cols, .slice B5 r_3.Cells.length c5], .agg #[vi r_4.Rows, vi r_4.Cols, .slice B6 r_4.Cells.length c6]]) k_call_29 rfl (mc rfl (mc rfl (mc rfl mn))) (c_spec_l2C_times m1 r_3 r_4 (some ⟨b2, 0, none⟩) B5 c5 r_3.Cells.length B6 c6 r_4.Cells.length _ rfl rfl (hS37.inn [false, false, false, false, false, true, false, false, false] rfl [(false, 5), (false, 7)] rfl) hc3)) ?_ ?_
                · rintro _ w_26 ⟨B7, c7, rfl, hd13⟩
                  have hS38 := hS37.out [false, false, false, false, false, true, false, false, false] rfl hd13
                  have hS38 : ST w0 [] _ [⟨some ⟨b, 0, none⟩, 32, [vi m.Rows, vi m.Cols, .slice B m.Cells.length c], 3⟩, ⟨some ⟨b1, 0, none⟩, 28, [.slice none 0 0], 1⟩, ⟨some ⟨b3, 0, none⟩, 28, [.slice B3 Cells1.length c3], 1⟩, ⟨B3, 49, (Cells1.flatMap enc_Dyadic), c3 * 5⟩, ⟨B4, 49, (r_2.Cells.flatMap enc_Dyadic), c4 * 5⟩, ⟨B5, 49, (r_3.Cells.flatMap enc_Dyadic), c5 * 5⟩, ⟨some ⟨b4, 0, none⟩, 32, [vi 0, vi 0, .slice none 0 0], 3⟩, ⟨B6, 49, (r_4.Cells.flatMap enc_Dyadic), c6 * 5⟩, ⟨some ⟨b2, 0, none⟩, 59, [.bool m2.bad], 1⟩, ⟨B7, 49, (r_5.Cells.flatMap enc_Dyadic), c7 * 5⟩] [⟨B, (m.Cells.flatMap enc_Dyadic)⟩] := hS38
                  refine ⟨(ST.sel hS38 [0, 1, 2, 3] rfl rfl), ?_⟩
                  refine ra_all (rs := [11]) (by kernel_rfl) rfl ?_
                  refine ra_c 31 (i := 11) rfl rfl rfl (Yc_func (g := 31) (vs := [.agg #[vi m.Rows, vi m.Cols, .slice B m.Cells.length c]]) k_call_31 rfl (mc rfl mn) (c_spec_l3Adj m B c m.Cells.length _ rfl (hS38.inn0 [(true, 0)] rfl) hc4)) ?_ ?_
                  · rintro _ w_27 ⟨B8, c8, rfl, hd14⟩
                    have hS39 := hS38.out0 hd14
                    have hS39 : ST w0 [] _ [⟨some ⟨b, 0, none⟩, 32, [vi m.Rows, vi m.Cols, .slice B m.Cells.length c], 3⟩, ⟨some ⟨b1, 0, none⟩, 28, [.slice none 0 0], 1⟩, ⟨some ⟨b3, 0, none⟩, 28, [.slice B3 Cells1.length c3], 1⟩, ⟨B3, 49, (Cells1.flatMap enc_Dyadic), c3 * 5⟩, ⟨B4, 49, (r_2.Cells.flatMap enc_Dyadic), c4 * 5⟩, ⟨B5, 49, (r_3.Cells.flatMap enc_Dyadic), c5 * 5⟩, ⟨some ⟨b4, 0, none⟩, 32, [vi 0, vi 0, .slice none 0 0], 3⟩, ⟨B6, 49, (r_4.Cells.flatMap enc_Dyadic), c6 * 5⟩, ⟨some ⟨b2, 0, none⟩, 59, [.bool m2.bad], 1⟩, ⟨B7, 49, (r_5.Cells.flatMap enc_Dyadic), c7 * 5⟩, ⟨B8, 49, (r_6.Cells.flatMap enc_Dyadic), c8 * 5⟩] [⟨B, (m.Cells.flatMap enc_Dyadic)⟩] := hS39
                    refine ⟨(ST.sel hS39 [0, 1, 2, 3] rfl rfl), ?_⟩
                    refine ra_all (rs := [12]) (by kernel_rfl) rfl ?_
                    refine ra_c 32 (i := 12) rfl rfl rfl (Yc_func (g := 29) (vs := [pt (some ⟨b2, 0, none⟩) 0, .agg #[vi r_5.Rows, vi r_5.Cols, .slice B7 r_5.Cells.length c7], .agg #[vi r_6.Rows, vi r_6.Cols, .slice B8 r_6.Cells.length c8]]) k_call_29 rfl (mc rfl (mc rfl (mc rfl mn))) (c_spec_l2C_times m2 r_5 r_6 (some ⟨b2, 0, none⟩) B7 c7 r_5.Cells.length B8 c8 r_6.Cells.length _ rfl rfl (hS39.inn [false, false, false, false, false, false, false, false, true, false, false] rfl [(false, 8), (false, 9)] rfl) hc5)) ?_ ?_
                    · rintro _ w_28 ⟨B9, c9, rfl, hd15⟩
                      have hS40 := hS39.out [false, false, false, false, false, false, false, false, true, false, false] rfl hd15
                      have hS40 : ST w0 [] _ [⟨some ⟨b, 0, none⟩, 32, [vi m.Rows, vi m.Cols, .slice B m.Cells.length c], 3⟩, ⟨some ⟨b1, 0, none⟩, 28, [.slice none 0 0], 1⟩, ⟨some ⟨b3, 0, none⟩, 28, [.slice B3 Cells1.length c3], 1⟩, ⟨B3, 49, (Cells1.flatMap enc_Dyadic), c3 * 5⟩, ⟨B4, 49, (r_2.Cells.flatMap enc_Dyadic), c4 * 5⟩, ⟨B5, 49, (r_3.Cells.flatMap enc_Dyadic), c5 * 5⟩, ⟨some ⟨b4, 0, none⟩, 32, [vi 0, vi 0, .slice none 0 0], 3⟩, ⟨B6, 49, (r_4.Cells.flatMap enc_Dyadic), c6 * 5⟩, ⟨B7, 49, (r_5.Cells.flatMap enc_Dyadic), c7 * 5⟩, ⟨B8, 49, (r_6.Cells.flatMap enc_Dyadic), c8 * 5⟩, ⟨some ⟨b2, 0, none⟩, 59, [.bool m3.bad], 1⟩, ⟨B9, 49, (r_7.Cells.flatMap enc_Dyadic), c9 * 5⟩] [⟨B, (m.Cells.flatMap enc_Dyadic)⟩] := hS40
                      refine ⟨(ST.sel hS40 [0, 1, 2, 3] rfl rfl), ?_⟩
                      refine ra_all (rs := [14]) (by kernel_rfl) rfl ?_
                      refine ra_s0 (i := 14) rfl rfl rfl (Ys_store (i := 6) (s := 3) (B := some ⟨b4, 0, none⟩) (T' := 32) (v := .agg #[vi r_7.Rows, vi r_7.Cols, .slice B9 r_7.Cells.length c9]) (vs := [vi r_7.Rows, vi r_7.Cols, .slice B9 r_7.Cells.length c9]) (k := 0) (cs' := [vi r_7.Rows, vi r_7.Cols, .slice B9 r_7.Cells.length c9]) hS40 k_sz_32_3 rfl rfl rfl rfl rfl rfl rfl (Nat.le_of_ble_eq_true rfl) rfl rfl) ?_ ?_
                      · rintro _ w_29 ⟨rfl, hS41⟩
                        have hS41 : ST w0 [] _ [⟨some ⟨b, 0, none⟩, 32, [vi m.Rows, vi m.Cols, .slice B m.Cells.length c], 3⟩, ⟨some ⟨b1, 0, none⟩, 28, [.slice none 0 0], 1⟩, ⟨some ⟨b3, 0, none⟩, 28, [.slice B3 Cells1.length c3], 1⟩, ⟨B3, 49, (Cells1.flatMap enc_Dyadic), c3 * 5⟩, ⟨B4, 49, (r_2.Cells.flatMap enc_Dyadic), c4 * 5⟩, ⟨B5, 49, (r_3.Cells.flatMap enc_Dyadic), c5 * 5⟩, ⟨some ⟨b4, 0, none⟩, 32, [vi r_7.Rows, vi r_7.Cols, .slice B9 r_7.Cells.length c9], 3⟩, ⟨B6, 49, (r_4.Cells.flatMap enc_Dyadic), c6 * 5⟩, ⟨B7, 49, (r_5.Cells.flatMap enc_Dyadic), c7 * 5⟩, ⟨B8, 49, (r_6.Cells.flatMap enc_Dyadic), c8 * 5⟩, ⟨some ⟨b2, 0, none⟩, 59, [.bool m3.bad], 1⟩, ⟨B9, 49, (r_7.Cells.flatMap enc_Dyadic), c9 * 5⟩] [⟨B, (m.Cells.flatMap enc_Dyadic)⟩] := hS41
                        refine ⟨(ST.sel hS41 [0, 1, 2, 3] rfl rfl), ?_⟩
                        refine ra_done (by kernel_rfl) ?_
                        exact ⟨some ⟨b4, 0, none⟩, B9, c9, (FF.cons (hf1.get 1 0 rfl) (FF.cons (hf1.get 2 1 rfl) (FF.cons (hf1.get 4 2 rfl) (FF.cons (hf1.get 5 3 rfl) (FF.cons (hf1.get 6 4 rfl) (FF.cons (hf1.get 7 5 rfl) (FF.cons rfl FF.nil))))))), (hS41.sel [0, 1, 10, 2, 3, 6, 11] rfl rfl)⟩
                      exact allR_nil
                    exact allR_nil
                  exact allR_nil
                exact allR_nil
              exact allR_nil
            exact allR_nil
          refine ra_s 8 (i := 13) rfl rfl rfl (Ys_alloc (T := 32) (cs := [vi 0, vi 0, .slice none 0 0]) (m := 3) hS16 k_zero_32 rfl rfl rfl) ?_ ?_
          · rintro _ w_30 ⟨b4, rfl, hS42⟩
            have hS42 : ST w0 [] _ [⟨some ⟨b, 0, none⟩, 32, [vi m.Rows, vi m.Cols, .slice B m.Cells.length c], 3⟩, ⟨some ⟨b1, 0, none⟩, 28, [.slice none 0 0], 1⟩, ⟨some ⟨b2, 0, none⟩, 59, [.bool bad1], 1⟩, ⟨some ⟨b3, 0, none⟩, 28, [.slice B3 Cells1.length c3], 1⟩, ⟨B3, 49, (Cells1.flatMap enc_Dyadic), c3 * 5⟩, ⟨B4, 49, (r_2.Cells.flatMap enc_Dyadic), c4 * 5⟩, ⟨some ⟨b4, 0, none⟩, 32, [vi 0, vi 0, .slice none 0 0], 3⟩] [⟨B, (m.Cells.flatMap enc_Dyadic)⟩] := hS42
            refine ⟨(ST.sel hS42 [0, 1, 3, 4] rfl rfl), ?_⟩
            refine ra_all (rs := [6]) (by kernel_rfl) rfl ?_
            refine ra_c 26 (i := 6) rfl rfl rfl (Yc_func (g := 29) (vs := [pt (some ⟨b2, 0, none⟩) 0, .agg #[vi r_2.Rows, vi r_2.Cols, .slice B4 r_2.Cells.length c4], .agg #[vi m.Rows, vi m.Cols, .slice B m.Cells.length c]]) k_call_29 rfl (mc rfl (mc rfl (mc rfl mn))) (c_spec_l2C_times (Tl2C.mk bad1) r_2 m (some ⟨b2, 0, none⟩) B4 c4 r_2.Cells.length B c m.Cells.length _ rfl rfl (hS42.inn [false, false, true, false, false, false, false] rfl [(false, 4), (true, 0)] rfl) hc1)) ?_ ?_
            · rintro _ w_31 ⟨B5, c5, rfl, hd16⟩
              have hS43 := hS42.out [false, false, true, false, false, false, false] rfl hd16
              have hS43 : ST w0 [] _ [⟨some ⟨b, 0, none⟩, 32, [vi m.Rows, vi m.Cols, .slice B m.Cells.length c], 3⟩, ⟨some ⟨b1, 0, none⟩, 28, [.slice none 0 0], 1⟩, ⟨some ⟨b3, 0, none⟩, 28, [.slice B3 Cells1.length c3], 1⟩, ⟨B3, 49, (Cells1.flatMap enc_Dyadic), c3 * 5⟩, ⟨B4, 49, (r_2.Cells.flatMap enc_Dyadic), c4 * 5⟩, ⟨some ⟨b4, 0, none⟩, 32, [vi 0, vi 0, .slice none 0 0], 3⟩, ⟨some ⟨b2, 0, none⟩, 59, [.bool m1.bad], 1⟩, ⟨B5, 49, (r_3.Cells.flatMap enc_Dyadic), c5 * 5⟩] [⟨B, (m.Cells.flatMap enc_Dyadic)⟩] := hS43
              refine ⟨(ST.sel hS43 [0, 1, 2, 3] rfl rfl), ?_⟩
              refine ra_all (rs := [8]) (by kernel_rfl) rfl ?_
              refine ra_c 28 (i := 8) rfl rfl rfl (Yc_func (g := 30) (vs := [vi (j : Int)]) k_call_30 rfl (mc rfl mn) (c_spec_l9Pauli (j : Int) _  (hS43.inn0 [] rfl) hc2)) ?_ ?_
              · rintro _ w_32 ⟨B6, c6, rfl, hd17⟩
                have hS44 := hS43.out0 hd17
                have hS44 : ST w0 [] _ [⟨some ⟨b, 0, none⟩, 32, [vi m.Rows, vi m.Cols, .slice B m.Cells.length c], 3⟩, ⟨some ⟨b1, 0, none⟩, 28, [.slice none 0 0], 1⟩, ⟨some ⟨b3, 0, none⟩, 28, [.slice B3 Cells1.length c3], 1⟩, ⟨B3, 49, (Cells1.flatMap enc_Dyadic), c3 * 5⟩, ⟨B4, 49, (r_2.Cells.flatMap enc_Dyadic), c4 * 5⟩, ⟨some ⟨b4, 0, none⟩, 32, [vi 0, vi 0, .slice none 0 0], 3⟩, ⟨some ⟨b2, 0, none⟩, 59, [.bool m1.bad], 1⟩, ⟨B5, 49, (r_3.Cells.flatMap enc_Dyadic), c5 * 5⟩, ⟨B6, 49, (r_4.Cells.flatMap enc_Dyadic), c6 * 5⟩] [⟨B, (m.Cells.flatMap enc_Dyadic)⟩] := hS44
                refine ⟨(ST.sel hS44 [0, 1, 2, 3] rfl rfl), ?_⟩
                refine ra_all (rs := [9]) (by kernel_rfl) rfl ?_
                refine ra_c 29 (i := 9) rfl rfl rfl (Yc_func (g := 29) (vs := [pt (some ⟨b2, 0, none⟩) 0, .agg #[vi r_3.Rows, vi r_3.Cols, .slice B5 r_3.Cells.length c5], .agg #[vi r_4.Rows, vi r_4.Cols, .slice B6 r_4.Cells.length c6]]) k_call_29 rfl (mc rfl (mc rfl (mc rfl mn))) (c_spec_l2C_times m1 r_3 r_4 (some ⟨b2, 0, none⟩) B5 c5 r_3.Cells.length B6 c6 r_4.Cells.length _ rfl rfl (hS44.inn [false, false, false, false, false, false, true, false, false] rfl [(false, 6), (false, 7)] rfl) hc3)) ?_ ?_
                · rintro _ w_33 ⟨B7, c7, rfl, hd18⟩
                  have hS45 := hS44.out [false, false, false, false, false, false, true, false, false] rfl hd18
                  have hS45 : ST w0 [] _ [⟨some ⟨b, 0, none⟩, 32, [vi m.Rows, vi m.Cols, .slice B m.Cells.length c], 3⟩, ⟨some ⟨b1, 0, none⟩, 28, [.slice none 0 0], 1⟩, ⟨some ⟨b3, 0, none⟩, 28, [.slice B3 Cells1.length c3], 1⟩, ⟨B3, 49, (Cells1.flatMap enc_Dyadic), c3 * 5⟩, ⟨B4, 49, (r_2.Cells.flatMap enc_Dyadic), c4 * 5⟩, ⟨some ⟨b4, 0, none⟩, 32, [vi 0, vi 0, .slice none 0 0], 3⟩, ⟨B5, 49, (r_3.Cells.flatMap enc_Dyadic), c5 * 5⟩, ⟨B6, 49, (r_4.Cells.flatMap enc_Dyadic), c6 * 5⟩, ⟨some ⟨b2, 0, none⟩, 59, [.bool m2.bad], 1⟩, ⟨B7, 49, (r_5.Cells.flatMap enc_Dyadic), c7 * 5⟩] [⟨B, (m.Cells.flatMap enc_Dyadic)⟩] := hS45
                  refine ⟨(ST.sel hS45 [0, 1, 2, 3] rfl rfl), ?_⟩
                  refine ra_all (rs := [11]) (by kernel_rfl) rfl ?_
                  refine ra_c 31 (i := 11) rfl rfl rfl (Yc_func (g := 31) (vs := [.agg #[vi m.Rows, vi m.Cols, .slice B m.Cells.length c]]) k_call_31 rfl (mc rfl mn) (c_spec_l3Adj m B c m.Cells.length _ rfl (hS45.inn0 [(true, 0)] rfl) hc4)) ?_ ?_
                  · rintro _ w_34 ⟨B8, c8, rfl, hd19⟩
                    have hS46 := hS45.out0 hd19
                    have hS46 : ST w0 [] _ [⟨some ⟨b, 0, none⟩, 32, [vi m.Rows, vi m.Cols, .slice B m.Cells.length c], 3⟩, ⟨some ⟨b1, 0, none⟩, 28, [.slice none 0 0], 1⟩, ⟨some ⟨b3, 0, none⟩, 28, [.slice B3 Cells1.length c3], 1⟩, ⟨B3, 49, (Cells1.flatMap enc_Dyadic), c3 * 5⟩, ⟨B4, 49, (r_2.Cells.flatMap enc_Dyadic), c4 * 5⟩, ⟨some ⟨b4, 0, none⟩, 32, [vi 0, vi 0, .slice none 0 0], 3⟩, ⟨B5, 49, (r_3.Cells.flatMap enc_Dyadic), c5 * 5⟩, ⟨B6, 49, (r_4.Cells.flatMap enc_Dyadic), c6 * 5⟩, ⟨some ⟨b2, 0, none⟩, 59, [.bool m2.bad], 1⟩, ⟨B7, 49, (r_5.Cells.flatMap enc_Dyadic), c7 * 5⟩, ⟨B8, 49, (r_6.Cells.flatMap enc_Dyadic), c8 * 5⟩] [⟨B, (m.Cells.flatMap enc_Dyadic)⟩] := hS46
                    refine ⟨(ST.sel hS46 [0, 1, 2, 3] rfl rfl), ?_⟩
                    refine ra_all (rs := [12]) (by kernel_rfl) rfl ?_
                    refine ra_c 32 (i := 12) rfl rfl rfl (Yc_func (g := 29) (vs := [pt (some ⟨b2, 0, none⟩) 0, .agg #[vi r_5.Rows, vi r_5.Cols, .slice B7 r_5.Cells.length c7], .agg #[vi r_6.Rows, vi r_6.Cols, .slice B8 r_6.Cells.length c8]]) k_call_29 rfl (mc rfl (mc rfl (mc rfl mn))) (c_spec_l2C_times m2 r_5 r_6 (some ⟨b2, 0, none⟩) B7 c7 r_5.Cells.length B8 c8 r_6.Cells.length _ rfl rfl (hS46.inn [false, false, false, false, false, false, false, false, true, false, false] rfl [(false, 8), (false, 9)] rfl) hc5)) ?_ ?_
                    · rintro _ w_35 ⟨B9, c9, rfl, hd20⟩
                      have hS47 := hS46.out [false, false, false, false, false, false, false, false, true, false, false] rfl hd20
                      have hS47 : ST w0 [] _ [⟨some ⟨b, 0, none⟩, 32, [vi m.Rows, vi m.Cols, .slice B m.Cells.length c], 3⟩, ⟨some ⟨b1, 0, none⟩, 28, [.slice none 0 0], 1⟩, ⟨some ⟨b3, 0, none⟩, 28, [.slice B3 Cells1.length c3], 1⟩, ⟨B3, 49, (Cells1.flatMap enc_Dyadic), c3 * 5⟩, ⟨B4, 49, (r_2.Cells.flatMap enc_Dyadic), c4 * 5⟩, ⟨some ⟨b4, 0, none⟩, 32, [vi 0, vi 0, .slice none 0 0], 3⟩, ⟨B5, 49, (r_3.Cells.flatMap enc_Dyadic), c5 * 5⟩, ⟨B6, 49, (r_4.Cells.flatMap enc_Dyadic), c6 * 5⟩, ⟨B7, 49, (r_5.Cells.flatMap enc_Dyadic), c7 * 5⟩, ⟨B8, 49, (r_6.Cells.flatMap enc_Dyadic), c8 * 5⟩, ⟨some ⟨b2, 0, none⟩, 59, [.bool m3.bad], 1⟩, ⟨B9, 49, (r_7.Cells.flatMap enc_Dyadic), c9 * 5⟩] [⟨B, (m.Cells.flatMap enc_Dyadic)⟩] := hS47
                      refine ⟨(ST.sel hS47 [0, 1, 2, 3] rfl rfl), ?_⟩
                      refine ra_all (rs := [14]) (by kernel_rfl) rfl ?_
                      refine ra_s0 (i := 14) rfl rfl rfl (Ys_store (i := 5) (s := 3) (B := some ⟨b4, 0, none⟩) (T' := 32) (v := .agg #[vi r_7.Rows, vi r_7.Cols, .slice B9 r_7.Cells.length c9]) (vs := [vi r_7.Rows, vi r_7.Cols, .slice B9 r_7.Cells.length c9]) (k := 0) (cs' := [vi r_7.Rows, vi r_7.Cols, .slice B9 r_7.Cells.length c9]) hS47 k_sz_32_3 rfl rfl rfl rfl rfl rfl rfl (Nat.le_of_ble_eq_true rfl) rfl rfl) ?_ ?_
                      · rintro _ w_36 ⟨rfl, hS48⟩
                        have hS48 : ST w0 [] _ [⟨some ⟨b, 0, none⟩, 32, [vi m.Rows, vi m.Cols, .slice B m.Cells.length c], 3⟩, ⟨some ⟨b1, 0, none⟩, 28, [.slice none 0 0], 1⟩, ⟨some ⟨b3, 0, none⟩, 28, [.slice B3 Cells1.length c3], 1⟩, ⟨B3, 49, (Cells1.flatMap enc_Dyadic), c3 * 5⟩, ⟨B4, 49, (r_2.Cells.flatMap enc_Dyadic), c4 * 5⟩, ⟨some ⟨b4, 0, none⟩, 32, [vi r_7.Rows, vi r_7.Cols, .slice B9 r_7.Cells.length c9], 3⟩, ⟨B5, 49, (r_3.Cells.flatMap enc_Dyadic), c5 * 5⟩, ⟨B6, 49, (r_4.Cells.flatMap enc_Dyadic), c6 * 5⟩, ⟨B7, 49, (r_5.Cells.flatMap enc_Dyadic), c7 * 5⟩, ⟨B8, 49, (r_6.Cells.flatMap enc_Dyadic), c8 * 5⟩, ⟨some ⟨b2, 0, none⟩, 59, [.bool m3.bad], 1⟩, ⟨B9, 49, (r_7.Cells.flatMap enc_Dyadic), c9 * 5⟩] [⟨B, (m.Cells.flatMap enc_Dyadic)⟩] := hS48
                        refine ⟨(ST.sel hS48 [0, 1, 2, 3] rfl rfl), ?_⟩
                        refine ra_done (by kernel_rfl) ?_
                        exact ⟨some ⟨b4, 0, none⟩, B9, c9, (FF.cons (hf1.get 1 0 rfl) (FF.cons (hf1.get 2 1 rfl) (FF.cons (hf1.get 4 2 rfl) (FF.cons (hf1.get 5 3 rfl) (FF.cons (hf1.get 6 4 rfl) (FF.cons (hf1.get 7 5 rfl) (FF.cons rfl FF.nil))))))), (hS48.sel [0, 1, 10, 2, 3, 5, 11] rfl rfl)⟩
                      exact allR_nil
                    exact allR_nil
                  exact allR_nil
                exact allR_nil
              exact allR_nil
            exact allR_nil
          exact allR_nil
        refine ra_s 8 (i := 13) rfl rfl rfl (Ys_alloc (T := 32) (cs := [vi 0, vi 0, .slice none 0 0]) (m := 3) hS15 k_zero_32 rfl rfl rfl) ?_ ?_
        · rintro _ w_37 ⟨b4, rfl, hS49⟩
          have hS49 : ST w0 [] _ [⟨some ⟨b, 0, none⟩, 32, [vi m.Rows, vi m.Cols, .slice B m.Cells.length c], 3⟩, ⟨some ⟨b1, 0, none⟩, 28, [.slice none 0 0], 1⟩, ⟨some ⟨b2, 0, none⟩, 59, [.bool bad1], 1⟩, ⟨some ⟨b3, 0, none⟩, 28, [.slice B3 Cells1.length c3], 1⟩, ⟨B3, 49, (Cells1.flatMap enc_Dyadic), c3 * 5⟩, ⟨some ⟨b4, 0, none⟩, 32, [vi 0, vi 0, .slice none 0 0], 3⟩] [⟨B, (m.Cells.flatMap enc_Dyadic)⟩] := hS49
          refine ⟨(ST.sel hS49 [0, 1, 3, 4] rfl rfl), ?_⟩
          refine ra_all (rs := [4]) (by kernel_rfl) rfl ?_
          refine ra_c 24 (i := 4) rfl rfl rfl (Yc_func (g := 30) (vs := [vi (i1 : Int)]) k_call_30 rfl (mc rfl mn) (c_spec_l9Pauli (i1 : Int) _  (hS49.inn0 [] rfl) hc)) ?_ ?_
          · rintro _ w_38 ⟨B4, c4, rfl, hd21⟩
            have hS50 := hS49.out0 hd21
            have hS50 : ST w0 [] _ [⟨some ⟨b, 0, none⟩, 32, [vi m.Rows, vi m.Cols, .slice B m.Cells.length c], 3⟩, ⟨some ⟨b1, 0, none⟩, 28, [.slice none 0 0], 1⟩, ⟨some ⟨b2, 0, none⟩, 59, [.bool bad1], 1⟩, ⟨some ⟨b3, 0, none⟩, 28, [.slice B3 Cells1.length c3], 1⟩, ⟨B3, 49, (Cells1.flatMap enc_Dyadic), c3 * 5⟩, ⟨some ⟨b4, 0, none⟩, 32, [vi 0, vi 0, .slice none 0 0], 3⟩, ⟨B4, 49, (r_2.Cells.flatMap enc_Dyadic), c4 * 5⟩] [⟨B, (m.Cells.flatMap enc_Dyadic)⟩] := hS50
            refine ⟨(ST.sel hS50 [0, 1, 3, 4] rfl rfl), ?_⟩
            refine ra_all (rs := [6]) (by kernel_rfl) rfl ?_
            refine ra_c 26 (i := 6) rfl rfl rfl (Yc_func (g := 29) (vs := [pt (some ⟨b2, 0, none⟩) 0, .agg #[vi r_2.Rows, vi r_2.Cols, .slice B4 r_2.Cells.length c4], .agg #[vi m.Rows, vi m.Cols, .slice B m.Cells.length c]]) k_call_29 rfl (mc rfl (mc rfl (mc rfl mn))) (c_spec_l2C_times (Tl2C.mk bad1) r_2 m (some ⟨b2, 0, none⟩) B4 c4 r_2.Cells.length B c m.Cells.length _ rfl rfl (hS50.inn [false, false, true, false, false, false, false] rfl [(false, 5), (true, 0)] rfl) hc1)) ?_ ?_
            · rintro _ w_39 ⟨B5, c5, rfl, hd22⟩
              have hS51 := hS50.out [false, false, true, false, false, false, false] rfl hd22
              have hS51 : ST w0 [] _ [⟨some ⟨b, 0, none⟩, 32, [vi m.Rows, vi m.Cols, .slice B m.Cells.length c], 3⟩, ⟨some ⟨b1, 0, none⟩, 28, [.slice none 0 0], 1⟩, ⟨some ⟨b3, 0, none⟩, 28, [.slice B3 Cells1.length c3], 1⟩, ⟨B3, 49, (Cells1.flatMap enc_Dyadic), c3 * 5⟩, ⟨some ⟨b4, 0, none⟩, 32, [vi 0, vi 0, .slice none 0 0], 3⟩, ⟨B4, 49, (r_2.Cells.flatMap enc_Dyadic), c4 * 5⟩, ⟨some ⟨b2, 0, none⟩, 59, [.bool m1.bad], 1⟩, ⟨B5, 49, (r_3.Cells.flatMap enc_Dyadic), c5 * 5⟩] [⟨B, (m.Cells.flatMap enc_Dyadic)⟩] := hS51
              refine ⟨(ST.sel hS51 [0, 1, 2, 3] rfl rfl), ?_⟩
              refine ra_all (rs := [8]) (by kernel_rfl) rfl ?_
              refine ra_c 28 (i := 8) rfl rfl rfl (Yc_func (g := 30) (vs := [vi (j : Int)]) k_call_30 rfl (mc rfl mn) (c_spec_l9Pauli (j : Int) _  (hS51.inn0 [] rfl) hc2)) ?_ ?_
              · rintro _ w_40 ⟨B6, c6, rfl, hd23⟩
                have hS52 := hS51.out0 hd23
                have hS52 : ST w0 [] _ [⟨some ⟨b, 0, none⟩, 32, [vi m.Rows, vi m.Cols, .slice B m.Cells.length c], 3⟩, ⟨some ⟨b1, 0, none⟩, 28, [.slice none 0 0], 1⟩, ⟨some ⟨b3, 0, none⟩, 28, [.slice B3 Cells1.length c3], 1⟩, ⟨B3, 49, (Cells1.flatMap enc_Dyadic), c3 * 5⟩, ⟨some ⟨b4, 0, none⟩, 32, [vi 0, vi 0, .slice none 0 0], 3⟩, ⟨B4, 49, (r_2.Cells.flatMap enc_Dyadic), c4 * 5⟩, ⟨some ⟨b2, 0, none⟩, 59, [.bool m1.bad], 1⟩, ⟨B5, 49, (r_3.Cells.flatMap enc_Dyadic), c5 * 5⟩, ⟨B6, 49, (r_4.Cells.flatMap enc_Dyadic), c6 * 5⟩] [⟨B, (m.Cells.flatMap enc_Dyadic)⟩] := hS52
                refine ⟨(ST.sel hS52 [0, 1, 2, 3] rfl rfl), ?_⟩
                refine ra_all (rs := [9]) (by kernel_rfl) rfl ?_
                refine ra_c 29 (i := 9) rfl rfl rfl (Yc_func (g := 29) (vs := [pt (some ⟨b2, 0, none⟩) 0, .agg #[vi r_3.Rows, vi r_3.Cols, .slice B5 r_3.Cells.length c5], .agg #[vi r_4.Rows, vi r_4.Cols, .slice B6 r_4.Cells.length c6]]) k_call_29 rfl (mc rfl (mc rfl (mc rfl mn))) (c_spec_l2C_times m1 r_3 r_4 (some ⟨b2, 0, none⟩) B5 c5 r_3.Cells.length B6 c6 r_4.Cells.length _ rfl rfl (hS52.inn [false, false, false, false, false, false, true, false, false] rfl [(false, 6), (false, 7)] rfl) hc3)) ?_ ?_
                · rintro _ w_41 ⟨B7, c7, rfl, hd24⟩
                  have hS53 := hS52.out [false, false, false, false, false, false, true, false, false] rfl hd24
                  have hS53 : ST w0 [] _ [⟨some ⟨b, 0, none⟩, 32, [vi m.Rows, vi m.Cols, .slice B m.Cells.length c], 3⟩, ⟨some ⟨b1, 0, none⟩, 28, [.slice none 0 0], 1⟩, ⟨some ⟨b3, 0, none⟩, 28, [.slice B3 Cells1.length c3], 1⟩, ⟨B3, 49, (Cells1.flatMap enc_Dyadic), c3 * 5⟩, ⟨some ⟨b4, 0, none⟩, 32, [vi 0, vi 0, .slice none 0 0], 3⟩, ⟨B4, 49, (r_2.Cells.flatMap enc_Dyadic), c4 * 5⟩, ⟨B5, 49, (r_3.Cells.flatMap enc_Dyadic), c5 * 5⟩, ⟨B6, 49, (r_4.Cells.flatMap enc_Dyadic), c6 * 5⟩, ⟨some ⟨b2, 0, none⟩, 59, [.bool m2.bad], 1⟩, ⟨B7, 49, (r_5.Cells.flatMap enc_Dyadic), c7 * 5⟩] [⟨B, (m.Cells.flatMap enc_Dyadic)⟩] := hS53
                  refine ⟨(ST.sel hS53 [0, 1, 2, 3] rfl rfl), ?_⟩
                  refine ra_all (rs := [11]) (by kernel_rfl) rfl ?_
                  refine ra_c 31 (i := 11) rfl rfl rfl (Yc_func (g := 31) (vs := [.agg #[vi m.Rows, vi m.Cols, .slice B m.Cells.length c]]) k_call_31 rfl (mc rfl mn) (c_spec_l3Adj m B c m.Cells.length _ rfl (hS53.inn0 [(true, 0)] rfl) hc4)) ?_ ?_
                  · rintro _ w_42 ⟨B8, c8, rfl, hd25⟩
                    have hS54 := hS53.out0 hd25
                    have hS54 : ST w0 [] _ [⟨some ⟨b, 0, none⟩, 32, [vi m.Rows, vi m.Cols, .slice B m.Cells.length c], 3⟩, ⟨some ⟨b1, 0, none⟩, 28, [.slice none 0 0], 1⟩, ⟨some ⟨b3, 0, none⟩, 28, [.slice B3 Cells1.length c3], 1⟩, ⟨B3, 49, (Cells1.flatMap enc_Dyadic), c3 * 5⟩, ⟨some ⟨b4, 0, none⟩, 32, [vi 0, vi 0, .slice none 0 0], 3⟩, ⟨B4, 49, (r_2.Cells.flatMap enc_Dyadic), c4 * 5⟩, ⟨B5, 49, (r_3.Cells.flatMap enc_Dyadic), c5 * 5⟩, ⟨B6, 49, (r_4.Cells.flatMap enc_Dyadic), c6 * 5⟩, ⟨some ⟨b2, 0, none⟩, 59, [.bool m2.bad], 1⟩, ⟨B7, 49, (r_5.Cells.flatMap enc_Dyadic), c7 * 5⟩, ⟨B8, 49, (r_6.Cells.flatMap enc_Dyadic), c8 * 5⟩] [⟨B, (m.Cells.flatMap enc_Dyadic)⟩] := hS54
                    refine ⟨(ST.sel hS54 [0, 1, 2, 3] rfl rfl), ?_⟩
                    refine ra_all (rs := [12]) (by kernel_rfl) rfl ?_
                    refine ra_c 32 (i := 12) rfl rfl rfl (Yc_func (g := 29) (vs := [pt (some ⟨b2, 0, none⟩) 0, .agg #[vi r_5.Rows, vi r_5.Cols, .slice B7 r_5.Cells.length c7], .agg #[vi r_6.Rows, vi r_6.Cols, .slice B8 r_6.Cells.length c8]]) k_call_29 rfl (mc rfl (mc rfl (mc rfl mn))) (c_spec_l2C_times m2 r_5 r_6 (some ⟨b2, 0, none⟩) B7 c7 r_5.Cells.length B8 c8 r_6.Cells.length _ rfl rfl (hS54.inn [false, false, false, false, false, false, false, false, true, false, false] rfl [(false, 8), (false, 9)] rfl) hc5)) ?_ ?_
                    · rintro _ w_43 ⟨B9, c9, rfl, hd26⟩
                      have hS55 := hS54.out [false, false, false, false, false, false, false, false, true, false, false] rfl hd26
                      have hS55 : ST w0 [] _ [⟨some ⟨b, 0, none⟩, 32, [vi m.Rows, vi m.Cols, .slice B m.Cells.length c], 3⟩, ⟨some ⟨b1, 0, none⟩, 28, [.slice none 0 0], 1⟩, ⟨some ⟨b3, 0, none⟩, 28, [.slice B3 Cells1.length c3], 1⟩, ⟨B3, 49, (Cells1.flatMap enc_Dyadic), c3 * 5⟩, ⟨some ⟨b4, 0, none⟩, 32, [vi 0, vi 0, .slice none 0 0], 3⟩, ⟨B4, 49, (r_2.Cells.flatMap enc_Dyadic), c4 * 5⟩, ⟨B5, 49, (r_3.Cells.flatMap enc_Dyadic), c5 * 5⟩, ⟨B6, 49, (r_4.Cells.flatMap enc_Dyadic), c6 * 5⟩, ⟨B7, 49, (r_5.Cells.flatMap enc_Dyadic), c7 * 5⟩, ⟨B8, 49, (r_6.Cells.flatMap enc_Dyadic), c8 * 5⟩, ⟨some ⟨b2, 0, none⟩, 59, [.bool m3.bad], 1⟩, ⟨B9, 49, (r_7.Cells.flatMap enc_Dyadic), c9 * 5⟩] [⟨B, (m.Cells.flatMap enc_Dyadic)⟩] := hS55
                      refine ⟨(ST.sel hS55 [0, 1, 2, 3] rfl rfl), ?_⟩
                      refine ra_all (rs := [14]) (by kernel_rfl) rfl ?_
                      refine ra_s0 (i := 14) rfl rfl rfl (Ys_store (i := 4) (s := 3) (B := some ⟨b4, 0, none⟩) (T' := 32) (v := .agg #[vi r_7.Rows, vi r_7.Cols, .slice B9 r_7.Cells.length c9]) (vs := [vi r_7.Rows, vi r_7.Cols, .slice B9 r_7.Cells.length c9]) (k := 0) (cs' := [vi r_7.Rows, vi r_7.Cols, .slice B9 r_7.Cells.length c9]) hS55 k_sz_32_3 rfl rfl rfl rfl rfl rfl rfl (Nat.le_of_ble_eq_true rfl) rfl rfl) ?_ ?_
                      · rintro _ w_44 ⟨rfl, hS56⟩
                        have hS56 : ST w0 [] _ [⟨some ⟨b, 0, none⟩, 32, [vi m.Rows, vi m.Cols, .slice B m.Cells.length c], 3⟩, ⟨some ⟨b1, 0, none⟩, 28, [.slice none 0 0], 1⟩, ⟨some ⟨b3, 0, none⟩, 28, [.slice B3 Cells1.length c3], 1⟩, ⟨B3, 49, (Cells1.flatMap enc_Dyadic), c3 * 5⟩, ⟨some ⟨b4, 0, none⟩, 32, [vi r_7.Rows, vi r_7.Cols, .slice B9 r_7.Cells.length c9], 3⟩, ⟨B4, 49, (r_2.Cells.flatMap enc_Dyadic), c4 * 5⟩, ⟨B5, 49, (r_3.Cells.flatMap enc_Dyadic), c5 * 5⟩, ⟨B6, 49, (r_4.Cells.flatMap enc_Dyadic), c6 * 5⟩, ⟨B7, 49, (r_5.Cells.flatMap enc_Dyadic), c7 * 5⟩, ⟨B8, 49, (r_6.Cells.flatMap enc_Dyadic), c8 * 5⟩, ⟨some ⟨b2, 0, none⟩, 59, [.bool m3.bad], 1⟩, ⟨B9, 49, (r_7.Cells.flatMap enc_Dyadic), c9 * 5⟩] [⟨B, (m.Cells.flatMap enc_Dyadic)⟩] := hS56
                        refine ⟨(ST.sel hS56 [0, 1, 2, 3] rfl rfl), ?_⟩
                        refine ra_done (by kernel_rfl) ?_
                        exact ⟨some ⟨b4, 0, none⟩, B9, c9, (FF.cons (hf1.get 1 0 rfl) (FF.cons (hf1.get 2 1 rfl) (FF.cons (hf1.get 4 2 rfl) (FF.cons (hf1.get 5 3 rfl) (FF.cons (hf1.get 6 4 rfl) (FF.cons (hf1.get 7 5 rfl) (FF.cons rfl FF.nil))))))), (hS56.sel [0, 1, 10, 2, 3, 4, 11] rfl rfl)⟩
                      exact allR_nil
                    exact allR_nil
                  exact allR_nil
                exact allR_nil
              exact allR_nil
            exact allR_nil
          exact allR_nil
        exact allR_nil
      rintro f w ⟨B10, B11, c10, hf2, hS14⟩
      refine cw_seq ?_
      obtain ⟨x, hx, hb1⟩ := bind_inv hb1
      obtain ⟨x1, hx1, hb1⟩ := bind_inv hb1
      obtain ⟨⟨r_8, m4⟩, hc6, hb1⟩ := bind_inv hb1
      refine cw_mid (fun f w => ∃ (B12 : Option Addr), FF f [(1, pt (some ⟨b, 0, none⟩) 0), (2, pt (some ⟨b1, 0, none⟩) 0), (4, pt (some ⟨b2, 0, none⟩) 0), (5, pt (some ⟨b3, 0, none⟩) 0), (6, vi (i1 : Int)), (7, vi (j : Int)), (9, pt B12 0)] ∧ ST w0 [] w [⟨some ⟨b, 0, none⟩, 32, [vi m.Rows, vi m.Cols, .slice B m.Cells.length c], 3⟩, ⟨some ⟨b1, 0, none⟩, 28, [.slice none 0 0], 1⟩, ⟨some ⟨b2, 0, none⟩, 59, [.bool m4.bad], 1⟩, ⟨some ⟨b3, 0, none⟩, 28, [.slice B3 Cells1.length c3], 1⟩, ⟨B3, 49, (Cells1.flatMap enc_Dyadic), c3 * 5⟩, ⟨B12, 49, [vi r_8.Num.A, vi r_8.Num.B, vi r_8.Num.C, vi r_8.Num.D, vi r_8.Exp], 5⟩] [⟨B, (m.Cells.flatMap enc_Dyadic)⟩]) ?_ ?_
      · skip
        refine ra_start (ST.sel hS14 [0, 1, 3, 4, 5, 6] rfl rfl).fn (by kernel_rfl) ?_
        have hS59 := hS14.drew
        refine ra_q 0 33 (v := pt (some ⟨b2, 0, none⟩) 0) rfl rfl rfl (by kernel_rfl) (by kernel_rfl) (by kernel_rfl) (ST.sel hS59 [0, 1, 3, 4, 5, 6] rfl rfl) (fun w' hw' => (Y_move (v := pt (some ⟨b2, 0, none⟩) 0) rfl (hf2.get 4 2 rfl))) ?_
        refine ra_q 1 34 (v := pt B10 2) rfl rfl rfl (by kernel_rfl) (by kernel_rfl) (by kernel_rfl) (ST.sel hS59 [0, 1, 3, 4, 5, 6] rfl rfl) (fun w' hw' => (Y_fieldAddr (B := B10) (i := 0) (s := 0) k_fd_32_2_2_26 k_sz_26_1 rfl (hf2.get 8 6 rfl))) ?_
        refine ra_q 2 35 (v := .slice B11 r_7.Cells.length c10) rfl rfl rfl (by kernel_rfl) (by kernel_rfl) (by kernel_rfl) (ST.sel hS59 [0, 1, 3, 4, 5, 6] rfl rfl) (fun w' hw' => (Y_load1 (B := B10) (i := 2) (cs := [vi r_7.Rows, vi r_7.Cols, .slice B11 r_7.Cells.length c10]) (v := .slice B11 r_7.Cells.length c10) k_sc_26 rfl rfl (ST.cf hw' (i := 4) rfl) rfl)) ?_
        refine ra_q 3 36 (v := pt B11 ((0 : Int).toNat * 5)) rfl rfl rfl (by kernel_rfl) (by kernel_rfl) (by kernel_rfl) (ST.sel hS59 [0, 1, 3, 4, 5, 6] rfl rfl) (fun w' hw' => (Y_index (B := B11) (m := r_7.Cells.length) (c := c10) (k := .i64) (i := 0) k_sl_26_49 k_sz_49_5 rfl rfl rfl (gi_isSome enc_Dyadic_len rfl (ST.cf hw' (i := 5) rfl) hx) (getI_nn hx) (getI_ltI hx rfl))) ?_
        refine ra_q 4 37 (v := .agg #[vi x.Num.A, vi x.Num.B, vi x.Num.C, vi x.Num.D, vi x.Exp]) rfl rfl rfl (by kernel_rfl) (by kernel_rfl) (by kernel_rfl) (ST.sel hS59 [0, 1, 3, 4, 5, 6] rfl rfl) (fun w' hw' => (Y_loadA (B := B11) (i := (0 : Int).toNat * 5) (cs := (r_7.Cells.flatMap enc_Dyadic)) (vs := [vi x.Num.A, vi x.Num.B, vi x.Num.C, vi x.Num.D, vi x.Exp]) k_ag_49 k_sz_49_5 rfl rfl (ST.cf hw' (i := 5) rfl) (enc_Dyadic_len x) (gi_seg enc_Dyadic_len hx))) ?_
        refine ra_q 5 38 (v := pt B10 2) rfl rfl rfl (by kernel_rfl) (by kernel_rfl) (by kernel_rfl) (ST.sel hS59 [0, 1, 3, 4, 5, 6] rfl rfl) (fun w' hw' => (Y_fieldAddr (B := B10) (i := 0) (s := 0) k_fd_32_2_2_26 k_sz_26_1 rfl (hf2.get 8 6 rfl))) ?_
        refine ra_q 6 39 (v := .slice B11 r_7.Cells.length c10) rfl rfl rfl (by kernel_rfl) (by kernel_rfl) (by kernel_rfl) (ST.sel hS59 [0, 1, 3, 4, 5, 6] rfl rfl) (fun w' hw' => (Y_load1 (B := B10) (i := 2) (cs := [vi r_7.Rows, vi r_7.Cols, .slice B11 r_7.Cells.length c10]) (v := .slice B11 r_7.Cells.length c10) k_sc_26 rfl rfl (ST.cf hw' (i := 4) rfl) rfl)) ?_
        refine ra_q 7 40 (v := pt B11 ((3 : Int).toNat * 5)) rfl rfl rfl (by kernel_rfl) (by kernel_rfl) (by kernel_rfl) (ST.sel hS59 [0, 1, 3, 4, 5, 6] rfl rfl) (fun w' hw' => (Y_index (B := B11) (m := r_7.Cells.length) (c := c10) (k := .i64) (i := 3) k_sl_26_49 k_sz_49_5 rfl rfl rfl (gi_isSome enc_Dyadic_len rfl (ST.cf hw' (i := 5) rfl) hx1) (getI_nn hx1) (getI_ltI hx1 rfl))) ?_
        refine ra_q 8 41 (v := .agg #[vi x1.Num.A, vi x1.Num.B, vi x1.Num.C, vi x1.Num.D, vi x1.Exp]) rfl rfl rfl (by kernel_rfl) (by kernel_rfl) (by kernel_rfl) (ST.sel hS59 [0, 1, 3, 4, 5, 6] rfl rfl) (fun w' hw' => (Y_loadA (B := B11) (i := (3 : Int).toNat * 5) (cs := (r_7.Cells.flatMap enc_Dyadic)) (vs := [vi x1.Num.A, vi x1.Num.B, vi x1.Num.C, vi x1.Num.D, vi x1.Exp]) k_ag_49 k_sz_49_5 rfl rfl (ST.cf hw' (i := 5) rfl) (enc_Dyadic_len x1) (gi_seg enc_Dyadic_len hx1))) ?_
        refine ra_all (rs := [9, 10]) (by kernel_rfl) rfl ?_
        refine ra_c 42 (i := 9) rfl rfl rfl (Yc_func (g := 32) (vs := [pt (some ⟨b2, 0, none⟩) 0, .agg #[vi x.Num.A, vi x.Num.B, vi x.Num.C, vi x.Num.D, vi x.Exp], .agg #[vi x1.Num.A, vi x1.Num.B, vi x1.Num.C, vi x1.Num.D, vi x1.Exp]]) k_call_32 rfl (mc rfl (mc rfl (mc rfl mn))) (c_spec_l2C_add m3 x x1 (some ⟨b2, 0, none⟩) _  (hS59.inn [false, false, true, false, false, false, false] rfl [] rfl) hc6)) ?_ ?_
        · rintro _ w_45 ⟨rfl, hd27⟩
          have hS60 := hS59.out [false, false, true, false, false, false, false] rfl hd27
          have hS60 : ST w0 [] _ [⟨some ⟨b, 0, none⟩, 32, [vi m.Rows, vi m.Cols, .slice B m.Cells.length c], 3⟩, ⟨some ⟨b1, 0, none⟩, 28, [.slice none 0 0], 1⟩, ⟨some ⟨b3, 0, none⟩, 28, [.slice B3 Cells1.length c3], 1⟩, ⟨B3, 49, (Cells1.flatMap enc_Dyadic), c3 * 5⟩, ⟨B10, 32, [vi r_7.Rows, vi r_7.Cols, .slice B11 r_7.Cells.length c10], 3⟩, ⟨B11, 49, (r_7.Cells.flatMap enc_Dyadic), c10 * 5⟩, ⟨some ⟨b2, 0, none⟩, 59, [.bool m4.bad], 1⟩] [⟨B, (m.Cells.flatMap enc_Dyadic)⟩] := hS60
          refine ⟨(ST.sel hS60 [0, 1, 2, 3, 4, 5] rfl rfl), ?_⟩
          refine ra_all (rs := [10]) (by kernel_rfl) rfl ?_
          refine ra_s 9 (i := 10) rfl rfl rfl (Ys_alloc (T := 49) (cs := [vi 0, vi 0, vi 0, vi 0, vi 0]) (m := 5) hS60 k_zero_49 rfl rfl rfl) ?_ ?_
          · rintro _ w_46 ⟨b5, rfl, hS61⟩
            have hS61 : ST w0 [] _ [⟨some ⟨b, 0, none⟩, 32, [vi m.Rows, vi m.Cols, .slice B m.Cells.length c], 3⟩, ⟨some ⟨b1, 0, none⟩, 28, [.slice none 0 0], 1⟩, ⟨some ⟨b3, 0, none⟩, 28, [.slice B3 Cells1.length c3], 1⟩, ⟨B3, 49, (Cells1.flatMap enc_Dyadic), c3 * 5⟩, ⟨B10, 32, [vi r_7.Rows, vi r_7.Cols, .slice B11 r_7.Cells.length c10], 3⟩, ⟨B11, 49, (r_7.Cells.flatMap enc_Dyadic), c10 * 5⟩, ⟨some ⟨b2, 0, none⟩, 59, [.bool m4.bad], 1⟩, ⟨some ⟨b5, 0, none⟩, 49, [vi 0, vi 0, vi 0, vi 0, vi 0], 5⟩] [⟨B, (m.Cells.flatMap enc_Dyadic)⟩] := hS61
            refine ⟨(ST.sel hS61 [0, 1, 2, 3, 4, 5] rfl rfl), ?_⟩
            refine ra_all (rs := [11]) (by kernel_rfl) rfl ?_
            refine ra_s0 (i := 11) rfl rfl rfl (Ys_store (i := 7) (s := 5) (B := some ⟨b5, 0, none⟩) (T' := 49) (v := .agg #[vi r_8.Num.A, vi r_8.Num.B, vi r_8.Num.C, vi r_8.Num.D, vi r_8.Exp]) (vs := [vi r_8.Num.A, vi r_8.Num.B, vi r_8.Num.C, vi r_8.Num.D, vi r_8.Exp]) (k := 0) (cs' := [vi r_8.Num.A, vi r_8.Num.B, vi r_8.Num.C, vi r_8.Num.D, vi r_8.Exp]) hS61 k_sz_49_5 rfl rfl rfl rfl rfl rfl rfl (Nat.le_of_ble_eq_true rfl) rfl rfl) ?_ ?_
            · rintro _ w_47 ⟨rfl, hS62⟩
              have hS62 : ST w0 [] _ [⟨some ⟨b, 0, none⟩, 32, [vi m.Rows, vi m.Cols, .slice B m.Cells.length c], 3⟩, ⟨some ⟨b1, 0, none⟩, 28, [.slice none 0 0], 1⟩, ⟨some ⟨b3, 0, none⟩, 28, [.slice B3 Cells1.length c3], 1⟩, ⟨B3, 49, (Cells1.flatMap enc_Dyadic), c3 * 5⟩, ⟨B10, 32, [vi r_7.Rows, vi r_7.Cols, .slice B11 r_7.Cells.length c10], 3⟩, ⟨B11, 49, (r_7.Cells.flatMap enc_Dyadic), c10 * 5⟩, ⟨some ⟨b2, 0, none⟩, 59, [.bool m4.bad], 1⟩, ⟨some ⟨b5, 0, none⟩, 49, [vi r_8.Num.A, vi r_8.Num.B, vi r_8.Num.C, vi r_8.Num.D, vi r_8.Exp], 5⟩] [⟨B, (m.Cells.flatMap enc_Dyadic)⟩] := hS62
              refine ⟨(ST.sel hS62 [0, 1, 2, 3, 4, 5] rfl rfl), ?_⟩
              refine ra_done (by kernel_rfl) ?_
              exact ⟨some ⟨b5, 0, none⟩, (FF.cons (hf2.get 1 0 rfl) (FF.cons (hf2.get 2 1 rfl) (FF.cons (hf2.get 4 2 rfl) (FF.cons (hf2.get 5 3 rfl) (FF.cons (hf2.get 6 4 rfl) (FF.cons (hf2.get 7 5 rfl) (FF.cons rfl FF.nil))))))), (hS62.sel [0, 1, 6, 2, 3, 7] rfl rfl)⟩
            exact allR_nil
          exact allR_nil
        refine ra_s 9 (i := 10) rfl rfl rfl (Ys_alloc (T := 49) (cs := [vi 0, vi 0, vi 0, vi 0, vi 0]) (m := 5) hS59 k_zero_49 rfl rfl rfl) ?_ ?_
        · rintro _ w_48 ⟨b5, rfl, hS63⟩
          have hS63 : ST w0 [] _ [⟨some ⟨b, 0, none⟩, 32, [vi m.Rows, vi m.Cols, .slice B m.Cells.length c], 3⟩, ⟨some ⟨b1, 0, none⟩, 28, [.slice none 0 0], 1⟩, ⟨some ⟨b2, 0, none⟩, 59, [.bool m3.bad], 1⟩, ⟨some ⟨b3, 0, none⟩, 28, [.slice B3 Cells1.length c3], 1⟩, ⟨B3, 49, (Cells1.flatMap enc_Dyadic), c3 * 5⟩, ⟨B10, 32, [vi r_7.Rows, vi r_7.Cols, .slice B11 r_7.Cells.length c10], 3⟩, ⟨B11, 49, (r_7.Cells.flatMap enc_Dyadic), c10 * 5⟩, ⟨some ⟨b5, 0, none⟩, 49, [vi 0, vi 0, vi 0, vi 0, vi 0], 5⟩] [⟨B, (m.Cells.flatMap enc_Dyadic)⟩] := hS63
          refine ⟨(ST.sel hS63 [0, 1, 3, 4, 5, 6] rfl rfl), ?_⟩
          refine ra_all (rs := [9]) (by kernel_rfl) rfl ?_
          refine ra_c 42 (i := 9) rfl rfl rfl (Yc_func (g := 32) (vs := [pt (some ⟨b2, 0, none⟩) 0, .agg #[vi x.Num.A, vi x.Num.B, vi x.Num.C, vi x.Num.D, vi x.Exp], .agg #[vi x1.Num.A, vi x1.Num.B, vi x1.Num.C, vi x1.Num.D, vi x1.Exp]]) k_call_32 rfl (mc rfl (mc rfl (mc rfl mn))) (c_spec_l2C_add m3 x x1 (some ⟨b2, 0, none⟩) _  (hS63.inn [false, false, true, false, false, false, false, false] rfl [] rfl) hc6)) ?_ ?_
          · rintro _ w_49 ⟨rfl, hd28⟩
            have hS64 := hS63.out [false, false, true, false, false, false, false, false] rfl hd28
            have hS64 : ST w0 [] _ [⟨some ⟨b, 0, none⟩, 32, [vi m.Rows, vi m.Cols, .slice B m.Cells.length c], 3⟩, ⟨some ⟨b1, 0, none⟩, 28, [.slice none 0 0], 1⟩, ⟨some ⟨b3, 0, none⟩, 28, [.slice B3 Cells1.length c3], 1⟩, ⟨B3, 49, (Cells1.flatMap enc_Dyadic), c3 * 5⟩, ⟨B10, 32, [vi r_7.Rows, vi r_7.Cols, .slice B11 r_7.Cells.length c10], 3⟩, ⟨B11, 49, (r_7.Cells.flatMap enc_Dyadic), c10 * 5⟩, ⟨some ⟨b5, 0, none⟩, 49, [vi 0, vi 0, vi 0, vi 0, vi 0], 5⟩, ⟨some ⟨b2, 0, none⟩, 59, [.bool m4.bad], 1⟩] [⟨B, (m.Cells.flatMap enc_Dyadic)⟩] := hS64
            refine ⟨(ST.sel hS64 [0, 1, 2, 3, 4, 5] rfl rfl), ?_⟩
            refine ra_all (rs := [11]) (by kernel_rfl) rfl ?_
            refine ra_s0 (i := 11) rfl rfl rfl (Ys_store (i := 6) (s := 5) (B := some ⟨b5, 0, none⟩) (T' := 49) (v := .agg #[vi r_8.Num.A, vi r_8.Num.B, vi r_8.Num.C, vi r_8.Num.D, vi r_8.Exp]) (vs := [vi r_8.Num.A, vi r_8.Num.B, vi r_8.Num.C, vi r_8.Num.D, vi r_8.Exp]) (k := 0) (cs' := [vi r_8.Num.A, vi r_8.Num.B, vi r_8.Num.C, vi r_8.Num.D, vi r_8.Exp]) hS64 k_sz_49_5 rfl rfl rfl rfl rfl rfl rfl (Nat.le_of_ble_eq_true rfl) rfl rfl) ?_ ?_
            · rintro _ w_50 ⟨rfl, hS65⟩
              have hS65 : ST w0 [] _ [⟨some ⟨b, 0, none⟩, 32, [vi m.Rows, vi m.Cols, .slice B m.Cells.length c], 3⟩, ⟨some ⟨b1, 0, none⟩, 28, [.slice none 0 0], 1⟩, ⟨some ⟨b3, 0, none⟩, 28, [.slice B3 Cells1.length c3], 1⟩, ⟨B3, 49, (Cells1.flatMap enc_Dyadic), c3 * 5⟩, ⟨B10, 32, [vi r_7.Rows, vi r_7.Cols, .slice B11 r_7.Cells.length c10], 3⟩, ⟨B11, 49, (r_7.Cells.flatMap enc_Dyadic), c10 * 5⟩, ⟨some ⟨b5, 0, none⟩, 49, [vi r_8.Num.A, vi r_8.Num.B, vi r_8.Num.C, vi r_8.Num.D, vi r_8.Exp], 5⟩, ⟨some ⟨b2, 0, none⟩, 59, [.bool m4.bad], 1⟩] [⟨B, (m.Cells.flatMap enc_Dyadic)⟩] := hS65
              refine ⟨(ST.sel hS65 [0, 1, 2, 3, 4, 5] rfl rfl), ?_⟩
              refine ra_done (by kernel_rfl) ?_
              exact ⟨some ⟨b5, 0, none⟩, (FF.cons (hf2.get 1 0 rfl) (FF.cons (hf2.get 2 1 rfl) (FF.cons (hf2.get 4 2 rfl) (FF.cons (hf2.get 5 3 rfl) (FF.cons (hf2.get 6 4 rfl) (FF.cons (hf2.get 7 5 rfl) (FF.cons rfl FF.nil))))))), (hS65.sel [0, 1, 7, 2, 3, 6] rfl rfl)⟩
            exact allR_nil
          exact allR_nil
        exact allR_nil
      rintro f w ⟨B12, hf3, hS58⟩
      obtain ⟨⟨r_9, m5⟩, hc7, hb1⟩ := bind_inv hb1
      obtain ⟨hap, hb1⟩ := chk_inv hb1
      refine cw_mid (fun f w => ∃ (B14 : Option Addr) (c12 : Nat), FF f [(1, pt (some ⟨b, 0, none⟩) 0), (2, pt (some ⟨b1, 0, none⟩) 0), (4, pt (some ⟨b2, 0, none⟩) 0), (5, pt (some ⟨b3, 0, none⟩) 0), (6, vi (i1 : Int)), (7, vi (j : Int))] ∧ ST w0 [] w [⟨some ⟨b, 0, none⟩, 32, [vi m.Rows, vi m.Cols, .slice B m.Cells.length c], 3⟩, ⟨some ⟨b1, 0, none⟩, 28, [.slice none 0 0], 1⟩, ⟨some ⟨b2, 0, none⟩, 59, [.bool m5.bad], 1⟩, ⟨some ⟨b3, 0, none⟩, 28, [.slice B14 ((Cells1 ++ [r_9]).length) c12], 1⟩, ⟨B14, 49, ((Cells1 ++ [r_9]).flatMap enc_Dyadic), c12 * 5⟩] [⟨B, (m.Cells.flatMap enc_Dyadic)⟩]) ?_ ?_
      · skip
        refine ra_start (ST.sel hS58 [0, 1, 5] rfl rfl).fn (by kernel_rfl) ?_
        have hS68 := hS58.drew
        refine ra_q 0 43 (v := pt (some ⟨b3, 0, none⟩) 0) rfl rfl rfl (by kernel_rfl) (by kernel_rfl) (by kernel_rfl) (ST.sel hS68 [0, 1, 5] rfl rfl) (fun w' hw' => (Y_fieldAddr (B := some ⟨b3, 0, none⟩) (i := 0) (s := 0) k_fd_28_0_0_26 k_sz_26_1 rfl (hf3.get 5 3 rfl))) ?_
        refine ra_q 2 45 (v := pt (some ⟨b2, 0, none⟩) 0) rfl rfl rfl (by kernel_rfl) (by kernel_rfl) (by kernel_rfl) (ST.sel hS68 [0, 1, 5] rfl rfl) (fun w' hw' => (Y_move (v := pt (some ⟨b2, 0, none⟩) 0) rfl (hf3.get 4 2 rfl))) ?_
        refine ra_q 3 46 (v := .agg #[vi r_8.Num.A, vi r_8.Num.B, vi r_8.Num.C, vi r_8.Num.D, vi r_8.Exp]) rfl rfl rfl (by kernel_rfl) (by kernel_rfl) (by kernel_rfl) (ST.sel hS68 [0, 1, 5] rfl rfl) (fun w' hw' => (Y_loadA (B := B12) (i := 0) (cs := [vi r_8.Num.A, vi r_8.Num.B, vi r_8.Num.C, vi r_8.Num.D, vi r_8.Exp]) (vs := [vi r_8.Num.A, vi r_8.Num.B, vi r_8.Num.C, vi r_8.Num.D, vi r_8.Exp]) k_ag_49 k_sz_49_5 rfl (hf3.get 9 6 rfl) (ST.cf hw' (i := 2) rfl) rfl rfl)) ?_
        refine ra_q 4 47 (v := .agg #[vi 1, vi 0, vi 0, vi 0]) rfl rfl rfl (by kernel_rfl) (by kernel_rfl) (by kernel_rfl) (ST.sel hS68 [0, 1, 5] rfl rfl) (fun w' hw' => (Y_buildS (zs := [vi 0, vi 0, vi 0, vi 0]) (vs := [(0, vi 1)]) (cs := [vi 1, vi 0, vi 0, vi 0]) k_pl_47 k_zero_47 rfl (mpc rfl mpn) rfl)) ?_
        refine ra_q 5 48 (v := .agg #[vi 1, vi 0, vi 0, vi 0, vi 2]) rfl rfl rfl (by kernel_rfl) (by kernel_rfl) (by kernel_rfl) (ST.sel hS68 [0, 1, 5] rfl rfl) (fun w' hw' => (Y_buildS (zs := [vi 0, vi 0, vi 0, vi 0, vi 0]) (vs := [(0, .agg #[vi 1, vi 0, vi 0, vi 0]), (1, vi 2)]) (cs := [vi 1, vi 0, vi 0, vi 0, vi 2]) k_pl_49 k_zero_49 rfl (mpc rfl (mpc rfl mpn)) rfl)) ?_
        refine ra_all (rs := [1, 6]) (by kernel_rfl) rfl ?_
        refine ra_y 44 (i := 1) (v := .slice B3 Cells1.length c3) rfl rfl rfl (Y_load1 (B := some ⟨b3, 0, none⟩) (i := 0) (cs := [.slice B3 Cells1.length c3]) (v := .slice B3 Cells1.length c3) k_sc_26 rfl rfl (hS68.cf (i := 3) rfl) rfl) (ST.sel hS68 [0, 1, 5] rfl rfl) ?_ ?_
        · skip
          refine ra_all (rs := [6]) (by kernel_rfl) rfl ?_
          refine ra_c 49 (i := 6) rfl rfl rfl (Yc_func (g := 33) (vs := [pt (some ⟨b2, 0, none⟩) 0, .agg #[vi r_8.Num.A, vi r_8.Num.B, vi r_8.Num.C, vi r_8.Num.D, vi r_8.Exp], .agg #[vi 1, vi 0, vi 0, vi 0, vi 2]]) k_call_33 rfl (mc rfl (mc rfl (mc rfl mn))) (c_spec_l2C_mul m4 r_8 (TDyadic.mk (TRing.mk 1 0 0 0) 2) (some ⟨b2, 0, none⟩) _  (hS68.inn [false, false, true, false, false, false] rfl [] rfl) hc7)) ?_ ?_
          · rintro _ w_51 ⟨rfl, hd29⟩
            have hS69 := hS68.out [false, false, true, false, false, false] rfl hd29
            have hS69 : ST w0 [] _ [⟨some ⟨b, 0, none⟩, 32, [vi m.Rows, vi m.Cols, .slice B m.Cells.length c], 3⟩, ⟨some ⟨b1, 0, none⟩, 28, [.slice none 0 0], 1⟩, ⟨some ⟨b3, 0, none⟩, 28, [.slice B3 Cells1.length c3], 1⟩, ⟨B3, 49, (Cells1.flatMap enc_Dyadic), c3 * 5⟩, ⟨B12, 49, [vi r_8.Num.A, vi r_8.Num.B, vi r_8.Num.C, vi r_8.Num.D, vi r_8.Exp], 5⟩, ⟨some ⟨b2, 0, none⟩, 59, [.bool m5.bad], 1⟩] [⟨B, (m.Cells.flatMap enc_Dyadic)⟩] := hS69
            refine ⟨(ST.sel hS69 [0, 1, 4] rfl rfl), ?_⟩
            refine ra_all (rs := [7]) (by kernel_rfl) rfl ?_
            refine ra_s 50 (i := 7) rfl rfl rfl (Ys_bslice (s := 5) (len := 1) (vs := [(0, .agg #[vi r_9.Num.A, vi r_9.Num.B, vi r_9.Num.C, vi r_9.Num.D, vi r_9.Exp])]) (cs := [vi r_9.Num.A, vi r_9.Num.B, vi r_9.Num.C, vi r_9.Num.D, vi r_9.Exp]) (zs := [vi 0, vi 0, vi 0, vi 0, vi 0]) (m := 5) hS69 k_sl_26_49 k_sz_49_5 k_zc_49 rfl (mpc rfl mpn) rfl rfl rfl (by kernel_rfl) (by kernel_rfl) rfl) ?_ ?_
            · rintro _ w_52 ⟨b6, rfl, hS70⟩
              have hS70 : ST w0 [] _ [⟨some ⟨b, 0, none⟩, 32, [vi m.Rows, vi m.Cols, .slice B m.Cells.length c], 3⟩, ⟨some ⟨b1, 0, none⟩, 28, [.slice none 0 0], 1⟩, ⟨some ⟨b3, 0, none⟩, 28, [.slice B3 Cells1.length c3], 1⟩, ⟨B3, 49, (Cells1.flatMap enc_Dyadic), c3 * 5⟩, ⟨B12, 49, [vi r_8.Num.A, vi r_8.Num.B, vi r_8.Num.C, vi r_8.Num.D, vi r_8.Exp], 5⟩, ⟨some ⟨b2, 0, none⟩, 59, [.bool m5.bad], 1⟩, ⟨some ⟨b6, 0, none⟩, 49, ([r_9].flatMap enc_Dyadic), 1 * 5⟩] [⟨B, (m.Cells.flatMap enc_Dyadic)⟩] := hS70
              refine ⟨(ST.sel hS70 [0, 1, 4] rfl rfl), ?_⟩
              refine ra_all (rs := [8]) (by kernel_rfl) rfl ?_
              refine ra_s 51 (i := 8) rfl rfl rfl (Ys_append (s := 5) (by' := 40) (i := 3) (nn := Cells1.length) (c := c3) (k := 1) (len := (Cells1 ++ [r_9]).length) (B := B3) (xs := ([r_9].flatMap enc_Dyadic)) (cs' := ((Cells1 ++ [r_9]).flatMap enc_Dyadic)) hS70 k_sl_26_49 k_sz_49_5 k_by_49_40 k_zero_49 rfl (by decide) rfl rfl rfl rfl (fm_lenn (l := Cells1) enc_Dyadic_len rfl) rfl (hS70.cf (i := 6) rfl) (fm_lenn (l := [r_9]) enc_Dyadic_len rfl) (fm_one' (enc := enc_Dyadic) enc_Dyadic_one [r_9]) (by have := hap; omega) (by have := hap; simp only [maxLen]; omega) (fm_app _ _) (app_len (l := Cells1) (l' := [r_9]) rfl rfl)) ?_ ?_
              · rintro _ w_53 ⟨B13, c11, rfl, hS71⟩
                have hS71 : ST w0 [] _ [⟨some ⟨b, 0, none⟩, 32, [vi m.Rows, vi m.Cols, .slice B m.Cells.length c], 3⟩, ⟨some ⟨b1, 0, none⟩, 28, [.slice none 0 0], 1⟩, ⟨some ⟨b3, 0, none⟩, 28, [.slice B3 Cells1.length c3], 1⟩, ⟨B13, 49, ((Cells1 ++ [r_9]).flatMap enc_Dyadic), c11 * 5⟩, ⟨B12, 49, [vi r_8.Num.A, vi r_8.Num.B, vi r_8.Num.C, vi r_8.Num.D, vi r_8.Exp], 5⟩, ⟨some ⟨b2, 0, none⟩, 59, [.bool m5.bad], 1⟩, ⟨some ⟨b6, 0, none⟩, 49, ([r_9].flatMap enc_Dyadic), 1 * 5⟩] [⟨B, (m.Cells.flatMap enc_Dyadic)⟩] := hS71
                refine ⟨(ST.sel hS71 [0, 1, 4] rfl rfl), ?_⟩
                refine ra_q 9 52 (v := pt (some ⟨b3, 0, none⟩) 0) rfl rfl rfl (by kernel_rfl) (by kernel_rfl) (by kernel_rfl) (ST.sel hS71 [0, 1, 4] rfl rfl) (fun w' hw' => (Y_fieldAddr (B := some ⟨b3, 0, none⟩) (i := 0) (s := 0) k_fd_28_0_0_26 k_sz_26_1 rfl (hf3.get 5 3 rfl))) ?_
                refine ra_all (rs := [10]) (by kernel_rfl) rfl ?_
                refine ra_s0 (i := 10) rfl rfl rfl (Ys_store (i := 2) (s := 1) (B := some ⟨b3, 0, none⟩) (T' := 28) (v := .slice B13 ((Cells1 ++ [r_9]).length) c11) (vs := [.slice B13 ((Cells1 ++ [r_9]).length) c11]) (k := 0) (cs' := [.slice B13 ((Cells1 ++ [r_9]).length) c11]) hS71 k_sz_26_1 rfl rfl rfl rfl rfl rfl rfl (Nat.le_of_ble_eq_true rfl) rfl rfl) ?_ ?_
                · rintro _ w_54 ⟨rfl, hS72⟩
                  have hS72 : ST w0 [] _ [⟨some ⟨b, 0, none⟩, 32, [vi m.Rows, vi m.Cols, .slice B m.Cells.length c], 3⟩, ⟨some ⟨b1, 0, none⟩, 28, [.slice none 0 0], 1⟩, ⟨some ⟨b3, 0, none⟩, 28, [.slice B13 ((Cells1 ++ [r_9]).length) c11], 1⟩, ⟨B13, 49, ((Cells1 ++ [r_9]).flatMap enc_Dyadic), c11 * 5⟩, ⟨B12, 49, [vi r_8.Num.A, vi r_8.Num.B, vi r_8.Num.C, vi r_8.Num.D, vi r_8.Exp], 5⟩, ⟨some ⟨b2, 0, none⟩, 59, [.bool m5.bad], 1⟩, ⟨some ⟨b6, 0, none⟩, 49, ([r_9].flatMap enc_Dyadic), 1 * 5⟩] [⟨B, (m.Cells.flatMap enc_Dyadic)⟩] := hS72
                  refine ⟨(ST.sel hS72 [0, 1, 4] rfl rfl), ?_⟩
                  refine ra_done (by kernel_rfl) ?_
                  exact ⟨B13, c11, (FF.cons (hf3.get 1 0 rfl) (FF.cons (hf3.get 2 1 rfl) (FF.cons (hf3.get 4 2 rfl) (FF.cons (hf3.get 5 3 rfl) (FF.cons (hf3.get 6 4 rfl) (FF.cons (hf3.get 7 5 rfl) FF.nil)))))), (hS72.sel [0, 1, 5, 2, 3] rfl rfl)⟩
                exact allR_nil
              exact allR_nil
            exact allR_nil
          exact allR_nil
        refine ra_c 49 (i := 6) rfl rfl rfl (Yc_func (g := 33) (vs := [pt (some ⟨b2, 0, none⟩) 0, .agg #[vi r_8.Num.A, vi r_8.Num.B, vi r_8.Num.C, vi r_8.Num.D, vi r_8.Exp], .agg #[vi 1, vi 0, vi 0, vi 0, vi 2]]) k_call_33 rfl (mc rfl (mc rfl (mc rfl mn))) (c_spec_l2C_mul m4 r_8 (TDyadic.mk (TRing.mk 1 0 0 0) 2) (some ⟨b2, 0, none⟩) _  (hS68.inn [false, false, true, false, false, false] rfl [] rfl) hc7)) ?_ ?_
        · rintro _ w_55 ⟨rfl, hd30⟩
          have hS73 := hS68.out [false, false, true, false, false, false] rfl hd30
          have hS73 : ST w0 [] _ [⟨some ⟨b, 0, none⟩, 32, [vi m.Rows, vi m.Cols, .slice B m.Cells.length c], 3⟩, ⟨some ⟨b1, 0, none⟩, 28, [.slice none 0 0], 1⟩, ⟨some ⟨b3, 0, none⟩, 28, [.slice B3 Cells1.length c3], 1⟩, ⟨B3, 49, (Cells1.flatMap enc_Dyadic), c3 * 5⟩, ⟨B12, 49, [vi r_8.Num.A, vi r_8.Num.B, vi r_8.Num.C, vi r_8.Num.D, vi r_8.Exp], 5⟩, ⟨some ⟨b2, 0, none⟩, 59, [.bool m5.bad], 1⟩] [⟨B, (m.Cells.flatMap enc_Dyadic)⟩] := hS73
          refine ⟨(ST.sel hS73 [0, 1, 4] rfl rfl), ?_⟩
          refine ra_all (rs := [1, 7]) (by kernel_rfl) rfl ?_
          refine ra_y 44 (i := 1) (v := .slice B3 Cells1.length c3) rfl rfl rfl (Y_load1 (B := some ⟨b3, 0, none⟩) (i := 0) (cs := [.slice B3 Cells1.length c3]) (v := .slice B3 Cells1.length c3) k_sc_26 rfl rfl (hS73.cf (i := 2) rfl) rfl) (ST.sel hS73 [0, 1, 4] rfl rfl) ?_ ?_
          · skip
            refine ra_all (rs := [7]) (by kernel_rfl) rfl ?_
            refine ra_s 50 (i := 7) rfl rfl rfl (Ys_bslice (s := 5) (len := 1) (vs := [(0, .agg #[vi r_9.Num.A, vi r_9.Num.B, vi r_9.Num.C, vi r_9.Num.D, vi r_9.Exp])]) (cs := [vi r_9.Num.A, vi r_9.Num.B, vi r_9.Num.C, vi r_9.Num.D, vi r_9.Exp]) (zs := [vi 0, vi 0, vi 0, vi 0, vi 0]) (m := 5) hS73 k_sl_26_49 k_sz_49_5 k_zc_49 rfl (mpc rfl mpn) rfl rfl rfl (by kernel_rfl) (by kernel_rfl) rfl) ?_ ?_
            · rintro _ w_56 ⟨b6, rfl, hS74⟩
              have hS74 : ST w0 [] _ [⟨some ⟨b, 0, none⟩, 32, [vi m.Rows, vi m.Cols, .slice B m.Cells.length c], 3⟩, ⟨some ⟨b1, 0, none⟩, 28, [.slice none 0 0], 1⟩, ⟨some ⟨b3, 0, none⟩, 28, [.slice B3 Cells1.length c3], 1⟩, ⟨B3, 49, (Cells1.flatMap enc_Dyadic), c3 * 5⟩, ⟨B12, 49, [vi r_8.Num.A, vi r_8.Num.B, vi r_8.Num.C, vi r_8.Num.D, vi r_8.Exp], 5⟩, ⟨some ⟨b2, 0, none⟩, 59, [.bool m5.bad], 1⟩, ⟨some ⟨b6, 0, none⟩, 49, ([r_9].flatMap enc_Dyadic), 1 * 5⟩] [⟨B, (m.Cells.flatMap enc_Dyadic)⟩] := hS74
              refine ⟨(ST.sel hS74 [0, 1, 4] rfl rfl), ?_⟩
              refine ra_all (rs := [8]) (by kernel_rfl) rfl ?_
              refine ra_s 51 (i := 8) rfl rfl rfl (Ys_append (s := 5) (by' := 40) (i := 3) (nn := Cells1.length) (c := c3) (k := 1) (len := (Cells1 ++ [r_9]).length) (B := B3) (xs := ([r_9].flatMap enc_Dyadic)) (cs' := ((Cells1 ++ [r_9]).flatMap enc_Dyadic)) hS74 k_sl_26_49 k_sz_49_5 k_by_49_40 k_zero_49 rfl (by decide) rfl rfl rfl rfl (fm_lenn (l := Cells1) enc_Dyadic_len rfl) rfl (hS74.cf (i := 6) rfl) (fm_lenn (l := [r_9]) enc_Dyadic_len rfl) (fm_one' (enc := enc_Dyadic) enc_Dyadic_one [r_9]) (by have := hap; omega) (by have := hap; simp only [maxLen]; omega) (fm_app _ _) (app_len (l := Cells1) (l' := [r_9]) rfl rfl)) ?_ ?_
              · rintro _ w_57 ⟨B13, c11, rfl, hS75⟩
                have hS75 : ST w0 [] _ [⟨some ⟨b, 0, none⟩, 32, [vi m.Rows, vi m.Cols, .slice B m.Cells.length c], 3⟩, ⟨some ⟨b1, 0, none⟩, 28, [.slice none 0 0], 1⟩, ⟨some ⟨b3, 0, none⟩, 28, [.slice B3 Cells1.length c3], 1⟩, ⟨B13, 49, ((Cells1 ++ [r_9]).flatMap enc_Dyadic), c11 * 5⟩, ⟨B12, 49, [vi r_8.Num.A, vi r_8.Num.B, vi r_8.Num.C, vi r_8.Num.D, vi r_8.Exp], 5⟩, ⟨some ⟨b2, 0, none⟩, 59, [.bool m5.bad], 1⟩, ⟨some ⟨b6, 0, none⟩, 49, ([r_9].flatMap enc_Dyadic), 1 * 5⟩] [⟨B, (m.Cells.flatMap enc_Dyadic)⟩] := hS75
                refine ⟨(ST.sel hS75 [0, 1, 4] rfl rfl), ?_⟩
                refine ra_q 9 52 (v := pt (some ⟨b3, 0, none⟩) 0) rfl rfl rfl (by kernel_rfl) (by kernel_rfl) (by kernel_rfl) (ST.sel hS75 [0, 1, 4] rfl rfl) (fun w' hw' => (Y_fieldAddr (B := some ⟨b3, 0, none⟩) (i := 0) (s := 0) k_fd_28_0_0_26 k_sz_26_1 rfl (hf3.get 5 3 rfl))) ?_
                refine ra_all (rs := [10]) (by kernel_rfl) rfl ?_
                refine ra_s0 (i := 10) rfl rfl rfl (Ys_store (i := 2) (s := 1) (B := some ⟨b3, 0, none⟩) (T' := 28) (v := .slice B13 ((Cells1 ++ [r_9]).length) c11) (vs := [.slice B13 ((Cells1 ++ [r_9]).length) c11]) (k := 0) (cs' := [.slice B13 ((Cells1 ++ [r_9]).length) c11]) hS75 k_sz_26_1 rfl rfl rfl rfl rfl rfl rfl (Nat.le_of_ble_eq_true rfl) rfl rfl) ?_ ?_
                · rintro _ w_58 ⟨rfl, hS76⟩
                  have hS76 : ST w0 [] _ [⟨some ⟨b, 0, none⟩, 32, [vi m.Rows, vi m.Cols, .slice B m.Cells.length c], 3⟩, ⟨some ⟨b1, 0, none⟩, 28, [.slice none 0 0], 1⟩, ⟨some ⟨b3, 0, none⟩, 28, [.slice B13 ((Cells1 ++ [r_9]).length) c11], 1⟩, ⟨B13, 49, ((Cells1 ++ [r_9]).flatMap enc_Dyadic), c11 * 5⟩, ⟨B12, 49, [vi r_8.Num.A, vi r_8.Num.B, vi r_8.Num.C, vi r_8.Num.D, vi r_8.Exp], 5⟩, ⟨some ⟨b2, 0, none⟩, 59, [.bool m5.bad], 1⟩, ⟨some ⟨b6, 0, none⟩, 49, ([r_9].flatMap enc_Dyadic), 1 * 5⟩] [⟨B, (m.Cells.flatMap enc_Dyadic)⟩] := hS76
                  refine ⟨(ST.sel hS76 [0, 1, 4] rfl rfl), ?_⟩
                  refine ra_done (by kernel_rfl) ?_
                  exact ⟨B13, c11, (FF.cons (hf3.get 1 0 rfl) (FF.cons (hf3.get 2 1 rfl) (FF.cons (hf3.get 4 2 rfl) (FF.cons (hf3.get 5 3 rfl) (FF.cons (hf3.get 6 4 rfl) (FF.cons (hf3.get 7 5 rfl) FF.nil)))))), (hS76.sel [0, 1, 5, 2, 3] rfl rfl)⟩
                exact allR_nil
              exact allR_nil
            exact allR_nil
          refine ra_s 50 (i := 7) rfl rfl rfl (Ys_bslice (s := 5) (len := 1) (vs := [(0, .agg #[vi r_9.Num.A, vi r_9.Num.B, vi r_9.Num.C, vi r_9.Num.D, vi r_9.Exp])]) (cs := [vi r_9.Num.A, vi r_9.Num.B, vi r_9.Num.C, vi r_9.Num.D, vi r_9.Exp]) (zs := [vi 0, vi 0, vi 0, vi 0, vi 0]) (m := 5) hS73 k_sl_26_49 k_sz_49_5 k_zc_49 rfl (mpc rfl mpn) rfl rfl rfl (by kernel_rfl) (by kernel_rfl) rfl) ?_ ?_
          · rintro _ w_59 ⟨b6, rfl, hS77⟩
            have hS77 : ST w0 [] _ [⟨some ⟨b, 0, none⟩, 32, [vi m.Rows, vi m.Cols, .slice B m.Cells.length c], 3⟩, ⟨some ⟨b1, 0, none⟩, 28, [.slice none 0 0], 1⟩, ⟨some ⟨b3, 0, none⟩, 28, [.slice B3 Cells1.length c3], 1⟩, ⟨B3, 49, (Cells1.flatMap enc_Dyadic), c3 * 5⟩, ⟨B12, 49, [vi r_8.Num.A, vi r_8.Num.B, vi r_8.Num.C, vi r_8.Num.D, vi r_8.Exp], 5⟩, ⟨some ⟨b2, 0, none⟩, 59, [.bool m5.bad], 1⟩, ⟨some ⟨b6, 0, none⟩, 49, ([r_9].flatMap enc_Dyadic), 1 * 5⟩] [⟨B, (m.Cells.flatMap enc_Dyadic)⟩] := hS77
            refine ⟨(ST.sel hS77 [0, 1, 4] rfl rfl), ?_⟩
            refine ra_all (rs := [1]) (by kernel_rfl) rfl ?_
            refine ra_y 44 (i := 1) (v := .slice B3 Cells1.length c3) rfl rfl rfl (Y_load1 (B := some ⟨b3, 0, none⟩) (i := 0) (cs := [.slice B3 Cells1.length c3]) (v := .slice B3 Cells1.length c3) k_sc_26 rfl rfl (hS77.cf (i := 2) rfl) rfl) (ST.sel hS77 [0, 1, 4] rfl rfl) ?_ ?_
            · skip
              refine ra_all (rs := [8]) (by kernel_rfl) rfl ?_
              refine ra_s 51 (i := 8) rfl rfl rfl (Ys_append (s := 5) (by' := 40) (i := 3) (nn := Cells1.length) (c := c3) (k := 1) (len := (Cells1 ++ [r_9]).length) (B := B3) (xs := ([r_9].flatMap enc_Dyadic)) (cs' := ((Cells1 ++ [r_9]).flatMap enc_Dyadic)) hS77 k_sl_26_49 k_sz_49_5 k_by_49_40 k_zero_49 rfl (by decide) rfl rfl rfl rfl (fm_lenn (l := Cells1) enc_Dyadic_len rfl) rfl (hS77.cf (i := 6) rfl) (fm_lenn (l := [r_9]) enc_Dyadic_len rfl) (fm_one' (enc := enc_Dyadic) enc_Dyadic_one [r_9]) (by have := hap; omega) (by have := hap; simp only [maxLen]; omega) (fm_app _ _) (app_len (l := Cells1) (l' := [r_9]) rfl rfl)) ?_ ?_
              · rintro _ w_60 ⟨B13, c11, rfl, hS78⟩
                have hS78 : ST w0 [] _ [⟨some ⟨b, 0, none⟩, 32, [vi m.Rows, vi m.Cols, .slice B m.Cells.length c], 3⟩, ⟨some ⟨b1, 0, none⟩, 28, [.slice none 0 0], 1⟩, ⟨some ⟨b3, 0, none⟩, 28, [.slice B3 Cells1.length c3], 1⟩, ⟨B13, 49, ((Cells1 ++ [r_9]).flatMap enc_Dyadic), c11 * 5⟩, ⟨B12, 49, [vi r_8.Num.A, vi r_8.Num.B, vi r_8.Num.C, vi r_8.Num.D, vi r_8.Exp], 5⟩, ⟨some ⟨b2, 0, none⟩, 59, [.bool m5.bad], 1⟩, ⟨some ⟨b6, 0, none⟩, 49, ([r_9].flatMap enc_Dyadic), 1 * 5⟩] [⟨B, (m.Cells.flatMap enc_Dyadic)⟩] := hS78
                refine ⟨(ST.sel hS78 [0, 1, 4] rfl rfl), ?_⟩
                refine ra_q 9 52 (v := pt (some ⟨b3, 0, none⟩) 0) rfl rfl rfl (by kernel_rfl) (by kernel_rfl) (by kernel_rfl) (ST.sel hS78 [0, 1, 4] rfl rfl) (fun w' hw' => (Y_fieldAddr (B := some ⟨b3, 0, none⟩) (i := 0) (s := 0) k_fd_28_0_0_26 k_sz_26_1 rfl (hf3.get 5 3 rfl))) ?_
                refine ra_all (rs := [10]) (by kernel_rfl) rfl ?_
                refine ra_s0 (i := 10) rfl rfl rfl (Ys_store (i := 2) (s := 1) (B := some ⟨b3, 0, none⟩) (T' := 28) (v := .slice B13 ((Cells1 ++ [r_9]).length) c11) (vs := [.slice B13 ((Cells1 ++ [r_9]).length) c11]) (k := 0) (cs' := [.slice B13 ((Cells1 ++ [r_9]).length) c11]) hS78 k_sz_26_1 rfl rfl rfl rfl rfl rfl rfl (Nat.le_of_ble_eq_true rfl) rfl rfl) ?_ ?_
                · rintro _ w_61 ⟨rfl, hS79⟩
                  have hS79 : ST w0 [] _ [⟨some ⟨b, 0, none⟩, 32, [vi m.Rows, vi m.Cols, .slice B m.Cells.length c], 3⟩, ⟨some ⟨b1, 0, none⟩, 28, [.slice none 0 0], 1⟩, ⟨some ⟨b3, 0, none⟩, 28, [.slice B13 ((Cells1 ++ [r_9]).length) c11], 1⟩, ⟨B13, 49, ((Cells1 ++ [r_9]).flatMap enc_Dyadic), c11 * 5⟩, ⟨B12, 49, [vi r_8.Num.A, vi r_8.Num.B, vi r_8.Num.C, vi r_8.Num.D, vi r_8.Exp], 5⟩, ⟨some ⟨b2, 0, none⟩, 59, [.bool m5.bad], 1⟩, ⟨some ⟨b6, 0, none⟩, 49, ([r_9].flatMap enc_Dyadic), 1 * 5⟩] [⟨B, (m.Cells.flatMap enc_Dyadic)⟩] := hS79
                  refine ⟨(ST.sel hS79 [0, 1, 4] rfl rfl), ?_⟩
                  refine ra_done (by kernel_rfl) ?_
                  exact ⟨B13, c11, (FF.cons (hf3.get 1 0 rfl) (FF.cons (hf3.get 2 1 rfl) (FF.cons (hf3.get 4 2 rfl) (FF.cons (hf3.get 5 3 rfl) (FF.cons (hf3.get 6 4 rfl) (FF.cons (hf3.get 7 5 rfl) FF.nil)))))), (hS79.sel [0, 1, 5, 2, 3] rfl rfl)⟩
                exact allR_nil
              exact allR_nil
            exact allR_nil
          exact allR_nil
        exact allR_nil
      rintro f w ⟨B14, c12, hf4, hS67⟩
      refine cw_region ?_
      refine sq 18 rfl rfl (Y_move (v := vi (j : Int)) rfl (hf4.get 7 5 rfl)) ?_
      refine sq 19 rfl rfl (Y_add (k := .i64) (a := (j : Int)) (b := 1) rfl rfl rfl) ?_
      refine sq 7 rfl rfl (Y_assign (v := vi (i64.wrap ((j : Int) + 1))) rfl rfl) ?_
      refine rw_nil ?_
      obtain rfl := some_inj hb1
      exact ⟨k_3, Nat.lt_succ_self _, j + 1, m5.bad, (Cells1 ++ [r_9]), B14, c12, (FF.cons (hf4.get 1 0 rfl) (FF.cons (hf4.get 2 1 rfl) (FF.cons (hf4.get 4 2 rfl) (FF.cons (hf4.get 5 3 rfl) (FF.cons (hf4.get 6 4 rfl) (FF.cons (congrArg (Value.int .i64) (wr_succ hlt3 (show 3 ≤ 9223372036854775807 by decide))) FF.nil)))))), (hS67.sel [0, 1, 2, 3, 4] rfl rfl), (by omega), hL3⟩
    · skip
      obtain rfl : k_2 = 0 := by have h := of_decide_eq_false hlt2; omega
      refine cw_exit rfl ?_
      obtain rfl := some_inj hL2
      refine cw_region ?_
      refine sq 14 rfl rfl (Y_move (v := vi (i1 : Int)) rfl (hf1.get 6 4 rfl)) ?_
      refine sq 15 rfl rfl (Y_add (k := .i64) (a := (i1 : Int)) (b := 1) rfl rfl rfl) ?_
      refine sq 6 rfl rfl (Y_assign (v := vi (i64.wrap ((i1 : Int) + 1))) rfl rfl) ?_
      refine rw_nil ?_
      obtain rfl := some_inj hF2
      exact ⟨k_1, Nat.lt_succ_self _, i1 + 1, bad1, Cells1, B3, c3, (FF.cons (hf1.get 1 0 rfl) (FF.cons (hf1.get 2 1 rfl) (FF.cons (hf1.get 4 2 rfl) (FF.cons (hf1.get 5 3 rfl) (FF.cons (congrArg (Value.int .i64) (wr_succ hlt1 (show 3 ≤ 9223372036854775807 by decide))) FF.nil))))), (hS7.sel [0, 1, 2, 3, 4] rfl rfl), (by omega), hL1⟩
  · skip
    obtain rfl : k_ = 0 := by have h := of_decide_eq_false hlt; omega
    refine cw_exit rfl ?_
    obtain rfl := some_inj hL
    refine cw_seq ?_
    refine cw_seq ?_
    refine cw_region ?_
    refine sq 53 rfl rfl (Y_move (v := pt (some ⟨b2, 0, none⟩) 0) rfl (hf.get 4 2 rfl)) ?_
    refine sq 54 rfl rfl (Y_nilCheck (B := some ⟨b2, 0, none⟩) (i := 0) rfl rfl) ?_
    refine sq 55 rfl rfl (Y_fieldAddr (B := some ⟨b2, 0, none⟩) (i := 0) (s := 0) k_fd_59_0_0_4 k_sz_4_1 rfl rfl) ?_
    refine sq 56 rfl rfl (Y_load1 (B := some ⟨b2, 0, none⟩) (i := 0) (cs := [.bool bad]) (v := .bool bad) k_sc_4 rfl rfl (hS5.cf (i := 2) rfl) rfl) ?_
    refine rw_nil ?_
    refine cw_cond (b := bad) rfl (fun hb2 => ?_) (fun hb2 => ?_)
    · skip
      have hF3 := ct hF1 hb2
      refine cw_seq ?_
      refine cw_region ?_
      refine sq 57 rfl rfl (Y_buildS (zs := [.slice none 0 0]) (vs := []) (cs := [.slice none 0 0]) k_pl_28 k_zero_28 rfl mpn rfl) ?_
      refine ss0 rfl rfl (Ys_store (i := 1) (s := 1) (B := some ⟨b1, 0, none⟩) (T' := 28) (v := .agg #[.slice none 0 0]) (vs := [.slice none 0 0]) (k := 0) (cs' := [.slice none 0 0]) hS5 k_sz_28_1 rfl (hf.get 2 1 rfl) rfl rfl rfl rfl rfl (Nat.le_of_ble_eq_true rfl) rfl rfl) ?_
      rintro _ w_62 ⟨rfl, hS80⟩
      have hS80 : ST w0 [] _ [⟨some ⟨b, 0, none⟩, 32, [vi m.Rows, vi m.Cols, .slice B m.Cells.length c], 3⟩, ⟨some ⟨b1, 0, none⟩, 28, [.slice none 0 0], 1⟩, ⟨some ⟨b2, 0, none⟩, 59, [.bool bad], 1⟩, ⟨some ⟨b3, 0, none⟩, 28, [.slice B2 Cells.length c2], 1⟩, ⟨B2, 49, (Cells.flatMap enc_Dyadic), c2 * 5⟩] [⟨B, (m.Cells.flatMap enc_Dyadic)⟩] := hS80
      refine sq 3 rfl rfl (Y_assign (v := .bool false) rfl rfl) ?_
      refine rw_nil ?_
      refine cw_ret ?_
      have hS81 := hS80.addNil 49
      obtain ⟨rfl, rfl⟩ := pr2 (some_inj hF3)
      exact ret2 Tryd.results18 (v1 := .agg #[.slice none 0 0]) (resAt_cellA (B := some ⟨b1, 0, none⟩) (i := 0) (cs := [.slice none 0 0]) (vs := [.slice none 0 0]) (hf.get 2 1 rfl) k_ag_28 k_sz_28_1 (hS81.cf (i := 1) rfl) rfl rfl) (v2 := .bool false) (resAt_tmp rfl) ⟨none, 0, rfl, (ST.subR (R' := []) (hS81.sel [5] rfl rfl) (fun _ h => by cases h))⟩
    · skip
      have hF4 := cf' hF1 hb2
      refine cw_skip ?_
      refine cw_seq ?_
      refine cw_region ?_
      refine sq 58 rfl rfl (Y_loadA (B := some ⟨b3, 0, none⟩) (i := 0) (cs := [.slice B2 Cells.length c2]) (vs := [.slice B2 Cells.length c2]) k_ag_28 k_sz_28_1 rfl (hf.get 5 3 rfl) (hS5.cf (i := 3) rfl) rfl rfl) ?_
      refine ss0 rfl rfl (Ys_store (i := 1) (s := 1) (B := some ⟨b1, 0, none⟩) (T' := 28) (v := .agg #[.slice B2 Cells.length c2]) (vs := [.slice B2 Cells.length c2]) (k := 0) (cs' := [.slice B2 Cells.length c2]) hS5 k_sz_28_1 rfl (hf.get 2 1 rfl) rfl rfl rfl rfl rfl (Nat.le_of_ble_eq_true rfl) rfl rfl) ?_
      rintro _ w_63 ⟨rfl, hS82⟩
      have hS82 : ST w0 [] _ [⟨some ⟨b, 0, none⟩, 32, [vi m.Rows, vi m.Cols, .slice B m.Cells.length c], 3⟩, ⟨some ⟨b1, 0, none⟩, 28, [.slice B2 Cells.length c2], 1⟩, ⟨some ⟨b2, 0, none⟩, 59, [.bool bad], 1⟩, ⟨some ⟨b3, 0, none⟩, 28, [.slice B2 Cells.length c2], 1⟩, ⟨B2, 49, (Cells.flatMap enc_Dyadic), c2 * 5⟩] [⟨B, (m.Cells.flatMap enc_Dyadic)⟩] := hS82
      refine sq 3 rfl rfl (Y_assign (v := .bool true) rfl rfl) ?_
      refine rw_nil ?_
      refine cw_ret ?_
      obtain ⟨rfl, rfl⟩ := pr2 (some_inj hF4)
      exact ret2 Tryd.results18 (v1 := .agg #[.slice B2 Cells.length c2]) (resAt_cellA (B := some ⟨b1, 0, none⟩) (i := 0) (cs := [.slice B2 Cells.length c2]) (vs := [.slice B2 Cells.length c2]) (hf.get 2 1 rfl) k_ag_28 k_sz_28_1 (hS82.cf (i := 1) rfl) rfl rfl) (v2 := .bool true) (resAt_tmp rfl) ⟨B2, c2, rfl, (ST.subR (R' := []) (hS82.sel [4] rfl rfl) (fun _ h => by cases h))⟩

theorem c_spec_BlochOf (m : TMatrix) (B : Option Addr) (c n : Nat) (w0 : World) (hn : m.Cells.length = n) (hS : ST w0 [] w0 [] [⟨B, (m.Cells.flatMap enc_Dyadic)⟩]) {r_ : TBloch} {r_1 : Bool} (hF : F_spec_BlochOf m = some (r_, r_1)) :
    CV Tryd.prog 6 #[.agg #[vi m.Rows, vi m.Cols, .slice B n c]] w0 (fun v w' => ∃ (B1 : Option Addr) (c1 : Nat), v = .tuple #[.agg #[.slice B1 r_.Cells.length c1], .bool r_1] ∧ ST w0 [] w' [⟨B1, 49, (r_.Cells.flatMap enc_Dyadic), c1 * 5⟩] []) := by
  subst hn
  unfold F_spec_BlochOf at hF
  refine cv_of_cw 12 Tryd.func6 rfl Tryd.ntmps6 rfl ?_
  refine cw_seq ?_
  refine cw_region ?_
  refine ss 1 rfl rfl (Ys_box (T := 32) (v := .agg #[vi m.Rows, vi m.Cols, .slice B m.Cells.length c]) (cs := [vi m.Rows, vi m.Cols, .slice B m.Cells.length c]) (m := 3) hS rfl rfl rfl rfl) ?_
  rintro _ w_ ⟨b, rfl, hS1⟩
  refine ss 2 rfl rfl (Ys_alloc (T := 28) (cs := [.slice none 0 0]) (m := 1) hS1 k_zero_28 rfl rfl rfl) ?_
  rintro _ w_1 ⟨b1, rfl, hS2⟩
  have hS2 : ST w0 [] _ [⟨some ⟨b, 0, none⟩, 32, [vi m.Rows, vi m.Cols, .slice B m.Cells.length c], 3⟩, ⟨some ⟨b1, 0, none⟩, 28, [.slice none 0 0], 1⟩] [⟨B, (m.Cells.flatMap enc_Dyadic)⟩] := hS2
  refine sq 3 rfl rfl (Y_assign (v := .bool false) rfl rfl) ?_
  refine rw_nil ?_
  refine cw_seq ?_
  refine cw_seq ?_
  refine cw_region ?_
  refine sq 4 rfl rfl (Y_loadA (B := some ⟨b, 0, none⟩) (i := 0) (cs := [vi m.Rows, vi m.Cols, .slice B m.Cells.length c]) (vs := [vi m.Rows, vi m.Cols, .slice B m.Cells.length c]) k_ag_32 k_sz_32_3 rfl rfl (hS2.cf (i := 0) rfl) rfl rfl) ?_
  obtain ⟨r_2, hc, hF⟩ := bind_inv hF
  refine sc 5 rfl rfl (Yc_func (g := 17) (vs := [.agg #[vi m.Rows, vi m.Cols, .slice B m.Cells.length c]]) k_call_17 rfl (mc rfl mn) (c_spec_l9Good m B c m.Cells.length _ rfl (hS2.inn0 [(true, 0)] rfl) hc)) ?_
  rintro _ w_2 ⟨rfl, hd⟩
  have hS3 := hS2.out00 hd
  have hS3 : ST w0 [] _ [⟨some ⟨b, 0, none⟩, 32, [vi m.Rows, vi m.Cols, .slice B m.Cells.length c], 3⟩, ⟨some ⟨b1, 0, none⟩, 28, [.slice none 0 0], 1⟩] [⟨B, (m.Cells.flatMap enc_Dyadic)⟩] := hS3
  refine sq 6 rfl rfl (Y_not (p := r_2) rfl rfl) ?_
  refine rw_nil ?_
  refine cw_cond (b := (!r_2)) rfl (fun hb => ?_) (fun hb => ?_)
  · skip
    have hF1 := ct hF hb
    refine cw_seq ?_
    refine cw_region ?_
    refine sq 7 rfl rfl (Y_buildS (zs := [.slice none 0 0]) (vs := []) (cs := [.slice none 0 0]) k_pl_28 k_zero_28 rfl mpn rfl) ?_
    refine ss0 rfl rfl (Ys_store (i := 1) (s := 1) (B := some ⟨b1, 0, none⟩) (T' := 28) (v := .agg #[.slice none 0 0]) (vs := [.slice none 0 0]) (k := 0) (cs' := [.slice none 0 0]) hS3 k_sz_28_1 rfl rfl rfl rfl rfl rfl rfl (Nat.le_of_ble_eq_true rfl) rfl rfl) ?_
    rintro _ w_3 ⟨rfl, hS4⟩
    have hS4 : ST w0 [] _ [⟨some ⟨b, 0, none⟩, 32, [vi m.Rows, vi m.Cols, .slice B m.Cells.length c], 3⟩, ⟨some ⟨b1, 0, none⟩, 28, [.slice none 0 0], 1⟩] [⟨B, (m.Cells.flatMap enc_Dyadic)⟩] := hS4
    refine sq 3 rfl rfl (Y_assign (v := .bool false) rfl rfl) ?_
    refine rw_nil ?_
    refine cw_ret ?_
    have hS5 := hS4.addNil 49
    obtain ⟨rfl, rfl⟩ := pr2 (some_inj hF1)
    exact ret2 Tryd.results6 (v1 := .agg #[.slice none 0 0]) (resAt_cellA (B := some ⟨b1, 0, none⟩) (i := 0) (cs := [.slice none 0 0]) (vs := [.slice none 0 0]) rfl k_ag_28 k_sz_28_1 (hS5.cf (i := 1) rfl) rfl rfl) (v2 := .bool false) (resAt_tmp rfl) ⟨none, 0, rfl, (ST.subR (R' := []) (hS5.sel [2] rfl rfl) (fun _ h => by cases h))⟩
  · skip
    have hF2 := cf' hF hb
    refine cw_skip ?_
    refine cw_seq ?_
    refine cw_region ?_
    refine sq 8 rfl rfl (Y_loadA (B := some ⟨b, 0, none⟩) (i := 0) (cs := [vi m.Rows, vi m.Cols, .slice B m.Cells.length c]) (vs := [vi m.Rows, vi m.Cols, .slice B m.Cells.length c]) k_ag_32 k_sz_32_3 rfl rfl (hS3.cf (i := 0) rfl) rfl rfl) ?_
    obtain ⟨⟨r_3, r_4⟩, hc1, hF2⟩ := bind_inv hF2
    refine sc 9 rfl rfl (Yc_func (g := 18) (vs := [.agg #[vi m.Rows, vi m.Cols, .slice B m.Cells.length c]]) k_call_18 rfl (mc rfl mn) (c_spec_l9Bloch m B c m.Cells.length _ rfl (hS3.inn0 [(true, 0)] rfl) hc1)) ?_
    rintro _ w_4 ⟨B2, c2, rfl, hd1⟩
    have hS6 := hS3.out0 hd1
    have hS6 : ST w0 [] _ [⟨some ⟨b, 0, none⟩, 32, [vi m.Rows, vi m.Cols, .slice B m.Cells.length c], 3⟩, ⟨some ⟨b1, 0, none⟩, 28, [.slice none 0 0], 1⟩, ⟨B2, 49, (r_3.Cells.flatMap enc_Dyadic), c2 * 5⟩] [⟨B, (m.Cells.flatMap enc_Dyadic)⟩] := hS6
    refine sq 10 rfl rfl (Y_extract (v := .agg #[.slice B2 r_3.Cells.length c2]) rfl rfl rfl) ?_
    refine sq 11 rfl rfl (Y_extract (v := .bool r_4) rfl rfl rfl) ?_
    refine ss0 rfl rfl (Ys_store (i := 1) (s := 1) (B := some ⟨b1, 0, none⟩) (T' := 28) (v := .agg #[.slice B2 r_3.Cells.length c2]) (vs := [.slice B2 r_3.Cells.length c2]) (k := 0) (cs' := [.slice B2 r_3.Cells.length c2]) hS6 k_sz_28_1 rfl rfl rfl rfl rfl rfl rfl (Nat.le_of_ble_eq_true rfl) rfl rfl) ?_
    rintro _ w_5 ⟨rfl, hS7⟩
    have hS7 : ST w0 [] _ [⟨some ⟨b, 0, none⟩, 32, [vi m.Rows, vi m.Cols, .slice B m.Cells.length c], 3⟩, ⟨some ⟨b1, 0, none⟩, 28, [.slice B2 r_3.Cells.length c2], 1⟩, ⟨B2, 49, (r_3.Cells.flatMap enc_Dyadic), c2 * 5⟩] [⟨B, (m.Cells.flatMap enc_Dyadic)⟩] := hS7
    refine sq 3 rfl rfl (Y_assign (v := .bool r_4) rfl rfl) ?_
    refine rw_nil ?_
    refine cw_ret ?_
    obtain ⟨rfl, rfl⟩ := pr2 (some_inj hF2)
    exact ret2 Tryd.results6 (v1 := .agg #[.slice B2 r_3.Cells.length c2]) (resAt_cellA (B := some ⟨b1, 0, none⟩) (i := 0) (cs := [.slice B2 r_3.Cells.length c2]) (vs := [.slice B2 r_3.Cells.length c2]) rfl k_ag_28 k_sz_28_1 (hS7.cf (i := 1) rfl) rfl rfl) (v2 := .bool r_4) (resAt_tmp rfl) ⟨B2, c2, rfl, (ST.subR (R' := []) (hS7.sel [2] rfl rfl) (fun _ h => by cases h))⟩

theorem c_spec_l1Most (a : Int) (b : Int)  (w0 : World)  (hS : ST w0 [] w0 [] []) {r_ : Int} (hF : F_spec_l1Most a b = some r_) :
    CV Tryd.prog 46 #[vi a, vi b] w0 (fun v w' => v = vi r_ ∧ ST w0 [] w' [] []) := by
  unfold F_spec_l1Most at hF
  refine cv_of_cw 10 Tryd.func46 rfl Tryd.ntmps46 rfl ?_
  refine cw_seq ?_
  refine cw_region ?_
  refine sq 4 rfl rfl (Y_assign (v := vi 0) rfl rfl) ?_
  refine rw_nil ?_
  refine cw_seq ?_
  refine cw_seq ?_
  refine cw_region ?_
  refine sq 5 rfl rfl (Y_move (v := vi a) rfl rfl) ?_
  refine sq 6 rfl rfl (Y_move (v := vi b) rfl rfl) ?_
  refine sq 7 rfl rfl (Y_gt (k := .i64) (a := a) (b := b) rfl rfl rfl) ?_
  refine rw_nil ?_
  refine cw_cond (b := (decide (b < a))) rfl (fun hb => ?_) (fun hb => ?_)
  · skip
    have hF1 := ct hF hb
    refine cw_seq ?_
    refine cw_region ?_
    refine sq 8 rfl rfl (Y_move (v := vi a) rfl rfl) ?_
    refine sq 4 rfl rfl (Y_assign (v := vi a) rfl rfl) ?_
    refine rw_nil ?_
    refine cw_ret ?_
    obtain rfl := some_inj hF1
    exact ret1 Tryd.results46 (v1 := vi a) (resAt_tmp rfl) ⟨rfl, (ST.subR (R' := []) (hS.sel [] rfl rfl) (fun _ h => by cases h))⟩
  · skip
    have hF2 := cf' hF hb
    refine cw_skip ?_
    refine cw_seq ?_
    refine cw_region ?_
    refine sq 9 rfl rfl (Y_move (v := vi b) rfl rfl) ?_
    refine sq 4 rfl rfl (Y_assign (v := vi b) rfl rfl) ?_
    refine rw_nil ?_
    refine cw_ret ?_
    obtain rfl := some_inj hF2
    exact ret1 Tryd.results46 (v1 := vi b) (resAt_tmp rfl) ⟨rfl, (ST.subR (R' := []) (hS.sel [] rfl rfl) (fun _ h => by cases h))⟩

theorem c_spec_l9Exp (b : TBloch) (B : Option Addr) (c n : Nat) (w0 : World) (hn : b.Cells.length = n) (hS : ST w0 [] w0 [] [⟨B, (b.Cells.flatMap enc_Dyadic)⟩]) {r_ : Int} (hF : F_spec_l9Exp b = some r_) :
    CV Tryd.prog 26 #[.agg #[.slice B n c]] w0 (fun v w' => v = vi r_ ∧ ST w0 [] w' [] []) := by
  subst hn
  unfold F_spec_l9Exp at hF
  refine cv_of_cw 19 Tryd.func26 rfl Tryd.ntmps26 rfl ?_
  refine cw_seq ?_
  refine cw_region ?_
  refine ss 1 rfl rfl (Ys_box (T := 28) (v := .agg #[.slice B b.Cells.length c]) (cs := [.slice B b.Cells.length c]) (m := 1) hS rfl rfl rfl rfl) ?_
  rintro _ w_ ⟨b1, rfl, hS1⟩
  refine sq 2 rfl rfl (Y_assign (v := vi 0) rfl rfl) ?_
  refine rw_nil ?_
  refine cw_seq ?_
  refine cw_region ?_
  refine sq 3 rfl rfl (Y_assign (v := vi 0) rfl rfl) ?_
  refine rw_nil ?_
  refine cw_seq ?_
  refine cw_seq ?_
  refine cw_region ?_
  refine sq 6 rfl rfl (Y_fieldAddr (B := some ⟨b1, 0, none⟩) (i := 0) (s := 0) k_fd_28_0_0_26 k_sz_26_1 rfl rfl) ?_
  refine sq 7 rfl rfl (Y_load1 (B := some ⟨b1, 0, none⟩) (i := 0) (cs := [.slice B b.Cells.length c]) (v := .slice B b.Cells.length c) k_sc_26 rfl rfl (hS1.cf (i := 0) rfl) rfl) ?_
  refine sq 8 rfl rfl (Y_len (B := B) (m := b.Cells.length) (c := c) k_sl_26_49 rfl rfl) ?_
  refine sq 9 rfl rfl (Y_move (v := vi 0) rfl rfl) ?_
  refine rw_nil ?_
  obtain ⟨hN, hF⟩ := chk_inv hF
  obtain ⟨z, hz, hF1⟩ := bind_inv hF
  refine cw_block ?_
  refine cw_loop (fun k f w => ∃ (i : Nat) (k_ : Int), FF f [(3, vi k_), (7, .slice B b.Cells.length c), (8, vi (b.Cells.length : Int)), (9, vi (i : Int))] ∧ ST w0 [] w [] [⟨B, (b.Cells.flatMap enc_Dyadic)⟩] ∧ i + k = b.Cells.length ∧ forN (F_spec_l9Exp_l1 b) k i k_ = some z) b.Cells.length ⟨0, 0, (FF.cons rfl (FF.cons rfl (FF.cons rfl (FF.cons rfl FF.nil)))), (hS1.sel [] rfl rfl), Nat.zero_add _, hz⟩ ?_
  rintro k_1 f w ⟨i, k_, hf, hS2, hik, hL⟩
  refine cw_seq ?_
  refine cw_region ?_
  refine sq 10 rfl rfl (Y_lt (k := .i64) (a := (i : Int)) (b := (b.Cells.length : Int)) rfl (hf.get 9 3 rfl) (hf.get 8 2 rfl)) ?_
  refine rw_nil ?_
  refine cw_seq ?_
  refine cw_cond (b := (decide ((i : Int) < (b.Cells.length : Int)))) rfl (fun hlt => ?_) (fun hlt => ?_)
  · skip
    have hlt1 : i < b.Cells.length := by have h := of_decide_eq_true hlt; omega
    obtain ⟨k_2, rfl⟩ : ∃ k2, k_1 = k2 + 1 := ⟨k_1 - 1, by omega⟩
    obtain ⟨y, hb, hL1⟩ := forN_go hL
    unfold F_spec_l9Exp_l1 at hb
    refine cw_skip ?_
    refine cw_seq ?_
    refine cw_block ?_
    refine cw_seq ?_
    refine cw_region ?_
    obtain ⟨x, hx, hb⟩ := bind_inv hb
    refine sq 11 rfl rfl (Y_index (B := B) (m := b.Cells.length) (c := c) (k := .i64) (i := (i : Int)) k_sl_26_49 k_sz_49_5 rfl (hf.get 7 1 rfl) (hf.get 9 3 rfl) (gi_isSome enc_Dyadic_len rfl (hS2.rf (i := 0) rfl) hx) (getI_nn hx) (getI_ltI hx rfl)) ?_
    refine sq 12 rfl rfl (Y_loadA (B := B) (i := (i : Int).toNat * 5) (cs := (b.Cells.flatMap enc_Dyadic)) (vs := [vi x.Num.A, vi x.Num.B, vi x.Num.C, vi x.Num.D, vi x.Exp]) k_ag_49 k_sz_49_5 rfl rfl (hS2.rf (i := 0) rfl) (enc_Dyadic_len x) (gi_seg enc_Dyadic_len hx)) ?_
    refine ss 5 rfl rfl (Ys_alloc (T := 49) (cs := [vi 0, vi 0, vi 0, vi 0, vi 0]) (m := 5) hS2 k_zero_49 rfl rfl rfl) ?_
    rintro _ w_1 ⟨b2, rfl, hS3⟩
    refine ss0 rfl rfl (Ys_store (i := 0) (s := 5) (B := some ⟨b2, 0, none⟩) (T' := 49) (v := .agg #[vi x.Num.A, vi x.Num.B, vi x.Num.C, vi x.Num.D, vi x.Exp]) (vs := [vi x.Num.A, vi x.Num.B, vi x.Num.C, vi x.Num.D, vi x.Exp]) (k := 0) (cs' := [vi x.Num.A, vi x.Num.B, vi x.Num.C, vi x.Num.D, vi x.Exp]) hS3 k_sz_49_5 rfl rfl rfl rfl rfl rfl rfl (Nat.le_of_ble_eq_true rfl) rfl rfl) ?_
    rintro _ w_2 ⟨rfl, hS4⟩
    refine rw_nil ?_
    refine cw_region ?_
    refine sq 13 rfl rfl (Y_move (v := vi k_) rfl (hf.get 3 0 rfl)) ?_
    refine sq 14 rfl rfl (Y_fieldAddr (B := some ⟨b2, 0, none⟩) (i := 0) (s := 0) k_fd_49_1_4_3 k_sz_3_1 rfl rfl) ?_
    refine sq 15 rfl rfl (Y_load1 (B := some ⟨b2, 0, none⟩) (i := 4) (cs := [vi x.Num.A, vi x.Num.B, vi x.Num.C, vi x.Num.D, vi x.Exp]) (v := vi x.Exp) k_sc_3 rfl rfl (hS4.cf (i := 0) rfl) rfl) ?_
    obtain ⟨r_1, hc, hb⟩ := bind_inv hb
    refine sc 16 rfl rfl (Yc_func (g := 46) (vs := [vi k_, vi x.Exp]) k_call_46 rfl (mc rfl (mc rfl mn)) (c_spec_l1Most k_ x.Exp _  (hS4.inn0 [] rfl) hc)) ?_
    rintro _ w_3 ⟨rfl, hd⟩
    have hS5 := hS4.out00 hd
    refine sq 3 rfl rfl (Y_assign (v := vi r_1) rfl rfl) ?_
    refine rw_nil ?_
    refine cw_region ?_
    refine sq 17 rfl rfl (Y_add (k := .i64) (a := (i : Int)) (b := 1) rfl (hf.get 9 3 rfl) rfl) ?_
    refine sq 9 rfl rfl (Y_move (v := vi (i64.wrap ((i : Int) + 1))) rfl rfl) ?_
    refine rw_nil ?_
    obtain rfl := some_inj hb
    exact ⟨k_2, Nat.lt_succ_self _, i + 1, r_1, (FF.cons rfl (FF.cons (hf.get 7 1 rfl) (FF.cons (hf.get 8 2 rfl) (FF.cons (congrArg (Value.int .i64) (wr_succ hlt1 hN)) FF.nil)))), (hS5.sel [] rfl rfl), (by omega), hL1⟩
  · skip
    obtain rfl : k_1 = 0 := by have h := of_decide_eq_false hlt; omega
    refine cw_exit rfl ?_
    obtain rfl := some_inj hL
    refine cw_seq ?_
    refine cw_region ?_
    refine sq 18 rfl rfl (Y_move (v := vi k_) rfl (hf.get 3 0 rfl)) ?_
    refine sq 2 rfl rfl (Y_assign (v := vi k_) rfl rfl) ?_
    refine rw_nil ?_
    refine cw_ret ?_
    obtain rfl := some_inj hF1
    exact ret1 Tryd.results26 (v1 := vi k_) (resAt_tmp rfl) ⟨rfl, (ST.subR (R' := []) (hS2.sel [] rfl rfl) (fun _ h => by cases h))⟩

theorem c_spec_LeastTCount (m : TMatrix) (B : Option Addr) (c n : Nat) (w0 : World) (hn : m.Cells.length = n) (hS : ST w0 [] w0 [] [⟨B, (m.Cells.flatMap enc_Dyadic)⟩]) {r_ : Int} {r_1 : Bool} (hF : F_spec_LeastTCount m = some (r_, r_1)) :
    CV Tryd.prog 14 #[.agg #[vi m.Rows, vi m.Cols, .slice B n c]] w0 (fun v w' => v = .tuple #[vi r_, .bool r_1] ∧ ST w0 [] w' [] []) := by
  subst hn
  unfold F_spec_LeastTCount at hF
  refine cv_of_cw 15 Tryd.func14 rfl Tryd.ntmps14 rfl ?_
  refine cw_seq ?_
  refine cw_region ?_
  refine ss 1 rfl rfl (Ys_box (T := 32) (v := .agg #[vi m.Rows, vi m.Cols, .slice B m.Cells.length c]) (cs := [vi m.Rows, vi m.Cols, .slice B m.Cells.length c]) (m := 3) hS rfl rfl rfl rfl) ?_
  rintro _ w_ ⟨b, rfl, hS1⟩
  refine sq 2 rfl rfl (Y_assign (v := vi 0) rfl rfl) ?_
  refine sq 3 rfl rfl (Y_assign (v := .bool false) rfl rfl) ?_
  refine rw_nil ?_
  refine cw_seq ?_
  refine cw_region ?_
  refine sq 7 rfl rfl (Y_loadA (B := some ⟨b, 0, none⟩) (i := 0) (cs := [vi m.Rows, vi m.Cols, .slice B m.Cells.length c]) (vs := [vi m.Rows, vi m.Cols, .slice B m.Cells.length c]) k_ag_32 k_sz_32_3 rfl rfl (hS1.cf (i := 0) rfl) rfl rfl) ?_
  obtain ⟨⟨r_2, r_3⟩, hc, hF⟩ := bind_inv hF
  refine sc 8 rfl rfl (Yc_func (g := 6) (vs := [.agg #[vi m.Rows, vi m.Cols, .slice B m.Cells.length c]]) k_call_6 rfl (mc rfl mn) (c_spec_BlochOf m B c m.Cells.length _ rfl (hS1.inn0 [(true, 0)] rfl) hc)) ?_
  rintro _ w_1 ⟨B1, c1, rfl, hd⟩
  have hS2 := hS1.out0 hd
  have hS2 : ST w0 [] _ [⟨some ⟨b, 0, none⟩, 32, [vi m.Rows, vi m.Cols, .slice B m.Cells.length c], 3⟩, ⟨B1, 49, (r_2.Cells.flatMap enc_Dyadic), c1 * 5⟩] [⟨B, (m.Cells.flatMap enc_Dyadic)⟩] := hS2
  refine sq 6 rfl rfl (Y_move (v := .tuple #[.agg #[.slice B1 r_2.Cells.length c1], .bool r_3]) rfl rfl) ?_
  refine sq 9 rfl rfl (Y_extract (v := .agg #[.slice B1 r_2.Cells.length c1]) rfl rfl rfl) ?_
  refine sq 10 rfl rfl (Y_extract (v := .bool r_3) rfl rfl rfl) ?_
  refine ss 4 rfl rfl (Ys_alloc (T := 28) (cs := [.slice none 0 0]) (m := 1) hS2 k_zero_28 rfl rfl rfl) ?_
  rintro _ w_2 ⟨b1, rfl, hS3⟩
  have hS3 : ST w0 [] _ [⟨some ⟨b, 0, none⟩, 32, [vi m.Rows, vi m.Cols, .slice B m.Cells.length c], 3⟩, ⟨B1, 49, (r_2.Cells.flatMap enc_Dyadic), c1 * 5⟩, ⟨some ⟨b1, 0, none⟩, 28, [.slice none 0 0], 1⟩] [⟨B, (m.Cells.flatMap enc_Dyadic)⟩] := hS3
  refine ss0 rfl rfl (Ys_store (i := 2) (s := 1) (B := some ⟨b1, 0, none⟩) (T' := 28) (v := .agg #[.slice B1 r_2.Cells.length c1]) (vs := [.slice B1 r_2.Cells.length c1]) (k := 0) (cs' := [.slice B1 r_2.Cells.length c1]) hS3 k_sz_28_1 rfl rfl rfl rfl rfl rfl rfl (Nat.le_of_ble_eq_true rfl) rfl rfl) ?_
  rintro _ w_3 ⟨rfl, hS4⟩
  have hS4 : ST w0 [] _ [⟨some ⟨b, 0, none⟩, 32, [vi m.Rows, vi m.Cols, .slice B m.Cells.length c], 3⟩, ⟨B1, 49, (r_2.Cells.flatMap enc_Dyadic), c1 * 5⟩, ⟨some ⟨b1, 0, none⟩, 28, [.slice B1 r_2.Cells.length c1], 1⟩] [⟨B, (m.Cells.flatMap enc_Dyadic)⟩] := hS4
  refine sq 5 rfl rfl (Y_assign (v := .bool r_3) rfl rfl) ?_
  refine rw_nil ?_
  refine cw_seq ?_
  refine cw_seq ?_
  refine cw_region ?_
  refine sq 11 rfl rfl (Y_move (v := .bool r_3) rfl rfl) ?_
  refine sq 12 rfl rfl (Y_not (p := r_3) rfl rfl) ?_
  refine rw_nil ?_
  refine cw_cond (b := (!r_3)) rfl (fun hb => ?_) (fun hb => ?_)
  · skip
    have hF1 := ct hF hb
    refine cw_seq ?_
    refine cw_region ?_
    refine sq 2 rfl rfl (Y_assign (v := vi 0) rfl rfl) ?_
    refine sq 3 rfl rfl (Y_assign (v := .bool false) rfl rfl) ?_
    refine rw_nil ?_
    refine cw_ret ?_
    obtain ⟨rfl, rfl⟩ := pr2 (some_inj hF1)
    exact ret2 Tryd.results14 (v1 := vi 0) (resAt_tmp rfl) (v2 := .bool false) (resAt_tmp rfl) ⟨rfl, (ST.subR (R' := []) (hS4.sel [] rfl rfl) (fun _ h => by cases h))⟩
  · skip
    have hF2 := cf' hF hb
    refine cw_skip ?_
    refine cw_seq ?_
    refine cw_region ?_
    refine sq 13 rfl rfl (Y_loadA (B := some ⟨b1, 0, none⟩) (i := 0) (cs := [.slice B1 r_2.Cells.length c1]) (vs := [.slice B1 r_2.Cells.length c1]) k_ag_28 k_sz_28_1 rfl rfl (hS4.cf (i := 2) rfl) rfl rfl) ?_
    obtain ⟨r_4, hc1, hF2⟩ := bind_inv hF2
    refine sc 14 rfl rfl (Yc_func (g := 26) (vs := [.agg #[.slice B1 r_2.Cells.length c1]]) k_call_26 rfl (mc rfl mn) (c_spec_l9Exp r_2 B1 c1 r_2.Cells.length _ rfl (hS4.inn0 [(false, 1)] rfl) hc1)) ?_
    rintro _ w_4 ⟨rfl, hd1⟩
    have hS5 := hS4.out00 hd1
    have hS5 : ST w0 [] _ [⟨some ⟨b, 0, none⟩, 32, [vi m.Rows, vi m.Cols, .slice B m.Cells.length c], 3⟩, ⟨B1, 49, (r_2.Cells.flatMap enc_Dyadic), c1 * 5⟩, ⟨some ⟨b1, 0, none⟩, 28, [.slice B1 r_2.Cells.length c1], 1⟩] [⟨B, (m.Cells.flatMap enc_Dyadic)⟩] := hS5
    refine sq 2 rfl rfl (Y_assign (v := vi r_4) rfl rfl) ?_
    refine sq 3 rfl rfl (Y_assign (v := .bool true) rfl rfl) ?_
    refine rw_nil ?_
    refine cw_ret ?_
    obtain ⟨rfl, rfl⟩ := pr2 (some_inj hF2)
    exact ret2 Tryd.results14 (v1 := vi r_4) (resAt_tmp rfl) (v2 := .bool true) (resAt_tmp rfl) ⟨rfl, (ST.subR (R' := []) (hS5.sel [] rfl rfl) (fun _ h => by cases h))⟩

theorem c_impl_within (n : Int) (low : Int) (high : Int)  (w0 : World)  (hS : ST w0 [] w0 [] []) {r_ : Bool} (hF : F_impl_within n low high = some r_) :
    CV Tryd.prog 87 #[vi n, vi low, vi high] w0 (fun v w' => v = .bool r_ ∧ ST w0 [] w' [] []) := by
  unfold F_impl_within at hF
  refine cv_of_cw 15 Tryd.func87 rfl Tryd.ntmps87 rfl ?_
  refine cw_seq ?_
  refine cw_region ?_
  refine sq 6 rfl rfl (Y_assign (v := .bool false) rfl rfl) ?_
  refine rw_nil ?_
  refine cw_seq ?_
  refine cw_region ?_
  refine sq 7 rfl rfl (Y_move (v := vi low) rfl rfl) ?_
  refine sq 8 rfl rfl (Y_move (v := vi n) rfl rfl) ?_
  refine sq 9 rfl rfl (Y_le (k := .i64) (a := low) (b := n) rfl rfl rfl) ?_
  refine sq 10 rfl rfl (Y_move (v := .bool (decide (low ≤ n))) rfl rfl) ?_
  refine sgq 11 (B := (decide (low ≤ n))) (v := vi n) rfl rfl (wt_t (gd_of (t := 10) (by kernel_rfl) rfl)) (fun hg => (Y_move (v := vi n) rfl rfl)) ?_
  refine sgq 12 (B := (decide (low ≤ n))) (v := vi high) rfl rfl (wt_t (gd_of (t := 10) (by kernel_rfl) rfl)) (fun hg1 => (Y_move (v := vi high) rfl rfl)) ?_
  refine sgq 13 (B := (decide (low ≤ n))) (v := .bool (decide (n ≤ high))) rfl rfl (wt_t (gd_of (t := 10) (by kernel_rfl) rfl)) (fun hg2 => (Y_le (k := .i64) (a := n) (b := high) rfl (gv_of (B := (decide (low ≤ n))) (v := vi n) hg2) (gv_of (B := (decide (low ≤ n))) (v := vi high) hg2))) ?_
  refine sq 14 rfl rfl (Y_and (b := (decide (low ≤ n))) (z := (decide (n ≤ high))) rfl rfl rfl rfl) ?_
  refine sq 6 rfl rfl (Y_assign (v := .bool ((decide (low ≤ n)) && (decide (n ≤ high)))) rfl rfl) ?_
  refine rw_nil ?_
  refine cw_ret ?_
  obtain rfl := some_inj hF
  exact ret1 Tryd.results87 (v1 := .bool ((decide (low ≤ n)) && (decide (n ≤ high)))) (resAt_tmp rfl) ⟨rfl, (ST.subR (R' := []) (hS.sel [] rfl rfl) (fun _ h => by cases h))⟩

theorem c_impl_isDim (n : Int)  (w0 : World)  (hS : ST w0 [] w0 [] []) {r_ : Bool} (hF : F_impl_isDim n = some r_) :
    CV Tryd.prog 58 #[vi n] w0 (fun v w' => v = .bool r_ ∧ ST w0 [] w' [] []) := by
  unfold F_impl_isDim at hF
  refine cv_of_cw 12 Tryd.func58 rfl Tryd.ntmps58 rfl ?_
  refine cw_seq ?_
  refine cw_region ?_
  refine sq 2 rfl rfl (Y_assign (v := .bool false) rfl rfl) ?_
  refine rw_nil ?_
  refine cw_seq ?_
  refine cw_region ?_
  refine sq 3 rfl rfl (Y_move (v := vi n) rfl rfl) ?_
  obtain ⟨r_1, hc, hF⟩ := bind_inv hF
  refine sc 4 rfl rfl (Yc_func (g := 87) (vs := [vi n, vi 1, vi 32]) k_call_87 rfl (mc rfl (mc rfl (mc rfl mn))) (c_impl_within n 1 32 _  (hS.inn0 [] rfl) hc)) ?_
  rintro _ w_ ⟨rfl, hd⟩
  have hS1 := hS.out00 hd
  refine sq 5 rfl rfl (Y_move (v := .bool r_1) rfl rfl) ?_
  refine sgq 6 (B := r_1) (v := vi n) rfl rfl (wt_t (gd_of (t := 5) (by kernel_rfl) rfl)) (fun hg => (Y_move (v := vi n) rfl rfl)) ?_
  refine sgq 7 (B := r_1) (v := vi n) rfl rfl (wt_t (gd_of (t := 5) (by kernel_rfl) rfl)) (fun hg1 => (Y_move (v := vi n) rfl rfl)) ?_
  refine sgq 8 (B := r_1) (v := vi (i64.wrap (n - 1))) rfl rfl (wt_t (gd_of (t := 5) (by kernel_rfl) rfl)) (fun hg2 => (Y_sub (k := .i64) (a := n) (b := 1) rfl (gv_of (B := r_1) (v := vi n) hg2) rfl)) ?_
  refine sgq 9 (B := r_1) (v := vi (bits .and .i64 n (i64.wrap (n - 1)))) rfl rfl (wt_t (gd_of (t := 5) (by kernel_rfl) rfl)) (fun hg3 => (Y_band (k := .i64) (a := n) (b := (i64.wrap (n - 1))) rfl (gv_of (B := r_1) (v := vi n) hg3) (gv_of (B := r_1) (v := vi (i64.wrap (n - 1))) hg3))) ?_
  refine sgq 10 (B := r_1) (v := .bool ((bits .and .i64 n (i64.wrap (n - 1))) == 0)) rfl rfl (wt_t (gd_of (t := 5) (by kernel_rfl) rfl)) (fun hg4 => (Y_eq (k := .i64) (a := (bits .and .i64 n (i64.wrap (n - 1)))) (b := 0) rfl (gv_of (B := r_1) (v := vi (bits .and .i64 n (i64.wrap (n - 1)))) hg4) rfl)) ?_
  refine sq 11 rfl rfl (Y_and (b := r_1) (z := ((bits .and .i64 n (i64.wrap (n - 1))) == 0)) rfl rfl rfl rfl) ?_
  refine sq 2 rfl rfl (Y_assign (v := .bool (r_1 && ((bits .and .i64 n (i64.wrap (n - 1))) == 0))) rfl rfl) ?_
  refine rw_nil ?_
  refine cw_ret ?_
  obtain rfl := some_inj hF
  exact ret1 Tryd.results58 (v1 := .bool (r_1 && ((bits .and .i64 n (i64.wrap (n - 1))) == 0))) (resAt_tmp rfl) ⟨rfl, (ST.subR (R' := []) (hS1.sel [] rfl rfl) (fun _ h => by cases h))⟩

theorem c_slices_IndexFunc_impl_Dyadic_impl_Dyadic (s : List TDyadic) (f_ : TDyadic → Option (Bool)) (B : Option Addr) (c n : Nat) (kf : Nat) (caps : Array Value) (Rf : List Ro) (w0 : World) (hn : s.length = n) (hk : callB Tryd.prog kf = true) (hp : ∀ (w : World), ST w [] w [] Rf → ∀ (x : TDyadic) (y : Bool), f_ x = some y → CV Tryd.prog kf ((.agg #[vi x.Num.A, vi x.Num.B, vi x.Num.C, vi x.Num.D, vi x.Exp]) :: caps.toList).toArray w (fun v w' => v = .bool y ∧ ST w [] w' [] [])) (hS : ST w0 [] w0 [] (⟨B, (s.flatMap enc_Dyadic)⟩ :: Rf)) {r_ : Int} (hF : F_slices_IndexFunc_impl_Dyadic_impl_Dyadic s f_ = some r_) :
    CV Tryd.prog 88 #[.slice B n c, .func (.func kf) #[] caps] w0 (fun v w' => v = vi r_ ∧ ST w0 [] w' [] []) := by
  subst hn
  unfold F_slices_IndexFunc_impl_Dyadic_impl_Dyadic at hF
  refine cv_of_cw 19 Tryd.func88 rfl Tryd.ntmps88 rfl ?_
  refine cw_seq ?_
  refine cw_region ?_
  refine sq 4 rfl rfl (Y_assign (v := vi 0) rfl rfl) ?_
  refine rw_nil ?_
  refine cw_seq ?_
  refine cw_seq ?_
  refine cw_region ?_
  refine sq 6 rfl rfl (Y_move (v := .slice B s.length c) rfl rfl) ?_
  refine sq 7 rfl rfl (Y_len (B := B) (m := s.length) (c := c) k_sl_26_49 rfl rfl) ?_
  refine sq 8 rfl rfl (Y_move (v := vi 0) rfl rfl) ?_
  refine rw_nil ?_
  obtain ⟨hN, hF⟩ := chk_inv hF
  obtain ⟨z, hz, hF1⟩ := bind_inv hF
  refine cw_block ?_
  refine cw_loop (fun k f w => ∃ (i : Nat), FF f [(0, .slice B s.length c), (1, .func (.func kf) #[] caps), (7, vi (s.length : Int)), (8, vi (i : Int))] ∧ ST w0 [] w [] (⟨B, (s.flatMap enc_Dyadic)⟩ :: Rf) ∧ i + k = s.length ∧ forX (F_slices_IndexFunc_impl_Dyadic_impl_Dyadic_l1 s f_) k i () = some z) s.length ⟨0, (FF.cons rfl (FF.cons rfl (FF.cons rfl (FF.cons rfl FF.nil)))), (hS.sel [] rfl rfl), Nat.zero_add _, hz⟩ ?_
  rintro k_ f w ⟨i, hf, hS1, hik, hL⟩
  refine cw_seq ?_
  refine cw_region ?_
  refine sq 9 rfl rfl (Y_lt (k := .i64) (a := (i : Int)) (b := (s.length : Int)) rfl (hf.get 8 3 rfl) (hf.get 7 2 rfl)) ?_
  refine rw_nil ?_
  refine cw_seq ?_
  refine cw_cond (b := (decide ((i : Int) < (s.length : Int)))) rfl (fun hlt => ?_) (fun hlt => ?_)
  · skip
    have hlt1 : i < s.length := by have h := of_decide_eq_true hlt; omega
    obtain ⟨k_1, rfl⟩ : ∃ k2, k_ = k2 + 1 := ⟨k_ - 1, by omega⟩
    obtain ⟨y1, hb, hL1⟩ := forX_go hL
    unfold F_slices_IndexFunc_impl_Dyadic_impl_Dyadic_l1 at hb
    refine cw_skip ?_
    refine cw_seq ?_
    refine cw_block ?_
    refine cw_seq ?_
    refine cw_region ?_
    refine sq 10 rfl rfl (Y_move (v := vi (i : Int)) rfl (hf.get 8 3 rfl)) ?_
    refine sq 5 rfl rfl (Y_assign (v := vi (i : Int)) rfl rfl) ?_
    refine rw_nil ?_
    refine cw_seq ?_
    refine cw_region ?_
    refine sq 11 rfl rfl (Y_move (v := .func (.func kf) #[] caps) rfl (hf.get 1 1 rfl)) ?_
    refine sq 12 rfl rfl (Y_move (v := .slice B s.length c) rfl (hf.get 0 0 rfl)) ?_
    refine sq 13 rfl rfl (Y_move (v := vi (i : Int)) rfl rfl) ?_
    obtain ⟨x1, hx, hb⟩ := bind_inv hb
    refine sq 14 rfl rfl (Y_index (B := B) (m := s.length) (c := c) (k := .i64) (i := (i : Int)) k_sl_26_49 k_sz_49_5 rfl rfl rfl (gi_isSome enc_Dyadic_len rfl (hS1.rf (i := 0) rfl) hx) (getI_nn hx) (getI_ltI hx rfl)) ?_
    refine sq 15 rfl rfl (Y_loadA (B := B) (i := (i : Int).toNat * 5) (cs := (s.flatMap enc_Dyadic)) (vs := [vi x1.Num.A, vi x1.Num.B, vi x1.Num.C, vi x1.Num.D, vi x1.Exp]) k_ag_49 k_sz_49_5 rfl rfl (hS1.rf (i := 0) rfl) (enc_Dyadic_len x1) (gi_seg enc_Dyadic_len hx)) ?_
    obtain ⟨r_1, hc, hb⟩ := bind_inv hb
    refine sc 16 rfl rfl (Yc_clos (g := kf) (vs := (.agg #[vi x1.Num.A, vi x1.Num.B, vi x1.Num.C, vi x1.Num.D, vi x1.Exp]) :: caps.toList) hk rfl rfl (clo_args (mc rfl mn)) (hp _ (hS1.innS (fun _ h => List.mem_of_mem_drop (i := 1) h)) x1 r_1 hc)) ?_
    rintro _ w_ ⟨rfl, hd⟩
    have hS2 := hS1.out00 hd
    refine rw_nil ?_
    refine cw_cond (b := r_1) rfl (fun hb1 => ?_) (fun hb1 => ?_)
    · skip
      have hF2 := ct hb hb1
      refine cw_seq ?_
      refine cw_region ?_
      refine sq 17 rfl rfl (Y_move (v := vi (i : Int)) rfl rfl) ?_
      refine sq 4 rfl rfl (Y_assign (v := vi (i : Int)) rfl rfl) ?_
      refine rw_nil ?_
      refine cw_ret ?_
      obtain rfl := some_inj hF2
      obtain rfl := some_inj hL1
      obtain rfl := some_inj hF1
      exact ret1 Tryd.results88 (v1 := vi (i : Int)) (resAt_tmp rfl) ⟨rfl, (ST.subR (R' := []) (hS2.sel [] rfl rfl) (fun _ h => by cases h))⟩
    · skip
      have hF3 := cf' hb hb1
      refine cw_skip ?_
      refine cw_region ?_
      refine sq 18 rfl rfl (Y_add (k := .i64) (a := (i : Int)) (b := 1) rfl (hf.get 8 3 rfl) rfl) ?_
      refine sq 8 rfl rfl (Y_move (v := vi (i64.wrap ((i : Int) + 1))) rfl rfl) ?_
      refine rw_nil ?_
      obtain rfl := some_inj hF3
      exact ⟨k_1, Nat.lt_succ_self _, i + 1, (FF.cons (hf.get 0 0 rfl) (FF.cons (hf.get 1 1 rfl) (FF.cons (hf.get 7 2 rfl) (FF.cons (congrArg (Value.int .i64) (wr_succ hlt1 hN)) FF.nil)))), (hS2.sel [] rfl rfl), (by omega), hL1⟩
  · skip
    obtain rfl : k_ = 0 := by have h := of_decide_eq_false hlt; omega
    refine cw_exit rfl ?_
    obtain rfl := some_inj hL
    refine cw_seq ?_
    refine cw_region ?_
    refine sq 4 rfl rfl (Y_assign (v := vi (-1)) rfl rfl) ?_
    refine rw_nil ?_
    refine cw_ret ?_
    obtain rfl := some_inj hF1
    exact ret1 Tryd.results88 (v1 := vi (-1)) (resAt_tmp rfl) ⟨rfl, (ST.subR (R' := []) (hS1.sel [] rfl rfl) (fun _ h => by cases h))⟩

theorem c_slices_ContainsFunc_impl_Dyadic_impl_Dyadic (s : List TDyadic) (f_ : TDyadic → Option (Bool)) (B : Option Addr) (c n : Nat) (kf : Nat) (caps : Array Value) (Rf : List Ro) (w0 : World) (hn : s.length = n) (hk : callB Tryd.prog kf = true) (hp : ∀ (w : World), ST w [] w [] Rf → ∀ (x : TDyadic) (y : Bool), f_ x = some y → CV Tryd.prog kf ((.agg #[vi x.Num.A, vi x.Num.B, vi x.Num.C, vi x.Num.D, vi x.Exp]) :: caps.toList).toArray w (fun v w' => v = .bool y ∧ ST w [] w' [] [])) (hS : ST w0 [] w0 [] (⟨B, (s.flatMap enc_Dyadic)⟩ :: Rf)) {r_ : Bool} (hF : F_slices_ContainsFunc_impl_Dyadic_impl_Dyadic s f_ = some r_) :
    CV Tryd.prog 59 #[.slice B n c, .func (.func kf) #[] caps] w0 (fun v w' => v = .bool r_ ∧ ST w0 [] w' [] []) := by
  subst hn
  unfold F_slices_ContainsFunc_impl_Dyadic_impl_Dyadic at hF
  refine cv_of_cw 9 Tryd.func59 rfl Tryd.ntmps59 rfl ?_
  refine cw_seq ?_
  refine cw_region ?_
  refine sq 4 rfl rfl (Y_assign (v := .bool false) rfl rfl) ?_
  refine rw_nil ?_
  refine cw_seq ?_
  refine cw_region ?_
  refine sq 5 rfl rfl (Y_move (v := .slice B s.length c) rfl rfl) ?_
  refine sq 6 rfl rfl (Y_move (v := .func (.func kf) #[] caps) rfl rfl) ?_
  obtain ⟨r_1, hc, hF⟩ := bind_inv hF
  refine sc 7 rfl rfl (Yc_func (g := 88) (vs := [.slice B s.length c, .func (.func kf) #[] caps]) k_call_88 rfl (mc rfl (mc rfl mn)) (c_slices_IndexFunc_impl_Dyadic_impl_Dyadic s f_ B c s.length kf caps Rf _ rfl hk hp (hS.innS (subc (mem_at (i := 0) rfl) (fun _ h => List.mem_of_mem_drop (i := 1) h))) hc)) ?_
  rintro _ w_ ⟨rfl, hd⟩
  have hS1 := hS.out00 hd
  refine sq 8 rfl rfl (Y_ge (k := .i64) (a := r_1) (b := 0) rfl rfl rfl) ?_
  refine sq 4 rfl rfl (Y_assign (v := .bool (decide (0 ≤ r_1))) rfl rfl) ?_
  refine rw_nil ?_
  refine cw_ret ?_
  obtain rfl := some_inj hF
  exact ret1 Tryd.results59 (v1 := .bool (decide (0 ≤ r_1))) (resAt_tmp rfl) ⟨rfl, (ST.subR (R' := []) (hS1.sel [] rfl rfl) (fun _ h => by cases h))⟩

theorem c_impl_isCoef (n : Int)  (w0 : World)  (hS : ST w0 [] w0 [] []) {r_ : Bool} (hF : F_impl_isCoef n = some r_) :
    CV Tryd.prog 104 #[vi n] w0 (fun v w' => v = .bool r_ ∧ ST w0 [] w' [] []) := by
  unfold F_impl_isCoef at hF
  refine cv_of_cw 5 Tryd.func104 rfl Tryd.ntmps104 rfl ?_
  refine cw_seq ?_
  refine cw_region ?_
  refine sq 2 rfl rfl (Y_assign (v := .bool false) rfl rfl) ?_
  refine rw_nil ?_
  refine cw_seq ?_
  refine cw_region ?_
  refine sq 3 rfl rfl (Y_move (v := vi n) rfl rfl) ?_
  obtain ⟨r_1, hc, hF⟩ := bind_inv hF
  refine sc 4 rfl rfl (Yc_func (g := 87) (vs := [vi n, vi (-1000000000), vi 1000000000]) k_call_87 rfl (mc rfl (mc rfl (mc rfl mn))) (c_impl_within n (-1000000000) 1000000000 _  (hS.inn0 [] rfl) hc)) ?_
  rintro _ w_ ⟨rfl, hd⟩
  have hS1 := hS.out00 hd
  refine sq 2 rfl rfl (Y_assign (v := .bool r_1) rfl rfl) ?_
  refine rw_nil ?_
  refine cw_ret ?_
  obtain rfl := some_inj hF
  exact ret1 Tryd.results104 (v1 := .bool r_1) (resAt_tmp rfl) ⟨rfl, (ST.subR (R' := []) (hS1.sel [] rfl rfl) (fun _ h => by cases h))⟩

theorem c_impl_IsValidRing (x : TRing)  (w0 : World)  (hS : ST w0 [] w0 [] []) {r_ : Bool} (hF : F_impl_IsValidRing x = some r_) :
    CV Tryd.prog 89 #[.agg #[vi x.A, vi x.B, vi x.C, vi x.D]] w0 (fun v w' => v = .bool r_ ∧ ST w0 [] w' [] []) := by
  unfold F_impl_IsValidRing at hF
  refine cv_of_cw 21 Tryd.func89 rfl Tryd.ntmps89 rfl ?_
  refine cw_seq ?_
  refine cw_region ?_
  refine ss 1 rfl rfl (Ys_box (T := 47) (v := .agg #[vi x.A, vi x.B, vi x.C, vi x.D]) (cs := [vi x.A, vi x.B, vi x.C, vi x.D]) (m := 4) hS rfl rfl rfl rfl) ?_
  rintro _ w_ ⟨b, rfl, hS1⟩
  refine sq 2 rfl rfl (Y_assign (v := .bool false) rfl rfl) ?_
  refine rw_nil ?_
  refine cw_seq ?_
  refine cw_region ?_
  refine sq 3 rfl rfl (Y_fieldAddr (B := some ⟨b, 0, none⟩) (i := 0) (s := 0) k_fd_47_0_0_3 k_sz_3_1 rfl rfl) ?_
  refine sq 4 rfl rfl (Y_load1 (B := some ⟨b, 0, none⟩) (i := 0) (cs := [vi x.A, vi x.B, vi x.C, vi x.D]) (v := vi x.A) k_sc_3 rfl rfl (hS1.cf (i := 0) rfl) rfl) ?_
  obtain ⟨r_1, hc, hF⟩ := bind_inv hF
  refine sc 5 rfl rfl (Yc_func (g := 104) (vs := [vi x.A]) k_call_104 rfl (mc rfl mn) (c_impl_isCoef x.A _  (hS1.inn0 [] rfl) hc)) ?_
  rintro _ w_1 ⟨rfl, hd⟩
  have hS2 := hS1.out00 hd
  refine sq 6 rfl rfl (Y_move (v := .bool r_1) rfl rfl) ?_
  refine sgq 7 (B := r_1) (v := pt (some ⟨b, 0, none⟩) 1) rfl rfl (wt_t (gd_of (t := 6) (by kernel_rfl) rfl)) (fun hg => (Y_fieldAddr (B := some ⟨b, 0, none⟩) (i := 0) (s := 0) k_fd_47_1_1_3 k_sz_3_1 rfl rfl)) ?_
  refine sgq 8 (B := r_1) (v := vi x.B) rfl rfl (wt_t (gd_of (t := 6) (by kernel_rfl) rfl)) (fun hg1 => (Y_load1 (B := some ⟨b, 0, none⟩) (i := 1) (cs := [vi x.A, vi x.B, vi x.C, vi x.D]) (v := vi x.B) k_sc_3 rfl (gv_of (B := r_1) (v := pt (some ⟨b, 0, none⟩) 1) hg1) (hS2.cf (i := 0) rfl) rfl)) ?_
  obtain ⟨r_2, hc1, hF⟩ := bind_inv hF
  refine sgc 9 (B := r_1) (v := .bool r_2) (F := hS2.fn) rfl rfl (wt_t (gd_of (t := 6) (by kernel_rfl) rfl)) hS2 (fun hg2 => (Yc_func (g := 104) (vs := [vi x.B]) k_call_104 rfl (mc (gv_of (B := r_1) (v := vi x.B) hg2) mn) (CV.mono (c_impl_isCoef x.B _  (hS2.inn0 [] rfl) (gb_inv hc1 hg2)) (by rintro _ _ ⟨rfl, h⟩; exact ⟨rfl, hS2.out00 h⟩)))) ?_
  rintro w_2 hS3
  have hS3 : ST _ _ w_2 _ _ := hS3
  refine sq 10 rfl rfl (Y_and (b := r_1) (z := r_2) rfl rfl rfl rfl) ?_
  refine sq 11 rfl rfl (Y_move (v := .bool (r_1 && r_2)) rfl rfl) ?_
  refine sgq 12 (B := (r_1 && r_2)) (v := pt (some ⟨b, 0, none⟩) 2) rfl rfl (wt_t (gd_of (t := 11) (by kernel_rfl) rfl)) (fun hg3 => (Y_fieldAddr (B := some ⟨b, 0, none⟩) (i := 0) (s := 0) k_fd_47_2_2_3 k_sz_3_1 rfl rfl)) ?_
  refine sgq 13 (B := (r_1 && r_2)) (v := vi x.C) rfl rfl (wt_t (gd_of (t := 11) (by kernel_rfl) rfl)) (fun hg4 => (Y_load1 (B := some ⟨b, 0, none⟩) (i := 2) (cs := [vi x.A, vi x.B, vi x.C, vi x.D]) (v := vi x.C) k_sc_3 rfl (gv_of (B := (r_1 && r_2)) (v := pt (some ⟨b, 0, none⟩) 2) hg4) (hS3.cf (i := 0) rfl) rfl)) ?_
  obtain ⟨r_3, hc2, hF⟩ := bind_inv hF
  refine sgc 14 (B := (r_1 && r_2)) (v := .bool r_3) (F := hS3.fn) rfl rfl (wt_t (gd_of (t := 11) (by kernel_rfl) rfl)) hS3 (fun hg5 => (Yc_func (g := 104) (vs := [vi x.C]) k_call_104 rfl (mc (gv_of (B := (r_1 && r_2)) (v := vi x.C) hg5) mn) (CV.mono (c_impl_isCoef x.C _  (hS3.inn0 [] rfl) (gb_inv hc2 hg5)) (by rintro _ _ ⟨rfl, h⟩; exact ⟨rfl, hS3.out00 h⟩)))) ?_
  rintro w_3 hS4
  have hS4 : ST _ _ w_3 _ _ := hS4
  refine sq 15 rfl rfl (Y_and (b := (r_1 && r_2)) (z := r_3) rfl rfl rfl rfl) ?_
  refine sq 16 rfl rfl (Y_move (v := .bool ((r_1 && r_2) && r_3)) rfl rfl) ?_
  refine sgq 17 (B := ((r_1 && r_2) && r_3)) (v := pt (some ⟨b, 0, none⟩) 3) rfl rfl (wt_t (gd_of (t := 16) (by kernel_rfl) rfl)) (fun hg6 => (Y_fieldAddr (B := some ⟨b, 0, none⟩) (i := 0) (s := 0) k_fd_47_3_3_3 k_sz_3_1 rfl rfl)) ?_
  refine sgq 18 (B := ((r_1 && r_2) && r_3)) (v := vi x.D) rfl rfl (wt_t (gd_of (t := 16) (by kernel_rfl) rfl)) (fun hg7 => (Y_load1 (B := some ⟨b, 0, none⟩) (i := 3) (cs := [vi x.A, vi x.B, vi x.C, vi x.D]) (v := vi x.D) k_sc_3 rfl (gv_of (B := ((r_1 && r_2) && r_3)) (v := pt (some ⟨b, 0, none⟩) 3) hg7) (hS4.cf (i := 0) rfl) rfl)) ?_
  obtain ⟨r_4, hc3, hF⟩ := bind_inv hF
  refine sgc 19 (B := ((r_1 && r_2) && r_3)) (v := .bool r_4) (F := hS4.fn) rfl rfl (wt_t (gd_of (t := 16) (by kernel_rfl) rfl)) hS4 (fun hg8 => (Yc_func (g := 104) (vs := [vi x.D]) k_call_104 rfl (mc (gv_of (B := ((r_1 && r_2) && r_3)) (v := vi x.D) hg8) mn) (CV.mono (c_impl_isCoef x.D _  (hS4.inn0 [] rfl) (gb_inv hc3 hg8)) (by rintro _ _ ⟨rfl, h⟩; exact ⟨rfl, hS4.out00 h⟩)))) ?_
  rintro w_4 hS5
  have hS5 : ST _ _ w_4 _ _ := hS5
  refine sq 20 rfl rfl (Y_and (b := ((r_1 && r_2) && r_3)) (z := r_4) rfl rfl rfl rfl) ?_
  refine sq 2 rfl rfl (Y_assign (v := .bool (((r_1 && r_2) && r_3) && r_4)) rfl rfl) ?_
  refine rw_nil ?_
  refine cw_ret ?_
  obtain rfl := some_inj hF
  exact ret1 Tryd.results89 (v1 := .bool (((r_1 && r_2) && r_3) && r_4)) (resAt_tmp rfl) ⟨rfl, (ST.subR (R' := []) (hS5.sel [] rfl rfl) (fun _ h => by cases h))⟩

theorem c_impl_isEven (x : TRing)  (w0 : World)  (hS : ST w0 [] w0 [] []) {r_ : Bool} (hF : F_impl_isEven x = some r_) :
    CV Tryd.prog 90 #[.agg #[vi x.A, vi x.B, vi x.C, vi x.D]] w0 (fun v w' => v = .bool r_ ∧ ST w0 [] w' [] []) := by
  unfold F_impl_isEven at hF
  refine cv_of_cw 19 Tryd.func90 rfl Tryd.ntmps90 rfl ?_
  refine cw_seq ?_
  refine cw_region ?_
  refine ss 1 rfl rfl (Ys_box (T := 47) (v := .agg #[vi x.A, vi x.B, vi x.C, vi x.D]) (cs := [vi x.A, vi x.B, vi x.C, vi x.D]) (m := 4) hS rfl rfl rfl rfl) ?_
  rintro _ w_ ⟨b, rfl, hS1⟩
  refine sq 2 rfl rfl (Y_assign (v := .bool false) rfl rfl) ?_
  refine rw_nil ?_
  refine cw_seq ?_
  refine cw_region ?_
  refine sq 3 rfl rfl (Y_fieldAddr (B := some ⟨b, 0, none⟩) (i := 0) (s := 0) k_fd_47_0_0_3 k_sz_3_1 rfl rfl) ?_
  refine sq 4 rfl rfl (Y_load1 (B := some ⟨b, 0, none⟩) (i := 0) (cs := [vi x.A, vi x.B, vi x.C, vi x.D]) (v := vi x.A) k_sc_3 rfl rfl (hS1.cf (i := 0) rfl) rfl) ?_
  refine sq 5 rfl rfl (Y_fieldAddr (B := some ⟨b, 0, none⟩) (i := 0) (s := 0) k_fd_47_2_2_3 k_sz_3_1 rfl rfl) ?_
  refine sq 6 rfl rfl (Y_load1 (B := some ⟨b, 0, none⟩) (i := 2) (cs := [vi x.A, vi x.B, vi x.C, vi x.D]) (v := vi x.C) k_sc_3 rfl rfl (hS1.cf (i := 0) rfl) rfl) ?_
  refine sq 7 rfl rfl (Y_add (k := .i64) (a := x.A) (b := x.C) rfl rfl rfl) ?_
  refine sq 8 rfl rfl (Y_rem (k := .i64) (a := (i64.wrap (x.A + x.C))) (b := 2) rfl rfl rfl (by decide)) ?_
  refine sq 9 rfl rfl (Y_eq (k := .i64) (a := (Int.tmod (i64.wrap (x.A + x.C)) 2)) (b := 0) rfl rfl rfl) ?_
  refine sq 10 rfl rfl (Y_move (v := .bool ((Int.tmod (i64.wrap (x.A + x.C)) 2) == 0)) rfl rfl) ?_
  refine sgq 11 (B := ((Int.tmod (i64.wrap (x.A + x.C)) 2) == 0)) (v := pt (some ⟨b, 0, none⟩) 1) rfl rfl (wt_t (gd_of (t := 10) (by kernel_rfl) rfl)) (fun hg => (Y_fieldAddr (B := some ⟨b, 0, none⟩) (i := 0) (s := 0) k_fd_47_1_1_3 k_sz_3_1 rfl rfl)) ?_
  refine sgq 12 (B := ((Int.tmod (i64.wrap (x.A + x.C)) 2) == 0)) (v := vi x.B) rfl rfl (wt_t (gd_of (t := 10) (by kernel_rfl) rfl)) (fun hg1 => (Y_load1 (B := some ⟨b, 0, none⟩) (i := 1) (cs := [vi x.A, vi x.B, vi x.C, vi x.D]) (v := vi x.B) k_sc_3 rfl (gv_of (B := ((Int.tmod (i64.wrap (x.A + x.C)) 2) == 0)) (v := pt (some ⟨b, 0, none⟩) 1) hg1) (hS1.cf (i := 0) rfl) rfl)) ?_
  refine sgq 13 (B := ((Int.tmod (i64.wrap (x.A + x.C)) 2) == 0)) (v := pt (some ⟨b, 0, none⟩) 3) rfl rfl (wt_t (gd_of (t := 10) (by kernel_rfl) rfl)) (fun hg2 => (Y_fieldAddr (B := some ⟨b, 0, none⟩) (i := 0) (s := 0) k_fd_47_3_3_3 k_sz_3_1 rfl rfl)) ?_
  refine sgq 14 (B := ((Int.tmod (i64.wrap (x.A + x.C)) 2) == 0)) (v := vi x.D) rfl rfl (wt_t (gd_of (t := 10) (by kernel_rfl) rfl)) (fun hg3 => (Y_load1 (B := some ⟨b, 0, none⟩) (i := 3) (cs := [vi x.A, vi x.B, vi x.C, vi x.D]) (v := vi x.D) k_sc_3 rfl (gv_of (B := ((Int.tmod (i64.wrap (x.A + x.C)) 2) == 0)) (v := pt (some ⟨b, 0, none⟩) 3) hg3) (hS1.cf (i := 0) rfl) rfl)) ?_
  refine sgq 15 (B := ((Int.tmod (i64.wrap (x.A + x.C)) 2) == 0)) (v := vi (i64.wrap (x.B + x.D))) rfl rfl (wt_t (gd_of (t := 10) (by kernel_rfl) rfl)) (fun hg4 => (Y_add (k := .i64) (a := x.B) (b := x.D) rfl (gv_of (B := ((Int.tmod (i64.wrap (x.A + x.C)) 2) == 0)) (v := vi x.B) hg4) (gv_of (B := ((Int.tmod (i64.wrap (x.A + x.C)) 2) == 0)) (v := vi x.D) hg4))) ?_
  refine sgq 16 (B := ((Int.tmod (i64.wrap (x.A + x.C)) 2) == 0)) (v := vi (Int.tmod (i64.wrap (x.B + x.D)) 2)) rfl rfl (wt_t (gd_of (t := 10) (by kernel_rfl) rfl)) (fun hg5 => (Y_rem (k := .i64) (a := (i64.wrap (x.B + x.D))) (b := 2) rfl (gv_of (B := ((Int.tmod (i64.wrap (x.A + x.C)) 2) == 0)) (v := vi (i64.wrap (x.B + x.D))) hg5) rfl (by decide))) ?_
  refine sgq 17 (B := ((Int.tmod (i64.wrap (x.A + x.C)) 2) == 0)) (v := .bool ((Int.tmod (i64.wrap (x.B + x.D)) 2) == 0)) rfl rfl (wt_t (gd_of (t := 10) (by kernel_rfl) rfl)) (fun hg6 => (Y_eq (k := .i64) (a := (Int.tmod (i64.wrap (x.B + x.D)) 2)) (b := 0) rfl (gv_of (B := ((Int.tmod (i64.wrap (x.A + x.C)) 2) == 0)) (v := vi (Int.tmod (i64.wrap (x.B + x.D)) 2)) hg6) rfl)) ?_
  refine sq 18 rfl rfl (Y_and (b := ((Int.tmod (i64.wrap (x.A + x.C)) 2) == 0)) (z := ((Int.tmod (i64.wrap (x.B + x.D)) 2) == 0)) rfl rfl rfl rfl) ?_
  refine sq 2 rfl rfl (Y_assign (v := .bool (((Int.tmod (i64.wrap (x.A + x.C)) 2) == 0) && ((Int.tmod (i64.wrap (x.B + x.D)) 2) == 0))) rfl rfl) ?_
  refine rw_nil ?_
  refine cw_ret ?_
  obtain rfl := some_inj hF
  exact ret1 Tryd.results90 (v1 := .bool (((Int.tmod (i64.wrap (x.A + x.C)) 2) == 0) && ((Int.tmod (i64.wrap (x.B + x.D)) 2) == 0))) (resAt_tmp rfl) ⟨rfl, (ST.subR (R' := []) (hS1.sel [] rfl rfl) (fun _ h => by cases h))⟩

theorem c_impl_IsValidDyadic (x : TDyadic)  (w0 : World)  (hS : ST w0 [] w0 [] []) {r_ : Bool} (hF : F_impl_IsValidDyadic x = some r_) :
    CV Tryd.prog 61 #[.agg #[vi x.Num.A, vi x.Num.B, vi x.Num.C, vi x.Num.D, vi x.Exp]] w0 (fun v w' => v = .bool r_ ∧ ST w0 [] w' [] []) := by
  unfold F_impl_IsValidDyadic at hF
  refine cv_of_cw 22 Tryd.func61 rfl Tryd.ntmps61 rfl ?_
  refine cw_seq ?_
  refine cw_region ?_
  refine ss 1 rfl rfl (Ys_box (T := 49) (v := .agg #[vi x.Num.A, vi x.Num.B, vi x.Num.C, vi x.Num.D, vi x.Exp]) (cs := [vi x.Num.A, vi x.Num.B, vi x.Num.C, vi x.Num.D, vi x.Exp]) (m := 5) hS rfl rfl rfl rfl) ?_
  rintro _ w_ ⟨b, rfl, hS1⟩
  refine sq 2 rfl rfl (Y_assign (v := .bool false) rfl rfl) ?_
  refine rw_nil ?_
  refine cw_seq ?_
  refine cw_region ?_
  refine sq 3 rfl rfl (Y_fieldAddr (B := some ⟨b, 0, none⟩) (i := 0) (s := 3) k_fd_49_0_0_47 k_sz_47_4 rfl rfl) ?_
  refine sq 4 rfl rfl (Y_loadA (B := some ⟨b, 0, none⟩) (i := 0) (cs := [vi x.Num.A, vi x.Num.B, vi x.Num.C, vi x.Num.D, vi x.Exp]) (vs := [vi x.Num.A, vi x.Num.B, vi x.Num.C, vi x.Num.D]) k_ag_47 k_sz_47_4 rfl rfl (hS1.cf (i := 0) rfl) rfl rfl) ?_
  obtain ⟨r_1, hc, hF⟩ := bind_inv hF
  refine sc 5 rfl rfl (Yc_func (g := 89) (vs := [.agg #[vi x.Num.A, vi x.Num.B, vi x.Num.C, vi x.Num.D]]) k_call_89 rfl (mc rfl mn) (c_impl_IsValidRing x.Num _  (hS1.inn0 [] rfl) hc)) ?_
  rintro _ w_1 ⟨rfl, hd⟩
  have hS2 := hS1.out00 hd
  refine sq 6 rfl rfl (Y_move (v := .bool r_1) rfl rfl) ?_
  refine sgq 7 (B := r_1) (v := pt (some ⟨b, 0, none⟩) 4) rfl rfl (wt_t (gd_of (t := 6) (by kernel_rfl) rfl)) (fun hg => (Y_fieldAddr (B := some ⟨b, 0, none⟩) (i := 0) (s := 0) k_fd_49_1_4_3 k_sz_3_1 rfl rfl)) ?_
  refine sgq 8 (B := r_1) (v := vi x.Exp) rfl rfl (wt_t (gd_of (t := 6) (by kernel_rfl) rfl)) (fun hg1 => (Y_load1 (B := some ⟨b, 0, none⟩) (i := 4) (cs := [vi x.Num.A, vi x.Num.B, vi x.Num.C, vi x.Num.D, vi x.Exp]) (v := vi x.Exp) k_sc_3 rfl (gv_of (B := r_1) (v := pt (some ⟨b, 0, none⟩) 4) hg1) (hS2.cf (i := 0) rfl) rfl)) ?_
  obtain ⟨r_2, hc1, hF⟩ := bind_inv hF
  refine sgc 9 (B := r_1) (v := .bool r_2) (F := hS2.fn) rfl rfl (wt_t (gd_of (t := 6) (by kernel_rfl) rfl)) hS2 (fun hg2 => (Yc_func (g := 87) (vs := [vi x.Exp, vi 0, vi 60]) k_call_87 rfl (mc (gv_of (B := r_1) (v := vi x.Exp) hg2) (mc rfl (mc rfl mn))) (CV.mono (c_impl_within x.Exp 0 60 _  (hS2.inn0 [] rfl) (gb_inv hc1 hg2)) (by rintro _ _ ⟨rfl, h⟩; exact ⟨rfl, hS2.out00 h⟩)))) ?_
  rintro w_2 hS3
  have hS3 : ST _ _ w_2 _ _ := hS3
  refine sq 10 rfl rfl (Y_and (b := r_1) (z := r_2) rfl rfl rfl rfl) ?_
  refine sq 11 rfl rfl (Y_move (v := .bool (r_1 && r_2)) rfl rfl) ?_
  refine sgq 12 (B := (r_1 && r_2)) (v := pt (some ⟨b, 0, none⟩) 4) rfl rfl (wt_t (gd_of (t := 11) (by kernel_rfl) rfl)) (fun hg3 => (Y_fieldAddr (B := some ⟨b, 0, none⟩) (i := 0) (s := 0) k_fd_49_1_4_3 k_sz_3_1 rfl rfl)) ?_
  refine sgq 13 (B := (r_1 && r_2)) (v := vi x.Exp) rfl rfl (wt_t (gd_of (t := 11) (by kernel_rfl) rfl)) (fun hg4 => (Y_load1 (B := some ⟨b, 0, none⟩) (i := 4) (cs := [vi x.Num.A, vi x.Num.B, vi x.Num.C, vi x.Num.D, vi x.Exp]) (v := vi x.Exp) k_sc_3 rfl (gv_of (B := (r_1 && r_2)) (v := pt (some ⟨b, 0, none⟩) 4) hg4) (hS3.cf (i := 0) rfl) rfl)) ?_
  refine sgq 14 (B := (r_1 && r_2)) (v := .bool (x.Exp == 0)) rfl rfl (wt_t (gd_of (t := 11) (by kernel_rfl) rfl)) (fun hg5 => (Y_eq (k := .i64) (a := x.Exp) (b := 0) rfl (gv_of (B := (r_1 && r_2)) (v := vi x.Exp) hg5) rfl)) ?_
  refine sgq 15 (B := (r_1 && r_2)) (v := .bool (x.Exp == 0)) rfl rfl (wt_t (gd_of (t := 11) (by kernel_rfl) rfl)) (fun hg6 => (Y_move (v := .bool (x.Exp == 0)) rfl (gv_of (B := (r_1 && r_2)) (v := .bool (x.Exp == 0)) hg6))) ?_
  refine sgq 16 (B := ((r_1 && r_2) && (!(x.Exp == 0)))) (v := pt (some ⟨b, 0, none⟩) 0) rfl rfl (wt_gf (gd_of (t := 15) (by kernel_rfl) rfl)) (fun hg7 => (Y_fieldAddr (B := some ⟨b, 0, none⟩) (i := 0) (s := 3) k_fd_49_0_0_47 k_sz_47_4 rfl rfl)) ?_
  refine sgq 17 (B := ((r_1 && r_2) && (!(x.Exp == 0)))) (v := .agg #[vi x.Num.A, vi x.Num.B, vi x.Num.C, vi x.Num.D]) rfl rfl (wt_gf (gd_of (t := 15) (by kernel_rfl) rfl)) (fun hg8 => (Y_loadA (B := some ⟨b, 0, none⟩) (i := 0) (cs := [vi x.Num.A, vi x.Num.B, vi x.Num.C, vi x.Num.D, vi x.Exp]) (vs := [vi x.Num.A, vi x.Num.B, vi x.Num.C, vi x.Num.D]) k_ag_47 k_sz_47_4 rfl (gv_of (B := ((r_1 && r_2) && (!(x.Exp == 0)))) (v := pt (some ⟨b, 0, none⟩) 0) hg8) (hS3.cf (i := 0) rfl) rfl rfl)) ?_
  obtain ⟨r_3, hc2, hF⟩ := bind_inv hF
  refine sgc 18 (B := ((r_1 && r_2) && (!(x.Exp == 0)))) (v := .bool r_3) (F := hS3.fn) rfl rfl (wt_gf (gd_of (t := 15) (by kernel_rfl) rfl)) hS3 (fun hg9 => (Yc_func (g := 90) (vs := [.agg #[vi x.Num.A, vi x.Num.B, vi x.Num.C, vi x.Num.D]]) k_call_90 rfl (mc (gv_of (B := ((r_1 && r_2) && (!(x.Exp == 0)))) (v := .agg #[vi x.Num.A, vi x.Num.B, vi x.Num.C, vi x.Num.D]) hg9) mn) (CV.mono (c_impl_isEven x.Num _  (hS3.inn0 [] rfl) (gb_inv hc2 hg9)) (by rintro _ _ ⟨rfl, h⟩; exact ⟨rfl, hS3.out00 h⟩)))) ?_
  rintro w_3 hS4
  have hS4 : ST _ _ w_3 _ _ := hS4
  refine sgq 19 (B := ((r_1 && r_2) && (!(x.Exp == 0)))) (v := .bool (!r_3)) rfl rfl (wt_gf (gd_of (t := 15) (by kernel_rfl) rfl)) (fun hg10 => (Y_not (p := r_3) rfl (gv_of (B := ((r_1 && r_2) && (!(x.Exp == 0)))) (v := .bool r_3) hg10))) ?_
  refine sgq 20 (B := (r_1 && r_2)) (v := .bool ((x.Exp == 0) || (!r_3))) rfl rfl (wt_t (gd_of (t := 11) (by kernel_rfl) rfl)) (fun hg11 => (Y_or (b := (x.Exp == 0)) (z := (!r_3)) rfl (gv_of (B := (r_1 && r_2)) (v := .bool (x.Exp == 0)) hg11) rfl (gv_and (B := (r_1 && r_2)) (C := (!(x.Exp == 0))) (v := .bool (!r_3)) hg11))) ?_
  refine sq 21 rfl rfl (Y_and (b := (r_1 && r_2)) (z := ((x.Exp == 0) || (!r_3))) rfl rfl rfl rfl) ?_
  refine sq 2 rfl rfl (Y_assign (v := .bool ((r_1 && r_2) && ((x.Exp == 0) || (!r_3)))) rfl rfl) ?_
  refine rw_nil ?_
  refine cw_ret ?_
  obtain rfl := some_inj hF
  exact ret1 Tryd.results61 (v1 := .bool ((r_1 && r_2) && ((x.Exp == 0) || (!r_3)))) (resAt_tmp rfl) ⟨rfl, (ST.subR (R' := []) (hS4.sel [] rfl rfl) (fun _ h => by cases h))⟩

theorem c_impl_IsValidMatrix_1 (x : TDyadic)  (w0 : World)  (hS : ST w0 [] w0 [] []) {r_ : Bool} (hF : F_impl_IsValidMatrix_1 x = some r_) :
    CV Tryd.prog 60 #[.agg #[vi x.Num.A, vi x.Num.B, vi x.Num.C, vi x.Num.D, vi x.Exp]] w0 (fun v w' => v = .bool r_ ∧ ST w0 [] w' [] []) := by
  unfold F_impl_IsValidMatrix_1 at hF
  refine cv_of_cw 6 Tryd.func60 rfl Tryd.ntmps60 rfl ?_
  refine cw_seq ?_
  refine cw_region ?_
  refine ss 1 rfl rfl (Ys_box (T := 49) (v := .agg #[vi x.Num.A, vi x.Num.B, vi x.Num.C, vi x.Num.D, vi x.Exp]) (cs := [vi x.Num.A, vi x.Num.B, vi x.Num.C, vi x.Num.D, vi x.Exp]) (m := 5) hS rfl rfl rfl rfl) ?_
  rintro _ w_ ⟨b, rfl, hS1⟩
  refine sq 2 rfl rfl (Y_assign (v := .bool false) rfl rfl) ?_
  refine rw_nil ?_
  refine cw_seq ?_
  refine cw_region ?_
  refine sq 3 rfl rfl (Y_loadA (B := some ⟨b, 0, none⟩) (i := 0) (cs := [vi x.Num.A, vi x.Num.B, vi x.Num.C, vi x.Num.D, vi x.Exp]) (vs := [vi x.Num.A, vi x.Num.B, vi x.Num.C, vi x.Num.D, vi x.Exp]) k_ag_49 k_sz_49_5 rfl rfl (hS1.cf (i := 0) rfl) rfl rfl) ?_
  obtain ⟨r_1, hc, hF⟩ := bind_inv hF
  refine sc 4 rfl rfl (Yc_func (g := 61) (vs := [.agg #[vi x.Num.A, vi x.Num.B, vi x.Num.C, vi x.Num.D, vi x.Exp]]) k_call_61 rfl (mc rfl mn) (c_impl_IsValidDyadic x _  (hS1.inn0 [] rfl) hc)) ?_
  rintro _ w_1 ⟨rfl, hd⟩
  have hS2 := hS1.out00 hd
  refine sq 5 rfl rfl (Y_not (p := r_1) rfl rfl) ?_
  refine sq 2 rfl rfl (Y_assign (v := .bool (!r_1)) rfl rfl) ?_
  refine rw_nil ?_
  refine cw_ret ?_
  obtain rfl := some_inj hF
  exact ret1 Tryd.results60 (v1 := .bool (!r_1)) (resAt_tmp rfl) ⟨rfl, (ST.subR (R' := []) (hS2.sel [] rfl rfl) (fun _ h => by cases h))⟩

theorem c_impl_IsValidMatrix (m : TMatrix) (B : Option Addr) (c n : Nat) (w0 : World) (hn : m.Cells.length = n) (hS : ST w0 [] w0 [] [⟨B, (m.Cells.flatMap enc_Dyadic)⟩]) {r_ : Bool} (hF : F_impl_IsValidMatrix m = some r_) :
    CV Tryd.prog 35 #[.agg #[vi m.Rows, vi m.Cols, .slice B n c]] w0 (fun v w' => v = .bool r_ ∧ ST w0 [] w' [] []) := by
  subst hn
  unfold F_impl_IsValidMatrix at hF
  refine cv_of_cw 28 Tryd.func35 rfl Tryd.ntmps35 rfl ?_
  refine cw_seq ?_
  refine cw_region ?_
  refine ss 1 rfl rfl (Ys_box (T := 32) (v := .agg #[vi m.Rows, vi m.Cols, .slice B m.Cells.length c]) (cs := [vi m.Rows, vi m.Cols, .slice B m.Cells.length c]) (m := 3) hS rfl rfl rfl rfl) ?_
  rintro _ w_ ⟨b, rfl, hS1⟩
  refine sq 2 rfl rfl (Y_assign (v := .bool false) rfl rfl) ?_
  refine rw_nil ?_
  refine cw_seq ?_
  refine cw_region ?_
  refine sq 3 rfl rfl (Y_fieldAddr (B := some ⟨b, 0, none⟩) (i := 0) (s := 0) k_fd_32_0_0_3 k_sz_3_1 rfl rfl) ?_
  refine sq 4 rfl rfl (Y_load1 (B := some ⟨b, 0, none⟩) (i := 0) (cs := [vi m.Rows, vi m.Cols, .slice B m.Cells.length c]) (v := vi m.Rows) k_sc_3 rfl rfl (hS1.cf (i := 0) rfl) rfl) ?_
  obtain ⟨r_1, hc, hF⟩ := bind_inv hF
  refine sc 5 rfl rfl (Yc_func (g := 58) (vs := [vi m.Rows]) k_call_58 rfl (mc rfl mn) (c_impl_isDim m.Rows _  (hS1.inn0 [] rfl) hc)) ?_
  rintro _ w_1 ⟨rfl, hd⟩
  have hS2 := hS1.out00 hd
  refine sq 6 rfl rfl (Y_move (v := .bool r_1) rfl rfl) ?_
  refine sgq 7 (B := r_1) (v := pt (some ⟨b, 0, none⟩) 1) rfl rfl (wt_t (gd_of (t := 6) (by kernel_rfl) rfl)) (fun hg => (Y_fieldAddr (B := some ⟨b, 0, none⟩) (i := 0) (s := 0) k_fd_32_1_1_3 k_sz_3_1 rfl rfl)) ?_
  refine sgq 8 (B := r_1) (v := vi m.Cols) rfl rfl (wt_t (gd_of (t := 6) (by kernel_rfl) rfl)) (fun hg1 => (Y_load1 (B := some ⟨b, 0, none⟩) (i := 1) (cs := [vi m.Rows, vi m.Cols, .slice B m.Cells.length c]) (v := vi m.Cols) k_sc_3 rfl (gv_of (B := r_1) (v := pt (some ⟨b, 0, none⟩) 1) hg1) (hS2.cf (i := 0) rfl) rfl)) ?_
  obtain ⟨r_2, hc1, hF⟩ := bind_inv hF
  refine sgc 9 (B := r_1) (v := .bool r_2) (F := hS2.fn) rfl rfl (wt_t (gd_of (t := 6) (by kernel_rfl) rfl)) hS2 (fun hg2 => (Yc_func (g := 58) (vs := [vi m.Cols]) k_call_58 rfl (mc (gv_of (B := r_1) (v := vi m.Cols) hg2) mn) (CV.mono (c_impl_isDim m.Cols _  (hS2.inn0 [] rfl) (gb_inv hc1 hg2)) (by rintro _ _ ⟨rfl, h⟩; exact ⟨rfl, hS2.out00 h⟩)))) ?_
  rintro w_2 hS3
  have hS3 : ST _ _ w_2 _ _ := hS3
  refine sq 10 rfl rfl (Y_and (b := r_1) (z := r_2) rfl rfl rfl rfl) ?_
  refine sq 11 rfl rfl (Y_move (v := .bool (r_1 && r_2)) rfl rfl) ?_
  refine sgq 12 (B := (r_1 && r_2)) (v := pt (some ⟨b, 0, none⟩) 2) rfl rfl (wt_t (gd_of (t := 11) (by kernel_rfl) rfl)) (fun hg3 => (Y_fieldAddr (B := some ⟨b, 0, none⟩) (i := 0) (s := 0) k_fd_32_2_2_26 k_sz_26_1 rfl rfl)) ?_
  refine sgq 13 (B := (r_1 && r_2)) (v := .slice B m.Cells.length c) rfl rfl (wt_t (gd_of (t := 11) (by kernel_rfl) rfl)) (fun hg4 => (Y_load1 (B := some ⟨b, 0, none⟩) (i := 2) (cs := [vi m.Rows, vi m.Cols, .slice B m.Cells.length c]) (v := .slice B m.Cells.length c) k_sc_26 rfl (gv_of (B := (r_1 && r_2)) (v := pt (some ⟨b, 0, none⟩) 2) hg4) (hS3.cf (i := 0) rfl) rfl)) ?_
  refine sgq 14 (B := (r_1 && r_2)) (v := vi (m.Cells.length : Int)) rfl rfl (wt_t (gd_of (t := 11) (by kernel_rfl) rfl)) (fun hg5 => (Y_len (B := B) (m := m.Cells.length) (c := c) k_sl_26_49 rfl (gv_of (B := (r_1 && r_2)) (v := .slice B m.Cells.length c) hg5))) ?_
  refine sgq 15 (B := (r_1 && r_2)) (v := pt (some ⟨b, 0, none⟩) 0) rfl rfl (wt_t (gd_of (t := 11) (by kernel_rfl) rfl)) (fun hg6 => (Y_fieldAddr (B := some ⟨b, 0, none⟩) (i := 0) (s := 0) k_fd_32_0_0_3 k_sz_3_1 rfl rfl)) ?_
  refine sgq 16 (B := (r_1 && r_2)) (v := vi m.Rows) rfl rfl (wt_t (gd_of (t := 11) (by kernel_rfl) rfl)) (fun hg7 => (Y_load1 (B := some ⟨b, 0, none⟩) (i := 0) (cs := [vi m.Rows, vi m.Cols, .slice B m.Cells.length c]) (v := vi m.Rows) k_sc_3 rfl (gv_of (B := (r_1 && r_2)) (v := pt (some ⟨b, 0, none⟩) 0) hg7) (hS3.cf (i := 0) rfl) rfl)) ?_
  refine sgq 17 (B := (r_1 && r_2)) (v := pt (some ⟨b, 0, none⟩) 1) rfl rfl (wt_t (gd_of (t := 11) (by kernel_rfl) rfl)) (fun hg8 => (Y_fieldAddr (B := some ⟨b, 0, none⟩) (i := 0) (s := 0) k_fd_32_1_1_3 k_sz_3_1 rfl rfl)) ?_
  refine sgq 18 (B := (r_1 && r_2)) (v := vi m.Cols) rfl rfl (wt_t (gd_of (t := 11) (by kernel_rfl) rfl)) (fun hg9 => (Y_load1 (B := some ⟨b, 0, none⟩) (i := 1) (cs := [vi m.Rows, vi m.Cols, .slice B m.Cells.length c]) (v := vi m.Cols) k_sc_3 rfl (gv_of (B := (r_1 && r_2)) (v := pt (some ⟨b, 0, none⟩) 1) hg9) (hS3.cf (i := 0) rfl) rfl)) ?_
  refine sgq 19 (B := (r_1 && r_2)) (v := vi (i64.wrap (m.Rows * m.Cols))) rfl rfl (wt_t (gd_of (t := 11) (by kernel_rfl) rfl)) (fun hg10 => (Y_mul (k := .i64) (a := m.Rows) (b := m.Cols) rfl (gv_of (B := (r_1 && r_2)) (v := vi m.Rows) hg10) (gv_of (B := (r_1 && r_2)) (v := vi m.Cols) hg10))) ?_
  refine sgq 20 (B := (r_1 && r_2)) (v := .bool ((m.Cells.length : Int) == (i64.wrap (m.Rows * m.Cols)))) rfl rfl (wt_t (gd_of (t := 11) (by kernel_rfl) rfl)) (fun hg11 => (Y_eq (k := .i64) (a := (m.Cells.length : Int)) (b := (i64.wrap (m.Rows * m.Cols))) rfl (gv_of (B := (r_1 && r_2)) (v := vi (m.Cells.length : Int)) hg11) (gv_of (B := (r_1 && r_2)) (v := vi (i64.wrap (m.Rows * m.Cols))) hg11))) ?_
  refine sq 21 rfl rfl (Y_and (b := (r_1 && r_2)) (z := ((m.Cells.length : Int) == (i64.wrap (m.Rows * m.Cols)))) rfl rfl rfl rfl) ?_
  refine sq 22 rfl rfl (Y_move (v := .bool ((r_1 && r_2) && ((m.Cells.length : Int) == (i64.wrap (m.Rows * m.Cols))))) rfl rfl) ?_
  refine sgq 23 (B := ((r_1 && r_2) && ((m.Cells.length : Int) == (i64.wrap (m.Rows * m.Cols))))) (v := pt (some ⟨b, 0, none⟩) 2) rfl rfl (wt_t (gd_of (t := 22) (by kernel_rfl) rfl)) (fun hg12 => (Y_fieldAddr (B := some ⟨b, 0, none⟩) (i := 0) (s := 0) k_fd_32_2_2_26 k_sz_26_1 rfl rfl)) ?_
  refine sgq 24 (B := ((r_1 && r_2) && ((m.Cells.length : Int) == (i64.wrap (m.Rows * m.Cols))))) (v := .slice B m.Cells.length c) rfl rfl (wt_t (gd_of (t := 22) (by kernel_rfl) rfl)) (fun hg13 => (Y_load1 (B := some ⟨b, 0, none⟩) (i := 2) (cs := [vi m.Rows, vi m.Cols, .slice B m.Cells.length c]) (v := .slice B m.Cells.length c) k_sc_26 rfl (gv_of (B := ((r_1 && r_2) && ((m.Cells.length : Int) == (i64.wrap (m.Rows * m.Cols))))) (v := pt (some ⟨b, 0, none⟩) 2) hg13) (hS3.cf (i := 0) rfl) rfl)) ?_
  obtain ⟨r_3, hc2, hF⟩ := bind_inv hF
  refine sgc 25 (B := ((r_1 && r_2) && ((m.Cells.length : Int) == (i64.wrap (m.Rows * m.Cols))))) (v := .bool r_3) (F := hS3.fn) rfl rfl (wt_t (gd_of (t := 22) (by kernel_rfl) rfl)) hS3 (fun hg14 => (Yc_func (g := 59) (vs := [.slice B m.Cells.length c, .func (.func 60) #[] #[]]) k_call_59 rfl (mc (gv_of (B := ((r_1 && r_2) && ((m.Cells.length : Int) == (i64.wrap (m.Rows * m.Cols))))) (v := .slice B m.Cells.length c) hg14) (mc rfl mn)) (CV.mono (c_slices_ContainsFunc_impl_Dyadic_impl_Dyadic m.Cells F_impl_IsValidMatrix_1 B c m.Cells.length 60 (#[]) [] _ rfl k_call_60 (fun w hw x_0 y_0 h_ => c_impl_IsValidMatrix_1 x_0  w  hw h_) (hS3.inn0 [(true, 0)] rfl) (gb_inv hc2 hg14)) (by rintro _ _ ⟨rfl, h⟩; exact ⟨rfl, hS3.out00 h⟩)))) ?_
  rintro w_3 hS4
  have hS4 : ST _ _ w_3 _ _ := hS4
  refine sgq 26 (B := ((r_1 && r_2) && ((m.Cells.length : Int) == (i64.wrap (m.Rows * m.Cols))))) (v := .bool (!r_3)) rfl rfl (wt_t (gd_of (t := 22) (by kernel_rfl) rfl)) (fun hg15 => (Y_not (p := r_3) rfl (gv_of (B := ((r_1 && r_2) && ((m.Cells.length : Int) == (i64.wrap (m.Rows * m.Cols))))) (v := .bool r_3) hg15))) ?_
  refine sq 27 rfl rfl (Y_and (b := ((r_1 && r_2) && ((m.Cells.length : Int) == (i64.wrap (m.Rows * m.Cols))))) (z := (!r_3)) rfl rfl rfl rfl) ?_
  refine sq 2 rfl rfl (Y_assign (v := .bool (((r_1 && r_2) && ((m.Cells.length : Int) == (i64.wrap (m.Rows * m.Cols)))) && (!r_3))) rfl rfl) ?_
  refine rw_nil ?_
  refine cw_ret ?_
  obtain rfl := some_inj hF
  exact ret1 Tryd.results35 (v1 := .bool (((r_1 && r_2) && ((m.Cells.length : Int) == (i64.wrap (m.Rows * m.Cols)))) && (!r_3))) (resAt_tmp rfl) ⟨rfl, (ST.subR (R' := []) (hS4.sel [] rfl rfl) (fun _ h => by cases h))⟩

theorem c_impl_matrixOf (rows : Int) (cols : Int) (cell : Int → Int → Option (TDyadic × Bool)) (kf : Nat) (caps : Array Value) (Rf : List Ro) (w0 : World) (hk : callB Tryd.prog kf = true) (hp : ∀ (w : World), ST w [] w [] Rf → ∀ (x : Int) (x1 : Int) (y1 : TDyadic) (y2 : Bool), cell x x1 = some (y1, y2) → CV Tryd.prog kf ((vi x) :: (vi x1) :: caps.toList).toArray w (fun v w' => v = .tuple #[.agg #[vi y1.Num.A, vi y1.Num.B, vi y1.Num.C, vi y1.Num.D, vi y1.Exp], .bool y2] ∧ ST w [] w' [] [])) (hS : ST w0 [] w0 [] (Rf)) {r_ : TMatrix} {r_1 : Bool} (hF : F_impl_matrixOf rows cols cell = some (r_, r_1)) :
    CV Tryd.prog 37 #[vi rows, vi cols, .func (.func kf) #[] caps] w0 (fun v w' => ∃ (B : Option Addr) (c : Nat), v = .tuple #[.agg #[vi r_.Rows, vi r_.Cols, .slice B r_.Cells.length c], .bool r_1] ∧ ST w0 [] w' [⟨B, 49, (r_.Cells.flatMap enc_Dyadic), c * 5⟩] []) := by
  unfold F_impl_matrixOf at hF
  refine cv_of_cw 52 Tryd.func37 rfl Tryd.ntmps37 rfl ?_
  refine cw_seq ?_
  refine cw_region ?_
  refine ss 6 rfl rfl (Ys_alloc (T := 32) (cs := [vi 0, vi 0, .slice none 0 0]) (m := 3) hS k_zero_32 rfl rfl rfl) ?_
  rintro _ w_ ⟨b, rfl, hS1⟩
  refine sq 7 rfl rfl (Y_assign (v := .bool false) rfl rfl) ?_
  refine rw_nil ?_
  refine cw_seq ?_
  refine cw_region ?_
  refine sq 13 rfl rfl (Y_move (v := vi rows) rfl rfl) ?_
  refine sq 14 rfl rfl (Y_move (v := vi cols) rfl rfl) ?_
  refine sq 15 rfl rfl (Y_buildS (zs := [vi 0, vi 0, .slice none 0 0]) (vs := [(0, vi rows), (1, vi cols)]) (cs := [vi rows, vi cols, .slice none 0 0]) k_pl_32 k_zero_32 rfl (mpc rfl (mpc rfl mpn)) rfl) ?_
  refine ss 8 rfl rfl (Ys_alloc (T := 32) (cs := [vi 0, vi 0, .slice none 0 0]) (m := 3) hS1 k_zero_32 rfl rfl rfl) ?_
  rintro _ w_1 ⟨b1, rfl, hS2⟩
  have hS2 : ST w0 [] _ [⟨some ⟨b, 0, none⟩, 32, [vi 0, vi 0, .slice none 0 0], 3⟩, ⟨some ⟨b1, 0, none⟩, 32, [vi 0, vi 0, .slice none 0 0], 3⟩] (Rf) := hS2
  refine ss0 rfl rfl (Ys_store (i := 1) (s := 3) (B := some ⟨b1, 0, none⟩) (T' := 32) (v := .agg #[vi rows, vi cols, .slice none 0 0]) (vs := [vi rows, vi cols, .slice none 0 0]) (k := 0) (cs' := [vi rows, vi cols, .slice none 0 0]) hS2 k_sz_32_3 rfl rfl rfl rfl rfl rfl rfl (Nat.le_of_ble_eq_true rfl) rfl rfl) ?_
  rintro _ w_2 ⟨rfl, hS3⟩
  have hS3 : ST w0 [] _ [⟨some ⟨b, 0, none⟩, 32, [vi 0, vi 0, .slice none 0 0], 3⟩, ⟨some ⟨b1, 0, none⟩, 32, [vi rows, vi cols, .slice none 0 0], 3⟩] (Rf) := hS3
  refine rw_nil ?_
  refine cw_seq ?_
  refine cw_seq ?_
  refine cw_region ?_
  refine sq 16 rfl rfl (Y_move (v := vi rows) rfl rfl) ?_
  obtain ⟨r_2, hc, hF⟩ := bind_inv hF
  refine sc 17 rfl rfl (Yc_func (g := 58) (vs := [vi rows]) k_call_58 rfl (mc rfl mn) (c_impl_isDim rows _  (hS3.inn0 [] rfl) hc)) ?_
  rintro _ w_3 ⟨rfl, hd⟩
  have hS4 := hS3.out00 hd
  have hS4 : ST w0 [] _ [⟨some ⟨b, 0, none⟩, 32, [vi 0, vi 0, .slice none 0 0], 3⟩, ⟨some ⟨b1, 0, none⟩, 32, [vi rows, vi cols, .slice none 0 0], 3⟩] (Rf) := hS4
  refine sq 18 rfl rfl (Y_not (p := r_2) rfl rfl) ?_
  refine sq 19 rfl rfl (Y_move (v := .bool (!r_2)) rfl rfl) ?_
  refine sgq 20 (B := (!(!r_2))) (v := vi cols) rfl rfl (wt_f (gd_of (t := 19) (by kernel_rfl) rfl)) (fun hg => (Y_move (v := vi cols) rfl rfl)) ?_
  obtain ⟨r_3, hc1, hF⟩ := bind_inv hF
  refine sgc 21 (B := (!(!r_2))) (v := .bool r_3) (F := hS4.fn) rfl rfl (wt_f (gd_of (t := 19) (by kernel_rfl) rfl)) hS4 (fun hg1 => (Yc_func (g := 58) (vs := [vi cols]) k_call_58 rfl (mc (gv_of (B := (!(!r_2))) (v := vi cols) hg1) mn) (CV.mono (c_impl_isDim cols _  (hS4.inn0 [] rfl) (gb_inv hc1 hg1)) (by rintro _ _ ⟨rfl, h⟩; exact ⟨rfl, hS4.out00 h⟩)))) ?_
  rintro w_4 hS5
  have hS5 : ST _ _ w_4 _ _ := hS5
  refine sgq 22 (B := (!(!r_2))) (v := .bool (!r_3)) rfl rfl (wt_f (gd_of (t := 19) (by kernel_rfl) rfl)) (fun hg2 => (Y_not (p := r_3) rfl (gv_of (B := (!(!r_2))) (v := .bool r_3) hg2))) ?_
  refine sq 23 rfl rfl (Y_or (b := (!r_2)) (z := (!r_3)) rfl rfl rfl rfl) ?_
  refine rw_nil ?_
  refine cw_cond (b := ((!r_2) || (!r_3))) rfl (fun hb => ?_) (fun hb => ?_)
  · skip
    have hF1 := ct hF hb
    refine cw_seq ?_
    refine cw_region ?_
    refine sq 24 rfl rfl (Y_buildS (zs := [vi 0, vi 0, .slice none 0 0]) (vs := []) (cs := [vi 0, vi 0, .slice none 0 0]) k_pl_32 k_zero_32 rfl mpn rfl) ?_
    refine ss0 rfl rfl (Ys_store (i := 0) (s := 3) (B := some ⟨b, 0, none⟩) (T' := 32) (v := .agg #[vi 0, vi 0, .slice none 0 0]) (vs := [vi 0, vi 0, .slice none 0 0]) (k := 0) (cs' := [vi 0, vi 0, .slice none 0 0]) hS5 k_sz_32_3 rfl rfl rfl rfl rfl rfl rfl (Nat.le_of_ble_eq_true rfl) rfl rfl) ?_
    rintro _ w_5 ⟨rfl, hS6⟩
    have hS6 : ST w0 [] _ [⟨some ⟨b, 0, none⟩, 32, [vi 0, vi 0, .slice none 0 0], 3⟩, ⟨some ⟨b1, 0, none⟩, 32, [vi rows, vi cols, .slice none 0 0], 3⟩] (Rf) := hS6
    refine sq 7 rfl rfl (Y_assign (v := .bool false) rfl rfl) ?_
    refine rw_nil ?_
    refine cw_ret ?_
    have hS7 := hS6.addNil 49
    obtain ⟨rfl, rfl⟩ := pr2 (some_inj hF1)
    exact ret2 Tryd.results37 (v1 := .agg #[vi 0, vi 0, .slice none 0 0]) (resAt_cellA (B := some ⟨b, 0, none⟩) (i := 0) (cs := [vi 0, vi 0, .slice none 0 0]) (vs := [vi 0, vi 0, .slice none 0 0]) rfl k_ag_32 k_sz_32_3 (hS7.cf (i := 0) rfl) rfl rfl) (v2 := .bool false) (resAt_tmp rfl) ⟨none, 0, rfl, (ST.subR (R' := []) (hS7.sel [2] rfl rfl) (fun _ h => by cases h))⟩
  · skip
    have hF2 := cf' hF hb
    refine cw_skip ?_
    refine cw_seq ?_
    refine cw_seq ?_
    refine cw_region ?_
    refine sq 25 rfl rfl (Y_move (v := vi rows) rfl rfl) ?_
    refine sq 26 rfl rfl (Y_move (v := vi 0) rfl rfl) ?_
    refine rw_nil ?_
    obtain ⟨hN, hF2⟩ := chk_inv hF2
    obtain ⟨z, hz, hF3⟩ := bind_inv hF2
    have hS9 := hS5.addNil 49
    refine cw_block ?_
    refine cw_loop (fun k f w => ∃ (i : Nat) (Cells : List TDyadic) (B1 : Option Addr) (c1 : Nat), FF f [(1, vi cols), (2, .func (.func kf) #[] caps), (6, pt (some ⟨b, 0, none⟩) 0), (8, pt (some ⟨b1, 0, none⟩) 0), (25, vi rows), (26, vi (i : Int))] ∧ ST w0 [] w [⟨some ⟨b, 0, none⟩, 32, [vi 0, vi 0, .slice none 0 0], 3⟩, ⟨some ⟨b1, 0, none⟩, 32, [vi rows, vi cols, .slice B1 Cells.length c1], 3⟩, ⟨B1, 49, (Cells.flatMap enc_Dyadic), c1 * 5⟩] (Rf) ∧ i + k = rows.toNat ∧ forX (F_impl_matrixOf_l1 cols cell) k i Cells = some z) rows.toNat ⟨0, [], none, 0, (FF.cons rfl (FF.cons rfl (FF.cons rfl (FF.cons rfl (FF.cons rfl (FF.cons rfl FF.nil)))))), (hS9.sel [0, 1, 2] rfl rfl), Nat.zero_add _, hz⟩ ?_
    rintro k_ f w ⟨i, Cells, B1, c1, hf, hS8, hik, hL⟩
    refine cw_seq ?_
    refine cw_region ?_
    refine sq 27 rfl rfl (Y_lt (k := .i64) (a := (i : Int)) (b := rows) rfl (hf.get 26 5 rfl) (hf.get 25 4 rfl)) ?_
    refine rw_nil ?_
    refine cw_seq ?_
    refine cw_cond (b := (decide ((i : Int) < rows))) rfl (fun hlt => ?_) (fun hlt => ?_)
    · skip
      have hlt1 : i < rows.toNat := by have h := of_decide_eq_true hlt; omega
      obtain ⟨k_1, rfl⟩ : ∃ k2, k_ = k2 + 1 := ⟨k_ - 1, by omega⟩
      obtain ⟨y3, hb1, hL1⟩ := forX_go hL
      unfold F_impl_matrixOf_l1 at hb1
      refine cw_skip ?_
      refine cw_seq ?_
      refine cw_block ?_
      refine cw_seq ?_
      refine cw_region ?_
      refine sq 28 rfl rfl (Y_move (v := vi (i : Int)) rfl (hf.get 26 5 rfl)) ?_
      refine sq 9 rfl rfl (Y_assign (v := vi (i : Int)) rfl rfl) ?_
      refine rw_nil ?_
      refine cw_seq ?_
      refine cw_region ?_
      refine sq 29 rfl rfl (Y_move (v := vi cols) rfl (hf.get 1 0 rfl)) ?_
      refine sq 30 rfl rfl (Y_move (v := vi 0) rfl rfl) ?_
      refine rw_nil ?_
      obtain ⟨hN1, hb1⟩ := chk_inv hb1
      obtain ⟨z1, hz1, hF4⟩ := bind_inv hb1
      refine cw_block ?_
      refine cw_loop (fun k f w => ∃ (i1 : Nat) (Cells1 : List TDyadic) (B2 : Option Addr) (c2 : Nat), FF f [(1, vi cols), (2, .func (.func kf) #[] caps), (6, pt (some ⟨b, 0, none⟩) 0), (8, pt (some ⟨b1, 0, none⟩) 0), (9, vi (i : Int)), (25, vi rows), (26, vi (i : Int)), (29, vi cols), (30, vi (i1 : Int))] ∧ ST w0 [] w [⟨some ⟨b, 0, none⟩, 32, [vi 0, vi 0, .slice none 0 0], 3⟩, ⟨some ⟨b1, 0, none⟩, 32, [vi rows, vi cols, .slice B2 Cells1.length c2], 3⟩, ⟨B2, 49, (Cells1.flatMap enc_Dyadic), c2 * 5⟩] (Rf) ∧ i1 + k = cols.toNat ∧ forX (F_impl_matrixOf_l2 cell i) k i1 Cells1 = some z1) cols.toNat ⟨0, Cells, B1, c1, (FF.cons (hf.get 1 0 rfl) (FF.cons (hf.get 2 1 rfl) (FF.cons (hf.get 6 2 rfl) (FF.cons (hf.get 8 3 rfl) (FF.cons rfl (FF.cons (hf.get 25 4 rfl) (FF.cons (hf.get 26 5 rfl) (FF.cons rfl (FF.cons rfl FF.nil))))))))), (hS8.sel [0, 1, 2] rfl rfl), Nat.zero_add _, hz1⟩ ?_
      rintro k_2 f w ⟨i1, Cells1, B2, c2, hf1, hS10, hik1, hL2⟩
      refine cw_seq ?_
      refine cw_region ?_
      refine sq 31 rfl rfl (Y_lt (k := .i64) (a := (i1 : Int)) (b := cols) rfl (hf1.get 30 8 rfl) (hf1.get 29 7 rfl)) ?_
      refine rw_nil ?_
      refine cw_seq ?_
      refine cw_cond (b := (decide ((i1 : Int) < cols))) rfl (fun hlt2 => ?_) (fun hlt2 => ?_)
      · skip
        have hlt3 : i1 < cols.toNat := by have h := of_decide_eq_true hlt2; omega
        obtain ⟨k_3, rfl⟩ : ∃ k2, k_2 = k2 + 1 := ⟨k_2 - 1, by omega⟩
        obtain ⟨y4, hb2, hL3⟩ := forX_go hL2
        unfold F_impl_matrixOf_l2 at hb2
        refine cw_skip ?_
        refine cw_seq ?_
        refine cw_block ?_
        refine cw_seq ?_
        refine cw_region ?_
        refine sq 32 rfl rfl (Y_move (v := vi (i1 : Int)) rfl (hf1.get 30 8 rfl)) ?_
        refine sq 10 rfl rfl (Y_assign (v := vi (i1 : Int)) rfl rfl) ?_
        refine rw_nil ?_
        refine cw_seq ?_
        refine cw_region ?_
        refine sq 34 rfl rfl (Y_move (v := .func (.func kf) #[] caps) rfl (hf1.get 2 1 rfl)) ?_
        refine sq 35 rfl rfl (Y_move (v := vi (i : Int)) rfl (hf1.get 9 4 rfl)) ?_
        refine sq 36 rfl rfl (Y_move (v := vi (i1 : Int)) rfl rfl) ?_
        obtain ⟨⟨r_4, r_5⟩, hc2, hb2⟩ := bind_inv hb2
        refine sc 37 rfl rfl (Yc_clos (g := kf) (vs := (vi (i : Int)) :: (vi (i1 : Int)) :: caps.toList) hk rfl rfl (clo_args (mc rfl (mc rfl mn))) (hp _ (hS10.innS (fun _ h => List.mem_of_mem_drop (i := 0) h)) (i : Int) (i1 : Int) r_4 r_5 hc2)) ?_
        rintro _ w_6 ⟨rfl, hd1⟩
        have hS11 := hS10.out00 hd1
        have hS11 : ST w0 [] _ [⟨some ⟨b, 0, none⟩, 32, [vi 0, vi 0, .slice none 0 0], 3⟩, ⟨some ⟨b1, 0, none⟩, 32, [vi rows, vi cols, .slice B2 Cells1.length c2], 3⟩, ⟨B2, 49, (Cells1.flatMap enc_Dyadic), c2 * 5⟩] (Rf) := hS11
        refine sq 33 rfl rfl (Y_move (v := .tuple #[.agg #[vi r_4.Num.A, vi r_4.Num.B, vi r_4.Num.C, vi r_4.Num.D, vi r_4.Exp], .bool r_5]) rfl rfl) ?_
        refine sq 38 rfl rfl (Y_extract (v := .agg #[vi r_4.Num.A, vi r_4.Num.B, vi r_4.Num.C, vi r_4.Num.D, vi r_4.Exp]) rfl rfl rfl) ?_
        refine sq 39 rfl rfl (Y_extract (v := .bool r_5) rfl rfl rfl) ?_
        refine ss 11 rfl rfl (Ys_alloc (T := 49) (cs := [vi 0, vi 0, vi 0, vi 0, vi 0]) (m := 5) hS11 k_zero_49 rfl rfl rfl) ?_
        rintro _ w_7 ⟨b2, rfl, hS12⟩
        have hS12 : ST w0 [] _ [⟨some ⟨b, 0, none⟩, 32, [vi 0, vi 0, .slice none 0 0], 3⟩, ⟨some ⟨b1, 0, none⟩, 32, [vi rows, vi cols, .slice B2 Cells1.length c2], 3⟩, ⟨B2, 49, (Cells1.flatMap enc_Dyadic), c2 * 5⟩, ⟨some ⟨b2, 0, none⟩, 49, [vi 0, vi 0, vi 0, vi 0, vi 0], 5⟩] (Rf) := hS12
        refine ss0 rfl rfl (Ys_store (i := 3) (s := 5) (B := some ⟨b2, 0, none⟩) (T' := 49) (v := .agg #[vi r_4.Num.A, vi r_4.Num.B, vi r_4.Num.C, vi r_4.Num.D, vi r_4.Exp]) (vs := [vi r_4.Num.A, vi r_4.Num.B, vi r_4.Num.C, vi r_4.Num.D, vi r_4.Exp]) (k := 0) (cs' := [vi r_4.Num.A, vi r_4.Num.B, vi r_4.Num.C, vi r_4.Num.D, vi r_4.Exp]) hS12 k_sz_49_5 rfl rfl rfl rfl rfl rfl rfl (Nat.le_of_ble_eq_true rfl) rfl rfl) ?_
        rintro _ w_8 ⟨rfl, hS13⟩
        have hS13 : ST w0 [] _ [⟨some ⟨b, 0, none⟩, 32, [vi 0, vi 0, .slice none 0 0], 3⟩, ⟨some ⟨b1, 0, none⟩, 32, [vi rows, vi cols, .slice B2 Cells1.length c2], 3⟩, ⟨B2, 49, (Cells1.flatMap enc_Dyadic), c2 * 5⟩, ⟨some ⟨b2, 0, none⟩, 49, [vi r_4.Num.A, vi r_4.Num.B, vi r_4.Num.C, vi r_4.Num.D, vi r_4.Exp], 5⟩] (Rf) := hS13
        refine sq 12 rfl rfl (Y_assign (v := .bool r_5) rfl rfl) ?_
        refine rw_nil ?_
        refine cw_seq ?_
        refine cw_seq ?_
        refine cw_region ?_
        refine sq 40 rfl rfl (Y_move (v := .bool r_5) rfl rfl) ?_
        refine sq 41 rfl rfl (Y_not (p := r_5) rfl rfl) ?_
        refine rw_nil ?_
        refine cw_cond (b := (!r_5)) rfl (fun hb3 => ?_) (fun hb3 => ?_)
        · skip
          have hF5 := ct hb2 hb3
          refine cw_seq ?_
          refine cw_region ?_
          refine sq 42 rfl rfl (Y_buildS (zs := [vi 0, vi 0, .slice none 0 0]) (vs := []) (cs := [vi 0, vi 0, .slice none 0 0]) k_pl_32 k_zero_32 rfl mpn rfl) ?_
          refine ss0 rfl rfl (Ys_store (i := 0) (s := 3) (B := some ⟨b, 0, none⟩) (T' := 32) (v := .agg #[vi 0, vi 0, .slice none 0 0]) (vs := [vi 0, vi 0, .slice none 0 0]) (k := 0) (cs' := [vi 0, vi 0, .slice none 0 0]) hS13 k_sz_32_3 rfl (hf1.get 6 2 rfl) rfl rfl rfl rfl rfl (Nat.le_of_ble_eq_true rfl) rfl rfl) ?_
          rintro _ w_9 ⟨rfl, hS14⟩
          have hS14 : ST w0 [] _ [⟨some ⟨b, 0, none⟩, 32, [vi 0, vi 0, .slice none 0 0], 3⟩, ⟨some ⟨b1, 0, none⟩, 32, [vi rows, vi cols, .slice B2 Cells1.length c2], 3⟩, ⟨B2, 49, (Cells1.flatMap enc_Dyadic), c2 * 5⟩, ⟨some ⟨b2, 0, none⟩, 49, [vi r_4.Num.A, vi r_4.Num.B, vi r_4.Num.C, vi r_4.Num.D, vi r_4.Exp], 5⟩] (Rf) := hS14
          refine sq 7 rfl rfl (Y_assign (v := .bool false) rfl rfl) ?_
          refine rw_nil ?_
          refine cw_ret ?_
          have hS15 := hS14.addNil 49
          obtain rfl := some_inj hF5
          obtain rfl := some_inj hL3
          obtain rfl := some_inj hF4
          obtain rfl := some_inj hL1
          obtain ⟨rfl, rfl⟩ := pr2 (some_inj hF3)
          exact ret2 Tryd.results37 (v1 := .agg #[vi 0, vi 0, .slice none 0 0]) (resAt_cellA (B := some ⟨b, 0, none⟩) (i := 0) (cs := [vi 0, vi 0, .slice none 0 0]) (vs := [vi 0, vi 0, .slice none 0 0]) (hf1.get 6 2 rfl) k_ag_32 k_sz_32_3 (hS15.cf (i := 0) rfl) rfl rfl) (v2 := .bool false) (resAt_tmp rfl) ⟨none, 0, rfl, (ST.subR (R' := []) (hS15.sel [4] rfl rfl) (fun _ h => by cases h))⟩
        · skip
          have hF6 := cf' hb2 hb3
          refine cw_skip ?_
          refine cw_region ?_
          refine sq 43 rfl rfl (Y_fieldAddr (B := some ⟨b1, 0, none⟩) (i := 0) (s := 0) k_fd_32_2_2_26 k_sz_26_1 rfl (hf1.get 8 3 rfl)) ?_
          refine sq 44 rfl rfl (Y_load1 (B := some ⟨b1, 0, none⟩) (i := 2) (cs := [vi rows, vi cols, .slice B2 Cells1.length c2]) (v := .slice B2 Cells1.length c2) k_sc_26 rfl rfl (hS13.cf (i := 1) rfl) rfl) ?_
          refine sq 45 rfl rfl (Y_loadA (B := some ⟨b2, 0, none⟩) (i := 0) (cs := [vi r_4.Num.A, vi r_4.Num.B, vi r_4.Num.C, vi r_4.Num.D, vi r_4.Exp]) (vs := [vi r_4.Num.A, vi r_4.Num.B, vi r_4.Num.C, vi r_4.Num.D, vi r_4.Exp]) k_ag_49 k_sz_49_5 rfl rfl (hS13.cf (i := 3) rfl) rfl rfl) ?_
          refine ss 46 rfl rfl (Ys_bslice (s := 5) (len := 1) (vs := [(0, .agg #[vi r_4.Num.A, vi r_4.Num.B, vi r_4.Num.C, vi r_4.Num.D, vi r_4.Exp])]) (cs := [vi r_4.Num.A, vi r_4.Num.B, vi r_4.Num.C, vi r_4.Num.D, vi r_4.Exp]) (zs := [vi 0, vi 0, vi 0, vi 0, vi 0]) (m := 5) hS13 k_sl_26_49 k_sz_49_5 k_zc_49 rfl (mpc rfl mpn) rfl rfl rfl (by kernel_rfl) (by kernel_rfl) rfl) ?_
          rintro _ w_10 ⟨b3, rfl, hS16⟩
          have hS16 : ST w0 [] _ [⟨some ⟨b, 0, none⟩, 32, [vi 0, vi 0, .slice none 0 0], 3⟩, ⟨some ⟨b1, 0, none⟩, 32, [vi rows, vi cols, .slice B2 Cells1.length c2], 3⟩, ⟨B2, 49, (Cells1.flatMap enc_Dyadic), c2 * 5⟩, ⟨some ⟨b2, 0, none⟩, 49, [vi r_4.Num.A, vi r_4.Num.B, vi r_4.Num.C, vi r_4.Num.D, vi r_4.Exp], 5⟩, ⟨some ⟨b3, 0, none⟩, 49, ([r_4].flatMap enc_Dyadic), 1 * 5⟩] (Rf) := hS16
          obtain ⟨hap, hF6⟩ := chk_inv hF6
          refine ss 47 rfl rfl (Ys_append (s := 5) (by' := 40) (i := 2) (nn := Cells1.length) (c := c2) (k := 1) (len := (Cells1 ++ [r_4]).length) (B := B2) (xs := ([r_4].flatMap enc_Dyadic)) (cs' := ((Cells1 ++ [r_4]).flatMap enc_Dyadic)) hS16 k_sl_26_49 k_sz_49_5 k_by_49_40 k_zero_49 rfl (by decide) rfl rfl rfl rfl (fm_lenn (l := Cells1) enc_Dyadic_len rfl) rfl (hS16.cf (i := 4) rfl) (fm_lenn (l := [r_4]) enc_Dyadic_len rfl) (fm_one' (enc := enc_Dyadic) enc_Dyadic_one [r_4]) (by have := hap; omega) (by have := hap; simp only [maxLen]; omega) (fm_app _ _) (app_len (l := Cells1) (l' := [r_4]) rfl rfl)) ?_
          rintro _ w_11 ⟨B3, c3, rfl, hS17⟩
          have hS17 : ST w0 [] _ [⟨some ⟨b, 0, none⟩, 32, [vi 0, vi 0, .slice none 0 0], 3⟩, ⟨some ⟨b1, 0, none⟩, 32, [vi rows, vi cols, .slice B2 Cells1.length c2], 3⟩, ⟨B3, 49, ((Cells1 ++ [r_4]).flatMap enc_Dyadic), c3 * 5⟩, ⟨some ⟨b2, 0, none⟩, 49, [vi r_4.Num.A, vi r_4.Num.B, vi r_4.Num.C, vi r_4.Num.D, vi r_4.Exp], 5⟩, ⟨some ⟨b3, 0, none⟩, 49, ([r_4].flatMap enc_Dyadic), 1 * 5⟩] (Rf) := hS17
          refine sq 48 rfl rfl (Y_fieldAddr (B := some ⟨b1, 0, none⟩) (i := 0) (s := 0) k_fd_32_2_2_26 k_sz_26_1 rfl (hf1.get 8 3 rfl)) ?_
          refine ss0 rfl rfl (Ys_store (i := 1) (s := 1) (B := some ⟨b1, 0, none⟩) (T' := 32) (v := .slice B3 ((Cells1 ++ [r_4]).length) c3) (vs := [.slice B3 ((Cells1 ++ [r_4]).length) c3]) (k := 2) (cs' := [vi rows, vi cols, .slice B3 ((Cells1 ++ [r_4]).length) c3]) hS17 k_sz_26_1 rfl rfl rfl rfl rfl rfl rfl (Nat.le_of_ble_eq_true rfl) rfl rfl) ?_
          rintro _ w_12 ⟨rfl, hS18⟩
          have hS18 : ST w0 [] _ [⟨some ⟨b, 0, none⟩, 32, [vi 0, vi 0, .slice none 0 0], 3⟩, ⟨some ⟨b1, 0, none⟩, 32, [vi rows, vi cols, .slice B3 ((Cells1 ++ [r_4]).length) c3], 3⟩, ⟨B3, 49, ((Cells1 ++ [r_4]).flatMap enc_Dyadic), c3 * 5⟩, ⟨some ⟨b2, 0, none⟩, 49, [vi r_4.Num.A, vi r_4.Num.B, vi r_4.Num.C, vi r_4.Num.D, vi r_4.Exp], 5⟩, ⟨some ⟨b3, 0, none⟩, 49, ([r_4].flatMap enc_Dyadic), 1 * 5⟩] (Rf) := hS18
          refine rw_nil ?_
          refine cw_region ?_
          refine sq 49 rfl rfl (Y_add (k := .i64) (a := (i1 : Int)) (b := 1) rfl (hf1.get 30 8 rfl) rfl) ?_
          refine sq 30 rfl rfl (Y_move (v := vi (i64.wrap ((i1 : Int) + 1))) rfl rfl) ?_
          refine rw_nil ?_
          obtain rfl := some_inj hF6
          exact ⟨k_3, Nat.lt_succ_self _, i1 + 1, (Cells1 ++ [r_4]), B3, c3, (FF.cons (hf1.get 1 0 rfl) (FF.cons (hf1.get 2 1 rfl) (FF.cons (hf1.get 6 2 rfl) (FF.cons (hf1.get 8 3 rfl) (FF.cons (hf1.get 9 4 rfl) (FF.cons (hf1.get 25 5 rfl) (FF.cons (hf1.get 26 6 rfl) (FF.cons (hf1.get 29 7 rfl) (FF.cons (congrArg (Value.int .i64) (wr_succ hlt3 hN1)) FF.nil))))))))), (hS18.sel [0, 1, 2] rfl rfl), (by omega), hL3⟩
      · skip
        obtain rfl : k_2 = 0 := by have h := of_decide_eq_false hlt2; omega
        refine cw_exit rfl ?_
        obtain rfl := some_inj hL2
        refine cw_region ?_
        refine sq 50 rfl rfl (Y_add (k := .i64) (a := (i : Int)) (b := 1) rfl (hf1.get 26 6 rfl) rfl) ?_
        refine sq 26 rfl rfl (Y_move (v := vi (i64.wrap ((i : Int) + 1))) rfl rfl) ?_
        refine rw_nil ?_
        obtain rfl := some_inj hF4
        exact ⟨k_1, Nat.lt_succ_self _, i + 1, Cells1, B2, c2, (FF.cons (hf1.get 1 0 rfl) (FF.cons (hf1.get 2 1 rfl) (FF.cons (hf1.get 6 2 rfl) (FF.cons (hf1.get 8 3 rfl) (FF.cons (hf1.get 25 5 rfl) (FF.cons (congrArg (Value.int .i64) (wr_succ hlt1 hN)) FF.nil)))))), (hS10.sel [0, 1, 2] rfl rfl), (by omega), hL1⟩
    · skip
      obtain rfl : k_ = 0 := by have h := of_decide_eq_false hlt; omega
      refine cw_exit rfl ?_
      obtain rfl := some_inj hL
      refine cw_seq ?_
      refine cw_region ?_
      refine sq 51 rfl rfl (Y_loadA (B := some ⟨b1, 0, none⟩) (i := 0) (cs := [vi rows, vi cols, .slice B1 Cells.length c1]) (vs := [vi rows, vi cols, .slice B1 Cells.length c1]) k_ag_32 k_sz_32_3 rfl (hf.get 8 3 rfl) (hS8.cf (i := 1) rfl) rfl rfl) ?_
      refine ss0 rfl rfl (Ys_store (i := 0) (s := 3) (B := some ⟨b, 0, none⟩) (T' := 32) (v := .agg #[vi rows, vi cols, .slice B1 Cells.length c1]) (vs := [vi rows, vi cols, .slice B1 Cells.length c1]) (k := 0) (cs' := [vi rows, vi cols, .slice B1 Cells.length c1]) hS8 k_sz_32_3 rfl (hf.get 6 2 rfl) rfl rfl rfl rfl rfl (Nat.le_of_ble_eq_true rfl) rfl rfl) ?_
      rintro _ w_13 ⟨rfl, hS19⟩
      have hS19 : ST w0 [] _ [⟨some ⟨b, 0, none⟩, 32, [vi rows, vi cols, .slice B1 Cells.length c1], 3⟩, ⟨some ⟨b1, 0, none⟩, 32, [vi rows, vi cols, .slice B1 Cells.length c1], 3⟩, ⟨B1, 49, (Cells.flatMap enc_Dyadic), c1 * 5⟩] (Rf) := hS19
      refine sq 7 rfl rfl (Y_assign (v := .bool true) rfl rfl) ?_
      refine rw_nil ?_
      refine cw_ret ?_
      obtain ⟨rfl, rfl⟩ := pr2 (some_inj hF3)
      exact ret2 Tryd.results37 (v1 := .agg #[vi rows, vi cols, .slice B1 Cells.length c1]) (resAt_cellA (B := some ⟨b, 0, none⟩) (i := 0) (cs := [vi rows, vi cols, .slice B1 Cells.length c1]) (vs := [vi rows, vi cols, .slice B1 Cells.length c1]) (hf.get 6 2 rfl) k_ag_32 k_sz_32_3 (hS19.cf (i := 0) rfl) rfl rfl) (v2 := .bool true) (resAt_tmp rfl) ⟨B1, c1, rfl, (ST.subR (R' := []) (hS19.sel [2] rfl rfl) (fun _ h => by cases h))⟩

theorem c_impl_ringIf (out : TRing) (args : List TRing) (B : Option Addr) (c n : Nat) (w0 : World) (hn : args.length = n) (hS : ST w0 (bl [⟨B, 47, (args.flatMap enc_Ring), c * 4⟩]) w0 [⟨B, 47, (args.flatMap enc_Ring), c * 4⟩] []) {r_ : TRing} {r_1 : Bool} (hF : F_impl_ringIf out args = some (r_, r_1)) :
    CV Tryd.prog 94 #[.agg #[vi out.A, vi out.B, vi out.C, vi out.D], .slice B n c] w0 (fun v w' => v = .tuple #[.agg #[vi r_.A, vi r_.B, vi r_.C, vi r_.D], .bool r_1] ∧ ST w0 (bl [⟨B, 47, (args.flatMap enc_Ring), c * 4⟩]) w' [] []) := by
  subst hn
  unfold F_impl_ringIf at hF
  refine cv_of_cw 23 Tryd.func94 rfl Tryd.ntmps94 rfl ?_
  refine cw_seq ?_
  refine cw_region ?_
  refine ss 2 rfl rfl (Ys_box (T := 47) (v := .agg #[vi out.A, vi out.B, vi out.C, vi out.D]) (cs := [vi out.A, vi out.B, vi out.C, vi out.D]) (m := 4) hS rfl rfl rfl rfl) ?_
  rintro _ w_ ⟨b, rfl, hS1⟩
  have hS1 : ST w0 (bl [⟨B, 47, (args.flatMap enc_Ring), c * 4⟩]) _ [⟨B, 47, (args.flatMap enc_Ring), c * 4⟩, ⟨some ⟨b, 0, none⟩, 47, [vi out.A, vi out.B, vi out.C, vi out.D], 4⟩] [] := hS1
  refine ss 4 rfl rfl (Ys_alloc (T := 47) (cs := [vi 0, vi 0, vi 0, vi 0]) (m := 4) hS1 k_zero_47 rfl rfl rfl) ?_
  rintro _ w_1 ⟨b1, rfl, hS2⟩
  have hS2 : ST w0 (bl [⟨B, 47, (args.flatMap enc_Ring), c * 4⟩]) _ [⟨B, 47, (args.flatMap enc_Ring), c * 4⟩, ⟨some ⟨b, 0, none⟩, 47, [vi out.A, vi out.B, vi out.C, vi out.D], 4⟩, ⟨some ⟨b1, 0, none⟩, 47, [vi 0, vi 0, vi 0, vi 0], 4⟩] [] := hS2
  refine sq 5 rfl rfl (Y_assign (v := .bool false) rfl rfl) ?_
  refine rw_nil ?_
  refine cw_seq ?_
  refine cw_seq ?_
  refine cw_region ?_
  refine sq 8 rfl rfl (Y_move (v := .slice B args.length c) rfl rfl) ?_
  refine sq 9 rfl rfl (Y_loadA (B := some ⟨b, 0, none⟩) (i := 0) (cs := [vi out.A, vi out.B, vi out.C, vi out.D]) (vs := [vi out.A, vi out.B, vi out.C, vi out.D]) k_ag_47 k_sz_47_4 rfl rfl (hS2.cf (i := 1) rfl) rfl rfl) ?_
  refine ss 10 rfl rfl (Ys_bslice (s := 4) (len := 1) (vs := [(0, .agg #[vi out.A, vi out.B, vi out.C, vi out.D])]) (cs := [vi out.A, vi out.B, vi out.C, vi out.D]) (zs := [vi 0, vi 0, vi 0, vi 0]) (m := 4) hS2 k_sl_113_47 k_sz_47_4 k_zc_47 rfl (mpc rfl mpn) rfl rfl rfl (by kernel_rfl) (by kernel_rfl) rfl) ?_
  rintro _ w_2 ⟨b2, rfl, hS3⟩
  have hS3 : ST w0 (bl [⟨B, 47, (args.flatMap enc_Ring), c * 4⟩]) _ [⟨B, 47, (args.flatMap enc_Ring), c * 4⟩, ⟨some ⟨b, 0, none⟩, 47, [vi out.A, vi out.B, vi out.C, vi out.D], 4⟩, ⟨some ⟨b1, 0, none⟩, 47, [vi 0, vi 0, vi 0, vi 0], 4⟩, ⟨some ⟨b2, 0, none⟩, 47, ([out].flatMap enc_Ring), 1 * 4⟩] [] := hS3
  obtain ⟨hap, hF⟩ := chk_inv hF
  refine ss 11 rfl rfl (Ys_append (s := 4) (by' := 32) (i := 0) (nn := args.length) (c := c) (k := 1) (len := (args ++ [out]).length) (B := B) (xs := ([out].flatMap enc_Ring)) (cs' := ((args ++ [out]).flatMap enc_Ring)) hS3 k_sl_113_47 k_sz_47_4 k_by_47_32 k_zero_47 rfl (by decide) rfl rfl rfl rfl (fm_lenn (l := args) enc_Ring_len rfl) rfl (hS3.cf (i := 3) rfl) (fm_lenn (l := [out]) enc_Ring_len rfl) (fm_one' (enc := enc_Ring) enc_Ring_one [out]) (by have := hap; omega) (by have := hap; simp only [maxLen]; omega) (fm_app _ _) (app_len (l := args) (l' := [out]) rfl rfl)) ?_
  rintro _ w_3 ⟨B1, c1, rfl, hS4⟩
  have hS4 : ST w0 (bl [⟨B, 47, (args.flatMap enc_Ring), c * 4⟩]) _ [⟨B1, 47, ((args ++ [out]).flatMap enc_Ring), c1 * 4⟩, ⟨some ⟨b, 0, none⟩, 47, [vi out.A, vi out.B, vi out.C, vi out.D], 4⟩, ⟨some ⟨b1, 0, none⟩, 47, [vi 0, vi 0, vi 0, vi 0], 4⟩, ⟨some ⟨b2, 0, none⟩, 47, ([out].flatMap enc_Ring), 1 * 4⟩] [] := hS4
  refine sq 12 rfl rfl (Y_len (B := B1) (m := (args ++ [out]).length) (c := c1) k_sl_113_47 rfl rfl) ?_
  refine sq 13 rfl rfl (Y_move (v := vi 0) rfl rfl) ?_
  refine rw_nil ?_
  obtain ⟨hN, hF⟩ := chk_inv hF
  obtain ⟨z, hz, hF1⟩ := bind_inv hF
  refine cw_block ?_
  refine cw_loop (fun k f w => ∃ (i : Nat), FF f [(2, pt (some ⟨b, 0, none⟩) 0), (4, pt (some ⟨b1, 0, none⟩) 0), (11, .slice B1 ((args ++ [out]).length) c1), (12, vi ((args ++ [out]).length : Int)), (13, vi (i : Int))] ∧ ST w0 (bl [⟨B, 47, (args.flatMap enc_Ring), c * 4⟩]) w [⟨some ⟨b, 0, none⟩, 47, [vi out.A, vi out.B, vi out.C, vi out.D], 4⟩, ⟨some ⟨b1, 0, none⟩, 47, [vi 0, vi 0, vi 0, vi 0], 4⟩, ⟨B1, 47, ((args ++ [out]).flatMap enc_Ring), c1 * 4⟩] [] ∧ i + k = (args ++ [out]).length ∧ forX (F_impl_ringIf_l1 args out) k i () = some z) ((args ++ [out]).length) ⟨0, (FF.cons rfl (FF.cons rfl (FF.cons rfl (FF.cons rfl (FF.cons rfl FF.nil))))), (hS4.sel [1, 2, 0] rfl rfl), Nat.zero_add _, hz⟩ ?_
  rintro k_ f w ⟨i, hf, hS5, hik, hL⟩
  refine cw_seq ?_
  refine cw_region ?_
  refine sq 14 rfl rfl (Y_lt (k := .i64) (a := (i : Int)) (b := ((args ++ [out]).length : Int)) rfl (hf.get 13 4 rfl) (hf.get 12 3 rfl)) ?_
  refine rw_nil ?_
  refine cw_seq ?_
  refine cw_cond (b := (decide ((i : Int) < ((args ++ [out]).length : Int)))) rfl (fun hlt => ?_) (fun hlt => ?_)
  · skip
    have hlt1 : i < (args ++ [out]).length := by have h := of_decide_eq_true hlt; omega
    obtain ⟨k_1, rfl⟩ : ∃ k2, k_ = k2 + 1 := ⟨k_ - 1, by omega⟩
    obtain ⟨y, hb, hL1⟩ := forX_go hL
    unfold F_impl_ringIf_l1 at hb
    refine cw_skip ?_
    refine cw_seq ?_
    refine cw_block ?_
    refine cw_seq ?_
    refine cw_region ?_
    obtain ⟨x, hx, hb⟩ := bind_inv hb
    refine sq 15 rfl rfl (Y_index (B := B1) (m := (args ++ [out]).length) (c := c1) (k := .i64) (i := (i : Int)) k_sl_113_47 k_sz_47_4 rfl (hf.get 11 2 rfl) (hf.get 13 4 rfl) (gi_isSome enc_Ring_len rfl (hS5.cf (i := 2) rfl) hx) (getI_nn hx) (getI_ltI hx rfl)) ?_
    refine sq 16 rfl rfl (Y_loadA (B := B1) (i := (i : Int).toNat * 4) (cs := ((args ++ [out]).flatMap enc_Ring)) (vs := [vi x.A, vi x.B, vi x.C, vi x.D]) k_ag_47 k_sz_47_4 rfl rfl (hS5.cf (i := 2) rfl) (enc_Ring_len x) (gi_seg enc_Ring_len hx)) ?_
    refine ss 7 rfl rfl (Ys_alloc (T := 47) (cs := [vi 0, vi 0, vi 0, vi 0]) (m := 4) hS5 k_zero_47 rfl rfl rfl) ?_
    rintro _ w_4 ⟨b3, rfl, hS6⟩
    have hS6 : ST w0 (bl [⟨B, 47, (args.flatMap enc_Ring), c * 4⟩]) _ [⟨some ⟨b, 0, none⟩, 47, [vi out.A, vi out.B, vi out.C, vi out.D], 4⟩, ⟨some ⟨b1, 0, none⟩, 47, [vi 0, vi 0, vi 0, vi 0], 4⟩, ⟨B1, 47, ((args ++ [out]).flatMap enc_Ring), c1 * 4⟩, ⟨some ⟨b3, 0, none⟩, 47, [vi 0, vi 0, vi 0, vi 0], 4⟩] [] := hS6
    refine ss0 rfl rfl (Ys_store (i := 3) (s := 4) (B := some ⟨b3, 0, none⟩) (T' := 47) (v := .agg #[vi x.A, vi x.B, vi x.C, vi x.D]) (vs := [vi x.A, vi x.B, vi x.C, vi x.D]) (k := 0) (cs' := [vi x.A, vi x.B, vi x.C, vi x.D]) hS6 k_sz_47_4 rfl rfl rfl rfl rfl rfl rfl (Nat.le_of_ble_eq_true rfl) rfl rfl) ?_
    rintro _ w_5 ⟨rfl, hS7⟩
    have hS7 : ST w0 (bl [⟨B, 47, (args.flatMap enc_Ring), c * 4⟩]) _ [⟨some ⟨b, 0, none⟩, 47, [vi out.A, vi out.B, vi out.C, vi out.D], 4⟩, ⟨some ⟨b1, 0, none⟩, 47, [vi 0, vi 0, vi 0, vi 0], 4⟩, ⟨B1, 47, ((args ++ [out]).flatMap enc_Ring), c1 * 4⟩, ⟨some ⟨b3, 0, none⟩, 47, [vi x.A, vi x.B, vi x.C, vi x.D], 4⟩] [] := hS7
    refine rw_nil ?_
    refine cw_seq ?_
    refine cw_region ?_
    refine sq 17 rfl rfl (Y_loadA (B := some ⟨b3, 0, none⟩) (i := 0) (cs := [vi x.A, vi x.B, vi x.C, vi x.D]) (vs := [vi x.A, vi x.B, vi x.C, vi x.D]) k_ag_47 k_sz_47_4 rfl rfl (hS7.cf (i := 3) rfl) rfl rfl) ?_
    obtain ⟨r_2, hc, hb⟩ := bind_inv hb
    refine sc 18 rfl rfl (Yc_func (g := 89) (vs := [.agg #[vi x.A, vi x.B, vi x.C, vi x.D]]) k_call_89 rfl (mc rfl mn) (c_impl_IsValidRing x _  (hS7.inn0 [] rfl) hc)) ?_
    rintro _ w_6 ⟨rfl, hd⟩
    have hS8 := hS7.out00 hd
    have hS8 : ST w0 (bl [⟨B, 47, (args.flatMap enc_Ring), c * 4⟩]) _ [⟨some ⟨b, 0, none⟩, 47, [vi out.A, vi out.B, vi out.C, vi out.D], 4⟩, ⟨some ⟨b1, 0, none⟩, 47, [vi 0, vi 0, vi 0, vi 0], 4⟩, ⟨B1, 47, ((args ++ [out]).flatMap enc_Ring), c1 * 4⟩, ⟨some ⟨b3, 0, none⟩, 47, [vi x.A, vi x.B, vi x.C, vi x.D], 4⟩] [] := hS8
    refine sq 19 rfl rfl (Y_not (p := r_2) rfl rfl) ?_
    refine rw_nil ?_
    refine cw_cond (b := (!r_2)) rfl (fun hb1 => ?_) (fun hb1 => ?_)
    · skip
      have hF2 := ct hb hb1
      refine cw_seq ?_
      refine cw_region ?_
      refine sq 20 rfl rfl (Y_buildS (zs := [vi 0, vi 0, vi 0, vi 0]) (vs := []) (cs := [vi 0, vi 0, vi 0, vi 0]) k_pl_47 k_zero_47 rfl mpn rfl) ?_
      refine ss0 rfl rfl (Ys_store (i := 1) (s := 4) (B := some ⟨b1, 0, none⟩) (T' := 47) (v := .agg #[vi 0, vi 0, vi 0, vi 0]) (vs := [vi 0, vi 0, vi 0, vi 0]) (k := 0) (cs' := [vi 0, vi 0, vi 0, vi 0]) hS8 k_sz_47_4 rfl (hf.get 4 1 rfl) rfl rfl rfl rfl rfl (Nat.le_of_ble_eq_true rfl) rfl rfl) ?_
      rintro _ w_7 ⟨rfl, hS9⟩
      have hS9 : ST w0 (bl [⟨B, 47, (args.flatMap enc_Ring), c * 4⟩]) _ [⟨some ⟨b, 0, none⟩, 47, [vi out.A, vi out.B, vi out.C, vi out.D], 4⟩, ⟨some ⟨b1, 0, none⟩, 47, [vi 0, vi 0, vi 0, vi 0], 4⟩, ⟨B1, 47, ((args ++ [out]).flatMap enc_Ring), c1 * 4⟩, ⟨some ⟨b3, 0, none⟩, 47, [vi x.A, vi x.B, vi x.C, vi x.D], 4⟩] [] := hS9
      refine sq 5 rfl rfl (Y_assign (v := .bool false) rfl rfl) ?_
      refine rw_nil ?_
      refine cw_ret ?_
      obtain rfl := some_inj hF2
      obtain rfl := some_inj hL1
      obtain ⟨rfl, rfl⟩ := pr2 (some_inj hF1)
      exact ret2 Tryd.results94 (v1 := .agg #[vi 0, vi 0, vi 0, vi 0]) (resAt_cellA (B := some ⟨b1, 0, none⟩) (i := 0) (cs := [vi 0, vi 0, vi 0, vi 0]) (vs := [vi 0, vi 0, vi 0, vi 0]) (hf.get 4 1 rfl) k_ag_47 k_sz_47_4 (hS9.cf (i := 1) rfl) rfl rfl) (v2 := .bool false) (resAt_tmp rfl) ⟨rfl, (ST.subR (R' := []) (hS9.sel [] rfl rfl) (fun _ h => by cases h))⟩
    · skip
      have hF3 := cf' hb hb1
      refine cw_skip ?_
      refine cw_region ?_
      refine sq 21 rfl rfl (Y_add (k := .i64) (a := (i : Int)) (b := 1) rfl (hf.get 13 4 rfl) rfl) ?_
      refine sq 13 rfl rfl (Y_move (v := vi (i64.wrap ((i : Int) + 1))) rfl rfl) ?_
      refine rw_nil ?_
      obtain rfl := some_inj hF3
      exact ⟨k_1, Nat.lt_succ_self _, i + 1, (FF.cons (hf.get 2 0 rfl) (FF.cons (hf.get 4 1 rfl) (FF.cons (hf.get 11 2 rfl) (FF.cons (hf.get 12 3 rfl) (FF.cons (congrArg (Value.int .i64) (wr_succ hlt1 hN)) FF.nil))))), (hS8.sel [0, 1, 2] rfl rfl), (by omega), hL1⟩
  · skip
    obtain rfl : k_ = 0 := by have h := of_decide_eq_false hlt; omega
    refine cw_exit rfl ?_
    obtain rfl := some_inj hL
    refine cw_seq ?_
    refine cw_region ?_
    refine sq 22 rfl rfl (Y_loadA (B := some ⟨b, 0, none⟩) (i := 0) (cs := [vi out.A, vi out.B, vi out.C, vi out.D]) (vs := [vi out.A, vi out.B, vi out.C, vi out.D]) k_ag_47 k_sz_47_4 rfl (hf.get 2 0 rfl) (hS5.cf (i := 0) rfl) rfl rfl) ?_
    refine ss0 rfl rfl (Ys_store (i := 1) (s := 4) (B := some ⟨b1, 0, none⟩) (T' := 47) (v := .agg #[vi out.A, vi out.B, vi out.C, vi out.D]) (vs := [vi out.A, vi out.B, vi out.C, vi out.D]) (k := 0) (cs' := [vi out.A, vi out.B, vi out.C, vi out.D]) hS5 k_sz_47_4 rfl (hf.get 4 1 rfl) rfl rfl rfl rfl rfl (Nat.le_of_ble_eq_true rfl) rfl rfl) ?_
    rintro _ w_8 ⟨rfl, hS10⟩
    have hS10 : ST w0 (bl [⟨B, 47, (args.flatMap enc_Ring), c * 4⟩]) _ [⟨some ⟨b, 0, none⟩, 47, [vi out.A, vi out.B, vi out.C, vi out.D], 4⟩, ⟨some ⟨b1, 0, none⟩, 47, [vi out.A, vi out.B, vi out.C, vi out.D], 4⟩, ⟨B1, 47, ((args ++ [out]).flatMap enc_Ring), c1 * 4⟩] [] := hS10
    refine sq 5 rfl rfl (Y_assign (v := .bool true) rfl rfl) ?_
    refine rw_nil ?_
    refine cw_ret ?_
    obtain ⟨rfl, rfl⟩ := pr2 (some_inj hF1)
    exact ret2 Tryd.results94 (v1 := .agg #[vi out.A, vi out.B, vi out.C, vi out.D]) (resAt_cellA (B := some ⟨b1, 0, none⟩) (i := 0) (cs := [vi out.A, vi out.B, vi out.C, vi out.D]) (vs := [vi out.A, vi out.B, vi out.C, vi out.D]) (hf.get 4 1 rfl) k_ag_47 k_sz_47_4 (hS10.cf (i := 1) rfl) rfl rfl) (v2 := .bool true) (resAt_tmp rfl) ⟨rfl, (ST.subR (R' := []) (hS10.sel [] rfl rfl) (fun _ h => by cases h))⟩

theorem c_impl_Conjugate (x : TRing)  (w0 : World)  (hS : ST w0 [] w0 [] []) {r_ : TRing} {r_1 : Bool} (hF : F_impl_Conjugate x = some (r_, r_1)) :
    CV Tryd.prog 64 #[.agg #[vi x.A, vi x.B, vi x.C, vi x.D]] w0 (fun v w' => v = .tuple #[.agg #[vi r_.A, vi r_.B, vi r_.C, vi r_.D], .bool r_1] ∧ ST w0 [] w' [] []) := by
  unfold F_impl_Conjugate at hF
  refine cv_of_cw 21 Tryd.func64 rfl Tryd.ntmps64 rfl ?_
  refine cw_seq ?_
  refine cw_region ?_
  refine ss 1 rfl rfl (Ys_box (T := 47) (v := .agg #[vi x.A, vi x.B, vi x.C, vi x.D]) (cs := [vi x.A, vi x.B, vi x.C, vi x.D]) (m := 4) hS rfl rfl rfl rfl) ?_
  rintro _ w_ ⟨b, rfl, hS1⟩
  refine ss 2 rfl rfl (Ys_alloc (T := 47) (cs := [vi 0, vi 0, vi 0, vi 0]) (m := 4) hS1 k_zero_47 rfl rfl rfl) ?_
  rintro _ w_1 ⟨b1, rfl, hS2⟩
  have hS2 : ST w0 [] _ [⟨some ⟨b, 0, none⟩, 47, [vi x.A, vi x.B, vi x.C, vi x.D], 4⟩, ⟨some ⟨b1, 0, none⟩, 47, [vi 0, vi 0, vi 0, vi 0], 4⟩] [] := hS2
  refine sq 3 rfl rfl (Y_assign (v := .bool false) rfl rfl) ?_
  refine rw_nil ?_
  refine cw_seq ?_
  refine cw_region ?_
  refine sq 4 rfl rfl (Y_fieldAddr (B := some ⟨b, 0, none⟩) (i := 0) (s := 0) k_fd_47_0_0_3 k_sz_3_1 rfl rfl) ?_
  refine sq 5 rfl rfl (Y_load1 (B := some ⟨b, 0, none⟩) (i := 0) (cs := [vi x.A, vi x.B, vi x.C, vi x.D]) (v := vi x.A) k_sc_3 rfl rfl (hS2.cf (i := 0) rfl) rfl) ?_
  refine sq 6 rfl rfl (Y_fieldAddr (B := some ⟨b, 0, none⟩) (i := 0) (s := 0) k_fd_47_3_3_3 k_sz_3_1 rfl rfl) ?_
  refine sq 7 rfl rfl (Y_load1 (B := some ⟨b, 0, none⟩) (i := 3) (cs := [vi x.A, vi x.B, vi x.C, vi x.D]) (v := vi x.D) k_sc_3 rfl rfl (hS2.cf (i := 0) rfl) rfl) ?_
  refine sq 8 rfl rfl (Y_neg (k := .i64) (a := x.D) rfl rfl) ?_
  refine sq 9 rfl rfl (Y_fieldAddr (B := some ⟨b, 0, none⟩) (i := 0) (s := 0) k_fd_47_2_2_3 k_sz_3_1 rfl rfl) ?_
  refine sq 10 rfl rfl (Y_load1 (B := some ⟨b, 0, none⟩) (i := 2) (cs := [vi x.A, vi x.B, vi x.C, vi x.D]) (v := vi x.C) k_sc_3 rfl rfl (hS2.cf (i := 0) rfl) rfl) ?_
  refine sq 11 rfl rfl (Y_neg (k := .i64) (a := x.C) rfl rfl) ?_
  refine sq 12 rfl rfl (Y_fieldAddr (B := some ⟨b, 0, none⟩) (i := 0) (s := 0) k_fd_47_1_1_3 k_sz_3_1 rfl rfl) ?_
  refine sq 13 rfl rfl (Y_load1 (B := some ⟨b, 0, none⟩) (i := 1) (cs := [vi x.A, vi x.B, vi x.C, vi x.D]) (v := vi x.B) k_sc_3 rfl rfl (hS2.cf (i := 0) rfl) rfl) ?_
  refine sq 14 rfl rfl (Y_neg (k := .i64) (a := x.B) rfl rfl) ?_
  refine sq 15 rfl rfl (Y_buildS (zs := [vi 0, vi 0, vi 0, vi 0]) (vs := [(0, vi x.A), (1, vi (i64.wrap (-x.D))), (2, vi (i64.wrap (-x.C))), (3, vi (i64.wrap (-x.B)))]) (cs := [vi x.A, vi (i64.wrap (-x.D)), vi (i64.wrap (-x.C)), vi (i64.wrap (-x.B))]) k_pl_47 k_zero_47 rfl (mpc rfl (mpc rfl (mpc rfl (mpc rfl mpn)))) rfl) ?_
  refine sq 16 rfl rfl (Y_loadA (B := some ⟨b, 0, none⟩) (i := 0) (cs := [vi x.A, vi x.B, vi x.C, vi x.D]) (vs := [vi x.A, vi x.B, vi x.C, vi x.D]) k_ag_47 k_sz_47_4 rfl rfl (hS2.cf (i := 0) rfl) rfl rfl) ?_
  refine ss 17 rfl rfl (Ys_bslice (s := 4) (len := 1) (vs := [(0, .agg #[vi x.A, vi x.B, vi x.C, vi x.D])]) (cs := [vi x.A, vi x.B, vi x.C, vi x.D]) (zs := [vi 0, vi 0, vi 0, vi 0]) (m := 4) hS2 k_sl_113_47 k_sz_47_4 k_zc_47 rfl (mpc rfl mpn) rfl rfl rfl (by kernel_rfl) (by kernel_rfl) rfl) ?_
  rintro _ w_2 ⟨b2, rfl, hS3⟩
  have hS3 : ST w0 [] _ [⟨some ⟨b, 0, none⟩, 47, [vi x.A, vi x.B, vi x.C, vi x.D], 4⟩, ⟨some ⟨b1, 0, none⟩, 47, [vi 0, vi 0, vi 0, vi 0], 4⟩, ⟨some ⟨b2, 0, none⟩, 47, ([x].flatMap enc_Ring), 1 * 4⟩] [] := hS3
  obtain ⟨⟨r_2, r_3⟩, hc, hF⟩ := bind_inv hF
  refine sc 18 rfl rfl (Yc_func (g := 94) (vs := [.agg #[vi x.A, vi (i64.wrap (-x.D)), vi (i64.wrap (-x.C)), vi (i64.wrap (-x.B))], .slice (some ⟨b2, 0, none⟩) 1 1]) k_call_94 rfl (mc rfl (mc rfl mn)) (c_impl_ringIf (TRing.mk x.A (i64.wrap (-x.D)) (i64.wrap (-x.C)) (i64.wrap (-x.B))) [x] (some ⟨b2, 0, none⟩) 1 1 _ rfl (hS3.inn [false, false, true] rfl [] rfl) hc)) ?_
  rintro _ w_3 ⟨rfl, hd⟩
  have hS4 := hS3.out [false, false, true] rfl hd
  have hS4 : ST w0 [] _ [⟨some ⟨b, 0, none⟩, 47, [vi x.A, vi x.B, vi x.C, vi x.D], 4⟩, ⟨some ⟨b1, 0, none⟩, 47, [vi 0, vi 0, vi 0, vi 0], 4⟩] [] := hS4
  refine sq 19 rfl rfl (Y_extract (v := .agg #[vi r_2.A, vi r_2.B, vi r_2.C, vi r_2.D]) rfl rfl rfl) ?_
  refine sq 20 rfl rfl (Y_extract (v := .bool r_3) rfl rfl rfl) ?_
  refine ss0 rfl rfl (Ys_store (i := 1) (s := 4) (B := some ⟨b1, 0, none⟩) (T' := 47) (v := .agg #[vi r_2.A, vi r_2.B, vi r_2.C, vi r_2.D]) (vs := [vi r_2.A, vi r_2.B, vi r_2.C, vi r_2.D]) (k := 0) (cs' := [vi r_2.A, vi r_2.B, vi r_2.C, vi r_2.D]) hS4 k_sz_47_4 rfl rfl rfl rfl rfl rfl rfl (Nat.le_of_ble_eq_true rfl) rfl rfl) ?_
  rintro _ w_4 ⟨rfl, hS5⟩
  have hS5 : ST w0 [] _ [⟨some ⟨b, 0, none⟩, 47, [vi x.A, vi x.B, vi x.C, vi x.D], 4⟩, ⟨some ⟨b1, 0, none⟩, 47, [vi r_2.A, vi r_2.B, vi r_2.C, vi r_2.D], 4⟩] [] := hS5
  refine sq 3 rfl rfl (Y_assign (v := .bool r_3) rfl rfl) ?_
  refine rw_nil ?_
  refine cw_ret ?_
  obtain ⟨rfl, rfl⟩ := pr2 (some_inj hF)
  exact ret2 Tryd.results64 (v1 := .agg #[vi r_2.A, vi r_2.B, vi r_2.C, vi r_2.D]) (resAt_cellA (B := some ⟨b1, 0, none⟩) (i := 0) (cs := [vi r_2.A, vi r_2.B, vi r_2.C, vi r_2.D]) (vs := [vi r_2.A, vi r_2.B, vi r_2.C, vi r_2.D]) rfl k_ag_47 k_sz_47_4 (hS5.cf (i := 1) rfl) rfl rfl) (v2 := .bool r_3) (resAt_tmp rfl) ⟨rfl, (ST.subR (R' := []) (hS5.sel [] rfl rfl) (fun _ h => by cases h))⟩

theorem c_impl_ConjDyadic (x : TDyadic)  (w0 : World)  (hS : ST w0 [] w0 [] []) {r_ : TDyadic} {r_1 : Bool} (hF : F_impl_ConjDyadic x = some (r_, r_1)) :
    CV Tryd.prog 39 #[.agg #[vi x.Num.A, vi x.Num.B, vi x.Num.C, vi x.Num.D, vi x.Exp]] w0 (fun v w' => v = .tuple #[.agg #[vi r_.Num.A, vi r_.Num.B, vi r_.Num.C, vi r_.Num.D, vi r_.Exp], .bool r_1] ∧ ST w0 [] w' [] []) := by
  unfold F_impl_ConjDyadic at hF
  refine cv_of_cw 20 Tryd.func39 rfl Tryd.ntmps39 rfl ?_
  refine cw_seq ?_
  refine cw_region ?_
  refine ss 1 rfl rfl (Ys_box (T := 49) (v := .agg #[vi x.Num.A, vi x.Num.B, vi x.Num.C, vi x.Num.D, vi x.Exp]) (cs := [vi x.Num.A, vi x.Num.B, vi x.Num.C, vi x.Num.D, vi x.Exp]) (m := 5) hS rfl rfl rfl rfl) ?_
  rintro _ w_ ⟨b, rfl, hS1⟩
  refine ss 2 rfl rfl (Ys_alloc (T := 49) (cs := [vi 0, vi 0, vi 0, vi 0, vi 0]) (m := 5) hS1 k_zero_49 rfl rfl rfl) ?_
  rintro _ w_1 ⟨b1, rfl, hS2⟩
  have hS2 : ST w0 [] _ [⟨some ⟨b, 0, none⟩, 49, [vi x.Num.A, vi x.Num.B, vi x.Num.C, vi x.Num.D, vi x.Exp], 5⟩, ⟨some ⟨b1, 0, none⟩, 49, [vi 0, vi 0, vi 0, vi 0, vi 0], 5⟩] [] := hS2
  refine sq 3 rfl rfl (Y_assign (v := .bool false) rfl rfl) ?_
  refine rw_nil ?_
  refine cw_seq ?_
  refine cw_seq ?_
  refine cw_region ?_
  refine sq 6 rfl rfl (Y_loadA (B := some ⟨b, 0, none⟩) (i := 0) (cs := [vi x.Num.A, vi x.Num.B, vi x.Num.C, vi x.Num.D, vi x.Exp]) (vs := [vi x.Num.A, vi x.Num.B, vi x.Num.C, vi x.Num.D, vi x.Exp]) k_ag_49 k_sz_49_5 rfl rfl (hS2.cf (i := 0) rfl) rfl rfl) ?_
  obtain ⟨r_2, hc, hF⟩ := bind_inv hF
  refine sc 7 rfl rfl (Yc_func (g := 61) (vs := [.agg #[vi x.Num.A, vi x.Num.B, vi x.Num.C, vi x.Num.D, vi x.Exp]]) k_call_61 rfl (mc rfl mn) (c_impl_IsValidDyadic x _  (hS2.inn0 [] rfl) hc)) ?_
  rintro _ w_2 ⟨rfl, hd⟩
  have hS3 := hS2.out00 hd
  have hS3 : ST w0 [] _ [⟨some ⟨b, 0, none⟩, 49, [vi x.Num.A, vi x.Num.B, vi x.Num.C, vi x.Num.D, vi x.Exp], 5⟩, ⟨some ⟨b1, 0, none⟩, 49, [vi 0, vi 0, vi 0, vi 0, vi 0], 5⟩] [] := hS3
  refine sq 8 rfl rfl (Y_not (p := r_2) rfl rfl) ?_
  refine rw_nil ?_
  refine cw_cond (b := (!r_2)) rfl (fun hb => ?_) (fun hb => ?_)
  · skip
    have hF1 := ct hF hb
    refine cw_seq ?_
    refine cw_region ?_
    refine sq 9 rfl rfl (Y_buildS (zs := [vi 0, vi 0, vi 0, vi 0, vi 0]) (vs := []) (cs := [vi 0, vi 0, vi 0, vi 0, vi 0]) k_pl_49 k_zero_49 rfl mpn rfl) ?_
    refine ss0 rfl rfl (Ys_store (i := 1) (s := 5) (B := some ⟨b1, 0, none⟩) (T' := 49) (v := .agg #[vi 0, vi 0, vi 0, vi 0, vi 0]) (vs := [vi 0, vi 0, vi 0, vi 0, vi 0]) (k := 0) (cs' := [vi 0, vi 0, vi 0, vi 0, vi 0]) hS3 k_sz_49_5 rfl rfl rfl rfl rfl rfl rfl (Nat.le_of_ble_eq_true rfl) rfl rfl) ?_
    rintro _ w_3 ⟨rfl, hS4⟩
    have hS4 : ST w0 [] _ [⟨some ⟨b, 0, none⟩, 49, [vi x.Num.A, vi x.Num.B, vi x.Num.C, vi x.Num.D, vi x.Exp], 5⟩, ⟨some ⟨b1, 0, none⟩, 49, [vi 0, vi 0, vi 0, vi 0, vi 0], 5⟩] [] := hS4
    refine sq 3 rfl rfl (Y_assign (v := .bool false) rfl rfl) ?_
    refine rw_nil ?_
    refine cw_ret ?_
    obtain ⟨rfl, rfl⟩ := pr2 (some_inj hF1)
    exact ret2 Tryd.results39 (v1 := .agg #[vi 0, vi 0, vi 0, vi 0, vi 0]) (resAt_cellA (B := some ⟨b1, 0, none⟩) (i := 0) (cs := [vi 0, vi 0, vi 0, vi 0, vi 0]) (vs := [vi 0, vi 0, vi 0, vi 0, vi 0]) rfl k_ag_49 k_sz_49_5 (hS4.cf (i := 1) rfl) rfl rfl) (v2 := .bool false) (resAt_tmp rfl) ⟨rfl, (ST.subR (R' := []) (hS4.sel [] rfl rfl) (fun _ h => by cases h))⟩
  · skip
    have hF2 := cf' hF hb
    refine cw_skip ?_
    refine cw_seq ?_
    refine cw_region ?_
    refine sq 11 rfl rfl (Y_fieldAddr (B := some ⟨b, 0, none⟩) (i := 0) (s := 3) k_fd_49_0_0_47 k_sz_47_4 rfl rfl) ?_
    refine sq 12 rfl rfl (Y_loadA (B := some ⟨b, 0, none⟩) (i := 0) (cs := [vi x.Num.A, vi x.Num.B, vi x.Num.C, vi x.Num.D, vi x.Exp]) (vs := [vi x.Num.A, vi x.Num.B, vi x.Num.C, vi x.Num.D]) k_ag_47 k_sz_47_4 rfl rfl (hS3.cf (i := 0) rfl) rfl rfl) ?_
    obtain ⟨⟨r_3, r_4⟩, hc1, hF2⟩ := bind_inv hF2
    refine sc 13 rfl rfl (Yc_func (g := 64) (vs := [.agg #[vi x.Num.A, vi x.Num.B, vi x.Num.C, vi x.Num.D]]) k_call_64 rfl (mc rfl mn) (c_impl_Conjugate x.Num _  (hS3.inn0 [] rfl) hc1)) ?_
    rintro _ w_4 ⟨rfl, hd1⟩
    have hS5 := hS3.out00 hd1
    have hS5 : ST w0 [] _ [⟨some ⟨b, 0, none⟩, 49, [vi x.Num.A, vi x.Num.B, vi x.Num.C, vi x.Num.D, vi x.Exp], 5⟩, ⟨some ⟨b1, 0, none⟩, 49, [vi 0, vi 0, vi 0, vi 0, vi 0], 5⟩] [] := hS5
    refine sq 10 rfl rfl (Y_move (v := .tuple #[.agg #[vi r_3.A, vi r_3.B, vi r_3.C, vi r_3.D], .bool r_4]) rfl rfl) ?_
    refine sq 14 rfl rfl (Y_extract (v := .agg #[vi r_3.A, vi r_3.B, vi r_3.C, vi r_3.D]) rfl rfl rfl) ?_
    refine sq 15 rfl rfl (Y_extract (v := .bool r_4) rfl rfl rfl) ?_
    refine ss 4 rfl rfl (Ys_alloc (T := 47) (cs := [vi 0, vi 0, vi 0, vi 0]) (m := 4) hS5 k_zero_47 rfl rfl rfl) ?_
    rintro _ w_5 ⟨b2, rfl, hS6⟩
    have hS6 : ST w0 [] _ [⟨some ⟨b, 0, none⟩, 49, [vi x.Num.A, vi x.Num.B, vi x.Num.C, vi x.Num.D, vi x.Exp], 5⟩, ⟨some ⟨b1, 0, none⟩, 49, [vi 0, vi 0, vi 0, vi 0, vi 0], 5⟩, ⟨some ⟨b2, 0, none⟩, 47, [vi 0, vi 0, vi 0, vi 0], 4⟩] [] := hS6
    refine ss0 rfl rfl (Ys_store (i := 2) (s := 4) (B := some ⟨b2, 0, none⟩) (T' := 47) (v := .agg #[vi r_3.A, vi r_3.B, vi r_3.C, vi r_3.D]) (vs := [vi r_3.A, vi r_3.B, vi r_3.C, vi r_3.D]) (k := 0) (cs' := [vi r_3.A, vi r_3.B, vi r_3.C, vi r_3.D]) hS6 k_sz_47_4 rfl rfl rfl rfl rfl rfl rfl (Nat.le_of_ble_eq_true rfl) rfl rfl) ?_
    rintro _ w_6 ⟨rfl, hS7⟩
    have hS7 : ST w0 [] _ [⟨some ⟨b, 0, none⟩, 49, [vi x.Num.A, vi x.Num.B, vi x.Num.C, vi x.Num.D, vi x.Exp], 5⟩, ⟨some ⟨b1, 0, none⟩, 49, [vi 0, vi 0, vi 0, vi 0, vi 0], 5⟩, ⟨some ⟨b2, 0, none⟩, 47, [vi r_3.A, vi r_3.B, vi r_3.C, vi r_3.D], 4⟩] [] := hS7
    refine sq 5 rfl rfl (Y_assign (v := .bool r_4) rfl rfl) ?_
    refine rw_nil ?_
    refine cw_seq ?_
    refine cw_region ?_
    refine sq 16 rfl rfl (Y_loadA (B := some ⟨b2, 0, none⟩) (i := 0) (cs := [vi r_3.A, vi r_3.B, vi r_3.C, vi r_3.D]) (vs := [vi r_3.A, vi r_3.B, vi r_3.C, vi r_3.D]) k_ag_47 k_sz_47_4 rfl rfl (hS7.cf (i := 2) rfl) rfl rfl) ?_
    refine sq 17 rfl rfl (Y_fieldAddr (B := some ⟨b, 0, none⟩) (i := 0) (s := 0) k_fd_49_1_4_3 k_sz_3_1 rfl rfl) ?_
    refine sq 18 rfl rfl (Y_load1 (B := some ⟨b, 0, none⟩) (i := 4) (cs := [vi x.Num.A, vi x.Num.B, vi x.Num.C, vi x.Num.D, vi x.Exp]) (v := vi x.Exp) k_sc_3 rfl rfl (hS7.cf (i := 0) rfl) rfl) ?_
    refine sq 19 rfl rfl (Y_buildS (zs := [vi 0, vi 0, vi 0, vi 0, vi 0]) (vs := [(0, .agg #[vi r_3.A, vi r_3.B, vi r_3.C, vi r_3.D]), (1, vi x.Exp)]) (cs := [vi r_3.A, vi r_3.B, vi r_3.C, vi r_3.D, vi x.Exp]) k_pl_49 k_zero_49 rfl (mpc rfl (mpc rfl mpn)) rfl) ?_
    refine ss0 rfl rfl (Ys_store (i := 1) (s := 5) (B := some ⟨b1, 0, none⟩) (T' := 49) (v := .agg #[vi r_3.A, vi r_3.B, vi r_3.C, vi r_3.D, vi x.Exp]) (vs := [vi r_3.A, vi r_3.B, vi r_3.C, vi r_3.D, vi x.Exp]) (k := 0) (cs' := [vi r_3.A, vi r_3.B, vi r_3.C, vi r_3.D, vi x.Exp]) hS7 k_sz_49_5 rfl rfl rfl rfl rfl rfl rfl (Nat.le_of_ble_eq_true rfl) rfl rfl) ?_
    rintro _ w_7 ⟨rfl, hS8⟩
    have hS8 : ST w0 [] _ [⟨some ⟨b, 0, none⟩, 49, [vi x.Num.A, vi x.Num.B, vi x.Num.C, vi x.Num.D, vi x.Exp], 5⟩, ⟨some ⟨b1, 0, none⟩, 49, [vi r_3.A, vi r_3.B, vi r_3.C, vi r_3.D, vi x.Exp], 5⟩, ⟨some ⟨b2, 0, none⟩, 47, [vi r_3.A, vi r_3.B, vi r_3.C, vi r_3.D], 4⟩] [] := hS8
    refine sq 3 rfl rfl (Y_assign (v := .bool true) rfl rfl) ?_
    refine rw_nil ?_
    refine cw_ret ?_
    obtain ⟨rfl, rfl⟩ := pr2 (some_inj hF2)
    exact ret2 Tryd.results39 (v1 := .agg #[vi r_3.A, vi r_3.B, vi r_3.C, vi r_3.D, vi x.Exp]) (resAt_cellA (B := some ⟨b1, 0, none⟩) (i := 0) (cs := [vi r_3.A, vi r_3.B, vi r_3.C, vi r_3.D, vi x.Exp]) (vs := [vi r_3.A, vi r_3.B, vi r_3.C, vi r_3.D, vi x.Exp]) rfl k_ag_49 k_sz_49_5 (hS8.cf (i := 1) rfl) rfl rfl) (v2 := .bool true) (resAt_tmp rfl) ⟨rfl, (ST.subR (R' := []) (hS8.sel [] rfl rfl) (fun _ h => by cases h))⟩

theorem c_impl_Matrix_at (m : TMatrix) (i : Int) (j : Int) (B : Option Addr) (c n : Nat) (w0 : World) (hn : m.Cells.length = n) (hS : ST w0 [] w0 [] [⟨B, (m.Cells.flatMap enc_Dyadic)⟩]) {r_ : TDyadic} (hF : F_impl_Matrix_at m i j = some r_) :
    CV Tryd.prog 40 #[.agg #[vi m.Rows, vi m.Cols, .slice B n c], vi i, vi j] w0 (fun v w' => v = .agg #[vi r_.Num.A, vi r_.Num.B, vi r_.Num.C, vi r_.Num.D, vi r_.Exp] ∧ ST w0 [] w' [] []) := by
  subst hn
  unfold F_impl_Matrix_at at hF
  refine cv_of_cw 17 Tryd.func40 rfl Tryd.ntmps40 rfl ?_
  refine cw_seq ?_
  refine cw_region ?_
  refine ss 3 rfl rfl (Ys_box (T := 32) (v := .agg #[vi m.Rows, vi m.Cols, .slice B m.Cells.length c]) (cs := [vi m.Rows, vi m.Cols, .slice B m.Cells.length c]) (m := 3) hS rfl rfl rfl rfl) ?_
  rintro _ w_ ⟨b, rfl, hS1⟩
  refine ss 6 rfl rfl (Ys_alloc (T := 49) (cs := [vi 0, vi 0, vi 0, vi 0, vi 0]) (m := 5) hS1 k_zero_49 rfl rfl rfl) ?_
  rintro _ w_1 ⟨b1, rfl, hS2⟩
  have hS2 : ST w0 [] _ [⟨some ⟨b, 0, none⟩, 32, [vi m.Rows, vi m.Cols, .slice B m.Cells.length c], 3⟩, ⟨some ⟨b1, 0, none⟩, 49, [vi 0, vi 0, vi 0, vi 0, vi 0], 5⟩] [⟨B, (m.Cells.flatMap enc_Dyadic)⟩] := hS2
  refine rw_nil ?_
  refine cw_seq ?_
  refine cw_region ?_
  refine sq 7 rfl rfl (Y_fieldAddr (B := some ⟨b, 0, none⟩) (i := 0) (s := 0) k_fd_32_2_2_26 k_sz_26_1 rfl rfl) ?_
  refine sq 8 rfl rfl (Y_load1 (B := some ⟨b, 0, none⟩) (i := 2) (cs := [vi m.Rows, vi m.Cols, .slice B m.Cells.length c]) (v := .slice B m.Cells.length c) k_sc_26 rfl rfl (hS2.cf (i := 0) rfl) rfl) ?_
  refine sq 9 rfl rfl (Y_move (v := vi i) rfl rfl) ?_
  refine sq 10 rfl rfl (Y_fieldAddr (B := some ⟨b, 0, none⟩) (i := 0) (s := 0) k_fd_32_1_1_3 k_sz_3_1 rfl rfl) ?_
  refine sq 11 rfl rfl (Y_load1 (B := some ⟨b, 0, none⟩) (i := 1) (cs := [vi m.Rows, vi m.Cols, .slice B m.Cells.length c]) (v := vi m.Cols) k_sc_3 rfl rfl (hS2.cf (i := 0) rfl) rfl) ?_
  refine sq 12 rfl rfl (Y_mul (k := .i64) (a := i) (b := m.Cols) rfl rfl rfl) ?_
  refine sq 13 rfl rfl (Y_move (v := vi j) rfl rfl) ?_
  refine sq 14 rfl rfl (Y_add (k := .i64) (a := (i64.wrap (i * m.Cols))) (b := j) rfl rfl rfl) ?_
  obtain ⟨x, hx, hF⟩ := bind_inv hF
  refine sq 15 rfl rfl (Y_index (B := B) (m := m.Cells.length) (c := c) (k := .i64) (i := (i64.wrap ((i64.wrap (i * m.Cols)) + j))) k_sl_26_49 k_sz_49_5 rfl rfl rfl (gi_isSome enc_Dyadic_len rfl (hS2.rf (i := 0) rfl) hx) (getI_nn hx) (getI_ltI hx rfl)) ?_
  refine sq 16 rfl rfl (Y_loadA (B := B) (i := (i64.wrap ((i64.wrap (i * m.Cols)) + j)).toNat * 5) (cs := (m.Cells.flatMap enc_Dyadic)) (vs := [vi x.Num.A, vi x.Num.B, vi x.Num.C, vi x.Num.D, vi x.Exp]) k_ag_49 k_sz_49_5 rfl rfl (hS2.rf (i := 0) rfl) (enc_Dyadic_len x) (gi_seg enc_Dyadic_len hx)) ?_
  refine ss0 rfl rfl (Ys_store (i := 1) (s := 5) (B := some ⟨b1, 0, none⟩) (T' := 49) (v := .agg #[vi x.Num.A, vi x.Num.B, vi x.Num.C, vi x.Num.D, vi x.Exp]) (vs := [vi x.Num.A, vi x.Num.B, vi x.Num.C, vi x.Num.D, vi x.Exp]) (k := 0) (cs' := [vi x.Num.A, vi x.Num.B, vi x.Num.C, vi x.Num.D, vi x.Exp]) hS2 k_sz_49_5 rfl rfl rfl rfl rfl rfl rfl (Nat.le_of_ble_eq_true rfl) rfl rfl) ?_
  rintro _ w_2 ⟨rfl, hS3⟩
  have hS3 : ST w0 [] _ [⟨some ⟨b, 0, none⟩, 32, [vi m.Rows, vi m.Cols, .slice B m.Cells.length c], 3⟩, ⟨some ⟨b1, 0, none⟩, 49, [vi x.Num.A, vi x.Num.B, vi x.Num.C, vi x.Num.D, vi x.Exp], 5⟩] [⟨B, (m.Cells.flatMap enc_Dyadic)⟩] := hS3
  refine rw_nil ?_
  refine cw_ret ?_
  obtain rfl := some_inj hF
  exact ret1 Tryd.results40 (v1 := .agg #[vi x.Num.A, vi x.Num.B, vi x.Num.C, vi x.Num.D, vi x.Exp]) (resAt_cellA (B := some ⟨b1, 0, none⟩) (i := 0) (cs := [vi x.Num.A, vi x.Num.B, vi x.Num.C, vi x.Num.D, vi x.Exp]) (vs := [vi x.Num.A, vi x.Num.B, vi x.Num.C, vi x.Num.D, vi x.Exp]) rfl k_ag_49 k_sz_49_5 (hS3.cf (i := 1) rfl) rfl rfl) ⟨rfl, (ST.subR (R' := []) (hS3.sel [] rfl rfl) (fun _ h => by cases h))⟩

theorem c_impl_Adjoint_1 (i : Int) (j : Int) (p : TMatrix) (B : Option Addr) (B1 : Option Addr) (c n : Nat) (w0 : World) (hn : p.Cells.length = n) (hS : ST w0 [] w0 [] [⟨B, [vi p.Rows, vi p.Cols, .slice B1 n c]⟩, ⟨B1, (p.Cells.flatMap enc_Dyadic)⟩]) {r_ : TDyadic} {r_1 : Bool} (hF : F_impl_Adjoint_1 i j p = some (r_, r_1)) :
    CV Tryd.prog 38 #[vi i, vi j, pt B 0] w0 (fun v w' => v = .tuple #[.agg #[vi r_.Num.A, vi r_.Num.B, vi r_.Num.C, vi r_.Num.D, vi r_.Exp], .bool r_1] ∧ ST w0 [] w' [] []) := by
  subst hn
  unfold F_impl_Adjoint_1 at hF
  refine cv_of_cw 14 Tryd.func38 rfl Tryd.ntmps38 rfl ?_
  refine cw_seq ?_
  refine cw_region ?_
  refine ss 5 rfl rfl (Ys_alloc (T := 49) (cs := [vi 0, vi 0, vi 0, vi 0, vi 0]) (m := 5) hS k_zero_49 rfl rfl rfl) ?_
  rintro _ w_ ⟨b, rfl, hS1⟩
  refine sq 6 rfl rfl (Y_assign (v := .bool false) rfl rfl) ?_
  refine rw_nil ?_
  refine cw_seq ?_
  refine cw_region ?_
  refine sq 7 rfl rfl (Y_loadA (B := B) (i := 0) (cs := [vi p.Rows, vi p.Cols, .slice B1 p.Cells.length c]) (vs := [vi p.Rows, vi p.Cols, .slice B1 p.Cells.length c]) k_ag_32 k_sz_32_3 rfl rfl (hS1.rf (i := 0) rfl) rfl rfl) ?_
  refine sq 8 rfl rfl (Y_move (v := vi j) rfl rfl) ?_
  refine sq 9 rfl rfl (Y_move (v := vi i) rfl rfl) ?_
  obtain ⟨r_2, hc, hF⟩ := bind_inv hF
  refine sc 10 rfl rfl (Yc_func (g := 40) (vs := [.agg #[vi p.Rows, vi p.Cols, .slice B1 p.Cells.length c], vi j, vi i]) k_call_40 rfl (mc rfl (mc rfl (mc rfl mn))) (c_impl_Matrix_at p j i B1 c p.Cells.length _ rfl (hS1.inn0 [(true, 1)] rfl) hc)) ?_
  rintro _ w_1 ⟨rfl, hd⟩
  have hS2 := hS1.out00 hd
  obtain ⟨⟨r_3, r_4⟩, hc1, hF⟩ := bind_inv hF
  refine sc 11 rfl rfl (Yc_func (g := 39) (vs := [.agg #[vi r_2.Num.A, vi r_2.Num.B, vi r_2.Num.C, vi r_2.Num.D, vi r_2.Exp]]) k_call_39 rfl (mc rfl mn) (c_impl_ConjDyadic r_2 _  (hS2.inn0 [] rfl) hc1)) ?_
  rintro _ w_2 ⟨rfl, hd1⟩
  have hS3 := hS2.out00 hd1
  refine sq 12 rfl rfl (Y_extract (v := .agg #[vi r_3.Num.A, vi r_3.Num.B, vi r_3.Num.C, vi r_3.Num.D, vi r_3.Exp]) rfl rfl rfl) ?_
  refine sq 13 rfl rfl (Y_extract (v := .bool r_4) rfl rfl rfl) ?_
  refine ss0 rfl rfl (Ys_store (i := 0) (s := 5) (B := some ⟨b, 0, none⟩) (T' := 49) (v := .agg #[vi r_3.Num.A, vi r_3.Num.B, vi r_3.Num.C, vi r_3.Num.D, vi r_3.Exp]) (vs := [vi r_3.Num.A, vi r_3.Num.B, vi r_3.Num.C, vi r_3.Num.D, vi r_3.Exp]) (k := 0) (cs' := [vi r_3.Num.A, vi r_3.Num.B, vi r_3.Num.C, vi r_3.Num.D, vi r_3.Exp]) hS3 k_sz_49_5 rfl rfl rfl rfl rfl rfl rfl (Nat.le_of_ble_eq_true rfl) rfl rfl) ?_
  rintro _ w_3 ⟨rfl, hS4⟩
  refine sq 6 rfl rfl (Y_assign (v := .bool r_4) rfl rfl) ?_
  refine rw_nil ?_
  refine cw_ret ?_
  obtain ⟨rfl, rfl⟩ := pr2 (some_inj hF)
  exact ret2 Tryd.results38 (v1 := .agg #[vi r_3.Num.A, vi r_3.Num.B, vi r_3.Num.C, vi r_3.Num.D, vi r_3.Exp]) (resAt_cellA (B := some ⟨b, 0, none⟩) (i := 0) (cs := [vi r_3.Num.A, vi r_3.Num.B, vi r_3.Num.C, vi r_3.Num.D, vi r_3.Exp]) (vs := [vi r_3.Num.A, vi r_3.Num.B, vi r_3.Num.C, vi r_3.Num.D, vi r_3.Exp]) rfl k_ag_49 k_sz_49_5 (hS4.cf (i := 0) rfl) rfl rfl) (v2 := .bool r_4) (resAt_tmp rfl) ⟨rfl, (ST.subR (R' := []) (hS4.sel [] rfl rfl) (fun _ h => by cases h))⟩

theorem c_impl_Adjoint (m : TMatrix) (B : Option Addr) (c n : Nat) (w0 : World) (hn : m.Cells.length = n) (hS : ST w0 [] w0 [] [⟨B, (m.Cells.flatMap enc_Dyadic)⟩]) {r_ : TMatrix} {r_1 : Bool} (hF : F_impl_Adjoint m = some (r_, r_1)) :
    CV Tryd.prog 21 #[.agg #[vi m.Rows, vi m.Cols, .slice B n c]] w0 (fun v w' => ∃ (B1 : Option Addr) (c1 : Nat), v = .tuple #[.agg #[vi r_.Rows, vi r_.Cols, .slice B1 r_.Cells.length c1], .bool r_1] ∧ ST w0 [] w' [⟨B1, 49, (r_.Cells.flatMap enc_Dyadic), c1 * 5⟩] []) := by
  subst hn
  unfold F_impl_Adjoint at hF
  refine cv_of_cw 16 Tryd.func21 rfl Tryd.ntmps21 rfl ?_
  refine cw_seq ?_
  refine cw_region ?_
  refine ss 1 rfl rfl (Ys_box (T := 32) (v := .agg #[vi m.Rows, vi m.Cols, .slice B m.Cells.length c]) (cs := [vi m.Rows, vi m.Cols, .slice B m.Cells.length c]) (m := 3) hS rfl rfl rfl rfl) ?_
  rintro _ w_ ⟨b, rfl, hS1⟩
  refine ss 2 rfl rfl (Ys_alloc (T := 32) (cs := [vi 0, vi 0, .slice none 0 0]) (m := 3) hS1 k_zero_32 rfl rfl rfl) ?_
  rintro _ w_1 ⟨b1, rfl, hS2⟩
  have hS2 : ST w0 [] _ [⟨some ⟨b, 0, none⟩, 32, [vi m.Rows, vi m.Cols, .slice B m.Cells.length c], 3⟩, ⟨some ⟨b1, 0, none⟩, 32, [vi 0, vi 0, .slice none 0 0], 3⟩] [⟨B, (m.Cells.flatMap enc_Dyadic)⟩] := hS2
  refine sq 3 rfl rfl (Y_assign (v := .bool false) rfl rfl) ?_
  refine rw_nil ?_
  refine cw_seq ?_
  refine cw_seq ?_
  refine cw_region ?_
  refine sq 4 rfl rfl (Y_loadA (B := some ⟨b, 0, none⟩) (i := 0) (cs := [vi m.Rows, vi m.Cols, .slice B m.Cells.length c]) (vs := [vi m.Rows, vi m.Cols, .slice B m.Cells.length c]) k_ag_32 k_sz_32_3 rfl rfl (hS2.cf (i := 0) rfl) rfl rfl) ?_
  obtain ⟨r_2, hc, hF⟩ := bind_inv hF
  refine sc 5 rfl rfl (Yc_func (g := 35) (vs := [.agg #[vi m.Rows, vi m.Cols, .slice B m.Cells.length c]]) k_call_35 rfl (mc rfl mn) (c_impl_IsValidMatrix m B c m.Cells.length _ rfl (hS2.inn0 [(true, 0)] rfl) hc)) ?_
  rintro _ w_2 ⟨rfl, hd⟩
  have hS3 := hS2.out00 hd
  have hS3 : ST w0 [] _ [⟨some ⟨b, 0, none⟩, 32, [vi m.Rows, vi m.Cols, .slice B m.Cells.length c], 3⟩, ⟨some ⟨b1, 0, none⟩, 32, [vi 0, vi 0, .slice none 0 0], 3⟩] [⟨B, (m.Cells.flatMap enc_Dyadic)⟩] := hS3
  refine sq 6 rfl rfl (Y_not (p := r_2) rfl rfl) ?_
  refine rw_nil ?_
  refine cw_cond (b := (!r_2)) rfl (fun hb => ?_) (fun hb => ?_)
  · skip
    have hF1 := ct hF hb
    refine cw_seq ?_
    refine cw_region ?_
    refine sq 7 rfl rfl (Y_buildS (zs := [vi 0, vi 0, .slice none 0 0]) (vs := []) (cs := [vi 0, vi 0, .slice none 0 0]) k_pl_32 k_zero_32 rfl mpn rfl) ?_
    refine ss0 rfl rfl (Ys_store (i := 1) (s := 3) (B := some ⟨b1, 0, none⟩) (T' := 32) (v := .agg #[vi 0, vi 0, .slice none 0 0]) (vs := [vi 0, vi 0, .slice none 0 0]) (k := 0) (cs' := [vi 0, vi 0, .slice none 0 0]) hS3 k_sz_32_3 rfl rfl rfl rfl rfl rfl rfl (Nat.le_of_ble_eq_true rfl) rfl rfl) ?_
    rintro _ w_3 ⟨rfl, hS4⟩
    have hS4 : ST w0 [] _ [⟨some ⟨b, 0, none⟩, 32, [vi m.Rows, vi m.Cols, .slice B m.Cells.length c], 3⟩, ⟨some ⟨b1, 0, none⟩, 32, [vi 0, vi 0, .slice none 0 0], 3⟩] [⟨B, (m.Cells.flatMap enc_Dyadic)⟩] := hS4
    refine sq 3 rfl rfl (Y_assign (v := .bool false) rfl rfl) ?_
    refine rw_nil ?_
    refine cw_ret ?_
    have hS5 := hS4.addNil 49
    obtain ⟨rfl, rfl⟩ := pr2 (some_inj hF1)
    exact ret2 Tryd.results21 (v1 := .agg #[vi 0, vi 0, .slice none 0 0]) (resAt_cellA (B := some ⟨b1, 0, none⟩) (i := 0) (cs := [vi 0, vi 0, .slice none 0 0]) (vs := [vi 0, vi 0, .slice none 0 0]) rfl k_ag_32 k_sz_32_3 (hS5.cf (i := 1) rfl) rfl rfl) (v2 := .bool false) (resAt_tmp rfl) ⟨none, 0, rfl, (ST.subR (R' := []) (hS5.sel [2] rfl rfl) (fun _ h => by cases h))⟩
  · skip
    have hF2 := cf' hF hb
    refine cw_skip ?_
    refine cw_seq ?_
    refine cw_region ?_
    refine sq 8 rfl rfl (Y_fieldAddr (B := some ⟨b, 0, none⟩) (i := 0) (s := 0) k_fd_32_1_1_3 k_sz_3_1 rfl rfl) ?_
    refine sq 9 rfl rfl (Y_load1 (B := some ⟨b, 0, none⟩) (i := 1) (cs := [vi m.Rows, vi m.Cols, .slice B m.Cells.length c]) (v := vi m.Cols) k_sc_3 rfl rfl (hS3.cf (i := 0) rfl) rfl) ?_
    refine sq 10 rfl rfl (Y_fieldAddr (B := some ⟨b, 0, none⟩) (i := 0) (s := 0) k_fd_32_0_0_3 k_sz_3_1 rfl rfl) ?_
    refine sq 11 rfl rfl (Y_load1 (B := some ⟨b, 0, none⟩) (i := 0) (cs := [vi m.Rows, vi m.Cols, .slice B m.Cells.length c]) (v := vi m.Rows) k_sc_3 rfl rfl (hS3.cf (i := 0) rfl) rfl) ?_
    refine sq 12 rfl rfl (Y_makeFunc (cs := [pt (some ⟨b, 0, none⟩) 0]) rfl rfl (mc rfl mn)) ?_
    obtain ⟨⟨r_3, r_4⟩, hc1, hF2⟩ := bind_inv hF2
    refine sc 13 rfl rfl (Yc_func (g := 37) (vs := [vi m.Cols, vi m.Rows, .func (.func 38) #[] #[pt (some ⟨b, 0, none⟩) 0]]) k_call_37 rfl (mc rfl (mc rfl (mc rfl mn))) (c_impl_matrixOf m.Cols m.Rows (fun x_0 x_1 => F_impl_Adjoint_1 x_0 x_1 m) 38 (#[pt (some ⟨b, 0, none⟩) 0]) [⟨some ⟨b, 0, none⟩, [vi m.Rows, vi m.Cols, .slice B m.Cells.length c]⟩, ⟨B, (m.Cells.flatMap enc_Dyadic)⟩] _ k_call_38 (fun w hw x_0 x_1 y_0 y_1 h_ => c_impl_Adjoint_1 x_0 x_1 m (some ⟨b, 0, none⟩) B c m.Cells.length w rfl hw h_) (hS3.inn0 [(false, 0), (true, 0)] rfl) hc1)) ?_
    rintro _ w_4 ⟨B2, c2, rfl, hd1⟩
    have hS6 := hS3.out0 hd1
    have hS6 : ST w0 [] _ [⟨some ⟨b, 0, none⟩, 32, [vi m.Rows, vi m.Cols, .slice B m.Cells.length c], 3⟩, ⟨some ⟨b1, 0, none⟩, 32, [vi 0, vi 0, .slice none 0 0], 3⟩, ⟨B2, 49, (r_3.Cells.flatMap enc_Dyadic), c2 * 5⟩] [⟨B, (m.Cells.flatMap enc_Dyadic)⟩] := hS6
    refine sq 14 rfl rfl (Y_extract (v := .agg #[vi r_3.Rows, vi r_3.Cols, .slice B2 r_3.Cells.length c2]) rfl rfl rfl) ?_
    refine sq 15 rfl rfl (Y_extract (v := .bool r_4) rfl rfl rfl) ?_
    refine ss0 rfl rfl (Ys_store (i := 1) (s := 3) (B := some ⟨b1, 0, none⟩) (T' := 32) (v := .agg #[vi r_3.Rows, vi r_3.Cols, .slice B2 r_3.Cells.length c2]) (vs := [vi r_3.Rows, vi r_3.Cols, .slice B2 r_3.Cells.length c2]) (k := 0) (cs' := [vi r_3.Rows, vi r_3.Cols, .slice B2 r_3.Cells.length c2]) hS6 k_sz_32_3 rfl rfl rfl rfl rfl rfl rfl (Nat.le_of_ble_eq_true rfl) rfl rfl) ?_
    rintro _ w_5 ⟨rfl, hS7⟩
    have hS7 : ST w0 [] _ [⟨some ⟨b, 0, none⟩, 32, [vi m.Rows, vi m.Cols, .slice B m.Cells.length c], 3⟩, ⟨some ⟨b1, 0, none⟩, 32, [vi r_3.Rows, vi r_3.Cols, .slice B2 r_3.Cells.length c2], 3⟩, ⟨B2, 49, (r_3.Cells.flatMap enc_Dyadic), c2 * 5⟩] [⟨B, (m.Cells.flatMap enc_Dyadic)⟩] := hS7
    refine sq 3 rfl rfl (Y_assign (v := .bool r_4) rfl rfl) ?_
    refine rw_nil ?_
    refine cw_ret ?_
    obtain ⟨rfl, rfl⟩ := pr2 (some_inj hF2)
    exact ret2 Tryd.results21 (v1 := .agg #[vi r_3.Rows, vi r_3.Cols, .slice B2 r_3.Cells.length c2]) (resAt_cellA (B := some ⟨b1, 0, none⟩) (i := 0) (cs := [vi r_3.Rows, vi r_3.Cols, .slice B2 r_3.Cells.length c2]) (vs := [vi r_3.Rows, vi r_3.Cols, .slice B2 r_3.Cells.length c2]) rfl k_ag_32 k_sz_32_3 (hS7.cf (i := 1) rfl) rfl rfl) (v2 := .bool r_4) (resAt_tmp rfl) ⟨B2, c2, rfl, (ST.subR (R' := []) (hS7.sel [2] rfl rfl) (fun _ h => by cases h))⟩

theorem c_impl_MulRing (x : TRing) (y : TRing)  (w0 : World)  (hS : ST w0 [] w0 [] []) {r_ : TRing} {r_1 : Bool} (hF : F_impl_MulRing x y = some (r_, r_1)) :
    CV Tryd.prog 76 #[.agg #[vi x.A, vi x.B, vi x.C, vi x.D], .agg #[vi y.A, vi y.B, vi y.C, vi y.D]] w0 (fun v w' => v = .tuple #[.agg #[vi r_.A, vi r_.B, vi r_.C, vi r_.D], .bool r_1] ∧ ST w0 [] w' [] []) := by
  unfold F_impl_MulRing at hF
  refine cv_of_cw 105 Tryd.func76 rfl Tryd.ntmps76 rfl ?_
  refine cw_seq ?_
  refine cw_region ?_
  refine ss 2 rfl rfl (Ys_box (T := 47) (v := .agg #[vi x.A, vi x.B, vi x.C, vi x.D]) (cs := [vi x.A, vi x.B, vi x.C, vi x.D]) (m := 4) hS rfl rfl rfl rfl) ?_
  rintro _ w_ ⟨b, rfl, hS1⟩
  refine ss 3 rfl rfl (Ys_box (T := 47) (v := .agg #[vi y.A, vi y.B, vi y.C, vi y.D]) (cs := [vi y.A, vi y.B, vi y.C, vi y.D]) (m := 4) hS1 rfl rfl rfl rfl) ?_
  rintro _ w_1 ⟨b1, rfl, hS2⟩
  have hS2 : ST w0 [] _ [⟨some ⟨b, 0, none⟩, 47, [vi x.A, vi x.B, vi x.C, vi x.D], 4⟩, ⟨some ⟨b1, 0, none⟩, 47, [vi y.A, vi y.B, vi y.C, vi y.D], 4⟩] [] := hS2
  refine ss 4 rfl rfl (Ys_alloc (T := 47) (cs := [vi 0, vi 0, vi 0, vi 0]) (m := 4) hS2 k_zero_47 rfl rfl rfl) ?_
  rintro _ w_2 ⟨b2, rfl, hS3⟩
  have hS3 : ST w0 [] _ [⟨some ⟨b, 0, none⟩, 47, [vi x.A, vi x.B, vi x.C, vi x.D], 4⟩, ⟨some ⟨b1, 0, none⟩, 47, [vi y.A, vi y.B, vi y.C, vi y.D], 4⟩, ⟨some ⟨b2, 0, none⟩, 47, [vi 0, vi 0, vi 0, vi 0], 4⟩] [] := hS3
  refine sq 5 rfl rfl (Y_assign (v := .bool false) rfl rfl) ?_
  refine rw_nil ?_
  refine cw_seq ?_
  refine cw_region ?_
  refine sq 6 rfl rfl (Y_fieldAddr (B := some ⟨b, 0, none⟩) (i := 0) (s := 0) k_fd_47_0_0_3 k_sz_3_1 rfl rfl) ?_
  refine sq 7 rfl rfl (Y_load1 (B := some ⟨b, 0, none⟩) (i := 0) (cs := [vi x.A, vi x.B, vi x.C, vi x.D]) (v := vi x.A) k_sc_3 rfl rfl (hS3.cf (i := 0) rfl) rfl) ?_
  refine sq 8 rfl rfl (Y_fieldAddr (B := some ⟨b1, 0, none⟩) (i := 0) (s := 0) k_fd_47_0_0_3 k_sz_3_1 rfl rfl) ?_
  refine sq 9 rfl rfl (Y_load1 (B := some ⟨b1, 0, none⟩) (i := 0) (cs := [vi y.A, vi y.B, vi y.C, vi y.D]) (v := vi y.A) k_sc_3 rfl rfl (hS3.cf (i := 1) rfl) rfl) ?_
  refine sq 10 rfl rfl (Y_mul (k := .i64) (a := x.A) (b := y.A) rfl rfl rfl) ?_
  refine sq 11 rfl rfl (Y_fieldAddr (B := some ⟨b, 0, none⟩) (i := 0) (s := 0) k_fd_47_1_1_3 k_sz_3_1 rfl rfl) ?_
  refine sq 12 rfl rfl (Y_load1 (B := some ⟨b, 0, none⟩) (i := 1) (cs := [vi x.A, vi x.B, vi x.C, vi x.D]) (v := vi x.B) k_sc_3 rfl rfl (hS3.cf (i := 0) rfl) rfl) ?_
  refine sq 13 rfl rfl (Y_fieldAddr (B := some ⟨b1, 0, none⟩) (i := 0) (s := 0) k_fd_47_3_3_3 k_sz_3_1 rfl rfl) ?_
  refine sq 14 rfl rfl (Y_load1 (B := some ⟨b1, 0, none⟩) (i := 3) (cs := [vi y.A, vi y.B, vi y.C, vi y.D]) (v := vi y.D) k_sc_3 rfl rfl (hS3.cf (i := 1) rfl) rfl) ?_
  refine sq 15 rfl rfl (Y_mul (k := .i64) (a := x.B) (b := y.D) rfl rfl rfl) ?_
  refine sq 16 rfl rfl (Y_sub (k := .i64) (a := (i64.wrap (x.A * y.A))) (b := (i64.wrap (x.B * y.D))) rfl rfl rfl) ?_
  refine sq 17 rfl rfl (Y_fieldAddr (B := some ⟨b, 0, none⟩) (i := 0) (s := 0) k_fd_47_2_2_3 k_sz_3_1 rfl rfl) ?_
  refine sq 18 rfl rfl (Y_load1 (B := some ⟨b, 0, none⟩) (i := 2) (cs := [vi x.A, vi x.B, vi x.C, vi x.D]) (v := vi x.C) k_sc_3 rfl rfl (hS3.cf (i := 0) rfl) rfl) ?_
  refine sq 19 rfl rfl (Y_fieldAddr (B := some ⟨b1, 0, none⟩) (i := 0) (s := 0) k_fd_47_2_2_3 k_sz_3_1 rfl rfl) ?_
  refine sq 20 rfl rfl (Y_load1 (B := some ⟨b1, 0, none⟩) (i := 2) (cs := [vi y.A, vi y.B, vi y.C, vi y.D]) (v := vi y.C) k_sc_3 rfl rfl (hS3.cf (i := 1) rfl) rfl) ?_
  refine sq 21 rfl rfl (Y_mul (k := .i64) (a := x.C) (b := y.C) rfl rfl rfl) ?_
  refine sq 22 rfl rfl (Y_sub (k := .i64) (a := (i64.wrap ((i64.wrap (x.A * y.A)) - (i64.wrap (x.B * y.D))))) (b := (i64.wrap (x.C * y.C))) rfl rfl rfl) ?_
  refine sq 23 rfl rfl (Y_fieldAddr (B := some ⟨b, 0, none⟩) (i := 0) (s := 0) k_fd_47_3_3_3 k_sz_3_1 rfl rfl) ?_
  refine sq 24 rfl rfl (Y_load1 (B := some ⟨b, 0, none⟩) (i := 3) (cs := [vi x.A, vi x.B, vi x.C, vi x.D]) (v := vi x.D) k_sc_3 rfl rfl (hS3.cf (i := 0) rfl) rfl) ?_
  refine sq 25 rfl rfl (Y_fieldAddr (B := some ⟨b1, 0, none⟩) (i := 0) (s := 0) k_fd_47_1_1_3 k_sz_3_1 rfl rfl) ?_
  refine sq 26 rfl rfl (Y_load1 (B := some ⟨b1, 0, none⟩) (i := 1) (cs := [vi y.A, vi y.B, vi y.C, vi y.D]) (v := vi y.B) k_sc_3 rfl rfl (hS3.cf (i := 1) rfl) rfl) ?_
  refine sq 27 rfl rfl (Y_mul (k := .i64) (a := x.D) (b := y.B) rfl rfl rfl) ?_
  refine sq 28 rfl rfl (Y_sub (k := .i64) (a := (i64.wrap ((i64.wrap ((i64.wrap (x.A * y.A)) - (i64.wrap (x.B * y.D)))) - (i64.wrap (x.C * y.C))))) (b := (i64.wrap (x.D * y.B))) rfl rfl rfl) ?_
  refine sq 29 rfl rfl (Y_fieldAddr (B := some ⟨b, 0, none⟩) (i := 0) (s := 0) k_fd_47_0_0_3 k_sz_3_1 rfl rfl) ?_
  refine sq 30 rfl rfl (Y_load1 (B := some ⟨b, 0, none⟩) (i := 0) (cs := [vi x.A, vi x.B, vi x.C, vi x.D]) (v := vi x.A) k_sc_3 rfl rfl (hS3.cf (i := 0) rfl) rfl) ?_
  refine sq 31 rfl rfl (Y_fieldAddr (B := some ⟨b1, 0, none⟩) (i := 0) (s := 0) k_fd_47_1_1_3 k_sz_3_1 rfl rfl) ?_
  refine sq 32 rfl rfl (Y_load1 (B := some ⟨b1, 0, none⟩) (i := 1) (cs := [vi y.A, vi y.B, vi y.C, vi y.D]) (v := vi y.B) k_sc_3 rfl rfl (hS3.cf (i := 1) rfl) rfl) ?_
  refine sq 33 rfl rfl (Y_mul (k := .i64) (a := x.A) (b := y.B) rfl rfl rfl) ?_
  refine sq 34 rfl rfl (Y_fieldAddr (B := some ⟨b, 0, none⟩) (i := 0) (s := 0) k_fd_47_1_1_3 k_sz_3_1 rfl rfl) ?_
  refine sq 35 rfl rfl (Y_load1 (B := some ⟨b, 0, none⟩) (i := 1) (cs := [vi x.A, vi x.B, vi x.C, vi x.D]) (v := vi x.B) k_sc_3 rfl rfl (hS3.cf (i := 0) rfl) rfl) ?_
  refine sq 36 rfl rfl (Y_fieldAddr (B := some ⟨b1, 0, none⟩) (i := 0) (s := 0) k_fd_47_0_0_3 k_sz_3_1 rfl rfl) ?_
  refine sq 37 rfl rfl (Y_load1 (B := some ⟨b1, 0, none⟩) (i := 0) (cs := [vi y.A, vi y.B, vi y.C, vi y.D]) (v := vi y.A) k_sc_3 rfl rfl (hS3.cf (i := 1) rfl) rfl) ?_
  refine sq 38 rfl rfl (Y_mul (k := .i64) (a := x.B) (b := y.A) rfl rfl rfl) ?_
  refine sq 39 rfl rfl (Y_add (k := .i64) (a := (i64.wrap (x.A * y.B))) (b := (i64.wrap (x.B * y.A))) rfl rfl rfl) ?_
  refine sq 40 rfl rfl (Y_fieldAddr (B := some ⟨b, 0, none⟩) (i := 0) (s := 0) k_fd_47_2_2_3 k_sz_3_1 rfl rfl) ?_
  refine sq 41 rfl rfl (Y_load1 (B := some ⟨b, 0, none⟩) (i := 2) (cs := [vi x.A, vi x.B, vi x.C, vi x.D]) (v := vi x.C) k_sc_3 rfl rfl (hS3.cf (i := 0) rfl) rfl) ?_
  refine sq 42 rfl rfl (Y_fieldAddr (B := some ⟨b1, 0, none⟩) (i := 0) (s := 0) k_fd_47_3_3_3 k_sz_3_1 rfl rfl) ?_
  refine sq 43 rfl rfl (Y_load1 (B := some ⟨b1, 0, none⟩) (i := 3) (cs := [vi y.A, vi y.B, vi y.C, vi y.D]) (v := vi y.D) k_sc_3 rfl rfl (hS3.cf (i := 1) rfl) rfl) ?_
  refine sq 44 rfl rfl (Y_mul (k := .i64) (a := x.C) (b := y.D) rfl rfl rfl) ?_
  refine sq 45 rfl rfl (Y_sub (k := .i64) (a := (i64.wrap ((i64.wrap (x.A * y.B)) + (i64.wrap (x.B * y.A))))) (b := (i64.wrap (x.C * y.D))) rfl rfl rfl) ?_
  refine sq 46 rfl rfl (Y_fieldAddr (B := some ⟨b, 0, none⟩) (i := 0) (s := 0) k_fd_47_3_3_3 k_sz_3_1 rfl rfl) ?_
  refine sq 47 rfl rfl (Y_load1 (B := some ⟨b, 0, none⟩) (i := 3) (cs := [vi x.A, vi x.B, vi x.C, vi x.D]) (v := vi x.D) k_sc_3 rfl rfl (hS3.cf (i := 0) rfl) rfl) ?_
  refine sq 48 rfl rfl (Y_fieldAddr (B := some ⟨b1, 0, none⟩) (i := 0) (s := 0) k_fd_47_2_2_3 k_sz_3_1 rfl rfl) ?_
  refine sq 49 rfl rfl (Y_load1 (B := some ⟨b1, 0, none⟩) (i := 2) (cs := [vi y.A, vi y.B, vi y.C, vi y.D]) (v := vi y.C) k_sc_3 rfl rfl (hS3.cf (i := 1) rfl) rfl) ?_
  refine sq 50 rfl rfl (Y_mul (k := .i64) (a := x.D) (b := y.C) rfl rfl rfl) ?_
  refine sq 51 rfl rfl (Y_sub (k := .i64) (a := (i64.wrap ((i64.wrap ((i64.wrap (x.A * y.B)) + (i64.wrap (x.B * y.A)))) - (i64.wrap (x.C * y.D))))) (b := (i64.wrap (x.D * y.C))) rfl rfl rfl) ?_
  refine sq 52 rfl rfl (Y_fieldAddr (B := some ⟨b, 0, none⟩) (i := 0) (s := 0) k_fd_47_0_0_3 k_sz_3_1 rfl rfl) ?_
  refine sq 53 rfl rfl (Y_load1 (B := some ⟨b, 0, none⟩) (i := 0) (cs := [vi x.A, vi x.B, vi x.C, vi x.D]) (v := vi x.A) k_sc_3 rfl rfl (hS3.cf (i := 0) rfl) rfl) ?_
  refine sq 54 rfl rfl (Y_fieldAddr (B := some ⟨b1, 0, none⟩) (i := 0) (s := 0) k_fd_47_2_2_3 k_sz_3_1 rfl rfl) ?_
  refine sq 55 rfl rfl (Y_load1 (B := some ⟨b1, 0, none⟩) (i := 2) (cs := [vi y.A, vi y.B, vi y.C, vi y.D]) (v := vi y.C) k_sc_3 rfl rfl (hS3.cf (i := 1) rfl) rfl) ?_
  refine sq 56 rfl rfl (Y_mul (k := .i64) (a := x.A) (b := y.C) rfl rfl rfl) ?_
  refine sq 57 rfl rfl (Y_fieldAddr (B := some ⟨b, 0, none⟩) (i := 0) (s := 0) k_fd_47_1_1_3 k_sz_3_1 rfl rfl) ?_
  refine sq 58 rfl rfl (Y_load1 (B := some ⟨b, 0, none⟩) (i := 1) (cs := [vi x.A, vi x.B, vi x.C, vi x.D]) (v := vi x.B) k_sc_3 rfl rfl (hS3.cf (i := 0) rfl) rfl) ?_
  refine sq 59 rfl rfl (Y_fieldAddr (B := some ⟨b1, 0, none⟩) (i := 0) (s := 0) k_fd_47_1_1_3 k_sz_3_1 rfl rfl) ?_
  refine sq 60 rfl rfl (Y_load1 (B := some ⟨b1, 0, none⟩) (i := 1) (cs := [vi y.A, vi y.B, vi y.C, vi y.D]) (v := vi y.B) k_sc_3 rfl rfl (hS3.cf (i := 1) rfl) rfl) ?_
  refine sq 61 rfl rfl (Y_mul (k := .i64) (a := x.B) (b := y.B) rfl rfl rfl) ?_
  refine sq 62 rfl rfl (Y_add (k := .i64) (a := (i64.wrap (x.A * y.C))) (b := (i64.wrap (x.B * y.B))) rfl rfl rfl) ?_
  refine sq 63 rfl rfl (Y_fieldAddr (B := some ⟨b, 0, none⟩) (i := 0) (s := 0) k_fd_47_2_2_3 k_sz_3_1 rfl rfl) ?_
  refine sq 64 rfl rfl (Y_load1 (B := some ⟨b, 0, none⟩) (i := 2) (cs := [vi x.A, vi x.B, vi x.C, vi x.D]) (v := vi x.C) k_sc_3 rfl rfl (hS3.cf (i := 0) rfl) rfl) ?_
  refine sq 65 rfl rfl (Y_fieldAddr (B := some ⟨b1, 0, none⟩) (i := 0) (s := 0) k_fd_47_0_0_3 k_sz_3_1 rfl rfl) ?_
  refine sq 66 rfl rfl (Y_load1 (B := some ⟨b1, 0, none⟩) (i := 0) (cs := [vi y.A, vi y.B, vi y.C, vi y.D]) (v := vi y.A) k_sc_3 rfl rfl (hS3.cf (i := 1) rfl) rfl) ?_
  refine sq 67 rfl rfl (Y_mul (k := .i64) (a := x.C) (b := y.A) rfl rfl rfl) ?_
  refine sq 68 rfl rfl (Y_add (k := .i64) (a := (i64.wrap ((i64.wrap (x.A * y.C)) + (i64.wrap (x.B * y.B))))) (b := (i64.wrap (x.C * y.A))) rfl rfl rfl) ?_
  refine sq 69 rfl rfl (Y_fieldAddr (B := some ⟨b, 0, none⟩) (i := 0) (s := 0) k_fd_47_3_3_3 k_sz_3_1 rfl rfl) ?_
  refine sq 70 rfl rfl (Y_load1 (B := some ⟨b, 0, none⟩) (i := 3) (cs := [vi x.A, vi x.B, vi x.C, vi x.D]) (v := vi x.D) k_sc_3 rfl rfl (hS3.cf (i := 0) rfl) rfl) ?_
  refine sq 71 rfl rfl (Y_fieldAddr (B := some ⟨b1, 0, none⟩) (i := 0) (s := 0) k_fd_47_3_3_3 k_sz_3_1 rfl rfl) ?_
  refine sq 72 rfl rfl (Y_load1 (B := some ⟨b1, 0, none⟩) (i := 3) (cs := [vi y.A, vi y.B, vi y.C, vi y.D]) (v := vi y.D) k_sc_3 rfl rfl (hS3.cf (i := 1) rfl) rfl) ?_
  refine sq 73 rfl rfl (Y_mul (k := .i64) (a := x.D) (b := y.D) rfl rfl rfl) ?_
  refine sq 74 rfl rfl (Y_sub (k := .i64) (a := (i64.wrap ((i64.wrap ((i64.wrap (x.A * y.C)) + (i64.wrap (x.B * y.B)))) + (i64.wrap (x.C * y.A))))) (b := (i64.wrap (x.D * y.D))) rfl rfl rfl) ?_
  refine sq 75 rfl rfl (Y_fieldAddr (B := some ⟨b, 0, none⟩) (i := 0) (s := 0) k_fd_47_0_0_3 k_sz_3_1 rfl rfl) ?_
  refine sq 76 rfl rfl (Y_load1 (B := some ⟨b, 0, none⟩) (i := 0) (cs := [vi x.A, vi x.B, vi x.C, vi x.D]) (v := vi x.A) k_sc_3 rfl rfl (hS3.cf (i := 0) rfl) rfl) ?_
  refine sq 77 rfl rfl (Y_fieldAddr (B := some ⟨b1, 0, none⟩) (i := 0) (s := 0) k_fd_47_3_3_3 k_sz_3_1 rfl rfl) ?_
  refine sq 78 rfl rfl (Y_load1 (B := some ⟨b1, 0, none⟩) (i := 3) (cs := [vi y.A, vi y.B, vi y.C, vi y.D]) (v := vi y.D) k_sc_3 rfl rfl (hS3.cf (i := 1) rfl) rfl) ?_
  refine sq 79 rfl rfl (Y_mul (k := .i64) (a := x.A) (b := y.D) rfl rfl rfl) ?_
  refine sq 80 rfl rfl (Y_fieldAddr (B := some ⟨b, 0, none⟩) (i := 0) (s := 0) k_fd_47_1_1_3 k_sz_3_1 rfl rfl) ?_
  refine sq 81 rfl rfl (Y_load1 (B := some ⟨b, 0, none⟩) (i := 1) (cs := [vi x.A, vi x.B, vi x.C, vi x.D]) (v := vi x.B) k_sc_3 rfl rfl (hS3.cf (i := 0) rfl) rfl) ?_
  refine sq 82 rfl rfl (Y_fieldAddr (B := some ⟨b1, 0, none⟩) (i := 0) (s := 0) k_fd_47_2_2_3 k_sz_3_1 rfl rfl) ?_
  refine sq 83 rfl rfl (Y_load1 (B := some ⟨b1, 0, none⟩) (i := 2) (cs := [vi y.A, vi y.B, vi y.C, vi y.D]) (v := vi y.C) k_sc_3 rfl rfl (hS3.cf (i := 1) rfl) rfl) ?_
  refine sq 84 rfl rfl (Y_mul (k := .i64) (a := x.B) (b := y.C) rfl rfl rfl) ?_
  refine sq 85 rfl rfl (Y_add (k := .i64) (a := (i64.wrap (x.A * y.D))) (b := (i64.wrap (x.B * y.C))) rfl rfl rfl) ?_
  refine sq 86 rfl rfl (Y_fieldAddr (B := some ⟨b, 0, none⟩) (i := 0) (s := 0) k_fd_47_2_2_3 k_sz_3_1 rfl rfl) ?_
  refine sq 87 rfl rfl (Y_load1 (B := some ⟨b, 0, none⟩) (i := 2) (cs := [vi x.A, vi x.B, vi x.C, vi x.D]) (v := vi x.C) k_sc_3 rfl rfl (hS3.cf (i := 0) rfl) rfl) ?_
  refine sq 88 rfl rfl (Y_fieldAddr (B := some ⟨b1, 0, none⟩) (i := 0) (s := 0) k_fd_47_1_1_3 k_sz_3_1 rfl rfl) ?_
  refine sq 89 rfl rfl (Y_load1 (B := some ⟨b1, 0, none⟩) (i := 1) (cs := [vi y.A, vi y.B, vi y.C, vi y.D]) (v := vi y.B) k_sc_3 rfl rfl (hS3.cf (i := 1) rfl) rfl) ?_
  refine sq 90 rfl rfl (Y_mul (k := .i64) (a := x.C) (b := y.B) rfl rfl rfl) ?_
  refine sq 91 rfl rfl (Y_add (k := .i64) (a := (i64.wrap ((i64.wrap (x.A * y.D)) + (i64.wrap (x.B * y.C))))) (b := (i64.wrap (x.C * y.B))) rfl rfl rfl) ?_
  refine sq 92 rfl rfl (Y_fieldAddr (B := some ⟨b, 0, none⟩) (i := 0) (s := 0) k_fd_47_3_3_3 k_sz_3_1 rfl rfl) ?_
  refine sq 93 rfl rfl (Y_load1 (B := some ⟨b, 0, none⟩) (i := 3) (cs := [vi x.A, vi x.B, vi x.C, vi x.D]) (v := vi x.D) k_sc_3 rfl rfl (hS3.cf (i := 0) rfl) rfl) ?_
  refine sq 94 rfl rfl (Y_fieldAddr (B := some ⟨b1, 0, none⟩) (i := 0) (s := 0) k_fd_47_0_0_3 k_sz_3_1 rfl rfl) ?_
  refine sq 95 rfl rfl (Y_load1 (B := some ⟨b1, 0, none⟩) (i := 0) (cs := [vi y.A, vi y.B, vi y.C, vi y.D]) (v := vi y.A) k_sc_3 rfl rfl (hS3.cf (i := 1) rfl) rfl) ?_
  refine sq 96 rfl rfl (Y_mul (k := .i64) (a := x.D) (b := y.A) rfl rfl rfl) ?_
  refine sq 97 rfl rfl (Y_add (k := .i64) (a := (i64.wrap ((i64.wrap ((i64.wrap (x.A * y.D)) + (i64.wrap (x.B * y.C)))) + (i64.wrap (x.C * y.B))))) (b := (i64.wrap (x.D * y.A))) rfl rfl rfl) ?_
  refine sq 98 rfl rfl (Y_buildS (zs := [vi 0, vi 0, vi 0, vi 0]) (vs := [(0, vi (i64.wrap ((i64.wrap ((i64.wrap ((i64.wrap (x.A * y.A)) - (i64.wrap (x.B * y.D)))) - (i64.wrap (x.C * y.C)))) - (i64.wrap (x.D * y.B))))), (1, vi (i64.wrap ((i64.wrap ((i64.wrap ((i64.wrap (x.A * y.B)) + (i64.wrap (x.B * y.A)))) - (i64.wrap (x.C * y.D)))) - (i64.wrap (x.D * y.C))))), (2, vi (i64.wrap ((i64.wrap ((i64.wrap ((i64.wrap (x.A * y.C)) + (i64.wrap (x.B * y.B)))) + (i64.wrap (x.C * y.A)))) - (i64.wrap (x.D * y.D))))), (3, vi (i64.wrap ((i64.wrap ((i64.wrap ((i64.wrap (x.A * y.D)) + (i64.wrap (x.B * y.C)))) + (i64.wrap (x.C * y.B)))) + (i64.wrap (x.D * y.A)))))]) (cs := [vi (i64.wrap ((i64.wrap ((i64.wrap ((i64.wrap (x.A * y.A)) - (i64.wrap (x.B * y.D)))) - (i64.wrap (x.C * y.C)))) - (i64.wrap (x.D * y.B)))), vi (i64.wrap ((i64.wrap ((i64.wrap ((i64.wrap (x.A * y.B)) + (i64.wrap (x.B * y.A)))) - (i64.wrap (x.C * y.D)))) - (i64.wrap (x.D * y.C)))), vi (i64.wrap ((i64.wrap ((i64.wrap ((i64.wrap (x.A * y.C)) + (i64.wrap (x.B * y.B)))) + (i64.wrap (x.C * y.A)))) - (i64.wrap (x.D * y.D)))), vi (i64.wrap ((i64.wrap ((i64.wrap ((i64.wrap (x.A * y.D)) + (i64.wrap (x.B * y.C)))) + (i64.wrap (x.C * y.B)))) + (i64.wrap (x.D * y.A))))]) k_pl_47 k_zero_47 rfl (mpc rfl (mpc rfl (mpc rfl (mpc rfl mpn)))) rfl) ?_
  refine sq 99 rfl rfl (Y_loadA (B := some ⟨b, 0, none⟩) (i := 0) (cs := [vi x.A, vi x.B, vi x.C, vi x.D]) (vs := [vi x.A, vi x.B, vi x.C, vi x.D]) k_ag_47 k_sz_47_4 rfl rfl (hS3.cf (i := 0) rfl) rfl rfl) ?_
  refine sq 100 rfl rfl (Y_loadA (B := some ⟨b1, 0, none⟩) (i := 0) (cs := [vi y.A, vi y.B, vi y.C, vi y.D]) (vs := [vi y.A, vi y.B, vi y.C, vi y.D]) k_ag_47 k_sz_47_4 rfl rfl (hS3.cf (i := 1) rfl) rfl rfl) ?_
  refine ss 101 rfl rfl (Ys_bslice (s := 4) (len := 2) (vs := [(0, .agg #[vi x.A, vi x.B, vi x.C, vi x.D]), (1, .agg #[vi y.A, vi y.B, vi y.C, vi y.D])]) (cs := [vi x.A, vi x.B, vi x.C, vi x.D, vi y.A, vi y.B, vi y.C, vi y.D]) (zs := [vi 0, vi 0, vi 0, vi 0, vi 0, vi 0, vi 0, vi 0]) (m := 8) hS3 k_sl_113_47 k_sz_47_4 k_zc_47 rfl (mpc rfl (mpc rfl mpn)) rfl rfl rfl (by kernel_rfl) (by kernel_rfl) rfl) ?_
  rintro _ w_3 ⟨b3, rfl, hS4⟩
  have hS4 : ST w0 [] _ [⟨some ⟨b, 0, none⟩, 47, [vi x.A, vi x.B, vi x.C, vi x.D], 4⟩, ⟨some ⟨b1, 0, none⟩, 47, [vi y.A, vi y.B, vi y.C, vi y.D], 4⟩, ⟨some ⟨b2, 0, none⟩, 47, [vi 0, vi 0, vi 0, vi 0], 4⟩, ⟨some ⟨b3, 0, none⟩, 47, ([x, y].flatMap enc_Ring), 2 * 4⟩] [] := hS4
  obtain ⟨⟨r_2, r_3⟩, hc, hF⟩ := bind_inv hF
  refine sc 102 rfl rfl (Yc_func (g := 94) (vs := [.agg #[vi (i64.wrap ((i64.wrap ((i64.wrap ((i64.wrap (x.A * y.A)) - (i64.wrap (x.B * y.D)))) - (i64.wrap (x.C * y.C)))) - (i64.wrap (x.D * y.B)))), vi (i64.wrap ((i64.wrap ((i64.wrap ((i64.wrap (x.A * y.B)) + (i64.wrap (x.B * y.A)))) - (i64.wrap (x.C * y.D)))) - (i64.wrap (x.D * y.C)))), vi (i64.wrap ((i64.wrap ((i64.wrap ((i64.wrap (x.A * y.C)) + (i64.wrap (x.B * y.B)))) + (i64.wrap (x.C * y.A)))) - (i64.wrap (x.D * y.D)))), vi (i64.wrap ((i64.wrap ((i64.wrap ((i64.wrap (x.A * y.D)) + (i64.wrap (x.B * y.C)))) + (i64.wrap (x.C * y.B)))) + (i64.wrap (x.D * y.A))))], .slice (some ⟨b3, 0, none⟩) 2 2]) k_call_94 rfl (mc rfl (mc rfl mn)) (c_impl_ringIf (TRing.mk (i64.wrap ((i64.wrap ((i64.wrap ((i64.wrap (x.A * y.A)) - (i64.wrap (x.B * y.D)))) - (i64.wrap (x.C * y.C)))) - (i64.wrap (x.D * y.B)))) (i64.wrap ((i64.wrap ((i64.wrap ((i64.wrap (x.A * y.B)) + (i64.wrap (x.B * y.A)))) - (i64.wrap (x.C * y.D)))) - (i64.wrap (x.D * y.C)))) (i64.wrap ((i64.wrap ((i64.wrap ((i64.wrap (x.A * y.C)) + (i64.wrap (x.B * y.B)))) + (i64.wrap (x.C * y.A)))) - (i64.wrap (x.D * y.D)))) (i64.wrap ((i64.wrap ((i64.wrap ((i64.wrap (x.A * y.D)) + (i64.wrap (x.B * y.C)))) + (i64.wrap (x.C * y.B)))) + (i64.wrap (x.D * y.A))))) [x, y] (some ⟨b3, 0, none⟩) 2 2 _ rfl (hS4.inn [false, false, false, true] rfl [] rfl) hc)) ?_
  rintro _ w_4 ⟨rfl, hd⟩
  have hS5 := hS4.out [false, false, false, true] rfl hd
  have hS5 : ST w0 [] _ [⟨some ⟨b, 0, none⟩, 47, [vi x.A, vi x.B, vi x.C, vi x.D], 4⟩, ⟨some ⟨b1, 0, none⟩, 47, [vi y.A, vi y.B, vi y.C, vi y.D], 4⟩, ⟨some ⟨b2, 0, none⟩, 47, [vi 0, vi 0, vi 0, vi 0], 4⟩] [] := hS5
  refine sq 103 rfl rfl (Y_extract (v := .agg #[vi r_2.A, vi r_2.B, vi r_2.C, vi r_2.D]) rfl rfl rfl) ?_
  refine sq 104 rfl rfl (Y_extract (v := .bool r_3) rfl rfl rfl) ?_
  refine ss0 rfl rfl (Ys_store (i := 2) (s := 4) (B := some ⟨b2, 0, none⟩) (T' := 47) (v := .agg #[vi r_2.A, vi r_2.B, vi r_2.C, vi r_2.D]) (vs := [vi r_2.A, vi r_2.B, vi r_2.C, vi r_2.D]) (k := 0) (cs' := [vi r_2.A, vi r_2.B, vi r_2.C, vi r_2.D]) hS5 k_sz_47_4 rfl rfl rfl rfl rfl rfl rfl (Nat.le_of_ble_eq_true rfl) rfl rfl) ?_
  rintro _ w_5 ⟨rfl, hS6⟩
  have hS6 : ST w0 [] _ [⟨some ⟨b, 0, none⟩, 47, [vi x.A, vi x.B, vi x.C, vi x.D], 4⟩, ⟨some ⟨b1, 0, none⟩, 47, [vi y.A, vi y.B, vi y.C, vi y.D], 4⟩, ⟨some ⟨b2, 0, none⟩, 47, [vi r_2.A, vi r_2.B, vi r_2.C, vi r_2.D], 4⟩] [] := hS6
  refine sq 5 rfl rfl (Y_assign (v := .bool r_3) rfl rfl) ?_
  refine rw_nil ?_
  refine cw_ret ?_
  obtain ⟨rfl, rfl⟩ := pr2 (some_inj hF)
  exact ret2 Tryd.results76 (v1 := .agg #[vi r_2.A, vi r_2.B, vi r_2.C, vi r_2.D]) (resAt_cellA (B := some ⟨b2, 0, none⟩) (i := 0) (cs := [vi r_2.A, vi r_2.B, vi r_2.C, vi r_2.D]) (vs := [vi r_2.A, vi r_2.B, vi r_2.C, vi r_2.D]) rfl k_ag_47 k_sz_47_4 (hS6.cf (i := 2) rfl) rfl rfl) (v2 := .bool r_3) (resAt_tmp rfl) ⟨rfl, (ST.subR (R' := []) (hS6.sel [] rfl rfl) (fun _ h => by cases h))⟩
end Go.VK
