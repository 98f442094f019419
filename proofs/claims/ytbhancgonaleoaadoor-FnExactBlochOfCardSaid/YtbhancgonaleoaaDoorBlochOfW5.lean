/- Walks: each Go function returns what its Lean function says. By program. -/
import Derived.Test.YtbhancgonaleoaaDoorBlochOfFa
import Derived.Test.YtbhancgonaleoaaDoorBlochOfW4
set_option linter.unusedVariables false
set_option maxRecDepth 100000
set_option maxHeartbeats 1000000
namespace Go.VK
open Go.RowKit
open Go.Proofs
open Go.IntKind
attribute [local irreducible] CW RW RA CV Y Yw Yc Ys RetOf
attribute [local irreducible] F_laws_szDyadicS F_laws_szMatrix F_spec_l1In F_spec_l1All F_spec_l1Good F_spec_l2C_ring F_spec_l1Root F_spec_l1Even F_spec_l1Half F_spec_l2Low F_spec_l1Add F_spec_l2C_add F_spec_l1Mul F_spec_l2C_mul F_spec_l2C_times F_spec_l1Conj F_spec_l2Conj F_spec_l3Adj F_spec_l1Has F_spec_l3Dim F_spec_l2Good F_spec_l3Good F_spec_EqualMatrices F_spec_l1Turn F_spec_l2Power F_spec_l3Unit F_spec_IsUnitary F_spec_l9Good F_spec_l1Neg F_spec_l2Neg F_spec_l6One F_spec_l9Pauli F_spec_l9Bloch F_spec_BlochOf F_laws_toRing F_laws_toDyadic F_laws_toDyadicS F_laws_toMatrix F_impl_within F_impl_isDim F_slices_IndexFunc_impl_Dyadic_impl_Dyadic F_slices_ContainsFunc_impl_Dyadic_impl_Dyadic F_impl_isCoef F_impl_IsValidRing F_impl_isEven F_impl_IsValidDyadic F_impl_IsValidMatrix_1 F_impl_IsValidMatrix F_impl_matrixOf F_impl_ringIf F_impl_Conjugate F_impl_ConjDyadic F_impl_Matrix_at F_impl_Adjoint_1 F_impl_Adjoint F_impl_MulRing F_impl_DivRootTwo F_impl_DyadicOf F_impl_MulDyadic F_impl_MulRootTwo F_impl_raised F_impl_combined F_impl_AddRing F_impl_AddDyadic F_impl_MulMatrix_1 F_impl_MulMatrix F_impl_whole F_impl_IdentityMatrix_1 F_impl_IdentityMatrix F_slices_Equal_impl_Dyadic_impl_Dyadic F_impl_EqualMatrices F_impl_IsUnitary F_impl_IsOneQubit F_impl_isTwo F_impl_IsValidGate F_impl_MulOmega F_impl_phase F_impl_bitOf F_impl_flipped F_impl_comesFrom F_impl_small F_impl_entry F_impl_GateMatrix_1 F_impl_GateMatrix F_impl_TraceOf F_impl_blochCell F_impl_BlochOf F_laws_eqRing F_laws_eqDyadic F_laws_eqDyadicS F_laws_eqBloch F_laws_eqMatrix F_laws_markDyadicS F_laws_markMatrix F_laws_markBloch F_laws_heldDyadicS F_laws_heldBloch F_laws_FnExactBlochOf
theorem c_impl_BlochOf (m : TMatrix) (B : Option Addr) (c n : Nat) (w0 : World) (hn : m.Cells.length = n) (hS : ST w0 [] w0 [] [⟨B, (m.Cells.flatMap enc_Dyadic)⟩, ⟨(some ⟨0, 0, none⟩), [vi 1, vi 0, vi 0, vi 0, vi 2]⟩]) {r_ : TBloch} {r_1 : Bool} (hF : F_impl_BlochOf m = some (r_, r_1)) :
    CV Tryd.prog 8 #[.agg #[vi m.Rows, vi m.Cols, .slice B n c]] w0 (fun v w' => ∃ (B1 : Option Addr) (c1 : Nat), v = .tuple #[.agg #[.slice B1 r_.Cells.length c1], .bool r_1] ∧ ST w0 [] w' [⟨B1, 49, (r_.Cells.flatMap enc_Dyadic), c1 * 5⟩] []) := by
  subst hn
  unfold F_impl_BlochOf at hF
  refine cv_of_cw 47 Tryd.func8 rfl Tryd.ntmps8 rfl ?_
  refine cw_seq ?_
  refine cw_region ?_
  refine ss 1 rfl rfl (Ys_box (T := 32) (v := .agg #[vi m.Rows, vi m.Cols, .slice B m.Cells.length c]) (cs := [vi m.Rows, vi m.Cols, .slice B m.Cells.length c]) (m := 3) hS rfl rfl rfl rfl) ?_
  rintro _ w_ ⟨b, rfl, hS1⟩
  refine ss 2 rfl rfl (Ys_alloc (T := 28) (cs := [.slice none 0 0]) (m := 1) hS1 k_zero_28 rfl rfl rfl) ?_
  rintro _ w_1 ⟨b1, rfl, hS2⟩
  have hS2 : ST w0 [] _ [⟨some ⟨b, 0, none⟩, 32, [vi m.Rows, vi m.Cols, .slice B m.Cells.length c], 3⟩, ⟨some ⟨b1, 0, none⟩, 28, [.slice none 0 0], 1⟩] [⟨B, (m.Cells.flatMap enc_Dyadic)⟩, ⟨(some ⟨0, 0, none⟩), [vi 1, vi 0, vi 0, vi 0, vi 2]⟩] := hS2
  refine sq 3 rfl rfl (Y_assign (v := .bool false) rfl rfl) ?_
  refine rw_nil ?_
  refine cw_seq ?_
  refine cw_seq ?_
  refine cw_region ?_
  refine sq 11 rfl rfl (Y_loadA (B := some ⟨b, 0, none⟩) (i := 0) (cs := [vi m.Rows, vi m.Cols, .slice B m.Cells.length c]) (vs := [vi m.Rows, vi m.Cols, .slice B m.Cells.length c]) k_ag_32 k_sz_32_3 rfl rfl (hS2.cf (i := 0) rfl) rfl rfl) ?_
  obtain ⟨r_2, hc, hF⟩ := bind_inv hF
  refine sc 12 rfl rfl (Yc_func (g := 20) (vs := [.agg #[vi m.Rows, vi m.Cols, .slice B m.Cells.length c]]) k_call_20 rfl (mc rfl mn) (c_impl_IsOneQubit m B c m.Cells.length _ rfl (hS2.inn0 [(true, 0)] rfl) hc)) ?_
  rintro _ w_2 ⟨rfl, hd⟩
  have hS3 := hS2.out00 hd
  have hS3 : ST w0 [] _ [⟨some ⟨b, 0, none⟩, 32, [vi m.Rows, vi m.Cols, .slice B m.Cells.length c], 3⟩, ⟨some ⟨b1, 0, none⟩, 28, [.slice none 0 0], 1⟩] [⟨B, (m.Cells.flatMap enc_Dyadic)⟩, ⟨(some ⟨0, 0, none⟩), [vi 1, vi 0, vi 0, vi 0, vi 2]⟩] := hS3
  refine sq 13 rfl rfl (Y_not (p := r_2) rfl rfl) ?_
  refine rw_nil ?_
  refine cw_cond (b := (!r_2)) rfl (fun hb => ?_) (fun hb => ?_)
  · skip
    have hF1 := ct hF hb
    refine cw_seq ?_
    refine cw_region ?_
    refine sq 14 rfl rfl (Y_buildS (zs := [.slice none 0 0]) (vs := []) (cs := [.slice none 0 0]) k_pl_28 k_zero_28 rfl mpn rfl) ?_
    refine ss0 rfl rfl (Ys_store (i := 1) (s := 1) (B := some ⟨b1, 0, none⟩) (T' := 28) (v := .agg #[.slice none 0 0]) (vs := [.slice none 0 0]) (k := 0) (cs' := [.slice none 0 0]) hS3 k_sz_28_1 rfl rfl rfl rfl rfl rfl rfl (Nat.le_of_ble_eq_true rfl) rfl rfl) ?_
    rintro _ w_3 ⟨rfl, hS4⟩
    have hS4 : ST w0 [] _ [⟨some ⟨b, 0, none⟩, 32, [vi m.Rows, vi m.Cols, .slice B m.Cells.length c], 3⟩, ⟨some ⟨b1, 0, none⟩, 28, [.slice none 0 0], 1⟩] [⟨B, (m.Cells.flatMap enc_Dyadic)⟩, ⟨(some ⟨0, 0, none⟩), [vi 1, vi 0, vi 0, vi 0, vi 2]⟩] := hS4
    refine sq 3 rfl rfl (Y_assign (v := .bool false) rfl rfl) ?_
    refine rw_nil ?_
    refine cw_ret ?_
    have hS5 := hS4.addNil 49
    obtain ⟨rfl, rfl⟩ := pr2 (some_inj hF1)
    exact ret2 Tryd.results8 (v1 := .agg #[.slice none 0 0]) (resAt_cellA (B := some ⟨b1, 0, none⟩) (i := 0) (cs := [.slice none 0 0]) (vs := [.slice none 0 0]) rfl k_ag_28 k_sz_28_1 (hS5.cf (i := 1) rfl) rfl rfl) (v2 := .bool false) (resAt_tmp rfl) ⟨none, 0, rfl, (ST.subR (R' := []) (hS5.sel [2] rfl rfl) (fun _ h => by cases h))⟩
  · skip
    have hF2 := cf' hF hb
    refine cw_skip ?_
    refine cw_seq ?_
    refine cw_region ?_
    refine sq 16 rfl rfl (Y_loadA (B := some ⟨b, 0, none⟩) (i := 0) (cs := [vi m.Rows, vi m.Cols, .slice B m.Cells.length c]) (vs := [vi m.Rows, vi m.Cols, .slice B m.Cells.length c]) k_ag_32 k_sz_32_3 rfl rfl (hS3.cf (i := 0) rfl) rfl rfl) ?_
    obtain ⟨⟨r_3, r_4⟩, hc1, hF2⟩ := bind_inv hF2
    refine sc 17 rfl rfl (Yc_func (g := 21) (vs := [.agg #[vi m.Rows, vi m.Cols, .slice B m.Cells.length c]]) k_call_21 rfl (mc rfl mn) (c_impl_Adjoint m B c m.Cells.length _ rfl (hS3.inn0 [(true, 0)] rfl) hc1)) ?_
    rintro _ w_4 ⟨B2, c2, rfl, hd1⟩
    have hS6 := hS3.out0 hd1
    have hS6 : ST w0 [] _ [⟨some ⟨b, 0, none⟩, 32, [vi m.Rows, vi m.Cols, .slice B m.Cells.length c], 3⟩, ⟨some ⟨b1, 0, none⟩, 28, [.slice none 0 0], 1⟩, ⟨B2, 49, (r_3.Cells.flatMap enc_Dyadic), c2 * 5⟩] [⟨B, (m.Cells.flatMap enc_Dyadic)⟩, ⟨(some ⟨0, 0, none⟩), [vi 1, vi 0, vi 0, vi 0, vi 2]⟩] := hS6
    refine sq 15 rfl rfl (Y_move (v := .tuple #[.agg #[vi r_3.Rows, vi r_3.Cols, .slice B2 r_3.Cells.length c2], .bool r_4]) rfl rfl) ?_
    refine sq 18 rfl rfl (Y_extract (v := .agg #[vi r_3.Rows, vi r_3.Cols, .slice B2 r_3.Cells.length c2]) rfl rfl rfl) ?_
    refine sq 19 rfl rfl (Y_extract (v := .bool r_4) rfl rfl rfl) ?_
    refine ss 4 rfl rfl (Ys_alloc (T := 32) (cs := [vi 0, vi 0, .slice none 0 0]) (m := 3) hS6 k_zero_32 rfl rfl rfl) ?_
    rintro _ w_5 ⟨b2, rfl, hS7⟩
    have hS7 : ST w0 [] _ [⟨some ⟨b, 0, none⟩, 32, [vi m.Rows, vi m.Cols, .slice B m.Cells.length c], 3⟩, ⟨some ⟨b1, 0, none⟩, 28, [.slice none 0 0], 1⟩, ⟨B2, 49, (r_3.Cells.flatMap enc_Dyadic), c2 * 5⟩, ⟨some ⟨b2, 0, none⟩, 32, [vi 0, vi 0, .slice none 0 0], 3⟩] [⟨B, (m.Cells.flatMap enc_Dyadic)⟩, ⟨(some ⟨0, 0, none⟩), [vi 1, vi 0, vi 0, vi 0, vi 2]⟩] := hS7
    refine ss0 rfl rfl (Ys_store (i := 3) (s := 3) (B := some ⟨b2, 0, none⟩) (T' := 32) (v := .agg #[vi r_3.Rows, vi r_3.Cols, .slice B2 r_3.Cells.length c2]) (vs := [vi r_3.Rows, vi r_3.Cols, .slice B2 r_3.Cells.length c2]) (k := 0) (cs' := [vi r_3.Rows, vi r_3.Cols, .slice B2 r_3.Cells.length c2]) hS7 k_sz_32_3 rfl rfl rfl rfl rfl rfl rfl (Nat.le_of_ble_eq_true rfl) rfl rfl) ?_
    rintro _ w_6 ⟨rfl, hS8⟩
    have hS8 : ST w0 [] _ [⟨some ⟨b, 0, none⟩, 32, [vi m.Rows, vi m.Cols, .slice B m.Cells.length c], 3⟩, ⟨some ⟨b1, 0, none⟩, 28, [.slice none 0 0], 1⟩, ⟨B2, 49, (r_3.Cells.flatMap enc_Dyadic), c2 * 5⟩, ⟨some ⟨b2, 0, none⟩, 32, [vi r_3.Rows, vi r_3.Cols, .slice B2 r_3.Cells.length c2], 3⟩] [⟨B, (m.Cells.flatMap enc_Dyadic)⟩, ⟨(some ⟨0, 0, none⟩), [vi 1, vi 0, vi 0, vi 0, vi 2]⟩] := hS8
    refine sq 5 rfl rfl (Y_assign (v := .bool r_4) rfl rfl) ?_
    refine rw_nil ?_
    refine cw_seq ?_
    refine cw_region ?_
    refine sq 20 rfl rfl (Y_buildS (zs := [.slice none 0 0]) (vs := []) (cs := [.slice none 0 0]) k_pl_28 k_zero_28 rfl mpn rfl) ?_
    refine ss 6 rfl rfl (Ys_alloc (T := 28) (cs := [.slice none 0 0]) (m := 1) hS8 k_zero_28 rfl rfl rfl) ?_
    rintro _ w_7 ⟨b3, rfl, hS9⟩
    have hS9 : ST w0 [] _ [⟨some ⟨b, 0, none⟩, 32, [vi m.Rows, vi m.Cols, .slice B m.Cells.length c], 3⟩, ⟨some ⟨b1, 0, none⟩, 28, [.slice none 0 0], 1⟩, ⟨B2, 49, (r_3.Cells.flatMap enc_Dyadic), c2 * 5⟩, ⟨some ⟨b2, 0, none⟩, 32, [vi r_3.Rows, vi r_3.Cols, .slice B2 r_3.Cells.length c2], 3⟩, ⟨some ⟨b3, 0, none⟩, 28, [.slice none 0 0], 1⟩] [⟨B, (m.Cells.flatMap enc_Dyadic)⟩, ⟨(some ⟨0, 0, none⟩), [vi 1, vi 0, vi 0, vi 0, vi 2]⟩] := hS9
    refine ss0 rfl rfl (Ys_store (i := 4) (s := 1) (B := some ⟨b3, 0, none⟩) (T' := 28) (v := .agg #[.slice none 0 0]) (vs := [.slice none 0 0]) (k := 0) (cs' := [.slice none 0 0]) hS9 k_sz_28_1 rfl rfl rfl rfl rfl rfl rfl (Nat.le_of_ble_eq_true rfl) rfl rfl) ?_
    rintro _ w_8 ⟨rfl, hS10⟩
    have hS10 : ST w0 [] _ [⟨some ⟨b, 0, none⟩, 32, [vi m.Rows, vi m.Cols, .slice B m.Cells.length c], 3⟩, ⟨some ⟨b1, 0, none⟩, 28, [.slice none 0 0], 1⟩, ⟨B2, 49, (r_3.Cells.flatMap enc_Dyadic), c2 * 5⟩, ⟨some ⟨b2, 0, none⟩, 32, [vi r_3.Rows, vi r_3.Cols, .slice B2 r_3.Cells.length c2], 3⟩, ⟨some ⟨b3, 0, none⟩, 28, [.slice none 0 0], 1⟩] [⟨B, (m.Cells.flatMap enc_Dyadic)⟩, ⟨(some ⟨0, 0, none⟩), [vi 1, vi 0, vi 0, vi 0, vi 2]⟩] := hS10
    refine rw_nil ?_
    refine cw_seq ?_
    refine cw_seq ?_
    refine cw_region ?_
    refine sq 21 rfl rfl (Y_move (v := vi 0) rfl rfl) ?_
    refine rw_nil ?_
    obtain ⟨z, hz, hF3⟩ := bind_inv hF2
    have hS12 := hS10.addNil 49
    refine cw_block ?_
    refine cw_loop (fun k f w => ∃ (i : Nat) (Cells : List TDyadic) (B3 : Option Addr) (c3 : Nat), FF f [(1, pt (some ⟨b, 0, none⟩) 0), (2, pt (some ⟨b1, 0, none⟩) 0), (4, pt (some ⟨b2, 0, none⟩) 0), (6, pt (some ⟨b3, 0, none⟩) 0), (21, vi (i : Int))] ∧ ST w0 [] w [⟨some ⟨b, 0, none⟩, 32, [vi m.Rows, vi m.Cols, .slice B m.Cells.length c], 3⟩, ⟨some ⟨b1, 0, none⟩, 28, [.slice none 0 0], 1⟩, ⟨some ⟨b2, 0, none⟩, 32, [vi r_3.Rows, vi r_3.Cols, .slice B2 r_3.Cells.length c2], 3⟩, ⟨B2, 49, (r_3.Cells.flatMap enc_Dyadic), c2 * 5⟩, ⟨some ⟨b3, 0, none⟩, 28, [.slice B3 Cells.length c3], 1⟩, ⟨B3, 49, (Cells.flatMap enc_Dyadic), c3 * 5⟩] [⟨B, (m.Cells.flatMap enc_Dyadic)⟩, ⟨(some ⟨0, 0, none⟩), [vi 1, vi 0, vi 0, vi 0, vi 2]⟩] ∧ i + k = 3 ∧ forX (F_impl_BlochOf_l1 m r_3) k i Cells = some z) 3 ⟨0, [], none, 0, (FF.cons rfl (FF.cons rfl (FF.cons rfl (FF.cons rfl (FF.cons rfl FF.nil))))), (hS12.sel [0, 1, 3, 2, 4, 5] rfl rfl), Nat.zero_add _, hz⟩ ?_
    rintro k_ f w ⟨i, Cells, B3, c3, hf, hS11, hik, hL⟩
    refine cw_seq ?_
    refine cw_region ?_
    refine sq 22 rfl rfl (Y_lt (k := .i64) (a := (i : Int)) (b := 3) rfl (hf.get 21 4 rfl) rfl) ?_
    refine rw_nil ?_
    refine cw_seq ?_
    refine cw_cond (b := (decide ((i : Int) < 3))) rfl (fun hlt => ?_) (fun hlt => ?_)
    · skip
      have hlt1 : i < 3 := by have h := of_decide_eq_true hlt; omega
      obtain ⟨k_1, rfl⟩ : ∃ k2, k_ = k2 + 1 := ⟨k_ - 1, by omega⟩
      obtain ⟨y, hb1, hL1⟩ := forX_go hL
      unfold F_impl_BlochOf_l1 at hb1
      refine cw_skip ?_
      refine cw_seq ?_
      refine cw_block ?_
      refine cw_seq ?_
      refine cw_region ?_
      refine sq 23 rfl rfl (Y_move (v := vi (i : Int)) rfl (hf.get 21 4 rfl)) ?_
      refine sq 7 rfl rfl (Y_assign (v := vi (i : Int)) rfl rfl) ?_
      refine rw_nil ?_
      refine cw_seq ?_
      refine cw_region ?_
      refine sq 24 rfl rfl (Y_move (v := vi 0) rfl rfl) ?_
      refine rw_nil ?_
      obtain ⟨z1, hz1, hF4⟩ := bind_inv hb1
      refine cw_block ?_
      refine cw_loop (fun k f w => ∃ (i1 : Nat) (Cells1 : List TDyadic) (B4 : Option Addr) (c4 : Nat), FF f [(1, pt (some ⟨b, 0, none⟩) 0), (2, pt (some ⟨b1, 0, none⟩) 0), (4, pt (some ⟨b2, 0, none⟩) 0), (6, pt (some ⟨b3, 0, none⟩) 0), (7, vi (i : Int)), (21, vi (i : Int)), (24, vi (i1 : Int))] ∧ ST w0 [] w [⟨some ⟨b, 0, none⟩, 32, [vi m.Rows, vi m.Cols, .slice B m.Cells.length c], 3⟩, ⟨some ⟨b1, 0, none⟩, 28, [.slice none 0 0], 1⟩, ⟨some ⟨b2, 0, none⟩, 32, [vi r_3.Rows, vi r_3.Cols, .slice B2 r_3.Cells.length c2], 3⟩, ⟨B2, 49, (r_3.Cells.flatMap enc_Dyadic), c2 * 5⟩, ⟨some ⟨b3, 0, none⟩, 28, [.slice B4 Cells1.length c4], 1⟩, ⟨B4, 49, (Cells1.flatMap enc_Dyadic), c4 * 5⟩] [⟨B, (m.Cells.flatMap enc_Dyadic)⟩, ⟨(some ⟨0, 0, none⟩), [vi 1, vi 0, vi 0, vi 0, vi 2]⟩] ∧ i1 + k = 3 ∧ forX (F_impl_BlochOf_l2 m r_3 i) k i1 Cells1 = some z1) 3 ⟨0, Cells, B3, c3, (FF.cons (hf.get 1 0 rfl) (FF.cons (hf.get 2 1 rfl) (FF.cons (hf.get 4 2 rfl) (FF.cons (hf.get 6 3 rfl) (FF.cons rfl (FF.cons (hf.get 21 4 rfl) (FF.cons rfl FF.nil))))))), (hS11.sel [0, 1, 2, 3, 4, 5] rfl rfl), Nat.zero_add _, hz1⟩ ?_
      rintro k_2 f w ⟨i1, Cells1, B4, c4, hf1, hS13, hik1, hL2⟩
      refine cw_seq ?_
      refine cw_region ?_
      refine sq 25 rfl rfl (Y_lt (k := .i64) (a := (i1 : Int)) (b := 3) rfl (hf1.get 24 6 rfl) rfl) ?_
      refine rw_nil ?_
      refine cw_seq ?_
      refine cw_cond (b := (decide ((i1 : Int) < 3))) rfl (fun hlt2 => ?_) (fun hlt2 => ?_)
      · skip
        have hlt3 : i1 < 3 := by have h := of_decide_eq_true hlt2; omega
        obtain ⟨k_3, rfl⟩ : ∃ k2, k_2 = k2 + 1 := ⟨k_2 - 1, by omega⟩
        obtain ⟨y1, hb2, hL3⟩ := forX_go hL2
        unfold F_impl_BlochOf_l2 at hb2
        refine cw_skip ?_
        refine cw_seq ?_
        refine cw_block ?_
        refine cw_seq ?_
        refine cw_region ?_
        refine sq 26 rfl rfl (Y_move (v := vi (i1 : Int)) rfl (hf1.get 24 6 rfl)) ?_
        refine sq 8 rfl rfl (Y_assign (v := vi (i1 : Int)) rfl rfl) ?_
        refine rw_nil ?_
        refine cw_seq ?_
        refine cw_region ?_
        refine sq 28 rfl rfl (Y_loadA (B := some ⟨b, 0, none⟩) (i := 0) (cs := [vi m.Rows, vi m.Cols, .slice B m.Cells.length c]) (vs := [vi m.Rows, vi m.Cols, .slice B m.Cells.length c]) k_ag_32 k_sz_32_3 rfl (hf1.get 1 0 rfl) (hS13.cf (i := 0) rfl) rfl rfl) ?_
        refine sq 29 rfl rfl (Y_loadA (B := some ⟨b2, 0, none⟩) (i := 0) (cs := [vi r_3.Rows, vi r_3.Cols, .slice B2 r_3.Cells.length c2]) (vs := [vi r_3.Rows, vi r_3.Cols, .slice B2 r_3.Cells.length c2]) k_ag_32 k_sz_32_3 rfl (hf1.get 4 2 rfl) (hS13.cf (i := 2) rfl) rfl rfl) ?_
        refine sq 30 rfl rfl (Y_move (v := vi (i : Int)) rfl (hf1.get 7 4 rfl)) ?_
        refine sq 31 rfl rfl (Y_move (v := vi (i1 : Int)) rfl rfl) ?_
        obtain ⟨⟨r_5, r_6⟩, hc2, hb2⟩ := bind_inv hb2
        refine sc 32 rfl rfl (Yc_func (g := 22) (vs := [.agg #[vi m.Rows, vi m.Cols, .slice B m.Cells.length c], .agg #[vi r_3.Rows, vi r_3.Cols, .slice B2 r_3.Cells.length c2], vi (i : Int), vi (i1 : Int)]) k_call_22 rfl (mc rfl (mc rfl (mc rfl (mc rfl mn)))) (c_impl_blochCell m r_3 (i : Int) (i1 : Int) B c m.Cells.length B2 c2 r_3.Cells.length _ rfl rfl (hS13.inn0 [(true, 0), (false, 3), (true, 1)] rfl) hc2)) ?_
        rintro _ w_9 ⟨rfl, hd2⟩
        have hS14 := hS13.out00 hd2
        have hS14 : ST w0 [] _ [⟨some ⟨b, 0, none⟩, 32, [vi m.Rows, vi m.Cols, .slice B m.Cells.length c], 3⟩, ⟨some ⟨b1, 0, none⟩, 28, [.slice none 0 0], 1⟩, ⟨some ⟨b2, 0, none⟩, 32, [vi r_3.Rows, vi r_3.Cols, .slice B2 r_3.Cells.length c2], 3⟩, ⟨B2, 49, (r_3.Cells.flatMap enc_Dyadic), c2 * 5⟩, ⟨some ⟨b3, 0, none⟩, 28, [.slice B4 Cells1.length c4], 1⟩, ⟨B4, 49, (Cells1.flatMap enc_Dyadic), c4 * 5⟩] [⟨B, (m.Cells.flatMap enc_Dyadic)⟩, ⟨(some ⟨0, 0, none⟩), [vi 1, vi 0, vi 0, vi 0, vi 2]⟩] := hS14
        refine sq 27 rfl rfl (Y_move (v := .tuple #[.agg #[vi r_5.Num.A, vi r_5.Num.B, vi r_5.Num.C, vi r_5.Num.D, vi r_5.Exp], .bool r_6]) rfl rfl) ?_
        refine sq 33 rfl rfl (Y_extract (v := .agg #[vi r_5.Num.A, vi r_5.Num.B, vi r_5.Num.C, vi r_5.Num.D, vi r_5.Exp]) rfl rfl rfl) ?_
        refine sq 34 rfl rfl (Y_extract (v := .bool r_6) rfl rfl rfl) ?_
        refine ss 9 rfl rfl (Ys_alloc (T := 49) (cs := [vi 0, vi 0, vi 0, vi 0, vi 0]) (m := 5) hS14 k_zero_49 rfl rfl rfl) ?_
        rintro _ w_10 ⟨b4, rfl, hS15⟩
        have hS15 : ST w0 [] _ [⟨some ⟨b, 0, none⟩, 32, [vi m.Rows, vi m.Cols, .slice B m.Cells.length c], 3⟩, ⟨some ⟨b1, 0, none⟩, 28, [.slice none 0 0], 1⟩, ⟨some ⟨b2, 0, none⟩, 32, [vi r_3.Rows, vi r_3.Cols, .slice B2 r_3.Cells.length c2], 3⟩, ⟨B2, 49, (r_3.Cells.flatMap enc_Dyadic), c2 * 5⟩, ⟨some ⟨b3, 0, none⟩, 28, [.slice B4 Cells1.length c4], 1⟩, ⟨B4, 49, (Cells1.flatMap enc_Dyadic), c4 * 5⟩, ⟨some ⟨b4, 0, none⟩, 49, [vi 0, vi 0, vi 0, vi 0, vi 0], 5⟩] [⟨B, (m.Cells.flatMap enc_Dyadic)⟩, ⟨(some ⟨0, 0, none⟩), [vi 1, vi 0, vi 0, vi 0, vi 2]⟩] := hS15
        refine ss0 rfl rfl (Ys_store (i := 6) (s := 5) (B := some ⟨b4, 0, none⟩) (T' := 49) (v := .agg #[vi r_5.Num.A, vi r_5.Num.B, vi r_5.Num.C, vi r_5.Num.D, vi r_5.Exp]) (vs := [vi r_5.Num.A, vi r_5.Num.B, vi r_5.Num.C, vi r_5.Num.D, vi r_5.Exp]) (k := 0) (cs' := [vi r_5.Num.A, vi r_5.Num.B, vi r_5.Num.C, vi r_5.Num.D, vi r_5.Exp]) hS15 k_sz_49_5 rfl rfl rfl rfl rfl rfl rfl (Nat.le_of_ble_eq_true rfl) rfl rfl) ?_
        rintro _ w_11 ⟨rfl, hS16⟩
        have hS16 : ST w0 [] _ [⟨some ⟨b, 0, none⟩, 32, [vi m.Rows, vi m.Cols, .slice B m.Cells.length c], 3⟩, ⟨some ⟨b1, 0, none⟩, 28, [.slice none 0 0], 1⟩, ⟨some ⟨b2, 0, none⟩, 32, [vi r_3.Rows, vi r_3.Cols, .slice B2 r_3.Cells.length c2], 3⟩, ⟨B2, 49, (r_3.Cells.flatMap enc_Dyadic), c2 * 5⟩, ⟨some ⟨b3, 0, none⟩, 28, [.slice B4 Cells1.length c4], 1⟩, ⟨B4, 49, (Cells1.flatMap enc_Dyadic), c4 * 5⟩, ⟨some ⟨b4, 0, none⟩, 49, [vi r_5.Num.A, vi r_5.Num.B, vi r_5.Num.C, vi r_5.Num.D, vi r_5.Exp], 5⟩] [⟨B, (m.Cells.flatMap enc_Dyadic)⟩, ⟨(some ⟨0, 0, none⟩), [vi 1, vi 0, vi 0, vi 0, vi 2]⟩] := hS16
        refine sq 10 rfl rfl (Y_assign (v := .bool r_6) rfl rfl) ?_
        refine rw_nil ?_
        refine cw_seq ?_
        refine cw_seq ?_
        refine cw_region ?_
        refine sq 35 rfl rfl (Y_move (v := .bool r_6) rfl rfl) ?_
        refine sq 36 rfl rfl (Y_not (p := r_6) rfl rfl) ?_
        refine rw_nil ?_
        refine cw_cond (b := (!r_6)) rfl (fun hb3 => ?_) (fun hb3 => ?_)
        · skip
          have hF5 := ct hb2 hb3
          refine cw_seq ?_
          refine cw_region ?_
          refine sq 37 rfl rfl (Y_buildS (zs := [.slice none 0 0]) (vs := []) (cs := [.slice none 0 0]) k_pl_28 k_zero_28 rfl mpn rfl) ?_
          refine ss0 rfl rfl (Ys_store (i := 1) (s := 1) (B := some ⟨b1, 0, none⟩) (T' := 28) (v := .agg #[.slice none 0 0]) (vs := [.slice none 0 0]) (k := 0) (cs' := [.slice none 0 0]) hS16 k_sz_28_1 rfl (hf1.get 2 1 rfl) rfl rfl rfl rfl rfl (Nat.le_of_ble_eq_true rfl) rfl rfl) ?_
          rintro _ w_12 ⟨rfl, hS17⟩
          have hS17 : ST w0 [] _ [⟨some ⟨b, 0, none⟩, 32, [vi m.Rows, vi m.Cols, .slice B m.Cells.length c], 3⟩, ⟨some ⟨b1, 0, none⟩, 28, [.slice none 0 0], 1⟩, ⟨some ⟨b2, 0, none⟩, 32, [vi r_3.Rows, vi r_3.Cols, .slice B2 r_3.Cells.length c2], 3⟩, ⟨B2, 49, (r_3.Cells.flatMap enc_Dyadic), c2 * 5⟩, ⟨some ⟨b3, 0, none⟩, 28, [.slice B4 Cells1.length c4], 1⟩, ⟨B4, 49, (Cells1.flatMap enc_Dyadic), c4 * 5⟩, ⟨some ⟨b4, 0, none⟩, 49, [vi r_5.Num.A, vi r_5.Num.B, vi r_5.Num.C, vi r_5.Num.D, vi r_5.Exp], 5⟩] [⟨B, (m.Cells.flatMap enc_Dyadic)⟩, ⟨(some ⟨0, 0, none⟩), [vi 1, vi 0, vi 0, vi 0, vi 2]⟩] := hS17
          refine sq 3 rfl rfl (Y_assign (v := .bool false) rfl rfl) ?_
          refine rw_nil ?_
          refine cw_ret ?_
          have hS18 := hS17.addNil 49
          obtain rfl := some_inj hF5
          obtain rfl := some_inj hL3
          obtain rfl := some_inj hF4
          obtain rfl := some_inj hL1
          obtain ⟨rfl, rfl⟩ := pr2 (some_inj hF3)
          exact ret2 Tryd.results8 (v1 := .agg #[.slice none 0 0]) (resAt_cellA (B := some ⟨b1, 0, none⟩) (i := 0) (cs := [.slice none 0 0]) (vs := [.slice none 0 0]) (hf1.get 2 1 rfl) k_ag_28 k_sz_28_1 (hS18.cf (i := 1) rfl) rfl rfl) (v2 := .bool false) (resAt_tmp rfl) ⟨none, 0, rfl, (ST.subR (R' := []) (hS18.sel [7] rfl rfl) (fun _ h => by cases h))⟩
        · skip
          have hF6 := cf' hb2 hb3
          refine cw_skip ?_
          refine cw_region ?_
          refine sq 38 rfl rfl (Y_fieldAddr (B := some ⟨b3, 0, none⟩) (i := 0) (s := 0) k_fd_28_0_0_26 k_sz_26_1 rfl (hf1.get 6 3 rfl)) ?_
          refine sq 39 rfl rfl (Y_load1 (B := some ⟨b3, 0, none⟩) (i := 0) (cs := [.slice B4 Cells1.length c4]) (v := .slice B4 Cells1.length c4) k_sc_26 rfl rfl (hS16.cf (i := 4) rfl) rfl) ?_
          refine sq 40 rfl rfl (Y_loadA (B := some ⟨b4, 0, none⟩) (i := 0) (cs := [vi r_5.Num.A, vi r_5.Num.B, vi r_5.Num.C, vi r_5.Num.D, vi r_5.Exp]) (vs := [vi r_5.Num.A, vi r_5.Num.B, vi r_5.Num.C, vi r_5.Num.D, vi r_5.Exp]) k_ag_49 k_sz_49_5 rfl rfl (hS16.cf (i := 6) rfl) rfl rfl) ?_
          refine ss 41 rfl rfl (Ys_bslice (s := 5) (len := 1) (vs := [(0, .agg #[vi r_5.Num.A, vi r_5.Num.B, vi r_5.Num.C, vi r_5.Num.D, vi r_5.Exp])]) (cs := [vi r_5.Num.A, vi r_5.Num.B, vi r_5.Num.C, vi r_5.Num.D, vi r_5.Exp]) (zs := [vi 0, vi 0, vi 0, vi 0, vi 0]) (m := 5) hS16 k_sl_26_49 k_sz_49_5 k_zc_49 rfl (mpc rfl mpn) rfl rfl rfl (by kernel_rfl) (by kernel_rfl) rfl) ?_
          rintro _ w_13 ⟨b5, rfl, hS19⟩
          have hS19 : ST w0 [] _ [⟨some ⟨b, 0, none⟩, 32, [vi m.Rows, vi m.Cols, .slice B m.Cells.length c], 3⟩, ⟨some ⟨b1, 0, none⟩, 28, [.slice none 0 0], 1⟩, ⟨some ⟨b2, 0, none⟩, 32, [vi r_3.Rows, vi r_3.Cols, .slice B2 r_3.Cells.length c2], 3⟩, ⟨B2, 49, (r_3.Cells.flatMap enc_Dyadic), c2 * 5⟩, ⟨some ⟨b3, 0, none⟩, 28, [.slice B4 Cells1.length c4], 1⟩, ⟨B4, 49, (Cells1.flatMap enc_Dyadic), c4 * 5⟩, ⟨some ⟨b4, 0, none⟩, 49, [vi r_5.Num.A, vi r_5.Num.B, vi r_5.Num.C, vi r_5.Num.D, vi r_5.Exp], 5⟩, ⟨some ⟨b5, 0, none⟩, 49, ([r_5].flatMap enc_Dyadic), 1 * 5⟩] [⟨B, (m.Cells.flatMap enc_Dyadic)⟩, ⟨(some ⟨0, 0, none⟩), [vi 1, vi 0, vi 0, vi 0, vi 2]⟩] := hS19
          obtain ⟨hap, hF6⟩ := chk_inv hF6
          refine ss 42 rfl rfl (Ys_append (s := 5) (by' := 40) (i := 5) (nn := Cells1.length) (c := c4) (k := 1) (len := (Cells1 ++ [r_5]).length) (B := B4) (xs := ([r_5].flatMap enc_Dyadic)) (cs' := ((Cells1 ++ [r_5]).flatMap enc_Dyadic)) hS19 k_sl_26_49 k_sz_49_5 k_by_49_40 k_zero_49 rfl (by decide) rfl rfl rfl rfl (fm_lenn (l := Cells1) enc_Dyadic_len rfl) rfl (hS19.cf (i := 7) rfl) (fm_lenn (l := [r_5]) enc_Dyadic_len rfl) (fm_one' (enc := enc_Dyadic) enc_Dyadic_one [r_5]) (by have := hap; omega) (by have := hap; simp only [maxLen]; omega) (fm_app _ _) (app_len (l := Cells1) (l' := [r_5]) rfl rfl)) ?_
          rintro _ w_14 ⟨B5, c5, rfl, hS20⟩
          have hS20 : ST w0 [] _ [⟨some ⟨b, 0, none⟩, 32, [vi m.Rows, vi m.Cols, .slice B m.Cells.length c], 3⟩, ⟨some ⟨b1, 0, none⟩, 28, [.slice none 0 0], 1⟩, ⟨some ⟨b2, 0, none⟩, 32, [vi r_3.Rows, vi r_3.Cols, .slice B2 r_3.Cells.length c2], 3⟩, ⟨B2, 49, (r_3.Cells.flatMap enc_Dyadic), c2 * 5⟩, ⟨some ⟨b3, 0, none⟩, 28, [.slice B4 Cells1.length c4], 1⟩, ⟨B5, 49, ((Cells1 ++ [r_5]).flatMap enc_Dyadic), c5 * 5⟩, ⟨some ⟨b4, 0, none⟩, 49, [vi r_5.Num.A, vi r_5.Num.B, vi r_5.Num.C, vi r_5.Num.D, vi r_5.Exp], 5⟩, ⟨some ⟨b5, 0, none⟩, 49, ([r_5].flatMap enc_Dyadic), 1 * 5⟩] [⟨B, (m.Cells.flatMap enc_Dyadic)⟩, ⟨(some ⟨0, 0, none⟩), [vi 1, vi 0, vi 0, vi 0, vi 2]⟩] := hS20
          refine sq 43 rfl rfl (Y_fieldAddr (B := some ⟨b3, 0, none⟩) (i := 0) (s := 0) k_fd_28_0_0_26 k_sz_26_1 rfl (hf1.get 6 3 rfl)) ?_
          refine ss0 rfl rfl (Ys_store (i := 4) (s := 1) (B := some ⟨b3, 0, none⟩) (T' := 28) (v := .slice B5 ((Cells1 ++ [r_5]).length) c5) (vs := [.slice B5 ((Cells1 ++ [r_5]).length) c5]) (k := 0) (cs' := [.slice B5 ((Cells1 ++ [r_5]).length) c5]) hS20 k_sz_26_1 rfl rfl rfl rfl rfl rfl rfl (Nat.le_of_ble_eq_true rfl) rfl rfl) ?_
          rintro _ w_15 ⟨rfl, hS21⟩
          have hS21 : ST w0 [] _ [⟨some ⟨b, 0, none⟩, 32, [vi m.Rows, vi m.Cols, .slice B m.Cells.length c], 3⟩, ⟨some ⟨b1, 0, none⟩, 28, [.slice none 0 0], 1⟩, ⟨some ⟨b2, 0, none⟩, 32, [vi r_3.Rows, vi r_3.Cols, .slice B2 r_3.Cells.length c2], 3⟩, ⟨B2, 49, (r_3.Cells.flatMap enc_Dyadic), c2 * 5⟩, ⟨some ⟨b3, 0, none⟩, 28, [.slice B5 ((Cells1 ++ [r_5]).length) c5], 1⟩, ⟨B5, 49, ((Cells1 ++ [r_5]).flatMap enc_Dyadic), c5 * 5⟩, ⟨some ⟨b4, 0, none⟩, 49, [vi r_5.Num.A, vi r_5.Num.B, vi r_5.Num.C, vi r_5.Num.D, vi r_5.Exp], 5⟩, ⟨some ⟨b5, 0, none⟩, 49, ([r_5].flatMap enc_Dyadic), 1 * 5⟩] [⟨B, (m.Cells.flatMap enc_Dyadic)⟩, ⟨(some ⟨0, 0, none⟩), [vi 1, vi 0, vi 0, vi 0, vi 2]⟩] := hS21
          refine rw_nil ?_
          refine cw_region ?_
          refine sq 44 rfl rfl (Y_add (k := .i64) (a := (i1 : Int)) (b := 1) rfl (hf1.get 24 6 rfl) rfl) ?_
          refine sq 24 rfl rfl (Y_move (v := vi (i64.wrap ((i1 : Int) + 1))) rfl rfl) ?_
          refine rw_nil ?_
          obtain rfl := some_inj hF6
          exact ⟨k_3, Nat.lt_succ_self _, i1 + 1, (Cells1 ++ [r_5]), B5, c5, (FF.cons (hf1.get 1 0 rfl) (FF.cons (hf1.get 2 1 rfl) (FF.cons (hf1.get 4 2 rfl) (FF.cons (hf1.get 6 3 rfl) (FF.cons (hf1.get 7 4 rfl) (FF.cons (hf1.get 21 5 rfl) (FF.cons (congrArg (Value.int .i64) (wr_succ hlt3 (show 3 ≤ 9223372036854775807 by decide))) FF.nil))))))), (hS21.sel [0, 1, 2, 3, 4, 5] rfl rfl), (by omega), hL3⟩
      · skip
        obtain rfl : k_2 = 0 := by have h := of_decide_eq_false hlt2; omega
        refine cw_exit rfl ?_
        obtain rfl := some_inj hL2
        refine cw_region ?_
        refine sq 45 rfl rfl (Y_add (k := .i64) (a := (i : Int)) (b := 1) rfl (hf1.get 21 5 rfl) rfl) ?_
        refine sq 21 rfl rfl (Y_move (v := vi (i64.wrap ((i : Int) + 1))) rfl rfl) ?_
        refine rw_nil ?_
        obtain rfl := some_inj hF4
        exact ⟨k_1, Nat.lt_succ_self _, i + 1, Cells1, B4, c4, (FF.cons (hf1.get 1 0 rfl) (FF.cons (hf1.get 2 1 rfl) (FF.cons (hf1.get 4 2 rfl) (FF.cons (hf1.get 6 3 rfl) (FF.cons (congrArg (Value.int .i64) (wr_succ hlt1 (show 3 ≤ 9223372036854775807 by decide))) FF.nil))))), (hS13.sel [0, 1, 2, 3, 4, 5] rfl rfl), (by omega), hL1⟩
    · skip
      obtain rfl : k_ = 0 := by have h := of_decide_eq_false hlt; omega
      refine cw_exit rfl ?_
      obtain rfl := some_inj hL
      refine cw_seq ?_
      refine cw_region ?_
      refine sq 46 rfl rfl (Y_loadA (B := some ⟨b3, 0, none⟩) (i := 0) (cs := [.slice B3 Cells.length c3]) (vs := [.slice B3 Cells.length c3]) k_ag_28 k_sz_28_1 rfl (hf.get 6 3 rfl) (hS11.cf (i := 4) rfl) rfl rfl) ?_
      refine ss0 rfl rfl (Ys_store (i := 1) (s := 1) (B := some ⟨b1, 0, none⟩) (T' := 28) (v := .agg #[.slice B3 Cells.length c3]) (vs := [.slice B3 Cells.length c3]) (k := 0) (cs' := [.slice B3 Cells.length c3]) hS11 k_sz_28_1 rfl (hf.get 2 1 rfl) rfl rfl rfl rfl rfl (Nat.le_of_ble_eq_true rfl) rfl rfl) ?_
      rintro _ w_16 ⟨rfl, hS22⟩
      have hS22 : ST w0 [] _ [⟨some ⟨b, 0, none⟩, 32, [vi m.Rows, vi m.Cols, .slice B m.Cells.length c], 3⟩, ⟨some ⟨b1, 0, none⟩, 28, [.slice B3 Cells.length c3], 1⟩, ⟨some ⟨b2, 0, none⟩, 32, [vi r_3.Rows, vi r_3.Cols, .slice B2 r_3.Cells.length c2], 3⟩, ⟨B2, 49, (r_3.Cells.flatMap enc_Dyadic), c2 * 5⟩, ⟨some ⟨b3, 0, none⟩, 28, [.slice B3 Cells.length c3], 1⟩, ⟨B3, 49, (Cells.flatMap enc_Dyadic), c3 * 5⟩] [⟨B, (m.Cells.flatMap enc_Dyadic)⟩, ⟨(some ⟨0, 0, none⟩), [vi 1, vi 0, vi 0, vi 0, vi 2]⟩] := hS22
      refine sq 3 rfl rfl (Y_assign (v := .bool true) rfl rfl) ?_
      refine rw_nil ?_
      refine cw_ret ?_
      obtain ⟨rfl, rfl⟩ := pr2 (some_inj hF3)
      exact ret2 Tryd.results8 (v1 := .agg #[.slice B3 Cells.length c3]) (resAt_cellA (B := some ⟨b1, 0, none⟩) (i := 0) (cs := [.slice B3 Cells.length c3]) (vs := [.slice B3 Cells.length c3]) (hf.get 2 1 rfl) k_ag_28 k_sz_28_1 (hS22.cf (i := 1) rfl) rfl rfl) (v2 := .bool true) (resAt_tmp rfl) ⟨B3, c3, rfl, (ST.subR (R' := []) (hS22.sel [5] rfl rfl) (fun _ h => by cases h))⟩

theorem c_laws_eqRing (a : TRing) (b : TRing)  (w0 : World)  (hS : ST w0 [] w0 [] []) {r_ : Bool} (hF : F_laws_eqRing a b = some r_) :
    CV Tryd.prog 78 #[.agg #[vi a.A, vi a.B, vi a.C, vi a.D], .agg #[vi b.A, vi b.B, vi b.C, vi b.D]] w0 (fun v w' => v = .bool r_ ∧ ST w0 [] w' [] []) := by
  unfold F_laws_eqRing at hF
  refine cv_of_cw 25 Tryd.func78 rfl Tryd.ntmps78 rfl ?_
  refine cw_seq ?_
  refine cw_region ?_
  refine ss 2 rfl rfl (Ys_box (T := 47) (v := .agg #[vi a.A, vi a.B, vi a.C, vi a.D]) (cs := [vi a.A, vi a.B, vi a.C, vi a.D]) (m := 4) hS rfl rfl rfl rfl) ?_
  rintro _ w_ ⟨b1, rfl, hS1⟩
  refine ss 3 rfl rfl (Ys_box (T := 47) (v := .agg #[vi b.A, vi b.B, vi b.C, vi b.D]) (cs := [vi b.A, vi b.B, vi b.C, vi b.D]) (m := 4) hS1 rfl rfl rfl rfl) ?_
  rintro _ w_1 ⟨b2, rfl, hS2⟩
  have hS2 : ST w0 [] _ [⟨some ⟨b1, 0, none⟩, 47, [vi a.A, vi a.B, vi a.C, vi a.D], 4⟩, ⟨some ⟨b2, 0, none⟩, 47, [vi b.A, vi b.B, vi b.C, vi b.D], 4⟩] [] := hS2
  refine sq 4 rfl rfl (Y_assign (v := .bool false) rfl rfl) ?_
  refine rw_nil ?_
  refine cw_seq ?_
  refine cw_seq ?_
  refine cw_region ?_
  refine sq 5 rfl rfl (Y_fieldAddr (B := some ⟨b1, 0, none⟩) (i := 0) (s := 0) k_fd_47_0_0_3 k_sz_3_1 rfl rfl) ?_
  refine sq 6 rfl rfl (Y_load1 (B := some ⟨b1, 0, none⟩) (i := 0) (cs := [vi a.A, vi a.B, vi a.C, vi a.D]) (v := vi a.A) k_sc_3 rfl rfl (hS2.cf (i := 0) rfl) rfl) ?_
  refine sq 7 rfl rfl (Y_fieldAddr (B := some ⟨b2, 0, none⟩) (i := 0) (s := 0) k_fd_47_0_0_3 k_sz_3_1 rfl rfl) ?_
  refine sq 8 rfl rfl (Y_load1 (B := some ⟨b2, 0, none⟩) (i := 0) (cs := [vi b.A, vi b.B, vi b.C, vi b.D]) (v := vi b.A) k_sc_3 rfl rfl (hS2.cf (i := 1) rfl) rfl) ?_
  refine sq 9 rfl rfl (Y_ne (k := .i64) (a := a.A) (b := b.A) rfl rfl rfl) ?_
  refine rw_nil ?_
  refine cw_cond (b := (a.A != b.A)) rfl (fun hb => ?_) (fun hb => ?_)
  · skip
    have hF1 := ct hF hb
    refine cw_seq ?_
    refine cw_region ?_
    refine sq 4 rfl rfl (Y_assign (v := .bool false) rfl rfl) ?_
    refine rw_nil ?_
    refine cw_ret ?_
    obtain rfl := some_inj hF1
    exact ret1 Tryd.results78 (v1 := .bool false) (resAt_tmp rfl) ⟨rfl, (ST.subR (R' := []) (hS2.sel [] rfl rfl) (fun _ h => by cases h))⟩
  · skip
    have hF2 := cf' hF hb
    refine cw_skip ?_
    refine cw_seq ?_
    refine cw_seq ?_
    refine cw_region ?_
    refine sq 10 rfl rfl (Y_fieldAddr (B := some ⟨b1, 0, none⟩) (i := 0) (s := 0) k_fd_47_1_1_3 k_sz_3_1 rfl rfl) ?_
    refine sq 11 rfl rfl (Y_load1 (B := some ⟨b1, 0, none⟩) (i := 1) (cs := [vi a.A, vi a.B, vi a.C, vi a.D]) (v := vi a.B) k_sc_3 rfl rfl (hS2.cf (i := 0) rfl) rfl) ?_
    refine sq 12 rfl rfl (Y_fieldAddr (B := some ⟨b2, 0, none⟩) (i := 0) (s := 0) k_fd_47_1_1_3 k_sz_3_1 rfl rfl) ?_
    refine sq 13 rfl rfl (Y_load1 (B := some ⟨b2, 0, none⟩) (i := 1) (cs := [vi b.A, vi b.B, vi b.C, vi b.D]) (v := vi b.B) k_sc_3 rfl rfl (hS2.cf (i := 1) rfl) rfl) ?_
    refine sq 14 rfl rfl (Y_ne (k := .i64) (a := a.B) (b := b.B) rfl rfl rfl) ?_
    refine rw_nil ?_
    refine cw_cond (b := (a.B != b.B)) rfl (fun hb1 => ?_) (fun hb1 => ?_)
    · skip
      have hF3 := ct hF2 hb1
      refine cw_seq ?_
      refine cw_region ?_
      refine sq 4 rfl rfl (Y_assign (v := .bool false) rfl rfl) ?_
      refine rw_nil ?_
      refine cw_ret ?_
      obtain rfl := some_inj hF3
      exact ret1 Tryd.results78 (v1 := .bool false) (resAt_tmp rfl) ⟨rfl, (ST.subR (R' := []) (hS2.sel [] rfl rfl) (fun _ h => by cases h))⟩
    · skip
      have hF4 := cf' hF2 hb1
      refine cw_skip ?_
      refine cw_seq ?_
      refine cw_seq ?_
      refine cw_region ?_
      refine sq 15 rfl rfl (Y_fieldAddr (B := some ⟨b1, 0, none⟩) (i := 0) (s := 0) k_fd_47_2_2_3 k_sz_3_1 rfl rfl) ?_
      refine sq 16 rfl rfl (Y_load1 (B := some ⟨b1, 0, none⟩) (i := 2) (cs := [vi a.A, vi a.B, vi a.C, vi a.D]) (v := vi a.C) k_sc_3 rfl rfl (hS2.cf (i := 0) rfl) rfl) ?_
      refine sq 17 rfl rfl (Y_fieldAddr (B := some ⟨b2, 0, none⟩) (i := 0) (s := 0) k_fd_47_2_2_3 k_sz_3_1 rfl rfl) ?_
      refine sq 18 rfl rfl (Y_load1 (B := some ⟨b2, 0, none⟩) (i := 2) (cs := [vi b.A, vi b.B, vi b.C, vi b.D]) (v := vi b.C) k_sc_3 rfl rfl (hS2.cf (i := 1) rfl) rfl) ?_
      refine sq 19 rfl rfl (Y_ne (k := .i64) (a := a.C) (b := b.C) rfl rfl rfl) ?_
      refine rw_nil ?_
      refine cw_cond (b := (a.C != b.C)) rfl (fun hb2 => ?_) (fun hb2 => ?_)
      · skip
        have hF5 := ct hF4 hb2
        refine cw_seq ?_
        refine cw_region ?_
        refine sq 4 rfl rfl (Y_assign (v := .bool false) rfl rfl) ?_
        refine rw_nil ?_
        refine cw_ret ?_
        obtain rfl := some_inj hF5
        exact ret1 Tryd.results78 (v1 := .bool false) (resAt_tmp rfl) ⟨rfl, (ST.subR (R' := []) (hS2.sel [] rfl rfl) (fun _ h => by cases h))⟩
      · skip
        have hF6 := cf' hF4 hb2
        refine cw_skip ?_
        refine cw_seq ?_
        refine cw_seq ?_
        refine cw_region ?_
        refine sq 20 rfl rfl (Y_fieldAddr (B := some ⟨b1, 0, none⟩) (i := 0) (s := 0) k_fd_47_3_3_3 k_sz_3_1 rfl rfl) ?_
        refine sq 21 rfl rfl (Y_load1 (B := some ⟨b1, 0, none⟩) (i := 3) (cs := [vi a.A, vi a.B, vi a.C, vi a.D]) (v := vi a.D) k_sc_3 rfl rfl (hS2.cf (i := 0) rfl) rfl) ?_
        refine sq 22 rfl rfl (Y_fieldAddr (B := some ⟨b2, 0, none⟩) (i := 0) (s := 0) k_fd_47_3_3_3 k_sz_3_1 rfl rfl) ?_
        refine sq 23 rfl rfl (Y_load1 (B := some ⟨b2, 0, none⟩) (i := 3) (cs := [vi b.A, vi b.B, vi b.C, vi b.D]) (v := vi b.D) k_sc_3 rfl rfl (hS2.cf (i := 1) rfl) rfl) ?_
        refine sq 24 rfl rfl (Y_ne (k := .i64) (a := a.D) (b := b.D) rfl rfl rfl) ?_
        refine rw_nil ?_
        refine cw_cond (b := (a.D != b.D)) rfl (fun hb3 => ?_) (fun hb3 => ?_)
        · skip
          have hF7 := ct hF6 hb3
          refine cw_seq ?_
          refine cw_region ?_
          refine sq 4 rfl rfl (Y_assign (v := .bool false) rfl rfl) ?_
          refine rw_nil ?_
          refine cw_ret ?_
          obtain rfl := some_inj hF7
          exact ret1 Tryd.results78 (v1 := .bool false) (resAt_tmp rfl) ⟨rfl, (ST.subR (R' := []) (hS2.sel [] rfl rfl) (fun _ h => by cases h))⟩
        · skip
          have hF8 := cf' hF6 hb3
          refine cw_skip ?_
          refine cw_seq ?_
          refine cw_region ?_
          refine sq 4 rfl rfl (Y_assign (v := .bool true) rfl rfl) ?_
          refine rw_nil ?_
          refine cw_ret ?_
          obtain rfl := some_inj hF8
          exact ret1 Tryd.results78 (v1 := .bool true) (resAt_tmp rfl) ⟨rfl, (ST.subR (R' := []) (hS2.sel [] rfl rfl) (fun _ h => by cases h))⟩

theorem c_laws_eqDyadic (a : TDyadic) (b : TDyadic)  (w0 : World)  (hS : ST w0 [] w0 [] []) {r_ : Bool} (hF : F_laws_eqDyadic a b = some r_) :
    CV Tryd.prog 45 #[.agg #[vi a.Num.A, vi a.Num.B, vi a.Num.C, vi a.Num.D, vi a.Exp], .agg #[vi b.Num.A, vi b.Num.B, vi b.Num.C, vi b.Num.D, vi b.Exp]] w0 (fun v w' => v = .bool r_ ∧ ST w0 [] w' [] []) := by
  unfold F_laws_eqDyadic at hF
  refine cv_of_cw 16 Tryd.func45 rfl Tryd.ntmps45 rfl ?_
  refine cw_seq ?_
  refine cw_region ?_
  refine ss 2 rfl rfl (Ys_box (T := 49) (v := .agg #[vi a.Num.A, vi a.Num.B, vi a.Num.C, vi a.Num.D, vi a.Exp]) (cs := [vi a.Num.A, vi a.Num.B, vi a.Num.C, vi a.Num.D, vi a.Exp]) (m := 5) hS rfl rfl rfl rfl) ?_
  rintro _ w_ ⟨b1, rfl, hS1⟩
  refine ss 3 rfl rfl (Ys_box (T := 49) (v := .agg #[vi b.Num.A, vi b.Num.B, vi b.Num.C, vi b.Num.D, vi b.Exp]) (cs := [vi b.Num.A, vi b.Num.B, vi b.Num.C, vi b.Num.D, vi b.Exp]) (m := 5) hS1 rfl rfl rfl rfl) ?_
  rintro _ w_1 ⟨b2, rfl, hS2⟩
  have hS2 : ST w0 [] _ [⟨some ⟨b1, 0, none⟩, 49, [vi a.Num.A, vi a.Num.B, vi a.Num.C, vi a.Num.D, vi a.Exp], 5⟩, ⟨some ⟨b2, 0, none⟩, 49, [vi b.Num.A, vi b.Num.B, vi b.Num.C, vi b.Num.D, vi b.Exp], 5⟩] [] := hS2
  refine sq 4 rfl rfl (Y_assign (v := .bool false) rfl rfl) ?_
  refine rw_nil ?_
  refine cw_seq ?_
  refine cw_seq ?_
  refine cw_region ?_
  refine sq 5 rfl rfl (Y_fieldAddr (B := some ⟨b1, 0, none⟩) (i := 0) (s := 3) k_fd_49_0_0_47 k_sz_47_4 rfl rfl) ?_
  refine sq 6 rfl rfl (Y_loadA (B := some ⟨b1, 0, none⟩) (i := 0) (cs := [vi a.Num.A, vi a.Num.B, vi a.Num.C, vi a.Num.D, vi a.Exp]) (vs := [vi a.Num.A, vi a.Num.B, vi a.Num.C, vi a.Num.D]) k_ag_47 k_sz_47_4 rfl rfl (hS2.cf (i := 0) rfl) rfl rfl) ?_
  refine sq 7 rfl rfl (Y_fieldAddr (B := some ⟨b2, 0, none⟩) (i := 0) (s := 3) k_fd_49_0_0_47 k_sz_47_4 rfl rfl) ?_
  refine sq 8 rfl rfl (Y_loadA (B := some ⟨b2, 0, none⟩) (i := 0) (cs := [vi b.Num.A, vi b.Num.B, vi b.Num.C, vi b.Num.D, vi b.Exp]) (vs := [vi b.Num.A, vi b.Num.B, vi b.Num.C, vi b.Num.D]) k_ag_47 k_sz_47_4 rfl rfl (hS2.cf (i := 1) rfl) rfl rfl) ?_
  obtain ⟨r_1, hc, hF⟩ := bind_inv hF
  refine sc 9 rfl rfl (Yc_func (g := 78) (vs := [.agg #[vi a.Num.A, vi a.Num.B, vi a.Num.C, vi a.Num.D], .agg #[vi b.Num.A, vi b.Num.B, vi b.Num.C, vi b.Num.D]]) k_call_78 rfl (mc rfl (mc rfl mn)) (c_laws_eqRing a.Num b.Num _  (hS2.inn0 [] rfl) hc)) ?_
  rintro _ w_2 ⟨rfl, hd⟩
  have hS3 := hS2.out00 hd
  have hS3 : ST w0 [] _ [⟨some ⟨b1, 0, none⟩, 49, [vi a.Num.A, vi a.Num.B, vi a.Num.C, vi a.Num.D, vi a.Exp], 5⟩, ⟨some ⟨b2, 0, none⟩, 49, [vi b.Num.A, vi b.Num.B, vi b.Num.C, vi b.Num.D, vi b.Exp], 5⟩] [] := hS3
  refine sq 10 rfl rfl (Y_not (p := r_1) rfl rfl) ?_
  refine rw_nil ?_
  refine cw_cond (b := (!r_1)) rfl (fun hb => ?_) (fun hb => ?_)
  · skip
    have hF1 := ct hF hb
    refine cw_seq ?_
    refine cw_region ?_
    refine sq 4 rfl rfl (Y_assign (v := .bool false) rfl rfl) ?_
    refine rw_nil ?_
    refine cw_ret ?_
    obtain rfl := some_inj hF1
    exact ret1 Tryd.results45 (v1 := .bool false) (resAt_tmp rfl) ⟨rfl, (ST.subR (R' := []) (hS3.sel [] rfl rfl) (fun _ h => by cases h))⟩
  · skip
    have hF2 := cf' hF hb
    refine cw_skip ?_
    refine cw_seq ?_
    refine cw_seq ?_
    refine cw_region ?_
    refine sq 11 rfl rfl (Y_fieldAddr (B := some ⟨b1, 0, none⟩) (i := 0) (s := 0) k_fd_49_1_4_3 k_sz_3_1 rfl rfl) ?_
    refine sq 12 rfl rfl (Y_load1 (B := some ⟨b1, 0, none⟩) (i := 4) (cs := [vi a.Num.A, vi a.Num.B, vi a.Num.C, vi a.Num.D, vi a.Exp]) (v := vi a.Exp) k_sc_3 rfl rfl (hS3.cf (i := 0) rfl) rfl) ?_
    refine sq 13 rfl rfl (Y_fieldAddr (B := some ⟨b2, 0, none⟩) (i := 0) (s := 0) k_fd_49_1_4_3 k_sz_3_1 rfl rfl) ?_
    refine sq 14 rfl rfl (Y_load1 (B := some ⟨b2, 0, none⟩) (i := 4) (cs := [vi b.Num.A, vi b.Num.B, vi b.Num.C, vi b.Num.D, vi b.Exp]) (v := vi b.Exp) k_sc_3 rfl rfl (hS3.cf (i := 1) rfl) rfl) ?_
    refine sq 15 rfl rfl (Y_ne (k := .i64) (a := a.Exp) (b := b.Exp) rfl rfl rfl) ?_
    refine rw_nil ?_
    refine cw_cond (b := (a.Exp != b.Exp)) rfl (fun hb1 => ?_) (fun hb1 => ?_)
    · skip
      have hF3 := ct hF2 hb1
      refine cw_seq ?_
      refine cw_region ?_
      refine sq 4 rfl rfl (Y_assign (v := .bool false) rfl rfl) ?_
      refine rw_nil ?_
      refine cw_ret ?_
      obtain rfl := some_inj hF3
      exact ret1 Tryd.results45 (v1 := .bool false) (resAt_tmp rfl) ⟨rfl, (ST.subR (R' := []) (hS3.sel [] rfl rfl) (fun _ h => by cases h))⟩
    · skip
      have hF4 := cf' hF2 hb1
      refine cw_skip ?_
      refine cw_seq ?_
      refine cw_region ?_
      refine sq 4 rfl rfl (Y_assign (v := .bool true) rfl rfl) ?_
      refine rw_nil ?_
      refine cw_ret ?_
      obtain rfl := some_inj hF4
      exact ret1 Tryd.results45 (v1 := .bool true) (resAt_tmp rfl) ⟨rfl, (ST.subR (R' := []) (hS3.sel [] rfl rfl) (fun _ h => by cases h))⟩

theorem c_laws_eqDyadicS (a : List TDyadic) (b : List TDyadic) (B : Option Addr) (c n : Nat) (B1 : Option Addr) (c1 n1 : Nat) (w0 : World) (hn : a.length = n) (hn1 : b.length = n1) (hS : ST w0 [] w0 [] [⟨B, (a.flatMap enc_Dyadic)⟩, ⟨B1, (b.flatMap enc_Dyadic)⟩]) {r_ : Bool} (hF : F_laws_eqDyadicS a b = some r_) :
    CV Tryd.prog 23 #[.slice B n c, .slice B1 n1 c1] w0 (fun v w' => v = .bool r_ ∧ ST w0 [] w' [] []) := by
  subst hn
  subst hn1
  unfold F_laws_eqDyadicS at hF
  refine cv_of_cw 27 Tryd.func23 rfl Tryd.ntmps23 rfl ?_
  refine cw_seq ?_
  refine cw_region ?_
  refine sq 4 rfl rfl (Y_assign (v := .bool false) rfl rfl) ?_
  refine rw_nil ?_
  refine cw_seq ?_
  refine cw_seq ?_
  refine cw_region ?_
  refine sq 6 rfl rfl (Y_move (v := .slice B a.length c) rfl rfl) ?_
  refine sq 7 rfl rfl (Y_len (B := B) (m := a.length) (c := c) k_sl_26_49 rfl rfl) ?_
  refine sq 8 rfl rfl (Y_move (v := .slice B1 b.length c1) rfl rfl) ?_
  refine sq 9 rfl rfl (Y_len (B := B1) (m := b.length) (c := c1) k_sl_26_49 rfl rfl) ?_
  refine sq 10 rfl rfl (Y_ne (k := .i64) (a := (a.length : Int)) (b := (b.length : Int)) rfl rfl rfl) ?_
  refine rw_nil ?_
  refine cw_cond (b := ((a.length : Int) != (b.length : Int))) rfl (fun hb => ?_) (fun hb => ?_)
  · skip
    have hF1 := ct hF hb
    refine cw_seq ?_
    refine cw_region ?_
    refine sq 4 rfl rfl (Y_assign (v := .bool false) rfl rfl) ?_
    refine rw_nil ?_
    refine cw_ret ?_
    obtain rfl := some_inj hF1
    exact ret1 Tryd.results23 (v1 := .bool false) (resAt_tmp rfl) ⟨rfl, (ST.subR (R' := []) (hS.sel [] rfl rfl) (fun _ h => by cases h))⟩
  · skip
    have hF2 := cf' hF hb
    refine cw_skip ?_
    refine cw_seq ?_
    refine cw_seq ?_
    refine cw_region ?_
    refine sq 5 rfl rfl (Y_assign (v := vi 0) rfl rfl) ?_
    refine rw_nil ?_
    obtain ⟨hN, hF2⟩ := chk_inv hF2
    obtain ⟨z, hz, hF3⟩ := bind_inv hF2
    refine cw_block ?_
    refine cw_loop (fun k f w => ∃ (i1 : Nat), FF f [(0, .slice B a.length c), (1, .slice B1 b.length c1), (5, vi (i1 : Int))] ∧ ST w0 [] w [] [⟨B, (a.flatMap enc_Dyadic)⟩, ⟨B1, (b.flatMap enc_Dyadic)⟩] ∧ i1 + k = a.length ∧ forX (F_laws_eqDyadicS_l1 a b) k i1 () = some z) a.length ⟨0, (FF.cons rfl (FF.cons rfl (FF.cons rfl FF.nil))), (hS.sel [] rfl rfl), Nat.zero_add _, hz⟩ ?_
    rintro k_ f w ⟨i1, hf, hS1, hik, hL⟩
    refine cw_seq ?_
    refine cw_seq ?_
    refine cw_region ?_
    refine sq 11 rfl rfl (Y_move (v := vi (i1 : Int)) rfl (hf.get 5 2 rfl)) ?_
    refine sq 12 rfl rfl (Y_move (v := .slice B a.length c) rfl (hf.get 0 0 rfl)) ?_
    refine sq 13 rfl rfl (Y_len (B := B) (m := a.length) (c := c) k_sl_26_49 rfl rfl) ?_
    refine sq 14 rfl rfl (Y_lt (k := .i64) (a := (i1 : Int)) (b := (a.length : Int)) rfl rfl rfl) ?_
    refine rw_nil ?_
    refine cw_cond (b := (decide ((i1 : Int) < (a.length : Int)))) rfl (fun hlt => ?_) (fun hlt => ?_)
    · skip
      have hlt1 : i1 < a.length := by have h := of_decide_eq_true hlt; omega
      obtain ⟨k_1, rfl⟩ : ∃ k2, k_ = k2 + 1 := ⟨k_ - 1, by omega⟩
      obtain ⟨y, hb1, hL1⟩ := forX_go hL
      unfold F_laws_eqDyadicS_l1 at hb1
      refine cw_skip ?_
      refine cw_seq ?_
      refine cw_block ?_
      refine cw_seq ?_
      obtain ⟨x, hx, hb1⟩ := bind_inv hb1
      obtain ⟨x1, hx1, hb1⟩ := bind_inv hb1
      obtain ⟨r_1, hc, hb1⟩ := bind_inv hb1
      refine ra_start (ST.sel hS1 [] rfl rfl).fn (by kernel_rfl) ?_
      have hS3 := hS1.drew
      refine ra_q 0 17 (v := .slice B a.length c) rfl rfl rfl (by kernel_rfl) (by kernel_rfl) (by kernel_rfl) (ST.sel hS3 [] rfl rfl) (fun w' hw' => (Y_move (v := .slice B a.length c) rfl (hf.get 0 0 rfl))) ?_
      refine ra_q 1 18 (v := vi (i1 : Int)) rfl rfl rfl (by kernel_rfl) (by kernel_rfl) (by kernel_rfl) (ST.sel hS3 [] rfl rfl) (fun w' hw' => (Y_move (v := vi (i1 : Int)) rfl (hf.get 5 2 rfl))) ?_
      refine ra_q 2 19 (v := pt B ((i1 : Int).toNat * 5)) rfl rfl rfl (by kernel_rfl) (by kernel_rfl) (by kernel_rfl) (ST.sel hS3 [] rfl rfl) (fun w' hw' => (Y_index (B := B) (m := a.length) (c := c) (k := .i64) (i := (i1 : Int)) k_sl_26_49 k_sz_49_5 rfl rfl rfl (gi_isSome enc_Dyadic_len rfl (ST.rf hw' (i := 0) rfl) hx) (getI_nn hx) (getI_ltI hx rfl))) ?_
      refine ra_q 3 20 (v := .agg #[vi x.Num.A, vi x.Num.B, vi x.Num.C, vi x.Num.D, vi x.Exp]) rfl rfl rfl (by kernel_rfl) (by kernel_rfl) (by kernel_rfl) (ST.sel hS3 [] rfl rfl) (fun w' hw' => (Y_loadA (B := B) (i := (i1 : Int).toNat * 5) (cs := (a.flatMap enc_Dyadic)) (vs := [vi x.Num.A, vi x.Num.B, vi x.Num.C, vi x.Num.D, vi x.Exp]) k_ag_49 k_sz_49_5 rfl rfl (ST.rf hw' (i := 0) rfl) (enc_Dyadic_len x) (gi_seg enc_Dyadic_len hx))) ?_
      refine ra_q 4 21 (v := .slice B1 b.length c1) rfl rfl rfl (by kernel_rfl) (by kernel_rfl) (by kernel_rfl) (ST.sel hS3 [] rfl rfl) (fun w' hw' => (Y_move (v := .slice B1 b.length c1) rfl (hf.get 1 1 rfl))) ?_
      refine ra_q 5 22 (v := vi (i1 : Int)) rfl rfl rfl (by kernel_rfl) (by kernel_rfl) (by kernel_rfl) (ST.sel hS3 [] rfl rfl) (fun w' hw' => (Y_move (v := vi (i1 : Int)) rfl (hf.get 5 2 rfl))) ?_
      refine ra_q 6 23 (v := pt B1 ((i1 : Int).toNat * 5)) rfl rfl rfl (by kernel_rfl) (by kernel_rfl) (by kernel_rfl) (ST.sel hS3 [] rfl rfl) (fun w' hw' => (Y_index (B := B1) (m := b.length) (c := c1) (k := .i64) (i := (i1 : Int)) k_sl_26_49 k_sz_49_5 rfl rfl rfl (gi_isSome enc_Dyadic_len rfl (ST.rf hw' (i := 1) rfl) hx1) (getI_nn hx1) (getI_ltI hx1 rfl))) ?_
      refine ra_q 7 24 (v := .agg #[vi x1.Num.A, vi x1.Num.B, vi x1.Num.C, vi x1.Num.D, vi x1.Exp]) rfl rfl rfl (by kernel_rfl) (by kernel_rfl) (by kernel_rfl) (ST.sel hS3 [] rfl rfl) (fun w' hw' => (Y_loadA (B := B1) (i := (i1 : Int).toNat * 5) (cs := (b.flatMap enc_Dyadic)) (vs := [vi x1.Num.A, vi x1.Num.B, vi x1.Num.C, vi x1.Num.D, vi x1.Exp]) k_ag_49 k_sz_49_5 rfl rfl (ST.rf hw' (i := 1) rfl) (enc_Dyadic_len x1) (gi_seg enc_Dyadic_len hx1))) ?_
      refine ra_all (rs := [8]) (by kernel_rfl) rfl ?_
      refine ra_c 25 (i := 8) rfl rfl rfl (Yc_func (g := 45) (vs := [.agg #[vi x.Num.A, vi x.Num.B, vi x.Num.C, vi x.Num.D, vi x.Exp], .agg #[vi x1.Num.A, vi x1.Num.B, vi x1.Num.C, vi x1.Num.D, vi x1.Exp]]) k_call_45 rfl (mc rfl (mc rfl mn)) (c_laws_eqDyadic x x1 _  (hS3.inn0 [] rfl) hc)) ?_ ?_
      · rintro _ w_ ⟨rfl, hd⟩
        have hS4 := hS3.out00 hd
        refine ⟨(ST.sel hS4 [] rfl rfl), ?_⟩
        refine ra_q 9 26 (v := .bool (!r_1)) rfl rfl rfl (by kernel_rfl) (by kernel_rfl) (by kernel_rfl) (ST.sel hS4 [] rfl rfl) (fun w' hw' => (Y_not (p := r_1) rfl rfl)) ?_
        refine ra_done (by kernel_rfl) ?_
        refine cw_cond (b := (!r_1)) rfl (fun hb2 => ?_) (fun hb2 => ?_)
        · skip
          have hF4 := ct hb1 hb2
          refine cw_seq ?_
          refine cw_region ?_
          refine sq 4 rfl rfl (Y_assign (v := .bool false) rfl rfl) ?_
          refine rw_nil ?_
          refine cw_ret ?_
          obtain rfl := some_inj hF4
          obtain rfl := some_inj hL1
          obtain rfl := some_inj hF3
          exact ret1 Tryd.results23 (v1 := .bool false) (resAt_tmp rfl) ⟨rfl, (ST.subR (R' := []) (hS4.sel [] rfl rfl) (fun _ h => by cases h))⟩
        · skip
          have hF5 := cf' hb1 hb2
          refine cw_skip ?_
          refine cw_region ?_
          refine sq 15 rfl rfl (Y_move (v := vi (i1 : Int)) rfl (hf.get 5 2 rfl)) ?_
          refine sq 16 rfl rfl (Y_add (k := .i64) (a := (i1 : Int)) (b := 1) rfl rfl rfl) ?_
          refine sq 5 rfl rfl (Y_assign (v := vi (i64.wrap ((i1 : Int) + 1))) rfl rfl) ?_
          refine rw_nil ?_
          obtain rfl := some_inj hF5
          exact ⟨k_1, Nat.lt_succ_self _, i1 + 1, (FF.cons (hf.get 0 0 rfl) (FF.cons (hf.get 1 1 rfl) (FF.cons (congrArg (Value.int .i64) (wr_succ hlt1 hN)) FF.nil))), (hS4.sel [] rfl rfl), (by omega), hL1⟩
      exact allR_nil
    · skip
      obtain rfl : k_ = 0 := by have h := of_decide_eq_false hlt; omega
      refine cw_exit rfl ?_
      obtain rfl := some_inj hL
      refine cw_seq ?_
      refine cw_region ?_
      refine sq 4 rfl rfl (Y_assign (v := .bool true) rfl rfl) ?_
      refine rw_nil ?_
      refine cw_ret ?_
      obtain rfl := some_inj hF3
      exact ret1 Tryd.results23 (v1 := .bool true) (resAt_tmp rfl) ⟨rfl, (ST.subR (R' := []) (hS1.sel [] rfl rfl) (fun _ h => by cases h))⟩

theorem c_laws_eqBloch (a : TBloch) (b : TBloch) (B : Option Addr) (c n : Nat) (B1 : Option Addr) (c1 n1 : Nat) (w0 : World) (hn : a.Cells.length = n) (hn1 : b.Cells.length = n1) (hS : ST w0 [] w0 [] [⟨B, (a.Cells.flatMap enc_Dyadic)⟩, ⟨B1, (b.Cells.flatMap enc_Dyadic)⟩]) {r_ : Bool} (hF : F_laws_eqBloch a b = some r_) :
    CV Tryd.prog 9 #[.agg #[.slice B n c], .agg #[.slice B1 n1 c1]] w0 (fun v w' => v = .bool r_ ∧ ST w0 [] w' [] []) := by
  subst hn
  subst hn1
  unfold F_laws_eqBloch at hF
  refine cv_of_cw 11 Tryd.func9 rfl Tryd.ntmps9 rfl ?_
  refine cw_seq ?_
  refine cw_region ?_
  refine ss 2 rfl rfl (Ys_box (T := 28) (v := .agg #[.slice B a.Cells.length c]) (cs := [.slice B a.Cells.length c]) (m := 1) hS rfl rfl rfl rfl) ?_
  rintro _ w_ ⟨b1, rfl, hS1⟩
  refine ss 3 rfl rfl (Ys_box (T := 28) (v := .agg #[.slice B1 b.Cells.length c1]) (cs := [.slice B1 b.Cells.length c1]) (m := 1) hS1 rfl rfl rfl rfl) ?_
  rintro _ w_1 ⟨b2, rfl, hS2⟩
  have hS2 : ST w0 [] _ [⟨some ⟨b1, 0, none⟩, 28, [.slice B a.Cells.length c], 1⟩, ⟨some ⟨b2, 0, none⟩, 28, [.slice B1 b.Cells.length c1], 1⟩] [⟨B, (a.Cells.flatMap enc_Dyadic)⟩, ⟨B1, (b.Cells.flatMap enc_Dyadic)⟩] := hS2
  refine sq 4 rfl rfl (Y_assign (v := .bool false) rfl rfl) ?_
  refine rw_nil ?_
  refine cw_seq ?_
  refine cw_seq ?_
  refine cw_region ?_
  refine sq 5 rfl rfl (Y_fieldAddr (B := some ⟨b1, 0, none⟩) (i := 0) (s := 0) k_fd_28_0_0_26 k_sz_26_1 rfl rfl) ?_
  refine sq 6 rfl rfl (Y_load1 (B := some ⟨b1, 0, none⟩) (i := 0) (cs := [.slice B a.Cells.length c]) (v := .slice B a.Cells.length c) k_sc_26 rfl rfl (hS2.cf (i := 0) rfl) rfl) ?_
  refine sq 7 rfl rfl (Y_fieldAddr (B := some ⟨b2, 0, none⟩) (i := 0) (s := 0) k_fd_28_0_0_26 k_sz_26_1 rfl rfl) ?_
  refine sq 8 rfl rfl (Y_load1 (B := some ⟨b2, 0, none⟩) (i := 0) (cs := [.slice B1 b.Cells.length c1]) (v := .slice B1 b.Cells.length c1) k_sc_26 rfl rfl (hS2.cf (i := 1) rfl) rfl) ?_
  obtain ⟨r_1, hc, hF⟩ := bind_inv hF
  refine sc 9 rfl rfl (Yc_func (g := 23) (vs := [.slice B a.Cells.length c, .slice B1 b.Cells.length c1]) k_call_23 rfl (mc rfl (mc rfl mn)) (c_laws_eqDyadicS a.Cells b.Cells B c a.Cells.length B1 c1 b.Cells.length _ rfl rfl (hS2.inn0 [(true, 0), (true, 1)] rfl) hc)) ?_
  rintro _ w_2 ⟨rfl, hd⟩
  have hS3 := hS2.out00 hd
  have hS3 : ST w0 [] _ [⟨some ⟨b1, 0, none⟩, 28, [.slice B a.Cells.length c], 1⟩, ⟨some ⟨b2, 0, none⟩, 28, [.slice B1 b.Cells.length c1], 1⟩] [⟨B, (a.Cells.flatMap enc_Dyadic)⟩, ⟨B1, (b.Cells.flatMap enc_Dyadic)⟩] := hS3
  refine sq 10 rfl rfl (Y_not (p := r_1) rfl rfl) ?_
  refine rw_nil ?_
  refine cw_cond (b := (!r_1)) rfl (fun hb => ?_) (fun hb => ?_)
  · skip
    have hF1 := ct hF hb
    refine cw_seq ?_
    refine cw_region ?_
    refine sq 4 rfl rfl (Y_assign (v := .bool false) rfl rfl) ?_
    refine rw_nil ?_
    refine cw_ret ?_
    obtain rfl := some_inj hF1
    exact ret1 Tryd.results9 (v1 := .bool false) (resAt_tmp rfl) ⟨rfl, (ST.subR (R' := []) (hS3.sel [] rfl rfl) (fun _ h => by cases h))⟩
  · skip
    have hF2 := cf' hF hb
    refine cw_skip ?_
    refine cw_seq ?_
    refine cw_region ?_
    refine sq 4 rfl rfl (Y_assign (v := .bool true) rfl rfl) ?_
    refine rw_nil ?_
    refine cw_ret ?_
    obtain rfl := some_inj hF2
    exact ret1 Tryd.results9 (v1 := .bool true) (resAt_tmp rfl) ⟨rfl, (ST.subR (R' := []) (hS3.sel [] rfl rfl) (fun _ h => by cases h))⟩

theorem c_laws_eqMatrix (a : TMatrix) (b : TMatrix) (B : Option Addr) (c n : Nat) (B1 : Option Addr) (c1 n1 : Nat) (w0 : World) (hn : a.Cells.length = n) (hn1 : b.Cells.length = n1) (hS : ST w0 [] w0 [] [⟨B, (a.Cells.flatMap enc_Dyadic)⟩, ⟨B1, (b.Cells.flatMap enc_Dyadic)⟩]) {r_ : Bool} (hF : F_laws_eqMatrix a b = some r_) :
    CV Tryd.prog 10 #[.agg #[vi a.Rows, vi a.Cols, .slice B n c], .agg #[vi b.Rows, vi b.Cols, .slice B1 n1 c1]] w0 (fun v w' => v = .bool r_ ∧ ST w0 [] w' [] []) := by
  subst hn
  subst hn1
  unfold F_laws_eqMatrix at hF
  refine cv_of_cw 21 Tryd.func10 rfl Tryd.ntmps10 rfl ?_
  refine cw_seq ?_
  refine cw_region ?_
  refine ss 2 rfl rfl (Ys_box (T := 32) (v := .agg #[vi a.Rows, vi a.Cols, .slice B a.Cells.length c]) (cs := [vi a.Rows, vi a.Cols, .slice B a.Cells.length c]) (m := 3) hS rfl rfl rfl rfl) ?_
  rintro _ w_ ⟨b1, rfl, hS1⟩
  refine ss 3 rfl rfl (Ys_box (T := 32) (v := .agg #[vi b.Rows, vi b.Cols, .slice B1 b.Cells.length c1]) (cs := [vi b.Rows, vi b.Cols, .slice B1 b.Cells.length c1]) (m := 3) hS1 rfl rfl rfl rfl) ?_
  rintro _ w_1 ⟨b2, rfl, hS2⟩
  have hS2 : ST w0 [] _ [⟨some ⟨b1, 0, none⟩, 32, [vi a.Rows, vi a.Cols, .slice B a.Cells.length c], 3⟩, ⟨some ⟨b2, 0, none⟩, 32, [vi b.Rows, vi b.Cols, .slice B1 b.Cells.length c1], 3⟩] [⟨B, (a.Cells.flatMap enc_Dyadic)⟩, ⟨B1, (b.Cells.flatMap enc_Dyadic)⟩] := hS2
  refine sq 4 rfl rfl (Y_assign (v := .bool false) rfl rfl) ?_
  refine rw_nil ?_
  refine cw_seq ?_
  refine cw_seq ?_
  refine cw_region ?_
  refine sq 5 rfl rfl (Y_fieldAddr (B := some ⟨b1, 0, none⟩) (i := 0) (s := 0) k_fd_32_0_0_3 k_sz_3_1 rfl rfl) ?_
  refine sq 6 rfl rfl (Y_load1 (B := some ⟨b1, 0, none⟩) (i := 0) (cs := [vi a.Rows, vi a.Cols, .slice B a.Cells.length c]) (v := vi a.Rows) k_sc_3 rfl rfl (hS2.cf (i := 0) rfl) rfl) ?_
  refine sq 7 rfl rfl (Y_fieldAddr (B := some ⟨b2, 0, none⟩) (i := 0) (s := 0) k_fd_32_0_0_3 k_sz_3_1 rfl rfl) ?_
  refine sq 8 rfl rfl (Y_load1 (B := some ⟨b2, 0, none⟩) (i := 0) (cs := [vi b.Rows, vi b.Cols, .slice B1 b.Cells.length c1]) (v := vi b.Rows) k_sc_3 rfl rfl (hS2.cf (i := 1) rfl) rfl) ?_
  refine sq 9 rfl rfl (Y_ne (k := .i64) (a := a.Rows) (b := b.Rows) rfl rfl rfl) ?_
  refine rw_nil ?_
  refine cw_cond (b := (a.Rows != b.Rows)) rfl (fun hb => ?_) (fun hb => ?_)
  · skip
    have hF1 := ct hF hb
    refine cw_seq ?_
    refine cw_region ?_
    refine sq 4 rfl rfl (Y_assign (v := .bool false) rfl rfl) ?_
    refine rw_nil ?_
    refine cw_ret ?_
    obtain rfl := some_inj hF1
    exact ret1 Tryd.results10 (v1 := .bool false) (resAt_tmp rfl) ⟨rfl, (ST.subR (R' := []) (hS2.sel [] rfl rfl) (fun _ h => by cases h))⟩
  · skip
    have hF2 := cf' hF hb
    refine cw_skip ?_
    refine cw_seq ?_
    refine cw_seq ?_
    refine cw_region ?_
    refine sq 10 rfl rfl (Y_fieldAddr (B := some ⟨b1, 0, none⟩) (i := 0) (s := 0) k_fd_32_1_1_3 k_sz_3_1 rfl rfl) ?_
    refine sq 11 rfl rfl (Y_load1 (B := some ⟨b1, 0, none⟩) (i := 1) (cs := [vi a.Rows, vi a.Cols, .slice B a.Cells.length c]) (v := vi a.Cols) k_sc_3 rfl rfl (hS2.cf (i := 0) rfl) rfl) ?_
    refine sq 12 rfl rfl (Y_fieldAddr (B := some ⟨b2, 0, none⟩) (i := 0) (s := 0) k_fd_32_1_1_3 k_sz_3_1 rfl rfl) ?_
    refine sq 13 rfl rfl (Y_load1 (B := some ⟨b2, 0, none⟩) (i := 1) (cs := [vi b.Rows, vi b.Cols, .slice B1 b.Cells.length c1]) (v := vi b.Cols) k_sc_3 rfl rfl (hS2.cf (i := 1) rfl) rfl) ?_
    refine sq 14 rfl rfl (Y_ne (k := .i64) (a := a.Cols) (b := b.Cols) rfl rfl rfl) ?_
    refine rw_nil ?_
    refine cw_cond (b := (a.Cols != b.Cols)) rfl (fun hb1 => ?_) (fun hb1 => ?_)
    · skip
      have hF3 := ct hF2 hb1
      refine cw_seq ?_
      refine cw_region ?_
      refine sq 4 rfl rfl (Y_assign (v := .bool false) rfl rfl) ?_
      refine rw_nil ?_
      refine cw_ret ?_
      obtain rfl := some_inj hF3
      exact ret1 Tryd.results10 (v1 := .bool false) (resAt_tmp rfl) ⟨rfl, (ST.subR (R' := []) (hS2.sel [] rfl rfl) (fun _ h => by cases h))⟩
    · skip
      have hF4 := cf' hF2 hb1
      refine cw_skip ?_
      refine cw_seq ?_
      refine cw_seq ?_
      refine cw_region ?_
      refine sq 15 rfl rfl (Y_fieldAddr (B := some ⟨b1, 0, none⟩) (i := 0) (s := 0) k_fd_32_2_2_26 k_sz_26_1 rfl rfl) ?_
      refine sq 16 rfl rfl (Y_load1 (B := some ⟨b1, 0, none⟩) (i := 2) (cs := [vi a.Rows, vi a.Cols, .slice B a.Cells.length c]) (v := .slice B a.Cells.length c) k_sc_26 rfl rfl (hS2.cf (i := 0) rfl) rfl) ?_
      refine sq 17 rfl rfl (Y_fieldAddr (B := some ⟨b2, 0, none⟩) (i := 0) (s := 0) k_fd_32_2_2_26 k_sz_26_1 rfl rfl) ?_
      refine sq 18 rfl rfl (Y_load1 (B := some ⟨b2, 0, none⟩) (i := 2) (cs := [vi b.Rows, vi b.Cols, .slice B1 b.Cells.length c1]) (v := .slice B1 b.Cells.length c1) k_sc_26 rfl rfl (hS2.cf (i := 1) rfl) rfl) ?_
      obtain ⟨r_1, hc, hF4⟩ := bind_inv hF4
      refine sc 19 rfl rfl (Yc_func (g := 23) (vs := [.slice B a.Cells.length c, .slice B1 b.Cells.length c1]) k_call_23 rfl (mc rfl (mc rfl mn)) (c_laws_eqDyadicS a.Cells b.Cells B c a.Cells.length B1 c1 b.Cells.length _ rfl rfl (hS2.inn0 [(true, 0), (true, 1)] rfl) hc)) ?_
      rintro _ w_2 ⟨rfl, hd⟩
      have hS3 := hS2.out00 hd
      have hS3 : ST w0 [] _ [⟨some ⟨b1, 0, none⟩, 32, [vi a.Rows, vi a.Cols, .slice B a.Cells.length c], 3⟩, ⟨some ⟨b2, 0, none⟩, 32, [vi b.Rows, vi b.Cols, .slice B1 b.Cells.length c1], 3⟩] [⟨B, (a.Cells.flatMap enc_Dyadic)⟩, ⟨B1, (b.Cells.flatMap enc_Dyadic)⟩] := hS3
      refine sq 20 rfl rfl (Y_not (p := r_1) rfl rfl) ?_
      refine rw_nil ?_
      refine cw_cond (b := (!r_1)) rfl (fun hb2 => ?_) (fun hb2 => ?_)
      · skip
        have hF5 := ct hF4 hb2
        refine cw_seq ?_
        refine cw_region ?_
        refine sq 4 rfl rfl (Y_assign (v := .bool false) rfl rfl) ?_
        refine rw_nil ?_
        refine cw_ret ?_
        obtain rfl := some_inj hF5
        exact ret1 Tryd.results10 (v1 := .bool false) (resAt_tmp rfl) ⟨rfl, (ST.subR (R' := []) (hS3.sel [] rfl rfl) (fun _ h => by cases h))⟩
      · skip
        have hF6 := cf' hF4 hb2
        refine cw_skip ?_
        refine cw_seq ?_
        refine cw_region ?_
        refine sq 4 rfl rfl (Y_assign (v := .bool true) rfl rfl) ?_
        refine rw_nil ?_
        refine cw_ret ?_
        obtain rfl := some_inj hF6
        exact ret1 Tryd.results10 (v1 := .bool true) (resAt_tmp rfl) ⟨rfl, (ST.subR (R' := []) (hS3.sel [] rfl rfl) (fun _ h => by cases h))⟩

theorem c_laws_markDyadicS (a : List TDyadic) (k_ : Int) (B : Option Addr) (c n : Nat) (w0 : World) (hn : a.length = n) (hS : ST w0 (bl [⟨B, 49, (a.flatMap enc_Dyadic), c * 5⟩]) w0 [⟨B, 49, (a.flatMap enc_Dyadic), c * 5⟩] []) {r_ : Int} {m : List TDyadic} (hF : F_laws_markDyadicS a k_ = some (r_, m)) :
    CV Tryd.prog 24 #[.slice B n c, vi k_] w0 (fun v w' => v = vi r_ ∧ m.length = n ∧ ST w0 (bl [⟨B, 49, (a.flatMap enc_Dyadic), c * 5⟩]) w' [⟨B, 49, (m.flatMap enc_Dyadic), c * 5⟩] []) := by
  subst hn
  unfold F_laws_markDyadicS at hF
  refine cv_of_cw 52 Tryd.func24 rfl Tryd.ntmps24 rfl ?_
  refine cw_seq ?_
  refine cw_region ?_
  refine sq 4 rfl rfl (Y_assign (v := vi 0) rfl rfl) ?_
  refine rw_nil ?_
  refine cw_seq ?_
  refine cw_seq ?_
  refine cw_region ?_
  refine sq 5 rfl rfl (Y_assign (v := vi 0) rfl rfl) ?_
  refine rw_nil ?_
  obtain ⟨hN, hF⟩ := chk_inv hF
  obtain ⟨z, hz, hF1⟩ := bind_inv hF
  refine cw_block ?_
  refine cw_loop (fun k f w => ∃ (i1 : Nat) (m1 : List TDyadic) (k_1 : Int), FF f [(0, .slice B a.length c), (1, vi k_1), (5, vi (i1 : Int))] ∧ m1.length = a.length ∧ ST w0 (bl [⟨B, 49, (a.flatMap enc_Dyadic), c * 5⟩]) w [⟨B, 49, (m1.flatMap enc_Dyadic), c * 5⟩] [] ∧ i1 + k = a.length ∧ forN F_laws_markDyadicS_l1 k i1 (m1, k_1) = some z) a.length ⟨0, a, k_, (FF.cons rfl (FF.cons rfl (FF.cons rfl FF.nil))), rfl, (hS.sel [0] rfl rfl), Nat.zero_add _, hz⟩ ?_
  rintro k_2 f w ⟨i1, m1, k_1, hf, hl, hS1, hik, hL⟩
  refine cw_seq ?_
  refine cw_seq ?_
  refine cw_region ?_
  refine sq 6 rfl rfl (Y_move (v := vi (i1 : Int)) rfl (hf.get 5 2 rfl)) ?_
  refine sq 7 rfl rfl (Y_move (v := .slice B a.length c) rfl (hf.get 0 0 rfl)) ?_
  refine sq 8 rfl rfl (Y_len (B := B) (m := a.length) (c := c) k_sl_26_49 rfl rfl) ?_
  refine sq 9 rfl rfl (Y_lt (k := .i64) (a := (i1 : Int)) (b := (a.length : Int)) rfl rfl rfl) ?_
  refine rw_nil ?_
  refine cw_cond (b := (decide ((i1 : Int) < (a.length : Int)))) rfl (fun hlt => ?_) (fun hlt => ?_)
  · skip
    have hlt1 : i1 < a.length := by have h := of_decide_eq_true hlt; omega
    obtain ⟨k_3, rfl⟩ : ∃ k2, k_2 = k2 + 1 := ⟨k_2 - 1, by omega⟩
    obtain ⟨y, hb, hL1⟩ := forN_go hL
    unfold F_laws_markDyadicS_l1 at hb
    refine cw_skip ?_
    refine cw_seq ?_
    refine cw_block ?_
    refine cw_seq ?_
    refine cw_region ?_
    refine sq 12 rfl rfl (Y_move (v := .slice B a.length c) rfl (hf.get 0 0 rfl)) ?_
    refine sq 13 rfl rfl (Y_move (v := vi (i1 : Int)) rfl (hf.get 5 2 rfl)) ?_
    refine sq 14 rfl rfl (Y_move (v := vi k_1) rfl (hf.get 1 1 rfl)) ?_
    obtain ⟨x, hx, hb⟩ := bind_inv hb
    refine sq 15 rfl rfl (Y_index (B := B) (m := a.length) (c := c) (k := .i64) (i := (i1 : Int)) k_sl_26_49 k_sz_49_5 rfl rfl rfl (gi_isSome enc_Dyadic_len rfl (hS1.cf (i := 0) rfl) hx) (getI_nn hx) (getI_ltI hx hl)) ?_
    refine sq 16 rfl rfl (Y_fieldAddr (B := B) (i := (i1 : Int).toNat * 5) (s := 3) k_fd_49_0_0_47 k_sz_47_4 rfl rfl) ?_
    refine sq 17 rfl rfl (Y_fieldAddr2 (B := B) (i := (i1 : Int).toNat * 5) (e := 0) (l := 0) (s := 0) k_fd_47_0_0_3 k_sz_3_1 rfl rfl rfl) ?_
    refine ss0 rfl rfl (Ys_store (i := 0) (s := 1) (B := B) (T' := 49) (v := vi k_1) (vs := [vi k_1]) (k := (i1 : Int).toNat * 5 + 0) (cs' := ((m1.set (i1 : Int).toNat (TDyadic.mk (TRing.mk k_1 x.Num.B x.Num.C x.Num.D) x.Exp)).flatMap enc_Dyadic)) hS1 k_sz_3_1 rfl rfl rfl rfl rfl rfl rfl (gi_fit enc_Dyadic_len hx (j := 0) (k := 1) (by decide)) (gi_setf enc_Dyadic_len hx (TDyadic.mk (TRing.mk k_1 x.Num.B x.Num.C x.Num.D) x.Exp) rfl (Nat.le_of_ble_eq_true rfl)) rfl) ?_
    rintro _ w_ ⟨rfl, hS2⟩
    refine rw_nil ?_
    refine cw_seq ?_
    refine cw_region ?_
    refine sq 18 rfl rfl (Y_move (v := vi k_1) rfl (hf.get 1 1 rfl)) ?_
    refine sq 19 rfl rfl (Y_add (k := .i64) (a := k_1) (b := 1) rfl rfl rfl) ?_
    refine sq 1 rfl rfl (Y_assign (v := vi (i64.wrap (k_1 + 1))) rfl rfl) ?_
    refine rw_nil ?_
    refine cw_seq ?_
    refine cw_region ?_
    refine sq 20 rfl rfl (Y_move (v := .slice B a.length c) rfl (hf.get 0 0 rfl)) ?_
    refine sq 21 rfl rfl (Y_move (v := vi (i1 : Int)) rfl (hf.get 5 2 rfl)) ?_
    refine sq 22 rfl rfl (Y_move (v := vi (i64.wrap (k_1 + 1))) rfl rfl) ?_
    refine sq 23 rfl rfl (Y_index (B := B) (m := a.length) (c := c) (k := .i64) (i := (i1 : Int)) k_sl_26_49 k_sz_49_5 rfl rfl rfl (gi_isSome enc_Dyadic_len rfl (hS2.cf (i := 0) rfl) (getI_set (y := (TDyadic.mk (TRing.mk k_1 x.Num.B x.Num.C x.Num.D) x.Exp)) hx)) (getI_nn (getI_set (y := (TDyadic.mk (TRing.mk k_1 x.Num.B x.Num.C x.Num.D) x.Exp)) hx)) (getI_ltI (getI_set (y := (TDyadic.mk (TRing.mk k_1 x.Num.B x.Num.C x.Num.D) x.Exp)) hx) (set_len _ _ _ hl))) ?_
    refine sq 24 rfl rfl (Y_fieldAddr (B := B) (i := (i1 : Int).toNat * 5) (s := 3) k_fd_49_0_0_47 k_sz_47_4 rfl rfl) ?_
    refine sq 25 rfl rfl (Y_fieldAddr2 (B := B) (i := (i1 : Int).toNat * 5) (e := 0) (l := 1) (s := 0) k_fd_47_1_1_3 k_sz_3_1 rfl rfl rfl) ?_
    refine ss0 rfl rfl (Ys_store (i := 0) (s := 1) (B := B) (T' := 49) (v := vi (i64.wrap (k_1 + 1))) (vs := [vi (i64.wrap (k_1 + 1))]) (k := (i1 : Int).toNat * 5 + 1) (cs' := (((m1.set (i1 : Int).toNat (TDyadic.mk (TRing.mk k_1 x.Num.B x.Num.C x.Num.D) x.Exp)).set (i1 : Int).toNat (TDyadic.mk (TRing.mk k_1 (i64.wrap (k_1 + 1)) x.Num.C x.Num.D) x.Exp)).flatMap enc_Dyadic)) hS2 k_sz_3_1 rfl rfl rfl rfl rfl rfl rfl (gi_fit enc_Dyadic_len (getI_set (y := (TDyadic.mk (TRing.mk k_1 x.Num.B x.Num.C x.Num.D) x.Exp)) hx) (j := 1) (k := 1) (by decide)) (gi_setf enc_Dyadic_len (getI_set (y := (TDyadic.mk (TRing.mk k_1 x.Num.B x.Num.C x.Num.D) x.Exp)) hx) (TDyadic.mk (TRing.mk k_1 (i64.wrap (k_1 + 1)) x.Num.C x.Num.D) x.Exp) rfl (Nat.le_of_ble_eq_true rfl)) rfl) ?_
    rintro _ w_1 ⟨rfl, hS3⟩
    refine rw_nil ?_
    refine cw_seq ?_
    refine cw_region ?_
    refine sq 26 rfl rfl (Y_move (v := vi (i64.wrap (k_1 + 1))) rfl rfl) ?_
    refine sq 27 rfl rfl (Y_add (k := .i64) (a := (i64.wrap (k_1 + 1))) (b := 1) rfl rfl rfl) ?_
    refine sq 1 rfl rfl (Y_assign (v := vi (i64.wrap ((i64.wrap (k_1 + 1)) + 1))) rfl rfl) ?_
    refine rw_nil ?_
    refine cw_seq ?_
    refine cw_region ?_
    refine sq 28 rfl rfl (Y_move (v := .slice B a.length c) rfl (hf.get 0 0 rfl)) ?_
    refine sq 29 rfl rfl (Y_move (v := vi (i1 : Int)) rfl (hf.get 5 2 rfl)) ?_
    refine sq 30 rfl rfl (Y_move (v := vi (i64.wrap ((i64.wrap (k_1 + 1)) + 1))) rfl rfl) ?_
    refine sq 31 rfl rfl (Y_index (B := B) (m := a.length) (c := c) (k := .i64) (i := (i1 : Int)) k_sl_26_49 k_sz_49_5 rfl rfl rfl (gi_isSome enc_Dyadic_len rfl (hS3.cf (i := 0) rfl) (getI_set (y := (TDyadic.mk (TRing.mk k_1 (i64.wrap (k_1 + 1)) x.Num.C x.Num.D) x.Exp)) (getI_set (y := (TDyadic.mk (TRing.mk k_1 x.Num.B x.Num.C x.Num.D) x.Exp)) hx))) (getI_nn (getI_set (y := (TDyadic.mk (TRing.mk k_1 (i64.wrap (k_1 + 1)) x.Num.C x.Num.D) x.Exp)) (getI_set (y := (TDyadic.mk (TRing.mk k_1 x.Num.B x.Num.C x.Num.D) x.Exp)) hx))) (getI_ltI (getI_set (y := (TDyadic.mk (TRing.mk k_1 (i64.wrap (k_1 + 1)) x.Num.C x.Num.D) x.Exp)) (getI_set (y := (TDyadic.mk (TRing.mk k_1 x.Num.B x.Num.C x.Num.D) x.Exp)) hx)) (set_len _ _ _ (set_len _ _ _ hl)))) ?_
    refine sq 32 rfl rfl (Y_fieldAddr (B := B) (i := (i1 : Int).toNat * 5) (s := 3) k_fd_49_0_0_47 k_sz_47_4 rfl rfl) ?_
    refine sq 33 rfl rfl (Y_fieldAddr2 (B := B) (i := (i1 : Int).toNat * 5) (e := 0) (l := 2) (s := 0) k_fd_47_2_2_3 k_sz_3_1 rfl rfl rfl) ?_
    refine ss0 rfl rfl (Ys_store (i := 0) (s := 1) (B := B) (T' := 49) (v := vi (i64.wrap ((i64.wrap (k_1 + 1)) + 1))) (vs := [vi (i64.wrap ((i64.wrap (k_1 + 1)) + 1))]) (k := (i1 : Int).toNat * 5 + 2) (cs' := ((((m1.set (i1 : Int).toNat (TDyadic.mk (TRing.mk k_1 x.Num.B x.Num.C x.Num.D) x.Exp)).set (i1 : Int).toNat (TDyadic.mk (TRing.mk k_1 (i64.wrap (k_1 + 1)) x.Num.C x.Num.D) x.Exp)).set (i1 : Int).toNat (TDyadic.mk (TRing.mk k_1 (i64.wrap (k_1 + 1)) (i64.wrap ((i64.wrap (k_1 + 1)) + 1)) x.Num.D) x.Exp)).flatMap enc_Dyadic)) hS3 k_sz_3_1 rfl rfl rfl rfl rfl rfl rfl (gi_fit enc_Dyadic_len (getI_set (y := (TDyadic.mk (TRing.mk k_1 (i64.wrap (k_1 + 1)) x.Num.C x.Num.D) x.Exp)) (getI_set (y := (TDyadic.mk (TRing.mk k_1 x.Num.B x.Num.C x.Num.D) x.Exp)) hx)) (j := 2) (k := 1) (by decide)) (gi_setf enc_Dyadic_len (getI_set (y := (TDyadic.mk (TRing.mk k_1 (i64.wrap (k_1 + 1)) x.Num.C x.Num.D) x.Exp)) (getI_set (y := (TDyadic.mk (TRing.mk k_1 x.Num.B x.Num.C x.Num.D) x.Exp)) hx)) (TDyadic.mk (TRing.mk k_1 (i64.wrap (k_1 + 1)) (i64.wrap ((i64.wrap (k_1 + 1)) + 1)) x.Num.D) x.Exp) rfl (Nat.le_of_ble_eq_true rfl)) rfl) ?_
    rintro _ w_2 ⟨rfl, hS4⟩
    refine rw_nil ?_
    refine cw_seq ?_
    refine cw_region ?_
    refine sq 34 rfl rfl (Y_move (v := vi (i64.wrap ((i64.wrap (k_1 + 1)) + 1))) rfl rfl) ?_
    refine sq 35 rfl rfl (Y_add (k := .i64) (a := (i64.wrap ((i64.wrap (k_1 + 1)) + 1))) (b := 1) rfl rfl rfl) ?_
    refine sq 1 rfl rfl (Y_assign (v := vi (i64.wrap ((i64.wrap ((i64.wrap (k_1 + 1)) + 1)) + 1))) rfl rfl) ?_
    refine rw_nil ?_
    refine cw_seq ?_
    refine cw_region ?_
    refine sq 36 rfl rfl (Y_move (v := .slice B a.length c) rfl (hf.get 0 0 rfl)) ?_
    refine sq 37 rfl rfl (Y_move (v := vi (i1 : Int)) rfl (hf.get 5 2 rfl)) ?_
    refine sq 38 rfl rfl (Y_move (v := vi (i64.wrap ((i64.wrap ((i64.wrap (k_1 + 1)) + 1)) + 1))) rfl rfl) ?_
    refine sq 39 rfl rfl (Y_index (B := B) (m := a.length) (c := c) (k := .i64) (i := (i1 : Int)) k_sl_26_49 k_sz_49_5 rfl rfl rfl (gi_isSome enc_Dyadic_len rfl (hS4.cf (i := 0) rfl) (getI_set (y := (TDyadic.mk (TRing.mk k_1 (i64.wrap (k_1 + 1)) (i64.wrap ((i64.wrap (k_1 + 1)) + 1)) x.Num.D) x.Exp)) (getI_set (y := (TDyadic.mk (TRing.mk k_1 (i64.wrap (k_1 + 1)) x.Num.C x.Num.D) x.Exp)) (getI_set (y := (TDyadic.mk (TRing.mk k_1 x.Num.B x.Num.C x.Num.D) x.Exp)) hx)))) (getI_nn (getI_set (y := (TDyadic.mk (TRing.mk k_1 (i64.wrap (k_1 + 1)) (i64.wrap ((i64.wrap (k_1 + 1)) + 1)) x.Num.D) x.Exp)) (getI_set (y := (TDyadic.mk (TRing.mk k_1 (i64.wrap (k_1 + 1)) x.Num.C x.Num.D) x.Exp)) (getI_set (y := (TDyadic.mk (TRing.mk k_1 x.Num.B x.Num.C x.Num.D) x.Exp)) hx)))) (getI_ltI (getI_set (y := (TDyadic.mk (TRing.mk k_1 (i64.wrap (k_1 + 1)) (i64.wrap ((i64.wrap (k_1 + 1)) + 1)) x.Num.D) x.Exp)) (getI_set (y := (TDyadic.mk (TRing.mk k_1 (i64.wrap (k_1 + 1)) x.Num.C x.Num.D) x.Exp)) (getI_set (y := (TDyadic.mk (TRing.mk k_1 x.Num.B x.Num.C x.Num.D) x.Exp)) hx))) (set_len _ _ _ (set_len _ _ _ (set_len _ _ _ hl))))) ?_
    refine sq 40 rfl rfl (Y_fieldAddr (B := B) (i := (i1 : Int).toNat * 5) (s := 3) k_fd_49_0_0_47 k_sz_47_4 rfl rfl) ?_
    refine sq 41 rfl rfl (Y_fieldAddr2 (B := B) (i := (i1 : Int).toNat * 5) (e := 0) (l := 3) (s := 0) k_fd_47_3_3_3 k_sz_3_1 rfl rfl rfl) ?_
    refine ss0 rfl rfl (Ys_store (i := 0) (s := 1) (B := B) (T' := 49) (v := vi (i64.wrap ((i64.wrap ((i64.wrap (k_1 + 1)) + 1)) + 1))) (vs := [vi (i64.wrap ((i64.wrap ((i64.wrap (k_1 + 1)) + 1)) + 1))]) (k := (i1 : Int).toNat * 5 + 3) (cs' := (((((m1.set (i1 : Int).toNat (TDyadic.mk (TRing.mk k_1 x.Num.B x.Num.C x.Num.D) x.Exp)).set (i1 : Int).toNat (TDyadic.mk (TRing.mk k_1 (i64.wrap (k_1 + 1)) x.Num.C x.Num.D) x.Exp)).set (i1 : Int).toNat (TDyadic.mk (TRing.mk k_1 (i64.wrap (k_1 + 1)) (i64.wrap ((i64.wrap (k_1 + 1)) + 1)) x.Num.D) x.Exp)).set (i1 : Int).toNat (TDyadic.mk (TRing.mk k_1 (i64.wrap (k_1 + 1)) (i64.wrap ((i64.wrap (k_1 + 1)) + 1)) (i64.wrap ((i64.wrap ((i64.wrap (k_1 + 1)) + 1)) + 1))) x.Exp)).flatMap enc_Dyadic)) hS4 k_sz_3_1 rfl rfl rfl rfl rfl rfl rfl (gi_fit enc_Dyadic_len (getI_set (y := (TDyadic.mk (TRing.mk k_1 (i64.wrap (k_1 + 1)) (i64.wrap ((i64.wrap (k_1 + 1)) + 1)) x.Num.D) x.Exp)) (getI_set (y := (TDyadic.mk (TRing.mk k_1 (i64.wrap (k_1 + 1)) x.Num.C x.Num.D) x.Exp)) (getI_set (y := (TDyadic.mk (TRing.mk k_1 x.Num.B x.Num.C x.Num.D) x.Exp)) hx))) (j := 3) (k := 1) (by decide)) (gi_setf enc_Dyadic_len (getI_set (y := (TDyadic.mk (TRing.mk k_1 (i64.wrap (k_1 + 1)) (i64.wrap ((i64.wrap (k_1 + 1)) + 1)) x.Num.D) x.Exp)) (getI_set (y := (TDyadic.mk (TRing.mk k_1 (i64.wrap (k_1 + 1)) x.Num.C x.Num.D) x.Exp)) (getI_set (y := (TDyadic.mk (TRing.mk k_1 x.Num.B x.Num.C x.Num.D) x.Exp)) hx))) (TDyadic.mk (TRing.mk k_1 (i64.wrap (k_1 + 1)) (i64.wrap ((i64.wrap (k_1 + 1)) + 1)) (i64.wrap ((i64.wrap ((i64.wrap (k_1 + 1)) + 1)) + 1))) x.Exp) rfl (Nat.le_of_ble_eq_true rfl)) rfl) ?_
    rintro _ w_3 ⟨rfl, hS5⟩
    refine rw_nil ?_
    refine cw_seq ?_
    refine cw_region ?_
    refine sq 42 rfl rfl (Y_move (v := vi (i64.wrap ((i64.wrap ((i64.wrap (k_1 + 1)) + 1)) + 1))) rfl rfl) ?_
    refine sq 43 rfl rfl (Y_add (k := .i64) (a := (i64.wrap ((i64.wrap ((i64.wrap (k_1 + 1)) + 1)) + 1))) (b := 1) rfl rfl rfl) ?_
    refine sq 1 rfl rfl (Y_assign (v := vi (i64.wrap ((i64.wrap ((i64.wrap ((i64.wrap (k_1 + 1)) + 1)) + 1)) + 1))) rfl rfl) ?_
    refine rw_nil ?_
    refine cw_seq ?_
    refine cw_region ?_
    refine sq 44 rfl rfl (Y_move (v := .slice B a.length c) rfl (hf.get 0 0 rfl)) ?_
    refine sq 45 rfl rfl (Y_move (v := vi (i1 : Int)) rfl (hf.get 5 2 rfl)) ?_
    refine sq 46 rfl rfl (Y_move (v := vi (i64.wrap ((i64.wrap ((i64.wrap ((i64.wrap (k_1 + 1)) + 1)) + 1)) + 1))) rfl rfl) ?_
    refine sq 47 rfl rfl (Y_index (B := B) (m := a.length) (c := c) (k := .i64) (i := (i1 : Int)) k_sl_26_49 k_sz_49_5 rfl rfl rfl (gi_isSome enc_Dyadic_len rfl (hS5.cf (i := 0) rfl) (getI_set (y := (TDyadic.mk (TRing.mk k_1 (i64.wrap (k_1 + 1)) (i64.wrap ((i64.wrap (k_1 + 1)) + 1)) (i64.wrap ((i64.wrap ((i64.wrap (k_1 + 1)) + 1)) + 1))) x.Exp)) (getI_set (y := (TDyadic.mk (TRing.mk k_1 (i64.wrap (k_1 + 1)) (i64.wrap ((i64.wrap (k_1 + 1)) + 1)) x.Num.D) x.Exp)) (getI_set (y := (TDyadic.mk (TRing.mk k_1 (i64.wrap (k_1 + 1)) x.Num.C x.Num.D) x.Exp)) (getI_set (y := (TDyadic.mk (TRing.mk k_1 x.Num.B x.Num.C x.Num.D) x.Exp)) hx))))) (getI_nn (getI_set (y := (TDyadic.mk (TRing.mk k_1 (i64.wrap (k_1 + 1)) (i64.wrap ((i64.wrap (k_1 + 1)) + 1)) (i64.wrap ((i64.wrap ((i64.wrap (k_1 + 1)) + 1)) + 1))) x.Exp)) (getI_set (y := (TDyadic.mk (TRing.mk k_1 (i64.wrap (k_1 + 1)) (i64.wrap ((i64.wrap (k_1 + 1)) + 1)) x.Num.D) x.Exp)) (getI_set (y := (TDyadic.mk (TRing.mk k_1 (i64.wrap (k_1 + 1)) x.Num.C x.Num.D) x.Exp)) (getI_set (y := (TDyadic.mk (TRing.mk k_1 x.Num.B x.Num.C x.Num.D) x.Exp)) hx))))) (getI_ltI (getI_set (y := (TDyadic.mk (TRing.mk k_1 (i64.wrap (k_1 + 1)) (i64.wrap ((i64.wrap (k_1 + 1)) + 1)) (i64.wrap ((i64.wrap ((i64.wrap (k_1 + 1)) + 1)) + 1))) x.Exp)) (getI_set (y := (TDyadic.mk (TRing.mk k_1 (i64.wrap (k_1 + 1)) (i64.wrap ((i64.wrap (k_1 + 1)) + 1)) x.Num.D) x.Exp)) (getI_set (y := (TDyadic.mk (TRing.mk k_1 (i64.wrap (k_1 + 1)) x.Num.C x.Num.D) x.Exp)) (getI_set (y := (TDyadic.mk (TRing.mk k_1 x.Num.B x.Num.C x.Num.D) x.Exp)) hx)))) (set_len _ _ _ (set_len _ _ _ (set_len _ _ _ (set_len _ _ _ hl)))))) ?_
    refine sq 48 rfl rfl (Y_fieldAddr (B := B) (i := (i1 : Int).toNat * 5) (s := 0) k_fd_49_1_4_3 k_sz_3_1 rfl rfl) ?_
    refine ss0 rfl rfl (Ys_store (i := 0) (s := 1) (B := B) (T' := 49) (v := vi (i64.wrap ((i64.wrap ((i64.wrap ((i64.wrap (k_1 + 1)) + 1)) + 1)) + 1))) (vs := [vi (i64.wrap ((i64.wrap ((i64.wrap ((i64.wrap (k_1 + 1)) + 1)) + 1)) + 1))]) (k := (i1 : Int).toNat * 5 + 4) (cs' := ((((((m1.set (i1 : Int).toNat (TDyadic.mk (TRing.mk k_1 x.Num.B x.Num.C x.Num.D) x.Exp)).set (i1 : Int).toNat (TDyadic.mk (TRing.mk k_1 (i64.wrap (k_1 + 1)) x.Num.C x.Num.D) x.Exp)).set (i1 : Int).toNat (TDyadic.mk (TRing.mk k_1 (i64.wrap (k_1 + 1)) (i64.wrap ((i64.wrap (k_1 + 1)) + 1)) x.Num.D) x.Exp)).set (i1 : Int).toNat (TDyadic.mk (TRing.mk k_1 (i64.wrap (k_1 + 1)) (i64.wrap ((i64.wrap (k_1 + 1)) + 1)) (i64.wrap ((i64.wrap ((i64.wrap (k_1 + 1)) + 1)) + 1))) x.Exp)).set (i1 : Int).toNat (TDyadic.mk (TRing.mk k_1 (i64.wrap (k_1 + 1)) (i64.wrap ((i64.wrap (k_1 + 1)) + 1)) (i64.wrap ((i64.wrap ((i64.wrap (k_1 + 1)) + 1)) + 1))) (i64.wrap ((i64.wrap ((i64.wrap ((i64.wrap (k_1 + 1)) + 1)) + 1)) + 1)))).flatMap enc_Dyadic)) hS5 k_sz_3_1 rfl rfl rfl rfl rfl rfl rfl (gi_fit enc_Dyadic_len (getI_set (y := (TDyadic.mk (TRing.mk k_1 (i64.wrap (k_1 + 1)) (i64.wrap ((i64.wrap (k_1 + 1)) + 1)) (i64.wrap ((i64.wrap ((i64.wrap (k_1 + 1)) + 1)) + 1))) x.Exp)) (getI_set (y := (TDyadic.mk (TRing.mk k_1 (i64.wrap (k_1 + 1)) (i64.wrap ((i64.wrap (k_1 + 1)) + 1)) x.Num.D) x.Exp)) (getI_set (y := (TDyadic.mk (TRing.mk k_1 (i64.wrap (k_1 + 1)) x.Num.C x.Num.D) x.Exp)) (getI_set (y := (TDyadic.mk (TRing.mk k_1 x.Num.B x.Num.C x.Num.D) x.Exp)) hx)))) (j := 4) (k := 1) (by decide)) (gi_setf enc_Dyadic_len (getI_set (y := (TDyadic.mk (TRing.mk k_1 (i64.wrap (k_1 + 1)) (i64.wrap ((i64.wrap (k_1 + 1)) + 1)) (i64.wrap ((i64.wrap ((i64.wrap (k_1 + 1)) + 1)) + 1))) x.Exp)) (getI_set (y := (TDyadic.mk (TRing.mk k_1 (i64.wrap (k_1 + 1)) (i64.wrap ((i64.wrap (k_1 + 1)) + 1)) x.Num.D) x.Exp)) (getI_set (y := (TDyadic.mk (TRing.mk k_1 (i64.wrap (k_1 + 1)) x.Num.C x.Num.D) x.Exp)) (getI_set (y := (TDyadic.mk (TRing.mk k_1 x.Num.B x.Num.C x.Num.D) x.Exp)) hx)))) (TDyadic.mk (TRing.mk k_1 (i64.wrap (k_1 + 1)) (i64.wrap ((i64.wrap (k_1 + 1)) + 1)) (i64.wrap ((i64.wrap ((i64.wrap (k_1 + 1)) + 1)) + 1))) (i64.wrap ((i64.wrap ((i64.wrap ((i64.wrap (k_1 + 1)) + 1)) + 1)) + 1))) rfl (Nat.le_of_ble_eq_true rfl)) rfl) ?_
    rintro _ w_4 ⟨rfl, hS6⟩
    refine rw_nil ?_
    refine cw_region ?_
    refine sq 49 rfl rfl (Y_move (v := vi (i64.wrap ((i64.wrap ((i64.wrap ((i64.wrap (k_1 + 1)) + 1)) + 1)) + 1))) rfl rfl) ?_
    refine sq 50 rfl rfl (Y_add (k := .i64) (a := (i64.wrap ((i64.wrap ((i64.wrap ((i64.wrap (k_1 + 1)) + 1)) + 1)) + 1))) (b := 1) rfl rfl rfl) ?_
    refine sq 1 rfl rfl (Y_assign (v := vi (i64.wrap ((i64.wrap ((i64.wrap ((i64.wrap ((i64.wrap (k_1 + 1)) + 1)) + 1)) + 1)) + 1))) rfl rfl) ?_
    refine rw_nil ?_
    refine cw_region ?_
    refine sq 10 rfl rfl (Y_move (v := vi (i1 : Int)) rfl (hf.get 5 2 rfl)) ?_
    refine sq 11 rfl rfl (Y_add (k := .i64) (a := (i1 : Int)) (b := 1) rfl rfl rfl) ?_
    refine sq 5 rfl rfl (Y_assign (v := vi (i64.wrap ((i1 : Int) + 1))) rfl rfl) ?_
    refine rw_nil ?_
    obtain rfl := some_inj hb
    exact ⟨k_3, Nat.lt_succ_self _, i1 + 1, (((((m1.set (i1 : Int).toNat (TDyadic.mk (TRing.mk k_1 x.Num.B x.Num.C x.Num.D) x.Exp)).set (i1 : Int).toNat (TDyadic.mk (TRing.mk k_1 (i64.wrap (k_1 + 1)) x.Num.C x.Num.D) x.Exp)).set (i1 : Int).toNat (TDyadic.mk (TRing.mk k_1 (i64.wrap (k_1 + 1)) (i64.wrap ((i64.wrap (k_1 + 1)) + 1)) x.Num.D) x.Exp)).set (i1 : Int).toNat (TDyadic.mk (TRing.mk k_1 (i64.wrap (k_1 + 1)) (i64.wrap ((i64.wrap (k_1 + 1)) + 1)) (i64.wrap ((i64.wrap ((i64.wrap (k_1 + 1)) + 1)) + 1))) x.Exp)).set (i1 : Int).toNat (TDyadic.mk (TRing.mk k_1 (i64.wrap (k_1 + 1)) (i64.wrap ((i64.wrap (k_1 + 1)) + 1)) (i64.wrap ((i64.wrap ((i64.wrap (k_1 + 1)) + 1)) + 1))) (i64.wrap ((i64.wrap ((i64.wrap ((i64.wrap (k_1 + 1)) + 1)) + 1)) + 1)))), (i64.wrap ((i64.wrap ((i64.wrap ((i64.wrap ((i64.wrap (k_1 + 1)) + 1)) + 1)) + 1)) + 1)), (FF.cons (hf.get 0 0 rfl) (FF.cons rfl (FF.cons (congrArg (Value.int .i64) (wr_succ hlt1 hN)) FF.nil))), (set_len _ _ _ (set_len _ _ _ (set_len _ _ _ (set_len _ _ _ (set_len _ _ _ hl))))), (hS6.sel [0] rfl rfl), (by omega), hL1⟩
  · skip
    obtain rfl : k_2 = 0 := by have h := of_decide_eq_false hlt; omega
    refine cw_exit rfl ?_
    obtain rfl := some_inj hL
    refine cw_seq ?_
    refine cw_region ?_
    refine sq 51 rfl rfl (Y_move (v := vi k_1) rfl (hf.get 1 1 rfl)) ?_
    refine sq 4 rfl rfl (Y_assign (v := vi k_1) rfl rfl) ?_
    refine rw_nil ?_
    refine cw_ret ?_
    obtain ⟨rfl, rfl⟩ := pr2 (some_inj hF1)
    exact ret1 Tryd.results24 (v1 := vi k_1) (resAt_tmp rfl) ⟨rfl, hl, (ST.subR (R' := []) (hS1.sel [0] rfl rfl) (fun _ h => by cases h))⟩

theorem c_laws_markMatrix (a : TMatrix) (k_ : Int) (B : Option Addr) (c n : Nat) (w0 : World) (hn : a.Cells.length = n) (hS : ST w0 (bl [⟨B, 49, (a.Cells.flatMap enc_Dyadic), c * 5⟩]) w0 [⟨B, 49, (a.Cells.flatMap enc_Dyadic), c * 5⟩] []) {r_ : Int} {m : List TDyadic} (hF : F_laws_markMatrix a k_ = some (r_, m)) :
    CV Tryd.prog 11 #[.agg #[vi a.Rows, vi a.Cols, .slice B n c], vi k_] w0 (fun v w' => v = vi r_ ∧ m.length = n ∧ ST w0 (bl [⟨B, 49, (a.Cells.flatMap enc_Dyadic), c * 5⟩]) w' [⟨B, 49, (m.flatMap enc_Dyadic), c * 5⟩] []) := by
  subst hn
  unfold F_laws_markMatrix at hF
  refine cv_of_cw 10 Tryd.func11 rfl Tryd.ntmps11 rfl ?_
  refine cw_seq ?_
  refine cw_region ?_
  refine ss 2 rfl rfl (Ys_box (T := 32) (v := .agg #[vi a.Rows, vi a.Cols, .slice B a.Cells.length c]) (cs := [vi a.Rows, vi a.Cols, .slice B a.Cells.length c]) (m := 3) hS rfl rfl rfl rfl) ?_
  rintro _ w_ ⟨b, rfl, hS1⟩
  have hS1 : ST w0 (bl [⟨B, 49, (a.Cells.flatMap enc_Dyadic), c * 5⟩]) _ [⟨B, 49, (a.Cells.flatMap enc_Dyadic), c * 5⟩, ⟨some ⟨b, 0, none⟩, 32, [vi a.Rows, vi a.Cols, .slice B a.Cells.length c], 3⟩] [] := hS1
  refine sq 4 rfl rfl (Y_assign (v := vi 0) rfl rfl) ?_
  refine rw_nil ?_
  refine cw_seq ?_
  refine cw_region ?_
  refine sq 5 rfl rfl (Y_fieldAddr (B := some ⟨b, 0, none⟩) (i := 0) (s := 0) k_fd_32_2_2_26 k_sz_26_1 rfl rfl) ?_
  refine sq 6 rfl rfl (Y_load1 (B := some ⟨b, 0, none⟩) (i := 2) (cs := [vi a.Rows, vi a.Cols, .slice B a.Cells.length c]) (v := .slice B a.Cells.length c) k_sc_26 rfl rfl (hS1.cf (i := 1) rfl) rfl) ?_
  refine sq 7 rfl rfl (Y_move (v := vi k_) rfl rfl) ?_
  obtain ⟨⟨r_1, m1⟩, hc, hF⟩ := bind_inv hF
  refine sc 8 rfl rfl (Yc_func (g := 24) (vs := [.slice B a.Cells.length c, vi k_]) k_call_24 rfl (mc rfl (mc rfl mn)) (c_laws_markDyadicS a.Cells k_ B c a.Cells.length _ rfl (hS1.inn [true, false] rfl [] rfl) hc)) ?_
  rintro _ w_1 ⟨rfl, hl, hd⟩
  have hS2 := hS1.out [true, false] rfl hd
  have hS2 : ST w0 (bl [⟨B, 49, (a.Cells.flatMap enc_Dyadic), c * 5⟩]) _ [⟨some ⟨b, 0, none⟩, 32, [vi a.Rows, vi a.Cols, .slice B a.Cells.length c], 3⟩, ⟨B, 49, (m1.flatMap enc_Dyadic), c * 5⟩] [] := hS2
  refine sq 1 rfl rfl (Y_assign (v := vi r_1) rfl rfl) ?_
  refine rw_nil ?_
  refine cw_seq ?_
  refine cw_region ?_
  refine sq 9 rfl rfl (Y_move (v := vi r_1) rfl rfl) ?_
  refine sq 4 rfl rfl (Y_assign (v := vi r_1) rfl rfl) ?_
  refine rw_nil ?_
  refine cw_ret ?_
  obtain ⟨rfl, rfl⟩ := pr2 (some_inj hF)
  exact ret1 Tryd.results11 (v1 := vi r_1) (resAt_tmp rfl) ⟨rfl, hl, (ST.subR (R' := []) (hS2.sel [1] rfl rfl) (fun _ h => by cases h))⟩

theorem c_laws_markBloch (a : TBloch) (k_ : Int) (B : Option Addr) (c n : Nat) (w0 : World) (hn : a.Cells.length = n) (hS : ST w0 (bl [⟨B, 49, (a.Cells.flatMap enc_Dyadic), c * 5⟩]) w0 [⟨B, 49, (a.Cells.flatMap enc_Dyadic), c * 5⟩] []) {r_ : Int} {m : List TDyadic} (hF : F_laws_markBloch a k_ = some (r_, m)) :
    CV Tryd.prog 12 #[.agg #[.slice B n c], vi k_] w0 (fun v w' => v = vi r_ ∧ m.length = n ∧ ST w0 (bl [⟨B, 49, (a.Cells.flatMap enc_Dyadic), c * 5⟩]) w' [⟨B, 49, (m.flatMap enc_Dyadic), c * 5⟩] []) := by
  subst hn
  unfold F_laws_markBloch at hF
  refine cv_of_cw 10 Tryd.func12 rfl Tryd.ntmps12 rfl ?_
  refine cw_seq ?_
  refine cw_region ?_
  refine ss 2 rfl rfl (Ys_box (T := 28) (v := .agg #[.slice B a.Cells.length c]) (cs := [.slice B a.Cells.length c]) (m := 1) hS rfl rfl rfl rfl) ?_
  rintro _ w_ ⟨b, rfl, hS1⟩
  have hS1 : ST w0 (bl [⟨B, 49, (a.Cells.flatMap enc_Dyadic), c * 5⟩]) _ [⟨B, 49, (a.Cells.flatMap enc_Dyadic), c * 5⟩, ⟨some ⟨b, 0, none⟩, 28, [.slice B a.Cells.length c], 1⟩] [] := hS1
  refine sq 4 rfl rfl (Y_assign (v := vi 0) rfl rfl) ?_
  refine rw_nil ?_
  refine cw_seq ?_
  refine cw_region ?_
  refine sq 5 rfl rfl (Y_fieldAddr (B := some ⟨b, 0, none⟩) (i := 0) (s := 0) k_fd_28_0_0_26 k_sz_26_1 rfl rfl) ?_
  refine sq 6 rfl rfl (Y_load1 (B := some ⟨b, 0, none⟩) (i := 0) (cs := [.slice B a.Cells.length c]) (v := .slice B a.Cells.length c) k_sc_26 rfl rfl (hS1.cf (i := 1) rfl) rfl) ?_
  refine sq 7 rfl rfl (Y_move (v := vi k_) rfl rfl) ?_
  obtain ⟨⟨r_1, m1⟩, hc, hF⟩ := bind_inv hF
  refine sc 8 rfl rfl (Yc_func (g := 24) (vs := [.slice B a.Cells.length c, vi k_]) k_call_24 rfl (mc rfl (mc rfl mn)) (c_laws_markDyadicS a.Cells k_ B c a.Cells.length _ rfl (hS1.inn [true, false] rfl [] rfl) hc)) ?_
  rintro _ w_1 ⟨rfl, hl, hd⟩
  have hS2 := hS1.out [true, false] rfl hd
  have hS2 : ST w0 (bl [⟨B, 49, (a.Cells.flatMap enc_Dyadic), c * 5⟩]) _ [⟨some ⟨b, 0, none⟩, 28, [.slice B a.Cells.length c], 1⟩, ⟨B, 49, (m1.flatMap enc_Dyadic), c * 5⟩] [] := hS2
  refine sq 1 rfl rfl (Y_assign (v := vi r_1) rfl rfl) ?_
  refine rw_nil ?_
  refine cw_seq ?_
  refine cw_region ?_
  refine sq 9 rfl rfl (Y_move (v := vi r_1) rfl rfl) ?_
  refine sq 4 rfl rfl (Y_assign (v := vi r_1) rfl rfl) ?_
  refine rw_nil ?_
  refine cw_ret ?_
  obtain ⟨rfl, rfl⟩ := pr2 (some_inj hF)
  exact ret1 Tryd.results12 (v1 := vi r_1) (resAt_tmp rfl) ⟨rfl, hl, (ST.subR (R' := []) (hS2.sel [1] rfl rfl) (fun _ h => by cases h))⟩

theorem c_laws_heldDyadicS (a : List TDyadic) (k_ : Int) (B : Option Addr) (c n : Nat) (w0 : World) (hn : a.length = n) (hS : ST w0 [] w0 [] [⟨B, (a.flatMap enc_Dyadic)⟩]) {r_ : Int} (hF : F_laws_heldDyadicS a k_ = some r_) :
    CV Tryd.prog 25 #[.slice B n c, vi k_] w0 (fun v w' => v = vi r_ ∧ ST w0 [] w' [] []) := by
  subst hn
  unfold F_laws_heldDyadicS at hF
  refine cv_of_cw 62 Tryd.func25 rfl Tryd.ntmps25 rfl ?_
  refine cw_seq ?_
  refine cw_region ?_
  refine sq 4 rfl rfl (Y_assign (v := vi 0) rfl rfl) ?_
  refine rw_nil ?_
  refine cw_seq ?_
  refine cw_seq ?_
  refine cw_region ?_
  refine sq 5 rfl rfl (Y_assign (v := vi 0) rfl rfl) ?_
  refine rw_nil ?_
  obtain ⟨hN, hF⟩ := chk_inv hF
  obtain ⟨z, hz, hF1⟩ := bind_inv hF
  refine cw_block ?_
  refine cw_loop (fun k f w => ∃ (i1 : Nat) (k_1 : Int), FF f [(0, .slice B a.length c), (1, vi k_1), (5, vi (i1 : Int))] ∧ ST w0 [] w [] [⟨B, (a.flatMap enc_Dyadic)⟩] ∧ i1 + k = a.length ∧ forX (F_laws_heldDyadicS_l1 a) k i1 k_1 = some z) a.length ⟨0, k_, (FF.cons rfl (FF.cons rfl (FF.cons rfl FF.nil))), (hS.sel [] rfl rfl), Nat.zero_add _, hz⟩ ?_
  rintro k_2 f w ⟨i1, k_1, hf, hS1, hik, hL⟩
  refine cw_seq ?_
  refine cw_seq ?_
  refine cw_region ?_
  refine sq 6 rfl rfl (Y_move (v := vi (i1 : Int)) rfl (hf.get 5 2 rfl)) ?_
  refine sq 7 rfl rfl (Y_move (v := .slice B a.length c) rfl (hf.get 0 0 rfl)) ?_
  refine sq 8 rfl rfl (Y_len (B := B) (m := a.length) (c := c) k_sl_26_49 rfl rfl) ?_
  refine sq 9 rfl rfl (Y_lt (k := .i64) (a := (i1 : Int)) (b := (a.length : Int)) rfl rfl rfl) ?_
  refine rw_nil ?_
  refine cw_cond (b := (decide ((i1 : Int) < (a.length : Int)))) rfl (fun hlt => ?_) (fun hlt => ?_)
  · skip
    have hlt1 : i1 < a.length := by have h := of_decide_eq_true hlt; omega
    obtain ⟨k_3, rfl⟩ : ∃ k2, k_2 = k2 + 1 := ⟨k_2 - 1, by omega⟩
    obtain ⟨y, hb, hL1⟩ := forX_go hL
    unfold F_laws_heldDyadicS_l1 at hb
    refine cw_skip ?_
    refine cw_seq ?_
    refine cw_block ?_
    refine cw_seq ?_
    refine cw_seq ?_
    refine cw_region ?_
    refine sq 12 rfl rfl (Y_move (v := .slice B a.length c) rfl (hf.get 0 0 rfl)) ?_
    refine sq 13 rfl rfl (Y_move (v := vi (i1 : Int)) rfl (hf.get 5 2 rfl)) ?_
    obtain ⟨x, hx, hb⟩ := bind_inv hb
    refine sq 14 rfl rfl (Y_index (B := B) (m := a.length) (c := c) (k := .i64) (i := (i1 : Int)) k_sl_26_49 k_sz_49_5 rfl rfl rfl (gi_isSome enc_Dyadic_len rfl (hS1.rf (i := 0) rfl) hx) (getI_nn hx) (getI_ltI hx rfl)) ?_
    refine sq 15 rfl rfl (Y_fieldAddr (B := B) (i := (i1 : Int).toNat * 5) (s := 3) k_fd_49_0_0_47 k_sz_47_4 rfl rfl) ?_
    refine sq 16 rfl rfl (Y_fieldAddr2 (B := B) (i := (i1 : Int).toNat * 5) (e := 0) (l := 0) (s := 0) k_fd_47_0_0_3 k_sz_3_1 rfl rfl rfl) ?_
    refine sq 17 rfl rfl (Y_load1 (B := B) (i := (i1 : Int).toNat * 5 + 0) (cs := (a.flatMap enc_Dyadic)) (v := vi x.Num.A) k_sc_3 rfl rfl (hS1.rf (i := 0) rfl) (gi_at enc_Dyadic_len hx rfl)) ?_
    refine sq 18 rfl rfl (Y_move (v := vi k_1) rfl (hf.get 1 1 rfl)) ?_
    refine sq 19 rfl rfl (Y_ne (k := .i64) (a := x.Num.A) (b := k_1) rfl rfl rfl) ?_
    refine rw_nil ?_
    refine cw_cond (b := (x.Num.A != k_1)) rfl (fun hb1 => ?_) (fun hb1 => ?_)
    · skip
      have hF2 := ct hb hb1
      refine cw_seq ?_
      refine cw_region ?_
      refine sq 4 rfl rfl (Y_assign (v := vi (-1)) rfl rfl) ?_
      refine rw_nil ?_
      refine cw_ret ?_
      obtain rfl := some_inj hF2
      obtain rfl := some_inj hL1
      obtain rfl := some_inj hF1
      exact ret1 Tryd.results25 (v1 := vi (-1)) (resAt_tmp rfl) ⟨rfl, (ST.subR (R' := []) (hS1.sel [] rfl rfl) (fun _ h => by cases h))⟩
    · skip
      have hF3 := cf' hb hb1
      refine cw_skip ?_
      refine cw_seq ?_
      refine cw_region ?_
      refine sq 20 rfl rfl (Y_move (v := vi k_1) rfl (hf.get 1 1 rfl)) ?_
      refine sq 21 rfl rfl (Y_add (k := .i64) (a := k_1) (b := 1) rfl rfl rfl) ?_
      refine sq 1 rfl rfl (Y_assign (v := vi (i64.wrap (k_1 + 1))) rfl rfl) ?_
      refine rw_nil ?_
      refine cw_seq ?_
      refine cw_seq ?_
      refine cw_region ?_
      refine sq 22 rfl rfl (Y_move (v := .slice B a.length c) rfl (hf.get 0 0 rfl)) ?_
      refine sq 23 rfl rfl (Y_move (v := vi (i1 : Int)) rfl (hf.get 5 2 rfl)) ?_
      refine sq 24 rfl rfl (Y_index (B := B) (m := a.length) (c := c) (k := .i64) (i := (i1 : Int)) k_sl_26_49 k_sz_49_5 rfl rfl rfl (gi_isSome enc_Dyadic_len rfl (hS1.rf (i := 0) rfl) hx) (getI_nn hx) (getI_ltI hx rfl)) ?_
      refine sq 25 rfl rfl (Y_fieldAddr (B := B) (i := (i1 : Int).toNat * 5) (s := 3) k_fd_49_0_0_47 k_sz_47_4 rfl rfl) ?_
      refine sq 26 rfl rfl (Y_fieldAddr2 (B := B) (i := (i1 : Int).toNat * 5) (e := 0) (l := 1) (s := 0) k_fd_47_1_1_3 k_sz_3_1 rfl rfl rfl) ?_
      refine sq 27 rfl rfl (Y_load1 (B := B) (i := (i1 : Int).toNat * 5 + 1) (cs := (a.flatMap enc_Dyadic)) (v := vi x.Num.B) k_sc_3 rfl rfl (hS1.rf (i := 0) rfl) (gi_at enc_Dyadic_len hx rfl)) ?_
      refine sq 28 rfl rfl (Y_move (v := vi (i64.wrap (k_1 + 1))) rfl rfl) ?_
      refine sq 29 rfl rfl (Y_ne (k := .i64) (a := x.Num.B) (b := (i64.wrap (k_1 + 1))) rfl rfl rfl) ?_
      refine rw_nil ?_
      refine cw_cond (b := (x.Num.B != (i64.wrap (k_1 + 1)))) rfl (fun hb2 => ?_) (fun hb2 => ?_)
      · skip
        have hF4 := ct hF3 hb2
        refine cw_seq ?_
        refine cw_region ?_
        refine sq 4 rfl rfl (Y_assign (v := vi (-1)) rfl rfl) ?_
        refine rw_nil ?_
        refine cw_ret ?_
        obtain rfl := some_inj hF4
        obtain rfl := some_inj hL1
        obtain rfl := some_inj hF1
        exact ret1 Tryd.results25 (v1 := vi (-1)) (resAt_tmp rfl) ⟨rfl, (ST.subR (R' := []) (hS1.sel [] rfl rfl) (fun _ h => by cases h))⟩
      · skip
        have hF5 := cf' hF3 hb2
        refine cw_skip ?_
        refine cw_seq ?_
        refine cw_region ?_
        refine sq 30 rfl rfl (Y_move (v := vi (i64.wrap (k_1 + 1))) rfl rfl) ?_
        refine sq 31 rfl rfl (Y_add (k := .i64) (a := (i64.wrap (k_1 + 1))) (b := 1) rfl rfl rfl) ?_
        refine sq 1 rfl rfl (Y_assign (v := vi (i64.wrap ((i64.wrap (k_1 + 1)) + 1))) rfl rfl) ?_
        refine rw_nil ?_
        refine cw_seq ?_
        refine cw_seq ?_
        refine cw_region ?_
        refine sq 32 rfl rfl (Y_move (v := .slice B a.length c) rfl (hf.get 0 0 rfl)) ?_
        refine sq 33 rfl rfl (Y_move (v := vi (i1 : Int)) rfl (hf.get 5 2 rfl)) ?_
        refine sq 34 rfl rfl (Y_index (B := B) (m := a.length) (c := c) (k := .i64) (i := (i1 : Int)) k_sl_26_49 k_sz_49_5 rfl rfl rfl (gi_isSome enc_Dyadic_len rfl (hS1.rf (i := 0) rfl) hx) (getI_nn hx) (getI_ltI hx rfl)) ?_
        refine sq 35 rfl rfl (Y_fieldAddr (B := B) (i := (i1 : Int).toNat * 5) (s := 3) k_fd_49_0_0_47 k_sz_47_4 rfl rfl) ?_
        refine sq 36 rfl rfl (Y_fieldAddr2 (B := B) (i := (i1 : Int).toNat * 5) (e := 0) (l := 2) (s := 0) k_fd_47_2_2_3 k_sz_3_1 rfl rfl rfl) ?_
        refine sq 37 rfl rfl (Y_load1 (B := B) (i := (i1 : Int).toNat * 5 + 2) (cs := (a.flatMap enc_Dyadic)) (v := vi x.Num.C) k_sc_3 rfl rfl (hS1.rf (i := 0) rfl) (gi_at enc_Dyadic_len hx rfl)) ?_
        refine sq 38 rfl rfl (Y_move (v := vi (i64.wrap ((i64.wrap (k_1 + 1)) + 1))) rfl rfl) ?_
        refine sq 39 rfl rfl (Y_ne (k := .i64) (a := x.Num.C) (b := (i64.wrap ((i64.wrap (k_1 + 1)) + 1))) rfl rfl rfl) ?_
        refine rw_nil ?_
        refine cw_cond (b := (x.Num.C != (i64.wrap ((i64.wrap (k_1 + 1)) + 1)))) rfl (fun hb3 => ?_) (fun hb3 => ?_)
        · skip
          have hF6 := ct hF5 hb3
          refine cw_seq ?_
          refine cw_region ?_
          refine sq 4 rfl rfl (Y_assign (v := vi (-1)) rfl rfl) ?_
          refine rw_nil ?_
          refine cw_ret ?_
          obtain rfl := some_inj hF6
          obtain rfl := some_inj hL1
          obtain rfl := some_inj hF1
          exact ret1 Tryd.results25 (v1 := vi (-1)) (resAt_tmp rfl) ⟨rfl, (ST.subR (R' := []) (hS1.sel [] rfl rfl) (fun _ h => by cases h))⟩
        · skip
          have hF7 := cf' hF5 hb3
          refine cw_skip ?_
          refine cw_seq ?_
          refine cw_region ?_
          refine sq 40 rfl rfl (Y_move (v := vi (i64.wrap ((i64.wrap (k_1 + 1)) + 1))) rfl rfl) ?_
          refine sq 41 rfl rfl (Y_add (k := .i64) (a := (i64.wrap ((i64.wrap (k_1 + 1)) + 1))) (b := 1) rfl rfl rfl) ?_
          refine sq 1 rfl rfl (Y_assign (v := vi (i64.wrap ((i64.wrap ((i64.wrap (k_1 + 1)) + 1)) + 1))) rfl rfl) ?_
          refine rw_nil ?_
          refine cw_seq ?_
          refine cw_seq ?_
          refine cw_region ?_
          refine sq 42 rfl rfl (Y_move (v := .slice B a.length c) rfl (hf.get 0 0 rfl)) ?_
          refine sq 43 rfl rfl (Y_move (v := vi (i1 : Int)) rfl (hf.get 5 2 rfl)) ?_
          refine sq 44 rfl rfl (Y_index (B := B) (m := a.length) (c := c) (k := .i64) (i := (i1 : Int)) k_sl_26_49 k_sz_49_5 rfl rfl rfl (gi_isSome enc_Dyadic_len rfl (hS1.rf (i := 0) rfl) hx) (getI_nn hx) (getI_ltI hx rfl)) ?_
          refine sq 45 rfl rfl (Y_fieldAddr (B := B) (i := (i1 : Int).toNat * 5) (s := 3) k_fd_49_0_0_47 k_sz_47_4 rfl rfl) ?_
          refine sq 46 rfl rfl (Y_fieldAddr2 (B := B) (i := (i1 : Int).toNat * 5) (e := 0) (l := 3) (s := 0) k_fd_47_3_3_3 k_sz_3_1 rfl rfl rfl) ?_
          refine sq 47 rfl rfl (Y_load1 (B := B) (i := (i1 : Int).toNat * 5 + 3) (cs := (a.flatMap enc_Dyadic)) (v := vi x.Num.D) k_sc_3 rfl rfl (hS1.rf (i := 0) rfl) (gi_at enc_Dyadic_len hx rfl)) ?_
          refine sq 48 rfl rfl (Y_move (v := vi (i64.wrap ((i64.wrap ((i64.wrap (k_1 + 1)) + 1)) + 1))) rfl rfl) ?_
          refine sq 49 rfl rfl (Y_ne (k := .i64) (a := x.Num.D) (b := (i64.wrap ((i64.wrap ((i64.wrap (k_1 + 1)) + 1)) + 1))) rfl rfl rfl) ?_
          refine rw_nil ?_
          refine cw_cond (b := (x.Num.D != (i64.wrap ((i64.wrap ((i64.wrap (k_1 + 1)) + 1)) + 1)))) rfl (fun hb4 => ?_) (fun hb4 => ?_)
          · skip
            have hF8 := ct hF7 hb4
            refine cw_seq ?_
            refine cw_region ?_
            refine sq 4 rfl rfl (Y_assign (v := vi (-1)) rfl rfl) ?_
            refine rw_nil ?_
            refine cw_ret ?_
            obtain rfl := some_inj hF8
            obtain rfl := some_inj hL1
            obtain rfl := some_inj hF1
            exact ret1 Tryd.results25 (v1 := vi (-1)) (resAt_tmp rfl) ⟨rfl, (ST.subR (R' := []) (hS1.sel [] rfl rfl) (fun _ h => by cases h))⟩
          · skip
            have hF9 := cf' hF7 hb4
            refine cw_skip ?_
            refine cw_seq ?_
            refine cw_region ?_
            refine sq 50 rfl rfl (Y_move (v := vi (i64.wrap ((i64.wrap ((i64.wrap (k_1 + 1)) + 1)) + 1))) rfl rfl) ?_
            refine sq 51 rfl rfl (Y_add (k := .i64) (a := (i64.wrap ((i64.wrap ((i64.wrap (k_1 + 1)) + 1)) + 1))) (b := 1) rfl rfl rfl) ?_
            refine sq 1 rfl rfl (Y_assign (v := vi (i64.wrap ((i64.wrap ((i64.wrap ((i64.wrap (k_1 + 1)) + 1)) + 1)) + 1))) rfl rfl) ?_
            refine rw_nil ?_
            refine cw_seq ?_
            refine cw_seq ?_
            refine cw_region ?_
            refine sq 52 rfl rfl (Y_move (v := .slice B a.length c) rfl (hf.get 0 0 rfl)) ?_
            refine sq 53 rfl rfl (Y_move (v := vi (i1 : Int)) rfl (hf.get 5 2 rfl)) ?_
            refine sq 54 rfl rfl (Y_index (B := B) (m := a.length) (c := c) (k := .i64) (i := (i1 : Int)) k_sl_26_49 k_sz_49_5 rfl rfl rfl (gi_isSome enc_Dyadic_len rfl (hS1.rf (i := 0) rfl) hx) (getI_nn hx) (getI_ltI hx rfl)) ?_
            refine sq 55 rfl rfl (Y_fieldAddr (B := B) (i := (i1 : Int).toNat * 5) (s := 0) k_fd_49_1_4_3 k_sz_3_1 rfl rfl) ?_
            refine sq 56 rfl rfl (Y_load1 (B := B) (i := (i1 : Int).toNat * 5 + 4) (cs := (a.flatMap enc_Dyadic)) (v := vi x.Exp) k_sc_3 rfl rfl (hS1.rf (i := 0) rfl) (gi_at enc_Dyadic_len hx rfl)) ?_
            refine sq 57 rfl rfl (Y_move (v := vi (i64.wrap ((i64.wrap ((i64.wrap ((i64.wrap (k_1 + 1)) + 1)) + 1)) + 1))) rfl rfl) ?_
            refine sq 58 rfl rfl (Y_ne (k := .i64) (a := x.Exp) (b := (i64.wrap ((i64.wrap ((i64.wrap ((i64.wrap (k_1 + 1)) + 1)) + 1)) + 1))) rfl rfl rfl) ?_
            refine rw_nil ?_
            refine cw_cond (b := (x.Exp != (i64.wrap ((i64.wrap ((i64.wrap ((i64.wrap (k_1 + 1)) + 1)) + 1)) + 1)))) rfl (fun hb5 => ?_) (fun hb5 => ?_)
            · skip
              have hF10 := ct hF9 hb5
              refine cw_seq ?_
              refine cw_region ?_
              refine sq 4 rfl rfl (Y_assign (v := vi (-1)) rfl rfl) ?_
              refine rw_nil ?_
              refine cw_ret ?_
              obtain rfl := some_inj hF10
              obtain rfl := some_inj hL1
              obtain rfl := some_inj hF1
              exact ret1 Tryd.results25 (v1 := vi (-1)) (resAt_tmp rfl) ⟨rfl, (ST.subR (R' := []) (hS1.sel [] rfl rfl) (fun _ h => by cases h))⟩
            · skip
              have hF11 := cf' hF9 hb5
              refine cw_skip ?_
              refine cw_region ?_
              refine sq 59 rfl rfl (Y_move (v := vi (i64.wrap ((i64.wrap ((i64.wrap ((i64.wrap (k_1 + 1)) + 1)) + 1)) + 1))) rfl rfl) ?_
              refine sq 60 rfl rfl (Y_add (k := .i64) (a := (i64.wrap ((i64.wrap ((i64.wrap ((i64.wrap (k_1 + 1)) + 1)) + 1)) + 1))) (b := 1) rfl rfl rfl) ?_
              refine sq 1 rfl rfl (Y_assign (v := vi (i64.wrap ((i64.wrap ((i64.wrap ((i64.wrap ((i64.wrap (k_1 + 1)) + 1)) + 1)) + 1)) + 1))) rfl rfl) ?_
              refine rw_nil ?_
              refine cw_region ?_
              refine sq 10 rfl rfl (Y_move (v := vi (i1 : Int)) rfl (hf.get 5 2 rfl)) ?_
              refine sq 11 rfl rfl (Y_add (k := .i64) (a := (i1 : Int)) (b := 1) rfl rfl rfl) ?_
              refine sq 5 rfl rfl (Y_assign (v := vi (i64.wrap ((i1 : Int) + 1))) rfl rfl) ?_
              refine rw_nil ?_
              obtain rfl := some_inj hF11
              exact ⟨k_3, Nat.lt_succ_self _, i1 + 1, (i64.wrap ((i64.wrap ((i64.wrap ((i64.wrap ((i64.wrap (k_1 + 1)) + 1)) + 1)) + 1)) + 1)), (FF.cons (hf.get 0 0 rfl) (FF.cons rfl (FF.cons (congrArg (Value.int .i64) (wr_succ hlt1 hN)) FF.nil))), (hS1.sel [] rfl rfl), (by omega), hL1⟩
  · skip
    obtain rfl : k_2 = 0 := by have h := of_decide_eq_false hlt; omega
    refine cw_exit rfl ?_
    obtain rfl := some_inj hL
    refine cw_seq ?_
    refine cw_region ?_
    refine sq 61 rfl rfl (Y_move (v := vi k_1) rfl (hf.get 1 1 rfl)) ?_
    refine sq 4 rfl rfl (Y_assign (v := vi k_1) rfl rfl) ?_
    refine rw_nil ?_
    refine cw_ret ?_
    obtain rfl := some_inj hF1
    exact ret1 Tryd.results25 (v1 := vi k_1) (resAt_tmp rfl) ⟨rfl, (ST.subR (R' := []) (hS1.sel [] rfl rfl) (fun _ h => by cases h))⟩

theorem c_laws_heldBloch (a : TBloch) (k_ : Int) (B : Option Addr) (c n : Nat) (w0 : World) (hn : a.Cells.length = n) (hS : ST w0 [] w0 [] [⟨B, (a.Cells.flatMap enc_Dyadic)⟩]) {r_ : Int} (hF : F_laws_heldBloch a k_ = some r_) :
    CV Tryd.prog 13 #[.agg #[.slice B n c], vi k_] w0 (fun v w' => v = vi r_ ∧ ST w0 [] w' [] []) := by
  subst hn
  unfold F_laws_heldBloch at hF
  refine cv_of_cw 12 Tryd.func13 rfl Tryd.ntmps13 rfl ?_
  refine cw_seq ?_
  refine cw_region ?_
  refine ss 2 rfl rfl (Ys_box (T := 28) (v := .agg #[.slice B a.Cells.length c]) (cs := [.slice B a.Cells.length c]) (m := 1) hS rfl rfl rfl rfl) ?_
  rintro _ w_ ⟨b, rfl, hS1⟩
  refine sq 4 rfl rfl (Y_assign (v := vi 0) rfl rfl) ?_
  refine rw_nil ?_
  refine cw_seq ?_
  refine cw_region ?_
  refine sq 5 rfl rfl (Y_fieldAddr (B := some ⟨b, 0, none⟩) (i := 0) (s := 0) k_fd_28_0_0_26 k_sz_26_1 rfl rfl) ?_
  refine sq 6 rfl rfl (Y_load1 (B := some ⟨b, 0, none⟩) (i := 0) (cs := [.slice B a.Cells.length c]) (v := .slice B a.Cells.length c) k_sc_26 rfl rfl (hS1.cf (i := 0) rfl) rfl) ?_
  refine sq 7 rfl rfl (Y_move (v := vi k_) rfl rfl) ?_
  obtain ⟨r_1, hc, hF⟩ := bind_inv hF
  refine sc 8 rfl rfl (Yc_func (g := 25) (vs := [.slice B a.Cells.length c, vi k_]) k_call_25 rfl (mc rfl (mc rfl mn)) (c_laws_heldDyadicS a.Cells k_ B c a.Cells.length _ rfl (hS1.inn0 [(true, 0)] rfl) hc)) ?_
  rintro _ w_1 ⟨rfl, hd⟩
  have hS2 := hS1.out00 hd
  refine sq 1 rfl rfl (Y_assign (v := vi r_1) rfl rfl) ?_
  refine rw_nil ?_
  refine cw_seq ?_
  refine cw_seq ?_
  refine cw_region ?_
  refine sq 9 rfl rfl (Y_move (v := vi r_1) rfl rfl) ?_
  refine sq 10 rfl rfl (Y_lt (k := .i64) (a := r_1) (b := 0) rfl rfl rfl) ?_
  refine rw_nil ?_
  refine cw_cond (b := (decide (r_1 < 0))) rfl (fun hb => ?_) (fun hb => ?_)
  · skip
    have hF1 := ct hF hb
    refine cw_seq ?_
    refine cw_region ?_
    refine sq 4 rfl rfl (Y_assign (v := vi (-1)) rfl rfl) ?_
    refine rw_nil ?_
    refine cw_ret ?_
    obtain rfl := some_inj hF1
    exact ret1 Tryd.results13 (v1 := vi (-1)) (resAt_tmp rfl) ⟨rfl, (ST.subR (R' := []) (hS2.sel [] rfl rfl) (fun _ h => by cases h))⟩
  · skip
    have hF2 := cf' hF hb
    refine cw_skip ?_
    refine cw_seq ?_
    refine cw_region ?_
    refine sq 11 rfl rfl (Y_move (v := vi r_1) rfl rfl) ?_
    refine sq 4 rfl rfl (Y_assign (v := vi r_1) rfl rfl) ?_
    refine rw_nil ?_
    refine cw_ret ?_
    obtain rfl := some_inj hF2
    exact ret1 Tryd.results13 (v1 := vi r_1) (resAt_tmp rfl) ⟨rfl, (ST.subR (R' := []) (hS2.sel [] rfl rfl) (fun _ h => by cases h))⟩

theorem c_laws_FnExactBlochOf (aM : TMatrix) (B : Option Addr) (c n : Nat) (w0 : World) (hn : aM.Cells.length = n) (hS : ST w0 [] w0 [] [⟨B, (aM.Cells.flatMap enc_Dyadic)⟩, ⟨(some ⟨0, 0, none⟩), [vi 1, vi 0, vi 0, vi 0, vi 2]⟩]) {r_ : Bool} (hF : F_laws_FnExactBlochOf aM = some r_) :
    CV Tryd.prog 3 #[.agg #[vi aM.Rows, vi aM.Cols, .slice B n c]] w0 (fun v w' => v = .bool r_ ∧ ST w0 [] w' [] []) := by
  subst hn
  unfold F_laws_FnExactBlochOf at hF
  refine cv_of_cw 96 Tryd.func3 rfl Tryd.ntmps3 rfl ?_
  refine cw_seq ?_
  refine cw_region ?_
  refine ss 1 rfl rfl (Ys_box (T := 24) (v := .agg #[vi aM.Rows, vi aM.Cols, .slice B aM.Cells.length c]) (cs := [vi aM.Rows, vi aM.Cols, .slice B aM.Cells.length c]) (m := 3) hS rfl rfl rfl rfl) ?_
  rintro _ w_ ⟨b, rfl, hS1⟩
  refine sq 2 rfl rfl (Y_assign (v := .bool false) rfl rfl) ?_
  refine rw_nil ?_
  refine cw_seq ?_
  refine cw_region ?_
  refine sq 3 rfl rfl (Y_assign (v := vi 1048576) rfl rfl) ?_
  refine rw_nil ?_
  refine cw_seq ?_
  refine cw_region ?_
  refine sq 14 rfl rfl (Y_loadA (B := some ⟨b, 0, none⟩) (i := 0) (cs := [vi aM.Rows, vi aM.Cols, .slice B aM.Cells.length c]) (vs := [vi aM.Rows, vi aM.Cols, .slice B aM.Cells.length c]) k_ag_24 k_sz_24_3 rfl rfl (hS1.cf (i := 0) rfl) rfl rfl) ?_
  refine sq 15 rfl rfl (Y_move (v := vi 1048576) rfl rfl) ?_
  obtain ⟨r_1, hc, hF⟩ := bind_inv hF
  refine sc 16 rfl rfl (Yc_func (g := 5) (vs := [.agg #[vi aM.Rows, vi aM.Cols, .slice B aM.Cells.length c], vi 1048576]) k_call_5 rfl (mc rfl (mc rfl mn)) (c_laws_szMatrix aM 1048576 B c aM.Cells.length _ rfl (hS1.inn0 [(true, 0)] rfl) hc)) ?_
  rintro _ w_1 ⟨rfl, hd⟩
  have hS2 := hS1.out00 hd
  refine sq 3 rfl rfl (Y_assign (v := vi r_1) rfl rfl) ?_
  refine rw_nil ?_
  refine cw_seq ?_
  refine cw_seq ?_
  refine cw_region ?_
  refine sq 17 rfl rfl (Y_move (v := vi r_1) rfl rfl) ?_
  refine sq 18 rfl rfl (Y_lt (k := .i64) (a := r_1) (b := 0) rfl rfl rfl) ?_
  refine rw_nil ?_
  refine cw_cond (b := (decide (r_1 < 0))) rfl (fun hb => ?_) (fun hb => ?_)
  · skip
    have hF1 := ct hF hb
    refine cw_seq ?_
    refine cw_region ?_
    refine sq 2 rfl rfl (Y_assign (v := .bool true) rfl rfl) ?_
    refine rw_nil ?_
    refine cw_ret ?_
    obtain rfl := some_inj hF1
    exact ret1 Tryd.results3 (v1 := .bool true) (resAt_tmp rfl) ⟨rfl, (ST.subR (R' := []) (hS2.sel [] rfl rfl) (fun _ h => by cases h))⟩
  · skip
    have hF2 := cf' hF hb
    refine cw_skip ?_
    refine cw_seq ?_
    refine cw_region ?_
    refine sq 20 rfl rfl (Y_loadA (B := some ⟨b, 0, none⟩) (i := 0) (cs := [vi aM.Rows, vi aM.Cols, .slice B aM.Cells.length c]) (vs := [vi aM.Rows, vi aM.Cols, .slice B aM.Cells.length c]) k_ag_24 k_sz_24_3 rfl rfl (hS2.cf (i := 0) rfl) rfl rfl) ?_
    obtain ⟨r_2, hc1, hF2⟩ := bind_inv hF2
    refine sc 21 rfl rfl (Yc_func (g := 7) (vs := [.agg #[vi aM.Rows, vi aM.Cols, .slice B aM.Cells.length c]]) k_call_7 rfl (mc rfl mn) (c_laws_toMatrix aM B c aM.Cells.length _ rfl (hS2.inn0 [(true, 0)] rfl) hc1)) ?_
    rintro _ w_2 ⟨B1, c1, rfl, hd1⟩
    have hS3 := hS2.out0 hd1
    have hS3 : ST w0 [] _ [⟨some ⟨b, 0, none⟩, 24, [vi aM.Rows, vi aM.Cols, .slice B aM.Cells.length c], 3⟩, ⟨B1, 49, (r_2.Cells.flatMap enc_Dyadic), c1 * 5⟩] [⟨B, (aM.Cells.flatMap enc_Dyadic)⟩, ⟨(some ⟨0, 0, none⟩), [vi 1, vi 0, vi 0, vi 0, vi 2]⟩] := hS3
    obtain ⟨⟨r_3, r_4⟩, hc2, hF2⟩ := bind_inv hF2
    refine sc 22 rfl rfl (Yc_func (g := 6) (vs := [.agg #[vi r_2.Rows, vi r_2.Cols, .slice B1 r_2.Cells.length c1]]) k_call_6 rfl (mc rfl mn) (c_spec_BlochOf r_2 B1 c1 r_2.Cells.length _ rfl (hS3.inn0 [(false, 1)] rfl) hc2)) ?_
    rintro _ w_3 ⟨B2, c2, rfl, hd2⟩
    have hS4 := hS3.out0 hd2
    have hS4 : ST w0 [] _ [⟨some ⟨b, 0, none⟩, 24, [vi aM.Rows, vi aM.Cols, .slice B aM.Cells.length c], 3⟩, ⟨B1, 49, (r_2.Cells.flatMap enc_Dyadic), c1 * 5⟩, ⟨B2, 49, (r_3.Cells.flatMap enc_Dyadic), c2 * 5⟩] [⟨B, (aM.Cells.flatMap enc_Dyadic)⟩, ⟨(some ⟨0, 0, none⟩), [vi 1, vi 0, vi 0, vi 0, vi 2]⟩] := hS4
    refine sq 19 rfl rfl (Y_move (v := .tuple #[.agg #[.slice B2 r_3.Cells.length c2], .bool r_4]) rfl rfl) ?_
    refine sq 23 rfl rfl (Y_extract (v := .agg #[.slice B2 r_3.Cells.length c2]) rfl rfl rfl) ?_
    refine sq 24 rfl rfl (Y_extract (v := .bool r_4) rfl rfl rfl) ?_
    refine ss 4 rfl rfl (Ys_alloc (T := 28) (cs := [.slice none 0 0]) (m := 1) hS4 k_zero_28 rfl rfl rfl) ?_
    rintro _ w_4 ⟨b1, rfl, hS5⟩
    have hS5 : ST w0 [] _ [⟨some ⟨b, 0, none⟩, 24, [vi aM.Rows, vi aM.Cols, .slice B aM.Cells.length c], 3⟩, ⟨B1, 49, (r_2.Cells.flatMap enc_Dyadic), c1 * 5⟩, ⟨B2, 49, (r_3.Cells.flatMap enc_Dyadic), c2 * 5⟩, ⟨some ⟨b1, 0, none⟩, 28, [.slice none 0 0], 1⟩] [⟨B, (aM.Cells.flatMap enc_Dyadic)⟩, ⟨(some ⟨0, 0, none⟩), [vi 1, vi 0, vi 0, vi 0, vi 2]⟩] := hS5
    refine ss0 rfl rfl (Ys_store (i := 3) (s := 1) (B := some ⟨b1, 0, none⟩) (T' := 28) (v := .agg #[.slice B2 r_3.Cells.length c2]) (vs := [.slice B2 r_3.Cells.length c2]) (k := 0) (cs' := [.slice B2 r_3.Cells.length c2]) hS5 k_sz_28_1 rfl rfl rfl rfl rfl rfl rfl (Nat.le_of_ble_eq_true rfl) rfl rfl) ?_
    rintro _ w_5 ⟨rfl, hS6⟩
    have hS6 : ST w0 [] _ [⟨some ⟨b, 0, none⟩, 24, [vi aM.Rows, vi aM.Cols, .slice B aM.Cells.length c], 3⟩, ⟨B1, 49, (r_2.Cells.flatMap enc_Dyadic), c1 * 5⟩, ⟨B2, 49, (r_3.Cells.flatMap enc_Dyadic), c2 * 5⟩, ⟨some ⟨b1, 0, none⟩, 28, [.slice B2 r_3.Cells.length c2], 1⟩] [⟨B, (aM.Cells.flatMap enc_Dyadic)⟩, ⟨(some ⟨0, 0, none⟩), [vi 1, vi 0, vi 0, vi 0, vi 2]⟩] := hS6
    refine sq 5 rfl rfl (Y_assign (v := .bool r_4) rfl rfl) ?_
    refine rw_nil ?_
    refine cw_seq ?_
    refine cw_region ?_
    refine sq 25 rfl rfl (Y_loadA (B := some ⟨b, 0, none⟩) (i := 0) (cs := [vi aM.Rows, vi aM.Cols, .slice B aM.Cells.length c]) (vs := [vi aM.Rows, vi aM.Cols, .slice B aM.Cells.length c]) k_ag_24 k_sz_24_3 rfl rfl (hS6.cf (i := 0) rfl) rfl rfl) ?_
    obtain ⟨r_5, hc3, hF2⟩ := bind_inv hF2
    refine sc 26 rfl rfl (Yc_func (g := 7) (vs := [.agg #[vi aM.Rows, vi aM.Cols, .slice B aM.Cells.length c]]) k_call_7 rfl (mc rfl mn) (c_laws_toMatrix aM B c aM.Cells.length _ rfl (hS6.inn0 [(true, 0)] rfl) hc3)) ?_
    rintro _ w_6 ⟨B3, c3, rfl, hd3⟩
    have hS7 := hS6.out0 hd3
    have hS7 : ST w0 [] _ [⟨some ⟨b, 0, none⟩, 24, [vi aM.Rows, vi aM.Cols, .slice B aM.Cells.length c], 3⟩, ⟨B1, 49, (r_2.Cells.flatMap enc_Dyadic), c1 * 5⟩, ⟨B2, 49, (r_3.Cells.flatMap enc_Dyadic), c2 * 5⟩, ⟨some ⟨b1, 0, none⟩, 28, [.slice B2 r_3.Cells.length c2], 1⟩, ⟨B3, 49, (r_5.Cells.flatMap enc_Dyadic), c3 * 5⟩] [⟨B, (aM.Cells.flatMap enc_Dyadic)⟩, ⟨(some ⟨0, 0, none⟩), [vi 1, vi 0, vi 0, vi 0, vi 2]⟩] := hS7
    refine ss 6 rfl rfl (Ys_alloc (T := 32) (cs := [vi 0, vi 0, .slice none 0 0]) (m := 3) hS7 k_zero_32 rfl rfl rfl) ?_
    rintro _ w_7 ⟨b2, rfl, hS8⟩
    have hS8 : ST w0 [] _ [⟨some ⟨b, 0, none⟩, 24, [vi aM.Rows, vi aM.Cols, .slice B aM.Cells.length c], 3⟩, ⟨B1, 49, (r_2.Cells.flatMap enc_Dyadic), c1 * 5⟩, ⟨B2, 49, (r_3.Cells.flatMap enc_Dyadic), c2 * 5⟩, ⟨some ⟨b1, 0, none⟩, 28, [.slice B2 r_3.Cells.length c2], 1⟩, ⟨B3, 49, (r_5.Cells.flatMap enc_Dyadic), c3 * 5⟩, ⟨some ⟨b2, 0, none⟩, 32, [vi 0, vi 0, .slice none 0 0], 3⟩] [⟨B, (aM.Cells.flatMap enc_Dyadic)⟩, ⟨(some ⟨0, 0, none⟩), [vi 1, vi 0, vi 0, vi 0, vi 2]⟩] := hS8
    refine ss0 rfl rfl (Ys_store (i := 5) (s := 3) (B := some ⟨b2, 0, none⟩) (T' := 32) (v := .agg #[vi r_5.Rows, vi r_5.Cols, .slice B3 r_5.Cells.length c3]) (vs := [vi r_5.Rows, vi r_5.Cols, .slice B3 r_5.Cells.length c3]) (k := 0) (cs' := [vi r_5.Rows, vi r_5.Cols, .slice B3 r_5.Cells.length c3]) hS8 k_sz_32_3 rfl rfl rfl rfl rfl rfl rfl (Nat.le_of_ble_eq_true rfl) rfl rfl) ?_
    rintro _ w_8 ⟨rfl, hS9⟩
    have hS9 : ST w0 [] _ [⟨some ⟨b, 0, none⟩, 24, [vi aM.Rows, vi aM.Cols, .slice B aM.Cells.length c], 3⟩, ⟨B1, 49, (r_2.Cells.flatMap enc_Dyadic), c1 * 5⟩, ⟨B2, 49, (r_3.Cells.flatMap enc_Dyadic), c2 * 5⟩, ⟨some ⟨b1, 0, none⟩, 28, [.slice B2 r_3.Cells.length c2], 1⟩, ⟨B3, 49, (r_5.Cells.flatMap enc_Dyadic), c3 * 5⟩, ⟨some ⟨b2, 0, none⟩, 32, [vi r_5.Rows, vi r_5.Cols, .slice B3 r_5.Cells.length c3], 3⟩] [⟨B, (aM.Cells.flatMap enc_Dyadic)⟩, ⟨(some ⟨0, 0, none⟩), [vi 1, vi 0, vi 0, vi 0, vi 2]⟩] := hS9
    refine rw_nil ?_
    refine cw_seq ?_
    refine cw_region ?_
    refine sq 28 rfl rfl (Y_loadA (B := some ⟨b2, 0, none⟩) (i := 0) (cs := [vi r_5.Rows, vi r_5.Cols, .slice B3 r_5.Cells.length c3]) (vs := [vi r_5.Rows, vi r_5.Cols, .slice B3 r_5.Cells.length c3]) k_ag_32 k_sz_32_3 rfl rfl (hS9.cf (i := 5) rfl) rfl rfl) ?_
    obtain ⟨⟨r_6, r_7⟩, hc4, hF2⟩ := bind_inv hF2
    refine sc 29 rfl rfl (Yc_func (g := 8) (vs := [.agg #[vi r_5.Rows, vi r_5.Cols, .slice B3 r_5.Cells.length c3]]) k_call_8 rfl (mc rfl mn) (c_impl_BlochOf r_5 B3 c3 r_5.Cells.length _ rfl (hS9.inn0 [(false, 4), (true, 1)] rfl) hc4)) ?_
    rintro _ w_9 ⟨B4, c4, rfl, hd4⟩
    have hS10 := hS9.out0 hd4
    have hS10 : ST w0 [] _ [⟨some ⟨b, 0, none⟩, 24, [vi aM.Rows, vi aM.Cols, .slice B aM.Cells.length c], 3⟩, ⟨B1, 49, (r_2.Cells.flatMap enc_Dyadic), c1 * 5⟩, ⟨B2, 49, (r_3.Cells.flatMap enc_Dyadic), c2 * 5⟩, ⟨some ⟨b1, 0, none⟩, 28, [.slice B2 r_3.Cells.length c2], 1⟩, ⟨B3, 49, (r_5.Cells.flatMap enc_Dyadic), c3 * 5⟩, ⟨some ⟨b2, 0, none⟩, 32, [vi r_5.Rows, vi r_5.Cols, .slice B3 r_5.Cells.length c3], 3⟩, ⟨B4, 49, (r_6.Cells.flatMap enc_Dyadic), c4 * 5⟩] [⟨B, (aM.Cells.flatMap enc_Dyadic)⟩, ⟨(some ⟨0, 0, none⟩), [vi 1, vi 0, vi 0, vi 0, vi 2]⟩] := hS10
    refine sq 27 rfl rfl (Y_move (v := .tuple #[.agg #[.slice B4 r_6.Cells.length c4], .bool r_7]) rfl rfl) ?_
    refine sq 30 rfl rfl (Y_extract (v := .agg #[.slice B4 r_6.Cells.length c4]) rfl rfl rfl) ?_
    refine sq 31 rfl rfl (Y_extract (v := .bool r_7) rfl rfl rfl) ?_
    refine ss 7 rfl rfl (Ys_alloc (T := 28) (cs := [.slice none 0 0]) (m := 1) hS10 k_zero_28 rfl rfl rfl) ?_
    rintro _ w_10 ⟨b3, rfl, hS11⟩
    have hS11 : ST w0 [] _ [⟨some ⟨b, 0, none⟩, 24, [vi aM.Rows, vi aM.Cols, .slice B aM.Cells.length c], 3⟩, ⟨B1, 49, (r_2.Cells.flatMap enc_Dyadic), c1 * 5⟩, ⟨B2, 49, (r_3.Cells.flatMap enc_Dyadic), c2 * 5⟩, ⟨some ⟨b1, 0, none⟩, 28, [.slice B2 r_3.Cells.length c2], 1⟩, ⟨B3, 49, (r_5.Cells.flatMap enc_Dyadic), c3 * 5⟩, ⟨some ⟨b2, 0, none⟩, 32, [vi r_5.Rows, vi r_5.Cols, .slice B3 r_5.Cells.length c3], 3⟩, ⟨B4, 49, (r_6.Cells.flatMap enc_Dyadic), c4 * 5⟩, ⟨some ⟨b3, 0, none⟩, 28, [.slice none 0 0], 1⟩] [⟨B, (aM.Cells.flatMap enc_Dyadic)⟩, ⟨(some ⟨0, 0, none⟩), [vi 1, vi 0, vi 0, vi 0, vi 2]⟩] := hS11
    refine ss0 rfl rfl (Ys_store (i := 7) (s := 1) (B := some ⟨b3, 0, none⟩) (T' := 28) (v := .agg #[.slice B4 r_6.Cells.length c4]) (vs := [.slice B4 r_6.Cells.length c4]) (k := 0) (cs' := [.slice B4 r_6.Cells.length c4]) hS11 k_sz_28_1 rfl rfl rfl rfl rfl rfl rfl (Nat.le_of_ble_eq_true rfl) rfl rfl) ?_
    rintro _ w_11 ⟨rfl, hS12⟩
    have hS12 : ST w0 [] _ [⟨some ⟨b, 0, none⟩, 24, [vi aM.Rows, vi aM.Cols, .slice B aM.Cells.length c], 3⟩, ⟨B1, 49, (r_2.Cells.flatMap enc_Dyadic), c1 * 5⟩, ⟨B2, 49, (r_3.Cells.flatMap enc_Dyadic), c2 * 5⟩, ⟨some ⟨b1, 0, none⟩, 28, [.slice B2 r_3.Cells.length c2], 1⟩, ⟨B3, 49, (r_5.Cells.flatMap enc_Dyadic), c3 * 5⟩, ⟨some ⟨b2, 0, none⟩, 32, [vi r_5.Rows, vi r_5.Cols, .slice B3 r_5.Cells.length c3], 3⟩, ⟨B4, 49, (r_6.Cells.flatMap enc_Dyadic), c4 * 5⟩, ⟨some ⟨b3, 0, none⟩, 28, [.slice B4 r_6.Cells.length c4], 1⟩] [⟨B, (aM.Cells.flatMap enc_Dyadic)⟩, ⟨(some ⟨0, 0, none⟩), [vi 1, vi 0, vi 0, vi 0, vi 2]⟩] := hS12
    refine sq 8 rfl rfl (Y_assign (v := .bool r_7) rfl rfl) ?_
    refine rw_nil ?_
    refine cw_seq ?_
    refine cw_seq ?_
    refine cw_region ?_
    refine sq 32 rfl rfl (Y_loadA (B := some ⟨b3, 0, none⟩) (i := 0) (cs := [.slice B4 r_6.Cells.length c4]) (vs := [.slice B4 r_6.Cells.length c4]) k_ag_28 k_sz_28_1 rfl rfl (hS12.cf (i := 7) rfl) rfl rfl) ?_
    refine sq 33 rfl rfl (Y_loadA (B := some ⟨b1, 0, none⟩) (i := 0) (cs := [.slice B2 r_3.Cells.length c2]) (vs := [.slice B2 r_3.Cells.length c2]) k_ag_28 k_sz_28_1 rfl rfl (hS12.cf (i := 3) rfl) rfl rfl) ?_
    obtain ⟨r_8, hc5, hF2⟩ := bind_inv hF2
    refine sc 34 rfl rfl (Yc_func (g := 9) (vs := [.agg #[.slice B4 r_6.Cells.length c4], .agg #[.slice B2 r_3.Cells.length c2]]) k_call_9 rfl (mc rfl (mc rfl mn)) (c_laws_eqBloch r_6 r_3 B4 c4 r_6.Cells.length B2 c2 r_3.Cells.length _ rfl rfl (hS12.inn0 [(false, 6), (false, 2)] rfl) hc5)) ?_
    rintro _ w_12 ⟨rfl, hd5⟩
    have hS13 := hS12.out00 hd5
    have hS13 : ST w0 [] _ [⟨some ⟨b, 0, none⟩, 24, [vi aM.Rows, vi aM.Cols, .slice B aM.Cells.length c], 3⟩, ⟨B1, 49, (r_2.Cells.flatMap enc_Dyadic), c1 * 5⟩, ⟨B2, 49, (r_3.Cells.flatMap enc_Dyadic), c2 * 5⟩, ⟨some ⟨b1, 0, none⟩, 28, [.slice B2 r_3.Cells.length c2], 1⟩, ⟨B3, 49, (r_5.Cells.flatMap enc_Dyadic), c3 * 5⟩, ⟨some ⟨b2, 0, none⟩, 32, [vi r_5.Rows, vi r_5.Cols, .slice B3 r_5.Cells.length c3], 3⟩, ⟨B4, 49, (r_6.Cells.flatMap enc_Dyadic), c4 * 5⟩, ⟨some ⟨b3, 0, none⟩, 28, [.slice B4 r_6.Cells.length c4], 1⟩] [⟨B, (aM.Cells.flatMap enc_Dyadic)⟩, ⟨(some ⟨0, 0, none⟩), [vi 1, vi 0, vi 0, vi 0, vi 2]⟩] := hS13
    refine sq 35 rfl rfl (Y_not (p := r_8) rfl rfl) ?_
    refine sq 36 rfl rfl (Y_move (v := .bool (!r_8)) rfl rfl) ?_
    refine sgq 37 (B := (!(!r_8))) (v := .bool r_7) rfl rfl (wt_f (gd_of (t := 36) (by kernel_rfl) rfl)) (fun hg => (Y_move (v := .bool r_7) rfl rfl)) ?_
    refine sgq 38 (B := (!(!r_8))) (v := .bool r_4) rfl rfl (wt_f (gd_of (t := 36) (by kernel_rfl) rfl)) (fun hg1 => (Y_move (v := .bool r_4) rfl rfl)) ?_
    refine sgq 39 (B := (!(!r_8))) (v := .bool (!(r_7 == r_4))) rfl rfl (wt_f (gd_of (t := 36) (by kernel_rfl) rfl)) (fun hg2 => (Y_bne (p := r_7) (q := r_4) k_und_4 rfl (gv_of (B := (!(!r_8))) (v := .bool r_7) hg2) (gv_of (B := (!(!r_8))) (v := .bool r_4) hg2))) ?_
    refine sq 40 rfl rfl (Y_or (b := (!r_8)) (z := (!(r_7 == r_4))) rfl rfl rfl rfl) ?_
    refine rw_nil ?_
    refine cw_cond (b := ((!r_8) || (!(r_7 == r_4)))) rfl (fun hb1 => ?_) (fun hb1 => ?_)
    · skip
      have hF3 := ct hF2 hb1
      refine cw_seq ?_
      refine cw_region ?_
      refine sq 2 rfl rfl (Y_assign (v := .bool false) rfl rfl) ?_
      refine rw_nil ?_
      refine cw_ret ?_
      obtain rfl := some_inj hF3
      exact ret1 Tryd.results3 (v1 := .bool false) (resAt_tmp rfl) ⟨rfl, (ST.subR (R' := []) (hS13.sel [] rfl rfl) (fun _ h => by cases h))⟩
    · skip
      have hF4 := cf' hF2 hb1
      refine cw_skip ?_
      refine cw_seq ?_
      refine cw_seq ?_
      obtain ⟨r_9, hc6, hF4⟩ := bind_inv hF4
      obtain ⟨r_10, hc7, hF4⟩ := bind_inv hF4
      refine ra_start (ST.sel hS13 [0, 1, 2, 3, 4, 5, 6, 7] rfl rfl).fn (by kernel_rfl) ?_
      have hS16 := hS13.drew
      refine ra_q 0 41 (v := .agg #[vi r_5.Rows, vi r_5.Cols, .slice B3 r_5.Cells.length c3]) rfl rfl rfl (by kernel_rfl) (by kernel_rfl) (by kernel_rfl) (ST.sel hS16 [0, 1, 2, 3, 4, 5, 6, 7] rfl rfl) (fun w' hw' => (Y_loadA (B := some ⟨b2, 0, none⟩) (i := 0) (cs := [vi r_5.Rows, vi r_5.Cols, .slice B3 r_5.Cells.length c3]) (vs := [vi r_5.Rows, vi r_5.Cols, .slice B3 r_5.Cells.length c3]) k_ag_32 k_sz_32_3 rfl rfl (ST.cf hw' (i := 5) rfl) rfl rfl)) ?_
      refine ra_q 1 42 (v := .agg #[vi aM.Rows, vi aM.Cols, .slice B aM.Cells.length c]) rfl rfl rfl (by kernel_rfl) (by kernel_rfl) (by kernel_rfl) (ST.sel hS16 [0, 1, 2, 3, 4, 5, 6, 7] rfl rfl) (fun w' hw' => (Y_loadA (B := some ⟨b, 0, none⟩) (i := 0) (cs := [vi aM.Rows, vi aM.Cols, .slice B aM.Cells.length c]) (vs := [vi aM.Rows, vi aM.Cols, .slice B aM.Cells.length c]) k_ag_24 k_sz_24_3 rfl rfl (ST.cf hw' (i := 0) rfl) rfl rfl)) ?_
      refine ra_all (rs := [2]) (by kernel_rfl) rfl ?_
      refine ra_c 43 (i := 2) rfl rfl rfl (Yc_func (g := 7) (vs := [.agg #[vi aM.Rows, vi aM.Cols, .slice B aM.Cells.length c]]) k_call_7 rfl (mc rfl mn) (c_laws_toMatrix aM B c aM.Cells.length _ rfl (hS16.inn0 [(true, 0)] rfl) hc6)) ?_ ?_
      · rintro _ w_13 ⟨B5, c5, rfl, hd6⟩
        have hS17 := hS16.out0 hd6
        have hS17 : ST w0 [] _ [⟨some ⟨b, 0, none⟩, 24, [vi aM.Rows, vi aM.Cols, .slice B aM.Cells.length c], 3⟩, ⟨B1, 49, (r_2.Cells.flatMap enc_Dyadic), c1 * 5⟩, ⟨B2, 49, (r_3.Cells.flatMap enc_Dyadic), c2 * 5⟩, ⟨some ⟨b1, 0, none⟩, 28, [.slice B2 r_3.Cells.length c2], 1⟩, ⟨B3, 49, (r_5.Cells.flatMap enc_Dyadic), c3 * 5⟩, ⟨some ⟨b2, 0, none⟩, 32, [vi r_5.Rows, vi r_5.Cols, .slice B3 r_5.Cells.length c3], 3⟩, ⟨B4, 49, (r_6.Cells.flatMap enc_Dyadic), c4 * 5⟩, ⟨some ⟨b3, 0, none⟩, 28, [.slice B4 r_6.Cells.length c4], 1⟩, ⟨B5, 49, (r_9.Cells.flatMap enc_Dyadic), c5 * 5⟩] [⟨B, (aM.Cells.flatMap enc_Dyadic)⟩, ⟨(some ⟨0, 0, none⟩), [vi 1, vi 0, vi 0, vi 0, vi 2]⟩] := hS17
        refine ⟨(ST.sel hS17 [0, 1, 2, 3, 4, 5, 6, 7] rfl rfl), ?_⟩
        refine ra_all (rs := [3]) (by kernel_rfl) rfl ?_
        refine ra_c 44 (i := 3) rfl rfl rfl (Yc_func (g := 10) (vs := [.agg #[vi r_5.Rows, vi r_5.Cols, .slice B3 r_5.Cells.length c3], .agg #[vi r_9.Rows, vi r_9.Cols, .slice B5 r_9.Cells.length c5]]) k_call_10 rfl (mc rfl (mc rfl mn)) (c_laws_eqMatrix r_5 r_9 B3 c3 r_5.Cells.length B5 c5 r_9.Cells.length _ rfl rfl (hS17.inn0 [(false, 4), (false, 8)] rfl) hc7)) ?_ ?_
        · rintro _ w_14 ⟨rfl, hd7⟩
          have hS18 := hS17.out00 hd7
          have hS18 : ST w0 [] _ [⟨some ⟨b, 0, none⟩, 24, [vi aM.Rows, vi aM.Cols, .slice B aM.Cells.length c], 3⟩, ⟨B1, 49, (r_2.Cells.flatMap enc_Dyadic), c1 * 5⟩, ⟨B2, 49, (r_3.Cells.flatMap enc_Dyadic), c2 * 5⟩, ⟨some ⟨b1, 0, none⟩, 28, [.slice B2 r_3.Cells.length c2], 1⟩, ⟨B3, 49, (r_5.Cells.flatMap enc_Dyadic), c3 * 5⟩, ⟨some ⟨b2, 0, none⟩, 32, [vi r_5.Rows, vi r_5.Cols, .slice B3 r_5.Cells.length c3], 3⟩, ⟨B4, 49, (r_6.Cells.flatMap enc_Dyadic), c4 * 5⟩, ⟨some ⟨b3, 0, none⟩, 28, [.slice B4 r_6.Cells.length c4], 1⟩, ⟨B5, 49, (r_9.Cells.flatMap enc_Dyadic), c5 * 5⟩] [⟨B, (aM.Cells.flatMap enc_Dyadic)⟩, ⟨(some ⟨0, 0, none⟩), [vi 1, vi 0, vi 0, vi 0, vi 2]⟩] := hS18
          refine ⟨(ST.sel hS18 [0, 1, 2, 3, 4, 5, 6, 7] rfl rfl), ?_⟩
          refine ra_q 4 45 (v := .bool (!r_10)) rfl rfl rfl (by kernel_rfl) (by kernel_rfl) (by kernel_rfl) (ST.sel hS18 [0, 1, 2, 3, 4, 5, 6, 7] rfl rfl) (fun w' hw' => (Y_not (p := r_10) rfl rfl)) ?_
          refine ra_done (by kernel_rfl) ?_
          refine cw_cond (b := (!r_10)) rfl (fun hb2 => ?_) (fun hb2 => ?_)
          · skip
            have hF5 := ct hF4 hb2
            refine cw_seq ?_
            refine cw_region ?_
            refine sq 2 rfl rfl (Y_assign (v := .bool false) rfl rfl) ?_
            refine rw_nil ?_
            refine cw_ret ?_
            obtain rfl := some_inj hF5
            exact ret1 Tryd.results3 (v1 := .bool false) (resAt_tmp rfl) ⟨rfl, (ST.subR (R' := []) (hS18.sel [] rfl rfl) (fun _ h => by cases h))⟩
          · skip
            have hF6 := cf' hF4 hb2
            refine cw_skip ?_
            refine cw_seq ?_
            refine cw_region ?_
            refine sq 9 rfl rfl (Y_assign (v := vi 1) rfl rfl) ?_
            refine rw_nil ?_
            refine cw_seq ?_
            refine cw_region ?_
            refine sq 46 rfl rfl (Y_loadA (B := some ⟨b2, 0, none⟩) (i := 0) (cs := [vi r_5.Rows, vi r_5.Cols, .slice B3 r_5.Cells.length c3]) (vs := [vi r_5.Rows, vi r_5.Cols, .slice B3 r_5.Cells.length c3]) k_ag_32 k_sz_32_3 rfl rfl (hS18.cf (i := 5) rfl) rfl rfl) ?_
            refine sq 47 rfl rfl (Y_move (v := vi 1) rfl rfl) ?_
            obtain ⟨⟨r_11, m⟩, hc8, hF6⟩ := bind_inv hF6
            refine sc 48 rfl rfl (Yc_func (g := 11) (vs := [.agg #[vi r_5.Rows, vi r_5.Cols, .slice B3 r_5.Cells.length c3], vi 1]) k_call_11 rfl (mc rfl (mc rfl mn)) (c_laws_markMatrix r_5 1 B3 c3 r_5.Cells.length _ rfl (hS18.inn [false, false, false, false, true, false, false, false, false] rfl [] rfl) hc8)) ?_
            rintro _ w_15 ⟨rfl, hl, hd8⟩
            have hS19 := hS18.out [false, false, false, false, true, false, false, false, false] rfl hd8
            have hS19 : ST w0 [] _ [⟨some ⟨b, 0, none⟩, 24, [vi aM.Rows, vi aM.Cols, .slice B aM.Cells.length c], 3⟩, ⟨B1, 49, (r_2.Cells.flatMap enc_Dyadic), c1 * 5⟩, ⟨B2, 49, (r_3.Cells.flatMap enc_Dyadic), c2 * 5⟩, ⟨some ⟨b1, 0, none⟩, 28, [.slice B2 r_3.Cells.length c2], 1⟩, ⟨some ⟨b2, 0, none⟩, 32, [vi r_5.Rows, vi r_5.Cols, .slice B3 r_5.Cells.length c3], 3⟩, ⟨B4, 49, (r_6.Cells.flatMap enc_Dyadic), c4 * 5⟩, ⟨some ⟨b3, 0, none⟩, 28, [.slice B4 r_6.Cells.length c4], 1⟩, ⟨B5, 49, (r_9.Cells.flatMap enc_Dyadic), c5 * 5⟩, ⟨B3, 49, (m.flatMap enc_Dyadic), c3 * 5⟩] [⟨B, (aM.Cells.flatMap enc_Dyadic)⟩, ⟨(some ⟨0, 0, none⟩), [vi 1, vi 0, vi 0, vi 0, vi 2]⟩] := hS19
            refine sq 9 rfl rfl (Y_assign (v := vi r_11) rfl rfl) ?_
            refine rw_nil ?_
            refine cw_seq ?_
            refine cw_seq ?_
            refine cw_region ?_
            refine sq 49 rfl rfl (Y_move (v := vi r_11) rfl rfl) ?_
            refine sq 50 rfl rfl (Y_lt (k := .i64) (a := r_11) (b := 0) rfl rfl rfl) ?_
            refine sq 51 rfl rfl (Y_move (v := .bool (decide (r_11 < 0))) rfl rfl) ?_
            refine sgq 52 (B := (!(decide (r_11 < 0)))) (v := .agg #[.slice B4 r_6.Cells.length c4]) rfl rfl (wt_f (gd_of (t := 51) (by kernel_rfl) rfl)) (fun hg3 => (Y_loadA (B := some ⟨b3, 0, none⟩) (i := 0) (cs := [.slice B4 r_6.Cells.length c4]) (vs := [.slice B4 r_6.Cells.length c4]) k_ag_28 k_sz_28_1 rfl rfl (hS19.cf (i := 6) rfl) rfl rfl)) ?_
            refine sgq 53 (B := (!(decide (r_11 < 0)))) (v := .agg #[.slice B2 r_3.Cells.length c2]) rfl rfl (wt_f (gd_of (t := 51) (by kernel_rfl) rfl)) (fun hg4 => (Y_loadA (B := some ⟨b1, 0, none⟩) (i := 0) (cs := [.slice B2 r_3.Cells.length c2]) (vs := [.slice B2 r_3.Cells.length c2]) k_ag_28 k_sz_28_1 rfl rfl (hS19.cf (i := 3) rfl) rfl rfl)) ?_
            obtain ⟨r_12, hc9, hF6⟩ := bind_inv hF6
            refine sgc 54 (B := (!(decide (r_11 < 0)))) (v := .bool r_12) (F := hS19.fn) rfl rfl (wt_f (gd_of (t := 51) (by kernel_rfl) rfl)) hS19 (fun hg5 => (Yc_func (g := 9) (vs := [.agg #[.slice B4 r_6.Cells.length c4], .agg #[.slice B2 r_3.Cells.length c2]]) k_call_9 rfl (mc (gv_of (B := (!(decide (r_11 < 0)))) (v := .agg #[.slice B4 r_6.Cells.length c4]) hg5) (mc (gv_of (B := (!(decide (r_11 < 0)))) (v := .agg #[.slice B2 r_3.Cells.length c2]) hg5) mn)) (CV.mono (c_laws_eqBloch r_6 r_3 B4 c4 r_6.Cells.length B2 c2 r_3.Cells.length _ rfl rfl (hS19.inn0 [(false, 5), (false, 2)] rfl) (gb_inv hc9 hg5)) (by rintro _ _ ⟨rfl, h⟩; exact ⟨rfl, hS19.out00 h⟩)))) ?_
            rintro w_16 hS20
            have hS20 : ST _ _ w_16 _ _ := hS20
            refine sgq 55 (B := (!(decide (r_11 < 0)))) (v := .bool (!r_12)) rfl rfl (wt_f (gd_of (t := 51) (by kernel_rfl) rfl)) (fun hg6 => (Y_not (p := r_12) rfl (gv_of (B := (!(decide (r_11 < 0)))) (v := .bool r_12) hg6))) ?_
            refine sq 56 rfl rfl (Y_or (b := (decide (r_11 < 0))) (z := (!r_12)) rfl rfl rfl rfl) ?_
            refine sq 57 rfl rfl (Y_move (v := .bool ((decide (r_11 < 0)) || (!r_12))) rfl rfl) ?_
            refine sgq 58 (B := (!((decide (r_11 < 0)) || (!r_12)))) (v := .bool r_7) rfl rfl (wt_f (gd_of (t := 57) (by kernel_rfl) rfl)) (fun hg7 => (Y_move (v := .bool r_7) rfl rfl)) ?_
            refine sgq 59 (B := (!((decide (r_11 < 0)) || (!r_12)))) (v := .bool r_4) rfl rfl (wt_f (gd_of (t := 57) (by kernel_rfl) rfl)) (fun hg8 => (Y_move (v := .bool r_4) rfl rfl)) ?_
            refine sgq 60 (B := (!((decide (r_11 < 0)) || (!r_12)))) (v := .bool (!(r_7 == r_4))) rfl rfl (wt_f (gd_of (t := 57) (by kernel_rfl) rfl)) (fun hg9 => (Y_bne (p := r_7) (q := r_4) k_und_4 rfl (gv_of (B := (!((decide (r_11 < 0)) || (!r_12)))) (v := .bool r_7) hg9) (gv_of (B := (!((decide (r_11 < 0)) || (!r_12)))) (v := .bool r_4) hg9))) ?_
            refine sq 61 rfl rfl (Y_or (b := ((decide (r_11 < 0)) || (!r_12))) (z := (!(r_7 == r_4))) rfl rfl rfl rfl) ?_
            refine rw_nil ?_
            refine cw_cond (b := (((decide (r_11 < 0)) || (!r_12)) || (!(r_7 == r_4)))) rfl (fun hb3 => ?_) (fun hb3 => ?_)
            · skip
              have hF7 := ct hF6 hb3
              refine cw_seq ?_
              refine cw_region ?_
              refine sq 2 rfl rfl (Y_assign (v := .bool false) rfl rfl) ?_
              refine rw_nil ?_
              refine cw_ret ?_
              obtain rfl := some_inj hF7
              exact ret1 Tryd.results3 (v1 := .bool false) (resAt_tmp rfl) ⟨rfl, (ST.subR (R' := []) (hS20.sel [] rfl rfl) (fun _ h => by cases h))⟩
            · skip
              have hF8 := cf' hF6 hb3
              refine cw_skip ?_
              refine cw_seq ?_
              refine cw_region ?_
              refine sq 10 rfl rfl (Y_assign (v := vi 1) rfl rfl) ?_
              refine rw_nil ?_
              refine cw_seq ?_
              refine cw_region ?_
              refine sq 62 rfl rfl (Y_loadA (B := some ⟨b3, 0, none⟩) (i := 0) (cs := [.slice B4 r_6.Cells.length c4]) (vs := [.slice B4 r_6.Cells.length c4]) k_ag_28 k_sz_28_1 rfl rfl (hS20.cf (i := 6) rfl) rfl rfl) ?_
              refine sq 63 rfl rfl (Y_move (v := vi 1) rfl rfl) ?_
              obtain ⟨⟨r_13, m1⟩, hc10, hF8⟩ := bind_inv hF8
              refine sc 64 rfl rfl (Yc_func (g := 12) (vs := [.agg #[.slice B4 r_6.Cells.length c4], vi 1]) k_call_12 rfl (mc rfl (mc rfl mn)) (c_laws_markBloch r_6 1 B4 c4 r_6.Cells.length _ rfl (hS20.inn [false, false, false, false, false, true, false, false, false] rfl [] rfl) hc10)) ?_
              rintro _ w_17 ⟨rfl, hl1, hd9⟩
              have hS21 := hS20.out [false, false, false, false, false, true, false, false, false] rfl hd9
              have hS21 : ST w0 [] _ [⟨some ⟨b, 0, none⟩, 24, [vi aM.Rows, vi aM.Cols, .slice B aM.Cells.length c], 3⟩, ⟨B1, 49, (r_2.Cells.flatMap enc_Dyadic), c1 * 5⟩, ⟨B2, 49, (r_3.Cells.flatMap enc_Dyadic), c2 * 5⟩, ⟨some ⟨b1, 0, none⟩, 28, [.slice B2 r_3.Cells.length c2], 1⟩, ⟨some ⟨b2, 0, none⟩, 32, [vi r_5.Rows, vi r_5.Cols, .slice B3 r_5.Cells.length c3], 3⟩, ⟨some ⟨b3, 0, none⟩, 28, [.slice B4 r_6.Cells.length c4], 1⟩, ⟨B5, 49, (r_9.Cells.flatMap enc_Dyadic), c5 * 5⟩, ⟨B3, 49, (m.flatMap enc_Dyadic), c3 * 5⟩, ⟨B4, 49, (m1.flatMap enc_Dyadic), c4 * 5⟩] [⟨B, (aM.Cells.flatMap enc_Dyadic)⟩, ⟨(some ⟨0, 0, none⟩), [vi 1, vi 0, vi 0, vi 0, vi 2]⟩] := hS21
              refine sq 10 rfl rfl (Y_assign (v := vi r_13) rfl rfl) ?_
              refine rw_nil ?_
              refine cw_seq ?_
              refine cw_region ?_
              refine sq 11 rfl rfl (Y_assign (v := vi 1) rfl rfl) ?_
              refine rw_nil ?_
              refine cw_seq ?_
              refine cw_region ?_
              refine sq 65 rfl rfl (Y_loadA (B := some ⟨b3, 0, none⟩) (i := 0) (cs := [.slice B4 r_6.Cells.length c4]) (vs := [.slice B4 r_6.Cells.length c4]) k_ag_28 k_sz_28_1 rfl rfl (hS21.cf (i := 5) rfl) rfl rfl) ?_
              refine sq 66 rfl rfl (Y_move (v := vi 1) rfl rfl) ?_
              obtain ⟨r_14, hc11, hF8⟩ := bind_inv hF8
              refine sc 67 rfl rfl (Yc_func (g := 13) (vs := [.agg #[.slice B4 r_6.Cells.length c4], vi 1]) k_call_13 rfl (mc rfl (mc rfl mn)) (c_laws_heldBloch (TBloch.mk m1) 1 B4 c4 r_6.Cells.length _ hl1 (hS21.inn0 [(false, 8)] rfl) hc11)) ?_
              rintro _ w_18 ⟨rfl, hd10⟩
              have hS22 := hS21.out00 hd10
              have hS22 : ST w0 [] _ [⟨some ⟨b, 0, none⟩, 24, [vi aM.Rows, vi aM.Cols, .slice B aM.Cells.length c], 3⟩, ⟨B1, 49, (r_2.Cells.flatMap enc_Dyadic), c1 * 5⟩, ⟨B2, 49, (r_3.Cells.flatMap enc_Dyadic), c2 * 5⟩, ⟨some ⟨b1, 0, none⟩, 28, [.slice B2 r_3.Cells.length c2], 1⟩, ⟨some ⟨b2, 0, none⟩, 32, [vi r_5.Rows, vi r_5.Cols, .slice B3 r_5.Cells.length c3], 3⟩, ⟨some ⟨b3, 0, none⟩, 28, [.slice B4 r_6.Cells.length c4], 1⟩, ⟨B5, 49, (r_9.Cells.flatMap enc_Dyadic), c5 * 5⟩, ⟨B3, 49, (m.flatMap enc_Dyadic), c3 * 5⟩, ⟨B4, 49, (m1.flatMap enc_Dyadic), c4 * 5⟩] [⟨B, (aM.Cells.flatMap enc_Dyadic)⟩, ⟨(some ⟨0, 0, none⟩), [vi 1, vi 0, vi 0, vi 0, vi 2]⟩] := hS22
              refine sq 11 rfl rfl (Y_assign (v := vi r_14) rfl rfl) ?_
              refine rw_nil ?_
              refine cw_seq ?_
              refine cw_seq ?_
              refine cw_region ?_
              refine sq 68 rfl rfl (Y_move (v := vi r_14) rfl rfl) ?_
              refine sq 69 rfl rfl (Y_lt (k := .i64) (a := r_14) (b := 0) rfl rfl rfl) ?_
              refine rw_nil ?_
              refine cw_cond (b := (decide (r_14 < 0))) rfl (fun hb4 => ?_) (fun hb4 => ?_)
              · skip
                have hF9 := ct hF8 hb4
                refine cw_seq ?_
                refine cw_region ?_
                refine sq 2 rfl rfl (Y_assign (v := .bool false) rfl rfl) ?_
                refine rw_nil ?_
                refine cw_ret ?_
                obtain rfl := some_inj hF9
                exact ret1 Tryd.results3 (v1 := .bool false) (resAt_tmp rfl) ⟨rfl, (ST.subR (R' := []) (hS22.sel [] rfl rfl) (fun _ h => by cases h))⟩
              · skip
                have hF10 := cf' hF8 hb4
                refine cw_skip ?_
                refine cw_seq ?_
                refine cw_seq ?_
                refine cw_region ?_
                refine sq 70 rfl rfl (Y_move (v := vi r_14) rfl rfl) ?_
                refine sq 71 rfl rfl (Y_move (v := vi r_13) rfl rfl) ?_
                refine sq 72 rfl rfl (Y_ne (k := .i64) (a := r_14) (b := r_13) rfl rfl rfl) ?_
                refine rw_nil ?_
                refine cw_cond (b := (r_14 != r_13)) rfl (fun hb5 => ?_) (fun hb5 => ?_)
                · skip
                  have hF11 := ct hF10 hb5
                  refine cw_seq ?_
                  refine cw_region ?_
                  refine sq 2 rfl rfl (Y_assign (v := .bool false) rfl rfl) ?_
                  refine rw_nil ?_
                  refine cw_ret ?_
                  obtain rfl := some_inj hF11
                  exact ret1 Tryd.results3 (v1 := .bool false) (resAt_tmp rfl) ⟨rfl, (ST.subR (R' := []) (hS22.sel [] rfl rfl) (fun _ h => by cases h))⟩
                · skip
                  have hF12 := cf' hF10 hb5
                  refine cw_skip ?_
                  refine cw_seq ?_
                  refine cw_region ?_
                  refine sq 74 rfl rfl (Y_loadA (B := some ⟨b, 0, none⟩) (i := 0) (cs := [vi aM.Rows, vi aM.Cols, .slice B aM.Cells.length c]) (vs := [vi aM.Rows, vi aM.Cols, .slice B aM.Cells.length c]) k_ag_24 k_sz_24_3 rfl rfl (hS22.cf (i := 0) rfl) rfl rfl) ?_
                  obtain ⟨r_15, hc12, hF12⟩ := bind_inv hF12
                  refine sc 75 rfl rfl (Yc_func (g := 7) (vs := [.agg #[vi aM.Rows, vi aM.Cols, .slice B aM.Cells.length c]]) k_call_7 rfl (mc rfl mn) (c_laws_toMatrix aM B c aM.Cells.length _ rfl (hS22.inn0 [(true, 0)] rfl) hc12)) ?_
                  rintro _ w_19 ⟨B6, c6, rfl, hd11⟩
                  have hS23 := hS22.out0 hd11
                  have hS23 : ST w0 [] _ [⟨some ⟨b, 0, none⟩, 24, [vi aM.Rows, vi aM.Cols, .slice B aM.Cells.length c], 3⟩, ⟨B1, 49, (r_2.Cells.flatMap enc_Dyadic), c1 * 5⟩, ⟨B2, 49, (r_3.Cells.flatMap enc_Dyadic), c2 * 5⟩, ⟨some ⟨b1, 0, none⟩, 28, [.slice B2 r_3.Cells.length c2], 1⟩, ⟨some ⟨b2, 0, none⟩, 32, [vi r_5.Rows, vi r_5.Cols, .slice B3 r_5.Cells.length c3], 3⟩, ⟨some ⟨b3, 0, none⟩, 28, [.slice B4 r_6.Cells.length c4], 1⟩, ⟨B5, 49, (r_9.Cells.flatMap enc_Dyadic), c5 * 5⟩, ⟨B3, 49, (m.flatMap enc_Dyadic), c3 * 5⟩, ⟨B4, 49, (m1.flatMap enc_Dyadic), c4 * 5⟩, ⟨B6, 49, (r_15.Cells.flatMap enc_Dyadic), c6 * 5⟩] [⟨B, (aM.Cells.flatMap enc_Dyadic)⟩, ⟨(some ⟨0, 0, none⟩), [vi 1, vi 0, vi 0, vi 0, vi 2]⟩] := hS23
                  obtain ⟨⟨r_16, r_17⟩, hc13, hF12⟩ := bind_inv hF12
                  refine sc 76 rfl rfl (Yc_func (g := 8) (vs := [.agg #[vi r_15.Rows, vi r_15.Cols, .slice B6 r_15.Cells.length c6]]) k_call_8 rfl (mc rfl mn) (c_impl_BlochOf r_15 B6 c6 r_15.Cells.length _ rfl (hS23.inn0 [(false, 9), (true, 1)] rfl) hc13)) ?_
                  rintro _ w_20 ⟨B7, c7, rfl, hd12⟩
                  have hS24 := hS23.out0 hd12
                  have hS24 : ST w0 [] _ [⟨some ⟨b, 0, none⟩, 24, [vi aM.Rows, vi aM.Cols, .slice B aM.Cells.length c], 3⟩, ⟨B1, 49, (r_2.Cells.flatMap enc_Dyadic), c1 * 5⟩, ⟨B2, 49, (r_3.Cells.flatMap enc_Dyadic), c2 * 5⟩, ⟨some ⟨b1, 0, none⟩, 28, [.slice B2 r_3.Cells.length c2], 1⟩, ⟨some ⟨b2, 0, none⟩, 32, [vi r_5.Rows, vi r_5.Cols, .slice B3 r_5.Cells.length c3], 3⟩, ⟨some ⟨b3, 0, none⟩, 28, [.slice B4 r_6.Cells.length c4], 1⟩, ⟨B5, 49, (r_9.Cells.flatMap enc_Dyadic), c5 * 5⟩, ⟨B3, 49, (m.flatMap enc_Dyadic), c3 * 5⟩, ⟨B4, 49, (m1.flatMap enc_Dyadic), c4 * 5⟩, ⟨B6, 49, (r_15.Cells.flatMap enc_Dyadic), c6 * 5⟩, ⟨B7, 49, (r_16.Cells.flatMap enc_Dyadic), c7 * 5⟩] [⟨B, (aM.Cells.flatMap enc_Dyadic)⟩, ⟨(some ⟨0, 0, none⟩), [vi 1, vi 0, vi 0, vi 0, vi 2]⟩] := hS24
                  refine sq 73 rfl rfl (Y_move (v := .tuple #[.agg #[.slice B7 r_16.Cells.length c7], .bool r_17]) rfl rfl) ?_
                  refine sq 77 rfl rfl (Y_extract (v := .agg #[.slice B7 r_16.Cells.length c7]) rfl rfl rfl) ?_
                  refine sq 78 rfl rfl (Y_extract (v := .bool r_17) rfl rfl rfl) ?_
                  refine ss 12 rfl rfl (Ys_alloc (T := 28) (cs := [.slice none 0 0]) (m := 1) hS24 k_zero_28 rfl rfl rfl) ?_
                  rintro _ w_21 ⟨b4, rfl, hS25⟩
                  have hS25 : ST w0 [] _ [⟨some ⟨b, 0, none⟩, 24, [vi aM.Rows, vi aM.Cols, .slice B aM.Cells.length c], 3⟩, ⟨B1, 49, (r_2.Cells.flatMap enc_Dyadic), c1 * 5⟩, ⟨B2, 49, (r_3.Cells.flatMap enc_Dyadic), c2 * 5⟩, ⟨some ⟨b1, 0, none⟩, 28, [.slice B2 r_3.Cells.length c2], 1⟩, ⟨some ⟨b2, 0, none⟩, 32, [vi r_5.Rows, vi r_5.Cols, .slice B3 r_5.Cells.length c3], 3⟩, ⟨some ⟨b3, 0, none⟩, 28, [.slice B4 r_6.Cells.length c4], 1⟩, ⟨B5, 49, (r_9.Cells.flatMap enc_Dyadic), c5 * 5⟩, ⟨B3, 49, (m.flatMap enc_Dyadic), c3 * 5⟩, ⟨B4, 49, (m1.flatMap enc_Dyadic), c4 * 5⟩, ⟨B6, 49, (r_15.Cells.flatMap enc_Dyadic), c6 * 5⟩, ⟨B7, 49, (r_16.Cells.flatMap enc_Dyadic), c7 * 5⟩, ⟨some ⟨b4, 0, none⟩, 28, [.slice none 0 0], 1⟩] [⟨B, (aM.Cells.flatMap enc_Dyadic)⟩, ⟨(some ⟨0, 0, none⟩), [vi 1, vi 0, vi 0, vi 0, vi 2]⟩] := hS25
                  refine ss0 rfl rfl (Ys_store (i := 11) (s := 1) (B := some ⟨b4, 0, none⟩) (T' := 28) (v := .agg #[.slice B7 r_16.Cells.length c7]) (vs := [.slice B7 r_16.Cells.length c7]) (k := 0) (cs' := [.slice B7 r_16.Cells.length c7]) hS25 k_sz_28_1 rfl rfl rfl rfl rfl rfl rfl (Nat.le_of_ble_eq_true rfl) rfl rfl) ?_
                  rintro _ w_22 ⟨rfl, hS26⟩
                  have hS26 : ST w0 [] _ [⟨some ⟨b, 0, none⟩, 24, [vi aM.Rows, vi aM.Cols, .slice B aM.Cells.length c], 3⟩, ⟨B1, 49, (r_2.Cells.flatMap enc_Dyadic), c1 * 5⟩, ⟨B2, 49, (r_3.Cells.flatMap enc_Dyadic), c2 * 5⟩, ⟨some ⟨b1, 0, none⟩, 28, [.slice B2 r_3.Cells.length c2], 1⟩, ⟨some ⟨b2, 0, none⟩, 32, [vi r_5.Rows, vi r_5.Cols, .slice B3 r_5.Cells.length c3], 3⟩, ⟨some ⟨b3, 0, none⟩, 28, [.slice B4 r_6.Cells.length c4], 1⟩, ⟨B5, 49, (r_9.Cells.flatMap enc_Dyadic), c5 * 5⟩, ⟨B3, 49, (m.flatMap enc_Dyadic), c3 * 5⟩, ⟨B4, 49, (m1.flatMap enc_Dyadic), c4 * 5⟩, ⟨B6, 49, (r_15.Cells.flatMap enc_Dyadic), c6 * 5⟩, ⟨B7, 49, (r_16.Cells.flatMap enc_Dyadic), c7 * 5⟩, ⟨some ⟨b4, 0, none⟩, 28, [.slice B7 r_16.Cells.length c7], 1⟩] [⟨B, (aM.Cells.flatMap enc_Dyadic)⟩, ⟨(some ⟨0, 0, none⟩), [vi 1, vi 0, vi 0, vi 0, vi 2]⟩] := hS26
                  refine sq 13 rfl rfl (Y_assign (v := .bool r_17) rfl rfl) ?_
                  refine rw_nil ?_
                  refine cw_seq ?_
                  refine cw_seq ?_
                  refine cw_region ?_
                  refine sq 79 rfl rfl (Y_loadA (B := some ⟨b4, 0, none⟩) (i := 0) (cs := [.slice B7 r_16.Cells.length c7]) (vs := [.slice B7 r_16.Cells.length c7]) k_ag_28 k_sz_28_1 rfl rfl (hS26.cf (i := 11) rfl) rfl rfl) ?_
                  refine sq 80 rfl rfl (Y_loadA (B := some ⟨b1, 0, none⟩) (i := 0) (cs := [.slice B2 r_3.Cells.length c2]) (vs := [.slice B2 r_3.Cells.length c2]) k_ag_28 k_sz_28_1 rfl rfl (hS26.cf (i := 3) rfl) rfl rfl) ?_
                  obtain ⟨r_18, hc14, hF12⟩ := bind_inv hF12
                  refine sc 81 rfl rfl (Yc_func (g := 9) (vs := [.agg #[.slice B7 r_16.Cells.length c7], .agg #[.slice B2 r_3.Cells.length c2]]) k_call_9 rfl (mc rfl (mc rfl mn)) (c_laws_eqBloch r_16 r_3 B7 c7 r_16.Cells.length B2 c2 r_3.Cells.length _ rfl rfl (hS26.inn0 [(false, 10), (false, 2)] rfl) hc14)) ?_
                  rintro _ w_23 ⟨rfl, hd13⟩
                  have hS27 := hS26.out00 hd13
                  have hS27 : ST w0 [] _ [⟨some ⟨b, 0, none⟩, 24, [vi aM.Rows, vi aM.Cols, .slice B aM.Cells.length c], 3⟩, ⟨B1, 49, (r_2.Cells.flatMap enc_Dyadic), c1 * 5⟩, ⟨B2, 49, (r_3.Cells.flatMap enc_Dyadic), c2 * 5⟩, ⟨some ⟨b1, 0, none⟩, 28, [.slice B2 r_3.Cells.length c2], 1⟩, ⟨some ⟨b2, 0, none⟩, 32, [vi r_5.Rows, vi r_5.Cols, .slice B3 r_5.Cells.length c3], 3⟩, ⟨some ⟨b3, 0, none⟩, 28, [.slice B4 r_6.Cells.length c4], 1⟩, ⟨B5, 49, (r_9.Cells.flatMap enc_Dyadic), c5 * 5⟩, ⟨B3, 49, (m.flatMap enc_Dyadic), c3 * 5⟩, ⟨B4, 49, (m1.flatMap enc_Dyadic), c4 * 5⟩, ⟨B6, 49, (r_15.Cells.flatMap enc_Dyadic), c6 * 5⟩, ⟨B7, 49, (r_16.Cells.flatMap enc_Dyadic), c7 * 5⟩, ⟨some ⟨b4, 0, none⟩, 28, [.slice B7 r_16.Cells.length c7], 1⟩] [⟨B, (aM.Cells.flatMap enc_Dyadic)⟩, ⟨(some ⟨0, 0, none⟩), [vi 1, vi 0, vi 0, vi 0, vi 2]⟩] := hS27
                  refine sq 82 rfl rfl (Y_not (p := r_18) rfl rfl) ?_
                  refine sq 83 rfl rfl (Y_move (v := .bool (!r_18)) rfl rfl) ?_
                  refine sgq 84 (B := (!(!r_18))) (v := .bool r_17) rfl rfl (wt_f (gd_of (t := 83) (by kernel_rfl) rfl)) (fun hg10 => (Y_move (v := .bool r_17) rfl rfl)) ?_
                  refine sgq 85 (B := (!(!r_18))) (v := .bool r_4) rfl rfl (wt_f (gd_of (t := 83) (by kernel_rfl) rfl)) (fun hg11 => (Y_move (v := .bool r_4) rfl rfl)) ?_
                  refine sgq 86 (B := (!(!r_18))) (v := .bool (!(r_17 == r_4))) rfl rfl (wt_f (gd_of (t := 83) (by kernel_rfl) rfl)) (fun hg12 => (Y_bne (p := r_17) (q := r_4) k_und_4 rfl (gv_of (B := (!(!r_18))) (v := .bool r_17) hg12) (gv_of (B := (!(!r_18))) (v := .bool r_4) hg12))) ?_
                  refine sq 87 rfl rfl (Y_or (b := (!r_18)) (z := (!(r_17 == r_4))) rfl rfl rfl rfl) ?_
                  refine rw_nil ?_
                  refine cw_cond (b := ((!r_18) || (!(r_17 == r_4)))) rfl (fun hb6 => ?_) (fun hb6 => ?_)
                  · skip
                    have hF13 := ct hF12 hb6
                    refine cw_seq ?_
                    refine cw_region ?_
                    refine sq 2 rfl rfl (Y_assign (v := .bool false) rfl rfl) ?_
                    refine rw_nil ?_
                    refine cw_ret ?_
                    obtain rfl := some_inj hF13
                    exact ret1 Tryd.results3 (v1 := .bool false) (resAt_tmp rfl) ⟨rfl, (ST.subR (R' := []) (hS27.sel [] rfl rfl) (fun _ h => by cases h))⟩
                  · skip
                    have hF14 := cf' hF12 hb6
                    refine cw_skip ?_
                    refine cw_seq ?_
                    refine cw_region ?_
                    refine sq 11 rfl rfl (Y_assign (v := vi 1) rfl rfl) ?_
                    refine rw_nil ?_
                    refine cw_seq ?_
                    refine cw_region ?_
                    refine sq 88 rfl rfl (Y_loadA (B := some ⟨b3, 0, none⟩) (i := 0) (cs := [.slice B4 r_6.Cells.length c4]) (vs := [.slice B4 r_6.Cells.length c4]) k_ag_28 k_sz_28_1 rfl rfl (hS27.cf (i := 5) rfl) rfl rfl) ?_
                    refine sq 89 rfl rfl (Y_move (v := vi 1) rfl rfl) ?_
                    obtain ⟨r_19, hc15, hF14⟩ := bind_inv hF14
                    refine sc 90 rfl rfl (Yc_func (g := 13) (vs := [.agg #[.slice B4 r_6.Cells.length c4], vi 1]) k_call_13 rfl (mc rfl (mc rfl mn)) (c_laws_heldBloch (TBloch.mk m1) 1 B4 c4 r_6.Cells.length _ hl1 (hS27.inn0 [(false, 8)] rfl) hc15)) ?_
                    rintro _ w_24 ⟨rfl, hd14⟩
                    have hS28 := hS27.out00 hd14
                    have hS28 : ST w0 [] _ [⟨some ⟨b, 0, none⟩, 24, [vi aM.Rows, vi aM.Cols, .slice B aM.Cells.length c], 3⟩, ⟨B1, 49, (r_2.Cells.flatMap enc_Dyadic), c1 * 5⟩, ⟨B2, 49, (r_3.Cells.flatMap enc_Dyadic), c2 * 5⟩, ⟨some ⟨b1, 0, none⟩, 28, [.slice B2 r_3.Cells.length c2], 1⟩, ⟨some ⟨b2, 0, none⟩, 32, [vi r_5.Rows, vi r_5.Cols, .slice B3 r_5.Cells.length c3], 3⟩, ⟨some ⟨b3, 0, none⟩, 28, [.slice B4 r_6.Cells.length c4], 1⟩, ⟨B5, 49, (r_9.Cells.flatMap enc_Dyadic), c5 * 5⟩, ⟨B3, 49, (m.flatMap enc_Dyadic), c3 * 5⟩, ⟨B4, 49, (m1.flatMap enc_Dyadic), c4 * 5⟩, ⟨B6, 49, (r_15.Cells.flatMap enc_Dyadic), c6 * 5⟩, ⟨B7, 49, (r_16.Cells.flatMap enc_Dyadic), c7 * 5⟩, ⟨some ⟨b4, 0, none⟩, 28, [.slice B7 r_16.Cells.length c7], 1⟩] [⟨B, (aM.Cells.flatMap enc_Dyadic)⟩, ⟨(some ⟨0, 0, none⟩), [vi 1, vi 0, vi 0, vi 0, vi 2]⟩] := hS28
                    refine sq 11 rfl rfl (Y_assign (v := vi r_19) rfl rfl) ?_
                    refine rw_nil ?_
                    refine cw_seq ?_
                    refine cw_seq ?_
                    refine cw_region ?_
                    refine sq 91 rfl rfl (Y_move (v := vi r_19) rfl rfl) ?_
                    refine sq 92 rfl rfl (Y_lt (k := .i64) (a := r_19) (b := 0) rfl rfl rfl) ?_
                    refine rw_nil ?_
                    refine cw_cond (b := (decide (r_19 < 0))) rfl (fun hb7 => ?_) (fun hb7 => ?_)
                    · skip
                      have hF15 := ct hF14 hb7
                      refine cw_seq ?_
                      refine cw_region ?_
                      refine sq 2 rfl rfl (Y_assign (v := .bool false) rfl rfl) ?_
                      refine rw_nil ?_
                      refine cw_ret ?_
                      obtain rfl := some_inj hF15
                      exact ret1 Tryd.results3 (v1 := .bool false) (resAt_tmp rfl) ⟨rfl, (ST.subR (R' := []) (hS28.sel [] rfl rfl) (fun _ h => by cases h))⟩
                    · skip
                      have hF16 := cf' hF14 hb7
                      refine cw_skip ?_
                      refine cw_seq ?_
                      refine cw_seq ?_
                      refine cw_region ?_
                      refine sq 93 rfl rfl (Y_move (v := vi r_19) rfl rfl) ?_
                      refine sq 94 rfl rfl (Y_move (v := vi r_13) rfl rfl) ?_
                      refine sq 95 rfl rfl (Y_ne (k := .i64) (a := r_19) (b := r_13) rfl rfl rfl) ?_
                      refine rw_nil ?_
                      refine cw_cond (b := (r_19 != r_13)) rfl (fun hb8 => ?_) (fun hb8 => ?_)
                      · skip
                        have hF17 := ct hF16 hb8
                        refine cw_seq ?_
                        refine cw_region ?_
                        refine sq 2 rfl rfl (Y_assign (v := .bool false) rfl rfl) ?_
                        refine rw_nil ?_
                        refine cw_ret ?_
                        obtain rfl := some_inj hF17
                        exact ret1 Tryd.results3 (v1 := .bool false) (resAt_tmp rfl) ⟨rfl, (ST.subR (R' := []) (hS28.sel [] rfl rfl) (fun _ h => by cases h))⟩
                      · skip
                        have hF18 := cf' hF16 hb8
                        refine cw_skip ?_
                        refine cw_seq ?_
                        refine cw_region ?_
                        refine sq 2 rfl rfl (Y_assign (v := .bool true) rfl rfl) ?_
                        refine rw_nil ?_
                        refine cw_ret ?_
                        obtain rfl := some_inj hF18
                        exact ret1 Tryd.results3 (v1 := .bool true) (resAt_tmp rfl) ⟨rfl, (ST.subR (R' := []) (hS28.sel [] rfl rfl) (fun _ h => by cases h))⟩
        exact allR_nil
      exact allR_nil
end Go.VK
