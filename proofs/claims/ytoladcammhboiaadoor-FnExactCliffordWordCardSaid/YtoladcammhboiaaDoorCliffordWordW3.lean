/- Walks: each Go function returns what its Lean function says. By program. -/
import Derived.Test.YtoladcammhboiaaDoorCliffordWordFa
import Derived.Test.YtoladcammhboiaaDoorCliffordWordW2
set_option linter.unusedVariables false
set_option maxRecDepth 100000
set_option maxHeartbeats 1000000
namespace Go.VK
open Go.RowKit
open Go.Proofs
open Go.IntKind
attribute [local irreducible] CW RW RA CV Y Yw Yc Ys RetOf
attribute [local irreducible] F_spec_l1In F_spec_l1All F_spec_l1Good F_spec_l2C_ring F_spec_l1Root F_spec_l1Even F_spec_l1Half F_spec_l2Low F_spec_l1Add F_spec_l2C_add F_spec_l1Mul F_spec_l2C_mul F_spec_l2C_times F_spec_l1Turn F_spec_l2Power F_spec_l1Neg F_spec_l2Neg F_spec_l6One F_spec_l9Pauli F_spec_l1Conj F_spec_l2Conj F_spec_l3Adj F_spec_l9Bloch F_spec_l6Bit F_spec_l6Cell F_spec_l6Gate F_spec_l2C_run F_spec_l3Unit F_spec_l6Op F_spec_l9Word F_spec_l9Same F_spec_l9Words F_spec_CliffordWord F_impl_whole F_impl_small F_impl_within F_impl_isTwo F_impl_IsValidGate F_impl_isDim F_impl_matrixOf F_impl_isCoef F_impl_IsValidRing F_impl_MulOmega F_impl_phase F_impl_bitOf F_impl_flipped F_impl_comesFrom F_impl_entry F_impl_GateMatrix_1 F_impl_GateMatrix F_slices_IndexFunc_impl_Dyadic_impl_Dyadic F_slices_ContainsFunc_impl_Dyadic_impl_Dyadic F_impl_isEven F_impl_IsValidDyadic F_impl_IsValidMatrix_1 F_impl_IsValidMatrix F_impl_ringIf F_impl_Conjugate F_impl_ConjDyadic F_impl_Matrix_at F_impl_Adjoint_1 F_impl_Adjoint F_impl_MulRing F_impl_DivRootTwo F_impl_DyadicOf F_impl_MulDyadic F_impl_MulRootTwo F_impl_raised F_impl_combined F_impl_AddRing F_impl_AddDyadic F_impl_MulMatrix_1 F_impl_MulMatrix F_impl_IdentityMatrix_1 F_impl_IdentityMatrix F_slices_Equal_impl_Dyadic_impl_Dyadic F_impl_EqualMatrices F_impl_IsUnitary F_impl_IsOneQubit F_impl_TraceOf F_impl_blochCell F_impl_BlochOf F_impl_blochGate F_impl_mulBloch F_slices_IndexFunc_SSimpl_Dyadic_impl_Dyadic F_slices_ContainsFunc_SSimpl_Dyadic_impl_Dyadic F_impl_cliffordList_1 F_impl_cliffordList F_impl_CliffordWord F_laws_FnExactCliffordWord
theorem c_spec_l9Words   (w0 : World)  (hS : ST w0 [] w0 [] []) {r_ : List (List UInt8)} (hF : F_spec_l9Words = some r_) :
  CV Tryd.prog 7 #[] w0 (fun v w' => ∃ (B : Option Addr) (c : Nat), v = .slice B r_.length c ∧ ST w0 [] w' [⟨B, 9, (r_.flatMap encS), c * 1⟩] []) := by
 unfold F_spec_l9Words at hF
 refine cv_of_cw 61 Tryd.func7 rfl Tryd.ntmps7 rfl ?_
 refine cw_seq ?_
 refine cw_region ?_
 refine sq 0 rfl rfl (Y_assign (v := .slice none 0 0) rfl rfl) ?_
 refine rw_nil ?_
 refine cw_seq ?_
 refine cw_region ?_
 refine sq 1 rfl rfl (Y_assign (v := .slice none 0 0) rfl rfl) ?_
 refine rw_nil ?_
 refine cw_seq ?_
 refine cw_region ?_
 refine sq 2 rfl rfl (Y_assign (v := .slice none 0 0) rfl rfl) ?_
 refine rw_nil ?_
 refine cw_seq ?_
 refine cw_region ?_
 refine ss 12 rfl rfl (Ys_bslice (s := 1) (len := 1) (vs := [(0, .string (bstr ([] : List UInt8)))]) (cs := [.string (bstr ([] : List UInt8))]) (zs := [.string (bstr ([] : List UInt8))]) (m := 1) hS k_sl_26_9 k_sz_9_1 k_zc_9 rfl (mpc rfl mpn) rfl rfl rfl (by kernel_rfl) (by kernel_rfl) rfl) ?_
 rintro _ w_ ⟨b, rfl, hS1⟩
 refine sq 3 rfl rfl (Y_assign (v := .slice (aD b) 1 1) rfl rfl) ?_
 refine rw_nil ?_
 refine cw_seq ?_
 obtain ⟨z, hz, hF1⟩ := bind_inv hF
 have hS3 := hS1.addNil 9
 have hS4 := hS3.addNil 34
 have hS5 : ST w0 [] _ [⟨aD b, 9, ([([] : List UInt8)].flatMap encS), 1 * 1⟩, ⟨none, 9, ([].flatMap encS), 0 * 1⟩, ⟨none, 34, (([] : List (Hd × TBloch)).flatMap encD_Bloch), 0 * 1⟩] (((([] : List (Hd × TBloch)).flatMap rowD_Bloch) ++ [])) := ST.subR hS4 (suba fsub_nil (fun _ h => by cases h))
 refine cw_block ?_
 refine cw_loop (fun k f w => ∃ (words : List (List UInt8)) (seen : List TBloch) (level : List (List UInt8)) (B1 : Option Addr) (c1 : Nat) (B2 : Option Addr) (c2 : Nat) (D : List (Hd × TBloch)) (B3 : Option Addr) (c3 : Nat), FF f [(1, .slice B1 words.length c1), (2, .slice B2 seen.length c2), (3, .slice B3 level.length c3)] ∧ D.map Prod.snd = seen ∧ Org w0 [] [] (D.flatMap rowD_Bloch) ∧ ST w0 [] w [⟨B1, 9, (words.flatMap encS), c1 * 1⟩, ⟨B2, 34, (D.flatMap encD_Bloch), c2 * 1⟩, ⟨B3, 9, (level.flatMap encS), c3 * 1⟩] (((D.flatMap rowD_Bloch) ++ [])) ∧ whX F_spec_l9Words_l1 k (words, seen, level) = some z) fuel ⟨[], ([] : List TBloch), [([] : List UInt8)], none, 0, none, 0, ([] : List (Hd × TBloch)), aD b, 1, (FF.cons rfl (FF.cons rfl (FF.cons rfl FF.nil))), rfl, forg_nil, (hS5.sel [1, 2, 0] rfl rfl), hz⟩ ?_
 rintro k_ f w ⟨words, seen, level, B1, c1, B2, c2, D, B3, c3, hf, hD, ho, hS2, hL⟩
 obtain ⟨k_1, y, rfl, hb, hL1⟩ := whX_go hL
 unfold F_spec_l9Words_l1 at hb
 refine cw_seq ?_
 refine cw_seq ?_
 refine cw_region ?_
 refine sq 13 rfl rfl (Y_move (v := .slice B1 words.length c1) rfl (hf.get 1 0 rfl)) ?_
 refine sq 14 rfl rfl (Y_len (B := B1) (m := words.length) (c := c1) k_sl_26_9 rfl rfl) ?_
 refine sq 15 rfl rfl (Y_lt (k := .i64) (a := (words.length : Int)) (b := 24) rfl rfl rfl) ?_
 refine rw_nil ?_
 refine cw_cond (b := (decide ((words.length : Int) < 24))) rfl (fun hb1 => ?_) (fun hb1 => ?_)
 ·skip
  have hF2 := ct hb hb1
  refine cw_skip ?_
  refine cw_block ?_
  refine cw_seq ?_
  refine cw_region ?_
  refine sq 4 rfl rfl (Y_assign (v := .slice none 0 0) rfl rfl) ?_
  refine rw_nil ?_
  refine cw_seq ?_
  refine cw_seq ?_
  refine cw_region ?_
  refine sq 16 rfl rfl (Y_move (v := .slice B3 level.length c3) rfl (hf.get 3 2 rfl)) ?_
  refine sq 17 rfl rfl (Y_len (B := B3) (m := level.length) (c := c3) k_sl_26_9 rfl rfl) ?_
  refine sq 18 rfl rfl (Y_move (v := vi 0) rfl rfl) ?_
  refine rw_nil ?_
  obtain ⟨hN, hF2⟩ := chk_inv hF2
  obtain ⟨z1, hz1, hF3⟩ := bind_inv hF2
  have hS7 := hS2.addNil 9
  refine cw_block ?_
  refine cw_loop (fun k f w => ∃ (i : Nat) (words1 : List (List UInt8)) (seen1 : List TBloch) (next_ : List (List UInt8)) (B4 : Option Addr) (c4 : Nat) (B5 : Option Addr) (c5 : Nat) (D1 : List (Hd × TBloch)) (B6 : Option Addr) (c6 : Nat), FF f [(1, .slice B4 words1.length c4), (2, .slice B5 seen1.length c5), (4, .slice B6 next_.length c6), (16, .slice B3 level.length c3), (17, vi (level.length : Int)), (18, vi (i : Int))] ∧ D1.map Prod.snd = seen1 ∧ Org w0 [] [] (D1.flatMap rowD_Bloch) ∧ ST w0 [] w [⟨B4, 9, (words1.flatMap encS), c4 * 1⟩, ⟨B5, 34, (D1.flatMap encD_Bloch), c5 * 1⟩, ⟨B6, 9, (next_.flatMap encS), c6 * 1⟩, ⟨B3, 9, (level.flatMap encS), c3 * 1⟩] (((D1.flatMap rowD_Bloch) ++ [])) ∧ i + k = level.length ∧ forN (F_spec_l9Words_l2 level) k i (words1, seen1, next_) = some z1) level.length ⟨0, words, seen, [], B1, c1, B2, c2, D, none, 0, (FF.cons (hf.get 1 0 rfl) (FF.cons (hf.get 2 1 rfl) (FF.cons rfl (FF.cons rfl (FF.cons rfl (FF.cons rfl FF.nil)))))), hD, ho, (hS7.sel [0, 1, 3, 2] rfl rfl), Nat.zero_add _, hz1⟩ ?_
  rintro k_2 f w ⟨i, words1, seen1, next_, B4, c4, B5, c5, D1, B6, c6, hf1, hD1, ho1, hS6, hik1, hL2⟩
  refine cw_seq ?_
  refine cw_region ?_
  refine sq 19 rfl rfl (Y_lt (k := .i64) (a := (i : Int)) (b := (level.length : Int)) rfl (hf1.get 18 5 rfl) (hf1.get 17 4 rfl)) ?_
  refine rw_nil ?_
  refine cw_seq ?_
  refine cw_cond (b := (decide ((i : Int) < (level.length : Int)))) rfl (fun hlt => ?_) (fun hlt => ?_)
  ·skip
   have hlt1 : i < level.length := by have h := of_decide_eq_true hlt; omega
   obtain ⟨k_3, rfl⟩ : ∃ k2, k_2 = k2 + 1 := ⟨k_2 - 1, by omega⟩
   obtain ⟨y1, hb2, hL3⟩ := forN_go hL2
   unfold F_spec_l9Words_l2 at hb2
   refine cw_skip ?_
   refine cw_seq ?_
   obtain ⟨z2, hz2, hF4⟩ := bind_inv hb2
   refine cw_mid (fun f w => ∃ (words2 : List (List UInt8)) (seen2 : List TBloch) (next_1 : List (List UInt8)) (B7 : Option Addr) (c7 : Nat) (B8 : Option Addr) (c8 : Nat) (D2 : List (Hd × TBloch)) (B9 : Option Addr) (c9 : Nat), (words2, seen2, next_1) = z2 ∧ FF f [(1, .slice B7 words2.length c7), (2, .slice B8 seen2.length c8), (4, .slice B9 next_1.length c9), (16, .slice B3 level.length c3), (17, vi (level.length : Int)), (18, vi (i : Int))] ∧ D2.map Prod.snd = seen2 ∧ Org w0 [] [] (D2.flatMap rowD_Bloch) ∧ ST w0 [] w [⟨B7, 9, (words2.flatMap encS), c7 * 1⟩, ⟨B8, 34, (D2.flatMap encD_Bloch), c8 * 1⟩, ⟨B9, 9, (next_1.flatMap encS), c9 * 1⟩, ⟨B3, 9, (level.flatMap encS), c3 * 1⟩] (((D2.flatMap rowD_Bloch) ++ []))) ?_ ?_
   ·skip
    refine cw_block ?_
    refine cw_seq ?_
    refine cw_region ?_
    obtain ⟨x, hx, hz2⟩ := bind_inv hz2
    refine sq 20 rfl rfl (Y_index (B := B3) (m := level.length) (c := c3) (k := .i64) (i := (i : Int)) k_sl_26_9 k_sz_9_1 rfl (hf1.get 16 3 rfl) (hf1.get 18 5 rfl) (gi_isSome encS_len rfl (hS6.cf (i := 3) rfl) hx) (getI_nn hx) (getI_ltI hx rfl)) ?_
    refine sq 21 rfl rfl (Y_load1 (B := B3) (i := (i : Int).toNat * 1) (cs := (level.flatMap encS)) (v := .string (bstr x)) k_sc_9 rfl rfl (hS6.cf (i := 3) rfl) (gi_at0 encS_len hx rfl)) ?_
    refine sq 6 rfl rfl (Y_assign (v := .string (bstr x)) rfl rfl) ?_
    refine rw_nil ?_
    refine cw_seq ?_
    refine cw_region ?_
    refine sq 23 rfl rfl (Y_move (v := .string (bstr x)) rfl rfl) ?_
    obtain ⟨r_1, hc, hz2⟩ := bind_inv hz2
    refine sc 24 rfl rfl (Yc_func (g := 11) (vs := [.string (bstr x)]) k_call_11 rfl (mc rfl mn) (c_spec_l9Word x _  (hS6.inn0 [] rfl) hc)) ?_
    rintro _ w_1 ⟨B10, c10, rfl, hd⟩
    have hS9 := hS6.out0 hd
    have hS9 : ST w0 [] _ [⟨B4, 9, (words1.flatMap encS), c4 * 1⟩, ⟨B5, 34, (D1.flatMap encD_Bloch), c5 * 1⟩, ⟨B6, 9, (next_.flatMap encS), c6 * 1⟩, ⟨B3, 9, (level.flatMap encS), c3 * 1⟩, ⟨B10, 44, (r_1.Cells.flatMap eN0), c10 * 5⟩] (((D1.flatMap rowD_Bloch) ++ [])) := hS9
    obtain ⟨⟨r_2, r_3⟩, hc1, hz2⟩ := bind_inv hz2
    refine sc 25 rfl rfl (Yc_func (g := 10) (vs := [.agg #[vi r_1.Rows, vi r_1.Cols, .slice B10 r_1.Cells.length c10]]) k_call_10 rfl (mc rfl mn) (c_spec_l9Bloch r_1 B10 c10 r_1.Cells.length _ rfl (hS9.inn0 [(false, 4)] rfl) hc1)) ?_
    rintro _ w_2 ⟨B11, c11, rfl, hd1⟩
    have hS10 := hS9.out0 hd1
    have hS10 : ST w0 [] _ [⟨B4, 9, (words1.flatMap encS), c4 * 1⟩, ⟨B5, 34, (D1.flatMap encD_Bloch), c5 * 1⟩, ⟨B6, 9, (next_.flatMap encS), c6 * 1⟩, ⟨B3, 9, (level.flatMap encS), c3 * 1⟩, ⟨B10, 44, (r_1.Cells.flatMap eN0), c10 * 5⟩, ⟨B11, 44, (r_2.Cells.flatMap eN0), c11 * 5⟩] (((D1.flatMap rowD_Bloch) ++ [])) := hS10
    refine sq 22 rfl rfl (Y_move (v := .tuple #[.agg #[.slice B11 r_2.Cells.length c11], .bool r_3]) rfl rfl) ?_
    refine sq 26 rfl rfl (Y_extract (v := .agg #[.slice B11 r_2.Cells.length c11]) rfl rfl rfl) ?_
    refine sq 27 rfl rfl (Y_extract (v := .bool r_3) rfl rfl rfl) ?_
    refine ss 7 rfl rfl (Ys_alloc (T := 34) (cs := [.slice none 0 0]) (m := 1) hS10 k_zero_34 rfl rfl rfl) ?_
    rintro _ w_3 ⟨b1, rfl, hS11⟩
    have hS11 : ST w0 [] _ [⟨B4, 9, (words1.flatMap encS), c4 * 1⟩, ⟨B5, 34, (D1.flatMap encD_Bloch), c5 * 1⟩, ⟨B6, 9, (next_.flatMap encS), c6 * 1⟩, ⟨B3, 9, (level.flatMap encS), c3 * 1⟩, ⟨B10, 44, (r_1.Cells.flatMap eN0), c10 * 5⟩, ⟨B11, 44, (r_2.Cells.flatMap eN0), c11 * 5⟩, ⟨aD b1, 34, [.slice none 0 0], 1⟩] (((D1.flatMap rowD_Bloch) ++ [])) := hS11
    refine ss0 rfl rfl (Ys_store (i := 6) (s := 1) (B := aD b1) (T' := 34) (v := .agg #[.slice B11 r_2.Cells.length c11]) (vs := [.slice B11 r_2.Cells.length c11]) (k := 0) (cs' := [.slice B11 r_2.Cells.length c11]) hS11 k_sz_34_1 rfl rfl rfl rfl rfl rfl rfl (Nat.le_of_ble_eq_true rfl) rfl rfl) ?_
    rintro _ w_4 ⟨rfl, hS12⟩
    have hS12 : ST w0 [] _ [⟨B4, 9, (words1.flatMap encS), c4 * 1⟩, ⟨B5, 34, (D1.flatMap encD_Bloch), c5 * 1⟩, ⟨B6, 9, (next_.flatMap encS), c6 * 1⟩, ⟨B3, 9, (level.flatMap encS), c3 * 1⟩, ⟨B10, 44, (r_1.Cells.flatMap eN0), c10 * 5⟩, ⟨B11, 44, (r_2.Cells.flatMap eN0), c11 * 5⟩, ⟨aD b1, 34, [.slice B11 r_2.Cells.length c11], 1⟩] (((D1.flatMap rowD_Bloch) ++ [])) := hS12
    refine sq 8 rfl rfl (Y_assign (v := .bool r_3) rfl rfl) ?_
    refine rw_nil ?_
    refine cw_seq ?_
    refine cw_region ?_
    refine sq 9 rfl rfl (Y_assign (v := .bool false) rfl rfl) ?_
    refine rw_nil ?_
    refine cw_seq ?_
    refine cw_seq ?_
    refine cw_region ?_
    refine sq 28 rfl rfl (Y_move (v := .slice B5 seen1.length c5) rfl (hf1.get 2 1 rfl)) ?_
    refine sq 29 rfl rfl (Y_len (B := B5) (m := seen1.length) (c := c5) k_sl_31_34 rfl rfl) ?_
    refine sq 30 rfl rfl (Y_move (v := vi 0) rfl rfl) ?_
    refine rw_nil ?_
    obtain ⟨hN1, hz2⟩ := chk_inv hz2
    obtain ⟨z3, hz3, hF5⟩ := bind_inv hz2
    refine cw_block ?_
    refine cw_loop (fun k f w => ∃ (i1 : Nat) (known : Bool) (D3 : List (Hd × TBloch)), FF f [(1, .slice B4 words1.length c4), (2, .slice B5 seen1.length c5), (4, .slice B6 next_.length c6), (6, .string (bstr x)), (7, pt (aD b1) 0), (9, .bool known), (16, .slice B3 level.length c3), (17, vi (level.length : Int)), (18, vi (i : Int)), (28, .slice B5 seen1.length c5), (29, vi (seen1.length : Int)), (30, vi (i1 : Int))] ∧ D3.map Prod.snd = seen1 ∧ Org w0 [] [] (D3.flatMap rowD_Bloch) ∧ ST w0 [] w [⟨B4, 9, (words1.flatMap encS), c4 * 1⟩, ⟨B5, 34, (D3.flatMap encD_Bloch), c5 * 1⟩, ⟨B6, 9, (next_.flatMap encS), c6 * 1⟩, ⟨aD b1, 34, [.slice B11 r_2.Cells.length c11], 1⟩, ⟨B11, 44, (r_2.Cells.flatMap eN0), c11 * 5⟩, ⟨B3, 9, (level.flatMap encS), c3 * 1⟩] (((D3.flatMap rowD_Bloch) ++ [])) ∧ i1 + k = seen1.length ∧ forN (F_spec_l9Words_l3 seen1 r_2) k i1 known = some z3) seen1.length ⟨0, false, D1, (FF.cons (hf1.get 1 0 rfl) (FF.cons (hf1.get 2 1 rfl) (FF.cons (hf1.get 4 2 rfl) (FF.cons rfl (FF.cons rfl (FF.cons rfl (FF.cons (hf1.get 16 3 rfl) (FF.cons (hf1.get 17 4 rfl) (FF.cons (hf1.get 18 5 rfl) (FF.cons rfl (FF.cons rfl (FF.cons rfl FF.nil)))))))))))), hD1, ho1, (hS12.sel [0, 1, 2, 6, 5, 3] rfl rfl), Nat.zero_add _, hz3⟩ ?_
    rintro k_4 f w ⟨i1, known, D3, hf3, hD3, ho3, hS13, hik2, hL4⟩
    refine cw_seq ?_
    refine cw_region ?_
    refine sq 31 rfl rfl (Y_lt (k := .i64) (a := (i1 : Int)) (b := (seen1.length : Int)) rfl (hf3.get 30 11 rfl) (hf3.get 29 10 rfl)) ?_
    refine rw_nil ?_
    refine cw_seq ?_
    refine cw_cond (b := (decide ((i1 : Int) < (seen1.length : Int)))) rfl (fun hlt2 => ?_) (fun hlt2 => ?_)
    ·skip
     have hlt3 : i1 < seen1.length := by have h := of_decide_eq_true hlt2; omega
     obtain ⟨k_5, rfl⟩ : ∃ k2, k_4 = k2 + 1 := ⟨k_4 - 1, by omega⟩
     obtain ⟨y2, hb3, hL5⟩ := forN_go hL4
     unfold F_spec_l9Words_l3 at hb3
     refine cw_skip ?_
     refine cw_seq ?_
     refine cw_block ?_
     refine cw_seq ?_
     refine cw_region ?_
     obtain ⟨x1, hx1, hb3⟩ := bind_inv hb3
     obtain ⟨⟨B12, c12⟩, hp⟩ := getI_snd hD3 hx1
     refine sq 32 rfl rfl (Y_index (B := B5) (m := seen1.length) (c := c5) (k := .i64) (i := (i1 : Int)) k_sl_31_34 k_sz_34_1 rfl (hf3.get 28 9 rfl) (hf3.get 30 11 rfl) (gi_isSome encD_Bloch_len rfl (hS13.cf (i := 1) rfl) hp) (getI_nn hp) (getI_ltI hp (dl_len hD3))) ?_
     have hm : (⟨B12, (x1.Cells.flatMap eN0)⟩ : Ro) ∈ ((((D3.flatMap rowD_Bloch) ++ [])) : List Ro) := app_mem (fun r_ (h : r_ ∈ ((D3.flatMap rowD_Bloch) : List Ro)) => List.mem_of_mem_drop (i := 0) (show r_ ∈ ((((D3.flatMap rowD_Bloch) ++ [])) : List Ro) from List.mem_append_left _ h)) (row_mem (rw_ := rowD_Bloch) hp _ (mem_at (i := 0) rfl))
     have hS14 : ST w0 [] _ [⟨B4, 9, (words1.flatMap encS), c4 * 1⟩, ⟨B5, 34, (D3.flatMap encD_Bloch), c5 * 1⟩, ⟨B6, 9, (next_.flatMap encS), c6 * 1⟩, ⟨aD b1, 34, [.slice B11 r_2.Cells.length c11], 1⟩, ⟨B11, 44, (r_2.Cells.flatMap eN0), c11 * 5⟩, ⟨B3, 9, (level.flatMap encS), c3 * 1⟩] (⟨B12, (x1.Cells.flatMap eN0)⟩ :: ((D3.flatMap rowD_Bloch) ++ [])) := ST.subR hS13 (subc hm (fun _ h => h))
     refine sq 33 rfl rfl (Y_loadA (B := B5) (i := (i1 : Int).toNat * 1) (cs := (D3.flatMap encD_Bloch)) (vs := [.slice B12 x1.Cells.length c12]) k_ag_34 k_sz_34_1 rfl rfl (hS14.cf (i := 1) rfl) (encD_Bloch_len ((B12, c12), x1)) (gi_seg encD_Bloch_len hp)) ?_
     refine ss 11 rfl rfl (Ys_alloc (T := 34) (cs := [.slice none 0 0]) (m := 1) hS14 k_zero_34 rfl rfl rfl) ?_
     rintro _ w_5 ⟨b2, rfl, hS15⟩
     have hS15 : ST w0 [] _ [⟨B4, 9, (words1.flatMap encS), c4 * 1⟩, ⟨B5, 34, (D3.flatMap encD_Bloch), c5 * 1⟩, ⟨B6, 9, (next_.flatMap encS), c6 * 1⟩, ⟨aD b1, 34, [.slice B11 r_2.Cells.length c11], 1⟩, ⟨B11, 44, (r_2.Cells.flatMap eN0), c11 * 5⟩, ⟨B3, 9, (level.flatMap encS), c3 * 1⟩, ⟨aD b2, 34, [.slice none 0 0], 1⟩] (⟨B12, (x1.Cells.flatMap eN0)⟩ :: ((D3.flatMap rowD_Bloch) ++ [])) := hS15
     refine ss0 rfl rfl (Ys_store (i := 6) (s := 1) (B := aD b2) (T' := 34) (v := .agg #[.slice B12 x1.Cells.length c12]) (vs := [.slice B12 x1.Cells.length c12]) (k := 0) (cs' := [.slice B12 x1.Cells.length c12]) hS15 k_sz_34_1 rfl rfl rfl rfl rfl rfl rfl (Nat.le_of_ble_eq_true rfl) rfl rfl) ?_
     rintro _ w_6 ⟨rfl, hS16⟩
     have hS16 : ST w0 [] _ [⟨B4, 9, (words1.flatMap encS), c4 * 1⟩, ⟨B5, 34, (D3.flatMap encD_Bloch), c5 * 1⟩, ⟨B6, 9, (next_.flatMap encS), c6 * 1⟩, ⟨aD b1, 34, [.slice B11 r_2.Cells.length c11], 1⟩, ⟨B11, 44, (r_2.Cells.flatMap eN0), c11 * 5⟩, ⟨B3, 9, (level.flatMap encS), c3 * 1⟩, ⟨aD b2, 34, [.slice B12 x1.Cells.length c12], 1⟩] (⟨B12, (x1.Cells.flatMap eN0)⟩ :: ((D3.flatMap rowD_Bloch) ++ [])) := hS16
     refine rw_nil ?_
     refine cw_region ?_
     refine sq 34 rfl rfl (Y_move (v := .bool known) rfl (hf3.get 9 5 rfl)) ?_
     refine sq 35 rfl rfl (Y_move (v := .bool known) rfl rfl) ?_
     refine sgq 36 (B := (!known)) (v := .agg #[.slice B12 x1.Cells.length c12]) rfl rfl (wt_f (gd_of (t := 35) (by kernel_rfl) rfl)) (fun hg => (Y_loadA (B := aD b2) (i := 0) (cs := [.slice B12 x1.Cells.length c12]) (vs := [.slice B12 x1.Cells.length c12]) k_ag_34 k_sz_34_1 rfl rfl (hS16.cf (i := 6) rfl) rfl rfl)) ?_
     refine sgq 37 (B := (!known)) (v := .agg #[.slice B11 r_2.Cells.length c11]) rfl rfl (wt_f (gd_of (t := 35) (by kernel_rfl) rfl)) (fun hg1 => (Y_loadA (B := aD b1) (i := 0) (cs := [.slice B11 r_2.Cells.length c11]) (vs := [.slice B11 r_2.Cells.length c11]) k_ag_34 k_sz_34_1 rfl (hf3.get 7 4 rfl) (hS16.cf (i := 3) rfl) rfl rfl)) ?_
     obtain ⟨r_4, hc2, hb3⟩ := bind_inv hb3
     refine sgc 38 (B := (!known)) (v := .bool r_4) (F := hS16.fn) rfl rfl (wt_f (gd_of (t := 35) (by kernel_rfl) rfl)) hS16 (fun hg2 => (Yc_func (g := 12) (vs := [.agg #[.slice B12 x1.Cells.length c12], .agg #[.slice B11 r_2.Cells.length c11]]) k_call_12 rfl (mc (gv_of (B := (!known)) (v := .agg #[.slice B12 x1.Cells.length c12]) hg2) (mc (gv_of (B := (!known)) (v := .agg #[.slice B11 r_2.Cells.length c11]) hg2) mn)) (CV.mono (c_spec_l9Same x1 r_2 B12 c12 x1.Cells.length B11 c11 r_2.Cells.length _ rfl rfl (hS16.inn0 [(true, 0), (false, 4)] rfl) (gb_inv hc2 hg2)) (by rintro _ _ ⟨rfl, h⟩; exact ⟨rfl, hS16.out00 h⟩)))) ?_
     rintro w_7 hS17
     have hS17 : ST _ _ w_7 _ _ := hS17
     refine sq 39 rfl rfl (Y_or (b := known) (z := r_4) rfl rfl rfl rfl) ?_
     refine sq 9 rfl rfl (Y_assign (v := .bool (known || r_4)) rfl rfl) ?_
     refine rw_nil ?_
     refine cw_region ?_
     refine sq 40 rfl rfl (Y_add (k := .i64) (a := (i1 : Int)) (b := 1) rfl (hf3.get 30 11 rfl) rfl) ?_
     refine sq 30 rfl rfl (Y_move (v := vi (i64.wrap ((i1 : Int) + 1))) rfl rfl) ?_
     refine rw_nil ?_
     obtain rfl := some_inj hb3
     have hS18 : ST w0 [] _ [⟨B4, 9, (words1.flatMap encS), c4 * 1⟩, ⟨B5, 34, (D3.flatMap encD_Bloch), c5 * 1⟩, ⟨B6, 9, (next_.flatMap encS), c6 * 1⟩, ⟨aD b1, 34, [.slice B11 r_2.Cells.length c11], 1⟩, ⟨B11, 44, (r_2.Cells.flatMap eN0), c11 * 5⟩, ⟨B3, 9, (level.flatMap encS), c3 * 1⟩, ⟨aD b2, 34, [.slice B12 x1.Cells.length c12], 1⟩] (((D3.flatMap rowD_Bloch) ++ [])) := ST.subR hS17 (suba (fun r_ (h : r_ ∈ ((D3.flatMap rowD_Bloch) : List Ro)) => List.mem_of_mem_drop (i := 1) (show r_ ∈ ((((D3.flatMap rowD_Bloch) ++ [])) : List Ro) from List.mem_append_left _ h)) (fun _ h => by cases h))
     exact ⟨k_5, Nat.lt_succ_self _, i1 + 1, (known || r_4), D3, (FF.cons (hf3.get 1 0 rfl) (FF.cons (hf3.get 2 1 rfl) (FF.cons (hf3.get 4 2 rfl) (FF.cons (hf3.get 6 3 rfl) (FF.cons (hf3.get 7 4 rfl) (FF.cons rfl (FF.cons (hf3.get 16 6 rfl) (FF.cons (hf3.get 17 7 rfl) (FF.cons (hf3.get 18 8 rfl) (FF.cons (hf3.get 28 9 rfl) (FF.cons (hf3.get 29 10 rfl) (FF.cons (congrArg (Value.int .i64) (wr_succ hlt3 hN1)) FF.nil)))))))))))), hD3, ho3, (hS18.sel [0, 1, 2, 3, 4, 5] rfl rfl), (by omega), hL5⟩
    ·skip
     obtain rfl : k_4 = 0 := by have h := of_decide_eq_false hlt2; omega
     refine cw_exit rfl ?_
     obtain rfl := some_inj hL4
     refine cw_seq ?_
     refine cw_region ?_
     refine sq 41 rfl rfl (Y_move (v := .bool known) rfl (hf3.get 9 5 rfl)) ?_
     refine sq 42 rfl rfl (Y_not (p := known) rfl rfl) ?_
     refine rw_nil ?_
     refine cw_cond (b := (!known)) rfl (fun hb4 => ?_) (fun hb4 => ?_)
     ·skip
      have hF6 := ct hF5 hb4
      refine cw_seq ?_
      refine cw_region ?_
      refine sq 43 rfl rfl (Y_move (v := .slice B4 words1.length c4) rfl (hf3.get 1 0 rfl)) ?_
      refine sq 44 rfl rfl (Y_move (v := .string (bstr x)) rfl (hf3.get 6 3 rfl)) ?_
      refine ss 45 rfl rfl (Ys_bslice (s := 1) (len := 1) (vs := [(0, .string (bstr x))]) (cs := [.string (bstr x)]) (zs := [.string (bstr ([] : List UInt8))]) (m := 1) hS13 k_sl_26_9 k_sz_9_1 k_zc_9 rfl (mpc rfl mpn) rfl rfl rfl (by kernel_rfl) (by kernel_rfl) rfl) ?_
      rintro _ w_8 ⟨b3, rfl, hS19⟩
      have hS19 : ST w0 [] _ [⟨B4, 9, (words1.flatMap encS), c4 * 1⟩, ⟨B5, 34, (D3.flatMap encD_Bloch), c5 * 1⟩, ⟨B6, 9, (next_.flatMap encS), c6 * 1⟩, ⟨aD b1, 34, [.slice B11 r_2.Cells.length c11], 1⟩, ⟨B11, 44, (r_2.Cells.flatMap eN0), c11 * 5⟩, ⟨B3, 9, (level.flatMap encS), c3 * 1⟩, ⟨aD b3, 9, ([x].flatMap encS), 1 * 1⟩] (((D3.flatMap rowD_Bloch) ++ [])) := hS19
      obtain ⟨hap, hF6⟩ := chk_inv hF6
      refine ss 46 rfl rfl (Ys_append (s := 1) (by' := 16) (i := 0) (nn := words1.length) (c := c4) (k := 1) (len := (words1 ++ [x]).length) (B := B4) (xs := ([x].flatMap encS)) (cs' := ((words1 ++ [x]).flatMap encS)) hS19 k_sl_26_9 k_sz_9_1 k_by_9_16 k_zero_9 rfl (by decide) rfl rfl rfl rfl (fm_lenn (l := words1) encS_len rfl) rfl (hS19.cf (i := 6) rfl) (fm_lenn (l := [x]) encS_len rfl) (fm_one' (enc := encS) encS_one [x]) (by have := hap; omega) (by have := hap; simp only [maxLen]; omega) (fm_app _ _) (app_len (l := words1) (l' := [x]) rfl rfl)) ?_
      rintro _ w_9 ⟨B13, c13, rfl, hS20⟩
      have hS20 : ST w0 [] _ [⟨B13, 9, ((words1 ++ [x]).flatMap encS), c13 * 1⟩, ⟨B5, 34, (D3.flatMap encD_Bloch), c5 * 1⟩, ⟨B6, 9, (next_.flatMap encS), c6 * 1⟩, ⟨aD b1, 34, [.slice B11 r_2.Cells.length c11], 1⟩, ⟨B11, 44, (r_2.Cells.flatMap eN0), c11 * 5⟩, ⟨B3, 9, (level.flatMap encS), c3 * 1⟩, ⟨aD b3, 9, ([x].flatMap encS), 1 * 1⟩] (((D3.flatMap rowD_Bloch) ++ [])) := hS20
      refine sq 1 rfl rfl (Y_assign (v := .slice B13 ((words1 ++ [x]).length) c13) rfl rfl) ?_
      refine rw_nil ?_
      refine cw_seq ?_
      refine cw_region ?_
      refine sq 47 rfl rfl (Y_move (v := .slice B5 seen1.length c5) rfl (hf3.get 2 1 rfl)) ?_
      refine sq 48 rfl rfl (Y_loadA (B := aD b1) (i := 0) (cs := [.slice B11 r_2.Cells.length c11]) (vs := [.slice B11 r_2.Cells.length c11]) k_ag_34 k_sz_34_1 rfl (hf3.get 7 4 rfl) (hS20.cf (i := 3) rfl) rfl rfl) ?_
      have ho4 : Org w0 [] [] [⟨B11, (r_2.Cells.flatMap eN0)⟩] := ST.orgOwn hS20 (i := 4) rfl
      have hcap : r_2.Cells.length ≤ c11 := (hS20.lencap (i := 4) rfl (fm_lenn (l := r_2.Cells) eN3 rfl) rfl rfl)
      have hS21 : ST w0 [] _ [⟨B13, 9, ((words1 ++ [x]).flatMap encS), c13 * 1⟩, ⟨B5, 34, (D3.flatMap encD_Bloch), c5 * 1⟩, ⟨B6, 9, (next_.flatMap encS), c6 * 1⟩, ⟨aD b1, 34, [.slice B11 r_2.Cells.length c11], 1⟩, ⟨B3, 9, (level.flatMap encS), c3 * 1⟩, ⟨aD b3, 9, ([x].flatMap encS), 1 * 1⟩] (⟨B11, (r_2.Cells.flatMap eN0)⟩ :: ((D3.flatMap rowD_Bloch) ++ [])) := hS20.freeze (i := 4) rfl
      refine ss 49 rfl rfl (Ys_bslice (s := 1) (len := 1) (vs := [(0, .agg #[.slice B11 r_2.Cells.length c11])]) (cs := [.slice B11 r_2.Cells.length c11]) (zs := [.slice none 0 0]) (m := 1) hS21 k_sl_31_34 k_sz_34_1 k_zc_34 rfl (mpc rfl mpn) rfl rfl rfl (by kernel_rfl) (by kernel_rfl) rfl) ?_
      rintro _ w_10 ⟨b4, rfl, hS22⟩
      have hm1 : ∀ r ∈ (([((B11, c11), r_2)] : List (Hd × TBloch)).flatMap rowD_Bloch), r ∈ ((⟨B11, (r_2.Cells.flatMap eN0)⟩ :: ((D3.flatMap rowD_Bloch) ++ [])) : List Ro) := (fsub_cons (subc (mem_at (i := 0) rfl) (fun _ h => by cases h)) fsub_nil)
      have ho5 : Org w0 [] [] (([((B11, c11), r_2)] : List (Hd × TBloch)).flatMap rowD_Bloch) := (forg_cons (org_cons ho4 org_nil) forg_nil)
      have hS23 : ST w0 [] _ [⟨B13, 9, ((words1 ++ [x]).flatMap encS), c13 * 1⟩, ⟨B5, 34, (D3.flatMap encD_Bloch), c5 * 1⟩, ⟨B6, 9, (next_.flatMap encS), c6 * 1⟩, ⟨aD b1, 34, [.slice B11 r_2.Cells.length c11], 1⟩, ⟨B3, 9, (level.flatMap encS), c3 * 1⟩, ⟨aD b3, 9, ([x].flatMap encS), 1 * 1⟩, ⟨aD b4, 34, (([((B11, c11), r_2)] : List (Hd × TBloch)).flatMap encD_Bloch), 1 * 1⟩] (⟨B11, (r_2.Cells.flatMap eN0)⟩ :: ((([((B11, c11), r_2)] : List (Hd × TBloch)).flatMap rowD_Bloch) ++ ((D3.flatMap rowD_Bloch) ++ []))) := ST.subR hS22 (subc (mem_at (i := 0) rfl) (suba hm1 (suba (fun r_ (h : r_ ∈ ((D3.flatMap rowD_Bloch) : List Ro)) => List.mem_of_mem_drop (i := 1) (show r_ ∈ ((((D3.flatMap rowD_Bloch) ++ [])) : List Ro) from List.mem_append_left _ h)) (fun _ h => by cases h))))
      have hS23 : ST w0 [] _ [⟨B13, 9, ((words1 ++ [x]).flatMap encS), c13 * 1⟩, ⟨B5, 34, (D3.flatMap encD_Bloch), c5 * 1⟩, ⟨B6, 9, (next_.flatMap encS), c6 * 1⟩, ⟨aD b1, 34, [.slice B11 r_2.Cells.length c11], 1⟩, ⟨B3, 9, (level.flatMap encS), c3 * 1⟩, ⟨aD b3, 9, ([x].flatMap encS), 1 * 1⟩, ⟨aD b4, 34, (([((B11, c11), r_2)] : List (Hd × TBloch)).flatMap encD_Bloch), 1 * 1⟩] (⟨B11, (r_2.Cells.flatMap eN0)⟩ :: ((([((B11, c11), r_2)] : List (Hd × TBloch)).flatMap rowD_Bloch) ++ ((D3.flatMap rowD_Bloch) ++ []))) := hS23
      obtain ⟨hap1, hF6⟩ := chk_inv hF6
      refine ss 50 rfl rfl (Ys_append (s := 1) (by' := 24) (i := 1) (nn := seen1.length) (c := c5) (k := 1) (len := (seen1 ++ ([r_2] : List TBloch)).length) (B := B5) (xs := (([((B11, c11), r_2)] : List (Hd × TBloch)).flatMap encD_Bloch)) (cs' := ((D3 ++ ([((B11, c11), r_2)] : List (Hd × TBloch))).flatMap encD_Bloch)) hS23 k_sl_31_34 k_sz_34_1 k_by_34_24 k_zero_34 rfl (by decide) rfl rfl rfl rfl (fm_lenn (l := D3) encD_Bloch_len (dl_len hD3)) rfl (hS23.cf (i := 6) rfl) (fm_lenn (l := ([((B11, c11), r_2)] : List (Hd × TBloch))) encD_Bloch_len rfl) (fm_one' (enc := encD_Bloch) encD_Bloch_one ([((B11, c11), r_2)] : List (Hd × TBloch))) (by have := hap1; omega) (by have := hap1; simp only [maxLen]; omega) (fm_app _ _) (dl_sum (dl_len hD3) rfl (dl_app hD3 (show List.map Prod.snd ([((B11, c11), r_2)] : List (Hd × TBloch)) = ([r_2] : List TBloch) from rfl)))) ?_
      rintro _ w_11 ⟨B14, c14, rfl, hS24⟩
      have ho6 : Org w0 [] [] ((D3 ++ ([((B11, c11), r_2)] : List (Hd × TBloch))).flatMap rowD_Bloch) := (forg_app ho3 ho5)
      have hS25 : ST w0 [] _ [⟨B13, 9, ((words1 ++ [x]).flatMap encS), c13 * 1⟩, ⟨B14, 34, ((D3 ++ ([((B11, c11), r_2)] : List (Hd × TBloch))).flatMap encD_Bloch), c14 * 1⟩, ⟨B6, 9, (next_.flatMap encS), c6 * 1⟩, ⟨aD b1, 34, [.slice B11 r_2.Cells.length c11], 1⟩, ⟨B3, 9, (level.flatMap encS), c3 * 1⟩, ⟨aD b3, 9, ([x].flatMap encS), 1 * 1⟩, ⟨aD b4, 34, (([((B11, c11), r_2)] : List (Hd × TBloch)).flatMap encD_Bloch), 1 * 1⟩] (⟨B11, (r_2.Cells.flatMap eN0)⟩ :: (((D3 ++ ([((B11, c11), r_2)] : List (Hd × TBloch))).flatMap rowD_Bloch) ++ ((([((B11, c11), r_2)] : List (Hd × TBloch)).flatMap rowD_Bloch) ++ []))) := ST.subR hS24 (subc (mem_at (i := 0) rfl) (suba (fsub_app (fun r_ (h : r_ ∈ ((D3.flatMap rowD_Bloch) : List Ro)) => List.mem_of_mem_drop (i := 1) (show r_ ∈ ((((([((B11, c11), r_2)] : List (Hd × TBloch)).flatMap rowD_Bloch) ++ ((D3.flatMap rowD_Bloch) ++ []))) : List Ro) from List.mem_append_right _ (List.mem_append_left _ h))) (fun r_ (h : r_ ∈ ((([((B11, c11), r_2)] : List (Hd × TBloch)).flatMap rowD_Bloch) : List Ro)) => List.mem_of_mem_drop (i := 1) (show r_ ∈ ((((([((B11, c11), r_2)] : List (Hd × TBloch)).flatMap rowD_Bloch) ++ ((D3.flatMap rowD_Bloch) ++ []))) : List Ro) from List.mem_append_left _ h))) (suba (fun r_ (h : r_ ∈ ((([((B11, c11), r_2)] : List (Hd × TBloch)).flatMap rowD_Bloch) : List Ro)) => List.mem_of_mem_drop (i := 1) (show r_ ∈ ((((([((B11, c11), r_2)] : List (Hd × TBloch)).flatMap rowD_Bloch) ++ ((D3.flatMap rowD_Bloch) ++ []))) : List Ro) from List.mem_append_left _ h)) (fun _ h => by cases h))))
      have hS25 : ST w0 [] _ [⟨B13, 9, ((words1 ++ [x]).flatMap encS), c13 * 1⟩, ⟨B14, 34, ((D3 ++ ([((B11, c11), r_2)] : List (Hd × TBloch))).flatMap encD_Bloch), c14 * 1⟩, ⟨B6, 9, (next_.flatMap encS), c6 * 1⟩, ⟨aD b1, 34, [.slice B11 r_2.Cells.length c11], 1⟩, ⟨B3, 9, (level.flatMap encS), c3 * 1⟩, ⟨aD b3, 9, ([x].flatMap encS), 1 * 1⟩, ⟨aD b4, 34, (([((B11, c11), r_2)] : List (Hd × TBloch)).flatMap encD_Bloch), 1 * 1⟩] (⟨B11, (r_2.Cells.flatMap eN0)⟩ :: (((D3 ++ ([((B11, c11), r_2)] : List (Hd × TBloch))).flatMap rowD_Bloch) ++ ((([((B11, c11), r_2)] : List (Hd × TBloch)).flatMap rowD_Bloch) ++ []))) := hS25
      refine sq 2 rfl rfl (Y_assign (v := .slice B14 ((seen1 ++ ([r_2] : List TBloch)).length) c14) rfl rfl) ?_
      refine rw_nil ?_
      refine cw_region ?_
      refine sq 51 rfl rfl (Y_move (v := .slice B6 next_.length c6) rfl (hf3.get 4 2 rfl)) ?_
      refine sq 52 rfl rfl (Y_move (v := .string (bstr x)) rfl (hf3.get 6 3 rfl)) ?_
      obtain ⟨hsa, hF6⟩ := chk_inv hF6
      refine sq 53 rfl rfl (Y_sadd (a := x) (b := ([72] : List UInt8)) rfl rfl rfl hsa) ?_
      refine sq 54 rfl rfl (Y_move (v := .string (bstr x)) rfl (hf3.get 6 3 rfl)) ?_
      obtain ⟨hsa1, hF6⟩ := chk_inv hF6
      refine sq 55 rfl rfl (Y_sadd (a := x) (b := ([83] : List UInt8)) rfl rfl rfl hsa1) ?_
      refine ss 56 rfl rfl (Ys_bslice (s := 1) (len := 2) (vs := [(0, .string (bstr (x ++ ([72] : List UInt8)))), (1, .string (bstr (x ++ ([83] : List UInt8))))]) (cs := [.string (bstr (x ++ ([72] : List UInt8))), .string (bstr (x ++ ([83] : List UInt8)))]) (zs := [.string (bstr ([] : List UInt8)), .string (bstr ([] : List UInt8))]) (m := 2) hS25 k_sl_26_9 k_sz_9_1 k_zc_9 rfl (mpc rfl (mpc rfl mpn)) rfl rfl rfl (by kernel_rfl) (by kernel_rfl) rfl) ?_
      rintro _ w_12 ⟨b5, rfl, hS26⟩
      have hS26 : ST w0 [] _ [⟨B13, 9, ((words1 ++ [x]).flatMap encS), c13 * 1⟩, ⟨B14, 34, ((D3 ++ ([((B11, c11), r_2)] : List (Hd × TBloch))).flatMap encD_Bloch), c14 * 1⟩, ⟨B6, 9, (next_.flatMap encS), c6 * 1⟩, ⟨aD b1, 34, [.slice B11 r_2.Cells.length c11], 1⟩, ⟨B3, 9, (level.flatMap encS), c3 * 1⟩, ⟨aD b3, 9, ([x].flatMap encS), 1 * 1⟩, ⟨aD b4, 34, (([((B11, c11), r_2)] : List (Hd × TBloch)).flatMap encD_Bloch), 1 * 1⟩, ⟨aD b5, 9, ([(x ++ ([72] : List UInt8)), (x ++ ([83] : List UInt8))].flatMap encS), 2 * 1⟩] (⟨B11, (r_2.Cells.flatMap eN0)⟩ :: (((D3 ++ ([((B11, c11), r_2)] : List (Hd × TBloch))).flatMap rowD_Bloch) ++ ((([((B11, c11), r_2)] : List (Hd × TBloch)).flatMap rowD_Bloch) ++ []))) := hS26
      obtain ⟨hap2, hF6⟩ := chk_inv hF6
      refine ss 57 rfl rfl (Ys_append (s := 1) (by' := 16) (i := 2) (nn := next_.length) (c := c6) (k := 2) (len := (next_ ++ [(x ++ ([72] : List UInt8)), (x ++ ([83] : List UInt8))]).length) (B := B6) (xs := ([(x ++ ([72] : List UInt8)), (x ++ ([83] : List UInt8))].flatMap encS)) (cs' := ((next_ ++ [(x ++ ([72] : List UInt8)), (x ++ ([83] : List UInt8))]).flatMap encS)) hS26 k_sl_26_9 k_sz_9_1 k_by_9_16 k_zero_9 rfl (by decide) rfl rfl rfl rfl (fm_lenn (l := next_) encS_len rfl) rfl (hS26.cf (i := 7) rfl) (fm_lenn (l := [(x ++ ([72] : List UInt8)), (x ++ ([83] : List UInt8))]) encS_len rfl) (fm_one' (enc := encS) encS_one [(x ++ ([72] : List UInt8)), (x ++ ([83] : List UInt8))]) (by have := hap2; omega) (by have := hap2; simp only [maxLen]; omega) (fm_app _ _) (app_len (l := next_) (l' := [(x ++ ([72] : List UInt8)), (x ++ ([83] : List UInt8))]) rfl rfl)) ?_
      rintro _ w_13 ⟨B15, c15, rfl, hS27⟩
      have hS27 : ST w0 [] _ [⟨B13, 9, ((words1 ++ [x]).flatMap encS), c13 * 1⟩, ⟨B14, 34, ((D3 ++ ([((B11, c11), r_2)] : List (Hd × TBloch))).flatMap encD_Bloch), c14 * 1⟩, ⟨B15, 9, ((next_ ++ [(x ++ ([72] : List UInt8)), (x ++ ([83] : List UInt8))]).flatMap encS), c15 * 1⟩, ⟨aD b1, 34, [.slice B11 r_2.Cells.length c11], 1⟩, ⟨B3, 9, (level.flatMap encS), c3 * 1⟩, ⟨aD b3, 9, ([x].flatMap encS), 1 * 1⟩, ⟨aD b4, 34, (([((B11, c11), r_2)] : List (Hd × TBloch)).flatMap encD_Bloch), 1 * 1⟩, ⟨aD b5, 9, ([(x ++ ([72] : List UInt8)), (x ++ ([83] : List UInt8))].flatMap encS), 2 * 1⟩] (⟨B11, (r_2.Cells.flatMap eN0)⟩ :: (((D3 ++ ([((B11, c11), r_2)] : List (Hd × TBloch))).flatMap rowD_Bloch) ++ ((([((B11, c11), r_2)] : List (Hd × TBloch)).flatMap rowD_Bloch) ++ []))) := hS27
      refine sq 4 rfl rfl (Y_assign (v := .slice B15 ((next_ ++ [(x ++ ([72] : List UInt8)), (x ++ ([83] : List UInt8))]).length) c15) rfl rfl) ?_
      refine rw_nil ?_
      have hS28 : ST w0 [] _ [⟨B13, 9, ((words1 ++ [x]).flatMap encS), c13 * 1⟩, ⟨B14, 34, ((D3 ++ ([((B11, c11), r_2)] : List (Hd × TBloch))).flatMap encD_Bloch), c14 * 1⟩, ⟨B15, 9, ((next_ ++ [(x ++ ([72] : List UInt8)), (x ++ ([83] : List UInt8))]).flatMap encS), c15 * 1⟩, ⟨aD b1, 34, [.slice B11 r_2.Cells.length c11], 1⟩, ⟨B3, 9, (level.flatMap encS), c3 * 1⟩, ⟨aD b3, 9, ([x].flatMap encS), 1 * 1⟩, ⟨aD b4, 34, (([((B11, c11), r_2)] : List (Hd × TBloch)).flatMap encD_Bloch), 1 * 1⟩, ⟨aD b5, 9, ([(x ++ ([72] : List UInt8)), (x ++ ([83] : List UInt8))].flatMap encS), 2 * 1⟩] ((((D3 ++ ([((B11, c11), r_2)] : List (Hd × TBloch))).flatMap rowD_Bloch) ++ [])) := ST.subR hS27 (suba (fun r_ (h : r_ ∈ (((D3 ++ ([((B11, c11), r_2)] : List (Hd × TBloch))).flatMap rowD_Bloch) : List Ro)) => List.mem_of_mem_drop (i := 1) (show r_ ∈ (((((D3 ++ ([((B11, c11), r_2)] : List (Hd × TBloch))).flatMap rowD_Bloch) ++ ((([((B11, c11), r_2)] : List (Hd × TBloch)).flatMap rowD_Bloch) ++ []))) : List Ro) from List.mem_append_left _ h)) (fun _ h => by cases h))
      exact ⟨(words1 ++ [x]), (seen1 ++ ([r_2] : List TBloch)), (next_ ++ [(x ++ ([72] : List UInt8)), (x ++ ([83] : List UInt8))]), B13, c13, B14, c14, (D3 ++ ([((B11, c11), r_2)] : List (Hd × TBloch))), B15, c15, (some_inj hF6), (FF.cons rfl (FF.cons rfl (FF.cons rfl (FF.cons (hf3.get 16 6 rfl) (FF.cons (hf3.get 17 7 rfl) (FF.cons (hf3.get 18 8 rfl) FF.nil)))))), (dl_app hD3 (show List.map Prod.snd ([((B11, c11), r_2)] : List (Hd × TBloch)) = ([r_2] : List TBloch) from rfl)), ho6, (hS28.sel [0, 1, 2, 4] rfl rfl)⟩
     ·skip
      have hF7 := cf' hF5 hb4
      refine cw_skip ?_
      exact ⟨words1, seen1, next_, B4, c4, B5, c5, D3, B6, c6, (some_inj hF7), (FF.cons (hf3.get 1 0 rfl) (FF.cons (hf3.get 2 1 rfl) (FF.cons (hf3.get 4 2 rfl) (FF.cons (hf3.get 16 6 rfl) (FF.cons (hf3.get 17 7 rfl) (FF.cons (hf3.get 18 8 rfl) FF.nil)))))), hD3, ho3, (hS13.sel [0, 1, 2, 5] rfl rfl)⟩
   rintro f w ⟨words2, seen2, next_1, B7, c7, B8, c8, D2, B9, c9, rfl, hf2, hD2, ho2, hS8⟩
   refine cw_region ?_
   refine sq 58 rfl rfl (Y_add (k := .i64) (a := (i : Int)) (b := 1) rfl (hf2.get 18 5 rfl) rfl) ?_
   refine sq 18 rfl rfl (Y_move (v := vi (i64.wrap ((i : Int) + 1))) rfl rfl) ?_
   refine rw_nil ?_
   obtain rfl := some_inj hF4
   exact ⟨k_3, Nat.lt_succ_self _, i + 1, words2, seen2, next_1, B7, c7, B8, c8, D2, B9, c9, (FF.cons (hf2.get 1 0 rfl) (FF.cons (hf2.get 2 1 rfl) (FF.cons (hf2.get 4 2 rfl) (FF.cons (hf2.get 16 3 rfl) (FF.cons (hf2.get 17 4 rfl) (FF.cons (congrArg (Value.int .i64) (wr_succ hlt1 hN)) FF.nil)))))), hD2, ho2, (hS8.sel [0, 1, 2, 3] rfl rfl), (by omega), hL3⟩
  ·skip
   obtain rfl : k_2 = 0 := by have h := of_decide_eq_false hlt; omega
   refine cw_exit rfl ?_
   obtain rfl := some_inj hL2
   refine cw_region ?_
   refine sq 59 rfl rfl (Y_move (v := .slice B6 next_.length c6) rfl (hf1.get 4 2 rfl)) ?_
   refine sq 3 rfl rfl (Y_assign (v := .slice B6 next_.length c6) rfl rfl) ?_
   refine rw_nil ?_
   obtain rfl := some_inj hF3
   exact ⟨k_1, Nat.lt_succ_self _, words1, seen1, next_, B4, c4, B5, c5, D1, B6, c6, (FF.cons (hf1.get 1 0 rfl) (FF.cons (hf1.get 2 1 rfl) (FF.cons rfl FF.nil))), hD1, ho1, (hS6.sel [0, 1, 2] rfl rfl), hL1⟩
 ·skip
  have hF8 := cf' hb hb1
  refine cw_exit rfl ?_
  obtain rfl := some_inj hF8
  obtain rfl := some_inj hL1
  refine cw_seq ?_
  refine cw_region ?_
  refine sq 60 rfl rfl (Y_move (v := .slice B1 words.length c1) rfl (hf.get 1 0 rfl)) ?_
  refine sq 0 rfl rfl (Y_assign (v := .slice B1 words.length c1) rfl rfl) ?_
  refine rw_nil ?_
  refine cw_ret ?_
  obtain rfl := some_inj hF1
  exact ret1 Tryd.results7 (v1 := .slice B1 words.length c1) (resAt_tmp rfl) ⟨B1, c1, rfl, (ST.subR (R' := []) (hS2.sel [0] rfl rfl) (fun _ h => by cases h))⟩

theorem c_spec_CliffordWord (k_ : Int)  (w0 : World)  (hS : ST w0 [] w0 [] []) {r_ : List UInt8} {r_1 : Bool} (hF : F_spec_CliffordWord k_ = some (r_, r_1)) :
  CV Tryd.prog 4 #[vi k_] w0 (fun v w' => v = .tuple #[.string (bstr r_), .bool r_1] ∧ ST w0 [] w' [] []) := by
 unfold F_spec_CliffordWord at hF
 refine cv_of_cw 11 Tryd.func4 rfl Tryd.ntmps4 rfl ?_
 refine cw_seq ?_
 refine cw_region ?_
 refine sq 2 rfl rfl (Y_assign (v := .string (bstr ([] : List UInt8))) rfl rfl) ?_
 refine sq 3 rfl rfl (Y_assign (v := .bool false) rfl rfl) ?_
 refine rw_nil ?_
 refine cw_seq ?_
 refine cw_seq ?_
 refine cw_region ?_
 refine sq 4 rfl rfl (Y_move (v := vi k_) rfl rfl) ?_
 obtain ⟨r_2, hc, hF⟩ := bind_inv hF
 refine sc 5 rfl rfl (Yc_func (g := 6) (vs := [vi k_, vi 0, vi 23]) k_call_6 rfl (mc rfl (mc rfl (mc rfl mn))) (c_spec_l1In k_ 0 23 _  (hS.inn0 [] rfl) hc)) ?_
 rintro _ w_ ⟨rfl, hd⟩
 have hS1 := hS.out00 hd
 refine sq 6 rfl rfl (Y_not (p := r_2) rfl rfl) ?_
 refine rw_nil ?_
 refine cw_cond (b := (!r_2)) rfl (fun hb => ?_) (fun hb => ?_)
 ·skip
  have hF1 := ct hF hb
  refine cw_seq ?_
  refine cw_region ?_
  refine sq 2 rfl rfl (Y_assign (v := .string (bstr ([] : List UInt8))) rfl rfl) ?_
  refine sq 3 rfl rfl (Y_assign (v := .bool false) rfl rfl) ?_
  refine rw_nil ?_
  refine cw_ret ?_
  obtain ⟨rfl, rfl⟩ := pr2 (some_inj hF1)
  exact ret2 Tryd.results4 (v1 := .string (bstr ([] : List UInt8))) (resAt_tmp rfl) (v2 := .bool false) (resAt_tmp rfl) ⟨rfl, (ST.subR (R' := []) (hS1.sel [] rfl rfl) (fun _ h => by cases h))⟩
 ·skip
  have hF2 := cf' hF hb
  refine cw_skip ?_
  refine cw_seq ?_
  refine cw_region ?_
  obtain ⟨r_3, hc1, hF2⟩ := bind_inv hF2
  refine sc 7 rfl rfl (Yc_func (g := 7) (vs := []) k_call_7 rfl mn (c_spec_l9Words  _  (hS1.inn0 [] rfl) hc1)) ?_
  rintro _ w_1 ⟨B, c, rfl, hd1⟩
  have hS2 := hS1.out0 hd1
  refine sq 8 rfl rfl (Y_move (v := vi k_) rfl rfl) ?_
  obtain ⟨x, hx, hF2⟩ := bind_inv hF2
  refine sq 9 rfl rfl (Y_index (B := B) (m := r_3.length) (c := c) (k := .i64) (i := k_) k_sl_26_9 k_sz_9_1 rfl rfl rfl (gi_isSome encS_len rfl (hS2.cf (i := 0) rfl) hx) (getI_nn hx) (getI_ltI hx rfl)) ?_
  refine sq 10 rfl rfl (Y_load1 (B := B) (i := k_.toNat * 1) (cs := (r_3.flatMap encS)) (v := .string (bstr x)) k_sc_9 rfl rfl (hS2.cf (i := 0) rfl) (gi_at0 encS_len hx rfl)) ?_
  refine sq 2 rfl rfl (Y_assign (v := .string (bstr x)) rfl rfl) ?_
  refine sq 3 rfl rfl (Y_assign (v := .bool true) rfl rfl) ?_
  refine rw_nil ?_
  refine cw_ret ?_
  obtain ⟨rfl, rfl⟩ := pr2 (some_inj hF2)
  exact ret2 Tryd.results4 (v1 := .string (bstr x)) (resAt_tmp rfl) (v2 := .bool true) (resAt_tmp rfl) ⟨rfl, (ST.subR (R' := []) (hS2.sel [] rfl rfl) (fun _ h => by cases h))⟩

theorem c_impl_whole (n : Int)  (w0 : World)  (hS : ST w0 [] w0 [] []) {r_ : TDyadic} (hF : F_impl_whole n = some r_) :
  CV Tryd.prog 13 #[vi n] w0 (fun v w' => v = .agg #[vi r_.Num.A, vi r_.Num.B, vi r_.Num.C, vi r_.Num.D, vi r_.Exp] ∧ ST w0 [] w' [] []) := by
 unfold F_impl_whole at hF
 refine cv_of_cw 6 Tryd.func13 rfl Tryd.ntmps13 rfl ?_
 refine cw_seq ?_
 refine cw_region ?_
 refine ss 2 rfl rfl (Ys_alloc (T := 44) (cs := [vi 0, vi 0, vi 0, vi 0, vi 0]) (m := 5) hS k_zero_44 rfl rfl rfl) ?_
 rintro _ w_ ⟨b, rfl, hS1⟩
 refine rw_nil ?_
 refine cw_seq ?_
 refine cw_region ?_
 refine sq 3 rfl rfl (Y_move (v := vi n) rfl rfl) ?_
 refine sq 4 rfl rfl (Y_buildS (zs := [vi 0, vi 0, vi 0, vi 0]) (vs := [(0, vi n)]) (cs := [vi n, vi 0, vi 0, vi 0]) k_pl_42 k_zero_42 rfl (mpc rfl mpn) rfl) ?_
 refine sq 5 rfl rfl (Y_buildS (zs := [vi 0, vi 0, vi 0, vi 0, vi 0]) (vs := [(0, .agg #[vi n, vi 0, vi 0, vi 0])]) (cs := [vi n, vi 0, vi 0, vi 0, vi 0]) k_pl_44 k_zero_44 rfl (mpc rfl mpn) rfl) ?_
 refine ss0 rfl rfl (Ys_store (i := 0) (s := 5) (B := aD b) (T' := 44) (v := .agg #[vi n, vi 0, vi 0, vi 0, vi 0]) (vs := [vi n, vi 0, vi 0, vi 0, vi 0]) (k := 0) (cs' := [vi n, vi 0, vi 0, vi 0, vi 0]) hS1 k_sz_44_5 rfl rfl rfl rfl rfl rfl rfl (Nat.le_of_ble_eq_true rfl) rfl rfl) ?_
 rintro _ w_1 ⟨rfl, hS2⟩
 refine rw_nil ?_
 refine cw_ret ?_
 obtain rfl := some_inj hF
 exact ret1 Tryd.results13 (v1 := .agg #[vi n, vi 0, vi 0, vi 0, vi 0]) (resAt_cellA (B := aD b) (i := 0) (cs := [vi n, vi 0, vi 0, vi 0, vi 0]) (vs := [vi n, vi 0, vi 0, vi 0, vi 0]) rfl k_ag_44 k_sz_44_5 (hS2.cf (i := 0) rfl) rfl rfl) ⟨rfl, (ST.subR (R' := []) (hS2.sel [] rfl rfl) (fun _ h => by cases h))⟩

theorem c_impl_small (holds : Bool)  (w0 : World)  (hS : ST w0 [] w0 [] []) {r_ : Int} (hF : F_impl_small holds = some r_) :
  CV Tryd.prog 14 #[.bool holds] w0 (fun v w' => v = vi r_ ∧ ST w0 [] w' [] []) := by
 unfold F_impl_small at hF
 refine cv_of_cw 4 Tryd.func14 rfl Tryd.ntmps14 rfl ?_
 refine cw_seq ?_
 refine cw_region ?_
 refine sq 2 rfl rfl (Y_assign (v := vi 0) rfl rfl) ?_
 refine rw_nil ?_
 refine cw_seq ?_
 refine cw_seq ?_
 refine cw_region ?_
 refine sq 3 rfl rfl (Y_move (v := .bool holds) rfl rfl) ?_
 refine rw_nil ?_
 refine cw_cond (b := holds) rfl (fun hb => ?_) (fun hb => ?_)
 ·skip
  have hF1 := ct hF hb
  refine cw_seq ?_
  refine cw_region ?_
  refine sq 2 rfl rfl (Y_assign (v := vi 1) rfl rfl) ?_
  refine rw_nil ?_
  refine cw_ret ?_
  obtain rfl := some_inj hF1
  exact ret1 Tryd.results14 (v1 := vi 1) (resAt_tmp rfl) ⟨rfl, (ST.subR (R' := []) (hS.sel [] rfl rfl) (fun _ h => by cases h))⟩
 ·skip
  have hF2 := cf' hF hb
  refine cw_skip ?_
  refine cw_seq ?_
  refine cw_region ?_
  refine sq 2 rfl rfl (Y_assign (v := vi 0) rfl rfl) ?_
  refine rw_nil ?_
  refine cw_ret ?_
  obtain rfl := some_inj hF2
  exact ret1 Tryd.results14 (v1 := vi 0) (resAt_tmp rfl) ⟨rfl, (ST.subR (R' := []) (hS.sel [] rfl rfl) (fun _ h => by cases h))⟩

theorem c_impl_within (n : Int) (low : Int) (high : Int)  (w0 : World)  (hS : ST w0 [] w0 [] []) {r_ : Bool} (hF : F_impl_within n low high = some r_) :
  CV Tryd.prog 9 #[vi n, vi low, vi high] w0 (fun v w' => v = .bool r_ ∧ ST w0 [] w' [] []) := by
 unfold F_impl_within at hF
 refine cv_of_cw 15 Tryd.func9 rfl Tryd.ntmps9 rfl ?_
 refine cw_seq ?_
 refine cw_region ?_
 refine sq 6 rfl rfl (Y_assign (v := .bool false) rfl rfl) ?_
 refine rw_nil ?_
 refine cw_seq ?_
 refine cw_region ?_
 refine sq 7 rfl rfl (Y_move (v := vi low) rfl rfl) ?_
 refine sq 8 rfl rfl (Y_move (v := vi n) rfl rfl) ?_
 refine sq 9 rfl rfl (Y_le (k := .i64) (a := low) (b := n) rfl rfl rfl) ?_
 refine sq 10 rfl rfl (Y_move (v := .bool (decide (low ≤ n))) rfl rfl) ?_
 refine sgq 11 (B := (decide (low ≤ n))) (v := vi n) rfl rfl (wt_t (gd_of (t := 10) (by kernel_rfl) rfl)) (fun hg => (Y_move (v := vi n) rfl rfl)) ?_
 refine sgq 12 (B := (decide (low ≤ n))) (v := vi high) rfl rfl (wt_t (gd_of (t := 10) (by kernel_rfl) rfl)) (fun hg1 => (Y_move (v := vi high) rfl rfl)) ?_
 refine sgq 13 (B := (decide (low ≤ n))) (v := .bool (decide (n ≤ high))) rfl rfl (wt_t (gd_of (t := 10) (by kernel_rfl) rfl)) (fun hg2 => (Y_le (k := .i64) (a := n) (b := high) rfl (gv_of (B := (decide (low ≤ n))) (v := vi n) hg2) (gv_of (B := (decide (low ≤ n))) (v := vi high) hg2))) ?_
 refine sq 14 rfl rfl (Y_and (b := (decide (low ≤ n))) (z := (decide (n ≤ high))) rfl rfl rfl rfl) ?_
 refine sq 6 rfl rfl (Y_assign (v := .bool ((decide (low ≤ n)) && (decide (n ≤ high)))) rfl rfl) ?_
 refine rw_nil ?_
 refine cw_ret ?_
 obtain rfl := some_inj hF
 exact ret1 Tryd.results9 (v1 := .bool ((decide (low ≤ n)) && (decide (n ≤ high)))) (resAt_tmp rfl) ⟨rfl, (ST.subR (R' := []) (hS.sel [] rfl rfl) (fun _ h => by cases h))⟩

theorem c_impl_isTwo (kind : Int)  (w0 : World)  (hS : ST w0 [] w0 [] []) {r_ : Bool} (hF : F_impl_isTwo kind = some r_) :
  CV Tryd.prog 44 #[vi kind] w0 (fun v w' => v = .bool r_ ∧ ST w0 [] w' [] []) := by
 unfold F_impl_isTwo at hF
 refine cv_of_cw 5 Tryd.func44 rfl Tryd.ntmps44 rfl ?_
 refine cw_seq ?_
 refine cw_region ?_
 refine sq 2 rfl rfl (Y_assign (v := .bool false) rfl rfl) ?_
 refine rw_nil ?_
 refine cw_seq ?_
 refine cw_region ?_
 refine sq 3 rfl rfl (Y_move (v := vi kind) rfl rfl) ?_
 obtain ⟨r_1, hc, hF⟩ := bind_inv hF
 refine sc 4 rfl rfl (Yc_func (g := 9) (vs := [vi kind, vi 9, vi 11]) k_call_9 rfl (mc rfl (mc rfl (mc rfl mn))) (c_impl_within kind 9 11 _  (hS.inn0 [] rfl) hc)) ?_
 rintro _ w_ ⟨rfl, hd⟩
 have hS1 := hS.out00 hd
 refine sq 2 rfl rfl (Y_assign (v := .bool r_1) rfl rfl) ?_
 refine rw_nil ?_
 refine cw_ret ?_
 obtain rfl := some_inj hF
 exact ret1 Tryd.results44 (v1 := .bool r_1) (resAt_tmp rfl) ⟨rfl, (ST.subR (R' := []) (hS1.sel [] rfl rfl) (fun _ h => by cases h))⟩

theorem c_impl_IsValidGate (n : Int) (g : TGate)  (w0 : World)  (hS : ST w0 [] w0 [] []) {r_ : Bool} (hF : F_impl_IsValidGate n g = some r_) :
  CV Tryd.prog 40 #[vi n, .agg #[vi g.Kind, vi g.A, vi g.B]] w0 (fun v w' => v = .bool r_ ∧ ST w0 [] w' [] []) := by
 unfold F_impl_IsValidGate at hF
 refine cv_of_cw 60 Tryd.func40 rfl Tryd.ntmps40 rfl ?_
 refine cw_seq ?_
 refine cw_region ?_
 refine ss 3 rfl rfl (Ys_box (T := 64) (v := .agg #[vi g.Kind, vi g.A, vi g.B]) (cs := [vi g.Kind, vi g.A, vi g.B]) (m := 3) hS rfl rfl rfl rfl) ?_
 rintro _ w_ ⟨b, rfl, hS1⟩
 refine sq 4 rfl rfl (Y_assign (v := .bool false) rfl rfl) ?_
 refine rw_nil ?_
 refine cw_seq ?_
 refine cw_block ?_
 refine cw_seq ?_
 refine cw_region ?_
 refine sq 6 rfl rfl (Y_move (v := vi n) rfl rfl) ?_
 obtain ⟨r_1, hc, hF⟩ := bind_inv hF
 refine sc 7 rfl rfl (Yc_func (g := 9) (vs := [vi n, vi 1, vi 5]) k_call_9 rfl (mc rfl (mc rfl (mc rfl mn))) (c_impl_within n 1 5 _  (hS1.inn0 [] rfl) hc)) ?_
 rintro _ w_1 ⟨rfl, hd⟩
 have hS2 := hS1.out00 hd
 refine sq 8 rfl rfl (Y_not (p := r_1) rfl rfl) ?_
 refine sq 9 rfl rfl (Y_move (v := .bool (!r_1)) rfl rfl) ?_
 refine sgq 10 (B := (!(!r_1))) (v := pt (aD b) 0) rfl rfl (wt_f (gd_of (t := 9) (by kernel_rfl) rfl)) (fun hg => (Y_fieldAddr (B := aD b) (i := 0) (s := 0) k_fd_64_0_0_3 k_sz_3_1 rfl rfl)) ?_
 refine sgq 11 (B := (!(!r_1))) (v := vi g.Kind) rfl rfl (wt_f (gd_of (t := 9) (by kernel_rfl) rfl)) (fun hg1 => (Y_load1 (B := aD b) (i := 0) (cs := [vi g.Kind, vi g.A, vi g.B]) (v := vi g.Kind) k_sc_3 rfl (gv_of (B := (!(!r_1))) (v := pt (aD b) 0) hg1) (hS2.cf (i := 0) rfl) rfl)) ?_
 obtain ⟨r_2, hc1, hF⟩ := bind_inv hF
 refine sgc 12 (B := (!(!r_1))) (v := .bool r_2) (F := hS2.fn) rfl rfl (wt_f (gd_of (t := 9) (by kernel_rfl) rfl)) hS2 (fun hg2 => (Yc_func (g := 9) (vs := [vi g.Kind, vi 1, vi 12]) k_call_9 rfl (mc (gv_of (B := (!(!r_1))) (v := vi g.Kind) hg2) (mc rfl (mc rfl mn))) (CV.mono (c_impl_within g.Kind 1 12 _  (hS2.inn0 [] rfl) (gb_inv hc1 hg2)) (by rintro _ _ ⟨rfl, h⟩; exact ⟨rfl, hS2.out00 h⟩)))) ?_
 rintro w_2 hS3
 have hS3 : ST _ _ w_2 _ _ := hS3
 refine sgq 13 (B := (!(!r_1))) (v := .bool (!r_2)) rfl rfl (wt_f (gd_of (t := 9) (by kernel_rfl) rfl)) (fun hg3 => (Y_not (p := r_2) rfl (gv_of (B := (!(!r_1))) (v := .bool r_2) hg3))) ?_
 refine sq 14 rfl rfl (Y_or (b := (!r_1)) (z := (!r_2)) rfl rfl rfl rfl) ?_
 refine sq 5 rfl rfl (Y_assign (v := .bool ((!r_1) || (!r_2))) rfl rfl) ?_
 refine rw_nil ?_
 refine cw_cond (b := ((!r_1) || (!r_2))) rfl (fun hb => ?_) (fun hb => ?_)
 ·skip
  have hF1 := ct hF hb
  refine cw_seq ?_
  refine cw_region ?_
  refine sq 4 rfl rfl (Y_assign (v := .bool false) rfl rfl) ?_
  refine rw_nil ?_
  refine cw_ret ?_
  obtain rfl := some_inj hF1
  exact ret1 Tryd.results40 (v1 := .bool false) (resAt_tmp rfl) ⟨rfl, (ST.subR (R' := []) (hS3.sel [] rfl rfl) (fun _ h => by cases h))⟩
 ·skip
  have hF2 := cf' hF hb
  refine cw_seq ?_
  refine cw_region ?_
  refine sq 16 rfl rfl (Y_fieldAddr (B := aD b) (i := 0) (s := 0) k_fd_64_0_0_3 k_sz_3_1 rfl rfl) ?_
  refine sq 17 rfl rfl (Y_load1 (B := aD b) (i := 0) (cs := [vi g.Kind, vi g.A, vi g.B]) (v := vi g.Kind) k_sc_3 rfl rfl (hS3.cf (i := 0) rfl) rfl) ?_
  refine sq 18 rfl rfl (Y_eq (k := .i64) (a := g.Kind) (b := 12) rfl rfl rfl) ?_
  refine sq 15 rfl rfl (Y_assign (v := .bool (g.Kind == 12)) rfl rfl) ?_
  refine rw_nil ?_
  refine cw_cond (b := (g.Kind == 12)) rfl (fun hb1 => ?_) (fun hb1 => ?_)
  ·skip
   have hF3 := ct hF2 hb1
   refine cw_seq ?_
   refine cw_region ?_
   refine sq 19 rfl rfl (Y_fieldAddr (B := aD b) (i := 0) (s := 0) k_fd_64_1_1_3 k_sz_3_1 rfl rfl) ?_
   refine sq 20 rfl rfl (Y_load1 (B := aD b) (i := 1) (cs := [vi g.Kind, vi g.A, vi g.B]) (v := vi g.A) k_sc_3 rfl rfl (hS3.cf (i := 0) rfl) rfl) ?_
   refine sq 21 rfl rfl (Y_eq (k := .i64) (a := g.A) (b := 0) rfl rfl rfl) ?_
   refine sq 22 rfl rfl (Y_move (v := .bool (g.A == 0)) rfl rfl) ?_
   refine sgq 23 (B := (g.A == 0)) (v := pt (aD b) 2) rfl rfl (wt_t (gd_of (t := 22) (by kernel_rfl) rfl)) (fun hg4 => (Y_fieldAddr (B := aD b) (i := 0) (s := 0) k_fd_64_2_2_3 k_sz_3_1 rfl rfl)) ?_
   refine sgq 24 (B := (g.A == 0)) (v := vi g.B) rfl rfl (wt_t (gd_of (t := 22) (by kernel_rfl) rfl)) (fun hg5 => (Y_load1 (B := aD b) (i := 2) (cs := [vi g.Kind, vi g.A, vi g.B]) (v := vi g.B) k_sc_3 rfl (gv_of (B := (g.A == 0)) (v := pt (aD b) 2) hg5) (hS3.cf (i := 0) rfl) rfl)) ?_
   refine sgq 25 (B := (g.A == 0)) (v := .bool (g.B == 0)) rfl rfl (wt_t (gd_of (t := 22) (by kernel_rfl) rfl)) (fun hg6 => (Y_eq (k := .i64) (a := g.B) (b := 0) rfl (gv_of (B := (g.A == 0)) (v := vi g.B) hg6) rfl)) ?_
   refine sq 26 rfl rfl (Y_and (b := (g.A == 0)) (z := (g.B == 0)) rfl rfl rfl rfl) ?_
   refine sq 4 rfl rfl (Y_assign (v := .bool ((g.A == 0) && (g.B == 0))) rfl rfl) ?_
   refine rw_nil ?_
   refine cw_ret ?_
   obtain rfl := some_inj hF3
   exact ret1 Tryd.results40 (v1 := .bool ((g.A == 0) && (g.B == 0))) (resAt_tmp rfl) ⟨rfl, (ST.subR (R' := []) (hS3.sel [] rfl rfl) (fun _ h => by cases h))⟩
  ·skip
   have hF4 := cf' hF2 hb1
   refine cw_seq ?_
   refine cw_region ?_
   refine sq 28 rfl rfl (Y_fieldAddr (B := aD b) (i := 0) (s := 0) k_fd_64_0_0_3 k_sz_3_1 rfl rfl) ?_
   refine sq 29 rfl rfl (Y_load1 (B := aD b) (i := 0) (cs := [vi g.Kind, vi g.A, vi g.B]) (v := vi g.Kind) k_sc_3 rfl rfl (hS3.cf (i := 0) rfl) rfl) ?_
   obtain ⟨r_3, hc2, hF4⟩ := bind_inv hF4
   refine sc 30 rfl rfl (Yc_func (g := 44) (vs := [vi g.Kind]) k_call_44 rfl (mc rfl mn) (c_impl_isTwo g.Kind _  (hS3.inn0 [] rfl) hc2)) ?_
   rintro _ w_3 ⟨rfl, hd1⟩
   have hS4 := hS3.out00 hd1
   refine sq 27 rfl rfl (Y_assign (v := .bool r_3) rfl rfl) ?_
   refine rw_nil ?_
   refine cw_cond (b := r_3) rfl (fun hb2 => ?_) (fun hb2 => ?_)
   ·skip
    have hF5 := ct hF4 hb2
    refine cw_seq ?_
    refine cw_region ?_
    refine sq 31 rfl rfl (Y_fieldAddr (B := aD b) (i := 0) (s := 0) k_fd_64_1_1_3 k_sz_3_1 rfl rfl) ?_
    refine sq 32 rfl rfl (Y_load1 (B := aD b) (i := 1) (cs := [vi g.Kind, vi g.A, vi g.B]) (v := vi g.A) k_sc_3 rfl rfl (hS4.cf (i := 0) rfl) rfl) ?_
    refine sq 33 rfl rfl (Y_move (v := vi n) rfl rfl) ?_
    refine sq 34 rfl rfl (Y_sub (k := .i64) (a := n) (b := 1) rfl rfl rfl) ?_
    obtain ⟨r_4, hc3, hF5⟩ := bind_inv hF5
    refine sc 35 rfl rfl (Yc_func (g := 9) (vs := [vi g.A, vi 0, vi (i64.wrap (n - 1))]) k_call_9 rfl (mc rfl (mc rfl (mc rfl mn))) (c_impl_within g.A 0 (i64.wrap (n - 1)) _  (hS4.inn0 [] rfl) hc3)) ?_
    rintro _ w_4 ⟨rfl, hd2⟩
    have hS5 := hS4.out00 hd2
    refine sq 36 rfl rfl (Y_move (v := .bool r_4) rfl rfl) ?_
    refine sgq 37 (B := r_4) (v := pt (aD b) 2) rfl rfl (wt_t (gd_of (t := 36) (by kernel_rfl) rfl)) (fun hg7 => (Y_fieldAddr (B := aD b) (i := 0) (s := 0) k_fd_64_2_2_3 k_sz_3_1 rfl rfl)) ?_
    refine sgq 38 (B := r_4) (v := vi g.B) rfl rfl (wt_t (gd_of (t := 36) (by kernel_rfl) rfl)) (fun hg8 => (Y_load1 (B := aD b) (i := 2) (cs := [vi g.Kind, vi g.A, vi g.B]) (v := vi g.B) k_sc_3 rfl (gv_of (B := r_4) (v := pt (aD b) 2) hg8) (hS5.cf (i := 0) rfl) rfl)) ?_
    refine sgq 39 (B := r_4) (v := vi n) rfl rfl (wt_t (gd_of (t := 36) (by kernel_rfl) rfl)) (fun hg9 => (Y_move (v := vi n) rfl rfl)) ?_
    refine sgq 40 (B := r_4) (v := vi (i64.wrap (n - 1))) rfl rfl (wt_t (gd_of (t := 36) (by kernel_rfl) rfl)) (fun hg10 => (Y_sub (k := .i64) (a := n) (b := 1) rfl (gv_of (B := r_4) (v := vi n) hg10) rfl)) ?_
    obtain ⟨r_5, hc4, hF5⟩ := bind_inv hF5
    refine sgc 41 (B := r_4) (v := .bool r_5) (F := hS5.fn) rfl rfl (wt_t (gd_of (t := 36) (by kernel_rfl) rfl)) hS5 (fun hg11 => (Yc_func (g := 9) (vs := [vi g.B, vi 0, vi (i64.wrap (n - 1))]) k_call_9 rfl (mc (gv_of (B := r_4) (v := vi g.B) hg11) (mc rfl (mc (gv_of (B := r_4) (v := vi (i64.wrap (n - 1))) hg11) mn))) (CV.mono (c_impl_within g.B 0 (i64.wrap (n - 1)) _  (hS5.inn0 [] rfl) (gb_inv hc4 hg11)) (by rintro _ _ ⟨rfl, h⟩; exact ⟨rfl, hS5.out00 h⟩)))) ?_
    rintro w_5 hS6
    have hS6 : ST _ _ w_5 _ _ := hS6
    refine sq 42 rfl rfl (Y_and (b := r_4) (z := r_5) rfl rfl rfl rfl) ?_
    refine sq 43 rfl rfl (Y_move (v := .bool (r_4 && r_5)) rfl rfl) ?_
    refine sgq 44 (B := (r_4 && r_5)) (v := pt (aD b) 1) rfl rfl (wt_t (gd_of (t := 43) (by kernel_rfl) rfl)) (fun hg12 => (Y_fieldAddr (B := aD b) (i := 0) (s := 0) k_fd_64_1_1_3 k_sz_3_1 rfl rfl)) ?_
    refine sgq 45 (B := (r_4 && r_5)) (v := vi g.A) rfl rfl (wt_t (gd_of (t := 43) (by kernel_rfl) rfl)) (fun hg13 => (Y_load1 (B := aD b) (i := 1) (cs := [vi g.Kind, vi g.A, vi g.B]) (v := vi g.A) k_sc_3 rfl (gv_of (B := (r_4 && r_5)) (v := pt (aD b) 1) hg13) (hS6.cf (i := 0) rfl) rfl)) ?_
    refine sgq 46 (B := (r_4 && r_5)) (v := pt (aD b) 2) rfl rfl (wt_t (gd_of (t := 43) (by kernel_rfl) rfl)) (fun hg14 => (Y_fieldAddr (B := aD b) (i := 0) (s := 0) k_fd_64_2_2_3 k_sz_3_1 rfl rfl)) ?_
    refine sgq 47 (B := (r_4 && r_5)) (v := vi g.B) rfl rfl (wt_t (gd_of (t := 43) (by kernel_rfl) rfl)) (fun hg15 => (Y_load1 (B := aD b) (i := 2) (cs := [vi g.Kind, vi g.A, vi g.B]) (v := vi g.B) k_sc_3 rfl (gv_of (B := (r_4 && r_5)) (v := pt (aD b) 2) hg15) (hS6.cf (i := 0) rfl) rfl)) ?_
    refine sgq 48 (B := (r_4 && r_5)) (v := .bool (g.A != g.B)) rfl rfl (wt_t (gd_of (t := 43) (by kernel_rfl) rfl)) (fun hg16 => (Y_ne (k := .i64) (a := g.A) (b := g.B) rfl (gv_of (B := (r_4 && r_5)) (v := vi g.A) hg16) (gv_of (B := (r_4 && r_5)) (v := vi g.B) hg16))) ?_
    refine sq 49 rfl rfl (Y_and (b := (r_4 && r_5)) (z := (g.A != g.B)) rfl rfl rfl rfl) ?_
    refine sq 4 rfl rfl (Y_assign (v := .bool ((r_4 && r_5) && (g.A != g.B))) rfl rfl) ?_
    refine rw_nil ?_
    refine cw_ret ?_
    obtain rfl := some_inj hF5
    exact ret1 Tryd.results40 (v1 := .bool ((r_4 && r_5) && (g.A != g.B))) (resAt_tmp rfl) ⟨rfl, (ST.subR (R' := []) (hS6.sel [] rfl rfl) (fun _ h => by cases h))⟩
   ·skip
    have hF6 := cf' hF4 hb2
    refine cw_skip ?_
    refine cw_seq ?_
    refine cw_region ?_
    refine sq 50 rfl rfl (Y_fieldAddr (B := aD b) (i := 0) (s := 0) k_fd_64_1_1_3 k_sz_3_1 rfl rfl) ?_
    refine sq 51 rfl rfl (Y_load1 (B := aD b) (i := 1) (cs := [vi g.Kind, vi g.A, vi g.B]) (v := vi g.A) k_sc_3 rfl rfl (hS4.cf (i := 0) rfl) rfl) ?_
    refine sq 52 rfl rfl (Y_move (v := vi n) rfl rfl) ?_
    refine sq 53 rfl rfl (Y_sub (k := .i64) (a := n) (b := 1) rfl rfl rfl) ?_
    obtain ⟨r_6, hc5, hF6⟩ := bind_inv hF6
    refine sc 54 rfl rfl (Yc_func (g := 9) (vs := [vi g.A, vi 0, vi (i64.wrap (n - 1))]) k_call_9 rfl (mc rfl (mc rfl (mc rfl mn))) (c_impl_within g.A 0 (i64.wrap (n - 1)) _  (hS4.inn0 [] rfl) hc5)) ?_
    rintro _ w_6 ⟨rfl, hd3⟩
    have hS7 := hS4.out00 hd3
    refine sq 55 rfl rfl (Y_move (v := .bool r_6) rfl rfl) ?_
    refine sgq 56 (B := r_6) (v := pt (aD b) 2) rfl rfl (wt_t (gd_of (t := 55) (by kernel_rfl) rfl)) (fun hg17 => (Y_fieldAddr (B := aD b) (i := 0) (s := 0) k_fd_64_2_2_3 k_sz_3_1 rfl rfl)) ?_
    refine sgq 57 (B := r_6) (v := vi g.B) rfl rfl (wt_t (gd_of (t := 55) (by kernel_rfl) rfl)) (fun hg18 => (Y_load1 (B := aD b) (i := 2) (cs := [vi g.Kind, vi g.A, vi g.B]) (v := vi g.B) k_sc_3 rfl (gv_of (B := r_6) (v := pt (aD b) 2) hg18) (hS7.cf (i := 0) rfl) rfl)) ?_
    refine sgq 58 (B := r_6) (v := .bool (g.B == 0)) rfl rfl (wt_t (gd_of (t := 55) (by kernel_rfl) rfl)) (fun hg19 => (Y_eq (k := .i64) (a := g.B) (b := 0) rfl (gv_of (B := r_6) (v := vi g.B) hg19) rfl)) ?_
    refine sq 59 rfl rfl (Y_and (b := r_6) (z := (g.B == 0)) rfl rfl rfl rfl) ?_
    refine sq 4 rfl rfl (Y_assign (v := .bool (r_6 && (g.B == 0))) rfl rfl) ?_
    refine rw_nil ?_
    refine cw_ret ?_
    obtain rfl := some_inj hF6
    exact ret1 Tryd.results40 (v1 := .bool (r_6 && (g.B == 0))) (resAt_tmp rfl) ⟨rfl, (ST.subR (R' := []) (hS7.sel [] rfl rfl) (fun _ h => by cases h))⟩

theorem c_impl_isDim (n : Int)  (w0 : World)  (hS : ST w0 [] w0 [] []) {r_ : Bool} (hF : F_impl_isDim n = some r_) :
  CV Tryd.prog 64 #[vi n] w0 (fun v w' => v = .bool r_ ∧ ST w0 [] w' [] []) := by
 unfold F_impl_isDim at hF
 refine cv_of_cw 12 Tryd.func64 rfl Tryd.ntmps64 rfl ?_
 refine cw_seq ?_
 refine cw_region ?_
 refine sq 2 rfl rfl (Y_assign (v := .bool false) rfl rfl) ?_
 refine rw_nil ?_
 refine cw_seq ?_
 refine cw_region ?_
 refine sq 3 rfl rfl (Y_move (v := vi n) rfl rfl) ?_
 obtain ⟨r_1, hc, hF⟩ := bind_inv hF
 refine sc 4 rfl rfl (Yc_func (g := 9) (vs := [vi n, vi 1, vi 32]) k_call_9 rfl (mc rfl (mc rfl (mc rfl mn))) (c_impl_within n 1 32 _  (hS.inn0 [] rfl) hc)) ?_
 rintro _ w_ ⟨rfl, hd⟩
 have hS1 := hS.out00 hd
 refine sq 5 rfl rfl (Y_move (v := .bool r_1) rfl rfl) ?_
 refine sgq 6 (B := r_1) (v := vi n) rfl rfl (wt_t (gd_of (t := 5) (by kernel_rfl) rfl)) (fun hg => (Y_move (v := vi n) rfl rfl)) ?_
 refine sgq 7 (B := r_1) (v := vi n) rfl rfl (wt_t (gd_of (t := 5) (by kernel_rfl) rfl)) (fun hg1 => (Y_move (v := vi n) rfl rfl)) ?_
 refine sgq 8 (B := r_1) (v := vi (i64.wrap (n - 1))) rfl rfl (wt_t (gd_of (t := 5) (by kernel_rfl) rfl)) (fun hg2 => (Y_sub (k := .i64) (a := n) (b := 1) rfl (gv_of (B := r_1) (v := vi n) hg2) rfl)) ?_
 refine sgq 9 (B := r_1) (v := vi (bits .and .i64 n (i64.wrap (n - 1)))) rfl rfl (wt_t (gd_of (t := 5) (by kernel_rfl) rfl)) (fun hg3 => (Y_band (k := .i64) (a := n) (b := (i64.wrap (n - 1))) rfl (gv_of (B := r_1) (v := vi n) hg3) (gv_of (B := r_1) (v := vi (i64.wrap (n - 1))) hg3))) ?_
 refine sgq 10 (B := r_1) (v := .bool ((bits .and .i64 n (i64.wrap (n - 1))) == 0)) rfl rfl (wt_t (gd_of (t := 5) (by kernel_rfl) rfl)) (fun hg4 => (Y_eq (k := .i64) (a := (bits .and .i64 n (i64.wrap (n - 1)))) (b := 0) rfl (gv_of (B := r_1) (v := vi (bits .and .i64 n (i64.wrap (n - 1)))) hg4) rfl)) ?_
 refine sq 11 rfl rfl (Y_and (b := r_1) (z := ((bits .and .i64 n (i64.wrap (n - 1))) == 0)) rfl rfl rfl rfl) ?_
 refine sq 2 rfl rfl (Y_assign (v := .bool (r_1 && ((bits .and .i64 n (i64.wrap (n - 1))) == 0))) rfl rfl) ?_
 refine rw_nil ?_
 refine cw_ret ?_
 obtain rfl := some_inj hF
 exact ret1 Tryd.results64 (v1 := .bool (r_1 && ((bits .and .i64 n (i64.wrap (n - 1))) == 0))) (resAt_tmp rfl) ⟨rfl, (ST.subR (R' := []) (hS1.sel [] rfl rfl) (fun _ h => by cases h))⟩

theorem c_impl_matrixOf (rows : Int) (cols : Int) (cell : Int → Int → Option (TDyadic × Bool)) (kf : Nat) (caps : Array Value) (Rf : List Ro) (w0 : World) (hk : callB Tryd.prog kf = true) (hp : ∀ (w : World), ST w [] w [] Rf → ∀ (x : Int) (x1 : Int) (y1 : TDyadic) (y2 : Bool), cell x x1 = some (y1, y2) → CV Tryd.prog kf ((vi x) :: (vi x1) :: caps.toList).toArray w (fun v w' => v = .tuple #[.agg #[vi y1.Num.A, vi y1.Num.B, vi y1.Num.C, vi y1.Num.D, vi y1.Exp], .bool y2] ∧ ST w [] w' [] [])) (hS : ST w0 [] w0 [] (Rf)) {r_ : TMatrix} {r_1 : Bool} (hF : F_impl_matrixOf rows cols cell = some (r_, r_1)) :
  CV Tryd.prog 41 #[vi rows, vi cols, .func (.func kf) #[] caps] w0 (fun v w' => ∃ (B : Option Addr) (c : Nat), v = .tuple #[.agg #[vi r_.Rows, vi r_.Cols, .slice B r_.Cells.length c], .bool r_1] ∧ ST w0 [] w' [⟨B, 44, (r_.Cells.flatMap eN0), c * 5⟩] []) := by
 unfold F_impl_matrixOf at hF
 refine cv_of_cw 52 Tryd.func41 rfl Tryd.ntmps41 rfl ?_
 refine cw_seq ?_
 refine cw_region ?_
 refine ss 6 rfl rfl (Ys_alloc (T := 38) (cs := [vi 0, vi 0, .slice none 0 0]) (m := 3) hS k_zero_38 rfl rfl rfl) ?_
 rintro _ w_ ⟨b, rfl, hS1⟩
 refine sq 7 rfl rfl (Y_assign (v := .bool false) rfl rfl) ?_
 refine rw_nil ?_
 refine cw_seq ?_
 refine cw_region ?_
 refine sq 13 rfl rfl (Y_move (v := vi rows) rfl rfl) ?_
 refine sq 14 rfl rfl (Y_move (v := vi cols) rfl rfl) ?_
 refine sq 15 rfl rfl (Y_buildS (zs := [vi 0, vi 0, .slice none 0 0]) (vs := [(0, vi rows), (1, vi cols)]) (cs := [vi rows, vi cols, .slice none 0 0]) k_pl_38 k_zero_38 rfl (mpc rfl (mpc rfl mpn)) rfl) ?_
 refine ss 8 rfl rfl (Ys_alloc (T := 38) (cs := [vi 0, vi 0, .slice none 0 0]) (m := 3) hS1 k_zero_38 rfl rfl rfl) ?_
 rintro _ w_1 ⟨b1, rfl, hS2⟩
 have hS2 : ST w0 [] _ [⟨aD b, 38, [vi 0, vi 0, .slice none 0 0], 3⟩, ⟨aD b1, 38, [vi 0, vi 0, .slice none 0 0], 3⟩] (Rf) := hS2
 refine ss0 rfl rfl (Ys_store (i := 1) (s := 3) (B := aD b1) (T' := 38) (v := .agg #[vi rows, vi cols, .slice none 0 0]) (vs := [vi rows, vi cols, .slice none 0 0]) (k := 0) (cs' := [vi rows, vi cols, .slice none 0 0]) hS2 k_sz_38_3 rfl rfl rfl rfl rfl rfl rfl (Nat.le_of_ble_eq_true rfl) rfl rfl) ?_
 rintro _ w_2 ⟨rfl, hS3⟩
 have hS3 : ST w0 [] _ [⟨aD b, 38, [vi 0, vi 0, .slice none 0 0], 3⟩, ⟨aD b1, 38, [vi rows, vi cols, .slice none 0 0], 3⟩] (Rf) := hS3
 refine rw_nil ?_
 refine cw_seq ?_
 refine cw_seq ?_
 refine cw_region ?_
 refine sq 16 rfl rfl (Y_move (v := vi rows) rfl rfl) ?_
 obtain ⟨r_2, hc, hF⟩ := bind_inv hF
 refine sc 17 rfl rfl (Yc_func (g := 64) (vs := [vi rows]) k_call_64 rfl (mc rfl mn) (c_impl_isDim rows _  (hS3.inn0 [] rfl) hc)) ?_
 rintro _ w_3 ⟨rfl, hd⟩
 have hS4 := hS3.out00 hd
 have hS4 : ST w0 [] _ [⟨aD b, 38, [vi 0, vi 0, .slice none 0 0], 3⟩, ⟨aD b1, 38, [vi rows, vi cols, .slice none 0 0], 3⟩] (Rf) := hS4
 refine sq 18 rfl rfl (Y_not (p := r_2) rfl rfl) ?_
 refine sq 19 rfl rfl (Y_move (v := .bool (!r_2)) rfl rfl) ?_
 refine sgq 20 (B := (!(!r_2))) (v := vi cols) rfl rfl (wt_f (gd_of (t := 19) (by kernel_rfl) rfl)) (fun hg => (Y_move (v := vi cols) rfl rfl)) ?_
 obtain ⟨r_3, hc1, hF⟩ := bind_inv hF
 refine sgc 21 (B := (!(!r_2))) (v := .bool r_3) (F := hS4.fn) rfl rfl (wt_f (gd_of (t := 19) (by kernel_rfl) rfl)) hS4 (fun hg1 => (Yc_func (g := 64) (vs := [vi cols]) k_call_64 rfl (mc (gv_of (B := (!(!r_2))) (v := vi cols) hg1) mn) (CV.mono (c_impl_isDim cols _  (hS4.inn0 [] rfl) (gb_inv hc1 hg1)) (by rintro _ _ ⟨rfl, h⟩; exact ⟨rfl, hS4.out00 h⟩)))) ?_
 rintro w_4 hS5
 have hS5 : ST _ _ w_4 _ _ := hS5
 refine sgq 22 (B := (!(!r_2))) (v := .bool (!r_3)) rfl rfl (wt_f (gd_of (t := 19) (by kernel_rfl) rfl)) (fun hg2 => (Y_not (p := r_3) rfl (gv_of (B := (!(!r_2))) (v := .bool r_3) hg2))) ?_
 refine sq 23 rfl rfl (Y_or (b := (!r_2)) (z := (!r_3)) rfl rfl rfl rfl) ?_
 refine rw_nil ?_
 refine cw_cond (b := ((!r_2) || (!r_3))) rfl (fun hb => ?_) (fun hb => ?_)
 ·skip
  have hF1 := ct hF hb
  refine cw_seq ?_
  refine cw_region ?_
  refine sq 24 rfl rfl (Y_buildS (zs := [vi 0, vi 0, .slice none 0 0]) (vs := []) (cs := [vi 0, vi 0, .slice none 0 0]) k_pl_38 k_zero_38 rfl mpn rfl) ?_
  refine ss0 rfl rfl (Ys_store (i := 0) (s := 3) (B := aD b) (T' := 38) (v := .agg #[vi 0, vi 0, .slice none 0 0]) (vs := [vi 0, vi 0, .slice none 0 0]) (k := 0) (cs' := [vi 0, vi 0, .slice none 0 0]) hS5 k_sz_38_3 rfl rfl rfl rfl rfl rfl rfl (Nat.le_of_ble_eq_true rfl) rfl rfl) ?_
  rintro _ w_5 ⟨rfl, hS6⟩
  have hS6 : ST w0 [] _ [⟨aD b, 38, [vi 0, vi 0, .slice none 0 0], 3⟩, ⟨aD b1, 38, [vi rows, vi cols, .slice none 0 0], 3⟩] (Rf) := hS6
  refine sq 7 rfl rfl (Y_assign (v := .bool false) rfl rfl) ?_
  refine rw_nil ?_
  refine cw_ret ?_
  have hS7 := hS6.addNil 44
  obtain ⟨rfl, rfl⟩ := pr2 (some_inj hF1)
  exact ret2 Tryd.results41 (v1 := .agg #[vi 0, vi 0, .slice none 0 0]) (resAt_cellA (B := aD b) (i := 0) (cs := [vi 0, vi 0, .slice none 0 0]) (vs := [vi 0, vi 0, .slice none 0 0]) rfl k_ag_38 k_sz_38_3 (hS7.cf (i := 0) rfl) rfl rfl) (v2 := .bool false) (resAt_tmp rfl) ⟨none, 0, rfl, (ST.subR (R' := []) (hS7.sel [2] rfl rfl) (fun _ h => by cases h))⟩
 ·skip
  have hF2 := cf' hF hb
  refine cw_skip ?_
  refine cw_seq ?_
  refine cw_seq ?_
  refine cw_region ?_
  refine sq 25 rfl rfl (Y_move (v := vi rows) rfl rfl) ?_
  refine sq 26 rfl rfl (Y_move (v := vi 0) rfl rfl) ?_
  refine rw_nil ?_
  obtain ⟨hN, hF2⟩ := chk_inv hF2
  obtain ⟨z, hz, hF3⟩ := bind_inv hF2
  have hS9 := hS5.addNil 44
  refine cw_block ?_
  refine cw_loop (fun k f w => ∃ (i : Nat) (Cells : List TDyadic) (B1 : Option Addr) (c1 : Nat), FF f [(1, vi cols), (2, .func (.func kf) #[] caps), (6, pt (aD b) 0), (8, pt (aD b1) 0), (25, vi rows), (26, vi (i : Int))] ∧ ST w0 [] w [⟨aD b, 38, [vi 0, vi 0, .slice none 0 0], 3⟩, ⟨aD b1, 38, [vi rows, vi cols, .slice B1 Cells.length c1], 3⟩, ⟨B1, 44, (Cells.flatMap eN0), c1 * 5⟩] (Rf) ∧ i + k = rows.toNat ∧ forX (F_impl_matrixOf_l1 cols cell) k i Cells = some z) rows.toNat ⟨0, [], none, 0, (FF.cons rfl (FF.cons rfl (FF.cons rfl (FF.cons rfl (FF.cons rfl (FF.cons rfl FF.nil)))))), (hS9.sel [0, 1, 2] rfl rfl), Nat.zero_add _, hz⟩ ?_
  rintro k_ f w ⟨i, Cells, B1, c1, hf, hS8, hik, hL⟩
  refine cw_seq ?_
  refine cw_region ?_
  refine sq 27 rfl rfl (Y_lt (k := .i64) (a := (i : Int)) (b := rows) rfl (hf.get 26 5 rfl) (hf.get 25 4 rfl)) ?_
  refine rw_nil ?_
  refine cw_seq ?_
  refine cw_cond (b := (decide ((i : Int) < rows))) rfl (fun hlt => ?_) (fun hlt => ?_)
  ·skip
   have hlt1 : i < rows.toNat := by have h := of_decide_eq_true hlt; omega
   obtain ⟨k_1, rfl⟩ : ∃ k2, k_ = k2 + 1 := ⟨k_ - 1, by omega⟩
   obtain ⟨y3, hb1, hL1⟩ := forX_go hL
   unfold F_impl_matrixOf_l1 at hb1
   refine cw_skip ?_
   refine cw_seq ?_
   refine cw_block ?_
   refine cw_seq ?_
   refine cw_region ?_
   refine sq 28 rfl rfl (Y_move (v := vi (i : Int)) rfl (hf.get 26 5 rfl)) ?_
   refine sq 9 rfl rfl (Y_assign (v := vi (i : Int)) rfl rfl) ?_
   refine rw_nil ?_
   refine cw_seq ?_
   refine cw_region ?_
   refine sq 29 rfl rfl (Y_move (v := vi cols) rfl (hf.get 1 0 rfl)) ?_
   refine sq 30 rfl rfl (Y_move (v := vi 0) rfl rfl) ?_
   refine rw_nil ?_
   obtain ⟨hN1, hb1⟩ := chk_inv hb1
   obtain ⟨z1, hz1, hF4⟩ := bind_inv hb1
   refine cw_block ?_
   refine cw_loop (fun k f w => ∃ (i1 : Nat) (Cells1 : List TDyadic) (B2 : Option Addr) (c2 : Nat), FF f [(1, vi cols), (2, .func (.func kf) #[] caps), (6, pt (aD b) 0), (8, pt (aD b1) 0), (9, vi (i : Int)), (25, vi rows), (26, vi (i : Int)), (29, vi cols), (30, vi (i1 : Int))] ∧ ST w0 [] w [⟨aD b, 38, [vi 0, vi 0, .slice none 0 0], 3⟩, ⟨aD b1, 38, [vi rows, vi cols, .slice B2 Cells1.length c2], 3⟩, ⟨B2, 44, (Cells1.flatMap eN0), c2 * 5⟩] (Rf) ∧ i1 + k = cols.toNat ∧ forX (F_impl_matrixOf_l2 cell i) k i1 Cells1 = some z1) cols.toNat ⟨0, Cells, B1, c1, (FF.cons (hf.get 1 0 rfl) (FF.cons (hf.get 2 1 rfl) (FF.cons (hf.get 6 2 rfl) (FF.cons (hf.get 8 3 rfl) (FF.cons rfl (FF.cons (hf.get 25 4 rfl) (FF.cons (hf.get 26 5 rfl) (FF.cons rfl (FF.cons rfl FF.nil))))))))), (hS8.sel [0, 1, 2] rfl rfl), Nat.zero_add _, hz1⟩ ?_
   rintro k_2 f w ⟨i1, Cells1, B2, c2, hf1, hS10, hik1, hL2⟩
   refine cw_seq ?_
   refine cw_region ?_
   refine sq 31 rfl rfl (Y_lt (k := .i64) (a := (i1 : Int)) (b := cols) rfl (hf1.get 30 8 rfl) (hf1.get 29 7 rfl)) ?_
   refine rw_nil ?_
   refine cw_seq ?_
   refine cw_cond (b := (decide ((i1 : Int) < cols))) rfl (fun hlt2 => ?_) (fun hlt2 => ?_)
   ·skip
    have hlt3 : i1 < cols.toNat := by have h := of_decide_eq_true hlt2; omega
    obtain ⟨k_3, rfl⟩ : ∃ k2, k_2 = k2 + 1 := ⟨k_2 - 1, by omega⟩
    obtain ⟨y4, hb2, hL3⟩ := forX_go hL2
    unfold F_impl_matrixOf_l2 at hb2
    refine cw_skip ?_
    refine cw_seq ?_
    refine cw_block ?_
    refine cw_seq ?_
    refine cw_region ?_
    refine sq 32 rfl rfl (Y_move (v := vi (i1 : Int)) rfl (hf1.get 30 8 rfl)) ?_
    refine sq 10 rfl rfl (Y_assign (v := vi (i1 : Int)) rfl rfl) ?_
    refine rw_nil ?_
    refine cw_seq ?_
    refine cw_region ?_
    refine sq 34 rfl rfl (Y_move (v := .func (.func kf) #[] caps) rfl (hf1.get 2 1 rfl)) ?_
    refine sq 35 rfl rfl (Y_move (v := vi (i : Int)) rfl (hf1.get 9 4 rfl)) ?_
    refine sq 36 rfl rfl (Y_move (v := vi (i1 : Int)) rfl rfl) ?_
    obtain ⟨⟨r_4, r_5⟩, hc2, hb2⟩ := bind_inv hb2
    refine sc 37 rfl rfl (Yc_clos (g := kf) (vs := (vi (i : Int)) :: (vi (i1 : Int)) :: caps.toList) hk rfl rfl (clo_args (mc rfl (mc rfl mn))) (hp _ (hS10.innS (fun _ h => List.mem_of_mem_drop (i := 0) h)) (i : Int) (i1 : Int) r_4 r_5 hc2)) ?_
    rintro _ w_6 ⟨rfl, hd1⟩
    have hS11 := hS10.out00 hd1
    have hS11 : ST w0 [] _ [⟨aD b, 38, [vi 0, vi 0, .slice none 0 0], 3⟩, ⟨aD b1, 38, [vi rows, vi cols, .slice B2 Cells1.length c2], 3⟩, ⟨B2, 44, (Cells1.flatMap eN0), c2 * 5⟩] (Rf) := hS11
    refine sq 33 rfl rfl (Y_move (v := .tuple #[.agg #[vi r_4.Num.A, vi r_4.Num.B, vi r_4.Num.C, vi r_4.Num.D, vi r_4.Exp], .bool r_5]) rfl rfl) ?_
    refine sq 38 rfl rfl (Y_extract (v := .agg #[vi r_4.Num.A, vi r_4.Num.B, vi r_4.Num.C, vi r_4.Num.D, vi r_4.Exp]) rfl rfl rfl) ?_
    refine sq 39 rfl rfl (Y_extract (v := .bool r_5) rfl rfl rfl) ?_
    refine ss 11 rfl rfl (Ys_alloc (T := 44) (cs := [vi 0, vi 0, vi 0, vi 0, vi 0]) (m := 5) hS11 k_zero_44 rfl rfl rfl) ?_
    rintro _ w_7 ⟨b2, rfl, hS12⟩
    have hS12 : ST w0 [] _ [⟨aD b, 38, [vi 0, vi 0, .slice none 0 0], 3⟩, ⟨aD b1, 38, [vi rows, vi cols, .slice B2 Cells1.length c2], 3⟩, ⟨B2, 44, (Cells1.flatMap eN0), c2 * 5⟩, ⟨aD b2, 44, [vi 0, vi 0, vi 0, vi 0, vi 0], 5⟩] (Rf) := hS12
    refine ss0 rfl rfl (Ys_store (i := 3) (s := 5) (B := aD b2) (T' := 44) (v := .agg #[vi r_4.Num.A, vi r_4.Num.B, vi r_4.Num.C, vi r_4.Num.D, vi r_4.Exp]) (vs := [vi r_4.Num.A, vi r_4.Num.B, vi r_4.Num.C, vi r_4.Num.D, vi r_4.Exp]) (k := 0) (cs' := [vi r_4.Num.A, vi r_4.Num.B, vi r_4.Num.C, vi r_4.Num.D, vi r_4.Exp]) hS12 k_sz_44_5 rfl rfl rfl rfl rfl rfl rfl (Nat.le_of_ble_eq_true rfl) rfl rfl) ?_
    rintro _ w_8 ⟨rfl, hS13⟩
    have hS13 : ST w0 [] _ [⟨aD b, 38, [vi 0, vi 0, .slice none 0 0], 3⟩, ⟨aD b1, 38, [vi rows, vi cols, .slice B2 Cells1.length c2], 3⟩, ⟨B2, 44, (Cells1.flatMap eN0), c2 * 5⟩, ⟨aD b2, 44, [vi r_4.Num.A, vi r_4.Num.B, vi r_4.Num.C, vi r_4.Num.D, vi r_4.Exp], 5⟩] (Rf) := hS13
    refine sq 12 rfl rfl (Y_assign (v := .bool r_5) rfl rfl) ?_
    refine rw_nil ?_
    refine cw_seq ?_
    refine cw_seq ?_
    refine cw_region ?_
    refine sq 40 rfl rfl (Y_move (v := .bool r_5) rfl rfl) ?_
    refine sq 41 rfl rfl (Y_not (p := r_5) rfl rfl) ?_
    refine rw_nil ?_
    refine cw_cond (b := (!r_5)) rfl (fun hb3 => ?_) (fun hb3 => ?_)
    ·skip
     have hF5 := ct hb2 hb3
     refine cw_seq ?_
     refine cw_region ?_
     refine sq 42 rfl rfl (Y_buildS (zs := [vi 0, vi 0, .slice none 0 0]) (vs := []) (cs := [vi 0, vi 0, .slice none 0 0]) k_pl_38 k_zero_38 rfl mpn rfl) ?_
     refine ss0 rfl rfl (Ys_store (i := 0) (s := 3) (B := aD b) (T' := 38) (v := .agg #[vi 0, vi 0, .slice none 0 0]) (vs := [vi 0, vi 0, .slice none 0 0]) (k := 0) (cs' := [vi 0, vi 0, .slice none 0 0]) hS13 k_sz_38_3 rfl (hf1.get 6 2 rfl) rfl rfl rfl rfl rfl (Nat.le_of_ble_eq_true rfl) rfl rfl) ?_
     rintro _ w_9 ⟨rfl, hS14⟩
     have hS14 : ST w0 [] _ [⟨aD b, 38, [vi 0, vi 0, .slice none 0 0], 3⟩, ⟨aD b1, 38, [vi rows, vi cols, .slice B2 Cells1.length c2], 3⟩, ⟨B2, 44, (Cells1.flatMap eN0), c2 * 5⟩, ⟨aD b2, 44, [vi r_4.Num.A, vi r_4.Num.B, vi r_4.Num.C, vi r_4.Num.D, vi r_4.Exp], 5⟩] (Rf) := hS14
     refine sq 7 rfl rfl (Y_assign (v := .bool false) rfl rfl) ?_
     refine rw_nil ?_
     refine cw_ret ?_
     have hS15 := hS14.addNil 44
     obtain rfl := some_inj hF5
     obtain rfl := some_inj hL3
     obtain rfl := some_inj hF4
     obtain rfl := some_inj hL1
     obtain ⟨rfl, rfl⟩ := pr2 (some_inj hF3)
     exact ret2 Tryd.results41 (v1 := .agg #[vi 0, vi 0, .slice none 0 0]) (resAt_cellA (B := aD b) (i := 0) (cs := [vi 0, vi 0, .slice none 0 0]) (vs := [vi 0, vi 0, .slice none 0 0]) (hf1.get 6 2 rfl) k_ag_38 k_sz_38_3 (hS15.cf (i := 0) rfl) rfl rfl) (v2 := .bool false) (resAt_tmp rfl) ⟨none, 0, rfl, (ST.subR (R' := []) (hS15.sel [4] rfl rfl) (fun _ h => by cases h))⟩
    ·skip
     have hF6 := cf' hb2 hb3
     refine cw_skip ?_
     refine cw_region ?_
     refine sq 43 rfl rfl (Y_fieldAddr (B := aD b1) (i := 0) (s := 0) k_fd_38_2_2_32 k_sz_32_1 rfl (hf1.get 8 3 rfl)) ?_
     refine sq 44 rfl rfl (Y_load1 (B := aD b1) (i := 2) (cs := [vi rows, vi cols, .slice B2 Cells1.length c2]) (v := .slice B2 Cells1.length c2) k_sc_32 rfl rfl (hS13.cf (i := 1) rfl) rfl) ?_
     refine sq 45 rfl rfl (Y_loadA (B := aD b2) (i := 0) (cs := [vi r_4.Num.A, vi r_4.Num.B, vi r_4.Num.C, vi r_4.Num.D, vi r_4.Exp]) (vs := [vi r_4.Num.A, vi r_4.Num.B, vi r_4.Num.C, vi r_4.Num.D, vi r_4.Exp]) k_ag_44 k_sz_44_5 rfl rfl (hS13.cf (i := 3) rfl) rfl rfl) ?_
     refine ss 46 rfl rfl (Ys_bslice (s := 5) (len := 1) (vs := [(0, .agg #[vi r_4.Num.A, vi r_4.Num.B, vi r_4.Num.C, vi r_4.Num.D, vi r_4.Exp])]) (cs := [vi r_4.Num.A, vi r_4.Num.B, vi r_4.Num.C, vi r_4.Num.D, vi r_4.Exp]) (zs := [vi 0, vi 0, vi 0, vi 0, vi 0]) (m := 5) hS13 k_sl_32_44 k_sz_44_5 k_zc_44 rfl (mpc rfl mpn) rfl rfl rfl (by kernel_rfl) (by kernel_rfl) rfl) ?_
     rintro _ w_10 ⟨b3, rfl, hS16⟩
     have hS16 : ST w0 [] _ [⟨aD b, 38, [vi 0, vi 0, .slice none 0 0], 3⟩, ⟨aD b1, 38, [vi rows, vi cols, .slice B2 Cells1.length c2], 3⟩, ⟨B2, 44, (Cells1.flatMap eN0), c2 * 5⟩, ⟨aD b2, 44, [vi r_4.Num.A, vi r_4.Num.B, vi r_4.Num.C, vi r_4.Num.D, vi r_4.Exp], 5⟩, ⟨aD b3, 44, ([r_4].flatMap eN0), 1 * 5⟩] (Rf) := hS16
     obtain ⟨hap, hF6⟩ := chk_inv hF6
     refine ss 47 rfl rfl (Ys_append (s := 5) (by' := 40) (i := 2) (nn := Cells1.length) (c := c2) (k := 1) (len := (Cells1 ++ [r_4]).length) (B := B2) (xs := ([r_4].flatMap eN0)) (cs' := ((Cells1 ++ [r_4]).flatMap eN0)) hS16 k_sl_32_44 k_sz_44_5 k_by_44_40 k_zero_44 rfl (by decide) rfl rfl rfl rfl (fm_lenn (l := Cells1) eN3 rfl) rfl (hS16.cf (i := 4) rfl) (fm_lenn (l := [r_4]) eN3 rfl) (fm_one' (enc := eN0) enc_Dyadic_one [r_4]) (by have := hap; omega) (by have := hap; simp only [maxLen]; omega) (fm_app _ _) (app_len (l := Cells1) (l' := [r_4]) rfl rfl)) ?_
     rintro _ w_11 ⟨B3, c3, rfl, hS17⟩
     have hS17 : ST w0 [] _ [⟨aD b, 38, [vi 0, vi 0, .slice none 0 0], 3⟩, ⟨aD b1, 38, [vi rows, vi cols, .slice B2 Cells1.length c2], 3⟩, ⟨B3, 44, ((Cells1 ++ [r_4]).flatMap eN0), c3 * 5⟩, ⟨aD b2, 44, [vi r_4.Num.A, vi r_4.Num.B, vi r_4.Num.C, vi r_4.Num.D, vi r_4.Exp], 5⟩, ⟨aD b3, 44, ([r_4].flatMap eN0), 1 * 5⟩] (Rf) := hS17
     refine sq 48 rfl rfl (Y_fieldAddr (B := aD b1) (i := 0) (s := 0) k_fd_38_2_2_32 k_sz_32_1 rfl (hf1.get 8 3 rfl)) ?_
     refine ss0 rfl rfl (Ys_store (i := 1) (s := 1) (B := aD b1) (T' := 38) (v := .slice B3 ((Cells1 ++ [r_4]).length) c3) (vs := [.slice B3 ((Cells1 ++ [r_4]).length) c3]) (k := 2) (cs' := [vi rows, vi cols, .slice B3 ((Cells1 ++ [r_4]).length) c3]) hS17 k_sz_32_1 rfl rfl rfl rfl rfl rfl rfl (Nat.le_of_ble_eq_true rfl) rfl rfl) ?_
     rintro _ w_12 ⟨rfl, hS18⟩
     have hS18 : ST w0 [] _ [⟨aD b, 38, [vi 0, vi 0, .slice none 0 0], 3⟩, ⟨aD b1, 38, [vi rows, vi cols, .slice B3 ((Cells1 ++ [r_4]).length) c3], 3⟩, ⟨B3, 44, ((Cells1 ++ [r_4]).flatMap eN0), c3 * 5⟩, ⟨aD b2, 44, [vi r_4.Num.A, vi r_4.Num.B, vi r_4.Num.C, vi r_4.Num.D, vi r_4.Exp], 5⟩, ⟨aD b3, 44, ([r_4].flatMap eN0), 1 * 5⟩] (Rf) := hS18
     refine rw_nil ?_
     refine cw_region ?_
     refine sq 49 rfl rfl (Y_add (k := .i64) (a := (i1 : Int)) (b := 1) rfl (hf1.get 30 8 rfl) rfl) ?_
     refine sq 30 rfl rfl (Y_move (v := vi (i64.wrap ((i1 : Int) + 1))) rfl rfl) ?_
     refine rw_nil ?_
     obtain rfl := some_inj hF6
     exact ⟨k_3, Nat.lt_succ_self _, i1 + 1, (Cells1 ++ [r_4]), B3, c3, (FF.cons (hf1.get 1 0 rfl) (FF.cons (hf1.get 2 1 rfl) (FF.cons (hf1.get 6 2 rfl) (FF.cons (hf1.get 8 3 rfl) (FF.cons (hf1.get 9 4 rfl) (FF.cons (hf1.get 25 5 rfl) (FF.cons (hf1.get 26 6 rfl) (FF.cons (hf1.get 29 7 rfl) (FF.cons (congrArg (Value.int .i64) (wr_succ hlt3 hN1)) FF.nil))))))))), (hS18.sel [0, 1, 2] rfl rfl), (by omega), hL3⟩
   ·skip
    obtain rfl : k_2 = 0 := by have h := of_decide_eq_false hlt2; omega
    refine cw_exit rfl ?_
    obtain rfl := some_inj hL2
    refine cw_region ?_
    refine sq 50 rfl rfl (Y_add (k := .i64) (a := (i : Int)) (b := 1) rfl (hf1.get 26 6 rfl) rfl) ?_
    refine sq 26 rfl rfl (Y_move (v := vi (i64.wrap ((i : Int) + 1))) rfl rfl) ?_
    refine rw_nil ?_
    obtain rfl := some_inj hF4
    exact ⟨k_1, Nat.lt_succ_self _, i + 1, Cells1, B2, c2, (FF.cons (hf1.get 1 0 rfl) (FF.cons (hf1.get 2 1 rfl) (FF.cons (hf1.get 6 2 rfl) (FF.cons (hf1.get 8 3 rfl) (FF.cons (hf1.get 25 5 rfl) (FF.cons (congrArg (Value.int .i64) (wr_succ hlt1 hN)) FF.nil)))))), (hS10.sel [0, 1, 2] rfl rfl), (by omega), hL1⟩
  ·skip
   obtain rfl : k_ = 0 := by have h := of_decide_eq_false hlt; omega
   refine cw_exit rfl ?_
   obtain rfl := some_inj hL
   refine cw_seq ?_
   refine cw_region ?_
   refine sq 51 rfl rfl (Y_loadA (B := aD b1) (i := 0) (cs := [vi rows, vi cols, .slice B1 Cells.length c1]) (vs := [vi rows, vi cols, .slice B1 Cells.length c1]) k_ag_38 k_sz_38_3 rfl (hf.get 8 3 rfl) (hS8.cf (i := 1) rfl) rfl rfl) ?_
   refine ss0 rfl rfl (Ys_store (i := 0) (s := 3) (B := aD b) (T' := 38) (v := .agg #[vi rows, vi cols, .slice B1 Cells.length c1]) (vs := [vi rows, vi cols, .slice B1 Cells.length c1]) (k := 0) (cs' := [vi rows, vi cols, .slice B1 Cells.length c1]) hS8 k_sz_38_3 rfl (hf.get 6 2 rfl) rfl rfl rfl rfl rfl (Nat.le_of_ble_eq_true rfl) rfl rfl) ?_
   rintro _ w_13 ⟨rfl, hS19⟩
   have hS19 : ST w0 [] _ [⟨aD b, 38, [vi rows, vi cols, .slice B1 Cells.length c1], 3⟩, ⟨aD b1, 38, [vi rows, vi cols, .slice B1 Cells.length c1], 3⟩, ⟨B1, 44, (Cells.flatMap eN0), c1 * 5⟩] (Rf) := hS19
   refine sq 7 rfl rfl (Y_assign (v := .bool true) rfl rfl) ?_
   refine rw_nil ?_
   refine cw_ret ?_
   obtain ⟨rfl, rfl⟩ := pr2 (some_inj hF3)
   exact ret2 Tryd.results41 (v1 := .agg #[vi rows, vi cols, .slice B1 Cells.length c1]) (resAt_cellA (B := aD b) (i := 0) (cs := [vi rows, vi cols, .slice B1 Cells.length c1]) (vs := [vi rows, vi cols, .slice B1 Cells.length c1]) (hf.get 6 2 rfl) k_ag_38 k_sz_38_3 (hS19.cf (i := 0) rfl) rfl rfl) (v2 := .bool true) (resAt_tmp rfl) ⟨B1, c1, rfl, (ST.subR (R' := []) (hS19.sel [2] rfl rfl) (fun _ h => by cases h))⟩

theorem c_impl_isCoef (n : Int)  (w0 : World)  (hS : ST w0 [] w0 [] []) {r_ : Bool} (hF : F_impl_isCoef n = some r_) :
  CV Tryd.prog 88 #[vi n] w0 (fun v w' => v = .bool r_ ∧ ST w0 [] w' [] []) := by
 unfold F_impl_isCoef at hF
 refine cv_of_cw 5 Tryd.func88 rfl Tryd.ntmps88 rfl ?_
 refine cw_seq ?_
 refine cw_region ?_
 refine sq 2 rfl rfl (Y_assign (v := .bool false) rfl rfl) ?_
 refine rw_nil ?_
 refine cw_seq ?_
 refine cw_region ?_
 refine sq 3 rfl rfl (Y_move (v := vi n) rfl rfl) ?_
 obtain ⟨r_1, hc, hF⟩ := bind_inv hF
 refine sc 4 rfl rfl (Yc_func (g := 9) (vs := [vi n, vi (-1000000000), vi 1000000000]) k_call_9 rfl (mc rfl (mc rfl (mc rfl mn))) (c_impl_within n (-1000000000) 1000000000 _  (hS.inn0 [] rfl) hc)) ?_
 rintro _ w_ ⟨rfl, hd⟩
 have hS1 := hS.out00 hd
 refine sq 2 rfl rfl (Y_assign (v := .bool r_1) rfl rfl) ?_
 refine rw_nil ?_
 refine cw_ret ?_
 obtain rfl := some_inj hF
 exact ret1 Tryd.results88 (v1 := .bool r_1) (resAt_tmp rfl) ⟨rfl, (ST.subR (R' := []) (hS1.sel [] rfl rfl) (fun _ h => by cases h))⟩

theorem c_impl_IsValidRing (x : TRing)  (w0 : World)  (hS : ST w0 [] w0 [] []) {r_ : Bool} (hF : F_impl_IsValidRing x = some r_) :
  CV Tryd.prog 74 #[.agg #[vi x.A, vi x.B, vi x.C, vi x.D]] w0 (fun v w' => v = .bool r_ ∧ ST w0 [] w' [] []) := by
 unfold F_impl_IsValidRing at hF
 refine cv_of_cw 21 Tryd.func74 rfl Tryd.ntmps74 rfl ?_
 refine cw_seq ?_
 refine cw_region ?_
 refine ss 1 rfl rfl (Ys_box (T := 42) (v := .agg #[vi x.A, vi x.B, vi x.C, vi x.D]) (cs := [vi x.A, vi x.B, vi x.C, vi x.D]) (m := 4) hS rfl rfl rfl rfl) ?_
 rintro _ w_ ⟨b, rfl, hS1⟩
 refine sq 2 rfl rfl (Y_assign (v := .bool false) rfl rfl) ?_
 refine rw_nil ?_
 refine cw_seq ?_
 refine cw_region ?_
 refine sq 3 rfl rfl (Y_fieldAddr (B := aD b) (i := 0) (s := 0) k_fd_42_0_0_3 k_sz_3_1 rfl rfl) ?_
 refine sq 4 rfl rfl (Y_load1 (B := aD b) (i := 0) (cs := [vi x.A, vi x.B, vi x.C, vi x.D]) (v := vi x.A) k_sc_3 rfl rfl (hS1.cf (i := 0) rfl) rfl) ?_
 obtain ⟨r_1, hc, hF⟩ := bind_inv hF
 refine sc 5 rfl rfl (Yc_func (g := 88) (vs := [vi x.A]) k_call_88 rfl (mc rfl mn) (c_impl_isCoef x.A _  (hS1.inn0 [] rfl) hc)) ?_
 rintro _ w_1 ⟨rfl, hd⟩
 have hS2 := hS1.out00 hd
 refine sq 6 rfl rfl (Y_move (v := .bool r_1) rfl rfl) ?_
 refine sgq 7 (B := r_1) (v := pt (aD b) 1) rfl rfl (wt_t (gd_of (t := 6) (by kernel_rfl) rfl)) (fun hg => (Y_fieldAddr (B := aD b) (i := 0) (s := 0) k_fd_42_1_1_3 k_sz_3_1 rfl rfl)) ?_
 refine sgq 8 (B := r_1) (v := vi x.B) rfl rfl (wt_t (gd_of (t := 6) (by kernel_rfl) rfl)) (fun hg1 => (Y_load1 (B := aD b) (i := 1) (cs := [vi x.A, vi x.B, vi x.C, vi x.D]) (v := vi x.B) k_sc_3 rfl (gv_of (B := r_1) (v := pt (aD b) 1) hg1) (hS2.cf (i := 0) rfl) rfl)) ?_
 obtain ⟨r_2, hc1, hF⟩ := bind_inv hF
 refine sgc 9 (B := r_1) (v := .bool r_2) (F := hS2.fn) rfl rfl (wt_t (gd_of (t := 6) (by kernel_rfl) rfl)) hS2 (fun hg2 => (Yc_func (g := 88) (vs := [vi x.B]) k_call_88 rfl (mc (gv_of (B := r_1) (v := vi x.B) hg2) mn) (CV.mono (c_impl_isCoef x.B _  (hS2.inn0 [] rfl) (gb_inv hc1 hg2)) (by rintro _ _ ⟨rfl, h⟩; exact ⟨rfl, hS2.out00 h⟩)))) ?_
 rintro w_2 hS3
 have hS3 : ST _ _ w_2 _ _ := hS3
 refine sq 10 rfl rfl (Y_and (b := r_1) (z := r_2) rfl rfl rfl rfl) ?_
 refine sq 11 rfl rfl (Y_move (v := .bool (r_1 && r_2)) rfl rfl) ?_
 refine sgq 12 (B := (r_1 && r_2)) (v := pt (aD b) 2) rfl rfl (wt_t (gd_of (t := 11) (by kernel_rfl) rfl)) (fun hg3 => (Y_fieldAddr (B := aD b) (i := 0) (s := 0) k_fd_42_2_2_3 k_sz_3_1 rfl rfl)) ?_
 refine sgq 13 (B := (r_1 && r_2)) (v := vi x.C) rfl rfl (wt_t (gd_of (t := 11) (by kernel_rfl) rfl)) (fun hg4 => (Y_load1 (B := aD b) (i := 2) (cs := [vi x.A, vi x.B, vi x.C, vi x.D]) (v := vi x.C) k_sc_3 rfl (gv_of (B := (r_1 && r_2)) (v := pt (aD b) 2) hg4) (hS3.cf (i := 0) rfl) rfl)) ?_
 obtain ⟨r_3, hc2, hF⟩ := bind_inv hF
 refine sgc 14 (B := (r_1 && r_2)) (v := .bool r_3) (F := hS3.fn) rfl rfl (wt_t (gd_of (t := 11) (by kernel_rfl) rfl)) hS3 (fun hg5 => (Yc_func (g := 88) (vs := [vi x.C]) k_call_88 rfl (mc (gv_of (B := (r_1 && r_2)) (v := vi x.C) hg5) mn) (CV.mono (c_impl_isCoef x.C _  (hS3.inn0 [] rfl) (gb_inv hc2 hg5)) (by rintro _ _ ⟨rfl, h⟩; exact ⟨rfl, hS3.out00 h⟩)))) ?_
 rintro w_3 hS4
 have hS4 : ST _ _ w_3 _ _ := hS4
 refine sq 15 rfl rfl (Y_and (b := (r_1 && r_2)) (z := r_3) rfl rfl rfl rfl) ?_
 refine sq 16 rfl rfl (Y_move (v := .bool ((r_1 && r_2) && r_3)) rfl rfl) ?_
 refine sgq 17 (B := ((r_1 && r_2) && r_3)) (v := pt (aD b) 3) rfl rfl (wt_t (gd_of (t := 16) (by kernel_rfl) rfl)) (fun hg6 => (Y_fieldAddr (B := aD b) (i := 0) (s := 0) k_fd_42_3_3_3 k_sz_3_1 rfl rfl)) ?_
 refine sgq 18 (B := ((r_1 && r_2) && r_3)) (v := vi x.D) rfl rfl (wt_t (gd_of (t := 16) (by kernel_rfl) rfl)) (fun hg7 => (Y_load1 (B := aD b) (i := 3) (cs := [vi x.A, vi x.B, vi x.C, vi x.D]) (v := vi x.D) k_sc_3 rfl (gv_of (B := ((r_1 && r_2) && r_3)) (v := pt (aD b) 3) hg7) (hS4.cf (i := 0) rfl) rfl)) ?_
 obtain ⟨r_4, hc3, hF⟩ := bind_inv hF
 refine sgc 19 (B := ((r_1 && r_2) && r_3)) (v := .bool r_4) (F := hS4.fn) rfl rfl (wt_t (gd_of (t := 16) (by kernel_rfl) rfl)) hS4 (fun hg8 => (Yc_func (g := 88) (vs := [vi x.D]) k_call_88 rfl (mc (gv_of (B := ((r_1 && r_2) && r_3)) (v := vi x.D) hg8) mn) (CV.mono (c_impl_isCoef x.D _  (hS4.inn0 [] rfl) (gb_inv hc3 hg8)) (by rintro _ _ ⟨rfl, h⟩; exact ⟨rfl, hS4.out00 h⟩)))) ?_
 rintro w_4 hS5
 have hS5 : ST _ _ w_4 _ _ := hS5
 refine sq 20 rfl rfl (Y_and (b := ((r_1 && r_2) && r_3)) (z := r_4) rfl rfl rfl rfl) ?_
 refine sq 2 rfl rfl (Y_assign (v := .bool (((r_1 && r_2) && r_3) && r_4)) rfl rfl) ?_
 refine rw_nil ?_
 refine cw_ret ?_
 obtain rfl := some_inj hF
 exact ret1 Tryd.results74 (v1 := .bool (((r_1 && r_2) && r_3) && r_4)) (resAt_tmp rfl) ⟨rfl, (ST.subR (R' := []) (hS5.sel [] rfl rfl) (fun _ h => by cases h))⟩

theorem c_impl_MulOmega (x : TRing) (k_ : Int)  (w0 : World)  (hS : ST w0 [] w0 [] []) {r_ : TRing} {r_1 : Bool} (hF : F_impl_MulOmega x k_ = some (r_, r_1)) :
  CV Tryd.prog 65 #[.agg #[vi x.A, vi x.B, vi x.C, vi x.D], vi k_] w0 (fun v w' => v = .tuple #[.agg #[vi r_.A, vi r_.B, vi r_.C, vi r_.D], .bool r_1] ∧ ST w0 [] w' [] []) := by
 unfold F_impl_MulOmega at hF
 refine cv_of_cw 33 Tryd.func65 rfl Tryd.ntmps65 rfl ?_
 refine cw_seq ?_
 refine cw_region ?_
 refine ss 2 rfl rfl (Ys_box (T := 42) (v := .agg #[vi x.A, vi x.B, vi x.C, vi x.D]) (cs := [vi x.A, vi x.B, vi x.C, vi x.D]) (m := 4) hS rfl rfl rfl rfl) ?_
 rintro _ w_ ⟨b, rfl, hS1⟩
 refine ss 4 rfl rfl (Ys_alloc (T := 42) (cs := [vi 0, vi 0, vi 0, vi 0]) (m := 4) hS1 k_zero_42 rfl rfl rfl) ?_
 rintro _ w_1 ⟨b1, rfl, hS2⟩
 have hS2 : ST w0 [] _ [⟨aD b, 42, [vi x.A, vi x.B, vi x.C, vi x.D], 4⟩, ⟨aD b1, 42, [vi 0, vi 0, vi 0, vi 0], 4⟩] [] := hS2
 refine sq 5 rfl rfl (Y_assign (v := .bool false) rfl rfl) ?_
 refine rw_nil ?_
 refine cw_seq ?_
 refine cw_seq ?_
 refine cw_region ?_
 refine sq 6 rfl rfl (Y_move (v := vi k_) rfl rfl) ?_
 obtain ⟨r_2, hc, hF⟩ := bind_inv hF
 refine sc 7 rfl rfl (Yc_func (g := 9) (vs := [vi k_, vi (-1000), vi 1000]) k_call_9 rfl (mc rfl (mc rfl (mc rfl mn))) (c_impl_within k_ (-1000) 1000 _  (hS2.inn0 [] rfl) hc)) ?_
 rintro _ w_2 ⟨rfl, hd⟩
 have hS3 := hS2.out00 hd
 have hS3 : ST w0 [] _ [⟨aD b, 42, [vi x.A, vi x.B, vi x.C, vi x.D], 4⟩, ⟨aD b1, 42, [vi 0, vi 0, vi 0, vi 0], 4⟩] [] := hS3
 refine sq 8 rfl rfl (Y_not (p := r_2) rfl rfl) ?_
 refine sq 9 rfl rfl (Y_move (v := .bool (!r_2)) rfl rfl) ?_
 refine sgq 10 (B := (!(!r_2))) (v := .agg #[vi x.A, vi x.B, vi x.C, vi x.D]) rfl rfl (wt_f (gd_of (t := 9) (by kernel_rfl) rfl)) (fun hg => (Y_loadA (B := aD b) (i := 0) (cs := [vi x.A, vi x.B, vi x.C, vi x.D]) (vs := [vi x.A, vi x.B, vi x.C, vi x.D]) k_ag_42 k_sz_42_4 rfl rfl (hS3.cf (i := 0) rfl) rfl rfl)) ?_
 obtain ⟨r_3, hc1, hF⟩ := bind_inv hF
 refine sgc 11 (B := (!(!r_2))) (v := .bool r_3) (F := hS3.fn) rfl rfl (wt_f (gd_of (t := 9) (by kernel_rfl) rfl)) hS3 (fun hg1 => (Yc_func (g := 74) (vs := [.agg #[vi x.A, vi x.B, vi x.C, vi x.D]]) k_call_74 rfl (mc (gv_of (B := (!(!r_2))) (v := .agg #[vi x.A, vi x.B, vi x.C, vi x.D]) hg1) mn) (CV.mono (c_impl_IsValidRing x _  (hS3.inn0 [] rfl) (gb_inv hc1 hg1)) (by rintro _ _ ⟨rfl, h⟩; exact ⟨rfl, hS3.out00 h⟩)))) ?_
 rintro w_3 hS4
 have hS4 : ST _ _ w_3 _ _ := hS4
 refine sgq 12 (B := (!(!r_2))) (v := .bool (!r_3)) rfl rfl (wt_f (gd_of (t := 9) (by kernel_rfl) rfl)) (fun hg2 => (Y_not (p := r_3) rfl (gv_of (B := (!(!r_2))) (v := .bool r_3) hg2))) ?_
 refine sq 13 rfl rfl (Y_or (b := (!r_2)) (z := (!r_3)) rfl rfl rfl rfl) ?_
 refine rw_nil ?_
 refine cw_cond (b := ((!r_2) || (!r_3))) rfl (fun hb => ?_) (fun hb => ?_)
 ·skip
  have hF1 := ct hF hb
  refine cw_seq ?_
  refine cw_region ?_
  refine sq 14 rfl rfl (Y_buildS (zs := [vi 0, vi 0, vi 0, vi 0]) (vs := []) (cs := [vi 0, vi 0, vi 0, vi 0]) k_pl_42 k_zero_42 rfl mpn rfl) ?_
  refine ss0 rfl rfl (Ys_store (i := 1) (s := 4) (B := aD b1) (T' := 42) (v := .agg #[vi 0, vi 0, vi 0, vi 0]) (vs := [vi 0, vi 0, vi 0, vi 0]) (k := 0) (cs' := [vi 0, vi 0, vi 0, vi 0]) hS4 k_sz_42_4 rfl rfl rfl rfl rfl rfl rfl (Nat.le_of_ble_eq_true rfl) rfl rfl) ?_
  rintro _ w_4 ⟨rfl, hS5⟩
  have hS5 : ST w0 [] _ [⟨aD b, 42, [vi x.A, vi x.B, vi x.C, vi x.D], 4⟩, ⟨aD b1, 42, [vi 0, vi 0, vi 0, vi 0], 4⟩] [] := hS5
  refine sq 5 rfl rfl (Y_assign (v := .bool false) rfl rfl) ?_
  refine rw_nil ?_
  refine cw_ret ?_
  obtain ⟨rfl, rfl⟩ := pr2 (some_inj hF1)
  exact ret2 Tryd.results65 (v1 := .agg #[vi 0, vi 0, vi 0, vi 0]) (resAt_cellA (B := aD b1) (i := 0) (cs := [vi 0, vi 0, vi 0, vi 0]) (vs := [vi 0, vi 0, vi 0, vi 0]) rfl k_ag_42 k_sz_42_4 (hS5.cf (i := 1) rfl) rfl rfl) (v2 := .bool false) (resAt_tmp rfl) ⟨rfl, (ST.subR (R' := []) (hS5.sel [] rfl rfl) (fun _ h => by cases h))⟩
 ·skip
  have hF2 := cf' hF hb
  refine cw_skip ?_
  refine cw_seq ?_
  refine cw_seq ?_
  refine cw_region ?_
  refine sq 15 rfl rfl (Y_move (v := vi k_) rfl rfl) ?_
  refine sq 16 rfl rfl (Y_rem (k := .i64) (a := k_) (b := 8) rfl rfl rfl (by decide)) ?_
  refine sq 17 rfl rfl (Y_add (k := .i64) (a := (Int.tmod k_ 8)) (b := 8) rfl rfl rfl) ?_
  refine sq 18 rfl rfl (Y_rem (k := .i64) (a := (i64.wrap ((Int.tmod k_ 8) + 8))) (b := 8) rfl rfl rfl (by decide)) ?_
  refine sq 19 rfl rfl (Y_move (v := vi 0) rfl rfl) ?_
  refine rw_nil ?_
  obtain ⟨hN, hF2⟩ := chk_inv hF2
  obtain ⟨z, hz, hF3⟩ := bind_inv hF2
  refine cw_block ?_
  refine cw_loop (fun k f w => ∃ (i : Nat) (A : Int) (B : Int) (C : Int) (D : Int), FF f [(2, pt (aD b) 0), (4, pt (aD b1) 0), (18, vi (Int.tmod (i64.wrap ((Int.tmod k_ 8) + 8)) 8)), (19, vi (i : Int))] ∧ ST w0 [] w [⟨aD b, 42, [vi A, vi B, vi C, vi D], 4⟩, ⟨aD b1, 42, [vi 0, vi 0, vi 0, vi 0], 4⟩] [] ∧ i + k = (Int.tmod (i64.wrap ((Int.tmod k_ 8) + 8)) 8).toNat ∧ forN F_impl_MulOmega_l1 k i (A, B, C, D) = some z) ((Int.tmod (i64.wrap ((Int.tmod k_ 8) + 8)) 8).toNat) ⟨0, x.A, x.B, x.C, x.D, (FF.cons rfl (FF.cons rfl (FF.cons rfl (FF.cons rfl FF.nil)))), (hS4.sel [0, 1] rfl rfl), Nat.zero_add _, hz⟩ ?_
  rintro k_1 f w ⟨i, A, B, C, D, hf, hS6, hik, hL⟩
  refine cw_seq ?_
  refine cw_region ?_
  refine sq 20 rfl rfl (Y_lt (k := .i64) (a := (i : Int)) (b := (Int.tmod (i64.wrap ((Int.tmod k_ 8) + 8)) 8)) rfl (hf.get 19 3 rfl) (hf.get 18 2 rfl)) ?_
  refine rw_nil ?_
  refine cw_seq ?_
  refine cw_cond (b := (decide ((i : Int) < (Int.tmod (i64.wrap ((Int.tmod k_ 8) + 8)) 8)))) rfl (fun hlt => ?_) (fun hlt => ?_)
  ·skip
   have hlt1 : i < (Int.tmod (i64.wrap ((Int.tmod k_ 8) + 8)) 8).toNat := by have h := of_decide_eq_true hlt; omega
   obtain ⟨k_2, rfl⟩ : ∃ k2, k_1 = k2 + 1 := ⟨k_1 - 1, by omega⟩
   obtain ⟨y, hb1, hL1⟩ := forN_go hL
   unfold F_impl_MulOmega_l1 at hb1
   refine cw_skip ?_
   refine cw_seq ?_
   refine cw_block ?_
   refine cw_region ?_
   refine sq 21 rfl rfl (Y_fieldAddr (B := aD b) (i := 0) (s := 0) k_fd_42_3_3_3 k_sz_3_1 rfl (hf.get 2 0 rfl)) ?_
   refine sq 22 rfl rfl (Y_load1 (B := aD b) (i := 3) (cs := [vi A, vi B, vi C, vi D]) (v := vi D) k_sc_3 rfl rfl (hS6.cf (i := 0) rfl) rfl) ?_
   refine sq 23 rfl rfl (Y_neg (k := .i64) (a := D) rfl rfl) ?_
   refine sq 24 rfl rfl (Y_fieldAddr (B := aD b) (i := 0) (s := 0) k_fd_42_0_0_3 k_sz_3_1 rfl (hf.get 2 0 rfl)) ?_
   refine sq 25 rfl rfl (Y_load1 (B := aD b) (i := 0) (cs := [vi A, vi B, vi C, vi D]) (v := vi A) k_sc_3 rfl rfl (hS6.cf (i := 0) rfl) rfl) ?_
   refine sq 26 rfl rfl (Y_fieldAddr (B := aD b) (i := 0) (s := 0) k_fd_42_1_1_3 k_sz_3_1 rfl (hf.get 2 0 rfl)) ?_
   refine sq 27 rfl rfl (Y_load1 (B := aD b) (i := 1) (cs := [vi A, vi B, vi C, vi D]) (v := vi B) k_sc_3 rfl rfl (hS6.cf (i := 0) rfl) rfl) ?_
   refine sq 28 rfl rfl (Y_fieldAddr (B := aD b) (i := 0) (s := 0) k_fd_42_2_2_3 k_sz_3_1 rfl (hf.get 2 0 rfl)) ?_
   refine sq 29 rfl rfl (Y_load1 (B := aD b) (i := 2) (cs := [vi A, vi B, vi C, vi D]) (v := vi C) k_sc_3 rfl rfl (hS6.cf (i := 0) rfl) rfl) ?_
   refine sq 30 rfl rfl (Y_buildS (zs := [vi 0, vi 0, vi 0, vi 0]) (vs := [(0, vi (i64.wrap (-D))), (1, vi A), (2, vi B), (3, vi C)]) (cs := [vi (i64.wrap (-D)), vi A, vi B, vi C]) k_pl_42 k_zero_42 rfl (mpc rfl (mpc rfl (mpc rfl (mpc rfl mpn)))) rfl) ?_
   refine ss0 rfl rfl (Ys_store (i := 0) (s := 4) (B := aD b) (T' := 42) (v := .agg #[vi (i64.wrap (-D)), vi A, vi B, vi C]) (vs := [vi (i64.wrap (-D)), vi A, vi B, vi C]) (k := 0) (cs' := [vi (i64.wrap (-D)), vi A, vi B, vi C]) hS6 k_sz_42_4 rfl (hf.get 2 0 rfl) rfl rfl rfl rfl rfl (Nat.le_of_ble_eq_true rfl) rfl rfl) ?_
   rintro _ w_5 ⟨rfl, hS7⟩
   have hS7 : ST w0 [] _ [⟨aD b, 42, [vi (i64.wrap (-D)), vi A, vi B, vi C], 4⟩, ⟨aD b1, 42, [vi 0, vi 0, vi 0, vi 0], 4⟩] [] := hS7
   refine rw_nil ?_
   refine cw_region ?_
   refine sq 31 rfl rfl (Y_add (k := .i64) (a := (i : Int)) (b := 1) rfl (hf.get 19 3 rfl) rfl) ?_
   refine sq 19 rfl rfl (Y_move (v := vi (i64.wrap ((i : Int) + 1))) rfl rfl) ?_
   refine rw_nil ?_
   obtain rfl := some_inj hb1
   exact ⟨k_2, Nat.lt_succ_self _, i + 1, (i64.wrap (-D)), A, B, C, (FF.cons (hf.get 2 0 rfl) (FF.cons (hf.get 4 1 rfl) (FF.cons (hf.get 18 2 rfl) (FF.cons (congrArg (Value.int .i64) (wr_succ hlt1 hN)) FF.nil)))), (hS7.sel [0, 1] rfl rfl), (by omega), hL1⟩
  ·skip
   obtain rfl : k_1 = 0 := by have h := of_decide_eq_false hlt; omega
   refine cw_exit rfl ?_
   obtain rfl := some_inj hL
   refine cw_seq ?_
   refine cw_region ?_
   refine sq 32 rfl rfl (Y_loadA (B := aD b) (i := 0) (cs := [vi A, vi B, vi C, vi D]) (vs := [vi A, vi B, vi C, vi D]) k_ag_42 k_sz_42_4 rfl (hf.get 2 0 rfl) (hS6.cf (i := 0) rfl) rfl rfl) ?_
   refine ss0 rfl rfl (Ys_store (i := 1) (s := 4) (B := aD b1) (T' := 42) (v := .agg #[vi A, vi B, vi C, vi D]) (vs := [vi A, vi B, vi C, vi D]) (k := 0) (cs' := [vi A, vi B, vi C, vi D]) hS6 k_sz_42_4 rfl (hf.get 4 1 rfl) rfl rfl rfl rfl rfl (Nat.le_of_ble_eq_true rfl) rfl rfl) ?_
   rintro _ w_6 ⟨rfl, hS8⟩
   have hS8 : ST w0 [] _ [⟨aD b, 42, [vi A, vi B, vi C, vi D], 4⟩, ⟨aD b1, 42, [vi A, vi B, vi C, vi D], 4⟩] [] := hS8
   refine sq 5 rfl rfl (Y_assign (v := .bool true) rfl rfl) ?_
   refine rw_nil ?_
   refine cw_ret ?_
   obtain ⟨rfl, rfl⟩ := pr2 (some_inj hF3)
   exact ret2 Tryd.results65 (v1 := .agg #[vi A, vi B, vi C, vi D]) (resAt_cellA (B := aD b1) (i := 0) (cs := [vi A, vi B, vi C, vi D]) (vs := [vi A, vi B, vi C, vi D]) (hf.get 4 1 rfl) k_ag_42 k_sz_42_4 (hS8.cf (i := 1) rfl) rfl rfl) (v2 := .bool true) (resAt_tmp rfl) ⟨rfl, (ST.subR (R' := []) (hS8.sel [] rfl rfl) (fun _ h => by cases h))⟩

theorem c_impl_phase (k_ : Int)  (w0 : World)  (hS : ST w0 [] w0 [] []) {r_ : TDyadic} (hF : F_impl_phase k_ = some r_) :
  CV Tryd.prog 43 #[vi k_] w0 (fun v w' => v = .agg #[vi r_.Num.A, vi r_.Num.B, vi r_.Num.C, vi r_.Num.D, vi r_.Exp] ∧ ST w0 [] w' [] []) := by
 unfold F_impl_phase at hF
 refine cv_of_cw 13 Tryd.func43 rfl Tryd.ntmps43 rfl ?_
 refine cw_seq ?_
 refine cw_region ?_
 refine ss 2 rfl rfl (Ys_alloc (T := 44) (cs := [vi 0, vi 0, vi 0, vi 0, vi 0]) (m := 5) hS k_zero_44 rfl rfl rfl) ?_
 rintro _ w_ ⟨b, rfl, hS1⟩
 refine rw_nil ?_
 refine cw_seq ?_
 refine cw_region ?_
 refine sq 6 rfl rfl (Y_buildS (zs := [vi 0, vi 0, vi 0, vi 0]) (vs := [(0, vi 1)]) (cs := [vi 1, vi 0, vi 0, vi 0]) k_pl_42 k_zero_42 rfl (mpc rfl mpn) rfl) ?_
 refine sq 7 rfl rfl (Y_move (v := vi k_) rfl rfl) ?_
 obtain ⟨⟨r_1, r_2⟩, hc, hF⟩ := bind_inv hF
 refine sc 8 rfl rfl (Yc_func (g := 65) (vs := [.agg #[vi 1, vi 0, vi 0, vi 0], vi k_]) k_call_65 rfl (mc rfl (mc rfl mn)) (c_impl_MulOmega (TRing.mk 1 0 0 0) k_ _  (hS1.inn0 [] rfl) hc)) ?_
 rintro _ w_1 ⟨rfl, hd⟩
 have hS2 := hS1.out00 hd
 refine sq 5 rfl rfl (Y_move (v := .tuple #[.agg #[vi r_1.A, vi r_1.B, vi r_1.C, vi r_1.D], .bool r_2]) rfl rfl) ?_
 refine sq 9 rfl rfl (Y_extract (v := .agg #[vi r_1.A, vi r_1.B, vi r_1.C, vi r_1.D]) rfl rfl rfl) ?_
 refine sq 10 rfl rfl (Y_extract (v := .bool r_2) rfl rfl rfl) ?_
 refine ss 3 rfl rfl (Ys_alloc (T := 42) (cs := [vi 0, vi 0, vi 0, vi 0]) (m := 4) hS2 k_zero_42 rfl rfl rfl) ?_
 rintro _ w_2 ⟨b1, rfl, hS3⟩
 have hS3 : ST w0 [] _ [⟨aD b, 44, [vi 0, vi 0, vi 0, vi 0, vi 0], 5⟩, ⟨aD b1, 42, [vi 0, vi 0, vi 0, vi 0], 4⟩] [] := hS3
 refine ss0 rfl rfl (Ys_store (i := 1) (s := 4) (B := aD b1) (T' := 42) (v := .agg #[vi r_1.A, vi r_1.B, vi r_1.C, vi r_1.D]) (vs := [vi r_1.A, vi r_1.B, vi r_1.C, vi r_1.D]) (k := 0) (cs' := [vi r_1.A, vi r_1.B, vi r_1.C, vi r_1.D]) hS3 k_sz_42_4 rfl rfl rfl rfl rfl rfl rfl (Nat.le_of_ble_eq_true rfl) rfl rfl) ?_
 rintro _ w_3 ⟨rfl, hS4⟩
 have hS4 : ST w0 [] _ [⟨aD b, 44, [vi 0, vi 0, vi 0, vi 0, vi 0], 5⟩, ⟨aD b1, 42, [vi r_1.A, vi r_1.B, vi r_1.C, vi r_1.D], 4⟩] [] := hS4
 refine sq 4 rfl rfl (Y_assign (v := .bool r_2) rfl rfl) ?_
 refine rw_nil ?_
 refine cw_seq ?_
 refine cw_region ?_
 refine sq 11 rfl rfl (Y_loadA (B := aD b1) (i := 0) (cs := [vi r_1.A, vi r_1.B, vi r_1.C, vi r_1.D]) (vs := [vi r_1.A, vi r_1.B, vi r_1.C, vi r_1.D]) k_ag_42 k_sz_42_4 rfl rfl (hS4.cf (i := 1) rfl) rfl rfl) ?_
 refine sq 12 rfl rfl (Y_buildS (zs := [vi 0, vi 0, vi 0, vi 0, vi 0]) (vs := [(0, .agg #[vi r_1.A, vi r_1.B, vi r_1.C, vi r_1.D])]) (cs := [vi r_1.A, vi r_1.B, vi r_1.C, vi r_1.D, vi 0]) k_pl_44 k_zero_44 rfl (mpc rfl mpn) rfl) ?_
 refine ss0 rfl rfl (Ys_store (i := 0) (s := 5) (B := aD b) (T' := 44) (v := .agg #[vi r_1.A, vi r_1.B, vi r_1.C, vi r_1.D, vi 0]) (vs := [vi r_1.A, vi r_1.B, vi r_1.C, vi r_1.D, vi 0]) (k := 0) (cs' := [vi r_1.A, vi r_1.B, vi r_1.C, vi r_1.D, vi 0]) hS4 k_sz_44_5 rfl rfl rfl rfl rfl rfl rfl (Nat.le_of_ble_eq_true rfl) rfl rfl) ?_
 rintro _ w_4 ⟨rfl, hS5⟩
 have hS5 : ST w0 [] _ [⟨aD b, 44, [vi r_1.A, vi r_1.B, vi r_1.C, vi r_1.D, vi 0], 5⟩, ⟨aD b1, 42, [vi r_1.A, vi r_1.B, vi r_1.C, vi r_1.D], 4⟩] [] := hS5
 refine rw_nil ?_
 refine cw_ret ?_
 obtain rfl := some_inj hF
 exact ret1 Tryd.results43 (v1 := .agg #[vi r_1.A, vi r_1.B, vi r_1.C, vi r_1.D, vi 0]) (resAt_cellA (B := aD b) (i := 0) (cs := [vi r_1.A, vi r_1.B, vi r_1.C, vi r_1.D, vi 0]) (vs := [vi r_1.A, vi r_1.B, vi r_1.C, vi r_1.D, vi 0]) rfl k_ag_44 k_sz_44_5 (hS5.cf (i := 0) rfl) rfl rfl) ⟨rfl, (ST.subR (R' := []) (hS5.sel [] rfl rfl) (fun _ h => by cases h))⟩

theorem c_impl_bitOf (n : Int) (state : Int) (q : Int)  (w0 : World)  (hS : ST w0 [] w0 [] []) {r_ : Int} (hF : F_impl_bitOf n state q = some r_) :
  CV Tryd.prog 46 #[vi n, vi state, vi q] w0 (fun v w' => v = vi r_ ∧ ST w0 [] w' [] []) := by
 unfold F_impl_bitOf at hF
 refine cv_of_cw 14 Tryd.func46 rfl Tryd.ntmps46 rfl ?_
 refine cw_seq ?_
 refine cw_region ?_
 refine sq 6 rfl rfl (Y_assign (v := vi 0) rfl rfl) ?_
 refine rw_nil ?_
 refine cw_seq ?_
 refine cw_region ?_
 refine sq 7 rfl rfl (Y_move (v := vi state) rfl rfl) ?_
 refine sq 8 rfl rfl (Y_move (v := vi n) rfl rfl) ?_
 refine sq 9 rfl rfl (Y_sub (k := .i64) (a := n) (b := 1) rfl rfl rfl) ?_
 refine sq 10 rfl rfl (Y_move (v := vi q) rfl rfl) ?_
 refine sq 11 rfl rfl (Y_sub (k := .i64) (a := (i64.wrap (n - 1))) (b := q) rfl rfl rfl) ?_
 obtain ⟨hsh, hF⟩ := chk_inv hF
 refine sq 12 rfl rfl (Y_shr (k := .i64) (a := state) (k' := .i64) (b := (i64.wrap ((i64.wrap (n - 1)) - q))) rfl rfl rfl hsh) ?_
 refine sq 13 rfl rfl (Y_band (k := .i64) (a := (shrK .i64 state (i64.wrap ((i64.wrap (n - 1)) - q)))) (b := 1) rfl rfl rfl) ?_
 refine sq 6 rfl rfl (Y_assign (v := vi (bits .and .i64 (shrK .i64 state (i64.wrap ((i64.wrap (n - 1)) - q))) 1)) rfl rfl) ?_
 refine rw_nil ?_
 refine cw_ret ?_
 obtain rfl := some_inj hF
 exact ret1 Tryd.results46 (v1 := vi (bits .and .i64 (shrK .i64 state (i64.wrap ((i64.wrap (n - 1)) - q))) 1)) (resAt_tmp rfl) ⟨rfl, (ST.subR (R' := []) (hS.sel [] rfl rfl) (fun _ h => by cases h))⟩

theorem c_impl_flipped (n : Int) (state : Int) (q : Int)  (w0 : World)  (hS : ST w0 [] w0 [] []) {r_ : Int} (hF : F_impl_flipped n state q = some r_) :
  CV Tryd.prog 47 #[vi n, vi state, vi q] w0 (fun v w' => v = vi r_ ∧ ST w0 [] w' [] []) := by
 unfold F_impl_flipped at hF
 refine cv_of_cw 14 Tryd.func47 rfl Tryd.ntmps47 rfl ?_
 refine cw_seq ?_
 refine cw_region ?_
 refine sq 6 rfl rfl (Y_assign (v := vi 0) rfl rfl) ?_
 refine rw_nil ?_
 refine cw_seq ?_
 refine cw_region ?_
 refine sq 7 rfl rfl (Y_move (v := vi state) rfl rfl) ?_
 refine sq 8 rfl rfl (Y_move (v := vi n) rfl rfl) ?_
 refine sq 9 rfl rfl (Y_sub (k := .i64) (a := n) (b := 1) rfl rfl rfl) ?_
 refine sq 10 rfl rfl (Y_move (v := vi q) rfl rfl) ?_
 refine sq 11 rfl rfl (Y_sub (k := .i64) (a := (i64.wrap (n - 1))) (b := q) rfl rfl rfl) ?_
 obtain ⟨hsh, hF⟩ := chk_inv hF
 refine sq 12 rfl rfl (Y_shl (k := .i64) (a := 1) (k' := .i64) (b := (i64.wrap ((i64.wrap (n - 1)) - q))) rfl rfl rfl hsh) ?_
 refine sq 13 rfl rfl (Y_bxor (k := .i64) (a := state) (b := (shlK .i64 1 (i64.wrap ((i64.wrap (n - 1)) - q)))) rfl rfl rfl) ?_
 refine sq 6 rfl rfl (Y_assign (v := vi (bits .xor .i64 state (shlK .i64 1 (i64.wrap ((i64.wrap (n - 1)) - q))))) rfl rfl) ?_
 refine rw_nil ?_
 refine cw_ret ?_
 obtain rfl := some_inj hF
 exact ret1 Tryd.results47 (v1 := vi (bits .xor .i64 state (shlK .i64 1 (i64.wrap ((i64.wrap (n - 1)) - q))))) (resAt_tmp rfl) ⟨rfl, (ST.subR (R' := []) (hS.sel [] rfl rfl) (fun _ h => by cases h))⟩

theorem c_impl_comesFrom (n : Int) (g : TGate) (state : Int)  (w0 : World)  (hS : ST w0 [] w0 [] []) {r_ : Int} (hF : F_impl_comesFrom n g state = some r_) :
  CV Tryd.prog 45 #[vi n, .agg #[vi g.Kind, vi g.A, vi g.B], vi state] w0 (fun v w' => v = vi r_ ∧ ST w0 [] w' [] []) := by
 unfold F_impl_comesFrom at hF
 refine cv_of_cw 51 Tryd.func45 rfl Tryd.ntmps45 rfl ?_
 refine cw_seq ?_
 refine cw_region ?_
 refine ss 4 rfl rfl (Ys_box (T := 64) (v := .agg #[vi g.Kind, vi g.A, vi g.B]) (cs := [vi g.Kind, vi g.A, vi g.B]) (m := 3) hS rfl rfl rfl rfl) ?_
 rintro _ w_ ⟨b, rfl, hS1⟩
 refine sq 6 rfl rfl (Y_assign (v := vi 0) rfl rfl) ?_
 refine rw_nil ?_
 refine cw_seq ?_
 obtain ⟨r_1, hc, hF⟩ := bind_inv hF
 obtain ⟨r_2, hc1, hF⟩ := bind_inv hF
 refine ra_start (ST.sel hS1 [0] rfl rfl).fn (by kernel_rfl) ?_
 have hS4 := hS1.drew
 refine ra_q 0 9 (v := vi n) rfl rfl rfl (by kernel_rfl) (by kernel_rfl) (by kernel_rfl) (ST.sel hS4 [0] rfl rfl) (fun w' hw' => (Y_move (v := vi n) rfl rfl)) ?_
 refine ra_q 1 10 (v := vi state) rfl rfl rfl (by kernel_rfl) (by kernel_rfl) (by kernel_rfl) (ST.sel hS4 [0] rfl rfl) (fun w' hw' => (Y_move (v := vi state) rfl rfl)) ?_
 refine ra_q 2 11 (v := pt (aD b) 1) rfl rfl rfl (by kernel_rfl) (by kernel_rfl) (by kernel_rfl) (ST.sel hS4 [0] rfl rfl) (fun w' hw' => (Y_fieldAddr (B := aD b) (i := 0) (s := 0) k_fd_64_1_1_3 k_sz_3_1 rfl rfl)) ?_
 refine ra_q 3 12 (v := vi g.A) rfl rfl rfl (by kernel_rfl) (by kernel_rfl) (by kernel_rfl) (ST.sel hS4 [0] rfl rfl) (fun w' hw' => (Y_load1 (B := aD b) (i := 1) (cs := [vi g.Kind, vi g.A, vi g.B]) (v := vi g.A) k_sc_3 rfl rfl (ST.cf hw' (i := 0) rfl) rfl)) ?_
 refine ra_q 5 14 (v := vi n) rfl rfl rfl (by kernel_rfl) (by kernel_rfl) (by kernel_rfl) (ST.sel hS4 [0] rfl rfl) (fun w' hw' => (Y_move (v := vi n) rfl rfl)) ?_
 refine ra_q 6 15 (v := vi state) rfl rfl rfl (by kernel_rfl) (by kernel_rfl) (by kernel_rfl) (ST.sel hS4 [0] rfl rfl) (fun w' hw' => (Y_move (v := vi state) rfl rfl)) ?_
 refine ra_q 7 16 (v := pt (aD b) 2) rfl rfl rfl (by kernel_rfl) (by kernel_rfl) (by kernel_rfl) (ST.sel hS4 [0] rfl rfl) (fun w' hw' => (Y_fieldAddr (B := aD b) (i := 0) (s := 0) k_fd_64_2_2_3 k_sz_3_1 rfl rfl)) ?_
 refine ra_q 8 17 (v := vi g.B) rfl rfl rfl (by kernel_rfl) (by kernel_rfl) (by kernel_rfl) (ST.sel hS4 [0] rfl rfl) (fun w' hw' => (Y_load1 (B := aD b) (i := 2) (cs := [vi g.Kind, vi g.A, vi g.B]) (v := vi g.B) k_sc_3 rfl rfl (ST.cf hw' (i := 0) rfl) rfl)) ?_
 refine ra_all (rs := [4]) (by kernel_rfl) rfl ?_
 refine ra_c 13 (i := 4) rfl rfl rfl (Yc_func (g := 46) (vs := [vi n, vi state, vi g.A]) k_call_46 rfl (mc rfl (mc rfl (mc rfl mn))) (c_impl_bitOf n state g.A _  (hS4.inn0 [] rfl) hc)) ?_ ?_
 ·rintro _ w_1 ⟨rfl, hd⟩
  have hS5 := hS4.out00 hd
  refine ⟨(ST.sel hS5 [0] rfl rfl), ?_⟩
  refine ra_all (rs := [9]) (by kernel_rfl) rfl ?_
  refine ra_c 18 (i := 9) rfl rfl rfl (Yc_func (g := 46) (vs := [vi n, vi state, vi g.B]) k_call_46 rfl (mc rfl (mc rfl (mc rfl mn))) (c_impl_bitOf n state g.B _  (hS5.inn0 [] rfl) hc1)) ?_ ?_
  ·rintro _ w_2 ⟨rfl, hd1⟩
   have hS6 := hS5.out00 hd1
   refine ⟨(ST.sel hS6 [0] rfl rfl), ?_⟩
   refine ra_q 10 7 (v := vi r_1) rfl rfl rfl (by kernel_rfl) (by kernel_rfl) (by kernel_rfl) (ST.sel hS6 [0] rfl rfl) (fun w' hw' => (Y_assign (v := vi r_1) rfl rfl)) ?_
   refine ra_q 11 8 (v := vi r_2) rfl rfl rfl (by kernel_rfl) (by kernel_rfl) (by kernel_rfl) (ST.sel hS6 [0] rfl rfl) (fun w' hw' => (Y_assign (v := vi r_2) rfl rfl)) ?_
   refine ra_done (by kernel_rfl) ?_
   refine cw_seq ?_
   refine cw_block ?_
   refine cw_seq ?_
   refine cw_region ?_
   refine sq 20 rfl rfl (Y_fieldAddr (B := aD b) (i := 0) (s := 0) k_fd_64_0_0_3 k_sz_3_1 rfl rfl) ?_
   refine sq 21 rfl rfl (Y_load1 (B := aD b) (i := 0) (cs := [vi g.Kind, vi g.A, vi g.B]) (v := vi g.Kind) k_sc_3 rfl rfl (hS6.cf (i := 0) rfl) rfl) ?_
   refine sq 22 rfl rfl (Y_eq (k := .i64) (a := g.Kind) (b := 9) rfl rfl rfl) ?_
   refine sq 23 rfl rfl (Y_move (v := .bool (g.Kind == 9)) rfl rfl) ?_
   refine sgq 24 (B := (g.Kind == 9)) (v := vi r_1) rfl rfl (wt_t (gd_of (t := 23) (by kernel_rfl) rfl)) (fun hg => (Y_move (v := vi r_1) rfl rfl)) ?_
   refine sgq 25 (B := (g.Kind == 9)) (v := .bool (r_1 == 1)) rfl rfl (wt_t (gd_of (t := 23) (by kernel_rfl) rfl)) (fun hg1 => (Y_eq (k := .i64) (a := r_1) (b := 1) rfl (gv_of (B := (g.Kind == 9)) (v := vi r_1) hg1) rfl)) ?_
   refine sq 26 rfl rfl (Y_and (b := (g.Kind == 9)) (z := (r_1 == 1)) rfl rfl rfl rfl) ?_
   refine sq 19 rfl rfl (Y_assign (v := .bool ((g.Kind == 9) && (r_1 == 1))) rfl rfl) ?_
   refine rw_nil ?_
   refine cw_cond (b := ((g.Kind == 9) && (r_1 == 1))) rfl (fun hb => ?_) (fun hb => ?_)
   ·skip
    have hF1 := ct hF hb
    refine cw_seq ?_
    refine cw_region ?_
    refine sq 27 rfl rfl (Y_move (v := vi n) rfl rfl) ?_
    refine sq 28 rfl rfl (Y_move (v := vi state) rfl rfl) ?_
    refine sq 29 rfl rfl (Y_fieldAddr (B := aD b) (i := 0) (s := 0) k_fd_64_2_2_3 k_sz_3_1 rfl rfl) ?_
    refine sq 30 rfl rfl (Y_load1 (B := aD b) (i := 2) (cs := [vi g.Kind, vi g.A, vi g.B]) (v := vi g.B) k_sc_3 rfl rfl (hS6.cf (i := 0) rfl) rfl) ?_
    obtain ⟨r_3, hc2, hF1⟩ := bind_inv hF1
    refine sc 31 rfl rfl (Yc_func (g := 47) (vs := [vi n, vi state, vi g.B]) k_call_47 rfl (mc rfl (mc rfl (mc rfl mn))) (c_impl_flipped n state g.B _  (hS6.inn0 [] rfl) hc2)) ?_
    rintro _ w_3 ⟨rfl, hd2⟩
    have hS7 := hS6.out00 hd2
    refine sq 6 rfl rfl (Y_assign (v := vi r_3) rfl rfl) ?_
    refine rw_nil ?_
    refine cw_ret ?_
    obtain rfl := some_inj hF1
    exact ret1 Tryd.results45 (v1 := vi r_3) (resAt_tmp rfl) ⟨rfl, (ST.subR (R' := []) (hS7.sel [] rfl rfl) (fun _ h => by cases h))⟩
   ·skip
    have hF2 := cf' hF hb
    refine cw_seq ?_
    refine cw_region ?_
    refine sq 33 rfl rfl (Y_fieldAddr (B := aD b) (i := 0) (s := 0) k_fd_64_0_0_3 k_sz_3_1 rfl rfl) ?_
    refine sq 34 rfl rfl (Y_load1 (B := aD b) (i := 0) (cs := [vi g.Kind, vi g.A, vi g.B]) (v := vi g.Kind) k_sc_3 rfl rfl (hS6.cf (i := 0) rfl) rfl) ?_
    refine sq 35 rfl rfl (Y_eq (k := .i64) (a := g.Kind) (b := 11) rfl rfl rfl) ?_
    refine sq 36 rfl rfl (Y_move (v := .bool (g.Kind == 11)) rfl rfl) ?_
    refine sgq 37 (B := (g.Kind == 11)) (v := vi r_1) rfl rfl (wt_t (gd_of (t := 36) (by kernel_rfl) rfl)) (fun hg2 => (Y_move (v := vi r_1) rfl rfl)) ?_
    refine sgq 38 (B := (g.Kind == 11)) (v := vi r_2) rfl rfl (wt_t (gd_of (t := 36) (by kernel_rfl) rfl)) (fun hg3 => (Y_move (v := vi r_2) rfl rfl)) ?_
    refine sgq 39 (B := (g.Kind == 11)) (v := .bool (r_1 != r_2)) rfl rfl (wt_t (gd_of (t := 36) (by kernel_rfl) rfl)) (fun hg4 => (Y_ne (k := .i64) (a := r_1) (b := r_2) rfl (gv_of (B := (g.Kind == 11)) (v := vi r_1) hg4) (gv_of (B := (g.Kind == 11)) (v := vi r_2) hg4))) ?_
    refine sq 40 rfl rfl (Y_and (b := (g.Kind == 11)) (z := (r_1 != r_2)) rfl rfl rfl rfl) ?_
    refine sq 32 rfl rfl (Y_assign (v := .bool ((g.Kind == 11) && (r_1 != r_2))) rfl rfl) ?_
    refine rw_nil ?_
    refine cw_cond (b := ((g.Kind == 11) && (r_1 != r_2))) rfl (fun hb1 => ?_) (fun hb1 => ?_)
    ·skip
     have hF3 := ct hF2 hb1
     refine cw_seq ?_
     obtain ⟨r_4, hc3, hF3⟩ := bind_inv hF3
     obtain ⟨r_5, hc4, hF3⟩ := bind_inv hF3
     refine ra_start (ST.sel hS6 [0] rfl rfl).fn (by kernel_rfl) ?_
     have hS10 := hS6.drew
     refine ra_q 0 41 (v := vi n) rfl rfl rfl (by kernel_rfl) (by kernel_rfl) (by kernel_rfl) (ST.sel hS10 [0] rfl rfl) (fun w' hw' => (Y_move (v := vi n) rfl rfl)) ?_
     refine ra_q 1 42 (v := vi n) rfl rfl rfl (by kernel_rfl) (by kernel_rfl) (by kernel_rfl) (ST.sel hS10 [0] rfl rfl) (fun w' hw' => (Y_move (v := vi n) rfl rfl)) ?_
     refine ra_q 2 43 (v := vi state) rfl rfl rfl (by kernel_rfl) (by kernel_rfl) (by kernel_rfl) (ST.sel hS10 [0] rfl rfl) (fun w' hw' => (Y_move (v := vi state) rfl rfl)) ?_
     refine ra_q 3 44 (v := pt (aD b) 1) rfl rfl rfl (by kernel_rfl) (by kernel_rfl) (by kernel_rfl) (ST.sel hS10 [0] rfl rfl) (fun w' hw' => (Y_fieldAddr (B := aD b) (i := 0) (s := 0) k_fd_64_1_1_3 k_sz_3_1 rfl rfl)) ?_
     refine ra_q 4 45 (v := vi g.A) rfl rfl rfl (by kernel_rfl) (by kernel_rfl) (by kernel_rfl) (ST.sel hS10 [0] rfl rfl) (fun w' hw' => (Y_load1 (B := aD b) (i := 1) (cs := [vi g.Kind, vi g.A, vi g.B]) (v := vi g.A) k_sc_3 rfl rfl (ST.cf hw' (i := 0) rfl) rfl)) ?_
     refine ra_q 6 47 (v := pt (aD b) 2) rfl rfl rfl (by kernel_rfl) (by kernel_rfl) (by kernel_rfl) (ST.sel hS10 [0] rfl rfl) (fun w' hw' => (Y_fieldAddr (B := aD b) (i := 0) (s := 0) k_fd_64_2_2_3 k_sz_3_1 rfl rfl)) ?_
     refine ra_q 7 48 (v := vi g.B) rfl rfl rfl (by kernel_rfl) (by kernel_rfl) (by kernel_rfl) (ST.sel hS10 [0] rfl rfl) (fun w' hw' => (Y_load1 (B := aD b) (i := 2) (cs := [vi g.Kind, vi g.A, vi g.B]) (v := vi g.B) k_sc_3 rfl rfl (ST.cf hw' (i := 0) rfl) rfl)) ?_
     refine ra_all (rs := [5]) (by kernel_rfl) rfl ?_
     refine ra_c 46 (i := 5) rfl rfl rfl (Yc_func (g := 47) (vs := [vi n, vi state, vi g.A]) k_call_47 rfl (mc rfl (mc rfl (mc rfl mn))) (c_impl_flipped n state g.A _  (hS10.inn0 [] rfl) hc3)) ?_ ?_
     ·rintro _ w_4 ⟨rfl, hd3⟩
      have hS11 := hS10.out00 hd3
      refine ⟨(ST.sel hS11 [0] rfl rfl), ?_⟩
      refine ra_all (rs := [8]) (by kernel_rfl) rfl ?_
      refine ra_c 49 (i := 8) rfl rfl rfl (Yc_func (g := 47) (vs := [vi n, vi r_4, vi g.B]) k_call_47 rfl (mc rfl (mc rfl (mc rfl mn))) (c_impl_flipped n r_4 g.B _  (hS11.inn0 [] rfl) hc4)) ?_ ?_
      ·rintro _ w_5 ⟨rfl, hd4⟩
       have hS12 := hS11.out00 hd4
       refine ⟨(ST.sel hS12 [0] rfl rfl), ?_⟩
       refine ra_q 9 6 (v := vi r_5) rfl rfl rfl (by kernel_rfl) (by kernel_rfl) (by kernel_rfl) (ST.sel hS12 [0] rfl rfl) (fun w' hw' => (Y_assign (v := vi r_5) rfl rfl)) ?_
       refine ra_done (by kernel_rfl) ?_
       refine cw_ret ?_
       obtain rfl := some_inj hF3
       exact ret1 Tryd.results45 (v1 := vi r_5) (resAt_tmp rfl) ⟨rfl, (ST.subR (R' := []) (hS12.sel [] rfl rfl) (fun _ h => by cases h))⟩
      exact allR_nil
     exact allR_nil
    ·skip
     have hF4 := cf' hF2 hb1
     refine cw_skip ?_
     refine cw_seq ?_
     refine cw_region ?_
     refine sq 50 rfl rfl (Y_move (v := vi state) rfl rfl) ?_
     refine sq 6 rfl rfl (Y_assign (v := vi state) rfl rfl) ?_
     refine rw_nil ?_
     refine cw_ret ?_
     obtain rfl := some_inj hF4
     exact ret1 Tryd.results45 (v1 := vi state) (resAt_tmp rfl) ⟨rfl, (ST.subR (R' := []) (hS6.sel [] rfl rfl) (fun _ h => by cases h))⟩
  exact allR_nil
 exact allR_nil

theorem c_impl_entry (kind : Int) (i : Int) (j : Int)  (w0 : World)  (hS : ST w0 [] w0 [] []) {r_ : TDyadic} (hF : F_impl_entry kind i j = some r_) :
  CV Tryd.prog 48 #[vi kind, vi i, vi j] w0 (fun v w' => v = .agg #[vi r_.Num.A, vi r_.Num.B, vi r_.Num.C, vi r_.Num.D, vi r_.Exp] ∧ ST w0 [] w' [] []) := by
 unfold F_impl_entry at hF
 refine cv_of_cw 67 Tryd.func48 rfl Tryd.ntmps48 rfl ?_
 refine cw_seq ?_
 refine cw_region ?_
 refine ss 6 rfl rfl (Ys_alloc (T := 44) (cs := [vi 0, vi 0, vi 0, vi 0, vi 0]) (m := 5) hS k_zero_44 rfl rfl rfl) ?_
 rintro _ w_ ⟨b, rfl, hS1⟩
 refine rw_nil ?_
 refine cw_seq ?_
 refine cw_region ?_
 refine sq 9 rfl rfl (Y_buildS (zs := [vi 0, vi 0, vi 0, vi 0]) (vs := [(0, vi 1)]) (cs := [vi 1, vi 0, vi 0, vi 0]) k_pl_42 k_zero_42 rfl (mpc rfl mpn) rfl) ?_
 refine sq 10 rfl rfl (Y_buildS (zs := [vi 0, vi 0, vi 0, vi 0, vi 0]) (vs := [(0, .agg #[vi 1, vi 0, vi 0, vi 0]), (1, vi 1)]) (cs := [vi 1, vi 0, vi 0, vi 0, vi 1]) k_pl_44 k_zero_44 rfl (mpc rfl (mpc rfl mpn)) rfl) ?_
 refine ss 7 rfl rfl (Ys_alloc (T := 44) (cs := [vi 0, vi 0, vi 0, vi 0, vi 0]) (m := 5) hS1 k_zero_44 rfl rfl rfl) ?_
 rintro _ w_1 ⟨b1, rfl, hS2⟩
 have hS2 : ST w0 [] _ [⟨aD b, 44, [vi 0, vi 0, vi 0, vi 0, vi 0], 5⟩, ⟨aD b1, 44, [vi 0, vi 0, vi 0, vi 0, vi 0], 5⟩] [] := hS2
 refine ss0 rfl rfl (Ys_store (i := 1) (s := 5) (B := aD b1) (T' := 44) (v := .agg #[vi 1, vi 0, vi 0, vi 0, vi 1]) (vs := [vi 1, vi 0, vi 0, vi 0, vi 1]) (k := 0) (cs' := [vi 1, vi 0, vi 0, vi 0, vi 1]) hS2 k_sz_44_5 rfl rfl rfl rfl rfl rfl rfl (Nat.le_of_ble_eq_true rfl) rfl rfl) ?_
 rintro _ w_2 ⟨rfl, hS3⟩
 have hS3 : ST w0 [] _ [⟨aD b, 44, [vi 0, vi 0, vi 0, vi 0, vi 0], 5⟩, ⟨aD b1, 44, [vi 1, vi 0, vi 0, vi 0, vi 1], 5⟩] [] := hS3
 refine rw_nil ?_
 refine cw_seq ?_
 refine cw_region ?_
 refine ss 11 rfl rfl (Ys_makeMap (T := 96) hS3 rfl) ?_
 rintro _ w_3 ⟨g, rfl, hS4⟩
 have hS5 := hS4.st
 have hS5 : ST w0 [] _ [⟨aD b, 44, [vi 0, vi 0, vi 0, vi 0, vi 0], 5⟩, ⟨aD b1, 44, [vi 1, vi 0, vi 0, vi 0, vi 1], 5⟩] [] := hS5
 refine ss0 rfl rfl (Ys_insert (kd := .i64) (ed := .i64) (a := 4) (b := 4) (es := #[]) hS4 k_map_96_3_3 k_int_3_i64 rfl rfl rfl rfl rfl) ?_
 rintro _ w_4 ⟨rfl, hS6⟩
 have hS7 := hS6.st
 have hS7 : ST w0 [] _ [⟨aD b, 44, [vi 0, vi 0, vi 0, vi 0, vi 0], 5⟩, ⟨aD b1, 44, [vi 1, vi 0, vi 0, vi 0, vi 1], 5⟩] [] := hS7
 refine ss0 rfl rfl (Ys_insert (kd := .i64) (ed := .i64) (a := 5) (b := 2) (es := (#[].push ⟨vi 4, vi 4, 0⟩)) hS6 k_map_96_3_3 k_int_3_i64 rfl rfl rfl rfl rfl) ?_
 rintro _ w_5 ⟨rfl, hS8⟩
 have hS9 := hS8.st
 have hS9 : ST w0 [] _ [⟨aD b, 44, [vi 0, vi 0, vi 0, vi 0, vi 0], 5⟩, ⟨aD b1, 44, [vi 1, vi 0, vi 0, vi 0, vi 1], 5⟩] [] := hS9
 refine ss0 rfl rfl (Ys_insert (kd := .i64) (ed := .i64) (a := 6) (b := 6) (es := ((#[].push ⟨vi 4, vi 4, 0⟩).push ⟨vi 5, vi 2, 1⟩)) hS8 k_map_96_3_3 k_int_3_i64 rfl rfl rfl rfl rfl) ?_
 rintro _ w_6 ⟨rfl, hS10⟩
 have hS11 := hS10.st
 have hS11 : ST w0 [] _ [⟨aD b, 44, [vi 0, vi 0, vi 0, vi 0, vi 0], 5⟩, ⟨aD b1, 44, [vi 1, vi 0, vi 0, vi 0, vi 1], 5⟩] [] := hS11
 refine ss0 rfl rfl (Ys_insert (kd := .i64) (ed := .i64) (a := 7) (b := 1) (es := (((#[].push ⟨vi 4, vi 4, 0⟩).push ⟨vi 5, vi 2, 1⟩).push ⟨vi 6, vi 6, 2⟩)) hS10 k_map_96_3_3 k_int_3_i64 rfl rfl rfl rfl rfl) ?_
 rintro _ w_7 ⟨rfl, hS12⟩
 have hS13 := hS12.st
 have hS13 : ST w0 [] _ [⟨aD b, 44, [vi 0, vi 0, vi 0, vi 0, vi 0], 5⟩, ⟨aD b1, 44, [vi 1, vi 0, vi 0, vi 0, vi 1], 5⟩] [] := hS13
 refine ss0 rfl rfl (Ys_insert (kd := .i64) (ed := .i64) (a := 8) (b := 7) (es := ((((#[].push ⟨vi 4, vi 4, 0⟩).push ⟨vi 5, vi 2, 1⟩).push ⟨vi 6, vi 6, 2⟩).push ⟨vi 7, vi 1, 3⟩)) hS12 k_map_96_3_3 k_int_3_i64 rfl rfl rfl rfl rfl) ?_
 rintro _ w_8 ⟨rfl, hS14⟩
 have hS15 := hS14.st
 have hS15 : ST w0 [] _ [⟨aD b, 44, [vi 0, vi 0, vi 0, vi 0, vi 0], 5⟩, ⟨aD b1, 44, [vi 1, vi 0, vi 0, vi 0, vi 1], 5⟩] [] := hS15
 refine sq 12 rfl rfl (Y_move (v := .map (some g)) rfl rfl) ?_
 refine sq 8 rfl rfl (Y_assign (v := .map (some g)) rfl rfl) ?_
 refine rw_nil ?_
 refine cw_seq ?_
 refine cw_block ?_
 refine cw_seq ?_
 refine cw_region ?_
 refine sq 14 rfl rfl (Y_move (v := vi kind) rfl rfl) ?_
 refine sq 15 rfl rfl (Y_eq (k := .i64) (a := kind) (b := 1) rfl rfl rfl) ?_
 refine sq 13 rfl rfl (Y_assign (v := .bool (kind == 1)) rfl rfl) ?_
 refine rw_nil ?_
 refine cw_cond (b := (kind == 1)) rfl (fun hb => ?_) (fun hb => ?_)
 ·skip
  have hF1 := ct hF hb
  refine cw_seq ?_
  obtain ⟨z, hz, hF2⟩ := bind_inv hF1
  refine cw_mid (fun f w => ∃ (A : Int), A = z ∧ FF f [(6, pt (aD b) 0), (7, pt (aD b1) 0)] ∧ ST w0 [] w [⟨aD b, 44, [vi 0, vi 0, vi 0, vi 0, vi 0], 5⟩, ⟨aD b1, 44, [vi A, vi 0, vi 0, vi 0, vi 1], 5⟩] []) ?_ ?_
  ·skip
   refine cw_seq ?_
   refine cw_region ?_
   refine sq 16 rfl rfl (Y_move (v := vi i) rfl rfl) ?_
   refine sq 17 rfl rfl (Y_eq (k := .i64) (a := i) (b := 1) rfl rfl rfl) ?_
   refine sq 18 rfl rfl (Y_move (v := .bool (i == 1)) rfl rfl) ?_
   refine sgq 19 (B := (i == 1)) (v := vi j) rfl rfl (wt_t (gd_of (t := 18) (by kernel_rfl) rfl)) (fun hg => (Y_move (v := vi j) rfl rfl)) ?_
   refine sgq 20 (B := (i == 1)) (v := .bool (j == 1)) rfl rfl (wt_t (gd_of (t := 18) (by kernel_rfl) rfl)) (fun hg1 => (Y_eq (k := .i64) (a := j) (b := 1) rfl (gv_of (B := (i == 1)) (v := vi j) hg1) rfl)) ?_
   refine sq 21 rfl rfl (Y_and (b := (i == 1)) (z := (j == 1)) rfl rfl rfl rfl) ?_
   refine rw_nil ?_
   refine cw_cond (b := ((i == 1) && (j == 1))) rfl (fun hb1 => ?_) (fun hb1 => ?_)
   ·skip
    have hF3 := ct hz hb1
    refine cw_region ?_
    refine sq 22 rfl rfl (Y_fieldAddr (B := aD b1) (i := 0) (s := 3) k_fd_44_0_0_42 k_sz_42_4 rfl rfl) ?_
    refine sq 23 rfl rfl (Y_fieldAddr (B := aD b1) (i := 0) (s := 0) k_fd_42_0_0_3 k_sz_3_1 rfl rfl) ?_
    refine ss0 rfl rfl (Ys_store (i := 1) (s := 1) (B := aD b1) (T' := 44) (v := vi (-1)) (vs := [vi (-1)]) (k := 0) (cs' := [vi (-1), vi 0, vi 0, vi 0, vi 1]) hS15 k_sz_3_1 rfl rfl rfl rfl rfl rfl rfl (Nat.le_of_ble_eq_true rfl) rfl rfl) ?_
    rintro _ w_9 ⟨rfl, hS17⟩
    have hS17 : ST w0 [] _ [⟨aD b, 44, [vi 0, vi 0, vi 0, vi 0, vi 0], 5⟩, ⟨aD b1, 44, [vi (-1), vi 0, vi 0, vi 0, vi 1], 5⟩] [] := hS17
    refine rw_nil ?_
    exact ⟨(-1), (some_inj hF3), (FF.cons rfl (FF.cons rfl FF.nil)), (hS17.sel [0, 1] rfl rfl)⟩
   ·skip
    have hF4 := cf' hz hb1
    refine cw_skip ?_
    exact ⟨1, (some_inj hF4), (FF.cons rfl (FF.cons rfl FF.nil)), (hS15.sel [0, 1] rfl rfl)⟩
  rintro f w ⟨A, rfl, hf, hS16⟩
  refine cw_seq ?_
  refine cw_region ?_
  refine sq 24 rfl rfl (Y_loadA (B := aD b1) (i := 0) (cs := [vi A, vi 0, vi 0, vi 0, vi 1]) (vs := [vi A, vi 0, vi 0, vi 0, vi 1]) k_ag_44 k_sz_44_5 rfl (hf.get 7 1 rfl) (hS16.cf (i := 1) rfl) rfl rfl) ?_
  refine ss0 rfl rfl (Ys_store (i := 0) (s := 5) (B := aD b) (T' := 44) (v := .agg #[vi A, vi 0, vi 0, vi 0, vi 1]) (vs := [vi A, vi 0, vi 0, vi 0, vi 1]) (k := 0) (cs' := [vi A, vi 0, vi 0, vi 0, vi 1]) hS16 k_sz_44_5 rfl (hf.get 6 0 rfl) rfl rfl rfl rfl rfl (Nat.le_of_ble_eq_true rfl) rfl rfl) ?_
  rintro _ w_10 ⟨rfl, hS18⟩
  have hS18 : ST w0 [] _ [⟨aD b, 44, [vi A, vi 0, vi 0, vi 0, vi 1], 5⟩, ⟨aD b1, 44, [vi A, vi 0, vi 0, vi 0, vi 1], 5⟩] [] := hS18
  refine rw_nil ?_
  refine cw_ret ?_
  obtain rfl := some_inj hF2
  exact ret1 Tryd.results48 (v1 := .agg #[vi A, vi 0, vi 0, vi 0, vi 1]) (resAt_cellA (B := aD b) (i := 0) (cs := [vi A, vi 0, vi 0, vi 0, vi 1]) (vs := [vi A, vi 0, vi 0, vi 0, vi 1]) (hf.get 6 0 rfl) k_ag_44 k_sz_44_5 (hS18.cf (i := 0) rfl) rfl rfl) ⟨rfl, (ST.subR (R' := []) (hS18.sel [] rfl rfl) (fun _ h => by cases h))⟩
 ·skip
  have hF5 := cf' hF hb
  refine cw_seq ?_
  refine cw_region ?_
  refine sq 26 rfl rfl (Y_move (v := vi kind) rfl rfl) ?_
  refine sq 27 rfl rfl (Y_eq (k := .i64) (a := kind) (b := 2) rfl rfl rfl) ?_
  refine sq 28 rfl rfl (Y_move (v := .bool (kind == 2)) rfl rfl) ?_
  refine sgq 29 (B := (kind == 2)) (v := vi i) rfl rfl (wt_t (gd_of (t := 28) (by kernel_rfl) rfl)) (fun hg2 => (Y_move (v := vi i) rfl rfl)) ?_
  refine sgq 30 (B := (kind == 2)) (v := vi j) rfl rfl (wt_t (gd_of (t := 28) (by kernel_rfl) rfl)) (fun hg3 => (Y_move (v := vi j) rfl rfl)) ?_
  refine sgq 31 (B := (kind == 2)) (v := .bool (i != j)) rfl rfl (wt_t (gd_of (t := 28) (by kernel_rfl) rfl)) (fun hg4 => (Y_ne (k := .i64) (a := i) (b := j) rfl (gv_of (B := (kind == 2)) (v := vi i) hg4) (gv_of (B := (kind == 2)) (v := vi j) hg4))) ?_
  refine sq 32 rfl rfl (Y_and (b := (kind == 2)) (z := (i != j)) rfl rfl rfl rfl) ?_
  refine sq 25 rfl rfl (Y_assign (v := .bool ((kind == 2) && (i != j))) rfl rfl) ?_
  refine rw_nil ?_
  refine cw_cond (b := ((kind == 2) && (i != j))) rfl (fun hb2 => ?_) (fun hb2 => ?_)
  ·skip
   have hF6 := ct hF5 hb2
   refine cw_seq ?_
   refine cw_region ?_
   obtain ⟨r_1, hc, hF6⟩ := bind_inv hF6
   refine sc 33 rfl rfl (Yc_func (g := 13) (vs := [vi 1]) k_call_13 rfl (mc rfl mn) (c_impl_whole 1 _  (hS15.inn0 [] rfl) hc)) ?_
   rintro _ w_11 ⟨rfl, hd⟩
   have hS19 := hS15.out00 hd
   have hS19 : ST w0 [] _ [⟨aD b, 44, [vi 0, vi 0, vi 0, vi 0, vi 0], 5⟩, ⟨aD b1, 44, [vi 1, vi 0, vi 0, vi 0, vi 1], 5⟩] [] := hS19
   refine ss0 rfl rfl (Ys_store (i := 0) (s := 5) (B := aD b) (T' := 44) (v := .agg #[vi r_1.Num.A, vi r_1.Num.B, vi r_1.Num.C, vi r_1.Num.D, vi r_1.Exp]) (vs := [vi r_1.Num.A, vi r_1.Num.B, vi r_1.Num.C, vi r_1.Num.D, vi r_1.Exp]) (k := 0) (cs' := [vi r_1.Num.A, vi r_1.Num.B, vi r_1.Num.C, vi r_1.Num.D, vi r_1.Exp]) hS19 k_sz_44_5 rfl rfl rfl rfl rfl rfl rfl (Nat.le_of_ble_eq_true rfl) rfl rfl) ?_
   rintro _ w_12 ⟨rfl, hS20⟩
   have hS20 : ST w0 [] _ [⟨aD b, 44, [vi r_1.Num.A, vi r_1.Num.B, vi r_1.Num.C, vi r_1.Num.D, vi r_1.Exp], 5⟩, ⟨aD b1, 44, [vi 1, vi 0, vi 0, vi 0, vi 1], 5⟩] [] := hS20
   refine rw_nil ?_
   refine cw_ret ?_
   obtain rfl := some_inj hF6
   exact ret1 Tryd.results48 (v1 := .agg #[vi r_1.Num.A, vi r_1.Num.B, vi r_1.Num.C, vi r_1.Num.D, vi r_1.Exp]) (resAt_cellA (B := aD b) (i := 0) (cs := [vi r_1.Num.A, vi r_1.Num.B, vi r_1.Num.C, vi r_1.Num.D, vi r_1.Exp]) (vs := [vi r_1.Num.A, vi r_1.Num.B, vi r_1.Num.C, vi r_1.Num.D, vi r_1.Exp]) rfl k_ag_44 k_sz_44_5 (hS20.cf (i := 0) rfl) rfl rfl) ⟨rfl, (ST.subR (R' := []) (hS20.sel [] rfl rfl) (fun _ h => by cases h))⟩
  ·skip
   have hF7 := cf' hF5 hb2
   refine cw_seq ?_
   refine cw_region ?_
   refine sq 35 rfl rfl (Y_move (v := vi kind) rfl rfl) ?_
   refine sq 36 rfl rfl (Y_eq (k := .i64) (a := kind) (b := 3) rfl rfl rfl) ?_
   refine sq 37 rfl rfl (Y_move (v := .bool (kind == 3)) rfl rfl) ?_
   refine sgq 38 (B := (kind == 3)) (v := vi i) rfl rfl (wt_t (gd_of (t := 37) (by kernel_rfl) rfl)) (fun hg5 => (Y_move (v := vi i) rfl rfl)) ?_
   refine sgq 39 (B := (kind == 3)) (v := vi j) rfl rfl (wt_t (gd_of (t := 37) (by kernel_rfl) rfl)) (fun hg6 => (Y_move (v := vi j) rfl rfl)) ?_
   refine sgq 40 (B := (kind == 3)) (v := .bool (i != j)) rfl rfl (wt_t (gd_of (t := 37) (by kernel_rfl) rfl)) (fun hg7 => (Y_ne (k := .i64) (a := i) (b := j) rfl (gv_of (B := (kind == 3)) (v := vi i) hg7) (gv_of (B := (kind == 3)) (v := vi j) hg7))) ?_
   refine sq 41 rfl rfl (Y_and (b := (kind == 3)) (z := (i != j)) rfl rfl rfl rfl) ?_
   refine sq 34 rfl rfl (Y_assign (v := .bool ((kind == 3) && (i != j))) rfl rfl) ?_
   refine rw_nil ?_
   refine cw_cond (b := ((kind == 3) && (i != j))) rfl (fun hb3 => ?_) (fun hb3 => ?_)
   ·skip
    have hF8 := ct hF7 hb3
    refine cw_seq ?_
    refine cw_region ?_
    refine sq 42 rfl rfl (Y_move (v := vi j) rfl rfl) ?_
    refine sq 43 rfl rfl (Y_mul (k := .i64) (a := 4) (b := j) rfl rfl rfl) ?_
    refine sq 44 rfl rfl (Y_add (k := .i64) (a := 2) (b := (i64.wrap (4 * j))) rfl rfl rfl) ?_
    obtain ⟨r_2, hc1, hF8⟩ := bind_inv hF8
    refine sc 45 rfl rfl (Yc_func (g := 43) (vs := [vi (i64.wrap (2 + (i64.wrap (4 * j))))]) k_call_43 rfl (mc rfl mn) (c_impl_phase (i64.wrap (2 + (i64.wrap (4 * j)))) _  (hS15.inn0 [] rfl) hc1)) ?_
    rintro _ w_13 ⟨rfl, hd1⟩
    have hS21 := hS15.out00 hd1
    have hS21 : ST w0 [] _ [⟨aD b, 44, [vi 0, vi 0, vi 0, vi 0, vi 0], 5⟩, ⟨aD b1, 44, [vi 1, vi 0, vi 0, vi 0, vi 1], 5⟩] [] := hS21
    refine ss0 rfl rfl (Ys_store (i := 0) (s := 5) (B := aD b) (T' := 44) (v := .agg #[vi r_2.Num.A, vi r_2.Num.B, vi r_2.Num.C, vi r_2.Num.D, vi r_2.Exp]) (vs := [vi r_2.Num.A, vi r_2.Num.B, vi r_2.Num.C, vi r_2.Num.D, vi r_2.Exp]) (k := 0) (cs' := [vi r_2.Num.A, vi r_2.Num.B, vi r_2.Num.C, vi r_2.Num.D, vi r_2.Exp]) hS21 k_sz_44_5 rfl rfl rfl rfl rfl rfl rfl (Nat.le_of_ble_eq_true rfl) rfl rfl) ?_
    rintro _ w_14 ⟨rfl, hS22⟩
    have hS22 : ST w0 [] _ [⟨aD b, 44, [vi r_2.Num.A, vi r_2.Num.B, vi r_2.Num.C, vi r_2.Num.D, vi r_2.Exp], 5⟩, ⟨aD b1, 44, [vi 1, vi 0, vi 0, vi 0, vi 1], 5⟩] [] := hS22
    refine rw_nil ?_
    refine cw_ret ?_
    obtain rfl := some_inj hF8
    exact ret1 Tryd.results48 (v1 := .agg #[vi r_2.Num.A, vi r_2.Num.B, vi r_2.Num.C, vi r_2.Num.D, vi r_2.Exp]) (resAt_cellA (B := aD b) (i := 0) (cs := [vi r_2.Num.A, vi r_2.Num.B, vi r_2.Num.C, vi r_2.Num.D, vi r_2.Exp]) (vs := [vi r_2.Num.A, vi r_2.Num.B, vi r_2.Num.C, vi r_2.Num.D, vi r_2.Exp]) rfl k_ag_44 k_sz_44_5 (hS22.cf (i := 0) rfl) rfl rfl) ⟨rfl, (ST.subR (R' := []) (hS22.sel [] rfl rfl) (fun _ h => by cases h))⟩
   ·skip
    have hF9 := cf' hF7 hb3
    refine cw_seq ?_
    refine cw_region ?_
    refine sq 47 rfl rfl (Y_move (v := vi kind) rfl rfl) ?_
    refine sq 48 rfl rfl (Y_eq (k := .i64) (a := kind) (b := 2) rfl rfl rfl) ?_
    refine sq 49 rfl rfl (Y_move (v := .bool (kind == 2)) rfl rfl) ?_
    refine sgq 50 (B := (!(kind == 2))) (v := vi kind) rfl rfl (wt_f (gd_of (t := 49) (by kernel_rfl) rfl)) (fun hg8 => (Y_move (v := vi kind) rfl rfl)) ?_
    refine sgq 51 (B := (!(kind == 2))) (v := .bool (kind == 3)) rfl rfl (wt_f (gd_of (t := 49) (by kernel_rfl) rfl)) (fun hg9 => (Y_eq (k := .i64) (a := kind) (b := 3) rfl (gv_of (B := (!(kind == 2))) (v := vi kind) hg9) rfl)) ?_
    refine sq 52 rfl rfl (Y_or (b := (kind == 2)) (z := (kind == 3)) rfl rfl rfl rfl) ?_
    refine sq 53 rfl rfl (Y_move (v := .bool ((kind == 2) || (kind == 3))) rfl rfl) ?_
    refine sgq 54 (B := (!((kind == 2) || (kind == 3)))) (v := vi i) rfl rfl (wt_f (gd_of (t := 53) (by kernel_rfl) rfl)) (fun hg10 => (Y_move (v := vi i) rfl rfl)) ?_
    refine sgq 55 (B := (!((kind == 2) || (kind == 3)))) (v := vi j) rfl rfl (wt_f (gd_of (t := 53) (by kernel_rfl) rfl)) (fun hg11 => (Y_move (v := vi j) rfl rfl)) ?_
    refine sgq 56 (B := (!((kind == 2) || (kind == 3)))) (v := .bool (i != j)) rfl rfl (wt_f (gd_of (t := 53) (by kernel_rfl) rfl)) (fun hg12 => (Y_ne (k := .i64) (a := i) (b := j) rfl (gv_of (B := (!((kind == 2) || (kind == 3)))) (v := vi i) hg12) (gv_of (B := (!((kind == 2) || (kind == 3)))) (v := vi j) hg12))) ?_
    refine sq 57 rfl rfl (Y_or (b := ((kind == 2) || (kind == 3))) (z := (i != j)) rfl rfl rfl rfl) ?_
    refine sq 46 rfl rfl (Y_assign (v := .bool (((kind == 2) || (kind == 3)) || (i != j))) rfl rfl) ?_
    refine rw_nil ?_
    refine cw_cond (b := (((kind == 2) || (kind == 3)) || (i != j))) rfl (fun hb4 => ?_) (fun hb4 => ?_)
    ·skip
     have hF10 := ct hF9 hb4
     refine cw_seq ?_
     refine cw_region ?_
     refine sq 58 rfl rfl (Y_buildS (zs := [vi 0, vi 0, vi 0, vi 0, vi 0]) (vs := []) (cs := [vi 0, vi 0, vi 0, vi 0, vi 0]) k_pl_44 k_zero_44 rfl mpn rfl) ?_
     refine ss0 rfl rfl (Ys_store (i := 0) (s := 5) (B := aD b) (T' := 44) (v := .agg #[vi 0, vi 0, vi 0, vi 0, vi 0]) (vs := [vi 0, vi 0, vi 0, vi 0, vi 0]) (k := 0) (cs' := [vi 0, vi 0, vi 0, vi 0, vi 0]) hS15 k_sz_44_5 rfl rfl rfl rfl rfl rfl rfl (Nat.le_of_ble_eq_true rfl) rfl rfl) ?_
     rintro _ w_15 ⟨rfl, hS23⟩
     have hS23 : ST w0 [] _ [⟨aD b, 44, [vi 0, vi 0, vi 0, vi 0, vi 0], 5⟩, ⟨aD b1, 44, [vi 1, vi 0, vi 0, vi 0, vi 1], 5⟩] [] := hS23
     refine rw_nil ?_
     refine cw_ret ?_
     obtain rfl := some_inj hF10
     exact ret1 Tryd.results48 (v1 := .agg #[vi 0, vi 0, vi 0, vi 0, vi 0]) (resAt_cellA (B := aD b) (i := 0) (cs := [vi 0, vi 0, vi 0, vi 0, vi 0]) (vs := [vi 0, vi 0, vi 0, vi 0, vi 0]) rfl k_ag_44 k_sz_44_5 (hS23.cf (i := 0) rfl) rfl rfl) ⟨rfl, (ST.subR (R' := []) (hS23.sel [] rfl rfl) (fun _ h => by cases h))⟩
    ·skip
     have hF11 := cf' hF9 hb4
     refine cw_seq ?_
     refine cw_region ?_
     refine sq 60 rfl rfl (Y_move (v := vi i) rfl rfl) ?_
     refine sq 61 rfl rfl (Y_eq (k := .i64) (a := i) (b := 0) rfl rfl rfl) ?_
     refine sq 59 rfl rfl (Y_assign (v := .bool (i == 0)) rfl rfl) ?_
     refine rw_nil ?_
     refine cw_cond (b := (i == 0)) rfl (fun hb5 => ?_) (fun hb5 => ?_)
     ·skip
      have hF12 := ct hF11 hb5
      refine cw_seq ?_
      refine cw_region ?_
      obtain ⟨r_3, hc2, hF12⟩ := bind_inv hF12
      refine sc 62 rfl rfl (Yc_func (g := 13) (vs := [vi 1]) k_call_13 rfl (mc rfl mn) (c_impl_whole 1 _  (hS15.inn0 [] rfl) hc2)) ?_
      rintro _ w_16 ⟨rfl, hd2⟩
      have hS24 := hS15.out00 hd2
      have hS24 : ST w0 [] _ [⟨aD b, 44, [vi 0, vi 0, vi 0, vi 0, vi 0], 5⟩, ⟨aD b1, 44, [vi 1, vi 0, vi 0, vi 0, vi 1], 5⟩] [] := hS24
      refine ss0 rfl rfl (Ys_store (i := 0) (s := 5) (B := aD b) (T' := 44) (v := .agg #[vi r_3.Num.A, vi r_3.Num.B, vi r_3.Num.C, vi r_3.Num.D, vi r_3.Exp]) (vs := [vi r_3.Num.A, vi r_3.Num.B, vi r_3.Num.C, vi r_3.Num.D, vi r_3.Exp]) (k := 0) (cs' := [vi r_3.Num.A, vi r_3.Num.B, vi r_3.Num.C, vi r_3.Num.D, vi r_3.Exp]) hS24 k_sz_44_5 rfl rfl rfl rfl rfl rfl rfl (Nat.le_of_ble_eq_true rfl) rfl rfl) ?_
      rintro _ w_17 ⟨rfl, hS25⟩
      have hS25 : ST w0 [] _ [⟨aD b, 44, [vi r_3.Num.A, vi r_3.Num.B, vi r_3.Num.C, vi r_3.Num.D, vi r_3.Exp], 5⟩, ⟨aD b1, 44, [vi 1, vi 0, vi 0, vi 0, vi 1], 5⟩] [] := hS25
      refine rw_nil ?_
      refine cw_ret ?_
      obtain rfl := some_inj hF12
      exact ret1 Tryd.results48 (v1 := .agg #[vi r_3.Num.A, vi r_3.Num.B, vi r_3.Num.C, vi r_3.Num.D, vi r_3.Exp]) (resAt_cellA (B := aD b) (i := 0) (cs := [vi r_3.Num.A, vi r_3.Num.B, vi r_3.Num.C, vi r_3.Num.D, vi r_3.Exp]) (vs := [vi r_3.Num.A, vi r_3.Num.B, vi r_3.Num.C, vi r_3.Num.D, vi r_3.Exp]) rfl k_ag_44 k_sz_44_5 (hS25.cf (i := 0) rfl) rfl rfl) ⟨rfl, (ST.subR (R' := []) (hS25.sel [] rfl rfl) (fun _ h => by cases h))⟩
     ·skip
      have hF13 := cf' hF11 hb5
      refine cw_skip ?_
      refine cw_seq ?_
      refine cw_region ?_
      refine sq 63 rfl rfl (Y_move (v := .map (some g)) rfl rfl) ?_
      refine sq 64 rfl rfl (Y_move (v := vi kind) rfl rfl) ?_
      refine sq 65 rfl rfl (Y_lookup (kd := .i64) (ed := .i64) (k := kind) (l := [(4, 4), (5, 2), (6, 6), (7, 1), (8, 7)]) hS14.here rfl k_map_96_3_3 k_int_3_i64 k_zero_3 rfl rfl rfl) ?_
      obtain ⟨r_4, hc3, hF13⟩ := bind_inv hF13
      refine sc 66 rfl rfl (Yc_func (g := 43) (vs := [vi (mget [(4, 4), (5, 2), (6, 6), (7, 1), (8, 7)] kind)]) k_call_43 rfl (mc rfl mn) (c_impl_phase (mget [(4, 4), (5, 2), (6, 6), (7, 1), (8, 7)] kind) _  (hS15.inn0 [] rfl) hc3)) ?_
      rintro _ w_18 ⟨rfl, hd3⟩
      have hS26 := hS15.out00 hd3
      have hS26 : ST w0 [] _ [⟨aD b, 44, [vi 0, vi 0, vi 0, vi 0, vi 0], 5⟩, ⟨aD b1, 44, [vi 1, vi 0, vi 0, vi 0, vi 1], 5⟩] [] := hS26
      refine ss0 rfl rfl (Ys_store (i := 0) (s := 5) (B := aD b) (T' := 44) (v := .agg #[vi r_4.Num.A, vi r_4.Num.B, vi r_4.Num.C, vi r_4.Num.D, vi r_4.Exp]) (vs := [vi r_4.Num.A, vi r_4.Num.B, vi r_4.Num.C, vi r_4.Num.D, vi r_4.Exp]) (k := 0) (cs' := [vi r_4.Num.A, vi r_4.Num.B, vi r_4.Num.C, vi r_4.Num.D, vi r_4.Exp]) hS26 k_sz_44_5 rfl rfl rfl rfl rfl rfl rfl (Nat.le_of_ble_eq_true rfl) rfl rfl) ?_
      rintro _ w_19 ⟨rfl, hS27⟩
      have hS27 : ST w0 [] _ [⟨aD b, 44, [vi r_4.Num.A, vi r_4.Num.B, vi r_4.Num.C, vi r_4.Num.D, vi r_4.Exp], 5⟩, ⟨aD b1, 44, [vi 1, vi 0, vi 0, vi 0, vi 1], 5⟩] [] := hS27
      refine rw_nil ?_
      refine cw_ret ?_
      obtain rfl := some_inj hF13
      exact ret1 Tryd.results48 (v1 := .agg #[vi r_4.Num.A, vi r_4.Num.B, vi r_4.Num.C, vi r_4.Num.D, vi r_4.Exp]) (resAt_cellA (B := aD b) (i := 0) (cs := [vi r_4.Num.A, vi r_4.Num.B, vi r_4.Num.C, vi r_4.Num.D, vi r_4.Exp]) (vs := [vi r_4.Num.A, vi r_4.Num.B, vi r_4.Num.C, vi r_4.Num.D, vi r_4.Exp]) rfl k_ag_44 k_sz_44_5 (hS27.cf (i := 0) rfl) rfl rfl) ⟨rfl, (ST.subR (R' := []) (hS27.sel [] rfl rfl) (fun _ h => by cases h))⟩

theorem c_impl_GateMatrix_1 (i : Int) (j : Int) (p : TGate) (p1 : Int) (B : Option Addr) (B1 : Option Addr) (w0 : World)  (hS : ST w0 [] w0 [] [⟨B, [vi p.Kind, vi p.A, vi p.B]⟩, ⟨B1, [vi p1]⟩]) {r_ : TDyadic} {r_1 : Bool} (hF : F_impl_GateMatrix_1 i j p p1 = some (r_, r_1)) :
  CV Tryd.prog 42 #[vi i, vi j, pt B 0, pt B1 0] w0 (fun v w' => v = .tuple #[.agg #[vi r_.Num.A, vi r_.Num.B, vi r_.Num.C, vi r_.Num.D, vi r_.Exp], .bool r_1] ∧ ST w0 [] w' [] []) := by
 unfold F_impl_GateMatrix_1 at hF
 refine cv_of_cw 75 Tryd.func42 rfl Tryd.ntmps42 rfl ?_
 refine cw_seq ?_
 refine cw_region ?_
 refine ss 6 rfl rfl (Ys_alloc (T := 44) (cs := [vi 0, vi 0, vi 0, vi 0, vi 0]) (m := 5) hS k_zero_44 rfl rfl rfl) ?_
 rintro _ w_ ⟨b, rfl, hS1⟩
 refine sq 7 rfl rfl (Y_assign (v := .bool false) rfl rfl) ?_
 refine rw_nil ?_
 refine cw_seq ?_
 obtain ⟨z, hz, hF1⟩ := bind_inv hF
 refine cw_mid (fun f w => .inl () = z ∧ FF f [(6, pt (aD b) 0)] ∧ ST w0 [] w [⟨aD b, 44, [vi 0, vi 0, vi 0, vi 0, vi 0], 5⟩] [⟨B, [vi p.Kind, vi p.A, vi p.B]⟩, ⟨B1, [vi p1]⟩]) ?_ ?_
 ·skip
  refine cw_block ?_
  refine cw_seq ?_
  refine cw_region ?_
  refine sq 9 rfl rfl (Y_fieldAddr (B := B) (i := 0) (s := 0) k_fd_64_0_0_3 k_sz_3_1 rfl rfl) ?_
  refine sq 10 rfl rfl (Y_load1 (B := B) (i := 0) (cs := [vi p.Kind, vi p.A, vi p.B]) (v := vi p.Kind) k_sc_3 rfl rfl (hS1.rf (i := 0) rfl) rfl) ?_
  refine sq 11 rfl rfl (Y_eq (k := .i64) (a := p.Kind) (b := 12) rfl rfl rfl) ?_
  refine sq 8 rfl rfl (Y_assign (v := .bool (p.Kind == 12)) rfl rfl) ?_
  refine rw_nil ?_
  refine cw_cond (b := (p.Kind == 12)) rfl (fun hb => ?_) (fun hb => ?_)
  ·skip
   have hF2 := ct hz hb
   refine cw_seq ?_
   refine cw_region ?_
   refine sq 12 rfl rfl (Y_move (v := vi i) rfl rfl) ?_
   refine sq 13 rfl rfl (Y_move (v := vi j) rfl rfl) ?_
   refine sq 14 rfl rfl (Y_eq (k := .i64) (a := i) (b := j) rfl rfl rfl) ?_
   refine rw_nil ?_
   refine cw_cond (b := (i == j)) rfl (fun hb1 => ?_) (fun hb1 => ?_)
   ·skip
    have hF3 := ct hF2 hb1
    refine cw_seq ?_
    refine cw_region ?_
    obtain ⟨r_2, hc, hF3⟩ := bind_inv hF3
    refine sc 15 rfl rfl (Yc_func (g := 43) (vs := [vi 1]) k_call_43 rfl (mc rfl mn) (c_impl_phase 1 _  (hS1.inn0 [] rfl) hc)) ?_
    rintro _ w_1 ⟨rfl, hd⟩
    have hS3 := hS1.out00 hd
    refine ss0 rfl rfl (Ys_store (i := 0) (s := 5) (B := aD b) (T' := 44) (v := .agg #[vi r_2.Num.A, vi r_2.Num.B, vi r_2.Num.C, vi r_2.Num.D, vi r_2.Exp]) (vs := [vi r_2.Num.A, vi r_2.Num.B, vi r_2.Num.C, vi r_2.Num.D, vi r_2.Exp]) (k := 0) (cs' := [vi r_2.Num.A, vi r_2.Num.B, vi r_2.Num.C, vi r_2.Num.D, vi r_2.Exp]) hS3 k_sz_44_5 rfl rfl rfl rfl rfl rfl rfl (Nat.le_of_ble_eq_true rfl) rfl rfl) ?_
    rintro _ w_2 ⟨rfl, hS4⟩
    refine sq 7 rfl rfl (Y_assign (v := .bool true) rfl rfl) ?_
    refine rw_nil ?_
    refine cw_ret ?_
    obtain rfl := some_inj hF3
    obtain ⟨rfl, rfl⟩ := pr2 (some_inj hF1)
    exact ret2 Tryd.results42 (v1 := .agg #[vi r_2.Num.A, vi r_2.Num.B, vi r_2.Num.C, vi r_2.Num.D, vi r_2.Exp]) (resAt_cellA (B := aD b) (i := 0) (cs := [vi r_2.Num.A, vi r_2.Num.B, vi r_2.Num.C, vi r_2.Num.D, vi r_2.Exp]) (vs := [vi r_2.Num.A, vi r_2.Num.B, vi r_2.Num.C, vi r_2.Num.D, vi r_2.Exp]) rfl k_ag_44 k_sz_44_5 (hS4.cf (i := 0) rfl) rfl rfl) (v2 := .bool true) (resAt_tmp rfl) ⟨rfl, (ST.subR (R' := []) (hS4.sel [] rfl rfl) (fun _ h => by cases h))⟩
   ·skip
    have hF4 := cf' hF2 hb1
    refine cw_skip ?_
    exact ⟨(some_inj hF4), (FF.cons rfl FF.nil), (hS1.sel [0] rfl rfl)⟩
  ·skip
   have hF5 := cf' hz hb
   refine cw_seq ?_
   refine cw_region ?_
   refine sq 17 rfl rfl (Y_fieldAddr (B := B) (i := 0) (s := 0) k_fd_64_0_0_3 k_sz_3_1 rfl rfl) ?_
   refine sq 18 rfl rfl (Y_load1 (B := B) (i := 0) (cs := [vi p.Kind, vi p.A, vi p.B]) (v := vi p.Kind) k_sc_3 rfl rfl (hS1.rf (i := 0) rfl) rfl) ?_
   obtain ⟨r_3, hc1, hF5⟩ := bind_inv hF5
   refine sc 19 rfl rfl (Yc_func (g := 44) (vs := [vi p.Kind]) k_call_44 rfl (mc rfl mn) (c_impl_isTwo p.Kind _  (hS1.inn0 [] rfl) hc1)) ?_
   rintro _ w_3 ⟨rfl, hd1⟩
   have hS5 := hS1.out00 hd1
   refine sq 16 rfl rfl (Y_assign (v := .bool r_3) rfl rfl) ?_
   refine rw_nil ?_
   refine cw_cond (b := r_3) rfl (fun hb2 => ?_) (fun hb2 => ?_)
   ·skip
    have hF6 := ct hF5 hb2
    refine cw_seq ?_
    refine cw_region ?_
    refine sq 20 rfl rfl (Y_load1 (B := B1) (i := 0) (cs := [vi p1]) (v := vi p1) k_sc_3 rfl rfl (hS5.rf (i := 1) rfl) rfl) ?_
    refine sq 21 rfl rfl (Y_loadA (B := B) (i := 0) (cs := [vi p.Kind, vi p.A, vi p.B]) (vs := [vi p.Kind, vi p.A, vi p.B]) k_ag_64 k_sz_64_3 rfl rfl (hS5.rf (i := 0) rfl) rfl rfl) ?_
    refine sq 22 rfl rfl (Y_move (v := vi i) rfl rfl) ?_
    obtain ⟨r_4, hc2, hF6⟩ := bind_inv hF6
    refine sc 23 rfl rfl (Yc_func (g := 45) (vs := [vi p1, .agg #[vi p.Kind, vi p.A, vi p.B], vi i]) k_call_45 rfl (mc rfl (mc rfl (mc rfl mn))) (c_impl_comesFrom p1 p i _  (hS5.inn0 [] rfl) hc2)) ?_
    rintro _ w_4 ⟨rfl, hd2⟩
    have hS6 := hS5.out00 hd2
    refine sq 24 rfl rfl (Y_move (v := vi j) rfl rfl) ?_
    refine sq 25 rfl rfl (Y_eq (k := .i64) (a := r_4) (b := j) rfl rfl rfl) ?_
    refine rw_nil ?_
    refine cw_cond (b := (r_4 == j)) rfl (fun hb3 => ?_) (fun hb3 => ?_)
    ·skip
     have hF7 := ct hF6 hb3
     refine cw_seq ?_
     refine cw_region ?_
     refine sq 26 rfl rfl (Y_fieldAddr (B := B) (i := 0) (s := 0) k_fd_64_0_0_3 k_sz_3_1 rfl rfl) ?_
     refine sq 27 rfl rfl (Y_load1 (B := B) (i := 0) (cs := [vi p.Kind, vi p.A, vi p.B]) (v := vi p.Kind) k_sc_3 rfl rfl (hS6.rf (i := 0) rfl) rfl) ?_
     refine sq 28 rfl rfl (Y_eq (k := .i64) (a := p.Kind) (b := 10) rfl rfl rfl) ?_
     refine sq 29 rfl rfl (Y_move (v := .bool (p.Kind == 10)) rfl rfl) ?_
     refine sgq 30 (B := (p.Kind == 10)) (v := vi p1) rfl rfl (wt_t (gd_of (t := 29) (by kernel_rfl) rfl)) (fun hg => (Y_load1 (B := B1) (i := 0) (cs := [vi p1]) (v := vi p1) k_sc_3 rfl rfl (hS6.rf (i := 1) rfl) rfl)) ?_
     refine sgq 31 (B := (p.Kind == 10)) (v := vi i) rfl rfl (wt_t (gd_of (t := 29) (by kernel_rfl) rfl)) (fun hg1 => (Y_move (v := vi i) rfl rfl)) ?_
     refine sgq 32 (B := (p.Kind == 10)) (v := pt B 1) rfl rfl (wt_t (gd_of (t := 29) (by kernel_rfl) rfl)) (fun hg2 => (Y_fieldAddr (B := B) (i := 0) (s := 0) k_fd_64_1_1_3 k_sz_3_1 rfl rfl)) ?_
     refine sgq 33 (B := (p.Kind == 10)) (v := vi p.A) rfl rfl (wt_t (gd_of (t := 29) (by kernel_rfl) rfl)) (fun hg3 => (Y_load1 (B := B) (i := 1) (cs := [vi p.Kind, vi p.A, vi p.B]) (v := vi p.A) k_sc_3 rfl (gv_of (B := (p.Kind == 10)) (v := pt B 1) hg3) (hS6.rf (i := 0) rfl) rfl)) ?_
     obtain ⟨r_5, hc3, hF7⟩ := bind_inv hF7
     refine sgc 34 (B := (p.Kind == 10)) (v := vi r_5) (F := hS6.fn) rfl rfl (wt_t (gd_of (t := 29) (by kernel_rfl) rfl)) hS6 (fun hg4 => (Yc_func (g := 46) (vs := [vi p1, vi i, vi p.A]) k_call_46 rfl (mc (gv_of (B := (p.Kind == 10)) (v := vi p1) hg4) (mc (gv_of (B := (p.Kind == 10)) (v := vi i) hg4) (mc (gv_of (B := (p.Kind == 10)) (v := vi p.A) hg4) mn))) (CV.mono (c_impl_bitOf p1 i p.A _  (hS6.inn0 [] rfl) (gb_inv hc3 hg4)) (by rintro _ _ ⟨rfl, h⟩; exact ⟨rfl, hS6.out00 h⟩)))) ?_
     rintro w_5 hS7
     have hS7 : ST _ _ w_5 _ _ := hS7
     refine sgq 35 (B := (p.Kind == 10)) (v := .bool (r_5 == 1)) rfl rfl (wt_t (gd_of (t := 29) (by kernel_rfl) rfl)) (fun hg5 => (Y_eq (k := .i64) (a := r_5) (b := 1) rfl (gv_of (B := (p.Kind == 10)) (v := vi r_5) hg5) rfl)) ?_
     refine sq 36 rfl rfl (Y_and (b := (p.Kind == 10)) (z := (r_5 == 1)) rfl rfl rfl rfl) ?_
     refine sq 37 rfl rfl (Y_move (v := .bool ((p.Kind == 10) && (r_5 == 1))) rfl rfl) ?_
     refine sgq 38 (B := ((p.Kind == 10) && (r_5 == 1))) (v := vi p1) rfl rfl (wt_t (gd_of (t := 37) (by kernel_rfl) rfl)) (fun hg6 => (Y_load1 (B := B1) (i := 0) (cs := [vi p1]) (v := vi p1) k_sc_3 rfl rfl (hS7.rf (i := 1) rfl) rfl)) ?_
     refine sgq 39 (B := ((p.Kind == 10) && (r_5 == 1))) (v := vi i) rfl rfl (wt_t (gd_of (t := 37) (by kernel_rfl) rfl)) (fun hg7 => (Y_move (v := vi i) rfl rfl)) ?_
     refine sgq 40 (B := ((p.Kind == 10) && (r_5 == 1))) (v := pt B 2) rfl rfl (wt_t (gd_of (t := 37) (by kernel_rfl) rfl)) (fun hg8 => (Y_fieldAddr (B := B) (i := 0) (s := 0) k_fd_64_2_2_3 k_sz_3_1 rfl rfl)) ?_
     refine sgq 41 (B := ((p.Kind == 10) && (r_5 == 1))) (v := vi p.B) rfl rfl (wt_t (gd_of (t := 37) (by kernel_rfl) rfl)) (fun hg9 => (Y_load1 (B := B) (i := 2) (cs := [vi p.Kind, vi p.A, vi p.B]) (v := vi p.B) k_sc_3 rfl (gv_of (B := ((p.Kind == 10) && (r_5 == 1))) (v := pt B 2) hg9) (hS7.rf (i := 0) rfl) rfl)) ?_
     obtain ⟨r_6, hc4, hF7⟩ := bind_inv hF7
     refine sgc 42 (B := ((p.Kind == 10) && (r_5 == 1))) (v := vi r_6) (F := hS7.fn) rfl rfl (wt_t (gd_of (t := 37) (by kernel_rfl) rfl)) hS7 (fun hg10 => (Yc_func (g := 46) (vs := [vi p1, vi i, vi p.B]) k_call_46 rfl (mc (gv_of (B := ((p.Kind == 10) && (r_5 == 1))) (v := vi p1) hg10) (mc (gv_of (B := ((p.Kind == 10) && (r_5 == 1))) (v := vi i) hg10) (mc (gv_of (B := ((p.Kind == 10) && (r_5 == 1))) (v := vi p.B) hg10) mn))) (CV.mono (c_impl_bitOf p1 i p.B _  (hS7.inn0 [] rfl) (gb_inv hc4 hg10)) (by rintro _ _ ⟨rfl, h⟩; exact ⟨rfl, hS7.out00 h⟩)))) ?_
     rintro w_6 hS8
     have hS8 : ST _ _ w_6 _ _ := hS8
     refine sgq 43 (B := ((p.Kind == 10) && (r_5 == 1))) (v := .bool (r_6 == 1)) rfl rfl (wt_t (gd_of (t := 37) (by kernel_rfl) rfl)) (fun hg11 => (Y_eq (k := .i64) (a := r_6) (b := 1) rfl (gv_of (B := ((p.Kind == 10) && (r_5 == 1))) (v := vi r_6) hg11) rfl)) ?_
     refine sq 44 rfl rfl (Y_and (b := ((p.Kind == 10) && (r_5 == 1))) (z := (r_6 == 1)) rfl rfl rfl rfl) ?_
     obtain ⟨r_7, hc5, hF7⟩ := bind_inv hF7
     refine sc 45 rfl rfl (Yc_func (g := 14) (vs := [.bool (((p.Kind == 10) && (r_5 == 1)) && (r_6 == 1))]) k_call_14 rfl (mc rfl mn) (c_impl_small (((p.Kind == 10) && (r_5 == 1)) && (r_6 == 1)) _  (hS8.inn0 [] rfl) hc5)) ?_
     rintro _ w_7 ⟨rfl, hd3⟩
     have hS9 := hS8.out00 hd3
     refine sq 46 rfl rfl (Y_mul (k := .i64) (a := 4) (b := r_7) rfl rfl rfl) ?_
     obtain ⟨r_8, hc6, hF7⟩ := bind_inv hF7
     refine sc 47 rfl rfl (Yc_func (g := 43) (vs := [vi (i64.wrap (4 * r_7))]) k_call_43 rfl (mc rfl mn) (c_impl_phase (i64.wrap (4 * r_7)) _  (hS9.inn0 [] rfl) hc6)) ?_
     rintro _ w_8 ⟨rfl, hd4⟩
     have hS10 := hS9.out00 hd4
     refine ss0 rfl rfl (Ys_store (i := 0) (s := 5) (B := aD b) (T' := 44) (v := .agg #[vi r_8.Num.A, vi r_8.Num.B, vi r_8.Num.C, vi r_8.Num.D, vi r_8.Exp]) (vs := [vi r_8.Num.A, vi r_8.Num.B, vi r_8.Num.C, vi r_8.Num.D, vi r_8.Exp]) (k := 0) (cs' := [vi r_8.Num.A, vi r_8.Num.B, vi r_8.Num.C, vi r_8.Num.D, vi r_8.Exp]) hS10 k_sz_44_5 rfl rfl rfl rfl rfl rfl rfl (Nat.le_of_ble_eq_true rfl) rfl rfl) ?_
     rintro _ w_9 ⟨rfl, hS11⟩
     refine sq 7 rfl rfl (Y_assign (v := .bool true) rfl rfl) ?_
     refine rw_nil ?_
     refine cw_ret ?_
     obtain rfl := some_inj hF7
     obtain ⟨rfl, rfl⟩ := pr2 (some_inj hF1)
     exact ret2 Tryd.results42 (v1 := .agg #[vi r_8.Num.A, vi r_8.Num.B, vi r_8.Num.C, vi r_8.Num.D, vi r_8.Exp]) (resAt_cellA (B := aD b) (i := 0) (cs := [vi r_8.Num.A, vi r_8.Num.B, vi r_8.Num.C, vi r_8.Num.D, vi r_8.Exp]) (vs := [vi r_8.Num.A, vi r_8.Num.B, vi r_8.Num.C, vi r_8.Num.D, vi r_8.Exp]) rfl k_ag_44 k_sz_44_5 (hS11.cf (i := 0) rfl) rfl rfl) (v2 := .bool true) (resAt_tmp rfl) ⟨rfl, (ST.subR (R' := []) (hS11.sel [] rfl rfl) (fun _ h => by cases h))⟩
    ·skip
     have hF8 := cf' hF6 hb3
     refine cw_skip ?_
     exact ⟨(some_inj hF8), (FF.cons rfl FF.nil), (hS6.sel [0] rfl rfl)⟩
   ·skip
    have hF9 := cf' hF5 hb2
    refine cw_seq ?_
    refine cw_region ?_
    refine sq 49 rfl rfl (Y_move (v := vi i) rfl rfl) ?_
    refine sq 50 rfl rfl (Y_move (v := vi j) rfl rfl) ?_
    refine sq 51 rfl rfl (Y_eq (k := .i64) (a := i) (b := j) rfl rfl rfl) ?_
    refine sq 52 rfl rfl (Y_move (v := .bool (i == j)) rfl rfl) ?_
    refine sgq 53 (B := (!(i == j))) (v := vi p1) rfl rfl (wt_f (gd_of (t := 52) (by kernel_rfl) rfl)) (fun hg12 => (Y_load1 (B := B1) (i := 0) (cs := [vi p1]) (v := vi p1) k_sc_3 rfl rfl (hS5.rf (i := 1) rfl) rfl)) ?_
    refine sgq 54 (B := (!(i == j))) (v := vi i) rfl rfl (wt_f (gd_of (t := 52) (by kernel_rfl) rfl)) (fun hg13 => (Y_move (v := vi i) rfl rfl)) ?_
    refine sgq 55 (B := (!(i == j))) (v := pt B 1) rfl rfl (wt_f (gd_of (t := 52) (by kernel_rfl) rfl)) (fun hg14 => (Y_fieldAddr (B := B) (i := 0) (s := 0) k_fd_64_1_1_3 k_sz_3_1 rfl rfl)) ?_
    refine sgq 56 (B := (!(i == j))) (v := vi p.A) rfl rfl (wt_f (gd_of (t := 52) (by kernel_rfl) rfl)) (fun hg15 => (Y_load1 (B := B) (i := 1) (cs := [vi p.Kind, vi p.A, vi p.B]) (v := vi p.A) k_sc_3 rfl (gv_of (B := (!(i == j))) (v := pt B 1) hg15) (hS5.rf (i := 0) rfl) rfl)) ?_
    obtain ⟨r_9, hc7, hF9⟩ := bind_inv hF9
    refine sgc 57 (B := (!(i == j))) (v := vi r_9) (F := hS5.fn) rfl rfl (wt_f (gd_of (t := 52) (by kernel_rfl) rfl)) hS5 (fun hg16 => (Yc_func (g := 47) (vs := [vi p1, vi i, vi p.A]) k_call_47 rfl (mc (gv_of (B := (!(i == j))) (v := vi p1) hg16) (mc (gv_of (B := (!(i == j))) (v := vi i) hg16) (mc (gv_of (B := (!(i == j))) (v := vi p.A) hg16) mn))) (CV.mono (c_impl_flipped p1 i p.A _  (hS5.inn0 [] rfl) (gb_inv hc7 hg16)) (by rintro _ _ ⟨rfl, h⟩; exact ⟨rfl, hS5.out00 h⟩)))) ?_
    rintro w_10 hS12
    have hS12 : ST _ _ w_10 _ _ := hS12
    refine sgq 58 (B := (!(i == j))) (v := vi j) rfl rfl (wt_f (gd_of (t := 52) (by kernel_rfl) rfl)) (fun hg17 => (Y_move (v := vi j) rfl rfl)) ?_
    refine sgq 59 (B := (!(i == j))) (v := .bool (r_9 == j)) rfl rfl (wt_f (gd_of (t := 52) (by kernel_rfl) rfl)) (fun hg18 => (Y_eq (k := .i64) (a := r_9) (b := j) rfl (gv_of (B := (!(i == j))) (v := vi r_9) hg18) (gv_of (B := (!(i == j))) (v := vi j) hg18))) ?_
    refine sq 60 rfl rfl (Y_or (b := (i == j)) (z := (r_9 == j)) rfl rfl rfl rfl) ?_
    refine sq 48 rfl rfl (Y_assign (v := .bool ((i == j) || (r_9 == j))) rfl rfl) ?_
    refine rw_nil ?_
    refine cw_cond (b := ((i == j) || (r_9 == j))) rfl (fun hb4 => ?_) (fun hb4 => ?_)
    ·skip
     have hF10 := ct hF9 hb4
     refine cw_seq ?_
     obtain ⟨r_10, hc8, hF10⟩ := bind_inv hF10
     obtain ⟨r_11, hc9, hF10⟩ := bind_inv hF10
     obtain ⟨r_12, hc10, hF10⟩ := bind_inv hF10
     refine ra_start (ST.sel hS12 [] rfl rfl).fn (by kernel_rfl) ?_
     have hS16 := hS12.drew
     refine ra_q 0 61 (v := pt B 0) rfl rfl rfl (by kernel_rfl) (by kernel_rfl) (by kernel_rfl) (ST.sel hS16 [] rfl rfl) (fun w' hw' => (Y_fieldAddr (B := B) (i := 0) (s := 0) k_fd_64_0_0_3 k_sz_3_1 rfl rfl)) ?_
     refine ra_q 1 62 (v := vi p.Kind) rfl rfl rfl (by kernel_rfl) (by kernel_rfl) (by kernel_rfl) (ST.sel hS16 [] rfl rfl) (fun w' hw' => (Y_load1 (B := B) (i := 0) (cs := [vi p.Kind, vi p.A, vi p.B]) (v := vi p.Kind) k_sc_3 rfl rfl (ST.rf hw' (i := 0) rfl) rfl)) ?_
     refine ra_q 2 63 (v := vi p1) rfl rfl rfl (by kernel_rfl) (by kernel_rfl) (by kernel_rfl) (ST.sel hS16 [] rfl rfl) (fun w' hw' => (Y_load1 (B := B1) (i := 0) (cs := [vi p1]) (v := vi p1) k_sc_3 rfl rfl (ST.rf hw' (i := 1) rfl) rfl)) ?_
     refine ra_q 3 64 (v := vi i) rfl rfl rfl (by kernel_rfl) (by kernel_rfl) (by kernel_rfl) (ST.sel hS16 [] rfl rfl) (fun w' hw' => (Y_move (v := vi i) rfl rfl)) ?_
     refine ra_q 4 65 (v := pt B 1) rfl rfl rfl (by kernel_rfl) (by kernel_rfl) (by kernel_rfl) (ST.sel hS16 [] rfl rfl) (fun w' hw' => (Y_fieldAddr (B := B) (i := 0) (s := 0) k_fd_64_1_1_3 k_sz_3_1 rfl rfl)) ?_
     refine ra_q 5 66 (v := vi p.A) rfl rfl rfl (by kernel_rfl) (by kernel_rfl) (by kernel_rfl) (ST.sel hS16 [] rfl rfl) (fun w' hw' => (Y_load1 (B := B) (i := 1) (cs := [vi p.Kind, vi p.A, vi p.B]) (v := vi p.A) k_sc_3 rfl rfl (ST.rf hw' (i := 0) rfl) rfl)) ?_
     refine ra_q 7 68 (v := vi p1) rfl rfl rfl (by kernel_rfl) (by kernel_rfl) (by kernel_rfl) (ST.sel hS16 [] rfl rfl) (fun w' hw' => (Y_load1 (B := B1) (i := 0) (cs := [vi p1]) (v := vi p1) k_sc_3 rfl rfl (ST.rf hw' (i := 1) rfl) rfl)) ?_
     refine ra_q 8 69 (v := vi j) rfl rfl rfl (by kernel_rfl) (by kernel_rfl) (by kernel_rfl) (ST.sel hS16 [] rfl rfl) (fun w' hw' => (Y_move (v := vi j) rfl rfl)) ?_
     refine ra_q 9 70 (v := pt B 1) rfl rfl rfl (by kernel_rfl) (by kernel_rfl) (by kernel_rfl) (ST.sel hS16 [] rfl rfl) (fun w' hw' => (Y_fieldAddr (B := B) (i := 0) (s := 0) k_fd_64_1_1_3 k_sz_3_1 rfl rfl)) ?_
     refine ra_q 10 71 (v := vi p.A) rfl rfl rfl (by kernel_rfl) (by kernel_rfl) (by kernel_rfl) (ST.sel hS16 [] rfl rfl) (fun w' hw' => (Y_load1 (B := B) (i := 1) (cs := [vi p.Kind, vi p.A, vi p.B]) (v := vi p.A) k_sc_3 rfl rfl (ST.rf hw' (i := 0) rfl) rfl)) ?_
     refine ra_all (rs := [6]) (by kernel_rfl) rfl ?_
     refine ra_c 67 (i := 6) rfl rfl rfl (Yc_func (g := 46) (vs := [vi p1, vi i, vi p.A]) k_call_46 rfl (mc rfl (mc rfl (mc rfl mn))) (c_impl_bitOf p1 i p.A _  (hS16.inn0 [] rfl) hc8)) ?_ ?_
     ·rintro _ w_11 ⟨rfl, hd5⟩
      have hS17 := hS16.out00 hd5
      refine ⟨(ST.sel hS17 [] rfl rfl), ?_⟩
      refine ra_all (rs := [11]) (by kernel_rfl) rfl ?_
      refine ra_c 72 (i := 11) rfl rfl rfl (Yc_func (g := 46) (vs := [vi p1, vi j, vi p.A]) k_call_46 rfl (mc rfl (mc rfl (mc rfl mn))) (c_impl_bitOf p1 j p.A _  (hS17.inn0 [] rfl) hc9)) ?_ ?_
      ·rintro _ w_12 ⟨rfl, hd6⟩
       have hS18 := hS17.out00 hd6
       refine ⟨(ST.sel hS18 [] rfl rfl), ?_⟩
       refine ra_all (rs := [12]) (by kernel_rfl) rfl ?_
       refine ra_c 73 (i := 12) rfl rfl rfl (Yc_func (g := 48) (vs := [vi p.Kind, vi r_10, vi r_11]) k_call_48 rfl (mc rfl (mc rfl (mc rfl mn))) (c_impl_entry p.Kind r_10 r_11 _  (hS18.inn0 [] rfl) hc10)) ?_ ?_
       ·rintro _ w_13 ⟨rfl, hd7⟩
        have hS19 := hS18.out00 hd7
        refine ⟨(ST.sel hS19 [] rfl rfl), ?_⟩
        refine ra_all (rs := [13]) (by kernel_rfl) rfl ?_
        refine ra_s0 (i := 13) rfl rfl rfl (Ys_store (i := 0) (s := 5) (B := aD b) (T' := 44) (v := .agg #[vi r_12.Num.A, vi r_12.Num.B, vi r_12.Num.C, vi r_12.Num.D, vi r_12.Exp]) (vs := [vi r_12.Num.A, vi r_12.Num.B, vi r_12.Num.C, vi r_12.Num.D, vi r_12.Exp]) (k := 0) (cs' := [vi r_12.Num.A, vi r_12.Num.B, vi r_12.Num.C, vi r_12.Num.D, vi r_12.Exp]) hS19 k_sz_44_5 rfl rfl rfl rfl rfl rfl rfl (Nat.le_of_ble_eq_true rfl) rfl rfl) ?_ ?_
        ·rintro _ w_14 ⟨rfl, hS20⟩
         refine ⟨(ST.sel hS20 [] rfl rfl), ?_⟩
         refine ra_q 14 7 (v := .bool true) rfl rfl rfl (by kernel_rfl) (by kernel_rfl) (by kernel_rfl) (ST.sel hS20 [] rfl rfl) (fun w' hw' => (Y_assign (v := .bool true) rfl rfl)) ?_
         refine ra_done (by kernel_rfl) ?_
         refine cw_ret ?_
         obtain rfl := some_inj hF10
         obtain ⟨rfl, rfl⟩ := pr2 (some_inj hF1)
         exact ret2 Tryd.results42 (v1 := .agg #[vi r_12.Num.A, vi r_12.Num.B, vi r_12.Num.C, vi r_12.Num.D, vi r_12.Exp]) (resAt_cellA (B := aD b) (i := 0) (cs := [vi r_12.Num.A, vi r_12.Num.B, vi r_12.Num.C, vi r_12.Num.D, vi r_12.Exp]) (vs := [vi r_12.Num.A, vi r_12.Num.B, vi r_12.Num.C, vi r_12.Num.D, vi r_12.Exp]) rfl k_ag_44 k_sz_44_5 (hS20.cf (i := 0) rfl) rfl rfl) (v2 := .bool true) (resAt_tmp rfl) ⟨rfl, (ST.subR (R' := []) (hS20.sel [] rfl rfl) (fun _ h => by cases h))⟩
        exact allR_nil
       exact allR_nil
      exact allR_nil
     exact allR_nil
    ·skip
     have hF11 := cf' hF9 hb4
     refine cw_skip ?_
     exact ⟨(some_inj hF11), (FF.cons rfl FF.nil), (hS12.sel [0] rfl rfl)⟩
 rintro f w ⟨rfl, hf, hS2⟩
 refine cw_seq ?_
 refine cw_region ?_
 refine sq 74 rfl rfl (Y_buildS (zs := [vi 0, vi 0, vi 0, vi 0, vi 0]) (vs := []) (cs := [vi 0, vi 0, vi 0, vi 0, vi 0]) k_pl_44 k_zero_44 rfl mpn rfl) ?_
 refine ss0 rfl rfl (Ys_store (i := 0) (s := 5) (B := aD b) (T' := 44) (v := .agg #[vi 0, vi 0, vi 0, vi 0, vi 0]) (vs := [vi 0, vi 0, vi 0, vi 0, vi 0]) (k := 0) (cs' := [vi 0, vi 0, vi 0, vi 0, vi 0]) hS2 k_sz_44_5 rfl (hf.get 6 0 rfl) rfl rfl rfl rfl rfl (Nat.le_of_ble_eq_true rfl) rfl rfl) ?_
 rintro _ w_15 ⟨rfl, hS21⟩
 refine sq 7 rfl rfl (Y_assign (v := .bool true) rfl rfl) ?_
 refine rw_nil ?_
 refine cw_ret ?_
 obtain ⟨rfl, rfl⟩ := pr2 (some_inj hF1)
 exact ret2 Tryd.results42 (v1 := .agg #[vi 0, vi 0, vi 0, vi 0, vi 0]) (resAt_cellA (B := aD b) (i := 0) (cs := [vi 0, vi 0, vi 0, vi 0, vi 0]) (vs := [vi 0, vi 0, vi 0, vi 0, vi 0]) (hf.get 6 0 rfl) k_ag_44 k_sz_44_5 (hS21.cf (i := 0) rfl) rfl rfl) (v2 := .bool true) (resAt_tmp rfl) ⟨rfl, (ST.subR (R' := []) (hS21.sel [] rfl rfl) (fun _ h => by cases h))⟩

theorem c_impl_GateMatrix (n : Int) (g : TGate)  (w0 : World)  (hS : ST w0 [] w0 [] []) {r_ : TMatrix} {r_1 : Bool} (hF : F_impl_GateMatrix n g = some (r_, r_1)) :
  CV Tryd.prog 26 #[vi n, .agg #[vi g.Kind, vi g.A, vi g.B]] w0 (fun v w' => ∃ (B : Option Addr) (c : Nat), v = .tuple #[.agg #[vi r_.Rows, vi r_.Cols, .slice B r_.Cells.length c], .bool r_1] ∧ ST w0 [] w' [⟨B, 44, (r_.Cells.flatMap eN0), c * 5⟩] []) := by
 unfold F_impl_GateMatrix at hF
 refine cv_of_cw 19 Tryd.func26 rfl Tryd.ntmps26 rfl ?_
 refine cw_seq ?_
 refine cw_region ?_
 refine ss 2 rfl rfl (Ys_box (T := 3) (v := vi n) (cs := [vi n]) (m := 1) hS rfl rfl rfl rfl) ?_
 rintro _ w_ ⟨b, rfl, hS1⟩
 refine ss 3 rfl rfl (Ys_box (T := 64) (v := .agg #[vi g.Kind, vi g.A, vi g.B]) (cs := [vi g.Kind, vi g.A, vi g.B]) (m := 3) hS1 rfl rfl rfl rfl) ?_
 rintro _ w_1 ⟨b1, rfl, hS2⟩
 have hS2 : ST w0 [] _ [⟨aD b, 3, [vi n], 1⟩, ⟨aD b1, 64, [vi g.Kind, vi g.A, vi g.B], 3⟩] [] := hS2
 refine ss 4 rfl rfl (Ys_alloc (T := 38) (cs := [vi 0, vi 0, .slice none 0 0]) (m := 3) hS2 k_zero_38 rfl rfl rfl) ?_
 rintro _ w_2 ⟨b2, rfl, hS3⟩
 have hS3 : ST w0 [] _ [⟨aD b, 3, [vi n], 1⟩, ⟨aD b1, 64, [vi g.Kind, vi g.A, vi g.B], 3⟩, ⟨aD b2, 38, [vi 0, vi 0, .slice none 0 0], 3⟩] [] := hS3
 refine sq 5 rfl rfl (Y_assign (v := .bool false) rfl rfl) ?_
 refine rw_nil ?_
 refine cw_seq ?_
 refine cw_seq ?_
 refine cw_region ?_
 refine sq 6 rfl rfl (Y_load1 (B := aD b) (i := 0) (cs := [vi n]) (v := vi n) k_sc_3 rfl rfl (hS3.cf (i := 0) rfl) rfl) ?_
 refine sq 7 rfl rfl (Y_loadA (B := aD b1) (i := 0) (cs := [vi g.Kind, vi g.A, vi g.B]) (vs := [vi g.Kind, vi g.A, vi g.B]) k_ag_64 k_sz_64_3 rfl rfl (hS3.cf (i := 1) rfl) rfl rfl) ?_
 obtain ⟨r_2, hc, hF⟩ := bind_inv hF
 refine sc 8 rfl rfl (Yc_func (g := 40) (vs := [vi n, .agg #[vi g.Kind, vi g.A, vi g.B]]) k_call_40 rfl (mc rfl (mc rfl mn)) (c_impl_IsValidGate n g _  (hS3.inn0 [] rfl) hc)) ?_
 rintro _ w_3 ⟨rfl, hd⟩
 have hS4 := hS3.out00 hd
 have hS4 : ST w0 [] _ [⟨aD b, 3, [vi n], 1⟩, ⟨aD b1, 64, [vi g.Kind, vi g.A, vi g.B], 3⟩, ⟨aD b2, 38, [vi 0, vi 0, .slice none 0 0], 3⟩] [] := hS4
 refine sq 9 rfl rfl (Y_not (p := r_2) rfl rfl) ?_
 refine rw_nil ?_
 refine cw_cond (b := (!r_2)) rfl (fun hb => ?_) (fun hb => ?_)
 ·skip
  have hF1 := ct hF hb
  refine cw_seq ?_
  refine cw_region ?_
  refine sq 10 rfl rfl (Y_buildS (zs := [vi 0, vi 0, .slice none 0 0]) (vs := []) (cs := [vi 0, vi 0, .slice none 0 0]) k_pl_38 k_zero_38 rfl mpn rfl) ?_
  refine ss0 rfl rfl (Ys_store (i := 2) (s := 3) (B := aD b2) (T' := 38) (v := .agg #[vi 0, vi 0, .slice none 0 0]) (vs := [vi 0, vi 0, .slice none 0 0]) (k := 0) (cs' := [vi 0, vi 0, .slice none 0 0]) hS4 k_sz_38_3 rfl rfl rfl rfl rfl rfl rfl (Nat.le_of_ble_eq_true rfl) rfl rfl) ?_
  rintro _ w_4 ⟨rfl, hS5⟩
  have hS5 : ST w0 [] _ [⟨aD b, 3, [vi n], 1⟩, ⟨aD b1, 64, [vi g.Kind, vi g.A, vi g.B], 3⟩, ⟨aD b2, 38, [vi 0, vi 0, .slice none 0 0], 3⟩] [] := hS5
  refine sq 5 rfl rfl (Y_assign (v := .bool false) rfl rfl) ?_
  refine rw_nil ?_
  refine cw_ret ?_
  have hS6 := hS5.addNil 44
  obtain ⟨rfl, rfl⟩ := pr2 (some_inj hF1)
  exact ret2 Tryd.results26 (v1 := .agg #[vi 0, vi 0, .slice none 0 0]) (resAt_cellA (B := aD b2) (i := 0) (cs := [vi 0, vi 0, .slice none 0 0]) (vs := [vi 0, vi 0, .slice none 0 0]) rfl k_ag_38 k_sz_38_3 (hS6.cf (i := 2) rfl) rfl rfl) (v2 := .bool false) (resAt_tmp rfl) ⟨none, 0, rfl, (ST.subR (R' := []) (hS6.sel [3] rfl rfl) (fun _ h => by cases h))⟩
 ·skip
  have hF2 := cf' hF hb
  refine cw_skip ?_
  refine cw_seq ?_
  obtain ⟨hsh, hF2⟩ := chk_inv hF2
  obtain ⟨hsh1, hF2⟩ := chk_inv hF2
  obtain ⟨⟨r_3, r_4⟩, hc1, hF2⟩ := bind_inv hF2
  refine ra_start (ST.sel hS4 [0, 1] rfl rfl).fn (by kernel_rfl) ?_
  have hS8 := hS4.drew
  refine ra_q 0 11 (v := vi n) rfl rfl rfl (by kernel_rfl) (by kernel_rfl) (by kernel_rfl) (ST.sel hS8 [0, 1] rfl rfl) (fun w' hw' => (Y_load1 (B := aD b) (i := 0) (cs := [vi n]) (v := vi n) k_sc_3 rfl rfl (ST.cf hw' (i := 0) rfl) rfl)) ?_
  refine ra_q 1 12 (v := vi (shlK .i64 1 n)) rfl rfl rfl (by kernel_rfl) (by kernel_rfl) (by kernel_rfl) (ST.sel hS8 [0, 1] rfl rfl) (fun w' hw' => (Y_shl (k := .i64) (a := 1) (k' := .i64) (b := n) rfl rfl rfl hsh)) ?_
  refine ra_q 2 13 (v := vi n) rfl rfl rfl (by kernel_rfl) (by kernel_rfl) (by kernel_rfl) (ST.sel hS8 [0, 1] rfl rfl) (fun w' hw' => (Y_load1 (B := aD b) (i := 0) (cs := [vi n]) (v := vi n) k_sc_3 rfl rfl (ST.cf hw' (i := 0) rfl) rfl)) ?_
  refine ra_q 3 14 (v := vi (shlK .i64 1 n)) rfl rfl rfl (by kernel_rfl) (by kernel_rfl) (by kernel_rfl) (ST.sel hS8 [0, 1] rfl rfl) (fun w' hw' => (Y_shl (k := .i64) (a := 1) (k' := .i64) (b := n) rfl rfl rfl hsh1)) ?_
  refine ra_q 4 15 (v := .func (.func 42) #[] #[pt (aD b1) 0, pt (aD b) 0]) rfl rfl rfl (by kernel_rfl) (by kernel_rfl) (by kernel_rfl) (ST.sel hS8 [0, 1] rfl rfl) (fun w' hw' => (Y_makeFunc (cs := [pt (aD b1) 0, pt (aD b) 0]) rfl rfl (mc rfl (mc rfl mn)))) ?_
  refine ra_all (rs := [5]) (by kernel_rfl) rfl ?_
  refine ra_c 16 (i := 5) rfl rfl rfl (Yc_func (g := 41) (vs := [vi (shlK .i64 1 n), vi (shlK .i64 1 n), .func (.func 42) #[] #[pt (aD b1) 0, pt (aD b) 0]]) k_call_41 rfl (mc rfl (mc rfl (mc rfl mn))) (c_impl_matrixOf (shlK .i64 1 n) (shlK .i64 1 n) (fun x_0 x_1 => F_impl_GateMatrix_1 x_0 x_1 g n) 42 (#[pt (aD b1) 0, pt (aD b) 0]) [⟨aD b1, [vi g.Kind, vi g.A, vi g.B]⟩, ⟨aD b, [vi n]⟩] _ k_call_42 (fun w hw x_0 x_1 y_0 y_1 h_ => c_impl_GateMatrix_1 x_0 x_1 g n (aD b1) (aD b) w  hw h_) (hS8.inn0 [(false, 1), (false, 0)] rfl) hc1)) ?_ ?_
  ·rintro _ w_5 ⟨B1, c1, rfl, hd1⟩
   have hS9 := hS8.out0 hd1
   have hS9 : ST w0 [] _ [⟨aD b, 3, [vi n], 1⟩, ⟨aD b1, 64, [vi g.Kind, vi g.A, vi g.B], 3⟩, ⟨aD b2, 38, [vi 0, vi 0, .slice none 0 0], 3⟩, ⟨B1, 44, (r_3.Cells.flatMap eN0), c1 * 5⟩] [] := hS9
   refine ⟨(ST.sel hS9 [0, 1] rfl rfl), ?_⟩
   refine ra_q 6 17 (v := .agg #[vi r_3.Rows, vi r_3.Cols, .slice B1 r_3.Cells.length c1]) rfl rfl rfl (by kernel_rfl) (by kernel_rfl) (by kernel_rfl) (ST.sel hS9 [0, 1] rfl rfl) (fun w' hw' => (Y_extract (v := .agg #[vi r_3.Rows, vi r_3.Cols, .slice B1 r_3.Cells.length c1]) rfl rfl rfl)) ?_
   refine ra_q 7 18 (v := .bool r_4) rfl rfl rfl (by kernel_rfl) (by kernel_rfl) (by kernel_rfl) (ST.sel hS9 [0, 1] rfl rfl) (fun w' hw' => (Y_extract (v := .bool r_4) rfl rfl rfl)) ?_
   refine ra_all (rs := [8]) (by kernel_rfl) rfl ?_
   refine ra_s0 (i := 8) rfl rfl rfl (Ys_store (i := 2) (s := 3) (B := aD b2) (T' := 38) (v := .agg #[vi r_3.Rows, vi r_3.Cols, .slice B1 r_3.Cells.length c1]) (vs := [vi r_3.Rows, vi r_3.Cols, .slice B1 r_3.Cells.length c1]) (k := 0) (cs' := [vi r_3.Rows, vi r_3.Cols, .slice B1 r_3.Cells.length c1]) hS9 k_sz_38_3 rfl rfl rfl rfl rfl rfl rfl (Nat.le_of_ble_eq_true rfl) rfl rfl) ?_ ?_
   ·rintro _ w_6 ⟨rfl, hS10⟩
    have hS10 : ST w0 [] _ [⟨aD b, 3, [vi n], 1⟩, ⟨aD b1, 64, [vi g.Kind, vi g.A, vi g.B], 3⟩, ⟨aD b2, 38, [vi r_3.Rows, vi r_3.Cols, .slice B1 r_3.Cells.length c1], 3⟩, ⟨B1, 44, (r_3.Cells.flatMap eN0), c1 * 5⟩] [] := hS10
    refine ⟨(ST.sel hS10 [0, 1] rfl rfl), ?_⟩
    refine ra_q 9 5 (v := .bool r_4) rfl rfl rfl (by kernel_rfl) (by kernel_rfl) (by kernel_rfl) (ST.sel hS10 [0, 1] rfl rfl) (fun w' hw' => (Y_assign (v := .bool r_4) rfl rfl)) ?_
    refine ra_done (by kernel_rfl) ?_
    refine cw_ret ?_
    obtain ⟨rfl, rfl⟩ := pr2 (some_inj hF2)
    exact ret2 Tryd.results26 (v1 := .agg #[vi r_3.Rows, vi r_3.Cols, .slice B1 r_3.Cells.length c1]) (resAt_cellA (B := aD b2) (i := 0) (cs := [vi r_3.Rows, vi r_3.Cols, .slice B1 r_3.Cells.length c1]) (vs := [vi r_3.Rows, vi r_3.Cols, .slice B1 r_3.Cells.length c1]) rfl k_ag_38 k_sz_38_3 (hS10.cf (i := 2) rfl) rfl rfl) (v2 := .bool r_4) (resAt_tmp rfl) ⟨B1, c1, rfl, (ST.subR (R' := []) (hS10.sel [3] rfl rfl) (fun _ h => by cases h))⟩
   exact allR_nil
  exact allR_nil

theorem c_slices_IndexFunc_impl_Dyadic_impl_Dyadic (s : List TDyadic) (f_ : TDyadic → Option (Bool)) (B : Option Addr) (c n : Nat) (kf : Nat) (caps : Array Value) (Rf : List Ro) (w0 : World) (hn : s.length = n) (hk : callB Tryd.prog kf = true) (hp : ∀ (w : World), ST w [] w [] Rf → ∀ (x : TDyadic) (y : Bool), f_ x = some y → CV Tryd.prog kf ((.agg #[vi x.Num.A, vi x.Num.B, vi x.Num.C, vi x.Num.D, vi x.Exp]) :: caps.toList).toArray w (fun v w' => v = .bool y ∧ ST w [] w' [] [])) (hS : ST w0 [] w0 [] (⟨B, (s.flatMap eN0)⟩ :: Rf)) {r_ : Int} (hF : F_slices_IndexFunc_impl_Dyadic_impl_Dyadic s f_ = some r_) :
  CV Tryd.prog 91 #[.slice B n c, .func (.func kf) #[] caps] w0 (fun v w' => v = vi r_ ∧ ST w0 [] w' [] []) := by
 subst hn
 unfold F_slices_IndexFunc_impl_Dyadic_impl_Dyadic at hF
 refine cv_of_cw 19 Tryd.func91 rfl Tryd.ntmps91 rfl ?_
 refine cw_seq ?_
 refine cw_region ?_
 refine sq 4 rfl rfl (Y_assign (v := vi 0) rfl rfl) ?_
 refine rw_nil ?_
 refine cw_seq ?_
 refine cw_seq ?_
 refine cw_region ?_
 refine sq 6 rfl rfl (Y_move (v := .slice B s.length c) rfl rfl) ?_
 refine sq 7 rfl rfl (Y_len (B := B) (m := s.length) (c := c) k_sl_32_44 rfl rfl) ?_
 refine sq 8 rfl rfl (Y_move (v := vi 0) rfl rfl) ?_
 refine rw_nil ?_
 obtain ⟨hN, hF⟩ := chk_inv hF
 obtain ⟨z, hz, hF1⟩ := bind_inv hF
 refine cw_block ?_
 refine cw_loop (fun k f w => ∃ (i : Nat), FF f [(0, .slice B s.length c), (1, .func (.func kf) #[] caps), (7, vi (s.length : Int)), (8, vi (i : Int))] ∧ ST w0 [] w [] (⟨B, (s.flatMap eN0)⟩ :: Rf) ∧ i + k = s.length ∧ forX (F_slices_IndexFunc_impl_Dyadic_impl_Dyadic_l1 s f_) k i () = some z) s.length ⟨0, (FF.cons rfl (FF.cons rfl (FF.cons rfl (FF.cons rfl FF.nil)))), (hS.sel [] rfl rfl), Nat.zero_add _, hz⟩ ?_
 rintro k_ f w ⟨i, hf, hS1, hik, hL⟩
 refine cw_seq ?_
 refine cw_region ?_
 refine sq 9 rfl rfl (Y_lt (k := .i64) (a := (i : Int)) (b := (s.length : Int)) rfl (hf.get 8 3 rfl) (hf.get 7 2 rfl)) ?_
 refine rw_nil ?_
 refine cw_seq ?_
 refine cw_cond (b := (decide ((i : Int) < (s.length : Int)))) rfl (fun hlt => ?_) (fun hlt => ?_)
 ·skip
  have hlt1 : i < s.length := by have h := of_decide_eq_true hlt; omega
  obtain ⟨k_1, rfl⟩ : ∃ k2, k_ = k2 + 1 := ⟨k_ - 1, by omega⟩
  obtain ⟨y1, hb, hL1⟩ := forX_go hL
  unfold F_slices_IndexFunc_impl_Dyadic_impl_Dyadic_l1 at hb
  refine cw_skip ?_
  refine cw_seq ?_
  refine cw_block ?_
  refine cw_seq ?_
  refine cw_region ?_
  refine sq 10 rfl rfl (Y_move (v := vi (i : Int)) rfl (hf.get 8 3 rfl)) ?_
  refine sq 5 rfl rfl (Y_assign (v := vi (i : Int)) rfl rfl) ?_
  refine rw_nil ?_
  refine cw_seq ?_
  refine cw_region ?_
  refine sq 11 rfl rfl (Y_move (v := .func (.func kf) #[] caps) rfl (hf.get 1 1 rfl)) ?_
  refine sq 12 rfl rfl (Y_move (v := .slice B s.length c) rfl (hf.get 0 0 rfl)) ?_
  refine sq 13 rfl rfl (Y_move (v := vi (i : Int)) rfl rfl) ?_
  obtain ⟨x1, hx, hb⟩ := bind_inv hb
  refine sq 14 rfl rfl (Y_index (B := B) (m := s.length) (c := c) (k := .i64) (i := (i : Int)) k_sl_32_44 k_sz_44_5 rfl rfl rfl (gi_isSome eN3 rfl (hS1.rf (i := 0) rfl) hx) (getI_nn hx) (getI_ltI hx rfl)) ?_
  refine sq 15 rfl rfl (Y_loadA (B := B) (i := (i : Int).toNat * 5) (cs := (s.flatMap eN0)) (vs := [vi x1.Num.A, vi x1.Num.B, vi x1.Num.C, vi x1.Num.D, vi x1.Exp]) k_ag_44 k_sz_44_5 rfl rfl (hS1.rf (i := 0) rfl) (eN3 x1) (gi_seg eN3 hx)) ?_
  obtain ⟨r_1, hc, hb⟩ := bind_inv hb
  refine sc 16 rfl rfl (Yc_clos (g := kf) (vs := (.agg #[vi x1.Num.A, vi x1.Num.B, vi x1.Num.C, vi x1.Num.D, vi x1.Exp]) :: caps.toList) hk rfl rfl (clo_args (mc rfl mn)) (hp _ (hS1.innS (fun _ h => List.mem_of_mem_drop (i := 1) h)) x1 r_1 hc)) ?_
  rintro _ w_ ⟨rfl, hd⟩
  have hS2 := hS1.out00 hd
  refine rw_nil ?_
  refine cw_cond (b := r_1) rfl (fun hb1 => ?_) (fun hb1 => ?_)
  ·skip
   have hF2 := ct hb hb1
   refine cw_seq ?_
   refine cw_region ?_
   refine sq 17 rfl rfl (Y_move (v := vi (i : Int)) rfl rfl) ?_
   refine sq 4 rfl rfl (Y_assign (v := vi (i : Int)) rfl rfl) ?_
   refine rw_nil ?_
   refine cw_ret ?_
   obtain rfl := some_inj hF2
   obtain rfl := some_inj hL1
   obtain rfl := some_inj hF1
   exact ret1 Tryd.results91 (v1 := vi (i : Int)) (resAt_tmp rfl) ⟨rfl, (ST.subR (R' := []) (hS2.sel [] rfl rfl) (fun _ h => by cases h))⟩
  ·skip
   have hF3 := cf' hb hb1
   refine cw_skip ?_
   refine cw_region ?_
   refine sq 18 rfl rfl (Y_add (k := .i64) (a := (i : Int)) (b := 1) rfl (hf.get 8 3 rfl) rfl) ?_
   refine sq 8 rfl rfl (Y_move (v := vi (i64.wrap ((i : Int) + 1))) rfl rfl) ?_
   refine rw_nil ?_
   obtain rfl := some_inj hF3
   exact ⟨k_1, Nat.lt_succ_self _, i + 1, (FF.cons (hf.get 0 0 rfl) (FF.cons (hf.get 1 1 rfl) (FF.cons (hf.get 7 2 rfl) (FF.cons (congrArg (Value.int .i64) (wr_succ hlt1 hN)) FF.nil)))), (hS2.sel [] rfl rfl), (by omega), hL1⟩
 ·skip
  obtain rfl : k_ = 0 := by have h := of_decide_eq_false hlt; omega
  refine cw_exit rfl ?_
  obtain rfl := some_inj hL
  refine cw_seq ?_
  refine cw_region ?_
  refine sq 4 rfl rfl (Y_assign (v := vi (-1)) rfl rfl) ?_
  refine rw_nil ?_
  refine cw_ret ?_
  obtain rfl := some_inj hF1
  exact ret1 Tryd.results91 (v1 := vi (-1)) (resAt_tmp rfl) ⟨rfl, (ST.subR (R' := []) (hS1.sel [] rfl rfl) (fun _ h => by cases h))⟩

theorem c_slices_ContainsFunc_impl_Dyadic_impl_Dyadic (s : List TDyadic) (f_ : TDyadic → Option (Bool)) (B : Option Addr) (c n : Nat) (kf : Nat) (caps : Array Value) (Rf : List Ro) (w0 : World) (hn : s.length = n) (hk : callB Tryd.prog kf = true) (hp : ∀ (w : World), ST w [] w [] Rf → ∀ (x : TDyadic) (y : Bool), f_ x = some y → CV Tryd.prog kf ((.agg #[vi x.Num.A, vi x.Num.B, vi x.Num.C, vi x.Num.D, vi x.Exp]) :: caps.toList).toArray w (fun v w' => v = .bool y ∧ ST w [] w' [] [])) (hS : ST w0 [] w0 [] (⟨B, (s.flatMap eN0)⟩ :: Rf)) {r_ : Bool} (hF : F_slices_ContainsFunc_impl_Dyadic_impl_Dyadic s f_ = some r_) :
  CV Tryd.prog 82 #[.slice B n c, .func (.func kf) #[] caps] w0 (fun v w' => v = .bool r_ ∧ ST w0 [] w' [] []) := by
 subst hn
 unfold F_slices_ContainsFunc_impl_Dyadic_impl_Dyadic at hF
 refine cv_of_cw 9 Tryd.func82 rfl Tryd.ntmps82 rfl ?_
 refine cw_seq ?_
 refine cw_region ?_
 refine sq 4 rfl rfl (Y_assign (v := .bool false) rfl rfl) ?_
 refine rw_nil ?_
 refine cw_seq ?_
 refine cw_region ?_
 refine sq 5 rfl rfl (Y_move (v := .slice B s.length c) rfl rfl) ?_
 refine sq 6 rfl rfl (Y_move (v := .func (.func kf) #[] caps) rfl rfl) ?_
 obtain ⟨r_1, hc, hF⟩ := bind_inv hF
 refine sc 7 rfl rfl (Yc_func (g := 91) (vs := [.slice B s.length c, .func (.func kf) #[] caps]) k_call_91 rfl (mc rfl (mc rfl mn)) (c_slices_IndexFunc_impl_Dyadic_impl_Dyadic s f_ B c s.length kf caps Rf _ rfl hk hp (hS.innS (subc (mem_at (i := 0) rfl) (fun _ h => List.mem_of_mem_drop (i := 1) h))) hc)) ?_
 rintro _ w_ ⟨rfl, hd⟩
 have hS1 := hS.out00 hd
 refine sq 8 rfl rfl (Y_ge (k := .i64) (a := r_1) (b := 0) rfl rfl rfl) ?_
 refine sq 4 rfl rfl (Y_assign (v := .bool (decide (0 ≤ r_1))) rfl rfl) ?_
 refine rw_nil ?_
 refine cw_ret ?_
 obtain rfl := some_inj hF
 exact ret1 Tryd.results82 (v1 := .bool (decide (0 ≤ r_1))) (resAt_tmp rfl) ⟨rfl, (ST.subR (R' := []) (hS1.sel [] rfl rfl) (fun _ h => by cases h))⟩

theorem c_impl_isEven (x : TRing)  (w0 : World)  (hS : ST w0 [] w0 [] []) {r_ : Bool} (hF : F_impl_isEven x = some r_) :
  CV Tryd.prog 75 #[.agg #[vi x.A, vi x.B, vi x.C, vi x.D]] w0 (fun v w' => v = .bool r_ ∧ ST w0 [] w' [] []) := by
 unfold F_impl_isEven at hF
 refine cv_of_cw 19 Tryd.func75 rfl Tryd.ntmps75 rfl ?_
 refine cw_seq ?_
 refine cw_region ?_
 refine ss 1 rfl rfl (Ys_box (T := 42) (v := .agg #[vi x.A, vi x.B, vi x.C, vi x.D]) (cs := [vi x.A, vi x.B, vi x.C, vi x.D]) (m := 4) hS rfl rfl rfl rfl) ?_
 rintro _ w_ ⟨b, rfl, hS1⟩
 refine sq 2 rfl rfl (Y_assign (v := .bool false) rfl rfl) ?_
 refine rw_nil ?_
 refine cw_seq ?_
 refine cw_region ?_
 refine sq 3 rfl rfl (Y_fieldAddr (B := aD b) (i := 0) (s := 0) k_fd_42_0_0_3 k_sz_3_1 rfl rfl) ?_
 refine sq 4 rfl rfl (Y_load1 (B := aD b) (i := 0) (cs := [vi x.A, vi x.B, vi x.C, vi x.D]) (v := vi x.A) k_sc_3 rfl rfl (hS1.cf (i := 0) rfl) rfl) ?_
 refine sq 5 rfl rfl (Y_fieldAddr (B := aD b) (i := 0) (s := 0) k_fd_42_2_2_3 k_sz_3_1 rfl rfl) ?_
 refine sq 6 rfl rfl (Y_load1 (B := aD b) (i := 2) (cs := [vi x.A, vi x.B, vi x.C, vi x.D]) (v := vi x.C) k_sc_3 rfl rfl (hS1.cf (i := 0) rfl) rfl) ?_
 refine sq 7 rfl rfl (Y_add (k := .i64) (a := x.A) (b := x.C) rfl rfl rfl) ?_
 refine sq 8 rfl rfl (Y_rem (k := .i64) (a := (i64.wrap (x.A + x.C))) (b := 2) rfl rfl rfl (by decide)) ?_
 refine sq 9 rfl rfl (Y_eq (k := .i64) (a := (Int.tmod (i64.wrap (x.A + x.C)) 2)) (b := 0) rfl rfl rfl) ?_
 refine sq 10 rfl rfl (Y_move (v := .bool ((Int.tmod (i64.wrap (x.A + x.C)) 2) == 0)) rfl rfl) ?_
 refine sgq 11 (B := ((Int.tmod (i64.wrap (x.A + x.C)) 2) == 0)) (v := pt (aD b) 1) rfl rfl (wt_t (gd_of (t := 10) (by kernel_rfl) rfl)) (fun hg => (Y_fieldAddr (B := aD b) (i := 0) (s := 0) k_fd_42_1_1_3 k_sz_3_1 rfl rfl)) ?_
 refine sgq 12 (B := ((Int.tmod (i64.wrap (x.A + x.C)) 2) == 0)) (v := vi x.B) rfl rfl (wt_t (gd_of (t := 10) (by kernel_rfl) rfl)) (fun hg1 => (Y_load1 (B := aD b) (i := 1) (cs := [vi x.A, vi x.B, vi x.C, vi x.D]) (v := vi x.B) k_sc_3 rfl (gv_of (B := ((Int.tmod (i64.wrap (x.A + x.C)) 2) == 0)) (v := pt (aD b) 1) hg1) (hS1.cf (i := 0) rfl) rfl)) ?_
 refine sgq 13 (B := ((Int.tmod (i64.wrap (x.A + x.C)) 2) == 0)) (v := pt (aD b) 3) rfl rfl (wt_t (gd_of (t := 10) (by kernel_rfl) rfl)) (fun hg2 => (Y_fieldAddr (B := aD b) (i := 0) (s := 0) k_fd_42_3_3_3 k_sz_3_1 rfl rfl)) ?_
 refine sgq 14 (B := ((Int.tmod (i64.wrap (x.A + x.C)) 2) == 0)) (v := vi x.D) rfl rfl (wt_t (gd_of (t := 10) (by kernel_rfl) rfl)) (fun hg3 => (Y_load1 (B := aD b) (i := 3) (cs := [vi x.A, vi x.B, vi x.C, vi x.D]) (v := vi x.D) k_sc_3 rfl (gv_of (B := ((Int.tmod (i64.wrap (x.A + x.C)) 2) == 0)) (v := pt (aD b) 3) hg3) (hS1.cf (i := 0) rfl) rfl)) ?_
 refine sgq 15 (B := ((Int.tmod (i64.wrap (x.A + x.C)) 2) == 0)) (v := vi (i64.wrap (x.B + x.D))) rfl rfl (wt_t (gd_of (t := 10) (by kernel_rfl) rfl)) (fun hg4 => (Y_add (k := .i64) (a := x.B) (b := x.D) rfl (gv_of (B := ((Int.tmod (i64.wrap (x.A + x.C)) 2) == 0)) (v := vi x.B) hg4) (gv_of (B := ((Int.tmod (i64.wrap (x.A + x.C)) 2) == 0)) (v := vi x.D) hg4))) ?_
 refine sgq 16 (B := ((Int.tmod (i64.wrap (x.A + x.C)) 2) == 0)) (v := vi (Int.tmod (i64.wrap (x.B + x.D)) 2)) rfl rfl (wt_t (gd_of (t := 10) (by kernel_rfl) rfl)) (fun hg5 => (Y_rem (k := .i64) (a := (i64.wrap (x.B + x.D))) (b := 2) rfl (gv_of (B := ((Int.tmod (i64.wrap (x.A + x.C)) 2) == 0)) (v := vi (i64.wrap (x.B + x.D))) hg5) rfl (by decide))) ?_
 refine sgq 17 (B := ((Int.tmod (i64.wrap (x.A + x.C)) 2) == 0)) (v := .bool ((Int.tmod (i64.wrap (x.B + x.D)) 2) == 0)) rfl rfl (wt_t (gd_of (t := 10) (by kernel_rfl) rfl)) (fun hg6 => (Y_eq (k := .i64) (a := (Int.tmod (i64.wrap (x.B + x.D)) 2)) (b := 0) rfl (gv_of (B := ((Int.tmod (i64.wrap (x.A + x.C)) 2) == 0)) (v := vi (Int.tmod (i64.wrap (x.B + x.D)) 2)) hg6) rfl)) ?_
 refine sq 18 rfl rfl (Y_and (b := ((Int.tmod (i64.wrap (x.A + x.C)) 2) == 0)) (z := ((Int.tmod (i64.wrap (x.B + x.D)) 2) == 0)) rfl rfl rfl rfl) ?_
 refine sq 2 rfl rfl (Y_assign (v := .bool (((Int.tmod (i64.wrap (x.A + x.C)) 2) == 0) && ((Int.tmod (i64.wrap (x.B + x.D)) 2) == 0))) rfl rfl) ?_
 refine rw_nil ?_
 refine cw_ret ?_
 obtain rfl := some_inj hF
 exact ret1 Tryd.results75 (v1 := .bool (((Int.tmod (i64.wrap (x.A + x.C)) 2) == 0) && ((Int.tmod (i64.wrap (x.B + x.D)) 2) == 0))) (resAt_tmp rfl) ⟨rfl, (ST.subR (R' := []) (hS1.sel [] rfl rfl) (fun _ h => by cases h))⟩

theorem c_impl_IsValidDyadic (x : TDyadic)  (w0 : World)  (hS : ST w0 [] w0 [] []) {r_ : Bool} (hF : F_impl_IsValidDyadic x = some r_) :
  CV Tryd.prog 53 #[.agg #[vi x.Num.A, vi x.Num.B, vi x.Num.C, vi x.Num.D, vi x.Exp]] w0 (fun v w' => v = .bool r_ ∧ ST w0 [] w' [] []) := by
 unfold F_impl_IsValidDyadic at hF
 refine cv_of_cw 22 Tryd.func53 rfl Tryd.ntmps53 rfl ?_
 refine cw_seq ?_
 refine cw_region ?_
 refine ss 1 rfl rfl (Ys_box (T := 44) (v := .agg #[vi x.Num.A, vi x.Num.B, vi x.Num.C, vi x.Num.D, vi x.Exp]) (cs := [vi x.Num.A, vi x.Num.B, vi x.Num.C, vi x.Num.D, vi x.Exp]) (m := 5) hS rfl rfl rfl rfl) ?_
 rintro _ w_ ⟨b, rfl, hS1⟩
 refine sq 2 rfl rfl (Y_assign (v := .bool false) rfl rfl) ?_
 refine rw_nil ?_
 refine cw_seq ?_
 refine cw_region ?_
 refine sq 3 rfl rfl (Y_fieldAddr (B := aD b) (i := 0) (s := 3) k_fd_44_0_0_42 k_sz_42_4 rfl rfl) ?_
 refine sq 4 rfl rfl (Y_loadA (B := aD b) (i := 0) (cs := [vi x.Num.A, vi x.Num.B, vi x.Num.C, vi x.Num.D, vi x.Exp]) (vs := [vi x.Num.A, vi x.Num.B, vi x.Num.C, vi x.Num.D]) k_ag_42 k_sz_42_4 rfl rfl (hS1.cf (i := 0) rfl) rfl rfl) ?_
 obtain ⟨r_1, hc, hF⟩ := bind_inv hF
 refine sc 5 rfl rfl (Yc_func (g := 74) (vs := [.agg #[vi x.Num.A, vi x.Num.B, vi x.Num.C, vi x.Num.D]]) k_call_74 rfl (mc rfl mn) (c_impl_IsValidRing x.Num _  (hS1.inn0 [] rfl) hc)) ?_
 rintro _ w_1 ⟨rfl, hd⟩
 have hS2 := hS1.out00 hd
 refine sq 6 rfl rfl (Y_move (v := .bool r_1) rfl rfl) ?_
 refine sgq 7 (B := r_1) (v := pt (aD b) 4) rfl rfl (wt_t (gd_of (t := 6) (by kernel_rfl) rfl)) (fun hg => (Y_fieldAddr (B := aD b) (i := 0) (s := 0) k_fd_44_1_4_3 k_sz_3_1 rfl rfl)) ?_
 refine sgq 8 (B := r_1) (v := vi x.Exp) rfl rfl (wt_t (gd_of (t := 6) (by kernel_rfl) rfl)) (fun hg1 => (Y_load1 (B := aD b) (i := 4) (cs := [vi x.Num.A, vi x.Num.B, vi x.Num.C, vi x.Num.D, vi x.Exp]) (v := vi x.Exp) k_sc_3 rfl (gv_of (B := r_1) (v := pt (aD b) 4) hg1) (hS2.cf (i := 0) rfl) rfl)) ?_
 obtain ⟨r_2, hc1, hF⟩ := bind_inv hF
 refine sgc 9 (B := r_1) (v := .bool r_2) (F := hS2.fn) rfl rfl (wt_t (gd_of (t := 6) (by kernel_rfl) rfl)) hS2 (fun hg2 => (Yc_func (g := 9) (vs := [vi x.Exp, vi 0, vi 60]) k_call_9 rfl (mc (gv_of (B := r_1) (v := vi x.Exp) hg2) (mc rfl (mc rfl mn))) (CV.mono (c_impl_within x.Exp 0 60 _  (hS2.inn0 [] rfl) (gb_inv hc1 hg2)) (by rintro _ _ ⟨rfl, h⟩; exact ⟨rfl, hS2.out00 h⟩)))) ?_
 rintro w_2 hS3
 have hS3 : ST _ _ w_2 _ _ := hS3
 refine sq 10 rfl rfl (Y_and (b := r_1) (z := r_2) rfl rfl rfl rfl) ?_
 refine sq 11 rfl rfl (Y_move (v := .bool (r_1 && r_2)) rfl rfl) ?_
 refine sgq 12 (B := (r_1 && r_2)) (v := pt (aD b) 4) rfl rfl (wt_t (gd_of (t := 11) (by kernel_rfl) rfl)) (fun hg3 => (Y_fieldAddr (B := aD b) (i := 0) (s := 0) k_fd_44_1_4_3 k_sz_3_1 rfl rfl)) ?_
 refine sgq 13 (B := (r_1 && r_2)) (v := vi x.Exp) rfl rfl (wt_t (gd_of (t := 11) (by kernel_rfl) rfl)) (fun hg4 => (Y_load1 (B := aD b) (i := 4) (cs := [vi x.Num.A, vi x.Num.B, vi x.Num.C, vi x.Num.D, vi x.Exp]) (v := vi x.Exp) k_sc_3 rfl (gv_of (B := (r_1 && r_2)) (v := pt (aD b) 4) hg4) (hS3.cf (i := 0) rfl) rfl)) ?_
 refine sgq 14 (B := (r_1 && r_2)) (v := .bool (x.Exp == 0)) rfl rfl (wt_t (gd_of (t := 11) (by kernel_rfl) rfl)) (fun hg5 => (Y_eq (k := .i64) (a := x.Exp) (b := 0) rfl (gv_of (B := (r_1 && r_2)) (v := vi x.Exp) hg5) rfl)) ?_
 refine sgq 15 (B := (r_1 && r_2)) (v := .bool (x.Exp == 0)) rfl rfl (wt_t (gd_of (t := 11) (by kernel_rfl) rfl)) (fun hg6 => (Y_move (v := .bool (x.Exp == 0)) rfl (gv_of (B := (r_1 && r_2)) (v := .bool (x.Exp == 0)) hg6))) ?_
 refine sgq 16 (B := ((r_1 && r_2) && (!(x.Exp == 0)))) (v := pt (aD b) 0) rfl rfl (wt_gf (gd_of (t := 15) (by kernel_rfl) rfl)) (fun hg7 => (Y_fieldAddr (B := aD b) (i := 0) (s := 3) k_fd_44_0_0_42 k_sz_42_4 rfl rfl)) ?_
 refine sgq 17 (B := ((r_1 && r_2) && (!(x.Exp == 0)))) (v := .agg #[vi x.Num.A, vi x.Num.B, vi x.Num.C, vi x.Num.D]) rfl rfl (wt_gf (gd_of (t := 15) (by kernel_rfl) rfl)) (fun hg8 => (Y_loadA (B := aD b) (i := 0) (cs := [vi x.Num.A, vi x.Num.B, vi x.Num.C, vi x.Num.D, vi x.Exp]) (vs := [vi x.Num.A, vi x.Num.B, vi x.Num.C, vi x.Num.D]) k_ag_42 k_sz_42_4 rfl (gv_of (B := ((r_1 && r_2) && (!(x.Exp == 0)))) (v := pt (aD b) 0) hg8) (hS3.cf (i := 0) rfl) rfl rfl)) ?_
 obtain ⟨r_3, hc2, hF⟩ := bind_inv hF
 refine sgc 18 (B := ((r_1 && r_2) && (!(x.Exp == 0)))) (v := .bool r_3) (F := hS3.fn) rfl rfl (wt_gf (gd_of (t := 15) (by kernel_rfl) rfl)) hS3 (fun hg9 => (Yc_func (g := 75) (vs := [.agg #[vi x.Num.A, vi x.Num.B, vi x.Num.C, vi x.Num.D]]) k_call_75 rfl (mc (gv_of (B := ((r_1 && r_2) && (!(x.Exp == 0)))) (v := .agg #[vi x.Num.A, vi x.Num.B, vi x.Num.C, vi x.Num.D]) hg9) mn) (CV.mono (c_impl_isEven x.Num _  (hS3.inn0 [] rfl) (gb_inv hc2 hg9)) (by rintro _ _ ⟨rfl, h⟩; exact ⟨rfl, hS3.out00 h⟩)))) ?_
 rintro w_3 hS4
 have hS4 : ST _ _ w_3 _ _ := hS4
 refine sgq 19 (B := ((r_1 && r_2) && (!(x.Exp == 0)))) (v := .bool (!r_3)) rfl rfl (wt_gf (gd_of (t := 15) (by kernel_rfl) rfl)) (fun hg10 => (Y_not (p := r_3) rfl (gv_of (B := ((r_1 && r_2) && (!(x.Exp == 0)))) (v := .bool r_3) hg10))) ?_
 refine sgq 20 (B := (r_1 && r_2)) (v := .bool ((x.Exp == 0) || (!r_3))) rfl rfl (wt_t (gd_of (t := 11) (by kernel_rfl) rfl)) (fun hg11 => (Y_or (b := (x.Exp == 0)) (z := (!r_3)) rfl (gv_of (B := (r_1 && r_2)) (v := .bool (x.Exp == 0)) hg11) rfl (gv_and (B := (r_1 && r_2)) (C := (!(x.Exp == 0))) (v := .bool (!r_3)) hg11))) ?_
 refine sq 21 rfl rfl (Y_and (b := (r_1 && r_2)) (z := ((x.Exp == 0) || (!r_3))) rfl rfl rfl rfl) ?_
 refine sq 2 rfl rfl (Y_assign (v := .bool ((r_1 && r_2) && ((x.Exp == 0) || (!r_3)))) rfl rfl) ?_
 refine rw_nil ?_
 refine cw_ret ?_
 obtain rfl := some_inj hF
 exact ret1 Tryd.results53 (v1 := .bool ((r_1 && r_2) && ((x.Exp == 0) || (!r_3)))) (resAt_tmp rfl) ⟨rfl, (ST.subR (R' := []) (hS4.sel [] rfl rfl) (fun _ h => by cases h))⟩

theorem c_impl_IsValidMatrix_1 (x : TDyadic)  (w0 : World)  (hS : ST w0 [] w0 [] []) {r_ : Bool} (hF : F_impl_IsValidMatrix_1 x = some r_) :
  CV Tryd.prog 83 #[.agg #[vi x.Num.A, vi x.Num.B, vi x.Num.C, vi x.Num.D, vi x.Exp]] w0 (fun v w' => v = .bool r_ ∧ ST w0 [] w' [] []) := by
 unfold F_impl_IsValidMatrix_1 at hF
 refine cv_of_cw 6 Tryd.func83 rfl Tryd.ntmps83 rfl ?_
 refine cw_seq ?_
 refine cw_region ?_
 refine ss 1 rfl rfl (Ys_box (T := 44) (v := .agg #[vi x.Num.A, vi x.Num.B, vi x.Num.C, vi x.Num.D, vi x.Exp]) (cs := [vi x.Num.A, vi x.Num.B, vi x.Num.C, vi x.Num.D, vi x.Exp]) (m := 5) hS rfl rfl rfl rfl) ?_
 rintro _ w_ ⟨b, rfl, hS1⟩
 refine sq 2 rfl rfl (Y_assign (v := .bool false) rfl rfl) ?_
 refine rw_nil ?_
 refine cw_seq ?_
 refine cw_region ?_
 refine sq 3 rfl rfl (Y_loadA (B := aD b) (i := 0) (cs := [vi x.Num.A, vi x.Num.B, vi x.Num.C, vi x.Num.D, vi x.Exp]) (vs := [vi x.Num.A, vi x.Num.B, vi x.Num.C, vi x.Num.D, vi x.Exp]) k_ag_44 k_sz_44_5 rfl rfl (hS1.cf (i := 0) rfl) rfl rfl) ?_
 obtain ⟨r_1, hc, hF⟩ := bind_inv hF
 refine sc 4 rfl rfl (Yc_func (g := 53) (vs := [.agg #[vi x.Num.A, vi x.Num.B, vi x.Num.C, vi x.Num.D, vi x.Exp]]) k_call_53 rfl (mc rfl mn) (c_impl_IsValidDyadic x _  (hS1.inn0 [] rfl) hc)) ?_
 rintro _ w_1 ⟨rfl, hd⟩
 have hS2 := hS1.out00 hd
 refine sq 5 rfl rfl (Y_not (p := r_1) rfl rfl) ?_
 refine sq 2 rfl rfl (Y_assign (v := .bool (!r_1)) rfl rfl) ?_
 refine rw_nil ?_
 refine cw_ret ?_
 obtain rfl := some_inj hF
 exact ret1 Tryd.results83 (v1 := .bool (!r_1)) (resAt_tmp rfl) ⟨rfl, (ST.subR (R' := []) (hS2.sel [] rfl rfl) (fun _ h => by cases h))⟩

theorem c_impl_IsValidMatrix (m : TMatrix) (B : Option Addr) (c n : Nat) (w0 : World) (hn : m.Cells.length = n) (hS : ST w0 [] w0 [] [⟨B, (m.Cells.flatMap eN0)⟩]) {r_ : Bool} (hF : F_impl_IsValidMatrix m = some r_) :
  CV Tryd.prog 66 #[.agg #[vi m.Rows, vi m.Cols, .slice B n c]] w0 (fun v w' => v = .bool r_ ∧ ST w0 [] w' [] []) := by
 subst hn
 unfold F_impl_IsValidMatrix at hF
 refine cv_of_cw 28 Tryd.func66 rfl Tryd.ntmps66 rfl ?_
 refine cw_seq ?_
 refine cw_region ?_
 refine ss 1 rfl rfl (Ys_box (T := 38) (v := .agg #[vi m.Rows, vi m.Cols, .slice B m.Cells.length c]) (cs := [vi m.Rows, vi m.Cols, .slice B m.Cells.length c]) (m := 3) hS rfl rfl rfl rfl) ?_
 rintro _ w_ ⟨b, rfl, hS1⟩
 refine sq 2 rfl rfl (Y_assign (v := .bool false) rfl rfl) ?_
 refine rw_nil ?_
 refine cw_seq ?_
 refine cw_region ?_
 refine sq 3 rfl rfl (Y_fieldAddr (B := aD b) (i := 0) (s := 0) k_fd_38_0_0_3 k_sz_3_1 rfl rfl) ?_
 refine sq 4 rfl rfl (Y_load1 (B := aD b) (i := 0) (cs := [vi m.Rows, vi m.Cols, .slice B m.Cells.length c]) (v := vi m.Rows) k_sc_3 rfl rfl (hS1.cf (i := 0) rfl) rfl) ?_
 obtain ⟨r_1, hc, hF⟩ := bind_inv hF
 refine sc 5 rfl rfl (Yc_func (g := 64) (vs := [vi m.Rows]) k_call_64 rfl (mc rfl mn) (c_impl_isDim m.Rows _  (hS1.inn0 [] rfl) hc)) ?_
 rintro _ w_1 ⟨rfl, hd⟩
 have hS2 := hS1.out00 hd
 refine sq 6 rfl rfl (Y_move (v := .bool r_1) rfl rfl) ?_
 refine sgq 7 (B := r_1) (v := pt (aD b) 1) rfl rfl (wt_t (gd_of (t := 6) (by kernel_rfl) rfl)) (fun hg => (Y_fieldAddr (B := aD b) (i := 0) (s := 0) k_fd_38_1_1_3 k_sz_3_1 rfl rfl)) ?_
 refine sgq 8 (B := r_1) (v := vi m.Cols) rfl rfl (wt_t (gd_of (t := 6) (by kernel_rfl) rfl)) (fun hg1 => (Y_load1 (B := aD b) (i := 1) (cs := [vi m.Rows, vi m.Cols, .slice B m.Cells.length c]) (v := vi m.Cols) k_sc_3 rfl (gv_of (B := r_1) (v := pt (aD b) 1) hg1) (hS2.cf (i := 0) rfl) rfl)) ?_
 obtain ⟨r_2, hc1, hF⟩ := bind_inv hF
 refine sgc 9 (B := r_1) (v := .bool r_2) (F := hS2.fn) rfl rfl (wt_t (gd_of (t := 6) (by kernel_rfl) rfl)) hS2 (fun hg2 => (Yc_func (g := 64) (vs := [vi m.Cols]) k_call_64 rfl (mc (gv_of (B := r_1) (v := vi m.Cols) hg2) mn) (CV.mono (c_impl_isDim m.Cols _  (hS2.inn0 [] rfl) (gb_inv hc1 hg2)) (by rintro _ _ ⟨rfl, h⟩; exact ⟨rfl, hS2.out00 h⟩)))) ?_
 rintro w_2 hS3
 have hS3 : ST _ _ w_2 _ _ := hS3
 refine sq 10 rfl rfl (Y_and (b := r_1) (z := r_2) rfl rfl rfl rfl) ?_
 refine sq 11 rfl rfl (Y_move (v := .bool (r_1 && r_2)) rfl rfl) ?_
 refine sgq 12 (B := (r_1 && r_2)) (v := pt (aD b) 2) rfl rfl (wt_t (gd_of (t := 11) (by kernel_rfl) rfl)) (fun hg3 => (Y_fieldAddr (B := aD b) (i := 0) (s := 0) k_fd_38_2_2_32 k_sz_32_1 rfl rfl)) ?_
 refine sgq 13 (B := (r_1 && r_2)) (v := .slice B m.Cells.length c) rfl rfl (wt_t (gd_of (t := 11) (by kernel_rfl) rfl)) (fun hg4 => (Y_load1 (B := aD b) (i := 2) (cs := [vi m.Rows, vi m.Cols, .slice B m.Cells.length c]) (v := .slice B m.Cells.length c) k_sc_32 rfl (gv_of (B := (r_1 && r_2)) (v := pt (aD b) 2) hg4) (hS3.cf (i := 0) rfl) rfl)) ?_
 refine sgq 14 (B := (r_1 && r_2)) (v := vi (m.Cells.length : Int)) rfl rfl (wt_t (gd_of (t := 11) (by kernel_rfl) rfl)) (fun hg5 => (Y_len (B := B) (m := m.Cells.length) (c := c) k_sl_32_44 rfl (gv_of (B := (r_1 && r_2)) (v := .slice B m.Cells.length c) hg5))) ?_
 refine sgq 15 (B := (r_1 && r_2)) (v := pt (aD b) 0) rfl rfl (wt_t (gd_of (t := 11) (by kernel_rfl) rfl)) (fun hg6 => (Y_fieldAddr (B := aD b) (i := 0) (s := 0) k_fd_38_0_0_3 k_sz_3_1 rfl rfl)) ?_
 refine sgq 16 (B := (r_1 && r_2)) (v := vi m.Rows) rfl rfl (wt_t (gd_of (t := 11) (by kernel_rfl) rfl)) (fun hg7 => (Y_load1 (B := aD b) (i := 0) (cs := [vi m.Rows, vi m.Cols, .slice B m.Cells.length c]) (v := vi m.Rows) k_sc_3 rfl (gv_of (B := (r_1 && r_2)) (v := pt (aD b) 0) hg7) (hS3.cf (i := 0) rfl) rfl)) ?_
 refine sgq 17 (B := (r_1 && r_2)) (v := pt (aD b) 1) rfl rfl (wt_t (gd_of (t := 11) (by kernel_rfl) rfl)) (fun hg8 => (Y_fieldAddr (B := aD b) (i := 0) (s := 0) k_fd_38_1_1_3 k_sz_3_1 rfl rfl)) ?_
 refine sgq 18 (B := (r_1 && r_2)) (v := vi m.Cols) rfl rfl (wt_t (gd_of (t := 11) (by kernel_rfl) rfl)) (fun hg9 => (Y_load1 (B := aD b) (i := 1) (cs := [vi m.Rows, vi m.Cols, .slice B m.Cells.length c]) (v := vi m.Cols) k_sc_3 rfl (gv_of (B := (r_1 && r_2)) (v := pt (aD b) 1) hg9) (hS3.cf (i := 0) rfl) rfl)) ?_
 refine sgq 19 (B := (r_1 && r_2)) (v := vi (i64.wrap (m.Rows * m.Cols))) rfl rfl (wt_t (gd_of (t := 11) (by kernel_rfl) rfl)) (fun hg10 => (Y_mul (k := .i64) (a := m.Rows) (b := m.Cols) rfl (gv_of (B := (r_1 && r_2)) (v := vi m.Rows) hg10) (gv_of (B := (r_1 && r_2)) (v := vi m.Cols) hg10))) ?_
 refine sgq 20 (B := (r_1 && r_2)) (v := .bool ((m.Cells.length : Int) == (i64.wrap (m.Rows * m.Cols)))) rfl rfl (wt_t (gd_of (t := 11) (by kernel_rfl) rfl)) (fun hg11 => (Y_eq (k := .i64) (a := (m.Cells.length : Int)) (b := (i64.wrap (m.Rows * m.Cols))) rfl (gv_of (B := (r_1 && r_2)) (v := vi (m.Cells.length : Int)) hg11) (gv_of (B := (r_1 && r_2)) (v := vi (i64.wrap (m.Rows * m.Cols))) hg11))) ?_
 refine sq 21 rfl rfl (Y_and (b := (r_1 && r_2)) (z := ((m.Cells.length : Int) == (i64.wrap (m.Rows * m.Cols)))) rfl rfl rfl rfl) ?_
 refine sq 22 rfl rfl (Y_move (v := .bool ((r_1 && r_2) && ((m.Cells.length : Int) == (i64.wrap (m.Rows * m.Cols))))) rfl rfl) ?_
 refine sgq 23 (B := ((r_1 && r_2) && ((m.Cells.length : Int) == (i64.wrap (m.Rows * m.Cols))))) (v := pt (aD b) 2) rfl rfl (wt_t (gd_of (t := 22) (by kernel_rfl) rfl)) (fun hg12 => (Y_fieldAddr (B := aD b) (i := 0) (s := 0) k_fd_38_2_2_32 k_sz_32_1 rfl rfl)) ?_
 refine sgq 24 (B := ((r_1 && r_2) && ((m.Cells.length : Int) == (i64.wrap (m.Rows * m.Cols))))) (v := .slice B m.Cells.length c) rfl rfl (wt_t (gd_of (t := 22) (by kernel_rfl) rfl)) (fun hg13 => (Y_load1 (B := aD b) (i := 2) (cs := [vi m.Rows, vi m.Cols, .slice B m.Cells.length c]) (v := .slice B m.Cells.length c) k_sc_32 rfl (gv_of (B := ((r_1 && r_2) && ((m.Cells.length : Int) == (i64.wrap (m.Rows * m.Cols))))) (v := pt (aD b) 2) hg13) (hS3.cf (i := 0) rfl) rfl)) ?_
 obtain ⟨r_3, hc2, hF⟩ := bind_inv hF
 refine sgc 25 (B := ((r_1 && r_2) && ((m.Cells.length : Int) == (i64.wrap (m.Rows * m.Cols))))) (v := .bool r_3) (F := hS3.fn) rfl rfl (wt_t (gd_of (t := 22) (by kernel_rfl) rfl)) hS3 (fun hg14 => (Yc_func (g := 82) (vs := [.slice B m.Cells.length c, .func (.func 83) #[] #[]]) k_call_82 rfl (mc (gv_of (B := ((r_1 && r_2) && ((m.Cells.length : Int) == (i64.wrap (m.Rows * m.Cols))))) (v := .slice B m.Cells.length c) hg14) (mc rfl mn)) (CV.mono (c_slices_ContainsFunc_impl_Dyadic_impl_Dyadic m.Cells F_impl_IsValidMatrix_1 B c m.Cells.length 83 (#[]) [] _ rfl k_call_83 (fun w hw x_0 y_0 h_ => c_impl_IsValidMatrix_1 x_0  w  hw h_) (hS3.inn0 [(true, 0)] rfl) (gb_inv hc2 hg14)) (by rintro _ _ ⟨rfl, h⟩; exact ⟨rfl, hS3.out00 h⟩)))) ?_
 rintro w_3 hS4
 have hS4 : ST _ _ w_3 _ _ := hS4
 refine sgq 26 (B := ((r_1 && r_2) && ((m.Cells.length : Int) == (i64.wrap (m.Rows * m.Cols))))) (v := .bool (!r_3)) rfl rfl (wt_t (gd_of (t := 22) (by kernel_rfl) rfl)) (fun hg15 => (Y_not (p := r_3) rfl (gv_of (B := ((r_1 && r_2) && ((m.Cells.length : Int) == (i64.wrap (m.Rows * m.Cols))))) (v := .bool r_3) hg15))) ?_
 refine sq 27 rfl rfl (Y_and (b := ((r_1 && r_2) && ((m.Cells.length : Int) == (i64.wrap (m.Rows * m.Cols))))) (z := (!r_3)) rfl rfl rfl rfl) ?_
 refine sq 2 rfl rfl (Y_assign (v := .bool (((r_1 && r_2) && ((m.Cells.length : Int) == (i64.wrap (m.Rows * m.Cols)))) && (!r_3))) rfl rfl) ?_
 refine rw_nil ?_
 refine cw_ret ?_
 obtain rfl := some_inj hF
 exact ret1 Tryd.results66 (v1 := .bool (((r_1 && r_2) && ((m.Cells.length : Int) == (i64.wrap (m.Rows * m.Cols)))) && (!r_3))) (resAt_tmp rfl) ⟨rfl, (ST.subR (R' := []) (hS4.sel [] rfl rfl) (fun _ h => by cases h))⟩

theorem c_impl_ringIf (out : TRing) (args : List TRing) (B : Option Addr) (c n : Nat) (w0 : World) (hn : args.length = n) (hS : ST w0 (bl [⟨B, 42, (args.flatMap enc_Ring), c * 4⟩]) w0 [⟨B, 42, (args.flatMap enc_Ring), c * 4⟩] []) {r_ : TRing} {r_1 : Bool} (hF : F_impl_ringIf out args = some (r_, r_1)) :
  CV Tryd.prog 73 #[.agg #[vi out.A, vi out.B, vi out.C, vi out.D], .slice B n c] w0 (fun v w' => v = .tuple #[.agg #[vi r_.A, vi r_.B, vi r_.C, vi r_.D], .bool r_1] ∧ ST w0 (bl [⟨B, 42, (args.flatMap enc_Ring), c * 4⟩]) w' [] []) := by
 subst hn
 unfold F_impl_ringIf at hF
 refine cv_of_cw 23 Tryd.func73 rfl Tryd.ntmps73 rfl ?_
 refine cw_seq ?_
 refine cw_region ?_
 refine ss 2 rfl rfl (Ys_box (T := 42) (v := .agg #[vi out.A, vi out.B, vi out.C, vi out.D]) (cs := [vi out.A, vi out.B, vi out.C, vi out.D]) (m := 4) hS rfl rfl rfl rfl) ?_
 rintro _ w_ ⟨b, rfl, hS1⟩
 have hS1 : ST w0 (bl [⟨B, 42, (args.flatMap enc_Ring), c * 4⟩]) _ [⟨B, 42, (args.flatMap enc_Ring), c * 4⟩, ⟨aD b, 42, [vi out.A, vi out.B, vi out.C, vi out.D], 4⟩] [] := hS1
 refine ss 4 rfl rfl (Ys_alloc (T := 42) (cs := [vi 0, vi 0, vi 0, vi 0]) (m := 4) hS1 k_zero_42 rfl rfl rfl) ?_
 rintro _ w_1 ⟨b1, rfl, hS2⟩
 have hS2 : ST w0 (bl [⟨B, 42, (args.flatMap enc_Ring), c * 4⟩]) _ [⟨B, 42, (args.flatMap enc_Ring), c * 4⟩, ⟨aD b, 42, [vi out.A, vi out.B, vi out.C, vi out.D], 4⟩, ⟨aD b1, 42, [vi 0, vi 0, vi 0, vi 0], 4⟩] [] := hS2
 refine sq 5 rfl rfl (Y_assign (v := .bool false) rfl rfl) ?_
 refine rw_nil ?_
 refine cw_seq ?_
 refine cw_seq ?_
 refine cw_region ?_
 refine sq 8 rfl rfl (Y_move (v := .slice B args.length c) rfl rfl) ?_
 refine sq 9 rfl rfl (Y_loadA (B := aD b) (i := 0) (cs := [vi out.A, vi out.B, vi out.C, vi out.D]) (vs := [vi out.A, vi out.B, vi out.C, vi out.D]) k_ag_42 k_sz_42_4 rfl rfl (hS2.cf (i := 1) rfl) rfl rfl) ?_
 refine ss 10 rfl rfl (Ys_bslice (s := 4) (len := 1) (vs := [(0, .agg #[vi out.A, vi out.B, vi out.C, vi out.D])]) (cs := [vi out.A, vi out.B, vi out.C, vi out.D]) (zs := [vi 0, vi 0, vi 0, vi 0]) (m := 4) hS2 k_sl_113_42 k_sz_42_4 k_zc_42 rfl (mpc rfl mpn) rfl rfl rfl (by kernel_rfl) (by kernel_rfl) rfl) ?_
 rintro _ w_2 ⟨b2, rfl, hS3⟩
 have hS3 : ST w0 (bl [⟨B, 42, (args.flatMap enc_Ring), c * 4⟩]) _ [⟨B, 42, (args.flatMap enc_Ring), c * 4⟩, ⟨aD b, 42, [vi out.A, vi out.B, vi out.C, vi out.D], 4⟩, ⟨aD b1, 42, [vi 0, vi 0, vi 0, vi 0], 4⟩, ⟨aD b2, 42, ([out].flatMap enc_Ring), 1 * 4⟩] [] := hS3
 obtain ⟨hap, hF⟩ := chk_inv hF
 refine ss 11 rfl rfl (Ys_append (s := 4) (by' := 32) (i := 0) (nn := args.length) (c := c) (k := 1) (len := (args ++ [out]).length) (B := B) (xs := ([out].flatMap enc_Ring)) (cs' := ((args ++ [out]).flatMap enc_Ring)) hS3 k_sl_113_42 k_sz_42_4 k_by_42_32 k_zero_42 rfl (by decide) rfl rfl rfl rfl (fm_lenn (l := args) enc_Ring_len rfl) rfl (hS3.cf (i := 3) rfl) (fm_lenn (l := [out]) enc_Ring_len rfl) (fm_one' (enc := enc_Ring) enc_Ring_one [out]) (by have := hap; omega) (by have := hap; simp only [maxLen]; omega) (fm_app _ _) (app_len (l := args) (l' := [out]) rfl rfl)) ?_
 rintro _ w_3 ⟨B1, c1, rfl, hS4⟩
 have hS4 : ST w0 (bl [⟨B, 42, (args.flatMap enc_Ring), c * 4⟩]) _ [⟨B1, 42, ((args ++ [out]).flatMap enc_Ring), c1 * 4⟩, ⟨aD b, 42, [vi out.A, vi out.B, vi out.C, vi out.D], 4⟩, ⟨aD b1, 42, [vi 0, vi 0, vi 0, vi 0], 4⟩, ⟨aD b2, 42, ([out].flatMap enc_Ring), 1 * 4⟩] [] := hS4
 refine sq 12 rfl rfl (Y_len (B := B1) (m := (args ++ [out]).length) (c := c1) k_sl_113_42 rfl rfl) ?_
 refine sq 13 rfl rfl (Y_move (v := vi 0) rfl rfl) ?_
 refine rw_nil ?_
 obtain ⟨hN, hF⟩ := chk_inv hF
 obtain ⟨z, hz, hF1⟩ := bind_inv hF
 refine cw_block ?_
 refine cw_loop (fun k f w => ∃ (i : Nat), FF f [(2, pt (aD b) 0), (4, pt (aD b1) 0), (11, .slice B1 ((args ++ [out]).length) c1), (12, vi ((args ++ [out]).length : Int)), (13, vi (i : Int))] ∧ ST w0 (bl [⟨B, 42, (args.flatMap enc_Ring), c * 4⟩]) w [⟨aD b, 42, [vi out.A, vi out.B, vi out.C, vi out.D], 4⟩, ⟨aD b1, 42, [vi 0, vi 0, vi 0, vi 0], 4⟩, ⟨B1, 42, ((args ++ [out]).flatMap enc_Ring), c1 * 4⟩] [] ∧ i + k = (args ++ [out]).length ∧ forX (F_impl_ringIf_l1 args out) k i () = some z) ((args ++ [out]).length) ⟨0, (FF.cons rfl (FF.cons rfl (FF.cons rfl (FF.cons rfl (FF.cons rfl FF.nil))))), (hS4.sel [1, 2, 0] rfl rfl), Nat.zero_add _, hz⟩ ?_
 rintro k_ f w ⟨i, hf, hS5, hik, hL⟩
 refine cw_seq ?_
 refine cw_region ?_
 refine sq 14 rfl rfl (Y_lt (k := .i64) (a := (i : Int)) (b := ((args ++ [out]).length : Int)) rfl (hf.get 13 4 rfl) (hf.get 12 3 rfl)) ?_
 refine rw_nil ?_
 refine cw_seq ?_
 refine cw_cond (b := (decide ((i : Int) < ((args ++ [out]).length : Int)))) rfl (fun hlt => ?_) (fun hlt => ?_)
 ·skip
  have hlt1 : i < (args ++ [out]).length := by have h := of_decide_eq_true hlt; omega
  obtain ⟨k_1, rfl⟩ : ∃ k2, k_ = k2 + 1 := ⟨k_ - 1, by omega⟩
  obtain ⟨y, hb, hL1⟩ := forX_go hL
  unfold F_impl_ringIf_l1 at hb
  refine cw_skip ?_
  refine cw_seq ?_
  refine cw_block ?_
  refine cw_seq ?_
  refine cw_region ?_
  obtain ⟨x, hx, hb⟩ := bind_inv hb
  refine sq 15 rfl rfl (Y_index (B := B1) (m := (args ++ [out]).length) (c := c1) (k := .i64) (i := (i : Int)) k_sl_113_42 k_sz_42_4 rfl (hf.get 11 2 rfl) (hf.get 13 4 rfl) (gi_isSome enc_Ring_len rfl (hS5.cf (i := 2) rfl) hx) (getI_nn hx) (getI_ltI hx rfl)) ?_
  refine sq 16 rfl rfl (Y_loadA (B := B1) (i := (i : Int).toNat * 4) (cs := ((args ++ [out]).flatMap enc_Ring)) (vs := [vi x.A, vi x.B, vi x.C, vi x.D]) k_ag_42 k_sz_42_4 rfl rfl (hS5.cf (i := 2) rfl) (enc_Ring_len x) (gi_seg enc_Ring_len hx)) ?_
  refine ss 7 rfl rfl (Ys_alloc (T := 42) (cs := [vi 0, vi 0, vi 0, vi 0]) (m := 4) hS5 k_zero_42 rfl rfl rfl) ?_
  rintro _ w_4 ⟨b3, rfl, hS6⟩
  have hS6 : ST w0 (bl [⟨B, 42, (args.flatMap enc_Ring), c * 4⟩]) _ [⟨aD b, 42, [vi out.A, vi out.B, vi out.C, vi out.D], 4⟩, ⟨aD b1, 42, [vi 0, vi 0, vi 0, vi 0], 4⟩, ⟨B1, 42, ((args ++ [out]).flatMap enc_Ring), c1 * 4⟩, ⟨aD b3, 42, [vi 0, vi 0, vi 0, vi 0], 4⟩] [] := hS6
  refine ss0 rfl rfl (Ys_store (i := 3) (s := 4) (B := aD b3) (T' := 42) (v := .agg #[vi x.A, vi x.B, vi x.C, vi x.D]) (vs := [vi x.A, vi x.B, vi x.C, vi x.D]) (k := 0) (cs' := [vi x.A, vi x.B, vi x.C, vi x.D]) hS6 k_sz_42_4 rfl rfl rfl rfl rfl rfl rfl (Nat.le_of_ble_eq_true rfl) rfl rfl) ?_
  rintro _ w_5 ⟨rfl, hS7⟩
  have hS7 : ST w0 (bl [⟨B, 42, (args.flatMap enc_Ring), c * 4⟩]) _ [⟨aD b, 42, [vi out.A, vi out.B, vi out.C, vi out.D], 4⟩, ⟨aD b1, 42, [vi 0, vi 0, vi 0, vi 0], 4⟩, ⟨B1, 42, ((args ++ [out]).flatMap enc_Ring), c1 * 4⟩, ⟨aD b3, 42, [vi x.A, vi x.B, vi x.C, vi x.D], 4⟩] [] := hS7
  refine rw_nil ?_
  refine cw_seq ?_
  refine cw_region ?_
  refine sq 17 rfl rfl (Y_loadA (B := aD b3) (i := 0) (cs := [vi x.A, vi x.B, vi x.C, vi x.D]) (vs := [vi x.A, vi x.B, vi x.C, vi x.D]) k_ag_42 k_sz_42_4 rfl rfl (hS7.cf (i := 3) rfl) rfl rfl) ?_
  obtain ⟨r_2, hc, hb⟩ := bind_inv hb
  refine sc 18 rfl rfl (Yc_func (g := 74) (vs := [.agg #[vi x.A, vi x.B, vi x.C, vi x.D]]) k_call_74 rfl (mc rfl mn) (c_impl_IsValidRing x _  (hS7.inn0 [] rfl) hc)) ?_
  rintro _ w_6 ⟨rfl, hd⟩
  have hS8 := hS7.out00 hd
  have hS8 : ST w0 (bl [⟨B, 42, (args.flatMap enc_Ring), c * 4⟩]) _ [⟨aD b, 42, [vi out.A, vi out.B, vi out.C, vi out.D], 4⟩, ⟨aD b1, 42, [vi 0, vi 0, vi 0, vi 0], 4⟩, ⟨B1, 42, ((args ++ [out]).flatMap enc_Ring), c1 * 4⟩, ⟨aD b3, 42, [vi x.A, vi x.B, vi x.C, vi x.D], 4⟩] [] := hS8
  refine sq 19 rfl rfl (Y_not (p := r_2) rfl rfl) ?_
  refine rw_nil ?_
  refine cw_cond (b := (!r_2)) rfl (fun hb1 => ?_) (fun hb1 => ?_)
  ·skip
   have hF2 := ct hb hb1
   refine cw_seq ?_
   refine cw_region ?_
   refine sq 20 rfl rfl (Y_buildS (zs := [vi 0, vi 0, vi 0, vi 0]) (vs := []) (cs := [vi 0, vi 0, vi 0, vi 0]) k_pl_42 k_zero_42 rfl mpn rfl) ?_
   refine ss0 rfl rfl (Ys_store (i := 1) (s := 4) (B := aD b1) (T' := 42) (v := .agg #[vi 0, vi 0, vi 0, vi 0]) (vs := [vi 0, vi 0, vi 0, vi 0]) (k := 0) (cs' := [vi 0, vi 0, vi 0, vi 0]) hS8 k_sz_42_4 rfl (hf.get 4 1 rfl) rfl rfl rfl rfl rfl (Nat.le_of_ble_eq_true rfl) rfl rfl) ?_
   rintro _ w_7 ⟨rfl, hS9⟩
   have hS9 : ST w0 (bl [⟨B, 42, (args.flatMap enc_Ring), c * 4⟩]) _ [⟨aD b, 42, [vi out.A, vi out.B, vi out.C, vi out.D], 4⟩, ⟨aD b1, 42, [vi 0, vi 0, vi 0, vi 0], 4⟩, ⟨B1, 42, ((args ++ [out]).flatMap enc_Ring), c1 * 4⟩, ⟨aD b3, 42, [vi x.A, vi x.B, vi x.C, vi x.D], 4⟩] [] := hS9
   refine sq 5 rfl rfl (Y_assign (v := .bool false) rfl rfl) ?_
   refine rw_nil ?_
   refine cw_ret ?_
   obtain rfl := some_inj hF2
   obtain rfl := some_inj hL1
   obtain ⟨rfl, rfl⟩ := pr2 (some_inj hF1)
   exact ret2 Tryd.results73 (v1 := .agg #[vi 0, vi 0, vi 0, vi 0]) (resAt_cellA (B := aD b1) (i := 0) (cs := [vi 0, vi 0, vi 0, vi 0]) (vs := [vi 0, vi 0, vi 0, vi 0]) (hf.get 4 1 rfl) k_ag_42 k_sz_42_4 (hS9.cf (i := 1) rfl) rfl rfl) (v2 := .bool false) (resAt_tmp rfl) ⟨rfl, (ST.subR (R' := []) (hS9.sel [] rfl rfl) (fun _ h => by cases h))⟩
  ·skip
   have hF3 := cf' hb hb1
   refine cw_skip ?_
   refine cw_region ?_
   refine sq 21 rfl rfl (Y_add (k := .i64) (a := (i : Int)) (b := 1) rfl (hf.get 13 4 rfl) rfl) ?_
   refine sq 13 rfl rfl (Y_move (v := vi (i64.wrap ((i : Int) + 1))) rfl rfl) ?_
   refine rw_nil ?_
   obtain rfl := some_inj hF3
   exact ⟨k_1, Nat.lt_succ_self _, i + 1, (FF.cons (hf.get 2 0 rfl) (FF.cons (hf.get 4 1 rfl) (FF.cons (hf.get 11 2 rfl) (FF.cons (hf.get 12 3 rfl) (FF.cons (congrArg (Value.int .i64) (wr_succ hlt1 hN)) FF.nil))))), (hS8.sel [0, 1, 2] rfl rfl), (by omega), hL1⟩
 ·skip
  obtain rfl : k_ = 0 := by have h := of_decide_eq_false hlt; omega
  refine cw_exit rfl ?_
  obtain rfl := some_inj hL
  refine cw_seq ?_
  refine cw_region ?_
  refine sq 22 rfl rfl (Y_loadA (B := aD b) (i := 0) (cs := [vi out.A, vi out.B, vi out.C, vi out.D]) (vs := [vi out.A, vi out.B, vi out.C, vi out.D]) k_ag_42 k_sz_42_4 rfl (hf.get 2 0 rfl) (hS5.cf (i := 0) rfl) rfl rfl) ?_
  refine ss0 rfl rfl (Ys_store (i := 1) (s := 4) (B := aD b1) (T' := 42) (v := .agg #[vi out.A, vi out.B, vi out.C, vi out.D]) (vs := [vi out.A, vi out.B, vi out.C, vi out.D]) (k := 0) (cs' := [vi out.A, vi out.B, vi out.C, vi out.D]) hS5 k_sz_42_4 rfl (hf.get 4 1 rfl) rfl rfl rfl rfl rfl (Nat.le_of_ble_eq_true rfl) rfl rfl) ?_
  rintro _ w_8 ⟨rfl, hS10⟩
  have hS10 : ST w0 (bl [⟨B, 42, (args.flatMap enc_Ring), c * 4⟩]) _ [⟨aD b, 42, [vi out.A, vi out.B, vi out.C, vi out.D], 4⟩, ⟨aD b1, 42, [vi out.A, vi out.B, vi out.C, vi out.D], 4⟩, ⟨B1, 42, ((args ++ [out]).flatMap enc_Ring), c1 * 4⟩] [] := hS10
  refine sq 5 rfl rfl (Y_assign (v := .bool true) rfl rfl) ?_
  refine rw_nil ?_
  refine cw_ret ?_
  obtain ⟨rfl, rfl⟩ := pr2 (some_inj hF1)
  exact ret2 Tryd.results73 (v1 := .agg #[vi out.A, vi out.B, vi out.C, vi out.D]) (resAt_cellA (B := aD b1) (i := 0) (cs := [vi out.A, vi out.B, vi out.C, vi out.D]) (vs := [vi out.A, vi out.B, vi out.C, vi out.D]) (hf.get 4 1 rfl) k_ag_42 k_sz_42_4 (hS10.cf (i := 1) rfl) rfl rfl) (v2 := .bool true) (resAt_tmp rfl) ⟨rfl, (ST.subR (R' := []) (hS10.sel [] rfl rfl) (fun _ h => by cases h))⟩

theorem c_impl_Conjugate (x : TRing)  (w0 : World)  (hS : ST w0 [] w0 [] []) {r_ : TRing} {r_1 : Bool} (hF : F_impl_Conjugate x = some (r_, r_1)) :
  CV Tryd.prog 86 #[.agg #[vi x.A, vi x.B, vi x.C, vi x.D]] w0 (fun v w' => v = .tuple #[.agg #[vi r_.A, vi r_.B, vi r_.C, vi r_.D], .bool r_1] ∧ ST w0 [] w' [] []) := by
 unfold F_impl_Conjugate at hF
 refine cv_of_cw 21 Tryd.func86 rfl Tryd.ntmps86 rfl ?_
 refine cw_seq ?_
 refine cw_region ?_
 refine ss 1 rfl rfl (Ys_box (T := 42) (v := .agg #[vi x.A, vi x.B, vi x.C, vi x.D]) (cs := [vi x.A, vi x.B, vi x.C, vi x.D]) (m := 4) hS rfl rfl rfl rfl) ?_
 rintro _ w_ ⟨b, rfl, hS1⟩
 refine ss 2 rfl rfl (Ys_alloc (T := 42) (cs := [vi 0, vi 0, vi 0, vi 0]) (m := 4) hS1 k_zero_42 rfl rfl rfl) ?_
 rintro _ w_1 ⟨b1, rfl, hS2⟩
 have hS2 : ST w0 [] _ [⟨aD b, 42, [vi x.A, vi x.B, vi x.C, vi x.D], 4⟩, ⟨aD b1, 42, [vi 0, vi 0, vi 0, vi 0], 4⟩] [] := hS2
 refine sq 3 rfl rfl (Y_assign (v := .bool false) rfl rfl) ?_
 refine rw_nil ?_
 refine cw_seq ?_
 refine cw_region ?_
 refine sq 4 rfl rfl (Y_fieldAddr (B := aD b) (i := 0) (s := 0) k_fd_42_0_0_3 k_sz_3_1 rfl rfl) ?_
 refine sq 5 rfl rfl (Y_load1 (B := aD b) (i := 0) (cs := [vi x.A, vi x.B, vi x.C, vi x.D]) (v := vi x.A) k_sc_3 rfl rfl (hS2.cf (i := 0) rfl) rfl) ?_
 refine sq 6 rfl rfl (Y_fieldAddr (B := aD b) (i := 0) (s := 0) k_fd_42_3_3_3 k_sz_3_1 rfl rfl) ?_
 refine sq 7 rfl rfl (Y_load1 (B := aD b) (i := 3) (cs := [vi x.A, vi x.B, vi x.C, vi x.D]) (v := vi x.D) k_sc_3 rfl rfl (hS2.cf (i := 0) rfl) rfl) ?_
 refine sq 8 rfl rfl (Y_neg (k := .i64) (a := x.D) rfl rfl) ?_
 refine sq 9 rfl rfl (Y_fieldAddr (B := aD b) (i := 0) (s := 0) k_fd_42_2_2_3 k_sz_3_1 rfl rfl) ?_
 refine sq 10 rfl rfl (Y_load1 (B := aD b) (i := 2) (cs := [vi x.A, vi x.B, vi x.C, vi x.D]) (v := vi x.C) k_sc_3 rfl rfl (hS2.cf (i := 0) rfl) rfl) ?_
 refine sq 11 rfl rfl (Y_neg (k := .i64) (a := x.C) rfl rfl) ?_
 refine sq 12 rfl rfl (Y_fieldAddr (B := aD b) (i := 0) (s := 0) k_fd_42_1_1_3 k_sz_3_1 rfl rfl) ?_
 refine sq 13 rfl rfl (Y_load1 (B := aD b) (i := 1) (cs := [vi x.A, vi x.B, vi x.C, vi x.D]) (v := vi x.B) k_sc_3 rfl rfl (hS2.cf (i := 0) rfl) rfl) ?_
 refine sq 14 rfl rfl (Y_neg (k := .i64) (a := x.B) rfl rfl) ?_
 refine sq 15 rfl rfl (Y_buildS (zs := [vi 0, vi 0, vi 0, vi 0]) (vs := [(0, vi x.A), (1, vi (i64.wrap (-x.D))), (2, vi (i64.wrap (-x.C))), (3, vi (i64.wrap (-x.B)))]) (cs := [vi x.A, vi (i64.wrap (-x.D)), vi (i64.wrap (-x.C)), vi (i64.wrap (-x.B))]) k_pl_42 k_zero_42 rfl (mpc rfl (mpc rfl (mpc rfl (mpc rfl mpn)))) rfl) ?_
 refine sq 16 rfl rfl (Y_loadA (B := aD b) (i := 0) (cs := [vi x.A, vi x.B, vi x.C, vi x.D]) (vs := [vi x.A, vi x.B, vi x.C, vi x.D]) k_ag_42 k_sz_42_4 rfl rfl (hS2.cf (i := 0) rfl) rfl rfl) ?_
 refine ss 17 rfl rfl (Ys_bslice (s := 4) (len := 1) (vs := [(0, .agg #[vi x.A, vi x.B, vi x.C, vi x.D])]) (cs := [vi x.A, vi x.B, vi x.C, vi x.D]) (zs := [vi 0, vi 0, vi 0, vi 0]) (m := 4) hS2 k_sl_113_42 k_sz_42_4 k_zc_42 rfl (mpc rfl mpn) rfl rfl rfl (by kernel_rfl) (by kernel_rfl) rfl) ?_
 rintro _ w_2 ⟨b2, rfl, hS3⟩
 have hS3 : ST w0 [] _ [⟨aD b, 42, [vi x.A, vi x.B, vi x.C, vi x.D], 4⟩, ⟨aD b1, 42, [vi 0, vi 0, vi 0, vi 0], 4⟩, ⟨aD b2, 42, ([x].flatMap enc_Ring), 1 * 4⟩] [] := hS3
 obtain ⟨⟨r_2, r_3⟩, hc, hF⟩ := bind_inv hF
 refine sc 18 rfl rfl (Yc_func (g := 73) (vs := [.agg #[vi x.A, vi (i64.wrap (-x.D)), vi (i64.wrap (-x.C)), vi (i64.wrap (-x.B))], .slice (aD b2) 1 1]) k_call_73 rfl (mc rfl (mc rfl mn)) (c_impl_ringIf (TRing.mk x.A (i64.wrap (-x.D)) (i64.wrap (-x.C)) (i64.wrap (-x.B))) [x] (aD b2) 1 1 _ rfl (hS3.inn [false, false, true] rfl [] rfl) hc)) ?_
 rintro _ w_3 ⟨rfl, hd⟩
 have hS4 := hS3.out [false, false, true] rfl hd
 have hS4 : ST w0 [] _ [⟨aD b, 42, [vi x.A, vi x.B, vi x.C, vi x.D], 4⟩, ⟨aD b1, 42, [vi 0, vi 0, vi 0, vi 0], 4⟩] [] := hS4
 refine sq 19 rfl rfl (Y_extract (v := .agg #[vi r_2.A, vi r_2.B, vi r_2.C, vi r_2.D]) rfl rfl rfl) ?_
 refine sq 20 rfl rfl (Y_extract (v := .bool r_3) rfl rfl rfl) ?_
 refine ss0 rfl rfl (Ys_store (i := 1) (s := 4) (B := aD b1) (T' := 42) (v := .agg #[vi r_2.A, vi r_2.B, vi r_2.C, vi r_2.D]) (vs := [vi r_2.A, vi r_2.B, vi r_2.C, vi r_2.D]) (k := 0) (cs' := [vi r_2.A, vi r_2.B, vi r_2.C, vi r_2.D]) hS4 k_sz_42_4 rfl rfl rfl rfl rfl rfl rfl (Nat.le_of_ble_eq_true rfl) rfl rfl) ?_
 rintro _ w_4 ⟨rfl, hS5⟩
 have hS5 : ST w0 [] _ [⟨aD b, 42, [vi x.A, vi x.B, vi x.C, vi x.D], 4⟩, ⟨aD b1, 42, [vi r_2.A, vi r_2.B, vi r_2.C, vi r_2.D], 4⟩] [] := hS5
 refine sq 3 rfl rfl (Y_assign (v := .bool r_3) rfl rfl) ?_
 refine rw_nil ?_
 refine cw_ret ?_
 obtain ⟨rfl, rfl⟩ := pr2 (some_inj hF)
 exact ret2 Tryd.results86 (v1 := .agg #[vi r_2.A, vi r_2.B, vi r_2.C, vi r_2.D]) (resAt_cellA (B := aD b1) (i := 0) (cs := [vi r_2.A, vi r_2.B, vi r_2.C, vi r_2.D]) (vs := [vi r_2.A, vi r_2.B, vi r_2.C, vi r_2.D]) rfl k_ag_42 k_sz_42_4 (hS5.cf (i := 1) rfl) rfl rfl) (v2 := .bool r_3) (resAt_tmp rfl) ⟨rfl, (ST.subR (R' := []) (hS5.sel [] rfl rfl) (fun _ h => by cases h))⟩

theorem c_impl_ConjDyadic (x : TDyadic)  (w0 : World)  (hS : ST w0 [] w0 [] []) {r_ : TDyadic} {r_1 : Bool} (hF : F_impl_ConjDyadic x = some (r_, r_1)) :
  CV Tryd.prog 69 #[.agg #[vi x.Num.A, vi x.Num.B, vi x.Num.C, vi x.Num.D, vi x.Exp]] w0 (fun v w' => v = .tuple #[.agg #[vi r_.Num.A, vi r_.Num.B, vi r_.Num.C, vi r_.Num.D, vi r_.Exp], .bool r_1] ∧ ST w0 [] w' [] []) := by
 unfold F_impl_ConjDyadic at hF
 refine cv_of_cw 20 Tryd.func69 rfl Tryd.ntmps69 rfl ?_
 refine cw_seq ?_
 refine cw_region ?_
 refine ss 1 rfl rfl (Ys_box (T := 44) (v := .agg #[vi x.Num.A, vi x.Num.B, vi x.Num.C, vi x.Num.D, vi x.Exp]) (cs := [vi x.Num.A, vi x.Num.B, vi x.Num.C, vi x.Num.D, vi x.Exp]) (m := 5) hS rfl rfl rfl rfl) ?_
 rintro _ w_ ⟨b, rfl, hS1⟩
 refine ss 2 rfl rfl (Ys_alloc (T := 44) (cs := [vi 0, vi 0, vi 0, vi 0, vi 0]) (m := 5) hS1 k_zero_44 rfl rfl rfl) ?_
 rintro _ w_1 ⟨b1, rfl, hS2⟩
 have hS2 : ST w0 [] _ [⟨aD b, 44, [vi x.Num.A, vi x.Num.B, vi x.Num.C, vi x.Num.D, vi x.Exp], 5⟩, ⟨aD b1, 44, [vi 0, vi 0, vi 0, vi 0, vi 0], 5⟩] [] := hS2
 refine sq 3 rfl rfl (Y_assign (v := .bool false) rfl rfl) ?_
 refine rw_nil ?_
 refine cw_seq ?_
 refine cw_seq ?_
 refine cw_region ?_
 refine sq 6 rfl rfl (Y_loadA (B := aD b) (i := 0) (cs := [vi x.Num.A, vi x.Num.B, vi x.Num.C, vi x.Num.D, vi x.Exp]) (vs := [vi x.Num.A, vi x.Num.B, vi x.Num.C, vi x.Num.D, vi x.Exp]) k_ag_44 k_sz_44_5 rfl rfl (hS2.cf (i := 0) rfl) rfl rfl) ?_
 obtain ⟨r_2, hc, hF⟩ := bind_inv hF
 refine sc 7 rfl rfl (Yc_func (g := 53) (vs := [.agg #[vi x.Num.A, vi x.Num.B, vi x.Num.C, vi x.Num.D, vi x.Exp]]) k_call_53 rfl (mc rfl mn) (c_impl_IsValidDyadic x _  (hS2.inn0 [] rfl) hc)) ?_
 rintro _ w_2 ⟨rfl, hd⟩
 have hS3 := hS2.out00 hd
 have hS3 : ST w0 [] _ [⟨aD b, 44, [vi x.Num.A, vi x.Num.B, vi x.Num.C, vi x.Num.D, vi x.Exp], 5⟩, ⟨aD b1, 44, [vi 0, vi 0, vi 0, vi 0, vi 0], 5⟩] [] := hS3
 refine sq 8 rfl rfl (Y_not (p := r_2) rfl rfl) ?_
 refine rw_nil ?_
 refine cw_cond (b := (!r_2)) rfl (fun hb => ?_) (fun hb => ?_)
 ·skip
  have hF1 := ct hF hb
  refine cw_seq ?_
  refine cw_region ?_
  refine sq 9 rfl rfl (Y_buildS (zs := [vi 0, vi 0, vi 0, vi 0, vi 0]) (vs := []) (cs := [vi 0, vi 0, vi 0, vi 0, vi 0]) k_pl_44 k_zero_44 rfl mpn rfl) ?_
  refine ss0 rfl rfl (Ys_store (i := 1) (s := 5) (B := aD b1) (T' := 44) (v := .agg #[vi 0, vi 0, vi 0, vi 0, vi 0]) (vs := [vi 0, vi 0, vi 0, vi 0, vi 0]) (k := 0) (cs' := [vi 0, vi 0, vi 0, vi 0, vi 0]) hS3 k_sz_44_5 rfl rfl rfl rfl rfl rfl rfl (Nat.le_of_ble_eq_true rfl) rfl rfl) ?_
  rintro _ w_3 ⟨rfl, hS4⟩
  have hS4 : ST w0 [] _ [⟨aD b, 44, [vi x.Num.A, vi x.Num.B, vi x.Num.C, vi x.Num.D, vi x.Exp], 5⟩, ⟨aD b1, 44, [vi 0, vi 0, vi 0, vi 0, vi 0], 5⟩] [] := hS4
  refine sq 3 rfl rfl (Y_assign (v := .bool false) rfl rfl) ?_
  refine rw_nil ?_
  refine cw_ret ?_
  obtain ⟨rfl, rfl⟩ := pr2 (some_inj hF1)
  exact ret2 Tryd.results69 (v1 := .agg #[vi 0, vi 0, vi 0, vi 0, vi 0]) (resAt_cellA (B := aD b1) (i := 0) (cs := [vi 0, vi 0, vi 0, vi 0, vi 0]) (vs := [vi 0, vi 0, vi 0, vi 0, vi 0]) rfl k_ag_44 k_sz_44_5 (hS4.cf (i := 1) rfl) rfl rfl) (v2 := .bool false) (resAt_tmp rfl) ⟨rfl, (ST.subR (R' := []) (hS4.sel [] rfl rfl) (fun _ h => by cases h))⟩
 ·skip
  have hF2 := cf' hF hb
  refine cw_skip ?_
  refine cw_seq ?_
  refine cw_region ?_
  refine sq 11 rfl rfl (Y_fieldAddr (B := aD b) (i := 0) (s := 3) k_fd_44_0_0_42 k_sz_42_4 rfl rfl) ?_
  refine sq 12 rfl rfl (Y_loadA (B := aD b) (i := 0) (cs := [vi x.Num.A, vi x.Num.B, vi x.Num.C, vi x.Num.D, vi x.Exp]) (vs := [vi x.Num.A, vi x.Num.B, vi x.Num.C, vi x.Num.D]) k_ag_42 k_sz_42_4 rfl rfl (hS3.cf (i := 0) rfl) rfl rfl) ?_
  obtain ⟨⟨r_3, r_4⟩, hc1, hF2⟩ := bind_inv hF2
  refine sc 13 rfl rfl (Yc_func (g := 86) (vs := [.agg #[vi x.Num.A, vi x.Num.B, vi x.Num.C, vi x.Num.D]]) k_call_86 rfl (mc rfl mn) (c_impl_Conjugate x.Num _  (hS3.inn0 [] rfl) hc1)) ?_
  rintro _ w_4 ⟨rfl, hd1⟩
  have hS5 := hS3.out00 hd1
  have hS5 : ST w0 [] _ [⟨aD b, 44, [vi x.Num.A, vi x.Num.B, vi x.Num.C, vi x.Num.D, vi x.Exp], 5⟩, ⟨aD b1, 44, [vi 0, vi 0, vi 0, vi 0, vi 0], 5⟩] [] := hS5
  refine sq 10 rfl rfl (Y_move (v := .tuple #[.agg #[vi r_3.A, vi r_3.B, vi r_3.C, vi r_3.D], .bool r_4]) rfl rfl) ?_
  refine sq 14 rfl rfl (Y_extract (v := .agg #[vi r_3.A, vi r_3.B, vi r_3.C, vi r_3.D]) rfl rfl rfl) ?_
  refine sq 15 rfl rfl (Y_extract (v := .bool r_4) rfl rfl rfl) ?_
  refine ss 4 rfl rfl (Ys_alloc (T := 42) (cs := [vi 0, vi 0, vi 0, vi 0]) (m := 4) hS5 k_zero_42 rfl rfl rfl) ?_
  rintro _ w_5 ⟨b2, rfl, hS6⟩
  have hS6 : ST w0 [] _ [⟨aD b, 44, [vi x.Num.A, vi x.Num.B, vi x.Num.C, vi x.Num.D, vi x.Exp], 5⟩, ⟨aD b1, 44, [vi 0, vi 0, vi 0, vi 0, vi 0], 5⟩, ⟨aD b2, 42, [vi 0, vi 0, vi 0, vi 0], 4⟩] [] := hS6
  refine ss0 rfl rfl (Ys_store (i := 2) (s := 4) (B := aD b2) (T' := 42) (v := .agg #[vi r_3.A, vi r_3.B, vi r_3.C, vi r_3.D]) (vs := [vi r_3.A, vi r_3.B, vi r_3.C, vi r_3.D]) (k := 0) (cs' := [vi r_3.A, vi r_3.B, vi r_3.C, vi r_3.D]) hS6 k_sz_42_4 rfl rfl rfl rfl rfl rfl rfl (Nat.le_of_ble_eq_true rfl) rfl rfl) ?_
  rintro _ w_6 ⟨rfl, hS7⟩
  have hS7 : ST w0 [] _ [⟨aD b, 44, [vi x.Num.A, vi x.Num.B, vi x.Num.C, vi x.Num.D, vi x.Exp], 5⟩, ⟨aD b1, 44, [vi 0, vi 0, vi 0, vi 0, vi 0], 5⟩, ⟨aD b2, 42, [vi r_3.A, vi r_3.B, vi r_3.C, vi r_3.D], 4⟩] [] := hS7
  refine sq 5 rfl rfl (Y_assign (v := .bool r_4) rfl rfl) ?_
  refine rw_nil ?_
  refine cw_seq ?_
  refine cw_region ?_
  refine sq 16 rfl rfl (Y_loadA (B := aD b2) (i := 0) (cs := [vi r_3.A, vi r_3.B, vi r_3.C, vi r_3.D]) (vs := [vi r_3.A, vi r_3.B, vi r_3.C, vi r_3.D]) k_ag_42 k_sz_42_4 rfl rfl (hS7.cf (i := 2) rfl) rfl rfl) ?_
  refine sq 17 rfl rfl (Y_fieldAddr (B := aD b) (i := 0) (s := 0) k_fd_44_1_4_3 k_sz_3_1 rfl rfl) ?_
  refine sq 18 rfl rfl (Y_load1 (B := aD b) (i := 4) (cs := [vi x.Num.A, vi x.Num.B, vi x.Num.C, vi x.Num.D, vi x.Exp]) (v := vi x.Exp) k_sc_3 rfl rfl (hS7.cf (i := 0) rfl) rfl) ?_
  refine sq 19 rfl rfl (Y_buildS (zs := [vi 0, vi 0, vi 0, vi 0, vi 0]) (vs := [(0, .agg #[vi r_3.A, vi r_3.B, vi r_3.C, vi r_3.D]), (1, vi x.Exp)]) (cs := [vi r_3.A, vi r_3.B, vi r_3.C, vi r_3.D, vi x.Exp]) k_pl_44 k_zero_44 rfl (mpc rfl (mpc rfl mpn)) rfl) ?_
  refine ss0 rfl rfl (Ys_store (i := 1) (s := 5) (B := aD b1) (T' := 44) (v := .agg #[vi r_3.A, vi r_3.B, vi r_3.C, vi r_3.D, vi x.Exp]) (vs := [vi r_3.A, vi r_3.B, vi r_3.C, vi r_3.D, vi x.Exp]) (k := 0) (cs' := [vi r_3.A, vi r_3.B, vi r_3.C, vi r_3.D, vi x.Exp]) hS7 k_sz_44_5 rfl rfl rfl rfl rfl rfl rfl (Nat.le_of_ble_eq_true rfl) rfl rfl) ?_
  rintro _ w_7 ⟨rfl, hS8⟩
  have hS8 : ST w0 [] _ [⟨aD b, 44, [vi x.Num.A, vi x.Num.B, vi x.Num.C, vi x.Num.D, vi x.Exp], 5⟩, ⟨aD b1, 44, [vi r_3.A, vi r_3.B, vi r_3.C, vi r_3.D, vi x.Exp], 5⟩, ⟨aD b2, 42, [vi r_3.A, vi r_3.B, vi r_3.C, vi r_3.D], 4⟩] [] := hS8
  refine sq 3 rfl rfl (Y_assign (v := .bool true) rfl rfl) ?_
  refine rw_nil ?_
  refine cw_ret ?_
  obtain ⟨rfl, rfl⟩ := pr2 (some_inj hF2)
  exact ret2 Tryd.results69 (v1 := .agg #[vi r_3.A, vi r_3.B, vi r_3.C, vi r_3.D, vi x.Exp]) (resAt_cellA (B := aD b1) (i := 0) (cs := [vi r_3.A, vi r_3.B, vi r_3.C, vi r_3.D, vi x.Exp]) (vs := [vi r_3.A, vi r_3.B, vi r_3.C, vi r_3.D, vi x.Exp]) rfl k_ag_44 k_sz_44_5 (hS8.cf (i := 1) rfl) rfl rfl) (v2 := .bool true) (resAt_tmp rfl) ⟨rfl, (ST.subR (R' := []) (hS8.sel [] rfl rfl) (fun _ h => by cases h))⟩

theorem c_impl_Matrix_at (m : TMatrix) (i : Int) (j : Int) (B : Option Addr) (c n : Nat) (w0 : World) (hn : m.Cells.length = n) (hS : ST w0 [] w0 [] [⟨B, (m.Cells.flatMap eN0)⟩]) {r_ : TDyadic} (hF : F_impl_Matrix_at m i j = some r_) :
  CV Tryd.prog 70 #[.agg #[vi m.Rows, vi m.Cols, .slice B n c], vi i, vi j] w0 (fun v w' => v = .agg #[vi r_.Num.A, vi r_.Num.B, vi r_.Num.C, vi r_.Num.D, vi r_.Exp] ∧ ST w0 [] w' [] []) := by
 subst hn
 unfold F_impl_Matrix_at at hF
 refine cv_of_cw 17 Tryd.func70 rfl Tryd.ntmps70 rfl ?_
 refine cw_seq ?_
 refine cw_region ?_
 refine ss 3 rfl rfl (Ys_box (T := 38) (v := .agg #[vi m.Rows, vi m.Cols, .slice B m.Cells.length c]) (cs := [vi m.Rows, vi m.Cols, .slice B m.Cells.length c]) (m := 3) hS rfl rfl rfl rfl) ?_
 rintro _ w_ ⟨b, rfl, hS1⟩
 refine ss 6 rfl rfl (Ys_alloc (T := 44) (cs := [vi 0, vi 0, vi 0, vi 0, vi 0]) (m := 5) hS1 k_zero_44 rfl rfl rfl) ?_
 rintro _ w_1 ⟨b1, rfl, hS2⟩
 have hS2 : ST w0 [] _ [⟨aD b, 38, [vi m.Rows, vi m.Cols, .slice B m.Cells.length c], 3⟩, ⟨aD b1, 44, [vi 0, vi 0, vi 0, vi 0, vi 0], 5⟩] [⟨B, (m.Cells.flatMap eN0)⟩] := hS2
 refine rw_nil ?_
 refine cw_seq ?_
 refine cw_region ?_
 refine sq 7 rfl rfl (Y_fieldAddr (B := aD b) (i := 0) (s := 0) k_fd_38_2_2_32 k_sz_32_1 rfl rfl) ?_
 refine sq 8 rfl rfl (Y_load1 (B := aD b) (i := 2) (cs := [vi m.Rows, vi m.Cols, .slice B m.Cells.length c]) (v := .slice B m.Cells.length c) k_sc_32 rfl rfl (hS2.cf (i := 0) rfl) rfl) ?_
 refine sq 9 rfl rfl (Y_move (v := vi i) rfl rfl) ?_
 refine sq 10 rfl rfl (Y_fieldAddr (B := aD b) (i := 0) (s := 0) k_fd_38_1_1_3 k_sz_3_1 rfl rfl) ?_
 refine sq 11 rfl rfl (Y_load1 (B := aD b) (i := 1) (cs := [vi m.Rows, vi m.Cols, .slice B m.Cells.length c]) (v := vi m.Cols) k_sc_3 rfl rfl (hS2.cf (i := 0) rfl) rfl) ?_
 refine sq 12 rfl rfl (Y_mul (k := .i64) (a := i) (b := m.Cols) rfl rfl rfl) ?_
 refine sq 13 rfl rfl (Y_move (v := vi j) rfl rfl) ?_
 refine sq 14 rfl rfl (Y_add (k := .i64) (a := (i64.wrap (i * m.Cols))) (b := j) rfl rfl rfl) ?_
 obtain ⟨x, hx, hF⟩ := bind_inv hF
 refine sq 15 rfl rfl (Y_index (B := B) (m := m.Cells.length) (c := c) (k := .i64) (i := (i64.wrap ((i64.wrap (i * m.Cols)) + j))) k_sl_32_44 k_sz_44_5 rfl rfl rfl (gi_isSome eN3 rfl (hS2.rf (i := 0) rfl) hx) (getI_nn hx) (getI_ltI hx rfl)) ?_
 refine sq 16 rfl rfl (Y_loadA (B := B) (i := (i64.wrap ((i64.wrap (i * m.Cols)) + j)).toNat * 5) (cs := (m.Cells.flatMap eN0)) (vs := [vi x.Num.A, vi x.Num.B, vi x.Num.C, vi x.Num.D, vi x.Exp]) k_ag_44 k_sz_44_5 rfl rfl (hS2.rf (i := 0) rfl) (eN3 x) (gi_seg eN3 hx)) ?_
 refine ss0 rfl rfl (Ys_store (i := 1) (s := 5) (B := aD b1) (T' := 44) (v := .agg #[vi x.Num.A, vi x.Num.B, vi x.Num.C, vi x.Num.D, vi x.Exp]) (vs := [vi x.Num.A, vi x.Num.B, vi x.Num.C, vi x.Num.D, vi x.Exp]) (k := 0) (cs' := [vi x.Num.A, vi x.Num.B, vi x.Num.C, vi x.Num.D, vi x.Exp]) hS2 k_sz_44_5 rfl rfl rfl rfl rfl rfl rfl (Nat.le_of_ble_eq_true rfl) rfl rfl) ?_
 rintro _ w_2 ⟨rfl, hS3⟩
 have hS3 : ST w0 [] _ [⟨aD b, 38, [vi m.Rows, vi m.Cols, .slice B m.Cells.length c], 3⟩, ⟨aD b1, 44, [vi x.Num.A, vi x.Num.B, vi x.Num.C, vi x.Num.D, vi x.Exp], 5⟩] [⟨B, (m.Cells.flatMap eN0)⟩] := hS3
 refine rw_nil ?_
 refine cw_ret ?_
 obtain rfl := some_inj hF
 exact ret1 Tryd.results70 (v1 := .agg #[vi x.Num.A, vi x.Num.B, vi x.Num.C, vi x.Num.D, vi x.Exp]) (resAt_cellA (B := aD b1) (i := 0) (cs := [vi x.Num.A, vi x.Num.B, vi x.Num.C, vi x.Num.D, vi x.Exp]) (vs := [vi x.Num.A, vi x.Num.B, vi x.Num.C, vi x.Num.D, vi x.Exp]) rfl k_ag_44 k_sz_44_5 (hS3.cf (i := 1) rfl) rfl rfl) ⟨rfl, (ST.subR (R' := []) (hS3.sel [] rfl rfl) (fun _ h => by cases h))⟩

theorem c_impl_Adjoint_1 (i : Int) (j : Int) (p : TMatrix) (B : Option Addr) (B1 : Option Addr) (c n : Nat) (w0 : World) (hn : p.Cells.length = n) (hS : ST w0 [] w0 [] [⟨B, [vi p.Rows, vi p.Cols, .slice B1 n c]⟩, ⟨B1, (p.Cells.flatMap eN0)⟩]) {r_ : TDyadic} {r_1 : Bool} (hF : F_impl_Adjoint_1 i j p = some (r_, r_1)) :
  CV Tryd.prog 68 #[vi i, vi j, pt B 0] w0 (fun v w' => v = .tuple #[.agg #[vi r_.Num.A, vi r_.Num.B, vi r_.Num.C, vi r_.Num.D, vi r_.Exp], .bool r_1] ∧ ST w0 [] w' [] []) := by
 subst hn
 unfold F_impl_Adjoint_1 at hF
 refine cv_of_cw 14 Tryd.func68 rfl Tryd.ntmps68 rfl ?_
 refine cw_seq ?_
 refine cw_region ?_
 refine ss 5 rfl rfl (Ys_alloc (T := 44) (cs := [vi 0, vi 0, vi 0, vi 0, vi 0]) (m := 5) hS k_zero_44 rfl rfl rfl) ?_
 rintro _ w_ ⟨b, rfl, hS1⟩
 refine sq 6 rfl rfl (Y_assign (v := .bool false) rfl rfl) ?_
 refine rw_nil ?_
 refine cw_seq ?_
 refine cw_region ?_
 refine sq 7 rfl rfl (Y_loadA (B := B) (i := 0) (cs := [vi p.Rows, vi p.Cols, .slice B1 p.Cells.length c]) (vs := [vi p.Rows, vi p.Cols, .slice B1 p.Cells.length c]) k_ag_38 k_sz_38_3 rfl rfl (hS1.rf (i := 0) rfl) rfl rfl) ?_
 refine sq 8 rfl rfl (Y_move (v := vi j) rfl rfl) ?_
 refine sq 9 rfl rfl (Y_move (v := vi i) rfl rfl) ?_
 obtain ⟨r_2, hc, hF⟩ := bind_inv hF
 refine sc 10 rfl rfl (Yc_func (g := 70) (vs := [.agg #[vi p.Rows, vi p.Cols, .slice B1 p.Cells.length c], vi j, vi i]) k_call_70 rfl (mc rfl (mc rfl (mc rfl mn))) (c_impl_Matrix_at p j i B1 c p.Cells.length _ rfl (hS1.inn0 [(true, 1)] rfl) hc)) ?_
 rintro _ w_1 ⟨rfl, hd⟩
 have hS2 := hS1.out00 hd
 obtain ⟨⟨r_3, r_4⟩, hc1, hF⟩ := bind_inv hF
 refine sc 11 rfl rfl (Yc_func (g := 69) (vs := [.agg #[vi r_2.Num.A, vi r_2.Num.B, vi r_2.Num.C, vi r_2.Num.D, vi r_2.Exp]]) k_call_69 rfl (mc rfl mn) (c_impl_ConjDyadic r_2 _  (hS2.inn0 [] rfl) hc1)) ?_
 rintro _ w_2 ⟨rfl, hd1⟩
 have hS3 := hS2.out00 hd1
 refine sq 12 rfl rfl (Y_extract (v := .agg #[vi r_3.Num.A, vi r_3.Num.B, vi r_3.Num.C, vi r_3.Num.D, vi r_3.Exp]) rfl rfl rfl) ?_
 refine sq 13 rfl rfl (Y_extract (v := .bool r_4) rfl rfl rfl) ?_
 refine ss0 rfl rfl (Ys_store (i := 0) (s := 5) (B := aD b) (T' := 44) (v := .agg #[vi r_3.Num.A, vi r_3.Num.B, vi r_3.Num.C, vi r_3.Num.D, vi r_3.Exp]) (vs := [vi r_3.Num.A, vi r_3.Num.B, vi r_3.Num.C, vi r_3.Num.D, vi r_3.Exp]) (k := 0) (cs' := [vi r_3.Num.A, vi r_3.Num.B, vi r_3.Num.C, vi r_3.Num.D, vi r_3.Exp]) hS3 k_sz_44_5 rfl rfl rfl rfl rfl rfl rfl (Nat.le_of_ble_eq_true rfl) rfl rfl) ?_
 rintro _ w_3 ⟨rfl, hS4⟩
 refine sq 6 rfl rfl (Y_assign (v := .bool r_4) rfl rfl) ?_
 refine rw_nil ?_
 refine cw_ret ?_
 obtain ⟨rfl, rfl⟩ := pr2 (some_inj hF)
 exact ret2 Tryd.results68 (v1 := .agg #[vi r_3.Num.A, vi r_3.Num.B, vi r_3.Num.C, vi r_3.Num.D, vi r_3.Exp]) (resAt_cellA (B := aD b) (i := 0) (cs := [vi r_3.Num.A, vi r_3.Num.B, vi r_3.Num.C, vi r_3.Num.D, vi r_3.Exp]) (vs := [vi r_3.Num.A, vi r_3.Num.B, vi r_3.Num.C, vi r_3.Num.D, vi r_3.Exp]) rfl k_ag_44 k_sz_44_5 (hS4.cf (i := 0) rfl) rfl rfl) (v2 := .bool r_4) (resAt_tmp rfl) ⟨rfl, (ST.subR (R' := []) (hS4.sel [] rfl rfl) (fun _ h => by cases h))⟩

theorem c_impl_Adjoint (m : TMatrix) (B : Option Addr) (c n : Nat) (w0 : World) (hn : m.Cells.length = n) (hS : ST w0 [] w0 [] [⟨B, (m.Cells.flatMap eN0)⟩]) {r_ : TMatrix} {r_1 : Bool} (hF : F_impl_Adjoint m = some (r_, r_1)) :
  CV Tryd.prog 50 #[.agg #[vi m.Rows, vi m.Cols, .slice B n c]] w0 (fun v w' => ∃ (B1 : Option Addr) (c1 : Nat), v = .tuple #[.agg #[vi r_.Rows, vi r_.Cols, .slice B1 r_.Cells.length c1], .bool r_1] ∧ ST w0 [] w' [⟨B1, 44, (r_.Cells.flatMap eN0), c1 * 5⟩] []) := by
 subst hn
 unfold F_impl_Adjoint at hF
 refine cv_of_cw 16 Tryd.func50 rfl Tryd.ntmps50 rfl ?_
 refine cw_seq ?_
 refine cw_region ?_
 refine ss 1 rfl rfl (Ys_box (T := 38) (v := .agg #[vi m.Rows, vi m.Cols, .slice B m.Cells.length c]) (cs := [vi m.Rows, vi m.Cols, .slice B m.Cells.length c]) (m := 3) hS rfl rfl rfl rfl) ?_
 rintro _ w_ ⟨b, rfl, hS1⟩
 refine ss 2 rfl rfl (Ys_alloc (T := 38) (cs := [vi 0, vi 0, .slice none 0 0]) (m := 3) hS1 k_zero_38 rfl rfl rfl) ?_
 rintro _ w_1 ⟨b1, rfl, hS2⟩
 have hS2 : ST w0 [] _ [⟨aD b, 38, [vi m.Rows, vi m.Cols, .slice B m.Cells.length c], 3⟩, ⟨aD b1, 38, [vi 0, vi 0, .slice none 0 0], 3⟩] [⟨B, (m.Cells.flatMap eN0)⟩] := hS2
 refine sq 3 rfl rfl (Y_assign (v := .bool false) rfl rfl) ?_
 refine rw_nil ?_
 refine cw_seq ?_
 refine cw_seq ?_
 refine cw_region ?_
 refine sq 4 rfl rfl (Y_loadA (B := aD b) (i := 0) (cs := [vi m.Rows, vi m.Cols, .slice B m.Cells.length c]) (vs := [vi m.Rows, vi m.Cols, .slice B m.Cells.length c]) k_ag_38 k_sz_38_3 rfl rfl (hS2.cf (i := 0) rfl) rfl rfl) ?_
 obtain ⟨r_2, hc, hF⟩ := bind_inv hF
 refine sc 5 rfl rfl (Yc_func (g := 66) (vs := [.agg #[vi m.Rows, vi m.Cols, .slice B m.Cells.length c]]) k_call_66 rfl (mc rfl mn) (c_impl_IsValidMatrix m B c m.Cells.length _ rfl (hS2.inn0 [(true, 0)] rfl) hc)) ?_
 rintro _ w_2 ⟨rfl, hd⟩
 have hS3 := hS2.out00 hd
 have hS3 : ST w0 [] _ [⟨aD b, 38, [vi m.Rows, vi m.Cols, .slice B m.Cells.length c], 3⟩, ⟨aD b1, 38, [vi 0, vi 0, .slice none 0 0], 3⟩] [⟨B, (m.Cells.flatMap eN0)⟩] := hS3
 refine sq 6 rfl rfl (Y_not (p := r_2) rfl rfl) ?_
 refine rw_nil ?_
 refine cw_cond (b := (!r_2)) rfl (fun hb => ?_) (fun hb => ?_)
 ·skip
  have hF1 := ct hF hb
  refine cw_seq ?_
  refine cw_region ?_
  refine sq 7 rfl rfl (Y_buildS (zs := [vi 0, vi 0, .slice none 0 0]) (vs := []) (cs := [vi 0, vi 0, .slice none 0 0]) k_pl_38 k_zero_38 rfl mpn rfl) ?_
  refine ss0 rfl rfl (Ys_store (i := 1) (s := 3) (B := aD b1) (T' := 38) (v := .agg #[vi 0, vi 0, .slice none 0 0]) (vs := [vi 0, vi 0, .slice none 0 0]) (k := 0) (cs' := [vi 0, vi 0, .slice none 0 0]) hS3 k_sz_38_3 rfl rfl rfl rfl rfl rfl rfl (Nat.le_of_ble_eq_true rfl) rfl rfl) ?_
  rintro _ w_3 ⟨rfl, hS4⟩
  have hS4 : ST w0 [] _ [⟨aD b, 38, [vi m.Rows, vi m.Cols, .slice B m.Cells.length c], 3⟩, ⟨aD b1, 38, [vi 0, vi 0, .slice none 0 0], 3⟩] [⟨B, (m.Cells.flatMap eN0)⟩] := hS4
  refine sq 3 rfl rfl (Y_assign (v := .bool false) rfl rfl) ?_
  refine rw_nil ?_
  refine cw_ret ?_
  have hS5 := hS4.addNil 44
  obtain ⟨rfl, rfl⟩ := pr2 (some_inj hF1)
  exact ret2 Tryd.results50 (v1 := .agg #[vi 0, vi 0, .slice none 0 0]) (resAt_cellA (B := aD b1) (i := 0) (cs := [vi 0, vi 0, .slice none 0 0]) (vs := [vi 0, vi 0, .slice none 0 0]) rfl k_ag_38 k_sz_38_3 (hS5.cf (i := 1) rfl) rfl rfl) (v2 := .bool false) (resAt_tmp rfl) ⟨none, 0, rfl, (ST.subR (R' := []) (hS5.sel [2] rfl rfl) (fun _ h => by cases h))⟩
 ·skip
  have hF2 := cf' hF hb
  refine cw_skip ?_
  refine cw_seq ?_
  refine cw_region ?_
  refine sq 8 rfl rfl (Y_fieldAddr (B := aD b) (i := 0) (s := 0) k_fd_38_1_1_3 k_sz_3_1 rfl rfl) ?_
  refine sq 9 rfl rfl (Y_load1 (B := aD b) (i := 1) (cs := [vi m.Rows, vi m.Cols, .slice B m.Cells.length c]) (v := vi m.Cols) k_sc_3 rfl rfl (hS3.cf (i := 0) rfl) rfl) ?_
  refine sq 10 rfl rfl (Y_fieldAddr (B := aD b) (i := 0) (s := 0) k_fd_38_0_0_3 k_sz_3_1 rfl rfl) ?_
  refine sq 11 rfl rfl (Y_load1 (B := aD b) (i := 0) (cs := [vi m.Rows, vi m.Cols, .slice B m.Cells.length c]) (v := vi m.Rows) k_sc_3 rfl rfl (hS3.cf (i := 0) rfl) rfl) ?_
  refine sq 12 rfl rfl (Y_makeFunc (cs := [pt (aD b) 0]) rfl rfl (mc rfl mn)) ?_
  obtain ⟨⟨r_3, r_4⟩, hc1, hF2⟩ := bind_inv hF2
  refine sc 13 rfl rfl (Yc_func (g := 41) (vs := [vi m.Cols, vi m.Rows, .func (.func 68) #[] #[pt (aD b) 0]]) k_call_41 rfl (mc rfl (mc rfl (mc rfl mn))) (c_impl_matrixOf m.Cols m.Rows (fun x_0 x_1 => F_impl_Adjoint_1 x_0 x_1 m) 68 (#[pt (aD b) 0]) [⟨aD b, [vi m.Rows, vi m.Cols, .slice B m.Cells.length c]⟩, ⟨B, (m.Cells.flatMap eN0)⟩] _ k_call_68 (fun w hw x_0 x_1 y_0 y_1 h_ => c_impl_Adjoint_1 x_0 x_1 m (aD b) B c m.Cells.length w rfl hw h_) (hS3.inn0 [(false, 0), (true, 0)] rfl) hc1)) ?_
  rintro _ w_4 ⟨B2, c2, rfl, hd1⟩
  have hS6 := hS3.out0 hd1
  have hS6 : ST w0 [] _ [⟨aD b, 38, [vi m.Rows, vi m.Cols, .slice B m.Cells.length c], 3⟩, ⟨aD b1, 38, [vi 0, vi 0, .slice none 0 0], 3⟩, ⟨B2, 44, (r_3.Cells.flatMap eN0), c2 * 5⟩] [⟨B, (m.Cells.flatMap eN0)⟩] := hS6
  refine sq 14 rfl rfl (Y_extract (v := .agg #[vi r_3.Rows, vi r_3.Cols, .slice B2 r_3.Cells.length c2]) rfl rfl rfl) ?_
  refine sq 15 rfl rfl (Y_extract (v := .bool r_4) rfl rfl rfl) ?_
  refine ss0 rfl rfl (Ys_store (i := 1) (s := 3) (B := aD b1) (T' := 38) (v := .agg #[vi r_3.Rows, vi r_3.Cols, .slice B2 r_3.Cells.length c2]) (vs := [vi r_3.Rows, vi r_3.Cols, .slice B2 r_3.Cells.length c2]) (k := 0) (cs' := [vi r_3.Rows, vi r_3.Cols, .slice B2 r_3.Cells.length c2]) hS6 k_sz_38_3 rfl rfl rfl rfl rfl rfl rfl (Nat.le_of_ble_eq_true rfl) rfl rfl) ?_
  rintro _ w_5 ⟨rfl, hS7⟩
  have hS7 : ST w0 [] _ [⟨aD b, 38, [vi m.Rows, vi m.Cols, .slice B m.Cells.length c], 3⟩, ⟨aD b1, 38, [vi r_3.Rows, vi r_3.Cols, .slice B2 r_3.Cells.length c2], 3⟩, ⟨B2, 44, (r_3.Cells.flatMap eN0), c2 * 5⟩] [⟨B, (m.Cells.flatMap eN0)⟩] := hS7
  refine sq 3 rfl rfl (Y_assign (v := .bool r_4) rfl rfl) ?_
  refine rw_nil ?_
  refine cw_ret ?_
  obtain ⟨rfl, rfl⟩ := pr2 (some_inj hF2)
  exact ret2 Tryd.results50 (v1 := .agg #[vi r_3.Rows, vi r_3.Cols, .slice B2 r_3.Cells.length c2]) (resAt_cellA (B := aD b1) (i := 0) (cs := [vi r_3.Rows, vi r_3.Cols, .slice B2 r_3.Cells.length c2]) (vs := [vi r_3.Rows, vi r_3.Cols, .slice B2 r_3.Cells.length c2]) rfl k_ag_38 k_sz_38_3 (hS7.cf (i := 1) rfl) rfl rfl) (v2 := .bool r_4) (resAt_tmp rfl) ⟨B2, c2, rfl, (ST.subR (R' := []) (hS7.sel [2] rfl rfl) (fun _ h => by cases h))⟩
end Go.VK
