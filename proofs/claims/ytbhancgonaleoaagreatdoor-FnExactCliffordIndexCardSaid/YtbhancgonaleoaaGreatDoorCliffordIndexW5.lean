/- Walks: each Go function returns what its Lean function says. By program. -/
import Derived.Test.YtbhancgonaleoaaGreatDoorCliffordIndexFa
import Derived.Test.YtbhancgonaleoaaGreatDoorCliffordIndexW4
set_option linter.unusedVariables false
set_option maxRecDepth 100000
set_option maxHeartbeats 1000000
namespace Go.VK
open Go.RowKit
open Go.Proofs
open Go.IntKind
attribute [local irreducible] CW RW RA CV Y Yw Yc Ys RetOf
attribute [local irreducible] F_laws_szDyadicS F_laws_szBloch F_spec_l1In F_spec_l1All F_spec_l1Good F_spec_l1Even F_spec_l2Good F_spec_l1Root F_spec_l1Half F_spec_l2Low F_spec_l2C_ring F_spec_l1Mul F_spec_l2C_mul F_spec_l1Add F_spec_l2C_add F_spec_l2C_bloch F_spec_l9Turn F_spec_l1Neg F_spec_l2Neg F_spec_l2C_minor F_spec_l9Same F_spec_l1Turn F_spec_l2Power F_spec_l9Unit F_spec_l9Valid F_spec_l2C_times F_spec_l6One F_spec_l9Pauli F_spec_l1Conj F_spec_l2Conj F_spec_l3Adj F_spec_l9Bloch F_spec_l6Bit F_spec_l6Cell F_spec_l6Gate F_spec_l2C_run F_spec_l3Unit F_spec_l6Op F_spec_l9Word F_spec_l9Words F_spec_l9Index F_spec_CliffordIndex F_laws_toRing F_laws_toDyadic F_laws_toDyadicS F_laws_toBloch F_slices_IndexFunc_impl_Dyadic_impl_Dyadic F_slices_ContainsFunc_impl_Dyadic_impl_Dyadic F_impl_within F_impl_isCoef F_impl_IsValidRing F_impl_isEven F_impl_IsValidDyadic F_impl_isReal F_impl_IsValidBloch_1 F_impl_ringIf F_impl_MulRing F_impl_DivRootTwo F_impl_DyadicOf F_impl_MulDyadic F_impl_MulRootTwo F_impl_raised F_impl_combined F_impl_AddRing F_impl_AddDyadic F_impl_mulBloch F_impl_transposed F_impl_SubRing F_impl_SubDyadic F_impl_minor F_impl_determinant F_impl_whole F_impl_small F_impl_IsValidBloch F_impl_isDim F_impl_matrixOf F_impl_isTwo F_impl_IsValidGate F_impl_MulOmega F_impl_phase F_impl_bitOf F_impl_flipped F_impl_comesFrom F_impl_entry F_impl_GateMatrix_1 F_impl_GateMatrix F_impl_IsValidMatrix_1 F_impl_IsValidMatrix F_impl_IdentityMatrix_1 F_impl_IdentityMatrix F_impl_Matrix_at F_impl_MulMatrix_1 F_impl_MulMatrix F_impl_Conjugate F_impl_ConjDyadic F_impl_Adjoint_1 F_impl_Adjoint F_slices_Equal_impl_Dyadic_impl_Dyadic F_impl_EqualMatrices F_impl_IsUnitary F_impl_IsOneQubit F_impl_TraceOf F_impl_blochCell F_impl_BlochOf F_impl_blochGate F_slices_IndexFunc_SSimpl_Dyadic_impl_Dyadic F_slices_ContainsFunc_SSimpl_Dyadic_impl_Dyadic F_impl_cliffordList_1 F_impl_cliffordList F_impl_CliffordIndex F_laws_eqRing F_laws_eqDyadic F_laws_eqDyadicS F_laws_eqBloch F_laws_FnExactCliffordIndex
theorem c_impl_cliffordList   (w0 : World)  (hS : ST w0 [] w0 [] [⟨(aD 0), [vi 1, vi 0, vi 0, vi 0, vi 2]⟩]) {r_ : List (List UInt8)} {r_1 : List (List TDyadic)} (hF : F_impl_cliffordList = some (r_, r_1)) :
  CV Tryz.prog 28 #[] w0 (fun v w' => ∃ (B : Option Addr) (c : Nat) (B1 : Option Addr) (c1 : Nat) (D : List (Hd × (List TDyadic))), v = .tuple #[.slice B r_.length c, .slice B1 r_1.length c1] ∧ D.map Prod.snd = r_1 ∧ Org w0 [] [⟨(aD 0), [vi 1, vi 0, vi 0, vi 0, vi 2]⟩] (((D.flatMap eN1) ++ [])) ∧ ST w0 [] w' [⟨B, 9, (r_.flatMap encS), c * 1⟩, ⟨B1, 28, (D.flatMap eN3), c1 * 1⟩] (((D.flatMap eN1) ++ []))) := by
 unfold F_impl_cliffordList at hF
 refine cv_of_cw 80 Tryz.func28 rfl Tryz.ntmps28 rfl ?_
 refine cw_seq (cw_region ?_)
 refine sQ 0 (Y_assign (v := .slice none 0 0) rfl rfl) ?_
 refine sQ 1 (Y_assign (v := .slice none 0 0) rfl rfl) (rw_nil (cw_seq (cw_region ?_)))
 refine sS 13 (Ys_bslice0 (s := 5) (e := 65) hS k_sl_28_65 k_sz_65_5 rfl) ?_
 rintro _ w_ ⟨b, rfl, hS1⟩
 refine sQ 2 (Y_assign (v := .slice (aD b) 0 0) rfl rfl) (rw_nil (cw_seq (cw_seq (cw_region ?_))))
 refine sQ 14 (Y_move (v := vi 0) rfl rfl) (rw_nil ?_)
 obtain ⟨z, hz, hF1⟩ := bind_inv hF
 refine cw_block ?_
 refine cw_loop (fun k f w => ∃ (i : Nat) (one_ : List TDyadic) (B2 : Option Addr) (c2 : Nat), FF f [(2, .slice B2 one_.length c2), (14, vi (i : Int))] ∧ ST w0 [] w [⟨B2, 65, (one_.flatMap eN0), c2 * 5⟩] [⟨(aD 0), [vi 1, vi 0, vi 0, vi 0, vi 2]⟩] ∧ i + k = 9 ∧ forN F_impl_cliffordList_l1 k i one_ = some z) 9 ⟨0, [], aD b, 0, (FF.cons rfl (FF.cons rfl FF.nil)), (hS1.sel [0] rfl rfl), Nat.zero_add _, hz⟩ ?_
 rintro k_ f w ⟨i, one_, B2, c2, hf, hS2, hik, hL⟩
 refine cw_seq (cw_region ?_)
 refine sQ 15 (Y_lt (k := .i64) (a := (i : Int)) (b := 9) rfl (hf.get 14 1 rfl) rfl) (rw_nil (cw_seq ?_))
 refine cw_cond (b := (decide ((i : Int) < 9))) rfl (fun hlt => ?_) (fun hlt => ?_)
 ·skip
  have hlt1 : i < 9 := by have h := of_decide_eq_true hlt; omega
  obtain ⟨k_1, rfl⟩ : ∃ k2, k_ = k2 + 1 := ⟨k_ - 1, by omega⟩
  obtain ⟨y, hb, hL1⟩ := forN_go hL
  unfold F_impl_cliffordList_l1 at hb
  refine cw_skip (cw_seq (cw_block (cw_seq (cw_region ?_))))
  refine sQ 16 (Y_move (v := vi (i : Int)) rfl (hf.get 14 1 rfl)) ?_
  refine sQ 3 (Y_assign (v := vi (i : Int)) rfl rfl) (rw_nil (cw_region ?_))
  refine sQ 17 (Y_move (v := .slice B2 one_.length c2) rfl (hf.get 2 0 rfl)) ?_
  refine sQ 18 (Y_move (v := vi (i : Int)) rfl rfl) ?_
  refine sQ 19 (Y_rem (k := .i64) (a := (i : Int)) (b := 4) rfl rfl rfl (by decide)) ?_
  refine sQ 20 (Y_eq (k := .i64) (a := (Int.tmod (i : Int) 4)) (b := 0) rfl rfl rfl) ?_
  obtain ⟨r_2, hc, hb⟩ := bind_inv hb
  refine sc 21 rfl rfl (Yc_func (g := 66) (vs := [.bool ((Int.tmod (i : Int) 4) == 0)]) k_call_66 rfl (mc rfl mn) (c_impl_small ((Int.tmod (i : Int) 4) == 0) _  (hS2.inn0 [] rfl) hc)) ?_
  rintro _ w_1 ⟨rfl, hd⟩
  have hS3 := hS2.out00 hd
  obtain ⟨r_3, hc1, hb⟩ := bind_inv hb
  refine sc 22 rfl rfl (Yc_func (g := 65) (vs := [vi r_2]) k_call_65 rfl (mc rfl mn) (c_impl_whole r_2 _  (hS3.inn0 [] rfl) hc1)) ?_
  rintro _ w_2 ⟨rfl, hd1⟩
  have hS4 := hS3.out00 hd1
  refine sS 23 (Ys_bslice (s := 5) (len := 1) (vs := [(0, gD_ r_3)]) (cs := kD_ r_3) (zs := kZ_) (m := 5) hS4 k_sl_28_65 k_sz_65_5 k_zc_65 rfl (mpc rfl mpn) rfl rfl rfl (by kernel_rfl) (by kernel_rfl) rfl) ?_
  rintro _ w_3 ⟨b1, rfl, hS5⟩
  obtain ⟨hap, hb⟩ := chk_inv hb
  refine sS 24 (Ys_append (s := 5) (by' := 40) (i := 0) (nn := one_.length) (c := c2) (k := 1) (len := (one_ ++ [r_3]).length) (B := B2) (xs := ([r_3].flatMap eN0)) (cs' := ((one_ ++ [r_3]).flatMap eN0)) hS5 k_sl_28_65 k_sz_65_5 k_by_65_40 k_zero_65 rfl (by decide) rfl rfl rfl rfl (fm_lenn (l := one_) eN2 rfl) rfl (hS5.cf (i := 1) rfl) (fm_lenn (l := [r_3]) eN2 rfl) (fm_one' (enc := eN0) enc_Dyadic_one [r_3]) (by have := hap; omega) (by have := hap; simp only [maxLen]; omega) (fm_app _ _) (app_len (l := one_) (l' := [r_3]) rfl rfl)) ?_
  rintro _ w_4 ⟨B3, c3, rfl, hS6⟩
  refine sQ 2 (Y_assign (v := .slice B3 ((one_ ++ [r_3]).length) c3) rfl rfl) (rw_nil (cw_region ?_))
  refine sQ 25 (Y_add (k := .i64) (a := (i : Int)) (b := 1) rfl (hf.get 14 1 rfl) rfl) ?_
  refine sQ 14 (Y_move (v := vi (i64.wrap ((i : Int) + 1))) rfl rfl) (rw_nil ?_)
  obtain rfl := some_inj hb
  exact ⟨k_1, Nat.lt_succ_self _, i + 1, (one_ ++ [r_3]), B3, c3, (FF.cons rfl (FF.cons (congrArg (Value.int .i64) (wr_succ hlt1 (show 9 ≤ 9223372036854775807 by decide))) FF.nil)), (hS6.sel [0] rfl rfl), (by omega), hL1⟩
 ·skip
  obtain rfl : k_ = 0 := by have h := of_decide_eq_false hlt; omega
  refine cw_exit rfl ?_
  obtain rfl := some_inj hL
  refine cw_seq (cw_region ?_)
  refine sS 26 (Ys_bslice (s := 1) (len := 1) (vs := [(0, .string (bstr ([] : List UInt8)))]) (cs := [.string (bstr ([] : List UInt8))]) (zs := [.string (bstr ([] : List UInt8))]) (m := 1) hS2 k_sl_57_9 k_sz_9_1 k_zc_9 rfl (mpc rfl mpn) rfl rfl rfl (by kernel_rfl) (by kernel_rfl) rfl) ?_
  rintro _ w_5 ⟨b2, rfl, hS7⟩
  refine sQ 27 (Y_move (v := .slice B2 one_.length c2) rfl (hf.get 2 0 rfl)) ?_
  have ho : Org w0 [] [⟨(aD 0), [vi 1, vi 0, vi 0, vi 0, vi 2]⟩] [⟨B2, (one_.flatMap eN0)⟩] := ST.orgOwn hS7 (i := 0) rfl
  have hcap : one_.length ≤ c2 := (hS7.lencap (i := 0) rfl (fm_lenn (l := one_) eN2 rfl) rfl rfl)
  have hS8 : ST w0 [] _ [⟨aD b2, 9, ([([] : List UInt8)].flatMap encS), 1 * 1⟩] [⟨B2, (one_.flatMap eN0)⟩, ⟨(aD 0), [vi 1, vi 0, vi 0, vi 0, vi 2]⟩] := hS7.freeze (i := 0) rfl
  refine sS 28 (Ys_bslice (s := 1) (len := 1) (vs := [(0, .slice B2 one_.length c2)]) (cs := [.slice B2 one_.length c2]) (zs := [.slice none 0 0]) (m := 1) hS8 k_sl_58_28 k_sz_28_1 k_zc_28 rfl (mpc rfl mpn) rfl rfl rfl (by kernel_rfl) (by kernel_rfl) rfl) ?_
  rintro _ w_6 ⟨b3, rfl, hS9⟩
  have hm : ∀ r ∈ (([((B2, c2), one_)] : List (Hd × (List TDyadic))).flatMap eN1), r ∈ ([⟨B2, (one_.flatMap eN0)⟩, ⟨(aD 0), [vi 1, vi 0, vi 0, vi 0, vi 2]⟩] : List Ro) := (fsub_cons (subc (mem_at (i := 0) rfl) (fun _ h => by cases h)) fsub_nil)
  have ho1 : Org w0 [] [⟨(aD 0), [vi 1, vi 0, vi 0, vi 0, vi 2]⟩] (([((B2, c2), one_)] : List (Hd × (List TDyadic))).flatMap eN1) := (forg_cons (org_cons ho org_nil) forg_nil)
  have hS10 : ST w0 [] _ [⟨aD b2, 9, ([([] : List UInt8)].flatMap encS), 1 * 1⟩, ⟨aD b3, 28, (([((B2, c2), one_)] : List (Hd × (List TDyadic))).flatMap eN3), 1 * 1⟩] (⟨B2, (one_.flatMap eN0)⟩ :: ⟨(aD 0), [vi 1, vi 0, vi 0, vi 0, vi 2]⟩ :: ((([((B2, c2), one_)] : List (Hd × (List TDyadic))).flatMap eN1) ++ [])) := ST.subR hS9 (subc (mem_at (i := 0) rfl) (subc (mem_at (i := 1) rfl) (suba hm (fun _ h => by cases h))))
  refine sQ 4 (Y_assign (v := .slice (aD b2) 1 1) rfl rfl) ?_
  refine sQ 5 (Y_assign (v := .slice (aD b3) 1 1) rfl rfl) (rw_nil (cw_seq (cw_region ?_)))
  obtain ⟨r_4, hc2, hF1⟩ := bind_inv hF1
  refine sc 29 rfl rfl (Yc_func (g := 67) (vs := [vi 1]) k_call_67 rfl (mc rfl mn) (c_impl_blochGate 1 _  (hS10.inn0 [(true, 1)] rfl) hc2)) ?_
  rintro _ w_7 ⟨B4, c4, rfl, hd2⟩
  have hS11 := hS10.out0 hd2
  refine sQ 30 (Y_field1 (v := .slice B4 r_4.Cells.length c4) k_fd_30_0_0_28 k_sc_28 rfl rfl rfl) ?_
  obtain ⟨r_5, hc3, hF1⟩ := bind_inv hF1
  refine sc 31 rfl rfl (Yc_func (g := 67) (vs := [vi 5]) k_call_67 rfl (mc rfl mn) (c_impl_blochGate 5 _  (hS11.inn0 [(true, 1)] rfl) hc3)) ?_
  rintro _ w_8 ⟨B5, c5, rfl, hd3⟩
  have hS12 := hS11.out0 hd3
  refine sQ 32 (Y_field1 (v := .slice B5 r_5.Cells.length c5) k_fd_30_0_0_28 k_sc_28 rfl rfl rfl) ?_
  refine sQ 6 (Y_assign (v := .slice B4 r_4.Cells.length c4) rfl rfl) ?_
  refine sQ 7 (Y_assign (v := .slice B5 r_5.Cells.length c5) rfl rfl) (rw_nil (cw_seq (cw_seq (cw_region ?_))))
  refine sQ 8 (Y_assign (v := vi 0) rfl rfl) (rw_nil ?_)
  obtain ⟨z1, hz1, hF2⟩ := bind_inv hF1
  have ho5 : Org w0 [] [⟨(aD 0), [vi 1, vi 0, vi 0, vi 0, vi 2]⟩] [⟨B4, (r_4.Cells.flatMap eN0)⟩] := ST.orgOwn hS12 (i := 2) rfl
  have hcap1 : r_4.Cells.length ≤ c4 := (hS12.lencap (i := 2) rfl (fm_lenn (l := r_4.Cells) eN2 rfl) rfl rfl)
  have hS14 : ST w0 [] _ [⟨aD b2, 9, ([([] : List UInt8)].flatMap encS), 1 * 1⟩, ⟨aD b3, 28, (([((B2, c2), one_)] : List (Hd × (List TDyadic))).flatMap eN3), 1 * 1⟩, ⟨B5, 65, (r_5.Cells.flatMap eN0), c5 * 5⟩] (⟨B4, (r_4.Cells.flatMap eN0)⟩ :: ⟨B2, (one_.flatMap eN0)⟩ :: ⟨(aD 0), [vi 1, vi 0, vi 0, vi 0, vi 2]⟩ :: ((([((B2, c2), one_)] : List (Hd × (List TDyadic))).flatMap eN1) ++ [])) := hS12.freeze (i := 2) rfl
  have ho6 : Org w0 [] [⟨(aD 0), [vi 1, vi 0, vi 0, vi 0, vi 2]⟩] [⟨B5, (r_5.Cells.flatMap eN0)⟩] := ST.orgOwn hS14 (i := 2) rfl
  have hcap2 : r_5.Cells.length ≤ c5 := (hS14.lencap (i := 2) rfl (fm_lenn (l := r_5.Cells) eN2 rfl) rfl rfl)
  have hS15 : ST w0 [] _ [⟨aD b2, 9, ([([] : List UInt8)].flatMap encS), 1 * 1⟩, ⟨aD b3, 28, (([((B2, c2), one_)] : List (Hd × (List TDyadic))).flatMap eN3), 1 * 1⟩] (⟨B5, (r_5.Cells.flatMap eN0)⟩ :: ⟨B4, (r_4.Cells.flatMap eN0)⟩ :: ⟨B2, (one_.flatMap eN0)⟩ :: ⟨(aD 0), [vi 1, vi 0, vi 0, vi 0, vi 2]⟩ :: ((([((B2, c2), one_)] : List (Hd × (List TDyadic))).flatMap eN1) ++ [])) := hS14.freeze (i := 2) rfl
  refine cw_block ?_
  refine cw_loop (fun k f w => ∃ (words : List (List UInt8)) (list : List (List TDyadic)) (at_1 : Int) (B6 : Option Addr) (c6 : Nat) (B7 : Option Addr) (c7 : Nat) (D1 : List (Hd × (List TDyadic))), FF f [(4, .slice B6 words.length c6), (5, .slice B7 list.length c7), (6, .slice B4 r_4.Cells.length c4), (7, .slice B5 r_5.Cells.length c5), (8, vi at_1)] ∧ D1.map Prod.snd = list ∧ Org w0 [] [⟨(aD 0), [vi 1, vi 0, vi 0, vi 0, vi 2]⟩] (D1.flatMap eN1) ∧ Org w0 [] [⟨(aD 0), [vi 1, vi 0, vi 0, vi 0, vi 2]⟩] [⟨B4, (r_4.Cells.flatMap eN0)⟩] ∧ r_4.Cells.length ≤ c4 ∧ Org w0 [] [⟨(aD 0), [vi 1, vi 0, vi 0, vi 0, vi 2]⟩] [⟨B5, (r_5.Cells.flatMap eN0)⟩] ∧ r_5.Cells.length ≤ c5 ∧ ST w0 [] w [⟨B6, 9, (words.flatMap encS), c6 * 1⟩, ⟨B7, 28, (D1.flatMap eN3), c7 * 1⟩] (⟨B5, (r_5.Cells.flatMap eN0)⟩ :: ⟨B4, (r_4.Cells.flatMap eN0)⟩ :: ⟨B2, (one_.flatMap eN0)⟩ :: ⟨(aD 0), [vi 1, vi 0, vi 0, vi 0, vi 2]⟩ :: ((D1.flatMap eN1) ++ [])) ∧ whX (F_impl_cliffordList_l2 r_4 r_5) k (words, list, at_1) = some z1) fuel ⟨[([] : List UInt8)], ([one_] : List (List TDyadic)), 0, aD b2, 1, aD b3, 1, ([((B2, c2), one_)] : List (Hd × (List TDyadic))), (FF.cons rfl (FF.cons rfl (FF.cons rfl (FF.cons rfl (FF.cons rfl FF.nil))))), (show List.map Prod.snd ([((B2, c2), one_)] : List (Hd × (List TDyadic))) = ([one_] : List (List TDyadic)) from rfl), ho1, ho5, (len_le rfl hcap1), ho6, (len_le rfl hcap2), (hS15.sel [0, 1] rfl rfl), hz1⟩ ?_
  rintro k_2 f w ⟨words, list, at_1, B6, c6, B7, c7, D1, hf1, hD1, ho2, ho3, hq, ho4, hq1, hS13, hL2⟩
  obtain ⟨k_3, y1, rfl, hb1, hL3⟩ := whX_go hL2
  unfold F_impl_cliffordList_l2 at hb1
  refine cw_seq (cw_seq (cw_region ?_))
  refine sQ 33 (Y_move (v := vi at_1) rfl (hf1.get 8 4 rfl)) ?_
  refine sQ 34 (Y_move (v := .slice B6 words.length c6) rfl (hf1.get 4 0 rfl)) ?_
  refine sQ 35 (Y_len (B := B6) (m := words.length) (c := c6) k_sl_57_9 rfl rfl) ?_
  refine sQ 36 (Y_lt (k := .i64) (a := at_1) (b := (words.length : Int)) rfl rfl rfl) (rw_nil ?_)
  refine cw_cond (b := (decide (at_1 < (words.length : Int)))) rfl (fun hb2 => ?_) (fun hb2 => ?_)
  ·skip
   have hF3 := ct hb1 hb2
   refine cw_skip (cw_seq (cw_block (cw_seq (cw_region ?_))))
   refine sQ 39 (Y_move (v := .slice B4 r_4.Cells.length c4) rfl (hf1.get 6 2 rfl)) ?_
   refine sQ 40 (Y_move (v := .slice B5 r_5.Cells.length c5) rfl (hf1.get 7 3 rfl)) ?_
   refine sS 41 (Ys_bslice (s := 1) (len := 2) (vs := [(0, .slice B4 r_4.Cells.length c4), (1, .slice B5 r_5.Cells.length c5)]) (cs := [.slice B4 r_4.Cells.length c4, .slice B5 r_5.Cells.length c5]) (zs := [.slice none 0 0, .slice none 0 0]) (m := 2) hS13 k_sl_58_28 k_sz_28_1 k_zc_28 rfl (mpc rfl (mpc rfl mpn)) rfl rfl rfl (by kernel_rfl) (by kernel_rfl) rfl) ?_
   rintro _ w_9 ⟨b4, rfl, hS16⟩
   have hm1 : ∀ r ∈ (([((B4, c4), r_4.Cells), ((B5, c5), r_5.Cells)] : List (Hd × (List TDyadic))).flatMap eN1), r ∈ ((⟨B5, (r_5.Cells.flatMap eN0)⟩ :: ⟨B4, (r_4.Cells.flatMap eN0)⟩ :: ⟨B2, (one_.flatMap eN0)⟩ :: ⟨(aD 0), [vi 1, vi 0, vi 0, vi 0, vi 2]⟩ :: ((D1.flatMap eN1) ++ [])) : List Ro) := (fsub_cons (subc (mem_at (i := 1) rfl) (fun _ h => by cases h)) (fsub_cons (subc (mem_at (i := 0) rfl) (fun _ h => by cases h)) fsub_nil))
   have ho7 : Org w0 [] [⟨(aD 0), [vi 1, vi 0, vi 0, vi 0, vi 2]⟩] (([((B4, c4), r_4.Cells), ((B5, c5), r_5.Cells)] : List (Hd × (List TDyadic))).flatMap eN1) := (forg_cons (org_cons ho3 org_nil) (forg_cons (org_cons ho4 org_nil) forg_nil))
   have hS17 : ST w0 [] _ [⟨B6, 9, (words.flatMap encS), c6 * 1⟩, ⟨B7, 28, (D1.flatMap eN3), c7 * 1⟩, ⟨aD b4, 28, (([((B4, c4), r_4.Cells), ((B5, c5), r_5.Cells)] : List (Hd × (List TDyadic))).flatMap eN3), 2 * 1⟩] (⟨B5, (r_5.Cells.flatMap eN0)⟩ :: ⟨B4, (r_4.Cells.flatMap eN0)⟩ :: ⟨B2, (one_.flatMap eN0)⟩ :: ⟨(aD 0), [vi 1, vi 0, vi 0, vi 0, vi 2]⟩ :: ((([((B4, c4), r_4.Cells), ((B5, c5), r_5.Cells)] : List (Hd × (List TDyadic))).flatMap eN1) ++ ((D1.flatMap eN1) ++ []))) := ST.subR hS16 (subc (mem_at (i := 0) rfl) (subc (mem_at (i := 1) rfl) (subc (mem_at (i := 2) rfl) (subc (mem_at (i := 3) rfl) (suba hm1 (suba (fun r_ (h : r_ ∈ ((D1.flatMap eN1) : List Ro)) => mOd (i := 4) (show r_ ∈ ((((D1.flatMap eN1) ++ [])) : List Ro) from mAl _ h)) (fun _ h => by cases h)))))))
   refine sQ 42 (Y_len (B := aD b4) (m := 2) (c := 2) k_sl_58_28 rfl rfl) ?_
   refine sQ 43 (Y_move (v := vi 0) rfl rfl) (rw_nil ?_)
   obtain ⟨z2, hz2, hF4⟩ := bind_inv hF3
   have hS19 : ST w0 [] _ [⟨B6, 9, (words.flatMap encS), c6 * 1⟩, ⟨B7, 28, (D1.flatMap eN3), c7 * 1⟩, ⟨aD b4, 28, (([((B4, c4), r_4.Cells), ((B5, c5), r_5.Cells)] : List (Hd × (List TDyadic))).flatMap eN3), 2 * 1⟩] (⟨B5, (r_5.Cells.flatMap eN0)⟩ :: ⟨B4, (r_4.Cells.flatMap eN0)⟩ :: ⟨B2, (one_.flatMap eN0)⟩ :: ⟨(aD 0), [vi 1, vi 0, vi 0, vi 0, vi 2]⟩ :: ((D1.flatMap eN1) ++ ((([((B4, c4), r_4.Cells), ((B5, c5), r_5.Cells)] : List (Hd × (List TDyadic))).flatMap eN1) ++ []))) := ST.subR hS17 (subc (mem_at (i := 0) rfl) (subc (mem_at (i := 1) rfl) (subc (mem_at (i := 2) rfl) (subc (mem_at (i := 3) rfl) (suba (fun r_ (h : r_ ∈ ((D1.flatMap eN1) : List Ro)) => mOd (i := 4) (show r_ ∈ ((((([((B4, c4), r_4.Cells), ((B5, c5), r_5.Cells)] : List (Hd × (List TDyadic))).flatMap eN1) ++ ((D1.flatMap eN1) ++ []))) : List Ro) from mAr _ (mAl _ h))) (suba (fun r_ (h : r_ ∈ ((([((B4, c4), r_4.Cells), ((B5, c5), r_5.Cells)] : List (Hd × (List TDyadic))).flatMap eN1) : List Ro)) => mOd (i := 4) (show r_ ∈ ((((([((B4, c4), r_4.Cells), ((B5, c5), r_5.Cells)] : List (Hd × (List TDyadic))).flatMap eN1) ++ ((D1.flatMap eN1) ++ []))) : List Ro) from mAl _ h)) (fun _ h => by cases h)))))))
   refine cw_block ?_
   refine cw_loop (fun k f w => ∃ (i2 : Nat) (words1 : List (List UInt8)) (list1 : List (List TDyadic)) (B8 : Option Addr) (c8 : Nat) (B9 : Option Addr) (c9 : Nat) (D2 : List (Hd × (List TDyadic))) (D3 : List (Hd × (List TDyadic))), FF f [(4, .slice B8 words1.length c8), (5, .slice B9 list1.length c9), (6, .slice B4 r_4.Cells.length c4), (7, .slice B5 r_5.Cells.length c5), (8, vi at_1), (41, .slice (aD b4) (([r_4.Cells, r_5.Cells] : List (List TDyadic)).length) 2), (42, vi 2), (43, vi (i2 : Int))] ∧ D2.map Prod.snd = list1 ∧ Org w0 [] [⟨(aD 0), [vi 1, vi 0, vi 0, vi 0, vi 2]⟩] (D2.flatMap eN1) ∧ D3.map Prod.snd = ([r_4.Cells, r_5.Cells] : List (List TDyadic)) ∧ Org w0 [] [⟨(aD 0), [vi 1, vi 0, vi 0, vi 0, vi 2]⟩] (D3.flatMap eN1) ∧ ST w0 [] w [⟨B8, 9, (words1.flatMap encS), c8 * 1⟩, ⟨B9, 28, (D2.flatMap eN3), c9 * 1⟩, ⟨aD b4, 28, (D3.flatMap eN3), 2 * 1⟩] (⟨B5, (r_5.Cells.flatMap eN0)⟩ :: ⟨B4, (r_4.Cells.flatMap eN0)⟩ :: ⟨B2, (one_.flatMap eN0)⟩ :: ⟨(aD 0), [vi 1, vi 0, vi 0, vi 0, vi 2]⟩ :: ((D2.flatMap eN1) ++ ((D3.flatMap eN1) ++ []))) ∧ i2 + k = 2 ∧ forN (F_impl_cliffordList_l3 r_4 r_5 at_1) k i2 (words1, list1) = some z2) 2 ⟨0, words, list, B6, c6, B7, c7, D1, ([((B4, c4), r_4.Cells), ((B5, c5), r_5.Cells)] : List (Hd × (List TDyadic))), (FF.cons (hf1.get 4 0 rfl) (FF.cons (hf1.get 5 1 rfl) (FF.cons (hf1.get 6 2 rfl) (FF.cons (hf1.get 7 3 rfl) (FF.cons (hf1.get 8 4 rfl) (FF.cons rfl (FF.cons rfl (FF.cons rfl FF.nil)))))))), hD1, ho2, (show List.map Prod.snd ([((B4, c4), r_4.Cells), ((B5, c5), r_5.Cells)] : List (Hd × (List TDyadic))) = ([r_4.Cells, r_5.Cells] : List (List TDyadic)) from rfl), ho7, (hS19.sel [0, 1, 2] rfl rfl), Nat.zero_add _, hz2⟩ ?_
   rintro k_4 f w ⟨i2, words1, list1, B8, c8, B9, c9, D2, D3, hf2, hD2, ho8, hD3, ho9, hS18, hik2, hL4⟩
   refine cw_seq (cw_region ?_)
   refine sQ 44 (Y_lt (k := .i64) (a := (i2 : Int)) (b := 2) rfl (hf2.get 43 7 rfl) (hf2.get 42 6 rfl)) (rw_nil (cw_seq ?_))
   refine cw_cond (b := (decide ((i2 : Int) < 2))) rfl (fun hlt2 => ?_) (fun hlt2 => ?_)
   ·skip
    have hlt3 : i2 < 2 := by have h := of_decide_eq_true hlt2; omega
    obtain ⟨k_5, rfl⟩ : ∃ k2, k_4 = k2 + 1 := ⟨k_4 - 1, by omega⟩
    obtain ⟨y2, hb3, hL5⟩ := forN_go hL4
    unfold F_impl_cliffordList_l3 at hb3
    refine cw_skip (cw_seq ?_)
    obtain ⟨z3, hz3, hF5⟩ := bind_inv hb3
    refine cw_mid (fun f w => ∃ (words2 : List (List UInt8)) (list2 : List (List TDyadic)) (B10 : Option Addr) (c10 : Nat) (B11 : Option Addr) (c11 : Nat) (D4 : List (Hd × (List TDyadic))) (D5 : List (Hd × (List TDyadic))), (words2, list2) = z3 ∧ FF f [(4, .slice B10 words2.length c10), (5, .slice B11 list2.length c11), (6, .slice B4 r_4.Cells.length c4), (7, .slice B5 r_5.Cells.length c5), (8, vi at_1), (41, .slice (aD b4) (([r_4.Cells, r_5.Cells] : List (List TDyadic)).length) 2), (42, vi 2), (43, vi (i2 : Int))] ∧ D4.map Prod.snd = list2 ∧ Org w0 [] [⟨(aD 0), [vi 1, vi 0, vi 0, vi 0, vi 2]⟩] (D4.flatMap eN1) ∧ D5.map Prod.snd = ([r_4.Cells, r_5.Cells] : List (List TDyadic)) ∧ Org w0 [] [⟨(aD 0), [vi 1, vi 0, vi 0, vi 0, vi 2]⟩] (D5.flatMap eN1) ∧ ST w0 [] w [⟨B10, 9, (words2.flatMap encS), c10 * 1⟩, ⟨B11, 28, (D4.flatMap eN3), c11 * 1⟩, ⟨aD b4, 28, (D5.flatMap eN3), 2 * 1⟩] (⟨B5, (r_5.Cells.flatMap eN0)⟩ :: ⟨B4, (r_4.Cells.flatMap eN0)⟩ :: ⟨B2, (one_.flatMap eN0)⟩ :: ⟨(aD 0), [vi 1, vi 0, vi 0, vi 0, vi 2]⟩ :: ((D4.flatMap eN1) ++ ((D5.flatMap eN1) ++ [])))) ?_ ?_
    ·skip
     refine cw_block (cw_seq (cw_region ?_))
     refine sQ 45 (Y_move (v := vi (i2 : Int)) rfl (hf2.get 43 7 rfl)) ?_
     obtain ⟨x, hx, hz3⟩ := bind_inv hz3
     obtain ⟨⟨B12, c12⟩, hp⟩ := getI_snd hD3 hx
     refine sQ 46 (Y_index (B := aD b4) (m := ([r_4.Cells, r_5.Cells] : List (List TDyadic)).length) (c := 2) (k := .i64) (i := (i2 : Int)) k_sl_58_28 k_sz_28_1 rfl (hf2.get 41 5 rfl) (hf2.get 43 7 rfl) (gi_isSome encD_SDyadic_len rfl (hS18.cf (i := 2) rfl) hp) (getI_nn hp) (getI_ltI hp (dl_len hD3))) ?_
     have hm2 : (⟨B12, (x.flatMap eN0)⟩ : Ro) ∈ ((⟨B5, (r_5.Cells.flatMap eN0)⟩ :: ⟨B4, (r_4.Cells.flatMap eN0)⟩ :: ⟨B2, (one_.flatMap eN0)⟩ :: ⟨(aD 0), [vi 1, vi 0, vi 0, vi 0, vi 2]⟩ :: ((D2.flatMap eN1) ++ ((D3.flatMap eN1) ++ []))) : List Ro) := app_mem (fun r_ (h : r_ ∈ ((D3.flatMap eN1) : List Ro)) => mOd (i := 4) (show r_ ∈ ((((D2.flatMap eN1) ++ ((D3.flatMap eN1) ++ []))) : List Ro) from mAr _ (mAl _ h))) (row_mem (rw_ := eN1) hp _ (mem_at (i := 0) rfl))
     have hS21 : ST w0 [] _ [⟨B8, 9, (words1.flatMap encS), c8 * 1⟩, ⟨B9, 28, (D2.flatMap eN3), c9 * 1⟩, ⟨aD b4, 28, (D3.flatMap eN3), 2 * 1⟩] (⟨B12, (x.flatMap eN0)⟩ :: ⟨B5, (r_5.Cells.flatMap eN0)⟩ :: ⟨B4, (r_4.Cells.flatMap eN0)⟩ :: ⟨B2, (one_.flatMap eN0)⟩ :: ⟨(aD 0), [vi 1, vi 0, vi 0, vi 0, vi 2]⟩ :: ((D2.flatMap eN1) ++ ((D3.flatMap eN1) ++ []))) := ST.subR hS18 (subc hm2 (fun _ h => h))
     refine sQ 47 (Y_load1 (B := aD b4) (i := (i2 : Int).toNat * 1) (cs := (D3.flatMap eN3)) (v := .slice B12 x.length c12) k_sc_28 rfl rfl (hS21.cf (i := 2) rfl) (gi_at0 encD_SDyadic_len hp rfl)) ?_
     refine sQ 9 (Y_assign (v := vi (i2 : Int)) rfl rfl) ?_
     refine sQ 10 (Y_assign (v := .slice B12 x.length c12) rfl rfl) (rw_nil (cw_seq (cw_region ?_)))
     refine sQ 49 (Y_move (v := .slice B12 x.length c12) rfl rfl) ?_
     refine sQ 50 (Y_move (v := .slice B9 list1.length c9) rfl (hf2.get 5 1 rfl)) ?_
     refine sQ 51 (Y_move (v := vi at_1) rfl (hf2.get 8 4 rfl)) ?_
     obtain ⟨x1, hx1, hz3⟩ := bind_inv hz3
     obtain ⟨⟨B13, c13⟩, hp1⟩ := getI_snd hD2 hx1
     refine sQ 52 (Y_index (B := B9) (m := list1.length) (c := c9) (k := .i64) (i := at_1) k_sl_58_28 k_sz_28_1 rfl rfl rfl (gi_isSome encD_SDyadic_len rfl (hS21.cf (i := 1) rfl) hp1) (getI_nn hp1) (getI_ltI hp1 (dl_len hD2))) ?_
     have hm3 : (⟨B13, (x1.flatMap eN0)⟩ : Ro) ∈ ((⟨B12, (x.flatMap eN0)⟩ :: ⟨B5, (r_5.Cells.flatMap eN0)⟩ :: ⟨B4, (r_4.Cells.flatMap eN0)⟩ :: ⟨B2, (one_.flatMap eN0)⟩ :: ⟨(aD 0), [vi 1, vi 0, vi 0, vi 0, vi 2]⟩ :: ((D2.flatMap eN1) ++ ((D3.flatMap eN1) ++ []))) : List Ro) := app_mem (fun r_ (h : r_ ∈ ((D2.flatMap eN1) : List Ro)) => mOd (i := 5) (show r_ ∈ ((((D2.flatMap eN1) ++ ((D3.flatMap eN1) ++ []))) : List Ro) from mAl _ h)) (row_mem (rw_ := eN1) hp1 _ (mem_at (i := 0) rfl))
     have hS22 : ST w0 [] _ [⟨B8, 9, (words1.flatMap encS), c8 * 1⟩, ⟨B9, 28, (D2.flatMap eN3), c9 * 1⟩, ⟨aD b4, 28, (D3.flatMap eN3), 2 * 1⟩] (⟨B13, (x1.flatMap eN0)⟩ :: ⟨B12, (x.flatMap eN0)⟩ :: ⟨B5, (r_5.Cells.flatMap eN0)⟩ :: ⟨B4, (r_4.Cells.flatMap eN0)⟩ :: ⟨B2, (one_.flatMap eN0)⟩ :: ⟨(aD 0), [vi 1, vi 0, vi 0, vi 0, vi 2]⟩ :: ((D2.flatMap eN1) ++ ((D3.flatMap eN1) ++ []))) := ST.subR hS21 (subc hm3 (fun _ h => h))
     refine sQ 53 (Y_load1 (B := B9) (i := at_1.toNat * 1) (cs := (D2.flatMap eN3)) (v := .slice B13 x1.length c13) k_sc_28 rfl rfl (hS22.cf (i := 1) rfl) (gi_at0 encD_SDyadic_len hp1 rfl)) ?_
     obtain ⟨⟨r_6, r_7⟩, hc4, hz3⟩ := bind_inv hz3
     refine sc 54 rfl rfl (Yc_func (g := 62) (vs := [.slice B12 x.length c12, .slice B13 x1.length c13]) k_call_62 rfl (mc rfl (mc rfl mn)) (c_impl_mulBloch x x1 B12 c12 x.length B13 c13 x1.length _ rfl rfl (hS22.inn0 [(true, 1), (true, 0)] rfl) hc4)) ?_
     rintro _ w_10 ⟨B14, c14, rfl, hd4⟩
     have hS23 := hS22.out0 hd4
     have hS23 : ST w0 [] _ [⟨B8, 9, (words1.flatMap encS), c8 * 1⟩, ⟨B9, 28, (D2.flatMap eN3), c9 * 1⟩, ⟨aD b4, 28, (D3.flatMap eN3), 2 * 1⟩, ⟨B14, 65, (r_6.flatMap eN0), c14 * 5⟩] (⟨B13, (x1.flatMap eN0)⟩ :: ⟨B12, (x.flatMap eN0)⟩ :: ⟨B5, (r_5.Cells.flatMap eN0)⟩ :: ⟨B4, (r_4.Cells.flatMap eN0)⟩ :: ⟨B2, (one_.flatMap eN0)⟩ :: ⟨(aD 0), [vi 1, vi 0, vi 0, vi 0, vi 2]⟩ :: ((D2.flatMap eN1) ++ ((D3.flatMap eN1) ++ []))) := hS23
     refine sQ 48 (Y_move (v := .tuple #[.slice B14 r_6.length c14, .bool r_7]) rfl rfl) ?_
     refine sQ 55 (Y_extract (v := .slice B14 r_6.length c14) rfl rfl rfl) ?_
     refine sQ 56 (Y_extract (v := .bool r_7) rfl rfl rfl) ?_
     refine sS 11 (Ys_alloc (T := 28) (cs := [.slice none 0 0]) (m := 1) hS23 k_zero_28 rfl rfl rfl) ?_
     rintro _ w_11 ⟨b5, rfl, hS24⟩
     refine s0 (Ys_store (i := 4) (s := 1) (B := aD b5) (T' := 28) (v := .slice B14 r_6.length c14) (vs := [.slice B14 r_6.length c14]) (k := 0) (cs' := [.slice B14 r_6.length c14]) hS24 k_sz_28_1 rfl rfl rfl rfl rfl rfl rfl (lB rfl) rfl rfl) ?_
     rintro _ w_12 ⟨rfl, hS25⟩
     refine sQ 12 (Y_assign (v := .bool r_7) rfl rfl) (rw_nil (cw_seq (cw_region ?_)))
     refine sQ 57 (Y_move (v := .slice B9 list1.length c9) rfl (hf2.get 5 1 rfl)) ?_
     refine sQ 58 (Y_makeFunc (cs := [pt (aD b5) 0]) rfl rfl (mc rfl mn)) ?_
     obtain ⟨r_8, hc5, hz3⟩ := bind_inv hz3
     refine sc 59 rfl rfl (Yc_func (g := 68) (vs := [.slice B9 list1.length c9, .func (.func 69) #[] #[pt (aD b5) 0]]) k_call_68 rfl (mc rfl (mc rfl mn)) (c_slices_ContainsFunc_SSimpl_Dyadic_impl_Dyadic list1 (fun x_0 => F_impl_cliffordList_1 x_0 r_6) B9 c9 list1.length D2 69 (#[pt (aD b5) 0]) [⟨aD b5, [.slice B14 r_6.length c14]⟩, ⟨B14, (r_6.flatMap eN0)⟩] _ (dl_fl hD2 (dl_len hD2)) hD2 k_call_69 (fun w x_0 B_0 c_0 hw y_0 h_ => c_impl_cliffordList_1 x_0 r_6 B_0 c_0 x_0.length (aD b5) B14 c14 r_6.length w rfl rfl hw h_) (hS25.innR0 (srcO (i := 1) rfl (srcG (fun r_ (h : r_ ∈ ((D2.flatMap eN1) : List Ro)) => mOd (i := 6) (show r_ ∈ ((((D2.flatMap eN1) ++ ((D3.flatMap eN1) ++ []))) : List Ro) from mAl _ h)) (srcO (i := 4) rfl (srcO (i := 3) rfl (fun _ h => by cases h)))))) hc5)) ?_
     rintro _ w_13 ⟨rfl, hd5⟩
     have hS26 := hS25.out00 hd5
     refine sQ 60 (Y_not (p := r_8) rfl rfl) (rw_nil ?_)
     refine cw_cond (b := (!r_8)) rfl (fun hb4 => ?_) (fun hb4 => ?_)
     ·skip
      have hF6 := ct hz3 hb4
      obtain ⟨x2, hx2, hF6⟩ := bind_inv hF6
      obtain ⟨hss, hF6⟩ := chk_inv hF6
      obtain ⟨hsa, hF6⟩ := chk_inv hF6
      obtain ⟨hap1, hF6⟩ := chk_inv hF6
      obtain ⟨hap2, hF6⟩ := chk_inv hF6
      have ho15 : Org w0 [] [⟨(aD 0), [vi 1, vi 0, vi 0, vi 0, vi 2]⟩] [⟨B14, (r_6.flatMap eN0)⟩] := ST.orgOwn hS26 (i := 3) rfl
      have hcap4 : r_6.length ≤ c14 := (hS26.lencap (i := 3) rfl (fm_lenn (l := r_6) eN2 rfl) rfl rfl)
      have hS30 : ST w0 [] _ [⟨B8, 9, (words1.flatMap encS), c8 * 1⟩, ⟨B9, 28, (D2.flatMap eN3), c9 * 1⟩, ⟨aD b4, 28, (D3.flatMap eN3), 2 * 1⟩, ⟨aD b5, 28, [.slice B14 r_6.length c14], 1⟩] (⟨B14, (r_6.flatMap eN0)⟩ :: ⟨B13, (x1.flatMap eN0)⟩ :: ⟨B12, (x.flatMap eN0)⟩ :: ⟨B5, (r_5.Cells.flatMap eN0)⟩ :: ⟨B4, (r_4.Cells.flatMap eN0)⟩ :: ⟨B2, (one_.flatMap eN0)⟩ :: ⟨(aD 0), [vi 1, vi 0, vi 0, vi 0, vi 2]⟩ :: ((D2.flatMap eN1) ++ ((D3.flatMap eN1) ++ []))) := hS26.freeze (i := 3) rfl
      refine cw_mid (fun f w => ∃ (B17 : Option Addr) (c17 : Nat) (B18 : Option Addr) (c18 : Nat) (D6 : List (Hd × (List TDyadic))), FF f [(4, .slice B17 ((words1 ++ [(x2 ++ (List.drop (i2 : Int).toNat (List.take (i64.wrap ((i2 : Int) + 1)).toNat ([72, 83] : List UInt8))))]).length) c17), (5, .slice B18 ((list1 ++ ([r_6] : List (List TDyadic))).length) c18), (6, .slice B4 r_4.Cells.length c4), (7, .slice B5 r_5.Cells.length c5), (8, vi at_1), (41, .slice (aD b4) (([r_4.Cells, r_5.Cells] : List (List TDyadic)).length) 2), (42, vi 2), (43, vi (i2 : Int))] ∧ D6.map Prod.snd = (list1 ++ ([r_6] : List (List TDyadic))) ∧ Org w0 [] [⟨(aD 0), [vi 1, vi 0, vi 0, vi 0, vi 2]⟩] (D6.flatMap eN1) ∧ ST w0 [] w [⟨B17, 9, ((words1 ++ [(x2 ++ (List.drop (i2 : Int).toNat (List.take (i64.wrap ((i2 : Int) + 1)).toNat ([72, 83] : List UInt8))))]).flatMap encS), c17 * 1⟩, ⟨B18, 28, (D6.flatMap eN3), c18 * 1⟩, ⟨aD b4, 28, (D3.flatMap eN3), 2 * 1⟩] (⟨B14, (r_6.flatMap eN0)⟩ :: ⟨B13, (x1.flatMap eN0)⟩ :: ⟨B12, (x.flatMap eN0)⟩ :: ⟨B5, (r_5.Cells.flatMap eN0)⟩ :: ⟨B4, (r_4.Cells.flatMap eN0)⟩ :: ⟨B2, (one_.flatMap eN0)⟩ :: ⟨(aD 0), [vi 1, vi 0, vi 0, vi 0, vi 2]⟩ :: ((D6.flatMap eN1) ++ ((D3.flatMap eN1) ++ [])))) ?_ ?_
      ·skip
       refine ra_start (ST.subR (hS30.se [2, 3]) (R' := (⟨B14, (r_6.flatMap eN0)⟩ :: ⟨B13, (x1.flatMap eN0)⟩ :: ⟨B12, (x.flatMap eN0)⟩ :: ⟨B5, (r_5.Cells.flatMap eN0)⟩ :: ⟨B4, (r_4.Cells.flatMap eN0)⟩ :: ⟨B2, (one_.flatMap eN0)⟩ :: ⟨(aD 0), [vi 1, vi 0, vi 0, vi 0, vi 2]⟩ :: ((D3.flatMap eN1) ++ []))) (subc (mem_at (i := 0) rfl) (subc (mem_at (i := 1) rfl) (subc (mem_at (i := 2) rfl) (subc (mem_at (i := 3) rfl) (subc (mem_at (i := 4) rfl) (subc (mem_at (i := 5) rfl) (subc (mem_at (i := 6) rfl) (suba (fun r_ (h : r_ ∈ ((D3.flatMap eN1) : List Ro)) => mOd (i := 7) (show r_ ∈ ((((D2.flatMap eN1) ++ ((D3.flatMap eN1) ++ []))) : List Ro) from mAr _ (mAl _ h))) (fun _ h => by cases h)))))))))).fn (by kernel_rfl) ?_
       have hS32 := hS30.drew
       refine rq 0 61 (v := .slice B8 words1.length c8) rfl (ST.subR (hS32.se [2, 3]) (R' := (⟨B14, (r_6.flatMap eN0)⟩ :: ⟨B13, (x1.flatMap eN0)⟩ :: ⟨B12, (x.flatMap eN0)⟩ :: ⟨B5, (r_5.Cells.flatMap eN0)⟩ :: ⟨B4, (r_4.Cells.flatMap eN0)⟩ :: ⟨B2, (one_.flatMap eN0)⟩ :: ⟨(aD 0), [vi 1, vi 0, vi 0, vi 0, vi 2]⟩ :: ((D3.flatMap eN1) ++ []))) (subc (mem_at (i := 0) rfl) (subc (mem_at (i := 1) rfl) (subc (mem_at (i := 2) rfl) (subc (mem_at (i := 3) rfl) (subc (mem_at (i := 4) rfl) (subc (mem_at (i := 5) rfl) (subc (mem_at (i := 6) rfl) (suba (fun r_ (h : r_ ∈ ((D3.flatMap eN1) : List Ro)) => mOd (i := 7) (show r_ ∈ ((((D2.flatMap eN1) ++ ((D3.flatMap eN1) ++ []))) : List Ro) from mAr _ (mAl _ h))) (fun _ h => by cases h)))))))))) (fun w' hw' => (Y_move (v := .slice B8 words1.length c8) rfl (hf2.get 4 0 rfl))) ?_
       refine rq 1 62 (v := .slice B8 words1.length c8) rfl (ST.subR (hS32.se [2, 3]) (R' := (⟨B14, (r_6.flatMap eN0)⟩ :: ⟨B13, (x1.flatMap eN0)⟩ :: ⟨B12, (x.flatMap eN0)⟩ :: ⟨B5, (r_5.Cells.flatMap eN0)⟩ :: ⟨B4, (r_4.Cells.flatMap eN0)⟩ :: ⟨B2, (one_.flatMap eN0)⟩ :: ⟨(aD 0), [vi 1, vi 0, vi 0, vi 0, vi 2]⟩ :: ((D3.flatMap eN1) ++ []))) (subc (mem_at (i := 0) rfl) (subc (mem_at (i := 1) rfl) (subc (mem_at (i := 2) rfl) (subc (mem_at (i := 3) rfl) (subc (mem_at (i := 4) rfl) (subc (mem_at (i := 5) rfl) (subc (mem_at (i := 6) rfl) (suba (fun r_ (h : r_ ∈ ((D3.flatMap eN1) : List Ro)) => mOd (i := 7) (show r_ ∈ ((((D2.flatMap eN1) ++ ((D3.flatMap eN1) ++ []))) : List Ro) from mAr _ (mAl _ h))) (fun _ h => by cases h)))))))))) (fun w' hw' => (Y_move (v := .slice B8 words1.length c8) rfl (hf2.get 4 0 rfl))) ?_
       refine rq 2 63 (v := vi at_1) rfl (ST.subR (hS32.se [2, 3]) (R' := (⟨B14, (r_6.flatMap eN0)⟩ :: ⟨B13, (x1.flatMap eN0)⟩ :: ⟨B12, (x.flatMap eN0)⟩ :: ⟨B5, (r_5.Cells.flatMap eN0)⟩ :: ⟨B4, (r_4.Cells.flatMap eN0)⟩ :: ⟨B2, (one_.flatMap eN0)⟩ :: ⟨(aD 0), [vi 1, vi 0, vi 0, vi 0, vi 2]⟩ :: ((D3.flatMap eN1) ++ []))) (subc (mem_at (i := 0) rfl) (subc (mem_at (i := 1) rfl) (subc (mem_at (i := 2) rfl) (subc (mem_at (i := 3) rfl) (subc (mem_at (i := 4) rfl) (subc (mem_at (i := 5) rfl) (subc (mem_at (i := 6) rfl) (suba (fun r_ (h : r_ ∈ ((D3.flatMap eN1) : List Ro)) => mOd (i := 7) (show r_ ∈ ((((D2.flatMap eN1) ++ ((D3.flatMap eN1) ++ []))) : List Ro) from mAr _ (mAl _ h))) (fun _ h => by cases h)))))))))) (fun w' hw' => (Y_move (v := vi at_1) rfl (hf2.get 8 4 rfl))) ?_
       refine rq 5 66 (v := vi (i2 : Int)) rfl (ST.subR (hS32.se [2, 3]) (R' := (⟨B14, (r_6.flatMap eN0)⟩ :: ⟨B13, (x1.flatMap eN0)⟩ :: ⟨B12, (x.flatMap eN0)⟩ :: ⟨B5, (r_5.Cells.flatMap eN0)⟩ :: ⟨B4, (r_4.Cells.flatMap eN0)⟩ :: ⟨B2, (one_.flatMap eN0)⟩ :: ⟨(aD 0), [vi 1, vi 0, vi 0, vi 0, vi 2]⟩ :: ((D3.flatMap eN1) ++ []))) (subc (mem_at (i := 0) rfl) (subc (mem_at (i := 1) rfl) (subc (mem_at (i := 2) rfl) (subc (mem_at (i := 3) rfl) (subc (mem_at (i := 4) rfl) (subc (mem_at (i := 5) rfl) (subc (mem_at (i := 6) rfl) (suba (fun r_ (h : r_ ∈ ((D3.flatMap eN1) : List Ro)) => mOd (i := 7) (show r_ ∈ ((((D2.flatMap eN1) ++ ((D3.flatMap eN1) ++ []))) : List Ro) from mAr _ (mAl _ h))) (fun _ h => by cases h)))))))))) (fun w' hw' => (Y_move (v := vi (i2 : Int)) rfl rfl)) ?_
       refine rq 6 67 (v := vi (i2 : Int)) rfl (ST.subR (hS32.se [2, 3]) (R' := (⟨B14, (r_6.flatMap eN0)⟩ :: ⟨B13, (x1.flatMap eN0)⟩ :: ⟨B12, (x.flatMap eN0)⟩ :: ⟨B5, (r_5.Cells.flatMap eN0)⟩ :: ⟨B4, (r_4.Cells.flatMap eN0)⟩ :: ⟨B2, (one_.flatMap eN0)⟩ :: ⟨(aD 0), [vi 1, vi 0, vi 0, vi 0, vi 2]⟩ :: ((D3.flatMap eN1) ++ []))) (subc (mem_at (i := 0) rfl) (subc (mem_at (i := 1) rfl) (subc (mem_at (i := 2) rfl) (subc (mem_at (i := 3) rfl) (subc (mem_at (i := 4) rfl) (subc (mem_at (i := 5) rfl) (subc (mem_at (i := 6) rfl) (suba (fun r_ (h : r_ ∈ ((D3.flatMap eN1) : List Ro)) => mOd (i := 7) (show r_ ∈ ((((D2.flatMap eN1) ++ ((D3.flatMap eN1) ++ []))) : List Ro) from mAr _ (mAl _ h))) (fun _ h => by cases h)))))))))) (fun w' hw' => (Y_move (v := vi (i2 : Int)) rfl rfl)) ?_
       refine rq 7 68 (v := vi (i64.wrap ((i2 : Int) + 1))) rfl (ST.subR (hS32.se [2, 3]) (R' := (⟨B14, (r_6.flatMap eN0)⟩ :: ⟨B13, (x1.flatMap eN0)⟩ :: ⟨B12, (x.flatMap eN0)⟩ :: ⟨B5, (r_5.Cells.flatMap eN0)⟩ :: ⟨B4, (r_4.Cells.flatMap eN0)⟩ :: ⟨B2, (one_.flatMap eN0)⟩ :: ⟨(aD 0), [vi 1, vi 0, vi 0, vi 0, vi 2]⟩ :: ((D3.flatMap eN1) ++ []))) (subc (mem_at (i := 0) rfl) (subc (mem_at (i := 1) rfl) (subc (mem_at (i := 2) rfl) (subc (mem_at (i := 3) rfl) (subc (mem_at (i := 4) rfl) (subc (mem_at (i := 5) rfl) (subc (mem_at (i := 6) rfl) (suba (fun r_ (h : r_ ∈ ((D3.flatMap eN1) : List Ro)) => mOd (i := 7) (show r_ ∈ ((((D2.flatMap eN1) ++ ((D3.flatMap eN1) ++ []))) : List Ro) from mAr _ (mAl _ h))) (fun _ h => by cases h)))))))))) (fun w' hw' => (Y_add (k := .i64) (a := (i2 : Int)) (b := 1) rfl rfl rfl)) ?_
       refine rq 8 69 (v := .string (bstr (List.drop (i2 : Int).toNat (List.take (i64.wrap ((i2 : Int) + 1)).toNat ([72, 83] : List UInt8))))) rfl (ST.subR (hS32.se [2, 3]) (R' := (⟨B14, (r_6.flatMap eN0)⟩ :: ⟨B13, (x1.flatMap eN0)⟩ :: ⟨B12, (x.flatMap eN0)⟩ :: ⟨B5, (r_5.Cells.flatMap eN0)⟩ :: ⟨B4, (r_4.Cells.flatMap eN0)⟩ :: ⟨B2, (one_.flatMap eN0)⟩ :: ⟨(aD 0), [vi 1, vi 0, vi 0, vi 0, vi 2]⟩ :: ((D3.flatMap eN1) ++ []))) (subc (mem_at (i := 0) rfl) (subc (mem_at (i := 1) rfl) (subc (mem_at (i := 2) rfl) (subc (mem_at (i := 3) rfl) (subc (mem_at (i := 4) rfl) (subc (mem_at (i := 5) rfl) (subc (mem_at (i := 6) rfl) (suba (fun r_ (h : r_ ∈ ((D3.flatMap eN1) : List Ro)) => mOd (i := 7) (show r_ ∈ ((((D2.flatMap eN1) ++ ((D3.flatMap eN1) ++ []))) : List Ro) from mAr _ (mAl _ h))) (fun _ h => by cases h)))))))))) (fun w' hw' => (Y_sslice (a := ([72, 83] : List UInt8)) (k := .i64) (k' := .i64) (l := (i2 : Int)) (h := (i64.wrap ((i2 : Int) + 1))) k_str_9 rfl rfl rfl rfl hss)) ?_
       refine rq 12 73 (v := .slice B9 list1.length c9) rfl (ST.subR (hS32.se [2, 3]) (R' := (⟨B14, (r_6.flatMap eN0)⟩ :: ⟨B13, (x1.flatMap eN0)⟩ :: ⟨B12, (x.flatMap eN0)⟩ :: ⟨B5, (r_5.Cells.flatMap eN0)⟩ :: ⟨B4, (r_4.Cells.flatMap eN0)⟩ :: ⟨B2, (one_.flatMap eN0)⟩ :: ⟨(aD 0), [vi 1, vi 0, vi 0, vi 0, vi 2]⟩ :: ((D3.flatMap eN1) ++ []))) (subc (mem_at (i := 0) rfl) (subc (mem_at (i := 1) rfl) (subc (mem_at (i := 2) rfl) (subc (mem_at (i := 3) rfl) (subc (mem_at (i := 4) rfl) (subc (mem_at (i := 5) rfl) (subc (mem_at (i := 6) rfl) (suba (fun r_ (h : r_ ∈ ((D3.flatMap eN1) : List Ro)) => mOd (i := 7) (show r_ ∈ ((((D2.flatMap eN1) ++ ((D3.flatMap eN1) ++ []))) : List Ro) from mAr _ (mAl _ h))) (fun _ h => by cases h)))))))))) (fun w' hw' => (Y_move (v := .slice B9 list1.length c9) rfl (hf2.get 5 1 rfl))) ?_
       refine rq 13 74 (v := .slice B14 r_6.length c14) rfl (ST.subR (hS32.se [2, 3]) (R' := (⟨B14, (r_6.flatMap eN0)⟩ :: ⟨B13, (x1.flatMap eN0)⟩ :: ⟨B12, (x.flatMap eN0)⟩ :: ⟨B5, (r_5.Cells.flatMap eN0)⟩ :: ⟨B4, (r_4.Cells.flatMap eN0)⟩ :: ⟨B2, (one_.flatMap eN0)⟩ :: ⟨(aD 0), [vi 1, vi 0, vi 0, vi 0, vi 2]⟩ :: ((D3.flatMap eN1) ++ []))) (subc (mem_at (i := 0) rfl) (subc (mem_at (i := 1) rfl) (subc (mem_at (i := 2) rfl) (subc (mem_at (i := 3) rfl) (subc (mem_at (i := 4) rfl) (subc (mem_at (i := 5) rfl) (subc (mem_at (i := 6) rfl) (suba (fun r_ (h : r_ ∈ ((D3.flatMap eN1) : List Ro)) => mOd (i := 7) (show r_ ∈ ((((D2.flatMap eN1) ++ ((D3.flatMap eN1) ++ []))) : List Ro) from mAr _ (mAl _ h))) (fun _ h => by cases h)))))))))) (fun w' hw' => (Y_load1 (B := aD b5) (i := 0) (cs := [.slice B14 r_6.length c14]) (v := .slice B14 r_6.length c14) k_sc_28 rfl rfl (ST.cf hw' (i := 1) rfl) rfl)) ?_
       refine rA [3, 14] ?_
       refine ra_y 64 (i := 3) (v := pt B8 (at_1.toNat * 1)) rfl rfl rfl (Y_index (B := B8) (m := words1.length) (c := c8) (k := .i64) (i := at_1) k_sl_57_9 k_sz_9_1 rfl rfl rfl (gi_isSome encS_len rfl (hS32.cf (i := 0) rfl) hx2) (getI_nn hx2) (getI_ltI hx2 rfl)) (ST.subR (hS32.se [2, 3]) (R' := (⟨B14, (r_6.flatMap eN0)⟩ :: ⟨B13, (x1.flatMap eN0)⟩ :: ⟨B12, (x.flatMap eN0)⟩ :: ⟨B5, (r_5.Cells.flatMap eN0)⟩ :: ⟨B4, (r_4.Cells.flatMap eN0)⟩ :: ⟨B2, (one_.flatMap eN0)⟩ :: ⟨(aD 0), [vi 1, vi 0, vi 0, vi 0, vi 2]⟩ :: ((D3.flatMap eN1) ++ []))) (subc (mem_at (i := 0) rfl) (subc (mem_at (i := 1) rfl) (subc (mem_at (i := 2) rfl) (subc (mem_at (i := 3) rfl) (subc (mem_at (i := 4) rfl) (subc (mem_at (i := 5) rfl) (subc (mem_at (i := 6) rfl) (suba (fun r_ (h : r_ ∈ ((D3.flatMap eN1) : List Ro)) => mOd (i := 7) (show r_ ∈ ((((D2.flatMap eN1) ++ ((D3.flatMap eN1) ++ []))) : List Ro) from mAr _ (mAl _ h))) (fun _ h => by cases h)))))))))) ?_ ?_
       ·skip
        refine rA [4, 14] ?_
        refine ra_y 65 (i := 4) (v := .string (bstr x2)) rfl rfl rfl (Y_load1 (B := B8) (i := at_1.toNat * 1) (cs := (words1.flatMap encS)) (v := .string (bstr x2)) k_sc_9 rfl rfl (hS32.cf (i := 0) rfl) (gi_at0 encS_len hx2 rfl)) (ST.subR (hS32.se [2, 3]) (R' := (⟨B14, (r_6.flatMap eN0)⟩ :: ⟨B13, (x1.flatMap eN0)⟩ :: ⟨B12, (x.flatMap eN0)⟩ :: ⟨B5, (r_5.Cells.flatMap eN0)⟩ :: ⟨B4, (r_4.Cells.flatMap eN0)⟩ :: ⟨B2, (one_.flatMap eN0)⟩ :: ⟨(aD 0), [vi 1, vi 0, vi 0, vi 0, vi 2]⟩ :: ((D3.flatMap eN1) ++ []))) (subc (mem_at (i := 0) rfl) (subc (mem_at (i := 1) rfl) (subc (mem_at (i := 2) rfl) (subc (mem_at (i := 3) rfl) (subc (mem_at (i := 4) rfl) (subc (mem_at (i := 5) rfl) (subc (mem_at (i := 6) rfl) (suba (fun r_ (h : r_ ∈ ((D3.flatMap eN1) : List Ro)) => mOd (i := 7) (show r_ ∈ ((((D2.flatMap eN1) ++ ((D3.flatMap eN1) ++ []))) : List Ro) from mAr _ (mAl _ h))) (fun _ h => by cases h)))))))))) ?_ ?_
        ·skip
         refine ra_q 9 70 (v := .string (bstr (x2 ++ (List.drop (i2 : Int).toNat (List.take (i64.wrap ((i2 : Int) + 1)).toNat ([72, 83] : List UInt8)))))) rfl rfl rfl (by kernel_rfl) (by kernel_rfl) (by kernel_rfl) (ST.subR (hS32.se [2, 3]) (R' := (⟨B14, (r_6.flatMap eN0)⟩ :: ⟨B13, (x1.flatMap eN0)⟩ :: ⟨B12, (x.flatMap eN0)⟩ :: ⟨B5, (r_5.Cells.flatMap eN0)⟩ :: ⟨B4, (r_4.Cells.flatMap eN0)⟩ :: ⟨B2, (one_.flatMap eN0)⟩ :: ⟨(aD 0), [vi 1, vi 0, vi 0, vi 0, vi 2]⟩ :: ((D3.flatMap eN1) ++ []))) (subc (mem_at (i := 0) rfl) (subc (mem_at (i := 1) rfl) (subc (mem_at (i := 2) rfl) (subc (mem_at (i := 3) rfl) (subc (mem_at (i := 4) rfl) (subc (mem_at (i := 5) rfl) (subc (mem_at (i := 6) rfl) (suba (fun r_ (h : r_ ∈ ((D3.flatMap eN1) : List Ro)) => mOd (i := 7) (show r_ ∈ ((((D2.flatMap eN1) ++ ((D3.flatMap eN1) ++ []))) : List Ro) from mAr _ (mAl _ h))) (fun _ h => by cases h)))))))))) (fun w' hw' => (Y_sadd (a := x2) (b := (List.drop (i2 : Int).toNat (List.take (i64.wrap ((i2 : Int) + 1)).toNat ([72, 83] : List UInt8)))) rfl rfl rfl hsa)) ?_
         refine rA [10, 14] ?_
         refine ra_s 71 (i := 10) rfl rfl rfl (Ys_bslice (s := 1) (len := 1) (vs := [(0, .string (bstr (x2 ++ (List.drop (i2 : Int).toNat (List.take (i64.wrap ((i2 : Int) + 1)).toNat ([72, 83] : List UInt8))))))]) (cs := [.string (bstr (x2 ++ (List.drop (i2 : Int).toNat (List.take (i64.wrap ((i2 : Int) + 1)).toNat ([72, 83] : List UInt8)))))]) (zs := [.string (bstr ([] : List UInt8))]) (m := 1) hS32 k_sl_57_9 k_sz_9_1 k_zc_9 rfl (mpc rfl mpn) rfl rfl rfl (by kernel_rfl) (by kernel_rfl) rfl) ?_ ?_
         ·rintro _ w_14 ⟨b6, rfl, hS33⟩
          refine ⟨(ST.subR (hS33.se [2, 3]) (R' := (⟨B14, (r_6.flatMap eN0)⟩ :: ⟨B13, (x1.flatMap eN0)⟩ :: ⟨B12, (x.flatMap eN0)⟩ :: ⟨B5, (r_5.Cells.flatMap eN0)⟩ :: ⟨B4, (r_4.Cells.flatMap eN0)⟩ :: ⟨B2, (one_.flatMap eN0)⟩ :: ⟨(aD 0), [vi 1, vi 0, vi 0, vi 0, vi 2]⟩ :: ((D3.flatMap eN1) ++ []))) (subc (mem_at (i := 0) rfl) (subc (mem_at (i := 1) rfl) (subc (mem_at (i := 2) rfl) (subc (mem_at (i := 3) rfl) (subc (mem_at (i := 4) rfl) (subc (mem_at (i := 5) rfl) (subc (mem_at (i := 6) rfl) (suba (fun r_ (h : r_ ∈ ((D3.flatMap eN1) : List Ro)) => mOd (i := 7) (show r_ ∈ ((((D2.flatMap eN1) ++ ((D3.flatMap eN1) ++ []))) : List Ro) from mAr _ (mAl _ h))) (fun _ h => by cases h)))))))))), ?_⟩
          refine rA [11, 14] ?_
          refine ra_s 72 (i := 11) rfl rfl rfl (Ys_append (s := 1) (by' := 16) (i := 0) (nn := words1.length) (c := c8) (k := 1) (len := (words1 ++ [(x2 ++ (List.drop (i2 : Int).toNat (List.take (i64.wrap ((i2 : Int) + 1)).toNat ([72, 83] : List UInt8))))]).length) (B := B8) (xs := ([(x2 ++ (List.drop (i2 : Int).toNat (List.take (i64.wrap ((i2 : Int) + 1)).toNat ([72, 83] : List UInt8))))].flatMap encS)) (cs' := ((words1 ++ [(x2 ++ (List.drop (i2 : Int).toNat (List.take (i64.wrap ((i2 : Int) + 1)).toNat ([72, 83] : List UInt8))))]).flatMap encS)) hS33 k_sl_57_9 k_sz_9_1 k_by_9_16 k_zero_9 rfl (by decide) rfl rfl rfl rfl (fm_lenn (l := words1) encS_len rfl) rfl (hS33.cf (i := 4) rfl) (fm_lenn (l := [(x2 ++ (List.drop (i2 : Int).toNat (List.take (i64.wrap ((i2 : Int) + 1)).toNat ([72, 83] : List UInt8))))]) encS_len rfl) (fm_one' (enc := encS) encS_one [(x2 ++ (List.drop (i2 : Int).toNat (List.take (i64.wrap ((i2 : Int) + 1)).toNat ([72, 83] : List UInt8))))]) (by have := hap1; omega) (by have := hap1; simp only [maxLen]; omega) (fm_app _ _) (app_len (l := words1) (l' := [(x2 ++ (List.drop (i2 : Int).toNat (List.take (i64.wrap ((i2 : Int) + 1)).toNat ([72, 83] : List UInt8))))]) rfl rfl)) ?_ ?_
          ·rintro _ w_15 ⟨B15, c15, rfl, hS34⟩
           refine ⟨(ST.subR (hS34.se [2, 3]) (R' := (⟨B14, (r_6.flatMap eN0)⟩ :: ⟨B13, (x1.flatMap eN0)⟩ :: ⟨B12, (x.flatMap eN0)⟩ :: ⟨B5, (r_5.Cells.flatMap eN0)⟩ :: ⟨B4, (r_4.Cells.flatMap eN0)⟩ :: ⟨B2, (one_.flatMap eN0)⟩ :: ⟨(aD 0), [vi 1, vi 0, vi 0, vi 0, vi 2]⟩ :: ((D3.flatMap eN1) ++ []))) (subc (mem_at (i := 0) rfl) (subc (mem_at (i := 1) rfl) (subc (mem_at (i := 2) rfl) (subc (mem_at (i := 3) rfl) (subc (mem_at (i := 4) rfl) (subc (mem_at (i := 5) rfl) (subc (mem_at (i := 6) rfl) (suba (fun r_ (h : r_ ∈ ((D3.flatMap eN1) : List Ro)) => mOd (i := 7) (show r_ ∈ ((((D2.flatMap eN1) ++ ((D3.flatMap eN1) ++ []))) : List Ro) from mAr _ (mAl _ h))) (fun _ h => by cases h)))))))))), ?_⟩
           refine rA [14] ?_
           refine ra_s 75 (i := 14) rfl rfl rfl (Ys_bslice (s := 1) (len := 1) (vs := [(0, .slice B14 r_6.length c14)]) (cs := [.slice B14 r_6.length c14]) (zs := [.slice none 0 0]) (m := 1) hS34 k_sl_58_28 k_sz_28_1 k_zc_28 rfl (mpc rfl mpn) rfl rfl rfl (by kernel_rfl) (by kernel_rfl) rfl) ?_ ?_
           ·rintro _ w_16 ⟨b7, rfl, hS35⟩
            have hm5 : ∀ r ∈ (([((B14, c14), r_6)] : List (Hd × (List TDyadic))).flatMap eN1), r ∈ ((⟨B14, (r_6.flatMap eN0)⟩ :: ⟨B13, (x1.flatMap eN0)⟩ :: ⟨B12, (x.flatMap eN0)⟩ :: ⟨B5, (r_5.Cells.flatMap eN0)⟩ :: ⟨B4, (r_4.Cells.flatMap eN0)⟩ :: ⟨B2, (one_.flatMap eN0)⟩ :: ⟨(aD 0), [vi 1, vi 0, vi 0, vi 0, vi 2]⟩ :: ((D2.flatMap eN1) ++ ((D3.flatMap eN1) ++ []))) : List Ro) := (fsub_cons (subc (mem_at (i := 0) rfl) (fun _ h => by cases h)) fsub_nil)
            have ho17 : Org w0 [] [⟨(aD 0), [vi 1, vi 0, vi 0, vi 0, vi 2]⟩] (([((B14, c14), r_6)] : List (Hd × (List TDyadic))).flatMap eN1) := (forg_cons (org_cons ho15 org_nil) forg_nil)
            have hS36 : ST w0 [] _ [⟨B15, 9, ((words1 ++ [(x2 ++ (List.drop (i2 : Int).toNat (List.take (i64.wrap ((i2 : Int) + 1)).toNat ([72, 83] : List UInt8))))]).flatMap encS), c15 * 1⟩, ⟨B9, 28, (D2.flatMap eN3), c9 * 1⟩, ⟨aD b4, 28, (D3.flatMap eN3), 2 * 1⟩, ⟨aD b5, 28, [.slice B14 r_6.length c14], 1⟩, ⟨aD b6, 9, ([(x2 ++ (List.drop (i2 : Int).toNat (List.take (i64.wrap ((i2 : Int) + 1)).toNat ([72, 83] : List UInt8))))].flatMap encS), 1 * 1⟩, ⟨aD b7, 28, (([((B14, c14), r_6)] : List (Hd × (List TDyadic))).flatMap eN3), 1 * 1⟩] (⟨B14, (r_6.flatMap eN0)⟩ :: ⟨B13, (x1.flatMap eN0)⟩ :: ⟨B12, (x.flatMap eN0)⟩ :: ⟨B5, (r_5.Cells.flatMap eN0)⟩ :: ⟨B4, (r_4.Cells.flatMap eN0)⟩ :: ⟨B2, (one_.flatMap eN0)⟩ :: ⟨(aD 0), [vi 1, vi 0, vi 0, vi 0, vi 2]⟩ :: ((([((B14, c14), r_6)] : List (Hd × (List TDyadic))).flatMap eN1) ++ ((D2.flatMap eN1) ++ ((D3.flatMap eN1) ++ [])))) := ST.subR hS35 (subc (mem_at (i := 0) rfl) (subc (mem_at (i := 1) rfl) (subc (mem_at (i := 2) rfl) (subc (mem_at (i := 3) rfl) (subc (mem_at (i := 4) rfl) (subc (mem_at (i := 5) rfl) (subc (mem_at (i := 6) rfl) (suba hm5 (suba (fun r_ (h : r_ ∈ ((D2.flatMap eN1) : List Ro)) => mOd (i := 7) (show r_ ∈ ((((D2.flatMap eN1) ++ ((D3.flatMap eN1) ++ []))) : List Ro) from mAl _ h)) (suba (fun r_ (h : r_ ∈ ((D3.flatMap eN1) : List Ro)) => mOd (i := 7) (show r_ ∈ ((((D2.flatMap eN1) ++ ((D3.flatMap eN1) ++ []))) : List Ro) from mAr _ (mAl _ h))) (fun _ h => by cases h)))))))))))
            refine ⟨(ST.subR (hS36.se [2, 3]) (R' := (⟨B14, (r_6.flatMap eN0)⟩ :: ⟨B13, (x1.flatMap eN0)⟩ :: ⟨B12, (x.flatMap eN0)⟩ :: ⟨B5, (r_5.Cells.flatMap eN0)⟩ :: ⟨B4, (r_4.Cells.flatMap eN0)⟩ :: ⟨B2, (one_.flatMap eN0)⟩ :: ⟨(aD 0), [vi 1, vi 0, vi 0, vi 0, vi 2]⟩ :: ((D3.flatMap eN1) ++ []))) (subc (mem_at (i := 0) rfl) (subc (mem_at (i := 1) rfl) (subc (mem_at (i := 2) rfl) (subc (mem_at (i := 3) rfl) (subc (mem_at (i := 4) rfl) (subc (mem_at (i := 5) rfl) (subc (mem_at (i := 6) rfl) (suba (fun r_ (h : r_ ∈ ((D3.flatMap eN1) : List Ro)) => mOd (i := 7) (show r_ ∈ ((((([((B14, c14), r_6)] : List (Hd × (List TDyadic))).flatMap eN1) ++ ((D2.flatMap eN1) ++ ((D3.flatMap eN1) ++ [])))) : List Ro) from mAr _ (mAr _ (mAl _ h)))) (fun _ h => by cases h)))))))))), ?_⟩
            refine rA [15] ?_
            refine ra_s 76 (i := 15) rfl rfl rfl (Ys_append (s := 1) (by' := 24) (i := 1) (nn := list1.length) (c := c9) (k := 1) (len := (list1 ++ ([r_6] : List (List TDyadic))).length) (B := B9) (xs := (([((B14, c14), r_6)] : List (Hd × (List TDyadic))).flatMap eN3)) (cs' := ((D2 ++ ([((B14, c14), r_6)] : List (Hd × (List TDyadic)))).flatMap eN3)) hS36 k_sl_58_28 k_sz_28_1 k_by_28_24 k_zero_28 rfl (by decide) rfl rfl rfl rfl (fm_lenn (l := D2) encD_SDyadic_len (dl_len hD2)) rfl (hS36.cf (i := 5) rfl) (fm_lenn (l := ([((B14, c14), r_6)] : List (Hd × (List TDyadic)))) encD_SDyadic_len rfl) (fm_one' (enc := eN3) encD_SDyadic_one ([((B14, c14), r_6)] : List (Hd × (List TDyadic)))) (by have := hap2; omega) (by have := hap2; simp only [maxLen]; omega) (fm_app _ _) (dl_sum (dl_len hD2) rfl (dl_app hD2 (show List.map Prod.snd ([((B14, c14), r_6)] : List (Hd × (List TDyadic))) = ([r_6] : List (List TDyadic)) from rfl)))) ?_ ?_
            ·rintro _ w_17 ⟨B16, c16, rfl, hS37⟩
             have ho18 : Org w0 [] [⟨(aD 0), [vi 1, vi 0, vi 0, vi 0, vi 2]⟩] ((D2 ++ ([((B14, c14), r_6)] : List (Hd × (List TDyadic)))).flatMap eN1) := (forg_app ho8 ho17)
             have hS38 : ST w0 [] _ [⟨B15, 9, ((words1 ++ [(x2 ++ (List.drop (i2 : Int).toNat (List.take (i64.wrap ((i2 : Int) + 1)).toNat ([72, 83] : List UInt8))))]).flatMap encS), c15 * 1⟩, ⟨B16, 28, ((D2 ++ ([((B14, c14), r_6)] : List (Hd × (List TDyadic)))).flatMap eN3), c16 * 1⟩, ⟨aD b4, 28, (D3.flatMap eN3), 2 * 1⟩, ⟨aD b5, 28, [.slice B14 r_6.length c14], 1⟩, ⟨aD b6, 9, ([(x2 ++ (List.drop (i2 : Int).toNat (List.take (i64.wrap ((i2 : Int) + 1)).toNat ([72, 83] : List UInt8))))].flatMap encS), 1 * 1⟩, ⟨aD b7, 28, (([((B14, c14), r_6)] : List (Hd × (List TDyadic))).flatMap eN3), 1 * 1⟩] (⟨B14, (r_6.flatMap eN0)⟩ :: ⟨B13, (x1.flatMap eN0)⟩ :: ⟨B12, (x.flatMap eN0)⟩ :: ⟨B5, (r_5.Cells.flatMap eN0)⟩ :: ⟨B4, (r_4.Cells.flatMap eN0)⟩ :: ⟨B2, (one_.flatMap eN0)⟩ :: ⟨(aD 0), [vi 1, vi 0, vi 0, vi 0, vi 2]⟩ :: (((D2 ++ ([((B14, c14), r_6)] : List (Hd × (List TDyadic)))).flatMap eN1) ++ ((([((B14, c14), r_6)] : List (Hd × (List TDyadic))).flatMap eN1) ++ ((D3.flatMap eN1) ++ [])))) := ST.subR hS37 (subc (mem_at (i := 0) rfl) (subc (mem_at (i := 1) rfl) (subc (mem_at (i := 2) rfl) (subc (mem_at (i := 3) rfl) (subc (mem_at (i := 4) rfl) (subc (mem_at (i := 5) rfl) (subc (mem_at (i := 6) rfl) (suba (fsub_app (fun r_ (h : r_ ∈ ((D2.flatMap eN1) : List Ro)) => mOd (i := 7) (show r_ ∈ ((((([((B14, c14), r_6)] : List (Hd × (List TDyadic))).flatMap eN1) ++ ((D2.flatMap eN1) ++ ((D3.flatMap eN1) ++ [])))) : List Ro) from mAr _ (mAl _ h))) (fun r_ (h : r_ ∈ ((([((B14, c14), r_6)] : List (Hd × (List TDyadic))).flatMap eN1) : List Ro)) => mOd (i := 7) (show r_ ∈ ((((([((B14, c14), r_6)] : List (Hd × (List TDyadic))).flatMap eN1) ++ ((D2.flatMap eN1) ++ ((D3.flatMap eN1) ++ [])))) : List Ro) from mAl _ h))) (suba (fun r_ (h : r_ ∈ ((([((B14, c14), r_6)] : List (Hd × (List TDyadic))).flatMap eN1) : List Ro)) => mOd (i := 7) (show r_ ∈ ((((([((B14, c14), r_6)] : List (Hd × (List TDyadic))).flatMap eN1) ++ ((D2.flatMap eN1) ++ ((D3.flatMap eN1) ++ [])))) : List Ro) from mAl _ h)) (suba (fun r_ (h : r_ ∈ ((D3.flatMap eN1) : List Ro)) => mOd (i := 7) (show r_ ∈ ((((([((B14, c14), r_6)] : List (Hd × (List TDyadic))).flatMap eN1) ++ ((D2.flatMap eN1) ++ ((D3.flatMap eN1) ++ [])))) : List Ro) from mAr _ (mAr _ (mAl _ h)))) (fun _ h => by cases h)))))))))))
             refine ⟨(ST.subR (hS38.se [2, 3]) (R' := (⟨B14, (r_6.flatMap eN0)⟩ :: ⟨B13, (x1.flatMap eN0)⟩ :: ⟨B12, (x.flatMap eN0)⟩ :: ⟨B5, (r_5.Cells.flatMap eN0)⟩ :: ⟨B4, (r_4.Cells.flatMap eN0)⟩ :: ⟨B2, (one_.flatMap eN0)⟩ :: ⟨(aD 0), [vi 1, vi 0, vi 0, vi 0, vi 2]⟩ :: ((D3.flatMap eN1) ++ []))) (subc (mem_at (i := 0) rfl) (subc (mem_at (i := 1) rfl) (subc (mem_at (i := 2) rfl) (subc (mem_at (i := 3) rfl) (subc (mem_at (i := 4) rfl) (subc (mem_at (i := 5) rfl) (subc (mem_at (i := 6) rfl) (suba (fun r_ (h : r_ ∈ ((D3.flatMap eN1) : List Ro)) => mOd (i := 7) (show r_ ∈ (((((D2 ++ ([((B14, c14), r_6)] : List (Hd × (List TDyadic)))).flatMap eN1) ++ ((([((B14, c14), r_6)] : List (Hd × (List TDyadic))).flatMap eN1) ++ ((D3.flatMap eN1) ++ [])))) : List Ro) from mAr _ (mAr _ (mAl _ h)))) (fun _ h => by cases h)))))))))), ?_⟩
             refine ra_q 16 4 (v := .slice B15 ((words1 ++ [(x2 ++ (List.drop (i2 : Int).toNat (List.take (i64.wrap ((i2 : Int) + 1)).toNat ([72, 83] : List UInt8))))]).length) c15) rfl rfl rfl (by kernel_rfl) (by kernel_rfl) (by kernel_rfl) (ST.subR (hS38.se [2, 3]) (R' := (⟨B14, (r_6.flatMap eN0)⟩ :: ⟨B13, (x1.flatMap eN0)⟩ :: ⟨B12, (x.flatMap eN0)⟩ :: ⟨B5, (r_5.Cells.flatMap eN0)⟩ :: ⟨B4, (r_4.Cells.flatMap eN0)⟩ :: ⟨B2, (one_.flatMap eN0)⟩ :: ⟨(aD 0), [vi 1, vi 0, vi 0, vi 0, vi 2]⟩ :: ((D3.flatMap eN1) ++ []))) (subc (mem_at (i := 0) rfl) (subc (mem_at (i := 1) rfl) (subc (mem_at (i := 2) rfl) (subc (mem_at (i := 3) rfl) (subc (mem_at (i := 4) rfl) (subc (mem_at (i := 5) rfl) (subc (mem_at (i := 6) rfl) (suba (fun r_ (h : r_ ∈ ((D3.flatMap eN1) : List Ro)) => mOd (i := 7) (show r_ ∈ (((((D2 ++ ([((B14, c14), r_6)] : List (Hd × (List TDyadic)))).flatMap eN1) ++ ((([((B14, c14), r_6)] : List (Hd × (List TDyadic))).flatMap eN1) ++ ((D3.flatMap eN1) ++ [])))) : List Ro) from mAr _ (mAr _ (mAl _ h)))) (fun _ h => by cases h)))))))))) (fun w' hw' => (Y_assign (v := .slice B15 ((words1 ++ [(x2 ++ (List.drop (i2 : Int).toNat (List.take (i64.wrap ((i2 : Int) + 1)).toNat ([72, 83] : List UInt8))))]).length) c15) rfl rfl)) ?_
             refine rq 17 5 (v := .slice B16 ((list1 ++ ([r_6] : List (List TDyadic))).length) c16) rfl (ST.subR (hS38.se [2, 3]) (R' := (⟨B14, (r_6.flatMap eN0)⟩ :: ⟨B13, (x1.flatMap eN0)⟩ :: ⟨B12, (x.flatMap eN0)⟩ :: ⟨B5, (r_5.Cells.flatMap eN0)⟩ :: ⟨B4, (r_4.Cells.flatMap eN0)⟩ :: ⟨B2, (one_.flatMap eN0)⟩ :: ⟨(aD 0), [vi 1, vi 0, vi 0, vi 0, vi 2]⟩ :: ((D3.flatMap eN1) ++ []))) (subc (mem_at (i := 0) rfl) (subc (mem_at (i := 1) rfl) (subc (mem_at (i := 2) rfl) (subc (mem_at (i := 3) rfl) (subc (mem_at (i := 4) rfl) (subc (mem_at (i := 5) rfl) (subc (mem_at (i := 6) rfl) (suba (fun r_ (h : r_ ∈ ((D3.flatMap eN1) : List Ro)) => mOd (i := 7) (show r_ ∈ (((((D2 ++ ([((B14, c14), r_6)] : List (Hd × (List TDyadic)))).flatMap eN1) ++ ((([((B14, c14), r_6)] : List (Hd × (List TDyadic))).flatMap eN1) ++ ((D3.flatMap eN1) ++ [])))) : List Ro) from mAr _ (mAr _ (mAl _ h)))) (fun _ h => by cases h)))))))))) (fun w' hw' => (Y_assign (v := .slice B16 ((list1 ++ ([r_6] : List (List TDyadic))).length) c16) rfl rfl)) ?_
             refine ra_done (by kernel_rfl) ?_
             have hS39 : ST w0 [] _ [⟨B15, 9, ((words1 ++ [(x2 ++ (List.drop (i2 : Int).toNat (List.take (i64.wrap ((i2 : Int) + 1)).toNat ([72, 83] : List UInt8))))]).flatMap encS), c15 * 1⟩, ⟨B16, 28, ((D2 ++ ([((B14, c14), r_6)] : List (Hd × (List TDyadic)))).flatMap eN3), c16 * 1⟩, ⟨aD b4, 28, (D3.flatMap eN3), 2 * 1⟩, ⟨aD b5, 28, [.slice B14 r_6.length c14], 1⟩, ⟨aD b6, 9, ([(x2 ++ (List.drop (i2 : Int).toNat (List.take (i64.wrap ((i2 : Int) + 1)).toNat ([72, 83] : List UInt8))))].flatMap encS), 1 * 1⟩, ⟨aD b7, 28, (([((B14, c14), r_6)] : List (Hd × (List TDyadic))).flatMap eN3), 1 * 1⟩] (⟨B14, (r_6.flatMap eN0)⟩ :: ⟨B13, (x1.flatMap eN0)⟩ :: ⟨B12, (x.flatMap eN0)⟩ :: ⟨B5, (r_5.Cells.flatMap eN0)⟩ :: ⟨B4, (r_4.Cells.flatMap eN0)⟩ :: ⟨B2, (one_.flatMap eN0)⟩ :: ⟨(aD 0), [vi 1, vi 0, vi 0, vi 0, vi 2]⟩ :: (((D2 ++ ([((B14, c14), r_6)] : List (Hd × (List TDyadic)))).flatMap eN1) ++ ((D3.flatMap eN1) ++ []))) := ST.subR hS38 (subc (mem_at (i := 0) rfl) (subc (mem_at (i := 1) rfl) (subc (mem_at (i := 2) rfl) (subc (mem_at (i := 3) rfl) (subc (mem_at (i := 4) rfl) (subc (mem_at (i := 5) rfl) (subc (mem_at (i := 6) rfl) (suba (fun r_ (h : r_ ∈ (((D2 ++ ([((B14, c14), r_6)] : List (Hd × (List TDyadic)))).flatMap eN1) : List Ro)) => mOd (i := 7) (show r_ ∈ (((((D2 ++ ([((B14, c14), r_6)] : List (Hd × (List TDyadic)))).flatMap eN1) ++ ((([((B14, c14), r_6)] : List (Hd × (List TDyadic))).flatMap eN1) ++ ((D3.flatMap eN1) ++ [])))) : List Ro) from mAl _ h)) (suba (fun r_ (h : r_ ∈ ((D3.flatMap eN1) : List Ro)) => mOd (i := 7) (show r_ ∈ (((((D2 ++ ([((B14, c14), r_6)] : List (Hd × (List TDyadic)))).flatMap eN1) ++ ((([((B14, c14), r_6)] : List (Hd × (List TDyadic))).flatMap eN1) ++ ((D3.flatMap eN1) ++ [])))) : List Ro) from mAr _ (mAr _ (mAl _ h)))) (fun _ h => by cases h))))))))))
             exact ⟨B15, c15, B16, c16, (D2 ++ ([((B14, c14), r_6)] : List (Hd × (List TDyadic)))), (FF.cons rfl (FF.cons rfl (FF.cons (hf2.get 6 2 rfl) (FF.cons (hf2.get 7 3 rfl) (FF.cons (hf2.get 8 4 rfl) (FF.cons (hf2.get 41 5 rfl) (FF.cons (hf2.get 42 6 rfl) (FF.cons (hf2.get 43 7 rfl) FF.nil)))))))), (dl_app hD2 (show List.map Prod.snd ([((B14, c14), r_6)] : List (Hd × (List TDyadic))) = ([r_6] : List (List TDyadic)) from rfl)), ho18, (hS39.sel [0, 1, 2] rfl rfl)⟩
            exact allR_nil
           exact allR_nil
          refine ra_s 75 (i := 14) rfl rfl rfl (Ys_bslice (s := 1) (len := 1) (vs := [(0, .slice B14 r_6.length c14)]) (cs := [.slice B14 r_6.length c14]) (zs := [.slice none 0 0]) (m := 1) hS33 k_sl_58_28 k_sz_28_1 k_zc_28 rfl (mpc rfl mpn) rfl rfl rfl (by kernel_rfl) (by kernel_rfl) rfl) ?_ ?_
          ·rintro _ w_18 ⟨b7, rfl, hS40⟩
           have hm6 : ∀ r ∈ (([((B14, c14), r_6)] : List (Hd × (List TDyadic))).flatMap eN1), r ∈ ((⟨B14, (r_6.flatMap eN0)⟩ :: ⟨B13, (x1.flatMap eN0)⟩ :: ⟨B12, (x.flatMap eN0)⟩ :: ⟨B5, (r_5.Cells.flatMap eN0)⟩ :: ⟨B4, (r_4.Cells.flatMap eN0)⟩ :: ⟨B2, (one_.flatMap eN0)⟩ :: ⟨(aD 0), [vi 1, vi 0, vi 0, vi 0, vi 2]⟩ :: ((D2.flatMap eN1) ++ ((D3.flatMap eN1) ++ []))) : List Ro) := (fsub_cons (subc (mem_at (i := 0) rfl) (fun _ h => by cases h)) fsub_nil)
           have ho19 : Org w0 [] [⟨(aD 0), [vi 1, vi 0, vi 0, vi 0, vi 2]⟩] (([((B14, c14), r_6)] : List (Hd × (List TDyadic))).flatMap eN1) := (forg_cons (org_cons ho15 org_nil) forg_nil)
           have hS41 : ST w0 [] _ [⟨B8, 9, (words1.flatMap encS), c8 * 1⟩, ⟨B9, 28, (D2.flatMap eN3), c9 * 1⟩, ⟨aD b4, 28, (D3.flatMap eN3), 2 * 1⟩, ⟨aD b5, 28, [.slice B14 r_6.length c14], 1⟩, ⟨aD b6, 9, ([(x2 ++ (List.drop (i2 : Int).toNat (List.take (i64.wrap ((i2 : Int) + 1)).toNat ([72, 83] : List UInt8))))].flatMap encS), 1 * 1⟩, ⟨aD b7, 28, (([((B14, c14), r_6)] : List (Hd × (List TDyadic))).flatMap eN3), 1 * 1⟩] (⟨B14, (r_6.flatMap eN0)⟩ :: ⟨B13, (x1.flatMap eN0)⟩ :: ⟨B12, (x.flatMap eN0)⟩ :: ⟨B5, (r_5.Cells.flatMap eN0)⟩ :: ⟨B4, (r_4.Cells.flatMap eN0)⟩ :: ⟨B2, (one_.flatMap eN0)⟩ :: ⟨(aD 0), [vi 1, vi 0, vi 0, vi 0, vi 2]⟩ :: ((([((B14, c14), r_6)] : List (Hd × (List TDyadic))).flatMap eN1) ++ ((D2.flatMap eN1) ++ ((D3.flatMap eN1) ++ [])))) := ST.subR hS40 (subc (mem_at (i := 0) rfl) (subc (mem_at (i := 1) rfl) (subc (mem_at (i := 2) rfl) (subc (mem_at (i := 3) rfl) (subc (mem_at (i := 4) rfl) (subc (mem_at (i := 5) rfl) (subc (mem_at (i := 6) rfl) (suba hm6 (suba (fun r_ (h : r_ ∈ ((D2.flatMap eN1) : List Ro)) => mOd (i := 7) (show r_ ∈ ((((D2.flatMap eN1) ++ ((D3.flatMap eN1) ++ []))) : List Ro) from mAl _ h)) (suba (fun r_ (h : r_ ∈ ((D3.flatMap eN1) : List Ro)) => mOd (i := 7) (show r_ ∈ ((((D2.flatMap eN1) ++ ((D3.flatMap eN1) ++ []))) : List Ro) from mAr _ (mAl _ h))) (fun _ h => by cases h)))))))))))
           have hS41 : ST w0 [] _ [⟨B8, 9, (words1.flatMap encS), c8 * 1⟩, ⟨B9, 28, (D2.flatMap eN3), c9 * 1⟩, ⟨aD b4, 28, (D3.flatMap eN3), 2 * 1⟩, ⟨aD b5, 28, [.slice B14 r_6.length c14], 1⟩, ⟨aD b6, 9, ([(x2 ++ (List.drop (i2 : Int).toNat (List.take (i64.wrap ((i2 : Int) + 1)).toNat ([72, 83] : List UInt8))))].flatMap encS), 1 * 1⟩, ⟨aD b7, 28, (([((B14, c14), r_6)] : List (Hd × (List TDyadic))).flatMap eN3), 1 * 1⟩] (⟨B14, (r_6.flatMap eN0)⟩ :: ⟨B13, (x1.flatMap eN0)⟩ :: ⟨B12, (x.flatMap eN0)⟩ :: ⟨B5, (r_5.Cells.flatMap eN0)⟩ :: ⟨B4, (r_4.Cells.flatMap eN0)⟩ :: ⟨B2, (one_.flatMap eN0)⟩ :: ⟨(aD 0), [vi 1, vi 0, vi 0, vi 0, vi 2]⟩ :: ((([((B14, c14), r_6)] : List (Hd × (List TDyadic))).flatMap eN1) ++ ((D2.flatMap eN1) ++ ((D3.flatMap eN1) ++ [])))) := hS41
           refine ⟨(ST.subR (hS41.se [2, 3]) (R' := (⟨B14, (r_6.flatMap eN0)⟩ :: ⟨B13, (x1.flatMap eN0)⟩ :: ⟨B12, (x.flatMap eN0)⟩ :: ⟨B5, (r_5.Cells.flatMap eN0)⟩ :: ⟨B4, (r_4.Cells.flatMap eN0)⟩ :: ⟨B2, (one_.flatMap eN0)⟩ :: ⟨(aD 0), [vi 1, vi 0, vi 0, vi 0, vi 2]⟩ :: ((D3.flatMap eN1) ++ []))) (subc (mem_at (i := 0) rfl) (subc (mem_at (i := 1) rfl) (subc (mem_at (i := 2) rfl) (subc (mem_at (i := 3) rfl) (subc (mem_at (i := 4) rfl) (subc (mem_at (i := 5) rfl) (subc (mem_at (i := 6) rfl) (suba (fun r_ (h : r_ ∈ ((D3.flatMap eN1) : List Ro)) => mOd (i := 7) (show r_ ∈ ((((([((B14, c14), r_6)] : List (Hd × (List TDyadic))).flatMap eN1) ++ ((D2.flatMap eN1) ++ ((D3.flatMap eN1) ++ [])))) : List Ro) from mAr _ (mAr _ (mAl _ h)))) (fun _ h => by cases h)))))))))), ?_⟩
           refine rA [11] ?_
           refine ra_s 72 (i := 11) rfl rfl rfl (Ys_append (s := 1) (by' := 16) (i := 0) (nn := words1.length) (c := c8) (k := 1) (len := (words1 ++ [(x2 ++ (List.drop (i2 : Int).toNat (List.take (i64.wrap ((i2 : Int) + 1)).toNat ([72, 83] : List UInt8))))]).length) (B := B8) (xs := ([(x2 ++ (List.drop (i2 : Int).toNat (List.take (i64.wrap ((i2 : Int) + 1)).toNat ([72, 83] : List UInt8))))].flatMap encS)) (cs' := ((words1 ++ [(x2 ++ (List.drop (i2 : Int).toNat (List.take (i64.wrap ((i2 : Int) + 1)).toNat ([72, 83] : List UInt8))))]).flatMap encS)) hS41 k_sl_57_9 k_sz_9_1 k_by_9_16 k_zero_9 rfl (by decide) rfl rfl rfl rfl (fm_lenn (l := words1) encS_len rfl) rfl (hS41.cf (i := 4) rfl) (fm_lenn (l := [(x2 ++ (List.drop (i2 : Int).toNat (List.take (i64.wrap ((i2 : Int) + 1)).toNat ([72, 83] : List UInt8))))]) encS_len rfl) (fm_one' (enc := encS) encS_one [(x2 ++ (List.drop (i2 : Int).toNat (List.take (i64.wrap ((i2 : Int) + 1)).toNat ([72, 83] : List UInt8))))]) (by have := hap1; omega) (by have := hap1; simp only [maxLen]; omega) (fm_app _ _) (app_len (l := words1) (l' := [(x2 ++ (List.drop (i2 : Int).toNat (List.take (i64.wrap ((i2 : Int) + 1)).toNat ([72, 83] : List UInt8))))]) rfl rfl)) ?_ ?_
           ·rintro _ w_19 ⟨B15, c15, rfl, hS42⟩
            refine ⟨(ST.subR (hS42.se [2, 3]) (R' := (⟨B14, (r_6.flatMap eN0)⟩ :: ⟨B13, (x1.flatMap eN0)⟩ :: ⟨B12, (x.flatMap eN0)⟩ :: ⟨B5, (r_5.Cells.flatMap eN0)⟩ :: ⟨B4, (r_4.Cells.flatMap eN0)⟩ :: ⟨B2, (one_.flatMap eN0)⟩ :: ⟨(aD 0), [vi 1, vi 0, vi 0, vi 0, vi 2]⟩ :: ((D3.flatMap eN1) ++ []))) (subc (mem_at (i := 0) rfl) (subc (mem_at (i := 1) rfl) (subc (mem_at (i := 2) rfl) (subc (mem_at (i := 3) rfl) (subc (mem_at (i := 4) rfl) (subc (mem_at (i := 5) rfl) (subc (mem_at (i := 6) rfl) (suba (fun r_ (h : r_ ∈ ((D3.flatMap eN1) : List Ro)) => mOd (i := 7) (show r_ ∈ ((((([((B14, c14), r_6)] : List (Hd × (List TDyadic))).flatMap eN1) ++ ((D2.flatMap eN1) ++ ((D3.flatMap eN1) ++ [])))) : List Ro) from mAr _ (mAr _ (mAl _ h)))) (fun _ h => by cases h)))))))))), ?_⟩
            refine rA [15] ?_
            refine ra_s 76 (i := 15) rfl rfl rfl (Ys_append (s := 1) (by' := 24) (i := 1) (nn := list1.length) (c := c9) (k := 1) (len := (list1 ++ ([r_6] : List (List TDyadic))).length) (B := B9) (xs := (([((B14, c14), r_6)] : List (Hd × (List TDyadic))).flatMap eN3)) (cs' := ((D2 ++ ([((B14, c14), r_6)] : List (Hd × (List TDyadic)))).flatMap eN3)) hS42 k_sl_58_28 k_sz_28_1 k_by_28_24 k_zero_28 rfl (by decide) rfl rfl rfl rfl (fm_lenn (l := D2) encD_SDyadic_len (dl_len hD2)) rfl (hS42.cf (i := 5) rfl) (fm_lenn (l := ([((B14, c14), r_6)] : List (Hd × (List TDyadic)))) encD_SDyadic_len rfl) (fm_one' (enc := eN3) encD_SDyadic_one ([((B14, c14), r_6)] : List (Hd × (List TDyadic)))) (by have := hap2; omega) (by have := hap2; simp only [maxLen]; omega) (fm_app _ _) (dl_sum (dl_len hD2) rfl (dl_app hD2 (show List.map Prod.snd ([((B14, c14), r_6)] : List (Hd × (List TDyadic))) = ([r_6] : List (List TDyadic)) from rfl)))) ?_ ?_
            ·rintro _ w_20 ⟨B16, c16, rfl, hS43⟩
             have ho20 : Org w0 [] [⟨(aD 0), [vi 1, vi 0, vi 0, vi 0, vi 2]⟩] ((D2 ++ ([((B14, c14), r_6)] : List (Hd × (List TDyadic)))).flatMap eN1) := (forg_app ho8 ho19)
             have hS44 : ST w0 [] _ [⟨B15, 9, ((words1 ++ [(x2 ++ (List.drop (i2 : Int).toNat (List.take (i64.wrap ((i2 : Int) + 1)).toNat ([72, 83] : List UInt8))))]).flatMap encS), c15 * 1⟩, ⟨B16, 28, ((D2 ++ ([((B14, c14), r_6)] : List (Hd × (List TDyadic)))).flatMap eN3), c16 * 1⟩, ⟨aD b4, 28, (D3.flatMap eN3), 2 * 1⟩, ⟨aD b5, 28, [.slice B14 r_6.length c14], 1⟩, ⟨aD b6, 9, ([(x2 ++ (List.drop (i2 : Int).toNat (List.take (i64.wrap ((i2 : Int) + 1)).toNat ([72, 83] : List UInt8))))].flatMap encS), 1 * 1⟩, ⟨aD b7, 28, (([((B14, c14), r_6)] : List (Hd × (List TDyadic))).flatMap eN3), 1 * 1⟩] (⟨B14, (r_6.flatMap eN0)⟩ :: ⟨B13, (x1.flatMap eN0)⟩ :: ⟨B12, (x.flatMap eN0)⟩ :: ⟨B5, (r_5.Cells.flatMap eN0)⟩ :: ⟨B4, (r_4.Cells.flatMap eN0)⟩ :: ⟨B2, (one_.flatMap eN0)⟩ :: ⟨(aD 0), [vi 1, vi 0, vi 0, vi 0, vi 2]⟩ :: (((D2 ++ ([((B14, c14), r_6)] : List (Hd × (List TDyadic)))).flatMap eN1) ++ ((([((B14, c14), r_6)] : List (Hd × (List TDyadic))).flatMap eN1) ++ ((D3.flatMap eN1) ++ [])))) := ST.subR hS43 (subc (mem_at (i := 0) rfl) (subc (mem_at (i := 1) rfl) (subc (mem_at (i := 2) rfl) (subc (mem_at (i := 3) rfl) (subc (mem_at (i := 4) rfl) (subc (mem_at (i := 5) rfl) (subc (mem_at (i := 6) rfl) (suba (fsub_app (fun r_ (h : r_ ∈ ((D2.flatMap eN1) : List Ro)) => mOd (i := 7) (show r_ ∈ ((((([((B14, c14), r_6)] : List (Hd × (List TDyadic))).flatMap eN1) ++ ((D2.flatMap eN1) ++ ((D3.flatMap eN1) ++ [])))) : List Ro) from mAr _ (mAl _ h))) (fun r_ (h : r_ ∈ ((([((B14, c14), r_6)] : List (Hd × (List TDyadic))).flatMap eN1) : List Ro)) => mOd (i := 7) (show r_ ∈ ((((([((B14, c14), r_6)] : List (Hd × (List TDyadic))).flatMap eN1) ++ ((D2.flatMap eN1) ++ ((D3.flatMap eN1) ++ [])))) : List Ro) from mAl _ h))) (suba (fun r_ (h : r_ ∈ ((([((B14, c14), r_6)] : List (Hd × (List TDyadic))).flatMap eN1) : List Ro)) => mOd (i := 7) (show r_ ∈ ((((([((B14, c14), r_6)] : List (Hd × (List TDyadic))).flatMap eN1) ++ ((D2.flatMap eN1) ++ ((D3.flatMap eN1) ++ [])))) : List Ro) from mAl _ h)) (suba (fun r_ (h : r_ ∈ ((D3.flatMap eN1) : List Ro)) => mOd (i := 7) (show r_ ∈ ((((([((B14, c14), r_6)] : List (Hd × (List TDyadic))).flatMap eN1) ++ ((D2.flatMap eN1) ++ ((D3.flatMap eN1) ++ [])))) : List Ro) from mAr _ (mAr _ (mAl _ h)))) (fun _ h => by cases h)))))))))))
             refine ⟨(ST.subR (hS44.se [2, 3]) (R' := (⟨B14, (r_6.flatMap eN0)⟩ :: ⟨B13, (x1.flatMap eN0)⟩ :: ⟨B12, (x.flatMap eN0)⟩ :: ⟨B5, (r_5.Cells.flatMap eN0)⟩ :: ⟨B4, (r_4.Cells.flatMap eN0)⟩ :: ⟨B2, (one_.flatMap eN0)⟩ :: ⟨(aD 0), [vi 1, vi 0, vi 0, vi 0, vi 2]⟩ :: ((D3.flatMap eN1) ++ []))) (subc (mem_at (i := 0) rfl) (subc (mem_at (i := 1) rfl) (subc (mem_at (i := 2) rfl) (subc (mem_at (i := 3) rfl) (subc (mem_at (i := 4) rfl) (subc (mem_at (i := 5) rfl) (subc (mem_at (i := 6) rfl) (suba (fun r_ (h : r_ ∈ ((D3.flatMap eN1) : List Ro)) => mOd (i := 7) (show r_ ∈ (((((D2 ++ ([((B14, c14), r_6)] : List (Hd × (List TDyadic)))).flatMap eN1) ++ ((([((B14, c14), r_6)] : List (Hd × (List TDyadic))).flatMap eN1) ++ ((D3.flatMap eN1) ++ [])))) : List Ro) from mAr _ (mAr _ (mAl _ h)))) (fun _ h => by cases h)))))))))), ?_⟩
             refine ra_q 16 4 (v := .slice B15 ((words1 ++ [(x2 ++ (List.drop (i2 : Int).toNat (List.take (i64.wrap ((i2 : Int) + 1)).toNat ([72, 83] : List UInt8))))]).length) c15) rfl rfl rfl (by kernel_rfl) (by kernel_rfl) (by kernel_rfl) (ST.subR (hS44.se [2, 3]) (R' := (⟨B14, (r_6.flatMap eN0)⟩ :: ⟨B13, (x1.flatMap eN0)⟩ :: ⟨B12, (x.flatMap eN0)⟩ :: ⟨B5, (r_5.Cells.flatMap eN0)⟩ :: ⟨B4, (r_4.Cells.flatMap eN0)⟩ :: ⟨B2, (one_.flatMap eN0)⟩ :: ⟨(aD 0), [vi 1, vi 0, vi 0, vi 0, vi 2]⟩ :: ((D3.flatMap eN1) ++ []))) (subc (mem_at (i := 0) rfl) (subc (mem_at (i := 1) rfl) (subc (mem_at (i := 2) rfl) (subc (mem_at (i := 3) rfl) (subc (mem_at (i := 4) rfl) (subc (mem_at (i := 5) rfl) (subc (mem_at (i := 6) rfl) (suba (fun r_ (h : r_ ∈ ((D3.flatMap eN1) : List Ro)) => mOd (i := 7) (show r_ ∈ (((((D2 ++ ([((B14, c14), r_6)] : List (Hd × (List TDyadic)))).flatMap eN1) ++ ((([((B14, c14), r_6)] : List (Hd × (List TDyadic))).flatMap eN1) ++ ((D3.flatMap eN1) ++ [])))) : List Ro) from mAr _ (mAr _ (mAl _ h)))) (fun _ h => by cases h)))))))))) (fun w' hw' => (Y_assign (v := .slice B15 ((words1 ++ [(x2 ++ (List.drop (i2 : Int).toNat (List.take (i64.wrap ((i2 : Int) + 1)).toNat ([72, 83] : List UInt8))))]).length) c15) rfl rfl)) ?_
             refine rq 17 5 (v := .slice B16 ((list1 ++ ([r_6] : List (List TDyadic))).length) c16) rfl (ST.subR (hS44.se [2, 3]) (R' := (⟨B14, (r_6.flatMap eN0)⟩ :: ⟨B13, (x1.flatMap eN0)⟩ :: ⟨B12, (x.flatMap eN0)⟩ :: ⟨B5, (r_5.Cells.flatMap eN0)⟩ :: ⟨B4, (r_4.Cells.flatMap eN0)⟩ :: ⟨B2, (one_.flatMap eN0)⟩ :: ⟨(aD 0), [vi 1, vi 0, vi 0, vi 0, vi 2]⟩ :: ((D3.flatMap eN1) ++ []))) (subc (mem_at (i := 0) rfl) (subc (mem_at (i := 1) rfl) (subc (mem_at (i := 2) rfl) (subc (mem_at (i := 3) rfl) (subc (mem_at (i := 4) rfl) (subc (mem_at (i := 5) rfl) (subc (mem_at (i := 6) rfl) (suba (fun r_ (h : r_ ∈ ((D3.flatMap eN1) : List Ro)) => mOd (i := 7) (show r_ ∈ (((((D2 ++ ([((B14, c14), r_6)] : List (Hd × (List TDyadic)))).flatMap eN1) ++ ((([((B14, c14), r_6)] : List (Hd × (List TDyadic))).flatMap eN1) ++ ((D3.flatMap eN1) ++ [])))) : List Ro) from mAr _ (mAr _ (mAl _ h)))) (fun _ h => by cases h)))))))))) (fun w' hw' => (Y_assign (v := .slice B16 ((list1 ++ ([r_6] : List (List TDyadic))).length) c16) rfl rfl)) ?_
             refine ra_done (by kernel_rfl) ?_
             have hS45 : ST w0 [] _ [⟨B15, 9, ((words1 ++ [(x2 ++ (List.drop (i2 : Int).toNat (List.take (i64.wrap ((i2 : Int) + 1)).toNat ([72, 83] : List UInt8))))]).flatMap encS), c15 * 1⟩, ⟨B16, 28, ((D2 ++ ([((B14, c14), r_6)] : List (Hd × (List TDyadic)))).flatMap eN3), c16 * 1⟩, ⟨aD b4, 28, (D3.flatMap eN3), 2 * 1⟩, ⟨aD b5, 28, [.slice B14 r_6.length c14], 1⟩, ⟨aD b6, 9, ([(x2 ++ (List.drop (i2 : Int).toNat (List.take (i64.wrap ((i2 : Int) + 1)).toNat ([72, 83] : List UInt8))))].flatMap encS), 1 * 1⟩, ⟨aD b7, 28, (([((B14, c14), r_6)] : List (Hd × (List TDyadic))).flatMap eN3), 1 * 1⟩] (⟨B14, (r_6.flatMap eN0)⟩ :: ⟨B13, (x1.flatMap eN0)⟩ :: ⟨B12, (x.flatMap eN0)⟩ :: ⟨B5, (r_5.Cells.flatMap eN0)⟩ :: ⟨B4, (r_4.Cells.flatMap eN0)⟩ :: ⟨B2, (one_.flatMap eN0)⟩ :: ⟨(aD 0), [vi 1, vi 0, vi 0, vi 0, vi 2]⟩ :: (((D2 ++ ([((B14, c14), r_6)] : List (Hd × (List TDyadic)))).flatMap eN1) ++ ((D3.flatMap eN1) ++ []))) := ST.subR hS44 (subc (mem_at (i := 0) rfl) (subc (mem_at (i := 1) rfl) (subc (mem_at (i := 2) rfl) (subc (mem_at (i := 3) rfl) (subc (mem_at (i := 4) rfl) (subc (mem_at (i := 5) rfl) (subc (mem_at (i := 6) rfl) (suba (fun r_ (h : r_ ∈ (((D2 ++ ([((B14, c14), r_6)] : List (Hd × (List TDyadic)))).flatMap eN1) : List Ro)) => mOd (i := 7) (show r_ ∈ (((((D2 ++ ([((B14, c14), r_6)] : List (Hd × (List TDyadic)))).flatMap eN1) ++ ((([((B14, c14), r_6)] : List (Hd × (List TDyadic))).flatMap eN1) ++ ((D3.flatMap eN1) ++ [])))) : List Ro) from mAl _ h)) (suba (fun r_ (h : r_ ∈ ((D3.flatMap eN1) : List Ro)) => mOd (i := 7) (show r_ ∈ (((((D2 ++ ([((B14, c14), r_6)] : List (Hd × (List TDyadic)))).flatMap eN1) ++ ((([((B14, c14), r_6)] : List (Hd × (List TDyadic))).flatMap eN1) ++ ((D3.flatMap eN1) ++ [])))) : List Ro) from mAr _ (mAr _ (mAl _ h)))) (fun _ h => by cases h))))))))))
             exact ⟨B15, c15, B16, c16, (D2 ++ ([((B14, c14), r_6)] : List (Hd × (List TDyadic)))), (FF.cons rfl (FF.cons rfl (FF.cons (hf2.get 6 2 rfl) (FF.cons (hf2.get 7 3 rfl) (FF.cons (hf2.get 8 4 rfl) (FF.cons (hf2.get 41 5 rfl) (FF.cons (hf2.get 42 6 rfl) (FF.cons (hf2.get 43 7 rfl) FF.nil)))))))), (dl_app hD2 (show List.map Prod.snd ([((B14, c14), r_6)] : List (Hd × (List TDyadic))) = ([r_6] : List (List TDyadic)) from rfl)), ho20, (hS45.sel [0, 1, 2] rfl rfl)⟩
            exact allR_nil
           exact allR_nil
          exact allR_nil
         refine ra_s 75 (i := 14) rfl rfl rfl (Ys_bslice (s := 1) (len := 1) (vs := [(0, .slice B14 r_6.length c14)]) (cs := [.slice B14 r_6.length c14]) (zs := [.slice none 0 0]) (m := 1) hS32 k_sl_58_28 k_sz_28_1 k_zc_28 rfl (mpc rfl mpn) rfl rfl rfl (by kernel_rfl) (by kernel_rfl) rfl) ?_ ?_
         ·rintro _ w_21 ⟨b7, rfl, hS46⟩
          have hm7 : ∀ r ∈ (([((B14, c14), r_6)] : List (Hd × (List TDyadic))).flatMap eN1), r ∈ ((⟨B14, (r_6.flatMap eN0)⟩ :: ⟨B13, (x1.flatMap eN0)⟩ :: ⟨B12, (x.flatMap eN0)⟩ :: ⟨B5, (r_5.Cells.flatMap eN0)⟩ :: ⟨B4, (r_4.Cells.flatMap eN0)⟩ :: ⟨B2, (one_.flatMap eN0)⟩ :: ⟨(aD 0), [vi 1, vi 0, vi 0, vi 0, vi 2]⟩ :: ((D2.flatMap eN1) ++ ((D3.flatMap eN1) ++ []))) : List Ro) := (fsub_cons (subc (mem_at (i := 0) rfl) (fun _ h => by cases h)) fsub_nil)
          have ho21 : Org w0 [] [⟨(aD 0), [vi 1, vi 0, vi 0, vi 0, vi 2]⟩] (([((B14, c14), r_6)] : List (Hd × (List TDyadic))).flatMap eN1) := (forg_cons (org_cons ho15 org_nil) forg_nil)
          have hS47 : ST w0 [] _ [⟨B8, 9, (words1.flatMap encS), c8 * 1⟩, ⟨B9, 28, (D2.flatMap eN3), c9 * 1⟩, ⟨aD b4, 28, (D3.flatMap eN3), 2 * 1⟩, ⟨aD b5, 28, [.slice B14 r_6.length c14], 1⟩, ⟨aD b7, 28, (([((B14, c14), r_6)] : List (Hd × (List TDyadic))).flatMap eN3), 1 * 1⟩] (⟨B14, (r_6.flatMap eN0)⟩ :: ⟨B13, (x1.flatMap eN0)⟩ :: ⟨B12, (x.flatMap eN0)⟩ :: ⟨B5, (r_5.Cells.flatMap eN0)⟩ :: ⟨B4, (r_4.Cells.flatMap eN0)⟩ :: ⟨B2, (one_.flatMap eN0)⟩ :: ⟨(aD 0), [vi 1, vi 0, vi 0, vi 0, vi 2]⟩ :: ((([((B14, c14), r_6)] : List (Hd × (List TDyadic))).flatMap eN1) ++ ((D2.flatMap eN1) ++ ((D3.flatMap eN1) ++ [])))) := ST.subR hS46 (subc (mem_at (i := 0) rfl) (subc (mem_at (i := 1) rfl) (subc (mem_at (i := 2) rfl) (subc (mem_at (i := 3) rfl) (subc (mem_at (i := 4) rfl) (subc (mem_at (i := 5) rfl) (subc (mem_at (i := 6) rfl) (suba hm7 (suba (fun r_ (h : r_ ∈ ((D2.flatMap eN1) : List Ro)) => mOd (i := 7) (show r_ ∈ ((((D2.flatMap eN1) ++ ((D3.flatMap eN1) ++ []))) : List Ro) from mAl _ h)) (suba (fun r_ (h : r_ ∈ ((D3.flatMap eN1) : List Ro)) => mOd (i := 7) (show r_ ∈ ((((D2.flatMap eN1) ++ ((D3.flatMap eN1) ++ []))) : List Ro) from mAr _ (mAl _ h))) (fun _ h => by cases h)))))))))))
          refine ⟨(ST.subR (hS47.se [2, 3]) (R' := (⟨B14, (r_6.flatMap eN0)⟩ :: ⟨B13, (x1.flatMap eN0)⟩ :: ⟨B12, (x.flatMap eN0)⟩ :: ⟨B5, (r_5.Cells.flatMap eN0)⟩ :: ⟨B4, (r_4.Cells.flatMap eN0)⟩ :: ⟨B2, (one_.flatMap eN0)⟩ :: ⟨(aD 0), [vi 1, vi 0, vi 0, vi 0, vi 2]⟩ :: ((D3.flatMap eN1) ++ []))) (subc (mem_at (i := 0) rfl) (subc (mem_at (i := 1) rfl) (subc (mem_at (i := 2) rfl) (subc (mem_at (i := 3) rfl) (subc (mem_at (i := 4) rfl) (subc (mem_at (i := 5) rfl) (subc (mem_at (i := 6) rfl) (suba (fun r_ (h : r_ ∈ ((D3.flatMap eN1) : List Ro)) => mOd (i := 7) (show r_ ∈ ((((([((B14, c14), r_6)] : List (Hd × (List TDyadic))).flatMap eN1) ++ ((D2.flatMap eN1) ++ ((D3.flatMap eN1) ++ [])))) : List Ro) from mAr _ (mAr _ (mAl _ h)))) (fun _ h => by cases h)))))))))), ?_⟩
          refine rA [10] ?_
          refine ra_s 71 (i := 10) rfl rfl rfl (Ys_bslice (s := 1) (len := 1) (vs := [(0, .string (bstr (x2 ++ (List.drop (i2 : Int).toNat (List.take (i64.wrap ((i2 : Int) + 1)).toNat ([72, 83] : List UInt8))))))]) (cs := [.string (bstr (x2 ++ (List.drop (i2 : Int).toNat (List.take (i64.wrap ((i2 : Int) + 1)).toNat ([72, 83] : List UInt8)))))]) (zs := [.string (bstr ([] : List UInt8))]) (m := 1) hS47 k_sl_57_9 k_sz_9_1 k_zc_9 rfl (mpc rfl mpn) rfl rfl rfl (by kernel_rfl) (by kernel_rfl) rfl) ?_ ?_
          ·rintro _ w_22 ⟨b6, rfl, hS48⟩
           refine ⟨(ST.subR (hS48.se [2, 3]) (R' := (⟨B14, (r_6.flatMap eN0)⟩ :: ⟨B13, (x1.flatMap eN0)⟩ :: ⟨B12, (x.flatMap eN0)⟩ :: ⟨B5, (r_5.Cells.flatMap eN0)⟩ :: ⟨B4, (r_4.Cells.flatMap eN0)⟩ :: ⟨B2, (one_.flatMap eN0)⟩ :: ⟨(aD 0), [vi 1, vi 0, vi 0, vi 0, vi 2]⟩ :: ((D3.flatMap eN1) ++ []))) (subc (mem_at (i := 0) rfl) (subc (mem_at (i := 1) rfl) (subc (mem_at (i := 2) rfl) (subc (mem_at (i := 3) rfl) (subc (mem_at (i := 4) rfl) (subc (mem_at (i := 5) rfl) (subc (mem_at (i := 6) rfl) (suba (fun r_ (h : r_ ∈ ((D3.flatMap eN1) : List Ro)) => mOd (i := 7) (show r_ ∈ ((((([((B14, c14), r_6)] : List (Hd × (List TDyadic))).flatMap eN1) ++ ((D2.flatMap eN1) ++ ((D3.flatMap eN1) ++ [])))) : List Ro) from mAr _ (mAr _ (mAl _ h)))) (fun _ h => by cases h)))))))))), ?_⟩
           refine rA [11] ?_
           refine ra_s 72 (i := 11) rfl rfl rfl (Ys_append (s := 1) (by' := 16) (i := 0) (nn := words1.length) (c := c8) (k := 1) (len := (words1 ++ [(x2 ++ (List.drop (i2 : Int).toNat (List.take (i64.wrap ((i2 : Int) + 1)).toNat ([72, 83] : List UInt8))))]).length) (B := B8) (xs := ([(x2 ++ (List.drop (i2 : Int).toNat (List.take (i64.wrap ((i2 : Int) + 1)).toNat ([72, 83] : List UInt8))))].flatMap encS)) (cs' := ((words1 ++ [(x2 ++ (List.drop (i2 : Int).toNat (List.take (i64.wrap ((i2 : Int) + 1)).toNat ([72, 83] : List UInt8))))]).flatMap encS)) hS48 k_sl_57_9 k_sz_9_1 k_by_9_16 k_zero_9 rfl (by decide) rfl rfl rfl rfl (fm_lenn (l := words1) encS_len rfl) rfl (hS48.cf (i := 5) rfl) (fm_lenn (l := [(x2 ++ (List.drop (i2 : Int).toNat (List.take (i64.wrap ((i2 : Int) + 1)).toNat ([72, 83] : List UInt8))))]) encS_len rfl) (fm_one' (enc := encS) encS_one [(x2 ++ (List.drop (i2 : Int).toNat (List.take (i64.wrap ((i2 : Int) + 1)).toNat ([72, 83] : List UInt8))))]) (by have := hap1; omega) (by have := hap1; simp only [maxLen]; omega) (fm_app _ _) (app_len (l := words1) (l' := [(x2 ++ (List.drop (i2 : Int).toNat (List.take (i64.wrap ((i2 : Int) + 1)).toNat ([72, 83] : List UInt8))))]) rfl rfl)) ?_ ?_
           ·rintro _ w_23 ⟨B15, c15, rfl, hS49⟩
            refine ⟨(ST.subR (hS49.se [2, 3]) (R' := (⟨B14, (r_6.flatMap eN0)⟩ :: ⟨B13, (x1.flatMap eN0)⟩ :: ⟨B12, (x.flatMap eN0)⟩ :: ⟨B5, (r_5.Cells.flatMap eN0)⟩ :: ⟨B4, (r_4.Cells.flatMap eN0)⟩ :: ⟨B2, (one_.flatMap eN0)⟩ :: ⟨(aD 0), [vi 1, vi 0, vi 0, vi 0, vi 2]⟩ :: ((D3.flatMap eN1) ++ []))) (subc (mem_at (i := 0) rfl) (subc (mem_at (i := 1) rfl) (subc (mem_at (i := 2) rfl) (subc (mem_at (i := 3) rfl) (subc (mem_at (i := 4) rfl) (subc (mem_at (i := 5) rfl) (subc (mem_at (i := 6) rfl) (suba (fun r_ (h : r_ ∈ ((D3.flatMap eN1) : List Ro)) => mOd (i := 7) (show r_ ∈ ((((([((B14, c14), r_6)] : List (Hd × (List TDyadic))).flatMap eN1) ++ ((D2.flatMap eN1) ++ ((D3.flatMap eN1) ++ [])))) : List Ro) from mAr _ (mAr _ (mAl _ h)))) (fun _ h => by cases h)))))))))), ?_⟩
            refine rA [15] ?_
            refine ra_s 76 (i := 15) rfl rfl rfl (Ys_append (s := 1) (by' := 24) (i := 1) (nn := list1.length) (c := c9) (k := 1) (len := (list1 ++ ([r_6] : List (List TDyadic))).length) (B := B9) (xs := (([((B14, c14), r_6)] : List (Hd × (List TDyadic))).flatMap eN3)) (cs' := ((D2 ++ ([((B14, c14), r_6)] : List (Hd × (List TDyadic)))).flatMap eN3)) hS49 k_sl_58_28 k_sz_28_1 k_by_28_24 k_zero_28 rfl (by decide) rfl rfl rfl rfl (fm_lenn (l := D2) encD_SDyadic_len (dl_len hD2)) rfl (hS49.cf (i := 4) rfl) (fm_lenn (l := ([((B14, c14), r_6)] : List (Hd × (List TDyadic)))) encD_SDyadic_len rfl) (fm_one' (enc := eN3) encD_SDyadic_one ([((B14, c14), r_6)] : List (Hd × (List TDyadic)))) (by have := hap2; omega) (by have := hap2; simp only [maxLen]; omega) (fm_app _ _) (dl_sum (dl_len hD2) rfl (dl_app hD2 (show List.map Prod.snd ([((B14, c14), r_6)] : List (Hd × (List TDyadic))) = ([r_6] : List (List TDyadic)) from rfl)))) ?_ ?_
            ·rintro _ w_24 ⟨B16, c16, rfl, hS50⟩
             have ho22 : Org w0 [] [⟨(aD 0), [vi 1, vi 0, vi 0, vi 0, vi 2]⟩] ((D2 ++ ([((B14, c14), r_6)] : List (Hd × (List TDyadic)))).flatMap eN1) := (forg_app ho8 ho21)
             have hS51 : ST w0 [] _ [⟨B15, 9, ((words1 ++ [(x2 ++ (List.drop (i2 : Int).toNat (List.take (i64.wrap ((i2 : Int) + 1)).toNat ([72, 83] : List UInt8))))]).flatMap encS), c15 * 1⟩, ⟨B16, 28, ((D2 ++ ([((B14, c14), r_6)] : List (Hd × (List TDyadic)))).flatMap eN3), c16 * 1⟩, ⟨aD b4, 28, (D3.flatMap eN3), 2 * 1⟩, ⟨aD b5, 28, [.slice B14 r_6.length c14], 1⟩, ⟨aD b7, 28, (([((B14, c14), r_6)] : List (Hd × (List TDyadic))).flatMap eN3), 1 * 1⟩, ⟨aD b6, 9, ([(x2 ++ (List.drop (i2 : Int).toNat (List.take (i64.wrap ((i2 : Int) + 1)).toNat ([72, 83] : List UInt8))))].flatMap encS), 1 * 1⟩] (⟨B14, (r_6.flatMap eN0)⟩ :: ⟨B13, (x1.flatMap eN0)⟩ :: ⟨B12, (x.flatMap eN0)⟩ :: ⟨B5, (r_5.Cells.flatMap eN0)⟩ :: ⟨B4, (r_4.Cells.flatMap eN0)⟩ :: ⟨B2, (one_.flatMap eN0)⟩ :: ⟨(aD 0), [vi 1, vi 0, vi 0, vi 0, vi 2]⟩ :: (((D2 ++ ([((B14, c14), r_6)] : List (Hd × (List TDyadic)))).flatMap eN1) ++ ((([((B14, c14), r_6)] : List (Hd × (List TDyadic))).flatMap eN1) ++ ((D3.flatMap eN1) ++ [])))) := ST.subR hS50 (subc (mem_at (i := 0) rfl) (subc (mem_at (i := 1) rfl) (subc (mem_at (i := 2) rfl) (subc (mem_at (i := 3) rfl) (subc (mem_at (i := 4) rfl) (subc (mem_at (i := 5) rfl) (subc (mem_at (i := 6) rfl) (suba (fsub_app (fun r_ (h : r_ ∈ ((D2.flatMap eN1) : List Ro)) => mOd (i := 7) (show r_ ∈ ((((([((B14, c14), r_6)] : List (Hd × (List TDyadic))).flatMap eN1) ++ ((D2.flatMap eN1) ++ ((D3.flatMap eN1) ++ [])))) : List Ro) from mAr _ (mAl _ h))) (fun r_ (h : r_ ∈ ((([((B14, c14), r_6)] : List (Hd × (List TDyadic))).flatMap eN1) : List Ro)) => mOd (i := 7) (show r_ ∈ ((((([((B14, c14), r_6)] : List (Hd × (List TDyadic))).flatMap eN1) ++ ((D2.flatMap eN1) ++ ((D3.flatMap eN1) ++ [])))) : List Ro) from mAl _ h))) (suba (fun r_ (h : r_ ∈ ((([((B14, c14), r_6)] : List (Hd × (List TDyadic))).flatMap eN1) : List Ro)) => mOd (i := 7) (show r_ ∈ ((((([((B14, c14), r_6)] : List (Hd × (List TDyadic))).flatMap eN1) ++ ((D2.flatMap eN1) ++ ((D3.flatMap eN1) ++ [])))) : List Ro) from mAl _ h)) (suba (fun r_ (h : r_ ∈ ((D3.flatMap eN1) : List Ro)) => mOd (i := 7) (show r_ ∈ ((((([((B14, c14), r_6)] : List (Hd × (List TDyadic))).flatMap eN1) ++ ((D2.flatMap eN1) ++ ((D3.flatMap eN1) ++ [])))) : List Ro) from mAr _ (mAr _ (mAl _ h)))) (fun _ h => by cases h)))))))))))
             refine ⟨(ST.subR (hS51.se [2, 3]) (R' := (⟨B14, (r_6.flatMap eN0)⟩ :: ⟨B13, (x1.flatMap eN0)⟩ :: ⟨B12, (x.flatMap eN0)⟩ :: ⟨B5, (r_5.Cells.flatMap eN0)⟩ :: ⟨B4, (r_4.Cells.flatMap eN0)⟩ :: ⟨B2, (one_.flatMap eN0)⟩ :: ⟨(aD 0), [vi 1, vi 0, vi 0, vi 0, vi 2]⟩ :: ((D3.flatMap eN1) ++ []))) (subc (mem_at (i := 0) rfl) (subc (mem_at (i := 1) rfl) (subc (mem_at (i := 2) rfl) (subc (mem_at (i := 3) rfl) (subc (mem_at (i := 4) rfl) (subc (mem_at (i := 5) rfl) (subc (mem_at (i := 6) rfl) (suba (fun r_ (h : r_ ∈ ((D3.flatMap eN1) : List Ro)) => mOd (i := 7) (show r_ ∈ (((((D2 ++ ([((B14, c14), r_6)] : List (Hd × (List TDyadic)))).flatMap eN1) ++ ((([((B14, c14), r_6)] : List (Hd × (List TDyadic))).flatMap eN1) ++ ((D3.flatMap eN1) ++ [])))) : List Ro) from mAr _ (mAr _ (mAl _ h)))) (fun _ h => by cases h)))))))))), ?_⟩
             refine ra_q 16 4 (v := .slice B15 ((words1 ++ [(x2 ++ (List.drop (i2 : Int).toNat (List.take (i64.wrap ((i2 : Int) + 1)).toNat ([72, 83] : List UInt8))))]).length) c15) rfl rfl rfl (by kernel_rfl) (by kernel_rfl) (by kernel_rfl) (ST.subR (hS51.se [2, 3]) (R' := (⟨B14, (r_6.flatMap eN0)⟩ :: ⟨B13, (x1.flatMap eN0)⟩ :: ⟨B12, (x.flatMap eN0)⟩ :: ⟨B5, (r_5.Cells.flatMap eN0)⟩ :: ⟨B4, (r_4.Cells.flatMap eN0)⟩ :: ⟨B2, (one_.flatMap eN0)⟩ :: ⟨(aD 0), [vi 1, vi 0, vi 0, vi 0, vi 2]⟩ :: ((D3.flatMap eN1) ++ []))) (subc (mem_at (i := 0) rfl) (subc (mem_at (i := 1) rfl) (subc (mem_at (i := 2) rfl) (subc (mem_at (i := 3) rfl) (subc (mem_at (i := 4) rfl) (subc (mem_at (i := 5) rfl) (subc (mem_at (i := 6) rfl) (suba (fun r_ (h : r_ ∈ ((D3.flatMap eN1) : List Ro)) => mOd (i := 7) (show r_ ∈ (((((D2 ++ ([((B14, c14), r_6)] : List (Hd × (List TDyadic)))).flatMap eN1) ++ ((([((B14, c14), r_6)] : List (Hd × (List TDyadic))).flatMap eN1) ++ ((D3.flatMap eN1) ++ [])))) : List Ro) from mAr _ (mAr _ (mAl _ h)))) (fun _ h => by cases h)))))))))) (fun w' hw' => (Y_assign (v := .slice B15 ((words1 ++ [(x2 ++ (List.drop (i2 : Int).toNat (List.take (i64.wrap ((i2 : Int) + 1)).toNat ([72, 83] : List UInt8))))]).length) c15) rfl rfl)) ?_
             refine rq 17 5 (v := .slice B16 ((list1 ++ ([r_6] : List (List TDyadic))).length) c16) rfl (ST.subR (hS51.se [2, 3]) (R' := (⟨B14, (r_6.flatMap eN0)⟩ :: ⟨B13, (x1.flatMap eN0)⟩ :: ⟨B12, (x.flatMap eN0)⟩ :: ⟨B5, (r_5.Cells.flatMap eN0)⟩ :: ⟨B4, (r_4.Cells.flatMap eN0)⟩ :: ⟨B2, (one_.flatMap eN0)⟩ :: ⟨(aD 0), [vi 1, vi 0, vi 0, vi 0, vi 2]⟩ :: ((D3.flatMap eN1) ++ []))) (subc (mem_at (i := 0) rfl) (subc (mem_at (i := 1) rfl) (subc (mem_at (i := 2) rfl) (subc (mem_at (i := 3) rfl) (subc (mem_at (i := 4) rfl) (subc (mem_at (i := 5) rfl) (subc (mem_at (i := 6) rfl) (suba (fun r_ (h : r_ ∈ ((D3.flatMap eN1) : List Ro)) => mOd (i := 7) (show r_ ∈ (((((D2 ++ ([((B14, c14), r_6)] : List (Hd × (List TDyadic)))).flatMap eN1) ++ ((([((B14, c14), r_6)] : List (Hd × (List TDyadic))).flatMap eN1) ++ ((D3.flatMap eN1) ++ [])))) : List Ro) from mAr _ (mAr _ (mAl _ h)))) (fun _ h => by cases h)))))))))) (fun w' hw' => (Y_assign (v := .slice B16 ((list1 ++ ([r_6] : List (List TDyadic))).length) c16) rfl rfl)) ?_
             refine ra_done (by kernel_rfl) ?_
             have hS52 : ST w0 [] _ [⟨B15, 9, ((words1 ++ [(x2 ++ (List.drop (i2 : Int).toNat (List.take (i64.wrap ((i2 : Int) + 1)).toNat ([72, 83] : List UInt8))))]).flatMap encS), c15 * 1⟩, ⟨B16, 28, ((D2 ++ ([((B14, c14), r_6)] : List (Hd × (List TDyadic)))).flatMap eN3), c16 * 1⟩, ⟨aD b4, 28, (D3.flatMap eN3), 2 * 1⟩, ⟨aD b5, 28, [.slice B14 r_6.length c14], 1⟩, ⟨aD b7, 28, (([((B14, c14), r_6)] : List (Hd × (List TDyadic))).flatMap eN3), 1 * 1⟩, ⟨aD b6, 9, ([(x2 ++ (List.drop (i2 : Int).toNat (List.take (i64.wrap ((i2 : Int) + 1)).toNat ([72, 83] : List UInt8))))].flatMap encS), 1 * 1⟩] (⟨B14, (r_6.flatMap eN0)⟩ :: ⟨B13, (x1.flatMap eN0)⟩ :: ⟨B12, (x.flatMap eN0)⟩ :: ⟨B5, (r_5.Cells.flatMap eN0)⟩ :: ⟨B4, (r_4.Cells.flatMap eN0)⟩ :: ⟨B2, (one_.flatMap eN0)⟩ :: ⟨(aD 0), [vi 1, vi 0, vi 0, vi 0, vi 2]⟩ :: (((D2 ++ ([((B14, c14), r_6)] : List (Hd × (List TDyadic)))).flatMap eN1) ++ ((D3.flatMap eN1) ++ []))) := ST.subR hS51 (subc (mem_at (i := 0) rfl) (subc (mem_at (i := 1) rfl) (subc (mem_at (i := 2) rfl) (subc (mem_at (i := 3) rfl) (subc (mem_at (i := 4) rfl) (subc (mem_at (i := 5) rfl) (subc (mem_at (i := 6) rfl) (suba (fun r_ (h : r_ ∈ (((D2 ++ ([((B14, c14), r_6)] : List (Hd × (List TDyadic)))).flatMap eN1) : List Ro)) => mOd (i := 7) (show r_ ∈ (((((D2 ++ ([((B14, c14), r_6)] : List (Hd × (List TDyadic)))).flatMap eN1) ++ ((([((B14, c14), r_6)] : List (Hd × (List TDyadic))).flatMap eN1) ++ ((D3.flatMap eN1) ++ [])))) : List Ro) from mAl _ h)) (suba (fun r_ (h : r_ ∈ ((D3.flatMap eN1) : List Ro)) => mOd (i := 7) (show r_ ∈ (((((D2 ++ ([((B14, c14), r_6)] : List (Hd × (List TDyadic)))).flatMap eN1) ++ ((([((B14, c14), r_6)] : List (Hd × (List TDyadic))).flatMap eN1) ++ ((D3.flatMap eN1) ++ [])))) : List Ro) from mAr _ (mAr _ (mAl _ h)))) (fun _ h => by cases h))))))))))
             exact ⟨B15, c15, B16, c16, (D2 ++ ([((B14, c14), r_6)] : List (Hd × (List TDyadic)))), (FF.cons rfl (FF.cons rfl (FF.cons (hf2.get 6 2 rfl) (FF.cons (hf2.get 7 3 rfl) (FF.cons (hf2.get 8 4 rfl) (FF.cons (hf2.get 41 5 rfl) (FF.cons (hf2.get 42 6 rfl) (FF.cons (hf2.get 43 7 rfl) FF.nil)))))))), (dl_app hD2 (show List.map Prod.snd ([((B14, c14), r_6)] : List (Hd × (List TDyadic))) = ([r_6] : List (List TDyadic)) from rfl)), ho22, (hS52.sel [0, 1, 2] rfl rfl)⟩
            exact allR_nil
           exact allR_nil
          exact allR_nil
         exact allR_nil
        refine ra_s 75 (i := 14) rfl rfl rfl (Ys_bslice (s := 1) (len := 1) (vs := [(0, .slice B14 r_6.length c14)]) (cs := [.slice B14 r_6.length c14]) (zs := [.slice none 0 0]) (m := 1) hS32 k_sl_58_28 k_sz_28_1 k_zc_28 rfl (mpc rfl mpn) rfl rfl rfl (by kernel_rfl) (by kernel_rfl) rfl) ?_ ?_
        ·rintro _ w_25 ⟨b7, rfl, hS53⟩
         have hm8 : ∀ r ∈ (([((B14, c14), r_6)] : List (Hd × (List TDyadic))).flatMap eN1), r ∈ ((⟨B14, (r_6.flatMap eN0)⟩ :: ⟨B13, (x1.flatMap eN0)⟩ :: ⟨B12, (x.flatMap eN0)⟩ :: ⟨B5, (r_5.Cells.flatMap eN0)⟩ :: ⟨B4, (r_4.Cells.flatMap eN0)⟩ :: ⟨B2, (one_.flatMap eN0)⟩ :: ⟨(aD 0), [vi 1, vi 0, vi 0, vi 0, vi 2]⟩ :: ((D2.flatMap eN1) ++ ((D3.flatMap eN1) ++ []))) : List Ro) := (fsub_cons (subc (mem_at (i := 0) rfl) (fun _ h => by cases h)) fsub_nil)
         have ho23 : Org w0 [] [⟨(aD 0), [vi 1, vi 0, vi 0, vi 0, vi 2]⟩] (([((B14, c14), r_6)] : List (Hd × (List TDyadic))).flatMap eN1) := (forg_cons (org_cons ho15 org_nil) forg_nil)
         have hS54 : ST w0 [] _ [⟨B8, 9, (words1.flatMap encS), c8 * 1⟩, ⟨B9, 28, (D2.flatMap eN3), c9 * 1⟩, ⟨aD b4, 28, (D3.flatMap eN3), 2 * 1⟩, ⟨aD b5, 28, [.slice B14 r_6.length c14], 1⟩, ⟨aD b7, 28, (([((B14, c14), r_6)] : List (Hd × (List TDyadic))).flatMap eN3), 1 * 1⟩] (⟨B14, (r_6.flatMap eN0)⟩ :: ⟨B13, (x1.flatMap eN0)⟩ :: ⟨B12, (x.flatMap eN0)⟩ :: ⟨B5, (r_5.Cells.flatMap eN0)⟩ :: ⟨B4, (r_4.Cells.flatMap eN0)⟩ :: ⟨B2, (one_.flatMap eN0)⟩ :: ⟨(aD 0), [vi 1, vi 0, vi 0, vi 0, vi 2]⟩ :: ((([((B14, c14), r_6)] : List (Hd × (List TDyadic))).flatMap eN1) ++ ((D2.flatMap eN1) ++ ((D3.flatMap eN1) ++ [])))) := ST.subR hS53 (subc (mem_at (i := 0) rfl) (subc (mem_at (i := 1) rfl) (subc (mem_at (i := 2) rfl) (subc (mem_at (i := 3) rfl) (subc (mem_at (i := 4) rfl) (subc (mem_at (i := 5) rfl) (subc (mem_at (i := 6) rfl) (suba hm8 (suba (fun r_ (h : r_ ∈ ((D2.flatMap eN1) : List Ro)) => mOd (i := 7) (show r_ ∈ ((((D2.flatMap eN1) ++ ((D3.flatMap eN1) ++ []))) : List Ro) from mAl _ h)) (suba (fun r_ (h : r_ ∈ ((D3.flatMap eN1) : List Ro)) => mOd (i := 7) (show r_ ∈ ((((D2.flatMap eN1) ++ ((D3.flatMap eN1) ++ []))) : List Ro) from mAr _ (mAl _ h))) (fun _ h => by cases h)))))))))))
         refine ⟨(ST.subR (hS54.se [2, 3]) (R' := (⟨B14, (r_6.flatMap eN0)⟩ :: ⟨B13, (x1.flatMap eN0)⟩ :: ⟨B12, (x.flatMap eN0)⟩ :: ⟨B5, (r_5.Cells.flatMap eN0)⟩ :: ⟨B4, (r_4.Cells.flatMap eN0)⟩ :: ⟨B2, (one_.flatMap eN0)⟩ :: ⟨(aD 0), [vi 1, vi 0, vi 0, vi 0, vi 2]⟩ :: ((D3.flatMap eN1) ++ []))) (subc (mem_at (i := 0) rfl) (subc (mem_at (i := 1) rfl) (subc (mem_at (i := 2) rfl) (subc (mem_at (i := 3) rfl) (subc (mem_at (i := 4) rfl) (subc (mem_at (i := 5) rfl) (subc (mem_at (i := 6) rfl) (suba (fun r_ (h : r_ ∈ ((D3.flatMap eN1) : List Ro)) => mOd (i := 7) (show r_ ∈ ((((([((B14, c14), r_6)] : List (Hd × (List TDyadic))).flatMap eN1) ++ ((D2.flatMap eN1) ++ ((D3.flatMap eN1) ++ [])))) : List Ro) from mAr _ (mAr _ (mAl _ h)))) (fun _ h => by cases h)))))))))), ?_⟩
         refine rA [4] ?_
         refine ra_y 65 (i := 4) (v := .string (bstr x2)) rfl rfl rfl (Y_load1 (B := B8) (i := at_1.toNat * 1) (cs := (words1.flatMap encS)) (v := .string (bstr x2)) k_sc_9 rfl rfl (hS54.cf (i := 0) rfl) (gi_at0 encS_len hx2 rfl)) (ST.subR (hS54.se [2, 3]) (R' := (⟨B14, (r_6.flatMap eN0)⟩ :: ⟨B13, (x1.flatMap eN0)⟩ :: ⟨B12, (x.flatMap eN0)⟩ :: ⟨B5, (r_5.Cells.flatMap eN0)⟩ :: ⟨B4, (r_4.Cells.flatMap eN0)⟩ :: ⟨B2, (one_.flatMap eN0)⟩ :: ⟨(aD 0), [vi 1, vi 0, vi 0, vi 0, vi 2]⟩ :: ((D3.flatMap eN1) ++ []))) (subc (mem_at (i := 0) rfl) (subc (mem_at (i := 1) rfl) (subc (mem_at (i := 2) rfl) (subc (mem_at (i := 3) rfl) (subc (mem_at (i := 4) rfl) (subc (mem_at (i := 5) rfl) (subc (mem_at (i := 6) rfl) (suba (fun r_ (h : r_ ∈ ((D3.flatMap eN1) : List Ro)) => mOd (i := 7) (show r_ ∈ ((((([((B14, c14), r_6)] : List (Hd × (List TDyadic))).flatMap eN1) ++ ((D2.flatMap eN1) ++ ((D3.flatMap eN1) ++ [])))) : List Ro) from mAr _ (mAr _ (mAl _ h)))) (fun _ h => by cases h)))))))))) ?_ ?_
         ·skip
          refine ra_q 9 70 (v := .string (bstr (x2 ++ (List.drop (i2 : Int).toNat (List.take (i64.wrap ((i2 : Int) + 1)).toNat ([72, 83] : List UInt8)))))) rfl rfl rfl (by kernel_rfl) (by kernel_rfl) (by kernel_rfl) (ST.subR (hS54.se [2, 3]) (R' := (⟨B14, (r_6.flatMap eN0)⟩ :: ⟨B13, (x1.flatMap eN0)⟩ :: ⟨B12, (x.flatMap eN0)⟩ :: ⟨B5, (r_5.Cells.flatMap eN0)⟩ :: ⟨B4, (r_4.Cells.flatMap eN0)⟩ :: ⟨B2, (one_.flatMap eN0)⟩ :: ⟨(aD 0), [vi 1, vi 0, vi 0, vi 0, vi 2]⟩ :: ((D3.flatMap eN1) ++ []))) (subc (mem_at (i := 0) rfl) (subc (mem_at (i := 1) rfl) (subc (mem_at (i := 2) rfl) (subc (mem_at (i := 3) rfl) (subc (mem_at (i := 4) rfl) (subc (mem_at (i := 5) rfl) (subc (mem_at (i := 6) rfl) (suba (fun r_ (h : r_ ∈ ((D3.flatMap eN1) : List Ro)) => mOd (i := 7) (show r_ ∈ ((((([((B14, c14), r_6)] : List (Hd × (List TDyadic))).flatMap eN1) ++ ((D2.flatMap eN1) ++ ((D3.flatMap eN1) ++ [])))) : List Ro) from mAr _ (mAr _ (mAl _ h)))) (fun _ h => by cases h)))))))))) (fun w' hw' => (Y_sadd (a := x2) (b := (List.drop (i2 : Int).toNat (List.take (i64.wrap ((i2 : Int) + 1)).toNat ([72, 83] : List UInt8)))) rfl rfl rfl hsa)) ?_
          refine rA [10] ?_
          refine ra_s 71 (i := 10) rfl rfl rfl (Ys_bslice (s := 1) (len := 1) (vs := [(0, .string (bstr (x2 ++ (List.drop (i2 : Int).toNat (List.take (i64.wrap ((i2 : Int) + 1)).toNat ([72, 83] : List UInt8))))))]) (cs := [.string (bstr (x2 ++ (List.drop (i2 : Int).toNat (List.take (i64.wrap ((i2 : Int) + 1)).toNat ([72, 83] : List UInt8)))))]) (zs := [.string (bstr ([] : List UInt8))]) (m := 1) hS54 k_sl_57_9 k_sz_9_1 k_zc_9 rfl (mpc rfl mpn) rfl rfl rfl (by kernel_rfl) (by kernel_rfl) rfl) ?_ ?_
          ·rintro _ w_26 ⟨b6, rfl, hS55⟩
           have hS55 : ST w0 [] _ [⟨B8, 9, (words1.flatMap encS), c8 * 1⟩, ⟨B9, 28, (D2.flatMap eN3), c9 * 1⟩, ⟨aD b4, 28, (D3.flatMap eN3), 2 * 1⟩, ⟨aD b5, 28, [.slice B14 r_6.length c14], 1⟩, ⟨aD b7, 28, (([((B14, c14), r_6)] : List (Hd × (List TDyadic))).flatMap eN3), 1 * 1⟩, ⟨aD b6, 9, ([(x2 ++ (List.drop (i2 : Int).toNat (List.take (i64.wrap ((i2 : Int) + 1)).toNat ([72, 83] : List UInt8))))].flatMap encS), 1 * 1⟩] (⟨B14, (r_6.flatMap eN0)⟩ :: ⟨B13, (x1.flatMap eN0)⟩ :: ⟨B12, (x.flatMap eN0)⟩ :: ⟨B5, (r_5.Cells.flatMap eN0)⟩ :: ⟨B4, (r_4.Cells.flatMap eN0)⟩ :: ⟨B2, (one_.flatMap eN0)⟩ :: ⟨(aD 0), [vi 1, vi 0, vi 0, vi 0, vi 2]⟩ :: ((([((B14, c14), r_6)] : List (Hd × (List TDyadic))).flatMap eN1) ++ ((D2.flatMap eN1) ++ ((D3.flatMap eN1) ++ [])))) := hS55
           refine ⟨(ST.subR (hS55.se [2, 3]) (R' := (⟨B14, (r_6.flatMap eN0)⟩ :: ⟨B13, (x1.flatMap eN0)⟩ :: ⟨B12, (x.flatMap eN0)⟩ :: ⟨B5, (r_5.Cells.flatMap eN0)⟩ :: ⟨B4, (r_4.Cells.flatMap eN0)⟩ :: ⟨B2, (one_.flatMap eN0)⟩ :: ⟨(aD 0), [vi 1, vi 0, vi 0, vi 0, vi 2]⟩ :: ((D3.flatMap eN1) ++ []))) (subc (mem_at (i := 0) rfl) (subc (mem_at (i := 1) rfl) (subc (mem_at (i := 2) rfl) (subc (mem_at (i := 3) rfl) (subc (mem_at (i := 4) rfl) (subc (mem_at (i := 5) rfl) (subc (mem_at (i := 6) rfl) (suba (fun r_ (h : r_ ∈ ((D3.flatMap eN1) : List Ro)) => mOd (i := 7) (show r_ ∈ ((((([((B14, c14), r_6)] : List (Hd × (List TDyadic))).flatMap eN1) ++ ((D2.flatMap eN1) ++ ((D3.flatMap eN1) ++ [])))) : List Ro) from mAr _ (mAr _ (mAl _ h)))) (fun _ h => by cases h)))))))))), ?_⟩
           refine rA [11] ?_
           refine ra_s 72 (i := 11) rfl rfl rfl (Ys_append (s := 1) (by' := 16) (i := 0) (nn := words1.length) (c := c8) (k := 1) (len := (words1 ++ [(x2 ++ (List.drop (i2 : Int).toNat (List.take (i64.wrap ((i2 : Int) + 1)).toNat ([72, 83] : List UInt8))))]).length) (B := B8) (xs := ([(x2 ++ (List.drop (i2 : Int).toNat (List.take (i64.wrap ((i2 : Int) + 1)).toNat ([72, 83] : List UInt8))))].flatMap encS)) (cs' := ((words1 ++ [(x2 ++ (List.drop (i2 : Int).toNat (List.take (i64.wrap ((i2 : Int) + 1)).toNat ([72, 83] : List UInt8))))]).flatMap encS)) hS55 k_sl_57_9 k_sz_9_1 k_by_9_16 k_zero_9 rfl (by decide) rfl rfl rfl rfl (fm_lenn (l := words1) encS_len rfl) rfl (hS55.cf (i := 5) rfl) (fm_lenn (l := [(x2 ++ (List.drop (i2 : Int).toNat (List.take (i64.wrap ((i2 : Int) + 1)).toNat ([72, 83] : List UInt8))))]) encS_len rfl) (fm_one' (enc := encS) encS_one [(x2 ++ (List.drop (i2 : Int).toNat (List.take (i64.wrap ((i2 : Int) + 1)).toNat ([72, 83] : List UInt8))))]) (by have := hap1; omega) (by have := hap1; simp only [maxLen]; omega) (fm_app _ _) (app_len (l := words1) (l' := [(x2 ++ (List.drop (i2 : Int).toNat (List.take (i64.wrap ((i2 : Int) + 1)).toNat ([72, 83] : List UInt8))))]) rfl rfl)) ?_ ?_
           ·rintro _ w_27 ⟨B15, c15, rfl, hS56⟩
            refine ⟨(ST.subR (hS56.se [2, 3]) (R' := (⟨B14, (r_6.flatMap eN0)⟩ :: ⟨B13, (x1.flatMap eN0)⟩ :: ⟨B12, (x.flatMap eN0)⟩ :: ⟨B5, (r_5.Cells.flatMap eN0)⟩ :: ⟨B4, (r_4.Cells.flatMap eN0)⟩ :: ⟨B2, (one_.flatMap eN0)⟩ :: ⟨(aD 0), [vi 1, vi 0, vi 0, vi 0, vi 2]⟩ :: ((D3.flatMap eN1) ++ []))) (subc (mem_at (i := 0) rfl) (subc (mem_at (i := 1) rfl) (subc (mem_at (i := 2) rfl) (subc (mem_at (i := 3) rfl) (subc (mem_at (i := 4) rfl) (subc (mem_at (i := 5) rfl) (subc (mem_at (i := 6) rfl) (suba (fun r_ (h : r_ ∈ ((D3.flatMap eN1) : List Ro)) => mOd (i := 7) (show r_ ∈ ((((([((B14, c14), r_6)] : List (Hd × (List TDyadic))).flatMap eN1) ++ ((D2.flatMap eN1) ++ ((D3.flatMap eN1) ++ [])))) : List Ro) from mAr _ (mAr _ (mAl _ h)))) (fun _ h => by cases h)))))))))), ?_⟩
            refine rA [15] ?_
            refine ra_s 76 (i := 15) rfl rfl rfl (Ys_append (s := 1) (by' := 24) (i := 1) (nn := list1.length) (c := c9) (k := 1) (len := (list1 ++ ([r_6] : List (List TDyadic))).length) (B := B9) (xs := (([((B14, c14), r_6)] : List (Hd × (List TDyadic))).flatMap eN3)) (cs' := ((D2 ++ ([((B14, c14), r_6)] : List (Hd × (List TDyadic)))).flatMap eN3)) hS56 k_sl_58_28 k_sz_28_1 k_by_28_24 k_zero_28 rfl (by decide) rfl rfl rfl rfl (fm_lenn (l := D2) encD_SDyadic_len (dl_len hD2)) rfl (hS56.cf (i := 4) rfl) (fm_lenn (l := ([((B14, c14), r_6)] : List (Hd × (List TDyadic)))) encD_SDyadic_len rfl) (fm_one' (enc := eN3) encD_SDyadic_one ([((B14, c14), r_6)] : List (Hd × (List TDyadic)))) (by have := hap2; omega) (by have := hap2; simp only [maxLen]; omega) (fm_app _ _) (dl_sum (dl_len hD2) rfl (dl_app hD2 (show List.map Prod.snd ([((B14, c14), r_6)] : List (Hd × (List TDyadic))) = ([r_6] : List (List TDyadic)) from rfl)))) ?_ ?_
            ·rintro _ w_28 ⟨B16, c16, rfl, hS57⟩
             have ho24 : Org w0 [] [⟨(aD 0), [vi 1, vi 0, vi 0, vi 0, vi 2]⟩] ((D2 ++ ([((B14, c14), r_6)] : List (Hd × (List TDyadic)))).flatMap eN1) := (forg_app ho8 ho23)
             have hS58 : ST w0 [] _ [⟨B15, 9, ((words1 ++ [(x2 ++ (List.drop (i2 : Int).toNat (List.take (i64.wrap ((i2 : Int) + 1)).toNat ([72, 83] : List UInt8))))]).flatMap encS), c15 * 1⟩, ⟨B16, 28, ((D2 ++ ([((B14, c14), r_6)] : List (Hd × (List TDyadic)))).flatMap eN3), c16 * 1⟩, ⟨aD b4, 28, (D3.flatMap eN3), 2 * 1⟩, ⟨aD b5, 28, [.slice B14 r_6.length c14], 1⟩, ⟨aD b7, 28, (([((B14, c14), r_6)] : List (Hd × (List TDyadic))).flatMap eN3), 1 * 1⟩, ⟨aD b6, 9, ([(x2 ++ (List.drop (i2 : Int).toNat (List.take (i64.wrap ((i2 : Int) + 1)).toNat ([72, 83] : List UInt8))))].flatMap encS), 1 * 1⟩] (⟨B14, (r_6.flatMap eN0)⟩ :: ⟨B13, (x1.flatMap eN0)⟩ :: ⟨B12, (x.flatMap eN0)⟩ :: ⟨B5, (r_5.Cells.flatMap eN0)⟩ :: ⟨B4, (r_4.Cells.flatMap eN0)⟩ :: ⟨B2, (one_.flatMap eN0)⟩ :: ⟨(aD 0), [vi 1, vi 0, vi 0, vi 0, vi 2]⟩ :: (((D2 ++ ([((B14, c14), r_6)] : List (Hd × (List TDyadic)))).flatMap eN1) ++ ((([((B14, c14), r_6)] : List (Hd × (List TDyadic))).flatMap eN1) ++ ((D3.flatMap eN1) ++ [])))) := ST.subR hS57 (subc (mem_at (i := 0) rfl) (subc (mem_at (i := 1) rfl) (subc (mem_at (i := 2) rfl) (subc (mem_at (i := 3) rfl) (subc (mem_at (i := 4) rfl) (subc (mem_at (i := 5) rfl) (subc (mem_at (i := 6) rfl) (suba (fsub_app (fun r_ (h : r_ ∈ ((D2.flatMap eN1) : List Ro)) => mOd (i := 7) (show r_ ∈ ((((([((B14, c14), r_6)] : List (Hd × (List TDyadic))).flatMap eN1) ++ ((D2.flatMap eN1) ++ ((D3.flatMap eN1) ++ [])))) : List Ro) from mAr _ (mAl _ h))) (fun r_ (h : r_ ∈ ((([((B14, c14), r_6)] : List (Hd × (List TDyadic))).flatMap eN1) : List Ro)) => mOd (i := 7) (show r_ ∈ ((((([((B14, c14), r_6)] : List (Hd × (List TDyadic))).flatMap eN1) ++ ((D2.flatMap eN1) ++ ((D3.flatMap eN1) ++ [])))) : List Ro) from mAl _ h))) (suba (fun r_ (h : r_ ∈ ((([((B14, c14), r_6)] : List (Hd × (List TDyadic))).flatMap eN1) : List Ro)) => mOd (i := 7) (show r_ ∈ ((((([((B14, c14), r_6)] : List (Hd × (List TDyadic))).flatMap eN1) ++ ((D2.flatMap eN1) ++ ((D3.flatMap eN1) ++ [])))) : List Ro) from mAl _ h)) (suba (fun r_ (h : r_ ∈ ((D3.flatMap eN1) : List Ro)) => mOd (i := 7) (show r_ ∈ ((((([((B14, c14), r_6)] : List (Hd × (List TDyadic))).flatMap eN1) ++ ((D2.flatMap eN1) ++ ((D3.flatMap eN1) ++ [])))) : List Ro) from mAr _ (mAr _ (mAl _ h)))) (fun _ h => by cases h)))))))))))
             refine ⟨(ST.subR (hS58.se [2, 3]) (R' := (⟨B14, (r_6.flatMap eN0)⟩ :: ⟨B13, (x1.flatMap eN0)⟩ :: ⟨B12, (x.flatMap eN0)⟩ :: ⟨B5, (r_5.Cells.flatMap eN0)⟩ :: ⟨B4, (r_4.Cells.flatMap eN0)⟩ :: ⟨B2, (one_.flatMap eN0)⟩ :: ⟨(aD 0), [vi 1, vi 0, vi 0, vi 0, vi 2]⟩ :: ((D3.flatMap eN1) ++ []))) (subc (mem_at (i := 0) rfl) (subc (mem_at (i := 1) rfl) (subc (mem_at (i := 2) rfl) (subc (mem_at (i := 3) rfl) (subc (mem_at (i := 4) rfl) (subc (mem_at (i := 5) rfl) (subc (mem_at (i := 6) rfl) (suba (fun r_ (h : r_ ∈ ((D3.flatMap eN1) : List Ro)) => mOd (i := 7) (show r_ ∈ (((((D2 ++ ([((B14, c14), r_6)] : List (Hd × (List TDyadic)))).flatMap eN1) ++ ((([((B14, c14), r_6)] : List (Hd × (List TDyadic))).flatMap eN1) ++ ((D3.flatMap eN1) ++ [])))) : List Ro) from mAr _ (mAr _ (mAl _ h)))) (fun _ h => by cases h)))))))))), ?_⟩
             refine ra_q 16 4 (v := .slice B15 ((words1 ++ [(x2 ++ (List.drop (i2 : Int).toNat (List.take (i64.wrap ((i2 : Int) + 1)).toNat ([72, 83] : List UInt8))))]).length) c15) rfl rfl rfl (by kernel_rfl) (by kernel_rfl) (by kernel_rfl) (ST.subR (hS58.se [2, 3]) (R' := (⟨B14, (r_6.flatMap eN0)⟩ :: ⟨B13, (x1.flatMap eN0)⟩ :: ⟨B12, (x.flatMap eN0)⟩ :: ⟨B5, (r_5.Cells.flatMap eN0)⟩ :: ⟨B4, (r_4.Cells.flatMap eN0)⟩ :: ⟨B2, (one_.flatMap eN0)⟩ :: ⟨(aD 0), [vi 1, vi 0, vi 0, vi 0, vi 2]⟩ :: ((D3.flatMap eN1) ++ []))) (subc (mem_at (i := 0) rfl) (subc (mem_at (i := 1) rfl) (subc (mem_at (i := 2) rfl) (subc (mem_at (i := 3) rfl) (subc (mem_at (i := 4) rfl) (subc (mem_at (i := 5) rfl) (subc (mem_at (i := 6) rfl) (suba (fun r_ (h : r_ ∈ ((D3.flatMap eN1) : List Ro)) => mOd (i := 7) (show r_ ∈ (((((D2 ++ ([((B14, c14), r_6)] : List (Hd × (List TDyadic)))).flatMap eN1) ++ ((([((B14, c14), r_6)] : List (Hd × (List TDyadic))).flatMap eN1) ++ ((D3.flatMap eN1) ++ [])))) : List Ro) from mAr _ (mAr _ (mAl _ h)))) (fun _ h => by cases h)))))))))) (fun w' hw' => (Y_assign (v := .slice B15 ((words1 ++ [(x2 ++ (List.drop (i2 : Int).toNat (List.take (i64.wrap ((i2 : Int) + 1)).toNat ([72, 83] : List UInt8))))]).length) c15) rfl rfl)) ?_
             refine rq 17 5 (v := .slice B16 ((list1 ++ ([r_6] : List (List TDyadic))).length) c16) rfl (ST.subR (hS58.se [2, 3]) (R' := (⟨B14, (r_6.flatMap eN0)⟩ :: ⟨B13, (x1.flatMap eN0)⟩ :: ⟨B12, (x.flatMap eN0)⟩ :: ⟨B5, (r_5.Cells.flatMap eN0)⟩ :: ⟨B4, (r_4.Cells.flatMap eN0)⟩ :: ⟨B2, (one_.flatMap eN0)⟩ :: ⟨(aD 0), [vi 1, vi 0, vi 0, vi 0, vi 2]⟩ :: ((D3.flatMap eN1) ++ []))) (subc (mem_at (i := 0) rfl) (subc (mem_at (i := 1) rfl) (subc (mem_at (i := 2) rfl) (subc (mem_at (i := 3) rfl) (subc (mem_at (i := 4) rfl) (subc (mem_at (i := 5) rfl) (subc (mem_at (i := 6) rfl) (suba (fun r_ (h : r_ ∈ ((D3.flatMap eN1) : List Ro)) => mOd (i := 7) (show r_ ∈ (((((D2 ++ ([((B14, c14), r_6)] : List (Hd × (List TDyadic)))).flatMap eN1) ++ ((([((B14, c14), r_6)] : List (Hd × (List TDyadic))).flatMap eN1) ++ ((D3.flatMap eN1) ++ [])))) : List Ro) from mAr _ (mAr _ (mAl _ h)))) (fun _ h => by cases h)))))))))) (fun w' hw' => (Y_assign (v := .slice B16 ((list1 ++ ([r_6] : List (List TDyadic))).length) c16) rfl rfl)) ?_
             refine ra_done (by kernel_rfl) ?_
             have hS59 : ST w0 [] _ [⟨B15, 9, ((words1 ++ [(x2 ++ (List.drop (i2 : Int).toNat (List.take (i64.wrap ((i2 : Int) + 1)).toNat ([72, 83] : List UInt8))))]).flatMap encS), c15 * 1⟩, ⟨B16, 28, ((D2 ++ ([((B14, c14), r_6)] : List (Hd × (List TDyadic)))).flatMap eN3), c16 * 1⟩, ⟨aD b4, 28, (D3.flatMap eN3), 2 * 1⟩, ⟨aD b5, 28, [.slice B14 r_6.length c14], 1⟩, ⟨aD b7, 28, (([((B14, c14), r_6)] : List (Hd × (List TDyadic))).flatMap eN3), 1 * 1⟩, ⟨aD b6, 9, ([(x2 ++ (List.drop (i2 : Int).toNat (List.take (i64.wrap ((i2 : Int) + 1)).toNat ([72, 83] : List UInt8))))].flatMap encS), 1 * 1⟩] (⟨B14, (r_6.flatMap eN0)⟩ :: ⟨B13, (x1.flatMap eN0)⟩ :: ⟨B12, (x.flatMap eN0)⟩ :: ⟨B5, (r_5.Cells.flatMap eN0)⟩ :: ⟨B4, (r_4.Cells.flatMap eN0)⟩ :: ⟨B2, (one_.flatMap eN0)⟩ :: ⟨(aD 0), [vi 1, vi 0, vi 0, vi 0, vi 2]⟩ :: (((D2 ++ ([((B14, c14), r_6)] : List (Hd × (List TDyadic)))).flatMap eN1) ++ ((D3.flatMap eN1) ++ []))) := ST.subR hS58 (subc (mem_at (i := 0) rfl) (subc (mem_at (i := 1) rfl) (subc (mem_at (i := 2) rfl) (subc (mem_at (i := 3) rfl) (subc (mem_at (i := 4) rfl) (subc (mem_at (i := 5) rfl) (subc (mem_at (i := 6) rfl) (suba (fun r_ (h : r_ ∈ (((D2 ++ ([((B14, c14), r_6)] : List (Hd × (List TDyadic)))).flatMap eN1) : List Ro)) => mOd (i := 7) (show r_ ∈ (((((D2 ++ ([((B14, c14), r_6)] : List (Hd × (List TDyadic)))).flatMap eN1) ++ ((([((B14, c14), r_6)] : List (Hd × (List TDyadic))).flatMap eN1) ++ ((D3.flatMap eN1) ++ [])))) : List Ro) from mAl _ h)) (suba (fun r_ (h : r_ ∈ ((D3.flatMap eN1) : List Ro)) => mOd (i := 7) (show r_ ∈ (((((D2 ++ ([((B14, c14), r_6)] : List (Hd × (List TDyadic)))).flatMap eN1) ++ ((([((B14, c14), r_6)] : List (Hd × (List TDyadic))).flatMap eN1) ++ ((D3.flatMap eN1) ++ [])))) : List Ro) from mAr _ (mAr _ (mAl _ h)))) (fun _ h => by cases h))))))))))
             exact ⟨B15, c15, B16, c16, (D2 ++ ([((B14, c14), r_6)] : List (Hd × (List TDyadic)))), (FF.cons rfl (FF.cons rfl (FF.cons (hf2.get 6 2 rfl) (FF.cons (hf2.get 7 3 rfl) (FF.cons (hf2.get 8 4 rfl) (FF.cons (hf2.get 41 5 rfl) (FF.cons (hf2.get 42 6 rfl) (FF.cons (hf2.get 43 7 rfl) FF.nil)))))))), (dl_app hD2 (show List.map Prod.snd ([((B14, c14), r_6)] : List (Hd × (List TDyadic))) = ([r_6] : List (List TDyadic)) from rfl)), ho24, (hS59.sel [0, 1, 2] rfl rfl)⟩
            exact allR_nil
           exact allR_nil
          exact allR_nil
         exact allR_nil
        exact allR_nil
       refine ra_s 75 (i := 14) rfl rfl rfl (Ys_bslice (s := 1) (len := 1) (vs := [(0, .slice B14 r_6.length c14)]) (cs := [.slice B14 r_6.length c14]) (zs := [.slice none 0 0]) (m := 1) hS32 k_sl_58_28 k_sz_28_1 k_zc_28 rfl (mpc rfl mpn) rfl rfl rfl (by kernel_rfl) (by kernel_rfl) rfl) ?_ ?_
       ·rintro _ w_29 ⟨b7, rfl, hS60⟩
        have hm9 : ∀ r ∈ (([((B14, c14), r_6)] : List (Hd × (List TDyadic))).flatMap eN1), r ∈ ((⟨B14, (r_6.flatMap eN0)⟩ :: ⟨B13, (x1.flatMap eN0)⟩ :: ⟨B12, (x.flatMap eN0)⟩ :: ⟨B5, (r_5.Cells.flatMap eN0)⟩ :: ⟨B4, (r_4.Cells.flatMap eN0)⟩ :: ⟨B2, (one_.flatMap eN0)⟩ :: ⟨(aD 0), [vi 1, vi 0, vi 0, vi 0, vi 2]⟩ :: ((D2.flatMap eN1) ++ ((D3.flatMap eN1) ++ []))) : List Ro) := (fsub_cons (subc (mem_at (i := 0) rfl) (fun _ h => by cases h)) fsub_nil)
        have ho25 : Org w0 [] [⟨(aD 0), [vi 1, vi 0, vi 0, vi 0, vi 2]⟩] (([((B14, c14), r_6)] : List (Hd × (List TDyadic))).flatMap eN1) := (forg_cons (org_cons ho15 org_nil) forg_nil)
        have hS61 : ST w0 [] _ [⟨B8, 9, (words1.flatMap encS), c8 * 1⟩, ⟨B9, 28, (D2.flatMap eN3), c9 * 1⟩, ⟨aD b4, 28, (D3.flatMap eN3), 2 * 1⟩, ⟨aD b5, 28, [.slice B14 r_6.length c14], 1⟩, ⟨aD b7, 28, (([((B14, c14), r_6)] : List (Hd × (List TDyadic))).flatMap eN3), 1 * 1⟩] (⟨B14, (r_6.flatMap eN0)⟩ :: ⟨B13, (x1.flatMap eN0)⟩ :: ⟨B12, (x.flatMap eN0)⟩ :: ⟨B5, (r_5.Cells.flatMap eN0)⟩ :: ⟨B4, (r_4.Cells.flatMap eN0)⟩ :: ⟨B2, (one_.flatMap eN0)⟩ :: ⟨(aD 0), [vi 1, vi 0, vi 0, vi 0, vi 2]⟩ :: ((([((B14, c14), r_6)] : List (Hd × (List TDyadic))).flatMap eN1) ++ ((D2.flatMap eN1) ++ ((D3.flatMap eN1) ++ [])))) := ST.subR hS60 (subc (mem_at (i := 0) rfl) (subc (mem_at (i := 1) rfl) (subc (mem_at (i := 2) rfl) (subc (mem_at (i := 3) rfl) (subc (mem_at (i := 4) rfl) (subc (mem_at (i := 5) rfl) (subc (mem_at (i := 6) rfl) (suba hm9 (suba (fun r_ (h : r_ ∈ ((D2.flatMap eN1) : List Ro)) => mOd (i := 7) (show r_ ∈ ((((D2.flatMap eN1) ++ ((D3.flatMap eN1) ++ []))) : List Ro) from mAl _ h)) (suba (fun r_ (h : r_ ∈ ((D3.flatMap eN1) : List Ro)) => mOd (i := 7) (show r_ ∈ ((((D2.flatMap eN1) ++ ((D3.flatMap eN1) ++ []))) : List Ro) from mAr _ (mAl _ h))) (fun _ h => by cases h)))))))))))
        refine ⟨(ST.subR (hS61.se [2, 3]) (R' := (⟨B14, (r_6.flatMap eN0)⟩ :: ⟨B13, (x1.flatMap eN0)⟩ :: ⟨B12, (x.flatMap eN0)⟩ :: ⟨B5, (r_5.Cells.flatMap eN0)⟩ :: ⟨B4, (r_4.Cells.flatMap eN0)⟩ :: ⟨B2, (one_.flatMap eN0)⟩ :: ⟨(aD 0), [vi 1, vi 0, vi 0, vi 0, vi 2]⟩ :: ((D3.flatMap eN1) ++ []))) (subc (mem_at (i := 0) rfl) (subc (mem_at (i := 1) rfl) (subc (mem_at (i := 2) rfl) (subc (mem_at (i := 3) rfl) (subc (mem_at (i := 4) rfl) (subc (mem_at (i := 5) rfl) (subc (mem_at (i := 6) rfl) (suba (fun r_ (h : r_ ∈ ((D3.flatMap eN1) : List Ro)) => mOd (i := 7) (show r_ ∈ ((((([((B14, c14), r_6)] : List (Hd × (List TDyadic))).flatMap eN1) ++ ((D2.flatMap eN1) ++ ((D3.flatMap eN1) ++ [])))) : List Ro) from mAr _ (mAr _ (mAl _ h)))) (fun _ h => by cases h)))))))))), ?_⟩
        refine rA [3] ?_
        refine ra_y 64 (i := 3) (v := pt B8 (at_1.toNat * 1)) rfl rfl rfl (Y_index (B := B8) (m := words1.length) (c := c8) (k := .i64) (i := at_1) k_sl_57_9 k_sz_9_1 rfl rfl rfl (gi_isSome encS_len rfl (hS61.cf (i := 0) rfl) hx2) (getI_nn hx2) (getI_ltI hx2 rfl)) (ST.subR (hS61.se [2, 3]) (R' := (⟨B14, (r_6.flatMap eN0)⟩ :: ⟨B13, (x1.flatMap eN0)⟩ :: ⟨B12, (x.flatMap eN0)⟩ :: ⟨B5, (r_5.Cells.flatMap eN0)⟩ :: ⟨B4, (r_4.Cells.flatMap eN0)⟩ :: ⟨B2, (one_.flatMap eN0)⟩ :: ⟨(aD 0), [vi 1, vi 0, vi 0, vi 0, vi 2]⟩ :: ((D3.flatMap eN1) ++ []))) (subc (mem_at (i := 0) rfl) (subc (mem_at (i := 1) rfl) (subc (mem_at (i := 2) rfl) (subc (mem_at (i := 3) rfl) (subc (mem_at (i := 4) rfl) (subc (mem_at (i := 5) rfl) (subc (mem_at (i := 6) rfl) (suba (fun r_ (h : r_ ∈ ((D3.flatMap eN1) : List Ro)) => mOd (i := 7) (show r_ ∈ ((((([((B14, c14), r_6)] : List (Hd × (List TDyadic))).flatMap eN1) ++ ((D2.flatMap eN1) ++ ((D3.flatMap eN1) ++ [])))) : List Ro) from mAr _ (mAr _ (mAl _ h)))) (fun _ h => by cases h)))))))))) ?_ ?_
        ·skip
         refine rA [4] ?_
         refine ra_y 65 (i := 4) (v := .string (bstr x2)) rfl rfl rfl (Y_load1 (B := B8) (i := at_1.toNat * 1) (cs := (words1.flatMap encS)) (v := .string (bstr x2)) k_sc_9 rfl rfl (hS61.cf (i := 0) rfl) (gi_at0 encS_len hx2 rfl)) (ST.subR (hS61.se [2, 3]) (R' := (⟨B14, (r_6.flatMap eN0)⟩ :: ⟨B13, (x1.flatMap eN0)⟩ :: ⟨B12, (x.flatMap eN0)⟩ :: ⟨B5, (r_5.Cells.flatMap eN0)⟩ :: ⟨B4, (r_4.Cells.flatMap eN0)⟩ :: ⟨B2, (one_.flatMap eN0)⟩ :: ⟨(aD 0), [vi 1, vi 0, vi 0, vi 0, vi 2]⟩ :: ((D3.flatMap eN1) ++ []))) (subc (mem_at (i := 0) rfl) (subc (mem_at (i := 1) rfl) (subc (mem_at (i := 2) rfl) (subc (mem_at (i := 3) rfl) (subc (mem_at (i := 4) rfl) (subc (mem_at (i := 5) rfl) (subc (mem_at (i := 6) rfl) (suba (fun r_ (h : r_ ∈ ((D3.flatMap eN1) : List Ro)) => mOd (i := 7) (show r_ ∈ ((((([((B14, c14), r_6)] : List (Hd × (List TDyadic))).flatMap eN1) ++ ((D2.flatMap eN1) ++ ((D3.flatMap eN1) ++ [])))) : List Ro) from mAr _ (mAr _ (mAl _ h)))) (fun _ h => by cases h)))))))))) ?_ ?_
         ·skip
          refine ra_q 9 70 (v := .string (bstr (x2 ++ (List.drop (i2 : Int).toNat (List.take (i64.wrap ((i2 : Int) + 1)).toNat ([72, 83] : List UInt8)))))) rfl rfl rfl (by kernel_rfl) (by kernel_rfl) (by kernel_rfl) (ST.subR (hS61.se [2, 3]) (R' := (⟨B14, (r_6.flatMap eN0)⟩ :: ⟨B13, (x1.flatMap eN0)⟩ :: ⟨B12, (x.flatMap eN0)⟩ :: ⟨B5, (r_5.Cells.flatMap eN0)⟩ :: ⟨B4, (r_4.Cells.flatMap eN0)⟩ :: ⟨B2, (one_.flatMap eN0)⟩ :: ⟨(aD 0), [vi 1, vi 0, vi 0, vi 0, vi 2]⟩ :: ((D3.flatMap eN1) ++ []))) (subc (mem_at (i := 0) rfl) (subc (mem_at (i := 1) rfl) (subc (mem_at (i := 2) rfl) (subc (mem_at (i := 3) rfl) (subc (mem_at (i := 4) rfl) (subc (mem_at (i := 5) rfl) (subc (mem_at (i := 6) rfl) (suba (fun r_ (h : r_ ∈ ((D3.flatMap eN1) : List Ro)) => mOd (i := 7) (show r_ ∈ ((((([((B14, c14), r_6)] : List (Hd × (List TDyadic))).flatMap eN1) ++ ((D2.flatMap eN1) ++ ((D3.flatMap eN1) ++ [])))) : List Ro) from mAr _ (mAr _ (mAl _ h)))) (fun _ h => by cases h)))))))))) (fun w' hw' => (Y_sadd (a := x2) (b := (List.drop (i2 : Int).toNat (List.take (i64.wrap ((i2 : Int) + 1)).toNat ([72, 83] : List UInt8)))) rfl rfl rfl hsa)) ?_
          refine rA [10] ?_
          refine ra_s 71 (i := 10) rfl rfl rfl (Ys_bslice (s := 1) (len := 1) (vs := [(0, .string (bstr (x2 ++ (List.drop (i2 : Int).toNat (List.take (i64.wrap ((i2 : Int) + 1)).toNat ([72, 83] : List UInt8))))))]) (cs := [.string (bstr (x2 ++ (List.drop (i2 : Int).toNat (List.take (i64.wrap ((i2 : Int) + 1)).toNat ([72, 83] : List UInt8)))))]) (zs := [.string (bstr ([] : List UInt8))]) (m := 1) hS61 k_sl_57_9 k_sz_9_1 k_zc_9 rfl (mpc rfl mpn) rfl rfl rfl (by kernel_rfl) (by kernel_rfl) rfl) ?_ ?_
          ·rintro _ w_30 ⟨b6, rfl, hS62⟩
           refine ⟨(ST.subR (hS62.se [2, 3]) (R' := (⟨B14, (r_6.flatMap eN0)⟩ :: ⟨B13, (x1.flatMap eN0)⟩ :: ⟨B12, (x.flatMap eN0)⟩ :: ⟨B5, (r_5.Cells.flatMap eN0)⟩ :: ⟨B4, (r_4.Cells.flatMap eN0)⟩ :: ⟨B2, (one_.flatMap eN0)⟩ :: ⟨(aD 0), [vi 1, vi 0, vi 0, vi 0, vi 2]⟩ :: ((D3.flatMap eN1) ++ []))) (subc (mem_at (i := 0) rfl) (subc (mem_at (i := 1) rfl) (subc (mem_at (i := 2) rfl) (subc (mem_at (i := 3) rfl) (subc (mem_at (i := 4) rfl) (subc (mem_at (i := 5) rfl) (subc (mem_at (i := 6) rfl) (suba (fun r_ (h : r_ ∈ ((D3.flatMap eN1) : List Ro)) => mOd (i := 7) (show r_ ∈ ((((([((B14, c14), r_6)] : List (Hd × (List TDyadic))).flatMap eN1) ++ ((D2.flatMap eN1) ++ ((D3.flatMap eN1) ++ [])))) : List Ro) from mAr _ (mAr _ (mAl _ h)))) (fun _ h => by cases h)))))))))), ?_⟩
           refine rA [11] ?_
           refine ra_s 72 (i := 11) rfl rfl rfl (Ys_append (s := 1) (by' := 16) (i := 0) (nn := words1.length) (c := c8) (k := 1) (len := (words1 ++ [(x2 ++ (List.drop (i2 : Int).toNat (List.take (i64.wrap ((i2 : Int) + 1)).toNat ([72, 83] : List UInt8))))]).length) (B := B8) (xs := ([(x2 ++ (List.drop (i2 : Int).toNat (List.take (i64.wrap ((i2 : Int) + 1)).toNat ([72, 83] : List UInt8))))].flatMap encS)) (cs' := ((words1 ++ [(x2 ++ (List.drop (i2 : Int).toNat (List.take (i64.wrap ((i2 : Int) + 1)).toNat ([72, 83] : List UInt8))))]).flatMap encS)) hS62 k_sl_57_9 k_sz_9_1 k_by_9_16 k_zero_9 rfl (by decide) rfl rfl rfl rfl (fm_lenn (l := words1) encS_len rfl) rfl (hS62.cf (i := 5) rfl) (fm_lenn (l := [(x2 ++ (List.drop (i2 : Int).toNat (List.take (i64.wrap ((i2 : Int) + 1)).toNat ([72, 83] : List UInt8))))]) encS_len rfl) (fm_one' (enc := encS) encS_one [(x2 ++ (List.drop (i2 : Int).toNat (List.take (i64.wrap ((i2 : Int) + 1)).toNat ([72, 83] : List UInt8))))]) (by have := hap1; omega) (by have := hap1; simp only [maxLen]; omega) (fm_app _ _) (app_len (l := words1) (l' := [(x2 ++ (List.drop (i2 : Int).toNat (List.take (i64.wrap ((i2 : Int) + 1)).toNat ([72, 83] : List UInt8))))]) rfl rfl)) ?_ ?_
           ·rintro _ w_31 ⟨B15, c15, rfl, hS63⟩
            refine ⟨(ST.subR (hS63.se [2, 3]) (R' := (⟨B14, (r_6.flatMap eN0)⟩ :: ⟨B13, (x1.flatMap eN0)⟩ :: ⟨B12, (x.flatMap eN0)⟩ :: ⟨B5, (r_5.Cells.flatMap eN0)⟩ :: ⟨B4, (r_4.Cells.flatMap eN0)⟩ :: ⟨B2, (one_.flatMap eN0)⟩ :: ⟨(aD 0), [vi 1, vi 0, vi 0, vi 0, vi 2]⟩ :: ((D3.flatMap eN1) ++ []))) (subc (mem_at (i := 0) rfl) (subc (mem_at (i := 1) rfl) (subc (mem_at (i := 2) rfl) (subc (mem_at (i := 3) rfl) (subc (mem_at (i := 4) rfl) (subc (mem_at (i := 5) rfl) (subc (mem_at (i := 6) rfl) (suba (fun r_ (h : r_ ∈ ((D3.flatMap eN1) : List Ro)) => mOd (i := 7) (show r_ ∈ ((((([((B14, c14), r_6)] : List (Hd × (List TDyadic))).flatMap eN1) ++ ((D2.flatMap eN1) ++ ((D3.flatMap eN1) ++ [])))) : List Ro) from mAr _ (mAr _ (mAl _ h)))) (fun _ h => by cases h)))))))))), ?_⟩
            refine rA [15] ?_
            refine ra_s 76 (i := 15) rfl rfl rfl (Ys_append (s := 1) (by' := 24) (i := 1) (nn := list1.length) (c := c9) (k := 1) (len := (list1 ++ ([r_6] : List (List TDyadic))).length) (B := B9) (xs := (([((B14, c14), r_6)] : List (Hd × (List TDyadic))).flatMap eN3)) (cs' := ((D2 ++ ([((B14, c14), r_6)] : List (Hd × (List TDyadic)))).flatMap eN3)) hS63 k_sl_58_28 k_sz_28_1 k_by_28_24 k_zero_28 rfl (by decide) rfl rfl rfl rfl (fm_lenn (l := D2) encD_SDyadic_len (dl_len hD2)) rfl (hS63.cf (i := 4) rfl) (fm_lenn (l := ([((B14, c14), r_6)] : List (Hd × (List TDyadic)))) encD_SDyadic_len rfl) (fm_one' (enc := eN3) encD_SDyadic_one ([((B14, c14), r_6)] : List (Hd × (List TDyadic)))) (by have := hap2; omega) (by have := hap2; simp only [maxLen]; omega) (fm_app _ _) (dl_sum (dl_len hD2) rfl (dl_app hD2 (show List.map Prod.snd ([((B14, c14), r_6)] : List (Hd × (List TDyadic))) = ([r_6] : List (List TDyadic)) from rfl)))) ?_ ?_
            ·rintro _ w_32 ⟨B16, c16, rfl, hS64⟩
             have ho26 : Org w0 [] [⟨(aD 0), [vi 1, vi 0, vi 0, vi 0, vi 2]⟩] ((D2 ++ ([((B14, c14), r_6)] : List (Hd × (List TDyadic)))).flatMap eN1) := (forg_app ho8 ho25)
             have hS65 : ST w0 [] _ [⟨B15, 9, ((words1 ++ [(x2 ++ (List.drop (i2 : Int).toNat (List.take (i64.wrap ((i2 : Int) + 1)).toNat ([72, 83] : List UInt8))))]).flatMap encS), c15 * 1⟩, ⟨B16, 28, ((D2 ++ ([((B14, c14), r_6)] : List (Hd × (List TDyadic)))).flatMap eN3), c16 * 1⟩, ⟨aD b4, 28, (D3.flatMap eN3), 2 * 1⟩, ⟨aD b5, 28, [.slice B14 r_6.length c14], 1⟩, ⟨aD b7, 28, (([((B14, c14), r_6)] : List (Hd × (List TDyadic))).flatMap eN3), 1 * 1⟩, ⟨aD b6, 9, ([(x2 ++ (List.drop (i2 : Int).toNat (List.take (i64.wrap ((i2 : Int) + 1)).toNat ([72, 83] : List UInt8))))].flatMap encS), 1 * 1⟩] (⟨B14, (r_6.flatMap eN0)⟩ :: ⟨B13, (x1.flatMap eN0)⟩ :: ⟨B12, (x.flatMap eN0)⟩ :: ⟨B5, (r_5.Cells.flatMap eN0)⟩ :: ⟨B4, (r_4.Cells.flatMap eN0)⟩ :: ⟨B2, (one_.flatMap eN0)⟩ :: ⟨(aD 0), [vi 1, vi 0, vi 0, vi 0, vi 2]⟩ :: (((D2 ++ ([((B14, c14), r_6)] : List (Hd × (List TDyadic)))).flatMap eN1) ++ ((([((B14, c14), r_6)] : List (Hd × (List TDyadic))).flatMap eN1) ++ ((D3.flatMap eN1) ++ [])))) := ST.subR hS64 (subc (mem_at (i := 0) rfl) (subc (mem_at (i := 1) rfl) (subc (mem_at (i := 2) rfl) (subc (mem_at (i := 3) rfl) (subc (mem_at (i := 4) rfl) (subc (mem_at (i := 5) rfl) (subc (mem_at (i := 6) rfl) (suba (fsub_app (fun r_ (h : r_ ∈ ((D2.flatMap eN1) : List Ro)) => mOd (i := 7) (show r_ ∈ ((((([((B14, c14), r_6)] : List (Hd × (List TDyadic))).flatMap eN1) ++ ((D2.flatMap eN1) ++ ((D3.flatMap eN1) ++ [])))) : List Ro) from mAr _ (mAl _ h))) (fun r_ (h : r_ ∈ ((([((B14, c14), r_6)] : List (Hd × (List TDyadic))).flatMap eN1) : List Ro)) => mOd (i := 7) (show r_ ∈ ((((([((B14, c14), r_6)] : List (Hd × (List TDyadic))).flatMap eN1) ++ ((D2.flatMap eN1) ++ ((D3.flatMap eN1) ++ [])))) : List Ro) from mAl _ h))) (suba (fun r_ (h : r_ ∈ ((([((B14, c14), r_6)] : List (Hd × (List TDyadic))).flatMap eN1) : List Ro)) => mOd (i := 7) (show r_ ∈ ((((([((B14, c14), r_6)] : List (Hd × (List TDyadic))).flatMap eN1) ++ ((D2.flatMap eN1) ++ ((D3.flatMap eN1) ++ [])))) : List Ro) from mAl _ h)) (suba (fun r_ (h : r_ ∈ ((D3.flatMap eN1) : List Ro)) => mOd (i := 7) (show r_ ∈ ((((([((B14, c14), r_6)] : List (Hd × (List TDyadic))).flatMap eN1) ++ ((D2.flatMap eN1) ++ ((D3.flatMap eN1) ++ [])))) : List Ro) from mAr _ (mAr _ (mAl _ h)))) (fun _ h => by cases h)))))))))))
             refine ⟨(ST.subR (hS65.se [2, 3]) (R' := (⟨B14, (r_6.flatMap eN0)⟩ :: ⟨B13, (x1.flatMap eN0)⟩ :: ⟨B12, (x.flatMap eN0)⟩ :: ⟨B5, (r_5.Cells.flatMap eN0)⟩ :: ⟨B4, (r_4.Cells.flatMap eN0)⟩ :: ⟨B2, (one_.flatMap eN0)⟩ :: ⟨(aD 0), [vi 1, vi 0, vi 0, vi 0, vi 2]⟩ :: ((D3.flatMap eN1) ++ []))) (subc (mem_at (i := 0) rfl) (subc (mem_at (i := 1) rfl) (subc (mem_at (i := 2) rfl) (subc (mem_at (i := 3) rfl) (subc (mem_at (i := 4) rfl) (subc (mem_at (i := 5) rfl) (subc (mem_at (i := 6) rfl) (suba (fun r_ (h : r_ ∈ ((D3.flatMap eN1) : List Ro)) => mOd (i := 7) (show r_ ∈ (((((D2 ++ ([((B14, c14), r_6)] : List (Hd × (List TDyadic)))).flatMap eN1) ++ ((([((B14, c14), r_6)] : List (Hd × (List TDyadic))).flatMap eN1) ++ ((D3.flatMap eN1) ++ [])))) : List Ro) from mAr _ (mAr _ (mAl _ h)))) (fun _ h => by cases h)))))))))), ?_⟩
             refine ra_q 16 4 (v := .slice B15 ((words1 ++ [(x2 ++ (List.drop (i2 : Int).toNat (List.take (i64.wrap ((i2 : Int) + 1)).toNat ([72, 83] : List UInt8))))]).length) c15) rfl rfl rfl (by kernel_rfl) (by kernel_rfl) (by kernel_rfl) (ST.subR (hS65.se [2, 3]) (R' := (⟨B14, (r_6.flatMap eN0)⟩ :: ⟨B13, (x1.flatMap eN0)⟩ :: ⟨B12, (x.flatMap eN0)⟩ :: ⟨B5, (r_5.Cells.flatMap eN0)⟩ :: ⟨B4, (r_4.Cells.flatMap eN0)⟩ :: ⟨B2, (one_.flatMap eN0)⟩ :: ⟨(aD 0), [vi 1, vi 0, vi 0, vi 0, vi 2]⟩ :: ((D3.flatMap eN1) ++ []))) (subc (mem_at (i := 0) rfl) (subc (mem_at (i := 1) rfl) (subc (mem_at (i := 2) rfl) (subc (mem_at (i := 3) rfl) (subc (mem_at (i := 4) rfl) (subc (mem_at (i := 5) rfl) (subc (mem_at (i := 6) rfl) (suba (fun r_ (h : r_ ∈ ((D3.flatMap eN1) : List Ro)) => mOd (i := 7) (show r_ ∈ (((((D2 ++ ([((B14, c14), r_6)] : List (Hd × (List TDyadic)))).flatMap eN1) ++ ((([((B14, c14), r_6)] : List (Hd × (List TDyadic))).flatMap eN1) ++ ((D3.flatMap eN1) ++ [])))) : List Ro) from mAr _ (mAr _ (mAl _ h)))) (fun _ h => by cases h)))))))))) (fun w' hw' => (Y_assign (v := .slice B15 ((words1 ++ [(x2 ++ (List.drop (i2 : Int).toNat (List.take (i64.wrap ((i2 : Int) + 1)).toNat ([72, 83] : List UInt8))))]).length) c15) rfl rfl)) ?_
             refine rq 17 5 (v := .slice B16 ((list1 ++ ([r_6] : List (List TDyadic))).length) c16) rfl (ST.subR (hS65.se [2, 3]) (R' := (⟨B14, (r_6.flatMap eN0)⟩ :: ⟨B13, (x1.flatMap eN0)⟩ :: ⟨B12, (x.flatMap eN0)⟩ :: ⟨B5, (r_5.Cells.flatMap eN0)⟩ :: ⟨B4, (r_4.Cells.flatMap eN0)⟩ :: ⟨B2, (one_.flatMap eN0)⟩ :: ⟨(aD 0), [vi 1, vi 0, vi 0, vi 0, vi 2]⟩ :: ((D3.flatMap eN1) ++ []))) (subc (mem_at (i := 0) rfl) (subc (mem_at (i := 1) rfl) (subc (mem_at (i := 2) rfl) (subc (mem_at (i := 3) rfl) (subc (mem_at (i := 4) rfl) (subc (mem_at (i := 5) rfl) (subc (mem_at (i := 6) rfl) (suba (fun r_ (h : r_ ∈ ((D3.flatMap eN1) : List Ro)) => mOd (i := 7) (show r_ ∈ (((((D2 ++ ([((B14, c14), r_6)] : List (Hd × (List TDyadic)))).flatMap eN1) ++ ((([((B14, c14), r_6)] : List (Hd × (List TDyadic))).flatMap eN1) ++ ((D3.flatMap eN1) ++ [])))) : List Ro) from mAr _ (mAr _ (mAl _ h)))) (fun _ h => by cases h)))))))))) (fun w' hw' => (Y_assign (v := .slice B16 ((list1 ++ ([r_6] : List (List TDyadic))).length) c16) rfl rfl)) ?_
             refine ra_done (by kernel_rfl) ?_
             have hS66 : ST w0 [] _ [⟨B15, 9, ((words1 ++ [(x2 ++ (List.drop (i2 : Int).toNat (List.take (i64.wrap ((i2 : Int) + 1)).toNat ([72, 83] : List UInt8))))]).flatMap encS), c15 * 1⟩, ⟨B16, 28, ((D2 ++ ([((B14, c14), r_6)] : List (Hd × (List TDyadic)))).flatMap eN3), c16 * 1⟩, ⟨aD b4, 28, (D3.flatMap eN3), 2 * 1⟩, ⟨aD b5, 28, [.slice B14 r_6.length c14], 1⟩, ⟨aD b7, 28, (([((B14, c14), r_6)] : List (Hd × (List TDyadic))).flatMap eN3), 1 * 1⟩, ⟨aD b6, 9, ([(x2 ++ (List.drop (i2 : Int).toNat (List.take (i64.wrap ((i2 : Int) + 1)).toNat ([72, 83] : List UInt8))))].flatMap encS), 1 * 1⟩] (⟨B14, (r_6.flatMap eN0)⟩ :: ⟨B13, (x1.flatMap eN0)⟩ :: ⟨B12, (x.flatMap eN0)⟩ :: ⟨B5, (r_5.Cells.flatMap eN0)⟩ :: ⟨B4, (r_4.Cells.flatMap eN0)⟩ :: ⟨B2, (one_.flatMap eN0)⟩ :: ⟨(aD 0), [vi 1, vi 0, vi 0, vi 0, vi 2]⟩ :: (((D2 ++ ([((B14, c14), r_6)] : List (Hd × (List TDyadic)))).flatMap eN1) ++ ((D3.flatMap eN1) ++ []))) := ST.subR hS65 (subc (mem_at (i := 0) rfl) (subc (mem_at (i := 1) rfl) (subc (mem_at (i := 2) rfl) (subc (mem_at (i := 3) rfl) (subc (mem_at (i := 4) rfl) (subc (mem_at (i := 5) rfl) (subc (mem_at (i := 6) rfl) (suba (fun r_ (h : r_ ∈ (((D2 ++ ([((B14, c14), r_6)] : List (Hd × (List TDyadic)))).flatMap eN1) : List Ro)) => mOd (i := 7) (show r_ ∈ (((((D2 ++ ([((B14, c14), r_6)] : List (Hd × (List TDyadic)))).flatMap eN1) ++ ((([((B14, c14), r_6)] : List (Hd × (List TDyadic))).flatMap eN1) ++ ((D3.flatMap eN1) ++ [])))) : List Ro) from mAl _ h)) (suba (fun r_ (h : r_ ∈ ((D3.flatMap eN1) : List Ro)) => mOd (i := 7) (show r_ ∈ (((((D2 ++ ([((B14, c14), r_6)] : List (Hd × (List TDyadic)))).flatMap eN1) ++ ((([((B14, c14), r_6)] : List (Hd × (List TDyadic))).flatMap eN1) ++ ((D3.flatMap eN1) ++ [])))) : List Ro) from mAr _ (mAr _ (mAl _ h)))) (fun _ h => by cases h))))))))))
             exact ⟨B15, c15, B16, c16, (D2 ++ ([((B14, c14), r_6)] : List (Hd × (List TDyadic)))), (FF.cons rfl (FF.cons rfl (FF.cons (hf2.get 6 2 rfl) (FF.cons (hf2.get 7 3 rfl) (FF.cons (hf2.get 8 4 rfl) (FF.cons (hf2.get 41 5 rfl) (FF.cons (hf2.get 42 6 rfl) (FF.cons (hf2.get 43 7 rfl) FF.nil)))))))), (dl_app hD2 (show List.map Prod.snd ([((B14, c14), r_6)] : List (Hd × (List TDyadic))) = ([r_6] : List (List TDyadic)) from rfl)), ho26, (hS66.sel [0, 1, 2] rfl rfl)⟩
            exact allR_nil
           exact allR_nil
          exact allR_nil
         exact allR_nil
        exact allR_nil
       exact allR_nil
      rintro f w ⟨B17, c17, B18, c18, D6, hf4, hD6, ho16, hS31⟩
      have hS67 : ST w0 [] _ [⟨B17, 9, ((words1 ++ [(x2 ++ (List.drop (i2 : Int).toNat (List.take (i64.wrap ((i2 : Int) + 1)).toNat ([72, 83] : List UInt8))))]).flatMap encS), c17 * 1⟩, ⟨B18, 28, (D6.flatMap eN3), c18 * 1⟩, ⟨aD b4, 28, (D3.flatMap eN3), 2 * 1⟩] (⟨B5, (r_5.Cells.flatMap eN0)⟩ :: ⟨B4, (r_4.Cells.flatMap eN0)⟩ :: ⟨B2, (one_.flatMap eN0)⟩ :: ⟨(aD 0), [vi 1, vi 0, vi 0, vi 0, vi 2]⟩ :: ((D6.flatMap eN1) ++ ((D3.flatMap eN1) ++ []))) := ST.subR hS31 (subc (mem_at (i := 3) rfl) (subc (mem_at (i := 4) rfl) (subc (mem_at (i := 5) rfl) (subc (mem_at (i := 6) rfl) (suba (fun r_ (h : r_ ∈ ((D6.flatMap eN1) : List Ro)) => mOd (i := 7) (show r_ ∈ ((((D6.flatMap eN1) ++ ((D3.flatMap eN1) ++ []))) : List Ro) from mAl _ h)) (suba (fun r_ (h : r_ ∈ ((D3.flatMap eN1) : List Ro)) => mOd (i := 7) (show r_ ∈ ((((D6.flatMap eN1) ++ ((D3.flatMap eN1) ++ []))) : List Ro) from mAr _ (mAl _ h))) (fun _ h => by cases h)))))))
      exact ⟨(words1 ++ [(x2 ++ (List.drop (i2 : Int).toNat (List.take (i64.wrap ((i2 : Int) + 1)).toNat ([72, 83] : List UInt8))))]), (list1 ++ ([r_6] : List (List TDyadic))), B17, c17, B18, c18, D6, D3, (some_inj hF6), (FF.cons (hf4.get 4 0 rfl) (FF.cons (hf4.get 5 1 rfl) (FF.cons (hf4.get 6 2 rfl) (FF.cons (hf4.get 7 3 rfl) (FF.cons (hf4.get 8 4 rfl) (FF.cons (hf4.get 41 5 rfl) (FF.cons (hf4.get 42 6 rfl) (FF.cons (hf4.get 43 7 rfl) FF.nil)))))))), hD6, ho16, hD3, ho9, (hS67.sel [0, 1, 2] rfl rfl)⟩
     ·skip
      have hF7 := cf' hz3 hb4
      refine cw_skip ?_
      have hS68 : ST w0 [] _ [⟨B8, 9, (words1.flatMap encS), c8 * 1⟩, ⟨B9, 28, (D2.flatMap eN3), c9 * 1⟩, ⟨aD b4, 28, (D3.flatMap eN3), 2 * 1⟩, ⟨B14, 65, (r_6.flatMap eN0), c14 * 5⟩, ⟨aD b5, 28, [.slice B14 r_6.length c14], 1⟩] (⟨B5, (r_5.Cells.flatMap eN0)⟩ :: ⟨B4, (r_4.Cells.flatMap eN0)⟩ :: ⟨B2, (one_.flatMap eN0)⟩ :: ⟨(aD 0), [vi 1, vi 0, vi 0, vi 0, vi 2]⟩ :: ((D2.flatMap eN1) ++ ((D3.flatMap eN1) ++ []))) := ST.subR hS26 (subc (mem_at (i := 2) rfl) (subc (mem_at (i := 3) rfl) (subc (mem_at (i := 4) rfl) (subc (mem_at (i := 5) rfl) (suba (fun r_ (h : r_ ∈ ((D2.flatMap eN1) : List Ro)) => mOd (i := 6) (show r_ ∈ ((((D2.flatMap eN1) ++ ((D3.flatMap eN1) ++ []))) : List Ro) from mAl _ h)) (suba (fun r_ (h : r_ ∈ ((D3.flatMap eN1) : List Ro)) => mOd (i := 6) (show r_ ∈ ((((D2.flatMap eN1) ++ ((D3.flatMap eN1) ++ []))) : List Ro) from mAr _ (mAl _ h))) (fun _ h => by cases h)))))))
      exact ⟨words1, list1, B8, c8, B9, c9, D2, D3, (some_inj hF7), (FF.cons (hf2.get 4 0 rfl) (FF.cons (hf2.get 5 1 rfl) (FF.cons (hf2.get 6 2 rfl) (FF.cons (hf2.get 7 3 rfl) (FF.cons (hf2.get 8 4 rfl) (FF.cons (hf2.get 41 5 rfl) (FF.cons (hf2.get 42 6 rfl) (FF.cons (hf2.get 43 7 rfl) FF.nil)))))))), hD2, ho8, hD3, ho9, (hS68.sel [0, 1, 2] rfl rfl)⟩
    rintro f w ⟨words2, list2, B10, c10, B11, c11, D4, D5, rfl, hf3, hD4, ho10, hD5, ho11, hS20⟩
    refine cw_region ?_
    refine sQ 77 (Y_add (k := .i64) (a := (i2 : Int)) (b := 1) rfl (hf3.get 43 7 rfl) rfl) ?_
    refine sQ 43 (Y_move (v := vi (i64.wrap ((i2 : Int) + 1))) rfl rfl) (rw_nil ?_)
    obtain rfl := some_inj hF5
    exact ⟨k_5, Nat.lt_succ_self _, i2 + 1, words2, list2, B10, c10, B11, c11, D4, D5, (FF.cons (hf3.get 4 0 rfl) (FF.cons (hf3.get 5 1 rfl) (FF.cons (hf3.get 6 2 rfl) (FF.cons (hf3.get 7 3 rfl) (FF.cons (hf3.get 8 4 rfl) (FF.cons (hf3.get 41 5 rfl) (FF.cons (hf3.get 42 6 rfl) (FF.cons (congrArg (Value.int .i64) (wr_succ hlt3 (show 2 ≤ 9223372036854775807 by decide))) FF.nil)))))))), hD4, ho10, hD5, ho11, (hS20.sel [0, 1, 2] rfl rfl), (by omega), hL5⟩
   ·skip
    obtain rfl : k_4 = 0 := by have h := of_decide_eq_false hlt2; omega
    refine cw_exit rfl ?_
    obtain rfl := some_inj hL4
    refine cw_region ?_
    refine sQ 37 (Y_move (v := vi at_1) rfl (hf2.get 8 4 rfl)) ?_
    refine sQ 38 (Y_add (k := .i64) (a := at_1) (b := 1) rfl rfl rfl) ?_
    refine sQ 8 (Y_assign (v := vi (i64.wrap (at_1 + 1))) rfl rfl) (rw_nil ?_)
    obtain rfl := some_inj hF4
    have hS69 : ST w0 [] _ [⟨B8, 9, (words1.flatMap encS), c8 * 1⟩, ⟨B9, 28, (D2.flatMap eN3), c9 * 1⟩, ⟨aD b4, 28, (D3.flatMap eN3), 2 * 1⟩] (⟨B5, (r_5.Cells.flatMap eN0)⟩ :: ⟨B4, (r_4.Cells.flatMap eN0)⟩ :: ⟨B2, (one_.flatMap eN0)⟩ :: ⟨(aD 0), [vi 1, vi 0, vi 0, vi 0, vi 2]⟩ :: ((D2.flatMap eN1) ++ [])) := ST.subR hS18 (subc (mem_at (i := 0) rfl) (subc (mem_at (i := 1) rfl) (subc (mem_at (i := 2) rfl) (subc (mem_at (i := 3) rfl) (suba (fun r_ (h : r_ ∈ ((D2.flatMap eN1) : List Ro)) => mOd (i := 4) (show r_ ∈ ((((D2.flatMap eN1) ++ ((D3.flatMap eN1) ++ []))) : List Ro) from mAl _ h)) (fun _ h => by cases h))))))
    exact ⟨k_3, Nat.lt_succ_self _, words1, list1, (i64.wrap (at_1 + 1)), B8, c8, B9, c9, D2, (FF.cons (hf2.get 4 0 rfl) (FF.cons (hf2.get 5 1 rfl) (FF.cons (hf2.get 6 2 rfl) (FF.cons (hf2.get 7 3 rfl) (FF.cons rfl FF.nil))))), hD2, ho8, ho3, (len_le rfl hq), ho4, (len_le rfl hq1), (hS69.sel [0, 1] rfl rfl), hL3⟩
  ·skip
   have hF8 := cf' hb1 hb2
   refine cw_exit rfl ?_
   obtain rfl := some_inj hF8
   obtain rfl := some_inj hL3
   refine cw_seq (cw_region ?_)
   refine sQ 78 (Y_move (v := .slice B6 words.length c6) rfl (hf1.get 4 0 rfl)) ?_
   refine sQ 79 (Y_move (v := .slice B7 list.length c7) rfl (hf1.get 5 1 rfl)) ?_
   refine sQ 0 (Y_assign (v := .slice B6 words.length c6) rfl rfl) ?_
   refine sQ 1 (Y_assign (v := .slice B7 list.length c7) rfl rfl) (rw_nil (cw_ret ?_))
   obtain ⟨rfl, rfl⟩ := pr2 (some_inj hF2)
   exact ret2 Tryz.results28 (v1 := .slice B6 words.length c6) (resAt_tmp rfl) (v2 := .slice B7 list.length c7) (resAt_tmp rfl) ⟨B6, c6, B7, c7, D1, rfl, hD1, (org_app ho2 org_nil), (ST.subR (R' := (((D1.flatMap eN1) ++ []))) (hS13.sel [0, 1] rfl rfl) (suba (fun r_ (h : r_ ∈ ((D1.flatMap eN1) : List Ro)) => mOd (i := 4) (show r_ ∈ ((((D1.flatMap eN1) ++ [])) : List Ro) from mAl _ h)) (fun _ h => by cases h)))⟩

theorem c_impl_CliffordIndex (b : TBloch) (B : Option Addr) (c n : Nat) (w0 : World) (hn : b.Cells.length = n) (hS : ST w0 [] w0 [] [⟨B, (b.Cells.flatMap eN0)⟩, ⟨(aD 0), [vi 1, vi 0, vi 0, vi 0, vi 2]⟩]) {r_ : Int} {r_1 : Bool} (hF : F_impl_CliffordIndex b = some (r_, r_1)) :
  CV Tryz.prog 9 #[.agg #[.slice B n c]] w0 (fun v w' => v = .tuple #[vi r_, .bool r_1] ∧ ST w0 [] w' [] []) := by
 subst hn
 unfold F_impl_CliffordIndex at hF
 refine cv_of_cw 28 Tryz.func9 rfl Tryz.ntmps9 rfl ?_
 refine cw_seq (cw_region ?_)
 refine sS 1 (Ys_box (T := 30) (v := gB_ b B c) (cs := kB_ b B c) (m := 1) hS rfl rfl rfl rfl) ?_
 rintro _ w_ ⟨b1, rfl, hS1⟩
 refine sQ 2 (Y_assign (v := vi 0) rfl rfl) ?_
 refine sQ 3 (Y_assign (v := .bool false) rfl rfl) (rw_nil (cw_seq (cw_seq (cw_region ?_))))
 refine sQ 8 (Y_loadA (B := aD b1) (i := 0) (cs := kB_ b B c) (vs := kB_ b B c) k_ag_30 k_sz_30_1 rfl rfl (hS1.cf (i := 0) rfl) rfl rfl) ?_
 obtain ⟨r_2, hc, hF⟩ := bind_inv hF
 refine sc 9 rfl rfl (Yc_func (g := 27) (vs := [gB_ b B c]) k_call_27 rfl (mc rfl mn) (c_impl_IsValidBloch b B c b.Cells.length _ rfl (hS1.inn0 [(true, 0)] rfl) hc)) ?_
 rintro _ w_1 ⟨rfl, hd⟩
 have hS2 := hS1.out00 hd
 refine sQ 10 (Y_not (p := r_2) rfl rfl) (rw_nil ?_)
 refine cw_cond (b := (!r_2)) rfl (fun hb => ?_) (fun hb => ?_)
 ·skip
  have hF1 := ct hF hb
  refine cw_seq (cw_region ?_)
  refine sQ 2 (Y_assign (v := vi 0) rfl rfl) ?_
  refine sQ 3 (Y_assign (v := .bool false) rfl rfl) (rw_nil (cw_ret ?_))
  obtain ⟨rfl, rfl⟩ := pr2 (some_inj hF1)
  exact ret2 Tryz.results9 (v1 := vi 0) (resAt_tmp rfl) (v2 := .bool false) (resAt_tmp rfl) ⟨rfl, (hS2.sN [])⟩
 ·skip
  have hF2 := cf' hF hb
  refine cw_skip (cw_seq (cw_region ?_))
  obtain ⟨⟨r_3, r_4⟩, hc1, hF2⟩ := bind_inv hF2
  refine sc 12 rfl rfl (Yc_func (g := 28) (vs := []) k_call_28 rfl mn (c_impl_cliffordList  _  (hS2.inn0 [(true, 1)] rfl) hc1)) ?_
  rintro _ w_2 ⟨B1, c1, B2, c2, D, rfl, hD, ho, hd1⟩
  have hS3 := ST.outR0 hS2 hd1 ho (subc (mem_at (i := 1) rfl) (fun _ h => by cases h))
  have ho1 : Org w0 [] [⟨B, (b.Cells.flatMap eN0)⟩, ⟨(aD 0), [vi 1, vi 0, vi 0, vi 0, vi 2]⟩] (((D.flatMap eN1) ++ [])) := org_trans0 hS2 ho (org_cons (org_mem (i := 1) rfl) org_nil)
  have hS4 : ST w0 [] _ [⟨aD b1, 30, kB_ b B c, 1⟩, ⟨B1, 9, (r_3.flatMap encS), c1 * 1⟩, ⟨B2, 28, (D.flatMap eN3), c2 * 1⟩] (⟨B, (b.Cells.flatMap eN0)⟩ :: ⟨(aD 0), [vi 1, vi 0, vi 0, vi 0, vi 2]⟩ :: ((D.flatMap eN1) ++ [])) := ST.subR hS3 (subc (mAr _ (mem_at (i := 0) rfl)) (subc (mAr _ (mem_at (i := 1) rfl)) (suba (fun r h => mAl _ (app_mem (fun _ h => mOd (i := 0) (mAl _ h)) h)) (fun _ h => by cases h))))
  refine sQ 11 (Y_move (v := .tuple #[.slice B1 r_3.length c1, .slice B2 r_4.length c2]) rfl rfl) ?_
  refine sQ 13 (Y_extract (v := .slice B1 r_3.length c1) rfl rfl rfl) ?_
  refine sQ 14 (Y_extract (v := .slice B2 r_4.length c2) rfl rfl rfl) ?_
  refine sQ 4 (Y_assign (v := .slice B1 r_3.length c1) rfl rfl) ?_
  refine sQ 5 (Y_assign (v := .slice B2 r_4.length c2) rfl rfl) (rw_nil (cw_seq (cw_seq (cw_region ?_))))
  refine sQ 15 (Y_move (v := .slice B2 r_4.length c2) rfl rfl) ?_
  refine sQ 16 (Y_len (B := B2) (m := r_4.length) (c := c2) k_sl_58_28 rfl rfl) ?_
  refine sQ 17 (Y_move (v := vi 0) rfl rfl) (rw_nil ?_)
  obtain ⟨hN, hF2⟩ := chk_inv hF2
  obtain ⟨z, hz, hF3⟩ := bind_inv hF2
  refine cw_block ?_
  refine cw_loop (fun k f w => ∃ (i : Nat) (D1 : List (Hd × (List TDyadic))), FF f [(1, pt (aD b1) 0), (15, .slice B2 r_4.length c2), (16, vi (r_4.length : Int)), (17, vi (i : Int))] ∧ D1.map Prod.snd = r_4 ∧ Org w0 [] [⟨B, (b.Cells.flatMap eN0)⟩, ⟨(aD 0), [vi 1, vi 0, vi 0, vi 0, vi 2]⟩] (D1.flatMap eN1) ∧ ST w0 [] w [⟨aD b1, 30, kB_ b B c, 1⟩, ⟨B2, 28, (D1.flatMap eN3), c2 * 1⟩] (⟨B, (b.Cells.flatMap eN0)⟩ :: ⟨(aD 0), [vi 1, vi 0, vi 0, vi 0, vi 2]⟩ :: ((D1.flatMap eN1) ++ [])) ∧ i + k = r_4.length ∧ forX (F_impl_CliffordIndex_l1 r_4 b) k i () = some z) r_4.length ⟨0, D, (FF.cons rfl (FF.cons rfl (FF.cons rfl (FF.cons rfl FF.nil)))), hD, (org_sub ho1 (fun _ h => mOd (i := 0) (mAl _ h))), (hS4.sel [0, 2] rfl rfl), Nat.zero_add _, hz⟩ ?_
  rintro k_ f w ⟨i, D1, hf, hD1, ho2, hS5, hik, hL⟩
  refine cw_seq (cw_region ?_)
  refine sQ 18 (Y_lt (k := .i64) (a := (i : Int)) (b := (r_4.length : Int)) rfl (hf.get 17 3 rfl) (hf.get 16 2 rfl)) (rw_nil (cw_seq ?_))
  refine cw_cond (b := (decide ((i : Int) < (r_4.length : Int)))) rfl (fun hlt => ?_) (fun hlt => ?_)
  ·skip
   have hlt1 : i < r_4.length := by have h := of_decide_eq_true hlt; omega
   obtain ⟨k_1, rfl⟩ : ∃ k2, k_ = k2 + 1 := ⟨k_ - 1, by omega⟩
   obtain ⟨y, hb1, hL1⟩ := forX_go hL
   unfold F_impl_CliffordIndex_l1 at hb1
   refine cw_skip (cw_seq (cw_block (cw_seq (cw_region ?_))))
   refine sQ 19 (Y_move (v := vi (i : Int)) rfl (hf.get 17 3 rfl)) ?_
   obtain ⟨x, hx, hb1⟩ := bind_inv hb1
   obtain ⟨⟨B3, c3⟩, hp⟩ := getI_snd hD1 hx
   refine sQ 20 (Y_index (B := B2) (m := r_4.length) (c := c2) (k := .i64) (i := (i : Int)) k_sl_58_28 k_sz_28_1 rfl (hf.get 15 1 rfl) (hf.get 17 3 rfl) (gi_isSome encD_SDyadic_len rfl (hS5.cf (i := 1) rfl) hp) (getI_nn hp) (getI_ltI hp (dl_len hD1))) ?_
   have hm : (⟨B3, (x.flatMap eN0)⟩ : Ro) ∈ ((⟨B, (b.Cells.flatMap eN0)⟩ :: ⟨(aD 0), [vi 1, vi 0, vi 0, vi 0, vi 2]⟩ :: ((D1.flatMap eN1) ++ [])) : List Ro) := app_mem (fun r_ (h : r_ ∈ ((D1.flatMap eN1) : List Ro)) => mOd (i := 2) (show r_ ∈ ((((D1.flatMap eN1) ++ [])) : List Ro) from mAl _ h)) (row_mem (rw_ := eN1) hp _ (mem_at (i := 0) rfl))
   have hS6 : ST w0 [] _ [⟨aD b1, 30, kB_ b B c, 1⟩, ⟨B2, 28, (D1.flatMap eN3), c2 * 1⟩] (⟨B3, (x.flatMap eN0)⟩ :: ⟨B, (b.Cells.flatMap eN0)⟩ :: ⟨(aD 0), [vi 1, vi 0, vi 0, vi 0, vi 2]⟩ :: ((D1.flatMap eN1) ++ [])) := ST.subR hS5 (subc hm (fun _ h => h))
   refine sQ 21 (Y_load1 (B := B2) (i := (i : Int).toNat * 1) (cs := (D1.flatMap eN3)) (v := .slice B3 x.length c3) k_sc_28 rfl rfl (hS6.cf (i := 1) rfl) (gi_at0 encD_SDyadic_len hp rfl)) ?_
   refine sQ 6 (Y_assign (v := vi (i : Int)) rfl rfl) ?_
   refine sQ 7 (Y_assign (v := .slice B3 x.length c3) rfl rfl) (rw_nil (cw_seq (cw_region ?_)))
   refine sQ 22 (Y_move (v := .slice B3 x.length c3) rfl rfl) ?_
   refine sQ 23 (Y_fieldAddr (B := aD b1) (i := 0) (s := 0) k_fd_30_0_0_28 k_sz_28_1 rfl (hf.get 1 0 rfl)) ?_
   refine sQ 24 (Y_load1 (B := aD b1) (i := 0) (cs := kB_ b B c) (v := .slice B b.Cells.length c) k_sc_28 rfl rfl (hS6.cf (i := 0) rfl) rfl) ?_
   obtain ⟨r_5, hc2, hb1⟩ := bind_inv hb1
   refine sc 25 rfl rfl (Yc_func (g := 29) (vs := [.slice B3 x.length c3, .slice B b.Cells.length c]) k_call_29 rfl (mc rfl (mc rfl mn)) (c_slices_Equal_impl_Dyadic_impl_Dyadic x b.Cells B3 c3 x.length B c b.Cells.length _ rfl rfl (hS6.inn0 [(true, 0), (true, 1)] rfl) hc2)) ?_
   rintro _ w_3 ⟨rfl, hd2⟩
   have hS7 := hS6.out00 hd2
   refine rw_nil ?_
   refine cw_cond (b := r_5) rfl (fun hb2 => ?_) (fun hb2 => ?_)
   ·skip
    have hF4 := ct hb1 hb2
    refine cw_seq (cw_region ?_)
    refine sQ 26 (Y_move (v := vi (i : Int)) rfl rfl) ?_
    refine sQ 2 (Y_assign (v := vi (i : Int)) rfl rfl) ?_
    refine sQ 3 (Y_assign (v := .bool true) rfl rfl) (rw_nil (cw_ret ?_))
    obtain rfl := some_inj hF4
    obtain rfl := some_inj hL1
    obtain ⟨rfl, rfl⟩ := pr2 (some_inj hF3)
    exact ret2 Tryz.results9 (v1 := vi (i : Int)) (resAt_tmp rfl) (v2 := .bool true) (resAt_tmp rfl) ⟨rfl, (hS7.sN [])⟩
   ·skip
    have hF5 := cf' hb1 hb2
    refine cw_skip (cw_region ?_)
    refine sQ 27 (Y_add (k := .i64) (a := (i : Int)) (b := 1) rfl (hf.get 17 3 rfl) rfl) ?_
    refine sQ 17 (Y_move (v := vi (i64.wrap ((i : Int) + 1))) rfl rfl) (rw_nil ?_)
    obtain rfl := some_inj hF5
    have hS8 : ST w0 [] _ [⟨aD b1, 30, kB_ b B c, 1⟩, ⟨B2, 28, (D1.flatMap eN3), c2 * 1⟩] (⟨B, (b.Cells.flatMap eN0)⟩ :: ⟨(aD 0), [vi 1, vi 0, vi 0, vi 0, vi 2]⟩ :: ((D1.flatMap eN1) ++ [])) := ST.subR hS7 (subc (mem_at (i := 1) rfl) (subc (mem_at (i := 2) rfl) (suba (fun r_ (h : r_ ∈ ((D1.flatMap eN1) : List Ro)) => mOd (i := 3) (show r_ ∈ ((((D1.flatMap eN1) ++ [])) : List Ro) from mAl _ h)) (fun _ h => by cases h))))
    exact ⟨k_1, Nat.lt_succ_self _, i + 1, D1, (FF.cons (hf.get 1 0 rfl) (FF.cons (hf.get 15 1 rfl) (FF.cons (hf.get 16 2 rfl) (FF.cons (congrArg (Value.int .i64) (wr_succ hlt1 hN)) FF.nil)))), hD1, ho2, (hS8.sel [0, 1] rfl rfl), (by omega), hL1⟩
  ·skip
   obtain rfl : k_ = 0 := by have h := of_decide_eq_false hlt; omega
   refine cw_exit rfl ?_
   obtain rfl := some_inj hL
   refine cw_seq (cw_region ?_)
   refine sQ 2 (Y_assign (v := vi 0) rfl rfl) ?_
   refine sQ 3 (Y_assign (v := .bool false) rfl rfl) (rw_nil (cw_ret ?_))
   obtain ⟨rfl, rfl⟩ := pr2 (some_inj hF3)
   exact ret2 Tryz.results9 (v1 := vi 0) (resAt_tmp rfl) (v2 := .bool false) (resAt_tmp rfl) ⟨rfl, (hS5.sN [])⟩

theorem c_laws_eqRing (a : TRing) (b : TRing)  (w0 : World)  (hS : ST w0 [] w0 [] []) {r_ : Bool} (hF : F_laws_eqRing a b = some r_) :
  CV Tryz.prog 109 #[gR_ a, gR_ b] w0 (fun v w' => v = .bool r_ ∧ ST w0 [] w' [] []) := by
 unfold F_laws_eqRing at hF
 refine cv_of_cw 25 Tryz.func109 rfl Tryz.ntmps109 rfl ?_
 refine cw_seq (cw_region ?_)
 refine sS 2 (Ys_box (T := 63) (v := gR_ a) (cs := kR_ a) (m := 4) hS rfl rfl rfl rfl) ?_
 rintro _ w_ ⟨b1, rfl, hS1⟩
 refine sS 3 (Ys_box (T := 63) (v := gR_ b) (cs := kR_ b) (m := 4) hS1 rfl rfl rfl rfl) ?_
 rintro _ w_1 ⟨b2, rfl, hS2⟩
 refine sQ 4 (Y_assign (v := .bool false) rfl rfl) (rw_nil (cw_seq (cw_seq (cw_region ?_))))
 refine sQ 5 (Y_fieldAddr (B := aD b1) (i := 0) (s := 0) k_fd_63_0_0_3 k_sz_3_1 rfl rfl) ?_
 refine sQ 6 (Y_load1 (B := aD b1) (i := 0) (cs := kR_ a) (v := vi a.A) k_sc_3 rfl rfl (hS2.cf (i := 0) rfl) rfl) ?_
 refine sQ 7 (Y_fieldAddr (B := aD b2) (i := 0) (s := 0) k_fd_63_0_0_3 k_sz_3_1 rfl rfl) ?_
 refine sQ 8 (Y_load1 (B := aD b2) (i := 0) (cs := kR_ b) (v := vi b.A) k_sc_3 rfl rfl (hS2.cf (i := 1) rfl) rfl) ?_
 refine sQ 9 (Y_ne (k := .i64) (a := a.A) (b := b.A) rfl rfl rfl) (rw_nil ?_)
 refine cw_cond (b := (a.A != b.A)) rfl (fun hb => ?_) (fun hb => ?_)
 ·skip
  have hF1 := ct hF hb
  refine cw_seq (cw_region ?_)
  refine sQ 4 (Y_assign (v := .bool false) rfl rfl) (rw_nil (cw_ret ?_))
  obtain rfl := some_inj hF1
  exact ret1 Tryz.results109 (v1 := .bool false) (resAt_tmp rfl) ⟨rfl, (hS2.sN [])⟩
 ·skip
  have hF2 := cf' hF hb
  refine cw_skip (cw_seq (cw_seq (cw_region ?_)))
  refine sQ 10 (Y_fieldAddr (B := aD b1) (i := 0) (s := 0) k_fd_63_1_1_3 k_sz_3_1 rfl rfl) ?_
  refine sQ 11 (Y_load1 (B := aD b1) (i := 1) (cs := kR_ a) (v := vi a.B) k_sc_3 rfl rfl (hS2.cf (i := 0) rfl) rfl) ?_
  refine sQ 12 (Y_fieldAddr (B := aD b2) (i := 0) (s := 0) k_fd_63_1_1_3 k_sz_3_1 rfl rfl) ?_
  refine sQ 13 (Y_load1 (B := aD b2) (i := 1) (cs := kR_ b) (v := vi b.B) k_sc_3 rfl rfl (hS2.cf (i := 1) rfl) rfl) ?_
  refine sQ 14 (Y_ne (k := .i64) (a := a.B) (b := b.B) rfl rfl rfl) (rw_nil ?_)
  refine cw_cond (b := (a.B != b.B)) rfl (fun hb1 => ?_) (fun hb1 => ?_)
  ·skip
   have hF3 := ct hF2 hb1
   refine cw_seq (cw_region ?_)
   refine sQ 4 (Y_assign (v := .bool false) rfl rfl) (rw_nil (cw_ret ?_))
   obtain rfl := some_inj hF3
   exact ret1 Tryz.results109 (v1 := .bool false) (resAt_tmp rfl) ⟨rfl, (hS2.sN [])⟩
  ·skip
   have hF4 := cf' hF2 hb1
   refine cw_skip (cw_seq (cw_seq (cw_region ?_)))
   refine sQ 15 (Y_fieldAddr (B := aD b1) (i := 0) (s := 0) k_fd_63_2_2_3 k_sz_3_1 rfl rfl) ?_
   refine sQ 16 (Y_load1 (B := aD b1) (i := 2) (cs := kR_ a) (v := vi a.C) k_sc_3 rfl rfl (hS2.cf (i := 0) rfl) rfl) ?_
   refine sQ 17 (Y_fieldAddr (B := aD b2) (i := 0) (s := 0) k_fd_63_2_2_3 k_sz_3_1 rfl rfl) ?_
   refine sQ 18 (Y_load1 (B := aD b2) (i := 2) (cs := kR_ b) (v := vi b.C) k_sc_3 rfl rfl (hS2.cf (i := 1) rfl) rfl) ?_
   refine sQ 19 (Y_ne (k := .i64) (a := a.C) (b := b.C) rfl rfl rfl) (rw_nil ?_)
   refine cw_cond (b := (a.C != b.C)) rfl (fun hb2 => ?_) (fun hb2 => ?_)
   ·skip
    have hF5 := ct hF4 hb2
    refine cw_seq (cw_region ?_)
    refine sQ 4 (Y_assign (v := .bool false) rfl rfl) (rw_nil (cw_ret ?_))
    obtain rfl := some_inj hF5
    exact ret1 Tryz.results109 (v1 := .bool false) (resAt_tmp rfl) ⟨rfl, (hS2.sN [])⟩
   ·skip
    have hF6 := cf' hF4 hb2
    refine cw_skip (cw_seq (cw_seq (cw_region ?_)))
    refine sQ 20 (Y_fieldAddr (B := aD b1) (i := 0) (s := 0) k_fd_63_3_3_3 k_sz_3_1 rfl rfl) ?_
    refine sQ 21 (Y_load1 (B := aD b1) (i := 3) (cs := kR_ a) (v := vi a.D) k_sc_3 rfl rfl (hS2.cf (i := 0) rfl) rfl) ?_
    refine sQ 22 (Y_fieldAddr (B := aD b2) (i := 0) (s := 0) k_fd_63_3_3_3 k_sz_3_1 rfl rfl) ?_
    refine sQ 23 (Y_load1 (B := aD b2) (i := 3) (cs := kR_ b) (v := vi b.D) k_sc_3 rfl rfl (hS2.cf (i := 1) rfl) rfl) ?_
    refine sQ 24 (Y_ne (k := .i64) (a := a.D) (b := b.D) rfl rfl rfl) (rw_nil ?_)
    refine cw_cond (b := (a.D != b.D)) rfl (fun hb3 => ?_) (fun hb3 => ?_)
    ·skip
     have hF7 := ct hF6 hb3
     refine cw_seq (cw_region ?_)
     refine sQ 4 (Y_assign (v := .bool false) rfl rfl) (rw_nil (cw_ret ?_))
     obtain rfl := some_inj hF7
     exact ret1 Tryz.results109 (v1 := .bool false) (resAt_tmp rfl) ⟨rfl, (hS2.sN [])⟩
    ·skip
     have hF8 := cf' hF6 hb3
     refine cw_skip (cw_seq (cw_region ?_))
     refine sQ 4 (Y_assign (v := .bool true) rfl rfl) (rw_nil (cw_ret ?_))
     obtain rfl := some_inj hF8
     exact ret1 Tryz.results109 (v1 := .bool true) (resAt_tmp rfl) ⟨rfl, (hS2.sN [])⟩

theorem c_laws_eqDyadic (a : TDyadic) (b : TDyadic)  (w0 : World)  (hS : ST w0 [] w0 [] []) {r_ : Bool} (hF : F_laws_eqDyadic a b = some r_) :
  CV Tryz.prog 70 #[gD_ a, gD_ b] w0 (fun v w' => v = .bool r_ ∧ ST w0 [] w' [] []) := by
 unfold F_laws_eqDyadic at hF
 refine cv_of_cw 16 Tryz.func70 rfl Tryz.ntmps70 rfl ?_
 refine cw_seq (cw_region ?_)
 refine sS 2 (Ys_box (T := 65) (v := gD_ a) (cs := kD_ a) (m := 5) hS rfl rfl rfl rfl) ?_
 rintro _ w_ ⟨b1, rfl, hS1⟩
 refine sS 3 (Ys_box (T := 65) (v := gD_ b) (cs := kD_ b) (m := 5) hS1 rfl rfl rfl rfl) ?_
 rintro _ w_1 ⟨b2, rfl, hS2⟩
 refine sQ 4 (Y_assign (v := .bool false) rfl rfl) (rw_nil (cw_seq (cw_seq (cw_region ?_))))
 refine sQ 5 (Y_fieldAddr (B := aD b1) (i := 0) (s := 3) k_fd_65_0_0_63 k_sz_63_4 rfl rfl) ?_
 refine sQ 6 (Y_loadA (B := aD b1) (i := 0) (cs := kD_ a) (vs := kR_ a.Num) k_ag_63 k_sz_63_4 rfl rfl (hS2.cf (i := 0) rfl) rfl rfl) ?_
 refine sQ 7 (Y_fieldAddr (B := aD b2) (i := 0) (s := 3) k_fd_65_0_0_63 k_sz_63_4 rfl rfl) ?_
 refine sQ 8 (Y_loadA (B := aD b2) (i := 0) (cs := kD_ b) (vs := kR_ b.Num) k_ag_63 k_sz_63_4 rfl rfl (hS2.cf (i := 1) rfl) rfl rfl) ?_
 obtain ⟨r_1, hc, hF⟩ := bind_inv hF
 refine sc 9 rfl rfl (Yc_func (g := 109) (vs := [gR_ a.Num, gR_ b.Num]) k_call_109 rfl (mc rfl (mc rfl mn)) (c_laws_eqRing a.Num b.Num _  (hS2.inn0 [] rfl) hc)) ?_
 rintro _ w_2 ⟨rfl, hd⟩
 have hS3 := hS2.out00 hd
 refine sQ 10 (Y_not (p := r_1) rfl rfl) (rw_nil ?_)
 refine cw_cond (b := (!r_1)) rfl (fun hb => ?_) (fun hb => ?_)
 ·skip
  have hF1 := ct hF hb
  refine cw_seq (cw_region ?_)
  refine sQ 4 (Y_assign (v := .bool false) rfl rfl) (rw_nil (cw_ret ?_))
  obtain rfl := some_inj hF1
  exact ret1 Tryz.results70 (v1 := .bool false) (resAt_tmp rfl) ⟨rfl, (hS3.sN [])⟩
 ·skip
  have hF2 := cf' hF hb
  refine cw_skip (cw_seq (cw_seq (cw_region ?_)))
  refine sQ 11 (Y_fieldAddr (B := aD b1) (i := 0) (s := 0) k_fd_65_1_4_3 k_sz_3_1 rfl rfl) ?_
  refine sQ 12 (Y_load1 (B := aD b1) (i := 4) (cs := kD_ a) (v := vi a.Exp) k_sc_3 rfl rfl (hS3.cf (i := 0) rfl) rfl) ?_
  refine sQ 13 (Y_fieldAddr (B := aD b2) (i := 0) (s := 0) k_fd_65_1_4_3 k_sz_3_1 rfl rfl) ?_
  refine sQ 14 (Y_load1 (B := aD b2) (i := 4) (cs := kD_ b) (v := vi b.Exp) k_sc_3 rfl rfl (hS3.cf (i := 1) rfl) rfl) ?_
  refine sQ 15 (Y_ne (k := .i64) (a := a.Exp) (b := b.Exp) rfl rfl rfl) (rw_nil ?_)
  refine cw_cond (b := (a.Exp != b.Exp)) rfl (fun hb1 => ?_) (fun hb1 => ?_)
  ·skip
   have hF3 := ct hF2 hb1
   refine cw_seq (cw_region ?_)
   refine sQ 4 (Y_assign (v := .bool false) rfl rfl) (rw_nil (cw_ret ?_))
   obtain rfl := some_inj hF3
   exact ret1 Tryz.results70 (v1 := .bool false) (resAt_tmp rfl) ⟨rfl, (hS3.sN [])⟩
  ·skip
   have hF4 := cf' hF2 hb1
   refine cw_skip (cw_seq (cw_region ?_))
   refine sQ 4 (Y_assign (v := .bool true) rfl rfl) (rw_nil (cw_ret ?_))
   obtain rfl := some_inj hF4
   exact ret1 Tryz.results70 (v1 := .bool true) (resAt_tmp rfl) ⟨rfl, (hS3.sN [])⟩

theorem c_laws_eqDyadicS (a : List TDyadic) (b : List TDyadic) (B : Option Addr) (c n : Nat) (B1 : Option Addr) (c1 n1 : Nat) (w0 : World) (hn : a.length = n) (hn1 : b.length = n1) (hS : ST w0 [] w0 [] [⟨B, (a.flatMap eN0)⟩, ⟨B1, (b.flatMap eN0)⟩]) {r_ : Bool} (hF : F_laws_eqDyadicS a b = some r_) :
  CV Tryz.prog 30 #[.slice B n c, .slice B1 n1 c1] w0 (fun v w' => v = .bool r_ ∧ ST w0 [] w' [] []) := by
 subst hn
 subst hn1
 unfold F_laws_eqDyadicS at hF
 refine cv_of_cw 27 Tryz.func30 rfl Tryz.ntmps30 rfl ?_
 refine cw_seq (cw_region ?_)
 refine sQ 4 (Y_assign (v := .bool false) rfl rfl) (rw_nil (cw_seq (cw_seq (cw_region ?_))))
 refine sQ 6 (Y_move (v := .slice B a.length c) rfl rfl) ?_
 refine sQ 7 (Y_len (B := B) (m := a.length) (c := c) k_sl_28_65 rfl rfl) ?_
 refine sQ 8 (Y_move (v := .slice B1 b.length c1) rfl rfl) ?_
 refine sQ 9 (Y_len (B := B1) (m := b.length) (c := c1) k_sl_28_65 rfl rfl) ?_
 refine sQ 10 (Y_ne (k := .i64) (a := (a.length : Int)) (b := (b.length : Int)) rfl rfl rfl) (rw_nil ?_)
 refine cw_cond (b := ((a.length : Int) != (b.length : Int))) rfl (fun hb => ?_) (fun hb => ?_)
 ·skip
  have hF1 := ct hF hb
  refine cw_seq (cw_region ?_)
  refine sQ 4 (Y_assign (v := .bool false) rfl rfl) (rw_nil (cw_ret ?_))
  obtain rfl := some_inj hF1
  exact ret1 Tryz.results30 (v1 := .bool false) (resAt_tmp rfl) ⟨rfl, (hS.sN [])⟩
 ·skip
  have hF2 := cf' hF hb
  refine cw_skip (cw_seq (cw_seq (cw_region ?_)))
  refine sQ 5 (Y_assign (v := vi 0) rfl rfl) (rw_nil ?_)
  obtain ⟨hN, hF2⟩ := chk_inv hF2
  obtain ⟨z, hz, hF3⟩ := bind_inv hF2
  refine cw_block ?_
  refine cw_loop (fun k f w => ∃ (i1 : Nat), FF f [(0, .slice B a.length c), (1, .slice B1 b.length c1), (5, vi (i1 : Int))] ∧ ST w0 [] w [] [⟨B, (a.flatMap eN0)⟩, ⟨B1, (b.flatMap eN0)⟩] ∧ i1 + k = a.length ∧ forX (F_laws_eqDyadicS_l1 a b) k i1 () = some z) a.length ⟨0, (FF.cons rfl (FF.cons rfl (FF.cons rfl FF.nil))), (hS.sel [] rfl rfl), Nat.zero_add _, hz⟩ ?_
  rintro k_ f w ⟨i1, hf, hS1, hik, hL⟩
  refine cw_seq (cw_seq (cw_region ?_))
  refine sQ 11 (Y_move (v := vi (i1 : Int)) rfl (hf.get 5 2 rfl)) ?_
  refine sQ 12 (Y_move (v := .slice B a.length c) rfl (hf.get 0 0 rfl)) ?_
  refine sQ 13 (Y_len (B := B) (m := a.length) (c := c) k_sl_28_65 rfl rfl) ?_
  refine sQ 14 (Y_lt (k := .i64) (a := (i1 : Int)) (b := (a.length : Int)) rfl rfl rfl) (rw_nil ?_)
  refine cw_cond (b := (decide ((i1 : Int) < (a.length : Int)))) rfl (fun hlt => ?_) (fun hlt => ?_)
  ·skip
   have hlt1 : i1 < a.length := by have h := of_decide_eq_true hlt; omega
   obtain ⟨k_1, rfl⟩ : ∃ k2, k_ = k2 + 1 := ⟨k_ - 1, by omega⟩
   obtain ⟨y, hb1, hL1⟩ := forX_go hL
   unfold F_laws_eqDyadicS_l1 at hb1
   refine cw_skip (cw_seq (cw_block (cw_seq ?_)))
   obtain ⟨x, hx, hb1⟩ := bind_inv hb1
   obtain ⟨x1, hx1, hb1⟩ := bind_inv hb1
   obtain ⟨r_1, hc, hb1⟩ := bind_inv hb1
   refine ra_start (hS1.se []).fn (by kernel_rfl) ?_
   have hS3 := hS1.drew
   refine rq 0 17 (v := .slice B a.length c) rfl (hS3.se []) (fun w' hw' => (Y_move (v := .slice B a.length c) rfl (hf.get 0 0 rfl))) ?_
   refine rq 1 18 (v := vi (i1 : Int)) rfl (hS3.se []) (fun w' hw' => (Y_move (v := vi (i1 : Int)) rfl (hf.get 5 2 rfl))) ?_
   refine rq 2 19 (v := pt B ((i1 : Int).toNat * 5)) rfl (hS3.se []) (fun w' hw' => (Y_index (B := B) (m := a.length) (c := c) (k := .i64) (i := (i1 : Int)) k_sl_28_65 k_sz_65_5 rfl rfl rfl (gi_isSome eN2 rfl (ST.rf hw' (i := 0) rfl) hx) (getI_nn hx) (getI_ltI hx rfl))) ?_
   refine rq 3 20 (v := gD_ x) rfl (hS3.se []) (fun w' hw' => (Y_loadA (B := B) (i := (i1 : Int).toNat * 5) (cs := (a.flatMap eN0)) (vs := kD_ x) k_ag_65 k_sz_65_5 rfl rfl (ST.rf hw' (i := 0) rfl) (eN2 x) (gi_seg eN2 hx))) ?_
   refine rq 4 21 (v := .slice B1 b.length c1) rfl (hS3.se []) (fun w' hw' => (Y_move (v := .slice B1 b.length c1) rfl (hf.get 1 1 rfl))) ?_
   refine rq 5 22 (v := vi (i1 : Int)) rfl (hS3.se []) (fun w' hw' => (Y_move (v := vi (i1 : Int)) rfl (hf.get 5 2 rfl))) ?_
   refine rq 6 23 (v := pt B1 ((i1 : Int).toNat * 5)) rfl (hS3.se []) (fun w' hw' => (Y_index (B := B1) (m := b.length) (c := c1) (k := .i64) (i := (i1 : Int)) k_sl_28_65 k_sz_65_5 rfl rfl rfl (gi_isSome eN2 rfl (ST.rf hw' (i := 1) rfl) hx1) (getI_nn hx1) (getI_ltI hx1 rfl))) ?_
   refine rq 7 24 (v := gD_ x1) rfl (hS3.se []) (fun w' hw' => (Y_loadA (B := B1) (i := (i1 : Int).toNat * 5) (cs := (b.flatMap eN0)) (vs := kD_ x1) k_ag_65 k_sz_65_5 rfl rfl (ST.rf hw' (i := 1) rfl) (eN2 x1) (gi_seg eN2 hx1))) ?_
   refine rA [8] ?_
   refine ra_c 25 (i := 8) rfl rfl rfl (Yc_func (g := 70) (vs := [gD_ x, gD_ x1]) k_call_70 rfl (mc rfl (mc rfl mn)) (c_laws_eqDyadic x x1 _  (hS3.inn0 [] rfl) hc)) ?_ ?_
   ·rintro _ w_ ⟨rfl, hd⟩
    have hS4 := hS3.out00 hd
    refine ⟨(hS4.se []), ?_⟩
    refine rq 9 26 (v := .bool (!r_1)) rfl (hS4.se []) (fun w' hw' => (Y_not (p := r_1) rfl rfl)) ?_
    refine ra_done (by kernel_rfl) ?_
    refine cw_cond (b := (!r_1)) rfl (fun hb2 => ?_) (fun hb2 => ?_)
    ·skip
     have hF4 := ct hb1 hb2
     refine cw_seq (cw_region ?_)
     refine sQ 4 (Y_assign (v := .bool false) rfl rfl) (rw_nil (cw_ret ?_))
     obtain rfl := some_inj hF4
     obtain rfl := some_inj hL1
     obtain rfl := some_inj hF3
     exact ret1 Tryz.results30 (v1 := .bool false) (resAt_tmp rfl) ⟨rfl, (hS4.sN [])⟩
    ·skip
     have hF5 := cf' hb1 hb2
     refine cw_skip (cw_region ?_)
     refine sQ 15 (Y_move (v := vi (i1 : Int)) rfl (hf.get 5 2 rfl)) ?_
     refine sQ 16 (Y_add (k := .i64) (a := (i1 : Int)) (b := 1) rfl rfl rfl) ?_
     refine sQ 5 (Y_assign (v := vi (i64.wrap ((i1 : Int) + 1))) rfl rfl) (rw_nil ?_)
     obtain rfl := some_inj hF5
     exact ⟨k_1, Nat.lt_succ_self _, i1 + 1, (FF.cons (hf.get 0 0 rfl) (FF.cons (hf.get 1 1 rfl) (FF.cons (congrArg (Value.int .i64) (wr_succ hlt1 hN)) FF.nil))), (hS4.sel [] rfl rfl), (by omega), hL1⟩
   exact allR_nil
  ·skip
   obtain rfl : k_ = 0 := by have h := of_decide_eq_false hlt; omega
   refine cw_exit rfl ?_
   obtain rfl := some_inj hL
   refine cw_seq (cw_region ?_)
   refine sQ 4 (Y_assign (v := .bool true) rfl rfl) (rw_nil (cw_ret ?_))
   obtain rfl := some_inj hF3
   exact ret1 Tryz.results30 (v1 := .bool true) (resAt_tmp rfl) ⟨rfl, (hS1.sN [])⟩

theorem c_laws_eqBloch (a : TBloch) (b : TBloch) (B : Option Addr) (c n : Nat) (B1 : Option Addr) (c1 n1 : Nat) (w0 : World) (hn : a.Cells.length = n) (hn1 : b.Cells.length = n1) (hS : ST w0 [] w0 [] [⟨B, (a.Cells.flatMap eN0)⟩, ⟨B1, (b.Cells.flatMap eN0)⟩]) {r_ : Bool} (hF : F_laws_eqBloch a b = some r_) :
  CV Tryz.prog 10 #[.agg #[.slice B n c], .agg #[.slice B1 n1 c1]] w0 (fun v w' => v = .bool r_ ∧ ST w0 [] w' [] []) := by
 subst hn
 subst hn1
 unfold F_laws_eqBloch at hF
 refine cv_of_cw 11 Tryz.func10 rfl Tryz.ntmps10 rfl ?_
 refine cw_seq (cw_region ?_)
 refine sS 2 (Ys_box (T := 30) (v := gB_ a B c) (cs := kB_ a B c) (m := 1) hS rfl rfl rfl rfl) ?_
 rintro _ w_ ⟨b1, rfl, hS1⟩
 refine sS 3 (Ys_box (T := 30) (v := gB_ b B1 c1) (cs := kB_ b B1 c1) (m := 1) hS1 rfl rfl rfl rfl) ?_
 rintro _ w_1 ⟨b2, rfl, hS2⟩
 refine sQ 4 (Y_assign (v := .bool false) rfl rfl) (rw_nil (cw_seq (cw_seq (cw_region ?_))))
 refine sQ 5 (Y_fieldAddr (B := aD b1) (i := 0) (s := 0) k_fd_30_0_0_28 k_sz_28_1 rfl rfl) ?_
 refine sQ 6 (Y_load1 (B := aD b1) (i := 0) (cs := kB_ a B c) (v := .slice B a.Cells.length c) k_sc_28 rfl rfl (hS2.cf (i := 0) rfl) rfl) ?_
 refine sQ 7 (Y_fieldAddr (B := aD b2) (i := 0) (s := 0) k_fd_30_0_0_28 k_sz_28_1 rfl rfl) ?_
 refine sQ 8 (Y_load1 (B := aD b2) (i := 0) (cs := kB_ b B1 c1) (v := .slice B1 b.Cells.length c1) k_sc_28 rfl rfl (hS2.cf (i := 1) rfl) rfl) ?_
 obtain ⟨r_1, hc, hF⟩ := bind_inv hF
 refine sc 9 rfl rfl (Yc_func (g := 30) (vs := [.slice B a.Cells.length c, .slice B1 b.Cells.length c1]) k_call_30 rfl (mc rfl (mc rfl mn)) (c_laws_eqDyadicS a.Cells b.Cells B c a.Cells.length B1 c1 b.Cells.length _ rfl rfl (hS2.inn0 [(true, 0), (true, 1)] rfl) hc)) ?_
 rintro _ w_2 ⟨rfl, hd⟩
 have hS3 := hS2.out00 hd
 refine sQ 10 (Y_not (p := r_1) rfl rfl) (rw_nil ?_)
 refine cw_cond (b := (!r_1)) rfl (fun hb => ?_) (fun hb => ?_)
 ·skip
  have hF1 := ct hF hb
  refine cw_seq (cw_region ?_)
  refine sQ 4 (Y_assign (v := .bool false) rfl rfl) (rw_nil (cw_ret ?_))
  obtain rfl := some_inj hF1
  exact ret1 Tryz.results10 (v1 := .bool false) (resAt_tmp rfl) ⟨rfl, (hS3.sN [])⟩
 ·skip
  have hF2 := cf' hF hb
  refine cw_skip (cw_seq (cw_region ?_))
  refine sQ 4 (Y_assign (v := .bool true) rfl rfl) (rw_nil (cw_ret ?_))
  obtain rfl := some_inj hF2
  exact ret1 Tryz.results10 (v1 := .bool true) (resAt_tmp rfl) ⟨rfl, (hS3.sN [])⟩

theorem c_laws_FnExactCliffordIndex (aB : TBloch) (B : Option Addr) (c n : Nat) (w0 : World) (hn : aB.Cells.length = n) (hS : ST w0 [] w0 [] [⟨B, (aB.Cells.flatMap eN0)⟩, ⟨(aD 0), [vi 1, vi 0, vi 0, vi 0, vi 2]⟩]) {r_ : Bool} (hF : F_laws_FnExactCliffordIndex aB = some r_) :
  CV Tryz.prog 3 #[.agg #[.slice B n c]] w0 (fun v w' => v = .bool r_ ∧ ST w0 [] w' [] []) := by
 subst hn
 unfold F_laws_FnExactCliffordIndex at hF
 refine cv_of_cw 40 Tryz.func3 rfl Tryz.ntmps3 rfl ?_
 refine cw_seq (cw_region ?_)
 refine sS 1 (Ys_box (T := 24) (v := gB_ aB B c) (cs := kB_ aB B c) (m := 1) hS rfl rfl rfl rfl) ?_
 rintro _ w_ ⟨b, rfl, hS1⟩
 refine sQ 2 (Y_assign (v := .bool false) rfl rfl) (rw_nil (cw_seq (cw_region ?_)))
 refine sQ 3 (Y_assign (v := vi 1048576) rfl rfl) (rw_nil (cw_seq (cw_region ?_)))
 refine sQ 9 (Y_loadA (B := aD b) (i := 0) (cs := kB_ aB B c) (vs := kB_ aB B c) k_ag_24 k_sz_24_1 rfl rfl (hS1.cf (i := 0) rfl) rfl rfl) ?_
 refine sQ 10 (Y_move (v := vi 1048576) rfl rfl) ?_
 obtain ⟨r_1, hc, hF⟩ := bind_inv hF
 refine sc 11 rfl rfl (Yc_func (g := 6) (vs := [gB_ aB B c, vi 1048576]) k_call_6 rfl (mc rfl (mc rfl mn)) (c_laws_szBloch aB 1048576 B c aB.Cells.length _ rfl (hS1.inn0 [(true, 0)] rfl) hc)) ?_
 rintro _ w_1 ⟨rfl, hd⟩
 have hS2 := hS1.out00 hd
 refine sQ 3 (Y_assign (v := vi r_1) rfl rfl) (rw_nil (cw_seq (cw_seq (cw_region ?_))))
 refine sQ 12 (Y_move (v := vi r_1) rfl rfl) ?_
 refine sQ 13 (Y_lt (k := .i64) (a := r_1) (b := 0) rfl rfl rfl) (rw_nil ?_)
 refine cw_cond (b := (decide (r_1 < 0))) rfl (fun hb => ?_) (fun hb => ?_)
 ·skip
  have hF1 := ct hF hb
  refine cw_seq (cw_region ?_)
  refine sQ 2 (Y_assign (v := .bool true) rfl rfl) (rw_nil (cw_ret ?_))
  obtain rfl := some_inj hF1
  exact ret1 Tryz.results3 (v1 := .bool true) (resAt_tmp rfl) ⟨rfl, (hS2.sN [])⟩
 ·skip
  have hF2 := cf' hF hb
  refine cw_skip (cw_seq (cw_region ?_))
  refine sQ 15 (Y_loadA (B := aD b) (i := 0) (cs := kB_ aB B c) (vs := kB_ aB B c) k_ag_24 k_sz_24_1 rfl rfl (hS2.cf (i := 0) rfl) rfl rfl) ?_
  obtain ⟨r_2, hc1, hF2⟩ := bind_inv hF2
  refine sc 16 rfl rfl (Yc_func (g := 8) (vs := [gB_ aB B c]) k_call_8 rfl (mc rfl mn) (c_laws_toBloch aB B c aB.Cells.length _ rfl (hS2.inn0 [(true, 0)] rfl) hc1)) ?_
  rintro _ w_2 ⟨B1, c1, rfl, hd1⟩
  have hS3 := hS2.out0 hd1
  obtain ⟨⟨r_3, r_4⟩, hc2, hF2⟩ := bind_inv hF2
  refine sc 17 rfl rfl (Yc_func (g := 7) (vs := [gB_ r_2 B1 c1]) k_call_7 rfl (mc rfl mn) (c_spec_CliffordIndex r_2 B1 c1 r_2.Cells.length _ rfl (hS3.inn0 [(false, 1)] rfl) hc2)) ?_
  rintro _ w_3 ⟨rfl, hd2⟩
  have hS4 := hS3.out00 hd2
  refine sQ 14 (Y_move (v := .tuple #[vi r_3, .bool r_4]) rfl rfl) ?_
  refine sQ 18 (Y_extract (v := vi r_3) rfl rfl rfl) ?_
  refine sQ 19 (Y_extract (v := .bool r_4) rfl rfl rfl) ?_
  refine sQ 4 (Y_assign (v := vi r_3) rfl rfl) ?_
  refine sQ 5 (Y_assign (v := .bool r_4) rfl rfl) (rw_nil (cw_seq (cw_region ?_)))
  refine sQ 20 (Y_loadA (B := aD b) (i := 0) (cs := kB_ aB B c) (vs := kB_ aB B c) k_ag_24 k_sz_24_1 rfl rfl (hS4.cf (i := 0) rfl) rfl rfl) ?_
  obtain ⟨r_5, hc3, hF2⟩ := bind_inv hF2
  refine sc 21 rfl rfl (Yc_func (g := 8) (vs := [gB_ aB B c]) k_call_8 rfl (mc rfl mn) (c_laws_toBloch aB B c aB.Cells.length _ rfl (hS4.inn0 [(true, 0)] rfl) hc3)) ?_
  rintro _ w_4 ⟨B2, c2, rfl, hd3⟩
  have hS5 := hS4.out0 hd3
  refine sS 6 (Ys_alloc (T := 30) (cs := [.slice none 0 0]) (m := 1) hS5 k_zero_30 rfl rfl rfl) ?_
  rintro _ w_5 ⟨b1, rfl, hS6⟩
  refine s0 (Ys_store (i := 3) (s := 1) (B := aD b1) (T' := 30) (v := gB_ r_5 B2 c2) (vs := kB_ r_5 B2 c2) (k := 0) (cs' := kB_ r_5 B2 c2) hS6 k_sz_30_1 rfl rfl rfl rfl rfl rfl rfl (lB rfl) rfl rfl) ?_
  rintro _ w_6 ⟨rfl, hS7⟩
  refine rw_nil (cw_seq (cw_region ?_))
  refine sQ 23 (Y_loadA (B := aD b1) (i := 0) (cs := kB_ r_5 B2 c2) (vs := kB_ r_5 B2 c2) k_ag_30 k_sz_30_1 rfl rfl (hS7.cf (i := 3) rfl) rfl rfl) ?_
  obtain ⟨⟨r_6, r_7⟩, hc4, hF2⟩ := bind_inv hF2
  refine sc 24 rfl rfl (Yc_func (g := 9) (vs := [gB_ r_5 B2 c2]) k_call_9 rfl (mc rfl mn) (c_impl_CliffordIndex r_5 B2 c2 r_5.Cells.length _ rfl (hS7.inn0 [(false, 2), (true, 1)] rfl) hc4)) ?_
  rintro _ w_7 ⟨rfl, hd4⟩
  have hS8 := hS7.out00 hd4
  refine sQ 22 (Y_move (v := .tuple #[vi r_6, .bool r_7]) rfl rfl) ?_
  refine sQ 25 (Y_extract (v := vi r_6) rfl rfl rfl) ?_
  refine sQ 26 (Y_extract (v := .bool r_7) rfl rfl rfl) ?_
  refine sQ 7 (Y_assign (v := vi r_6) rfl rfl) ?_
  refine sQ 8 (Y_assign (v := .bool r_7) rfl rfl) (rw_nil (cw_seq (cw_seq (cw_region ?_))))
  refine sQ 27 (Y_move (v := vi r_6) rfl rfl) ?_
  refine sQ 28 (Y_move (v := vi r_3) rfl rfl) ?_
  refine sQ 29 (Y_ne (k := .i64) (a := r_6) (b := r_3) rfl rfl rfl) ?_
  refine sQ 30 (Y_move (v := .bool (r_6 != r_3)) rfl rfl) ?_
  refine sgq 31 (B := (!(r_6 != r_3))) (v := .bool r_7) rfl rfl (wF 30) (fun hg => (Y_move (v := .bool r_7) rfl rfl)) ?_
  refine sgq 32 (B := (!(r_6 != r_3))) (v := .bool r_4) rfl rfl (wF 30) (fun hg1 => (Y_move (v := .bool r_4) rfl rfl)) ?_
  refine sgq 33 (B := (!(r_6 != r_3))) (v := .bool (!(r_7 == r_4))) rfl rfl (wF 30) (fun hg2 => (Y_bne (p := r_7) (q := r_4) k_und_4 rfl (gv_of (v := .bool r_7) hg2) (gv_of (v := .bool r_4) hg2))) ?_
  refine sQ 34 (Y_or (b := (r_6 != r_3)) (z := (!(r_7 == r_4))) rfl rfl rfl rfl) (rw_nil ?_)
  refine cw_cond (b := ((r_6 != r_3) || (!(r_7 == r_4)))) rfl (fun hb1 => ?_) (fun hb1 => ?_)
  ·skip
   have hF3 := ct hF2 hb1
   refine cw_seq (cw_region ?_)
   refine sQ 2 (Y_assign (v := .bool false) rfl rfl) (rw_nil (cw_ret ?_))
   obtain rfl := some_inj hF3
   exact ret1 Tryz.results3 (v1 := .bool false) (resAt_tmp rfl) ⟨rfl, (hS8.sN [])⟩
  ·skip
   have hF4 := cf' hF2 hb1
   refine cw_skip (cw_seq (cw_seq ?_))
   obtain ⟨r_8, hc5, hF4⟩ := bind_inv hF4
   obtain ⟨r_9, hc6, hF4⟩ := bind_inv hF4
   refine ra_start (hS8.se [0, 1, 2, 3]).fn (by kernel_rfl) ?_
   have hS11 := hS8.drew
   refine rq 0 35 (v := gB_ r_5 B2 c2) rfl (hS11.se [0, 1, 2, 3]) (fun w' hw' => (Y_loadA (B := aD b1) (i := 0) (cs := kB_ r_5 B2 c2) (vs := kB_ r_5 B2 c2) k_ag_30 k_sz_30_1 rfl rfl (ST.cf hw' (i := 3) rfl) rfl rfl)) ?_
   refine rq 1 36 (v := gB_ aB B c) rfl (hS11.se [0, 1, 2, 3]) (fun w' hw' => (Y_loadA (B := aD b) (i := 0) (cs := kB_ aB B c) (vs := kB_ aB B c) k_ag_24 k_sz_24_1 rfl rfl (ST.cf hw' (i := 0) rfl) rfl rfl)) ?_
   refine rA [2] ?_
   refine ra_c 37 (i := 2) rfl rfl rfl (Yc_func (g := 8) (vs := [gB_ aB B c]) k_call_8 rfl (mc rfl mn) (c_laws_toBloch aB B c aB.Cells.length _ rfl (hS11.inn0 [(true, 0)] rfl) hc5)) ?_ ?_
   ·rintro _ w_8 ⟨B3, c3, rfl, hd5⟩
    have hS12 := hS11.out0 hd5
    refine ⟨(hS12.se [0, 1, 2, 3]), ?_⟩
    refine rA [3] ?_
    refine ra_c 38 (i := 3) rfl rfl rfl (Yc_func (g := 10) (vs := [gB_ r_5 B2 c2, gB_ r_8 B3 c3]) k_call_10 rfl (mc rfl (mc rfl mn)) (c_laws_eqBloch r_5 r_8 B2 c2 r_5.Cells.length B3 c3 r_8.Cells.length _ rfl rfl (hS12.inn0 [(false, 2), (false, 4)] rfl) hc6)) ?_ ?_
    ·rintro _ w_9 ⟨rfl, hd6⟩
     have hS13 := hS12.out00 hd6
     have hS13 : ST w0 [] _ [⟨aD b, 24, kB_ aB B c, 1⟩, ⟨B1, 65, (r_2.Cells.flatMap eN0), c1 * 5⟩, ⟨B2, 65, (r_5.Cells.flatMap eN0), c2 * 5⟩, ⟨aD b1, 30, kB_ r_5 B2 c2, 1⟩, ⟨B3, 65, (r_8.Cells.flatMap eN0), c3 * 5⟩] [⟨B, (aB.Cells.flatMap eN0)⟩, ⟨(aD 0), [vi 1, vi 0, vi 0, vi 0, vi 2]⟩] := hS13
     refine ⟨(hS13.se [0, 1, 2, 3]), ?_⟩
     refine rq 4 39 (v := .bool (!r_9)) rfl (hS13.se [0, 1, 2, 3]) (fun w' hw' => (Y_not (p := r_9) rfl rfl)) ?_
     refine ra_done (by kernel_rfl) ?_
     refine cw_cond (b := (!r_9)) rfl (fun hb2 => ?_) (fun hb2 => ?_)
     ·skip
      have hF5 := ct hF4 hb2
      refine cw_seq (cw_region ?_)
      refine sQ 2 (Y_assign (v := .bool false) rfl rfl) (rw_nil (cw_ret ?_))
      obtain rfl := some_inj hF5
      exact ret1 Tryz.results3 (v1 := .bool false) (resAt_tmp rfl) ⟨rfl, (hS13.sN [])⟩
     ·skip
      have hF6 := cf' hF4 hb2
      refine cw_skip (cw_seq (cw_region ?_))
      refine sQ 2 (Y_assign (v := .bool true) rfl rfl) (rw_nil (cw_ret ?_))
      obtain rfl := some_inj hF6
      exact ret1 Tryz.results3 (v1 := .bool true) (resAt_tmp rfl) ⟨rfl, (hS13.sN [])⟩
    exact allR_nil
   exact allR_nil
end Go.VK
