/- Walks: each Go function returns what its Lean function says. By program. -/
import Derived.Test.YteaclldklaocmaaReduceColumnFa
import Derived.Test.YteaclldklaocmaaReduceColumnW2
set_option linter.unusedVariables false
set_option maxRecDepth 100000
set_option maxHeartbeats 4000000
namespace Go.VK
open Go.RowKit
open Go.Proofs
open Go.IntKind
attribute [local irreducible] CW RW RA CV Y Yw Yc Ys RetOf
attribute [local irreducible] F_laws_szDyadicS F_laws_szMatrix F_spec_l1In F_spec_l1Has F_spec_l3Dim F_spec_l1All F_spec_l1Good F_spec_l1Even F_spec_l2Good F_spec_l3Good F_spec_l11Dim F_spec_l2C_ring F_spec_l1Root F_spec_l1Half F_spec_l2Low F_spec_l1Add F_spec_l2C_add F_spec_l1Mul F_spec_l2C_mul F_spec_l1Conj F_spec_l2Conj F_spec_l1Turn F_spec_l2Power F_spec_l2C_unit F_spec_l1Most F_spec_l3Exp F_spec_l11Scaled F_spec_l11Odd F_spec_l11Type F_spec_l11Pair F_spec_l11Power F_spec_l11Next F_spec_l1Neg F_spec_l2Neg F_spec_l2C_level F_spec_PhaseOf F_spec_l1Least F_spec_l2C_column F_spec_ReduceColumn F_laws_toRing F_laws_toDyadic F_laws_toDyadicS F_laws_toMatrix F_impl_within F_impl_isDim F_slices_IndexFunc_impl_Dyadic_impl_Dyadic F_slices_ContainsFunc_impl_Dyadic_impl_Dyadic F_impl_isCoef F_impl_IsValidRing F_impl_isEven F_impl_IsValidDyadic F_impl_IsValidMatrix_1 F_impl_IsValidMatrix F_impl_isLevelDim F_impl_ringIf F_impl_MulRing F_impl_DivRootTwo F_impl_DyadicOf F_impl_MulDyadic F_impl_Conjugate F_impl_ConjDyadic F_impl_NormSquare F_impl_MulRootTwo F_impl_raised F_impl_combined F_impl_AddRing F_impl_AddDyadic F_impl_whole F_impl_isColumn F_impl_LeastExp F_impl_MulOmega F_impl_phase F_impl_PhaseOf F_impl_finishing F_impl_ResidueType F_impl_nextPair F_impl_parities F_impl_MatchingPower F_impl_lowering F_impl_IsValidTwoLevel F_impl_matrixOf F_impl_small F_impl_levelCell F_impl_TwoLevelMatrix_1 F_impl_TwoLevelMatrix F_impl_Matrix_at F_impl_MulMatrix_1 F_impl_MulMatrix F_impl_ReduceColumn F_laws_eqTwoLevel F_laws_eqTwoLevelS F_laws_eqRing F_laws_eqDyadic F_laws_eqDyadicS F_laws_eqMatrix F_laws_markDyadicS F_laws_markMatrix F_laws_markTwoLevelS F_laws_heldTwoLevelS F_laws_FnExactReduceColumn
theorem c_impl_nextPair (list : List TRing) (B : Option Addr) (c n : Nat) (w0 : World) (hn : list.length = n) (hS : ST w0 [] w0 [] [⟨B, (list.flatMap enc_Ring)⟩]) {r_ : Int} {r_1 : Int} {r_2 : Bool} (hF : F_impl_nextPair list = some (r_, r_1, r_2)) :
  CV Try.prog 154 #[.slice B n c] w0 (fun v w' => v = .tuple #[vi r_, vi r_1, .bool r_2] ∧ ST w0 [] w' [] []) := by
 subst hn
 unfold F_impl_nextPair at hF
 refine cv_of_cw 45 Try.func154 rfl Try.ntmps154 rfl ?_
 refine cw_seq (cw_region ?_)
 refine sQ 2 (Y_assign (v := vi 0) rfl rfl) ?_
 refine sQ 3 (Y_assign (v := vi 0) rfl rfl) ?_
 refine sQ 4 (Y_assign (v := .bool false) rfl rfl) (rw_nil (cw_seq (cw_seq (cw_region ?_))))
 refine sQ 5 (Y_assign (v := vi 1) rfl rfl) (rw_nil ?_)
 obtain ⟨z, hz, hF1⟩ := bind_inv hF
 refine cw_block ?_
 refine cw_loop (fun k f w => ∃ (kind : Int), FF f [(0, .slice B list.length c), (5, vi kind)] ∧ ST w0 [] w [] [⟨B, (list.flatMap enc_Ring)⟩] ∧ whX (F_impl_nextPair_l1 list) k kind = some z) fuel ⟨1, (FF.cons rfl (FF.cons rfl FF.nil)), (hS.sel [] rfl rfl), hz⟩ ?_
 rintro k_ f w ⟨kind, hf, hS1, hL⟩
 obtain ⟨k_1, y, rfl, hb, hL1⟩ := whX_go hL
 unfold F_impl_nextPair_l1 at hb
 refine cw_seq (cw_seq (cw_region ?_))
 refine sQ 11 (Y_move (v := vi kind) rfl (hf.get 5 1 rfl)) ?_
 refine sQ 12 (Y_le (k := .i64) (a := kind) (b := 2) rfl rfl rfl) (rw_nil ?_)
 refine cw_cond (b := (decide (kind ≤ 2))) rfl (fun hb1 => ?_) (fun hb1 => ?_)
 ·skip
  have hF2 := ct hb hb1
  refine cw_skip (cw_seq (cw_block (cw_seq (cw_region ?_))))
  refine sS 15 (Ys_bslice0 (s := 1) (e := 3) hS1 k_sl_175_3 k_sz_3_1 rfl) ?_
  rintro _ w_ ⟨b, rfl, hS2⟩
  refine sQ 6 (Y_assign (v := .slice (aD b) 0 0) rfl rfl) (rw_nil (cw_seq (cw_seq (cw_region ?_))))
  refine sQ 16 (Y_move (v := .slice B list.length c) rfl (hf.get 0 0 rfl)) ?_
  refine sQ 17 (Y_len (B := B) (m := list.length) (c := c) k_sl_207_122 rfl rfl) ?_
  refine sQ 18 (Y_move (v := vi 0) rfl rfl) (rw_nil ?_)
  obtain ⟨hN, hF2⟩ := chk_inv hF2
  obtain ⟨z1, hz1, hF3⟩ := bind_inv hF2
  refine cw_block ?_
  refine cw_loop (fun k f w => ∃ (i : Nat) (rows : List Int) (B1 : Option Addr) (c1 : Nat), FF f [(0, .slice B list.length c), (5, vi kind), (6, .slice B1 rows.length c1), (16, .slice B list.length c), (17, vi (list.length : Int)), (18, vi (i : Int))] ∧ ST w0 [] w [⟨B1, 3, (rows.flatMap encI), c1 * 1⟩] [⟨B, (list.flatMap enc_Ring)⟩] ∧ i + k = list.length ∧ forN (F_impl_nextPair_l2 list kind) k i rows = some z1) list.length ⟨0, [], aD b, 0, (FF.cons (hf.get 0 0 rfl) (FF.cons (hf.get 5 1 rfl) (FF.cons rfl (FF.cons rfl (FF.cons rfl (FF.cons rfl FF.nil)))))), (hS2.sel [0] rfl rfl), Nat.zero_add _, hz1⟩ ?_
  rintro k_2 f w ⟨i, rows, B1, c1, hf1, hS3, hik1, hL2⟩
  refine cw_seq (cw_region ?_)
  refine sQ 19 (Y_lt (k := .i64) (a := (i : Int)) (b := (list.length : Int)) rfl (hf1.get 18 5 rfl) (hf1.get 17 4 rfl)) (rw_nil (cw_seq ?_))
  refine cw_cond (b := (decide ((i : Int) < (list.length : Int)))) rfl (fun hlt => ?_) (fun hlt => ?_)
  ·skip
   have hlt1 : i < list.length := by have h := of_decide_eq_true hlt; omega
   obtain ⟨k_3, rfl⟩ : ∃ k2, k_2 = k2 + 1 := ⟨k_2 - 1, by omega⟩
   obtain ⟨y1, hb2, hL3⟩ := forN_go hL2
   unfold F_impl_nextPair_l2 at hb2
   refine cw_skip (cw_seq ?_)
   obtain ⟨z2, hz2, hF4⟩ := bind_inv hb2
   refine cw_mid (fun f w => ∃ (rows1 : List Int) (B2 : Option Addr) (c2 : Nat), rows1 = z2 ∧ FF f [(0, .slice B list.length c), (5, vi kind), (6, .slice B2 rows1.length c2), (16, .slice B list.length c), (17, vi (list.length : Int)), (18, vi (i : Int))] ∧ ST w0 [] w [⟨B2, 3, (rows1.flatMap encI), c2 * 1⟩] [⟨B, (list.flatMap enc_Ring)⟩]) ?_ ?_
   ·skip
    refine cw_block (cw_seq (cw_region ?_))
    refine sQ 20 (Y_move (v := vi (i : Int)) rfl (hf1.get 18 5 rfl)) ?_
    obtain ⟨x, hx, hz2⟩ := bind_inv hz2
    refine sQ 21 (Y_index (B := B) (m := list.length) (c := c) (k := .i64) (i := (i : Int)) k_sl_207_122 k_sz_122_4 rfl (hf1.get 16 3 rfl) (hf1.get 18 5 rfl) (gi_isSome enc_Ring_len rfl (hS3.rf (i := 0) rfl) hx) (getI_nn hx) (getI_ltI hx rfl)) ?_
    refine sQ 22 (Y_loadA (B := B) (i := (i : Int).toNat * 4) (cs := (list.flatMap enc_Ring)) (vs := kR_ x) k_ag_122 k_sz_122_4 rfl rfl (hS3.rf (i := 0) rfl) (enc_Ring_len x) (gi_seg enc_Ring_len hx)) ?_
    refine sS 8 (Ys_alloc (T := 122) (cs := [vi 0, vi 0, vi 0, vi 0]) (m := 4) hS3 k_zero_122 rfl rfl rfl) ?_
    rintro _ w_1 ⟨b1, rfl, hS5⟩
    refine sQ 7 (Y_assign (v := vi (i : Int)) rfl rfl) ?_
    refine s0 (Ys_store (i := 1) (s := 4) (B := aD b1) (T' := 122) (v := gR_ x) (vs := kR_ x) (k := 0) (cs' := kR_ x) hS5 k_sz_122_4 rfl rfl rfl rfl rfl rfl rfl (lB rfl) rfl rfl) ?_
    rintro _ w_2 ⟨rfl, hS6⟩
    refine rw_nil (cw_seq (cw_region ?_))
    refine sQ 24 (Y_loadA (B := aD b1) (i := 0) (cs := kR_ x) (vs := kR_ x) k_ag_122 k_sz_122_4 rfl rfl (hS6.cf (i := 1) rfl) rfl rfl) ?_
    obtain ⟨⟨r_3, r_4⟩, hc, hz2⟩ := bind_inv hz2
    refine sc 25 rfl rfl (Yc_func (g := 217) (vs := [gR_ x]) k_call_217 rfl (mc rfl mn) (c_impl_ResidueType x _  (hS6.inn0 [] rfl) hc)) ?_
    rintro _ w_3 ⟨rfl, hd⟩
    have hS7 := hS6.out00 hd
    refine sQ 23 (Y_move (v := .tuple #[vi r_3, .bool r_4]) rfl rfl) ?_
    refine sQ 26 (Y_extract (v := vi r_3) rfl rfl rfl) ?_
    refine sQ 27 (Y_extract (v := .bool r_4) rfl rfl rfl) ?_
    refine sQ 9 (Y_assign (v := vi r_3) rfl rfl) ?_
    refine sQ 10 (Y_assign (v := .bool r_4) rfl rfl) (rw_nil (cw_seq (cw_region ?_)))
    refine sQ 28 (Y_move (v := vi r_3) rfl rfl) ?_
    refine sQ 29 (Y_move (v := vi kind) rfl (hf1.get 5 1 rfl)) ?_
    refine sQ 30 (Y_eq (k := .i64) (a := r_3) (b := kind) rfl rfl rfl) (rw_nil ?_)
    refine cw_cond (b := (r_3 == kind)) rfl (fun hb3 => ?_) (fun hb3 => ?_)
    ·skip
     have hF5 := ct hz2 hb3
     refine cw_region ?_
     refine sQ 31 (Y_move (v := .slice B1 rows.length c1) rfl (hf1.get 6 2 rfl)) ?_
     refine sQ 32 (Y_move (v := vi (i : Int)) rfl rfl) ?_
     refine sS 33 (Ys_bslice (s := 1) (len := 1) (vs := [(0, vi (i : Int))]) (cs := [vi (i : Int)]) (zs := [vi 0]) (m := 1) hS7 k_sl_175_3 k_sz_3_1 k_zc_3 rfl (mpc rfl mpn) rfl rfl rfl (by kernel_rfl) (by kernel_rfl) rfl) ?_
     rintro _ w_4 ⟨b2, rfl, hS8⟩
     obtain ⟨hap, hF5⟩ := chk_inv hF5
     refine sS 34 (Ys_append (s := 1) (by' := 8) (i := 0) (nn := rows.length) (c := c1) (k := 1) (len := (rows ++ [(i : Int)]).length) (B := B1) (xs := ([(i : Int)].flatMap encI)) (cs' := ((rows ++ [(i : Int)]).flatMap encI)) hS8 k_sl_175_3 k_sz_3_1 k_by_3_8 k_zero_3 rfl (by decide) rfl rfl rfl rfl (fm_lenn (l := rows) encI_len rfl) rfl (hS8.cf (i := 2) rfl) (fm_lenn (l := [(i : Int)]) encI_len rfl) (fm_one' (enc := encI) encI_one [(i : Int)]) (by have := hap; omega) (by have := hap; simp only [maxLen]; omega) (fm_app _ _) (app_len (l := rows) (l' := [(i : Int)]) rfl rfl)) ?_
     rintro _ w_5 ⟨B3, c3, rfl, hS9⟩
     refine sQ 6 (Y_assign (v := .slice B3 ((rows ++ [(i : Int)]).length) c3) rfl rfl) (rw_nil ?_)
     exact ⟨(rows ++ [(i : Int)]), B3, c3, (some_inj hF5), (FF.cons (hf1.get 0 0 rfl) (FF.cons (hf1.get 5 1 rfl) (FF.cons rfl (FF.cons (hf1.get 16 3 rfl) (FF.cons (hf1.get 17 4 rfl) (FF.cons (hf1.get 18 5 rfl) FF.nil)))))), (hS9.sel [0] rfl rfl)⟩
    ·skip
     have hF6 := cf' hz2 hb3
     refine cw_skip ?_
     exact ⟨rows, B1, c1, (some_inj hF6), (FF.cons (hf1.get 0 0 rfl) (FF.cons (hf1.get 5 1 rfl) (FF.cons (hf1.get 6 2 rfl) (FF.cons (hf1.get 16 3 rfl) (FF.cons (hf1.get 17 4 rfl) (FF.cons (hf1.get 18 5 rfl) FF.nil)))))), (hS7.sel [0] rfl rfl)⟩
   rintro f w ⟨rows1, B2, c2, rfl, hf2, hS4⟩
   refine cw_region ?_
   refine sQ 35 (Y_add (k := .i64) (a := (i : Int)) (b := 1) rfl (hf2.get 18 5 rfl) rfl) ?_
   refine sQ 18 (Y_move (v := vi (i64.wrap ((i : Int) + 1))) rfl rfl) (rw_nil ?_)
   obtain rfl := some_inj hF4
   exact ⟨k_3, Nat.lt_succ_self _, i + 1, rows1, B2, c2, (FF.cons (hf2.get 0 0 rfl) (FF.cons (hf2.get 5 1 rfl) (FF.cons (hf2.get 6 2 rfl) (FF.cons (hf2.get 16 3 rfl) (FF.cons (hf2.get 17 4 rfl) (FF.cons (congrArg (Value.int .i64) (wr_succ hlt1 hN)) FF.nil)))))), (hS4.sel [0] rfl rfl), (by omega), hL3⟩
  ·skip
   obtain rfl : k_2 = 0 := by have h := of_decide_eq_false hlt; omega
   refine cw_exit rfl ?_
   obtain rfl := some_inj hL2
   refine cw_seq (cw_region ?_)
   refine sQ 36 (Y_move (v := .slice B1 rows.length c1) rfl (hf1.get 6 2 rfl)) ?_
   refine sQ 37 (Y_len (B := B1) (m := rows.length) (c := c1) k_sl_175_3 rfl rfl) ?_
   refine sQ 38 (Y_ge (k := .i64) (a := (rows.length : Int)) (b := 2) rfl rfl rfl) (rw_nil ?_)
   refine cw_cond (b := (decide (2 ≤ (rows.length : Int)))) rfl (fun hb4 => ?_) (fun hb4 => ?_)
   ·skip
    have hF7 := ct hF3 hb4
    refine cw_seq ?_
    obtain ⟨x1, hx1, hF7⟩ := bind_inv hF7
    obtain ⟨x2, hx2, hF7⟩ := bind_inv hF7
    refine ra_start (hS3.se [0]).fn (by kernel_rfl) ?_
    have hS10 := hS3.drew
    refine rq 0 39 (v := .slice B1 rows.length c1) rfl (hS10.se [0]) (fun w' hw' => (Y_move (v := .slice B1 rows.length c1) rfl (hf1.get 6 2 rfl))) ?_
    refine rq 1 40 (v := pt B1 ((0 : Int).toNat * 1)) rfl (hS10.se [0]) (fun w' hw' => (Y_index (B := B1) (m := rows.length) (c := c1) (k := .i64) (i := 0) k_sl_175_3 k_sz_3_1 rfl rfl rfl (gi_isSome encI_len rfl (ST.cf hw' (i := 0) rfl) hx1) (getI_nn hx1) (getI_ltI hx1 rfl))) ?_
    refine rq 2 41 (v := vi x1) rfl (hS10.se [0]) (fun w' hw' => (Y_load1 (B := B1) (i := (0 : Int).toNat * 1) (cs := (rows.flatMap encI)) (v := vi x1) k_sc_3 rfl rfl (ST.cf hw' (i := 0) rfl) (gi_at0 encI_len hx1 rfl))) ?_
    refine rq 3 42 (v := .slice B1 rows.length c1) rfl (hS10.se [0]) (fun w' hw' => (Y_move (v := .slice B1 rows.length c1) rfl (hf1.get 6 2 rfl))) ?_
    refine rq 4 43 (v := pt B1 ((1 : Int).toNat * 1)) rfl (hS10.se [0]) (fun w' hw' => (Y_index (B := B1) (m := rows.length) (c := c1) (k := .i64) (i := 1) k_sl_175_3 k_sz_3_1 rfl rfl rfl (gi_isSome encI_len rfl (ST.cf hw' (i := 0) rfl) hx2) (getI_nn hx2) (getI_ltI hx2 rfl))) ?_
    refine rq 5 44 (v := vi x2) rfl (hS10.se [0]) (fun w' hw' => (Y_load1 (B := B1) (i := (1 : Int).toNat * 1) (cs := (rows.flatMap encI)) (v := vi x2) k_sc_3 rfl rfl (ST.cf hw' (i := 0) rfl) (gi_at0 encI_len hx2 rfl))) ?_
    refine rq 6 2 (v := vi x1) rfl (hS10.se [0]) (fun w' hw' => (Y_assign (v := vi x1) rfl rfl)) ?_
    refine rq 7 3 (v := vi x2) rfl (hS10.se [0]) (fun w' hw' => (Y_assign (v := vi x2) rfl rfl)) ?_
    refine rq 8 4 (v := .bool true) rfl (hS10.se [0]) (fun w' hw' => (Y_assign (v := .bool true) rfl rfl)) ?_
    refine ra_done (by kernel_rfl) ?_
    refine cw_ret ?_
    obtain rfl := some_inj hF7
    obtain rfl := some_inj hL1
    obtain ⟨rfl, rfl, rfl⟩ := pr3 (some_inj hF1)
    exact ret3 Try.results154 (v1 := vi x1) (resAt_tmp rfl) (v2 := vi x2) (resAt_tmp rfl) (v3 := .bool true) (resAt_tmp rfl) ⟨rfl, (hS10.sN [])⟩
   ·skip
    have hF8 := cf' hF3 hb4
    refine cw_skip (cw_region ?_)
    refine sQ 13 (Y_move (v := vi kind) rfl (hf1.get 5 1 rfl)) ?_
    refine sQ 14 (Y_add (k := .i64) (a := kind) (b := 1) rfl rfl rfl) ?_
    refine sQ 5 (Y_assign (v := vi (i64.wrap (kind + 1))) rfl rfl) (rw_nil ?_)
    obtain rfl := some_inj hF8
    exact ⟨k_1, Nat.lt_succ_self _, (i64.wrap (kind + 1)), (FF.cons (hf1.get 0 0 rfl) (FF.cons rfl FF.nil)), (hS3.sel [] rfl rfl), hL1⟩
 ·skip
  have hF9 := cf' hb hb1
  refine cw_exit rfl ?_
  obtain rfl := some_inj hF9
  obtain rfl := some_inj hL1
  refine cw_seq (cw_region ?_)
  refine sQ 2 (Y_assign (v := vi 0) rfl rfl) ?_
  refine sQ 3 (Y_assign (v := vi 0) rfl rfl) ?_
  refine sQ 4 (Y_assign (v := .bool false) rfl rfl) (rw_nil (cw_ret ?_))
  obtain ⟨rfl, rfl, rfl⟩ := pr3 (some_inj hF1)
  exact ret3 Try.results154 (v1 := vi 0) (resAt_tmp rfl) (v2 := vi 0) (resAt_tmp rfl) (v3 := .bool false) (resAt_tmp rfl) ⟨rfl, (hS1.sN [])⟩

theorem c_impl_parities (x : TRing)  (w0 : World)  (hS : ST w0 [] w0 [] []) {r_ : Bool} {r_1 : Bool} (hF : F_impl_parities x = some (r_, r_1)) :
  CV Try.prog 219 #[gR_ x] w0 (fun v w' => v = .tuple #[.bool r_, .bool r_1] ∧ ST w0 [] w' [] []) := by
 unfold F_impl_parities at hF
 refine cv_of_cw 24 Try.func219 rfl Try.ntmps219 rfl ?_
 refine cw_seq (cw_region ?_)
 refine sS 1 (Ys_box (T := 122) (v := gR_ x) (cs := kR_ x) (m := 4) hS rfl rfl rfl rfl) ?_
 rintro _ w_ ⟨b, rfl, hS1⟩
 refine sQ 2 (Y_assign (v := .bool false) rfl rfl) ?_
 refine sQ 3 (Y_assign (v := .bool false) rfl rfl) (rw_nil (cw_seq (cw_region ?_)))
 refine sQ 5 (Y_fieldAddr (B := aD b) (i := 0) (s := 0) k_fd_122_0_0_3 k_sz_3_1 rfl rfl) ?_
 refine sQ 6 (Y_load1 (B := aD b) (i := 0) (cs := kR_ x) (v := vi x.A) k_sc_3 rfl rfl (hS1.cf (i := 0) rfl) rfl) ?_
 refine sQ 7 (Y_band (k := .i64) (a := x.A) (b := 1) rfl rfl rfl) ?_
 refine sQ 8 (Y_fieldAddr (B := aD b) (i := 0) (s := 0) k_fd_122_1_1_3 k_sz_3_1 rfl rfl) ?_
 refine sQ 9 (Y_load1 (B := aD b) (i := 1) (cs := kR_ x) (v := vi x.B) k_sc_3 rfl rfl (hS1.cf (i := 0) rfl) rfl) ?_
 refine sQ 10 (Y_band (k := .i64) (a := x.B) (b := 1) rfl rfl rfl) ?_
 refine sQ 11 (Y_add (k := .i64) (a := (bits .and .i64 x.A 1)) (b := (bits .and .i64 x.B 1)) rfl rfl rfl) ?_
 refine sQ 12 (Y_fieldAddr (B := aD b) (i := 0) (s := 0) k_fd_122_2_2_3 k_sz_3_1 rfl rfl) ?_
 refine sQ 13 (Y_load1 (B := aD b) (i := 2) (cs := kR_ x) (v := vi x.C) k_sc_3 rfl rfl (hS1.cf (i := 0) rfl) rfl) ?_
 refine sQ 14 (Y_band (k := .i64) (a := x.C) (b := 1) rfl rfl rfl) ?_
 refine sQ 15 (Y_add (k := .i64) (a := (i64.wrap ((bits .and .i64 x.A 1) + (bits .and .i64 x.B 1)))) (b := (bits .and .i64 x.C 1)) rfl rfl rfl) ?_
 refine sQ 16 (Y_fieldAddr (B := aD b) (i := 0) (s := 0) k_fd_122_3_3_3 k_sz_3_1 rfl rfl) ?_
 refine sQ 17 (Y_load1 (B := aD b) (i := 3) (cs := kR_ x) (v := vi x.D) k_sc_3 rfl rfl (hS1.cf (i := 0) rfl) rfl) ?_
 refine sQ 18 (Y_band (k := .i64) (a := x.D) (b := 1) rfl rfl rfl) ?_
 refine sQ 19 (Y_add (k := .i64) (a := (i64.wrap ((i64.wrap ((bits .and .i64 x.A 1) + (bits .and .i64 x.B 1))) + (bits .and .i64 x.C 1)))) (b := (bits .and .i64 x.D 1)) rfl rfl rfl) ?_
 refine sQ 4 (Y_assign (v := vi (i64.wrap ((i64.wrap ((i64.wrap ((bits .and .i64 x.A 1) + (bits .and .i64 x.B 1))) + (bits .and .i64 x.C 1))) + (bits .and .i64 x.D 1)))) rfl rfl) (rw_nil (cw_seq (cw_region ?_)))
 refine sQ 20 (Y_move (v := vi (i64.wrap ((i64.wrap ((i64.wrap ((bits .and .i64 x.A 1) + (bits .and .i64 x.B 1))) + (bits .and .i64 x.C 1))) + (bits .and .i64 x.D 1)))) rfl rfl) ?_
 refine sQ 21 (Y_eq (k := .i64) (a := (i64.wrap ((i64.wrap ((i64.wrap ((bits .and .i64 x.A 1) + (bits .and .i64 x.B 1))) + (bits .and .i64 x.C 1))) + (bits .and .i64 x.D 1)))) (b := 0) rfl rfl rfl) ?_
 refine sQ 22 (Y_move (v := vi (i64.wrap ((i64.wrap ((i64.wrap ((bits .and .i64 x.A 1) + (bits .and .i64 x.B 1))) + (bits .and .i64 x.C 1))) + (bits .and .i64 x.D 1)))) rfl rfl) ?_
 refine sQ 23 (Y_eq (k := .i64) (a := (i64.wrap ((i64.wrap ((i64.wrap ((bits .and .i64 x.A 1) + (bits .and .i64 x.B 1))) + (bits .and .i64 x.C 1))) + (bits .and .i64 x.D 1)))) (b := 4) rfl rfl rfl) ?_
 refine sQ 2 (Y_assign (v := .bool ((i64.wrap ((i64.wrap ((i64.wrap ((bits .and .i64 x.A 1) + (bits .and .i64 x.B 1))) + (bits .and .i64 x.C 1))) + (bits .and .i64 x.D 1))) == 0)) rfl rfl) ?_
 refine sQ 3 (Y_assign (v := .bool ((i64.wrap ((i64.wrap ((i64.wrap ((bits .and .i64 x.A 1) + (bits .and .i64 x.B 1))) + (bits .and .i64 x.C 1))) + (bits .and .i64 x.D 1))) == 4)) rfl rfl) (rw_nil (cw_ret ?_))
 obtain ⟨rfl, rfl⟩ := pr2 (some_inj hF)
 exact ret2 Try.results219 (v1 := .bool ((i64.wrap ((i64.wrap ((i64.wrap ((bits .and .i64 x.A 1) + (bits .and .i64 x.B 1))) + (bits .and .i64 x.C 1))) + (bits .and .i64 x.D 1))) == 0)) (resAt_tmp rfl) (v2 := .bool ((i64.wrap ((i64.wrap ((i64.wrap ((bits .and .i64 x.A 1) + (bits .and .i64 x.B 1))) + (bits .and .i64 x.C 1))) + (bits .and .i64 x.D 1))) == 4)) (resAt_tmp rfl) ⟨rfl, (hS1.sN [])⟩

theorem c_impl_MatchingPower (x : TRing) (y : TRing)  (w0 : World)  (hS : ST w0 [] w0 [] []) {r_ : Int} {r_1 : Bool} (hF : F_impl_MatchingPower x y = some (r_, r_1)) :
  CV Try.prog 155 #[gR_ x, gR_ y] w0 (fun v w' => v = .tuple #[vi r_, .bool r_1] ∧ ST w0 [] w' [] []) := by
 unfold F_impl_MatchingPower at hF
 refine cv_of_cw 86 Try.func155 rfl Try.ntmps155 rfl ?_
 refine cw_seq (cw_region ?_)
 refine sS 2 (Ys_box (T := 122) (v := gR_ x) (cs := kR_ x) (m := 4) hS rfl rfl rfl rfl) ?_
 rintro _ w_ ⟨b, rfl, hS1⟩
 refine sS 3 (Ys_box (T := 122) (v := gR_ y) (cs := kR_ y) (m := 4) hS1 rfl rfl rfl rfl) ?_
 rintro _ w_1 ⟨b1, rfl, hS2⟩
 refine sQ 4 (Y_assign (v := vi 0) rfl rfl) ?_
 refine sQ 5 (Y_assign (v := .bool false) rfl rfl) (rw_nil (cw_seq (cw_region ?_)))
 refine sQ 17 (Y_loadA (B := aD b) (i := 0) (cs := kR_ x) (vs := kR_ x) k_ag_122 k_sz_122_4 rfl rfl (hS2.cf (i := 0) rfl) rfl rfl) ?_
 obtain ⟨⟨r_2, r_3⟩, hc, hF⟩ := bind_inv hF
 refine sc 18 rfl rfl (Yc_func (g := 217) (vs := [gR_ x]) k_call_217 rfl (mc rfl mn) (c_impl_ResidueType x _  (hS2.inn0 [] rfl) hc)) ?_
 rintro _ w_2 ⟨rfl, hd⟩
 have hS3 := hS2.out00 hd
 refine sQ 16 (Y_move (v := .tuple #[vi r_2, .bool r_3]) rfl rfl) ?_
 refine sQ 19 (Y_extract (v := vi r_2) rfl rfl rfl) ?_
 refine sQ 20 (Y_extract (v := .bool r_3) rfl rfl rfl) ?_
 refine sQ 6 (Y_assign (v := vi r_2) rfl rfl) ?_
 refine sQ 7 (Y_assign (v := .bool r_3) rfl rfl) (rw_nil (cw_seq (cw_region ?_)))
 refine sQ 22 (Y_loadA (B := aD b1) (i := 0) (cs := kR_ y) (vs := kR_ y) k_ag_122 k_sz_122_4 rfl rfl (hS3.cf (i := 1) rfl) rfl rfl) ?_
 obtain ⟨⟨r_4, r_5⟩, hc1, hF⟩ := bind_inv hF
 refine sc 23 rfl rfl (Yc_func (g := 217) (vs := [gR_ y]) k_call_217 rfl (mc rfl mn) (c_impl_ResidueType y _  (hS3.inn0 [] rfl) hc1)) ?_
 rintro _ w_3 ⟨rfl, hd1⟩
 have hS4 := hS3.out00 hd1
 refine sQ 21 (Y_move (v := .tuple #[vi r_4, .bool r_5]) rfl rfl) ?_
 refine sQ 24 (Y_extract (v := vi r_4) rfl rfl rfl) ?_
 refine sQ 25 (Y_extract (v := .bool r_5) rfl rfl rfl) ?_
 refine sQ 8 (Y_assign (v := vi r_4) rfl rfl) ?_
 refine sQ 9 (Y_assign (v := .bool r_5) rfl rfl) (rw_nil (cw_seq (cw_seq (cw_region ?_))))
 refine sQ 26 (Y_move (v := .bool r_3) rfl rfl) ?_
 refine sQ 27 (Y_not (p := r_3) rfl rfl) ?_
 refine sQ 28 (Y_move (v := .bool (!r_3)) rfl rfl) ?_
 refine sgq 29 (B := (!(!r_3))) (v := .bool r_5) rfl rfl (uF_ 28) (fun hg => (Y_move (v := .bool r_5) rfl rfl)) ?_
 refine sgq 30 (B := (!(!r_3))) (v := .bool (!r_5)) rfl rfl (uF_ 28) (fun hg1 => (Y_not (p := r_5) rfl (gv_of (v := .bool r_5) hg1))) ?_
 refine sQ 31 (Y_or (b := (!r_3)) (z := (!r_5)) rfl rfl rfl rfl) ?_
 refine sQ 32 (Y_move (v := .bool ((!r_3) || (!r_5))) rfl rfl) ?_
 refine sgq 33 (B := (!((!r_3) || (!r_5)))) (v := vi r_2) rfl rfl (uF_ 32) (fun hg2 => (Y_move (v := vi r_2) rfl rfl)) ?_
 refine sgq 34 (B := (!((!r_3) || (!r_5)))) (v := vi r_4) rfl rfl (uF_ 32) (fun hg3 => (Y_move (v := vi r_4) rfl rfl)) ?_
 refine sgq 35 (B := (!((!r_3) || (!r_5)))) (v := .bool (r_2 != r_4)) rfl rfl (uF_ 32) (fun hg4 => (Y_ne (k := .i64) (a := r_2) (b := r_4) rfl (gv_of (v := vi r_2) hg4) (gv_of (v := vi r_4) hg4))) ?_
 refine sQ 36 (Y_or (b := ((!r_3) || (!r_5))) (z := (r_2 != r_4)) rfl rfl rfl rfl) ?_
 refine sQ 37 (Y_move (v := .bool (((!r_3) || (!r_5)) || (r_2 != r_4))) rfl rfl) ?_
 refine sgq 38 (B := (!(((!r_3) || (!r_5)) || (r_2 != r_4)))) (v := vi r_2) rfl rfl (uF_ 37) (fun hg5 => (Y_move (v := vi r_2) rfl rfl)) ?_
 refine sgq 39 (B := (!(((!r_3) || (!r_5)) || (r_2 != r_4)))) (v := .bool (r_2 == 0)) rfl rfl (uF_ 37) (fun hg6 => (Y_eq (k := .i64) (a := r_2) (b := 0) rfl (gv_of (v := vi r_2) hg6) rfl)) ?_
 refine sQ 40 (Y_or (b := (((!r_3) || (!r_5)) || (r_2 != r_4))) (z := (r_2 == 0)) rfl rfl rfl rfl) (rw_nil ?_)
 refine cw_cond (b := ((((!r_3) || (!r_5)) || (r_2 != r_4)) || (r_2 == 0))) rfl (fun hb => ?_) (fun hb => ?_)
 ·skip
  have hF1 := ct hF hb
  refine cw_seq (cw_region ?_)
  refine sQ 4 (Y_assign (v := vi 0) rfl rfl) ?_
  refine sQ 5 (Y_assign (v := .bool false) rfl rfl) (rw_nil (cw_ret ?_))
  obtain ⟨rfl, rfl⟩ := pr2 (some_inj hF1)
  exact ret2 Try.results155 (v1 := vi 0) (resAt_tmp rfl) (v2 := .bool false) (resAt_tmp rfl) ⟨rfl, (hS4.sN [])⟩
 ·skip
  have hF2 := cf' hF hb
  refine cw_skip (cw_seq (cw_seq (cw_region ?_)))
  refine sQ 41 (Y_move (v := vi 0) rfl rfl) (rw_nil ?_)
  obtain ⟨z, hz, hF3⟩ := bind_inv hF2
  refine cw_block ?_
  refine cw_loop (fun k f w => ∃ (i : Nat), FF f [(2, pt (aD b) 0), (3, pt (aD b1) 0), (6, vi r_2), (41, vi (i : Int))] ∧ ST w0 [] w [⟨aD b, 122, kR_ x, 4⟩, ⟨aD b1, 122, kR_ y, 4⟩] [] ∧ i + k = 8 ∧ forX (F_impl_MatchingPower_l1 y x r_2) k i () = some z) 8 ⟨0, (FF.cons rfl (FF.cons rfl (FF.cons rfl (FF.cons rfl FF.nil)))), (hS4.sel [0, 1] rfl rfl), Nat.zero_add _, hz⟩ ?_
  rintro k_ f w ⟨i, hf, hS5, hik, hL⟩
  refine cw_seq (cw_region ?_)
  refine sQ 42 (Y_lt (k := .i64) (a := (i : Int)) (b := 8) rfl (hf.get 41 3 rfl) rfl) (rw_nil (cw_seq ?_))
  refine cw_cond (b := (decide ((i : Int) < 8))) rfl (fun hlt => ?_) (fun hlt => ?_)
  ·skip
   have hlt1 : i < 8 := by have h := of_decide_eq_true hlt; omega
   obtain ⟨k_1, rfl⟩ : ∃ k2, k_ = k2 + 1 := ⟨k_ - 1, by omega⟩
   obtain ⟨y1, hb1, hL1⟩ := forX_go hL
   unfold F_impl_MatchingPower_l1 at hb1
   refine cw_skip (cw_seq (cw_block (cw_seq (cw_region ?_))))
   refine sQ 43 (Y_move (v := vi (i : Int)) rfl (hf.get 41 3 rfl)) ?_
   refine sQ 10 (Y_assign (v := vi (i : Int)) rfl rfl) (rw_nil (cw_seq (cw_region ?_)))
   refine sQ 45 (Y_loadA (B := aD b1) (i := 0) (cs := kR_ y) (vs := kR_ y) k_ag_122 k_sz_122_4 rfl (hf.get 3 1 rfl) (hS5.cf (i := 1) rfl) rfl rfl) ?_
   refine sQ 46 (Y_move (v := vi (i : Int)) rfl rfl) ?_
   obtain ⟨⟨r_6, r_7⟩, hc2, hb1⟩ := bind_inv hb1
   refine sc 47 rfl rfl (Yc_func (g := 218) (vs := [gR_ y, vi (i : Int)]) k_call_218 rfl (mc rfl (mc rfl mn)) (c_impl_MulOmega y (i : Int) _  (hS5.inn0 [] rfl) hc2)) ?_
   rintro _ w_4 ⟨rfl, hd2⟩
   have hS6 := hS5.out00 hd2
   refine sQ 44 (Y_move (v := .tuple #[gR_ r_6, .bool r_7]) rfl rfl) ?_
   refine sQ 48 (Y_extract (v := gR_ r_6) rfl rfl rfl) ?_
   refine sQ 49 (Y_extract (v := .bool r_7) rfl rfl rfl) ?_
   refine sS 11 (Ys_alloc (T := 122) (cs := [vi 0, vi 0, vi 0, vi 0]) (m := 4) hS6 k_zero_122 rfl rfl rfl) ?_
   rintro _ w_5 ⟨b2, rfl, hS7⟩
   refine s0 (Ys_store (i := 2) (s := 4) (B := aD b2) (T' := 122) (v := gR_ r_6) (vs := kR_ r_6) (k := 0) (cs' := kR_ r_6) hS7 k_sz_122_4 rfl rfl rfl rfl rfl rfl rfl (lB rfl) rfl rfl) ?_
   rintro _ w_6 ⟨rfl, hS8⟩
   refine sQ 12 (Y_assign (v := .bool r_7) rfl rfl) (rw_nil (cw_seq (cw_region ?_)))
   refine sQ 50 (Y_fieldAddr (B := aD b) (i := 0) (s := 0) k_fd_122_0_0_3 k_sz_3_1 rfl (hf.get 2 0 rfl)) ?_
   refine sQ 51 (Y_load1 (B := aD b) (i := 0) (cs := kR_ x) (v := vi x.A) k_sc_3 rfl rfl (hS8.cf (i := 0) rfl) rfl) ?_
   refine sQ 52 (Y_fieldAddr (B := aD b2) (i := 0) (s := 0) k_fd_122_0_0_3 k_sz_3_1 rfl rfl) ?_
   refine sQ 53 (Y_load1 (B := aD b2) (i := 0) (cs := kR_ r_6) (v := vi r_6.A) k_sc_3 rfl rfl (hS8.cf (i := 2) rfl) rfl) ?_
   refine sQ 54 (Y_add (k := .i64) (a := x.A) (b := r_6.A) rfl rfl rfl) ?_
   refine sQ 55 (Y_fieldAddr (B := aD b) (i := 0) (s := 0) k_fd_122_1_1_3 k_sz_3_1 rfl (hf.get 2 0 rfl)) ?_
   refine sQ 56 (Y_load1 (B := aD b) (i := 1) (cs := kR_ x) (v := vi x.B) k_sc_3 rfl rfl (hS8.cf (i := 0) rfl) rfl) ?_
   refine sQ 57 (Y_fieldAddr (B := aD b2) (i := 0) (s := 0) k_fd_122_1_1_3 k_sz_3_1 rfl rfl) ?_
   refine sQ 58 (Y_load1 (B := aD b2) (i := 1) (cs := kR_ r_6) (v := vi r_6.B) k_sc_3 rfl rfl (hS8.cf (i := 2) rfl) rfl) ?_
   refine sQ 59 (Y_add (k := .i64) (a := x.B) (b := r_6.B) rfl rfl rfl) ?_
   refine sQ 60 (Y_fieldAddr (B := aD b) (i := 0) (s := 0) k_fd_122_2_2_3 k_sz_3_1 rfl (hf.get 2 0 rfl)) ?_
   refine sQ 61 (Y_load1 (B := aD b) (i := 2) (cs := kR_ x) (v := vi x.C) k_sc_3 rfl rfl (hS8.cf (i := 0) rfl) rfl) ?_
   refine sQ 62 (Y_fieldAddr (B := aD b2) (i := 0) (s := 0) k_fd_122_2_2_3 k_sz_3_1 rfl rfl) ?_
   refine sQ 63 (Y_load1 (B := aD b2) (i := 2) (cs := kR_ r_6) (v := vi r_6.C) k_sc_3 rfl rfl (hS8.cf (i := 2) rfl) rfl) ?_
   refine sQ 64 (Y_add (k := .i64) (a := x.C) (b := r_6.C) rfl rfl rfl) ?_
   refine sQ 65 (Y_fieldAddr (B := aD b) (i := 0) (s := 0) k_fd_122_3_3_3 k_sz_3_1 rfl (hf.get 2 0 rfl)) ?_
   refine sQ 66 (Y_load1 (B := aD b) (i := 3) (cs := kR_ x) (v := vi x.D) k_sc_3 rfl rfl (hS8.cf (i := 0) rfl) rfl) ?_
   refine sQ 67 (Y_fieldAddr (B := aD b2) (i := 0) (s := 0) k_fd_122_3_3_3 k_sz_3_1 rfl rfl) ?_
   refine sQ 68 (Y_load1 (B := aD b2) (i := 3) (cs := kR_ r_6) (v := vi r_6.D) k_sc_3 rfl rfl (hS8.cf (i := 2) rfl) rfl) ?_
   refine sQ 69 (Y_add (k := .i64) (a := x.D) (b := r_6.D) rfl rfl rfl) ?_
   refine sQ 70 (Y_buildS (zs := [vi 0, vi 0, vi 0, vi 0]) (vs := [(0, vi (i64.wrap (x.A + r_6.A))), (1, vi (i64.wrap (x.B + r_6.B))), (2, vi (i64.wrap (x.C + r_6.C))), (3, vi (i64.wrap (x.D + r_6.D)))]) (cs := [vi (i64.wrap (x.A + r_6.A)), vi (i64.wrap (x.B + r_6.B)), vi (i64.wrap (x.C + r_6.C)), vi (i64.wrap (x.D + r_6.D))]) k_pl_122 k_zero_122 rfl (mpc rfl (mpc rfl (mpc rfl (mpc rfl mpn)))) rfl) ?_
   refine sS 13 (Ys_alloc (T := 122) (cs := [vi 0, vi 0, vi 0, vi 0]) (m := 4) hS8 k_zero_122 rfl rfl rfl) ?_
   rintro _ w_7 ⟨b3, rfl, hS9⟩
   refine s0 (Ys_store (i := 3) (s := 4) (B := aD b3) (T' := 122) (v := .agg #[vi (i64.wrap (x.A + r_6.A)), vi (i64.wrap (x.B + r_6.B)), vi (i64.wrap (x.C + r_6.C)), vi (i64.wrap (x.D + r_6.D))]) (vs := [vi (i64.wrap (x.A + r_6.A)), vi (i64.wrap (x.B + r_6.B)), vi (i64.wrap (x.C + r_6.C)), vi (i64.wrap (x.D + r_6.D))]) (k := 0) (cs' := [vi (i64.wrap (x.A + r_6.A)), vi (i64.wrap (x.B + r_6.B)), vi (i64.wrap (x.C + r_6.C)), vi (i64.wrap (x.D + r_6.D))]) hS9 k_sz_122_4 rfl rfl rfl rfl rfl rfl rfl (lB rfl) rfl rfl) ?_
   rintro _ w_8 ⟨rfl, hS10⟩
   refine rw_nil (cw_seq (cw_region ?_))
   refine sQ 72 (Y_loadA (B := aD b3) (i := 0) (cs := [vi (i64.wrap (x.A + r_6.A)), vi (i64.wrap (x.B + r_6.B)), vi (i64.wrap (x.C + r_6.C)), vi (i64.wrap (x.D + r_6.D))]) (vs := [vi (i64.wrap (x.A + r_6.A)), vi (i64.wrap (x.B + r_6.B)), vi (i64.wrap (x.C + r_6.C)), vi (i64.wrap (x.D + r_6.D))]) k_ag_122 k_sz_122_4 rfl rfl (hS10.cf (i := 3) rfl) rfl rfl) ?_
   obtain ⟨⟨r_8, r_9⟩, hc3, hb1⟩ := bind_inv hb1
   refine sc 73 rfl rfl (Yc_func (g := 219) (vs := [.agg #[vi (i64.wrap (x.A + r_6.A)), vi (i64.wrap (x.B + r_6.B)), vi (i64.wrap (x.C + r_6.C)), vi (i64.wrap (x.D + r_6.D))]]) k_call_219 rfl (mc rfl mn) (c_impl_parities (TRing.mk (i64.wrap (x.A + r_6.A)) (i64.wrap (x.B + r_6.B)) (i64.wrap (x.C + r_6.C)) (i64.wrap (x.D + r_6.D))) _  (hS10.inn0 [] rfl) hc3)) ?_
   rintro _ w_9 ⟨rfl, hd3⟩
   have hS11 := hS10.out00 hd3
   refine sQ 71 (Y_move (v := .tuple #[.bool r_8, .bool r_9]) rfl rfl) ?_
   refine sQ 74 (Y_extract (v := .bool r_8) rfl rfl rfl) ?_
   refine sQ 75 (Y_extract (v := .bool r_9) rfl rfl rfl) ?_
   refine sQ 14 (Y_assign (v := .bool r_8) rfl rfl) ?_
   refine sQ 15 (Y_assign (v := .bool r_9) rfl rfl) (rw_nil (cw_seq (cw_region ?_)))
   refine sQ 76 (Y_move (v := .bool r_8) rfl rfl) ?_
   refine sQ 77 (Y_move (v := .bool r_8) rfl rfl) ?_
   refine sgq 78 (B := (!r_8)) (v := .bool r_9) rfl rfl (uF_ 77) (fun hg7 => (Y_move (v := .bool r_9) rfl rfl)) ?_
   refine sgq 79 (B := (!r_8)) (v := .bool r_9) rfl rfl (uF_ 77) (fun hg8 => (Y_move (v := .bool r_9) rfl (gv_of (v := .bool r_9) hg8))) ?_
   refine sgq 80 (B := ((!r_8) && r_9)) (v := vi r_2) rfl rfl (wt_gt (gd_of (t := 79) (by kernel_rfl) rfl)) (fun hg9 => (Y_move (v := vi r_2) rfl (hf.get 6 2 rfl))) ?_
   refine sgq 81 (B := ((!r_8) && r_9)) (v := .bool (r_2 == 1)) rfl rfl (wt_gt (gd_of (t := 79) (by kernel_rfl) rfl)) (fun hg10 => (Y_eq (k := .i64) (a := r_2) (b := 1) rfl (gv_of (v := vi r_2) hg10) rfl)) ?_
   refine sgq 82 (B := (!r_8)) (v := .bool (r_9 && (r_2 == 1))) rfl rfl (uF_ 77) (fun hg11 => (Y_and (b := r_9) (z := (r_2 == 1)) rfl (gv_of (v := .bool r_9) hg11) (gv_and (B := (!r_8)) (C := r_9) (v := .bool (r_2 == 1)) hg11) rfl)) ?_
   refine sQ 83 (Y_or (b := r_8) (z := (r_9 && (r_2 == 1))) rfl rfl rfl rfl) (rw_nil ?_)
   refine cw_cond (b := (r_8 || (r_9 && (r_2 == 1)))) rfl (fun hb2 => ?_) (fun hb2 => ?_)
   ·skip
    have hF4 := ct hb1 hb2
    refine cw_seq (cw_region ?_)
    refine sQ 84 (Y_move (v := vi (i : Int)) rfl rfl) ?_
    refine sQ 4 (Y_assign (v := vi (i : Int)) rfl rfl) ?_
    refine sQ 5 (Y_assign (v := .bool true) rfl rfl) (rw_nil (cw_ret ?_))
    obtain rfl := some_inj hF4
    obtain rfl := some_inj hL1
    obtain ⟨rfl, rfl⟩ := pr2 (some_inj hF3)
    exact ret2 Try.results155 (v1 := vi (i : Int)) (resAt_tmp rfl) (v2 := .bool true) (resAt_tmp rfl) ⟨rfl, (hS11.sN [])⟩
   ·skip
    have hF5 := cf' hb1 hb2
    refine cw_skip (cw_region ?_)
    refine sQ 85 (Y_add (k := .i64) (a := (i : Int)) (b := 1) rfl (hf.get 41 3 rfl) rfl) ?_
    refine sQ 41 (Y_move (v := vi (i64.wrap ((i : Int) + 1))) rfl rfl) (rw_nil ?_)
    obtain rfl := some_inj hF5
    exact ⟨k_1, Nat.lt_succ_self _, i + 1, (FF.cons (hf.get 2 0 rfl) (FF.cons (hf.get 3 1 rfl) (FF.cons (hf.get 6 2 rfl) (FF.cons (congrArg (Value.int .i64) (wr_succ hlt1 (show 8 ≤ 9223372036854775807 by decide))) FF.nil)))), (hS11.sel [0, 1] rfl rfl), (by omega), hL1⟩
  ·skip
   obtain rfl : k_ = 0 := by have h := of_decide_eq_false hlt; omega
   refine cw_exit rfl ?_
   obtain rfl := some_inj hL
   refine cw_seq (cw_region ?_)
   refine sQ 4 (Y_assign (v := vi 0) rfl rfl) ?_
   refine sQ 5 (Y_assign (v := .bool false) rfl rfl) (rw_nil (cw_ret ?_))
   obtain ⟨rfl, rfl⟩ := pr2 (some_inj hF3)
   exact ret2 Try.results155 (v1 := vi 0) (resAt_tmp rfl) (v2 := .bool false) (resAt_tmp rfl) ⟨rfl, (hS5.sN [])⟩

theorem c_impl_lowering (v_ : TMatrix) (k_ : Int) (B : Option Addr) (c n : Nat) (w0 : World) (hn : v_.Cells.length = n) (hS : ST w0 [] w0 [] [⟨B, (v_.Cells.flatMap eN0)⟩]) {r_ : TTwoLevel} {r_1 : Bool} (hF : F_impl_lowering v_ k_ = some (r_, r_1)) :
  CV Try.prog 83 #[.agg #[vi v_.Rows, vi v_.Cols, .slice B n c], vi k_] w0 (fun v w' => v = .tuple #[.agg #[vi r_.Kind, vi r_.I, vi r_.J, vi r_.M_], .bool r_1] ∧ ST w0 [] w' [] []) := by
 subst hn
 unfold F_impl_lowering at hF
 refine cv_of_cw 64 Try.func83 rfl Try.ntmps83 rfl ?_
 refine cw_seq (cw_region ?_)
 refine sS 2 (Ys_box (T := 75) (v := gM_ v_ B c) (cs := kM_ v_ B c) (m := 3) hS rfl rfl rfl rfl) ?_
 rintro _ w_ ⟨b, rfl, hS1⟩
 refine sS 4 (Ys_alloc (T := 133) (cs := [vi 0, vi 0, vi 0, vi 0]) (m := 4) hS1 k_zero_133 rfl rfl rfl) ?_
 rintro _ w_1 ⟨b1, rfl, hS2⟩
 refine sQ 5 (Y_assign (v := .bool false) rfl rfl) (rw_nil (cw_seq (cw_region ?_)))
 refine sS 16 (Ys_bslice0 (s := 4) (e := 122) hS2 k_sl_207_122 k_sz_122_4 rfl) ?_
 rintro _ w_2 ⟨b2, rfl, hS3⟩
 refine sQ 6 (Y_assign (v := .slice (aD b2) 0 0) rfl rfl) (rw_nil (cw_seq (cw_seq (cw_region ?_))))
 refine sQ 17 (Y_fieldAddr (B := aD b) (i := 0) (s := 0) k_fd_75_2_2_73 k_sz_73_1 rfl rfl) ?_
 refine sQ 18 (Y_load1 (B := aD b) (i := 2) (cs := kM_ v_ B c) (v := .slice B v_.Cells.length c) k_sc_73 rfl rfl (hS3.cf (i := 0) rfl) rfl) ?_
 refine sQ 19 (Y_len (B := B) (m := v_.Cells.length) (c := c) k_sl_73_124 rfl rfl) ?_
 refine sQ 20 (Y_move (v := vi 0) rfl rfl) (rw_nil ?_)
 obtain ⟨hN, hF⟩ := chk_inv hF
 obtain ⟨z, hz, hF1⟩ := bind_inv hF
 refine cw_block ?_
 refine cw_loop (fun k f w => ∃ (i : Nat) (list : List TRing) (B1 : Option Addr) (c1 : Nat), FF f [(1, vi k_), (4, pt (aD b1) 0), (6, .slice B1 list.length c1), (18, .slice B v_.Cells.length c), (19, vi (v_.Cells.length : Int)), (20, vi (i : Int))] ∧ ST w0 [] w [⟨aD b1, 133, [vi 0, vi 0, vi 0, vi 0], 4⟩, ⟨B1, 122, (list.flatMap enc_Ring), c1 * 4⟩] [⟨B, (v_.Cells.flatMap eN0)⟩] ∧ i + k = v_.Cells.length ∧ forX (F_impl_lowering_l1 v_ k_) k i list = some z) v_.Cells.length ⟨0, [], aD b2, 0, (FF.cons rfl (FF.cons rfl (FF.cons rfl (FF.cons rfl (FF.cons rfl (FF.cons rfl FF.nil)))))), (hS3.sel [1, 2] rfl rfl), Nat.zero_add _, hz⟩ ?_
 rintro k_1 f w ⟨i, list, B1, c1, hf, hS4, hik, hL⟩
 refine cw_seq (cw_region ?_)
 refine sQ 21 (Y_lt (k := .i64) (a := (i : Int)) (b := (v_.Cells.length : Int)) rfl (hf.get 20 5 rfl) (hf.get 19 4 rfl)) (rw_nil (cw_seq ?_))
 refine cw_cond (b := (decide ((i : Int) < (v_.Cells.length : Int)))) rfl (fun hlt => ?_) (fun hlt => ?_)
 ·skip
  have hlt1 : i < v_.Cells.length := by have h := of_decide_eq_true hlt; omega
  obtain ⟨k_2, rfl⟩ : ∃ k2, k_1 = k2 + 1 := ⟨k_1 - 1, by omega⟩
  obtain ⟨y, hb, hL1⟩ := forX_go hL
  unfold F_impl_lowering_l1 at hb
  refine cw_skip (cw_seq (cw_block (cw_seq (cw_region ?_))))
  obtain ⟨x, hx, hb⟩ := bind_inv hb
  refine sQ 22 (Y_index (B := B) (m := v_.Cells.length) (c := c) (k := .i64) (i := (i : Int)) k_sl_73_124 k_sz_124_5 rfl (hf.get 18 3 rfl) (hf.get 20 5 rfl) (gi_isSome eN1 rfl (hS4.rf (i := 0) rfl) hx) (getI_nn hx) (getI_ltI hx rfl)) ?_
  refine sQ 23 (Y_loadA (B := B) (i := (i : Int).toNat * 5) (cs := (v_.Cells.flatMap eN0)) (vs := kD_ x) k_ag_124 k_sz_124_5 rfl rfl (hS4.rf (i := 0) rfl) (eN1 x) (gi_seg eN1 hx)) ?_
  refine sS 8 (Ys_alloc (T := 124) (cs := kZ_) (m := 5) hS4 k_zero_124 rfl rfl rfl) ?_
  rintro _ w_3 ⟨b3, rfl, hS5⟩
  refine s0 (Ys_store (i := 2) (s := 5) (B := aD b3) (T' := 124) (v := gD_ x) (vs := kD_ x) (k := 0) (cs' := kD_ x) hS5 k_sz_124_5 rfl rfl rfl rfl rfl rfl rfl (lB rfl) rfl rfl) ?_
  rintro _ w_4 ⟨rfl, hS6⟩
  refine rw_nil (cw_seq (cw_region ?_))
  refine sQ 25 (Y_loadA (B := aD b3) (i := 0) (cs := kD_ x) (vs := kD_ x) k_ag_124 k_sz_124_5 rfl rfl (hS6.cf (i := 2) rfl) rfl rfl) ?_
  refine sQ 26 (Y_move (v := vi k_) rfl (hf.get 1 0 rfl)) ?_
  obtain ⟨⟨r_2, r_3⟩, hc, hb⟩ := bind_inv hb
  refine sc 27 rfl rfl (Yc_func (g := 153) (vs := [gD_ x, vi k_]) k_call_153 rfl (mc rfl (mc rfl mn)) (c_impl_raised x k_ _  (hS6.inn0 [] rfl) hc)) ?_
  rintro _ w_5 ⟨rfl, hd⟩
  have hS7 := hS6.out00 hd
  refine sQ 24 (Y_move (v := .tuple #[gR_ r_2, .bool r_3]) rfl rfl) ?_
  refine sQ 28 (Y_extract (v := gR_ r_2) rfl rfl rfl) ?_
  refine sQ 29 (Y_extract (v := .bool r_3) rfl rfl rfl) ?_
  refine sS 9 (Ys_alloc (T := 122) (cs := [vi 0, vi 0, vi 0, vi 0]) (m := 4) hS7 k_zero_122 rfl rfl rfl) ?_
  rintro _ w_6 ⟨b4, rfl, hS8⟩
  refine s0 (Ys_store (i := 3) (s := 4) (B := aD b4) (T' := 122) (v := gR_ r_2) (vs := kR_ r_2) (k := 0) (cs' := kR_ r_2) hS8 k_sz_122_4 rfl rfl rfl rfl rfl rfl rfl (lB rfl) rfl rfl) ?_
  rintro _ w_7 ⟨rfl, hS9⟩
  refine sQ 10 (Y_assign (v := .bool r_3) rfl rfl) (rw_nil (cw_seq (cw_seq (cw_region ?_))))
  refine sQ 30 (Y_move (v := .bool r_3) rfl rfl) ?_
  refine sQ 31 (Y_not (p := r_3) rfl rfl) (rw_nil ?_)
  refine cw_cond (b := (!r_3)) rfl (fun hb1 => ?_) (fun hb1 => ?_)
  ·skip
   have hF2 := ct hb hb1
   refine cw_seq (cw_region ?_)
   refine sQ 32 (Y_buildS (zs := [vi 0, vi 0, vi 0, vi 0]) (vs := []) (cs := [vi 0, vi 0, vi 0, vi 0]) k_pl_133 k_zero_133 rfl mpn rfl) ?_
   refine s0 (Ys_store (i := 0) (s := 4) (B := aD b1) (T' := 133) (v := .agg #[vi 0, vi 0, vi 0, vi 0]) (vs := [vi 0, vi 0, vi 0, vi 0]) (k := 0) (cs' := [vi 0, vi 0, vi 0, vi 0]) hS9 k_sz_133_4 rfl (hf.get 4 1 rfl) rfl rfl rfl rfl rfl (lB rfl) rfl rfl) ?_
   rintro _ w_8 ⟨rfl, hS10⟩
   refine sQ 5 (Y_assign (v := .bool false) rfl rfl) (rw_nil (cw_ret ?_))
   obtain rfl := some_inj hF2
   obtain rfl := some_inj hL1
   obtain ⟨rfl, rfl⟩ := pr2 (some_inj hF1)
   exact ret2 Try.results83 (v1 := .agg #[vi 0, vi 0, vi 0, vi 0]) (resAt_cellA (B := aD b1) (i := 0) (cs := [vi 0, vi 0, vi 0, vi 0]) (vs := [vi 0, vi 0, vi 0, vi 0]) (hf.get 4 1 rfl) k_ag_133 k_sz_133_4 (hS10.cf (i := 0) rfl) rfl rfl) (v2 := .bool false) (resAt_tmp rfl) ⟨rfl, (hS10.sN [])⟩
  ·skip
   have hF3 := cf' hb hb1
   refine cw_skip (cw_region ?_)
   refine sQ 33 (Y_move (v := .slice B1 list.length c1) rfl (hf.get 6 2 rfl)) ?_
   refine sQ 34 (Y_loadA (B := aD b4) (i := 0) (cs := kR_ r_2) (vs := kR_ r_2) k_ag_122 k_sz_122_4 rfl rfl (hS9.cf (i := 3) rfl) rfl rfl) ?_
   refine sS 35 (Ys_bslice (s := 4) (len := 1) (vs := [(0, gR_ r_2)]) (cs := kR_ r_2) (zs := [vi 0, vi 0, vi 0, vi 0]) (m := 4) hS9 k_sl_207_122 k_sz_122_4 k_zc_122 rfl (mpc rfl mpn) rfl rfl rfl (by kernel_rfl) (by kernel_rfl) rfl) ?_
   rintro _ w_9 ⟨b5, rfl, hS11⟩
   obtain ⟨hap, hF3⟩ := chk_inv hF3
   refine sS 36 (Ys_append (s := 4) (by' := 32) (i := 1) (nn := list.length) (c := c1) (k := 1) (len := (list ++ [r_2]).length) (B := B1) (xs := ([r_2].flatMap enc_Ring)) (cs' := ((list ++ [r_2]).flatMap enc_Ring)) hS11 k_sl_207_122 k_sz_122_4 k_by_122_32 k_zero_122 rfl (by decide) rfl rfl rfl rfl (fm_lenn (l := list) enc_Ring_len rfl) rfl (hS11.cf (i := 4) rfl) (fm_lenn (l := [r_2]) enc_Ring_len rfl) (fm_one' (enc := enc_Ring) enc_Ring_one [r_2]) (by have := hap; omega) (by have := hap; simp only [maxLen]; omega) (fm_app _ _) (app_len (l := list) (l' := [r_2]) rfl rfl)) ?_
   rintro _ w_10 ⟨B2, c2, rfl, hS12⟩
   refine sQ 6 (Y_assign (v := .slice B2 ((list ++ [r_2]).length) c2) rfl rfl) (rw_nil (cw_region ?_))
   refine sQ 37 (Y_add (k := .i64) (a := (i : Int)) (b := 1) rfl (hf.get 20 5 rfl) rfl) ?_
   refine sQ 20 (Y_move (v := vi (i64.wrap ((i : Int) + 1))) rfl rfl) (rw_nil ?_)
   obtain rfl := some_inj hF3
   exact ⟨k_2, Nat.lt_succ_self _, i + 1, (list ++ [r_2]), B2, c2, (FF.cons (hf.get 1 0 rfl) (FF.cons (hf.get 4 1 rfl) (FF.cons rfl (FF.cons (hf.get 18 3 rfl) (FF.cons (hf.get 19 4 rfl) (FF.cons (congrArg (Value.int .i64) (wr_succ hlt1 hN)) FF.nil)))))), (hS12.sel [0, 1] rfl rfl), (by omega), hL1⟩
 ·skip
  obtain rfl : k_1 = 0 := by have h := of_decide_eq_false hlt; omega
  refine cw_exit rfl ?_
  obtain rfl := some_inj hL
  refine cw_seq (cw_region ?_)
  refine sQ 39 (Y_move (v := .slice B1 list.length c1) rfl (hf.get 6 2 rfl)) ?_
  obtain ⟨⟨r_4, r_5, r_6⟩, hc1, hF1⟩ := bind_inv hF1
  refine sc 40 rfl rfl (Yc_func (g := 154) (vs := [.slice B1 list.length c1]) k_call_154 rfl (mc rfl mn) (c_impl_nextPair list B1 c1 list.length _ rfl (hS4.inn0 [(false, 1)] rfl) hc1)) ?_
  rintro _ w_11 ⟨rfl, hd1⟩
  have hS13 := hS4.out00 hd1
  refine sQ 38 (Y_move (v := .tuple #[vi r_4, vi r_5, .bool r_6]) rfl rfl) ?_
  refine sQ 41 (Y_extract (v := vi r_4) rfl rfl rfl) ?_
  refine sQ 42 (Y_extract (v := vi r_5) rfl rfl rfl) ?_
  refine sQ 43 (Y_extract (v := .bool r_6) rfl rfl rfl) ?_
  refine sQ 11 (Y_assign (v := vi r_4) rfl rfl) ?_
  refine sQ 12 (Y_assign (v := vi r_5) rfl rfl) ?_
  refine sQ 13 (Y_assign (v := .bool r_6) rfl rfl) (rw_nil (cw_seq (cw_seq (cw_region ?_))))
  refine sQ 44 (Y_move (v := .bool r_6) rfl rfl) ?_
  refine sQ 45 (Y_not (p := r_6) rfl rfl) (rw_nil ?_)
  refine cw_cond (b := (!r_6)) rfl (fun hb2 => ?_) (fun hb2 => ?_)
  ·skip
   have hF4 := ct hF1 hb2
   refine cw_seq (cw_region ?_)
   refine sQ 46 (Y_buildS (zs := [vi 0, vi 0, vi 0, vi 0]) (vs := []) (cs := [vi 0, vi 0, vi 0, vi 0]) k_pl_133 k_zero_133 rfl mpn rfl) ?_
   refine s0 (Ys_store (i := 0) (s := 4) (B := aD b1) (T' := 133) (v := .agg #[vi 0, vi 0, vi 0, vi 0]) (vs := [vi 0, vi 0, vi 0, vi 0]) (k := 0) (cs' := [vi 0, vi 0, vi 0, vi 0]) hS13 k_sz_133_4 rfl (hf.get 4 1 rfl) rfl rfl rfl rfl rfl (lB rfl) rfl rfl) ?_
   rintro _ w_12 ⟨rfl, hS14⟩
   refine sQ 5 (Y_assign (v := .bool false) rfl rfl) (rw_nil (cw_ret ?_))
   obtain ⟨rfl, rfl⟩ := pr2 (some_inj hF4)
   exact ret2 Try.results83 (v1 := .agg #[vi 0, vi 0, vi 0, vi 0]) (resAt_cellA (B := aD b1) (i := 0) (cs := [vi 0, vi 0, vi 0, vi 0]) (vs := [vi 0, vi 0, vi 0, vi 0]) (hf.get 4 1 rfl) k_ag_133 k_sz_133_4 (hS14.cf (i := 0) rfl) rfl rfl) (v2 := .bool false) (resAt_tmp rfl) ⟨rfl, (hS14.sN [])⟩
  ·skip
   have hF5 := cf' hF1 hb2
   refine cw_skip (cw_seq ?_)
   obtain ⟨x1, hx1, hF5⟩ := bind_inv hF5
   obtain ⟨x2, hx2, hF5⟩ := bind_inv hF5
   obtain ⟨⟨r_7, r_8⟩, hc2, hF5⟩ := bind_inv hF5
   refine ra_start (hS13.se [0, 1]).fn (by kernel_rfl) ?_
   have hS16 := hS13.drew
   refine rq 0 48 (v := .slice B1 list.length c1) rfl (hS16.se [0, 1]) (fun w' hw' => (Y_move (v := .slice B1 list.length c1) rfl (hf.get 6 2 rfl))) ?_
   refine rq 1 49 (v := vi r_4) rfl (hS16.se [0, 1]) (fun w' hw' => (Y_move (v := vi r_4) rfl rfl)) ?_
   refine rq 2 50 (v := pt B1 (r_4.toNat * 4)) rfl (hS16.se [0, 1]) (fun w' hw' => (Y_index (B := B1) (m := list.length) (c := c1) (k := .i64) (i := r_4) k_sl_207_122 k_sz_122_4 rfl rfl rfl (gi_isSome enc_Ring_len rfl (ST.cf hw' (i := 1) rfl) hx1) (getI_nn hx1) (getI_ltI hx1 rfl))) ?_
   refine rq 3 51 (v := gR_ x1) rfl (hS16.se [0, 1]) (fun w' hw' => (Y_loadA (B := B1) (i := r_4.toNat * 4) (cs := (list.flatMap enc_Ring)) (vs := kR_ x1) k_ag_122 k_sz_122_4 rfl rfl (ST.cf hw' (i := 1) rfl) (enc_Ring_len x1) (gi_seg enc_Ring_len hx1))) ?_
   refine rq 4 52 (v := .slice B1 list.length c1) rfl (hS16.se [0, 1]) (fun w' hw' => (Y_move (v := .slice B1 list.length c1) rfl (hf.get 6 2 rfl))) ?_
   refine rq 5 53 (v := vi r_5) rfl (hS16.se [0, 1]) (fun w' hw' => (Y_move (v := vi r_5) rfl rfl)) ?_
   refine rq 6 54 (v := pt B1 (r_5.toNat * 4)) rfl (hS16.se [0, 1]) (fun w' hw' => (Y_index (B := B1) (m := list.length) (c := c1) (k := .i64) (i := r_5) k_sl_207_122 k_sz_122_4 rfl rfl rfl (gi_isSome enc_Ring_len rfl (ST.cf hw' (i := 1) rfl) hx2) (getI_nn hx2) (getI_ltI hx2 rfl))) ?_
   refine rq 7 55 (v := gR_ x2) rfl (hS16.se [0, 1]) (fun w' hw' => (Y_loadA (B := B1) (i := r_5.toNat * 4) (cs := (list.flatMap enc_Ring)) (vs := kR_ x2) k_ag_122 k_sz_122_4 rfl rfl (ST.cf hw' (i := 1) rfl) (enc_Ring_len x2) (gi_seg enc_Ring_len hx2))) ?_
   refine rA [8] ?_
   refine ra_c 56 (i := 8) rfl rfl rfl (Yc_func (g := 155) (vs := [gR_ x1, gR_ x2]) k_call_155 rfl (mc rfl (mc rfl mn)) (c_impl_MatchingPower x1 x2 _  (hS16.inn0 [] rfl) hc2)) ?_ ?_
   ·rintro _ w_13 ⟨rfl, hd2⟩
    have hS17 := hS16.out00 hd2
    refine ⟨(hS17.se [0, 1]), ?_⟩
    refine rq 9 47 (v := .tuple #[vi r_7, .bool r_8]) rfl (hS17.se [0, 1]) (fun w' hw' => (Y_move (v := .tuple #[vi r_7, .bool r_8]) rfl rfl)) ?_
    refine rq 10 57 (v := vi r_7) rfl (hS17.se [0, 1]) (fun w' hw' => (Y_extract (v := vi r_7) rfl rfl rfl)) ?_
    refine rq 11 58 (v := .bool r_8) rfl (hS17.se [0, 1]) (fun w' hw' => (Y_extract (v := .bool r_8) rfl rfl rfl)) ?_
    refine rq 12 14 (v := vi r_7) rfl (hS17.se [0, 1]) (fun w' hw' => (Y_assign (v := vi r_7) rfl rfl)) ?_
    refine rq 13 15 (v := .bool r_8) rfl (hS17.se [0, 1]) (fun w' hw' => (Y_assign (v := .bool r_8) rfl rfl)) ?_
    refine ra_done (by kernel_rfl) ?_
    refine cw_seq (cw_region ?_)
    refine sQ 59 (Y_move (v := vi r_4) rfl rfl) ?_
    refine sQ 60 (Y_move (v := vi r_5) rfl rfl) ?_
    refine sQ 61 (Y_move (v := vi r_7) rfl rfl) ?_
    refine sQ 62 (Y_buildS (zs := [vi 0, vi 0, vi 0, vi 0]) (vs := [(0, vi 3), (1, vi r_4), (2, vi r_5), (3, vi r_7)]) (cs := [vi 3, vi r_4, vi r_5, vi r_7]) k_pl_133 k_zero_133 rfl (mpc rfl (mpc rfl (mpc rfl (mpc rfl mpn)))) rfl) ?_
    refine sQ 63 (Y_move (v := .bool r_8) rfl rfl) ?_
    refine s0 (Ys_store (i := 0) (s := 4) (B := aD b1) (T' := 133) (v := .agg #[vi 3, vi r_4, vi r_5, vi r_7]) (vs := [vi 3, vi r_4, vi r_5, vi r_7]) (k := 0) (cs' := [vi 3, vi r_4, vi r_5, vi r_7]) hS17 k_sz_133_4 rfl (hf.get 4 1 rfl) rfl rfl rfl rfl rfl (lB rfl) rfl rfl) ?_
    rintro _ w_14 ⟨rfl, hS18⟩
    refine sQ 5 (Y_assign (v := .bool r_8) rfl rfl) (rw_nil (cw_ret ?_))
    obtain ⟨rfl, rfl⟩ := pr2 (some_inj hF5)
    exact ret2 Try.results83 (v1 := .agg #[vi 3, vi r_4, vi r_5, vi r_7]) (resAt_cellA (B := aD b1) (i := 0) (cs := [vi 3, vi r_4, vi r_5, vi r_7]) (vs := [vi 3, vi r_4, vi r_5, vi r_7]) (hf.get 4 1 rfl) k_ag_133 k_sz_133_4 (hS18.cf (i := 0) rfl) rfl rfl) (v2 := .bool r_8) (resAt_tmp rfl) ⟨rfl, (hS18.sN [])⟩
   exact allR_nil

theorem c_impl_IsValidTwoLevel (n : Int) (t : TTwoLevel)  (w0 : World)  (hS : ST w0 [] w0 [] []) {r_ : Bool} (hF : F_impl_IsValidTwoLevel n t = some r_) :
  CV Try.prog 156 #[vi n, .agg #[vi t.Kind, vi t.I, vi t.J, vi t.M_]] w0 (fun v w' => v = .bool r_ ∧ ST w0 [] w' [] []) := by
 unfold F_impl_IsValidTwoLevel at hF
 refine cv_of_cw 58 Try.func156 rfl Try.ntmps156 rfl ?_
 refine cw_seq (cw_region ?_)
 refine sS 3 (Ys_box (T := 133) (v := .agg #[vi t.Kind, vi t.I, vi t.J, vi t.M_]) (cs := [vi t.Kind, vi t.I, vi t.J, vi t.M_]) (m := 4) hS rfl rfl rfl rfl) ?_
 rintro _ w_ ⟨b, rfl, hS1⟩
 refine sQ 4 (Y_assign (v := .bool false) rfl rfl) (rw_nil (cw_seq (cw_seq (cw_region ?_))))
 refine sQ 5 (Y_move (v := vi n) rfl rfl) ?_
 obtain ⟨r_1, hc, hF⟩ := bind_inv hF
 refine sc 6 rfl rfl (Yc_func (g := 148) (vs := [vi n]) k_call_148 rfl (mc rfl mn) (c_impl_isLevelDim n _  (hS1.inn0 [] rfl) hc)) ?_
 rintro _ w_1 ⟨rfl, hd⟩
 have hS2 := hS1.out00 hd
 refine sQ 7 (Y_not (p := r_1) rfl rfl) ?_
 refine sQ 8 (Y_move (v := .bool (!r_1)) rfl rfl) ?_
 refine sgq 9 (B := (!(!r_1))) (v := pt (aD b) 1) rfl rfl (uF_ 8) (fun hg => (Y_fieldAddr (B := aD b) (i := 0) (s := 0) k_fd_133_1_1_3 k_sz_3_1 rfl rfl)) ?_
 refine sgq 10 (B := (!(!r_1))) (v := vi t.I) rfl rfl (uF_ 8) (fun hg1 => (Y_load1 (B := aD b) (i := 1) (cs := [vi t.Kind, vi t.I, vi t.J, vi t.M_]) (v := vi t.I) k_sc_3 rfl (gv_of (v := pt (aD b) 1) hg1) (hS2.cf (i := 0) rfl) rfl)) ?_
 refine sgq 11 (B := (!(!r_1))) (v := vi n) rfl rfl (uF_ 8) (fun hg2 => (Y_move (v := vi n) rfl rfl)) ?_
 refine sgq 12 (B := (!(!r_1))) (v := vi (i64.wrap (n - 1))) rfl rfl (uF_ 8) (fun hg3 => (Y_sub (k := .i64) (a := n) (b := 1) rfl (gv_of (v := vi n) hg3) rfl)) ?_
 obtain ⟨r_2, hc1, hF⟩ := bind_inv hF
 refine sgc 13 (B := (!(!r_1))) (v := .bool r_2) (F := hS2.fn) rfl rfl (uF_ 8) hS2 (fun hg4 => (Yc_func (g := 98) (vs := [vi t.I, vi 0, vi (i64.wrap (n - 1))]) k_call_98 rfl (mc (gv_of (v := vi t.I) hg4) (mc rfl (mc (gv_of (v := vi (i64.wrap (n - 1))) hg4) mn))) (CV.mono (c_impl_within t.I 0 (i64.wrap (n - 1)) _  (hS2.inn0 [] rfl) (gb_inv hc1 hg4)) (by rintro _ _ ⟨rfl, h⟩; exact ⟨rfl, hS2.out00 h⟩)))) ?_
 rintro w_2 hS3
 refine sgq 14 (B := (!(!r_1))) (v := .bool (!r_2)) rfl rfl (uF_ 8) (fun hg5 => (Y_not (p := r_2) rfl (gv_of (v := .bool r_2) hg5))) ?_
 refine sQ 15 (Y_or (b := (!r_1)) (z := (!r_2)) rfl rfl rfl rfl) (rw_nil ?_)
 refine cw_cond (b := ((!r_1) || (!r_2))) rfl (fun hb => ?_) (fun hb => ?_)
 ·skip
  have hF1 := ct hF hb
  refine cw_seq (cw_region ?_)
  refine sQ 4 (Y_assign (v := .bool false) rfl rfl) (rw_nil (cw_ret ?_))
  obtain rfl := some_inj hF1
  exact ret1 Try.results156 (v1 := .bool false) (resAt_tmp rfl) ⟨rfl, (hS3.sN [])⟩
 ·skip
  have hF2 := cf' hF hb
  refine cw_skip (cw_seq (cw_seq (cw_region ?_)))
  refine sQ 16 (Y_fieldAddr (B := aD b) (i := 0) (s := 0) k_fd_133_0_0_3 k_sz_3_1 rfl rfl) ?_
  refine sQ 17 (Y_load1 (B := aD b) (i := 0) (cs := [vi t.Kind, vi t.I, vi t.J, vi t.M_]) (v := vi t.Kind) k_sc_3 rfl rfl (hS3.cf (i := 0) rfl) rfl) (rw_nil (cw_block (cw_seq (cw_region ?_))))
  refine sQ 19 (Y_eq (k := .i64) (a := t.Kind) (b := 1) rfl rfl rfl) ?_
  refine sQ 18 (Y_assign (v := .bool (t.Kind == 1)) rfl rfl) (rw_nil ?_)
  refine cw_cond (b := (t.Kind == 1)) rfl (fun hb1 => ?_) (fun hb1 => ?_)
  ·skip
   have hF3 := ct hF2 hb1
   refine cw_seq (cw_region ?_)
   refine sQ 20 (Y_fieldAddr (B := aD b) (i := 0) (s := 0) k_fd_133_2_2_3 k_sz_3_1 rfl rfl) ?_
   refine sQ 21 (Y_load1 (B := aD b) (i := 2) (cs := [vi t.Kind, vi t.I, vi t.J, vi t.M_]) (v := vi t.J) k_sc_3 rfl rfl (hS3.cf (i := 0) rfl) rfl) ?_
   refine sQ 22 (Y_eq (k := .i64) (a := t.J) (b := 0) rfl rfl rfl) ?_
   refine sQ 23 (Y_move (v := .bool (t.J == 0)) rfl rfl) ?_
   refine sgq 24 (B := (t.J == 0)) (v := pt (aD b) 3) rfl rfl (uT_ 23) (fun hg6 => (Y_fieldAddr (B := aD b) (i := 0) (s := 0) k_fd_133_3_3_3 k_sz_3_1 rfl rfl)) ?_
   refine sgq 25 (B := (t.J == 0)) (v := vi t.M_) rfl rfl (uT_ 23) (fun hg7 => (Y_load1 (B := aD b) (i := 3) (cs := [vi t.Kind, vi t.I, vi t.J, vi t.M_]) (v := vi t.M_) k_sc_3 rfl (gv_of (v := pt (aD b) 3) hg7) (hS3.cf (i := 0) rfl) rfl)) ?_
   obtain ⟨r_3, hc2, hF3⟩ := bind_inv hF3
   refine sgc 26 (B := (t.J == 0)) (v := .bool r_3) (F := hS3.fn) rfl rfl (uT_ 23) hS3 (fun hg8 => (Yc_func (g := 98) (vs := [vi t.M_, vi 1, vi 7]) k_call_98 rfl (mc (gv_of (v := vi t.M_) hg8) (mc rfl (mc rfl mn))) (CV.mono (c_impl_within t.M_ 1 7 _  (hS3.inn0 [] rfl) (gb_inv hc2 hg8)) (by rintro _ _ ⟨rfl, h⟩; exact ⟨rfl, hS3.out00 h⟩)))) ?_
   rintro w_3 hS4
   refine sQ 27 (Y_and (b := (t.J == 0)) (z := r_3) rfl rfl rfl rfl) ?_
   refine sQ 4 (Y_assign (v := .bool ((t.J == 0) && r_3)) rfl rfl) (rw_nil (cw_ret ?_))
   obtain rfl := some_inj hF3
   exact ret1 Try.results156 (v1 := .bool ((t.J == 0) && r_3)) (resAt_tmp rfl) ⟨rfl, (hS4.sN [])⟩
  ·skip
   have hF4 := cf' hF2 hb1
   refine cw_seq (cw_region ?_)
   refine sQ 29 (Y_eq (k := .i64) (a := t.Kind) (b := 2) rfl rfl rfl) ?_
   refine sQ 28 (Y_assign (v := .bool (t.Kind == 2)) rfl rfl) (rw_nil ?_)
   refine cw_cond (b := (t.Kind == 2)) rfl (fun hb2 => ?_) (fun hb2 => ?_)
   ·skip
    have hF5 := ct hF4 hb2
    refine cw_seq (cw_region ?_)
    refine sQ 30 (Y_fieldAddr (B := aD b) (i := 0) (s := 0) k_fd_133_2_2_3 k_sz_3_1 rfl rfl) ?_
    refine sQ 31 (Y_load1 (B := aD b) (i := 2) (cs := [vi t.Kind, vi t.I, vi t.J, vi t.M_]) (v := vi t.J) k_sc_3 rfl rfl (hS3.cf (i := 0) rfl) rfl) ?_
    refine sQ 32 (Y_fieldAddr (B := aD b) (i := 0) (s := 0) k_fd_133_1_1_3 k_sz_3_1 rfl rfl) ?_
    refine sQ 33 (Y_load1 (B := aD b) (i := 1) (cs := [vi t.Kind, vi t.I, vi t.J, vi t.M_]) (v := vi t.I) k_sc_3 rfl rfl (hS3.cf (i := 0) rfl) rfl) ?_
    refine sQ 34 (Y_add (k := .i64) (a := t.I) (b := 1) rfl rfl rfl) ?_
    refine sQ 35 (Y_move (v := vi n) rfl rfl) ?_
    refine sQ 36 (Y_sub (k := .i64) (a := n) (b := 1) rfl rfl rfl) ?_
    obtain ⟨r_4, hc3, hF5⟩ := bind_inv hF5
    refine sc 37 rfl rfl (Yc_func (g := 98) (vs := [vi t.J, vi (i64.wrap (t.I + 1)), vi (i64.wrap (n - 1))]) k_call_98 rfl (mc rfl (mc rfl (mc rfl mn))) (c_impl_within t.J (i64.wrap (t.I + 1)) (i64.wrap (n - 1)) _  (hS3.inn0 [] rfl) hc3)) ?_
    rintro _ w_4 ⟨rfl, hd1⟩
    have hS5 := hS3.out00 hd1
    refine sQ 38 (Y_move (v := .bool r_4) rfl rfl) ?_
    refine sgq 39 (B := r_4) (v := pt (aD b) 3) rfl rfl (uT_ 38) (fun hg9 => (Y_fieldAddr (B := aD b) (i := 0) (s := 0) k_fd_133_3_3_3 k_sz_3_1 rfl rfl)) ?_
    refine sgq 40 (B := r_4) (v := vi t.M_) rfl rfl (uT_ 38) (fun hg10 => (Y_load1 (B := aD b) (i := 3) (cs := [vi t.Kind, vi t.I, vi t.J, vi t.M_]) (v := vi t.M_) k_sc_3 rfl (gv_of (v := pt (aD b) 3) hg10) (hS5.cf (i := 0) rfl) rfl)) ?_
    refine sgq 41 (B := r_4) (v := .bool (t.M_ == 0)) rfl rfl (uT_ 38) (fun hg11 => (Y_eq (k := .i64) (a := t.M_) (b := 0) rfl (gv_of (v := vi t.M_) hg11) rfl)) ?_
    refine sQ 42 (Y_and (b := r_4) (z := (t.M_ == 0)) rfl rfl rfl rfl) ?_
    refine sQ 4 (Y_assign (v := .bool (r_4 && (t.M_ == 0))) rfl rfl) (rw_nil (cw_ret ?_))
    obtain rfl := some_inj hF5
    exact ret1 Try.results156 (v1 := .bool (r_4 && (t.M_ == 0))) (resAt_tmp rfl) ⟨rfl, (hS5.sN [])⟩
   ·skip
    have hF6 := cf' hF4 hb2
    refine cw_seq (cw_region ?_)
    refine sQ 44 (Y_eq (k := .i64) (a := t.Kind) (b := 3) rfl rfl rfl) ?_
    refine sQ 43 (Y_assign (v := .bool (t.Kind == 3)) rfl rfl) (rw_nil ?_)
    refine cw_cond (b := (t.Kind == 3)) rfl (fun hb3 => ?_) (fun hb3 => ?_)
    ·skip
     have hF7 := ct hF6 hb3
     refine cw_seq (cw_region ?_)
     refine sQ 45 (Y_fieldAddr (B := aD b) (i := 0) (s := 0) k_fd_133_2_2_3 k_sz_3_1 rfl rfl) ?_
     refine sQ 46 (Y_load1 (B := aD b) (i := 2) (cs := [vi t.Kind, vi t.I, vi t.J, vi t.M_]) (v := vi t.J) k_sc_3 rfl rfl (hS3.cf (i := 0) rfl) rfl) ?_
     refine sQ 47 (Y_fieldAddr (B := aD b) (i := 0) (s := 0) k_fd_133_1_1_3 k_sz_3_1 rfl rfl) ?_
     refine sQ 48 (Y_load1 (B := aD b) (i := 1) (cs := [vi t.Kind, vi t.I, vi t.J, vi t.M_]) (v := vi t.I) k_sc_3 rfl rfl (hS3.cf (i := 0) rfl) rfl) ?_
     refine sQ 49 (Y_add (k := .i64) (a := t.I) (b := 1) rfl rfl rfl) ?_
     refine sQ 50 (Y_move (v := vi n) rfl rfl) ?_
     refine sQ 51 (Y_sub (k := .i64) (a := n) (b := 1) rfl rfl rfl) ?_
     obtain ⟨r_5, hc4, hF7⟩ := bind_inv hF7
     refine sc 52 rfl rfl (Yc_func (g := 98) (vs := [vi t.J, vi (i64.wrap (t.I + 1)), vi (i64.wrap (n - 1))]) k_call_98 rfl (mc rfl (mc rfl (mc rfl mn))) (c_impl_within t.J (i64.wrap (t.I + 1)) (i64.wrap (n - 1)) _  (hS3.inn0 [] rfl) hc4)) ?_
     rintro _ w_5 ⟨rfl, hd2⟩
     have hS6 := hS3.out00 hd2
     refine sQ 53 (Y_move (v := .bool r_5) rfl rfl) ?_
     refine sgq 54 (B := r_5) (v := pt (aD b) 3) rfl rfl (uT_ 53) (fun hg12 => (Y_fieldAddr (B := aD b) (i := 0) (s := 0) k_fd_133_3_3_3 k_sz_3_1 rfl rfl)) ?_
     refine sgq 55 (B := r_5) (v := vi t.M_) rfl rfl (uT_ 53) (fun hg13 => (Y_load1 (B := aD b) (i := 3) (cs := [vi t.Kind, vi t.I, vi t.J, vi t.M_]) (v := vi t.M_) k_sc_3 rfl (gv_of (v := pt (aD b) 3) hg13) (hS6.cf (i := 0) rfl) rfl)) ?_
     obtain ⟨r_6, hc5, hF7⟩ := bind_inv hF7
     refine sgc 56 (B := r_5) (v := .bool r_6) (F := hS6.fn) rfl rfl (uT_ 53) hS6 (fun hg14 => (Yc_func (g := 98) (vs := [vi t.M_, vi 0, vi 7]) k_call_98 rfl (mc (gv_of (v := vi t.M_) hg14) (mc rfl (mc rfl mn))) (CV.mono (c_impl_within t.M_ 0 7 _  (hS6.inn0 [] rfl) (gb_inv hc5 hg14)) (by rintro _ _ ⟨rfl, h⟩; exact ⟨rfl, hS6.out00 h⟩)))) ?_
     rintro w_6 hS7
     refine sQ 57 (Y_and (b := r_5) (z := r_6) rfl rfl rfl rfl) ?_
     refine sQ 4 (Y_assign (v := .bool (r_5 && r_6)) rfl rfl) (rw_nil (cw_ret ?_))
     obtain rfl := some_inj hF7
     exact ret1 Try.results156 (v1 := .bool (r_5 && r_6)) (resAt_tmp rfl) ⟨rfl, (hS7.sN [])⟩
    ·skip
     have hF8 := cf' hF6 hb3
     refine cw_skip (cw_seq (cw_region ?_))
     refine sQ 4 (Y_assign (v := .bool false) rfl rfl) (rw_nil (cw_ret ?_))
     obtain rfl := some_inj hF8
     exact ret1 Try.results156 (v1 := .bool false) (resAt_tmp rfl) ⟨rfl, (hS3.sN [])⟩

theorem c_impl_matrixOf (rows : Int) (cols : Int) (cell : Int → Int → Option (TDyadic × Bool)) (kf : Nat) (caps : Array Value) (Rf : List Ro) (w0 : World) (hk : callB Try.prog kf = true) (hp : ∀ (w : World), ST w [] w [] Rf → ∀ (x : Int) (x1 : Int) (y1 : TDyadic) (y2 : Bool), cell x x1 = some (y1, y2) → CV Try.prog kf ((vi x) :: (vi x1) :: caps.toList).toArray w (fun v w' => v = .tuple #[gD_ y1, .bool y2] ∧ ST w [] w' [] [])) (hS : ST w0 [] w0 [] (Rf)) {r_ : TMatrix} {r_1 : Bool} (hF : F_impl_matrixOf rows cols cell = some (r_, r_1)) :
  CV Try.prog 157 #[vi rows, vi cols, .func (.func kf) #[] caps] w0 (fun v w' => ∃ (B : Option Addr) (c : Nat), v = .tuple #[gM_ r_ B c, .bool r_1] ∧ ST w0 [] w' [⟨B, 124, (r_.Cells.flatMap eN0), c * 5⟩] []) := by
 unfold F_impl_matrixOf at hF
 refine cv_of_cw 52 Try.func157 rfl Try.ntmps157 rfl ?_
 refine cw_seq (cw_region ?_)
 refine sS 6 (Ys_alloc (T := 75) (cs := kN_) (m := 3) hS k_zero_75 rfl rfl rfl) ?_
 rintro _ w_ ⟨b, rfl, hS1⟩
 refine sQ 7 (Y_assign (v := .bool false) rfl rfl) (rw_nil (cw_seq (cw_region ?_)))
 refine sQ 13 (Y_move (v := vi rows) rfl rfl) ?_
 refine sQ 14 (Y_move (v := vi cols) rfl rfl) ?_
 refine sQ 15 (Y_buildS (zs := kN_) (vs := [(0, vi rows), (1, vi cols)]) (cs := [vi rows, vi cols, .slice none 0 0]) k_pl_75 k_zero_75 rfl (mpc rfl (mpc rfl mpn)) rfl) ?_
 refine sS 8 (Ys_alloc (T := 75) (cs := kN_) (m := 3) hS1 k_zero_75 rfl rfl rfl) ?_
 rintro _ w_1 ⟨b1, rfl, hS2⟩
 refine s0 (Ys_store (i := 1) (s := 3) (B := aD b1) (T' := 75) (v := .agg #[vi rows, vi cols, .slice none 0 0]) (vs := [vi rows, vi cols, .slice none 0 0]) (k := 0) (cs' := [vi rows, vi cols, .slice none 0 0]) hS2 k_sz_75_3 rfl rfl rfl rfl rfl rfl rfl (lB rfl) rfl rfl) ?_
 rintro _ w_2 ⟨rfl, hS3⟩
 refine rw_nil (cw_seq (cw_seq (cw_region ?_)))
 refine sQ 16 (Y_move (v := vi rows) rfl rfl) ?_
 obtain ⟨r_2, hc, hF⟩ := bind_inv hF
 refine sc 17 rfl rfl (Yc_func (g := 208) (vs := [vi rows]) k_call_208 rfl (mc rfl mn) (c_impl_isDim rows _  (hS3.inn0 [] rfl) hc)) ?_
 rintro _ w_3 ⟨rfl, hd⟩
 have hS4 := hS3.out00 hd
 refine sQ 18 (Y_not (p := r_2) rfl rfl) ?_
 refine sQ 19 (Y_move (v := .bool (!r_2)) rfl rfl) ?_
 refine sgq 20 (B := (!(!r_2))) (v := vi cols) rfl rfl (uF_ 19) (fun hg => (Y_move (v := vi cols) rfl rfl)) ?_
 obtain ⟨r_3, hc1, hF⟩ := bind_inv hF
 refine sgc 21 (B := (!(!r_2))) (v := .bool r_3) (F := hS4.fn) rfl rfl (uF_ 19) hS4 (fun hg1 => (Yc_func (g := 208) (vs := [vi cols]) k_call_208 rfl (mc (gv_of (v := vi cols) hg1) mn) (CV.mono (c_impl_isDim cols _  (hS4.inn0 [] rfl) (gb_inv hc1 hg1)) (by rintro _ _ ⟨rfl, h⟩; exact ⟨rfl, hS4.out00 h⟩)))) ?_
 rintro w_4 hS5
 refine sgq 22 (B := (!(!r_2))) (v := .bool (!r_3)) rfl rfl (uF_ 19) (fun hg2 => (Y_not (p := r_3) rfl (gv_of (v := .bool r_3) hg2))) ?_
 refine sQ 23 (Y_or (b := (!r_2)) (z := (!r_3)) rfl rfl rfl rfl) (rw_nil ?_)
 refine cw_cond (b := ((!r_2) || (!r_3))) rfl (fun hb => ?_) (fun hb => ?_)
 ·skip
  have hF1 := ct hF hb
  refine cw_seq (cw_region ?_)
  refine sQ 24 (Y_buildS (zs := kN_) (vs := []) (cs := kN_) k_pl_75 k_zero_75 rfl mpn rfl) ?_
  refine s0 (Ys_store (i := 0) (s := 3) (B := aD b) (T' := 75) (v := gN_) (vs := kN_) (k := 0) (cs' := kN_) hS5 k_sz_75_3 rfl rfl rfl rfl rfl rfl rfl (lB rfl) rfl rfl) ?_
  rintro _ w_5 ⟨rfl, hS6⟩
  refine sQ 7 (Y_assign (v := .bool false) rfl rfl) (rw_nil (cw_ret ?_))
  have hS7 := hS6.addNil 124
  obtain ⟨rfl, rfl⟩ := pr2 (some_inj hF1)
  exact ret2 Try.results157 (v1 := gN_) (resAt_cellA (B := aD b) (i := 0) (cs := kN_) (vs := kN_) rfl k_ag_75 k_sz_75_3 (hS7.cf (i := 0) rfl) rfl rfl) (v2 := .bool false) (resAt_tmp rfl) ⟨none, 0, rfl, (hS7.sN [2])⟩
 ·skip
  have hF2 := cf' hF hb
  refine cw_skip (cw_seq (cw_seq (cw_region ?_)))
  refine sQ 25 (Y_move (v := vi rows) rfl rfl) ?_
  refine sQ 26 (Y_move (v := vi 0) rfl rfl) (rw_nil ?_)
  obtain ⟨hN, hF2⟩ := chk_inv hF2
  obtain ⟨z, hz, hF3⟩ := bind_inv hF2
  have hS9 := hS5.addNil 124
  refine cw_block ?_
  refine cw_loop (fun k f w => ∃ (i : Nat) (Cells : List TDyadic) (B1 : Option Addr) (c1 : Nat), FF f [(1, vi cols), (2, .func (.func kf) #[] caps), (6, pt (aD b) 0), (8, pt (aD b1) 0), (25, vi rows), (26, vi (i : Int))] ∧ ST w0 [] w [⟨aD b, 75, kN_, 3⟩, ⟨aD b1, 75, [vi rows, vi cols, .slice B1 Cells.length c1], 3⟩, ⟨B1, 124, (Cells.flatMap eN0), c1 * 5⟩] (Rf) ∧ i + k = rows.toNat ∧ forX (F_impl_matrixOf_l1 cols cell) k i Cells = some z) rows.toNat ⟨0, [], none, 0, (FF.cons rfl (FF.cons rfl (FF.cons rfl (FF.cons rfl (FF.cons rfl (FF.cons rfl FF.nil)))))), (hS9.sel [0, 1, 2] rfl rfl), Nat.zero_add _, hz⟩ ?_
  rintro k_ f w ⟨i, Cells, B1, c1, hf, hS8, hik, hL⟩
  refine cw_seq (cw_region ?_)
  refine sQ 27 (Y_lt (k := .i64) (a := (i : Int)) (b := rows) rfl (hf.get 26 5 rfl) (hf.get 25 4 rfl)) (rw_nil (cw_seq ?_))
  refine cw_cond (b := (decide ((i : Int) < rows))) rfl (fun hlt => ?_) (fun hlt => ?_)
  ·skip
   have hlt1 : i < rows.toNat := by have h := of_decide_eq_true hlt; omega
   obtain ⟨k_1, rfl⟩ : ∃ k2, k_ = k2 + 1 := ⟨k_ - 1, by omega⟩
   obtain ⟨y3, hb1, hL1⟩ := forX_go hL
   unfold F_impl_matrixOf_l1 at hb1
   refine cw_skip (cw_seq (cw_block (cw_seq (cw_region ?_))))
   refine sQ 28 (Y_move (v := vi (i : Int)) rfl (hf.get 26 5 rfl)) ?_
   refine sQ 9 (Y_assign (v := vi (i : Int)) rfl rfl) (rw_nil (cw_seq (cw_region ?_)))
   refine sQ 29 (Y_move (v := vi cols) rfl (hf.get 1 0 rfl)) ?_
   refine sQ 30 (Y_move (v := vi 0) rfl rfl) (rw_nil ?_)
   obtain ⟨hN1, hb1⟩ := chk_inv hb1
   obtain ⟨z1, hz1, hF4⟩ := bind_inv hb1
   refine cw_block ?_
   refine cw_loop (fun k f w => ∃ (i1 : Nat) (Cells1 : List TDyadic) (B2 : Option Addr) (c2 : Nat), FF f [(1, vi cols), (2, .func (.func kf) #[] caps), (6, pt (aD b) 0), (8, pt (aD b1) 0), (9, vi (i : Int)), (25, vi rows), (26, vi (i : Int)), (29, vi cols), (30, vi (i1 : Int))] ∧ ST w0 [] w [⟨aD b, 75, kN_, 3⟩, ⟨aD b1, 75, [vi rows, vi cols, .slice B2 Cells1.length c2], 3⟩, ⟨B2, 124, (Cells1.flatMap eN0), c2 * 5⟩] (Rf) ∧ i1 + k = cols.toNat ∧ forX (F_impl_matrixOf_l2 cell i) k i1 Cells1 = some z1) cols.toNat ⟨0, Cells, B1, c1, (FF.cons (hf.get 1 0 rfl) (FF.cons (hf.get 2 1 rfl) (FF.cons (hf.get 6 2 rfl) (FF.cons (hf.get 8 3 rfl) (FF.cons rfl (FF.cons (hf.get 25 4 rfl) (FF.cons (hf.get 26 5 rfl) (FF.cons rfl (FF.cons rfl FF.nil))))))))), (hS8.sel [0, 1, 2] rfl rfl), Nat.zero_add _, hz1⟩ ?_
   rintro k_2 f w ⟨i1, Cells1, B2, c2, hf1, hS10, hik1, hL2⟩
   refine cw_seq (cw_region ?_)
   refine sQ 31 (Y_lt (k := .i64) (a := (i1 : Int)) (b := cols) rfl (hf1.get 30 8 rfl) (hf1.get 29 7 rfl)) (rw_nil (cw_seq ?_))
   refine cw_cond (b := (decide ((i1 : Int) < cols))) rfl (fun hlt2 => ?_) (fun hlt2 => ?_)
   ·skip
    have hlt3 : i1 < cols.toNat := by have h := of_decide_eq_true hlt2; omega
    obtain ⟨k_3, rfl⟩ : ∃ k2, k_2 = k2 + 1 := ⟨k_2 - 1, by omega⟩
    obtain ⟨y4, hb2, hL3⟩ := forX_go hL2
    unfold F_impl_matrixOf_l2 at hb2
    refine cw_skip (cw_seq (cw_block (cw_seq (cw_region ?_))))
    refine sQ 32 (Y_move (v := vi (i1 : Int)) rfl (hf1.get 30 8 rfl)) ?_
    refine sQ 10 (Y_assign (v := vi (i1 : Int)) rfl rfl) (rw_nil (cw_seq (cw_region ?_)))
    refine sQ 34 (Y_move (v := .func (.func kf) #[] caps) rfl (hf1.get 2 1 rfl)) ?_
    refine sQ 35 (Y_move (v := vi (i : Int)) rfl (hf1.get 9 4 rfl)) ?_
    refine sQ 36 (Y_move (v := vi (i1 : Int)) rfl rfl) ?_
    obtain ⟨⟨r_4, r_5⟩, hc2, hb2⟩ := bind_inv hb2
    refine sc 37 rfl rfl (Yc_clos (g := kf) (vs := (vi (i : Int)) :: (vi (i1 : Int)) :: caps.toList) hk rfl rfl (clo_args (mc rfl (mc rfl mn))) (hp _ (hS10.innS (fun _ h => mOd (i := 0) h)) (i : Int) (i1 : Int) r_4 r_5 hc2)) ?_
    rintro _ w_6 ⟨rfl, hd1⟩
    have hS11 := hS10.out00 hd1
    refine sQ 33 (Y_move (v := .tuple #[gD_ r_4, .bool r_5]) rfl rfl) ?_
    refine sQ 38 (Y_extract (v := gD_ r_4) rfl rfl rfl) ?_
    refine sQ 39 (Y_extract (v := .bool r_5) rfl rfl rfl) ?_
    refine sS 11 (Ys_alloc (T := 124) (cs := kZ_) (m := 5) hS11 k_zero_124 rfl rfl rfl) ?_
    rintro _ w_7 ⟨b2, rfl, hS12⟩
    refine s0 (Ys_store (i := 3) (s := 5) (B := aD b2) (T' := 124) (v := gD_ r_4) (vs := kD_ r_4) (k := 0) (cs' := kD_ r_4) hS12 k_sz_124_5 rfl rfl rfl rfl rfl rfl rfl (lB rfl) rfl rfl) ?_
    rintro _ w_8 ⟨rfl, hS13⟩
    refine sQ 12 (Y_assign (v := .bool r_5) rfl rfl) (rw_nil (cw_seq (cw_seq (cw_region ?_))))
    refine sQ 40 (Y_move (v := .bool r_5) rfl rfl) ?_
    refine sQ 41 (Y_not (p := r_5) rfl rfl) (rw_nil ?_)
    refine cw_cond (b := (!r_5)) rfl (fun hb3 => ?_) (fun hb3 => ?_)
    ·skip
     have hF5 := ct hb2 hb3
     refine cw_seq (cw_region ?_)
     refine sQ 42 (Y_buildS (zs := kN_) (vs := []) (cs := kN_) k_pl_75 k_zero_75 rfl mpn rfl) ?_
     refine s0 (Ys_store (i := 0) (s := 3) (B := aD b) (T' := 75) (v := gN_) (vs := kN_) (k := 0) (cs' := kN_) hS13 k_sz_75_3 rfl (hf1.get 6 2 rfl) rfl rfl rfl rfl rfl (lB rfl) rfl rfl) ?_
     rintro _ w_9 ⟨rfl, hS14⟩
     refine sQ 7 (Y_assign (v := .bool false) rfl rfl) (rw_nil (cw_ret ?_))
     have hS15 := hS14.addNil 124
     obtain rfl := some_inj hF5
     obtain rfl := some_inj hL3
     obtain rfl := some_inj hF4
     obtain rfl := some_inj hL1
     obtain ⟨rfl, rfl⟩ := pr2 (some_inj hF3)
     exact ret2 Try.results157 (v1 := gN_) (resAt_cellA (B := aD b) (i := 0) (cs := kN_) (vs := kN_) (hf1.get 6 2 rfl) k_ag_75 k_sz_75_3 (hS15.cf (i := 0) rfl) rfl rfl) (v2 := .bool false) (resAt_tmp rfl) ⟨none, 0, rfl, (hS15.sN [4])⟩
    ·skip
     have hF6 := cf' hb2 hb3
     refine cw_skip (cw_region ?_)
     refine sQ 43 (Y_fieldAddr (B := aD b1) (i := 0) (s := 0) k_fd_75_2_2_73 k_sz_73_1 rfl (hf1.get 8 3 rfl)) ?_
     refine sQ 44 (Y_load1 (B := aD b1) (i := 2) (cs := [vi rows, vi cols, .slice B2 Cells1.length c2]) (v := .slice B2 Cells1.length c2) k_sc_73 rfl rfl (hS13.cf (i := 1) rfl) rfl) ?_
     refine sQ 45 (Y_loadA (B := aD b2) (i := 0) (cs := kD_ r_4) (vs := kD_ r_4) k_ag_124 k_sz_124_5 rfl rfl (hS13.cf (i := 3) rfl) rfl rfl) ?_
     refine sS 46 (Ys_bslice (s := 5) (len := 1) (vs := [(0, gD_ r_4)]) (cs := kD_ r_4) (zs := kZ_) (m := 5) hS13 k_sl_73_124 k_sz_124_5 k_zc_124 rfl (mpc rfl mpn) rfl rfl rfl (by kernel_rfl) (by kernel_rfl) rfl) ?_
     rintro _ w_10 ⟨b3, rfl, hS16⟩
     obtain ⟨hap, hF6⟩ := chk_inv hF6
     refine sS 47 (Ys_append (s := 5) (by' := 40) (i := 2) (nn := Cells1.length) (c := c2) (k := 1) (len := (Cells1 ++ [r_4]).length) (B := B2) (xs := ([r_4].flatMap eN0)) (cs' := ((Cells1 ++ [r_4]).flatMap eN0)) hS16 k_sl_73_124 k_sz_124_5 k_by_124_40 k_zero_124 rfl (by decide) rfl rfl rfl rfl (fm_lenn (l := Cells1) eN1 rfl) rfl (hS16.cf (i := 4) rfl) (fm_lenn (l := [r_4]) eN1 rfl) (fm_one' (enc := eN0) enc_Dyadic_one [r_4]) (by have := hap; omega) (by have := hap; simp only [maxLen]; omega) (fm_app _ _) (app_len (l := Cells1) (l' := [r_4]) rfl rfl)) ?_
     rintro _ w_11 ⟨B3, c3, rfl, hS17⟩
     refine sQ 48 (Y_fieldAddr (B := aD b1) (i := 0) (s := 0) k_fd_75_2_2_73 k_sz_73_1 rfl (hf1.get 8 3 rfl)) ?_
     refine s0 (Ys_store (i := 1) (s := 1) (B := aD b1) (T' := 75) (v := .slice B3 ((Cells1 ++ [r_4]).length) c3) (vs := [.slice B3 ((Cells1 ++ [r_4]).length) c3]) (k := 2) (cs' := [vi rows, vi cols, .slice B3 ((Cells1 ++ [r_4]).length) c3]) hS17 k_sz_73_1 rfl rfl rfl rfl rfl rfl rfl (lB rfl) rfl rfl) ?_
     rintro _ w_12 ⟨rfl, hS18⟩
     refine rw_nil (cw_region ?_)
     refine sQ 49 (Y_add (k := .i64) (a := (i1 : Int)) (b := 1) rfl (hf1.get 30 8 rfl) rfl) ?_
     refine sQ 30 (Y_move (v := vi (i64.wrap ((i1 : Int) + 1))) rfl rfl) (rw_nil ?_)
     obtain rfl := some_inj hF6
     exact ⟨k_3, Nat.lt_succ_self _, i1 + 1, (Cells1 ++ [r_4]), B3, c3, (FF.cons (hf1.get 1 0 rfl) (FF.cons (hf1.get 2 1 rfl) (FF.cons (hf1.get 6 2 rfl) (FF.cons (hf1.get 8 3 rfl) (FF.cons (hf1.get 9 4 rfl) (FF.cons (hf1.get 25 5 rfl) (FF.cons (hf1.get 26 6 rfl) (FF.cons (hf1.get 29 7 rfl) (FF.cons (congrArg (Value.int .i64) (wr_succ hlt3 hN1)) FF.nil))))))))), (hS18.sel [0, 1, 2] rfl rfl), (by omega), hL3⟩
   ·skip
    obtain rfl : k_2 = 0 := by have h := of_decide_eq_false hlt2; omega
    refine cw_exit rfl ?_
    obtain rfl := some_inj hL2
    refine cw_region ?_
    refine sQ 50 (Y_add (k := .i64) (a := (i : Int)) (b := 1) rfl (hf1.get 26 6 rfl) rfl) ?_
    refine sQ 26 (Y_move (v := vi (i64.wrap ((i : Int) + 1))) rfl rfl) (rw_nil ?_)
    obtain rfl := some_inj hF4
    exact ⟨k_1, Nat.lt_succ_self _, i + 1, Cells1, B2, c2, (FF.cons (hf1.get 1 0 rfl) (FF.cons (hf1.get 2 1 rfl) (FF.cons (hf1.get 6 2 rfl) (FF.cons (hf1.get 8 3 rfl) (FF.cons (hf1.get 25 5 rfl) (FF.cons (congrArg (Value.int .i64) (wr_succ hlt1 hN)) FF.nil)))))), (hS10.sel [0, 1, 2] rfl rfl), (by omega), hL1⟩
  ·skip
   obtain rfl : k_ = 0 := by have h := of_decide_eq_false hlt; omega
   refine cw_exit rfl ?_
   obtain rfl := some_inj hL
   refine cw_seq (cw_region ?_)
   refine sQ 51 (Y_loadA (B := aD b1) (i := 0) (cs := [vi rows, vi cols, .slice B1 Cells.length c1]) (vs := [vi rows, vi cols, .slice B1 Cells.length c1]) k_ag_75 k_sz_75_3 rfl (hf.get 8 3 rfl) (hS8.cf (i := 1) rfl) rfl rfl) ?_
   refine s0 (Ys_store (i := 0) (s := 3) (B := aD b) (T' := 75) (v := .agg #[vi rows, vi cols, .slice B1 Cells.length c1]) (vs := [vi rows, vi cols, .slice B1 Cells.length c1]) (k := 0) (cs' := [vi rows, vi cols, .slice B1 Cells.length c1]) hS8 k_sz_75_3 rfl (hf.get 6 2 rfl) rfl rfl rfl rfl rfl (lB rfl) rfl rfl) ?_
   rintro _ w_13 ⟨rfl, hS19⟩
   refine sQ 7 (Y_assign (v := .bool true) rfl rfl) (rw_nil (cw_ret ?_))
   obtain ⟨rfl, rfl⟩ := pr2 (some_inj hF3)
   exact ret2 Try.results157 (v1 := .agg #[vi rows, vi cols, .slice B1 Cells.length c1]) (resAt_cellA (B := aD b) (i := 0) (cs := [vi rows, vi cols, .slice B1 Cells.length c1]) (vs := [vi rows, vi cols, .slice B1 Cells.length c1]) (hf.get 6 2 rfl) k_ag_75 k_sz_75_3 (hS19.cf (i := 0) rfl) rfl rfl) (v2 := .bool true) (resAt_tmp rfl) ⟨B1, c1, rfl, (hS19.sN [2])⟩

theorem c_impl_small (holds : Bool)  (w0 : World)  (hS : ST w0 [] w0 [] []) {r_ : Int} (hF : F_impl_small holds = some r_) :
  CV Try.prog 220 #[.bool holds] w0 (fun v w' => v = vi r_ ∧ ST w0 [] w' [] []) := by
 unfold F_impl_small at hF
 refine cv_of_cw 4 Try.func220 rfl Try.ntmps220 rfl ?_
 refine cw_seq (cw_region ?_)
 refine sQ 2 (Y_assign (v := vi 0) rfl rfl) (rw_nil (cw_seq (cw_seq (cw_region ?_))))
 refine sQ 3 (Y_move (v := .bool holds) rfl rfl) (rw_nil ?_)
 refine cw_cond (b := holds) rfl (fun hb => ?_) (fun hb => ?_)
 ·skip
  have hF1 := ct hF hb
  refine cw_seq (cw_region ?_)
  refine sQ 2 (Y_assign (v := vi 1) rfl rfl) (rw_nil (cw_ret ?_))
  obtain rfl := some_inj hF1
  exact ret1 Try.results220 (v1 := vi 1) (resAt_tmp rfl) ⟨rfl, (hS.sN [])⟩
 ·skip
  have hF2 := cf' hF hb
  refine cw_skip (cw_seq (cw_region ?_))
  refine sQ 2 (Y_assign (v := vi 0) rfl rfl) (rw_nil (cw_ret ?_))
  obtain rfl := some_inj hF2
  exact ret1 Try.results220 (v1 := vi 0) (resAt_tmp rfl) ⟨rfl, (hS.sN [])⟩

theorem c_impl_levelCell (t : TTwoLevel) (i : Int) (j : Int)  (w0 : World)  (hS : ST w0 [] w0 [] []) {r_ : TDyadic} (hF : F_impl_levelCell t i j = some r_) :
  CV Try.prog 159 #[.agg #[vi t.Kind, vi t.I, vi t.J, vi t.M_], vi i, vi j] w0 (fun v w' => v = (gD_ r_) ∧ ST w0 [] w' [] []) := by
 unfold F_impl_levelCell at hF
 refine cv_of_cw 131 Try.func159 rfl Try.ntmps159 rfl ?_
 refine cw_seq (cw_region ?_)
 refine sS 3 (Ys_box (T := 133) (v := .agg #[vi t.Kind, vi t.I, vi t.J, vi t.M_]) (cs := [vi t.Kind, vi t.I, vi t.J, vi t.M_]) (m := 4) hS rfl rfl rfl rfl) ?_
 rintro _ w_ ⟨b, rfl, hS1⟩
 refine sS 6 (Ys_alloc (T := 124) (cs := kZ_) (m := 5) hS1 k_zero_124 rfl rfl rfl) ?_
 rintro _ w_1 ⟨b1, rfl, hS2⟩
 refine rw_nil (cw_seq (cw_region ?_))
 refine sQ 13 (Y_buildS (zs := [vi 0, vi 0, vi 0, vi 0]) (vs := [(0, vi 1)]) (cs := [vi 1, vi 0, vi 0, vi 0]) k_pl_122 k_zero_122 rfl (mpc rfl mpn) rfl) ?_
 refine sQ 14 (Y_buildS (zs := kZ_) (vs := [(0, .agg #[vi 1, vi 0, vi 0, vi 0]), (1, vi 1)]) (cs := [vi 1, vi 0, vi 0, vi 0, vi 1]) k_pl_124 k_zero_124 rfl (mpc rfl (mpc rfl mpn)) rfl) ?_
 refine sS 7 (Ys_alloc (T := 124) (cs := kZ_) (m := 5) hS2 k_zero_124 rfl rfl rfl) ?_
 rintro _ w_2 ⟨b2, rfl, hS3⟩
 refine s0 (Ys_store (i := 2) (s := 5) (B := aD b2) (T' := 124) (v := .agg #[vi 1, vi 0, vi 0, vi 0, vi 1]) (vs := [vi 1, vi 0, vi 0, vi 0, vi 1]) (k := 0) (cs' := [vi 1, vi 0, vi 0, vi 0, vi 1]) hS3 k_sz_124_5 rfl rfl rfl rfl rfl rfl rfl (lB rfl) rfl rfl) ?_
 rintro _ w_3 ⟨rfl, hS4⟩
 refine rw_nil (cw_seq ?_)
 obtain ⟨r_1, hc, hF⟩ := bind_inv hF
 obtain ⟨⟨r_2, r_3⟩, hc1, hF⟩ := bind_inv hF
 refine cw_mid (fun f w => ∃ (B : Option Addr), FF f [(1, vi i), (2, vi j), (3, pt (aD b) 0), (6, pt (aD b1) 0), (7, pt (aD b2) 0), (8, pt B 0)] ∧ ST w0 [] w [⟨aD b, 133, [vi t.Kind, vi t.I, vi t.J, vi t.M_], 4⟩, ⟨aD b1, 124, kZ_, 5⟩, ⟨aD b2, 124, [vi 1, vi 0, vi 0, vi 0, vi 1], 5⟩, ⟨B, 124, kD_ r_2, 5⟩] []) ?_ ?_
 ·skip
  refine ra_start (hS4.se [0, 1, 2]).fn (by kernel_rfl) ?_
  have hS8 := hS4.drew
  refine rq 0 16 (v := .agg #[vi 1, vi 0, vi 0, vi 0, vi 1]) rfl (hS8.se [0, 1, 2]) (fun w' hw' => (Y_loadA (B := aD b2) (i := 0) (cs := [vi 1, vi 0, vi 0, vi 0, vi 1]) (vs := [vi 1, vi 0, vi 0, vi 0, vi 1]) k_ag_124 k_sz_124_5 rfl rfl (ST.cf hw' (i := 2) rfl) rfl rfl)) ?_
  refine rq 1 17 (v := pt (aD b) 3) rfl (hS8.se [0, 1, 2]) (fun w' hw' => (Y_fieldAddr (B := aD b) (i := 0) (s := 0) k_fd_133_3_3_3 k_sz_3_1 rfl rfl)) ?_
  refine rq 2 18 (v := vi t.M_) rfl (hS8.se [0, 1, 2]) (fun w' hw' => (Y_load1 (B := aD b) (i := 3) (cs := [vi t.Kind, vi t.I, vi t.J, vi t.M_]) (v := vi t.M_) k_sc_3 rfl rfl (ST.cf hw' (i := 0) rfl) rfl)) ?_
  refine rA [3, 8] ?_
  refine ra_c 19 (i := 3) rfl rfl rfl (Yc_func (g := 215) (vs := [vi t.M_]) k_call_215 rfl (mc rfl mn) (c_impl_phase t.M_ _  (hS8.inn0 [] rfl) hc)) ?_ ?_
  ·rintro _ w_4 ⟨rfl, hd⟩
   have hS9 := hS8.out00 hd
   refine ⟨(hS9.se [0, 1, 2]), ?_⟩
   refine rA [4, 8] ?_
   refine ra_c 20 (i := 4) rfl rfl rfl (Yc_func (g := 161) (vs := [.agg #[vi 1, vi 0, vi 0, vi 0, vi 1], gD_ r_1]) k_call_161 rfl (mc rfl (mc rfl mn)) (c_impl_MulDyadic (TDyadic.mk (TRing.mk 1 0 0 0) 1) r_1 _  (hS9.inn0 [] rfl) hc1)) ?_ ?_
   ·rintro _ w_5 ⟨rfl, hd1⟩
    have hS10 := hS9.out00 hd1
    refine ⟨(hS10.se [0, 1, 2]), ?_⟩
    refine rq 5 15 (v := .tuple #[gD_ r_2, .bool r_3]) rfl (hS10.se [0, 1, 2]) (fun w' hw' => (Y_move (v := .tuple #[gD_ r_2, .bool r_3]) rfl rfl)) ?_
    refine rq 6 21 (v := gD_ r_2) rfl (hS10.se [0, 1, 2]) (fun w' hw' => (Y_extract (v := gD_ r_2) rfl rfl rfl)) ?_
    refine rq 7 22 (v := .bool r_3) rfl (hS10.se [0, 1, 2]) (fun w' hw' => (Y_extract (v := .bool r_3) rfl rfl rfl)) ?_
    refine rA [8] ?_
    refine ra_s 8 (i := 8) rfl rfl rfl (Ys_alloc (T := 124) (cs := kZ_) (m := 5) hS10 k_zero_124 rfl rfl rfl) ?_ ?_
    ·rintro _ w_6 ⟨b3, rfl, hS11⟩
     refine ⟨(hS11.se [0, 1, 2]), ?_⟩
     refine rA [9] ?_
     refine ra_s0 (i := 9) rfl rfl rfl (Ys_store (i := 3) (s := 5) (B := aD b3) (T' := 124) (v := gD_ r_2) (vs := kD_ r_2) (k := 0) (cs' := kD_ r_2) hS11 k_sz_124_5 rfl rfl rfl rfl rfl rfl rfl (lB rfl) rfl rfl) ?_ ?_
     ·rintro _ w_7 ⟨rfl, hS12⟩
      refine ⟨(hS12.se [0, 1, 2]), ?_⟩
      refine rq 10 9 (v := .bool r_3) rfl (hS12.se [0, 1, 2]) (fun w' hw' => (Y_assign (v := .bool r_3) rfl rfl)) ?_
      refine ra_done (by kernel_rfl) ?_
      exact ⟨aD b3, (FF.cons rfl (FF.cons rfl (FF.cons rfl (FF.cons rfl (FF.cons rfl (FF.cons rfl FF.nil)))))), (hS12.sel [0, 1, 2, 3] rfl rfl)⟩
     exact allR_nil
    exact allR_nil
   refine ra_s 8 (i := 8) rfl rfl rfl (Ys_alloc (T := 124) (cs := kZ_) (m := 5) hS9 k_zero_124 rfl rfl rfl) ?_ ?_
   ·rintro _ w_8 ⟨b3, rfl, hS13⟩
    refine ⟨(hS13.se [0, 1, 2]), ?_⟩
    refine rA [4] ?_
    refine ra_c 20 (i := 4) rfl rfl rfl (Yc_func (g := 161) (vs := [.agg #[vi 1, vi 0, vi 0, vi 0, vi 1], gD_ r_1]) k_call_161 rfl (mc rfl (mc rfl mn)) (c_impl_MulDyadic (TDyadic.mk (TRing.mk 1 0 0 0) 1) r_1 _  (hS13.inn0 [] rfl) hc1)) ?_ ?_
    ·rintro _ w_9 ⟨rfl, hd2⟩
     have hS14 := hS13.out00 hd2
     refine ⟨(hS14.se [0, 1, 2]), ?_⟩
     refine rq 5 15 (v := .tuple #[gD_ r_2, .bool r_3]) rfl (hS14.se [0, 1, 2]) (fun w' hw' => (Y_move (v := .tuple #[gD_ r_2, .bool r_3]) rfl rfl)) ?_
     refine rq 6 21 (v := gD_ r_2) rfl (hS14.se [0, 1, 2]) (fun w' hw' => (Y_extract (v := gD_ r_2) rfl rfl rfl)) ?_
     refine rq 7 22 (v := .bool r_3) rfl (hS14.se [0, 1, 2]) (fun w' hw' => (Y_extract (v := .bool r_3) rfl rfl rfl)) ?_
     refine rA [9] ?_
     refine ra_s0 (i := 9) rfl rfl rfl (Ys_store (i := 3) (s := 5) (B := aD b3) (T' := 124) (v := gD_ r_2) (vs := kD_ r_2) (k := 0) (cs' := kD_ r_2) hS14 k_sz_124_5 rfl rfl rfl rfl rfl rfl rfl (lB rfl) rfl rfl) ?_ ?_
     ·rintro _ w_10 ⟨rfl, hS15⟩
      refine ⟨(hS15.se [0, 1, 2]), ?_⟩
      refine rq 10 9 (v := .bool r_3) rfl (hS15.se [0, 1, 2]) (fun w' hw' => (Y_assign (v := .bool r_3) rfl rfl)) ?_
      refine ra_done (by kernel_rfl) ?_
      exact ⟨aD b3, (FF.cons rfl (FF.cons rfl (FF.cons rfl (FF.cons rfl (FF.cons rfl (FF.cons rfl FF.nil)))))), (hS15.sel [0, 1, 2, 3] rfl rfl)⟩
     exact allR_nil
    exact allR_nil
   exact allR_nil
  refine ra_s 8 (i := 8) rfl rfl rfl (Ys_alloc (T := 124) (cs := kZ_) (m := 5) hS8 k_zero_124 rfl rfl rfl) ?_ ?_
  ·rintro _ w_11 ⟨b3, rfl, hS16⟩
   refine ⟨(hS16.se [0, 1, 2]), ?_⟩
   refine rA [3] ?_
   refine ra_c 19 (i := 3) rfl rfl rfl (Yc_func (g := 215) (vs := [vi t.M_]) k_call_215 rfl (mc rfl mn) (c_impl_phase t.M_ _  (hS16.inn0 [] rfl) hc)) ?_ ?_
   ·rintro _ w_12 ⟨rfl, hd3⟩
    have hS17 := hS16.out00 hd3
    refine ⟨(hS17.se [0, 1, 2]), ?_⟩
    refine rA [4] ?_
    refine ra_c 20 (i := 4) rfl rfl rfl (Yc_func (g := 161) (vs := [.agg #[vi 1, vi 0, vi 0, vi 0, vi 1], gD_ r_1]) k_call_161 rfl (mc rfl (mc rfl mn)) (c_impl_MulDyadic (TDyadic.mk (TRing.mk 1 0 0 0) 1) r_1 _  (hS17.inn0 [] rfl) hc1)) ?_ ?_
    ·rintro _ w_13 ⟨rfl, hd4⟩
     have hS18 := hS17.out00 hd4
     refine ⟨(hS18.se [0, 1, 2]), ?_⟩
     refine rq 5 15 (v := .tuple #[gD_ r_2, .bool r_3]) rfl (hS18.se [0, 1, 2]) (fun w' hw' => (Y_move (v := .tuple #[gD_ r_2, .bool r_3]) rfl rfl)) ?_
     refine rq 6 21 (v := gD_ r_2) rfl (hS18.se [0, 1, 2]) (fun w' hw' => (Y_extract (v := gD_ r_2) rfl rfl rfl)) ?_
     refine rq 7 22 (v := .bool r_3) rfl (hS18.se [0, 1, 2]) (fun w' hw' => (Y_extract (v := .bool r_3) rfl rfl rfl)) ?_
     refine rA [9] ?_
     refine ra_s0 (i := 9) rfl rfl rfl (Ys_store (i := 3) (s := 5) (B := aD b3) (T' := 124) (v := gD_ r_2) (vs := kD_ r_2) (k := 0) (cs' := kD_ r_2) hS18 k_sz_124_5 rfl rfl rfl rfl rfl rfl rfl (lB rfl) rfl rfl) ?_ ?_
     ·rintro _ w_14 ⟨rfl, hS19⟩
      refine ⟨(hS19.se [0, 1, 2]), ?_⟩
      refine rq 10 9 (v := .bool r_3) rfl (hS19.se [0, 1, 2]) (fun w' hw' => (Y_assign (v := .bool r_3) rfl rfl)) ?_
      refine ra_done (by kernel_rfl) ?_
      exact ⟨aD b3, (FF.cons rfl (FF.cons rfl (FF.cons rfl (FF.cons rfl (FF.cons rfl (FF.cons rfl FF.nil)))))), (hS19.sel [0, 1, 2, 3] rfl rfl)⟩
     exact allR_nil
    exact allR_nil
   exact allR_nil
  exact allR_nil
 rintro f w ⟨B, hf, hS7⟩
 refine cw_seq ?_
 obtain ⟨r_4, hc2, hF⟩ := bind_inv hF
 obtain ⟨⟨r_5, r_6⟩, hc3, hF⟩ := bind_inv hF
 refine cw_mid (fun f w => ∃ (B1 : Option Addr), FF f [(1, vi i), (2, vi j), (3, pt (aD b) 0), (6, pt (aD b1) 0), (7, pt (aD b2) 0), (8, pt B 0), (10, pt B1 0)] ∧ ST w0 [] w [⟨aD b, 133, [vi t.Kind, vi t.I, vi t.J, vi t.M_], 4⟩, ⟨aD b1, 124, kZ_, 5⟩, ⟨aD b2, 124, [vi 1, vi 0, vi 0, vi 0, vi 1], 5⟩, ⟨B, 124, kD_ r_2, 5⟩, ⟨B1, 124, kD_ r_5, 5⟩] []) ?_ ?_
 ·skip
  refine ra_start (hS7.se [0, 1, 2, 3]).fn (by kernel_rfl) ?_
  have hS23 := hS7.drew
  refine rq 0 24 (v := .agg #[vi 1, vi 0, vi 0, vi 0, vi 1]) rfl (hS23.se [0, 1, 2, 3]) (fun w' hw' => (Y_loadA (B := aD b2) (i := 0) (cs := [vi 1, vi 0, vi 0, vi 0, vi 1]) (vs := [vi 1, vi 0, vi 0, vi 0, vi 1]) k_ag_124 k_sz_124_5 rfl (hf.get 7 4 rfl) (ST.cf hw' (i := 2) rfl) rfl rfl)) ?_
  refine rq 1 25 (v := pt (aD b) 3) rfl (hS23.se [0, 1, 2, 3]) (fun w' hw' => (Y_fieldAddr (B := aD b) (i := 0) (s := 0) k_fd_133_3_3_3 k_sz_3_1 rfl (hf.get 3 2 rfl))) ?_
  refine rq 2 26 (v := vi t.M_) rfl (hS23.se [0, 1, 2, 3]) (fun w' hw' => (Y_load1 (B := aD b) (i := 3) (cs := [vi t.Kind, vi t.I, vi t.J, vi t.M_]) (v := vi t.M_) k_sc_3 rfl rfl (ST.cf hw' (i := 0) rfl) rfl)) ?_
  refine rq 3 27 (v := vi (i64.wrap (t.M_ + 4))) rfl (hS23.se [0, 1, 2, 3]) (fun w' hw' => (Y_add (k := .i64) (a := t.M_) (b := 4) rfl rfl rfl)) ?_
  refine rA [4, 9] ?_
  refine ra_c 28 (i := 4) rfl rfl rfl (Yc_func (g := 215) (vs := [vi (i64.wrap (t.M_ + 4))]) k_call_215 rfl (mc rfl mn) (c_impl_phase (i64.wrap (t.M_ + 4)) _  (hS23.inn0 [] rfl) hc2)) ?_ ?_
  ·rintro _ w_15 ⟨rfl, hd5⟩
   have hS24 := hS23.out00 hd5
   refine ⟨(hS24.se [0, 1, 2, 3]), ?_⟩
   refine rA [5, 9] ?_
   refine ra_c 29 (i := 5) rfl rfl rfl (Yc_func (g := 161) (vs := [.agg #[vi 1, vi 0, vi 0, vi 0, vi 1], gD_ r_4]) k_call_161 rfl (mc rfl (mc rfl mn)) (c_impl_MulDyadic (TDyadic.mk (TRing.mk 1 0 0 0) 1) r_4 _  (hS24.inn0 [] rfl) hc3)) ?_ ?_
   ·rintro _ w_16 ⟨rfl, hd6⟩
    have hS25 := hS24.out00 hd6
    refine ⟨(hS25.se [0, 1, 2, 3]), ?_⟩
    refine rq 6 23 (v := .tuple #[gD_ r_5, .bool r_6]) rfl (hS25.se [0, 1, 2, 3]) (fun w' hw' => (Y_move (v := .tuple #[gD_ r_5, .bool r_6]) rfl rfl)) ?_
    refine rq 7 30 (v := gD_ r_5) rfl (hS25.se [0, 1, 2, 3]) (fun w' hw' => (Y_extract (v := gD_ r_5) rfl rfl rfl)) ?_
    refine rq 8 31 (v := .bool r_6) rfl (hS25.se [0, 1, 2, 3]) (fun w' hw' => (Y_extract (v := .bool r_6) rfl rfl rfl)) ?_
    refine rA [9] ?_
    refine ra_s 10 (i := 9) rfl rfl rfl (Ys_alloc (T := 124) (cs := kZ_) (m := 5) hS25 k_zero_124 rfl rfl rfl) ?_ ?_
    ·rintro _ w_17 ⟨b4, rfl, hS26⟩
     refine ⟨(hS26.se [0, 1, 2, 3]), ?_⟩
     refine rA [10] ?_
     refine ra_s0 (i := 10) rfl rfl rfl (Ys_store (i := 4) (s := 5) (B := aD b4) (T' := 124) (v := gD_ r_5) (vs := kD_ r_5) (k := 0) (cs' := kD_ r_5) hS26 k_sz_124_5 rfl rfl rfl rfl rfl rfl rfl (lB rfl) rfl rfl) ?_ ?_
     ·rintro _ w_18 ⟨rfl, hS27⟩
      refine ⟨(hS27.se [0, 1, 2, 3]), ?_⟩
      refine rq 11 11 (v := .bool r_6) rfl (hS27.se [0, 1, 2, 3]) (fun w' hw' => (Y_assign (v := .bool r_6) rfl rfl)) ?_
      refine ra_done (by kernel_rfl) ?_
      exact ⟨aD b4, (FF.cons (hf.get 1 0 rfl) (FF.cons (hf.get 2 1 rfl) (FF.cons (hf.get 3 2 rfl) (FF.cons (hf.get 6 3 rfl) (FF.cons (hf.get 7 4 rfl) (FF.cons (hf.get 8 5 rfl) (FF.cons rfl FF.nil))))))), (hS27.sel [0, 1, 2, 3, 4] rfl rfl)⟩
     exact allR_nil
    exact allR_nil
   refine ra_s 10 (i := 9) rfl rfl rfl (Ys_alloc (T := 124) (cs := kZ_) (m := 5) hS24 k_zero_124 rfl rfl rfl) ?_ ?_
   ·rintro _ w_19 ⟨b4, rfl, hS28⟩
    refine ⟨(hS28.se [0, 1, 2, 3]), ?_⟩
    refine rA [5] ?_
    refine ra_c 29 (i := 5) rfl rfl rfl (Yc_func (g := 161) (vs := [.agg #[vi 1, vi 0, vi 0, vi 0, vi 1], gD_ r_4]) k_call_161 rfl (mc rfl (mc rfl mn)) (c_impl_MulDyadic (TDyadic.mk (TRing.mk 1 0 0 0) 1) r_4 _  (hS28.inn0 [] rfl) hc3)) ?_ ?_
    ·rintro _ w_20 ⟨rfl, hd7⟩
     have hS29 := hS28.out00 hd7
     refine ⟨(hS29.se [0, 1, 2, 3]), ?_⟩
     refine rq 6 23 (v := .tuple #[gD_ r_5, .bool r_6]) rfl (hS29.se [0, 1, 2, 3]) (fun w' hw' => (Y_move (v := .tuple #[gD_ r_5, .bool r_6]) rfl rfl)) ?_
     refine rq 7 30 (v := gD_ r_5) rfl (hS29.se [0, 1, 2, 3]) (fun w' hw' => (Y_extract (v := gD_ r_5) rfl rfl rfl)) ?_
     refine rq 8 31 (v := .bool r_6) rfl (hS29.se [0, 1, 2, 3]) (fun w' hw' => (Y_extract (v := .bool r_6) rfl rfl rfl)) ?_
     refine rA [10] ?_
     refine ra_s0 (i := 10) rfl rfl rfl (Ys_store (i := 4) (s := 5) (B := aD b4) (T' := 124) (v := gD_ r_5) (vs := kD_ r_5) (k := 0) (cs' := kD_ r_5) hS29 k_sz_124_5 rfl rfl rfl rfl rfl rfl rfl (lB rfl) rfl rfl) ?_ ?_
     ·rintro _ w_21 ⟨rfl, hS30⟩
      refine ⟨(hS30.se [0, 1, 2, 3]), ?_⟩
      refine rq 11 11 (v := .bool r_6) rfl (hS30.se [0, 1, 2, 3]) (fun w' hw' => (Y_assign (v := .bool r_6) rfl rfl)) ?_
      refine ra_done (by kernel_rfl) ?_
      exact ⟨aD b4, (FF.cons (hf.get 1 0 rfl) (FF.cons (hf.get 2 1 rfl) (FF.cons (hf.get 3 2 rfl) (FF.cons (hf.get 6 3 rfl) (FF.cons (hf.get 7 4 rfl) (FF.cons (hf.get 8 5 rfl) (FF.cons rfl FF.nil))))))), (hS30.sel [0, 1, 2, 3, 4] rfl rfl)⟩
     exact allR_nil
    exact allR_nil
   exact allR_nil
  refine ra_s 10 (i := 9) rfl rfl rfl (Ys_alloc (T := 124) (cs := kZ_) (m := 5) hS23 k_zero_124 rfl rfl rfl) ?_ ?_
  ·rintro _ w_22 ⟨b4, rfl, hS31⟩
   refine ⟨(hS31.se [0, 1, 2, 3]), ?_⟩
   refine rA [4] ?_
   refine ra_c 28 (i := 4) rfl rfl rfl (Yc_func (g := 215) (vs := [vi (i64.wrap (t.M_ + 4))]) k_call_215 rfl (mc rfl mn) (c_impl_phase (i64.wrap (t.M_ + 4)) _  (hS31.inn0 [] rfl) hc2)) ?_ ?_
   ·rintro _ w_23 ⟨rfl, hd8⟩
    have hS32 := hS31.out00 hd8
    refine ⟨(hS32.se [0, 1, 2, 3]), ?_⟩
    refine rA [5] ?_
    refine ra_c 29 (i := 5) rfl rfl rfl (Yc_func (g := 161) (vs := [.agg #[vi 1, vi 0, vi 0, vi 0, vi 1], gD_ r_4]) k_call_161 rfl (mc rfl (mc rfl mn)) (c_impl_MulDyadic (TDyadic.mk (TRing.mk 1 0 0 0) 1) r_4 _  (hS32.inn0 [] rfl) hc3)) ?_ ?_
    ·rintro _ w_24 ⟨rfl, hd9⟩
     have hS33 := hS32.out00 hd9
     refine ⟨(hS33.se [0, 1, 2, 3]), ?_⟩
     refine rq 6 23 (v := .tuple #[gD_ r_5, .bool r_6]) rfl (hS33.se [0, 1, 2, 3]) (fun w' hw' => (Y_move (v := .tuple #[gD_ r_5, .bool r_6]) rfl rfl)) ?_
     refine rq 7 30 (v := gD_ r_5) rfl (hS33.se [0, 1, 2, 3]) (fun w' hw' => (Y_extract (v := gD_ r_5) rfl rfl rfl)) ?_
     refine rq 8 31 (v := .bool r_6) rfl (hS33.se [0, 1, 2, 3]) (fun w' hw' => (Y_extract (v := .bool r_6) rfl rfl rfl)) ?_
     refine rA [10] ?_
     refine ra_s0 (i := 10) rfl rfl rfl (Ys_store (i := 4) (s := 5) (B := aD b4) (T' := 124) (v := gD_ r_5) (vs := kD_ r_5) (k := 0) (cs' := kD_ r_5) hS33 k_sz_124_5 rfl rfl rfl rfl rfl rfl rfl (lB rfl) rfl rfl) ?_ ?_
     ·rintro _ w_25 ⟨rfl, hS34⟩
      refine ⟨(hS34.se [0, 1, 2, 3]), ?_⟩
      refine rq 11 11 (v := .bool r_6) rfl (hS34.se [0, 1, 2, 3]) (fun w' hw' => (Y_assign (v := .bool r_6) rfl rfl)) ?_
      refine ra_done (by kernel_rfl) ?_
      exact ⟨aD b4, (FF.cons (hf.get 1 0 rfl) (FF.cons (hf.get 2 1 rfl) (FF.cons (hf.get 3 2 rfl) (FF.cons (hf.get 6 3 rfl) (FF.cons (hf.get 7 4 rfl) (FF.cons (hf.get 8 5 rfl) (FF.cons rfl FF.nil))))))), (hS34.sel [0, 1, 2, 3, 4] rfl rfl)⟩
     exact allR_nil
    exact allR_nil
   exact allR_nil
  exact allR_nil
 rintro f w ⟨B1, hf1, hS22⟩
 refine cw_seq (cw_region ?_)
 refine sQ 32 (Y_fieldAddr (B := aD b) (i := 0) (s := 0) k_fd_133_0_0_3 k_sz_3_1 rfl (hf1.get 3 2 rfl)) ?_
 refine sQ 33 (Y_load1 (B := aD b) (i := 0) (cs := [vi t.Kind, vi t.I, vi t.J, vi t.M_]) (v := vi t.Kind) k_sc_3 rfl rfl (hS22.cf (i := 0) rfl) rfl) ?_
 refine sQ 34 (Y_ne (k := .i64) (a := t.Kind) (b := 1) rfl rfl rfl) ?_
 refine sQ 35 (Y_move (v := .bool (t.Kind != 1)) rfl rfl) ?_
 refine sgq 36 (B := (t.Kind != 1)) (v := vi i) rfl rfl (uT_ 35) (fun hg => (Y_move (v := vi i) rfl (hf1.get 1 0 rfl))) ?_
 refine sgq 37 (B := (t.Kind != 1)) (v := pt (aD b) 1) rfl rfl (uT_ 35) (fun hg1 => (Y_fieldAddr (B := aD b) (i := 0) (s := 0) k_fd_133_1_1_3 k_sz_3_1 rfl (hf1.get 3 2 rfl))) ?_
 refine sgq 38 (B := (t.Kind != 1)) (v := vi t.I) rfl rfl (uT_ 35) (fun hg2 => (Y_load1 (B := aD b) (i := 1) (cs := [vi t.Kind, vi t.I, vi t.J, vi t.M_]) (v := vi t.I) k_sc_3 rfl (gv_of (v := pt (aD b) 1) hg2) (hS22.cf (i := 0) rfl) rfl)) ?_
 refine sgq 39 (B := (t.Kind != 1)) (v := .bool (i == t.I)) rfl rfl (uT_ 35) (fun hg3 => (Y_eq (k := .i64) (a := i) (b := t.I) rfl (gv_of (v := vi i) hg3) (gv_of (v := vi t.I) hg3))) ?_
 refine sgq 40 (B := (t.Kind != 1)) (v := .bool (i == t.I)) rfl rfl (uT_ 35) (fun hg4 => (Y_move (v := .bool (i == t.I)) rfl (gv_of (v := .bool (i == t.I)) hg4))) ?_
 refine sgq 41 (B := ((t.Kind != 1) && (!(i == t.I)))) (v := vi i) rfl rfl (wt_gf (gd_of (t := 40) (by kernel_rfl) rfl)) (fun hg5 => (Y_move (v := vi i) rfl (hf1.get 1 0 rfl))) ?_
 refine sgq 42 (B := ((t.Kind != 1) && (!(i == t.I)))) (v := pt (aD b) 2) rfl rfl (wt_gf (gd_of (t := 40) (by kernel_rfl) rfl)) (fun hg6 => (Y_fieldAddr (B := aD b) (i := 0) (s := 0) k_fd_133_2_2_3 k_sz_3_1 rfl (hf1.get 3 2 rfl))) ?_
 refine sgq 43 (B := ((t.Kind != 1) && (!(i == t.I)))) (v := vi t.J) rfl rfl (wt_gf (gd_of (t := 40) (by kernel_rfl) rfl)) (fun hg7 => (Y_load1 (B := aD b) (i := 2) (cs := [vi t.Kind, vi t.I, vi t.J, vi t.M_]) (v := vi t.J) k_sc_3 rfl (gv_of (v := pt (aD b) 2) hg7) (hS22.cf (i := 0) rfl) rfl)) ?_
 refine sgq 44 (B := ((t.Kind != 1) && (!(i == t.I)))) (v := .bool (i == t.J)) rfl rfl (wt_gf (gd_of (t := 40) (by kernel_rfl) rfl)) (fun hg8 => (Y_eq (k := .i64) (a := i) (b := t.J) rfl (gv_of (v := vi i) hg8) (gv_of (v := vi t.J) hg8))) ?_
 refine sgq 45 (B := (t.Kind != 1)) (v := .bool ((i == t.I) || (i == t.J))) rfl rfl (uT_ 35) (fun hg9 => (Y_or (b := (i == t.I)) (z := (i == t.J)) rfl (gv_of (v := .bool (i == t.I)) hg9) rfl (gv_and (B := (t.Kind != 1)) (C := (!(i == t.I))) (v := .bool (i == t.J)) hg9))) ?_
 refine sQ 46 (Y_and (b := (t.Kind != 1)) (z := ((i == t.I) || (i == t.J))) rfl rfl rfl rfl) ?_
 refine sQ 47 (Y_move (v := .bool ((t.Kind != 1) && ((i == t.I) || (i == t.J)))) rfl rfl) ?_
 refine sgq 48 (B := ((t.Kind != 1) && ((i == t.I) || (i == t.J)))) (v := vi j) rfl rfl (uT_ 47) (fun hg10 => (Y_move (v := vi j) rfl (hf1.get 2 1 rfl))) ?_
 refine sgq 49 (B := ((t.Kind != 1) && ((i == t.I) || (i == t.J)))) (v := pt (aD b) 1) rfl rfl (uT_ 47) (fun hg11 => (Y_fieldAddr (B := aD b) (i := 0) (s := 0) k_fd_133_1_1_3 k_sz_3_1 rfl (hf1.get 3 2 rfl))) ?_
 refine sgq 50 (B := ((t.Kind != 1) && ((i == t.I) || (i == t.J)))) (v := vi t.I) rfl rfl (uT_ 47) (fun hg12 => (Y_load1 (B := aD b) (i := 1) (cs := [vi t.Kind, vi t.I, vi t.J, vi t.M_]) (v := vi t.I) k_sc_3 rfl (gv_of (v := pt (aD b) 1) hg12) (hS22.cf (i := 0) rfl) rfl)) ?_
 refine sgq 51 (B := ((t.Kind != 1) && ((i == t.I) || (i == t.J)))) (v := .bool (j == t.I)) rfl rfl (uT_ 47) (fun hg13 => (Y_eq (k := .i64) (a := j) (b := t.I) rfl (gv_of (v := vi j) hg13) (gv_of (v := vi t.I) hg13))) ?_
 refine sgq 52 (B := ((t.Kind != 1) && ((i == t.I) || (i == t.J)))) (v := .bool (j == t.I)) rfl rfl (uT_ 47) (fun hg14 => (Y_move (v := .bool (j == t.I)) rfl (gv_of (v := .bool (j == t.I)) hg14))) ?_
 refine sgq 53 (B := (((t.Kind != 1) && ((i == t.I) || (i == t.J))) && (!(j == t.I)))) (v := vi j) rfl rfl (wt_gf (gd_of (t := 52) (by kernel_rfl) rfl)) (fun hg15 => (Y_move (v := vi j) rfl (hf1.get 2 1 rfl))) ?_
 refine sgq 54 (B := (((t.Kind != 1) && ((i == t.I) || (i == t.J))) && (!(j == t.I)))) (v := pt (aD b) 2) rfl rfl (wt_gf (gd_of (t := 52) (by kernel_rfl) rfl)) (fun hg16 => (Y_fieldAddr (B := aD b) (i := 0) (s := 0) k_fd_133_2_2_3 k_sz_3_1 rfl (hf1.get 3 2 rfl))) ?_
 refine sgq 55 (B := (((t.Kind != 1) && ((i == t.I) || (i == t.J))) && (!(j == t.I)))) (v := vi t.J) rfl rfl (wt_gf (gd_of (t := 52) (by kernel_rfl) rfl)) (fun hg17 => (Y_load1 (B := aD b) (i := 2) (cs := [vi t.Kind, vi t.I, vi t.J, vi t.M_]) (v := vi t.J) k_sc_3 rfl (gv_of (v := pt (aD b) 2) hg17) (hS22.cf (i := 0) rfl) rfl)) ?_
 refine sgq 56 (B := (((t.Kind != 1) && ((i == t.I) || (i == t.J))) && (!(j == t.I)))) (v := .bool (j == t.J)) rfl rfl (wt_gf (gd_of (t := 52) (by kernel_rfl) rfl)) (fun hg18 => (Y_eq (k := .i64) (a := j) (b := t.J) rfl (gv_of (v := vi j) hg18) (gv_of (v := vi t.J) hg18))) ?_
 refine sgq 57 (B := ((t.Kind != 1) && ((i == t.I) || (i == t.J)))) (v := .bool ((j == t.I) || (j == t.J))) rfl rfl (uT_ 47) (fun hg19 => (Y_or (b := (j == t.I)) (z := (j == t.J)) rfl (gv_of (v := .bool (j == t.I)) hg19) rfl (gv_and (B := ((t.Kind != 1) && ((i == t.I) || (i == t.J)))) (C := (!(j == t.I))) (v := .bool (j == t.J)) hg19))) ?_
 refine sQ 58 (Y_and (b := ((t.Kind != 1) && ((i == t.I) || (i == t.J)))) (z := ((j == t.I) || (j == t.J))) rfl rfl rfl rfl) ?_
 refine sQ 12 (Y_assign (v := .bool (((t.Kind != 1) && ((i == t.I) || (i == t.J))) && ((j == t.I) || (j == t.J)))) rfl rfl) (rw_nil (cw_seq (cw_block (cw_seq (cw_region ?_)))))
 refine sQ 60 (Y_fieldAddr (B := aD b) (i := 0) (s := 0) k_fd_133_0_0_3 k_sz_3_1 rfl (hf1.get 3 2 rfl)) ?_
 refine sQ 61 (Y_load1 (B := aD b) (i := 0) (cs := [vi t.Kind, vi t.I, vi t.J, vi t.M_]) (v := vi t.Kind) k_sc_3 rfl rfl (hS22.cf (i := 0) rfl) rfl) ?_
 refine sQ 62 (Y_eq (k := .i64) (a := t.Kind) (b := 1) rfl rfl rfl) ?_
 refine sQ 63 (Y_move (v := .bool (t.Kind == 1)) rfl rfl) ?_
 refine sgq 64 (B := (t.Kind == 1)) (v := vi i) rfl rfl (uT_ 63) (fun hg20 => (Y_move (v := vi i) rfl (hf1.get 1 0 rfl))) ?_
 refine sgq 65 (B := (t.Kind == 1)) (v := pt (aD b) 1) rfl rfl (uT_ 63) (fun hg21 => (Y_fieldAddr (B := aD b) (i := 0) (s := 0) k_fd_133_1_1_3 k_sz_3_1 rfl (hf1.get 3 2 rfl))) ?_
 refine sgq 66 (B := (t.Kind == 1)) (v := vi t.I) rfl rfl (uT_ 63) (fun hg22 => (Y_load1 (B := aD b) (i := 1) (cs := [vi t.Kind, vi t.I, vi t.J, vi t.M_]) (v := vi t.I) k_sc_3 rfl (gv_of (v := pt (aD b) 1) hg22) (hS22.cf (i := 0) rfl) rfl)) ?_
 refine sgq 67 (B := (t.Kind == 1)) (v := .bool (i == t.I)) rfl rfl (uT_ 63) (fun hg23 => (Y_eq (k := .i64) (a := i) (b := t.I) rfl (gv_of (v := vi i) hg23) (gv_of (v := vi t.I) hg23))) ?_
 refine sQ 68 (Y_and (b := (t.Kind == 1)) (z := (i == t.I)) rfl rfl rfl rfl) ?_
 refine sQ 69 (Y_move (v := .bool ((t.Kind == 1) && (i == t.I))) rfl rfl) ?_
 refine sgq 70 (B := ((t.Kind == 1) && (i == t.I))) (v := vi j) rfl rfl (uT_ 69) (fun hg24 => (Y_move (v := vi j) rfl (hf1.get 2 1 rfl))) ?_
 refine sgq 71 (B := ((t.Kind == 1) && (i == t.I))) (v := pt (aD b) 1) rfl rfl (uT_ 69) (fun hg25 => (Y_fieldAddr (B := aD b) (i := 0) (s := 0) k_fd_133_1_1_3 k_sz_3_1 rfl (hf1.get 3 2 rfl))) ?_
 refine sgq 72 (B := ((t.Kind == 1) && (i == t.I))) (v := vi t.I) rfl rfl (uT_ 69) (fun hg26 => (Y_load1 (B := aD b) (i := 1) (cs := [vi t.Kind, vi t.I, vi t.J, vi t.M_]) (v := vi t.I) k_sc_3 rfl (gv_of (v := pt (aD b) 1) hg26) (hS22.cf (i := 0) rfl) rfl)) ?_
 refine sgq 73 (B := ((t.Kind == 1) && (i == t.I))) (v := .bool (j == t.I)) rfl rfl (uT_ 69) (fun hg27 => (Y_eq (k := .i64) (a := j) (b := t.I) rfl (gv_of (v := vi j) hg27) (gv_of (v := vi t.I) hg27))) ?_
 refine sQ 74 (Y_and (b := ((t.Kind == 1) && (i == t.I))) (z := (j == t.I)) rfl rfl rfl rfl) ?_
 refine sQ 59 (Y_assign (v := .bool (((t.Kind == 1) && (i == t.I)) && (j == t.I))) rfl rfl) (rw_nil ?_)
 refine cw_cond (b := (((t.Kind == 1) && (i == t.I)) && (j == t.I))) rfl (fun hb => ?_) (fun hb => ?_)
 ·skip
  have hF1 := ct hF hb
  refine cw_seq (cw_region ?_)
  refine sQ 75 (Y_fieldAddr (B := aD b) (i := 0) (s := 0) k_fd_133_3_3_3 k_sz_3_1 rfl (hf1.get 3 2 rfl)) ?_
  refine sQ 76 (Y_load1 (B := aD b) (i := 3) (cs := [vi t.Kind, vi t.I, vi t.J, vi t.M_]) (v := vi t.M_) k_sc_3 rfl rfl (hS22.cf (i := 0) rfl) rfl) ?_
  obtain ⟨r_7, hc4, hF1⟩ := bind_inv hF1
  refine sc 77 rfl rfl (Yc_func (g := 215) (vs := [vi t.M_]) k_call_215 rfl (mc rfl mn) (c_impl_phase t.M_ _  (hS22.inn0 [] rfl) hc4)) ?_
  rintro _ w_26 ⟨rfl, hd10⟩
  have hS35 := hS22.out00 hd10
  refine s0 (Ys_store (i := 1) (s := 5) (B := aD b1) (T' := 124) (v := gD_ r_7) (vs := kD_ r_7) (k := 0) (cs' := kD_ r_7) hS35 k_sz_124_5 rfl (hf1.get 6 3 rfl) rfl rfl rfl rfl rfl (lB rfl) rfl rfl) ?_
  rintro _ w_27 ⟨rfl, hS36⟩
  refine rw_nil (cw_ret ?_)
  obtain rfl := some_inj hF1
  exact ret1 Try.results159 (v1 := gD_ r_7) (resAt_cellA (B := aD b1) (i := 0) (cs := kD_ r_7) (vs := kD_ r_7) (hf1.get 6 3 rfl) k_ag_124 k_sz_124_5 (hS36.cf (i := 1) rfl) rfl rfl) ⟨rfl, (hS36.sN [])⟩
 ·skip
  have hF2 := cf' hF hb
  refine cw_seq (cw_region ?_)
  refine sQ 79 (Y_fieldAddr (B := aD b) (i := 0) (s := 0) k_fd_133_0_0_3 k_sz_3_1 rfl (hf1.get 3 2 rfl)) ?_
  refine sQ 80 (Y_load1 (B := aD b) (i := 0) (cs := [vi t.Kind, vi t.I, vi t.J, vi t.M_]) (v := vi t.Kind) k_sc_3 rfl rfl (hS22.cf (i := 0) rfl) rfl) ?_
  refine sQ 81 (Y_eq (k := .i64) (a := t.Kind) (b := 2) rfl rfl rfl) ?_
  refine sQ 82 (Y_move (v := .bool (t.Kind == 2)) rfl rfl) ?_
  refine sgq 83 (B := (t.Kind == 2)) (v := .bool (((t.Kind != 1) && ((i == t.I) || (i == t.J))) && ((j == t.I) || (j == t.J)))) rfl rfl (uT_ 82) (fun hg28 => (Y_move (v := .bool (((t.Kind != 1) && ((i == t.I) || (i == t.J))) && ((j == t.I) || (j == t.J)))) rfl rfl)) ?_
  refine sQ 84 (Y_and (b := (t.Kind == 2)) (z := (((t.Kind != 1) && ((i == t.I) || (i == t.J))) && ((j == t.I) || (j == t.J)))) rfl rfl rfl rfl) ?_
  refine sQ 78 (Y_assign (v := .bool ((t.Kind == 2) && (((t.Kind != 1) && ((i == t.I) || (i == t.J))) && ((j == t.I) || (j == t.J))))) rfl rfl) (rw_nil ?_)
  refine cw_cond (b := ((t.Kind == 2) && (((t.Kind != 1) && ((i == t.I) || (i == t.J))) && ((j == t.I) || (j == t.J))))) rfl (fun hb1 => ?_) (fun hb1 => ?_)
  ·skip
   have hF3 := ct hF2 hb1
   refine cw_seq (cw_region ?_)
   refine sQ 85 (Y_move (v := vi i) rfl (hf1.get 1 0 rfl)) ?_
   refine sQ 86 (Y_move (v := vi j) rfl (hf1.get 2 1 rfl)) ?_
   refine sQ 87 (Y_ne (k := .i64) (a := i) (b := j) rfl rfl rfl) ?_
   obtain ⟨r_8, hc5, hF3⟩ := bind_inv hF3
   refine sc 88 rfl rfl (Yc_func (g := 220) (vs := [.bool (i != j)]) k_call_220 rfl (mc rfl mn) (c_impl_small (i != j) _  (hS22.inn0 [] rfl) hc5)) ?_
   rintro _ w_28 ⟨rfl, hd11⟩
   have hS37 := hS22.out00 hd11
   obtain ⟨r_9, hc6, hF3⟩ := bind_inv hF3
   refine sc 89 rfl rfl (Yc_func (g := 151) (vs := [vi r_8]) k_call_151 rfl (mc rfl mn) (c_impl_whole r_8 _  (hS37.inn0 [] rfl) hc6)) ?_
   rintro _ w_29 ⟨rfl, hd12⟩
   have hS38 := hS37.out00 hd12
   refine s0 (Ys_store (i := 1) (s := 5) (B := aD b1) (T' := 124) (v := gD_ r_9) (vs := kD_ r_9) (k := 0) (cs' := kD_ r_9) hS38 k_sz_124_5 rfl (hf1.get 6 3 rfl) rfl rfl rfl rfl rfl (lB rfl) rfl rfl) ?_
   rintro _ w_30 ⟨rfl, hS39⟩
   have hS39 : ST w0 [] _ [⟨aD b, 133, [vi t.Kind, vi t.I, vi t.J, vi t.M_], 4⟩, ⟨aD b1, 124, kD_ r_9, 5⟩, ⟨aD b2, 124, [vi 1, vi 0, vi 0, vi 0, vi 1], 5⟩, ⟨B, 124, kD_ r_2, 5⟩, ⟨B1, 124, kD_ r_5, 5⟩] [] := hS39
   refine rw_nil (cw_ret ?_)
   obtain rfl := some_inj hF3
   exact ret1 Try.results159 (v1 := gD_ r_9) (resAt_cellA (B := aD b1) (i := 0) (cs := kD_ r_9) (vs := kD_ r_9) (hf1.get 6 3 rfl) k_ag_124 k_sz_124_5 (hS39.cf (i := 1) rfl) rfl rfl) ⟨rfl, (hS39.sN [])⟩
  ·skip
   have hF4 := cf' hF2 hb1
   refine cw_seq (cw_region ?_)
   refine sQ 91 (Y_fieldAddr (B := aD b) (i := 0) (s := 0) k_fd_133_0_0_3 k_sz_3_1 rfl (hf1.get 3 2 rfl)) ?_
   refine sQ 92 (Y_load1 (B := aD b) (i := 0) (cs := [vi t.Kind, vi t.I, vi t.J, vi t.M_]) (v := vi t.Kind) k_sc_3 rfl rfl (hS22.cf (i := 0) rfl) rfl) ?_
   refine sQ 93 (Y_eq (k := .i64) (a := t.Kind) (b := 3) rfl rfl rfl) ?_
   refine sQ 94 (Y_move (v := .bool (t.Kind == 3)) rfl rfl) ?_
   refine sgq 95 (B := (t.Kind == 3)) (v := .bool (((t.Kind != 1) && ((i == t.I) || (i == t.J))) && ((j == t.I) || (j == t.J)))) rfl rfl (uT_ 94) (fun hg29 => (Y_move (v := .bool (((t.Kind != 1) && ((i == t.I) || (i == t.J))) && ((j == t.I) || (j == t.J)))) rfl rfl)) ?_
   refine sQ 96 (Y_and (b := (t.Kind == 3)) (z := (((t.Kind != 1) && ((i == t.I) || (i == t.J))) && ((j == t.I) || (j == t.J)))) rfl rfl rfl rfl) ?_
   refine sQ 97 (Y_move (v := .bool ((t.Kind == 3) && (((t.Kind != 1) && ((i == t.I) || (i == t.J))) && ((j == t.I) || (j == t.J))))) rfl rfl) ?_
   refine sgq 98 (B := ((t.Kind == 3) && (((t.Kind != 1) && ((i == t.I) || (i == t.J))) && ((j == t.I) || (j == t.J))))) (v := vi j) rfl rfl (uT_ 97) (fun hg30 => (Y_move (v := vi j) rfl (hf1.get 2 1 rfl))) ?_
   refine sgq 99 (B := ((t.Kind == 3) && (((t.Kind != 1) && ((i == t.I) || (i == t.J))) && ((j == t.I) || (j == t.J))))) (v := pt (aD b) 1) rfl rfl (uT_ 97) (fun hg31 => (Y_fieldAddr (B := aD b) (i := 0) (s := 0) k_fd_133_1_1_3 k_sz_3_1 rfl (hf1.get 3 2 rfl))) ?_
   refine sgq 100 (B := ((t.Kind == 3) && (((t.Kind != 1) && ((i == t.I) || (i == t.J))) && ((j == t.I) || (j == t.J))))) (v := vi t.I) rfl rfl (uT_ 97) (fun hg32 => (Y_load1 (B := aD b) (i := 1) (cs := [vi t.Kind, vi t.I, vi t.J, vi t.M_]) (v := vi t.I) k_sc_3 rfl (gv_of (v := pt (aD b) 1) hg32) (hS22.cf (i := 0) rfl) rfl)) ?_
   refine sgq 101 (B := ((t.Kind == 3) && (((t.Kind != 1) && ((i == t.I) || (i == t.J))) && ((j == t.I) || (j == t.J))))) (v := .bool (j == t.I)) rfl rfl (uT_ 97) (fun hg33 => (Y_eq (k := .i64) (a := j) (b := t.I) rfl (gv_of (v := vi j) hg33) (gv_of (v := vi t.I) hg33))) ?_
   refine sQ 102 (Y_and (b := ((t.Kind == 3) && (((t.Kind != 1) && ((i == t.I) || (i == t.J))) && ((j == t.I) || (j == t.J))))) (z := (j == t.I)) rfl rfl rfl rfl) ?_
   refine sQ 90 (Y_assign (v := .bool (((t.Kind == 3) && (((t.Kind != 1) && ((i == t.I) || (i == t.J))) && ((j == t.I) || (j == t.J)))) && (j == t.I))) rfl rfl) (rw_nil ?_)
   refine cw_cond (b := (((t.Kind == 3) && (((t.Kind != 1) && ((i == t.I) || (i == t.J))) && ((j == t.I) || (j == t.J)))) && (j == t.I))) rfl (fun hb2 => ?_) (fun hb2 => ?_)
   ·skip
    have hF5 := ct hF4 hb2
    refine cw_seq (cw_region ?_)
    refine sQ 103 (Y_loadA (B := aD b2) (i := 0) (cs := [vi 1, vi 0, vi 0, vi 0, vi 1]) (vs := [vi 1, vi 0, vi 0, vi 0, vi 1]) k_ag_124 k_sz_124_5 rfl (hf1.get 7 4 rfl) (hS22.cf (i := 2) rfl) rfl rfl) ?_
    refine s0 (Ys_store (i := 1) (s := 5) (B := aD b1) (T' := 124) (v := .agg #[vi 1, vi 0, vi 0, vi 0, vi 1]) (vs := [vi 1, vi 0, vi 0, vi 0, vi 1]) (k := 0) (cs' := [vi 1, vi 0, vi 0, vi 0, vi 1]) hS22 k_sz_124_5 rfl (hf1.get 6 3 rfl) rfl rfl rfl rfl rfl (lB rfl) rfl rfl) ?_
    rintro _ w_31 ⟨rfl, hS40⟩
    refine rw_nil (cw_ret ?_)
    obtain rfl := some_inj hF5
    exact ret1 Try.results159 (v1 := .agg #[vi 1, vi 0, vi 0, vi 0, vi 1]) (resAt_cellA (B := aD b1) (i := 0) (cs := [vi 1, vi 0, vi 0, vi 0, vi 1]) (vs := [vi 1, vi 0, vi 0, vi 0, vi 1]) (hf1.get 6 3 rfl) k_ag_124 k_sz_124_5 (hS40.cf (i := 1) rfl) rfl rfl) ⟨rfl, (hS40.sN [])⟩
   ·skip
    have hF6 := cf' hF4 hb2
    refine cw_seq (cw_region ?_)
    refine sQ 105 (Y_fieldAddr (B := aD b) (i := 0) (s := 0) k_fd_133_0_0_3 k_sz_3_1 rfl (hf1.get 3 2 rfl)) ?_
    refine sQ 106 (Y_load1 (B := aD b) (i := 0) (cs := [vi t.Kind, vi t.I, vi t.J, vi t.M_]) (v := vi t.Kind) k_sc_3 rfl rfl (hS22.cf (i := 0) rfl) rfl) ?_
    refine sQ 107 (Y_eq (k := .i64) (a := t.Kind) (b := 3) rfl rfl rfl) ?_
    refine sQ 108 (Y_move (v := .bool (t.Kind == 3)) rfl rfl) ?_
    refine sgq 109 (B := (t.Kind == 3)) (v := .bool (((t.Kind != 1) && ((i == t.I) || (i == t.J))) && ((j == t.I) || (j == t.J)))) rfl rfl (uT_ 108) (fun hg34 => (Y_move (v := .bool (((t.Kind != 1) && ((i == t.I) || (i == t.J))) && ((j == t.I) || (j == t.J)))) rfl rfl)) ?_
    refine sQ 110 (Y_and (b := (t.Kind == 3)) (z := (((t.Kind != 1) && ((i == t.I) || (i == t.J))) && ((j == t.I) || (j == t.J)))) rfl rfl rfl rfl) ?_
    refine sQ 111 (Y_move (v := .bool ((t.Kind == 3) && (((t.Kind != 1) && ((i == t.I) || (i == t.J))) && ((j == t.I) || (j == t.J))))) rfl rfl) ?_
    refine sgq 112 (B := ((t.Kind == 3) && (((t.Kind != 1) && ((i == t.I) || (i == t.J))) && ((j == t.I) || (j == t.J))))) (v := vi i) rfl rfl (uT_ 111) (fun hg35 => (Y_move (v := vi i) rfl (hf1.get 1 0 rfl))) ?_
    refine sgq 113 (B := ((t.Kind == 3) && (((t.Kind != 1) && ((i == t.I) || (i == t.J))) && ((j == t.I) || (j == t.J))))) (v := pt (aD b) 1) rfl rfl (uT_ 111) (fun hg36 => (Y_fieldAddr (B := aD b) (i := 0) (s := 0) k_fd_133_1_1_3 k_sz_3_1 rfl (hf1.get 3 2 rfl))) ?_
    refine sgq 114 (B := ((t.Kind == 3) && (((t.Kind != 1) && ((i == t.I) || (i == t.J))) && ((j == t.I) || (j == t.J))))) (v := vi t.I) rfl rfl (uT_ 111) (fun hg37 => (Y_load1 (B := aD b) (i := 1) (cs := [vi t.Kind, vi t.I, vi t.J, vi t.M_]) (v := vi t.I) k_sc_3 rfl (gv_of (v := pt (aD b) 1) hg37) (hS22.cf (i := 0) rfl) rfl)) ?_
    refine sgq 115 (B := ((t.Kind == 3) && (((t.Kind != 1) && ((i == t.I) || (i == t.J))) && ((j == t.I) || (j == t.J))))) (v := .bool (i == t.I)) rfl rfl (uT_ 111) (fun hg38 => (Y_eq (k := .i64) (a := i) (b := t.I) rfl (gv_of (v := vi i) hg38) (gv_of (v := vi t.I) hg38))) ?_
    refine sQ 116 (Y_and (b := ((t.Kind == 3) && (((t.Kind != 1) && ((i == t.I) || (i == t.J))) && ((j == t.I) || (j == t.J))))) (z := (i == t.I)) rfl rfl rfl rfl) ?_
    refine sQ 104 (Y_assign (v := .bool (((t.Kind == 3) && (((t.Kind != 1) && ((i == t.I) || (i == t.J))) && ((j == t.I) || (j == t.J)))) && (i == t.I))) rfl rfl) (rw_nil ?_)
    refine cw_cond (b := (((t.Kind == 3) && (((t.Kind != 1) && ((i == t.I) || (i == t.J))) && ((j == t.I) || (j == t.J)))) && (i == t.I))) rfl (fun hb3 => ?_) (fun hb3 => ?_)
    ·skip
     have hF7 := ct hF6 hb3
     refine cw_seq (cw_region ?_)
     refine sQ 117 (Y_loadA (B := B) (i := 0) (cs := kD_ r_2) (vs := kD_ r_2) k_ag_124 k_sz_124_5 rfl (hf1.get 8 5 rfl) (hS22.cf (i := 3) rfl) rfl rfl) ?_
     refine s0 (Ys_store (i := 1) (s := 5) (B := aD b1) (T' := 124) (v := gD_ r_2) (vs := kD_ r_2) (k := 0) (cs' := kD_ r_2) hS22 k_sz_124_5 rfl (hf1.get 6 3 rfl) rfl rfl rfl rfl rfl (lB rfl) rfl rfl) ?_
     rintro _ w_32 ⟨rfl, hS41⟩
     refine rw_nil (cw_ret ?_)
     obtain rfl := some_inj hF7
     exact ret1 Try.results159 (v1 := gD_ r_2) (resAt_cellA (B := aD b1) (i := 0) (cs := kD_ r_2) (vs := kD_ r_2) (hf1.get 6 3 rfl) k_ag_124 k_sz_124_5 (hS41.cf (i := 1) rfl) rfl rfl) ⟨rfl, (hS41.sN [])⟩
    ·skip
     have hF8 := cf' hF6 hb3
     refine cw_seq (cw_region ?_)
     refine sQ 119 (Y_fieldAddr (B := aD b) (i := 0) (s := 0) k_fd_133_0_0_3 k_sz_3_1 rfl (hf1.get 3 2 rfl)) ?_
     refine sQ 120 (Y_load1 (B := aD b) (i := 0) (cs := [vi t.Kind, vi t.I, vi t.J, vi t.M_]) (v := vi t.Kind) k_sc_3 rfl rfl (hS22.cf (i := 0) rfl) rfl) ?_
     refine sQ 121 (Y_eq (k := .i64) (a := t.Kind) (b := 3) rfl rfl rfl) ?_
     refine sQ 122 (Y_move (v := .bool (t.Kind == 3)) rfl rfl) ?_
     refine sgq 123 (B := (t.Kind == 3)) (v := .bool (((t.Kind != 1) && ((i == t.I) || (i == t.J))) && ((j == t.I) || (j == t.J)))) rfl rfl (uT_ 122) (fun hg39 => (Y_move (v := .bool (((t.Kind != 1) && ((i == t.I) || (i == t.J))) && ((j == t.I) || (j == t.J)))) rfl rfl)) ?_
     refine sQ 124 (Y_and (b := (t.Kind == 3)) (z := (((t.Kind != 1) && ((i == t.I) || (i == t.J))) && ((j == t.I) || (j == t.J)))) rfl rfl rfl rfl) ?_
     refine sQ 118 (Y_assign (v := .bool ((t.Kind == 3) && (((t.Kind != 1) && ((i == t.I) || (i == t.J))) && ((j == t.I) || (j == t.J))))) rfl rfl) (rw_nil ?_)
     refine cw_cond (b := ((t.Kind == 3) && (((t.Kind != 1) && ((i == t.I) || (i == t.J))) && ((j == t.I) || (j == t.J))))) rfl (fun hb4 => ?_) (fun hb4 => ?_)
     ·skip
      have hF9 := ct hF8 hb4
      refine cw_seq (cw_region ?_)
      refine sQ 125 (Y_loadA (B := B1) (i := 0) (cs := kD_ r_5) (vs := kD_ r_5) k_ag_124 k_sz_124_5 rfl (hf1.get 10 6 rfl) (hS22.cf (i := 4) rfl) rfl rfl) ?_
      refine s0 (Ys_store (i := 1) (s := 5) (B := aD b1) (T' := 124) (v := gD_ r_5) (vs := kD_ r_5) (k := 0) (cs' := kD_ r_5) hS22 k_sz_124_5 rfl (hf1.get 6 3 rfl) rfl rfl rfl rfl rfl (lB rfl) rfl rfl) ?_
      rintro _ w_33 ⟨rfl, hS42⟩
      refine rw_nil (cw_ret ?_)
      obtain rfl := some_inj hF9
      exact ret1 Try.results159 (v1 := gD_ r_5) (resAt_cellA (B := aD b1) (i := 0) (cs := kD_ r_5) (vs := kD_ r_5) (hf1.get 6 3 rfl) k_ag_124 k_sz_124_5 (hS42.cf (i := 1) rfl) rfl rfl) ⟨rfl, (hS42.sN [])⟩
     ·skip
      have hF10 := cf' hF8 hb4
      refine cw_skip (cw_seq (cw_region ?_))
      refine sQ 126 (Y_move (v := vi i) rfl (hf1.get 1 0 rfl)) ?_
      refine sQ 127 (Y_move (v := vi j) rfl (hf1.get 2 1 rfl)) ?_
      refine sQ 128 (Y_eq (k := .i64) (a := i) (b := j) rfl rfl rfl) ?_
      obtain ⟨r_10, hc7, hF10⟩ := bind_inv hF10
      refine sc 129 rfl rfl (Yc_func (g := 220) (vs := [.bool (i == j)]) k_call_220 rfl (mc rfl mn) (c_impl_small (i == j) _  (hS22.inn0 [] rfl) hc7)) ?_
      rintro _ w_34 ⟨rfl, hd13⟩
      have hS43 := hS22.out00 hd13
      obtain ⟨r_11, hc8, hF10⟩ := bind_inv hF10
      refine sc 130 rfl rfl (Yc_func (g := 151) (vs := [vi r_10]) k_call_151 rfl (mc rfl mn) (c_impl_whole r_10 _  (hS43.inn0 [] rfl) hc8)) ?_
      rintro _ w_35 ⟨rfl, hd14⟩
      have hS44 := hS43.out00 hd14
      refine s0 (Ys_store (i := 1) (s := 5) (B := aD b1) (T' := 124) (v := gD_ r_11) (vs := kD_ r_11) (k := 0) (cs' := kD_ r_11) hS44 k_sz_124_5 rfl (hf1.get 6 3 rfl) rfl rfl rfl rfl rfl (lB rfl) rfl rfl) ?_
      rintro _ w_36 ⟨rfl, hS45⟩
      refine rw_nil (cw_ret ?_)
      obtain rfl := some_inj hF10
      exact ret1 Try.results159 (v1 := gD_ r_11) (resAt_cellA (B := aD b1) (i := 0) (cs := kD_ r_11) (vs := kD_ r_11) (hf1.get 6 3 rfl) k_ag_124 k_sz_124_5 (hS45.cf (i := 1) rfl) rfl rfl) ⟨rfl, (hS45.sN [])⟩

theorem c_impl_TwoLevelMatrix_1 (i : Int) (j : Int) (p : TTwoLevel) (B : Option Addr) (w0 : World)  (hS : ST w0 [] w0 [] [⟨B, [vi p.Kind, vi p.I, vi p.J, vi p.M_]⟩]) {r_ : TDyadic} {r_1 : Bool} (hF : F_impl_TwoLevelMatrix_1 i j p = some (r_, r_1)) :
  CV Try.prog 158 #[vi i, vi j, pt B 0] w0 (fun v w' => v = .tuple #[gD_ r_, .bool r_1] ∧ ST w0 [] w' [] []) := by
 unfold F_impl_TwoLevelMatrix_1 at hF
 refine cv_of_cw 11 Try.func158 rfl Try.ntmps158 rfl ?_
 refine cw_seq (cw_region ?_)
 refine sS 5 (Ys_alloc (T := 124) (cs := kZ_) (m := 5) hS k_zero_124 rfl rfl rfl) ?_
 rintro _ w_ ⟨b, rfl, hS1⟩
 refine sQ 6 (Y_assign (v := .bool false) rfl rfl) (rw_nil (cw_seq (cw_region ?_)))
 refine sQ 7 (Y_loadA (B := B) (i := 0) (cs := [vi p.Kind, vi p.I, vi p.J, vi p.M_]) (vs := [vi p.Kind, vi p.I, vi p.J, vi p.M_]) k_ag_133 k_sz_133_4 rfl rfl (hS1.rf (i := 0) rfl) rfl rfl) ?_
 refine sQ 8 (Y_move (v := vi i) rfl rfl) ?_
 refine sQ 9 (Y_move (v := vi j) rfl rfl) ?_
 obtain ⟨r_2, hc, hF⟩ := bind_inv hF
 refine sc 10 rfl rfl (Yc_func (g := 159) (vs := [.agg #[vi p.Kind, vi p.I, vi p.J, vi p.M_], vi i, vi j]) k_call_159 rfl (mc rfl (mc rfl (mc rfl mn))) (c_impl_levelCell p i j _  (hS1.inn0 [] rfl) hc)) ?_
 rintro _ w_1 ⟨rfl, hd⟩
 have hS2 := hS1.out00 hd
 refine s0 (Ys_store (i := 0) (s := 5) (B := aD b) (T' := 124) (v := gD_ r_2) (vs := kD_ r_2) (k := 0) (cs' := kD_ r_2) hS2 k_sz_124_5 rfl rfl rfl rfl rfl rfl rfl (lB rfl) rfl rfl) ?_
 rintro _ w_2 ⟨rfl, hS3⟩
 refine sQ 6 (Y_assign (v := .bool true) rfl rfl) (rw_nil (cw_ret ?_))
 obtain ⟨rfl, rfl⟩ := pr2 (some_inj hF)
 exact ret2 Try.results158 (v1 := gD_ r_2) (resAt_cellA (B := aD b) (i := 0) (cs := kD_ r_2) (vs := kD_ r_2) rfl k_ag_124 k_sz_124_5 (hS3.cf (i := 0) rfl) rfl rfl) (v2 := .bool true) (resAt_tmp rfl) ⟨rfl, (hS3.sN [])⟩

theorem c_impl_TwoLevelMatrix (n : Int) (t : TTwoLevel)  (w0 : World)  (hS : ST w0 [] w0 [] []) {r_ : TMatrix} {r_1 : Bool} (hF : F_impl_TwoLevelMatrix n t = some (r_, r_1)) :
  CV Try.prog 84 #[vi n, .agg #[vi t.Kind, vi t.I, vi t.J, vi t.M_]] w0 (fun v w' => ∃ (B : Option Addr) (c : Nat), v = .tuple #[gM_ r_ B c, .bool r_1] ∧ ST w0 [] w' [⟨B, 124, (r_.Cells.flatMap eN0), c * 5⟩] []) := by
 unfold F_impl_TwoLevelMatrix at hF
 refine cv_of_cw 17 Try.func84 rfl Try.ntmps84 rfl ?_
 refine cw_seq (cw_region ?_)
 refine sS 3 (Ys_box (T := 133) (v := .agg #[vi t.Kind, vi t.I, vi t.J, vi t.M_]) (cs := [vi t.Kind, vi t.I, vi t.J, vi t.M_]) (m := 4) hS rfl rfl rfl rfl) ?_
 rintro _ w_ ⟨b, rfl, hS1⟩
 refine sS 4 (Ys_alloc (T := 75) (cs := kN_) (m := 3) hS1 k_zero_75 rfl rfl rfl) ?_
 rintro _ w_1 ⟨b1, rfl, hS2⟩
 refine sQ 5 (Y_assign (v := .bool false) rfl rfl) (rw_nil (cw_seq (cw_seq (cw_region ?_))))
 refine sQ 6 (Y_move (v := vi n) rfl rfl) ?_
 refine sQ 7 (Y_loadA (B := aD b) (i := 0) (cs := [vi t.Kind, vi t.I, vi t.J, vi t.M_]) (vs := [vi t.Kind, vi t.I, vi t.J, vi t.M_]) k_ag_133 k_sz_133_4 rfl rfl (hS2.cf (i := 0) rfl) rfl rfl) ?_
 obtain ⟨r_2, hc, hF⟩ := bind_inv hF
 refine sc 8 rfl rfl (Yc_func (g := 156) (vs := [vi n, .agg #[vi t.Kind, vi t.I, vi t.J, vi t.M_]]) k_call_156 rfl (mc rfl (mc rfl mn)) (c_impl_IsValidTwoLevel n t _  (hS2.inn0 [] rfl) hc)) ?_
 rintro _ w_2 ⟨rfl, hd⟩
 have hS3 := hS2.out00 hd
 refine sQ 9 (Y_not (p := r_2) rfl rfl) (rw_nil ?_)
 refine cw_cond (b := (!r_2)) rfl (fun hb => ?_) (fun hb => ?_)
 ·skip
  have hF1 := ct hF hb
  refine cw_seq (cw_region ?_)
  refine sQ 10 (Y_buildS (zs := kN_) (vs := []) (cs := kN_) k_pl_75 k_zero_75 rfl mpn rfl) ?_
  refine s0 (Ys_store (i := 1) (s := 3) (B := aD b1) (T' := 75) (v := gN_) (vs := kN_) (k := 0) (cs' := kN_) hS3 k_sz_75_3 rfl rfl rfl rfl rfl rfl rfl (lB rfl) rfl rfl) ?_
  rintro _ w_3 ⟨rfl, hS4⟩
  refine sQ 5 (Y_assign (v := .bool false) rfl rfl) (rw_nil (cw_ret ?_))
  have hS5 := hS4.addNil 124
  obtain ⟨rfl, rfl⟩ := pr2 (some_inj hF1)
  exact ret2 Try.results84 (v1 := gN_) (resAt_cellA (B := aD b1) (i := 0) (cs := kN_) (vs := kN_) rfl k_ag_75 k_sz_75_3 (hS5.cf (i := 1) rfl) rfl rfl) (v2 := .bool false) (resAt_tmp rfl) ⟨none, 0, rfl, (hS5.sN [2])⟩
 ·skip
  have hF2 := cf' hF hb
  refine cw_skip (cw_seq (cw_region ?_))
  refine sQ 11 (Y_move (v := vi n) rfl rfl) ?_
  refine sQ 12 (Y_move (v := vi n) rfl rfl) ?_
  refine sQ 13 (Y_makeFunc (cs := [pt (aD b) 0]) rfl rfl (mc rfl mn)) ?_
  obtain ⟨⟨r_3, r_4⟩, hc1, hF2⟩ := bind_inv hF2
  refine sc 14 rfl rfl (Yc_func (g := 157) (vs := [vi n, vi n, .func (.func 158) #[] #[pt (aD b) 0]]) k_call_157 rfl (mc rfl (mc rfl (mc rfl mn))) (c_impl_matrixOf n n (fun x_0 x_1 => F_impl_TwoLevelMatrix_1 x_0 x_1 t) 158 (#[pt (aD b) 0]) [⟨aD b, [vi t.Kind, vi t.I, vi t.J, vi t.M_]⟩] _ k_call_158 (fun w hw x_0 x_1 y_0 y_1 h_ => c_impl_TwoLevelMatrix_1 x_0 x_1 t (aD b) w  hw h_) (hS3.inn0 [(false, 0)] rfl) hc1)) ?_
  rintro _ w_4 ⟨B1, c1, rfl, hd1⟩
  have hS6 := hS3.out0 hd1
  refine sQ 15 (Y_extract (v := gM_ r_3 B1 c1) rfl rfl rfl) ?_
  refine sQ 16 (Y_extract (v := .bool r_4) rfl rfl rfl) ?_
  refine s0 (Ys_store (i := 1) (s := 3) (B := aD b1) (T' := 75) (v := gM_ r_3 B1 c1) (vs := kM_ r_3 B1 c1) (k := 0) (cs' := kM_ r_3 B1 c1) hS6 k_sz_75_3 rfl rfl rfl rfl rfl rfl rfl (lB rfl) rfl rfl) ?_
  rintro _ w_5 ⟨rfl, hS7⟩
  refine sQ 5 (Y_assign (v := .bool r_4) rfl rfl) (rw_nil (cw_ret ?_))
  obtain ⟨rfl, rfl⟩ := pr2 (some_inj hF2)
  exact ret2 Try.results84 (v1 := gM_ r_3 B1 c1) (resAt_cellA (B := aD b1) (i := 0) (cs := kM_ r_3 B1 c1) (vs := kM_ r_3 B1 c1) rfl k_ag_75 k_sz_75_3 (hS7.cf (i := 1) rfl) rfl rfl) (v2 := .bool r_4) (resAt_tmp rfl) ⟨B1, c1, rfl, (hS7.sN [2])⟩

theorem c_impl_Matrix_at (m : TMatrix) (i : Int) (j : Int) (B : Option Addr) (c n : Nat) (w0 : World) (hn : m.Cells.length = n) (hS : ST w0 [] w0 [] [⟨B, (m.Cells.flatMap eN0)⟩]) {r_ : TDyadic} (hF : F_impl_Matrix_at m i j = some r_) :
  CV Try.prog 162 #[.agg #[vi m.Rows, vi m.Cols, .slice B n c], vi i, vi j] w0 (fun v w' => v = (gD_ r_) ∧ ST w0 [] w' [] []) := by
 subst hn
 unfold F_impl_Matrix_at at hF
 refine cv_of_cw 17 Try.func162 rfl Try.ntmps162 rfl ?_
 refine cw_seq (cw_region ?_)
 refine sS 3 (Ys_box (T := 75) (v := gM_ m B c) (cs := kM_ m B c) (m := 3) hS rfl rfl rfl rfl) ?_
 rintro _ w_ ⟨b, rfl, hS1⟩
 refine sS 6 (Ys_alloc (T := 124) (cs := kZ_) (m := 5) hS1 k_zero_124 rfl rfl rfl) ?_
 rintro _ w_1 ⟨b1, rfl, hS2⟩
 refine rw_nil (cw_seq (cw_region ?_))
 refine sQ 7 (Y_fieldAddr (B := aD b) (i := 0) (s := 0) k_fd_75_2_2_73 k_sz_73_1 rfl rfl) ?_
 refine sQ 8 (Y_load1 (B := aD b) (i := 2) (cs := kM_ m B c) (v := .slice B m.Cells.length c) k_sc_73 rfl rfl (hS2.cf (i := 0) rfl) rfl) ?_
 refine sQ 9 (Y_move (v := vi i) rfl rfl) ?_
 refine sQ 10 (Y_fieldAddr (B := aD b) (i := 0) (s := 0) k_fd_75_1_1_3 k_sz_3_1 rfl rfl) ?_
 refine sQ 11 (Y_load1 (B := aD b) (i := 1) (cs := kM_ m B c) (v := vi m.Cols) k_sc_3 rfl rfl (hS2.cf (i := 0) rfl) rfl) ?_
 refine sQ 12 (Y_mul (k := .i64) (a := i) (b := m.Cols) rfl rfl rfl) ?_
 refine sQ 13 (Y_move (v := vi j) rfl rfl) ?_
 refine sQ 14 (Y_add (k := .i64) (a := (i64.wrap (i * m.Cols))) (b := j) rfl rfl rfl) ?_
 obtain ⟨x, hx, hF⟩ := bind_inv hF
 refine sQ 15 (Y_index (B := B) (m := m.Cells.length) (c := c) (k := .i64) (i := (i64.wrap ((i64.wrap (i * m.Cols)) + j))) k_sl_73_124 k_sz_124_5 rfl rfl rfl (gi_isSome eN1 rfl (hS2.rf (i := 0) rfl) hx) (getI_nn hx) (getI_ltI hx rfl)) ?_
 refine sQ 16 (Y_loadA (B := B) (i := (i64.wrap ((i64.wrap (i * m.Cols)) + j)).toNat * 5) (cs := (m.Cells.flatMap eN0)) (vs := kD_ x) k_ag_124 k_sz_124_5 rfl rfl (hS2.rf (i := 0) rfl) (eN1 x) (gi_seg eN1 hx)) ?_
 refine s0 (Ys_store (i := 1) (s := 5) (B := aD b1) (T' := 124) (v := gD_ x) (vs := kD_ x) (k := 0) (cs' := kD_ x) hS2 k_sz_124_5 rfl rfl rfl rfl rfl rfl rfl (lB rfl) rfl rfl) ?_
 rintro _ w_2 ⟨rfl, hS3⟩
 refine rw_nil (cw_ret ?_)
 obtain rfl := some_inj hF
 exact ret1 Try.results162 (v1 := gD_ x) (resAt_cellA (B := aD b1) (i := 0) (cs := kD_ x) (vs := kD_ x) rfl k_ag_124 k_sz_124_5 (hS3.cf (i := 1) rfl) rfl rfl) ⟨rfl, (hS3.sN [])⟩

theorem c_impl_MulMatrix_1 (i : Int) (j : Int) (p : TMatrix) (p1 : TMatrix) (B : Option Addr) (B1 : Option Addr) (c n : Nat) (B2 : Option Addr) (B3 : Option Addr) (c1 n1 : Nat) (w0 : World) (hn : p.Cells.length = n) (hn1 : p1.Cells.length = n1) (hS : ST w0 [] w0 [] [⟨B, [vi p.Rows, vi p.Cols, .slice B1 n c]⟩, ⟨B1, (p.Cells.flatMap eN0)⟩, ⟨B2, [vi p1.Rows, vi p1.Cols, .slice B3 n1 c1]⟩, ⟨B3, (p1.Cells.flatMap eN0)⟩]) {r_ : TDyadic} {r_1 : Bool} (hF : F_impl_MulMatrix_1 i j p p1 = some (r_, r_1)) :
  CV Try.prog 160 #[vi i, vi j, pt B 0, pt B2 0] w0 (fun v w' => v = .tuple #[gD_ r_, .bool r_1] ∧ ST w0 [] w' [] []) := by
 subst hn
 subst hn1
 unfold F_impl_MulMatrix_1 at hF
 refine cv_of_cw 48 Try.func160 rfl Try.ntmps160 rfl ?_
 refine cw_seq (cw_region ?_)
 refine sS 6 (Ys_alloc (T := 124) (cs := kZ_) (m := 5) hS k_zero_124 rfl rfl rfl) ?_
 rintro _ w_ ⟨b, rfl, hS1⟩
 refine sQ 7 (Y_assign (v := .bool false) rfl rfl) (rw_nil (cw_seq (cw_region ?_)))
 refine sQ 14 (Y_buildS (zs := kZ_) (vs := []) (cs := kZ_) k_pl_124 k_zero_124 rfl mpn rfl) ?_
 refine sS 8 (Ys_alloc (T := 124) (cs := kZ_) (m := 5) hS1 k_zero_124 rfl rfl rfl) ?_
 rintro _ w_1 ⟨b1, rfl, hS2⟩
 refine s0 (Ys_store (i := 1) (s := 5) (B := aD b1) (T' := 124) (v := gZ_) (vs := kZ_) (k := 0) (cs' := kZ_) hS2 k_sz_124_5 rfl rfl rfl rfl rfl rfl rfl (lB rfl) rfl rfl) ?_
 rintro _ w_2 ⟨rfl, hS3⟩
 refine rw_nil (cw_seq (cw_seq (cw_region ?_)))
 refine sQ 15 (Y_fieldAddr (B := B) (i := 0) (s := 0) k_fd_75_1_1_3 k_sz_3_1 rfl rfl) ?_
 refine sQ 16 (Y_load1 (B := B) (i := 1) (cs := kM_ p B1 c) (v := vi p.Cols) k_sc_3 rfl rfl (hS3.rf (i := 0) rfl) rfl) ?_
 refine sQ 17 (Y_move (v := vi 0) rfl rfl) (rw_nil ?_)
 obtain ⟨hN, hF⟩ := chk_inv hF
 obtain ⟨z, hz, hF1⟩ := bind_inv hF
 refine cw_block ?_
 refine cw_loop (fun k f w => ∃ (i1 : Nat) (A : Int) (B4 : Int) (C : Int) (D : Int) (Exp : Int), FF f [(0, vi i), (1, vi j), (2, pt B 0), (3, pt B2 0), (6, pt (aD b) 0), (8, pt (aD b1) 0), (16, vi p.Cols), (17, vi (i1 : Int))] ∧ ST w0 [] w [⟨aD b, 124, kZ_, 5⟩, ⟨aD b1, 124, [vi A, vi B4, vi C, vi D, vi Exp], 5⟩] [⟨B, kM_ p B1 c⟩, ⟨B1, (p.Cells.flatMap eN0)⟩, ⟨B2, kM_ p1 B3 c1⟩, ⟨B3, (p1.Cells.flatMap eN0)⟩] ∧ i1 + k = p.Cols.toNat ∧ forX (F_impl_MulMatrix_1_l1 p i p1 j) k i1 (A, B4, C, D, Exp) = some z) p.Cols.toNat ⟨0, 0, 0, 0, 0, 0, (FF.cons rfl (FF.cons rfl (FF.cons rfl (FF.cons rfl (FF.cons rfl (FF.cons rfl (FF.cons rfl (FF.cons rfl FF.nil)))))))), (hS3.sel [0, 1] rfl rfl), Nat.zero_add _, hz⟩ ?_
 rintro k_ f w ⟨i1, A, B4, C, D, Exp, hf, hS4, hik, hL⟩
 refine cw_seq (cw_region ?_)
 refine sQ 18 (Y_lt (k := .i64) (a := (i1 : Int)) (b := p.Cols) rfl (hf.get 17 7 rfl) (hf.get 16 6 rfl)) (rw_nil (cw_seq ?_))
 refine cw_cond (b := (decide ((i1 : Int) < p.Cols))) rfl (fun hlt => ?_) (fun hlt => ?_)
 ·skip
  have hlt1 : i1 < p.Cols.toNat := by have h := of_decide_eq_true hlt; omega
  obtain ⟨k_1, rfl⟩ : ∃ k2, k_ = k2 + 1 := ⟨k_ - 1, by omega⟩
  obtain ⟨y, hb, hL1⟩ := forX_go hL
  unfold F_impl_MulMatrix_1_l1 at hb
  refine cw_skip (cw_seq (cw_block (cw_seq (cw_region ?_))))
  refine sQ 19 (Y_move (v := vi (i1 : Int)) rfl (hf.get 17 7 rfl)) ?_
  refine sQ 9 (Y_assign (v := vi (i1 : Int)) rfl rfl) (rw_nil (cw_seq ?_))
  obtain ⟨r_2, hc, hb⟩ := bind_inv hb
  obtain ⟨r_3, hc1, hb⟩ := bind_inv hb
  obtain ⟨⟨r_4, r_5⟩, hc2, hb⟩ := bind_inv hb
  refine cw_mid (fun f w => ∃ (B5 : Option Addr), FF f [(0, vi i), (1, vi j), (2, pt B 0), (3, pt B2 0), (6, pt (aD b) 0), (8, pt (aD b1) 0), (10, pt B5 0), (11, .bool r_5), (16, vi p.Cols), (17, vi (i1 : Int))] ∧ ST w0 [] w [⟨aD b, 124, kZ_, 5⟩, ⟨aD b1, 124, [vi A, vi B4, vi C, vi D, vi Exp], 5⟩, ⟨B5, 124, kD_ r_4, 5⟩] [⟨B, kM_ p B1 c⟩, ⟨B1, (p.Cells.flatMap eN0)⟩, ⟨B2, kM_ p1 B3 c1⟩, ⟨B3, (p1.Cells.flatMap eN0)⟩]) ?_ ?_
  ·skip
   refine ra_start (hS4.se [0, 1]).fn (by kernel_rfl) ?_
   have hS9 := hS4.drew
   refine rq 0 21 (v := gM_ p B1 c) rfl (hS9.se [0, 1]) (fun w' hw' => (Y_loadA (B := B) (i := 0) (cs := kM_ p B1 c) (vs := kM_ p B1 c) k_ag_75 k_sz_75_3 rfl (hf.get 2 2 rfl) (ST.rf hw' (i := 0) rfl) rfl rfl)) ?_
   refine rq 1 22 (v := vi i) rfl (hS9.se [0, 1]) (fun w' hw' => (Y_move (v := vi i) rfl (hf.get 0 0 rfl))) ?_
   refine rq 2 23 (v := vi (i1 : Int)) rfl (hS9.se [0, 1]) (fun w' hw' => (Y_move (v := vi (i1 : Int)) rfl rfl)) ?_
   refine rq 4 25 (v := gM_ p1 B3 c1) rfl (hS9.se [0, 1]) (fun w' hw' => (Y_loadA (B := B2) (i := 0) (cs := kM_ p1 B3 c1) (vs := kM_ p1 B3 c1) k_ag_75 k_sz_75_3 rfl (hf.get 3 3 rfl) (ST.rf hw' (i := 2) rfl) rfl rfl)) ?_
   refine rq 5 26 (v := vi (i1 : Int)) rfl (hS9.se [0, 1]) (fun w' hw' => (Y_move (v := vi (i1 : Int)) rfl rfl)) ?_
   refine rq 6 27 (v := vi j) rfl (hS9.se [0, 1]) (fun w' hw' => (Y_move (v := vi j) rfl (hf.get 1 1 rfl))) ?_
   refine rA [3, 12] ?_
   refine ra_c 24 (i := 3) rfl rfl rfl (Yc_func (g := 162) (vs := [gM_ p B1 c, vi i, vi (i1 : Int)]) k_call_162 rfl (mc rfl (mc rfl (mc rfl mn))) (c_impl_Matrix_at p i (i1 : Int) B1 c p.Cells.length _ rfl (hS9.inn0 [(true, 1)] rfl) hc)) ?_ ?_
   ·rintro _ w_3 ⟨rfl, hd⟩
    have hS10 := hS9.out00 hd
    refine ⟨(hS10.se [0, 1]), ?_⟩
    refine rA [7, 12] ?_
    refine ra_c 28 (i := 7) rfl rfl rfl (Yc_func (g := 162) (vs := [gM_ p1 B3 c1, vi (i1 : Int), vi j]) k_call_162 rfl (mc rfl (mc rfl (mc rfl mn))) (c_impl_Matrix_at p1 (i1 : Int) j B3 c1 p1.Cells.length _ rfl (hS10.inn0 [(true, 3)] rfl) hc1)) ?_ ?_
    ·rintro _ w_4 ⟨rfl, hd1⟩
     have hS11 := hS10.out00 hd1
     refine ⟨(hS11.se [0, 1]), ?_⟩
     refine rA [8, 12] ?_
     refine ra_c 29 (i := 8) rfl rfl rfl (Yc_func (g := 161) (vs := [gD_ r_2, gD_ r_3]) k_call_161 rfl (mc rfl (mc rfl mn)) (c_impl_MulDyadic r_2 r_3 _  (hS11.inn0 [] rfl) hc2)) ?_ ?_
     ·rintro _ w_5 ⟨rfl, hd2⟩
      have hS12 := hS11.out00 hd2
      refine ⟨(hS12.se [0, 1]), ?_⟩
      refine rq 9 20 (v := .tuple #[gD_ r_4, .bool r_5]) rfl (hS12.se [0, 1]) (fun w' hw' => (Y_move (v := .tuple #[gD_ r_4, .bool r_5]) rfl rfl)) ?_
      refine rq 10 30 (v := gD_ r_4) rfl (hS12.se [0, 1]) (fun w' hw' => (Y_extract (v := gD_ r_4) rfl rfl rfl)) ?_
      refine rq 11 31 (v := .bool r_5) rfl (hS12.se [0, 1]) (fun w' hw' => (Y_extract (v := .bool r_5) rfl rfl rfl)) ?_
      refine rA [12] ?_
      refine ra_s 10 (i := 12) rfl rfl rfl (Ys_alloc (T := 124) (cs := kZ_) (m := 5) hS12 k_zero_124 rfl rfl rfl) ?_ ?_
      ·rintro _ w_6 ⟨b2, rfl, hS13⟩
       refine ⟨(hS13.se [0, 1]), ?_⟩
       refine rA [13] ?_
       refine ra_s0 (i := 13) rfl rfl rfl (Ys_store (i := 2) (s := 5) (B := aD b2) (T' := 124) (v := gD_ r_4) (vs := kD_ r_4) (k := 0) (cs' := kD_ r_4) hS13 k_sz_124_5 rfl rfl rfl rfl rfl rfl rfl (lB rfl) rfl rfl) ?_ ?_
       ·rintro _ w_7 ⟨rfl, hS14⟩
        refine ⟨(hS14.se [0, 1]), ?_⟩
        refine rq 14 11 (v := .bool r_5) rfl (hS14.se [0, 1]) (fun w' hw' => (Y_assign (v := .bool r_5) rfl rfl)) ?_
        refine ra_done (by kernel_rfl) ?_
        exact ⟨aD b2, (FF.cons (hf.get 0 0 rfl) (FF.cons (hf.get 1 1 rfl) (FF.cons (hf.get 2 2 rfl) (FF.cons (hf.get 3 3 rfl) (FF.cons (hf.get 6 4 rfl) (FF.cons (hf.get 8 5 rfl) (FF.cons rfl (FF.cons rfl (FF.cons (hf.get 16 6 rfl) (FF.cons (hf.get 17 7 rfl) FF.nil)))))))))), (hS14.sel [0, 1, 2] rfl rfl)⟩
       exact allR_nil
      exact allR_nil
     refine ra_s 10 (i := 12) rfl rfl rfl (Ys_alloc (T := 124) (cs := kZ_) (m := 5) hS11 k_zero_124 rfl rfl rfl) ?_ ?_
     ·rintro _ w_8 ⟨b2, rfl, hS15⟩
      refine ⟨(hS15.se [0, 1]), ?_⟩
      refine rA [8] ?_
      refine ra_c 29 (i := 8) rfl rfl rfl (Yc_func (g := 161) (vs := [gD_ r_2, gD_ r_3]) k_call_161 rfl (mc rfl (mc rfl mn)) (c_impl_MulDyadic r_2 r_3 _  (hS15.inn0 [] rfl) hc2)) ?_ ?_
      ·rintro _ w_9 ⟨rfl, hd3⟩
       have hS16 := hS15.out00 hd3
       refine ⟨(hS16.se [0, 1]), ?_⟩
       refine rq 9 20 (v := .tuple #[gD_ r_4, .bool r_5]) rfl (hS16.se [0, 1]) (fun w' hw' => (Y_move (v := .tuple #[gD_ r_4, .bool r_5]) rfl rfl)) ?_
       refine rq 10 30 (v := gD_ r_4) rfl (hS16.se [0, 1]) (fun w' hw' => (Y_extract (v := gD_ r_4) rfl rfl rfl)) ?_
       refine rq 11 31 (v := .bool r_5) rfl (hS16.se [0, 1]) (fun w' hw' => (Y_extract (v := .bool r_5) rfl rfl rfl)) ?_
       refine rA [13] ?_
       refine ra_s0 (i := 13) rfl rfl rfl (Ys_store (i := 2) (s := 5) (B := aD b2) (T' := 124) (v := gD_ r_4) (vs := kD_ r_4) (k := 0) (cs' := kD_ r_4) hS16 k_sz_124_5 rfl rfl rfl rfl rfl rfl rfl (lB rfl) rfl rfl) ?_ ?_
       ·rintro _ w_10 ⟨rfl, hS17⟩
        refine ⟨(hS17.se [0, 1]), ?_⟩
        refine rq 14 11 (v := .bool r_5) rfl (hS17.se [0, 1]) (fun w' hw' => (Y_assign (v := .bool r_5) rfl rfl)) ?_
        refine ra_done (by kernel_rfl) ?_
        exact ⟨aD b2, (FF.cons (hf.get 0 0 rfl) (FF.cons (hf.get 1 1 rfl) (FF.cons (hf.get 2 2 rfl) (FF.cons (hf.get 3 3 rfl) (FF.cons (hf.get 6 4 rfl) (FF.cons (hf.get 8 5 rfl) (FF.cons rfl (FF.cons rfl (FF.cons (hf.get 16 6 rfl) (FF.cons (hf.get 17 7 rfl) FF.nil)))))))))), (hS17.sel [0, 1, 2] rfl rfl)⟩
       exact allR_nil
      exact allR_nil
     exact allR_nil
    refine ra_s 10 (i := 12) rfl rfl rfl (Ys_alloc (T := 124) (cs := kZ_) (m := 5) hS10 k_zero_124 rfl rfl rfl) ?_ ?_
    ·rintro _ w_11 ⟨b2, rfl, hS18⟩
     refine ⟨(hS18.se [0, 1]), ?_⟩
     refine rA [7] ?_
     refine ra_c 28 (i := 7) rfl rfl rfl (Yc_func (g := 162) (vs := [gM_ p1 B3 c1, vi (i1 : Int), vi j]) k_call_162 rfl (mc rfl (mc rfl (mc rfl mn))) (c_impl_Matrix_at p1 (i1 : Int) j B3 c1 p1.Cells.length _ rfl (hS18.inn0 [(true, 3)] rfl) hc1)) ?_ ?_
     ·rintro _ w_12 ⟨rfl, hd4⟩
      have hS19 := hS18.out00 hd4
      refine ⟨(hS19.se [0, 1]), ?_⟩
      refine rA [8] ?_
      refine ra_c 29 (i := 8) rfl rfl rfl (Yc_func (g := 161) (vs := [gD_ r_2, gD_ r_3]) k_call_161 rfl (mc rfl (mc rfl mn)) (c_impl_MulDyadic r_2 r_3 _  (hS19.inn0 [] rfl) hc2)) ?_ ?_
      ·rintro _ w_13 ⟨rfl, hd5⟩
       have hS20 := hS19.out00 hd5
       refine ⟨(hS20.se [0, 1]), ?_⟩
       refine rq 9 20 (v := .tuple #[gD_ r_4, .bool r_5]) rfl (hS20.se [0, 1]) (fun w' hw' => (Y_move (v := .tuple #[gD_ r_4, .bool r_5]) rfl rfl)) ?_
       refine rq 10 30 (v := gD_ r_4) rfl (hS20.se [0, 1]) (fun w' hw' => (Y_extract (v := gD_ r_4) rfl rfl rfl)) ?_
       refine rq 11 31 (v := .bool r_5) rfl (hS20.se [0, 1]) (fun w' hw' => (Y_extract (v := .bool r_5) rfl rfl rfl)) ?_
       refine rA [13] ?_
       refine ra_s0 (i := 13) rfl rfl rfl (Ys_store (i := 2) (s := 5) (B := aD b2) (T' := 124) (v := gD_ r_4) (vs := kD_ r_4) (k := 0) (cs' := kD_ r_4) hS20 k_sz_124_5 rfl rfl rfl rfl rfl rfl rfl (lB rfl) rfl rfl) ?_ ?_
       ·rintro _ w_14 ⟨rfl, hS21⟩
        refine ⟨(hS21.se [0, 1]), ?_⟩
        refine rq 14 11 (v := .bool r_5) rfl (hS21.se [0, 1]) (fun w' hw' => (Y_assign (v := .bool r_5) rfl rfl)) ?_
        refine ra_done (by kernel_rfl) ?_
        exact ⟨aD b2, (FF.cons (hf.get 0 0 rfl) (FF.cons (hf.get 1 1 rfl) (FF.cons (hf.get 2 2 rfl) (FF.cons (hf.get 3 3 rfl) (FF.cons (hf.get 6 4 rfl) (FF.cons (hf.get 8 5 rfl) (FF.cons rfl (FF.cons rfl (FF.cons (hf.get 16 6 rfl) (FF.cons (hf.get 17 7 rfl) FF.nil)))))))))), (hS21.sel [0, 1, 2] rfl rfl)⟩
       exact allR_nil
      exact allR_nil
     exact allR_nil
    exact allR_nil
   refine ra_s 10 (i := 12) rfl rfl rfl (Ys_alloc (T := 124) (cs := kZ_) (m := 5) hS9 k_zero_124 rfl rfl rfl) ?_ ?_
   ·rintro _ w_15 ⟨b2, rfl, hS22⟩
    refine ⟨(hS22.se [0, 1]), ?_⟩
    refine rA [3] ?_
    refine ra_c 24 (i := 3) rfl rfl rfl (Yc_func (g := 162) (vs := [gM_ p B1 c, vi i, vi (i1 : Int)]) k_call_162 rfl (mc rfl (mc rfl (mc rfl mn))) (c_impl_Matrix_at p i (i1 : Int) B1 c p.Cells.length _ rfl (hS22.inn0 [(true, 1)] rfl) hc)) ?_ ?_
    ·rintro _ w_16 ⟨rfl, hd6⟩
     have hS23 := hS22.out00 hd6
     refine ⟨(hS23.se [0, 1]), ?_⟩
     refine rA [7] ?_
     refine ra_c 28 (i := 7) rfl rfl rfl (Yc_func (g := 162) (vs := [gM_ p1 B3 c1, vi (i1 : Int), vi j]) k_call_162 rfl (mc rfl (mc rfl (mc rfl mn))) (c_impl_Matrix_at p1 (i1 : Int) j B3 c1 p1.Cells.length _ rfl (hS23.inn0 [(true, 3)] rfl) hc1)) ?_ ?_
     ·rintro _ w_17 ⟨rfl, hd7⟩
      have hS24 := hS23.out00 hd7
      refine ⟨(hS24.se [0, 1]), ?_⟩
      refine rA [8] ?_
      refine ra_c 29 (i := 8) rfl rfl rfl (Yc_func (g := 161) (vs := [gD_ r_2, gD_ r_3]) k_call_161 rfl (mc rfl (mc rfl mn)) (c_impl_MulDyadic r_2 r_3 _  (hS24.inn0 [] rfl) hc2)) ?_ ?_
      ·rintro _ w_18 ⟨rfl, hd8⟩
       have hS25 := hS24.out00 hd8
       refine ⟨(hS25.se [0, 1]), ?_⟩
       refine rq 9 20 (v := .tuple #[gD_ r_4, .bool r_5]) rfl (hS25.se [0, 1]) (fun w' hw' => (Y_move (v := .tuple #[gD_ r_4, .bool r_5]) rfl rfl)) ?_
       refine rq 10 30 (v := gD_ r_4) rfl (hS25.se [0, 1]) (fun w' hw' => (Y_extract (v := gD_ r_4) rfl rfl rfl)) ?_
       refine rq 11 31 (v := .bool r_5) rfl (hS25.se [0, 1]) (fun w' hw' => (Y_extract (v := .bool r_5) rfl rfl rfl)) ?_
       refine rA [13] ?_
       refine ra_s0 (i := 13) rfl rfl rfl (Ys_store (i := 2) (s := 5) (B := aD b2) (T' := 124) (v := gD_ r_4) (vs := kD_ r_4) (k := 0) (cs' := kD_ r_4) hS25 k_sz_124_5 rfl rfl rfl rfl rfl rfl rfl (lB rfl) rfl rfl) ?_ ?_
       ·rintro _ w_19 ⟨rfl, hS26⟩
        refine ⟨(hS26.se [0, 1]), ?_⟩
        refine rq 14 11 (v := .bool r_5) rfl (hS26.se [0, 1]) (fun w' hw' => (Y_assign (v := .bool r_5) rfl rfl)) ?_
        refine ra_done (by kernel_rfl) ?_
        exact ⟨aD b2, (FF.cons (hf.get 0 0 rfl) (FF.cons (hf.get 1 1 rfl) (FF.cons (hf.get 2 2 rfl) (FF.cons (hf.get 3 3 rfl) (FF.cons (hf.get 6 4 rfl) (FF.cons (hf.get 8 5 rfl) (FF.cons rfl (FF.cons rfl (FF.cons (hf.get 16 6 rfl) (FF.cons (hf.get 17 7 rfl) FF.nil)))))))))), (hS26.sel [0, 1, 2] rfl rfl)⟩
       exact allR_nil
      exact allR_nil
     exact allR_nil
    exact allR_nil
   exact allR_nil
  rintro f w ⟨B5, hf1, hS8⟩
  refine cw_seq (cw_region ?_)
  refine sQ 33 (Y_loadA (B := aD b1) (i := 0) (cs := [vi A, vi B4, vi C, vi D, vi Exp]) (vs := [vi A, vi B4, vi C, vi D, vi Exp]) k_ag_124 k_sz_124_5 rfl (hf1.get 8 5 rfl) (hS8.cf (i := 1) rfl) rfl rfl) ?_
  refine sQ 34 (Y_loadA (B := B5) (i := 0) (cs := kD_ r_4) (vs := kD_ r_4) k_ag_124 k_sz_124_5 rfl (hf1.get 10 6 rfl) (hS8.cf (i := 2) rfl) rfl rfl) ?_
  obtain ⟨⟨r_6, r_7⟩, hc3, hb⟩ := bind_inv hb
  refine sc 35 rfl rfl (Yc_func (g := 150) (vs := [.agg #[vi A, vi B4, vi C, vi D, vi Exp], gD_ r_4]) k_call_150 rfl (mc rfl (mc rfl mn)) (c_impl_AddDyadic (TDyadic.mk (TRing.mk A B4 C D) Exp) r_4 _  (hS8.inn0 [] rfl) hc3)) ?_
  rintro _ w_20 ⟨rfl, hd9⟩
  have hS27 := hS8.out00 hd9
  refine sQ 32 (Y_move (v := .tuple #[gD_ r_6, .bool r_7]) rfl rfl) ?_
  refine sQ 36 (Y_extract (v := gD_ r_6) rfl rfl rfl) ?_
  refine sQ 37 (Y_extract (v := .bool r_7) rfl rfl rfl) ?_
  refine sS 12 (Ys_alloc (T := 124) (cs := kZ_) (m := 5) hS27 k_zero_124 rfl rfl rfl) ?_
  rintro _ w_21 ⟨b3, rfl, hS28⟩
  refine s0 (Ys_store (i := 3) (s := 5) (B := aD b3) (T' := 124) (v := gD_ r_6) (vs := kD_ r_6) (k := 0) (cs' := kD_ r_6) hS28 k_sz_124_5 rfl rfl rfl rfl rfl rfl rfl (lB rfl) rfl rfl) ?_
  rintro _ w_22 ⟨rfl, hS29⟩
  refine sQ 13 (Y_assign (v := .bool r_7) rfl rfl) (rw_nil (cw_seq (cw_seq (cw_region ?_))))
  refine sQ 38 (Y_move (v := .bool r_5) rfl (hf1.get 11 7 rfl)) ?_
  refine sQ 39 (Y_not (p := r_5) rfl rfl) ?_
  refine sQ 40 (Y_move (v := .bool (!r_5)) rfl rfl) ?_
  refine sgq 41 (B := (!(!r_5))) (v := .bool r_7) rfl rfl (uF_ 40) (fun hg => (Y_move (v := .bool r_7) rfl rfl)) ?_
  refine sgq 42 (B := (!(!r_5))) (v := .bool (!r_7)) rfl rfl (uF_ 40) (fun hg1 => (Y_not (p := r_7) rfl (gv_of (v := .bool r_7) hg1))) ?_
  refine sQ 43 (Y_or (b := (!r_5)) (z := (!r_7)) rfl rfl rfl rfl) (rw_nil ?_)
  refine cw_cond (b := ((!r_5) || (!r_7))) rfl (fun hb1 => ?_) (fun hb1 => ?_)
  ·skip
   have hF2 := ct hb hb1
   refine cw_seq (cw_region ?_)
   refine sQ 44 (Y_buildS (zs := kZ_) (vs := []) (cs := kZ_) k_pl_124 k_zero_124 rfl mpn rfl) ?_
   refine s0 (Ys_store (i := 0) (s := 5) (B := aD b) (T' := 124) (v := gZ_) (vs := kZ_) (k := 0) (cs' := kZ_) hS29 k_sz_124_5 rfl (hf1.get 6 4 rfl) rfl rfl rfl rfl rfl (lB rfl) rfl rfl) ?_
   rintro _ w_23 ⟨rfl, hS30⟩
   refine sQ 7 (Y_assign (v := .bool false) rfl rfl) (rw_nil (cw_ret ?_))
   obtain rfl := some_inj hF2
   obtain rfl := some_inj hL1
   obtain ⟨rfl, rfl⟩ := pr2 (some_inj hF1)
   exact ret2 Try.results160 (v1 := gZ_) (resAt_cellA (B := aD b) (i := 0) (cs := kZ_) (vs := kZ_) (hf1.get 6 4 rfl) k_ag_124 k_sz_124_5 (hS30.cf (i := 0) rfl) rfl rfl) (v2 := .bool false) (resAt_tmp rfl) ⟨rfl, (hS30.sN [])⟩
  ·skip
   have hF3 := cf' hb hb1
   refine cw_skip (cw_region ?_)
   refine sQ 45 (Y_loadA (B := aD b3) (i := 0) (cs := kD_ r_6) (vs := kD_ r_6) k_ag_124 k_sz_124_5 rfl rfl (hS29.cf (i := 3) rfl) rfl rfl) ?_
   refine s0 (Ys_store (i := 1) (s := 5) (B := aD b1) (T' := 124) (v := gD_ r_6) (vs := kD_ r_6) (k := 0) (cs' := kD_ r_6) hS29 k_sz_124_5 rfl (hf1.get 8 5 rfl) rfl rfl rfl rfl rfl (lB rfl) rfl rfl) ?_
   rintro _ w_24 ⟨rfl, hS31⟩
   refine rw_nil (cw_region ?_)
   refine sQ 46 (Y_add (k := .i64) (a := (i1 : Int)) (b := 1) rfl (hf1.get 17 9 rfl) rfl) ?_
   refine sQ 17 (Y_move (v := vi (i64.wrap ((i1 : Int) + 1))) rfl rfl) (rw_nil ?_)
   obtain rfl := some_inj hF3
   exact ⟨k_1, Nat.lt_succ_self _, i1 + 1, r_6.Num.A, r_6.Num.B, r_6.Num.C, r_6.Num.D, r_6.Exp, (FF.cons (hf1.get 0 0 rfl) (FF.cons (hf1.get 1 1 rfl) (FF.cons (hf1.get 2 2 rfl) (FF.cons (hf1.get 3 3 rfl) (FF.cons (hf1.get 6 4 rfl) (FF.cons (hf1.get 8 5 rfl) (FF.cons (hf1.get 16 8 rfl) (FF.cons (congrArg (Value.int .i64) (wr_succ hlt1 hN)) FF.nil)))))))), (hS31.sel [0, 1] rfl rfl), (by omega), hL1⟩
 ·skip
  obtain rfl : k_ = 0 := by have h := of_decide_eq_false hlt; omega
  refine cw_exit rfl ?_
  obtain rfl := some_inj hL
  refine cw_seq (cw_region ?_)
  refine sQ 47 (Y_loadA (B := aD b1) (i := 0) (cs := [vi A, vi B4, vi C, vi D, vi Exp]) (vs := [vi A, vi B4, vi C, vi D, vi Exp]) k_ag_124 k_sz_124_5 rfl (hf.get 8 5 rfl) (hS4.cf (i := 1) rfl) rfl rfl) ?_
  refine s0 (Ys_store (i := 0) (s := 5) (B := aD b) (T' := 124) (v := .agg #[vi A, vi B4, vi C, vi D, vi Exp]) (vs := [vi A, vi B4, vi C, vi D, vi Exp]) (k := 0) (cs' := [vi A, vi B4, vi C, vi D, vi Exp]) hS4 k_sz_124_5 rfl (hf.get 6 4 rfl) rfl rfl rfl rfl rfl (lB rfl) rfl rfl) ?_
  rintro _ w_25 ⟨rfl, hS32⟩
  refine sQ 7 (Y_assign (v := .bool true) rfl rfl) (rw_nil (cw_ret ?_))
  obtain ⟨rfl, rfl⟩ := pr2 (some_inj hF1)
  exact ret2 Try.results160 (v1 := .agg #[vi A, vi B4, vi C, vi D, vi Exp]) (resAt_cellA (B := aD b) (i := 0) (cs := [vi A, vi B4, vi C, vi D, vi Exp]) (vs := [vi A, vi B4, vi C, vi D, vi Exp]) (hf.get 6 4 rfl) k_ag_124 k_sz_124_5 (hS32.cf (i := 0) rfl) rfl rfl) (v2 := .bool true) (resAt_tmp rfl) ⟨rfl, (hS32.sN [])⟩

theorem c_impl_MulMatrix (a : TMatrix) (b : TMatrix) (B : Option Addr) (c n : Nat) (B1 : Option Addr) (c1 n1 : Nat) (w0 : World) (hn : a.Cells.length = n) (hn1 : b.Cells.length = n1) (hS : ST w0 [] w0 [] [⟨B, (a.Cells.flatMap eN0)⟩, ⟨B1, (b.Cells.flatMap eN0)⟩]) {r_ : TMatrix} {r_1 : Bool} (hF : F_impl_MulMatrix a b = some (r_, r_1)) :
  CV Try.prog 85 #[.agg #[vi a.Rows, vi a.Cols, .slice B n c], .agg #[vi b.Rows, vi b.Cols, .slice B1 n1 c1]] w0 (fun v w' => ∃ (B2 : Option Addr) (c2 : Nat), v = .tuple #[gM_ r_ B2 c2, .bool r_1] ∧ ST w0 [] w' [⟨B2, 124, (r_.Cells.flatMap eN0), c2 * 5⟩] []) := by
 subst hn
 subst hn1
 unfold F_impl_MulMatrix at hF
 refine cv_of_cw 30 Try.func85 rfl Try.ntmps85 rfl ?_
 refine cw_seq (cw_region ?_)
 refine sS 2 (Ys_box (T := 75) (v := gM_ a B c) (cs := kM_ a B c) (m := 3) hS rfl rfl rfl rfl) ?_
 rintro _ w_ ⟨b1, rfl, hS1⟩
 refine sS 3 (Ys_box (T := 75) (v := gM_ b B1 c1) (cs := kM_ b B1 c1) (m := 3) hS1 rfl rfl rfl rfl) ?_
 rintro _ w_1 ⟨b2, rfl, hS2⟩
 refine sS 4 (Ys_alloc (T := 75) (cs := kN_) (m := 3) hS2 k_zero_75 rfl rfl rfl) ?_
 rintro _ w_2 ⟨b3, rfl, hS3⟩
 refine sQ 5 (Y_assign (v := .bool false) rfl rfl) (rw_nil (cw_seq (cw_seq (cw_region ?_))))
 refine sQ 6 (Y_loadA (B := aD b1) (i := 0) (cs := kM_ a B c) (vs := kM_ a B c) k_ag_75 k_sz_75_3 rfl rfl (hS3.cf (i := 0) rfl) rfl rfl) ?_
 obtain ⟨r_2, hc, hF⟩ := bind_inv hF
 refine sc 7 rfl rfl (Yc_func (g := 147) (vs := [gM_ a B c]) k_call_147 rfl (mc rfl mn) (c_impl_IsValidMatrix a B c a.Cells.length _ rfl (hS3.inn0 [(true, 0)] rfl) hc)) ?_
 rintro _ w_3 ⟨rfl, hd⟩
 have hS4 := hS3.out00 hd
 refine sQ 8 (Y_not (p := r_2) rfl rfl) ?_
 refine sQ 9 (Y_move (v := .bool (!r_2)) rfl rfl) ?_
 refine sgq 10 (B := (!(!r_2))) (v := gM_ b B1 c1) rfl rfl (uF_ 9) (fun hg => (Y_loadA (B := aD b2) (i := 0) (cs := kM_ b B1 c1) (vs := kM_ b B1 c1) k_ag_75 k_sz_75_3 rfl rfl (hS4.cf (i := 1) rfl) rfl rfl)) ?_
 obtain ⟨r_3, hc1, hF⟩ := bind_inv hF
 refine sgc 11 (B := (!(!r_2))) (v := .bool r_3) (F := hS4.fn) rfl rfl (uF_ 9) hS4 (fun hg1 => (Yc_func (g := 147) (vs := [gM_ b B1 c1]) k_call_147 rfl (mc (gv_of (v := gM_ b B1 c1) hg1) mn) (CV.mono (c_impl_IsValidMatrix b B1 c1 b.Cells.length _ rfl (hS4.inn0 [(true, 1)] rfl) (gb_inv hc1 hg1)) (by rintro _ _ ⟨rfl, h⟩; exact ⟨rfl, hS4.out00 h⟩)))) ?_
 rintro w_4 hS5
 refine sgq 12 (B := (!(!r_2))) (v := .bool (!r_3)) rfl rfl (uF_ 9) (fun hg2 => (Y_not (p := r_3) rfl (gv_of (v := .bool r_3) hg2))) ?_
 refine sQ 13 (Y_or (b := (!r_2)) (z := (!r_3)) rfl rfl rfl rfl) ?_
 refine sQ 14 (Y_move (v := .bool ((!r_2) || (!r_3))) rfl rfl) ?_
 refine sgq 15 (B := (!((!r_2) || (!r_3)))) (v := pt (aD b1) 1) rfl rfl (uF_ 14) (fun hg3 => (Y_fieldAddr (B := aD b1) (i := 0) (s := 0) k_fd_75_1_1_3 k_sz_3_1 rfl rfl)) ?_
 refine sgq 16 (B := (!((!r_2) || (!r_3)))) (v := vi a.Cols) rfl rfl (uF_ 14) (fun hg4 => (Y_load1 (B := aD b1) (i := 1) (cs := kM_ a B c) (v := vi a.Cols) k_sc_3 rfl (gv_of (v := pt (aD b1) 1) hg4) (hS5.cf (i := 0) rfl) rfl)) ?_
 refine sgq 17 (B := (!((!r_2) || (!r_3)))) (v := pt (aD b2) 0) rfl rfl (uF_ 14) (fun hg5 => (Y_fieldAddr (B := aD b2) (i := 0) (s := 0) k_fd_75_0_0_3 k_sz_3_1 rfl rfl)) ?_
 refine sgq 18 (B := (!((!r_2) || (!r_3)))) (v := vi b.Rows) rfl rfl (uF_ 14) (fun hg6 => (Y_load1 (B := aD b2) (i := 0) (cs := kM_ b B1 c1) (v := vi b.Rows) k_sc_3 rfl (gv_of (v := pt (aD b2) 0) hg6) (hS5.cf (i := 1) rfl) rfl)) ?_
 refine sgq 19 (B := (!((!r_2) || (!r_3)))) (v := .bool (a.Cols != b.Rows)) rfl rfl (uF_ 14) (fun hg7 => (Y_ne (k := .i64) (a := a.Cols) (b := b.Rows) rfl (gv_of (v := vi a.Cols) hg7) (gv_of (v := vi b.Rows) hg7))) ?_
 refine sQ 20 (Y_or (b := ((!r_2) || (!r_3))) (z := (a.Cols != b.Rows)) rfl rfl rfl rfl) (rw_nil ?_)
 refine cw_cond (b := (((!r_2) || (!r_3)) || (a.Cols != b.Rows))) rfl (fun hb => ?_) (fun hb => ?_)
 ·skip
  have hF1 := ct hF hb
  refine cw_seq (cw_region ?_)
  refine sQ 21 (Y_buildS (zs := kN_) (vs := []) (cs := kN_) k_pl_75 k_zero_75 rfl mpn rfl) ?_
  refine s0 (Ys_store (i := 2) (s := 3) (B := aD b3) (T' := 75) (v := gN_) (vs := kN_) (k := 0) (cs' := kN_) hS5 k_sz_75_3 rfl rfl rfl rfl rfl rfl rfl (lB rfl) rfl rfl) ?_
  rintro _ w_5 ⟨rfl, hS6⟩
  refine sQ 5 (Y_assign (v := .bool false) rfl rfl) (rw_nil (cw_ret ?_))
  have hS7 := hS6.addNil 124
  obtain ⟨rfl, rfl⟩ := pr2 (some_inj hF1)
  exact ret2 Try.results85 (v1 := gN_) (resAt_cellA (B := aD b3) (i := 0) (cs := kN_) (vs := kN_) rfl k_ag_75 k_sz_75_3 (hS7.cf (i := 2) rfl) rfl rfl) (v2 := .bool false) (resAt_tmp rfl) ⟨none, 0, rfl, (hS7.sN [3])⟩
 ·skip
  have hF2 := cf' hF hb
  refine cw_skip (cw_seq (cw_region ?_))
  refine sQ 22 (Y_fieldAddr (B := aD b1) (i := 0) (s := 0) k_fd_75_0_0_3 k_sz_3_1 rfl rfl) ?_
  refine sQ 23 (Y_load1 (B := aD b1) (i := 0) (cs := kM_ a B c) (v := vi a.Rows) k_sc_3 rfl rfl (hS5.cf (i := 0) rfl) rfl) ?_
  refine sQ 24 (Y_fieldAddr (B := aD b2) (i := 0) (s := 0) k_fd_75_1_1_3 k_sz_3_1 rfl rfl) ?_
  refine sQ 25 (Y_load1 (B := aD b2) (i := 1) (cs := kM_ b B1 c1) (v := vi b.Cols) k_sc_3 rfl rfl (hS5.cf (i := 1) rfl) rfl) ?_
  refine sQ 26 (Y_makeFunc (cs := [pt (aD b1) 0, pt (aD b2) 0]) rfl rfl (mc rfl (mc rfl mn))) ?_
  obtain ⟨⟨r_4, r_5⟩, hc2, hF2⟩ := bind_inv hF2
  refine sc 27 rfl rfl (Yc_func (g := 157) (vs := [vi a.Rows, vi b.Cols, .func (.func 160) #[] #[pt (aD b1) 0, pt (aD b2) 0]]) k_call_157 rfl (mc rfl (mc rfl (mc rfl mn))) (c_impl_matrixOf a.Rows b.Cols (fun x_0 x_1 => F_impl_MulMatrix_1 x_0 x_1 a b) 160 (#[pt (aD b1) 0, pt (aD b2) 0]) [⟨aD b1, kM_ a B c⟩, ⟨B, (a.Cells.flatMap eN0)⟩, ⟨aD b2, kM_ b B1 c1⟩, ⟨B1, (b.Cells.flatMap eN0)⟩] _ k_call_160 (fun w hw x_0 x_1 y_0 y_1 h_ => c_impl_MulMatrix_1 x_0 x_1 a b (aD b1) B c a.Cells.length (aD b2) B1 c1 b.Cells.length w rfl rfl hw h_) (hS5.inn0 [(false, 0), (true, 0), (false, 1), (true, 1)] rfl) hc2)) ?_
  rintro _ w_6 ⟨B3, c3, rfl, hd1⟩
  have hS8 := hS5.out0 hd1
  refine sQ 28 (Y_extract (v := gM_ r_4 B3 c3) rfl rfl rfl) ?_
  refine sQ 29 (Y_extract (v := .bool r_5) rfl rfl rfl) ?_
  refine s0 (Ys_store (i := 2) (s := 3) (B := aD b3) (T' := 75) (v := gM_ r_4 B3 c3) (vs := kM_ r_4 B3 c3) (k := 0) (cs' := kM_ r_4 B3 c3) hS8 k_sz_75_3 rfl rfl rfl rfl rfl rfl rfl (lB rfl) rfl rfl) ?_
  rintro _ w_7 ⟨rfl, hS9⟩
  refine sQ 5 (Y_assign (v := .bool r_5) rfl rfl) (rw_nil (cw_ret ?_))
  obtain ⟨rfl, rfl⟩ := pr2 (some_inj hF2)
  exact ret2 Try.results85 (v1 := gM_ r_4 B3 c3) (resAt_cellA (B := aD b3) (i := 0) (cs := kM_ r_4 B3 c3) (vs := kM_ r_4 B3 c3) rfl k_ag_75 k_sz_75_3 (hS9.cf (i := 2) rfl) rfl rfl) (v2 := .bool r_5) (resAt_tmp rfl) ⟨B3, c3, rfl, (hS9.sN [3])⟩

theorem c_impl_ReduceColumn (v_ : TMatrix) (from_ : Int) (B : Option Addr) (c n : Nat) (w0 : World) (hn : v_.Cells.length = n) (hq : n ≤ c) (hS : ST w0 [] w0 [] [⟨B, (v_.Cells.flatMap eN0)⟩]) {r_ : List TTwoLevel} {r_1 : Bool} (hF : F_impl_ReduceColumn v_ from_ = some (r_, r_1)) :
  CV Try.prog 32 #[.agg #[vi v_.Rows, vi v_.Cols, .slice B n c], vi from_] w0 (fun v w' => ∃ (B1 : Option Addr) (c1 : Nat), v = .tuple #[.slice B1 r_.length c1, .bool r_1] ∧ ST w0 [] w' [⟨B1, 133, (r_.flatMap eN2), c1 * 4⟩] []) := by
 subst hn
 unfold F_impl_ReduceColumn at hF
 refine cv_of_cw 68 Try.func32 rfl Try.ntmps32 rfl ?_
 refine cw_seq (cw_region ?_)
 refine sS 2 (Ys_box (T := 75) (v := gM_ v_ B c) (cs := kM_ v_ B c) (m := 3) hS rfl rfl rfl rfl) ?_
 rintro _ w_ ⟨b, rfl, hS1⟩
 refine sQ 4 (Y_assign (v := .slice none 0 0) rfl rfl) ?_
 refine sQ 5 (Y_assign (v := .bool false) rfl rfl) (rw_nil (cw_seq (cw_seq (cw_region ?_))))
 refine sQ 17 (Y_loadA (B := aD b) (i := 0) (cs := kM_ v_ B c) (vs := kM_ v_ B c) k_ag_75 k_sz_75_3 rfl rfl (hS1.cf (i := 0) rfl) rfl rfl) ?_
 refine sQ 18 (Y_move (v := vi from_) rfl rfl) ?_
 obtain ⟨r_2, hc, hF⟩ := bind_inv hF
 refine sc 19 rfl rfl (Yc_func (g := 80) (vs := [gM_ v_ B c, vi from_]) k_call_80 rfl (mc rfl (mc rfl mn)) (c_impl_isColumn v_ from_ B c v_.Cells.length _ rfl (hS1.inn0 [(true, 0)] rfl) hc)) ?_
 rintro _ w_1 ⟨rfl, hd⟩
 have hS2 := hS1.out00 hd
 refine sQ 20 (Y_not (p := r_2) rfl rfl) (rw_nil ?_)
 refine cw_cond (b := (!r_2)) rfl (fun hb => ?_) (fun hb => ?_)
 ·skip
  have hF1 := ct hF hb
  refine cw_seq (cw_region ?_)
  refine sQ 4 (Y_assign (v := .slice none 0 0) rfl rfl) ?_
  refine sQ 5 (Y_assign (v := .bool false) rfl rfl) (rw_nil (cw_ret ?_))
  have hS3 := hS2.addNil 133
  obtain ⟨rfl, rfl⟩ := pr2 (some_inj hF1)
  exact ret2 Try.results32 (v1 := .slice none 0 0) (resAt_tmp rfl) (v2 := .bool false) (resAt_tmp rfl) ⟨none, 0, rfl, (hS3.sN [1])⟩
 ·skip
  have hF2 := cf' hF hb
  refine cw_skip (cw_seq (cw_region ?_))
  refine sS 21 (Ys_bslice0 (s := 4) (e := 133) hS2 k_sl_70_133 k_sz_133_4 rfl) ?_
  rintro _ w_2 ⟨b1, rfl, hS4⟩
  refine sQ 6 (Y_assign (v := .slice (aD b1) 0 0) rfl rfl) (rw_nil ?_)
  obtain ⟨z, hz, hF3⟩ := bind_inv hF2
  refine cw_mid (fun f w => False) ?_ ?_
  ·skip
   have hS6 : ST w0 [] _ [⟨aD b, 75, kM_ v_ B c, 3⟩, ⟨aD b1, 133, ([].flatMap eN2), 0 * 4⟩] [⟨B, (v_.Cells.flatMap eN0)⟩, ⟨B, (v_.Cells.flatMap eN0)⟩] := ST.subR hS4 (subc (mem_at (i := 0) rfl) (subc (mem_at (i := 0) rfl) (fun _ h => by cases h)))
   refine cw_block ?_
   refine cw_loop (fun k f w => ∃ (Rows : Int) (Cols : Int) (Cells : List TDyadic) (out : List TTwoLevel) (B2 : Option Addr) (c2 : Nat) (B3 : Option Addr) (c3 : Nat), FF f [(1, vi from_), (2, pt (aD b) 0), (6, .slice B3 out.length c3)] ∧ Org w0 [] [⟨B, (v_.Cells.flatMap eN0)⟩] [⟨B2, (Cells.flatMap eN0)⟩] ∧ Cells.length ≤ c2 ∧ ST w0 [] w [⟨aD b, 75, [vi Rows, vi Cols, .slice B2 Cells.length c2], 3⟩, ⟨B3, 133, (out.flatMap eN2), c3 * 4⟩] [⟨B2, (Cells.flatMap eN0)⟩, ⟨B, (v_.Cells.flatMap eN0)⟩] ∧ whX (F_impl_ReduceColumn_l1 from_) k (Rows, Cols, Cells, out) = some z) fuel ⟨v_.Rows, v_.Cols, v_.Cells, [], B, c, aD b1, 0, (FF.cons rfl (FF.cons rfl (FF.cons rfl FF.nil))), (org_mem (i := 0) rfl), (len_le rfl hq), (hS6.sel [0, 1] rfl rfl), hz⟩ ?_
   rintro k_ f w ⟨Rows, Cols, Cells, out, B2, c2, B3, c3, hf, ho, hq1, hS5, hL⟩
   obtain ⟨k_1, y, rfl, hb1, hL1⟩ := whX_go hL
   unfold F_impl_ReduceColumn_l1 at hb1
   refine cw_block (cw_seq (cw_region ?_))
   refine sQ 23 (Y_loadA (B := aD b) (i := 0) (cs := [vi Rows, vi Cols, .slice B2 Cells.length c2]) (vs := [vi Rows, vi Cols, .slice B2 Cells.length c2]) k_ag_75 k_sz_75_3 rfl (hf.get 2 1 rfl) (hS5.cf (i := 0) rfl) rfl rfl) ?_
   obtain ⟨⟨r_3, r_4⟩, hc1, hb1⟩ := bind_inv hb1
   refine sc 24 rfl rfl (Yc_func (g := 81) (vs := [.agg #[vi Rows, vi Cols, .slice B2 Cells.length c2]]) k_call_81 rfl (mc rfl mn) (c_impl_LeastExp (TMatrix.mk Rows Cols Cells) B2 c2 Cells.length _ rfl (hS5.inn0 [(true, 0)] rfl) hc1)) ?_
   rintro _ w_3 ⟨rfl, hd1⟩
   have hS7 := hS5.out00 hd1
   refine sQ 22 (Y_move (v := .tuple #[vi r_3, .bool r_4]) rfl rfl) ?_
   refine sQ 25 (Y_extract (v := vi r_3) rfl rfl rfl) ?_
   refine sQ 26 (Y_extract (v := .bool r_4) rfl rfl rfl) ?_
   refine sQ 7 (Y_assign (v := vi r_3) rfl rfl) ?_
   refine sQ 8 (Y_assign (v := .bool r_4) rfl rfl) (rw_nil (cw_seq (cw_seq (cw_region ?_))))
   refine sQ 27 (Y_move (v := vi r_3) rfl rfl) ?_
   refine sQ 28 (Y_eq (k := .i64) (a := r_3) (b := 0) rfl rfl rfl) (rw_nil ?_)
   refine cw_cond (b := (r_3 == 0)) rfl (fun hb2 => ?_) (fun hb2 => ?_)
   ·skip
    have hF4 := ct hb1 hb2
    refine cw_seq (cw_region ?_)
    refine sQ 30 (Y_loadA (B := aD b) (i := 0) (cs := [vi Rows, vi Cols, .slice B2 Cells.length c2]) (vs := [vi Rows, vi Cols, .slice B2 Cells.length c2]) k_ag_75 k_sz_75_3 rfl (hf.get 2 1 rfl) (hS7.cf (i := 0) rfl) rfl rfl) ?_
    refine sQ 31 (Y_move (v := vi from_) rfl (hf.get 1 0 rfl)) ?_
    obtain ⟨⟨r_5, r_6⟩, hc2, hF4⟩ := bind_inv hF4
    refine sc 32 rfl rfl (Yc_func (g := 82) (vs := [.agg #[vi Rows, vi Cols, .slice B2 Cells.length c2], vi from_]) k_call_82 rfl (mc rfl (mc rfl mn)) (c_impl_finishing (TMatrix.mk Rows Cols Cells) from_ B2 c2 Cells.length _ rfl (hS7.inn0 [(true, 0)] rfl) hc2)) ?_
    rintro _ w_4 ⟨B4, c4, rfl, hd2⟩
    have hS8 := hS7.out0 hd2
    refine sQ 29 (Y_move (v := .tuple #[.slice B4 r_5.length c4, .bool r_6]) rfl rfl) ?_
    refine sQ 33 (Y_extract (v := .slice B4 r_5.length c4) rfl rfl rfl) ?_
    refine sQ 34 (Y_extract (v := .bool r_6) rfl rfl rfl) ?_
    refine sQ 9 (Y_assign (v := .slice B4 r_5.length c4) rfl rfl) ?_
    refine sQ 10 (Y_assign (v := .bool r_6) rfl rfl) (rw_nil (cw_seq (cw_seq (cw_region ?_))))
    refine sQ 35 (Y_move (v := .bool r_6) rfl rfl) ?_
    refine sQ 36 (Y_not (p := r_6) rfl rfl) (rw_nil ?_)
    refine cw_cond (b := (!r_6)) rfl (fun hb3 => ?_) (fun hb3 => ?_)
    ·skip
     have hF5 := ct hF4 hb3
     refine cw_seq (cw_region ?_)
     refine sQ 4 (Y_assign (v := .slice none 0 0) rfl rfl) ?_
     refine sQ 5 (Y_assign (v := .bool false) rfl rfl) (rw_nil (cw_ret ?_))
     have hS9 := hS8.addNil 133
     obtain rfl := some_inj hF5
     obtain rfl := some_inj hL1
     obtain ⟨rfl, rfl⟩ := pr2 (some_inj hF3)
     exact ret2 Try.results32 (v1 := .slice none 0 0) (resAt_tmp rfl) (v2 := .bool false) (resAt_tmp rfl) ⟨none, 0, rfl, (hS9.sN [3])⟩
    ·skip
     have hF6 := cf' hF4 hb3
     refine cw_skip (cw_seq (cw_region ?_))
     refine sQ 37 (Y_move (v := .slice B3 out.length c3) rfl (hf.get 6 2 rfl)) ?_
     refine sQ 38 (Y_move (v := .slice B4 r_5.length c4) rfl rfl) ?_
     obtain ⟨hap, hF6⟩ := chk_inv hF6
     refine sS 39 (Ys_append (s := 4) (by' := 32) (i := 1) (nn := out.length) (c := c3) (k := r_5.length) (len := (out ++ r_5).length) (B := B3) (xs := (r_5.flatMap eN2)) (cs' := ((out ++ r_5).flatMap eN2)) hS8 k_sl_70_133 k_sz_133_4 k_by_133_32 k_zero_133 rfl (by decide) rfl rfl rfl rfl (fm_lenn (l := out) enc_TwoLevel_len rfl) rfl (hS8.cf (i := 2) rfl) (fm_lenn (l := r_5) enc_TwoLevel_len rfl) (fm_one' (enc := eN2) enc_TwoLevel_one r_5) (by have := hap; omega) (by have := hap; simp only [maxLen]; omega) (fm_app _ _) (app_len (l := out) (l' := r_5) rfl rfl)) ?_
     rintro _ w_5 ⟨B5, c5, rfl, hS10⟩
     refine sQ 4 (Y_assign (v := .slice B5 ((out ++ r_5).length) c5) rfl rfl) ?_
     refine sQ 5 (Y_assign (v := .bool true) rfl rfl) (rw_nil (cw_ret ?_))
     obtain rfl := some_inj hF6
     obtain rfl := some_inj hL1
     obtain ⟨rfl, rfl⟩ := pr2 (some_inj hF3)
     exact ret2 Try.results32 (v1 := .slice B5 ((out ++ r_5).length) c5) (resAt_tmp rfl) (v2 := .bool true) (resAt_tmp rfl) ⟨B5, c5, rfl, (hS10.sN [1])⟩
   ·skip
    have hF7 := cf' hb1 hb2
    refine cw_skip (cw_seq (cw_region ?_))
    refine sQ 41 (Y_loadA (B := aD b) (i := 0) (cs := [vi Rows, vi Cols, .slice B2 Cells.length c2]) (vs := [vi Rows, vi Cols, .slice B2 Cells.length c2]) k_ag_75 k_sz_75_3 rfl (hf.get 2 1 rfl) (hS7.cf (i := 0) rfl) rfl rfl) ?_
    refine sQ 42 (Y_move (v := vi r_3) rfl rfl) ?_
    obtain ⟨⟨r_7, r_8⟩, hc3, hF7⟩ := bind_inv hF7
    refine sc 43 rfl rfl (Yc_func (g := 83) (vs := [.agg #[vi Rows, vi Cols, .slice B2 Cells.length c2], vi r_3]) k_call_83 rfl (mc rfl (mc rfl mn)) (c_impl_lowering (TMatrix.mk Rows Cols Cells) r_3 B2 c2 Cells.length _ rfl (hS7.inn0 [(true, 0)] rfl) hc3)) ?_
    rintro _ w_6 ⟨rfl, hd3⟩
    have hS11 := hS7.out00 hd3
    refine sQ 40 (Y_move (v := .tuple #[.agg #[vi r_7.Kind, vi r_7.I, vi r_7.J, vi r_7.M_], .bool r_8]) rfl rfl) ?_
    refine sQ 44 (Y_extract (v := .agg #[vi r_7.Kind, vi r_7.I, vi r_7.J, vi r_7.M_]) rfl rfl rfl) ?_
    refine sQ 45 (Y_extract (v := .bool r_8) rfl rfl rfl) ?_
    refine sS 11 (Ys_alloc (T := 133) (cs := [vi 0, vi 0, vi 0, vi 0]) (m := 4) hS11 k_zero_133 rfl rfl rfl) ?_
    rintro _ w_7 ⟨b2, rfl, hS12⟩
    refine s0 (Ys_store (i := 2) (s := 4) (B := aD b2) (T' := 133) (v := .agg #[vi r_7.Kind, vi r_7.I, vi r_7.J, vi r_7.M_]) (vs := [vi r_7.Kind, vi r_7.I, vi r_7.J, vi r_7.M_]) (k := 0) (cs' := [vi r_7.Kind, vi r_7.I, vi r_7.J, vi r_7.M_]) hS12 k_sz_133_4 rfl rfl rfl rfl rfl rfl rfl (lB rfl) rfl rfl) ?_
    rintro _ w_8 ⟨rfl, hS13⟩
    refine sQ 12 (Y_assign (v := .bool r_8) rfl rfl) (rw_nil (cw_seq (cw_seq (cw_region ?_))))
    refine sQ 46 (Y_move (v := .bool r_8) rfl rfl) ?_
    refine sQ 47 (Y_not (p := r_8) rfl rfl) (rw_nil ?_)
    refine cw_cond (b := (!r_8)) rfl (fun hb4 => ?_) (fun hb4 => ?_)
    ·skip
     have hF8 := ct hF7 hb4
     refine cw_seq (cw_region ?_)
     refine sQ 4 (Y_assign (v := .slice none 0 0) rfl rfl) ?_
     refine sQ 5 (Y_assign (v := .bool false) rfl rfl) (rw_nil (cw_ret ?_))
     have hS14 := hS13.addNil 133
     obtain rfl := some_inj hF8
     obtain rfl := some_inj hL1
     obtain ⟨rfl, rfl⟩ := pr2 (some_inj hF3)
     exact ret2 Try.results32 (v1 := .slice none 0 0) (resAt_tmp rfl) (v2 := .bool false) (resAt_tmp rfl) ⟨none, 0, rfl, (hS14.sN [3])⟩
    ·skip
     have hF9 := cf' hF7 hb4
     refine cw_skip (cw_seq (cw_region ?_))
     refine sQ 49 (Y_fieldAddr (B := aD b) (i := 0) (s := 0) k_fd_75_0_0_3 k_sz_3_1 rfl (hf.get 2 1 rfl)) ?_
     refine sQ 50 (Y_load1 (B := aD b) (i := 0) (cs := [vi Rows, vi Cols, .slice B2 Cells.length c2]) (v := vi Rows) k_sc_3 rfl rfl (hS13.cf (i := 0) rfl) rfl) ?_
     refine sQ 51 (Y_loadA (B := aD b2) (i := 0) (cs := [vi r_7.Kind, vi r_7.I, vi r_7.J, vi r_7.M_]) (vs := [vi r_7.Kind, vi r_7.I, vi r_7.J, vi r_7.M_]) k_ag_133 k_sz_133_4 rfl rfl (hS13.cf (i := 2) rfl) rfl rfl) ?_
     obtain ⟨⟨r_9, r_10⟩, hc4, hF9⟩ := bind_inv hF9
     refine sc 52 rfl rfl (Yc_func (g := 84) (vs := [vi Rows, .agg #[vi r_7.Kind, vi r_7.I, vi r_7.J, vi r_7.M_]]) k_call_84 rfl (mc rfl (mc rfl mn)) (c_impl_TwoLevelMatrix Rows r_7 _  (hS13.inn0 [] rfl) hc4)) ?_
     rintro _ w_9 ⟨B6, c6, rfl, hd4⟩
     have hS15 := hS13.out0 hd4
     refine sQ 48 (Y_move (v := .tuple #[gM_ r_9 B6 c6, .bool r_10]) rfl rfl) ?_
     refine sQ 53 (Y_extract (v := gM_ r_9 B6 c6) rfl rfl rfl) ?_
     refine sQ 54 (Y_extract (v := .bool r_10) rfl rfl rfl) ?_
     refine sS 13 (Ys_alloc (T := 75) (cs := kN_) (m := 3) hS15 k_zero_75 rfl rfl rfl) ?_
     rintro _ w_10 ⟨b3, rfl, hS16⟩
     refine s0 (Ys_store (i := 4) (s := 3) (B := aD b3) (T' := 75) (v := gM_ r_9 B6 c6) (vs := kM_ r_9 B6 c6) (k := 0) (cs' := kM_ r_9 B6 c6) hS16 k_sz_75_3 rfl rfl rfl rfl rfl rfl rfl (lB rfl) rfl rfl) ?_
     rintro _ w_11 ⟨rfl, hS17⟩
     refine sQ 14 (Y_assign (v := .bool r_10) rfl rfl) (rw_nil (cw_seq (cw_region ?_)))
     refine sQ 56 (Y_loadA (B := aD b3) (i := 0) (cs := kM_ r_9 B6 c6) (vs := kM_ r_9 B6 c6) k_ag_75 k_sz_75_3 rfl rfl (hS17.cf (i := 4) rfl) rfl rfl) ?_
     refine sQ 57 (Y_loadA (B := aD b) (i := 0) (cs := [vi Rows, vi Cols, .slice B2 Cells.length c2]) (vs := [vi Rows, vi Cols, .slice B2 Cells.length c2]) k_ag_75 k_sz_75_3 rfl (hf.get 2 1 rfl) (hS17.cf (i := 0) rfl) rfl rfl) ?_
     obtain ⟨⟨r_11, r_12⟩, hc5, hF9⟩ := bind_inv hF9
     refine sc 58 rfl rfl (Yc_func (g := 85) (vs := [gM_ r_9 B6 c6, .agg #[vi Rows, vi Cols, .slice B2 Cells.length c2]]) k_call_85 rfl (mc rfl (mc rfl mn)) (c_impl_MulMatrix r_9 (TMatrix.mk Rows Cols Cells) B6 c6 r_9.Cells.length B2 c2 Cells.length _ rfl rfl (hS17.inn0 [(false, 3), (true, 0)] rfl) hc5)) ?_
     rintro _ w_12 ⟨B7, c7, rfl, hd5⟩
     have hS18 := hS17.out0 hd5
     refine sQ 55 (Y_move (v := .tuple #[gM_ r_11 B7 c7, .bool r_12]) rfl rfl) ?_
     refine sQ 59 (Y_extract (v := gM_ r_11 B7 c7) rfl rfl rfl) ?_
     refine sQ 60 (Y_extract (v := .bool r_12) rfl rfl rfl) ?_
     refine sS 15 (Ys_alloc (T := 75) (cs := kN_) (m := 3) hS18 k_zero_75 rfl rfl rfl) ?_
     rintro _ w_13 ⟨b4, rfl, hS19⟩
     refine s0 (Ys_store (i := 6) (s := 3) (B := aD b4) (T' := 75) (v := gM_ r_11 B7 c7) (vs := kM_ r_11 B7 c7) (k := 0) (cs' := kM_ r_11 B7 c7) hS19 k_sz_75_3 rfl rfl rfl rfl rfl rfl rfl (lB rfl) rfl rfl) ?_
     rintro _ w_14 ⟨rfl, hS20⟩
     refine sQ 16 (Y_assign (v := .bool r_12) rfl rfl) (rw_nil (cw_seq (cw_seq (cw_region ?_))))
     refine sQ 61 (Y_move (v := .bool r_12) rfl rfl) ?_
     refine sQ 62 (Y_not (p := r_12) rfl rfl) (rw_nil ?_)
     refine cw_cond (b := (!r_12)) rfl (fun hb5 => ?_) (fun hb5 => ?_)
     ·skip
      have hF10 := ct hF9 hb5
      refine cw_seq (cw_region ?_)
      refine sQ 4 (Y_assign (v := .slice none 0 0) rfl rfl) ?_
      refine sQ 5 (Y_assign (v := .bool false) rfl rfl) (rw_nil (cw_ret ?_))
      have hS21 := hS20.addNil 133
      obtain rfl := some_inj hF10
      obtain rfl := some_inj hL1
      obtain ⟨rfl, rfl⟩ := pr2 (some_inj hF3)
      exact ret2 Try.results32 (v1 := .slice none 0 0) (resAt_tmp rfl) (v2 := .bool false) (resAt_tmp rfl) ⟨none, 0, rfl, (hS21.sN [7])⟩
     ·skip
      have hF11 := cf' hF9 hb5
      refine cw_skip ?_
      obtain ⟨hap1, hF11⟩ := chk_inv hF11
      refine ra_start (hS20.se [2, 3, 4, 5, 6]).fn (by kernel_rfl) ?_
      have hS22 := hS20.drew
      refine rq 0 63 (v := gM_ r_11 B7 c7) rfl (hS22.se [2, 3, 4, 5, 6]) (fun w' hw' => (Y_loadA (B := aD b4) (i := 0) (cs := kM_ r_11 B7 c7) (vs := kM_ r_11 B7 c7) k_ag_75 k_sz_75_3 rfl rfl (ST.cf hw' (i := 4) rfl) rfl rfl)) ?_
      refine rq 1 64 (v := .slice B3 out.length c3) rfl (hS22.se [2, 3, 4, 5, 6]) (fun w' hw' => (Y_move (v := .slice B3 out.length c3) rfl (hf.get 6 2 rfl))) ?_
      refine rq 2 65 (v := .agg #[vi r_7.Kind, vi r_7.I, vi r_7.J, vi r_7.M_]) rfl (hS22.se [2, 3, 4, 5, 6]) (fun w' hw' => (Y_loadA (B := aD b2) (i := 0) (cs := [vi r_7.Kind, vi r_7.I, vi r_7.J, vi r_7.M_]) (vs := [vi r_7.Kind, vi r_7.I, vi r_7.J, vi r_7.M_]) k_ag_133 k_sz_133_4 rfl rfl (ST.cf hw' (i := 0) rfl) rfl rfl)) ?_
      refine rA [3] ?_
      refine ra_s 66 (i := 3) rfl rfl rfl (Ys_bslice (s := 4) (len := 1) (vs := [(0, .agg #[vi r_7.Kind, vi r_7.I, vi r_7.J, vi r_7.M_])]) (cs := [vi r_7.Kind, vi r_7.I, vi r_7.J, vi r_7.M_]) (zs := [vi 0, vi 0, vi 0, vi 0]) (m := 4) hS22 k_sl_70_133 k_sz_133_4 k_zc_133 rfl (mpc rfl mpn) rfl rfl rfl (by kernel_rfl) (by kernel_rfl) rfl) ?_ ?_
      ·rintro _ w_15 ⟨b5, rfl, hS23⟩
       refine ⟨(hS23.se [2, 3, 4, 5, 6]), ?_⟩
       refine rA [4] ?_
       refine ra_s 67 (i := 4) rfl rfl rfl (Ys_append (s := 4) (by' := 32) (i := 1) (nn := out.length) (c := c3) (k := 1) (len := (out ++ [r_7]).length) (B := B3) (xs := ([r_7].flatMap eN2)) (cs' := ((out ++ [r_7]).flatMap eN2)) hS23 k_sl_70_133 k_sz_133_4 k_by_133_32 k_zero_133 rfl (by decide) rfl rfl rfl rfl (fm_lenn (l := out) enc_TwoLevel_len rfl) rfl (hS23.cf (i := 7) rfl) (fm_lenn (l := [r_7]) enc_TwoLevel_len rfl) (fm_one' (enc := eN2) enc_TwoLevel_one [r_7]) (by have := hap1; omega) (by have := hap1; simp only [maxLen]; omega) (fm_app _ _) (app_len (l := out) (l' := [r_7]) rfl rfl)) ?_ ?_
       ·rintro _ w_16 ⟨B8, c8, rfl, hS24⟩
        refine ⟨(hS24.se [2, 3, 4, 5, 6]), ?_⟩
        refine rA [5] ?_
        refine ra_s0 (i := 5) rfl rfl rfl (Ys_store (i := 0) (s := 3) (B := aD b) (T' := 75) (v := gM_ r_11 B7 c7) (vs := kM_ r_11 B7 c7) (k := 0) (cs' := kM_ r_11 B7 c7) hS24 k_sz_75_3 rfl (hf.get 2 1 rfl) rfl rfl rfl rfl rfl (lB rfl) rfl rfl) ?_ ?_
        ·rintro _ w_17 ⟨rfl, hS25⟩
         refine ⟨(hS25.se [2, 3, 4, 5, 6]), ?_⟩
         refine rq 6 6 (v := .slice B8 ((out ++ [r_7]).length) c8) rfl (hS25.se [2, 3, 4, 5, 6]) (fun w' hw' => (Y_assign (v := .slice B8 ((out ++ [r_7]).length) c8) rfl rfl)) ?_
         refine ra_done (by kernel_rfl) ?_
         obtain rfl := some_inj hF11
         have ho1 : Org w0 [] [⟨B, (v_.Cells.flatMap eN0)⟩] [⟨B7, (r_11.Cells.flatMap eN0)⟩] := ST.orgOwn hS25 (i := 5) rfl
         have hcap : r_11.Cells.length ≤ c7 := (hS25.lencap (i := 5) rfl (fm_lenn (l := r_11.Cells) eN1 rfl) rfl rfl)
         have hS26 : ST w0 [] _ [⟨aD b, 75, kM_ r_11 B7 c7, 3⟩, ⟨B8, 133, ((out ++ [r_7]).flatMap eN2), c8 * 4⟩, ⟨aD b2, 133, [vi r_7.Kind, vi r_7.I, vi r_7.J, vi r_7.M_], 4⟩, ⟨B6, 124, (r_9.Cells.flatMap eN0), c6 * 5⟩, ⟨aD b3, 75, kM_ r_9 B6 c6, 3⟩, ⟨aD b4, 75, kM_ r_11 B7 c7, 3⟩, ⟨aD b5, 133, ([r_7].flatMap eN2), 1 * 4⟩] [⟨B7, (r_11.Cells.flatMap eN0)⟩, ⟨B2, (Cells.flatMap eN0)⟩, ⟨B, (v_.Cells.flatMap eN0)⟩] := hS25.freeze (i := 5) rfl
         have hS27 : ST w0 [] _ [⟨aD b, 75, kM_ r_11 B7 c7, 3⟩, ⟨B8, 133, ((out ++ [r_7]).flatMap eN2), c8 * 4⟩, ⟨aD b2, 133, [vi r_7.Kind, vi r_7.I, vi r_7.J, vi r_7.M_], 4⟩, ⟨B6, 124, (r_9.Cells.flatMap eN0), c6 * 5⟩, ⟨aD b3, 75, kM_ r_9 B6 c6, 3⟩, ⟨aD b4, 75, kM_ r_11 B7 c7, 3⟩, ⟨aD b5, 133, ([r_7].flatMap eN2), 1 * 4⟩] [⟨B7, (r_11.Cells.flatMap eN0)⟩, ⟨B, (v_.Cells.flatMap eN0)⟩] := ST.subR hS26 (subc (mem_at (i := 0) rfl) (subc (mem_at (i := 2) rfl) (fun _ h => by cases h)))
         exact ⟨k_1, Nat.lt_succ_self _, r_11.Rows, r_11.Cols, r_11.Cells, (out ++ [r_7]), B7, c7, B8, c8, (FF.cons (hf.get 1 0 rfl) (FF.cons (hf.get 2 1 rfl) (FF.cons rfl FF.nil))), ho1, (len_le rfl hcap), (hS27.sel [0, 1] rfl rfl), hL1⟩
        exact allR_nil
       exact allR_nil
      exact allR_nil
  rintro _ _ h
  exact h.elim

theorem c_laws_eqTwoLevel (a : TTwoLevel) (b : TTwoLevel)  (w0 : World)  (hS : ST w0 [] w0 [] []) {r_ : Bool} (hF : F_laws_eqTwoLevel a b = some r_) :
  CV Try.prog 86 #[.agg #[vi a.Kind, vi a.I, vi a.J, vi a.M_], .agg #[vi b.Kind, vi b.I, vi b.J, vi b.M_]] w0 (fun v w' => v = .bool r_ ∧ ST w0 [] w' [] []) := by
 unfold F_laws_eqTwoLevel at hF
 refine cv_of_cw 25 Try.func86 rfl Try.ntmps86 rfl ?_
 refine cw_seq (cw_region ?_)
 refine sS 2 (Ys_box (T := 133) (v := .agg #[vi a.Kind, vi a.I, vi a.J, vi a.M_]) (cs := [vi a.Kind, vi a.I, vi a.J, vi a.M_]) (m := 4) hS rfl rfl rfl rfl) ?_
 rintro _ w_ ⟨b1, rfl, hS1⟩
 refine sS 3 (Ys_box (T := 133) (v := .agg #[vi b.Kind, vi b.I, vi b.J, vi b.M_]) (cs := [vi b.Kind, vi b.I, vi b.J, vi b.M_]) (m := 4) hS1 rfl rfl rfl rfl) ?_
 rintro _ w_1 ⟨b2, rfl, hS2⟩
 refine sQ 4 (Y_assign (v := .bool false) rfl rfl) (rw_nil (cw_seq (cw_seq (cw_region ?_))))
 refine sQ 5 (Y_fieldAddr (B := aD b1) (i := 0) (s := 0) k_fd_133_0_0_3 k_sz_3_1 rfl rfl) ?_
 refine sQ 6 (Y_load1 (B := aD b1) (i := 0) (cs := [vi a.Kind, vi a.I, vi a.J, vi a.M_]) (v := vi a.Kind) k_sc_3 rfl rfl (hS2.cf (i := 0) rfl) rfl) ?_
 refine sQ 7 (Y_fieldAddr (B := aD b2) (i := 0) (s := 0) k_fd_133_0_0_3 k_sz_3_1 rfl rfl) ?_
 refine sQ 8 (Y_load1 (B := aD b2) (i := 0) (cs := [vi b.Kind, vi b.I, vi b.J, vi b.M_]) (v := vi b.Kind) k_sc_3 rfl rfl (hS2.cf (i := 1) rfl) rfl) ?_
 refine sQ 9 (Y_ne (k := .i64) (a := a.Kind) (b := b.Kind) rfl rfl rfl) (rw_nil ?_)
 refine cw_cond (b := (a.Kind != b.Kind)) rfl (fun hb => ?_) (fun hb => ?_)
 ·skip
  have hF1 := ct hF hb
  refine cw_seq (cw_region ?_)
  refine sQ 4 (Y_assign (v := .bool false) rfl rfl) (rw_nil (cw_ret ?_))
  obtain rfl := some_inj hF1
  exact ret1 Try.results86 (v1 := .bool false) (resAt_tmp rfl) ⟨rfl, (hS2.sN [])⟩
 ·skip
  have hF2 := cf' hF hb
  refine cw_skip (cw_seq (cw_seq (cw_region ?_)))
  refine sQ 10 (Y_fieldAddr (B := aD b1) (i := 0) (s := 0) k_fd_133_1_1_3 k_sz_3_1 rfl rfl) ?_
  refine sQ 11 (Y_load1 (B := aD b1) (i := 1) (cs := [vi a.Kind, vi a.I, vi a.J, vi a.M_]) (v := vi a.I) k_sc_3 rfl rfl (hS2.cf (i := 0) rfl) rfl) ?_
  refine sQ 12 (Y_fieldAddr (B := aD b2) (i := 0) (s := 0) k_fd_133_1_1_3 k_sz_3_1 rfl rfl) ?_
  refine sQ 13 (Y_load1 (B := aD b2) (i := 1) (cs := [vi b.Kind, vi b.I, vi b.J, vi b.M_]) (v := vi b.I) k_sc_3 rfl rfl (hS2.cf (i := 1) rfl) rfl) ?_
  refine sQ 14 (Y_ne (k := .i64) (a := a.I) (b := b.I) rfl rfl rfl) (rw_nil ?_)
  refine cw_cond (b := (a.I != b.I)) rfl (fun hb1 => ?_) (fun hb1 => ?_)
  ·skip
   have hF3 := ct hF2 hb1
   refine cw_seq (cw_region ?_)
   refine sQ 4 (Y_assign (v := .bool false) rfl rfl) (rw_nil (cw_ret ?_))
   obtain rfl := some_inj hF3
   exact ret1 Try.results86 (v1 := .bool false) (resAt_tmp rfl) ⟨rfl, (hS2.sN [])⟩
  ·skip
   have hF4 := cf' hF2 hb1
   refine cw_skip (cw_seq (cw_seq (cw_region ?_)))
   refine sQ 15 (Y_fieldAddr (B := aD b1) (i := 0) (s := 0) k_fd_133_2_2_3 k_sz_3_1 rfl rfl) ?_
   refine sQ 16 (Y_load1 (B := aD b1) (i := 2) (cs := [vi a.Kind, vi a.I, vi a.J, vi a.M_]) (v := vi a.J) k_sc_3 rfl rfl (hS2.cf (i := 0) rfl) rfl) ?_
   refine sQ 17 (Y_fieldAddr (B := aD b2) (i := 0) (s := 0) k_fd_133_2_2_3 k_sz_3_1 rfl rfl) ?_
   refine sQ 18 (Y_load1 (B := aD b2) (i := 2) (cs := [vi b.Kind, vi b.I, vi b.J, vi b.M_]) (v := vi b.J) k_sc_3 rfl rfl (hS2.cf (i := 1) rfl) rfl) ?_
   refine sQ 19 (Y_ne (k := .i64) (a := a.J) (b := b.J) rfl rfl rfl) (rw_nil ?_)
   refine cw_cond (b := (a.J != b.J)) rfl (fun hb2 => ?_) (fun hb2 => ?_)
   ·skip
    have hF5 := ct hF4 hb2
    refine cw_seq (cw_region ?_)
    refine sQ 4 (Y_assign (v := .bool false) rfl rfl) (rw_nil (cw_ret ?_))
    obtain rfl := some_inj hF5
    exact ret1 Try.results86 (v1 := .bool false) (resAt_tmp rfl) ⟨rfl, (hS2.sN [])⟩
   ·skip
    have hF6 := cf' hF4 hb2
    refine cw_skip (cw_seq (cw_seq (cw_region ?_)))
    refine sQ 20 (Y_fieldAddr (B := aD b1) (i := 0) (s := 0) k_fd_133_3_3_3 k_sz_3_1 rfl rfl) ?_
    refine sQ 21 (Y_load1 (B := aD b1) (i := 3) (cs := [vi a.Kind, vi a.I, vi a.J, vi a.M_]) (v := vi a.M_) k_sc_3 rfl rfl (hS2.cf (i := 0) rfl) rfl) ?_
    refine sQ 22 (Y_fieldAddr (B := aD b2) (i := 0) (s := 0) k_fd_133_3_3_3 k_sz_3_1 rfl rfl) ?_
    refine sQ 23 (Y_load1 (B := aD b2) (i := 3) (cs := [vi b.Kind, vi b.I, vi b.J, vi b.M_]) (v := vi b.M_) k_sc_3 rfl rfl (hS2.cf (i := 1) rfl) rfl) ?_
    refine sQ 24 (Y_ne (k := .i64) (a := a.M_) (b := b.M_) rfl rfl rfl) (rw_nil ?_)
    refine cw_cond (b := (a.M_ != b.M_)) rfl (fun hb3 => ?_) (fun hb3 => ?_)
    ·skip
     have hF7 := ct hF6 hb3
     refine cw_seq (cw_region ?_)
     refine sQ 4 (Y_assign (v := .bool false) rfl rfl) (rw_nil (cw_ret ?_))
     obtain rfl := some_inj hF7
     exact ret1 Try.results86 (v1 := .bool false) (resAt_tmp rfl) ⟨rfl, (hS2.sN [])⟩
    ·skip
     have hF8 := cf' hF6 hb3
     refine cw_skip (cw_seq (cw_region ?_))
     refine sQ 4 (Y_assign (v := .bool true) rfl rfl) (rw_nil (cw_ret ?_))
     obtain rfl := some_inj hF8
     exact ret1 Try.results86 (v1 := .bool true) (resAt_tmp rfl) ⟨rfl, (hS2.sN [])⟩

theorem c_laws_eqTwoLevelS (a : List TTwoLevel) (b : List TTwoLevel) (B : Option Addr) (c n : Nat) (B1 : Option Addr) (c1 n1 : Nat) (w0 : World) (hn : a.length = n) (hn1 : b.length = n1) (hS : ST w0 [] w0 [] [⟨B, (a.flatMap eN2)⟩, ⟨B1, (b.flatMap eN2)⟩]) {r_ : Bool} (hF : F_laws_eqTwoLevelS a b = some r_) :
  CV Try.prog 33 #[.slice B n c, .slice B1 n1 c1] w0 (fun v w' => v = .bool r_ ∧ ST w0 [] w' [] []) := by
 subst hn
 subst hn1
 unfold F_laws_eqTwoLevelS at hF
 refine cv_of_cw 27 Try.func33 rfl Try.ntmps33 rfl ?_
 refine cw_seq (cw_region ?_)
 refine sQ 4 (Y_assign (v := .bool false) rfl rfl) (rw_nil (cw_seq (cw_seq (cw_region ?_))))
 refine sQ 6 (Y_move (v := .slice B a.length c) rfl rfl) ?_
 refine sQ 7 (Y_len (B := B) (m := a.length) (c := c) k_sl_70_133 rfl rfl) ?_
 refine sQ 8 (Y_move (v := .slice B1 b.length c1) rfl rfl) ?_
 refine sQ 9 (Y_len (B := B1) (m := b.length) (c := c1) k_sl_70_133 rfl rfl) ?_
 refine sQ 10 (Y_ne (k := .i64) (a := (a.length : Int)) (b := (b.length : Int)) rfl rfl rfl) (rw_nil ?_)
 refine cw_cond (b := ((a.length : Int) != (b.length : Int))) rfl (fun hb => ?_) (fun hb => ?_)
 ·skip
  have hF1 := ct hF hb
  refine cw_seq (cw_region ?_)
  refine sQ 4 (Y_assign (v := .bool false) rfl rfl) (rw_nil (cw_ret ?_))
  obtain rfl := some_inj hF1
  exact ret1 Try.results33 (v1 := .bool false) (resAt_tmp rfl) ⟨rfl, (hS.sN [])⟩
 ·skip
  have hF2 := cf' hF hb
  refine cw_skip (cw_seq (cw_seq (cw_region ?_)))
  refine sQ 5 (Y_assign (v := vi 0) rfl rfl) (rw_nil ?_)
  obtain ⟨hN, hF2⟩ := chk_inv hF2
  obtain ⟨z, hz, hF3⟩ := bind_inv hF2
  refine cw_block ?_
  refine cw_loop (fun k f w => ∃ (i1 : Nat), FF f [(0, .slice B a.length c), (1, .slice B1 b.length c1), (5, vi (i1 : Int))] ∧ ST w0 [] w [] [⟨B, (a.flatMap eN2)⟩, ⟨B1, (b.flatMap eN2)⟩] ∧ i1 + k = a.length ∧ forX (F_laws_eqTwoLevelS_l1 a b) k i1 () = some z) a.length ⟨0, (FF.cons rfl (FF.cons rfl (FF.cons rfl FF.nil))), (hS.sel [] rfl rfl), Nat.zero_add _, hz⟩ ?_
  rintro k_ f w ⟨i1, hf, hS1, hik, hL⟩
  refine cw_seq (cw_seq (cw_region ?_))
  refine sQ 11 (Y_move (v := vi (i1 : Int)) rfl (hf.get 5 2 rfl)) ?_
  refine sQ 12 (Y_move (v := .slice B a.length c) rfl (hf.get 0 0 rfl)) ?_
  refine sQ 13 (Y_len (B := B) (m := a.length) (c := c) k_sl_70_133 rfl rfl) ?_
  refine sQ 14 (Y_lt (k := .i64) (a := (i1 : Int)) (b := (a.length : Int)) rfl rfl rfl) (rw_nil ?_)
  refine cw_cond (b := (decide ((i1 : Int) < (a.length : Int)))) rfl (fun hlt => ?_) (fun hlt => ?_)
  ·skip
   have hlt1 : i1 < a.length := by have h := of_decide_eq_true hlt; omega
   obtain ⟨k_1, rfl⟩ : ∃ k2, k_ = k2 + 1 := ⟨k_ - 1, by omega⟩
   obtain ⟨y, hb1, hL1⟩ := forX_go hL
   unfold F_laws_eqTwoLevelS_l1 at hb1
   refine cw_skip (cw_seq (cw_block (cw_seq ?_)))
   obtain ⟨x, hx, hb1⟩ := bind_inv hb1
   obtain ⟨x1, hx1, hb1⟩ := bind_inv hb1
   obtain ⟨r_1, hc, hb1⟩ := bind_inv hb1
   refine ra_start (hS1.se []).fn (by kernel_rfl) ?_
   have hS3 := hS1.drew
   refine rq 0 17 (v := .slice B a.length c) rfl (hS3.se []) (fun w' hw' => (Y_move (v := .slice B a.length c) rfl (hf.get 0 0 rfl))) ?_
   refine rq 1 18 (v := vi (i1 : Int)) rfl (hS3.se []) (fun w' hw' => (Y_move (v := vi (i1 : Int)) rfl (hf.get 5 2 rfl))) ?_
   refine rq 2 19 (v := pt B ((i1 : Int).toNat * 4)) rfl (hS3.se []) (fun w' hw' => (Y_index (B := B) (m := a.length) (c := c) (k := .i64) (i := (i1 : Int)) k_sl_70_133 k_sz_133_4 rfl rfl rfl (gi_isSome enc_TwoLevel_len rfl (ST.rf hw' (i := 0) rfl) hx) (getI_nn hx) (getI_ltI hx rfl))) ?_
   refine rq 3 20 (v := .agg #[vi x.Kind, vi x.I, vi x.J, vi x.M_]) rfl (hS3.se []) (fun w' hw' => (Y_loadA (B := B) (i := (i1 : Int).toNat * 4) (cs := (a.flatMap eN2)) (vs := [vi x.Kind, vi x.I, vi x.J, vi x.M_]) k_ag_133 k_sz_133_4 rfl rfl (ST.rf hw' (i := 0) rfl) (enc_TwoLevel_len x) (gi_seg enc_TwoLevel_len hx))) ?_
   refine rq 4 21 (v := .slice B1 b.length c1) rfl (hS3.se []) (fun w' hw' => (Y_move (v := .slice B1 b.length c1) rfl (hf.get 1 1 rfl))) ?_
   refine rq 5 22 (v := vi (i1 : Int)) rfl (hS3.se []) (fun w' hw' => (Y_move (v := vi (i1 : Int)) rfl (hf.get 5 2 rfl))) ?_
   refine rq 6 23 (v := pt B1 ((i1 : Int).toNat * 4)) rfl (hS3.se []) (fun w' hw' => (Y_index (B := B1) (m := b.length) (c := c1) (k := .i64) (i := (i1 : Int)) k_sl_70_133 k_sz_133_4 rfl rfl rfl (gi_isSome enc_TwoLevel_len rfl (ST.rf hw' (i := 1) rfl) hx1) (getI_nn hx1) (getI_ltI hx1 rfl))) ?_
   refine rq 7 24 (v := .agg #[vi x1.Kind, vi x1.I, vi x1.J, vi x1.M_]) rfl (hS3.se []) (fun w' hw' => (Y_loadA (B := B1) (i := (i1 : Int).toNat * 4) (cs := (b.flatMap eN2)) (vs := [vi x1.Kind, vi x1.I, vi x1.J, vi x1.M_]) k_ag_133 k_sz_133_4 rfl rfl (ST.rf hw' (i := 1) rfl) (enc_TwoLevel_len x1) (gi_seg enc_TwoLevel_len hx1))) ?_
   refine rA [8] ?_
   refine ra_c 25 (i := 8) rfl rfl rfl (Yc_func (g := 86) (vs := [.agg #[vi x.Kind, vi x.I, vi x.J, vi x.M_], .agg #[vi x1.Kind, vi x1.I, vi x1.J, vi x1.M_]]) k_call_86 rfl (mc rfl (mc rfl mn)) (c_laws_eqTwoLevel x x1 _  (hS3.inn0 [] rfl) hc)) ?_ ?_
   ·rintro _ w_ ⟨rfl, hd⟩
    have hS4 := hS3.out00 hd
    refine ⟨(hS4.se []), ?_⟩
    refine rq 9 26 (v := .bool (!r_1)) rfl (hS4.se []) (fun w' hw' => (Y_not (p := r_1) rfl rfl)) ?_
    refine ra_done (by kernel_rfl) ?_
    refine cw_cond (b := (!r_1)) rfl (fun hb2 => ?_) (fun hb2 => ?_)
    ·skip
     have hF4 := ct hb1 hb2
     refine cw_seq (cw_region ?_)
     refine sQ 4 (Y_assign (v := .bool false) rfl rfl) (rw_nil (cw_ret ?_))
     obtain rfl := some_inj hF4
     obtain rfl := some_inj hL1
     obtain rfl := some_inj hF3
     exact ret1 Try.results33 (v1 := .bool false) (resAt_tmp rfl) ⟨rfl, (hS4.sN [])⟩
    ·skip
     have hF5 := cf' hb1 hb2
     refine cw_skip (cw_region ?_)
     refine sQ 15 (Y_move (v := vi (i1 : Int)) rfl (hf.get 5 2 rfl)) ?_
     refine sQ 16 (Y_add (k := .i64) (a := (i1 : Int)) (b := 1) rfl rfl rfl) ?_
     refine sQ 5 (Y_assign (v := vi (i64.wrap ((i1 : Int) + 1))) rfl rfl) (rw_nil ?_)
     obtain rfl := some_inj hF5
     exact ⟨k_1, Nat.lt_succ_self _, i1 + 1, (FF.cons (hf.get 0 0 rfl) (FF.cons (hf.get 1 1 rfl) (FF.cons (congrArg (Value.int .i64) (wr_succ hlt1 hN)) FF.nil))), (hS4.sel [] rfl rfl), (by omega), hL1⟩
   exact allR_nil
  ·skip
   obtain rfl : k_ = 0 := by have h := of_decide_eq_false hlt; omega
   refine cw_exit rfl ?_
   obtain rfl := some_inj hL
   refine cw_seq (cw_region ?_)
   refine sQ 4 (Y_assign (v := .bool true) rfl rfl) (rw_nil (cw_ret ?_))
   obtain rfl := some_inj hF3
   exact ret1 Try.results33 (v1 := .bool true) (resAt_tmp rfl) ⟨rfl, (hS1.sN [])⟩

theorem c_laws_eqRing (a : TRing) (b : TRing)  (w0 : World)  (hS : ST w0 [] w0 [] []) {r_ : Bool} (hF : F_laws_eqRing a b = some r_) :
  CV Try.prog 223 #[gR_ a, gR_ b] w0 (fun v w' => v = .bool r_ ∧ ST w0 [] w' [] []) := by
 unfold F_laws_eqRing at hF
 refine cv_of_cw 25 Try.func223 rfl Try.ntmps223 rfl ?_
 refine cw_seq (cw_region ?_)
 refine sS 2 (Ys_box (T := 122) (v := gR_ a) (cs := kR_ a) (m := 4) hS rfl rfl rfl rfl) ?_
 rintro _ w_ ⟨b1, rfl, hS1⟩
 refine sS 3 (Ys_box (T := 122) (v := gR_ b) (cs := kR_ b) (m := 4) hS1 rfl rfl rfl rfl) ?_
 rintro _ w_1 ⟨b2, rfl, hS2⟩
 refine sQ 4 (Y_assign (v := .bool false) rfl rfl) (rw_nil (cw_seq (cw_seq (cw_region ?_))))
 refine sQ 5 (Y_fieldAddr (B := aD b1) (i := 0) (s := 0) k_fd_122_0_0_3 k_sz_3_1 rfl rfl) ?_
 refine sQ 6 (Y_load1 (B := aD b1) (i := 0) (cs := kR_ a) (v := vi a.A) k_sc_3 rfl rfl (hS2.cf (i := 0) rfl) rfl) ?_
 refine sQ 7 (Y_fieldAddr (B := aD b2) (i := 0) (s := 0) k_fd_122_0_0_3 k_sz_3_1 rfl rfl) ?_
 refine sQ 8 (Y_load1 (B := aD b2) (i := 0) (cs := kR_ b) (v := vi b.A) k_sc_3 rfl rfl (hS2.cf (i := 1) rfl) rfl) ?_
 refine sQ 9 (Y_ne (k := .i64) (a := a.A) (b := b.A) rfl rfl rfl) (rw_nil ?_)
 refine cw_cond (b := (a.A != b.A)) rfl (fun hb => ?_) (fun hb => ?_)
 ·skip
  have hF1 := ct hF hb
  refine cw_seq (cw_region ?_)
  refine sQ 4 (Y_assign (v := .bool false) rfl rfl) (rw_nil (cw_ret ?_))
  obtain rfl := some_inj hF1
  exact ret1 Try.results223 (v1 := .bool false) (resAt_tmp rfl) ⟨rfl, (hS2.sN [])⟩
 ·skip
  have hF2 := cf' hF hb
  refine cw_skip (cw_seq (cw_seq (cw_region ?_)))
  refine sQ 10 (Y_fieldAddr (B := aD b1) (i := 0) (s := 0) k_fd_122_1_1_3 k_sz_3_1 rfl rfl) ?_
  refine sQ 11 (Y_load1 (B := aD b1) (i := 1) (cs := kR_ a) (v := vi a.B) k_sc_3 rfl rfl (hS2.cf (i := 0) rfl) rfl) ?_
  refine sQ 12 (Y_fieldAddr (B := aD b2) (i := 0) (s := 0) k_fd_122_1_1_3 k_sz_3_1 rfl rfl) ?_
  refine sQ 13 (Y_load1 (B := aD b2) (i := 1) (cs := kR_ b) (v := vi b.B) k_sc_3 rfl rfl (hS2.cf (i := 1) rfl) rfl) ?_
  refine sQ 14 (Y_ne (k := .i64) (a := a.B) (b := b.B) rfl rfl rfl) (rw_nil ?_)
  refine cw_cond (b := (a.B != b.B)) rfl (fun hb1 => ?_) (fun hb1 => ?_)
  ·skip
   have hF3 := ct hF2 hb1
   refine cw_seq (cw_region ?_)
   refine sQ 4 (Y_assign (v := .bool false) rfl rfl) (rw_nil (cw_ret ?_))
   obtain rfl := some_inj hF3
   exact ret1 Try.results223 (v1 := .bool false) (resAt_tmp rfl) ⟨rfl, (hS2.sN [])⟩
  ·skip
   have hF4 := cf' hF2 hb1
   refine cw_skip (cw_seq (cw_seq (cw_region ?_)))
   refine sQ 15 (Y_fieldAddr (B := aD b1) (i := 0) (s := 0) k_fd_122_2_2_3 k_sz_3_1 rfl rfl) ?_
   refine sQ 16 (Y_load1 (B := aD b1) (i := 2) (cs := kR_ a) (v := vi a.C) k_sc_3 rfl rfl (hS2.cf (i := 0) rfl) rfl) ?_
   refine sQ 17 (Y_fieldAddr (B := aD b2) (i := 0) (s := 0) k_fd_122_2_2_3 k_sz_3_1 rfl rfl) ?_
   refine sQ 18 (Y_load1 (B := aD b2) (i := 2) (cs := kR_ b) (v := vi b.C) k_sc_3 rfl rfl (hS2.cf (i := 1) rfl) rfl) ?_
   refine sQ 19 (Y_ne (k := .i64) (a := a.C) (b := b.C) rfl rfl rfl) (rw_nil ?_)
   refine cw_cond (b := (a.C != b.C)) rfl (fun hb2 => ?_) (fun hb2 => ?_)
   ·skip
    have hF5 := ct hF4 hb2
    refine cw_seq (cw_region ?_)
    refine sQ 4 (Y_assign (v := .bool false) rfl rfl) (rw_nil (cw_ret ?_))
    obtain rfl := some_inj hF5
    exact ret1 Try.results223 (v1 := .bool false) (resAt_tmp rfl) ⟨rfl, (hS2.sN [])⟩
   ·skip
    have hF6 := cf' hF4 hb2
    refine cw_skip (cw_seq (cw_seq (cw_region ?_)))
    refine sQ 20 (Y_fieldAddr (B := aD b1) (i := 0) (s := 0) k_fd_122_3_3_3 k_sz_3_1 rfl rfl) ?_
    refine sQ 21 (Y_load1 (B := aD b1) (i := 3) (cs := kR_ a) (v := vi a.D) k_sc_3 rfl rfl (hS2.cf (i := 0) rfl) rfl) ?_
    refine sQ 22 (Y_fieldAddr (B := aD b2) (i := 0) (s := 0) k_fd_122_3_3_3 k_sz_3_1 rfl rfl) ?_
    refine sQ 23 (Y_load1 (B := aD b2) (i := 3) (cs := kR_ b) (v := vi b.D) k_sc_3 rfl rfl (hS2.cf (i := 1) rfl) rfl) ?_
    refine sQ 24 (Y_ne (k := .i64) (a := a.D) (b := b.D) rfl rfl rfl) (rw_nil ?_)
    refine cw_cond (b := (a.D != b.D)) rfl (fun hb3 => ?_) (fun hb3 => ?_)
    ·skip
     have hF7 := ct hF6 hb3
     refine cw_seq (cw_region ?_)
     refine sQ 4 (Y_assign (v := .bool false) rfl rfl) (rw_nil (cw_ret ?_))
     obtain rfl := some_inj hF7
     exact ret1 Try.results223 (v1 := .bool false) (resAt_tmp rfl) ⟨rfl, (hS2.sN [])⟩
    ·skip
     have hF8 := cf' hF6 hb3
     refine cw_skip (cw_seq (cw_region ?_))
     refine sQ 4 (Y_assign (v := .bool true) rfl rfl) (rw_nil (cw_ret ?_))
     obtain rfl := some_inj hF8
     exact ret1 Try.results223 (v1 := .bool true) (resAt_tmp rfl) ⟨rfl, (hS2.sN [])⟩

theorem c_laws_eqDyadic (a : TDyadic) (b : TDyadic)  (w0 : World)  (hS : ST w0 [] w0 [] []) {r_ : Bool} (hF : F_laws_eqDyadic a b = some r_) :
  CV Try.prog 163 #[gD_ a, gD_ b] w0 (fun v w' => v = .bool r_ ∧ ST w0 [] w' [] []) := by
 unfold F_laws_eqDyadic at hF
 refine cv_of_cw 16 Try.func163 rfl Try.ntmps163 rfl ?_
 refine cw_seq (cw_region ?_)
 refine sS 2 (Ys_box (T := 124) (v := gD_ a) (cs := kD_ a) (m := 5) hS rfl rfl rfl rfl) ?_
 rintro _ w_ ⟨b1, rfl, hS1⟩
 refine sS 3 (Ys_box (T := 124) (v := gD_ b) (cs := kD_ b) (m := 5) hS1 rfl rfl rfl rfl) ?_
 rintro _ w_1 ⟨b2, rfl, hS2⟩
 refine sQ 4 (Y_assign (v := .bool false) rfl rfl) (rw_nil (cw_seq (cw_seq (cw_region ?_))))
 refine sQ 5 (Y_fieldAddr (B := aD b1) (i := 0) (s := 3) k_fd_124_0_0_122 k_sz_122_4 rfl rfl) ?_
 refine sQ 6 (Y_loadA (B := aD b1) (i := 0) (cs := kD_ a) (vs := kR_ a.Num) k_ag_122 k_sz_122_4 rfl rfl (hS2.cf (i := 0) rfl) rfl rfl) ?_
 refine sQ 7 (Y_fieldAddr (B := aD b2) (i := 0) (s := 3) k_fd_124_0_0_122 k_sz_122_4 rfl rfl) ?_
 refine sQ 8 (Y_loadA (B := aD b2) (i := 0) (cs := kD_ b) (vs := kR_ b.Num) k_ag_122 k_sz_122_4 rfl rfl (hS2.cf (i := 1) rfl) rfl rfl) ?_
 obtain ⟨r_1, hc, hF⟩ := bind_inv hF
 refine sc 9 rfl rfl (Yc_func (g := 223) (vs := [gR_ a.Num, gR_ b.Num]) k_call_223 rfl (mc rfl (mc rfl mn)) (c_laws_eqRing a.Num b.Num _  (hS2.inn0 [] rfl) hc)) ?_
 rintro _ w_2 ⟨rfl, hd⟩
 have hS3 := hS2.out00 hd
 refine sQ 10 (Y_not (p := r_1) rfl rfl) (rw_nil ?_)
 refine cw_cond (b := (!r_1)) rfl (fun hb => ?_) (fun hb => ?_)
 ·skip
  have hF1 := ct hF hb
  refine cw_seq (cw_region ?_)
  refine sQ 4 (Y_assign (v := .bool false) rfl rfl) (rw_nil (cw_ret ?_))
  obtain rfl := some_inj hF1
  exact ret1 Try.results163 (v1 := .bool false) (resAt_tmp rfl) ⟨rfl, (hS3.sN [])⟩
 ·skip
  have hF2 := cf' hF hb
  refine cw_skip (cw_seq (cw_seq (cw_region ?_)))
  refine sQ 11 (Y_fieldAddr (B := aD b1) (i := 0) (s := 0) k_fd_124_1_4_3 k_sz_3_1 rfl rfl) ?_
  refine sQ 12 (Y_load1 (B := aD b1) (i := 4) (cs := kD_ a) (v := vi a.Exp) k_sc_3 rfl rfl (hS3.cf (i := 0) rfl) rfl) ?_
  refine sQ 13 (Y_fieldAddr (B := aD b2) (i := 0) (s := 0) k_fd_124_1_4_3 k_sz_3_1 rfl rfl) ?_
  refine sQ 14 (Y_load1 (B := aD b2) (i := 4) (cs := kD_ b) (v := vi b.Exp) k_sc_3 rfl rfl (hS3.cf (i := 1) rfl) rfl) ?_
  refine sQ 15 (Y_ne (k := .i64) (a := a.Exp) (b := b.Exp) rfl rfl rfl) (rw_nil ?_)
  refine cw_cond (b := (a.Exp != b.Exp)) rfl (fun hb1 => ?_) (fun hb1 => ?_)
  ·skip
   have hF3 := ct hF2 hb1
   refine cw_seq (cw_region ?_)
   refine sQ 4 (Y_assign (v := .bool false) rfl rfl) (rw_nil (cw_ret ?_))
   obtain rfl := some_inj hF3
   exact ret1 Try.results163 (v1 := .bool false) (resAt_tmp rfl) ⟨rfl, (hS3.sN [])⟩
  ·skip
   have hF4 := cf' hF2 hb1
   refine cw_skip (cw_seq (cw_region ?_))
   refine sQ 4 (Y_assign (v := .bool true) rfl rfl) (rw_nil (cw_ret ?_))
   obtain rfl := some_inj hF4
   exact ret1 Try.results163 (v1 := .bool true) (resAt_tmp rfl) ⟨rfl, (hS3.sN [])⟩

theorem c_laws_eqDyadicS (a : List TDyadic) (b : List TDyadic) (B : Option Addr) (c n : Nat) (B1 : Option Addr) (c1 n1 : Nat) (w0 : World) (hn : a.length = n) (hn1 : b.length = n1) (hS : ST w0 [] w0 [] [⟨B, (a.flatMap eN0)⟩, ⟨B1, (b.flatMap eN0)⟩]) {r_ : Bool} (hF : F_laws_eqDyadicS a b = some r_) :
  CV Try.prog 87 #[.slice B n c, .slice B1 n1 c1] w0 (fun v w' => v = .bool r_ ∧ ST w0 [] w' [] []) := by
 subst hn
 subst hn1
 unfold F_laws_eqDyadicS at hF
 refine cv_of_cw 27 Try.func87 rfl Try.ntmps87 rfl ?_
 refine cw_seq (cw_region ?_)
 refine sQ 4 (Y_assign (v := .bool false) rfl rfl) (rw_nil (cw_seq (cw_seq (cw_region ?_))))
 refine sQ 6 (Y_move (v := .slice B a.length c) rfl rfl) ?_
 refine sQ 7 (Y_len (B := B) (m := a.length) (c := c) k_sl_73_124 rfl rfl) ?_
 refine sQ 8 (Y_move (v := .slice B1 b.length c1) rfl rfl) ?_
 refine sQ 9 (Y_len (B := B1) (m := b.length) (c := c1) k_sl_73_124 rfl rfl) ?_
 refine sQ 10 (Y_ne (k := .i64) (a := (a.length : Int)) (b := (b.length : Int)) rfl rfl rfl) (rw_nil ?_)
 refine cw_cond (b := ((a.length : Int) != (b.length : Int))) rfl (fun hb => ?_) (fun hb => ?_)
 ·skip
  have hF1 := ct hF hb
  refine cw_seq (cw_region ?_)
  refine sQ 4 (Y_assign (v := .bool false) rfl rfl) (rw_nil (cw_ret ?_))
  obtain rfl := some_inj hF1
  exact ret1 Try.results87 (v1 := .bool false) (resAt_tmp rfl) ⟨rfl, (hS.sN [])⟩
 ·skip
  have hF2 := cf' hF hb
  refine cw_skip (cw_seq (cw_seq (cw_region ?_)))
  refine sQ 5 (Y_assign (v := vi 0) rfl rfl) (rw_nil ?_)
  obtain ⟨hN, hF2⟩ := chk_inv hF2
  obtain ⟨z, hz, hF3⟩ := bind_inv hF2
  refine cw_block ?_
  refine cw_loop (fun k f w => ∃ (i1 : Nat), FF f [(0, .slice B a.length c), (1, .slice B1 b.length c1), (5, vi (i1 : Int))] ∧ ST w0 [] w [] [⟨B, (a.flatMap eN0)⟩, ⟨B1, (b.flatMap eN0)⟩] ∧ i1 + k = a.length ∧ forX (F_laws_eqDyadicS_l1 a b) k i1 () = some z) a.length ⟨0, (FF.cons rfl (FF.cons rfl (FF.cons rfl FF.nil))), (hS.sel [] rfl rfl), Nat.zero_add _, hz⟩ ?_
  rintro k_ f w ⟨i1, hf, hS1, hik, hL⟩
  refine cw_seq (cw_seq (cw_region ?_))
  refine sQ 11 (Y_move (v := vi (i1 : Int)) rfl (hf.get 5 2 rfl)) ?_
  refine sQ 12 (Y_move (v := .slice B a.length c) rfl (hf.get 0 0 rfl)) ?_
  refine sQ 13 (Y_len (B := B) (m := a.length) (c := c) k_sl_73_124 rfl rfl) ?_
  refine sQ 14 (Y_lt (k := .i64) (a := (i1 : Int)) (b := (a.length : Int)) rfl rfl rfl) (rw_nil ?_)
  refine cw_cond (b := (decide ((i1 : Int) < (a.length : Int)))) rfl (fun hlt => ?_) (fun hlt => ?_)
  ·skip
   have hlt1 : i1 < a.length := by have h := of_decide_eq_true hlt; omega
   obtain ⟨k_1, rfl⟩ : ∃ k2, k_ = k2 + 1 := ⟨k_ - 1, by omega⟩
   obtain ⟨y, hb1, hL1⟩ := forX_go hL
   unfold F_laws_eqDyadicS_l1 at hb1
   refine cw_skip (cw_seq (cw_block (cw_seq ?_)))
   obtain ⟨x, hx, hb1⟩ := bind_inv hb1
   obtain ⟨x1, hx1, hb1⟩ := bind_inv hb1
   obtain ⟨r_1, hc, hb1⟩ := bind_inv hb1
   refine ra_start (hS1.se []).fn (by kernel_rfl) ?_
   have hS3 := hS1.drew
   refine rq 0 17 (v := .slice B a.length c) rfl (hS3.se []) (fun w' hw' => (Y_move (v := .slice B a.length c) rfl (hf.get 0 0 rfl))) ?_
   refine rq 1 18 (v := vi (i1 : Int)) rfl (hS3.se []) (fun w' hw' => (Y_move (v := vi (i1 : Int)) rfl (hf.get 5 2 rfl))) ?_
   refine rq 2 19 (v := pt B ((i1 : Int).toNat * 5)) rfl (hS3.se []) (fun w' hw' => (Y_index (B := B) (m := a.length) (c := c) (k := .i64) (i := (i1 : Int)) k_sl_73_124 k_sz_124_5 rfl rfl rfl (gi_isSome eN1 rfl (ST.rf hw' (i := 0) rfl) hx) (getI_nn hx) (getI_ltI hx rfl))) ?_
   refine rq 3 20 (v := gD_ x) rfl (hS3.se []) (fun w' hw' => (Y_loadA (B := B) (i := (i1 : Int).toNat * 5) (cs := (a.flatMap eN0)) (vs := kD_ x) k_ag_124 k_sz_124_5 rfl rfl (ST.rf hw' (i := 0) rfl) (eN1 x) (gi_seg eN1 hx))) ?_
   refine rq 4 21 (v := .slice B1 b.length c1) rfl (hS3.se []) (fun w' hw' => (Y_move (v := .slice B1 b.length c1) rfl (hf.get 1 1 rfl))) ?_
   refine rq 5 22 (v := vi (i1 : Int)) rfl (hS3.se []) (fun w' hw' => (Y_move (v := vi (i1 : Int)) rfl (hf.get 5 2 rfl))) ?_
   refine rq 6 23 (v := pt B1 ((i1 : Int).toNat * 5)) rfl (hS3.se []) (fun w' hw' => (Y_index (B := B1) (m := b.length) (c := c1) (k := .i64) (i := (i1 : Int)) k_sl_73_124 k_sz_124_5 rfl rfl rfl (gi_isSome eN1 rfl (ST.rf hw' (i := 1) rfl) hx1) (getI_nn hx1) (getI_ltI hx1 rfl))) ?_
   refine rq 7 24 (v := gD_ x1) rfl (hS3.se []) (fun w' hw' => (Y_loadA (B := B1) (i := (i1 : Int).toNat * 5) (cs := (b.flatMap eN0)) (vs := kD_ x1) k_ag_124 k_sz_124_5 rfl rfl (ST.rf hw' (i := 1) rfl) (eN1 x1) (gi_seg eN1 hx1))) ?_
   refine rA [8] ?_
   refine ra_c 25 (i := 8) rfl rfl rfl (Yc_func (g := 163) (vs := [gD_ x, gD_ x1]) k_call_163 rfl (mc rfl (mc rfl mn)) (c_laws_eqDyadic x x1 _  (hS3.inn0 [] rfl) hc)) ?_ ?_
   ·rintro _ w_ ⟨rfl, hd⟩
    have hS4 := hS3.out00 hd
    refine ⟨(hS4.se []), ?_⟩
    refine rq 9 26 (v := .bool (!r_1)) rfl (hS4.se []) (fun w' hw' => (Y_not (p := r_1) rfl rfl)) ?_
    refine ra_done (by kernel_rfl) ?_
    refine cw_cond (b := (!r_1)) rfl (fun hb2 => ?_) (fun hb2 => ?_)
    ·skip
     have hF4 := ct hb1 hb2
     refine cw_seq (cw_region ?_)
     refine sQ 4 (Y_assign (v := .bool false) rfl rfl) (rw_nil (cw_ret ?_))
     obtain rfl := some_inj hF4
     obtain rfl := some_inj hL1
     obtain rfl := some_inj hF3
     exact ret1 Try.results87 (v1 := .bool false) (resAt_tmp rfl) ⟨rfl, (hS4.sN [])⟩
    ·skip
     have hF5 := cf' hb1 hb2
     refine cw_skip (cw_region ?_)
     refine sQ 15 (Y_move (v := vi (i1 : Int)) rfl (hf.get 5 2 rfl)) ?_
     refine sQ 16 (Y_add (k := .i64) (a := (i1 : Int)) (b := 1) rfl rfl rfl) ?_
     refine sQ 5 (Y_assign (v := vi (i64.wrap ((i1 : Int) + 1))) rfl rfl) (rw_nil ?_)
     obtain rfl := some_inj hF5
     exact ⟨k_1, Nat.lt_succ_self _, i1 + 1, (FF.cons (hf.get 0 0 rfl) (FF.cons (hf.get 1 1 rfl) (FF.cons (congrArg (Value.int .i64) (wr_succ hlt1 hN)) FF.nil))), (hS4.sel [] rfl rfl), (by omega), hL1⟩
   exact allR_nil
  ·skip
   obtain rfl : k_ = 0 := by have h := of_decide_eq_false hlt; omega
   refine cw_exit rfl ?_
   obtain rfl := some_inj hL
   refine cw_seq (cw_region ?_)
   refine sQ 4 (Y_assign (v := .bool true) rfl rfl) (rw_nil (cw_ret ?_))
   obtain rfl := some_inj hF3
   exact ret1 Try.results87 (v1 := .bool true) (resAt_tmp rfl) ⟨rfl, (hS1.sN [])⟩

theorem c_laws_eqMatrix (a : TMatrix) (b : TMatrix) (B : Option Addr) (c n : Nat) (B1 : Option Addr) (c1 n1 : Nat) (w0 : World) (hn : a.Cells.length = n) (hn1 : b.Cells.length = n1) (hS : ST w0 [] w0 [] [⟨B, (a.Cells.flatMap eN0)⟩, ⟨B1, (b.Cells.flatMap eN0)⟩]) {r_ : Bool} (hF : F_laws_eqMatrix a b = some r_) :
  CV Try.prog 34 #[.agg #[vi a.Rows, vi a.Cols, .slice B n c], .agg #[vi b.Rows, vi b.Cols, .slice B1 n1 c1]] w0 (fun v w' => v = .bool r_ ∧ ST w0 [] w' [] []) := by
 subst hn
 subst hn1
 unfold F_laws_eqMatrix at hF
 refine cv_of_cw 21 Try.func34 rfl Try.ntmps34 rfl ?_
 refine cw_seq (cw_region ?_)
 refine sS 2 (Ys_box (T := 75) (v := gM_ a B c) (cs := kM_ a B c) (m := 3) hS rfl rfl rfl rfl) ?_
 rintro _ w_ ⟨b1, rfl, hS1⟩
 refine sS 3 (Ys_box (T := 75) (v := gM_ b B1 c1) (cs := kM_ b B1 c1) (m := 3) hS1 rfl rfl rfl rfl) ?_
 rintro _ w_1 ⟨b2, rfl, hS2⟩
 refine sQ 4 (Y_assign (v := .bool false) rfl rfl) (rw_nil (cw_seq (cw_seq (cw_region ?_))))
 refine sQ 5 (Y_fieldAddr (B := aD b1) (i := 0) (s := 0) k_fd_75_0_0_3 k_sz_3_1 rfl rfl) ?_
 refine sQ 6 (Y_load1 (B := aD b1) (i := 0) (cs := kM_ a B c) (v := vi a.Rows) k_sc_3 rfl rfl (hS2.cf (i := 0) rfl) rfl) ?_
 refine sQ 7 (Y_fieldAddr (B := aD b2) (i := 0) (s := 0) k_fd_75_0_0_3 k_sz_3_1 rfl rfl) ?_
 refine sQ 8 (Y_load1 (B := aD b2) (i := 0) (cs := kM_ b B1 c1) (v := vi b.Rows) k_sc_3 rfl rfl (hS2.cf (i := 1) rfl) rfl) ?_
 refine sQ 9 (Y_ne (k := .i64) (a := a.Rows) (b := b.Rows) rfl rfl rfl) (rw_nil ?_)
 refine cw_cond (b := (a.Rows != b.Rows)) rfl (fun hb => ?_) (fun hb => ?_)
 ·skip
  have hF1 := ct hF hb
  refine cw_seq (cw_region ?_)
  refine sQ 4 (Y_assign (v := .bool false) rfl rfl) (rw_nil (cw_ret ?_))
  obtain rfl := some_inj hF1
  exact ret1 Try.results34 (v1 := .bool false) (resAt_tmp rfl) ⟨rfl, (hS2.sN [])⟩
 ·skip
  have hF2 := cf' hF hb
  refine cw_skip (cw_seq (cw_seq (cw_region ?_)))
  refine sQ 10 (Y_fieldAddr (B := aD b1) (i := 0) (s := 0) k_fd_75_1_1_3 k_sz_3_1 rfl rfl) ?_
  refine sQ 11 (Y_load1 (B := aD b1) (i := 1) (cs := kM_ a B c) (v := vi a.Cols) k_sc_3 rfl rfl (hS2.cf (i := 0) rfl) rfl) ?_
  refine sQ 12 (Y_fieldAddr (B := aD b2) (i := 0) (s := 0) k_fd_75_1_1_3 k_sz_3_1 rfl rfl) ?_
  refine sQ 13 (Y_load1 (B := aD b2) (i := 1) (cs := kM_ b B1 c1) (v := vi b.Cols) k_sc_3 rfl rfl (hS2.cf (i := 1) rfl) rfl) ?_
  refine sQ 14 (Y_ne (k := .i64) (a := a.Cols) (b := b.Cols) rfl rfl rfl) (rw_nil ?_)
  refine cw_cond (b := (a.Cols != b.Cols)) rfl (fun hb1 => ?_) (fun hb1 => ?_)
  ·skip
   have hF3 := ct hF2 hb1
   refine cw_seq (cw_region ?_)
   refine sQ 4 (Y_assign (v := .bool false) rfl rfl) (rw_nil (cw_ret ?_))
   obtain rfl := some_inj hF3
   exact ret1 Try.results34 (v1 := .bool false) (resAt_tmp rfl) ⟨rfl, (hS2.sN [])⟩
  ·skip
   have hF4 := cf' hF2 hb1
   refine cw_skip (cw_seq (cw_seq (cw_region ?_)))
   refine sQ 15 (Y_fieldAddr (B := aD b1) (i := 0) (s := 0) k_fd_75_2_2_73 k_sz_73_1 rfl rfl) ?_
   refine sQ 16 (Y_load1 (B := aD b1) (i := 2) (cs := kM_ a B c) (v := .slice B a.Cells.length c) k_sc_73 rfl rfl (hS2.cf (i := 0) rfl) rfl) ?_
   refine sQ 17 (Y_fieldAddr (B := aD b2) (i := 0) (s := 0) k_fd_75_2_2_73 k_sz_73_1 rfl rfl) ?_
   refine sQ 18 (Y_load1 (B := aD b2) (i := 2) (cs := kM_ b B1 c1) (v := .slice B1 b.Cells.length c1) k_sc_73 rfl rfl (hS2.cf (i := 1) rfl) rfl) ?_
   obtain ⟨r_1, hc, hF4⟩ := bind_inv hF4
   refine sc 19 rfl rfl (Yc_func (g := 87) (vs := [.slice B a.Cells.length c, .slice B1 b.Cells.length c1]) k_call_87 rfl (mc rfl (mc rfl mn)) (c_laws_eqDyadicS a.Cells b.Cells B c a.Cells.length B1 c1 b.Cells.length _ rfl rfl (hS2.inn0 [(true, 0), (true, 1)] rfl) hc)) ?_
   rintro _ w_2 ⟨rfl, hd⟩
   have hS3 := hS2.out00 hd
   refine sQ 20 (Y_not (p := r_1) rfl rfl) (rw_nil ?_)
   refine cw_cond (b := (!r_1)) rfl (fun hb2 => ?_) (fun hb2 => ?_)
   ·skip
    have hF5 := ct hF4 hb2
    refine cw_seq (cw_region ?_)
    refine sQ 4 (Y_assign (v := .bool false) rfl rfl) (rw_nil (cw_ret ?_))
    obtain rfl := some_inj hF5
    exact ret1 Try.results34 (v1 := .bool false) (resAt_tmp rfl) ⟨rfl, (hS3.sN [])⟩
   ·skip
    have hF6 := cf' hF4 hb2
    refine cw_skip (cw_seq (cw_region ?_))
    refine sQ 4 (Y_assign (v := .bool true) rfl rfl) (rw_nil (cw_ret ?_))
    obtain rfl := some_inj hF6
    exact ret1 Try.results34 (v1 := .bool true) (resAt_tmp rfl) ⟨rfl, (hS3.sN [])⟩

theorem c_laws_markDyadicS (a : List TDyadic) (k_ : Int) (B : Option Addr) (c n : Nat) (w0 : World) (hn : a.length = n) (hS : ST w0 (bl [⟨B, 124, (a.flatMap eN0), c * 5⟩]) w0 [⟨B, 124, (a.flatMap eN0), c * 5⟩] []) {r_ : Int} {m : List TDyadic} (hF : F_laws_markDyadicS a k_ = some (r_, m)) :
  CV Try.prog 88 #[.slice B n c, vi k_] w0 (fun v w' => v = vi r_ ∧ m.length = n ∧ ST w0 (bl [⟨B, 124, (a.flatMap eN0), c * 5⟩]) w' [⟨B, 124, (m.flatMap eN0), c * 5⟩] []) := by
 subst hn
 unfold F_laws_markDyadicS at hF
 refine cv_of_cw 52 Try.func88 rfl Try.ntmps88 rfl ?_
 refine cw_seq (cw_region ?_)
 refine sQ 4 (Y_assign (v := vi 0) rfl rfl) (rw_nil (cw_seq (cw_seq (cw_region ?_))))
 refine sQ 5 (Y_assign (v := vi 0) rfl rfl) (rw_nil ?_)
 obtain ⟨hN, hF⟩ := chk_inv hF
 obtain ⟨z, hz, hF1⟩ := bind_inv hF
 refine cw_block ?_
 refine cw_loop (fun k f w => ∃ (i1 : Nat) (m1 : List TDyadic) (k_1 : Int), FF f [(0, .slice B a.length c), (1, vi k_1), (5, vi (i1 : Int))] ∧ m1.length = a.length ∧ ST w0 (bl [⟨B, 124, (a.flatMap eN0), c * 5⟩]) w [⟨B, 124, (m1.flatMap eN0), c * 5⟩] [] ∧ i1 + k = a.length ∧ forN F_laws_markDyadicS_l1 k i1 (m1, k_1) = some z) a.length ⟨0, a, k_, (FF.cons rfl (FF.cons rfl (FF.cons rfl FF.nil))), rfl, (hS.sel [0] rfl rfl), Nat.zero_add _, hz⟩ ?_
 rintro k_2 f w ⟨i1, m1, k_1, hf, hl, hS1, hik, hL⟩
 refine cw_seq (cw_seq (cw_region ?_))
 refine sQ 6 (Y_move (v := vi (i1 : Int)) rfl (hf.get 5 2 rfl)) ?_
 refine sQ 7 (Y_move (v := .slice B a.length c) rfl (hf.get 0 0 rfl)) ?_
 refine sQ 8 (Y_len (B := B) (m := a.length) (c := c) k_sl_73_124 rfl rfl) ?_
 refine sQ 9 (Y_lt (k := .i64) (a := (i1 : Int)) (b := (a.length : Int)) rfl rfl rfl) (rw_nil ?_)
 refine cw_cond (b := (decide ((i1 : Int) < (a.length : Int)))) rfl (fun hlt => ?_) (fun hlt => ?_)
 ·skip
  have hlt1 : i1 < a.length := by have h := of_decide_eq_true hlt; omega
  obtain ⟨k_3, rfl⟩ : ∃ k2, k_2 = k2 + 1 := ⟨k_2 - 1, by omega⟩
  obtain ⟨y, hb, hL1⟩ := forN_go hL
  unfold F_laws_markDyadicS_l1 at hb
  refine cw_skip (cw_seq (cw_block (cw_seq (cw_region ?_))))
  refine sQ 12 (Y_move (v := .slice B a.length c) rfl (hf.get 0 0 rfl)) ?_
  refine sQ 13 (Y_move (v := vi (i1 : Int)) rfl (hf.get 5 2 rfl)) ?_
  refine sQ 14 (Y_move (v := vi k_1) rfl (hf.get 1 1 rfl)) ?_
  obtain ⟨x, hx, hb⟩ := bind_inv hb
  refine sQ 15 (Y_index (B := B) (m := a.length) (c := c) (k := .i64) (i := (i1 : Int)) k_sl_73_124 k_sz_124_5 rfl rfl rfl (gi_isSome eN1 rfl (hS1.cf (i := 0) rfl) hx) (getI_nn hx) (getI_ltI hx hl)) ?_
  refine sQ 16 (Y_fieldAddr (B := B) (i := (i1 : Int).toNat * 5) (s := 3) k_fd_124_0_0_122 k_sz_122_4 rfl rfl) ?_
  refine sQ 17 (Y_fieldAddr2 (B := B) (i := (i1 : Int).toNat * 5) (e := 0) (l := 0) (s := 0) k_fd_122_0_0_3 k_sz_3_1 rfl rfl rfl) ?_
  refine s0 (Ys_store (i := 0) (s := 1) (B := B) (T' := 124) (v := vi k_1) (vs := [vi k_1]) (k := (i1 : Int).toNat * 5 + 0) (cs' := ((m1.set (i1 : Int).toNat (TDyadic.mk (TRing.mk k_1 x.Num.B x.Num.C x.Num.D) x.Exp)).flatMap eN0)) hS1 k_sz_3_1 rfl rfl rfl rfl rfl rfl rfl (gi_fit eN1 hx (j := 0) (k := 1) (by decide)) (gi_setf eN1 hx (TDyadic.mk (TRing.mk k_1 x.Num.B x.Num.C x.Num.D) x.Exp) rfl (lB rfl)) rfl) ?_
  rintro _ w_ ⟨rfl, hS2⟩
  refine rw_nil (cw_seq (cw_region ?_))
  refine sQ 18 (Y_move (v := vi k_1) rfl (hf.get 1 1 rfl)) ?_
  refine sQ 19 (Y_add (k := .i64) (a := k_1) (b := 1) rfl rfl rfl) ?_
  refine sQ 1 (Y_assign (v := vi (i64.wrap (k_1 + 1))) rfl rfl) (rw_nil (cw_seq (cw_region ?_)))
  refine sQ 20 (Y_move (v := .slice B a.length c) rfl (hf.get 0 0 rfl)) ?_
  refine sQ 21 (Y_move (v := vi (i1 : Int)) rfl (hf.get 5 2 rfl)) ?_
  refine sQ 22 (Y_move (v := vi (i64.wrap (k_1 + 1))) rfl rfl) ?_
  refine sQ 23 (Y_index (B := B) (m := a.length) (c := c) (k := .i64) (i := (i1 : Int)) k_sl_73_124 k_sz_124_5 rfl rfl rfl (gi_isSome eN1 rfl (hS2.cf (i := 0) rfl) (getI_set (y := (TDyadic.mk (TRing.mk k_1 x.Num.B x.Num.C x.Num.D) x.Exp)) hx)) (getI_nn (getI_set (y := (TDyadic.mk (TRing.mk k_1 x.Num.B x.Num.C x.Num.D) x.Exp)) hx)) (getI_ltI (getI_set (y := (TDyadic.mk (TRing.mk k_1 x.Num.B x.Num.C x.Num.D) x.Exp)) hx) (set_len _ _ _ hl))) ?_
  refine sQ 24 (Y_fieldAddr (B := B) (i := (i1 : Int).toNat * 5) (s := 3) k_fd_124_0_0_122 k_sz_122_4 rfl rfl) ?_
  refine sQ 25 (Y_fieldAddr2 (B := B) (i := (i1 : Int).toNat * 5) (e := 0) (l := 1) (s := 0) k_fd_122_1_1_3 k_sz_3_1 rfl rfl rfl) ?_
  refine s0 (Ys_store (i := 0) (s := 1) (B := B) (T' := 124) (v := vi (i64.wrap (k_1 + 1))) (vs := [vi (i64.wrap (k_1 + 1))]) (k := (i1 : Int).toNat * 5 + 1) (cs' := (((m1.set (i1 : Int).toNat (TDyadic.mk (TRing.mk k_1 x.Num.B x.Num.C x.Num.D) x.Exp)).set (i1 : Int).toNat (TDyadic.mk (TRing.mk k_1 (i64.wrap (k_1 + 1)) x.Num.C x.Num.D) x.Exp)).flatMap eN0)) hS2 k_sz_3_1 rfl rfl rfl rfl rfl rfl rfl (gi_fit eN1 (getI_set (y := (TDyadic.mk (TRing.mk k_1 x.Num.B x.Num.C x.Num.D) x.Exp)) hx) (j := 1) (k := 1) (by decide)) (gi_setf eN1 (getI_set (y := (TDyadic.mk (TRing.mk k_1 x.Num.B x.Num.C x.Num.D) x.Exp)) hx) (TDyadic.mk (TRing.mk k_1 (i64.wrap (k_1 + 1)) x.Num.C x.Num.D) x.Exp) rfl (lB rfl)) rfl) ?_
  rintro _ w_1 ⟨rfl, hS3⟩
  refine rw_nil (cw_seq (cw_region ?_))
  refine sQ 26 (Y_move (v := vi (i64.wrap (k_1 + 1))) rfl rfl) ?_
  refine sQ 27 (Y_add (k := .i64) (a := (i64.wrap (k_1 + 1))) (b := 1) rfl rfl rfl) ?_
  refine sQ 1 (Y_assign (v := vi (i64.wrap ((i64.wrap (k_1 + 1)) + 1))) rfl rfl) (rw_nil (cw_seq (cw_region ?_)))
  refine sQ 28 (Y_move (v := .slice B a.length c) rfl (hf.get 0 0 rfl)) ?_
  refine sQ 29 (Y_move (v := vi (i1 : Int)) rfl (hf.get 5 2 rfl)) ?_
  refine sQ 30 (Y_move (v := vi (i64.wrap ((i64.wrap (k_1 + 1)) + 1))) rfl rfl) ?_
  refine sQ 31 (Y_index (B := B) (m := a.length) (c := c) (k := .i64) (i := (i1 : Int)) k_sl_73_124 k_sz_124_5 rfl rfl rfl (gi_isSome eN1 rfl (hS3.cf (i := 0) rfl) (getI_set (y := (TDyadic.mk (TRing.mk k_1 (i64.wrap (k_1 + 1)) x.Num.C x.Num.D) x.Exp)) (getI_set (y := (TDyadic.mk (TRing.mk k_1 x.Num.B x.Num.C x.Num.D) x.Exp)) hx))) (getI_nn (getI_set (y := (TDyadic.mk (TRing.mk k_1 (i64.wrap (k_1 + 1)) x.Num.C x.Num.D) x.Exp)) (getI_set (y := (TDyadic.mk (TRing.mk k_1 x.Num.B x.Num.C x.Num.D) x.Exp)) hx))) (getI_ltI (getI_set (y := (TDyadic.mk (TRing.mk k_1 (i64.wrap (k_1 + 1)) x.Num.C x.Num.D) x.Exp)) (getI_set (y := (TDyadic.mk (TRing.mk k_1 x.Num.B x.Num.C x.Num.D) x.Exp)) hx)) (set_len _ _ _ (set_len _ _ _ hl)))) ?_
  refine sQ 32 (Y_fieldAddr (B := B) (i := (i1 : Int).toNat * 5) (s := 3) k_fd_124_0_0_122 k_sz_122_4 rfl rfl) ?_
  refine sQ 33 (Y_fieldAddr2 (B := B) (i := (i1 : Int).toNat * 5) (e := 0) (l := 2) (s := 0) k_fd_122_2_2_3 k_sz_3_1 rfl rfl rfl) ?_
  refine s0 (Ys_store (i := 0) (s := 1) (B := B) (T' := 124) (v := vi (i64.wrap ((i64.wrap (k_1 + 1)) + 1))) (vs := [vi (i64.wrap ((i64.wrap (k_1 + 1)) + 1))]) (k := (i1 : Int).toNat * 5 + 2) (cs' := ((((m1.set (i1 : Int).toNat (TDyadic.mk (TRing.mk k_1 x.Num.B x.Num.C x.Num.D) x.Exp)).set (i1 : Int).toNat (TDyadic.mk (TRing.mk k_1 (i64.wrap (k_1 + 1)) x.Num.C x.Num.D) x.Exp)).set (i1 : Int).toNat (TDyadic.mk (TRing.mk k_1 (i64.wrap (k_1 + 1)) (i64.wrap ((i64.wrap (k_1 + 1)) + 1)) x.Num.D) x.Exp)).flatMap eN0)) hS3 k_sz_3_1 rfl rfl rfl rfl rfl rfl rfl (gi_fit eN1 (getI_set (y := (TDyadic.mk (TRing.mk k_1 (i64.wrap (k_1 + 1)) x.Num.C x.Num.D) x.Exp)) (getI_set (y := (TDyadic.mk (TRing.mk k_1 x.Num.B x.Num.C x.Num.D) x.Exp)) hx)) (j := 2) (k := 1) (by decide)) (gi_setf eN1 (getI_set (y := (TDyadic.mk (TRing.mk k_1 (i64.wrap (k_1 + 1)) x.Num.C x.Num.D) x.Exp)) (getI_set (y := (TDyadic.mk (TRing.mk k_1 x.Num.B x.Num.C x.Num.D) x.Exp)) hx)) (TDyadic.mk (TRing.mk k_1 (i64.wrap (k_1 + 1)) (i64.wrap ((i64.wrap (k_1 + 1)) + 1)) x.Num.D) x.Exp) rfl (lB rfl)) rfl) ?_
  rintro _ w_2 ⟨rfl, hS4⟩
  refine rw_nil (cw_seq (cw_region ?_))
  refine sQ 34 (Y_move (v := vi (i64.wrap ((i64.wrap (k_1 + 1)) + 1))) rfl rfl) ?_
  refine sQ 35 (Y_add (k := .i64) (a := (i64.wrap ((i64.wrap (k_1 + 1)) + 1))) (b := 1) rfl rfl rfl) ?_
  refine sQ 1 (Y_assign (v := vi (i64.wrap ((i64.wrap ((i64.wrap (k_1 + 1)) + 1)) + 1))) rfl rfl) (rw_nil (cw_seq (cw_region ?_)))
  refine sQ 36 (Y_move (v := .slice B a.length c) rfl (hf.get 0 0 rfl)) ?_
  refine sQ 37 (Y_move (v := vi (i1 : Int)) rfl (hf.get 5 2 rfl)) ?_
  refine sQ 38 (Y_move (v := vi (i64.wrap ((i64.wrap ((i64.wrap (k_1 + 1)) + 1)) + 1))) rfl rfl) ?_
  refine sQ 39 (Y_index (B := B) (m := a.length) (c := c) (k := .i64) (i := (i1 : Int)) k_sl_73_124 k_sz_124_5 rfl rfl rfl (gi_isSome eN1 rfl (hS4.cf (i := 0) rfl) (getI_set (y := (TDyadic.mk (TRing.mk k_1 (i64.wrap (k_1 + 1)) (i64.wrap ((i64.wrap (k_1 + 1)) + 1)) x.Num.D) x.Exp)) (getI_set (y := (TDyadic.mk (TRing.mk k_1 (i64.wrap (k_1 + 1)) x.Num.C x.Num.D) x.Exp)) (getI_set (y := (TDyadic.mk (TRing.mk k_1 x.Num.B x.Num.C x.Num.D) x.Exp)) hx)))) (getI_nn (getI_set (y := (TDyadic.mk (TRing.mk k_1 (i64.wrap (k_1 + 1)) (i64.wrap ((i64.wrap (k_1 + 1)) + 1)) x.Num.D) x.Exp)) (getI_set (y := (TDyadic.mk (TRing.mk k_1 (i64.wrap (k_1 + 1)) x.Num.C x.Num.D) x.Exp)) (getI_set (y := (TDyadic.mk (TRing.mk k_1 x.Num.B x.Num.C x.Num.D) x.Exp)) hx)))) (getI_ltI (getI_set (y := (TDyadic.mk (TRing.mk k_1 (i64.wrap (k_1 + 1)) (i64.wrap ((i64.wrap (k_1 + 1)) + 1)) x.Num.D) x.Exp)) (getI_set (y := (TDyadic.mk (TRing.mk k_1 (i64.wrap (k_1 + 1)) x.Num.C x.Num.D) x.Exp)) (getI_set (y := (TDyadic.mk (TRing.mk k_1 x.Num.B x.Num.C x.Num.D) x.Exp)) hx))) (set_len _ _ _ (set_len _ _ _ (set_len _ _ _ hl))))) ?_
  refine sQ 40 (Y_fieldAddr (B := B) (i := (i1 : Int).toNat * 5) (s := 3) k_fd_124_0_0_122 k_sz_122_4 rfl rfl) ?_
  refine sQ 41 (Y_fieldAddr2 (B := B) (i := (i1 : Int).toNat * 5) (e := 0) (l := 3) (s := 0) k_fd_122_3_3_3 k_sz_3_1 rfl rfl rfl) ?_
  refine s0 (Ys_store (i := 0) (s := 1) (B := B) (T' := 124) (v := vi (i64.wrap ((i64.wrap ((i64.wrap (k_1 + 1)) + 1)) + 1))) (vs := [vi (i64.wrap ((i64.wrap ((i64.wrap (k_1 + 1)) + 1)) + 1))]) (k := (i1 : Int).toNat * 5 + 3) (cs' := (((((m1.set (i1 : Int).toNat (TDyadic.mk (TRing.mk k_1 x.Num.B x.Num.C x.Num.D) x.Exp)).set (i1 : Int).toNat (TDyadic.mk (TRing.mk k_1 (i64.wrap (k_1 + 1)) x.Num.C x.Num.D) x.Exp)).set (i1 : Int).toNat (TDyadic.mk (TRing.mk k_1 (i64.wrap (k_1 + 1)) (i64.wrap ((i64.wrap (k_1 + 1)) + 1)) x.Num.D) x.Exp)).set (i1 : Int).toNat (TDyadic.mk (TRing.mk k_1 (i64.wrap (k_1 + 1)) (i64.wrap ((i64.wrap (k_1 + 1)) + 1)) (i64.wrap ((i64.wrap ((i64.wrap (k_1 + 1)) + 1)) + 1))) x.Exp)).flatMap eN0)) hS4 k_sz_3_1 rfl rfl rfl rfl rfl rfl rfl (gi_fit eN1 (getI_set (y := (TDyadic.mk (TRing.mk k_1 (i64.wrap (k_1 + 1)) (i64.wrap ((i64.wrap (k_1 + 1)) + 1)) x.Num.D) x.Exp)) (getI_set (y := (TDyadic.mk (TRing.mk k_1 (i64.wrap (k_1 + 1)) x.Num.C x.Num.D) x.Exp)) (getI_set (y := (TDyadic.mk (TRing.mk k_1 x.Num.B x.Num.C x.Num.D) x.Exp)) hx))) (j := 3) (k := 1) (by decide)) (gi_setf eN1 (getI_set (y := (TDyadic.mk (TRing.mk k_1 (i64.wrap (k_1 + 1)) (i64.wrap ((i64.wrap (k_1 + 1)) + 1)) x.Num.D) x.Exp)) (getI_set (y := (TDyadic.mk (TRing.mk k_1 (i64.wrap (k_1 + 1)) x.Num.C x.Num.D) x.Exp)) (getI_set (y := (TDyadic.mk (TRing.mk k_1 x.Num.B x.Num.C x.Num.D) x.Exp)) hx))) (TDyadic.mk (TRing.mk k_1 (i64.wrap (k_1 + 1)) (i64.wrap ((i64.wrap (k_1 + 1)) + 1)) (i64.wrap ((i64.wrap ((i64.wrap (k_1 + 1)) + 1)) + 1))) x.Exp) rfl (lB rfl)) rfl) ?_
  rintro _ w_3 ⟨rfl, hS5⟩
  refine rw_nil (cw_seq (cw_region ?_))
  refine sQ 42 (Y_move (v := vi (i64.wrap ((i64.wrap ((i64.wrap (k_1 + 1)) + 1)) + 1))) rfl rfl) ?_
  refine sQ 43 (Y_add (k := .i64) (a := (i64.wrap ((i64.wrap ((i64.wrap (k_1 + 1)) + 1)) + 1))) (b := 1) rfl rfl rfl) ?_
  refine sQ 1 (Y_assign (v := vi (i64.wrap ((i64.wrap ((i64.wrap ((i64.wrap (k_1 + 1)) + 1)) + 1)) + 1))) rfl rfl) (rw_nil (cw_seq (cw_region ?_)))
  refine sQ 44 (Y_move (v := .slice B a.length c) rfl (hf.get 0 0 rfl)) ?_
  refine sQ 45 (Y_move (v := vi (i1 : Int)) rfl (hf.get 5 2 rfl)) ?_
  refine sQ 46 (Y_move (v := vi (i64.wrap ((i64.wrap ((i64.wrap ((i64.wrap (k_1 + 1)) + 1)) + 1)) + 1))) rfl rfl) ?_
  refine sQ 47 (Y_index (B := B) (m := a.length) (c := c) (k := .i64) (i := (i1 : Int)) k_sl_73_124 k_sz_124_5 rfl rfl rfl (gi_isSome eN1 rfl (hS5.cf (i := 0) rfl) (getI_set (y := (TDyadic.mk (TRing.mk k_1 (i64.wrap (k_1 + 1)) (i64.wrap ((i64.wrap (k_1 + 1)) + 1)) (i64.wrap ((i64.wrap ((i64.wrap (k_1 + 1)) + 1)) + 1))) x.Exp)) (getI_set (y := (TDyadic.mk (TRing.mk k_1 (i64.wrap (k_1 + 1)) (i64.wrap ((i64.wrap (k_1 + 1)) + 1)) x.Num.D) x.Exp)) (getI_set (y := (TDyadic.mk (TRing.mk k_1 (i64.wrap (k_1 + 1)) x.Num.C x.Num.D) x.Exp)) (getI_set (y := (TDyadic.mk (TRing.mk k_1 x.Num.B x.Num.C x.Num.D) x.Exp)) hx))))) (getI_nn (getI_set (y := (TDyadic.mk (TRing.mk k_1 (i64.wrap (k_1 + 1)) (i64.wrap ((i64.wrap (k_1 + 1)) + 1)) (i64.wrap ((i64.wrap ((i64.wrap (k_1 + 1)) + 1)) + 1))) x.Exp)) (getI_set (y := (TDyadic.mk (TRing.mk k_1 (i64.wrap (k_1 + 1)) (i64.wrap ((i64.wrap (k_1 + 1)) + 1)) x.Num.D) x.Exp)) (getI_set (y := (TDyadic.mk (TRing.mk k_1 (i64.wrap (k_1 + 1)) x.Num.C x.Num.D) x.Exp)) (getI_set (y := (TDyadic.mk (TRing.mk k_1 x.Num.B x.Num.C x.Num.D) x.Exp)) hx))))) (getI_ltI (getI_set (y := (TDyadic.mk (TRing.mk k_1 (i64.wrap (k_1 + 1)) (i64.wrap ((i64.wrap (k_1 + 1)) + 1)) (i64.wrap ((i64.wrap ((i64.wrap (k_1 + 1)) + 1)) + 1))) x.Exp)) (getI_set (y := (TDyadic.mk (TRing.mk k_1 (i64.wrap (k_1 + 1)) (i64.wrap ((i64.wrap (k_1 + 1)) + 1)) x.Num.D) x.Exp)) (getI_set (y := (TDyadic.mk (TRing.mk k_1 (i64.wrap (k_1 + 1)) x.Num.C x.Num.D) x.Exp)) (getI_set (y := (TDyadic.mk (TRing.mk k_1 x.Num.B x.Num.C x.Num.D) x.Exp)) hx)))) (set_len _ _ _ (set_len _ _ _ (set_len _ _ _ (set_len _ _ _ hl)))))) ?_
  refine sQ 48 (Y_fieldAddr (B := B) (i := (i1 : Int).toNat * 5) (s := 0) k_fd_124_1_4_3 k_sz_3_1 rfl rfl) ?_
  refine s0 (Ys_store (i := 0) (s := 1) (B := B) (T' := 124) (v := vi (i64.wrap ((i64.wrap ((i64.wrap ((i64.wrap (k_1 + 1)) + 1)) + 1)) + 1))) (vs := [vi (i64.wrap ((i64.wrap ((i64.wrap ((i64.wrap (k_1 + 1)) + 1)) + 1)) + 1))]) (k := (i1 : Int).toNat * 5 + 4) (cs' := ((((((m1.set (i1 : Int).toNat (TDyadic.mk (TRing.mk k_1 x.Num.B x.Num.C x.Num.D) x.Exp)).set (i1 : Int).toNat (TDyadic.mk (TRing.mk k_1 (i64.wrap (k_1 + 1)) x.Num.C x.Num.D) x.Exp)).set (i1 : Int).toNat (TDyadic.mk (TRing.mk k_1 (i64.wrap (k_1 + 1)) (i64.wrap ((i64.wrap (k_1 + 1)) + 1)) x.Num.D) x.Exp)).set (i1 : Int).toNat (TDyadic.mk (TRing.mk k_1 (i64.wrap (k_1 + 1)) (i64.wrap ((i64.wrap (k_1 + 1)) + 1)) (i64.wrap ((i64.wrap ((i64.wrap (k_1 + 1)) + 1)) + 1))) x.Exp)).set (i1 : Int).toNat (TDyadic.mk (TRing.mk k_1 (i64.wrap (k_1 + 1)) (i64.wrap ((i64.wrap (k_1 + 1)) + 1)) (i64.wrap ((i64.wrap ((i64.wrap (k_1 + 1)) + 1)) + 1))) (i64.wrap ((i64.wrap ((i64.wrap ((i64.wrap (k_1 + 1)) + 1)) + 1)) + 1)))).flatMap eN0)) hS5 k_sz_3_1 rfl rfl rfl rfl rfl rfl rfl (gi_fit eN1 (getI_set (y := (TDyadic.mk (TRing.mk k_1 (i64.wrap (k_1 + 1)) (i64.wrap ((i64.wrap (k_1 + 1)) + 1)) (i64.wrap ((i64.wrap ((i64.wrap (k_1 + 1)) + 1)) + 1))) x.Exp)) (getI_set (y := (TDyadic.mk (TRing.mk k_1 (i64.wrap (k_1 + 1)) (i64.wrap ((i64.wrap (k_1 + 1)) + 1)) x.Num.D) x.Exp)) (getI_set (y := (TDyadic.mk (TRing.mk k_1 (i64.wrap (k_1 + 1)) x.Num.C x.Num.D) x.Exp)) (getI_set (y := (TDyadic.mk (TRing.mk k_1 x.Num.B x.Num.C x.Num.D) x.Exp)) hx)))) (j := 4) (k := 1) (by decide)) (gi_setf eN1 (getI_set (y := (TDyadic.mk (TRing.mk k_1 (i64.wrap (k_1 + 1)) (i64.wrap ((i64.wrap (k_1 + 1)) + 1)) (i64.wrap ((i64.wrap ((i64.wrap (k_1 + 1)) + 1)) + 1))) x.Exp)) (getI_set (y := (TDyadic.mk (TRing.mk k_1 (i64.wrap (k_1 + 1)) (i64.wrap ((i64.wrap (k_1 + 1)) + 1)) x.Num.D) x.Exp)) (getI_set (y := (TDyadic.mk (TRing.mk k_1 (i64.wrap (k_1 + 1)) x.Num.C x.Num.D) x.Exp)) (getI_set (y := (TDyadic.mk (TRing.mk k_1 x.Num.B x.Num.C x.Num.D) x.Exp)) hx)))) (TDyadic.mk (TRing.mk k_1 (i64.wrap (k_1 + 1)) (i64.wrap ((i64.wrap (k_1 + 1)) + 1)) (i64.wrap ((i64.wrap ((i64.wrap (k_1 + 1)) + 1)) + 1))) (i64.wrap ((i64.wrap ((i64.wrap ((i64.wrap (k_1 + 1)) + 1)) + 1)) + 1))) rfl (lB rfl)) rfl) ?_
  rintro _ w_4 ⟨rfl, hS6⟩
  refine rw_nil (cw_region ?_)
  refine sQ 49 (Y_move (v := vi (i64.wrap ((i64.wrap ((i64.wrap ((i64.wrap (k_1 + 1)) + 1)) + 1)) + 1))) rfl rfl) ?_
  refine sQ 50 (Y_add (k := .i64) (a := (i64.wrap ((i64.wrap ((i64.wrap ((i64.wrap (k_1 + 1)) + 1)) + 1)) + 1))) (b := 1) rfl rfl rfl) ?_
  refine sQ 1 (Y_assign (v := vi (i64.wrap ((i64.wrap ((i64.wrap ((i64.wrap ((i64.wrap (k_1 + 1)) + 1)) + 1)) + 1)) + 1))) rfl rfl) (rw_nil (cw_region ?_))
  refine sQ 10 (Y_move (v := vi (i1 : Int)) rfl (hf.get 5 2 rfl)) ?_
  refine sQ 11 (Y_add (k := .i64) (a := (i1 : Int)) (b := 1) rfl rfl rfl) ?_
  refine sQ 5 (Y_assign (v := vi (i64.wrap ((i1 : Int) + 1))) rfl rfl) (rw_nil ?_)
  obtain rfl := some_inj hb
  exact ⟨k_3, Nat.lt_succ_self _, i1 + 1, (((((m1.set (i1 : Int).toNat (TDyadic.mk (TRing.mk k_1 x.Num.B x.Num.C x.Num.D) x.Exp)).set (i1 : Int).toNat (TDyadic.mk (TRing.mk k_1 (i64.wrap (k_1 + 1)) x.Num.C x.Num.D) x.Exp)).set (i1 : Int).toNat (TDyadic.mk (TRing.mk k_1 (i64.wrap (k_1 + 1)) (i64.wrap ((i64.wrap (k_1 + 1)) + 1)) x.Num.D) x.Exp)).set (i1 : Int).toNat (TDyadic.mk (TRing.mk k_1 (i64.wrap (k_1 + 1)) (i64.wrap ((i64.wrap (k_1 + 1)) + 1)) (i64.wrap ((i64.wrap ((i64.wrap (k_1 + 1)) + 1)) + 1))) x.Exp)).set (i1 : Int).toNat (TDyadic.mk (TRing.mk k_1 (i64.wrap (k_1 + 1)) (i64.wrap ((i64.wrap (k_1 + 1)) + 1)) (i64.wrap ((i64.wrap ((i64.wrap (k_1 + 1)) + 1)) + 1))) (i64.wrap ((i64.wrap ((i64.wrap ((i64.wrap (k_1 + 1)) + 1)) + 1)) + 1)))), (i64.wrap ((i64.wrap ((i64.wrap ((i64.wrap ((i64.wrap (k_1 + 1)) + 1)) + 1)) + 1)) + 1)), (FF.cons (hf.get 0 0 rfl) (FF.cons rfl (FF.cons (congrArg (Value.int .i64) (wr_succ hlt1 hN)) FF.nil))), (set_len _ _ _ (set_len _ _ _ (set_len _ _ _ (set_len _ _ _ (set_len _ _ _ hl))))), (hS6.sel [0] rfl rfl), (by omega), hL1⟩
 ·skip
  obtain rfl : k_2 = 0 := by have h := of_decide_eq_false hlt; omega
  refine cw_exit rfl ?_
  obtain rfl := some_inj hL
  refine cw_seq (cw_region ?_)
  refine sQ 51 (Y_move (v := vi k_1) rfl (hf.get 1 1 rfl)) ?_
  refine sQ 4 (Y_assign (v := vi k_1) rfl rfl) (rw_nil (cw_ret ?_))
  obtain ⟨rfl, rfl⟩ := pr2 (some_inj hF1)
  exact ret1 Try.results88 (v1 := vi k_1) (resAt_tmp rfl) ⟨rfl, hl, (hS1.sN [0])⟩

theorem c_laws_markMatrix (a : TMatrix) (k_ : Int) (B : Option Addr) (c n : Nat) (w0 : World) (hn : a.Cells.length = n) (hS : ST w0 (bl [⟨B, 124, (a.Cells.flatMap eN0), c * 5⟩]) w0 [⟨B, 124, (a.Cells.flatMap eN0), c * 5⟩] []) {r_ : Int} {m : List TDyadic} (hF : F_laws_markMatrix a k_ = some (r_, m)) :
  CV Try.prog 35 #[.agg #[vi a.Rows, vi a.Cols, .slice B n c], vi k_] w0 (fun v w' => v = vi r_ ∧ m.length = n ∧ ST w0 (bl [⟨B, 124, (a.Cells.flatMap eN0), c * 5⟩]) w' [⟨B, 124, (m.flatMap eN0), c * 5⟩] []) := by
 subst hn
 unfold F_laws_markMatrix at hF
 refine cv_of_cw 10 Try.func35 rfl Try.ntmps35 rfl ?_
 refine cw_seq (cw_region ?_)
 refine sS 2 (Ys_box (T := 75) (v := gM_ a B c) (cs := kM_ a B c) (m := 3) hS rfl rfl rfl rfl) ?_
 rintro _ w_ ⟨b, rfl, hS1⟩
 refine sQ 4 (Y_assign (v := vi 0) rfl rfl) (rw_nil (cw_seq (cw_region ?_)))
 refine sQ 5 (Y_fieldAddr (B := aD b) (i := 0) (s := 0) k_fd_75_2_2_73 k_sz_73_1 rfl rfl) ?_
 refine sQ 6 (Y_load1 (B := aD b) (i := 2) (cs := kM_ a B c) (v := .slice B a.Cells.length c) k_sc_73 rfl rfl (hS1.cf (i := 1) rfl) rfl) ?_
 refine sQ 7 (Y_move (v := vi k_) rfl rfl) ?_
 obtain ⟨⟨r_1, m1⟩, hc, hF⟩ := bind_inv hF
 refine sc 8 rfl rfl (Yc_func (g := 88) (vs := [.slice B a.Cells.length c, vi k_]) k_call_88 rfl (mc rfl (mc rfl mn)) (c_laws_markDyadicS a.Cells k_ B c a.Cells.length _ rfl (hS1.inn [true, false] rfl [] rfl) hc)) ?_
 rintro _ w_1 ⟨rfl, hl, hd⟩
 have hS2 := hS1.out [true, false] rfl hd
 refine sQ 1 (Y_assign (v := vi r_1) rfl rfl) (rw_nil (cw_seq (cw_region ?_)))
 refine sQ 9 (Y_move (v := vi r_1) rfl rfl) ?_
 refine sQ 4 (Y_assign (v := vi r_1) rfl rfl) (rw_nil (cw_ret ?_))
 obtain ⟨rfl, rfl⟩ := pr2 (some_inj hF)
 exact ret1 Try.results35 (v1 := vi r_1) (resAt_tmp rfl) ⟨rfl, hl, (hS2.sN [1])⟩

theorem c_laws_markTwoLevelS (a : List TTwoLevel) (k_ : Int) (B : Option Addr) (c n : Nat) (w0 : World) (hn : a.length = n) (hS : ST w0 (bl [⟨B, 133, (a.flatMap eN2), c * 4⟩]) w0 [⟨B, 133, (a.flatMap eN2), c * 4⟩] []) {r_ : Int} {m : List TTwoLevel} (hF : F_laws_markTwoLevelS a k_ = some (r_, m)) :
  CV Try.prog 36 #[.slice B n c, vi k_] w0 (fun v w' => v = vi r_ ∧ m.length = n ∧ ST w0 (bl [⟨B, 133, (a.flatMap eN2), c * 4⟩]) w' [⟨B, 133, (m.flatMap eN2), c * 4⟩] []) := by
 subst hn
 unfold F_laws_markTwoLevelS at hF
 refine cv_of_cw 41 Try.func36 rfl Try.ntmps36 rfl ?_
 refine cw_seq (cw_region ?_)
 refine sQ 4 (Y_assign (v := vi 0) rfl rfl) (rw_nil (cw_seq (cw_seq (cw_region ?_))))
 refine sQ 5 (Y_assign (v := vi 0) rfl rfl) (rw_nil ?_)
 obtain ⟨hN, hF⟩ := chk_inv hF
 obtain ⟨z, hz, hF1⟩ := bind_inv hF
 refine cw_block ?_
 refine cw_loop (fun k f w => ∃ (i1 : Nat) (m1 : List TTwoLevel) (k_1 : Int), FF f [(0, .slice B a.length c), (1, vi k_1), (5, vi (i1 : Int))] ∧ m1.length = a.length ∧ ST w0 (bl [⟨B, 133, (a.flatMap eN2), c * 4⟩]) w [⟨B, 133, (m1.flatMap eN2), c * 4⟩] [] ∧ i1 + k = a.length ∧ forN F_laws_markTwoLevelS_l1 k i1 (m1, k_1) = some z) a.length ⟨0, a, k_, (FF.cons rfl (FF.cons rfl (FF.cons rfl FF.nil))), rfl, (hS.sel [0] rfl rfl), Nat.zero_add _, hz⟩ ?_
 rintro k_2 f w ⟨i1, m1, k_1, hf, hl, hS1, hik, hL⟩
 refine cw_seq (cw_seq (cw_region ?_))
 refine sQ 6 (Y_move (v := vi (i1 : Int)) rfl (hf.get 5 2 rfl)) ?_
 refine sQ 7 (Y_move (v := .slice B a.length c) rfl (hf.get 0 0 rfl)) ?_
 refine sQ 8 (Y_len (B := B) (m := a.length) (c := c) k_sl_70_133 rfl rfl) ?_
 refine sQ 9 (Y_lt (k := .i64) (a := (i1 : Int)) (b := (a.length : Int)) rfl rfl rfl) (rw_nil ?_)
 refine cw_cond (b := (decide ((i1 : Int) < (a.length : Int)))) rfl (fun hlt => ?_) (fun hlt => ?_)
 ·skip
  have hlt1 : i1 < a.length := by have h := of_decide_eq_true hlt; omega
  obtain ⟨k_3, rfl⟩ : ∃ k2, k_2 = k2 + 1 := ⟨k_2 - 1, by omega⟩
  obtain ⟨y, hb, hL1⟩ := forN_go hL
  unfold F_laws_markTwoLevelS_l1 at hb
  refine cw_skip (cw_seq (cw_block (cw_seq (cw_region ?_))))
  refine sQ 12 (Y_move (v := .slice B a.length c) rfl (hf.get 0 0 rfl)) ?_
  refine sQ 13 (Y_move (v := vi (i1 : Int)) rfl (hf.get 5 2 rfl)) ?_
  refine sQ 14 (Y_move (v := vi k_1) rfl (hf.get 1 1 rfl)) ?_
  obtain ⟨x, hx, hb⟩ := bind_inv hb
  refine sQ 15 (Y_index (B := B) (m := a.length) (c := c) (k := .i64) (i := (i1 : Int)) k_sl_70_133 k_sz_133_4 rfl rfl rfl (gi_isSome enc_TwoLevel_len rfl (hS1.cf (i := 0) rfl) hx) (getI_nn hx) (getI_ltI hx hl)) ?_
  refine sQ 16 (Y_fieldAddr (B := B) (i := (i1 : Int).toNat * 4) (s := 0) k_fd_133_0_0_3 k_sz_3_1 rfl rfl) ?_
  refine s0 (Ys_store (i := 0) (s := 1) (B := B) (T' := 133) (v := vi k_1) (vs := [vi k_1]) (k := (i1 : Int).toNat * 4 + 0) (cs' := ((m1.set (i1 : Int).toNat (TTwoLevel.mk k_1 x.I x.J x.M_)).flatMap eN2)) hS1 k_sz_3_1 rfl rfl rfl rfl rfl rfl rfl (gi_fit enc_TwoLevel_len hx (j := 0) (k := 1) (by decide)) (gi_setf enc_TwoLevel_len hx (TTwoLevel.mk k_1 x.I x.J x.M_) rfl (lB rfl)) rfl) ?_
  rintro _ w_ ⟨rfl, hS2⟩
  refine rw_nil (cw_seq (cw_region ?_))
  refine sQ 17 (Y_move (v := vi k_1) rfl (hf.get 1 1 rfl)) ?_
  refine sQ 18 (Y_add (k := .i64) (a := k_1) (b := 1) rfl rfl rfl) ?_
  refine sQ 1 (Y_assign (v := vi (i64.wrap (k_1 + 1))) rfl rfl) (rw_nil (cw_seq (cw_region ?_)))
  refine sQ 19 (Y_move (v := .slice B a.length c) rfl (hf.get 0 0 rfl)) ?_
  refine sQ 20 (Y_move (v := vi (i1 : Int)) rfl (hf.get 5 2 rfl)) ?_
  refine sQ 21 (Y_move (v := vi (i64.wrap (k_1 + 1))) rfl rfl) ?_
  refine sQ 22 (Y_index (B := B) (m := a.length) (c := c) (k := .i64) (i := (i1 : Int)) k_sl_70_133 k_sz_133_4 rfl rfl rfl (gi_isSome enc_TwoLevel_len rfl (hS2.cf (i := 0) rfl) (getI_set (y := (TTwoLevel.mk k_1 x.I x.J x.M_)) hx)) (getI_nn (getI_set (y := (TTwoLevel.mk k_1 x.I x.J x.M_)) hx)) (getI_ltI (getI_set (y := (TTwoLevel.mk k_1 x.I x.J x.M_)) hx) (set_len _ _ _ hl))) ?_
  refine sQ 23 (Y_fieldAddr (B := B) (i := (i1 : Int).toNat * 4) (s := 0) k_fd_133_1_1_3 k_sz_3_1 rfl rfl) ?_
  refine s0 (Ys_store (i := 0) (s := 1) (B := B) (T' := 133) (v := vi (i64.wrap (k_1 + 1))) (vs := [vi (i64.wrap (k_1 + 1))]) (k := (i1 : Int).toNat * 4 + 1) (cs' := (((m1.set (i1 : Int).toNat (TTwoLevel.mk k_1 x.I x.J x.M_)).set (i1 : Int).toNat (TTwoLevel.mk k_1 (i64.wrap (k_1 + 1)) x.J x.M_)).flatMap eN2)) hS2 k_sz_3_1 rfl rfl rfl rfl rfl rfl rfl (gi_fit enc_TwoLevel_len (getI_set (y := (TTwoLevel.mk k_1 x.I x.J x.M_)) hx) (j := 1) (k := 1) (by decide)) (gi_setf enc_TwoLevel_len (getI_set (y := (TTwoLevel.mk k_1 x.I x.J x.M_)) hx) (TTwoLevel.mk k_1 (i64.wrap (k_1 + 1)) x.J x.M_) rfl (lB rfl)) rfl) ?_
  rintro _ w_1 ⟨rfl, hS3⟩
  refine rw_nil (cw_seq (cw_region ?_))
  refine sQ 24 (Y_move (v := vi (i64.wrap (k_1 + 1))) rfl rfl) ?_
  refine sQ 25 (Y_add (k := .i64) (a := (i64.wrap (k_1 + 1))) (b := 1) rfl rfl rfl) ?_
  refine sQ 1 (Y_assign (v := vi (i64.wrap ((i64.wrap (k_1 + 1)) + 1))) rfl rfl) (rw_nil (cw_seq (cw_region ?_)))
  refine sQ 26 (Y_move (v := .slice B a.length c) rfl (hf.get 0 0 rfl)) ?_
  refine sQ 27 (Y_move (v := vi (i1 : Int)) rfl (hf.get 5 2 rfl)) ?_
  refine sQ 28 (Y_move (v := vi (i64.wrap ((i64.wrap (k_1 + 1)) + 1))) rfl rfl) ?_
  refine sQ 29 (Y_index (B := B) (m := a.length) (c := c) (k := .i64) (i := (i1 : Int)) k_sl_70_133 k_sz_133_4 rfl rfl rfl (gi_isSome enc_TwoLevel_len rfl (hS3.cf (i := 0) rfl) (getI_set (y := (TTwoLevel.mk k_1 (i64.wrap (k_1 + 1)) x.J x.M_)) (getI_set (y := (TTwoLevel.mk k_1 x.I x.J x.M_)) hx))) (getI_nn (getI_set (y := (TTwoLevel.mk k_1 (i64.wrap (k_1 + 1)) x.J x.M_)) (getI_set (y := (TTwoLevel.mk k_1 x.I x.J x.M_)) hx))) (getI_ltI (getI_set (y := (TTwoLevel.mk k_1 (i64.wrap (k_1 + 1)) x.J x.M_)) (getI_set (y := (TTwoLevel.mk k_1 x.I x.J x.M_)) hx)) (set_len _ _ _ (set_len _ _ _ hl)))) ?_
  refine sQ 30 (Y_fieldAddr (B := B) (i := (i1 : Int).toNat * 4) (s := 0) k_fd_133_2_2_3 k_sz_3_1 rfl rfl) ?_
  refine s0 (Ys_store (i := 0) (s := 1) (B := B) (T' := 133) (v := vi (i64.wrap ((i64.wrap (k_1 + 1)) + 1))) (vs := [vi (i64.wrap ((i64.wrap (k_1 + 1)) + 1))]) (k := (i1 : Int).toNat * 4 + 2) (cs' := ((((m1.set (i1 : Int).toNat (TTwoLevel.mk k_1 x.I x.J x.M_)).set (i1 : Int).toNat (TTwoLevel.mk k_1 (i64.wrap (k_1 + 1)) x.J x.M_)).set (i1 : Int).toNat (TTwoLevel.mk k_1 (i64.wrap (k_1 + 1)) (i64.wrap ((i64.wrap (k_1 + 1)) + 1)) x.M_)).flatMap eN2)) hS3 k_sz_3_1 rfl rfl rfl rfl rfl rfl rfl (gi_fit enc_TwoLevel_len (getI_set (y := (TTwoLevel.mk k_1 (i64.wrap (k_1 + 1)) x.J x.M_)) (getI_set (y := (TTwoLevel.mk k_1 x.I x.J x.M_)) hx)) (j := 2) (k := 1) (by decide)) (gi_setf enc_TwoLevel_len (getI_set (y := (TTwoLevel.mk k_1 (i64.wrap (k_1 + 1)) x.J x.M_)) (getI_set (y := (TTwoLevel.mk k_1 x.I x.J x.M_)) hx)) (TTwoLevel.mk k_1 (i64.wrap (k_1 + 1)) (i64.wrap ((i64.wrap (k_1 + 1)) + 1)) x.M_) rfl (lB rfl)) rfl) ?_
  rintro _ w_2 ⟨rfl, hS4⟩
  refine rw_nil (cw_seq (cw_region ?_))
  refine sQ 31 (Y_move (v := vi (i64.wrap ((i64.wrap (k_1 + 1)) + 1))) rfl rfl) ?_
  refine sQ 32 (Y_add (k := .i64) (a := (i64.wrap ((i64.wrap (k_1 + 1)) + 1))) (b := 1) rfl rfl rfl) ?_
  refine sQ 1 (Y_assign (v := vi (i64.wrap ((i64.wrap ((i64.wrap (k_1 + 1)) + 1)) + 1))) rfl rfl) (rw_nil (cw_seq (cw_region ?_)))
  refine sQ 33 (Y_move (v := .slice B a.length c) rfl (hf.get 0 0 rfl)) ?_
  refine sQ 34 (Y_move (v := vi (i1 : Int)) rfl (hf.get 5 2 rfl)) ?_
  refine sQ 35 (Y_move (v := vi (i64.wrap ((i64.wrap ((i64.wrap (k_1 + 1)) + 1)) + 1))) rfl rfl) ?_
  refine sQ 36 (Y_index (B := B) (m := a.length) (c := c) (k := .i64) (i := (i1 : Int)) k_sl_70_133 k_sz_133_4 rfl rfl rfl (gi_isSome enc_TwoLevel_len rfl (hS4.cf (i := 0) rfl) (getI_set (y := (TTwoLevel.mk k_1 (i64.wrap (k_1 + 1)) (i64.wrap ((i64.wrap (k_1 + 1)) + 1)) x.M_)) (getI_set (y := (TTwoLevel.mk k_1 (i64.wrap (k_1 + 1)) x.J x.M_)) (getI_set (y := (TTwoLevel.mk k_1 x.I x.J x.M_)) hx)))) (getI_nn (getI_set (y := (TTwoLevel.mk k_1 (i64.wrap (k_1 + 1)) (i64.wrap ((i64.wrap (k_1 + 1)) + 1)) x.M_)) (getI_set (y := (TTwoLevel.mk k_1 (i64.wrap (k_1 + 1)) x.J x.M_)) (getI_set (y := (TTwoLevel.mk k_1 x.I x.J x.M_)) hx)))) (getI_ltI (getI_set (y := (TTwoLevel.mk k_1 (i64.wrap (k_1 + 1)) (i64.wrap ((i64.wrap (k_1 + 1)) + 1)) x.M_)) (getI_set (y := (TTwoLevel.mk k_1 (i64.wrap (k_1 + 1)) x.J x.M_)) (getI_set (y := (TTwoLevel.mk k_1 x.I x.J x.M_)) hx))) (set_len _ _ _ (set_len _ _ _ (set_len _ _ _ hl))))) ?_
  refine sQ 37 (Y_fieldAddr (B := B) (i := (i1 : Int).toNat * 4) (s := 0) k_fd_133_3_3_3 k_sz_3_1 rfl rfl) ?_
  refine s0 (Ys_store (i := 0) (s := 1) (B := B) (T' := 133) (v := vi (i64.wrap ((i64.wrap ((i64.wrap (k_1 + 1)) + 1)) + 1))) (vs := [vi (i64.wrap ((i64.wrap ((i64.wrap (k_1 + 1)) + 1)) + 1))]) (k := (i1 : Int).toNat * 4 + 3) (cs' := (((((m1.set (i1 : Int).toNat (TTwoLevel.mk k_1 x.I x.J x.M_)).set (i1 : Int).toNat (TTwoLevel.mk k_1 (i64.wrap (k_1 + 1)) x.J x.M_)).set (i1 : Int).toNat (TTwoLevel.mk k_1 (i64.wrap (k_1 + 1)) (i64.wrap ((i64.wrap (k_1 + 1)) + 1)) x.M_)).set (i1 : Int).toNat (TTwoLevel.mk k_1 (i64.wrap (k_1 + 1)) (i64.wrap ((i64.wrap (k_1 + 1)) + 1)) (i64.wrap ((i64.wrap ((i64.wrap (k_1 + 1)) + 1)) + 1)))).flatMap eN2)) hS4 k_sz_3_1 rfl rfl rfl rfl rfl rfl rfl (gi_fit enc_TwoLevel_len (getI_set (y := (TTwoLevel.mk k_1 (i64.wrap (k_1 + 1)) (i64.wrap ((i64.wrap (k_1 + 1)) + 1)) x.M_)) (getI_set (y := (TTwoLevel.mk k_1 (i64.wrap (k_1 + 1)) x.J x.M_)) (getI_set (y := (TTwoLevel.mk k_1 x.I x.J x.M_)) hx))) (j := 3) (k := 1) (by decide)) (gi_setf enc_TwoLevel_len (getI_set (y := (TTwoLevel.mk k_1 (i64.wrap (k_1 + 1)) (i64.wrap ((i64.wrap (k_1 + 1)) + 1)) x.M_)) (getI_set (y := (TTwoLevel.mk k_1 (i64.wrap (k_1 + 1)) x.J x.M_)) (getI_set (y := (TTwoLevel.mk k_1 x.I x.J x.M_)) hx))) (TTwoLevel.mk k_1 (i64.wrap (k_1 + 1)) (i64.wrap ((i64.wrap (k_1 + 1)) + 1)) (i64.wrap ((i64.wrap ((i64.wrap (k_1 + 1)) + 1)) + 1))) rfl (lB rfl)) rfl) ?_
  rintro _ w_3 ⟨rfl, hS5⟩
  refine rw_nil (cw_region ?_)
  refine sQ 38 (Y_move (v := vi (i64.wrap ((i64.wrap ((i64.wrap (k_1 + 1)) + 1)) + 1))) rfl rfl) ?_
  refine sQ 39 (Y_add (k := .i64) (a := (i64.wrap ((i64.wrap ((i64.wrap (k_1 + 1)) + 1)) + 1))) (b := 1) rfl rfl rfl) ?_
  refine sQ 1 (Y_assign (v := vi (i64.wrap ((i64.wrap ((i64.wrap ((i64.wrap (k_1 + 1)) + 1)) + 1)) + 1))) rfl rfl) (rw_nil (cw_region ?_))
  refine sQ 10 (Y_move (v := vi (i1 : Int)) rfl (hf.get 5 2 rfl)) ?_
  refine sQ 11 (Y_add (k := .i64) (a := (i1 : Int)) (b := 1) rfl rfl rfl) ?_
  refine sQ 5 (Y_assign (v := vi (i64.wrap ((i1 : Int) + 1))) rfl rfl) (rw_nil ?_)
  obtain rfl := some_inj hb
  exact ⟨k_3, Nat.lt_succ_self _, i1 + 1, ((((m1.set (i1 : Int).toNat (TTwoLevel.mk k_1 x.I x.J x.M_)).set (i1 : Int).toNat (TTwoLevel.mk k_1 (i64.wrap (k_1 + 1)) x.J x.M_)).set (i1 : Int).toNat (TTwoLevel.mk k_1 (i64.wrap (k_1 + 1)) (i64.wrap ((i64.wrap (k_1 + 1)) + 1)) x.M_)).set (i1 : Int).toNat (TTwoLevel.mk k_1 (i64.wrap (k_1 + 1)) (i64.wrap ((i64.wrap (k_1 + 1)) + 1)) (i64.wrap ((i64.wrap ((i64.wrap (k_1 + 1)) + 1)) + 1)))), (i64.wrap ((i64.wrap ((i64.wrap ((i64.wrap (k_1 + 1)) + 1)) + 1)) + 1)), (FF.cons (hf.get 0 0 rfl) (FF.cons rfl (FF.cons (congrArg (Value.int .i64) (wr_succ hlt1 hN)) FF.nil))), (set_len _ _ _ (set_len _ _ _ (set_len _ _ _ (set_len _ _ _ hl)))), (hS5.sel [0] rfl rfl), (by omega), hL1⟩
 ·skip
  obtain rfl : k_2 = 0 := by have h := of_decide_eq_false hlt; omega
  refine cw_exit rfl ?_
  obtain rfl := some_inj hL
  refine cw_seq (cw_region ?_)
  refine sQ 40 (Y_move (v := vi k_1) rfl (hf.get 1 1 rfl)) ?_
  refine sQ 4 (Y_assign (v := vi k_1) rfl rfl) (rw_nil (cw_ret ?_))
  obtain ⟨rfl, rfl⟩ := pr2 (some_inj hF1)
  exact ret1 Try.results36 (v1 := vi k_1) (resAt_tmp rfl) ⟨rfl, hl, (hS1.sN [0])⟩

theorem c_laws_heldTwoLevelS (a : List TTwoLevel) (k_ : Int) (B : Option Addr) (c n : Nat) (w0 : World) (hn : a.length = n) (hS : ST w0 [] w0 [] [⟨B, (a.flatMap eN2)⟩]) {r_ : Int} (hF : F_laws_heldTwoLevelS a k_ = some r_) :
  CV Try.prog 37 #[.slice B n c, vi k_] w0 (fun v w' => v = vi r_ ∧ ST w0 [] w' [] []) := by
 subst hn
 unfold F_laws_heldTwoLevelS at hF
 refine cv_of_cw 49 Try.func37 rfl Try.ntmps37 rfl ?_
 refine cw_seq (cw_region ?_)
 refine sQ 4 (Y_assign (v := vi 0) rfl rfl) (rw_nil (cw_seq (cw_seq (cw_region ?_))))
 refine sQ 5 (Y_assign (v := vi 0) rfl rfl) (rw_nil ?_)
 obtain ⟨hN, hF⟩ := chk_inv hF
 obtain ⟨z, hz, hF1⟩ := bind_inv hF
 refine cw_block ?_
 refine cw_loop (fun k f w => ∃ (i1 : Nat) (k_1 : Int), FF f [(0, .slice B a.length c), (1, vi k_1), (5, vi (i1 : Int))] ∧ ST w0 [] w [] [⟨B, (a.flatMap eN2)⟩] ∧ i1 + k = a.length ∧ forX (F_laws_heldTwoLevelS_l1 a) k i1 k_1 = some z) a.length ⟨0, k_, (FF.cons rfl (FF.cons rfl (FF.cons rfl FF.nil))), (hS.sel [] rfl rfl), Nat.zero_add _, hz⟩ ?_
 rintro k_2 f w ⟨i1, k_1, hf, hS1, hik, hL⟩
 refine cw_seq (cw_seq (cw_region ?_))
 refine sQ 6 (Y_move (v := vi (i1 : Int)) rfl (hf.get 5 2 rfl)) ?_
 refine sQ 7 (Y_move (v := .slice B a.length c) rfl (hf.get 0 0 rfl)) ?_
 refine sQ 8 (Y_len (B := B) (m := a.length) (c := c) k_sl_70_133 rfl rfl) ?_
 refine sQ 9 (Y_lt (k := .i64) (a := (i1 : Int)) (b := (a.length : Int)) rfl rfl rfl) (rw_nil ?_)
 refine cw_cond (b := (decide ((i1 : Int) < (a.length : Int)))) rfl (fun hlt => ?_) (fun hlt => ?_)
 ·skip
  have hlt1 : i1 < a.length := by have h := of_decide_eq_true hlt; omega
  obtain ⟨k_3, rfl⟩ : ∃ k2, k_2 = k2 + 1 := ⟨k_2 - 1, by omega⟩
  obtain ⟨y, hb, hL1⟩ := forX_go hL
  unfold F_laws_heldTwoLevelS_l1 at hb
  refine cw_skip (cw_seq (cw_block (cw_seq (cw_seq (cw_region ?_)))))
  refine sQ 12 (Y_move (v := .slice B a.length c) rfl (hf.get 0 0 rfl)) ?_
  refine sQ 13 (Y_move (v := vi (i1 : Int)) rfl (hf.get 5 2 rfl)) ?_
  obtain ⟨x, hx, hb⟩ := bind_inv hb
  refine sQ 14 (Y_index (B := B) (m := a.length) (c := c) (k := .i64) (i := (i1 : Int)) k_sl_70_133 k_sz_133_4 rfl rfl rfl (gi_isSome enc_TwoLevel_len rfl (hS1.rf (i := 0) rfl) hx) (getI_nn hx) (getI_ltI hx rfl)) ?_
  refine sQ 15 (Y_fieldAddr (B := B) (i := (i1 : Int).toNat * 4) (s := 0) k_fd_133_0_0_3 k_sz_3_1 rfl rfl) ?_
  refine sQ 16 (Y_load1 (B := B) (i := (i1 : Int).toNat * 4 + 0) (cs := (a.flatMap eN2)) (v := vi x.Kind) k_sc_3 rfl rfl (hS1.rf (i := 0) rfl) (gi_at enc_TwoLevel_len hx rfl)) ?_
  refine sQ 17 (Y_move (v := vi k_1) rfl (hf.get 1 1 rfl)) ?_
  refine sQ 18 (Y_ne (k := .i64) (a := x.Kind) (b := k_1) rfl rfl rfl) (rw_nil ?_)
  refine cw_cond (b := (x.Kind != k_1)) rfl (fun hb1 => ?_) (fun hb1 => ?_)
  ·skip
   have hF2 := ct hb hb1
   refine cw_seq (cw_region ?_)
   refine sQ 4 (Y_assign (v := vi (-1)) rfl rfl) (rw_nil (cw_ret ?_))
   obtain rfl := some_inj hF2
   obtain rfl := some_inj hL1
   obtain rfl := some_inj hF1
   exact ret1 Try.results37 (v1 := vi (-1)) (resAt_tmp rfl) ⟨rfl, (hS1.sN [])⟩
  ·skip
   have hF3 := cf' hb hb1
   refine cw_skip (cw_seq (cw_region ?_))
   refine sQ 19 (Y_move (v := vi k_1) rfl (hf.get 1 1 rfl)) ?_
   refine sQ 20 (Y_add (k := .i64) (a := k_1) (b := 1) rfl rfl rfl) ?_
   refine sQ 1 (Y_assign (v := vi (i64.wrap (k_1 + 1))) rfl rfl) (rw_nil (cw_seq (cw_seq (cw_region ?_))))
   refine sQ 21 (Y_move (v := .slice B a.length c) rfl (hf.get 0 0 rfl)) ?_
   refine sQ 22 (Y_move (v := vi (i1 : Int)) rfl (hf.get 5 2 rfl)) ?_
   refine sQ 23 (Y_index (B := B) (m := a.length) (c := c) (k := .i64) (i := (i1 : Int)) k_sl_70_133 k_sz_133_4 rfl rfl rfl (gi_isSome enc_TwoLevel_len rfl (hS1.rf (i := 0) rfl) hx) (getI_nn hx) (getI_ltI hx rfl)) ?_
   refine sQ 24 (Y_fieldAddr (B := B) (i := (i1 : Int).toNat * 4) (s := 0) k_fd_133_1_1_3 k_sz_3_1 rfl rfl) ?_
   refine sQ 25 (Y_load1 (B := B) (i := (i1 : Int).toNat * 4 + 1) (cs := (a.flatMap eN2)) (v := vi x.I) k_sc_3 rfl rfl (hS1.rf (i := 0) rfl) (gi_at enc_TwoLevel_len hx rfl)) ?_
   refine sQ 26 (Y_move (v := vi (i64.wrap (k_1 + 1))) rfl rfl) ?_
   refine sQ 27 (Y_ne (k := .i64) (a := x.I) (b := (i64.wrap (k_1 + 1))) rfl rfl rfl) (rw_nil ?_)
   refine cw_cond (b := (x.I != (i64.wrap (k_1 + 1)))) rfl (fun hb2 => ?_) (fun hb2 => ?_)
   ·skip
    have hF4 := ct hF3 hb2
    refine cw_seq (cw_region ?_)
    refine sQ 4 (Y_assign (v := vi (-1)) rfl rfl) (rw_nil (cw_ret ?_))
    obtain rfl := some_inj hF4
    obtain rfl := some_inj hL1
    obtain rfl := some_inj hF1
    exact ret1 Try.results37 (v1 := vi (-1)) (resAt_tmp rfl) ⟨rfl, (hS1.sN [])⟩
   ·skip
    have hF5 := cf' hF3 hb2
    refine cw_skip (cw_seq (cw_region ?_))
    refine sQ 28 (Y_move (v := vi (i64.wrap (k_1 + 1))) rfl rfl) ?_
    refine sQ 29 (Y_add (k := .i64) (a := (i64.wrap (k_1 + 1))) (b := 1) rfl rfl rfl) ?_
    refine sQ 1 (Y_assign (v := vi (i64.wrap ((i64.wrap (k_1 + 1)) + 1))) rfl rfl) (rw_nil (cw_seq (cw_seq (cw_region ?_))))
    refine sQ 30 (Y_move (v := .slice B a.length c) rfl (hf.get 0 0 rfl)) ?_
    refine sQ 31 (Y_move (v := vi (i1 : Int)) rfl (hf.get 5 2 rfl)) ?_
    refine sQ 32 (Y_index (B := B) (m := a.length) (c := c) (k := .i64) (i := (i1 : Int)) k_sl_70_133 k_sz_133_4 rfl rfl rfl (gi_isSome enc_TwoLevel_len rfl (hS1.rf (i := 0) rfl) hx) (getI_nn hx) (getI_ltI hx rfl)) ?_
    refine sQ 33 (Y_fieldAddr (B := B) (i := (i1 : Int).toNat * 4) (s := 0) k_fd_133_2_2_3 k_sz_3_1 rfl rfl) ?_
    refine sQ 34 (Y_load1 (B := B) (i := (i1 : Int).toNat * 4 + 2) (cs := (a.flatMap eN2)) (v := vi x.J) k_sc_3 rfl rfl (hS1.rf (i := 0) rfl) (gi_at enc_TwoLevel_len hx rfl)) ?_
    refine sQ 35 (Y_move (v := vi (i64.wrap ((i64.wrap (k_1 + 1)) + 1))) rfl rfl) ?_
    refine sQ 36 (Y_ne (k := .i64) (a := x.J) (b := (i64.wrap ((i64.wrap (k_1 + 1)) + 1))) rfl rfl rfl) (rw_nil ?_)
    refine cw_cond (b := (x.J != (i64.wrap ((i64.wrap (k_1 + 1)) + 1)))) rfl (fun hb3 => ?_) (fun hb3 => ?_)
    ·skip
     have hF6 := ct hF5 hb3
     refine cw_seq (cw_region ?_)
     refine sQ 4 (Y_assign (v := vi (-1)) rfl rfl) (rw_nil (cw_ret ?_))
     obtain rfl := some_inj hF6
     obtain rfl := some_inj hL1
     obtain rfl := some_inj hF1
     exact ret1 Try.results37 (v1 := vi (-1)) (resAt_tmp rfl) ⟨rfl, (hS1.sN [])⟩
    ·skip
     have hF7 := cf' hF5 hb3
     refine cw_skip (cw_seq (cw_region ?_))
     refine sQ 37 (Y_move (v := vi (i64.wrap ((i64.wrap (k_1 + 1)) + 1))) rfl rfl) ?_
     refine sQ 38 (Y_add (k := .i64) (a := (i64.wrap ((i64.wrap (k_1 + 1)) + 1))) (b := 1) rfl rfl rfl) ?_
     refine sQ 1 (Y_assign (v := vi (i64.wrap ((i64.wrap ((i64.wrap (k_1 + 1)) + 1)) + 1))) rfl rfl) (rw_nil (cw_seq (cw_seq (cw_region ?_))))
     refine sQ 39 (Y_move (v := .slice B a.length c) rfl (hf.get 0 0 rfl)) ?_
     refine sQ 40 (Y_move (v := vi (i1 : Int)) rfl (hf.get 5 2 rfl)) ?_
     refine sQ 41 (Y_index (B := B) (m := a.length) (c := c) (k := .i64) (i := (i1 : Int)) k_sl_70_133 k_sz_133_4 rfl rfl rfl (gi_isSome enc_TwoLevel_len rfl (hS1.rf (i := 0) rfl) hx) (getI_nn hx) (getI_ltI hx rfl)) ?_
     refine sQ 42 (Y_fieldAddr (B := B) (i := (i1 : Int).toNat * 4) (s := 0) k_fd_133_3_3_3 k_sz_3_1 rfl rfl) ?_
     refine sQ 43 (Y_load1 (B := B) (i := (i1 : Int).toNat * 4 + 3) (cs := (a.flatMap eN2)) (v := vi x.M_) k_sc_3 rfl rfl (hS1.rf (i := 0) rfl) (gi_at enc_TwoLevel_len hx rfl)) ?_
     refine sQ 44 (Y_move (v := vi (i64.wrap ((i64.wrap ((i64.wrap (k_1 + 1)) + 1)) + 1))) rfl rfl) ?_
     refine sQ 45 (Y_ne (k := .i64) (a := x.M_) (b := (i64.wrap ((i64.wrap ((i64.wrap (k_1 + 1)) + 1)) + 1))) rfl rfl rfl) (rw_nil ?_)
     refine cw_cond (b := (x.M_ != (i64.wrap ((i64.wrap ((i64.wrap (k_1 + 1)) + 1)) + 1)))) rfl (fun hb4 => ?_) (fun hb4 => ?_)
     ·skip
      have hF8 := ct hF7 hb4
      refine cw_seq (cw_region ?_)
      refine sQ 4 (Y_assign (v := vi (-1)) rfl rfl) (rw_nil (cw_ret ?_))
      obtain rfl := some_inj hF8
      obtain rfl := some_inj hL1
      obtain rfl := some_inj hF1
      exact ret1 Try.results37 (v1 := vi (-1)) (resAt_tmp rfl) ⟨rfl, (hS1.sN [])⟩
     ·skip
      have hF9 := cf' hF7 hb4
      refine cw_skip (cw_region ?_)
      refine sQ 46 (Y_move (v := vi (i64.wrap ((i64.wrap ((i64.wrap (k_1 + 1)) + 1)) + 1))) rfl rfl) ?_
      refine sQ 47 (Y_add (k := .i64) (a := (i64.wrap ((i64.wrap ((i64.wrap (k_1 + 1)) + 1)) + 1))) (b := 1) rfl rfl rfl) ?_
      refine sQ 1 (Y_assign (v := vi (i64.wrap ((i64.wrap ((i64.wrap ((i64.wrap (k_1 + 1)) + 1)) + 1)) + 1))) rfl rfl) (rw_nil (cw_region ?_))
      refine sQ 10 (Y_move (v := vi (i1 : Int)) rfl (hf.get 5 2 rfl)) ?_
      refine sQ 11 (Y_add (k := .i64) (a := (i1 : Int)) (b := 1) rfl rfl rfl) ?_
      refine sQ 5 (Y_assign (v := vi (i64.wrap ((i1 : Int) + 1))) rfl rfl) (rw_nil ?_)
      obtain rfl := some_inj hF9
      exact ⟨k_3, Nat.lt_succ_self _, i1 + 1, (i64.wrap ((i64.wrap ((i64.wrap ((i64.wrap (k_1 + 1)) + 1)) + 1)) + 1)), (FF.cons (hf.get 0 0 rfl) (FF.cons rfl (FF.cons (congrArg (Value.int .i64) (wr_succ hlt1 hN)) FF.nil))), (hS1.sel [] rfl rfl), (by omega), hL1⟩
 ·skip
  obtain rfl : k_2 = 0 := by have h := of_decide_eq_false hlt; omega
  refine cw_exit rfl ?_
  obtain rfl := some_inj hL
  refine cw_seq (cw_region ?_)
  refine sQ 48 (Y_move (v := vi k_1) rfl (hf.get 1 1 rfl)) ?_
  refine sQ 4 (Y_assign (v := vi k_1) rfl rfl) (rw_nil (cw_ret ?_))
  obtain rfl := some_inj hF1
  exact ret1 Try.results37 (v1 := vi k_1) (resAt_tmp rfl) ⟨rfl, (hS1.sN [])⟩
end Go.VK
