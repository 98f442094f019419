/- Walks: each Go function returns what its Lean function says. By program. -/
import Derived.Test.YteaclldklaocmaaReduceColumnFa
import Derived.Test.YteaclldklaocmaaReduceColumnW1
set_option linter.unusedVariables false
set_option maxRecDepth 100000
set_option maxHeartbeats 4000000
namespace Go.VK
open Go.RowKit
open Go.Proofs
open Go.IntKind
attribute [local irreducible] CW RW RA CV Y Yw Yc Ys RetOf
attribute [local irreducible] F_laws_szDyadicS F_laws_szMatrix F_spec_l1In F_spec_l1Has F_spec_l3Dim F_spec_l1All F_spec_l1Good F_spec_l1Even F_spec_l2Good F_spec_l3Good F_spec_l11Dim F_spec_l2C_ring F_spec_l1Root F_spec_l1Half F_spec_l2Low F_spec_l1Add F_spec_l2C_add F_spec_l1Mul F_spec_l2C_mul F_spec_l1Conj F_spec_l2Conj F_spec_l1Turn F_spec_l2Power F_spec_l2C_unit F_spec_l1Most F_spec_l3Exp F_spec_l11Scaled F_spec_l11Odd F_spec_l11Type F_spec_l11Pair F_spec_l11Power F_spec_l11Next F_spec_l1Neg F_spec_l2Neg F_spec_l2C_level F_spec_PhaseOf F_spec_l1Least F_spec_l2C_column F_spec_ReduceColumn F_laws_toRing F_laws_toDyadic F_laws_toDyadicS F_laws_toMatrix F_impl_within F_impl_isDim F_slices_IndexFunc_impl_Dyadic_impl_Dyadic F_slices_ContainsFunc_impl_Dyadic_impl_Dyadic F_impl_isCoef F_impl_IsValidRing F_impl_isEven F_impl_IsValidDyadic F_impl_IsValidMatrix_1 F_impl_IsValidMatrix F_impl_isLevelDim F_impl_ringIf F_impl_MulRing F_impl_DivRootTwo F_impl_DyadicOf F_impl_MulDyadic F_impl_Conjugate F_impl_ConjDyadic F_impl_NormSquare F_impl_MulRootTwo F_impl_raised F_impl_combined F_impl_AddRing F_impl_AddDyadic F_impl_whole F_impl_isColumn F_impl_LeastExp F_impl_MulOmega F_impl_phase F_impl_PhaseOf F_impl_finishing F_impl_ResidueType F_impl_nextPair F_impl_parities F_impl_MatchingPower F_impl_lowering F_impl_IsValidTwoLevel F_impl_matrixOf F_impl_small F_impl_levelCell F_impl_TwoLevelMatrix_1 F_impl_TwoLevelMatrix F_impl_Matrix_at F_impl_MulMatrix_1 F_impl_MulMatrix F_impl_ReduceColumn F_laws_eqTwoLevel F_laws_eqTwoLevelS F_laws_eqRing F_laws_eqDyadic F_laws_eqDyadicS F_laws_eqMatrix F_laws_markDyadicS F_laws_markMatrix F_laws_markTwoLevelS F_laws_heldTwoLevelS F_laws_FnExactReduceColumn
theorem c_spec_PhaseOf (x : TDyadic)  (w0 : World)  (hS : ST w0 [] w0 [] []) {r_ : Int} {r_1 : Bool} (hF : F_spec_PhaseOf x = some (r_, r_1)) :
  CV Try.prog 143 #[gD_ x] w0 (fun v w' => v = .tuple #[vi r_, .bool r_1] ∧ ST w0 [] w' [] []) := by
 unfold F_spec_PhaseOf at hF
 refine cv_of_cw 14 Try.func143 rfl Try.ntmps143 rfl ?_
 refine cw_seq (cw_region ?_)
 refine sS 1 (Ys_box (T := 124) (v := gD_ x) (cs := kD_ x) (m := 5) hS rfl rfl rfl rfl) ?_
 rintro _ w_ ⟨b, rfl, hS1⟩
 refine sQ 2 (Y_assign (v := vi 0) rfl rfl) ?_
 refine sQ 3 (Y_assign (v := .bool false) rfl rfl) (rw_nil (cw_seq (cw_seq (cw_region ?_))))
 refine sQ 4 (Y_assign (v := vi 0) rfl rfl) (rw_nil ?_)
 obtain ⟨z, hz, hF1⟩ := bind_inv hF
 refine cw_block ?_
 refine cw_loop (fun k f w => ∃ (k_ : Nat), FF f [(1, pt (aD b) 0), (4, vi (k_ : Int))] ∧ ST w0 [] w [⟨aD b, 124, kD_ x, 5⟩] [] ∧ k_ + k = 8 ∧ forX (F_spec_PhaseOf_l1 x) k k_ () = some z) 8 ⟨0, (FF.cons rfl (FF.cons rfl FF.nil)), (hS1.sel [0] rfl rfl), Nat.zero_add _, hz⟩ ?_
 rintro k_1 f w ⟨k_, hf, hS2, hik, hL⟩
 refine cw_seq (cw_seq (cw_region ?_))
 refine sQ 5 (Y_move (v := vi (k_ : Int)) rfl (hf.get 4 1 rfl)) ?_
 refine sQ 6 (Y_lt (k := .i64) (a := (k_ : Int)) (b := 8) rfl rfl rfl) (rw_nil ?_)
 refine cw_cond (b := (decide ((k_ : Int) < 8))) rfl (fun hlt => ?_) (fun hlt => ?_)
 ·skip
  have hlt1 : k_ < 8 := by have h := of_decide_eq_true hlt; omega
  obtain ⟨k_2, rfl⟩ : ∃ k2, k_1 = k2 + 1 := ⟨k_1 - 1, by omega⟩
  obtain ⟨y, hb, hL1⟩ := forX_go hL
  unfold F_spec_PhaseOf_l1 at hb
  refine cw_skip (cw_seq (cw_block (cw_seq ?_)))
  obtain ⟨r_2, hc, hb⟩ := bind_inv hb
  refine ra_start (hS2.se [0]).fn (by kernel_rfl) ?_
  have hS4 := hS2.drew
  refine rq 0 9 (v := gD_ x) rfl (hS4.se [0]) (fun w' hw' => (Y_loadA (B := aD b) (i := 0) (cs := kD_ x) (vs := kD_ x) k_ag_124 k_sz_124_5 rfl (hf.get 1 0 rfl) (ST.cf hw' (i := 0) rfl) rfl rfl)) ?_
  refine rq 1 10 (v := vi (k_ : Int)) rfl (hS4.se [0]) (fun w' hw' => (Y_move (v := vi (k_ : Int)) rfl (hf.get 4 1 rfl))) ?_
  refine rA [2] ?_
  refine ra_c 11 (i := 2) rfl rfl rfl (Yc_func (g := 139) (vs := [vi (k_ : Int)]) k_call_139 rfl (mc rfl mn) (c_spec_l2Power (k_ : Int) _  (hS4.inn0 [] rfl) hc)) ?_ ?_
  ·rintro _ w_1 ⟨rfl, hd⟩
   have hS5 := hS4.out00 hd
   refine ⟨(hS5.se [0]), ?_⟩
   refine rq 3 12 (v := .bool (((x.Num.A == r_2.Num.A) && ((x.Num.B == r_2.Num.B) && ((x.Num.C == r_2.Num.C) && ((x.Num.D == r_2.Num.D) && true)))) && ((x.Exp == r_2.Exp) && true))) rfl (hS5.se [0]) (fun w' hw' => (Y_eqA (xs := #[vi x.Num.A, vi x.Num.B, vi x.Num.C, vi x.Num.D, vi x.Exp]) (ys := #[vi r_2.Num.A, vi r_2.Num.B, vi r_2.Num.C, vi r_2.Num.D, vi r_2.Exp]) (b := (((x.Num.A == r_2.Num.A) && ((x.Num.B == r_2.Num.B) && ((x.Num.C == r_2.Num.C) && ((x.Num.D == r_2.Num.D) && true)))) && ((x.Exp == r_2.Exp) && true))) k_eg_124 rfl rfl rfl (eqr_struct (xs := kD_ x) (ys := kD_ r_2) k_st_124 k_ho_124 (pts_ag (us := kR_ x.Num) (vs := kR_ r_2.Num) k_ag_122 k_sz_122_4 rfl rfl (eqr_struct (xs := kR_ x.Num) (ys := kR_ r_2.Num) k_st_122 k_ho_122 (pts_sc k_sc_3 rfl rfl (eqr_int k_int_3_i64) (pts_sc k_sc_3 rfl rfl (eqr_int k_int_3_i64) (pts_sc k_sc_3 rfl rfl (eqr_int k_int_3_i64) (pts_sc k_sc_3 rfl rfl (eqr_int k_int_3_i64) pts_nil))))) (pts_sc k_sc_3 rfl rfl (eqr_int k_int_3_i64) pts_nil))))) ?_
   refine ra_done (by kernel_rfl) ?_
   refine cw_cond (b := (((x.Num.A == r_2.Num.A) && ((x.Num.B == r_2.Num.B) && ((x.Num.C == r_2.Num.C) && ((x.Num.D == r_2.Num.D) && true)))) && ((x.Exp == r_2.Exp) && true))) rfl (fun hb1 => ?_) (fun hb1 => ?_)
   ·skip
    have hF2 := ct hb hb1
    refine cw_seq (cw_region ?_)
    refine sQ 13 (Y_move (v := vi (k_ : Int)) rfl (hf.get 4 1 rfl)) ?_
    refine sQ 2 (Y_assign (v := vi (k_ : Int)) rfl rfl) ?_
    refine sQ 3 (Y_assign (v := .bool true) rfl rfl) (rw_nil (cw_ret ?_))
    obtain rfl := some_inj hF2
    obtain rfl := some_inj hL1
    obtain ⟨rfl, rfl⟩ := pr2 (some_inj hF1)
    exact ret2 Try.results143 (v1 := vi (k_ : Int)) (resAt_tmp rfl) (v2 := .bool true) (resAt_tmp rfl) ⟨rfl, (hS5.sN [])⟩
   ·skip
    have hF3 := cf' hb hb1
    refine cw_skip (cw_region ?_)
    refine sQ 7 (Y_move (v := vi (k_ : Int)) rfl (hf.get 4 1 rfl)) ?_
    refine sQ 8 (Y_add (k := .i64) (a := (k_ : Int)) (b := 1) rfl rfl rfl) ?_
    refine sQ 4 (Y_assign (v := vi (i64.wrap ((k_ : Int) + 1))) rfl rfl) (rw_nil ?_)
    obtain rfl := some_inj hF3
    exact ⟨k_2, Nat.lt_succ_self _, k_ + 1, (FF.cons (hf.get 1 0 rfl) (FF.cons (congrArg (Value.int .i64) (wr_succ hlt1 (show 8 ≤ 9223372036854775807 by decide))) FF.nil)), (hS5.sel [0] rfl rfl), (by omega), hL1⟩
  exact allR_nil
 ·skip
  obtain rfl : k_1 = 0 := by have h := of_decide_eq_false hlt; omega
  refine cw_exit rfl ?_
  obtain rfl := some_inj hL
  refine cw_seq (cw_region ?_)
  refine sQ 2 (Y_assign (v := vi 0) rfl rfl) ?_
  refine sQ 3 (Y_assign (v := .bool false) rfl rfl) (rw_nil (cw_ret ?_))
  obtain ⟨rfl, rfl⟩ := pr2 (some_inj hF1)
  exact ret2 Try.results143 (v1 := vi 0) (resAt_tmp rfl) (v2 := .bool false) (resAt_tmp rfl) ⟨rfl, (hS2.sN [])⟩

theorem c_spec_l1Least (a : Int) (b : Int)  (w0 : World)  (hS : ST w0 [] w0 [] []) {r_ : Int} (hF : F_spec_l1Least a b = some r_) :
  CV Try.prog 144 #[vi a, vi b] w0 (fun v w' => v = vi r_ ∧ ST w0 [] w' [] []) := by
 unfold F_spec_l1Least at hF
 refine cv_of_cw 10 Try.func144 rfl Try.ntmps144 rfl ?_
 refine cw_seq (cw_region ?_)
 refine sQ 4 (Y_assign (v := vi 0) rfl rfl) (rw_nil (cw_seq (cw_seq (cw_region ?_))))
 refine sQ 5 (Y_move (v := vi a) rfl rfl) ?_
 refine sQ 6 (Y_move (v := vi b) rfl rfl) ?_
 refine sQ 7 (Y_lt (k := .i64) (a := a) (b := b) rfl rfl rfl) (rw_nil ?_)
 refine cw_cond (b := (decide (a < b))) rfl (fun hb => ?_) (fun hb => ?_)
 ·skip
  have hF1 := ct hF hb
  refine cw_seq (cw_region ?_)
  refine sQ 8 (Y_move (v := vi a) rfl rfl) ?_
  refine sQ 4 (Y_assign (v := vi a) rfl rfl) (rw_nil (cw_ret ?_))
  obtain rfl := some_inj hF1
  exact ret1 Try.results144 (v1 := vi a) (resAt_tmp rfl) ⟨rfl, (hS.sN [])⟩
 ·skip
  have hF2 := cf' hF hb
  refine cw_skip (cw_seq (cw_region ?_))
  refine sQ 9 (Y_move (v := vi b) rfl rfl) ?_
  refine sQ 4 (Y_assign (v := vi b) rfl rfl) (rw_nil (cw_ret ?_))
  obtain rfl := some_inj hF2
  exact ret1 Try.results144 (v1 := vi b) (resAt_tmp rfl) ⟨rfl, (hS.sN [])⟩

theorem c_spec_l2C_column (c : Tl2C) (v_ : TMatrix) (from_ : Int) (B : Option Addr) (B1 : Option Addr) (c1 n : Nat) (w0 : World) (hn : v_.Cells.length = n) (hq : n ≤ c1) (hS : ST w0 (bl [⟨B, 127, [.bool c.bad], 1⟩]) w0 [⟨B, 127, [.bool c.bad], 1⟩] [⟨B1, (v_.Cells.flatMap eN0)⟩]) {r_ : List TTwoLevel} {r_1 : Bool} {m : Tl2C} (hF : F_spec_l2C_column c v_ from_ = some (r_, r_1, m)) :
  CV Try.prog 78 #[pt B 0, .agg #[vi v_.Rows, vi v_.Cols, .slice B1 n c1], vi from_] w0 (fun v w' => ∃ (B2 : Option Addr) (c2 : Nat), v = .tuple #[.slice B2 r_.length c2, .bool r_1] ∧ ST w0 (bl [⟨B, 127, [.bool c.bad], 1⟩]) w' [⟨B, 127, [.bool m.bad], 1⟩, ⟨B2, 133, (r_.flatMap eN2), c2 * 4⟩] []) := by
 subst hn
 unfold F_spec_l2C_column at hF
 refine cv_of_cw 82 Try.func78 rfl Try.ntmps78 rfl ?_
 refine cw_seq (cw_region ?_)
 refine sS 4 (Ys_box (T := 75) (v := gM_ v_ B1 c1) (cs := kM_ v_ B1 c1) (m := 3) hS rfl rfl rfl rfl) ?_
 rintro _ w_ ⟨b, rfl, hS1⟩
 refine sQ 6 (Y_assign (v := .slice none 0 0) rfl rfl) ?_
 refine sQ 7 (Y_assign (v := .bool false) rfl rfl) (rw_nil (cw_seq (cw_region ?_)))
 refine sQ 8 (Y_assign (v := .slice none 0 0) rfl rfl) (rw_nil (cw_seq ?_))
 obtain ⟨z, hz, hF1⟩ := bind_inv hF
 have hS3 := hS1.addNil 133
 have hS4 : ST w0 (bl [⟨B, 127, [.bool c.bad], 1⟩]) _ [⟨B, 127, [.bool c.bad], 1⟩, ⟨aD b, 75, kM_ v_ B1 c1, 3⟩, ⟨none, 133, ([].flatMap eN2), 0 * 4⟩] [⟨B1, (v_.Cells.flatMap eN0)⟩, ⟨B1, (v_.Cells.flatMap eN0)⟩] := ST.subR hS3 (subc (mem_at (i := 0) rfl) (subc (mem_at (i := 0) rfl) (fun _ h => by cases h)))
 refine cw_block ?_
 refine cw_loop (fun k f w => ∃ (bad : Bool) (Rows : Int) (Cols : Int) (Cells : List TDyadic) (l : List TTwoLevel) (B3 : Option Addr) (c3 : Nat) (B4 : Option Addr) (c4 : Nat), FF f [(0, pt B 0), (2, vi from_), (4, pt (aD b) 0), (8, .slice B4 l.length c4)] ∧ Org w0 (bl [⟨B, 127, [.bool c.bad], 1⟩]) [⟨B1, (v_.Cells.flatMap eN0)⟩] [⟨B3, (Cells.flatMap eN0)⟩] ∧ Cells.length ≤ c3 ∧ ST w0 (bl [⟨B, 127, [.bool c.bad], 1⟩]) w [⟨B, 127, [.bool bad], 1⟩, ⟨aD b, 75, [vi Rows, vi Cols, .slice B3 Cells.length c3], 3⟩, ⟨B4, 133, (l.flatMap eN2), c4 * 4⟩] [⟨B3, (Cells.flatMap eN0)⟩, ⟨B1, (v_.Cells.flatMap eN0)⟩] ∧ whX F_spec_l2C_column_l1 k (bad, Rows, Cols, Cells, l) = some z) fuel ⟨c.bad, v_.Rows, v_.Cols, v_.Cells, [], B1, c1, none, 0, (FF.cons rfl (FF.cons rfl (FF.cons rfl (FF.cons rfl FF.nil)))), (org_mem (i := 0) rfl), (len_le rfl hq), (hS4.sel [0, 1, 2] rfl rfl), hz⟩ ?_
 rintro k_ f w ⟨bad, Rows, Cols, Cells, l, B3, c3, B4, c4, hf, ho, hq1, hS2, hL⟩
 obtain ⟨k_1, y, rfl, hb, hL1⟩ := whX_go hL
 unfold F_spec_l2C_column_l1 at hb
 refine cw_seq (cw_seq (cw_region ?_))
 refine sQ 15 (Y_loadA (B := aD b) (i := 0) (cs := [vi Rows, vi Cols, .slice B3 Cells.length c3]) (vs := [vi Rows, vi Cols, .slice B3 Cells.length c3]) k_ag_75 k_sz_75_3 rfl (hf.get 4 2 rfl) (hS2.cf (i := 1) rfl) rfl rfl) ?_
 obtain ⟨r_2, hc, hb⟩ := bind_inv hb
 refine sc 16 rfl rfl (Yc_func (g := 140) (vs := [.agg #[vi Rows, vi Cols, .slice B3 Cells.length c3]]) k_call_140 rfl (mc rfl mn) (c_spec_l3Exp (TMatrix.mk Rows Cols Cells) B3 c3 Cells.length _ rfl (hS2.inn0 [(true, 0)] rfl) hc)) ?_
 rintro _ w_1 ⟨rfl, hd⟩
 have hS5 := hS2.out00 hd
 refine sQ 17 (Y_gt (k := .i64) (a := r_2) (b := 0) rfl rfl rfl) (rw_nil ?_)
 refine cw_cond (b := (decide (0 < r_2))) rfl (fun hb1 => ?_) (fun hb1 => ?_)
 ·skip
  have hF2 := ct hb hb1
  refine cw_skip (cw_block (cw_seq (cw_region ?_)))
  refine sQ 19 (Y_loadA (B := aD b) (i := 0) (cs := [vi Rows, vi Cols, .slice B3 Cells.length c3]) (vs := [vi Rows, vi Cols, .slice B3 Cells.length c3]) k_ag_75 k_sz_75_3 rfl (hf.get 4 2 rfl) (hS5.cf (i := 1) rfl) rfl rfl) ?_
  obtain ⟨⟨r_3, r_4⟩, hc1, hF2⟩ := bind_inv hF2
  refine sc 20 rfl rfl (Yc_func (g := 141) (vs := [.agg #[vi Rows, vi Cols, .slice B3 Cells.length c3]]) k_call_141 rfl (mc rfl mn) (c_spec_l11Next (TMatrix.mk Rows Cols Cells) B3 c3 Cells.length _ rfl (hS5.inn0 [(true, 0)] rfl) hc1)) ?_
  rintro _ w_2 ⟨rfl, hd1⟩
  have hS6 := hS5.out00 hd1
  refine sQ 18 (Y_move (v := .tuple #[.agg #[vi r_3.Kind, vi r_3.I, vi r_3.J, vi r_3.M_], .bool r_4]) rfl rfl) ?_
  refine sQ 21 (Y_extract (v := .agg #[vi r_3.Kind, vi r_3.I, vi r_3.J, vi r_3.M_]) rfl rfl rfl) ?_
  refine sQ 22 (Y_extract (v := .bool r_4) rfl rfl rfl) ?_
  refine sS 9 (Ys_alloc (T := 133) (cs := [vi 0, vi 0, vi 0, vi 0]) (m := 4) hS6 k_zero_133 rfl rfl rfl) ?_
  rintro _ w_3 ⟨b1, rfl, hS7⟩
  refine s0 (Ys_store (i := 3) (s := 4) (B := aD b1) (T' := 133) (v := .agg #[vi r_3.Kind, vi r_3.I, vi r_3.J, vi r_3.M_]) (vs := [vi r_3.Kind, vi r_3.I, vi r_3.J, vi r_3.M_]) (k := 0) (cs' := [vi r_3.Kind, vi r_3.I, vi r_3.J, vi r_3.M_]) hS7 k_sz_133_4 rfl rfl rfl rfl rfl rfl rfl (lB rfl) rfl rfl) ?_
  rintro _ w_4 ⟨rfl, hS8⟩
  refine sQ 10 (Y_assign (v := .bool r_4) rfl rfl) (rw_nil (cw_seq (cw_seq (cw_region ?_))))
  refine sQ 23 (Y_move (v := .bool r_4) rfl rfl) ?_
  refine sQ 24 (Y_not (p := r_4) rfl rfl) ?_
  refine sQ 25 (Y_move (v := .bool (!r_4)) rfl rfl) ?_
  refine sgq 26 (B := (!(!r_4))) (v := pt B 0) rfl rfl (uF_ 25) (fun hg => (Y_move (v := pt B 0) rfl (hf.get 0 0 rfl))) ?_
  refine sgq 27 (B := (!(!r_4))) (v := pt B 0) rfl rfl (uF_ 25) (fun hg1 => (Y_nilCheck (B := B) (i := 0) rfl (gv_of (v := pt B 0) hg1))) ?_
  refine sgq 28 (B := (!(!r_4))) (v := pt B 0) rfl rfl (uF_ 25) (fun hg2 => (Y_fieldAddr (B := B) (i := 0) (s := 0) k_fd_127_0_0_4 k_sz_4_1 rfl (gv_of (v := pt B 0) hg2))) ?_
  refine sgq 29 (B := (!(!r_4))) (v := .bool bad) rfl rfl (uF_ 25) (fun hg3 => (Y_load1 (B := B) (i := 0) (cs := [.bool bad]) (v := .bool bad) k_sc_4 rfl (gv_of (v := pt B 0) hg3) (hS8.cf (i := 0) rfl) rfl)) ?_
  refine sQ 30 (Y_or (b := (!r_4)) (z := bad) rfl rfl rfl rfl) (rw_nil ?_)
  refine cw_cond (b := ((!r_4) || bad)) rfl (fun hb2 => ?_) (fun hb2 => ?_)
  ·skip
   have hF3 := ct hF2 hb2
   refine cw_seq (cw_region ?_)
   refine sQ 6 (Y_assign (v := .slice none 0 0) rfl rfl) ?_
   refine sQ 7 (Y_assign (v := .bool false) rfl rfl) (rw_nil (cw_ret ?_))
   have hS9 := hS8.addNil 133
   obtain rfl := some_inj hF3
   obtain rfl := some_inj hL1
   obtain ⟨rfl, rfl, rfl⟩ := pr3 (some_inj hF1)
   exact ret2 Try.results78 (v1 := .slice none 0 0) (resAt_tmp rfl) (v2 := .bool false) (resAt_tmp rfl) ⟨none, 0, rfl, (hS9.sN [0, 4])⟩
  ·skip
   have hF4 := cf' hF2 hb2
   refine cw_skip (cw_seq (cw_region ?_))
   refine sQ 31 (Y_move (v := .slice B4 l.length c4) rfl (hf.get 8 3 rfl)) ?_
   refine sQ 32 (Y_loadA (B := aD b1) (i := 0) (cs := [vi r_3.Kind, vi r_3.I, vi r_3.J, vi r_3.M_]) (vs := [vi r_3.Kind, vi r_3.I, vi r_3.J, vi r_3.M_]) k_ag_133 k_sz_133_4 rfl rfl (hS8.cf (i := 3) rfl) rfl rfl) ?_
   refine sS 33 (Ys_bslice (s := 4) (len := 1) (vs := [(0, .agg #[vi r_3.Kind, vi r_3.I, vi r_3.J, vi r_3.M_])]) (cs := [vi r_3.Kind, vi r_3.I, vi r_3.J, vi r_3.M_]) (zs := [vi 0, vi 0, vi 0, vi 0]) (m := 4) hS8 k_sl_70_133 k_sz_133_4 k_zc_133 rfl (mpc rfl mpn) rfl rfl rfl (by kernel_rfl) (by kernel_rfl) rfl) ?_
   rintro _ w_5 ⟨b2, rfl, hS10⟩
   obtain ⟨hap, hF4⟩ := chk_inv hF4
   refine sS 34 (Ys_append (s := 4) (by' := 32) (i := 2) (nn := l.length) (c := c4) (k := 1) (len := (l ++ [r_3]).length) (B := B4) (xs := ([r_3].flatMap eN2)) (cs' := ((l ++ [r_3]).flatMap eN2)) hS10 k_sl_70_133 k_sz_133_4 k_by_133_32 k_zero_133 rfl (by decide) rfl rfl rfl rfl (fm_lenn (l := l) enc_TwoLevel_len rfl) rfl (hS10.cf (i := 4) rfl) (fm_lenn (l := [r_3]) enc_TwoLevel_len rfl) (fm_one' (enc := eN2) enc_TwoLevel_one [r_3]) (by have := hap; omega) (by have := hap; simp only [maxLen]; omega) (fm_app _ _) (app_len (l := l) (l' := [r_3]) rfl rfl)) ?_
   rintro _ w_6 ⟨B5, c5, rfl, hS11⟩
   refine sQ 8 (Y_assign (v := .slice B5 ((l ++ [r_3]).length) c5) rfl rfl) (rw_nil (cw_region ?_))
   refine sQ 35 (Y_move (v := pt B 0) rfl (hf.get 0 0 rfl)) ?_
   refine sQ 36 (Y_loadA (B := aD b) (i := 0) (cs := [vi Rows, vi Cols, .slice B3 Cells.length c3]) (vs := [vi Rows, vi Cols, .slice B3 Cells.length c3]) k_ag_75 k_sz_75_3 rfl (hf.get 4 2 rfl) (hS11.cf (i := 1) rfl) rfl rfl) ?_
   refine sQ 37 (Y_loadA (B := aD b1) (i := 0) (cs := [vi r_3.Kind, vi r_3.I, vi r_3.J, vi r_3.M_]) (vs := [vi r_3.Kind, vi r_3.I, vi r_3.J, vi r_3.M_]) k_ag_133 k_sz_133_4 rfl rfl (hS11.cf (i := 3) rfl) rfl rfl) ?_
   obtain ⟨⟨r_5, m1⟩, hc2, hF4⟩ := bind_inv hF4
   refine sc 38 rfl rfl (Yc_func (g := 142) (vs := [pt B 0, .agg #[vi Rows, vi Cols, .slice B3 Cells.length c3], .agg #[vi r_3.Kind, vi r_3.I, vi r_3.J, vi r_3.M_]]) k_call_142 rfl (mc rfl (mc rfl (mc rfl mn))) (c_spec_l2C_level (Tl2C.mk bad) (TMatrix.mk Rows Cols Cells) r_3 B B3 c3 Cells.length _ rfl (hS11.inn [true, false, false, false, false] rfl [(true, 0)] rfl) hc2)) ?_
   rintro _ w_7 ⟨B6, c6, rfl, hd2⟩
   have hS12 := hS11.out [true, false, false, false, false] rfl hd2
   refine s0 (Ys_store (i := 0) (s := 3) (B := aD b) (T' := 75) (v := gM_ r_5 B6 c6) (vs := kM_ r_5 B6 c6) (k := 0) (cs' := kM_ r_5 B6 c6) hS12 k_sz_75_3 rfl (hf.get 4 2 rfl) rfl rfl rfl rfl rfl (lB rfl) rfl rfl) ?_
   rintro _ w_8 ⟨rfl, hS13⟩
   refine rw_nil ?_
   obtain rfl := some_inj hF4
   have ho1 : Org w0 (bl [⟨B, 127, [.bool c.bad], 1⟩]) [⟨B1, (v_.Cells.flatMap eN0)⟩] [⟨B6, (r_5.Cells.flatMap eN0)⟩] := ST.orgOwn hS13 (i := 5) rfl
   have hcap : r_5.Cells.length ≤ c6 := (hS13.lencap (i := 5) rfl (fm_lenn (l := r_5.Cells) eN1 rfl) rfl rfl)
   have hS14 : ST w0 (bl [⟨B, 127, [.bool c.bad], 1⟩]) _ [⟨aD b, 75, kM_ r_5 B6 c6, 3⟩, ⟨B5, 133, ((l ++ [r_3]).flatMap eN2), c5 * 4⟩, ⟨aD b1, 133, [vi r_3.Kind, vi r_3.I, vi r_3.J, vi r_3.M_], 4⟩, ⟨aD b2, 133, ([r_3].flatMap eN2), 1 * 4⟩, ⟨B, 127, [.bool m1.bad], 1⟩] [⟨B6, (r_5.Cells.flatMap eN0)⟩, ⟨B3, (Cells.flatMap eN0)⟩, ⟨B1, (v_.Cells.flatMap eN0)⟩] := hS13.freeze (i := 5) rfl
   have hS15 : ST w0 (bl [⟨B, 127, [.bool c.bad], 1⟩]) _ [⟨aD b, 75, kM_ r_5 B6 c6, 3⟩, ⟨B5, 133, ((l ++ [r_3]).flatMap eN2), c5 * 4⟩, ⟨aD b1, 133, [vi r_3.Kind, vi r_3.I, vi r_3.J, vi r_3.M_], 4⟩, ⟨aD b2, 133, ([r_3].flatMap eN2), 1 * 4⟩, ⟨B, 127, [.bool m1.bad], 1⟩] [⟨B6, (r_5.Cells.flatMap eN0)⟩, ⟨B1, (v_.Cells.flatMap eN0)⟩] := ST.subR hS14 (subc (mem_at (i := 0) rfl) (subc (mem_at (i := 2) rfl) (fun _ h => by cases h)))
   exact ⟨k_1, Nat.lt_succ_self _, m1.bad, r_5.Rows, r_5.Cols, r_5.Cells, (l ++ [r_3]), B6, c6, B5, c5, (FF.cons (hf.get 0 0 rfl) (FF.cons (hf.get 2 1 rfl) (FF.cons (hf.get 4 2 rfl) (FF.cons rfl FF.nil)))), ho1, (len_le rfl hcap), (hS15.sel [4, 0, 1] rfl rfl), hL1⟩
 ·skip
  have hF5 := cf' hb hb1
  refine cw_exit rfl ?_
  obtain rfl := some_inj hF5
  obtain rfl := some_inj hL1
  refine cw_seq (cw_seq (cw_region ?_))
  refine sQ 39 (Y_fieldAddr (B := aD b) (i := 0) (s := 0) k_fd_75_2_2_73 k_sz_73_1 rfl (hf.get 4 2 rfl)) ?_
  refine sQ 40 (Y_load1 (B := aD b) (i := 2) (cs := [vi Rows, vi Cols, .slice B3 Cells.length c3]) (v := .slice B3 Cells.length c3) k_sc_73 rfl rfl (hS5.cf (i := 1) rfl) rfl) ?_
  refine sQ 41 (Y_len (B := B3) (m := Cells.length) (c := c3) k_sl_73_124 rfl rfl) ?_
  refine sQ 42 (Y_move (v := vi 0) rfl rfl) (rw_nil ?_)
  obtain ⟨hN, hF1⟩ := chk_inv hF1
  obtain ⟨z1, hz1, hF6⟩ := bind_inv hF1
  refine cw_block ?_
  refine cw_loop (fun k f w => ∃ (i : Nat) (l1 : List TTwoLevel) (B7 : Option Addr) (c7 : Nat), FF f [(0, pt B 0), (2, vi from_), (8, .slice B7 l1.length c7), (40, .slice B3 Cells.length c3), (41, vi (Cells.length : Int)), (42, vi (i : Int))] ∧ ST w0 (bl [⟨B, 127, [.bool c.bad], 1⟩]) w [⟨B, 127, [.bool bad], 1⟩, ⟨B7, 133, (l1.flatMap eN2), c7 * 4⟩] [⟨B3, (Cells.flatMap eN0)⟩, ⟨B1, (v_.Cells.flatMap eN0)⟩] ∧ i + k = Cells.length ∧ forN (F_spec_l2C_column_l2 Cells from_) k i l1 = some z1) Cells.length ⟨0, l, B4, c4, (FF.cons (hf.get 0 0 rfl) (FF.cons (hf.get 2 1 rfl) (FF.cons (hf.get 8 3 rfl) (FF.cons rfl (FF.cons rfl (FF.cons rfl FF.nil)))))), (hS5.sel [0, 2] rfl rfl), Nat.zero_add _, hz1⟩ ?_
  rintro k_2 f w ⟨i, l1, B7, c7, hf1, hS16, hik1, hL2⟩
  refine cw_seq (cw_region ?_)
  refine sQ 43 (Y_lt (k := .i64) (a := (i : Int)) (b := (Cells.length : Int)) rfl (hf1.get 42 5 rfl) (hf1.get 41 4 rfl)) (rw_nil (cw_seq ?_))
  refine cw_cond (b := (decide ((i : Int) < (Cells.length : Int)))) rfl (fun hlt => ?_) (fun hlt => ?_)
  ·skip
   have hlt1 : i < Cells.length := by have h := of_decide_eq_true hlt; omega
   obtain ⟨k_3, rfl⟩ : ∃ k2, k_2 = k2 + 1 := ⟨k_2 - 1, by omega⟩
   obtain ⟨y1, hb3, hL3⟩ := forN_go hL2
   unfold F_spec_l2C_column_l2 at hb3
   refine cw_skip (cw_seq ?_)
   obtain ⟨z2, hz2, hF7⟩ := bind_inv hb3
   refine cw_mid (fun f w => ∃ (l2 : List TTwoLevel) (B8 : Option Addr) (c8 : Nat), l2 = z2 ∧ FF f [(0, pt B 0), (2, vi from_), (8, .slice B8 l2.length c8), (40, .slice B3 Cells.length c3), (41, vi (Cells.length : Int)), (42, vi (i : Int))] ∧ ST w0 (bl [⟨B, 127, [.bool c.bad], 1⟩]) w [⟨B, 127, [.bool bad], 1⟩, ⟨B8, 133, (l2.flatMap eN2), c8 * 4⟩] [⟨B3, (Cells.flatMap eN0)⟩, ⟨B1, (v_.Cells.flatMap eN0)⟩]) ?_ ?_
   ·skip
    refine cw_block (cw_seq (cw_region ?_))
    refine sQ 44 (Y_move (v := vi (i : Int)) rfl (hf1.get 42 5 rfl)) ?_
    obtain ⟨x, hx, hz2⟩ := bind_inv hz2
    refine sQ 45 (Y_index (B := B3) (m := Cells.length) (c := c3) (k := .i64) (i := (i : Int)) k_sl_73_124 k_sz_124_5 rfl (hf1.get 40 3 rfl) (hf1.get 42 5 rfl) (gi_isSome eN1 rfl (hS16.rf (i := 0) rfl) hx) (getI_nn hx) (getI_ltI hx rfl)) ?_
    refine sQ 46 (Y_loadA (B := B3) (i := (i : Int).toNat * 5) (cs := (Cells.flatMap eN0)) (vs := kD_ x) k_ag_124 k_sz_124_5 rfl rfl (hS16.rf (i := 0) rfl) (eN1 x) (gi_seg eN1 hx)) ?_
    refine sS 12 (Ys_alloc (T := 124) (cs := kZ_) (m := 5) hS16 k_zero_124 rfl rfl rfl) ?_
    rintro _ w_9 ⟨b3, rfl, hS18⟩
    refine sQ 11 (Y_assign (v := vi (i : Int)) rfl rfl) ?_
    refine s0 (Ys_store (i := 2) (s := 5) (B := aD b3) (T' := 124) (v := gD_ x) (vs := kD_ x) (k := 0) (cs' := kD_ x) hS18 k_sz_124_5 rfl rfl rfl rfl rfl rfl rfl (lB rfl) rfl rfl) ?_
    rintro _ w_10 ⟨rfl, hS19⟩
    refine rw_nil (cw_seq (cw_region ?_))
    refine sQ 48 (Y_loadA (B := aD b3) (i := 0) (cs := kD_ x) (vs := kD_ x) k_ag_124 k_sz_124_5 rfl rfl (hS19.cf (i := 2) rfl) rfl rfl) ?_
    obtain ⟨⟨r_6, r_7⟩, hc3, hz2⟩ := bind_inv hz2
    refine sc 49 rfl rfl (Yc_func (g := 143) (vs := [gD_ x]) k_call_143 rfl (mc rfl mn) (c_spec_PhaseOf x _  (hS19.inn0 [] rfl) hc3)) ?_
    rintro _ w_11 ⟨rfl, hd3⟩
    have hS20 := hS19.out00 hd3
    refine sQ 47 (Y_move (v := .tuple #[vi r_6, .bool r_7]) rfl rfl) ?_
    refine sQ 50 (Y_extract (v := vi r_6) rfl rfl rfl) ?_
    refine sQ 51 (Y_extract (v := .bool r_7) rfl rfl rfl) ?_
    refine sQ 13 (Y_assign (v := vi r_6) rfl rfl) ?_
    refine sQ 14 (Y_assign (v := .bool r_7) rfl rfl) (rw_nil (cw_seq (cw_seq (cw_region ?_))))
    refine sQ 52 (Y_move (v := .bool r_7) rfl rfl) ?_
    refine sQ 53 (Y_not (p := r_7) rfl rfl) (rw_nil ?_)
    refine cw_cond (b := (!r_7)) rfl (fun hb4 => ?_) (fun hb4 => ?_)
    ·skip
     have hF8 := ct hz2 hb4
     refine cw_exit rfl ?_
     exact ⟨l1, B7, c7, (some_inj hF8), (FF.cons (hf1.get 0 0 rfl) (FF.cons (hf1.get 2 1 rfl) (FF.cons (hf1.get 8 2 rfl) (FF.cons (hf1.get 40 3 rfl) (FF.cons (hf1.get 41 4 rfl) (FF.cons (hf1.get 42 5 rfl) FF.nil)))))), (hS20.sel [0, 1] rfl rfl)⟩
    ·skip
     have hF9 := cf' hz2 hb4
     refine cw_skip (cw_seq ?_)
     obtain ⟨z3, hz3, hF10⟩ := bind_inv hF9
     refine cw_mid (fun f w => ∃ (l3 : List TTwoLevel) (B9 : Option Addr) (c9 : Nat), l3 = z3 ∧ FF f [(0, pt B 0), (2, vi from_), (8, .slice B9 l3.length c9), (13, vi r_6), (40, .slice B3 Cells.length c3), (41, vi (Cells.length : Int)), (42, vi (i : Int))] ∧ ST w0 (bl [⟨B, 127, [.bool c.bad], 1⟩]) w [⟨B, 127, [.bool bad], 1⟩, ⟨B9, 133, (l3.flatMap eN2), c9 * 4⟩] [⟨B3, (Cells.flatMap eN0)⟩, ⟨B1, (v_.Cells.flatMap eN0)⟩]) ?_ ?_
     ·skip
      refine cw_seq (cw_region ?_)
      refine sQ 54 (Y_move (v := vi (i : Int)) rfl rfl) ?_
      refine sQ 55 (Y_move (v := vi from_) rfl (hf1.get 2 1 rfl)) ?_
      refine sQ 56 (Y_ne (k := .i64) (a := (i : Int)) (b := from_) rfl rfl rfl) (rw_nil ?_)
      refine cw_cond (b := ((i : Int) != from_)) rfl (fun hb5 => ?_) (fun hb5 => ?_)
      ·skip
       have hF11 := ct hz3 hb5
       refine cw_region ?_
       refine sQ 57 (Y_move (v := .slice B7 l1.length c7) rfl (hf1.get 8 2 rfl)) ?_
       refine sQ 58 (Y_move (v := vi (i : Int)) rfl rfl) ?_
       refine sQ 59 (Y_move (v := vi from_) rfl (hf1.get 2 1 rfl)) ?_
       obtain ⟨r_8, hc4, hF11⟩ := bind_inv hF11
       refine sc 60 rfl rfl (Yc_func (g := 144) (vs := [vi (i : Int), vi from_]) k_call_144 rfl (mc rfl (mc rfl mn)) (c_spec_l1Least (i : Int) from_ _  (hS20.inn0 [] rfl) hc4)) ?_
       rintro _ w_12 ⟨rfl, hd4⟩
       have hS22 := hS20.out00 hd4
       refine sQ 61 (Y_move (v := vi (i : Int)) rfl rfl) ?_
       refine sQ 62 (Y_move (v := vi from_) rfl (hf1.get 2 1 rfl)) ?_
       obtain ⟨r_9, hc5, hF11⟩ := bind_inv hF11
       refine sc 63 rfl rfl (Yc_func (g := 145) (vs := [vi (i : Int), vi from_]) k_call_145 rfl (mc rfl (mc rfl mn)) (c_spec_l1Most (i : Int) from_ _  (hS22.inn0 [] rfl) hc5)) ?_
       rintro _ w_13 ⟨rfl, hd5⟩
       have hS23 := hS22.out00 hd5
       refine sQ 64 (Y_buildS (zs := [vi 0, vi 0, vi 0, vi 0]) (vs := [(0, vi 2), (1, vi r_8), (2, vi r_9)]) (cs := [vi 2, vi r_8, vi r_9, vi 0]) k_pl_133 k_zero_133 rfl (mpc rfl (mpc rfl (mpc rfl mpn))) rfl) ?_
       refine sS 65 (Ys_bslice (s := 4) (len := 1) (vs := [(0, .agg #[vi 2, vi r_8, vi r_9, vi 0])]) (cs := [vi 2, vi r_8, vi r_9, vi 0]) (zs := [vi 0, vi 0, vi 0, vi 0]) (m := 4) hS23 k_sl_70_133 k_sz_133_4 k_zc_133 rfl (mpc rfl mpn) rfl rfl rfl (by kernel_rfl) (by kernel_rfl) rfl) ?_
       rintro _ w_14 ⟨b4, rfl, hS24⟩
       obtain ⟨hap1, hF11⟩ := chk_inv hF11
       refine sS 66 (Ys_append (s := 4) (by' := 32) (i := 1) (nn := l1.length) (c := c7) (k := 1) (len := (l1 ++ [(TTwoLevel.mk 2 r_8 r_9 0)]).length) (B := B7) (xs := ([(TTwoLevel.mk 2 r_8 r_9 0)].flatMap eN2)) (cs' := ((l1 ++ [(TTwoLevel.mk 2 r_8 r_9 0)]).flatMap eN2)) hS24 k_sl_70_133 k_sz_133_4 k_by_133_32 k_zero_133 rfl (by decide) rfl rfl rfl rfl (fm_lenn (l := l1) enc_TwoLevel_len rfl) rfl (hS24.cf (i := 3) rfl) (fm_lenn (l := [(TTwoLevel.mk 2 r_8 r_9 0)]) enc_TwoLevel_len rfl) (fm_one' (enc := eN2) enc_TwoLevel_one [(TTwoLevel.mk 2 r_8 r_9 0)]) (by have := hap1; omega) (by have := hap1; simp only [maxLen]; omega) (fm_app _ _) (app_len (l := l1) (l' := [(TTwoLevel.mk 2 r_8 r_9 0)]) rfl rfl)) ?_
       rintro _ w_15 ⟨B10, c10, rfl, hS25⟩
       refine sQ 8 (Y_assign (v := .slice B10 ((l1 ++ [(TTwoLevel.mk 2 r_8 r_9 0)]).length) c10) rfl rfl) (rw_nil ?_)
       exact ⟨(l1 ++ [(TTwoLevel.mk 2 r_8 r_9 0)]), B10, c10, (some_inj hF11), (FF.cons (hf1.get 0 0 rfl) (FF.cons (hf1.get 2 1 rfl) (FF.cons rfl (FF.cons rfl (FF.cons (hf1.get 40 3 rfl) (FF.cons (hf1.get 41 4 rfl) (FF.cons (hf1.get 42 5 rfl) FF.nil))))))), (hS25.sel [0, 1] rfl rfl)⟩
      ·skip
       have hF12 := cf' hz3 hb5
       refine cw_skip ?_
       exact ⟨l1, B7, c7, (some_inj hF12), (FF.cons (hf1.get 0 0 rfl) (FF.cons (hf1.get 2 1 rfl) (FF.cons (hf1.get 8 2 rfl) (FF.cons rfl (FF.cons (hf1.get 40 3 rfl) (FF.cons (hf1.get 41 4 rfl) (FF.cons (hf1.get 42 5 rfl) FF.nil))))))), (hS20.sel [0, 1] rfl rfl)⟩
     rintro f w ⟨l3, B9, c9, rfl, hf3, hS21⟩
     refine cw_seq (cw_region ?_)
     refine sQ 67 (Y_move (v := vi r_6) rfl (hf3.get 13 3 rfl)) ?_
     refine sQ 68 (Y_gt (k := .i64) (a := r_6) (b := 0) rfl rfl rfl) (rw_nil ?_)
     refine cw_cond (b := (decide (0 < r_6))) rfl (fun hb6 => ?_) (fun hb6 => ?_)
     ·skip
      have hF13 := ct hF10 hb6
      refine cw_region ?_
      refine sQ 69 (Y_move (v := .slice B9 l3.length c9) rfl (hf3.get 8 2 rfl)) ?_
      refine sQ 70 (Y_move (v := vi from_) rfl (hf3.get 2 1 rfl)) ?_
      refine sQ 71 (Y_move (v := vi r_6) rfl (hf3.get 13 3 rfl)) ?_
      refine sQ 72 (Y_sub (k := .i64) (a := 8) (b := r_6) rfl rfl rfl) ?_
      refine sQ 73 (Y_buildS (zs := [vi 0, vi 0, vi 0, vi 0]) (vs := [(0, vi 1), (1, vi from_), (3, vi (i64.wrap (8 - r_6)))]) (cs := [vi 1, vi from_, vi 0, vi (i64.wrap (8 - r_6))]) k_pl_133 k_zero_133 rfl (mpc rfl (mpc rfl (mpc rfl mpn))) rfl) ?_
      refine sS 74 (Ys_bslice (s := 4) (len := 1) (vs := [(0, .agg #[vi 1, vi from_, vi 0, vi (i64.wrap (8 - r_6))])]) (cs := [vi 1, vi from_, vi 0, vi (i64.wrap (8 - r_6))]) (zs := [vi 0, vi 0, vi 0, vi 0]) (m := 4) hS21 k_sl_70_133 k_sz_133_4 k_zc_133 rfl (mpc rfl mpn) rfl rfl rfl (by kernel_rfl) (by kernel_rfl) rfl) ?_
      rintro _ w_16 ⟨b5, rfl, hS26⟩
      obtain ⟨hap2, hF13⟩ := chk_inv hF13
      refine sS 75 (Ys_append (s := 4) (by' := 32) (i := 1) (nn := l3.length) (c := c9) (k := 1) (len := (l3 ++ [(TTwoLevel.mk 1 from_ 0 (i64.wrap (8 - r_6)))]).length) (B := B9) (xs := ([(TTwoLevel.mk 1 from_ 0 (i64.wrap (8 - r_6)))].flatMap eN2)) (cs' := ((l3 ++ [(TTwoLevel.mk 1 from_ 0 (i64.wrap (8 - r_6)))]).flatMap eN2)) hS26 k_sl_70_133 k_sz_133_4 k_by_133_32 k_zero_133 rfl (by decide) rfl rfl rfl rfl (fm_lenn (l := l3) enc_TwoLevel_len rfl) rfl (hS26.cf (i := 2) rfl) (fm_lenn (l := [(TTwoLevel.mk 1 from_ 0 (i64.wrap (8 - r_6)))]) enc_TwoLevel_len rfl) (fm_one' (enc := eN2) enc_TwoLevel_one [(TTwoLevel.mk 1 from_ 0 (i64.wrap (8 - r_6)))]) (by have := hap2; omega) (by have := hap2; simp only [maxLen]; omega) (fm_app _ _) (app_len (l := l3) (l' := [(TTwoLevel.mk 1 from_ 0 (i64.wrap (8 - r_6)))]) rfl rfl)) ?_
      rintro _ w_17 ⟨B11, c11, rfl, hS27⟩
      refine sQ 8 (Y_assign (v := .slice B11 ((l3 ++ [(TTwoLevel.mk 1 from_ 0 (i64.wrap (8 - r_6)))]).length) c11) rfl rfl) (rw_nil ?_)
      exact ⟨(l3 ++ [(TTwoLevel.mk 1 from_ 0 (i64.wrap (8 - r_6)))]), B11, c11, (some_inj hF13), (FF.cons (hf3.get 0 0 rfl) (FF.cons (hf3.get 2 1 rfl) (FF.cons rfl (FF.cons (hf3.get 40 4 rfl) (FF.cons (hf3.get 41 5 rfl) (FF.cons (hf3.get 42 6 rfl) FF.nil)))))), (hS27.sel [0, 1] rfl rfl)⟩
     ·skip
      have hF14 := cf' hF10 hb6
      refine cw_skip ?_
      exact ⟨l3, B9, c9, (some_inj hF14), (FF.cons (hf3.get 0 0 rfl) (FF.cons (hf3.get 2 1 rfl) (FF.cons (hf3.get 8 2 rfl) (FF.cons (hf3.get 40 4 rfl) (FF.cons (hf3.get 41 5 rfl) (FF.cons (hf3.get 42 6 rfl) FF.nil)))))), (hS21.sel [0, 1] rfl rfl)⟩
   rintro f w ⟨l2, B8, c8, rfl, hf2, hS17⟩
   refine cw_region ?_
   refine sQ 76 (Y_add (k := .i64) (a := (i : Int)) (b := 1) rfl (hf2.get 42 5 rfl) rfl) ?_
   refine sQ 42 (Y_move (v := vi (i64.wrap ((i : Int) + 1))) rfl rfl) (rw_nil ?_)
   obtain rfl := some_inj hF7
   exact ⟨k_3, Nat.lt_succ_self _, i + 1, l2, B8, c8, (FF.cons (hf2.get 0 0 rfl) (FF.cons (hf2.get 2 1 rfl) (FF.cons (hf2.get 8 2 rfl) (FF.cons (hf2.get 40 3 rfl) (FF.cons (hf2.get 41 4 rfl) (FF.cons (congrArg (Value.int .i64) (wr_succ hlt1 hN)) FF.nil)))))), (hS17.sel [0, 1] rfl rfl), (by omega), hL3⟩
  ·skip
   obtain rfl : k_2 = 0 := by have h := of_decide_eq_false hlt; omega
   refine cw_exit rfl ?_
   obtain rfl := some_inj hL2
   refine cw_seq (cw_seq (cw_region ?_))
   refine sQ 77 (Y_move (v := pt B 0) rfl (hf1.get 0 0 rfl)) ?_
   refine sQ 78 (Y_nilCheck (B := B) (i := 0) rfl rfl) ?_
   refine sQ 79 (Y_fieldAddr (B := B) (i := 0) (s := 0) k_fd_127_0_0_4 k_sz_4_1 rfl rfl) ?_
   refine sQ 80 (Y_load1 (B := B) (i := 0) (cs := [.bool bad]) (v := .bool bad) k_sc_4 rfl rfl (hS16.cf (i := 0) rfl) rfl) (rw_nil ?_)
   refine cw_cond (b := bad) rfl (fun hb7 => ?_) (fun hb7 => ?_)
   ·skip
    have hF15 := ct hF6 hb7
    refine cw_seq (cw_region ?_)
    refine sQ 6 (Y_assign (v := .slice none 0 0) rfl rfl) ?_
    refine sQ 7 (Y_assign (v := .bool false) rfl rfl) (rw_nil (cw_ret ?_))
    have hS28 := hS16.addNil 133
    obtain ⟨rfl, rfl, rfl⟩ := pr3 (some_inj hF15)
    exact ret2 Try.results78 (v1 := .slice none 0 0) (resAt_tmp rfl) (v2 := .bool false) (resAt_tmp rfl) ⟨none, 0, rfl, (hS28.sN [0, 2])⟩
   ·skip
    have hF16 := cf' hF6 hb7
    refine cw_skip (cw_seq (cw_region ?_))
    refine sQ 81 (Y_move (v := .slice B7 l1.length c7) rfl (hf1.get 8 2 rfl)) ?_
    refine sQ 6 (Y_assign (v := .slice B7 l1.length c7) rfl rfl) ?_
    refine sQ 7 (Y_assign (v := .bool true) rfl rfl) (rw_nil (cw_ret ?_))
    obtain ⟨rfl, rfl, rfl⟩ := pr3 (some_inj hF16)
    exact ret2 Try.results78 (v1 := .slice B7 l1.length c7) (resAt_tmp rfl) (v2 := .bool true) (resAt_tmp rfl) ⟨B7, c7, rfl, (hS16.sN [0, 1])⟩

theorem c_spec_ReduceColumn (v_ : TMatrix) (from_ : Int) (B : Option Addr) (c n : Nat) (w0 : World) (hn : v_.Cells.length = n) (hq : n ≤ c) (hS : ST w0 [] w0 [] [⟨B, (v_.Cells.flatMap eN0)⟩]) {r_ : List TTwoLevel} {r_1 : Bool} (hF : F_spec_ReduceColumn v_ from_ = some (r_, r_1)) :
  CV Try.prog 30 #[.agg #[vi v_.Rows, vi v_.Cols, .slice B n c], vi from_] w0 (fun v w' => ∃ (B1 : Option Addr) (c1 : Nat), v = .tuple #[.slice B1 r_.length c1, .bool r_1] ∧ ST w0 [] w' [⟨B1, 133, (r_.flatMap eN2), c1 * 4⟩] []) := by
 subst hn
 unfold F_spec_ReduceColumn at hF
 refine cv_of_cw 56 Try.func30 rfl Try.ntmps30 rfl ?_
 refine cw_seq (cw_region ?_)
 refine sS 2 (Ys_box (T := 75) (v := gM_ v_ B c) (cs := kM_ v_ B c) (m := 3) hS rfl rfl rfl rfl) ?_
 rintro _ w_ ⟨b, rfl, hS1⟩
 refine sQ 4 (Y_assign (v := .slice none 0 0) rfl rfl) ?_
 refine sQ 5 (Y_assign (v := .bool false) rfl rfl) (rw_nil (cw_seq (cw_seq (cw_region ?_))))
 refine sQ 9 (Y_loadA (B := aD b) (i := 0) (cs := kM_ v_ B c) (vs := kM_ v_ B c) k_ag_75 k_sz_75_3 rfl rfl (hS1.cf (i := 0) rfl) rfl rfl) ?_
 obtain ⟨r_2, hc, hF⟩ := bind_inv hF
 refine sc 10 rfl rfl (Yc_func (g := 75) (vs := [gM_ v_ B c]) k_call_75 rfl (mc rfl mn) (c_spec_l3Good v_ B c v_.Cells.length _ rfl (hS1.inn0 [(true, 0)] rfl) hc)) ?_
 rintro _ w_1 ⟨rfl, hd⟩
 have hS2 := hS1.out00 hd
 refine sQ 11 (Y_not (p := r_2) rfl rfl) ?_
 refine sQ 12 (Y_move (v := .bool (!r_2)) rfl rfl) ?_
 refine sgq 13 (B := (!(!r_2))) (v := pt (aD b) 0) rfl rfl (uF_ 12) (fun hg => (Y_fieldAddr (B := aD b) (i := 0) (s := 0) k_fd_75_0_0_3 k_sz_3_1 rfl rfl)) ?_
 refine sgq 14 (B := (!(!r_2))) (v := vi v_.Rows) rfl rfl (uF_ 12) (fun hg1 => (Y_load1 (B := aD b) (i := 0) (cs := kM_ v_ B c) (v := vi v_.Rows) k_sc_3 rfl (gv_of (v := pt (aD b) 0) hg1) (hS2.cf (i := 0) rfl) rfl)) ?_
 obtain ⟨r_3, hc1, hF⟩ := bind_inv hF
 refine sgc 15 (B := (!(!r_2))) (v := .bool r_3) (F := hS2.fn) rfl rfl (uF_ 12) hS2 (fun hg2 => (Yc_func (g := 76) (vs := [vi v_.Rows]) k_call_76 rfl (mc (gv_of (v := vi v_.Rows) hg2) mn) (CV.mono (c_spec_l11Dim v_.Rows _  (hS2.inn0 [] rfl) (gb_inv hc1 hg2)) (by rintro _ _ ⟨rfl, h⟩; exact ⟨rfl, hS2.out00 h⟩)))) ?_
 rintro w_2 hS3
 refine sgq 16 (B := (!(!r_2))) (v := .bool (!r_3)) rfl rfl (uF_ 12) (fun hg3 => (Y_not (p := r_3) rfl (gv_of (v := .bool r_3) hg3))) ?_
 refine sQ 17 (Y_or (b := (!r_2)) (z := (!r_3)) rfl rfl rfl rfl) ?_
 refine sQ 18 (Y_move (v := .bool ((!r_2) || (!r_3))) rfl rfl) ?_
 refine sgq 19 (B := (!((!r_2) || (!r_3)))) (v := pt (aD b) 1) rfl rfl (uF_ 18) (fun hg4 => (Y_fieldAddr (B := aD b) (i := 0) (s := 0) k_fd_75_1_1_3 k_sz_3_1 rfl rfl)) ?_
 refine sgq 20 (B := (!((!r_2) || (!r_3)))) (v := vi v_.Cols) rfl rfl (uF_ 18) (fun hg5 => (Y_load1 (B := aD b) (i := 1) (cs := kM_ v_ B c) (v := vi v_.Cols) k_sc_3 rfl (gv_of (v := pt (aD b) 1) hg5) (hS3.cf (i := 0) rfl) rfl)) ?_
 refine sgq 21 (B := (!((!r_2) || (!r_3)))) (v := .bool (v_.Cols != 1)) rfl rfl (uF_ 18) (fun hg6 => (Y_ne (k := .i64) (a := v_.Cols) (b := 1) rfl (gv_of (v := vi v_.Cols) hg6) rfl)) ?_
 refine sQ 22 (Y_or (b := ((!r_2) || (!r_3))) (z := (v_.Cols != 1)) rfl rfl rfl rfl) ?_
 refine sQ 23 (Y_move (v := .bool (((!r_2) || (!r_3)) || (v_.Cols != 1))) rfl rfl) ?_
 refine sgq 24 (B := (!(((!r_2) || (!r_3)) || (v_.Cols != 1)))) (v := vi from_) rfl rfl (uF_ 23) (fun hg7 => (Y_move (v := vi from_) rfl rfl)) ?_
 refine sgq 25 (B := (!(((!r_2) || (!r_3)) || (v_.Cols != 1)))) (v := pt (aD b) 0) rfl rfl (uF_ 23) (fun hg8 => (Y_fieldAddr (B := aD b) (i := 0) (s := 0) k_fd_75_0_0_3 k_sz_3_1 rfl rfl)) ?_
 refine sgq 26 (B := (!(((!r_2) || (!r_3)) || (v_.Cols != 1)))) (v := vi v_.Rows) rfl rfl (uF_ 23) (fun hg9 => (Y_load1 (B := aD b) (i := 0) (cs := kM_ v_ B c) (v := vi v_.Rows) k_sc_3 rfl (gv_of (v := pt (aD b) 0) hg9) (hS3.cf (i := 0) rfl) rfl)) ?_
 refine sgq 27 (B := (!(((!r_2) || (!r_3)) || (v_.Cols != 1)))) (v := vi (i64.wrap (v_.Rows - 1))) rfl rfl (uF_ 23) (fun hg10 => (Y_sub (k := .i64) (a := v_.Rows) (b := 1) rfl (gv_of (v := vi v_.Rows) hg10) rfl)) ?_
 obtain ⟨r_4, hc2, hF⟩ := bind_inv hF
 refine sgc 28 (B := (!(((!r_2) || (!r_3)) || (v_.Cols != 1)))) (v := .bool r_4) (F := hS3.fn) rfl rfl (uF_ 23) hS3 (fun hg11 => (Yc_func (g := 60) (vs := [vi from_, vi 0, vi (i64.wrap (v_.Rows - 1))]) k_call_60 rfl (mc (gv_of (v := vi from_) hg11) (mc rfl (mc (gv_of (v := vi (i64.wrap (v_.Rows - 1))) hg11) mn))) (CV.mono (c_spec_l1In from_ 0 (i64.wrap (v_.Rows - 1)) _  (hS3.inn0 [] rfl) (gb_inv hc2 hg11)) (by rintro _ _ ⟨rfl, h⟩; exact ⟨rfl, hS3.out00 h⟩)))) ?_
 rintro w_3 hS4
 refine sgq 29 (B := (!(((!r_2) || (!r_3)) || (v_.Cols != 1)))) (v := .bool (!r_4)) rfl rfl (uF_ 23) (fun hg12 => (Y_not (p := r_4) rfl (gv_of (v := .bool r_4) hg12))) ?_
 refine sQ 30 (Y_or (b := (((!r_2) || (!r_3)) || (v_.Cols != 1))) (z := (!r_4)) rfl rfl rfl rfl) (rw_nil ?_)
 refine cw_cond (b := ((((!r_2) || (!r_3)) || (v_.Cols != 1)) || (!r_4))) rfl (fun hb => ?_) (fun hb => ?_)
 ·skip
  have hF1 := ct hF hb
  refine cw_seq (cw_region ?_)
  refine sQ 4 (Y_assign (v := .slice none 0 0) rfl rfl) ?_
  refine sQ 5 (Y_assign (v := .bool false) rfl rfl) (rw_nil (cw_ret ?_))
  have hS5 := hS4.addNil 133
  obtain ⟨rfl, rfl⟩ := pr2 (some_inj hF1)
  exact ret2 Try.results30 (v1 := .slice none 0 0) (resAt_tmp rfl) (v2 := .bool false) (resAt_tmp rfl) ⟨none, 0, rfl, (hS5.sN [1])⟩
 ·skip
  have hF2 := cf' hF hb
  refine cw_skip (cw_seq (cw_seq (cw_region ?_)))
  refine sQ 31 (Y_fieldAddr (B := aD b) (i := 0) (s := 0) k_fd_75_2_2_73 k_sz_73_1 rfl rfl) ?_
  refine sQ 32 (Y_load1 (B := aD b) (i := 2) (cs := kM_ v_ B c) (v := .slice B v_.Cells.length c) k_sc_73 rfl rfl (hS4.cf (i := 0) rfl) rfl) ?_
  refine sQ 33 (Y_move (v := vi from_) rfl rfl) ?_
  obtain ⟨hsl, hF2⟩ := chk_inv hF2
  have hcap : v_.Cells.length ≤ c := hq
  have hv : (List.take from_.toNat v_.Cells).length = from_.toNat := (take_len rfl (by omega))
  have hq1 : from_.toNat ≤ c := by omega
  have ho : Org w0 [] [⟨B, (v_.Cells.flatMap eN0)⟩] [⟨B, ((List.take from_.toNat v_.Cells).flatMap eN0)⟩] := org_view eN1 (q := c) (org_mem (i := 0) rfl) (sv_zero _ _ _).symm rfl
  have hS6 : ST w0 [] _ [⟨aD b, 75, kM_ v_ B c, 3⟩] [⟨B, ((List.take from_.toNat v_.Cells).flatMap eN0)⟩, ⟨B, (v_.Cells.flatMap eN0)⟩] := ST.view eN1 hS4 (i := 0) rfl (lo := 0) (h := from_.toNat) (q := c) (by omega) (by omega) (sv_zero _ _ _).symm rfl
  refine sQ 34 (Y_slice0 (B := B) (m := v_.Cells.length) (c := c) (h := from_.toNat) (s := 5) k_sl_73_124 k_sz_124_5 rfl rfl (bnd_some rfl (nn_toNat (by omega))) (by omega)) ?_
  refine sQ 35 (Y_len (B := B) (m := from_.toNat) (c := c) k_sl_73_124 rfl rfl) ?_
  refine sQ 36 (Y_move (v := vi 0) rfl rfl) (rw_nil ?_)
  obtain ⟨hN, hF2⟩ := chk_inv hF2
  obtain ⟨z, hz, hF3⟩ := bind_inv hF2
  refine cw_block ?_
  refine cw_loop (fun k f w => ∃ (i : Nat), FF f [(1, vi from_), (2, pt (aD b) 0), (34, .slice B from_.toNat c), (35, vi (from_.toNat : Int)), (36, vi (i : Int))] ∧ ST w0 [] w [⟨aD b, 75, kM_ v_ B c, 3⟩] [⟨B, ((List.take from_.toNat v_.Cells).flatMap eN0)⟩, ⟨B, (v_.Cells.flatMap eN0)⟩] ∧ i + k = from_.toNat ∧ forX (F_spec_ReduceColumn_l1 from_ v_) k i () = some z) from_.toNat ⟨0, (FF.cons rfl (FF.cons rfl (FF.cons rfl (FF.cons rfl (FF.cons rfl FF.nil))))), (hS6.sel [0] rfl rfl), Nat.zero_add _, hz⟩ ?_
  rintro k_ f w ⟨i, hf, hS7, hik, hL⟩
  refine cw_seq (cw_region ?_)
  refine sQ 37 (Y_lt (k := .i64) (a := (i : Int)) (b := (from_.toNat : Int)) rfl (hf.get 36 4 rfl) (hf.get 35 3 rfl)) (rw_nil (cw_seq ?_))
  refine cw_cond (b := (decide ((i : Int) < (from_.toNat : Int)))) rfl (fun hlt => ?_) (fun hlt => ?_)
  ·skip
   have hlt1 : i < from_.toNat := by have h := of_decide_eq_true hlt; omega
   obtain ⟨k_1, rfl⟩ : ∃ k2, k_ = k2 + 1 := ⟨k_ - 1, by omega⟩
   obtain ⟨y, hb1, hL1⟩ := forX_go hL
   unfold F_spec_ReduceColumn_l1 at hb1
   refine cw_skip (cw_seq (cw_block (cw_seq (cw_region ?_))))
   obtain ⟨x, hx, hb1⟩ := bind_inv hb1
   refine sQ 38 (Y_index (B := B) (m := from_.toNat) (c := c) (k := .i64) (i := (i : Int)) k_sl_73_124 k_sz_124_5 rfl (hf.get 34 2 rfl) (hf.get 36 4 rfl) (gi_isSome eN1 rfl (hS7.rf (i := 0) rfl) hx) (getI_nn hx) (getI_ltI hx hv)) ?_
   refine sQ 39 (Y_loadA (B := B) (i := (i : Int).toNat * 5) (cs := ((List.take from_.toNat v_.Cells).flatMap eN0)) (vs := kD_ x) k_ag_124 k_sz_124_5 rfl rfl (hS7.rf (i := 0) rfl) (eN1 x) (gi_seg eN1 hx)) ?_
   refine sS 7 (Ys_alloc (T := 124) (cs := kZ_) (m := 5) hS7 k_zero_124 rfl rfl rfl) ?_
   rintro _ w_4 ⟨b1, rfl, hS8⟩
   refine s0 (Ys_store (i := 1) (s := 5) (B := aD b1) (T' := 124) (v := gD_ x) (vs := kD_ x) (k := 0) (cs' := kD_ x) hS8 k_sz_124_5 rfl rfl rfl rfl rfl rfl rfl (lB rfl) rfl rfl) ?_
   rintro _ w_5 ⟨rfl, hS9⟩
   refine rw_nil (cw_seq (cw_region ?_))
   refine sQ 40 (Y_loadA (B := aD b1) (i := 0) (cs := kD_ x) (vs := kD_ x) k_ag_124 k_sz_124_5 rfl rfl (hS9.cf (i := 1) rfl) rfl rfl) ?_
   refine sQ 41 (Y_buildS (zs := kZ_) (vs := []) (cs := kZ_) k_pl_124 k_zero_124 rfl mpn rfl) ?_
   refine sQ 42 (Y_neA (xs := #[vi x.Num.A, vi x.Num.B, vi x.Num.C, vi x.Num.D, vi x.Exp]) (ys := #[vi 0, vi 0, vi 0, vi 0, vi 0]) (b := (((x.Num.A == 0) && ((x.Num.B == 0) && ((x.Num.C == 0) && ((x.Num.D == 0) && true)))) && ((x.Exp == 0) && true))) k_eg_124 rfl rfl rfl (eqr_struct (xs := kD_ x) (ys := kZ_) k_st_124 k_ho_124 (pts_ag (us := kR_ x.Num) (vs := [vi 0, vi 0, vi 0, vi 0]) k_ag_122 k_sz_122_4 rfl rfl (eqr_struct (xs := kR_ x.Num) (ys := [vi 0, vi 0, vi 0, vi 0]) k_st_122 k_ho_122 (pts_sc k_sc_3 rfl rfl (eqr_int k_int_3_i64) (pts_sc k_sc_3 rfl rfl (eqr_int k_int_3_i64) (pts_sc k_sc_3 rfl rfl (eqr_int k_int_3_i64) (pts_sc k_sc_3 rfl rfl (eqr_int k_int_3_i64) pts_nil))))) (pts_sc k_sc_3 rfl rfl (eqr_int k_int_3_i64) pts_nil)))) (rw_nil ?_)
   refine cw_cond (b := (!(((x.Num.A == 0) && ((x.Num.B == 0) && ((x.Num.C == 0) && ((x.Num.D == 0) && true)))) && ((x.Exp == 0) && true)))) rfl (fun hb2 => ?_) (fun hb2 => ?_)
   ·skip
    have hF4 := ct hb1 hb2
    refine cw_seq (cw_region ?_)
    refine sQ 4 (Y_assign (v := .slice none 0 0) rfl rfl) ?_
    refine sQ 5 (Y_assign (v := .bool false) rfl rfl) (rw_nil (cw_ret ?_))
    have hS10 := hS9.addNil 133
    obtain rfl := some_inj hF4
    obtain rfl := some_inj hL1
    obtain ⟨rfl, rfl⟩ := pr2 (some_inj hF3)
    exact ret2 Try.results30 (v1 := .slice none 0 0) (resAt_tmp rfl) (v2 := .bool false) (resAt_tmp rfl) ⟨none, 0, rfl, (hS10.sN [2])⟩
   ·skip
    have hF5 := cf' hb1 hb2
    refine cw_skip (cw_region ?_)
    refine sQ 43 (Y_add (k := .i64) (a := (i : Int)) (b := 1) rfl (hf.get 36 4 rfl) rfl) ?_
    refine sQ 36 (Y_move (v := vi (i64.wrap ((i : Int) + 1))) rfl rfl) (rw_nil ?_)
    obtain rfl := some_inj hF5
    exact ⟨k_1, Nat.lt_succ_self _, i + 1, (FF.cons (hf.get 1 0 rfl) (FF.cons (hf.get 2 1 rfl) (FF.cons (hf.get 34 2 rfl) (FF.cons (hf.get 35 3 rfl) (FF.cons (congrArg (Value.int .i64) (wr_succ hlt1 hN)) FF.nil))))), (hS9.sel [0] rfl rfl), (by omega), hL1⟩
  ·skip
   obtain rfl : k_ = 0 := by have h := of_decide_eq_false hlt; omega
   refine cw_exit rfl ?_
   obtain rfl := some_inj hL
   refine cw_seq (cw_region ?_)
   refine sQ 44 (Y_buildS (zs := [.bool false]) (vs := []) (cs := [.bool false]) k_pl_127 k_zero_127 rfl mpn rfl) ?_
   refine sS 45 (Ys_box (T := 127) (v := .agg #[.bool false]) (cs := [.bool false]) (m := 1) hS7 rfl rfl rfl rfl) ?_
   rintro _ w_6 ⟨b2, rfl, hS11⟩
   refine sQ 8 (Y_assign (v := pt (aD b2) 0) rfl rfl) (rw_nil (cw_seq (cw_seq (cw_region ?_))))
   refine sQ 46 (Y_move (v := pt (aD b2) 0) rfl rfl) ?_
   refine sQ 47 (Y_loadA (B := aD b) (i := 0) (cs := kM_ v_ B c) (vs := kM_ v_ B c) k_ag_75 k_sz_75_3 rfl (hf.get 2 1 rfl) (hS11.cf (i := 0) rfl) rfl rfl) ?_
   obtain ⟨⟨r_5, m⟩, hc3, hF3⟩ := bind_inv hF3
   refine sc 48 rfl rfl (Yc_func (g := 77) (vs := [pt (aD b2) 0, gM_ v_ B c]) k_call_77 rfl (mc rfl (mc rfl mn)) (c_spec_l2C_unit (Tl2C.mk false) v_ (aD b2) B c v_.Cells.length _ rfl (hS11.inn [false, true] rfl [(true, 1)] rfl) hc3)) ?_
   rintro _ w_7 ⟨rfl, hd1⟩
   have hS12 := hS11.out [false, true] rfl hd1
   refine sQ 49 (Y_not (p := r_5) rfl rfl) (rw_nil ?_)
   refine cw_cond (b := (!r_5)) rfl (fun hb3 => ?_) (fun hb3 => ?_)
   ·skip
    have hF6 := ct hF3 hb3
    refine cw_seq (cw_region ?_)
    refine sQ 4 (Y_assign (v := .slice none 0 0) rfl rfl) ?_
    refine sQ 5 (Y_assign (v := .bool false) rfl rfl) (rw_nil (cw_ret ?_))
    have hS13 := hS12.addNil 133
    obtain ⟨rfl, rfl⟩ := pr2 (some_inj hF6)
    exact ret2 Try.results30 (v1 := .slice none 0 0) (resAt_tmp rfl) (v2 := .bool false) (resAt_tmp rfl) ⟨none, 0, rfl, (hS13.sN [2])⟩
   ·skip
    have hF7 := cf' hF3 hb3
    refine cw_skip (cw_seq (cw_region ?_))
    refine sQ 50 (Y_move (v := pt (aD b2) 0) rfl rfl) ?_
    refine sQ 51 (Y_loadA (B := aD b) (i := 0) (cs := kM_ v_ B c) (vs := kM_ v_ B c) k_ag_75 k_sz_75_3 rfl (hf.get 2 1 rfl) (hS12.cf (i := 0) rfl) rfl rfl) ?_
    refine sQ 52 (Y_move (v := vi from_) rfl (hf.get 1 0 rfl)) ?_
    obtain ⟨⟨r_6, r_7, m1⟩, hc4, hF7⟩ := bind_inv hF7
    refine sc 53 rfl rfl (Yc_func (g := 78) (vs := [pt (aD b2) 0, gM_ v_ B c, vi from_]) k_call_78 rfl (mc rfl (mc rfl (mc rfl mn))) (c_spec_l2C_column m v_ from_ (aD b2) B c v_.Cells.length _ rfl hq (hS12.inn [false, true] rfl [(true, 1)] rfl) hc4)) ?_
    rintro _ w_8 ⟨B2, c2, rfl, hd2⟩
    have hS14 := hS12.out [false, true] rfl hd2
    refine sQ 54 (Y_extract (v := .slice B2 r_6.length c2) rfl rfl rfl) ?_
    refine sQ 55 (Y_extract (v := .bool r_7) rfl rfl rfl) ?_
    refine sQ 4 (Y_assign (v := .slice B2 r_6.length c2) rfl rfl) ?_
    refine sQ 5 (Y_assign (v := .bool r_7) rfl rfl) (rw_nil (cw_ret ?_))
    obtain ⟨rfl, rfl⟩ := pr2 (some_inj hF7)
    exact ret2 Try.results30 (v1 := .slice B2 r_6.length c2) (resAt_tmp rfl) (v2 := .bool r_7) (resAt_tmp rfl) ⟨B2, c2, rfl, (hS14.sN [2])⟩

theorem c_laws_toRing (a : TRing)  (w0 : World)  (hS : ST w0 [] w0 [] []) {r_ : TRing} (hF : F_laws_toRing a = some r_) :
  CV Try.prog 207 #[gR_ a] w0 (fun v w' => v = (gR_ r_) ∧ ST w0 [] w' [] []) := by
 unfold F_laws_toRing at hF
 refine cv_of_cw 17 Try.func207 rfl Try.ntmps207 rfl ?_
 refine cw_seq (cw_region ?_)
 refine sS 1 (Ys_box (T := 201) (v := gR_ a) (cs := kR_ a) (m := 4) hS rfl rfl rfl rfl) ?_
 rintro _ w_ ⟨b, rfl, hS1⟩
 refine sS 2 (Ys_alloc (T := 122) (cs := [vi 0, vi 0, vi 0, vi 0]) (m := 4) hS1 k_zero_122 rfl rfl rfl) ?_
 rintro _ w_1 ⟨b1, rfl, hS2⟩
 refine rw_nil (cw_seq (cw_region ?_))
 refine sS 3 (Ys_alloc (T := 122) (cs := [vi 0, vi 0, vi 0, vi 0]) (m := 4) hS2 k_zero_122 rfl rfl rfl) ?_
 rintro _ w_2 ⟨b2, rfl, hS3⟩
 refine rw_nil (cw_seq (cw_region ?_))
 refine sQ 4 (Y_fieldAddr (B := aD b) (i := 0) (s := 0) k_fd_201_0_0_3 k_sz_3_1 rfl rfl) ?_
 refine sQ 5 (Y_load1 (B := aD b) (i := 0) (cs := kR_ a) (v := vi a.A) k_sc_3 rfl rfl (hS3.cf (i := 0) rfl) rfl) ?_
 refine sQ 6 (Y_fieldAddr (B := aD b2) (i := 0) (s := 0) k_fd_122_0_0_3 k_sz_3_1 rfl rfl) ?_
 refine s0 (Ys_store (i := 2) (s := 1) (B := aD b2) (T' := 122) (v := vi a.A) (vs := [vi a.A]) (k := 0) (cs' := [vi a.A, vi 0, vi 0, vi 0]) hS3 k_sz_3_1 rfl rfl rfl rfl rfl rfl rfl (lB rfl) rfl rfl) ?_
 rintro _ w_3 ⟨rfl, hS4⟩
 refine rw_nil (cw_seq (cw_region ?_))
 refine sQ 7 (Y_fieldAddr (B := aD b) (i := 0) (s := 0) k_fd_201_1_1_3 k_sz_3_1 rfl rfl) ?_
 refine sQ 8 (Y_load1 (B := aD b) (i := 1) (cs := kR_ a) (v := vi a.B) k_sc_3 rfl rfl (hS4.cf (i := 0) rfl) rfl) ?_
 refine sQ 9 (Y_fieldAddr (B := aD b2) (i := 0) (s := 0) k_fd_122_1_1_3 k_sz_3_1 rfl rfl) ?_
 refine s0 (Ys_store (i := 2) (s := 1) (B := aD b2) (T' := 122) (v := vi a.B) (vs := [vi a.B]) (k := 1) (cs' := [vi a.A, vi a.B, vi 0, vi 0]) hS4 k_sz_3_1 rfl rfl rfl rfl rfl rfl rfl (lB rfl) rfl rfl) ?_
 rintro _ w_4 ⟨rfl, hS5⟩
 refine rw_nil (cw_seq (cw_region ?_))
 refine sQ 10 (Y_fieldAddr (B := aD b) (i := 0) (s := 0) k_fd_201_2_2_3 k_sz_3_1 rfl rfl) ?_
 refine sQ 11 (Y_load1 (B := aD b) (i := 2) (cs := kR_ a) (v := vi a.C) k_sc_3 rfl rfl (hS5.cf (i := 0) rfl) rfl) ?_
 refine sQ 12 (Y_fieldAddr (B := aD b2) (i := 0) (s := 0) k_fd_122_2_2_3 k_sz_3_1 rfl rfl) ?_
 refine s0 (Ys_store (i := 2) (s := 1) (B := aD b2) (T' := 122) (v := vi a.C) (vs := [vi a.C]) (k := 2) (cs' := [vi a.A, vi a.B, vi a.C, vi 0]) hS5 k_sz_3_1 rfl rfl rfl rfl rfl rfl rfl (lB rfl) rfl rfl) ?_
 rintro _ w_5 ⟨rfl, hS6⟩
 refine rw_nil (cw_seq (cw_region ?_))
 refine sQ 13 (Y_fieldAddr (B := aD b) (i := 0) (s := 0) k_fd_201_3_3_3 k_sz_3_1 rfl rfl) ?_
 refine sQ 14 (Y_load1 (B := aD b) (i := 3) (cs := kR_ a) (v := vi a.D) k_sc_3 rfl rfl (hS6.cf (i := 0) rfl) rfl) ?_
 refine sQ 15 (Y_fieldAddr (B := aD b2) (i := 0) (s := 0) k_fd_122_3_3_3 k_sz_3_1 rfl rfl) ?_
 refine s0 (Ys_store (i := 2) (s := 1) (B := aD b2) (T' := 122) (v := vi a.D) (vs := [vi a.D]) (k := 3) (cs' := kR_ a) hS6 k_sz_3_1 rfl rfl rfl rfl rfl rfl rfl (lB rfl) rfl rfl) ?_
 rintro _ w_6 ⟨rfl, hS7⟩
 refine rw_nil (cw_seq (cw_region ?_))
 refine sQ 16 (Y_loadA (B := aD b2) (i := 0) (cs := kR_ a) (vs := kR_ a) k_ag_122 k_sz_122_4 rfl rfl (hS7.cf (i := 2) rfl) rfl rfl) ?_
 refine s0 (Ys_store (i := 1) (s := 4) (B := aD b1) (T' := 122) (v := gR_ a) (vs := kR_ a) (k := 0) (cs' := kR_ a) hS7 k_sz_122_4 rfl rfl rfl rfl rfl rfl rfl (lB rfl) rfl rfl) ?_
 rintro _ w_7 ⟨rfl, hS8⟩
 refine rw_nil (cw_ret ?_)
 obtain rfl := some_inj hF
 exact ret1 Try.results207 (v1 := gR_ a) (resAt_cellA (B := aD b1) (i := 0) (cs := kR_ a) (vs := kR_ a) rfl k_ag_122 k_sz_122_4 (hS8.cf (i := 1) rfl) rfl rfl) ⟨rfl, (hS8.sN [])⟩

theorem c_laws_toDyadic (a : TDyadic)  (w0 : World)  (hS : ST w0 [] w0 [] []) {r_ : TDyadic} (hF : F_laws_toDyadic a = some r_) :
  CV Try.prog 146 #[gD_ a] w0 (fun v w' => v = (gD_ r_) ∧ ST w0 [] w' [] []) := by
 unfold F_laws_toDyadic at hF
 refine cv_of_cw 12 Try.func146 rfl Try.ntmps146 rfl ?_
 refine cw_seq (cw_region ?_)
 refine sS 1 (Ys_box (T := 203) (v := gD_ a) (cs := kD_ a) (m := 5) hS rfl rfl rfl rfl) ?_
 rintro _ w_ ⟨b, rfl, hS1⟩
 refine sS 2 (Ys_alloc (T := 124) (cs := kZ_) (m := 5) hS1 k_zero_124 rfl rfl rfl) ?_
 rintro _ w_1 ⟨b1, rfl, hS2⟩
 refine rw_nil (cw_seq (cw_region ?_))
 refine sS 3 (Ys_alloc (T := 124) (cs := kZ_) (m := 5) hS2 k_zero_124 rfl rfl rfl) ?_
 rintro _ w_2 ⟨b2, rfl, hS3⟩
 refine rw_nil (cw_seq (cw_region ?_))
 refine sQ 4 (Y_fieldAddr (B := aD b) (i := 0) (s := 3) k_fd_203_0_0_201 k_sz_201_4 rfl rfl) ?_
 refine sQ 5 (Y_loadA (B := aD b) (i := 0) (cs := kD_ a) (vs := kR_ a.Num) k_ag_201 k_sz_201_4 rfl rfl (hS3.cf (i := 0) rfl) rfl rfl) ?_
 obtain ⟨r_1, hc, hF⟩ := bind_inv hF
 refine sc 6 rfl rfl (Yc_func (g := 207) (vs := [gR_ a.Num]) k_call_207 rfl (mc rfl mn) (c_laws_toRing a.Num _  (hS3.inn0 [] rfl) hc)) ?_
 rintro _ w_3 ⟨rfl, hd⟩
 have hS4 := hS3.out00 hd
 refine sQ 7 (Y_fieldAddr (B := aD b2) (i := 0) (s := 3) k_fd_124_0_0_122 k_sz_122_4 rfl rfl) ?_
 refine s0 (Ys_store (i := 2) (s := 4) (B := aD b2) (T' := 124) (v := gR_ r_1) (vs := kR_ r_1) (k := 0) (cs' := [vi r_1.A, vi r_1.B, vi r_1.C, vi r_1.D, vi 0]) hS4 k_sz_122_4 rfl rfl rfl rfl rfl rfl rfl (lB rfl) rfl rfl) ?_
 rintro _ w_4 ⟨rfl, hS5⟩
 refine rw_nil (cw_seq (cw_region ?_))
 refine sQ 8 (Y_fieldAddr (B := aD b) (i := 0) (s := 0) k_fd_203_1_4_3 k_sz_3_1 rfl rfl) ?_
 refine sQ 9 (Y_load1 (B := aD b) (i := 4) (cs := kD_ a) (v := vi a.Exp) k_sc_3 rfl rfl (hS5.cf (i := 0) rfl) rfl) ?_
 refine sQ 10 (Y_fieldAddr (B := aD b2) (i := 0) (s := 0) k_fd_124_1_4_3 k_sz_3_1 rfl rfl) ?_
 refine s0 (Ys_store (i := 2) (s := 1) (B := aD b2) (T' := 124) (v := vi a.Exp) (vs := [vi a.Exp]) (k := 4) (cs' := [vi r_1.A, vi r_1.B, vi r_1.C, vi r_1.D, vi a.Exp]) hS5 k_sz_3_1 rfl rfl rfl rfl rfl rfl rfl (lB rfl) rfl rfl) ?_
 rintro _ w_5 ⟨rfl, hS6⟩
 refine rw_nil (cw_seq (cw_region ?_))
 refine sQ 11 (Y_loadA (B := aD b2) (i := 0) (cs := [vi r_1.A, vi r_1.B, vi r_1.C, vi r_1.D, vi a.Exp]) (vs := [vi r_1.A, vi r_1.B, vi r_1.C, vi r_1.D, vi a.Exp]) k_ag_124 k_sz_124_5 rfl rfl (hS6.cf (i := 2) rfl) rfl rfl) ?_
 refine s0 (Ys_store (i := 1) (s := 5) (B := aD b1) (T' := 124) (v := .agg #[vi r_1.A, vi r_1.B, vi r_1.C, vi r_1.D, vi a.Exp]) (vs := [vi r_1.A, vi r_1.B, vi r_1.C, vi r_1.D, vi a.Exp]) (k := 0) (cs' := [vi r_1.A, vi r_1.B, vi r_1.C, vi r_1.D, vi a.Exp]) hS6 k_sz_124_5 rfl rfl rfl rfl rfl rfl rfl (lB rfl) rfl rfl) ?_
 rintro _ w_6 ⟨rfl, hS7⟩
 refine rw_nil (cw_ret ?_)
 obtain rfl := some_inj hF
 exact ret1 Try.results146 (v1 := .agg #[vi r_1.A, vi r_1.B, vi r_1.C, vi r_1.D, vi a.Exp]) (resAt_cellA (B := aD b1) (i := 0) (cs := [vi r_1.A, vi r_1.B, vi r_1.C, vi r_1.D, vi a.Exp]) (vs := [vi r_1.A, vi r_1.B, vi r_1.C, vi r_1.D, vi a.Exp]) rfl k_ag_124 k_sz_124_5 (hS7.cf (i := 1) rfl) rfl rfl) ⟨rfl, (hS7.sN [])⟩

theorem c_laws_toDyadicS (a : List TDyadic) (B : Option Addr) (c n : Nat) (w0 : World) (hn : a.length = n) (hS : ST w0 [] w0 [] [⟨B, (a.flatMap eN0)⟩]) {r_ : List TDyadic} (hF : F_laws_toDyadicS a = some r_) :
  CV Try.prog 79 #[.slice B n c] w0 (fun v w' => ∃ (B1 : Option Addr) (c1 : Nat), v = .slice B1 r_.length c1 ∧ ST w0 [] w' [⟨B1, 124, (r_.flatMap eN0), c1 * 5⟩] []) := by
 subst hn
 unfold F_laws_toDyadicS at hF
 refine cv_of_cw 23 Try.func79 rfl Try.ntmps79 rfl ?_
 refine cw_seq (cw_region ?_)
 refine sQ 2 (Y_assign (v := .slice none 0 0) rfl rfl) (rw_nil (cw_seq (cw_region ?_)))
 refine sQ 5 (Y_move (v := .slice B a.length c) rfl rfl) ?_
 refine sQ 6 (Y_len (B := B) (m := a.length) (c := c) k_sl_66_203 rfl rfl) ?_
 obtain ⟨hmk, hF⟩ := chk_inv hF
 refine sS 7 (Ys_make (s := 5) (by' := 40) (nn := a.length) (a := (a.length : Int)) (b := (a.length : Int)) (cs := ((List.replicate a.length (TDyadic.mk (TRing.mk 0 0 0 0) 0)).flatMap eN0)) hS k_sl_73_124 k_sz_124_5 k_by_124_40 k_zero_124 rfl rfl rfl rfl hmk.1 rfl (by have := hmk; omega) (by have := hmk; omega) (by omega) (fm_rep (enc := eN0) (d := (TDyadic.mk (TRing.mk 0 0 0 0) 0)) rfl _)) ?_
 rintro _ w_ ⟨b, rfl, hS1⟩
 refine sQ 3 (Y_assign (v := .slice (aD b) a.length a.length) rfl rfl) (rw_nil (cw_seq (cw_seq (cw_region ?_))))
 refine sQ 4 (Y_assign (v := vi 0) rfl rfl) (rw_nil ?_)
 obtain ⟨hN, hF⟩ := chk_inv hF
 obtain ⟨z, hz, hF1⟩ := bind_inv hF
 refine cw_block ?_
 refine cw_loop (fun k f w => ∃ (i1 : Nat) (out : List TDyadic), FF f [(0, .slice B a.length c), (3, .slice (aD b) a.length a.length), (4, vi (i1 : Int))] ∧ out.length = a.length ∧ ST w0 [] w [⟨aD b, 124, (out.flatMap eN0), a.length * 5⟩] [⟨B, (a.flatMap eN0)⟩] ∧ i1 + k = a.length ∧ forN (F_laws_toDyadicS_l1 a) k i1 out = some z) a.length ⟨0, (List.replicate a.length (TDyadic.mk (TRing.mk 0 0 0 0) 0)), (FF.cons rfl (FF.cons rfl (FF.cons rfl FF.nil))), List.length_replicate, (hS1.sel [0] rfl rfl), Nat.zero_add _, hz⟩ ?_
 rintro k_ f w ⟨i1, out, hf, hl, hS2, hik, hL⟩
 refine cw_seq (cw_seq (cw_region ?_))
 refine sQ 8 (Y_move (v := vi (i1 : Int)) rfl (hf.get 4 2 rfl)) ?_
 refine sQ 9 (Y_move (v := .slice B a.length c) rfl (hf.get 0 0 rfl)) ?_
 refine sQ 10 (Y_len (B := B) (m := a.length) (c := c) k_sl_66_203 rfl rfl) ?_
 refine sQ 11 (Y_lt (k := .i64) (a := (i1 : Int)) (b := (a.length : Int)) rfl rfl rfl) (rw_nil ?_)
 refine cw_cond (b := (decide ((i1 : Int) < (a.length : Int)))) rfl (fun hlt => ?_) (fun hlt => ?_)
 ·skip
  have hlt1 : i1 < a.length := by have h := of_decide_eq_true hlt; omega
  obtain ⟨k_1, rfl⟩ : ∃ k2, k_ = k2 + 1 := ⟨k_ - 1, by omega⟩
  obtain ⟨y, hb, hL1⟩ := forN_go hL
  unfold F_laws_toDyadicS_l1 at hb
  refine cw_skip (cw_seq (cw_block (cw_region ?_)))
  refine sQ 14 (Y_move (v := .slice (aD b) a.length a.length) rfl (hf.get 3 1 rfl)) ?_
  refine sQ 15 (Y_move (v := vi (i1 : Int)) rfl (hf.get 4 2 rfl)) ?_
  refine sQ 16 (Y_move (v := .slice B a.length c) rfl (hf.get 0 0 rfl)) ?_
  refine sQ 17 (Y_move (v := vi (i1 : Int)) rfl (hf.get 4 2 rfl)) ?_
  obtain ⟨x, hx, hb⟩ := bind_inv hb
  refine sQ 18 (Y_index (B := B) (m := a.length) (c := c) (k := .i64) (i := (i1 : Int)) k_sl_66_203 k_sz_203_5 rfl rfl rfl (gi_isSome eN1 rfl (hS2.rf (i := 0) rfl) hx) (getI_nn hx) (getI_ltI hx rfl)) ?_
  refine sQ 19 (Y_loadA (B := B) (i := (i1 : Int).toNat * 5) (cs := (a.flatMap eN0)) (vs := kD_ x) k_ag_203 k_sz_203_5 rfl rfl (hS2.rf (i := 0) rfl) (eN1 x) (gi_seg eN1 hx)) ?_
  obtain ⟨r_1, hc, hb⟩ := bind_inv hb
  refine sc 20 rfl rfl (Yc_func (g := 146) (vs := [gD_ x]) k_call_146 rfl (mc rfl mn) (c_laws_toDyadic x _  (hS2.inn0 [] rfl) hc)) ?_
  rintro _ w_1 ⟨rfl, hd⟩
  have hS3 := hS2.out00 hd
  obtain ⟨x1, hx1, hb⟩ := bind_inv hb
  refine sQ 21 (Y_index (B := aD b) (m := a.length) (c := a.length) (k := .i64) (i := (i1 : Int)) k_sl_73_124 k_sz_124_5 rfl rfl rfl (gi_isSome eN1 rfl (hS3.cf (i := 0) rfl) hx1) (getI_nn hx1) (getI_ltI hx1 hl)) ?_
  refine s0 (Ys_store (i := 0) (s := 5) (B := aD b) (T' := 124) (v := gD_ r_1) (vs := kD_ r_1) (k := (i1 : Int).toNat * 5) (cs' := ((out.set (i1 : Int).toNat r_1).flatMap eN0)) hS3 k_sz_124_5 rfl rfl rfl rfl rfl rfl rfl (gi_fit0 eN1 hx1) (gi_set eN1 hx1 r_1 rfl) rfl) ?_
  rintro _ w_2 ⟨rfl, hS4⟩
  refine rw_nil (cw_region ?_)
  refine sQ 12 (Y_move (v := vi (i1 : Int)) rfl (hf.get 4 2 rfl)) ?_
  refine sQ 13 (Y_add (k := .i64) (a := (i1 : Int)) (b := 1) rfl rfl rfl) ?_
  refine sQ 4 (Y_assign (v := vi (i64.wrap ((i1 : Int) + 1))) rfl rfl) (rw_nil ?_)
  obtain rfl := some_inj hb
  exact ⟨k_1, Nat.lt_succ_self _, i1 + 1, (out.set (i1 : Int).toNat r_1), (FF.cons (hf.get 0 0 rfl) (FF.cons (hf.get 3 1 rfl) (FF.cons (congrArg (Value.int .i64) (wr_succ hlt1 hN)) FF.nil))), (set_len _ _ _ hl), (hS4.sel [0] rfl rfl), (by omega), hL1⟩
 ·skip
  obtain rfl : k_ = 0 := by have h := of_decide_eq_false hlt; omega
  refine cw_exit rfl ?_
  obtain rfl := some_inj hL
  refine cw_seq (cw_region ?_)
  refine sQ 22 (Y_move (v := .slice (aD b) a.length a.length) rfl (hf.get 3 1 rfl)) ?_
  refine sQ 2 (Y_assign (v := .slice (aD b) a.length a.length) rfl rfl) (rw_nil (cw_ret ?_))
  obtain rfl := some_inj hF1
  exact ret1 Try.results79 (v1 := .slice (aD b) a.length a.length) (resAt_tmp rfl) ⟨aD b, a.length, (sl_eqv hl), (hS2.sN [0])⟩

theorem c_laws_toMatrix (a : TMatrix) (B : Option Addr) (c n : Nat) (w0 : World) (hn : a.Cells.length = n) (hS : ST w0 [] w0 [] [⟨B, (a.Cells.flatMap eN0)⟩]) {r_ : TMatrix} (hF : F_laws_toMatrix a = some r_) :
  CV Try.prog 31 #[.agg #[vi a.Rows, vi a.Cols, .slice B n c]] w0 (fun v w' => ∃ (B1 : Option Addr) (c1 : Nat), v = (gM_ r_ B1 c1) ∧ ST w0 [] w' [⟨B1, 124, (r_.Cells.flatMap eN0), c1 * 5⟩] []) := by
 subst hn
 unfold F_laws_toMatrix at hF
 refine cv_of_cw 15 Try.func31 rfl Try.ntmps31 rfl ?_
 refine cw_seq (cw_region ?_)
 refine sS 1 (Ys_box (T := 68) (v := gM_ a B c) (cs := kM_ a B c) (m := 3) hS rfl rfl rfl rfl) ?_
 rintro _ w_ ⟨b, rfl, hS1⟩
 refine sS 2 (Ys_alloc (T := 75) (cs := kN_) (m := 3) hS1 k_zero_75 rfl rfl rfl) ?_
 rintro _ w_1 ⟨b1, rfl, hS2⟩
 refine rw_nil (cw_seq (cw_region ?_))
 refine sS 3 (Ys_alloc (T := 75) (cs := kN_) (m := 3) hS2 k_zero_75 rfl rfl rfl) ?_
 rintro _ w_2 ⟨b2, rfl, hS3⟩
 refine rw_nil (cw_seq (cw_region ?_))
 refine sQ 4 (Y_fieldAddr (B := aD b) (i := 0) (s := 0) k_fd_68_0_0_3 k_sz_3_1 rfl rfl) ?_
 refine sQ 5 (Y_load1 (B := aD b) (i := 0) (cs := kM_ a B c) (v := vi a.Rows) k_sc_3 rfl rfl (hS3.cf (i := 0) rfl) rfl) ?_
 refine sQ 6 (Y_fieldAddr (B := aD b2) (i := 0) (s := 0) k_fd_75_0_0_3 k_sz_3_1 rfl rfl) ?_
 refine s0 (Ys_store (i := 2) (s := 1) (B := aD b2) (T' := 75) (v := vi a.Rows) (vs := [vi a.Rows]) (k := 0) (cs' := [vi a.Rows, vi 0, .slice none 0 0]) hS3 k_sz_3_1 rfl rfl rfl rfl rfl rfl rfl (lB rfl) rfl rfl) ?_
 rintro _ w_3 ⟨rfl, hS4⟩
 refine rw_nil (cw_seq (cw_region ?_))
 refine sQ 7 (Y_fieldAddr (B := aD b) (i := 0) (s := 0) k_fd_68_1_1_3 k_sz_3_1 rfl rfl) ?_
 refine sQ 8 (Y_load1 (B := aD b) (i := 1) (cs := kM_ a B c) (v := vi a.Cols) k_sc_3 rfl rfl (hS4.cf (i := 0) rfl) rfl) ?_
 refine sQ 9 (Y_fieldAddr (B := aD b2) (i := 0) (s := 0) k_fd_75_1_1_3 k_sz_3_1 rfl rfl) ?_
 refine s0 (Ys_store (i := 2) (s := 1) (B := aD b2) (T' := 75) (v := vi a.Cols) (vs := [vi a.Cols]) (k := 1) (cs' := [vi a.Rows, vi a.Cols, .slice none 0 0]) hS4 k_sz_3_1 rfl rfl rfl rfl rfl rfl rfl (lB rfl) rfl rfl) ?_
 rintro _ w_4 ⟨rfl, hS5⟩
 refine rw_nil (cw_seq (cw_region ?_))
 refine sQ 10 (Y_fieldAddr (B := aD b) (i := 0) (s := 0) k_fd_68_2_2_66 k_sz_66_1 rfl rfl) ?_
 refine sQ 11 (Y_load1 (B := aD b) (i := 2) (cs := kM_ a B c) (v := .slice B a.Cells.length c) k_sc_66 rfl rfl (hS5.cf (i := 0) rfl) rfl) ?_
 obtain ⟨r_1, hc, hF⟩ := bind_inv hF
 refine sc 12 rfl rfl (Yc_func (g := 79) (vs := [.slice B a.Cells.length c]) k_call_79 rfl (mc rfl mn) (c_laws_toDyadicS a.Cells B c a.Cells.length _ rfl (hS5.inn0 [(true, 0)] rfl) hc)) ?_
 rintro _ w_5 ⟨B2, c2, rfl, hd⟩
 have hS6 := hS5.out0 hd
 refine sQ 13 (Y_fieldAddr (B := aD b2) (i := 0) (s := 0) k_fd_75_2_2_73 k_sz_73_1 rfl rfl) ?_
 refine s0 (Ys_store (i := 2) (s := 1) (B := aD b2) (T' := 75) (v := .slice B2 r_1.length c2) (vs := [.slice B2 r_1.length c2]) (k := 2) (cs' := [vi a.Rows, vi a.Cols, .slice B2 r_1.length c2]) hS6 k_sz_73_1 rfl rfl rfl rfl rfl rfl rfl (lB rfl) rfl rfl) ?_
 rintro _ w_6 ⟨rfl, hS7⟩
 refine rw_nil (cw_seq (cw_region ?_))
 refine sQ 14 (Y_loadA (B := aD b2) (i := 0) (cs := [vi a.Rows, vi a.Cols, .slice B2 r_1.length c2]) (vs := [vi a.Rows, vi a.Cols, .slice B2 r_1.length c2]) k_ag_75 k_sz_75_3 rfl rfl (hS7.cf (i := 2) rfl) rfl rfl) ?_
 refine s0 (Ys_store (i := 1) (s := 3) (B := aD b1) (T' := 75) (v := .agg #[vi a.Rows, vi a.Cols, .slice B2 r_1.length c2]) (vs := [vi a.Rows, vi a.Cols, .slice B2 r_1.length c2]) (k := 0) (cs' := [vi a.Rows, vi a.Cols, .slice B2 r_1.length c2]) hS7 k_sz_75_3 rfl rfl rfl rfl rfl rfl rfl (lB rfl) rfl rfl) ?_
 rintro _ w_7 ⟨rfl, hS8⟩
 refine rw_nil (cw_ret ?_)
 obtain rfl := some_inj hF
 exact ret1 Try.results31 (v1 := .agg #[vi a.Rows, vi a.Cols, .slice B2 r_1.length c2]) (resAt_cellA (B := aD b1) (i := 0) (cs := [vi a.Rows, vi a.Cols, .slice B2 r_1.length c2]) (vs := [vi a.Rows, vi a.Cols, .slice B2 r_1.length c2]) rfl k_ag_75 k_sz_75_3 (hS8.cf (i := 1) rfl) rfl rfl) ⟨B2, c2, rfl, (hS8.sN [3])⟩

theorem c_impl_within (n : Int) (low : Int) (high : Int)  (w0 : World)  (hS : ST w0 [] w0 [] []) {r_ : Bool} (hF : F_impl_within n low high = some r_) :
  CV Try.prog 98 #[vi n, vi low, vi high] w0 (fun v w' => v = .bool r_ ∧ ST w0 [] w' [] []) := by
 unfold F_impl_within at hF
 refine cv_of_cw 15 Try.func98 rfl Try.ntmps98 rfl ?_
 refine cw_seq (cw_region ?_)
 refine sQ 6 (Y_assign (v := .bool false) rfl rfl) (rw_nil (cw_seq (cw_region ?_)))
 refine sQ 7 (Y_move (v := vi low) rfl rfl) ?_
 refine sQ 8 (Y_move (v := vi n) rfl rfl) ?_
 refine sQ 9 (Y_le (k := .i64) (a := low) (b := n) rfl rfl rfl) ?_
 refine sQ 10 (Y_move (v := .bool (decide (low ≤ n))) rfl rfl) ?_
 refine sgq 11 (B := (decide (low ≤ n))) (v := vi n) rfl rfl (uT_ 10) (fun hg => (Y_move (v := vi n) rfl rfl)) ?_
 refine sgq 12 (B := (decide (low ≤ n))) (v := vi high) rfl rfl (uT_ 10) (fun hg1 => (Y_move (v := vi high) rfl rfl)) ?_
 refine sgq 13 (B := (decide (low ≤ n))) (v := .bool (decide (n ≤ high))) rfl rfl (uT_ 10) (fun hg2 => (Y_le (k := .i64) (a := n) (b := high) rfl (gv_of (v := vi n) hg2) (gv_of (v := vi high) hg2))) ?_
 refine sQ 14 (Y_and (b := (decide (low ≤ n))) (z := (decide (n ≤ high))) rfl rfl rfl rfl) ?_
 refine sQ 6 (Y_assign (v := .bool ((decide (low ≤ n)) && (decide (n ≤ high)))) rfl rfl) (rw_nil (cw_ret ?_))
 obtain rfl := some_inj hF
 exact ret1 Try.results98 (v1 := .bool ((decide (low ≤ n)) && (decide (n ≤ high)))) (resAt_tmp rfl) ⟨rfl, (hS.sN [])⟩

theorem c_impl_isDim (n : Int)  (w0 : World)  (hS : ST w0 [] w0 [] []) {r_ : Bool} (hF : F_impl_isDim n = some r_) :
  CV Try.prog 208 #[vi n] w0 (fun v w' => v = .bool r_ ∧ ST w0 [] w' [] []) := by
 unfold F_impl_isDim at hF
 refine cv_of_cw 12 Try.func208 rfl Try.ntmps208 rfl ?_
 refine cw_seq (cw_region ?_)
 refine sQ 2 (Y_assign (v := .bool false) rfl rfl) (rw_nil (cw_seq (cw_region ?_)))
 refine sQ 3 (Y_move (v := vi n) rfl rfl) ?_
 obtain ⟨r_1, hc, hF⟩ := bind_inv hF
 refine sc 4 rfl rfl (Yc_func (g := 98) (vs := [vi n, vi 1, vi 32]) k_call_98 rfl (mc rfl (mc rfl (mc rfl mn))) (c_impl_within n 1 32 _  (hS.inn0 [] rfl) hc)) ?_
 rintro _ w_ ⟨rfl, hd⟩
 have hS1 := hS.out00 hd
 refine sQ 5 (Y_move (v := .bool r_1) rfl rfl) ?_
 refine sgq 6 (B := r_1) (v := vi n) rfl rfl (uT_ 5) (fun hg => (Y_move (v := vi n) rfl rfl)) ?_
 refine sgq 7 (B := r_1) (v := vi n) rfl rfl (uT_ 5) (fun hg1 => (Y_move (v := vi n) rfl rfl)) ?_
 refine sgq 8 (B := r_1) (v := vi (i64.wrap (n - 1))) rfl rfl (uT_ 5) (fun hg2 => (Y_sub (k := .i64) (a := n) (b := 1) rfl (gv_of (v := vi n) hg2) rfl)) ?_
 refine sgq 9 (B := r_1) (v := vi (bits .and .i64 n (i64.wrap (n - 1)))) rfl rfl (uT_ 5) (fun hg3 => (Y_band (k := .i64) (a := n) (b := (i64.wrap (n - 1))) rfl (gv_of (v := vi n) hg3) (gv_of (v := vi (i64.wrap (n - 1))) hg3))) ?_
 refine sgq 10 (B := r_1) (v := .bool ((bits .and .i64 n (i64.wrap (n - 1))) == 0)) rfl rfl (uT_ 5) (fun hg4 => (Y_eq (k := .i64) (a := (bits .and .i64 n (i64.wrap (n - 1)))) (b := 0) rfl (gv_of (v := vi (bits .and .i64 n (i64.wrap (n - 1)))) hg4) rfl)) ?_
 refine sQ 11 (Y_and (b := r_1) (z := ((bits .and .i64 n (i64.wrap (n - 1))) == 0)) rfl rfl rfl rfl) ?_
 refine sQ 2 (Y_assign (v := .bool (r_1 && ((bits .and .i64 n (i64.wrap (n - 1))) == 0))) rfl rfl) (rw_nil (cw_ret ?_))
 obtain rfl := some_inj hF
 exact ret1 Try.results208 (v1 := .bool (r_1 && ((bits .and .i64 n (i64.wrap (n - 1))) == 0))) (resAt_tmp rfl) ⟨rfl, (hS1.sN [])⟩

theorem c_slices_IndexFunc_impl_Dyadic_impl_Dyadic (s : List TDyadic) (f_ : TDyadic → Option (Bool)) (B : Option Addr) (c n : Nat) (kf : Nat) (caps : Array Value) (Rf : List Ro) (w0 : World) (hn : s.length = n) (hk : callB Try.prog kf = true) (hp : ∀ (w : World), ST w [] w [] Rf → ∀ (x : TDyadic) (y : Bool), f_ x = some y → CV Try.prog kf ((gD_ x) :: caps.toList).toArray w (fun v w' => v = .bool y ∧ ST w [] w' [] [])) (hS : ST w0 [] w0 [] (⟨B, (s.flatMap eN0)⟩ :: Rf)) {r_ : Int} (hF : F_slices_IndexFunc_impl_Dyadic_impl_Dyadic s f_ = some r_) :
  CV Try.prog 238 #[.slice B n c, .func (.func kf) #[] caps] w0 (fun v w' => v = vi r_ ∧ ST w0 [] w' [] []) := by
 subst hn
 unfold F_slices_IndexFunc_impl_Dyadic_impl_Dyadic at hF
 refine cv_of_cw 19 Try.func238 rfl Try.ntmps238 rfl ?_
 refine cw_seq (cw_region ?_)
 refine sQ 4 (Y_assign (v := vi 0) rfl rfl) (rw_nil (cw_seq (cw_seq (cw_region ?_))))
 refine sQ 6 (Y_move (v := .slice B s.length c) rfl rfl) ?_
 refine sQ 7 (Y_len (B := B) (m := s.length) (c := c) k_sl_73_124 rfl rfl) ?_
 refine sQ 8 (Y_move (v := vi 0) rfl rfl) (rw_nil ?_)
 obtain ⟨hN, hF⟩ := chk_inv hF
 obtain ⟨z, hz, hF1⟩ := bind_inv hF
 refine cw_block ?_
 refine cw_loop (fun k f w => ∃ (i : Nat), FF f [(0, .slice B s.length c), (1, .func (.func kf) #[] caps), (7, vi (s.length : Int)), (8, vi (i : Int))] ∧ ST w0 [] w [] (⟨B, (s.flatMap eN0)⟩ :: Rf) ∧ i + k = s.length ∧ forX (F_slices_IndexFunc_impl_Dyadic_impl_Dyadic_l1 s f_) k i () = some z) s.length ⟨0, (FF.cons rfl (FF.cons rfl (FF.cons rfl (FF.cons rfl FF.nil)))), (hS.sel [] rfl rfl), Nat.zero_add _, hz⟩ ?_
 rintro k_ f w ⟨i, hf, hS1, hik, hL⟩
 refine cw_seq (cw_region ?_)
 refine sQ 9 (Y_lt (k := .i64) (a := (i : Int)) (b := (s.length : Int)) rfl (hf.get 8 3 rfl) (hf.get 7 2 rfl)) (rw_nil (cw_seq ?_))
 refine cw_cond (b := (decide ((i : Int) < (s.length : Int)))) rfl (fun hlt => ?_) (fun hlt => ?_)
 ·skip
  have hlt1 : i < s.length := by have h := of_decide_eq_true hlt; omega
  obtain ⟨k_1, rfl⟩ : ∃ k2, k_ = k2 + 1 := ⟨k_ - 1, by omega⟩
  obtain ⟨y1, hb, hL1⟩ := forX_go hL
  unfold F_slices_IndexFunc_impl_Dyadic_impl_Dyadic_l1 at hb
  refine cw_skip (cw_seq (cw_block (cw_seq (cw_region ?_))))
  refine sQ 10 (Y_move (v := vi (i : Int)) rfl (hf.get 8 3 rfl)) ?_
  refine sQ 5 (Y_assign (v := vi (i : Int)) rfl rfl) (rw_nil (cw_seq (cw_region ?_)))
  refine sQ 11 (Y_move (v := .func (.func kf) #[] caps) rfl (hf.get 1 1 rfl)) ?_
  refine sQ 12 (Y_move (v := .slice B s.length c) rfl (hf.get 0 0 rfl)) ?_
  refine sQ 13 (Y_move (v := vi (i : Int)) rfl rfl) ?_
  obtain ⟨x1, hx, hb⟩ := bind_inv hb
  refine sQ 14 (Y_index (B := B) (m := s.length) (c := c) (k := .i64) (i := (i : Int)) k_sl_73_124 k_sz_124_5 rfl rfl rfl (gi_isSome eN1 rfl (hS1.rf (i := 0) rfl) hx) (getI_nn hx) (getI_ltI hx rfl)) ?_
  refine sQ 15 (Y_loadA (B := B) (i := (i : Int).toNat * 5) (cs := (s.flatMap eN0)) (vs := kD_ x1) k_ag_124 k_sz_124_5 rfl rfl (hS1.rf (i := 0) rfl) (eN1 x1) (gi_seg eN1 hx)) ?_
  obtain ⟨r_1, hc, hb⟩ := bind_inv hb
  refine sc 16 rfl rfl (Yc_clos (g := kf) (vs := (gD_ x1) :: caps.toList) hk rfl rfl (clo_args (mc rfl mn)) (hp _ (hS1.innS (fun _ h => mOd (i := 1) h)) x1 r_1 hc)) ?_
  rintro _ w_ ⟨rfl, hd⟩
  have hS2 := hS1.out00 hd
  refine rw_nil ?_
  refine cw_cond (b := r_1) rfl (fun hb1 => ?_) (fun hb1 => ?_)
  ·skip
   have hF2 := ct hb hb1
   refine cw_seq (cw_region ?_)
   refine sQ 17 (Y_move (v := vi (i : Int)) rfl rfl) ?_
   refine sQ 4 (Y_assign (v := vi (i : Int)) rfl rfl) (rw_nil (cw_ret ?_))
   obtain rfl := some_inj hF2
   obtain rfl := some_inj hL1
   obtain rfl := some_inj hF1
   exact ret1 Try.results238 (v1 := vi (i : Int)) (resAt_tmp rfl) ⟨rfl, (hS2.sN [])⟩
  ·skip
   have hF3 := cf' hb hb1
   refine cw_skip (cw_region ?_)
   refine sQ 18 (Y_add (k := .i64) (a := (i : Int)) (b := 1) rfl (hf.get 8 3 rfl) rfl) ?_
   refine sQ 8 (Y_move (v := vi (i64.wrap ((i : Int) + 1))) rfl rfl) (rw_nil ?_)
   obtain rfl := some_inj hF3
   exact ⟨k_1, Nat.lt_succ_self _, i + 1, (FF.cons (hf.get 0 0 rfl) (FF.cons (hf.get 1 1 rfl) (FF.cons (hf.get 7 2 rfl) (FF.cons (congrArg (Value.int .i64) (wr_succ hlt1 hN)) FF.nil)))), (hS2.sel [] rfl rfl), (by omega), hL1⟩
 ·skip
  obtain rfl : k_ = 0 := by have h := of_decide_eq_false hlt; omega
  refine cw_exit rfl ?_
  obtain rfl := some_inj hL
  refine cw_seq (cw_region ?_)
  refine sQ 4 (Y_assign (v := vi (-1)) rfl rfl) (rw_nil (cw_ret ?_))
  obtain rfl := some_inj hF1
  exact ret1 Try.results238 (v1 := vi (-1)) (resAt_tmp rfl) ⟨rfl, (hS1.sN [])⟩

theorem c_slices_ContainsFunc_impl_Dyadic_impl_Dyadic (s : List TDyadic) (f_ : TDyadic → Option (Bool)) (B : Option Addr) (c n : Nat) (kf : Nat) (caps : Array Value) (Rf : List Ro) (w0 : World) (hn : s.length = n) (hk : callB Try.prog kf = true) (hp : ∀ (w : World), ST w [] w [] Rf → ∀ (x : TDyadic) (y : Bool), f_ x = some y → CV Try.prog kf ((gD_ x) :: caps.toList).toArray w (fun v w' => v = .bool y ∧ ST w [] w' [] [])) (hS : ST w0 [] w0 [] (⟨B, (s.flatMap eN0)⟩ :: Rf)) {r_ : Bool} (hF : F_slices_ContainsFunc_impl_Dyadic_impl_Dyadic s f_ = some r_) :
  CV Try.prog 209 #[.slice B n c, .func (.func kf) #[] caps] w0 (fun v w' => v = .bool r_ ∧ ST w0 [] w' [] []) := by
 subst hn
 unfold F_slices_ContainsFunc_impl_Dyadic_impl_Dyadic at hF
 refine cv_of_cw 9 Try.func209 rfl Try.ntmps209 rfl ?_
 refine cw_seq (cw_region ?_)
 refine sQ 4 (Y_assign (v := .bool false) rfl rfl) (rw_nil (cw_seq (cw_region ?_)))
 refine sQ 5 (Y_move (v := .slice B s.length c) rfl rfl) ?_
 refine sQ 6 (Y_move (v := .func (.func kf) #[] caps) rfl rfl) ?_
 obtain ⟨r_1, hc, hF⟩ := bind_inv hF
 refine sc 7 rfl rfl (Yc_func (g := 238) (vs := [.slice B s.length c, .func (.func kf) #[] caps]) k_call_238 rfl (mc rfl (mc rfl mn)) (c_slices_IndexFunc_impl_Dyadic_impl_Dyadic s f_ B c s.length kf caps Rf _ rfl hk hp (hS.innS (subc (mem_at (i := 0) rfl) (fun _ h => mOd (i := 1) h))) hc)) ?_
 rintro _ w_ ⟨rfl, hd⟩
 have hS1 := hS.out00 hd
 refine sQ 8 (Y_ge (k := .i64) (a := r_1) (b := 0) rfl rfl rfl) ?_
 refine sQ 4 (Y_assign (v := .bool (decide (0 ≤ r_1))) rfl rfl) (rw_nil (cw_ret ?_))
 obtain rfl := some_inj hF
 exact ret1 Try.results209 (v1 := .bool (decide (0 ≤ r_1))) (resAt_tmp rfl) ⟨rfl, (hS1.sN [])⟩

theorem c_impl_isCoef (n : Int)  (w0 : World)  (hS : ST w0 [] w0 [] []) {r_ : Bool} (hF : F_impl_isCoef n = some r_) :
  CV Try.prog 254 #[vi n] w0 (fun v w' => v = .bool r_ ∧ ST w0 [] w' [] []) := by
 unfold F_impl_isCoef at hF
 refine cv_of_cw 5 Try.func254 rfl Try.ntmps254 rfl ?_
 refine cw_seq (cw_region ?_)
 refine sQ 2 (Y_assign (v := .bool false) rfl rfl) (rw_nil (cw_seq (cw_region ?_)))
 refine sQ 3 (Y_move (v := vi n) rfl rfl) ?_
 obtain ⟨r_1, hc, hF⟩ := bind_inv hF
 refine sc 4 rfl rfl (Yc_func (g := 98) (vs := [vi n, vi (-1000000000), vi 1000000000]) k_call_98 rfl (mc rfl (mc rfl (mc rfl mn))) (c_impl_within n (-1000000000) 1000000000 _  (hS.inn0 [] rfl) hc)) ?_
 rintro _ w_ ⟨rfl, hd⟩
 have hS1 := hS.out00 hd
 refine sQ 2 (Y_assign (v := .bool r_1) rfl rfl) (rw_nil (cw_ret ?_))
 obtain rfl := some_inj hF
 exact ret1 Try.results254 (v1 := .bool r_1) (resAt_tmp rfl) ⟨rfl, (hS1.sN [])⟩

theorem c_impl_IsValidRing (x : TRing)  (w0 : World)  (hS : ST w0 [] w0 [] []) {r_ : Bool} (hF : F_impl_IsValidRing x = some r_) :
  CV Try.prog 239 #[gR_ x] w0 (fun v w' => v = .bool r_ ∧ ST w0 [] w' [] []) := by
 unfold F_impl_IsValidRing at hF
 refine cv_of_cw 21 Try.func239 rfl Try.ntmps239 rfl ?_
 refine cw_seq (cw_region ?_)
 refine sS 1 (Ys_box (T := 122) (v := gR_ x) (cs := kR_ x) (m := 4) hS rfl rfl rfl rfl) ?_
 rintro _ w_ ⟨b, rfl, hS1⟩
 refine sQ 2 (Y_assign (v := .bool false) rfl rfl) (rw_nil (cw_seq (cw_region ?_)))
 refine sQ 3 (Y_fieldAddr (B := aD b) (i := 0) (s := 0) k_fd_122_0_0_3 k_sz_3_1 rfl rfl) ?_
 refine sQ 4 (Y_load1 (B := aD b) (i := 0) (cs := kR_ x) (v := vi x.A) k_sc_3 rfl rfl (hS1.cf (i := 0) rfl) rfl) ?_
 obtain ⟨r_1, hc, hF⟩ := bind_inv hF
 refine sc 5 rfl rfl (Yc_func (g := 254) (vs := [vi x.A]) k_call_254 rfl (mc rfl mn) (c_impl_isCoef x.A _  (hS1.inn0 [] rfl) hc)) ?_
 rintro _ w_1 ⟨rfl, hd⟩
 have hS2 := hS1.out00 hd
 refine sQ 6 (Y_move (v := .bool r_1) rfl rfl) ?_
 refine sgq 7 (B := r_1) (v := pt (aD b) 1) rfl rfl (uT_ 6) (fun hg => (Y_fieldAddr (B := aD b) (i := 0) (s := 0) k_fd_122_1_1_3 k_sz_3_1 rfl rfl)) ?_
 refine sgq 8 (B := r_1) (v := vi x.B) rfl rfl (uT_ 6) (fun hg1 => (Y_load1 (B := aD b) (i := 1) (cs := kR_ x) (v := vi x.B) k_sc_3 rfl (gv_of (v := pt (aD b) 1) hg1) (hS2.cf (i := 0) rfl) rfl)) ?_
 obtain ⟨r_2, hc1, hF⟩ := bind_inv hF
 refine sgc 9 (B := r_1) (v := .bool r_2) (F := hS2.fn) rfl rfl (uT_ 6) hS2 (fun hg2 => (Yc_func (g := 254) (vs := [vi x.B]) k_call_254 rfl (mc (gv_of (v := vi x.B) hg2) mn) (CV.mono (c_impl_isCoef x.B _  (hS2.inn0 [] rfl) (gb_inv hc1 hg2)) (by rintro _ _ ⟨rfl, h⟩; exact ⟨rfl, hS2.out00 h⟩)))) ?_
 rintro w_2 hS3
 refine sQ 10 (Y_and (b := r_1) (z := r_2) rfl rfl rfl rfl) ?_
 refine sQ 11 (Y_move (v := .bool (r_1 && r_2)) rfl rfl) ?_
 refine sgq 12 (B := (r_1 && r_2)) (v := pt (aD b) 2) rfl rfl (uT_ 11) (fun hg3 => (Y_fieldAddr (B := aD b) (i := 0) (s := 0) k_fd_122_2_2_3 k_sz_3_1 rfl rfl)) ?_
 refine sgq 13 (B := (r_1 && r_2)) (v := vi x.C) rfl rfl (uT_ 11) (fun hg4 => (Y_load1 (B := aD b) (i := 2) (cs := kR_ x) (v := vi x.C) k_sc_3 rfl (gv_of (v := pt (aD b) 2) hg4) (hS3.cf (i := 0) rfl) rfl)) ?_
 obtain ⟨r_3, hc2, hF⟩ := bind_inv hF
 refine sgc 14 (B := (r_1 && r_2)) (v := .bool r_3) (F := hS3.fn) rfl rfl (uT_ 11) hS3 (fun hg5 => (Yc_func (g := 254) (vs := [vi x.C]) k_call_254 rfl (mc (gv_of (v := vi x.C) hg5) mn) (CV.mono (c_impl_isCoef x.C _  (hS3.inn0 [] rfl) (gb_inv hc2 hg5)) (by rintro _ _ ⟨rfl, h⟩; exact ⟨rfl, hS3.out00 h⟩)))) ?_
 rintro w_3 hS4
 refine sQ 15 (Y_and (b := (r_1 && r_2)) (z := r_3) rfl rfl rfl rfl) ?_
 refine sQ 16 (Y_move (v := .bool ((r_1 && r_2) && r_3)) rfl rfl) ?_
 refine sgq 17 (B := ((r_1 && r_2) && r_3)) (v := pt (aD b) 3) rfl rfl (uT_ 16) (fun hg6 => (Y_fieldAddr (B := aD b) (i := 0) (s := 0) k_fd_122_3_3_3 k_sz_3_1 rfl rfl)) ?_
 refine sgq 18 (B := ((r_1 && r_2) && r_3)) (v := vi x.D) rfl rfl (uT_ 16) (fun hg7 => (Y_load1 (B := aD b) (i := 3) (cs := kR_ x) (v := vi x.D) k_sc_3 rfl (gv_of (v := pt (aD b) 3) hg7) (hS4.cf (i := 0) rfl) rfl)) ?_
 obtain ⟨r_4, hc3, hF⟩ := bind_inv hF
 refine sgc 19 (B := ((r_1 && r_2) && r_3)) (v := .bool r_4) (F := hS4.fn) rfl rfl (uT_ 16) hS4 (fun hg8 => (Yc_func (g := 254) (vs := [vi x.D]) k_call_254 rfl (mc (gv_of (v := vi x.D) hg8) mn) (CV.mono (c_impl_isCoef x.D _  (hS4.inn0 [] rfl) (gb_inv hc3 hg8)) (by rintro _ _ ⟨rfl, h⟩; exact ⟨rfl, hS4.out00 h⟩)))) ?_
 rintro w_4 hS5
 refine sQ 20 (Y_and (b := ((r_1 && r_2) && r_3)) (z := r_4) rfl rfl rfl rfl) ?_
 refine sQ 2 (Y_assign (v := .bool (((r_1 && r_2) && r_3) && r_4)) rfl rfl) (rw_nil (cw_ret ?_))
 obtain rfl := some_inj hF
 exact ret1 Try.results239 (v1 := .bool (((r_1 && r_2) && r_3) && r_4)) (resAt_tmp rfl) ⟨rfl, (hS5.sN [])⟩

theorem c_impl_isEven (x : TRing)  (w0 : World)  (hS : ST w0 [] w0 [] []) {r_ : Bool} (hF : F_impl_isEven x = some r_) :
  CV Try.prog 240 #[gR_ x] w0 (fun v w' => v = .bool r_ ∧ ST w0 [] w' [] []) := by
 unfold F_impl_isEven at hF
 refine cv_of_cw 19 Try.func240 rfl Try.ntmps240 rfl ?_
 refine cw_seq (cw_region ?_)
 refine sS 1 (Ys_box (T := 122) (v := gR_ x) (cs := kR_ x) (m := 4) hS rfl rfl rfl rfl) ?_
 rintro _ w_ ⟨b, rfl, hS1⟩
 refine sQ 2 (Y_assign (v := .bool false) rfl rfl) (rw_nil (cw_seq (cw_region ?_)))
 refine sQ 3 (Y_fieldAddr (B := aD b) (i := 0) (s := 0) k_fd_122_0_0_3 k_sz_3_1 rfl rfl) ?_
 refine sQ 4 (Y_load1 (B := aD b) (i := 0) (cs := kR_ x) (v := vi x.A) k_sc_3 rfl rfl (hS1.cf (i := 0) rfl) rfl) ?_
 refine sQ 5 (Y_fieldAddr (B := aD b) (i := 0) (s := 0) k_fd_122_2_2_3 k_sz_3_1 rfl rfl) ?_
 refine sQ 6 (Y_load1 (B := aD b) (i := 2) (cs := kR_ x) (v := vi x.C) k_sc_3 rfl rfl (hS1.cf (i := 0) rfl) rfl) ?_
 refine sQ 7 (Y_add (k := .i64) (a := x.A) (b := x.C) rfl rfl rfl) ?_
 refine sQ 8 (Y_rem (k := .i64) (a := (i64.wrap (x.A + x.C))) (b := 2) rfl rfl rfl (by decide)) ?_
 refine sQ 9 (Y_eq (k := .i64) (a := (Int.tmod (i64.wrap (x.A + x.C)) 2)) (b := 0) rfl rfl rfl) ?_
 refine sQ 10 (Y_move (v := .bool ((Int.tmod (i64.wrap (x.A + x.C)) 2) == 0)) rfl rfl) ?_
 refine sgq 11 (B := ((Int.tmod (i64.wrap (x.A + x.C)) 2) == 0)) (v := pt (aD b) 1) rfl rfl (uT_ 10) (fun hg => (Y_fieldAddr (B := aD b) (i := 0) (s := 0) k_fd_122_1_1_3 k_sz_3_1 rfl rfl)) ?_
 refine sgq 12 (B := ((Int.tmod (i64.wrap (x.A + x.C)) 2) == 0)) (v := vi x.B) rfl rfl (uT_ 10) (fun hg1 => (Y_load1 (B := aD b) (i := 1) (cs := kR_ x) (v := vi x.B) k_sc_3 rfl (gv_of (v := pt (aD b) 1) hg1) (hS1.cf (i := 0) rfl) rfl)) ?_
 refine sgq 13 (B := ((Int.tmod (i64.wrap (x.A + x.C)) 2) == 0)) (v := pt (aD b) 3) rfl rfl (uT_ 10) (fun hg2 => (Y_fieldAddr (B := aD b) (i := 0) (s := 0) k_fd_122_3_3_3 k_sz_3_1 rfl rfl)) ?_
 refine sgq 14 (B := ((Int.tmod (i64.wrap (x.A + x.C)) 2) == 0)) (v := vi x.D) rfl rfl (uT_ 10) (fun hg3 => (Y_load1 (B := aD b) (i := 3) (cs := kR_ x) (v := vi x.D) k_sc_3 rfl (gv_of (v := pt (aD b) 3) hg3) (hS1.cf (i := 0) rfl) rfl)) ?_
 refine sgq 15 (B := ((Int.tmod (i64.wrap (x.A + x.C)) 2) == 0)) (v := vi (i64.wrap (x.B + x.D))) rfl rfl (uT_ 10) (fun hg4 => (Y_add (k := .i64) (a := x.B) (b := x.D) rfl (gv_of (v := vi x.B) hg4) (gv_of (v := vi x.D) hg4))) ?_
 refine sgq 16 (B := ((Int.tmod (i64.wrap (x.A + x.C)) 2) == 0)) (v := vi (Int.tmod (i64.wrap (x.B + x.D)) 2)) rfl rfl (uT_ 10) (fun hg5 => (Y_rem (k := .i64) (a := (i64.wrap (x.B + x.D))) (b := 2) rfl (gv_of (v := vi (i64.wrap (x.B + x.D))) hg5) rfl (by decide))) ?_
 refine sgq 17 (B := ((Int.tmod (i64.wrap (x.A + x.C)) 2) == 0)) (v := .bool ((Int.tmod (i64.wrap (x.B + x.D)) 2) == 0)) rfl rfl (uT_ 10) (fun hg6 => (Y_eq (k := .i64) (a := (Int.tmod (i64.wrap (x.B + x.D)) 2)) (b := 0) rfl (gv_of (v := vi (Int.tmod (i64.wrap (x.B + x.D)) 2)) hg6) rfl)) ?_
 refine sQ 18 (Y_and (b := ((Int.tmod (i64.wrap (x.A + x.C)) 2) == 0)) (z := ((Int.tmod (i64.wrap (x.B + x.D)) 2) == 0)) rfl rfl rfl rfl) ?_
 refine sQ 2 (Y_assign (v := .bool (((Int.tmod (i64.wrap (x.A + x.C)) 2) == 0) && ((Int.tmod (i64.wrap (x.B + x.D)) 2) == 0))) rfl rfl) (rw_nil (cw_ret ?_))
 obtain rfl := some_inj hF
 exact ret1 Try.results240 (v1 := .bool (((Int.tmod (i64.wrap (x.A + x.C)) 2) == 0) && ((Int.tmod (i64.wrap (x.B + x.D)) 2) == 0))) (resAt_tmp rfl) ⟨rfl, (hS1.sN [])⟩

theorem c_impl_IsValidDyadic (x : TDyadic)  (w0 : World)  (hS : ST w0 [] w0 [] []) {r_ : Bool} (hF : F_impl_IsValidDyadic x = some r_) :
  CV Try.prog 211 #[gD_ x] w0 (fun v w' => v = .bool r_ ∧ ST w0 [] w' [] []) := by
 unfold F_impl_IsValidDyadic at hF
 refine cv_of_cw 22 Try.func211 rfl Try.ntmps211 rfl ?_
 refine cw_seq (cw_region ?_)
 refine sS 1 (Ys_box (T := 124) (v := gD_ x) (cs := kD_ x) (m := 5) hS rfl rfl rfl rfl) ?_
 rintro _ w_ ⟨b, rfl, hS1⟩
 refine sQ 2 (Y_assign (v := .bool false) rfl rfl) (rw_nil (cw_seq (cw_region ?_)))
 refine sQ 3 (Y_fieldAddr (B := aD b) (i := 0) (s := 3) k_fd_124_0_0_122 k_sz_122_4 rfl rfl) ?_
 refine sQ 4 (Y_loadA (B := aD b) (i := 0) (cs := kD_ x) (vs := kR_ x.Num) k_ag_122 k_sz_122_4 rfl rfl (hS1.cf (i := 0) rfl) rfl rfl) ?_
 obtain ⟨r_1, hc, hF⟩ := bind_inv hF
 refine sc 5 rfl rfl (Yc_func (g := 239) (vs := [gR_ x.Num]) k_call_239 rfl (mc rfl mn) (c_impl_IsValidRing x.Num _  (hS1.inn0 [] rfl) hc)) ?_
 rintro _ w_1 ⟨rfl, hd⟩
 have hS2 := hS1.out00 hd
 refine sQ 6 (Y_move (v := .bool r_1) rfl rfl) ?_
 refine sgq 7 (B := r_1) (v := pt (aD b) 4) rfl rfl (uT_ 6) (fun hg => (Y_fieldAddr (B := aD b) (i := 0) (s := 0) k_fd_124_1_4_3 k_sz_3_1 rfl rfl)) ?_
 refine sgq 8 (B := r_1) (v := vi x.Exp) rfl rfl (uT_ 6) (fun hg1 => (Y_load1 (B := aD b) (i := 4) (cs := kD_ x) (v := vi x.Exp) k_sc_3 rfl (gv_of (v := pt (aD b) 4) hg1) (hS2.cf (i := 0) rfl) rfl)) ?_
 obtain ⟨r_2, hc1, hF⟩ := bind_inv hF
 refine sgc 9 (B := r_1) (v := .bool r_2) (F := hS2.fn) rfl rfl (uT_ 6) hS2 (fun hg2 => (Yc_func (g := 98) (vs := [vi x.Exp, vi 0, vi 60]) k_call_98 rfl (mc (gv_of (v := vi x.Exp) hg2) (mc rfl (mc rfl mn))) (CV.mono (c_impl_within x.Exp 0 60 _  (hS2.inn0 [] rfl) (gb_inv hc1 hg2)) (by rintro _ _ ⟨rfl, h⟩; exact ⟨rfl, hS2.out00 h⟩)))) ?_
 rintro w_2 hS3
 refine sQ 10 (Y_and (b := r_1) (z := r_2) rfl rfl rfl rfl) ?_
 refine sQ 11 (Y_move (v := .bool (r_1 && r_2)) rfl rfl) ?_
 refine sgq 12 (B := (r_1 && r_2)) (v := pt (aD b) 4) rfl rfl (uT_ 11) (fun hg3 => (Y_fieldAddr (B := aD b) (i := 0) (s := 0) k_fd_124_1_4_3 k_sz_3_1 rfl rfl)) ?_
 refine sgq 13 (B := (r_1 && r_2)) (v := vi x.Exp) rfl rfl (uT_ 11) (fun hg4 => (Y_load1 (B := aD b) (i := 4) (cs := kD_ x) (v := vi x.Exp) k_sc_3 rfl (gv_of (v := pt (aD b) 4) hg4) (hS3.cf (i := 0) rfl) rfl)) ?_
 refine sgq 14 (B := (r_1 && r_2)) (v := .bool (x.Exp == 0)) rfl rfl (uT_ 11) (fun hg5 => (Y_eq (k := .i64) (a := x.Exp) (b := 0) rfl (gv_of (v := vi x.Exp) hg5) rfl)) ?_
 refine sgq 15 (B := (r_1 && r_2)) (v := .bool (x.Exp == 0)) rfl rfl (uT_ 11) (fun hg6 => (Y_move (v := .bool (x.Exp == 0)) rfl (gv_of (v := .bool (x.Exp == 0)) hg6))) ?_
 refine sgq 16 (B := ((r_1 && r_2) && (!(x.Exp == 0)))) (v := pt (aD b) 0) rfl rfl (wt_gf (gd_of (t := 15) (by kernel_rfl) rfl)) (fun hg7 => (Y_fieldAddr (B := aD b) (i := 0) (s := 3) k_fd_124_0_0_122 k_sz_122_4 rfl rfl)) ?_
 refine sgq 17 (B := ((r_1 && r_2) && (!(x.Exp == 0)))) (v := gR_ x.Num) rfl rfl (wt_gf (gd_of (t := 15) (by kernel_rfl) rfl)) (fun hg8 => (Y_loadA (B := aD b) (i := 0) (cs := kD_ x) (vs := kR_ x.Num) k_ag_122 k_sz_122_4 rfl (gv_of (v := pt (aD b) 0) hg8) (hS3.cf (i := 0) rfl) rfl rfl)) ?_
 obtain ⟨r_3, hc2, hF⟩ := bind_inv hF
 refine sgc 18 (B := ((r_1 && r_2) && (!(x.Exp == 0)))) (v := .bool r_3) (F := hS3.fn) rfl rfl (wt_gf (gd_of (t := 15) (by kernel_rfl) rfl)) hS3 (fun hg9 => (Yc_func (g := 240) (vs := [gR_ x.Num]) k_call_240 rfl (mc (gv_of (v := gR_ x.Num) hg9) mn) (CV.mono (c_impl_isEven x.Num _  (hS3.inn0 [] rfl) (gb_inv hc2 hg9)) (by rintro _ _ ⟨rfl, h⟩; exact ⟨rfl, hS3.out00 h⟩)))) ?_
 rintro w_3 hS4
 refine sgq 19 (B := ((r_1 && r_2) && (!(x.Exp == 0)))) (v := .bool (!r_3)) rfl rfl (wt_gf (gd_of (t := 15) (by kernel_rfl) rfl)) (fun hg10 => (Y_not (p := r_3) rfl (gv_of (v := .bool r_3) hg10))) ?_
 refine sgq 20 (B := (r_1 && r_2)) (v := .bool ((x.Exp == 0) || (!r_3))) rfl rfl (uT_ 11) (fun hg11 => (Y_or (b := (x.Exp == 0)) (z := (!r_3)) rfl (gv_of (v := .bool (x.Exp == 0)) hg11) rfl (gv_and (B := (r_1 && r_2)) (C := (!(x.Exp == 0))) (v := .bool (!r_3)) hg11))) ?_
 refine sQ 21 (Y_and (b := (r_1 && r_2)) (z := ((x.Exp == 0) || (!r_3))) rfl rfl rfl rfl) ?_
 refine sQ 2 (Y_assign (v := .bool ((r_1 && r_2) && ((x.Exp == 0) || (!r_3)))) rfl rfl) (rw_nil (cw_ret ?_))
 obtain rfl := some_inj hF
 exact ret1 Try.results211 (v1 := .bool ((r_1 && r_2) && ((x.Exp == 0) || (!r_3)))) (resAt_tmp rfl) ⟨rfl, (hS4.sN [])⟩

theorem c_impl_IsValidMatrix_1 (x : TDyadic)  (w0 : World)  (hS : ST w0 [] w0 [] []) {r_ : Bool} (hF : F_impl_IsValidMatrix_1 x = some r_) :
  CV Try.prog 210 #[gD_ x] w0 (fun v w' => v = .bool r_ ∧ ST w0 [] w' [] []) := by
 unfold F_impl_IsValidMatrix_1 at hF
 refine cv_of_cw 6 Try.func210 rfl Try.ntmps210 rfl ?_
 refine cw_seq (cw_region ?_)
 refine sS 1 (Ys_box (T := 124) (v := gD_ x) (cs := kD_ x) (m := 5) hS rfl rfl rfl rfl) ?_
 rintro _ w_ ⟨b, rfl, hS1⟩
 refine sQ 2 (Y_assign (v := .bool false) rfl rfl) (rw_nil (cw_seq (cw_region ?_)))
 refine sQ 3 (Y_loadA (B := aD b) (i := 0) (cs := kD_ x) (vs := kD_ x) k_ag_124 k_sz_124_5 rfl rfl (hS1.cf (i := 0) rfl) rfl rfl) ?_
 obtain ⟨r_1, hc, hF⟩ := bind_inv hF
 refine sc 4 rfl rfl (Yc_func (g := 211) (vs := [gD_ x]) k_call_211 rfl (mc rfl mn) (c_impl_IsValidDyadic x _  (hS1.inn0 [] rfl) hc)) ?_
 rintro _ w_1 ⟨rfl, hd⟩
 have hS2 := hS1.out00 hd
 refine sQ 5 (Y_not (p := r_1) rfl rfl) ?_
 refine sQ 2 (Y_assign (v := .bool (!r_1)) rfl rfl) (rw_nil (cw_ret ?_))
 obtain rfl := some_inj hF
 exact ret1 Try.results210 (v1 := .bool (!r_1)) (resAt_tmp rfl) ⟨rfl, (hS2.sN [])⟩

theorem c_impl_IsValidMatrix (m : TMatrix) (B : Option Addr) (c n : Nat) (w0 : World) (hn : m.Cells.length = n) (hS : ST w0 [] w0 [] [⟨B, (m.Cells.flatMap eN0)⟩]) {r_ : Bool} (hF : F_impl_IsValidMatrix m = some r_) :
  CV Try.prog 147 #[.agg #[vi m.Rows, vi m.Cols, .slice B n c]] w0 (fun v w' => v = .bool r_ ∧ ST w0 [] w' [] []) := by
 subst hn
 unfold F_impl_IsValidMatrix at hF
 refine cv_of_cw 28 Try.func147 rfl Try.ntmps147 rfl ?_
 refine cw_seq (cw_region ?_)
 refine sS 1 (Ys_box (T := 75) (v := gM_ m B c) (cs := kM_ m B c) (m := 3) hS rfl rfl rfl rfl) ?_
 rintro _ w_ ⟨b, rfl, hS1⟩
 refine sQ 2 (Y_assign (v := .bool false) rfl rfl) (rw_nil (cw_seq (cw_region ?_)))
 refine sQ 3 (Y_fieldAddr (B := aD b) (i := 0) (s := 0) k_fd_75_0_0_3 k_sz_3_1 rfl rfl) ?_
 refine sQ 4 (Y_load1 (B := aD b) (i := 0) (cs := kM_ m B c) (v := vi m.Rows) k_sc_3 rfl rfl (hS1.cf (i := 0) rfl) rfl) ?_
 obtain ⟨r_1, hc, hF⟩ := bind_inv hF
 refine sc 5 rfl rfl (Yc_func (g := 208) (vs := [vi m.Rows]) k_call_208 rfl (mc rfl mn) (c_impl_isDim m.Rows _  (hS1.inn0 [] rfl) hc)) ?_
 rintro _ w_1 ⟨rfl, hd⟩
 have hS2 := hS1.out00 hd
 refine sQ 6 (Y_move (v := .bool r_1) rfl rfl) ?_
 refine sgq 7 (B := r_1) (v := pt (aD b) 1) rfl rfl (uT_ 6) (fun hg => (Y_fieldAddr (B := aD b) (i := 0) (s := 0) k_fd_75_1_1_3 k_sz_3_1 rfl rfl)) ?_
 refine sgq 8 (B := r_1) (v := vi m.Cols) rfl rfl (uT_ 6) (fun hg1 => (Y_load1 (B := aD b) (i := 1) (cs := kM_ m B c) (v := vi m.Cols) k_sc_3 rfl (gv_of (v := pt (aD b) 1) hg1) (hS2.cf (i := 0) rfl) rfl)) ?_
 obtain ⟨r_2, hc1, hF⟩ := bind_inv hF
 refine sgc 9 (B := r_1) (v := .bool r_2) (F := hS2.fn) rfl rfl (uT_ 6) hS2 (fun hg2 => (Yc_func (g := 208) (vs := [vi m.Cols]) k_call_208 rfl (mc (gv_of (v := vi m.Cols) hg2) mn) (CV.mono (c_impl_isDim m.Cols _  (hS2.inn0 [] rfl) (gb_inv hc1 hg2)) (by rintro _ _ ⟨rfl, h⟩; exact ⟨rfl, hS2.out00 h⟩)))) ?_
 rintro w_2 hS3
 refine sQ 10 (Y_and (b := r_1) (z := r_2) rfl rfl rfl rfl) ?_
 refine sQ 11 (Y_move (v := .bool (r_1 && r_2)) rfl rfl) ?_
 refine sgq 12 (B := (r_1 && r_2)) (v := pt (aD b) 2) rfl rfl (uT_ 11) (fun hg3 => (Y_fieldAddr (B := aD b) (i := 0) (s := 0) k_fd_75_2_2_73 k_sz_73_1 rfl rfl)) ?_
 refine sgq 13 (B := (r_1 && r_2)) (v := .slice B m.Cells.length c) rfl rfl (uT_ 11) (fun hg4 => (Y_load1 (B := aD b) (i := 2) (cs := kM_ m B c) (v := .slice B m.Cells.length c) k_sc_73 rfl (gv_of (v := pt (aD b) 2) hg4) (hS3.cf (i := 0) rfl) rfl)) ?_
 refine sgq 14 (B := (r_1 && r_2)) (v := vi (m.Cells.length : Int)) rfl rfl (uT_ 11) (fun hg5 => (Y_len (B := B) (m := m.Cells.length) (c := c) k_sl_73_124 rfl (gv_of (v := .slice B m.Cells.length c) hg5))) ?_
 refine sgq 15 (B := (r_1 && r_2)) (v := pt (aD b) 0) rfl rfl (uT_ 11) (fun hg6 => (Y_fieldAddr (B := aD b) (i := 0) (s := 0) k_fd_75_0_0_3 k_sz_3_1 rfl rfl)) ?_
 refine sgq 16 (B := (r_1 && r_2)) (v := vi m.Rows) rfl rfl (uT_ 11) (fun hg7 => (Y_load1 (B := aD b) (i := 0) (cs := kM_ m B c) (v := vi m.Rows) k_sc_3 rfl (gv_of (v := pt (aD b) 0) hg7) (hS3.cf (i := 0) rfl) rfl)) ?_
 refine sgq 17 (B := (r_1 && r_2)) (v := pt (aD b) 1) rfl rfl (uT_ 11) (fun hg8 => (Y_fieldAddr (B := aD b) (i := 0) (s := 0) k_fd_75_1_1_3 k_sz_3_1 rfl rfl)) ?_
 refine sgq 18 (B := (r_1 && r_2)) (v := vi m.Cols) rfl rfl (uT_ 11) (fun hg9 => (Y_load1 (B := aD b) (i := 1) (cs := kM_ m B c) (v := vi m.Cols) k_sc_3 rfl (gv_of (v := pt (aD b) 1) hg9) (hS3.cf (i := 0) rfl) rfl)) ?_
 refine sgq 19 (B := (r_1 && r_2)) (v := vi (i64.wrap (m.Rows * m.Cols))) rfl rfl (uT_ 11) (fun hg10 => (Y_mul (k := .i64) (a := m.Rows) (b := m.Cols) rfl (gv_of (v := vi m.Rows) hg10) (gv_of (v := vi m.Cols) hg10))) ?_
 refine sgq 20 (B := (r_1 && r_2)) (v := .bool ((m.Cells.length : Int) == (i64.wrap (m.Rows * m.Cols)))) rfl rfl (uT_ 11) (fun hg11 => (Y_eq (k := .i64) (a := (m.Cells.length : Int)) (b := (i64.wrap (m.Rows * m.Cols))) rfl (gv_of (v := vi (m.Cells.length : Int)) hg11) (gv_of (v := vi (i64.wrap (m.Rows * m.Cols))) hg11))) ?_
 refine sQ 21 (Y_and (b := (r_1 && r_2)) (z := ((m.Cells.length : Int) == (i64.wrap (m.Rows * m.Cols)))) rfl rfl rfl rfl) ?_
 refine sQ 22 (Y_move (v := .bool ((r_1 && r_2) && ((m.Cells.length : Int) == (i64.wrap (m.Rows * m.Cols))))) rfl rfl) ?_
 refine sgq 23 (B := ((r_1 && r_2) && ((m.Cells.length : Int) == (i64.wrap (m.Rows * m.Cols))))) (v := pt (aD b) 2) rfl rfl (uT_ 22) (fun hg12 => (Y_fieldAddr (B := aD b) (i := 0) (s := 0) k_fd_75_2_2_73 k_sz_73_1 rfl rfl)) ?_
 refine sgq 24 (B := ((r_1 && r_2) && ((m.Cells.length : Int) == (i64.wrap (m.Rows * m.Cols))))) (v := .slice B m.Cells.length c) rfl rfl (uT_ 22) (fun hg13 => (Y_load1 (B := aD b) (i := 2) (cs := kM_ m B c) (v := .slice B m.Cells.length c) k_sc_73 rfl (gv_of (v := pt (aD b) 2) hg13) (hS3.cf (i := 0) rfl) rfl)) ?_
 obtain ⟨r_3, hc2, hF⟩ := bind_inv hF
 refine sgc 25 (B := ((r_1 && r_2) && ((m.Cells.length : Int) == (i64.wrap (m.Rows * m.Cols))))) (v := .bool r_3) (F := hS3.fn) rfl rfl (uT_ 22) hS3 (fun hg14 => (Yc_func (g := 209) (vs := [.slice B m.Cells.length c, .func (.func 210) #[] #[]]) k_call_209 rfl (mc (gv_of (v := .slice B m.Cells.length c) hg14) (mc rfl mn)) (CV.mono (c_slices_ContainsFunc_impl_Dyadic_impl_Dyadic m.Cells F_impl_IsValidMatrix_1 B c m.Cells.length 210 (#[]) [] _ rfl k_call_210 (fun w hw x_0 y_0 h_ => c_impl_IsValidMatrix_1 x_0  w  hw h_) (hS3.inn0 [(true, 0)] rfl) (gb_inv hc2 hg14)) (by rintro _ _ ⟨rfl, h⟩; exact ⟨rfl, hS3.out00 h⟩)))) ?_
 rintro w_3 hS4
 refine sgq 26 (B := ((r_1 && r_2) && ((m.Cells.length : Int) == (i64.wrap (m.Rows * m.Cols))))) (v := .bool (!r_3)) rfl rfl (uT_ 22) (fun hg15 => (Y_not (p := r_3) rfl (gv_of (v := .bool r_3) hg15))) ?_
 refine sQ 27 (Y_and (b := ((r_1 && r_2) && ((m.Cells.length : Int) == (i64.wrap (m.Rows * m.Cols))))) (z := (!r_3)) rfl rfl rfl rfl) ?_
 refine sQ 2 (Y_assign (v := .bool (((r_1 && r_2) && ((m.Cells.length : Int) == (i64.wrap (m.Rows * m.Cols)))) && (!r_3))) rfl rfl) (rw_nil (cw_ret ?_))
 obtain rfl := some_inj hF
 exact ret1 Try.results147 (v1 := .bool (((r_1 && r_2) && ((m.Cells.length : Int) == (i64.wrap (m.Rows * m.Cols)))) && (!r_3))) (resAt_tmp rfl) ⟨rfl, (hS4.sN [])⟩

theorem c_impl_isLevelDim (n : Int)  (w0 : World)  (hS : ST w0 [] w0 [] []) {r_ : Bool} (hF : F_impl_isLevelDim n = some r_) :
  CV Try.prog 148 #[vi n] w0 (fun v w' => v = .bool r_ ∧ ST w0 [] w' [] []) := by
 unfold F_impl_isLevelDim at hF
 refine cv_of_cw 13 Try.func148 rfl Try.ntmps148 rfl ?_
 refine cw_seq (cw_region ?_)
 refine sQ 2 (Y_assign (v := .bool false) rfl rfl) (rw_nil (cw_seq (cw_region ?_)))
 refine sQ 3 (Y_move (v := vi n) rfl rfl) ?_
 refine sQ 4 (Y_eq (k := .i64) (a := n) (b := 2) rfl rfl rfl) ?_
 refine sQ 5 (Y_move (v := .bool (n == 2)) rfl rfl) ?_
 refine sgq 6 (B := (!(n == 2))) (v := vi n) rfl rfl (uF_ 5) (fun hg => (Y_move (v := vi n) rfl rfl)) ?_
 refine sgq 7 (B := (!(n == 2))) (v := .bool (n == 4)) rfl rfl (uF_ 5) (fun hg1 => (Y_eq (k := .i64) (a := n) (b := 4) rfl (gv_of (v := vi n) hg1) rfl)) ?_
 refine sQ 8 (Y_or (b := (n == 2)) (z := (n == 4)) rfl rfl rfl rfl) ?_
 refine sQ 9 (Y_move (v := .bool ((n == 2) || (n == 4))) rfl rfl) ?_
 refine sgq 10 (B := (!((n == 2) || (n == 4)))) (v := vi n) rfl rfl (uF_ 9) (fun hg2 => (Y_move (v := vi n) rfl rfl)) ?_
 refine sgq 11 (B := (!((n == 2) || (n == 4)))) (v := .bool (n == 8)) rfl rfl (uF_ 9) (fun hg3 => (Y_eq (k := .i64) (a := n) (b := 8) rfl (gv_of (v := vi n) hg3) rfl)) ?_
 refine sQ 12 (Y_or (b := ((n == 2) || (n == 4))) (z := (n == 8)) rfl rfl rfl rfl) ?_
 refine sQ 2 (Y_assign (v := .bool (((n == 2) || (n == 4)) || (n == 8))) rfl rfl) (rw_nil (cw_ret ?_))
 obtain rfl := some_inj hF
 exact ret1 Try.results148 (v1 := .bool (((n == 2) || (n == 4)) || (n == 8))) (resAt_tmp rfl) ⟨rfl, (hS.sN [])⟩

theorem c_impl_ringIf (out : TRing) (args : List TRing) (B : Option Addr) (c n : Nat) (w0 : World) (hn : args.length = n) (hS : ST w0 (bl [⟨B, 122, (args.flatMap enc_Ring), c * 4⟩]) w0 [⟨B, 122, (args.flatMap enc_Ring), c * 4⟩] []) {r_ : TRing} {r_1 : Bool} (hF : F_impl_ringIf out args = some (r_, r_1)) :
  CV Try.prog 242 #[gR_ out, .slice B n c] w0 (fun v w' => v = .tuple #[gR_ r_, .bool r_1] ∧ ST w0 (bl [⟨B, 122, (args.flatMap enc_Ring), c * 4⟩]) w' [] []) := by
 subst hn
 unfold F_impl_ringIf at hF
 refine cv_of_cw 23 Try.func242 rfl Try.ntmps242 rfl ?_
 refine cw_seq (cw_region ?_)
 refine sS 2 (Ys_box (T := 122) (v := gR_ out) (cs := kR_ out) (m := 4) hS rfl rfl rfl rfl) ?_
 rintro _ w_ ⟨b, rfl, hS1⟩
 refine sS 4 (Ys_alloc (T := 122) (cs := [vi 0, vi 0, vi 0, vi 0]) (m := 4) hS1 k_zero_122 rfl rfl rfl) ?_
 rintro _ w_1 ⟨b1, rfl, hS2⟩
 refine sQ 5 (Y_assign (v := .bool false) rfl rfl) (rw_nil (cw_seq (cw_seq (cw_region ?_))))
 refine sQ 8 (Y_move (v := .slice B args.length c) rfl rfl) ?_
 refine sQ 9 (Y_loadA (B := aD b) (i := 0) (cs := kR_ out) (vs := kR_ out) k_ag_122 k_sz_122_4 rfl rfl (hS2.cf (i := 1) rfl) rfl rfl) ?_
 refine sS 10 (Ys_bslice (s := 4) (len := 1) (vs := [(0, gR_ out)]) (cs := kR_ out) (zs := [vi 0, vi 0, vi 0, vi 0]) (m := 4) hS2 k_sl_207_122 k_sz_122_4 k_zc_122 rfl (mpc rfl mpn) rfl rfl rfl (by kernel_rfl) (by kernel_rfl) rfl) ?_
 rintro _ w_2 ⟨b2, rfl, hS3⟩
 obtain ⟨hap, hF⟩ := chk_inv hF
 refine sS 11 (Ys_append (s := 4) (by' := 32) (i := 0) (nn := args.length) (c := c) (k := 1) (len := (args ++ [out]).length) (B := B) (xs := ([out].flatMap enc_Ring)) (cs' := ((args ++ [out]).flatMap enc_Ring)) hS3 k_sl_207_122 k_sz_122_4 k_by_122_32 k_zero_122 rfl (by decide) rfl rfl rfl rfl (fm_lenn (l := args) enc_Ring_len rfl) rfl (hS3.cf (i := 3) rfl) (fm_lenn (l := [out]) enc_Ring_len rfl) (fm_one' (enc := enc_Ring) enc_Ring_one [out]) (by have := hap; omega) (by have := hap; simp only [maxLen]; omega) (fm_app _ _) (app_len (l := args) (l' := [out]) rfl rfl)) ?_
 rintro _ w_3 ⟨B1, c1, rfl, hS4⟩
 refine sQ 12 (Y_len (B := B1) (m := (args ++ [out]).length) (c := c1) k_sl_207_122 rfl rfl) ?_
 refine sQ 13 (Y_move (v := vi 0) rfl rfl) (rw_nil ?_)
 obtain ⟨hN, hF⟩ := chk_inv hF
 obtain ⟨z, hz, hF1⟩ := bind_inv hF
 refine cw_block ?_
 refine cw_loop (fun k f w => ∃ (i : Nat), FF f [(2, pt (aD b) 0), (4, pt (aD b1) 0), (11, .slice B1 ((args ++ [out]).length) c1), (12, vi ((args ++ [out]).length : Int)), (13, vi (i : Int))] ∧ ST w0 (bl [⟨B, 122, (args.flatMap enc_Ring), c * 4⟩]) w [⟨aD b, 122, kR_ out, 4⟩, ⟨aD b1, 122, [vi 0, vi 0, vi 0, vi 0], 4⟩, ⟨B1, 122, ((args ++ [out]).flatMap enc_Ring), c1 * 4⟩] [] ∧ i + k = (args ++ [out]).length ∧ forX (F_impl_ringIf_l1 args out) k i () = some z) ((args ++ [out]).length) ⟨0, (FF.cons rfl (FF.cons rfl (FF.cons rfl (FF.cons rfl (FF.cons rfl FF.nil))))), (hS4.sel [1, 2, 0] rfl rfl), Nat.zero_add _, hz⟩ ?_
 rintro k_ f w ⟨i, hf, hS5, hik, hL⟩
 refine cw_seq (cw_region ?_)
 refine sQ 14 (Y_lt (k := .i64) (a := (i : Int)) (b := ((args ++ [out]).length : Int)) rfl (hf.get 13 4 rfl) (hf.get 12 3 rfl)) (rw_nil (cw_seq ?_))
 refine cw_cond (b := (decide ((i : Int) < ((args ++ [out]).length : Int)))) rfl (fun hlt => ?_) (fun hlt => ?_)
 ·skip
  have hlt1 : i < (args ++ [out]).length := by have h := of_decide_eq_true hlt; omega
  obtain ⟨k_1, rfl⟩ : ∃ k2, k_ = k2 + 1 := ⟨k_ - 1, by omega⟩
  obtain ⟨y, hb, hL1⟩ := forX_go hL
  unfold F_impl_ringIf_l1 at hb
  refine cw_skip (cw_seq (cw_block (cw_seq (cw_region ?_))))
  obtain ⟨x, hx, hb⟩ := bind_inv hb
  refine sQ 15 (Y_index (B := B1) (m := (args ++ [out]).length) (c := c1) (k := .i64) (i := (i : Int)) k_sl_207_122 k_sz_122_4 rfl (hf.get 11 2 rfl) (hf.get 13 4 rfl) (gi_isSome enc_Ring_len rfl (hS5.cf (i := 2) rfl) hx) (getI_nn hx) (getI_ltI hx rfl)) ?_
  refine sQ 16 (Y_loadA (B := B1) (i := (i : Int).toNat * 4) (cs := ((args ++ [out]).flatMap enc_Ring)) (vs := kR_ x) k_ag_122 k_sz_122_4 rfl rfl (hS5.cf (i := 2) rfl) (enc_Ring_len x) (gi_seg enc_Ring_len hx)) ?_
  refine sS 7 (Ys_alloc (T := 122) (cs := [vi 0, vi 0, vi 0, vi 0]) (m := 4) hS5 k_zero_122 rfl rfl rfl) ?_
  rintro _ w_4 ⟨b3, rfl, hS6⟩
  refine s0 (Ys_store (i := 3) (s := 4) (B := aD b3) (T' := 122) (v := gR_ x) (vs := kR_ x) (k := 0) (cs' := kR_ x) hS6 k_sz_122_4 rfl rfl rfl rfl rfl rfl rfl (lB rfl) rfl rfl) ?_
  rintro _ w_5 ⟨rfl, hS7⟩
  refine rw_nil (cw_seq (cw_region ?_))
  refine sQ 17 (Y_loadA (B := aD b3) (i := 0) (cs := kR_ x) (vs := kR_ x) k_ag_122 k_sz_122_4 rfl rfl (hS7.cf (i := 3) rfl) rfl rfl) ?_
  obtain ⟨r_2, hc, hb⟩ := bind_inv hb
  refine sc 18 rfl rfl (Yc_func (g := 239) (vs := [gR_ x]) k_call_239 rfl (mc rfl mn) (c_impl_IsValidRing x _  (hS7.inn0 [] rfl) hc)) ?_
  rintro _ w_6 ⟨rfl, hd⟩
  have hS8 := hS7.out00 hd
  refine sQ 19 (Y_not (p := r_2) rfl rfl) (rw_nil ?_)
  refine cw_cond (b := (!r_2)) rfl (fun hb1 => ?_) (fun hb1 => ?_)
  ·skip
   have hF2 := ct hb hb1
   refine cw_seq (cw_region ?_)
   refine sQ 20 (Y_buildS (zs := [vi 0, vi 0, vi 0, vi 0]) (vs := []) (cs := [vi 0, vi 0, vi 0, vi 0]) k_pl_122 k_zero_122 rfl mpn rfl) ?_
   refine s0 (Ys_store (i := 1) (s := 4) (B := aD b1) (T' := 122) (v := .agg #[vi 0, vi 0, vi 0, vi 0]) (vs := [vi 0, vi 0, vi 0, vi 0]) (k := 0) (cs' := [vi 0, vi 0, vi 0, vi 0]) hS8 k_sz_122_4 rfl (hf.get 4 1 rfl) rfl rfl rfl rfl rfl (lB rfl) rfl rfl) ?_
   rintro _ w_7 ⟨rfl, hS9⟩
   refine sQ 5 (Y_assign (v := .bool false) rfl rfl) (rw_nil (cw_ret ?_))
   obtain rfl := some_inj hF2
   obtain rfl := some_inj hL1
   obtain ⟨rfl, rfl⟩ := pr2 (some_inj hF1)
   exact ret2 Try.results242 (v1 := .agg #[vi 0, vi 0, vi 0, vi 0]) (resAt_cellA (B := aD b1) (i := 0) (cs := [vi 0, vi 0, vi 0, vi 0]) (vs := [vi 0, vi 0, vi 0, vi 0]) (hf.get 4 1 rfl) k_ag_122 k_sz_122_4 (hS9.cf (i := 1) rfl) rfl rfl) (v2 := .bool false) (resAt_tmp rfl) ⟨rfl, (hS9.sN [])⟩
  ·skip
   have hF3 := cf' hb hb1
   refine cw_skip (cw_region ?_)
   refine sQ 21 (Y_add (k := .i64) (a := (i : Int)) (b := 1) rfl (hf.get 13 4 rfl) rfl) ?_
   refine sQ 13 (Y_move (v := vi (i64.wrap ((i : Int) + 1))) rfl rfl) (rw_nil ?_)
   obtain rfl := some_inj hF3
   exact ⟨k_1, Nat.lt_succ_self _, i + 1, (FF.cons (hf.get 2 0 rfl) (FF.cons (hf.get 4 1 rfl) (FF.cons (hf.get 11 2 rfl) (FF.cons (hf.get 12 3 rfl) (FF.cons (congrArg (Value.int .i64) (wr_succ hlt1 hN)) FF.nil))))), (hS8.sel [0, 1, 2] rfl rfl), (by omega), hL1⟩
 ·skip
  obtain rfl : k_ = 0 := by have h := of_decide_eq_false hlt; omega
  refine cw_exit rfl ?_
  obtain rfl := some_inj hL
  refine cw_seq (cw_region ?_)
  refine sQ 22 (Y_loadA (B := aD b) (i := 0) (cs := kR_ out) (vs := kR_ out) k_ag_122 k_sz_122_4 rfl (hf.get 2 0 rfl) (hS5.cf (i := 0) rfl) rfl rfl) ?_
  refine s0 (Ys_store (i := 1) (s := 4) (B := aD b1) (T' := 122) (v := gR_ out) (vs := kR_ out) (k := 0) (cs' := kR_ out) hS5 k_sz_122_4 rfl (hf.get 4 1 rfl) rfl rfl rfl rfl rfl (lB rfl) rfl rfl) ?_
  rintro _ w_8 ⟨rfl, hS10⟩
  refine sQ 5 (Y_assign (v := .bool true) rfl rfl) (rw_nil (cw_ret ?_))
  obtain ⟨rfl, rfl⟩ := pr2 (some_inj hF1)
  exact ret2 Try.results242 (v1 := gR_ out) (resAt_cellA (B := aD b1) (i := 0) (cs := kR_ out) (vs := kR_ out) (hf.get 4 1 rfl) k_ag_122 k_sz_122_4 (hS10.cf (i := 1) rfl) rfl rfl) (v2 := .bool true) (resAt_tmp rfl) ⟨rfl, (hS10.sN [])⟩

theorem c_impl_MulRing (x : TRing) (y : TRing)  (w0 : World)  (hS : ST w0 [] w0 [] []) {r_ : TRing} {r_1 : Bool} (hF : F_impl_MulRing x y = some (r_, r_1)) :
  CV Try.prog 221 #[gR_ x, gR_ y] w0 (fun v w' => v = .tuple #[gR_ r_, .bool r_1] ∧ ST w0 [] w' [] []) := by
 unfold F_impl_MulRing at hF
 refine cv_of_cw 105 Try.func221 rfl Try.ntmps221 rfl ?_
 refine cw_seq (cw_region ?_)
 refine sS 2 (Ys_box (T := 122) (v := gR_ x) (cs := kR_ x) (m := 4) hS rfl rfl rfl rfl) ?_
 rintro _ w_ ⟨b, rfl, hS1⟩
 refine sS 3 (Ys_box (T := 122) (v := gR_ y) (cs := kR_ y) (m := 4) hS1 rfl rfl rfl rfl) ?_
 rintro _ w_1 ⟨b1, rfl, hS2⟩
 refine sS 4 (Ys_alloc (T := 122) (cs := [vi 0, vi 0, vi 0, vi 0]) (m := 4) hS2 k_zero_122 rfl rfl rfl) ?_
 rintro _ w_2 ⟨b2, rfl, hS3⟩
 refine sQ 5 (Y_assign (v := .bool false) rfl rfl) (rw_nil (cw_seq (cw_region ?_)))
 refine sQ 6 (Y_fieldAddr (B := aD b) (i := 0) (s := 0) k_fd_122_0_0_3 k_sz_3_1 rfl rfl) ?_
 refine sQ 7 (Y_load1 (B := aD b) (i := 0) (cs := kR_ x) (v := vi x.A) k_sc_3 rfl rfl (hS3.cf (i := 0) rfl) rfl) ?_
 refine sQ 8 (Y_fieldAddr (B := aD b1) (i := 0) (s := 0) k_fd_122_0_0_3 k_sz_3_1 rfl rfl) ?_
 refine sQ 9 (Y_load1 (B := aD b1) (i := 0) (cs := kR_ y) (v := vi y.A) k_sc_3 rfl rfl (hS3.cf (i := 1) rfl) rfl) ?_
 refine sQ 10 (Y_mul (k := .i64) (a := x.A) (b := y.A) rfl rfl rfl) ?_
 refine sQ 11 (Y_fieldAddr (B := aD b) (i := 0) (s := 0) k_fd_122_1_1_3 k_sz_3_1 rfl rfl) ?_
 refine sQ 12 (Y_load1 (B := aD b) (i := 1) (cs := kR_ x) (v := vi x.B) k_sc_3 rfl rfl (hS3.cf (i := 0) rfl) rfl) ?_
 refine sQ 13 (Y_fieldAddr (B := aD b1) (i := 0) (s := 0) k_fd_122_3_3_3 k_sz_3_1 rfl rfl) ?_
 refine sQ 14 (Y_load1 (B := aD b1) (i := 3) (cs := kR_ y) (v := vi y.D) k_sc_3 rfl rfl (hS3.cf (i := 1) rfl) rfl) ?_
 refine sQ 15 (Y_mul (k := .i64) (a := x.B) (b := y.D) rfl rfl rfl) ?_
 refine sQ 16 (Y_sub (k := .i64) (a := (i64.wrap (x.A * y.A))) (b := (i64.wrap (x.B * y.D))) rfl rfl rfl) ?_
 refine sQ 17 (Y_fieldAddr (B := aD b) (i := 0) (s := 0) k_fd_122_2_2_3 k_sz_3_1 rfl rfl) ?_
 refine sQ 18 (Y_load1 (B := aD b) (i := 2) (cs := kR_ x) (v := vi x.C) k_sc_3 rfl rfl (hS3.cf (i := 0) rfl) rfl) ?_
 refine sQ 19 (Y_fieldAddr (B := aD b1) (i := 0) (s := 0) k_fd_122_2_2_3 k_sz_3_1 rfl rfl) ?_
 refine sQ 20 (Y_load1 (B := aD b1) (i := 2) (cs := kR_ y) (v := vi y.C) k_sc_3 rfl rfl (hS3.cf (i := 1) rfl) rfl) ?_
 refine sQ 21 (Y_mul (k := .i64) (a := x.C) (b := y.C) rfl rfl rfl) ?_
 refine sQ 22 (Y_sub (k := .i64) (a := (i64.wrap ((i64.wrap (x.A * y.A)) - (i64.wrap (x.B * y.D))))) (b := (i64.wrap (x.C * y.C))) rfl rfl rfl) ?_
 refine sQ 23 (Y_fieldAddr (B := aD b) (i := 0) (s := 0) k_fd_122_3_3_3 k_sz_3_1 rfl rfl) ?_
 refine sQ 24 (Y_load1 (B := aD b) (i := 3) (cs := kR_ x) (v := vi x.D) k_sc_3 rfl rfl (hS3.cf (i := 0) rfl) rfl) ?_
 refine sQ 25 (Y_fieldAddr (B := aD b1) (i := 0) (s := 0) k_fd_122_1_1_3 k_sz_3_1 rfl rfl) ?_
 refine sQ 26 (Y_load1 (B := aD b1) (i := 1) (cs := kR_ y) (v := vi y.B) k_sc_3 rfl rfl (hS3.cf (i := 1) rfl) rfl) ?_
 refine sQ 27 (Y_mul (k := .i64) (a := x.D) (b := y.B) rfl rfl rfl) ?_
 refine sQ 28 (Y_sub (k := .i64) (a := (i64.wrap ((i64.wrap ((i64.wrap (x.A * y.A)) - (i64.wrap (x.B * y.D)))) - (i64.wrap (x.C * y.C))))) (b := (i64.wrap (x.D * y.B))) rfl rfl rfl) ?_
 refine sQ 29 (Y_fieldAddr (B := aD b) (i := 0) (s := 0) k_fd_122_0_0_3 k_sz_3_1 rfl rfl) ?_
 refine sQ 30 (Y_load1 (B := aD b) (i := 0) (cs := kR_ x) (v := vi x.A) k_sc_3 rfl rfl (hS3.cf (i := 0) rfl) rfl) ?_
 refine sQ 31 (Y_fieldAddr (B := aD b1) (i := 0) (s := 0) k_fd_122_1_1_3 k_sz_3_1 rfl rfl) ?_
 refine sQ 32 (Y_load1 (B := aD b1) (i := 1) (cs := kR_ y) (v := vi y.B) k_sc_3 rfl rfl (hS3.cf (i := 1) rfl) rfl) ?_
 refine sQ 33 (Y_mul (k := .i64) (a := x.A) (b := y.B) rfl rfl rfl) ?_
 refine sQ 34 (Y_fieldAddr (B := aD b) (i := 0) (s := 0) k_fd_122_1_1_3 k_sz_3_1 rfl rfl) ?_
 refine sQ 35 (Y_load1 (B := aD b) (i := 1) (cs := kR_ x) (v := vi x.B) k_sc_3 rfl rfl (hS3.cf (i := 0) rfl) rfl) ?_
 refine sQ 36 (Y_fieldAddr (B := aD b1) (i := 0) (s := 0) k_fd_122_0_0_3 k_sz_3_1 rfl rfl) ?_
 refine sQ 37 (Y_load1 (B := aD b1) (i := 0) (cs := kR_ y) (v := vi y.A) k_sc_3 rfl rfl (hS3.cf (i := 1) rfl) rfl) ?_
 refine sQ 38 (Y_mul (k := .i64) (a := x.B) (b := y.A) rfl rfl rfl) ?_
 refine sQ 39 (Y_add (k := .i64) (a := (i64.wrap (x.A * y.B))) (b := (i64.wrap (x.B * y.A))) rfl rfl rfl) ?_
 refine sQ 40 (Y_fieldAddr (B := aD b) (i := 0) (s := 0) k_fd_122_2_2_3 k_sz_3_1 rfl rfl) ?_
 refine sQ 41 (Y_load1 (B := aD b) (i := 2) (cs := kR_ x) (v := vi x.C) k_sc_3 rfl rfl (hS3.cf (i := 0) rfl) rfl) ?_
 refine sQ 42 (Y_fieldAddr (B := aD b1) (i := 0) (s := 0) k_fd_122_3_3_3 k_sz_3_1 rfl rfl) ?_
 refine sQ 43 (Y_load1 (B := aD b1) (i := 3) (cs := kR_ y) (v := vi y.D) k_sc_3 rfl rfl (hS3.cf (i := 1) rfl) rfl) ?_
 refine sQ 44 (Y_mul (k := .i64) (a := x.C) (b := y.D) rfl rfl rfl) ?_
 refine sQ 45 (Y_sub (k := .i64) (a := (i64.wrap ((i64.wrap (x.A * y.B)) + (i64.wrap (x.B * y.A))))) (b := (i64.wrap (x.C * y.D))) rfl rfl rfl) ?_
 refine sQ 46 (Y_fieldAddr (B := aD b) (i := 0) (s := 0) k_fd_122_3_3_3 k_sz_3_1 rfl rfl) ?_
 refine sQ 47 (Y_load1 (B := aD b) (i := 3) (cs := kR_ x) (v := vi x.D) k_sc_3 rfl rfl (hS3.cf (i := 0) rfl) rfl) ?_
 refine sQ 48 (Y_fieldAddr (B := aD b1) (i := 0) (s := 0) k_fd_122_2_2_3 k_sz_3_1 rfl rfl) ?_
 refine sQ 49 (Y_load1 (B := aD b1) (i := 2) (cs := kR_ y) (v := vi y.C) k_sc_3 rfl rfl (hS3.cf (i := 1) rfl) rfl) ?_
 refine sQ 50 (Y_mul (k := .i64) (a := x.D) (b := y.C) rfl rfl rfl) ?_
 refine sQ 51 (Y_sub (k := .i64) (a := (i64.wrap ((i64.wrap ((i64.wrap (x.A * y.B)) + (i64.wrap (x.B * y.A)))) - (i64.wrap (x.C * y.D))))) (b := (i64.wrap (x.D * y.C))) rfl rfl rfl) ?_
 refine sQ 52 (Y_fieldAddr (B := aD b) (i := 0) (s := 0) k_fd_122_0_0_3 k_sz_3_1 rfl rfl) ?_
 refine sQ 53 (Y_load1 (B := aD b) (i := 0) (cs := kR_ x) (v := vi x.A) k_sc_3 rfl rfl (hS3.cf (i := 0) rfl) rfl) ?_
 refine sQ 54 (Y_fieldAddr (B := aD b1) (i := 0) (s := 0) k_fd_122_2_2_3 k_sz_3_1 rfl rfl) ?_
 refine sQ 55 (Y_load1 (B := aD b1) (i := 2) (cs := kR_ y) (v := vi y.C) k_sc_3 rfl rfl (hS3.cf (i := 1) rfl) rfl) ?_
 refine sQ 56 (Y_mul (k := .i64) (a := x.A) (b := y.C) rfl rfl rfl) ?_
 refine sQ 57 (Y_fieldAddr (B := aD b) (i := 0) (s := 0) k_fd_122_1_1_3 k_sz_3_1 rfl rfl) ?_
 refine sQ 58 (Y_load1 (B := aD b) (i := 1) (cs := kR_ x) (v := vi x.B) k_sc_3 rfl rfl (hS3.cf (i := 0) rfl) rfl) ?_
 refine sQ 59 (Y_fieldAddr (B := aD b1) (i := 0) (s := 0) k_fd_122_1_1_3 k_sz_3_1 rfl rfl) ?_
 refine sQ 60 (Y_load1 (B := aD b1) (i := 1) (cs := kR_ y) (v := vi y.B) k_sc_3 rfl rfl (hS3.cf (i := 1) rfl) rfl) ?_
 refine sQ 61 (Y_mul (k := .i64) (a := x.B) (b := y.B) rfl rfl rfl) ?_
 refine sQ 62 (Y_add (k := .i64) (a := (i64.wrap (x.A * y.C))) (b := (i64.wrap (x.B * y.B))) rfl rfl rfl) ?_
 refine sQ 63 (Y_fieldAddr (B := aD b) (i := 0) (s := 0) k_fd_122_2_2_3 k_sz_3_1 rfl rfl) ?_
 refine sQ 64 (Y_load1 (B := aD b) (i := 2) (cs := kR_ x) (v := vi x.C) k_sc_3 rfl rfl (hS3.cf (i := 0) rfl) rfl) ?_
 refine sQ 65 (Y_fieldAddr (B := aD b1) (i := 0) (s := 0) k_fd_122_0_0_3 k_sz_3_1 rfl rfl) ?_
 refine sQ 66 (Y_load1 (B := aD b1) (i := 0) (cs := kR_ y) (v := vi y.A) k_sc_3 rfl rfl (hS3.cf (i := 1) rfl) rfl) ?_
 refine sQ 67 (Y_mul (k := .i64) (a := x.C) (b := y.A) rfl rfl rfl) ?_
 refine sQ 68 (Y_add (k := .i64) (a := (i64.wrap ((i64.wrap (x.A * y.C)) + (i64.wrap (x.B * y.B))))) (b := (i64.wrap (x.C * y.A))) rfl rfl rfl) ?_
 refine sQ 69 (Y_fieldAddr (B := aD b) (i := 0) (s := 0) k_fd_122_3_3_3 k_sz_3_1 rfl rfl) ?_
 refine sQ 70 (Y_load1 (B := aD b) (i := 3) (cs := kR_ x) (v := vi x.D) k_sc_3 rfl rfl (hS3.cf (i := 0) rfl) rfl) ?_
 refine sQ 71 (Y_fieldAddr (B := aD b1) (i := 0) (s := 0) k_fd_122_3_3_3 k_sz_3_1 rfl rfl) ?_
 refine sQ 72 (Y_load1 (B := aD b1) (i := 3) (cs := kR_ y) (v := vi y.D) k_sc_3 rfl rfl (hS3.cf (i := 1) rfl) rfl) ?_
 refine sQ 73 (Y_mul (k := .i64) (a := x.D) (b := y.D) rfl rfl rfl) ?_
 refine sQ 74 (Y_sub (k := .i64) (a := (i64.wrap ((i64.wrap ((i64.wrap (x.A * y.C)) + (i64.wrap (x.B * y.B)))) + (i64.wrap (x.C * y.A))))) (b := (i64.wrap (x.D * y.D))) rfl rfl rfl) ?_
 refine sQ 75 (Y_fieldAddr (B := aD b) (i := 0) (s := 0) k_fd_122_0_0_3 k_sz_3_1 rfl rfl) ?_
 refine sQ 76 (Y_load1 (B := aD b) (i := 0) (cs := kR_ x) (v := vi x.A) k_sc_3 rfl rfl (hS3.cf (i := 0) rfl) rfl) ?_
 refine sQ 77 (Y_fieldAddr (B := aD b1) (i := 0) (s := 0) k_fd_122_3_3_3 k_sz_3_1 rfl rfl) ?_
 refine sQ 78 (Y_load1 (B := aD b1) (i := 3) (cs := kR_ y) (v := vi y.D) k_sc_3 rfl rfl (hS3.cf (i := 1) rfl) rfl) ?_
 refine sQ 79 (Y_mul (k := .i64) (a := x.A) (b := y.D) rfl rfl rfl) ?_
 refine sQ 80 (Y_fieldAddr (B := aD b) (i := 0) (s := 0) k_fd_122_1_1_3 k_sz_3_1 rfl rfl) ?_
 refine sQ 81 (Y_load1 (B := aD b) (i := 1) (cs := kR_ x) (v := vi x.B) k_sc_3 rfl rfl (hS3.cf (i := 0) rfl) rfl) ?_
 refine sQ 82 (Y_fieldAddr (B := aD b1) (i := 0) (s := 0) k_fd_122_2_2_3 k_sz_3_1 rfl rfl) ?_
 refine sQ 83 (Y_load1 (B := aD b1) (i := 2) (cs := kR_ y) (v := vi y.C) k_sc_3 rfl rfl (hS3.cf (i := 1) rfl) rfl) ?_
 refine sQ 84 (Y_mul (k := .i64) (a := x.B) (b := y.C) rfl rfl rfl) ?_
 refine sQ 85 (Y_add (k := .i64) (a := (i64.wrap (x.A * y.D))) (b := (i64.wrap (x.B * y.C))) rfl rfl rfl) ?_
 refine sQ 86 (Y_fieldAddr (B := aD b) (i := 0) (s := 0) k_fd_122_2_2_3 k_sz_3_1 rfl rfl) ?_
 refine sQ 87 (Y_load1 (B := aD b) (i := 2) (cs := kR_ x) (v := vi x.C) k_sc_3 rfl rfl (hS3.cf (i := 0) rfl) rfl) ?_
 refine sQ 88 (Y_fieldAddr (B := aD b1) (i := 0) (s := 0) k_fd_122_1_1_3 k_sz_3_1 rfl rfl) ?_
 refine sQ 89 (Y_load1 (B := aD b1) (i := 1) (cs := kR_ y) (v := vi y.B) k_sc_3 rfl rfl (hS3.cf (i := 1) rfl) rfl) ?_
 refine sQ 90 (Y_mul (k := .i64) (a := x.C) (b := y.B) rfl rfl rfl) ?_
 refine sQ 91 (Y_add (k := .i64) (a := (i64.wrap ((i64.wrap (x.A * y.D)) + (i64.wrap (x.B * y.C))))) (b := (i64.wrap (x.C * y.B))) rfl rfl rfl) ?_
 refine sQ 92 (Y_fieldAddr (B := aD b) (i := 0) (s := 0) k_fd_122_3_3_3 k_sz_3_1 rfl rfl) ?_
 refine sQ 93 (Y_load1 (B := aD b) (i := 3) (cs := kR_ x) (v := vi x.D) k_sc_3 rfl rfl (hS3.cf (i := 0) rfl) rfl) ?_
 refine sQ 94 (Y_fieldAddr (B := aD b1) (i := 0) (s := 0) k_fd_122_0_0_3 k_sz_3_1 rfl rfl) ?_
 refine sQ 95 (Y_load1 (B := aD b1) (i := 0) (cs := kR_ y) (v := vi y.A) k_sc_3 rfl rfl (hS3.cf (i := 1) rfl) rfl) ?_
 refine sQ 96 (Y_mul (k := .i64) (a := x.D) (b := y.A) rfl rfl rfl) ?_
 refine sQ 97 (Y_add (k := .i64) (a := (i64.wrap ((i64.wrap ((i64.wrap (x.A * y.D)) + (i64.wrap (x.B * y.C)))) + (i64.wrap (x.C * y.B))))) (b := (i64.wrap (x.D * y.A))) rfl rfl rfl) ?_
 refine sQ 98 (Y_buildS (zs := [vi 0, vi 0, vi 0, vi 0]) (vs := [(0, vi (i64.wrap ((i64.wrap ((i64.wrap ((i64.wrap (x.A * y.A)) - (i64.wrap (x.B * y.D)))) - (i64.wrap (x.C * y.C)))) - (i64.wrap (x.D * y.B))))), (1, vi (i64.wrap ((i64.wrap ((i64.wrap ((i64.wrap (x.A * y.B)) + (i64.wrap (x.B * y.A)))) - (i64.wrap (x.C * y.D)))) - (i64.wrap (x.D * y.C))))), (2, vi (i64.wrap ((i64.wrap ((i64.wrap ((i64.wrap (x.A * y.C)) + (i64.wrap (x.B * y.B)))) + (i64.wrap (x.C * y.A)))) - (i64.wrap (x.D * y.D))))), (3, vi (i64.wrap ((i64.wrap ((i64.wrap ((i64.wrap (x.A * y.D)) + (i64.wrap (x.B * y.C)))) + (i64.wrap (x.C * y.B)))) + (i64.wrap (x.D * y.A)))))]) (cs := [vi (i64.wrap ((i64.wrap ((i64.wrap ((i64.wrap (x.A * y.A)) - (i64.wrap (x.B * y.D)))) - (i64.wrap (x.C * y.C)))) - (i64.wrap (x.D * y.B)))), vi (i64.wrap ((i64.wrap ((i64.wrap ((i64.wrap (x.A * y.B)) + (i64.wrap (x.B * y.A)))) - (i64.wrap (x.C * y.D)))) - (i64.wrap (x.D * y.C)))), vi (i64.wrap ((i64.wrap ((i64.wrap ((i64.wrap (x.A * y.C)) + (i64.wrap (x.B * y.B)))) + (i64.wrap (x.C * y.A)))) - (i64.wrap (x.D * y.D)))), vi (i64.wrap ((i64.wrap ((i64.wrap ((i64.wrap (x.A * y.D)) + (i64.wrap (x.B * y.C)))) + (i64.wrap (x.C * y.B)))) + (i64.wrap (x.D * y.A))))]) k_pl_122 k_zero_122 rfl (mpc rfl (mpc rfl (mpc rfl (mpc rfl mpn)))) rfl) ?_
 refine sQ 99 (Y_loadA (B := aD b) (i := 0) (cs := kR_ x) (vs := kR_ x) k_ag_122 k_sz_122_4 rfl rfl (hS3.cf (i := 0) rfl) rfl rfl) ?_
 refine sQ 100 (Y_loadA (B := aD b1) (i := 0) (cs := kR_ y) (vs := kR_ y) k_ag_122 k_sz_122_4 rfl rfl (hS3.cf (i := 1) rfl) rfl rfl) ?_
 refine sS 101 (Ys_bslice (s := 4) (len := 2) (vs := [(0, gR_ x), (1, gR_ y)]) (cs := [vi x.A, vi x.B, vi x.C, vi x.D, vi y.A, vi y.B, vi y.C, vi y.D]) (zs := [vi 0, vi 0, vi 0, vi 0, vi 0, vi 0, vi 0, vi 0]) (m := 8) hS3 k_sl_207_122 k_sz_122_4 k_zc_122 rfl (mpc rfl (mpc rfl mpn)) rfl rfl rfl (by kernel_rfl) (by kernel_rfl) rfl) ?_
 rintro _ w_3 ⟨b3, rfl, hS4⟩
 obtain ⟨⟨r_2, r_3⟩, hc, hF⟩ := bind_inv hF
 refine sc 102 rfl rfl (Yc_func (g := 242) (vs := [.agg #[vi (i64.wrap ((i64.wrap ((i64.wrap ((i64.wrap (x.A * y.A)) - (i64.wrap (x.B * y.D)))) - (i64.wrap (x.C * y.C)))) - (i64.wrap (x.D * y.B)))), vi (i64.wrap ((i64.wrap ((i64.wrap ((i64.wrap (x.A * y.B)) + (i64.wrap (x.B * y.A)))) - (i64.wrap (x.C * y.D)))) - (i64.wrap (x.D * y.C)))), vi (i64.wrap ((i64.wrap ((i64.wrap ((i64.wrap (x.A * y.C)) + (i64.wrap (x.B * y.B)))) + (i64.wrap (x.C * y.A)))) - (i64.wrap (x.D * y.D)))), vi (i64.wrap ((i64.wrap ((i64.wrap ((i64.wrap (x.A * y.D)) + (i64.wrap (x.B * y.C)))) + (i64.wrap (x.C * y.B)))) + (i64.wrap (x.D * y.A))))], .slice (aD b3) 2 2]) k_call_242 rfl (mc rfl (mc rfl mn)) (c_impl_ringIf (TRing.mk (i64.wrap ((i64.wrap ((i64.wrap ((i64.wrap (x.A * y.A)) - (i64.wrap (x.B * y.D)))) - (i64.wrap (x.C * y.C)))) - (i64.wrap (x.D * y.B)))) (i64.wrap ((i64.wrap ((i64.wrap ((i64.wrap (x.A * y.B)) + (i64.wrap (x.B * y.A)))) - (i64.wrap (x.C * y.D)))) - (i64.wrap (x.D * y.C)))) (i64.wrap ((i64.wrap ((i64.wrap ((i64.wrap (x.A * y.C)) + (i64.wrap (x.B * y.B)))) + (i64.wrap (x.C * y.A)))) - (i64.wrap (x.D * y.D)))) (i64.wrap ((i64.wrap ((i64.wrap ((i64.wrap (x.A * y.D)) + (i64.wrap (x.B * y.C)))) + (i64.wrap (x.C * y.B)))) + (i64.wrap (x.D * y.A))))) [x, y] (aD b3) 2 2 _ rfl (hS4.inn [false, false, false, true] rfl [] rfl) hc)) ?_
 rintro _ w_4 ⟨rfl, hd⟩
 have hS5 := hS4.out [false, false, false, true] rfl hd
 refine sQ 103 (Y_extract (v := gR_ r_2) rfl rfl rfl) ?_
 refine sQ 104 (Y_extract (v := .bool r_3) rfl rfl rfl) ?_
 refine s0 (Ys_store (i := 2) (s := 4) (B := aD b2) (T' := 122) (v := gR_ r_2) (vs := kR_ r_2) (k := 0) (cs' := kR_ r_2) hS5 k_sz_122_4 rfl rfl rfl rfl rfl rfl rfl (lB rfl) rfl rfl) ?_
 rintro _ w_5 ⟨rfl, hS6⟩
 refine sQ 5 (Y_assign (v := .bool r_3) rfl rfl) (rw_nil (cw_ret ?_))
 obtain ⟨rfl, rfl⟩ := pr2 (some_inj hF)
 exact ret2 Try.results221 (v1 := gR_ r_2) (resAt_cellA (B := aD b2) (i := 0) (cs := kR_ r_2) (vs := kR_ r_2) rfl k_ag_122 k_sz_122_4 (hS6.cf (i := 2) rfl) rfl rfl) (v2 := .bool r_3) (resAt_tmp rfl) ⟨rfl, (hS6.sN [])⟩

theorem c_impl_DivRootTwo (x : TRing)  (w0 : World)  (hS : ST w0 [] w0 [] []) {r_ : TRing} {r_1 : Bool} (hF : F_impl_DivRootTwo x = some (r_, r_1)) :
  CV Try.prog 243 #[gR_ x] w0 (fun v w' => v = .tuple #[gR_ r_, .bool r_1] ∧ ST w0 [] w' [] []) := by
 unfold F_impl_DivRootTwo at hF
 refine cv_of_cw 43 Try.func243 rfl Try.ntmps243 rfl ?_
 refine cw_seq (cw_region ?_)
 refine sS 1 (Ys_box (T := 122) (v := gR_ x) (cs := kR_ x) (m := 4) hS rfl rfl rfl rfl) ?_
 rintro _ w_ ⟨b, rfl, hS1⟩
 refine sS 2 (Ys_alloc (T := 122) (cs := [vi 0, vi 0, vi 0, vi 0]) (m := 4) hS1 k_zero_122 rfl rfl rfl) ?_
 rintro _ w_1 ⟨b1, rfl, hS2⟩
 refine sQ 3 (Y_assign (v := .bool false) rfl rfl) (rw_nil (cw_seq (cw_seq (cw_region ?_))))
 refine sQ 4 (Y_loadA (B := aD b) (i := 0) (cs := kR_ x) (vs := kR_ x) k_ag_122 k_sz_122_4 rfl rfl (hS2.cf (i := 0) rfl) rfl rfl) ?_
 obtain ⟨r_2, hc, hF⟩ := bind_inv hF
 refine sc 5 rfl rfl (Yc_func (g := 239) (vs := [gR_ x]) k_call_239 rfl (mc rfl mn) (c_impl_IsValidRing x _  (hS2.inn0 [] rfl) hc)) ?_
 rintro _ w_2 ⟨rfl, hd⟩
 have hS3 := hS2.out00 hd
 refine sQ 6 (Y_not (p := r_2) rfl rfl) ?_
 refine sQ 7 (Y_move (v := .bool (!r_2)) rfl rfl) ?_
 refine sgq 8 (B := (!(!r_2))) (v := gR_ x) rfl rfl (uF_ 7) (fun hg => (Y_loadA (B := aD b) (i := 0) (cs := kR_ x) (vs := kR_ x) k_ag_122 k_sz_122_4 rfl rfl (hS3.cf (i := 0) rfl) rfl rfl)) ?_
 obtain ⟨r_3, hc1, hF⟩ := bind_inv hF
 refine sgc 9 (B := (!(!r_2))) (v := .bool r_3) (F := hS3.fn) rfl rfl (uF_ 7) hS3 (fun hg1 => (Yc_func (g := 240) (vs := [gR_ x]) k_call_240 rfl (mc (gv_of (v := gR_ x) hg1) mn) (CV.mono (c_impl_isEven x _  (hS3.inn0 [] rfl) (gb_inv hc1 hg1)) (by rintro _ _ ⟨rfl, h⟩; exact ⟨rfl, hS3.out00 h⟩)))) ?_
 rintro w_3 hS4
 refine sgq 10 (B := (!(!r_2))) (v := .bool (!r_3)) rfl rfl (uF_ 7) (fun hg2 => (Y_not (p := r_3) rfl (gv_of (v := .bool r_3) hg2))) ?_
 refine sQ 11 (Y_or (b := (!r_2)) (z := (!r_3)) rfl rfl rfl rfl) (rw_nil ?_)
 refine cw_cond (b := ((!r_2) || (!r_3))) rfl (fun hb => ?_) (fun hb => ?_)
 ·skip
  have hF1 := ct hF hb
  refine cw_seq (cw_region ?_)
  refine sQ 12 (Y_buildS (zs := [vi 0, vi 0, vi 0, vi 0]) (vs := []) (cs := [vi 0, vi 0, vi 0, vi 0]) k_pl_122 k_zero_122 rfl mpn rfl) ?_
  refine s0 (Ys_store (i := 1) (s := 4) (B := aD b1) (T' := 122) (v := .agg #[vi 0, vi 0, vi 0, vi 0]) (vs := [vi 0, vi 0, vi 0, vi 0]) (k := 0) (cs' := [vi 0, vi 0, vi 0, vi 0]) hS4 k_sz_122_4 rfl rfl rfl rfl rfl rfl rfl (lB rfl) rfl rfl) ?_
  rintro _ w_4 ⟨rfl, hS5⟩
  refine sQ 3 (Y_assign (v := .bool false) rfl rfl) (rw_nil (cw_ret ?_))
  obtain ⟨rfl, rfl⟩ := pr2 (some_inj hF1)
  exact ret2 Try.results243 (v1 := .agg #[vi 0, vi 0, vi 0, vi 0]) (resAt_cellA (B := aD b1) (i := 0) (cs := [vi 0, vi 0, vi 0, vi 0]) (vs := [vi 0, vi 0, vi 0, vi 0]) rfl k_ag_122 k_sz_122_4 (hS5.cf (i := 1) rfl) rfl rfl) (v2 := .bool false) (resAt_tmp rfl) ⟨rfl, (hS5.sN [])⟩
 ·skip
  have hF2 := cf' hF hb
  refine cw_skip (cw_seq (cw_region ?_))
  refine sQ 13 (Y_fieldAddr (B := aD b) (i := 0) (s := 0) k_fd_122_1_1_3 k_sz_3_1 rfl rfl) ?_
  refine sQ 14 (Y_load1 (B := aD b) (i := 1) (cs := kR_ x) (v := vi x.B) k_sc_3 rfl rfl (hS4.cf (i := 0) rfl) rfl) ?_
  refine sQ 15 (Y_fieldAddr (B := aD b) (i := 0) (s := 0) k_fd_122_3_3_3 k_sz_3_1 rfl rfl) ?_
  refine sQ 16 (Y_load1 (B := aD b) (i := 3) (cs := kR_ x) (v := vi x.D) k_sc_3 rfl rfl (hS4.cf (i := 0) rfl) rfl) ?_
  refine sQ 17 (Y_sub (k := .i64) (a := x.B) (b := x.D) rfl rfl rfl) ?_
  refine sQ 18 (Y_quo (k := .i64) (a := (i64.wrap (x.B - x.D))) (b := 2) rfl rfl rfl (by decide)) ?_
  refine sQ 19 (Y_fieldAddr (B := aD b) (i := 0) (s := 0) k_fd_122_0_0_3 k_sz_3_1 rfl rfl) ?_
  refine sQ 20 (Y_load1 (B := aD b) (i := 0) (cs := kR_ x) (v := vi x.A) k_sc_3 rfl rfl (hS4.cf (i := 0) rfl) rfl) ?_
  refine sQ 21 (Y_fieldAddr (B := aD b) (i := 0) (s := 0) k_fd_122_2_2_3 k_sz_3_1 rfl rfl) ?_
  refine sQ 22 (Y_load1 (B := aD b) (i := 2) (cs := kR_ x) (v := vi x.C) k_sc_3 rfl rfl (hS4.cf (i := 0) rfl) rfl) ?_
  refine sQ 23 (Y_add (k := .i64) (a := x.A) (b := x.C) rfl rfl rfl) ?_
  refine sQ 24 (Y_quo (k := .i64) (a := (i64.wrap (x.A + x.C))) (b := 2) rfl rfl rfl (by decide)) ?_
  refine sQ 25 (Y_fieldAddr (B := aD b) (i := 0) (s := 0) k_fd_122_1_1_3 k_sz_3_1 rfl rfl) ?_
  refine sQ 26 (Y_load1 (B := aD b) (i := 1) (cs := kR_ x) (v := vi x.B) k_sc_3 rfl rfl (hS4.cf (i := 0) rfl) rfl) ?_
  refine sQ 27 (Y_fieldAddr (B := aD b) (i := 0) (s := 0) k_fd_122_3_3_3 k_sz_3_1 rfl rfl) ?_
  refine sQ 28 (Y_load1 (B := aD b) (i := 3) (cs := kR_ x) (v := vi x.D) k_sc_3 rfl rfl (hS4.cf (i := 0) rfl) rfl) ?_
  refine sQ 29 (Y_add (k := .i64) (a := x.B) (b := x.D) rfl rfl rfl) ?_
  refine sQ 30 (Y_quo (k := .i64) (a := (i64.wrap (x.B + x.D))) (b := 2) rfl rfl rfl (by decide)) ?_
  refine sQ 31 (Y_fieldAddr (B := aD b) (i := 0) (s := 0) k_fd_122_2_2_3 k_sz_3_1 rfl rfl) ?_
  refine sQ 32 (Y_load1 (B := aD b) (i := 2) (cs := kR_ x) (v := vi x.C) k_sc_3 rfl rfl (hS4.cf (i := 0) rfl) rfl) ?_
  refine sQ 33 (Y_fieldAddr (B := aD b) (i := 0) (s := 0) k_fd_122_0_0_3 k_sz_3_1 rfl rfl) ?_
  refine sQ 34 (Y_load1 (B := aD b) (i := 0) (cs := kR_ x) (v := vi x.A) k_sc_3 rfl rfl (hS4.cf (i := 0) rfl) rfl) ?_
  refine sQ 35 (Y_sub (k := .i64) (a := x.C) (b := x.A) rfl rfl rfl) ?_
  refine sQ 36 (Y_quo (k := .i64) (a := (i64.wrap (x.C - x.A))) (b := 2) rfl rfl rfl (by decide)) ?_
  refine sQ 37 (Y_buildS (zs := [vi 0, vi 0, vi 0, vi 0]) (vs := [(0, vi (i64.wrap (Int.tdiv (i64.wrap (x.B - x.D)) 2))), (1, vi (i64.wrap (Int.tdiv (i64.wrap (x.A + x.C)) 2))), (2, vi (i64.wrap (Int.tdiv (i64.wrap (x.B + x.D)) 2))), (3, vi (i64.wrap (Int.tdiv (i64.wrap (x.C - x.A)) 2)))]) (cs := [vi (i64.wrap (Int.tdiv (i64.wrap (x.B - x.D)) 2)), vi (i64.wrap (Int.tdiv (i64.wrap (x.A + x.C)) 2)), vi (i64.wrap (Int.tdiv (i64.wrap (x.B + x.D)) 2)), vi (i64.wrap (Int.tdiv (i64.wrap (x.C - x.A)) 2))]) k_pl_122 k_zero_122 rfl (mpc rfl (mpc rfl (mpc rfl (mpc rfl mpn)))) rfl) ?_
  refine sQ 38 (Y_loadA (B := aD b) (i := 0) (cs := kR_ x) (vs := kR_ x) k_ag_122 k_sz_122_4 rfl rfl (hS4.cf (i := 0) rfl) rfl rfl) ?_
  refine sS 39 (Ys_bslice (s := 4) (len := 1) (vs := [(0, gR_ x)]) (cs := kR_ x) (zs := [vi 0, vi 0, vi 0, vi 0]) (m := 4) hS4 k_sl_207_122 k_sz_122_4 k_zc_122 rfl (mpc rfl mpn) rfl rfl rfl (by kernel_rfl) (by kernel_rfl) rfl) ?_
  rintro _ w_5 ⟨b2, rfl, hS6⟩
  obtain ⟨⟨r_4, r_5⟩, hc2, hF2⟩ := bind_inv hF2
  refine sc 40 rfl rfl (Yc_func (g := 242) (vs := [.agg #[vi (i64.wrap (Int.tdiv (i64.wrap (x.B - x.D)) 2)), vi (i64.wrap (Int.tdiv (i64.wrap (x.A + x.C)) 2)), vi (i64.wrap (Int.tdiv (i64.wrap (x.B + x.D)) 2)), vi (i64.wrap (Int.tdiv (i64.wrap (x.C - x.A)) 2))], .slice (aD b2) 1 1]) k_call_242 rfl (mc rfl (mc rfl mn)) (c_impl_ringIf (TRing.mk (i64.wrap (Int.tdiv (i64.wrap (x.B - x.D)) 2)) (i64.wrap (Int.tdiv (i64.wrap (x.A + x.C)) 2)) (i64.wrap (Int.tdiv (i64.wrap (x.B + x.D)) 2)) (i64.wrap (Int.tdiv (i64.wrap (x.C - x.A)) 2))) [x] (aD b2) 1 1 _ rfl (hS6.inn [false, false, true] rfl [] rfl) hc2)) ?_
  rintro _ w_6 ⟨rfl, hd1⟩
  have hS7 := hS6.out [false, false, true] rfl hd1
  refine sQ 41 (Y_extract (v := gR_ r_4) rfl rfl rfl) ?_
  refine sQ 42 (Y_extract (v := .bool r_5) rfl rfl rfl) ?_
  refine s0 (Ys_store (i := 1) (s := 4) (B := aD b1) (T' := 122) (v := gR_ r_4) (vs := kR_ r_4) (k := 0) (cs' := kR_ r_4) hS7 k_sz_122_4 rfl rfl rfl rfl rfl rfl rfl (lB rfl) rfl rfl) ?_
  rintro _ w_7 ⟨rfl, hS8⟩
  refine sQ 3 (Y_assign (v := .bool r_5) rfl rfl) (rw_nil (cw_ret ?_))
  obtain ⟨rfl, rfl⟩ := pr2 (some_inj hF2)
  exact ret2 Try.results243 (v1 := gR_ r_4) (resAt_cellA (B := aD b1) (i := 0) (cs := kR_ r_4) (vs := kR_ r_4) rfl k_ag_122 k_sz_122_4 (hS8.cf (i := 1) rfl) rfl rfl) (v2 := .bool r_5) (resAt_tmp rfl) ⟨rfl, (hS8.sN [])⟩

theorem c_impl_DyadicOf (num : TRing) (exp : Int)  (w0 : World)  (hS : ST w0 [] w0 [] []) {r_ : TDyadic} {r_1 : Bool} (hF : F_impl_DyadicOf num exp = some (r_, r_1)) :
  CV Try.prog 222 #[gR_ num, vi exp] w0 (fun v w' => v = .tuple #[gD_ r_, .bool r_1] ∧ ST w0 [] w' [] []) := by
 unfold F_impl_DyadicOf at hF
 refine cv_of_cw 31 Try.func222 rfl Try.ntmps222 rfl ?_
 refine cw_seq (cw_region ?_)
 refine sS 2 (Ys_box (T := 122) (v := gR_ num) (cs := kR_ num) (m := 4) hS rfl rfl rfl rfl) ?_
 rintro _ w_ ⟨b, rfl, hS1⟩
 refine sS 4 (Ys_alloc (T := 124) (cs := kZ_) (m := 5) hS1 k_zero_124 rfl rfl rfl) ?_
 rintro _ w_1 ⟨b1, rfl, hS2⟩
 refine sQ 5 (Y_assign (v := .bool false) rfl rfl) (rw_nil (cw_seq (cw_seq (cw_region ?_))))
 refine sQ 6 (Y_loadA (B := aD b) (i := 0) (cs := kR_ num) (vs := kR_ num) k_ag_122 k_sz_122_4 rfl rfl (hS2.cf (i := 0) rfl) rfl rfl) ?_
 obtain ⟨r_2, hc, hF⟩ := bind_inv hF
 refine sc 7 rfl rfl (Yc_func (g := 239) (vs := [gR_ num]) k_call_239 rfl (mc rfl mn) (c_impl_IsValidRing num _  (hS2.inn0 [] rfl) hc)) ?_
 rintro _ w_2 ⟨rfl, hd⟩
 have hS3 := hS2.out00 hd
 refine sQ 8 (Y_not (p := r_2) rfl rfl) ?_
 refine sQ 9 (Y_move (v := .bool (!r_2)) rfl rfl) ?_
 refine sgq 10 (B := (!(!r_2))) (v := vi exp) rfl rfl (uF_ 9) (fun hg => (Y_move (v := vi exp) rfl rfl)) ?_
 obtain ⟨r_3, hc1, hF⟩ := bind_inv hF
 refine sgc 11 (B := (!(!r_2))) (v := .bool r_3) (F := hS3.fn) rfl rfl (uF_ 9) hS3 (fun hg1 => (Yc_func (g := 98) (vs := [vi exp, vi 0, vi 60]) k_call_98 rfl (mc (gv_of (v := vi exp) hg1) (mc rfl (mc rfl mn))) (CV.mono (c_impl_within exp 0 60 _  (hS3.inn0 [] rfl) (gb_inv hc1 hg1)) (by rintro _ _ ⟨rfl, h⟩; exact ⟨rfl, hS3.out00 h⟩)))) ?_
 rintro w_3 hS4
 refine sgq 12 (B := (!(!r_2))) (v := .bool (!r_3)) rfl rfl (uF_ 9) (fun hg2 => (Y_not (p := r_3) rfl (gv_of (v := .bool r_3) hg2))) ?_
 refine sQ 13 (Y_or (b := (!r_2)) (z := (!r_3)) rfl rfl rfl rfl) (rw_nil ?_)
 refine cw_cond (b := ((!r_2) || (!r_3))) rfl (fun hb => ?_) (fun hb => ?_)
 ·skip
  have hF1 := ct hF hb
  refine cw_seq (cw_region ?_)
  refine sQ 14 (Y_buildS (zs := kZ_) (vs := []) (cs := kZ_) k_pl_124 k_zero_124 rfl mpn rfl) ?_
  refine s0 (Ys_store (i := 1) (s := 5) (B := aD b1) (T' := 124) (v := gZ_) (vs := kZ_) (k := 0) (cs' := kZ_) hS4 k_sz_124_5 rfl rfl rfl rfl rfl rfl rfl (lB rfl) rfl rfl) ?_
  rintro _ w_4 ⟨rfl, hS5⟩
  refine sQ 5 (Y_assign (v := .bool false) rfl rfl) (rw_nil (cw_ret ?_))
  obtain ⟨rfl, rfl⟩ := pr2 (some_inj hF1)
  exact ret2 Try.results222 (v1 := gZ_) (resAt_cellA (B := aD b1) (i := 0) (cs := kZ_) (vs := kZ_) rfl k_ag_124 k_sz_124_5 (hS5.cf (i := 1) rfl) rfl rfl) (v2 := .bool false) (resAt_tmp rfl) ⟨rfl, (hS5.sN [])⟩
 ·skip
  have hF2 := cf' hF hb
  refine cw_skip (cw_seq ?_)
  obtain ⟨z, hz, hF3⟩ := bind_inv hF2
  refine cw_block ?_
  refine cw_loop (fun k f w => ∃ (exp1 : Int) (A : Int) (B : Int) (C : Int) (D : Int), FF f [(1, vi exp1), (2, pt (aD b) 0), (4, pt (aD b1) 0)] ∧ ST w0 [] w [⟨aD b, 122, [vi A, vi B, vi C, vi D], 4⟩, ⟨aD b1, 124, kZ_, 5⟩] [] ∧ whX F_impl_DyadicOf_l1 k (exp1, A, B, C, D) = some z) fuel ⟨exp, num.A, num.B, num.C, num.D, (FF.cons rfl (FF.cons rfl (FF.cons rfl FF.nil))), (hS4.sel [0, 1] rfl rfl), hz⟩ ?_
  rintro k_ f w ⟨exp1, A, B, C, D, hf, hS6, hL⟩
  obtain ⟨k_1, y, rfl, hb1, hL1⟩ := whX_go hL
  unfold F_impl_DyadicOf_l1 at hb1
  refine cw_seq (cw_seq (cw_region ?_))
  refine sQ 15 (Y_move (v := vi exp1) rfl (hf.get 1 0 rfl)) ?_
  refine sQ 16 (Y_gt (k := .i64) (a := exp1) (b := 0) rfl rfl rfl) ?_
  refine sQ 17 (Y_move (v := .bool (decide (0 < exp1))) rfl rfl) ?_
  refine sgq 18 (B := (decide (0 < exp1))) (v := .agg #[vi A, vi B, vi C, vi D]) rfl rfl (uT_ 17) (fun hg3 => (Y_loadA (B := aD b) (i := 0) (cs := [vi A, vi B, vi C, vi D]) (vs := [vi A, vi B, vi C, vi D]) k_ag_122 k_sz_122_4 rfl (hf.get 2 1 rfl) (hS6.cf (i := 0) rfl) rfl rfl)) ?_
  obtain ⟨r_4, hc2, hb1⟩ := bind_inv hb1
  refine sgc 19 (B := (decide (0 < exp1))) (v := .bool r_4) (F := hS6.fn) rfl rfl (uT_ 17) hS6 (fun hg4 => (Yc_func (g := 240) (vs := [.agg #[vi A, vi B, vi C, vi D]]) k_call_240 rfl (mc (gv_of (v := .agg #[vi A, vi B, vi C, vi D]) hg4) mn) (CV.mono (c_impl_isEven (TRing.mk A B C D) _  (hS6.inn0 [] rfl) (gb_inv hc2 hg4)) (by rintro _ _ ⟨rfl, h⟩; exact ⟨rfl, hS6.out00 h⟩)))) ?_
  rintro w_5 hS7
  refine sQ 20 (Y_and (b := (decide (0 < exp1))) (z := r_4) rfl rfl rfl rfl) (rw_nil ?_)
  refine cw_cond (b := ((decide (0 < exp1)) && r_4)) rfl (fun hb2 => ?_) (fun hb2 => ?_)
  ·skip
   have hF4 := ct hb1 hb2
   refine cw_skip (cw_block (cw_seq (cw_region ?_)))
   refine sQ 22 (Y_loadA (B := aD b) (i := 0) (cs := [vi A, vi B, vi C, vi D]) (vs := [vi A, vi B, vi C, vi D]) k_ag_122 k_sz_122_4 rfl (hf.get 2 1 rfl) (hS7.cf (i := 0) rfl) rfl rfl) ?_
   obtain ⟨⟨r_5, r_6⟩, hc3, hF4⟩ := bind_inv hF4
   refine sc 23 rfl rfl (Yc_func (g := 243) (vs := [.agg #[vi A, vi B, vi C, vi D]]) k_call_243 rfl (mc rfl mn) (c_impl_DivRootTwo (TRing.mk A B C D) _  (hS7.inn0 [] rfl) hc3)) ?_
   rintro _ w_6 ⟨rfl, hd1⟩
   have hS8 := hS7.out00 hd1
   refine sQ 21 (Y_move (v := .tuple #[gR_ r_5, .bool r_6]) rfl rfl) ?_
   refine sQ 24 (Y_extract (v := gR_ r_5) rfl rfl rfl) ?_
   refine sQ 25 (Y_extract (v := .bool r_6) rfl rfl rfl) ?_
   refine s0 (Ys_store (i := 0) (s := 4) (B := aD b) (T' := 122) (v := gR_ r_5) (vs := kR_ r_5) (k := 0) (cs' := kR_ r_5) hS8 k_sz_122_4 rfl (hf.get 2 1 rfl) rfl rfl rfl rfl rfl (lB rfl) rfl rfl) ?_
   rintro _ w_7 ⟨rfl, hS9⟩
   refine rw_nil (cw_region ?_)
   refine sQ 26 (Y_move (v := vi exp1) rfl (hf.get 1 0 rfl)) ?_
   refine sQ 27 (Y_sub (k := .i64) (a := exp1) (b := 1) rfl rfl rfl) ?_
   refine sQ 1 (Y_assign (v := vi (i64.wrap (exp1 - 1))) rfl rfl) (rw_nil ?_)
   obtain rfl := some_inj hF4
   exact ⟨k_1, Nat.lt_succ_self _, (i64.wrap (exp1 - 1)), r_5.A, r_5.B, r_5.C, r_5.D, (FF.cons rfl (FF.cons (hf.get 2 1 rfl) (FF.cons (hf.get 4 2 rfl) FF.nil))), (hS9.sel [0, 1] rfl rfl), hL1⟩
  ·skip
   have hF5 := cf' hb1 hb2
   refine cw_exit rfl ?_
   obtain rfl := some_inj hF5
   obtain rfl := some_inj hL1
   refine cw_seq (cw_region ?_)
   refine sQ 28 (Y_loadA (B := aD b) (i := 0) (cs := [vi A, vi B, vi C, vi D]) (vs := [vi A, vi B, vi C, vi D]) k_ag_122 k_sz_122_4 rfl (hf.get 2 1 rfl) (hS7.cf (i := 0) rfl) rfl rfl) ?_
   refine sQ 29 (Y_move (v := vi exp1) rfl (hf.get 1 0 rfl)) ?_
   refine sQ 30 (Y_buildS (zs := kZ_) (vs := [(0, .agg #[vi A, vi B, vi C, vi D]), (1, vi exp1)]) (cs := [vi A, vi B, vi C, vi D, vi exp1]) k_pl_124 k_zero_124 rfl (mpc rfl (mpc rfl mpn)) rfl) ?_
   refine s0 (Ys_store (i := 1) (s := 5) (B := aD b1) (T' := 124) (v := .agg #[vi A, vi B, vi C, vi D, vi exp1]) (vs := [vi A, vi B, vi C, vi D, vi exp1]) (k := 0) (cs' := [vi A, vi B, vi C, vi D, vi exp1]) hS7 k_sz_124_5 rfl (hf.get 4 2 rfl) rfl rfl rfl rfl rfl (lB rfl) rfl rfl) ?_
   rintro _ w_8 ⟨rfl, hS10⟩
   refine sQ 5 (Y_assign (v := .bool true) rfl rfl) (rw_nil (cw_ret ?_))
   obtain ⟨rfl, rfl⟩ := pr2 (some_inj hF3)
   exact ret2 Try.results222 (v1 := .agg #[vi A, vi B, vi C, vi D, vi exp1]) (resAt_cellA (B := aD b1) (i := 0) (cs := [vi A, vi B, vi C, vi D, vi exp1]) (vs := [vi A, vi B, vi C, vi D, vi exp1]) (hf.get 4 2 rfl) k_ag_124 k_sz_124_5 (hS10.cf (i := 1) rfl) rfl rfl) (v2 := .bool true) (resAt_tmp rfl) ⟨rfl, (hS10.sN [])⟩

theorem c_impl_MulDyadic (x : TDyadic) (y : TDyadic)  (w0 : World)  (hS : ST w0 [] w0 [] []) {r_ : TDyadic} {r_1 : Bool} (hF : F_impl_MulDyadic x y = some (r_, r_1)) :
  CV Try.prog 161 #[gD_ x, gD_ y] w0 (fun v w' => v = .tuple #[gD_ r_, .bool r_1] ∧ ST w0 [] w' [] []) := by
 unfold F_impl_MulDyadic at hF
 refine cv_of_cw 38 Try.func161 rfl Try.ntmps161 rfl ?_
 refine cw_seq (cw_region ?_)
 refine sS 2 (Ys_box (T := 124) (v := gD_ x) (cs := kD_ x) (m := 5) hS rfl rfl rfl rfl) ?_
 rintro _ w_ ⟨b, rfl, hS1⟩
 refine sS 3 (Ys_box (T := 124) (v := gD_ y) (cs := kD_ y) (m := 5) hS1 rfl rfl rfl rfl) ?_
 rintro _ w_1 ⟨b1, rfl, hS2⟩
 refine sS 4 (Ys_alloc (T := 124) (cs := kZ_) (m := 5) hS2 k_zero_124 rfl rfl rfl) ?_
 rintro _ w_2 ⟨b2, rfl, hS3⟩
 refine sQ 5 (Y_assign (v := .bool false) rfl rfl) (rw_nil (cw_seq (cw_region ?_)))
 refine sQ 9 (Y_fieldAddr (B := aD b) (i := 0) (s := 3) k_fd_124_0_0_122 k_sz_122_4 rfl rfl) ?_
 refine sQ 10 (Y_loadA (B := aD b) (i := 0) (cs := kD_ x) (vs := kR_ x.Num) k_ag_122 k_sz_122_4 rfl rfl (hS3.cf (i := 0) rfl) rfl rfl) ?_
 refine sQ 11 (Y_fieldAddr (B := aD b1) (i := 0) (s := 3) k_fd_124_0_0_122 k_sz_122_4 rfl rfl) ?_
 refine sQ 12 (Y_loadA (B := aD b1) (i := 0) (cs := kD_ y) (vs := kR_ y.Num) k_ag_122 k_sz_122_4 rfl rfl (hS3.cf (i := 1) rfl) rfl rfl) ?_
 obtain ⟨⟨r_2, r_3⟩, hc, hF⟩ := bind_inv hF
 refine sc 13 rfl rfl (Yc_func (g := 221) (vs := [gR_ x.Num, gR_ y.Num]) k_call_221 rfl (mc rfl (mc rfl mn)) (c_impl_MulRing x.Num y.Num _  (hS3.inn0 [] rfl) hc)) ?_
 rintro _ w_3 ⟨rfl, hd⟩
 have hS4 := hS3.out00 hd
 refine sQ 8 (Y_move (v := .tuple #[gR_ r_2, .bool r_3]) rfl rfl) ?_
 refine sQ 14 (Y_extract (v := gR_ r_2) rfl rfl rfl) ?_
 refine sQ 15 (Y_extract (v := .bool r_3) rfl rfl rfl) ?_
 refine sS 6 (Ys_alloc (T := 122) (cs := [vi 0, vi 0, vi 0, vi 0]) (m := 4) hS4 k_zero_122 rfl rfl rfl) ?_
 rintro _ w_4 ⟨b3, rfl, hS5⟩
 refine s0 (Ys_store (i := 3) (s := 4) (B := aD b3) (T' := 122) (v := gR_ r_2) (vs := kR_ r_2) (k := 0) (cs' := kR_ r_2) hS5 k_sz_122_4 rfl rfl rfl rfl rfl rfl rfl (lB rfl) rfl rfl) ?_
 rintro _ w_5 ⟨rfl, hS6⟩
 refine sQ 7 (Y_assign (v := .bool r_3) rfl rfl) (rw_nil (cw_seq (cw_seq (cw_region ?_))))
 refine sQ 16 (Y_loadA (B := aD b) (i := 0) (cs := kD_ x) (vs := kD_ x) k_ag_124 k_sz_124_5 rfl rfl (hS6.cf (i := 0) rfl) rfl rfl) ?_
 obtain ⟨r_4, hc1, hF⟩ := bind_inv hF
 refine sc 17 rfl rfl (Yc_func (g := 211) (vs := [gD_ x]) k_call_211 rfl (mc rfl mn) (c_impl_IsValidDyadic x _  (hS6.inn0 [] rfl) hc1)) ?_
 rintro _ w_6 ⟨rfl, hd1⟩
 have hS7 := hS6.out00 hd1
 refine sQ 18 (Y_not (p := r_4) rfl rfl) ?_
 refine sQ 19 (Y_move (v := .bool (!r_4)) rfl rfl) ?_
 refine sgq 20 (B := (!(!r_4))) (v := gD_ y) rfl rfl (uF_ 19) (fun hg => (Y_loadA (B := aD b1) (i := 0) (cs := kD_ y) (vs := kD_ y) k_ag_124 k_sz_124_5 rfl rfl (hS7.cf (i := 1) rfl) rfl rfl)) ?_
 obtain ⟨r_5, hc2, hF⟩ := bind_inv hF
 refine sgc 21 (B := (!(!r_4))) (v := .bool r_5) (F := hS7.fn) rfl rfl (uF_ 19) hS7 (fun hg1 => (Yc_func (g := 211) (vs := [gD_ y]) k_call_211 rfl (mc (gv_of (v := gD_ y) hg1) mn) (CV.mono (c_impl_IsValidDyadic y _  (hS7.inn0 [] rfl) (gb_inv hc2 hg1)) (by rintro _ _ ⟨rfl, h⟩; exact ⟨rfl, hS7.out00 h⟩)))) ?_
 rintro w_7 hS8
 refine sgq 22 (B := (!(!r_4))) (v := .bool (!r_5)) rfl rfl (uF_ 19) (fun hg2 => (Y_not (p := r_5) rfl (gv_of (v := .bool r_5) hg2))) ?_
 refine sQ 23 (Y_or (b := (!r_4)) (z := (!r_5)) rfl rfl rfl rfl) ?_
 refine sQ 24 (Y_move (v := .bool ((!r_4) || (!r_5))) rfl rfl) ?_
 refine sgq 25 (B := (!((!r_4) || (!r_5)))) (v := .bool r_3) rfl rfl (uF_ 24) (fun hg3 => (Y_move (v := .bool r_3) rfl rfl)) ?_
 refine sgq 26 (B := (!((!r_4) || (!r_5)))) (v := .bool (!r_3)) rfl rfl (uF_ 24) (fun hg4 => (Y_not (p := r_3) rfl (gv_of (v := .bool r_3) hg4))) ?_
 refine sQ 27 (Y_or (b := ((!r_4) || (!r_5))) (z := (!r_3)) rfl rfl rfl rfl) (rw_nil ?_)
 refine cw_cond (b := (((!r_4) || (!r_5)) || (!r_3))) rfl (fun hb => ?_) (fun hb => ?_)
 ·skip
  have hF1 := ct hF hb
  refine cw_seq (cw_region ?_)
  refine sQ 28 (Y_buildS (zs := kZ_) (vs := []) (cs := kZ_) k_pl_124 k_zero_124 rfl mpn rfl) ?_
  refine s0 (Ys_store (i := 2) (s := 5) (B := aD b2) (T' := 124) (v := gZ_) (vs := kZ_) (k := 0) (cs' := kZ_) hS8 k_sz_124_5 rfl rfl rfl rfl rfl rfl rfl (lB rfl) rfl rfl) ?_
  rintro _ w_8 ⟨rfl, hS9⟩
  refine sQ 5 (Y_assign (v := .bool false) rfl rfl) (rw_nil (cw_ret ?_))
  obtain ⟨rfl, rfl⟩ := pr2 (some_inj hF1)
  exact ret2 Try.results161 (v1 := gZ_) (resAt_cellA (B := aD b2) (i := 0) (cs := kZ_) (vs := kZ_) rfl k_ag_124 k_sz_124_5 (hS9.cf (i := 2) rfl) rfl rfl) (v2 := .bool false) (resAt_tmp rfl) ⟨rfl, (hS9.sN [])⟩
 ·skip
  have hF2 := cf' hF hb
  refine cw_skip (cw_seq (cw_region ?_))
  refine sQ 29 (Y_loadA (B := aD b3) (i := 0) (cs := kR_ r_2) (vs := kR_ r_2) k_ag_122 k_sz_122_4 rfl rfl (hS8.cf (i := 3) rfl) rfl rfl) ?_
  refine sQ 30 (Y_fieldAddr (B := aD b) (i := 0) (s := 0) k_fd_124_1_4_3 k_sz_3_1 rfl rfl) ?_
  refine sQ 31 (Y_load1 (B := aD b) (i := 4) (cs := kD_ x) (v := vi x.Exp) k_sc_3 rfl rfl (hS8.cf (i := 0) rfl) rfl) ?_
  refine sQ 32 (Y_fieldAddr (B := aD b1) (i := 0) (s := 0) k_fd_124_1_4_3 k_sz_3_1 rfl rfl) ?_
  refine sQ 33 (Y_load1 (B := aD b1) (i := 4) (cs := kD_ y) (v := vi y.Exp) k_sc_3 rfl rfl (hS8.cf (i := 1) rfl) rfl) ?_
  refine sQ 34 (Y_add (k := .i64) (a := x.Exp) (b := y.Exp) rfl rfl rfl) ?_
  obtain ⟨⟨r_6, r_7⟩, hc3, hF2⟩ := bind_inv hF2
  refine sc 35 rfl rfl (Yc_func (g := 222) (vs := [gR_ r_2, vi (i64.wrap (x.Exp + y.Exp))]) k_call_222 rfl (mc rfl (mc rfl mn)) (c_impl_DyadicOf r_2 (i64.wrap (x.Exp + y.Exp)) _  (hS8.inn0 [] rfl) hc3)) ?_
  rintro _ w_9 ⟨rfl, hd2⟩
  have hS10 := hS8.out00 hd2
  refine sQ 36 (Y_extract (v := gD_ r_6) rfl rfl rfl) ?_
  refine sQ 37 (Y_extract (v := .bool r_7) rfl rfl rfl) ?_
  refine s0 (Ys_store (i := 2) (s := 5) (B := aD b2) (T' := 124) (v := gD_ r_6) (vs := kD_ r_6) (k := 0) (cs' := kD_ r_6) hS10 k_sz_124_5 rfl rfl rfl rfl rfl rfl rfl (lB rfl) rfl rfl) ?_
  rintro _ w_10 ⟨rfl, hS11⟩
  refine sQ 5 (Y_assign (v := .bool r_7) rfl rfl) (rw_nil (cw_ret ?_))
  obtain ⟨rfl, rfl⟩ := pr2 (some_inj hF2)
  exact ret2 Try.results161 (v1 := gD_ r_6) (resAt_cellA (B := aD b2) (i := 0) (cs := kD_ r_6) (vs := kD_ r_6) rfl k_ag_124 k_sz_124_5 (hS11.cf (i := 2) rfl) rfl rfl) (v2 := .bool r_7) (resAt_tmp rfl) ⟨rfl, (hS11.sN [])⟩

theorem c_impl_Conjugate (x : TRing)  (w0 : World)  (hS : ST w0 [] w0 [] []) {r_ : TRing} {r_1 : Bool} (hF : F_impl_Conjugate x = some (r_, r_1)) :
  CV Try.prog 241 #[gR_ x] w0 (fun v w' => v = .tuple #[gR_ r_, .bool r_1] ∧ ST w0 [] w' [] []) := by
 unfold F_impl_Conjugate at hF
 refine cv_of_cw 21 Try.func241 rfl Try.ntmps241 rfl ?_
 refine cw_seq (cw_region ?_)
 refine sS 1 (Ys_box (T := 122) (v := gR_ x) (cs := kR_ x) (m := 4) hS rfl rfl rfl rfl) ?_
 rintro _ w_ ⟨b, rfl, hS1⟩
 refine sS 2 (Ys_alloc (T := 122) (cs := [vi 0, vi 0, vi 0, vi 0]) (m := 4) hS1 k_zero_122 rfl rfl rfl) ?_
 rintro _ w_1 ⟨b1, rfl, hS2⟩
 refine sQ 3 (Y_assign (v := .bool false) rfl rfl) (rw_nil (cw_seq (cw_region ?_)))
 refine sQ 4 (Y_fieldAddr (B := aD b) (i := 0) (s := 0) k_fd_122_0_0_3 k_sz_3_1 rfl rfl) ?_
 refine sQ 5 (Y_load1 (B := aD b) (i := 0) (cs := kR_ x) (v := vi x.A) k_sc_3 rfl rfl (hS2.cf (i := 0) rfl) rfl) ?_
 refine sQ 6 (Y_fieldAddr (B := aD b) (i := 0) (s := 0) k_fd_122_3_3_3 k_sz_3_1 rfl rfl) ?_
 refine sQ 7 (Y_load1 (B := aD b) (i := 3) (cs := kR_ x) (v := vi x.D) k_sc_3 rfl rfl (hS2.cf (i := 0) rfl) rfl) ?_
 refine sQ 8 (Y_neg (k := .i64) (a := x.D) rfl rfl) ?_
 refine sQ 9 (Y_fieldAddr (B := aD b) (i := 0) (s := 0) k_fd_122_2_2_3 k_sz_3_1 rfl rfl) ?_
 refine sQ 10 (Y_load1 (B := aD b) (i := 2) (cs := kR_ x) (v := vi x.C) k_sc_3 rfl rfl (hS2.cf (i := 0) rfl) rfl) ?_
 refine sQ 11 (Y_neg (k := .i64) (a := x.C) rfl rfl) ?_
 refine sQ 12 (Y_fieldAddr (B := aD b) (i := 0) (s := 0) k_fd_122_1_1_3 k_sz_3_1 rfl rfl) ?_
 refine sQ 13 (Y_load1 (B := aD b) (i := 1) (cs := kR_ x) (v := vi x.B) k_sc_3 rfl rfl (hS2.cf (i := 0) rfl) rfl) ?_
 refine sQ 14 (Y_neg (k := .i64) (a := x.B) rfl rfl) ?_
 refine sQ 15 (Y_buildS (zs := [vi 0, vi 0, vi 0, vi 0]) (vs := [(0, vi x.A), (1, vi (i64.wrap (-x.D))), (2, vi (i64.wrap (-x.C))), (3, vi (i64.wrap (-x.B)))]) (cs := [vi x.A, vi (i64.wrap (-x.D)), vi (i64.wrap (-x.C)), vi (i64.wrap (-x.B))]) k_pl_122 k_zero_122 rfl (mpc rfl (mpc rfl (mpc rfl (mpc rfl mpn)))) rfl) ?_
 refine sQ 16 (Y_loadA (B := aD b) (i := 0) (cs := kR_ x) (vs := kR_ x) k_ag_122 k_sz_122_4 rfl rfl (hS2.cf (i := 0) rfl) rfl rfl) ?_
 refine sS 17 (Ys_bslice (s := 4) (len := 1) (vs := [(0, gR_ x)]) (cs := kR_ x) (zs := [vi 0, vi 0, vi 0, vi 0]) (m := 4) hS2 k_sl_207_122 k_sz_122_4 k_zc_122 rfl (mpc rfl mpn) rfl rfl rfl (by kernel_rfl) (by kernel_rfl) rfl) ?_
 rintro _ w_2 ⟨b2, rfl, hS3⟩
 obtain ⟨⟨r_2, r_3⟩, hc, hF⟩ := bind_inv hF
 refine sc 18 rfl rfl (Yc_func (g := 242) (vs := [.agg #[vi x.A, vi (i64.wrap (-x.D)), vi (i64.wrap (-x.C)), vi (i64.wrap (-x.B))], .slice (aD b2) 1 1]) k_call_242 rfl (mc rfl (mc rfl mn)) (c_impl_ringIf (TRing.mk x.A (i64.wrap (-x.D)) (i64.wrap (-x.C)) (i64.wrap (-x.B))) [x] (aD b2) 1 1 _ rfl (hS3.inn [false, false, true] rfl [] rfl) hc)) ?_
 rintro _ w_3 ⟨rfl, hd⟩
 have hS4 := hS3.out [false, false, true] rfl hd
 refine sQ 19 (Y_extract (v := gR_ r_2) rfl rfl rfl) ?_
 refine sQ 20 (Y_extract (v := .bool r_3) rfl rfl rfl) ?_
 refine s0 (Ys_store (i := 1) (s := 4) (B := aD b1) (T' := 122) (v := gR_ r_2) (vs := kR_ r_2) (k := 0) (cs' := kR_ r_2) hS4 k_sz_122_4 rfl rfl rfl rfl rfl rfl rfl (lB rfl) rfl rfl) ?_
 rintro _ w_4 ⟨rfl, hS5⟩
 refine sQ 3 (Y_assign (v := .bool r_3) rfl rfl) (rw_nil (cw_ret ?_))
 obtain ⟨rfl, rfl⟩ := pr2 (some_inj hF)
 exact ret2 Try.results241 (v1 := gR_ r_2) (resAt_cellA (B := aD b1) (i := 0) (cs := kR_ r_2) (vs := kR_ r_2) rfl k_ag_122 k_sz_122_4 (hS5.cf (i := 1) rfl) rfl rfl) (v2 := .bool r_3) (resAt_tmp rfl) ⟨rfl, (hS5.sN [])⟩

theorem c_impl_ConjDyadic (x : TDyadic)  (w0 : World)  (hS : ST w0 [] w0 [] []) {r_ : TDyadic} {r_1 : Bool} (hF : F_impl_ConjDyadic x = some (r_, r_1)) :
  CV Try.prog 212 #[gD_ x] w0 (fun v w' => v = .tuple #[gD_ r_, .bool r_1] ∧ ST w0 [] w' [] []) := by
 unfold F_impl_ConjDyadic at hF
 refine cv_of_cw 20 Try.func212 rfl Try.ntmps212 rfl ?_
 refine cw_seq (cw_region ?_)
 refine sS 1 (Ys_box (T := 124) (v := gD_ x) (cs := kD_ x) (m := 5) hS rfl rfl rfl rfl) ?_
 rintro _ w_ ⟨b, rfl, hS1⟩
 refine sS 2 (Ys_alloc (T := 124) (cs := kZ_) (m := 5) hS1 k_zero_124 rfl rfl rfl) ?_
 rintro _ w_1 ⟨b1, rfl, hS2⟩
 refine sQ 3 (Y_assign (v := .bool false) rfl rfl) (rw_nil (cw_seq (cw_seq (cw_region ?_))))
 refine sQ 6 (Y_loadA (B := aD b) (i := 0) (cs := kD_ x) (vs := kD_ x) k_ag_124 k_sz_124_5 rfl rfl (hS2.cf (i := 0) rfl) rfl rfl) ?_
 obtain ⟨r_2, hc, hF⟩ := bind_inv hF
 refine sc 7 rfl rfl (Yc_func (g := 211) (vs := [gD_ x]) k_call_211 rfl (mc rfl mn) (c_impl_IsValidDyadic x _  (hS2.inn0 [] rfl) hc)) ?_
 rintro _ w_2 ⟨rfl, hd⟩
 have hS3 := hS2.out00 hd
 refine sQ 8 (Y_not (p := r_2) rfl rfl) (rw_nil ?_)
 refine cw_cond (b := (!r_2)) rfl (fun hb => ?_) (fun hb => ?_)
 ·skip
  have hF1 := ct hF hb
  refine cw_seq (cw_region ?_)
  refine sQ 9 (Y_buildS (zs := kZ_) (vs := []) (cs := kZ_) k_pl_124 k_zero_124 rfl mpn rfl) ?_
  refine s0 (Ys_store (i := 1) (s := 5) (B := aD b1) (T' := 124) (v := gZ_) (vs := kZ_) (k := 0) (cs' := kZ_) hS3 k_sz_124_5 rfl rfl rfl rfl rfl rfl rfl (lB rfl) rfl rfl) ?_
  rintro _ w_3 ⟨rfl, hS4⟩
  refine sQ 3 (Y_assign (v := .bool false) rfl rfl) (rw_nil (cw_ret ?_))
  obtain ⟨rfl, rfl⟩ := pr2 (some_inj hF1)
  exact ret2 Try.results212 (v1 := gZ_) (resAt_cellA (B := aD b1) (i := 0) (cs := kZ_) (vs := kZ_) rfl k_ag_124 k_sz_124_5 (hS4.cf (i := 1) rfl) rfl rfl) (v2 := .bool false) (resAt_tmp rfl) ⟨rfl, (hS4.sN [])⟩
 ·skip
  have hF2 := cf' hF hb
  refine cw_skip (cw_seq (cw_region ?_))
  refine sQ 11 (Y_fieldAddr (B := aD b) (i := 0) (s := 3) k_fd_124_0_0_122 k_sz_122_4 rfl rfl) ?_
  refine sQ 12 (Y_loadA (B := aD b) (i := 0) (cs := kD_ x) (vs := kR_ x.Num) k_ag_122 k_sz_122_4 rfl rfl (hS3.cf (i := 0) rfl) rfl rfl) ?_
  obtain ⟨⟨r_3, r_4⟩, hc1, hF2⟩ := bind_inv hF2
  refine sc 13 rfl rfl (Yc_func (g := 241) (vs := [gR_ x.Num]) k_call_241 rfl (mc rfl mn) (c_impl_Conjugate x.Num _  (hS3.inn0 [] rfl) hc1)) ?_
  rintro _ w_4 ⟨rfl, hd1⟩
  have hS5 := hS3.out00 hd1
  refine sQ 10 (Y_move (v := .tuple #[gR_ r_3, .bool r_4]) rfl rfl) ?_
  refine sQ 14 (Y_extract (v := gR_ r_3) rfl rfl rfl) ?_
  refine sQ 15 (Y_extract (v := .bool r_4) rfl rfl rfl) ?_
  refine sS 4 (Ys_alloc (T := 122) (cs := [vi 0, vi 0, vi 0, vi 0]) (m := 4) hS5 k_zero_122 rfl rfl rfl) ?_
  rintro _ w_5 ⟨b2, rfl, hS6⟩
  refine s0 (Ys_store (i := 2) (s := 4) (B := aD b2) (T' := 122) (v := gR_ r_3) (vs := kR_ r_3) (k := 0) (cs' := kR_ r_3) hS6 k_sz_122_4 rfl rfl rfl rfl rfl rfl rfl (lB rfl) rfl rfl) ?_
  rintro _ w_6 ⟨rfl, hS7⟩
  refine sQ 5 (Y_assign (v := .bool r_4) rfl rfl) (rw_nil (cw_seq (cw_region ?_)))
  refine sQ 16 (Y_loadA (B := aD b2) (i := 0) (cs := kR_ r_3) (vs := kR_ r_3) k_ag_122 k_sz_122_4 rfl rfl (hS7.cf (i := 2) rfl) rfl rfl) ?_
  refine sQ 17 (Y_fieldAddr (B := aD b) (i := 0) (s := 0) k_fd_124_1_4_3 k_sz_3_1 rfl rfl) ?_
  refine sQ 18 (Y_load1 (B := aD b) (i := 4) (cs := kD_ x) (v := vi x.Exp) k_sc_3 rfl rfl (hS7.cf (i := 0) rfl) rfl) ?_
  refine sQ 19 (Y_buildS (zs := kZ_) (vs := [(0, gR_ r_3), (1, vi x.Exp)]) (cs := [vi r_3.A, vi r_3.B, vi r_3.C, vi r_3.D, vi x.Exp]) k_pl_124 k_zero_124 rfl (mpc rfl (mpc rfl mpn)) rfl) ?_
  refine s0 (Ys_store (i := 1) (s := 5) (B := aD b1) (T' := 124) (v := .agg #[vi r_3.A, vi r_3.B, vi r_3.C, vi r_3.D, vi x.Exp]) (vs := [vi r_3.A, vi r_3.B, vi r_3.C, vi r_3.D, vi x.Exp]) (k := 0) (cs' := [vi r_3.A, vi r_3.B, vi r_3.C, vi r_3.D, vi x.Exp]) hS7 k_sz_124_5 rfl rfl rfl rfl rfl rfl rfl (lB rfl) rfl rfl) ?_
  rintro _ w_7 ⟨rfl, hS8⟩
  refine sQ 3 (Y_assign (v := .bool true) rfl rfl) (rw_nil (cw_ret ?_))
  obtain ⟨rfl, rfl⟩ := pr2 (some_inj hF2)
  exact ret2 Try.results212 (v1 := .agg #[vi r_3.A, vi r_3.B, vi r_3.C, vi r_3.D, vi x.Exp]) (resAt_cellA (B := aD b1) (i := 0) (cs := [vi r_3.A, vi r_3.B, vi r_3.C, vi r_3.D, vi x.Exp]) (vs := [vi r_3.A, vi r_3.B, vi r_3.C, vi r_3.D, vi x.Exp]) rfl k_ag_124 k_sz_124_5 (hS8.cf (i := 1) rfl) rfl rfl) (v2 := .bool true) (resAt_tmp rfl) ⟨rfl, (hS8.sN [])⟩

theorem c_impl_NormSquare (x : TDyadic)  (w0 : World)  (hS : ST w0 [] w0 [] []) {r_ : TDyadic} {r_1 : Bool} (hF : F_impl_NormSquare x = some (r_, r_1)) :
  CV Try.prog 149 #[gD_ x] w0 (fun v w' => v = .tuple #[gD_ r_, .bool r_1] ∧ ST w0 [] w' [] []) := by
 unfold F_impl_NormSquare at hF
 refine cv_of_cw 19 Try.func149 rfl Try.ntmps149 rfl ?_
 refine cw_seq (cw_region ?_)
 refine sS 1 (Ys_box (T := 124) (v := gD_ x) (cs := kD_ x) (m := 5) hS rfl rfl rfl rfl) ?_
 rintro _ w_ ⟨b, rfl, hS1⟩
 refine sS 2 (Ys_alloc (T := 124) (cs := kZ_) (m := 5) hS1 k_zero_124 rfl rfl rfl) ?_
 rintro _ w_1 ⟨b1, rfl, hS2⟩
 refine sQ 3 (Y_assign (v := .bool false) rfl rfl) (rw_nil (cw_seq (cw_region ?_)))
 refine sQ 7 (Y_loadA (B := aD b) (i := 0) (cs := kD_ x) (vs := kD_ x) k_ag_124 k_sz_124_5 rfl rfl (hS2.cf (i := 0) rfl) rfl rfl) ?_
 obtain ⟨⟨r_2, r_3⟩, hc, hF⟩ := bind_inv hF
 refine sc 8 rfl rfl (Yc_func (g := 212) (vs := [gD_ x]) k_call_212 rfl (mc rfl mn) (c_impl_ConjDyadic x _  (hS2.inn0 [] rfl) hc)) ?_
 rintro _ w_2 ⟨rfl, hd⟩
 have hS3 := hS2.out00 hd
 refine sQ 6 (Y_move (v := .tuple #[gD_ r_2, .bool r_3]) rfl rfl) ?_
 refine sQ 9 (Y_extract (v := gD_ r_2) rfl rfl rfl) ?_
 refine sQ 10 (Y_extract (v := .bool r_3) rfl rfl rfl) ?_
 refine sS 4 (Ys_alloc (T := 124) (cs := kZ_) (m := 5) hS3 k_zero_124 rfl rfl rfl) ?_
 rintro _ w_3 ⟨b2, rfl, hS4⟩
 refine s0 (Ys_store (i := 2) (s := 5) (B := aD b2) (T' := 124) (v := gD_ r_2) (vs := kD_ r_2) (k := 0) (cs' := kD_ r_2) hS4 k_sz_124_5 rfl rfl rfl rfl rfl rfl rfl (lB rfl) rfl rfl) ?_
 rintro _ w_4 ⟨rfl, hS5⟩
 refine sQ 5 (Y_assign (v := .bool r_3) rfl rfl) (rw_nil (cw_seq (cw_seq (cw_region ?_))))
 refine sQ 11 (Y_move (v := .bool r_3) rfl rfl) ?_
 refine sQ 12 (Y_not (p := r_3) rfl rfl) (rw_nil ?_)
 refine cw_cond (b := (!r_3)) rfl (fun hb => ?_) (fun hb => ?_)
 ·skip
  have hF1 := ct hF hb
  refine cw_seq (cw_region ?_)
  refine sQ 13 (Y_buildS (zs := kZ_) (vs := []) (cs := kZ_) k_pl_124 k_zero_124 rfl mpn rfl) ?_
  refine s0 (Ys_store (i := 1) (s := 5) (B := aD b1) (T' := 124) (v := gZ_) (vs := kZ_) (k := 0) (cs' := kZ_) hS5 k_sz_124_5 rfl rfl rfl rfl rfl rfl rfl (lB rfl) rfl rfl) ?_
  rintro _ w_5 ⟨rfl, hS6⟩
  refine sQ 3 (Y_assign (v := .bool false) rfl rfl) (rw_nil (cw_ret ?_))
  obtain ⟨rfl, rfl⟩ := pr2 (some_inj hF1)
  exact ret2 Try.results149 (v1 := gZ_) (resAt_cellA (B := aD b1) (i := 0) (cs := kZ_) (vs := kZ_) rfl k_ag_124 k_sz_124_5 (hS6.cf (i := 1) rfl) rfl rfl) (v2 := .bool false) (resAt_tmp rfl) ⟨rfl, (hS6.sN [])⟩
 ·skip
  have hF2 := cf' hF hb
  refine cw_skip (cw_seq (cw_region ?_))
  refine sQ 14 (Y_loadA (B := aD b) (i := 0) (cs := kD_ x) (vs := kD_ x) k_ag_124 k_sz_124_5 rfl rfl (hS5.cf (i := 0) rfl) rfl rfl) ?_
  refine sQ 15 (Y_loadA (B := aD b2) (i := 0) (cs := kD_ r_2) (vs := kD_ r_2) k_ag_124 k_sz_124_5 rfl rfl (hS5.cf (i := 2) rfl) rfl rfl) ?_
  obtain ⟨⟨r_4, r_5⟩, hc1, hF2⟩ := bind_inv hF2
  refine sc 16 rfl rfl (Yc_func (g := 161) (vs := [gD_ x, gD_ r_2]) k_call_161 rfl (mc rfl (mc rfl mn)) (c_impl_MulDyadic x r_2 _  (hS5.inn0 [] rfl) hc1)) ?_
  rintro _ w_6 ⟨rfl, hd1⟩
  have hS7 := hS5.out00 hd1
  refine sQ 17 (Y_extract (v := gD_ r_4) rfl rfl rfl) ?_
  refine sQ 18 (Y_extract (v := .bool r_5) rfl rfl rfl) ?_
  refine s0 (Ys_store (i := 1) (s := 5) (B := aD b1) (T' := 124) (v := gD_ r_4) (vs := kD_ r_4) (k := 0) (cs' := kD_ r_4) hS7 k_sz_124_5 rfl rfl rfl rfl rfl rfl rfl (lB rfl) rfl rfl) ?_
  rintro _ w_7 ⟨rfl, hS8⟩
  refine sQ 3 (Y_assign (v := .bool r_5) rfl rfl) (rw_nil (cw_ret ?_))
  obtain ⟨rfl, rfl⟩ := pr2 (some_inj hF2)
  exact ret2 Try.results149 (v1 := gD_ r_4) (resAt_cellA (B := aD b1) (i := 0) (cs := kD_ r_4) (vs := kD_ r_4) rfl k_ag_124 k_sz_124_5 (hS8.cf (i := 1) rfl) rfl rfl) (v2 := .bool r_5) (resAt_tmp rfl) ⟨rfl, (hS8.sN [])⟩

theorem c_impl_MulRootTwo (x : TRing)  (w0 : World)  (hS : ST w0 [] w0 [] []) {r_ : TRing} {r_1 : Bool} (hF : F_impl_MulRootTwo x = some (r_, r_1)) :
  CV Try.prog 216 #[gR_ x] w0 (fun v w' => v = .tuple #[gR_ r_, .bool r_1] ∧ ST w0 [] w' [] []) := by
 unfold F_impl_MulRootTwo at hF
 refine cv_of_cw 30 Try.func216 rfl Try.ntmps216 rfl ?_
 refine cw_seq (cw_region ?_)
 refine sS 1 (Ys_box (T := 122) (v := gR_ x) (cs := kR_ x) (m := 4) hS rfl rfl rfl rfl) ?_
 rintro _ w_ ⟨b, rfl, hS1⟩
 refine sS 2 (Ys_alloc (T := 122) (cs := [vi 0, vi 0, vi 0, vi 0]) (m := 4) hS1 k_zero_122 rfl rfl rfl) ?_
 rintro _ w_1 ⟨b1, rfl, hS2⟩
 refine sQ 3 (Y_assign (v := .bool false) rfl rfl) (rw_nil (cw_seq (cw_region ?_)))
 refine sQ 4 (Y_fieldAddr (B := aD b) (i := 0) (s := 0) k_fd_122_1_1_3 k_sz_3_1 rfl rfl) ?_
 refine sQ 5 (Y_load1 (B := aD b) (i := 1) (cs := kR_ x) (v := vi x.B) k_sc_3 rfl rfl (hS2.cf (i := 0) rfl) rfl) ?_
 refine sQ 6 (Y_fieldAddr (B := aD b) (i := 0) (s := 0) k_fd_122_3_3_3 k_sz_3_1 rfl rfl) ?_
 refine sQ 7 (Y_load1 (B := aD b) (i := 3) (cs := kR_ x) (v := vi x.D) k_sc_3 rfl rfl (hS2.cf (i := 0) rfl) rfl) ?_
 refine sQ 8 (Y_sub (k := .i64) (a := x.B) (b := x.D) rfl rfl rfl) ?_
 refine sQ 9 (Y_fieldAddr (B := aD b) (i := 0) (s := 0) k_fd_122_0_0_3 k_sz_3_1 rfl rfl) ?_
 refine sQ 10 (Y_load1 (B := aD b) (i := 0) (cs := kR_ x) (v := vi x.A) k_sc_3 rfl rfl (hS2.cf (i := 0) rfl) rfl) ?_
 refine sQ 11 (Y_fieldAddr (B := aD b) (i := 0) (s := 0) k_fd_122_2_2_3 k_sz_3_1 rfl rfl) ?_
 refine sQ 12 (Y_load1 (B := aD b) (i := 2) (cs := kR_ x) (v := vi x.C) k_sc_3 rfl rfl (hS2.cf (i := 0) rfl) rfl) ?_
 refine sQ 13 (Y_add (k := .i64) (a := x.A) (b := x.C) rfl rfl rfl) ?_
 refine sQ 14 (Y_fieldAddr (B := aD b) (i := 0) (s := 0) k_fd_122_1_1_3 k_sz_3_1 rfl rfl) ?_
 refine sQ 15 (Y_load1 (B := aD b) (i := 1) (cs := kR_ x) (v := vi x.B) k_sc_3 rfl rfl (hS2.cf (i := 0) rfl) rfl) ?_
 refine sQ 16 (Y_fieldAddr (B := aD b) (i := 0) (s := 0) k_fd_122_3_3_3 k_sz_3_1 rfl rfl) ?_
 refine sQ 17 (Y_load1 (B := aD b) (i := 3) (cs := kR_ x) (v := vi x.D) k_sc_3 rfl rfl (hS2.cf (i := 0) rfl) rfl) ?_
 refine sQ 18 (Y_add (k := .i64) (a := x.B) (b := x.D) rfl rfl rfl) ?_
 refine sQ 19 (Y_fieldAddr (B := aD b) (i := 0) (s := 0) k_fd_122_2_2_3 k_sz_3_1 rfl rfl) ?_
 refine sQ 20 (Y_load1 (B := aD b) (i := 2) (cs := kR_ x) (v := vi x.C) k_sc_3 rfl rfl (hS2.cf (i := 0) rfl) rfl) ?_
 refine sQ 21 (Y_fieldAddr (B := aD b) (i := 0) (s := 0) k_fd_122_0_0_3 k_sz_3_1 rfl rfl) ?_
 refine sQ 22 (Y_load1 (B := aD b) (i := 0) (cs := kR_ x) (v := vi x.A) k_sc_3 rfl rfl (hS2.cf (i := 0) rfl) rfl) ?_
 refine sQ 23 (Y_sub (k := .i64) (a := x.C) (b := x.A) rfl rfl rfl) ?_
 refine sQ 24 (Y_buildS (zs := [vi 0, vi 0, vi 0, vi 0]) (vs := [(0, vi (i64.wrap (x.B - x.D))), (1, vi (i64.wrap (x.A + x.C))), (2, vi (i64.wrap (x.B + x.D))), (3, vi (i64.wrap (x.C - x.A)))]) (cs := [vi (i64.wrap (x.B - x.D)), vi (i64.wrap (x.A + x.C)), vi (i64.wrap (x.B + x.D)), vi (i64.wrap (x.C - x.A))]) k_pl_122 k_zero_122 rfl (mpc rfl (mpc rfl (mpc rfl (mpc rfl mpn)))) rfl) ?_
 refine sQ 25 (Y_loadA (B := aD b) (i := 0) (cs := kR_ x) (vs := kR_ x) k_ag_122 k_sz_122_4 rfl rfl (hS2.cf (i := 0) rfl) rfl rfl) ?_
 refine sS 26 (Ys_bslice (s := 4) (len := 1) (vs := [(0, gR_ x)]) (cs := kR_ x) (zs := [vi 0, vi 0, vi 0, vi 0]) (m := 4) hS2 k_sl_207_122 k_sz_122_4 k_zc_122 rfl (mpc rfl mpn) rfl rfl rfl (by kernel_rfl) (by kernel_rfl) rfl) ?_
 rintro _ w_2 ⟨b2, rfl, hS3⟩
 obtain ⟨⟨r_2, r_3⟩, hc, hF⟩ := bind_inv hF
 refine sc 27 rfl rfl (Yc_func (g := 242) (vs := [.agg #[vi (i64.wrap (x.B - x.D)), vi (i64.wrap (x.A + x.C)), vi (i64.wrap (x.B + x.D)), vi (i64.wrap (x.C - x.A))], .slice (aD b2) 1 1]) k_call_242 rfl (mc rfl (mc rfl mn)) (c_impl_ringIf (TRing.mk (i64.wrap (x.B - x.D)) (i64.wrap (x.A + x.C)) (i64.wrap (x.B + x.D)) (i64.wrap (x.C - x.A))) [x] (aD b2) 1 1 _ rfl (hS3.inn [false, false, true] rfl [] rfl) hc)) ?_
 rintro _ w_3 ⟨rfl, hd⟩
 have hS4 := hS3.out [false, false, true] rfl hd
 refine sQ 28 (Y_extract (v := gR_ r_2) rfl rfl rfl) ?_
 refine sQ 29 (Y_extract (v := .bool r_3) rfl rfl rfl) ?_
 refine s0 (Ys_store (i := 1) (s := 4) (B := aD b1) (T' := 122) (v := gR_ r_2) (vs := kR_ r_2) (k := 0) (cs' := kR_ r_2) hS4 k_sz_122_4 rfl rfl rfl rfl rfl rfl rfl (lB rfl) rfl rfl) ?_
 rintro _ w_4 ⟨rfl, hS5⟩
 refine sQ 3 (Y_assign (v := .bool r_3) rfl rfl) (rw_nil (cw_ret ?_))
 obtain ⟨rfl, rfl⟩ := pr2 (some_inj hF)
 exact ret2 Try.results216 (v1 := gR_ r_2) (resAt_cellA (B := aD b1) (i := 0) (cs := kR_ r_2) (vs := kR_ r_2) rfl k_ag_122 k_sz_122_4 (hS5.cf (i := 1) rfl) rfl rfl) (v2 := .bool r_3) (resAt_tmp rfl) ⟨rfl, (hS5.sN [])⟩

theorem c_impl_raised (x : TDyadic) (exp : Int)  (w0 : World)  (hS : ST w0 [] w0 [] []) {r_ : TRing} {r_1 : Bool} (hF : F_impl_raised x exp = some (r_, r_1)) :
  CV Try.prog 153 #[gD_ x, vi exp] w0 (fun v w' => v = .tuple #[gR_ r_, .bool r_1] ∧ ST w0 [] w' [] []) := by
 unfold F_impl_raised at hF
 refine cv_of_cw 28 Try.func153 rfl Try.ntmps153 rfl ?_
 refine cw_seq (cw_region ?_)
 refine sS 2 (Ys_box (T := 124) (v := gD_ x) (cs := kD_ x) (m := 5) hS rfl rfl rfl rfl) ?_
 rintro _ w_ ⟨b, rfl, hS1⟩
 refine sS 4 (Ys_alloc (T := 122) (cs := [vi 0, vi 0, vi 0, vi 0]) (m := 4) hS1 k_zero_122 rfl rfl rfl) ?_
 rintro _ w_1 ⟨b1, rfl, hS2⟩
 refine sQ 5 (Y_assign (v := .bool false) rfl rfl) (rw_nil (cw_seq (cw_region ?_)))
 refine sQ 9 (Y_fieldAddr (B := aD b) (i := 0) (s := 3) k_fd_124_0_0_122 k_sz_122_4 rfl rfl) ?_
 refine sQ 10 (Y_loadA (B := aD b) (i := 0) (cs := kD_ x) (vs := kR_ x.Num) k_ag_122 k_sz_122_4 rfl rfl (hS2.cf (i := 0) rfl) rfl rfl) ?_
 refine sS 6 (Ys_alloc (T := 122) (cs := [vi 0, vi 0, vi 0, vi 0]) (m := 4) hS2 k_zero_122 rfl rfl rfl) ?_
 rintro _ w_2 ⟨b2, rfl, hS3⟩
 refine s0 (Ys_store (i := 2) (s := 4) (B := aD b2) (T' := 122) (v := gR_ x.Num) (vs := kR_ x.Num) (k := 0) (cs' := kR_ x.Num) hS3 k_sz_122_4 rfl rfl rfl rfl rfl rfl rfl (lB rfl) rfl rfl) ?_
 rintro _ w_3 ⟨rfl, hS4⟩
 refine sQ 7 (Y_assign (v := .bool true) rfl rfl) (rw_nil (cw_seq (cw_seq (cw_region ?_))))
 refine sQ 11 (Y_fieldAddr (B := aD b) (i := 0) (s := 0) k_fd_124_1_4_3 k_sz_3_1 rfl rfl) ?_
 refine sQ 12 (Y_load1 (B := aD b) (i := 4) (cs := kD_ x) (v := vi x.Exp) k_sc_3 rfl rfl (hS4.cf (i := 0) rfl) rfl) ?_
 refine sQ 8 (Y_assign (v := vi x.Exp) rfl rfl) (rw_nil ?_)
 obtain ⟨z, hz, hF1⟩ := bind_inv hF
 refine cw_block ?_
 refine cw_loop (fun k f w => ∃ (A : Int) (B : Int) (C : Int) (D : Int) (ok : Bool) (k_ : Int), FF f [(1, vi exp), (4, pt (aD b1) 0), (6, pt (aD b2) 0), (7, .bool ok), (8, vi k_)] ∧ ST w0 [] w [⟨aD b1, 122, [vi 0, vi 0, vi 0, vi 0], 4⟩, ⟨aD b2, 122, [vi A, vi B, vi C, vi D], 4⟩] [] ∧ whX (F_impl_raised_l1 exp) k (A, B, C, D, ok, k_) = some z) fuel ⟨x.Num.A, x.Num.B, x.Num.C, x.Num.D, true, x.Exp, (FF.cons rfl (FF.cons rfl (FF.cons rfl (FF.cons rfl (FF.cons rfl FF.nil))))), (hS4.sel [1, 2] rfl rfl), hz⟩ ?_
 rintro k_1 f w ⟨A, B, C, D, ok, k_, hf, hS5, hL⟩
 obtain ⟨k_2, y, rfl, hb, hL1⟩ := whX_go hL
 unfold F_impl_raised_l1 at hb
 refine cw_seq (cw_seq (cw_region ?_))
 refine sQ 13 (Y_move (v := vi k_) rfl (hf.get 8 4 rfl)) ?_
 refine sQ 14 (Y_move (v := vi exp) rfl (hf.get 1 0 rfl)) ?_
 refine sQ 15 (Y_lt (k := .i64) (a := k_) (b := exp) rfl rfl rfl) ?_
 refine sQ 16 (Y_move (v := .bool (decide (k_ < exp))) rfl rfl) ?_
 refine sgq 17 (B := (decide (k_ < exp))) (v := .bool ok) rfl rfl (uT_ 16) (fun hg => (Y_move (v := .bool ok) rfl (hf.get 7 3 rfl))) ?_
 refine sQ 18 (Y_and (b := (decide (k_ < exp))) (z := ok) rfl rfl rfl rfl) (rw_nil ?_)
 refine cw_cond (b := ((decide (k_ < exp)) && ok)) rfl (fun hb1 => ?_) (fun hb1 => ?_)
 ·skip
  have hF2 := ct hb hb1
  refine cw_skip (cw_seq (cw_block (cw_region ?_)))
  refine sQ 22 (Y_loadA (B := aD b2) (i := 0) (cs := [vi A, vi B, vi C, vi D]) (vs := [vi A, vi B, vi C, vi D]) k_ag_122 k_sz_122_4 rfl (hf.get 6 2 rfl) (hS5.cf (i := 1) rfl) rfl rfl) ?_
  obtain ⟨⟨r_2, r_3⟩, hc, hF2⟩ := bind_inv hF2
  refine sc 23 rfl rfl (Yc_func (g := 216) (vs := [.agg #[vi A, vi B, vi C, vi D]]) k_call_216 rfl (mc rfl mn) (c_impl_MulRootTwo (TRing.mk A B C D) _  (hS5.inn0 [] rfl) hc)) ?_
  rintro _ w_4 ⟨rfl, hd⟩
  have hS6 := hS5.out00 hd
  refine sQ 21 (Y_move (v := .tuple #[gR_ r_2, .bool r_3]) rfl rfl) ?_
  refine sQ 24 (Y_extract (v := gR_ r_2) rfl rfl rfl) ?_
  refine sQ 25 (Y_extract (v := .bool r_3) rfl rfl rfl) ?_
  refine s0 (Ys_store (i := 1) (s := 4) (B := aD b2) (T' := 122) (v := gR_ r_2) (vs := kR_ r_2) (k := 0) (cs' := kR_ r_2) hS6 k_sz_122_4 rfl (hf.get 6 2 rfl) rfl rfl rfl rfl rfl (lB rfl) rfl rfl) ?_
  rintro _ w_5 ⟨rfl, hS7⟩
  refine sQ 7 (Y_assign (v := .bool r_3) rfl rfl) (rw_nil (cw_region ?_))
  refine sQ 19 (Y_move (v := vi k_) rfl (hf.get 8 4 rfl)) ?_
  refine sQ 20 (Y_add (k := .i64) (a := k_) (b := 1) rfl rfl rfl) ?_
  refine sQ 8 (Y_assign (v := vi (i64.wrap (k_ + 1))) rfl rfl) (rw_nil ?_)
  obtain rfl := some_inj hF2
  exact ⟨k_2, Nat.lt_succ_self _, r_2.A, r_2.B, r_2.C, r_2.D, r_3, (i64.wrap (k_ + 1)), (FF.cons (hf.get 1 0 rfl) (FF.cons (hf.get 4 1 rfl) (FF.cons (hf.get 6 2 rfl) (FF.cons rfl (FF.cons rfl FF.nil))))), (hS7.sel [0, 1] rfl rfl), hL1⟩
 ·skip
  have hF3 := cf' hb hb1
  refine cw_exit rfl ?_
  obtain rfl := some_inj hF3
  obtain rfl := some_inj hL1
  refine cw_seq (cw_region ?_)
  refine sQ 26 (Y_loadA (B := aD b2) (i := 0) (cs := [vi A, vi B, vi C, vi D]) (vs := [vi A, vi B, vi C, vi D]) k_ag_122 k_sz_122_4 rfl (hf.get 6 2 rfl) (hS5.cf (i := 1) rfl) rfl rfl) ?_
  refine sQ 27 (Y_move (v := .bool ok) rfl (hf.get 7 3 rfl)) ?_
  refine s0 (Ys_store (i := 0) (s := 4) (B := aD b1) (T' := 122) (v := .agg #[vi A, vi B, vi C, vi D]) (vs := [vi A, vi B, vi C, vi D]) (k := 0) (cs' := [vi A, vi B, vi C, vi D]) hS5 k_sz_122_4 rfl (hf.get 4 1 rfl) rfl rfl rfl rfl rfl (lB rfl) rfl rfl) ?_
  rintro _ w_6 ⟨rfl, hS8⟩
  refine sQ 5 (Y_assign (v := .bool ok) rfl rfl) (rw_nil (cw_ret ?_))
  obtain ⟨rfl, rfl⟩ := pr2 (some_inj hF1)
  exact ret2 Try.results153 (v1 := .agg #[vi A, vi B, vi C, vi D]) (resAt_cellA (B := aD b1) (i := 0) (cs := [vi A, vi B, vi C, vi D]) (vs := [vi A, vi B, vi C, vi D]) (hf.get 4 1 rfl) k_ag_122 k_sz_122_4 (hS8.cf (i := 0) rfl) rfl rfl) (v2 := .bool ok) (resAt_tmp rfl) ⟨rfl, (hS8.sN [])⟩

theorem c_impl_combined (x : TDyadic) (y : TDyadic) (operation : TRing → TRing → Option (TRing × Bool)) (kf : Nat) (caps : Array Value) (Rf : List Ro) (w0 : World) (hk : callB Try.prog kf = true) (hp : ∀ (w : World), ST w [] w [] Rf → ∀ (x1 : TRing) (x2 : TRing) (y2 : TRing) (y3 : Bool), operation x1 x2 = some (y2, y3) → CV Try.prog kf ((gR_ x1) :: (gR_ x2) :: caps.toList).toArray w (fun v w' => v = .tuple #[gR_ y2, .bool y3] ∧ ST w [] w' [] [])) (hS : ST w0 [] w0 [] (Rf)) {r_ : TDyadic} {r_1 : Bool} (hF : F_impl_combined x y operation = some (r_, r_1)) :
  CV Try.prog 213 #[gD_ x, gD_ y, .func (.func kf) #[] caps] w0 (fun v w' => v = .tuple #[gD_ r_, .bool r_1] ∧ ST w0 [] w' [] []) := by
 unfold F_impl_combined at hF
 refine cv_of_cw 64 Try.func213 rfl Try.ntmps213 rfl ?_
 refine cw_seq (cw_region ?_)
 refine sS 3 (Ys_box (T := 124) (v := gD_ x) (cs := kD_ x) (m := 5) hS rfl rfl rfl rfl) ?_
 rintro _ w_ ⟨b, rfl, hS1⟩
 refine sS 4 (Ys_box (T := 124) (v := gD_ y) (cs := kD_ y) (m := 5) hS1 rfl rfl rfl rfl) ?_
 rintro _ w_1 ⟨b1, rfl, hS2⟩
 refine sS 6 (Ys_alloc (T := 124) (cs := kZ_) (m := 5) hS2 k_zero_124 rfl rfl rfl) ?_
 rintro _ w_2 ⟨b2, rfl, hS3⟩
 refine sQ 7 (Y_assign (v := .bool false) rfl rfl) (rw_nil (cw_seq (cw_seq (cw_region ?_))))
 refine sQ 15 (Y_loadA (B := aD b) (i := 0) (cs := kD_ x) (vs := kD_ x) k_ag_124 k_sz_124_5 rfl rfl (hS3.cf (i := 0) rfl) rfl rfl) ?_
 obtain ⟨r_2, hc, hF⟩ := bind_inv hF
 refine sc 16 rfl rfl (Yc_func (g := 211) (vs := [gD_ x]) k_call_211 rfl (mc rfl mn) (c_impl_IsValidDyadic x _  (hS3.inn0 [] rfl) hc)) ?_
 rintro _ w_3 ⟨rfl, hd⟩
 have hS4 := hS3.out00 hd
 refine sQ 17 (Y_not (p := r_2) rfl rfl) ?_
 refine sQ 18 (Y_move (v := .bool (!r_2)) rfl rfl) ?_
 refine sgq 19 (B := (!(!r_2))) (v := gD_ y) rfl rfl (uF_ 18) (fun hg => (Y_loadA (B := aD b1) (i := 0) (cs := kD_ y) (vs := kD_ y) k_ag_124 k_sz_124_5 rfl rfl (hS4.cf (i := 1) rfl) rfl rfl)) ?_
 obtain ⟨r_3, hc1, hF⟩ := bind_inv hF
 refine sgc 20 (B := (!(!r_2))) (v := .bool r_3) (F := hS4.fn) rfl rfl (uF_ 18) hS4 (fun hg1 => (Yc_func (g := 211) (vs := [gD_ y]) k_call_211 rfl (mc (gv_of (v := gD_ y) hg1) mn) (CV.mono (c_impl_IsValidDyadic y _  (hS4.inn0 [] rfl) (gb_inv hc1 hg1)) (by rintro _ _ ⟨rfl, h⟩; exact ⟨rfl, hS4.out00 h⟩)))) ?_
 rintro w_4 hS5
 refine sgq 21 (B := (!(!r_2))) (v := .bool (!r_3)) rfl rfl (uF_ 18) (fun hg2 => (Y_not (p := r_3) rfl (gv_of (v := .bool r_3) hg2))) ?_
 refine sQ 22 (Y_or (b := (!r_2)) (z := (!r_3)) rfl rfl rfl rfl) (rw_nil ?_)
 refine cw_cond (b := ((!r_2) || (!r_3))) rfl (fun hb => ?_) (fun hb => ?_)
 ·skip
  have hF1 := ct hF hb
  refine cw_seq (cw_region ?_)
  refine sQ 23 (Y_buildS (zs := kZ_) (vs := []) (cs := kZ_) k_pl_124 k_zero_124 rfl mpn rfl) ?_
  refine s0 (Ys_store (i := 2) (s := 5) (B := aD b2) (T' := 124) (v := gZ_) (vs := kZ_) (k := 0) (cs' := kZ_) hS5 k_sz_124_5 rfl rfl rfl rfl rfl rfl rfl (lB rfl) rfl rfl) ?_
  rintro _ w_5 ⟨rfl, hS6⟩
  refine sQ 7 (Y_assign (v := .bool false) rfl rfl) (rw_nil (cw_ret ?_))
  obtain ⟨rfl, rfl⟩ := pr2 (some_inj hF1)
  exact ret2 Try.results213 (v1 := gZ_) (resAt_cellA (B := aD b2) (i := 0) (cs := kZ_) (vs := kZ_) rfl k_ag_124 k_sz_124_5 (hS6.cf (i := 2) rfl) rfl rfl) (v2 := .bool false) (resAt_tmp rfl) ⟨rfl, (hS6.sN [])⟩
 ·skip
  have hF2 := cf' hF hb
  refine cw_skip (cw_seq (cw_region ?_))
  refine sQ 24 (Y_fieldAddr (B := aD b) (i := 0) (s := 0) k_fd_124_1_4_3 k_sz_3_1 rfl rfl) ?_
  refine sQ 25 (Y_load1 (B := aD b) (i := 4) (cs := kD_ x) (v := vi x.Exp) k_sc_3 rfl rfl (hS5.cf (i := 0) rfl) rfl) ?_
  refine sQ 26 (Y_fieldAddr (B := aD b1) (i := 0) (s := 0) k_fd_124_1_4_3 k_sz_3_1 rfl rfl) ?_
  refine sQ 27 (Y_load1 (B := aD b1) (i := 4) (cs := kD_ y) (v := vi y.Exp) k_sc_3 rfl rfl (hS5.cf (i := 1) rfl) rfl) ?_
  refine sQ 28 (Y_max2 (k := .i64) (a := x.Exp) (b := y.Exp) rfl rfl rfl) ?_
  refine sQ 8 (Y_assign (v := vi (if x.Exp < y.Exp then y.Exp else x.Exp)) rfl rfl) (rw_nil (cw_seq (cw_region ?_)))
  refine sQ 30 (Y_loadA (B := aD b) (i := 0) (cs := kD_ x) (vs := kD_ x) k_ag_124 k_sz_124_5 rfl rfl (hS5.cf (i := 0) rfl) rfl rfl) ?_
  refine sQ 31 (Y_move (v := vi (if x.Exp < y.Exp then y.Exp else x.Exp)) rfl rfl) ?_
  obtain ⟨⟨r_4, r_5⟩, hc2, hF2⟩ := bind_inv hF2
  refine sc 32 rfl rfl (Yc_func (g := 153) (vs := [gD_ x, vi (if x.Exp < y.Exp then y.Exp else x.Exp)]) k_call_153 rfl (mc rfl (mc rfl mn)) (c_impl_raised x (if x.Exp < y.Exp then y.Exp else x.Exp) _  (hS5.inn0 [] rfl) hc2)) ?_
  rintro _ w_6 ⟨rfl, hd1⟩
  have hS7 := hS5.out00 hd1
  refine sQ 29 (Y_move (v := .tuple #[gR_ r_4, .bool r_5]) rfl rfl) ?_
  refine sQ 33 (Y_extract (v := gR_ r_4) rfl rfl rfl) ?_
  refine sQ 34 (Y_extract (v := .bool r_5) rfl rfl rfl) ?_
  refine sS 9 (Ys_alloc (T := 122) (cs := [vi 0, vi 0, vi 0, vi 0]) (m := 4) hS7 k_zero_122 rfl rfl rfl) ?_
  rintro _ w_7 ⟨b3, rfl, hS8⟩
  refine s0 (Ys_store (i := 3) (s := 4) (B := aD b3) (T' := 122) (v := gR_ r_4) (vs := kR_ r_4) (k := 0) (cs' := kR_ r_4) hS8 k_sz_122_4 rfl rfl rfl rfl rfl rfl rfl (lB rfl) rfl rfl) ?_
  rintro _ w_8 ⟨rfl, hS9⟩
  refine sQ 10 (Y_assign (v := .bool r_5) rfl rfl) (rw_nil (cw_seq (cw_region ?_)))
  refine sQ 36 (Y_loadA (B := aD b1) (i := 0) (cs := kD_ y) (vs := kD_ y) k_ag_124 k_sz_124_5 rfl rfl (hS9.cf (i := 1) rfl) rfl rfl) ?_
  refine sQ 37 (Y_move (v := vi (if x.Exp < y.Exp then y.Exp else x.Exp)) rfl rfl) ?_
  obtain ⟨⟨r_6, r_7⟩, hc3, hF2⟩ := bind_inv hF2
  refine sc 38 rfl rfl (Yc_func (g := 153) (vs := [gD_ y, vi (if x.Exp < y.Exp then y.Exp else x.Exp)]) k_call_153 rfl (mc rfl (mc rfl mn)) (c_impl_raised y (if x.Exp < y.Exp then y.Exp else x.Exp) _  (hS9.inn0 [] rfl) hc3)) ?_
  rintro _ w_9 ⟨rfl, hd2⟩
  have hS10 := hS9.out00 hd2
  refine sQ 35 (Y_move (v := .tuple #[gR_ r_6, .bool r_7]) rfl rfl) ?_
  refine sQ 39 (Y_extract (v := gR_ r_6) rfl rfl rfl) ?_
  refine sQ 40 (Y_extract (v := .bool r_7) rfl rfl rfl) ?_
  refine sS 11 (Ys_alloc (T := 122) (cs := [vi 0, vi 0, vi 0, vi 0]) (m := 4) hS10 k_zero_122 rfl rfl rfl) ?_
  rintro _ w_10 ⟨b4, rfl, hS11⟩
  refine s0 (Ys_store (i := 4) (s := 4) (B := aD b4) (T' := 122) (v := gR_ r_6) (vs := kR_ r_6) (k := 0) (cs' := kR_ r_6) hS11 k_sz_122_4 rfl rfl rfl rfl rfl rfl rfl (lB rfl) rfl rfl) ?_
  rintro _ w_11 ⟨rfl, hS12⟩
  refine sQ 12 (Y_assign (v := .bool r_7) rfl rfl) (rw_nil (cw_seq (cw_region ?_)))
  refine sQ 42 (Y_move (v := .func (.func kf) #[] caps) rfl rfl) ?_
  refine sQ 43 (Y_loadA (B := aD b3) (i := 0) (cs := kR_ r_4) (vs := kR_ r_4) k_ag_122 k_sz_122_4 rfl rfl (hS12.cf (i := 3) rfl) rfl rfl) ?_
  refine sQ 44 (Y_loadA (B := aD b4) (i := 0) (cs := kR_ r_6) (vs := kR_ r_6) k_ag_122 k_sz_122_4 rfl rfl (hS12.cf (i := 4) rfl) rfl rfl) ?_
  obtain ⟨⟨r_8, r_9⟩, hc4, hF2⟩ := bind_inv hF2
  refine sc 45 rfl rfl (Yc_clos (g := kf) (vs := (gR_ r_4) :: (gR_ r_6) :: caps.toList) hk rfl rfl (clo_args (mc rfl (mc rfl mn))) (hp _ (hS12.innS (fun _ h => mOd (i := 0) h)) r_4 r_6 r_8 r_9 hc4)) ?_
  rintro _ w_12 ⟨rfl, hd3⟩
  have hS13 := hS12.out00 hd3
  refine sQ 41 (Y_move (v := .tuple #[gR_ r_8, .bool r_9]) rfl rfl) ?_
  refine sQ 46 (Y_extract (v := gR_ r_8) rfl rfl rfl) ?_
  refine sQ 47 (Y_extract (v := .bool r_9) rfl rfl rfl) ?_
  refine sS 13 (Ys_alloc (T := 122) (cs := [vi 0, vi 0, vi 0, vi 0]) (m := 4) hS13 k_zero_122 rfl rfl rfl) ?_
  rintro _ w_13 ⟨b5, rfl, hS14⟩
  refine s0 (Ys_store (i := 5) (s := 4) (B := aD b5) (T' := 122) (v := gR_ r_8) (vs := kR_ r_8) (k := 0) (cs' := kR_ r_8) hS14 k_sz_122_4 rfl rfl rfl rfl rfl rfl rfl (lB rfl) rfl rfl) ?_
  rintro _ w_14 ⟨rfl, hS15⟩
  refine sQ 14 (Y_assign (v := .bool r_9) rfl rfl) (rw_nil (cw_seq (cw_seq (cw_region ?_))))
  refine sQ 48 (Y_move (v := .bool r_5) rfl rfl) ?_
  refine sQ 49 (Y_not (p := r_5) rfl rfl) ?_
  refine sQ 50 (Y_move (v := .bool (!r_5)) rfl rfl) ?_
  refine sgq 51 (B := (!(!r_5))) (v := .bool r_7) rfl rfl (uF_ 50) (fun hg3 => (Y_move (v := .bool r_7) rfl rfl)) ?_
  refine sgq 52 (B := (!(!r_5))) (v := .bool (!r_7)) rfl rfl (uF_ 50) (fun hg4 => (Y_not (p := r_7) rfl (gv_of (v := .bool r_7) hg4))) ?_
  refine sQ 53 (Y_or (b := (!r_5)) (z := (!r_7)) rfl rfl rfl rfl) ?_
  refine sQ 54 (Y_move (v := .bool ((!r_5) || (!r_7))) rfl rfl) ?_
  refine sgq 55 (B := (!((!r_5) || (!r_7)))) (v := .bool r_9) rfl rfl (uF_ 54) (fun hg5 => (Y_move (v := .bool r_9) rfl rfl)) ?_
  refine sgq 56 (B := (!((!r_5) || (!r_7)))) (v := .bool (!r_9)) rfl rfl (uF_ 54) (fun hg6 => (Y_not (p := r_9) rfl (gv_of (v := .bool r_9) hg6))) ?_
  refine sQ 57 (Y_or (b := ((!r_5) || (!r_7))) (z := (!r_9)) rfl rfl rfl rfl) (rw_nil ?_)
  refine cw_cond (b := (((!r_5) || (!r_7)) || (!r_9))) rfl (fun hb1 => ?_) (fun hb1 => ?_)
  ·skip
   have hF3 := ct hF2 hb1
   refine cw_seq (cw_region ?_)
   refine sQ 58 (Y_buildS (zs := kZ_) (vs := []) (cs := kZ_) k_pl_124 k_zero_124 rfl mpn rfl) ?_
   refine s0 (Ys_store (i := 2) (s := 5) (B := aD b2) (T' := 124) (v := gZ_) (vs := kZ_) (k := 0) (cs' := kZ_) hS15 k_sz_124_5 rfl rfl rfl rfl rfl rfl rfl (lB rfl) rfl rfl) ?_
   rintro _ w_15 ⟨rfl, hS16⟩
   refine sQ 7 (Y_assign (v := .bool false) rfl rfl) (rw_nil (cw_ret ?_))
   obtain ⟨rfl, rfl⟩ := pr2 (some_inj hF3)
   exact ret2 Try.results213 (v1 := gZ_) (resAt_cellA (B := aD b2) (i := 0) (cs := kZ_) (vs := kZ_) rfl k_ag_124 k_sz_124_5 (hS16.cf (i := 2) rfl) rfl rfl) (v2 := .bool false) (resAt_tmp rfl) ⟨rfl, (hS16.sN [])⟩
  ·skip
   have hF4 := cf' hF2 hb1
   refine cw_skip (cw_seq (cw_region ?_))
   refine sQ 59 (Y_loadA (B := aD b5) (i := 0) (cs := kR_ r_8) (vs := kR_ r_8) k_ag_122 k_sz_122_4 rfl rfl (hS15.cf (i := 5) rfl) rfl rfl) ?_
   refine sQ 60 (Y_move (v := vi (if x.Exp < y.Exp then y.Exp else x.Exp)) rfl rfl) ?_
   obtain ⟨⟨r_10, r_11⟩, hc5, hF4⟩ := bind_inv hF4
   refine sc 61 rfl rfl (Yc_func (g := 222) (vs := [gR_ r_8, vi (if x.Exp < y.Exp then y.Exp else x.Exp)]) k_call_222 rfl (mc rfl (mc rfl mn)) (c_impl_DyadicOf r_8 (if x.Exp < y.Exp then y.Exp else x.Exp) _  (hS15.inn0 [] rfl) hc5)) ?_
   rintro _ w_16 ⟨rfl, hd4⟩
   have hS17 := hS15.out00 hd4
   refine sQ 62 (Y_extract (v := gD_ r_10) rfl rfl rfl) ?_
   refine sQ 63 (Y_extract (v := .bool r_11) rfl rfl rfl) ?_
   refine s0 (Ys_store (i := 2) (s := 5) (B := aD b2) (T' := 124) (v := gD_ r_10) (vs := kD_ r_10) (k := 0) (cs' := kD_ r_10) hS17 k_sz_124_5 rfl rfl rfl rfl rfl rfl rfl (lB rfl) rfl rfl) ?_
   rintro _ w_17 ⟨rfl, hS18⟩
   refine sQ 7 (Y_assign (v := .bool r_11) rfl rfl) (rw_nil (cw_ret ?_))
   obtain ⟨rfl, rfl⟩ := pr2 (some_inj hF4)
   exact ret2 Try.results213 (v1 := gD_ r_10) (resAt_cellA (B := aD b2) (i := 0) (cs := kD_ r_10) (vs := kD_ r_10) rfl k_ag_124 k_sz_124_5 (hS18.cf (i := 2) rfl) rfl rfl) (v2 := .bool r_11) (resAt_tmp rfl) ⟨rfl, (hS18.sN [])⟩

theorem c_impl_AddRing (x : TRing) (y : TRing)  (w0 : World)  (hS : ST w0 [] w0 [] []) {r_ : TRing} {r_1 : Bool} (hF : F_impl_AddRing x y = some (r_, r_1)) :
  CV Try.prog 214 #[gR_ x, gR_ y] w0 (fun v w' => v = .tuple #[gR_ r_, .bool r_1] ∧ ST w0 [] w' [] []) := by
 unfold F_impl_AddRing at hF
 refine cv_of_cw 33 Try.func214 rfl Try.ntmps214 rfl ?_
 refine cw_seq (cw_region ?_)
 refine sS 2 (Ys_box (T := 122) (v := gR_ x) (cs := kR_ x) (m := 4) hS rfl rfl rfl rfl) ?_
 rintro _ w_ ⟨b, rfl, hS1⟩
 refine sS 3 (Ys_box (T := 122) (v := gR_ y) (cs := kR_ y) (m := 4) hS1 rfl rfl rfl rfl) ?_
 rintro _ w_1 ⟨b1, rfl, hS2⟩
 refine sS 4 (Ys_alloc (T := 122) (cs := [vi 0, vi 0, vi 0, vi 0]) (m := 4) hS2 k_zero_122 rfl rfl rfl) ?_
 rintro _ w_2 ⟨b2, rfl, hS3⟩
 refine sQ 5 (Y_assign (v := .bool false) rfl rfl) (rw_nil (cw_seq (cw_region ?_)))
 refine sQ 6 (Y_fieldAddr (B := aD b) (i := 0) (s := 0) k_fd_122_0_0_3 k_sz_3_1 rfl rfl) ?_
 refine sQ 7 (Y_load1 (B := aD b) (i := 0) (cs := kR_ x) (v := vi x.A) k_sc_3 rfl rfl (hS3.cf (i := 0) rfl) rfl) ?_
 refine sQ 8 (Y_fieldAddr (B := aD b1) (i := 0) (s := 0) k_fd_122_0_0_3 k_sz_3_1 rfl rfl) ?_
 refine sQ 9 (Y_load1 (B := aD b1) (i := 0) (cs := kR_ y) (v := vi y.A) k_sc_3 rfl rfl (hS3.cf (i := 1) rfl) rfl) ?_
 refine sQ 10 (Y_add (k := .i64) (a := x.A) (b := y.A) rfl rfl rfl) ?_
 refine sQ 11 (Y_fieldAddr (B := aD b) (i := 0) (s := 0) k_fd_122_1_1_3 k_sz_3_1 rfl rfl) ?_
 refine sQ 12 (Y_load1 (B := aD b) (i := 1) (cs := kR_ x) (v := vi x.B) k_sc_3 rfl rfl (hS3.cf (i := 0) rfl) rfl) ?_
 refine sQ 13 (Y_fieldAddr (B := aD b1) (i := 0) (s := 0) k_fd_122_1_1_3 k_sz_3_1 rfl rfl) ?_
 refine sQ 14 (Y_load1 (B := aD b1) (i := 1) (cs := kR_ y) (v := vi y.B) k_sc_3 rfl rfl (hS3.cf (i := 1) rfl) rfl) ?_
 refine sQ 15 (Y_add (k := .i64) (a := x.B) (b := y.B) rfl rfl rfl) ?_
 refine sQ 16 (Y_fieldAddr (B := aD b) (i := 0) (s := 0) k_fd_122_2_2_3 k_sz_3_1 rfl rfl) ?_
 refine sQ 17 (Y_load1 (B := aD b) (i := 2) (cs := kR_ x) (v := vi x.C) k_sc_3 rfl rfl (hS3.cf (i := 0) rfl) rfl) ?_
 refine sQ 18 (Y_fieldAddr (B := aD b1) (i := 0) (s := 0) k_fd_122_2_2_3 k_sz_3_1 rfl rfl) ?_
 refine sQ 19 (Y_load1 (B := aD b1) (i := 2) (cs := kR_ y) (v := vi y.C) k_sc_3 rfl rfl (hS3.cf (i := 1) rfl) rfl) ?_
 refine sQ 20 (Y_add (k := .i64) (a := x.C) (b := y.C) rfl rfl rfl) ?_
 refine sQ 21 (Y_fieldAddr (B := aD b) (i := 0) (s := 0) k_fd_122_3_3_3 k_sz_3_1 rfl rfl) ?_
 refine sQ 22 (Y_load1 (B := aD b) (i := 3) (cs := kR_ x) (v := vi x.D) k_sc_3 rfl rfl (hS3.cf (i := 0) rfl) rfl) ?_
 refine sQ 23 (Y_fieldAddr (B := aD b1) (i := 0) (s := 0) k_fd_122_3_3_3 k_sz_3_1 rfl rfl) ?_
 refine sQ 24 (Y_load1 (B := aD b1) (i := 3) (cs := kR_ y) (v := vi y.D) k_sc_3 rfl rfl (hS3.cf (i := 1) rfl) rfl) ?_
 refine sQ 25 (Y_add (k := .i64) (a := x.D) (b := y.D) rfl rfl rfl) ?_
 refine sQ 26 (Y_buildS (zs := [vi 0, vi 0, vi 0, vi 0]) (vs := [(0, vi (i64.wrap (x.A + y.A))), (1, vi (i64.wrap (x.B + y.B))), (2, vi (i64.wrap (x.C + y.C))), (3, vi (i64.wrap (x.D + y.D)))]) (cs := [vi (i64.wrap (x.A + y.A)), vi (i64.wrap (x.B + y.B)), vi (i64.wrap (x.C + y.C)), vi (i64.wrap (x.D + y.D))]) k_pl_122 k_zero_122 rfl (mpc rfl (mpc rfl (mpc rfl (mpc rfl mpn)))) rfl) ?_
 refine sQ 27 (Y_loadA (B := aD b) (i := 0) (cs := kR_ x) (vs := kR_ x) k_ag_122 k_sz_122_4 rfl rfl (hS3.cf (i := 0) rfl) rfl rfl) ?_
 refine sQ 28 (Y_loadA (B := aD b1) (i := 0) (cs := kR_ y) (vs := kR_ y) k_ag_122 k_sz_122_4 rfl rfl (hS3.cf (i := 1) rfl) rfl rfl) ?_
 refine sS 29 (Ys_bslice (s := 4) (len := 2) (vs := [(0, gR_ x), (1, gR_ y)]) (cs := [vi x.A, vi x.B, vi x.C, vi x.D, vi y.A, vi y.B, vi y.C, vi y.D]) (zs := [vi 0, vi 0, vi 0, vi 0, vi 0, vi 0, vi 0, vi 0]) (m := 8) hS3 k_sl_207_122 k_sz_122_4 k_zc_122 rfl (mpc rfl (mpc rfl mpn)) rfl rfl rfl (by kernel_rfl) (by kernel_rfl) rfl) ?_
 rintro _ w_3 ⟨b3, rfl, hS4⟩
 obtain ⟨⟨r_2, r_3⟩, hc, hF⟩ := bind_inv hF
 refine sc 30 rfl rfl (Yc_func (g := 242) (vs := [.agg #[vi (i64.wrap (x.A + y.A)), vi (i64.wrap (x.B + y.B)), vi (i64.wrap (x.C + y.C)), vi (i64.wrap (x.D + y.D))], .slice (aD b3) 2 2]) k_call_242 rfl (mc rfl (mc rfl mn)) (c_impl_ringIf (TRing.mk (i64.wrap (x.A + y.A)) (i64.wrap (x.B + y.B)) (i64.wrap (x.C + y.C)) (i64.wrap (x.D + y.D))) [x, y] (aD b3) 2 2 _ rfl (hS4.inn [false, false, false, true] rfl [] rfl) hc)) ?_
 rintro _ w_4 ⟨rfl, hd⟩
 have hS5 := hS4.out [false, false, false, true] rfl hd
 refine sQ 31 (Y_extract (v := gR_ r_2) rfl rfl rfl) ?_
 refine sQ 32 (Y_extract (v := .bool r_3) rfl rfl rfl) ?_
 refine s0 (Ys_store (i := 2) (s := 4) (B := aD b2) (T' := 122) (v := gR_ r_2) (vs := kR_ r_2) (k := 0) (cs' := kR_ r_2) hS5 k_sz_122_4 rfl rfl rfl rfl rfl rfl rfl (lB rfl) rfl rfl) ?_
 rintro _ w_5 ⟨rfl, hS6⟩
 refine sQ 5 (Y_assign (v := .bool r_3) rfl rfl) (rw_nil (cw_ret ?_))
 obtain ⟨rfl, rfl⟩ := pr2 (some_inj hF)
 exact ret2 Try.results214 (v1 := gR_ r_2) (resAt_cellA (B := aD b2) (i := 0) (cs := kR_ r_2) (vs := kR_ r_2) rfl k_ag_122 k_sz_122_4 (hS6.cf (i := 2) rfl) rfl rfl) (v2 := .bool r_3) (resAt_tmp rfl) ⟨rfl, (hS6.sN [])⟩

theorem c_impl_AddDyadic (x : TDyadic) (y : TDyadic)  (w0 : World)  (hS : ST w0 [] w0 [] []) {r_ : TDyadic} {r_1 : Bool} (hF : F_impl_AddDyadic x y = some (r_, r_1)) :
  CV Try.prog 150 #[gD_ x, gD_ y] w0 (fun v w' => v = .tuple #[gD_ r_, .bool r_1] ∧ ST w0 [] w' [] []) := by
 unfold F_impl_AddDyadic at hF
 refine cv_of_cw 11 Try.func150 rfl Try.ntmps150 rfl ?_
 refine cw_seq (cw_region ?_)
 refine sS 2 (Ys_box (T := 124) (v := gD_ x) (cs := kD_ x) (m := 5) hS rfl rfl rfl rfl) ?_
 rintro _ w_ ⟨b, rfl, hS1⟩
 refine sS 3 (Ys_box (T := 124) (v := gD_ y) (cs := kD_ y) (m := 5) hS1 rfl rfl rfl rfl) ?_
 rintro _ w_1 ⟨b1, rfl, hS2⟩
 refine sS 4 (Ys_alloc (T := 124) (cs := kZ_) (m := 5) hS2 k_zero_124 rfl rfl rfl) ?_
 rintro _ w_2 ⟨b2, rfl, hS3⟩
 refine sQ 5 (Y_assign (v := .bool false) rfl rfl) (rw_nil (cw_seq (cw_region ?_)))
 refine sQ 6 (Y_loadA (B := aD b) (i := 0) (cs := kD_ x) (vs := kD_ x) k_ag_124 k_sz_124_5 rfl rfl (hS3.cf (i := 0) rfl) rfl rfl) ?_
 refine sQ 7 (Y_loadA (B := aD b1) (i := 0) (cs := kD_ y) (vs := kD_ y) k_ag_124 k_sz_124_5 rfl rfl (hS3.cf (i := 1) rfl) rfl rfl) ?_
 obtain ⟨⟨r_2, r_3⟩, hc, hF⟩ := bind_inv hF
 refine sc 8 rfl rfl (Yc_func (g := 213) (vs := [gD_ x, gD_ y, .func (.func 214) #[] #[]]) k_call_213 rfl (mc rfl (mc rfl (mc rfl mn))) (c_impl_combined x y F_impl_AddRing 214 (#[]) [] _ k_call_214 (fun w hw x_0 x_1 y_0 y_1 h_ => c_impl_AddRing x_0 x_1  w  hw h_) (hS3.inn0 [] rfl) hc)) ?_
 rintro _ w_3 ⟨rfl, hd⟩
 have hS4 := hS3.out00 hd
 refine sQ 9 (Y_extract (v := gD_ r_2) rfl rfl rfl) ?_
 refine sQ 10 (Y_extract (v := .bool r_3) rfl rfl rfl) ?_
 refine s0 (Ys_store (i := 2) (s := 5) (B := aD b2) (T' := 124) (v := gD_ r_2) (vs := kD_ r_2) (k := 0) (cs' := kD_ r_2) hS4 k_sz_124_5 rfl rfl rfl rfl rfl rfl rfl (lB rfl) rfl rfl) ?_
 rintro _ w_4 ⟨rfl, hS5⟩
 refine sQ 5 (Y_assign (v := .bool r_3) rfl rfl) (rw_nil (cw_ret ?_))
 obtain ⟨rfl, rfl⟩ := pr2 (some_inj hF)
 exact ret2 Try.results150 (v1 := gD_ r_2) (resAt_cellA (B := aD b2) (i := 0) (cs := kD_ r_2) (vs := kD_ r_2) rfl k_ag_124 k_sz_124_5 (hS5.cf (i := 2) rfl) rfl rfl) (v2 := .bool r_3) (resAt_tmp rfl) ⟨rfl, (hS5.sN [])⟩

theorem c_impl_whole (n : Int)  (w0 : World)  (hS : ST w0 [] w0 [] []) {r_ : TDyadic} (hF : F_impl_whole n = some r_) :
  CV Try.prog 151 #[vi n] w0 (fun v w' => v = (gD_ r_) ∧ ST w0 [] w' [] []) := by
 unfold F_impl_whole at hF
 refine cv_of_cw 6 Try.func151 rfl Try.ntmps151 rfl ?_
 refine cw_seq (cw_region ?_)
 refine sS 2 (Ys_alloc (T := 124) (cs := kZ_) (m := 5) hS k_zero_124 rfl rfl rfl) ?_
 rintro _ w_ ⟨b, rfl, hS1⟩
 refine rw_nil (cw_seq (cw_region ?_))
 refine sQ 3 (Y_move (v := vi n) rfl rfl) ?_
 refine sQ 4 (Y_buildS (zs := [vi 0, vi 0, vi 0, vi 0]) (vs := [(0, vi n)]) (cs := [vi n, vi 0, vi 0, vi 0]) k_pl_122 k_zero_122 rfl (mpc rfl mpn) rfl) ?_
 refine sQ 5 (Y_buildS (zs := kZ_) (vs := [(0, .agg #[vi n, vi 0, vi 0, vi 0])]) (cs := [vi n, vi 0, vi 0, vi 0, vi 0]) k_pl_124 k_zero_124 rfl (mpc rfl mpn) rfl) ?_
 refine s0 (Ys_store (i := 0) (s := 5) (B := aD b) (T' := 124) (v := .agg #[vi n, vi 0, vi 0, vi 0, vi 0]) (vs := [vi n, vi 0, vi 0, vi 0, vi 0]) (k := 0) (cs' := [vi n, vi 0, vi 0, vi 0, vi 0]) hS1 k_sz_124_5 rfl rfl rfl rfl rfl rfl rfl (lB rfl) rfl rfl) ?_
 rintro _ w_1 ⟨rfl, hS2⟩
 refine rw_nil (cw_ret ?_)
 obtain rfl := some_inj hF
 exact ret1 Try.results151 (v1 := .agg #[vi n, vi 0, vi 0, vi 0, vi 0]) (resAt_cellA (B := aD b) (i := 0) (cs := [vi n, vi 0, vi 0, vi 0, vi 0]) (vs := [vi n, vi 0, vi 0, vi 0, vi 0]) rfl k_ag_124 k_sz_124_5 (hS2.cf (i := 0) rfl) rfl rfl) ⟨rfl, (hS2.sN [])⟩

theorem c_impl_isColumn (v_ : TMatrix) (from_ : Int) (B : Option Addr) (c n : Nat) (w0 : World) (hn : v_.Cells.length = n) (hS : ST w0 [] w0 [] [⟨B, (v_.Cells.flatMap eN0)⟩]) {r_ : Bool} (hF : F_impl_isColumn v_ from_ = some r_) :
  CV Try.prog 80 #[.agg #[vi v_.Rows, vi v_.Cols, .slice B n c], vi from_] w0 (fun v w' => v = .bool r_ ∧ ST w0 [] w' [] []) := by
 subst hn
 unfold F_impl_isColumn at hF
 refine cv_of_cw 75 Try.func80 rfl Try.ntmps80 rfl ?_
 refine cw_seq (cw_region ?_)
 refine sS 2 (Ys_box (T := 75) (v := gM_ v_ B c) (cs := kM_ v_ B c) (m := 3) hS rfl rfl rfl rfl) ?_
 rintro _ w_ ⟨b, rfl, hS1⟩
 refine sQ 4 (Y_assign (v := .bool false) rfl rfl) (rw_nil (cw_seq (cw_seq (cw_region ?_))))
 refine sQ 12 (Y_loadA (B := aD b) (i := 0) (cs := kM_ v_ B c) (vs := kM_ v_ B c) k_ag_75 k_sz_75_3 rfl rfl (hS1.cf (i := 0) rfl) rfl rfl) ?_
 obtain ⟨r_1, hc, hF⟩ := bind_inv hF
 refine sc 13 rfl rfl (Yc_func (g := 147) (vs := [gM_ v_ B c]) k_call_147 rfl (mc rfl mn) (c_impl_IsValidMatrix v_ B c v_.Cells.length _ rfl (hS1.inn0 [(true, 0)] rfl) hc)) ?_
 rintro _ w_1 ⟨rfl, hd⟩
 have hS2 := hS1.out00 hd
 refine sQ 14 (Y_not (p := r_1) rfl rfl) ?_
 refine sQ 15 (Y_move (v := .bool (!r_1)) rfl rfl) ?_
 refine sgq 16 (B := (!(!r_1))) (v := pt (aD b) 1) rfl rfl (uF_ 15) (fun hg => (Y_fieldAddr (B := aD b) (i := 0) (s := 0) k_fd_75_1_1_3 k_sz_3_1 rfl rfl)) ?_
 refine sgq 17 (B := (!(!r_1))) (v := vi v_.Cols) rfl rfl (uF_ 15) (fun hg1 => (Y_load1 (B := aD b) (i := 1) (cs := kM_ v_ B c) (v := vi v_.Cols) k_sc_3 rfl (gv_of (v := pt (aD b) 1) hg1) (hS2.cf (i := 0) rfl) rfl)) ?_
 refine sgq 18 (B := (!(!r_1))) (v := .bool (v_.Cols != 1)) rfl rfl (uF_ 15) (fun hg2 => (Y_ne (k := .i64) (a := v_.Cols) (b := 1) rfl (gv_of (v := vi v_.Cols) hg2) rfl)) ?_
 refine sQ 19 (Y_or (b := (!r_1)) (z := (v_.Cols != 1)) rfl rfl rfl rfl) ?_
 refine sQ 20 (Y_move (v := .bool ((!r_1) || (v_.Cols != 1))) rfl rfl) ?_
 refine sgq 21 (B := (!((!r_1) || (v_.Cols != 1)))) (v := pt (aD b) 0) rfl rfl (uF_ 20) (fun hg3 => (Y_fieldAddr (B := aD b) (i := 0) (s := 0) k_fd_75_0_0_3 k_sz_3_1 rfl rfl)) ?_
 refine sgq 22 (B := (!((!r_1) || (v_.Cols != 1)))) (v := vi v_.Rows) rfl rfl (uF_ 20) (fun hg4 => (Y_load1 (B := aD b) (i := 0) (cs := kM_ v_ B c) (v := vi v_.Rows) k_sc_3 rfl (gv_of (v := pt (aD b) 0) hg4) (hS2.cf (i := 0) rfl) rfl)) ?_
 obtain ⟨r_2, hc1, hF⟩ := bind_inv hF
 refine sgc 23 (B := (!((!r_1) || (v_.Cols != 1)))) (v := .bool r_2) (F := hS2.fn) rfl rfl (uF_ 20) hS2 (fun hg5 => (Yc_func (g := 148) (vs := [vi v_.Rows]) k_call_148 rfl (mc (gv_of (v := vi v_.Rows) hg5) mn) (CV.mono (c_impl_isLevelDim v_.Rows _  (hS2.inn0 [] rfl) (gb_inv hc1 hg5)) (by rintro _ _ ⟨rfl, h⟩; exact ⟨rfl, hS2.out00 h⟩)))) ?_
 rintro w_2 hS3
 refine sgq 24 (B := (!((!r_1) || (v_.Cols != 1)))) (v := .bool (!r_2)) rfl rfl (uF_ 20) (fun hg6 => (Y_not (p := r_2) rfl (gv_of (v := .bool r_2) hg6))) ?_
 refine sQ 25 (Y_or (b := ((!r_1) || (v_.Cols != 1))) (z := (!r_2)) rfl rfl rfl rfl) ?_
 refine sQ 26 (Y_move (v := .bool (((!r_1) || (v_.Cols != 1)) || (!r_2))) rfl rfl) ?_
 refine sgq 27 (B := (!(((!r_1) || (v_.Cols != 1)) || (!r_2)))) (v := vi from_) rfl rfl (uF_ 26) (fun hg7 => (Y_move (v := vi from_) rfl rfl)) ?_
 refine sgq 28 (B := (!(((!r_1) || (v_.Cols != 1)) || (!r_2)))) (v := pt (aD b) 0) rfl rfl (uF_ 26) (fun hg8 => (Y_fieldAddr (B := aD b) (i := 0) (s := 0) k_fd_75_0_0_3 k_sz_3_1 rfl rfl)) ?_
 refine sgq 29 (B := (!(((!r_1) || (v_.Cols != 1)) || (!r_2)))) (v := vi v_.Rows) rfl rfl (uF_ 26) (fun hg9 => (Y_load1 (B := aD b) (i := 0) (cs := kM_ v_ B c) (v := vi v_.Rows) k_sc_3 rfl (gv_of (v := pt (aD b) 0) hg9) (hS3.cf (i := 0) rfl) rfl)) ?_
 refine sgq 30 (B := (!(((!r_1) || (v_.Cols != 1)) || (!r_2)))) (v := vi (i64.wrap (v_.Rows - 1))) rfl rfl (uF_ 26) (fun hg10 => (Y_sub (k := .i64) (a := v_.Rows) (b := 1) rfl (gv_of (v := vi v_.Rows) hg10) rfl)) ?_
 obtain ⟨r_3, hc2, hF⟩ := bind_inv hF
 refine sgc 31 (B := (!(((!r_1) || (v_.Cols != 1)) || (!r_2)))) (v := .bool r_3) (F := hS3.fn) rfl rfl (uF_ 26) hS3 (fun hg11 => (Yc_func (g := 98) (vs := [vi from_, vi 0, vi (i64.wrap (v_.Rows - 1))]) k_call_98 rfl (mc (gv_of (v := vi from_) hg11) (mc rfl (mc (gv_of (v := vi (i64.wrap (v_.Rows - 1))) hg11) mn))) (CV.mono (c_impl_within from_ 0 (i64.wrap (v_.Rows - 1)) _  (hS3.inn0 [] rfl) (gb_inv hc2 hg11)) (by rintro _ _ ⟨rfl, h⟩; exact ⟨rfl, hS3.out00 h⟩)))) ?_
 rintro w_3 hS4
 refine sgq 32 (B := (!(((!r_1) || (v_.Cols != 1)) || (!r_2)))) (v := .bool (!r_3)) rfl rfl (uF_ 26) (fun hg12 => (Y_not (p := r_3) rfl (gv_of (v := .bool r_3) hg12))) ?_
 refine sQ 33 (Y_or (b := (((!r_1) || (v_.Cols != 1)) || (!r_2))) (z := (!r_3)) rfl rfl rfl rfl) (rw_nil ?_)
 refine cw_cond (b := ((((!r_1) || (v_.Cols != 1)) || (!r_2)) || (!r_3))) rfl (fun hb => ?_) (fun hb => ?_)
 ·skip
  have hF1 := ct hF hb
  refine cw_seq (cw_region ?_)
  refine sQ 4 (Y_assign (v := .bool false) rfl rfl) (rw_nil (cw_ret ?_))
  obtain rfl := some_inj hF1
  exact ret1 Try.results80 (v1 := .bool false) (resAt_tmp rfl) ⟨rfl, (hS4.sN [])⟩
 ·skip
  have hF2 := cf' hF hb
  refine cw_skip (cw_seq (cw_region ?_))
  refine sQ 34 (Y_buildS (zs := kZ_) (vs := []) (cs := kZ_) k_pl_124 k_zero_124 rfl mpn rfl) ?_
  refine sS 5 (Ys_alloc (T := 124) (cs := kZ_) (m := 5) hS4 k_zero_124 rfl rfl rfl) ?_
  rintro _ w_4 ⟨b1, rfl, hS5⟩
  refine s0 (Ys_store (i := 1) (s := 5) (B := aD b1) (T' := 124) (v := gZ_) (vs := kZ_) (k := 0) (cs' := kZ_) hS5 k_sz_124_5 rfl rfl rfl rfl rfl rfl rfl (lB rfl) rfl rfl) ?_
  rintro _ w_5 ⟨rfl, hS6⟩
  refine rw_nil (cw_seq (cw_seq (cw_region ?_)))
  refine sQ 35 (Y_fieldAddr (B := aD b) (i := 0) (s := 0) k_fd_75_2_2_73 k_sz_73_1 rfl rfl) ?_
  refine sQ 36 (Y_load1 (B := aD b) (i := 2) (cs := kM_ v_ B c) (v := .slice B v_.Cells.length c) k_sc_73 rfl rfl (hS6.cf (i := 0) rfl) rfl) ?_
  refine sQ 37 (Y_len (B := B) (m := v_.Cells.length) (c := c) k_sl_73_124 rfl rfl) ?_
  refine sQ 38 (Y_move (v := vi 0) rfl rfl) (rw_nil ?_)
  obtain ⟨hN, hF2⟩ := chk_inv hF2
  obtain ⟨z, hz, hF3⟩ := bind_inv hF2
  refine cw_block ?_
  refine cw_loop (fun k f w => ∃ (i : Nat) (A : Int) (B1 : Int) (C : Int) (D : Int) (Exp : Int), FF f [(1, vi from_), (5, pt (aD b1) 0), (36, .slice B v_.Cells.length c), (37, vi (v_.Cells.length : Int)), (38, vi (i : Int))] ∧ ST w0 [] w [⟨aD b1, 124, [vi A, vi B1, vi C, vi D, vi Exp], 5⟩] [⟨B, (v_.Cells.flatMap eN0)⟩] ∧ i + k = v_.Cells.length ∧ forX (F_impl_isColumn_l1 v_ from_) k i (A, B1, C, D, Exp) = some z) v_.Cells.length ⟨0, 0, 0, 0, 0, 0, (FF.cons rfl (FF.cons rfl (FF.cons rfl (FF.cons rfl (FF.cons rfl FF.nil))))), (hS6.sel [1] rfl rfl), Nat.zero_add _, hz⟩ ?_
  rintro k_ f w ⟨i, A, B1, C, D, Exp, hf, hS7, hik, hL⟩
  refine cw_seq (cw_region ?_)
  refine sQ 39 (Y_lt (k := .i64) (a := (i : Int)) (b := (v_.Cells.length : Int)) rfl (hf.get 38 4 rfl) (hf.get 37 3 rfl)) (rw_nil (cw_seq ?_))
  refine cw_cond (b := (decide ((i : Int) < (v_.Cells.length : Int)))) rfl (fun hlt => ?_) (fun hlt => ?_)
  ·skip
   have hlt1 : i < v_.Cells.length := by have h := of_decide_eq_true hlt; omega
   obtain ⟨k_1, rfl⟩ : ∃ k2, k_ = k2 + 1 := ⟨k_ - 1, by omega⟩
   obtain ⟨y, hb1, hL1⟩ := forX_go hL
   unfold F_impl_isColumn_l1 at hb1
   refine cw_skip (cw_seq (cw_block (cw_seq (cw_region ?_))))
   refine sQ 40 (Y_move (v := vi (i : Int)) rfl (hf.get 38 4 rfl)) ?_
   obtain ⟨x, hx, hb1⟩ := bind_inv hb1
   refine sQ 41 (Y_index (B := B) (m := v_.Cells.length) (c := c) (k := .i64) (i := (i : Int)) k_sl_73_124 k_sz_124_5 rfl (hf.get 36 2 rfl) (hf.get 38 4 rfl) (gi_isSome eN1 rfl (hS7.rf (i := 0) rfl) hx) (getI_nn hx) (getI_ltI hx rfl)) ?_
   refine sQ 42 (Y_loadA (B := B) (i := (i : Int).toNat * 5) (cs := (v_.Cells.flatMap eN0)) (vs := kD_ x) k_ag_124 k_sz_124_5 rfl rfl (hS7.rf (i := 0) rfl) (eN1 x) (gi_seg eN1 hx)) ?_
   refine sS 7 (Ys_alloc (T := 124) (cs := kZ_) (m := 5) hS7 k_zero_124 rfl rfl rfl) ?_
   rintro _ w_6 ⟨b2, rfl, hS8⟩
   refine sQ 6 (Y_assign (v := vi (i : Int)) rfl rfl) ?_
   refine s0 (Ys_store (i := 1) (s := 5) (B := aD b2) (T' := 124) (v := gD_ x) (vs := kD_ x) (k := 0) (cs' := kD_ x) hS8 k_sz_124_5 rfl rfl rfl rfl rfl rfl rfl (lB rfl) rfl rfl) ?_
   rintro _ w_7 ⟨rfl, hS9⟩
   refine rw_nil (cw_seq (cw_region ?_))
   refine sQ 44 (Y_loadA (B := aD b2) (i := 0) (cs := kD_ x) (vs := kD_ x) k_ag_124 k_sz_124_5 rfl rfl (hS9.cf (i := 1) rfl) rfl rfl) ?_
   obtain ⟨⟨r_4, r_5⟩, hc3, hb1⟩ := bind_inv hb1
   refine sc 45 rfl rfl (Yc_func (g := 149) (vs := [gD_ x]) k_call_149 rfl (mc rfl mn) (c_impl_NormSquare x _  (hS9.inn0 [] rfl) hc3)) ?_
   rintro _ w_8 ⟨rfl, hd1⟩
   have hS10 := hS9.out00 hd1
   refine sQ 43 (Y_move (v := .tuple #[gD_ r_4, .bool r_5]) rfl rfl) ?_
   refine sQ 46 (Y_extract (v := gD_ r_4) rfl rfl rfl) ?_
   refine sQ 47 (Y_extract (v := .bool r_5) rfl rfl rfl) ?_
   refine sS 8 (Ys_alloc (T := 124) (cs := kZ_) (m := 5) hS10 k_zero_124 rfl rfl rfl) ?_
   rintro _ w_9 ⟨b3, rfl, hS11⟩
   refine s0 (Ys_store (i := 2) (s := 5) (B := aD b3) (T' := 124) (v := gD_ r_4) (vs := kD_ r_4) (k := 0) (cs' := kD_ r_4) hS11 k_sz_124_5 rfl rfl rfl rfl rfl rfl rfl (lB rfl) rfl rfl) ?_
   rintro _ w_10 ⟨rfl, hS12⟩
   refine sQ 9 (Y_assign (v := .bool r_5) rfl rfl) (rw_nil (cw_seq (cw_region ?_)))
   refine sQ 49 (Y_loadA (B := aD b1) (i := 0) (cs := [vi A, vi B1, vi C, vi D, vi Exp]) (vs := [vi A, vi B1, vi C, vi D, vi Exp]) k_ag_124 k_sz_124_5 rfl (hf.get 5 1 rfl) (hS12.cf (i := 0) rfl) rfl rfl) ?_
   refine sQ 50 (Y_loadA (B := aD b3) (i := 0) (cs := kD_ r_4) (vs := kD_ r_4) k_ag_124 k_sz_124_5 rfl rfl (hS12.cf (i := 2) rfl) rfl rfl) ?_
   obtain ⟨⟨r_6, r_7⟩, hc4, hb1⟩ := bind_inv hb1
   refine sc 51 rfl rfl (Yc_func (g := 150) (vs := [.agg #[vi A, vi B1, vi C, vi D, vi Exp], gD_ r_4]) k_call_150 rfl (mc rfl (mc rfl mn)) (c_impl_AddDyadic (TDyadic.mk (TRing.mk A B1 C D) Exp) r_4 _  (hS12.inn0 [] rfl) hc4)) ?_
   rintro _ w_11 ⟨rfl, hd2⟩
   have hS13 := hS12.out00 hd2
   refine sQ 48 (Y_move (v := .tuple #[gD_ r_6, .bool r_7]) rfl rfl) ?_
   refine sQ 52 (Y_extract (v := gD_ r_6) rfl rfl rfl) ?_
   refine sQ 53 (Y_extract (v := .bool r_7) rfl rfl rfl) ?_
   refine sS 10 (Ys_alloc (T := 124) (cs := kZ_) (m := 5) hS13 k_zero_124 rfl rfl rfl) ?_
   rintro _ w_12 ⟨b4, rfl, hS14⟩
   refine s0 (Ys_store (i := 3) (s := 5) (B := aD b4) (T' := 124) (v := gD_ r_6) (vs := kD_ r_6) (k := 0) (cs' := kD_ r_6) hS14 k_sz_124_5 rfl rfl rfl rfl rfl rfl rfl (lB rfl) rfl rfl) ?_
   rintro _ w_13 ⟨rfl, hS15⟩
   refine sQ 11 (Y_assign (v := .bool r_7) rfl rfl) (rw_nil (cw_seq (cw_seq (cw_region ?_))))
   refine sQ 54 (Y_move (v := .bool r_5) rfl rfl) ?_
   refine sQ 55 (Y_not (p := r_5) rfl rfl) ?_
   refine sQ 56 (Y_move (v := .bool (!r_5)) rfl rfl) ?_
   refine sgq 57 (B := (!(!r_5))) (v := .bool r_7) rfl rfl (uF_ 56) (fun hg13 => (Y_move (v := .bool r_7) rfl rfl)) ?_
   refine sgq 58 (B := (!(!r_5))) (v := .bool (!r_7)) rfl rfl (uF_ 56) (fun hg14 => (Y_not (p := r_7) rfl (gv_of (v := .bool r_7) hg14))) ?_
   refine sQ 59 (Y_or (b := (!r_5)) (z := (!r_7)) rfl rfl rfl rfl) ?_
   refine sQ 60 (Y_move (v := .bool ((!r_5) || (!r_7))) rfl rfl) ?_
   refine sgq 61 (B := (!((!r_5) || (!r_7)))) (v := vi (i : Int)) rfl rfl (uF_ 60) (fun hg15 => (Y_move (v := vi (i : Int)) rfl rfl)) ?_
   refine sgq 62 (B := (!((!r_5) || (!r_7)))) (v := vi from_) rfl rfl (uF_ 60) (fun hg16 => (Y_move (v := vi from_) rfl (hf.get 1 0 rfl))) ?_
   refine sgq 63 (B := (!((!r_5) || (!r_7)))) (v := .bool (decide ((i : Int) < from_))) rfl rfl (uF_ 60) (fun hg17 => (Y_lt (k := .i64) (a := (i : Int)) (b := from_) rfl (gv_of (v := vi (i : Int)) hg17) (gv_of (v := vi from_) hg17))) ?_
   refine sgq 64 (B := (!((!r_5) || (!r_7)))) (v := .bool (decide ((i : Int) < from_))) rfl rfl (uF_ 60) (fun hg18 => (Y_move (v := .bool (decide ((i : Int) < from_))) rfl (gv_of (v := .bool (decide ((i : Int) < from_))) hg18))) ?_
   refine sgq 65 (B := ((!((!r_5) || (!r_7))) && (decide ((i : Int) < from_)))) (v := gD_ x) rfl rfl (wt_gt (gd_of (t := 64) (by kernel_rfl) rfl)) (fun hg19 => (Y_loadA (B := aD b2) (i := 0) (cs := kD_ x) (vs := kD_ x) k_ag_124 k_sz_124_5 rfl rfl (hS15.cf (i := 1) rfl) rfl rfl)) ?_
   refine sgq 66 (B := ((!((!r_5) || (!r_7))) && (decide ((i : Int) < from_)))) (v := gZ_) rfl rfl (wt_gt (gd_of (t := 64) (by kernel_rfl) rfl)) (fun hg20 => (Y_buildS (zs := kZ_) (vs := []) (cs := kZ_) k_pl_124 k_zero_124 rfl mpn rfl)) ?_
   refine sgq 67 (B := ((!((!r_5) || (!r_7))) && (decide ((i : Int) < from_)))) (v := .bool (!(((x.Num.A == 0) && ((x.Num.B == 0) && ((x.Num.C == 0) && ((x.Num.D == 0) && true)))) && ((x.Exp == 0) && true)))) rfl rfl (wt_gt (gd_of (t := 64) (by kernel_rfl) rfl)) (fun hg21 => (Y_neA (xs := #[vi x.Num.A, vi x.Num.B, vi x.Num.C, vi x.Num.D, vi x.Exp]) (ys := #[vi 0, vi 0, vi 0, vi 0, vi 0]) (b := (((x.Num.A == 0) && ((x.Num.B == 0) && ((x.Num.C == 0) && ((x.Num.D == 0) && true)))) && ((x.Exp == 0) && true))) k_eg_124 rfl (gv_of (v := gD_ x) hg21) (gv_of (v := gZ_) hg21) (eqr_struct (xs := kD_ x) (ys := kZ_) k_st_124 k_ho_124 (pts_ag (us := kR_ x.Num) (vs := [vi 0, vi 0, vi 0, vi 0]) k_ag_122 k_sz_122_4 rfl rfl (eqr_struct (xs := kR_ x.Num) (ys := [vi 0, vi 0, vi 0, vi 0]) k_st_122 k_ho_122 (pts_sc k_sc_3 rfl rfl (eqr_int k_int_3_i64) (pts_sc k_sc_3 rfl rfl (eqr_int k_int_3_i64) (pts_sc k_sc_3 rfl rfl (eqr_int k_int_3_i64) (pts_sc k_sc_3 rfl rfl (eqr_int k_int_3_i64) pts_nil))))) (pts_sc k_sc_3 rfl rfl (eqr_int k_int_3_i64) pts_nil))))) ?_
   refine sgq 68 (B := (!((!r_5) || (!r_7)))) (v := .bool ((decide ((i : Int) < from_)) && (!(((x.Num.A == 0) && ((x.Num.B == 0) && ((x.Num.C == 0) && ((x.Num.D == 0) && true)))) && ((x.Exp == 0) && true))))) rfl rfl (uF_ 60) (fun hg22 => (Y_and (b := (decide ((i : Int) < from_))) (z := (!(((x.Num.A == 0) && ((x.Num.B == 0) && ((x.Num.C == 0) && ((x.Num.D == 0) && true)))) && ((x.Exp == 0) && true)))) rfl (gv_of (v := .bool (decide ((i : Int) < from_))) hg22) (gv_and (B := (!((!r_5) || (!r_7)))) (C := (decide ((i : Int) < from_))) (v := .bool (!(((x.Num.A == 0) && ((x.Num.B == 0) && ((x.Num.C == 0) && ((x.Num.D == 0) && true)))) && ((x.Exp == 0) && true)))) hg22) rfl)) ?_
   refine sQ 69 (Y_or (b := ((!r_5) || (!r_7))) (z := ((decide ((i : Int) < from_)) && (!(((x.Num.A == 0) && ((x.Num.B == 0) && ((x.Num.C == 0) && ((x.Num.D == 0) && true)))) && ((x.Exp == 0) && true))))) rfl rfl rfl rfl) (rw_nil ?_)
   refine cw_cond (b := (((!r_5) || (!r_7)) || ((decide ((i : Int) < from_)) && (!(((x.Num.A == 0) && ((x.Num.B == 0) && ((x.Num.C == 0) && ((x.Num.D == 0) && true)))) && ((x.Exp == 0) && true)))))) rfl (fun hb2 => ?_) (fun hb2 => ?_)
   ·skip
    have hF4 := ct hb1 hb2
    refine cw_seq (cw_region ?_)
    refine sQ 4 (Y_assign (v := .bool false) rfl rfl) (rw_nil (cw_ret ?_))
    obtain rfl := some_inj hF4
    obtain rfl := some_inj hL1
    obtain rfl := some_inj hF3
    exact ret1 Try.results80 (v1 := .bool false) (resAt_tmp rfl) ⟨rfl, (hS15.sN [])⟩
   ·skip
    have hF5 := cf' hb1 hb2
    refine cw_skip (cw_region ?_)
    refine sQ 70 (Y_loadA (B := aD b4) (i := 0) (cs := kD_ r_6) (vs := kD_ r_6) k_ag_124 k_sz_124_5 rfl rfl (hS15.cf (i := 3) rfl) rfl rfl) ?_
    refine s0 (Ys_store (i := 0) (s := 5) (B := aD b1) (T' := 124) (v := gD_ r_6) (vs := kD_ r_6) (k := 0) (cs' := kD_ r_6) hS15 k_sz_124_5 rfl (hf.get 5 1 rfl) rfl rfl rfl rfl rfl (lB rfl) rfl rfl) ?_
    rintro _ w_14 ⟨rfl, hS16⟩
    refine rw_nil (cw_region ?_)
    refine sQ 71 (Y_add (k := .i64) (a := (i : Int)) (b := 1) rfl (hf.get 38 4 rfl) rfl) ?_
    refine sQ 38 (Y_move (v := vi (i64.wrap ((i : Int) + 1))) rfl rfl) (rw_nil ?_)
    obtain rfl := some_inj hF5
    exact ⟨k_1, Nat.lt_succ_self _, i + 1, r_6.Num.A, r_6.Num.B, r_6.Num.C, r_6.Num.D, r_6.Exp, (FF.cons (hf.get 1 0 rfl) (FF.cons (hf.get 5 1 rfl) (FF.cons (hf.get 36 2 rfl) (FF.cons (hf.get 37 3 rfl) (FF.cons (congrArg (Value.int .i64) (wr_succ hlt1 hN)) FF.nil))))), (hS16.sel [0] rfl rfl), (by omega), hL1⟩
  ·skip
   obtain rfl : k_ = 0 := by have h := of_decide_eq_false hlt; omega
   refine cw_exit rfl ?_
   obtain rfl := some_inj hL
   refine cw_seq ?_
   obtain ⟨r_8, hc5, hF3⟩ := bind_inv hF3
   refine ra_start (hS7.se [0]).fn (by kernel_rfl) ?_
   have hS18 := hS7.drew
   refine rq 0 72 (v := .agg #[vi A, vi B1, vi C, vi D, vi Exp]) rfl (hS18.se [0]) (fun w' hw' => (Y_loadA (B := aD b1) (i := 0) (cs := [vi A, vi B1, vi C, vi D, vi Exp]) (vs := [vi A, vi B1, vi C, vi D, vi Exp]) k_ag_124 k_sz_124_5 rfl (hf.get 5 1 rfl) (ST.cf hw' (i := 0) rfl) rfl rfl)) ?_
   refine rA [1] ?_
   refine ra_c 73 (i := 1) rfl rfl rfl (Yc_func (g := 151) (vs := [vi 1]) k_call_151 rfl (mc rfl mn) (c_impl_whole 1 _  (hS18.inn0 [] rfl) hc5)) ?_ ?_
   ·rintro _ w_15 ⟨rfl, hd3⟩
    have hS19 := hS18.out00 hd3
    refine ⟨(hS19.se [0]), ?_⟩
    refine rq 2 74 (v := .bool (((A == r_8.Num.A) && ((B1 == r_8.Num.B) && ((C == r_8.Num.C) && ((D == r_8.Num.D) && true)))) && ((Exp == r_8.Exp) && true))) rfl (hS19.se [0]) (fun w' hw' => (Y_eqA (xs := #[vi A, vi B1, vi C, vi D, vi Exp]) (ys := #[vi r_8.Num.A, vi r_8.Num.B, vi r_8.Num.C, vi r_8.Num.D, vi r_8.Exp]) (b := (((A == r_8.Num.A) && ((B1 == r_8.Num.B) && ((C == r_8.Num.C) && ((D == r_8.Num.D) && true)))) && ((Exp == r_8.Exp) && true))) k_eg_124 rfl rfl rfl (eqr_struct (xs := [vi A, vi B1, vi C, vi D, vi Exp]) (ys := kD_ r_8) k_st_124 k_ho_124 (pts_ag (us := [vi A, vi B1, vi C, vi D]) (vs := kR_ r_8.Num) k_ag_122 k_sz_122_4 rfl rfl (eqr_struct (xs := [vi A, vi B1, vi C, vi D]) (ys := kR_ r_8.Num) k_st_122 k_ho_122 (pts_sc k_sc_3 rfl rfl (eqr_int k_int_3_i64) (pts_sc k_sc_3 rfl rfl (eqr_int k_int_3_i64) (pts_sc k_sc_3 rfl rfl (eqr_int k_int_3_i64) (pts_sc k_sc_3 rfl rfl (eqr_int k_int_3_i64) pts_nil))))) (pts_sc k_sc_3 rfl rfl (eqr_int k_int_3_i64) pts_nil))))) ?_
    refine rq 3 4 (v := .bool (((A == r_8.Num.A) && ((B1 == r_8.Num.B) && ((C == r_8.Num.C) && ((D == r_8.Num.D) && true)))) && ((Exp == r_8.Exp) && true))) rfl (hS19.se [0]) (fun w' hw' => (Y_assign (v := .bool (((A == r_8.Num.A) && ((B1 == r_8.Num.B) && ((C == r_8.Num.C) && ((D == r_8.Num.D) && true)))) && ((Exp == r_8.Exp) && true))) rfl rfl)) ?_
    refine ra_done (by kernel_rfl) ?_
    refine cw_ret ?_
    obtain rfl := some_inj hF3
    exact ret1 Try.results80 (v1 := .bool (((A == r_8.Num.A) && ((B1 == r_8.Num.B) && ((C == r_8.Num.C) && ((D == r_8.Num.D) && true)))) && ((Exp == r_8.Exp) && true))) (resAt_tmp rfl) ⟨rfl, (hS19.sN [])⟩
   exact allR_nil

theorem c_impl_LeastExp (m : TMatrix) (B : Option Addr) (c n : Nat) (w0 : World) (hn : m.Cells.length = n) (hS : ST w0 [] w0 [] [⟨B, (m.Cells.flatMap eN0)⟩]) {r_ : Int} {r_1 : Bool} (hF : F_impl_LeastExp m = some (r_, r_1)) :
  CV Try.prog 81 #[.agg #[vi m.Rows, vi m.Cols, .slice B n c]] w0 (fun v w' => v = .tuple #[vi r_, .bool r_1] ∧ ST w0 [] w' [] []) := by
 subst hn
 unfold F_impl_LeastExp at hF
 refine cv_of_cw 23 Try.func81 rfl Try.ntmps81 rfl ?_
 refine cw_seq (cw_region ?_)
 refine sS 1 (Ys_box (T := 75) (v := gM_ m B c) (cs := kM_ m B c) (m := 3) hS rfl rfl rfl rfl) ?_
 rintro _ w_ ⟨b, rfl, hS1⟩
 refine sQ 2 (Y_assign (v := vi 0) rfl rfl) ?_
 refine sQ 3 (Y_assign (v := .bool false) rfl rfl) (rw_nil (cw_seq (cw_seq (cw_region ?_))))
 refine sQ 7 (Y_loadA (B := aD b) (i := 0) (cs := kM_ m B c) (vs := kM_ m B c) k_ag_75 k_sz_75_3 rfl rfl (hS1.cf (i := 0) rfl) rfl rfl) ?_
 obtain ⟨r_2, hc, hF⟩ := bind_inv hF
 refine sc 8 rfl rfl (Yc_func (g := 147) (vs := [gM_ m B c]) k_call_147 rfl (mc rfl mn) (c_impl_IsValidMatrix m B c m.Cells.length _ rfl (hS1.inn0 [(true, 0)] rfl) hc)) ?_
 rintro _ w_1 ⟨rfl, hd⟩
 have hS2 := hS1.out00 hd
 refine sQ 9 (Y_not (p := r_2) rfl rfl) (rw_nil ?_)
 refine cw_cond (b := (!r_2)) rfl (fun hb => ?_) (fun hb => ?_)
 ·skip
  have hF1 := ct hF hb
  refine cw_seq (cw_region ?_)
  refine sQ 2 (Y_assign (v := vi 0) rfl rfl) ?_
  refine sQ 3 (Y_assign (v := .bool false) rfl rfl) (rw_nil (cw_ret ?_))
  obtain ⟨rfl, rfl⟩ := pr2 (some_inj hF1)
  exact ret2 Try.results81 (v1 := vi 0) (resAt_tmp rfl) (v2 := .bool false) (resAt_tmp rfl) ⟨rfl, (hS2.sN [])⟩
 ·skip
  have hF2 := cf' hF hb
  refine cw_skip (cw_seq (cw_region ?_))
  refine sQ 4 (Y_assign (v := vi 0) rfl rfl) (rw_nil (cw_seq (cw_seq (cw_region ?_))))
  refine sQ 10 (Y_fieldAddr (B := aD b) (i := 0) (s := 0) k_fd_75_2_2_73 k_sz_73_1 rfl rfl) ?_
  refine sQ 11 (Y_load1 (B := aD b) (i := 2) (cs := kM_ m B c) (v := .slice B m.Cells.length c) k_sc_73 rfl rfl (hS2.cf (i := 0) rfl) rfl) ?_
  refine sQ 12 (Y_len (B := B) (m := m.Cells.length) (c := c) k_sl_73_124 rfl rfl) ?_
  refine sQ 13 (Y_move (v := vi 0) rfl rfl) (rw_nil ?_)
  obtain ⟨hN, hF2⟩ := chk_inv hF2
  obtain ⟨z, hz, hF3⟩ := bind_inv hF2
  refine cw_block ?_
  refine cw_loop (fun k f w => ∃ (i : Nat) (most : Int), FF f [(4, vi most), (11, .slice B m.Cells.length c), (12, vi (m.Cells.length : Int)), (13, vi (i : Int))] ∧ ST w0 [] w [] [⟨B, (m.Cells.flatMap eN0)⟩] ∧ i + k = m.Cells.length ∧ forN (F_impl_LeastExp_l1 m) k i most = some z) m.Cells.length ⟨0, 0, (FF.cons rfl (FF.cons rfl (FF.cons rfl (FF.cons rfl FF.nil)))), (hS2.sel [] rfl rfl), Nat.zero_add _, hz⟩ ?_
  rintro k_ f w ⟨i, most, hf, hS3, hik, hL⟩
  refine cw_seq (cw_region ?_)
  refine sQ 14 (Y_lt (k := .i64) (a := (i : Int)) (b := (m.Cells.length : Int)) rfl (hf.get 13 3 rfl) (hf.get 12 2 rfl)) (rw_nil (cw_seq ?_))
  refine cw_cond (b := (decide ((i : Int) < (m.Cells.length : Int)))) rfl (fun hlt => ?_) (fun hlt => ?_)
  ·skip
   have hlt1 : i < m.Cells.length := by have h := of_decide_eq_true hlt; omega
   obtain ⟨k_1, rfl⟩ : ∃ k2, k_ = k2 + 1 := ⟨k_ - 1, by omega⟩
   obtain ⟨y, hb1, hL1⟩ := forN_go hL
   unfold F_impl_LeastExp_l1 at hb1
   refine cw_skip (cw_seq (cw_block (cw_seq (cw_region ?_))))
   obtain ⟨x, hx, hb1⟩ := bind_inv hb1
   refine sQ 15 (Y_index (B := B) (m := m.Cells.length) (c := c) (k := .i64) (i := (i : Int)) k_sl_73_124 k_sz_124_5 rfl (hf.get 11 1 rfl) (hf.get 13 3 rfl) (gi_isSome eN1 rfl (hS3.rf (i := 0) rfl) hx) (getI_nn hx) (getI_ltI hx rfl)) ?_
   refine sQ 16 (Y_loadA (B := B) (i := (i : Int).toNat * 5) (cs := (m.Cells.flatMap eN0)) (vs := kD_ x) k_ag_124 k_sz_124_5 rfl rfl (hS3.rf (i := 0) rfl) (eN1 x) (gi_seg eN1 hx)) ?_
   refine sS 6 (Ys_alloc (T := 124) (cs := kZ_) (m := 5) hS3 k_zero_124 rfl rfl rfl) ?_
   rintro _ w_2 ⟨b1, rfl, hS4⟩
   refine s0 (Ys_store (i := 0) (s := 5) (B := aD b1) (T' := 124) (v := gD_ x) (vs := kD_ x) (k := 0) (cs' := kD_ x) hS4 k_sz_124_5 rfl rfl rfl rfl rfl rfl rfl (lB rfl) rfl rfl) ?_
   rintro _ w_3 ⟨rfl, hS5⟩
   refine rw_nil (cw_region ?_)
   refine sQ 17 (Y_move (v := vi most) rfl (hf.get 4 0 rfl)) ?_
   refine sQ 18 (Y_fieldAddr (B := aD b1) (i := 0) (s := 0) k_fd_124_1_4_3 k_sz_3_1 rfl rfl) ?_
   refine sQ 19 (Y_load1 (B := aD b1) (i := 4) (cs := kD_ x) (v := vi x.Exp) k_sc_3 rfl rfl (hS5.cf (i := 0) rfl) rfl) ?_
   refine sQ 20 (Y_max2 (k := .i64) (a := most) (b := x.Exp) rfl rfl rfl) ?_
   refine sQ 4 (Y_assign (v := vi (if most < x.Exp then x.Exp else most)) rfl rfl) (rw_nil (cw_region ?_))
   refine sQ 21 (Y_add (k := .i64) (a := (i : Int)) (b := 1) rfl (hf.get 13 3 rfl) rfl) ?_
   refine sQ 13 (Y_move (v := vi (i64.wrap ((i : Int) + 1))) rfl rfl) (rw_nil ?_)
   obtain rfl := some_inj hb1
   exact ⟨k_1, Nat.lt_succ_self _, i + 1, (if most < x.Exp then x.Exp else most), (FF.cons rfl (FF.cons (hf.get 11 1 rfl) (FF.cons (hf.get 12 2 rfl) (FF.cons (congrArg (Value.int .i64) (wr_succ hlt1 hN)) FF.nil)))), (hS5.sel [] rfl rfl), (by omega), hL1⟩
  ·skip
   obtain rfl : k_ = 0 := by have h := of_decide_eq_false hlt; omega
   refine cw_exit rfl ?_
   obtain rfl := some_inj hL
   refine cw_seq (cw_region ?_)
   refine sQ 22 (Y_move (v := vi most) rfl (hf.get 4 0 rfl)) ?_
   refine sQ 2 (Y_assign (v := vi most) rfl rfl) ?_
   refine sQ 3 (Y_assign (v := .bool true) rfl rfl) (rw_nil (cw_ret ?_))
   obtain ⟨rfl, rfl⟩ := pr2 (some_inj hF3)
   exact ret2 Try.results81 (v1 := vi most) (resAt_tmp rfl) (v2 := .bool true) (resAt_tmp rfl) ⟨rfl, (hS3.sN [])⟩

theorem c_impl_MulOmega (x : TRing) (k_ : Int)  (w0 : World)  (hS : ST w0 [] w0 [] []) {r_ : TRing} {r_1 : Bool} (hF : F_impl_MulOmega x k_ = some (r_, r_1)) :
  CV Try.prog 218 #[gR_ x, vi k_] w0 (fun v w' => v = .tuple #[gR_ r_, .bool r_1] ∧ ST w0 [] w' [] []) := by
 unfold F_impl_MulOmega at hF
 refine cv_of_cw 33 Try.func218 rfl Try.ntmps218 rfl ?_
 refine cw_seq (cw_region ?_)
 refine sS 2 (Ys_box (T := 122) (v := gR_ x) (cs := kR_ x) (m := 4) hS rfl rfl rfl rfl) ?_
 rintro _ w_ ⟨b, rfl, hS1⟩
 refine sS 4 (Ys_alloc (T := 122) (cs := [vi 0, vi 0, vi 0, vi 0]) (m := 4) hS1 k_zero_122 rfl rfl rfl) ?_
 rintro _ w_1 ⟨b1, rfl, hS2⟩
 refine sQ 5 (Y_assign (v := .bool false) rfl rfl) (rw_nil (cw_seq (cw_seq (cw_region ?_))))
 refine sQ 6 (Y_move (v := vi k_) rfl rfl) ?_
 obtain ⟨r_2, hc, hF⟩ := bind_inv hF
 refine sc 7 rfl rfl (Yc_func (g := 98) (vs := [vi k_, vi (-1000), vi 1000]) k_call_98 rfl (mc rfl (mc rfl (mc rfl mn))) (c_impl_within k_ (-1000) 1000 _  (hS2.inn0 [] rfl) hc)) ?_
 rintro _ w_2 ⟨rfl, hd⟩
 have hS3 := hS2.out00 hd
 refine sQ 8 (Y_not (p := r_2) rfl rfl) ?_
 refine sQ 9 (Y_move (v := .bool (!r_2)) rfl rfl) ?_
 refine sgq 10 (B := (!(!r_2))) (v := gR_ x) rfl rfl (uF_ 9) (fun hg => (Y_loadA (B := aD b) (i := 0) (cs := kR_ x) (vs := kR_ x) k_ag_122 k_sz_122_4 rfl rfl (hS3.cf (i := 0) rfl) rfl rfl)) ?_
 obtain ⟨r_3, hc1, hF⟩ := bind_inv hF
 refine sgc 11 (B := (!(!r_2))) (v := .bool r_3) (F := hS3.fn) rfl rfl (uF_ 9) hS3 (fun hg1 => (Yc_func (g := 239) (vs := [gR_ x]) k_call_239 rfl (mc (gv_of (v := gR_ x) hg1) mn) (CV.mono (c_impl_IsValidRing x _  (hS3.inn0 [] rfl) (gb_inv hc1 hg1)) (by rintro _ _ ⟨rfl, h⟩; exact ⟨rfl, hS3.out00 h⟩)))) ?_
 rintro w_3 hS4
 refine sgq 12 (B := (!(!r_2))) (v := .bool (!r_3)) rfl rfl (uF_ 9) (fun hg2 => (Y_not (p := r_3) rfl (gv_of (v := .bool r_3) hg2))) ?_
 refine sQ 13 (Y_or (b := (!r_2)) (z := (!r_3)) rfl rfl rfl rfl) (rw_nil ?_)
 refine cw_cond (b := ((!r_2) || (!r_3))) rfl (fun hb => ?_) (fun hb => ?_)
 ·skip
  have hF1 := ct hF hb
  refine cw_seq (cw_region ?_)
  refine sQ 14 (Y_buildS (zs := [vi 0, vi 0, vi 0, vi 0]) (vs := []) (cs := [vi 0, vi 0, vi 0, vi 0]) k_pl_122 k_zero_122 rfl mpn rfl) ?_
  refine s0 (Ys_store (i := 1) (s := 4) (B := aD b1) (T' := 122) (v := .agg #[vi 0, vi 0, vi 0, vi 0]) (vs := [vi 0, vi 0, vi 0, vi 0]) (k := 0) (cs' := [vi 0, vi 0, vi 0, vi 0]) hS4 k_sz_122_4 rfl rfl rfl rfl rfl rfl rfl (lB rfl) rfl rfl) ?_
  rintro _ w_4 ⟨rfl, hS5⟩
  refine sQ 5 (Y_assign (v := .bool false) rfl rfl) (rw_nil (cw_ret ?_))
  obtain ⟨rfl, rfl⟩ := pr2 (some_inj hF1)
  exact ret2 Try.results218 (v1 := .agg #[vi 0, vi 0, vi 0, vi 0]) (resAt_cellA (B := aD b1) (i := 0) (cs := [vi 0, vi 0, vi 0, vi 0]) (vs := [vi 0, vi 0, vi 0, vi 0]) rfl k_ag_122 k_sz_122_4 (hS5.cf (i := 1) rfl) rfl rfl) (v2 := .bool false) (resAt_tmp rfl) ⟨rfl, (hS5.sN [])⟩
 ·skip
  have hF2 := cf' hF hb
  refine cw_skip (cw_seq (cw_seq (cw_region ?_)))
  refine sQ 15 (Y_move (v := vi k_) rfl rfl) ?_
  refine sQ 16 (Y_rem (k := .i64) (a := k_) (b := 8) rfl rfl rfl (by decide)) ?_
  refine sQ 17 (Y_add (k := .i64) (a := (Int.tmod k_ 8)) (b := 8) rfl rfl rfl) ?_
  refine sQ 18 (Y_rem (k := .i64) (a := (i64.wrap ((Int.tmod k_ 8) + 8))) (b := 8) rfl rfl rfl (by decide)) ?_
  refine sQ 19 (Y_move (v := vi 0) rfl rfl) (rw_nil ?_)
  obtain ⟨hN, hF2⟩ := chk_inv hF2
  obtain ⟨z, hz, hF3⟩ := bind_inv hF2
  refine cw_block ?_
  refine cw_loop (fun k f w => ∃ (i : Nat) (A : Int) (B : Int) (C : Int) (D : Int), FF f [(2, pt (aD b) 0), (4, pt (aD b1) 0), (18, vi (Int.tmod (i64.wrap ((Int.tmod k_ 8) + 8)) 8)), (19, vi (i : Int))] ∧ ST w0 [] w [⟨aD b, 122, [vi A, vi B, vi C, vi D], 4⟩, ⟨aD b1, 122, [vi 0, vi 0, vi 0, vi 0], 4⟩] [] ∧ i + k = (Int.tmod (i64.wrap ((Int.tmod k_ 8) + 8)) 8).toNat ∧ forN F_impl_MulOmega_l1 k i (A, B, C, D) = some z) ((Int.tmod (i64.wrap ((Int.tmod k_ 8) + 8)) 8).toNat) ⟨0, x.A, x.B, x.C, x.D, (FF.cons rfl (FF.cons rfl (FF.cons rfl (FF.cons rfl FF.nil)))), (hS4.sel [0, 1] rfl rfl), Nat.zero_add _, hz⟩ ?_
  rintro k_1 f w ⟨i, A, B, C, D, hf, hS6, hik, hL⟩
  refine cw_seq (cw_region ?_)
  refine sQ 20 (Y_lt (k := .i64) (a := (i : Int)) (b := (Int.tmod (i64.wrap ((Int.tmod k_ 8) + 8)) 8)) rfl (hf.get 19 3 rfl) (hf.get 18 2 rfl)) (rw_nil (cw_seq ?_))
  refine cw_cond (b := (decide ((i : Int) < (Int.tmod (i64.wrap ((Int.tmod k_ 8) + 8)) 8)))) rfl (fun hlt => ?_) (fun hlt => ?_)
  ·skip
   have hlt1 : i < (Int.tmod (i64.wrap ((Int.tmod k_ 8) + 8)) 8).toNat := by have h := of_decide_eq_true hlt; omega
   obtain ⟨k_2, rfl⟩ : ∃ k2, k_1 = k2 + 1 := ⟨k_1 - 1, by omega⟩
   obtain ⟨y, hb1, hL1⟩ := forN_go hL
   unfold F_impl_MulOmega_l1 at hb1
   refine cw_skip (cw_seq (cw_block (cw_region ?_)))
   refine sQ 21 (Y_fieldAddr (B := aD b) (i := 0) (s := 0) k_fd_122_3_3_3 k_sz_3_1 rfl (hf.get 2 0 rfl)) ?_
   refine sQ 22 (Y_load1 (B := aD b) (i := 3) (cs := [vi A, vi B, vi C, vi D]) (v := vi D) k_sc_3 rfl rfl (hS6.cf (i := 0) rfl) rfl) ?_
   refine sQ 23 (Y_neg (k := .i64) (a := D) rfl rfl) ?_
   refine sQ 24 (Y_fieldAddr (B := aD b) (i := 0) (s := 0) k_fd_122_0_0_3 k_sz_3_1 rfl (hf.get 2 0 rfl)) ?_
   refine sQ 25 (Y_load1 (B := aD b) (i := 0) (cs := [vi A, vi B, vi C, vi D]) (v := vi A) k_sc_3 rfl rfl (hS6.cf (i := 0) rfl) rfl) ?_
   refine sQ 26 (Y_fieldAddr (B := aD b) (i := 0) (s := 0) k_fd_122_1_1_3 k_sz_3_1 rfl (hf.get 2 0 rfl)) ?_
   refine sQ 27 (Y_load1 (B := aD b) (i := 1) (cs := [vi A, vi B, vi C, vi D]) (v := vi B) k_sc_3 rfl rfl (hS6.cf (i := 0) rfl) rfl) ?_
   refine sQ 28 (Y_fieldAddr (B := aD b) (i := 0) (s := 0) k_fd_122_2_2_3 k_sz_3_1 rfl (hf.get 2 0 rfl)) ?_
   refine sQ 29 (Y_load1 (B := aD b) (i := 2) (cs := [vi A, vi B, vi C, vi D]) (v := vi C) k_sc_3 rfl rfl (hS6.cf (i := 0) rfl) rfl) ?_
   refine sQ 30 (Y_buildS (zs := [vi 0, vi 0, vi 0, vi 0]) (vs := [(0, vi (i64.wrap (-D))), (1, vi A), (2, vi B), (3, vi C)]) (cs := [vi (i64.wrap (-D)), vi A, vi B, vi C]) k_pl_122 k_zero_122 rfl (mpc rfl (mpc rfl (mpc rfl (mpc rfl mpn)))) rfl) ?_
   refine s0 (Ys_store (i := 0) (s := 4) (B := aD b) (T' := 122) (v := .agg #[vi (i64.wrap (-D)), vi A, vi B, vi C]) (vs := [vi (i64.wrap (-D)), vi A, vi B, vi C]) (k := 0) (cs' := [vi (i64.wrap (-D)), vi A, vi B, vi C]) hS6 k_sz_122_4 rfl (hf.get 2 0 rfl) rfl rfl rfl rfl rfl (lB rfl) rfl rfl) ?_
   rintro _ w_5 ⟨rfl, hS7⟩
   refine rw_nil (cw_region ?_)
   refine sQ 31 (Y_add (k := .i64) (a := (i : Int)) (b := 1) rfl (hf.get 19 3 rfl) rfl) ?_
   refine sQ 19 (Y_move (v := vi (i64.wrap ((i : Int) + 1))) rfl rfl) (rw_nil ?_)
   obtain rfl := some_inj hb1
   exact ⟨k_2, Nat.lt_succ_self _, i + 1, (i64.wrap (-D)), A, B, C, (FF.cons (hf.get 2 0 rfl) (FF.cons (hf.get 4 1 rfl) (FF.cons (hf.get 18 2 rfl) (FF.cons (congrArg (Value.int .i64) (wr_succ hlt1 hN)) FF.nil)))), (hS7.sel [0, 1] rfl rfl), (by omega), hL1⟩
  ·skip
   obtain rfl : k_1 = 0 := by have h := of_decide_eq_false hlt; omega
   refine cw_exit rfl ?_
   obtain rfl := some_inj hL
   refine cw_seq (cw_region ?_)
   refine sQ 32 (Y_loadA (B := aD b) (i := 0) (cs := [vi A, vi B, vi C, vi D]) (vs := [vi A, vi B, vi C, vi D]) k_ag_122 k_sz_122_4 rfl (hf.get 2 0 rfl) (hS6.cf (i := 0) rfl) rfl rfl) ?_
   refine s0 (Ys_store (i := 1) (s := 4) (B := aD b1) (T' := 122) (v := .agg #[vi A, vi B, vi C, vi D]) (vs := [vi A, vi B, vi C, vi D]) (k := 0) (cs' := [vi A, vi B, vi C, vi D]) hS6 k_sz_122_4 rfl (hf.get 4 1 rfl) rfl rfl rfl rfl rfl (lB rfl) rfl rfl) ?_
   rintro _ w_6 ⟨rfl, hS8⟩
   refine sQ 5 (Y_assign (v := .bool true) rfl rfl) (rw_nil (cw_ret ?_))
   obtain ⟨rfl, rfl⟩ := pr2 (some_inj hF3)
   exact ret2 Try.results218 (v1 := .agg #[vi A, vi B, vi C, vi D]) (resAt_cellA (B := aD b1) (i := 0) (cs := [vi A, vi B, vi C, vi D]) (vs := [vi A, vi B, vi C, vi D]) (hf.get 4 1 rfl) k_ag_122 k_sz_122_4 (hS8.cf (i := 1) rfl) rfl rfl) (v2 := .bool true) (resAt_tmp rfl) ⟨rfl, (hS8.sN [])⟩

theorem c_impl_phase (k_ : Int)  (w0 : World)  (hS : ST w0 [] w0 [] []) {r_ : TDyadic} (hF : F_impl_phase k_ = some r_) :
  CV Try.prog 215 #[vi k_] w0 (fun v w' => v = (gD_ r_) ∧ ST w0 [] w' [] []) := by
 unfold F_impl_phase at hF
 refine cv_of_cw 13 Try.func215 rfl Try.ntmps215 rfl ?_
 refine cw_seq (cw_region ?_)
 refine sS 2 (Ys_alloc (T := 124) (cs := kZ_) (m := 5) hS k_zero_124 rfl rfl rfl) ?_
 rintro _ w_ ⟨b, rfl, hS1⟩
 refine rw_nil (cw_seq (cw_region ?_))
 refine sQ 6 (Y_buildS (zs := [vi 0, vi 0, vi 0, vi 0]) (vs := [(0, vi 1)]) (cs := [vi 1, vi 0, vi 0, vi 0]) k_pl_122 k_zero_122 rfl (mpc rfl mpn) rfl) ?_
 refine sQ 7 (Y_move (v := vi k_) rfl rfl) ?_
 obtain ⟨⟨r_1, r_2⟩, hc, hF⟩ := bind_inv hF
 refine sc 8 rfl rfl (Yc_func (g := 218) (vs := [.agg #[vi 1, vi 0, vi 0, vi 0], vi k_]) k_call_218 rfl (mc rfl (mc rfl mn)) (c_impl_MulOmega (TRing.mk 1 0 0 0) k_ _  (hS1.inn0 [] rfl) hc)) ?_
 rintro _ w_1 ⟨rfl, hd⟩
 have hS2 := hS1.out00 hd
 refine sQ 5 (Y_move (v := .tuple #[gR_ r_1, .bool r_2]) rfl rfl) ?_
 refine sQ 9 (Y_extract (v := gR_ r_1) rfl rfl rfl) ?_
 refine sQ 10 (Y_extract (v := .bool r_2) rfl rfl rfl) ?_
 refine sS 3 (Ys_alloc (T := 122) (cs := [vi 0, vi 0, vi 0, vi 0]) (m := 4) hS2 k_zero_122 rfl rfl rfl) ?_
 rintro _ w_2 ⟨b1, rfl, hS3⟩
 refine s0 (Ys_store (i := 1) (s := 4) (B := aD b1) (T' := 122) (v := gR_ r_1) (vs := kR_ r_1) (k := 0) (cs' := kR_ r_1) hS3 k_sz_122_4 rfl rfl rfl rfl rfl rfl rfl (lB rfl) rfl rfl) ?_
 rintro _ w_3 ⟨rfl, hS4⟩
 refine sQ 4 (Y_assign (v := .bool r_2) rfl rfl) (rw_nil (cw_seq (cw_region ?_)))
 refine sQ 11 (Y_loadA (B := aD b1) (i := 0) (cs := kR_ r_1) (vs := kR_ r_1) k_ag_122 k_sz_122_4 rfl rfl (hS4.cf (i := 1) rfl) rfl rfl) ?_
 refine sQ 12 (Y_buildS (zs := kZ_) (vs := [(0, gR_ r_1)]) (cs := [vi r_1.A, vi r_1.B, vi r_1.C, vi r_1.D, vi 0]) k_pl_124 k_zero_124 rfl (mpc rfl mpn) rfl) ?_
 refine s0 (Ys_store (i := 0) (s := 5) (B := aD b) (T' := 124) (v := .agg #[vi r_1.A, vi r_1.B, vi r_1.C, vi r_1.D, vi 0]) (vs := [vi r_1.A, vi r_1.B, vi r_1.C, vi r_1.D, vi 0]) (k := 0) (cs' := [vi r_1.A, vi r_1.B, vi r_1.C, vi r_1.D, vi 0]) hS4 k_sz_124_5 rfl rfl rfl rfl rfl rfl rfl (lB rfl) rfl rfl) ?_
 rintro _ w_4 ⟨rfl, hS5⟩
 refine rw_nil (cw_ret ?_)
 obtain rfl := some_inj hF
 exact ret1 Try.results215 (v1 := .agg #[vi r_1.A, vi r_1.B, vi r_1.C, vi r_1.D, vi 0]) (resAt_cellA (B := aD b) (i := 0) (cs := [vi r_1.A, vi r_1.B, vi r_1.C, vi r_1.D, vi 0]) (vs := [vi r_1.A, vi r_1.B, vi r_1.C, vi r_1.D, vi 0]) rfl k_ag_124 k_sz_124_5 (hS5.cf (i := 0) rfl) rfl rfl) ⟨rfl, (hS5.sN [])⟩

theorem c_impl_PhaseOf (x : TDyadic)  (w0 : World)  (hS : ST w0 [] w0 [] []) {r_ : Int} {r_1 : Bool} (hF : F_impl_PhaseOf x = some (r_, r_1)) :
  CV Try.prog 152 #[gD_ x] w0 (fun v w' => v = .tuple #[vi r_, .bool r_1] ∧ ST w0 [] w' [] []) := by
 unfold F_impl_PhaseOf at hF
 refine cv_of_cw 14 Try.func152 rfl Try.ntmps152 rfl ?_
 refine cw_seq (cw_region ?_)
 refine sS 1 (Ys_box (T := 124) (v := gD_ x) (cs := kD_ x) (m := 5) hS rfl rfl rfl rfl) ?_
 rintro _ w_ ⟨b, rfl, hS1⟩
 refine sQ 2 (Y_assign (v := vi 0) rfl rfl) ?_
 refine sQ 3 (Y_assign (v := .bool false) rfl rfl) (rw_nil (cw_seq (cw_seq (cw_region ?_))))
 refine sQ 5 (Y_move (v := vi 0) rfl rfl) (rw_nil ?_)
 obtain ⟨z, hz, hF1⟩ := bind_inv hF
 refine cw_block ?_
 refine cw_loop (fun k f w => ∃ (i : Nat), FF f [(1, pt (aD b) 0), (5, vi (i : Int))] ∧ ST w0 [] w [⟨aD b, 124, kD_ x, 5⟩] [] ∧ i + k = 8 ∧ forX (F_impl_PhaseOf_l1 x) k i () = some z) 8 ⟨0, (FF.cons rfl (FF.cons rfl FF.nil)), (hS1.sel [0] rfl rfl), Nat.zero_add _, hz⟩ ?_
 rintro k_ f w ⟨i, hf, hS2, hik, hL⟩
 refine cw_seq (cw_region ?_)
 refine sQ 6 (Y_lt (k := .i64) (a := (i : Int)) (b := 8) rfl (hf.get 5 1 rfl) rfl) (rw_nil (cw_seq ?_))
 refine cw_cond (b := (decide ((i : Int) < 8))) rfl (fun hlt => ?_) (fun hlt => ?_)
 ·skip
  have hlt1 : i < 8 := by have h := of_decide_eq_true hlt; omega
  obtain ⟨k_1, rfl⟩ : ∃ k2, k_ = k2 + 1 := ⟨k_ - 1, by omega⟩
  obtain ⟨y, hb, hL1⟩ := forX_go hL
  unfold F_impl_PhaseOf_l1 at hb
  refine cw_skip (cw_seq (cw_block (cw_seq (cw_region ?_))))
  refine sQ 7 (Y_move (v := vi (i : Int)) rfl (hf.get 5 1 rfl)) ?_
  refine sQ 4 (Y_assign (v := vi (i : Int)) rfl rfl) (rw_nil (cw_seq ?_))
  obtain ⟨r_2, hc, hb⟩ := bind_inv hb
  refine ra_start (hS2.se [0]).fn (by kernel_rfl) ?_
  have hS4 := hS2.drew
  refine rq 0 8 (v := gD_ x) rfl (hS4.se [0]) (fun w' hw' => (Y_loadA (B := aD b) (i := 0) (cs := kD_ x) (vs := kD_ x) k_ag_124 k_sz_124_5 rfl (hf.get 1 0 rfl) (ST.cf hw' (i := 0) rfl) rfl rfl)) ?_
  refine rq 1 9 (v := vi (i : Int)) rfl (hS4.se [0]) (fun w' hw' => (Y_move (v := vi (i : Int)) rfl rfl)) ?_
  refine rA [2] ?_
  refine ra_c 10 (i := 2) rfl rfl rfl (Yc_func (g := 215) (vs := [vi (i : Int)]) k_call_215 rfl (mc rfl mn) (c_impl_phase (i : Int) _  (hS4.inn0 [] rfl) hc)) ?_ ?_
  ·rintro _ w_1 ⟨rfl, hd⟩
   have hS5 := hS4.out00 hd
   refine ⟨(hS5.se [0]), ?_⟩
   refine rq 3 11 (v := .bool (((x.Num.A == r_2.Num.A) && ((x.Num.B == r_2.Num.B) && ((x.Num.C == r_2.Num.C) && ((x.Num.D == r_2.Num.D) && true)))) && ((x.Exp == r_2.Exp) && true))) rfl (hS5.se [0]) (fun w' hw' => (Y_eqA (xs := #[vi x.Num.A, vi x.Num.B, vi x.Num.C, vi x.Num.D, vi x.Exp]) (ys := #[vi r_2.Num.A, vi r_2.Num.B, vi r_2.Num.C, vi r_2.Num.D, vi r_2.Exp]) (b := (((x.Num.A == r_2.Num.A) && ((x.Num.B == r_2.Num.B) && ((x.Num.C == r_2.Num.C) && ((x.Num.D == r_2.Num.D) && true)))) && ((x.Exp == r_2.Exp) && true))) k_eg_124 rfl rfl rfl (eqr_struct (xs := kD_ x) (ys := kD_ r_2) k_st_124 k_ho_124 (pts_ag (us := kR_ x.Num) (vs := kR_ r_2.Num) k_ag_122 k_sz_122_4 rfl rfl (eqr_struct (xs := kR_ x.Num) (ys := kR_ r_2.Num) k_st_122 k_ho_122 (pts_sc k_sc_3 rfl rfl (eqr_int k_int_3_i64) (pts_sc k_sc_3 rfl rfl (eqr_int k_int_3_i64) (pts_sc k_sc_3 rfl rfl (eqr_int k_int_3_i64) (pts_sc k_sc_3 rfl rfl (eqr_int k_int_3_i64) pts_nil))))) (pts_sc k_sc_3 rfl rfl (eqr_int k_int_3_i64) pts_nil))))) ?_
   refine ra_done (by kernel_rfl) ?_
   refine cw_cond (b := (((x.Num.A == r_2.Num.A) && ((x.Num.B == r_2.Num.B) && ((x.Num.C == r_2.Num.C) && ((x.Num.D == r_2.Num.D) && true)))) && ((x.Exp == r_2.Exp) && true))) rfl (fun hb1 => ?_) (fun hb1 => ?_)
   ·skip
    have hF2 := ct hb hb1
    refine cw_seq (cw_region ?_)
    refine sQ 12 (Y_move (v := vi (i : Int)) rfl rfl) ?_
    refine sQ 2 (Y_assign (v := vi (i : Int)) rfl rfl) ?_
    refine sQ 3 (Y_assign (v := .bool true) rfl rfl) (rw_nil (cw_ret ?_))
    obtain rfl := some_inj hF2
    obtain rfl := some_inj hL1
    obtain ⟨rfl, rfl⟩ := pr2 (some_inj hF1)
    exact ret2 Try.results152 (v1 := vi (i : Int)) (resAt_tmp rfl) (v2 := .bool true) (resAt_tmp rfl) ⟨rfl, (hS5.sN [])⟩
   ·skip
    have hF3 := cf' hb hb1
    refine cw_skip (cw_region ?_)
    refine sQ 13 (Y_add (k := .i64) (a := (i : Int)) (b := 1) rfl (hf.get 5 1 rfl) rfl) ?_
    refine sQ 5 (Y_move (v := vi (i64.wrap ((i : Int) + 1))) rfl rfl) (rw_nil ?_)
    obtain rfl := some_inj hF3
    exact ⟨k_1, Nat.lt_succ_self _, i + 1, (FF.cons (hf.get 1 0 rfl) (FF.cons (congrArg (Value.int .i64) (wr_succ hlt1 (show 8 ≤ 9223372036854775807 by decide))) FF.nil)), (hS5.sel [0] rfl rfl), (by omega), hL1⟩
  exact allR_nil
 ·skip
  obtain rfl : k_ = 0 := by have h := of_decide_eq_false hlt; omega
  refine cw_exit rfl ?_
  obtain rfl := some_inj hL
  refine cw_seq (cw_region ?_)
  refine sQ 2 (Y_assign (v := vi 0) rfl rfl) ?_
  refine sQ 3 (Y_assign (v := .bool false) rfl rfl) (rw_nil (cw_ret ?_))
  obtain ⟨rfl, rfl⟩ := pr2 (some_inj hF1)
  exact ret2 Try.results152 (v1 := vi 0) (resAt_tmp rfl) (v2 := .bool false) (resAt_tmp rfl) ⟨rfl, (hS2.sN [])⟩

theorem c_impl_finishing (v_ : TMatrix) (from_ : Int) (B : Option Addr) (c n : Nat) (w0 : World) (hn : v_.Cells.length = n) (hS : ST w0 [] w0 [] [⟨B, (v_.Cells.flatMap eN0)⟩]) {r_ : List TTwoLevel} {r_1 : Bool} (hF : F_impl_finishing v_ from_ = some (r_, r_1)) :
  CV Try.prog 82 #[.agg #[vi v_.Rows, vi v_.Cols, .slice B n c], vi from_] w0 (fun v w' => ∃ (B1 : Option Addr) (c1 : Nat), v = .tuple #[.slice B1 r_.length c1, .bool r_1] ∧ ST w0 [] w' [⟨B1, 133, (r_.flatMap eN2), c1 * 4⟩] []) := by
 subst hn
 unfold F_impl_finishing at hF
 refine cv_of_cw 54 Try.func82 rfl Try.ntmps82 rfl ?_
 refine cw_seq (cw_region ?_)
 refine sS 2 (Ys_box (T := 75) (v := gM_ v_ B c) (cs := kM_ v_ B c) (m := 3) hS rfl rfl rfl rfl) ?_
 rintro _ w_ ⟨b, rfl, hS1⟩
 refine sQ 4 (Y_assign (v := .slice none 0 0) rfl rfl) ?_
 refine sQ 5 (Y_assign (v := .bool false) rfl rfl) (rw_nil (cw_seq (cw_region ?_)))
 refine sS 11 (Ys_bslice0 (s := 4) (e := 133) hS1 k_sl_70_133 k_sz_133_4 rfl) ?_
 rintro _ w_1 ⟨b1, rfl, hS2⟩
 refine sQ 6 (Y_assign (v := .slice (aD b1) 0 0) rfl rfl) (rw_nil (cw_seq (cw_seq (cw_region ?_))))
 refine sQ 12 (Y_fieldAddr (B := aD b) (i := 0) (s := 0) k_fd_75_2_2_73 k_sz_73_1 rfl rfl) ?_
 refine sQ 13 (Y_load1 (B := aD b) (i := 2) (cs := kM_ v_ B c) (v := .slice B v_.Cells.length c) k_sc_73 rfl rfl (hS2.cf (i := 0) rfl) rfl) ?_
 refine sQ 14 (Y_len (B := B) (m := v_.Cells.length) (c := c) k_sl_73_124 rfl rfl) ?_
 refine sQ 15 (Y_move (v := vi 0) rfl rfl) (rw_nil ?_)
 obtain ⟨hN, hF⟩ := chk_inv hF
 obtain ⟨z, hz, hF1⟩ := bind_inv hF
 refine cw_block ?_
 refine cw_loop (fun k f w => ∃ (i : Nat), FF f [(1, vi from_), (6, .slice (aD b1) 0 0), (13, .slice B v_.Cells.length c), (14, vi (v_.Cells.length : Int)), (15, vi (i : Int))] ∧ ST w0 [] w [⟨aD b1, 133, ([].flatMap eN2), 0 * 4⟩] [⟨B, (v_.Cells.flatMap eN0)⟩] ∧ i + k = v_.Cells.length ∧ forX (F_impl_finishing_l1 v_ from_) k i () = some z) v_.Cells.length ⟨0, (FF.cons rfl (FF.cons rfl (FF.cons rfl (FF.cons rfl (FF.cons rfl FF.nil))))), (hS2.sel [1] rfl rfl), Nat.zero_add _, hz⟩ ?_
 rintro k_ f w ⟨i, hf, hS3, hik, hL⟩
 refine cw_seq (cw_region ?_)
 refine sQ 16 (Y_lt (k := .i64) (a := (i : Int)) (b := (v_.Cells.length : Int)) rfl (hf.get 15 4 rfl) (hf.get 14 3 rfl)) (rw_nil (cw_seq ?_))
 refine cw_cond (b := (decide ((i : Int) < (v_.Cells.length : Int)))) rfl (fun hlt => ?_) (fun hlt => ?_)
 ·skip
  have hlt1 : i < v_.Cells.length := by have h := of_decide_eq_true hlt; omega
  obtain ⟨k_1, rfl⟩ : ∃ k2, k_ = k2 + 1 := ⟨k_ - 1, by omega⟩
  obtain ⟨y, hb, hL1⟩ := forX_go hL
  unfold F_impl_finishing_l1 at hb
  refine cw_skip (cw_seq (cw_block (cw_seq (cw_region ?_))))
  refine sQ 17 (Y_move (v := vi (i : Int)) rfl (hf.get 15 4 rfl)) ?_
  obtain ⟨x, hx, hb⟩ := bind_inv hb
  refine sQ 18 (Y_index (B := B) (m := v_.Cells.length) (c := c) (k := .i64) (i := (i : Int)) k_sl_73_124 k_sz_124_5 rfl (hf.get 13 2 rfl) (hf.get 15 4 rfl) (gi_isSome eN1 rfl (hS3.rf (i := 0) rfl) hx) (getI_nn hx) (getI_ltI hx rfl)) ?_
  refine sQ 19 (Y_loadA (B := B) (i := (i : Int).toNat * 5) (cs := (v_.Cells.flatMap eN0)) (vs := kD_ x) k_ag_124 k_sz_124_5 rfl rfl (hS3.rf (i := 0) rfl) (eN1 x) (gi_seg eN1 hx)) ?_
  refine sS 8 (Ys_alloc (T := 124) (cs := kZ_) (m := 5) hS3 k_zero_124 rfl rfl rfl) ?_
  rintro _ w_2 ⟨b2, rfl, hS4⟩
  refine sQ 7 (Y_assign (v := vi (i : Int)) rfl rfl) ?_
  refine s0 (Ys_store (i := 1) (s := 5) (B := aD b2) (T' := 124) (v := gD_ x) (vs := kD_ x) (k := 0) (cs' := kD_ x) hS4 k_sz_124_5 rfl rfl rfl rfl rfl rfl rfl (lB rfl) rfl rfl) ?_
  rintro _ w_3 ⟨rfl, hS5⟩
  refine rw_nil (cw_seq (cw_seq (cw_region ?_)))
  refine sQ 20 (Y_loadA (B := aD b2) (i := 0) (cs := kD_ x) (vs := kD_ x) k_ag_124 k_sz_124_5 rfl rfl (hS5.cf (i := 1) rfl) rfl rfl) ?_
  refine sQ 21 (Y_buildS (zs := kZ_) (vs := []) (cs := kZ_) k_pl_124 k_zero_124 rfl mpn rfl) ?_
  refine sQ 22 (Y_eqA (xs := #[vi x.Num.A, vi x.Num.B, vi x.Num.C, vi x.Num.D, vi x.Exp]) (ys := #[vi 0, vi 0, vi 0, vi 0, vi 0]) (b := (((x.Num.A == 0) && ((x.Num.B == 0) && ((x.Num.C == 0) && ((x.Num.D == 0) && true)))) && ((x.Exp == 0) && true))) k_eg_124 rfl rfl rfl (eqr_struct (xs := kD_ x) (ys := kZ_) k_st_124 k_ho_124 (pts_ag (us := kR_ x.Num) (vs := [vi 0, vi 0, vi 0, vi 0]) k_ag_122 k_sz_122_4 rfl rfl (eqr_struct (xs := kR_ x.Num) (ys := [vi 0, vi 0, vi 0, vi 0]) k_st_122 k_ho_122 (pts_sc k_sc_3 rfl rfl (eqr_int k_int_3_i64) (pts_sc k_sc_3 rfl rfl (eqr_int k_int_3_i64) (pts_sc k_sc_3 rfl rfl (eqr_int k_int_3_i64) (pts_sc k_sc_3 rfl rfl (eqr_int k_int_3_i64) pts_nil))))) (pts_sc k_sc_3 rfl rfl (eqr_int k_int_3_i64) pts_nil)))) (rw_nil ?_)
  refine cw_cond (b := (((x.Num.A == 0) && ((x.Num.B == 0) && ((x.Num.C == 0) && ((x.Num.D == 0) && true)))) && ((x.Exp == 0) && true))) rfl (fun hb1 => ?_) (fun hb1 => ?_)
  ·skip
   have hF2 := ct hb hb1
   refine cw_exit rfl ?_
   refine cw_region ?_
   refine sQ 53 (Y_add (k := .i64) (a := (i : Int)) (b := 1) rfl (hf.get 15 4 rfl) rfl) ?_
   refine sQ 15 (Y_move (v := vi (i64.wrap ((i : Int) + 1))) rfl rfl) (rw_nil ?_)
   obtain rfl := some_inj hF2
   exact ⟨k_1, Nat.lt_succ_self _, i + 1, (FF.cons (hf.get 1 0 rfl) (FF.cons (hf.get 6 1 rfl) (FF.cons (hf.get 13 2 rfl) (FF.cons (hf.get 14 3 rfl) (FF.cons (congrArg (Value.int .i64) (wr_succ hlt1 hN)) FF.nil))))), (hS5.sel [0] rfl rfl), (by omega), hL1⟩
  ·skip
   have hF3 := cf' hb hb1
   refine cw_skip (cw_seq (cw_region ?_))
   refine sQ 24 (Y_loadA (B := aD b2) (i := 0) (cs := kD_ x) (vs := kD_ x) k_ag_124 k_sz_124_5 rfl rfl (hS5.cf (i := 1) rfl) rfl rfl) ?_
   obtain ⟨⟨r_2, r_3⟩, hc, hF3⟩ := bind_inv hF3
   refine sc 25 rfl rfl (Yc_func (g := 152) (vs := [gD_ x]) k_call_152 rfl (mc rfl mn) (c_impl_PhaseOf x _  (hS5.inn0 [] rfl) hc)) ?_
   rintro _ w_4 ⟨rfl, hd⟩
   have hS6 := hS5.out00 hd
   refine sQ 23 (Y_move (v := .tuple #[vi r_2, .bool r_3]) rfl rfl) ?_
   refine sQ 26 (Y_extract (v := vi r_2) rfl rfl rfl) ?_
   refine sQ 27 (Y_extract (v := .bool r_3) rfl rfl rfl) ?_
   refine sQ 9 (Y_assign (v := vi r_2) rfl rfl) ?_
   refine sQ 10 (Y_assign (v := .bool r_3) rfl rfl) (rw_nil (cw_seq (cw_seq (cw_region ?_))))
   refine sQ 28 (Y_move (v := .bool r_3) rfl rfl) ?_
   refine sQ 29 (Y_not (p := r_3) rfl rfl) (rw_nil ?_)
   refine cw_cond (b := (!r_3)) rfl (fun hb2 => ?_) (fun hb2 => ?_)
   ·skip
    have hF4 := ct hF3 hb2
    refine cw_seq (cw_region ?_)
    refine sQ 4 (Y_assign (v := .slice none 0 0) rfl rfl) ?_
    refine sQ 5 (Y_assign (v := .bool false) rfl rfl) (rw_nil (cw_ret ?_))
    have hS7 := hS6.addNil 133
    obtain rfl := some_inj hF4
    obtain rfl := some_inj hL1
    obtain ⟨rfl, rfl⟩ := pr2 (some_inj hF1)
    exact ret2 Try.results82 (v1 := .slice none 0 0) (resAt_tmp rfl) (v2 := .bool false) (resAt_tmp rfl) ⟨none, 0, rfl, (hS7.sN [2])⟩
   ·skip
    have hF5 := cf' hF3 hb2
    refine cw_skip (cw_seq ?_)
    obtain ⟨z1, hz1, hF6⟩ := bind_inv hF5
    refine cw_mid (fun f w => ∃ (out : List TTwoLevel) (B2 : Option Addr) (c2 : Nat), out = z1 ∧ FF f [(1, vi from_), (6, .slice B2 out.length c2), (9, vi r_2)] ∧ ST w0 [] w [⟨B2, 133, (out.flatMap eN2), c2 * 4⟩] [⟨B, (v_.Cells.flatMap eN0)⟩]) ?_ ?_
    ·skip
     refine cw_seq (cw_region ?_)
     refine sQ 30 (Y_move (v := vi (i : Int)) rfl rfl) ?_
     refine sQ 31 (Y_move (v := vi from_) rfl (hf.get 1 0 rfl)) ?_
     refine sQ 32 (Y_ne (k := .i64) (a := (i : Int)) (b := from_) rfl rfl rfl) (rw_nil ?_)
     refine cw_cond (b := ((i : Int) != from_)) rfl (fun hb3 => ?_) (fun hb3 => ?_)
     ·skip
      have hF7 := ct hz1 hb3
      refine cw_region ?_
      refine sQ 33 (Y_move (v := .slice (aD b1) 0 0) rfl (hf.get 6 1 rfl)) ?_
      refine sQ 34 (Y_move (v := vi (i : Int)) rfl rfl) ?_
      refine sQ 35 (Y_move (v := vi from_) rfl (hf.get 1 0 rfl)) ?_
      refine sQ 36 (Y_min2 (k := .i64) (a := (i : Int)) (b := from_) rfl rfl rfl) ?_
      refine sQ 37 (Y_move (v := vi (i : Int)) rfl rfl) ?_
      refine sQ 38 (Y_move (v := vi from_) rfl (hf.get 1 0 rfl)) ?_
      refine sQ 39 (Y_max2 (k := .i64) (a := (i : Int)) (b := from_) rfl rfl rfl) ?_
      refine sQ 40 (Y_buildS (zs := [vi 0, vi 0, vi 0, vi 0]) (vs := [(0, vi 2), (1, vi (if from_ < (i : Int) then from_ else (i : Int))), (2, vi (if (i : Int) < from_ then from_ else (i : Int))), (3, vi 0)]) (cs := [vi 2, vi (if from_ < (i : Int) then from_ else (i : Int)), vi (if (i : Int) < from_ then from_ else (i : Int)), vi 0]) k_pl_133 k_zero_133 rfl (mpc rfl (mpc rfl (mpc rfl (mpc rfl mpn)))) rfl) ?_
      refine sS 41 (Ys_bslice (s := 4) (len := 1) (vs := [(0, .agg #[vi 2, vi (if from_ < (i : Int) then from_ else (i : Int)), vi (if (i : Int) < from_ then from_ else (i : Int)), vi 0])]) (cs := [vi 2, vi (if from_ < (i : Int) then from_ else (i : Int)), vi (if (i : Int) < from_ then from_ else (i : Int)), vi 0]) (zs := [vi 0, vi 0, vi 0, vi 0]) (m := 4) hS6 k_sl_70_133 k_sz_133_4 k_zc_133 rfl (mpc rfl mpn) rfl rfl rfl (by kernel_rfl) (by kernel_rfl) rfl) ?_
      rintro _ w_5 ⟨b3, rfl, hS9⟩
      refine sS 42 (Ys_append (s := 4) (by' := 32) (i := 0) (nn := 0) (c := 0) (k := 1) (len := 1) (B := aD b1) (xs := ([(TTwoLevel.mk 2 (if from_ < (i : Int) then from_ else (i : Int)) (if (i : Int) < from_ then from_ else (i : Int)) 0)].flatMap eN2)) (cs' := ([(TTwoLevel.mk 2 (if from_ < (i : Int) then from_ else (i : Int)) (if (i : Int) < from_ then from_ else (i : Int)) 0)].flatMap eN2)) hS9 k_sl_70_133 k_sz_133_4 k_by_133_32 k_zero_133 rfl (by decide) rfl rfl rfl rfl (fm_lenn (l := []) enc_TwoLevel_len rfl) rfl (hS9.cf (i := 2) rfl) (fm_lenn (l := [(TTwoLevel.mk 2 (if from_ < (i : Int) then from_ else (i : Int)) (if (i : Int) < from_ then from_ else (i : Int)) 0)]) enc_TwoLevel_len rfl) (fm_one' (enc := eN2) enc_TwoLevel_one [(TTwoLevel.mk 2 (if from_ < (i : Int) then from_ else (i : Int)) (if (i : Int) < from_ then from_ else (i : Int)) 0)]) (by have := (show 0 + 1 ≤ 1099511627776 by decide); omega) (by have := (show 0 + 1 ≤ 1099511627776 by decide); simp only [maxLen]; omega) rfl rfl) ?_
      rintro _ w_6 ⟨B3, c3, rfl, hS10⟩
      refine sQ 6 (Y_assign (v := .slice B3 1 c3) rfl rfl) (rw_nil ?_)
      exact ⟨[(TTwoLevel.mk 2 (if from_ < (i : Int) then from_ else (i : Int)) (if (i : Int) < from_ then from_ else (i : Int)) 0)], B3, c3, (some_inj hF7), (FF.cons (hf.get 1 0 rfl) (FF.cons (sl_len (by simp) rfl) (FF.cons rfl FF.nil))), (hS10.sel [0] rfl rfl)⟩
     ·skip
      have hF8 := cf' hz1 hb3
      refine cw_skip ?_
      exact ⟨[], aD b1, 0, (some_inj hF8), (FF.cons (hf.get 1 0 rfl) (FF.cons (hf.get 6 1 rfl) (FF.cons rfl FF.nil))), (hS6.sel [0] rfl rfl)⟩
    rintro f w ⟨out, B2, c2, rfl, hf1, hS8⟩
    refine cw_seq ?_
    obtain ⟨z2, hz2, hF9⟩ := bind_inv hF6
    refine cw_mid (fun f w => ∃ (out1 : List TTwoLevel) (B4 : Option Addr) (c4 : Nat), out1 = z2 ∧ FF f [(6, .slice B4 out1.length c4)] ∧ ST w0 [] w [⟨B4, 133, (out1.flatMap eN2), c4 * 4⟩] [⟨B, (v_.Cells.flatMap eN0)⟩]) ?_ ?_
    ·skip
     refine cw_seq (cw_region ?_)
     refine sQ 43 (Y_move (v := vi r_2) rfl (hf1.get 9 2 rfl)) ?_
     refine sQ 44 (Y_gt (k := .i64) (a := r_2) (b := 0) rfl rfl rfl) (rw_nil ?_)
     refine cw_cond (b := (decide (0 < r_2))) rfl (fun hb4 => ?_) (fun hb4 => ?_)
     ·skip
      have hF10 := ct hz2 hb4
      refine cw_region ?_
      refine sQ 45 (Y_move (v := .slice B2 out.length c2) rfl (hf1.get 6 1 rfl)) ?_
      refine sQ 46 (Y_move (v := vi from_) rfl (hf1.get 1 0 rfl)) ?_
      refine sQ 47 (Y_move (v := vi r_2) rfl (hf1.get 9 2 rfl)) ?_
      refine sQ 48 (Y_sub (k := .i64) (a := 8) (b := r_2) rfl rfl rfl) ?_
      refine sQ 49 (Y_buildS (zs := [vi 0, vi 0, vi 0, vi 0]) (vs := [(0, vi 1), (1, vi from_), (2, vi 0), (3, vi (i64.wrap (8 - r_2)))]) (cs := [vi 1, vi from_, vi 0, vi (i64.wrap (8 - r_2))]) k_pl_133 k_zero_133 rfl (mpc rfl (mpc rfl (mpc rfl (mpc rfl mpn)))) rfl) ?_
      refine sS 50 (Ys_bslice (s := 4) (len := 1) (vs := [(0, .agg #[vi 1, vi from_, vi 0, vi (i64.wrap (8 - r_2))])]) (cs := [vi 1, vi from_, vi 0, vi (i64.wrap (8 - r_2))]) (zs := [vi 0, vi 0, vi 0, vi 0]) (m := 4) hS8 k_sl_70_133 k_sz_133_4 k_zc_133 rfl (mpc rfl mpn) rfl rfl rfl (by kernel_rfl) (by kernel_rfl) rfl) ?_
      rintro _ w_7 ⟨b4, rfl, hS12⟩
      obtain ⟨hap, hF10⟩ := chk_inv hF10
      refine sS 51 (Ys_append (s := 4) (by' := 32) (i := 0) (nn := out.length) (c := c2) (k := 1) (len := (out ++ [(TTwoLevel.mk 1 from_ 0 (i64.wrap (8 - r_2)))]).length) (B := B2) (xs := ([(TTwoLevel.mk 1 from_ 0 (i64.wrap (8 - r_2)))].flatMap eN2)) (cs' := ((out ++ [(TTwoLevel.mk 1 from_ 0 (i64.wrap (8 - r_2)))]).flatMap eN2)) hS12 k_sl_70_133 k_sz_133_4 k_by_133_32 k_zero_133 rfl (by decide) rfl rfl rfl rfl (fm_lenn (l := out) enc_TwoLevel_len rfl) rfl (hS12.cf (i := 1) rfl) (fm_lenn (l := [(TTwoLevel.mk 1 from_ 0 (i64.wrap (8 - r_2)))]) enc_TwoLevel_len rfl) (fm_one' (enc := eN2) enc_TwoLevel_one [(TTwoLevel.mk 1 from_ 0 (i64.wrap (8 - r_2)))]) (by have := hap; omega) (by have := hap; simp only [maxLen]; omega) (fm_app _ _) (app_len (l := out) (l' := [(TTwoLevel.mk 1 from_ 0 (i64.wrap (8 - r_2)))]) rfl rfl)) ?_
      rintro _ w_8 ⟨B5, c5, rfl, hS13⟩
      refine sQ 6 (Y_assign (v := .slice B5 ((out ++ [(TTwoLevel.mk 1 from_ 0 (i64.wrap (8 - r_2)))]).length) c5) rfl rfl) (rw_nil ?_)
      exact ⟨(out ++ [(TTwoLevel.mk 1 from_ 0 (i64.wrap (8 - r_2)))]), B5, c5, (some_inj hF10), (FF.cons rfl FF.nil), (hS13.sel [0] rfl rfl)⟩
     ·skip
      have hF11 := cf' hz2 hb4
      refine cw_skip ?_
      exact ⟨out, B2, c2, (some_inj hF11), (FF.cons (hf1.get 6 1 rfl) FF.nil), (hS8.sel [0] rfl rfl)⟩
    rintro f w ⟨out1, B4, c4, rfl, hf2, hS11⟩
    refine cw_seq (cw_region ?_)
    refine sQ 52 (Y_move (v := .slice B4 out1.length c4) rfl (hf2.get 6 0 rfl)) ?_
    refine sQ 4 (Y_assign (v := .slice B4 out1.length c4) rfl rfl) ?_
    refine sQ 5 (Y_assign (v := .bool true) rfl rfl) (rw_nil (cw_ret ?_))
    obtain rfl := some_inj hF9
    obtain rfl := some_inj hL1
    obtain ⟨rfl, rfl⟩ := pr2 (some_inj hF1)
    exact ret2 Try.results82 (v1 := .slice B4 out1.length c4) (resAt_tmp rfl) (v2 := .bool true) (resAt_tmp rfl) ⟨B4, c4, rfl, (hS11.sN [0])⟩
 ·skip
  obtain rfl : k_ = 0 := by have h := of_decide_eq_false hlt; omega
  refine cw_exit rfl ?_
  obtain rfl := some_inj hL
  refine cw_seq (cw_region ?_)
  refine sQ 4 (Y_assign (v := .slice none 0 0) rfl rfl) ?_
  refine sQ 5 (Y_assign (v := .bool false) rfl rfl) (rw_nil (cw_ret ?_))
  have hS14 := hS3.addNil 133
  obtain ⟨rfl, rfl⟩ := pr2 (some_inj hF1)
  exact ret2 Try.results82 (v1 := .slice none 0 0) (resAt_tmp rfl) (v2 := .bool false) (resAt_tmp rfl) ⟨none, 0, rfl, (hS14.sN [1])⟩

theorem c_impl_ResidueType (x : TRing)  (w0 : World)  (hS : ST w0 [] w0 [] []) {r_ : Int} {r_1 : Bool} (hF : F_impl_ResidueType x = some (r_, r_1)) :
  CV Try.prog 217 #[gR_ x] w0 (fun v w' => v = .tuple #[vi r_, .bool r_1] ∧ ST w0 [] w' [] []) := by
 unfold F_impl_ResidueType at hF
 refine cv_of_cw 25 Try.func217 rfl Try.ntmps217 rfl ?_
 refine cw_seq (cw_region ?_)
 refine sS 1 (Ys_box (T := 122) (v := gR_ x) (cs := kR_ x) (m := 4) hS rfl rfl rfl rfl) ?_
 rintro _ w_ ⟨b, rfl, hS1⟩
 refine sQ 2 (Y_assign (v := vi 0) rfl rfl) ?_
 refine sQ 3 (Y_assign (v := .bool false) rfl rfl) (rw_nil (cw_seq (cw_block (cw_seq (cw_region ?_)))))
 refine sQ 5 (Y_loadA (B := aD b) (i := 0) (cs := kR_ x) (vs := kR_ x) k_ag_122 k_sz_122_4 rfl rfl (hS1.cf (i := 0) rfl) rfl rfl) ?_
 obtain ⟨r_2, hc, hF⟩ := bind_inv hF
 refine sc 6 rfl rfl (Yc_func (g := 239) (vs := [gR_ x]) k_call_239 rfl (mc rfl mn) (c_impl_IsValidRing x _  (hS1.inn0 [] rfl) hc)) ?_
 rintro _ w_1 ⟨rfl, hd⟩
 have hS2 := hS1.out00 hd
 refine sQ 7 (Y_not (p := r_2) rfl rfl) ?_
 refine sQ 4 (Y_assign (v := .bool (!r_2)) rfl rfl) (rw_nil ?_)
 refine cw_cond (b := (!r_2)) rfl (fun hb => ?_) (fun hb => ?_)
 ·skip
  have hF1 := ct hF hb
  refine cw_seq (cw_region ?_)
  refine sQ 2 (Y_assign (v := vi 0) rfl rfl) ?_
  refine sQ 3 (Y_assign (v := .bool false) rfl rfl) (rw_nil (cw_ret ?_))
  obtain ⟨rfl, rfl⟩ := pr2 (some_inj hF1)
  exact ret2 Try.results217 (v1 := vi 0) (resAt_tmp rfl) (v2 := .bool false) (resAt_tmp rfl) ⟨rfl, (hS2.sN [])⟩
 ·skip
  have hF2 := cf' hF hb
  refine cw_seq (cw_region ?_)
  refine sQ 9 (Y_loadA (B := aD b) (i := 0) (cs := kR_ x) (vs := kR_ x) k_ag_122 k_sz_122_4 rfl rfl (hS2.cf (i := 0) rfl) rfl rfl) ?_
  obtain ⟨r_3, hc1, hF2⟩ := bind_inv hF2
  refine sc 10 rfl rfl (Yc_func (g := 240) (vs := [gR_ x]) k_call_240 rfl (mc rfl mn) (c_impl_isEven x _  (hS2.inn0 [] rfl) hc1)) ?_
  rintro _ w_2 ⟨rfl, hd1⟩
  have hS3 := hS2.out00 hd1
  refine sQ 8 (Y_assign (v := .bool r_3) rfl rfl) (rw_nil ?_)
  refine cw_cond (b := r_3) rfl (fun hb1 => ?_) (fun hb1 => ?_)
  ·skip
   have hF3 := ct hF2 hb1
   refine cw_seq (cw_region ?_)
   refine sQ 2 (Y_assign (v := vi 0) rfl rfl) ?_
   refine sQ 3 (Y_assign (v := .bool true) rfl rfl) (rw_nil (cw_ret ?_))
   obtain ⟨rfl, rfl⟩ := pr2 (some_inj hF3)
   exact ret2 Try.results217 (v1 := vi 0) (resAt_tmp rfl) (v2 := .bool true) (resAt_tmp rfl) ⟨rfl, (hS3.sN [])⟩
  ·skip
   have hF4 := cf' hF2 hb1
   refine cw_seq (cw_region ?_)
   refine sQ 12 (Y_fieldAddr (B := aD b) (i := 0) (s := 0) k_fd_122_0_0_3 k_sz_3_1 rfl rfl) ?_
   refine sQ 13 (Y_load1 (B := aD b) (i := 0) (cs := kR_ x) (v := vi x.A) k_sc_3 rfl rfl (hS3.cf (i := 0) rfl) rfl) ?_
   refine sQ 14 (Y_fieldAddr (B := aD b) (i := 0) (s := 0) k_fd_122_1_1_3 k_sz_3_1 rfl rfl) ?_
   refine sQ 15 (Y_load1 (B := aD b) (i := 1) (cs := kR_ x) (v := vi x.B) k_sc_3 rfl rfl (hS3.cf (i := 0) rfl) rfl) ?_
   refine sQ 16 (Y_add (k := .i64) (a := x.A) (b := x.B) rfl rfl rfl) ?_
   refine sQ 17 (Y_fieldAddr (B := aD b) (i := 0) (s := 0) k_fd_122_2_2_3 k_sz_3_1 rfl rfl) ?_
   refine sQ 18 (Y_load1 (B := aD b) (i := 2) (cs := kR_ x) (v := vi x.C) k_sc_3 rfl rfl (hS3.cf (i := 0) rfl) rfl) ?_
   refine sQ 19 (Y_add (k := .i64) (a := (i64.wrap (x.A + x.B))) (b := x.C) rfl rfl rfl) ?_
   refine sQ 20 (Y_fieldAddr (B := aD b) (i := 0) (s := 0) k_fd_122_3_3_3 k_sz_3_1 rfl rfl) ?_
   refine sQ 21 (Y_load1 (B := aD b) (i := 3) (cs := kR_ x) (v := vi x.D) k_sc_3 rfl rfl (hS3.cf (i := 0) rfl) rfl) ?_
   refine sQ 22 (Y_add (k := .i64) (a := (i64.wrap ((i64.wrap (x.A + x.B)) + x.C))) (b := x.D) rfl rfl rfl) ?_
   refine sQ 23 (Y_rem (k := .i64) (a := (i64.wrap ((i64.wrap ((i64.wrap (x.A + x.B)) + x.C)) + x.D))) (b := 2) rfl rfl rfl (by decide)) ?_
   refine sQ 24 (Y_ne (k := .i64) (a := (Int.tmod (i64.wrap ((i64.wrap ((i64.wrap (x.A + x.B)) + x.C)) + x.D)) 2)) (b := 0) rfl rfl rfl) ?_
   refine sQ 11 (Y_assign (v := .bool ((Int.tmod (i64.wrap ((i64.wrap ((i64.wrap (x.A + x.B)) + x.C)) + x.D)) 2) != 0)) rfl rfl) (rw_nil ?_)
   refine cw_cond (b := ((Int.tmod (i64.wrap ((i64.wrap ((i64.wrap (x.A + x.B)) + x.C)) + x.D)) 2) != 0)) rfl (fun hb2 => ?_) (fun hb2 => ?_)
   ·skip
    have hF5 := ct hF4 hb2
    refine cw_seq (cw_region ?_)
    refine sQ 2 (Y_assign (v := vi 1) rfl rfl) ?_
    refine sQ 3 (Y_assign (v := .bool true) rfl rfl) (rw_nil (cw_ret ?_))
    obtain ⟨rfl, rfl⟩ := pr2 (some_inj hF5)
    exact ret2 Try.results217 (v1 := vi 1) (resAt_tmp rfl) (v2 := .bool true) (resAt_tmp rfl) ⟨rfl, (hS3.sN [])⟩
   ·skip
    have hF6 := cf' hF4 hb2
    refine cw_skip (cw_seq (cw_region ?_))
    refine sQ 2 (Y_assign (v := vi 2) rfl rfl) ?_
    refine sQ 3 (Y_assign (v := .bool true) rfl rfl) (rw_nil (cw_ret ?_))
    obtain ⟨rfl, rfl⟩ := pr2 (some_inj hF6)
    exact ret2 Try.results217 (v1 := vi 2) (resAt_tmp rfl) (v2 := .bool true) (resAt_tmp rfl) ⟨rfl, (hS3.sN [])⟩
end Go.VK
