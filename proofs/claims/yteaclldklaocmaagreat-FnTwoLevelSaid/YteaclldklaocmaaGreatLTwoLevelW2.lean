/- Walks: each Go function returns what its Lean function says. By program. -/
import Derived.Test.YteaclldklaocmaaGreatLTwoLevelFa
import Derived.Test.YteaclldklaocmaaGreatLTwoLevelW1
set_option linter.unusedVariables false
set_option maxRecDepth 100000
set_option maxHeartbeats 4000000
namespace Go.VK
open Go.RowKit
open Go.Proofs
open Go.IntKind
attribute [local irreducible] CW RW RA CV Y Yw Yc Ys RetOf
attribute [local irreducible] F_spec_l1Cur_pick F_spec_l1Cur_among F_spec_l1Cur_one F_spec_l1Cur_level F_impl_isLevelDim F_impl_IsValidTwoLevel F_spec_l1In F_spec_l11Dim F_spec_l11Valid F_impl_IdentityMatrix F_impl_TwoLevelMatrix F_impl_MulMatrix F_impl_ComposeTwoLevel F_spec_l1Has F_spec_l3Dim F_spec_l1Turn F_spec_l2Power F_spec_l3Unit F_spec_IdentityMatrix F_spec_EqualMatrices F_spec_l1Even F_spec_l1Root F_spec_l1Half F_spec_l2Low F_spec_l1Cur_ring F_spec_l1Cur_dyadic F_spec_l1Cur_matrix F_spec_l1Cur_coef F_spec_l1Cur_anyRing F_spec_l1All F_spec_l1Good F_spec_l1Cur_anyDyadic F_spec_l1Cur_anyMatrix F_spec_l2C_ring F_spec_l1Mul F_spec_l2C_mul F_spec_l1Add F_spec_l2C_add F_spec_l1Neg F_spec_l2Neg F_spec_l2C_level F_spec_ComposeTwoLevel F_spec_l1Cur_levels
theorem c_impl_ComposeTwoLevel (n : Int) (l : List TTwoLevel) (B : Option Addr) (c n1 : Nat) (w0 : World) (hn : l.length = n1) (hS : ST w0 [] w0 [] [⟨B, (l.flatMap eN2)⟩]) {r_ : TMatrix} {r_1 : Bool} (hF : F_impl_ComposeTwoLevel n l = some (r_, r_1)) :
  CV Tryz.prog 8 #[vi n, .slice B n1 c] w0 (fun v w' => ∃ (B1 : Option Addr) (c1 : Nat), v = .tuple #[gM_ r_ B1 c1, .bool r_1] ∧ ST w0 [] w' [⟨B1, 51, (r_.Cells.flatMap eN0), c1 * 5⟩] []) := by
 subst hn
 unfold F_impl_ComposeTwoLevel at hF
 refine cv_of_cw 65 Tryz.func8 rfl Tryz.ntmps8 rfl ?_
 refine cq (cr ?_)
 refine sS 4 (yN kN_ 3 hS K10) ?_
 rintro _ w_ ⟨b, rfl, hS1⟩
 refine sQ 5 (yg (.bool false)) (rn (cq (cq (cr ?_))))
 refine sQ 13 (ym (vi n)) ?_
 obtain ⟨r_2, hc, hF⟩ := bI hF
 refine sc 14 rfl rfl (yC [vi n] K106 (c_impl_isLevelDim n _  (hS1.inn0 [] rfl) hc)) ?_
 rintro _ w_1 ⟨rfl, hd⟩
 have hS2 := hS1.out00 hd
 refine sQ 15 (Y_not (p := r_2) rfl rfl) <| sQ 16 (ym (.bool (!r_2))) ?_
 refine sgq 17 (B := (!(!r_2))) (v := .slice B l.length c) rfl rfl (uF_ 16) (fun hg => (ym (.slice B l.length c))) ?_
 refine sgq 18 (B := (!(!r_2))) (v := vi (l.length : Int)) rfl rfl (uF_ 16) (fun hg1 => (Y_len (B := B) (m := l.length) (c := c) K28 rfl (gv_of (v := .slice B l.length c) hg1))) ?_
 refine sgq 19 (B := (!(!r_2))) (v := .bool (decide (500 < (l.length : Int)))) rfl rfl (uF_ 16) (fun hg2 => (Y_gt (k := .i64) (a := (l.length : Int)) (b := 500) rfl (gv_of (v := vi (l.length : Int)) hg2) rfl)) ?_
 refine sQ 20 (Y_or (b := (!r_2)) (z := (decide (500 < (l.length : Int)))) rfl rfl rfl rfl) (rn ?_)
 refine cw_cond (b := ((!r_2) || (decide (500 < (l.length : Int))))) rfl (fun hb => ?_) (fun hb => ?_)
 ·skip
  have hF1 := ct hF hb
  refine cq (cr ?_)
  refine sQ 21 (Y_buildS (zs := kN_) (vs := []) (cs := kN_) K32 K10 rfl mpn rfl) ?_
  refine s0 (yT 0 3 (aD b) 34 gN_ kN_ 0 hS2 K4) ?_
  rintro _ w_2 ⟨rfl, hS3⟩
  refine sQ 5 (yg (.bool false)) (rn (ct_ ?_))
  have hS4 := hS3.addNil 51
  obtain ⟨rfl, rfl⟩ := pr2 (sI hF1)
  exact ret2 Tryz.results8 (v1 := gN_) (resAt_cellA (B := aD b) (i := 0) (cs := kN_) (vs := kN_) rfl K8 K4 (hS4.c 0) rfl rfl) (v2 := .bool false) (resAt_tmp rfl) ⟨none, 0, rfl, (hS4.sN [1])⟩
 ·skip
  have hF2 := cf' hF hb
  refine cw_skip (cq (cr ?_))
  refine sQ 23 (ym (vi n)) ?_
  obtain ⟨⟨r_3, r_4⟩, hc1, hF2⟩ := bI hF2
  refine sc 24 rfl rfl (yC [vi n] k_call_21 (c_impl_IdentityMatrix n _  (hS2.inn0 [] rfl) hc1)) ?_
  rintro _ w_3 ⟨B2, c2, rfl, hd1⟩
  have hS5 := hS2.out0 hd1
  refine sQ 22 (ym (.tuple #[gM_ r_3 B2 c2, .bool r_4])) <| sQ 25 (ye (gM_ r_3 B2 c2)) <| sQ 26 (ye (.bool r_4)) ?_
  refine sS 6 (yN kN_ 3 hS5 K10) ?_
  rintro _ w_4 ⟨b1, rfl, hS6⟩
  refine s0 (yT 2 3 (aD b1) 34 (gM_ r_3 B2 c2) (kM_ r_3 B2 c2) 0 hS6 K4) ?_
  rintro _ w_5 ⟨rfl, hS7⟩
  refine sQ 7 (yg (.bool r_4)) (rn (cq (cq (cr ?_))))
  refine sQ 27 (ym (.slice B l.length c)) <| sQ 28 (Y_len (B := B) (m := l.length) (c := c) K28 rfl rfl) <| sQ 29 (ym (vi 0)) (rn ?_)
  obtain ⟨hN, hF2⟩ := chk_inv hF2
  obtain ⟨z, hz, hF3⟩ := bI hF2
  refine cw_block ?_
  refine cw_loop (fun k f w => ∃ (i : Nat), FF f [(0, vi n), (1, .slice B l.length c), (4, pt (aD b) 0), (6, pt (aD b1) 0), (7, .bool r_4), (27, .slice B l.length c), (28, vi (l.length : Int)), (29, vi (i : Int))] ∧ ST w0 [] w [⟨aD b, 34, kN_, 3⟩, ⟨aD b1, 34, kM_ r_3 B2 c2, 3⟩, ⟨B2, 51, (r_3.Cells.flatMap eN0), c2 * 5⟩] [⟨B, (l.flatMap eN2)⟩] ∧ i + k = l.length ∧ forX (F_impl_ComposeTwoLevel_l1 l n) k i () = some z) l.length ⟨0, (fc rfl (fc rfl (fc rfl (fc rfl (fc rfl (fc rfl (fc rfl (fc rfl fn_)))))))), (hS7.sel [0, 2, 1] rfl rfl), Nat.zero_add _, hz⟩ ?_
  rintro k_ f w ⟨i, hf, hS8, hik, hL⟩
  refine cq (cr ?_)
  refine sQ 30 (yL (i : Int) (l.length : Int) rfl (hf.g 29 7) (hf.g 28 6)) (rn (cq ?_))
  refine cw_cond (b := (decide ((i : Int) < (l.length : Int)))) rfl (fun hlt => ?_) (fun hlt => ?_)
  ·skip
   have hlt1 : i < l.length := by have h := of_decide_eq_true hlt; omega
   obtain ⟨K9, rfl⟩ : ∃ k2, k_ = k2 + 1 := ⟨k_ - 1, by omega⟩
   obtain ⟨y, hb1, hL1⟩ := forX_go hL
   unfold F_impl_ComposeTwoLevel_l1 at hb1
   refine cw_skip (cq (cw_block (cq (cr ?_))))
   obtain ⟨x, hx, hb1⟩ := bI hb1
   refine sQ 31 (Y_index (B := B) (m := l.length) (c := c) (k := .i64) (i := (i : Int)) K28 K11 rfl (hf.g 27 5) (hf.g 29 7) (gi_isSome enc_TwoLevel_len rfl (hS8.rf (i := 0) rfl) hx) (getI_nn hx) (getI_ltI hx rfl)) <| sQ 32 (ya B ((i : Int).toNat * 4) (l.flatMap eN2) [vi x.Kind, vi x.I, vi x.J, vi x.M_] K26 K11 (hS8.rf (i := 0) rfl) rfl rfl (enc_TwoLevel_len x) (gi_seg enc_TwoLevel_len hx)) ?_
   refine sS 9 (yN [vi 0, vi 0, vi 0, vi 0] 4 hS8 K30) ?_
   rintro _ w_6 ⟨b2, rfl, hS9⟩
   refine s0 (yT 3 4 (aD b2) 25 (.agg #[vi x.Kind, vi x.I, vi x.J, vi x.M_]) [vi x.Kind, vi x.I, vi x.J, vi x.M_] 0 hS9 K11) ?_
   rintro _ w_7 ⟨rfl, hS10⟩
   refine rn (cq (cr ?_))
   refine sQ 33 (ym (vi n) rfl (hf.g 0 0)) <| sQ 34 (yb (aD b2) 0 [vi x.Kind, vi x.I, vi x.J, vi x.M_] K26 K11 (hS10.c 3)) ?_
   obtain ⟨r_5, hc2, hb1⟩ := bI hb1
   refine sc 35 rfl rfl (yC [vi n, .agg #[vi x.Kind, vi x.I, vi x.J, vi x.M_]] K107 (c_impl_IsValidTwoLevel n x _  (hS10.inn0 [] rfl) hc2)) ?_
   rintro _ w_8 ⟨rfl, hd2⟩
   have hS11 := hS10.out00 hd2
   refine sQ 36 (Y_not (p := r_5) rfl rfl) (rn ?_)
   refine cw_cond (b := (!r_5)) rfl (fun hb2 => ?_) (fun hb2 => ?_)
   ·skip
    have hF4 := ct hb1 hb2
    refine cq (cr ?_)
    refine sQ 37 (Y_buildS (zs := kN_) (vs := []) (cs := kN_) K32 K10 rfl mpn rfl) ?_
    refine s0 (yT 0 3 (aD b) 34 gN_ kN_ 0 hS11 K4 rfl (hf.g 4 2)) ?_
    rintro _ w_9 ⟨rfl, hS12⟩
    refine sQ 5 (yg (.bool false)) (rn (ct_ ?_))
    have hS13 := hS12.addNil 51
    obtain rfl := sI hF4
    obtain rfl := sI hL1
    obtain ⟨rfl, rfl⟩ := pr2 (sI hF3)
    exact ret2 Tryz.results8 (v1 := gN_) (resAt_cellA (B := aD b) (i := 0) (cs := kN_) (vs := kN_) (hf.g 4 2) K8 K4 (hS13.c 0) rfl rfl) (v2 := .bool false) (resAt_tmp rfl) ⟨none, 0, rfl, (hS13.sN [4])⟩
   ·skip
    have hF5 := cf' hb1 hb2
    refine cw_skip (cr ?_)
    refine sQ 38 (yP (i : Int) 1 rfl (hf.g 29 7)) <| sQ 29 (ym (vi (i64.wrap ((i : Int) + 1)))) (rn ?_)
    obtain rfl := sI hF5
    exact ⟨K9, Nat.lt_succ_self _, i + 1, (fc (hf.g 0 0) (fc (hf.g 1 1) (fc (hf.g 4 2) (fc (hf.g 6 3) (fc (hf.g 7 4) (fc (hf.g 27 5) (fc (hf.g 28 6) (fc (congrArg (Value.int .i64) (wr_succ hlt1 hN)) fn_)))))))), (hS11.sel [0, 1, 2] rfl rfl), (by omega), hL1⟩
  ·skip
   obtain rfl : k_ = 0 := by have h := of_decide_eq_false hlt; omega
   refine cw_exit rfl ?_
   obtain rfl := sI hL
   refine cq (cq (cr ?_))
   refine sQ 10 (yg (vi 0)) (rn ?_)
   obtain ⟨z1, hz1, hF6⟩ := bI hF3
   refine cw_block ?_
   refine cw_loop (fun k f w => ∃ (Rows : Int) (Cols : Int) (Cells : List TDyadic) (ok : Bool) (i1 : Int) (B3 : Option Addr) (c3 : Nat), FF f [(0, vi n), (1, .slice B l.length c), (4, pt (aD b) 0), (6, pt (aD b1) 0), (7, .bool ok), (10, vi i1)] ∧ ST w0 [] w [⟨aD b, 34, kN_, 3⟩, ⟨aD b1, 34, [vi Rows, vi Cols, .slice B3 Cells.length c3], 3⟩, ⟨B3, 51, (Cells.flatMap eN0), c3 * 5⟩] [⟨B, (l.flatMap eN2)⟩] ∧ whX (F_impl_ComposeTwoLevel_l2 l n) k (Rows, Cols, Cells, ok, i1) = some z1) fuel ⟨r_3.Rows, r_3.Cols, r_3.Cells, r_4, 0, B2, c2, (fc (hf.g 0 0) (fc (hf.g 1 1) (fc (hf.g 4 2) (fc (hf.g 6 3) (fc (hf.g 7 4) (fc rfl fn_)))))), (hS8.sel [0, 1, 2] rfl rfl), hz1⟩ ?_
   rintro K22 f w ⟨Rows, Cols, Cells, ok, i1, B3, c3, hf1, hS14, hL2⟩
   obtain ⟨K43, y1, rfl, hb3, hL3⟩ := whX_go hL2
   unfold F_impl_ComposeTwoLevel_l2 at hb3
   refine cq (cq (cr ?_))
   refine sQ 39 (ym (vi i1) rfl (hf1.g 10 5)) <| sQ 40 (ym (.slice B l.length c) rfl (hf1.g 1 1)) <| sQ 41 (Y_len (B := B) (m := l.length) (c := c) K28 rfl rfl) <| sQ 42 (yL i1 (l.length : Int)) <| sQ 43 (ym (.bool (decide (i1 < (l.length : Int))))) ?_
   refine sgq 44 (B := (decide (i1 < (l.length : Int)))) (v := .bool ok) rfl rfl (uT_ 43) (fun hg3 => (ym (.bool ok) rfl (hf1.g 7 4))) ?_
   refine sQ 45 (Y_and (b := (decide (i1 < (l.length : Int)))) (z := ok) rfl rfl rfl rfl) (rn ?_)
   refine cw_cond (b := ((decide (i1 < (l.length : Int))) && ok)) rfl (fun hb4 => ?_) (fun hb4 => ?_)
   ·skip
    have hF7 := ct hb3 hb4
    refine cw_skip (cq (cw_block (cq (cr ?_))))
    refine sQ 49 (ym (vi n) rfl (hf1.g 0 0)) <| sQ 50 (ym (.slice B l.length c) rfl (hf1.g 1 1)) <| sQ 51 (ym (vi i1) rfl (hf1.g 10 5)) ?_
    obtain ⟨x1, hx1, hF7⟩ := bI hF7
    refine sQ 52 (Y_index (B := B) (m := l.length) (c := c) (k := .i64) (i := i1) K28 K11 rfl rfl rfl (gi_isSome enc_TwoLevel_len rfl (hS14.rf (i := 0) rfl) hx1) (getI_nn hx1) (getI_ltI hx1 rfl)) <| sQ 53 (ya B (i1.toNat * 4) (l.flatMap eN2) [vi x1.Kind, vi x1.I, vi x1.J, vi x1.M_] K26 K11 (hS14.rf (i := 0) rfl) rfl rfl (enc_TwoLevel_len x1) (gi_seg enc_TwoLevel_len hx1)) ?_
    obtain ⟨⟨r_6, r_7⟩, hc3, hF7⟩ := bI hF7
    refine sc 54 rfl rfl (yC [vi n, .agg #[vi x1.Kind, vi x1.I, vi x1.J, vi x1.M_]] k_call_22 (c_impl_TwoLevelMatrix n x1 _  (hS14.inn0 [] rfl) hc3)) ?_
    rintro _ w_10 ⟨B4, c4, rfl, hd3⟩
    have hS15 := hS14.out0 hd3
    refine sQ 48 (ym (.tuple #[gM_ r_6 B4 c4, .bool r_7])) <| sQ 55 (ye (gM_ r_6 B4 c4)) <| sQ 56 (ye (.bool r_7)) ?_
    refine sS 11 (yN kN_ 3 hS15 K10) ?_
    rintro _ w_11 ⟨b3, rfl, hS16⟩
    refine s0 (yT 4 3 (aD b3) 34 (gM_ r_6 B4 c4) (kM_ r_6 B4 c4) 0 hS16 K4) ?_
    rintro _ w_12 ⟨rfl, hS17⟩
    refine sQ 12 (yg (.bool r_7)) (rn (cr ?_))
    refine sQ 58 (yb (aD b1) 0 [vi Rows, vi Cols, .slice B3 Cells.length c3] K8 K4 (hS17.c 1) rfl (hf1.g 6 3)) <| sQ 59 (yb (aD b3) 0 (kM_ r_6 B4 c4) K8 K4 (hS17.c 4)) ?_
    obtain ⟨⟨r_8, r_9⟩, hc4, hF7⟩ := bI hF7
    refine sc 60 rfl rfl (yC [.agg #[vi Rows, vi Cols, .slice B3 Cells.length c3], gM_ r_6 B4 c4] k_call_23 (c_impl_MulMatrix (TMatrix.mk Rows Cols Cells) r_6 B3 c3 Cells.length B4 c4 r_6.Cells.length _ rfl rfl (hS17.inn0 [(false, 2), (false, 3)] rfl) hc4)) ?_
    rintro _ w_13 ⟨B5, c5, rfl, hd4⟩
    have hS18 := hS17.out0 hd4
    refine sQ 57 (ym (.tuple #[gM_ r_8 B5 c5, .bool r_9])) <| sQ 61 (ye (gM_ r_8 B5 c5)) <| sQ 62 (ye (.bool r_9)) ?_
    refine s0 (yT 1 3 (aD b1) 34 (gM_ r_8 B5 c5) (kM_ r_8 B5 c5) 0 hS18 K4 rfl (hf1.g 6 3)) ?_
    rintro _ w_14 ⟨rfl, hS19⟩
    refine sQ 7 (yg (.bool r_9)) (rn (cr ?_))
    refine sQ 46 (ym (vi i1) rfl (hf1.g 10 5)) <| sQ 47 (yP i1 1) <| sQ 10 (yg (vi (i64.wrap (i1 + 1)))) (rn ?_)
    obtain rfl := sI hF7
    exact ⟨K43, Nat.lt_succ_self _, r_8.Rows, r_8.Cols, r_8.Cells, r_9, (i64.wrap (i1 + 1)), B5, c5, (fc (hf1.g 0 0) (fc (hf1.g 1 1) (fc (hf1.g 4 2) (fc (hf1.g 6 3) (fc rfl (fc rfl fn_)))))), (hS19.sel [0, 1, 5] rfl rfl), hL3⟩
   ·skip
    have hF8 := cf' hb3 hb4
    refine cw_exit rfl ?_
    obtain rfl := sI hF8
    obtain rfl := sI hL3
    refine cq (cr ?_)
    refine sQ 63 (yb (aD b1) 0 [vi Rows, vi Cols, .slice B3 Cells.length c3] K8 K4 (hS14.c 1) rfl (hf1.g 6 3)) <| sQ 64 (ym (.bool ok) rfl (hf1.g 7 4)) ?_
    refine s0 (yT 0 3 (aD b) 34 (.agg #[vi Rows, vi Cols, .slice B3 Cells.length c3]) [vi Rows, vi Cols, .slice B3 Cells.length c3] 0 hS14 K4 rfl (hf1.g 4 2)) ?_
    rintro _ w_15 ⟨rfl, hS20⟩
    refine sQ 5 (yg (.bool ok)) (rn (ct_ ?_))
    obtain ⟨rfl, rfl⟩ := pr2 (sI hF6)
    exact ret2 Tryz.results8 (v1 := .agg #[vi Rows, vi Cols, .slice B3 Cells.length c3]) (resAt_cellA (B := aD b) (i := 0) (cs := [vi Rows, vi Cols, .slice B3 Cells.length c3]) (vs := [vi Rows, vi Cols, .slice B3 Cells.length c3]) (hf1.g 4 2) K8 K4 (hS20.c 0) rfl rfl) (v2 := .bool ok) (resAt_tmp rfl) ⟨B3, c3, rfl, (hS20.sN [2])⟩

theorem c_spec_l1Has (l : List Int) (n1 : Int) (B : Option Addr) (c n : Nat) (w0 : World) (hn : l.length = n) (hS : ST w0 [] w0 [] [⟨B, (l.flatMap encI)⟩]) {r_ : Bool} (hF : F_spec_l1Has l n1 = some r_) :
  CV Tryz.prog 55 #[.slice B n c, vi n1] w0 (fun v w' => v = .bool r_ ∧ ST w0 [] w' [] []) := by
 subst hn
 unfold F_spec_l1Has at hF
 refine cv_of_cw 17 Tryz.func55 rfl Tryz.ntmps55 rfl ?_
 refine cq (cr ?_)
 refine sQ 4 (yg (.bool false)) (rn (cq (cq (cr ?_))))
 refine sQ 7 (ym (.slice B l.length c)) <| sQ 8 (Y_len (B := B) (m := l.length) (c := c) K27 rfl rfl) <| sQ 9 (ym (vi 0)) (rn ?_)
 obtain ⟨hN, hF⟩ := chk_inv hF
 obtain ⟨z, hz, hF1⟩ := bI hF
 refine cw_block ?_
 refine cw_loop (fun k f w => ∃ (i : Nat), FF f [(1, vi n1), (7, .slice B l.length c), (8, vi (l.length : Int)), (9, vi (i : Int))] ∧ ST w0 [] w [] [⟨B, (l.flatMap encI)⟩] ∧ i + k = l.length ∧ forX (F_spec_l1Has_l1 l n1) k i () = some z) l.length ⟨0, (fc rfl (fc rfl (fc rfl (fc rfl fn_)))), (hS.sel [] rfl rfl), Nat.zero_add _, hz⟩ ?_
 rintro k_ f w ⟨i, hf, hS1, hik, hL⟩
 refine cq (cr ?_)
 refine sQ 10 (yL (i : Int) (l.length : Int) rfl (hf.g 9 3) (hf.g 8 2)) (rn (cq ?_))
 refine cw_cond (b := (decide ((i : Int) < (l.length : Int)))) rfl (fun hlt => ?_) (fun hlt => ?_)
 ·skip
  have hlt1 : i < l.length := by have h := of_decide_eq_true hlt; omega
  obtain ⟨K9, rfl⟩ : ∃ k2, k_ = k2 + 1 := ⟨k_ - 1, by omega⟩
  obtain ⟨y, hb, hL1⟩ := forX_go hL
  unfold F_spec_l1Has_l1 at hb
  refine cw_skip (cq (cw_block (cq (cr ?_))))
  obtain ⟨x, hx, hb⟩ := bI hb
  refine sQ 11 (Y_index (B := B) (m := l.length) (c := c) (k := .i64) (i := (i : Int)) K27 K0 rfl (hf.g 7 1) (hf.g 9 3) (gi_isSome encI_len rfl (hS1.rf (i := 0) rfl) hx) (getI_nn hx) (getI_ltI hx rfl)) <| sQ 12 (yl B ((i : Int).toNat * 1) (l.flatMap encI) (vi x) K1 (hS1.rf (i := 0) rfl) rfl rfl (gi_at0 encI_len hx rfl)) <| sQ 6 (yg (vi x)) (rn (cq (cr ?_)))
  refine sQ 13 (ym (vi x)) <| sQ 14 (ym (vi n1) rfl (hf.g 1 0)) <| sQ 15 (yE x n1) (rn ?_)
  refine cw_cond (b := (x == n1)) rfl (fun hb1 => ?_) (fun hb1 => ?_)
  ·skip
   have hF2 := ct hb hb1
   refine cq (cr ?_)
   refine sQ 4 (yg (.bool true)) (rn (ct_ ?_))
   obtain rfl := sI hF2
   obtain rfl := sI hL1
   obtain rfl := sI hF1
   exact ret1 Tryz.results55 (v1 := .bool true) (resAt_tmp rfl) ⟨rfl, (hS1.sN [])⟩
  ·skip
   have hF3 := cf' hb hb1
   refine cw_skip (cr ?_)
   refine sQ 16 (yP (i : Int) 1 rfl (hf.g 9 3)) <| sQ 9 (ym (vi (i64.wrap ((i : Int) + 1)))) (rn ?_)
   obtain rfl := sI hF3
   exact ⟨K9, Nat.lt_succ_self _, i + 1, (fc (hf.g 1 0) (fc (hf.g 7 1) (fc (hf.g 8 2) (fc (congrArg (Value.int .i64) (wr_succ hlt1 hN)) fn_)))), (hS1.sel [] rfl rfl), (by omega), hL1⟩
 ·skip
  obtain rfl : k_ = 0 := by have h := of_decide_eq_false hlt; omega
  refine cw_exit rfl ?_
  obtain rfl := sI hL
  refine cq (cr ?_)
  refine sQ 4 (yg (.bool false)) (rn (ct_ ?_))
  obtain rfl := sI hF1
  exact ret1 Tryz.results55 (v1 := .bool false) (resAt_tmp rfl) ⟨rfl, (hS1.sN [])⟩

theorem c_spec_l3Dim (n : Int)  (w0 : World)  (hS : ST w0 [] w0 [] []) {r_ : Bool} (hF : F_spec_l3Dim n = some r_) :
  CV Tryz.prog 24 #[vi n] w0 (fun v w' => v = .bool r_ ∧ ST w0 [] w' [] []) := by
 unfold F_spec_l3Dim at hF
 refine cv_of_cw 6 Tryz.func24 rfl Tryz.ntmps24 rfl ?_
 refine cq (cr ?_)
 refine sQ 2 (yg (.bool false)) (rn (cq (cr ?_)))
 refine sS 3 (Ys_bslice (s := 1) (len := 6) (vs := [(0, vi 1), (1, vi 2), (2, vi 4), (3, vi 8), (4, vi 16), (5, vi 32)]) (cs := [vi 1, vi 2, vi 4, vi 8, vi 16, vi 32]) (zs := [vi 0, vi 0, vi 0, vi 0, vi 0, vi 0]) (m := 6) hS K27 K0 K38 rfl (mpc rfl (mpc rfl (mpc rfl (mpc rfl (mpc rfl (mpc rfl mpn)))))) rfl rfl rfl (by kernel_rfl) (by kernel_rfl) rfl) ?_
 rintro _ w_ ⟨b, rfl, hS1⟩
 refine sQ 4 (ym (vi n)) ?_
 obtain ⟨r_1, hc, hF⟩ := bI hF
 refine sc 5 rfl rfl (yC [.slice (aD b) 6 6, vi n] k_call_55 (c_spec_l1Has [1, 2, 4, 8, 16, 32] n (aD b) 6 6 _ rfl (hS1.inn0 [(false, 0)] rfl) hc)) ?_
 rintro _ w_1 ⟨rfl, hd⟩
 have hS2 := hS1.out00 hd
 refine sQ 2 (yg (.bool r_1)) (rn (ct_ ?_))
 obtain rfl := sI hF
 exact ret1 Tryz.results24 (v1 := .bool r_1) (resAt_tmp rfl) ⟨rfl, (hS2.sN [])⟩

theorem c_spec_l1Turn (x : TRing) (k_ : Int)  (w0 : World)  (hS : ST w0 [] w0 [] []) {r_ : TRing} (hF : F_spec_l1Turn x k_ = some r_) :
  CV Tryz.prog 88 #[gR_ x, vi k_] w0 (fun v w' => v = (gR_ r_) ∧ ST w0 [] w' [] []) := by
 unfold F_spec_l1Turn at hF
 refine cv_of_cw 24 Tryz.func88 rfl Tryz.ntmps88 rfl ?_
 refine cq (cr ?_)
 refine sS 2 (yB 49 (gR_ x) (kR_ x) 4 hS) ?_
 rintro _ w_ ⟨b, rfl, hS1⟩
 refine sS 4 (yN [vi 0, vi 0, vi 0, vi 0] 4 hS1 K14) ?_
 rintro _ w_1 ⟨b1, rfl, hS2⟩
 refine rn (cq (cq (cr ?_)))
 refine sQ 5 (ym (vi k_)) <| sQ 6 (Y_rem (k := .i64) (a := k_) (b := 8) rfl rfl rfl (by decide)) <| sQ 7 (yP (Int.tmod k_ 8) 8) <| sQ 8 (Y_rem (k := .i64) (a := (i64.wrap ((Int.tmod k_ 8) + 8))) (b := 8) rfl rfl rfl (by decide)) <| sQ 1 (yg (vi (Int.tmod (i64.wrap ((Int.tmod k_ 8) + 8)) 8))) (rn ?_)
 obtain ⟨z, hz, hF1⟩ := bI hF
 refine cw_block ?_
 refine cw_loop (fun k f w => ∃ (K9 : Int) (A : Int) (B : Int) (C : Int) (D : Int), FF f [(1, vi K9), (2, pt (aD b) 0), (4, pt (aD b1) 0)] ∧ ST w0 [] w [⟨aD b, 49, [vi A, vi B, vi C, vi D], 4⟩, ⟨aD b1, 49, [vi 0, vi 0, vi 0, vi 0], 4⟩] [] ∧ whX F_spec_l1Turn_l1 k (K9, A, B, C, D) = some z) fuel ⟨(Int.tmod (i64.wrap ((Int.tmod k_ 8) + 8)) 8), x.A, x.B, x.C, x.D, (fc rfl (fc rfl (fc rfl fn_))), (hS2.sel [0, 1] rfl rfl), hz⟩ ?_
 rintro K22 f w ⟨K9, A, B, C, D, hf, hS3, hL⟩
 obtain ⟨K43, y, rfl, hb, hL1⟩ := whX_go hL
 unfold F_spec_l1Turn_l1 at hb
 refine cq (cq (cr ?_))
 refine sQ 9 (ym (vi K9) rfl (hf.g 1 0)) <| sQ 10 (Y_gt (k := .i64) (a := K9) (b := 0) rfl rfl rfl) (rn ?_)
 refine cw_cond (b := (decide (0 < K9))) rfl (fun hb1 => ?_) (fun hb1 => ?_)
 ·skip
  have hF2 := ct hb hb1
  refine cw_skip (cq (cw_block (cr ?_)))
  refine sQ 13 (yd (aD b) 0 0 K20 K0 rfl (hf.g 2 1)) <| sQ 14 (yl (aD b) 3 [vi A, vi B, vi C, vi D] (vi D) K1 (hS3.c 0)) <| sQ 15 (Y_neg (k := .i64) (a := D) rfl rfl) <| sQ 16 (yd (aD b) 0 0 K17 K0 rfl (hf.g 2 1)) <| sQ 17 (yl (aD b) 0 [vi A, vi B, vi C, vi D] (vi A) K1 (hS3.c 0)) <| sQ 18 (yd (aD b) 0 0 K18 K0 rfl (hf.g 2 1)) ?_
  refine sQ 19 (yl (aD b) 1 [vi A, vi B, vi C, vi D] (vi B) K1 (hS3.c 0)) <| sQ 20 (yd (aD b) 0 0 K19 K0 rfl (hf.g 2 1)) <| sQ 21 (yl (aD b) 2 [vi A, vi B, vi C, vi D] (vi C) K1 (hS3.c 0)) <| sQ 22 (Y_buildS (zs := [vi 0, vi 0, vi 0, vi 0]) (vs := [(0, vi (i64.wrap (-D))), (1, vi A), (2, vi B), (3, vi C)]) (cs := [vi (i64.wrap (-D)), vi A, vi B, vi C]) K31 K14 rfl (mpc rfl (mpc rfl (mpc rfl (mpc rfl mpn)))) rfl) ?_
  refine s0 (yT 0 4 (aD b) 49 (.agg #[vi (i64.wrap (-D)), vi A, vi B, vi C]) [vi (i64.wrap (-D)), vi A, vi B, vi C] 0 hS3 K3 rfl (hf.g 2 1)) ?_
  rintro _ w_2 ⟨rfl, hS4⟩
  refine rn (cr ?_)
  refine sQ 11 (ym (vi K9) rfl (hf.g 1 0)) <| sQ 12 (yM K9 1) <| sQ 1 (yg (vi (i64.wrap (K9 - 1)))) (rn ?_)
  obtain rfl := sI hF2
  exact ⟨K43, Nat.lt_succ_self _, (i64.wrap (K9 - 1)), (i64.wrap (-D)), A, B, C, (fc rfl (fc (hf.g 2 1) (fc (hf.g 4 2) fn_))), (hS4.sel [0, 1] rfl rfl), hL1⟩
 ·skip
  have hF3 := cf' hb hb1
  refine cw_exit rfl ?_
  obtain rfl := sI hF3
  obtain rfl := sI hL1
  refine cq (cr ?_)
  refine sQ 23 (yb (aD b) 0 [vi A, vi B, vi C, vi D] K7 K3 (hS3.c 0) rfl (hf.g 2 1)) ?_
  refine s0 (yT 1 4 (aD b1) 49 (.agg #[vi A, vi B, vi C, vi D]) [vi A, vi B, vi C, vi D] 0 hS3 K3 rfl (hf.g 4 2)) ?_
  rintro _ w_3 ⟨rfl, hS5⟩
  refine rn (ct_ ?_)
  obtain rfl := sI hF1
  exact ret1 Tryz.results88 (v1 := .agg #[vi A, vi B, vi C, vi D]) (resAt_cellA (B := aD b1) (i := 0) (cs := [vi A, vi B, vi C, vi D]) (vs := [vi A, vi B, vi C, vi D]) (hf.g 4 2) K7 K3 (hS5.c 1) rfl rfl) ⟨rfl, (hS5.sN [])⟩

theorem c_spec_l2Power (k_ : Int)  (w0 : World)  (hS : ST w0 [] w0 [] []) {r_ : TDyadic} (hF : F_spec_l2Power k_ = some r_) :
  CV Tryz.prog 56 #[vi k_] w0 (fun v w' => v = (gD_ r_) ∧ ST w0 [] w' [] []) := by
 unfold F_spec_l2Power at hF
 refine cv_of_cw 7 Tryz.func56 rfl Tryz.ntmps56 rfl ?_
 refine cq (cr ?_)
 refine sS 2 (yN kZ_ 5 hS K6) ?_
 rintro _ w_ ⟨b, rfl, hS1⟩
 refine rn (cq (cr ?_))
 refine sQ 3 (Y_buildS (zs := [vi 0, vi 0, vi 0, vi 0]) (vs := [(0, vi 1)]) (cs := [vi 1, vi 0, vi 0, vi 0]) K31 K14 rfl (mpc rfl mpn) rfl) <| sQ 4 (ym (vi k_)) ?_
 obtain ⟨r_1, hc, hF⟩ := bI hF
 refine sc 5 rfl rfl (yC [.agg #[vi 1, vi 0, vi 0, vi 0], vi k_] k_call_88 (c_spec_l1Turn (TRing.mk 1 0 0 0) k_ _  (hS1.inn0 [] rfl) hc)) ?_
 rintro _ w_1 ⟨rfl, hd⟩
 have hS2 := hS1.out00 hd
 refine sQ 6 (Y_buildS (zs := kZ_) (vs := [(0, gR_ r_1)]) (cs := [vi r_1.A, vi r_1.B, vi r_1.C, vi r_1.D, vi 0]) K21 K6 rfl (mpc rfl mpn) rfl) ?_
 refine s0 (yT 0 5 (aD b) 51 (.agg #[vi r_1.A, vi r_1.B, vi r_1.C, vi r_1.D, vi 0]) [vi r_1.A, vi r_1.B, vi r_1.C, vi r_1.D, vi 0] 0 hS2 K2) ?_
 rintro _ w_2 ⟨rfl, hS3⟩
 refine rn (ct_ ?_)
 obtain rfl := sI hF
 exact ret1 Tryz.results56 (v1 := .agg #[vi r_1.A, vi r_1.B, vi r_1.C, vi r_1.D, vi 0]) (resAt_cellA (B := aD b) (i := 0) (cs := [vi r_1.A, vi r_1.B, vi r_1.C, vi r_1.D, vi 0]) (vs := [vi r_1.A, vi r_1.B, vi r_1.C, vi r_1.D, vi 0]) rfl K5 K2 (hS3.c 0) rfl rfl) ⟨rfl, (hS3.sN [])⟩

theorem c_spec_l3Unit (n : Int)  (w0 : World)  (hS : ST w0 [] w0 [] []) {r_ : TMatrix} (hF : F_spec_l3Unit n = some r_) :
  CV Tryz.prog 25 #[vi n] w0 (fun v w' => ∃ (B : Option Addr) (c : Nat), v = (gM_ r_ B c) ∧ ST w0 [] w' [⟨B, 51, (r_.Cells.flatMap eN0), c * 5⟩] []) := by
 unfold F_spec_l3Unit at hF
 refine cv_of_cw 27 Tryz.func25 rfl Tryz.ntmps25 rfl ?_
 refine cq (cr ?_)
 refine sS 2 (yN kN_ 3 hS K10) ?_
 rintro _ w_ ⟨b, rfl, hS1⟩
 refine rn (cq (cr ?_))
 refine sQ 5 (ym (vi n)) <| sQ 6 (ym (vi n)) <| sQ 7 (ym (vi n)) <| sQ 8 (ym (vi n)) <| sQ 9 (yX n n) ?_
 obtain ⟨hmk, hF⟩ := chk_inv hF
 refine sS 10 (Ys_make (s := 5) (by' := 40) (nn := (i64.wrap (n * n)).toNat) (a := (i64.wrap (n * n))) (b := (i64.wrap (n * n))) (cs := ((List.replicate ((i64.wrap (n * n)).toNat) (TDyadic.mk (TRing.mk 0 0 0 0) 0)).flatMap eN0)) hS1 K12 K2 K45 K6 rfl rfl rfl rfl hmk.1 rfl (by have := hmk; omega) (by have := hmk; omega) (by omega) (fm_rep (enc := eN0) (d := (TDyadic.mk (TRing.mk 0 0 0 0) 0)) rfl _)) ?_
 rintro _ w_1 ⟨b1, rfl, hS2⟩
 refine sQ 11 (Y_buildS (zs := kN_) (vs := [(0, vi n), (1, vi n), (2, .slice (aD b1) ((i64.wrap (n * n)).toNat) ((i64.wrap (n * n)).toNat))]) (cs := [vi n, vi n, .slice (aD b1) ((i64.wrap (n * n)).toNat) ((i64.wrap (n * n)).toNat)]) K32 K10 rfl (mpc rfl (mpc rfl (mpc rfl mpn))) rfl) ?_
 refine sS 3 (yN kN_ 3 hS2 K10) ?_
 rintro _ w_2 ⟨b2, rfl, hS3⟩
 refine s0 (yT 2 3 (aD b2) 34 (.agg #[vi n, vi n, .slice (aD b1) ((i64.wrap (n * n)).toNat) ((i64.wrap (n * n)).toNat)]) [vi n, vi n, .slice (aD b1) ((i64.wrap (n * n)).toNat) ((i64.wrap (n * n)).toNat)] 0 hS3 K4) ?_
 rintro _ w_3 ⟨rfl, hS4⟩
 refine rn (cq (cq (cr ?_)))
 refine sQ 4 (yg (vi 0)) (rn ?_)
 obtain ⟨hN, hF⟩ := chk_inv hF
 obtain ⟨z, hz, hF1⟩ := bI hF
 refine cw_block ?_
 refine cw_loop (fun k f w => ∃ (i1 : Nat) (Cells : List TDyadic), FF f [(0, vi n), (2, pt (aD b) 0), (3, pt (aD b2) 0), (4, vi (i1 : Int))] ∧ Cells.length = (i64.wrap (n * n)).toNat ∧ ST w0 [] w [⟨aD b, 34, kN_, 3⟩, ⟨aD b2, 34, [vi n, vi n, .slice (aD b1) ((i64.wrap (n * n)).toNat) ((i64.wrap (n * n)).toNat)], 3⟩, ⟨aD b1, 51, (Cells.flatMap eN0), ((i64.wrap (n * n)).toNat) * 5⟩] [] ∧ i1 + k = n.toNat ∧ forN (F_spec_l3Unit_l1 n) k i1 Cells = some z) n.toNat ⟨0, (List.replicate ((i64.wrap (n * n)).toNat) (TDyadic.mk (TRing.mk 0 0 0 0) 0)), (fc rfl (fc rfl (fc rfl (fc rfl fn_)))), List.length_replicate, (hS4.sel [0, 2, 1] rfl rfl), Nat.zero_add _, hz⟩ ?_
 rintro k_ f w ⟨i1, Cells, hf, hl, hS5, hik, hL⟩
 refine cq (cq (cr ?_))
 refine sQ 12 (ym (vi (i1 : Int)) rfl (hf.g 4 3)) <| sQ 13 (ym (vi n) rfl (hf.g 0 0)) <| sQ 14 (yL (i1 : Int) n) (rn ?_)
 refine cw_cond (b := (decide ((i1 : Int) < n))) rfl (fun hlt => ?_) (fun hlt => ?_)
 ·skip
  have hlt1 : i1 < n.toNat := by have h := of_decide_eq_true hlt; omega
  obtain ⟨K9, rfl⟩ : ∃ k2, k_ = k2 + 1 := ⟨k_ - 1, by omega⟩
  obtain ⟨y, hb, hL1⟩ := forN_go hL
  unfold F_spec_l3Unit_l1 at hb
  refine cw_skip (cq (cw_block ?_))
  obtain ⟨r_1, hc, hb⟩ := bI hb
  obtain ⟨x, hx, hb⟩ := bI hb
  refine ra_start (hS5.se [0, 1]).fn (by kernel_rfl) ?_
  have hS7 := hS5.drew
  refine rq 0 17 (v := pt (aD b2) 2) rfl (hS7.se [0, 1]) (fun w' hw' => (yd (aD b2) 0 0 K15 K13 rfl (hf.g 3 2))) ?_
  refine rq 1 18 (v := .slice (aD b1) ((i64.wrap (n * n)).toNat) ((i64.wrap (n * n)).toNat)) rfl (hS7.se [0, 1]) (fun w' hw' => (yl (aD b2) 2 [vi n, vi n, .slice (aD b1) ((i64.wrap (n * n)).toNat) ((i64.wrap (n * n)).toNat)] (.slice (aD b1) ((i64.wrap (n * n)).toNat) ((i64.wrap (n * n)).toNat)) K16 (ST.cf hw' (i := 1) rfl))) ?_
  refine rq 2 19 (v := vi (i1 : Int)) rfl (hS7.se [0, 1]) (fun w' hw' => (ym (vi (i1 : Int)) rfl (hf.g 4 3))) ?_
  refine rq 3 20 (v := vi n) rfl (hS7.se [0, 1]) (fun w' hw' => (ym (vi n) rfl (hf.g 0 0))) ?_
  refine rq 4 21 (v := vi (i64.wrap ((i1 : Int) * n))) rfl (hS7.se [0, 1]) (fun w' hw' => (yX (i1 : Int) n)) ?_
  refine rq 5 22 (v := vi (i1 : Int)) rfl (hS7.se [0, 1]) (fun w' hw' => (ym (vi (i1 : Int)) rfl (hf.g 4 3))) ?_
  refine rq 6 23 (v := vi (i64.wrap ((i64.wrap ((i1 : Int) * n)) + (i1 : Int)))) rfl (hS7.se [0, 1]) (fun w' hw' => (yP (i64.wrap ((i1 : Int) * n)) (i1 : Int))) ?_
  refine rA [7] ?_
  refine rC 24 7 rfl (yC [vi 0] K46 (c_spec_l2Power 0 _  (hS7.inn0 [] rfl) hc)) ?_ ?_
  ·rintro _ w_4 ⟨rfl, hd⟩
   have hS8 := hS7.out00 hd
   refine ⟨(hS8.se [0, 1]), ?_⟩
   refine rA [8] ?_
   refine ra_y 25 (i := 8) (v := pt (aD b1) ((i64.wrap ((i64.wrap ((i1 : Int) * n)) + (i1 : Int))).toNat * 5)) rfl rfl rfl (Y_index (B := aD b1) (m := (i64.wrap (n * n)).toNat) (c := (i64.wrap (n * n)).toNat) (k := .i64) (i := (i64.wrap ((i64.wrap ((i1 : Int) * n)) + (i1 : Int)))) K12 K2 rfl rfl rfl (gi_isSome eN1 rfl (hS8.c 2) hx) (getI_nn hx) (getI_ltI hx hl)) (hS8.se [0, 1]) ?_ ?_
   ·skip
    refine rA [9] ?_
    refine rZ 9 rfl (yS 2 5 (aD b1) 51 (gD_ r_1) (kD_ r_1) ((i64.wrap ((i64.wrap ((i1 : Int) * n)) + (i1 : Int))).toNat * 5) ((Cells.set (i64.wrap ((i64.wrap ((i1 : Int) * n)) + (i1 : Int))).toNat r_1).flatMap eN0) hS8 K2 rfl rfl rfl rfl rfl rfl rfl (gi_fit0 eN1 hx) (gi_set eN1 hx r_1 rfl)) ?_ ?_
    ·rintro _ w_5 ⟨rfl, hS9⟩
     refine ⟨(hS9.se [0, 1]), ?_⟩
     refine ra_done (by kernel_rfl) ?_
     refine cr ?_
     refine sQ 15 (ym (vi (i1 : Int)) rfl (hf.g 4 3)) <| sQ 16 (yP (i1 : Int) 1) <| sQ 4 (yg (vi (i64.wrap ((i1 : Int) + 1)))) (rn ?_)
     obtain rfl := sI hb
     exact ⟨K9, Nat.lt_succ_self _, i1 + 1, (Cells.set (i64.wrap ((i64.wrap ((i1 : Int) * n)) + (i1 : Int))).toNat r_1), (fc (hf.g 0 0) (fc (hf.g 2 1) (fc (hf.g 3 2) (fc (congrArg (Value.int .i64) (wr_succ hlt1 hN)) fn_)))), (set_len _ _ _ hl), (hS9.sel [0, 1, 2] rfl rfl), (by omega), hL1⟩
    exact aN
   exact aN
  exact aN
 ·skip
  obtain rfl : k_ = 0 := by have h := of_decide_eq_false hlt; omega
  refine cw_exit rfl ?_
  obtain rfl := sI hL
  refine cq (cr ?_)
  refine sQ 26 (yb (aD b2) 0 [vi n, vi n, .slice (aD b1) ((i64.wrap (n * n)).toNat) ((i64.wrap (n * n)).toNat)] K8 K4 (hS5.c 1) rfl (hf.g 3 2)) ?_
  refine s0 (yT 0 3 (aD b) 34 (.agg #[vi n, vi n, .slice (aD b1) ((i64.wrap (n * n)).toNat) ((i64.wrap (n * n)).toNat)]) [vi n, vi n, .slice (aD b1) ((i64.wrap (n * n)).toNat) ((i64.wrap (n * n)).toNat)] 0 hS5 K4 rfl (hf.g 2 1)) ?_
  rintro _ w_6 ⟨rfl, hS10⟩
  refine rn (ct_ ?_)
  obtain rfl := sI hF1
  exact ret1 Tryz.results25 (v1 := .agg #[vi n, vi n, .slice (aD b1) ((i64.wrap (n * n)).toNat) ((i64.wrap (n * n)).toNat)]) (resAt_cellA (B := aD b) (i := 0) (cs := [vi n, vi n, .slice (aD b1) ((i64.wrap (n * n)).toNat) ((i64.wrap (n * n)).toNat)]) (vs := [vi n, vi n, .slice (aD b1) ((i64.wrap (n * n)).toNat) ((i64.wrap (n * n)).toNat)]) (hf.g 2 1) K8 K4 (hS10.c 0) rfl rfl) ⟨aD b1, (i64.wrap (n * n)).toNat, (by simp [hl]), (hS10.sN [2])⟩

theorem c_spec_IdentityMatrix (n : Int)  (w0 : World)  (hS : ST w0 [] w0 [] []) {r_ : TMatrix} {r_1 : Bool} (hF : F_spec_IdentityMatrix n = some (r_, r_1)) :
  CV Tryz.prog 9 #[vi n] w0 (fun v w' => ∃ (B : Option Addr) (c : Nat), v = .tuple #[gM_ r_ B c, .bool r_1] ∧ ST w0 [] w' [⟨B, 51, (r_.Cells.flatMap eN0), c * 5⟩] []) := by
 unfold F_spec_IdentityMatrix at hF
 refine cv_of_cw 10 Tryz.func9 rfl Tryz.ntmps9 rfl ?_
 refine cq (cr ?_)
 refine sS 2 (yN kN_ 3 hS K10) ?_
 rintro _ w_ ⟨b, rfl, hS1⟩
 refine sQ 3 (yg (.bool false)) (rn (cq (cq (cr ?_))))
 refine sQ 4 (ym (vi n)) ?_
 obtain ⟨r_2, hc, hF⟩ := bI hF
 refine sc 5 rfl rfl (yC [vi n] K110 (c_spec_l3Dim n _  (hS1.inn0 [] rfl) hc)) ?_
 rintro _ w_1 ⟨rfl, hd⟩
 have hS2 := hS1.out00 hd
 refine sQ 6 (Y_not (p := r_2) rfl rfl) (rn ?_)
 refine cw_cond (b := (!r_2)) rfl (fun hb => ?_) (fun hb => ?_)
 ·skip
  have hF1 := ct hF hb
  refine cq (cr ?_)
  refine sQ 7 (Y_buildS (zs := kN_) (vs := []) (cs := kN_) K32 K10 rfl mpn rfl) ?_
  refine s0 (yT 0 3 (aD b) 34 gN_ kN_ 0 hS2 K4) ?_
  rintro _ w_2 ⟨rfl, hS3⟩
  refine sQ 3 (yg (.bool false)) (rn (ct_ ?_))
  have hS4 := hS3.addNil 51
  obtain ⟨rfl, rfl⟩ := pr2 (sI hF1)
  exact ret2 Tryz.results9 (v1 := gN_) (resAt_cellA (B := aD b) (i := 0) (cs := kN_) (vs := kN_) rfl K8 K4 (hS4.c 0) rfl rfl) (v2 := .bool false) (resAt_tmp rfl) ⟨none, 0, rfl, (hS4.sN [1])⟩
 ·skip
  have hF2 := cf' hF hb
  refine cw_skip (cq (cr ?_))
  refine sQ 8 (ym (vi n)) ?_
  obtain ⟨r_3, hc1, hF2⟩ := bI hF2
  refine sc 9 rfl rfl (yC [vi n] K82 (c_spec_l3Unit n _  (hS2.inn0 [] rfl) hc1)) ?_
  rintro _ w_3 ⟨B1, c1, rfl, hd1⟩
  have hS5 := hS2.out0 hd1
  refine s0 (yT 0 3 (aD b) 34 (gM_ r_3 B1 c1) (kM_ r_3 B1 c1) 0 hS5 K4) ?_
  rintro _ w_4 ⟨rfl, hS6⟩
  refine sQ 3 (yg (.bool true)) (rn (ct_ ?_))
  obtain ⟨rfl, rfl⟩ := pr2 (sI hF2)
  exact ret2 Tryz.results9 (v1 := gM_ r_3 B1 c1) (resAt_cellA (B := aD b) (i := 0) (cs := kM_ r_3 B1 c1) (vs := kM_ r_3 B1 c1) rfl K8 K4 (hS6.c 0) rfl rfl) (v2 := .bool true) (resAt_tmp rfl) ⟨B1, c1, rfl, (hS6.sN [1])⟩

theorem c_spec_EqualMatrices (a : TMatrix) (b : TMatrix) (B : Option Addr) (c n : Nat) (B1 : Option Addr) (c1 n1 : Nat) (w0 : World) (hn : a.Cells.length = n) (hn1 : b.Cells.length = n1) (hS : ST w0 [] w0 [] [⟨B, (a.Cells.flatMap eN0)⟩, ⟨B1, (b.Cells.flatMap eN0)⟩]) {r_ : Bool} (hF : F_spec_EqualMatrices a b = some r_) :
  CV Tryz.prog 10 #[.agg #[vi a.Rows, vi a.Cols, .slice B n c], .agg #[vi b.Rows, vi b.Cols, .slice B1 n1 c1]] w0 (fun v w' => v = .bool r_ ∧ ST w0 [] w' [] []) := by
 subst hn
 subst hn1
 unfold F_spec_EqualMatrices at hF
 refine cv_of_cw 45 Tryz.func10 rfl Tryz.ntmps10 rfl ?_
 refine cq (cr ?_)
 refine sS 2 (yB 34 (gM_ a B c) (kM_ a B c) 3 hS) ?_
 rintro _ w_ ⟨b1, rfl, hS1⟩
 refine sS 3 (yB 34 (gM_ b B1 c1) (kM_ b B1 c1) 3 hS1) ?_
 rintro _ w_1 ⟨b2, rfl, hS2⟩
 refine sQ 4 (yg (.bool false)) (rn (cq (cq (cr ?_))))
 refine sQ 6 (yd (aD b1) 0 0 K34 K0) <| sQ 7 (yl (aD b1) 0 (kM_ a B c) (vi a.Rows) K1 (hS2.c 0)) <| sQ 8 (yd (aD b2) 0 0 K34 K0) <| sQ 9 (yl (aD b2) 0 (kM_ b B1 c1) (vi b.Rows) K1 (hS2.c 1)) <| sQ 10 (Y_ne (k := .i64) (a := a.Rows) (b := b.Rows) rfl rfl rfl) <| sQ 11 (ym (.bool (a.Rows != b.Rows))) ?_
 refine sgq 12 (B := (!(a.Rows != b.Rows))) (v := pt (aD b1) 1) rfl rfl (uF_ 11) (fun hg => (yd (aD b1) 0 0 K29 K0)) ?_
 refine sgq 13 (B := (!(a.Rows != b.Rows))) (v := vi a.Cols) rfl rfl (uF_ 11) (fun hg1 => (yl (aD b1) 1 (kM_ a B c) (vi a.Cols) K1 (hS2.c 0) rfl (gv_of (v := pt (aD b1) 1) hg1))) ?_
 refine sgq 14 (B := (!(a.Rows != b.Rows))) (v := pt (aD b2) 1) rfl rfl (uF_ 11) (fun hg2 => (yd (aD b2) 0 0 K29 K0)) ?_
 refine sgq 15 (B := (!(a.Rows != b.Rows))) (v := vi b.Cols) rfl rfl (uF_ 11) (fun hg3 => (yl (aD b2) 1 (kM_ b B1 c1) (vi b.Cols) K1 (hS2.c 1) rfl (gv_of (v := pt (aD b2) 1) hg3))) ?_
 refine sgq 16 (B := (!(a.Rows != b.Rows))) (v := .bool (a.Cols != b.Cols)) rfl rfl (uF_ 11) (fun hg4 => (Y_ne (k := .i64) (a := a.Cols) (b := b.Cols) rfl (gv_of (v := vi a.Cols) hg4) (gv_of (v := vi b.Cols) hg4))) ?_
 refine sQ 17 (Y_or (b := (a.Rows != b.Rows)) (z := (a.Cols != b.Cols)) rfl rfl rfl rfl) <| sQ 18 (ym (.bool ((a.Rows != b.Rows) || (a.Cols != b.Cols)))) ?_
 refine sgq 19 (B := (!((a.Rows != b.Rows) || (a.Cols != b.Cols)))) (v := pt (aD b1) 2) rfl rfl (uF_ 18) (fun hg5 => (yd (aD b1) 0 0 K15 K13)) ?_
 refine sgq 20 (B := (!((a.Rows != b.Rows) || (a.Cols != b.Cols)))) (v := .slice B a.Cells.length c) rfl rfl (uF_ 18) (fun hg6 => (yl (aD b1) 2 (kM_ a B c) (.slice B a.Cells.length c) K16 (hS2.c 0) rfl (gv_of (v := pt (aD b1) 2) hg6))) ?_
 refine sgq 21 (B := (!((a.Rows != b.Rows) || (a.Cols != b.Cols)))) (v := vi (a.Cells.length : Int)) rfl rfl (uF_ 18) (fun hg7 => (Y_len (B := B) (m := a.Cells.length) (c := c) K12 rfl (gv_of (v := .slice B a.Cells.length c) hg7))) ?_
 refine sgq 22 (B := (!((a.Rows != b.Rows) || (a.Cols != b.Cols)))) (v := pt (aD b2) 2) rfl rfl (uF_ 18) (fun hg8 => (yd (aD b2) 0 0 K15 K13)) ?_
 refine sgq 23 (B := (!((a.Rows != b.Rows) || (a.Cols != b.Cols)))) (v := .slice B1 b.Cells.length c1) rfl rfl (uF_ 18) (fun hg9 => (yl (aD b2) 2 (kM_ b B1 c1) (.slice B1 b.Cells.length c1) K16 (hS2.c 1) rfl (gv_of (v := pt (aD b2) 2) hg9))) ?_
 refine sgq 24 (B := (!((a.Rows != b.Rows) || (a.Cols != b.Cols)))) (v := vi (b.Cells.length : Int)) rfl rfl (uF_ 18) (fun hg10 => (Y_len (B := B1) (m := b.Cells.length) (c := c1) K12 rfl (gv_of (v := .slice B1 b.Cells.length c1) hg10))) ?_
 refine sgq 25 (B := (!((a.Rows != b.Rows) || (a.Cols != b.Cols)))) (v := .bool ((a.Cells.length : Int) != (b.Cells.length : Int))) rfl rfl (uF_ 18) (fun hg11 => (Y_ne (k := .i64) (a := (a.Cells.length : Int)) (b := (b.Cells.length : Int)) rfl (gv_of (v := vi (a.Cells.length : Int)) hg11) (gv_of (v := vi (b.Cells.length : Int)) hg11))) ?_
 refine sQ 26 (Y_or (b := ((a.Rows != b.Rows) || (a.Cols != b.Cols))) (z := ((a.Cells.length : Int) != (b.Cells.length : Int))) rfl rfl rfl rfl) (rn ?_)
 refine cw_cond (b := (((a.Rows != b.Rows) || (a.Cols != b.Cols)) || ((a.Cells.length : Int) != (b.Cells.length : Int)))) rfl (fun hb => ?_) (fun hb => ?_)
 ·skip
  have hF1 := ct hF hb
  refine cq (cr ?_)
  refine sQ 4 (yg (.bool false)) (rn (ct_ ?_))
  obtain rfl := sI hF1
  exact ret1 Tryz.results10 (v1 := .bool false) (resAt_tmp rfl) ⟨rfl, (hS2.sN [])⟩
 ·skip
  have hF2 := cf' hF hb
  refine cw_skip (cq (cq (cr ?_)))
  refine sQ 27 (yd (aD b1) 0 0 K15 K13) <| sQ 28 (yl (aD b1) 2 (kM_ a B c) (.slice B a.Cells.length c) K16 (hS2.c 0)) <| sQ 29 (Y_len (B := B) (m := a.Cells.length) (c := c) K12 rfl rfl) <| sQ 30 (ym (vi 0)) (rn ?_)
  obtain ⟨hN, hF2⟩ := chk_inv hF2
  obtain ⟨z, hz, hF3⟩ := bI hF2
  refine cw_block ?_
  refine cw_loop (fun k f w => ∃ (i : Nat), FF f [(2, pt (aD b1) 0), (3, pt (aD b2) 0), (29, vi (a.Cells.length : Int)), (30, vi (i : Int))] ∧ ST w0 [] w [⟨aD b1, 34, kM_ a B c, 3⟩, ⟨aD b2, 34, kM_ b B1 c1, 3⟩] [⟨B, (a.Cells.flatMap eN0)⟩, ⟨B1, (b.Cells.flatMap eN0)⟩] ∧ i + k = a.Cells.length ∧ forX (F_spec_EqualMatrices_l1 a b) k i () = some z) a.Cells.length ⟨0, (fc rfl (fc rfl (fc rfl (fc rfl fn_)))), (hS2.sel [0, 1] rfl rfl), Nat.zero_add _, hz⟩ ?_
  rintro k_ f w ⟨i, hf, hS3, hik, hL⟩
  refine cq (cr ?_)
  refine sQ 31 (yL (i : Int) (a.Cells.length : Int) rfl (hf.g 30 3) (hf.g 29 2)) (rn (cq ?_))
  refine cw_cond (b := (decide ((i : Int) < (a.Cells.length : Int)))) rfl (fun hlt => ?_) (fun hlt => ?_)
  ·skip
   have hlt1 : i < a.Cells.length := by have h := of_decide_eq_true hlt; omega
   obtain ⟨K9, rfl⟩ : ∃ k2, k_ = k2 + 1 := ⟨k_ - 1, by omega⟩
   obtain ⟨y, hb1, hL1⟩ := forX_go hL
   unfold F_spec_EqualMatrices_l1 at hb1
   refine cw_skip (cq (cw_block (cq (cr ?_))))
   refine sQ 32 (ym (vi (i : Int)) rfl (hf.g 30 3)) <| sQ 5 (yg (vi (i : Int))) (rn (cq ?_))
   obtain ⟨x, hx, hb1⟩ := bI hb1
   obtain ⟨x1, hx1, hb1⟩ := bI hb1
   refine ra_start (hS3.se [0, 1]).fn (by kernel_rfl) ?_
   have hS4 := hS3.drew
   refine rq 0 33 (v := pt (aD b1) 2) rfl (hS4.se [0, 1]) (fun w' hw' => (yd (aD b1) 0 0 K15 K13 rfl (hf.g 2 0))) ?_
   refine rq 1 34 (v := .slice B a.Cells.length c) rfl (hS4.se [0, 1]) (fun w' hw' => (yl (aD b1) 2 (kM_ a B c) (.slice B a.Cells.length c) K16 (ST.cf hw' (i := 0) rfl))) ?_
   refine rq 2 35 (v := vi (i : Int)) rfl (hS4.se [0, 1]) (fun w' hw' => (ym (vi (i : Int)))) ?_
   refine rq 3 36 (v := pt B ((i : Int).toNat * 5)) rfl (hS4.se [0, 1]) (fun w' hw' => (Y_index (B := B) (m := a.Cells.length) (c := c) (k := .i64) (i := (i : Int)) K12 K2 rfl rfl rfl (gi_isSome eN1 rfl (ST.rf hw' (i := 0) rfl) hx) (getI_nn hx) (getI_ltI hx rfl))) ?_
   refine rq 4 37 (v := gD_ x) rfl (hS4.se [0, 1]) (fun w' hw' => (ya B ((i : Int).toNat * 5) (a.Cells.flatMap eN0) (kD_ x) K5 K2 (ST.rf hw' (i := 0) rfl) rfl rfl (eN1 x) (gi_seg eN1 hx))) ?_
   refine rq 5 38 (v := pt (aD b2) 2) rfl (hS4.se [0, 1]) (fun w' hw' => (yd (aD b2) 0 0 K15 K13 rfl (hf.g 3 1))) ?_
   refine rq 6 39 (v := .slice B1 b.Cells.length c1) rfl (hS4.se [0, 1]) (fun w' hw' => (yl (aD b2) 2 (kM_ b B1 c1) (.slice B1 b.Cells.length c1) K16 (ST.cf hw' (i := 1) rfl))) ?_
   refine rq 7 40 (v := vi (i : Int)) rfl (hS4.se [0, 1]) (fun w' hw' => (ym (vi (i : Int)))) ?_
   refine rq 8 41 (v := pt B1 ((i : Int).toNat * 5)) rfl (hS4.se [0, 1]) (fun w' hw' => (Y_index (B := B1) (m := b.Cells.length) (c := c1) (k := .i64) (i := (i : Int)) K12 K2 rfl rfl rfl (gi_isSome eN1 rfl (ST.rf hw' (i := 1) rfl) hx1) (getI_nn hx1) (getI_ltI hx1 rfl))) ?_
   refine rq 9 42 (v := gD_ x1) rfl (hS4.se [0, 1]) (fun w' hw' => (ya B1 ((i : Int).toNat * 5) (b.Cells.flatMap eN0) (kD_ x1) K5 K2 (ST.rf hw' (i := 1) rfl) rfl rfl (eN1 x1) (gi_seg eN1 hx1))) ?_
   refine ra_q 10 43 (v := .bool (!(((x.Num.A == x1.Num.A) && ((x.Num.B == x1.Num.B) && ((x.Num.C == x1.Num.C) && ((x.Num.D == x1.Num.D) && true)))) && ((x.Exp == x1.Exp) && true)))) rfl rfl rfl (by kernel_rfl) (by kernel_rfl) (by kernel_rfl) (hS4.se [0, 1]) (fun w' hw' => (Y_neA (xs := #[vi x.Num.A, vi x.Num.B, vi x.Num.C, vi x.Num.D, vi x.Exp]) (ys := #[vi x1.Num.A, vi x1.Num.B, vi x1.Num.C, vi x1.Num.D, vi x1.Exp]) (b := (((x.Num.A == x1.Num.A) && ((x.Num.B == x1.Num.B) && ((x.Num.C == x1.Num.C) && ((x.Num.D == x1.Num.D) && true)))) && ((x.Exp == x1.Exp) && true))) K72 rfl rfl rfl (eqr_struct (xs := kD_ x) (ys := kD_ x1) K73 K74 (pts_ag (us := kR_ x.Num) (vs := kR_ x1.Num) K7 K3 rfl rfl (eqr_struct (xs := kR_ x.Num) (ys := kR_ x1.Num) K75 K76 (pts_sc K1 rfl rfl (eqr_int K25) (pts_sc K1 rfl rfl (eqr_int K25) (pts_sc K1 rfl rfl (eqr_int K25) (pts_sc K1 rfl rfl (eqr_int K25) pts_nil))))) (pts_sc K1 rfl rfl (eqr_int K25) pts_nil))))) ?_
   refine ra_done (by kernel_rfl) ?_
   refine cw_cond (b := (!(((x.Num.A == x1.Num.A) && ((x.Num.B == x1.Num.B) && ((x.Num.C == x1.Num.C) && ((x.Num.D == x1.Num.D) && true)))) && ((x.Exp == x1.Exp) && true)))) rfl (fun hb2 => ?_) (fun hb2 => ?_)
   ·skip
    have hF4 := ct hb1 hb2
    refine cq (cr ?_)
    refine sQ 4 (yg (.bool false)) (rn (ct_ ?_))
    obtain rfl := sI hF4
    obtain rfl := sI hL1
    obtain rfl := sI hF3
    exact ret1 Tryz.results10 (v1 := .bool false) (resAt_tmp rfl) ⟨rfl, (hS4.sN [])⟩
   ·skip
    have hF5 := cf' hb1 hb2
    refine cw_skip (cr ?_)
    refine sQ 44 (yP (i : Int) 1 rfl (hf.g 30 3)) <| sQ 30 (ym (vi (i64.wrap ((i : Int) + 1)))) (rn ?_)
    obtain rfl := sI hF5
    exact ⟨K9, Nat.lt_succ_self _, i + 1, (fc (hf.g 2 0) (fc (hf.g 3 1) (fc (hf.g 29 2) (fc (congrArg (Value.int .i64) (wr_succ hlt1 hN)) fn_)))), (hS4.sel [0, 1] rfl rfl), (by omega), hL1⟩
  ·skip
   obtain rfl : k_ = 0 := by have h := of_decide_eq_false hlt; omega
   refine cw_exit rfl ?_
   obtain rfl := sI hL
   refine cq (cr ?_)
   refine sQ 4 (yg (.bool true)) (rn (ct_ ?_))
   obtain rfl := sI hF3
   exact ret1 Tryz.results10 (v1 := .bool true) (resAt_tmp rfl) ⟨rfl, (hS3.sN [])⟩

theorem c_spec_l1Even (x : TRing)  (w0 : World)  (hS : ST w0 [] w0 [] []) {r_ : Bool} (hF : F_spec_l1Even x = some r_) :
  CV Tryz.prog 93 #[gR_ x] w0 (fun v w' => v = .bool r_ ∧ ST w0 [] w' [] []) := by
 unfold F_spec_l1Even at hF
 refine cv_of_cw 19 Tryz.func93 rfl Tryz.ntmps93 rfl ?_
 refine cq (cr ?_)
 refine sS 1 (yB 49 (gR_ x) (kR_ x) 4 hS) ?_
 rintro _ w_ ⟨b, rfl, hS1⟩
 refine sQ 2 (yg (.bool false)) (rn (cq (cr ?_)))
 refine sQ 3 (yd (aD b) 0 0 K17 K0) <| sQ 4 (yl (aD b) 0 (kR_ x) (vi x.A) K1 (hS1.c 0)) <| sQ 5 (yd (aD b) 0 0 K19 K0) <| sQ 6 (yl (aD b) 2 (kR_ x) (vi x.C) K1 (hS1.c 0)) <| sQ 7 (yP x.A x.C) <| sQ 8 (Y_rem (k := .i64) (a := (i64.wrap (x.A + x.C))) (b := 2) rfl rfl rfl (by decide)) ?_
 refine sQ 9 (yE (Int.tmod (i64.wrap (x.A + x.C)) 2) 0) <| sQ 10 (ym (.bool ((Int.tmod (i64.wrap (x.A + x.C)) 2) == 0))) ?_
 refine sgq 11 (B := ((Int.tmod (i64.wrap (x.A + x.C)) 2) == 0)) (v := pt (aD b) 1) rfl rfl (uT_ 10) (fun hg => (yd (aD b) 0 0 K18 K0)) ?_
 refine sgq 12 (B := ((Int.tmod (i64.wrap (x.A + x.C)) 2) == 0)) (v := vi x.B) rfl rfl (uT_ 10) (fun hg1 => (yl (aD b) 1 (kR_ x) (vi x.B) K1 (hS1.c 0) rfl (gv_of (v := pt (aD b) 1) hg1))) ?_
 refine sgq 13 (B := ((Int.tmod (i64.wrap (x.A + x.C)) 2) == 0)) (v := pt (aD b) 3) rfl rfl (uT_ 10) (fun hg2 => (yd (aD b) 0 0 K20 K0)) ?_
 refine sgq 14 (B := ((Int.tmod (i64.wrap (x.A + x.C)) 2) == 0)) (v := vi x.D) rfl rfl (uT_ 10) (fun hg3 => (yl (aD b) 3 (kR_ x) (vi x.D) K1 (hS1.c 0) rfl (gv_of (v := pt (aD b) 3) hg3))) ?_
 refine sgq 15 (B := ((Int.tmod (i64.wrap (x.A + x.C)) 2) == 0)) (v := vi (i64.wrap (x.B + x.D))) rfl rfl (uT_ 10) (fun hg4 => (yP x.B x.D rfl (gv_of (v := vi x.B) hg4) (gv_of (v := vi x.D) hg4))) ?_
 refine sgq 16 (B := ((Int.tmod (i64.wrap (x.A + x.C)) 2) == 0)) (v := vi (Int.tmod (i64.wrap (x.B + x.D)) 2)) rfl rfl (uT_ 10) (fun hg5 => (Y_rem (k := .i64) (a := (i64.wrap (x.B + x.D))) (b := 2) rfl (gv_of (v := vi (i64.wrap (x.B + x.D))) hg5) rfl (by decide))) ?_
 refine sgq 17 (B := ((Int.tmod (i64.wrap (x.A + x.C)) 2) == 0)) (v := .bool ((Int.tmod (i64.wrap (x.B + x.D)) 2) == 0)) rfl rfl (uT_ 10) (fun hg6 => (yE (Int.tmod (i64.wrap (x.B + x.D)) 2) 0 rfl (gv_of (v := vi (Int.tmod (i64.wrap (x.B + x.D)) 2)) hg6))) ?_
 refine sQ 18 (Y_and (b := ((Int.tmod (i64.wrap (x.A + x.C)) 2) == 0)) (z := ((Int.tmod (i64.wrap (x.B + x.D)) 2) == 0)) rfl rfl rfl rfl) <| sQ 2 (yg (.bool (((Int.tmod (i64.wrap (x.A + x.C)) 2) == 0) && ((Int.tmod (i64.wrap (x.B + x.D)) 2) == 0)))) (rn (ct_ ?_))
 obtain rfl := sI hF
 exact ret1 Tryz.results93 (v1 := .bool (((Int.tmod (i64.wrap (x.A + x.C)) 2) == 0) && ((Int.tmod (i64.wrap (x.B + x.D)) 2) == 0))) (resAt_tmp rfl) ⟨rfl, (hS1.sN [])⟩

theorem c_spec_l1Root (x : TRing)  (w0 : World)  (hS : ST w0 [] w0 [] []) {r_ : TRing} (hF : F_spec_l1Root x = some r_) :
  CV Tryz.prog 102 #[gR_ x] w0 (fun v w' => v = (gR_ r_) ∧ ST w0 [] w' [] []) := by
 unfold F_spec_l1Root at hF
 refine cv_of_cw 24 Tryz.func102 rfl Tryz.ntmps102 rfl ?_
 refine cq (cr ?_)
 refine sS 1 (yB 49 (gR_ x) (kR_ x) 4 hS) ?_
 rintro _ w_ ⟨b, rfl, hS1⟩
 refine sS 2 (yN [vi 0, vi 0, vi 0, vi 0] 4 hS1 K14) ?_
 rintro _ w_1 ⟨b1, rfl, hS2⟩
 refine rn (cq (cr ?_))
 refine sQ 3 (yd (aD b) 0 0 K18 K0) <| sQ 4 (yl (aD b) 1 (kR_ x) (vi x.B) K1 (hS2.c 0)) <| sQ 5 (yd (aD b) 0 0 K20 K0) <| sQ 6 (yl (aD b) 3 (kR_ x) (vi x.D) K1 (hS2.c 0)) <| sQ 7 (yM x.B x.D) <| sQ 8 (yd (aD b) 0 0 K17 K0) ?_
 refine sQ 9 (yl (aD b) 0 (kR_ x) (vi x.A) K1 (hS2.c 0)) <| sQ 10 (yd (aD b) 0 0 K19 K0) <| sQ 11 (yl (aD b) 2 (kR_ x) (vi x.C) K1 (hS2.c 0)) <| sQ 12 (yP x.A x.C) <| sQ 13 (yd (aD b) 0 0 K18 K0) <| sQ 14 (yl (aD b) 1 (kR_ x) (vi x.B) K1 (hS2.c 0)) ?_
 refine sQ 15 (yd (aD b) 0 0 K20 K0) <| sQ 16 (yl (aD b) 3 (kR_ x) (vi x.D) K1 (hS2.c 0)) <| sQ 17 (yP x.B x.D) <| sQ 18 (yd (aD b) 0 0 K19 K0) <| sQ 19 (yl (aD b) 2 (kR_ x) (vi x.C) K1 (hS2.c 0)) <| sQ 20 (yd (aD b) 0 0 K17 K0) ?_
 refine sQ 21 (yl (aD b) 0 (kR_ x) (vi x.A) K1 (hS2.c 0)) <| sQ 22 (yM x.C x.A) <| sQ 23 (Y_buildS (zs := [vi 0, vi 0, vi 0, vi 0]) (vs := [(0, vi (i64.wrap (x.B - x.D))), (1, vi (i64.wrap (x.A + x.C))), (2, vi (i64.wrap (x.B + x.D))), (3, vi (i64.wrap (x.C - x.A)))]) (cs := [vi (i64.wrap (x.B - x.D)), vi (i64.wrap (x.A + x.C)), vi (i64.wrap (x.B + x.D)), vi (i64.wrap (x.C - x.A))]) K31 K14 rfl (mpc rfl (mpc rfl (mpc rfl (mpc rfl mpn)))) rfl) ?_
 refine s0 (yT 1 4 (aD b1) 49 (.agg #[vi (i64.wrap (x.B - x.D)), vi (i64.wrap (x.A + x.C)), vi (i64.wrap (x.B + x.D)), vi (i64.wrap (x.C - x.A))]) [vi (i64.wrap (x.B - x.D)), vi (i64.wrap (x.A + x.C)), vi (i64.wrap (x.B + x.D)), vi (i64.wrap (x.C - x.A))] 0 hS2 K3) ?_
 rintro _ w_2 ⟨rfl, hS3⟩
 refine rn (ct_ ?_)
 obtain rfl := sI hF
 exact ret1 Tryz.results102 (v1 := .agg #[vi (i64.wrap (x.B - x.D)), vi (i64.wrap (x.A + x.C)), vi (i64.wrap (x.B + x.D)), vi (i64.wrap (x.C - x.A))]) (resAt_cellA (B := aD b1) (i := 0) (cs := [vi (i64.wrap (x.B - x.D)), vi (i64.wrap (x.A + x.C)), vi (i64.wrap (x.B + x.D)), vi (i64.wrap (x.C - x.A))]) (vs := [vi (i64.wrap (x.B - x.D)), vi (i64.wrap (x.A + x.C)), vi (i64.wrap (x.B + x.D)), vi (i64.wrap (x.C - x.A))]) rfl K7 K3 (hS3.c 1) rfl rfl) ⟨rfl, (hS3.sN [])⟩

theorem c_spec_l1Half (x : TRing)  (w0 : World)  (hS : ST w0 [] w0 [] []) {r_ : TRing} (hF : F_spec_l1Half x = some r_) :
  CV Tryz.prog 94 #[gR_ x] w0 (fun v w' => v = (gR_ r_) ∧ ST w0 [] w' [] []) := by
 unfold F_spec_l1Half at hF
 refine cv_of_cw 19 Tryz.func94 rfl Tryz.ntmps94 rfl ?_
 refine cq (cr ?_)
 refine sS 1 (yB 49 (gR_ x) (kR_ x) 4 hS) ?_
 rintro _ w_ ⟨b, rfl, hS1⟩
 refine sS 2 (yN [vi 0, vi 0, vi 0, vi 0] 4 hS1 K14) ?_
 rintro _ w_1 ⟨b1, rfl, hS2⟩
 refine rn (cq (cr ?_))
 refine sQ 4 (yb (aD b) 0 (kR_ x) K7 K3 (hS2.c 0)) ?_
 obtain ⟨r_1, hc, hF⟩ := bI hF
 refine sc 5 rfl rfl (yC [gR_ x] K64 (c_spec_l1Root x _  (hS2.inn0 [] rfl) hc)) ?_
 rintro _ w_2 ⟨rfl, hd⟩
 have hS3 := hS2.out00 hd
 refine sS 3 (yN [vi 0, vi 0, vi 0, vi 0] 4 hS3 K14) ?_
 rintro _ w_3 ⟨b2, rfl, hS4⟩
 refine s0 (yT 2 4 (aD b2) 49 (gR_ r_1) (kR_ r_1) 0 hS4 K3) ?_
 rintro _ w_4 ⟨rfl, hS5⟩
 refine rn (cq (cr ?_))
 refine sQ 6 (yd (aD b2) 0 0 K17 K0) <| sQ 7 (yl (aD b2) 0 (kR_ r_1) (vi r_1.A) K1 (hS5.c 2)) <| sQ 8 (Y_quo (k := .i64) (a := r_1.A) (b := 2) rfl rfl rfl (by decide)) <| sQ 9 (yd (aD b2) 0 0 K18 K0) <| sQ 10 (yl (aD b2) 1 (kR_ r_1) (vi r_1.B) K1 (hS5.c 2)) <| sQ 11 (Y_quo (k := .i64) (a := r_1.B) (b := 2) rfl rfl rfl (by decide)) ?_
 refine sQ 12 (yd (aD b2) 0 0 K19 K0) <| sQ 13 (yl (aD b2) 2 (kR_ r_1) (vi r_1.C) K1 (hS5.c 2)) <| sQ 14 (Y_quo (k := .i64) (a := r_1.C) (b := 2) rfl rfl rfl (by decide)) <| sQ 15 (yd (aD b2) 0 0 K20 K0) <| sQ 16 (yl (aD b2) 3 (kR_ r_1) (vi r_1.D) K1 (hS5.c 2)) <| sQ 17 (Y_quo (k := .i64) (a := r_1.D) (b := 2) rfl rfl rfl (by decide)) ?_
 refine sQ 18 (Y_buildS (zs := [vi 0, vi 0, vi 0, vi 0]) (vs := [(0, vi (i64.wrap (Int.tdiv r_1.A 2))), (1, vi (i64.wrap (Int.tdiv r_1.B 2))), (2, vi (i64.wrap (Int.tdiv r_1.C 2))), (3, vi (i64.wrap (Int.tdiv r_1.D 2)))]) (cs := [vi (i64.wrap (Int.tdiv r_1.A 2)), vi (i64.wrap (Int.tdiv r_1.B 2)), vi (i64.wrap (Int.tdiv r_1.C 2)), vi (i64.wrap (Int.tdiv r_1.D 2))]) K31 K14 rfl (mpc rfl (mpc rfl (mpc rfl (mpc rfl mpn)))) rfl) ?_
 refine s0 (yT 1 4 (aD b1) 49 (.agg #[vi (i64.wrap (Int.tdiv r_1.A 2)), vi (i64.wrap (Int.tdiv r_1.B 2)), vi (i64.wrap (Int.tdiv r_1.C 2)), vi (i64.wrap (Int.tdiv r_1.D 2))]) [vi (i64.wrap (Int.tdiv r_1.A 2)), vi (i64.wrap (Int.tdiv r_1.B 2)), vi (i64.wrap (Int.tdiv r_1.C 2)), vi (i64.wrap (Int.tdiv r_1.D 2))] 0 hS5 K3) ?_
 rintro _ w_5 ⟨rfl, hS6⟩
 refine rn (ct_ ?_)
 obtain rfl := sI hF
 exact ret1 Tryz.results94 (v1 := .agg #[vi (i64.wrap (Int.tdiv r_1.A 2)), vi (i64.wrap (Int.tdiv r_1.B 2)), vi (i64.wrap (Int.tdiv r_1.C 2)), vi (i64.wrap (Int.tdiv r_1.D 2))]) (resAt_cellA (B := aD b1) (i := 0) (cs := [vi (i64.wrap (Int.tdiv r_1.A 2)), vi (i64.wrap (Int.tdiv r_1.B 2)), vi (i64.wrap (Int.tdiv r_1.C 2)), vi (i64.wrap (Int.tdiv r_1.D 2))]) (vs := [vi (i64.wrap (Int.tdiv r_1.A 2)), vi (i64.wrap (Int.tdiv r_1.B 2)), vi (i64.wrap (Int.tdiv r_1.C 2)), vi (i64.wrap (Int.tdiv r_1.D 2))]) rfl K7 K3 (hS6.c 1) rfl rfl) ⟨rfl, (hS6.sN [])⟩

theorem c_spec_l2Low (num : TRing) (exp : Int)  (w0 : World)  (hS : ST w0 [] w0 [] []) {r_ : TDyadic} (hF : F_spec_l2Low num exp = some r_) :
  CV Tryz.prog 65 #[gR_ num, vi exp] w0 (fun v w' => v = (gD_ r_) ∧ ST w0 [] w' [] []) := by
 unfold F_spec_l2Low at hF
 refine cv_of_cw 18 Tryz.func65 rfl Tryz.ntmps65 rfl ?_
 refine cq (cr ?_)
 refine sS 2 (yB 49 (gR_ num) (kR_ num) 4 hS) ?_
 rintro _ w_ ⟨b, rfl, hS1⟩
 refine sS 4 (yN kZ_ 5 hS1 K6) ?_
 rintro _ w_1 ⟨b1, rfl, hS2⟩
 refine rn (cq ?_)
 obtain ⟨z, hz, hF1⟩ := bI hF
 refine cw_block ?_
 refine cw_loop (fun k f w => ∃ (exp1 : Int) (A : Int) (B : Int) (C : Int) (D : Int), FF f [(1, vi exp1), (2, pt (aD b) 0), (4, pt (aD b1) 0)] ∧ ST w0 [] w [⟨aD b, 49, [vi A, vi B, vi C, vi D], 4⟩, ⟨aD b1, 51, kZ_, 5⟩] [] ∧ whX F_spec_l2Low_l1 k (exp1, A, B, C, D) = some z) fuel ⟨exp, num.A, num.B, num.C, num.D, (fc rfl (fc rfl (fc rfl fn_))), (hS2.sel [0, 1] rfl rfl), hz⟩ ?_
 rintro k_ f w ⟨exp1, A, B, C, D, hf, hS3, hL⟩
 obtain ⟨K9, y, rfl, hb, hL1⟩ := whX_go hL
 unfold F_spec_l2Low_l1 at hb
 refine cq (cq (cr ?_))
 refine sQ 5 (ym (vi exp1) rfl (hf.g 1 0)) <| sQ 6 (Y_gt (k := .i64) (a := exp1) (b := 0) rfl rfl rfl) <| sQ 7 (ym (.bool (decide (0 < exp1)))) ?_
 refine sgq 8 (B := (decide (0 < exp1))) (v := .agg #[vi A, vi B, vi C, vi D]) rfl rfl (uT_ 7) (fun hg => (yb (aD b) 0 [vi A, vi B, vi C, vi D] K7 K3 (hS3.c 0) rfl (hf.g 2 1))) ?_
 obtain ⟨r_1, hc, hb⟩ := bI hb
 refine sgc 9 (B := (decide (0 < exp1))) (v := .bool r_1) (F := hS3.fn) rfl rfl (uT_ 7) hS3 (fun hg1 => (yC [.agg #[vi A, vi B, vi C, vi D]] k_call_93 (CV.mono (c_spec_l1Even (TRing.mk A B C D) _  (hS3.inn0 [] rfl) (gb_inv hc hg1)) (by rintro _ _ ⟨rfl, h⟩; exact ⟨rfl, hS3.out00 h⟩)) rfl (mc (gv_of (v := .agg #[vi A, vi B, vi C, vi D]) hg1) mn))) ?_
 rintro w_2 hS4
 refine sQ 10 (Y_and (b := (decide (0 < exp1))) (z := r_1) rfl rfl rfl rfl) (rn ?_)
 refine cw_cond (b := ((decide (0 < exp1)) && r_1)) rfl (fun hb1 => ?_) (fun hb1 => ?_)
 ·skip
  have hF2 := ct hb hb1
  refine cw_skip (cw_block (cq (cr ?_)))
  refine sQ 11 (yb (aD b) 0 [vi A, vi B, vi C, vi D] K7 K3 (hS4.c 0) rfl (hf.g 2 1)) ?_
  obtain ⟨r_2, hc1, hF2⟩ := bI hF2
  refine sc 12 rfl rfl (yC [.agg #[vi A, vi B, vi C, vi D]] k_call_94 (c_spec_l1Half (TRing.mk A B C D) _  (hS4.inn0 [] rfl) hc1)) ?_
  rintro _ w_3 ⟨rfl, hd⟩
  have hS5 := hS4.out00 hd
  refine s0 (yT 0 4 (aD b) 49 (gR_ r_2) (kR_ r_2) 0 hS5 K3 rfl (hf.g 2 1)) ?_
  rintro _ w_4 ⟨rfl, hS6⟩
  refine rn (cr ?_)
  refine sQ 13 (ym (vi exp1) rfl (hf.g 1 0)) <| sQ 14 (yM exp1 1) <| sQ 1 (yg (vi (i64.wrap (exp1 - 1)))) (rn ?_)
  obtain rfl := sI hF2
  exact ⟨K9, Nat.lt_succ_self _, (i64.wrap (exp1 - 1)), r_2.A, r_2.B, r_2.C, r_2.D, (fc rfl (fc (hf.g 2 1) (fc (hf.g 4 2) fn_))), (hS6.sel [0, 1] rfl rfl), hL1⟩
 ·skip
  have hF3 := cf' hb hb1
  refine cw_exit rfl ?_
  obtain rfl := sI hF3
  obtain rfl := sI hL1
  refine cq (cr ?_)
  refine sQ 15 (yb (aD b) 0 [vi A, vi B, vi C, vi D] K7 K3 (hS4.c 0) rfl (hf.g 2 1)) <| sQ 16 (ym (vi exp1) rfl (hf.g 1 0)) <| sQ 17 (Y_buildS (zs := kZ_) (vs := [(0, .agg #[vi A, vi B, vi C, vi D]), (1, vi exp1)]) (cs := [vi A, vi B, vi C, vi D, vi exp1]) K21 K6 rfl (mpc rfl (mpc rfl mpn)) rfl) ?_
  refine s0 (yT 1 5 (aD b1) 51 (.agg #[vi A, vi B, vi C, vi D, vi exp1]) [vi A, vi B, vi C, vi D, vi exp1] 0 hS4 K2 rfl (hf.g 4 2)) ?_
  rintro _ w_5 ⟨rfl, hS7⟩
  refine rn (ct_ ?_)
  obtain rfl := sI hF1
  exact ret1 Tryz.results65 (v1 := .agg #[vi A, vi B, vi C, vi D, vi exp1]) (resAt_cellA (B := aD b1) (i := 0) (cs := [vi A, vi B, vi C, vi D, vi exp1]) (vs := [vi A, vi B, vi C, vi D, vi exp1]) (hf.g 4 2) K5 K2 (hS7.c 1) rfl rfl) ⟨rfl, (hS7.sN [])⟩

theorem c_spec_l1Cur_ring (c : Tl1Cur) (B : Option Addr) (B1 : Option Addr) (c1 n : Nat) (w0 : World) (hn : c.code.length = n) (hS : ST w0 (bl [⟨B, 55, [.slice B1 n c1, vi c.at_, .int .u64 c.seed], 3⟩]) w0 [⟨B, 55, [.slice B1 n c1, vi c.at_, .int .u64 c.seed], 3⟩] [⟨B1, (c.code.flatMap enc_u8)⟩]) {r_ : TRing} {m : Tl1Cur} (hF : F_spec_l1Cur_ring c = some (r_, m)) :
  CV Tryz.prog 66 #[pt B 0] w0 (fun v w' => v = (gR_ r_) ∧ ST w0 (bl [⟨B, 55, [.slice B1 n c1, vi c.at_, .int .u64 c.seed], 3⟩]) w' [⟨B, 55, [.slice B1 n c1, vi m.at_, .int .u64 m.seed], 3⟩] []) := by
 subst hn
 unfold F_spec_l1Cur_ring at hF
 refine cv_of_cw 16 Tryz.func66 rfl Tryz.ntmps66 rfl ?_
 refine cq (cr ?_)
 refine sS 2 (yN [vi 0, vi 0, vi 0, vi 0] 4 hS K14) ?_
 rintro _ w_ ⟨b, rfl, hS1⟩
 refine rn (cq (cr ?_))
 refine sQ 3 (ym (pt B 0)) ?_
 obtain ⟨⟨r_1, m1⟩, hc, hF⟩ := bI hF
 refine sc 4 rfl rfl (yC [pt B 0, vi 9] K24 (c_spec_l1Cur_pick c 9 B B1 c1 c.code.length _ rfl (hS1.inn [true, false] rfl [(true, 0)] rfl) hc)) ?_
 rintro _ w_1 ⟨rfl, hd⟩
 have hS2 := hS1.out [true, false] rfl hd
 refine sQ 5 (yM r_1 4) <| sQ 6 (ym (pt B 0)) ?_
 obtain ⟨⟨r_2, m2⟩, hc1, hF⟩ := bI hF
 refine sc 7 rfl rfl (yC [pt B 0, vi 9] K24 (c_spec_l1Cur_pick (Tl1Cur.mk c.code m1.at_ m1.seed) 9 B B1 c1 c.code.length _ rfl (hS2.inn [false, true] rfl [(true, 0)] rfl) hc1)) ?_
 rintro _ w_2 ⟨rfl, hd1⟩
 have hS3 := hS2.out [false, true] rfl hd1
 refine sQ 8 (yM r_2 4) <| sQ 9 (ym (pt B 0)) ?_
 obtain ⟨⟨r_3, m3⟩, hc2, hF⟩ := bI hF
 refine sc 10 rfl rfl (yC [pt B 0, vi 9] K24 (c_spec_l1Cur_pick (Tl1Cur.mk c.code m2.at_ m2.seed) 9 B B1 c1 c.code.length _ rfl (hS3.inn [false, true] rfl [(true, 0)] rfl) hc2)) ?_
 rintro _ w_3 ⟨rfl, hd2⟩
 have hS4 := hS3.out [false, true] rfl hd2
 refine sQ 11 (yM r_3 4) <| sQ 12 (ym (pt B 0)) ?_
 obtain ⟨⟨r_4, m4⟩, hc3, hF⟩ := bI hF
 refine sc 13 rfl rfl (yC [pt B 0, vi 9] K24 (c_spec_l1Cur_pick (Tl1Cur.mk c.code m3.at_ m3.seed) 9 B B1 c1 c.code.length _ rfl (hS4.inn [false, true] rfl [(true, 0)] rfl) hc3)) ?_
 rintro _ w_4 ⟨rfl, hd3⟩
 have hS5 := hS4.out [false, true] rfl hd3
 refine sQ 14 (yM r_4 4) <| sQ 15 (Y_buildS (zs := [vi 0, vi 0, vi 0, vi 0]) (vs := [(0, vi (i64.wrap (r_1 - 4))), (1, vi (i64.wrap (r_2 - 4))), (2, vi (i64.wrap (r_3 - 4))), (3, vi (i64.wrap (r_4 - 4)))]) (cs := [vi (i64.wrap (r_1 - 4)), vi (i64.wrap (r_2 - 4)), vi (i64.wrap (r_3 - 4)), vi (i64.wrap (r_4 - 4))]) K31 K14 rfl (mpc rfl (mpc rfl (mpc rfl (mpc rfl mpn)))) rfl) ?_
 refine s0 (yT 0 4 (aD b) 49 (.agg #[vi (i64.wrap (r_1 - 4)), vi (i64.wrap (r_2 - 4)), vi (i64.wrap (r_3 - 4)), vi (i64.wrap (r_4 - 4))]) [vi (i64.wrap (r_1 - 4)), vi (i64.wrap (r_2 - 4)), vi (i64.wrap (r_3 - 4)), vi (i64.wrap (r_4 - 4))] 0 hS5 K3) ?_
 rintro _ w_5 ⟨rfl, hS6⟩
 refine rn (ct_ ?_)
 obtain ⟨rfl, rfl⟩ := pr2 (sI hF)
 exact ret1 Tryz.results66 (v1 := .agg #[vi (i64.wrap (r_1 - 4)), vi (i64.wrap (r_2 - 4)), vi (i64.wrap (r_3 - 4)), vi (i64.wrap (r_4 - 4))]) (resAt_cellA (B := aD b) (i := 0) (cs := [vi (i64.wrap (r_1 - 4)), vi (i64.wrap (r_2 - 4)), vi (i64.wrap (r_3 - 4)), vi (i64.wrap (r_4 - 4))]) (vs := [vi (i64.wrap (r_1 - 4)), vi (i64.wrap (r_2 - 4)), vi (i64.wrap (r_3 - 4)), vi (i64.wrap (r_4 - 4))]) rfl K7 K3 (hS6.c 0) rfl rfl) ⟨rfl, (hS6.sN [1])⟩

theorem c_spec_l1Cur_dyadic (c : Tl1Cur) (B : Option Addr) (B1 : Option Addr) (c1 n : Nat) (w0 : World) (hn : c.code.length = n) (hS : ST w0 (bl [⟨B, 55, [.slice B1 n c1, vi c.at_, .int .u64 c.seed], 3⟩]) w0 [⟨B, 55, [.slice B1 n c1, vi c.at_, .int .u64 c.seed], 3⟩] [⟨B1, (c.code.flatMap enc_u8)⟩]) {r_ : TDyadic} {m : Tl1Cur} (hF : F_spec_l1Cur_dyadic c = some (r_, m)) :
  CV Tryz.prog 31 #[pt B 0] w0 (fun v w' => v = (gD_ r_) ∧ ST w0 (bl [⟨B, 55, [.slice B1 n c1, vi c.at_, .int .u64 c.seed], 3⟩]) w' [⟨B, 55, [.slice B1 n c1, vi m.at_, .int .u64 m.seed], 3⟩] []) := by
 subst hn
 unfold F_spec_l1Cur_dyadic at hF
 refine cv_of_cw 8 Tryz.func31 rfl Tryz.ntmps31 rfl ?_
 refine cq (cr ?_)
 refine sS 2 (yN kZ_ 5 hS K6) ?_
 rintro _ w_ ⟨b, rfl, hS1⟩
 refine rn (cq (cr ?_))
 refine sQ 3 (ym (pt B 0)) ?_
 obtain ⟨⟨r_1, m1⟩, hc, hF⟩ := bI hF
 refine sc 4 rfl rfl (yC [pt B 0] K111 (c_spec_l1Cur_ring c B B1 c1 c.code.length _ rfl (hS1.inn [true, false] rfl [(true, 0)] rfl) hc)) ?_
 rintro _ w_1 ⟨rfl, hd⟩
 have hS2 := hS1.out [true, false] rfl hd
 refine sQ 5 (ym (pt B 0)) ?_
 obtain ⟨⟨r_2, m2⟩, hc1, hF⟩ := bI hF
 refine sc 6 rfl rfl (yC [pt B 0, vi 5] K24 (c_spec_l1Cur_pick (Tl1Cur.mk c.code m1.at_ m1.seed) 5 B B1 c1 c.code.length _ rfl (hS2.inn [false, true] rfl [(true, 0)] rfl) hc1)) ?_
 rintro _ w_2 ⟨rfl, hd1⟩
 have hS3 := hS2.out [false, true] rfl hd1
 obtain ⟨r_3, hc2, hF⟩ := bI hF
 refine sc 7 rfl rfl (yC [gR_ r_1, vi r_2] K92 (c_spec_l2Low r_1 r_2 _  (hS3.inn0 [] rfl) hc2)) ?_
 rintro _ w_3 ⟨rfl, hd2⟩
 have hS4 := hS3.out00 hd2
 refine s0 (yT 0 5 (aD b) 51 (gD_ r_3) (kD_ r_3) 0 hS4 K2) ?_
 rintro _ w_4 ⟨rfl, hS5⟩
 refine rn (ct_ ?_)
 obtain ⟨rfl, rfl⟩ := pr2 (sI hF)
 exact ret1 Tryz.results31 (v1 := gD_ r_3) (resAt_cellA (B := aD b) (i := 0) (cs := kD_ r_3) (vs := kD_ r_3) rfl K5 K2 (hS5.c 0) rfl rfl) ⟨rfl, (hS5.sN [1])⟩

theorem c_spec_l1Cur_matrix (c : Tl1Cur) (rows : Int) (cols : Int) (B : Option Addr) (B1 : Option Addr) (c1 n : Nat) (w0 : World) (hn : c.code.length = n) (hS : ST w0 (bl [⟨B, 55, [.slice B1 n c1, vi c.at_, .int .u64 c.seed], 3⟩]) w0 [⟨B, 55, [.slice B1 n c1, vi c.at_, .int .u64 c.seed], 3⟩] [⟨B1, (c.code.flatMap enc_u8)⟩]) {r_ : TMatrix} {m : Tl1Cur} (hF : F_spec_l1Cur_matrix c rows cols = some (r_, m)) :
  CV Tryz.prog 57 #[pt B 0, vi rows, vi cols] w0 (fun v w' => ∃ (B2 : Option Addr) (c2 : Nat), v = (gM_ r_ B2 c2) ∧ ST w0 (bl [⟨B, 55, [.slice B1 n c1, vi c.at_, .int .u64 c.seed], 3⟩]) w' [⟨B, 55, [.slice B1 n c1, vi m.at_, .int .u64 m.seed], 3⟩, ⟨B2, 51, (r_.Cells.flatMap eN0), c2 * 5⟩] []) := by
 subst hn
 unfold F_spec_l1Cur_matrix at hF
 refine cv_of_cw 27 Tryz.func57 rfl Tryz.ntmps57 rfl ?_
 refine cq (cr ?_)
 refine sS 6 (yN kN_ 3 hS K10) ?_
 rintro _ w_ ⟨b, rfl, hS1⟩
 refine rn (cq (cr ?_))
 refine sQ 9 (ym (vi rows)) <| sQ 10 (ym (vi cols)) <| sQ 11 (Y_buildS (zs := kN_) (vs := [(0, vi rows), (1, vi cols)]) (cs := [vi rows, vi cols, .slice none 0 0]) K32 K10 rfl (mpc rfl (mpc rfl mpn)) rfl) ?_
 refine sS 7 (yN kN_ 3 hS1 K10) ?_
 rintro _ w_1 ⟨b1, rfl, hS2⟩
 refine s0 (yT 2 3 (aD b1) 34 (.agg #[vi rows, vi cols, .slice none 0 0]) [vi rows, vi cols, .slice none 0 0] 0 hS2 K4) ?_
 rintro _ w_2 ⟨rfl, hS3⟩
 refine rn (cq (cq (cr ?_)))
 refine sQ 8 (yg (vi 0)) (rn ?_)
 obtain ⟨hN, hF⟩ := chk_inv hF
 obtain ⟨z, hz, hF1⟩ := bI hF
 have hS5 := hS3.addNil 51
 refine cw_block ?_
 refine cw_loop (fun k f w => ∃ (k_ : Nat) (at_ : Int) (seed : Int) (Cells : List TDyadic) (B3 : Option Addr) (c3 : Nat), FF f [(0, pt B 0), (1, vi rows), (2, vi cols), (6, pt (aD b) 0), (7, pt (aD b1) 0), (8, vi (k_ : Int))] ∧ ST w0 (bl [⟨B, 55, [.slice B1 c.code.length c1, vi c.at_, .int .u64 c.seed], 3⟩]) w [⟨B, 55, [.slice B1 c.code.length c1, vi at_, .int .u64 seed], 3⟩, ⟨aD b, 34, kN_, 3⟩, ⟨aD b1, 34, [vi rows, vi cols, .slice B3 Cells.length c3], 3⟩, ⟨B3, 51, (Cells.flatMap eN0), c3 * 5⟩] [⟨B1, (c.code.flatMap enc_u8)⟩] ∧ k_ + k = (i64.wrap (rows * cols)).toNat ∧ forN (F_spec_l1Cur_matrix_l1 c) k k_ (at_, seed, Cells) = some z) ((i64.wrap (rows * cols)).toNat) ⟨0, c.at_, c.seed, [], none, 0, (fc rfl (fc rfl (fc rfl (fc rfl (fc rfl (fc rfl fn_)))))), (hS5.sel [0, 1, 2, 3] rfl rfl), Nat.zero_add _, hz⟩ ?_
 rintro K9 f w ⟨k_, at_, seed, Cells, B3, c3, hf, hS4, hik, hL⟩
 refine cq (cq (cr ?_))
 refine sQ 12 (ym (vi (k_ : Int)) rfl (hf.g 8 5)) <| sQ 13 (ym (vi rows) rfl (hf.g 1 1)) <| sQ 14 (ym (vi cols) rfl (hf.g 2 2)) <| sQ 15 (yX rows cols) <| sQ 16 (yL (k_ : Int) (i64.wrap (rows * cols))) (rn ?_)
 refine cw_cond (b := (decide ((k_ : Int) < (i64.wrap (rows * cols))))) rfl (fun hlt => ?_) (fun hlt => ?_)
 ·skip
  have hlt1 : k_ < (i64.wrap (rows * cols)).toNat := by have h := of_decide_eq_true hlt; omega
  obtain ⟨K22, rfl⟩ : ∃ k2, K9 = k2 + 1 := ⟨K9 - 1, by omega⟩
  obtain ⟨y, hb, hL1⟩ := forN_go hL
  unfold F_spec_l1Cur_matrix_l1 at hb
  refine cw_skip (cq (cw_block ?_))
  obtain ⟨⟨r_1, m1⟩, hc, hb⟩ := bI hb
  obtain ⟨hap, hb⟩ := chk_inv hb
  refine cw_mid (fun f w => ∃ (B5 : Option Addr) (c5 : Nat), FF f [(0, pt B 0), (1, vi rows), (2, vi cols), (6, pt (aD b) 0), (7, pt (aD b1) 0), (8, vi (k_ : Int))] ∧ ST w0 (bl [⟨B, 55, [.slice B1 c.code.length c1, vi c.at_, .int .u64 c.seed], 3⟩]) w [⟨B, 55, [.slice B1 c.code.length c1, vi m1.at_, .int .u64 m1.seed], 3⟩, ⟨aD b, 34, kN_, 3⟩, ⟨aD b1, 34, [vi rows, vi cols, .slice B5 ((Cells ++ [r_1]).length) c5], 3⟩, ⟨B5, 51, ((Cells ++ [r_1]).flatMap eN0), c5 * 5⟩] [⟨B1, (c.code.flatMap enc_u8)⟩]) ?_ ?_
  ·skip
   refine ra_start (hS4.se [1]).fn (by kernel_rfl) ?_
   have hS8 := hS4.drew
   refine rq 0 19 (v := pt (aD b1) 2) rfl (hS8.se [1]) (fun w' hw' => (yd (aD b1) 0 0 K15 K13 rfl (hf.g 7 4))) ?_
   refine rq 2 21 (v := pt B 0) rfl (hS8.se [1]) (fun w' hw' => (ym (pt B 0) rfl (hf.g 0 0))) ?_
   refine rA [1, 3] ?_
   refine ra_y 20 (i := 1) (v := .slice B3 Cells.length c3) rfl rfl rfl (yl (aD b1) 2 [vi rows, vi cols, .slice B3 Cells.length c3] (.slice B3 Cells.length c3) K16 (hS8.c 2)) (hS8.se [1]) ?_ ?_
   ·skip
    refine rA [3] ?_
    refine rC 22 3 rfl (yC [pt B 0] K93 (c_spec_l1Cur_dyadic (Tl1Cur.mk c.code at_ seed) B B1 c1 c.code.length _ rfl (hS8.inn [true, false, false, false] rfl [(true, 0)] rfl) hc)) ?_ ?_
    ·rintro _ w_3 ⟨rfl, hd⟩
     have hS9 := hS8.out [true, false, false, false] rfl hd
     refine ⟨(hS9.se [0]), ?_⟩
     refine rA [4] ?_
     refine rS 23 4 rfl (Ys_bslice (s := 5) (len := 1) (vs := [(0, gD_ r_1)]) (cs := kD_ r_1) (zs := kZ_) (m := 5) hS9 K12 K2 K44 rfl (mpc rfl mpn) rfl rfl rfl (by kernel_rfl) (by kernel_rfl) rfl) ?_ ?_
     ·rintro _ w_4 ⟨b2, rfl, hS10⟩
      refine ⟨(hS10.se [0]), ?_⟩
      refine rA [5] ?_
      refine rS 24 5 rfl (Ys_append (s := 5) (by' := 40) (i := 2) (nn := Cells.length) (c := c3) (k := 1) (len := (Cells ++ [r_1]).length) (B := B3) (xs := ([r_1].flatMap eN0)) (cs' := ((Cells ++ [r_1]).flatMap eN0)) hS10 K12 K2 K45 K6 rfl (by decide) rfl rfl rfl rfl (fm_lenn (l := Cells) eN1 rfl) rfl (hS10.c 4) (fm_lenn (l := [r_1]) eN1 rfl) (fm_one' (enc := eN0) enc_Dyadic_one [r_1]) (by have := hap; omega) (by have := hap; simp only [maxLen]; omega) (fm_app _ _) (app_len (l := Cells) (l' := [r_1]) rfl rfl)) ?_ ?_
      ·rintro _ w_5 ⟨B4, c4, rfl, hS11⟩
       refine ⟨(hS11.se [0]), ?_⟩
       refine rq 6 25 (v := pt (aD b1) 2) rfl (hS11.se [0]) (fun w' hw' => (yd (aD b1) 0 0 K15 K13 rfl (hf.g 7 4))) ?_
       refine rA [7] ?_
       refine rZ 7 rfl (yS 1 1 (aD b1) 34 (.slice B4 ((Cells ++ [r_1]).length) c4) [.slice B4 ((Cells ++ [r_1]).length) c4] 2 [vi rows, vi cols, .slice B4 ((Cells ++ [r_1]).length) c4] hS11 K13) ?_ ?_
       ·rintro _ w_6 ⟨rfl, hS12⟩
        refine ⟨(hS12.se [0]), ?_⟩
        refine ra_done (by kernel_rfl) ?_
        exact ⟨B4, c4, (fc (hf.g 0 0) (fc (hf.g 1 1) (fc (hf.g 2 2) (fc (hf.g 6 3) (fc (hf.g 7 4) (fc (hf.g 8 5) fn_)))))), (hS12.sel [3, 0, 1, 2] rfl rfl)⟩
       exact aN
      exact aN
     exact aN
    exact aN
   refine rC 22 3 rfl (yC [pt B 0] K93 (c_spec_l1Cur_dyadic (Tl1Cur.mk c.code at_ seed) B B1 c1 c.code.length _ rfl (hS8.inn [true, false, false, false] rfl [(true, 0)] rfl) hc)) ?_ ?_
   ·rintro _ w_7 ⟨rfl, hd1⟩
    have hS13 := hS8.out [true, false, false, false] rfl hd1
    refine ⟨(hS13.se [0]), ?_⟩
    refine rA [1, 4] ?_
    refine ra_y 20 (i := 1) (v := .slice B3 Cells.length c3) rfl rfl rfl (yl (aD b1) 2 [vi rows, vi cols, .slice B3 Cells.length c3] (.slice B3 Cells.length c3) K16 (hS13.c 1)) (hS13.se [0]) ?_ ?_
    ·skip
     refine rA [4] ?_
     refine rS 23 4 rfl (Ys_bslice (s := 5) (len := 1) (vs := [(0, gD_ r_1)]) (cs := kD_ r_1) (zs := kZ_) (m := 5) hS13 K12 K2 K44 rfl (mpc rfl mpn) rfl rfl rfl (by kernel_rfl) (by kernel_rfl) rfl) ?_ ?_
     ·rintro _ w_8 ⟨b2, rfl, hS14⟩
      refine ⟨(hS14.se [0]), ?_⟩
      refine rA [5] ?_
      refine rS 24 5 rfl (Ys_append (s := 5) (by' := 40) (i := 2) (nn := Cells.length) (c := c3) (k := 1) (len := (Cells ++ [r_1]).length) (B := B3) (xs := ([r_1].flatMap eN0)) (cs' := ((Cells ++ [r_1]).flatMap eN0)) hS14 K12 K2 K45 K6 rfl (by decide) rfl rfl rfl rfl (fm_lenn (l := Cells) eN1 rfl) rfl (hS14.c 4) (fm_lenn (l := [r_1]) eN1 rfl) (fm_one' (enc := eN0) enc_Dyadic_one [r_1]) (by have := hap; omega) (by have := hap; simp only [maxLen]; omega) (fm_app _ _) (app_len (l := Cells) (l' := [r_1]) rfl rfl)) ?_ ?_
      ·rintro _ w_9 ⟨B4, c4, rfl, hS15⟩
       refine ⟨(hS15.se [0]), ?_⟩
       refine rq 6 25 (v := pt (aD b1) 2) rfl (hS15.se [0]) (fun w' hw' => (yd (aD b1) 0 0 K15 K13 rfl (hf.g 7 4))) ?_
       refine rA [7] ?_
       refine rZ 7 rfl (yS 1 1 (aD b1) 34 (.slice B4 ((Cells ++ [r_1]).length) c4) [.slice B4 ((Cells ++ [r_1]).length) c4] 2 [vi rows, vi cols, .slice B4 ((Cells ++ [r_1]).length) c4] hS15 K13) ?_ ?_
       ·rintro _ w_10 ⟨rfl, hS16⟩
        refine ⟨(hS16.se [0]), ?_⟩
        refine ra_done (by kernel_rfl) ?_
        exact ⟨B4, c4, (fc (hf.g 0 0) (fc (hf.g 1 1) (fc (hf.g 2 2) (fc (hf.g 6 3) (fc (hf.g 7 4) (fc (hf.g 8 5) fn_)))))), (hS16.sel [3, 0, 1, 2] rfl rfl)⟩
       exact aN
      exact aN
     exact aN
    refine rS 23 4 rfl (Ys_bslice (s := 5) (len := 1) (vs := [(0, gD_ r_1)]) (cs := kD_ r_1) (zs := kZ_) (m := 5) hS13 K12 K2 K44 rfl (mpc rfl mpn) rfl rfl rfl (by kernel_rfl) (by kernel_rfl) rfl) ?_ ?_
    ·rintro _ w_11 ⟨b2, rfl, hS17⟩
     refine ⟨(hS17.se [0]), ?_⟩
     refine rA [1] ?_
     refine ra_y 20 (i := 1) (v := .slice B3 Cells.length c3) rfl rfl rfl (yl (aD b1) 2 [vi rows, vi cols, .slice B3 Cells.length c3] (.slice B3 Cells.length c3) K16 (hS17.c 1)) (hS17.se [0]) ?_ ?_
     ·skip
      refine rA [5] ?_
      refine rS 24 5 rfl (Ys_append (s := 5) (by' := 40) (i := 2) (nn := Cells.length) (c := c3) (k := 1) (len := (Cells ++ [r_1]).length) (B := B3) (xs := ([r_1].flatMap eN0)) (cs' := ((Cells ++ [r_1]).flatMap eN0)) hS17 K12 K2 K45 K6 rfl (by decide) rfl rfl rfl rfl (fm_lenn (l := Cells) eN1 rfl) rfl (hS17.c 4) (fm_lenn (l := [r_1]) eN1 rfl) (fm_one' (enc := eN0) enc_Dyadic_one [r_1]) (by have := hap; omega) (by have := hap; simp only [maxLen]; omega) (fm_app _ _) (app_len (l := Cells) (l' := [r_1]) rfl rfl)) ?_ ?_
      ·rintro _ w_12 ⟨B4, c4, rfl, hS18⟩
       refine ⟨(hS18.se [0]), ?_⟩
       refine rq 6 25 (v := pt (aD b1) 2) rfl (hS18.se [0]) (fun w' hw' => (yd (aD b1) 0 0 K15 K13 rfl (hf.g 7 4))) ?_
       refine rA [7] ?_
       refine rZ 7 rfl (yS 1 1 (aD b1) 34 (.slice B4 ((Cells ++ [r_1]).length) c4) [.slice B4 ((Cells ++ [r_1]).length) c4] 2 [vi rows, vi cols, .slice B4 ((Cells ++ [r_1]).length) c4] hS18 K13) ?_ ?_
       ·rintro _ w_13 ⟨rfl, hS19⟩
        refine ⟨(hS19.se [0]), ?_⟩
        refine ra_done (by kernel_rfl) ?_
        exact ⟨B4, c4, (fc (hf.g 0 0) (fc (hf.g 1 1) (fc (hf.g 2 2) (fc (hf.g 6 3) (fc (hf.g 7 4) (fc (hf.g 8 5) fn_)))))), (hS19.sel [3, 0, 1, 2] rfl rfl)⟩
       exact aN
      exact aN
     exact aN
    exact aN
   exact aN
  rintro f w ⟨B5, c5, hf1, hS7⟩
  refine cr ?_
  refine sQ 17 (ym (vi (k_ : Int)) rfl (hf1.g 8 5)) <| sQ 18 (yP (k_ : Int) 1) <| sQ 8 (yg (vi (i64.wrap ((k_ : Int) + 1)))) (rn ?_)
  obtain rfl := sI hb
  exact ⟨K22, Nat.lt_succ_self _, k_ + 1, m1.at_, m1.seed, (Cells ++ [r_1]), B5, c5, (fc (hf1.g 0 0) (fc (hf1.g 1 1) (fc (hf1.g 2 2) (fc (hf1.g 6 3) (fc (hf1.g 7 4) (fc (congrArg (Value.int .i64) (wr_succ hlt1 hN)) fn_)))))), (hS7.sel [0, 1, 2, 3] rfl rfl), (by omega), hL1⟩
 ·skip
  obtain rfl : K9 = 0 := by have h := of_decide_eq_false hlt; omega
  refine cw_exit rfl ?_
  obtain rfl := sI hL
  refine cq (cr ?_)
  refine sQ 26 (yb (aD b1) 0 [vi rows, vi cols, .slice B3 Cells.length c3] K8 K4 (hS4.c 2) rfl (hf.g 7 4)) ?_
  refine s0 (yT 1 3 (aD b) 34 (.agg #[vi rows, vi cols, .slice B3 Cells.length c3]) [vi rows, vi cols, .slice B3 Cells.length c3] 0 hS4 K4 rfl (hf.g 6 3)) ?_
  rintro _ w_14 ⟨rfl, hS20⟩
  refine rn (ct_ ?_)
  obtain ⟨rfl, rfl⟩ := pr2 (sI hF1)
  exact ret1 Tryz.results57 (v1 := .agg #[vi rows, vi cols, .slice B3 Cells.length c3]) (resAt_cellA (B := aD b) (i := 0) (cs := [vi rows, vi cols, .slice B3 Cells.length c3]) (vs := [vi rows, vi cols, .slice B3 Cells.length c3]) (hf.g 6 3) K8 K4 (hS20.c 1) rfl rfl) ⟨B3, c3, rfl, (hS20.sN [0, 3])⟩

theorem c_spec_l1Cur_coef (c : Tl1Cur) (B : Option Addr) (B1 : Option Addr) (c1 n : Nat) (w0 : World) (hn : c.code.length = n) (hS : ST w0 (bl [⟨B, 55, [.slice B1 n c1, vi c.at_, .int .u64 c.seed], 3⟩]) w0 [⟨B, 55, [.slice B1 n c1, vi c.at_, .int .u64 c.seed], 3⟩] [⟨B1, (c.code.flatMap enc_u8)⟩]) {r_ : Int} {m : Tl1Cur} (hF : F_spec_l1Cur_coef c = some (r_, m)) :
  CV Tryz.prog 110 #[pt B 0] w0 (fun v w' => v = vi r_ ∧ ST w0 (bl [⟨B, 55, [.slice B1 n c1, vi c.at_, .int .u64 c.seed], 3⟩]) w' [⟨B, 55, [.slice B1 n c1, vi m.at_, .int .u64 m.seed], 3⟩] []) := by
 subst hn
 unfold F_spec_l1Cur_coef at hF
 refine cv_of_cw 24 Tryz.func110 rfl Tryz.ntmps110 rfl ?_
 refine cq (cr ?_)
 refine sQ 2 (yg (vi 0)) (rn (cq (cq (cr ?_))))
 refine sQ 3 (ym (pt B 0)) ?_
 obtain ⟨⟨r_1, m1⟩, hc, hF⟩ := bI hF
 refine sc 4 rfl rfl (yC [pt B 0, vi 24] K24 (c_spec_l1Cur_pick c 24 B B1 c1 c.code.length _ rfl (hS.inn [true] rfl [(true, 0)] rfl) hc)) ?_
 rintro _ w_ ⟨rfl, hd⟩
 have hS1 := hS.out [true] rfl hd
 refine rn (cw_block (cq (cr ?_)))
 refine sQ 6 (yE r_1 0) <| sQ 5 (yg (.bool (r_1 == 0))) (rn ?_)
 refine cw_cond (b := (r_1 == 0)) rfl (fun hb => ?_) (fun hb => ?_)
 ·skip
  have hF1 := ct hF hb
  refine cq (cr ?_)
  refine sQ 7 (ym (pt B 0)) ?_
  refine sS 8 (Ys_bslice (s := 1) (len := 4) (vs := [(0, vi 1000000000), (1, vi (-1000000000)), (2, vi 1000000001), (3, vi (-1000000001))]) (cs := [vi 1000000000, vi (-1000000000), vi 1000000001, vi (-1000000001)]) (zs := [vi 0, vi 0, vi 0, vi 0]) (m := 4) hS1 K27 K0 K38 rfl (mpc rfl (mpc rfl (mpc rfl (mpc rfl mpn)))) rfl rfl rfl (by kernel_rfl) (by kernel_rfl) rfl) ?_
  rintro _ w_1 ⟨b, rfl, hS2⟩
  obtain ⟨⟨r_2, m2⟩, hc1, hF1⟩ := bI hF1
  refine sc 9 rfl rfl (yC [pt B 0, .slice (aD b) 4 4] K47 (c_spec_l1Cur_among (Tl1Cur.mk c.code m1.at_ m1.seed) [1000000000, (-1000000000), 1000000001, (-1000000001)] B B1 c1 c.code.length (aD b) 4 4 _ rfl rfl (hS2.inn [true, false] rfl [(true, 0), (false, 0)] rfl) hc1)) ?_
  rintro _ w_2 ⟨rfl, hd1⟩
  have hS3 := hS2.out [true, false] rfl hd1
  refine sQ 2 (yg (vi r_2)) (rn (ct_ ?_))
  obtain ⟨rfl, rfl⟩ := pr2 (sI hF1)
  exact ret1 Tryz.results110 (v1 := vi r_2) (resAt_tmp rfl) ⟨rfl, (hS3.sN [1])⟩
 ·skip
  have hF2 := cf' hF hb
  refine cq (cr ?_)
  refine sQ 11 (yE r_1 1) <| sQ 10 (yg (.bool (r_1 == 1))) (rn ?_)
  refine cw_cond (b := (r_1 == 1)) rfl (fun hb1 => ?_) (fun hb1 => ?_)
  ·skip
   have hF3 := ct hF2 hb1
   refine cq (cr ?_)
   refine sQ 12 (ym (pt B 0)) ?_
   obtain ⟨⟨r_3, m3⟩, hc2, hF3⟩ := bI hF3
   refine sc 13 rfl rfl (yC [pt B 0, vi 60000] K24 (c_spec_l1Cur_pick (Tl1Cur.mk c.code m1.at_ m1.seed) 60000 B B1 c1 c.code.length _ rfl (hS1.inn [true] rfl [(true, 0)] rfl) hc2)) ?_
   rintro _ w_3 ⟨rfl, hd2⟩
   have hS4 := hS1.out [true] rfl hd2
   refine sQ 14 (yX r_3 1000) <| sQ 2 (yg (vi (i64.wrap (r_3 * 1000)))) (rn (ct_ ?_))
   obtain ⟨rfl, rfl⟩ := pr2 (sI hF3)
   exact ret1 Tryz.results110 (v1 := vi (i64.wrap (r_3 * 1000))) (resAt_tmp rfl) ⟨rfl, (hS4.sN [0])⟩
  ·skip
   have hF4 := cf' hF2 hb1
   refine cq ?_
   obtain ⟨z, hz, hF5⟩ := bI hF4
   refine cw_mid (fun f w => ∃ (t : Bool), t = z ∧ FF f [(0, pt B 0), (15, .bool t)] ∧ ST w0 (bl [⟨B, 55, [.slice B1 c.code.length c1, vi c.at_, .int .u64 c.seed], 3⟩]) w [⟨B, 55, [.slice B1 c.code.length c1, vi m1.at_, .int .u64 m1.seed], 3⟩] [⟨B1, (c.code.flatMap enc_u8)⟩]) ?_ ?_
   ·skip
    refine cq (cr ?_)
    refine sQ 16 (yE r_1 2) <| sQ 15 (yg (.bool (r_1 == 2))) (rn ?_)
    refine cw_cond (b := (r_1 == 2)) rfl (fun hb2 => ?_) (fun hb2 => ?_)
    ·skip
     have hF6 := ct hz hb2
     refine cw_skip ?_
     exact ⟨(r_1 == 2), (sI hF6), (fc rfl (fc rfl fn_)), (hS1.sel [0] rfl rfl)⟩
    ·skip
     have hF7 := cf' hz hb2
     refine cr ?_
     refine sQ 17 (yE r_1 3) <| sQ 15 (yg (.bool (r_1 == 3))) (rn ?_)
     exact ⟨(r_1 == 3), (sI hF7), (fc rfl (fc rfl fn_)), (hS1.sel [0] rfl rfl)⟩
   rintro f w ⟨t, rfl, hf, hS5⟩
   refine cw_cond (b := t) (hf.g 15 1) (fun hb3 => ?_) (fun hb3 => ?_)
   ·skip
    have hF8 := ct hF5 hb3
    refine cq (cr ?_)
    refine sQ 18 (ym (pt B 0) rfl (hf.g 0 0)) ?_
    obtain ⟨⟨r_4, m4⟩, hc3, hF8⟩ := bI hF8
    refine sc 19 rfl rfl (yC [pt B 0, vi 2000] K24 (c_spec_l1Cur_pick (Tl1Cur.mk c.code m1.at_ m1.seed) 2000 B B1 c1 c.code.length _ rfl (hS5.inn [true] rfl [(true, 0)] rfl) hc3)) ?_
    rintro _ w_4 ⟨rfl, hd3⟩
    have hS6 := hS5.out [true] rfl hd3
    refine sQ 20 (yM r_4 1000) <| sQ 2 (yg (vi (i64.wrap (r_4 - 1000)))) (rn (ct_ ?_))
    obtain ⟨rfl, rfl⟩ := pr2 (sI hF8)
    exact ret1 Tryz.results110 (v1 := vi (i64.wrap (r_4 - 1000))) (resAt_tmp rfl) ⟨rfl, (hS6.sN [0])⟩
   ·skip
    have hF9 := cf' hF5 hb3
    refine cw_skip (cq (cr ?_))
    refine sQ 21 (ym (pt B 0) rfl (hf.g 0 0)) ?_
    obtain ⟨⟨r_5, m5⟩, hc4, hF9⟩ := bI hF9
    refine sc 22 rfl rfl (yC [pt B 0, vi 9] K24 (c_spec_l1Cur_pick (Tl1Cur.mk c.code m1.at_ m1.seed) 9 B B1 c1 c.code.length _ rfl (hS5.inn [true] rfl [(true, 0)] rfl) hc4)) ?_
    rintro _ w_5 ⟨rfl, hd4⟩
    have hS7 := hS5.out [true] rfl hd4
    refine sQ 23 (yM r_5 4) <| sQ 2 (yg (vi (i64.wrap (r_5 - 4)))) (rn (ct_ ?_))
    obtain ⟨rfl, rfl⟩ := pr2 (sI hF9)
    exact ret1 Tryz.results110 (v1 := vi (i64.wrap (r_5 - 4))) (resAt_tmp rfl) ⟨rfl, (hS7.sN [0])⟩

theorem c_spec_l1Cur_anyRing (c : Tl1Cur) (B : Option Addr) (B1 : Option Addr) (c1 n : Nat) (w0 : World) (hn : c.code.length = n) (hS : ST w0 (bl [⟨B, 55, [.slice B1 n c1, vi c.at_, .int .u64 c.seed], 3⟩]) w0 [⟨B, 55, [.slice B1 n c1, vi c.at_, .int .u64 c.seed], 3⟩] [⟨B1, (c.code.flatMap enc_u8)⟩]) {r_ : TRing} {m : Tl1Cur} (hF : F_spec_l1Cur_anyRing c = some (r_, m)) :
  CV Tryz.prog 89 #[pt B 0] w0 (fun v w' => v = (gR_ r_) ∧ ST w0 (bl [⟨B, 55, [.slice B1 n c1, vi c.at_, .int .u64 c.seed], 3⟩]) w' [⟨B, 55, [.slice B1 n c1, vi m.at_, .int .u64 m.seed], 3⟩] []) := by
 subst hn
 unfold F_spec_l1Cur_anyRing at hF
 refine cv_of_cw 16 Tryz.func89 rfl Tryz.ntmps89 rfl ?_
 refine cq (cr ?_)
 refine sS 2 (yN [vi 0, vi 0, vi 0, vi 0] 4 hS K14) ?_
 rintro _ w_ ⟨b, rfl, hS1⟩
 refine rn (cq (cq (cr ?_)))
 refine sQ 3 (ym (pt B 0)) ?_
 obtain ⟨⟨r_1, m1⟩, hc, hF⟩ := bI hF
 refine sc 4 rfl rfl (yC [pt B 0, vi 3] K55 (c_spec_l1Cur_one c 3 B B1 c1 c.code.length _ rfl (hS1.inn [true, false] rfl [(true, 0)] rfl) hc)) ?_
 rintro _ w_1 ⟨rfl, hd⟩
 have hS2 := hS1.out [true, false] rfl hd
 refine rn ?_
 refine cw_cond (b := r_1) rfl (fun hb => ?_) (fun hb => ?_)
 ·skip
  have hF1 := ct hF hb
  refine cq (cr ?_)
  refine sQ 5 (ym (pt B 0)) ?_
  obtain ⟨⟨r_2, m2⟩, hc1, hF1⟩ := bI hF1
  refine sc 6 rfl rfl (yC [pt B 0] K94 (c_spec_l1Cur_coef (Tl1Cur.mk c.code m1.at_ m1.seed) B B1 c1 c.code.length _ rfl (hS2.inn [false, true] rfl [(true, 0)] rfl) hc1)) ?_
  rintro _ w_2 ⟨rfl, hd1⟩
  have hS3 := hS2.out [false, true] rfl hd1
  refine sQ 7 (ym (pt B 0)) ?_
  obtain ⟨⟨r_3, m3⟩, hc2, hF1⟩ := bI hF1
  refine sc 8 rfl rfl (yC [pt B 0] K94 (c_spec_l1Cur_coef (Tl1Cur.mk c.code m2.at_ m2.seed) B B1 c1 c.code.length _ rfl (hS3.inn [false, true] rfl [(true, 0)] rfl) hc2)) ?_
  rintro _ w_3 ⟨rfl, hd2⟩
  have hS4 := hS3.out [false, true] rfl hd2
  refine sQ 9 (ym (pt B 0)) ?_
  obtain ⟨⟨r_4, m4⟩, hc3, hF1⟩ := bI hF1
  refine sc 10 rfl rfl (yC [pt B 0] K94 (c_spec_l1Cur_coef (Tl1Cur.mk c.code m3.at_ m3.seed) B B1 c1 c.code.length _ rfl (hS4.inn [false, true] rfl [(true, 0)] rfl) hc3)) ?_
  rintro _ w_4 ⟨rfl, hd3⟩
  have hS5 := hS4.out [false, true] rfl hd3
  refine sQ 11 (ym (pt B 0)) ?_
  obtain ⟨⟨r_5, m5⟩, hc4, hF1⟩ := bI hF1
  refine sc 12 rfl rfl (yC [pt B 0] K94 (c_spec_l1Cur_coef (Tl1Cur.mk c.code m4.at_ m4.seed) B B1 c1 c.code.length _ rfl (hS5.inn [false, true] rfl [(true, 0)] rfl) hc4)) ?_
  rintro _ w_5 ⟨rfl, hd4⟩
  have hS6 := hS5.out [false, true] rfl hd4
  refine sQ 13 (Y_buildS (zs := [vi 0, vi 0, vi 0, vi 0]) (vs := [(0, vi r_2), (1, vi r_3), (2, vi r_4), (3, vi r_5)]) (cs := [vi r_2, vi r_3, vi r_4, vi r_5]) K31 K14 rfl (mpc rfl (mpc rfl (mpc rfl (mpc rfl mpn)))) rfl) ?_
  refine s0 (yT 0 4 (aD b) 49 (.agg #[vi r_2, vi r_3, vi r_4, vi r_5]) [vi r_2, vi r_3, vi r_4, vi r_5] 0 hS6 K3) ?_
  rintro _ w_6 ⟨rfl, hS7⟩
  refine rn (ct_ ?_)
  obtain ⟨rfl, rfl⟩ := pr2 (sI hF1)
  exact ret1 Tryz.results89 (v1 := .agg #[vi r_2, vi r_3, vi r_4, vi r_5]) (resAt_cellA (B := aD b) (i := 0) (cs := [vi r_2, vi r_3, vi r_4, vi r_5]) (vs := [vi r_2, vi r_3, vi r_4, vi r_5]) rfl K7 K3 (hS7.c 0) rfl rfl) ⟨rfl, (hS7.sN [1])⟩
 ·skip
  have hF2 := cf' hF hb
  refine cw_skip (cq (cr ?_))
  refine sQ 14 (ym (pt B 0)) ?_
  obtain ⟨⟨r_6, m6⟩, hc5, hF2⟩ := bI hF2
  refine sc 15 rfl rfl (yC [pt B 0] K111 (c_spec_l1Cur_ring (Tl1Cur.mk c.code m1.at_ m1.seed) B B1 c1 c.code.length _ rfl (hS2.inn [false, true] rfl [(true, 0)] rfl) hc5)) ?_
  rintro _ w_7 ⟨rfl, hd5⟩
  have hS8 := hS2.out [false, true] rfl hd5
  refine s0 (yT 0 4 (aD b) 49 (gR_ r_6) (kR_ r_6) 0 hS8 K3) ?_
  rintro _ w_8 ⟨rfl, hS9⟩
  refine rn (ct_ ?_)
  obtain ⟨rfl, rfl⟩ := pr2 (sI hF2)
  exact ret1 Tryz.results89 (v1 := gR_ r_6) (resAt_cellA (B := aD b) (i := 0) (cs := kR_ r_6) (vs := kR_ r_6) rfl K7 K3 (hS9.c 0) rfl rfl) ⟨rfl, (hS9.sN [1])⟩

theorem c_spec_l1All (l : List Int) (lo : Int) (hi : Int) (B : Option Addr) (c n : Nat) (w0 : World) (hn : l.length = n) (hS : ST w0 [] w0 [] [⟨B, (l.flatMap encI)⟩]) {r_ : Bool} (hF : F_spec_l1All l lo hi = some r_) :
  CV Tryz.prog 111 #[.slice B n c, vi lo, vi hi] w0 (fun v w' => v = .bool r_ ∧ ST w0 [] w' [] []) := by
 subst hn
 unfold F_spec_l1All at hF
 refine cv_of_cw 21 Tryz.func111 rfl Tryz.ntmps111 rfl ?_
 refine cq (cr ?_)
 refine sQ 6 (yg (.bool false)) (rn (cq (cq (cr ?_))))
 refine sQ 9 (ym (.slice B l.length c)) <| sQ 10 (Y_len (B := B) (m := l.length) (c := c) K27 rfl rfl) <| sQ 11 (ym (vi 0)) (rn ?_)
 obtain ⟨hN, hF⟩ := chk_inv hF
 obtain ⟨z, hz, hF1⟩ := bI hF
 refine cw_block ?_
 refine cw_loop (fun k f w => ∃ (i : Nat), FF f [(1, vi lo), (2, vi hi), (9, .slice B l.length c), (10, vi (l.length : Int)), (11, vi (i : Int))] ∧ ST w0 [] w [] [⟨B, (l.flatMap encI)⟩] ∧ i + k = l.length ∧ forX (F_spec_l1All_l1 l lo hi) k i () = some z) l.length ⟨0, (fc rfl (fc rfl (fc rfl (fc rfl (fc rfl fn_))))), (hS.sel [] rfl rfl), Nat.zero_add _, hz⟩ ?_
 rintro k_ f w ⟨i, hf, hS1, hik, hL⟩
 refine cq (cr ?_)
 refine sQ 12 (yL (i : Int) (l.length : Int) rfl (hf.g 11 4) (hf.g 10 3)) (rn (cq ?_))
 refine cw_cond (b := (decide ((i : Int) < (l.length : Int)))) rfl (fun hlt => ?_) (fun hlt => ?_)
 ·skip
  have hlt1 : i < l.length := by have h := of_decide_eq_true hlt; omega
  obtain ⟨K9, rfl⟩ : ∃ k2, k_ = k2 + 1 := ⟨k_ - 1, by omega⟩
  obtain ⟨y, hb, hL1⟩ := forX_go hL
  unfold F_spec_l1All_l1 at hb
  refine cw_skip (cq (cw_block (cq (cr ?_))))
  obtain ⟨x, hx, hb⟩ := bI hb
  refine sQ 13 (Y_index (B := B) (m := l.length) (c := c) (k := .i64) (i := (i : Int)) K27 K0 rfl (hf.g 9 2) (hf.g 11 4) (gi_isSome encI_len rfl (hS1.rf (i := 0) rfl) hx) (getI_nn hx) (getI_ltI hx rfl)) <| sQ 14 (yl B ((i : Int).toNat * 1) (l.flatMap encI) (vi x) K1 (hS1.rf (i := 0) rfl) rfl rfl (gi_at0 encI_len hx rfl)) <| sQ 8 (yg (vi x)) (rn (cq (cr ?_)))
  refine sQ 15 (ym (vi x)) <| sQ 16 (ym (vi lo) rfl (hf.g 1 0)) <| sQ 17 (ym (vi hi) rfl (hf.g 2 1)) ?_
  obtain ⟨r_1, hc, hb⟩ := bI hb
  refine sc 18 rfl rfl (yC [vi x, vi lo, vi hi] K56 (c_spec_l1In x lo hi _  (hS1.inn0 [] rfl) hc)) ?_
  rintro _ w_ ⟨rfl, hd⟩
  have hS2 := hS1.out00 hd
  refine sQ 19 (Y_not (p := r_1) rfl rfl) (rn ?_)
  refine cw_cond (b := (!r_1)) rfl (fun hb1 => ?_) (fun hb1 => ?_)
  ·skip
   have hF2 := ct hb hb1
   refine cq (cr ?_)
   refine sQ 6 (yg (.bool false)) (rn (ct_ ?_))
   obtain rfl := sI hF2
   obtain rfl := sI hL1
   obtain rfl := sI hF1
   exact ret1 Tryz.results111 (v1 := .bool false) (resAt_tmp rfl) ⟨rfl, (hS2.sN [])⟩
  ·skip
   have hF3 := cf' hb hb1
   refine cw_skip (cr ?_)
   refine sQ 20 (yP (i : Int) 1 rfl (hf.g 11 4)) <| sQ 11 (ym (vi (i64.wrap ((i : Int) + 1)))) (rn ?_)
   obtain rfl := sI hF3
   exact ⟨K9, Nat.lt_succ_self _, i + 1, (fc (hf.g 1 0) (fc (hf.g 2 1) (fc (hf.g 9 2) (fc (hf.g 10 3) (fc (congrArg (Value.int .i64) (wr_succ hlt1 hN)) fn_))))), (hS2.sel [] rfl rfl), (by omega), hL1⟩
 ·skip
  obtain rfl : k_ = 0 := by have h := of_decide_eq_false hlt; omega
  refine cw_exit rfl ?_
  obtain rfl := sI hL
  refine cq (cr ?_)
  refine sQ 6 (yg (.bool true)) (rn (ct_ ?_))
  obtain rfl := sI hF1
  exact ret1 Tryz.results111 (v1 := .bool true) (resAt_tmp rfl) ⟨rfl, (hS1.sN [])⟩

theorem c_spec_l1Good (x : TRing)  (w0 : World)  (hS : ST w0 [] w0 [] []) {r_ : Bool} (hF : F_spec_l1Good x = some r_) :
  CV Tryz.prog 90 #[gR_ x] w0 (fun v w' => v = .bool r_ ∧ ST w0 [] w' [] []) := by
 unfold F_spec_l1Good at hF
 refine cv_of_cw 13 Tryz.func90 rfl Tryz.ntmps90 rfl ?_
 refine cq (cr ?_)
 refine sS 1 (yB 49 (gR_ x) (kR_ x) 4 hS) ?_
 rintro _ w_ ⟨b, rfl, hS1⟩
 refine sQ 2 (yg (.bool false)) (rn (cq (cr ?_)))
 refine sQ 3 (yd (aD b) 0 0 K17 K0) <| sQ 4 (yl (aD b) 0 (kR_ x) (vi x.A) K1 (hS1.c 0)) <| sQ 5 (yd (aD b) 0 0 K18 K0) <| sQ 6 (yl (aD b) 1 (kR_ x) (vi x.B) K1 (hS1.c 0)) <| sQ 7 (yd (aD b) 0 0 K19 K0) <| sQ 8 (yl (aD b) 2 (kR_ x) (vi x.C) K1 (hS1.c 0)) ?_
 refine sQ 9 (yd (aD b) 0 0 K20 K0) <| sQ 10 (yl (aD b) 3 (kR_ x) (vi x.D) K1 (hS1.c 0)) ?_
 refine sS 11 (Ys_bslice (s := 1) (len := 4) (vs := [(0, vi x.A), (1, vi x.B), (2, vi x.C), (3, vi x.D)]) (cs := kR_ x) (zs := [vi 0, vi 0, vi 0, vi 0]) (m := 4) hS1 K27 K0 K38 rfl (mpc rfl (mpc rfl (mpc rfl (mpc rfl mpn)))) rfl rfl rfl (by kernel_rfl) (by kernel_rfl) rfl) ?_
 rintro _ w_1 ⟨b1, rfl, hS2⟩
 obtain ⟨r_1, hc, hF⟩ := bI hF
 refine sc 12 rfl rfl (yC [.slice (aD b1) 4 4, vi (-1000000000), vi 1000000000] k_call_111 (c_spec_l1All [x.A, x.B, x.C, x.D] (-1000000000) 1000000000 (aD b1) 4 4 _ rfl (hS2.inn0 [(false, 1)] rfl) hc)) ?_
 rintro _ w_2 ⟨rfl, hd⟩
 have hS3 := hS2.out00 hd
 refine sQ 2 (yg (.bool r_1)) (rn (ct_ ?_))
 obtain rfl := sI hF
 exact ret1 Tryz.results90 (v1 := .bool r_1) (resAt_tmp rfl) ⟨rfl, (hS3.sN [])⟩

theorem c_spec_l1Cur_anyDyadic (c : Tl1Cur) (B : Option Addr) (B1 : Option Addr) (c1 n : Nat) (w0 : World) (hn : c.code.length = n) (hS : ST w0 (bl [⟨B, 55, [.slice B1 n c1, vi c.at_, .int .u64 c.seed], 3⟩]) w0 [⟨B, 55, [.slice B1 n c1, vi c.at_, .int .u64 c.seed], 3⟩] [⟨B1, (c.code.flatMap enc_u8)⟩]) {r_ : TDyadic} {m : Tl1Cur} (hF : F_spec_l1Cur_anyDyadic c = some (r_, m)) :
  CV Tryz.prog 59 #[pt B 0] w0 (fun v w' => v = (gD_ r_) ∧ ST w0 (bl [⟨B, 55, [.slice B1 n c1, vi c.at_, .int .u64 c.seed], 3⟩]) w' [⟨B, 55, [.slice B1 n c1, vi m.at_, .int .u64 m.seed], 3⟩] []) := by
 subst hn
 unfold F_spec_l1Cur_anyDyadic at hF
 refine cv_of_cw 32 Tryz.func59 rfl Tryz.ntmps59 rfl ?_
 refine cq (cr ?_)
 refine sS 2 (yN kZ_ 5 hS K6) ?_
 rintro _ w_ ⟨b, rfl, hS1⟩
 refine rn (cq ?_)
 obtain ⟨z, hz, hF1⟩ := bI hF
 refine cw_mid (fun f w => ∃ (at_ : Int) (seed : Int), .inl (at_, seed) = z ∧ FF f [(0, pt B 0), (2, pt (aD b) 0)] ∧ ST w0 (bl [⟨B, 55, [.slice B1 c.code.length c1, vi c.at_, .int .u64 c.seed], 3⟩]) w [⟨B, 55, [.slice B1 c.code.length c1, vi at_, .int .u64 seed], 3⟩, ⟨aD b, 51, kZ_, 5⟩] [⟨B1, (c.code.flatMap enc_u8)⟩]) ?_ ?_
 ·skip
  refine cq (cr ?_)
  refine sQ 4 (ym (pt B 0)) ?_
  obtain ⟨⟨r_1, m1⟩, hc, hz⟩ := bI hz
  refine sc 5 rfl rfl (yC [pt B 0, vi 14] K24 (c_spec_l1Cur_pick c 14 B B1 c1 c.code.length _ rfl (hS1.inn [true, false] rfl [(true, 0)] rfl) hc)) ?_
  rintro _ w_1 ⟨rfl, hd⟩
  have hS3 := hS1.out [true, false] rfl hd
  refine rn (cw_block (cq (cr ?_)))
  refine sQ 7 (yE r_1 0) <| sQ 6 (yg (.bool (r_1 == 0))) (rn ?_)
  refine cw_cond (b := (r_1 == 0)) rfl (fun hb => ?_) (fun hb => ?_)
  ·skip
   have hF2 := ct hz hb
   refine cq (cr ?_)
   refine sQ 8 (ym (pt B 0)) ?_
   obtain ⟨⟨r_2, m2⟩, hc1, hF2⟩ := bI hF2
   refine sc 9 rfl rfl (yC [pt B 0] K111 (c_spec_l1Cur_ring (Tl1Cur.mk c.code m1.at_ m1.seed) B B1 c1 c.code.length _ rfl (hS3.inn [false, true] rfl [(true, 0)] rfl) hc1)) ?_
   rintro _ w_2 ⟨rfl, hd1⟩
   have hS4 := hS3.out [false, true] rfl hd1
   refine sQ 10 (ym (pt B 0)) ?_
   refine sS 11 (Ys_bslice (s := 1) (len := 5) (vs := [(0, vi 1), (1, vi 2), (2, vi 60), (3, vi 61), (4, vi (-1))]) (cs := [vi 1, vi 2, vi 60, vi 61, vi (-1)]) (zs := kZ_) (m := 5) hS4 K27 K0 K38 rfl (mpc rfl (mpc rfl (mpc rfl (mpc rfl (mpc rfl mpn))))) rfl rfl rfl (by kernel_rfl) (by kernel_rfl) rfl) ?_
   rintro _ w_3 ⟨b1, rfl, hS5⟩
   obtain ⟨⟨r_3, m3⟩, hc2, hF2⟩ := bI hF2
   refine sc 12 rfl rfl (yC [pt B 0, .slice (aD b1) 5 5] K47 (c_spec_l1Cur_among (Tl1Cur.mk c.code m2.at_ m2.seed) [1, 2, 60, 61, (-1)] B B1 c1 c.code.length (aD b1) 5 5 _ rfl rfl (hS5.inn [false, true, false] rfl [(true, 0), (false, 1)] rfl) hc2)) ?_
   rintro _ w_4 ⟨rfl, hd2⟩
   have hS6 := hS5.out [false, true, false] rfl hd2
   refine sQ 13 (Y_buildS (zs := kZ_) (vs := [(0, gR_ r_2), (1, vi r_3)]) (cs := [vi r_2.A, vi r_2.B, vi r_2.C, vi r_2.D, vi r_3]) K21 K6 rfl (mpc rfl (mpc rfl mpn)) rfl) ?_
   refine s0 (yT 0 5 (aD b) 51 (.agg #[vi r_2.A, vi r_2.B, vi r_2.C, vi r_2.D, vi r_3]) [vi r_2.A, vi r_2.B, vi r_2.C, vi r_2.D, vi r_3] 0 hS6 K2) ?_
   rintro _ w_5 ⟨rfl, hS7⟩
   refine rn (ct_ ?_)
   obtain rfl := sI hF2
   obtain ⟨rfl, rfl⟩ := pr2 (sI hF1)
   exact ret1 Tryz.results59 (v1 := .agg #[vi r_2.A, vi r_2.B, vi r_2.C, vi r_2.D, vi r_3]) (resAt_cellA (B := aD b) (i := 0) (cs := [vi r_2.A, vi r_2.B, vi r_2.C, vi r_2.D, vi r_3]) (vs := [vi r_2.A, vi r_2.B, vi r_2.C, vi r_2.D, vi r_3]) rfl K5 K2 (hS7.c 0) rfl rfl) ⟨rfl, (hS7.sN [2])⟩
  ·skip
   have hF3 := cf' hz hb
   refine cq (cr ?_)
   refine sQ 15 (yE r_1 1) <| sQ 14 (yg (.bool (r_1 == 1))) (rn ?_)
   refine cw_cond (b := (r_1 == 1)) rfl (fun hb1 => ?_) (fun hb1 => ?_)
   ·skip
    have hF4 := ct hF3 hb1
    refine cq (cr ?_)
    refine sQ 16 (ym (pt B 0)) ?_
    obtain ⟨⟨r_4, m4⟩, hc3, hF4⟩ := bI hF4
    refine sc 17 rfl rfl (yC [pt B 0] k_call_89 (c_spec_l1Cur_anyRing (Tl1Cur.mk c.code m1.at_ m1.seed) B B1 c1 c.code.length _ rfl (hS3.inn [false, true] rfl [(true, 0)] rfl) hc3)) ?_
    rintro _ w_6 ⟨rfl, hd3⟩
    have hS8 := hS3.out [false, true] rfl hd3
    refine sS 3 (yN [vi 0, vi 0, vi 0, vi 0] 4 hS8 K14) ?_
    rintro _ w_7 ⟨b2, rfl, hS9⟩
    have hS9 : ST w0 (bl [⟨B, 55, [.slice B1 c.code.length c1, vi c.at_, .int .u64 c.seed], 3⟩]) _ [⟨aD b, 51, kZ_, 5⟩, ⟨B, 55, [.slice B1 c.code.length c1, vi m4.at_, .int .u64 m4.seed], 3⟩, ⟨aD b2, 49, [vi 0, vi 0, vi 0, vi 0], 4⟩] [⟨B1, (c.code.flatMap enc_u8)⟩] := hS9
    refine s0 (yT 2 4 (aD b2) 49 (gR_ r_4) (kR_ r_4) 0 hS9 K3) ?_
    rintro _ w_8 ⟨rfl, hS10⟩
    refine rn (cq (cr ?_))
    refine sQ 18 (yb (aD b2) 0 (kR_ r_4) K7 K3 (hS10.c 2)) ?_
    obtain ⟨r_5, hc4, hF4⟩ := bI hF4
    refine sc 19 rfl rfl (yC [gR_ r_4] K112 (c_spec_l1Good r_4 _  (hS10.inn0 [] rfl) hc4)) ?_
    rintro _ w_9 ⟨rfl, hd4⟩
    have hS11 := hS10.out00 hd4
    refine rn ?_
    refine cw_cond (b := r_5) rfl (fun hb2 => ?_) (fun hb2 => ?_)
    ·skip
     have hF5 := ct hF4 hb2
     refine cq ?_
     obtain ⟨⟨r_6, m5⟩, hc5, hF5⟩ := bI hF5
     obtain ⟨r_7, hc6, hF5⟩ := bI hF5
     refine ra_start (hS11.se [2]).fn (by kernel_rfl) ?_
     have hS14 := hS11.drew
     refine rq 0 20 (v := gR_ r_4) rfl (hS14.se [2]) (fun w' hw' => (yb (aD b2) 0 (kR_ r_4) K7 K3 (ST.cf hw' (i := 0) rfl))) ?_
     refine rq 1 21 (v := pt B 0) rfl (hS14.se [2]) (fun w' hw' => (ym (pt B 0))) ?_
     refine rA [2] ?_
     refine rS 22 2 rfl (Ys_bslice (s := 1) (len := 4) (vs := [(0, vi 0), (1, vi 3), (2, vi 59), (3, vi 60)]) (cs := [vi 0, vi 3, vi 59, vi 60]) (zs := [vi 0, vi 0, vi 0, vi 0]) (m := 4) hS14 K27 K0 K38 rfl (mpc rfl (mpc rfl (mpc rfl (mpc rfl mpn)))) rfl rfl rfl (by kernel_rfl) (by kernel_rfl) rfl) ?_ ?_
     ·rintro _ w_10 ⟨b3, rfl, hS15⟩
      refine ⟨(hS15.se [2]), ?_⟩
      refine rA [3] ?_
      refine rC 23 3 rfl (yC [pt B 0, .slice (aD b3) 4 4] K47 (c_spec_l1Cur_among (Tl1Cur.mk c.code m4.at_ m4.seed) [0, 3, 59, 60] B B1 c1 c.code.length (aD b3) 4 4 _ rfl rfl (hS15.inn [false, true, false, false] rfl [(true, 0), (false, 2)] rfl) hc5)) ?_ ?_
      ·rintro _ w_11 ⟨rfl, hd5⟩
       have hS16 := hS15.out [false, true, false, false] rfl hd5
       refine ⟨(hS16.se [1]), ?_⟩
       refine rA [4] ?_
       refine rC 24 4 rfl (yC [gR_ r_4, vi r_6] K92 (c_spec_l2Low r_4 r_6 _  (hS16.inn0 [] rfl) hc6)) ?_ ?_
       ·rintro _ w_12 ⟨rfl, hd6⟩
        have hS17 := hS16.out00 hd6
        refine ⟨(hS17.se [1]), ?_⟩
        refine rA [5] ?_
        refine rZ 5 rfl (yT 0 5 (aD b) 51 (gD_ r_7) (kD_ r_7) 0 hS17 K2) ?_ ?_
        ·rintro _ w_13 ⟨rfl, hS18⟩
         refine ⟨(hS18.se [1]), ?_⟩
         refine ra_done (by kernel_rfl) ?_
         refine ct_ ?_
         obtain rfl := sI hF5
         obtain ⟨rfl, rfl⟩ := pr2 (sI hF1)
         exact ret1 Tryz.results59 (v1 := gD_ r_7) (resAt_cellA (B := aD b) (i := 0) (cs := kD_ r_7) (vs := kD_ r_7) rfl K5 K2 (hS18.c 0) rfl rfl) ⟨rfl, (hS18.sN [3])⟩
        exact aN
       exact aN
      exact aN
     exact aN
    ·skip
     have hF6 := cf' hF4 hb2
     refine cw_skip ?_
     exact ⟨m4.at_, m4.seed, (sI hF6), (fc rfl (fc rfl fn_)), (hS11.sel [1, 0] rfl rfl)⟩
   ·skip
    have hF7 := cf' hF3 hb1
    refine cq (cr ?_)
    refine sQ 26 (yE r_1 2) <| sQ 25 (yg (.bool (r_1 == 2))) (rn ?_)
    refine cw_cond (b := (r_1 == 2)) rfl (fun hb3 => ?_) (fun hb3 => ?_)
    ·skip
     have hF8 := ct hF7 hb3
     refine cq (cr ?_)
     refine sQ 27 (ym (pt B 0)) ?_
     obtain ⟨⟨r_8, m6⟩, hc7, hF8⟩ := bI hF8
     refine sc 28 rfl rfl (yC [pt B 0, vi 8] K24 (c_spec_l1Cur_pick (Tl1Cur.mk c.code m1.at_ m1.seed) 8 B B1 c1 c.code.length _ rfl (hS3.inn [false, true] rfl [(true, 0)] rfl) hc7)) ?_
     rintro _ w_14 ⟨rfl, hd7⟩
     have hS19 := hS3.out [false, true] rfl hd7
     obtain ⟨r_9, hc8, hF8⟩ := bI hF8
     refine sc 29 rfl rfl (yC [vi r_8] K46 (c_spec_l2Power r_8 _  (hS19.inn0 [] rfl) hc8)) ?_
     rintro _ w_15 ⟨rfl, hd8⟩
     have hS20 := hS19.out00 hd8
     have hS20 : ST w0 (bl [⟨B, 55, [.slice B1 c.code.length c1, vi c.at_, .int .u64 c.seed], 3⟩]) _ [⟨aD b, 51, kZ_, 5⟩, ⟨B, 55, [.slice B1 c.code.length c1, vi m6.at_, .int .u64 m6.seed], 3⟩] [⟨B1, (c.code.flatMap enc_u8)⟩] := hS20
     refine s0 (yT 0 5 (aD b) 51 (gD_ r_9) (kD_ r_9) 0 hS20 K2) ?_
     rintro _ w_16 ⟨rfl, hS21⟩
     refine rn (ct_ ?_)
     obtain rfl := sI hF8
     obtain ⟨rfl, rfl⟩ := pr2 (sI hF1)
     exact ret1 Tryz.results59 (v1 := gD_ r_9) (resAt_cellA (B := aD b) (i := 0) (cs := kD_ r_9) (vs := kD_ r_9) rfl K5 K2 (hS21.c 0) rfl rfl) ⟨rfl, (hS21.sN [1])⟩
    ·skip
     have hF9 := cf' hF7 hb3
     refine cw_skip ?_
     exact ⟨m1.at_, m1.seed, (sI hF9), (fc rfl (fc rfl fn_)), (hS3.sel [1, 0] rfl rfl)⟩
 rintro f w ⟨at_, seed, rfl, hf, hS2⟩
 refine cq (cr ?_)
 refine sQ 30 (ym (pt B 0) rfl (hf.g 0 0)) ?_
 obtain ⟨⟨r_10, m7⟩, hc9, hF1⟩ := bI hF1
 refine sc 31 rfl rfl (yC [pt B 0] K93 (c_spec_l1Cur_dyadic (Tl1Cur.mk c.code at_ seed) B B1 c1 c.code.length _ rfl (hS2.inn [true, false] rfl [(true, 0)] rfl) hc9)) ?_
 rintro _ w_17 ⟨rfl, hd9⟩
 have hS22 := hS2.out [true, false] rfl hd9
 refine s0 (yT 0 5 (aD b) 51 (gD_ r_10) (kD_ r_10) 0 hS22 K2 rfl (hf.g 2 1)) ?_
 rintro _ w_18 ⟨rfl, hS23⟩
 refine rn (ct_ ?_)
 obtain ⟨rfl, rfl⟩ := pr2 (sI hF1)
 exact ret1 Tryz.results59 (v1 := gD_ r_10) (resAt_cellA (B := aD b) (i := 0) (cs := kD_ r_10) (vs := kD_ r_10) (hf.g 2 1) K5 K2 (hS23.c 0) rfl rfl) ⟨rfl, (hS23.sN [1])⟩

theorem c_spec_l1Cur_anyMatrix (c : Tl1Cur) (B : Option Addr) (B1 : Option Addr) (c1 n : Nat) (w0 : World) (hn : c.code.length = n) (hS : ST w0 (bl [⟨B, 55, [.slice B1 n c1, vi c.at_, .int .u64 c.seed], 3⟩]) w0 [⟨B, 55, [.slice B1 n c1, vi c.at_, .int .u64 c.seed], 3⟩] [⟨B1, (c.code.flatMap enc_u8)⟩]) {r_ : TMatrix} {m : Tl1Cur} (hF : F_spec_l1Cur_anyMatrix c = some (r_, m)) :
  CV Tryz.prog 27 #[pt B 0] w0 (fun v w' => ∃ (B2 : Option Addr) (c2 : Nat), v = (gM_ r_ B2 c2) ∧ r_.Cells.length ≤ c2 ∧ Org w0 (bl [⟨B, 55, [.slice B1 n c1, vi c.at_, .int .u64 c.seed], 3⟩]) [⟨B1, (c.code.flatMap enc_u8)⟩] [⟨B2, (r_.Cells.flatMap eN0)⟩] ∧ ST w0 (bl [⟨B, 55, [.slice B1 n c1, vi c.at_, .int .u64 c.seed], 3⟩]) w' [⟨B, 55, [.slice B1 n c1, vi m.at_, .int .u64 m.seed], 3⟩] [⟨B2, (r_.Cells.flatMap eN0)⟩]) := by
 subst hn
 unfold F_spec_l1Cur_anyMatrix at hF
 refine cv_of_cw 45 Tryz.func27 rfl Tryz.ntmps27 rfl ?_
 refine cq (cr ?_)
 refine sS 2 (yN kN_ 3 hS K10) ?_
 rintro _ w_ ⟨b, rfl, hS1⟩
 refine rn (cq (cr ?_))
 refine sQ 4 (ym (pt B 0)) <| sQ 5 (ym (pt B 0)) ?_
 refine sS 6 (Ys_bslice (s := 1) (len := 4) (vs := [(0, vi 1), (1, vi 2), (2, vi 2), (3, vi 4)]) (cs := [vi 1, vi 2, vi 2, vi 4]) (zs := [vi 0, vi 0, vi 0, vi 0]) (m := 4) hS1 K27 K0 K38 rfl (mpc rfl (mpc rfl (mpc rfl (mpc rfl mpn)))) rfl rfl rfl (by kernel_rfl) (by kernel_rfl) rfl) ?_
 rintro _ w_1 ⟨b1, rfl, hS2⟩
 obtain ⟨⟨r_1, m1⟩, hc, hF⟩ := bI hF
 refine sc 7 rfl rfl (yC [pt B 0, .slice (aD b1) 4 4] K47 (c_spec_l1Cur_among c [1, 2, 2, 4] B B1 c1 c.code.length (aD b1) 4 4 _ rfl rfl (hS2.inn [true, false, false] rfl [(true, 0), (false, 1)] rfl) hc)) ?_
 rintro _ w_2 ⟨rfl, hd⟩
 have hS3 := hS2.out [true, false, false] rfl hd
 refine sQ 8 (ym (pt B 0)) ?_
 refine sS 9 (Ys_bslice (s := 1) (len := 4) (vs := [(0, vi 1), (1, vi 2), (2, vi 2), (3, vi 4)]) (cs := [vi 1, vi 2, vi 2, vi 4]) (zs := [vi 0, vi 0, vi 0, vi 0]) (m := 4) hS3 K27 K0 K38 rfl (mpc rfl (mpc rfl (mpc rfl (mpc rfl mpn)))) rfl rfl rfl (by kernel_rfl) (by kernel_rfl) rfl) ?_
 rintro _ w_3 ⟨b2, rfl, hS4⟩
 obtain ⟨⟨r_2, m2⟩, hc1, hF⟩ := bI hF
 refine sc 10 rfl rfl (yC [pt B 0, .slice (aD b2) 4 4] K47 (c_spec_l1Cur_among (Tl1Cur.mk c.code m1.at_ m1.seed) [1, 2, 2, 4] B B1 c1 c.code.length (aD b2) 4 4 _ rfl rfl (hS4.inn [false, false, true, false] rfl [(true, 0), (false, 2)] rfl) hc1)) ?_
 rintro _ w_4 ⟨rfl, hd1⟩
 have hS5 := hS4.out [false, false, true, false] rfl hd1
 obtain ⟨⟨r_3, m3⟩, hc2, hF⟩ := bI hF
 refine sc 11 rfl rfl (yC [pt B 0, vi r_1, vi r_2] k_call_57 (c_spec_l1Cur_matrix (Tl1Cur.mk c.code m2.at_ m2.seed) r_1 r_2 B B1 c1 c.code.length _ rfl (hS5.inn [false, false, false, true] rfl [(true, 0)] rfl) hc2)) ?_
 rintro _ w_5 ⟨B3, c3, rfl, hd2⟩
 have hS6 := hS5.out [false, false, false, true] rfl hd2
 refine sS 3 (yN kN_ 3 hS6 K10) ?_
 rintro _ w_6 ⟨b3, rfl, hS7⟩
 refine s0 (yT 5 3 (aD b3) 34 (gM_ r_3 B3 c3) (kM_ r_3 B3 c3) 0 hS7 K4) ?_
 rintro _ w_7 ⟨rfl, hS8⟩
 refine rn (cq ?_)
 obtain ⟨z, hz, hF1⟩ := bI hF
 refine cw_mid (fun f w => ∃ (at_ : Int) (seed : Int) (Rows : Int) (Cols : Int) (Cells : List TDyadic) (B4 : Option Addr) (c4 : Nat), (at_, seed, Rows, Cols, Cells) = z ∧ FF f [(2, pt (aD b) 0), (3, pt (aD b3) 0)] ∧ Org w0 (bl [⟨B, 55, [.slice B1 c.code.length c1, vi c.at_, .int .u64 c.seed], 3⟩]) [⟨B1, (c.code.flatMap enc_u8)⟩] [⟨B4, (Cells.flatMap eN0)⟩] ∧ Cells.length ≤ c4 ∧ ST w0 (bl [⟨B, 55, [.slice B1 c.code.length c1, vi c.at_, .int .u64 c.seed], 3⟩]) w [⟨B, 55, [.slice B1 c.code.length c1, vi at_, .int .u64 seed], 3⟩, ⟨aD b, 34, kN_, 3⟩, ⟨aD b3, 34, [vi Rows, vi Cols, .slice B4 Cells.length c4], 3⟩] [⟨B4, (Cells.flatMap eN0)⟩, ⟨B1, (c.code.flatMap enc_u8)⟩]) ?_ ?_
 ·skip
  refine cq (cr ?_)
  refine sQ 12 (ym (pt B 0)) ?_
  obtain ⟨⟨r_4, m4⟩, hc3, hz⟩ := bI hz
  refine sc 13 rfl rfl (yC [pt B 0, vi 12] K24 (c_spec_l1Cur_pick (Tl1Cur.mk c.code m3.at_ m3.seed) 12 B B1 c1 c.code.length _ rfl (hS8.inn [false, false, false, true, false, false] rfl [(true, 0)] rfl) hc3)) ?_
  rintro _ w_8 ⟨rfl, hd3⟩
  have hS10 := hS8.out [false, false, false, true, false, false] rfl hd3
  refine rn (cw_block (cq (cr ?_)))
  refine sQ 15 (yE r_4 0) <| sQ 14 (yg (.bool (r_4 == 0))) (rn ?_)
  refine cw_cond (b := (r_4 == 0)) rfl (fun hb => ?_) (fun hb => ?_)
  ·skip
   have hF2 := ct hz hb
   refine cr ?_
   refine sQ 16 (ym (pt B 0)) ?_
   refine sS 17 (Ys_bslice (s := 1) (len := 5) (vs := [(0, vi 0), (1, vi 3), (2, vi 64), (3, vi (-1)), (4, vi 1)]) (cs := [vi 0, vi 3, vi 64, vi (-1), vi 1]) (zs := kZ_) (m := 5) hS10 K27 K0 K38 rfl (mpc rfl (mpc rfl (mpc rfl (mpc rfl (mpc rfl mpn))))) rfl rfl rfl (by kernel_rfl) (by kernel_rfl) rfl) ?_
   rintro _ w_9 ⟨b4, rfl, hS11⟩
   obtain ⟨⟨r_5, m5⟩, hc4, hF2⟩ := bI hF2
   refine sc 18 rfl rfl (yC [pt B 0, .slice (aD b4) 5 5] K47 (c_spec_l1Cur_among (Tl1Cur.mk c.code m4.at_ m4.seed) [0, 3, 64, (-1), 1] B B1 c1 c.code.length (aD b4) 5 5 _ rfl rfl (hS11.inn [false, false, false, false, false, true, false] rfl [(true, 0), (false, 5)] rfl) hc4)) ?_
   rintro _ w_10 ⟨rfl, hd4⟩
   have hS12 := hS11.out [false, false, false, false, false, true, false] rfl hd4
   refine sQ 19 (yd (aD b3) 0 0 K34 K0) ?_
   refine s0 (yS 4 1 (aD b3) 34 (vi r_5) [vi r_5] 0 [vi r_5, vi r_3.Cols, .slice B3 r_3.Cells.length c3] hS12 K0) ?_
   rintro _ w_11 ⟨rfl, hS13⟩
   refine rn ?_
   have ho1 : Org w0 (bl [⟨B, 55, [.slice B1 c.code.length c1, vi c.at_, .int .u64 c.seed], 3⟩]) [⟨B1, (c.code.flatMap enc_u8)⟩] [⟨B3, (r_3.Cells.flatMap eN0)⟩] := ST.orgOwn hS13 (i := 3) rfl
   have hcap : r_3.Cells.length ≤ c3 := (hS13.lencap (i := 3) rfl (fm_lenn (l := r_3.Cells) eN1 rfl) rfl rfl)
   have hS14 : ST w0 (bl [⟨B, 55, [.slice B1 c.code.length c1, vi c.at_, .int .u64 c.seed], 3⟩]) _ [⟨aD b, 34, kN_, 3⟩, ⟨aD b1, 3, ([1, 2, 2, 4].flatMap encI), 4 * 1⟩, ⟨aD b2, 3, ([1, 2, 2, 4].flatMap encI), 4 * 1⟩, ⟨aD b3, 34, [vi r_5, vi r_3.Cols, .slice B3 r_3.Cells.length c3], 3⟩, ⟨aD b4, 3, ([0, 3, 64, (-1), 1].flatMap encI), 5 * 1⟩, ⟨B, 55, [.slice B1 c.code.length c1, vi m5.at_, .int .u64 m5.seed], 3⟩] [⟨B3, (r_3.Cells.flatMap eN0)⟩, ⟨B1, (c.code.flatMap enc_u8)⟩] := hS13.freeze (i := 3) rfl
   exact ⟨m5.at_, m5.seed, r_5, r_3.Cols, r_3.Cells, B3, c3, (sI hF2), (fc rfl (fc rfl fn_)), ho1, (len_le rfl hcap), (hS14.sel [5, 0, 3] rfl rfl)⟩
  ·skip
   have hF3 := cf' hz hb
   refine cq (cr ?_)
   refine sQ 21 (yE r_4 1) <| sQ 20 (yg (.bool (r_4 == 1))) (rn ?_)
   refine cw_cond (b := (r_4 == 1)) rfl (fun hb1 => ?_) (fun hb1 => ?_)
   ·skip
    have hF4 := ct hF3 hb1
    obtain ⟨⟨r_6, m6⟩, hc5, hF4⟩ := bI hF4
    obtain ⟨⟨r_7, m7⟩, hc6, hF4⟩ := bI hF4
    obtain ⟨x, hx, hF4⟩ := bI hF4
    refine ra_start (hS10.se [0, 1, 2, 4]).fn (by kernel_rfl) ?_
    have hS17 := hS10.drew
    refine rq 0 22 (v := pt (aD b3) 2) rfl (hS17.se [0, 1, 2, 4]) (fun w' hw' => (yd (aD b3) 0 0 K15 K13)) ?_
    refine rq 1 23 (v := .slice B3 r_3.Cells.length c3) rfl (hS17.se [0, 1, 2, 4]) (fun w' hw' => (yl (aD b3) 2 (kM_ r_3 B3 c3) (.slice B3 r_3.Cells.length c3) K16 (ST.cf hw' (i := 3) rfl))) ?_
    refine rq 2 24 (v := pt B 0) rfl (hS17.se [0, 1, 2, 4]) (fun w' hw' => (ym (pt B 0))) ?_
    refine rq 3 25 (v := pt (aD b3) 2) rfl (hS17.se [0, 1, 2, 4]) (fun w' hw' => (yd (aD b3) 0 0 K15 K13)) ?_
    refine rq 4 26 (v := .slice B3 r_3.Cells.length c3) rfl (hS17.se [0, 1, 2, 4]) (fun w' hw' => (yl (aD b3) 2 (kM_ r_3 B3 c3) (.slice B3 r_3.Cells.length c3) K16 (ST.cf hw' (i := 3) rfl))) ?_
    refine rq 5 27 (v := vi (r_3.Cells.length : Int)) rfl (hS17.se [0, 1, 2, 4]) (fun w' hw' => (Y_len (B := B3) (m := r_3.Cells.length) (c := c3) K12 rfl rfl)) ?_
    refine rq 7 29 (v := pt B 0) rfl (hS17.se [0, 1, 2, 4]) (fun w' hw' => (ym (pt B 0))) ?_
    refine rA [6] ?_
    refine rC 28 6 rfl (yC [pt B 0, vi (r_3.Cells.length : Int)] K24 (c_spec_l1Cur_pick (Tl1Cur.mk c.code m4.at_ m4.seed) (r_3.Cells.length : Int) B B1 c1 c.code.length _ rfl (hS17.inn [false, false, false, false, false, true] rfl [(true, 0)] rfl) hc5)) ?_ ?_
    ·rintro _ w_12 ⟨rfl, hd5⟩
     have hS18 := hS17.out [false, false, false, false, false, true] rfl hd5
     refine ⟨(hS18.se [0, 1, 2, 4]), ?_⟩
     refine rA [8] ?_
     refine rC 30 8 rfl (yC [pt B 0] k_call_59 (c_spec_l1Cur_anyDyadic (Tl1Cur.mk c.code m6.at_ m6.seed) B B1 c1 c.code.length _ rfl (hS18.inn [false, false, false, false, false, true] rfl [(true, 0)] rfl) hc6)) ?_ ?_
     ·rintro _ w_13 ⟨rfl, hd6⟩
      have hS19 := hS18.out [false, false, false, false, false, true] rfl hd6
      refine ⟨(hS19.se [0, 1, 2, 4]), ?_⟩
      refine rA [9] ?_
      refine ra_y 31 (i := 9) (v := pt B3 (r_6.toNat * 5)) rfl rfl rfl (Y_index (B := B3) (m := r_3.Cells.length) (c := c3) (k := .i64) (i := r_6) K12 K2 rfl rfl rfl (gi_isSome eN1 rfl (hS19.c 3) hx) (getI_nn hx) (getI_ltI hx rfl)) (hS19.se [0, 1, 2, 4]) ?_ ?_
      ·skip
       refine rA [10] ?_
       refine rZ 10 rfl (yS 3 5 B3 51 (gD_ r_7) (kD_ r_7) (r_6.toNat * 5) ((r_3.Cells.set r_6.toNat r_7).flatMap eN0) hS19 K2 rfl rfl rfl rfl rfl rfl rfl (gi_fit0 eN1 hx) (gi_set eN1 hx r_7 rfl)) ?_ ?_
       ·rintro _ w_14 ⟨rfl, hS20⟩
        refine ⟨(hS20.se [0, 1, 2, 4]), ?_⟩
        refine ra_done (by kernel_rfl) ?_
        have ho2 : Org w0 (bl [⟨B, 55, [.slice B1 c.code.length c1, vi c.at_, .int .u64 c.seed], 3⟩]) [⟨B1, (c.code.flatMap enc_u8)⟩] [⟨B3, ((r_3.Cells.set r_6.toNat r_7).flatMap eN0)⟩] := ST.orgOwn hS20 (i := 3) rfl
        have hcap1 : r_3.Cells.length ≤ c3 := (hS20.lencap (i := 3) rfl (fm_lenn (l := (r_3.Cells.set r_6.toNat r_7)) eN1 (set_len _ _ _ rfl)) rfl rfl)
        have hS21 : ST w0 (bl [⟨B, 55, [.slice B1 c.code.length c1, vi c.at_, .int .u64 c.seed], 3⟩]) _ [⟨aD b, 34, kN_, 3⟩, ⟨aD b1, 3, ([1, 2, 2, 4].flatMap encI), 4 * 1⟩, ⟨aD b2, 3, ([1, 2, 2, 4].flatMap encI), 4 * 1⟩, ⟨aD b3, 34, kM_ r_3 B3 c3, 3⟩, ⟨B, 55, [.slice B1 c.code.length c1, vi m7.at_, .int .u64 m7.seed], 3⟩] [⟨B3, ((r_3.Cells.set r_6.toNat r_7).flatMap eN0)⟩, ⟨B1, (c.code.flatMap enc_u8)⟩] := hS20.freeze (i := 3) rfl
        exact ⟨m7.at_, m7.seed, r_3.Rows, r_3.Cols, (r_3.Cells.set r_6.toNat r_7), B3, c3, (sI hF4), (fc rfl (fc rfl fn_)), ho2, (len_le (set_len _ _ _ rfl) hcap1), (by rw [((set_len _ _ _ rfl) : (r_3.Cells.set r_6.toNat r_7).length = r_3.Cells.length)]; exact hS21.sel [4, 0, 3] rfl rfl)⟩
       exact aN
      exact aN
     exact aN
    exact aN
   ·skip
    have hF5 := cf' hF3 hb1
    refine cq (cr ?_)
    refine sQ 33 (yE r_4 2) <| sQ 32 (yg (.bool (r_4 == 2))) (rn ?_)
    refine cw_cond (b := (r_4 == 2)) rfl (fun hb2 => ?_) (fun hb2 => ?_)
    ·skip
     have hF6 := ct hF5 hb2
     refine cr ?_
     refine sQ 34 (yd (aD b3) 0 0 K15 K13) <| sQ 35 (yl (aD b3) 2 (kM_ r_3 B3 c3) (.slice B3 r_3.Cells.length c3) K16 (hS10.c 4)) ?_
     obtain ⟨hsl, hF6⟩ := chk_inv hF6
     have hcap2 : r_3.Cells.length ≤ c3 := (hS10.lencap (i := 3) rfl (fm_lenn (l := r_3.Cells) eN1 rfl) rfl rfl)
     have ho4 : Org w0 (bl [⟨B, 55, [.slice B1 c.code.length c1, vi c.at_, .int .u64 c.seed], 3⟩]) [⟨B1, (c.code.flatMap enc_u8)⟩] [⟨B3, (r_3.Cells.flatMap eN0)⟩] := ST.orgOwn hS10 (i := 3) rfl
     have hcap3 : r_3.Cells.length ≤ c3 := (hS10.lencap (i := 3) rfl (fm_lenn (l := r_3.Cells) eN1 rfl) rfl rfl)
     have hS22 : ST w0 (bl [⟨B, 55, [.slice B1 c.code.length c1, vi c.at_, .int .u64 c.seed], 3⟩]) _ [⟨aD b, 34, kN_, 3⟩, ⟨aD b1, 3, ([1, 2, 2, 4].flatMap encI), 4 * 1⟩, ⟨aD b2, 3, ([1, 2, 2, 4].flatMap encI), 4 * 1⟩, ⟨aD b3, 34, kM_ r_3 B3 c3, 3⟩, ⟨B, 55, [.slice B1 c.code.length c1, vi m4.at_, .int .u64 m4.seed], 3⟩] [⟨B3, (r_3.Cells.flatMap eN0)⟩, ⟨B1, (c.code.flatMap enc_u8)⟩] := hS10.freeze (i := 3) rfl
     have hv : (List.drop 1 r_3.Cells).length = (r_3.Cells.length - 1) := (drop_len rfl)
     have hq1 : (r_3.Cells.length - 1) ≤ (c3 - 1) := by omega
     have ho3 : Org w0 (bl [⟨B, 55, [.slice B1 c.code.length c1, vi c.at_, .int .u64 c.seed], 3⟩]) [⟨B1, (c.code.flatMap enc_u8)⟩] [⟨(sv B3 1 c3 5), ((List.drop 1 r_3.Cells).flatMap eN0)⟩] := org_view eN1 (q := c3) ho4 rfl (take_all rfl _)
     have hS23 : ST w0 (bl [⟨B, 55, [.slice B1 c.code.length c1, vi c.at_, .int .u64 c.seed], 3⟩]) _ [⟨aD b, 34, kN_, 3⟩, ⟨aD b1, 3, ([1, 2, 2, 4].flatMap encI), 4 * 1⟩, ⟨aD b2, 3, ([1, 2, 2, 4].flatMap encI), 4 * 1⟩, ⟨aD b3, 34, kM_ r_3 B3 c3, 3⟩, ⟨B, 55, [.slice B1 c.code.length c1, vi m4.at_, .int .u64 m4.seed], 3⟩] [⟨(sv B3 1 c3 5), ((List.drop 1 r_3.Cells).flatMap eN0)⟩, ⟨B3, (r_3.Cells.flatMap eN0)⟩, ⟨B1, (c.code.flatMap enc_u8)⟩] := ST.view eN1 hS22 (i := 0) rfl (lo := 1) (h := r_3.Cells.length) (q := c3) (by omega) (by omega) rfl (take_all rfl _)
     refine sQ 36 (Y_slice1 (B := B3) (m := r_3.Cells.length) (c := c3) (l := 1) (h := r_3.Cells.length) (s := 5) K12 K2 rfl rfl rfl (bnd_some rfl rfl) (by omega) (by omega)) <| sQ 37 (yd (aD b3) 0 0 K15 K13) ?_
     refine s0 (yS 3 1 (aD b3) 34 (.slice (sv B3 1 c3 5) (r_3.Cells.length - 1) (c3 - 1)) [.slice (sv B3 1 c3 5) (r_3.Cells.length - 1) (c3 - 1)] 2 [vi r_3.Rows, vi r_3.Cols, .slice (sv B3 1 c3 5) (r_3.Cells.length - 1) (c3 - 1)] hS23 K13) ?_
     rintro _ w_15 ⟨rfl, hS24⟩
     refine rn ?_
     have hS25 : ST w0 (bl [⟨B, 55, [.slice B1 c.code.length c1, vi c.at_, .int .u64 c.seed], 3⟩]) _ [⟨aD b, 34, kN_, 3⟩, ⟨aD b1, 3, ([1, 2, 2, 4].flatMap encI), 4 * 1⟩, ⟨aD b2, 3, ([1, 2, 2, 4].flatMap encI), 4 * 1⟩, ⟨aD b3, 34, [vi r_3.Rows, vi r_3.Cols, .slice (sv B3 1 c3 5) (r_3.Cells.length - 1) (c3 - 1)], 3⟩, ⟨B, 55, [.slice B1 c.code.length c1, vi m4.at_, .int .u64 m4.seed], 3⟩] [⟨(sv B3 1 c3 5), ((List.drop 1 r_3.Cells).flatMap eN0)⟩, ⟨B1, (c.code.flatMap enc_u8)⟩] := ST.subR hS24 (sk 0 (sk 2 (fun _ h => by cases h)))
     exact ⟨m4.at_, m4.seed, r_3.Rows, r_3.Cols, (List.drop 1 r_3.Cells), (sv B3 1 c3 5), (c3 - 1), (sI hF6), (fc rfl (fc rfl fn_)), ho3, (len_le hv hq1), (by rw [(hv : (List.drop 1 r_3.Cells).length = (r_3.Cells.length - 1))]; exact hS25.sel [4, 0, 3] rfl rfl)⟩
    ·skip
     have hF7 := cf' hF5 hb2
     refine cq (cr ?_)
     refine sQ 39 (yE r_4 3) <| sQ 38 (yg (.bool (r_4 == 3))) (rn ?_)
     refine cw_cond (b := (r_4 == 3)) rfl (fun hb3 => ?_) (fun hb3 => ?_)
     ·skip
      have hF8 := ct hF7 hb3
      refine cr ?_
      refine sQ 40 (ym (pt B 0)) ?_
      refine sS 41 (Ys_bslice (s := 1) (len := 3) (vs := [(0, vi 1), (1, vi 2), (2, vi 4)]) (cs := [vi 1, vi 2, vi 4]) (zs := [vi 0, vi 0, vi 0]) (m := 3) hS10 K27 K0 K38 rfl (mpc rfl (mpc rfl (mpc rfl mpn))) rfl rfl rfl (by kernel_rfl) (by kernel_rfl) rfl) ?_
      rintro _ w_16 ⟨b5, rfl, hS26⟩
      obtain ⟨⟨r_8, m8⟩, hc7, hF8⟩ := bI hF8
      refine sc 42 rfl rfl (yC [pt B 0, .slice (aD b5) 3 3] K47 (c_spec_l1Cur_among (Tl1Cur.mk c.code m4.at_ m4.seed) [1, 2, 4] B B1 c1 c.code.length (aD b5) 3 3 _ rfl rfl (hS26.inn [false, false, false, false, false, true, false] rfl [(true, 0), (false, 5)] rfl) hc7)) ?_
      rintro _ w_17 ⟨rfl, hd7⟩
      have hS27 := hS26.out [false, false, false, false, false, true, false] rfl hd7
      obtain ⟨r_9, hc8, hF8⟩ := bI hF8
      refine sc 43 rfl rfl (yC [vi r_8] K82 (c_spec_l3Unit r_8 _  (hS27.inn0 [] rfl) hc8)) ?_
      rintro _ w_18 ⟨B5, c5, rfl, hd8⟩
      have hS28 := hS27.out0 hd8
      refine s0 (yT 4 3 (aD b3) 34 (gM_ r_9 B5 c5) (kM_ r_9 B5 c5) 0 hS28 K4) ?_
      rintro _ w_19 ⟨rfl, hS29⟩
      refine rn ?_
      have ho5 : Org w0 (bl [⟨B, 55, [.slice B1 c.code.length c1, vi c.at_, .int .u64 c.seed], 3⟩]) [⟨B1, (c.code.flatMap enc_u8)⟩] [⟨B5, (r_9.Cells.flatMap eN0)⟩] := ST.orgOwn hS29 (i := 7) rfl
      have hcap4 : r_9.Cells.length ≤ c5 := (hS29.lencap (i := 7) rfl (fm_lenn (l := r_9.Cells) eN1 rfl) rfl rfl)
      have hS30 : ST w0 (bl [⟨B, 55, [.slice B1 c.code.length c1, vi c.at_, .int .u64 c.seed], 3⟩]) _ [⟨aD b, 34, kN_, 3⟩, ⟨aD b1, 3, ([1, 2, 2, 4].flatMap encI), 4 * 1⟩, ⟨aD b2, 3, ([1, 2, 2, 4].flatMap encI), 4 * 1⟩, ⟨B3, 51, (r_3.Cells.flatMap eN0), c3 * 5⟩, ⟨aD b3, 34, kM_ r_9 B5 c5, 3⟩, ⟨aD b5, 3, ([1, 2, 4].flatMap encI), 3 * 1⟩, ⟨B, 55, [.slice B1 c.code.length c1, vi m8.at_, .int .u64 m8.seed], 3⟩] [⟨B5, (r_9.Cells.flatMap eN0)⟩, ⟨B1, (c.code.flatMap enc_u8)⟩] := hS29.freeze (i := 7) rfl
      exact ⟨m8.at_, m8.seed, r_9.Rows, r_9.Cols, r_9.Cells, B5, c5, (sI hF8), (fc rfl (fc rfl fn_)), ho5, (len_le rfl hcap4), (hS30.sel [6, 0, 4] rfl rfl)⟩
     ·skip
      have hF9 := cf' hF7 hb3
      refine cw_skip ?_
      have ho6 : Org w0 (bl [⟨B, 55, [.slice B1 c.code.length c1, vi c.at_, .int .u64 c.seed], 3⟩]) [⟨B1, (c.code.flatMap enc_u8)⟩] [⟨B3, (r_3.Cells.flatMap eN0)⟩] := ST.orgOwn hS10 (i := 3) rfl
      have hcap5 : r_3.Cells.length ≤ c3 := (hS10.lencap (i := 3) rfl (fm_lenn (l := r_3.Cells) eN1 rfl) rfl rfl)
      have hS31 : ST w0 (bl [⟨B, 55, [.slice B1 c.code.length c1, vi c.at_, .int .u64 c.seed], 3⟩]) _ [⟨aD b, 34, kN_, 3⟩, ⟨aD b1, 3, ([1, 2, 2, 4].flatMap encI), 4 * 1⟩, ⟨aD b2, 3, ([1, 2, 2, 4].flatMap encI), 4 * 1⟩, ⟨aD b3, 34, kM_ r_3 B3 c3, 3⟩, ⟨B, 55, [.slice B1 c.code.length c1, vi m4.at_, .int .u64 m4.seed], 3⟩] [⟨B3, (r_3.Cells.flatMap eN0)⟩, ⟨B1, (c.code.flatMap enc_u8)⟩] := hS10.freeze (i := 3) rfl
      exact ⟨m4.at_, m4.seed, r_3.Rows, r_3.Cols, r_3.Cells, B3, c3, (sI hF9), (fc rfl (fc rfl fn_)), ho6, (len_le rfl hcap5), (hS31.sel [4, 0, 3] rfl rfl)⟩
 rintro f w ⟨at_, seed, Rows, Cols, Cells, B4, c4, rfl, hf, ho, hq, hS9⟩
 refine cq (cr ?_)
 refine sQ 44 (yb (aD b3) 0 [vi Rows, vi Cols, .slice B4 Cells.length c4] K8 K4 (hS9.c 2) rfl (hf.g 3 1)) ?_
 refine s0 (yT 1 3 (aD b) 34 (.agg #[vi Rows, vi Cols, .slice B4 Cells.length c4]) [vi Rows, vi Cols, .slice B4 Cells.length c4] 0 hS9 K4 rfl (hf.g 2 0)) ?_
 rintro _ w_20 ⟨rfl, hS32⟩
 refine rn (ct_ ?_)
 obtain ⟨rfl, rfl⟩ := pr2 (sI hF1)
 exact ret1 Tryz.results27 (v1 := .agg #[vi Rows, vi Cols, .slice B4 Cells.length c4]) (resAt_cellA (B := aD b) (i := 0) (cs := [vi Rows, vi Cols, .slice B4 Cells.length c4]) (vs := [vi Rows, vi Cols, .slice B4 Cells.length c4]) (hf.g 2 0) K8 K4 (hS32.c 1) rfl rfl) ⟨B4, c4, rfl, (len_le rfl hq), (org_cons ho org_nil), (ST.subR (R' := [⟨B4, (Cells.flatMap eN0)⟩]) (hS32.sel [0] rfl rfl) (sk 0 (fun _ h => by cases h)))⟩

theorem c_spec_l2C_ring (c : Tl2C) (x : TRing) (B : Option Addr) (w0 : World)  (hS : ST w0 (bl [⟨B, 67, [.bool c.bad], 1⟩]) w0 [⟨B, 67, [.bool c.bad], 1⟩] []) {r_ : TRing} {m : Tl2C} (hF : F_spec_l2C_ring c x = some (r_, m)) :
  CV Tryz.prog 100 #[pt B 0, gR_ x] w0 (fun v w' => v = (gR_ r_) ∧ ST w0 (bl [⟨B, 67, [.bool c.bad], 1⟩]) w' [⟨B, 67, [.bool m.bad], 1⟩] []) := by
 unfold F_spec_l2C_ring at hF
 refine cv_of_cw 13 Tryz.func100 rfl Tryz.ntmps100 rfl ?_
 refine cq (cr ?_)
 refine sS 3 (yB 49 (gR_ x) (kR_ x) 4 hS) ?_
 rintro _ w_ ⟨b, rfl, hS1⟩
 refine sS 4 (yN [vi 0, vi 0, vi 0, vi 0] 4 hS1 K14) ?_
 rintro _ w_1 ⟨b1, rfl, hS2⟩
 refine rn (cq (cq (cr ?_)))
 refine sQ 5 (yb (aD b) 0 (kR_ x) K7 K3 (hS2.c 1)) ?_
 obtain ⟨r_1, hc, hF⟩ := bI hF
 refine sc 6 rfl rfl (yC [gR_ x] K112 (c_spec_l1Good x _  (hS2.inn0 [] rfl) hc)) ?_
 rintro _ w_2 ⟨rfl, hd⟩
 have hS3 := hS2.out00 hd
 refine sQ 7 (Y_not (p := r_1) rfl rfl) (rn ?_)
 refine cw_cond (b := (!r_1)) rfl (fun hb => ?_) (fun hb => ?_)
 ·skip
  have hF1 := ct hF hb
  refine cq (cr ?_)
  refine sQ 8 (ym (pt B 0)) <| sQ 9 (Y_nilCheck (B := B) (i := 0) rfl rfl) <| sQ 10 (yd B 0 0 K77 K57) ?_
  refine s0 (yT 0 1 B 67 (.bool true) [.bool true] 0 hS3 K57) ?_
  rintro _ w_3 ⟨rfl, hS4⟩
  refine rn (cq (cr ?_))
  refine sQ 11 (Y_buildS (zs := [vi 0, vi 0, vi 0, vi 0]) (vs := []) (cs := [vi 0, vi 0, vi 0, vi 0]) K31 K14 rfl mpn rfl) ?_
  refine s0 (yT 2 4 (aD b1) 49 (.agg #[vi 0, vi 0, vi 0, vi 0]) [vi 0, vi 0, vi 0, vi 0] 0 hS4 K3) ?_
  rintro _ w_4 ⟨rfl, hS5⟩
  refine rn (ct_ ?_)
  obtain ⟨rfl, rfl⟩ := pr2 (sI hF1)
  exact ret1 Tryz.results100 (v1 := .agg #[vi 0, vi 0, vi 0, vi 0]) (resAt_cellA (B := aD b1) (i := 0) (cs := [vi 0, vi 0, vi 0, vi 0]) (vs := [vi 0, vi 0, vi 0, vi 0]) rfl K7 K3 (hS5.c 2) rfl rfl) ⟨rfl, (hS5.sN [0])⟩
 ·skip
  have hF2 := cf' hF hb
  refine cw_skip (cq (cr ?_))
  refine sQ 12 (yb (aD b) 0 (kR_ x) K7 K3 (hS3.c 1)) ?_
  refine s0 (yT 2 4 (aD b1) 49 (gR_ x) (kR_ x) 0 hS3 K3) ?_
  rintro _ w_5 ⟨rfl, hS6⟩
  refine rn (ct_ ?_)
  obtain ⟨rfl, rfl⟩ := pr2 (sI hF2)
  exact ret1 Tryz.results100 (v1 := gR_ x) (resAt_cellA (B := aD b1) (i := 0) (cs := kR_ x) (vs := kR_ x) rfl K7 K3 (hS6.c 2) rfl rfl) ⟨rfl, (hS6.sN [0])⟩

theorem c_spec_l1Mul (x : TRing) (y : TRing)  (w0 : World)  (hS : ST w0 [] w0 [] []) {r_ : TRing} (hF : F_spec_l1Mul x y = some r_) :
  CV Tryz.prog 101 #[gR_ x, gR_ y] w0 (fun v w' => v = (gR_ r_) ∧ ST w0 [] w' [] []) := by
 unfold F_spec_l1Mul at hF
 refine cv_of_cw 98 Tryz.func101 rfl Tryz.ntmps101 rfl ?_
 refine cq (cr ?_)
 refine sS 2 (yB 49 (gR_ x) (kR_ x) 4 hS) ?_
 rintro _ w_ ⟨b, rfl, hS1⟩
 refine sS 3 (yB 49 (gR_ y) (kR_ y) 4 hS1) ?_
 rintro _ w_1 ⟨b1, rfl, hS2⟩
 refine sS 4 (yN [vi 0, vi 0, vi 0, vi 0] 4 hS2 K14) ?_
 rintro _ w_2 ⟨b2, rfl, hS3⟩
 refine rn (cq (cr ?_))
 refine sQ 5 (yd (aD b) 0 0 K17 K0) <| sQ 6 (yl (aD b) 0 (kR_ x) (vi x.A) K1 (hS3.c 0)) <| sQ 7 (yd (aD b1) 0 0 K17 K0) <| sQ 8 (yl (aD b1) 0 (kR_ y) (vi y.A) K1 (hS3.c 1)) <| sQ 9 (yX x.A y.A) <| sQ 10 (yd (aD b) 0 0 K18 K0) ?_
 refine sQ 11 (yl (aD b) 1 (kR_ x) (vi x.B) K1 (hS3.c 0)) <| sQ 12 (yd (aD b1) 0 0 K20 K0) <| sQ 13 (yl (aD b1) 3 (kR_ y) (vi y.D) K1 (hS3.c 1)) <| sQ 14 (yX x.B y.D) <| sQ 15 (yM (i64.wrap (x.A * y.A)) (i64.wrap (x.B * y.D))) <| sQ 16 (yd (aD b) 0 0 K19 K0) ?_
 refine sQ 17 (yl (aD b) 2 (kR_ x) (vi x.C) K1 (hS3.c 0)) <| sQ 18 (yd (aD b1) 0 0 K19 K0) <| sQ 19 (yl (aD b1) 2 (kR_ y) (vi y.C) K1 (hS3.c 1)) <| sQ 20 (yX x.C y.C) <| sQ 21 (yM (i64.wrap ((i64.wrap (x.A * y.A)) - (i64.wrap (x.B * y.D)))) (i64.wrap (x.C * y.C))) <| sQ 22 (yd (aD b) 0 0 K20 K0) ?_
 refine sQ 23 (yl (aD b) 3 (kR_ x) (vi x.D) K1 (hS3.c 0)) <| sQ 24 (yd (aD b1) 0 0 K18 K0) <| sQ 25 (yl (aD b1) 1 (kR_ y) (vi y.B) K1 (hS3.c 1)) <| sQ 26 (yX x.D y.B) <| sQ 27 (yM (i64.wrap ((i64.wrap ((i64.wrap (x.A * y.A)) - (i64.wrap (x.B * y.D)))) - (i64.wrap (x.C * y.C)))) (i64.wrap (x.D * y.B))) <| sQ 28 (yd (aD b) 0 0 K17 K0) ?_
 refine sQ 29 (yl (aD b) 0 (kR_ x) (vi x.A) K1 (hS3.c 0)) <| sQ 30 (yd (aD b1) 0 0 K18 K0) <| sQ 31 (yl (aD b1) 1 (kR_ y) (vi y.B) K1 (hS3.c 1)) <| sQ 32 (yX x.A y.B) <| sQ 33 (yd (aD b) 0 0 K18 K0) <| sQ 34 (yl (aD b) 1 (kR_ x) (vi x.B) K1 (hS3.c 0)) ?_
 refine sQ 35 (yd (aD b1) 0 0 K17 K0) <| sQ 36 (yl (aD b1) 0 (kR_ y) (vi y.A) K1 (hS3.c 1)) <| sQ 37 (yX x.B y.A) <| sQ 38 (yP (i64.wrap (x.A * y.B)) (i64.wrap (x.B * y.A))) <| sQ 39 (yd (aD b) 0 0 K19 K0) <| sQ 40 (yl (aD b) 2 (kR_ x) (vi x.C) K1 (hS3.c 0)) ?_
 refine sQ 41 (yd (aD b1) 0 0 K20 K0) <| sQ 42 (yl (aD b1) 3 (kR_ y) (vi y.D) K1 (hS3.c 1)) <| sQ 43 (yX x.C y.D) <| sQ 44 (yM (i64.wrap ((i64.wrap (x.A * y.B)) + (i64.wrap (x.B * y.A)))) (i64.wrap (x.C * y.D))) <| sQ 45 (yd (aD b) 0 0 K20 K0) <| sQ 46 (yl (aD b) 3 (kR_ x) (vi x.D) K1 (hS3.c 0)) ?_
 refine sQ 47 (yd (aD b1) 0 0 K19 K0) <| sQ 48 (yl (aD b1) 2 (kR_ y) (vi y.C) K1 (hS3.c 1)) <| sQ 49 (yX x.D y.C) <| sQ 50 (yM (i64.wrap ((i64.wrap ((i64.wrap (x.A * y.B)) + (i64.wrap (x.B * y.A)))) - (i64.wrap (x.C * y.D)))) (i64.wrap (x.D * y.C))) <| sQ 51 (yd (aD b) 0 0 K17 K0) <| sQ 52 (yl (aD b) 0 (kR_ x) (vi x.A) K1 (hS3.c 0)) ?_
 refine sQ 53 (yd (aD b1) 0 0 K19 K0) <| sQ 54 (yl (aD b1) 2 (kR_ y) (vi y.C) K1 (hS3.c 1)) <| sQ 55 (yX x.A y.C) <| sQ 56 (yd (aD b) 0 0 K18 K0) <| sQ 57 (yl (aD b) 1 (kR_ x) (vi x.B) K1 (hS3.c 0)) <| sQ 58 (yd (aD b1) 0 0 K18 K0) ?_
 refine sQ 59 (yl (aD b1) 1 (kR_ y) (vi y.B) K1 (hS3.c 1)) <| sQ 60 (yX x.B y.B) <| sQ 61 (yP (i64.wrap (x.A * y.C)) (i64.wrap (x.B * y.B))) <| sQ 62 (yd (aD b) 0 0 K19 K0) <| sQ 63 (yl (aD b) 2 (kR_ x) (vi x.C) K1 (hS3.c 0)) <| sQ 64 (yd (aD b1) 0 0 K17 K0) ?_
 refine sQ 65 (yl (aD b1) 0 (kR_ y) (vi y.A) K1 (hS3.c 1)) <| sQ 66 (yX x.C y.A) <| sQ 67 (yP (i64.wrap ((i64.wrap (x.A * y.C)) + (i64.wrap (x.B * y.B)))) (i64.wrap (x.C * y.A))) <| sQ 68 (yd (aD b) 0 0 K20 K0) <| sQ 69 (yl (aD b) 3 (kR_ x) (vi x.D) K1 (hS3.c 0)) <| sQ 70 (yd (aD b1) 0 0 K20 K0) ?_
 refine sQ 71 (yl (aD b1) 3 (kR_ y) (vi y.D) K1 (hS3.c 1)) <| sQ 72 (yX x.D y.D) <| sQ 73 (yM (i64.wrap ((i64.wrap ((i64.wrap (x.A * y.C)) + (i64.wrap (x.B * y.B)))) + (i64.wrap (x.C * y.A)))) (i64.wrap (x.D * y.D))) <| sQ 74 (yd (aD b) 0 0 K17 K0) <| sQ 75 (yl (aD b) 0 (kR_ x) (vi x.A) K1 (hS3.c 0)) <| sQ 76 (yd (aD b1) 0 0 K20 K0) ?_
 refine sQ 77 (yl (aD b1) 3 (kR_ y) (vi y.D) K1 (hS3.c 1)) <| sQ 78 (yX x.A y.D) <| sQ 79 (yd (aD b) 0 0 K18 K0) <| sQ 80 (yl (aD b) 1 (kR_ x) (vi x.B) K1 (hS3.c 0)) <| sQ 81 (yd (aD b1) 0 0 K19 K0) <| sQ 82 (yl (aD b1) 2 (kR_ y) (vi y.C) K1 (hS3.c 1)) ?_
 refine sQ 83 (yX x.B y.C) <| sQ 84 (yP (i64.wrap (x.A * y.D)) (i64.wrap (x.B * y.C))) <| sQ 85 (yd (aD b) 0 0 K19 K0) <| sQ 86 (yl (aD b) 2 (kR_ x) (vi x.C) K1 (hS3.c 0)) <| sQ 87 (yd (aD b1) 0 0 K18 K0) <| sQ 88 (yl (aD b1) 1 (kR_ y) (vi y.B) K1 (hS3.c 1)) ?_
 refine sQ 89 (yX x.C y.B) <| sQ 90 (yP (i64.wrap ((i64.wrap (x.A * y.D)) + (i64.wrap (x.B * y.C)))) (i64.wrap (x.C * y.B))) <| sQ 91 (yd (aD b) 0 0 K20 K0) <| sQ 92 (yl (aD b) 3 (kR_ x) (vi x.D) K1 (hS3.c 0)) <| sQ 93 (yd (aD b1) 0 0 K17 K0) <| sQ 94 (yl (aD b1) 0 (kR_ y) (vi y.A) K1 (hS3.c 1)) ?_
 refine sQ 95 (yX x.D y.A) <| sQ 96 (yP (i64.wrap ((i64.wrap ((i64.wrap (x.A * y.D)) + (i64.wrap (x.B * y.C)))) + (i64.wrap (x.C * y.B)))) (i64.wrap (x.D * y.A))) <| sQ 97 (Y_buildS (zs := [vi 0, vi 0, vi 0, vi 0]) (vs := [(0, vi (i64.wrap ((i64.wrap ((i64.wrap ((i64.wrap (x.A * y.A)) - (i64.wrap (x.B * y.D)))) - (i64.wrap (x.C * y.C)))) - (i64.wrap (x.D * y.B))))), (1, vi (i64.wrap ((i64.wrap ((i64.wrap ((i64.wrap (x.A * y.B)) + (i64.wrap (x.B * y.A)))) - (i64.wrap (x.C * y.D)))) - (i64.wrap (x.D * y.C))))), (2, vi (i64.wrap ((i64.wrap ((i64.wrap ((i64.wrap (x.A * y.C)) + (i64.wrap (x.B * y.B)))) + (i64.wrap (x.C * y.A)))) - (i64.wrap (x.D * y.D))))), (3, vi (i64.wrap ((i64.wrap ((i64.wrap ((i64.wrap (x.A * y.D)) + (i64.wrap (x.B * y.C)))) + (i64.wrap (x.C * y.B)))) + (i64.wrap (x.D * y.A)))))]) (cs := [vi (i64.wrap ((i64.wrap ((i64.wrap ((i64.wrap (x.A * y.A)) - (i64.wrap (x.B * y.D)))) - (i64.wrap (x.C * y.C)))) - (i64.wrap (x.D * y.B)))), vi (i64.wrap ((i64.wrap ((i64.wrap ((i64.wrap (x.A * y.B)) + (i64.wrap (x.B * y.A)))) - (i64.wrap (x.C * y.D)))) - (i64.wrap (x.D * y.C)))), vi (i64.wrap ((i64.wrap ((i64.wrap ((i64.wrap (x.A * y.C)) + (i64.wrap (x.B * y.B)))) + (i64.wrap (x.C * y.A)))) - (i64.wrap (x.D * y.D)))), vi (i64.wrap ((i64.wrap ((i64.wrap ((i64.wrap (x.A * y.D)) + (i64.wrap (x.B * y.C)))) + (i64.wrap (x.C * y.B)))) + (i64.wrap (x.D * y.A))))]) K31 K14 rfl (mpc rfl (mpc rfl (mpc rfl (mpc rfl mpn)))) rfl) ?_
 refine s0 (yT 2 4 (aD b2) 49 (.agg #[vi (i64.wrap ((i64.wrap ((i64.wrap ((i64.wrap (x.A * y.A)) - (i64.wrap (x.B * y.D)))) - (i64.wrap (x.C * y.C)))) - (i64.wrap (x.D * y.B)))), vi (i64.wrap ((i64.wrap ((i64.wrap ((i64.wrap (x.A * y.B)) + (i64.wrap (x.B * y.A)))) - (i64.wrap (x.C * y.D)))) - (i64.wrap (x.D * y.C)))), vi (i64.wrap ((i64.wrap ((i64.wrap ((i64.wrap (x.A * y.C)) + (i64.wrap (x.B * y.B)))) + (i64.wrap (x.C * y.A)))) - (i64.wrap (x.D * y.D)))), vi (i64.wrap ((i64.wrap ((i64.wrap ((i64.wrap (x.A * y.D)) + (i64.wrap (x.B * y.C)))) + (i64.wrap (x.C * y.B)))) + (i64.wrap (x.D * y.A))))]) [vi (i64.wrap ((i64.wrap ((i64.wrap ((i64.wrap (x.A * y.A)) - (i64.wrap (x.B * y.D)))) - (i64.wrap (x.C * y.C)))) - (i64.wrap (x.D * y.B)))), vi (i64.wrap ((i64.wrap ((i64.wrap ((i64.wrap (x.A * y.B)) + (i64.wrap (x.B * y.A)))) - (i64.wrap (x.C * y.D)))) - (i64.wrap (x.D * y.C)))), vi (i64.wrap ((i64.wrap ((i64.wrap ((i64.wrap (x.A * y.C)) + (i64.wrap (x.B * y.B)))) + (i64.wrap (x.C * y.A)))) - (i64.wrap (x.D * y.D)))), vi (i64.wrap ((i64.wrap ((i64.wrap ((i64.wrap (x.A * y.D)) + (i64.wrap (x.B * y.C)))) + (i64.wrap (x.C * y.B)))) + (i64.wrap (x.D * y.A))))] 0 hS3 K3) ?_
 rintro _ w_3 ⟨rfl, hS4⟩
 refine rn (ct_ ?_)
 obtain rfl := sI hF
 exact ret1 Tryz.results101 (v1 := .agg #[vi (i64.wrap ((i64.wrap ((i64.wrap ((i64.wrap (x.A * y.A)) - (i64.wrap (x.B * y.D)))) - (i64.wrap (x.C * y.C)))) - (i64.wrap (x.D * y.B)))), vi (i64.wrap ((i64.wrap ((i64.wrap ((i64.wrap (x.A * y.B)) + (i64.wrap (x.B * y.A)))) - (i64.wrap (x.C * y.D)))) - (i64.wrap (x.D * y.C)))), vi (i64.wrap ((i64.wrap ((i64.wrap ((i64.wrap (x.A * y.C)) + (i64.wrap (x.B * y.B)))) + (i64.wrap (x.C * y.A)))) - (i64.wrap (x.D * y.D)))), vi (i64.wrap ((i64.wrap ((i64.wrap ((i64.wrap (x.A * y.D)) + (i64.wrap (x.B * y.C)))) + (i64.wrap (x.C * y.B)))) + (i64.wrap (x.D * y.A))))]) (resAt_cellA (B := aD b2) (i := 0) (cs := [vi (i64.wrap ((i64.wrap ((i64.wrap ((i64.wrap (x.A * y.A)) - (i64.wrap (x.B * y.D)))) - (i64.wrap (x.C * y.C)))) - (i64.wrap (x.D * y.B)))), vi (i64.wrap ((i64.wrap ((i64.wrap ((i64.wrap (x.A * y.B)) + (i64.wrap (x.B * y.A)))) - (i64.wrap (x.C * y.D)))) - (i64.wrap (x.D * y.C)))), vi (i64.wrap ((i64.wrap ((i64.wrap ((i64.wrap (x.A * y.C)) + (i64.wrap (x.B * y.B)))) + (i64.wrap (x.C * y.A)))) - (i64.wrap (x.D * y.D)))), vi (i64.wrap ((i64.wrap ((i64.wrap ((i64.wrap (x.A * y.D)) + (i64.wrap (x.B * y.C)))) + (i64.wrap (x.C * y.B)))) + (i64.wrap (x.D * y.A))))]) (vs := [vi (i64.wrap ((i64.wrap ((i64.wrap ((i64.wrap (x.A * y.A)) - (i64.wrap (x.B * y.D)))) - (i64.wrap (x.C * y.C)))) - (i64.wrap (x.D * y.B)))), vi (i64.wrap ((i64.wrap ((i64.wrap ((i64.wrap (x.A * y.B)) + (i64.wrap (x.B * y.A)))) - (i64.wrap (x.C * y.D)))) - (i64.wrap (x.D * y.C)))), vi (i64.wrap ((i64.wrap ((i64.wrap ((i64.wrap (x.A * y.C)) + (i64.wrap (x.B * y.B)))) + (i64.wrap (x.C * y.A)))) - (i64.wrap (x.D * y.D)))), vi (i64.wrap ((i64.wrap ((i64.wrap ((i64.wrap (x.A * y.D)) + (i64.wrap (x.B * y.C)))) + (i64.wrap (x.C * y.B)))) + (i64.wrap (x.D * y.A))))]) rfl K7 K3 (hS4.c 2) rfl rfl) ⟨rfl, (hS4.sN [])⟩

theorem c_spec_l2C_mul (c : Tl2C) (x : TDyadic) (y : TDyadic) (B : Option Addr) (w0 : World)  (hS : ST w0 (bl [⟨B, 67, [.bool c.bad], 1⟩]) w0 [⟨B, 67, [.bool c.bad], 1⟩] []) {r_ : TDyadic} {m : Tl2C} (hF : F_spec_l2C_mul c x y = some (r_, m)) :
  CV Tryz.prog 72 #[pt B 0, gD_ x, gD_ y] w0 (fun v w' => v = (gD_ r_) ∧ ST w0 (bl [⟨B, 67, [.bool c.bad], 1⟩]) w' [⟨B, 67, [.bool m.bad], 1⟩] []) := by
 unfold F_spec_l2C_mul at hF
 refine cv_of_cw 30 Tryz.func72 rfl Tryz.ntmps72 rfl ?_
 refine cq (cr ?_)
 refine sS 4 (yB 51 (gD_ x) (kD_ x) 5 hS) ?_
 rintro _ w_ ⟨b, rfl, hS1⟩
 refine sS 5 (yB 51 (gD_ y) (kD_ y) 5 hS1) ?_
 rintro _ w_1 ⟨b1, rfl, hS2⟩
 refine sS 6 (yN kZ_ 5 hS2 K6) ?_
 rintro _ w_2 ⟨b2, rfl, hS3⟩
 refine rn (cq (cq (cr ?_)))
 refine sQ 7 (yd (aD b) 0 0 K33 K0) <| sQ 8 (yl (aD b) 4 (kD_ x) (vi x.Exp) K1 (hS3.c 1)) <| sQ 9 (yd (aD b1) 0 0 K33 K0) <| sQ 10 (yl (aD b1) 4 (kD_ y) (vi y.Exp) K1 (hS3.c 2)) <| sQ 11 (yP x.Exp y.Exp) <| sQ 12 (Y_gt (k := .i64) (a := (i64.wrap (x.Exp + y.Exp))) (b := 60) rfl rfl rfl) (rn ?_)
 refine cw_cond (b := (decide (60 < (i64.wrap (x.Exp + y.Exp))))) rfl (fun hb => ?_) (fun hb => ?_)
 ·skip
  have hF1 := ct hF hb
  refine cq (cr ?_)
  refine sQ 13 (ym (pt B 0)) <| sQ 14 (Y_nilCheck (B := B) (i := 0) rfl rfl) <| sQ 15 (yd B 0 0 K77 K57) ?_
  refine s0 (yT 0 1 B 67 (.bool true) [.bool true] 0 hS3 K57) ?_
  rintro _ w_3 ⟨rfl, hS4⟩
  refine rn (cq (cr ?_))
  refine sQ 16 (Y_buildS (zs := kZ_) (vs := []) (cs := kZ_) K21 K6 rfl mpn rfl) ?_
  refine s0 (yT 3 5 (aD b2) 51 gZ_ kZ_ 0 hS4 K2) ?_
  rintro _ w_4 ⟨rfl, hS5⟩
  refine rn (ct_ ?_)
  obtain ⟨rfl, rfl⟩ := pr2 (sI hF1)
  exact ret1 Tryz.results72 (v1 := gZ_) (resAt_cellA (B := aD b2) (i := 0) (cs := kZ_) (vs := kZ_) rfl K5 K2 (hS5.c 3) rfl rfl) ⟨rfl, (hS5.sN [0])⟩
 ·skip
  have hF2 := cf' hF hb
  refine cw_skip (cq ?_)
  obtain ⟨r_1, hc, hF2⟩ := bI hF2
  obtain ⟨⟨r_2, m1⟩, hc1, hF2⟩ := bI hF2
  obtain ⟨r_3, hc2, hF2⟩ := bI hF2
  refine ra_start (hS3.se [1, 2]).fn (by kernel_rfl) ?_
  have hS9 := hS3.drew
  refine rq 0 17 (v := pt B 0) rfl (hS9.se [1, 2]) (fun w' hw' => (ym (pt B 0))) ?_
  refine rq 1 18 (v := pt (aD b) 0) rfl (hS9.se [1, 2]) (fun w' hw' => (yd (aD b) 0 3 K41 K3)) ?_
  refine rq 2 19 (v := gR_ x.Num) rfl (hS9.se [1, 2]) (fun w' hw' => (ya (aD b) 0 (kD_ x) (kR_ x.Num) K7 K3 (ST.cf hw' (i := 0) rfl))) ?_
  refine rq 3 20 (v := pt (aD b1) 0) rfl (hS9.se [1, 2]) (fun w' hw' => (yd (aD b1) 0 3 K41 K3)) ?_
  refine rq 4 21 (v := gR_ y.Num) rfl (hS9.se [1, 2]) (fun w' hw' => (ya (aD b1) 0 (kD_ y) (kR_ y.Num) K7 K3 (ST.cf hw' (i := 1) rfl))) ?_
  refine rq 7 24 (v := pt (aD b) 4) rfl (hS9.se [1, 2]) (fun w' hw' => (yd (aD b) 0 0 K33 K0)) ?_
  refine rq 8 25 (v := vi x.Exp) rfl (hS9.se [1, 2]) (fun w' hw' => (yl (aD b) 4 (kD_ x) (vi x.Exp) K1 (ST.cf hw' (i := 0) rfl))) ?_
  refine rq 9 26 (v := pt (aD b1) 4) rfl (hS9.se [1, 2]) (fun w' hw' => (yd (aD b1) 0 0 K33 K0)) ?_
  refine rq 10 27 (v := vi y.Exp) rfl (hS9.se [1, 2]) (fun w' hw' => (yl (aD b1) 4 (kD_ y) (vi y.Exp) K1 (ST.cf hw' (i := 1) rfl))) ?_
  refine rq 11 28 (v := vi (i64.wrap (x.Exp + y.Exp))) rfl (hS9.se [1, 2]) (fun w' hw' => (yP x.Exp y.Exp)) ?_
  refine rA [5] ?_
  refine rC 22 5 rfl (yC [gR_ x.Num, gR_ y.Num] k_call_101 (c_spec_l1Mul x.Num y.Num _  (hS9.inn0 [] rfl) hc)) ?_ ?_
  ·rintro _ w_5 ⟨rfl, hd⟩
   have hS10 := hS9.out00 hd
   refine ⟨(hS10.se [1, 2]), ?_⟩
   refine rA [6] ?_
   refine rC 23 6 rfl (yC [pt B 0, gR_ r_1] K51 (c_spec_l2C_ring c r_1 B _  (hS10.inn [true, false, false, false] rfl [] rfl) hc1)) ?_ ?_
   ·rintro _ w_6 ⟨rfl, hd1⟩
    have hS11 := hS10.out [true, false, false, false] rfl hd1
    refine ⟨(hS11.se [0, 1]), ?_⟩
    refine rA [12] ?_
    refine rC 29 12 rfl (yC [gR_ r_2, vi (i64.wrap (x.Exp + y.Exp))] K92 (c_spec_l2Low r_2 (i64.wrap (x.Exp + y.Exp)) _  (hS11.inn0 [] rfl) hc2)) ?_ ?_
    ·rintro _ w_7 ⟨rfl, hd2⟩
     have hS12 := hS11.out00 hd2
     refine ⟨(hS12.se [0, 1]), ?_⟩
     refine rA [13] ?_
     refine rZ 13 rfl (yT 2 5 (aD b2) 51 (gD_ r_3) (kD_ r_3) 0 hS12 K2) ?_ ?_
     ·rintro _ w_8 ⟨rfl, hS13⟩
      refine ⟨(hS13.se [0, 1]), ?_⟩
      refine ra_done (by kernel_rfl) ?_
      refine ct_ ?_
      obtain ⟨rfl, rfl⟩ := pr2 (sI hF2)
      exact ret1 Tryz.results72 (v1 := gD_ r_3) (resAt_cellA (B := aD b2) (i := 0) (cs := kD_ r_3) (vs := kD_ r_3) rfl K5 K2 (hS13.c 2) rfl rfl) ⟨rfl, (hS13.sN [3])⟩
     exact aN
    exact aN
   exact aN
  exact aN

theorem c_spec_l1Add (x : TRing) (y : TRing)  (w0 : World)  (hS : ST w0 [] w0 [] []) {r_ : TRing} (hF : F_spec_l1Add x y = some r_) :
  CV Tryz.prog 103 #[gR_ x, gR_ y] w0 (fun v w' => v = (gR_ r_) ∧ ST w0 [] w' [] []) := by
 unfold F_spec_l1Add at hF
 refine cv_of_cw 26 Tryz.func103 rfl Tryz.ntmps103 rfl ?_
 refine cq (cr ?_)
 refine sS 2 (yB 49 (gR_ x) (kR_ x) 4 hS) ?_
 rintro _ w_ ⟨b, rfl, hS1⟩
 refine sS 3 (yB 49 (gR_ y) (kR_ y) 4 hS1) ?_
 rintro _ w_1 ⟨b1, rfl, hS2⟩
 refine sS 4 (yN [vi 0, vi 0, vi 0, vi 0] 4 hS2 K14) ?_
 rintro _ w_2 ⟨b2, rfl, hS3⟩
 refine rn (cq (cr ?_))
 refine sQ 5 (yd (aD b) 0 0 K17 K0) <| sQ 6 (yl (aD b) 0 (kR_ x) (vi x.A) K1 (hS3.c 0)) <| sQ 7 (yd (aD b1) 0 0 K17 K0) <| sQ 8 (yl (aD b1) 0 (kR_ y) (vi y.A) K1 (hS3.c 1)) <| sQ 9 (yP x.A y.A) <| sQ 10 (yd (aD b) 0 0 K18 K0) ?_
 refine sQ 11 (yl (aD b) 1 (kR_ x) (vi x.B) K1 (hS3.c 0)) <| sQ 12 (yd (aD b1) 0 0 K18 K0) <| sQ 13 (yl (aD b1) 1 (kR_ y) (vi y.B) K1 (hS3.c 1)) <| sQ 14 (yP x.B y.B) <| sQ 15 (yd (aD b) 0 0 K19 K0) <| sQ 16 (yl (aD b) 2 (kR_ x) (vi x.C) K1 (hS3.c 0)) ?_
 refine sQ 17 (yd (aD b1) 0 0 K19 K0) <| sQ 18 (yl (aD b1) 2 (kR_ y) (vi y.C) K1 (hS3.c 1)) <| sQ 19 (yP x.C y.C) <| sQ 20 (yd (aD b) 0 0 K20 K0) <| sQ 21 (yl (aD b) 3 (kR_ x) (vi x.D) K1 (hS3.c 0)) <| sQ 22 (yd (aD b1) 0 0 K20 K0) ?_
 refine sQ 23 (yl (aD b1) 3 (kR_ y) (vi y.D) K1 (hS3.c 1)) <| sQ 24 (yP x.D y.D) <| sQ 25 (Y_buildS (zs := [vi 0, vi 0, vi 0, vi 0]) (vs := [(0, vi (i64.wrap (x.A + y.A))), (1, vi (i64.wrap (x.B + y.B))), (2, vi (i64.wrap (x.C + y.C))), (3, vi (i64.wrap (x.D + y.D)))]) (cs := [vi (i64.wrap (x.A + y.A)), vi (i64.wrap (x.B + y.B)), vi (i64.wrap (x.C + y.C)), vi (i64.wrap (x.D + y.D))]) K31 K14 rfl (mpc rfl (mpc rfl (mpc rfl (mpc rfl mpn)))) rfl) ?_
 refine s0 (yT 2 4 (aD b2) 49 (.agg #[vi (i64.wrap (x.A + y.A)), vi (i64.wrap (x.B + y.B)), vi (i64.wrap (x.C + y.C)), vi (i64.wrap (x.D + y.D))]) [vi (i64.wrap (x.A + y.A)), vi (i64.wrap (x.B + y.B)), vi (i64.wrap (x.C + y.C)), vi (i64.wrap (x.D + y.D))] 0 hS3 K3) ?_
 rintro _ w_3 ⟨rfl, hS4⟩
 refine rn (ct_ ?_)
 obtain rfl := sI hF
 exact ret1 Tryz.results103 (v1 := .agg #[vi (i64.wrap (x.A + y.A)), vi (i64.wrap (x.B + y.B)), vi (i64.wrap (x.C + y.C)), vi (i64.wrap (x.D + y.D))]) (resAt_cellA (B := aD b2) (i := 0) (cs := [vi (i64.wrap (x.A + y.A)), vi (i64.wrap (x.B + y.B)), vi (i64.wrap (x.C + y.C)), vi (i64.wrap (x.D + y.D))]) (vs := [vi (i64.wrap (x.A + y.A)), vi (i64.wrap (x.B + y.B)), vi (i64.wrap (x.C + y.C)), vi (i64.wrap (x.D + y.D))]) rfl K7 K3 (hS4.c 2) rfl rfl) ⟨rfl, (hS4.sN [])⟩

theorem c_spec_l2C_add (c : Tl2C) (x : TDyadic) (y : TDyadic) (B : Option Addr) (w0 : World)  (hS : ST w0 (bl [⟨B, 67, [.bool c.bad], 1⟩]) w0 [⟨B, 67, [.bool c.bad], 1⟩] []) {r_ : TDyadic} {m : Tl2C} (hF : F_spec_l2C_add c x y = some (r_, m)) :
  CV Tryz.prog 73 #[pt B 0, gD_ x, gD_ y] w0 (fun v w' => v = (gD_ r_) ∧ ST w0 (bl [⟨B, 67, [.bool c.bad], 1⟩]) w' [⟨B, 67, [.bool m.bad], 1⟩] []) := by
 unfold F_spec_l2C_add at hF
 refine cv_of_cw 45 Tryz.func73 rfl Tryz.ntmps73 rfl ?_
 refine cq (cr ?_)
 refine sS 4 (yB 51 (gD_ x) (kD_ x) 5 hS) ?_
 rintro _ w_ ⟨b, rfl, hS1⟩
 refine sS 5 (yB 51 (gD_ y) (kD_ y) 5 hS1) ?_
 rintro _ w_1 ⟨b1, rfl, hS2⟩
 refine sS 6 (yN kZ_ 5 hS2 K6) ?_
 rintro _ w_2 ⟨b2, rfl, hS3⟩
 refine rn (cq ?_)
 obtain ⟨z, hz, hF1⟩ := bI hF
 refine cw_block ?_
 refine cw_loop (fun k f w => ∃ (bad : Bool) (A : Int) (B1 : Int) (C : Int) (D : Int) (Exp : Int), FF f [(0, pt B 0), (4, pt (aD b) 0), (5, pt (aD b1) 0), (6, pt (aD b2) 0)] ∧ ST w0 (bl [⟨B, 67, [.bool c.bad], 1⟩]) w [⟨B, 67, [.bool bad], 1⟩, ⟨aD b, 51, [vi A, vi B1, vi C, vi D, vi Exp], 5⟩, ⟨aD b1, 51, kD_ y, 5⟩, ⟨aD b2, 51, kZ_, 5⟩] [] ∧ whX (F_spec_l2C_add_l1 y) k (bad, A, B1, C, D, Exp) = some z) fuel ⟨c.bad, x.Num.A, x.Num.B, x.Num.C, x.Num.D, x.Exp, (fc rfl (fc rfl (fc rfl (fc rfl fn_)))), (hS3.sel [0, 1, 2, 3] rfl rfl), hz⟩ ?_
 rintro k_ f w ⟨bad, A, B1, C, D, Exp, hf, hS4, hL⟩
 obtain ⟨K9, y1, rfl, hb, hL1⟩ := whX_go hL
 unfold F_spec_l2C_add_l1 at hb
 refine cq (cq (cr ?_))
 refine sQ 7 (yd (aD b) 0 0 K33 K0 rfl (hf.g 4 1)) <| sQ 8 (yl (aD b) 4 [vi A, vi B1, vi C, vi D, vi Exp] (vi Exp) K1 (hS4.c 1)) <| sQ 9 (yd (aD b1) 0 0 K33 K0 rfl (hf.g 5 2)) <| sQ 10 (yl (aD b1) 4 (kD_ y) (vi y.Exp) K1 (hS4.c 2)) <| sQ 11 (yL Exp y.Exp) (rn ?_)
 refine cw_cond (b := (decide (Exp < y.Exp))) rfl (fun hb1 => ?_) (fun hb1 => ?_)
 ·skip
  have hF2 := ct hb hb1
  refine cw_skip (cw_block ?_)
  obtain ⟨r_1, hc, hF2⟩ := bI hF2
  obtain ⟨⟨r_2, m1⟩, hc1, hF2⟩ := bI hF2
  refine cw_mid (fun f w => FF f [(0, pt B 0), (4, pt (aD b) 0), (5, pt (aD b1) 0), (6, pt (aD b2) 0)] ∧ ST w0 (bl [⟨B, 67, [.bool c.bad], 1⟩]) w [⟨B, 67, [.bool m1.bad], 1⟩, ⟨aD b, 51, [vi r_2.A, vi r_2.B, vi r_2.C, vi r_2.D, vi (i64.wrap (Exp + 1))], 5⟩, ⟨aD b1, 51, kD_ y, 5⟩, ⟨aD b2, 51, kZ_, 5⟩] []) ?_ ?_
  ·skip
   refine ra_start (hS4.se [2, 3]).fn (by kernel_rfl) ?_
   have hS8 := hS4.drew
   refine rq 0 12 (v := pt B 0) rfl (hS8.se [2, 3]) (fun w' hw' => (ym (pt B 0) rfl (hf.g 0 0))) ?_
   refine rq 1 13 (v := pt (aD b) 0) rfl (hS8.se [2, 3]) (fun w' hw' => (yd (aD b) 0 3 K41 K3 rfl (hf.g 4 1))) ?_
   refine rq 5 17 (v := pt (aD b) 4) rfl (hS8.se [2, 3]) (fun w' hw' => (yd (aD b) 0 0 K33 K0 rfl (hf.g 4 1))) ?_
   refine rA [2, 6] ?_
   refine ra_y 14 (i := 2) (v := .agg #[vi A, vi B1, vi C, vi D]) rfl rfl rfl (ya (aD b) 0 [vi A, vi B1, vi C, vi D, vi Exp] [vi A, vi B1, vi C, vi D] K7 K3 (hS8.c 1)) (hS8.se [2, 3]) ?_ ?_
   ·skip
    refine rA [3, 6] ?_
    refine rC 15 3 rfl (yC [.agg #[vi A, vi B1, vi C, vi D]] K64 (c_spec_l1Root (TRing.mk A B1 C D) _  (hS8.inn0 [] rfl) hc)) ?_ ?_
    ·rintro _ w_3 ⟨rfl, hd⟩
     have hS9 := hS8.out00 hd
     refine ⟨(hS9.se [2, 3]), ?_⟩
     refine rA [4, 6] ?_
     refine rC 16 4 rfl (yC [pt B 0, gR_ r_1] K51 (c_spec_l2C_ring (Tl2C.mk bad) r_1 B _  (hS9.inn [true, false, false, false] rfl [] rfl) hc1)) ?_ ?_
     ·rintro _ w_4 ⟨rfl, hd1⟩
      have hS10 := hS9.out [true, false, false, false] rfl hd1
      refine ⟨(hS10.se [1, 2]), ?_⟩
      refine rA [6] ?_
      refine ra_y 18 (i := 6) (v := vi Exp) rfl rfl rfl (yl (aD b) 4 [vi A, vi B1, vi C, vi D, vi Exp] (vi Exp) K1 (hS10.c 0)) (hS10.se [1, 2]) ?_ ?_
      ·skip
       refine rq 7 19 (v := vi (i64.wrap (Exp + 1))) rfl (hS10.se [1, 2]) (fun w' hw' => (yP Exp 1)) ?_
       refine rq 8 20 (v := .agg #[vi r_2.A, vi r_2.B, vi r_2.C, vi r_2.D, vi (i64.wrap (Exp + 1))]) rfl (hS10.se [1, 2]) (fun w' hw' => (Y_buildS (zs := kZ_) (vs := [(0, gR_ r_2), (1, vi (i64.wrap (Exp + 1)))]) (cs := [vi r_2.A, vi r_2.B, vi r_2.C, vi r_2.D, vi (i64.wrap (Exp + 1))]) K21 K6 rfl (mpc rfl (mpc rfl mpn)) rfl)) ?_
       refine rA [9] ?_
       refine rZ 9 rfl (yT 0 5 (aD b) 51 (.agg #[vi r_2.A, vi r_2.B, vi r_2.C, vi r_2.D, vi (i64.wrap (Exp + 1))]) [vi r_2.A, vi r_2.B, vi r_2.C, vi r_2.D, vi (i64.wrap (Exp + 1))] 0 hS10 K2 rfl (hf.g 4 1)) ?_ ?_
       ·rintro _ w_5 ⟨rfl, hS11⟩
        refine ⟨(hS11.se [1, 2]), ?_⟩
        refine ra_done (by kernel_rfl) ?_
        exact ⟨(fc (hf.g 0 0) (fc (hf.g 4 1) (fc (hf.g 5 2) (fc (hf.g 6 3) fn_)))), (hS11.sel [3, 0, 1, 2] rfl rfl)⟩
       exact aN
      exact aN
     refine ra_y 18 (i := 6) (v := vi Exp) rfl rfl rfl (yl (aD b) 4 [vi A, vi B1, vi C, vi D, vi Exp] (vi Exp) K1 (hS9.c 1)) (hS9.se [2, 3]) ?_ ?_
     ·skip
      refine rq 7 19 (v := vi (i64.wrap (Exp + 1))) rfl (hS9.se [2, 3]) (fun w' hw' => (yP Exp 1)) ?_
      refine rA [4] ?_
      refine rC 16 4 rfl (yC [pt B 0, gR_ r_1] K51 (c_spec_l2C_ring (Tl2C.mk bad) r_1 B _  (hS9.inn [true, false, false, false] rfl [] rfl) hc1)) ?_ ?_
      ·rintro _ w_6 ⟨rfl, hd2⟩
       have hS12 := hS9.out [true, false, false, false] rfl hd2
       refine ⟨(hS12.se [1, 2]), ?_⟩
       refine rq 8 20 (v := .agg #[vi r_2.A, vi r_2.B, vi r_2.C, vi r_2.D, vi (i64.wrap (Exp + 1))]) rfl (hS12.se [1, 2]) (fun w' hw' => (Y_buildS (zs := kZ_) (vs := [(0, gR_ r_2), (1, vi (i64.wrap (Exp + 1)))]) (cs := [vi r_2.A, vi r_2.B, vi r_2.C, vi r_2.D, vi (i64.wrap (Exp + 1))]) K21 K6 rfl (mpc rfl (mpc rfl mpn)) rfl)) ?_
       refine rA [9] ?_
       refine rZ 9 rfl (yT 0 5 (aD b) 51 (.agg #[vi r_2.A, vi r_2.B, vi r_2.C, vi r_2.D, vi (i64.wrap (Exp + 1))]) [vi r_2.A, vi r_2.B, vi r_2.C, vi r_2.D, vi (i64.wrap (Exp + 1))] 0 hS12 K2 rfl (hf.g 4 1)) ?_ ?_
       ·rintro _ w_7 ⟨rfl, hS13⟩
        refine ⟨(hS13.se [1, 2]), ?_⟩
        refine ra_done (by kernel_rfl) ?_
        exact ⟨(fc (hf.g 0 0) (fc (hf.g 4 1) (fc (hf.g 5 2) (fc (hf.g 6 3) fn_)))), (hS13.sel [3, 0, 1, 2] rfl rfl)⟩
       exact aN
      exact aN
     exact aN
    refine ra_y 18 (i := 6) (v := vi Exp) rfl rfl rfl (yl (aD b) 4 [vi A, vi B1, vi C, vi D, vi Exp] (vi Exp) K1 (hS8.c 1)) (hS8.se [2, 3]) ?_ ?_
    ·skip
     refine rq 7 19 (v := vi (i64.wrap (Exp + 1))) rfl (hS8.se [2, 3]) (fun w' hw' => (yP Exp 1)) ?_
     refine rA [3] ?_
     refine rC 15 3 rfl (yC [.agg #[vi A, vi B1, vi C, vi D]] K64 (c_spec_l1Root (TRing.mk A B1 C D) _  (hS8.inn0 [] rfl) hc)) ?_ ?_
     ·rintro _ w_8 ⟨rfl, hd3⟩
      have hS14 := hS8.out00 hd3
      refine ⟨(hS14.se [2, 3]), ?_⟩
      refine rA [4] ?_
      refine rC 16 4 rfl (yC [pt B 0, gR_ r_1] K51 (c_spec_l2C_ring (Tl2C.mk bad) r_1 B _  (hS14.inn [true, false, false, false] rfl [] rfl) hc1)) ?_ ?_
      ·rintro _ w_9 ⟨rfl, hd4⟩
       have hS15 := hS14.out [true, false, false, false] rfl hd4
       refine ⟨(hS15.se [1, 2]), ?_⟩
       refine rq 8 20 (v := .agg #[vi r_2.A, vi r_2.B, vi r_2.C, vi r_2.D, vi (i64.wrap (Exp + 1))]) rfl (hS15.se [1, 2]) (fun w' hw' => (Y_buildS (zs := kZ_) (vs := [(0, gR_ r_2), (1, vi (i64.wrap (Exp + 1)))]) (cs := [vi r_2.A, vi r_2.B, vi r_2.C, vi r_2.D, vi (i64.wrap (Exp + 1))]) K21 K6 rfl (mpc rfl (mpc rfl mpn)) rfl)) ?_
       refine rA [9] ?_
       refine rZ 9 rfl (yT 0 5 (aD b) 51 (.agg #[vi r_2.A, vi r_2.B, vi r_2.C, vi r_2.D, vi (i64.wrap (Exp + 1))]) [vi r_2.A, vi r_2.B, vi r_2.C, vi r_2.D, vi (i64.wrap (Exp + 1))] 0 hS15 K2 rfl (hf.g 4 1)) ?_ ?_
       ·rintro _ w_10 ⟨rfl, hS16⟩
        refine ⟨(hS16.se [1, 2]), ?_⟩
        refine ra_done (by kernel_rfl) ?_
        exact ⟨(fc (hf.g 0 0) (fc (hf.g 4 1) (fc (hf.g 5 2) (fc (hf.g 6 3) fn_)))), (hS16.sel [3, 0, 1, 2] rfl rfl)⟩
       exact aN
      exact aN
     exact aN
    exact aN
   refine ra_y 18 (i := 6) (v := vi Exp) rfl rfl rfl (yl (aD b) 4 [vi A, vi B1, vi C, vi D, vi Exp] (vi Exp) K1 (hS8.c 1)) (hS8.se [2, 3]) ?_ ?_
   ·skip
    refine rq 7 19 (v := vi (i64.wrap (Exp + 1))) rfl (hS8.se [2, 3]) (fun w' hw' => (yP Exp 1)) ?_
    refine rA [2] ?_
    refine ra_y 14 (i := 2) (v := .agg #[vi A, vi B1, vi C, vi D]) rfl rfl rfl (ya (aD b) 0 [vi A, vi B1, vi C, vi D, vi Exp] [vi A, vi B1, vi C, vi D] K7 K3 (hS8.c 1)) (hS8.se [2, 3]) ?_ ?_
    ·skip
     refine rA [3] ?_
     refine rC 15 3 rfl (yC [.agg #[vi A, vi B1, vi C, vi D]] K64 (c_spec_l1Root (TRing.mk A B1 C D) _  (hS8.inn0 [] rfl) hc)) ?_ ?_
     ·rintro _ w_11 ⟨rfl, hd5⟩
      have hS17 := hS8.out00 hd5
      refine ⟨(hS17.se [2, 3]), ?_⟩
      refine rA [4] ?_
      refine rC 16 4 rfl (yC [pt B 0, gR_ r_1] K51 (c_spec_l2C_ring (Tl2C.mk bad) r_1 B _  (hS17.inn [true, false, false, false] rfl [] rfl) hc1)) ?_ ?_
      ·rintro _ w_12 ⟨rfl, hd6⟩
       have hS18 := hS17.out [true, false, false, false] rfl hd6
       refine ⟨(hS18.se [1, 2]), ?_⟩
       refine rq 8 20 (v := .agg #[vi r_2.A, vi r_2.B, vi r_2.C, vi r_2.D, vi (i64.wrap (Exp + 1))]) rfl (hS18.se [1, 2]) (fun w' hw' => (Y_buildS (zs := kZ_) (vs := [(0, gR_ r_2), (1, vi (i64.wrap (Exp + 1)))]) (cs := [vi r_2.A, vi r_2.B, vi r_2.C, vi r_2.D, vi (i64.wrap (Exp + 1))]) K21 K6 rfl (mpc rfl (mpc rfl mpn)) rfl)) ?_
       refine rA [9] ?_
       refine rZ 9 rfl (yT 0 5 (aD b) 51 (.agg #[vi r_2.A, vi r_2.B, vi r_2.C, vi r_2.D, vi (i64.wrap (Exp + 1))]) [vi r_2.A, vi r_2.B, vi r_2.C, vi r_2.D, vi (i64.wrap (Exp + 1))] 0 hS18 K2 rfl (hf.g 4 1)) ?_ ?_
       ·rintro _ w_13 ⟨rfl, hS19⟩
        refine ⟨(hS19.se [1, 2]), ?_⟩
        refine ra_done (by kernel_rfl) ?_
        exact ⟨(fc (hf.g 0 0) (fc (hf.g 4 1) (fc (hf.g 5 2) (fc (hf.g 6 3) fn_)))), (hS19.sel [3, 0, 1, 2] rfl rfl)⟩
       exact aN
      exact aN
     exact aN
    exact aN
   exact aN
  rintro f w ⟨hf1, hS7⟩
  obtain rfl := sI hF2
  exact ⟨K9, Nat.lt_succ_self _, m1.bad, r_2.A, r_2.B, r_2.C, r_2.D, (i64.wrap (Exp + 1)), (fc (hf1.g 0 0) (fc (hf1.g 4 1) (fc (hf1.g 5 2) (fc (hf1.g 6 3) fn_)))), (hS7.sel [0, 1, 2, 3] rfl rfl), hL1⟩
 ·skip
  have hF3 := cf' hb hb1
  refine cw_exit rfl ?_
  obtain rfl := sI hF3
  obtain rfl := sI hL1
  refine cq ?_
  obtain ⟨z1, hz1, hF4⟩ := bI hF1
  refine cw_block ?_
  refine cw_loop (fun k f w => ∃ (bad1 : Bool) (A1 : Int) (B2 : Int) (C1 : Int) (D1 : Int) (Exp1 : Int), FF f [(0, pt B 0), (4, pt (aD b) 0), (5, pt (aD b1) 0), (6, pt (aD b2) 0)] ∧ ST w0 (bl [⟨B, 67, [.bool c.bad], 1⟩]) w [⟨B, 67, [.bool bad1], 1⟩, ⟨aD b, 51, [vi A, vi B1, vi C, vi D, vi Exp], 5⟩, ⟨aD b1, 51, [vi A1, vi B2, vi C1, vi D1, vi Exp1], 5⟩, ⟨aD b2, 51, kZ_, 5⟩] [] ∧ whX (F_spec_l2C_add_l2 Exp bad A C D) k (bad1, A1, B2, C1, D1, Exp1) = some z1) fuel ⟨bad, y.Num.A, y.Num.B, y.Num.C, y.Num.D, y.Exp, (fc (hf.g 0 0) (fc (hf.g 4 1) (fc (hf.g 5 2) (fc (hf.g 6 3) fn_)))), (hS4.sel [0, 1, 2, 3] rfl rfl), hz1⟩ ?_
  rintro K22 f w ⟨bad1, A1, B2, C1, D1, Exp1, hf2, hS20, hL2⟩
  obtain ⟨K43, y2, rfl, hb2, hL3⟩ := whX_go hL2
  unfold F_spec_l2C_add_l2 at hb2
  refine cq (cq (cr ?_))
  refine sQ 21 (yd (aD b1) 0 0 K33 K0 rfl (hf2.g 5 2)) <| sQ 22 (yl (aD b1) 4 [vi A1, vi B2, vi C1, vi D1, vi Exp1] (vi Exp1) K1 (hS20.c 2)) <| sQ 23 (yd (aD b) 0 0 K33 K0 rfl (hf2.g 4 1)) <| sQ 24 (yl (aD b) 4 [vi A, vi B1, vi C, vi D, vi Exp] (vi Exp) K1 (hS20.c 1)) <| sQ 25 (yL Exp1 Exp) (rn ?_)
  refine cw_cond (b := (decide (Exp1 < Exp))) rfl (fun hb3 => ?_) (fun hb3 => ?_)
  ·skip
   have hF5 := ct hb2 hb3
   refine cw_skip (cw_block ?_)
   obtain ⟨r_3, hc2, hF5⟩ := bI hF5
   obtain ⟨⟨r_4, m2⟩, hc3, hF5⟩ := bI hF5
   refine cw_mid (fun f w => FF f [(0, pt B 0), (4, pt (aD b) 0), (5, pt (aD b1) 0), (6, pt (aD b2) 0)] ∧ ST w0 (bl [⟨B, 67, [.bool c.bad], 1⟩]) w [⟨B, 67, [.bool m2.bad], 1⟩, ⟨aD b, 51, [vi A, vi B1, vi C, vi D, vi Exp], 5⟩, ⟨aD b1, 51, [vi r_4.A, vi r_4.B, vi r_4.C, vi r_4.D, vi (i64.wrap (Exp1 + 1))], 5⟩, ⟨aD b2, 51, kZ_, 5⟩] []) ?_ ?_
   ·skip
    refine ra_start (hS20.se [1, 3]).fn (by kernel_rfl) ?_
    have hS24 := hS20.drew
    refine rq 0 26 (v := pt B 0) rfl (hS24.se [1, 3]) (fun w' hw' => (ym (pt B 0) rfl (hf2.g 0 0))) ?_
    refine rq 1 27 (v := pt (aD b1) 0) rfl (hS24.se [1, 3]) (fun w' hw' => (yd (aD b1) 0 3 K41 K3 rfl (hf2.g 5 2))) ?_
    refine rq 5 31 (v := pt (aD b1) 4) rfl (hS24.se [1, 3]) (fun w' hw' => (yd (aD b1) 0 0 K33 K0 rfl (hf2.g 5 2))) ?_
    refine rA [2, 6] ?_
    refine ra_y 28 (i := 2) (v := .agg #[vi A1, vi B2, vi C1, vi D1]) rfl rfl rfl (ya (aD b1) 0 [vi A1, vi B2, vi C1, vi D1, vi Exp1] [vi A1, vi B2, vi C1, vi D1] K7 K3 (hS24.c 2)) (hS24.se [1, 3]) ?_ ?_
    ·skip
     refine rA [3, 6] ?_
     refine rC 29 3 rfl (yC [.agg #[vi A1, vi B2, vi C1, vi D1]] K64 (c_spec_l1Root (TRing.mk A1 B2 C1 D1) _  (hS24.inn0 [] rfl) hc2)) ?_ ?_
     ·rintro _ w_14 ⟨rfl, hd7⟩
      have hS25 := hS24.out00 hd7
      refine ⟨(hS25.se [1, 3]), ?_⟩
      refine rA [4, 6] ?_
      refine rC 30 4 rfl (yC [pt B 0, gR_ r_3] K51 (c_spec_l2C_ring (Tl2C.mk bad1) r_3 B _  (hS25.inn [true, false, false, false] rfl [] rfl) hc3)) ?_ ?_
      ·rintro _ w_15 ⟨rfl, hd8⟩
       have hS26 := hS25.out [true, false, false, false] rfl hd8
       refine ⟨(hS26.se [0, 2]), ?_⟩
       refine rA [6] ?_
       refine ra_y 32 (i := 6) (v := vi Exp1) rfl rfl rfl (yl (aD b1) 4 [vi A1, vi B2, vi C1, vi D1, vi Exp1] (vi Exp1) K1 (hS26.c 1)) (hS26.se [0, 2]) ?_ ?_
       ·skip
        refine rq 7 33 (v := vi (i64.wrap (Exp1 + 1))) rfl (hS26.se [0, 2]) (fun w' hw' => (yP Exp1 1)) ?_
        refine rq 8 34 (v := .agg #[vi r_4.A, vi r_4.B, vi r_4.C, vi r_4.D, vi (i64.wrap (Exp1 + 1))]) rfl (hS26.se [0, 2]) (fun w' hw' => (Y_buildS (zs := kZ_) (vs := [(0, gR_ r_4), (1, vi (i64.wrap (Exp1 + 1)))]) (cs := [vi r_4.A, vi r_4.B, vi r_4.C, vi r_4.D, vi (i64.wrap (Exp1 + 1))]) K21 K6 rfl (mpc rfl (mpc rfl mpn)) rfl)) ?_
        refine rA [9] ?_
        refine rZ 9 rfl (yT 1 5 (aD b1) 51 (.agg #[vi r_4.A, vi r_4.B, vi r_4.C, vi r_4.D, vi (i64.wrap (Exp1 + 1))]) [vi r_4.A, vi r_4.B, vi r_4.C, vi r_4.D, vi (i64.wrap (Exp1 + 1))] 0 hS26 K2 rfl (hf2.g 5 2)) ?_ ?_
        ·rintro _ w_16 ⟨rfl, hS27⟩
         refine ⟨(hS27.se [0, 2]), ?_⟩
         refine ra_done (by kernel_rfl) ?_
         exact ⟨(fc (hf2.g 0 0) (fc (hf2.g 4 1) (fc (hf2.g 5 2) (fc (hf2.g 6 3) fn_)))), (hS27.sel [3, 0, 1, 2] rfl rfl)⟩
        exact aN
       exact aN
      refine ra_y 32 (i := 6) (v := vi Exp1) rfl rfl rfl (yl (aD b1) 4 [vi A1, vi B2, vi C1, vi D1, vi Exp1] (vi Exp1) K1 (hS25.c 2)) (hS25.se [1, 3]) ?_ ?_
      ·skip
       refine rq 7 33 (v := vi (i64.wrap (Exp1 + 1))) rfl (hS25.se [1, 3]) (fun w' hw' => (yP Exp1 1)) ?_
       refine rA [4] ?_
       refine rC 30 4 rfl (yC [pt B 0, gR_ r_3] K51 (c_spec_l2C_ring (Tl2C.mk bad1) r_3 B _  (hS25.inn [true, false, false, false] rfl [] rfl) hc3)) ?_ ?_
       ·rintro _ w_17 ⟨rfl, hd9⟩
        have hS28 := hS25.out [true, false, false, false] rfl hd9
        refine ⟨(hS28.se [0, 2]), ?_⟩
        refine rq 8 34 (v := .agg #[vi r_4.A, vi r_4.B, vi r_4.C, vi r_4.D, vi (i64.wrap (Exp1 + 1))]) rfl (hS28.se [0, 2]) (fun w' hw' => (Y_buildS (zs := kZ_) (vs := [(0, gR_ r_4), (1, vi (i64.wrap (Exp1 + 1)))]) (cs := [vi r_4.A, vi r_4.B, vi r_4.C, vi r_4.D, vi (i64.wrap (Exp1 + 1))]) K21 K6 rfl (mpc rfl (mpc rfl mpn)) rfl)) ?_
        refine rA [9] ?_
        refine rZ 9 rfl (yT 1 5 (aD b1) 51 (.agg #[vi r_4.A, vi r_4.B, vi r_4.C, vi r_4.D, vi (i64.wrap (Exp1 + 1))]) [vi r_4.A, vi r_4.B, vi r_4.C, vi r_4.D, vi (i64.wrap (Exp1 + 1))] 0 hS28 K2 rfl (hf2.g 5 2)) ?_ ?_
        ·rintro _ w_18 ⟨rfl, hS29⟩
         refine ⟨(hS29.se [0, 2]), ?_⟩
         refine ra_done (by kernel_rfl) ?_
         exact ⟨(fc (hf2.g 0 0) (fc (hf2.g 4 1) (fc (hf2.g 5 2) (fc (hf2.g 6 3) fn_)))), (hS29.sel [3, 0, 1, 2] rfl rfl)⟩
        exact aN
       exact aN
      exact aN
     refine ra_y 32 (i := 6) (v := vi Exp1) rfl rfl rfl (yl (aD b1) 4 [vi A1, vi B2, vi C1, vi D1, vi Exp1] (vi Exp1) K1 (hS24.c 2)) (hS24.se [1, 3]) ?_ ?_
     ·skip
      refine rq 7 33 (v := vi (i64.wrap (Exp1 + 1))) rfl (hS24.se [1, 3]) (fun w' hw' => (yP Exp1 1)) ?_
      refine rA [3] ?_
      refine rC 29 3 rfl (yC [.agg #[vi A1, vi B2, vi C1, vi D1]] K64 (c_spec_l1Root (TRing.mk A1 B2 C1 D1) _  (hS24.inn0 [] rfl) hc2)) ?_ ?_
      ·rintro _ w_19 ⟨rfl, hd10⟩
       have hS30 := hS24.out00 hd10
       refine ⟨(hS30.se [1, 3]), ?_⟩
       refine rA [4] ?_
       refine rC 30 4 rfl (yC [pt B 0, gR_ r_3] K51 (c_spec_l2C_ring (Tl2C.mk bad1) r_3 B _  (hS30.inn [true, false, false, false] rfl [] rfl) hc3)) ?_ ?_
       ·rintro _ w_20 ⟨rfl, hd11⟩
        have hS31 := hS30.out [true, false, false, false] rfl hd11
        refine ⟨(hS31.se [0, 2]), ?_⟩
        refine rq 8 34 (v := .agg #[vi r_4.A, vi r_4.B, vi r_4.C, vi r_4.D, vi (i64.wrap (Exp1 + 1))]) rfl (hS31.se [0, 2]) (fun w' hw' => (Y_buildS (zs := kZ_) (vs := [(0, gR_ r_4), (1, vi (i64.wrap (Exp1 + 1)))]) (cs := [vi r_4.A, vi r_4.B, vi r_4.C, vi r_4.D, vi (i64.wrap (Exp1 + 1))]) K21 K6 rfl (mpc rfl (mpc rfl mpn)) rfl)) ?_
        refine rA [9] ?_
        refine rZ 9 rfl (yT 1 5 (aD b1) 51 (.agg #[vi r_4.A, vi r_4.B, vi r_4.C, vi r_4.D, vi (i64.wrap (Exp1 + 1))]) [vi r_4.A, vi r_4.B, vi r_4.C, vi r_4.D, vi (i64.wrap (Exp1 + 1))] 0 hS31 K2 rfl (hf2.g 5 2)) ?_ ?_
        ·rintro _ w_21 ⟨rfl, hS32⟩
         refine ⟨(hS32.se [0, 2]), ?_⟩
         refine ra_done (by kernel_rfl) ?_
         exact ⟨(fc (hf2.g 0 0) (fc (hf2.g 4 1) (fc (hf2.g 5 2) (fc (hf2.g 6 3) fn_)))), (hS32.sel [3, 0, 1, 2] rfl rfl)⟩
        exact aN
       exact aN
      exact aN
     exact aN
    refine ra_y 32 (i := 6) (v := vi Exp1) rfl rfl rfl (yl (aD b1) 4 [vi A1, vi B2, vi C1, vi D1, vi Exp1] (vi Exp1) K1 (hS24.c 2)) (hS24.se [1, 3]) ?_ ?_
    ·skip
     refine rq 7 33 (v := vi (i64.wrap (Exp1 + 1))) rfl (hS24.se [1, 3]) (fun w' hw' => (yP Exp1 1)) ?_
     refine rA [2] ?_
     refine ra_y 28 (i := 2) (v := .agg #[vi A1, vi B2, vi C1, vi D1]) rfl rfl rfl (ya (aD b1) 0 [vi A1, vi B2, vi C1, vi D1, vi Exp1] [vi A1, vi B2, vi C1, vi D1] K7 K3 (hS24.c 2)) (hS24.se [1, 3]) ?_ ?_
     ·skip
      refine rA [3] ?_
      refine rC 29 3 rfl (yC [.agg #[vi A1, vi B2, vi C1, vi D1]] K64 (c_spec_l1Root (TRing.mk A1 B2 C1 D1) _  (hS24.inn0 [] rfl) hc2)) ?_ ?_
      ·rintro _ w_22 ⟨rfl, hd12⟩
       have hS33 := hS24.out00 hd12
       refine ⟨(hS33.se [1, 3]), ?_⟩
       refine rA [4] ?_
       refine rC 30 4 rfl (yC [pt B 0, gR_ r_3] K51 (c_spec_l2C_ring (Tl2C.mk bad1) r_3 B _  (hS33.inn [true, false, false, false] rfl [] rfl) hc3)) ?_ ?_
       ·rintro _ w_23 ⟨rfl, hd13⟩
        have hS34 := hS33.out [true, false, false, false] rfl hd13
        refine ⟨(hS34.se [0, 2]), ?_⟩
        refine rq 8 34 (v := .agg #[vi r_4.A, vi r_4.B, vi r_4.C, vi r_4.D, vi (i64.wrap (Exp1 + 1))]) rfl (hS34.se [0, 2]) (fun w' hw' => (Y_buildS (zs := kZ_) (vs := [(0, gR_ r_4), (1, vi (i64.wrap (Exp1 + 1)))]) (cs := [vi r_4.A, vi r_4.B, vi r_4.C, vi r_4.D, vi (i64.wrap (Exp1 + 1))]) K21 K6 rfl (mpc rfl (mpc rfl mpn)) rfl)) ?_
        refine rA [9] ?_
        refine rZ 9 rfl (yT 1 5 (aD b1) 51 (.agg #[vi r_4.A, vi r_4.B, vi r_4.C, vi r_4.D, vi (i64.wrap (Exp1 + 1))]) [vi r_4.A, vi r_4.B, vi r_4.C, vi r_4.D, vi (i64.wrap (Exp1 + 1))] 0 hS34 K2 rfl (hf2.g 5 2)) ?_ ?_
        ·rintro _ w_24 ⟨rfl, hS35⟩
         refine ⟨(hS35.se [0, 2]), ?_⟩
         refine ra_done (by kernel_rfl) ?_
         exact ⟨(fc (hf2.g 0 0) (fc (hf2.g 4 1) (fc (hf2.g 5 2) (fc (hf2.g 6 3) fn_)))), (hS35.sel [3, 0, 1, 2] rfl rfl)⟩
        exact aN
       exact aN
      exact aN
     exact aN
    exact aN
   rintro f w ⟨hf3, hS23⟩
   obtain rfl := sI hF5
   exact ⟨K43, Nat.lt_succ_self _, m2.bad, r_4.A, r_4.B, r_4.C, r_4.D, (i64.wrap (Exp1 + 1)), (fc (hf3.g 0 0) (fc (hf3.g 4 1) (fc (hf3.g 5 2) (fc (hf3.g 6 3) fn_)))), (hS23.sel [0, 1, 2, 3] rfl rfl), hL3⟩
  ·skip
   have hF6 := cf' hb2 hb3
   refine cw_exit rfl ?_
   obtain rfl := sI hF6
   obtain rfl := sI hL3
   refine cq ?_
   obtain ⟨r_5, hc4, hF4⟩ := bI hF4
   obtain ⟨⟨r_6, m3⟩, hc5, hF4⟩ := bI hF4
   obtain ⟨r_7, hc6, hF4⟩ := bI hF4
   refine ra_start (hS20.se [1, 2]).fn (by kernel_rfl) ?_
   have hS39 := hS20.drew
   refine rq 0 35 (v := pt B 0) rfl (hS39.se [1, 2]) (fun w' hw' => (ym (pt B 0) rfl (hf2.g 0 0))) ?_
   refine rq 1 36 (v := pt (aD b) 0) rfl (hS39.se [1, 2]) (fun w' hw' => (yd (aD b) 0 3 K41 K3 rfl (hf2.g 4 1))) ?_
   refine rq 2 37 (v := .agg #[vi A, vi B1, vi C, vi D]) rfl (hS39.se [1, 2]) (fun w' hw' => (ya (aD b) 0 [vi A, vi B1, vi C, vi D, vi Exp] [vi A, vi B1, vi C, vi D] K7 K3 (ST.cf hw' (i := 0) rfl))) ?_
   refine rq 3 38 (v := pt (aD b1) 0) rfl (hS39.se [1, 2]) (fun w' hw' => (yd (aD b1) 0 3 K41 K3 rfl (hf2.g 5 2))) ?_
   refine rq 4 39 (v := .agg #[vi A1, vi B2, vi C1, vi D1]) rfl (hS39.se [1, 2]) (fun w' hw' => (ya (aD b1) 0 [vi A1, vi B2, vi C1, vi D1, vi Exp1] [vi A1, vi B2, vi C1, vi D1] K7 K3 (ST.cf hw' (i := 1) rfl))) ?_
   refine rq 7 42 (v := pt (aD b) 4) rfl (hS39.se [1, 2]) (fun w' hw' => (yd (aD b) 0 0 K33 K0 rfl (hf2.g 4 1))) ?_
   refine rq 8 43 (v := vi Exp) rfl (hS39.se [1, 2]) (fun w' hw' => (yl (aD b) 4 [vi A, vi B1, vi C, vi D, vi Exp] (vi Exp) K1 (ST.cf hw' (i := 0) rfl))) ?_
   refine rA [5] ?_
   refine rC 40 5 rfl (yC [.agg #[vi A, vi B1, vi C, vi D], .agg #[vi A1, vi B2, vi C1, vi D1]] k_call_103 (c_spec_l1Add (TRing.mk A B1 C D) (TRing.mk A1 B2 C1 D1) _  (hS39.inn0 [] rfl) hc4)) ?_ ?_
   ·rintro _ w_25 ⟨rfl, hd14⟩
    have hS40 := hS39.out00 hd14
    refine ⟨(hS40.se [1, 2]), ?_⟩
    refine rA [6] ?_
    refine rC 41 6 rfl (yC [pt B 0, gR_ r_5] K51 (c_spec_l2C_ring (Tl2C.mk bad1) r_5 B _  (hS40.inn [true, false, false, false] rfl [] rfl) hc5)) ?_ ?_
    ·rintro _ w_26 ⟨rfl, hd15⟩
     have hS41 := hS40.out [true, false, false, false] rfl hd15
     refine ⟨(hS41.se [0, 1]), ?_⟩
     refine rA [9] ?_
     refine rC 44 9 rfl (yC [gR_ r_6, vi Exp] K92 (c_spec_l2Low r_6 Exp _  (hS41.inn0 [] rfl) hc6)) ?_ ?_
     ·rintro _ w_27 ⟨rfl, hd16⟩
      have hS42 := hS41.out00 hd16
      refine ⟨(hS42.se [0, 1]), ?_⟩
      refine rA [10] ?_
      refine rZ 10 rfl (yT 2 5 (aD b2) 51 (gD_ r_7) (kD_ r_7) 0 hS42 K2 rfl (hf2.g 6 3)) ?_ ?_
      ·rintro _ w_28 ⟨rfl, hS43⟩
       refine ⟨(hS43.se [0, 1]), ?_⟩
       refine ra_done (by kernel_rfl) ?_
       refine ct_ ?_
       obtain ⟨rfl, rfl⟩ := pr2 (sI hF4)
       exact ret1 Tryz.results73 (v1 := gD_ r_7) (resAt_cellA (B := aD b2) (i := 0) (cs := kD_ r_7) (vs := kD_ r_7) (hf2.g 6 3) K5 K2 (hS43.c 2) rfl rfl) ⟨rfl, (hS43.sN [3])⟩
      exact aN
     exact aN
    exact aN
   exact aN

theorem c_spec_l1Neg (x : TRing)  (w0 : World)  (hS : ST w0 [] w0 [] []) {r_ : TRing} (hF : F_spec_l1Neg x = some r_) :
  CV Tryz.prog 104 #[gR_ x] w0 (fun v w' => v = (gR_ r_) ∧ ST w0 [] w' [] []) := by
 unfold F_spec_l1Neg at hF
 refine cv_of_cw 16 Tryz.func104 rfl Tryz.ntmps104 rfl ?_
 refine cq (cr ?_)
 refine sS 1 (yB 49 (gR_ x) (kR_ x) 4 hS) ?_
 rintro _ w_ ⟨b, rfl, hS1⟩
 refine sS 2 (yN [vi 0, vi 0, vi 0, vi 0] 4 hS1 K14) ?_
 rintro _ w_1 ⟨b1, rfl, hS2⟩
 refine rn (cq (cr ?_))
 refine sQ 3 (yd (aD b) 0 0 K17 K0) <| sQ 4 (yl (aD b) 0 (kR_ x) (vi x.A) K1 (hS2.c 0)) <| sQ 5 (Y_neg (k := .i64) (a := x.A) rfl rfl) <| sQ 6 (yd (aD b) 0 0 K18 K0) <| sQ 7 (yl (aD b) 1 (kR_ x) (vi x.B) K1 (hS2.c 0)) <| sQ 8 (Y_neg (k := .i64) (a := x.B) rfl rfl) ?_
 refine sQ 9 (yd (aD b) 0 0 K19 K0) <| sQ 10 (yl (aD b) 2 (kR_ x) (vi x.C) K1 (hS2.c 0)) <| sQ 11 (Y_neg (k := .i64) (a := x.C) rfl rfl) <| sQ 12 (yd (aD b) 0 0 K20 K0) <| sQ 13 (yl (aD b) 3 (kR_ x) (vi x.D) K1 (hS2.c 0)) <| sQ 14 (Y_neg (k := .i64) (a := x.D) rfl rfl) ?_
 refine sQ 15 (Y_buildS (zs := [vi 0, vi 0, vi 0, vi 0]) (vs := [(0, vi (i64.wrap (-x.A))), (1, vi (i64.wrap (-x.B))), (2, vi (i64.wrap (-x.C))), (3, vi (i64.wrap (-x.D)))]) (cs := [vi (i64.wrap (-x.A)), vi (i64.wrap (-x.B)), vi (i64.wrap (-x.C)), vi (i64.wrap (-x.D))]) K31 K14 rfl (mpc rfl (mpc rfl (mpc rfl (mpc rfl mpn)))) rfl) ?_
 refine s0 (yT 1 4 (aD b1) 49 (.agg #[vi (i64.wrap (-x.A)), vi (i64.wrap (-x.B)), vi (i64.wrap (-x.C)), vi (i64.wrap (-x.D))]) [vi (i64.wrap (-x.A)), vi (i64.wrap (-x.B)), vi (i64.wrap (-x.C)), vi (i64.wrap (-x.D))] 0 hS2 K3) ?_
 rintro _ w_2 ⟨rfl, hS3⟩
 refine rn (ct_ ?_)
 obtain rfl := sI hF
 exact ret1 Tryz.results104 (v1 := .agg #[vi (i64.wrap (-x.A)), vi (i64.wrap (-x.B)), vi (i64.wrap (-x.C)), vi (i64.wrap (-x.D))]) (resAt_cellA (B := aD b1) (i := 0) (cs := [vi (i64.wrap (-x.A)), vi (i64.wrap (-x.B)), vi (i64.wrap (-x.C)), vi (i64.wrap (-x.D))]) (vs := [vi (i64.wrap (-x.A)), vi (i64.wrap (-x.B)), vi (i64.wrap (-x.C)), vi (i64.wrap (-x.D))]) rfl K7 K3 (hS3.c 1) rfl rfl) ⟨rfl, (hS3.sN [])⟩

theorem c_spec_l2Neg (x : TDyadic)  (w0 : World)  (hS : ST w0 [] w0 [] []) {r_ : TDyadic} (hF : F_spec_l2Neg x = some r_) :
  CV Tryz.prog 74 #[gD_ x] w0 (fun v w' => v = (gD_ r_) ∧ ST w0 [] w' [] []) := by
 unfold F_spec_l2Neg at hF
 refine cv_of_cw 9 Tryz.func74 rfl Tryz.ntmps74 rfl ?_
 refine cq (cr ?_)
 refine sS 1 (yB 51 (gD_ x) (kD_ x) 5 hS) ?_
 rintro _ w_ ⟨b, rfl, hS1⟩
 refine sS 2 (yN kZ_ 5 hS1 K6) ?_
 rintro _ w_1 ⟨b1, rfl, hS2⟩
 refine rn (cq ?_)
 obtain ⟨r_1, hc, hF⟩ := bI hF
 refine ra_start (hS2.se [0]).fn (by kernel_rfl) ?_
 have hS4 := hS2.drew
 refine rq 0 3 (v := pt (aD b) 0) rfl (hS4.se [0]) (fun w' hw' => (yd (aD b) 0 3 K41 K3)) ?_
 refine rq 1 4 (v := gR_ x.Num) rfl (hS4.se [0]) (fun w' hw' => (ya (aD b) 0 (kD_ x) (kR_ x.Num) K7 K3 (ST.cf hw' (i := 0) rfl))) ?_
 refine rq 3 6 (v := pt (aD b) 4) rfl (hS4.se [0]) (fun w' hw' => (yd (aD b) 0 0 K33 K0)) ?_
 refine rq 4 7 (v := vi x.Exp) rfl (hS4.se [0]) (fun w' hw' => (yl (aD b) 4 (kD_ x) (vi x.Exp) K1 (ST.cf hw' (i := 0) rfl))) ?_
 refine rA [2] ?_
 refine rC 5 2 rfl (yC [gR_ x.Num] k_call_104 (c_spec_l1Neg x.Num _  (hS4.inn0 [] rfl) hc)) ?_ ?_
 ·rintro _ w_2 ⟨rfl, hd⟩
  have hS5 := hS4.out00 hd
  refine ⟨(hS5.se [0]), ?_⟩
  refine rq 5 8 (v := .agg #[vi r_1.A, vi r_1.B, vi r_1.C, vi r_1.D, vi x.Exp]) rfl (hS5.se [0]) (fun w' hw' => (Y_buildS (zs := kZ_) (vs := [(0, gR_ r_1), (1, vi x.Exp)]) (cs := [vi r_1.A, vi r_1.B, vi r_1.C, vi r_1.D, vi x.Exp]) K21 K6 rfl (mpc rfl (mpc rfl mpn)) rfl)) ?_
  refine rA [6] ?_
  refine rZ 6 rfl (yT 1 5 (aD b1) 51 (.agg #[vi r_1.A, vi r_1.B, vi r_1.C, vi r_1.D, vi x.Exp]) [vi r_1.A, vi r_1.B, vi r_1.C, vi r_1.D, vi x.Exp] 0 hS5 K2) ?_ ?_
  ·rintro _ w_3 ⟨rfl, hS6⟩
   refine ⟨(hS6.se [0]), ?_⟩
   refine ra_done (by kernel_rfl) ?_
   refine ct_ ?_
   obtain rfl := sI hF
   exact ret1 Tryz.results74 (v1 := .agg #[vi r_1.A, vi r_1.B, vi r_1.C, vi r_1.D, vi x.Exp]) (resAt_cellA (B := aD b1) (i := 0) (cs := [vi r_1.A, vi r_1.B, vi r_1.C, vi r_1.D, vi x.Exp]) (vs := [vi r_1.A, vi r_1.B, vi r_1.C, vi r_1.D, vi x.Exp]) rfl K5 K2 (hS6.c 1) rfl rfl) ⟨rfl, (hS6.sN [])⟩
  exact aN
 exact aN

theorem c_spec_l2C_level (c : Tl2C) (m : TMatrix) (t : TTwoLevel) (B : Option Addr) (B1 : Option Addr) (c1 n : Nat) (w0 : World) (hn : m.Cells.length = n) (hS : ST w0 (bl [⟨B, 67, [.bool c.bad], 1⟩]) w0 [⟨B, 67, [.bool c.bad], 1⟩] [⟨B1, (m.Cells.flatMap eN0)⟩]) {r_ : TMatrix} {m1 : Tl2C} (hF : F_spec_l2C_level c m t = some (r_, m1)) :
  CV Tryz.prog 36 #[pt B 0, .agg #[vi m.Rows, vi m.Cols, .slice B1 n c1], .agg #[vi t.Kind, vi t.I, vi t.J, vi t.M_]] w0 (fun v w' => ∃ (B2 : Option Addr) (c2 : Nat), v = (gM_ r_ B2 c2) ∧ ST w0 (bl [⟨B, 67, [.bool c.bad], 1⟩]) w' [⟨B, 67, [.bool m1.bad], 1⟩, ⟨B2, 51, (r_.Cells.flatMap eN0), c2 * 5⟩] []) := by
 subst hn
 unfold F_spec_l2C_level at hF
 refine cv_of_cw 136 Tryz.func36 rfl Tryz.ntmps36 rfl ?_
 refine cq (cr ?_)
 refine sS 4 (yB 34 (gM_ m B1 c1) (kM_ m B1 c1) 3 hS) ?_
 rintro _ w_ ⟨b, rfl, hS1⟩
 refine sS 5 (yB 25 (.agg #[vi t.Kind, vi t.I, vi t.J, vi t.M_]) [vi t.Kind, vi t.I, vi t.J, vi t.M_] 4 hS1) ?_
 rintro _ w_1 ⟨b1, rfl, hS2⟩
 refine sS 6 (yN kN_ 3 hS2 K10) ?_
 rintro _ w_2 ⟨b2, rfl, hS3⟩
 refine rn (cq ?_)
 obtain ⟨hap, hF⟩ := chk_inv hF
 refine cw_mid (fun f w => ∃ (B4 : Option Addr) (B5 : Option Addr) (c4 : Nat), FF f [(0, pt B 0), (4, pt (aD b) 0), (5, pt (aD b1) 0), (6, pt (aD b2) 0), (7, pt B4 0)] ∧ ST w0 (bl [⟨B, 67, [.bool c.bad], 1⟩]) w [⟨B, 67, [.bool c.bad], 1⟩, ⟨aD b, 34, kM_ m B1 c1, 3⟩, ⟨aD b1, 25, [vi t.Kind, vi t.I, vi t.J, vi t.M_], 4⟩, ⟨aD b2, 34, kN_, 3⟩, ⟨B4, 34, kM_ m B5 c4, 3⟩, ⟨B5, 51, (m.Cells.flatMap eN0), c4 * 5⟩] [⟨B1, (m.Cells.flatMap eN0)⟩]) ?_ ?_
 ·skip
  refine ra_start (hS3.se [0, 1, 2, 3]).fn (by kernel_rfl) ?_
  have hS5 := hS3.drew
  refine rq 0 12 (v := pt (aD b) 0) rfl (hS5.se [0, 1, 2, 3]) (fun w' hw' => (yd (aD b) 0 0 K34 K0)) ?_
  refine rq 1 13 (v := vi m.Rows) rfl (hS5.se [0, 1, 2, 3]) (fun w' hw' => (yl (aD b) 0 (kM_ m B1 c1) (vi m.Rows) K1 (ST.cf hw' (i := 1) rfl))) ?_
  refine rq 2 14 (v := pt (aD b) 1) rfl (hS5.se [0, 1, 2, 3]) (fun w' hw' => (yd (aD b) 0 0 K29 K0)) ?_
  refine rq 3 15 (v := vi m.Cols) rfl (hS5.se [0, 1, 2, 3]) (fun w' hw' => (yl (aD b) 1 (kM_ m B1 c1) (vi m.Cols) K1 (ST.cf hw' (i := 1) rfl))) ?_
  refine rq 5 17 (v := pt (aD b) 2) rfl (hS5.se [0, 1, 2, 3]) (fun w' hw' => (yd (aD b) 0 0 K15 K13)) ?_
  refine rq 6 18 (v := .slice B1 m.Cells.length c1) rfl (hS5.se [0, 1, 2, 3]) (fun w' hw' => (yl (aD b) 2 (kM_ m B1 c1) (.slice B1 m.Cells.length c1) K16 (ST.cf hw' (i := 1) rfl))) ?_
  refine rA [4, 9] ?_
  refine rS 16 4 rfl (Ys_bslice0 (s := 5) (e := 51) hS5 K12 K2 rfl) ?_ ?_
  ·rintro _ w_3 ⟨b3, rfl, hS6⟩
   refine ⟨(hS6.se [0, 1, 2, 3]), ?_⟩
   refine rA [7, 9] ?_
   refine rS 19 7 rfl (Ys_append (s := 5) (by' := 40) (i := 4) (nn := 0) (c := 0) (k := m.Cells.length) (len := m.Cells.length) (B := aD b3) (xs := (m.Cells.flatMap eN0)) (cs' := (m.Cells.flatMap eN0)) hS6 K12 K2 K45 K6 rfl (by decide) rfl rfl rfl rfl (fm_lenn (l := []) eN1 rfl) rfl (hS6.rf (i := 0) rfl) (fm_lenn (l := m.Cells) eN1 rfl) (fm_one' (enc := eN0) enc_Dyadic_one m.Cells) (by have := hap; omega) (by have := hap; simp only [maxLen]; omega) rfl (app_len0 (l := m.Cells) rfl)) ?_ ?_
   ·rintro _ w_4 ⟨B3, c3, rfl, hS7⟩
    refine ⟨(hS7.se [0, 1, 2, 3]), ?_⟩
    refine rq 8 20 (v := gM_ m B3 c3) rfl (hS7.se [0, 1, 2, 3]) (fun w' hw' => (Y_buildS (zs := kN_) (vs := [(0, vi m.Rows), (1, vi m.Cols), (2, .slice B3 m.Cells.length c3)]) (cs := kM_ m B3 c3) K32 K10 rfl (mpc rfl (mpc rfl (mpc rfl mpn))) rfl)) ?_
    refine rA [9] ?_
    refine rS 7 9 rfl (yN kN_ 3 hS7 K10) ?_ ?_
    ·rintro _ w_5 ⟨b4, rfl, hS8⟩
     refine ⟨(hS8.se [0, 1, 2, 3]), ?_⟩
     refine rA [10] ?_
     refine rZ 10 rfl (yT 5 3 (aD b4) 34 (gM_ m B3 c3) (kM_ m B3 c3) 0 hS8 K4) ?_ ?_
     ·rintro _ w_6 ⟨rfl, hS9⟩
      refine ⟨(hS9.se [0, 1, 2, 3]), ?_⟩
      refine ra_done (by kernel_rfl) ?_
      exact ⟨aD b4, B3, c3, (fc rfl (fc rfl (fc rfl (fc rfl (fc rfl fn_))))), (hS9.sel [0, 1, 2, 3, 5, 4] rfl rfl)⟩
     exact aN
    exact aN
   refine rS 7 9 rfl (yN kN_ 3 hS6 K10) ?_ ?_
   ·rintro _ w_7 ⟨b4, rfl, hS10⟩
    have hS10 : ST w0 (bl [⟨B, 67, [.bool c.bad], 1⟩]) _ [⟨B, 67, [.bool c.bad], 1⟩, ⟨aD b, 34, kM_ m B1 c1, 3⟩, ⟨aD b1, 25, [vi t.Kind, vi t.I, vi t.J, vi t.M_], 4⟩, ⟨aD b2, 34, kN_, 3⟩, ⟨aD b3, 51, ([].flatMap eN0), 0 * 5⟩, ⟨aD b4, 34, kN_, 3⟩] [⟨B1, (m.Cells.flatMap eN0)⟩] := hS10
    refine ⟨(hS10.se [0, 1, 2, 3]), ?_⟩
    refine rA [7] ?_
    refine rS 19 7 rfl (Ys_append (s := 5) (by' := 40) (i := 4) (nn := 0) (c := 0) (k := m.Cells.length) (len := m.Cells.length) (B := aD b3) (xs := (m.Cells.flatMap eN0)) (cs' := (m.Cells.flatMap eN0)) hS10 K12 K2 K45 K6 rfl (by decide) rfl rfl rfl rfl (fm_lenn (l := []) eN1 rfl) rfl (hS10.rf (i := 0) rfl) (fm_lenn (l := m.Cells) eN1 rfl) (fm_one' (enc := eN0) enc_Dyadic_one m.Cells) (by have := hap; omega) (by have := hap; simp only [maxLen]; omega) rfl (app_len0 (l := m.Cells) rfl)) ?_ ?_
    ·rintro _ w_8 ⟨B3, c3, rfl, hS11⟩
     refine ⟨(hS11.se [0, 1, 2, 3]), ?_⟩
     refine rq 8 20 (v := gM_ m B3 c3) rfl (hS11.se [0, 1, 2, 3]) (fun w' hw' => (Y_buildS (zs := kN_) (vs := [(0, vi m.Rows), (1, vi m.Cols), (2, .slice B3 m.Cells.length c3)]) (cs := kM_ m B3 c3) K32 K10 rfl (mpc rfl (mpc rfl (mpc rfl mpn))) rfl)) ?_
     refine rA [10] ?_
     refine rZ 10 rfl (yT 5 3 (aD b4) 34 (gM_ m B3 c3) (kM_ m B3 c3) 0 hS11 K4) ?_ ?_
     ·rintro _ w_9 ⟨rfl, hS12⟩
      refine ⟨(hS12.se [0, 1, 2, 3]), ?_⟩
      refine ra_done (by kernel_rfl) ?_
      exact ⟨aD b4, B3, c3, (fc rfl (fc rfl (fc rfl (fc rfl (fc rfl fn_))))), (hS12.sel [0, 1, 2, 3, 5, 4] rfl rfl)⟩
     exact aN
    exact aN
   exact aN
  refine rS 7 9 rfl (yN kN_ 3 hS5 K10) ?_ ?_
  ·rintro _ w_10 ⟨b4, rfl, hS13⟩
   refine ⟨(hS13.se [0, 1, 2, 3]), ?_⟩
   refine rA [4] ?_
   refine rS 16 4 rfl (Ys_bslice0 (s := 5) (e := 51) hS13 K12 K2 rfl) ?_ ?_
   ·rintro _ w_11 ⟨b3, rfl, hS14⟩
    refine ⟨(hS14.se [0, 1, 2, 3]), ?_⟩
    refine rA [7] ?_
    refine rS 19 7 rfl (Ys_append (s := 5) (by' := 40) (i := 5) (nn := 0) (c := 0) (k := m.Cells.length) (len := m.Cells.length) (B := aD b3) (xs := (m.Cells.flatMap eN0)) (cs' := (m.Cells.flatMap eN0)) hS14 K12 K2 K45 K6 rfl (by decide) rfl rfl rfl rfl (fm_lenn (l := []) eN1 rfl) rfl (hS14.rf (i := 0) rfl) (fm_lenn (l := m.Cells) eN1 rfl) (fm_one' (enc := eN0) enc_Dyadic_one m.Cells) (by have := hap; omega) (by have := hap; simp only [maxLen]; omega) rfl (app_len0 (l := m.Cells) rfl)) ?_ ?_
    ·rintro _ w_12 ⟨B3, c3, rfl, hS15⟩
     refine ⟨(hS15.se [0, 1, 2, 3]), ?_⟩
     refine rq 8 20 (v := gM_ m B3 c3) rfl (hS15.se [0, 1, 2, 3]) (fun w' hw' => (Y_buildS (zs := kN_) (vs := [(0, vi m.Rows), (1, vi m.Cols), (2, .slice B3 m.Cells.length c3)]) (cs := kM_ m B3 c3) K32 K10 rfl (mpc rfl (mpc rfl (mpc rfl mpn))) rfl)) ?_
     refine rA [10] ?_
     refine rZ 10 rfl (yT 4 3 (aD b4) 34 (gM_ m B3 c3) (kM_ m B3 c3) 0 hS15 K4) ?_ ?_
     ·rintro _ w_13 ⟨rfl, hS16⟩
      refine ⟨(hS16.se [0, 1, 2, 3]), ?_⟩
      refine ra_done (by kernel_rfl) ?_
      exact ⟨aD b4, B3, c3, (fc rfl (fc rfl (fc rfl (fc rfl (fc rfl fn_))))), (hS16.sel [0, 1, 2, 3, 4, 5] rfl rfl)⟩
     exact aN
    exact aN
   exact aN
  exact aN
 rintro f w ⟨B4, B5, c4, hf, hS4⟩
 refine cq (cq (cr ?_))
 refine sQ 8 (yg (vi 0)) (rn ?_)
 obtain ⟨hN, hF⟩ := chk_inv hF
 obtain ⟨z, hz, hF1⟩ := bI hF
 refine cw_block ?_
 refine cw_loop (fun k f w => ∃ (k_ : Nat) (bad : Bool) (Cells : List TDyadic), FF f [(0, pt B 0), (4, pt (aD b) 0), (5, pt (aD b1) 0), (6, pt (aD b2) 0), (7, pt B4 0), (8, vi (k_ : Int))] ∧ Cells.length = m.Cells.length ∧ ST w0 (bl [⟨B, 67, [.bool c.bad], 1⟩]) w [⟨B, 67, [.bool bad], 1⟩, ⟨aD b, 34, kM_ m B1 c1, 3⟩, ⟨aD b1, 25, [vi t.Kind, vi t.I, vi t.J, vi t.M_], 4⟩, ⟨aD b2, 34, kN_, 3⟩, ⟨B4, 34, kM_ m B5 c4, 3⟩, ⟨B5, 51, (Cells.flatMap eN0), c4 * 5⟩] [⟨B1, (m.Cells.flatMap eN0)⟩] ∧ k_ + k = m.Cols.toNat ∧ forN (F_spec_l2C_level_l1 m t) k k_ (bad, Cells) = some z) m.Cols.toNat ⟨0, c.bad, m.Cells, (fc (hf.g 0 0) (fc (hf.g 4 1) (fc (hf.g 5 2) (fc (hf.g 6 3) (fc (hf.g 7 4) (fc rfl fn_)))))), rfl, (hS4.sel [0, 1, 2, 3, 4, 5] rfl rfl), Nat.zero_add _, hz⟩ ?_
 rintro K9 f w ⟨k_, bad, Cells, hf1, hl, hS17, hik, hL⟩
 refine cq (cq (cr ?_))
 refine sQ 21 (ym (vi (k_ : Int)) rfl (hf1.g 8 5)) <| sQ 22 (yd (aD b) 0 0 K29 K0 rfl (hf1.g 4 1)) <| sQ 23 (yl (aD b) 1 (kM_ m B1 c1) (vi m.Cols) K1 (hS17.c 1)) <| sQ 24 (yL (k_ : Int) m.Cols) (rn ?_)
 refine cw_cond (b := (decide ((k_ : Int) < m.Cols))) rfl (fun hlt => ?_) (fun hlt => ?_)
 ·skip
  have hlt1 : k_ < m.Cols.toNat := by have h := of_decide_eq_true hlt; omega
  obtain ⟨K22, rfl⟩ : ∃ k2, K9 = k2 + 1 := ⟨K9 - 1, by omega⟩
  obtain ⟨y, hb, hL1⟩ := forN_go hL
  unfold F_spec_l2C_level_l1 at hb
  refine cw_skip (cq ?_)
  obtain ⟨z1, hz1, hF2⟩ := bI hb
  refine cw_mid (fun f w => ∃ (bad1 : Bool) (Cells1 : List TDyadic), (bad1, Cells1) = z1 ∧ FF f [(0, pt B 0), (4, pt (aD b) 0), (5, pt (aD b1) 0), (6, pt (aD b2) 0), (7, pt B4 0), (8, vi (k_ : Int))] ∧ Cells1.length = m.Cells.length ∧ ST w0 (bl [⟨B, 67, [.bool c.bad], 1⟩]) w [⟨B, 67, [.bool bad1], 1⟩, ⟨aD b, 34, kM_ m B1 c1, 3⟩, ⟨aD b1, 25, [vi t.Kind, vi t.I, vi t.J, vi t.M_], 4⟩, ⟨aD b2, 34, kN_, 3⟩, ⟨B4, 34, kM_ m B5 c4, 3⟩, ⟨B5, 51, (Cells1.flatMap eN0), c4 * 5⟩] [⟨B1, (m.Cells.flatMap eN0)⟩]) ?_ ?_
  ·skip
   refine cw_block (cq (cr ?_))
   refine sQ 27 (yd (aD b) 0 0 K15 K13 rfl (hf1.g 4 1)) <| sQ 28 (yl (aD b) 2 (kM_ m B1 c1) (.slice B1 m.Cells.length c1) K16 (hS17.c 1)) <| sQ 29 (yd (aD b1) 0 0 K36 K0 rfl (hf1.g 5 2)) <| sQ 30 (yl (aD b1) 1 [vi t.Kind, vi t.I, vi t.J, vi t.M_] (vi t.I) K1 (hS17.c 2)) <| sQ 31 (yd (aD b) 0 0 K29 K0 rfl (hf1.g 4 1)) <| sQ 32 (yl (aD b) 1 (kM_ m B1 c1) (vi m.Cols) K1 (hS17.c 1)) ?_
   refine sQ 33 (yX t.I m.Cols) <| sQ 34 (ym (vi (k_ : Int)) rfl (hf1.g 8 5)) <| sQ 35 (yP (i64.wrap (t.I * m.Cols)) (k_ : Int)) ?_
   obtain ⟨x, hx, hz1⟩ := bI hz1
   refine sQ 36 (Y_index (B := B1) (m := m.Cells.length) (c := c1) (k := .i64) (i := (i64.wrap ((i64.wrap (t.I * m.Cols)) + (k_ : Int)))) K12 K2 rfl rfl rfl (gi_isSome eN1 rfl (hS17.rf (i := 0) rfl) hx) (getI_nn hx) (getI_ltI hx rfl)) <| sQ 37 (ya B1 ((i64.wrap ((i64.wrap (t.I * m.Cols)) + (k_ : Int))).toNat * 5) (m.Cells.flatMap eN0) (kD_ x) K5 K2 (hS17.rf (i := 0) rfl) rfl rfl (eN1 x) (gi_seg eN1 hx)) ?_
   refine sS 9 (yN kZ_ 5 hS17 K6) ?_
   rintro _ w_14 ⟨b5, rfl, hS19⟩
   refine s0 (yT 6 5 (aD b5) 51 (gD_ x) (kD_ x) 0 hS19 K2) ?_
   rintro _ w_15 ⟨rfl, hS20⟩
   have hS20 : ST w0 (bl [⟨B, 67, [.bool c.bad], 1⟩]) _ [⟨B, 67, [.bool bad], 1⟩, ⟨aD b, 34, kM_ m B1 c1, 3⟩, ⟨aD b1, 25, [vi t.Kind, vi t.I, vi t.J, vi t.M_], 4⟩, ⟨aD b2, 34, kN_, 3⟩, ⟨B4, 34, kM_ m B5 c4, 3⟩, ⟨B5, 51, (Cells.flatMap eN0), c4 * 5⟩, ⟨aD b5, 51, kD_ x, 5⟩] [⟨B1, (m.Cells.flatMap eN0)⟩] := hS20
   refine rn (cq ?_)
   obtain ⟨r_1, hc, hz1⟩ := bI hz1
   obtain ⟨x1, hx1, hz1⟩ := bI hz1
   obtain ⟨⟨r_2, m2⟩, hc1, hz1⟩ := bI hz1
   refine cw_mid (fun f w => ∃ (B6 : Option Addr), FF f [(0, pt B 0), (4, pt (aD b) 0), (5, pt (aD b1) 0), (6, pt (aD b2) 0), (7, pt B4 0), (8, vi (k_ : Int)), (9, pt (aD b5) 0), (10, pt B6 0)] ∧ ST w0 (bl [⟨B, 67, [.bool c.bad], 1⟩]) w [⟨B, 67, [.bool m2.bad], 1⟩, ⟨aD b, 34, kM_ m B1 c1, 3⟩, ⟨aD b1, 25, [vi t.Kind, vi t.I, vi t.J, vi t.M_], 4⟩, ⟨aD b2, 34, kN_, 3⟩, ⟨B4, 34, kM_ m B5 c4, 3⟩, ⟨B5, 51, (Cells.flatMap eN0), c4 * 5⟩, ⟨aD b5, 51, kD_ x, 5⟩, ⟨B6, 51, kD_ r_2, 5⟩] [⟨B1, (m.Cells.flatMap eN0)⟩]) ?_ ?_
   ·skip
    refine ra_start (hS20.se [1, 2, 3, 4, 5, 6]).fn (by kernel_rfl) ?_
    have hS24 := hS20.drew
    refine rq 0 38 (v := pt B 0) rfl (hS24.se [1, 2, 3, 4, 5, 6]) (fun w' hw' => (ym (pt B 0) rfl (hf1.g 0 0))) ?_
    refine rq 1 39 (v := pt (aD b1) 3) rfl (hS24.se [1, 2, 3, 4, 5, 6]) (fun w' hw' => (yd (aD b1) 0 0 K37 K0 rfl (hf1.g 5 2))) ?_
    refine rq 2 40 (v := vi t.M_) rfl (hS24.se [1, 2, 3, 4, 5, 6]) (fun w' hw' => (yl (aD b1) 3 [vi t.Kind, vi t.I, vi t.J, vi t.M_] (vi t.M_) K1 (ST.cf hw' (i := 1) rfl))) ?_
    refine rq 4 42 (v := pt (aD b) 2) rfl (hS24.se [1, 2, 3, 4, 5, 6]) (fun w' hw' => (yd (aD b) 0 0 K15 K13 rfl (hf1.g 4 1))) ?_
    refine rq 5 43 (v := .slice B1 m.Cells.length c1) rfl (hS24.se [1, 2, 3, 4, 5, 6]) (fun w' hw' => (yl (aD b) 2 (kM_ m B1 c1) (.slice B1 m.Cells.length c1) K16 (ST.cf hw' (i := 0) rfl))) ?_
    refine rq 6 44 (v := pt (aD b1) 2) rfl (hS24.se [1, 2, 3, 4, 5, 6]) (fun w' hw' => (yd (aD b1) 0 0 K39 K0 rfl (hf1.g 5 2))) ?_
    refine rq 7 45 (v := vi t.J) rfl (hS24.se [1, 2, 3, 4, 5, 6]) (fun w' hw' => (yl (aD b1) 2 [vi t.Kind, vi t.I, vi t.J, vi t.M_] (vi t.J) K1 (ST.cf hw' (i := 1) rfl))) ?_
    refine rq 8 46 (v := pt (aD b) 1) rfl (hS24.se [1, 2, 3, 4, 5, 6]) (fun w' hw' => (yd (aD b) 0 0 K29 K0 rfl (hf1.g 4 1))) ?_
    refine rq 9 47 (v := vi m.Cols) rfl (hS24.se [1, 2, 3, 4, 5, 6]) (fun w' hw' => (yl (aD b) 1 (kM_ m B1 c1) (vi m.Cols) K1 (ST.cf hw' (i := 0) rfl))) ?_
    refine rq 10 48 (v := vi (i64.wrap (t.J * m.Cols))) rfl (hS24.se [1, 2, 3, 4, 5, 6]) (fun w' hw' => (yX t.J m.Cols)) ?_
    refine rq 11 49 (v := vi (k_ : Int)) rfl (hS24.se [1, 2, 3, 4, 5, 6]) (fun w' hw' => (ym (vi (k_ : Int)) rfl (hf1.g 8 5))) ?_
    refine rq 12 50 (v := vi (i64.wrap ((i64.wrap (t.J * m.Cols)) + (k_ : Int)))) rfl (hS24.se [1, 2, 3, 4, 5, 6]) (fun w' hw' => (yP (i64.wrap (t.J * m.Cols)) (k_ : Int))) ?_
    refine rq 13 51 (v := pt B1 ((i64.wrap ((i64.wrap (t.J * m.Cols)) + (k_ : Int))).toNat * 5)) rfl (hS24.se [1, 2, 3, 4, 5, 6]) (fun w' hw' => (Y_index (B := B1) (m := m.Cells.length) (c := c1) (k := .i64) (i := (i64.wrap ((i64.wrap (t.J * m.Cols)) + (k_ : Int)))) K12 K2 rfl rfl rfl (gi_isSome eN1 rfl (ST.rf hw' (i := 0) rfl) hx1) (getI_nn hx1) (getI_ltI hx1 rfl))) ?_
    refine rq 14 52 (v := gD_ x1) rfl (hS24.se [1, 2, 3, 4, 5, 6]) (fun w' hw' => (ya B1 ((i64.wrap ((i64.wrap (t.J * m.Cols)) + (k_ : Int))).toNat * 5) (m.Cells.flatMap eN0) (kD_ x1) K5 K2 (ST.rf hw' (i := 0) rfl) rfl rfl (eN1 x1) (gi_seg eN1 hx1))) ?_
    refine rA [3, 16] ?_
    refine rC 41 3 rfl (yC [vi t.M_] K46 (c_spec_l2Power t.M_ _  (hS24.inn0 [] rfl) hc)) ?_ ?_
    ·rintro _ w_16 ⟨rfl, hd⟩
     have hS25 := hS24.out00 hd
     refine ⟨(hS25.se [1, 2, 3, 4, 5, 6]), ?_⟩
     refine rA [15, 16] ?_
     refine rC 53 15 rfl (yC [pt B 0, gD_ r_1, gD_ x1] K58 (c_spec_l2C_mul (Tl2C.mk bad) r_1 x1 B _  (hS25.inn [true, false, false, false, false, false, false] rfl [] rfl) hc1)) ?_ ?_
     ·rintro _ w_17 ⟨rfl, hd1⟩
      have hS26 := hS25.out [true, false, false, false, false, false, false] rfl hd1
      refine ⟨(hS26.se [0, 1, 2, 3, 4, 5]), ?_⟩
      refine rA [16] ?_
      refine rS 10 16 rfl (yN kZ_ 5 hS26 K6) ?_ ?_
      ·rintro _ w_18 ⟨b6, rfl, hS27⟩
       refine ⟨(hS27.se [0, 1, 2, 3, 4, 5]), ?_⟩
       refine rA [17] ?_
       refine rZ 17 rfl (yT 7 5 (aD b6) 51 (gD_ r_2) (kD_ r_2) 0 hS27 K2) ?_ ?_
       ·rintro _ w_19 ⟨rfl, hS28⟩
        refine ⟨(hS28.se [0, 1, 2, 3, 4, 5]), ?_⟩
        refine ra_done (by kernel_rfl) ?_
        exact ⟨aD b6, (fc (hf1.g 0 0) (fc (hf1.g 4 1) (fc (hf1.g 5 2) (fc (hf1.g 6 3) (fc (hf1.g 7 4) (fc (hf1.g 8 5) (fc rfl (fc rfl fn_)))))))), (hS28.sel [6, 0, 1, 2, 3, 4, 5, 7] rfl rfl)⟩
       exact aN
      exact aN
     refine rS 10 16 rfl (yN kZ_ 5 hS25 K6) ?_ ?_
     ·rintro _ w_20 ⟨b6, rfl, hS29⟩
      refine ⟨(hS29.se [1, 2, 3, 4, 5, 6]), ?_⟩
      refine rA [15] ?_
      refine rC 53 15 rfl (yC [pt B 0, gD_ r_1, gD_ x1] K58 (c_spec_l2C_mul (Tl2C.mk bad) r_1 x1 B _  (hS29.inn [true, false, false, false, false, false, false, false] rfl [] rfl) hc1)) ?_ ?_
      ·rintro _ w_21 ⟨rfl, hd2⟩
       have hS30 := hS29.out [true, false, false, false, false, false, false, false] rfl hd2
       refine ⟨(hS30.se [0, 1, 2, 3, 4, 5]), ?_⟩
       refine rA [17] ?_
       refine rZ 17 rfl (yT 6 5 (aD b6) 51 (gD_ r_2) (kD_ r_2) 0 hS30 K2) ?_ ?_
       ·rintro _ w_22 ⟨rfl, hS31⟩
        refine ⟨(hS31.se [0, 1, 2, 3, 4, 5]), ?_⟩
        refine ra_done (by kernel_rfl) ?_
        exact ⟨aD b6, (fc (hf1.g 0 0) (fc (hf1.g 4 1) (fc (hf1.g 5 2) (fc (hf1.g 6 3) (fc (hf1.g 7 4) (fc (hf1.g 8 5) (fc rfl (fc rfl fn_)))))))), (hS31.sel [7, 0, 1, 2, 3, 4, 5, 6] rfl rfl)⟩
       exact aN
      exact aN
     exact aN
    refine rS 10 16 rfl (yN kZ_ 5 hS24 K6) ?_ ?_
    ·rintro _ w_23 ⟨b6, rfl, hS32⟩
     have hS32 : ST w0 (bl [⟨B, 67, [.bool c.bad], 1⟩]) _ [⟨B, 67, [.bool bad], 1⟩, ⟨aD b, 34, kM_ m B1 c1, 3⟩, ⟨aD b1, 25, [vi t.Kind, vi t.I, vi t.J, vi t.M_], 4⟩, ⟨aD b2, 34, kN_, 3⟩, ⟨B4, 34, kM_ m B5 c4, 3⟩, ⟨B5, 51, (Cells.flatMap eN0), c4 * 5⟩, ⟨aD b5, 51, kD_ x, 5⟩, ⟨aD b6, 51, kZ_, 5⟩] [⟨B1, (m.Cells.flatMap eN0)⟩] := hS32
     refine ⟨(hS32.se [1, 2, 3, 4, 5, 6]), ?_⟩
     refine rA [3] ?_
     refine rC 41 3 rfl (yC [vi t.M_] K46 (c_spec_l2Power t.M_ _  (hS32.inn0 [] rfl) hc)) ?_ ?_
     ·rintro _ w_24 ⟨rfl, hd3⟩
      have hS33 := hS32.out00 hd3
      refine ⟨(hS33.se [1, 2, 3, 4, 5, 6]), ?_⟩
      refine rA [15] ?_
      refine rC 53 15 rfl (yC [pt B 0, gD_ r_1, gD_ x1] K58 (c_spec_l2C_mul (Tl2C.mk bad) r_1 x1 B _  (hS33.inn [true, false, false, false, false, false, false, false] rfl [] rfl) hc1)) ?_ ?_
      ·rintro _ w_25 ⟨rfl, hd4⟩
       have hS34 := hS33.out [true, false, false, false, false, false, false, false] rfl hd4
       refine ⟨(hS34.se [0, 1, 2, 3, 4, 5]), ?_⟩
       refine rA [17] ?_
       refine rZ 17 rfl (yT 6 5 (aD b6) 51 (gD_ r_2) (kD_ r_2) 0 hS34 K2) ?_ ?_
       ·rintro _ w_26 ⟨rfl, hS35⟩
        refine ⟨(hS35.se [0, 1, 2, 3, 4, 5]), ?_⟩
        refine ra_done (by kernel_rfl) ?_
        exact ⟨aD b6, (fc (hf1.g 0 0) (fc (hf1.g 4 1) (fc (hf1.g 5 2) (fc (hf1.g 6 3) (fc (hf1.g 7 4) (fc (hf1.g 8 5) (fc rfl (fc rfl fn_)))))))), (hS35.sel [7, 0, 1, 2, 3, 4, 5, 6] rfl rfl)⟩
       exact aN
      exact aN
     exact aN
    exact aN
   rintro f w ⟨B6, hf3, hS23⟩
   refine cq (cr ?_)
   refine sQ 54 (yd (aD b1) 0 0 K42 K0 rfl (hf3.g 5 2)) <| sQ 55 (yl (aD b1) 0 [vi t.Kind, vi t.I, vi t.J, vi t.M_] (vi t.Kind) K1 (hS23.c 2)) (rn (cw_block (cq (cr ?_))))
   refine sQ 94 (yE t.Kind 1) <| sQ 93 (yg (.bool (t.Kind == 1))) (rn ?_)
   refine cw_cond (b := (t.Kind == 1)) rfl (fun hb1 => ?_) (fun hb1 => ?_)
   ·skip
    have hF3 := ct hz1 hb1
    obtain ⟨r_3, hc2, hF3⟩ := bI hF3
    obtain ⟨⟨r_4, m3⟩, hc3, hF3⟩ := bI hF3
    obtain ⟨x2, hx2, hF3⟩ := bI hF3
    refine ra_start (hS23.se [1, 2, 3, 4, 6, 7]).fn (by kernel_rfl) ?_
    have hS38 := hS23.drew
    refine rq 0 95 (v := pt B4 2) rfl (hS38.se [1, 2, 3, 4, 6, 7]) (fun w' hw' => (yd B4 0 0 K15 K13 rfl (hf3.g 7 4))) ?_
    refine rq 1 96 (v := .slice B5 m.Cells.length c4) rfl (hS38.se [1, 2, 3, 4, 6, 7]) (fun w' hw' => (yl B4 2 (kM_ m B5 c4) (.slice B5 m.Cells.length c4) K16 (ST.cf hw' (i := 3) rfl))) ?_
    refine rq 2 97 (v := pt (aD b1) 1) rfl (hS38.se [1, 2, 3, 4, 6, 7]) (fun w' hw' => (yd (aD b1) 0 0 K36 K0 rfl (hf3.g 5 2))) ?_
    refine rq 3 98 (v := vi t.I) rfl (hS38.se [1, 2, 3, 4, 6, 7]) (fun w' hw' => (yl (aD b1) 1 [vi t.Kind, vi t.I, vi t.J, vi t.M_] (vi t.I) K1 (ST.cf hw' (i := 1) rfl))) ?_
    refine rq 4 99 (v := pt (aD b) 1) rfl (hS38.se [1, 2, 3, 4, 6, 7]) (fun w' hw' => (yd (aD b) 0 0 K29 K0 rfl (hf3.g 4 1))) ?_
    refine rq 5 100 (v := vi m.Cols) rfl (hS38.se [1, 2, 3, 4, 6, 7]) (fun w' hw' => (yl (aD b) 1 (kM_ m B1 c1) (vi m.Cols) K1 (ST.cf hw' (i := 0) rfl))) ?_
    refine rq 6 101 (v := vi (i64.wrap (t.I * m.Cols))) rfl (hS38.se [1, 2, 3, 4, 6, 7]) (fun w' hw' => (yX t.I m.Cols)) ?_
    refine rq 7 102 (v := vi (k_ : Int)) rfl (hS38.se [1, 2, 3, 4, 6, 7]) (fun w' hw' => (ym (vi (k_ : Int)) rfl (hf3.g 8 5))) ?_
    refine rq 8 103 (v := vi (i64.wrap ((i64.wrap (t.I * m.Cols)) + (k_ : Int)))) rfl (hS38.se [1, 2, 3, 4, 6, 7]) (fun w' hw' => (yP (i64.wrap (t.I * m.Cols)) (k_ : Int))) ?_
    refine rq 9 104 (v := pt B 0) rfl (hS38.se [1, 2, 3, 4, 6, 7]) (fun w' hw' => (ym (pt B 0) rfl (hf3.g 0 0))) ?_
    refine rq 10 105 (v := pt (aD b1) 3) rfl (hS38.se [1, 2, 3, 4, 6, 7]) (fun w' hw' => (yd (aD b1) 0 0 K37 K0 rfl (hf3.g 5 2))) ?_
    refine rq 11 106 (v := vi t.M_) rfl (hS38.se [1, 2, 3, 4, 6, 7]) (fun w' hw' => (yl (aD b1) 3 [vi t.Kind, vi t.I, vi t.J, vi t.M_] (vi t.M_) K1 (ST.cf hw' (i := 1) rfl))) ?_
    refine rq 13 108 (v := gD_ x) rfl (hS38.se [1, 2, 3, 4, 6, 7]) (fun w' hw' => (yb (aD b5) 0 (kD_ x) K5 K2 (ST.cf hw' (i := 4) rfl) rfl (hf3.g 9 6))) ?_
    refine rA [12] ?_
    refine rC 107 12 rfl (yC [vi t.M_] K46 (c_spec_l2Power t.M_ _  (hS38.inn0 [] rfl) hc2)) ?_ ?_
    ·rintro _ w_27 ⟨rfl, hd5⟩
     have hS39 := hS38.out00 hd5
     refine ⟨(hS39.se [1, 2, 3, 4, 6, 7]), ?_⟩
     refine rA [14] ?_
     refine rC 109 14 rfl (yC [pt B 0, gD_ r_3, gD_ x] K58 (c_spec_l2C_mul m2 r_3 x B _  (hS39.inn [true, false, false, false, false, false, false, false] rfl [] rfl) hc3)) ?_ ?_
     ·rintro _ w_28 ⟨rfl, hd6⟩
      have hS40 := hS39.out [true, false, false, false, false, false, false, false] rfl hd6
      refine ⟨(hS40.se [0, 1, 2, 3, 5, 6]), ?_⟩
      refine rA [15] ?_
      refine ra_y 110 (i := 15) (v := pt B5 ((i64.wrap ((i64.wrap (t.I * m.Cols)) + (k_ : Int))).toNat * 5)) rfl rfl rfl (Y_index (B := B5) (m := m.Cells.length) (c := c4) (k := .i64) (i := (i64.wrap ((i64.wrap (t.I * m.Cols)) + (k_ : Int)))) K12 K2 rfl rfl rfl (gi_isSome eN1 rfl (hS40.c 4) hx2) (getI_nn hx2) (getI_ltI hx2 hl)) (hS40.se [0, 1, 2, 3, 5, 6]) ?_ ?_
      ·skip
       refine rA [16] ?_
       refine rZ 16 rfl (yS 4 5 B5 51 (gD_ r_4) (kD_ r_4) ((i64.wrap ((i64.wrap (t.I * m.Cols)) + (k_ : Int))).toNat * 5) ((Cells.set (i64.wrap ((i64.wrap (t.I * m.Cols)) + (k_ : Int))).toNat r_4).flatMap eN0) hS40 K2 rfl rfl rfl rfl rfl rfl rfl (gi_fit0 eN1 hx2) (gi_set eN1 hx2 r_4 rfl)) ?_ ?_
       ·rintro _ w_29 ⟨rfl, hS41⟩
        refine ⟨(hS41.se [0, 1, 2, 3, 5, 6]), ?_⟩
        refine ra_done (by kernel_rfl) ?_
        exact ⟨m3.bad, (Cells.set (i64.wrap ((i64.wrap (t.I * m.Cols)) + (k_ : Int))).toNat r_4), (sI hF3), (fc (hf3.g 0 0) (fc (hf3.g 4 1) (fc (hf3.g 5 2) (fc (hf3.g 6 3) (fc (hf3.g 7 4) (fc (hf3.g 8 5) fn_)))))), (set_len _ _ _ hl), (hS41.sel [7, 0, 1, 2, 3, 4] rfl rfl)⟩
       exact aN
      exact aN
     exact aN
    exact aN
   ·skip
    have hF4 := cf' hz1 hb1
    refine cq (cr ?_)
    refine sQ 112 (yE t.Kind 2) <| sQ 111 (yg (.bool (t.Kind == 2))) (rn ?_)
    refine cw_cond (b := (t.Kind == 2)) rfl (fun hb2 => ?_) (fun hb2 => ?_)
    ·skip
     have hF5 := ct hF4 hb2
     refine cq (cr ?_)
     refine sQ 113 (yd B4 0 0 K15 K13 rfl (hf3.g 7 4)) <| sQ 114 (yl B4 2 (kM_ m B5 c4) (.slice B5 m.Cells.length c4) K16 (hS23.c 4)) <| sQ 115 (yd (aD b1) 0 0 K36 K0 rfl (hf3.g 5 2)) <| sQ 116 (yl (aD b1) 1 [vi t.Kind, vi t.I, vi t.J, vi t.M_] (vi t.I) K1 (hS23.c 2)) <| sQ 117 (yd (aD b) 0 0 K29 K0 rfl (hf3.g 4 1)) <| sQ 118 (yl (aD b) 1 (kM_ m B1 c1) (vi m.Cols) K1 (hS23.c 1)) ?_
     refine sQ 119 (yX t.I m.Cols) <| sQ 120 (ym (vi (k_ : Int)) rfl (hf3.g 8 5)) <| sQ 121 (yP (i64.wrap (t.I * m.Cols)) (k_ : Int)) <| sQ 122 (yb B6 0 (kD_ r_2) K5 K2 (hS23.c 7) rfl (hf3.g 10 7)) ?_
     obtain ⟨x3, hx3, hF5⟩ := bI hF5
     refine sQ 123 (Y_index (B := B5) (m := m.Cells.length) (c := c4) (k := .i64) (i := (i64.wrap ((i64.wrap (t.I * m.Cols)) + (k_ : Int)))) K12 K2 rfl rfl rfl (gi_isSome eN1 rfl (hS23.c 5) hx3) (getI_nn hx3) (getI_ltI hx3 hl)) ?_
     refine s0 (yS 5 5 B5 51 (gD_ r_2) (kD_ r_2) ((i64.wrap ((i64.wrap (t.I * m.Cols)) + (k_ : Int))).toNat * 5) ((Cells.set (i64.wrap ((i64.wrap (t.I * m.Cols)) + (k_ : Int))).toNat r_2).flatMap eN0) hS23 K2 rfl rfl rfl rfl rfl rfl rfl (gi_fit0 eN1 hx3) (gi_set eN1 hx3 r_2 rfl)) ?_
     rintro _ w_30 ⟨rfl, hS42⟩
     refine rn (cr ?_)
     refine sQ 124 (yd B4 0 0 K15 K13 rfl (hf3.g 7 4)) <| sQ 125 (yl B4 2 (kM_ m B5 c4) (.slice B5 m.Cells.length c4) K16 (hS42.c 4)) <| sQ 126 (yd (aD b1) 0 0 K39 K0 rfl (hf3.g 5 2)) <| sQ 127 (yl (aD b1) 2 [vi t.Kind, vi t.I, vi t.J, vi t.M_] (vi t.J) K1 (hS42.c 2)) <| sQ 128 (yd (aD b) 0 0 K29 K0 rfl (hf3.g 4 1)) <| sQ 129 (yl (aD b) 1 (kM_ m B1 c1) (vi m.Cols) K1 (hS42.c 1)) ?_
     refine sQ 130 (yX t.J m.Cols) <| sQ 131 (ym (vi (k_ : Int)) rfl (hf3.g 8 5)) <| sQ 132 (yP (i64.wrap (t.J * m.Cols)) (k_ : Int)) <| sQ 133 (yb (aD b5) 0 (kD_ x) K5 K2 (hS42.c 6) rfl (hf3.g 9 6)) ?_
     obtain ⟨x4, hx4, hF5⟩ := bI hF5
     refine sQ 134 (Y_index (B := B5) (m := m.Cells.length) (c := c4) (k := .i64) (i := (i64.wrap ((i64.wrap (t.J * m.Cols)) + (k_ : Int)))) K12 K2 rfl rfl rfl (gi_isSome eN1 rfl (hS42.c 5) hx4) (getI_nn hx4) (getI_ltI hx4 (set_len _ _ _ hl))) ?_
     refine s0 (yS 5 5 B5 51 (gD_ x) (kD_ x) ((i64.wrap ((i64.wrap (t.J * m.Cols)) + (k_ : Int))).toNat * 5) (((Cells.set (i64.wrap ((i64.wrap (t.I * m.Cols)) + (k_ : Int))).toNat r_2).set (i64.wrap ((i64.wrap (t.J * m.Cols)) + (k_ : Int))).toNat x).flatMap eN0) hS42 K2 rfl rfl rfl rfl rfl rfl rfl (gi_fit0 eN1 hx4) (gi_set eN1 hx4 x rfl)) ?_
     rintro _ w_31 ⟨rfl, hS43⟩
     have hS43 : ST w0 (bl [⟨B, 67, [.bool c.bad], 1⟩]) _ [⟨B, 67, [.bool m2.bad], 1⟩, ⟨aD b, 34, kM_ m B1 c1, 3⟩, ⟨aD b1, 25, [vi t.Kind, vi t.I, vi t.J, vi t.M_], 4⟩, ⟨aD b2, 34, kN_, 3⟩, ⟨B4, 34, kM_ m B5 c4, 3⟩, ⟨B5, 51, (((Cells.set (i64.wrap ((i64.wrap (t.I * m.Cols)) + (k_ : Int))).toNat r_2).set (i64.wrap ((i64.wrap (t.J * m.Cols)) + (k_ : Int))).toNat x).flatMap eN0), c4 * 5⟩, ⟨aD b5, 51, kD_ x, 5⟩, ⟨B6, 51, kD_ r_2, 5⟩] [⟨B1, (m.Cells.flatMap eN0)⟩] := hS43
     refine rn ?_
     exact ⟨m2.bad, ((Cells.set (i64.wrap ((i64.wrap (t.I * m.Cols)) + (k_ : Int))).toNat r_2).set (i64.wrap ((i64.wrap (t.J * m.Cols)) + (k_ : Int))).toNat x), (sI hF5), (fc (hf3.g 0 0) (fc (hf3.g 4 1) (fc (hf3.g 5 2) (fc (hf3.g 6 3) (fc (hf3.g 7 4) (fc (hf3.g 8 5) fn_)))))), (set_len _ _ _ (set_len _ _ _ hl)), (hS43.sel [0, 1, 2, 3, 4, 5] rfl rfl)⟩
    ·skip
     have hF6 := cf' hF4 hb2
     refine cq (cr ?_)
     refine sQ 56 (Y_buildS (zs := [vi 0, vi 0, vi 0, vi 0]) (vs := [(0, vi 1)]) (cs := [vi 1, vi 0, vi 0, vi 0]) K31 K14 rfl (mpc rfl mpn) rfl) <| sQ 57 (Y_buildS (zs := kZ_) (vs := [(0, .agg #[vi 1, vi 0, vi 0, vi 0]), (1, vi 1)]) (cs := [vi 1, vi 0, vi 0, vi 0, vi 1]) K21 K6 rfl (mpc rfl (mpc rfl mpn)) rfl) ?_
     refine sS 11 (yN kZ_ 5 hS23 K6) ?_
     rintro _ w_32 ⟨b7, rfl, hS44⟩
     refine s0 (yT 8 5 (aD b7) 51 (.agg #[vi 1, vi 0, vi 0, vi 0, vi 1]) [vi 1, vi 0, vi 0, vi 0, vi 1] 0 hS44 K2) ?_
     rintro _ w_33 ⟨rfl, hS45⟩
     refine rn (cq ?_)
     obtain ⟨⟨r_5, m4⟩, hc4, hF6⟩ := bI hF6
     obtain ⟨⟨r_6, m5⟩, hc5, hF6⟩ := bI hF6
     obtain ⟨x5, hx5, hF6⟩ := bI hF6
     refine ra_start (hS45.se [1, 2, 3, 4, 6, 7, 8]).fn (by kernel_rfl) ?_
     have hS48 := hS45.drew
     refine rq 0 58 (v := pt B4 2) rfl (hS48.se [1, 2, 3, 4, 6, 7, 8]) (fun w' hw' => (yd B4 0 0 K15 K13 rfl (hf3.g 7 4))) ?_
     refine rq 1 59 (v := .slice B5 m.Cells.length c4) rfl (hS48.se [1, 2, 3, 4, 6, 7, 8]) (fun w' hw' => (yl B4 2 (kM_ m B5 c4) (.slice B5 m.Cells.length c4) K16 (ST.cf hw' (i := 3) rfl))) ?_
     refine rq 2 60 (v := pt (aD b1) 1) rfl (hS48.se [1, 2, 3, 4, 6, 7, 8]) (fun w' hw' => (yd (aD b1) 0 0 K36 K0 rfl (hf3.g 5 2))) ?_
     refine rq 3 61 (v := vi t.I) rfl (hS48.se [1, 2, 3, 4, 6, 7, 8]) (fun w' hw' => (yl (aD b1) 1 [vi t.Kind, vi t.I, vi t.J, vi t.M_] (vi t.I) K1 (ST.cf hw' (i := 1) rfl))) ?_
     refine rq 4 62 (v := pt (aD b) 1) rfl (hS48.se [1, 2, 3, 4, 6, 7, 8]) (fun w' hw' => (yd (aD b) 0 0 K29 K0 rfl (hf3.g 4 1))) ?_
     refine rq 5 63 (v := vi m.Cols) rfl (hS48.se [1, 2, 3, 4, 6, 7, 8]) (fun w' hw' => (yl (aD b) 1 (kM_ m B1 c1) (vi m.Cols) K1 (ST.cf hw' (i := 0) rfl))) ?_
     refine rq 6 64 (v := vi (i64.wrap (t.I * m.Cols))) rfl (hS48.se [1, 2, 3, 4, 6, 7, 8]) (fun w' hw' => (yX t.I m.Cols)) ?_
     refine rq 7 65 (v := vi (k_ : Int)) rfl (hS48.se [1, 2, 3, 4, 6, 7, 8]) (fun w' hw' => (ym (vi (k_ : Int)) rfl (hf3.g 8 5))) ?_
     refine rq 8 66 (v := vi (i64.wrap ((i64.wrap (t.I * m.Cols)) + (k_ : Int)))) rfl (hS48.se [1, 2, 3, 4, 6, 7, 8]) (fun w' hw' => (yP (i64.wrap (t.I * m.Cols)) (k_ : Int))) ?_
     refine rq 9 67 (v := pt B 0) rfl (hS48.se [1, 2, 3, 4, 6, 7, 8]) (fun w' hw' => (ym (pt B 0) rfl (hf3.g 0 0))) ?_
     refine rq 10 68 (v := .agg #[vi 1, vi 0, vi 0, vi 0, vi 1]) rfl (hS48.se [1, 2, 3, 4, 6, 7, 8]) (fun w' hw' => (yb (aD b7) 0 [vi 1, vi 0, vi 0, vi 0, vi 1] K5 K2 (ST.cf hw' (i := 6) rfl))) ?_
     refine rq 11 69 (v := pt B 0) rfl (hS48.se [1, 2, 3, 4, 6, 7, 8]) (fun w' hw' => (ym (pt B 0) rfl (hf3.g 0 0))) ?_
     refine rq 12 70 (v := gD_ x) rfl (hS48.se [1, 2, 3, 4, 6, 7, 8]) (fun w' hw' => (yb (aD b5) 0 (kD_ x) K5 K2 (ST.cf hw' (i := 4) rfl) rfl (hf3.g 9 6))) ?_
     refine rq 13 71 (v := gD_ r_2) rfl (hS48.se [1, 2, 3, 4, 6, 7, 8]) (fun w' hw' => (yb B6 0 (kD_ r_2) K5 K2 (ST.cf hw' (i := 5) rfl) rfl (hf3.g 10 7))) ?_
     refine rA [14] ?_
     refine rC 72 14 rfl (yC [pt B 0, gD_ x, gD_ r_2] K95 (c_spec_l2C_add m2 x r_2 B _  (hS48.inn [true, false, false, false, false, false, false, false, false] rfl [] rfl) hc4)) ?_ ?_
     ·rintro _ w_34 ⟨rfl, hd7⟩
      have hS49 := hS48.out [true, false, false, false, false, false, false, false, false] rfl hd7
      refine ⟨(hS49.se [0, 1, 2, 3, 5, 6, 7]), ?_⟩
      refine rA [15] ?_
      refine rC 73 15 rfl (yC [pt B 0, .agg #[vi 1, vi 0, vi 0, vi 0, vi 1], gD_ r_5] K58 (c_spec_l2C_mul m4 (TDyadic.mk (TRing.mk 1 0 0 0) 1) r_5 B _  (hS49.inn [false, false, false, false, false, false, false, false, true] rfl [] rfl) hc5)) ?_ ?_
      ·rintro _ w_35 ⟨rfl, hd8⟩
       have hS50 := hS49.out [false, false, false, false, false, false, false, false, true] rfl hd8
       refine ⟨(hS50.se [0, 1, 2, 3, 5, 6, 7]), ?_⟩
       refine rA [16] ?_
       refine ra_y 74 (i := 16) (v := pt B5 ((i64.wrap ((i64.wrap (t.I * m.Cols)) + (k_ : Int))).toNat * 5)) rfl rfl rfl (Y_index (B := B5) (m := m.Cells.length) (c := c4) (k := .i64) (i := (i64.wrap ((i64.wrap (t.I * m.Cols)) + (k_ : Int)))) K12 K2 rfl rfl rfl (gi_isSome eN1 rfl (hS50.c 4) hx5) (getI_nn hx5) (getI_ltI hx5 hl)) (hS50.se [0, 1, 2, 3, 5, 6, 7]) ?_ ?_
       ·skip
        refine rA [17] ?_
        refine rZ 17 rfl (yS 4 5 B5 51 (gD_ r_6) (kD_ r_6) ((i64.wrap ((i64.wrap (t.I * m.Cols)) + (k_ : Int))).toNat * 5) ((Cells.set (i64.wrap ((i64.wrap (t.I * m.Cols)) + (k_ : Int))).toNat r_6).flatMap eN0) hS50 K2 rfl rfl rfl rfl rfl rfl rfl (gi_fit0 eN1 hx5) (gi_set eN1 hx5 r_6 rfl)) ?_ ?_
        ·rintro _ w_36 ⟨rfl, hS51⟩
         refine ⟨(hS51.se [0, 1, 2, 3, 5, 6, 7]), ?_⟩
         refine ra_done (by kernel_rfl) ?_
         obtain ⟨r_7, hc6, hF6⟩ := bI hF6
         obtain ⟨⟨r_8, m6⟩, hc7, hF6⟩ := bI hF6
         obtain ⟨⟨r_9, m7⟩, hc8, hF6⟩ := bI hF6
         obtain ⟨x6, hx6, hF6⟩ := bI hF6
         refine ra_start (hS51.se [0, 1, 2, 3, 5, 6, 7]).fn (by kernel_rfl) ?_
         have hS55 := hS51.drew
         refine rq 0 75 (v := pt B4 2) rfl (hS55.se [0, 1, 2, 3, 5, 6, 7]) (fun w' hw' => (yd B4 0 0 K15 K13 rfl (hf3.g 7 4))) ?_
         refine rq 1 76 (v := .slice B5 m.Cells.length c4) rfl (hS55.se [0, 1, 2, 3, 5, 6, 7]) (fun w' hw' => (yl B4 2 (kM_ m B5 c4) (.slice B5 m.Cells.length c4) K16 (ST.cf hw' (i := 3) rfl))) ?_
         refine rq 2 77 (v := pt (aD b1) 2) rfl (hS55.se [0, 1, 2, 3, 5, 6, 7]) (fun w' hw' => (yd (aD b1) 0 0 K39 K0 rfl (hf3.g 5 2))) ?_
         refine rq 3 78 (v := vi t.J) rfl (hS55.se [0, 1, 2, 3, 5, 6, 7]) (fun w' hw' => (yl (aD b1) 2 [vi t.Kind, vi t.I, vi t.J, vi t.M_] (vi t.J) K1 (ST.cf hw' (i := 1) rfl))) ?_
         refine rq 4 79 (v := pt (aD b) 1) rfl (hS55.se [0, 1, 2, 3, 5, 6, 7]) (fun w' hw' => (yd (aD b) 0 0 K29 K0 rfl (hf3.g 4 1))) ?_
         refine rq 5 80 (v := vi m.Cols) rfl (hS55.se [0, 1, 2, 3, 5, 6, 7]) (fun w' hw' => (yl (aD b) 1 (kM_ m B1 c1) (vi m.Cols) K1 (ST.cf hw' (i := 0) rfl))) ?_
         refine rq 6 81 (v := vi (i64.wrap (t.J * m.Cols))) rfl (hS55.se [0, 1, 2, 3, 5, 6, 7]) (fun w' hw' => (yX t.J m.Cols)) ?_
         refine rq 7 82 (v := vi (k_ : Int)) rfl (hS55.se [0, 1, 2, 3, 5, 6, 7]) (fun w' hw' => (ym (vi (k_ : Int)) rfl (hf3.g 8 5))) ?_
         refine rq 8 83 (v := vi (i64.wrap ((i64.wrap (t.J * m.Cols)) + (k_ : Int)))) rfl (hS55.se [0, 1, 2, 3, 5, 6, 7]) (fun w' hw' => (yP (i64.wrap (t.J * m.Cols)) (k_ : Int))) ?_
         refine rq 9 84 (v := pt B 0) rfl (hS55.se [0, 1, 2, 3, 5, 6, 7]) (fun w' hw' => (ym (pt B 0) rfl (hf3.g 0 0))) ?_
         refine rq 10 85 (v := .agg #[vi 1, vi 0, vi 0, vi 0, vi 1]) rfl (hS55.se [0, 1, 2, 3, 5, 6, 7]) (fun w' hw' => (yb (aD b7) 0 [vi 1, vi 0, vi 0, vi 0, vi 1] K5 K2 (ST.cf hw' (i := 6) rfl))) ?_
         refine rq 11 86 (v := pt B 0) rfl (hS55.se [0, 1, 2, 3, 5, 6, 7]) (fun w' hw' => (ym (pt B 0) rfl (hf3.g 0 0))) ?_
         refine rq 12 87 (v := gD_ x) rfl (hS55.se [0, 1, 2, 3, 5, 6, 7]) (fun w' hw' => (yb (aD b5) 0 (kD_ x) K5 K2 (ST.cf hw' (i := 4) rfl) rfl (hf3.g 9 6))) ?_
         refine rq 13 88 (v := gD_ r_2) rfl (hS55.se [0, 1, 2, 3, 5, 6, 7]) (fun w' hw' => (yb B6 0 (kD_ r_2) K5 K2 (ST.cf hw' (i := 5) rfl) rfl (hf3.g 10 7))) ?_
         refine rA [14] ?_
         refine rC 89 14 rfl (yC [gD_ r_2] k_call_74 (c_spec_l2Neg r_2 _  (hS55.inn0 [] rfl) hc6)) ?_ ?_
         ·rintro _ w_37 ⟨rfl, hd9⟩
          have hS56 := hS55.out00 hd9
          refine ⟨(hS56.se [0, 1, 2, 3, 5, 6, 7]), ?_⟩
          refine rA [15] ?_
          refine rC 90 15 rfl (yC [pt B 0, gD_ x, gD_ r_7] K95 (c_spec_l2C_add m5 x r_7 B _  (hS56.inn [false, false, false, false, false, false, false, false, true] rfl [] rfl) hc7)) ?_ ?_
          ·rintro _ w_38 ⟨rfl, hd10⟩
           have hS57 := hS56.out [false, false, false, false, false, false, false, false, true] rfl hd10
           refine ⟨(hS57.se [0, 1, 2, 3, 5, 6, 7]), ?_⟩
           refine rA [16] ?_
           refine rC 91 16 rfl (yC [pt B 0, .agg #[vi 1, vi 0, vi 0, vi 0, vi 1], gD_ r_8] K58 (c_spec_l2C_mul m6 (TDyadic.mk (TRing.mk 1 0 0 0) 1) r_8 B _  (hS57.inn [false, false, false, false, false, false, false, false, true] rfl [] rfl) hc8)) ?_ ?_
           ·rintro _ w_39 ⟨rfl, hd11⟩
            have hS58 := hS57.out [false, false, false, false, false, false, false, false, true] rfl hd11
            have hS58 : ST w0 (bl [⟨B, 67, [.bool c.bad], 1⟩]) _ [⟨aD b, 34, kM_ m B1 c1, 3⟩, ⟨aD b1, 25, [vi t.Kind, vi t.I, vi t.J, vi t.M_], 4⟩, ⟨aD b2, 34, kN_, 3⟩, ⟨B4, 34, kM_ m B5 c4, 3⟩, ⟨B5, 51, ((Cells.set (i64.wrap ((i64.wrap (t.I * m.Cols)) + (k_ : Int))).toNat r_6).flatMap eN0), c4 * 5⟩, ⟨aD b5, 51, kD_ x, 5⟩, ⟨B6, 51, kD_ r_2, 5⟩, ⟨aD b7, 51, [vi 1, vi 0, vi 0, vi 0, vi 1], 5⟩, ⟨B, 67, [.bool m7.bad], 1⟩] [⟨B1, (m.Cells.flatMap eN0)⟩] := hS58
            refine ⟨(hS58.se [0, 1, 2, 3, 5, 6, 7]), ?_⟩
            refine rA [17] ?_
            refine ra_y 92 (i := 17) (v := pt B5 ((i64.wrap ((i64.wrap (t.J * m.Cols)) + (k_ : Int))).toNat * 5)) rfl rfl rfl (Y_index (B := B5) (m := m.Cells.length) (c := c4) (k := .i64) (i := (i64.wrap ((i64.wrap (t.J * m.Cols)) + (k_ : Int)))) K12 K2 rfl rfl rfl (gi_isSome eN1 rfl (hS58.c 4) hx6) (getI_nn hx6) (getI_ltI hx6 (set_len _ _ _ hl))) (hS58.se [0, 1, 2, 3, 5, 6, 7]) ?_ ?_
            ·skip
             refine rA [18] ?_
             refine rZ 18 rfl (yS 4 5 B5 51 (gD_ r_9) (kD_ r_9) ((i64.wrap ((i64.wrap (t.J * m.Cols)) + (k_ : Int))).toNat * 5) (((Cells.set (i64.wrap ((i64.wrap (t.I * m.Cols)) + (k_ : Int))).toNat r_6).set (i64.wrap ((i64.wrap (t.J * m.Cols)) + (k_ : Int))).toNat r_9).flatMap eN0) hS58 K2 rfl rfl rfl rfl rfl rfl rfl (gi_fit0 eN1 hx6) (gi_set eN1 hx6 r_9 rfl)) ?_ ?_
             ·rintro _ w_40 ⟨rfl, hS59⟩
              refine ⟨(hS59.se [0, 1, 2, 3, 5, 6, 7]), ?_⟩
              refine ra_done (by kernel_rfl) ?_
              exact ⟨m7.bad, ((Cells.set (i64.wrap ((i64.wrap (t.I * m.Cols)) + (k_ : Int))).toNat r_6).set (i64.wrap ((i64.wrap (t.J * m.Cols)) + (k_ : Int))).toNat r_9), (sI hF6), (fc (hf3.g 0 0) (fc (hf3.g 4 1) (fc (hf3.g 5 2) (fc (hf3.g 6 3) (fc (hf3.g 7 4) (fc (hf3.g 8 5) fn_)))))), (set_len _ _ _ (set_len _ _ _ hl)), (hS59.sel [8, 0, 1, 2, 3, 4] rfl rfl)⟩
             exact aN
            exact aN
           exact aN
          exact aN
         exact aN
        exact aN
       exact aN
      exact aN
     exact aN
  rintro f w ⟨bad1, Cells1, rfl, hf2, hl1, hS18⟩
  refine cr ?_
  refine sQ 25 (ym (vi (k_ : Int)) rfl (hf2.g 8 5)) <| sQ 26 (yP (k_ : Int) 1) <| sQ 8 (yg (vi (i64.wrap ((k_ : Int) + 1)))) (rn ?_)
  obtain rfl := sI hF2
  exact ⟨K22, Nat.lt_succ_self _, k_ + 1, bad1, Cells1, (fc (hf2.g 0 0) (fc (hf2.g 4 1) (fc (hf2.g 5 2) (fc (hf2.g 6 3) (fc (hf2.g 7 4) (fc (congrArg (Value.int .i64) (wr_succ hlt1 hN)) fn_)))))), hl1, (hS18.sel [0, 1, 2, 3, 4, 5] rfl rfl), (by omega), hL1⟩
 ·skip
  obtain rfl : K9 = 0 := by have h := of_decide_eq_false hlt; omega
  refine cw_exit rfl ?_
  obtain rfl := sI hL
  refine cq (cr ?_)
  refine sQ 135 (yb B4 0 (kM_ m B5 c4) K8 K4 (hS17.c 4) rfl (hf1.g 7 4)) ?_
  refine s0 (yT 3 3 (aD b2) 34 (gM_ m B5 c4) (kM_ m B5 c4) 0 hS17 K4 rfl (hf1.g 6 3)) ?_
  rintro _ w_41 ⟨rfl, hS60⟩
  refine rn (ct_ ?_)
  obtain ⟨rfl, rfl⟩ := pr2 (sI hF1)
  exact ret1 Tryz.results36 (v1 := gM_ m B5 c4) (resAt_cellA (B := aD b2) (i := 0) (cs := kM_ m B5 c4) (vs := kM_ m B5 c4) (hf1.g 6 3) K8 K4 (hS60.c 3) rfl rfl) ⟨B5, c4, (by simp [hl]), (hS60.sN [0, 5])⟩

theorem c_spec_ComposeTwoLevel (n : Int) (l : List TTwoLevel) (B : Option Addr) (c n1 : Nat) (w0 : World) (hn : l.length = n1) (hS : ST w0 [] w0 [] [⟨B, (l.flatMap eN2)⟩]) {r_ : TMatrix} {r_1 : Bool} (hF : F_spec_ComposeTwoLevel n l = some (r_, r_1)) :
  CV Tryz.prog 61 #[vi n, .slice B n1 c] w0 (fun v w' => ∃ (B1 : Option Addr) (c1 : Nat), v = .tuple #[gM_ r_ B1 c1, .bool r_1] ∧ ST w0 [] w' [⟨B1, 51, (r_.Cells.flatMap eN0), c1 * 5⟩] []) := by
 subst hn
 unfold F_spec_ComposeTwoLevel at hF
 refine cv_of_cw 50 Tryz.func61 rfl Tryz.ntmps61 rfl ?_
 refine cq (cr ?_)
 refine sS 4 (yN kN_ 3 hS K10) ?_
 rintro _ w_ ⟨b, rfl, hS1⟩
 refine sQ 5 (yg (.bool false)) (rn (cq (cq (cr ?_))))
 refine sQ 9 (ym (vi n)) ?_
 obtain ⟨r_2, hc, hF⟩ := bI hF
 refine sc 10 rfl rfl (yC [vi n] k_call_44 (c_spec_l11Dim n _  (hS1.inn0 [] rfl) hc)) ?_
 rintro _ w_1 ⟨rfl, hd⟩
 have hS2 := hS1.out00 hd
 refine sQ 11 (Y_not (p := r_2) rfl rfl) <| sQ 12 (ym (.bool (!r_2))) ?_
 refine sgq 13 (B := (!(!r_2))) (v := .slice B l.length c) rfl rfl (uF_ 12) (fun hg => (ym (.slice B l.length c))) ?_
 refine sgq 14 (B := (!(!r_2))) (v := vi (l.length : Int)) rfl rfl (uF_ 12) (fun hg1 => (Y_len (B := B) (m := l.length) (c := c) K28 rfl (gv_of (v := .slice B l.length c) hg1))) ?_
 refine sgq 15 (B := (!(!r_2))) (v := .bool (decide (500 < (l.length : Int)))) rfl rfl (uF_ 12) (fun hg2 => (Y_gt (k := .i64) (a := (l.length : Int)) (b := 500) rfl (gv_of (v := vi (l.length : Int)) hg2) rfl)) ?_
 refine sQ 16 (Y_or (b := (!r_2)) (z := (decide (500 < (l.length : Int)))) rfl rfl rfl rfl) (rn ?_)
 refine cw_cond (b := ((!r_2) || (decide (500 < (l.length : Int))))) rfl (fun hb => ?_) (fun hb => ?_)
 ·skip
  have hF1 := ct hF hb
  refine cq (cr ?_)
  refine sQ 17 (Y_buildS (zs := kN_) (vs := []) (cs := kN_) K32 K10 rfl mpn rfl) ?_
  refine s0 (yT 0 3 (aD b) 34 gN_ kN_ 0 hS2 K4) ?_
  rintro _ w_2 ⟨rfl, hS3⟩
  refine sQ 5 (yg (.bool false)) (rn (ct_ ?_))
  have hS4 := hS3.addNil 51
  obtain ⟨rfl, rfl⟩ := pr2 (sI hF1)
  exact ret2 Tryz.results61 (v1 := gN_) (resAt_cellA (B := aD b) (i := 0) (cs := kN_) (vs := kN_) rfl K8 K4 (hS4.c 0) rfl rfl) (v2 := .bool false) (resAt_tmp rfl) ⟨none, 0, rfl, (hS4.sN [1])⟩
 ·skip
  have hF2 := cf' hF hb
  refine cw_skip (cq (cr ?_))
  refine sQ 18 (Y_buildS (zs := [.bool false]) (vs := []) (cs := [.bool false]) K96 K97 rfl mpn rfl) ?_
  refine sS 19 (yB 67 (.agg #[.bool false]) [.bool false] 1 hS2) ?_
  rintro _ w_3 ⟨b1, rfl, hS5⟩
  refine sQ 6 (yg (pt (aD b1) 0)) (rn (cq (cr ?_)))
  refine sQ 20 (ym (vi n)) ?_
  obtain ⟨r_3, hc1, hF2⟩ := bI hF2
  refine sc 21 rfl rfl (yC [vi n] K82 (c_spec_l3Unit n _  (hS5.inn0 [] rfl) hc1)) ?_
  rintro _ w_4 ⟨B2, c2, rfl, hd1⟩
  have hS6 := hS5.out0 hd1
  refine sS 7 (yN kN_ 3 hS6 K10) ?_
  rintro _ w_5 ⟨b2, rfl, hS7⟩
  refine s0 (yT 3 3 (aD b2) 34 (gM_ r_3 B2 c2) (kM_ r_3 B2 c2) 0 hS7 K4) ?_
  rintro _ w_6 ⟨rfl, hS8⟩
  refine rn (cq (cq (cr ?_)))
  refine sQ 22 (ym (.slice B l.length c)) <| sQ 23 (Y_len (B := B) (m := l.length) (c := c) K28 rfl rfl) <| sQ 24 (yM (l.length : Int) 1) <| sQ 8 (yg (vi (i64.wrap ((l.length : Int) - 1)))) (rn ?_)
  obtain ⟨z, hz, hF3⟩ := bI hF2
  refine cw_block ?_
  refine cw_loop (fun k f w => ∃ (bad : Bool) (Rows : Int) (Cols : Int) (Cells : List TDyadic) (i : Int) (B3 : Option Addr) (c3 : Nat), FF f [(0, vi n), (1, .slice B l.length c), (4, pt (aD b) 0), (6, pt (aD b1) 0), (7, pt (aD b2) 0), (8, vi i)] ∧ ST w0 [] w [⟨aD b, 34, kN_, 3⟩, ⟨aD b1, 67, [.bool bad], 1⟩, ⟨aD b2, 34, [vi Rows, vi Cols, .slice B3 Cells.length c3], 3⟩, ⟨B3, 51, (Cells.flatMap eN0), c3 * 5⟩] [⟨B, (l.flatMap eN2)⟩] ∧ whX (F_spec_ComposeTwoLevel_l1 l n) k (bad, Rows, Cols, Cells, i) = some z) fuel ⟨false, r_3.Rows, r_3.Cols, r_3.Cells, (i64.wrap ((l.length : Int) - 1)), B2, c2, (fc rfl (fc rfl (fc rfl (fc rfl (fc rfl (fc rfl fn_)))))), (hS8.sel [0, 1, 3, 2] rfl rfl), hz⟩ ?_
  rintro k_ f w ⟨bad, Rows, Cols, Cells, i, B3, c3, hf, hS9, hL⟩
  obtain ⟨K9, y, rfl, hb1, hL1⟩ := whX_go hL
  unfold F_spec_ComposeTwoLevel_l1 at hb1
  refine cq (cq (cr ?_))
  refine sQ 25 (ym (vi i) rfl (hf.g 8 5)) <| sQ 26 (Y_ge (k := .i64) (a := i) (b := 0) rfl rfl rfl) (rn ?_)
  refine cw_cond (b := (decide (0 ≤ i))) rfl (fun hb2 => ?_) (fun hb2 => ?_)
  ·skip
   have hF4 := ct hb1 hb2
   refine cw_skip (cq (cw_block (cq (cq (cr ?_)))))
   refine sQ 29 (ym (vi n) rfl (hf.g 0 0)) <| sQ 30 (ym (.slice B l.length c) rfl (hf.g 1 1)) <| sQ 31 (ym (vi i) rfl (hf.g 8 5)) ?_
   obtain ⟨x, hx, hF4⟩ := bI hF4
   refine sQ 32 (Y_index (B := B) (m := l.length) (c := c) (k := .i64) (i := i) K28 K11 rfl rfl rfl (gi_isSome enc_TwoLevel_len rfl (hS9.rf (i := 0) rfl) hx) (getI_nn hx) (getI_ltI hx rfl)) <| sQ 33 (ya B (i.toNat * 4) (l.flatMap eN2) [vi x.Kind, vi x.I, vi x.J, vi x.M_] K26 K11 (hS9.rf (i := 0) rfl) rfl rfl (enc_TwoLevel_len x) (gi_seg enc_TwoLevel_len hx)) ?_
   obtain ⟨r_4, hc2, hF4⟩ := bI hF4
   refine sc 34 rfl rfl (yC [vi n, .agg #[vi x.Kind, vi x.I, vi x.J, vi x.M_]] K86 (c_spec_l11Valid n x _  (hS9.inn0 [] rfl) hc2)) ?_
   rintro _ w_7 ⟨rfl, hd2⟩
   have hS10 := hS9.out00 hd2
   refine sQ 35 (Y_not (p := r_4) rfl rfl) (rn ?_)
   refine cw_cond (b := (!r_4)) rfl (fun hb3 => ?_) (fun hb3 => ?_)
   ·skip
    have hF5 := ct hF4 hb3
    refine cq (cr ?_)
    refine sQ 36 (Y_buildS (zs := kN_) (vs := []) (cs := kN_) K32 K10 rfl mpn rfl) ?_
    refine s0 (yT 0 3 (aD b) 34 gN_ kN_ 0 hS10 K4 rfl (hf.g 4 2)) ?_
    rintro _ w_8 ⟨rfl, hS11⟩
    refine sQ 5 (yg (.bool false)) (rn (ct_ ?_))
    have hS12 := hS11.addNil 51
    obtain rfl := sI hF5
    obtain rfl := sI hL1
    obtain ⟨rfl, rfl⟩ := pr2 (sI hF3)
    exact ret2 Tryz.results61 (v1 := gN_) (resAt_cellA (B := aD b) (i := 0) (cs := kN_) (vs := kN_) (hf.g 4 2) K8 K4 (hS12.c 0) rfl rfl) (v2 := .bool false) (resAt_tmp rfl) ⟨none, 0, rfl, (hS12.sN [4])⟩
   ·skip
    have hF6 := cf' hF4 hb3
    refine cw_skip ?_
    obtain ⟨⟨r_5, m⟩, hc3, hF6⟩ := bI hF6
    refine ra_start (hS10.se [0, 3]).fn (by kernel_rfl) ?_
    have hS14 := hS10.drew
    refine rq 0 37 (v := pt (aD b1) 0) rfl (hS14.se [0, 3]) (fun w' hw' => (ym (pt (aD b1) 0) rfl (hf.g 6 3))) ?_
    refine rq 2 39 (v := .slice B l.length c) rfl (hS14.se [0, 3]) (fun w' hw' => (ym (.slice B l.length c) rfl (hf.g 1 1))) ?_
    refine rq 3 40 (v := vi i) rfl (hS14.se [0, 3]) (fun w' hw' => (ym (vi i) rfl (hf.g 8 5))) ?_
    refine rq 4 41 (v := pt B (i.toNat * 4)) rfl (hS14.se [0, 3]) (fun w' hw' => (Y_index (B := B) (m := l.length) (c := c) (k := .i64) (i := i) K28 K11 rfl rfl rfl (gi_isSome enc_TwoLevel_len rfl (ST.rf hw' (i := 0) rfl) hx) (getI_nn hx) (getI_ltI hx rfl))) ?_
    refine rq 5 42 (v := .agg #[vi x.Kind, vi x.I, vi x.J, vi x.M_]) rfl (hS14.se [0, 3]) (fun w' hw' => (ya B (i.toNat * 4) (l.flatMap eN2) [vi x.Kind, vi x.I, vi x.J, vi x.M_] K26 K11 (ST.rf hw' (i := 0) rfl) rfl rfl (enc_TwoLevel_len x) (gi_seg enc_TwoLevel_len hx))) ?_
    refine rA [1] ?_
    refine ra_y 38 (i := 1) (v := .agg #[vi Rows, vi Cols, .slice B3 Cells.length c3]) rfl rfl rfl (yb (aD b2) 0 [vi Rows, vi Cols, .slice B3 Cells.length c3] K8 K4 (hS14.c 2) rfl (hf.g 7 4)) (hS14.se [0, 3]) ?_ ?_
    ·skip
     refine rA [6] ?_
     refine rC 43 6 rfl (yC [pt (aD b1) 0, .agg #[vi Rows, vi Cols, .slice B3 Cells.length c3], .agg #[vi x.Kind, vi x.I, vi x.J, vi x.M_]] k_call_36 (c_spec_l2C_level (Tl2C.mk bad) (TMatrix.mk Rows Cols Cells) x (aD b1) B3 c3 Cells.length _ rfl (hS14.inn [false, true, false, false] rfl [(false, 2)] rfl) hc3)) ?_ ?_
     ·rintro _ w_9 ⟨B4, c4, rfl, hd3⟩
      have hS15 := hS14.out [false, true, false, false] rfl hd3
      refine ⟨(hS15.se [0, 2]), ?_⟩
      refine rA [7] ?_
      refine rZ 7 rfl (yT 1 3 (aD b2) 34 (gM_ r_5 B4 c4) (kM_ r_5 B4 c4) 0 hS15 K4 rfl (hf.g 7 4)) ?_ ?_
      ·rintro _ w_10 ⟨rfl, hS16⟩
       refine ⟨(hS16.se [0, 2]), ?_⟩
       refine ra_done (by kernel_rfl) ?_
       refine cr ?_
       refine sQ 27 (ym (vi i) rfl (hf.g 8 5)) <| sQ 28 (yM i 1) <| sQ 8 (yg (vi (i64.wrap (i - 1)))) (rn ?_)
       obtain rfl := sI hF6
       exact ⟨K9, Nat.lt_succ_self _, m.bad, r_5.Rows, r_5.Cols, r_5.Cells, (i64.wrap (i - 1)), B4, c4, (fc (hf.g 0 0) (fc (hf.g 1 1) (fc (hf.g 4 2) (fc (hf.g 6 3) (fc (hf.g 7 4) (fc rfl fn_)))))), (hS16.sel [0, 3, 1, 4] rfl rfl), hL1⟩
      exact aN
     exact aN
    exact aN
  ·skip
   have hF7 := cf' hb1 hb2
   refine cw_exit rfl ?_
   obtain rfl := sI hF7
   obtain rfl := sI hL1
   refine cq (cq (cr ?_))
   refine sQ 44 (ym (pt (aD b1) 0) rfl (hf.g 6 3)) <| sQ 45 (Y_nilCheck (B := aD b1) (i := 0) rfl rfl) <| sQ 46 (yd (aD b1) 0 0 K77 K57) <| sQ 47 (yl (aD b1) 0 [.bool bad] (.bool bad) K98 (hS9.c 1)) (rn ?_)
   refine cw_cond (b := bad) rfl (fun hb4 => ?_) (fun hb4 => ?_)
   ·skip
    have hF8 := ct hF3 hb4
    refine cq (cr ?_)
    refine sQ 48 (Y_buildS (zs := kN_) (vs := []) (cs := kN_) K32 K10 rfl mpn rfl) ?_
    refine s0 (yT 0 3 (aD b) 34 gN_ kN_ 0 hS9 K4 rfl (hf.g 4 2)) ?_
    rintro _ w_11 ⟨rfl, hS17⟩
    refine sQ 5 (yg (.bool false)) (rn (ct_ ?_))
    have hS18 := hS17.addNil 51
    obtain ⟨rfl, rfl⟩ := pr2 (sI hF8)
    exact ret2 Tryz.results61 (v1 := gN_) (resAt_cellA (B := aD b) (i := 0) (cs := kN_) (vs := kN_) (hf.g 4 2) K8 K4 (hS18.c 0) rfl rfl) (v2 := .bool false) (resAt_tmp rfl) ⟨none, 0, rfl, (hS18.sN [4])⟩
   ·skip
    have hF9 := cf' hF3 hb4
    refine cw_skip (cq (cr ?_))
    refine sQ 49 (yb (aD b2) 0 [vi Rows, vi Cols, .slice B3 Cells.length c3] K8 K4 (hS9.c 2) rfl (hf.g 7 4)) ?_
    refine s0 (yT 0 3 (aD b) 34 (.agg #[vi Rows, vi Cols, .slice B3 Cells.length c3]) [vi Rows, vi Cols, .slice B3 Cells.length c3] 0 hS9 K4 rfl (hf.g 4 2)) ?_
    rintro _ w_12 ⟨rfl, hS19⟩
    refine sQ 5 (yg (.bool true)) (rn (ct_ ?_))
    obtain ⟨rfl, rfl⟩ := pr2 (sI hF9)
    exact ret2 Tryz.results61 (v1 := .agg #[vi Rows, vi Cols, .slice B3 Cells.length c3]) (resAt_cellA (B := aD b) (i := 0) (cs := [vi Rows, vi Cols, .slice B3 Cells.length c3]) (vs := [vi Rows, vi Cols, .slice B3 Cells.length c3]) (hf.g 4 2) K8 K4 (hS19.c 0) rfl rfl) (v2 := .bool true) (resAt_tmp rfl) ⟨B3, c3, rfl, (hS19.sN [3])⟩

theorem c_spec_l1Cur_levels (c : Tl1Cur) (n1 : Int) (B : Option Addr) (B1 : Option Addr) (c1 n : Nat) (w0 : World) (hn : c.code.length = n) (hS : ST w0 (bl [⟨B, 55, [.slice B1 n c1, vi c.at_, .int .u64 c.seed], 3⟩]) w0 [⟨B, 55, [.slice B1 n c1, vi c.at_, .int .u64 c.seed], 3⟩] [⟨B1, (c.code.flatMap enc_u8)⟩]) {r_ : List TTwoLevel} {m : Tl1Cur} (hF : F_spec_l1Cur_levels c n1 = some (r_, m)) :
  CV Tryz.prog 62 #[pt B 0, vi n1] w0 (fun v w' => ∃ (B2 : Option Addr) (c2 : Nat), v = .slice B2 r_.length c2 ∧ ST w0 (bl [⟨B, 55, [.slice B1 n c1, vi c.at_, .int .u64 c.seed], 3⟩]) w' [⟨B, 55, [.slice B1 n c1, vi m.at_, .int .u64 m.seed], 3⟩, ⟨B2, 25, (r_.flatMap eN2), c2 * 4⟩] []) := by
 subst hn
 unfold F_spec_l1Cur_levels at hF
 refine cv_of_cw 29 Tryz.func62 rfl Tryz.ntmps62 rfl ?_
 refine cq (cr ?_)
 refine sQ 4 (yg (.slice none 0 0)) (rn (cq (cr ?_)))
 refine sQ 5 (yg (.slice none 0 0)) (rn (cq (cq (cr ?_))))
 refine sQ 8 (ym (pt B 0)) ?_
 obtain ⟨⟨r_1, m1⟩, hc, hF⟩ := bI hF
 refine sc 9 rfl rfl (yC [pt B 0, vi 9] K24 (c_spec_l1Cur_pick c 9 B B1 c1 c.code.length _ rfl (hS.inn [true] rfl [(true, 0)] rfl) hc)) ?_
 rintro _ w_ ⟨rfl, hd⟩
 have hS1 := hS.out [true] rfl hd
 refine sQ 6 (yg (vi r_1)) (rn ?_)
 obtain ⟨z, hz, hF1⟩ := bI hF
 have hS3 := hS1.addNil 25
 refine cw_block ?_
 refine cw_loop (fun k f w => ∃ (at_ : Int) (seed : Int) (l : List TTwoLevel) (k_ : Int) (B3 : Option Addr) (c3 : Nat), FF f [(0, pt B 0), (1, vi n1), (5, .slice B3 l.length c3), (6, vi k_)] ∧ ST w0 (bl [⟨B, 55, [.slice B1 c.code.length c1, vi c.at_, .int .u64 c.seed], 3⟩]) w [⟨B, 55, [.slice B1 c.code.length c1, vi at_, .int .u64 seed], 3⟩, ⟨B3, 25, (l.flatMap eN2), c3 * 4⟩] [⟨B1, (c.code.flatMap enc_u8)⟩] ∧ whX (F_spec_l1Cur_levels_l1 c n1) k (at_, seed, l, k_) = some z) fuel ⟨m1.at_, m1.seed, [], r_1, none, 0, (fc rfl (fc rfl (fc rfl (fc rfl fn_)))), (hS3.sel [0, 1] rfl rfl), hz⟩ ?_
 rintro K9 f w ⟨at_, seed, l, k_, B3, c3, hf, hS2, hL⟩
 obtain ⟨K22, y, rfl, hb, hL1⟩ := whX_go hL
 unfold F_spec_l1Cur_levels_l1 at hb
 refine cq (cq (cr ?_))
 refine sQ 10 (ym (vi k_) rfl (hf.g 6 3)) <| sQ 11 (Y_gt (k := .i64) (a := k_) (b := 0) rfl rfl rfl) (rn ?_)
 refine cw_cond (b := (decide (0 < k_))) rfl (fun hb1 => ?_) (fun hb1 => ?_)
 ·skip
  have hF2 := ct hb hb1
  refine cw_skip (cq ?_)
  obtain ⟨z1, hz1, hF3⟩ := bI hF2
  refine cw_mid (fun f w => ∃ (at_1 : Int) (seed1 : Int) (l1 : List TTwoLevel) (B4 : Option Addr) (c4 : Nat), (at_1, seed1, l1) = z1 ∧ FF f [(0, pt B 0), (1, vi n1), (5, .slice B4 l1.length c4), (6, vi k_)] ∧ ST w0 (bl [⟨B, 55, [.slice B1 c.code.length c1, vi c.at_, .int .u64 c.seed], 3⟩]) w [⟨B, 55, [.slice B1 c.code.length c1, vi at_1, .int .u64 seed1], 3⟩, ⟨B4, 25, (l1.flatMap eN2), c4 * 4⟩] [⟨B1, (c.code.flatMap enc_u8)⟩]) ?_ ?_
  ·skip
   refine cw_block (cq (cr ?_))
   refine sQ 14 (ym (pt B 0) rfl (hf.g 0 0)) <| sQ 15 (ym (vi n1) rfl (hf.g 1 1)) ?_
   obtain ⟨⟨r_2, m2⟩, hc1, hz1⟩ := bI hz1
   refine sc 16 rfl rfl (yC [pt B 0, vi n1] k_call_42 (c_spec_l1Cur_level (Tl1Cur.mk c.code at_ seed) n1 B B1 c1 c.code.length _ rfl (hS2.inn [true, false] rfl [(true, 0)] rfl) hc1)) ?_
   rintro _ w_1 ⟨rfl, hd1⟩
   have hS5 := hS2.out [true, false] rfl hd1
   refine sS 7 (yN [vi 0, vi 0, vi 0, vi 0] 4 hS5 K30) ?_
   rintro _ w_2 ⟨b, rfl, hS6⟩
   refine s0 (yT 2 4 (aD b) 25 (.agg #[vi r_2.Kind, vi r_2.I, vi r_2.J, vi r_2.M_]) [vi r_2.Kind, vi r_2.I, vi r_2.J, vi r_2.M_] 0 hS6 K11) ?_
   rintro _ w_3 ⟨rfl, hS7⟩
   refine rn (cq (cr ?_))
   refine sQ 17 (ym (vi n1) rfl (hf.g 1 1)) <| sQ 18 (yb (aD b) 0 [vi r_2.Kind, vi r_2.I, vi r_2.J, vi r_2.M_] K26 K11 (hS7.c 2)) ?_
   obtain ⟨r_3, hc2, hz1⟩ := bI hz1
   refine sc 19 rfl rfl (yC [vi n1, .agg #[vi r_2.Kind, vi r_2.I, vi r_2.J, vi r_2.M_]] K86 (c_spec_l11Valid n1 r_2 _  (hS7.inn0 [] rfl) hc2)) ?_
   rintro _ w_4 ⟨rfl, hd2⟩
   have hS8 := hS7.out00 hd2
   refine sQ 20 (ym (.bool r_3)) ?_
   refine sgq 21 (B := (!r_3)) (v := pt B 0) rfl rfl (uF_ 20) (fun hg => (ym (pt B 0) rfl (hf.g 0 0))) ?_
   refine rw_split (B := (!r_3)) (fun hb2 => ?_) (fun hb2 => ?_)
   ·skip
    have hF4 := ct hz1 hb2
    obtain ⟨⟨r_4, m3⟩, hc3, hF4⟩ := bI hF4
    refine scg 22 rfl rfl (uF_ 20) hb2 (yC [pt B 0, vi 8] K55 (c_spec_l1Cur_one (Tl1Cur.mk c.code m2.at_ m2.seed) 8 B B1 c1 c.code.length _ rfl (hS8.inn [false, true, false] rfl [(true, 0)] rfl) hc3) rfl (mc (gv_of (v := pt B 0) hb2) (mc rfl mn))) ?_
    rintro _ w_5 ⟨rfl, hd3⟩
    have hS9 := hS8.out [false, true, false] rfl hd3
    refine sQ 23 (Y_pickF (b := r_3) (v := .bool r_4) rfl rfl (nt hb2) rfl) (rn ?_)
    refine cw_cond (b := r_4) rfl (fun hb3 => ?_) (fun hb3 => ?_)
    ·skip
     have hF5 := ct hF4 hb3
     refine cr ?_
     refine sQ 24 (ym (.slice B3 l.length c3) rfl (hf.g 5 2)) <| sQ 25 (yb (aD b) 0 [vi r_2.Kind, vi r_2.I, vi r_2.J, vi r_2.M_] K26 K11 (hS9.c 1)) ?_
     refine sS 26 (Ys_bslice (s := 4) (len := 1) (vs := [(0, .agg #[vi r_2.Kind, vi r_2.I, vi r_2.J, vi r_2.M_])]) (cs := [vi r_2.Kind, vi r_2.I, vi r_2.J, vi r_2.M_]) (zs := [vi 0, vi 0, vi 0, vi 0]) (m := 4) hS9 K28 K11 K52 rfl (mpc rfl mpn) rfl rfl rfl (by kernel_rfl) (by kernel_rfl) rfl) ?_
     rintro _ w_6 ⟨b1, rfl, hS10⟩
     obtain ⟨hap, hF5⟩ := chk_inv hF5
     refine sS 27 (Ys_append (s := 4) (by' := 32) (i := 0) (nn := l.length) (c := c3) (k := 1) (len := (l ++ [r_2]).length) (B := B3) (xs := ([r_2].flatMap eN2)) (cs' := ((l ++ [r_2]).flatMap eN2)) hS10 K28 K11 K65 K30 rfl (by decide) rfl rfl rfl rfl (fm_lenn (l := l) enc_TwoLevel_len rfl) rfl (hS10.c 3) (fm_lenn (l := [r_2]) enc_TwoLevel_len rfl) (fm_one' (enc := eN2) enc_TwoLevel_one [r_2]) (by have := hap; omega) (by have := hap; simp only [maxLen]; omega) (fm_app _ _) (app_len (l := l) (l' := [r_2]) rfl rfl)) ?_
     rintro _ w_7 ⟨B5, c5, rfl, hS11⟩
     refine sQ 5 (yg (.slice B5 ((l ++ [r_2]).length) c5)) (rn ?_)
     exact ⟨m3.at_, m3.seed, (l ++ [r_2]), B5, c5, (sI hF5), (fc (hf.g 0 0) (fc (hf.g 1 1) (fc rfl (fc (hf.g 6 3) fn_)))), (hS11.sel [2, 0] rfl rfl)⟩
    ·skip
     have hF6 := cf' hF4 hb3
     refine cw_skip ?_
     exact ⟨m3.at_, m3.seed, l, B3, c3, (sI hF6), (fc (hf.g 0 0) (fc (hf.g 1 1) (fc (hf.g 5 2) (fc (hf.g 6 3) fn_)))), (hS9.sel [2, 0] rfl rfl)⟩
   ·skip
    have hF7 := cf' hz1 hb2
    refine sgn 22 rfl rfl (uF_ 20) hb2 ?_
    refine sQ 23 (Y_pickT (b := r_3) (v := .bool true) rfl rfl (nf hb2) rfl) (rn ?_)
    refine cw_cond (b := true) rfl (fun _ => ?_) (fun h => by cases h)
    refine cr ?_
    refine sQ 24 (ym (.slice B3 l.length c3) rfl (hf.g 5 2)) <| sQ 25 (yb (aD b) 0 [vi r_2.Kind, vi r_2.I, vi r_2.J, vi r_2.M_] K26 K11 (hS8.c 2)) ?_
    refine sS 26 (Ys_bslice (s := 4) (len := 1) (vs := [(0, .agg #[vi r_2.Kind, vi r_2.I, vi r_2.J, vi r_2.M_])]) (cs := [vi r_2.Kind, vi r_2.I, vi r_2.J, vi r_2.M_]) (zs := [vi 0, vi 0, vi 0, vi 0]) (m := 4) hS8 K28 K11 K52 rfl (mpc rfl mpn) rfl rfl rfl (by kernel_rfl) (by kernel_rfl) rfl) ?_
    rintro _ w_8 ⟨b2, rfl, hS12⟩
    obtain ⟨hap1, hF7⟩ := chk_inv hF7
    refine sS 27 (Ys_append (s := 4) (by' := 32) (i := 0) (nn := l.length) (c := c3) (k := 1) (len := (l ++ [r_2]).length) (B := B3) (xs := ([r_2].flatMap eN2)) (cs' := ((l ++ [r_2]).flatMap eN2)) hS12 K28 K11 K65 K30 rfl (by decide) rfl rfl rfl rfl (fm_lenn (l := l) enc_TwoLevel_len rfl) rfl (hS12.c 3) (fm_lenn (l := [r_2]) enc_TwoLevel_len rfl) (fm_one' (enc := eN2) enc_TwoLevel_one [r_2]) (by have := hap1; omega) (by have := hap1; simp only [maxLen]; omega) (fm_app _ _) (app_len (l := l) (l' := [r_2]) rfl rfl)) ?_
    rintro _ w_9 ⟨B6, c6, rfl, hS13⟩
    refine sQ 5 (yg (.slice B6 ((l ++ [r_2]).length) c6)) (rn ?_)
    exact ⟨m2.at_, m2.seed, (l ++ [r_2]), B6, c6, (sI hF7), (fc (hf.g 0 0) (fc (hf.g 1 1) (fc rfl (fc (hf.g 6 3) fn_)))), (hS13.sel [1, 0] rfl rfl)⟩
  rintro f w ⟨at_1, seed1, l1, B4, c4, rfl, hf1, hS4⟩
  refine cr ?_
  refine sQ 12 (ym (vi k_) rfl (hf1.g 6 3)) <| sQ 13 (yM k_ 1) <| sQ 6 (yg (vi (i64.wrap (k_ - 1)))) (rn ?_)
  obtain rfl := sI hF3
  exact ⟨K22, Nat.lt_succ_self _, at_1, seed1, l1, (i64.wrap (k_ - 1)), B4, c4, (fc (hf1.g 0 0) (fc (hf1.g 1 1) (fc (hf1.g 5 2) (fc rfl fn_)))), (hS4.sel [0, 1] rfl rfl), hL1⟩
 ·skip
  have hF8 := cf' hb hb1
  refine cw_exit rfl ?_
  obtain rfl := sI hF8
  obtain rfl := sI hL1
  refine cq (cr ?_)
  refine sQ 28 (ym (.slice B3 l.length c3) rfl (hf.g 5 2)) <| sQ 4 (yg (.slice B3 l.length c3)) (rn (ct_ ?_))
  obtain ⟨rfl, rfl⟩ := pr2 (sI hF1)
  exact ret1 Tryz.results62 (v1 := .slice B3 l.length c3) (resAt_tmp rfl) ⟨B3, c3, rfl, (hS2.sN [0, 1])⟩
end Go.VK
