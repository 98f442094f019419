/- Walks: each Go function returns what its Lean function says. By program. -/
import Derived.Test.YteaclldklaocmaaGreatLTwoLevelFa
import Derived.Test.YteaclldklaocmaaGreatLTwoLevelW2
set_option linter.unusedVariables false
set_option maxRecDepth 100000
set_option maxHeartbeats 4000000
namespace Go.VK
open Go.RowKit
open Go.Proofs
open Go.IntKind
attribute [local irreducible] CW RW RA CV Y Yw Yc Ys RetOf
attribute [local irreducible] F_spec_l1Cur_pick F_spec_l1Cur_among F_spec_l1Cur_one F_impl_isLevelDim F_impl_within F_spec_l1In F_impl_whole F_impl_IsValidRing F_impl_isEven F_impl_IsValidDyadic F_impl_ringIf F_impl_MulDyadic F_impl_MulOmega F_impl_phase F_impl_IsValidMatrix F_impl_raised F_impl_AddDyadic F_spec_l2Power F_spec_l3Unit F_spec_l1Cur_dyadic F_spec_l1Cur_anyMatrix F_spec_l2C_mul F_spec_l2C_add F_spec_l2Neg F_spec_ComposeTwoLevel F_spec_l1Cur_levels F_spec_l2C_times F_spec_l6Bit F_spec_l6One F_spec_l6Cell F_spec_l6Gate F_spec_l2C_run F_spec_l6Op F_spec_l1Cur_gate F_spec_l1Cur_built F_spec_l1Cur_unitary F_spec_l3Column F_spec_DrawReduceColumn F_impl_Conjugate F_impl_ConjDyadic F_impl_NormSquare F_impl_isColumn F_impl_LeastExp F_impl_PhaseOf F_impl_finishing F_impl_ResidueType F_impl_nextPair F_impl_parities F_impl_MatchingPower F_impl_lowering
theorem c_spec_l2C_times (c : Tl2C) (a : TMatrix) (b : TMatrix) (B : Option Addr) (B1 : Option Addr) (c1 n : Nat) (B2 : Option Addr) (c2 n1 : Nat) (w0 : World) (hn : a.Cells.length = n) (hn1 : b.Cells.length = n1) (hS : ST w0 (bl [⟨B, 67, [.bool c.bad], 1⟩]) w0 [⟨B, 67, [.bool c.bad], 1⟩] [⟨B1, (a.Cells.flatMap eN0)⟩, ⟨B2, (b.Cells.flatMap eN0)⟩]) {r_ : TMatrix} {m : Tl2C} (hF : F_spec_l2C_times c a b = some (r_, m)) :
  CV Tryz.prog 39 #[pt B 0, .agg #[vi a.Rows, vi a.Cols, .slice B1 n c1], .agg #[vi b.Rows, vi b.Cols, .slice B2 n1 c2]] w0 (fun v w' => ∃ (B3 : Option Addr) (c3 : Nat), v = (gM_ r_ B3 c3) ∧ ST w0 (bl [⟨B, 67, [.bool c.bad], 1⟩]) w' [⟨B, 67, [.bool m.bad], 1⟩, ⟨B3, 51, (r_.Cells.flatMap eN0), c3 * 5⟩] []) := by
 subst hn
 subst hn1
 unfold F_spec_l2C_times at hF
 refine cv_of_cw 75 Tryz.func39 rfl Tryz.ntmps39 rfl ?_
 refine cq (cr ?_)
 refine sS 4 (yB 34 (gM_ a B1 c1) (kM_ a B1 c1) 3 hS) ?_
 rintro _ w_ ⟨b1, rfl, hS1⟩
 refine sS 5 (yB 34 (gM_ b B2 c2) (kM_ b B2 c2) 3 hS1) ?_
 rintro _ w_1 ⟨b2, rfl, hS2⟩
 refine sS 6 (yN kN_ 3 hS2 K10) ?_
 rintro _ w_2 ⟨b3, rfl, hS3⟩
 refine rn (cq (cr ?_))
 refine sQ 12 (yd (aD b1) 0 0 K34 K0) <| sQ 13 (yl (aD b1) 0 (kM_ a B1 c1) (vi a.Rows) K1 (hS3.c 1)) <| sQ 14 (yd (aD b2) 0 0 K29 K0) <| sQ 15 (yl (aD b2) 1 (kM_ b B2 c2) (vi b.Cols) K1 (hS3.c 2)) <| sQ 16 (Y_buildS (zs := kN_) (vs := [(0, vi a.Rows), (1, vi b.Cols)]) (cs := [vi a.Rows, vi b.Cols, .slice none 0 0]) K32 K10 rfl (mpc rfl (mpc rfl mpn)) rfl) ?_
 refine sS 7 (yN kN_ 3 hS3 K10) ?_
 rintro _ w_3 ⟨b4, rfl, hS4⟩
 refine s0 (yT 4 3 (aD b4) 34 (.agg #[vi a.Rows, vi b.Cols, .slice none 0 0]) [vi a.Rows, vi b.Cols, .slice none 0 0] 0 hS4 K4) ?_
 rintro _ w_4 ⟨rfl, hS5⟩
 refine rn (cq (cq (cr ?_)))
 refine sQ 8 (yg (vi 0)) (rn ?_)
 obtain ⟨hN, hF⟩ := chk_inv hF
 obtain ⟨z, hz, hF1⟩ := bI hF
 have hS7 := hS5.addNil 51
 refine cw_block ?_
 refine cw_loop (fun k f w => ∃ (i1 : Nat) (bad : Bool) (Cells : List TDyadic) (B4 : Option Addr) (c4 : Nat), FF f [(0, pt B 0), (4, pt (aD b1) 0), (5, pt (aD b2) 0), (6, pt (aD b3) 0), (7, pt (aD b4) 0), (8, vi (i1 : Int))] ∧ ST w0 (bl [⟨B, 67, [.bool c.bad], 1⟩]) w [⟨B, 67, [.bool bad], 1⟩, ⟨aD b1, 34, kM_ a B1 c1, 3⟩, ⟨aD b2, 34, kM_ b B2 c2, 3⟩, ⟨aD b3, 34, kN_, 3⟩, ⟨aD b4, 34, [vi a.Rows, vi b.Cols, .slice B4 Cells.length c4], 3⟩, ⟨B4, 51, (Cells.flatMap eN0), c4 * 5⟩] [⟨B1, (a.Cells.flatMap eN0)⟩, ⟨B2, (b.Cells.flatMap eN0)⟩] ∧ i1 + k = a.Rows.toNat ∧ forN (F_spec_l2C_times_l1 b a) k i1 (bad, Cells) = some z) a.Rows.toNat ⟨0, c.bad, [], none, 0, (fc rfl (fc rfl (fc rfl (fc rfl (fc rfl (fc rfl fn_)))))), (hS7.sel [0, 1, 2, 3, 4, 5] rfl rfl), Nat.zero_add _, hz⟩ ?_
 rintro k_ f w ⟨i1, bad, Cells, B4, c4, hf, hS6, hik, hL⟩
 refine cq (cq (cr ?_))
 refine sQ 17 (ym (vi (i1 : Int)) rfl (hf.g 8 5)) <| sQ 18 (yd (aD b1) 0 0 K34 K0 rfl (hf.g 4 1)) <| sQ 19 (yl (aD b1) 0 (kM_ a B1 c1) (vi a.Rows) K1 (hS6.c 1)) <| sQ 20 (yL (i1 : Int) a.Rows) (rn ?_)
 refine cw_cond (b := (decide ((i1 : Int) < a.Rows))) rfl (fun hlt => ?_) (fun hlt => ?_)
 ·skip
  have hlt1 : i1 < a.Rows.toNat := by have h := of_decide_eq_true hlt; omega
  obtain ⟨K9, rfl⟩ : ∃ k2, k_ = k2 + 1 := ⟨k_ - 1, by omega⟩
  obtain ⟨y, hb, hL1⟩ := forN_go hL
  unfold F_spec_l2C_times_l1 at hb
  refine cw_skip (cq (cw_block (cq (cr ?_))))
  refine sQ 9 (yg (vi 0)) (rn ?_)
  obtain ⟨hN1, hb⟩ := chk_inv hb
  obtain ⟨z1, hz1, hF2⟩ := bI hb
  refine cw_block ?_
  refine cw_loop (fun k f w => ∃ (j : Nat) (bad1 : Bool) (Cells1 : List TDyadic) (B5 : Option Addr) (c5 : Nat), FF f [(0, pt B 0), (4, pt (aD b1) 0), (5, pt (aD b2) 0), (6, pt (aD b3) 0), (7, pt (aD b4) 0), (8, vi (i1 : Int)), (9, vi (j : Int))] ∧ ST w0 (bl [⟨B, 67, [.bool c.bad], 1⟩]) w [⟨B, 67, [.bool bad1], 1⟩, ⟨aD b1, 34, kM_ a B1 c1, 3⟩, ⟨aD b2, 34, kM_ b B2 c2, 3⟩, ⟨aD b3, 34, kN_, 3⟩, ⟨aD b4, 34, [vi a.Rows, vi b.Cols, .slice B5 Cells1.length c5], 3⟩, ⟨B5, 51, (Cells1.flatMap eN0), c5 * 5⟩] [⟨B1, (a.Cells.flatMap eN0)⟩, ⟨B2, (b.Cells.flatMap eN0)⟩] ∧ j + k = b.Cols.toNat ∧ forN (F_spec_l2C_times_l2 a Cells i1 b bad) k j (bad1, Cells1) = some z1) b.Cols.toNat ⟨0, bad, Cells, B4, c4, (fc (hf.g 0 0) (fc (hf.g 4 1) (fc (hf.g 5 2) (fc (hf.g 6 3) (fc (hf.g 7 4) (fc (hf.g 8 5) (fc rfl fn_))))))), (hS6.sel [0, 1, 2, 3, 4, 5] rfl rfl), Nat.zero_add _, hz1⟩ ?_
  rintro K22 f w ⟨j, bad1, Cells1, B5, c5, hf1, hS8, hik1, hL2⟩
  refine cq (cq (cr ?_))
  refine sQ 23 (ym (vi (j : Int)) rfl (hf1.g 9 6)) <| sQ 24 (yd (aD b2) 0 0 K29 K0 rfl (hf1.g 5 2)) <| sQ 25 (yl (aD b2) 1 (kM_ b B2 c2) (vi b.Cols) K1 (hS8.c 2)) <| sQ 26 (yL (j : Int) b.Cols) (rn ?_)
  refine cw_cond (b := (decide ((j : Int) < b.Cols))) rfl (fun hlt2 => ?_) (fun hlt2 => ?_)
  ·skip
   have hlt3 : j < b.Cols.toNat := by have h := of_decide_eq_true hlt2; omega
   obtain ⟨K43, rfl⟩ : ∃ k2, K22 = k2 + 1 := ⟨K22 - 1, by omega⟩
   obtain ⟨y1, hb1, hL3⟩ := forN_go hL2
   unfold F_spec_l2C_times_l2 at hb1
   refine cw_skip (cq (cw_block (cq (cr ?_))))
   refine sQ 29 (Y_buildS (zs := kZ_) (vs := []) (cs := kZ_) K21 K6 rfl mpn rfl) ?_
   refine sS 10 (yN kZ_ 5 hS8 K6) ?_
   rintro _ w_5 ⟨b5, rfl, hS9⟩
   refine s0 (yT 6 5 (aD b5) 51 gZ_ kZ_ 0 hS9 K2) ?_
   rintro _ w_6 ⟨rfl, hS10⟩
   refine rn (cq (cq (cr ?_)))
   refine sQ 11 (yg (vi 0)) (rn ?_)
   obtain ⟨z2, hz2, hF3⟩ := bI hb1
   refine cw_block ?_
   refine cw_loop (fun k f w => ∃ (bad2 : Bool) (A : Int) (B6 : Int) (C : Int) (D : Int) (Exp : Int) (K23 : Int), FF f [(0, pt B 0), (4, pt (aD b1) 0), (5, pt (aD b2) 0), (6, pt (aD b3) 0), (7, pt (aD b4) 0), (8, vi (i1 : Int)), (9, vi (j : Int)), (10, pt (aD b5) 0), (11, vi K23)] ∧ ST w0 (bl [⟨B, 67, [.bool c.bad], 1⟩]) w [⟨B, 67, [.bool bad2], 1⟩, ⟨aD b1, 34, kM_ a B1 c1, 3⟩, ⟨aD b2, 34, kM_ b B2 c2, 3⟩, ⟨aD b3, 34, kN_, 3⟩, ⟨aD b4, 34, [vi a.Rows, vi b.Cols, .slice B5 Cells1.length c5], 3⟩, ⟨B5, 51, (Cells1.flatMap eN0), c5 * 5⟩, ⟨aD b5, 51, [vi A, vi B6, vi C, vi D, vi Exp], 5⟩] [⟨B1, (a.Cells.flatMap eN0)⟩, ⟨B2, (b.Cells.flatMap eN0)⟩] ∧ whX (F_spec_l2C_times_l3 a Cells i1 b j bad) k (bad2, A, B6, C, D, Exp, K23) = some z2) fuel ⟨bad1, 0, 0, 0, 0, 0, 0, (fc (hf1.g 0 0) (fc (hf1.g 4 1) (fc (hf1.g 5 2) (fc (hf1.g 6 3) (fc (hf1.g 7 4) (fc (hf1.g 8 5) (fc (hf1.g 9 6) (fc rfl (fc rfl fn_))))))))), (hS10.sel [0, 1, 2, 3, 4, 5, 6] rfl rfl), hz2⟩ ?_
   rintro k_5 f w ⟨bad2, A, B6, C, D, Exp, K23, hf2, hS11, hL4⟩
   obtain ⟨k_6, y2, rfl, hb2, hL5⟩ := whX_go hL4
   unfold F_spec_l2C_times_l3 at hb2
   refine cq (cq (cr ?_))
   refine sQ 30 (ym (vi K23) rfl (hf2.g 11 8)) <| sQ 31 (yd (aD b1) 0 0 K29 K0 rfl (hf2.g 4 1)) <| sQ 32 (yl (aD b1) 1 (kM_ a B1 c1) (vi a.Cols) K1 (hS11.c 1)) <| sQ 33 (yL K23 a.Cols) <| sQ 34 (ym (.bool (decide (K23 < a.Cols)))) ?_
   refine sgq 35 (B := (decide (K23 < a.Cols))) (v := pt B 0) rfl rfl (uT_ 34) (fun hg => (ym (pt B 0) rfl (hf2.g 0 0))) ?_
   refine sgq 36 (B := (decide (K23 < a.Cols))) (v := pt B 0) rfl rfl (uT_ 34) (fun hg1 => (Y_nilCheck (B := B) (i := 0) rfl (gv_of (v := pt B 0) hg1))) ?_
   refine sgq 37 (B := (decide (K23 < a.Cols))) (v := pt B 0) rfl rfl (uT_ 34) (fun hg2 => (yd B 0 0 K77 K57 rfl (gv_of (v := pt B 0) hg2))) ?_
   refine sgq 38 (B := (decide (K23 < a.Cols))) (v := .bool bad2) rfl rfl (uT_ 34) (fun hg3 => (yl B 0 [.bool bad2] (.bool bad2) K98 (hS11.c 0) rfl (gv_of (v := pt B 0) hg3))) ?_
   refine sgq 39 (B := (decide (K23 < a.Cols))) (v := .bool (!bad2)) rfl rfl (uT_ 34) (fun hg4 => (Y_not (p := bad2) rfl (gv_of (v := .bool bad2) hg4))) ?_
   refine sQ 40 (Y_and (b := (decide (K23 < a.Cols))) (z := (!bad2)) rfl rfl rfl rfl) (rn ?_)
   refine cw_cond (b := ((decide (K23 < a.Cols)) && (!bad2))) rfl (fun hb3 => ?_) (fun hb3 => ?_)
   ·skip
    have hF4 := ct hb2 hb3
    refine cw_skip (cq (cw_block ?_))
    obtain ⟨x, hx, hF4⟩ := bI hF4
    obtain ⟨x1, hx1, hF4⟩ := bI hF4
    obtain ⟨⟨r_1, m1⟩, hc, hF4⟩ := bI hF4
    obtain ⟨⟨r_2, m2⟩, hc1, hF4⟩ := bI hF4
    refine cw_mid (fun f w => FF f [(0, pt B 0), (4, pt (aD b1) 0), (5, pt (aD b2) 0), (6, pt (aD b3) 0), (7, pt (aD b4) 0), (8, vi (i1 : Int)), (9, vi (j : Int)), (10, pt (aD b5) 0), (11, vi K23)] ∧ ST w0 (bl [⟨B, 67, [.bool c.bad], 1⟩]) w [⟨B, 67, [.bool m2.bad], 1⟩, ⟨aD b1, 34, kM_ a B1 c1, 3⟩, ⟨aD b2, 34, kM_ b B2 c2, 3⟩, ⟨aD b3, 34, kN_, 3⟩, ⟨aD b4, 34, [vi a.Rows, vi b.Cols, .slice B5 Cells1.length c5], 3⟩, ⟨B5, 51, (Cells1.flatMap eN0), c5 * 5⟩, ⟨aD b5, 51, kD_ r_2, 5⟩] [⟨B1, (a.Cells.flatMap eN0)⟩, ⟨B2, (b.Cells.flatMap eN0)⟩]) ?_ ?_
    ·skip
     refine ra_start (hS11.se [1, 2, 3, 4, 5]).fn (by kernel_rfl) ?_
     have hS15 := hS11.drew
     refine rq 0 43 (v := pt B 0) rfl (hS15.se [1, 2, 3, 4, 5]) (fun w' hw' => (ym (pt B 0) rfl (hf2.g 0 0))) ?_
     refine rq 2 45 (v := pt B 0) rfl (hS15.se [1, 2, 3, 4, 5]) (fun w' hw' => (ym (pt B 0) rfl (hf2.g 0 0))) ?_
     refine rq 3 46 (v := pt (aD b1) 2) rfl (hS15.se [1, 2, 3, 4, 5]) (fun w' hw' => (yd (aD b1) 0 0 K15 K13 rfl (hf2.g 4 1))) ?_
     refine rq 4 47 (v := .slice B1 a.Cells.length c1) rfl (hS15.se [1, 2, 3, 4, 5]) (fun w' hw' => (yl (aD b1) 2 (kM_ a B1 c1) (.slice B1 a.Cells.length c1) K16 (ST.cf hw' (i := 0) rfl))) ?_
     refine rq 5 48 (v := vi (i1 : Int)) rfl (hS15.se [1, 2, 3, 4, 5]) (fun w' hw' => (ym (vi (i1 : Int)) rfl (hf2.g 8 5))) ?_
     refine rq 6 49 (v := pt (aD b1) 1) rfl (hS15.se [1, 2, 3, 4, 5]) (fun w' hw' => (yd (aD b1) 0 0 K29 K0 rfl (hf2.g 4 1))) ?_
     refine rq 7 50 (v := vi a.Cols) rfl (hS15.se [1, 2, 3, 4, 5]) (fun w' hw' => (yl (aD b1) 1 (kM_ a B1 c1) (vi a.Cols) K1 (ST.cf hw' (i := 0) rfl))) ?_
     refine rq 8 51 (v := vi (i64.wrap ((i1 : Int) * a.Cols))) rfl (hS15.se [1, 2, 3, 4, 5]) (fun w' hw' => (yX (i1 : Int) a.Cols)) ?_
     refine rq 9 52 (v := vi K23) rfl (hS15.se [1, 2, 3, 4, 5]) (fun w' hw' => (ym (vi K23) rfl (hf2.g 11 8))) ?_
     refine rq 10 53 (v := vi (i64.wrap ((i64.wrap ((i1 : Int) * a.Cols)) + K23))) rfl (hS15.se [1, 2, 3, 4, 5]) (fun w' hw' => (yP (i64.wrap ((i1 : Int) * a.Cols)) K23)) ?_
     refine rq 11 54 (v := pt B1 ((i64.wrap ((i64.wrap ((i1 : Int) * a.Cols)) + K23)).toNat * 5)) rfl (hS15.se [1, 2, 3, 4, 5]) (fun w' hw' => (Y_index (B := B1) (m := a.Cells.length) (c := c1) (k := .i64) (i := (i64.wrap ((i64.wrap ((i1 : Int) * a.Cols)) + K23))) K12 K2 rfl rfl rfl (gi_isSome eN1 rfl (ST.rf hw' (i := 0) rfl) hx) (getI_nn hx) (getI_ltI hx rfl))) ?_
     refine rq 12 55 (v := gD_ x) rfl (hS15.se [1, 2, 3, 4, 5]) (fun w' hw' => (ya B1 ((i64.wrap ((i64.wrap ((i1 : Int) * a.Cols)) + K23)).toNat * 5) (a.Cells.flatMap eN0) (kD_ x) K5 K2 (ST.rf hw' (i := 0) rfl) rfl rfl (eN1 x) (gi_seg eN1 hx))) ?_
     refine rq 13 56 (v := pt (aD b2) 2) rfl (hS15.se [1, 2, 3, 4, 5]) (fun w' hw' => (yd (aD b2) 0 0 K15 K13 rfl (hf2.g 5 2))) ?_
     refine rq 14 57 (v := .slice B2 b.Cells.length c2) rfl (hS15.se [1, 2, 3, 4, 5]) (fun w' hw' => (yl (aD b2) 2 (kM_ b B2 c2) (.slice B2 b.Cells.length c2) K16 (ST.cf hw' (i := 1) rfl))) ?_
     refine rq 15 58 (v := vi K23) rfl (hS15.se [1, 2, 3, 4, 5]) (fun w' hw' => (ym (vi K23) rfl (hf2.g 11 8))) ?_
     refine rq 16 59 (v := pt (aD b2) 1) rfl (hS15.se [1, 2, 3, 4, 5]) (fun w' hw' => (yd (aD b2) 0 0 K29 K0 rfl (hf2.g 5 2))) ?_
     refine rq 17 60 (v := vi b.Cols) rfl (hS15.se [1, 2, 3, 4, 5]) (fun w' hw' => (yl (aD b2) 1 (kM_ b B2 c2) (vi b.Cols) K1 (ST.cf hw' (i := 1) rfl))) ?_
     refine rq 18 61 (v := vi (i64.wrap (K23 * b.Cols))) rfl (hS15.se [1, 2, 3, 4, 5]) (fun w' hw' => (yX K23 b.Cols)) ?_
     refine rq 19 62 (v := vi (j : Int)) rfl (hS15.se [1, 2, 3, 4, 5]) (fun w' hw' => (ym (vi (j : Int)) rfl (hf2.g 9 6))) ?_
     refine rq 20 63 (v := vi (i64.wrap ((i64.wrap (K23 * b.Cols)) + (j : Int)))) rfl (hS15.se [1, 2, 3, 4, 5]) (fun w' hw' => (yP (i64.wrap (K23 * b.Cols)) (j : Int))) ?_
     refine rq 21 64 (v := pt B2 ((i64.wrap ((i64.wrap (K23 * b.Cols)) + (j : Int))).toNat * 5)) rfl (hS15.se [1, 2, 3, 4, 5]) (fun w' hw' => (Y_index (B := B2) (m := b.Cells.length) (c := c2) (k := .i64) (i := (i64.wrap ((i64.wrap (K23 * b.Cols)) + (j : Int)))) K12 K2 rfl rfl rfl (gi_isSome eN1 rfl (ST.rf hw' (i := 1) rfl) hx1) (getI_nn hx1) (getI_ltI hx1 rfl))) ?_
     refine rq 22 65 (v := gD_ x1) rfl (hS15.se [1, 2, 3, 4, 5]) (fun w' hw' => (ya B2 ((i64.wrap ((i64.wrap (K23 * b.Cols)) + (j : Int))).toNat * 5) (b.Cells.flatMap eN0) (kD_ x1) K5 K2 (ST.rf hw' (i := 1) rfl) rfl rfl (eN1 x1) (gi_seg eN1 hx1))) ?_
     refine rA [1, 23] ?_
     refine ra_y 44 (i := 1) (v := .agg #[vi A, vi B6, vi C, vi D, vi Exp]) rfl rfl rfl (yb (aD b5) 0 [vi A, vi B6, vi C, vi D, vi Exp] K5 K2 (hS15.c 6) rfl (hf2.g 10 7)) (hS15.se [1, 2, 3, 4, 5]) ?_ ?_
     ·skip
      refine rA [23] ?_
      refine rC 66 23 rfl (yC [pt B 0, gD_ x, gD_ x1] K58 (c_spec_l2C_mul (Tl2C.mk bad2) x x1 B _  (hS15.inn [true, false, false, false, false, false, false] rfl [] rfl) hc)) ?_ ?_
      ·rintro _ w_7 ⟨rfl, hd⟩
       have hS16 := hS15.out [true, false, false, false, false, false, false] rfl hd
       refine ⟨(hS16.se [0, 1, 2, 3, 4]), ?_⟩
       refine rA [24] ?_
       refine rC 67 24 rfl (yC [pt B 0, .agg #[vi A, vi B6, vi C, vi D, vi Exp], gD_ r_1] K95 (c_spec_l2C_add m1 (TDyadic.mk (TRing.mk A B6 C D) Exp) r_1 B _  (hS16.inn [false, false, false, false, false, false, true] rfl [] rfl) hc1)) ?_ ?_
       ·rintro _ w_8 ⟨rfl, hd1⟩
        have hS17 := hS16.out [false, false, false, false, false, false, true] rfl hd1
        refine ⟨(hS17.se [0, 1, 2, 3, 4]), ?_⟩
        refine rA [25] ?_
        refine rZ 25 rfl (yT 5 5 (aD b5) 51 (gD_ r_2) (kD_ r_2) 0 hS17 K2 rfl (hf2.g 10 7)) ?_ ?_
        ·rintro _ w_9 ⟨rfl, hS18⟩
         refine ⟨(hS18.se [0, 1, 2, 3, 4]), ?_⟩
         refine ra_done (by kernel_rfl) ?_
         exact ⟨(fc (hf2.g 0 0) (fc (hf2.g 4 1) (fc (hf2.g 5 2) (fc (hf2.g 6 3) (fc (hf2.g 7 4) (fc (hf2.g 8 5) (fc (hf2.g 9 6) (fc (hf2.g 10 7) (fc (hf2.g 11 8) fn_))))))))), (hS18.sel [6, 0, 1, 2, 3, 4, 5] rfl rfl)⟩
        exact aN
       exact aN
      exact aN
     refine rC 66 23 rfl (yC [pt B 0, gD_ x, gD_ x1] K58 (c_spec_l2C_mul (Tl2C.mk bad2) x x1 B _  (hS15.inn [true, false, false, false, false, false, false] rfl [] rfl) hc)) ?_ ?_
     ·rintro _ w_10 ⟨rfl, hd2⟩
      have hS19 := hS15.out [true, false, false, false, false, false, false] rfl hd2
      refine ⟨(hS19.se [0, 1, 2, 3, 4]), ?_⟩
      refine rA [1] ?_
      refine ra_y 44 (i := 1) (v := .agg #[vi A, vi B6, vi C, vi D, vi Exp]) rfl rfl rfl (yb (aD b5) 0 [vi A, vi B6, vi C, vi D, vi Exp] K5 K2 (hS19.c 5) rfl (hf2.g 10 7)) (hS19.se [0, 1, 2, 3, 4]) ?_ ?_
      ·skip
       refine rA [24] ?_
       refine rC 67 24 rfl (yC [pt B 0, .agg #[vi A, vi B6, vi C, vi D, vi Exp], gD_ r_1] K95 (c_spec_l2C_add m1 (TDyadic.mk (TRing.mk A B6 C D) Exp) r_1 B _  (hS19.inn [false, false, false, false, false, false, true] rfl [] rfl) hc1)) ?_ ?_
       ·rintro _ w_11 ⟨rfl, hd3⟩
        have hS20 := hS19.out [false, false, false, false, false, false, true] rfl hd3
        refine ⟨(hS20.se [0, 1, 2, 3, 4]), ?_⟩
        refine rA [25] ?_
        refine rZ 25 rfl (yT 5 5 (aD b5) 51 (gD_ r_2) (kD_ r_2) 0 hS20 K2 rfl (hf2.g 10 7)) ?_ ?_
        ·rintro _ w_12 ⟨rfl, hS21⟩
         refine ⟨(hS21.se [0, 1, 2, 3, 4]), ?_⟩
         refine ra_done (by kernel_rfl) ?_
         exact ⟨(fc (hf2.g 0 0) (fc (hf2.g 4 1) (fc (hf2.g 5 2) (fc (hf2.g 6 3) (fc (hf2.g 7 4) (fc (hf2.g 8 5) (fc (hf2.g 9 6) (fc (hf2.g 10 7) (fc (hf2.g 11 8) fn_))))))))), (hS21.sel [6, 0, 1, 2, 3, 4, 5] rfl rfl)⟩
        exact aN
       exact aN
      exact aN
     exact aN
    rintro f w ⟨hf3, hS14⟩
    refine cr ?_
    refine sQ 41 (ym (vi K23) rfl (hf3.g 11 8)) <| sQ 42 (yP K23 1) <| sQ 11 (yg (vi (i64.wrap (K23 + 1)))) (rn ?_)
    obtain rfl := sI hF4
    exact ⟨k_6, Nat.lt_succ_self _, m2.bad, r_2.Num.A, r_2.Num.B, r_2.Num.C, r_2.Num.D, r_2.Exp, (i64.wrap (K23 + 1)), (fc (hf3.g 0 0) (fc (hf3.g 4 1) (fc (hf3.g 5 2) (fc (hf3.g 6 3) (fc (hf3.g 7 4) (fc (hf3.g 8 5) (fc (hf3.g 9 6) (fc (hf3.g 10 7) (fc rfl fn_))))))))), (hS14.sel [0, 1, 2, 3, 4, 5, 6] rfl rfl), hL5⟩
   ·skip
    have hF5 := cf' hb2 hb3
    refine cw_exit rfl ?_
    obtain rfl := sI hF5
    obtain rfl := sI hL5
    refine cr ?_
    refine sQ 68 (yd (aD b4) 0 0 K15 K13 rfl (hf2.g 7 4)) <| sQ 69 (yl (aD b4) 2 [vi a.Rows, vi b.Cols, .slice B5 Cells1.length c5] (.slice B5 Cells1.length c5) K16 (hS11.c 4)) <| sQ 70 (yb (aD b5) 0 [vi A, vi B6, vi C, vi D, vi Exp] K5 K2 (hS11.c 6) rfl (hf2.g 10 7)) ?_
    refine sS 71 (Ys_bslice (s := 5) (len := 1) (vs := [(0, .agg #[vi A, vi B6, vi C, vi D, vi Exp])]) (cs := [vi A, vi B6, vi C, vi D, vi Exp]) (zs := kZ_) (m := 5) hS11 K12 K2 K44 rfl (mpc rfl mpn) rfl rfl rfl (by kernel_rfl) (by kernel_rfl) rfl) ?_
    rintro _ w_13 ⟨b6, rfl, hS22⟩
    obtain ⟨hap, hF3⟩ := chk_inv hF3
    refine sS 72 (Ys_append (s := 5) (by' := 40) (i := 5) (nn := Cells1.length) (c := c5) (k := 1) (len := (Cells1 ++ [(TDyadic.mk (TRing.mk A B6 C D) Exp)]).length) (B := B5) (xs := ([(TDyadic.mk (TRing.mk A B6 C D) Exp)].flatMap eN0)) (cs' := ((Cells1 ++ [(TDyadic.mk (TRing.mk A B6 C D) Exp)]).flatMap eN0)) hS22 K12 K2 K45 K6 rfl (by decide) rfl rfl rfl rfl (fm_lenn (l := Cells1) eN1 rfl) rfl (hS22.c 7) (fm_lenn (l := [(TDyadic.mk (TRing.mk A B6 C D) Exp)]) eN1 rfl) (fm_one' (enc := eN0) enc_Dyadic_one [(TDyadic.mk (TRing.mk A B6 C D) Exp)]) (by have := hap; omega) (by have := hap; simp only [maxLen]; omega) (fm_app _ _) (app_len (l := Cells1) (l' := [(TDyadic.mk (TRing.mk A B6 C D) Exp)]) rfl rfl)) ?_
    rintro _ w_14 ⟨B7, c6, rfl, hS23⟩
    refine sQ 73 (yd (aD b4) 0 0 K15 K13 rfl (hf2.g 7 4)) ?_
    refine s0 (yS 4 1 (aD b4) 34 (.slice B7 ((Cells1 ++ [(TDyadic.mk (TRing.mk A B6 C D) Exp)]).length) c6) [.slice B7 ((Cells1 ++ [(TDyadic.mk (TRing.mk A B6 C D) Exp)]).length) c6] 2 [vi a.Rows, vi b.Cols, .slice B7 ((Cells1 ++ [(TDyadic.mk (TRing.mk A B6 C D) Exp)]).length) c6] hS23 K13) ?_
    rintro _ w_15 ⟨rfl, hS24⟩
    refine rn (cr ?_)
    refine sQ 27 (ym (vi (j : Int)) rfl (hf2.g 9 6)) <| sQ 28 (yP (j : Int) 1) <| sQ 9 (yg (vi (i64.wrap ((j : Int) + 1)))) (rn ?_)
    obtain rfl := sI hF3
    exact ⟨K43, Nat.lt_succ_self _, j + 1, bad2, (Cells1 ++ [(TDyadic.mk (TRing.mk A B6 C D) Exp)]), B7, c6, (fc (hf2.g 0 0) (fc (hf2.g 4 1) (fc (hf2.g 5 2) (fc (hf2.g 6 3) (fc (hf2.g 7 4) (fc (hf2.g 8 5) (fc (congrArg (Value.int .i64) (wr_succ hlt3 hN1)) fn_))))))), (hS24.sel [0, 1, 2, 3, 4, 5] rfl rfl), (by omega), hL3⟩
  ·skip
   obtain rfl : K22 = 0 := by have h := of_decide_eq_false hlt2; omega
   refine cw_exit rfl ?_
   obtain rfl := sI hL2
   refine cr ?_
   refine sQ 21 (ym (vi (i1 : Int)) rfl (hf1.g 8 5)) <| sQ 22 (yP (i1 : Int) 1) <| sQ 8 (yg (vi (i64.wrap ((i1 : Int) + 1)))) (rn ?_)
   obtain rfl := sI hF2
   exact ⟨K9, Nat.lt_succ_self _, i1 + 1, bad1, Cells1, B5, c5, (fc (hf1.g 0 0) (fc (hf1.g 4 1) (fc (hf1.g 5 2) (fc (hf1.g 6 3) (fc (hf1.g 7 4) (fc (congrArg (Value.int .i64) (wr_succ hlt1 hN)) fn_)))))), (hS8.sel [0, 1, 2, 3, 4, 5] rfl rfl), (by omega), hL1⟩
 ·skip
  obtain rfl : k_ = 0 := by have h := of_decide_eq_false hlt; omega
  refine cw_exit rfl ?_
  obtain rfl := sI hL
  refine cq (cr ?_)
  refine sQ 74 (yb (aD b4) 0 [vi a.Rows, vi b.Cols, .slice B4 Cells.length c4] K8 K4 (hS6.c 4) rfl (hf.g 7 4)) ?_
  refine s0 (yT 3 3 (aD b3) 34 (.agg #[vi a.Rows, vi b.Cols, .slice B4 Cells.length c4]) [vi a.Rows, vi b.Cols, .slice B4 Cells.length c4] 0 hS6 K4 rfl (hf.g 6 3)) ?_
  rintro _ w_16 ⟨rfl, hS25⟩
  refine rn (ct_ ?_)
  obtain ⟨rfl, rfl⟩ := pr2 (sI hF1)
  exact ret1 Tryz.results39 (v1 := .agg #[vi a.Rows, vi b.Cols, .slice B4 Cells.length c4]) (resAt_cellA (B := aD b3) (i := 0) (cs := [vi a.Rows, vi b.Cols, .slice B4 Cells.length c4]) (vs := [vi a.Rows, vi b.Cols, .slice B4 Cells.length c4]) (hf.g 6 3) K8 K4 (hS25.c 3) rfl rfl) ⟨B4, c4, rfl, (hS25.sN [0, 5])⟩

theorem c_spec_l6Bit (n : Int) (k_ : Int) (q : Int)  (w0 : World)  (hS : ST w0 [] w0 [] []) {r_ : Int} (hF : F_spec_l6Bit n k_ q = some r_) :
  CV Tryz.prog 116 #[vi n, vi k_, vi q] w0 (fun v w' => v = vi r_ ∧ ST w0 [] w' [] []) := by
 unfold F_spec_l6Bit at hF
 refine cv_of_cw 15 Tryz.func116 rfl Tryz.ntmps116 rfl ?_
 refine cq (cr ?_)
 refine sQ 6 (yg (vi 0)) (rn (cq (cr ?_)))
 refine sQ 7 (ym (vi k_)) <| sQ 8 (ym (vi n)) <| sQ 9 (yM n 1) <| sQ 10 (ym (vi q)) <| sQ 11 (yM (i64.wrap (n - 1)) q) <| sQ 12 (Y_conv (k := .i64) (a := (i64.wrap ((i64.wrap (n - 1)) - q))) (T := 3) (T' := 113) K54 K66 rfl rfl) ?_
 obtain ⟨hsh, hF⟩ := chk_inv hF
 refine sQ 13 (Y_shr (k := .i64) (a := k_) (k' := .u64) (b := (IntKind.u64.wrap (i64.wrap ((i64.wrap (n - 1)) - q)))) rfl rfl rfl hsh) <| sQ 14 (Y_band (k := .i64) (a := (shrK .i64 k_ (IntKind.u64.wrap (i64.wrap ((i64.wrap (n - 1)) - q))))) (b := 1) rfl rfl rfl) <| sQ 6 (yg (vi (bits .and .i64 (shrK .i64 k_ (IntKind.u64.wrap (i64.wrap ((i64.wrap (n - 1)) - q)))) 1))) (rn (ct_ ?_))
 obtain rfl := sI hF
 exact ret1 Tryz.results116 (v1 := vi (bits .and .i64 (shrK .i64 k_ (IntKind.u64.wrap (i64.wrap ((i64.wrap (n - 1)) - q)))) 1)) (resAt_tmp rfl) ⟨rfl, (hS.sN [])⟩

theorem c_spec_l6One (kind : Int)  (w0 : World)  (hS : ST w0 [] w0 [] []) {r_ : List TDyadic} (hF : F_spec_l6One kind = some r_) :
  CV Tryz.prog 117 #[vi kind] w0 (fun v w' => ∃ (B : Option Addr) (c : Nat), v = .slice B r_.length c ∧ ST w0 [] w' [⟨B, 51, (r_.flatMap eN0), c * 5⟩] []) := by
 unfold F_spec_l6One at hF
 refine cv_of_cw 43 Tryz.func117 rfl Tryz.ntmps117 rfl ?_
 refine cq (cr ?_)
 refine sQ 2 (yg (.slice none 0 0)) (rn (cq (cr ?_)))
 obtain ⟨r_1, hc, hF⟩ := bI hF
 refine sc 6 rfl rfl (yC [vi 0] K46 (c_spec_l2Power 0 _  (hS.inn0 [] rfl) hc)) ?_
 rintro _ w_ ⟨rfl, hd⟩
 have hS1 := hS.out00 hd
 refine sQ 7 (Y_buildS (zs := kZ_) (vs := []) (cs := kZ_) K21 K6 rfl mpn rfl) ?_
 refine sS 3 (yN kZ_ 5 hS1 K6) ?_
 rintro _ w_1 ⟨b, rfl, hS2⟩
 refine sS 4 (yN kZ_ 5 hS2 K6) ?_
 rintro _ w_2 ⟨b1, rfl, hS3⟩
 refine s0 (yT 0 5 (aD b) 51 (gD_ r_1) (kD_ r_1) 0 hS3 K2) ?_
 rintro _ w_3 ⟨rfl, hS4⟩
 refine s0 (yT 1 5 (aD b1) 51 gZ_ kZ_ 0 hS4 K2) ?_
 rintro _ w_4 ⟨rfl, hS5⟩
 refine rn (cq (cr ?_))
 refine sQ 8 (Y_buildS (zs := [vi 0, vi 0, vi 0, vi 0]) (vs := [(0, vi 1)]) (cs := [vi 1, vi 0, vi 0, vi 0]) K31 K14 rfl (mpc rfl mpn) rfl) <| sQ 9 (Y_buildS (zs := kZ_) (vs := [(0, .agg #[vi 1, vi 0, vi 0, vi 0]), (1, vi 1)]) (cs := [vi 1, vi 0, vi 0, vi 0, vi 1]) K21 K6 rfl (mpc rfl (mpc rfl mpn)) rfl) ?_
 refine sS 5 (yN kZ_ 5 hS5 K6) ?_
 rintro _ w_5 ⟨b2, rfl, hS6⟩
 refine s0 (yT 2 5 (aD b2) 51 (.agg #[vi 1, vi 0, vi 0, vi 0, vi 1]) [vi 1, vi 0, vi 0, vi 0, vi 1] 0 hS6 K2) ?_
 rintro _ w_6 ⟨rfl, hS7⟩
 refine rn (cq (cq (cr ?_)))
 refine sQ 10 (ym (vi kind)) (rn (cw_block (cq (cr ?_))))
 refine sQ 12 (yE kind 1) <| sQ 11 (yg (.bool (kind == 1))) (rn ?_)
 refine cw_cond (b := (kind == 1)) rfl (fun hb => ?_) (fun hb => ?_)
 ·skip
  have hF1 := ct hF hb
  refine cq ?_
  obtain ⟨r_2, hc1, hF1⟩ := bI hF1
  refine ra_start (hS7.se [0, 1, 2]).fn (by kernel_rfl) ?_
  have hS9 := hS7.drew
  refine rq 0 13 (v := .agg #[vi 1, vi 0, vi 0, vi 0, vi 1]) rfl (hS9.se [0, 1, 2]) (fun w' hw' => (yb (aD b2) 0 [vi 1, vi 0, vi 0, vi 0, vi 1] K5 K2 (ST.cf hw' (i := 2) rfl))) ?_
  refine rq 1 14 (v := .agg #[vi 1, vi 0, vi 0, vi 0, vi 1]) rfl (hS9.se [0, 1, 2]) (fun w' hw' => (yb (aD b2) 0 [vi 1, vi 0, vi 0, vi 0, vi 1] K5 K2 (ST.cf hw' (i := 2) rfl))) ?_
  refine rq 2 15 (v := .agg #[vi 1, vi 0, vi 0, vi 0, vi 1]) rfl (hS9.se [0, 1, 2]) (fun w' hw' => (yb (aD b2) 0 [vi 1, vi 0, vi 0, vi 0, vi 1] K5 K2 (ST.cf hw' (i := 2) rfl))) ?_
  refine rq 3 16 (v := .agg #[vi 1, vi 0, vi 0, vi 0, vi 1]) rfl (hS9.se [0, 1, 2]) (fun w' hw' => (yb (aD b2) 0 [vi 1, vi 0, vi 0, vi 0, vi 1] K5 K2 (ST.cf hw' (i := 2) rfl))) ?_
  refine rA [4] ?_
  refine rC 17 4 rfl (yC [.agg #[vi 1, vi 0, vi 0, vi 0, vi 1]] k_call_74 (c_spec_l2Neg (TDyadic.mk (TRing.mk 1 0 0 0) 1) _  (hS9.inn0 [] rfl) hc1)) ?_ ?_
  ·rintro _ w_7 ⟨rfl, hd1⟩
   have hS10 := hS9.out00 hd1
   refine ⟨(hS10.se [0, 1, 2]), ?_⟩
   refine rA [5] ?_
   refine rS 18 5 rfl (Ys_bslice (s := 5) (len := 4) (vs := [(0, .agg #[vi 1, vi 0, vi 0, vi 0, vi 1]), (1, .agg #[vi 1, vi 0, vi 0, vi 0, vi 1]), (2, .agg #[vi 1, vi 0, vi 0, vi 0, vi 1]), (3, gD_ r_2)]) (cs := [vi 1, vi 0, vi 0, vi 0, vi 1, vi 1, vi 0, vi 0, vi 0, vi 1, vi 1, vi 0, vi 0, vi 0, vi 1, vi r_2.Num.A, vi r_2.Num.B, vi r_2.Num.C, vi r_2.Num.D, vi r_2.Exp]) (zs := [vi 0, vi 0, vi 0, vi 0, vi 0, vi 0, vi 0, vi 0, vi 0, vi 0, vi 0, vi 0, vi 0, vi 0, vi 0, vi 0, vi 0, vi 0, vi 0, vi 0]) (m := 20) hS10 K12 K2 K44 rfl (mpc rfl (mpc rfl (mpc rfl (mpc rfl mpn)))) rfl rfl rfl (by kernel_rfl) (by kernel_rfl) rfl) ?_ ?_
   ·rintro _ w_8 ⟨b3, rfl, hS11⟩
    refine ⟨(hS11.se [0, 1, 2]), ?_⟩
    refine rq 6 2 (v := .slice (aD b3) 4 4) rfl (hS11.se [0, 1, 2]) (fun w' hw' => (yg (.slice (aD b3) 4 4))) ?_
    refine ra_done (by kernel_rfl) ?_
    refine ct_ ?_
    obtain rfl := sI hF1
    exact ret1 Tryz.results117 (v1 := .slice (aD b3) 4 4) (resAt_tmp rfl) ⟨aD b3, 4, rfl, (hS11.sN [3])⟩
   exact aN
  exact aN
 ·skip
  have hF2 := cf' hF hb
  refine cq (cr ?_)
  refine sQ 20 (yE kind 2) <| sQ 19 (yg (.bool (kind == 2))) (rn ?_)
  refine cw_cond (b := (kind == 2)) rfl (fun hb1 => ?_) (fun hb1 => ?_)
  ·skip
   have hF3 := ct hF2 hb1
   refine cq (cr ?_)
   refine sQ 21 (yb (aD b1) 0 kZ_ K5 K2 (hS7.c 1)) <| sQ 22 (yb (aD b) 0 (kD_ r_1) K5 K2 (hS7.c 0)) <| sQ 23 (yb (aD b) 0 (kD_ r_1) K5 K2 (hS7.c 0)) <| sQ 24 (yb (aD b1) 0 kZ_ K5 K2 (hS7.c 1)) ?_
   refine sS 25 (Ys_bslice (s := 5) (len := 4) (vs := [(0, gZ_), (1, gD_ r_1), (2, gD_ r_1), (3, gZ_)]) (cs := [vi 0, vi 0, vi 0, vi 0, vi 0, vi r_1.Num.A, vi r_1.Num.B, vi r_1.Num.C, vi r_1.Num.D, vi r_1.Exp, vi r_1.Num.A, vi r_1.Num.B, vi r_1.Num.C, vi r_1.Num.D, vi r_1.Exp, vi 0, vi 0, vi 0, vi 0, vi 0]) (zs := [vi 0, vi 0, vi 0, vi 0, vi 0, vi 0, vi 0, vi 0, vi 0, vi 0, vi 0, vi 0, vi 0, vi 0, vi 0, vi 0, vi 0, vi 0, vi 0, vi 0]) (m := 20) hS7 K12 K2 K44 rfl (mpc rfl (mpc rfl (mpc rfl (mpc rfl mpn)))) rfl rfl rfl (by kernel_rfl) (by kernel_rfl) rfl) ?_
   rintro _ w_9 ⟨b4, rfl, hS12⟩
   refine sQ 2 (yg (.slice (aD b4) 4 4)) (rn (ct_ ?_))
   obtain rfl := sI hF3
   exact ret1 Tryz.results117 (v1 := .slice (aD b4) 4 4) (resAt_tmp rfl) ⟨aD b4, 4, rfl, (hS12.sN [3])⟩
  ·skip
   have hF4 := cf' hF2 hb1
   refine cq (cr ?_)
   refine sQ 27 (yE kind 3) <| sQ 26 (yg (.bool (kind == 3))) (rn ?_)
   refine cw_cond (b := (kind == 3)) rfl (fun hb2 => ?_) (fun hb2 => ?_)
   ·skip
    have hF5 := ct hF4 hb2
    refine cq ?_
    obtain ⟨r_3, hc2, hF5⟩ := bI hF5
    obtain ⟨r_4, hc3, hF5⟩ := bI hF5
    refine ra_start (hS7.se [0, 1, 2]).fn (by kernel_rfl) ?_
    have hS15 := hS7.drew
    refine rq 0 28 (v := gZ_) rfl (hS15.se [0, 1, 2]) (fun w' hw' => (yb (aD b1) 0 kZ_ K5 K2 (ST.cf hw' (i := 1) rfl))) ?_
    refine rq 3 31 (v := gZ_) rfl (hS15.se [0, 1, 2]) (fun w' hw' => (yb (aD b1) 0 kZ_ K5 K2 (ST.cf hw' (i := 1) rfl))) ?_
    refine rA [1] ?_
    refine rC 29 1 rfl (yC [vi 6] K46 (c_spec_l2Power 6 _  (hS15.inn0 [] rfl) hc2)) ?_ ?_
    ·rintro _ w_10 ⟨rfl, hd2⟩
     have hS16 := hS15.out00 hd2
     refine ⟨(hS16.se [0, 1, 2]), ?_⟩
     refine rA [2] ?_
     refine rC 30 2 rfl (yC [vi 2] K46 (c_spec_l2Power 2 _  (hS16.inn0 [] rfl) hc3)) ?_ ?_
     ·rintro _ w_11 ⟨rfl, hd3⟩
      have hS17 := hS16.out00 hd3
      refine ⟨(hS17.se [0, 1, 2]), ?_⟩
      refine rA [4] ?_
      refine rS 32 4 rfl (Ys_bslice (s := 5) (len := 4) (vs := [(0, gZ_), (1, gD_ r_3), (2, gD_ r_4), (3, gZ_)]) (cs := [vi 0, vi 0, vi 0, vi 0, vi 0, vi r_3.Num.A, vi r_3.Num.B, vi r_3.Num.C, vi r_3.Num.D, vi r_3.Exp, vi r_4.Num.A, vi r_4.Num.B, vi r_4.Num.C, vi r_4.Num.D, vi r_4.Exp, vi 0, vi 0, vi 0, vi 0, vi 0]) (zs := [vi 0, vi 0, vi 0, vi 0, vi 0, vi 0, vi 0, vi 0, vi 0, vi 0, vi 0, vi 0, vi 0, vi 0, vi 0, vi 0, vi 0, vi 0, vi 0, vi 0]) (m := 20) hS17 K12 K2 K44 rfl (mpc rfl (mpc rfl (mpc rfl (mpc rfl mpn)))) rfl rfl rfl (by kernel_rfl) (by kernel_rfl) rfl) ?_ ?_
      ·rintro _ w_12 ⟨b5, rfl, hS18⟩
       refine ⟨(hS18.se [0, 1, 2]), ?_⟩
       refine rq 5 2 (v := .slice (aD b5) 4 4) rfl (hS18.se [0, 1, 2]) (fun w' hw' => (yg (.slice (aD b5) 4 4))) ?_
       refine ra_done (by kernel_rfl) ?_
       refine ct_ ?_
       obtain rfl := sI hF5
       exact ret1 Tryz.results117 (v1 := .slice (aD b5) 4 4) (resAt_tmp rfl) ⟨aD b5, 4, rfl, (hS18.sN [3])⟩
      exact aN
     exact aN
    exact aN
   ·skip
    have hF6 := cf' hF4 hb2
    refine cw_skip (cq ?_)
    obtain ⟨x, hx, hF6⟩ := bI hF6
    obtain ⟨r_5, hc4, hF6⟩ := bI hF6
    refine ra_start (hS7.se [0, 1, 2]).fn (by kernel_rfl) ?_
    have hS20 := hS7.drew
    refine rq 0 33 (v := gD_ r_1) rfl (hS20.se [0, 1, 2]) (fun w' hw' => (yb (aD b) 0 (kD_ r_1) K5 K2 (ST.cf hw' (i := 0) rfl))) ?_
    refine rq 1 34 (v := gZ_) rfl (hS20.se [0, 1, 2]) (fun w' hw' => (yb (aD b1) 0 kZ_ K5 K2 (ST.cf hw' (i := 1) rfl))) ?_
    refine rq 2 35 (v := gZ_) rfl (hS20.se [0, 1, 2]) (fun w' hw' => (yb (aD b1) 0 kZ_ K5 K2 (ST.cf hw' (i := 1) rfl))) ?_
    refine rq 4 37 (v := vi kind) rfl (hS20.se [0, 1, 2]) (fun w' hw' => (ym (vi kind))) ?_
    refine rq 5 38 (v := vi (i64.wrap (kind - 4))) rfl (hS20.se [0, 1, 2]) (fun w' hw' => (yM kind 4)) ?_
    refine rA [3] ?_
    refine rS 36 3 rfl (Ys_bslice (s := 1) (len := 5) (vs := [(0, vi 4), (1, vi 2), (2, vi 6), (3, vi 1), (4, vi 7)]) (cs := [vi 4, vi 2, vi 6, vi 1, vi 7]) (zs := kZ_) (m := 5) hS20 K27 K0 K38 rfl (mpc rfl (mpc rfl (mpc rfl (mpc rfl (mpc rfl mpn))))) rfl rfl rfl (by kernel_rfl) (by kernel_rfl) rfl) ?_ ?_
    ·rintro _ w_13 ⟨b6, rfl, hS21⟩
     refine ⟨(hS21.se [0, 1, 2]), ?_⟩
     refine rA [6] ?_
     refine ra_y 39 (i := 6) (v := pt (aD b6) ((i64.wrap (kind - 4)).toNat * 1)) rfl rfl rfl (Y_index (B := aD b6) (m := 5) (c := 5) (k := .i64) (i := (i64.wrap (kind - 4))) K27 K0 rfl rfl rfl (gi_isSome encI_len rfl (hS21.c 3) hx) (getI_nn hx) (getI_ltI hx rfl)) (hS21.se [0, 1, 2]) ?_ ?_
     ·skip
      refine rA [7] ?_
      refine ra_y 40 (i := 7) (v := vi x) rfl rfl rfl (yl (aD b6) ((i64.wrap (kind - 4)).toNat * 1) ([4, 2, 6, 1, 7].flatMap encI) (vi x) K1 (hS21.c 3) rfl rfl (gi_at0 encI_len hx rfl)) (hS21.se [0, 1, 2]) ?_ ?_
      ·skip
       refine rA [8] ?_
       refine rC 41 8 rfl (yC [vi x] K46 (c_spec_l2Power x _  (hS21.inn0 [] rfl) hc4)) ?_ ?_
       ·rintro _ w_14 ⟨rfl, hd4⟩
        have hS22 := hS21.out00 hd4
        refine ⟨(hS22.se [0, 1, 2]), ?_⟩
        refine rA [9] ?_
        refine rS 42 9 rfl (Ys_bslice (s := 5) (len := 4) (vs := [(0, gD_ r_1), (1, gZ_), (2, gZ_), (3, gD_ r_5)]) (cs := [vi r_1.Num.A, vi r_1.Num.B, vi r_1.Num.C, vi r_1.Num.D, vi r_1.Exp, vi 0, vi 0, vi 0, vi 0, vi 0, vi 0, vi 0, vi 0, vi 0, vi 0, vi r_5.Num.A, vi r_5.Num.B, vi r_5.Num.C, vi r_5.Num.D, vi r_5.Exp]) (zs := [vi 0, vi 0, vi 0, vi 0, vi 0, vi 0, vi 0, vi 0, vi 0, vi 0, vi 0, vi 0, vi 0, vi 0, vi 0, vi 0, vi 0, vi 0, vi 0, vi 0]) (m := 20) hS22 K12 K2 K44 rfl (mpc rfl (mpc rfl (mpc rfl (mpc rfl mpn)))) rfl rfl rfl (by kernel_rfl) (by kernel_rfl) rfl) ?_ ?_
        ·rintro _ w_15 ⟨b7, rfl, hS23⟩
         refine ⟨(hS23.se [0, 1, 2]), ?_⟩
         refine rq 10 2 (v := .slice (aD b7) 4 4) rfl (hS23.se [0, 1, 2]) (fun w' hw' => (yg (.slice (aD b7) 4 4))) ?_
         refine ra_done (by kernel_rfl) ?_
         refine ct_ ?_
         obtain rfl := sI hF6
         exact ret1 Tryz.results117 (v1 := .slice (aD b7) 4 4) (resAt_tmp rfl) ⟨aD b7, 4, rfl, (hS23.sN [4])⟩
        exact aN
       exact aN
      exact aN
     exact aN
    exact aN

theorem c_spec_l6Cell (n : Int) (g : TGate) (row : Int) (col : Int)  (w0 : World)  (hS : ST w0 [] w0 [] []) {r_ : TDyadic} (hF : F_spec_l6Cell n g row col = some r_) :
  CV Tryz.prog 115 #[vi n, .agg #[vi g.Kind, vi g.A, vi g.B], vi row, vi col] w0 (fun v w' => v = (gD_ r_) ∧ ST w0 [] w' [] []) := by
 unfold F_spec_l6Cell at hF
 refine cv_of_cw 119 Tryz.func115 rfl Tryz.ntmps115 rfl ?_
 refine cq (cr ?_)
 refine sS 5 (yB 116 (.agg #[vi g.Kind, vi g.A, vi g.B]) [vi g.Kind, vi g.A, vi g.B] 3 hS) ?_
 rintro _ w_ ⟨b, rfl, hS1⟩
 refine sS 8 (yN kZ_ 5 hS1 K6) ?_
 rintro _ w_1 ⟨b1, rfl, hS2⟩
 refine rn (cq (cr ?_))
 obtain ⟨r_1, hc, hF⟩ := bI hF
 refine sc 12 rfl rfl (yC [vi 0] K46 (c_spec_l2Power 0 _  (hS2.inn0 [] rfl) hc)) ?_
 rintro _ w_2 ⟨rfl, hd⟩
 have hS3 := hS2.out00 hd
 refine sQ 13 (Y_buildS (zs := kZ_) (vs := []) (cs := kZ_) K21 K6 rfl mpn rfl) ?_
 refine sS 9 (yN kZ_ 5 hS3 K6) ?_
 rintro _ w_3 ⟨b2, rfl, hS4⟩
 refine sS 10 (yN kZ_ 5 hS4 K6) ?_
 rintro _ w_4 ⟨b3, rfl, hS5⟩
 refine s0 (yT 2 5 (aD b2) 51 (gD_ r_1) (kD_ r_1) 0 hS5 K2) ?_
 rintro _ w_5 ⟨rfl, hS6⟩
 refine s0 (yT 3 5 (aD b3) 51 gZ_ kZ_ 0 hS6 K2) ?_
 rintro _ w_6 ⟨rfl, hS7⟩
 refine rn (cq (cr ?_))
 refine sQ 14 (ym (vi col)) <| sQ 11 (yg (vi col)) (rn (cq ?_))
 obtain ⟨z, hz, hF1⟩ := bI hF
 refine cw_mid (fun f w => ∃ (A : Int) (B : Int) (C : Int) (D : Int) (Exp : Int) (to_ : Int), .inl (A, B, C, D, Exp, to_) = z ∧ FF f [(2, vi row), (8, pt (aD b1) 0), (9, pt (aD b2) 0), (10, pt (aD b3) 0), (11, vi to_)] ∧ ST w0 [] w [⟨aD b1, 51, kZ_, 5⟩, ⟨aD b2, 51, [vi A, vi B, vi C, vi D, vi Exp], 5⟩, ⟨aD b3, 51, kZ_, 5⟩] []) ?_ ?_
 ·skip
  refine cq (cr ?_)
  refine sQ 15 (yd (aD b) 0 0 K99 K0) <| sQ 16 (yl (aD b) 0 [vi g.Kind, vi g.A, vi g.B] (vi g.Kind) K1 (hS7.c 0)) (rn (cw_block (cq (cr ?_))))
  refine sQ 48 (yE g.Kind 12) <| sQ 47 (yg (.bool (g.Kind == 12))) (rn ?_)
  refine cw_cond (b := (g.Kind == 12)) rfl (fun hb => ?_) (fun hb => ?_)
  ·skip
   have hF2 := ct hz hb
   refine cr ?_
   obtain ⟨r_2, hc1, hF2⟩ := bI hF2
   refine sc 49 rfl rfl (yC [vi 1] K46 (c_spec_l2Power 1 _  (hS7.inn0 [] rfl) hc1)) ?_
   rintro _ w_7 ⟨rfl, hd1⟩
   have hS9 := hS7.out00 hd1
   refine s0 (yT 2 5 (aD b2) 51 (gD_ r_2) (kD_ r_2) 0 hS9 K2) ?_
   rintro _ w_8 ⟨rfl, hS10⟩
   refine rn ?_
   exact ⟨r_2.Num.A, r_2.Num.B, r_2.Num.C, r_2.Num.D, r_2.Exp, col, (sI hF2), (fc rfl (fc rfl (fc rfl (fc rfl (fc rfl fn_))))), (hS10.sel [1, 2, 3] rfl rfl)⟩
  ·skip
   have hF3 := cf' hz hb
   refine cq (cr ?_)
   refine sQ 51 (yE g.Kind 9) <| sQ 50 (yg (.bool (g.Kind == 9))) (rn ?_)
   refine cw_cond (b := (g.Kind == 9)) rfl (fun hb1 => ?_) (fun hb1 => ?_)
   ·skip
    have hF4 := ct hF3 hb1
    refine cq (cr ?_)
    refine sQ 52 (ym (vi n)) <| sQ 53 (ym (vi col)) <| sQ 54 (yd (aD b) 0 0 K53 K0) <| sQ 55 (yl (aD b) 1 [vi g.Kind, vi g.A, vi g.B] (vi g.A) K1 (hS7.c 0)) ?_
    obtain ⟨r_3, hc2, hF4⟩ := bI hF4
    refine sc 56 rfl rfl (yC [vi n, vi col, vi g.A] K67 (c_spec_l6Bit n col g.A _  (hS7.inn0 [] rfl) hc2)) ?_
    rintro _ w_9 ⟨rfl, hd2⟩
    have hS11 := hS7.out00 hd2
    refine sQ 57 (yE r_3 1) (rn ?_)
    refine cw_cond (b := (r_3 == 1)) rfl (fun hb2 => ?_) (fun hb2 => ?_)
    ·skip
     have hF5 := ct hF4 hb2
     refine cr ?_
     refine sQ 58 (ym (vi col)) <| sQ 59 (ym (vi n)) <| sQ 60 (yM n 1) <| sQ 61 (yd (aD b) 0 0 K78 K0) <| sQ 62 (yl (aD b) 2 [vi g.Kind, vi g.A, vi g.B] (vi g.B) K1 (hS11.c 0)) <| sQ 63 (yM (i64.wrap (n - 1)) g.B) ?_
     refine sQ 64 (Y_conv (k := .i64) (a := (i64.wrap ((i64.wrap (n - 1)) - g.B))) (T := 3) (T' := 113) K54 K66 rfl rfl) ?_
     obtain ⟨hsh, hF5⟩ := chk_inv hF5
     refine sQ 65 (Y_shl (k := .i64) (a := 1) (k' := .u64) (b := (IntKind.u64.wrap (i64.wrap ((i64.wrap (n - 1)) - g.B)))) rfl rfl rfl hsh) <| sQ 66 (Y_bxor (k := .i64) (a := col) (b := (shlK .i64 1 (IntKind.u64.wrap (i64.wrap ((i64.wrap (n - 1)) - g.B))))) rfl rfl rfl) <| sQ 11 (yg (vi (bits .xor .i64 col (shlK .i64 1 (IntKind.u64.wrap (i64.wrap ((i64.wrap (n - 1)) - g.B))))))) (rn ?_)
     exact ⟨r_1.Num.A, r_1.Num.B, r_1.Num.C, r_1.Num.D, r_1.Exp, (bits .xor .i64 col (shlK .i64 1 (IntKind.u64.wrap (i64.wrap ((i64.wrap (n - 1)) - g.B))))), (sI hF5), (fc rfl (fc rfl (fc rfl (fc rfl (fc rfl fn_))))), (hS11.sel [1, 2, 3] rfl rfl)⟩
    ·skip
     have hF6 := cf' hF4 hb2
     refine cw_skip ?_
     exact ⟨r_1.Num.A, r_1.Num.B, r_1.Num.C, r_1.Num.D, r_1.Exp, col, (sI hF6), (fc rfl (fc rfl (fc rfl (fc rfl (fc rfl fn_))))), (hS11.sel [1, 2, 3] rfl rfl)⟩
   ·skip
    have hF7 := cf' hF3 hb1
    refine cq (cr ?_)
    refine sQ 68 (yE g.Kind 10) <| sQ 67 (yg (.bool (g.Kind == 10))) (rn ?_)
    refine cw_cond (b := (g.Kind == 10)) rfl (fun hb3 => ?_) (fun hb3 => ?_)
    ·skip
     have hF8 := ct hF7 hb3
     refine cq (cr ?_)
     refine sQ 69 (ym (vi n)) <| sQ 70 (ym (vi col)) <| sQ 71 (yd (aD b) 0 0 K53 K0) <| sQ 72 (yl (aD b) 1 [vi g.Kind, vi g.A, vi g.B] (vi g.A) K1 (hS7.c 0)) ?_
     obtain ⟨r_4, hc3, hF8⟩ := bI hF8
     refine sc 73 rfl rfl (yC [vi n, vi col, vi g.A] K67 (c_spec_l6Bit n col g.A _  (hS7.inn0 [] rfl) hc3)) ?_
     rintro _ w_10 ⟨rfl, hd3⟩
     have hS12 := hS7.out00 hd3
     refine sQ 74 (yE r_4 1) <| sQ 75 (ym (.bool (r_4 == 1))) ?_
     refine sgq 76 (B := (r_4 == 1)) (v := vi n) rfl rfl (uT_ 75) (fun hg => (ym (vi n))) ?_
     refine sgq 77 (B := (r_4 == 1)) (v := vi col) rfl rfl (uT_ 75) (fun hg1 => (ym (vi col))) ?_
     refine sgq 78 (B := (r_4 == 1)) (v := pt (aD b) 2) rfl rfl (uT_ 75) (fun hg2 => (yd (aD b) 0 0 K78 K0)) ?_
     refine sgq 79 (B := (r_4 == 1)) (v := vi g.B) rfl rfl (uT_ 75) (fun hg3 => (yl (aD b) 2 [vi g.Kind, vi g.A, vi g.B] (vi g.B) K1 (hS12.c 0) rfl (gv_of (v := pt (aD b) 2) hg3))) ?_
     obtain ⟨r_5, hc4, hF8⟩ := bI hF8
     refine sgc 80 (B := (r_4 == 1)) (v := vi r_5) (F := hS12.fn) rfl rfl (uT_ 75) hS12 (fun hg4 => (yC [vi n, vi col, vi g.B] K67 (CV.mono (c_spec_l6Bit n col g.B _  (hS12.inn0 [] rfl) (gb_inv hc4 hg4)) (by rintro _ _ ⟨rfl, h⟩; exact ⟨rfl, hS12.out00 h⟩)) rfl (mc (gv_of (v := vi n) hg4) (mc (gv_of (v := vi col) hg4) (mc (gv_of (v := vi g.B) hg4) mn))))) ?_
     rintro w_11 hS13
     refine sgq 81 (B := (r_4 == 1)) (v := .bool (r_5 == 1)) rfl rfl (uT_ 75) (fun hg5 => (yE r_5 1 rfl (gv_of (v := vi r_5) hg5))) ?_
     refine sQ 82 (Y_and (b := (r_4 == 1)) (z := (r_5 == 1)) rfl rfl rfl rfl) (rn ?_)
     refine cw_cond (b := ((r_4 == 1) && (r_5 == 1))) rfl (fun hb4 => ?_) (fun hb4 => ?_)
     ·skip
      have hF9 := ct hF8 hb4
      refine cr ?_
      obtain ⟨r_6, hc5, hF9⟩ := bI hF9
      refine sc 83 rfl rfl (yC [vi 4] K46 (c_spec_l2Power 4 _  (hS13.inn0 [] rfl) hc5)) ?_
      rintro _ w_12 ⟨rfl, hd4⟩
      have hS14 := hS13.out00 hd4
      refine s0 (yT 2 5 (aD b2) 51 (gD_ r_6) (kD_ r_6) 0 hS14 K2) ?_
      rintro _ w_13 ⟨rfl, hS15⟩
      refine rn ?_
      exact ⟨r_6.Num.A, r_6.Num.B, r_6.Num.C, r_6.Num.D, r_6.Exp, col, (sI hF9), (fc rfl (fc rfl (fc rfl (fc rfl (fc rfl fn_))))), (hS15.sel [1, 2, 3] rfl rfl)⟩
     ·skip
      have hF10 := cf' hF8 hb4
      refine cw_skip ?_
      exact ⟨r_1.Num.A, r_1.Num.B, r_1.Num.C, r_1.Num.D, r_1.Exp, col, (sI hF10), (fc rfl (fc rfl (fc rfl (fc rfl (fc rfl fn_))))), (hS13.sel [1, 2, 3] rfl rfl)⟩
    ·skip
     have hF11 := cf' hF7 hb3
     refine cq (cr ?_)
     refine sQ 85 (yE g.Kind 11) <| sQ 84 (yg (.bool (g.Kind == 11))) (rn ?_)
     refine cw_cond (b := (g.Kind == 11)) rfl (fun hb5 => ?_) (fun hb5 => ?_)
     ·skip
      have hF12 := ct hF11 hb5
      refine cq ?_
      obtain ⟨r_7, hc6, hF12⟩ := bI hF12
      obtain ⟨r_8, hc7, hF12⟩ := bI hF12
      refine ra_start (hS7.se [0, 1, 2, 3]).fn (by kernel_rfl) ?_
      have hS18 := hS7.drew
      refine rq 0 86 (v := vi n) rfl (hS18.se [0, 1, 2, 3]) (fun w' hw' => (ym (vi n))) ?_
      refine rq 1 87 (v := vi col) rfl (hS18.se [0, 1, 2, 3]) (fun w' hw' => (ym (vi col))) ?_
      refine rq 2 88 (v := pt (aD b) 1) rfl (hS18.se [0, 1, 2, 3]) (fun w' hw' => (yd (aD b) 0 0 K53 K0)) ?_
      refine rq 3 89 (v := vi g.A) rfl (hS18.se [0, 1, 2, 3]) (fun w' hw' => (yl (aD b) 1 [vi g.Kind, vi g.A, vi g.B] (vi g.A) K1 (ST.cf hw' (i := 0) rfl))) ?_
      refine rq 5 91 (v := vi n) rfl (hS18.se [0, 1, 2, 3]) (fun w' hw' => (ym (vi n))) ?_
      refine rq 6 92 (v := vi col) rfl (hS18.se [0, 1, 2, 3]) (fun w' hw' => (ym (vi col))) ?_
      refine rq 7 93 (v := pt (aD b) 2) rfl (hS18.se [0, 1, 2, 3]) (fun w' hw' => (yd (aD b) 0 0 K78 K0)) ?_
      refine rq 8 94 (v := vi g.B) rfl (hS18.se [0, 1, 2, 3]) (fun w' hw' => (yl (aD b) 2 [vi g.Kind, vi g.A, vi g.B] (vi g.B) K1 (ST.cf hw' (i := 0) rfl))) ?_
      refine rA [4] ?_
      refine rC 90 4 rfl (yC [vi n, vi col, vi g.A] K67 (c_spec_l6Bit n col g.A _  (hS18.inn0 [] rfl) hc6)) ?_ ?_
      ·rintro _ w_14 ⟨rfl, hd5⟩
       have hS19 := hS18.out00 hd5
       refine ⟨(hS19.se [0, 1, 2, 3]), ?_⟩
       refine rA [9] ?_
       refine rC 95 9 rfl (yC [vi n, vi col, vi g.B] K67 (c_spec_l6Bit n col g.B _  (hS19.inn0 [] rfl) hc7)) ?_ ?_
       ·rintro _ w_15 ⟨rfl, hd6⟩
        have hS20 := hS19.out00 hd6
        refine ⟨(hS20.se [0, 1, 2, 3]), ?_⟩
        refine rq 10 96 (v := .bool (r_7 != r_8)) rfl (hS20.se [0, 1, 2, 3]) (fun w' hw' => (Y_ne (k := .i64) (a := r_7) (b := r_8) rfl rfl rfl)) ?_
        refine ra_done (by kernel_rfl) ?_
        refine cw_cond (b := (r_7 != r_8)) rfl (fun hb6 => ?_) (fun hb6 => ?_)
        ·skip
         have hF13 := ct hF12 hb6
         refine cr ?_
         refine sQ 97 (ym (vi col)) <| sQ 98 (ym (vi n)) <| sQ 99 (yM n 1) <| sQ 100 (yd (aD b) 0 0 K53 K0) <| sQ 101 (yl (aD b) 1 [vi g.Kind, vi g.A, vi g.B] (vi g.A) K1 (hS20.c 0)) <| sQ 102 (yM (i64.wrap (n - 1)) g.A) ?_
         refine sQ 103 (Y_conv (k := .i64) (a := (i64.wrap ((i64.wrap (n - 1)) - g.A))) (T := 3) (T' := 113) K54 K66 rfl rfl) ?_
         obtain ⟨hsh1, hF13⟩ := chk_inv hF13
         refine sQ 104 (Y_shl (k := .i64) (a := 1) (k' := .u64) (b := (IntKind.u64.wrap (i64.wrap ((i64.wrap (n - 1)) - g.A)))) rfl rfl rfl hsh1) <| sQ 105 (Y_bxor (k := .i64) (a := col) (b := (shlK .i64 1 (IntKind.u64.wrap (i64.wrap ((i64.wrap (n - 1)) - g.A))))) rfl rfl rfl) <| sQ 106 (ym (vi n)) <| sQ 107 (yM n 1) <| sQ 108 (yd (aD b) 0 0 K78 K0) <| sQ 109 (yl (aD b) 2 [vi g.Kind, vi g.A, vi g.B] (vi g.B) K1 (hS20.c 0)) ?_
         refine sQ 110 (yM (i64.wrap (n - 1)) g.B) <| sQ 111 (Y_conv (k := .i64) (a := (i64.wrap ((i64.wrap (n - 1)) - g.B))) (T := 3) (T' := 113) K54 K66 rfl rfl) ?_
         obtain ⟨hsh2, hF13⟩ := chk_inv hF13
         refine sQ 112 (Y_shl (k := .i64) (a := 1) (k' := .u64) (b := (IntKind.u64.wrap (i64.wrap ((i64.wrap (n - 1)) - g.B)))) rfl rfl rfl hsh2) <| sQ 113 (Y_bxor (k := .i64) (a := (bits .xor .i64 col (shlK .i64 1 (IntKind.u64.wrap (i64.wrap ((i64.wrap (n - 1)) - g.A)))))) (b := (shlK .i64 1 (IntKind.u64.wrap (i64.wrap ((i64.wrap (n - 1)) - g.B))))) rfl rfl rfl) <| sQ 11 (yg (vi (bits .xor .i64 (bits .xor .i64 col (shlK .i64 1 (IntKind.u64.wrap (i64.wrap ((i64.wrap (n - 1)) - g.A))))) (shlK .i64 1 (IntKind.u64.wrap (i64.wrap ((i64.wrap (n - 1)) - g.B))))))) (rn ?_)
         exact ⟨r_1.Num.A, r_1.Num.B, r_1.Num.C, r_1.Num.D, r_1.Exp, (bits .xor .i64 (bits .xor .i64 col (shlK .i64 1 (IntKind.u64.wrap (i64.wrap ((i64.wrap (n - 1)) - g.A))))) (shlK .i64 1 (IntKind.u64.wrap (i64.wrap ((i64.wrap (n - 1)) - g.B))))), (sI hF13), (fc rfl (fc rfl (fc rfl (fc rfl (fc rfl fn_))))), (hS20.sel [1, 2, 3] rfl rfl)⟩
        ·skip
         have hF14 := cf' hF12 hb6
         refine cw_skip ?_
         exact ⟨r_1.Num.A, r_1.Num.B, r_1.Num.C, r_1.Num.D, r_1.Exp, col, (sI hF14), (fc rfl (fc rfl (fc rfl (fc rfl (fc rfl fn_))))), (hS20.sel [1, 2, 3] rfl rfl)⟩
       exact aN
      exact aN
     ·skip
      have hF15 := cf' hF11 hb5
      refine cq (cq (cr ?_))
      refine sQ 17 (ym (vi row)) <| sQ 18 (ym (vi col)) <| sQ 19 (Y_bxor (k := .i64) (a := row) (b := col) rfl rfl rfl) <| sQ 20 (ym (vi n)) <| sQ 21 (yM n 1) <| sQ 22 (yd (aD b) 0 0 K53 K0) ?_
      refine sQ 23 (yl (aD b) 1 [vi g.Kind, vi g.A, vi g.B] (vi g.A) K1 (hS7.c 0)) <| sQ 24 (yM (i64.wrap (n - 1)) g.A) <| sQ 25 (Y_conv (k := .i64) (a := (i64.wrap ((i64.wrap (n - 1)) - g.A))) (T := 3) (T' := 113) K54 K66 rfl rfl) ?_
      obtain ⟨hsh3, hF15⟩ := chk_inv hF15
      refine sQ 26 (Y_shl (k := .i64) (a := 1) (k' := .u64) (b := (IntKind.u64.wrap (i64.wrap ((i64.wrap (n - 1)) - g.A)))) rfl rfl rfl hsh3) <| sQ 27 (Y_bandNot (k := .i64) (a := (bits .xor .i64 row col)) (b := (shlK .i64 1 (IntKind.u64.wrap (i64.wrap ((i64.wrap (n - 1)) - g.A))))) rfl rfl rfl) <| sQ 28 (Y_ne (k := .i64) (a := (bits .andNot .i64 (bits .xor .i64 row col) (shlK .i64 1 (IntKind.u64.wrap (i64.wrap ((i64.wrap (n - 1)) - g.A)))))) (b := 0) rfl rfl rfl) (rn ?_)
      refine cw_cond (b := ((bits .andNot .i64 (bits .xor .i64 row col) (shlK .i64 1 (IntKind.u64.wrap (i64.wrap ((i64.wrap (n - 1)) - g.A))))) != 0)) rfl (fun hb7 => ?_) (fun hb7 => ?_)
      ·skip
       have hF16 := ct hF15 hb7
       refine cq (cr ?_)
       refine sQ 29 (yb (aD b3) 0 kZ_ K5 K2 (hS7.c 3)) ?_
       refine s0 (yT 1 5 (aD b1) 51 gZ_ kZ_ 0 hS7 K2) ?_
       rintro _ w_16 ⟨rfl, hS21⟩
       refine rn (ct_ ?_)
       obtain rfl := sI hF16
       obtain rfl := sI hF1
       exact ret1 Tryz.results115 (v1 := gZ_) (resAt_cellA (B := aD b1) (i := 0) (cs := kZ_) (vs := kZ_) rfl K5 K2 (hS21.c 1) rfl rfl) ⟨rfl, (hS21.sN [])⟩
      ·skip
       have hF17 := cf' hF15 hb7
       refine cw_skip (cq ?_)
       obtain ⟨r_9, hc8, hF17⟩ := bI hF17
       obtain ⟨r_10, hc9, hF17⟩ := bI hF17
       obtain ⟨r_11, hc10, hF17⟩ := bI hF17
       obtain ⟨x, hx, hF17⟩ := bI hF17
       refine ra_start (hS7.se [0, 2, 3]).fn (by kernel_rfl) ?_
       have hS25 := hS7.drew
       refine rq 0 30 (v := pt (aD b) 0) rfl (hS25.se [0, 2, 3]) (fun w' hw' => (yd (aD b) 0 0 K99 K0)) ?_
       refine rq 1 31 (v := vi g.Kind) rfl (hS25.se [0, 2, 3]) (fun w' hw' => (yl (aD b) 0 [vi g.Kind, vi g.A, vi g.B] (vi g.Kind) K1 (ST.cf hw' (i := 0) rfl))) ?_
       refine rq 3 33 (v := vi n) rfl (hS25.se [0, 2, 3]) (fun w' hw' => (ym (vi n))) ?_
       refine rq 4 34 (v := vi row) rfl (hS25.se [0, 2, 3]) (fun w' hw' => (ym (vi row))) ?_
       refine rq 5 35 (v := pt (aD b) 1) rfl (hS25.se [0, 2, 3]) (fun w' hw' => (yd (aD b) 0 0 K53 K0)) ?_
       refine rq 6 36 (v := vi g.A) rfl (hS25.se [0, 2, 3]) (fun w' hw' => (yl (aD b) 1 [vi g.Kind, vi g.A, vi g.B] (vi g.A) K1 (ST.cf hw' (i := 0) rfl))) ?_
       refine rq 9 39 (v := vi n) rfl (hS25.se [0, 2, 3]) (fun w' hw' => (ym (vi n))) ?_
       refine rq 10 40 (v := vi col) rfl (hS25.se [0, 2, 3]) (fun w' hw' => (ym (vi col))) ?_
       refine rq 11 41 (v := pt (aD b) 1) rfl (hS25.se [0, 2, 3]) (fun w' hw' => (yd (aD b) 0 0 K53 K0)) ?_
       refine rq 12 42 (v := vi g.A) rfl (hS25.se [0, 2, 3]) (fun w' hw' => (yl (aD b) 1 [vi g.Kind, vi g.A, vi g.B] (vi g.A) K1 (ST.cf hw' (i := 0) rfl))) ?_
       refine rA [2] ?_
       refine rC 32 2 rfl (yC [vi g.Kind] k_call_117 (c_spec_l6One g.Kind _  (hS25.inn0 [] rfl) hc8)) ?_ ?_
       ·rintro _ w_17 ⟨B1, c, rfl, hd7⟩
        have hS26 := hS25.out0 hd7
        refine ⟨(hS26.se [0, 2, 3]), ?_⟩
        refine rA [7] ?_
        refine rC 37 7 rfl (yC [vi n, vi row, vi g.A] K67 (c_spec_l6Bit n row g.A _  (hS26.inn0 [] rfl) hc9)) ?_ ?_
        ·rintro _ w_18 ⟨rfl, hd8⟩
         have hS27 := hS26.out00 hd8
         refine ⟨(hS27.se [0, 2, 3]), ?_⟩
         refine rq 8 38 (v := vi (i64.wrap (2 * r_10))) rfl (hS27.se [0, 2, 3]) (fun w' hw' => (yX 2 r_10)) ?_
         refine rA [13] ?_
         refine rC 43 13 rfl (yC [vi n, vi col, vi g.A] K67 (c_spec_l6Bit n col g.A _  (hS27.inn0 [] rfl) hc10)) ?_ ?_
         ·rintro _ w_19 ⟨rfl, hd9⟩
          have hS28 := hS27.out00 hd9
          refine ⟨(hS28.se [0, 2, 3]), ?_⟩
          refine rq 14 44 (v := vi (i64.wrap ((i64.wrap (2 * r_10)) + r_11))) rfl (hS28.se [0, 2, 3]) (fun w' hw' => (yP (i64.wrap (2 * r_10)) r_11)) ?_
          refine rA [15] ?_
          refine ra_y 45 (i := 15) (v := pt B1 ((i64.wrap ((i64.wrap (2 * r_10)) + r_11)).toNat * 5)) rfl rfl rfl (Y_index (B := B1) (m := r_9.length) (c := c) (k := .i64) (i := (i64.wrap ((i64.wrap (2 * r_10)) + r_11))) K12 K2 rfl rfl rfl (gi_isSome eN1 rfl (hS28.c 4) hx) (getI_nn hx) (getI_ltI hx rfl)) (hS28.se [0, 2, 3]) ?_ ?_
          ·skip
           refine rA [16] ?_
           refine ra_y 46 (i := 16) (v := gD_ x) rfl rfl rfl (ya B1 ((i64.wrap ((i64.wrap (2 * r_10)) + r_11)).toNat * 5) (r_9.flatMap eN0) (kD_ x) K5 K2 (hS28.c 4) rfl rfl (eN1 x) (gi_seg eN1 hx)) (hS28.se [0, 2, 3]) ?_ ?_
           ·skip
            refine rA [17] ?_
            refine rZ 17 rfl (yT 1 5 (aD b1) 51 (gD_ x) (kD_ x) 0 hS28 K2) ?_ ?_
            ·rintro _ w_20 ⟨rfl, hS29⟩
             refine ⟨(hS29.se [0, 2, 3]), ?_⟩
             refine ra_done (by kernel_rfl) ?_
             refine ct_ ?_
             obtain rfl := sI hF17
             obtain rfl := sI hF1
             exact ret1 Tryz.results115 (v1 := gD_ x) (resAt_cellA (B := aD b1) (i := 0) (cs := kD_ x) (vs := kD_ x) rfl K5 K2 (hS29.c 1) rfl rfl) ⟨rfl, (hS29.sN [])⟩
            exact aN
           exact aN
          exact aN
         exact aN
        exact aN
       exact aN
 rintro f w ⟨A, B, C, D, Exp, to_, rfl, hf, hS8⟩
 refine cq (cq (cr ?_))
 refine sQ 114 (ym (vi row) rfl (hf.g 2 0)) <| sQ 115 (ym (vi to_) rfl (hf.g 11 4)) <| sQ 116 (yE row to_) (rn ?_)
 refine cw_cond (b := (row == to_)) rfl (fun hb8 => ?_) (fun hb8 => ?_)
 ·skip
  have hF18 := ct hF1 hb8
  refine cq (cr ?_)
  refine sQ 117 (yb (aD b2) 0 [vi A, vi B, vi C, vi D, vi Exp] K5 K2 (hS8.c 1) rfl (hf.g 9 2)) ?_
  refine s0 (yT 0 5 (aD b1) 51 (.agg #[vi A, vi B, vi C, vi D, vi Exp]) [vi A, vi B, vi C, vi D, vi Exp] 0 hS8 K2 rfl (hf.g 8 1)) ?_
  rintro _ w_21 ⟨rfl, hS30⟩
  refine rn (ct_ ?_)
  obtain rfl := sI hF18
  exact ret1 Tryz.results115 (v1 := .agg #[vi A, vi B, vi C, vi D, vi Exp]) (resAt_cellA (B := aD b1) (i := 0) (cs := [vi A, vi B, vi C, vi D, vi Exp]) (vs := [vi A, vi B, vi C, vi D, vi Exp]) (hf.g 8 1) K5 K2 (hS30.c 0) rfl rfl) ⟨rfl, (hS30.sN [])⟩
 ·skip
  have hF19 := cf' hF1 hb8
  refine cw_skip (cq (cr ?_))
  refine sQ 118 (yb (aD b3) 0 kZ_ K5 K2 (hS8.c 2) rfl (hf.g 10 3)) ?_
  refine s0 (yT 0 5 (aD b1) 51 gZ_ kZ_ 0 hS8 K2 rfl (hf.g 8 1)) ?_
  rintro _ w_22 ⟨rfl, hS31⟩
  refine rn (ct_ ?_)
  obtain rfl := sI hF19
  exact ret1 Tryz.results115 (v1 := gZ_) (resAt_cellA (B := aD b1) (i := 0) (cs := kZ_) (vs := kZ_) (hf.g 8 1) K5 K2 (hS31.c 0) rfl rfl) ⟨rfl, (hS31.sN [])⟩

theorem c_spec_l6Gate (n : Int) (g : TGate)  (w0 : World)  (hS : ST w0 [] w0 [] []) {r_ : TMatrix} (hF : F_spec_l6Gate n g = some r_) :
  CV Tryz.prog 112 #[vi n, .agg #[vi g.Kind, vi g.A, vi g.B]] w0 (fun v w' => ∃ (B : Option Addr) (c : Nat), v = (gM_ r_ B c) ∧ ST w0 [] w' [⟨B, 51, (r_.Cells.flatMap eN0), c * 5⟩] []) := by
 unfold F_spec_l6Gate at hF
 refine cv_of_cw 36 Tryz.func112 rfl Tryz.ntmps112 rfl ?_
 refine cq (cr ?_)
 refine sS 3 (yB 116 (.agg #[vi g.Kind, vi g.A, vi g.B]) [vi g.Kind, vi g.A, vi g.B] 3 hS) ?_
 rintro _ w_ ⟨b, rfl, hS1⟩
 refine sS 4 (yN kN_ 3 hS1 K10) ?_
 rintro _ w_1 ⟨b1, rfl, hS2⟩
 refine rn (cq (cr ?_))
 refine sQ 9 (ym (vi n)) <| sQ 10 (Y_conv (k := .i64) (a := n) (T := 3) (T' := 113) K54 K66 rfl rfl) ?_
 obtain ⟨hsh, hF⟩ := chk_inv hF
 refine sQ 11 (Y_shl (k := .i64) (a := 1) (k' := .u64) (b := (IntKind.u64.wrap n)) rfl rfl rfl hsh) <| sQ 5 (yg (vi (shlK .i64 1 (IntKind.u64.wrap n)))) (rn (cq (cr ?_)))
 refine sQ 12 (ym (vi (shlK .i64 1 (IntKind.u64.wrap n)))) <| sQ 13 (ym (vi (shlK .i64 1 (IntKind.u64.wrap n)))) <| sQ 14 (Y_buildS (zs := kN_) (vs := [(0, vi (shlK .i64 1 (IntKind.u64.wrap n))), (1, vi (shlK .i64 1 (IntKind.u64.wrap n)))]) (cs := [vi (shlK .i64 1 (IntKind.u64.wrap n)), vi (shlK .i64 1 (IntKind.u64.wrap n)), .slice none 0 0]) K32 K10 rfl (mpc rfl (mpc rfl mpn)) rfl) ?_
 refine sS 6 (yN kN_ 3 hS2 K10) ?_
 rintro _ w_2 ⟨b2, rfl, hS3⟩
 refine s0 (yT 2 3 (aD b2) 34 (.agg #[vi (shlK .i64 1 (IntKind.u64.wrap n)), vi (shlK .i64 1 (IntKind.u64.wrap n)), .slice none 0 0]) [vi (shlK .i64 1 (IntKind.u64.wrap n)), vi (shlK .i64 1 (IntKind.u64.wrap n)), .slice none 0 0] 0 hS3 K4) ?_
 rintro _ w_3 ⟨rfl, hS4⟩
 refine rn (cq (cq (cr ?_)))
 refine sQ 7 (yg (vi 0)) (rn ?_)
 obtain ⟨hN, hF⟩ := chk_inv hF
 obtain ⟨z, hz, hF1⟩ := bI hF
 have hS6 := hS4.addNil 51
 refine cw_block ?_
 refine cw_loop (fun k f w => ∃ (i1 : Nat) (Cells : List TDyadic) (B1 : Option Addr) (c1 : Nat), FF f [(0, vi n), (3, pt (aD b) 0), (4, pt (aD b1) 0), (5, vi (shlK .i64 1 (IntKind.u64.wrap n))), (6, pt (aD b2) 0), (7, vi (i1 : Int))] ∧ ST w0 [] w [⟨aD b, 116, [vi g.Kind, vi g.A, vi g.B], 3⟩, ⟨aD b1, 34, kN_, 3⟩, ⟨aD b2, 34, [vi (shlK .i64 1 (IntKind.u64.wrap n)), vi (shlK .i64 1 (IntKind.u64.wrap n)), .slice B1 Cells.length c1], 3⟩, ⟨B1, 51, (Cells.flatMap eN0), c1 * 5⟩] [] ∧ i1 + k = (shlK .i64 1 (IntKind.u64.wrap n)).toNat ∧ forN (F_spec_l6Gate_l1 n g) k i1 Cells = some z) ((shlK .i64 1 (IntKind.u64.wrap n)).toNat) ⟨0, [], none, 0, (fc rfl (fc rfl (fc rfl (fc rfl (fc rfl (fc rfl fn_)))))), (hS6.sel [0, 1, 2, 3] rfl rfl), Nat.zero_add _, hz⟩ ?_
 rintro k_ f w ⟨i1, Cells, B1, c1, hf, hS5, hik, hL⟩
 refine cq (cq (cr ?_))
 refine sQ 15 (ym (vi (i1 : Int)) rfl (hf.g 7 5)) <| sQ 16 (ym (vi (shlK .i64 1 (IntKind.u64.wrap n))) rfl (hf.g 5 3)) <| sQ 17 (yL (i1 : Int) (shlK .i64 1 (IntKind.u64.wrap n))) (rn ?_)
 refine cw_cond (b := (decide ((i1 : Int) < (shlK .i64 1 (IntKind.u64.wrap n))))) rfl (fun hlt => ?_) (fun hlt => ?_)
 ·skip
  have hlt1 : i1 < (shlK .i64 1 (IntKind.u64.wrap n)).toNat := by have h := of_decide_eq_true hlt; omega
  obtain ⟨K9, rfl⟩ : ∃ k2, k_ = k2 + 1 := ⟨k_ - 1, by omega⟩
  obtain ⟨y, hb, hL1⟩ := forN_go hL
  unfold F_spec_l6Gate_l1 at hb
  refine cw_skip (cq (cw_block (cq (cr ?_))))
  refine sQ 8 (yg (vi 0)) (rn ?_)
  obtain ⟨hN1, hb⟩ := chk_inv hb
  obtain ⟨z1, hz1, hF2⟩ := bI hb
  refine cw_block ?_
  refine cw_loop (fun k f w => ∃ (j : Nat) (Cells1 : List TDyadic) (B2 : Option Addr) (c2 : Nat), FF f [(0, vi n), (3, pt (aD b) 0), (4, pt (aD b1) 0), (5, vi (shlK .i64 1 (IntKind.u64.wrap n))), (6, pt (aD b2) 0), (7, vi (i1 : Int)), (8, vi (j : Int))] ∧ ST w0 [] w [⟨aD b, 116, [vi g.Kind, vi g.A, vi g.B], 3⟩, ⟨aD b1, 34, kN_, 3⟩, ⟨aD b2, 34, [vi (shlK .i64 1 (IntKind.u64.wrap n)), vi (shlK .i64 1 (IntKind.u64.wrap n)), .slice B2 Cells1.length c2], 3⟩, ⟨B2, 51, (Cells1.flatMap eN0), c2 * 5⟩] [] ∧ j + k = (shlK .i64 1 (IntKind.u64.wrap n)).toNat ∧ forN (F_spec_l6Gate_l2 n g i1) k j Cells1 = some z1) ((shlK .i64 1 (IntKind.u64.wrap n)).toNat) ⟨0, Cells, B1, c1, (fc (hf.g 0 0) (fc (hf.g 3 1) (fc (hf.g 4 2) (fc (hf.g 5 3) (fc (hf.g 6 4) (fc (hf.g 7 5) (fc rfl fn_))))))), (hS5.sel [0, 1, 2, 3] rfl rfl), Nat.zero_add _, hz1⟩ ?_
  rintro K22 f w ⟨j, Cells1, B2, c2, hf1, hS7, hik1, hL2⟩
  refine cq (cq (cr ?_))
  refine sQ 20 (ym (vi (j : Int)) rfl (hf1.g 8 6)) <| sQ 21 (ym (vi (shlK .i64 1 (IntKind.u64.wrap n))) rfl (hf1.g 5 3)) <| sQ 22 (yL (j : Int) (shlK .i64 1 (IntKind.u64.wrap n))) (rn ?_)
  refine cw_cond (b := (decide ((j : Int) < (shlK .i64 1 (IntKind.u64.wrap n))))) rfl (fun hlt2 => ?_) (fun hlt2 => ?_)
  ·skip
   have hlt3 : j < (shlK .i64 1 (IntKind.u64.wrap n)).toNat := by have h := of_decide_eq_true hlt2; omega
   obtain ⟨K43, rfl⟩ : ∃ k2, K22 = k2 + 1 := ⟨K22 - 1, by omega⟩
   obtain ⟨y1, hb1, hL3⟩ := forN_go hL2
   unfold F_spec_l6Gate_l2 at hb1
   refine cw_skip (cq (cw_block ?_))
   obtain ⟨r_1, hc, hb1⟩ := bI hb1
   obtain ⟨hap, hb1⟩ := chk_inv hb1
   refine cw_mid (fun f w => ∃ (B4 : Option Addr) (c4 : Nat), FF f [(0, vi n), (3, pt (aD b) 0), (4, pt (aD b1) 0), (5, vi (shlK .i64 1 (IntKind.u64.wrap n))), (6, pt (aD b2) 0), (7, vi (i1 : Int)), (8, vi (j : Int))] ∧ ST w0 [] w [⟨aD b, 116, [vi g.Kind, vi g.A, vi g.B], 3⟩, ⟨aD b1, 34, kN_, 3⟩, ⟨aD b2, 34, [vi (shlK .i64 1 (IntKind.u64.wrap n)), vi (shlK .i64 1 (IntKind.u64.wrap n)), .slice B4 ((Cells1 ++ [r_1]).length) c4], 3⟩, ⟨B4, 51, ((Cells1 ++ [r_1]).flatMap eN0), c4 * 5⟩] []) ?_ ?_
   ·skip
    refine ra_start (hS7.se [0, 1]).fn (by kernel_rfl) ?_
    have hS10 := hS7.drew
    refine rq 0 25 (v := pt (aD b2) 2) rfl (hS10.se [0, 1]) (fun w' hw' => (yd (aD b2) 0 0 K15 K13 rfl (hf1.g 6 4))) ?_
    refine rq 2 27 (v := vi n) rfl (hS10.se [0, 1]) (fun w' hw' => (ym (vi n) rfl (hf1.g 0 0))) ?_
    refine rq 3 28 (v := .agg #[vi g.Kind, vi g.A, vi g.B]) rfl (hS10.se [0, 1]) (fun w' hw' => (yb (aD b) 0 [vi g.Kind, vi g.A, vi g.B] K59 K35 (ST.cf hw' (i := 0) rfl) rfl (hf1.g 3 1))) ?_
    refine rq 4 29 (v := vi (i1 : Int)) rfl (hS10.se [0, 1]) (fun w' hw' => (ym (vi (i1 : Int)) rfl (hf1.g 7 5))) ?_
    refine rq 5 30 (v := vi (j : Int)) rfl (hS10.se [0, 1]) (fun w' hw' => (ym (vi (j : Int)) rfl (hf1.g 8 6))) ?_
    refine rA [1, 6] ?_
    refine ra_y 26 (i := 1) (v := .slice B2 Cells1.length c2) rfl rfl rfl (yl (aD b2) 2 [vi (shlK .i64 1 (IntKind.u64.wrap n)), vi (shlK .i64 1 (IntKind.u64.wrap n)), .slice B2 Cells1.length c2] (.slice B2 Cells1.length c2) K16 (hS10.c 2)) (hS10.se [0, 1]) ?_ ?_
    ·skip
     refine rA [6] ?_
     refine rC 31 6 rfl (yC [vi n, .agg #[vi g.Kind, vi g.A, vi g.B], vi (i1 : Int), vi (j : Int)] k_call_115 (c_spec_l6Cell n g (i1 : Int) (j : Int) _  (hS10.inn0 [] rfl) hc)) ?_ ?_
     ·rintro _ w_4 ⟨rfl, hd⟩
      have hS11 := hS10.out00 hd
      refine ⟨(hS11.se [0, 1]), ?_⟩
      refine rA [7] ?_
      refine rS 32 7 rfl (Ys_bslice (s := 5) (len := 1) (vs := [(0, gD_ r_1)]) (cs := kD_ r_1) (zs := kZ_) (m := 5) hS11 K12 K2 K44 rfl (mpc rfl mpn) rfl rfl rfl (by kernel_rfl) (by kernel_rfl) rfl) ?_ ?_
      ·rintro _ w_5 ⟨b3, rfl, hS12⟩
       refine ⟨(hS12.se [0, 1]), ?_⟩
       refine rA [8] ?_
       refine rS 33 8 rfl (Ys_append (s := 5) (by' := 40) (i := 3) (nn := Cells1.length) (c := c2) (k := 1) (len := (Cells1 ++ [r_1]).length) (B := B2) (xs := ([r_1].flatMap eN0)) (cs' := ((Cells1 ++ [r_1]).flatMap eN0)) hS12 K12 K2 K45 K6 rfl (by decide) rfl rfl rfl rfl (fm_lenn (l := Cells1) eN1 rfl) rfl (hS12.c 4) (fm_lenn (l := [r_1]) eN1 rfl) (fm_one' (enc := eN0) enc_Dyadic_one [r_1]) (by have := hap; omega) (by have := hap; simp only [maxLen]; omega) (fm_app _ _) (app_len (l := Cells1) (l' := [r_1]) rfl rfl)) ?_ ?_
       ·rintro _ w_6 ⟨B3, c3, rfl, hS13⟩
        refine ⟨(hS13.se [0, 1]), ?_⟩
        refine rq 9 34 (v := pt (aD b2) 2) rfl (hS13.se [0, 1]) (fun w' hw' => (yd (aD b2) 0 0 K15 K13 rfl (hf1.g 6 4))) ?_
        refine rA [10] ?_
        refine rZ 10 rfl (yS 2 1 (aD b2) 34 (.slice B3 ((Cells1 ++ [r_1]).length) c3) [.slice B3 ((Cells1 ++ [r_1]).length) c3] 2 [vi (shlK .i64 1 (IntKind.u64.wrap n)), vi (shlK .i64 1 (IntKind.u64.wrap n)), .slice B3 ((Cells1 ++ [r_1]).length) c3] hS13 K13) ?_ ?_
        ·rintro _ w_7 ⟨rfl, hS14⟩
         refine ⟨(hS14.se [0, 1]), ?_⟩
         refine ra_done (by kernel_rfl) ?_
         exact ⟨B3, c3, (fc (hf1.g 0 0) (fc (hf1.g 3 1) (fc (hf1.g 4 2) (fc (hf1.g 5 3) (fc (hf1.g 6 4) (fc (hf1.g 7 5) (fc (hf1.g 8 6) fn_))))))), (hS14.sel [0, 1, 2, 3] rfl rfl)⟩
        exact aN
       exact aN
      exact aN
     exact aN
    refine rC 31 6 rfl (yC [vi n, .agg #[vi g.Kind, vi g.A, vi g.B], vi (i1 : Int), vi (j : Int)] k_call_115 (c_spec_l6Cell n g (i1 : Int) (j : Int) _  (hS10.inn0 [] rfl) hc)) ?_ ?_
    ·rintro _ w_8 ⟨rfl, hd1⟩
     have hS15 := hS10.out00 hd1
     refine ⟨(hS15.se [0, 1]), ?_⟩
     refine rA [1, 7] ?_
     refine ra_y 26 (i := 1) (v := .slice B2 Cells1.length c2) rfl rfl rfl (yl (aD b2) 2 [vi (shlK .i64 1 (IntKind.u64.wrap n)), vi (shlK .i64 1 (IntKind.u64.wrap n)), .slice B2 Cells1.length c2] (.slice B2 Cells1.length c2) K16 (hS15.c 2)) (hS15.se [0, 1]) ?_ ?_
     ·skip
      refine rA [7] ?_
      refine rS 32 7 rfl (Ys_bslice (s := 5) (len := 1) (vs := [(0, gD_ r_1)]) (cs := kD_ r_1) (zs := kZ_) (m := 5) hS15 K12 K2 K44 rfl (mpc rfl mpn) rfl rfl rfl (by kernel_rfl) (by kernel_rfl) rfl) ?_ ?_
      ·rintro _ w_9 ⟨b3, rfl, hS16⟩
       refine ⟨(hS16.se [0, 1]), ?_⟩
       refine rA [8] ?_
       refine rS 33 8 rfl (Ys_append (s := 5) (by' := 40) (i := 3) (nn := Cells1.length) (c := c2) (k := 1) (len := (Cells1 ++ [r_1]).length) (B := B2) (xs := ([r_1].flatMap eN0)) (cs' := ((Cells1 ++ [r_1]).flatMap eN0)) hS16 K12 K2 K45 K6 rfl (by decide) rfl rfl rfl rfl (fm_lenn (l := Cells1) eN1 rfl) rfl (hS16.c 4) (fm_lenn (l := [r_1]) eN1 rfl) (fm_one' (enc := eN0) enc_Dyadic_one [r_1]) (by have := hap; omega) (by have := hap; simp only [maxLen]; omega) (fm_app _ _) (app_len (l := Cells1) (l' := [r_1]) rfl rfl)) ?_ ?_
       ·rintro _ w_10 ⟨B3, c3, rfl, hS17⟩
        refine ⟨(hS17.se [0, 1]), ?_⟩
        refine rq 9 34 (v := pt (aD b2) 2) rfl (hS17.se [0, 1]) (fun w' hw' => (yd (aD b2) 0 0 K15 K13 rfl (hf1.g 6 4))) ?_
        refine rA [10] ?_
        refine rZ 10 rfl (yS 2 1 (aD b2) 34 (.slice B3 ((Cells1 ++ [r_1]).length) c3) [.slice B3 ((Cells1 ++ [r_1]).length) c3] 2 [vi (shlK .i64 1 (IntKind.u64.wrap n)), vi (shlK .i64 1 (IntKind.u64.wrap n)), .slice B3 ((Cells1 ++ [r_1]).length) c3] hS17 K13) ?_ ?_
        ·rintro _ w_11 ⟨rfl, hS18⟩
         refine ⟨(hS18.se [0, 1]), ?_⟩
         refine ra_done (by kernel_rfl) ?_
         exact ⟨B3, c3, (fc (hf1.g 0 0) (fc (hf1.g 3 1) (fc (hf1.g 4 2) (fc (hf1.g 5 3) (fc (hf1.g 6 4) (fc (hf1.g 7 5) (fc (hf1.g 8 6) fn_))))))), (hS18.sel [0, 1, 2, 3] rfl rfl)⟩
        exact aN
       exact aN
      exact aN
     refine rS 32 7 rfl (Ys_bslice (s := 5) (len := 1) (vs := [(0, gD_ r_1)]) (cs := kD_ r_1) (zs := kZ_) (m := 5) hS15 K12 K2 K44 rfl (mpc rfl mpn) rfl rfl rfl (by kernel_rfl) (by kernel_rfl) rfl) ?_ ?_
     ·rintro _ w_12 ⟨b3, rfl, hS19⟩
      refine ⟨(hS19.se [0, 1]), ?_⟩
      refine rA [1] ?_
      refine ra_y 26 (i := 1) (v := .slice B2 Cells1.length c2) rfl rfl rfl (yl (aD b2) 2 [vi (shlK .i64 1 (IntKind.u64.wrap n)), vi (shlK .i64 1 (IntKind.u64.wrap n)), .slice B2 Cells1.length c2] (.slice B2 Cells1.length c2) K16 (hS19.c 2)) (hS19.se [0, 1]) ?_ ?_
      ·skip
       refine rA [8] ?_
       refine rS 33 8 rfl (Ys_append (s := 5) (by' := 40) (i := 3) (nn := Cells1.length) (c := c2) (k := 1) (len := (Cells1 ++ [r_1]).length) (B := B2) (xs := ([r_1].flatMap eN0)) (cs' := ((Cells1 ++ [r_1]).flatMap eN0)) hS19 K12 K2 K45 K6 rfl (by decide) rfl rfl rfl rfl (fm_lenn (l := Cells1) eN1 rfl) rfl (hS19.c 4) (fm_lenn (l := [r_1]) eN1 rfl) (fm_one' (enc := eN0) enc_Dyadic_one [r_1]) (by have := hap; omega) (by have := hap; simp only [maxLen]; omega) (fm_app _ _) (app_len (l := Cells1) (l' := [r_1]) rfl rfl)) ?_ ?_
       ·rintro _ w_13 ⟨B3, c3, rfl, hS20⟩
        refine ⟨(hS20.se [0, 1]), ?_⟩
        refine rq 9 34 (v := pt (aD b2) 2) rfl (hS20.se [0, 1]) (fun w' hw' => (yd (aD b2) 0 0 K15 K13 rfl (hf1.g 6 4))) ?_
        refine rA [10] ?_
        refine rZ 10 rfl (yS 2 1 (aD b2) 34 (.slice B3 ((Cells1 ++ [r_1]).length) c3) [.slice B3 ((Cells1 ++ [r_1]).length) c3] 2 [vi (shlK .i64 1 (IntKind.u64.wrap n)), vi (shlK .i64 1 (IntKind.u64.wrap n)), .slice B3 ((Cells1 ++ [r_1]).length) c3] hS20 K13) ?_ ?_
        ·rintro _ w_14 ⟨rfl, hS21⟩
         refine ⟨(hS21.se [0, 1]), ?_⟩
         refine ra_done (by kernel_rfl) ?_
         exact ⟨B3, c3, (fc (hf1.g 0 0) (fc (hf1.g 3 1) (fc (hf1.g 4 2) (fc (hf1.g 5 3) (fc (hf1.g 6 4) (fc (hf1.g 7 5) (fc (hf1.g 8 6) fn_))))))), (hS21.sel [0, 1, 2, 3] rfl rfl)⟩
        exact aN
       exact aN
      exact aN
     exact aN
    exact aN
   rintro f w ⟨B4, c4, hf2, hS9⟩
   refine cr ?_
   refine sQ 23 (ym (vi (j : Int)) rfl (hf2.g 8 6)) <| sQ 24 (yP (j : Int) 1) <| sQ 8 (yg (vi (i64.wrap ((j : Int) + 1)))) (rn ?_)
   obtain rfl := sI hb1
   exact ⟨K43, Nat.lt_succ_self _, j + 1, (Cells1 ++ [r_1]), B4, c4, (fc (hf2.g 0 0) (fc (hf2.g 3 1) (fc (hf2.g 4 2) (fc (hf2.g 5 3) (fc (hf2.g 6 4) (fc (hf2.g 7 5) (fc (congrArg (Value.int .i64) (wr_succ hlt3 hN1)) fn_))))))), (hS9.sel [0, 1, 2, 3] rfl rfl), (by omega), hL3⟩
  ·skip
   obtain rfl : K22 = 0 := by have h := of_decide_eq_false hlt2; omega
   refine cw_exit rfl ?_
   obtain rfl := sI hL2
   refine cr ?_
   refine sQ 18 (ym (vi (i1 : Int)) rfl (hf1.g 7 5)) <| sQ 19 (yP (i1 : Int) 1) <| sQ 7 (yg (vi (i64.wrap ((i1 : Int) + 1)))) (rn ?_)
   obtain rfl := sI hF2
   exact ⟨K9, Nat.lt_succ_self _, i1 + 1, Cells1, B2, c2, (fc (hf1.g 0 0) (fc (hf1.g 3 1) (fc (hf1.g 4 2) (fc (hf1.g 5 3) (fc (hf1.g 6 4) (fc (congrArg (Value.int .i64) (wr_succ hlt1 hN)) fn_)))))), (hS7.sel [0, 1, 2, 3] rfl rfl), (by omega), hL1⟩
 ·skip
  obtain rfl : k_ = 0 := by have h := of_decide_eq_false hlt; omega
  refine cw_exit rfl ?_
  obtain rfl := sI hL
  refine cq (cr ?_)
  refine sQ 35 (yb (aD b2) 0 [vi (shlK .i64 1 (IntKind.u64.wrap n)), vi (shlK .i64 1 (IntKind.u64.wrap n)), .slice B1 Cells.length c1] K8 K4 (hS5.c 2) rfl (hf.g 6 4)) ?_
  refine s0 (yT 1 3 (aD b1) 34 (.agg #[vi (shlK .i64 1 (IntKind.u64.wrap n)), vi (shlK .i64 1 (IntKind.u64.wrap n)), .slice B1 Cells.length c1]) [vi (shlK .i64 1 (IntKind.u64.wrap n)), vi (shlK .i64 1 (IntKind.u64.wrap n)), .slice B1 Cells.length c1] 0 hS5 K4 rfl (hf.g 4 2)) ?_
  rintro _ w_15 ⟨rfl, hS22⟩
  refine rn (ct_ ?_)
  obtain rfl := sI hF1
  exact ret1 Tryz.results112 (v1 := .agg #[vi (shlK .i64 1 (IntKind.u64.wrap n)), vi (shlK .i64 1 (IntKind.u64.wrap n)), .slice B1 Cells.length c1]) (resAt_cellA (B := aD b1) (i := 0) (cs := [vi (shlK .i64 1 (IntKind.u64.wrap n)), vi (shlK .i64 1 (IntKind.u64.wrap n)), .slice B1 Cells.length c1]) (vs := [vi (shlK .i64 1 (IntKind.u64.wrap n)), vi (shlK .i64 1 (IntKind.u64.wrap n)), .slice B1 Cells.length c1]) (hf.g 4 2) K8 K4 (hS22.c 1) rfl rfl) ⟨B1, c1, rfl, (hS22.sN [3])⟩

theorem c_spec_l2C_run (c : Tl2C) (x : TCircuit) (m : TMatrix) (B : Option Addr) (B1 : Option Addr) (c1 n : Nat) (B2 : Option Addr) (c2 n1 : Nat) (w0 : World) (hn : x.Gates.length = n) (hn1 : m.Cells.length = n1) (hS : ST w0 (bl [⟨B, 67, [.bool c.bad], 1⟩, ⟨B2, 51, (m.Cells.flatMap eN0), c2 * 5⟩]) w0 [⟨B, 67, [.bool c.bad], 1⟩, ⟨B2, 51, (m.Cells.flatMap eN0), c2 * 5⟩] [⟨B1, (x.Gates.flatMap enc_Gate)⟩]) {r_ : TMatrix} {m1 : Tl2C} (hF : F_spec_l2C_run c x m = some (r_, m1)) :
  CV Tryz.prog 91 #[pt B 0, .agg #[vi x.Qubits, .slice B1 n c1], .agg #[vi m.Rows, vi m.Cols, .slice B2 n1 c2]] w0 (fun v w' => ∃ (B3 : Option Addr) (c3 : Nat), v = (gM_ r_ B3 c3) ∧ ST w0 (bl [⟨B, 67, [.bool c.bad], 1⟩, ⟨B2, 51, (m.Cells.flatMap eN0), c2 * 5⟩]) w' [⟨B, 67, [.bool m1.bad], 1⟩, ⟨B3, 51, (r_.Cells.flatMap eN0), c3 * 5⟩] []) := by
 subst hn
 subst hn1
 unfold F_spec_l2C_run at hF
 refine cv_of_cw 30 Tryz.func91 rfl Tryz.ntmps91 rfl ?_
 refine cq (cr ?_)
 refine sS 4 (yB 90 (.agg #[vi x.Qubits, .slice B1 x.Gates.length c1]) [vi x.Qubits, .slice B1 x.Gates.length c1] 2 hS) ?_
 rintro _ w_ ⟨b, rfl, hS1⟩
 refine sS 5 (yB 34 (gM_ m B2 c2) (kM_ m B2 c2) 3 hS1) ?_
 rintro _ w_1 ⟨b1, rfl, hS2⟩
 refine sS 6 (yN kN_ 3 hS2 K10) ?_
 rintro _ w_2 ⟨b2, rfl, hS3⟩
 refine rn (cq (cq (cr ?_)))
 refine sQ 9 (yd (aD b) 0 0 K83 K60) <| sQ 10 (yl (aD b) 1 [vi x.Qubits, .slice B1 x.Gates.length c1] (.slice B1 x.Gates.length c1) K100 (hS3.c 2)) <| sQ 11 (Y_len (B := B1) (m := x.Gates.length) (c := c1) K61 rfl rfl) <| sQ 12 (ym (vi 0)) (rn ?_)
 obtain ⟨hN, hF⟩ := chk_inv hF
 obtain ⟨z, hz, hF1⟩ := bI hF
 refine cw_block ?_
 refine cw_loop (fun k f w => ∃ (i : Nat) (bad : Bool) (Rows : Int) (Cols : Int) (Cells : List TDyadic) (B4 : Option Addr) (c4 : Nat), FF f [(0, pt B 0), (4, pt (aD b) 0), (5, pt (aD b1) 0), (6, pt (aD b2) 0), (10, .slice B1 x.Gates.length c1), (11, vi (x.Gates.length : Int)), (12, vi (i : Int))] ∧ ST w0 (bl [⟨B, 67, [.bool c.bad], 1⟩, ⟨B2, 51, (m.Cells.flatMap eN0), c2 * 5⟩]) w [⟨B, 67, [.bool bad], 1⟩, ⟨aD b, 90, [vi x.Qubits, .slice B1 x.Gates.length c1], 2⟩, ⟨aD b1, 34, [vi Rows, vi Cols, .slice B4 Cells.length c4], 3⟩, ⟨B4, 51, (Cells.flatMap eN0), c4 * 5⟩, ⟨aD b2, 34, kN_, 3⟩] [⟨B1, (x.Gates.flatMap enc_Gate)⟩] ∧ i + k = x.Gates.length ∧ forN (F_spec_l2C_run_l1 x) k i (bad, Rows, Cols, Cells) = some z) x.Gates.length ⟨0, c.bad, m.Rows, m.Cols, m.Cells, B2, c2, (fc rfl (fc rfl (fc rfl (fc rfl (fc rfl (fc rfl (fc rfl fn_))))))), (hS3.sel [0, 2, 3, 1, 4] rfl rfl), Nat.zero_add _, hz⟩ ?_
 rintro k_ f w ⟨i, bad, Rows, Cols, Cells, B4, c4, hf, hS4, hik, hL⟩
 refine cq (cr ?_)
 refine sQ 13 (yL (i : Int) (x.Gates.length : Int) rfl (hf.g 12 6) (hf.g 11 5)) (rn (cq ?_))
 refine cw_cond (b := (decide ((i : Int) < (x.Gates.length : Int)))) rfl (fun hlt => ?_) (fun hlt => ?_)
 ·skip
  have hlt1 : i < x.Gates.length := by have h := of_decide_eq_true hlt; omega
  obtain ⟨K9, rfl⟩ : ∃ k2, k_ = k2 + 1 := ⟨k_ - 1, by omega⟩
  obtain ⟨y, hb, hL1⟩ := forN_go hL
  unfold F_spec_l2C_run_l1 at hb
  refine cw_skip (cq ?_)
  obtain ⟨z1, hz1, hF2⟩ := bI hb
  refine cw_mid (fun f w => ∃ (bad1 : Bool) (Rows1 : Int) (Cols1 : Int) (Cells1 : List TDyadic) (B5 : Option Addr) (c5 : Nat), (bad1, Rows1, Cols1, Cells1) = z1 ∧ FF f [(0, pt B 0), (4, pt (aD b) 0), (5, pt (aD b1) 0), (6, pt (aD b2) 0), (10, .slice B1 x.Gates.length c1), (11, vi (x.Gates.length : Int)), (12, vi (i : Int))] ∧ ST w0 (bl [⟨B, 67, [.bool c.bad], 1⟩, ⟨B2, 51, (m.Cells.flatMap eN0), c2 * 5⟩]) w [⟨B, 67, [.bool bad1], 1⟩, ⟨aD b, 90, [vi x.Qubits, .slice B1 x.Gates.length c1], 2⟩, ⟨aD b1, 34, [vi Rows1, vi Cols1, .slice B5 Cells1.length c5], 3⟩, ⟨B5, 51, (Cells1.flatMap eN0), c5 * 5⟩, ⟨aD b2, 34, kN_, 3⟩] [⟨B1, (x.Gates.flatMap enc_Gate)⟩]) ?_ ?_
  ·skip
   refine cw_block (cq (cr ?_))
   obtain ⟨x1, hx, hz1⟩ := bI hz1
   refine sQ 14 (Y_index (B := B1) (m := x.Gates.length) (c := c1) (k := .i64) (i := (i : Int)) K61 K35 rfl (hf.g 10 4) (hf.g 12 6) (gi_isSome enc_Gate_len rfl (hS4.rf (i := 0) rfl) hx) (getI_nn hx) (getI_ltI hx rfl)) <| sQ 15 (ya B1 ((i : Int).toNat * 3) (x.Gates.flatMap enc_Gate) [vi x1.Kind, vi x1.A, vi x1.B] K59 K35 (hS4.rf (i := 0) rfl) rfl rfl (enc_Gate_len x1) (gi_seg enc_Gate_len hx)) ?_
   refine sS 8 (yN [vi 0, vi 0, vi 0] 3 hS4 K62) ?_
   rintro _ w_3 ⟨b3, rfl, hS6⟩
   refine s0 (yT 5 3 (aD b3) 116 (.agg #[vi x1.Kind, vi x1.A, vi x1.B]) [vi x1.Kind, vi x1.A, vi x1.B] 0 hS6 K35) ?_
   rintro _ w_4 ⟨rfl, hS7⟩
   refine rn (cq (cr ?_))
   refine sQ 16 (ym (pt B 0) rfl (hf.g 0 0)) <| sQ 17 (Y_nilCheck (B := B) (i := 0) rfl rfl) <| sQ 18 (yd B 0 0 K77 K57) <| sQ 19 (yl B 0 [.bool bad] (.bool bad) K98 (hS7.c 0)) <| sQ 20 (Y_not (p := bad) rfl rfl) (rn ?_)
   refine cw_cond (b := (!bad)) rfl (fun hb1 => ?_) (fun hb1 => ?_)
   ·skip
    have hF3 := ct hz1 hb1
    obtain ⟨r_1, hc, hF3⟩ := bI hF3
    obtain ⟨⟨r_2, m2⟩, hc1, hF3⟩ := bI hF3
    refine cw_mid (fun f w => ∃ (B8 : Option Addr) (c8 : Nat), FF f [(0, pt B 0), (4, pt (aD b) 0), (5, pt (aD b1) 0), (6, pt (aD b2) 0), (10, .slice B1 x.Gates.length c1), (11, vi (x.Gates.length : Int)), (12, vi (i : Int))] ∧ ST w0 (bl [⟨B, 67, [.bool c.bad], 1⟩, ⟨B2, 51, (m.Cells.flatMap eN0), c2 * 5⟩]) w [⟨B, 67, [.bool m2.bad], 1⟩, ⟨aD b, 90, [vi x.Qubits, .slice B1 x.Gates.length c1], 2⟩, ⟨aD b1, 34, kM_ r_2 B8 c8, 3⟩, ⟨B8, 51, (r_2.Cells.flatMap eN0), c8 * 5⟩, ⟨aD b2, 34, kN_, 3⟩] [⟨B1, (x.Gates.flatMap enc_Gate)⟩]) ?_ ?_
    ·skip
     refine ra_start (hS7.se [1, 3, 4, 5]).fn (by kernel_rfl) ?_
     have hS11 := hS7.drew
     refine rq 0 21 (v := pt B 0) rfl (hS11.se [1, 3, 4, 5]) (fun w' hw' => (ym (pt B 0) rfl (hf.g 0 0))) ?_
     refine rq 1 22 (v := pt (aD b) 0) rfl (hS11.se [1, 3, 4, 5]) (fun w' hw' => (yd (aD b) 0 0 k_fd_90_0_0_3 K0 rfl (hf.g 4 1))) ?_
     refine rq 2 23 (v := vi x.Qubits) rfl (hS11.se [1, 3, 4, 5]) (fun w' hw' => (yl (aD b) 0 [vi x.Qubits, .slice B1 x.Gates.length c1] (vi x.Qubits) K1 (ST.cf hw' (i := 0) rfl))) ?_
     refine rq 3 24 (v := .agg #[vi x1.Kind, vi x1.A, vi x1.B]) rfl (hS11.se [1, 3, 4, 5]) (fun w' hw' => (yb (aD b3) 0 [vi x1.Kind, vi x1.A, vi x1.B] K59 K35 (ST.cf hw' (i := 3) rfl))) ?_
     refine rA [4, 5] ?_
     refine rC 25 4 rfl (yC [vi x.Qubits, .agg #[vi x1.Kind, vi x1.A, vi x1.B]] k_call_112 (c_spec_l6Gate x.Qubits x1 _  (hS11.inn0 [] rfl) hc)) ?_ ?_
     ·rintro _ w_5 ⟨B6, c6, rfl, hd⟩
      have hS12 := hS11.out0 hd
      refine ⟨(hS12.se [1, 3, 4, 5]), ?_⟩
      refine rA [5] ?_
      refine ra_y 26 (i := 5) (v := .agg #[vi Rows, vi Cols, .slice B4 Cells.length c4]) rfl rfl rfl (yb (aD b1) 0 [vi Rows, vi Cols, .slice B4 Cells.length c4] K8 K4 (hS12.c 2) rfl (hf.g 5 2)) (hS12.se [1, 3, 4, 5]) ?_ ?_
      ·skip
       refine rA [6] ?_
       refine rC 27 6 rfl (yC [pt B 0, gM_ r_1 B6 c6, .agg #[vi Rows, vi Cols, .slice B4 Cells.length c4]] K113 (c_spec_l2C_times (Tl2C.mk bad) r_1 (TMatrix.mk Rows Cols Cells) B B6 c6 r_1.Cells.length B4 c4 Cells.length _ rfl rfl (hS12.inn [true, false, false, false, false, false, false] rfl [(false, 5), (false, 2)] rfl) hc1)) ?_ ?_
       ·rintro _ w_6 ⟨B7, c7, rfl, hd1⟩
        have hS13 := hS12.out [true, false, false, false, false, false, false] rfl hd1
        refine ⟨(hS13.se [0, 2, 3, 4]), ?_⟩
        refine rA [7] ?_
        refine rZ 7 rfl (yT 1 3 (aD b1) 34 (gM_ r_2 B7 c7) (kM_ r_2 B7 c7) 0 hS13 K4 rfl (hf.g 5 2)) ?_ ?_
        ·rintro _ w_7 ⟨rfl, hS14⟩
         refine ⟨(hS14.se [0, 2, 3, 4]), ?_⟩
         refine ra_done (by kernel_rfl) ?_
         exact ⟨B7, c7, (fc (hf.g 0 0) (fc (hf.g 4 1) (fc (hf.g 5 2) (fc (hf.g 6 3) (fc (hf.g 10 4) (fc (hf.g 11 5) (fc (hf.g 12 6) fn_))))))), (hS14.sel [6, 0, 1, 7, 3] rfl rfl)⟩
        exact aN
       exact aN
      exact aN
     refine ra_y 26 (i := 5) (v := .agg #[vi Rows, vi Cols, .slice B4 Cells.length c4]) rfl rfl rfl (yb (aD b1) 0 [vi Rows, vi Cols, .slice B4 Cells.length c4] K8 K4 (hS11.c 2) rfl (hf.g 5 2)) (hS11.se [1, 3, 4, 5]) ?_ ?_
     ·skip
      refine rA [4] ?_
      refine rC 25 4 rfl (yC [vi x.Qubits, .agg #[vi x1.Kind, vi x1.A, vi x1.B]] k_call_112 (c_spec_l6Gate x.Qubits x1 _  (hS11.inn0 [] rfl) hc)) ?_ ?_
      ·rintro _ w_8 ⟨B6, c6, rfl, hd2⟩
       have hS15 := hS11.out0 hd2
       refine ⟨(hS15.se [1, 3, 4, 5]), ?_⟩
       refine rA [6] ?_
       refine rC 27 6 rfl (yC [pt B 0, gM_ r_1 B6 c6, .agg #[vi Rows, vi Cols, .slice B4 Cells.length c4]] K113 (c_spec_l2C_times (Tl2C.mk bad) r_1 (TMatrix.mk Rows Cols Cells) B B6 c6 r_1.Cells.length B4 c4 Cells.length _ rfl rfl (hS15.inn [true, false, false, false, false, false, false] rfl [(false, 5), (false, 2)] rfl) hc1)) ?_ ?_
       ·rintro _ w_9 ⟨B7, c7, rfl, hd3⟩
        have hS16 := hS15.out [true, false, false, false, false, false, false] rfl hd3
        refine ⟨(hS16.se [0, 2, 3, 4]), ?_⟩
        refine rA [7] ?_
        refine rZ 7 rfl (yT 1 3 (aD b1) 34 (gM_ r_2 B7 c7) (kM_ r_2 B7 c7) 0 hS16 K4 rfl (hf.g 5 2)) ?_ ?_
        ·rintro _ w_10 ⟨rfl, hS17⟩
         refine ⟨(hS17.se [0, 2, 3, 4]), ?_⟩
         refine ra_done (by kernel_rfl) ?_
         exact ⟨B7, c7, (fc (hf.g 0 0) (fc (hf.g 4 1) (fc (hf.g 5 2) (fc (hf.g 6 3) (fc (hf.g 10 4) (fc (hf.g 11 5) (fc (hf.g 12 6) fn_))))))), (hS17.sel [6, 0, 1, 7, 3] rfl rfl)⟩
        exact aN
       exact aN
      exact aN
     exact aN
    rintro f w ⟨B8, c8, hf2, hS10⟩
    exact ⟨m2.bad, r_2.Rows, r_2.Cols, r_2.Cells, B8, c8, (sI hF3), (fc (hf2.g 0 0) (fc (hf2.g 4 1) (fc (hf2.g 5 2) (fc (hf2.g 6 3) (fc (hf2.g 10 4) (fc (hf2.g 11 5) (fc (hf2.g 12 6) fn_))))))), (hS10.sel [0, 1, 2, 3, 4] rfl rfl)⟩
   ·skip
    have hF4 := cf' hz1 hb1
    refine cw_skip ?_
    exact ⟨bad, Rows, Cols, Cells, B4, c4, (sI hF4), (fc (hf.g 0 0) (fc (hf.g 4 1) (fc (hf.g 5 2) (fc (hf.g 6 3) (fc (hf.g 10 4) (fc (hf.g 11 5) (fc (hf.g 12 6) fn_))))))), (hS7.sel [0, 1, 2, 3, 4] rfl rfl)⟩
  rintro f w ⟨bad1, Rows1, Cols1, Cells1, B5, c5, rfl, hf1, hS5⟩
  refine cr ?_
  refine sQ 28 (yP (i : Int) 1 rfl (hf1.g 12 6)) <| sQ 12 (ym (vi (i64.wrap ((i : Int) + 1)))) (rn ?_)
  obtain rfl := sI hF2
  exact ⟨K9, Nat.lt_succ_self _, i + 1, bad1, Rows1, Cols1, Cells1, B5, c5, (fc (hf1.g 0 0) (fc (hf1.g 4 1) (fc (hf1.g 5 2) (fc (hf1.g 6 3) (fc (hf1.g 10 4) (fc (hf1.g 11 5) (fc (congrArg (Value.int .i64) (wr_succ hlt1 hN)) fn_))))))), (hS5.sel [0, 1, 2, 3, 4] rfl rfl), (by omega), hL1⟩
 ·skip
  obtain rfl : k_ = 0 := by have h := of_decide_eq_false hlt; omega
  refine cw_exit rfl ?_
  obtain rfl := sI hL
  refine cq (cr ?_)
  refine sQ 29 (yb (aD b1) 0 [vi Rows, vi Cols, .slice B4 Cells.length c4] K8 K4 (hS4.c 2) rfl (hf.g 5 2)) ?_
  refine s0 (yT 4 3 (aD b2) 34 (.agg #[vi Rows, vi Cols, .slice B4 Cells.length c4]) [vi Rows, vi Cols, .slice B4 Cells.length c4] 0 hS4 K4 rfl (hf.g 6 3)) ?_
  rintro _ w_11 ⟨rfl, hS18⟩
  refine rn (ct_ ?_)
  obtain ⟨rfl, rfl⟩ := pr2 (sI hF1)
  exact ret1 Tryz.results91 (v1 := .agg #[vi Rows, vi Cols, .slice B4 Cells.length c4]) (resAt_cellA (B := aD b2) (i := 0) (cs := [vi Rows, vi Cols, .slice B4 Cells.length c4]) (vs := [vi Rows, vi Cols, .slice B4 Cells.length c4]) (hf.g 6 3) K8 K4 (hS18.c 4) rfl rfl) ⟨B4, c4, rfl, (hS18.sN [0, 3])⟩

theorem c_spec_l6Op (x : TCircuit) (B : Option Addr) (c n : Nat) (w0 : World) (hn : x.Gates.length = n) (hS : ST w0 [] w0 [] [⟨B, (x.Gates.flatMap enc_Gate)⟩]) {r_ : TMatrix} (hF : F_spec_l6Op x = some r_) :
  CV Tryz.prog 63 #[.agg #[vi x.Qubits, .slice B n c]] w0 (fun v w' => ∃ (B1 : Option Addr) (c1 : Nat), v = (gM_ r_ B1 c1) ∧ ST w0 [] w' [⟨B1, 51, (r_.Cells.flatMap eN0), c1 * 5⟩] []) := by
 subst hn
 unfold F_spec_l6Op at hF
 refine cv_of_cw 14 Tryz.func63 rfl Tryz.ntmps63 rfl ?_
 refine cq (cr ?_)
 refine sS 1 (yB 90 (.agg #[vi x.Qubits, .slice B x.Gates.length c]) [vi x.Qubits, .slice B x.Gates.length c] 2 hS) ?_
 rintro _ w_ ⟨b, rfl, hS1⟩
 refine sS 2 (yN kN_ 3 hS1 K10) ?_
 rintro _ w_1 ⟨b1, rfl, hS2⟩
 refine rn (cq (cr ?_))
 refine sQ 4 (Y_buildS (zs := [.bool false]) (vs := []) (cs := [.bool false]) K96 K97 rfl mpn rfl) ?_
 refine sS 5 (yB 67 (.agg #[.bool false]) [.bool false] 1 hS2) ?_
 rintro _ w_2 ⟨b2, rfl, hS3⟩
 refine sQ 3 (yg (pt (aD b2) 0)) (rn (cq ?_))
 obtain ⟨hsh, hF⟩ := chk_inv hF
 obtain ⟨r_1, hc, hF⟩ := bI hF
 obtain ⟨⟨r_2, m⟩, hc1, hF⟩ := bI hF
 refine ra_start (hS3.se [0]).fn (by kernel_rfl) ?_
 have hS6 := hS3.drew
 refine rq 0 6 (v := pt (aD b2) 0) rfl (hS6.se [0]) (fun w' hw' => (ym (pt (aD b2) 0))) ?_
 refine rq 1 7 (v := .agg #[vi x.Qubits, .slice B x.Gates.length c]) rfl (hS6.se [0]) (fun w' hw' => (yb (aD b) 0 [vi x.Qubits, .slice B x.Gates.length c] K114 K84 (ST.cf hw' (i := 0) rfl))) ?_
 refine rq 2 8 (v := pt (aD b) 0) rfl (hS6.se [0]) (fun w' hw' => (yd (aD b) 0 0 k_fd_90_0_0_3 K0)) ?_
 refine rq 3 9 (v := vi x.Qubits) rfl (hS6.se [0]) (fun w' hw' => (yl (aD b) 0 [vi x.Qubits, .slice B x.Gates.length c] (vi x.Qubits) K1 (ST.cf hw' (i := 0) rfl))) ?_
 refine rq 4 10 (v := .int .u64 (IntKind.u64.wrap x.Qubits)) rfl (hS6.se [0]) (fun w' hw' => (Y_conv (k := .i64) (a := x.Qubits) (T := 3) (T' := 113) K54 K66 rfl rfl)) ?_
 refine rq 5 11 (v := vi (shlK .i64 1 (IntKind.u64.wrap x.Qubits))) rfl (hS6.se [0]) (fun w' hw' => (Y_shl (k := .i64) (a := 1) (k' := .u64) (b := (IntKind.u64.wrap x.Qubits)) rfl rfl rfl hsh)) ?_
 refine rA [6] ?_
 refine rC 12 6 rfl (yC [vi (shlK .i64 1 (IntKind.u64.wrap x.Qubits))] K82 (c_spec_l3Unit (shlK .i64 1 (IntKind.u64.wrap x.Qubits)) _  (hS6.inn0 [] rfl) hc)) ?_ ?_
 ·rintro _ w_3 ⟨B2, c2, rfl, hd⟩
  have hS7 := hS6.out0 hd
  refine ⟨(hS7.se [0]), ?_⟩
  refine rA [7] ?_
  refine rC 13 7 rfl (yC [pt (aD b2) 0, .agg #[vi x.Qubits, .slice B x.Gates.length c], gM_ r_1 B2 c2] k_call_91 (c_spec_l2C_run (Tl2C.mk false) x r_1 (aD b2) B c x.Gates.length B2 c2 r_1.Cells.length _ rfl rfl (hS7.inn [false, false, true, true] rfl [(true, 0)] rfl) hc1)) ?_ ?_
  ·rintro _ w_4 ⟨B3, c3, rfl, hd1⟩
   have hS8 := hS7.out [false, false, true, true] rfl hd1
   refine ⟨(hS8.se [0]), ?_⟩
   refine rA [8] ?_
   refine rZ 8 rfl (yT 1 3 (aD b1) 34 (gM_ r_2 B3 c3) (kM_ r_2 B3 c3) 0 hS8 K4) ?_ ?_
   ·rintro _ w_5 ⟨rfl, hS9⟩
    refine ⟨(hS9.se [0]), ?_⟩
    refine ra_done (by kernel_rfl) ?_
    refine ct_ ?_
    obtain rfl := sI hF
    exact ret1 Tryz.results63 (v1 := gM_ r_2 B3 c3) (resAt_cellA (B := aD b1) (i := 0) (cs := kM_ r_2 B3 c3) (vs := kM_ r_2 B3 c3) rfl K8 K4 (hS9.c 1) rfl rfl) ⟨B3, c3, rfl, (hS9.sN [3])⟩
   exact aN
  exact aN
 exact aN

theorem c_spec_l1Cur_gate (c : Tl1Cur) (n1 : Int) (kinds : List Int) (B : Option Addr) (B1 : Option Addr) (c1 n : Nat) (B2 : Option Addr) (c2 n2 : Nat) (w0 : World) (hn : c.code.length = n) (hn1 : kinds.length = n2) (hS : ST w0 (bl [⟨B, 55, [.slice B1 n c1, vi c.at_, .int .u64 c.seed], 3⟩]) w0 [⟨B, 55, [.slice B1 n c1, vi c.at_, .int .u64 c.seed], 3⟩] [⟨B1, (c.code.flatMap enc_u8)⟩, ⟨B2, (kinds.flatMap encI)⟩]) {r_ : TGate} {m : Tl1Cur} (hF : F_spec_l1Cur_gate c n1 kinds = some (r_, m)) :
  CV Tryz.prog 92 #[pt B 0, vi n1, .slice B2 n2 c2] w0 (fun v w' => v = .agg #[vi r_.Kind, vi r_.A, vi r_.B] ∧ ST w0 (bl [⟨B, 55, [.slice B1 n c1, vi c.at_, .int .u64 c.seed], 3⟩]) w' [⟨B, 55, [.slice B1 n c1, vi m.at_, .int .u64 m.seed], 3⟩] []) := by
 subst hn
 subst hn1
 unfold F_spec_l1Cur_gate at hF
 refine cv_of_cw 42 Tryz.func92 rfl Tryz.ntmps92 rfl ?_
 refine cq (cr ?_)
 refine sS 6 (yN [vi 0, vi 0, vi 0] 3 hS K62) ?_
 rintro _ w_ ⟨b, rfl, hS1⟩
 refine rn (cq (cr ?_))
 refine sQ 8 (ym (.slice B2 kinds.length c2)) <| sQ 9 (ym (pt B 0)) <| sQ 10 (ym (.slice B2 kinds.length c2)) <| sQ 11 (Y_len (B := B2) (m := kinds.length) (c := c2) K27 rfl rfl) ?_
 obtain ⟨⟨r_1, m1⟩, hc, hF⟩ := bI hF
 refine sc 12 rfl rfl (yC [pt B 0, vi (kinds.length : Int)] K24 (c_spec_l1Cur_pick c (kinds.length : Int) B B1 c1 c.code.length _ rfl (hS1.inn [true, false] rfl [(true, 0)] rfl) hc)) ?_
 rintro _ w_1 ⟨rfl, hd⟩
 have hS2 := hS1.out [true, false] rfl hd
 obtain ⟨x, hx, hF⟩ := bI hF
 refine sQ 13 (Y_index (B := B2) (m := kinds.length) (c := c2) (k := .i64) (i := r_1) K27 K0 rfl rfl rfl (gi_isSome encI_len rfl (hS2.rf (i := 1) rfl) hx) (getI_nn hx) (getI_ltI hx rfl)) <| sQ 14 (yl B2 (r_1.toNat * 1) (kinds.flatMap encI) (vi x) K1 (hS2.rf (i := 1) rfl) rfl rfl (gi_at0 encI_len hx rfl)) <| sQ 15 (Y_buildS (zs := [vi 0, vi 0, vi 0]) (vs := [(0, vi x)]) (cs := [vi x, vi 0, vi 0]) k_pl_116 K62 rfl (mpc rfl mpn) rfl) ?_
 refine sS 7 (yN [vi 0, vi 0, vi 0] 3 hS2 K62) ?_
 rintro _ w_2 ⟨b1, rfl, hS3⟩
 refine s0 (yT 2 3 (aD b1) 116 (.agg #[vi x, vi 0, vi 0]) [vi x, vi 0, vi 0] 0 hS3 K35) ?_
 rintro _ w_3 ⟨rfl, hS4⟩
 refine rn (cq (cq (cr ?_)))
 refine sQ 16 (yd (aD b1) 0 0 K99 K0) <| sQ 17 (yl (aD b1) 0 [vi x, vi 0, vi 0] (vi x) K1 (hS4.c 2)) <| sQ 18 (yE x 12) (rn ?_)
 refine cw_cond (b := (x == 12)) rfl (fun hb => ?_) (fun hb => ?_)
 ·skip
  have hF1 := ct hF hb
  refine cq (cr ?_)
  refine sQ 19 (yb (aD b1) 0 [vi x, vi 0, vi 0] K59 K35 (hS4.c 2)) ?_
  refine s0 (yT 0 3 (aD b) 116 (.agg #[vi x, vi 0, vi 0]) [vi x, vi 0, vi 0] 0 hS4 K35) ?_
  rintro _ w_4 ⟨rfl, hS5⟩
  refine rn (ct_ ?_)
  obtain ⟨rfl, rfl⟩ := pr2 (sI hF1)
  exact ret1 Tryz.results92 (v1 := .agg #[vi x, vi 0, vi 0]) (resAt_cellA (B := aD b) (i := 0) (cs := [vi x, vi 0, vi 0]) (vs := [vi x, vi 0, vi 0]) rfl K59 K35 (hS5.c 0) rfl rfl) ⟨rfl, (hS5.sN [1])⟩
 ·skip
  have hF2 := cf' hF hb
  refine cw_skip (cq (cr ?_))
  refine sQ 20 (ym (pt B 0)) <| sQ 21 (ym (vi n1)) ?_
  obtain ⟨⟨r_2, m2⟩, hc1, hF2⟩ := bI hF2
  refine sc 22 rfl rfl (yC [pt B 0, vi n1] K24 (c_spec_l1Cur_pick (Tl1Cur.mk c.code m1.at_ m1.seed) n1 B B1 c1 c.code.length _ rfl (hS4.inn [false, true, false] rfl [(true, 0)] rfl) hc1)) ?_
  rintro _ w_5 ⟨rfl, hd1⟩
  have hS6 := hS4.out [false, true, false] rfl hd1
  refine sQ 23 (yd (aD b1) 0 0 K53 K0) ?_
  refine s0 (yS 1 1 (aD b1) 116 (vi r_2) [vi r_2] 1 [vi x, vi r_2, vi 0] hS6 K0) ?_
  rintro _ w_6 ⟨rfl, hS7⟩
  refine rn (cq ?_)
  obtain ⟨z, hz, hF3⟩ := bI hF2
  refine cw_mid (fun f w => ∃ (at_ : Int) (seed : Int) (B3 : Int), .inl (at_, seed, B3) = z ∧ FF f [(6, pt (aD b) 0), (7, pt (aD b1) 0)] ∧ ST w0 (bl [⟨B, 55, [.slice B1 c.code.length c1, vi c.at_, .int .u64 c.seed], 3⟩]) w [⟨B, 55, [.slice B1 c.code.length c1, vi at_, .int .u64 seed], 3⟩, ⟨aD b, 116, [vi 0, vi 0, vi 0], 3⟩, ⟨aD b1, 116, [vi x, vi r_2, vi B3], 3⟩] [⟨B1, (c.code.flatMap enc_u8)⟩, ⟨B2, (kinds.flatMap encI)⟩]) ?_ ?_
  ·skip
   refine cq (cr ?_)
   refine sQ 24 (yd (aD b1) 0 0 K99 K0) <| sQ 25 (yl (aD b1) 0 [vi x, vi r_2, vi 0] (vi x) K1 (hS7.c 1)) ?_
   obtain ⟨r_3, hc2, hz⟩ := bI hz
   refine sc 26 rfl rfl (yC [vi x, vi 9, vi 11] K56 (c_spec_l1In x 9 11 _  (hS7.inn0 [] rfl) hc2)) ?_
   rintro _ w_7 ⟨rfl, hd2⟩
   have hS9 := hS7.out00 hd2
   refine rn ?_
   refine cw_cond (b := r_3) rfl (fun hb1 => ?_) (fun hb1 => ?_)
   ·skip
    have hF4 := ct hz hb1
    refine cq (cq (cr ?_))
    refine sQ 27 (ym (vi n1)) <| sQ 28 (yE n1 1) (rn ?_)
    refine cw_cond (b := (n1 == 1)) rfl (fun hb2 => ?_) (fun hb2 => ?_)
    ·skip
     have hF5 := ct hF4 hb2
     refine cq (cr ?_)
     refine sQ 29 (Y_buildS (zs := [vi 0, vi 0, vi 0]) (vs := [(0, vi 1)]) (cs := [vi 1, vi 0, vi 0]) k_pl_116 K62 rfl (mpc rfl mpn) rfl) ?_
     refine s0 (yT 0 3 (aD b) 116 (.agg #[vi 1, vi 0, vi 0]) [vi 1, vi 0, vi 0] 0 hS9 K35) ?_
     rintro _ w_8 ⟨rfl, hS10⟩
     refine rn (ct_ ?_)
     obtain rfl := sI hF5
     obtain ⟨rfl, rfl⟩ := pr2 (sI hF3)
     exact ret1 Tryz.results92 (v1 := .agg #[vi 1, vi 0, vi 0]) (resAt_cellA (B := aD b) (i := 0) (cs := [vi 1, vi 0, vi 0]) (vs := [vi 1, vi 0, vi 0]) rfl K59 K35 (hS10.c 0) rfl rfl) ⟨rfl, (hS10.sN [2])⟩
    ·skip
     have hF6 := cf' hF4 hb2
     refine cw_skip ?_
     obtain ⟨⟨r_4, m3⟩, hc3, hF6⟩ := bI hF6
     obtain ⟨hne, hF6⟩ := chk_inv hF6
     refine cw_mid (fun f w => FF f [(6, pt (aD b) 0), (7, pt (aD b1) 0)] ∧ ST w0 (bl [⟨B, 55, [.slice B1 c.code.length c1, vi c.at_, .int .u64 c.seed], 3⟩]) w [⟨B, 55, [.slice B1 c.code.length c1, vi m3.at_, .int .u64 m3.seed], 3⟩, ⟨aD b, 116, [vi 0, vi 0, vi 0], 3⟩, ⟨aD b1, 116, [vi x, vi r_2, vi (Int.tmod (i64.wrap ((i64.wrap (r_2 + 1)) + r_4)) n1)], 3⟩] [⟨B1, (c.code.flatMap enc_u8)⟩, ⟨B2, (kinds.flatMap encI)⟩]) ?_ ?_
     ·skip
      refine ra_start (hS9.se [0]).fn (by kernel_rfl) ?_
      have hS13 := hS9.drew
      refine rq 0 30 (v := pt (aD b1) 1) rfl (hS13.se [0]) (fun w' hw' => (yd (aD b1) 0 0 K53 K0)) ?_
      refine rq 3 33 (v := pt B 0) rfl (hS13.se [0]) (fun w' hw' => (ym (pt B 0))) ?_
      refine rq 4 34 (v := vi n1) rfl (hS13.se [0]) (fun w' hw' => (ym (vi n1))) ?_
      refine rq 5 35 (v := vi (i64.wrap (n1 - 1))) rfl (hS13.se [0]) (fun w' hw' => (yM n1 1)) ?_
      refine rq 8 38 (v := vi n1) rfl (hS13.se [0]) (fun w' hw' => (ym (vi n1))) ?_
      refine rA [1, 6] ?_
      refine ra_y 31 (i := 1) (v := vi r_2) rfl rfl rfl (yl (aD b1) 1 [vi x, vi r_2, vi 0] (vi r_2) K1 (hS13.c 1)) (hS13.se [0]) ?_ ?_
      ·skip
       refine rq 2 32 (v := vi (i64.wrap (r_2 + 1))) rfl (hS13.se [0]) (fun w' hw' => (yP r_2 1)) ?_
       refine rA [6] ?_
       refine rC 36 6 rfl (yC [pt B 0, vi (i64.wrap (n1 - 1))] K24 (c_spec_l1Cur_pick (Tl1Cur.mk c.code m2.at_ m2.seed) (i64.wrap (n1 - 1)) B B1 c1 c.code.length _ rfl (hS13.inn [false, false, true] rfl [(true, 0)] rfl) hc3)) ?_ ?_
       ·rintro _ w_9 ⟨rfl, hd3⟩
        have hS14 := hS13.out [false, false, true] rfl hd3
        refine ⟨(hS14.se [0]), ?_⟩
        refine rq 7 37 (v := vi (i64.wrap ((i64.wrap (r_2 + 1)) + r_4))) rfl (hS14.se [0]) (fun w' hw' => (yP (i64.wrap (r_2 + 1)) r_4)) ?_
        refine rq 9 39 (v := vi (Int.tmod (i64.wrap ((i64.wrap (r_2 + 1)) + r_4)) n1)) rfl (hS14.se [0]) (fun w' hw' => (Y_rem (k := .i64) (a := (i64.wrap ((i64.wrap (r_2 + 1)) + r_4))) (b := n1) rfl rfl rfl hne)) ?_
        refine rq 10 40 (v := pt (aD b1) 2) rfl (hS14.se [0]) (fun w' hw' => (yd (aD b1) 0 0 K78 K0)) ?_
        refine rA [11] ?_
        refine rZ 11 rfl (yS 1 1 (aD b1) 116 (vi (Int.tmod (i64.wrap ((i64.wrap (r_2 + 1)) + r_4)) n1)) [vi (Int.tmod (i64.wrap ((i64.wrap (r_2 + 1)) + r_4)) n1)] 2 [vi x, vi r_2, vi (Int.tmod (i64.wrap ((i64.wrap (r_2 + 1)) + r_4)) n1)] hS14 K0) ?_ ?_
        ·rintro _ w_10 ⟨rfl, hS15⟩
         refine ⟨(hS15.se [0]), ?_⟩
         refine ra_done (by kernel_rfl) ?_
         exact ⟨(fc rfl (fc rfl fn_)), (hS15.sel [2, 0, 1] rfl rfl)⟩
        exact aN
       exact aN
      refine rC 36 6 rfl (yC [pt B 0, vi (i64.wrap (n1 - 1))] K24 (c_spec_l1Cur_pick (Tl1Cur.mk c.code m2.at_ m2.seed) (i64.wrap (n1 - 1)) B B1 c1 c.code.length _ rfl (hS13.inn [false, false, true] rfl [(true, 0)] rfl) hc3)) ?_ ?_
      ·rintro _ w_11 ⟨rfl, hd4⟩
       have hS16 := hS13.out [false, false, true] rfl hd4
       refine ⟨(hS16.se [0]), ?_⟩
       refine rA [1] ?_
       refine ra_y 31 (i := 1) (v := vi r_2) rfl rfl rfl (yl (aD b1) 1 [vi x, vi r_2, vi 0] (vi r_2) K1 (hS16.c 1)) (hS16.se [0]) ?_ ?_
       ·skip
        refine rq 2 32 (v := vi (i64.wrap (r_2 + 1))) rfl (hS16.se [0]) (fun w' hw' => (yP r_2 1)) ?_
        refine rq 7 37 (v := vi (i64.wrap ((i64.wrap (r_2 + 1)) + r_4))) rfl (hS16.se [0]) (fun w' hw' => (yP (i64.wrap (r_2 + 1)) r_4)) ?_
        refine rq 9 39 (v := vi (Int.tmod (i64.wrap ((i64.wrap (r_2 + 1)) + r_4)) n1)) rfl (hS16.se [0]) (fun w' hw' => (Y_rem (k := .i64) (a := (i64.wrap ((i64.wrap (r_2 + 1)) + r_4))) (b := n1) rfl rfl rfl hne)) ?_
        refine rq 10 40 (v := pt (aD b1) 2) rfl (hS16.se [0]) (fun w' hw' => (yd (aD b1) 0 0 K78 K0)) ?_
        refine rA [11] ?_
        refine rZ 11 rfl (yS 1 1 (aD b1) 116 (vi (Int.tmod (i64.wrap ((i64.wrap (r_2 + 1)) + r_4)) n1)) [vi (Int.tmod (i64.wrap ((i64.wrap (r_2 + 1)) + r_4)) n1)] 2 [vi x, vi r_2, vi (Int.tmod (i64.wrap ((i64.wrap (r_2 + 1)) + r_4)) n1)] hS16 K0) ?_ ?_
        ·rintro _ w_12 ⟨rfl, hS17⟩
         refine ⟨(hS17.se [0]), ?_⟩
         refine ra_done (by kernel_rfl) ?_
         exact ⟨(fc rfl (fc rfl fn_)), (hS17.sel [2, 0, 1] rfl rfl)⟩
        exact aN
       exact aN
      exact aN
     rintro f w ⟨hf1, hS12⟩
     exact ⟨m3.at_, m3.seed, (Int.tmod (i64.wrap ((i64.wrap (r_2 + 1)) + r_4)) n1), (sI hF6), (fc (hf1.g 6 0) (fc (hf1.g 7 1) fn_)), (hS12.sel [0, 1, 2] rfl rfl)⟩
   ·skip
    have hF7 := cf' hz hb1
    refine cw_skip ?_
    exact ⟨m2.at_, m2.seed, 0, (sI hF7), (fc rfl (fc rfl fn_)), (hS9.sel [2, 0, 1] rfl rfl)⟩
  rintro f w ⟨at_, seed, B3, rfl, hf, hS8⟩
  refine cq (cr ?_)
  refine sQ 41 (yb (aD b1) 0 [vi x, vi r_2, vi B3] K59 K35 (hS8.c 2) rfl (hf.g 7 1)) ?_
  refine s0 (yT 1 3 (aD b) 116 (.agg #[vi x, vi r_2, vi B3]) [vi x, vi r_2, vi B3] 0 hS8 K35 rfl (hf.g 6 0)) ?_
  rintro _ w_13 ⟨rfl, hS18⟩
  refine rn (ct_ ?_)
  obtain ⟨rfl, rfl⟩ := pr2 (sI hF3)
  exact ret1 Tryz.results92 (v1 := .agg #[vi x, vi r_2, vi B3]) (resAt_cellA (B := aD b) (i := 0) (cs := [vi x, vi r_2, vi B3]) (vs := [vi x, vi r_2, vi B3]) (hf.g 6 0) K59 K35 (hS18.c 1) rfl rfl) ⟨rfl, (hS18.sN [0])⟩

theorem c_spec_l1Cur_built (c : Tl1Cur) (n1 : Int) (most : Int) (kinds : List Int) (B : Option Addr) (B1 : Option Addr) (c1 n : Nat) (B2 : Option Addr) (c2 n2 : Nat) (w0 : World) (hn : c.code.length = n) (hn1 : kinds.length = n2) (hS : ST w0 (bl [⟨B, 55, [.slice B1 n c1, vi c.at_, .int .u64 c.seed], 3⟩]) w0 [⟨B, 55, [.slice B1 n c1, vi c.at_, .int .u64 c.seed], 3⟩] [⟨B1, (c.code.flatMap enc_u8)⟩, ⟨B2, (kinds.flatMap encI)⟩]) {r_ : TCircuit} {m : Tl1Cur} (hF : F_spec_l1Cur_built c n1 most kinds = some (r_, m)) :
  CV Tryz.prog 64 #[pt B 0, vi n1, vi most, .slice B2 n2 c2] w0 (fun v w' => ∃ (B3 : Option Addr) (c3 : Nat), v = .agg #[vi r_.Qubits, .slice B3 r_.Gates.length c3] ∧ ST w0 (bl [⟨B, 55, [.slice B1 n c1, vi c.at_, .int .u64 c.seed], 3⟩]) w' [⟨B, 55, [.slice B1 n c1, vi m.at_, .int .u64 m.seed], 3⟩, ⟨B3, 116, (r_.Gates.flatMap enc_Gate), c3 * 3⟩] []) := by
 subst hn
 subst hn1
 unfold F_spec_l1Cur_built at hF
 refine cv_of_cw 31 Tryz.func64 rfl Tryz.ntmps64 rfl ?_
 refine cq (cr ?_)
 refine sS 8 (yN [vi 0, .slice none 0 0] 2 hS K115) ?_
 rintro _ w_ ⟨b, rfl, hS1⟩
 refine rn (cq (cr ?_))
 refine sQ 11 (ym (vi n1)) <| sQ 12 (Y_buildS (zs := [vi 0, .slice none 0 0]) (vs := [(0, vi n1)]) (cs := [vi n1, .slice none 0 0]) k_pl_90 K115 rfl (mpc rfl mpn) rfl) ?_
 refine sS 9 (yN [vi 0, .slice none 0 0] 2 hS1 K115) ?_
 rintro _ w_1 ⟨b1, rfl, hS2⟩
 refine s0 (yT 2 2 (aD b1) 90 (.agg #[vi n1, .slice none 0 0]) [vi n1, .slice none 0 0] 0 hS2 K84) ?_
 rintro _ w_2 ⟨rfl, hS3⟩
 refine rn (cq (cq (cr ?_)))
 refine sQ 13 (ym (pt B 0)) <| sQ 14 (ym (vi most)) <| sQ 15 (yP most 1) ?_
 obtain ⟨⟨r_1, m1⟩, hc, hF⟩ := bI hF
 refine sc 16 rfl rfl (yC [pt B 0, vi (i64.wrap (most + 1))] K24 (c_spec_l1Cur_pick c (i64.wrap (most + 1)) B B1 c1 c.code.length _ rfl (hS3.inn [true, false, false] rfl [(true, 0)] rfl) hc)) ?_
 rintro _ w_3 ⟨rfl, hd⟩
 have hS4 := hS3.out [true, false, false] rfl hd
 refine sQ 10 (yg (vi r_1)) (rn ?_)
 obtain ⟨z, hz, hF1⟩ := bI hF
 have hS6 := hS4.addNil 116
 refine cw_block ?_
 refine cw_loop (fun k f w => ∃ (at_ : Int) (seed : Int) (Gates : List TGate) (k_ : Int) (B4 : Option Addr) (c4 : Nat), FF f [(0, pt B 0), (1, vi n1), (3, .slice B2 kinds.length c2), (8, pt (aD b) 0), (9, pt (aD b1) 0), (10, vi k_)] ∧ ST w0 (bl [⟨B, 55, [.slice B1 c.code.length c1, vi c.at_, .int .u64 c.seed], 3⟩]) w [⟨B, 55, [.slice B1 c.code.length c1, vi at_, .int .u64 seed], 3⟩, ⟨aD b, 90, [vi 0, .slice none 0 0], 2⟩, ⟨aD b1, 90, [vi n1, .slice B4 Gates.length c4], 2⟩, ⟨B4, 116, (Gates.flatMap enc_Gate), c4 * 3⟩] [⟨B1, (c.code.flatMap enc_u8)⟩, ⟨B2, (kinds.flatMap encI)⟩] ∧ whX (F_spec_l1Cur_built_l1 c n1 kinds) k (at_, seed, Gates, k_) = some z) fuel ⟨m1.at_, m1.seed, [], r_1, none, 0, (fc rfl (fc rfl (fc rfl (fc rfl (fc rfl (fc rfl fn_)))))), (hS6.sel [2, 0, 1, 3] rfl rfl), hz⟩ ?_
 rintro K9 f w ⟨at_, seed, Gates, k_, B4, c4, hf, hS5, hL⟩
 obtain ⟨K22, y, rfl, hb, hL1⟩ := whX_go hL
 unfold F_spec_l1Cur_built_l1 at hb
 refine cq (cq (cr ?_))
 refine sQ 17 (ym (vi k_) rfl (hf.g 10 5)) <| sQ 18 (Y_gt (k := .i64) (a := k_) (b := 0) rfl rfl rfl) (rn ?_)
 refine cw_cond (b := (decide (0 < k_))) rfl (fun hb1 => ?_) (fun hb1 => ?_)
 ·skip
  have hF2 := ct hb hb1
  refine cw_skip (cq (cw_block ?_))
  obtain ⟨⟨r_2, m2⟩, hc1, hF2⟩ := bI hF2
  obtain ⟨hap, hF2⟩ := chk_inv hF2
  refine cw_mid (fun f w => ∃ (B6 : Option Addr) (c6 : Nat), FF f [(0, pt B 0), (1, vi n1), (3, .slice B2 kinds.length c2), (8, pt (aD b) 0), (9, pt (aD b1) 0), (10, vi k_)] ∧ ST w0 (bl [⟨B, 55, [.slice B1 c.code.length c1, vi c.at_, .int .u64 c.seed], 3⟩]) w [⟨B, 55, [.slice B1 c.code.length c1, vi m2.at_, .int .u64 m2.seed], 3⟩, ⟨aD b, 90, [vi 0, .slice none 0 0], 2⟩, ⟨aD b1, 90, [vi n1, .slice B6 ((Gates ++ [r_2]).length) c6], 2⟩, ⟨B6, 116, ((Gates ++ [r_2]).flatMap enc_Gate), c6 * 3⟩] [⟨B1, (c.code.flatMap enc_u8)⟩, ⟨B2, (kinds.flatMap encI)⟩]) ?_ ?_
  ·skip
   refine ra_start (hS5.se [1]).fn (by kernel_rfl) ?_
   have hS9 := hS5.drew
   refine rq 0 21 (v := pt (aD b1) 1) rfl (hS9.se [1]) (fun w' hw' => (yd (aD b1) 0 0 K83 K60 rfl (hf.g 9 4))) ?_
   refine rq 2 23 (v := pt B 0) rfl (hS9.se [1]) (fun w' hw' => (ym (pt B 0) rfl (hf.g 0 0))) ?_
   refine rq 3 24 (v := vi n1) rfl (hS9.se [1]) (fun w' hw' => (ym (vi n1) rfl (hf.g 1 1))) ?_
   refine rq 4 25 (v := .slice B2 kinds.length c2) rfl (hS9.se [1]) (fun w' hw' => (ym (.slice B2 kinds.length c2) rfl (hf.g 3 2))) ?_
   refine rA [1, 5] ?_
   refine ra_y 22 (i := 1) (v := .slice B4 Gates.length c4) rfl rfl rfl (yl (aD b1) 1 [vi n1, .slice B4 Gates.length c4] (.slice B4 Gates.length c4) K100 (hS9.c 2)) (hS9.se [1]) ?_ ?_
   ·skip
    refine rA [5] ?_
    refine rC 26 5 rfl (yC [pt B 0, vi n1, .slice B2 kinds.length c2] k_call_92 (c_spec_l1Cur_gate (Tl1Cur.mk c.code at_ seed) n1 kinds B B1 c1 c.code.length B2 c2 kinds.length _ rfl rfl (hS9.inn [true, false, false, false] rfl [(true, 0), (true, 1)] rfl) hc1)) ?_ ?_
    ·rintro _ w_4 ⟨rfl, hd1⟩
     have hS10 := hS9.out [true, false, false, false] rfl hd1
     refine ⟨(hS10.se [0]), ?_⟩
     refine rA [6] ?_
     refine rS 27 6 rfl (Ys_bslice (s := 3) (len := 1) (vs := [(0, .agg #[vi r_2.Kind, vi r_2.A, vi r_2.B])]) (cs := [vi r_2.Kind, vi r_2.A, vi r_2.B]) (zs := [vi 0, vi 0, vi 0]) (m := 3) hS10 K61 K35 K116 rfl (mpc rfl mpn) rfl rfl rfl (by kernel_rfl) (by kernel_rfl) rfl) ?_ ?_
     ·rintro _ w_5 ⟨b2, rfl, hS11⟩
      refine ⟨(hS11.se [0]), ?_⟩
      refine rA [7] ?_
      refine rS 28 7 rfl (Ys_append (s := 3) (by' := 24) (i := 2) (nn := Gates.length) (c := c4) (k := 1) (len := (Gates ++ [r_2]).length) (B := B4) (xs := ([r_2].flatMap enc_Gate)) (cs' := ((Gates ++ [r_2]).flatMap enc_Gate)) hS11 K61 K35 K117 K62 rfl (by decide) rfl rfl rfl rfl (fm_lenn (l := Gates) enc_Gate_len rfl) rfl (hS11.c 4) (fm_lenn (l := [r_2]) enc_Gate_len rfl) (fm_one' (enc := enc_Gate) enc_Gate_one [r_2]) (by have := hap; omega) (by have := hap; simp only [maxLen]; omega) (fm_app _ _) (app_len (l := Gates) (l' := [r_2]) rfl rfl)) ?_ ?_
      ·rintro _ w_6 ⟨B5, c5, rfl, hS12⟩
       refine ⟨(hS12.se [0]), ?_⟩
       refine rq 8 29 (v := pt (aD b1) 1) rfl (hS12.se [0]) (fun w' hw' => (yd (aD b1) 0 0 K83 K60 rfl (hf.g 9 4))) ?_
       refine rA [9] ?_
       refine rZ 9 rfl (yS 1 1 (aD b1) 90 (.slice B5 ((Gates ++ [r_2]).length) c5) [.slice B5 ((Gates ++ [r_2]).length) c5] 1 [vi n1, .slice B5 ((Gates ++ [r_2]).length) c5] hS12 K60) ?_ ?_
       ·rintro _ w_7 ⟨rfl, hS13⟩
        refine ⟨(hS13.se [0]), ?_⟩
        refine ra_done (by kernel_rfl) ?_
        exact ⟨B5, c5, (fc (hf.g 0 0) (fc (hf.g 1 1) (fc (hf.g 3 2) (fc (hf.g 8 3) (fc (hf.g 9 4) (fc (hf.g 10 5) fn_)))))), (hS13.sel [3, 0, 1, 2] rfl rfl)⟩
       exact aN
      exact aN
     exact aN
    exact aN
   refine rC 26 5 rfl (yC [pt B 0, vi n1, .slice B2 kinds.length c2] k_call_92 (c_spec_l1Cur_gate (Tl1Cur.mk c.code at_ seed) n1 kinds B B1 c1 c.code.length B2 c2 kinds.length _ rfl rfl (hS9.inn [true, false, false, false] rfl [(true, 0), (true, 1)] rfl) hc1)) ?_ ?_
   ·rintro _ w_8 ⟨rfl, hd2⟩
    have hS14 := hS9.out [true, false, false, false] rfl hd2
    refine ⟨(hS14.se [0]), ?_⟩
    refine rA [1, 6] ?_
    refine ra_y 22 (i := 1) (v := .slice B4 Gates.length c4) rfl rfl rfl (yl (aD b1) 1 [vi n1, .slice B4 Gates.length c4] (.slice B4 Gates.length c4) K100 (hS14.c 1)) (hS14.se [0]) ?_ ?_
    ·skip
     refine rA [6] ?_
     refine rS 27 6 rfl (Ys_bslice (s := 3) (len := 1) (vs := [(0, .agg #[vi r_2.Kind, vi r_2.A, vi r_2.B])]) (cs := [vi r_2.Kind, vi r_2.A, vi r_2.B]) (zs := [vi 0, vi 0, vi 0]) (m := 3) hS14 K61 K35 K116 rfl (mpc rfl mpn) rfl rfl rfl (by kernel_rfl) (by kernel_rfl) rfl) ?_ ?_
     ·rintro _ w_9 ⟨b2, rfl, hS15⟩
      refine ⟨(hS15.se [0]), ?_⟩
      refine rA [7] ?_
      refine rS 28 7 rfl (Ys_append (s := 3) (by' := 24) (i := 2) (nn := Gates.length) (c := c4) (k := 1) (len := (Gates ++ [r_2]).length) (B := B4) (xs := ([r_2].flatMap enc_Gate)) (cs' := ((Gates ++ [r_2]).flatMap enc_Gate)) hS15 K61 K35 K117 K62 rfl (by decide) rfl rfl rfl rfl (fm_lenn (l := Gates) enc_Gate_len rfl) rfl (hS15.c 4) (fm_lenn (l := [r_2]) enc_Gate_len rfl) (fm_one' (enc := enc_Gate) enc_Gate_one [r_2]) (by have := hap; omega) (by have := hap; simp only [maxLen]; omega) (fm_app _ _) (app_len (l := Gates) (l' := [r_2]) rfl rfl)) ?_ ?_
      ·rintro _ w_10 ⟨B5, c5, rfl, hS16⟩
       refine ⟨(hS16.se [0]), ?_⟩
       refine rq 8 29 (v := pt (aD b1) 1) rfl (hS16.se [0]) (fun w' hw' => (yd (aD b1) 0 0 K83 K60 rfl (hf.g 9 4))) ?_
       refine rA [9] ?_
       refine rZ 9 rfl (yS 1 1 (aD b1) 90 (.slice B5 ((Gates ++ [r_2]).length) c5) [.slice B5 ((Gates ++ [r_2]).length) c5] 1 [vi n1, .slice B5 ((Gates ++ [r_2]).length) c5] hS16 K60) ?_ ?_
       ·rintro _ w_11 ⟨rfl, hS17⟩
        refine ⟨(hS17.se [0]), ?_⟩
        refine ra_done (by kernel_rfl) ?_
        exact ⟨B5, c5, (fc (hf.g 0 0) (fc (hf.g 1 1) (fc (hf.g 3 2) (fc (hf.g 8 3) (fc (hf.g 9 4) (fc (hf.g 10 5) fn_)))))), (hS17.sel [3, 0, 1, 2] rfl rfl)⟩
       exact aN
      exact aN
     exact aN
    refine rS 27 6 rfl (Ys_bslice (s := 3) (len := 1) (vs := [(0, .agg #[vi r_2.Kind, vi r_2.A, vi r_2.B])]) (cs := [vi r_2.Kind, vi r_2.A, vi r_2.B]) (zs := [vi 0, vi 0, vi 0]) (m := 3) hS14 K61 K35 K116 rfl (mpc rfl mpn) rfl rfl rfl (by kernel_rfl) (by kernel_rfl) rfl) ?_ ?_
    ·rintro _ w_12 ⟨b2, rfl, hS18⟩
     refine ⟨(hS18.se [0]), ?_⟩
     refine rA [1] ?_
     refine ra_y 22 (i := 1) (v := .slice B4 Gates.length c4) rfl rfl rfl (yl (aD b1) 1 [vi n1, .slice B4 Gates.length c4] (.slice B4 Gates.length c4) K100 (hS18.c 1)) (hS18.se [0]) ?_ ?_
     ·skip
      refine rA [7] ?_
      refine rS 28 7 rfl (Ys_append (s := 3) (by' := 24) (i := 2) (nn := Gates.length) (c := c4) (k := 1) (len := (Gates ++ [r_2]).length) (B := B4) (xs := ([r_2].flatMap enc_Gate)) (cs' := ((Gates ++ [r_2]).flatMap enc_Gate)) hS18 K61 K35 K117 K62 rfl (by decide) rfl rfl rfl rfl (fm_lenn (l := Gates) enc_Gate_len rfl) rfl (hS18.c 4) (fm_lenn (l := [r_2]) enc_Gate_len rfl) (fm_one' (enc := enc_Gate) enc_Gate_one [r_2]) (by have := hap; omega) (by have := hap; simp only [maxLen]; omega) (fm_app _ _) (app_len (l := Gates) (l' := [r_2]) rfl rfl)) ?_ ?_
      ·rintro _ w_13 ⟨B5, c5, rfl, hS19⟩
       refine ⟨(hS19.se [0]), ?_⟩
       refine rq 8 29 (v := pt (aD b1) 1) rfl (hS19.se [0]) (fun w' hw' => (yd (aD b1) 0 0 K83 K60 rfl (hf.g 9 4))) ?_
       refine rA [9] ?_
       refine rZ 9 rfl (yS 1 1 (aD b1) 90 (.slice B5 ((Gates ++ [r_2]).length) c5) [.slice B5 ((Gates ++ [r_2]).length) c5] 1 [vi n1, .slice B5 ((Gates ++ [r_2]).length) c5] hS19 K60) ?_ ?_
       ·rintro _ w_14 ⟨rfl, hS20⟩
        refine ⟨(hS20.se [0]), ?_⟩
        refine ra_done (by kernel_rfl) ?_
        exact ⟨B5, c5, (fc (hf.g 0 0) (fc (hf.g 1 1) (fc (hf.g 3 2) (fc (hf.g 8 3) (fc (hf.g 9 4) (fc (hf.g 10 5) fn_)))))), (hS20.sel [3, 0, 1, 2] rfl rfl)⟩
       exact aN
      exact aN
     exact aN
    exact aN
   exact aN
  rintro f w ⟨B6, c6, hf1, hS8⟩
  refine cr ?_
  refine sQ 19 (ym (vi k_) rfl (hf1.g 10 5)) <| sQ 20 (yM k_ 1) <| sQ 10 (yg (vi (i64.wrap (k_ - 1)))) (rn ?_)
  obtain rfl := sI hF2
  exact ⟨K22, Nat.lt_succ_self _, m2.at_, m2.seed, (Gates ++ [r_2]), (i64.wrap (k_ - 1)), B6, c6, (fc (hf1.g 0 0) (fc (hf1.g 1 1) (fc (hf1.g 3 2) (fc (hf1.g 8 3) (fc (hf1.g 9 4) (fc rfl fn_)))))), (hS8.sel [0, 1, 2, 3] rfl rfl), hL1⟩
 ·skip
  have hF3 := cf' hb hb1
  refine cw_exit rfl ?_
  obtain rfl := sI hF3
  obtain rfl := sI hL1
  refine cq (cr ?_)
  refine sQ 30 (yb (aD b1) 0 [vi n1, .slice B4 Gates.length c4] K114 K84 (hS5.c 2) rfl (hf.g 9 4)) ?_
  refine s0 (yT 1 2 (aD b) 90 (.agg #[vi n1, .slice B4 Gates.length c4]) [vi n1, .slice B4 Gates.length c4] 0 hS5 K84 rfl (hf.g 8 3)) ?_
  rintro _ w_15 ⟨rfl, hS21⟩
  refine rn (ct_ ?_)
  obtain ⟨rfl, rfl⟩ := pr2 (sI hF1)
  exact ret1 Tryz.results64 (v1 := .agg #[vi n1, .slice B4 Gates.length c4]) (resAt_cellA (B := aD b) (i := 0) (cs := [vi n1, .slice B4 Gates.length c4]) (vs := [vi n1, .slice B4 Gates.length c4]) (hf.g 8 3) K114 K84 (hS21.c 1) rfl rfl) ⟨B4, c4, rfl, (hS21.sN [0, 3])⟩

theorem c_spec_l1Cur_unitary (c : Tl1Cur) (B : Option Addr) (B1 : Option Addr) (c1 n : Nat) (w0 : World) (hn : c.code.length = n) (hS : ST w0 (bl [⟨B, 55, [.slice B1 n c1, vi c.at_, .int .u64 c.seed], 3⟩]) w0 [⟨B, 55, [.slice B1 n c1, vi c.at_, .int .u64 c.seed], 3⟩] [⟨B1, (c.code.flatMap enc_u8)⟩]) {r_ : TMatrix} {m : Tl1Cur} (hF : F_spec_l1Cur_unitary c = some (r_, m)) :
  CV Tryz.prog 29 #[pt B 0] w0 (fun v w' => ∃ (B2 : Option Addr) (c2 : Nat), v = (gM_ r_ B2 c2) ∧ ST w0 (bl [⟨B, 55, [.slice B1 n c1, vi c.at_, .int .u64 c.seed], 3⟩]) w' [⟨B, 55, [.slice B1 n c1, vi m.at_, .int .u64 m.seed], 3⟩, ⟨B2, 51, (r_.Cells.flatMap eN0), c2 * 5⟩] []) := by
 subst hn
 unfold F_spec_l1Cur_unitary at hF
 refine cv_of_cw 28 Tryz.func29 rfl Tryz.ntmps29 rfl ?_
 refine cq (cr ?_)
 refine sS 2 (yN kN_ 3 hS K10) ?_
 rintro _ w_ ⟨b, rfl, hS1⟩
 refine rn (cq ?_)
 obtain ⟨z, hz, hF1⟩ := bI hF
 refine cw_mid (fun f w => ∃ (at_ : Int) (seed : Int), .inl (at_, seed) = z ∧ FF f [(0, pt B 0), (2, pt (aD b) 0)] ∧ ST w0 (bl [⟨B, 55, [.slice B1 c.code.length c1, vi c.at_, .int .u64 c.seed], 3⟩]) w [⟨B, 55, [.slice B1 c.code.length c1, vi at_, .int .u64 seed], 3⟩, ⟨aD b, 34, kN_, 3⟩] [⟨B1, (c.code.flatMap enc_u8)⟩]) ?_ ?_
 ·skip
  refine cq (cr ?_)
  refine sQ 6 (ym (pt B 0)) ?_
  obtain ⟨⟨r_1, m1⟩, hc, hz⟩ := bI hz
  refine sc 7 rfl rfl (yC [pt B 0, vi 2] K55 (c_spec_l1Cur_one c 2 B B1 c1 c.code.length _ rfl (hS1.inn [true, false] rfl [(true, 0)] rfl) hc)) ?_
  rintro _ w_1 ⟨rfl, hd⟩
  have hS3 := hS1.out [true, false] rfl hd
  refine rn ?_
  refine cw_cond (b := r_1) rfl (fun hb => ?_) (fun hb => ?_)
  ·skip
   have hF2 := ct hz hb
   refine cq (cr ?_)
   refine sQ 8 (ym (pt B 0)) ?_
   refine sS 9 (Ys_bslice (s := 1) (len := 4) (vs := [(0, vi 2), (1, vi 4), (2, vi 4), (3, vi 8)]) (cs := [vi 2, vi 4, vi 4, vi 8]) (zs := [vi 0, vi 0, vi 0, vi 0]) (m := 4) hS3 K27 K0 K38 rfl (mpc rfl (mpc rfl (mpc rfl (mpc rfl mpn)))) rfl rfl rfl (by kernel_rfl) (by kernel_rfl) rfl) ?_
   rintro _ w_2 ⟨b1, rfl, hS4⟩
   obtain ⟨⟨r_2, m2⟩, hc1, hF2⟩ := bI hF2
   refine sc 10 rfl rfl (yC [pt B 0, .slice (aD b1) 4 4] K47 (c_spec_l1Cur_among (Tl1Cur.mk c.code m1.at_ m1.seed) [2, 4, 4, 8] B B1 c1 c.code.length (aD b1) 4 4 _ rfl rfl (hS4.inn [false, true, false] rfl [(true, 0), (false, 1)] rfl) hc1)) ?_
   rintro _ w_3 ⟨rfl, hd1⟩
   have hS5 := hS4.out [false, true, false] rfl hd1
   refine sQ 3 (yg (vi r_2)) (rn (cq (cr ?_)))
   refine sQ 12 (ym (vi r_2)) <| sQ 13 (ym (pt B 0)) <| sQ 14 (ym (vi r_2)) ?_
   obtain ⟨⟨r_3, m3⟩, hc2, hF2⟩ := bI hF2
   refine sc 15 rfl rfl (yC [pt B 0, vi r_2] k_call_62 (c_spec_l1Cur_levels (Tl1Cur.mk c.code m2.at_ m2.seed) r_2 B B1 c1 c.code.length _ rfl (hS5.inn [false, false, true] rfl [(true, 0)] rfl) hc2)) ?_
   rintro _ w_4 ⟨B3, c3, rfl, hd2⟩
   have hS6 := hS5.out [false, false, true] rfl hd2
   obtain ⟨⟨r_4, r_5⟩, hc3, hF2⟩ := bI hF2
   refine sc 16 rfl rfl (yC [vi r_2, .slice B3 r_3.length c3] k_call_61 (c_spec_ComposeTwoLevel r_2 r_3 B3 c3 r_3.length _ rfl (hS6.inn0 [(false, 3)] rfl) hc3)) ?_
   rintro _ w_5 ⟨B4, c4, rfl, hd3⟩
   have hS7 := hS6.out0 hd3
   refine sQ 11 (ym (.tuple #[gM_ r_4 B4 c4, .bool r_5])) <| sQ 17 (ye (gM_ r_4 B4 c4)) <| sQ 18 (ye (.bool r_5)) ?_
   refine sS 4 (yN kN_ 3 hS7 K10) ?_
   rintro _ w_6 ⟨b2, rfl, hS8⟩
   refine s0 (yT 5 3 (aD b2) 34 (gM_ r_4 B4 c4) (kM_ r_4 B4 c4) 0 hS8 K4) ?_
   rintro _ w_7 ⟨rfl, hS9⟩
   have hS9 : ST w0 (bl [⟨B, 55, [.slice B1 c.code.length c1, vi c.at_, .int .u64 c.seed], 3⟩]) _ [⟨aD b, 34, kN_, 3⟩, ⟨aD b1, 3, ([2, 4, 4, 8].flatMap encI), 4 * 1⟩, ⟨B, 55, [.slice B1 c.code.length c1, vi m3.at_, .int .u64 m3.seed], 3⟩, ⟨B3, 25, (r_3.flatMap eN2), c3 * 4⟩, ⟨B4, 51, (r_4.Cells.flatMap eN0), c4 * 5⟩, ⟨aD b2, 34, kM_ r_4 B4 c4, 3⟩] [⟨B1, (c.code.flatMap enc_u8)⟩] := hS9
   refine sQ 5 (yg (.bool r_5)) (rn (cq (cr ?_)))
   refine sQ 19 (ym (.bool r_5)) (rn ?_)
   refine cw_cond (b := r_5) rfl (fun hb1 => ?_) (fun hb1 => ?_)
   ·skip
    have hF3 := ct hF2 hb1
    refine cq (cr ?_)
    refine sQ 20 (yb (aD b2) 0 (kM_ r_4 B4 c4) K8 K4 (hS9.c 5)) ?_
    refine s0 (yT 0 3 (aD b) 34 (gM_ r_4 B4 c4) (kM_ r_4 B4 c4) 0 hS9 K4) ?_
    rintro _ w_8 ⟨rfl, hS10⟩
    refine rn (ct_ ?_)
    obtain rfl := sI hF3
    obtain ⟨rfl, rfl⟩ := pr2 (sI hF1)
    exact ret1 Tryz.results29 (v1 := gM_ r_4 B4 c4) (resAt_cellA (B := aD b) (i := 0) (cs := kM_ r_4 B4 c4) (vs := kM_ r_4 B4 c4) rfl K8 K4 (hS10.c 0) rfl rfl) ⟨B4, c4, rfl, (hS10.sN [2, 4])⟩
   ·skip
    have hF4 := cf' hF2 hb1
    refine cw_skip ?_
    exact ⟨m3.at_, m3.seed, (sI hF4), (fc rfl (fc rfl fn_)), (hS9.sel [2, 0] rfl rfl)⟩
  ·skip
   have hF5 := cf' hz hb
   refine cw_skip ?_
   exact ⟨m1.at_, m1.seed, (sI hF5), (fc rfl (fc rfl fn_)), (hS3.sel [1, 0] rfl rfl)⟩
 rintro f w ⟨at_, seed, rfl, hf, hS2⟩
 refine cq (cr ?_)
 refine sQ 21 (ym (pt B 0) rfl (hf.g 0 0)) <| sQ 22 (ym (pt B 0) rfl (hf.g 0 0)) ?_
 obtain ⟨⟨r_6, m4⟩, hc4, hF1⟩ := bI hF1
 refine sc 23 rfl rfl (yC [pt B 0, vi 3] K24 (c_spec_l1Cur_pick (Tl1Cur.mk c.code at_ seed) 3 B B1 c1 c.code.length _ rfl (hS2.inn [true, false] rfl [(true, 0)] rfl) hc4)) ?_
 rintro _ w_9 ⟨rfl, hd4⟩
 have hS11 := hS2.out [true, false] rfl hd4
 refine sQ 24 (yP 1 r_6) ?_
 refine sS 25 (Ys_bslice (s := 1) (len := 11) (vs := [(0, vi 1), (1, vi 1), (2, vi 7), (3, vi 7), (4, vi 5), (5, vi 3), (6, vi 9), (7, vi 9), (8, vi 10), (9, vi 12), (10, vi 2)]) (cs := [vi 1, vi 1, vi 7, vi 7, vi 5, vi 3, vi 9, vi 9, vi 10, vi 12, vi 2]) (zs := [vi 0, vi 0, vi 0, vi 0, vi 0, vi 0, vi 0, vi 0, vi 0, vi 0, vi 0]) (m := 11) hS11 K27 K0 K38 rfl (mpc rfl (mpc rfl (mpc rfl (mpc rfl (mpc rfl (mpc rfl (mpc rfl (mpc rfl (mpc rfl (mpc rfl (mpc rfl mpn))))))))))) rfl rfl rfl (by kernel_rfl) (by kernel_rfl) rfl) ?_
 rintro _ w_10 ⟨b3, rfl, hS12⟩
 obtain ⟨⟨r_7, m5⟩, hc5, hF1⟩ := bI hF1
 refine sc 26 rfl rfl (yC [pt B 0, vi (i64.wrap (1 + r_6)), vi 9, .slice (aD b3) 11 11] k_call_64 (c_spec_l1Cur_built (Tl1Cur.mk c.code m4.at_ m4.seed) (i64.wrap (1 + r_6)) 9 [1, 1, 7, 7, 5, 3, 9, 9, 10, 12, 2] B B1 c1 c.code.length (aD b3) 11 11 _ rfl rfl (hS12.inn [false, true, false] rfl [(true, 0), (false, 1)] rfl) hc5)) ?_
 rintro _ w_11 ⟨B5, c5, rfl, hd5⟩
 have hS13 := hS12.out [false, true, false] rfl hd5
 obtain ⟨r_8, hc6, hF1⟩ := bI hF1
 refine sc 27 rfl rfl (yC [.agg #[vi r_7.Qubits, .slice B5 r_7.Gates.length c5]] k_call_63 (c_spec_l6Op r_7 B5 c5 r_7.Gates.length _ rfl (hS13.inn0 [(false, 3)] rfl) hc6)) ?_
 rintro _ w_12 ⟨B6, c6, rfl, hd6⟩
 have hS14 := hS13.out0 hd6
 refine s0 (yT 0 3 (aD b) 34 (gM_ r_8 B6 c6) (kM_ r_8 B6 c6) 0 hS14 K4 rfl (hf.g 2 1)) ?_
 rintro _ w_13 ⟨rfl, hS15⟩
 refine rn (ct_ ?_)
 obtain ⟨rfl, rfl⟩ := pr2 (sI hF1)
 exact ret1 Tryz.results29 (v1 := gM_ r_8 B6 c6) (resAt_cellA (B := aD b) (i := 0) (cs := kM_ r_8 B6 c6) (vs := kM_ r_8 B6 c6) (hf.g 2 1) K8 K4 (hS15.c 0) rfl rfl) ⟨B6, c6, rfl, (hS15.sN [2, 4])⟩

theorem c_spec_l3Column (m : TMatrix) (k_ : Int) (B : Option Addr) (c n : Nat) (w0 : World) (hn : m.Cells.length = n) (hS : ST w0 [] w0 [] [⟨B, (m.Cells.flatMap eN0)⟩]) {r_ : TMatrix} (hF : F_spec_l3Column m k_ = some r_) :
  CV Tryz.prog 30 #[.agg #[vi m.Rows, vi m.Cols, .slice B n c], vi k_] w0 (fun v w' => ∃ (B1 : Option Addr) (c1 : Nat), v = (gM_ r_ B1 c1) ∧ ST w0 [] w' [⟨B1, 51, (r_.Cells.flatMap eN0), c1 * 5⟩] []) := by
 subst hn
 unfold F_spec_l3Column at hF
 refine cv_of_cw 32 Tryz.func30 rfl Tryz.ntmps30 rfl ?_
 refine cq (cr ?_)
 refine sS 2 (yB 34 (gM_ m B c) (kM_ m B c) 3 hS) ?_
 rintro _ w_ ⟨b, rfl, hS1⟩
 refine sS 4 (yN kN_ 3 hS1 K10) ?_
 rintro _ w_1 ⟨b1, rfl, hS2⟩
 refine rn (cq (cr ?_))
 refine sQ 7 (yd (aD b) 0 0 K34 K0) <| sQ 8 (yl (aD b) 0 (kM_ m B c) (vi m.Rows) K1 (hS2.c 0)) <| sQ 9 (Y_buildS (zs := kN_) (vs := [(0, vi m.Rows), (1, vi 1)]) (cs := [vi m.Rows, vi 1, .slice none 0 0]) K32 K10 rfl (mpc rfl (mpc rfl mpn)) rfl) ?_
 refine sS 5 (yN kN_ 3 hS2 K10) ?_
 rintro _ w_2 ⟨b2, rfl, hS3⟩
 refine s0 (yT 2 3 (aD b2) 34 (.agg #[vi m.Rows, vi 1, .slice none 0 0]) [vi m.Rows, vi 1, .slice none 0 0] 0 hS3 K4) ?_
 rintro _ w_3 ⟨rfl, hS4⟩
 refine rn (cq (cq (cr ?_)))
 refine sQ 6 (yg (vi 0)) (rn ?_)
 obtain ⟨hN, hF⟩ := chk_inv hF
 obtain ⟨z, hz, hF1⟩ := bI hF
 have hS6 := hS4.addNil 51
 refine cw_block ?_
 refine cw_loop (fun k f w => ∃ (i1 : Nat) (Cells : List TDyadic) (B2 : Option Addr) (c2 : Nat), FF f [(1, vi k_), (2, pt (aD b) 0), (4, pt (aD b1) 0), (5, pt (aD b2) 0), (6, vi (i1 : Int))] ∧ ST w0 [] w [⟨aD b, 34, kM_ m B c, 3⟩, ⟨aD b1, 34, kN_, 3⟩, ⟨aD b2, 34, [vi m.Rows, vi 1, .slice B2 Cells.length c2], 3⟩, ⟨B2, 51, (Cells.flatMap eN0), c2 * 5⟩] [⟨B, (m.Cells.flatMap eN0)⟩] ∧ i1 + k = m.Rows.toNat ∧ forN (F_spec_l3Column_l1 m k_) k i1 Cells = some z) m.Rows.toNat ⟨0, [], none, 0, (fc rfl (fc rfl (fc rfl (fc rfl (fc rfl fn_))))), (hS6.sel [0, 1, 2, 3] rfl rfl), Nat.zero_add _, hz⟩ ?_
 rintro K9 f w ⟨i1, Cells, B2, c2, hf, hS5, hik, hL⟩
 refine cq (cq (cr ?_))
 refine sQ 10 (ym (vi (i1 : Int)) rfl (hf.g 6 4)) <| sQ 11 (yd (aD b) 0 0 K34 K0 rfl (hf.g 2 1)) <| sQ 12 (yl (aD b) 0 (kM_ m B c) (vi m.Rows) K1 (hS5.c 0)) <| sQ 13 (yL (i1 : Int) m.Rows) (rn ?_)
 refine cw_cond (b := (decide ((i1 : Int) < m.Rows))) rfl (fun hlt => ?_) (fun hlt => ?_)
 ·skip
  have hlt1 : i1 < m.Rows.toNat := by have h := of_decide_eq_true hlt; omega
  obtain ⟨K22, rfl⟩ : ∃ k2, K9 = k2 + 1 := ⟨K9 - 1, by omega⟩
  obtain ⟨y, hb, hL1⟩ := forN_go hL
  unfold F_spec_l3Column_l1 at hb
  refine cw_skip (cq (cw_block ?_))
  obtain ⟨x, hx, hb⟩ := bI hb
  obtain ⟨hap, hb⟩ := chk_inv hb
  refine cw_mid (fun f w => ∃ (B4 : Option Addr) (c4 : Nat), FF f [(1, vi k_), (2, pt (aD b) 0), (4, pt (aD b1) 0), (5, pt (aD b2) 0), (6, vi (i1 : Int))] ∧ ST w0 [] w [⟨aD b, 34, kM_ m B c, 3⟩, ⟨aD b1, 34, kN_, 3⟩, ⟨aD b2, 34, [vi m.Rows, vi 1, .slice B4 ((Cells ++ [x]).length) c4], 3⟩, ⟨B4, 51, ((Cells ++ [x]).flatMap eN0), c4 * 5⟩] [⟨B, (m.Cells.flatMap eN0)⟩]) ?_ ?_
  ·skip
   refine ra_start (hS5.se [0, 1]).fn (by kernel_rfl) ?_
   have hS8 := hS5.drew
   refine rq 0 16 (v := pt (aD b2) 2) rfl (hS8.se [0, 1]) (fun w' hw' => (yd (aD b2) 0 0 K15 K13 rfl (hf.g 5 3))) ?_
   refine rq 2 18 (v := pt (aD b) 2) rfl (hS8.se [0, 1]) (fun w' hw' => (yd (aD b) 0 0 K15 K13 rfl (hf.g 2 1))) ?_
   refine rq 3 19 (v := .slice B m.Cells.length c) rfl (hS8.se [0, 1]) (fun w' hw' => (yl (aD b) 2 (kM_ m B c) (.slice B m.Cells.length c) K16 (ST.cf hw' (i := 0) rfl))) ?_
   refine rq 4 20 (v := vi (i1 : Int)) rfl (hS8.se [0, 1]) (fun w' hw' => (ym (vi (i1 : Int)) rfl (hf.g 6 4))) ?_
   refine rq 5 21 (v := pt (aD b) 1) rfl (hS8.se [0, 1]) (fun w' hw' => (yd (aD b) 0 0 K29 K0 rfl (hf.g 2 1))) ?_
   refine rq 6 22 (v := vi m.Cols) rfl (hS8.se [0, 1]) (fun w' hw' => (yl (aD b) 1 (kM_ m B c) (vi m.Cols) K1 (ST.cf hw' (i := 0) rfl))) ?_
   refine rq 7 23 (v := vi (i64.wrap ((i1 : Int) * m.Cols))) rfl (hS8.se [0, 1]) (fun w' hw' => (yX (i1 : Int) m.Cols)) ?_
   refine rq 8 24 (v := vi k_) rfl (hS8.se [0, 1]) (fun w' hw' => (ym (vi k_) rfl (hf.g 1 0))) ?_
   refine rq 9 25 (v := vi (i64.wrap ((i64.wrap ((i1 : Int) * m.Cols)) + k_))) rfl (hS8.se [0, 1]) (fun w' hw' => (yP (i64.wrap ((i1 : Int) * m.Cols)) k_)) ?_
   refine rq 10 26 (v := pt B ((i64.wrap ((i64.wrap ((i1 : Int) * m.Cols)) + k_)).toNat * 5)) rfl (hS8.se [0, 1]) (fun w' hw' => (Y_index (B := B) (m := m.Cells.length) (c := c) (k := .i64) (i := (i64.wrap ((i64.wrap ((i1 : Int) * m.Cols)) + k_))) K12 K2 rfl rfl rfl (gi_isSome eN1 rfl (ST.rf hw' (i := 0) rfl) hx) (getI_nn hx) (getI_ltI hx rfl))) ?_
   refine rq 11 27 (v := gD_ x) rfl (hS8.se [0, 1]) (fun w' hw' => (ya B ((i64.wrap ((i64.wrap ((i1 : Int) * m.Cols)) + k_)).toNat * 5) (m.Cells.flatMap eN0) (kD_ x) K5 K2 (ST.rf hw' (i := 0) rfl) rfl rfl (eN1 x) (gi_seg eN1 hx))) ?_
   refine rA [1, 12] ?_
   refine ra_y 17 (i := 1) (v := .slice B2 Cells.length c2) rfl rfl rfl (yl (aD b2) 2 [vi m.Rows, vi 1, .slice B2 Cells.length c2] (.slice B2 Cells.length c2) K16 (hS8.c 2)) (hS8.se [0, 1]) ?_ ?_
   ·skip
    refine rA [12] ?_
    refine rS 28 12 rfl (Ys_bslice (s := 5) (len := 1) (vs := [(0, gD_ x)]) (cs := kD_ x) (zs := kZ_) (m := 5) hS8 K12 K2 K44 rfl (mpc rfl mpn) rfl rfl rfl (by kernel_rfl) (by kernel_rfl) rfl) ?_ ?_
    ·rintro _ w_4 ⟨b3, rfl, hS9⟩
     refine ⟨(hS9.se [0, 1]), ?_⟩
     refine rA [13] ?_
     refine rS 29 13 rfl (Ys_append (s := 5) (by' := 40) (i := 3) (nn := Cells.length) (c := c2) (k := 1) (len := (Cells ++ [x]).length) (B := B2) (xs := ([x].flatMap eN0)) (cs' := ((Cells ++ [x]).flatMap eN0)) hS9 K12 K2 K45 K6 rfl (by decide) rfl rfl rfl rfl (fm_lenn (l := Cells) eN1 rfl) rfl (hS9.c 4) (fm_lenn (l := [x]) eN1 rfl) (fm_one' (enc := eN0) enc_Dyadic_one [x]) (by have := hap; omega) (by have := hap; simp only [maxLen]; omega) (fm_app _ _) (app_len (l := Cells) (l' := [x]) rfl rfl)) ?_ ?_
     ·rintro _ w_5 ⟨B3, c3, rfl, hS10⟩
      refine ⟨(hS10.se [0, 1]), ?_⟩
      refine rq 14 30 (v := pt (aD b2) 2) rfl (hS10.se [0, 1]) (fun w' hw' => (yd (aD b2) 0 0 K15 K13 rfl (hf.g 5 3))) ?_
      refine rA [15] ?_
      refine rZ 15 rfl (yS 2 1 (aD b2) 34 (.slice B3 ((Cells ++ [x]).length) c3) [.slice B3 ((Cells ++ [x]).length) c3] 2 [vi m.Rows, vi 1, .slice B3 ((Cells ++ [x]).length) c3] hS10 K13) ?_ ?_
      ·rintro _ w_6 ⟨rfl, hS11⟩
       refine ⟨(hS11.se [0, 1]), ?_⟩
       refine ra_done (by kernel_rfl) ?_
       exact ⟨B3, c3, (fc (hf.g 1 0) (fc (hf.g 2 1) (fc (hf.g 4 2) (fc (hf.g 5 3) (fc (hf.g 6 4) fn_))))), (hS11.sel [0, 1, 2, 3] rfl rfl)⟩
      exact aN
     exact aN
    exact aN
   refine rS 28 12 rfl (Ys_bslice (s := 5) (len := 1) (vs := [(0, gD_ x)]) (cs := kD_ x) (zs := kZ_) (m := 5) hS8 K12 K2 K44 rfl (mpc rfl mpn) rfl rfl rfl (by kernel_rfl) (by kernel_rfl) rfl) ?_ ?_
   ·rintro _ w_7 ⟨b3, rfl, hS12⟩
    refine ⟨(hS12.se [0, 1]), ?_⟩
    refine rA [1] ?_
    refine ra_y 17 (i := 1) (v := .slice B2 Cells.length c2) rfl rfl rfl (yl (aD b2) 2 [vi m.Rows, vi 1, .slice B2 Cells.length c2] (.slice B2 Cells.length c2) K16 (hS12.c 2)) (hS12.se [0, 1]) ?_ ?_
    ·skip
     refine rA [13] ?_
     refine rS 29 13 rfl (Ys_append (s := 5) (by' := 40) (i := 3) (nn := Cells.length) (c := c2) (k := 1) (len := (Cells ++ [x]).length) (B := B2) (xs := ([x].flatMap eN0)) (cs' := ((Cells ++ [x]).flatMap eN0)) hS12 K12 K2 K45 K6 rfl (by decide) rfl rfl rfl rfl (fm_lenn (l := Cells) eN1 rfl) rfl (hS12.c 4) (fm_lenn (l := [x]) eN1 rfl) (fm_one' (enc := eN0) enc_Dyadic_one [x]) (by have := hap; omega) (by have := hap; simp only [maxLen]; omega) (fm_app _ _) (app_len (l := Cells) (l' := [x]) rfl rfl)) ?_ ?_
     ·rintro _ w_8 ⟨B3, c3, rfl, hS13⟩
      refine ⟨(hS13.se [0, 1]), ?_⟩
      refine rq 14 30 (v := pt (aD b2) 2) rfl (hS13.se [0, 1]) (fun w' hw' => (yd (aD b2) 0 0 K15 K13 rfl (hf.g 5 3))) ?_
      refine rA [15] ?_
      refine rZ 15 rfl (yS 2 1 (aD b2) 34 (.slice B3 ((Cells ++ [x]).length) c3) [.slice B3 ((Cells ++ [x]).length) c3] 2 [vi m.Rows, vi 1, .slice B3 ((Cells ++ [x]).length) c3] hS13 K13) ?_ ?_
      ·rintro _ w_9 ⟨rfl, hS14⟩
       refine ⟨(hS14.se [0, 1]), ?_⟩
       refine ra_done (by kernel_rfl) ?_
       exact ⟨B3, c3, (fc (hf.g 1 0) (fc (hf.g 2 1) (fc (hf.g 4 2) (fc (hf.g 5 3) (fc (hf.g 6 4) fn_))))), (hS14.sel [0, 1, 2, 3] rfl rfl)⟩
      exact aN
     exact aN
    exact aN
   exact aN
  rintro f w ⟨B4, c4, hf1, hS7⟩
  refine cr ?_
  refine sQ 14 (ym (vi (i1 : Int)) rfl (hf1.g 6 4)) <| sQ 15 (yP (i1 : Int) 1) <| sQ 6 (yg (vi (i64.wrap ((i1 : Int) + 1)))) (rn ?_)
  obtain rfl := sI hb
  exact ⟨K22, Nat.lt_succ_self _, i1 + 1, (Cells ++ [x]), B4, c4, (fc (hf1.g 1 0) (fc (hf1.g 2 1) (fc (hf1.g 4 2) (fc (hf1.g 5 3) (fc (congrArg (Value.int .i64) (wr_succ hlt1 hN)) fn_))))), (hS7.sel [0, 1, 2, 3] rfl rfl), (by omega), hL1⟩
 ·skip
  obtain rfl : K9 = 0 := by have h := of_decide_eq_false hlt; omega
  refine cw_exit rfl ?_
  obtain rfl := sI hL
  refine cq (cr ?_)
  refine sQ 31 (yb (aD b2) 0 [vi m.Rows, vi 1, .slice B2 Cells.length c2] K8 K4 (hS5.c 2) rfl (hf.g 5 3)) ?_
  refine s0 (yT 1 3 (aD b1) 34 (.agg #[vi m.Rows, vi 1, .slice B2 Cells.length c2]) [vi m.Rows, vi 1, .slice B2 Cells.length c2] 0 hS5 K4 rfl (hf.g 4 2)) ?_
  rintro _ w_10 ⟨rfl, hS15⟩
  refine rn (ct_ ?_)
  obtain rfl := sI hF1
  exact ret1 Tryz.results30 (v1 := .agg #[vi m.Rows, vi 1, .slice B2 Cells.length c2]) (resAt_cellA (B := aD b1) (i := 0) (cs := [vi m.Rows, vi 1, .slice B2 Cells.length c2]) (vs := [vi m.Rows, vi 1, .slice B2 Cells.length c2]) (hf.g 4 2) K8 K4 (hS15.c 1) rfl rfl) ⟨B2, c2, rfl, (hS15.sN [3])⟩

theorem c_spec_DrawReduceColumn (code : List Int) (B : Option Addr) (c n : Nat) (w0 : World) (hn : code.length = n) (hS : ST w0 [] w0 [] [⟨B, (code.flatMap enc_u8)⟩]) {r_ : TMatrix} {r_1 : Int} (hF : F_spec_DrawReduceColumn code = some (r_, r_1)) :
  CV Tryz.prog 11 #[.slice B n c] w0 (fun v w' => ∃ (B1 : Option Addr) (c1 : Nat), v = .tuple #[gM_ r_ B1 c1, vi r_1] ∧ r_.Cells.length ≤ c1 ∧ Org w0 [] [⟨B, (code.flatMap enc_u8)⟩] [⟨B1, (r_.Cells.flatMap eN0)⟩] ∧ ST w0 [] w' [] [⟨B1, (r_.Cells.flatMap eN0)⟩]) := by
 subst hn
 unfold F_spec_DrawReduceColumn at hF
 refine cv_of_cw 64 Tryz.func11 rfl Tryz.ntmps11 rfl ?_
 refine cq (cr ?_)
 refine sS 2 (yN kN_ 3 hS K10) ?_
 rintro _ w_ ⟨b, rfl, hS1⟩
 refine sQ 3 (yg (vi 0)) (rn (cq (cr ?_)))
 refine sQ 8 (ym (.slice B code.length c)) <| sQ 9 (Y_buildS (zs := [.slice none 0 0, vi 0, .int .u64 0]) (vs := [(0, .slice B code.length c)]) (cs := [.slice B code.length c, vi 0, .int .u64 0]) k_pl_55 k_zero_55 rfl (mpc rfl mpn) rfl) ?_
 refine sS 10 (yB 55 (.agg #[.slice B code.length c, vi 0, .int .u64 0]) [.slice B code.length c, vi 0, .int .u64 0] 3 hS1) ?_
 rintro _ w_1 ⟨b1, rfl, hS2⟩
 refine sQ 4 (yg (pt (aD b1) 0)) (rn (cq (cq (cr ?_))))
 refine sQ 11 (ym (pt (aD b1) 0)) ?_
 obtain ⟨⟨r_2, m⟩, hc, hF⟩ := bI hF
 refine sc 12 rfl rfl (yC [pt (aD b1) 0, vi 12] K55 (c_spec_l1Cur_one (Tl1Cur.mk code 0 0) 12 (aD b1) B c code.length _ rfl (hS2.inn [false, true] rfl [(true, 0)] rfl) hc)) ?_
 rintro _ w_2 ⟨rfl, hd⟩
 have hS3 := hS2.out [false, true] rfl hd
 refine rn ?_
 refine cw_cond (b := r_2) rfl (fun hb => ?_) (fun hb => ?_)
 ·skip
  have hF1 := ct hF hb
  refine cq (cr ?_)
  refine sQ 13 (ym (pt (aD b1) 0)) ?_
  obtain ⟨⟨r_3, m1⟩, hc1, hF1⟩ := bI hF1
  refine sc 14 rfl rfl (yC [pt (aD b1) 0] k_call_27 (c_spec_l1Cur_anyMatrix (Tl1Cur.mk code m.at_ m.seed) (aD b1) B c code.length _ rfl (hS3.inn [false, true] rfl [(true, 0)] rfl) hc1)) ?_
  rintro _ w_3 ⟨B2, c2, rfl, hq, ho, hd1⟩
  have hS4 := ST.outR hS3 [false, true] rfl hd1 ho (sk 0 (fun _ h => by cases h))
  have ho1 : Org w0 [] [⟨B, (code.flatMap enc_u8)⟩] [⟨B2, (r_3.Cells.flatMap eN0)⟩] := org_trans hS3 (msk_mem (mask := [false, true]) rfl) ho (org_cons (org_mem (i := 0) rfl) org_nil)
  have hS5 : ST w0 [] _ [⟨aD b, 34, kN_, 3⟩, ⟨aD b1, 55, [.slice B code.length c, vi m1.at_, .int .u64 m1.seed], 3⟩] [⟨B2, (r_3.Cells.flatMap eN0)⟩, ⟨B, (code.flatMap enc_u8)⟩] := hS4
  refine sQ 15 (ym (pt (aD b1) 0)) ?_
  obtain ⟨⟨r_4, m2⟩, hc2, hF1⟩ := bI hF1
  refine sc 16 rfl rfl (yC [pt (aD b1) 0, vi 4] K24 (c_spec_l1Cur_pick (Tl1Cur.mk code m1.at_ m1.seed) 4 (aD b1) B c code.length _ rfl (hS5.inn [false, true] rfl [(true, 1)] rfl) hc2)) ?_
  rintro _ w_4 ⟨rfl, hd2⟩
  have hS6 := hS5.out [false, true] rfl hd2
  refine s0 (yT 0 3 (aD b) 34 (gM_ r_3 B2 c2) (kM_ r_3 B2 c2) 0 hS6 K4) ?_
  rintro _ w_5 ⟨rfl, hS7⟩
  refine sQ 3 (yg (vi r_4)) (rn (ct_ ?_))
  obtain ⟨rfl, rfl⟩ := pr2 (sI hF1)
  exact ret2 Tryz.results11 (v1 := gM_ r_3 B2 c2) (resAt_cellA (B := aD b) (i := 0) (cs := kM_ r_3 B2 c2) (vs := kM_ r_3 B2 c2) rfl K8 K4 (hS7.c 0) rfl rfl) (v2 := vi r_4) (resAt_tmp rfl) ⟨B2, c2, rfl, (len_le rfl hq), (org_cons (org_sub ho1 (sk 0 (fun _ h => by cases h))) org_nil), (ST.subR (R' := [⟨B2, (r_3.Cells.flatMap eN0)⟩]) (hS7.sel [] rfl rfl) (sk 0 (fun _ h => by cases h)))⟩
 ·skip
  have hF2 := cf' hF hb
  refine cw_skip (cq (cr ?_))
  refine sQ 17 (ym (pt (aD b1) 0)) ?_
  obtain ⟨⟨r_5, m3⟩, hc3, hF2⟩ := bI hF2
  refine sc 18 rfl rfl (yC [pt (aD b1) 0] k_call_29 (c_spec_l1Cur_unitary (Tl1Cur.mk code m.at_ m.seed) (aD b1) B c code.length _ rfl (hS3.inn [false, true] rfl [(true, 0)] rfl) hc3)) ?_
  rintro _ w_6 ⟨B3, c3, rfl, hd3⟩
  have hS8 := hS3.out [false, true] rfl hd3
  refine sS 5 (yN kN_ 3 hS8 K10) ?_
  rintro _ w_7 ⟨b2, rfl, hS9⟩
  refine s0 (yT 3 3 (aD b2) 34 (gM_ r_5 B3 c3) (kM_ r_5 B3 c3) 0 hS9 K4) ?_
  rintro _ w_8 ⟨rfl, hS10⟩
  have hS10 : ST w0 [] _ [⟨aD b, 34, kN_, 3⟩, ⟨aD b1, 55, [.slice B code.length c, vi m3.at_, .int .u64 m3.seed], 3⟩, ⟨B3, 51, (r_5.Cells.flatMap eN0), c3 * 5⟩, ⟨aD b2, 34, kM_ r_5 B3 c3, 3⟩] [⟨B, (code.flatMap enc_u8)⟩] := hS10
  refine rn (cq ?_)
  obtain ⟨⟨r_6, m4⟩, hc4, hF2⟩ := bI hF2
  obtain ⟨r_7, hc5, hF2⟩ := bI hF2
  refine cw_mid (fun f w => ∃ (B5 : Option Addr) (B6 : Option Addr) (c5 : Nat), FF f [(2, pt (aD b) 0), (4, pt (aD b1) 0), (6, pt B5 0)] ∧ ST w0 [] w [⟨aD b, 34, kN_, 3⟩, ⟨aD b1, 55, [.slice B code.length c, vi m4.at_, .int .u64 m4.seed], 3⟩, ⟨B5, 34, kM_ r_7 B6 c5, 3⟩, ⟨B6, 51, (r_7.Cells.flatMap eN0), c5 * 5⟩] [⟨B, (code.flatMap enc_u8)⟩]) ?_ ?_
  ·skip
   refine ra_start (hS10.se [0, 2, 3]).fn (by kernel_rfl) ?_
   have hS14 := hS10.drew
   refine rq 0 19 (v := gM_ r_5 B3 c3) rfl (hS14.se [0, 2, 3]) (fun w' hw' => (yb (aD b2) 0 (kM_ r_5 B3 c3) K8 K4 (ST.cf hw' (i := 2) rfl))) ?_
   refine rq 1 20 (v := pt (aD b1) 0) rfl (hS14.se [0, 2, 3]) (fun w' hw' => (ym (pt (aD b1) 0))) ?_
   refine rq 2 21 (v := pt (aD b2) 1) rfl (hS14.se [0, 2, 3]) (fun w' hw' => (yd (aD b2) 0 0 K29 K0)) ?_
   refine rq 3 22 (v := vi r_5.Cols) rfl (hS14.se [0, 2, 3]) (fun w' hw' => (yl (aD b2) 1 (kM_ r_5 B3 c3) (vi r_5.Cols) K1 (ST.cf hw' (i := 2) rfl))) ?_
   refine rA [4, 6] ?_
   refine rC 23 4 rfl (yC [pt (aD b1) 0, vi r_5.Cols] K24 (c_spec_l1Cur_pick (Tl1Cur.mk code m3.at_ m3.seed) r_5.Cols (aD b1) B c code.length _ rfl (hS14.inn [false, true, false, false] rfl [(true, 0)] rfl) hc4)) ?_ ?_
   ·rintro _ w_9 ⟨rfl, hd4⟩
    have hS15 := hS14.out [false, true, false, false] rfl hd4
    refine ⟨(hS15.se [0, 1, 2]), ?_⟩
    refine rA [5, 6] ?_
    refine rC 24 5 rfl (yC [gM_ r_5 B3 c3, vi r_6] K101 (c_spec_l3Column r_5 r_6 B3 c3 r_5.Cells.length _ rfl (hS15.inn0 [(false, 1)] rfl) hc5)) ?_ ?_
    ·rintro _ w_10 ⟨B4, c4, rfl, hd5⟩
     have hS16 := hS15.out0 hd5
     refine ⟨(hS16.se [0, 1, 2]), ?_⟩
     refine rA [6] ?_
     refine rS 6 6 rfl (yN kN_ 3 hS16 K10) ?_ ?_
     ·rintro _ w_11 ⟨b3, rfl, hS17⟩
      refine ⟨(hS17.se [0, 1, 2]), ?_⟩
      refine rA [7] ?_
      refine rZ 7 rfl (yT 5 3 (aD b3) 34 (gM_ r_7 B4 c4) (kM_ r_7 B4 c4) 0 hS17 K4) ?_ ?_
      ·rintro _ w_12 ⟨rfl, hS18⟩
       refine ⟨(hS18.se [0, 1, 2]), ?_⟩
       refine ra_done (by kernel_rfl) ?_
       exact ⟨aD b3, B4, c4, (fc rfl (fc rfl (fc rfl fn_))), (hS18.sel [0, 3, 5, 4] rfl rfl)⟩
      exact aN
     exact aN
    refine rS 6 6 rfl (yN kN_ 3 hS15 K10) ?_ ?_
    ·rintro _ w_13 ⟨b3, rfl, hS19⟩
     refine ⟨(hS19.se [0, 1, 2]), ?_⟩
     refine rA [5] ?_
     refine rC 24 5 rfl (yC [gM_ r_5 B3 c3, vi r_6] K101 (c_spec_l3Column r_5 r_6 B3 c3 r_5.Cells.length _ rfl (hS19.inn0 [(false, 1)] rfl) hc5)) ?_ ?_
     ·rintro _ w_14 ⟨B4, c4, rfl, hd6⟩
      have hS20 := hS19.out0 hd6
      refine ⟨(hS20.se [0, 1, 2]), ?_⟩
      refine rA [7] ?_
      refine rZ 7 rfl (yT 4 3 (aD b3) 34 (gM_ r_7 B4 c4) (kM_ r_7 B4 c4) 0 hS20 K4) ?_ ?_
      ·rintro _ w_15 ⟨rfl, hS21⟩
       refine ⟨(hS21.se [0, 1, 2]), ?_⟩
       refine ra_done (by kernel_rfl) ?_
       exact ⟨aD b3, B4, c4, (fc rfl (fc rfl (fc rfl fn_))), (hS21.sel [0, 3, 4, 5] rfl rfl)⟩
      exact aN
     exact aN
    exact aN
   refine rS 6 6 rfl (yN kN_ 3 hS14 K10) ?_ ?_
   ·rintro _ w_16 ⟨b3, rfl, hS22⟩
    have hS22 : ST w0 [] _ [⟨aD b, 34, kN_, 3⟩, ⟨aD b1, 55, [.slice B code.length c, vi m3.at_, .int .u64 m3.seed], 3⟩, ⟨B3, 51, (r_5.Cells.flatMap eN0), c3 * 5⟩, ⟨aD b2, 34, kM_ r_5 B3 c3, 3⟩, ⟨aD b3, 34, kN_, 3⟩] [⟨B, (code.flatMap enc_u8)⟩] := hS22
    refine ⟨(hS22.se [0, 2, 3]), ?_⟩
    refine rA [4] ?_
    refine rC 23 4 rfl (yC [pt (aD b1) 0, vi r_5.Cols] K24 (c_spec_l1Cur_pick (Tl1Cur.mk code m3.at_ m3.seed) r_5.Cols (aD b1) B c code.length _ rfl (hS22.inn [false, true, false, false, false] rfl [(true, 0)] rfl) hc4)) ?_ ?_
    ·rintro _ w_17 ⟨rfl, hd7⟩
     have hS23 := hS22.out [false, true, false, false, false] rfl hd7
     refine ⟨(hS23.se [0, 1, 2]), ?_⟩
     refine rA [5] ?_
     refine rC 24 5 rfl (yC [gM_ r_5 B3 c3, vi r_6] K101 (c_spec_l3Column r_5 r_6 B3 c3 r_5.Cells.length _ rfl (hS23.inn0 [(false, 1)] rfl) hc5)) ?_ ?_
     ·rintro _ w_18 ⟨B4, c4, rfl, hd8⟩
      have hS24 := hS23.out0 hd8
      refine ⟨(hS24.se [0, 1, 2]), ?_⟩
      refine rA [7] ?_
      refine rZ 7 rfl (yT 3 3 (aD b3) 34 (gM_ r_7 B4 c4) (kM_ r_7 B4 c4) 0 hS24 K4) ?_ ?_
      ·rintro _ w_19 ⟨rfl, hS25⟩
       refine ⟨(hS25.se [0, 1, 2]), ?_⟩
       refine ra_done (by kernel_rfl) ?_
       exact ⟨aD b3, B4, c4, (fc rfl (fc rfl (fc rfl fn_))), (hS25.sel [0, 4, 3, 5] rfl rfl)⟩
      exact aN
     exact aN
    exact aN
   exact aN
  rintro f w ⟨B5, B6, c5, hf, hS13⟩
  refine cq ?_
  obtain ⟨z, hz, hF3⟩ := bI hF2
  refine cw_mid (fun f w => ∃ (at_ : Int) (seed : Int) (Cells : List TDyadic), (at_, seed, Cells) = z ∧ FF f [(2, pt (aD b) 0), (4, pt (aD b1) 0), (6, pt B5 0)] ∧ Cells.length = r_7.Cells.length ∧ ST w0 [] w [⟨aD b, 34, kN_, 3⟩, ⟨aD b1, 55, [.slice B code.length c, vi at_, .int .u64 seed], 3⟩, ⟨B5, 34, kM_ r_7 B6 c5, 3⟩, ⟨B6, 51, (Cells.flatMap eN0), c5 * 5⟩] [⟨B, (code.flatMap enc_u8)⟩]) ?_ ?_
  ·skip
   refine cq (cr ?_)
   refine sQ 25 (ym (pt (aD b1) 0) rfl (hf.g 4 1)) ?_
   obtain ⟨⟨r_8, m5⟩, hc6, hz⟩ := bI hz
   refine sc 26 rfl rfl (yC [pt (aD b1) 0, vi 16] K55 (c_spec_l1Cur_one (Tl1Cur.mk code m4.at_ m4.seed) 16 (aD b1) B c code.length _ rfl (hS13.inn [false, true, false, false] rfl [(true, 0)] rfl) hc6)) ?_
   rintro _ w_20 ⟨rfl, hd9⟩
   have hS27 := hS13.out [false, true, false, false] rfl hd9
   refine rn ?_
   refine cw_cond (b := r_8) rfl (fun hb1 => ?_) (fun hb1 => ?_)
   ·skip
    have hF4 := ct hz hb1
    obtain ⟨⟨r_9, m6⟩, hc7, hF4⟩ := bI hF4
    obtain ⟨⟨r_10, m7⟩, hc8, hF4⟩ := bI hF4
    obtain ⟨x, hx, hF4⟩ := bI hF4
    refine ra_start (hS27.se [0, 1]).fn (by kernel_rfl) ?_
    have hS30 := hS27.drew
    refine rq 0 27 (v := pt B5 2) rfl (hS30.se [0, 1]) (fun w' hw' => (yd B5 0 0 K15 K13 rfl (hf.g 6 2))) ?_
    refine rq 1 28 (v := .slice B6 r_7.Cells.length c5) rfl (hS30.se [0, 1]) (fun w' hw' => (yl B5 2 (kM_ r_7 B6 c5) (.slice B6 r_7.Cells.length c5) K16 (ST.cf hw' (i := 1) rfl))) ?_
    refine rq 2 29 (v := pt (aD b1) 0) rfl (hS30.se [0, 1]) (fun w' hw' => (ym (pt (aD b1) 0) rfl (hf.g 4 1))) ?_
    refine rq 3 30 (v := pt B5 0) rfl (hS30.se [0, 1]) (fun w' hw' => (yd B5 0 0 K34 K0 rfl (hf.g 6 2))) ?_
    refine rq 4 31 (v := vi r_7.Rows) rfl (hS30.se [0, 1]) (fun w' hw' => (yl B5 0 (kM_ r_7 B6 c5) (vi r_7.Rows) K1 (ST.cf hw' (i := 1) rfl))) ?_
    refine rq 6 33 (v := pt (aD b1) 0) rfl (hS30.se [0, 1]) (fun w' hw' => (ym (pt (aD b1) 0) rfl (hf.g 4 1))) ?_
    refine rA [5] ?_
    refine rC 32 5 rfl (yC [pt (aD b1) 0, vi r_7.Rows] K24 (c_spec_l1Cur_pick (Tl1Cur.mk code m5.at_ m5.seed) r_7.Rows (aD b1) B c code.length _ rfl (hS30.inn [false, false, false, true] rfl [(true, 0)] rfl) hc7)) ?_ ?_
    ·rintro _ w_21 ⟨rfl, hd10⟩
     have hS31 := hS30.out [false, false, false, true] rfl hd10
     refine ⟨(hS31.se [0, 1]), ?_⟩
     refine rA [7] ?_
     refine rC 34 7 rfl (yC [pt (aD b1) 0] K93 (c_spec_l1Cur_dyadic (Tl1Cur.mk code m6.at_ m6.seed) (aD b1) B c code.length _ rfl (hS31.inn [false, false, false, true] rfl [(true, 0)] rfl) hc8)) ?_ ?_
     ·rintro _ w_22 ⟨rfl, hd11⟩
      have hS32 := hS31.out [false, false, false, true] rfl hd11
      refine ⟨(hS32.se [0, 1]), ?_⟩
      refine rA [8] ?_
      refine ra_y 35 (i := 8) (v := pt B6 (r_9.toNat * 5)) rfl rfl rfl (Y_index (B := B6) (m := r_7.Cells.length) (c := c5) (k := .i64) (i := r_9) K12 K2 rfl rfl rfl (gi_isSome eN1 rfl (hS32.c 2) hx) (getI_nn hx) (getI_ltI hx rfl)) (hS32.se [0, 1]) ?_ ?_
      ·skip
       refine rA [9] ?_
       refine rZ 9 rfl (yS 2 5 B6 51 (gD_ r_10) (kD_ r_10) (r_9.toNat * 5) ((r_7.Cells.set r_9.toNat r_10).flatMap eN0) hS32 K2 rfl rfl rfl rfl rfl rfl rfl (gi_fit0 eN1 hx) (gi_set eN1 hx r_10 rfl)) ?_ ?_
       ·rintro _ w_23 ⟨rfl, hS33⟩
        refine ⟨(hS33.se [0, 1]), ?_⟩
        refine ra_done (by kernel_rfl) ?_
        exact ⟨m7.at_, m7.seed, (r_7.Cells.set r_9.toNat r_10), (sI hF4), (fc (hf.g 2 0) (fc (hf.g 4 1) (fc (hf.g 6 2) fn_))), (set_len _ _ _ rfl), (hS33.sel [0, 3, 1, 2] rfl rfl)⟩
       exact aN
      exact aN
     exact aN
    exact aN
   ·skip
    have hF5 := cf' hz hb1
    refine cw_skip ?_
    exact ⟨m5.at_, m5.seed, r_7.Cells, (sI hF5), (fc (hf.g 2 0) (fc (hf.g 4 1) (fc (hf.g 6 2) fn_))), rfl, (hS27.sel [0, 3, 1, 2] rfl rfl)⟩
  rintro f w ⟨at_, seed, Cells, rfl, hf1, hl, hS26⟩
  refine cq (cr ?_)
  refine sQ 7 (yg (vi 0)) (rn (cq ?_))
  obtain ⟨z1, hz1, hF6⟩ := bI hF3
  refine cw_mid (fun f w => ∃ (at_1 : Int) (seed1 : Int) (from_ : Int), (at_1, seed1, from_) = z1 ∧ FF f [(2, pt (aD b) 0), (4, pt (aD b1) 0), (6, pt B5 0), (7, vi from_)] ∧ ST w0 [] w [⟨aD b, 34, kN_, 3⟩, ⟨aD b1, 55, [.slice B code.length c, vi at_1, .int .u64 seed1], 3⟩, ⟨B5, 34, kM_ r_7 B6 c5, 3⟩, ⟨B6, 51, (Cells.flatMap eN0), c5 * 5⟩] [⟨B, (code.flatMap enc_u8)⟩]) ?_ ?_
  ·skip
   refine cq (cr ?_)
   refine sQ 36 (ym (pt (aD b1) 0) rfl (hf1.g 4 1)) ?_
   obtain ⟨⟨r_11, m8⟩, hc9, hz1⟩ := bI hz1
   refine sc 37 rfl rfl (yC [pt (aD b1) 0, vi 3] K55 (c_spec_l1Cur_one (Tl1Cur.mk code at_ seed) 3 (aD b1) B c code.length _ rfl (hS26.inn [false, true, false, false] rfl [(true, 0)] rfl) hc9)) ?_
   rintro _ w_24 ⟨rfl, hd12⟩
   have hS35 := hS26.out [false, true, false, false] rfl hd12
   have hS35 : ST w0 [] _ [⟨aD b, 34, kN_, 3⟩, ⟨B5, 34, kM_ r_7 B6 c5, 3⟩, ⟨B6, 51, (Cells.flatMap eN0), c5 * 5⟩, ⟨aD b1, 55, [.slice B code.length c, vi m8.at_, .int .u64 m8.seed], 3⟩] [⟨B, (code.flatMap enc_u8)⟩] := hS35
   refine rn ?_
   refine cw_cond (b := r_11) rfl (fun hb2 => ?_) (fun hb2 => ?_)
   ·skip
    have hF7 := ct hz1 hb2
    obtain ⟨z2, hz2, hF8⟩ := bI hF7
    refine cw_block ?_
    refine cw_loop (fun k f w => ∃ (from_1 : Int), FF f [(2, pt (aD b) 0), (4, pt (aD b1) 0), (6, pt B5 0), (7, vi from_1)] ∧ ST w0 [] w [⟨aD b, 34, kN_, 3⟩, ⟨aD b1, 55, [.slice B code.length c, vi m8.at_, .int .u64 m8.seed], 3⟩, ⟨B5, 34, kM_ r_7 B6 c5, 3⟩, ⟨B6, 51, (Cells.flatMap eN0), c5 * 5⟩] [⟨B, (code.flatMap enc_u8)⟩] ∧ whX (F_spec_DrawReduceColumn_l1 r_7 Cells) k from_1 = some z2) fuel ⟨0, (fc (hf1.g 2 0) (fc (hf1.g 4 1) (fc (hf1.g 6 2) (fc rfl fn_)))), (hS35.sel [0, 3, 1, 2] rfl rfl), hz2⟩ ?_
    rintro k_ f w ⟨from_1, hf3, hS36, hL⟩
    obtain ⟨K9, y, rfl, hb3, hL1⟩ := whX_go hL
    unfold F_spec_DrawReduceColumn_l1 at hb3
    refine cq (cq (cr ?_))
    refine sQ 38 (ym (vi from_1) rfl (hf3.g 7 3)) <| sQ 39 (yP from_1 1) <| sQ 40 (yd B5 0 0 K34 K0 rfl (hf3.g 6 2)) <| sQ 41 (yl B5 0 (kM_ r_7 B6 c5) (vi r_7.Rows) K1 (hS36.c 2)) <| sQ 42 (yL (i64.wrap (from_1 + 1)) r_7.Rows) <| sQ 43 (ym (.bool (decide ((i64.wrap (from_1 + 1)) < r_7.Rows)))) ?_
    refine sgq 44 (B := (decide ((i64.wrap (from_1 + 1)) < r_7.Rows))) (v := pt B5 2) rfl rfl (uT_ 43) (fun hg => (yd B5 0 0 K15 K13 rfl (hf3.g 6 2))) ?_
    refine sgq 45 (B := (decide ((i64.wrap (from_1 + 1)) < r_7.Rows))) (v := .slice B6 r_7.Cells.length c5) rfl rfl (uT_ 43) (fun hg1 => (yl B5 2 (kM_ r_7 B6 c5) (.slice B6 r_7.Cells.length c5) K16 (hS36.c 2) rfl (gv_of (v := pt B5 2) hg1))) ?_
    refine sgq 46 (B := (decide ((i64.wrap (from_1 + 1)) < r_7.Rows))) (v := vi from_1) rfl rfl (uT_ 43) (fun hg2 => (ym (vi from_1) rfl (hf3.g 7 3))) ?_
    obtain ⟨x1, hx1, hb3⟩ := bI hb3
    refine sgq 47 (B := (decide ((i64.wrap (from_1 + 1)) < r_7.Rows))) (v := pt B6 (from_1.toNat * 5)) rfl rfl (uT_ 43) (fun hg3 => (Y_index (B := B6) (m := r_7.Cells.length) (c := c5) (k := .i64) (i := from_1) K12 K2 rfl (gv_of (v := .slice B6 r_7.Cells.length c5) hg3) (gv_of (v := vi from_1) hg3) (gi_isSome eN1 rfl (hS36.c 3) (gb_inv hx1 hg3)) (getI_nn (gb_inv hx1 hg3)) (getI_ltI (gb_inv hx1 hg3) hl))) ?_
    refine sgq 48 (B := (decide ((i64.wrap (from_1 + 1)) < r_7.Rows))) (v := gD_ x1) rfl rfl (uT_ 43) (fun hg4 => (ya B6 (from_1.toNat * 5) (Cells.flatMap eN0) (kD_ x1) K5 K2 (hS36.c 3) rfl (gv_of (v := pt B6 (from_1.toNat * 5)) hg4) (eN1 x1) (gi_seg eN1 (gb_inv hx1 hg4)))) ?_
    refine sgq 49 (B := (decide ((i64.wrap (from_1 + 1)) < r_7.Rows))) (v := gZ_) rfl rfl (uT_ 43) (fun hg5 => (Y_buildS (zs := kZ_) (vs := []) (cs := kZ_) K21 K6 rfl mpn rfl)) ?_
    refine sgq 50 (B := (decide ((i64.wrap (from_1 + 1)) < r_7.Rows))) (v := .bool (((x1.Num.A == 0) && ((x1.Num.B == 0) && ((x1.Num.C == 0) && ((x1.Num.D == 0) && true)))) && ((x1.Exp == 0) && true))) rfl rfl (uT_ 43) (fun hg6 => (Y_eqA (xs := #[vi x1.Num.A, vi x1.Num.B, vi x1.Num.C, vi x1.Num.D, vi x1.Exp]) (ys := #[vi 0, vi 0, vi 0, vi 0, vi 0]) (b := (((x1.Num.A == 0) && ((x1.Num.B == 0) && ((x1.Num.C == 0) && ((x1.Num.D == 0) && true)))) && ((x1.Exp == 0) && true))) K72 rfl (gv_of (v := gD_ x1) hg6) (gv_of (v := gZ_) hg6) (eqr_struct (xs := kD_ x1) (ys := kZ_) K73 K74 (pts_ag (us := kR_ x1.Num) (vs := [vi 0, vi 0, vi 0, vi 0]) K7 K3 rfl rfl (eqr_struct (xs := kR_ x1.Num) (ys := [vi 0, vi 0, vi 0, vi 0]) K75 K76 (pts_sc K1 rfl rfl (eqr_int K25) (pts_sc K1 rfl rfl (eqr_int K25) (pts_sc K1 rfl rfl (eqr_int K25) (pts_sc K1 rfl rfl (eqr_int K25) pts_nil))))) (pts_sc K1 rfl rfl (eqr_int K25) pts_nil))))) ?_
    refine sQ 51 (Y_and (b := (decide ((i64.wrap (from_1 + 1)) < r_7.Rows))) (z := (((x1.Num.A == 0) && ((x1.Num.B == 0) && ((x1.Num.C == 0) && ((x1.Num.D == 0) && true)))) && ((x1.Exp == 0) && true))) rfl rfl rfl rfl) (rn ?_)
    refine cw_cond (b := ((decide ((i64.wrap (from_1 + 1)) < r_7.Rows)) && (((x1.Num.A == 0) && ((x1.Num.B == 0) && ((x1.Num.C == 0) && ((x1.Num.D == 0) && true)))) && ((x1.Exp == 0) && true)))) rfl (fun hb4 => ?_) (fun hb4 => ?_)
    ·skip
     have hF9 := ct hb3 hb4
     refine cw_skip (cw_block (cr ?_))
     refine sQ 52 (ym (vi from_1) rfl (hf3.g 7 3)) <| sQ 53 (yP from_1 1) <| sQ 7 (yg (vi (i64.wrap (from_1 + 1)))) (rn ?_)
     obtain rfl := sI hF9
     exact ⟨K9, Nat.lt_succ_self _, (i64.wrap (from_1 + 1)), (fc (hf3.g 2 0) (fc (hf3.g 4 1) (fc (hf3.g 6 2) (fc rfl fn_)))), (hS36.sel [0, 1, 2, 3] rfl rfl), hL1⟩
    ·skip
     have hF10 := cf' hb3 hb4
     refine cw_exit rfl ?_
     obtain rfl := sI hF10
     obtain rfl := sI hL1
     exact ⟨m8.at_, m8.seed, from_1, (sI hF8), (fc (hf3.g 2 0) (fc (hf3.g 4 1) (fc (hf3.g 6 2) (fc (hf3.g 7 3) fn_)))), (hS36.sel [0, 1, 2, 3] rfl rfl)⟩
   ·skip
    have hF11 := cf' hz1 hb2
    refine cw_skip ?_
    exact ⟨m8.at_, m8.seed, 0, (sI hF11), (fc (hf1.g 2 0) (fc (hf1.g 4 1) (fc (hf1.g 6 2) (fc rfl fn_)))), (hS35.sel [0, 3, 1, 2] rfl rfl)⟩
  rintro f w ⟨at_1, seed1, from_, rfl, hf2, hS34⟩
  refine cq ?_
  obtain ⟨⟨r_12, m9⟩, hc10, hF6⟩ := bI hF6
  obtain ⟨⟨r_13, m10⟩, hc11, hF6⟩ := bI hF6
  refine ra_start (hS34.se [2, 3]).fn (by kernel_rfl) ?_
  have hS39 := hS34.drew
  refine rq 0 54 (v := gM_ r_7 B6 c5) rfl (hS39.se [2, 3]) (fun w' hw' => (yb B5 0 (kM_ r_7 B6 c5) K8 K4 (ST.cf hw' (i := 0) rfl) rfl (hf2.g 6 2))) ?_
  refine rq 1 55 (v := vi from_) rfl (hS39.se [2, 3]) (fun w' hw' => (ym (vi from_) rfl (hf2.g 7 3))) ?_
  refine rq 2 56 (v := pt (aD b1) 0) rfl (hS39.se [2, 3]) (fun w' hw' => (ym (pt (aD b1) 0) rfl (hf2.g 4 1))) ?_
  refine rq 6 60 (v := pt (aD b1) 0) rfl (hS39.se [2, 3]) (fun w' hw' => (ym (pt (aD b1) 0) rfl (hf2.g 4 1))) ?_
  refine rA [3] ?_
  refine rC 57 3 rfl (yC [pt (aD b1) 0, vi 12] K24 (c_spec_l1Cur_pick (Tl1Cur.mk code at_1 seed1) 12 (aD b1) B c code.length _ rfl (hS39.inn [false, true, false, false] rfl [(true, 0)] rfl) hc10)) ?_ ?_
  ·rintro _ w_25 ⟨rfl, hd13⟩
   have hS40 := hS39.out [false, true, false, false] rfl hd13
   refine ⟨(hS40.se [1, 2]), ?_⟩
   refine rq 4 58 (v := vi (i64.wrap (Int.tdiv r_12 11))) rfl (hS40.se [1, 2]) (fun w' hw' => (Y_quo (k := .i64) (a := r_12) (b := 11) rfl rfl rfl (by decide))) ?_
   refine rq 5 59 (v := vi (i64.wrap (from_ + (i64.wrap (Int.tdiv r_12 11))))) rfl (hS40.se [1, 2]) (fun w' hw' => (yP from_ (i64.wrap (Int.tdiv r_12 11)))) ?_
   refine rA [7] ?_
   refine rC 61 7 rfl (yC [pt (aD b1) 0, vi 12] K24 (c_spec_l1Cur_pick (Tl1Cur.mk code m9.at_ m9.seed) 12 (aD b1) B c code.length _ rfl (hS40.inn [false, false, false, true] rfl [(true, 0)] rfl) hc11)) ?_ ?_
   ·rintro _ w_26 ⟨rfl, hd14⟩
    have hS41 := hS40.out [false, false, false, true] rfl hd14
    refine ⟨(hS41.se [1, 2]), ?_⟩
    refine rq 8 62 (v := vi (i64.wrap (Int.tdiv r_13 11))) rfl (hS41.se [1, 2]) (fun w' hw' => (Y_quo (k := .i64) (a := r_13) (b := 11) rfl rfl rfl (by decide))) ?_
    refine rq 9 63 (v := vi (i64.wrap ((i64.wrap (from_ + (i64.wrap (Int.tdiv r_12 11)))) - (i64.wrap (Int.tdiv r_13 11))))) rfl (hS41.se [1, 2]) (fun w' hw' => (yM (i64.wrap (from_ + (i64.wrap (Int.tdiv r_12 11)))) (i64.wrap (Int.tdiv r_13 11)))) ?_
    refine rA [10] ?_
    refine rZ 10 rfl (yT 0 3 (aD b) 34 (gM_ r_7 B6 c5) (kM_ r_7 B6 c5) 0 hS41 K4 rfl (hf2.g 2 0)) ?_ ?_
    ·rintro _ w_27 ⟨rfl, hS42⟩
     refine ⟨(hS42.se [1, 2]), ?_⟩
     refine rq 11 3 (v := vi (i64.wrap ((i64.wrap (from_ + (i64.wrap (Int.tdiv r_12 11)))) - (i64.wrap (Int.tdiv r_13 11))))) rfl (hS42.se [1, 2]) (fun w' hw' => (yg (vi (i64.wrap ((i64.wrap (from_ + (i64.wrap (Int.tdiv r_12 11)))) - (i64.wrap (Int.tdiv r_13 11))))))) ?_
     refine ra_done (by kernel_rfl) ?_
     refine ct_ ?_
     have ho2 : Org w0 [] [⟨B, (code.flatMap enc_u8)⟩] [⟨B6, (Cells.flatMap eN0)⟩] := ST.orgOwn hS42 (i := 2) rfl
     have hcap : r_7.Cells.length ≤ c5 := (hS42.lencap (i := 2) rfl (fm_lenn (l := Cells) eN1 hl) rfl rfl)
     have hS43 : ST w0 [] _ [⟨aD b, 34, kM_ r_7 B6 c5, 3⟩, ⟨B5, 34, kM_ r_7 B6 c5, 3⟩, ⟨aD b1, 55, [.slice B code.length c, vi m10.at_, .int .u64 m10.seed], 3⟩] [⟨B6, (Cells.flatMap eN0)⟩, ⟨B, (code.flatMap enc_u8)⟩] := hS42.freeze (i := 2) rfl
     obtain ⟨rfl, rfl⟩ := pr2 (sI hF6)
     exact ret2 Tryz.results11 (v1 := gM_ r_7 B6 c5) (resAt_cellA (B := aD b) (i := 0) (cs := kM_ r_7 B6 c5) (vs := kM_ r_7 B6 c5) (hf2.g 2 0) K8 K4 (hS43.c 0) rfl rfl) (v2 := vi (i64.wrap ((i64.wrap (from_ + (i64.wrap (Int.tdiv r_12 11)))) - (i64.wrap (Int.tdiv r_13 11))))) (resAt_tmp rfl) ⟨B6, c5, (by simp [hl]), (len_le hl hcap), (org_cons ho2 org_nil), (ST.subR (R' := [⟨B6, (Cells.flatMap eN0)⟩]) (hS43.sel [] rfl rfl) (sk 0 (fun _ h => by cases h)))⟩
    exact aN
   exact aN
  exact aN

theorem c_impl_Conjugate (x : TRing)  (w0 : World)  (hS : ST w0 [] w0 [] []) {r_ : TRing} {r_1 : Bool} (hF : F_impl_Conjugate x = some (r_, r_1)) :
  CV Tryz.prog 113 #[gR_ x] w0 (fun v w' => v = .tuple #[gR_ r_, .bool r_1] ∧ ST w0 [] w' [] []) := by
 unfold F_impl_Conjugate at hF
 refine cv_of_cw 21 Tryz.func113 rfl Tryz.ntmps113 rfl ?_
 refine cq (cr ?_)
 refine sS 1 (yB 49 (gR_ x) (kR_ x) 4 hS) ?_
 rintro _ w_ ⟨b, rfl, hS1⟩
 refine sS 2 (yN [vi 0, vi 0, vi 0, vi 0] 4 hS1 K14) ?_
 rintro _ w_1 ⟨b1, rfl, hS2⟩
 refine sQ 3 (yg (.bool false)) (rn (cq (cr ?_)))
 refine sQ 4 (yd (aD b) 0 0 K17 K0) <| sQ 5 (yl (aD b) 0 (kR_ x) (vi x.A) K1 (hS2.c 0)) <| sQ 6 (yd (aD b) 0 0 K20 K0) <| sQ 7 (yl (aD b) 3 (kR_ x) (vi x.D) K1 (hS2.c 0)) <| sQ 8 (Y_neg (k := .i64) (a := x.D) rfl rfl) <| sQ 9 (yd (aD b) 0 0 K19 K0) ?_
 refine sQ 10 (yl (aD b) 2 (kR_ x) (vi x.C) K1 (hS2.c 0)) <| sQ 11 (Y_neg (k := .i64) (a := x.C) rfl rfl) <| sQ 12 (yd (aD b) 0 0 K18 K0) <| sQ 13 (yl (aD b) 1 (kR_ x) (vi x.B) K1 (hS2.c 0)) <| sQ 14 (Y_neg (k := .i64) (a := x.B) rfl rfl) <| sQ 15 (Y_buildS (zs := [vi 0, vi 0, vi 0, vi 0]) (vs := [(0, vi x.A), (1, vi (i64.wrap (-x.D))), (2, vi (i64.wrap (-x.C))), (3, vi (i64.wrap (-x.B)))]) (cs := [vi x.A, vi (i64.wrap (-x.D)), vi (i64.wrap (-x.C)), vi (i64.wrap (-x.B))]) K31 K14 rfl (mpc rfl (mpc rfl (mpc rfl (mpc rfl mpn)))) rfl) ?_
 refine sQ 16 (yb (aD b) 0 (kR_ x) K7 K3 (hS2.c 0)) ?_
 refine sS 17 (Ys_bslice (s := 4) (len := 1) (vs := [(0, gR_ x)]) (cs := kR_ x) (zs := [vi 0, vi 0, vi 0, vi 0]) (m := 4) hS2 K40 K3 K63 rfl (mpc rfl mpn) rfl rfl rfl (by kernel_rfl) (by kernel_rfl) rfl) ?_
 rintro _ w_2 ⟨b2, rfl, hS3⟩
 obtain ⟨⟨r_2, r_3⟩, hc, hF⟩ := bI hF
 refine sc 18 rfl rfl (yC [.agg #[vi x.A, vi (i64.wrap (-x.D)), vi (i64.wrap (-x.C)), vi (i64.wrap (-x.B))], .slice (aD b2) 1 1] K80 (c_impl_ringIf (TRing.mk x.A (i64.wrap (-x.D)) (i64.wrap (-x.C)) (i64.wrap (-x.B))) [x] (aD b2) 1 1 _ rfl (hS3.inn [false, false, true] rfl [] rfl) hc)) ?_
 rintro _ w_3 ⟨rfl, hd⟩
 have hS4 := hS3.out [false, false, true] rfl hd
 refine sQ 19 (ye (gR_ r_2)) <| sQ 20 (ye (.bool r_3)) ?_
 refine s0 (yT 1 4 (aD b1) 49 (gR_ r_2) (kR_ r_2) 0 hS4 K3) ?_
 rintro _ w_4 ⟨rfl, hS5⟩
 refine sQ 3 (yg (.bool r_3)) (rn (ct_ ?_))
 obtain ⟨rfl, rfl⟩ := pr2 (sI hF)
 exact ret2 Tryz.results113 (v1 := gR_ r_2) (resAt_cellA (B := aD b1) (i := 0) (cs := kR_ r_2) (vs := kR_ r_2) rfl K7 K3 (hS5.c 1) rfl rfl) (v2 := .bool r_3) (resAt_tmp rfl) ⟨rfl, (hS5.sN [])⟩

theorem c_impl_ConjDyadic (x : TDyadic)  (w0 : World)  (hS : ST w0 [] w0 [] []) {r_ : TDyadic} {r_1 : Bool} (hF : F_impl_ConjDyadic x = some (r_, r_1)) :
  CV Tryz.prog 95 #[gD_ x] w0 (fun v w' => v = .tuple #[gD_ r_, .bool r_1] ∧ ST w0 [] w' [] []) := by
 unfold F_impl_ConjDyadic at hF
 refine cv_of_cw 20 Tryz.func95 rfl Tryz.ntmps95 rfl ?_
 refine cq (cr ?_)
 refine sS 1 (yB 51 (gD_ x) (kD_ x) 5 hS) ?_
 rintro _ w_ ⟨b, rfl, hS1⟩
 refine sS 2 (yN kZ_ 5 hS1 K6) ?_
 rintro _ w_1 ⟨b1, rfl, hS2⟩
 refine sQ 3 (yg (.bool false)) (rn (cq (cq (cr ?_))))
 refine sQ 6 (yb (aD b) 0 (kD_ x) K5 K2 (hS2.c 0)) ?_
 obtain ⟨r_2, hc, hF⟩ := bI hF
 refine sc 7 rfl rfl (yC [gD_ x] K70 (c_impl_IsValidDyadic x _  (hS2.inn0 [] rfl) hc)) ?_
 rintro _ w_2 ⟨rfl, hd⟩
 have hS3 := hS2.out00 hd
 refine sQ 8 (Y_not (p := r_2) rfl rfl) (rn ?_)
 refine cw_cond (b := (!r_2)) rfl (fun hb => ?_) (fun hb => ?_)
 ·skip
  have hF1 := ct hF hb
  refine cq (cr ?_)
  refine sQ 9 (Y_buildS (zs := kZ_) (vs := []) (cs := kZ_) K21 K6 rfl mpn rfl) ?_
  refine s0 (yT 1 5 (aD b1) 51 gZ_ kZ_ 0 hS3 K2) ?_
  rintro _ w_3 ⟨rfl, hS4⟩
  refine sQ 3 (yg (.bool false)) (rn (ct_ ?_))
  obtain ⟨rfl, rfl⟩ := pr2 (sI hF1)
  exact ret2 Tryz.results95 (v1 := gZ_) (resAt_cellA (B := aD b1) (i := 0) (cs := kZ_) (vs := kZ_) rfl K5 K2 (hS4.c 1) rfl rfl) (v2 := .bool false) (resAt_tmp rfl) ⟨rfl, (hS4.sN [])⟩
 ·skip
  have hF2 := cf' hF hb
  refine cw_skip (cq (cr ?_))
  refine sQ 11 (yd (aD b) 0 3 K41 K3) <| sQ 12 (ya (aD b) 0 (kD_ x) (kR_ x.Num) K7 K3 (hS3.c 0)) ?_
  obtain ⟨⟨r_3, r_4⟩, hc1, hF2⟩ := bI hF2
  refine sc 13 rfl rfl (yC [gR_ x.Num] k_call_113 (c_impl_Conjugate x.Num _  (hS3.inn0 [] rfl) hc1)) ?_
  rintro _ w_4 ⟨rfl, hd1⟩
  have hS5 := hS3.out00 hd1
  refine sQ 10 (ym (.tuple #[gR_ r_3, .bool r_4])) <| sQ 14 (ye (gR_ r_3)) <| sQ 15 (ye (.bool r_4)) ?_
  refine sS 4 (yN [vi 0, vi 0, vi 0, vi 0] 4 hS5 K14) ?_
  rintro _ w_5 ⟨b2, rfl, hS6⟩
  refine s0 (yT 2 4 (aD b2) 49 (gR_ r_3) (kR_ r_3) 0 hS6 K3) ?_
  rintro _ w_6 ⟨rfl, hS7⟩
  refine sQ 5 (yg (.bool r_4)) (rn (cq (cr ?_)))
  refine sQ 16 (yb (aD b2) 0 (kR_ r_3) K7 K3 (hS7.c 2)) <| sQ 17 (yd (aD b) 0 0 K33 K0) <| sQ 18 (yl (aD b) 4 (kD_ x) (vi x.Exp) K1 (hS7.c 0)) <| sQ 19 (Y_buildS (zs := kZ_) (vs := [(0, gR_ r_3), (1, vi x.Exp)]) (cs := [vi r_3.A, vi r_3.B, vi r_3.C, vi r_3.D, vi x.Exp]) K21 K6 rfl (mpc rfl (mpc rfl mpn)) rfl) ?_
  refine s0 (yT 1 5 (aD b1) 51 (.agg #[vi r_3.A, vi r_3.B, vi r_3.C, vi r_3.D, vi x.Exp]) [vi r_3.A, vi r_3.B, vi r_3.C, vi r_3.D, vi x.Exp] 0 hS7 K2) ?_
  rintro _ w_7 ⟨rfl, hS8⟩
  refine sQ 3 (yg (.bool true)) (rn (ct_ ?_))
  obtain ⟨rfl, rfl⟩ := pr2 (sI hF2)
  exact ret2 Tryz.results95 (v1 := .agg #[vi r_3.A, vi r_3.B, vi r_3.C, vi r_3.D, vi x.Exp]) (resAt_cellA (B := aD b1) (i := 0) (cs := [vi r_3.A, vi r_3.B, vi r_3.C, vi r_3.D, vi x.Exp]) (vs := [vi r_3.A, vi r_3.B, vi r_3.C, vi r_3.D, vi x.Exp]) rfl K5 K2 (hS8.c 1) rfl rfl) (v2 := .bool true) (resAt_tmp rfl) ⟨rfl, (hS8.sN [])⟩

theorem c_impl_NormSquare (x : TDyadic)  (w0 : World)  (hS : ST w0 [] w0 [] []) {r_ : TDyadic} {r_1 : Bool} (hF : F_impl_NormSquare x = some (r_, r_1)) :
  CV Tryz.prog 67 #[gD_ x] w0 (fun v w' => v = .tuple #[gD_ r_, .bool r_1] ∧ ST w0 [] w' [] []) := by
 unfold F_impl_NormSquare at hF
 refine cv_of_cw 19 Tryz.func67 rfl Tryz.ntmps67 rfl ?_
 refine cq (cr ?_)
 refine sS 1 (yB 51 (gD_ x) (kD_ x) 5 hS) ?_
 rintro _ w_ ⟨b, rfl, hS1⟩
 refine sS 2 (yN kZ_ 5 hS1 K6) ?_
 rintro _ w_1 ⟨b1, rfl, hS2⟩
 refine sQ 3 (yg (.bool false)) (rn (cq (cr ?_)))
 refine sQ 7 (yb (aD b) 0 (kD_ x) K5 K2 (hS2.c 0)) ?_
 obtain ⟨⟨r_2, r_3⟩, hc, hF⟩ := bI hF
 refine sc 8 rfl rfl (yC [gD_ x] k_call_95 (c_impl_ConjDyadic x _  (hS2.inn0 [] rfl) hc)) ?_
 rintro _ w_2 ⟨rfl, hd⟩
 have hS3 := hS2.out00 hd
 refine sQ 6 (ym (.tuple #[gD_ r_2, .bool r_3])) <| sQ 9 (ye (gD_ r_2)) <| sQ 10 (ye (.bool r_3)) ?_
 refine sS 4 (yN kZ_ 5 hS3 K6) ?_
 rintro _ w_3 ⟨b2, rfl, hS4⟩
 refine s0 (yT 2 5 (aD b2) 51 (gD_ r_2) (kD_ r_2) 0 hS4 K2) ?_
 rintro _ w_4 ⟨rfl, hS5⟩
 refine sQ 5 (yg (.bool r_3)) (rn (cq (cq (cr ?_))))
 refine sQ 11 (ym (.bool r_3)) <| sQ 12 (Y_not (p := r_3) rfl rfl) (rn ?_)
 refine cw_cond (b := (!r_3)) rfl (fun hb => ?_) (fun hb => ?_)
 ·skip
  have hF1 := ct hF hb
  refine cq (cr ?_)
  refine sQ 13 (Y_buildS (zs := kZ_) (vs := []) (cs := kZ_) K21 K6 rfl mpn rfl) ?_
  refine s0 (yT 1 5 (aD b1) 51 gZ_ kZ_ 0 hS5 K2) ?_
  rintro _ w_5 ⟨rfl, hS6⟩
  refine sQ 3 (yg (.bool false)) (rn (ct_ ?_))
  obtain ⟨rfl, rfl⟩ := pr2 (sI hF1)
  exact ret2 Tryz.results67 (v1 := gZ_) (resAt_cellA (B := aD b1) (i := 0) (cs := kZ_) (vs := kZ_) rfl K5 K2 (hS6.c 1) rfl rfl) (v2 := .bool false) (resAt_tmp rfl) ⟨rfl, (hS6.sN [])⟩
 ·skip
  have hF2 := cf' hF hb
  refine cw_skip (cq (cr ?_))
  refine sQ 14 (yb (aD b) 0 (kD_ x) K5 K2 (hS5.c 0)) <| sQ 15 (yb (aD b2) 0 (kD_ r_2) K5 K2 (hS5.c 2)) ?_
  obtain ⟨⟨r_4, r_5⟩, hc1, hF2⟩ := bI hF2
  refine sc 16 rfl rfl (yC [gD_ x, gD_ r_2] K49 (c_impl_MulDyadic x r_2 _  (hS5.inn0 [] rfl) hc1)) ?_
  rintro _ w_6 ⟨rfl, hd1⟩
  have hS7 := hS5.out00 hd1
  refine sQ 17 (ye (gD_ r_4)) <| sQ 18 (ye (.bool r_5)) ?_
  refine s0 (yT 1 5 (aD b1) 51 (gD_ r_4) (kD_ r_4) 0 hS7 K2) ?_
  rintro _ w_7 ⟨rfl, hS8⟩
  refine sQ 3 (yg (.bool r_5)) (rn (ct_ ?_))
  obtain ⟨rfl, rfl⟩ := pr2 (sI hF2)
  exact ret2 Tryz.results67 (v1 := gD_ r_4) (resAt_cellA (B := aD b1) (i := 0) (cs := kD_ r_4) (vs := kD_ r_4) rfl K5 K2 (hS8.c 1) rfl rfl) (v2 := .bool r_5) (resAt_tmp rfl) ⟨rfl, (hS8.sN [])⟩

theorem c_impl_isColumn (v_ : TMatrix) (from_ : Int) (B : Option Addr) (c n : Nat) (w0 : World) (hn : v_.Cells.length = n) (hS : ST w0 [] w0 [] [⟨B, (v_.Cells.flatMap eN0)⟩]) {r_ : Bool} (hF : F_impl_isColumn v_ from_ = some r_) :
  CV Tryz.prog 32 #[.agg #[vi v_.Rows, vi v_.Cols, .slice B n c], vi from_] w0 (fun v w' => v = .bool r_ ∧ ST w0 [] w' [] []) := by
 subst hn
 unfold F_impl_isColumn at hF
 refine cv_of_cw 75 Tryz.func32 rfl Tryz.ntmps32 rfl ?_
 refine cq (cr ?_)
 refine sS 2 (yB 34 (gM_ v_ B c) (kM_ v_ B c) 3 hS) ?_
 rintro _ w_ ⟨b, rfl, hS1⟩
 refine sQ 4 (yg (.bool false)) (rn (cq (cq (cr ?_))))
 refine sQ 12 (yb (aD b) 0 (kM_ v_ B c) K8 K4 (hS1.c 0)) ?_
 obtain ⟨r_1, hc, hF⟩ := bI hF
 refine sc 13 rfl rfl (yC [gM_ v_ B c] K91 (c_impl_IsValidMatrix v_ B c v_.Cells.length _ rfl (hS1.inn0 [(true, 0)] rfl) hc)) ?_
 rintro _ w_1 ⟨rfl, hd⟩
 have hS2 := hS1.out00 hd
 refine sQ 14 (Y_not (p := r_1) rfl rfl) <| sQ 15 (ym (.bool (!r_1))) ?_
 refine sgq 16 (B := (!(!r_1))) (v := pt (aD b) 1) rfl rfl (uF_ 15) (fun hg => (yd (aD b) 0 0 K29 K0)) ?_
 refine sgq 17 (B := (!(!r_1))) (v := vi v_.Cols) rfl rfl (uF_ 15) (fun hg1 => (yl (aD b) 1 (kM_ v_ B c) (vi v_.Cols) K1 (hS2.c 0) rfl (gv_of (v := pt (aD b) 1) hg1))) ?_
 refine sgq 18 (B := (!(!r_1))) (v := .bool (v_.Cols != 1)) rfl rfl (uF_ 15) (fun hg2 => (Y_ne (k := .i64) (a := v_.Cols) (b := 1) rfl (gv_of (v := vi v_.Cols) hg2) rfl)) ?_
 refine sQ 19 (Y_or (b := (!r_1)) (z := (v_.Cols != 1)) rfl rfl rfl rfl) <| sQ 20 (ym (.bool ((!r_1) || (v_.Cols != 1)))) ?_
 refine sgq 21 (B := (!((!r_1) || (v_.Cols != 1)))) (v := pt (aD b) 0) rfl rfl (uF_ 20) (fun hg3 => (yd (aD b) 0 0 K34 K0)) ?_
 refine sgq 22 (B := (!((!r_1) || (v_.Cols != 1)))) (v := vi v_.Rows) rfl rfl (uF_ 20) (fun hg4 => (yl (aD b) 0 (kM_ v_ B c) (vi v_.Rows) K1 (hS2.c 0) rfl (gv_of (v := pt (aD b) 0) hg4))) ?_
 obtain ⟨r_2, hc1, hF⟩ := bI hF
 refine sgc 23 (B := (!((!r_1) || (v_.Cols != 1)))) (v := .bool r_2) (F := hS2.fn) rfl rfl (uF_ 20) hS2 (fun hg5 => (yC [vi v_.Rows] K106 (CV.mono (c_impl_isLevelDim v_.Rows _  (hS2.inn0 [] rfl) (gb_inv hc1 hg5)) (by rintro _ _ ⟨rfl, h⟩; exact ⟨rfl, hS2.out00 h⟩)) rfl (mc (gv_of (v := vi v_.Rows) hg5) mn))) ?_
 rintro w_2 hS3
 refine sgq 24 (B := (!((!r_1) || (v_.Cols != 1)))) (v := .bool (!r_2)) rfl rfl (uF_ 20) (fun hg6 => (Y_not (p := r_2) rfl (gv_of (v := .bool r_2) hg6))) ?_
 refine sQ 25 (Y_or (b := ((!r_1) || (v_.Cols != 1))) (z := (!r_2)) rfl rfl rfl rfl) <| sQ 26 (ym (.bool (((!r_1) || (v_.Cols != 1)) || (!r_2)))) ?_
 refine sgq 27 (B := (!(((!r_1) || (v_.Cols != 1)) || (!r_2)))) (v := vi from_) rfl rfl (uF_ 26) (fun hg7 => (ym (vi from_))) ?_
 refine sgq 28 (B := (!(((!r_1) || (v_.Cols != 1)) || (!r_2)))) (v := pt (aD b) 0) rfl rfl (uF_ 26) (fun hg8 => (yd (aD b) 0 0 K34 K0)) ?_
 refine sgq 29 (B := (!(((!r_1) || (v_.Cols != 1)) || (!r_2)))) (v := vi v_.Rows) rfl rfl (uF_ 26) (fun hg9 => (yl (aD b) 0 (kM_ v_ B c) (vi v_.Rows) K1 (hS3.c 0) rfl (gv_of (v := pt (aD b) 0) hg9))) ?_
 refine sgq 30 (B := (!(((!r_1) || (v_.Cols != 1)) || (!r_2)))) (v := vi (i64.wrap (v_.Rows - 1))) rfl rfl (uF_ 26) (fun hg10 => (yM v_.Rows 1 rfl (gv_of (v := vi v_.Rows) hg10))) ?_
 obtain ⟨r_3, hc2, hF⟩ := bI hF
 refine sgc 31 (B := (!(((!r_1) || (v_.Cols != 1)) || (!r_2)))) (v := .bool r_3) (F := hS3.fn) rfl rfl (uF_ 26) hS3 (fun hg11 => (yC [vi from_, vi 0, vi (i64.wrap (v_.Rows - 1))] K48 (CV.mono (c_impl_within from_ 0 (i64.wrap (v_.Rows - 1)) _  (hS3.inn0 [] rfl) (gb_inv hc2 hg11)) (by rintro _ _ ⟨rfl, h⟩; exact ⟨rfl, hS3.out00 h⟩)) rfl (mc (gv_of (v := vi from_) hg11) (mc rfl (mc (gv_of (v := vi (i64.wrap (v_.Rows - 1))) hg11) mn))))) ?_
 rintro w_3 hS4
 refine sgq 32 (B := (!(((!r_1) || (v_.Cols != 1)) || (!r_2)))) (v := .bool (!r_3)) rfl rfl (uF_ 26) (fun hg12 => (Y_not (p := r_3) rfl (gv_of (v := .bool r_3) hg12))) ?_
 refine sQ 33 (Y_or (b := (((!r_1) || (v_.Cols != 1)) || (!r_2))) (z := (!r_3)) rfl rfl rfl rfl) (rn ?_)
 refine cw_cond (b := ((((!r_1) || (v_.Cols != 1)) || (!r_2)) || (!r_3))) rfl (fun hb => ?_) (fun hb => ?_)
 ·skip
  have hF1 := ct hF hb
  refine cq (cr ?_)
  refine sQ 4 (yg (.bool false)) (rn (ct_ ?_))
  obtain rfl := sI hF1
  exact ret1 Tryz.results32 (v1 := .bool false) (resAt_tmp rfl) ⟨rfl, (hS4.sN [])⟩
 ·skip
  have hF2 := cf' hF hb
  refine cw_skip (cq (cr ?_))
  refine sQ 34 (Y_buildS (zs := kZ_) (vs := []) (cs := kZ_) K21 K6 rfl mpn rfl) ?_
  refine sS 5 (yN kZ_ 5 hS4 K6) ?_
  rintro _ w_4 ⟨b1, rfl, hS5⟩
  refine s0 (yT 1 5 (aD b1) 51 gZ_ kZ_ 0 hS5 K2) ?_
  rintro _ w_5 ⟨rfl, hS6⟩
  refine rn (cq (cq (cr ?_)))
  refine sQ 35 (yd (aD b) 0 0 K15 K13) <| sQ 36 (yl (aD b) 2 (kM_ v_ B c) (.slice B v_.Cells.length c) K16 (hS6.c 0)) <| sQ 37 (Y_len (B := B) (m := v_.Cells.length) (c := c) K12 rfl rfl) <| sQ 38 (ym (vi 0)) (rn ?_)
  obtain ⟨hN, hF2⟩ := chk_inv hF2
  obtain ⟨z, hz, hF3⟩ := bI hF2
  refine cw_block ?_
  refine cw_loop (fun k f w => ∃ (i : Nat) (A : Int) (B1 : Int) (C : Int) (D : Int) (Exp : Int), FF f [(1, vi from_), (5, pt (aD b1) 0), (36, .slice B v_.Cells.length c), (37, vi (v_.Cells.length : Int)), (38, vi (i : Int))] ∧ ST w0 [] w [⟨aD b1, 51, [vi A, vi B1, vi C, vi D, vi Exp], 5⟩] [⟨B, (v_.Cells.flatMap eN0)⟩] ∧ i + k = v_.Cells.length ∧ forX (F_impl_isColumn_l1 v_ from_) k i (A, B1, C, D, Exp) = some z) v_.Cells.length ⟨0, 0, 0, 0, 0, 0, (fc rfl (fc rfl (fc rfl (fc rfl (fc rfl fn_))))), (hS6.sel [1] rfl rfl), Nat.zero_add _, hz⟩ ?_
  rintro k_ f w ⟨i, A, B1, C, D, Exp, hf, hS7, hik, hL⟩
  refine cq (cr ?_)
  refine sQ 39 (yL (i : Int) (v_.Cells.length : Int) rfl (hf.g 38 4) (hf.g 37 3)) (rn (cq ?_))
  refine cw_cond (b := (decide ((i : Int) < (v_.Cells.length : Int)))) rfl (fun hlt => ?_) (fun hlt => ?_)
  ·skip
   have hlt1 : i < v_.Cells.length := by have h := of_decide_eq_true hlt; omega
   obtain ⟨K9, rfl⟩ : ∃ k2, k_ = k2 + 1 := ⟨k_ - 1, by omega⟩
   obtain ⟨y, hb1, hL1⟩ := forX_go hL
   unfold F_impl_isColumn_l1 at hb1
   refine cw_skip (cq (cw_block (cq (cr ?_))))
   refine sQ 40 (ym (vi (i : Int)) rfl (hf.g 38 4)) ?_
   obtain ⟨x, hx, hb1⟩ := bI hb1
   refine sQ 41 (Y_index (B := B) (m := v_.Cells.length) (c := c) (k := .i64) (i := (i : Int)) K12 K2 rfl (hf.g 36 2) (hf.g 38 4) (gi_isSome eN1 rfl (hS7.rf (i := 0) rfl) hx) (getI_nn hx) (getI_ltI hx rfl)) <| sQ 42 (ya B ((i : Int).toNat * 5) (v_.Cells.flatMap eN0) (kD_ x) K5 K2 (hS7.rf (i := 0) rfl) rfl rfl (eN1 x) (gi_seg eN1 hx)) ?_
   refine sS 7 (yN kZ_ 5 hS7 K6) ?_
   rintro _ w_6 ⟨b2, rfl, hS8⟩
   refine sQ 6 (yg (vi (i : Int))) ?_
   refine s0 (yT 1 5 (aD b2) 51 (gD_ x) (kD_ x) 0 hS8 K2) ?_
   rintro _ w_7 ⟨rfl, hS9⟩
   refine rn (cq (cr ?_))
   refine sQ 44 (yb (aD b2) 0 (kD_ x) K5 K2 (hS9.c 1)) ?_
   obtain ⟨⟨r_4, r_5⟩, hc3, hb1⟩ := bI hb1
   refine sc 45 rfl rfl (yC [gD_ x] k_call_67 (c_impl_NormSquare x _  (hS9.inn0 [] rfl) hc3)) ?_
   rintro _ w_8 ⟨rfl, hd1⟩
   have hS10 := hS9.out00 hd1
   refine sQ 43 (ym (.tuple #[gD_ r_4, .bool r_5])) <| sQ 46 (ye (gD_ r_4)) <| sQ 47 (ye (.bool r_5)) ?_
   refine sS 8 (yN kZ_ 5 hS10 K6) ?_
   rintro _ w_9 ⟨b3, rfl, hS11⟩
   refine s0 (yT 2 5 (aD b3) 51 (gD_ r_4) (kD_ r_4) 0 hS11 K2) ?_
   rintro _ w_10 ⟨rfl, hS12⟩
   refine sQ 9 (yg (.bool r_5)) (rn (cq (cr ?_)))
   refine sQ 49 (yb (aD b1) 0 [vi A, vi B1, vi C, vi D, vi Exp] K5 K2 (hS12.c 0) rfl (hf.g 5 1)) <| sQ 50 (yb (aD b3) 0 (kD_ r_4) K5 K2 (hS12.c 2)) ?_
   obtain ⟨⟨r_6, r_7⟩, hc4, hb1⟩ := bI hb1
   refine sc 51 rfl rfl (yC [.agg #[vi A, vi B1, vi C, vi D, vi Exp], gD_ r_4] k_call_54 (c_impl_AddDyadic (TDyadic.mk (TRing.mk A B1 C D) Exp) r_4 _  (hS12.inn0 [] rfl) hc4)) ?_
   rintro _ w_11 ⟨rfl, hd2⟩
   have hS13 := hS12.out00 hd2
   refine sQ 48 (ym (.tuple #[gD_ r_6, .bool r_7])) <| sQ 52 (ye (gD_ r_6)) <| sQ 53 (ye (.bool r_7)) ?_
   refine sS 10 (yN kZ_ 5 hS13 K6) ?_
   rintro _ w_12 ⟨b4, rfl, hS14⟩
   refine s0 (yT 3 5 (aD b4) 51 (gD_ r_6) (kD_ r_6) 0 hS14 K2) ?_
   rintro _ w_13 ⟨rfl, hS15⟩
   refine sQ 11 (yg (.bool r_7)) (rn (cq (cq (cr ?_))))
   refine sQ 54 (ym (.bool r_5)) <| sQ 55 (Y_not (p := r_5) rfl rfl) <| sQ 56 (ym (.bool (!r_5))) ?_
   refine sgq 57 (B := (!(!r_5))) (v := .bool r_7) rfl rfl (uF_ 56) (fun hg13 => (ym (.bool r_7))) ?_
   refine sgq 58 (B := (!(!r_5))) (v := .bool (!r_7)) rfl rfl (uF_ 56) (fun hg14 => (Y_not (p := r_7) rfl (gv_of (v := .bool r_7) hg14))) ?_
   refine sQ 59 (Y_or (b := (!r_5)) (z := (!r_7)) rfl rfl rfl rfl) <| sQ 60 (ym (.bool ((!r_5) || (!r_7)))) ?_
   refine sgq 61 (B := (!((!r_5) || (!r_7)))) (v := vi (i : Int)) rfl rfl (uF_ 60) (fun hg15 => (ym (vi (i : Int)))) ?_
   refine sgq 62 (B := (!((!r_5) || (!r_7)))) (v := vi from_) rfl rfl (uF_ 60) (fun hg16 => (ym (vi from_) rfl (hf.g 1 0))) ?_
   refine sgq 63 (B := (!((!r_5) || (!r_7)))) (v := .bool (decide ((i : Int) < from_))) rfl rfl (uF_ 60) (fun hg17 => (yL (i : Int) from_ rfl (gv_of (v := vi (i : Int)) hg17) (gv_of (v := vi from_) hg17))) ?_
   refine sgq 64 (B := (!((!r_5) || (!r_7)))) (v := .bool (decide ((i : Int) < from_))) rfl rfl (uF_ 60) (fun hg18 => (ym (.bool (decide ((i : Int) < from_))) rfl (gv_of (v := .bool (decide ((i : Int) < from_))) hg18))) ?_
   refine sgq 65 (B := ((!((!r_5) || (!r_7))) && (decide ((i : Int) < from_)))) (v := gD_ x) rfl rfl (wt_gt (gd_of (t := 64) (by kernel_rfl) rfl)) (fun hg19 => (yb (aD b2) 0 (kD_ x) K5 K2 (hS15.c 1))) ?_
   refine sgq 66 (B := ((!((!r_5) || (!r_7))) && (decide ((i : Int) < from_)))) (v := gZ_) rfl rfl (wt_gt (gd_of (t := 64) (by kernel_rfl) rfl)) (fun hg20 => (Y_buildS (zs := kZ_) (vs := []) (cs := kZ_) K21 K6 rfl mpn rfl)) ?_
   refine sgq 67 (B := ((!((!r_5) || (!r_7))) && (decide ((i : Int) < from_)))) (v := .bool (!(((x.Num.A == 0) && ((x.Num.B == 0) && ((x.Num.C == 0) && ((x.Num.D == 0) && true)))) && ((x.Exp == 0) && true)))) rfl rfl (wt_gt (gd_of (t := 64) (by kernel_rfl) rfl)) (fun hg21 => (Y_neA (xs := #[vi x.Num.A, vi x.Num.B, vi x.Num.C, vi x.Num.D, vi x.Exp]) (ys := #[vi 0, vi 0, vi 0, vi 0, vi 0]) (b := (((x.Num.A == 0) && ((x.Num.B == 0) && ((x.Num.C == 0) && ((x.Num.D == 0) && true)))) && ((x.Exp == 0) && true))) K72 rfl (gv_of (v := gD_ x) hg21) (gv_of (v := gZ_) hg21) (eqr_struct (xs := kD_ x) (ys := kZ_) K73 K74 (pts_ag (us := kR_ x.Num) (vs := [vi 0, vi 0, vi 0, vi 0]) K7 K3 rfl rfl (eqr_struct (xs := kR_ x.Num) (ys := [vi 0, vi 0, vi 0, vi 0]) K75 K76 (pts_sc K1 rfl rfl (eqr_int K25) (pts_sc K1 rfl rfl (eqr_int K25) (pts_sc K1 rfl rfl (eqr_int K25) (pts_sc K1 rfl rfl (eqr_int K25) pts_nil))))) (pts_sc K1 rfl rfl (eqr_int K25) pts_nil))))) ?_
   refine sgq 68 (B := (!((!r_5) || (!r_7)))) (v := .bool ((decide ((i : Int) < from_)) && (!(((x.Num.A == 0) && ((x.Num.B == 0) && ((x.Num.C == 0) && ((x.Num.D == 0) && true)))) && ((x.Exp == 0) && true))))) rfl rfl (uF_ 60) (fun hg22 => (Y_and (b := (decide ((i : Int) < from_))) (z := (!(((x.Num.A == 0) && ((x.Num.B == 0) && ((x.Num.C == 0) && ((x.Num.D == 0) && true)))) && ((x.Exp == 0) && true)))) rfl (gv_of (v := .bool (decide ((i : Int) < from_))) hg22) (gv_and (B := (!((!r_5) || (!r_7)))) (C := (decide ((i : Int) < from_))) (v := .bool (!(((x.Num.A == 0) && ((x.Num.B == 0) && ((x.Num.C == 0) && ((x.Num.D == 0) && true)))) && ((x.Exp == 0) && true)))) hg22) rfl)) ?_
   refine sQ 69 (Y_or (b := ((!r_5) || (!r_7))) (z := ((decide ((i : Int) < from_)) && (!(((x.Num.A == 0) && ((x.Num.B == 0) && ((x.Num.C == 0) && ((x.Num.D == 0) && true)))) && ((x.Exp == 0) && true))))) rfl rfl rfl rfl) (rn ?_)
   refine cw_cond (b := (((!r_5) || (!r_7)) || ((decide ((i : Int) < from_)) && (!(((x.Num.A == 0) && ((x.Num.B == 0) && ((x.Num.C == 0) && ((x.Num.D == 0) && true)))) && ((x.Exp == 0) && true)))))) rfl (fun hb2 => ?_) (fun hb2 => ?_)
   ·skip
    have hF4 := ct hb1 hb2
    refine cq (cr ?_)
    refine sQ 4 (yg (.bool false)) (rn (ct_ ?_))
    obtain rfl := sI hF4
    obtain rfl := sI hL1
    obtain rfl := sI hF3
    exact ret1 Tryz.results32 (v1 := .bool false) (resAt_tmp rfl) ⟨rfl, (hS15.sN [])⟩
   ·skip
    have hF5 := cf' hb1 hb2
    refine cw_skip (cr ?_)
    refine sQ 70 (yb (aD b4) 0 (kD_ r_6) K5 K2 (hS15.c 3)) ?_
    refine s0 (yT 0 5 (aD b1) 51 (gD_ r_6) (kD_ r_6) 0 hS15 K2 rfl (hf.g 5 1)) ?_
    rintro _ w_14 ⟨rfl, hS16⟩
    refine rn (cr ?_)
    refine sQ 71 (yP (i : Int) 1 rfl (hf.g 38 4)) <| sQ 38 (ym (vi (i64.wrap ((i : Int) + 1)))) (rn ?_)
    obtain rfl := sI hF5
    exact ⟨K9, Nat.lt_succ_self _, i + 1, r_6.Num.A, r_6.Num.B, r_6.Num.C, r_6.Num.D, r_6.Exp, (fc (hf.g 1 0) (fc (hf.g 5 1) (fc (hf.g 36 2) (fc (hf.g 37 3) (fc (congrArg (Value.int .i64) (wr_succ hlt1 hN)) fn_))))), (hS16.sel [0] rfl rfl), (by omega), hL1⟩
  ·skip
   obtain rfl : k_ = 0 := by have h := of_decide_eq_false hlt; omega
   refine cw_exit rfl ?_
   obtain rfl := sI hL
   refine cq ?_
   obtain ⟨r_8, hc5, hF3⟩ := bI hF3
   refine ra_start (hS7.se [0]).fn (by kernel_rfl) ?_
   have hS18 := hS7.drew
   refine rq 0 72 (v := .agg #[vi A, vi B1, vi C, vi D, vi Exp]) rfl (hS18.se [0]) (fun w' hw' => (yb (aD b1) 0 [vi A, vi B1, vi C, vi D, vi Exp] K5 K2 (ST.cf hw' (i := 0) rfl) rfl (hf.g 5 1))) ?_
   refine rA [1] ?_
   refine rC 73 1 rfl (yC [vi 1] K88 (c_impl_whole 1 _  (hS18.inn0 [] rfl) hc5)) ?_ ?_
   ·rintro _ w_15 ⟨rfl, hd3⟩
    have hS19 := hS18.out00 hd3
    refine ⟨(hS19.se [0]), ?_⟩
    refine rq 2 74 (v := .bool (((A == r_8.Num.A) && ((B1 == r_8.Num.B) && ((C == r_8.Num.C) && ((D == r_8.Num.D) && true)))) && ((Exp == r_8.Exp) && true))) rfl (hS19.se [0]) (fun w' hw' => (Y_eqA (xs := #[vi A, vi B1, vi C, vi D, vi Exp]) (ys := #[vi r_8.Num.A, vi r_8.Num.B, vi r_8.Num.C, vi r_8.Num.D, vi r_8.Exp]) (b := (((A == r_8.Num.A) && ((B1 == r_8.Num.B) && ((C == r_8.Num.C) && ((D == r_8.Num.D) && true)))) && ((Exp == r_8.Exp) && true))) K72 rfl rfl rfl (eqr_struct (xs := [vi A, vi B1, vi C, vi D, vi Exp]) (ys := kD_ r_8) K73 K74 (pts_ag (us := [vi A, vi B1, vi C, vi D]) (vs := kR_ r_8.Num) K7 K3 rfl rfl (eqr_struct (xs := [vi A, vi B1, vi C, vi D]) (ys := kR_ r_8.Num) K75 K76 (pts_sc K1 rfl rfl (eqr_int K25) (pts_sc K1 rfl rfl (eqr_int K25) (pts_sc K1 rfl rfl (eqr_int K25) (pts_sc K1 rfl rfl (eqr_int K25) pts_nil))))) (pts_sc K1 rfl rfl (eqr_int K25) pts_nil))))) ?_
    refine rq 3 4 (v := .bool (((A == r_8.Num.A) && ((B1 == r_8.Num.B) && ((C == r_8.Num.C) && ((D == r_8.Num.D) && true)))) && ((Exp == r_8.Exp) && true))) rfl (hS19.se [0]) (fun w' hw' => (yg (.bool (((A == r_8.Num.A) && ((B1 == r_8.Num.B) && ((C == r_8.Num.C) && ((D == r_8.Num.D) && true)))) && ((Exp == r_8.Exp) && true))))) ?_
    refine ra_done (by kernel_rfl) ?_
    refine ct_ ?_
    obtain rfl := sI hF3
    exact ret1 Tryz.results32 (v1 := .bool (((A == r_8.Num.A) && ((B1 == r_8.Num.B) && ((C == r_8.Num.C) && ((D == r_8.Num.D) && true)))) && ((Exp == r_8.Exp) && true))) (resAt_tmp rfl) ⟨rfl, (hS19.sN [])⟩
   exact aN

theorem c_impl_LeastExp (m : TMatrix) (B : Option Addr) (c n : Nat) (w0 : World) (hn : m.Cells.length = n) (hS : ST w0 [] w0 [] [⟨B, (m.Cells.flatMap eN0)⟩]) {r_ : Int} {r_1 : Bool} (hF : F_impl_LeastExp m = some (r_, r_1)) :
  CV Tryz.prog 33 #[.agg #[vi m.Rows, vi m.Cols, .slice B n c]] w0 (fun v w' => v = .tuple #[vi r_, .bool r_1] ∧ ST w0 [] w' [] []) := by
 subst hn
 unfold F_impl_LeastExp at hF
 refine cv_of_cw 23 Tryz.func33 rfl Tryz.ntmps33 rfl ?_
 refine cq (cr ?_)
 refine sS 1 (yB 34 (gM_ m B c) (kM_ m B c) 3 hS) ?_
 rintro _ w_ ⟨b, rfl, hS1⟩
 refine sQ 2 (yg (vi 0)) <| sQ 3 (yg (.bool false)) (rn (cq (cq (cr ?_))))
 refine sQ 7 (yb (aD b) 0 (kM_ m B c) K8 K4 (hS1.c 0)) ?_
 obtain ⟨r_2, hc, hF⟩ := bI hF
 refine sc 8 rfl rfl (yC [gM_ m B c] K91 (c_impl_IsValidMatrix m B c m.Cells.length _ rfl (hS1.inn0 [(true, 0)] rfl) hc)) ?_
 rintro _ w_1 ⟨rfl, hd⟩
 have hS2 := hS1.out00 hd
 refine sQ 9 (Y_not (p := r_2) rfl rfl) (rn ?_)
 refine cw_cond (b := (!r_2)) rfl (fun hb => ?_) (fun hb => ?_)
 ·skip
  have hF1 := ct hF hb
  refine cq (cr ?_)
  refine sQ 2 (yg (vi 0)) <| sQ 3 (yg (.bool false)) (rn (ct_ ?_))
  obtain ⟨rfl, rfl⟩ := pr2 (sI hF1)
  exact ret2 Tryz.results33 (v1 := vi 0) (resAt_tmp rfl) (v2 := .bool false) (resAt_tmp rfl) ⟨rfl, (hS2.sN [])⟩
 ·skip
  have hF2 := cf' hF hb
  refine cw_skip (cq (cr ?_))
  refine sQ 4 (yg (vi 0)) (rn (cq (cq (cr ?_))))
  refine sQ 10 (yd (aD b) 0 0 K15 K13) <| sQ 11 (yl (aD b) 2 (kM_ m B c) (.slice B m.Cells.length c) K16 (hS2.c 0)) <| sQ 12 (Y_len (B := B) (m := m.Cells.length) (c := c) K12 rfl rfl) <| sQ 13 (ym (vi 0)) (rn ?_)
  obtain ⟨hN, hF2⟩ := chk_inv hF2
  obtain ⟨z, hz, hF3⟩ := bI hF2
  refine cw_block ?_
  refine cw_loop (fun k f w => ∃ (i : Nat) (most : Int), FF f [(4, vi most), (11, .slice B m.Cells.length c), (12, vi (m.Cells.length : Int)), (13, vi (i : Int))] ∧ ST w0 [] w [] [⟨B, (m.Cells.flatMap eN0)⟩] ∧ i + k = m.Cells.length ∧ forN (F_impl_LeastExp_l1 m) k i most = some z) m.Cells.length ⟨0, 0, (fc rfl (fc rfl (fc rfl (fc rfl fn_)))), (hS2.sel [] rfl rfl), Nat.zero_add _, hz⟩ ?_
  rintro k_ f w ⟨i, most, hf, hS3, hik, hL⟩
  refine cq (cr ?_)
  refine sQ 14 (yL (i : Int) (m.Cells.length : Int) rfl (hf.g 13 3) (hf.g 12 2)) (rn (cq ?_))
  refine cw_cond (b := (decide ((i : Int) < (m.Cells.length : Int)))) rfl (fun hlt => ?_) (fun hlt => ?_)
  ·skip
   have hlt1 : i < m.Cells.length := by have h := of_decide_eq_true hlt; omega
   obtain ⟨K9, rfl⟩ : ∃ k2, k_ = k2 + 1 := ⟨k_ - 1, by omega⟩
   obtain ⟨y, hb1, hL1⟩ := forN_go hL
   unfold F_impl_LeastExp_l1 at hb1
   refine cw_skip (cq (cw_block (cq (cr ?_))))
   obtain ⟨x, hx, hb1⟩ := bI hb1
   refine sQ 15 (Y_index (B := B) (m := m.Cells.length) (c := c) (k := .i64) (i := (i : Int)) K12 K2 rfl (hf.g 11 1) (hf.g 13 3) (gi_isSome eN1 rfl (hS3.rf (i := 0) rfl) hx) (getI_nn hx) (getI_ltI hx rfl)) <| sQ 16 (ya B ((i : Int).toNat * 5) (m.Cells.flatMap eN0) (kD_ x) K5 K2 (hS3.rf (i := 0) rfl) rfl rfl (eN1 x) (gi_seg eN1 hx)) ?_
   refine sS 6 (yN kZ_ 5 hS3 K6) ?_
   rintro _ w_2 ⟨b1, rfl, hS4⟩
   refine s0 (yT 0 5 (aD b1) 51 (gD_ x) (kD_ x) 0 hS4 K2) ?_
   rintro _ w_3 ⟨rfl, hS5⟩
   refine rn (cr ?_)
   refine sQ 17 (ym (vi most) rfl (hf.g 4 0)) <| sQ 18 (yd (aD b1) 0 0 K33 K0) <| sQ 19 (yl (aD b1) 4 (kD_ x) (vi x.Exp) K1 (hS5.c 0)) <| sQ 20 (Y_max2 (k := .i64) (a := most) (b := x.Exp) rfl rfl rfl) <| sQ 4 (yg (vi (if most < x.Exp then x.Exp else most))) (rn (cr ?_))
   refine sQ 21 (yP (i : Int) 1 rfl (hf.g 13 3)) <| sQ 13 (ym (vi (i64.wrap ((i : Int) + 1)))) (rn ?_)
   obtain rfl := sI hb1
   exact ⟨K9, Nat.lt_succ_self _, i + 1, (if most < x.Exp then x.Exp else most), (fc rfl (fc (hf.g 11 1) (fc (hf.g 12 2) (fc (congrArg (Value.int .i64) (wr_succ hlt1 hN)) fn_)))), (hS5.sel [] rfl rfl), (by omega), hL1⟩
  ·skip
   obtain rfl : k_ = 0 := by have h := of_decide_eq_false hlt; omega
   refine cw_exit rfl ?_
   obtain rfl := sI hL
   refine cq (cr ?_)
   refine sQ 22 (ym (vi most) rfl (hf.g 4 0)) <| sQ 2 (yg (vi most)) <| sQ 3 (yg (.bool true)) (rn (ct_ ?_))
   obtain ⟨rfl, rfl⟩ := pr2 (sI hF3)
   exact ret2 Tryz.results33 (v1 := vi most) (resAt_tmp rfl) (v2 := .bool true) (resAt_tmp rfl) ⟨rfl, (hS3.sN [])⟩

theorem c_impl_PhaseOf (x : TDyadic)  (w0 : World)  (hS : ST w0 [] w0 [] []) {r_ : Int} {r_1 : Bool} (hF : F_impl_PhaseOf x = some (r_, r_1)) :
  CV Tryz.prog 68 #[gD_ x] w0 (fun v w' => v = .tuple #[vi r_, .bool r_1] ∧ ST w0 [] w' [] []) := by
 unfold F_impl_PhaseOf at hF
 refine cv_of_cw 14 Tryz.func68 rfl Tryz.ntmps68 rfl ?_
 refine cq (cr ?_)
 refine sS 1 (yB 51 (gD_ x) (kD_ x) 5 hS) ?_
 rintro _ w_ ⟨b, rfl, hS1⟩
 refine sQ 2 (yg (vi 0)) <| sQ 3 (yg (.bool false)) (rn (cq (cq (cr ?_))))
 refine sQ 5 (ym (vi 0)) (rn ?_)
 obtain ⟨z, hz, hF1⟩ := bI hF
 refine cw_block ?_
 refine cw_loop (fun k f w => ∃ (i : Nat), FF f [(1, pt (aD b) 0), (5, vi (i : Int))] ∧ ST w0 [] w [⟨aD b, 51, kD_ x, 5⟩] [] ∧ i + k = 8 ∧ forX (F_impl_PhaseOf_l1 x) k i () = some z) 8 ⟨0, (fc rfl (fc rfl fn_)), (hS1.sel [0] rfl rfl), Nat.zero_add _, hz⟩ ?_
 rintro k_ f w ⟨i, hf, hS2, hik, hL⟩
 refine cq (cr ?_)
 refine sQ 6 (yL (i : Int) 8 rfl (hf.g 5 1)) (rn (cq ?_))
 refine cw_cond (b := (decide ((i : Int) < 8))) rfl (fun hlt => ?_) (fun hlt => ?_)
 ·skip
  have hlt1 : i < 8 := by have h := of_decide_eq_true hlt; omega
  obtain ⟨K9, rfl⟩ : ∃ k2, k_ = k2 + 1 := ⟨k_ - 1, by omega⟩
  obtain ⟨y, hb, hL1⟩ := forX_go hL
  unfold F_impl_PhaseOf_l1 at hb
  refine cw_skip (cq (cw_block (cq (cr ?_))))
  refine sQ 7 (ym (vi (i : Int)) rfl (hf.g 5 1)) <| sQ 4 (yg (vi (i : Int))) (rn (cq ?_))
  obtain ⟨r_2, hc, hb⟩ := bI hb
  refine ra_start (hS2.se [0]).fn (by kernel_rfl) ?_
  have hS4 := hS2.drew
  refine rq 0 8 (v := gD_ x) rfl (hS4.se [0]) (fun w' hw' => (yb (aD b) 0 (kD_ x) K5 K2 (ST.cf hw' (i := 0) rfl) rfl (hf.g 1 0))) ?_
  refine rq 1 9 (v := vi (i : Int)) rfl (hS4.se [0]) (fun w' hw' => (ym (vi (i : Int)))) ?_
  refine rA [2] ?_
  refine rC 10 2 rfl (yC [vi (i : Int)] K71 (c_impl_phase (i : Int) _  (hS4.inn0 [] rfl) hc)) ?_ ?_
  ·rintro _ w_1 ⟨rfl, hd⟩
   have hS5 := hS4.out00 hd
   refine ⟨(hS5.se [0]), ?_⟩
   refine rq 3 11 (v := .bool (((x.Num.A == r_2.Num.A) && ((x.Num.B == r_2.Num.B) && ((x.Num.C == r_2.Num.C) && ((x.Num.D == r_2.Num.D) && true)))) && ((x.Exp == r_2.Exp) && true))) rfl (hS5.se [0]) (fun w' hw' => (Y_eqA (xs := #[vi x.Num.A, vi x.Num.B, vi x.Num.C, vi x.Num.D, vi x.Exp]) (ys := #[vi r_2.Num.A, vi r_2.Num.B, vi r_2.Num.C, vi r_2.Num.D, vi r_2.Exp]) (b := (((x.Num.A == r_2.Num.A) && ((x.Num.B == r_2.Num.B) && ((x.Num.C == r_2.Num.C) && ((x.Num.D == r_2.Num.D) && true)))) && ((x.Exp == r_2.Exp) && true))) K72 rfl rfl rfl (eqr_struct (xs := kD_ x) (ys := kD_ r_2) K73 K74 (pts_ag (us := kR_ x.Num) (vs := kR_ r_2.Num) K7 K3 rfl rfl (eqr_struct (xs := kR_ x.Num) (ys := kR_ r_2.Num) K75 K76 (pts_sc K1 rfl rfl (eqr_int K25) (pts_sc K1 rfl rfl (eqr_int K25) (pts_sc K1 rfl rfl (eqr_int K25) (pts_sc K1 rfl rfl (eqr_int K25) pts_nil))))) (pts_sc K1 rfl rfl (eqr_int K25) pts_nil))))) ?_
   refine ra_done (by kernel_rfl) ?_
   refine cw_cond (b := (((x.Num.A == r_2.Num.A) && ((x.Num.B == r_2.Num.B) && ((x.Num.C == r_2.Num.C) && ((x.Num.D == r_2.Num.D) && true)))) && ((x.Exp == r_2.Exp) && true))) rfl (fun hb1 => ?_) (fun hb1 => ?_)
   ·skip
    have hF2 := ct hb hb1
    refine cq (cr ?_)
    refine sQ 12 (ym (vi (i : Int))) <| sQ 2 (yg (vi (i : Int))) <| sQ 3 (yg (.bool true)) (rn (ct_ ?_))
    obtain rfl := sI hF2
    obtain rfl := sI hL1
    obtain ⟨rfl, rfl⟩ := pr2 (sI hF1)
    exact ret2 Tryz.results68 (v1 := vi (i : Int)) (resAt_tmp rfl) (v2 := .bool true) (resAt_tmp rfl) ⟨rfl, (hS5.sN [])⟩
   ·skip
    have hF3 := cf' hb hb1
    refine cw_skip (cr ?_)
    refine sQ 13 (yP (i : Int) 1 rfl (hf.g 5 1)) <| sQ 5 (ym (vi (i64.wrap ((i : Int) + 1)))) (rn ?_)
    obtain rfl := sI hF3
    exact ⟨K9, Nat.lt_succ_self _, i + 1, (fc (hf.g 1 0) (fc (congrArg (Value.int .i64) (wr_succ hlt1 (show 8 ≤ 9223372036854775807 by decide))) fn_)), (hS5.sel [0] rfl rfl), (by omega), hL1⟩
  exact aN
 ·skip
  obtain rfl : k_ = 0 := by have h := of_decide_eq_false hlt; omega
  refine cw_exit rfl ?_
  obtain rfl := sI hL
  refine cq (cr ?_)
  refine sQ 2 (yg (vi 0)) <| sQ 3 (yg (.bool false)) (rn (ct_ ?_))
  obtain ⟨rfl, rfl⟩ := pr2 (sI hF1)
  exact ret2 Tryz.results68 (v1 := vi 0) (resAt_tmp rfl) (v2 := .bool false) (resAt_tmp rfl) ⟨rfl, (hS2.sN [])⟩

theorem c_impl_finishing (v_ : TMatrix) (from_ : Int) (B : Option Addr) (c n : Nat) (w0 : World) (hn : v_.Cells.length = n) (hS : ST w0 [] w0 [] [⟨B, (v_.Cells.flatMap eN0)⟩]) {r_ : List TTwoLevel} {r_1 : Bool} (hF : F_impl_finishing v_ from_ = some (r_, r_1)) :
  CV Tryz.prog 34 #[.agg #[vi v_.Rows, vi v_.Cols, .slice B n c], vi from_] w0 (fun v w' => ∃ (B1 : Option Addr) (c1 : Nat), v = .tuple #[.slice B1 r_.length c1, .bool r_1] ∧ ST w0 [] w' [⟨B1, 25, (r_.flatMap eN2), c1 * 4⟩] []) := by
 subst hn
 unfold F_impl_finishing at hF
 refine cv_of_cw 54 Tryz.func34 rfl Tryz.ntmps34 rfl ?_
 refine cq (cr ?_)
 refine sS 2 (yB 34 (gM_ v_ B c) (kM_ v_ B c) 3 hS) ?_
 rintro _ w_ ⟨b, rfl, hS1⟩
 refine sQ 4 (yg (.slice none 0 0)) <| sQ 5 (yg (.bool false)) (rn (cq (cr ?_)))
 refine sS 11 (Ys_bslice0 (s := 4) (e := 25) hS1 K28 K11 rfl) ?_
 rintro _ w_1 ⟨b1, rfl, hS2⟩
 refine sQ 6 (yg (.slice (aD b1) 0 0)) (rn (cq (cq (cr ?_))))
 refine sQ 12 (yd (aD b) 0 0 K15 K13) <| sQ 13 (yl (aD b) 2 (kM_ v_ B c) (.slice B v_.Cells.length c) K16 (hS2.c 0)) <| sQ 14 (Y_len (B := B) (m := v_.Cells.length) (c := c) K12 rfl rfl) <| sQ 15 (ym (vi 0)) (rn ?_)
 obtain ⟨hN, hF⟩ := chk_inv hF
 obtain ⟨z, hz, hF1⟩ := bI hF
 refine cw_block ?_
 refine cw_loop (fun k f w => ∃ (i : Nat), FF f [(1, vi from_), (6, .slice (aD b1) 0 0), (13, .slice B v_.Cells.length c), (14, vi (v_.Cells.length : Int)), (15, vi (i : Int))] ∧ ST w0 [] w [⟨aD b1, 25, ([].flatMap eN2), 0 * 4⟩] [⟨B, (v_.Cells.flatMap eN0)⟩] ∧ i + k = v_.Cells.length ∧ forX (F_impl_finishing_l1 v_ from_) k i () = some z) v_.Cells.length ⟨0, (fc rfl (fc rfl (fc rfl (fc rfl (fc rfl fn_))))), (hS2.sel [1] rfl rfl), Nat.zero_add _, hz⟩ ?_
 rintro k_ f w ⟨i, hf, hS3, hik, hL⟩
 refine cq (cr ?_)
 refine sQ 16 (yL (i : Int) (v_.Cells.length : Int) rfl (hf.g 15 4) (hf.g 14 3)) (rn (cq ?_))
 refine cw_cond (b := (decide ((i : Int) < (v_.Cells.length : Int)))) rfl (fun hlt => ?_) (fun hlt => ?_)
 ·skip
  have hlt1 : i < v_.Cells.length := by have h := of_decide_eq_true hlt; omega
  obtain ⟨K9, rfl⟩ : ∃ k2, k_ = k2 + 1 := ⟨k_ - 1, by omega⟩
  obtain ⟨y, hb, hL1⟩ := forX_go hL
  unfold F_impl_finishing_l1 at hb
  refine cw_skip (cq (cw_block (cq (cr ?_))))
  refine sQ 17 (ym (vi (i : Int)) rfl (hf.g 15 4)) ?_
  obtain ⟨x, hx, hb⟩ := bI hb
  refine sQ 18 (Y_index (B := B) (m := v_.Cells.length) (c := c) (k := .i64) (i := (i : Int)) K12 K2 rfl (hf.g 13 2) (hf.g 15 4) (gi_isSome eN1 rfl (hS3.rf (i := 0) rfl) hx) (getI_nn hx) (getI_ltI hx rfl)) <| sQ 19 (ya B ((i : Int).toNat * 5) (v_.Cells.flatMap eN0) (kD_ x) K5 K2 (hS3.rf (i := 0) rfl) rfl rfl (eN1 x) (gi_seg eN1 hx)) ?_
  refine sS 8 (yN kZ_ 5 hS3 K6) ?_
  rintro _ w_2 ⟨b2, rfl, hS4⟩
  refine sQ 7 (yg (vi (i : Int))) ?_
  refine s0 (yT 1 5 (aD b2) 51 (gD_ x) (kD_ x) 0 hS4 K2) ?_
  rintro _ w_3 ⟨rfl, hS5⟩
  refine rn (cq (cq (cr ?_)))
  refine sQ 20 (yb (aD b2) 0 (kD_ x) K5 K2 (hS5.c 1)) <| sQ 21 (Y_buildS (zs := kZ_) (vs := []) (cs := kZ_) K21 K6 rfl mpn rfl) <| sQ 22 (Y_eqA (xs := #[vi x.Num.A, vi x.Num.B, vi x.Num.C, vi x.Num.D, vi x.Exp]) (ys := #[vi 0, vi 0, vi 0, vi 0, vi 0]) (b := (((x.Num.A == 0) && ((x.Num.B == 0) && ((x.Num.C == 0) && ((x.Num.D == 0) && true)))) && ((x.Exp == 0) && true))) K72 rfl rfl rfl (eqr_struct (xs := kD_ x) (ys := kZ_) K73 K74 (pts_ag (us := kR_ x.Num) (vs := [vi 0, vi 0, vi 0, vi 0]) K7 K3 rfl rfl (eqr_struct (xs := kR_ x.Num) (ys := [vi 0, vi 0, vi 0, vi 0]) K75 K76 (pts_sc K1 rfl rfl (eqr_int K25) (pts_sc K1 rfl rfl (eqr_int K25) (pts_sc K1 rfl rfl (eqr_int K25) (pts_sc K1 rfl rfl (eqr_int K25) pts_nil))))) (pts_sc K1 rfl rfl (eqr_int K25) pts_nil)))) (rn ?_)
  refine cw_cond (b := (((x.Num.A == 0) && ((x.Num.B == 0) && ((x.Num.C == 0) && ((x.Num.D == 0) && true)))) && ((x.Exp == 0) && true))) rfl (fun hb1 => ?_) (fun hb1 => ?_)
  ·skip
   have hF2 := ct hb hb1
   refine cw_exit rfl ?_
   refine cr ?_
   refine sQ 53 (yP (i : Int) 1 rfl (hf.g 15 4)) <| sQ 15 (ym (vi (i64.wrap ((i : Int) + 1)))) (rn ?_)
   obtain rfl := sI hF2
   exact ⟨K9, Nat.lt_succ_self _, i + 1, (fc (hf.g 1 0) (fc (hf.g 6 1) (fc (hf.g 13 2) (fc (hf.g 14 3) (fc (congrArg (Value.int .i64) (wr_succ hlt1 hN)) fn_))))), (hS5.sel [0] rfl rfl), (by omega), hL1⟩
  ·skip
   have hF3 := cf' hb hb1
   refine cw_skip (cq (cr ?_))
   refine sQ 24 (yb (aD b2) 0 (kD_ x) K5 K2 (hS5.c 1)) ?_
   obtain ⟨⟨r_2, r_3⟩, hc, hF3⟩ := bI hF3
   refine sc 25 rfl rfl (yC [gD_ x] k_call_68 (c_impl_PhaseOf x _  (hS5.inn0 [] rfl) hc)) ?_
   rintro _ w_4 ⟨rfl, hd⟩
   have hS6 := hS5.out00 hd
   refine sQ 23 (ym (.tuple #[vi r_2, .bool r_3])) <| sQ 26 (ye (vi r_2)) <| sQ 27 (ye (.bool r_3)) <| sQ 9 (yg (vi r_2)) <| sQ 10 (yg (.bool r_3)) (rn (cq (cq (cr ?_))))
   refine sQ 28 (ym (.bool r_3)) <| sQ 29 (Y_not (p := r_3) rfl rfl) (rn ?_)
   refine cw_cond (b := (!r_3)) rfl (fun hb2 => ?_) (fun hb2 => ?_)
   ·skip
    have hF4 := ct hF3 hb2
    refine cq (cr ?_)
    refine sQ 4 (yg (.slice none 0 0)) <| sQ 5 (yg (.bool false)) (rn (ct_ ?_))
    have hS7 := hS6.addNil 25
    obtain rfl := sI hF4
    obtain rfl := sI hL1
    obtain ⟨rfl, rfl⟩ := pr2 (sI hF1)
    exact ret2 Tryz.results34 (v1 := .slice none 0 0) (resAt_tmp rfl) (v2 := .bool false) (resAt_tmp rfl) ⟨none, 0, rfl, (hS7.sN [2])⟩
   ·skip
    have hF5 := cf' hF3 hb2
    refine cw_skip (cq ?_)
    obtain ⟨z1, hz1, hF6⟩ := bI hF5
    refine cw_mid (fun f w => ∃ (out : List TTwoLevel) (B2 : Option Addr) (c2 : Nat), out = z1 ∧ FF f [(1, vi from_), (6, .slice B2 out.length c2), (9, vi r_2)] ∧ ST w0 [] w [⟨B2, 25, (out.flatMap eN2), c2 * 4⟩] [⟨B, (v_.Cells.flatMap eN0)⟩]) ?_ ?_
    ·skip
     refine cq (cr ?_)
     refine sQ 30 (ym (vi (i : Int))) <| sQ 31 (ym (vi from_) rfl (hf.g 1 0)) <| sQ 32 (Y_ne (k := .i64) (a := (i : Int)) (b := from_) rfl rfl rfl) (rn ?_)
     refine cw_cond (b := ((i : Int) != from_)) rfl (fun hb3 => ?_) (fun hb3 => ?_)
     ·skip
      have hF7 := ct hz1 hb3
      refine cr ?_
      refine sQ 33 (ym (.slice (aD b1) 0 0) rfl (hf.g 6 1)) <| sQ 34 (ym (vi (i : Int))) <| sQ 35 (ym (vi from_) rfl (hf.g 1 0)) <| sQ 36 (Y_min2 (k := .i64) (a := (i : Int)) (b := from_) rfl rfl rfl) <| sQ 37 (ym (vi (i : Int))) <| sQ 38 (ym (vi from_) rfl (hf.g 1 0)) ?_
      refine sQ 39 (Y_max2 (k := .i64) (a := (i : Int)) (b := from_) rfl rfl rfl) <| sQ 40 (Y_buildS (zs := [vi 0, vi 0, vi 0, vi 0]) (vs := [(0, vi 2), (1, vi (if from_ < (i : Int) then from_ else (i : Int))), (2, vi (if (i : Int) < from_ then from_ else (i : Int))), (3, vi 0)]) (cs := [vi 2, vi (if from_ < (i : Int) then from_ else (i : Int)), vi (if (i : Int) < from_ then from_ else (i : Int)), vi 0]) K50 K30 rfl (mpc rfl (mpc rfl (mpc rfl (mpc rfl mpn)))) rfl) ?_
      refine sS 41 (Ys_bslice (s := 4) (len := 1) (vs := [(0, .agg #[vi 2, vi (if from_ < (i : Int) then from_ else (i : Int)), vi (if (i : Int) < from_ then from_ else (i : Int)), vi 0])]) (cs := [vi 2, vi (if from_ < (i : Int) then from_ else (i : Int)), vi (if (i : Int) < from_ then from_ else (i : Int)), vi 0]) (zs := [vi 0, vi 0, vi 0, vi 0]) (m := 4) hS6 K28 K11 K52 rfl (mpc rfl mpn) rfl rfl rfl (by kernel_rfl) (by kernel_rfl) rfl) ?_
      rintro _ w_5 ⟨b3, rfl, hS9⟩
      refine sS 42 (Ys_append (s := 4) (by' := 32) (i := 0) (nn := 0) (c := 0) (k := 1) (len := 1) (B := aD b1) (xs := ([(TTwoLevel.mk 2 (if from_ < (i : Int) then from_ else (i : Int)) (if (i : Int) < from_ then from_ else (i : Int)) 0)].flatMap eN2)) (cs' := ([(TTwoLevel.mk 2 (if from_ < (i : Int) then from_ else (i : Int)) (if (i : Int) < from_ then from_ else (i : Int)) 0)].flatMap eN2)) hS9 K28 K11 K65 K30 rfl (by decide) rfl rfl rfl rfl (fm_lenn (l := []) enc_TwoLevel_len rfl) rfl (hS9.c 2) (fm_lenn (l := [(TTwoLevel.mk 2 (if from_ < (i : Int) then from_ else (i : Int)) (if (i : Int) < from_ then from_ else (i : Int)) 0)]) enc_TwoLevel_len rfl) (fm_one' (enc := eN2) enc_TwoLevel_one [(TTwoLevel.mk 2 (if from_ < (i : Int) then from_ else (i : Int)) (if (i : Int) < from_ then from_ else (i : Int)) 0)]) (by have := (show 0 + 1 ≤ 1099511627776 by decide); omega) (by have := (show 0 + 1 ≤ 1099511627776 by decide); simp only [maxLen]; omega) rfl rfl) ?_
      rintro _ w_6 ⟨B3, c3, rfl, hS10⟩
      refine sQ 6 (yg (.slice B3 1 c3)) (rn ?_)
      exact ⟨[(TTwoLevel.mk 2 (if from_ < (i : Int) then from_ else (i : Int)) (if (i : Int) < from_ then from_ else (i : Int)) 0)], B3, c3, (sI hF7), (fc (hf.g 1 0) (fc (sl_len (by simp) rfl) (fc rfl fn_))), (hS10.sel [0] rfl rfl)⟩
     ·skip
      have hF8 := cf' hz1 hb3
      refine cw_skip ?_
      exact ⟨[], aD b1, 0, (sI hF8), (fc (hf.g 1 0) (fc (hf.g 6 1) (fc rfl fn_))), (hS6.sel [0] rfl rfl)⟩
    rintro f w ⟨out, B2, c2, rfl, hf1, hS8⟩
    refine cq ?_
    obtain ⟨z2, hz2, hF9⟩ := bI hF6
    refine cw_mid (fun f w => ∃ (out1 : List TTwoLevel) (B4 : Option Addr) (c4 : Nat), out1 = z2 ∧ FF f [(6, .slice B4 out1.length c4)] ∧ ST w0 [] w [⟨B4, 25, (out1.flatMap eN2), c4 * 4⟩] [⟨B, (v_.Cells.flatMap eN0)⟩]) ?_ ?_
    ·skip
     refine cq (cr ?_)
     refine sQ 43 (ym (vi r_2) rfl (hf1.g 9 2)) <| sQ 44 (Y_gt (k := .i64) (a := r_2) (b := 0) rfl rfl rfl) (rn ?_)
     refine cw_cond (b := (decide (0 < r_2))) rfl (fun hb4 => ?_) (fun hb4 => ?_)
     ·skip
      have hF10 := ct hz2 hb4
      refine cr ?_
      refine sQ 45 (ym (.slice B2 out.length c2) rfl (hf1.g 6 1)) <| sQ 46 (ym (vi from_) rfl (hf1.g 1 0)) <| sQ 47 (ym (vi r_2) rfl (hf1.g 9 2)) <| sQ 48 (yM 8 r_2) <| sQ 49 (Y_buildS (zs := [vi 0, vi 0, vi 0, vi 0]) (vs := [(0, vi 1), (1, vi from_), (2, vi 0), (3, vi (i64.wrap (8 - r_2)))]) (cs := [vi 1, vi from_, vi 0, vi (i64.wrap (8 - r_2))]) K50 K30 rfl (mpc rfl (mpc rfl (mpc rfl (mpc rfl mpn)))) rfl) ?_
      refine sS 50 (Ys_bslice (s := 4) (len := 1) (vs := [(0, .agg #[vi 1, vi from_, vi 0, vi (i64.wrap (8 - r_2))])]) (cs := [vi 1, vi from_, vi 0, vi (i64.wrap (8 - r_2))]) (zs := [vi 0, vi 0, vi 0, vi 0]) (m := 4) hS8 K28 K11 K52 rfl (mpc rfl mpn) rfl rfl rfl (by kernel_rfl) (by kernel_rfl) rfl) ?_
      rintro _ w_7 ⟨b4, rfl, hS12⟩
      obtain ⟨hap, hF10⟩ := chk_inv hF10
      refine sS 51 (Ys_append (s := 4) (by' := 32) (i := 0) (nn := out.length) (c := c2) (k := 1) (len := (out ++ [(TTwoLevel.mk 1 from_ 0 (i64.wrap (8 - r_2)))]).length) (B := B2) (xs := ([(TTwoLevel.mk 1 from_ 0 (i64.wrap (8 - r_2)))].flatMap eN2)) (cs' := ((out ++ [(TTwoLevel.mk 1 from_ 0 (i64.wrap (8 - r_2)))]).flatMap eN2)) hS12 K28 K11 K65 K30 rfl (by decide) rfl rfl rfl rfl (fm_lenn (l := out) enc_TwoLevel_len rfl) rfl (hS12.c 1) (fm_lenn (l := [(TTwoLevel.mk 1 from_ 0 (i64.wrap (8 - r_2)))]) enc_TwoLevel_len rfl) (fm_one' (enc := eN2) enc_TwoLevel_one [(TTwoLevel.mk 1 from_ 0 (i64.wrap (8 - r_2)))]) (by have := hap; omega) (by have := hap; simp only [maxLen]; omega) (fm_app _ _) (app_len (l := out) (l' := [(TTwoLevel.mk 1 from_ 0 (i64.wrap (8 - r_2)))]) rfl rfl)) ?_
      rintro _ w_8 ⟨B5, c5, rfl, hS13⟩
      refine sQ 6 (yg (.slice B5 ((out ++ [(TTwoLevel.mk 1 from_ 0 (i64.wrap (8 - r_2)))]).length) c5)) (rn ?_)
      exact ⟨(out ++ [(TTwoLevel.mk 1 from_ 0 (i64.wrap (8 - r_2)))]), B5, c5, (sI hF10), (fc rfl fn_), (hS13.sel [0] rfl rfl)⟩
     ·skip
      have hF11 := cf' hz2 hb4
      refine cw_skip ?_
      exact ⟨out, B2, c2, (sI hF11), (fc (hf1.g 6 1) fn_), (hS8.sel [0] rfl rfl)⟩
    rintro f w ⟨out1, B4, c4, rfl, hf2, hS11⟩
    refine cq (cr ?_)
    refine sQ 52 (ym (.slice B4 out1.length c4) rfl (hf2.g 6 0)) <| sQ 4 (yg (.slice B4 out1.length c4)) <| sQ 5 (yg (.bool true)) (rn (ct_ ?_))
    obtain rfl := sI hF9
    obtain rfl := sI hL1
    obtain ⟨rfl, rfl⟩ := pr2 (sI hF1)
    exact ret2 Tryz.results34 (v1 := .slice B4 out1.length c4) (resAt_tmp rfl) (v2 := .bool true) (resAt_tmp rfl) ⟨B4, c4, rfl, (hS11.sN [0])⟩
 ·skip
  obtain rfl : k_ = 0 := by have h := of_decide_eq_false hlt; omega
  refine cw_exit rfl ?_
  obtain rfl := sI hL
  refine cq (cr ?_)
  refine sQ 4 (yg (.slice none 0 0)) <| sQ 5 (yg (.bool false)) (rn (ct_ ?_))
  have hS14 := hS3.addNil 25
  obtain ⟨rfl, rfl⟩ := pr2 (sI hF1)
  exact ret2 Tryz.results34 (v1 := .slice none 0 0) (resAt_tmp rfl) (v2 := .bool false) (resAt_tmp rfl) ⟨none, 0, rfl, (hS14.sN [1])⟩

theorem c_impl_ResidueType (x : TRing)  (w0 : World)  (hS : ST w0 [] w0 [] []) {r_ : Int} {r_1 : Bool} (hF : F_impl_ResidueType x = some (r_, r_1)) :
  CV Tryz.prog 97 #[gR_ x] w0 (fun v w' => v = .tuple #[vi r_, .bool r_1] ∧ ST w0 [] w' [] []) := by
 unfold F_impl_ResidueType at hF
 refine cv_of_cw 25 Tryz.func97 rfl Tryz.ntmps97 rfl ?_
 refine cq (cr ?_)
 refine sS 1 (yB 49 (gR_ x) (kR_ x) 4 hS) ?_
 rintro _ w_ ⟨b, rfl, hS1⟩
 refine sQ 2 (yg (vi 0)) <| sQ 3 (yg (.bool false)) (rn (cq (cw_block (cq (cr ?_)))))
 refine sQ 5 (yb (aD b) 0 (kR_ x) K7 K3 (hS1.c 0)) ?_
 obtain ⟨r_2, hc, hF⟩ := bI hF
 refine sc 6 rfl rfl (yC [gR_ x] K69 (c_impl_IsValidRing x _  (hS1.inn0 [] rfl) hc)) ?_
 rintro _ w_1 ⟨rfl, hd⟩
 have hS2 := hS1.out00 hd
 refine sQ 7 (Y_not (p := r_2) rfl rfl) <| sQ 4 (yg (.bool (!r_2))) (rn ?_)
 refine cw_cond (b := (!r_2)) rfl (fun hb => ?_) (fun hb => ?_)
 ·skip
  have hF1 := ct hF hb
  refine cq (cr ?_)
  refine sQ 2 (yg (vi 0)) <| sQ 3 (yg (.bool false)) (rn (ct_ ?_))
  obtain ⟨rfl, rfl⟩ := pr2 (sI hF1)
  exact ret2 Tryz.results97 (v1 := vi 0) (resAt_tmp rfl) (v2 := .bool false) (resAt_tmp rfl) ⟨rfl, (hS2.sN [])⟩
 ·skip
  have hF2 := cf' hF hb
  refine cq (cr ?_)
  refine sQ 9 (yb (aD b) 0 (kR_ x) K7 K3 (hS2.c 0)) ?_
  obtain ⟨r_3, hc1, hF2⟩ := bI hF2
  refine sc 10 rfl rfl (yC [gR_ x] K90 (c_impl_isEven x _  (hS2.inn0 [] rfl) hc1)) ?_
  rintro _ w_2 ⟨rfl, hd1⟩
  have hS3 := hS2.out00 hd1
  refine sQ 8 (yg (.bool r_3)) (rn ?_)
  refine cw_cond (b := r_3) rfl (fun hb1 => ?_) (fun hb1 => ?_)
  ·skip
   have hF3 := ct hF2 hb1
   refine cq (cr ?_)
   refine sQ 2 (yg (vi 0)) <| sQ 3 (yg (.bool true)) (rn (ct_ ?_))
   obtain ⟨rfl, rfl⟩ := pr2 (sI hF3)
   exact ret2 Tryz.results97 (v1 := vi 0) (resAt_tmp rfl) (v2 := .bool true) (resAt_tmp rfl) ⟨rfl, (hS3.sN [])⟩
  ·skip
   have hF4 := cf' hF2 hb1
   refine cq (cr ?_)
   refine sQ 12 (yd (aD b) 0 0 K17 K0) <| sQ 13 (yl (aD b) 0 (kR_ x) (vi x.A) K1 (hS3.c 0)) <| sQ 14 (yd (aD b) 0 0 K18 K0) <| sQ 15 (yl (aD b) 1 (kR_ x) (vi x.B) K1 (hS3.c 0)) <| sQ 16 (yP x.A x.B) <| sQ 17 (yd (aD b) 0 0 K19 K0) ?_
   refine sQ 18 (yl (aD b) 2 (kR_ x) (vi x.C) K1 (hS3.c 0)) <| sQ 19 (yP (i64.wrap (x.A + x.B)) x.C) <| sQ 20 (yd (aD b) 0 0 K20 K0) <| sQ 21 (yl (aD b) 3 (kR_ x) (vi x.D) K1 (hS3.c 0)) <| sQ 22 (yP (i64.wrap ((i64.wrap (x.A + x.B)) + x.C)) x.D) <| sQ 23 (Y_rem (k := .i64) (a := (i64.wrap ((i64.wrap ((i64.wrap (x.A + x.B)) + x.C)) + x.D))) (b := 2) rfl rfl rfl (by decide)) ?_
   refine sQ 24 (Y_ne (k := .i64) (a := (Int.tmod (i64.wrap ((i64.wrap ((i64.wrap (x.A + x.B)) + x.C)) + x.D)) 2)) (b := 0) rfl rfl rfl) <| sQ 11 (yg (.bool ((Int.tmod (i64.wrap ((i64.wrap ((i64.wrap (x.A + x.B)) + x.C)) + x.D)) 2) != 0))) (rn ?_)
   refine cw_cond (b := ((Int.tmod (i64.wrap ((i64.wrap ((i64.wrap (x.A + x.B)) + x.C)) + x.D)) 2) != 0)) rfl (fun hb2 => ?_) (fun hb2 => ?_)
   ·skip
    have hF5 := ct hF4 hb2
    refine cq (cr ?_)
    refine sQ 2 (yg (vi 1)) <| sQ 3 (yg (.bool true)) (rn (ct_ ?_))
    obtain ⟨rfl, rfl⟩ := pr2 (sI hF5)
    exact ret2 Tryz.results97 (v1 := vi 1) (resAt_tmp rfl) (v2 := .bool true) (resAt_tmp rfl) ⟨rfl, (hS3.sN [])⟩
   ·skip
    have hF6 := cf' hF4 hb2
    refine cw_skip (cq (cr ?_))
    refine sQ 2 (yg (vi 2)) <| sQ 3 (yg (.bool true)) (rn (ct_ ?_))
    obtain ⟨rfl, rfl⟩ := pr2 (sI hF6)
    exact ret2 Tryz.results97 (v1 := vi 2) (resAt_tmp rfl) (v2 := .bool true) (resAt_tmp rfl) ⟨rfl, (hS3.sN [])⟩

theorem c_impl_nextPair (list : List TRing) (B : Option Addr) (c n : Nat) (w0 : World) (hn : list.length = n) (hS : ST w0 [] w0 [] [⟨B, (list.flatMap enc_Ring)⟩]) {r_ : Int} {r_1 : Int} {r_2 : Bool} (hF : F_impl_nextPair list = some (r_, r_1, r_2)) :
  CV Tryz.prog 70 #[.slice B n c] w0 (fun v w' => v = .tuple #[vi r_, vi r_1, .bool r_2] ∧ ST w0 [] w' [] []) := by
 subst hn
 unfold F_impl_nextPair at hF
 refine cv_of_cw 45 Tryz.func70 rfl Tryz.ntmps70 rfl ?_
 refine cq (cr ?_)
 refine sQ 2 (yg (vi 0)) <| sQ 3 (yg (vi 0)) <| sQ 4 (yg (.bool false)) (rn (cq (cq (cr ?_))))
 refine sQ 5 (yg (vi 1)) (rn ?_)
 obtain ⟨z, hz, hF1⟩ := bI hF
 refine cw_block ?_
 refine cw_loop (fun k f w => ∃ (kind : Int), FF f [(0, .slice B list.length c), (5, vi kind)] ∧ ST w0 [] w [] [⟨B, (list.flatMap enc_Ring)⟩] ∧ whX (F_impl_nextPair_l1 list) k kind = some z) fuel ⟨1, (fc rfl (fc rfl fn_)), (hS.sel [] rfl rfl), hz⟩ ?_
 rintro k_ f w ⟨kind, hf, hS1, hL⟩
 obtain ⟨K9, y, rfl, hb, hL1⟩ := whX_go hL
 unfold F_impl_nextPair_l1 at hb
 refine cq (cq (cr ?_))
 refine sQ 11 (ym (vi kind) rfl (hf.g 5 1)) <| sQ 12 (Y_le (k := .i64) (a := kind) (b := 2) rfl rfl rfl) (rn ?_)
 refine cw_cond (b := (decide (kind ≤ 2))) rfl (fun hb1 => ?_) (fun hb1 => ?_)
 ·skip
  have hF2 := ct hb hb1
  refine cw_skip (cq (cw_block (cq (cr ?_))))
  refine sS 15 (Ys_bslice0 (s := 1) (e := 3) hS1 K27 K0 rfl) ?_
  rintro _ w_ ⟨b, rfl, hS2⟩
  refine sQ 6 (yg (.slice (aD b) 0 0)) (rn (cq (cq (cr ?_))))
  refine sQ 16 (ym (.slice B list.length c) rfl (hf.g 0 0)) <| sQ 17 (Y_len (B := B) (m := list.length) (c := c) K40 rfl rfl) <| sQ 18 (ym (vi 0)) (rn ?_)
  obtain ⟨hN, hF2⟩ := chk_inv hF2
  obtain ⟨z1, hz1, hF3⟩ := bI hF2
  refine cw_block ?_
  refine cw_loop (fun k f w => ∃ (i : Nat) (rows : List Int) (B1 : Option Addr) (c1 : Nat), FF f [(0, .slice B list.length c), (5, vi kind), (6, .slice B1 rows.length c1), (16, .slice B list.length c), (17, vi (list.length : Int)), (18, vi (i : Int))] ∧ ST w0 [] w [⟨B1, 3, (rows.flatMap encI), c1 * 1⟩] [⟨B, (list.flatMap enc_Ring)⟩] ∧ i + k = list.length ∧ forN (F_impl_nextPair_l2 list kind) k i rows = some z1) list.length ⟨0, [], aD b, 0, (fc (hf.g 0 0) (fc (hf.g 5 1) (fc rfl (fc rfl (fc rfl (fc rfl fn_)))))), (hS2.sel [0] rfl rfl), Nat.zero_add _, hz1⟩ ?_
  rintro K22 f w ⟨i, rows, B1, c1, hf1, hS3, hik1, hL2⟩
  refine cq (cr ?_)
  refine sQ 19 (yL (i : Int) (list.length : Int) rfl (hf1.g 18 5) (hf1.g 17 4)) (rn (cq ?_))
  refine cw_cond (b := (decide ((i : Int) < (list.length : Int)))) rfl (fun hlt => ?_) (fun hlt => ?_)
  ·skip
   have hlt1 : i < list.length := by have h := of_decide_eq_true hlt; omega
   obtain ⟨K43, rfl⟩ : ∃ k2, K22 = k2 + 1 := ⟨K22 - 1, by omega⟩
   obtain ⟨y1, hb2, hL3⟩ := forN_go hL2
   unfold F_impl_nextPair_l2 at hb2
   refine cw_skip (cq ?_)
   obtain ⟨z2, hz2, hF4⟩ := bI hb2
   refine cw_mid (fun f w => ∃ (rows1 : List Int) (B2 : Option Addr) (c2 : Nat), rows1 = z2 ∧ FF f [(0, .slice B list.length c), (5, vi kind), (6, .slice B2 rows1.length c2), (16, .slice B list.length c), (17, vi (list.length : Int)), (18, vi (i : Int))] ∧ ST w0 [] w [⟨B2, 3, (rows1.flatMap encI), c2 * 1⟩] [⟨B, (list.flatMap enc_Ring)⟩]) ?_ ?_
   ·skip
    refine cw_block (cq (cr ?_))
    refine sQ 20 (ym (vi (i : Int)) rfl (hf1.g 18 5)) ?_
    obtain ⟨x, hx, hz2⟩ := bI hz2
    refine sQ 21 (Y_index (B := B) (m := list.length) (c := c) (k := .i64) (i := (i : Int)) K40 K3 rfl (hf1.g 16 3) (hf1.g 18 5) (gi_isSome enc_Ring_len rfl (hS3.rf (i := 0) rfl) hx) (getI_nn hx) (getI_ltI hx rfl)) <| sQ 22 (ya B ((i : Int).toNat * 4) (list.flatMap enc_Ring) (kR_ x) K7 K3 (hS3.rf (i := 0) rfl) rfl rfl (enc_Ring_len x) (gi_seg enc_Ring_len hx)) ?_
    refine sS 8 (yN [vi 0, vi 0, vi 0, vi 0] 4 hS3 K14) ?_
    rintro _ w_1 ⟨b1, rfl, hS5⟩
    refine sQ 7 (yg (vi (i : Int))) ?_
    refine s0 (yT 1 4 (aD b1) 49 (gR_ x) (kR_ x) 0 hS5 K3) ?_
    rintro _ w_2 ⟨rfl, hS6⟩
    refine rn (cq (cr ?_))
    refine sQ 24 (yb (aD b1) 0 (kR_ x) K7 K3 (hS6.c 1)) ?_
    obtain ⟨⟨r_3, r_4⟩, hc, hz2⟩ := bI hz2
    refine sc 25 rfl rfl (yC [gR_ x] K118 (c_impl_ResidueType x _  (hS6.inn0 [] rfl) hc)) ?_
    rintro _ w_3 ⟨rfl, hd⟩
    have hS7 := hS6.out00 hd
    refine sQ 23 (ym (.tuple #[vi r_3, .bool r_4])) <| sQ 26 (ye (vi r_3)) <| sQ 27 (ye (.bool r_4)) <| sQ 9 (yg (vi r_3)) <| sQ 10 (yg (.bool r_4)) (rn (cq (cr ?_)))
    refine sQ 28 (ym (vi r_3)) <| sQ 29 (ym (vi kind) rfl (hf1.g 5 1)) <| sQ 30 (yE r_3 kind) (rn ?_)
    refine cw_cond (b := (r_3 == kind)) rfl (fun hb3 => ?_) (fun hb3 => ?_)
    ·skip
     have hF5 := ct hz2 hb3
     refine cr ?_
     refine sQ 31 (ym (.slice B1 rows.length c1) rfl (hf1.g 6 2)) <| sQ 32 (ym (vi (i : Int))) ?_
     refine sS 33 (Ys_bslice (s := 1) (len := 1) (vs := [(0, vi (i : Int))]) (cs := [vi (i : Int)]) (zs := [vi 0]) (m := 1) hS7 K27 K0 K38 rfl (mpc rfl mpn) rfl rfl rfl (by kernel_rfl) (by kernel_rfl) rfl) ?_
     rintro _ w_4 ⟨b2, rfl, hS8⟩
     obtain ⟨hap, hF5⟩ := chk_inv hF5
     refine sS 34 (Ys_append (s := 1) (by' := 8) (i := 0) (nn := rows.length) (c := c1) (k := 1) (len := (rows ++ [(i : Int)]).length) (B := B1) (xs := ([(i : Int)].flatMap encI)) (cs' := ((rows ++ [(i : Int)]).flatMap encI)) hS8 K27 K0 k_by_3_8 k_zero_3 rfl (by decide) rfl rfl rfl rfl (fm_lenn (l := rows) encI_len rfl) rfl (hS8.c 2) (fm_lenn (l := [(i : Int)]) encI_len rfl) (fm_one' (enc := encI) encI_one [(i : Int)]) (by have := hap; omega) (by have := hap; simp only [maxLen]; omega) (fm_app _ _) (app_len (l := rows) (l' := [(i : Int)]) rfl rfl)) ?_
     rintro _ w_5 ⟨B3, c3, rfl, hS9⟩
     refine sQ 6 (yg (.slice B3 ((rows ++ [(i : Int)]).length) c3)) (rn ?_)
     exact ⟨(rows ++ [(i : Int)]), B3, c3, (sI hF5), (fc (hf1.g 0 0) (fc (hf1.g 5 1) (fc rfl (fc (hf1.g 16 3) (fc (hf1.g 17 4) (fc (hf1.g 18 5) fn_)))))), (hS9.sel [0] rfl rfl)⟩
    ·skip
     have hF6 := cf' hz2 hb3
     refine cw_skip ?_
     exact ⟨rows, B1, c1, (sI hF6), (fc (hf1.g 0 0) (fc (hf1.g 5 1) (fc (hf1.g 6 2) (fc (hf1.g 16 3) (fc (hf1.g 17 4) (fc (hf1.g 18 5) fn_)))))), (hS7.sel [0] rfl rfl)⟩
   rintro f w ⟨rows1, B2, c2, rfl, hf2, hS4⟩
   refine cr ?_
   refine sQ 35 (yP (i : Int) 1 rfl (hf2.g 18 5)) <| sQ 18 (ym (vi (i64.wrap ((i : Int) + 1)))) (rn ?_)
   obtain rfl := sI hF4
   exact ⟨K43, Nat.lt_succ_self _, i + 1, rows1, B2, c2, (fc (hf2.g 0 0) (fc (hf2.g 5 1) (fc (hf2.g 6 2) (fc (hf2.g 16 3) (fc (hf2.g 17 4) (fc (congrArg (Value.int .i64) (wr_succ hlt1 hN)) fn_)))))), (hS4.sel [0] rfl rfl), (by omega), hL3⟩
  ·skip
   obtain rfl : K22 = 0 := by have h := of_decide_eq_false hlt; omega
   refine cw_exit rfl ?_
   obtain rfl := sI hL2
   refine cq (cr ?_)
   refine sQ 36 (ym (.slice B1 rows.length c1) rfl (hf1.g 6 2)) <| sQ 37 (Y_len (B := B1) (m := rows.length) (c := c1) K27 rfl rfl) <| sQ 38 (Y_ge (k := .i64) (a := (rows.length : Int)) (b := 2) rfl rfl rfl) (rn ?_)
   refine cw_cond (b := (decide (2 ≤ (rows.length : Int)))) rfl (fun hb4 => ?_) (fun hb4 => ?_)
   ·skip
    have hF7 := ct hF3 hb4
    refine cq ?_
    obtain ⟨x1, hx1, hF7⟩ := bI hF7
    obtain ⟨x2, hx2, hF7⟩ := bI hF7
    refine ra_start (hS3.se [0]).fn (by kernel_rfl) ?_
    have hS10 := hS3.drew
    refine rq 0 39 (v := .slice B1 rows.length c1) rfl (hS10.se [0]) (fun w' hw' => (ym (.slice B1 rows.length c1) rfl (hf1.g 6 2))) ?_
    refine rq 1 40 (v := pt B1 ((0 : Int).toNat * 1)) rfl (hS10.se [0]) (fun w' hw' => (Y_index (B := B1) (m := rows.length) (c := c1) (k := .i64) (i := 0) K27 K0 rfl rfl rfl (gi_isSome encI_len rfl (ST.cf hw' (i := 0) rfl) hx1) (getI_nn hx1) (getI_ltI hx1 rfl))) ?_
    refine rq 2 41 (v := vi x1) rfl (hS10.se [0]) (fun w' hw' => (yl B1 ((0 : Int).toNat * 1) (rows.flatMap encI) (vi x1) K1 (ST.cf hw' (i := 0) rfl) rfl rfl (gi_at0 encI_len hx1 rfl))) ?_
    refine rq 3 42 (v := .slice B1 rows.length c1) rfl (hS10.se [0]) (fun w' hw' => (ym (.slice B1 rows.length c1) rfl (hf1.g 6 2))) ?_
    refine rq 4 43 (v := pt B1 ((1 : Int).toNat * 1)) rfl (hS10.se [0]) (fun w' hw' => (Y_index (B := B1) (m := rows.length) (c := c1) (k := .i64) (i := 1) K27 K0 rfl rfl rfl (gi_isSome encI_len rfl (ST.cf hw' (i := 0) rfl) hx2) (getI_nn hx2) (getI_ltI hx2 rfl))) ?_
    refine rq 5 44 (v := vi x2) rfl (hS10.se [0]) (fun w' hw' => (yl B1 ((1 : Int).toNat * 1) (rows.flatMap encI) (vi x2) K1 (ST.cf hw' (i := 0) rfl) rfl rfl (gi_at0 encI_len hx2 rfl))) ?_
    refine rq 6 2 (v := vi x1) rfl (hS10.se [0]) (fun w' hw' => (yg (vi x1))) ?_
    refine rq 7 3 (v := vi x2) rfl (hS10.se [0]) (fun w' hw' => (yg (vi x2))) ?_
    refine rq 8 4 (v := .bool true) rfl (hS10.se [0]) (fun w' hw' => (yg (.bool true))) ?_
    refine ra_done (by kernel_rfl) ?_
    refine ct_ ?_
    obtain rfl := sI hF7
    obtain rfl := sI hL1
    obtain ⟨rfl, rfl, rfl⟩ := pr3 (sI hF1)
    exact ret3 Tryz.results70 (v1 := vi x1) (resAt_tmp rfl) (v2 := vi x2) (resAt_tmp rfl) (v3 := .bool true) (resAt_tmp rfl) ⟨rfl, (hS10.sN [])⟩
   ·skip
    have hF8 := cf' hF3 hb4
    refine cw_skip (cr ?_)
    refine sQ 13 (ym (vi kind) rfl (hf1.g 5 1)) <| sQ 14 (yP kind 1) <| sQ 5 (yg (vi (i64.wrap (kind + 1)))) (rn ?_)
    obtain rfl := sI hF8
    exact ⟨K9, Nat.lt_succ_self _, (i64.wrap (kind + 1)), (fc (hf1.g 0 0) (fc rfl fn_)), (hS3.sel [] rfl rfl), hL1⟩
 ·skip
  have hF9 := cf' hb hb1
  refine cw_exit rfl ?_
  obtain rfl := sI hF9
  obtain rfl := sI hL1
  refine cq (cr ?_)
  refine sQ 2 (yg (vi 0)) <| sQ 3 (yg (vi 0)) <| sQ 4 (yg (.bool false)) (rn (ct_ ?_))
  obtain ⟨rfl, rfl, rfl⟩ := pr3 (sI hF1)
  exact ret3 Tryz.results70 (v1 := vi 0) (resAt_tmp rfl) (v2 := vi 0) (resAt_tmp rfl) (v3 := .bool false) (resAt_tmp rfl) ⟨rfl, (hS1.sN [])⟩

theorem c_impl_parities (x : TRing)  (w0 : World)  (hS : ST w0 [] w0 [] []) {r_ : Bool} {r_1 : Bool} (hF : F_impl_parities x = some (r_, r_1)) :
  CV Tryz.prog 99 #[gR_ x] w0 (fun v w' => v = .tuple #[.bool r_, .bool r_1] ∧ ST w0 [] w' [] []) := by
 unfold F_impl_parities at hF
 refine cv_of_cw 24 Tryz.func99 rfl Tryz.ntmps99 rfl ?_
 refine cq (cr ?_)
 refine sS 1 (yB 49 (gR_ x) (kR_ x) 4 hS) ?_
 rintro _ w_ ⟨b, rfl, hS1⟩
 refine sQ 2 (yg (.bool false)) <| sQ 3 (yg (.bool false)) (rn (cq (cr ?_)))
 refine sQ 5 (yd (aD b) 0 0 K17 K0) <| sQ 6 (yl (aD b) 0 (kR_ x) (vi x.A) K1 (hS1.c 0)) <| sQ 7 (Y_band (k := .i64) (a := x.A) (b := 1) rfl rfl rfl) <| sQ 8 (yd (aD b) 0 0 K18 K0) <| sQ 9 (yl (aD b) 1 (kR_ x) (vi x.B) K1 (hS1.c 0)) <| sQ 10 (Y_band (k := .i64) (a := x.B) (b := 1) rfl rfl rfl) ?_
 refine sQ 11 (yP (bits .and .i64 x.A 1) (bits .and .i64 x.B 1)) <| sQ 12 (yd (aD b) 0 0 K19 K0) <| sQ 13 (yl (aD b) 2 (kR_ x) (vi x.C) K1 (hS1.c 0)) <| sQ 14 (Y_band (k := .i64) (a := x.C) (b := 1) rfl rfl rfl) <| sQ 15 (yP (i64.wrap ((bits .and .i64 x.A 1) + (bits .and .i64 x.B 1))) (bits .and .i64 x.C 1)) <| sQ 16 (yd (aD b) 0 0 K20 K0) ?_
 refine sQ 17 (yl (aD b) 3 (kR_ x) (vi x.D) K1 (hS1.c 0)) <| sQ 18 (Y_band (k := .i64) (a := x.D) (b := 1) rfl rfl rfl) <| sQ 19 (yP (i64.wrap ((i64.wrap ((bits .and .i64 x.A 1) + (bits .and .i64 x.B 1))) + (bits .and .i64 x.C 1))) (bits .and .i64 x.D 1)) <| sQ 4 (yg (vi (i64.wrap ((i64.wrap ((i64.wrap ((bits .and .i64 x.A 1) + (bits .and .i64 x.B 1))) + (bits .and .i64 x.C 1))) + (bits .and .i64 x.D 1))))) (rn (cq (cr ?_)))
 refine sQ 20 (ym (vi (i64.wrap ((i64.wrap ((i64.wrap ((bits .and .i64 x.A 1) + (bits .and .i64 x.B 1))) + (bits .and .i64 x.C 1))) + (bits .and .i64 x.D 1))))) <| sQ 21 (yE (i64.wrap ((i64.wrap ((i64.wrap ((bits .and .i64 x.A 1) + (bits .and .i64 x.B 1))) + (bits .and .i64 x.C 1))) + (bits .and .i64 x.D 1))) 0) <| sQ 22 (ym (vi (i64.wrap ((i64.wrap ((i64.wrap ((bits .and .i64 x.A 1) + (bits .and .i64 x.B 1))) + (bits .and .i64 x.C 1))) + (bits .and .i64 x.D 1))))) <| sQ 23 (yE (i64.wrap ((i64.wrap ((i64.wrap ((bits .and .i64 x.A 1) + (bits .and .i64 x.B 1))) + (bits .and .i64 x.C 1))) + (bits .and .i64 x.D 1))) 4) <| sQ 2 (yg (.bool ((i64.wrap ((i64.wrap ((i64.wrap ((bits .and .i64 x.A 1) + (bits .and .i64 x.B 1))) + (bits .and .i64 x.C 1))) + (bits .and .i64 x.D 1))) == 0))) <| sQ 3 (yg (.bool ((i64.wrap ((i64.wrap ((i64.wrap ((bits .and .i64 x.A 1) + (bits .and .i64 x.B 1))) + (bits .and .i64 x.C 1))) + (bits .and .i64 x.D 1))) == 4))) (rn (ct_ ?_))
 obtain ⟨rfl, rfl⟩ := pr2 (sI hF)
 exact ret2 Tryz.results99 (v1 := .bool ((i64.wrap ((i64.wrap ((i64.wrap ((bits .and .i64 x.A 1) + (bits .and .i64 x.B 1))) + (bits .and .i64 x.C 1))) + (bits .and .i64 x.D 1))) == 0)) (resAt_tmp rfl) (v2 := .bool ((i64.wrap ((i64.wrap ((i64.wrap ((bits .and .i64 x.A 1) + (bits .and .i64 x.B 1))) + (bits .and .i64 x.C 1))) + (bits .and .i64 x.D 1))) == 4)) (resAt_tmp rfl) ⟨rfl, (hS1.sN [])⟩

theorem c_impl_MatchingPower (x : TRing) (y : TRing)  (w0 : World)  (hS : ST w0 [] w0 [] []) {r_ : Int} {r_1 : Bool} (hF : F_impl_MatchingPower x y = some (r_, r_1)) :
  CV Tryz.prog 71 #[gR_ x, gR_ y] w0 (fun v w' => v = .tuple #[vi r_, .bool r_1] ∧ ST w0 [] w' [] []) := by
 unfold F_impl_MatchingPower at hF
 refine cv_of_cw 86 Tryz.func71 rfl Tryz.ntmps71 rfl ?_
 refine cq (cr ?_)
 refine sS 2 (yB 49 (gR_ x) (kR_ x) 4 hS) ?_
 rintro _ w_ ⟨b, rfl, hS1⟩
 refine sS 3 (yB 49 (gR_ y) (kR_ y) 4 hS1) ?_
 rintro _ w_1 ⟨b1, rfl, hS2⟩
 refine sQ 4 (yg (vi 0)) <| sQ 5 (yg (.bool false)) (rn (cq (cr ?_)))
 refine sQ 17 (yb (aD b) 0 (kR_ x) K7 K3 (hS2.c 0)) ?_
 obtain ⟨⟨r_2, r_3⟩, hc, hF⟩ := bI hF
 refine sc 18 rfl rfl (yC [gR_ x] K118 (c_impl_ResidueType x _  (hS2.inn0 [] rfl) hc)) ?_
 rintro _ w_2 ⟨rfl, hd⟩
 have hS3 := hS2.out00 hd
 refine sQ 16 (ym (.tuple #[vi r_2, .bool r_3])) <| sQ 19 (ye (vi r_2)) <| sQ 20 (ye (.bool r_3)) <| sQ 6 (yg (vi r_2)) <| sQ 7 (yg (.bool r_3)) (rn (cq (cr ?_)))
 refine sQ 22 (yb (aD b1) 0 (kR_ y) K7 K3 (hS3.c 1)) ?_
 obtain ⟨⟨r_4, r_5⟩, hc1, hF⟩ := bI hF
 refine sc 23 rfl rfl (yC [gR_ y] K118 (c_impl_ResidueType y _  (hS3.inn0 [] rfl) hc1)) ?_
 rintro _ w_3 ⟨rfl, hd1⟩
 have hS4 := hS3.out00 hd1
 refine sQ 21 (ym (.tuple #[vi r_4, .bool r_5])) <| sQ 24 (ye (vi r_4)) <| sQ 25 (ye (.bool r_5)) <| sQ 8 (yg (vi r_4)) <| sQ 9 (yg (.bool r_5)) (rn (cq (cq (cr ?_))))
 refine sQ 26 (ym (.bool r_3)) <| sQ 27 (Y_not (p := r_3) rfl rfl) <| sQ 28 (ym (.bool (!r_3))) ?_
 refine sgq 29 (B := (!(!r_3))) (v := .bool r_5) rfl rfl (uF_ 28) (fun hg => (ym (.bool r_5))) ?_
 refine sgq 30 (B := (!(!r_3))) (v := .bool (!r_5)) rfl rfl (uF_ 28) (fun hg1 => (Y_not (p := r_5) rfl (gv_of (v := .bool r_5) hg1))) ?_
 refine sQ 31 (Y_or (b := (!r_3)) (z := (!r_5)) rfl rfl rfl rfl) <| sQ 32 (ym (.bool ((!r_3) || (!r_5)))) ?_
 refine sgq 33 (B := (!((!r_3) || (!r_5)))) (v := vi r_2) rfl rfl (uF_ 32) (fun hg2 => (ym (vi r_2))) ?_
 refine sgq 34 (B := (!((!r_3) || (!r_5)))) (v := vi r_4) rfl rfl (uF_ 32) (fun hg3 => (ym (vi r_4))) ?_
 refine sgq 35 (B := (!((!r_3) || (!r_5)))) (v := .bool (r_2 != r_4)) rfl rfl (uF_ 32) (fun hg4 => (Y_ne (k := .i64) (a := r_2) (b := r_4) rfl (gv_of (v := vi r_2) hg4) (gv_of (v := vi r_4) hg4))) ?_
 refine sQ 36 (Y_or (b := ((!r_3) || (!r_5))) (z := (r_2 != r_4)) rfl rfl rfl rfl) <| sQ 37 (ym (.bool (((!r_3) || (!r_5)) || (r_2 != r_4)))) ?_
 refine sgq 38 (B := (!(((!r_3) || (!r_5)) || (r_2 != r_4)))) (v := vi r_2) rfl rfl (uF_ 37) (fun hg5 => (ym (vi r_2))) ?_
 refine sgq 39 (B := (!(((!r_3) || (!r_5)) || (r_2 != r_4)))) (v := .bool (r_2 == 0)) rfl rfl (uF_ 37) (fun hg6 => (yE r_2 0 rfl (gv_of (v := vi r_2) hg6))) ?_
 refine sQ 40 (Y_or (b := (((!r_3) || (!r_5)) || (r_2 != r_4))) (z := (r_2 == 0)) rfl rfl rfl rfl) (rn ?_)
 refine cw_cond (b := ((((!r_3) || (!r_5)) || (r_2 != r_4)) || (r_2 == 0))) rfl (fun hb => ?_) (fun hb => ?_)
 ·skip
  have hF1 := ct hF hb
  refine cq (cr ?_)
  refine sQ 4 (yg (vi 0)) <| sQ 5 (yg (.bool false)) (rn (ct_ ?_))
  obtain ⟨rfl, rfl⟩ := pr2 (sI hF1)
  exact ret2 Tryz.results71 (v1 := vi 0) (resAt_tmp rfl) (v2 := .bool false) (resAt_tmp rfl) ⟨rfl, (hS4.sN [])⟩
 ·skip
  have hF2 := cf' hF hb
  refine cw_skip (cq (cq (cr ?_)))
  refine sQ 41 (ym (vi 0)) (rn ?_)
  obtain ⟨z, hz, hF3⟩ := bI hF2
  refine cw_block ?_
  refine cw_loop (fun k f w => ∃ (i : Nat), FF f [(2, pt (aD b) 0), (3, pt (aD b1) 0), (6, vi r_2), (41, vi (i : Int))] ∧ ST w0 [] w [⟨aD b, 49, kR_ x, 4⟩, ⟨aD b1, 49, kR_ y, 4⟩] [] ∧ i + k = 8 ∧ forX (F_impl_MatchingPower_l1 y x r_2) k i () = some z) 8 ⟨0, (fc rfl (fc rfl (fc rfl (fc rfl fn_)))), (hS4.sel [0, 1] rfl rfl), Nat.zero_add _, hz⟩ ?_
  rintro k_ f w ⟨i, hf, hS5, hik, hL⟩
  refine cq (cr ?_)
  refine sQ 42 (yL (i : Int) 8 rfl (hf.g 41 3)) (rn (cq ?_))
  refine cw_cond (b := (decide ((i : Int) < 8))) rfl (fun hlt => ?_) (fun hlt => ?_)
  ·skip
   have hlt1 : i < 8 := by have h := of_decide_eq_true hlt; omega
   obtain ⟨K9, rfl⟩ : ∃ k2, k_ = k2 + 1 := ⟨k_ - 1, by omega⟩
   obtain ⟨y1, hb1, hL1⟩ := forX_go hL
   unfold F_impl_MatchingPower_l1 at hb1
   refine cw_skip (cq (cw_block (cq (cr ?_))))
   refine sQ 43 (ym (vi (i : Int)) rfl (hf.g 41 3)) <| sQ 10 (yg (vi (i : Int))) (rn (cq (cr ?_)))
   refine sQ 45 (yb (aD b1) 0 (kR_ y) K7 K3 (hS5.c 1) rfl (hf.g 3 1)) <| sQ 46 (ym (vi (i : Int))) ?_
   obtain ⟨⟨r_6, r_7⟩, hc2, hb1⟩ := bI hb1
   refine sc 47 rfl rfl (yC [gR_ y, vi (i : Int)] k_call_98 (c_impl_MulOmega y (i : Int) _  (hS5.inn0 [] rfl) hc2)) ?_
   rintro _ w_4 ⟨rfl, hd2⟩
   have hS6 := hS5.out00 hd2
   refine sQ 44 (ym (.tuple #[gR_ r_6, .bool r_7])) <| sQ 48 (ye (gR_ r_6)) <| sQ 49 (ye (.bool r_7)) ?_
   refine sS 11 (yN [vi 0, vi 0, vi 0, vi 0] 4 hS6 K14) ?_
   rintro _ w_5 ⟨b2, rfl, hS7⟩
   refine s0 (yT 2 4 (aD b2) 49 (gR_ r_6) (kR_ r_6) 0 hS7 K3) ?_
   rintro _ w_6 ⟨rfl, hS8⟩
   refine sQ 12 (yg (.bool r_7)) (rn (cq (cr ?_)))
   refine sQ 50 (yd (aD b) 0 0 K17 K0 rfl (hf.g 2 0)) <| sQ 51 (yl (aD b) 0 (kR_ x) (vi x.A) K1 (hS8.c 0)) <| sQ 52 (yd (aD b2) 0 0 K17 K0) <| sQ 53 (yl (aD b2) 0 (kR_ r_6) (vi r_6.A) K1 (hS8.c 2)) <| sQ 54 (yP x.A r_6.A) <| sQ 55 (yd (aD b) 0 0 K18 K0 rfl (hf.g 2 0)) ?_
   refine sQ 56 (yl (aD b) 1 (kR_ x) (vi x.B) K1 (hS8.c 0)) <| sQ 57 (yd (aD b2) 0 0 K18 K0) <| sQ 58 (yl (aD b2) 1 (kR_ r_6) (vi r_6.B) K1 (hS8.c 2)) <| sQ 59 (yP x.B r_6.B) <| sQ 60 (yd (aD b) 0 0 K19 K0 rfl (hf.g 2 0)) <| sQ 61 (yl (aD b) 2 (kR_ x) (vi x.C) K1 (hS8.c 0)) ?_
   refine sQ 62 (yd (aD b2) 0 0 K19 K0) <| sQ 63 (yl (aD b2) 2 (kR_ r_6) (vi r_6.C) K1 (hS8.c 2)) <| sQ 64 (yP x.C r_6.C) <| sQ 65 (yd (aD b) 0 0 K20 K0 rfl (hf.g 2 0)) <| sQ 66 (yl (aD b) 3 (kR_ x) (vi x.D) K1 (hS8.c 0)) <| sQ 67 (yd (aD b2) 0 0 K20 K0) ?_
   refine sQ 68 (yl (aD b2) 3 (kR_ r_6) (vi r_6.D) K1 (hS8.c 2)) <| sQ 69 (yP x.D r_6.D) <| sQ 70 (Y_buildS (zs := [vi 0, vi 0, vi 0, vi 0]) (vs := [(0, vi (i64.wrap (x.A + r_6.A))), (1, vi (i64.wrap (x.B + r_6.B))), (2, vi (i64.wrap (x.C + r_6.C))), (3, vi (i64.wrap (x.D + r_6.D)))]) (cs := [vi (i64.wrap (x.A + r_6.A)), vi (i64.wrap (x.B + r_6.B)), vi (i64.wrap (x.C + r_6.C)), vi (i64.wrap (x.D + r_6.D))]) K31 K14 rfl (mpc rfl (mpc rfl (mpc rfl (mpc rfl mpn)))) rfl) ?_
   refine sS 13 (yN [vi 0, vi 0, vi 0, vi 0] 4 hS8 K14) ?_
   rintro _ w_7 ⟨b3, rfl, hS9⟩
   refine s0 (yT 3 4 (aD b3) 49 (.agg #[vi (i64.wrap (x.A + r_6.A)), vi (i64.wrap (x.B + r_6.B)), vi (i64.wrap (x.C + r_6.C)), vi (i64.wrap (x.D + r_6.D))]) [vi (i64.wrap (x.A + r_6.A)), vi (i64.wrap (x.B + r_6.B)), vi (i64.wrap (x.C + r_6.C)), vi (i64.wrap (x.D + r_6.D))] 0 hS9 K3) ?_
   rintro _ w_8 ⟨rfl, hS10⟩
   refine rn (cq (cr ?_))
   refine sQ 72 (yb (aD b3) 0 [vi (i64.wrap (x.A + r_6.A)), vi (i64.wrap (x.B + r_6.B)), vi (i64.wrap (x.C + r_6.C)), vi (i64.wrap (x.D + r_6.D))] K7 K3 (hS10.c 3)) ?_
   obtain ⟨⟨r_8, r_9⟩, hc3, hb1⟩ := bI hb1
   refine sc 73 rfl rfl (yC [.agg #[vi (i64.wrap (x.A + r_6.A)), vi (i64.wrap (x.B + r_6.B)), vi (i64.wrap (x.C + r_6.C)), vi (i64.wrap (x.D + r_6.D))]] k_call_99 (c_impl_parities (TRing.mk (i64.wrap (x.A + r_6.A)) (i64.wrap (x.B + r_6.B)) (i64.wrap (x.C + r_6.C)) (i64.wrap (x.D + r_6.D))) _  (hS10.inn0 [] rfl) hc3)) ?_
   rintro _ w_9 ⟨rfl, hd3⟩
   have hS11 := hS10.out00 hd3
   refine sQ 71 (ym (.tuple #[.bool r_8, .bool r_9])) <| sQ 74 (ye (.bool r_8)) <| sQ 75 (ye (.bool r_9)) <| sQ 14 (yg (.bool r_8)) <| sQ 15 (yg (.bool r_9)) (rn (cq (cr ?_)))
   refine sQ 76 (ym (.bool r_8)) <| sQ 77 (ym (.bool r_8)) ?_
   refine sgq 78 (B := (!r_8)) (v := .bool r_9) rfl rfl (uF_ 77) (fun hg7 => (ym (.bool r_9))) ?_
   refine sgq 79 (B := (!r_8)) (v := .bool r_9) rfl rfl (uF_ 77) (fun hg8 => (ym (.bool r_9) rfl (gv_of (v := .bool r_9) hg8))) ?_
   refine sgq 80 (B := ((!r_8) && r_9)) (v := vi r_2) rfl rfl (wt_gt (gd_of (t := 79) (by kernel_rfl) rfl)) (fun hg9 => (ym (vi r_2) rfl (hf.g 6 2))) ?_
   refine sgq 81 (B := ((!r_8) && r_9)) (v := .bool (r_2 == 1)) rfl rfl (wt_gt (gd_of (t := 79) (by kernel_rfl) rfl)) (fun hg10 => (yE r_2 1 rfl (gv_of (v := vi r_2) hg10))) ?_
   refine sgq 82 (B := (!r_8)) (v := .bool (r_9 && (r_2 == 1))) rfl rfl (uF_ 77) (fun hg11 => (Y_and (b := r_9) (z := (r_2 == 1)) rfl (gv_of (v := .bool r_9) hg11) (gv_and (B := (!r_8)) (C := r_9) (v := .bool (r_2 == 1)) hg11) rfl)) ?_
   refine sQ 83 (Y_or (b := r_8) (z := (r_9 && (r_2 == 1))) rfl rfl rfl rfl) (rn ?_)
   refine cw_cond (b := (r_8 || (r_9 && (r_2 == 1)))) rfl (fun hb2 => ?_) (fun hb2 => ?_)
   ·skip
    have hF4 := ct hb1 hb2
    refine cq (cr ?_)
    refine sQ 84 (ym (vi (i : Int))) <| sQ 4 (yg (vi (i : Int))) <| sQ 5 (yg (.bool true)) (rn (ct_ ?_))
    obtain rfl := sI hF4
    obtain rfl := sI hL1
    obtain ⟨rfl, rfl⟩ := pr2 (sI hF3)
    exact ret2 Tryz.results71 (v1 := vi (i : Int)) (resAt_tmp rfl) (v2 := .bool true) (resAt_tmp rfl) ⟨rfl, (hS11.sN [])⟩
   ·skip
    have hF5 := cf' hb1 hb2
    refine cw_skip (cr ?_)
    refine sQ 85 (yP (i : Int) 1 rfl (hf.g 41 3)) <| sQ 41 (ym (vi (i64.wrap ((i : Int) + 1)))) (rn ?_)
    obtain rfl := sI hF5
    exact ⟨K9, Nat.lt_succ_self _, i + 1, (fc (hf.g 2 0) (fc (hf.g 3 1) (fc (hf.g 6 2) (fc (congrArg (Value.int .i64) (wr_succ hlt1 (show 8 ≤ 9223372036854775807 by decide))) fn_)))), (hS11.sel [0, 1] rfl rfl), (by omega), hL1⟩
  ·skip
   obtain rfl : k_ = 0 := by have h := of_decide_eq_false hlt; omega
   refine cw_exit rfl ?_
   obtain rfl := sI hL
   refine cq (cr ?_)
   refine sQ 4 (yg (vi 0)) <| sQ 5 (yg (.bool false)) (rn (ct_ ?_))
   obtain ⟨rfl, rfl⟩ := pr2 (sI hF3)
   exact ret2 Tryz.results71 (v1 := vi 0) (resAt_tmp rfl) (v2 := .bool false) (resAt_tmp rfl) ⟨rfl, (hS5.sN [])⟩

theorem c_impl_lowering (v_ : TMatrix) (k_ : Int) (B : Option Addr) (c n : Nat) (w0 : World) (hn : v_.Cells.length = n) (hS : ST w0 [] w0 [] [⟨B, (v_.Cells.flatMap eN0)⟩]) {r_ : TTwoLevel} {r_1 : Bool} (hF : F_impl_lowering v_ k_ = some (r_, r_1)) :
  CV Tryz.prog 35 #[.agg #[vi v_.Rows, vi v_.Cols, .slice B n c], vi k_] w0 (fun v w' => v = .tuple #[.agg #[vi r_.Kind, vi r_.I, vi r_.J, vi r_.M_], .bool r_1] ∧ ST w0 [] w' [] []) := by
 subst hn
 unfold F_impl_lowering at hF
 refine cv_of_cw 64 Tryz.func35 rfl Tryz.ntmps35 rfl ?_
 refine cq (cr ?_)
 refine sS 2 (yB 34 (gM_ v_ B c) (kM_ v_ B c) 3 hS) ?_
 rintro _ w_ ⟨b, rfl, hS1⟩
 refine sS 4 (yN [vi 0, vi 0, vi 0, vi 0] 4 hS1 K30) ?_
 rintro _ w_1 ⟨b1, rfl, hS2⟩
 refine sQ 5 (yg (.bool false)) (rn (cq (cr ?_)))
 refine sS 16 (Ys_bslice0 (s := 4) (e := 49) hS2 K40 K3 rfl) ?_
 rintro _ w_2 ⟨b2, rfl, hS3⟩
 refine sQ 6 (yg (.slice (aD b2) 0 0)) (rn (cq (cq (cr ?_))))
 refine sQ 17 (yd (aD b) 0 0 K15 K13) <| sQ 18 (yl (aD b) 2 (kM_ v_ B c) (.slice B v_.Cells.length c) K16 (hS3.c 0)) <| sQ 19 (Y_len (B := B) (m := v_.Cells.length) (c := c) K12 rfl rfl) <| sQ 20 (ym (vi 0)) (rn ?_)
 obtain ⟨hN, hF⟩ := chk_inv hF
 obtain ⟨z, hz, hF1⟩ := bI hF
 refine cw_block ?_
 refine cw_loop (fun k f w => ∃ (i : Nat) (list : List TRing) (B1 : Option Addr) (c1 : Nat), FF f [(1, vi k_), (4, pt (aD b1) 0), (6, .slice B1 list.length c1), (18, .slice B v_.Cells.length c), (19, vi (v_.Cells.length : Int)), (20, vi (i : Int))] ∧ ST w0 [] w [⟨aD b1, 25, [vi 0, vi 0, vi 0, vi 0], 4⟩, ⟨B1, 49, (list.flatMap enc_Ring), c1 * 4⟩] [⟨B, (v_.Cells.flatMap eN0)⟩] ∧ i + k = v_.Cells.length ∧ forX (F_impl_lowering_l1 v_ k_) k i list = some z) v_.Cells.length ⟨0, [], aD b2, 0, (fc rfl (fc rfl (fc rfl (fc rfl (fc rfl (fc rfl fn_)))))), (hS3.sel [1, 2] rfl rfl), Nat.zero_add _, hz⟩ ?_
 rintro K9 f w ⟨i, list, B1, c1, hf, hS4, hik, hL⟩
 refine cq (cr ?_)
 refine sQ 21 (yL (i : Int) (v_.Cells.length : Int) rfl (hf.g 20 5) (hf.g 19 4)) (rn (cq ?_))
 refine cw_cond (b := (decide ((i : Int) < (v_.Cells.length : Int)))) rfl (fun hlt => ?_) (fun hlt => ?_)
 ·skip
  have hlt1 : i < v_.Cells.length := by have h := of_decide_eq_true hlt; omega
  obtain ⟨K22, rfl⟩ : ∃ k2, K9 = k2 + 1 := ⟨K9 - 1, by omega⟩
  obtain ⟨y, hb, hL1⟩ := forX_go hL
  unfold F_impl_lowering_l1 at hb
  refine cw_skip (cq (cw_block (cq (cr ?_))))
  obtain ⟨x, hx, hb⟩ := bI hb
  refine sQ 22 (Y_index (B := B) (m := v_.Cells.length) (c := c) (k := .i64) (i := (i : Int)) K12 K2 rfl (hf.g 18 3) (hf.g 20 5) (gi_isSome eN1 rfl (hS4.rf (i := 0) rfl) hx) (getI_nn hx) (getI_ltI hx rfl)) <| sQ 23 (ya B ((i : Int).toNat * 5) (v_.Cells.flatMap eN0) (kD_ x) K5 K2 (hS4.rf (i := 0) rfl) rfl rfl (eN1 x) (gi_seg eN1 hx)) ?_
  refine sS 8 (yN kZ_ 5 hS4 K6) ?_
  rintro _ w_3 ⟨b3, rfl, hS5⟩
  refine s0 (yT 2 5 (aD b3) 51 (gD_ x) (kD_ x) 0 hS5 K2) ?_
  rintro _ w_4 ⟨rfl, hS6⟩
  refine rn (cq (cr ?_))
  refine sQ 25 (yb (aD b3) 0 (kD_ x) K5 K2 (hS6.c 2)) <| sQ 26 (ym (vi k_) rfl (hf.g 1 0)) ?_
  obtain ⟨⟨r_2, r_3⟩, hc, hb⟩ := bI hb
  refine sc 27 rfl rfl (yC [gD_ x, vi k_] K109 (c_impl_raised x k_ _  (hS6.inn0 [] rfl) hc)) ?_
  rintro _ w_5 ⟨rfl, hd⟩
  have hS7 := hS6.out00 hd
  refine sQ 24 (ym (.tuple #[gR_ r_2, .bool r_3])) <| sQ 28 (ye (gR_ r_2)) <| sQ 29 (ye (.bool r_3)) ?_
  refine sS 9 (yN [vi 0, vi 0, vi 0, vi 0] 4 hS7 K14) ?_
  rintro _ w_6 ⟨b4, rfl, hS8⟩
  refine s0 (yT 3 4 (aD b4) 49 (gR_ r_2) (kR_ r_2) 0 hS8 K3) ?_
  rintro _ w_7 ⟨rfl, hS9⟩
  refine sQ 10 (yg (.bool r_3)) (rn (cq (cq (cr ?_))))
  refine sQ 30 (ym (.bool r_3)) <| sQ 31 (Y_not (p := r_3) rfl rfl) (rn ?_)
  refine cw_cond (b := (!r_3)) rfl (fun hb1 => ?_) (fun hb1 => ?_)
  ·skip
   have hF2 := ct hb hb1
   refine cq (cr ?_)
   refine sQ 32 (Y_buildS (zs := [vi 0, vi 0, vi 0, vi 0]) (vs := []) (cs := [vi 0, vi 0, vi 0, vi 0]) K50 K30 rfl mpn rfl) ?_
   refine s0 (yT 0 4 (aD b1) 25 (.agg #[vi 0, vi 0, vi 0, vi 0]) [vi 0, vi 0, vi 0, vi 0] 0 hS9 K11 rfl (hf.g 4 1)) ?_
   rintro _ w_8 ⟨rfl, hS10⟩
   refine sQ 5 (yg (.bool false)) (rn (ct_ ?_))
   obtain rfl := sI hF2
   obtain rfl := sI hL1
   obtain ⟨rfl, rfl⟩ := pr2 (sI hF1)
   exact ret2 Tryz.results35 (v1 := .agg #[vi 0, vi 0, vi 0, vi 0]) (resAt_cellA (B := aD b1) (i := 0) (cs := [vi 0, vi 0, vi 0, vi 0]) (vs := [vi 0, vi 0, vi 0, vi 0]) (hf.g 4 1) K26 K11 (hS10.c 0) rfl rfl) (v2 := .bool false) (resAt_tmp rfl) ⟨rfl, (hS10.sN [])⟩
  ·skip
   have hF3 := cf' hb hb1
   refine cw_skip (cr ?_)
   refine sQ 33 (ym (.slice B1 list.length c1) rfl (hf.g 6 2)) <| sQ 34 (yb (aD b4) 0 (kR_ r_2) K7 K3 (hS9.c 3)) ?_
   refine sS 35 (Ys_bslice (s := 4) (len := 1) (vs := [(0, gR_ r_2)]) (cs := kR_ r_2) (zs := [vi 0, vi 0, vi 0, vi 0]) (m := 4) hS9 K40 K3 K63 rfl (mpc rfl mpn) rfl rfl rfl (by kernel_rfl) (by kernel_rfl) rfl) ?_
   rintro _ w_9 ⟨b5, rfl, hS11⟩
   obtain ⟨hap, hF3⟩ := chk_inv hF3
   refine sS 36 (Ys_append (s := 4) (by' := 32) (i := 1) (nn := list.length) (c := c1) (k := 1) (len := (list ++ [r_2]).length) (B := B1) (xs := ([r_2].flatMap enc_Ring)) (cs' := ((list ++ [r_2]).flatMap enc_Ring)) hS11 K40 K3 k_by_49_32 K14 rfl (by decide) rfl rfl rfl rfl (fm_lenn (l := list) enc_Ring_len rfl) rfl (hS11.c 4) (fm_lenn (l := [r_2]) enc_Ring_len rfl) (fm_one' (enc := enc_Ring) enc_Ring_one [r_2]) (by have := hap; omega) (by have := hap; simp only [maxLen]; omega) (fm_app _ _) (app_len (l := list) (l' := [r_2]) rfl rfl)) ?_
   rintro _ w_10 ⟨B2, c2, rfl, hS12⟩
   refine sQ 6 (yg (.slice B2 ((list ++ [r_2]).length) c2)) (rn (cr ?_))
   refine sQ 37 (yP (i : Int) 1 rfl (hf.g 20 5)) <| sQ 20 (ym (vi (i64.wrap ((i : Int) + 1)))) (rn ?_)
   obtain rfl := sI hF3
   exact ⟨K22, Nat.lt_succ_self _, i + 1, (list ++ [r_2]), B2, c2, (fc (hf.g 1 0) (fc (hf.g 4 1) (fc rfl (fc (hf.g 18 3) (fc (hf.g 19 4) (fc (congrArg (Value.int .i64) (wr_succ hlt1 hN)) fn_)))))), (hS12.sel [0, 1] rfl rfl), (by omega), hL1⟩
 ·skip
  obtain rfl : K9 = 0 := by have h := of_decide_eq_false hlt; omega
  refine cw_exit rfl ?_
  obtain rfl := sI hL
  refine cq (cr ?_)
  refine sQ 39 (ym (.slice B1 list.length c1) rfl (hf.g 6 2)) ?_
  obtain ⟨⟨r_4, r_5, r_6⟩, hc1, hF1⟩ := bI hF1
  refine sc 40 rfl rfl (yC [.slice B1 list.length c1] k_call_70 (c_impl_nextPair list B1 c1 list.length _ rfl (hS4.inn0 [(false, 1)] rfl) hc1)) ?_
  rintro _ w_11 ⟨rfl, hd1⟩
  have hS13 := hS4.out00 hd1
  refine sQ 38 (ym (.tuple #[vi r_4, vi r_5, .bool r_6])) <| sQ 41 (ye (vi r_4)) <| sQ 42 (ye (vi r_5)) <| sQ 43 (ye (.bool r_6)) <| sQ 11 (yg (vi r_4)) <| sQ 12 (yg (vi r_5)) ?_
  refine sQ 13 (yg (.bool r_6)) (rn (cq (cq (cr ?_))))
  refine sQ 44 (ym (.bool r_6)) <| sQ 45 (Y_not (p := r_6) rfl rfl) (rn ?_)
  refine cw_cond (b := (!r_6)) rfl (fun hb2 => ?_) (fun hb2 => ?_)
  ·skip
   have hF4 := ct hF1 hb2
   refine cq (cr ?_)
   refine sQ 46 (Y_buildS (zs := [vi 0, vi 0, vi 0, vi 0]) (vs := []) (cs := [vi 0, vi 0, vi 0, vi 0]) K50 K30 rfl mpn rfl) ?_
   refine s0 (yT 0 4 (aD b1) 25 (.agg #[vi 0, vi 0, vi 0, vi 0]) [vi 0, vi 0, vi 0, vi 0] 0 hS13 K11 rfl (hf.g 4 1)) ?_
   rintro _ w_12 ⟨rfl, hS14⟩
   refine sQ 5 (yg (.bool false)) (rn (ct_ ?_))
   obtain ⟨rfl, rfl⟩ := pr2 (sI hF4)
   exact ret2 Tryz.results35 (v1 := .agg #[vi 0, vi 0, vi 0, vi 0]) (resAt_cellA (B := aD b1) (i := 0) (cs := [vi 0, vi 0, vi 0, vi 0]) (vs := [vi 0, vi 0, vi 0, vi 0]) (hf.g 4 1) K26 K11 (hS14.c 0) rfl rfl) (v2 := .bool false) (resAt_tmp rfl) ⟨rfl, (hS14.sN [])⟩
  ·skip
   have hF5 := cf' hF1 hb2
   refine cw_skip (cq ?_)
   obtain ⟨x1, hx1, hF5⟩ := bI hF5
   obtain ⟨x2, hx2, hF5⟩ := bI hF5
   obtain ⟨⟨r_7, r_8⟩, hc2, hF5⟩ := bI hF5
   refine ra_start (hS13.se [0, 1]).fn (by kernel_rfl) ?_
   have hS16 := hS13.drew
   refine rq 0 48 (v := .slice B1 list.length c1) rfl (hS16.se [0, 1]) (fun w' hw' => (ym (.slice B1 list.length c1) rfl (hf.g 6 2))) ?_
   refine rq 1 49 (v := vi r_4) rfl (hS16.se [0, 1]) (fun w' hw' => (ym (vi r_4))) ?_
   refine rq 2 50 (v := pt B1 (r_4.toNat * 4)) rfl (hS16.se [0, 1]) (fun w' hw' => (Y_index (B := B1) (m := list.length) (c := c1) (k := .i64) (i := r_4) K40 K3 rfl rfl rfl (gi_isSome enc_Ring_len rfl (ST.cf hw' (i := 1) rfl) hx1) (getI_nn hx1) (getI_ltI hx1 rfl))) ?_
   refine rq 3 51 (v := gR_ x1) rfl (hS16.se [0, 1]) (fun w' hw' => (ya B1 (r_4.toNat * 4) (list.flatMap enc_Ring) (kR_ x1) K7 K3 (ST.cf hw' (i := 1) rfl) rfl rfl (enc_Ring_len x1) (gi_seg enc_Ring_len hx1))) ?_
   refine rq 4 52 (v := .slice B1 list.length c1) rfl (hS16.se [0, 1]) (fun w' hw' => (ym (.slice B1 list.length c1) rfl (hf.g 6 2))) ?_
   refine rq 5 53 (v := vi r_5) rfl (hS16.se [0, 1]) (fun w' hw' => (ym (vi r_5))) ?_
   refine rq 6 54 (v := pt B1 (r_5.toNat * 4)) rfl (hS16.se [0, 1]) (fun w' hw' => (Y_index (B := B1) (m := list.length) (c := c1) (k := .i64) (i := r_5) K40 K3 rfl rfl rfl (gi_isSome enc_Ring_len rfl (ST.cf hw' (i := 1) rfl) hx2) (getI_nn hx2) (getI_ltI hx2 rfl))) ?_
   refine rq 7 55 (v := gR_ x2) rfl (hS16.se [0, 1]) (fun w' hw' => (ya B1 (r_5.toNat * 4) (list.flatMap enc_Ring) (kR_ x2) K7 K3 (ST.cf hw' (i := 1) rfl) rfl rfl (enc_Ring_len x2) (gi_seg enc_Ring_len hx2))) ?_
   refine rA [8] ?_
   refine rC 56 8 rfl (yC [gR_ x1, gR_ x2] k_call_71 (c_impl_MatchingPower x1 x2 _  (hS16.inn0 [] rfl) hc2)) ?_ ?_
   ·rintro _ w_13 ⟨rfl, hd2⟩
    have hS17 := hS16.out00 hd2
    refine ⟨(hS17.se [0, 1]), ?_⟩
    refine rq 9 47 (v := .tuple #[vi r_7, .bool r_8]) rfl (hS17.se [0, 1]) (fun w' hw' => (ym (.tuple #[vi r_7, .bool r_8]))) ?_
    refine rq 10 57 (v := vi r_7) rfl (hS17.se [0, 1]) (fun w' hw' => (ye (vi r_7))) ?_
    refine rq 11 58 (v := .bool r_8) rfl (hS17.se [0, 1]) (fun w' hw' => (ye (.bool r_8))) ?_
    refine rq 12 14 (v := vi r_7) rfl (hS17.se [0, 1]) (fun w' hw' => (yg (vi r_7))) ?_
    refine rq 13 15 (v := .bool r_8) rfl (hS17.se [0, 1]) (fun w' hw' => (yg (.bool r_8))) ?_
    refine ra_done (by kernel_rfl) ?_
    refine cq (cr ?_)
    refine sQ 59 (ym (vi r_4)) <| sQ 60 (ym (vi r_5)) <| sQ 61 (ym (vi r_7)) <| sQ 62 (Y_buildS (zs := [vi 0, vi 0, vi 0, vi 0]) (vs := [(0, vi 3), (1, vi r_4), (2, vi r_5), (3, vi r_7)]) (cs := [vi 3, vi r_4, vi r_5, vi r_7]) K50 K30 rfl (mpc rfl (mpc rfl (mpc rfl (mpc rfl mpn)))) rfl) <| sQ 63 (ym (.bool r_8)) ?_
    refine s0 (yT 0 4 (aD b1) 25 (.agg #[vi 3, vi r_4, vi r_5, vi r_7]) [vi 3, vi r_4, vi r_5, vi r_7] 0 hS17 K11 rfl (hf.g 4 1)) ?_
    rintro _ w_14 ⟨rfl, hS18⟩
    refine sQ 5 (yg (.bool r_8)) (rn (ct_ ?_))
    obtain ⟨rfl, rfl⟩ := pr2 (sI hF5)
    exact ret2 Tryz.results35 (v1 := .agg #[vi 3, vi r_4, vi r_5, vi r_7]) (resAt_cellA (B := aD b1) (i := 0) (cs := [vi 3, vi r_4, vi r_5, vi r_7]) (vs := [vi 3, vi r_4, vi r_5, vi r_7]) (hf.g 4 1) K26 K11 (hS18.c 0) rfl rfl) (v2 := .bool r_8) (resAt_tmp rfl) ⟨rfl, (hS18.sN [])⟩
   exact aN
end Go.VK
