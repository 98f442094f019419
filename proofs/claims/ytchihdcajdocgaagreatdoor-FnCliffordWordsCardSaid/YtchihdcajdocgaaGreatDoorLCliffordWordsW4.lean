/- Walks: each Go function returns what its Lean function says. By program. -/
import Derived.Test.YtchihdcajdocgaaGreatDoorLCliffordWordsFa
import Derived.Test.YtchihdcajdocgaaGreatDoorLCliffordWordsW3
set_option linter.unusedVariables false
set_option maxRecDepth 100000
set_option maxHeartbeats 4000000
namespace Go.VK
open Go.RowKit
open Go.Proofs
open Go.IntKind
attribute [local irreducible] CW RW RA CV Y Yw Yc Ys RetOf
attribute [local irreducible] F_spec_l1In F_spec_l2Good F_spec_l2Low F_spec_l2C_add F_spec_l2C_mul F_spec_l2C_times F_spec_l2Power F_spec_l3Unit F_spec_l2Neg F_spec_l9Bloch F_impl_raised F_impl_IsValidBloch F_spec_l1Cur_pick F_spec_l6Gate F_spec_l2C_run F_spec_l6Op F_spec_l9Word F_spec_l9Same F_spec_l9Words F_spec_CliffordWord F_spec_l2C_matrix F_spec_l4Gate F_spec_l4Good F_spec_OperatorOf F_spec_l1Cur_gate F_spec_l1Cur_built F_spec_l1Cur_oneQubit F_spec_l1Cur_ring F_spec_l1Cur_dyadic F_spec_l1Cur_anyBloch F_spec_DrawIsValidBloch F_spec_DrawParityOf F_impl_blochExp F_impl_ParityOf F_spec_l2C_bloch F_spec_l9Turn F_spec_l2C_minor F_spec_l9Unit F_spec_l9Valid F_spec_l1Most F_spec_l9Exp F_spec_ParityOf
theorem c_spec_l2C_run (c : Tl2C) (x : TCircuit) (m : TMatrix) (B : Option Addr) (B1 : Option Addr) (c1 n : Nat) (B2 : Option Addr) (c2 n1 : Nat) (w0 : World) (hn : x.Gates.length = n) (hn1 : m.Cells.length = n1) (hS : ST w0 (bl [⟨B, 59, [.bool c.bad], 1⟩, ⟨B2, 54, (m.Cells.flatMap eN0), c2 * 5⟩]) w0 [⟨B, 59, [.bool c.bad], 1⟩, ⟨B2, 54, (m.Cells.flatMap eN0), c2 * 5⟩] [⟨B1, (x.Gates.flatMap enc_Gate)⟩]) {r_ : TMatrix} {m1 : Tl2C} (hF : F_spec_l2C_run c x m = some (r_, m1)) :
  CV Tryz.prog 40 #[pt B 0, .agg #[vi x.Qubits, .slice B1 n c1], .agg #[vi m.Rows, vi m.Cols, .slice B2 n1 c2]] w0 (fun v w' => ∃ (B3 : Option Addr) (c3 : Nat), v = (gM_ r_ B3 c3) ∧ ST w0 (bl [⟨B, 59, [.bool c.bad], 1⟩, ⟨B2, 54, (m.Cells.flatMap eN0), c2 * 5⟩]) w' [⟨B, 59, [.bool m1.bad], 1⟩, ⟨B3, 54, (r_.Cells.flatMap eN0), c3 * 5⟩] []) := by
 subst hn
 subst hn1
 unfold F_spec_l2C_run at hF
 refine cv_of_cw 30 Tryz.func40 rfl Tryz.ntmps40 rfl ?_
 refine cq (cr ?_)
 refine sS 4 (yB 43 (.agg #[vi x.Qubits, .slice B1 x.Gates.length c1]) [vi x.Qubits, .slice B1 x.Gates.length c1] 2 hS) ?_
 rintro _ w_ ⟨b, rfl, hS1⟩
 refine sS 5 (yB 26 (gM_ m B2 c2) (kM_ m B2 c2) 3 hS1) ?_
 rintro _ w_1 ⟨b1, rfl, hS2⟩
 refine sS 6 (yN kN_ 3 hS2 K17) ?_
 rintro _ w_2 ⟨b2, rfl, hS3⟩
 refine rn (cq (cq (cr ?_)))
 refine sQ 9 (yd (aD b) 0 0 K58 K46) <| sQ 10 (yl (aD b) 1 [vi x.Qubits, .slice B1 x.Gates.length c1] (.slice B1 x.Gates.length c1) K70 (hS3.c 2)) <| sQ 11 (Y_len (B := B1) (m := x.Gates.length) (c := c1) K47 rfl rfl) <| sQ 12 (ym (vi 0)) (rn ?_)
 obtain ⟨hN, hF⟩ := chk_inv hF
 obtain ⟨z, hz, hF1⟩ := bI hF
 refine cw_block ?_
 refine cw_loop (fun k f w => ∃ (i : Nat) (bad : Bool) (Rows : Int) (Cols : Int) (Cells : List TDyadic) (B4 : Option Addr) (c4 : Nat), FF f [(0, pt B 0), (4, pt (aD b) 0), (5, pt (aD b1) 0), (6, pt (aD b2) 0), (10, .slice B1 x.Gates.length c1), (11, vi (x.Gates.length : Int)), (12, vi (i : Int))] ∧ ST w0 (bl [⟨B, 59, [.bool c.bad], 1⟩, ⟨B2, 54, (m.Cells.flatMap eN0), c2 * 5⟩]) w [⟨B, 59, [.bool bad], 1⟩, ⟨aD b, 43, [vi x.Qubits, .slice B1 x.Gates.length c1], 2⟩, ⟨aD b1, 26, [vi Rows, vi Cols, .slice B4 Cells.length c4], 3⟩, ⟨B4, 54, (Cells.flatMap eN0), c4 * 5⟩, ⟨aD b2, 26, kN_, 3⟩] [⟨B1, (x.Gates.flatMap enc_Gate)⟩] ∧ i + k = x.Gates.length ∧ forN (F_spec_l2C_run_l1 x) k i (bad, Rows, Cols, Cells) = some z) x.Gates.length ⟨0, c.bad, m.Rows, m.Cols, m.Cells, B2, c2, (fc rfl (fc rfl (fc rfl (fc rfl (fc rfl (fc rfl (fc rfl fn_))))))), (hS3.sel [0, 2, 3, 1, 4] rfl rfl), Nat.zero_add _, hz⟩ ?_
 rintro k_ f w ⟨i, bad, Rows, Cols, Cells, B4, c4, hf, hS4, hik, hL⟩
 refine cq (cr ?_)
 refine sQ 13 (yL (i : Int) (x.Gates.length : Int) rfl (hf.g 12 6) (hf.g 11 5)) (rn (cq ?_))
 refine cw_cond (b := (decide ((i : Int) < (x.Gates.length : Int)))) rfl (fun hlt => ?_) (fun hlt => ?_)
 ·skip
  have hlt1 : i < x.Gates.length := by have h := of_decide_eq_true hlt; omega
  obtain ⟨K9, rfl⟩ : ∃ k2, k_ = k2 + 1 := ⟨k_ - 1, by omega⟩
  obtain ⟨y, hb, hL1⟩ := forN_go hL
  unfold F_spec_l2C_run_l1 at hb
  refine cw_skip (cq ?_)
  obtain ⟨z1, hz1, hF2⟩ := bI hb
  refine cw_mid (fun f w => ∃ (bad1 : Bool) (Rows1 : Int) (Cols1 : Int) (Cells1 : List TDyadic) (B5 : Option Addr) (c5 : Nat), (bad1, Rows1, Cols1, Cells1) = z1 ∧ FF f [(0, pt B 0), (4, pt (aD b) 0), (5, pt (aD b1) 0), (6, pt (aD b2) 0), (10, .slice B1 x.Gates.length c1), (11, vi (x.Gates.length : Int)), (12, vi (i : Int))] ∧ ST w0 (bl [⟨B, 59, [.bool c.bad], 1⟩, ⟨B2, 54, (m.Cells.flatMap eN0), c2 * 5⟩]) w [⟨B, 59, [.bool bad1], 1⟩, ⟨aD b, 43, [vi x.Qubits, .slice B1 x.Gates.length c1], 2⟩, ⟨aD b1, 26, [vi Rows1, vi Cols1, .slice B5 Cells1.length c5], 3⟩, ⟨B5, 54, (Cells1.flatMap eN0), c5 * 5⟩, ⟨aD b2, 26, kN_, 3⟩] [⟨B1, (x.Gates.flatMap enc_Gate)⟩]) ?_ ?_
  ·skip
   refine cw_block (cq (cr ?_))
   obtain ⟨x1, hx, hz1⟩ := bI hz1
   refine sQ 14 (Y_index (B := B1) (m := x.Gates.length) (c := c1) (k := .i64) (i := (i : Int)) K47 K28 rfl (hf.g 10 4) (hf.g 12 6) (gi_isSome enc_Gate_len rfl (hS4.rf (i := 0) rfl) hx) (getI_nn hx) (getI_ltI hx rfl)) <| sQ 15 (ya B1 ((i : Int).toNat * 3) (x.Gates.flatMap enc_Gate) [vi x1.Kind, vi x1.A, vi x1.B] K52 K28 (hS4.rf (i := 0) rfl) rfl rfl (enc_Gate_len x1) (gi_seg enc_Gate_len hx)) ?_
   refine sS 8 (yN [vi 0, vi 0, vi 0] 3 hS4 K45) ?_
   rintro _ w_3 ⟨b3, rfl, hS6⟩
   refine s0 (yT 5 3 (aD b3) 45 (.agg #[vi x1.Kind, vi x1.A, vi x1.B]) [vi x1.Kind, vi x1.A, vi x1.B] 0 hS6 K28) ?_
   rintro _ w_4 ⟨rfl, hS7⟩
   refine rn (cq (cr ?_))
   refine sQ 16 (ym (pt B 0) rfl (hf.g 0 0)) <| sQ 17 (Y_nilCheck (B := B) (i := 0) rfl rfl) <| sQ 18 (yd B 0 0 K65 K54) <| sQ 19 (yl B 0 [.bool bad] (.bool bad) K72 (hS7.c 0)) <| sQ 20 (Y_not (p := bad) rfl rfl) (rn ?_)
   refine cw_cond (b := (!bad)) rfl (fun hb1 => ?_) (fun hb1 => ?_)
   ·skip
    have hF3 := ct hz1 hb1
    obtain ⟨r_1, hc, hF3⟩ := bI hF3
    obtain ⟨⟨r_2, m2⟩, hc1, hF3⟩ := bI hF3
    refine cw_mid (fun f w => ∃ (B8 : Option Addr) (c8 : Nat), FF f [(0, pt B 0), (4, pt (aD b) 0), (5, pt (aD b1) 0), (6, pt (aD b2) 0), (10, .slice B1 x.Gates.length c1), (11, vi (x.Gates.length : Int)), (12, vi (i : Int))] ∧ ST w0 (bl [⟨B, 59, [.bool c.bad], 1⟩, ⟨B2, 54, (m.Cells.flatMap eN0), c2 * 5⟩]) w [⟨B, 59, [.bool m2.bad], 1⟩, ⟨aD b, 43, [vi x.Qubits, .slice B1 x.Gates.length c1], 2⟩, ⟨aD b1, 26, kM_ r_2 B8 c8, 3⟩, ⟨B8, 54, (r_2.Cells.flatMap eN0), c8 * 5⟩, ⟨aD b2, 26, kN_, 3⟩] [⟨B1, (x.Gates.flatMap enc_Gate)⟩]) ?_ ?_
    ·skip
     refine ra_start (hS7.se [1, 3, 4, 5]).fn (by kernel_rfl) ?_
     have hS11 := hS7.drew
     refine rq 0 21 (v := pt B 0) rfl (hS11.se [1, 3, 4, 5]) (fun w' hw' => (ym (pt B 0) rfl (hf.g 0 0))) ?_
     refine rq 1 22 (v := pt (aD b) 0) rfl (hS11.se [1, 3, 4, 5]) (fun w' hw' => (yd (aD b) 0 0 K105 K2 rfl (hf.g 4 1))) ?_
     refine rq 2 23 (v := vi x.Qubits) rfl (hS11.se [1, 3, 4, 5]) (fun w' hw' => (yl (aD b) 0 [vi x.Qubits, .slice B1 x.Gates.length c1] (vi x.Qubits) K1 (ST.cf hw' (i := 0) rfl))) ?_
     refine rq 3 24 (v := .agg #[vi x1.Kind, vi x1.A, vi x1.B]) rfl (hS11.se [1, 3, 4, 5]) (fun w' hw' => (yb (aD b3) 0 [vi x1.Kind, vi x1.A, vi x1.B] K52 K28 (ST.cf hw' (i := 3) rfl))) ?_
     refine rA [4, 5] ?_
     refine rC 25 4 rfl (yC [vi x.Qubits, .agg #[vi x1.Kind, vi x1.A, vi x1.B]] k_call_79 (c_spec_l6Gate x.Qubits x1 _  (hS11.inn0 [] rfl) hc)) ?_ ?_
     ·rintro _ w_5 ⟨B6, c6, rfl, hd⟩
      have hS12 := hS11.out0 hd
      refine ⟨(hS12.se [1, 3, 4, 5]), ?_⟩
      refine rA [5] ?_
      refine ra_y 26 (i := 5) (v := .agg #[vi Rows, vi Cols, .slice B4 Cells.length c4]) rfl rfl rfl (yb (aD b1) 0 [vi Rows, vi Cols, .slice B4 Cells.length c4] K13 K6 (hS12.c 2) rfl (hf.g 5 2)) (hS12.se [1, 3, 4, 5]) ?_ ?_
      ·skip
       refine rA [6] ?_
       refine rC 27 6 rfl (yC [pt B 0, gM_ r_1 B6 c6, .agg #[vi Rows, vi Cols, .slice B4 Cells.length c4]] K39 (c_spec_l2C_times (Tl2C.mk bad) r_1 (TMatrix.mk Rows Cols Cells) B B6 c6 r_1.Cells.length B4 c4 Cells.length _ rfl rfl (hS12.inn [true, false, false, false, false, false, false] rfl [(false, 5), (false, 2)] rfl) hc1)) ?_ ?_
       ·rintro _ w_6 ⟨B7, c7, rfl, hd1⟩
        have hS13 := hS12.out [true, false, false, false, false, false, false] rfl hd1
        refine ⟨(hS13.se [0, 2, 3, 4]), ?_⟩
        refine rA [7] ?_
        refine rZ 7 rfl (yT 1 3 (aD b1) 26 (gM_ r_2 B7 c7) (kM_ r_2 B7 c7) 0 hS13 K6 rfl (hf.g 5 2)) ?_ ?_
        ·rintro _ w_7 ⟨rfl, hS14⟩
         refine ⟨(hS14.se [0, 2, 3, 4]), ?_⟩
         refine ra_done (by kernel_rfl) ?_
         exact ⟨B7, c7, (fc (hf.g 0 0) (fc (hf.g 4 1) (fc (hf.g 5 2) (fc (hf.g 6 3) (fc (hf.g 10 4) (fc (hf.g 11 5) (fc (hf.g 12 6) fn_))))))), (hS14.sel [6, 0, 1, 7, 3] rfl rfl)⟩
        exact aN
       exact aN
      exact aN
     refine ra_y 26 (i := 5) (v := .agg #[vi Rows, vi Cols, .slice B4 Cells.length c4]) rfl rfl rfl (yb (aD b1) 0 [vi Rows, vi Cols, .slice B4 Cells.length c4] K13 K6 (hS11.c 2) rfl (hf.g 5 2)) (hS11.se [1, 3, 4, 5]) ?_ ?_
     ·skip
      refine rA [4] ?_
      refine rC 25 4 rfl (yC [vi x.Qubits, .agg #[vi x1.Kind, vi x1.A, vi x1.B]] k_call_79 (c_spec_l6Gate x.Qubits x1 _  (hS11.inn0 [] rfl) hc)) ?_ ?_
      ·rintro _ w_8 ⟨B6, c6, rfl, hd2⟩
       have hS15 := hS11.out0 hd2
       refine ⟨(hS15.se [1, 3, 4, 5]), ?_⟩
       refine rA [6] ?_
       refine rC 27 6 rfl (yC [pt B 0, gM_ r_1 B6 c6, .agg #[vi Rows, vi Cols, .slice B4 Cells.length c4]] K39 (c_spec_l2C_times (Tl2C.mk bad) r_1 (TMatrix.mk Rows Cols Cells) B B6 c6 r_1.Cells.length B4 c4 Cells.length _ rfl rfl (hS15.inn [true, false, false, false, false, false, false] rfl [(false, 5), (false, 2)] rfl) hc1)) ?_ ?_
       ·rintro _ w_9 ⟨B7, c7, rfl, hd3⟩
        have hS16 := hS15.out [true, false, false, false, false, false, false] rfl hd3
        refine ⟨(hS16.se [0, 2, 3, 4]), ?_⟩
        refine rA [7] ?_
        refine rZ 7 rfl (yT 1 3 (aD b1) 26 (gM_ r_2 B7 c7) (kM_ r_2 B7 c7) 0 hS16 K6 rfl (hf.g 5 2)) ?_ ?_
        ·rintro _ w_10 ⟨rfl, hS17⟩
         refine ⟨(hS17.se [0, 2, 3, 4]), ?_⟩
         refine ra_done (by kernel_rfl) ?_
         exact ⟨B7, c7, (fc (hf.g 0 0) (fc (hf.g 4 1) (fc (hf.g 5 2) (fc (hf.g 6 3) (fc (hf.g 10 4) (fc (hf.g 11 5) (fc (hf.g 12 6) fn_))))))), (hS17.sel [6, 0, 1, 7, 3] rfl rfl)⟩
        exact aN
       exact aN
      exact aN
     exact aN
    rintro f w ⟨B8, c8, hf2, hS10⟩
    exact ⟨m2.bad, r_2.Rows, r_2.Cols, r_2.Cells, B8, c8, (sI hF3), (fc (hf2.g 0 0) (fc (hf2.g 4 1) (fc (hf2.g 5 2) (fc (hf2.g 6 3) (fc (hf2.g 10 4) (fc (hf2.g 11 5) (fc (hf2.g 12 6) fn_))))))), (hS10.sel [0, 1, 2, 3, 4] rfl rfl)⟩
   ·skip
    have hF4 := cf' hz1 hb1
    refine cw_skip ?_
    exact ⟨bad, Rows, Cols, Cells, B4, c4, (sI hF4), (fc (hf.g 0 0) (fc (hf.g 4 1) (fc (hf.g 5 2) (fc (hf.g 6 3) (fc (hf.g 10 4) (fc (hf.g 11 5) (fc (hf.g 12 6) fn_))))))), (hS7.sel [0, 1, 2, 3, 4] rfl rfl)⟩
  rintro f w ⟨bad1, Rows1, Cols1, Cells1, B5, c5, rfl, hf1, hS5⟩
  refine cr ?_
  refine sQ 28 (yP (i : Int) 1 rfl (hf1.g 12 6)) <| sQ 12 (ym (vi (i64.wrap ((i : Int) + 1)))) (rn ?_)
  obtain rfl := sI hF2
  exact ⟨K9, Nat.lt_succ_self _, i + 1, bad1, Rows1, Cols1, Cells1, B5, c5, (fc (hf1.g 0 0) (fc (hf1.g 4 1) (fc (hf1.g 5 2) (fc (hf1.g 6 3) (fc (hf1.g 10 4) (fc (hf1.g 11 5) (fc (congrArg (Value.int .i64) (wr_succ hlt1 hN)) fn_))))))), (hS5.sel [0, 1, 2, 3, 4] rfl rfl), (by omega), hL1⟩
 ·skip
  obtain rfl : k_ = 0 := by have h := of_decide_eq_false hlt; omega
  refine cw_exit rfl ?_
  obtain rfl := sI hL
  refine cq (cr ?_)
  refine sQ 29 (yb (aD b1) 0 [vi Rows, vi Cols, .slice B4 Cells.length c4] K13 K6 (hS4.c 2) rfl (hf.g 5 2)) ?_
  refine s0 (yT 4 3 (aD b2) 26 (.agg #[vi Rows, vi Cols, .slice B4 Cells.length c4]) [vi Rows, vi Cols, .slice B4 Cells.length c4] 0 hS4 K6 rfl (hf.g 6 3)) ?_
  rintro _ w_11 ⟨rfl, hS18⟩
  refine rn (ct_ ?_)
  obtain ⟨rfl, rfl⟩ := pr2 (sI hF1)
  exact ret1 Tryz.results40 (v1 := .agg #[vi Rows, vi Cols, .slice B4 Cells.length c4]) (resAt_cellA (B := aD b2) (i := 0) (cs := [vi Rows, vi Cols, .slice B4 Cells.length c4]) (vs := [vi Rows, vi Cols, .slice B4 Cells.length c4]) (hf.g 6 3) K13 K6 (hS18.c 4) rfl rfl) ⟨B4, c4, rfl, (hS18.sN [0, 3])⟩

theorem c_spec_l6Op (x : TCircuit) (B : Option Addr) (c n : Nat) (w0 : World) (hn : x.Gates.length = n) (hS : ST w0 [] w0 [] [⟨B, (x.Gates.flatMap enc_Gate)⟩]) {r_ : TMatrix} (hF : F_spec_l6Op x = some r_) :
  CV Tryz.prog 127 #[.agg #[vi x.Qubits, .slice B n c]] w0 (fun v w' => ∃ (B1 : Option Addr) (c1 : Nat), v = (gM_ r_ B1 c1) ∧ ST w0 [] w' [⟨B1, 54, (r_.Cells.flatMap eN0), c1 * 5⟩] []) := by
 subst hn
 unfold F_spec_l6Op at hF
 refine cv_of_cw 14 Tryz.func127 rfl Tryz.ntmps127 rfl ?_
 refine cq (cr ?_)
 refine sS 1 (yB 43 (.agg #[vi x.Qubits, .slice B x.Gates.length c]) [vi x.Qubits, .slice B x.Gates.length c] 2 hS) ?_
 rintro _ w_ ⟨b, rfl, hS1⟩
 refine sS 2 (yN kN_ 3 hS1 K17) ?_
 rintro _ w_1 ⟨b1, rfl, hS2⟩
 refine rn (cq (cr ?_))
 refine sQ 4 (Y_buildS (zs := [.bool false]) (vs := []) (cs := [.bool false]) K99 K100 rfl mpn rfl) ?_
 refine sS 5 (yB 59 (.agg #[.bool false]) [.bool false] 1 hS2) ?_
 rintro _ w_2 ⟨b2, rfl, hS3⟩
 refine sQ 3 (yg (pt (aD b2) 0)) (rn (cq ?_))
 obtain ⟨hsh, hF⟩ := chk_inv hF
 obtain ⟨r_1, hc, hF⟩ := bI hF
 obtain ⟨⟨r_2, m⟩, hc1, hF⟩ := bI hF
 refine ra_start (hS3.se [0]).fn (by kernel_rfl) ?_
 have hS6 := hS3.drew
 refine rq 0 6 (v := pt (aD b2) 0) rfl (hS6.se [0]) (fun w' hw' => (ym (pt (aD b2) 0))) ?_
 refine rq 1 7 (v := .agg #[vi x.Qubits, .slice B x.Gates.length c]) rfl (hS6.se [0]) (fun w' hw' => (yb (aD b) 0 [vi x.Qubits, .slice B x.Gates.length c] K86 K59 (ST.cf hw' (i := 0) rfl))) ?_
 refine rq 2 8 (v := pt (aD b) 0) rfl (hS6.se [0]) (fun w' hw' => (yd (aD b) 0 0 K105 K2)) ?_
 refine rq 3 9 (v := vi x.Qubits) rfl (hS6.se [0]) (fun w' hw' => (yl (aD b) 0 [vi x.Qubits, .slice B x.Gates.length c] (vi x.Qubits) K1 (ST.cf hw' (i := 0) rfl))) ?_
 refine rq 4 10 (v := .int .u64 (IntKind.u64.wrap x.Qubits)) rfl (hS6.se [0]) (fun w' hw' => (Y_conv (k := .i64) (a := x.Qubits) (T := 3) (T' := 80) K64 K69 rfl rfl)) ?_
 refine rq 5 11 (v := vi (shlK .i64 1 (IntKind.u64.wrap x.Qubits))) rfl (hS6.se [0]) (fun w' hw' => (Y_shl (k := .i64) (a := 1) (k' := .u64) (b := (IntKind.u64.wrap x.Qubits)) rfl rfl rfl hsh)) ?_
 refine rA [6] ?_
 refine rC 12 6 rfl (yC [vi (shlK .i64 1 (IntKind.u64.wrap x.Qubits))] K120 (c_spec_l3Unit (shlK .i64 1 (IntKind.u64.wrap x.Qubits)) _  (hS6.inn0 [] rfl) hc)) ?_ ?_
 ·rintro _ w_3 ⟨B2, c2, rfl, hd⟩
  have hS7 := hS6.out0 hd
  refine ⟨(hS7.se [0]), ?_⟩
  refine rA [7] ?_
  refine rC 13 7 rfl (yC [pt (aD b2) 0, .agg #[vi x.Qubits, .slice B x.Gates.length c], gM_ r_1 B2 c2] k_call_40 (c_spec_l2C_run (Tl2C.mk false) x r_1 (aD b2) B c x.Gates.length B2 c2 r_1.Cells.length _ rfl rfl (hS7.inn [false, false, true, true] rfl [(true, 0)] rfl) hc1)) ?_ ?_
  ·rintro _ w_4 ⟨B3, c3, rfl, hd1⟩
   have hS8 := hS7.out [false, false, true, true] rfl hd1
   refine ⟨(hS8.se [0]), ?_⟩
   refine rA [8] ?_
   refine rZ 8 rfl (yT 1 3 (aD b1) 26 (gM_ r_2 B3 c3) (kM_ r_2 B3 c3) 0 hS8 K6) ?_ ?_
   ·rintro _ w_5 ⟨rfl, hS9⟩
    refine ⟨(hS9.se [0]), ?_⟩
    refine ra_done (by kernel_rfl) ?_
    refine ct_ ?_
    obtain rfl := sI hF
    exact ret1 Tryz.results127 (v1 := gM_ r_2 B3 c3) (resAt_cellA (B := aD b1) (i := 0) (cs := kM_ r_2 B3 c3) (vs := kM_ r_2 B3 c3) rfl K13 K6 (hS9.c 1) rfl rfl) ⟨B3, c3, rfl, (hS9.sN [3])⟩
   exact aN
  exact aN
 exact aN

theorem c_spec_l9Word (w_ : List UInt8)  (w0 : World)  (hS : ST w0 [] w0 [] []) {r_ : TMatrix} (hF : F_spec_l9Word w_ = some r_) :
  CV Tryz.prog 76 #[.string (bstr w_)] w0 (fun v w' => ∃ (B : Option Addr) (c : Nat), v = (gM_ r_ B c) ∧ ST w0 [] w' [⟨B, 54, (r_.Cells.flatMap eN0), c * 5⟩] []) := by
 unfold F_spec_l9Word at hF
 refine cv_of_cw 26 Tryz.func76 rfl Tryz.ntmps76 rfl ?_
 refine cq (cr ?_)
 refine sS 2 (yN kN_ 3 hS K17) ?_
 rintro _ w_1 ⟨b, rfl, hS1⟩
 refine rn (cq (cr ?_))
 refine sQ 6 (Y_buildS (zs := [vi 0, .slice none 0 0]) (vs := [(0, vi 1)]) (cs := [vi 1, .slice none 0 0]) K132 K87 rfl (mpc rfl mpn) rfl) ?_
 refine sS 3 (yN [vi 0, .slice none 0 0] 2 hS1 K87) ?_
 rintro _ w_2 ⟨b1, rfl, hS2⟩
 refine s0 (yT 1 2 (aD b1) 43 (.agg #[vi 1, .slice none 0 0]) [vi 1, .slice none 0 0] 0 hS2 K59) ?_
 rintro _ w_3 ⟨rfl, hS3⟩
 refine rn (cq (cq (cr ?_)))
 refine sQ 4 (yg (vi 0)) (rn ?_)
 obtain ⟨hN, hF⟩ := chk_inv hF
 obtain ⟨z, hz, hF1⟩ := bI hF
 have hS5 := hS3.addNil 45
 refine cw_block ?_
 refine cw_loop (fun k f w => ∃ (i1 : Nat) (Gates : List TGate) (B1 : Option Addr) (c1 : Nat), FF f [(0, .string (bstr w_)), (2, pt (aD b) 0), (3, pt (aD b1) 0), (4, vi (i1 : Int))] ∧ ST w0 [] w [⟨aD b, 26, kN_, 3⟩, ⟨aD b1, 43, [vi 1, .slice B1 Gates.length c1], 2⟩, ⟨B1, 45, (Gates.flatMap enc_Gate), c1 * 3⟩] [] ∧ i1 + k = w_.length ∧ forN (F_spec_l9Word_l1 w_) k i1 Gates = some z) w_.length ⟨0, [], none, 0, (fc rfl (fc rfl (fc rfl (fc rfl fn_)))), (hS5.sel [0, 1, 2] rfl rfl), Nat.zero_add _, hz⟩ ?_
 rintro k_ f w ⟨i1, Gates, B1, c1, hf, hS4, hik, hL⟩
 refine cq (cq (cr ?_))
 refine sQ 7 (ym (vi (i1 : Int)) rfl (hf.g 4 3)) <| sQ 8 (ym (.string (bstr w_)) rfl (hf.g 0 0)) <| sQ 9 (Y_slen (a := w_) K96 rfl rfl) <| sQ 10 (yL (i1 : Int) (w_.length : Int)) (rn ?_)
 refine cw_cond (b := (decide ((i1 : Int) < (w_.length : Int)))) rfl (fun hlt => ?_) (fun hlt => ?_)
 ·skip
  have hlt1 : i1 < w_.length := by have h := of_decide_eq_true hlt; omega
  obtain ⟨K9, rfl⟩ : ∃ k2, k_ = k2 + 1 := ⟨k_ - 1, by omega⟩
  obtain ⟨y, hb, hL1⟩ := forN_go hL
  unfold F_spec_l9Word_l1 at hb
  refine cw_skip (cq (cw_block (cq (cr ?_))))
  refine sQ 5 (yg (vi 1)) (rn (cq ?_))
  obtain ⟨z1, hz1, hF2⟩ := bI hb
  refine cw_mid (fun f w => ∃ (kind : Int), kind = z1 ∧ FF f [(0, .string (bstr w_)), (2, pt (aD b) 0), (3, pt (aD b1) 0), (4, vi (i1 : Int)), (5, vi kind)] ∧ ST w0 [] w [⟨aD b, 26, kN_, 3⟩, ⟨aD b1, 43, [vi 1, .slice B1 Gates.length c1], 2⟩, ⟨B1, 45, (Gates.flatMap enc_Gate), c1 * 3⟩] []) ?_ ?_
  ·skip
   refine cq (cr ?_)
   refine sQ 13 (ym (.string (bstr w_)) rfl (hf.g 0 0)) <| sQ 14 (ym (vi (i1 : Int)) rfl (hf.g 4 3)) ?_
   obtain ⟨x, hx, hz1⟩ := bI hz1
   refine sQ 15 (Y_sidx (a := w_) (k := .i64) (i := (i1 : Int)) (b := x) K96 rfl rfl rfl hx) <| sQ 16 (Y_eq (k := .u8) (a := (x.toNat : Int)) (b := 83) rfl rfl rfl) (rn ?_)
   refine cw_cond (b := ((x.toNat : Int) == 83)) rfl (fun hb1 => ?_) (fun hb1 => ?_)
   ·skip
    have hF3 := ct hz1 hb1
    refine cr ?_
    refine sQ 5 (yg (vi 5)) (rn ?_)
    exact ⟨5, (sI hF3), (fc (hf.g 0 0) (fc (hf.g 2 1) (fc (hf.g 3 2) (fc (hf.g 4 3) (fc rfl fn_))))), (hS4.sel [0, 1, 2] rfl rfl)⟩
   ·skip
    have hF4 := cf' hz1 hb1
    refine cw_skip ?_
    exact ⟨1, (sI hF4), (fc (hf.g 0 0) (fc (hf.g 2 1) (fc (hf.g 3 2) (fc (hf.g 4 3) (fc rfl fn_))))), (hS4.sel [0, 1, 2] rfl rfl)⟩
  rintro f w ⟨kind, rfl, hf1, hS6⟩
  refine cr ?_
  refine sQ 17 (yd (aD b1) 0 0 K58 K46 rfl (hf1.g 3 2)) <| sQ 18 (yl (aD b1) 1 [vi 1, .slice B1 Gates.length c1] (.slice B1 Gates.length c1) K70 (hS6.c 1)) <| sQ 19 (ym (vi kind) rfl (hf1.g 5 4)) <| sQ 20 (Y_buildS (zs := [vi 0, vi 0, vi 0]) (vs := [(0, vi kind)]) (cs := [vi kind, vi 0, vi 0]) K81 K45 rfl (mpc rfl mpn) rfl) ?_
  refine sS 21 (Ys_bslice (s := 3) (len := 1) (vs := [(0, .agg #[vi kind, vi 0, vi 0])]) (cs := [vi kind, vi 0, vi 0]) (zs := [vi 0, vi 0, vi 0]) (m := 3) hS6 K47 K28 K106 rfl (mpc rfl mpn) rfl rfl rfl (by kernel_rfl) (by kernel_rfl) rfl) ?_
  rintro _ w_4 ⟨b2, rfl, hS7⟩
  obtain ⟨hap, hF2⟩ := chk_inv hF2
  refine sS 22 (Ys_append (s := 3) (by' := 24) (i := 2) (nn := Gates.length) (c := c1) (k := 1) (len := (Gates ++ [(TGate.mk kind 0 0)]).length) (B := B1) (xs := ([(TGate.mk kind 0 0)].flatMap enc_Gate)) (cs' := ((Gates ++ [(TGate.mk kind 0 0)]).flatMap enc_Gate)) hS7 K47 K28 K107 K45 rfl (by decide) rfl rfl rfl rfl (fm_lenn (l := Gates) enc_Gate_len rfl) rfl (hS7.c 3) (fm_lenn (l := [(TGate.mk kind 0 0)]) enc_Gate_len rfl) (fm_one' (enc := enc_Gate) enc_Gate_one [(TGate.mk kind 0 0)]) (by have := hap; omega) (by have := hap; simp only [maxLen]; omega) (fm_app _ _) (app_len (l := Gates) (l' := [(TGate.mk kind 0 0)]) rfl rfl)) ?_
  rintro _ w_5 ⟨B2, c2, rfl, hS8⟩
  refine sQ 23 (yd (aD b1) 0 0 K58 K46 rfl (hf1.g 3 2)) ?_
  refine s0 (yS 1 1 (aD b1) 43 (.slice B2 ((Gates ++ [(TGate.mk kind 0 0)]).length) c2) [.slice B2 ((Gates ++ [(TGate.mk kind 0 0)]).length) c2] 1 [vi 1, .slice B2 ((Gates ++ [(TGate.mk kind 0 0)]).length) c2] hS8 K46) ?_
  rintro _ w_6 ⟨rfl, hS9⟩
  refine rn (cr ?_)
  refine sQ 11 (ym (vi (i1 : Int)) rfl (hf1.g 4 3)) <| sQ 12 (yP (i1 : Int) 1) <| sQ 4 (yg (vi (i64.wrap ((i1 : Int) + 1)))) (rn ?_)
  obtain rfl := sI hF2
  exact ⟨K9, Nat.lt_succ_self _, i1 + 1, (Gates ++ [(TGate.mk kind 0 0)]), B2, c2, (fc (hf1.g 0 0) (fc (hf1.g 2 1) (fc (hf1.g 3 2) (fc (congrArg (Value.int .i64) (wr_succ hlt1 hN)) fn_)))), (hS9.sel [0, 1, 2] rfl rfl), (by omega), hL1⟩
 ·skip
  obtain rfl : k_ = 0 := by have h := of_decide_eq_false hlt; omega
  refine cw_exit rfl ?_
  obtain rfl := sI hL
  refine cq (cr ?_)
  refine sQ 24 (yb (aD b1) 0 [vi 1, .slice B1 Gates.length c1] K86 K59 (hS4.c 1) rfl (hf.g 3 2)) ?_
  obtain ⟨r_1, hc, hF1⟩ := bI hF1
  refine sc 25 rfl rfl (yC [.agg #[vi 1, .slice B1 Gates.length c1]] k_call_127 (c_spec_l6Op (TCircuit.mk 1 Gates) B1 c1 Gates.length _ rfl (hS4.inn0 [(false, 2)] rfl) hc)) ?_
  rintro _ w_7 ⟨B3, c3, rfl, hd⟩
  have hS10 := hS4.out0 hd
  refine s0 (yT 0 3 (aD b) 26 (gM_ r_1 B3 c3) (kM_ r_1 B3 c3) 0 hS10 K6 rfl (hf.g 2 1)) ?_
  rintro _ w_8 ⟨rfl, hS11⟩
  refine rn (ct_ ?_)
  obtain rfl := sI hF1
  exact ret1 Tryz.results76 (v1 := gM_ r_1 B3 c3) (resAt_cellA (B := aD b) (i := 0) (cs := kM_ r_1 B3 c3) (vs := kM_ r_1 B3 c3) (hf.g 2 1) K13 K6 (hS11.c 0) rfl rfl) ⟨B3, c3, rfl, (hS11.sN [3])⟩

theorem c_spec_l9Same (a : TBloch) (b : TBloch) (B : Option Addr) (c n : Nat) (B1 : Option Addr) (c1 n1 : Nat) (w0 : World) (hn : a.Cells.length = n) (hn1 : b.Cells.length = n1) (hS : ST w0 [] w0 [] [⟨B, (a.Cells.flatMap eN0)⟩, ⟨B1, (b.Cells.flatMap eN0)⟩]) {r_ : Bool} (hF : F_spec_l9Same a b = some r_) :
  CV Tryz.prog 77 #[.agg #[.slice B n c], .agg #[.slice B1 n1 c1]] w0 (fun v w' => v = .bool r_ ∧ ST w0 [] w' [] []) := by
 subst hn
 subst hn1
 unfold F_spec_l9Same at hF
 refine cv_of_cw 24 Tryz.func77 rfl Tryz.ntmps77 rfl ?_
 refine cq (cr ?_)
 refine sS 2 (yB 29 (gB_ a B c) (kB_ a B c) 1 hS) ?_
 rintro _ w_ ⟨b1, rfl, hS1⟩
 refine sS 3 (yB 29 (gB_ b B1 c1) (kB_ b B1 c1) 1 hS1) ?_
 rintro _ w_1 ⟨b2, rfl, hS2⟩
 refine sQ 4 (yg (.bool false)) (rn (cq (cq (cr ?_))))
 refine sQ 6 (yd (aD b1) 0 0 K18 K8) <| sQ 7 (yl (aD b1) 0 (kB_ a B c) (.slice B a.Cells.length c) K12 (hS2.c 0)) <| sQ 8 (Y_len (B := B) (m := a.Cells.length) (c := c) K7 rfl rfl) <| sQ 9 (ym (vi 0)) (rn ?_)
 obtain ⟨hN, hF⟩ := chk_inv hF
 obtain ⟨z, hz, hF1⟩ := bI hF
 refine cw_block ?_
 refine cw_loop (fun k f w => ∃ (i : Nat), FF f [(2, pt (aD b1) 0), (3, pt (aD b2) 0), (8, vi (a.Cells.length : Int)), (9, vi (i : Int))] ∧ ST w0 [] w [⟨aD b1, 29, kB_ a B c, 1⟩, ⟨aD b2, 29, kB_ b B1 c1, 1⟩] [⟨B, (a.Cells.flatMap eN0)⟩, ⟨B1, (b.Cells.flatMap eN0)⟩] ∧ i + k = a.Cells.length ∧ forX (F_spec_l9Same_l1 a b) k i () = some z) a.Cells.length ⟨0, (fc rfl (fc rfl (fc rfl (fc rfl fn_)))), (hS2.sel [0, 1] rfl rfl), Nat.zero_add _, hz⟩ ?_
 rintro k_ f w ⟨i, hf, hS3, hik, hL⟩
 refine cq (cr ?_)
 refine sQ 10 (yL (i : Int) (a.Cells.length : Int) rfl (hf.g 9 3) (hf.g 8 2)) (rn (cq ?_))
 refine cw_cond (b := (decide ((i : Int) < (a.Cells.length : Int)))) rfl (fun hlt => ?_) (fun hlt => ?_)
 ·skip
  have hlt1 : i < a.Cells.length := by have h := of_decide_eq_true hlt; omega
  obtain ⟨K9, rfl⟩ : ∃ k2, k_ = k2 + 1 := ⟨k_ - 1, by omega⟩
  obtain ⟨y, hb, hL1⟩ := forX_go hL
  unfold F_spec_l9Same_l1 at hb
  refine cw_skip (cq (cw_block (cq (cr ?_))))
  refine sQ 11 (ym (vi (i : Int)) rfl (hf.g 9 3)) <| sQ 5 (yg (vi (i : Int))) (rn (cq ?_))
  obtain ⟨x, hx, hb⟩ := bI hb
  obtain ⟨x1, hx1, hb⟩ := bI hb
  refine ra_start (hS3.se [0, 1]).fn (by kernel_rfl) ?_
  have hS4 := hS3.drew
  refine rq 0 12 (v := pt (aD b1) 0) rfl (hS4.se [0, 1]) (fun w' hw' => (yd (aD b1) 0 0 K18 K8 rfl (hf.g 2 0))) ?_
  refine rq 1 13 (v := .slice B a.Cells.length c) rfl (hS4.se [0, 1]) (fun w' hw' => (yl (aD b1) 0 (kB_ a B c) (.slice B a.Cells.length c) K12 (ST.cf hw' (i := 0) rfl))) ?_
  refine rq 2 14 (v := vi (i : Int)) rfl (hS4.se [0, 1]) (fun w' hw' => (ym (vi (i : Int)))) ?_
  refine rq 3 15 (v := pt B ((i : Int).toNat * 5)) rfl (hS4.se [0, 1]) (fun w' hw' => (Y_index (B := B) (m := a.Cells.length) (c := c) (k := .i64) (i := (i : Int)) K7 K0 rfl rfl rfl (gi_isSome eN2 rfl (ST.rf hw' (i := 0) rfl) hx) (getI_nn hx) (getI_ltI hx rfl))) ?_
  refine rq 4 16 (v := gD_ x) rfl (hS4.se [0, 1]) (fun w' hw' => (ya B ((i : Int).toNat * 5) (a.Cells.flatMap eN0) (kD_ x) K3 K0 (ST.rf hw' (i := 0) rfl) rfl rfl (eN2 x) (gi_seg eN2 hx))) ?_
  refine rq 5 17 (v := pt (aD b2) 0) rfl (hS4.se [0, 1]) (fun w' hw' => (yd (aD b2) 0 0 K18 K8 rfl (hf.g 3 1))) ?_
  refine rq 6 18 (v := .slice B1 b.Cells.length c1) rfl (hS4.se [0, 1]) (fun w' hw' => (yl (aD b2) 0 (kB_ b B1 c1) (.slice B1 b.Cells.length c1) K12 (ST.cf hw' (i := 1) rfl))) ?_
  refine rq 7 19 (v := vi (i : Int)) rfl (hS4.se [0, 1]) (fun w' hw' => (ym (vi (i : Int)))) ?_
  refine rq 8 20 (v := pt B1 ((i : Int).toNat * 5)) rfl (hS4.se [0, 1]) (fun w' hw' => (Y_index (B := B1) (m := b.Cells.length) (c := c1) (k := .i64) (i := (i : Int)) K7 K0 rfl rfl rfl (gi_isSome eN2 rfl (ST.rf hw' (i := 1) rfl) hx1) (getI_nn hx1) (getI_ltI hx1 rfl))) ?_
  refine rq 9 21 (v := gD_ x1) rfl (hS4.se [0, 1]) (fun w' hw' => (ya B1 ((i : Int).toNat * 5) (b.Cells.flatMap eN0) (kD_ x1) K3 K0 (ST.rf hw' (i := 1) rfl) rfl rfl (eN2 x1) (gi_seg eN2 hx1))) ?_
  refine ra_q 10 22 (v := .bool (!(((x.Num.A == x1.Num.A) && ((x.Num.B == x1.Num.B) && ((x.Num.C == x1.Num.C) && ((x.Num.D == x1.Num.D) && true)))) && ((x.Exp == x1.Exp) && true)))) rfl rfl rfl (by kernel_rfl) (by kernel_rfl) (by kernel_rfl) (hS4.se [0, 1]) (fun w' hw' => (Y_neA (xs := #[vi x.Num.A, vi x.Num.B, vi x.Num.C, vi x.Num.D, vi x.Exp]) (ys := #[vi x1.Num.A, vi x1.Num.B, vi x1.Num.C, vi x1.Num.D, vi x1.Exp]) (b := (((x.Num.A == x1.Num.A) && ((x.Num.B == x1.Num.B) && ((x.Num.C == x1.Num.C) && ((x.Num.D == x1.Num.D) && true)))) && ((x.Exp == x1.Exp) && true))) K73 rfl rfl rfl (eqr_struct (xs := kD_ x) (ys := kD_ x1) K74 K75 (pts_ag (us := kR_ x.Num) (vs := kR_ x1.Num) K10 K4 rfl rfl (eqr_struct (xs := kR_ x.Num) (ys := kR_ x1.Num) K76 K77 (pts_sc K1 rfl rfl (eqr_int K19) (pts_sc K1 rfl rfl (eqr_int K19) (pts_sc K1 rfl rfl (eqr_int K19) (pts_sc K1 rfl rfl (eqr_int K19) pts_nil))))) (pts_sc K1 rfl rfl (eqr_int K19) pts_nil))))) ?_
  refine ra_done (by kernel_rfl) ?_
  refine cw_cond (b := (!(((x.Num.A == x1.Num.A) && ((x.Num.B == x1.Num.B) && ((x.Num.C == x1.Num.C) && ((x.Num.D == x1.Num.D) && true)))) && ((x.Exp == x1.Exp) && true)))) rfl (fun hb1 => ?_) (fun hb1 => ?_)
  ·skip
   have hF2 := ct hb hb1
   refine cq (cr ?_)
   refine sQ 4 (yg (.bool false)) (rn (ct_ ?_))
   obtain rfl := sI hF2
   obtain rfl := sI hL1
   obtain rfl := sI hF1
   exact ret1 Tryz.results77 (v1 := .bool false) (resAt_tmp rfl) ⟨rfl, (hS4.sN [])⟩
  ·skip
   have hF3 := cf' hb hb1
   refine cw_skip (cr ?_)
   refine sQ 23 (yP (i : Int) 1 rfl (hf.g 9 3)) <| sQ 9 (ym (vi (i64.wrap ((i : Int) + 1)))) (rn ?_)
   obtain rfl := sI hF3
   exact ⟨K9, Nat.lt_succ_self _, i + 1, (fc (hf.g 2 0) (fc (hf.g 3 1) (fc (hf.g 8 2) (fc (congrArg (Value.int .i64) (wr_succ hlt1 hN)) fn_)))), (hS4.sel [0, 1] rfl rfl), (by omega), hL1⟩
 ·skip
  obtain rfl : k_ = 0 := by have h := of_decide_eq_false hlt; omega
  refine cw_exit rfl ?_
  obtain rfl := sI hL
  refine cq (cr ?_)
  refine sQ 4 (yg (.bool true)) (rn (ct_ ?_))
  obtain rfl := sI hF1
  exact ret1 Tryz.results77 (v1 := .bool true) (resAt_tmp rfl) ⟨rfl, (hS3.sN [])⟩

theorem c_spec_l9Words   (w0 : World)  (hS : ST w0 [] w0 [] []) {r_ : List (List UInt8)} (hF : F_spec_l9Words = some r_) :
  CV Tryz.prog 38 #[] w0 (fun v w' => ∃ (B : Option Addr) (c : Nat), v = .slice B r_.length c ∧ ST w0 [] w' [⟨B, 9, (r_.flatMap encS), c * 1⟩] []) := by
 unfold F_spec_l9Words at hF
 refine cv_of_cw 61 Tryz.func38 rfl Tryz.ntmps38 rfl ?_
 refine cq (cr ?_)
 refine sQ 0 (yg (.slice none 0 0)) (rn (cq (cr ?_)))
 refine sQ 1 (yg (.slice none 0 0)) (rn (cq (cr ?_)))
 refine sQ 2 (yg (.slice none 0 0)) (rn (cq (cr ?_)))
 refine sS 12 (Ys_bslice (s := 1) (len := 1) (vs := [(0, .string (bstr ([] : List UInt8)))]) (cs := [.string (bstr ([] : List UInt8))]) (zs := [.string (bstr ([] : List UInt8))]) (m := 1) hS K34 K40 K68 rfl (mpc rfl mpn) rfl rfl rfl (by kernel_rfl) (by kernel_rfl) rfl) ?_
 rintro _ w_ ⟨b, rfl, hS1⟩
 refine sQ 3 (yg (.slice (aD b) 1 1)) (rn (cq ?_))
 obtain ⟨z, hz, hF1⟩ := bI hF
 have hS3 := hS1.addNil 9
 have hS4 := hS3.addNil 29
 have hS5 : ST w0 [] _ [⟨aD b, 9, ([([] : List UInt8)].flatMap encS), 1 * 1⟩, ⟨none, 9, ([].flatMap encS), 0 * 1⟩, ⟨none, 29, (([] : List (Hd × TBloch)).flatMap encD_Bloch), 0 * 1⟩] (((([] : List (Hd × TBloch)).flatMap rowD_Bloch) ++ [])) := ST.subR hS4 (suba fsub_nil (fun _ h => by cases h))
 refine cw_block ?_
 refine cw_loop (fun k f w => ∃ (words : List (List UInt8)) (seen : List TBloch) (level : List (List UInt8)) (B1 : Option Addr) (c1 : Nat) (B2 : Option Addr) (c2 : Nat) (D : List (Hd × TBloch)) (B3 : Option Addr) (c3 : Nat), FF f [(1, .slice B1 words.length c1), (2, .slice B2 seen.length c2), (3, .slice B3 level.length c3)] ∧ D.map Prod.snd = seen ∧ Org w0 [] [] (D.flatMap rowD_Bloch) ∧ ST w0 [] w [⟨B1, 9, (words.flatMap encS), c1 * 1⟩, ⟨B2, 29, (D.flatMap encD_Bloch), c2 * 1⟩, ⟨B3, 9, (level.flatMap encS), c3 * 1⟩] (((D.flatMap rowD_Bloch) ++ [])) ∧ whX F_spec_l9Words_l1 k (words, seen, level) = some z) fuel ⟨[], ([] : List TBloch), [([] : List UInt8)], none, 0, none, 0, ([] : List (Hd × TBloch)), aD b, 1, (fc rfl (fc rfl (fc rfl fn_))), rfl, forg_nil, (hS5.sel [1, 2, 0] rfl rfl), hz⟩ ?_
 rintro k_ f w ⟨words, seen, level, B1, c1, B2, c2, D, B3, c3, hf, hD, ho, hS2, hL⟩
 obtain ⟨K9, y, rfl, hb, hL1⟩ := whX_go hL
 unfold F_spec_l9Words_l1 at hb
 refine cq (cq (cr ?_))
 refine sQ 13 (ym (.slice B1 words.length c1) rfl (hf.g 1 0)) <| sQ 14 (Y_len (B := B1) (m := words.length) (c := c1) K34 rfl rfl) <| sQ 15 (yL (words.length : Int) 24) (rn ?_)
 refine cw_cond (b := (decide ((words.length : Int) < 24))) rfl (fun hb1 => ?_) (fun hb1 => ?_)
 ·skip
  have hF2 := ct hb hb1
  refine cw_skip (cw_block (cq (cr ?_)))
  refine sQ 4 (yg (.slice none 0 0)) (rn (cq (cq (cr ?_))))
  refine sQ 16 (ym (.slice B3 level.length c3) rfl (hf.g 3 2)) <| sQ 17 (Y_len (B := B3) (m := level.length) (c := c3) K34 rfl rfl) <| sQ 18 (ym (vi 0)) (rn ?_)
  obtain ⟨hN, hF2⟩ := chk_inv hF2
  obtain ⟨z1, hz1, hF3⟩ := bI hF2
  have hS7 := hS2.addNil 9
  refine cw_block ?_
  refine cw_loop (fun k f w => ∃ (i : Nat) (words1 : List (List UInt8)) (seen1 : List TBloch) (next_ : List (List UInt8)) (B4 : Option Addr) (c4 : Nat) (B5 : Option Addr) (c5 : Nat) (D1 : List (Hd × TBloch)) (B6 : Option Addr) (c6 : Nat), FF f [(1, .slice B4 words1.length c4), (2, .slice B5 seen1.length c5), (4, .slice B6 next_.length c6), (16, .slice B3 level.length c3), (17, vi (level.length : Int)), (18, vi (i : Int))] ∧ D1.map Prod.snd = seen1 ∧ Org w0 [] [] (D1.flatMap rowD_Bloch) ∧ ST w0 [] w [⟨B4, 9, (words1.flatMap encS), c4 * 1⟩, ⟨B5, 29, (D1.flatMap encD_Bloch), c5 * 1⟩, ⟨B6, 9, (next_.flatMap encS), c6 * 1⟩, ⟨B3, 9, (level.flatMap encS), c3 * 1⟩] (((D1.flatMap rowD_Bloch) ++ [])) ∧ i + k = level.length ∧ forN (F_spec_l9Words_l2 level) k i (words1, seen1, next_) = some z1) level.length ⟨0, words, seen, [], B1, c1, B2, c2, D, none, 0, (fc (hf.g 1 0) (fc (hf.g 2 1) (fc rfl (fc rfl (fc rfl (fc rfl fn_)))))), hD, ho, (hS7.sel [0, 1, 3, 2] rfl rfl), Nat.zero_add _, hz1⟩ ?_
  rintro K15 f w ⟨i, words1, seen1, next_, B4, c4, B5, c5, D1, B6, c6, hf1, hD1, ho1, hS6, hik1, hL2⟩
  refine cq (cr ?_)
  refine sQ 19 (yL (i : Int) (level.length : Int) rfl (hf1.g 18 5) (hf1.g 17 4)) (rn (cq ?_))
  refine cw_cond (b := (decide ((i : Int) < (level.length : Int)))) rfl (fun hlt => ?_) (fun hlt => ?_)
  ·skip
   have hlt1 : i < level.length := by have h := of_decide_eq_true hlt; omega
   obtain ⟨K29, rfl⟩ : ∃ k2, K15 = k2 + 1 := ⟨K15 - 1, by omega⟩
   obtain ⟨y1, hb2, hL3⟩ := forN_go hL2
   unfold F_spec_l9Words_l2 at hb2
   refine cw_skip (cq ?_)
   obtain ⟨z2, hz2, hF4⟩ := bI hb2
   refine cw_mid (fun f w => ∃ (words2 : List (List UInt8)) (seen2 : List TBloch) (next_1 : List (List UInt8)) (B7 : Option Addr) (c7 : Nat) (B8 : Option Addr) (c8 : Nat) (D2 : List (Hd × TBloch)) (B9 : Option Addr) (c9 : Nat), (words2, seen2, next_1) = z2 ∧ FF f [(1, .slice B7 words2.length c7), (2, .slice B8 seen2.length c8), (4, .slice B9 next_1.length c9), (16, .slice B3 level.length c3), (17, vi (level.length : Int)), (18, vi (i : Int))] ∧ D2.map Prod.snd = seen2 ∧ Org w0 [] [] (D2.flatMap rowD_Bloch) ∧ ST w0 [] w [⟨B7, 9, (words2.flatMap encS), c7 * 1⟩, ⟨B8, 29, (D2.flatMap encD_Bloch), c8 * 1⟩, ⟨B9, 9, (next_1.flatMap encS), c9 * 1⟩, ⟨B3, 9, (level.flatMap encS), c3 * 1⟩] (((D2.flatMap rowD_Bloch) ++ []))) ?_ ?_
   ·skip
    refine cw_block (cq (cr ?_))
    obtain ⟨x, hx, hz2⟩ := bI hz2
    refine sQ 20 (Y_index (B := B3) (m := level.length) (c := c3) (k := .i64) (i := (i : Int)) K34 K40 rfl (hf1.g 16 3) (hf1.g 18 5) (gi_isSome encS_len rfl (hS6.c 3) hx) (getI_nn hx) (getI_ltI hx rfl)) <| sQ 21 (yl B3 ((i : Int).toNat * 1) (level.flatMap encS) (.string (bstr x)) K97 (hS6.c 3) rfl rfl (gi_at0 encS_len hx rfl)) <| sQ 6 (yg (.string (bstr x))) (rn (cq (cr ?_)))
    refine sQ 23 (ym (.string (bstr x))) ?_
    obtain ⟨r_1, hc, hz2⟩ := bI hz2
    refine sc 24 rfl rfl (yC [.string (bstr x)] k_call_76 (c_spec_l9Word x _  (hS6.inn0 [] rfl) hc)) ?_
    rintro _ w_1 ⟨B10, c10, rfl, hd⟩
    have hS9 := hS6.out0 hd
    obtain ⟨⟨r_2, r_3⟩, hc1, hz2⟩ := bI hz2
    refine sc 25 rfl rfl (yC [gM_ r_1 B10 c10] K121 (c_spec_l9Bloch r_1 B10 c10 r_1.Cells.length _ rfl (hS9.inn0 [(false, 4)] rfl) hc1)) ?_
    rintro _ w_2 ⟨B11, c11, rfl, hd1⟩
    have hS10 := hS9.out0 hd1
    refine sQ 22 (ym (.tuple #[gB_ r_2 B11 c11, .bool r_3])) <| sQ 26 (ye (gB_ r_2 B11 c11)) <| sQ 27 (ye (.bool r_3)) ?_
    refine sS 7 (yN [.slice none 0 0] 1 hS10 K26) ?_
    rintro _ w_3 ⟨b1, rfl, hS11⟩
    refine s0 (yT 6 1 (aD b1) 29 (gB_ r_2 B11 c11) (kB_ r_2 B11 c11) 0 hS11 K14) ?_
    rintro _ w_4 ⟨rfl, hS12⟩
    refine sQ 8 (yg (.bool r_3)) (rn (cq (cr ?_)))
    refine sQ 9 (yg (.bool false)) (rn (cq (cq (cr ?_))))
    refine sQ 28 (ym (.slice B5 seen1.length c5) rfl (hf1.g 2 1)) <| sQ 29 (Y_len (B := B5) (m := seen1.length) (c := c5) K118 rfl rfl) <| sQ 30 (ym (vi 0)) (rn ?_)
    obtain ⟨hN1, hz2⟩ := chk_inv hz2
    obtain ⟨z3, hz3, hF5⟩ := bI hz2
    refine cw_block ?_
    refine cw_loop (fun k f w => ∃ (i1 : Nat) (known : Bool) (D3 : List (Hd × TBloch)), FF f [(1, .slice B4 words1.length c4), (2, .slice B5 seen1.length c5), (4, .slice B6 next_.length c6), (6, .string (bstr x)), (7, pt (aD b1) 0), (9, .bool known), (16, .slice B3 level.length c3), (17, vi (level.length : Int)), (18, vi (i : Int)), (28, .slice B5 seen1.length c5), (29, vi (seen1.length : Int)), (30, vi (i1 : Int))] ∧ D3.map Prod.snd = seen1 ∧ Org w0 [] [] (D3.flatMap rowD_Bloch) ∧ ST w0 [] w [⟨B4, 9, (words1.flatMap encS), c4 * 1⟩, ⟨B5, 29, (D3.flatMap encD_Bloch), c5 * 1⟩, ⟨B6, 9, (next_.flatMap encS), c6 * 1⟩, ⟨aD b1, 29, kB_ r_2 B11 c11, 1⟩, ⟨B11, 54, (r_2.Cells.flatMap eN0), c11 * 5⟩, ⟨B3, 9, (level.flatMap encS), c3 * 1⟩] (((D3.flatMap rowD_Bloch) ++ [])) ∧ i1 + k = seen1.length ∧ forN (F_spec_l9Words_l3 seen1 r_2) k i1 known = some z3) seen1.length ⟨0, false, D1, (fc (hf1.g 1 0) (fc (hf1.g 2 1) (fc (hf1.g 4 2) (fc rfl (fc rfl (fc rfl (fc (hf1.g 16 3) (fc (hf1.g 17 4) (fc (hf1.g 18 5) (fc rfl (fc rfl (fc rfl fn_)))))))))))), hD1, ho1, (hS12.sel [0, 1, 2, 6, 5, 3] rfl rfl), Nat.zero_add _, hz3⟩ ?_
    rintro K11 f w ⟨i1, known, D3, hf3, hD3, ho3, hS13, hik2, hL4⟩
    refine cq (cr ?_)
    refine sQ 31 (yL (i1 : Int) (seen1.length : Int) rfl (hf3.g 30 11) (hf3.g 29 10)) (rn (cq ?_))
    refine cw_cond (b := (decide ((i1 : Int) < (seen1.length : Int)))) rfl (fun hlt2 => ?_) (fun hlt2 => ?_)
    ·skip
     have hlt3 : i1 < seen1.length := by have h := of_decide_eq_true hlt2; omega
     obtain ⟨K55, rfl⟩ : ∃ k2, K11 = k2 + 1 := ⟨K11 - 1, by omega⟩
     obtain ⟨y2, hb3, hL5⟩ := forN_go hL4
     unfold F_spec_l9Words_l3 at hb3
     refine cw_skip (cq (cw_block (cq (cr ?_))))
     obtain ⟨x1, hx1, hb3⟩ := bI hb3
     obtain ⟨⟨B12, c12⟩, hp⟩ := getI_snd hD3 hx1
     refine sQ 32 (Y_index (B := B5) (m := seen1.length) (c := c5) (k := .i64) (i := (i1 : Int)) K118 K14 rfl (hf3.g 28 9) (hf3.g 30 11) (gi_isSome encD_Bloch_len rfl (hS13.c 1) hp) (getI_nn hp) (getI_ltI hp (dl_len hD3))) ?_
     have hm : (⟨B12, (x1.Cells.flatMap eN0)⟩ : Ro) ∈ ((((D3.flatMap rowD_Bloch) ++ [])) : List Ro) := app_mem (fun r_ (h : r_ ∈ ((D3.flatMap rowD_Bloch) : List Ro)) => mOd (i := 0) (show r_ ∈ ((((D3.flatMap rowD_Bloch) ++ [])) : List Ro) from mAl _ h)) (row_mem (rw_ := rowD_Bloch) hp _ (mt 0))
     have hS14 : ST w0 [] _ [⟨B4, 9, (words1.flatMap encS), c4 * 1⟩, ⟨B5, 29, (D3.flatMap encD_Bloch), c5 * 1⟩, ⟨B6, 9, (next_.flatMap encS), c6 * 1⟩, ⟨aD b1, 29, kB_ r_2 B11 c11, 1⟩, ⟨B11, 54, (r_2.Cells.flatMap eN0), c11 * 5⟩, ⟨B3, 9, (level.flatMap encS), c3 * 1⟩] (⟨B12, (x1.Cells.flatMap eN0)⟩ :: ((D3.flatMap rowD_Bloch) ++ [])) := ST.subR hS13 (subc hm (fun _ h => h))
     refine sQ 33 (ya B5 ((i1 : Int).toNat * 1) (D3.flatMap encD_Bloch) (kB_ x1 B12 c12) K25 K14 (hS14.c 1) rfl rfl (encD_Bloch_len ((B12, c12), x1)) (gi_seg encD_Bloch_len hp)) ?_
     refine sS 11 (yN [.slice none 0 0] 1 hS14 K26) ?_
     rintro _ w_5 ⟨b2, rfl, hS15⟩
     refine s0 (yT 6 1 (aD b2) 29 (gB_ x1 B12 c12) (kB_ x1 B12 c12) 0 hS15 K14) ?_
     rintro _ w_6 ⟨rfl, hS16⟩
     refine rn (cr ?_)
     refine sQ 34 (ym (.bool known) rfl (hf3.g 9 5)) <| sQ 35 (ym (.bool known)) ?_
     refine sgq 36 (B := (!known)) (v := gB_ x1 B12 c12) rfl rfl (uF_ 35) (fun hg => (yb (aD b2) 0 (kB_ x1 B12 c12) K25 K14 (hS16.c 6))) ?_
     refine sgq 37 (B := (!known)) (v := gB_ r_2 B11 c11) rfl rfl (uF_ 35) (fun hg1 => (yb (aD b1) 0 (kB_ r_2 B11 c11) K25 K14 (hS16.c 3) rfl (hf3.g 7 4))) ?_
     obtain ⟨r_4, hc2, hb3⟩ := bI hb3
     refine sgc 38 (B := (!known)) (v := .bool r_4) (F := hS16.fn) rfl rfl (uF_ 35) hS16 (fun hg2 => (yC [gB_ x1 B12 c12, gB_ r_2 B11 c11] k_call_77 (CV.mono (c_spec_l9Same x1 r_2 B12 c12 x1.Cells.length B11 c11 r_2.Cells.length _ rfl rfl (hS16.inn0 [(true, 0), (false, 4)] rfl) (gb_inv hc2 hg2)) (by rintro _ _ ⟨rfl, h⟩; exact ⟨rfl, hS16.out00 h⟩)) rfl (mc (gv_of (v := gB_ x1 B12 c12) hg2) (mc (gv_of (v := gB_ r_2 B11 c11) hg2) mn)))) ?_
     rintro w_7 hS17
     refine sQ 39 (Y_or (b := known) (z := r_4) rfl rfl rfl rfl) <| sQ 9 (yg (.bool (known || r_4))) (rn (cr ?_))
     refine sQ 40 (yP (i1 : Int) 1 rfl (hf3.g 30 11)) <| sQ 30 (ym (vi (i64.wrap ((i1 : Int) + 1)))) (rn ?_)
     obtain rfl := sI hb3
     have hS18 : ST w0 [] _ [⟨B4, 9, (words1.flatMap encS), c4 * 1⟩, ⟨B5, 29, (D3.flatMap encD_Bloch), c5 * 1⟩, ⟨B6, 9, (next_.flatMap encS), c6 * 1⟩, ⟨aD b1, 29, kB_ r_2 B11 c11, 1⟩, ⟨B11, 54, (r_2.Cells.flatMap eN0), c11 * 5⟩, ⟨B3, 9, (level.flatMap encS), c3 * 1⟩, ⟨aD b2, 29, kB_ x1 B12 c12, 1⟩] (((D3.flatMap rowD_Bloch) ++ [])) := ST.subR hS17 (suba (fun r_ (h : r_ ∈ ((D3.flatMap rowD_Bloch) : List Ro)) => mOd (i := 1) (show r_ ∈ ((((D3.flatMap rowD_Bloch) ++ [])) : List Ro) from mAl _ h)) (fun _ h => by cases h))
     exact ⟨K55, Nat.lt_succ_self _, i1 + 1, (known || r_4), D3, (fc (hf3.g 1 0) (fc (hf3.g 2 1) (fc (hf3.g 4 2) (fc (hf3.g 6 3) (fc (hf3.g 7 4) (fc rfl (fc (hf3.g 16 6) (fc (hf3.g 17 7) (fc (hf3.g 18 8) (fc (hf3.g 28 9) (fc (hf3.g 29 10) (fc (congrArg (Value.int .i64) (wr_succ hlt3 hN1)) fn_)))))))))))), hD3, ho3, (hS18.sel [0, 1, 2, 3, 4, 5] rfl rfl), (by omega), hL5⟩
    ·skip
     obtain rfl : K11 = 0 := by have h := of_decide_eq_false hlt2; omega
     refine cw_exit rfl ?_
     obtain rfl := sI hL4
     refine cq (cr ?_)
     refine sQ 41 (ym (.bool known) rfl (hf3.g 9 5)) <| sQ 42 (Y_not (p := known) rfl rfl) (rn ?_)
     refine cw_cond (b := (!known)) rfl (fun hb4 => ?_) (fun hb4 => ?_)
     ·skip
      have hF6 := ct hF5 hb4
      refine cq (cr ?_)
      refine sQ 43 (ym (.slice B4 words1.length c4) rfl (hf3.g 1 0)) <| sQ 44 (ym (.string (bstr x)) rfl (hf3.g 6 3)) ?_
      refine sS 45 (Ys_bslice (s := 1) (len := 1) (vs := [(0, .string (bstr x))]) (cs := [.string (bstr x)]) (zs := [.string (bstr ([] : List UInt8))]) (m := 1) hS13 K34 K40 K68 rfl (mpc rfl mpn) rfl rfl rfl (by kernel_rfl) (by kernel_rfl) rfl) ?_
      rintro _ w_8 ⟨b3, rfl, hS19⟩
      obtain ⟨hap, hF6⟩ := chk_inv hF6
      refine sS 46 (Ys_append (s := 1) (by' := 16) (i := 0) (nn := words1.length) (c := c4) (k := 1) (len := (words1 ++ [x]).length) (B := B4) (xs := ([x].flatMap encS)) (cs' := ((words1 ++ [x]).flatMap encS)) hS19 K34 K40 K83 K84 rfl (by decide) rfl rfl rfl rfl (fm_lenn (l := words1) encS_len rfl) rfl (hS19.c 6) (fm_lenn (l := [x]) encS_len rfl) (fm_one' (enc := encS) encS_one [x]) (by have := hap; omega) (by have := hap; simp only [maxLen]; omega) (fm_app _ _) (app_len (l := words1) (l' := [x]) rfl rfl)) ?_
      rintro _ w_9 ⟨B13, c13, rfl, hS20⟩
      refine sQ 1 (yg (.slice B13 ((words1 ++ [x]).length) c13)) (rn (cq (cr ?_)))
      refine sQ 47 (ym (.slice B5 seen1.length c5) rfl (hf3.g 2 1)) <| sQ 48 (yb (aD b1) 0 (kB_ r_2 B11 c11) K25 K14 (hS20.c 3) rfl (hf3.g 7 4)) ?_
      have ho4 : Org w0 [] [] [⟨B11, (r_2.Cells.flatMap eN0)⟩] := ST.orgOwn hS20 (i := 4) rfl
      have hcap : r_2.Cells.length ≤ c11 := (hS20.lencap (i := 4) rfl (fm_lenn (l := r_2.Cells) eN2 rfl) rfl rfl)
      have hS21 : ST w0 [] _ [⟨B13, 9, ((words1 ++ [x]).flatMap encS), c13 * 1⟩, ⟨B5, 29, (D3.flatMap encD_Bloch), c5 * 1⟩, ⟨B6, 9, (next_.flatMap encS), c6 * 1⟩, ⟨aD b1, 29, kB_ r_2 B11 c11, 1⟩, ⟨B3, 9, (level.flatMap encS), c3 * 1⟩, ⟨aD b3, 9, ([x].flatMap encS), 1 * 1⟩] (⟨B11, (r_2.Cells.flatMap eN0)⟩ :: ((D3.flatMap rowD_Bloch) ++ [])) := hS20.freeze (i := 4) rfl
      refine sS 49 (Ys_bslice (s := 1) (len := 1) (vs := [(0, gB_ r_2 B11 c11)]) (cs := kB_ r_2 B11 c11) (zs := [.slice none 0 0]) (m := 1) hS21 K118 K14 k_zc_29 rfl (mpc rfl mpn) rfl rfl rfl (by kernel_rfl) (by kernel_rfl) rfl) ?_
      rintro _ w_10 ⟨b4, rfl, hS22⟩
      have hm1 : ∀ r ∈ (([((B11, c11), r_2)] : List (Hd × TBloch)).flatMap rowD_Bloch), r ∈ ((⟨B11, (r_2.Cells.flatMap eN0)⟩ :: ((D3.flatMap rowD_Bloch) ++ [])) : List Ro) := (fsub_cons (sk 0 (fun _ h => by cases h)) fsub_nil)
      have ho5 : Org w0 [] [] (([((B11, c11), r_2)] : List (Hd × TBloch)).flatMap rowD_Bloch) := (forg_cons (org_cons ho4 org_nil) forg_nil)
      have hS23 : ST w0 [] _ [⟨B13, 9, ((words1 ++ [x]).flatMap encS), c13 * 1⟩, ⟨B5, 29, (D3.flatMap encD_Bloch), c5 * 1⟩, ⟨B6, 9, (next_.flatMap encS), c6 * 1⟩, ⟨aD b1, 29, kB_ r_2 B11 c11, 1⟩, ⟨B3, 9, (level.flatMap encS), c3 * 1⟩, ⟨aD b3, 9, ([x].flatMap encS), 1 * 1⟩, ⟨aD b4, 29, (([((B11, c11), r_2)] : List (Hd × TBloch)).flatMap encD_Bloch), 1 * 1⟩] (⟨B11, (r_2.Cells.flatMap eN0)⟩ :: ((([((B11, c11), r_2)] : List (Hd × TBloch)).flatMap rowD_Bloch) ++ ((D3.flatMap rowD_Bloch) ++ []))) := ST.subR hS22 (sk 0 (suba hm1 (suba (fun r_ (h : r_ ∈ ((D3.flatMap rowD_Bloch) : List Ro)) => mOd (i := 1) (show r_ ∈ ((((D3.flatMap rowD_Bloch) ++ [])) : List Ro) from mAl _ h)) (fun _ h => by cases h))))
      obtain ⟨hap1, hF6⟩ := chk_inv hF6
      refine sS 50 (Ys_append (s := 1) (by' := 24) (i := 1) (nn := seen1.length) (c := c5) (k := 1) (len := (seen1 ++ ([r_2] : List TBloch)).length) (B := B5) (xs := (([((B11, c11), r_2)] : List (Hd × TBloch)).flatMap encD_Bloch)) (cs' := ((D3 ++ ([((B11, c11), r_2)] : List (Hd × TBloch))).flatMap encD_Bloch)) hS23 K118 K14 k_by_29_24 K26 rfl (by decide) rfl rfl rfl rfl (fm_lenn (l := D3) encD_Bloch_len (dl_len hD3)) rfl (hS23.c 6) (fm_lenn (l := ([((B11, c11), r_2)] : List (Hd × TBloch))) encD_Bloch_len rfl) (fm_one' (enc := encD_Bloch) encD_Bloch_one ([((B11, c11), r_2)] : List (Hd × TBloch))) (by have := hap1; omega) (by have := hap1; simp only [maxLen]; omega) (fm_app _ _) (dl_sum (dl_len hD3) rfl (dl_app hD3 (show List.map Prod.snd ([((B11, c11), r_2)] : List (Hd × TBloch)) = ([r_2] : List TBloch) from rfl)))) ?_
      rintro _ w_11 ⟨B14, c14, rfl, hS24⟩
      have ho6 : Org w0 [] [] ((D3 ++ ([((B11, c11), r_2)] : List (Hd × TBloch))).flatMap rowD_Bloch) := (forg_app ho3 ho5)
      have hS25 : ST w0 [] _ [⟨B13, 9, ((words1 ++ [x]).flatMap encS), c13 * 1⟩, ⟨B14, 29, ((D3 ++ ([((B11, c11), r_2)] : List (Hd × TBloch))).flatMap encD_Bloch), c14 * 1⟩, ⟨B6, 9, (next_.flatMap encS), c6 * 1⟩, ⟨aD b1, 29, kB_ r_2 B11 c11, 1⟩, ⟨B3, 9, (level.flatMap encS), c3 * 1⟩, ⟨aD b3, 9, ([x].flatMap encS), 1 * 1⟩, ⟨aD b4, 29, (([((B11, c11), r_2)] : List (Hd × TBloch)).flatMap encD_Bloch), 1 * 1⟩] (⟨B11, (r_2.Cells.flatMap eN0)⟩ :: (((D3 ++ ([((B11, c11), r_2)] : List (Hd × TBloch))).flatMap rowD_Bloch) ++ ((([((B11, c11), r_2)] : List (Hd × TBloch)).flatMap rowD_Bloch) ++ []))) := ST.subR hS24 (sk 0 (suba (fsub_app (fun r_ (h : r_ ∈ ((D3.flatMap rowD_Bloch) : List Ro)) => mOd (i := 1) (show r_ ∈ ((((([((B11, c11), r_2)] : List (Hd × TBloch)).flatMap rowD_Bloch) ++ ((D3.flatMap rowD_Bloch) ++ []))) : List Ro) from mAr _ (mAl _ h))) (fun r_ (h : r_ ∈ ((([((B11, c11), r_2)] : List (Hd × TBloch)).flatMap rowD_Bloch) : List Ro)) => mOd (i := 1) (show r_ ∈ ((((([((B11, c11), r_2)] : List (Hd × TBloch)).flatMap rowD_Bloch) ++ ((D3.flatMap rowD_Bloch) ++ []))) : List Ro) from mAl _ h))) (suba (fun r_ (h : r_ ∈ ((([((B11, c11), r_2)] : List (Hd × TBloch)).flatMap rowD_Bloch) : List Ro)) => mOd (i := 1) (show r_ ∈ ((((([((B11, c11), r_2)] : List (Hd × TBloch)).flatMap rowD_Bloch) ++ ((D3.flatMap rowD_Bloch) ++ []))) : List Ro) from mAl _ h)) (fun _ h => by cases h))))
      refine sQ 2 (yg (.slice B14 ((seen1 ++ ([r_2] : List TBloch)).length) c14)) (rn (cr ?_))
      refine sQ 51 (ym (.slice B6 next_.length c6) rfl (hf3.g 4 2)) <| sQ 52 (ym (.string (bstr x)) rfl (hf3.g 6 3)) ?_
      obtain ⟨hsa, hF6⟩ := chk_inv hF6
      refine sQ 53 (Y_sadd (a := x) (b := ([72] : List UInt8)) rfl rfl rfl hsa) <| sQ 54 (ym (.string (bstr x)) rfl (hf3.g 6 3)) ?_
      obtain ⟨hsa1, hF6⟩ := chk_inv hF6
      refine sQ 55 (Y_sadd (a := x) (b := ([83] : List UInt8)) rfl rfl rfl hsa1) ?_
      refine sS 56 (Ys_bslice (s := 1) (len := 2) (vs := [(0, .string (bstr (x ++ ([72] : List UInt8)))), (1, .string (bstr (x ++ ([83] : List UInt8))))]) (cs := [.string (bstr (x ++ ([72] : List UInt8))), .string (bstr (x ++ ([83] : List UInt8)))]) (zs := [.string (bstr ([] : List UInt8)), .string (bstr ([] : List UInt8))]) (m := 2) hS25 K34 K40 K68 rfl (mpc rfl (mpc rfl mpn)) rfl rfl rfl (by kernel_rfl) (by kernel_rfl) rfl) ?_
      rintro _ w_12 ⟨b5, rfl, hS26⟩
      obtain ⟨hap2, hF6⟩ := chk_inv hF6
      refine sS 57 (Ys_append (s := 1) (by' := 16) (i := 2) (nn := next_.length) (c := c6) (k := 2) (len := (next_ ++ [(x ++ ([72] : List UInt8)), (x ++ ([83] : List UInt8))]).length) (B := B6) (xs := ([(x ++ ([72] : List UInt8)), (x ++ ([83] : List UInt8))].flatMap encS)) (cs' := ((next_ ++ [(x ++ ([72] : List UInt8)), (x ++ ([83] : List UInt8))]).flatMap encS)) hS26 K34 K40 K83 K84 rfl (by decide) rfl rfl rfl rfl (fm_lenn (l := next_) encS_len rfl) rfl (hS26.c 7) (fm_lenn (l := [(x ++ ([72] : List UInt8)), (x ++ ([83] : List UInt8))]) encS_len rfl) (fm_one' (enc := encS) encS_one [(x ++ ([72] : List UInt8)), (x ++ ([83] : List UInt8))]) (by have := hap2; omega) (by have := hap2; simp only [maxLen]; omega) (fm_app _ _) (app_len (l := next_) (l' := [(x ++ ([72] : List UInt8)), (x ++ ([83] : List UInt8))]) rfl rfl)) ?_
      rintro _ w_13 ⟨B15, c15, rfl, hS27⟩
      refine sQ 4 (yg (.slice B15 ((next_ ++ [(x ++ ([72] : List UInt8)), (x ++ ([83] : List UInt8))]).length) c15)) (rn ?_)
      have hS28 : ST w0 [] _ [⟨B13, 9, ((words1 ++ [x]).flatMap encS), c13 * 1⟩, ⟨B14, 29, ((D3 ++ ([((B11, c11), r_2)] : List (Hd × TBloch))).flatMap encD_Bloch), c14 * 1⟩, ⟨B15, 9, ((next_ ++ [(x ++ ([72] : List UInt8)), (x ++ ([83] : List UInt8))]).flatMap encS), c15 * 1⟩, ⟨aD b1, 29, kB_ r_2 B11 c11, 1⟩, ⟨B3, 9, (level.flatMap encS), c3 * 1⟩, ⟨aD b3, 9, ([x].flatMap encS), 1 * 1⟩, ⟨aD b4, 29, (([((B11, c11), r_2)] : List (Hd × TBloch)).flatMap encD_Bloch), 1 * 1⟩, ⟨aD b5, 9, ([(x ++ ([72] : List UInt8)), (x ++ ([83] : List UInt8))].flatMap encS), 2 * 1⟩] ((((D3 ++ ([((B11, c11), r_2)] : List (Hd × TBloch))).flatMap rowD_Bloch) ++ [])) := ST.subR hS27 (suba (fun r_ (h : r_ ∈ (((D3 ++ ([((B11, c11), r_2)] : List (Hd × TBloch))).flatMap rowD_Bloch) : List Ro)) => mOd (i := 1) (show r_ ∈ (((((D3 ++ ([((B11, c11), r_2)] : List (Hd × TBloch))).flatMap rowD_Bloch) ++ ((([((B11, c11), r_2)] : List (Hd × TBloch)).flatMap rowD_Bloch) ++ []))) : List Ro) from mAl _ h)) (fun _ h => by cases h))
      exact ⟨(words1 ++ [x]), (seen1 ++ ([r_2] : List TBloch)), (next_ ++ [(x ++ ([72] : List UInt8)), (x ++ ([83] : List UInt8))]), B13, c13, B14, c14, (D3 ++ ([((B11, c11), r_2)] : List (Hd × TBloch))), B15, c15, (sI hF6), (fc rfl (fc rfl (fc rfl (fc (hf3.g 16 6) (fc (hf3.g 17 7) (fc (hf3.g 18 8) fn_)))))), (dl_app hD3 (show List.map Prod.snd ([((B11, c11), r_2)] : List (Hd × TBloch)) = ([r_2] : List TBloch) from rfl)), ho6, (hS28.sel [0, 1, 2, 4] rfl rfl)⟩
     ·skip
      have hF7 := cf' hF5 hb4
      refine cw_skip ?_
      exact ⟨words1, seen1, next_, B4, c4, B5, c5, D3, B6, c6, (sI hF7), (fc (hf3.g 1 0) (fc (hf3.g 2 1) (fc (hf3.g 4 2) (fc (hf3.g 16 6) (fc (hf3.g 17 7) (fc (hf3.g 18 8) fn_)))))), hD3, ho3, (hS13.sel [0, 1, 2, 5] rfl rfl)⟩
   rintro f w ⟨words2, seen2, next_1, B7, c7, B8, c8, D2, B9, c9, rfl, hf2, hD2, ho2, hS8⟩
   refine cr ?_
   refine sQ 58 (yP (i : Int) 1 rfl (hf2.g 18 5)) <| sQ 18 (ym (vi (i64.wrap ((i : Int) + 1)))) (rn ?_)
   obtain rfl := sI hF4
   exact ⟨K29, Nat.lt_succ_self _, i + 1, words2, seen2, next_1, B7, c7, B8, c8, D2, B9, c9, (fc (hf2.g 1 0) (fc (hf2.g 2 1) (fc (hf2.g 4 2) (fc (hf2.g 16 3) (fc (hf2.g 17 4) (fc (congrArg (Value.int .i64) (wr_succ hlt1 hN)) fn_)))))), hD2, ho2, (hS8.sel [0, 1, 2, 3] rfl rfl), (by omega), hL3⟩
  ·skip
   obtain rfl : K15 = 0 := by have h := of_decide_eq_false hlt; omega
   refine cw_exit rfl ?_
   obtain rfl := sI hL2
   refine cr ?_
   refine sQ 59 (ym (.slice B6 next_.length c6) rfl (hf1.g 4 2)) <| sQ 3 (yg (.slice B6 next_.length c6)) (rn ?_)
   obtain rfl := sI hF3
   exact ⟨K9, Nat.lt_succ_self _, words1, seen1, next_, B4, c4, B5, c5, D1, B6, c6, (fc (hf1.g 1 0) (fc (hf1.g 2 1) (fc rfl fn_))), hD1, ho1, (hS6.sel [0, 1, 2] rfl rfl), hL1⟩
 ·skip
  have hF8 := cf' hb hb1
  refine cw_exit rfl ?_
  obtain rfl := sI hF8
  obtain rfl := sI hL1
  refine cq (cr ?_)
  refine sQ 60 (ym (.slice B1 words.length c1) rfl (hf.g 1 0)) <| sQ 0 (yg (.slice B1 words.length c1)) (rn (ct_ ?_))
  obtain rfl := sI hF1
  exact ret1 Tryz.results38 (v1 := .slice B1 words.length c1) (resAt_tmp rfl) ⟨B1, c1, rfl, (hS2.sN [0])⟩

theorem c_spec_CliffordWord (k_ : Int)  (w0 : World)  (hS : ST w0 [] w0 [] []) {r_ : List UInt8} {r_1 : Bool} (hF : F_spec_CliffordWord k_ = some (r_, r_1)) :
  CV Tryz.prog 16 #[vi k_] w0 (fun v w' => v = .tuple #[.string (bstr r_), .bool r_1] ∧ ST w0 [] w' [] []) := by
 unfold F_spec_CliffordWord at hF
 refine cv_of_cw 11 Tryz.func16 rfl Tryz.ntmps16 rfl ?_
 refine cq (cr ?_)
 refine sQ 2 (yg (.string (bstr ([] : List UInt8)))) <| sQ 3 (yg (.bool false)) (rn (cq (cq (cr ?_))))
 refine sQ 4 (ym (vi k_)) ?_
 obtain ⟨r_2, hc, hF⟩ := bI hF
 refine sc 5 rfl rfl (yC [vi k_, vi 0, vi 23] K61 (c_spec_l1In k_ 0 23 _  (hS.inn0 [] rfl) hc)) ?_
 rintro _ w_ ⟨rfl, hd⟩
 have hS1 := hS.out00 hd
 refine sQ 6 (Y_not (p := r_2) rfl rfl) (rn ?_)
 refine cw_cond (b := (!r_2)) rfl (fun hb => ?_) (fun hb => ?_)
 ·skip
  have hF1 := ct hF hb
  refine cq (cr ?_)
  refine sQ 2 (yg (.string (bstr ([] : List UInt8)))) <| sQ 3 (yg (.bool false)) (rn (ct_ ?_))
  obtain ⟨rfl, rfl⟩ := pr2 (sI hF1)
  exact ret2 Tryz.results16 (v1 := .string (bstr ([] : List UInt8))) (resAt_tmp rfl) (v2 := .bool false) (resAt_tmp rfl) ⟨rfl, (hS1.sN [])⟩
 ·skip
  have hF2 := cf' hF hb
  refine cw_skip (cq (cr ?_))
  obtain ⟨r_3, hc1, hF2⟩ := bI hF2
  refine sc 7 rfl rfl (yC [] k_call_38 (c_spec_l9Words  _  (hS1.inn0 [] rfl) hc1)) ?_
  rintro _ w_1 ⟨B, c, rfl, hd1⟩
  have hS2 := hS1.out0 hd1
  refine sQ 8 (ym (vi k_)) ?_
  obtain ⟨x, hx, hF2⟩ := bI hF2
  refine sQ 9 (Y_index (B := B) (m := r_3.length) (c := c) (k := .i64) (i := k_) K34 K40 rfl rfl rfl (gi_isSome encS_len rfl (hS2.c 0) hx) (getI_nn hx) (getI_ltI hx rfl)) <| sQ 10 (yl B (k_.toNat * 1) (r_3.flatMap encS) (.string (bstr x)) K97 (hS2.c 0) rfl rfl (gi_at0 encS_len hx rfl)) <| sQ 2 (yg (.string (bstr x))) <| sQ 3 (yg (.bool true)) (rn (ct_ ?_))
  obtain ⟨rfl, rfl⟩ := pr2 (sI hF2)
  exact ret2 Tryz.results16 (v1 := .string (bstr x)) (resAt_tmp rfl) (v2 := .bool true) (resAt_tmp rfl) ⟨rfl, (hS2.sN [])⟩

theorem c_spec_l2C_matrix (c : Tl2C) (m : TMatrix) (B : Option Addr) (B1 : Option Addr) (c1 n : Nat) (w0 : World) (hn : m.Cells.length = n) (hS : ST w0 (bl [⟨B1, 54, (m.Cells.flatMap eN0), c1 * 5⟩]) w0 [⟨B1, 54, (m.Cells.flatMap eN0), c1 * 5⟩] [⟨B, [.bool c.bad]⟩]) {r_ : TMatrix} {r_1 : Bool} (hF : F_spec_l2C_matrix c m = some (r_, r_1)) :
  CV Tryz.prog 28 #[pt B 0, .agg #[vi m.Rows, vi m.Cols, .slice B1 n c1]] w0 (fun v w' => ∃ (B2 : Option Addr) (c2 : Nat), v = .tuple #[gM_ r_ B2 c2, .bool r_1] ∧ ST w0 (bl [⟨B1, 54, (m.Cells.flatMap eN0), c1 * 5⟩]) w' [⟨B2, 54, (r_.Cells.flatMap eN0), c2 * 5⟩] []) := by
 subst hn
 unfold F_spec_l2C_matrix at hF
 refine cv_of_cw 12 Tryz.func28 rfl Tryz.ntmps28 rfl ?_
 refine cq (cr ?_)
 refine sS 3 (yB 26 (gM_ m B1 c1) (kM_ m B1 c1) 3 hS) ?_
 rintro _ w_ ⟨b, rfl, hS1⟩
 refine sS 4 (yN kN_ 3 hS1 K17) ?_
 rintro _ w_1 ⟨b1, rfl, hS2⟩
 refine sQ 5 (yg (.bool false)) (rn (cq (cq (cr ?_))))
 refine sQ 6 (ym (pt B 0)) <| sQ 7 (Y_nilCheck (B := B) (i := 0) rfl rfl) <| sQ 8 (yd B 0 0 K65 K54) <| sQ 9 (yl B 0 [.bool c.bad] (.bool c.bad) K72 (hS2.rf (i := 0) rfl)) (rn ?_)
 refine cw_cond (b := c.bad) rfl (fun hb => ?_) (fun hb => ?_)
 ·skip
  have hF1 := ct hF hb
  refine cq (cr ?_)
  refine sQ 10 (Y_buildS (zs := kN_) (vs := []) (cs := kN_) K49 K17 rfl mpn rfl) ?_
  refine s0 (yT 2 3 (aD b1) 26 gN_ kN_ 0 hS2 K6) ?_
  rintro _ w_2 ⟨rfl, hS3⟩
  refine sQ 5 (yg (.bool false)) (rn (ct_ ?_))
  have hS4 := hS3.addNil 54
  obtain ⟨rfl, rfl⟩ := pr2 (sI hF1)
  exact ret2 Tryz.results28 (v1 := gN_) (resAt_cellA (B := aD b1) (i := 0) (cs := kN_) (vs := kN_) rfl K13 K6 (hS4.c 2) rfl rfl) (v2 := .bool false) (resAt_tmp rfl) ⟨none, 0, rfl, (hS4.sN [3])⟩
 ·skip
  have hF2 := cf' hF hb
  refine cw_skip (cq (cr ?_))
  refine sQ 11 (yb (aD b) 0 (kM_ m B1 c1) K13 K6 (hS2.c 1)) ?_
  refine s0 (yT 2 3 (aD b1) 26 (gM_ m B1 c1) (kM_ m B1 c1) 0 hS2 K6) ?_
  rintro _ w_3 ⟨rfl, hS5⟩
  refine sQ 5 (yg (.bool true)) (rn (ct_ ?_))
  obtain ⟨rfl, rfl⟩ := pr2 (sI hF2)
  exact ret2 Tryz.results28 (v1 := gM_ m B1 c1) (resAt_cellA (B := aD b1) (i := 0) (cs := kM_ m B1 c1) (vs := kM_ m B1 c1) rfl K13 K6 (hS5.c 2) rfl rfl) (v2 := .bool true) (resAt_tmp rfl) ⟨B1, c1, rfl, (hS5.sN [0])⟩

theorem c_spec_l4Gate (n : Int) (g : TGate)  (w0 : World)  (hS : ST w0 [] w0 [] []) {r_ : Bool} (hF : F_spec_l4Gate n g = some r_) :
  CV Tryz.prog 78 #[vi n, .agg #[vi g.Kind, vi g.A, vi g.B]] w0 (fun v w' => v = .bool r_ ∧ ST w0 [] w' [] []) := by
 unfold F_spec_l4Gate at hF
 refine cv_of_cw 55 Tryz.func78 rfl Tryz.ntmps78 rfl ?_
 refine cq (cr ?_)
 refine sS 3 (yB 45 (.agg #[vi g.Kind, vi g.A, vi g.B]) [vi g.Kind, vi g.A, vi g.B] 3 hS) ?_
 rintro _ w_ ⟨b, rfl, hS1⟩
 refine sQ 4 (yg (.bool false)) (rn (cq (cw_block (cq (cr ?_)))))
 refine sQ 6 (yd (aD b) 0 0 K44 K2) <| sQ 7 (yl (aD b) 0 [vi g.Kind, vi g.A, vi g.B] (vi g.Kind) K1 (hS1.c 0)) ?_
 obtain ⟨r_1, hc, hF⟩ := bI hF
 refine sc 8 rfl rfl (yC [vi g.Kind, vi 1, vi 8] K61 (c_spec_l1In g.Kind 1 8 _  (hS1.inn0 [] rfl) hc)) ?_
 rintro _ w_1 ⟨rfl, hd⟩
 have hS2 := hS1.out00 hd
 refine sQ 5 (yg (.bool r_1)) (rn ?_)
 refine cw_cond (b := r_1) rfl (fun hb => ?_) (fun hb => ?_)
 ·skip
  have hF1 := ct hF hb
  refine cq (cr ?_)
  refine sQ 9 (yd (aD b) 0 0 K37 K2) <| sQ 10 (yl (aD b) 1 [vi g.Kind, vi g.A, vi g.B] (vi g.A) K1 (hS2.c 0)) <| sQ 11 (ym (vi n)) <| sQ 12 (yM n 1) ?_
  obtain ⟨r_2, hc1, hF1⟩ := bI hF1
  refine sc 13 rfl rfl (yC [vi g.A, vi 0, vi (i64.wrap (n - 1))] K61 (c_spec_l1In g.A 0 (i64.wrap (n - 1)) _  (hS2.inn0 [] rfl) hc1)) ?_
  rintro _ w_2 ⟨rfl, hd1⟩
  have hS3 := hS2.out00 hd1
  refine sQ 14 (ym (.bool r_2)) ?_
  refine sgq 15 (B := r_2) (v := pt (aD b) 2) rfl rfl (uT_ 14) (fun hg => (yd (aD b) 0 0 K42 K2)) ?_
  refine sgq 16 (B := r_2) (v := vi g.B) rfl rfl (uT_ 14) (fun hg1 => (yl (aD b) 2 [vi g.Kind, vi g.A, vi g.B] (vi g.B) K1 (hS3.c 0) rfl (gv_of (v := pt (aD b) 2) hg1))) ?_
  refine sgq 17 (B := r_2) (v := .bool (g.B == 0)) rfl rfl (uT_ 14) (fun hg2 => (yE g.B 0 rfl (gv_of (v := vi g.B) hg2))) ?_
  refine sQ 18 (Y_and (b := r_2) (z := (g.B == 0)) rfl rfl rfl rfl) <| sQ 4 (yg (.bool (r_2 && (g.B == 0)))) (rn (ct_ ?_))
  obtain rfl := sI hF1
  exact ret1 Tryz.results78 (v1 := .bool (r_2 && (g.B == 0))) (resAt_tmp rfl) ⟨rfl, (hS3.sN [])⟩
 ·skip
  have hF2 := cf' hF hb
  refine cq (cr ?_)
  refine sQ 20 (yd (aD b) 0 0 K44 K2) <| sQ 21 (yl (aD b) 0 [vi g.Kind, vi g.A, vi g.B] (vi g.Kind) K1 (hS2.c 0)) ?_
  obtain ⟨r_3, hc2, hF2⟩ := bI hF2
  refine sc 22 rfl rfl (yC [vi g.Kind, vi 9, vi 11] K61 (c_spec_l1In g.Kind 9 11 _  (hS2.inn0 [] rfl) hc2)) ?_
  rintro _ w_3 ⟨rfl, hd2⟩
  have hS4 := hS2.out00 hd2
  refine sQ 19 (yg (.bool r_3)) (rn ?_)
  refine cw_cond (b := r_3) rfl (fun hb1 => ?_) (fun hb1 => ?_)
  ·skip
   have hF3 := ct hF2 hb1
   refine cq (cr ?_)
   refine sQ 23 (yd (aD b) 0 0 K37 K2) <| sQ 24 (yl (aD b) 1 [vi g.Kind, vi g.A, vi g.B] (vi g.A) K1 (hS4.c 0)) <| sQ 25 (ym (vi n)) <| sQ 26 (yM n 1) ?_
   obtain ⟨r_4, hc3, hF3⟩ := bI hF3
   refine sc 27 rfl rfl (yC [vi g.A, vi 0, vi (i64.wrap (n - 1))] K61 (c_spec_l1In g.A 0 (i64.wrap (n - 1)) _  (hS4.inn0 [] rfl) hc3)) ?_
   rintro _ w_4 ⟨rfl, hd3⟩
   have hS5 := hS4.out00 hd3
   refine sQ 28 (ym (.bool r_4)) ?_
   refine sgq 29 (B := r_4) (v := pt (aD b) 2) rfl rfl (uT_ 28) (fun hg3 => (yd (aD b) 0 0 K42 K2)) ?_
   refine sgq 30 (B := r_4) (v := vi g.B) rfl rfl (uT_ 28) (fun hg4 => (yl (aD b) 2 [vi g.Kind, vi g.A, vi g.B] (vi g.B) K1 (hS5.c 0) rfl (gv_of (v := pt (aD b) 2) hg4))) ?_
   refine sgq 31 (B := r_4) (v := vi n) rfl rfl (uT_ 28) (fun hg5 => (ym (vi n))) ?_
   refine sgq 32 (B := r_4) (v := vi (i64.wrap (n - 1))) rfl rfl (uT_ 28) (fun hg6 => (yM n 1 rfl (gv_of (v := vi n) hg6))) ?_
   obtain ⟨r_5, hc4, hF3⟩ := bI hF3
   refine sgc 33 (B := r_4) (v := .bool r_5) (F := hS5.fn) rfl rfl (uT_ 28) hS5 (fun hg7 => (yC [vi g.B, vi 0, vi (i64.wrap (n - 1))] K61 (CV.mono (c_spec_l1In g.B 0 (i64.wrap (n - 1)) _  (hS5.inn0 [] rfl) (gb_inv hc4 hg7)) (by rintro _ _ ⟨rfl, h⟩; exact ⟨rfl, hS5.out00 h⟩)) rfl (mc (gv_of (v := vi g.B) hg7) (mc rfl (mc (gv_of (v := vi (i64.wrap (n - 1))) hg7) mn))))) ?_
   rintro w_5 hS6
   refine sQ 34 (Y_and (b := r_4) (z := r_5) rfl rfl rfl rfl) <| sQ 35 (ym (.bool (r_4 && r_5))) ?_
   refine sgq 36 (B := (r_4 && r_5)) (v := pt (aD b) 1) rfl rfl (uT_ 35) (fun hg8 => (yd (aD b) 0 0 K37 K2)) ?_
   refine sgq 37 (B := (r_4 && r_5)) (v := vi g.A) rfl rfl (uT_ 35) (fun hg9 => (yl (aD b) 1 [vi g.Kind, vi g.A, vi g.B] (vi g.A) K1 (hS6.c 0) rfl (gv_of (v := pt (aD b) 1) hg9))) ?_
   refine sgq 38 (B := (r_4 && r_5)) (v := pt (aD b) 2) rfl rfl (uT_ 35) (fun hg10 => (yd (aD b) 0 0 K42 K2)) ?_
   refine sgq 39 (B := (r_4 && r_5)) (v := vi g.B) rfl rfl (uT_ 35) (fun hg11 => (yl (aD b) 2 [vi g.Kind, vi g.A, vi g.B] (vi g.B) K1 (hS6.c 0) rfl (gv_of (v := pt (aD b) 2) hg11))) ?_
   refine sgq 40 (B := (r_4 && r_5)) (v := .bool (g.A != g.B)) rfl rfl (uT_ 35) (fun hg12 => (Y_ne (k := .i64) (a := g.A) (b := g.B) rfl (gv_of (v := vi g.A) hg12) (gv_of (v := vi g.B) hg12))) ?_
   refine sQ 41 (Y_and (b := (r_4 && r_5)) (z := (g.A != g.B)) rfl rfl rfl rfl) <| sQ 4 (yg (.bool ((r_4 && r_5) && (g.A != g.B)))) (rn (ct_ ?_))
   obtain rfl := sI hF3
   exact ret1 Tryz.results78 (v1 := .bool ((r_4 && r_5) && (g.A != g.B))) (resAt_tmp rfl) ⟨rfl, (hS6.sN [])⟩
  ·skip
   have hF4 := cf' hF2 hb1
   refine cw_skip (cq (cr ?_))
   refine sQ 42 (yd (aD b) 0 0 K44 K2) <| sQ 43 (yl (aD b) 0 [vi g.Kind, vi g.A, vi g.B] (vi g.Kind) K1 (hS4.c 0)) <| sQ 44 (yE g.Kind 12) <| sQ 45 (ym (.bool (g.Kind == 12))) ?_
   refine sgq 46 (B := (g.Kind == 12)) (v := pt (aD b) 1) rfl rfl (uT_ 45) (fun hg13 => (yd (aD b) 0 0 K37 K2)) ?_
   refine sgq 47 (B := (g.Kind == 12)) (v := vi g.A) rfl rfl (uT_ 45) (fun hg14 => (yl (aD b) 1 [vi g.Kind, vi g.A, vi g.B] (vi g.A) K1 (hS4.c 0) rfl (gv_of (v := pt (aD b) 1) hg14))) ?_
   refine sgq 48 (B := (g.Kind == 12)) (v := .bool (g.A == 0)) rfl rfl (uT_ 45) (fun hg15 => (yE g.A 0 rfl (gv_of (v := vi g.A) hg15))) ?_
   refine sQ 49 (Y_and (b := (g.Kind == 12)) (z := (g.A == 0)) rfl rfl rfl rfl) <| sQ 50 (ym (.bool ((g.Kind == 12) && (g.A == 0)))) ?_
   refine sgq 51 (B := ((g.Kind == 12) && (g.A == 0))) (v := pt (aD b) 2) rfl rfl (uT_ 50) (fun hg16 => (yd (aD b) 0 0 K42 K2)) ?_
   refine sgq 52 (B := ((g.Kind == 12) && (g.A == 0))) (v := vi g.B) rfl rfl (uT_ 50) (fun hg17 => (yl (aD b) 2 [vi g.Kind, vi g.A, vi g.B] (vi g.B) K1 (hS4.c 0) rfl (gv_of (v := pt (aD b) 2) hg17))) ?_
   refine sgq 53 (B := ((g.Kind == 12) && (g.A == 0))) (v := .bool (g.B == 0)) rfl rfl (uT_ 50) (fun hg18 => (yE g.B 0 rfl (gv_of (v := vi g.B) hg18))) ?_
   refine sQ 54 (Y_and (b := ((g.Kind == 12) && (g.A == 0))) (z := (g.B == 0)) rfl rfl rfl rfl) <| sQ 4 (yg (.bool (((g.Kind == 12) && (g.A == 0)) && (g.B == 0)))) (rn (ct_ ?_))
   obtain rfl := sI hF4
   exact ret1 Tryz.results78 (v1 := .bool (((g.Kind == 12) && (g.A == 0)) && (g.B == 0))) (resAt_tmp rfl) ⟨rfl, (hS4.sN [])⟩

theorem c_spec_l4Good (c : TCircuit) (B : Option Addr) (c1 n : Nat) (w0 : World) (hn : c.Gates.length = n) (hS : ST w0 [] w0 [] [⟨B, (c.Gates.flatMap enc_Gate)⟩]) {r_ : Bool} (hF : F_spec_l4Good c = some r_) :
  CV Tryz.prog 39 #[.agg #[vi c.Qubits, .slice B n c1]] w0 (fun v w' => v = .bool r_ ∧ ST w0 [] w' [] []) := by
 subst hn
 unfold F_spec_l4Good at hF
 refine cv_of_cw 28 Tryz.func39 rfl Tryz.ntmps39 rfl ?_
 refine cq (cr ?_)
 refine sS 1 (yB 43 (.agg #[vi c.Qubits, .slice B c.Gates.length c1]) [vi c.Qubits, .slice B c.Gates.length c1] 2 hS) ?_
 rintro _ w_ ⟨b, rfl, hS1⟩
 refine sQ 2 (yg (.bool false)) (rn (cq (cq (cr ?_))))
 refine sQ 5 (yd (aD b) 0 0 K105 K2) <| sQ 6 (yl (aD b) 0 [vi c.Qubits, .slice B c.Gates.length c1] (vi c.Qubits) K1 (hS1.c 0)) ?_
 obtain ⟨r_1, hc, hF⟩ := bI hF
 refine sc 7 rfl rfl (yC [vi c.Qubits, vi 1, vi 5] K61 (c_spec_l1In c.Qubits 1 5 _  (hS1.inn0 [] rfl) hc)) ?_
 rintro _ w_1 ⟨rfl, hd⟩
 have hS2 := hS1.out00 hd
 refine sQ 8 (Y_not (p := r_1) rfl rfl) <| sQ 9 (ym (.bool (!r_1))) ?_
 refine sgq 10 (B := (!(!r_1))) (v := pt (aD b) 1) rfl rfl (uF_ 9) (fun hg => (yd (aD b) 0 0 K58 K46)) ?_
 refine sgq 11 (B := (!(!r_1))) (v := .slice B c.Gates.length c1) rfl rfl (uF_ 9) (fun hg1 => (yl (aD b) 1 [vi c.Qubits, .slice B c.Gates.length c1] (.slice B c.Gates.length c1) K70 (hS2.c 0) rfl (gv_of (v := pt (aD b) 1) hg1))) ?_
 refine sgq 12 (B := (!(!r_1))) (v := vi (c.Gates.length : Int)) rfl rfl (uF_ 9) (fun hg2 => (Y_len (B := B) (m := c.Gates.length) (c := c1) K47 rfl (gv_of (v := .slice B c.Gates.length c1) hg2))) ?_
 refine sgq 13 (B := (!(!r_1))) (v := .bool (decide (400 < (c.Gates.length : Int)))) rfl rfl (uF_ 9) (fun hg3 => (Y_gt (k := .i64) (a := (c.Gates.length : Int)) (b := 400) rfl (gv_of (v := vi (c.Gates.length : Int)) hg3) rfl)) ?_
 refine sQ 14 (Y_or (b := (!r_1)) (z := (decide (400 < (c.Gates.length : Int)))) rfl rfl rfl rfl) (rn ?_)
 refine cw_cond (b := ((!r_1) || (decide (400 < (c.Gates.length : Int))))) rfl (fun hb => ?_) (fun hb => ?_)
 ·skip
  have hF1 := ct hF hb
  refine cq (cr ?_)
  refine sQ 2 (yg (.bool false)) (rn (ct_ ?_))
  obtain rfl := sI hF1
  exact ret1 Tryz.results39 (v1 := .bool false) (resAt_tmp rfl) ⟨rfl, (hS2.sN [])⟩
 ·skip
  have hF2 := cf' hF hb
  refine cw_skip (cq (cq (cr ?_)))
  refine sQ 15 (yd (aD b) 0 0 K58 K46) <| sQ 16 (yl (aD b) 1 [vi c.Qubits, .slice B c.Gates.length c1] (.slice B c.Gates.length c1) K70 (hS2.c 0)) <| sQ 17 (Y_len (B := B) (m := c.Gates.length) (c := c1) K47 rfl rfl) <| sQ 18 (ym (vi 0)) (rn ?_)
  obtain ⟨hN, hF2⟩ := chk_inv hF2
  obtain ⟨z, hz, hF3⟩ := bI hF2
  refine cw_block ?_
  refine cw_loop (fun k f w => ∃ (i : Nat), FF f [(1, pt (aD b) 0), (16, .slice B c.Gates.length c1), (17, vi (c.Gates.length : Int)), (18, vi (i : Int))] ∧ ST w0 [] w [⟨aD b, 43, [vi c.Qubits, .slice B c.Gates.length c1], 2⟩] [⟨B, (c.Gates.flatMap enc_Gate)⟩] ∧ i + k = c.Gates.length ∧ forX (F_spec_l4Good_l1 c) k i () = some z) c.Gates.length ⟨0, (fc rfl (fc rfl (fc rfl (fc rfl fn_)))), (hS2.sel [0] rfl rfl), Nat.zero_add _, hz⟩ ?_
  rintro k_ f w ⟨i, hf, hS3, hik, hL⟩
  refine cq (cr ?_)
  refine sQ 19 (yL (i : Int) (c.Gates.length : Int) rfl (hf.g 18 3) (hf.g 17 2)) (rn (cq ?_))
  refine cw_cond (b := (decide ((i : Int) < (c.Gates.length : Int)))) rfl (fun hlt => ?_) (fun hlt => ?_)
  ·skip
   have hlt1 : i < c.Gates.length := by have h := of_decide_eq_true hlt; omega
   obtain ⟨K9, rfl⟩ : ∃ k2, k_ = k2 + 1 := ⟨k_ - 1, by omega⟩
   obtain ⟨y, hb1, hL1⟩ := forX_go hL
   unfold F_spec_l4Good_l1 at hb1
   refine cw_skip (cq (cw_block (cq (cr ?_))))
   obtain ⟨x, hx, hb1⟩ := bI hb1
   refine sQ 20 (Y_index (B := B) (m := c.Gates.length) (c := c1) (k := .i64) (i := (i : Int)) K47 K28 rfl (hf.g 16 1) (hf.g 18 3) (gi_isSome enc_Gate_len rfl (hS3.rf (i := 0) rfl) hx) (getI_nn hx) (getI_ltI hx rfl)) <| sQ 21 (ya B ((i : Int).toNat * 3) (c.Gates.flatMap enc_Gate) [vi x.Kind, vi x.A, vi x.B] K52 K28 (hS3.rf (i := 0) rfl) rfl rfl (enc_Gate_len x) (gi_seg enc_Gate_len hx)) ?_
   refine sS 4 (yN [vi 0, vi 0, vi 0] 3 hS3 K45) ?_
   rintro _ w_2 ⟨b1, rfl, hS4⟩
   refine s0 (yT 1 3 (aD b1) 45 (.agg #[vi x.Kind, vi x.A, vi x.B]) [vi x.Kind, vi x.A, vi x.B] 0 hS4 K28) ?_
   rintro _ w_3 ⟨rfl, hS5⟩
   refine rn (cq (cr ?_))
   refine sQ 22 (yd (aD b) 0 0 K105 K2 rfl (hf.g 1 0)) <| sQ 23 (yl (aD b) 0 [vi c.Qubits, .slice B c.Gates.length c1] (vi c.Qubits) K1 (hS5.c 0)) <| sQ 24 (yb (aD b1) 0 [vi x.Kind, vi x.A, vi x.B] K52 K28 (hS5.c 1)) ?_
   obtain ⟨r_2, hc1, hb1⟩ := bI hb1
   refine sc 25 rfl rfl (yC [vi c.Qubits, .agg #[vi x.Kind, vi x.A, vi x.B]] k_call_78 (c_spec_l4Gate c.Qubits x _  (hS5.inn0 [] rfl) hc1)) ?_
   rintro _ w_4 ⟨rfl, hd1⟩
   have hS6 := hS5.out00 hd1
   refine sQ 26 (Y_not (p := r_2) rfl rfl) (rn ?_)
   refine cw_cond (b := (!r_2)) rfl (fun hb2 => ?_) (fun hb2 => ?_)
   ·skip
    have hF4 := ct hb1 hb2
    refine cq (cr ?_)
    refine sQ 2 (yg (.bool false)) (rn (ct_ ?_))
    obtain rfl := sI hF4
    obtain rfl := sI hL1
    obtain rfl := sI hF3
    exact ret1 Tryz.results39 (v1 := .bool false) (resAt_tmp rfl) ⟨rfl, (hS6.sN [])⟩
   ·skip
    have hF5 := cf' hb1 hb2
    refine cw_skip (cr ?_)
    refine sQ 27 (yP (i : Int) 1 rfl (hf.g 18 3)) <| sQ 18 (ym (vi (i64.wrap ((i : Int) + 1)))) (rn ?_)
    obtain rfl := sI hF5
    exact ⟨K9, Nat.lt_succ_self _, i + 1, (fc (hf.g 1 0) (fc (hf.g 16 1) (fc (hf.g 17 2) (fc (congrArg (Value.int .i64) (wr_succ hlt1 hN)) fn_)))), (hS6.sel [0] rfl rfl), (by omega), hL1⟩
  ·skip
   obtain rfl : k_ = 0 := by have h := of_decide_eq_false hlt; omega
   refine cw_exit rfl ?_
   obtain rfl := sI hL
   refine cq (cr ?_)
   refine sQ 2 (yg (.bool true)) (rn (ct_ ?_))
   obtain rfl := sI hF3
   exact ret1 Tryz.results39 (v1 := .bool true) (resAt_tmp rfl) ⟨rfl, (hS3.sN [])⟩

theorem c_spec_OperatorOf (c : TCircuit) (B : Option Addr) (c1 n : Nat) (w0 : World) (hn : c.Gates.length = n) (hS : ST w0 [] w0 [] [⟨B, (c.Gates.flatMap enc_Gate)⟩]) {r_ : TMatrix} {r_1 : Bool} (hF : F_spec_OperatorOf c = some (r_, r_1)) :
  CV Tryz.prog 17 #[.agg #[vi c.Qubits, .slice B n c1]] w0 (fun v w' => ∃ (B1 : Option Addr) (c2 : Nat), v = .tuple #[gM_ r_ B1 c2, .bool r_1] ∧ ST w0 [] w' [⟨B1, 54, (r_.Cells.flatMap eN0), c2 * 5⟩] []) := by
 subst hn
 unfold F_spec_OperatorOf at hF
 refine cv_of_cw 23 Tryz.func17 rfl Tryz.ntmps17 rfl ?_
 refine cq (cr ?_)
 refine sS 1 (yB 43 (.agg #[vi c.Qubits, .slice B c.Gates.length c1]) [vi c.Qubits, .slice B c.Gates.length c1] 2 hS) ?_
 rintro _ w_ ⟨b, rfl, hS1⟩
 refine sS 2 (yN kN_ 3 hS1 K17) ?_
 rintro _ w_1 ⟨b1, rfl, hS2⟩
 refine sQ 3 (yg (.bool false)) (rn (cq (cq (cr ?_))))
 refine sQ 5 (yb (aD b) 0 [vi c.Qubits, .slice B c.Gates.length c1] K86 K59 (hS2.c 0)) ?_
 obtain ⟨r_2, hc, hF⟩ := bI hF
 refine sc 6 rfl rfl (yC [.agg #[vi c.Qubits, .slice B c.Gates.length c1]] k_call_39 (c_spec_l4Good c B c1 c.Gates.length _ rfl (hS2.inn0 [(true, 0)] rfl) hc)) ?_
 rintro _ w_2 ⟨rfl, hd⟩
 have hS3 := hS2.out00 hd
 refine sQ 7 (Y_not (p := r_2) rfl rfl) (rn ?_)
 refine cw_cond (b := (!r_2)) rfl (fun hb => ?_) (fun hb => ?_)
 ·skip
  have hF1 := ct hF hb
  refine cq (cr ?_)
  refine sQ 8 (Y_buildS (zs := kN_) (vs := []) (cs := kN_) K49 K17 rfl mpn rfl) ?_
  refine s0 (yT 1 3 (aD b1) 26 gN_ kN_ 0 hS3 K6) ?_
  rintro _ w_3 ⟨rfl, hS4⟩
  refine sQ 3 (yg (.bool false)) (rn (ct_ ?_))
  have hS5 := hS4.addNil 54
  obtain ⟨rfl, rfl⟩ := pr2 (sI hF1)
  exact ret2 Tryz.results17 (v1 := gN_) (resAt_cellA (B := aD b1) (i := 0) (cs := kN_) (vs := kN_) rfl K13 K6 (hS5.c 1) rfl rfl) (v2 := .bool false) (resAt_tmp rfl) ⟨none, 0, rfl, (hS5.sN [2])⟩
 ·skip
  have hF2 := cf' hF hb
  refine cw_skip (cq (cr ?_))
  refine sQ 9 (Y_buildS (zs := [.bool false]) (vs := []) (cs := [.bool false]) K99 K100 rfl mpn rfl) ?_
  refine sS 10 (yB 59 (.agg #[.bool false]) [.bool false] 1 hS3) ?_
  rintro _ w_4 ⟨b2, rfl, hS6⟩
  refine sQ 4 (yg (pt (aD b2) 0)) (rn (cq ?_))
  obtain ⟨hsh, hF2⟩ := chk_inv hF2
  obtain ⟨r_3, hc1, hF2⟩ := bI hF2
  obtain ⟨⟨r_4, m⟩, hc2, hF2⟩ := bI hF2
  obtain ⟨⟨r_5, r_6⟩, hc3, hF2⟩ := bI hF2
  refine ra_start (hS6.se [0]).fn (by kernel_rfl) ?_
  have hS10 := hS6.drew
  refine rq 0 11 (v := pt (aD b2) 0) rfl (hS10.se [0]) (fun w' hw' => (ym (pt (aD b2) 0))) ?_
  refine rq 1 12 (v := pt (aD b2) 0) rfl (hS10.se [0]) (fun w' hw' => (ym (pt (aD b2) 0))) ?_
  refine rq 2 13 (v := .agg #[vi c.Qubits, .slice B c.Gates.length c1]) rfl (hS10.se [0]) (fun w' hw' => (yb (aD b) 0 [vi c.Qubits, .slice B c.Gates.length c1] K86 K59 (ST.cf hw' (i := 0) rfl))) ?_
  refine rq 3 14 (v := pt (aD b) 0) rfl (hS10.se [0]) (fun w' hw' => (yd (aD b) 0 0 K105 K2)) ?_
  refine rq 4 15 (v := vi c.Qubits) rfl (hS10.se [0]) (fun w' hw' => (yl (aD b) 0 [vi c.Qubits, .slice B c.Gates.length c1] (vi c.Qubits) K1 (ST.cf hw' (i := 0) rfl))) ?_
  refine rq 5 16 (v := .int .u64 (IntKind.u64.wrap c.Qubits)) rfl (hS10.se [0]) (fun w' hw' => (Y_conv (k := .i64) (a := c.Qubits) (T := 3) (T' := 80) K64 K69 rfl rfl)) ?_
  refine rq 6 17 (v := vi (shlK .i64 1 (IntKind.u64.wrap c.Qubits))) rfl (hS10.se [0]) (fun w' hw' => (Y_shl (k := .i64) (a := 1) (k' := .u64) (b := (IntKind.u64.wrap c.Qubits)) rfl rfl rfl hsh)) ?_
  refine rA [7] ?_
  refine rC 18 7 rfl (yC [vi (shlK .i64 1 (IntKind.u64.wrap c.Qubits))] K120 (c_spec_l3Unit (shlK .i64 1 (IntKind.u64.wrap c.Qubits)) _  (hS10.inn0 [] rfl) hc1)) ?_ ?_
  ·rintro _ w_5 ⟨B2, c3, rfl, hd1⟩
   have hS11 := hS10.out0 hd1
   refine ⟨(hS11.se [0]), ?_⟩
   refine rA [8] ?_
   refine rC 19 8 rfl (yC [pt (aD b2) 0, .agg #[vi c.Qubits, .slice B c.Gates.length c1], gM_ r_3 B2 c3] k_call_40 (c_spec_l2C_run (Tl2C.mk false) c r_3 (aD b2) B c1 c.Gates.length B2 c3 r_3.Cells.length _ rfl rfl (hS11.inn [false, false, true, true] rfl [(true, 0)] rfl) hc2)) ?_ ?_
   ·rintro _ w_6 ⟨B3, c4, rfl, hd2⟩
    have hS12 := hS11.out [false, false, true, true] rfl hd2
    refine ⟨(hS12.se [0]), ?_⟩
    refine rA [9] ?_
    refine rC 20 9 rfl (yC [pt (aD b2) 0, gM_ r_4 B3 c4] k_call_28 (c_spec_l2C_matrix m r_4 (aD b2) B3 c4 r_4.Cells.length _ rfl (hS12.inn [false, false, false, true] rfl [(false, 2)] rfl) hc3)) ?_ ?_
    ·rintro _ w_7 ⟨B4, c5, rfl, hd3⟩
     have hS13 := hS12.out [false, false, false, true] rfl hd3
     refine ⟨(hS13.se [0]), ?_⟩
     refine rq 10 21 (v := gM_ r_5 B4 c5) rfl (hS13.se [0]) (fun w' hw' => (ye (gM_ r_5 B4 c5))) ?_
     refine rq 11 22 (v := .bool r_6) rfl (hS13.se [0]) (fun w' hw' => (ye (.bool r_6))) ?_
     refine rA [12] ?_
     refine rZ 12 rfl (yT 1 3 (aD b1) 26 (gM_ r_5 B4 c5) (kM_ r_5 B4 c5) 0 hS13 K6) ?_ ?_
     ·rintro _ w_8 ⟨rfl, hS14⟩
      refine ⟨(hS14.se [0]), ?_⟩
      refine rq 13 3 (v := .bool r_6) rfl (hS14.se [0]) (fun w' hw' => (yg (.bool r_6))) ?_
      refine ra_done (by kernel_rfl) ?_
      refine ct_ ?_
      obtain ⟨rfl, rfl⟩ := pr2 (sI hF2)
      exact ret2 Tryz.results17 (v1 := gM_ r_5 B4 c5) (resAt_cellA (B := aD b1) (i := 0) (cs := kM_ r_5 B4 c5) (vs := kM_ r_5 B4 c5) rfl K13 K6 (hS14.c 1) rfl rfl) (v2 := .bool r_6) (resAt_tmp rfl) ⟨B4, c5, rfl, (hS14.sN [3])⟩
     exact aN
    exact aN
   exact aN
  exact aN

theorem c_spec_l1Cur_gate (c : Tl1Cur) (n1 : Int) (kinds : List Int) (B : Option Addr) (B1 : Option Addr) (c1 n : Nat) (B2 : Option Addr) (c2 n2 : Nat) (w0 : World) (hn : c.code.length = n) (hn1 : kinds.length = n2) (hS : ST w0 (bl [⟨B, 73, [.slice B1 n c1, vi c.at_, .int .u64 c.seed], 3⟩]) w0 [⟨B, 73, [.slice B1 n c1, vi c.at_, .int .u64 c.seed], 3⟩] [⟨B1, (c.code.flatMap enc_u8)⟩, ⟨B2, (kinds.flatMap encI)⟩]) {r_ : TGate} {m : Tl1Cur} (hF : F_spec_l1Cur_gate c n1 kinds = some (r_, m)) :
  CV Tryz.prog 147 #[pt B 0, vi n1, .slice B2 n2 c2] w0 (fun v w' => v = .agg #[vi r_.Kind, vi r_.A, vi r_.B] ∧ ST w0 (bl [⟨B, 73, [.slice B1 n c1, vi c.at_, .int .u64 c.seed], 3⟩]) w' [⟨B, 73, [.slice B1 n c1, vi m.at_, .int .u64 m.seed], 3⟩] []) := by
 subst hn
 subst hn1
 unfold F_spec_l1Cur_gate at hF
 refine cv_of_cw 42 Tryz.func147 rfl Tryz.ntmps147 rfl ?_
 refine cq (cr ?_)
 refine sS 6 (yN [vi 0, vi 0, vi 0] 3 hS K45) ?_
 rintro _ w_ ⟨b, rfl, hS1⟩
 refine rn (cq (cr ?_))
 refine sQ 8 (ym (.slice B2 kinds.length c2)) <| sQ 9 (ym (pt B 0)) <| sQ 10 (ym (.slice B2 kinds.length c2)) <| sQ 11 (Y_len (B := B2) (m := kinds.length) (c := c2) K53 rfl rfl) ?_
 obtain ⟨⟨r_1, m1⟩, hc, hF⟩ := bI hF
 refine sc 12 rfl rfl (yC [pt B 0, vi (kinds.length : Int)] K50 (c_spec_l1Cur_pick c (kinds.length : Int) B B1 c1 c.code.length _ rfl (hS1.inn [true, false] rfl [(true, 0)] rfl) hc)) ?_
 rintro _ w_1 ⟨rfl, hd⟩
 have hS2 := hS1.out [true, false] rfl hd
 obtain ⟨x, hx, hF⟩ := bI hF
 refine sQ 13 (Y_index (B := B2) (m := kinds.length) (c := c2) (k := .i64) (i := r_1) K53 K2 rfl rfl rfl (gi_isSome encI_len rfl (hS2.rf (i := 1) rfl) hx) (getI_nn hx) (getI_ltI hx rfl)) <| sQ 14 (yl B2 (r_1.toNat * 1) (kinds.flatMap encI) (vi x) K1 (hS2.rf (i := 1) rfl) rfl rfl (gi_at0 encI_len hx rfl)) <| sQ 15 (Y_buildS (zs := [vi 0, vi 0, vi 0]) (vs := [(0, vi x)]) (cs := [vi x, vi 0, vi 0]) K81 K45 rfl (mpc rfl mpn) rfl) ?_
 refine sS 7 (yN [vi 0, vi 0, vi 0] 3 hS2 K45) ?_
 rintro _ w_2 ⟨b1, rfl, hS3⟩
 refine s0 (yT 2 3 (aD b1) 45 (.agg #[vi x, vi 0, vi 0]) [vi x, vi 0, vi 0] 0 hS3 K28) ?_
 rintro _ w_3 ⟨rfl, hS4⟩
 refine rn (cq (cq (cr ?_)))
 refine sQ 16 (yd (aD b1) 0 0 K44 K2) <| sQ 17 (yl (aD b1) 0 [vi x, vi 0, vi 0] (vi x) K1 (hS4.c 2)) <| sQ 18 (yE x 12) (rn ?_)
 refine cw_cond (b := (x == 12)) rfl (fun hb => ?_) (fun hb => ?_)
 ·skip
  have hF1 := ct hF hb
  refine cq (cr ?_)
  refine sQ 19 (yb (aD b1) 0 [vi x, vi 0, vi 0] K52 K28 (hS4.c 2)) ?_
  refine s0 (yT 0 3 (aD b) 45 (.agg #[vi x, vi 0, vi 0]) [vi x, vi 0, vi 0] 0 hS4 K28) ?_
  rintro _ w_4 ⟨rfl, hS5⟩
  refine rn (ct_ ?_)
  obtain ⟨rfl, rfl⟩ := pr2 (sI hF1)
  exact ret1 Tryz.results147 (v1 := .agg #[vi x, vi 0, vi 0]) (resAt_cellA (B := aD b) (i := 0) (cs := [vi x, vi 0, vi 0]) (vs := [vi x, vi 0, vi 0]) rfl K52 K28 (hS5.c 0) rfl rfl) ⟨rfl, (hS5.sN [1])⟩
 ·skip
  have hF2 := cf' hF hb
  refine cw_skip (cq (cr ?_))
  refine sQ 20 (ym (pt B 0)) <| sQ 21 (ym (vi n1)) ?_
  obtain ⟨⟨r_2, m2⟩, hc1, hF2⟩ := bI hF2
  refine sc 22 rfl rfl (yC [pt B 0, vi n1] K50 (c_spec_l1Cur_pick (Tl1Cur.mk c.code m1.at_ m1.seed) n1 B B1 c1 c.code.length _ rfl (hS4.inn [false, true, false] rfl [(true, 0)] rfl) hc1)) ?_
  rintro _ w_5 ⟨rfl, hd1⟩
  have hS6 := hS4.out [false, true, false] rfl hd1
  refine sQ 23 (yd (aD b1) 0 0 K37 K2) ?_
  refine s0 (yS 1 1 (aD b1) 45 (vi r_2) [vi r_2] 1 [vi x, vi r_2, vi 0] hS6 K2) ?_
  rintro _ w_6 ⟨rfl, hS7⟩
  refine rn (cq ?_)
  obtain ⟨z, hz, hF3⟩ := bI hF2
  refine cw_mid (fun f w => ∃ (at_ : Int) (seed : Int) (B3 : Int), .inl (at_, seed, B3) = z ∧ FF f [(6, pt (aD b) 0), (7, pt (aD b1) 0)] ∧ ST w0 (bl [⟨B, 73, [.slice B1 c.code.length c1, vi c.at_, .int .u64 c.seed], 3⟩]) w [⟨B, 73, [.slice B1 c.code.length c1, vi at_, .int .u64 seed], 3⟩, ⟨aD b, 45, [vi 0, vi 0, vi 0], 3⟩, ⟨aD b1, 45, [vi x, vi r_2, vi B3], 3⟩] [⟨B1, (c.code.flatMap enc_u8)⟩, ⟨B2, (kinds.flatMap encI)⟩]) ?_ ?_
  ·skip
   refine cq (cr ?_)
   refine sQ 24 (yd (aD b1) 0 0 K44 K2) <| sQ 25 (yl (aD b1) 0 [vi x, vi r_2, vi 0] (vi x) K1 (hS7.c 1)) ?_
   obtain ⟨r_3, hc2, hz⟩ := bI hz
   refine sc 26 rfl rfl (yC [vi x, vi 9, vi 11] K61 (c_spec_l1In x 9 11 _  (hS7.inn0 [] rfl) hc2)) ?_
   rintro _ w_7 ⟨rfl, hd2⟩
   have hS9 := hS7.out00 hd2
   refine rn ?_
   refine cw_cond (b := r_3) rfl (fun hb1 => ?_) (fun hb1 => ?_)
   ·skip
    have hF4 := ct hz hb1
    refine cq (cq (cr ?_))
    refine sQ 27 (ym (vi n1)) <| sQ 28 (yE n1 1) (rn ?_)
    refine cw_cond (b := (n1 == 1)) rfl (fun hb2 => ?_) (fun hb2 => ?_)
    ·skip
     have hF5 := ct hF4 hb2
     refine cq (cr ?_)
     refine sQ 29 (Y_buildS (zs := [vi 0, vi 0, vi 0]) (vs := [(0, vi 1)]) (cs := [vi 1, vi 0, vi 0]) K81 K45 rfl (mpc rfl mpn) rfl) ?_
     refine s0 (yT 0 3 (aD b) 45 (.agg #[vi 1, vi 0, vi 0]) [vi 1, vi 0, vi 0] 0 hS9 K28) ?_
     rintro _ w_8 ⟨rfl, hS10⟩
     refine rn (ct_ ?_)
     obtain rfl := sI hF5
     obtain ⟨rfl, rfl⟩ := pr2 (sI hF3)
     exact ret1 Tryz.results147 (v1 := .agg #[vi 1, vi 0, vi 0]) (resAt_cellA (B := aD b) (i := 0) (cs := [vi 1, vi 0, vi 0]) (vs := [vi 1, vi 0, vi 0]) rfl K52 K28 (hS10.c 0) rfl rfl) ⟨rfl, (hS10.sN [2])⟩
    ·skip
     have hF6 := cf' hF4 hb2
     refine cw_skip ?_
     obtain ⟨⟨r_4, m3⟩, hc3, hF6⟩ := bI hF6
     obtain ⟨hne, hF6⟩ := chk_inv hF6
     refine cw_mid (fun f w => FF f [(6, pt (aD b) 0), (7, pt (aD b1) 0)] ∧ ST w0 (bl [⟨B, 73, [.slice B1 c.code.length c1, vi c.at_, .int .u64 c.seed], 3⟩]) w [⟨B, 73, [.slice B1 c.code.length c1, vi m3.at_, .int .u64 m3.seed], 3⟩, ⟨aD b, 45, [vi 0, vi 0, vi 0], 3⟩, ⟨aD b1, 45, [vi x, vi r_2, vi (Int.tmod (i64.wrap ((i64.wrap (r_2 + 1)) + r_4)) n1)], 3⟩] [⟨B1, (c.code.flatMap enc_u8)⟩, ⟨B2, (kinds.flatMap encI)⟩]) ?_ ?_
     ·skip
      refine ra_start (hS9.se [0]).fn (by kernel_rfl) ?_
      have hS13 := hS9.drew
      refine rq 0 30 (v := pt (aD b1) 1) rfl (hS13.se [0]) (fun w' hw' => (yd (aD b1) 0 0 K37 K2)) ?_
      refine rq 3 33 (v := pt B 0) rfl (hS13.se [0]) (fun w' hw' => (ym (pt B 0))) ?_
      refine rq 4 34 (v := vi n1) rfl (hS13.se [0]) (fun w' hw' => (ym (vi n1))) ?_
      refine rq 5 35 (v := vi (i64.wrap (n1 - 1))) rfl (hS13.se [0]) (fun w' hw' => (yM n1 1)) ?_
      refine rq 8 38 (v := vi n1) rfl (hS13.se [0]) (fun w' hw' => (ym (vi n1))) ?_
      refine rA [1, 6] ?_
      refine ra_y 31 (i := 1) (v := vi r_2) rfl rfl rfl (yl (aD b1) 1 [vi x, vi r_2, vi 0] (vi r_2) K1 (hS13.c 1)) (hS13.se [0]) ?_ ?_
      ·skip
       refine rq 2 32 (v := vi (i64.wrap (r_2 + 1))) rfl (hS13.se [0]) (fun w' hw' => (yP r_2 1)) ?_
       refine rA [6] ?_
       refine rC 36 6 rfl (yC [pt B 0, vi (i64.wrap (n1 - 1))] K50 (c_spec_l1Cur_pick (Tl1Cur.mk c.code m2.at_ m2.seed) (i64.wrap (n1 - 1)) B B1 c1 c.code.length _ rfl (hS13.inn [false, false, true] rfl [(true, 0)] rfl) hc3)) ?_ ?_
       ·rintro _ w_9 ⟨rfl, hd3⟩
        have hS14 := hS13.out [false, false, true] rfl hd3
        refine ⟨(hS14.se [0]), ?_⟩
        refine rq 7 37 (v := vi (i64.wrap ((i64.wrap (r_2 + 1)) + r_4))) rfl (hS14.se [0]) (fun w' hw' => (yP (i64.wrap (r_2 + 1)) r_4)) ?_
        refine rq 9 39 (v := vi (Int.tmod (i64.wrap ((i64.wrap (r_2 + 1)) + r_4)) n1)) rfl (hS14.se [0]) (fun w' hw' => (Y_rem (k := .i64) (a := (i64.wrap ((i64.wrap (r_2 + 1)) + r_4))) (b := n1) rfl rfl rfl hne)) ?_
        refine rq 10 40 (v := pt (aD b1) 2) rfl (hS14.se [0]) (fun w' hw' => (yd (aD b1) 0 0 K42 K2)) ?_
        refine rA [11] ?_
        refine rZ 11 rfl (yS 1 1 (aD b1) 45 (vi (Int.tmod (i64.wrap ((i64.wrap (r_2 + 1)) + r_4)) n1)) [vi (Int.tmod (i64.wrap ((i64.wrap (r_2 + 1)) + r_4)) n1)] 2 [vi x, vi r_2, vi (Int.tmod (i64.wrap ((i64.wrap (r_2 + 1)) + r_4)) n1)] hS14 K2) ?_ ?_
        ·rintro _ w_10 ⟨rfl, hS15⟩
         refine ⟨(hS15.se [0]), ?_⟩
         refine ra_done (by kernel_rfl) ?_
         exact ⟨(fc rfl (fc rfl fn_)), (hS15.sel [2, 0, 1] rfl rfl)⟩
        exact aN
       exact aN
      refine rC 36 6 rfl (yC [pt B 0, vi (i64.wrap (n1 - 1))] K50 (c_spec_l1Cur_pick (Tl1Cur.mk c.code m2.at_ m2.seed) (i64.wrap (n1 - 1)) B B1 c1 c.code.length _ rfl (hS13.inn [false, false, true] rfl [(true, 0)] rfl) hc3)) ?_ ?_
      ·rintro _ w_11 ⟨rfl, hd4⟩
       have hS16 := hS13.out [false, false, true] rfl hd4
       refine ⟨(hS16.se [0]), ?_⟩
       refine rA [1] ?_
       refine ra_y 31 (i := 1) (v := vi r_2) rfl rfl rfl (yl (aD b1) 1 [vi x, vi r_2, vi 0] (vi r_2) K1 (hS16.c 1)) (hS16.se [0]) ?_ ?_
       ·skip
        refine rq 2 32 (v := vi (i64.wrap (r_2 + 1))) rfl (hS16.se [0]) (fun w' hw' => (yP r_2 1)) ?_
        refine rq 7 37 (v := vi (i64.wrap ((i64.wrap (r_2 + 1)) + r_4))) rfl (hS16.se [0]) (fun w' hw' => (yP (i64.wrap (r_2 + 1)) r_4)) ?_
        refine rq 9 39 (v := vi (Int.tmod (i64.wrap ((i64.wrap (r_2 + 1)) + r_4)) n1)) rfl (hS16.se [0]) (fun w' hw' => (Y_rem (k := .i64) (a := (i64.wrap ((i64.wrap (r_2 + 1)) + r_4))) (b := n1) rfl rfl rfl hne)) ?_
        refine rq 10 40 (v := pt (aD b1) 2) rfl (hS16.se [0]) (fun w' hw' => (yd (aD b1) 0 0 K42 K2)) ?_
        refine rA [11] ?_
        refine rZ 11 rfl (yS 1 1 (aD b1) 45 (vi (Int.tmod (i64.wrap ((i64.wrap (r_2 + 1)) + r_4)) n1)) [vi (Int.tmod (i64.wrap ((i64.wrap (r_2 + 1)) + r_4)) n1)] 2 [vi x, vi r_2, vi (Int.tmod (i64.wrap ((i64.wrap (r_2 + 1)) + r_4)) n1)] hS16 K2) ?_ ?_
        ·rintro _ w_12 ⟨rfl, hS17⟩
         refine ⟨(hS17.se [0]), ?_⟩
         refine ra_done (by kernel_rfl) ?_
         exact ⟨(fc rfl (fc rfl fn_)), (hS17.sel [2, 0, 1] rfl rfl)⟩
        exact aN
       exact aN
      exact aN
     rintro f w ⟨hf1, hS12⟩
     exact ⟨m3.at_, m3.seed, (Int.tmod (i64.wrap ((i64.wrap (r_2 + 1)) + r_4)) n1), (sI hF6), (fc (hf1.g 6 0) (fc (hf1.g 7 1) fn_)), (hS12.sel [0, 1, 2] rfl rfl)⟩
   ·skip
    have hF7 := cf' hz hb1
    refine cw_skip ?_
    exact ⟨m2.at_, m2.seed, 0, (sI hF7), (fc rfl (fc rfl fn_)), (hS9.sel [2, 0, 1] rfl rfl)⟩
  rintro f w ⟨at_, seed, B3, rfl, hf, hS8⟩
  refine cq (cr ?_)
  refine sQ 41 (yb (aD b1) 0 [vi x, vi r_2, vi B3] K52 K28 (hS8.c 2) rfl (hf.g 7 1)) ?_
  refine s0 (yT 1 3 (aD b) 45 (.agg #[vi x, vi r_2, vi B3]) [vi x, vi r_2, vi B3] 0 hS8 K28 rfl (hf.g 6 0)) ?_
  rintro _ w_13 ⟨rfl, hS18⟩
  refine rn (ct_ ?_)
  obtain ⟨rfl, rfl⟩ := pr2 (sI hF3)
  exact ret1 Tryz.results147 (v1 := .agg #[vi x, vi r_2, vi B3]) (resAt_cellA (B := aD b) (i := 0) (cs := [vi x, vi r_2, vi B3]) (vs := [vi x, vi r_2, vi B3]) (hf.g 6 0) K52 K28 (hS18.c 1) rfl rfl) ⟨rfl, (hS18.sN [0])⟩

theorem c_spec_l1Cur_built (c : Tl1Cur) (n1 : Int) (most : Int) (kinds : List Int) (B : Option Addr) (B1 : Option Addr) (c1 n : Nat) (B2 : Option Addr) (c2 n2 : Nat) (w0 : World) (hn : c.code.length = n) (hn1 : kinds.length = n2) (hS : ST w0 (bl [⟨B, 73, [.slice B1 n c1, vi c.at_, .int .u64 c.seed], 3⟩]) w0 [⟨B, 73, [.slice B1 n c1, vi c.at_, .int .u64 c.seed], 3⟩] [⟨B1, (c.code.flatMap enc_u8)⟩, ⟨B2, (kinds.flatMap encI)⟩]) {r_ : TCircuit} {m : Tl1Cur} (hF : F_spec_l1Cur_built c n1 most kinds = some (r_, m)) :
  CV Tryz.prog 132 #[pt B 0, vi n1, vi most, .slice B2 n2 c2] w0 (fun v w' => ∃ (B3 : Option Addr) (c3 : Nat), v = .agg #[vi r_.Qubits, .slice B3 r_.Gates.length c3] ∧ ST w0 (bl [⟨B, 73, [.slice B1 n c1, vi c.at_, .int .u64 c.seed], 3⟩]) w' [⟨B, 73, [.slice B1 n c1, vi m.at_, .int .u64 m.seed], 3⟩, ⟨B3, 45, (r_.Gates.flatMap enc_Gate), c3 * 3⟩] []) := by
 subst hn
 subst hn1
 unfold F_spec_l1Cur_built at hF
 refine cv_of_cw 31 Tryz.func132 rfl Tryz.ntmps132 rfl ?_
 refine cq (cr ?_)
 refine sS 8 (yN [vi 0, .slice none 0 0] 2 hS K87) ?_
 rintro _ w_ ⟨b, rfl, hS1⟩
 refine rn (cq (cr ?_))
 refine sQ 11 (ym (vi n1)) <| sQ 12 (Y_buildS (zs := [vi 0, .slice none 0 0]) (vs := [(0, vi n1)]) (cs := [vi n1, .slice none 0 0]) K132 K87 rfl (mpc rfl mpn) rfl) ?_
 refine sS 9 (yN [vi 0, .slice none 0 0] 2 hS1 K87) ?_
 rintro _ w_1 ⟨b1, rfl, hS2⟩
 refine s0 (yT 2 2 (aD b1) 43 (.agg #[vi n1, .slice none 0 0]) [vi n1, .slice none 0 0] 0 hS2 K59) ?_
 rintro _ w_2 ⟨rfl, hS3⟩
 refine rn (cq (cq (cr ?_)))
 refine sQ 13 (ym (pt B 0)) <| sQ 14 (ym (vi most)) <| sQ 15 (yP most 1) ?_
 obtain ⟨⟨r_1, m1⟩, hc, hF⟩ := bI hF
 refine sc 16 rfl rfl (yC [pt B 0, vi (i64.wrap (most + 1))] K50 (c_spec_l1Cur_pick c (i64.wrap (most + 1)) B B1 c1 c.code.length _ rfl (hS3.inn [true, false, false] rfl [(true, 0)] rfl) hc)) ?_
 rintro _ w_3 ⟨rfl, hd⟩
 have hS4 := hS3.out [true, false, false] rfl hd
 refine sQ 10 (yg (vi r_1)) (rn ?_)
 obtain ⟨z, hz, hF1⟩ := bI hF
 have hS6 := hS4.addNil 45
 refine cw_block ?_
 refine cw_loop (fun k f w => ∃ (at_ : Int) (seed : Int) (Gates : List TGate) (k_ : Int) (B4 : Option Addr) (c4 : Nat), FF f [(0, pt B 0), (1, vi n1), (3, .slice B2 kinds.length c2), (8, pt (aD b) 0), (9, pt (aD b1) 0), (10, vi k_)] ∧ ST w0 (bl [⟨B, 73, [.slice B1 c.code.length c1, vi c.at_, .int .u64 c.seed], 3⟩]) w [⟨B, 73, [.slice B1 c.code.length c1, vi at_, .int .u64 seed], 3⟩, ⟨aD b, 43, [vi 0, .slice none 0 0], 2⟩, ⟨aD b1, 43, [vi n1, .slice B4 Gates.length c4], 2⟩, ⟨B4, 45, (Gates.flatMap enc_Gate), c4 * 3⟩] [⟨B1, (c.code.flatMap enc_u8)⟩, ⟨B2, (kinds.flatMap encI)⟩] ∧ whX (F_spec_l1Cur_built_l1 c n1 kinds) k (at_, seed, Gates, k_) = some z) fuel ⟨m1.at_, m1.seed, [], r_1, none, 0, (fc rfl (fc rfl (fc rfl (fc rfl (fc rfl (fc rfl fn_)))))), (hS6.sel [2, 0, 1, 3] rfl rfl), hz⟩ ?_
 rintro K9 f w ⟨at_, seed, Gates, k_, B4, c4, hf, hS5, hL⟩
 obtain ⟨K15, y, rfl, hb, hL1⟩ := whX_go hL
 unfold F_spec_l1Cur_built_l1 at hb
 refine cq (cq (cr ?_))
 refine sQ 17 (ym (vi k_) rfl (hf.g 10 5)) <| sQ 18 (Y_gt (k := .i64) (a := k_) (b := 0) rfl rfl rfl) (rn ?_)
 refine cw_cond (b := (decide (0 < k_))) rfl (fun hb1 => ?_) (fun hb1 => ?_)
 ·skip
  have hF2 := ct hb hb1
  refine cw_skip (cq (cw_block ?_))
  obtain ⟨⟨r_2, m2⟩, hc1, hF2⟩ := bI hF2
  obtain ⟨hap, hF2⟩ := chk_inv hF2
  refine cw_mid (fun f w => ∃ (B6 : Option Addr) (c6 : Nat), FF f [(0, pt B 0), (1, vi n1), (3, .slice B2 kinds.length c2), (8, pt (aD b) 0), (9, pt (aD b1) 0), (10, vi k_)] ∧ ST w0 (bl [⟨B, 73, [.slice B1 c.code.length c1, vi c.at_, .int .u64 c.seed], 3⟩]) w [⟨B, 73, [.slice B1 c.code.length c1, vi m2.at_, .int .u64 m2.seed], 3⟩, ⟨aD b, 43, [vi 0, .slice none 0 0], 2⟩, ⟨aD b1, 43, [vi n1, .slice B6 ((Gates ++ [r_2]).length) c6], 2⟩, ⟨B6, 45, ((Gates ++ [r_2]).flatMap enc_Gate), c6 * 3⟩] [⟨B1, (c.code.flatMap enc_u8)⟩, ⟨B2, (kinds.flatMap encI)⟩]) ?_ ?_
  ·skip
   refine ra_start (hS5.se [1]).fn (by kernel_rfl) ?_
   have hS9 := hS5.drew
   refine rq 0 21 (v := pt (aD b1) 1) rfl (hS9.se [1]) (fun w' hw' => (yd (aD b1) 0 0 K58 K46 rfl (hf.g 9 4))) ?_
   refine rq 2 23 (v := pt B 0) rfl (hS9.se [1]) (fun w' hw' => (ym (pt B 0) rfl (hf.g 0 0))) ?_
   refine rq 3 24 (v := vi n1) rfl (hS9.se [1]) (fun w' hw' => (ym (vi n1) rfl (hf.g 1 1))) ?_
   refine rq 4 25 (v := .slice B2 kinds.length c2) rfl (hS9.se [1]) (fun w' hw' => (ym (.slice B2 kinds.length c2) rfl (hf.g 3 2))) ?_
   refine rA [1, 5] ?_
   refine ra_y 22 (i := 1) (v := .slice B4 Gates.length c4) rfl rfl rfl (yl (aD b1) 1 [vi n1, .slice B4 Gates.length c4] (.slice B4 Gates.length c4) K70 (hS9.c 2)) (hS9.se [1]) ?_ ?_
   ·skip
    refine rA [5] ?_
    refine rC 26 5 rfl (yC [pt B 0, vi n1, .slice B2 kinds.length c2] k_call_147 (c_spec_l1Cur_gate (Tl1Cur.mk c.code at_ seed) n1 kinds B B1 c1 c.code.length B2 c2 kinds.length _ rfl rfl (hS9.inn [true, false, false, false] rfl [(true, 0), (true, 1)] rfl) hc1)) ?_ ?_
    ·rintro _ w_4 ⟨rfl, hd1⟩
     have hS10 := hS9.out [true, false, false, false] rfl hd1
     refine ⟨(hS10.se [0]), ?_⟩
     refine rA [6] ?_
     refine rS 27 6 rfl (Ys_bslice (s := 3) (len := 1) (vs := [(0, .agg #[vi r_2.Kind, vi r_2.A, vi r_2.B])]) (cs := [vi r_2.Kind, vi r_2.A, vi r_2.B]) (zs := [vi 0, vi 0, vi 0]) (m := 3) hS10 K47 K28 K106 rfl (mpc rfl mpn) rfl rfl rfl (by kernel_rfl) (by kernel_rfl) rfl) ?_ ?_
     ·rintro _ w_5 ⟨b2, rfl, hS11⟩
      refine ⟨(hS11.se [0]), ?_⟩
      refine rA [7] ?_
      refine rS 28 7 rfl (Ys_append (s := 3) (by' := 24) (i := 2) (nn := Gates.length) (c := c4) (k := 1) (len := (Gates ++ [r_2]).length) (B := B4) (xs := ([r_2].flatMap enc_Gate)) (cs' := ((Gates ++ [r_2]).flatMap enc_Gate)) hS11 K47 K28 K107 K45 rfl (by decide) rfl rfl rfl rfl (fm_lenn (l := Gates) enc_Gate_len rfl) rfl (hS11.c 4) (fm_lenn (l := [r_2]) enc_Gate_len rfl) (fm_one' (enc := enc_Gate) enc_Gate_one [r_2]) (by have := hap; omega) (by have := hap; simp only [maxLen]; omega) (fm_app _ _) (app_len (l := Gates) (l' := [r_2]) rfl rfl)) ?_ ?_
      ·rintro _ w_6 ⟨B5, c5, rfl, hS12⟩
       refine ⟨(hS12.se [0]), ?_⟩
       refine rq 8 29 (v := pt (aD b1) 1) rfl (hS12.se [0]) (fun w' hw' => (yd (aD b1) 0 0 K58 K46 rfl (hf.g 9 4))) ?_
       refine rA [9] ?_
       refine rZ 9 rfl (yS 1 1 (aD b1) 43 (.slice B5 ((Gates ++ [r_2]).length) c5) [.slice B5 ((Gates ++ [r_2]).length) c5] 1 [vi n1, .slice B5 ((Gates ++ [r_2]).length) c5] hS12 K46) ?_ ?_
       ·rintro _ w_7 ⟨rfl, hS13⟩
        refine ⟨(hS13.se [0]), ?_⟩
        refine ra_done (by kernel_rfl) ?_
        exact ⟨B5, c5, (fc (hf.g 0 0) (fc (hf.g 1 1) (fc (hf.g 3 2) (fc (hf.g 8 3) (fc (hf.g 9 4) (fc (hf.g 10 5) fn_)))))), (hS13.sel [3, 0, 1, 2] rfl rfl)⟩
       exact aN
      exact aN
     exact aN
    exact aN
   refine rC 26 5 rfl (yC [pt B 0, vi n1, .slice B2 kinds.length c2] k_call_147 (c_spec_l1Cur_gate (Tl1Cur.mk c.code at_ seed) n1 kinds B B1 c1 c.code.length B2 c2 kinds.length _ rfl rfl (hS9.inn [true, false, false, false] rfl [(true, 0), (true, 1)] rfl) hc1)) ?_ ?_
   ·rintro _ w_8 ⟨rfl, hd2⟩
    have hS14 := hS9.out [true, false, false, false] rfl hd2
    refine ⟨(hS14.se [0]), ?_⟩
    refine rA [1, 6] ?_
    refine ra_y 22 (i := 1) (v := .slice B4 Gates.length c4) rfl rfl rfl (yl (aD b1) 1 [vi n1, .slice B4 Gates.length c4] (.slice B4 Gates.length c4) K70 (hS14.c 1)) (hS14.se [0]) ?_ ?_
    ·skip
     refine rA [6] ?_
     refine rS 27 6 rfl (Ys_bslice (s := 3) (len := 1) (vs := [(0, .agg #[vi r_2.Kind, vi r_2.A, vi r_2.B])]) (cs := [vi r_2.Kind, vi r_2.A, vi r_2.B]) (zs := [vi 0, vi 0, vi 0]) (m := 3) hS14 K47 K28 K106 rfl (mpc rfl mpn) rfl rfl rfl (by kernel_rfl) (by kernel_rfl) rfl) ?_ ?_
     ·rintro _ w_9 ⟨b2, rfl, hS15⟩
      refine ⟨(hS15.se [0]), ?_⟩
      refine rA [7] ?_
      refine rS 28 7 rfl (Ys_append (s := 3) (by' := 24) (i := 2) (nn := Gates.length) (c := c4) (k := 1) (len := (Gates ++ [r_2]).length) (B := B4) (xs := ([r_2].flatMap enc_Gate)) (cs' := ((Gates ++ [r_2]).flatMap enc_Gate)) hS15 K47 K28 K107 K45 rfl (by decide) rfl rfl rfl rfl (fm_lenn (l := Gates) enc_Gate_len rfl) rfl (hS15.c 4) (fm_lenn (l := [r_2]) enc_Gate_len rfl) (fm_one' (enc := enc_Gate) enc_Gate_one [r_2]) (by have := hap; omega) (by have := hap; simp only [maxLen]; omega) (fm_app _ _) (app_len (l := Gates) (l' := [r_2]) rfl rfl)) ?_ ?_
      ·rintro _ w_10 ⟨B5, c5, rfl, hS16⟩
       refine ⟨(hS16.se [0]), ?_⟩
       refine rq 8 29 (v := pt (aD b1) 1) rfl (hS16.se [0]) (fun w' hw' => (yd (aD b1) 0 0 K58 K46 rfl (hf.g 9 4))) ?_
       refine rA [9] ?_
       refine rZ 9 rfl (yS 1 1 (aD b1) 43 (.slice B5 ((Gates ++ [r_2]).length) c5) [.slice B5 ((Gates ++ [r_2]).length) c5] 1 [vi n1, .slice B5 ((Gates ++ [r_2]).length) c5] hS16 K46) ?_ ?_
       ·rintro _ w_11 ⟨rfl, hS17⟩
        refine ⟨(hS17.se [0]), ?_⟩
        refine ra_done (by kernel_rfl) ?_
        exact ⟨B5, c5, (fc (hf.g 0 0) (fc (hf.g 1 1) (fc (hf.g 3 2) (fc (hf.g 8 3) (fc (hf.g 9 4) (fc (hf.g 10 5) fn_)))))), (hS17.sel [3, 0, 1, 2] rfl rfl)⟩
       exact aN
      exact aN
     exact aN
    refine rS 27 6 rfl (Ys_bslice (s := 3) (len := 1) (vs := [(0, .agg #[vi r_2.Kind, vi r_2.A, vi r_2.B])]) (cs := [vi r_2.Kind, vi r_2.A, vi r_2.B]) (zs := [vi 0, vi 0, vi 0]) (m := 3) hS14 K47 K28 K106 rfl (mpc rfl mpn) rfl rfl rfl (by kernel_rfl) (by kernel_rfl) rfl) ?_ ?_
    ·rintro _ w_12 ⟨b2, rfl, hS18⟩
     refine ⟨(hS18.se [0]), ?_⟩
     refine rA [1] ?_
     refine ra_y 22 (i := 1) (v := .slice B4 Gates.length c4) rfl rfl rfl (yl (aD b1) 1 [vi n1, .slice B4 Gates.length c4] (.slice B4 Gates.length c4) K70 (hS18.c 1)) (hS18.se [0]) ?_ ?_
     ·skip
      refine rA [7] ?_
      refine rS 28 7 rfl (Ys_append (s := 3) (by' := 24) (i := 2) (nn := Gates.length) (c := c4) (k := 1) (len := (Gates ++ [r_2]).length) (B := B4) (xs := ([r_2].flatMap enc_Gate)) (cs' := ((Gates ++ [r_2]).flatMap enc_Gate)) hS18 K47 K28 K107 K45 rfl (by decide) rfl rfl rfl rfl (fm_lenn (l := Gates) enc_Gate_len rfl) rfl (hS18.c 4) (fm_lenn (l := [r_2]) enc_Gate_len rfl) (fm_one' (enc := enc_Gate) enc_Gate_one [r_2]) (by have := hap; omega) (by have := hap; simp only [maxLen]; omega) (fm_app _ _) (app_len (l := Gates) (l' := [r_2]) rfl rfl)) ?_ ?_
      ·rintro _ w_13 ⟨B5, c5, rfl, hS19⟩
       refine ⟨(hS19.se [0]), ?_⟩
       refine rq 8 29 (v := pt (aD b1) 1) rfl (hS19.se [0]) (fun w' hw' => (yd (aD b1) 0 0 K58 K46 rfl (hf.g 9 4))) ?_
       refine rA [9] ?_
       refine rZ 9 rfl (yS 1 1 (aD b1) 43 (.slice B5 ((Gates ++ [r_2]).length) c5) [.slice B5 ((Gates ++ [r_2]).length) c5] 1 [vi n1, .slice B5 ((Gates ++ [r_2]).length) c5] hS19 K46) ?_ ?_
       ·rintro _ w_14 ⟨rfl, hS20⟩
        refine ⟨(hS20.se [0]), ?_⟩
        refine ra_done (by kernel_rfl) ?_
        exact ⟨B5, c5, (fc (hf.g 0 0) (fc (hf.g 1 1) (fc (hf.g 3 2) (fc (hf.g 8 3) (fc (hf.g 9 4) (fc (hf.g 10 5) fn_)))))), (hS20.sel [3, 0, 1, 2] rfl rfl)⟩
       exact aN
      exact aN
     exact aN
    exact aN
   exact aN
  rintro f w ⟨B6, c6, hf1, hS8⟩
  refine cr ?_
  refine sQ 19 (ym (vi k_) rfl (hf1.g 10 5)) <| sQ 20 (yM k_ 1) <| sQ 10 (yg (vi (i64.wrap (k_ - 1)))) (rn ?_)
  obtain rfl := sI hF2
  exact ⟨K15, Nat.lt_succ_self _, m2.at_, m2.seed, (Gates ++ [r_2]), (i64.wrap (k_ - 1)), B6, c6, (fc (hf1.g 0 0) (fc (hf1.g 1 1) (fc (hf1.g 3 2) (fc (hf1.g 8 3) (fc (hf1.g 9 4) (fc rfl fn_)))))), (hS8.sel [0, 1, 2, 3] rfl rfl), hL1⟩
 ·skip
  have hF3 := cf' hb hb1
  refine cw_exit rfl ?_
  obtain rfl := sI hF3
  obtain rfl := sI hL1
  refine cq (cr ?_)
  refine sQ 30 (yb (aD b1) 0 [vi n1, .slice B4 Gates.length c4] K86 K59 (hS5.c 2) rfl (hf.g 9 4)) ?_
  refine s0 (yT 1 2 (aD b) 43 (.agg #[vi n1, .slice B4 Gates.length c4]) [vi n1, .slice B4 Gates.length c4] 0 hS5 K59 rfl (hf.g 8 3)) ?_
  rintro _ w_15 ⟨rfl, hS21⟩
  refine rn (ct_ ?_)
  obtain ⟨rfl, rfl⟩ := pr2 (sI hF1)
  exact ret1 Tryz.results132 (v1 := .agg #[vi n1, .slice B4 Gates.length c4]) (resAt_cellA (B := aD b) (i := 0) (cs := [vi n1, .slice B4 Gates.length c4]) (vs := [vi n1, .slice B4 Gates.length c4]) (hf.g 8 3) K86 K59 (hS21.c 1) rfl rfl) ⟨B4, c4, rfl, (hS21.sN [0, 3])⟩

theorem c_spec_l1Cur_oneQubit (c : Tl1Cur) (B : Option Addr) (B1 : Option Addr) (c1 n : Nat) (w0 : World) (hn : c.code.length = n) (hS : ST w0 (bl [⟨B, 73, [.slice B1 n c1, vi c.at_, .int .u64 c.seed], 3⟩]) w0 [⟨B, 73, [.slice B1 n c1, vi c.at_, .int .u64 c.seed], 3⟩] [⟨B1, (c.code.flatMap enc_u8)⟩]) {r_ : TMatrix} {m : Tl1Cur} (hF : F_spec_l1Cur_oneQubit c = some (r_, m)) :
  CV Tryz.prog 89 #[pt B 0] w0 (fun v w' => ∃ (B2 : Option Addr) (c2 : Nat), v = (gM_ r_ B2 c2) ∧ ST w0 (bl [⟨B, 73, [.slice B1 n c1, vi c.at_, .int .u64 c.seed], 3⟩]) w' [⟨B, 73, [.slice B1 n c1, vi m.at_, .int .u64 m.seed], 3⟩, ⟨B2, 54, (r_.Cells.flatMap eN0), c2 * 5⟩] []) := by
 subst hn
 unfold F_spec_l1Cur_oneQubit at hF
 refine cv_of_cw 7 Tryz.func89 rfl Tryz.ntmps89 rfl ?_
 refine cq (cr ?_)
 refine sS 2 (yN kN_ 3 hS K17) ?_
 rintro _ w_ ⟨b, rfl, hS1⟩
 refine rn (cq (cr ?_))
 refine sQ 3 (ym (pt B 0)) ?_
 refine sS 4 (Ys_bslice (s := 1) (len := 9) (vs := [(0, vi 1), (1, vi 1), (2, vi 7), (3, vi 7), (4, vi 5), (5, vi 3), (6, vi 8), (7, vi 12), (8, vi 2)]) (cs := [vi 1, vi 1, vi 7, vi 7, vi 5, vi 3, vi 8, vi 12, vi 2]) (zs := [vi 0, vi 0, vi 0, vi 0, vi 0, vi 0, vi 0, vi 0, vi 0]) (m := 9) hS1 K53 K2 K108 rfl (mpc rfl (mpc rfl (mpc rfl (mpc rfl (mpc rfl (mpc rfl (mpc rfl (mpc rfl (mpc rfl mpn))))))))) rfl rfl rfl (by kernel_rfl) (by kernel_rfl) rfl) ?_
 rintro _ w_1 ⟨b1, rfl, hS2⟩
 obtain ⟨⟨r_1, m1⟩, hc, hF⟩ := bI hF
 refine sc 5 rfl rfl (yC [pt B 0, vi 1, vi 10, .slice (aD b1) 9 9] k_call_132 (c_spec_l1Cur_built c 1 10 [1, 1, 7, 7, 5, 3, 8, 12, 2] B B1 c1 c.code.length (aD b1) 9 9 _ rfl rfl (hS2.inn [true, false, false] rfl [(true, 0), (false, 1)] rfl) hc)) ?_
 rintro _ w_2 ⟨B3, c3, rfl, hd⟩
 have hS3 := hS2.out [true, false, false] rfl hd
 obtain ⟨r_2, hc1, hF⟩ := bI hF
 refine sc 6 rfl rfl (yC [.agg #[vi r_1.Qubits, .slice B3 r_1.Gates.length c3]] k_call_127 (c_spec_l6Op r_1 B3 c3 r_1.Gates.length _ rfl (hS3.inn0 [(false, 3)] rfl) hc1)) ?_
 rintro _ w_3 ⟨B4, c4, rfl, hd1⟩
 have hS4 := hS3.out0 hd1
 refine s0 (yT 0 3 (aD b) 26 (gM_ r_2 B4 c4) (kM_ r_2 B4 c4) 0 hS4 K6) ?_
 rintro _ w_4 ⟨rfl, hS5⟩
 refine rn (ct_ ?_)
 obtain ⟨rfl, rfl⟩ := pr2 (sI hF)
 exact ret1 Tryz.results89 (v1 := gM_ r_2 B4 c4) (resAt_cellA (B := aD b) (i := 0) (cs := kM_ r_2 B4 c4) (vs := kM_ r_2 B4 c4) rfl K13 K6 (hS5.c 0) rfl rfl) ⟨B4, c4, rfl, (hS5.sN [2, 4])⟩

theorem c_spec_l1Cur_ring (c : Tl1Cur) (B : Option Addr) (B1 : Option Addr) (c1 n : Nat) (w0 : World) (hn : c.code.length = n) (hS : ST w0 (bl [⟨B, 73, [.slice B1 n c1, vi c.at_, .int .u64 c.seed], 3⟩]) w0 [⟨B, 73, [.slice B1 n c1, vi c.at_, .int .u64 c.seed], 3⟩] [⟨B1, (c.code.flatMap enc_u8)⟩]) {r_ : TRing} {m : Tl1Cur} (hF : F_spec_l1Cur_ring c = some (r_, m)) :
  CV Tryz.prog 136 #[pt B 0] w0 (fun v w' => v = (gR_ r_) ∧ ST w0 (bl [⟨B, 73, [.slice B1 n c1, vi c.at_, .int .u64 c.seed], 3⟩]) w' [⟨B, 73, [.slice B1 n c1, vi m.at_, .int .u64 m.seed], 3⟩] []) := by
 subst hn
 unfold F_spec_l1Cur_ring at hF
 refine cv_of_cw 16 Tryz.func136 rfl Tryz.ntmps136 rfl ?_
 refine cq (cr ?_)
 refine sS 2 (yN [vi 0, vi 0, vi 0, vi 0] 4 hS K16) ?_
 rintro _ w_ ⟨b, rfl, hS1⟩
 refine rn (cq (cr ?_))
 refine sQ 3 (ym (pt B 0)) ?_
 obtain ⟨⟨r_1, m1⟩, hc, hF⟩ := bI hF
 refine sc 4 rfl rfl (yC [pt B 0, vi 9] K50 (c_spec_l1Cur_pick c 9 B B1 c1 c.code.length _ rfl (hS1.inn [true, false] rfl [(true, 0)] rfl) hc)) ?_
 rintro _ w_1 ⟨rfl, hd⟩
 have hS2 := hS1.out [true, false] rfl hd
 refine sQ 5 (yM r_1 4) <| sQ 6 (ym (pt B 0)) ?_
 obtain ⟨⟨r_2, m2⟩, hc1, hF⟩ := bI hF
 refine sc 7 rfl rfl (yC [pt B 0, vi 9] K50 (c_spec_l1Cur_pick (Tl1Cur.mk c.code m1.at_ m1.seed) 9 B B1 c1 c.code.length _ rfl (hS2.inn [false, true] rfl [(true, 0)] rfl) hc1)) ?_
 rintro _ w_2 ⟨rfl, hd1⟩
 have hS3 := hS2.out [false, true] rfl hd1
 refine sQ 8 (yM r_2 4) <| sQ 9 (ym (pt B 0)) ?_
 obtain ⟨⟨r_3, m3⟩, hc2, hF⟩ := bI hF
 refine sc 10 rfl rfl (yC [pt B 0, vi 9] K50 (c_spec_l1Cur_pick (Tl1Cur.mk c.code m2.at_ m2.seed) 9 B B1 c1 c.code.length _ rfl (hS3.inn [false, true] rfl [(true, 0)] rfl) hc2)) ?_
 rintro _ w_3 ⟨rfl, hd2⟩
 have hS4 := hS3.out [false, true] rfl hd2
 refine sQ 11 (yM r_3 4) <| sQ 12 (ym (pt B 0)) ?_
 obtain ⟨⟨r_4, m4⟩, hc3, hF⟩ := bI hF
 refine sc 13 rfl rfl (yC [pt B 0, vi 9] K50 (c_spec_l1Cur_pick (Tl1Cur.mk c.code m3.at_ m3.seed) 9 B B1 c1 c.code.length _ rfl (hS4.inn [false, true] rfl [(true, 0)] rfl) hc3)) ?_
 rintro _ w_4 ⟨rfl, hd3⟩
 have hS5 := hS4.out [false, true] rfl hd3
 refine sQ 14 (yM r_4 4) <| sQ 15 (Y_buildS (zs := [vi 0, vi 0, vi 0, vi 0]) (vs := [(0, vi (i64.wrap (r_1 - 4))), (1, vi (i64.wrap (r_2 - 4))), (2, vi (i64.wrap (r_3 - 4))), (3, vi (i64.wrap (r_4 - 4)))]) (cs := [vi (i64.wrap (r_1 - 4)), vi (i64.wrap (r_2 - 4)), vi (i64.wrap (r_3 - 4)), vi (i64.wrap (r_4 - 4))]) K32 K16 rfl (mpc rfl (mpc rfl (mpc rfl (mpc rfl mpn)))) rfl) ?_
 refine s0 (yT 0 4 (aD b) 52 (.agg #[vi (i64.wrap (r_1 - 4)), vi (i64.wrap (r_2 - 4)), vi (i64.wrap (r_3 - 4)), vi (i64.wrap (r_4 - 4))]) [vi (i64.wrap (r_1 - 4)), vi (i64.wrap (r_2 - 4)), vi (i64.wrap (r_3 - 4)), vi (i64.wrap (r_4 - 4))] 0 hS5 K4) ?_
 rintro _ w_5 ⟨rfl, hS6⟩
 refine rn (ct_ ?_)
 obtain ⟨rfl, rfl⟩ := pr2 (sI hF)
 exact ret1 Tryz.results136 (v1 := .agg #[vi (i64.wrap (r_1 - 4)), vi (i64.wrap (r_2 - 4)), vi (i64.wrap (r_3 - 4)), vi (i64.wrap (r_4 - 4))]) (resAt_cellA (B := aD b) (i := 0) (cs := [vi (i64.wrap (r_1 - 4)), vi (i64.wrap (r_2 - 4)), vi (i64.wrap (r_3 - 4)), vi (i64.wrap (r_4 - 4))]) (vs := [vi (i64.wrap (r_1 - 4)), vi (i64.wrap (r_2 - 4)), vi (i64.wrap (r_3 - 4)), vi (i64.wrap (r_4 - 4))]) rfl K10 K4 (hS6.c 0) rfl rfl) ⟨rfl, (hS6.sN [1])⟩

theorem c_spec_l1Cur_dyadic (c : Tl1Cur) (B : Option Addr) (B1 : Option Addr) (c1 n : Nat) (w0 : World) (hn : c.code.length = n) (hS : ST w0 (bl [⟨B, 73, [.slice B1 n c1, vi c.at_, .int .u64 c.seed], 3⟩]) w0 [⟨B, 73, [.slice B1 n c1, vi c.at_, .int .u64 c.seed], 3⟩] [⟨B1, (c.code.flatMap enc_u8)⟩]) {r_ : TDyadic} {m : Tl1Cur} (hF : F_spec_l1Cur_dyadic c = some (r_, m)) :
  CV Tryz.prog 92 #[pt B 0] w0 (fun v w' => v = (gD_ r_) ∧ ST w0 (bl [⟨B, 73, [.slice B1 n c1, vi c.at_, .int .u64 c.seed], 3⟩]) w' [⟨B, 73, [.slice B1 n c1, vi m.at_, .int .u64 m.seed], 3⟩] []) := by
 subst hn
 unfold F_spec_l1Cur_dyadic at hF
 refine cv_of_cw 8 Tryz.func92 rfl Tryz.ntmps92 rfl ?_
 refine cq (cr ?_)
 refine sS 2 (yN kZ_ 5 hS K5) ?_
 rintro _ w_ ⟨b, rfl, hS1⟩
 refine rn (cq (cr ?_))
 refine sQ 3 (ym (pt B 0)) ?_
 obtain ⟨⟨r_1, m1⟩, hc, hF⟩ := bI hF
 refine sc 4 rfl rfl (yC [pt B 0] k_call_136 (c_spec_l1Cur_ring c B B1 c1 c.code.length _ rfl (hS1.inn [true, false] rfl [(true, 0)] rfl) hc)) ?_
 rintro _ w_1 ⟨rfl, hd⟩
 have hS2 := hS1.out [true, false] rfl hd
 refine sQ 5 (ym (pt B 0)) ?_
 obtain ⟨⟨r_2, m2⟩, hc1, hF⟩ := bI hF
 refine sc 6 rfl rfl (yC [pt B 0, vi 5] K50 (c_spec_l1Cur_pick (Tl1Cur.mk c.code m1.at_ m1.seed) 5 B B1 c1 c.code.length _ rfl (hS2.inn [false, true] rfl [(true, 0)] rfl) hc1)) ?_
 rintro _ w_2 ⟨rfl, hd1⟩
 have hS3 := hS2.out [false, true] rfl hd1
 obtain ⟨r_3, hc2, hF⟩ := bI hF
 refine sc 7 rfl rfl (yC [gR_ r_1, vi r_2] K119 (c_spec_l2Low r_1 r_2 _  (hS3.inn0 [] rfl) hc2)) ?_
 rintro _ w_3 ⟨rfl, hd2⟩
 have hS4 := hS3.out00 hd2
 refine s0 (yT 0 5 (aD b) 54 (gD_ r_3) (kD_ r_3) 0 hS4 K0) ?_
 rintro _ w_4 ⟨rfl, hS5⟩
 refine rn (ct_ ?_)
 obtain ⟨rfl, rfl⟩ := pr2 (sI hF)
 exact ret1 Tryz.results92 (v1 := gD_ r_3) (resAt_cellA (B := aD b) (i := 0) (cs := kD_ r_3) (vs := kD_ r_3) rfl K3 K0 (hS5.c 0) rfl rfl) ⟨rfl, (hS5.sN [1])⟩

theorem c_spec_l1Cur_anyBloch (c : Tl1Cur) (B : Option Addr) (B1 : Option Addr) (c1 n : Nat) (w0 : World) (hn : c.code.length = n) (hS : ST w0 (bl [⟨B, 73, [.slice B1 n c1, vi c.at_, .int .u64 c.seed], 3⟩]) w0 [⟨B, 73, [.slice B1 n c1, vi c.at_, .int .u64 c.seed], 3⟩] [⟨B1, (c.code.flatMap enc_u8)⟩]) {r_ : TBloch} {m : Tl1Cur} (hF : F_spec_l1Cur_anyBloch c = some (r_, m)) :
  CV Tryz.prog 81 #[pt B 0] w0 (fun v w' => ∃ (B2 : Option Addr) (c2 : Nat), v = (gB_ r_ B2 c2) ∧ r_.Cells.length ≤ c2 ∧ Org w0 (bl [⟨B, 73, [.slice B1 n c1, vi c.at_, .int .u64 c.seed], 3⟩]) [⟨B1, (c.code.flatMap enc_u8)⟩] [⟨B2, (r_.Cells.flatMap eN0)⟩] ∧ ST w0 (bl [⟨B, 73, [.slice B1 n c1, vi c.at_, .int .u64 c.seed], 3⟩]) w' [⟨B, 73, [.slice B1 n c1, vi m.at_, .int .u64 m.seed], 3⟩] [⟨B2, (r_.Cells.flatMap eN0)⟩]) := by
 subst hn
 unfold F_spec_l1Cur_anyBloch at hF
 refine cv_of_cw 49 Tryz.func81 rfl Tryz.ntmps81 rfl ?_
 refine cq (cr ?_)
 refine sS 2 (yN [.slice none 0 0] 1 hS K26) ?_
 rintro _ w_ ⟨b, rfl, hS1⟩
 refine rn (cq (cr ?_))
 refine sQ 7 (ym (pt B 0)) ?_
 obtain ⟨⟨r_1, m1⟩, hc, hF⟩ := bI hF
 refine sc 8 rfl rfl (yC [pt B 0] k_call_89 (c_spec_l1Cur_oneQubit c B B1 c1 c.code.length _ rfl (hS1.inn [true, false] rfl [(true, 0)] rfl) hc)) ?_
 rintro _ w_1 ⟨B3, c3, rfl, hd⟩
 have hS2 := hS1.out [true, false] rfl hd
 obtain ⟨⟨r_2, r_3⟩, hc1, hF⟩ := bI hF
 refine sc 9 rfl rfl (yC [gM_ r_1 B3 c3] K121 (c_spec_l9Bloch r_1 B3 c3 r_1.Cells.length _ rfl (hS2.inn0 [(false, 2)] rfl) hc1)) ?_
 rintro _ w_2 ⟨B4, c4, rfl, hd1⟩
 have hS3 := hS2.out0 hd1
 refine sQ 6 (ym (.tuple #[gB_ r_2 B4 c4, .bool r_3])) <| sQ 10 (ye (gB_ r_2 B4 c4)) <| sQ 11 (ye (.bool r_3)) ?_
 refine sS 3 (yN [.slice none 0 0] 1 hS3 K26) ?_
 rintro _ w_3 ⟨b1, rfl, hS4⟩
 refine s0 (yT 4 1 (aD b1) 29 (gB_ r_2 B4 c4) (kB_ r_2 B4 c4) 0 hS4 K14) ?_
 rintro _ w_4 ⟨rfl, hS5⟩
 refine sQ 4 (yg (.bool r_3)) (rn (cq ?_))
 obtain ⟨z, hz, hF1⟩ := bI hF
 refine cw_mid (fun f w => ∃ (at_ : Int) (seed : Int) (Cells : List TDyadic) (B5 : Option Addr) (c5 : Nat), (at_, seed, Cells) = z ∧ FF f [(2, pt (aD b) 0), (3, pt (aD b1) 0)] ∧ Org w0 (bl [⟨B, 73, [.slice B1 c.code.length c1, vi c.at_, .int .u64 c.seed], 3⟩]) [⟨B1, (c.code.flatMap enc_u8)⟩] [⟨B5, (Cells.flatMap eN0)⟩] ∧ Cells.length ≤ c5 ∧ ST w0 (bl [⟨B, 73, [.slice B1 c.code.length c1, vi c.at_, .int .u64 c.seed], 3⟩]) w [⟨B, 73, [.slice B1 c.code.length c1, vi at_, .int .u64 seed], 3⟩, ⟨aD b, 29, [.slice none 0 0], 1⟩, ⟨aD b1, 29, [.slice B5 Cells.length c5], 1⟩] [⟨B5, (Cells.flatMap eN0)⟩, ⟨B1, (c.code.flatMap enc_u8)⟩]) ?_ ?_
 ·skip
  refine cq (cr ?_)
  refine sQ 12 (ym (pt B 0)) ?_
  obtain ⟨⟨r_4, m2⟩, hc2, hz⟩ := bI hz
  refine sc 13 rfl rfl (yC [pt B 0, vi 14] K50 (c_spec_l1Cur_pick (Tl1Cur.mk c.code m1.at_ m1.seed) 14 B B1 c1 c.code.length _ rfl (hS5.inn [false, true, false, false, false] rfl [(true, 0)] rfl) hc2)) ?_
  rintro _ w_5 ⟨rfl, hd2⟩
  have hS7 := hS5.out [false, true, false, false, false] rfl hd2
  refine rn (cw_block (cq (cr ?_)))
  refine sQ 15 (yE r_4 0) <| sQ 14 (yg (.bool (r_4 == 0))) (rn ?_)
  refine cw_cond (b := (r_4 == 0)) rfl (fun hb => ?_) (fun hb => ?_)
  ·skip
   have hF2 := ct hz hb
   obtain ⟨⟨r_5, m3⟩, hc3, hF2⟩ := bI hF2
   obtain ⟨⟨r_6, m4⟩, hc4, hF2⟩ := bI hF2
   obtain ⟨x, hx, hF2⟩ := bI hF2
   refine ra_start (hS7.se [0, 1, 3]).fn (by kernel_rfl) ?_
   have hS10 := hS7.drew
   refine rq 0 16 (v := pt (aD b1) 0) rfl (hS10.se [0, 1, 3]) (fun w' hw' => (yd (aD b1) 0 0 K18 K8)) ?_
   refine rq 1 17 (v := .slice B4 r_2.Cells.length c4) rfl (hS10.se [0, 1, 3]) (fun w' hw' => (yl (aD b1) 0 (kB_ r_2 B4 c4) (.slice B4 r_2.Cells.length c4) K12 (ST.cf hw' (i := 2) rfl))) ?_
   refine rq 2 18 (v := pt B 0) rfl (hS10.se [0, 1, 3]) (fun w' hw' => (ym (pt B 0))) ?_
   refine rq 4 20 (v := pt B 0) rfl (hS10.se [0, 1, 3]) (fun w' hw' => (ym (pt B 0))) ?_
   refine rA [3] ?_
   refine rC 19 3 rfl (yC [pt B 0, vi 9] K50 (c_spec_l1Cur_pick (Tl1Cur.mk c.code m2.at_ m2.seed) 9 B B1 c1 c.code.length _ rfl (hS10.inn [false, false, false, false, true] rfl [(true, 0)] rfl) hc3)) ?_ ?_
   ·rintro _ w_6 ⟨rfl, hd3⟩
    have hS11 := hS10.out [false, false, false, false, true] rfl hd3
    refine ⟨(hS11.se [0, 1, 3]), ?_⟩
    refine rA [5] ?_
    refine rC 21 5 rfl (yC [pt B 0] k_call_92 (c_spec_l1Cur_dyadic (Tl1Cur.mk c.code m3.at_ m3.seed) B B1 c1 c.code.length _ rfl (hS11.inn [false, false, false, false, true] rfl [(true, 0)] rfl) hc4)) ?_ ?_
    ·rintro _ w_7 ⟨rfl, hd4⟩
     have hS12 := hS11.out [false, false, false, false, true] rfl hd4
     refine ⟨(hS12.se [0, 1, 3]), ?_⟩
     refine rA [6] ?_
     refine ra_y 22 (i := 6) (v := pt B4 (r_5.toNat * 5)) rfl rfl rfl (Y_index (B := B4) (m := r_2.Cells.length) (c := c4) (k := .i64) (i := r_5) K7 K0 rfl rfl rfl (gi_isSome eN2 rfl (hS12.c 2) hx) (getI_nn hx) (getI_ltI hx rfl)) (hS12.se [0, 1, 3]) ?_ ?_
     ·skip
      refine rA [7] ?_
      refine rZ 7 rfl (yS 2 5 B4 54 (gD_ r_6) (kD_ r_6) (r_5.toNat * 5) ((r_2.Cells.set r_5.toNat r_6).flatMap eN0) hS12 K0 rfl rfl rfl rfl rfl rfl rfl (gi_fit0 eN2 hx) (gi_set eN2 hx r_6 rfl)) ?_ ?_
      ·rintro _ w_8 ⟨rfl, hS13⟩
       refine ⟨(hS13.se [0, 1, 3]), ?_⟩
       refine ra_done (by kernel_rfl) ?_
       have ho1 : Org w0 (bl [⟨B, 73, [.slice B1 c.code.length c1, vi c.at_, .int .u64 c.seed], 3⟩]) [⟨B1, (c.code.flatMap enc_u8)⟩] [⟨B4, ((r_2.Cells.set r_5.toNat r_6).flatMap eN0)⟩] := ST.orgOwn hS13 (i := 2) rfl
       have hcap : r_2.Cells.length ≤ c4 := (hS13.lencap (i := 2) rfl (fm_lenn (l := (r_2.Cells.set r_5.toNat r_6)) eN2 (set_len _ _ _ rfl)) rfl rfl)
       have hS14 : ST w0 (bl [⟨B, 73, [.slice B1 c.code.length c1, vi c.at_, .int .u64 c.seed], 3⟩]) _ [⟨aD b, 29, [.slice none 0 0], 1⟩, ⟨B3, 54, (r_1.Cells.flatMap eN0), c3 * 5⟩, ⟨aD b1, 29, kB_ r_2 B4 c4, 1⟩, ⟨B, 73, [.slice B1 c.code.length c1, vi m4.at_, .int .u64 m4.seed], 3⟩] [⟨B4, ((r_2.Cells.set r_5.toNat r_6).flatMap eN0)⟩, ⟨B1, (c.code.flatMap enc_u8)⟩] := hS13.freeze (i := 2) rfl
       exact ⟨m4.at_, m4.seed, (r_2.Cells.set r_5.toNat r_6), B4, c4, (sI hF2), (fc rfl (fc rfl fn_)), ho1, (len_le (set_len _ _ _ rfl) hcap), (by rw [((set_len _ _ _ rfl) : (r_2.Cells.set r_5.toNat r_6).length = r_2.Cells.length)]; exact hS14.sel [3, 0, 2] rfl rfl)⟩
      exact aN
     exact aN
    exact aN
   exact aN
  ·skip
   have hF3 := cf' hz hb
   refine cq (cr ?_)
   refine sQ 24 (yE r_4 1) <| sQ 23 (yg (.bool (r_4 == 1))) (rn ?_)
   refine cw_cond (b := (r_4 == 1)) rfl (fun hb1 => ?_) (fun hb1 => ?_)
   ·skip
    have hF4 := ct hF3 hb1
    refine cr ?_
    refine sQ 25 (yd (aD b1) 0 0 K18 K8) <| sQ 26 (yl (aD b1) 0 (kB_ r_2 B4 c4) (.slice B4 r_2.Cells.length c4) K12 (hS7.c 3)) ?_
    obtain ⟨hsl, hF4⟩ := chk_inv hF4
    have hcap1 : r_2.Cells.length ≤ c4 := (hS7.lencap (i := 2) rfl (fm_lenn (l := r_2.Cells) eN2 rfl) rfl rfl)
    have ho3 : Org w0 (bl [⟨B, 73, [.slice B1 c.code.length c1, vi c.at_, .int .u64 c.seed], 3⟩]) [⟨B1, (c.code.flatMap enc_u8)⟩] [⟨B4, (r_2.Cells.flatMap eN0)⟩] := ST.orgOwn hS7 (i := 2) rfl
    have hcap2 : r_2.Cells.length ≤ c4 := (hS7.lencap (i := 2) rfl (fm_lenn (l := r_2.Cells) eN2 rfl) rfl rfl)
    have hS15 : ST w0 (bl [⟨B, 73, [.slice B1 c.code.length c1, vi c.at_, .int .u64 c.seed], 3⟩]) _ [⟨aD b, 29, [.slice none 0 0], 1⟩, ⟨B3, 54, (r_1.Cells.flatMap eN0), c3 * 5⟩, ⟨aD b1, 29, kB_ r_2 B4 c4, 1⟩, ⟨B, 73, [.slice B1 c.code.length c1, vi m2.at_, .int .u64 m2.seed], 3⟩] [⟨B4, (r_2.Cells.flatMap eN0)⟩, ⟨B1, (c.code.flatMap enc_u8)⟩] := hS7.freeze (i := 2) rfl
    have hv : (List.drop 1 r_2.Cells).length = (r_2.Cells.length - 1) := (drop_len rfl)
    have hq1 : (r_2.Cells.length - 1) ≤ (c4 - 1) := by omega
    have ho2 : Org w0 (bl [⟨B, 73, [.slice B1 c.code.length c1, vi c.at_, .int .u64 c.seed], 3⟩]) [⟨B1, (c.code.flatMap enc_u8)⟩] [⟨(sv B4 1 c4 5), ((List.drop 1 r_2.Cells).flatMap eN0)⟩] := org_view eN2 (q := c4) ho3 rfl (take_all rfl _)
    have hS16 : ST w0 (bl [⟨B, 73, [.slice B1 c.code.length c1, vi c.at_, .int .u64 c.seed], 3⟩]) _ [⟨aD b, 29, [.slice none 0 0], 1⟩, ⟨B3, 54, (r_1.Cells.flatMap eN0), c3 * 5⟩, ⟨aD b1, 29, kB_ r_2 B4 c4, 1⟩, ⟨B, 73, [.slice B1 c.code.length c1, vi m2.at_, .int .u64 m2.seed], 3⟩] [⟨(sv B4 1 c4 5), ((List.drop 1 r_2.Cells).flatMap eN0)⟩, ⟨B4, (r_2.Cells.flatMap eN0)⟩, ⟨B1, (c.code.flatMap enc_u8)⟩] := ST.view eN2 hS15 (i := 0) rfl (lo := 1) (h := r_2.Cells.length) (q := c4) (by omega) (by omega) rfl (take_all rfl _)
    refine sQ 27 (Y_slice1 (B := B4) (m := r_2.Cells.length) (c := c4) (l := 1) (h := r_2.Cells.length) (s := 5) K7 K0 rfl rfl rfl (bnd_some rfl rfl) (by omega) (by omega)) <| sQ 28 (yd (aD b1) 0 0 K18 K8) ?_
    refine s0 (yT 2 1 (aD b1) 29 (.slice (sv B4 1 c4 5) (r_2.Cells.length - 1) (c4 - 1)) [.slice (sv B4 1 c4 5) (r_2.Cells.length - 1) (c4 - 1)] 0 hS16 K8) ?_
    rintro _ w_9 ⟨rfl, hS17⟩
    refine rn ?_
    have hS18 : ST w0 (bl [⟨B, 73, [.slice B1 c.code.length c1, vi c.at_, .int .u64 c.seed], 3⟩]) _ [⟨aD b, 29, [.slice none 0 0], 1⟩, ⟨B3, 54, (r_1.Cells.flatMap eN0), c3 * 5⟩, ⟨aD b1, 29, [.slice (sv B4 1 c4 5) (r_2.Cells.length - 1) (c4 - 1)], 1⟩, ⟨B, 73, [.slice B1 c.code.length c1, vi m2.at_, .int .u64 m2.seed], 3⟩] [⟨(sv B4 1 c4 5), ((List.drop 1 r_2.Cells).flatMap eN0)⟩, ⟨B1, (c.code.flatMap enc_u8)⟩] := ST.subR hS17 (sk 0 (sk 2 (fun _ h => by cases h)))
    exact ⟨m2.at_, m2.seed, (List.drop 1 r_2.Cells), (sv B4 1 c4 5), (c4 - 1), (sI hF4), (fc rfl (fc rfl fn_)), ho2, (len_le hv hq1), (by rw [(hv : (List.drop 1 r_2.Cells).length = (r_2.Cells.length - 1))]; exact hS18.sel [3, 0, 2] rfl rfl)⟩
   ·skip
    have hF5 := cf' hF3 hb1
    refine cq (cr ?_)
    refine sQ 30 (yE r_4 2) <| sQ 29 (yg (.bool (r_4 == 2))) (rn ?_)
    refine cw_cond (b := (r_4 == 2)) rfl (fun hb2 => ?_) (fun hb2 => ?_)
    ·skip
     have hF6 := ct hF5 hb2
     refine cq (cr ?_)
     refine sQ 31 (yd (aD b1) 0 0 K18 K8) <| sQ 32 (yl (aD b1) 0 (kB_ r_2 B4 c4) (.slice B4 r_2.Cells.length c4) K12 (hS7.c 3)) <| sQ 33 (Y_len (B := B4) (m := r_2.Cells.length) (c := c4) K7 rfl rfl) <| sQ 34 (ym (vi 0)) (rn ?_)
     obtain ⟨hN, hF6⟩ := chk_inv hF6
     obtain ⟨z1, hz1, hF7⟩ := bI hF6
     refine cw_block ?_
     refine cw_loop (fun k f w => ∃ (i : Nat) (Cells1 : List TDyadic), FF f [(2, pt (aD b) 0), (3, pt (aD b1) 0), (33, vi (r_2.Cells.length : Int)), (34, vi (i : Int))] ∧ Cells1.length = r_2.Cells.length ∧ ST w0 (bl [⟨B, 73, [.slice B1 c.code.length c1, vi c.at_, .int .u64 c.seed], 3⟩]) w [⟨B, 73, [.slice B1 c.code.length c1, vi m2.at_, .int .u64 m2.seed], 3⟩, ⟨aD b, 29, [.slice none 0 0], 1⟩, ⟨aD b1, 29, kB_ r_2 B4 c4, 1⟩, ⟨B4, 54, (Cells1.flatMap eN0), c4 * 5⟩] [⟨B1, (c.code.flatMap enc_u8)⟩] ∧ i + k = r_2.Cells.length ∧ forN F_spec_l1Cur_anyBloch_l1 k i Cells1 = some z1) r_2.Cells.length ⟨0, r_2.Cells, (fc rfl (fc rfl (fc rfl (fc rfl fn_)))), rfl, (hS7.sel [4, 0, 3, 2] rfl rfl), Nat.zero_add _, hz1⟩ ?_
     rintro k_ f w ⟨i, Cells1, hf1, hl, hS19, hik, hL⟩
     refine cq (cr ?_)
     refine sQ 35 (yL (i : Int) (r_2.Cells.length : Int) rfl (hf1.g 34 3) (hf1.g 33 2)) (rn (cq ?_))
     refine cw_cond (b := (decide ((i : Int) < (r_2.Cells.length : Int)))) rfl (fun hlt => ?_) (fun hlt => ?_)
     ·skip
      have hlt1 : i < r_2.Cells.length := by have h := of_decide_eq_true hlt; omega
      obtain ⟨K9, rfl⟩ : ∃ k2, k_ = k2 + 1 := ⟨k_ - 1, by omega⟩
      obtain ⟨y, hb3, hL1⟩ := forN_go hL
      unfold F_spec_l1Cur_anyBloch_l1 at hb3
      refine cw_skip (cq (cw_block (cq (cr ?_))))
      refine sQ 36 (ym (vi (i : Int)) rfl (hf1.g 34 3)) <| sQ 5 (yg (vi (i : Int))) (rn ?_)
      obtain ⟨x1, hx1, hb3⟩ := bI hb3
      obtain ⟨r_7, hc5, hb3⟩ := bI hb3
      refine ra_start (hS19.se [0, 1, 2]).fn (by kernel_rfl) ?_
      have hS21 := hS19.drew
      refine rq 0 37 (v := pt (aD b1) 0) rfl (hS21.se [0, 1, 2]) (fun w' hw' => (yd (aD b1) 0 0 K18 K8 rfl (hf1.g 3 1))) ?_
      refine rq 1 38 (v := .slice B4 r_2.Cells.length c4) rfl (hS21.se [0, 1, 2]) (fun w' hw' => (yl (aD b1) 0 (kB_ r_2 B4 c4) (.slice B4 r_2.Cells.length c4) K12 (ST.cf hw' (i := 2) rfl))) ?_
      refine rq 2 39 (v := vi (i : Int)) rfl (hS21.se [0, 1, 2]) (fun w' hw' => (ym (vi (i : Int)))) ?_
      refine rq 3 40 (v := pt (aD b1) 0) rfl (hS21.se [0, 1, 2]) (fun w' hw' => (yd (aD b1) 0 0 K18 K8 rfl (hf1.g 3 1))) ?_
      refine rq 4 41 (v := .slice B4 r_2.Cells.length c4) rfl (hS21.se [0, 1, 2]) (fun w' hw' => (yl (aD b1) 0 (kB_ r_2 B4 c4) (.slice B4 r_2.Cells.length c4) K12 (ST.cf hw' (i := 2) rfl))) ?_
      refine rq 5 42 (v := vi (i : Int)) rfl (hS21.se [0, 1, 2]) (fun w' hw' => (ym (vi (i : Int)))) ?_
      refine rA [6] ?_
      refine ra_y 43 (i := 6) (v := pt B4 ((i : Int).toNat * 5)) rfl rfl rfl (Y_index (B := B4) (m := r_2.Cells.length) (c := c4) (k := .i64) (i := (i : Int)) K7 K0 rfl rfl rfl (gi_isSome eN2 rfl (hS21.c 3) hx1) (getI_nn hx1) (getI_ltI hx1 hl)) (hS21.se [0, 1, 2]) ?_ ?_
      ·skip
       refine rA [7] ?_
       refine ra_y 44 (i := 7) (v := gD_ x1) rfl rfl rfl (ya B4 ((i : Int).toNat * 5) (Cells1.flatMap eN0) (kD_ x1) K3 K0 (hS21.c 3) rfl rfl (eN2 x1) (gi_seg eN2 hx1)) (hS21.se [0, 1, 2]) ?_ ?_
       ·skip
        refine rA [8] ?_
        refine rC 45 8 rfl (yC [gD_ x1] K78 (c_spec_l2Neg x1 _  (hS21.inn0 [] rfl) hc5)) ?_ ?_
        ·rintro _ w_10 ⟨rfl, hd5⟩
         have hS22 := hS21.out00 hd5
         refine ⟨(hS22.se [0, 1, 2]), ?_⟩
         refine rA [9] ?_
         refine ra_y 46 (i := 9) (v := pt B4 ((i : Int).toNat * 5)) rfl rfl rfl (Y_index (B := B4) (m := r_2.Cells.length) (c := c4) (k := .i64) (i := (i : Int)) K7 K0 rfl rfl rfl (gi_isSome eN2 rfl (hS22.c 3) hx1) (getI_nn hx1) (getI_ltI hx1 hl)) (hS22.se [0, 1, 2]) ?_ ?_
         ·skip
          refine rA [10] ?_
          refine rZ 10 rfl (yS 3 5 B4 54 (gD_ r_7) (kD_ r_7) ((i : Int).toNat * 5) ((Cells1.set (i : Int).toNat r_7).flatMap eN0) hS22 K0 rfl rfl rfl rfl rfl rfl rfl (gi_fit0 eN2 hx1) (gi_set eN2 hx1 r_7 rfl)) ?_ ?_
          ·rintro _ w_11 ⟨rfl, hS23⟩
           refine ⟨(hS23.se [0, 1, 2]), ?_⟩
           refine ra_done (by kernel_rfl) ?_
           refine cr ?_
           refine sQ 47 (yP (i : Int) 1 rfl (hf1.g 34 3)) <| sQ 34 (ym (vi (i64.wrap ((i : Int) + 1)))) (rn ?_)
           obtain rfl := sI hb3
           exact ⟨K9, Nat.lt_succ_self _, i + 1, (Cells1.set (i : Int).toNat r_7), (fc (hf1.g 2 0) (fc (hf1.g 3 1) (fc (hf1.g 33 2) (fc (congrArg (Value.int .i64) (wr_succ hlt1 hN)) fn_)))), (set_len _ _ _ hl), (hS23.sel [0, 1, 2, 3] rfl rfl), (by omega), hL1⟩
          exact aN
         exact aN
        exact aN
       exact aN
      exact aN
     ·skip
      obtain rfl : k_ = 0 := by have h := of_decide_eq_false hlt; omega
      refine cw_exit rfl ?_
      obtain rfl := sI hL
      have ho4 : Org w0 (bl [⟨B, 73, [.slice B1 c.code.length c1, vi c.at_, .int .u64 c.seed], 3⟩]) [⟨B1, (c.code.flatMap enc_u8)⟩] [⟨B4, (Cells1.flatMap eN0)⟩] := ST.orgOwn hS19 (i := 3) rfl
      have hcap3 : r_2.Cells.length ≤ c4 := (hS19.lencap (i := 3) rfl (fm_lenn (l := Cells1) eN2 hl) rfl rfl)
      have hS24 : ST w0 (bl [⟨B, 73, [.slice B1 c.code.length c1, vi c.at_, .int .u64 c.seed], 3⟩]) _ [⟨B, 73, [.slice B1 c.code.length c1, vi m2.at_, .int .u64 m2.seed], 3⟩, ⟨aD b, 29, [.slice none 0 0], 1⟩, ⟨aD b1, 29, kB_ r_2 B4 c4, 1⟩] [⟨B4, (Cells1.flatMap eN0)⟩, ⟨B1, (c.code.flatMap enc_u8)⟩] := hS19.freeze (i := 3) rfl
      exact ⟨m2.at_, m2.seed, Cells1, B4, c4, (sI hF7), (fc (hf1.g 2 0) (fc (hf1.g 3 1) fn_)), ho4, (len_le hl hcap3), (by rw [(hl : Cells1.length = r_2.Cells.length)]; exact hS24.sel [0, 1, 2] rfl rfl)⟩
    ·skip
     have hF8 := cf' hF5 hb2
     refine cw_skip ?_
     have ho5 : Org w0 (bl [⟨B, 73, [.slice B1 c.code.length c1, vi c.at_, .int .u64 c.seed], 3⟩]) [⟨B1, (c.code.flatMap enc_u8)⟩] [⟨B4, (r_2.Cells.flatMap eN0)⟩] := ST.orgOwn hS7 (i := 2) rfl
     have hcap4 : r_2.Cells.length ≤ c4 := (hS7.lencap (i := 2) rfl (fm_lenn (l := r_2.Cells) eN2 rfl) rfl rfl)
     have hS25 : ST w0 (bl [⟨B, 73, [.slice B1 c.code.length c1, vi c.at_, .int .u64 c.seed], 3⟩]) _ [⟨aD b, 29, [.slice none 0 0], 1⟩, ⟨B3, 54, (r_1.Cells.flatMap eN0), c3 * 5⟩, ⟨aD b1, 29, kB_ r_2 B4 c4, 1⟩, ⟨B, 73, [.slice B1 c.code.length c1, vi m2.at_, .int .u64 m2.seed], 3⟩] [⟨B4, (r_2.Cells.flatMap eN0)⟩, ⟨B1, (c.code.flatMap enc_u8)⟩] := hS7.freeze (i := 2) rfl
     exact ⟨m2.at_, m2.seed, r_2.Cells, B4, c4, (sI hF8), (fc rfl (fc rfl fn_)), ho5, (len_le rfl hcap4), (hS25.sel [3, 0, 2] rfl rfl)⟩
 rintro f w ⟨at_, seed, Cells, B5, c5, rfl, hf, ho, hq, hS6⟩
 refine cq (cr ?_)
 refine sQ 48 (yb (aD b1) 0 [.slice B5 Cells.length c5] K25 K14 (hS6.c 2) rfl (hf.g 3 1)) ?_
 refine s0 (yT 1 1 (aD b) 29 (.agg #[.slice B5 Cells.length c5]) [.slice B5 Cells.length c5] 0 hS6 K14 rfl (hf.g 2 0)) ?_
 rintro _ w_12 ⟨rfl, hS26⟩
 refine rn (ct_ ?_)
 obtain ⟨rfl, rfl⟩ := pr2 (sI hF1)
 exact ret1 Tryz.results81 (v1 := .agg #[.slice B5 Cells.length c5]) (resAt_cellA (B := aD b) (i := 0) (cs := [.slice B5 Cells.length c5]) (vs := [.slice B5 Cells.length c5]) (hf.g 2 0) K25 K14 (hS26.c 1) rfl rfl) ⟨B5, c5, rfl, (len_le rfl hq), (org_cons ho org_nil), (ST.subR (R' := [⟨B5, (Cells.flatMap eN0)⟩]) (hS26.sel [0] rfl rfl) (sk 0 (fun _ h => by cases h)))⟩

theorem c_spec_DrawIsValidBloch (code : List Int) (B : Option Addr) (c n : Nat) (w0 : World) (hn : code.length = n) (hS : ST w0 [] w0 [] [⟨B, (code.flatMap enc_u8)⟩]) {r_ : TBloch} (hF : F_spec_DrawIsValidBloch code = some r_) :
  CV Tryz.prog 42 #[.slice B n c] w0 (fun v w' => ∃ (B1 : Option Addr) (c1 : Nat), v = (gB_ r_ B1 c1) ∧ r_.Cells.length ≤ c1 ∧ Org w0 [] [⟨B, (code.flatMap enc_u8)⟩] [⟨B1, (r_.Cells.flatMap eN0)⟩] ∧ ST w0 [] w' [] [⟨B1, (r_.Cells.flatMap eN0)⟩]) := by
 subst hn
 unfold F_spec_DrawIsValidBloch at hF
 refine cv_of_cw 9 Tryz.func42 rfl Tryz.ntmps42 rfl ?_
 refine cq (cr ?_)
 refine sS 2 (yN [.slice none 0 0] 1 hS K26) ?_
 rintro _ w_ ⟨b, rfl, hS1⟩
 refine rn (cq (cr ?_))
 refine sQ 4 (ym (.slice B code.length c)) <| sQ 5 (Y_buildS (zs := [.slice none 0 0, vi 0, .int .u64 0]) (vs := [(0, .slice B code.length c)]) (cs := [.slice B code.length c, vi 0, .int .u64 0]) k_pl_73 k_zero_73 rfl (mpc rfl mpn) rfl) ?_
 refine sS 6 (yB 73 (.agg #[.slice B code.length c, vi 0, .int .u64 0]) [.slice B code.length c, vi 0, .int .u64 0] 3 hS1) ?_
 rintro _ w_1 ⟨b1, rfl, hS2⟩
 refine sQ 3 (yg (pt (aD b1) 0)) (rn (cq (cr ?_)))
 refine sQ 7 (ym (pt (aD b1) 0)) ?_
 obtain ⟨⟨r_1, m⟩, hc, hF⟩ := bI hF
 refine sc 8 rfl rfl (yC [pt (aD b1) 0] k_call_81 (c_spec_l1Cur_anyBloch (Tl1Cur.mk code 0 0) (aD b1) B c code.length _ rfl (hS2.inn [false, true] rfl [(true, 0)] rfl) hc)) ?_
 rintro _ w_2 ⟨B2, c2, rfl, hq, ho, hd⟩
 have hS3 := ST.outR hS2 [false, true] rfl hd ho (sk 0 (fun _ h => by cases h))
 have ho1 : Org w0 [] [⟨B, (code.flatMap enc_u8)⟩] [⟨B2, (r_1.Cells.flatMap eN0)⟩] := org_trans hS2 (msk_mem (mask := [false, true]) rfl) ho (org_cons (org_mem (i := 0) rfl) org_nil)
 have hS4 : ST w0 [] _ [⟨aD b, 29, [.slice none 0 0], 1⟩, ⟨aD b1, 73, [.slice B code.length c, vi m.at_, .int .u64 m.seed], 3⟩] [⟨B2, (r_1.Cells.flatMap eN0)⟩, ⟨B, (code.flatMap enc_u8)⟩] := hS3
 refine s0 (yT 0 1 (aD b) 29 (gB_ r_1 B2 c2) (kB_ r_1 B2 c2) 0 hS4 K14) ?_
 rintro _ w_3 ⟨rfl, hS5⟩
 refine rn (ct_ ?_)
 obtain rfl := sI hF
 exact ret1 Tryz.results42 (v1 := gB_ r_1 B2 c2) (resAt_cellA (B := aD b) (i := 0) (cs := kB_ r_1 B2 c2) (vs := kB_ r_1 B2 c2) rfl K25 K14 (hS5.c 0) rfl rfl) ⟨B2, c2, rfl, (len_le rfl hq), (org_cons (org_sub ho1 (sk 0 (fun _ h => by cases h))) org_nil), (ST.subR (R' := [⟨B2, (r_1.Cells.flatMap eN0)⟩]) (hS5.sel [] rfl rfl) (sk 0 (fun _ h => by cases h)))⟩

theorem c_spec_DrawParityOf (code : List Int) (B : Option Addr) (c n : Nat) (w0 : World) (hn : code.length = n) (hS : ST w0 [] w0 [] [⟨B, (code.flatMap enc_u8)⟩]) {r_ : TBloch} (hF : F_spec_DrawParityOf code = some r_) :
  CV Tryz.prog 18 #[.slice B n c] w0 (fun v w' => ∃ (B1 : Option Addr) (c1 : Nat), v = (gB_ r_ B1 c1) ∧ r_.Cells.length ≤ c1 ∧ Org w0 [] [⟨B, (code.flatMap enc_u8)⟩] [⟨B1, (r_.Cells.flatMap eN0)⟩] ∧ ST w0 [] w' [] [⟨B1, (r_.Cells.flatMap eN0)⟩]) := by
 subst hn
 unfold F_spec_DrawParityOf at hF
 refine cv_of_cw 5 Tryz.func18 rfl Tryz.ntmps18 rfl ?_
 refine cq (cr ?_)
 refine sS 2 (yN [.slice none 0 0] 1 hS K26) ?_
 rintro _ w_ ⟨b, rfl, hS1⟩
 refine rn (cq (cr ?_))
 refine sQ 3 (ym (.slice B code.length c)) ?_
 obtain ⟨r_1, hc, hF⟩ := bI hF
 refine sc 4 rfl rfl (yC [.slice B code.length c] k_call_42 (c_spec_DrawIsValidBloch code B c code.length _ rfl (hS1.inn0 [(true, 0)] rfl) hc)) ?_
 rintro _ w_1 ⟨B2, c2, rfl, hq, ho, hd⟩
 have hS2 := ST.outR00 hS1 hd ho (sk 0 (fun _ h => by cases h))
 have ho1 : Org w0 [] [⟨B, (code.flatMap enc_u8)⟩] [⟨B2, (r_1.Cells.flatMap eN0)⟩] := org_trans0 hS1 ho (org_cons (org_mem (i := 0) rfl) org_nil)
 have hS3 : ST w0 [] _ [⟨aD b, 29, [.slice none 0 0], 1⟩] [⟨B2, (r_1.Cells.flatMap eN0)⟩, ⟨B, (code.flatMap enc_u8)⟩] := hS2
 refine s0 (yT 0 1 (aD b) 29 (gB_ r_1 B2 c2) (kB_ r_1 B2 c2) 0 hS3 K14) ?_
 rintro _ w_2 ⟨rfl, hS4⟩
 refine rn (ct_ ?_)
 obtain rfl := sI hF
 exact ret1 Tryz.results18 (v1 := gB_ r_1 B2 c2) (resAt_cellA (B := aD b) (i := 0) (cs := kB_ r_1 B2 c2) (vs := kB_ r_1 B2 c2) rfl K25 K14 (hS4.c 0) rfl rfl) ⟨B2, c2, rfl, (len_le rfl hq), (org_cons (org_sub ho1 (sk 0 (fun _ h => by cases h))) org_nil), (ST.subR (R' := [⟨B2, (r_1.Cells.flatMap eN0)⟩]) (hS4.sel [] rfl rfl) (sk 0 (fun _ h => by cases h)))⟩

theorem c_impl_blochExp (b : TBloch) (B : Option Addr) (c n : Nat) (w0 : World) (hn : b.Cells.length = n) (hS : ST w0 [] w0 [] [⟨B, (b.Cells.flatMap eN0)⟩]) {r_ : Int} (hF : F_impl_blochExp b = some r_) :
  CV Tryz.prog 32 #[.agg #[.slice B n c]] w0 (fun v w' => v = vi r_ ∧ ST w0 [] w' [] []) := by
 subst hn
 unfold F_impl_blochExp at hF
 refine cv_of_cw 19 Tryz.func32 rfl Tryz.ntmps32 rfl ?_
 refine cq (cr ?_)
 refine sS 1 (yB 29 (gB_ b B c) (kB_ b B c) 1 hS) ?_
 rintro _ w_ ⟨b1, rfl, hS1⟩
 refine sQ 2 (yg (vi 0)) (rn (cq (cr ?_)))
 refine sQ 3 (yg (vi 0)) (rn (cq (cq (cr ?_))))
 refine sQ 6 (yd (aD b1) 0 0 K18 K8) <| sQ 7 (yl (aD b1) 0 (kB_ b B c) (.slice B b.Cells.length c) K12 (hS1.c 0)) <| sQ 8 (Y_len (B := B) (m := b.Cells.length) (c := c) K7 rfl rfl) <| sQ 9 (ym (vi 0)) (rn ?_)
 obtain ⟨hN, hF⟩ := chk_inv hF
 obtain ⟨z, hz, hF1⟩ := bI hF
 refine cw_block ?_
 refine cw_loop (fun k f w => ∃ (i : Nat) (most : Int), FF f [(3, vi most), (7, .slice B b.Cells.length c), (8, vi (b.Cells.length : Int)), (9, vi (i : Int))] ∧ ST w0 [] w [] [⟨B, (b.Cells.flatMap eN0)⟩] ∧ i + k = b.Cells.length ∧ forN (F_impl_blochExp_l1 b) k i most = some z) b.Cells.length ⟨0, 0, (fc rfl (fc rfl (fc rfl (fc rfl fn_)))), (hS1.sel [] rfl rfl), Nat.zero_add _, hz⟩ ?_
 rintro k_ f w ⟨i, most, hf, hS2, hik, hL⟩
 refine cq (cr ?_)
 refine sQ 10 (yL (i : Int) (b.Cells.length : Int) rfl (hf.g 9 3) (hf.g 8 2)) (rn (cq ?_))
 refine cw_cond (b := (decide ((i : Int) < (b.Cells.length : Int)))) rfl (fun hlt => ?_) (fun hlt => ?_)
 ·skip
  have hlt1 : i < b.Cells.length := by have h := of_decide_eq_true hlt; omega
  obtain ⟨K9, rfl⟩ : ∃ k2, k_ = k2 + 1 := ⟨k_ - 1, by omega⟩
  obtain ⟨y, hb, hL1⟩ := forN_go hL
  unfold F_impl_blochExp_l1 at hb
  refine cw_skip (cq (cw_block (cq (cr ?_))))
  obtain ⟨x, hx, hb⟩ := bI hb
  refine sQ 11 (Y_index (B := B) (m := b.Cells.length) (c := c) (k := .i64) (i := (i : Int)) K7 K0 rfl (hf.g 7 1) (hf.g 9 3) (gi_isSome eN2 rfl (hS2.rf (i := 0) rfl) hx) (getI_nn hx) (getI_ltI hx rfl)) <| sQ 12 (ya B ((i : Int).toNat * 5) (b.Cells.flatMap eN0) (kD_ x) K3 K0 (hS2.rf (i := 0) rfl) rfl rfl (eN2 x) (gi_seg eN2 hx)) ?_
  refine sS 5 (yN kZ_ 5 hS2 K5) ?_
  rintro _ w_1 ⟨b2, rfl, hS3⟩
  refine s0 (yT 0 5 (aD b2) 54 (gD_ x) (kD_ x) 0 hS3 K0) ?_
  rintro _ w_2 ⟨rfl, hS4⟩
  refine rn (cr ?_)
  refine sQ 13 (ym (vi most) rfl (hf.g 3 0)) <| sQ 14 (yd (aD b2) 0 0 K30 K2) <| sQ 15 (yl (aD b2) 4 (kD_ x) (vi x.Exp) K1 (hS4.c 0)) <| sQ 16 (Y_max2 (k := .i64) (a := most) (b := x.Exp) rfl rfl rfl) <| sQ 3 (yg (vi (if most < x.Exp then x.Exp else most))) (rn (cr ?_))
  refine sQ 17 (yP (i : Int) 1 rfl (hf.g 9 3)) <| sQ 9 (ym (vi (i64.wrap ((i : Int) + 1)))) (rn ?_)
  obtain rfl := sI hb
  exact ⟨K9, Nat.lt_succ_self _, i + 1, (if most < x.Exp then x.Exp else most), (fc rfl (fc (hf.g 7 1) (fc (hf.g 8 2) (fc (congrArg (Value.int .i64) (wr_succ hlt1 hN)) fn_)))), (hS4.sel [] rfl rfl), (by omega), hL1⟩
 ·skip
  obtain rfl : k_ = 0 := by have h := of_decide_eq_false hlt; omega
  refine cw_exit rfl ?_
  obtain rfl := sI hL
  refine cq (cr ?_)
  refine sQ 18 (ym (vi most) rfl (hf.g 3 0)) <| sQ 2 (yg (vi most)) (rn (ct_ ?_))
  obtain rfl := sI hF1
  exact ret1 Tryz.results32 (v1 := vi most) (resAt_tmp rfl) ⟨rfl, (hS2.sN [])⟩

theorem c_impl_ParityOf (b : TBloch) (B : Option Addr) (c n : Nat) (w0 : World) (hn : b.Cells.length = n) (hS : ST w0 [] w0 [] [⟨B, (b.Cells.flatMap eN0)⟩]) {r_ : List UInt8} {r_1 : Bool} (hF : F_impl_ParityOf b = some (r_, r_1)) :
  CV Tryz.prog 19 #[.agg #[.slice B n c]] w0 (fun v w' => v = .tuple #[.string (bstr r_), .bool r_1] ∧ ST w0 [] w' [] []) := by
 subst hn
 unfold F_impl_ParityOf at hF
 refine cv_of_cw 42 Tryz.func19 rfl Tryz.ntmps19 rfl ?_
 refine cq (cr ?_)
 refine sS 1 (yB 29 (gB_ b B c) (kB_ b B c) 1 hS) ?_
 rintro _ w_ ⟨b1, rfl, hS1⟩
 refine sQ 2 (yg (.string (bstr ([] : List UInt8)))) <| sQ 3 (yg (.bool false)) (rn (cq (cq (cr ?_))))
 refine sQ 10 (yb (aD b1) 0 (kB_ b B c) K25 K14 (hS1.c 0)) ?_
 obtain ⟨r_2, hc, hF⟩ := bI hF
 refine sc 11 rfl rfl (yC [gB_ b B c] k_call_30 (c_impl_IsValidBloch b B c b.Cells.length _ rfl (hS1.inn0 [(true, 0)] rfl) hc)) ?_
 rintro _ w_1 ⟨rfl, hd⟩
 have hS2 := hS1.out00 hd
 refine sQ 12 (Y_not (p := r_2) rfl rfl) (rn ?_)
 refine cw_cond (b := (!r_2)) rfl (fun hb => ?_) (fun hb => ?_)
 ·skip
  have hF1 := ct hF hb
  refine cq (cr ?_)
  refine sQ 2 (yg (.string (bstr ([] : List UInt8)))) <| sQ 3 (yg (.bool false)) (rn (ct_ ?_))
  obtain ⟨rfl, rfl⟩ := pr2 (sI hF1)
  exact ret2 Tryz.results19 (v1 := .string (bstr ([] : List UInt8))) (resAt_tmp rfl) (v2 := .bool false) (resAt_tmp rfl) ⟨rfl, (hS2.sN [])⟩
 ·skip
  have hF2 := cf' hF hb
  refine cw_skip (cq (cr ?_))
  refine sS 13 (Ys_bslice0 (s := 1) (e := 5) hS2 K60 K116 rfl) ?_
  rintro _ w_2 ⟨b2, rfl, hS3⟩
  refine sQ 14 (yb (aD b1) 0 (kB_ b B c) K25 K14 (hS3.c 0)) ?_
  obtain ⟨r_3, hc1, hF2⟩ := bI hF2
  refine sc 15 rfl rfl (yC [gB_ b B c] k_call_32 (c_impl_blochExp b B c b.Cells.length _ rfl (hS3.inn0 [(true, 0)] rfl) hc1)) ?_
  rintro _ w_3 ⟨rfl, hd1⟩
  have hS4 := hS3.out00 hd1
  refine sQ 4 (yg (.slice (aD b2) 0 0)) <| sQ 5 (yg (vi r_3)) (rn (cq (cq (cr ?_))))
  refine sQ 16 (yd (aD b1) 0 0 K18 K8) <| sQ 17 (yl (aD b1) 0 (kB_ b B c) (.slice B b.Cells.length c) K12 (hS4.c 0)) <| sQ 18 (Y_len (B := B) (m := b.Cells.length) (c := c) K7 rfl rfl) <| sQ 19 (ym (vi 0)) (rn ?_)
  obtain ⟨hN, hF2⟩ := chk_inv hF2
  obtain ⟨z, hz, hF3⟩ := bI hF2
  refine cw_block ?_
  refine cw_loop (fun k f w => ∃ (i : Nat) (out : List Int) (B1 : Option Addr) (c1 : Nat), FF f [(4, .slice B1 out.length c1), (5, vi r_3), (17, .slice B b.Cells.length c), (18, vi (b.Cells.length : Int)), (19, vi (i : Int))] ∧ ST w0 [] w [⟨B1, 5, (out.flatMap enc_u8), c1 * 1⟩] [⟨B, (b.Cells.flatMap eN0)⟩] ∧ i + k = b.Cells.length ∧ forX (F_impl_ParityOf_l1 b r_3) k i out = some z) b.Cells.length ⟨0, [], aD b2, 0, (fc rfl (fc rfl (fc rfl (fc rfl (fc rfl fn_))))), (hS4.sel [1] rfl rfl), Nat.zero_add _, hz⟩ ?_
  rintro k_ f w ⟨i, out, B1, c1, hf, hS5, hik, hL⟩
  refine cq (cr ?_)
  refine sQ 20 (yL (i : Int) (b.Cells.length : Int) rfl (hf.g 19 4) (hf.g 18 3)) (rn (cq ?_))
  refine cw_cond (b := (decide ((i : Int) < (b.Cells.length : Int)))) rfl (fun hlt => ?_) (fun hlt => ?_)
  ·skip
   have hlt1 : i < b.Cells.length := by have h := of_decide_eq_true hlt; omega
   obtain ⟨K9, rfl⟩ : ∃ k2, k_ = k2 + 1 := ⟨k_ - 1, by omega⟩
   obtain ⟨y, hb1, hL1⟩ := forX_go hL
   unfold F_impl_ParityOf_l1 at hb1
   refine cw_skip (cq (cw_block (cq (cr ?_))))
   obtain ⟨x, hx, hb1⟩ := bI hb1
   refine sQ 21 (Y_index (B := B) (m := b.Cells.length) (c := c) (k := .i64) (i := (i : Int)) K7 K0 rfl (hf.g 17 2) (hf.g 19 4) (gi_isSome eN2 rfl (hS5.rf (i := 0) rfl) hx) (getI_nn hx) (getI_ltI hx rfl)) <| sQ 22 (ya B ((i : Int).toNat * 5) (b.Cells.flatMap eN0) (kD_ x) K3 K0 (hS5.rf (i := 0) rfl) rfl rfl (eN2 x) (gi_seg eN2 hx)) ?_
   refine sS 7 (yN kZ_ 5 hS5 K5) ?_
   rintro _ w_4 ⟨b3, rfl, hS6⟩
   refine s0 (yT 1 5 (aD b3) 54 (gD_ x) (kD_ x) 0 hS6 K0) ?_
   rintro _ w_5 ⟨rfl, hS7⟩
   refine rn (cq (cr ?_))
   refine sQ 24 (yb (aD b3) 0 (kD_ x) K3 K0 (hS7.c 1)) <| sQ 25 (ym (vi r_3) rfl (hf.g 5 1)) ?_
   obtain ⟨⟨r_4, r_5⟩, hc2, hb1⟩ := bI hb1
   refine sc 26 rfl rfl (yC [gD_ x, vi r_3] K123 (c_impl_raised x r_3 _  (hS7.inn0 [] rfl) hc2)) ?_
   rintro _ w_6 ⟨rfl, hd2⟩
   have hS8 := hS7.out00 hd2
   refine sQ 23 (ym (.tuple #[gR_ r_4, .bool r_5])) <| sQ 27 (ye (gR_ r_4)) <| sQ 28 (ye (.bool r_5)) ?_
   refine sS 8 (yN [vi 0, vi 0, vi 0, vi 0] 4 hS8 K16) ?_
   rintro _ w_7 ⟨b4, rfl, hS9⟩
   refine s0 (yT 2 4 (aD b4) 52 (gR_ r_4) (kR_ r_4) 0 hS9 K4) ?_
   rintro _ w_8 ⟨rfl, hS10⟩
   refine sQ 9 (yg (.bool r_5)) (rn (cq (cq (cr ?_))))
   refine sQ 29 (ym (.bool r_5)) <| sQ 30 (Y_not (p := r_5) rfl rfl) (rn ?_)
   refine cw_cond (b := (!r_5)) rfl (fun hb2 => ?_) (fun hb2 => ?_)
   ·skip
    have hF4 := ct hb1 hb2
    refine cq (cr ?_)
    refine sQ 2 (yg (.string (bstr ([] : List UInt8)))) <| sQ 3 (yg (.bool false)) (rn (ct_ ?_))
    obtain rfl := sI hF4
    obtain rfl := sI hL1
    obtain ⟨rfl, rfl⟩ := pr2 (sI hF3)
    exact ret2 Tryz.results19 (v1 := .string (bstr ([] : List UInt8))) (resAt_tmp rfl) (v2 := .bool false) (resAt_tmp rfl) ⟨rfl, (hS10.sN [])⟩
   ·skip
    have hF5 := cf' hb1 hb2
    refine cw_skip (cr ?_)
    refine sQ 31 (ym (.slice B1 out.length c1) rfl (hf.g 4 0)) <| sQ 32 (yd (aD b4) 0 0 K20 K2) <| sQ 33 (yl (aD b4) 0 (kR_ r_4) (vi r_4.A) K1 (hS10.c 2)) <| sQ 34 (Y_band (k := .i64) (a := r_4.A) (b := 1) rfl rfl rfl) <| sQ 35 (Y_conv (k := .i64) (a := (bits .and .i64 r_4.A 1)) (T := 3) (T' := 5) K64 k_int_5_u8 rfl rfl) <| sQ 36 (Y_add (k := .u8) (a := 48) (b := (IntKind.u8.wrap (bits .and .i64 r_4.A 1))) rfl rfl rfl) ?_
    refine sS 37 (Ys_bslice (s := 1) (len := 1) (vs := [(0, .int .u8 (IntKind.u8.wrap (48 + (IntKind.u8.wrap (bits .and .i64 r_4.A 1)))))]) (cs := [.int .u8 (IntKind.u8.wrap (48 + (IntKind.u8.wrap (bits .and .i64 r_4.A 1))))]) (zs := [.int .u8 0]) (m := 1) hS10 K60 K116 k_zc_5 rfl (mpc rfl mpn) rfl rfl rfl (by kernel_rfl) (by kernel_rfl) rfl) ?_
    rintro _ w_9 ⟨b5, rfl, hS11⟩
    obtain ⟨hap, hF5⟩ := chk_inv hF5
    refine sS 38 (Ys_append (s := 1) (by' := 1) (i := 0) (nn := out.length) (c := c1) (k := 1) (len := (out ++ [(IntKind.u8.wrap (48 + (IntKind.u8.wrap (bits .and .i64 r_4.A 1))))]).length) (B := B1) (xs := ([(IntKind.u8.wrap (48 + (IntKind.u8.wrap (bits .and .i64 r_4.A 1))))].flatMap enc_u8)) (cs' := ((out ++ [(IntKind.u8.wrap (48 + (IntKind.u8.wrap (bits .and .i64 r_4.A 1))))]).flatMap enc_u8)) hS11 K60 K116 k_by_5_1 k_zero_5 rfl (by decide) rfl rfl rfl rfl (fm_lenn (l := out) enc_u8_len rfl) rfl (hS11.c 3) (fm_lenn (l := [(IntKind.u8.wrap (48 + (IntKind.u8.wrap (bits .and .i64 r_4.A 1))))]) enc_u8_len rfl) (fm_one' (enc := enc_u8) enc_u8_one [(IntKind.u8.wrap (48 + (IntKind.u8.wrap (bits .and .i64 r_4.A 1))))]) (by have := hap; omega) (by have := hap; simp only [maxLen]; omega) (fm_app _ _) (app_len (l := out) (l' := [(IntKind.u8.wrap (48 + (IntKind.u8.wrap (bits .and .i64 r_4.A 1))))]) rfl rfl)) ?_
    rintro _ w_10 ⟨B2, c2, rfl, hS12⟩
    refine sQ 4 (yg (.slice B2 ((out ++ [(IntKind.u8.wrap (48 + (IntKind.u8.wrap (bits .and .i64 r_4.A 1))))]).length) c2)) (rn (cr ?_))
    refine sQ 39 (yP (i : Int) 1 rfl (hf.g 19 4)) <| sQ 19 (ym (vi (i64.wrap ((i : Int) + 1)))) (rn ?_)
    obtain rfl := sI hF5
    exact ⟨K9, Nat.lt_succ_self _, i + 1, (out ++ [(IntKind.u8.wrap (48 + (IntKind.u8.wrap (bits .and .i64 r_4.A 1))))]), B2, c2, (fc rfl (fc (hf.g 5 1) (fc (hf.g 17 2) (fc (hf.g 18 3) (fc (congrArg (Value.int .i64) (wr_succ hlt1 hN)) fn_))))), (hS12.sel [0] rfl rfl), (by omega), hL1⟩
  ·skip
   obtain rfl : k_ = 0 := by have h := of_decide_eq_false hlt; omega
   refine cw_exit rfl ?_
   obtain rfl := sI hL
   refine cq (cr ?_)
   refine sQ 40 (ym (.slice B1 out.length c1) rfl (hf.g 4 0)) <| sQ 41 (Y_b2s (l := out) (B := B1) (m := out.length) (c := c1) K60 k_int_5_u8 K96 rfl rfl rfl (hS5.c 0)) <| sQ 2 (yg (.string (bstr (bts out)))) <| sQ 3 (yg (.bool true)) (rn (ct_ ?_))
   obtain ⟨rfl, rfl⟩ := pr2 (sI hF3)
   exact ret2 Tryz.results19 (v1 := .string (bstr (bts out))) (resAt_tmp rfl) (v2 := .bool true) (resAt_tmp rfl) ⟨rfl, (hS5.sN [])⟩

theorem c_spec_l2C_bloch (c : Tl2C) (a : TBloch) (b : TBloch) (B : Option Addr) (B1 : Option Addr) (c1 n : Nat) (B2 : Option Addr) (c2 n1 : Nat) (w0 : World) (hn : a.Cells.length = n) (hn1 : b.Cells.length = n1) (hS : ST w0 (bl [⟨B, 59, [.bool c.bad], 1⟩]) w0 [⟨B, 59, [.bool c.bad], 1⟩] [⟨B1, (a.Cells.flatMap eN0)⟩, ⟨B2, (b.Cells.flatMap eN0)⟩]) {r_ : TBloch} {m : Tl2C} (hF : F_spec_l2C_bloch c a b = some (r_, m)) :
  CV Tryz.prog 83 #[pt B 0, .agg #[.slice B1 n c1], .agg #[.slice B2 n1 c2]] w0 (fun v w' => ∃ (B3 : Option Addr) (c3 : Nat), v = (gB_ r_ B3 c3) ∧ ST w0 (bl [⟨B, 59, [.bool c.bad], 1⟩]) w' [⟨B, 59, [.bool m.bad], 1⟩, ⟨B3, 54, (r_.Cells.flatMap eN0), c3 * 5⟩] []) := by
 subst hn
 subst hn1
 unfold F_spec_l2C_bloch at hF
 refine cv_of_cw 53 Tryz.func83 rfl Tryz.ntmps83 rfl ?_
 refine cq (cr ?_)
 refine sS 4 (yB 29 (gB_ a B1 c1) (kB_ a B1 c1) 1 hS) ?_
 rintro _ w_ ⟨b1, rfl, hS1⟩
 refine sS 5 (yB 29 (gB_ b B2 c2) (kB_ b B2 c2) 1 hS1) ?_
 rintro _ w_1 ⟨b2, rfl, hS2⟩
 refine sS 6 (yN [.slice none 0 0] 1 hS2 K26) ?_
 rintro _ w_2 ⟨b3, rfl, hS3⟩
 refine rn (cq (cr ?_))
 refine sS 7 (yN [.slice none 0 0] 1 hS3 K26) ?_
 rintro _ w_3 ⟨b4, rfl, hS4⟩
 refine rn (cq (cq (cr ?_)))
 refine sQ 8 (yg (vi 0)) (rn ?_)
 obtain ⟨z, hz, hF1⟩ := bI hF
 have hS6 := hS4.addNil 54
 refine cw_block ?_
 refine cw_loop (fun k f w => ∃ (i1 : Nat) (bad : Bool) (Cells : List TDyadic) (B4 : Option Addr) (c4 : Nat), FF f [(0, pt B 0), (4, pt (aD b1) 0), (5, pt (aD b2) 0), (6, pt (aD b3) 0), (7, pt (aD b4) 0), (8, vi (i1 : Int))] ∧ ST w0 (bl [⟨B, 59, [.bool c.bad], 1⟩]) w [⟨B, 59, [.bool bad], 1⟩, ⟨aD b1, 29, kB_ a B1 c1, 1⟩, ⟨aD b2, 29, kB_ b B2 c2, 1⟩, ⟨aD b3, 29, [.slice none 0 0], 1⟩, ⟨aD b4, 29, [.slice B4 Cells.length c4], 1⟩, ⟨B4, 54, (Cells.flatMap eN0), c4 * 5⟩] [⟨B1, (a.Cells.flatMap eN0)⟩, ⟨B2, (b.Cells.flatMap eN0)⟩] ∧ i1 + k = 3 ∧ forN (F_spec_l2C_bloch_l1 a b) k i1 (bad, Cells) = some z) 3 ⟨0, c.bad, [], none, 0, (fc rfl (fc rfl (fc rfl (fc rfl (fc rfl (fc rfl fn_)))))), (hS6.sel [0, 1, 2, 3, 4, 5] rfl rfl), Nat.zero_add _, hz⟩ ?_
 rintro k_ f w ⟨i1, bad, Cells, B4, c4, hf, hS5, hik, hL⟩
 refine cq (cq (cr ?_))
 refine sQ 12 (ym (vi (i1 : Int)) rfl (hf.g 8 5)) <| sQ 13 (yL (i1 : Int) 3) (rn ?_)
 refine cw_cond (b := (decide ((i1 : Int) < 3))) rfl (fun hlt => ?_) (fun hlt => ?_)
 ·skip
  have hlt1 : i1 < 3 := by have h := of_decide_eq_true hlt; omega
  obtain ⟨K9, rfl⟩ : ∃ k2, k_ = k2 + 1 := ⟨k_ - 1, by omega⟩
  obtain ⟨y, hb, hL1⟩ := forN_go hL
  unfold F_spec_l2C_bloch_l1 at hb
  refine cw_skip (cq (cw_block (cq (cr ?_))))
  refine sQ 9 (yg (vi 0)) (rn ?_)
  obtain ⟨z1, hz1, hF2⟩ := bI hb
  refine cw_block ?_
  refine cw_loop (fun k f w => ∃ (j : Nat) (bad1 : Bool) (Cells1 : List TDyadic) (B5 : Option Addr) (c5 : Nat), FF f [(0, pt B 0), (4, pt (aD b1) 0), (5, pt (aD b2) 0), (6, pt (aD b3) 0), (7, pt (aD b4) 0), (8, vi (i1 : Int)), (9, vi (j : Int))] ∧ ST w0 (bl [⟨B, 59, [.bool c.bad], 1⟩]) w [⟨B, 59, [.bool bad1], 1⟩, ⟨aD b1, 29, kB_ a B1 c1, 1⟩, ⟨aD b2, 29, kB_ b B2 c2, 1⟩, ⟨aD b3, 29, [.slice none 0 0], 1⟩, ⟨aD b4, 29, [.slice B5 Cells1.length c5], 1⟩, ⟨B5, 54, (Cells1.flatMap eN0), c5 * 5⟩] [⟨B1, (a.Cells.flatMap eN0)⟩, ⟨B2, (b.Cells.flatMap eN0)⟩] ∧ j + k = 3 ∧ forN (F_spec_l2C_bloch_l2 a Cells i1 b bad) k j (bad1, Cells1) = some z1) 3 ⟨0, bad, Cells, B4, c4, (fc (hf.g 0 0) (fc (hf.g 4 1) (fc (hf.g 5 2) (fc (hf.g 6 3) (fc (hf.g 7 4) (fc (hf.g 8 5) (fc rfl fn_))))))), (hS5.sel [0, 1, 2, 3, 4, 5] rfl rfl), Nat.zero_add _, hz1⟩ ?_
  rintro K15 f w ⟨j, bad1, Cells1, B5, c5, hf1, hS7, hik1, hL2⟩
  refine cq (cq (cr ?_))
  refine sQ 16 (ym (vi (j : Int)) rfl (hf1.g 9 6)) <| sQ 17 (yL (j : Int) 3) (rn ?_)
  refine cw_cond (b := (decide ((j : Int) < 3))) rfl (fun hlt2 => ?_) (fun hlt2 => ?_)
  ·skip
   have hlt3 : j < 3 := by have h := of_decide_eq_true hlt2; omega
   obtain ⟨K29, rfl⟩ : ∃ k2, K15 = k2 + 1 := ⟨K15 - 1, by omega⟩
   obtain ⟨y1, hb1, hL3⟩ := forN_go hL2
   unfold F_spec_l2C_bloch_l2 at hb1
   refine cw_skip (cq (cw_block (cq (cr ?_))))
   refine sQ 20 (Y_buildS (zs := kZ_) (vs := []) (cs := kZ_) K24 K5 rfl mpn rfl) ?_
   refine sS 10 (yN kZ_ 5 hS7 K5) ?_
   rintro _ w_4 ⟨b5, rfl, hS8⟩
   refine s0 (yT 6 5 (aD b5) 54 gZ_ kZ_ 0 hS8 K0) ?_
   rintro _ w_5 ⟨rfl, hS9⟩
   refine rn (cq (cq (cr ?_)))
   refine sQ 11 (yg (vi 0)) (rn ?_)
   obtain ⟨z2, hz2, hF3⟩ := bI hb1
   refine cw_block ?_
   refine cw_loop (fun k f w => ∃ (K11 : Nat) (bad2 : Bool) (A : Int) (B6 : Int) (C : Int) (D : Int) (Exp : Int), FF f [(0, pt B 0), (4, pt (aD b1) 0), (5, pt (aD b2) 0), (6, pt (aD b3) 0), (7, pt (aD b4) 0), (8, vi (i1 : Int)), (9, vi (j : Int)), (10, pt (aD b5) 0), (11, vi (K11 : Int))] ∧ ST w0 (bl [⟨B, 59, [.bool c.bad], 1⟩]) w [⟨B, 59, [.bool bad2], 1⟩, ⟨aD b1, 29, kB_ a B1 c1, 1⟩, ⟨aD b2, 29, kB_ b B2 c2, 1⟩, ⟨aD b3, 29, [.slice none 0 0], 1⟩, ⟨aD b4, 29, [.slice B5 Cells1.length c5], 1⟩, ⟨B5, 54, (Cells1.flatMap eN0), c5 * 5⟩, ⟨aD b5, 54, [vi A, vi B6, vi C, vi D, vi Exp], 5⟩] [⟨B1, (a.Cells.flatMap eN0)⟩, ⟨B2, (b.Cells.flatMap eN0)⟩] ∧ K11 + k = 3 ∧ forN (F_spec_l2C_bloch_l3 a Cells i1 b j bad) k K11 (bad2, A, B6, C, D, Exp) = some z2) 3 ⟨0, bad1, 0, 0, 0, 0, 0, (fc (hf1.g 0 0) (fc (hf1.g 4 1) (fc (hf1.g 5 2) (fc (hf1.g 6 3) (fc (hf1.g 7 4) (fc (hf1.g 8 5) (fc (hf1.g 9 6) (fc rfl (fc rfl fn_))))))))), (hS9.sel [0, 1, 2, 3, 4, 5, 6] rfl rfl), Nat.zero_add _, hz2⟩ ?_
   rintro K55 f w ⟨K11, bad2, A, B6, C, D, Exp, hf2, hS10, hik2, hL4⟩
   refine cq (cq (cr ?_))
   refine sQ 21 (ym (vi (K11 : Int)) rfl (hf2.g 11 8)) <| sQ 22 (yL (K11 : Int) 3) (rn ?_)
   refine cw_cond (b := (decide ((K11 : Int) < 3))) rfl (fun hlt4 => ?_) (fun hlt4 => ?_)
   ·skip
    have hlt5 : K11 < 3 := by have h := of_decide_eq_true hlt4; omega
    obtain ⟨K109, rfl⟩ : ∃ k2, K55 = k2 + 1 := ⟨K55 - 1, by omega⟩
    obtain ⟨y2, hb2, hL5⟩ := forN_go hL4
    unfold F_spec_l2C_bloch_l3 at hb2
    refine cw_skip (cq (cw_block ?_))
    obtain ⟨x, hx, hb2⟩ := bI hb2
    obtain ⟨x1, hx1, hb2⟩ := bI hb2
    obtain ⟨⟨r_1, m1⟩, hc, hb2⟩ := bI hb2
    obtain ⟨⟨r_2, m2⟩, hc1, hb2⟩ := bI hb2
    refine cw_mid (fun f w => FF f [(0, pt B 0), (4, pt (aD b1) 0), (5, pt (aD b2) 0), (6, pt (aD b3) 0), (7, pt (aD b4) 0), (8, vi (i1 : Int)), (9, vi (j : Int)), (10, pt (aD b5) 0), (11, vi (K11 : Int))] ∧ ST w0 (bl [⟨B, 59, [.bool c.bad], 1⟩]) w [⟨B, 59, [.bool m2.bad], 1⟩, ⟨aD b1, 29, kB_ a B1 c1, 1⟩, ⟨aD b2, 29, kB_ b B2 c2, 1⟩, ⟨aD b3, 29, [.slice none 0 0], 1⟩, ⟨aD b4, 29, [.slice B5 Cells1.length c5], 1⟩, ⟨B5, 54, (Cells1.flatMap eN0), c5 * 5⟩, ⟨aD b5, 54, kD_ r_2, 5⟩] [⟨B1, (a.Cells.flatMap eN0)⟩, ⟨B2, (b.Cells.flatMap eN0)⟩]) ?_ ?_
    ·skip
     refine ra_start (hS10.se [1, 2, 3, 4, 5]).fn (by kernel_rfl) ?_
     have hS14 := hS10.drew
     refine rq 0 25 (v := pt B 0) rfl (hS14.se [1, 2, 3, 4, 5]) (fun w' hw' => (ym (pt B 0) rfl (hf2.g 0 0))) ?_
     refine rq 2 27 (v := pt B 0) rfl (hS14.se [1, 2, 3, 4, 5]) (fun w' hw' => (ym (pt B 0) rfl (hf2.g 0 0))) ?_
     refine rq 3 28 (v := pt (aD b1) 0) rfl (hS14.se [1, 2, 3, 4, 5]) (fun w' hw' => (yd (aD b1) 0 0 K18 K8 rfl (hf2.g 4 1))) ?_
     refine rq 4 29 (v := .slice B1 a.Cells.length c1) rfl (hS14.se [1, 2, 3, 4, 5]) (fun w' hw' => (yl (aD b1) 0 (kB_ a B1 c1) (.slice B1 a.Cells.length c1) K12 (ST.cf hw' (i := 0) rfl))) ?_
     refine rq 5 30 (v := vi (i1 : Int)) rfl (hS14.se [1, 2, 3, 4, 5]) (fun w' hw' => (ym (vi (i1 : Int)) rfl (hf2.g 8 5))) ?_
     refine rq 6 31 (v := vi (i64.wrap (3 * (i1 : Int)))) rfl (hS14.se [1, 2, 3, 4, 5]) (fun w' hw' => (yX 3 (i1 : Int))) ?_
     refine rq 7 32 (v := vi (K11 : Int)) rfl (hS14.se [1, 2, 3, 4, 5]) (fun w' hw' => (ym (vi (K11 : Int)) rfl (hf2.g 11 8))) ?_
     refine rq 8 33 (v := vi (i64.wrap ((i64.wrap (3 * (i1 : Int))) + (K11 : Int)))) rfl (hS14.se [1, 2, 3, 4, 5]) (fun w' hw' => (yP (i64.wrap (3 * (i1 : Int))) (K11 : Int))) ?_
     refine rq 9 34 (v := pt B1 ((i64.wrap ((i64.wrap (3 * (i1 : Int))) + (K11 : Int))).toNat * 5)) rfl (hS14.se [1, 2, 3, 4, 5]) (fun w' hw' => (Y_index (B := B1) (m := a.Cells.length) (c := c1) (k := .i64) (i := (i64.wrap ((i64.wrap (3 * (i1 : Int))) + (K11 : Int)))) K7 K0 rfl rfl rfl (gi_isSome eN2 rfl (ST.rf hw' (i := 0) rfl) hx) (getI_nn hx) (getI_ltI hx rfl))) ?_
     refine rq 10 35 (v := gD_ x) rfl (hS14.se [1, 2, 3, 4, 5]) (fun w' hw' => (ya B1 ((i64.wrap ((i64.wrap (3 * (i1 : Int))) + (K11 : Int))).toNat * 5) (a.Cells.flatMap eN0) (kD_ x) K3 K0 (ST.rf hw' (i := 0) rfl) rfl rfl (eN2 x) (gi_seg eN2 hx))) ?_
     refine rq 11 36 (v := pt (aD b2) 0) rfl (hS14.se [1, 2, 3, 4, 5]) (fun w' hw' => (yd (aD b2) 0 0 K18 K8 rfl (hf2.g 5 2))) ?_
     refine rq 12 37 (v := .slice B2 b.Cells.length c2) rfl (hS14.se [1, 2, 3, 4, 5]) (fun w' hw' => (yl (aD b2) 0 (kB_ b B2 c2) (.slice B2 b.Cells.length c2) K12 (ST.cf hw' (i := 1) rfl))) ?_
     refine rq 13 38 (v := vi (K11 : Int)) rfl (hS14.se [1, 2, 3, 4, 5]) (fun w' hw' => (ym (vi (K11 : Int)) rfl (hf2.g 11 8))) ?_
     refine rq 14 39 (v := vi (i64.wrap (3 * (K11 : Int)))) rfl (hS14.se [1, 2, 3, 4, 5]) (fun w' hw' => (yX 3 (K11 : Int))) ?_
     refine rq 15 40 (v := vi (j : Int)) rfl (hS14.se [1, 2, 3, 4, 5]) (fun w' hw' => (ym (vi (j : Int)) rfl (hf2.g 9 6))) ?_
     refine rq 16 41 (v := vi (i64.wrap ((i64.wrap (3 * (K11 : Int))) + (j : Int)))) rfl (hS14.se [1, 2, 3, 4, 5]) (fun w' hw' => (yP (i64.wrap (3 * (K11 : Int))) (j : Int))) ?_
     refine rq 17 42 (v := pt B2 ((i64.wrap ((i64.wrap (3 * (K11 : Int))) + (j : Int))).toNat * 5)) rfl (hS14.se [1, 2, 3, 4, 5]) (fun w' hw' => (Y_index (B := B2) (m := b.Cells.length) (c := c2) (k := .i64) (i := (i64.wrap ((i64.wrap (3 * (K11 : Int))) + (j : Int)))) K7 K0 rfl rfl rfl (gi_isSome eN2 rfl (ST.rf hw' (i := 1) rfl) hx1) (getI_nn hx1) (getI_ltI hx1 rfl))) ?_
     refine rq 18 43 (v := gD_ x1) rfl (hS14.se [1, 2, 3, 4, 5]) (fun w' hw' => (ya B2 ((i64.wrap ((i64.wrap (3 * (K11 : Int))) + (j : Int))).toNat * 5) (b.Cells.flatMap eN0) (kD_ x1) K3 K0 (ST.rf hw' (i := 1) rfl) rfl rfl (eN2 x1) (gi_seg eN2 hx1))) ?_
     refine rA [1, 19] ?_
     refine ra_y 26 (i := 1) (v := .agg #[vi A, vi B6, vi C, vi D, vi Exp]) rfl rfl rfl (yb (aD b5) 0 [vi A, vi B6, vi C, vi D, vi Exp] K3 K0 (hS14.c 6) rfl (hf2.g 10 7)) (hS14.se [1, 2, 3, 4, 5]) ?_ ?_
     ·skip
      refine rA [19] ?_
      refine rC 44 19 rfl (yC [pt B 0, gD_ x, gD_ x1] K43 (c_spec_l2C_mul (Tl2C.mk bad2) x x1 B _  (hS14.inn [true, false, false, false, false, false, false] rfl [] rfl) hc)) ?_ ?_
      ·rintro _ w_6 ⟨rfl, hd⟩
       have hS15 := hS14.out [true, false, false, false, false, false, false] rfl hd
       refine ⟨(hS15.se [0, 1, 2, 3, 4]), ?_⟩
       refine rA [20] ?_
       refine rC 45 20 rfl (yC [pt B 0, .agg #[vi A, vi B6, vi C, vi D, vi Exp], gD_ r_1] K48 (c_spec_l2C_add m1 (TDyadic.mk (TRing.mk A B6 C D) Exp) r_1 B _  (hS15.inn [false, false, false, false, false, false, true] rfl [] rfl) hc1)) ?_ ?_
       ·rintro _ w_7 ⟨rfl, hd1⟩
        have hS16 := hS15.out [false, false, false, false, false, false, true] rfl hd1
        refine ⟨(hS16.se [0, 1, 2, 3, 4]), ?_⟩
        refine rA [21] ?_
        refine rZ 21 rfl (yT 5 5 (aD b5) 54 (gD_ r_2) (kD_ r_2) 0 hS16 K0 rfl (hf2.g 10 7)) ?_ ?_
        ·rintro _ w_8 ⟨rfl, hS17⟩
         refine ⟨(hS17.se [0, 1, 2, 3, 4]), ?_⟩
         refine ra_done (by kernel_rfl) ?_
         exact ⟨(fc (hf2.g 0 0) (fc (hf2.g 4 1) (fc (hf2.g 5 2) (fc (hf2.g 6 3) (fc (hf2.g 7 4) (fc (hf2.g 8 5) (fc (hf2.g 9 6) (fc (hf2.g 10 7) (fc (hf2.g 11 8) fn_))))))))), (hS17.sel [6, 0, 1, 2, 3, 4, 5] rfl rfl)⟩
        exact aN
       exact aN
      exact aN
     refine rC 44 19 rfl (yC [pt B 0, gD_ x, gD_ x1] K43 (c_spec_l2C_mul (Tl2C.mk bad2) x x1 B _  (hS14.inn [true, false, false, false, false, false, false] rfl [] rfl) hc)) ?_ ?_
     ·rintro _ w_9 ⟨rfl, hd2⟩
      have hS18 := hS14.out [true, false, false, false, false, false, false] rfl hd2
      refine ⟨(hS18.se [0, 1, 2, 3, 4]), ?_⟩
      refine rA [1] ?_
      refine ra_y 26 (i := 1) (v := .agg #[vi A, vi B6, vi C, vi D, vi Exp]) rfl rfl rfl (yb (aD b5) 0 [vi A, vi B6, vi C, vi D, vi Exp] K3 K0 (hS18.c 5) rfl (hf2.g 10 7)) (hS18.se [0, 1, 2, 3, 4]) ?_ ?_
      ·skip
       refine rA [20] ?_
       refine rC 45 20 rfl (yC [pt B 0, .agg #[vi A, vi B6, vi C, vi D, vi Exp], gD_ r_1] K48 (c_spec_l2C_add m1 (TDyadic.mk (TRing.mk A B6 C D) Exp) r_1 B _  (hS18.inn [false, false, false, false, false, false, true] rfl [] rfl) hc1)) ?_ ?_
       ·rintro _ w_10 ⟨rfl, hd3⟩
        have hS19 := hS18.out [false, false, false, false, false, false, true] rfl hd3
        refine ⟨(hS19.se [0, 1, 2, 3, 4]), ?_⟩
        refine rA [21] ?_
        refine rZ 21 rfl (yT 5 5 (aD b5) 54 (gD_ r_2) (kD_ r_2) 0 hS19 K0 rfl (hf2.g 10 7)) ?_ ?_
        ·rintro _ w_11 ⟨rfl, hS20⟩
         refine ⟨(hS20.se [0, 1, 2, 3, 4]), ?_⟩
         refine ra_done (by kernel_rfl) ?_
         exact ⟨(fc (hf2.g 0 0) (fc (hf2.g 4 1) (fc (hf2.g 5 2) (fc (hf2.g 6 3) (fc (hf2.g 7 4) (fc (hf2.g 8 5) (fc (hf2.g 9 6) (fc (hf2.g 10 7) (fc (hf2.g 11 8) fn_))))))))), (hS20.sel [6, 0, 1, 2, 3, 4, 5] rfl rfl)⟩
        exact aN
       exact aN
      exact aN
     exact aN
    rintro f w ⟨hf3, hS13⟩
    refine cr ?_
    refine sQ 23 (ym (vi (K11 : Int)) rfl (hf3.g 11 8)) <| sQ 24 (yP (K11 : Int) 1) <| sQ 11 (yg (vi (i64.wrap ((K11 : Int) + 1)))) (rn ?_)
    obtain rfl := sI hb2
    exact ⟨K109, Nat.lt_succ_self _, K11 + 1, m2.bad, r_2.Num.A, r_2.Num.B, r_2.Num.C, r_2.Num.D, r_2.Exp, (fc (hf3.g 0 0) (fc (hf3.g 4 1) (fc (hf3.g 5 2) (fc (hf3.g 6 3) (fc (hf3.g 7 4) (fc (hf3.g 8 5) (fc (hf3.g 9 6) (fc (hf3.g 10 7) (fc (congrArg (Value.int .i64) (wr_succ hlt5 (show 3 ≤ 9223372036854775807 by decide))) fn_))))))))), (hS13.sel [0, 1, 2, 3, 4, 5, 6] rfl rfl), (by omega), hL5⟩
   ·skip
    obtain rfl : K55 = 0 := by have h := of_decide_eq_false hlt4; omega
    refine cw_exit rfl ?_
    obtain rfl := sI hL4
    refine cr ?_
    refine sQ 46 (yd (aD b4) 0 0 K18 K8 rfl (hf2.g 7 4)) <| sQ 47 (yl (aD b4) 0 [.slice B5 Cells1.length c5] (.slice B5 Cells1.length c5) K12 (hS10.c 4)) <| sQ 48 (yb (aD b5) 0 [vi A, vi B6, vi C, vi D, vi Exp] K3 K0 (hS10.c 6) rfl (hf2.g 10 7)) ?_
    refine sS 49 (Ys_bslice (s := 5) (len := 1) (vs := [(0, .agg #[vi A, vi B6, vi C, vi D, vi Exp])]) (cs := [vi A, vi B6, vi C, vi D, vi Exp]) (zs := kZ_) (m := 5) hS10 K7 K0 K36 rfl (mpc rfl mpn) rfl rfl rfl (by kernel_rfl) (by kernel_rfl) rfl) ?_
    rintro _ w_12 ⟨b6, rfl, hS21⟩
    obtain ⟨hap, hF3⟩ := chk_inv hF3
    refine sS 50 (Ys_append (s := 5) (by' := 40) (i := 5) (nn := Cells1.length) (c := c5) (k := 1) (len := (Cells1 ++ [(TDyadic.mk (TRing.mk A B6 C D) Exp)]).length) (B := B5) (xs := ([(TDyadic.mk (TRing.mk A B6 C D) Exp)].flatMap eN0)) (cs' := ((Cells1 ++ [(TDyadic.mk (TRing.mk A B6 C D) Exp)]).flatMap eN0)) hS21 K7 K0 K38 K5 rfl (by decide) rfl rfl rfl rfl (fm_lenn (l := Cells1) eN2 rfl) rfl (hS21.c 7) (fm_lenn (l := [(TDyadic.mk (TRing.mk A B6 C D) Exp)]) eN2 rfl) (fm_one' (enc := eN0) enc_Dyadic_one [(TDyadic.mk (TRing.mk A B6 C D) Exp)]) (by have := hap; omega) (by have := hap; simp only [maxLen]; omega) (fm_app _ _) (app_len (l := Cells1) (l' := [(TDyadic.mk (TRing.mk A B6 C D) Exp)]) rfl rfl)) ?_
    rintro _ w_13 ⟨B7, c6, rfl, hS22⟩
    refine sQ 51 (yd (aD b4) 0 0 K18 K8 rfl (hf2.g 7 4)) ?_
    refine s0 (yT 4 1 (aD b4) 29 (.slice B7 ((Cells1 ++ [(TDyadic.mk (TRing.mk A B6 C D) Exp)]).length) c6) [.slice B7 ((Cells1 ++ [(TDyadic.mk (TRing.mk A B6 C D) Exp)]).length) c6] 0 hS22 K8) ?_
    rintro _ w_14 ⟨rfl, hS23⟩
    refine rn (cr ?_)
    refine sQ 18 (ym (vi (j : Int)) rfl (hf2.g 9 6)) <| sQ 19 (yP (j : Int) 1) <| sQ 9 (yg (vi (i64.wrap ((j : Int) + 1)))) (rn ?_)
    obtain rfl := sI hF3
    exact ⟨K29, Nat.lt_succ_self _, j + 1, bad2, (Cells1 ++ [(TDyadic.mk (TRing.mk A B6 C D) Exp)]), B7, c6, (fc (hf2.g 0 0) (fc (hf2.g 4 1) (fc (hf2.g 5 2) (fc (hf2.g 6 3) (fc (hf2.g 7 4) (fc (hf2.g 8 5) (fc (congrArg (Value.int .i64) (wr_succ hlt3 (show 3 ≤ 9223372036854775807 by decide))) fn_))))))), (hS23.sel [0, 1, 2, 3, 4, 5] rfl rfl), (by omega), hL3⟩
  ·skip
   obtain rfl : K15 = 0 := by have h := of_decide_eq_false hlt2; omega
   refine cw_exit rfl ?_
   obtain rfl := sI hL2
   refine cr ?_
   refine sQ 14 (ym (vi (i1 : Int)) rfl (hf1.g 8 5)) <| sQ 15 (yP (i1 : Int) 1) <| sQ 8 (yg (vi (i64.wrap ((i1 : Int) + 1)))) (rn ?_)
   obtain rfl := sI hF2
   exact ⟨K9, Nat.lt_succ_self _, i1 + 1, bad1, Cells1, B5, c5, (fc (hf1.g 0 0) (fc (hf1.g 4 1) (fc (hf1.g 5 2) (fc (hf1.g 6 3) (fc (hf1.g 7 4) (fc (congrArg (Value.int .i64) (wr_succ hlt1 (show 3 ≤ 9223372036854775807 by decide))) fn_)))))), (hS7.sel [0, 1, 2, 3, 4, 5] rfl rfl), (by omega), hL1⟩
 ·skip
  obtain rfl : k_ = 0 := by have h := of_decide_eq_false hlt; omega
  refine cw_exit rfl ?_
  obtain rfl := sI hL
  refine cq (cr ?_)
  refine sQ 52 (yb (aD b4) 0 [.slice B4 Cells.length c4] K25 K14 (hS5.c 4) rfl (hf.g 7 4)) ?_
  refine s0 (yT 3 1 (aD b3) 29 (.agg #[.slice B4 Cells.length c4]) [.slice B4 Cells.length c4] 0 hS5 K14 rfl (hf.g 6 3)) ?_
  rintro _ w_15 ⟨rfl, hS24⟩
  refine rn (ct_ ?_)
  obtain ⟨rfl, rfl⟩ := pr2 (sI hF1)
  exact ret1 Tryz.results83 (v1 := .agg #[.slice B4 Cells.length c4]) (resAt_cellA (B := aD b3) (i := 0) (cs := [.slice B4 Cells.length c4]) (vs := [.slice B4 Cells.length c4]) (hf.g 6 3) K25 K14 (hS24.c 3) rfl rfl) ⟨B4, c4, rfl, (hS24.sN [0, 5])⟩

theorem c_spec_l9Turn (b : TBloch) (B : Option Addr) (c n : Nat) (w0 : World) (hn : b.Cells.length = n) (hS : ST w0 [] w0 [] [⟨B, (b.Cells.flatMap eN0)⟩]) {r_ : TBloch} (hF : F_spec_l9Turn b = some r_) :
  CV Tryz.prog 84 #[.agg #[.slice B n c]] w0 (fun v w' => ∃ (B1 : Option Addr) (c1 : Nat), v = (gB_ r_ B1 c1) ∧ ST w0 [] w' [⟨B1, 54, (r_.Cells.flatMap eN0), c1 * 5⟩] []) := by
 subst hn
 unfold F_spec_l9Turn at hF
 refine cv_of_cw 25 Tryz.func84 rfl Tryz.ntmps84 rfl ?_
 refine cq (cr ?_)
 refine sS 1 (yB 29 (gB_ b B c) (kB_ b B c) 1 hS) ?_
 rintro _ w_ ⟨b1, rfl, hS1⟩
 refine sS 2 (yN [.slice none 0 0] 1 hS1 K26) ?_
 rintro _ w_1 ⟨b2, rfl, hS2⟩
 refine rn (cq (cr ?_))
 refine sS 3 (yN [.slice none 0 0] 1 hS2 K26) ?_
 rintro _ w_2 ⟨b3, rfl, hS3⟩
 refine rn (cq (cq (cr ?_)))
 refine sQ 4 (yg (vi 0)) (rn ?_)
 obtain ⟨z, hz, hF1⟩ := bI hF
 have hS5 := hS3.addNil 54
 refine cw_block ?_
 refine cw_loop (fun k f w => ∃ (i1 : Nat) (Cells : List TDyadic) (B2 : Option Addr) (c2 : Nat), FF f [(1, pt (aD b1) 0), (2, pt (aD b2) 0), (3, pt (aD b3) 0), (4, vi (i1 : Int))] ∧ ST w0 [] w [⟨aD b1, 29, kB_ b B c, 1⟩, ⟨aD b2, 29, [.slice none 0 0], 1⟩, ⟨aD b3, 29, [.slice B2 Cells.length c2], 1⟩, ⟨B2, 54, (Cells.flatMap eN0), c2 * 5⟩] [⟨B, (b.Cells.flatMap eN0)⟩] ∧ i1 + k = 9 ∧ forN (F_spec_l9Turn_l1 b) k i1 Cells = some z) 9 ⟨0, [], none, 0, (fc rfl (fc rfl (fc rfl (fc rfl fn_)))), (hS5.sel [0, 1, 2, 3] rfl rfl), Nat.zero_add _, hz⟩ ?_
 rintro k_ f w ⟨i1, Cells, B2, c2, hf, hS4, hik, hL⟩
 refine cq (cq (cr ?_))
 refine sQ 5 (ym (vi (i1 : Int)) rfl (hf.g 4 3)) <| sQ 6 (yL (i1 : Int) 9) (rn ?_)
 refine cw_cond (b := (decide ((i1 : Int) < 9))) rfl (fun hlt => ?_) (fun hlt => ?_)
 ·skip
  have hlt1 : i1 < 9 := by have h := of_decide_eq_true hlt; omega
  obtain ⟨K9, rfl⟩ : ∃ k2, k_ = k2 + 1 := ⟨k_ - 1, by omega⟩
  obtain ⟨y, hb, hL1⟩ := forN_go hL
  unfold F_spec_l9Turn_l1 at hb
  refine cw_skip (cq (cw_block ?_))
  obtain ⟨x, hx, hb⟩ := bI hb
  obtain ⟨hap, hb⟩ := chk_inv hb
  refine cw_mid (fun f w => ∃ (B4 : Option Addr) (c4 : Nat), FF f [(1, pt (aD b1) 0), (2, pt (aD b2) 0), (3, pt (aD b3) 0), (4, vi (i1 : Int))] ∧ ST w0 [] w [⟨aD b1, 29, kB_ b B c, 1⟩, ⟨aD b2, 29, [.slice none 0 0], 1⟩, ⟨aD b3, 29, [.slice B4 ((Cells ++ [x]).length) c4], 1⟩, ⟨B4, 54, ((Cells ++ [x]).flatMap eN0), c4 * 5⟩] [⟨B, (b.Cells.flatMap eN0)⟩]) ?_ ?_
  ·skip
   refine ra_start (hS4.se [0, 1]).fn (by kernel_rfl) ?_
   have hS7 := hS4.drew
   refine rq 0 9 (v := pt (aD b3) 0) rfl (hS7.se [0, 1]) (fun w' hw' => (yd (aD b3) 0 0 K18 K8 rfl (hf.g 3 2))) ?_
   refine rq 2 11 (v := pt (aD b1) 0) rfl (hS7.se [0, 1]) (fun w' hw' => (yd (aD b1) 0 0 K18 K8 rfl (hf.g 1 0))) ?_
   refine rq 3 12 (v := .slice B b.Cells.length c) rfl (hS7.se [0, 1]) (fun w' hw' => (yl (aD b1) 0 (kB_ b B c) (.slice B b.Cells.length c) K12 (ST.cf hw' (i := 0) rfl))) ?_
   refine rq 4 13 (v := vi (i1 : Int)) rfl (hS7.se [0, 1]) (fun w' hw' => (ym (vi (i1 : Int)) rfl (hf.g 4 3))) ?_
   refine rq 5 14 (v := vi (Int.tmod (i1 : Int) 3)) rfl (hS7.se [0, 1]) (fun w' hw' => (Y_rem (k := .i64) (a := (i1 : Int)) (b := 3) rfl rfl rfl (by decide))) ?_
   refine rq 6 15 (v := vi (i64.wrap ((Int.tmod (i1 : Int) 3) * 3))) rfl (hS7.se [0, 1]) (fun w' hw' => (yX (Int.tmod (i1 : Int) 3) 3)) ?_
   refine rq 7 16 (v := vi (i1 : Int)) rfl (hS7.se [0, 1]) (fun w' hw' => (ym (vi (i1 : Int)) rfl (hf.g 4 3))) ?_
   refine rq 8 17 (v := vi (i64.wrap (Int.tdiv (i1 : Int) 3))) rfl (hS7.se [0, 1]) (fun w' hw' => (Y_quo (k := .i64) (a := (i1 : Int)) (b := 3) rfl rfl rfl (by decide))) ?_
   refine rq 9 18 (v := vi (i64.wrap ((i64.wrap ((Int.tmod (i1 : Int) 3) * 3)) + (i64.wrap (Int.tdiv (i1 : Int) 3))))) rfl (hS7.se [0, 1]) (fun w' hw' => (yP (i64.wrap ((Int.tmod (i1 : Int) 3) * 3)) (i64.wrap (Int.tdiv (i1 : Int) 3)))) ?_
   refine ra_q 10 19 (v := pt B ((i64.wrap ((i64.wrap ((Int.tmod (i1 : Int) 3) * 3)) + (i64.wrap (Int.tdiv (i1 : Int) 3)))).toNat * 5)) rfl rfl rfl (by kernel_rfl) (by kernel_rfl) (by kernel_rfl) (hS7.se [0, 1]) (fun w' hw' => (Y_index (B := B) (m := b.Cells.length) (c := c) (k := .i64) (i := (i64.wrap ((i64.wrap ((Int.tmod (i1 : Int) 3) * 3)) + (i64.wrap (Int.tdiv (i1 : Int) 3))))) K7 K0 rfl rfl rfl (gi_isSome eN2 rfl (ST.rf hw' (i := 0) rfl) hx) (getI_nn hx) (getI_ltI hx rfl))) ?_
   refine rq 11 20 (v := gD_ x) rfl (hS7.se [0, 1]) (fun w' hw' => (ya B ((i64.wrap ((i64.wrap ((Int.tmod (i1 : Int) 3) * 3)) + (i64.wrap (Int.tdiv (i1 : Int) 3)))).toNat * 5) (b.Cells.flatMap eN0) (kD_ x) K3 K0 (ST.rf hw' (i := 0) rfl) rfl rfl (eN2 x) (gi_seg eN2 hx))) ?_
   refine rA [1, 12] ?_
   refine ra_y 10 (i := 1) (v := .slice B2 Cells.length c2) rfl rfl rfl (yl (aD b3) 0 [.slice B2 Cells.length c2] (.slice B2 Cells.length c2) K12 (hS7.c 2)) (hS7.se [0, 1]) ?_ ?_
   ·skip
    refine rA [12] ?_
    refine rS 21 12 rfl (Ys_bslice (s := 5) (len := 1) (vs := [(0, gD_ x)]) (cs := kD_ x) (zs := kZ_) (m := 5) hS7 K7 K0 K36 rfl (mpc rfl mpn) rfl rfl rfl (by kernel_rfl) (by kernel_rfl) rfl) ?_ ?_
    ·rintro _ w_3 ⟨b4, rfl, hS8⟩
     refine ⟨(hS8.se [0, 1]), ?_⟩
     refine rA [13] ?_
     refine rS 22 13 rfl (Ys_append (s := 5) (by' := 40) (i := 3) (nn := Cells.length) (c := c2) (k := 1) (len := (Cells ++ [x]).length) (B := B2) (xs := ([x].flatMap eN0)) (cs' := ((Cells ++ [x]).flatMap eN0)) hS8 K7 K0 K38 K5 rfl (by decide) rfl rfl rfl rfl (fm_lenn (l := Cells) eN2 rfl) rfl (hS8.c 4) (fm_lenn (l := [x]) eN2 rfl) (fm_one' (enc := eN0) enc_Dyadic_one [x]) (by have := hap; omega) (by have := hap; simp only [maxLen]; omega) (fm_app _ _) (app_len (l := Cells) (l' := [x]) rfl rfl)) ?_ ?_
     ·rintro _ w_4 ⟨B3, c3, rfl, hS9⟩
      refine ⟨(hS9.se [0, 1]), ?_⟩
      refine rq 14 23 (v := pt (aD b3) 0) rfl (hS9.se [0, 1]) (fun w' hw' => (yd (aD b3) 0 0 K18 K8 rfl (hf.g 3 2))) ?_
      refine rA [15] ?_
      refine rZ 15 rfl (yT 2 1 (aD b3) 29 (.slice B3 ((Cells ++ [x]).length) c3) [.slice B3 ((Cells ++ [x]).length) c3] 0 hS9 K8) ?_ ?_
      ·rintro _ w_5 ⟨rfl, hS10⟩
       refine ⟨(hS10.se [0, 1]), ?_⟩
       refine ra_done (by kernel_rfl) ?_
       exact ⟨B3, c3, (fc (hf.g 1 0) (fc (hf.g 2 1) (fc (hf.g 3 2) (fc (hf.g 4 3) fn_)))), (hS10.sel [0, 1, 2, 3] rfl rfl)⟩
      exact aN
     exact aN
    exact aN
   refine rS 21 12 rfl (Ys_bslice (s := 5) (len := 1) (vs := [(0, gD_ x)]) (cs := kD_ x) (zs := kZ_) (m := 5) hS7 K7 K0 K36 rfl (mpc rfl mpn) rfl rfl rfl (by kernel_rfl) (by kernel_rfl) rfl) ?_ ?_
   ·rintro _ w_6 ⟨b4, rfl, hS11⟩
    refine ⟨(hS11.se [0, 1]), ?_⟩
    refine rA [1] ?_
    refine ra_y 10 (i := 1) (v := .slice B2 Cells.length c2) rfl rfl rfl (yl (aD b3) 0 [.slice B2 Cells.length c2] (.slice B2 Cells.length c2) K12 (hS11.c 2)) (hS11.se [0, 1]) ?_ ?_
    ·skip
     refine rA [13] ?_
     refine rS 22 13 rfl (Ys_append (s := 5) (by' := 40) (i := 3) (nn := Cells.length) (c := c2) (k := 1) (len := (Cells ++ [x]).length) (B := B2) (xs := ([x].flatMap eN0)) (cs' := ((Cells ++ [x]).flatMap eN0)) hS11 K7 K0 K38 K5 rfl (by decide) rfl rfl rfl rfl (fm_lenn (l := Cells) eN2 rfl) rfl (hS11.c 4) (fm_lenn (l := [x]) eN2 rfl) (fm_one' (enc := eN0) enc_Dyadic_one [x]) (by have := hap; omega) (by have := hap; simp only [maxLen]; omega) (fm_app _ _) (app_len (l := Cells) (l' := [x]) rfl rfl)) ?_ ?_
     ·rintro _ w_7 ⟨B3, c3, rfl, hS12⟩
      refine ⟨(hS12.se [0, 1]), ?_⟩
      refine rq 14 23 (v := pt (aD b3) 0) rfl (hS12.se [0, 1]) (fun w' hw' => (yd (aD b3) 0 0 K18 K8 rfl (hf.g 3 2))) ?_
      refine rA [15] ?_
      refine rZ 15 rfl (yT 2 1 (aD b3) 29 (.slice B3 ((Cells ++ [x]).length) c3) [.slice B3 ((Cells ++ [x]).length) c3] 0 hS12 K8) ?_ ?_
      ·rintro _ w_8 ⟨rfl, hS13⟩
       refine ⟨(hS13.se [0, 1]), ?_⟩
       refine ra_done (by kernel_rfl) ?_
       exact ⟨B3, c3, (fc (hf.g 1 0) (fc (hf.g 2 1) (fc (hf.g 3 2) (fc (hf.g 4 3) fn_)))), (hS13.sel [0, 1, 2, 3] rfl rfl)⟩
      exact aN
     exact aN
    exact aN
   exact aN
  rintro f w ⟨B4, c4, hf1, hS6⟩
  refine cr ?_
  refine sQ 7 (ym (vi (i1 : Int)) rfl (hf1.g 4 3)) <| sQ 8 (yP (i1 : Int) 1) <| sQ 4 (yg (vi (i64.wrap ((i1 : Int) + 1)))) (rn ?_)
  obtain rfl := sI hb
  exact ⟨K9, Nat.lt_succ_self _, i1 + 1, (Cells ++ [x]), B4, c4, (fc (hf1.g 1 0) (fc (hf1.g 2 1) (fc (hf1.g 3 2) (fc (congrArg (Value.int .i64) (wr_succ hlt1 (show 9 ≤ 9223372036854775807 by decide))) fn_)))), (hS6.sel [0, 1, 2, 3] rfl rfl), (by omega), hL1⟩
 ·skip
  obtain rfl : k_ = 0 := by have h := of_decide_eq_false hlt; omega
  refine cw_exit rfl ?_
  obtain rfl := sI hL
  refine cq (cr ?_)
  refine sQ 24 (yb (aD b3) 0 [.slice B2 Cells.length c2] K25 K14 (hS4.c 2) rfl (hf.g 3 2)) ?_
  refine s0 (yT 1 1 (aD b2) 29 (.agg #[.slice B2 Cells.length c2]) [.slice B2 Cells.length c2] 0 hS4 K14 rfl (hf.g 2 1)) ?_
  rintro _ w_9 ⟨rfl, hS14⟩
  refine rn (ct_ ?_)
  obtain rfl := sI hF1
  exact ret1 Tryz.results84 (v1 := .agg #[.slice B2 Cells.length c2]) (resAt_cellA (B := aD b2) (i := 0) (cs := [.slice B2 Cells.length c2]) (vs := [.slice B2 Cells.length c2]) (hf.g 2 1) K25 K14 (hS14.c 1) rfl rfl) ⟨B2, c2, rfl, (hS14.sN [3])⟩

theorem c_spec_l2C_minor (c : Tl2C) (b : TBloch) (j : Int) (k_ : Int) (B : Option Addr) (B1 : Option Addr) (c1 n : Nat) (w0 : World) (hn : b.Cells.length = n) (hS : ST w0 (bl [⟨B, 59, [.bool c.bad], 1⟩]) w0 [⟨B, 59, [.bool c.bad], 1⟩] [⟨B1, (b.Cells.flatMap eN0)⟩]) {r_ : TDyadic} {m : Tl2C} (hF : F_spec_l2C_minor c b j k_ = some (r_, m)) :
  CV Tryz.prog 85 #[pt B 0, .agg #[.slice B1 n c1], vi j, vi k_] w0 (fun v w' => v = (gD_ r_) ∧ ST w0 (bl [⟨B, 59, [.bool c.bad], 1⟩]) w' [⟨B, 59, [.bool m.bad], 1⟩] []) := by
 subst hn
 unfold F_spec_l2C_minor at hF
 refine cv_of_cw 40 Tryz.func85 rfl Tryz.ntmps85 rfl ?_
 refine cq (cr ?_)
 refine sS 5 (yB 29 (gB_ b B1 c1) (kB_ b B1 c1) 1 hS) ?_
 rintro _ w_ ⟨b1, rfl, hS1⟩
 refine sS 8 (yN kZ_ 5 hS1 K5) ?_
 rintro _ w_1 ⟨b2, rfl, hS2⟩
 refine rn (cq ?_)
 obtain ⟨x, hx, hF⟩ := bI hF
 obtain ⟨x1, hx1, hF⟩ := bI hF
 obtain ⟨⟨r_1, m1⟩, hc, hF⟩ := bI hF
 obtain ⟨x2, hx2, hF⟩ := bI hF
 obtain ⟨x3, hx3, hF⟩ := bI hF
 obtain ⟨⟨r_2, m2⟩, hc1, hF⟩ := bI hF
 obtain ⟨r_3, hc2, hF⟩ := bI hF
 obtain ⟨⟨r_4, m3⟩, hc3, hF⟩ := bI hF
 refine ra_start (hS2.se [1]).fn (by kernel_rfl) ?_
 have hS7 := hS2.drew
 refine rq 0 9 (v := pt B 0) rfl (hS7.se [1]) (fun w' hw' => (ym (pt B 0))) ?_
 refine rq 1 10 (v := pt B 0) rfl (hS7.se [1]) (fun w' hw' => (ym (pt B 0))) ?_
 refine rq 2 11 (v := pt (aD b1) 0) rfl (hS7.se [1]) (fun w' hw' => (yd (aD b1) 0 0 K18 K8)) ?_
 refine rq 3 12 (v := .slice B1 b.Cells.length c1) rfl (hS7.se [1]) (fun w' hw' => (yl (aD b1) 0 (kB_ b B1 c1) (.slice B1 b.Cells.length c1) K12 (ST.cf hw' (i := 0) rfl))) ?_
 refine rq 4 13 (v := vi j) rfl (hS7.se [1]) (fun w' hw' => (ym (vi j))) ?_
 refine rq 5 14 (v := vi (i64.wrap (3 + j))) rfl (hS7.se [1]) (fun w' hw' => (yP 3 j)) ?_
 refine rq 6 15 (v := pt B1 ((i64.wrap (3 + j)).toNat * 5)) rfl (hS7.se [1]) (fun w' hw' => (Y_index (B := B1) (m := b.Cells.length) (c := c1) (k := .i64) (i := (i64.wrap (3 + j))) K7 K0 rfl rfl rfl (gi_isSome eN2 rfl (ST.rf hw' (i := 0) rfl) hx) (getI_nn hx) (getI_ltI hx rfl))) ?_
 refine rq 7 16 (v := gD_ x) rfl (hS7.se [1]) (fun w' hw' => (ya B1 ((i64.wrap (3 + j)).toNat * 5) (b.Cells.flatMap eN0) (kD_ x) K3 K0 (ST.rf hw' (i := 0) rfl) rfl rfl (eN2 x) (gi_seg eN2 hx))) ?_
 refine rq 8 17 (v := pt (aD b1) 0) rfl (hS7.se [1]) (fun w' hw' => (yd (aD b1) 0 0 K18 K8)) ?_
 refine rq 9 18 (v := .slice B1 b.Cells.length c1) rfl (hS7.se [1]) (fun w' hw' => (yl (aD b1) 0 (kB_ b B1 c1) (.slice B1 b.Cells.length c1) K12 (ST.cf hw' (i := 0) rfl))) ?_
 refine rq 10 19 (v := vi k_) rfl (hS7.se [1]) (fun w' hw' => (ym (vi k_))) ?_
 refine rq 11 20 (v := vi (i64.wrap (6 + k_))) rfl (hS7.se [1]) (fun w' hw' => (yP 6 k_)) ?_
 refine rq 12 21 (v := pt B1 ((i64.wrap (6 + k_)).toNat * 5)) rfl (hS7.se [1]) (fun w' hw' => (Y_index (B := B1) (m := b.Cells.length) (c := c1) (k := .i64) (i := (i64.wrap (6 + k_))) K7 K0 rfl rfl rfl (gi_isSome eN2 rfl (ST.rf hw' (i := 0) rfl) hx1) (getI_nn hx1) (getI_ltI hx1 rfl))) ?_
 refine rq 13 22 (v := gD_ x1) rfl (hS7.se [1]) (fun w' hw' => (ya B1 ((i64.wrap (6 + k_)).toNat * 5) (b.Cells.flatMap eN0) (kD_ x1) K3 K0 (ST.rf hw' (i := 0) rfl) rfl rfl (eN2 x1) (gi_seg eN2 hx1))) ?_
 refine rq 15 24 (v := pt B 0) rfl (hS7.se [1]) (fun w' hw' => (ym (pt B 0))) ?_
 refine rq 16 25 (v := pt (aD b1) 0) rfl (hS7.se [1]) (fun w' hw' => (yd (aD b1) 0 0 K18 K8)) ?_
 refine rq 17 26 (v := .slice B1 b.Cells.length c1) rfl (hS7.se [1]) (fun w' hw' => (yl (aD b1) 0 (kB_ b B1 c1) (.slice B1 b.Cells.length c1) K12 (ST.cf hw' (i := 0) rfl))) ?_
 refine rq 18 27 (v := vi k_) rfl (hS7.se [1]) (fun w' hw' => (ym (vi k_))) ?_
 refine rq 19 28 (v := vi (i64.wrap (3 + k_))) rfl (hS7.se [1]) (fun w' hw' => (yP 3 k_)) ?_
 refine rq 20 29 (v := pt B1 ((i64.wrap (3 + k_)).toNat * 5)) rfl (hS7.se [1]) (fun w' hw' => (Y_index (B := B1) (m := b.Cells.length) (c := c1) (k := .i64) (i := (i64.wrap (3 + k_))) K7 K0 rfl rfl rfl (gi_isSome eN2 rfl (ST.rf hw' (i := 0) rfl) hx2) (getI_nn hx2) (getI_ltI hx2 rfl))) ?_
 refine rq 21 30 (v := gD_ x2) rfl (hS7.se [1]) (fun w' hw' => (ya B1 ((i64.wrap (3 + k_)).toNat * 5) (b.Cells.flatMap eN0) (kD_ x2) K3 K0 (ST.rf hw' (i := 0) rfl) rfl rfl (eN2 x2) (gi_seg eN2 hx2))) ?_
 refine rq 22 31 (v := pt (aD b1) 0) rfl (hS7.se [1]) (fun w' hw' => (yd (aD b1) 0 0 K18 K8)) ?_
 refine rq 23 32 (v := .slice B1 b.Cells.length c1) rfl (hS7.se [1]) (fun w' hw' => (yl (aD b1) 0 (kB_ b B1 c1) (.slice B1 b.Cells.length c1) K12 (ST.cf hw' (i := 0) rfl))) ?_
 refine rq 24 33 (v := vi j) rfl (hS7.se [1]) (fun w' hw' => (ym (vi j))) ?_
 refine rq 25 34 (v := vi (i64.wrap (6 + j))) rfl (hS7.se [1]) (fun w' hw' => (yP 6 j)) ?_
 refine rq 26 35 (v := pt B1 ((i64.wrap (6 + j)).toNat * 5)) rfl (hS7.se [1]) (fun w' hw' => (Y_index (B := B1) (m := b.Cells.length) (c := c1) (k := .i64) (i := (i64.wrap (6 + j))) K7 K0 rfl rfl rfl (gi_isSome eN2 rfl (ST.rf hw' (i := 0) rfl) hx3) (getI_nn hx3) (getI_ltI hx3 rfl))) ?_
 refine rq 27 36 (v := gD_ x3) rfl (hS7.se [1]) (fun w' hw' => (ya B1 ((i64.wrap (6 + j)).toNat * 5) (b.Cells.flatMap eN0) (kD_ x3) K3 K0 (ST.rf hw' (i := 0) rfl) rfl rfl (eN2 x3) (gi_seg eN2 hx3))) ?_
 refine rA [14] ?_
 refine rC 23 14 rfl (yC [pt B 0, gD_ x, gD_ x1] K43 (c_spec_l2C_mul c x x1 B _  (hS7.inn [true, false, false] rfl [] rfl) hc)) ?_ ?_
 ·rintro _ w_2 ⟨rfl, hd⟩
  have hS8 := hS7.out [true, false, false] rfl hd
  refine ⟨(hS8.se [0]), ?_⟩
  refine rA [28] ?_
  refine rC 37 28 rfl (yC [pt B 0, gD_ x2, gD_ x3] K43 (c_spec_l2C_mul m1 x2 x3 B _  (hS8.inn [false, false, true] rfl [] rfl) hc1)) ?_ ?_
  ·rintro _ w_3 ⟨rfl, hd1⟩
   have hS9 := hS8.out [false, false, true] rfl hd1
   refine ⟨(hS9.se [0]), ?_⟩
   refine rA [29] ?_
   refine rC 38 29 rfl (yC [gD_ r_2] K78 (c_spec_l2Neg r_2 _  (hS9.inn0 [] rfl) hc2)) ?_ ?_
   ·rintro _ w_4 ⟨rfl, hd2⟩
    have hS10 := hS9.out00 hd2
    refine ⟨(hS10.se [0]), ?_⟩
    refine rA [30] ?_
    refine rC 39 30 rfl (yC [pt B 0, gD_ r_1, gD_ r_3] K48 (c_spec_l2C_add m2 r_1 r_3 B _  (hS10.inn [false, false, true] rfl [] rfl) hc3)) ?_ ?_
    ·rintro _ w_5 ⟨rfl, hd3⟩
     have hS11 := hS10.out [false, false, true] rfl hd3
     refine ⟨(hS11.se [0]), ?_⟩
     refine rA [31] ?_
     refine rZ 31 rfl (yT 1 5 (aD b2) 54 (gD_ r_4) (kD_ r_4) 0 hS11 K0) ?_ ?_
     ·rintro _ w_6 ⟨rfl, hS12⟩
      refine ⟨(hS12.se [0]), ?_⟩
      refine ra_done (by kernel_rfl) ?_
      refine ct_ ?_
      obtain ⟨rfl, rfl⟩ := pr2 (sI hF)
      exact ret1 Tryz.results85 (v1 := gD_ r_4) (resAt_cellA (B := aD b2) (i := 0) (cs := kD_ r_4) (vs := kD_ r_4) rfl K3 K0 (hS12.c 1) rfl rfl) ⟨rfl, (hS12.sN [2])⟩
     exact aN
    exact aN
   exact aN
  exact aN
 exact aN

theorem c_spec_l9Unit   (w0 : World)  (hS : ST w0 [] w0 [] []) {r_ : TBloch} (hF : F_spec_l9Unit = some r_) :
  CV Tryz.prog 87 #[] w0 (fun v w' => ∃ (B : Option Addr) (c : Nat), v = (gB_ r_ B c) ∧ ST w0 [] w' [⟨B, 54, (r_.Cells.flatMap eN0), c * 5⟩] []) := by
 unfold F_spec_l9Unit at hF
 refine cv_of_cw 16 Tryz.func87 rfl Tryz.ntmps87 rfl ?_
 refine cq (cr ?_)
 refine sS 0 (yN [.slice none 0 0] 1 hS K26) ?_
 rintro _ w_ ⟨b, rfl, hS1⟩
 refine rn (cq (cr ?_))
 refine sS 3 (Ys_make (s := 5) (by' := 40) (nn := 9) (a := 9) (b := 9) (cs := ((List.replicate 9 (TDyadic.mk (TRing.mk 0 0 0 0) 0)).flatMap eN0)) hS1 K7 K0 K38 K5 rfl rfl rfl rfl (show (0 : Int) ≤ 9 ∧ 9 ≤ 1099511627776 by decide).1 rfl (by have := (show (0 : Int) ≤ 9 ∧ 9 ≤ 1099511627776 by decide); omega) (by have := (show (0 : Int) ≤ 9 ∧ 9 ≤ 1099511627776 by decide); omega) (by omega) (fm_rep (enc := eN0) (d := (TDyadic.mk (TRing.mk 0 0 0 0) 0)) rfl _)) ?_
 rintro _ w_1 ⟨b1, rfl, hS2⟩
 refine sQ 4 (Y_buildS (zs := [.slice none 0 0]) (vs := [(0, .slice (aD b1) 9 9)]) (cs := [.slice (aD b1) 9 9]) K89 K26 rfl (mpc rfl mpn) rfl) ?_
 refine sS 1 (yN [.slice none 0 0] 1 hS2 K26) ?_
 rintro _ w_2 ⟨b2, rfl, hS3⟩
 refine s0 (yT 2 1 (aD b2) 29 (.agg #[.slice (aD b1) 9 9]) [.slice (aD b1) 9 9] 0 hS3 K14) ?_
 rintro _ w_3 ⟨rfl, hS4⟩
 refine rn (cq (cq (cr ?_)))
 refine sQ 2 (yg (vi 0)) (rn ?_)
 obtain ⟨z, hz, hF1⟩ := bI hF
 refine cw_block ?_
 refine cw_loop (fun k f w => ∃ (i1 : Nat) (Cells : List TDyadic), FF f [(0, pt (aD b) 0), (1, pt (aD b2) 0), (2, vi (i1 : Int))] ∧ Cells.length = 9 ∧ ST w0 [] w [⟨aD b, 29, [.slice none 0 0], 1⟩, ⟨aD b2, 29, [.slice (aD b1) 9 9], 1⟩, ⟨aD b1, 54, (Cells.flatMap eN0), 9 * 5⟩] [] ∧ i1 + k = 3 ∧ forN F_spec_l9Unit_l1 k i1 Cells = some z) 3 ⟨0, (List.replicate 9 (TDyadic.mk (TRing.mk 0 0 0 0) 0)), (fc rfl (fc rfl (fc rfl fn_))), List.length_replicate, (hS4.sel [0, 2, 1] rfl rfl), Nat.zero_add _, hz⟩ ?_
 rintro k_ f w ⟨i1, Cells, hf, hl, hS5, hik, hL⟩
 refine cq (cq (cr ?_))
 refine sQ 5 (ym (vi (i1 : Int)) rfl (hf.g 2 2)) <| sQ 6 (yL (i1 : Int) 3) (rn ?_)
 refine cw_cond (b := (decide ((i1 : Int) < 3))) rfl (fun hlt => ?_) (fun hlt => ?_)
 ·skip
  have hlt1 : i1 < 3 := by have h := of_decide_eq_true hlt; omega
  obtain ⟨K9, rfl⟩ : ∃ k2, k_ = k2 + 1 := ⟨k_ - 1, by omega⟩
  obtain ⟨y, hb, hL1⟩ := forN_go hL
  unfold F_spec_l9Unit_l1 at hb
  refine cw_skip (cq (cw_block ?_))
  obtain ⟨r_1, hc, hb⟩ := bI hb
  obtain ⟨x, hx, hb⟩ := bI hb
  refine ra_start (hS5.se [0, 1]).fn (by kernel_rfl) ?_
  have hS7 := hS5.drew
  refine rq 0 9 (v := pt (aD b2) 0) rfl (hS7.se [0, 1]) (fun w' hw' => (yd (aD b2) 0 0 K18 K8 rfl (hf.g 1 1))) ?_
  refine rq 1 10 (v := .slice (aD b1) 9 9) rfl (hS7.se [0, 1]) (fun w' hw' => (yl (aD b2) 0 [.slice (aD b1) 9 9] (.slice (aD b1) 9 9) K12 (ST.cf hw' (i := 1) rfl))) ?_
  refine rq 2 11 (v := vi (i1 : Int)) rfl (hS7.se [0, 1]) (fun w' hw' => (ym (vi (i1 : Int)) rfl (hf.g 2 2))) ?_
  refine rq 3 12 (v := vi (i64.wrap (4 * (i1 : Int)))) rfl (hS7.se [0, 1]) (fun w' hw' => (yX 4 (i1 : Int))) ?_
  refine rA [4] ?_
  refine rC 13 4 rfl (yC [vi 0] K56 (c_spec_l2Power 0 _  (hS7.inn0 [] rfl) hc)) ?_ ?_
  ·rintro _ w_4 ⟨rfl, hd⟩
   have hS8 := hS7.out00 hd
   refine ⟨(hS8.se [0, 1]), ?_⟩
   refine rA [5] ?_
   refine ra_y 14 (i := 5) (v := pt (aD b1) ((i64.wrap (4 * (i1 : Int))).toNat * 5)) rfl rfl rfl (Y_index (B := aD b1) (m := 9) (c := 9) (k := .i64) (i := (i64.wrap (4 * (i1 : Int)))) K7 K0 rfl rfl rfl (gi_isSome eN2 rfl (hS8.c 2) hx) (getI_nn hx) (getI_ltI hx hl)) (hS8.se [0, 1]) ?_ ?_
   ·skip
    refine rA [6] ?_
    refine rZ 6 rfl (yS 2 5 (aD b1) 54 (gD_ r_1) (kD_ r_1) ((i64.wrap (4 * (i1 : Int))).toNat * 5) ((Cells.set (i64.wrap (4 * (i1 : Int))).toNat r_1).flatMap eN0) hS8 K0 rfl rfl rfl rfl rfl rfl rfl (gi_fit0 eN2 hx) (gi_set eN2 hx r_1 rfl)) ?_ ?_
    ·rintro _ w_5 ⟨rfl, hS9⟩
     refine ⟨(hS9.se [0, 1]), ?_⟩
     refine ra_done (by kernel_rfl) ?_
     refine cr ?_
     refine sQ 7 (ym (vi (i1 : Int)) rfl (hf.g 2 2)) <| sQ 8 (yP (i1 : Int) 1) <| sQ 2 (yg (vi (i64.wrap ((i1 : Int) + 1)))) (rn ?_)
     obtain rfl := sI hb
     exact ⟨K9, Nat.lt_succ_self _, i1 + 1, (Cells.set (i64.wrap (4 * (i1 : Int))).toNat r_1), (fc (hf.g 0 0) (fc (hf.g 1 1) (fc (congrArg (Value.int .i64) (wr_succ hlt1 (show 3 ≤ 9223372036854775807 by decide))) fn_))), (set_len _ _ _ hl), (hS9.sel [0, 1, 2] rfl rfl), (by omega), hL1⟩
    exact aN
   exact aN
  exact aN
 ·skip
  obtain rfl : k_ = 0 := by have h := of_decide_eq_false hlt; omega
  refine cw_exit rfl ?_
  obtain rfl := sI hL
  refine cq (cr ?_)
  refine sQ 15 (yb (aD b2) 0 [.slice (aD b1) 9 9] K25 K14 (hS5.c 1) rfl (hf.g 1 1)) ?_
  refine s0 (yT 0 1 (aD b) 29 (.agg #[.slice (aD b1) 9 9]) [.slice (aD b1) 9 9] 0 hS5 K14 rfl (hf.g 0 0)) ?_
  rintro _ w_6 ⟨rfl, hS10⟩
  refine rn (ct_ ?_)
  obtain rfl := sI hF1
  exact ret1 Tryz.results87 (v1 := .agg #[.slice (aD b1) 9 9]) (resAt_cellA (B := aD b) (i := 0) (cs := [.slice (aD b1) 9 9]) (vs := [.slice (aD b1) 9 9]) (hf.g 0 0) K25 K14 (hS10.c 0) rfl rfl) ⟨aD b1, 9, (by simp [hl]), (hS10.sN [2])⟩

theorem c_spec_l9Valid (b : TBloch) (B : Option Addr) (c n : Nat) (w0 : World) (hn : b.Cells.length = n) (hS : ST w0 [] w0 [] [⟨B, (b.Cells.flatMap eN0)⟩]) {r_ : Bool} (hF : F_spec_l9Valid b = some r_) :
  CV Tryz.prog 44 #[.agg #[.slice B n c]] w0 (fun v w' => v = .bool r_ ∧ ST w0 [] w' [] []) := by
 subst hn
 unfold F_spec_l9Valid at hF
 refine cv_of_cw 95 Tryz.func44 rfl Tryz.ntmps44 rfl ?_
 refine cq (cr ?_)
 refine sS 1 (yB 29 (gB_ b B c) (kB_ b B c) 1 hS) ?_
 rintro _ w_ ⟨b1, rfl, hS1⟩
 refine sQ 2 (yg (.bool false)) (rn (cq (cq (cr ?_))))
 refine sQ 8 (yd (aD b1) 0 0 K18 K8) <| sQ 9 (yl (aD b1) 0 (kB_ b B c) (.slice B b.Cells.length c) K12 (hS1.c 0)) <| sQ 10 (Y_len (B := B) (m := b.Cells.length) (c := c) K7 rfl rfl) <| sQ 11 (Y_ne (k := .i64) (a := (b.Cells.length : Int)) (b := 9) rfl rfl rfl) (rn ?_)
 refine cw_cond (b := ((b.Cells.length : Int) != 9)) rfl (fun hb => ?_) (fun hb => ?_)
 ·skip
  have hF1 := ct hF hb
  refine cq (cr ?_)
  refine sQ 2 (yg (.bool false)) (rn (ct_ ?_))
  obtain rfl := sI hF1
  exact ret1 Tryz.results44 (v1 := .bool false) (resAt_tmp rfl) ⟨rfl, (hS1.sN [])⟩
 ·skip
  have hF2 := cf' hF hb
  refine cw_skip (cq (cq (cr ?_)))
  refine sQ 12 (yd (aD b1) 0 0 K18 K8) <| sQ 13 (yl (aD b1) 0 (kB_ b B c) (.slice B b.Cells.length c) K12 (hS1.c 0)) <| sQ 14 (Y_len (B := B) (m := b.Cells.length) (c := c) K7 rfl rfl) <| sQ 15 (ym (vi 0)) (rn ?_)
  obtain ⟨hN, hF2⟩ := chk_inv hF2
  obtain ⟨z, hz, hF3⟩ := bI hF2
  refine cw_block ?_
  refine cw_loop (fun k f w => ∃ (i : Nat), FF f [(1, pt (aD b1) 0), (13, .slice B b.Cells.length c), (14, vi (b.Cells.length : Int)), (15, vi (i : Int))] ∧ ST w0 [] w [⟨aD b1, 29, kB_ b B c, 1⟩] [⟨B, (b.Cells.flatMap eN0)⟩] ∧ i + k = b.Cells.length ∧ forX (F_spec_l9Valid_l1 b) k i () = some z) b.Cells.length ⟨0, (fc rfl (fc rfl (fc rfl (fc rfl fn_)))), (hS1.sel [0] rfl rfl), Nat.zero_add _, hz⟩ ?_
  rintro k_ f w ⟨i, hf, hS2, hik, hL⟩
  refine cq (cr ?_)
  refine sQ 16 (yL (i : Int) (b.Cells.length : Int) rfl (hf.g 15 3) (hf.g 14 2)) (rn (cq ?_))
  refine cw_cond (b := (decide ((i : Int) < (b.Cells.length : Int)))) rfl (fun hlt => ?_) (fun hlt => ?_)
  ·skip
   have hlt1 : i < b.Cells.length := by have h := of_decide_eq_true hlt; omega
   obtain ⟨K9, rfl⟩ : ∃ k2, k_ = k2 + 1 := ⟨k_ - 1, by omega⟩
   obtain ⟨y, hb1, hL1⟩ := forX_go hL
   unfold F_spec_l9Valid_l1 at hb1
   refine cw_skip (cq (cw_block (cq (cr ?_))))
   obtain ⟨x, hx, hb1⟩ := bI hb1
   refine sQ 17 (Y_index (B := B) (m := b.Cells.length) (c := c) (k := .i64) (i := (i : Int)) K7 K0 rfl (hf.g 13 1) (hf.g 15 3) (gi_isSome eN2 rfl (hS2.rf (i := 0) rfl) hx) (getI_nn hx) (getI_ltI hx rfl)) <| sQ 18 (ya B ((i : Int).toNat * 5) (b.Cells.flatMap eN0) (kD_ x) K3 K0 (hS2.rf (i := 0) rfl) rfl rfl (eN2 x) (gi_seg eN2 hx)) ?_
   refine sS 4 (yN kZ_ 5 hS2 K5) ?_
   rintro _ w_1 ⟨b2, rfl, hS3⟩
   refine s0 (yT 1 5 (aD b2) 54 (gD_ x) (kD_ x) 0 hS3 K0) ?_
   rintro _ w_2 ⟨rfl, hS4⟩
   refine rn (cq (cr ?_))
   refine sQ 19 (yb (aD b2) 0 (kD_ x) K3 K0 (hS4.c 1)) ?_
   obtain ⟨r_1, hc, hb1⟩ := bI hb1
   refine sc 20 rfl rfl (yC [gD_ x] k_call_63 (c_spec_l2Good x _  (hS4.inn0 [] rfl) hc)) ?_
   rintro _ w_3 ⟨rfl, hd⟩
   have hS5 := hS4.out00 hd
   refine sQ 21 (Y_not (p := r_1) rfl rfl) <| sQ 22 (ym (.bool (!r_1))) ?_
   refine sgq 23 (B := (!(!r_1))) (v := pt (aD b2) 0) rfl rfl (uF_ 22) (fun hg => (yd (aD b2) 0 3 K33 K4)) ?_
   refine sgq 24 (B := (!(!r_1))) (v := pt (aD b2) 2) rfl rfl (uF_ 22) (fun hg1 => (yd (aD b2) 0 0 K22 K2 rfl (gv_of (v := pt (aD b2) 0) hg1))) ?_
   refine sgq 25 (B := (!(!r_1))) (v := vi x.Num.C) rfl rfl (uF_ 22) (fun hg2 => (yl (aD b2) 2 (kD_ x) (vi x.Num.C) K1 (hS5.c 1) rfl (gv_of (v := pt (aD b2) 2) hg2))) ?_
   refine sgq 26 (B := (!(!r_1))) (v := .bool (x.Num.C != 0)) rfl rfl (uF_ 22) (fun hg3 => (Y_ne (k := .i64) (a := x.Num.C) (b := 0) rfl (gv_of (v := vi x.Num.C) hg3) rfl)) ?_
   refine sQ 27 (Y_or (b := (!r_1)) (z := (x.Num.C != 0)) rfl rfl rfl rfl) <| sQ 28 (ym (.bool ((!r_1) || (x.Num.C != 0)))) ?_
   refine sgq 29 (B := (!((!r_1) || (x.Num.C != 0)))) (v := pt (aD b2) 0) rfl rfl (uF_ 28) (fun hg4 => (yd (aD b2) 0 3 K33 K4)) ?_
   refine sgq 30 (B := (!((!r_1) || (x.Num.C != 0)))) (v := pt (aD b2) 3) rfl rfl (uF_ 28) (fun hg5 => (yd (aD b2) 0 0 K23 K2 rfl (gv_of (v := pt (aD b2) 0) hg5))) ?_
   refine sgq 31 (B := (!((!r_1) || (x.Num.C != 0)))) (v := vi x.Num.D) rfl rfl (uF_ 28) (fun hg6 => (yl (aD b2) 3 (kD_ x) (vi x.Num.D) K1 (hS5.c 1) rfl (gv_of (v := pt (aD b2) 3) hg6))) ?_
   refine sgq 32 (B := (!((!r_1) || (x.Num.C != 0)))) (v := pt (aD b2) 0) rfl rfl (uF_ 28) (fun hg7 => (yd (aD b2) 0 3 K33 K4)) ?_
   refine sgq 33 (B := (!((!r_1) || (x.Num.C != 0)))) (v := pt (aD b2) 1) rfl rfl (uF_ 28) (fun hg8 => (yd (aD b2) 0 0 K21 K2 rfl (gv_of (v := pt (aD b2) 0) hg8))) ?_
   refine sgq 34 (B := (!((!r_1) || (x.Num.C != 0)))) (v := vi x.Num.B) rfl rfl (uF_ 28) (fun hg9 => (yl (aD b2) 1 (kD_ x) (vi x.Num.B) K1 (hS5.c 1) rfl (gv_of (v := pt (aD b2) 1) hg9))) ?_
   refine sgq 35 (B := (!((!r_1) || (x.Num.C != 0)))) (v := vi (i64.wrap (-x.Num.B))) rfl rfl (uF_ 28) (fun hg10 => (Y_neg (k := .i64) (a := x.Num.B) rfl (gv_of (v := vi x.Num.B) hg10))) ?_
   refine sgq 36 (B := (!((!r_1) || (x.Num.C != 0)))) (v := .bool (x.Num.D != (i64.wrap (-x.Num.B)))) rfl rfl (uF_ 28) (fun hg11 => (Y_ne (k := .i64) (a := x.Num.D) (b := (i64.wrap (-x.Num.B))) rfl (gv_of (v := vi x.Num.D) hg11) (gv_of (v := vi (i64.wrap (-x.Num.B))) hg11))) ?_
   refine sQ 37 (Y_or (b := ((!r_1) || (x.Num.C != 0))) (z := (x.Num.D != (i64.wrap (-x.Num.B)))) rfl rfl rfl rfl) (rn ?_)
   refine cw_cond (b := (((!r_1) || (x.Num.C != 0)) || (x.Num.D != (i64.wrap (-x.Num.B))))) rfl (fun hb2 => ?_) (fun hb2 => ?_)
   ·skip
    have hF4 := ct hb1 hb2
    refine cq (cr ?_)
    refine sQ 2 (yg (.bool false)) (rn (ct_ ?_))
    obtain rfl := sI hF4
    obtain rfl := sI hL1
    obtain rfl := sI hF3
    exact ret1 Tryz.results44 (v1 := .bool false) (resAt_tmp rfl) ⟨rfl, (hS5.sN [])⟩
   ·skip
    have hF5 := cf' hb1 hb2
    refine cw_skip (cr ?_)
    refine sQ 38 (yP (i : Int) 1 rfl (hf.g 15 3)) <| sQ 15 (ym (vi (i64.wrap ((i : Int) + 1)))) (rn ?_)
    obtain rfl := sI hF5
    exact ⟨K9, Nat.lt_succ_self _, i + 1, (fc (hf.g 1 0) (fc (hf.g 13 1) (fc (hf.g 14 2) (fc (congrArg (Value.int .i64) (wr_succ hlt1 hN)) fn_)))), (hS5.sel [0] rfl rfl), (by omega), hL1⟩
  ·skip
   obtain rfl : k_ = 0 := by have h := of_decide_eq_false hlt; omega
   refine cw_exit rfl ?_
   obtain rfl := sI hL
   refine cq (cr ?_)
   refine sQ 39 (Y_buildS (zs := [.bool false]) (vs := []) (cs := [.bool false]) K99 K100 rfl mpn rfl) ?_
   refine sS 40 (yB 59 (.agg #[.bool false]) [.bool false] 1 hS2) ?_
   rintro _ w_4 ⟨b3, rfl, hS6⟩
   refine sQ 5 (yg (pt (aD b3) 0)) (rn (cq ?_))
   obtain ⟨r_2, hc1, hF3⟩ := bI hF3
   obtain ⟨⟨r_3, m⟩, hc2, hF3⟩ := bI hF3
   refine cw_mid (fun f w => ∃ (B3 : Option Addr) (B4 : Option Addr) (c3 : Nat), FF f [(1, pt (aD b1) 0), (5, pt (aD b3) 0), (6, pt B3 0)] ∧ ST w0 [] w [⟨aD b1, 29, kB_ b B c, 1⟩, ⟨aD b3, 59, [.bool m.bad], 1⟩, ⟨B3, 29, kB_ r_3 B4 c3, 1⟩, ⟨B4, 54, (r_3.Cells.flatMap eN0), c3 * 5⟩] [⟨B, (b.Cells.flatMap eN0)⟩]) ?_ ?_
   ·skip
    refine ra_start (hS6.se [0]).fn (by kernel_rfl) ?_
    have hS10 := hS6.drew
    refine rq 0 41 (v := pt (aD b3) 0) rfl (hS10.se [0]) (fun w' hw' => (ym (pt (aD b3) 0))) ?_
    refine rq 1 42 (v := gB_ b B c) rfl (hS10.se [0]) (fun w' hw' => (yb (aD b1) 0 (kB_ b B c) K25 K14 (ST.cf hw' (i := 0) rfl) rfl (hf.g 1 0))) ?_
    refine rq 2 43 (v := gB_ b B c) rfl (hS10.se [0]) (fun w' hw' => (yb (aD b1) 0 (kB_ b B c) K25 K14 (ST.cf hw' (i := 0) rfl) rfl (hf.g 1 0))) ?_
    refine rA [3, 5] ?_
    refine rC 44 3 rfl (yC [gB_ b B c] k_call_84 (c_spec_l9Turn b B c b.Cells.length _ rfl (hS10.inn0 [(true, 0)] rfl) hc1)) ?_ ?_
    ·rintro _ w_5 ⟨B1, c1, rfl, hd1⟩
     have hS11 := hS10.out0 hd1
     refine ⟨(hS11.se [0]), ?_⟩
     refine rA [4, 5] ?_
     refine rC 45 4 rfl (yC [pt (aD b3) 0, gB_ b B c, gB_ r_2 B1 c1] K133 (c_spec_l2C_bloch (Tl2C.mk false) b r_2 (aD b3) B c b.Cells.length B1 c1 r_2.Cells.length _ rfl rfl (hS11.inn [false, true, false] rfl [(true, 0), (false, 1)] rfl) hc2)) ?_ ?_
     ·rintro _ w_6 ⟨B2, c2, rfl, hd2⟩
      have hS12 := hS11.out [false, true, false] rfl hd2
      refine ⟨(hS12.se [0]), ?_⟩
      refine rA [5] ?_
      refine rS 6 5 rfl (yN [.slice none 0 0] 1 hS12 K26) ?_ ?_
      ·rintro _ w_7 ⟨b4, rfl, hS13⟩
       refine ⟨(hS13.se [0]), ?_⟩
       refine rA [6] ?_
       refine rZ 6 rfl (yT 4 1 (aD b4) 29 (gB_ r_3 B2 c2) (kB_ r_3 B2 c2) 0 hS13 K14) ?_ ?_
       ·rintro _ w_8 ⟨rfl, hS14⟩
        refine ⟨(hS14.se [0]), ?_⟩
        refine ra_done (by kernel_rfl) ?_
        exact ⟨aD b4, B2, c2, (fc (hf.g 1 0) (fc rfl (fc rfl fn_))), (hS14.sel [0, 2, 4, 3] rfl rfl)⟩
       exact aN
      exact aN
     refine rS 6 5 rfl (yN [.slice none 0 0] 1 hS11 K26) ?_ ?_
     ·rintro _ w_9 ⟨b4, rfl, hS15⟩
      refine ⟨(hS15.se [0]), ?_⟩
      refine rA [4] ?_
      refine rC 45 4 rfl (yC [pt (aD b3) 0, gB_ b B c, gB_ r_2 B1 c1] K133 (c_spec_l2C_bloch (Tl2C.mk false) b r_2 (aD b3) B c b.Cells.length B1 c1 r_2.Cells.length _ rfl rfl (hS15.inn [false, true, false, false] rfl [(true, 0), (false, 1)] rfl) hc2)) ?_ ?_
      ·rintro _ w_10 ⟨B2, c2, rfl, hd3⟩
       have hS16 := hS15.out [false, true, false, false] rfl hd3
       refine ⟨(hS16.se [0]), ?_⟩
       refine rA [6] ?_
       refine rZ 6 rfl (yT 2 1 (aD b4) 29 (gB_ r_3 B2 c2) (kB_ r_3 B2 c2) 0 hS16 K14) ?_ ?_
       ·rintro _ w_11 ⟨rfl, hS17⟩
        refine ⟨(hS17.se [0]), ?_⟩
        refine ra_done (by kernel_rfl) ?_
        exact ⟨aD b4, B2, c2, (fc (hf.g 1 0) (fc rfl (fc rfl fn_))), (hS17.sel [0, 3, 2, 4] rfl rfl)⟩
       exact aN
      exact aN
     exact aN
    refine rS 6 5 rfl (yN [.slice none 0 0] 1 hS10 K26) ?_ ?_
    ·rintro _ w_12 ⟨b4, rfl, hS18⟩
     refine ⟨(hS18.se [0]), ?_⟩
     refine rA [3] ?_
     refine rC 44 3 rfl (yC [gB_ b B c] k_call_84 (c_spec_l9Turn b B c b.Cells.length _ rfl (hS18.inn0 [(true, 0)] rfl) hc1)) ?_ ?_
     ·rintro _ w_13 ⟨B1, c1, rfl, hd4⟩
      have hS19 := hS18.out0 hd4
      refine ⟨(hS19.se [0]), ?_⟩
      refine rA [4] ?_
      refine rC 45 4 rfl (yC [pt (aD b3) 0, gB_ b B c, gB_ r_2 B1 c1] K133 (c_spec_l2C_bloch (Tl2C.mk false) b r_2 (aD b3) B c b.Cells.length B1 c1 r_2.Cells.length _ rfl rfl (hS19.inn [false, true, false, false] rfl [(true, 0), (false, 2)] rfl) hc2)) ?_ ?_
      ·rintro _ w_14 ⟨B2, c2, rfl, hd5⟩
       have hS20 := hS19.out [false, true, false, false] rfl hd5
       refine ⟨(hS20.se [0]), ?_⟩
       refine rA [6] ?_
       refine rZ 6 rfl (yT 1 1 (aD b4) 29 (gB_ r_3 B2 c2) (kB_ r_3 B2 c2) 0 hS20 K14) ?_ ?_
       ·rintro _ w_15 ⟨rfl, hS21⟩
        refine ⟨(hS21.se [0]), ?_⟩
        refine ra_done (by kernel_rfl) ?_
        exact ⟨aD b4, B2, c2, (fc (hf.g 1 0) (fc rfl (fc rfl fn_))), (hS21.sel [0, 3, 1, 4] rfl rfl)⟩
       exact aN
      exact aN
     exact aN
    exact aN
   rintro f w ⟨B3, B4, c3, hf1, hS9⟩
   refine cq ?_
   obtain ⟨x1, hx1, hF3⟩ := bI hF3
   obtain ⟨⟨r_4, m1⟩, hc3, hF3⟩ := bI hF3
   obtain ⟨⟨r_5, m2⟩, hc4, hF3⟩ := bI hF3
   refine cw_mid (fun f w => ∃ (B5 : Option Addr), FF f [(1, pt (aD b1) 0), (5, pt (aD b3) 0), (6, pt B3 0), (7, pt B5 0)] ∧ ST w0 [] w [⟨aD b1, 29, kB_ b B c, 1⟩, ⟨aD b3, 59, [.bool m2.bad], 1⟩, ⟨B3, 29, kB_ r_3 B4 c3, 1⟩, ⟨B4, 54, (r_3.Cells.flatMap eN0), c3 * 5⟩, ⟨B5, 54, kD_ r_5, 5⟩] [⟨B, (b.Cells.flatMap eN0)⟩]) ?_ ?_
   ·skip
    refine ra_start (hS9.se [0, 2, 3]).fn (by kernel_rfl) ?_
    have hS25 := hS9.drew
    refine rq 0 46 (v := pt (aD b3) 0) rfl (hS25.se [0, 2, 3]) (fun w' hw' => (ym (pt (aD b3) 0) rfl (hf1.g 5 1))) ?_
    refine rq 1 47 (v := pt (aD b1) 0) rfl (hS25.se [0, 2, 3]) (fun w' hw' => (yd (aD b1) 0 0 K18 K8 rfl (hf1.g 1 0))) ?_
    refine rq 2 48 (v := .slice B b.Cells.length c) rfl (hS25.se [0, 2, 3]) (fun w' hw' => (yl (aD b1) 0 (kB_ b B c) (.slice B b.Cells.length c) K12 (ST.cf hw' (i := 0) rfl))) ?_
    refine rq 3 49 (v := pt B ((0 : Int).toNat * 5)) rfl (hS25.se [0, 2, 3]) (fun w' hw' => (Y_index (B := B) (m := b.Cells.length) (c := c) (k := .i64) (i := 0) K7 K0 rfl rfl rfl (gi_isSome eN2 rfl (ST.rf hw' (i := 0) rfl) hx1) (getI_nn hx1) (getI_ltI hx1 rfl))) ?_
    refine rq 4 50 (v := gD_ x1) rfl (hS25.se [0, 2, 3]) (fun w' hw' => (ya B ((0 : Int).toNat * 5) (b.Cells.flatMap eN0) (kD_ x1) K3 K0 (ST.rf hw' (i := 0) rfl) rfl rfl (eN2 x1) (gi_seg eN2 hx1))) ?_
    refine rq 5 51 (v := pt (aD b3) 0) rfl (hS25.se [0, 2, 3]) (fun w' hw' => (ym (pt (aD b3) 0) rfl (hf1.g 5 1))) ?_
    refine rq 6 52 (v := gB_ b B c) rfl (hS25.se [0, 2, 3]) (fun w' hw' => (yb (aD b1) 0 (kB_ b B c) K25 K14 (ST.cf hw' (i := 0) rfl) rfl (hf1.g 1 0))) ?_
    refine rA [7, 9] ?_
    refine rC 53 7 rfl (yC [pt (aD b3) 0, gB_ b B c, vi 1, vi 2] K98 (c_spec_l2C_minor m b 1 2 (aD b3) B c b.Cells.length _ rfl (hS25.inn [false, true, false, false] rfl [(true, 0)] rfl) hc3)) ?_ ?_
    ·rintro _ w_16 ⟨rfl, hd6⟩
     have hS26 := hS25.out [false, true, false, false] rfl hd6
     refine ⟨(hS26.se [0, 1, 2]), ?_⟩
     refine rA [8, 9] ?_
     refine rC 54 8 rfl (yC [pt (aD b3) 0, gD_ x1, gD_ r_4] K43 (c_spec_l2C_mul m1 x1 r_4 (aD b3) _  (hS26.inn [false, false, false, true] rfl [] rfl) hc4)) ?_ ?_
     ·rintro _ w_17 ⟨rfl, hd7⟩
      have hS27 := hS26.out [false, false, false, true] rfl hd7
      refine ⟨(hS27.se [0, 1, 2]), ?_⟩
      refine rA [9] ?_
      refine rS 7 9 rfl (yN kZ_ 5 hS27 K5) ?_ ?_
      ·rintro _ w_18 ⟨b5, rfl, hS28⟩
       refine ⟨(hS28.se [0, 1, 2]), ?_⟩
       refine rA [10] ?_
       refine rZ 10 rfl (yT 4 5 (aD b5) 54 (gD_ r_5) (kD_ r_5) 0 hS28 K0) ?_ ?_
       ·rintro _ w_19 ⟨rfl, hS29⟩
        refine ⟨(hS29.se [0, 1, 2]), ?_⟩
        refine ra_done (by kernel_rfl) ?_
        exact ⟨aD b5, (fc (hf1.g 1 0) (fc (hf1.g 5 1) (fc (hf1.g 6 2) (fc rfl fn_)))), (hS29.sel [0, 3, 1, 2, 4] rfl rfl)⟩
       exact aN
      exact aN
     refine rS 7 9 rfl (yN kZ_ 5 hS26 K5) ?_ ?_
     ·rintro _ w_20 ⟨b5, rfl, hS30⟩
      refine ⟨(hS30.se [0, 1, 2]), ?_⟩
      refine rA [8] ?_
      refine rC 54 8 rfl (yC [pt (aD b3) 0, gD_ x1, gD_ r_4] K43 (c_spec_l2C_mul m1 x1 r_4 (aD b3) _  (hS30.inn [false, false, false, true, false] rfl [] rfl) hc4)) ?_ ?_
      ·rintro _ w_21 ⟨rfl, hd8⟩
       have hS31 := hS30.out [false, false, false, true, false] rfl hd8
       refine ⟨(hS31.se [0, 1, 2]), ?_⟩
       refine rA [10] ?_
       refine rZ 10 rfl (yT 3 5 (aD b5) 54 (gD_ r_5) (kD_ r_5) 0 hS31 K0) ?_ ?_
       ·rintro _ w_22 ⟨rfl, hS32⟩
        refine ⟨(hS32.se [0, 1, 2]), ?_⟩
        refine ra_done (by kernel_rfl) ?_
        exact ⟨aD b5, (fc (hf1.g 1 0) (fc (hf1.g 5 1) (fc (hf1.g 6 2) (fc rfl fn_)))), (hS32.sel [0, 4, 1, 2, 3] rfl rfl)⟩
       exact aN
      exact aN
     exact aN
    refine rS 7 9 rfl (yN kZ_ 5 hS25 K5) ?_ ?_
    ·rintro _ w_23 ⟨b5, rfl, hS33⟩
     refine ⟨(hS33.se [0, 2, 3]), ?_⟩
     refine rA [7] ?_
     refine rC 53 7 rfl (yC [pt (aD b3) 0, gB_ b B c, vi 1, vi 2] K98 (c_spec_l2C_minor m b 1 2 (aD b3) B c b.Cells.length _ rfl (hS33.inn [false, true, false, false, false] rfl [(true, 0)] rfl) hc3)) ?_ ?_
     ·rintro _ w_24 ⟨rfl, hd9⟩
      have hS34 := hS33.out [false, true, false, false, false] rfl hd9
      refine ⟨(hS34.se [0, 1, 2]), ?_⟩
      refine rA [8] ?_
      refine rC 54 8 rfl (yC [pt (aD b3) 0, gD_ x1, gD_ r_4] K43 (c_spec_l2C_mul m1 x1 r_4 (aD b3) _  (hS34.inn [false, false, false, false, true] rfl [] rfl) hc4)) ?_ ?_
      ·rintro _ w_25 ⟨rfl, hd10⟩
       have hS35 := hS34.out [false, false, false, false, true] rfl hd10
       refine ⟨(hS35.se [0, 1, 2]), ?_⟩
       refine rA [10] ?_
       refine rZ 10 rfl (yT 3 5 (aD b5) 54 (gD_ r_5) (kD_ r_5) 0 hS35 K0) ?_ ?_
       ·rintro _ w_26 ⟨rfl, hS36⟩
        refine ⟨(hS36.se [0, 1, 2]), ?_⟩
        refine ra_done (by kernel_rfl) ?_
        exact ⟨aD b5, (fc (hf1.g 1 0) (fc (hf1.g 5 1) (fc (hf1.g 6 2) (fc rfl fn_)))), (hS36.sel [0, 4, 1, 2, 3] rfl rfl)⟩
       exact aN
      exact aN
     exact aN
    exact aN
   rintro f w ⟨B5, hf2, hS24⟩
   refine cq ?_
   obtain ⟨x2, hx2, hF3⟩ := bI hF3
   obtain ⟨⟨r_6, m3⟩, hc5, hF3⟩ := bI hF3
   obtain ⟨⟨r_7, m4⟩, hc6, hF3⟩ := bI hF3
   obtain ⟨r_8, hc7, hF3⟩ := bI hF3
   obtain ⟨⟨r_9, m5⟩, hc8, hF3⟩ := bI hF3
   refine cw_mid (fun f w => FF f [(1, pt (aD b1) 0), (5, pt (aD b3) 0), (6, pt B3 0), (7, pt B5 0)] ∧ ST w0 [] w [⟨aD b1, 29, kB_ b B c, 1⟩, ⟨aD b3, 59, [.bool m5.bad], 1⟩, ⟨B3, 29, kB_ r_3 B4 c3, 1⟩, ⟨B4, 54, (r_3.Cells.flatMap eN0), c3 * 5⟩, ⟨B5, 54, kD_ r_9, 5⟩] [⟨B, (b.Cells.flatMap eN0)⟩]) ?_ ?_
   ·skip
    refine ra_start (hS24.se [0, 2, 3]).fn (by kernel_rfl) ?_
    have hS42 := hS24.drew
    refine rq 0 55 (v := pt (aD b3) 0) rfl (hS42.se [0, 2, 3]) (fun w' hw' => (ym (pt (aD b3) 0) rfl (hf2.g 5 1))) ?_
    refine rq 2 57 (v := pt (aD b3) 0) rfl (hS42.se [0, 2, 3]) (fun w' hw' => (ym (pt (aD b3) 0) rfl (hf2.g 5 1))) ?_
    refine rq 3 58 (v := pt (aD b1) 0) rfl (hS42.se [0, 2, 3]) (fun w' hw' => (yd (aD b1) 0 0 K18 K8 rfl (hf2.g 1 0))) ?_
    refine rq 4 59 (v := .slice B b.Cells.length c) rfl (hS42.se [0, 2, 3]) (fun w' hw' => (yl (aD b1) 0 (kB_ b B c) (.slice B b.Cells.length c) K12 (ST.cf hw' (i := 0) rfl))) ?_
    refine rq 5 60 (v := pt B ((1 : Int).toNat * 5)) rfl (hS42.se [0, 2, 3]) (fun w' hw' => (Y_index (B := B) (m := b.Cells.length) (c := c) (k := .i64) (i := 1) K7 K0 rfl rfl rfl (gi_isSome eN2 rfl (ST.rf hw' (i := 0) rfl) hx2) (getI_nn hx2) (getI_ltI hx2 rfl))) ?_
    refine rq 6 61 (v := gD_ x2) rfl (hS42.se [0, 2, 3]) (fun w' hw' => (ya B ((1 : Int).toNat * 5) (b.Cells.flatMap eN0) (kD_ x2) K3 K0 (ST.rf hw' (i := 0) rfl) rfl rfl (eN2 x2) (gi_seg eN2 hx2))) ?_
    refine rq 7 62 (v := pt (aD b3) 0) rfl (hS42.se [0, 2, 3]) (fun w' hw' => (ym (pt (aD b3) 0) rfl (hf2.g 5 1))) ?_
    refine rq 8 63 (v := gB_ b B c) rfl (hS42.se [0, 2, 3]) (fun w' hw' => (yb (aD b1) 0 (kB_ b B c) K25 K14 (ST.cf hw' (i := 0) rfl) rfl (hf2.g 1 0))) ?_
    refine rA [1, 9] ?_
    refine ra_y 56 (i := 1) (v := gD_ r_5) rfl rfl rfl (yb B5 0 (kD_ r_5) K3 K0 (hS42.c 4) rfl (hf2.g 7 3)) (hS42.se [0, 2, 3]) ?_ ?_
    ·skip
     refine rA [9] ?_
     refine rC 64 9 rfl (yC [pt (aD b3) 0, gB_ b B c, vi 0, vi 2] K98 (c_spec_l2C_minor m2 b 0 2 (aD b3) B c b.Cells.length _ rfl (hS42.inn [false, true, false, false, false] rfl [(true, 0)] rfl) hc5)) ?_ ?_
     ·rintro _ w_27 ⟨rfl, hd11⟩
      have hS43 := hS42.out [false, true, false, false, false] rfl hd11
      refine ⟨(hS43.se [0, 1, 2]), ?_⟩
      refine rA [10] ?_
      refine rC 65 10 rfl (yC [pt (aD b3) 0, gD_ x2, gD_ r_6] K43 (c_spec_l2C_mul m3 x2 r_6 (aD b3) _  (hS43.inn [false, false, false, false, true] rfl [] rfl) hc6)) ?_ ?_
      ·rintro _ w_28 ⟨rfl, hd12⟩
       have hS44 := hS43.out [false, false, false, false, true] rfl hd12
       refine ⟨(hS44.se [0, 1, 2]), ?_⟩
       refine rA [11] ?_
       refine rC 66 11 rfl (yC [gD_ r_7] K78 (c_spec_l2Neg r_7 _  (hS44.inn0 [] rfl) hc7)) ?_ ?_
       ·rintro _ w_29 ⟨rfl, hd13⟩
        have hS45 := hS44.out00 hd13
        refine ⟨(hS45.se [0, 1, 2]), ?_⟩
        refine rA [12] ?_
        refine rC 67 12 rfl (yC [pt (aD b3) 0, gD_ r_5, gD_ r_8] K48 (c_spec_l2C_add m4 r_5 r_8 (aD b3) _  (hS45.inn [false, false, false, false, true] rfl [] rfl) hc8)) ?_ ?_
        ·rintro _ w_30 ⟨rfl, hd14⟩
         have hS46 := hS45.out [false, false, false, false, true] rfl hd14
         have hS46 : ST w0 [] _ [⟨aD b1, 29, kB_ b B c, 1⟩, ⟨B3, 29, kB_ r_3 B4 c3, 1⟩, ⟨B4, 54, (r_3.Cells.flatMap eN0), c3 * 5⟩, ⟨B5, 54, kD_ r_5, 5⟩, ⟨aD b3, 59, [.bool m5.bad], 1⟩] [⟨B, (b.Cells.flatMap eN0)⟩] := hS46
         refine ⟨(hS46.se [0, 1, 2]), ?_⟩
         refine rA [13] ?_
         refine rZ 13 rfl (yT 3 5 B5 54 (gD_ r_9) (kD_ r_9) 0 hS46 K0 rfl (hf2.g 7 3)) ?_ ?_
         ·rintro _ w_31 ⟨rfl, hS47⟩
          refine ⟨(hS47.se [0, 1, 2]), ?_⟩
          refine ra_done (by kernel_rfl) ?_
          exact ⟨(fc (hf2.g 1 0) (fc (hf2.g 5 1) (fc (hf2.g 6 2) (fc (hf2.g 7 3) fn_)))), (hS47.sel [0, 4, 1, 2, 3] rfl rfl)⟩
         exact aN
        exact aN
       exact aN
      exact aN
     exact aN
    refine rC 64 9 rfl (yC [pt (aD b3) 0, gB_ b B c, vi 0, vi 2] K98 (c_spec_l2C_minor m2 b 0 2 (aD b3) B c b.Cells.length _ rfl (hS42.inn [false, true, false, false, false] rfl [(true, 0)] rfl) hc5)) ?_ ?_
    ·rintro _ w_32 ⟨rfl, hd15⟩
     have hS48 := hS42.out [false, true, false, false, false] rfl hd15
     refine ⟨(hS48.se [0, 1, 2]), ?_⟩
     refine rA [1, 10] ?_
     refine ra_y 56 (i := 1) (v := gD_ r_5) rfl rfl rfl (yb B5 0 (kD_ r_5) K3 K0 (hS48.c 3) rfl (hf2.g 7 3)) (hS48.se [0, 1, 2]) ?_ ?_
     ·skip
      refine rA [10] ?_
      refine rC 65 10 rfl (yC [pt (aD b3) 0, gD_ x2, gD_ r_6] K43 (c_spec_l2C_mul m3 x2 r_6 (aD b3) _  (hS48.inn [false, false, false, false, true] rfl [] rfl) hc6)) ?_ ?_
      ·rintro _ w_33 ⟨rfl, hd16⟩
       have hS49 := hS48.out [false, false, false, false, true] rfl hd16
       refine ⟨(hS49.se [0, 1, 2]), ?_⟩
       refine rA [11] ?_
       refine rC 66 11 rfl (yC [gD_ r_7] K78 (c_spec_l2Neg r_7 _  (hS49.inn0 [] rfl) hc7)) ?_ ?_
       ·rintro _ w_34 ⟨rfl, hd17⟩
        have hS50 := hS49.out00 hd17
        refine ⟨(hS50.se [0, 1, 2]), ?_⟩
        refine rA [12] ?_
        refine rC 67 12 rfl (yC [pt (aD b3) 0, gD_ r_5, gD_ r_8] K48 (c_spec_l2C_add m4 r_5 r_8 (aD b3) _  (hS50.inn [false, false, false, false, true] rfl [] rfl) hc8)) ?_ ?_
        ·rintro _ w_35 ⟨rfl, hd18⟩
         have hS51 := hS50.out [false, false, false, false, true] rfl hd18
         refine ⟨(hS51.se [0, 1, 2]), ?_⟩
         refine rA [13] ?_
         refine rZ 13 rfl (yT 3 5 B5 54 (gD_ r_9) (kD_ r_9) 0 hS51 K0 rfl (hf2.g 7 3)) ?_ ?_
         ·rintro _ w_36 ⟨rfl, hS52⟩
          refine ⟨(hS52.se [0, 1, 2]), ?_⟩
          refine ra_done (by kernel_rfl) ?_
          exact ⟨(fc (hf2.g 1 0) (fc (hf2.g 5 1) (fc (hf2.g 6 2) (fc (hf2.g 7 3) fn_)))), (hS52.sel [0, 4, 1, 2, 3] rfl rfl)⟩
         exact aN
        exact aN
       exact aN
      exact aN
     refine rC 65 10 rfl (yC [pt (aD b3) 0, gD_ x2, gD_ r_6] K43 (c_spec_l2C_mul m3 x2 r_6 (aD b3) _  (hS48.inn [false, false, false, false, true] rfl [] rfl) hc6)) ?_ ?_
     ·rintro _ w_37 ⟨rfl, hd19⟩
      have hS53 := hS48.out [false, false, false, false, true] rfl hd19
      refine ⟨(hS53.se [0, 1, 2]), ?_⟩
      refine rA [1, 11] ?_
      refine ra_y 56 (i := 1) (v := gD_ r_5) rfl rfl rfl (yb B5 0 (kD_ r_5) K3 K0 (hS53.c 3) rfl (hf2.g 7 3)) (hS53.se [0, 1, 2]) ?_ ?_
      ·skip
       refine rA [11] ?_
       refine rC 66 11 rfl (yC [gD_ r_7] K78 (c_spec_l2Neg r_7 _  (hS53.inn0 [] rfl) hc7)) ?_ ?_
       ·rintro _ w_38 ⟨rfl, hd20⟩
        have hS54 := hS53.out00 hd20
        refine ⟨(hS54.se [0, 1, 2]), ?_⟩
        refine rA [12] ?_
        refine rC 67 12 rfl (yC [pt (aD b3) 0, gD_ r_5, gD_ r_8] K48 (c_spec_l2C_add m4 r_5 r_8 (aD b3) _  (hS54.inn [false, false, false, false, true] rfl [] rfl) hc8)) ?_ ?_
        ·rintro _ w_39 ⟨rfl, hd21⟩
         have hS55 := hS54.out [false, false, false, false, true] rfl hd21
         refine ⟨(hS55.se [0, 1, 2]), ?_⟩
         refine rA [13] ?_
         refine rZ 13 rfl (yT 3 5 B5 54 (gD_ r_9) (kD_ r_9) 0 hS55 K0 rfl (hf2.g 7 3)) ?_ ?_
         ·rintro _ w_40 ⟨rfl, hS56⟩
          refine ⟨(hS56.se [0, 1, 2]), ?_⟩
          refine ra_done (by kernel_rfl) ?_
          exact ⟨(fc (hf2.g 1 0) (fc (hf2.g 5 1) (fc (hf2.g 6 2) (fc (hf2.g 7 3) fn_)))), (hS56.sel [0, 4, 1, 2, 3] rfl rfl)⟩
         exact aN
        exact aN
       exact aN
      refine rC 66 11 rfl (yC [gD_ r_7] K78 (c_spec_l2Neg r_7 _  (hS53.inn0 [] rfl) hc7)) ?_ ?_
      ·rintro _ w_41 ⟨rfl, hd22⟩
       have hS57 := hS53.out00 hd22
       refine ⟨(hS57.se [0, 1, 2]), ?_⟩
       refine rA [1] ?_
       refine ra_y 56 (i := 1) (v := gD_ r_5) rfl rfl rfl (yb B5 0 (kD_ r_5) K3 K0 (hS57.c 3) rfl (hf2.g 7 3)) (hS57.se [0, 1, 2]) ?_ ?_
       ·skip
        refine rA [12] ?_
        refine rC 67 12 rfl (yC [pt (aD b3) 0, gD_ r_5, gD_ r_8] K48 (c_spec_l2C_add m4 r_5 r_8 (aD b3) _  (hS57.inn [false, false, false, false, true] rfl [] rfl) hc8)) ?_ ?_
        ·rintro _ w_42 ⟨rfl, hd23⟩
         have hS58 := hS57.out [false, false, false, false, true] rfl hd23
         refine ⟨(hS58.se [0, 1, 2]), ?_⟩
         refine rA [13] ?_
         refine rZ 13 rfl (yT 3 5 B5 54 (gD_ r_9) (kD_ r_9) 0 hS58 K0 rfl (hf2.g 7 3)) ?_ ?_
         ·rintro _ w_43 ⟨rfl, hS59⟩
          refine ⟨(hS59.se [0, 1, 2]), ?_⟩
          refine ra_done (by kernel_rfl) ?_
          exact ⟨(fc (hf2.g 1 0) (fc (hf2.g 5 1) (fc (hf2.g 6 2) (fc (hf2.g 7 3) fn_)))), (hS59.sel [0, 4, 1, 2, 3] rfl rfl)⟩
         exact aN
        exact aN
       exact aN
      exact aN
     exact aN
    exact aN
   rintro f w ⟨hf3, hS41⟩
   refine cq ?_
   obtain ⟨x3, hx3, hF3⟩ := bI hF3
   obtain ⟨⟨r_10, m6⟩, hc9, hF3⟩ := bI hF3
   obtain ⟨⟨r_11, m7⟩, hc10, hF3⟩ := bI hF3
   obtain ⟨⟨r_12, m8⟩, hc11, hF3⟩ := bI hF3
   refine cw_mid (fun f w => FF f [(5, pt (aD b3) 0), (6, pt B3 0), (7, pt B5 0)] ∧ ST w0 [] w [⟨aD b3, 59, [.bool m8.bad], 1⟩, ⟨B3, 29, kB_ r_3 B4 c3, 1⟩, ⟨B4, 54, (r_3.Cells.flatMap eN0), c3 * 5⟩, ⟨B5, 54, kD_ r_12, 5⟩] [⟨B, (b.Cells.flatMap eN0)⟩]) ?_ ?_
   ·skip
    refine ra_start (hS41.se [0, 2, 3]).fn (by kernel_rfl) ?_
    have hS64 := hS41.drew
    refine rq 0 68 (v := pt (aD b3) 0) rfl (hS64.se [0, 2, 3]) (fun w' hw' => (ym (pt (aD b3) 0) rfl (hf3.g 5 1))) ?_
    refine rq 2 70 (v := pt (aD b3) 0) rfl (hS64.se [0, 2, 3]) (fun w' hw' => (ym (pt (aD b3) 0) rfl (hf3.g 5 1))) ?_
    refine rq 3 71 (v := pt (aD b1) 0) rfl (hS64.se [0, 2, 3]) (fun w' hw' => (yd (aD b1) 0 0 K18 K8 rfl (hf3.g 1 0))) ?_
    refine rq 4 72 (v := .slice B b.Cells.length c) rfl (hS64.se [0, 2, 3]) (fun w' hw' => (yl (aD b1) 0 (kB_ b B c) (.slice B b.Cells.length c) K12 (ST.cf hw' (i := 0) rfl))) ?_
    refine rq 5 73 (v := pt B ((2 : Int).toNat * 5)) rfl (hS64.se [0, 2, 3]) (fun w' hw' => (Y_index (B := B) (m := b.Cells.length) (c := c) (k := .i64) (i := 2) K7 K0 rfl rfl rfl (gi_isSome eN2 rfl (ST.rf hw' (i := 0) rfl) hx3) (getI_nn hx3) (getI_ltI hx3 rfl))) ?_
    refine rq 6 74 (v := gD_ x3) rfl (hS64.se [0, 2, 3]) (fun w' hw' => (ya B ((2 : Int).toNat * 5) (b.Cells.flatMap eN0) (kD_ x3) K3 K0 (ST.rf hw' (i := 0) rfl) rfl rfl (eN2 x3) (gi_seg eN2 hx3))) ?_
    refine rq 7 75 (v := pt (aD b3) 0) rfl (hS64.se [0, 2, 3]) (fun w' hw' => (ym (pt (aD b3) 0) rfl (hf3.g 5 1))) ?_
    refine rq 8 76 (v := gB_ b B c) rfl (hS64.se [0, 2, 3]) (fun w' hw' => (yb (aD b1) 0 (kB_ b B c) K25 K14 (ST.cf hw' (i := 0) rfl) rfl (hf3.g 1 0))) ?_
    refine rA [1, 9] ?_
    refine ra_y 69 (i := 1) (v := gD_ r_9) rfl rfl rfl (yb B5 0 (kD_ r_9) K3 K0 (hS64.c 4) rfl (hf3.g 7 3)) (hS64.se [0, 2, 3]) ?_ ?_
    ·skip
     refine rA [9] ?_
     refine rC 77 9 rfl (yC [pt (aD b3) 0, gB_ b B c, vi 0, vi 1] K98 (c_spec_l2C_minor m5 b 0 1 (aD b3) B c b.Cells.length _ rfl (hS64.inn [false, true, false, false, false] rfl [(true, 0)] rfl) hc9)) ?_ ?_
     ·rintro _ w_44 ⟨rfl, hd24⟩
      have hS65 := hS64.out [false, true, false, false, false] rfl hd24
      refine ⟨(hS65.se [0, 1, 2]), ?_⟩
      refine rA [10] ?_
      refine rC 78 10 rfl (yC [pt (aD b3) 0, gD_ x3, gD_ r_10] K43 (c_spec_l2C_mul m6 x3 r_10 (aD b3) _  (hS65.inn [false, false, false, false, true] rfl [] rfl) hc10)) ?_ ?_
      ·rintro _ w_45 ⟨rfl, hd25⟩
       have hS66 := hS65.out [false, false, false, false, true] rfl hd25
       refine ⟨(hS66.se [0, 1, 2]), ?_⟩
       refine rA [11] ?_
       refine rC 79 11 rfl (yC [pt (aD b3) 0, gD_ r_9, gD_ r_11] K48 (c_spec_l2C_add m7 r_9 r_11 (aD b3) _  (hS66.inn [false, false, false, false, true] rfl [] rfl) hc11)) ?_ ?_
       ·rintro _ w_46 ⟨rfl, hd26⟩
        have hS67 := hS66.out [false, false, false, false, true] rfl hd26
        refine ⟨(hS67.se [0, 1, 2]), ?_⟩
        refine rA [12] ?_
        refine rZ 12 rfl (yT 3 5 B5 54 (gD_ r_12) (kD_ r_12) 0 hS67 K0 rfl (hf3.g 7 3)) ?_ ?_
        ·rintro _ w_47 ⟨rfl, hS68⟩
         refine ⟨(hS68.se [0, 1, 2]), ?_⟩
         refine ra_done (by kernel_rfl) ?_
         exact ⟨(fc (hf3.g 5 1) (fc (hf3.g 6 2) (fc (hf3.g 7 3) fn_))), (hS68.sel [4, 1, 2, 3] rfl rfl)⟩
        exact aN
       exact aN
      exact aN
     exact aN
    refine rC 77 9 rfl (yC [pt (aD b3) 0, gB_ b B c, vi 0, vi 1] K98 (c_spec_l2C_minor m5 b 0 1 (aD b3) B c b.Cells.length _ rfl (hS64.inn [false, true, false, false, false] rfl [(true, 0)] rfl) hc9)) ?_ ?_
    ·rintro _ w_48 ⟨rfl, hd27⟩
     have hS69 := hS64.out [false, true, false, false, false] rfl hd27
     refine ⟨(hS69.se [0, 1, 2]), ?_⟩
     refine rA [1, 10] ?_
     refine ra_y 69 (i := 1) (v := gD_ r_9) rfl rfl rfl (yb B5 0 (kD_ r_9) K3 K0 (hS69.c 3) rfl (hf3.g 7 3)) (hS69.se [0, 1, 2]) ?_ ?_
     ·skip
      refine rA [10] ?_
      refine rC 78 10 rfl (yC [pt (aD b3) 0, gD_ x3, gD_ r_10] K43 (c_spec_l2C_mul m6 x3 r_10 (aD b3) _  (hS69.inn [false, false, false, false, true] rfl [] rfl) hc10)) ?_ ?_
      ·rintro _ w_49 ⟨rfl, hd28⟩
       have hS70 := hS69.out [false, false, false, false, true] rfl hd28
       refine ⟨(hS70.se [0, 1, 2]), ?_⟩
       refine rA [11] ?_
       refine rC 79 11 rfl (yC [pt (aD b3) 0, gD_ r_9, gD_ r_11] K48 (c_spec_l2C_add m7 r_9 r_11 (aD b3) _  (hS70.inn [false, false, false, false, true] rfl [] rfl) hc11)) ?_ ?_
       ·rintro _ w_50 ⟨rfl, hd29⟩
        have hS71 := hS70.out [false, false, false, false, true] rfl hd29
        refine ⟨(hS71.se [0, 1, 2]), ?_⟩
        refine rA [12] ?_
        refine rZ 12 rfl (yT 3 5 B5 54 (gD_ r_12) (kD_ r_12) 0 hS71 K0 rfl (hf3.g 7 3)) ?_ ?_
        ·rintro _ w_51 ⟨rfl, hS72⟩
         refine ⟨(hS72.se [0, 1, 2]), ?_⟩
         refine ra_done (by kernel_rfl) ?_
         exact ⟨(fc (hf3.g 5 1) (fc (hf3.g 6 2) (fc (hf3.g 7 3) fn_))), (hS72.sel [4, 1, 2, 3] rfl rfl)⟩
        exact aN
       exact aN
      exact aN
     refine rC 78 10 rfl (yC [pt (aD b3) 0, gD_ x3, gD_ r_10] K43 (c_spec_l2C_mul m6 x3 r_10 (aD b3) _  (hS69.inn [false, false, false, false, true] rfl [] rfl) hc10)) ?_ ?_
     ·rintro _ w_52 ⟨rfl, hd30⟩
      have hS73 := hS69.out [false, false, false, false, true] rfl hd30
      refine ⟨(hS73.se [0, 1, 2]), ?_⟩
      refine rA [1] ?_
      refine ra_y 69 (i := 1) (v := gD_ r_9) rfl rfl rfl (yb B5 0 (kD_ r_9) K3 K0 (hS73.c 3) rfl (hf3.g 7 3)) (hS73.se [0, 1, 2]) ?_ ?_
      ·skip
       refine rA [11] ?_
       refine rC 79 11 rfl (yC [pt (aD b3) 0, gD_ r_9, gD_ r_11] K48 (c_spec_l2C_add m7 r_9 r_11 (aD b3) _  (hS73.inn [false, false, false, false, true] rfl [] rfl) hc11)) ?_ ?_
       ·rintro _ w_53 ⟨rfl, hd31⟩
        have hS74 := hS73.out [false, false, false, false, true] rfl hd31
        refine ⟨(hS74.se [0, 1, 2]), ?_⟩
        refine rA [12] ?_
        refine rZ 12 rfl (yT 3 5 B5 54 (gD_ r_12) (kD_ r_12) 0 hS74 K0 rfl (hf3.g 7 3)) ?_ ?_
        ·rintro _ w_54 ⟨rfl, hS75⟩
         refine ⟨(hS75.se [0, 1, 2]), ?_⟩
         refine ra_done (by kernel_rfl) ?_
         exact ⟨(fc (hf3.g 5 1) (fc (hf3.g 6 2) (fc (hf3.g 7 3) fn_))), (hS75.sel [4, 1, 2, 3] rfl rfl)⟩
        exact aN
       exact aN
      exact aN
     exact aN
    exact aN
   rintro f w ⟨hf4, hS63⟩
   refine cq ?_
   refine cw_split (B := (!m8.bad)) (fun hb3 => ?_) (fun hb3 => ?_)
   ·skip
    have hF6 := ct hF3 hb3
    obtain ⟨r_13, hc12, hF6⟩ := bI hF6
    obtain ⟨r_14, hc13, hF6⟩ := bI hF6
    obtain ⟨r_15, hc14, hF6⟩ := bI hF6
    refine ra_start (hS63.se [0, 1, 2, 3]).fn (by kernel_rfl) ?_
    have hS79 := hS63.drew
    refine rq 0 80 (v := pt (aD b3) 0) rfl (hS79.se [0, 1, 2, 3]) (fun w' hw' => (ym (pt (aD b3) 0) rfl (hf4.g 5 0))) ?_
    refine rq 1 81 (v := pt (aD b3) 0) rfl (hS79.se [0, 1, 2, 3]) (fun w' hw' => (Y_nilCheck (B := aD b3) (i := 0) rfl rfl)) ?_
    refine rq 2 82 (v := pt (aD b3) 0) rfl (hS79.se [0, 1, 2, 3]) (fun w' hw' => (yd (aD b3) 0 0 K65 K54)) ?_
    refine rq 3 83 (v := .bool m8.bad) rfl (hS79.se [0, 1, 2, 3]) (fun w' hw' => (yl (aD b3) 0 [.bool m8.bad] (.bool m8.bad) K72 (ST.cf hw' (i := 0) rfl))) ?_
    refine rq 4 84 (v := .bool (!m8.bad)) rfl (hS79.se [0, 1, 2, 3]) (fun w' hw' => (Y_not (p := m8.bad) rfl rfl)) ?_
    refine rq 5 85 (v := .bool (!m8.bad)) rfl (hS79.se [0, 1, 2, 3]) (fun w' hw' => (ym (.bool (!m8.bad)))) ?_
    refine ra_gq 6 86 (B := (!m8.bad)) (v := gB_ r_3 B4 c3) rfl rfl rfl (uT_ 85) (by kernel_rfl) (by kernel_rfl) (by kernel_rfl) (hS79.se [0, 1, 2, 3]) (fun hg12 w' hw' => (yb B3 0 (kB_ r_3 B4 c3) K25 K14 (ST.cf hw' (i := 1) rfl) rfl (hf4.g 6 1))) ?_
    refine rA [7] ?_
    refine ra_cg 87 (i := 7) rfl rfl rfl (uT_ 85) hb3 (yC [] k_call_87 (c_spec_l9Unit  _  (hS79.inn0 [] rfl) hc12)) ?_ ?_
    ·rintro _ w_55 ⟨B6, c4, rfl, hd32⟩
     have hS80 := hS79.out0 hd32
     refine ⟨(hS80.se [0, 1, 2, 3]), ?_⟩
     refine rA [8] ?_
     refine ra_cg 88 (i := 8) rfl rfl rfl (uT_ 85) hb3 (yC [gB_ r_3 B4 c3, gB_ r_13 B6 c4] k_call_77 (c_spec_l9Same r_3 r_13 B4 c3 r_3.Cells.length B6 c4 r_13.Cells.length _ rfl rfl (hS80.inn0 [(false, 2), (false, 4)] rfl) hc13) rfl (mc (gv_of (v := gB_ r_3 B4 c3) hb3) (mc rfl mn))) ?_ ?_
     ·rintro _ w_56 ⟨rfl, hd33⟩
      have hS81 := hS80.out00 hd33
      refine ⟨(hS81.se [0, 1, 2, 3]), ?_⟩
      refine rq 9 89 (v := .bool r_14) rfl (hS81.se [0, 1, 2, 3]) (fun w' hw' => (Y_pickT (b := (!m8.bad)) (v := .bool r_14) rfl rfl hb3 rfl)) ?_
      refine rq 10 90 (v := .bool r_14) rfl (hS81.se [0, 1, 2, 3]) (fun w' hw' => (ym (.bool r_14))) ?_
      refine ra_gq 11 91 (B := r_14) (v := gD_ r_12) rfl rfl rfl (uT_ 90) (by kernel_rfl) (by kernel_rfl) (by kernel_rfl) (hS81.se [0, 1, 2, 3]) (fun hg13 w' hw' => (yb B5 0 (kD_ r_12) K3 K0 (ST.cf hw' (i := 3) rfl) rfl (hf4.g 7 2))) ?_
      refine rA [12] ?_
      refine ra_gc 92 (i := 12) (B := r_14) (v := gD_ r_15) (F := hS81.fn) rfl rfl rfl (uT_ 90) hS81 (fun hg14 => (yC [vi 0] K56 (CV.mono (c_spec_l2Power 0 _  (hS81.inn0 [] rfl) (gb_inv hc14 hg14)) (by rintro _ _ ⟨rfl, h⟩; exact ⟨rfl, hS81.out00 h⟩)))) ?_ ?_
      ·rintro w_57 hS82
       refine ⟨(hS82.se [0, 1, 2, 3]), ?_⟩
       refine ra_gq 13 93 (B := r_14) (v := .bool (((r_12.Num.A == r_15.Num.A) && ((r_12.Num.B == r_15.Num.B) && ((r_12.Num.C == r_15.Num.C) && ((r_12.Num.D == r_15.Num.D) && true)))) && ((r_12.Exp == r_15.Exp) && true))) rfl rfl rfl (uT_ 90) (by kernel_rfl) (by kernel_rfl) (by kernel_rfl) (hS82.se [0, 1, 2, 3]) (fun hg15 w' hw' => (Y_eqA (xs := #[vi r_12.Num.A, vi r_12.Num.B, vi r_12.Num.C, vi r_12.Num.D, vi r_12.Exp]) (ys := #[vi r_15.Num.A, vi r_15.Num.B, vi r_15.Num.C, vi r_15.Num.D, vi r_15.Exp]) (b := (((r_12.Num.A == r_15.Num.A) && ((r_12.Num.B == r_15.Num.B) && ((r_12.Num.C == r_15.Num.C) && ((r_12.Num.D == r_15.Num.D) && true)))) && ((r_12.Exp == r_15.Exp) && true))) K73 rfl (gv_of (v := gD_ r_12) hg15) (gv_of (v := gD_ r_15) hg15) (eqr_struct (xs := kD_ r_12) (ys := kD_ r_15) K74 K75 (pts_ag (us := kR_ r_12.Num) (vs := kR_ r_15.Num) K10 K4 rfl rfl (eqr_struct (xs := kR_ r_12.Num) (ys := kR_ r_15.Num) K76 K77 (pts_sc K1 rfl rfl (eqr_int K19) (pts_sc K1 rfl rfl (eqr_int K19) (pts_sc K1 rfl rfl (eqr_int K19) (pts_sc K1 rfl rfl (eqr_int K19) pts_nil))))) (pts_sc K1 rfl rfl (eqr_int K19) pts_nil))))) ?_
       refine ra_q 14 94 (v := .bool (r_14 && (((r_12.Num.A == r_15.Num.A) && ((r_12.Num.B == r_15.Num.B) && ((r_12.Num.C == r_15.Num.C) && ((r_12.Num.D == r_15.Num.D) && true)))) && ((r_12.Exp == r_15.Exp) && true)))) rfl rfl rfl (by kernel_rfl) (by kernel_rfl) (by kernel_rfl) (hS82.se [0, 1, 2, 3]) (fun w' hw' => (Y_and (b := r_14) (z := (((r_12.Num.A == r_15.Num.A) && ((r_12.Num.B == r_15.Num.B) && ((r_12.Num.C == r_15.Num.C) && ((r_12.Num.D == r_15.Num.D) && true)))) && ((r_12.Exp == r_15.Exp) && true))) rfl rfl rfl rfl)) ?_
       refine ra_q 15 2 (v := .bool (r_14 && (((r_12.Num.A == r_15.Num.A) && ((r_12.Num.B == r_15.Num.B) && ((r_12.Num.C == r_15.Num.C) && ((r_12.Num.D == r_15.Num.D) && true)))) && ((r_12.Exp == r_15.Exp) && true)))) rfl rfl rfl (by kernel_rfl) (by kernel_rfl) (by kernel_rfl) (hS82.se [0, 1, 2, 3]) (fun w' hw' => (yg (.bool (r_14 && (((r_12.Num.A == r_15.Num.A) && ((r_12.Num.B == r_15.Num.B) && ((r_12.Num.C == r_15.Num.C) && ((r_12.Num.D == r_15.Num.D) && true)))) && ((r_12.Exp == r_15.Exp) && true)))))) ?_
       refine ra_done (by kernel_rfl) ?_
       refine ct_ ?_
       obtain rfl := sI hF6
       exact ret1 Tryz.results44 (v1 := .bool (r_14 && (((r_12.Num.A == r_15.Num.A) && ((r_12.Num.B == r_15.Num.B) && ((r_12.Num.C == r_15.Num.C) && ((r_12.Num.D == r_15.Num.D) && true)))) && ((r_12.Exp == r_15.Exp) && true)))) (resAt_tmp rfl) ⟨rfl, (hS82.sN [])⟩
      exact aN
     exact aN
    exact aN
   ·skip
    have hF7 := cf' hF3 hb3
    obtain ⟨r_16, hc15, hF7⟩ := bI hF7
    refine ra_start (hS63.se [0, 1, 2, 3]).fn (by kernel_rfl) ?_
    have hS84 := hS63.drew
    refine rq 0 80 (v := pt (aD b3) 0) rfl (hS84.se [0, 1, 2, 3]) (fun w' hw' => (ym (pt (aD b3) 0) rfl (hf4.g 5 0))) ?_
    refine rq 1 81 (v := pt (aD b3) 0) rfl (hS84.se [0, 1, 2, 3]) (fun w' hw' => (Y_nilCheck (B := aD b3) (i := 0) rfl rfl)) ?_
    refine rq 2 82 (v := pt (aD b3) 0) rfl (hS84.se [0, 1, 2, 3]) (fun w' hw' => (yd (aD b3) 0 0 K65 K54)) ?_
    refine rq 3 83 (v := .bool m8.bad) rfl (hS84.se [0, 1, 2, 3]) (fun w' hw' => (yl (aD b3) 0 [.bool m8.bad] (.bool m8.bad) K72 (ST.cf hw' (i := 0) rfl))) ?_
    refine rq 4 84 (v := .bool (!m8.bad)) rfl (hS84.se [0, 1, 2, 3]) (fun w' hw' => (Y_not (p := m8.bad) rfl rfl)) ?_
    refine rq 5 85 (v := .bool (!m8.bad)) rfl (hS84.se [0, 1, 2, 3]) (fun w' hw' => (ym (.bool (!m8.bad)))) ?_
    refine ra_gq 6 86 (B := (!m8.bad)) (v := gB_ r_3 B4 c3) rfl rfl rfl (uT_ 85) (by kernel_rfl) (by kernel_rfl) (by kernel_rfl) (hS84.se [0, 1, 2, 3]) (fun hg12 w' hw' => (yb B3 0 (kB_ r_3 B4 c3) K25 K14 (ST.cf hw' (i := 1) rfl) rfl (hf4.g 6 1))) ?_
    refine ra_gq 7 87 (B := (!m8.bad)) (v := undef) rfl rfl rfl (uT_ 85) (by kernel_rfl) (by kernel_rfl) (by kernel_rfl) (hS84.se [0, 1, 2, 3]) (fun hg _ _ => nomatch (hg.symm.trans hb3)) ?_
    refine ra_gq 8 88 (B := (!m8.bad)) (v := undef) rfl rfl rfl (uT_ 85) (by kernel_rfl) (by kernel_rfl) (by kernel_rfl) (hS84.se [0, 1, 2, 3]) (fun hg _ _ => nomatch (hg.symm.trans hb3)) ?_
    refine rq 9 89 (v := .bool false) rfl (hS84.se [0, 1, 2, 3]) (fun w' hw' => (Y_pickF (b := (!m8.bad)) (v := .bool false) rfl rfl hb3 rfl)) ?_
    refine rq 10 90 (v := .bool false) rfl (hS84.se [0, 1, 2, 3]) (fun w' hw' => (ym (.bool false))) ?_
    refine ra_gq 11 91 (B := false) (v := gD_ r_12) rfl rfl rfl (uT_ 90) (by kernel_rfl) (by kernel_rfl) (by kernel_rfl) (hS84.se [0, 1, 2, 3]) (fun hg16 w' hw' => (yb B5 0 (kD_ r_12) K3 K0 (ST.cf hw' (i := 3) rfl) rfl (hf4.g 7 2))) ?_
    refine rA [12] ?_
    refine ra_gc 92 (i := 12) (B := false) (v := gD_ r_16) (F := hS84.fn) rfl rfl rfl (uT_ 90) hS84 (fun hg17 => (yC [vi 0] K56 (CV.mono (c_spec_l2Power 0 _  (hS84.inn0 [] rfl) (gb_inv hc15 hg17)) (by rintro _ _ ⟨rfl, h⟩; exact ⟨rfl, hS84.out00 h⟩)))) ?_ ?_
    ·rintro w_58 hS85
     refine ⟨(hS85.se [0, 1, 2, 3]), ?_⟩
     refine ra_gq 13 93 (B := false) (v := .bool (((r_12.Num.A == r_16.Num.A) && ((r_12.Num.B == r_16.Num.B) && ((r_12.Num.C == r_16.Num.C) && ((r_12.Num.D == r_16.Num.D) && true)))) && ((r_12.Exp == r_16.Exp) && true))) rfl rfl rfl (uT_ 90) (by kernel_rfl) (by kernel_rfl) (by kernel_rfl) (hS85.se [0, 1, 2, 3]) (fun hg18 w' hw' => (Y_eqA (xs := #[vi r_12.Num.A, vi r_12.Num.B, vi r_12.Num.C, vi r_12.Num.D, vi r_12.Exp]) (ys := #[vi r_16.Num.A, vi r_16.Num.B, vi r_16.Num.C, vi r_16.Num.D, vi r_16.Exp]) (b := (((r_12.Num.A == r_16.Num.A) && ((r_12.Num.B == r_16.Num.B) && ((r_12.Num.C == r_16.Num.C) && ((r_12.Num.D == r_16.Num.D) && true)))) && ((r_12.Exp == r_16.Exp) && true))) K73 rfl (gv_of (v := gD_ r_12) hg18) (gv_of (v := gD_ r_16) hg18) (eqr_struct (xs := kD_ r_12) (ys := kD_ r_16) K74 K75 (pts_ag (us := kR_ r_12.Num) (vs := kR_ r_16.Num) K10 K4 rfl rfl (eqr_struct (xs := kR_ r_12.Num) (ys := kR_ r_16.Num) K76 K77 (pts_sc K1 rfl rfl (eqr_int K19) (pts_sc K1 rfl rfl (eqr_int K19) (pts_sc K1 rfl rfl (eqr_int K19) (pts_sc K1 rfl rfl (eqr_int K19) pts_nil))))) (pts_sc K1 rfl rfl (eqr_int K19) pts_nil))))) ?_
     refine ra_q 14 94 (v := .bool (false && (((r_12.Num.A == r_16.Num.A) && ((r_12.Num.B == r_16.Num.B) && ((r_12.Num.C == r_16.Num.C) && ((r_12.Num.D == r_16.Num.D) && true)))) && ((r_12.Exp == r_16.Exp) && true)))) rfl rfl rfl (by kernel_rfl) (by kernel_rfl) (by kernel_rfl) (hS85.se [0, 1, 2, 3]) (fun w' hw' => (Y_and (b := false) (z := (((r_12.Num.A == r_16.Num.A) && ((r_12.Num.B == r_16.Num.B) && ((r_12.Num.C == r_16.Num.C) && ((r_12.Num.D == r_16.Num.D) && true)))) && ((r_12.Exp == r_16.Exp) && true))) rfl rfl rfl rfl)) ?_
     refine ra_q 15 2 (v := .bool (false && (((r_12.Num.A == r_16.Num.A) && ((r_12.Num.B == r_16.Num.B) && ((r_12.Num.C == r_16.Num.C) && ((r_12.Num.D == r_16.Num.D) && true)))) && ((r_12.Exp == r_16.Exp) && true)))) rfl rfl rfl (by kernel_rfl) (by kernel_rfl) (by kernel_rfl) (hS85.se [0, 1, 2, 3]) (fun w' hw' => (yg (.bool (false && (((r_12.Num.A == r_16.Num.A) && ((r_12.Num.B == r_16.Num.B) && ((r_12.Num.C == r_16.Num.C) && ((r_12.Num.D == r_16.Num.D) && true)))) && ((r_12.Exp == r_16.Exp) && true)))))) ?_
     refine ra_done (by kernel_rfl) ?_
     refine ct_ ?_
     obtain rfl := sI hF7
     exact ret1 Tryz.results44 (v1 := .bool (false && (((r_12.Num.A == r_16.Num.A) && ((r_12.Num.B == r_16.Num.B) && ((r_12.Num.C == r_16.Num.C) && ((r_12.Num.D == r_16.Num.D) && true)))) && ((r_12.Exp == r_16.Exp) && true)))) (resAt_tmp rfl) ⟨rfl, (hS85.sN [])⟩
    exact aN

theorem c_spec_l1Most (a : Int) (b : Int)  (w0 : World)  (hS : ST w0 [] w0 [] []) {r_ : Int} (hF : F_spec_l1Most a b = some r_) :
  CV Tryz.prog 88 #[vi a, vi b] w0 (fun v w' => v = vi r_ ∧ ST w0 [] w' [] []) := by
 unfold F_spec_l1Most at hF
 refine cv_of_cw 10 Tryz.func88 rfl Tryz.ntmps88 rfl ?_
 refine cq (cr ?_)
 refine sQ 4 (yg (vi 0)) (rn (cq (cq (cr ?_))))
 refine sQ 5 (ym (vi a)) <| sQ 6 (ym (vi b)) <| sQ 7 (Y_gt (k := .i64) (a := a) (b := b) rfl rfl rfl) (rn ?_)
 refine cw_cond (b := (decide (b < a))) rfl (fun hb => ?_) (fun hb => ?_)
 ·skip
  have hF1 := ct hF hb
  refine cq (cr ?_)
  refine sQ 8 (ym (vi a)) <| sQ 4 (yg (vi a)) (rn (ct_ ?_))
  obtain rfl := sI hF1
  exact ret1 Tryz.results88 (v1 := vi a) (resAt_tmp rfl) ⟨rfl, (hS.sN [])⟩
 ·skip
  have hF2 := cf' hF hb
  refine cw_skip (cq (cr ?_))
  refine sQ 9 (ym (vi b)) <| sQ 4 (yg (vi b)) (rn (ct_ ?_))
  obtain rfl := sI hF2
  exact ret1 Tryz.results88 (v1 := vi b) (resAt_tmp rfl) ⟨rfl, (hS.sN [])⟩

theorem c_spec_l9Exp (b : TBloch) (B : Option Addr) (c n : Nat) (w0 : World) (hn : b.Cells.length = n) (hS : ST w0 [] w0 [] [⟨B, (b.Cells.flatMap eN0)⟩]) {r_ : Int} (hF : F_spec_l9Exp b = some r_) :
  CV Tryz.prog 45 #[.agg #[.slice B n c]] w0 (fun v w' => v = vi r_ ∧ ST w0 [] w' [] []) := by
 subst hn
 unfold F_spec_l9Exp at hF
 refine cv_of_cw 19 Tryz.func45 rfl Tryz.ntmps45 rfl ?_
 refine cq (cr ?_)
 refine sS 1 (yB 29 (gB_ b B c) (kB_ b B c) 1 hS) ?_
 rintro _ w_ ⟨b1, rfl, hS1⟩
 refine sQ 2 (yg (vi 0)) (rn (cq (cr ?_)))
 refine sQ 3 (yg (vi 0)) (rn (cq (cq (cr ?_))))
 refine sQ 6 (yd (aD b1) 0 0 K18 K8) <| sQ 7 (yl (aD b1) 0 (kB_ b B c) (.slice B b.Cells.length c) K12 (hS1.c 0)) <| sQ 8 (Y_len (B := B) (m := b.Cells.length) (c := c) K7 rfl rfl) <| sQ 9 (ym (vi 0)) (rn ?_)
 obtain ⟨hN, hF⟩ := chk_inv hF
 obtain ⟨z, hz, hF1⟩ := bI hF
 refine cw_block ?_
 refine cw_loop (fun k f w => ∃ (i : Nat) (k_ : Int), FF f [(3, vi k_), (7, .slice B b.Cells.length c), (8, vi (b.Cells.length : Int)), (9, vi (i : Int))] ∧ ST w0 [] w [] [⟨B, (b.Cells.flatMap eN0)⟩] ∧ i + k = b.Cells.length ∧ forN (F_spec_l9Exp_l1 b) k i k_ = some z) b.Cells.length ⟨0, 0, (fc rfl (fc rfl (fc rfl (fc rfl fn_)))), (hS1.sel [] rfl rfl), Nat.zero_add _, hz⟩ ?_
 rintro K9 f w ⟨i, k_, hf, hS2, hik, hL⟩
 refine cq (cr ?_)
 refine sQ 10 (yL (i : Int) (b.Cells.length : Int) rfl (hf.g 9 3) (hf.g 8 2)) (rn (cq ?_))
 refine cw_cond (b := (decide ((i : Int) < (b.Cells.length : Int)))) rfl (fun hlt => ?_) (fun hlt => ?_)
 ·skip
  have hlt1 : i < b.Cells.length := by have h := of_decide_eq_true hlt; omega
  obtain ⟨K15, rfl⟩ : ∃ k2, K9 = k2 + 1 := ⟨K9 - 1, by omega⟩
  obtain ⟨y, hb, hL1⟩ := forN_go hL
  unfold F_spec_l9Exp_l1 at hb
  refine cw_skip (cq (cw_block (cq (cr ?_))))
  obtain ⟨x, hx, hb⟩ := bI hb
  refine sQ 11 (Y_index (B := B) (m := b.Cells.length) (c := c) (k := .i64) (i := (i : Int)) K7 K0 rfl (hf.g 7 1) (hf.g 9 3) (gi_isSome eN2 rfl (hS2.rf (i := 0) rfl) hx) (getI_nn hx) (getI_ltI hx rfl)) <| sQ 12 (ya B ((i : Int).toNat * 5) (b.Cells.flatMap eN0) (kD_ x) K3 K0 (hS2.rf (i := 0) rfl) rfl rfl (eN2 x) (gi_seg eN2 hx)) ?_
  refine sS 5 (yN kZ_ 5 hS2 K5) ?_
  rintro _ w_1 ⟨b2, rfl, hS3⟩
  refine s0 (yT 0 5 (aD b2) 54 (gD_ x) (kD_ x) 0 hS3 K0) ?_
  rintro _ w_2 ⟨rfl, hS4⟩
  refine rn (cr ?_)
  refine sQ 13 (ym (vi k_) rfl (hf.g 3 0)) <| sQ 14 (yd (aD b2) 0 0 K30 K2) <| sQ 15 (yl (aD b2) 4 (kD_ x) (vi x.Exp) K1 (hS4.c 0)) ?_
  obtain ⟨r_1, hc, hb⟩ := bI hb
  refine sc 16 rfl rfl (yC [vi k_, vi x.Exp] k_call_88 (c_spec_l1Most k_ x.Exp _  (hS4.inn0 [] rfl) hc)) ?_
  rintro _ w_3 ⟨rfl, hd⟩
  have hS5 := hS4.out00 hd
  refine sQ 3 (yg (vi r_1)) (rn (cr ?_))
  refine sQ 17 (yP (i : Int) 1 rfl (hf.g 9 3)) <| sQ 9 (ym (vi (i64.wrap ((i : Int) + 1)))) (rn ?_)
  obtain rfl := sI hb
  exact ⟨K15, Nat.lt_succ_self _, i + 1, r_1, (fc rfl (fc (hf.g 7 1) (fc (hf.g 8 2) (fc (congrArg (Value.int .i64) (wr_succ hlt1 hN)) fn_)))), (hS5.sel [] rfl rfl), (by omega), hL1⟩
 ·skip
  obtain rfl : K9 = 0 := by have h := of_decide_eq_false hlt; omega
  refine cw_exit rfl ?_
  obtain rfl := sI hL
  refine cq (cr ?_)
  refine sQ 18 (ym (vi k_) rfl (hf.g 3 0)) <| sQ 2 (yg (vi k_)) (rn (ct_ ?_))
  obtain rfl := sI hF1
  exact ret1 Tryz.results45 (v1 := vi k_) (resAt_tmp rfl) ⟨rfl, (hS2.sN [])⟩

theorem c_spec_ParityOf (b : TBloch) (B : Option Addr) (c n : Nat) (w0 : World) (hn : b.Cells.length = n) (hS : ST w0 [] w0 [] [⟨B, (b.Cells.flatMap eN0)⟩]) {r_ : List UInt8} {r_1 : Bool} (hF : F_spec_ParityOf b = some (r_, r_1)) :
  CV Tryz.prog 20 #[.agg #[.slice B n c]] w0 (fun v w' => v = .tuple #[.string (bstr r_), .bool r_1] ∧ ST w0 [] w' [] []) := by
 subst hn
 unfold F_spec_ParityOf at hF
 refine cv_of_cw 35 Tryz.func20 rfl Tryz.ntmps20 rfl ?_
 refine cq (cr ?_)
 refine sS 1 (yB 29 (gB_ b B c) (kB_ b B c) 1 hS) ?_
 rintro _ w_ ⟨b1, rfl, hS1⟩
 refine sQ 2 (yg (.string (bstr ([] : List UInt8)))) <| sQ 3 (yg (.bool false)) (rn (cq (cq (cr ?_))))
 refine sQ 7 (yb (aD b1) 0 (kB_ b B c) K25 K14 (hS1.c 0)) ?_
 obtain ⟨r_2, hc, hF⟩ := bI hF
 refine sc 8 rfl rfl (yC [gB_ b B c] k_call_44 (c_spec_l9Valid b B c b.Cells.length _ rfl (hS1.inn0 [(true, 0)] rfl) hc)) ?_
 rintro _ w_1 ⟨rfl, hd⟩
 have hS2 := hS1.out00 hd
 refine sQ 9 (Y_not (p := r_2) rfl rfl) (rn ?_)
 refine cw_cond (b := (!r_2)) rfl (fun hb => ?_) (fun hb => ?_)
 ·skip
  have hF1 := ct hF hb
  refine cq (cr ?_)
  refine sQ 2 (yg (.string (bstr ([] : List UInt8)))) <| sQ 3 (yg (.bool false)) (rn (ct_ ?_))
  obtain ⟨rfl, rfl⟩ := pr2 (sI hF1)
  exact ret2 Tryz.results20 (v1 := .string (bstr ([] : List UInt8))) (resAt_tmp rfl) (v2 := .bool false) (resAt_tmp rfl) ⟨rfl, (hS2.sN [])⟩
 ·skip
  have hF2 := cf' hF hb
  refine cw_skip (cq (cr ?_))
  refine sQ 4 (yg (.string (bstr ([] : List UInt8)))) (rn (cq (cq (cr ?_))))
  refine sQ 10 (yd (aD b1) 0 0 K18 K8) <| sQ 11 (yl (aD b1) 0 (kB_ b B c) (.slice B b.Cells.length c) K12 (hS2.c 0)) <| sQ 12 (Y_len (B := B) (m := b.Cells.length) (c := c) K7 rfl rfl) <| sQ 13 (ym (vi 0)) (rn ?_)
  obtain ⟨hN, hF2⟩ := chk_inv hF2
  obtain ⟨z, hz, hF3⟩ := bI hF2
  refine cw_block ?_
  refine cw_loop (fun k f w => ∃ (i : Nat) (s : List UInt8), FF f [(1, pt (aD b1) 0), (4, .string (bstr s)), (11, .slice B b.Cells.length c), (12, vi (b.Cells.length : Int)), (13, vi (i : Int))] ∧ ST w0 [] w [⟨aD b1, 29, kB_ b B c, 1⟩] [⟨B, (b.Cells.flatMap eN0)⟩] ∧ i + k = b.Cells.length ∧ forN (F_spec_ParityOf_l1 b) k i s = some z) b.Cells.length ⟨0, ([] : List UInt8), (fc rfl (fc rfl (fc rfl (fc rfl (fc rfl fn_))))), (hS2.sel [0] rfl rfl), Nat.zero_add _, hz⟩ ?_
  rintro k_ f w ⟨i, s, hf, hS3, hik, hL⟩
  refine cq (cr ?_)
  refine sQ 14 (yL (i : Int) (b.Cells.length : Int) rfl (hf.g 13 4) (hf.g 12 3)) (rn (cq ?_))
  refine cw_cond (b := (decide ((i : Int) < (b.Cells.length : Int)))) rfl (fun hlt => ?_) (fun hlt => ?_)
  ·skip
   have hlt1 : i < b.Cells.length := by have h := of_decide_eq_true hlt; omega
   obtain ⟨K9, rfl⟩ : ∃ k2, k_ = k2 + 1 := ⟨k_ - 1, by omega⟩
   obtain ⟨y, hb1, hL1⟩ := forN_go hL
   unfold F_spec_ParityOf_l1 at hb1
   refine cw_skip (cq ?_)
   obtain ⟨z1, hz1, hF4⟩ := bI hb1
   refine cw_mid (fun f w => ∃ (s1 : List UInt8), s1 = z1 ∧ FF f [(1, pt (aD b1) 0), (4, .string (bstr s1)), (11, .slice B b.Cells.length c), (12, vi (b.Cells.length : Int)), (13, vi (i : Int))] ∧ ST w0 [] w [⟨aD b1, 29, kB_ b B c, 1⟩] [⟨B, (b.Cells.flatMap eN0)⟩]) ?_ ?_
   ·skip
    refine cw_block (cq (cr ?_))
    obtain ⟨x, hx, hz1⟩ := bI hz1
    refine sQ 15 (Y_index (B := B) (m := b.Cells.length) (c := c) (k := .i64) (i := (i : Int)) K7 K0 rfl (hf.g 11 2) (hf.g 13 4) (gi_isSome eN2 rfl (hS3.rf (i := 0) rfl) hx) (getI_nn hx) (getI_ltI hx rfl)) <| sQ 16 (ya B ((i : Int).toNat * 5) (b.Cells.flatMap eN0) (kD_ x) K3 K0 (hS3.rf (i := 0) rfl) rfl rfl (eN2 x) (gi_seg eN2 hx)) ?_
    refine sS 6 (yN kZ_ 5 hS3 K5) ?_
    rintro _ w_2 ⟨b2, rfl, hS5⟩
    refine s0 (yT 1 5 (aD b2) 54 (gD_ x) (kD_ x) 0 hS5 K0) ?_
    rintro _ w_3 ⟨rfl, hS6⟩
    refine rn (cq ?_)
    obtain ⟨r_3, hc1, hz1⟩ := bI hz1
    refine ra_start (hS6.se [0, 1]).fn (by kernel_rfl) ?_
    have hS8 := hS6.drew
    refine rq 0 17 (v := pt (aD b2) 4) rfl (hS8.se [0, 1]) (fun w' hw' => (yd (aD b2) 0 0 K30 K2)) ?_
    refine rq 1 18 (v := vi x.Exp) rfl (hS8.se [0, 1]) (fun w' hw' => (yl (aD b2) 4 (kD_ x) (vi x.Exp) K1 (ST.cf hw' (i := 1) rfl))) ?_
    refine rq 2 19 (v := gB_ b B c) rfl (hS8.se [0, 1]) (fun w' hw' => (yb (aD b1) 0 (kB_ b B c) K25 K14 (ST.cf hw' (i := 0) rfl) rfl (hf.g 1 0))) ?_
    refine rA [3] ?_
    refine rC 20 3 rfl (yC [gB_ b B c] k_call_45 (c_spec_l9Exp b B c b.Cells.length _ rfl (hS8.inn0 [(true, 0)] rfl) hc1)) ?_ ?_
    ·rintro _ w_4 ⟨rfl, hd1⟩
     have hS9 := hS8.out00 hd1
     refine ⟨(hS9.se [0, 1]), ?_⟩
     refine rq 4 21 (v := .bool (x.Exp == r_3)) rfl (hS9.se [0, 1]) (fun w' hw' => (yE x.Exp r_3)) ?_
     refine rq 5 22 (v := .bool (x.Exp == r_3)) rfl (hS9.se [0, 1]) (fun w' hw' => (ym (.bool (x.Exp == r_3)))) ?_
     refine ra_gq 6 23 (B := (x.Exp == r_3)) (v := pt (aD b2) 0) rfl rfl rfl (uT_ 22) (by kernel_rfl) (by kernel_rfl) (by kernel_rfl) (hS9.se [0, 1]) (fun hg w' hw' => (yd (aD b2) 0 3 K33 K4)) ?_
     refine ra_gq 7 24 (B := (x.Exp == r_3)) (v := pt (aD b2) 0) rfl rfl rfl (uT_ 22) (by kernel_rfl) (by kernel_rfl) (by kernel_rfl) (hS9.se [0, 1]) (fun hg1 w' hw' => (yd (aD b2) 0 0 K20 K2 rfl (gv_of (v := pt (aD b2) 0) hg1))) ?_
     refine ra_gq 8 25 (B := (x.Exp == r_3)) (v := vi x.Num.A) rfl rfl rfl (uT_ 22) (by kernel_rfl) (by kernel_rfl) (by kernel_rfl) (hS9.se [0, 1]) (fun hg2 w' hw' => (yl (aD b2) 0 (kD_ x) (vi x.Num.A) K1 (ST.cf hw' (i := 1) rfl) rfl (gv_of (v := pt (aD b2) 0) hg2))) ?_
     refine ra_gq 9 26 (B := (x.Exp == r_3)) (v := vi (Int.tmod x.Num.A 2)) rfl rfl rfl (uT_ 22) (by kernel_rfl) (by kernel_rfl) (by kernel_rfl) (hS9.se [0, 1]) (fun hg3 w' hw' => (Y_rem (k := .i64) (a := x.Num.A) (b := 2) rfl (gv_of (v := vi x.Num.A) hg3) rfl (by decide))) ?_
     refine ra_gq 10 27 (B := (x.Exp == r_3)) (v := .bool ((Int.tmod x.Num.A 2) != 0)) rfl rfl rfl (uT_ 22) (by kernel_rfl) (by kernel_rfl) (by kernel_rfl) (hS9.se [0, 1]) (fun hg4 w' hw' => (Y_ne (k := .i64) (a := (Int.tmod x.Num.A 2)) (b := 0) rfl (gv_of (v := vi (Int.tmod x.Num.A 2)) hg4) rfl)) ?_
     refine rq 11 28 (v := .bool ((x.Exp == r_3) && ((Int.tmod x.Num.A 2) != 0))) rfl (hS9.se [0, 1]) (fun w' hw' => (Y_and (b := (x.Exp == r_3)) (z := ((Int.tmod x.Num.A 2) != 0)) rfl rfl rfl rfl)) ?_
     refine ra_done (by kernel_rfl) ?_
     refine cw_cond (b := ((x.Exp == r_3) && ((Int.tmod x.Num.A 2) != 0))) rfl (fun hb2 => ?_) (fun hb2 => ?_)
     ·skip
      have hF5 := ct hz1 hb2
      refine cr ?_
      refine sQ 29 (ym (.string (bstr s)) rfl (hf.g 4 1)) ?_
      obtain ⟨hsa, hF5⟩ := chk_inv hF5
      refine sQ 30 (Y_sadd (a := s) (b := ([49] : List UInt8)) rfl rfl rfl hsa) <| sQ 4 (yg (.string (bstr (s ++ ([49] : List UInt8))))) (rn ?_)
      exact ⟨(s ++ ([49] : List UInt8)), (sI hF5), (fc (hf.g 1 0) (fc rfl (fc (hf.g 11 2) (fc (hf.g 12 3) (fc (hf.g 13 4) fn_))))), (hS9.sel [0] rfl rfl)⟩
     ·skip
      have hF6 := cf' hz1 hb2
      refine cr ?_
      refine sQ 31 (ym (.string (bstr s)) rfl (hf.g 4 1)) ?_
      obtain ⟨hsa1, hF6⟩ := chk_inv hF6
      refine sQ 32 (Y_sadd (a := s) (b := ([48] : List UInt8)) rfl rfl rfl hsa1) <| sQ 4 (yg (.string (bstr (s ++ ([48] : List UInt8))))) (rn ?_)
      exact ⟨(s ++ ([48] : List UInt8)), (sI hF6), (fc (hf.g 1 0) (fc rfl (fc (hf.g 11 2) (fc (hf.g 12 3) (fc (hf.g 13 4) fn_))))), (hS9.sel [0] rfl rfl)⟩
    exact aN
   rintro f w ⟨s1, rfl, hf1, hS4⟩
   refine cr ?_
   refine sQ 33 (yP (i : Int) 1 rfl (hf1.g 13 4)) <| sQ 13 (ym (vi (i64.wrap ((i : Int) + 1)))) (rn ?_)
   obtain rfl := sI hF4
   exact ⟨K9, Nat.lt_succ_self _, i + 1, s1, (fc (hf1.g 1 0) (fc (hf1.g 4 1) (fc (hf1.g 11 2) (fc (hf1.g 12 3) (fc (congrArg (Value.int .i64) (wr_succ hlt1 hN)) fn_))))), (hS4.sel [0] rfl rfl), (by omega), hL1⟩
  ·skip
   obtain rfl : k_ = 0 := by have h := of_decide_eq_false hlt; omega
   refine cw_exit rfl ?_
   obtain rfl := sI hL
   refine cq (cr ?_)
   refine sQ 34 (ym (.string (bstr s)) rfl (hf.g 4 1)) <| sQ 2 (yg (.string (bstr s))) <| sQ 3 (yg (.bool true)) (rn (ct_ ?_))
   obtain ⟨rfl, rfl⟩ := pr2 (sI hF3)
   exact ret2 Tryz.results20 (v1 := .string (bstr s)) (resAt_tmp rfl) (v2 := .bool true) (resAt_tmp rfl) ⟨rfl, (hS3.sN [])⟩
end Go.VK
