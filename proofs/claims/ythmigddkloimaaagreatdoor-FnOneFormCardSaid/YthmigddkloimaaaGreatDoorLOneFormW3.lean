/- Walks: each Go function returns what its Lean function says. By program. -/
import Derived.Test.YthmigddkloimaaaGreatDoorLOneFormFa
import Derived.Test.YthmigddkloimaaaGreatDoorLOneFormW2
set_option linter.unusedVariables false
set_option maxRecDepth 100000
set_option maxHeartbeats 4000000
namespace Go.VK
open Go.RowKit
open Go.Proofs
open Go.IntKind
attribute [local irreducible] CW RW RA CV Y Yw Yc Ys RetOf
attribute [local irreducible] F_spec_l2C_ring F_spec_l1Root F_spec_l2Low F_spec_l1Add F_spec_l2C_add F_spec_l1Mul F_spec_l2C_mul F_spec_l2C_times F_spec_l1Turn F_spec_l2Power F_spec_l6Bit F_spec_l1Neg F_spec_l2Neg F_spec_l6One F_spec_l6Cell F_spec_l6Gate F_spec_l2C_run F_spec_l3Unit F_spec_l6Op F_spec_l9Pauli F_spec_l1Conj F_spec_l2Conj F_spec_l3Adj F_spec_l9Bloch F_spec_l9Word F_spec_l9Same F_spec_l9Words
theorem c_spec_l2C_add (c : Tl2C) (x : TDyadic) (y : TDyadic) (B : Option Addr) (w0 : World)  (hS : ST w0 (bl [⟨B, 84, [.bool c.bad], 1⟩]) w0 [⟨B, 84, [.bool c.bad], 1⟩] []) {r_ : TDyadic} {m : Tl2C} (hF : F_spec_l2C_add c x y = some (r_, m)) :
  CV Tryz.prog 100 #[pt B 0, gD_ x, gD_ y] w0 (fun v w' => v = (gD_ r_) ∧ ST w0 (bl [⟨B, 84, [.bool c.bad], 1⟩]) w' [⟨B, 84, [.bool m.bad], 1⟩] []) := by
 unfold F_spec_l2C_add at hF
 refine cv_of_cw 45 Tryz.func100 rfl Tryz.ntmps100 rfl ?_
 refine cq (cr ?_)
 refine sS 4 (yB 48 (gD_ x) (kD_ x) 5 hS) ?_
 rintro _ w_ ⟨b, rfl, hS1⟩
 refine sS 5 (yB 48 (gD_ y) (kD_ y) 5 hS1) ?_
 rintro _ w_1 ⟨b1, rfl, hS2⟩
 refine sS 6 (yN kZ_ 5 hS2 K6) ?_
 rintro _ w_2 ⟨b2, rfl, hS3⟩
 refine rn (cq ?_)
 obtain ⟨z, hz, hF1⟩ := bI hF
 refine cw_block ?_
 refine cw_loop (fun k f w => ∃ (bad : Bool) (A : Int) (B1 : Int) (C : Int) (D : Int) (Exp : Int), FF f [(0, pt B 0), (4, pt (aD b) 0), (5, pt (aD b1) 0), (6, pt (aD b2) 0)] ∧ ST w0 (bl [⟨B, 84, [.bool c.bad], 1⟩]) w [⟨B, 84, [.bool bad], 1⟩, ⟨aD b, 48, [vi A, vi B1, vi C, vi D, vi Exp], 5⟩, ⟨aD b1, 48, kD_ y, 5⟩, ⟨aD b2, 48, kZ_, 5⟩] [] ∧ whX (F_spec_l2C_add_l1 y) k (bad, A, B1, C, D, Exp) = some z) fuel ⟨c.bad, x.Num.A, x.Num.B, x.Num.C, x.Num.D, x.Exp, (fc rfl (fc rfl (fc rfl (fc rfl fn_)))), (hS3.sel [0, 1, 2, 3] rfl rfl), hz⟩ ?_
 rintro k_ f w ⟨bad, A, B1, C, D, Exp, hf, hS4, hL⟩
 obtain ⟨K7, y1, rfl, hb, hL1⟩ := whX_go hL
 unfold F_spec_l2C_add_l1 at hb
 refine cq (cq (cr ?_))
 refine sQ 7 (yd (aD b) 0 0 K35 K2 rfl (hf.g 4 1)) <| sQ 8 (yl (aD b) 4 [vi A, vi B1, vi C, vi D, vi Exp] (vi Exp) K0 (hS4.c 1)) <| sQ 9 (yd (aD b1) 0 0 K35 K2 rfl (hf.g 5 2)) <| sQ 10 (yl (aD b1) 4 (kD_ y) (vi y.Exp) K0 (hS4.c 2)) <| sQ 11 (yL Exp y.Exp) (rn ?_)
 refine cw_cond (b := (decide (Exp < y.Exp))) rfl (fun hb1 => ?_) (fun hb1 => ?_)
 ·skip
  have hF2 := ct hb hb1
  refine cw_skip (cw_block ?_)
  obtain ⟨r_1, hc, hF2⟩ := bI hF2
  obtain ⟨⟨r_2, m1⟩, hc1, hF2⟩ := bI hF2
  refine cw_mid (fun f w => FF f [(0, pt B 0), (4, pt (aD b) 0), (5, pt (aD b1) 0), (6, pt (aD b2) 0)] ∧ ST w0 (bl [⟨B, 84, [.bool c.bad], 1⟩]) w [⟨B, 84, [.bool m1.bad], 1⟩, ⟨aD b, 48, [vi r_2.A, vi r_2.B, vi r_2.C, vi r_2.D, vi (i64.wrap (Exp + 1))], 5⟩, ⟨aD b1, 48, kD_ y, 5⟩, ⟨aD b2, 48, kZ_, 5⟩] []) ?_ ?_
  ·skip
   refine ra_start (hS4.se [2, 3]).fn (by kernel_rfl) ?_
   have hS8 := hS4.drew
   refine rq 0 12 (v := pt B 0) rfl (hS8.se [2, 3]) (fun w' hw' => (ym (pt B 0) rfl (hf.g 0 0))) ?_
   refine rq 1 13 (v := pt (aD b) 0) rfl (hS8.se [2, 3]) (fun w' hw' => (yd (aD b) 0 3 K45 K5 rfl (hf.g 4 1))) ?_
   refine rq 5 17 (v := pt (aD b) 4) rfl (hS8.se [2, 3]) (fun w' hw' => (yd (aD b) 0 0 K35 K2 rfl (hf.g 4 1))) ?_
   refine rA [2, 6] ?_
   refine ra_y 14 (i := 2) (v := .agg #[vi A, vi B1, vi C, vi D]) rfl rfl rfl (ya (aD b) 0 [vi A, vi B1, vi C, vi D, vi Exp] [vi A, vi B1, vi C, vi D] K10 K5 (hS8.c 1)) (hS8.se [2, 3]) ?_ ?_
   ·skip
    refine rA [3, 6] ?_
    refine rC 15 3 rfl (yC [.agg #[vi A, vi B1, vi C, vi D]] K80 (c_spec_l1Root (TRing.mk A B1 C D) _  (hS8.inn0 [] rfl) hc)) ?_ ?_
    ·rintro _ w_3 ⟨rfl, hd⟩
     have hS9 := hS8.out00 hd
     refine ⟨(hS9.se [2, 3]), ?_⟩
     refine rA [4, 6] ?_
     refine rC 16 4 rfl (yC [pt B 0, gR_ r_1] K64 (c_spec_l2C_ring (Tl2C.mk bad) r_1 B _  (hS9.inn [true, false, false, false] rfl [] rfl) hc1)) ?_ ?_
     ·rintro _ w_4 ⟨rfl, hd1⟩
      have hS10 := hS9.out [true, false, false, false] rfl hd1
      refine ⟨(hS10.se [1, 2]), ?_⟩
      refine rA [6] ?_
      refine ra_y 18 (i := 6) (v := vi Exp) rfl rfl rfl (yl (aD b) 4 [vi A, vi B1, vi C, vi D, vi Exp] (vi Exp) K0 (hS10.c 0)) (hS10.se [1, 2]) ?_ ?_
      ·skip
       refine rq 7 19 (v := vi (i64.wrap (Exp + 1))) rfl (hS10.se [1, 2]) (fun w' hw' => (yP Exp 1)) ?_
       refine rq 8 20 (v := .agg #[vi r_2.A, vi r_2.B, vi r_2.C, vi r_2.D, vi (i64.wrap (Exp + 1))]) rfl (hS10.se [1, 2]) (fun w' hw' => (Y_buildS (zs := kZ_) (vs := [(0, gR_ r_2), (1, vi (i64.wrap (Exp + 1)))]) (cs := [vi r_2.A, vi r_2.B, vi r_2.C, vi r_2.D, vi (i64.wrap (Exp + 1))]) K18 K6 rfl (mpc rfl (mpc rfl mpn)) rfl)) ?_
       refine rA [9] ?_
       refine rZ 9 rfl (yT 0 5 (aD b) 48 (.agg #[vi r_2.A, vi r_2.B, vi r_2.C, vi r_2.D, vi (i64.wrap (Exp + 1))]) [vi r_2.A, vi r_2.B, vi r_2.C, vi r_2.D, vi (i64.wrap (Exp + 1))] 0 hS10 K1 rfl (hf.g 4 1)) ?_ ?_
       ·rintro _ w_5 ⟨rfl, hS11⟩
        refine ⟨(hS11.se [1, 2]), ?_⟩
        refine ra_done (by kernel_rfl) ?_
        exact ⟨(fc (hf.g 0 0) (fc (hf.g 4 1) (fc (hf.g 5 2) (fc (hf.g 6 3) fn_)))), (hS11.sel [3, 0, 1, 2] rfl rfl)⟩
       exact aN
      exact aN
     refine ra_y 18 (i := 6) (v := vi Exp) rfl rfl rfl (yl (aD b) 4 [vi A, vi B1, vi C, vi D, vi Exp] (vi Exp) K0 (hS9.c 1)) (hS9.se [2, 3]) ?_ ?_
     ·skip
      refine rq 7 19 (v := vi (i64.wrap (Exp + 1))) rfl (hS9.se [2, 3]) (fun w' hw' => (yP Exp 1)) ?_
      refine rA [4] ?_
      refine rC 16 4 rfl (yC [pt B 0, gR_ r_1] K64 (c_spec_l2C_ring (Tl2C.mk bad) r_1 B _  (hS9.inn [true, false, false, false] rfl [] rfl) hc1)) ?_ ?_
      ·rintro _ w_6 ⟨rfl, hd2⟩
       have hS12 := hS9.out [true, false, false, false] rfl hd2
       refine ⟨(hS12.se [1, 2]), ?_⟩
       refine rq 8 20 (v := .agg #[vi r_2.A, vi r_2.B, vi r_2.C, vi r_2.D, vi (i64.wrap (Exp + 1))]) rfl (hS12.se [1, 2]) (fun w' hw' => (Y_buildS (zs := kZ_) (vs := [(0, gR_ r_2), (1, vi (i64.wrap (Exp + 1)))]) (cs := [vi r_2.A, vi r_2.B, vi r_2.C, vi r_2.D, vi (i64.wrap (Exp + 1))]) K18 K6 rfl (mpc rfl (mpc rfl mpn)) rfl)) ?_
       refine rA [9] ?_
       refine rZ 9 rfl (yT 0 5 (aD b) 48 (.agg #[vi r_2.A, vi r_2.B, vi r_2.C, vi r_2.D, vi (i64.wrap (Exp + 1))]) [vi r_2.A, vi r_2.B, vi r_2.C, vi r_2.D, vi (i64.wrap (Exp + 1))] 0 hS12 K1 rfl (hf.g 4 1)) ?_ ?_
       ·rintro _ w_7 ⟨rfl, hS13⟩
        refine ⟨(hS13.se [1, 2]), ?_⟩
        refine ra_done (by kernel_rfl) ?_
        exact ⟨(fc (hf.g 0 0) (fc (hf.g 4 1) (fc (hf.g 5 2) (fc (hf.g 6 3) fn_)))), (hS13.sel [3, 0, 1, 2] rfl rfl)⟩
       exact aN
      exact aN
     exact aN
    refine ra_y 18 (i := 6) (v := vi Exp) rfl rfl rfl (yl (aD b) 4 [vi A, vi B1, vi C, vi D, vi Exp] (vi Exp) K0 (hS8.c 1)) (hS8.se [2, 3]) ?_ ?_
    ·skip
     refine rq 7 19 (v := vi (i64.wrap (Exp + 1))) rfl (hS8.se [2, 3]) (fun w' hw' => (yP Exp 1)) ?_
     refine rA [3] ?_
     refine rC 15 3 rfl (yC [.agg #[vi A, vi B1, vi C, vi D]] K80 (c_spec_l1Root (TRing.mk A B1 C D) _  (hS8.inn0 [] rfl) hc)) ?_ ?_
     ·rintro _ w_8 ⟨rfl, hd3⟩
      have hS14 := hS8.out00 hd3
      refine ⟨(hS14.se [2, 3]), ?_⟩
      refine rA [4] ?_
      refine rC 16 4 rfl (yC [pt B 0, gR_ r_1] K64 (c_spec_l2C_ring (Tl2C.mk bad) r_1 B _  (hS14.inn [true, false, false, false] rfl [] rfl) hc1)) ?_ ?_
      ·rintro _ w_9 ⟨rfl, hd4⟩
       have hS15 := hS14.out [true, false, false, false] rfl hd4
       refine ⟨(hS15.se [1, 2]), ?_⟩
       refine rq 8 20 (v := .agg #[vi r_2.A, vi r_2.B, vi r_2.C, vi r_2.D, vi (i64.wrap (Exp + 1))]) rfl (hS15.se [1, 2]) (fun w' hw' => (Y_buildS (zs := kZ_) (vs := [(0, gR_ r_2), (1, vi (i64.wrap (Exp + 1)))]) (cs := [vi r_2.A, vi r_2.B, vi r_2.C, vi r_2.D, vi (i64.wrap (Exp + 1))]) K18 K6 rfl (mpc rfl (mpc rfl mpn)) rfl)) ?_
       refine rA [9] ?_
       refine rZ 9 rfl (yT 0 5 (aD b) 48 (.agg #[vi r_2.A, vi r_2.B, vi r_2.C, vi r_2.D, vi (i64.wrap (Exp + 1))]) [vi r_2.A, vi r_2.B, vi r_2.C, vi r_2.D, vi (i64.wrap (Exp + 1))] 0 hS15 K1 rfl (hf.g 4 1)) ?_ ?_
       ·rintro _ w_10 ⟨rfl, hS16⟩
        refine ⟨(hS16.se [1, 2]), ?_⟩
        refine ra_done (by kernel_rfl) ?_
        exact ⟨(fc (hf.g 0 0) (fc (hf.g 4 1) (fc (hf.g 5 2) (fc (hf.g 6 3) fn_)))), (hS16.sel [3, 0, 1, 2] rfl rfl)⟩
       exact aN
      exact aN
     exact aN
    exact aN
   refine ra_y 18 (i := 6) (v := vi Exp) rfl rfl rfl (yl (aD b) 4 [vi A, vi B1, vi C, vi D, vi Exp] (vi Exp) K0 (hS8.c 1)) (hS8.se [2, 3]) ?_ ?_
   ·skip
    refine rq 7 19 (v := vi (i64.wrap (Exp + 1))) rfl (hS8.se [2, 3]) (fun w' hw' => (yP Exp 1)) ?_
    refine rA [2] ?_
    refine ra_y 14 (i := 2) (v := .agg #[vi A, vi B1, vi C, vi D]) rfl rfl rfl (ya (aD b) 0 [vi A, vi B1, vi C, vi D, vi Exp] [vi A, vi B1, vi C, vi D] K10 K5 (hS8.c 1)) (hS8.se [2, 3]) ?_ ?_
    ·skip
     refine rA [3] ?_
     refine rC 15 3 rfl (yC [.agg #[vi A, vi B1, vi C, vi D]] K80 (c_spec_l1Root (TRing.mk A B1 C D) _  (hS8.inn0 [] rfl) hc)) ?_ ?_
     ·rintro _ w_11 ⟨rfl, hd5⟩
      have hS17 := hS8.out00 hd5
      refine ⟨(hS17.se [2, 3]), ?_⟩
      refine rA [4] ?_
      refine rC 16 4 rfl (yC [pt B 0, gR_ r_1] K64 (c_spec_l2C_ring (Tl2C.mk bad) r_1 B _  (hS17.inn [true, false, false, false] rfl [] rfl) hc1)) ?_ ?_
      ·rintro _ w_12 ⟨rfl, hd6⟩
       have hS18 := hS17.out [true, false, false, false] rfl hd6
       refine ⟨(hS18.se [1, 2]), ?_⟩
       refine rq 8 20 (v := .agg #[vi r_2.A, vi r_2.B, vi r_2.C, vi r_2.D, vi (i64.wrap (Exp + 1))]) rfl (hS18.se [1, 2]) (fun w' hw' => (Y_buildS (zs := kZ_) (vs := [(0, gR_ r_2), (1, vi (i64.wrap (Exp + 1)))]) (cs := [vi r_2.A, vi r_2.B, vi r_2.C, vi r_2.D, vi (i64.wrap (Exp + 1))]) K18 K6 rfl (mpc rfl (mpc rfl mpn)) rfl)) ?_
       refine rA [9] ?_
       refine rZ 9 rfl (yT 0 5 (aD b) 48 (.agg #[vi r_2.A, vi r_2.B, vi r_2.C, vi r_2.D, vi (i64.wrap (Exp + 1))]) [vi r_2.A, vi r_2.B, vi r_2.C, vi r_2.D, vi (i64.wrap (Exp + 1))] 0 hS18 K1 rfl (hf.g 4 1)) ?_ ?_
       ·rintro _ w_13 ⟨rfl, hS19⟩
        refine ⟨(hS19.se [1, 2]), ?_⟩
        refine ra_done (by kernel_rfl) ?_
        exact ⟨(fc (hf.g 0 0) (fc (hf.g 4 1) (fc (hf.g 5 2) (fc (hf.g 6 3) fn_)))), (hS19.sel [3, 0, 1, 2] rfl rfl)⟩
       exact aN
      exact aN
     exact aN
    exact aN
   exact aN
  rintro f w ⟨hf1, hS7⟩
  obtain rfl := sI hF2
  exact ⟨K7, Nat.lt_succ_self _, m1.bad, r_2.A, r_2.B, r_2.C, r_2.D, (i64.wrap (Exp + 1)), (fc (hf1.g 0 0) (fc (hf1.g 4 1) (fc (hf1.g 5 2) (fc (hf1.g 6 3) fn_)))), (hS7.sel [0, 1, 2, 3] rfl rfl), hL1⟩
 ·skip
  have hF3 := cf' hb hb1
  refine cw_exit rfl ?_
  obtain rfl := sI hF3
  obtain rfl := sI hL1
  refine cq ?_
  obtain ⟨z1, hz1, hF4⟩ := bI hF1
  refine cw_block ?_
  refine cw_loop (fun k f w => ∃ (bad1 : Bool) (A1 : Int) (B2 : Int) (C1 : Int) (D1 : Int) (Exp1 : Int), FF f [(0, pt B 0), (4, pt (aD b) 0), (5, pt (aD b1) 0), (6, pt (aD b2) 0)] ∧ ST w0 (bl [⟨B, 84, [.bool c.bad], 1⟩]) w [⟨B, 84, [.bool bad1], 1⟩, ⟨aD b, 48, [vi A, vi B1, vi C, vi D, vi Exp], 5⟩, ⟨aD b1, 48, [vi A1, vi B2, vi C1, vi D1, vi Exp1], 5⟩, ⟨aD b2, 48, kZ_, 5⟩] [] ∧ whX (F_spec_l2C_add_l2 Exp bad A C D) k (bad1, A1, B2, C1, D1, Exp1) = some z1) fuel ⟨bad, y.Num.A, y.Num.B, y.Num.C, y.Num.D, y.Exp, (fc (hf.g 0 0) (fc (hf.g 4 1) (fc (hf.g 5 2) (fc (hf.g 6 3) fn_)))), (hS4.sel [0, 1, 2, 3] rfl rfl), hz1⟩ ?_
  rintro K15 f w ⟨bad1, A1, B2, C1, D1, Exp1, hf2, hS20, hL2⟩
  obtain ⟨K28, y2, rfl, hb2, hL3⟩ := whX_go hL2
  unfold F_spec_l2C_add_l2 at hb2
  refine cq (cq (cr ?_))
  refine sQ 21 (yd (aD b1) 0 0 K35 K2 rfl (hf2.g 5 2)) <| sQ 22 (yl (aD b1) 4 [vi A1, vi B2, vi C1, vi D1, vi Exp1] (vi Exp1) K0 (hS20.c 2)) <| sQ 23 (yd (aD b) 0 0 K35 K2 rfl (hf2.g 4 1)) <| sQ 24 (yl (aD b) 4 [vi A, vi B1, vi C, vi D, vi Exp] (vi Exp) K0 (hS20.c 1)) <| sQ 25 (yL Exp1 Exp) (rn ?_)
  refine cw_cond (b := (decide (Exp1 < Exp))) rfl (fun hb3 => ?_) (fun hb3 => ?_)
  ·skip
   have hF5 := ct hb2 hb3
   refine cw_skip (cw_block ?_)
   obtain ⟨r_3, hc2, hF5⟩ := bI hF5
   obtain ⟨⟨r_4, m2⟩, hc3, hF5⟩ := bI hF5
   refine cw_mid (fun f w => FF f [(0, pt B 0), (4, pt (aD b) 0), (5, pt (aD b1) 0), (6, pt (aD b2) 0)] ∧ ST w0 (bl [⟨B, 84, [.bool c.bad], 1⟩]) w [⟨B, 84, [.bool m2.bad], 1⟩, ⟨aD b, 48, [vi A, vi B1, vi C, vi D, vi Exp], 5⟩, ⟨aD b1, 48, [vi r_4.A, vi r_4.B, vi r_4.C, vi r_4.D, vi (i64.wrap (Exp1 + 1))], 5⟩, ⟨aD b2, 48, kZ_, 5⟩] []) ?_ ?_
   ·skip
    refine ra_start (hS20.se [1, 3]).fn (by kernel_rfl) ?_
    have hS24 := hS20.drew
    refine rq 0 26 (v := pt B 0) rfl (hS24.se [1, 3]) (fun w' hw' => (ym (pt B 0) rfl (hf2.g 0 0))) ?_
    refine rq 1 27 (v := pt (aD b1) 0) rfl (hS24.se [1, 3]) (fun w' hw' => (yd (aD b1) 0 3 K45 K5 rfl (hf2.g 5 2))) ?_
    refine rq 5 31 (v := pt (aD b1) 4) rfl (hS24.se [1, 3]) (fun w' hw' => (yd (aD b1) 0 0 K35 K2 rfl (hf2.g 5 2))) ?_
    refine rA [2, 6] ?_
    refine ra_y 28 (i := 2) (v := .agg #[vi A1, vi B2, vi C1, vi D1]) rfl rfl rfl (ya (aD b1) 0 [vi A1, vi B2, vi C1, vi D1, vi Exp1] [vi A1, vi B2, vi C1, vi D1] K10 K5 (hS24.c 2)) (hS24.se [1, 3]) ?_ ?_
    ·skip
     refine rA [3, 6] ?_
     refine rC 29 3 rfl (yC [.agg #[vi A1, vi B2, vi C1, vi D1]] K80 (c_spec_l1Root (TRing.mk A1 B2 C1 D1) _  (hS24.inn0 [] rfl) hc2)) ?_ ?_
     ·rintro _ w_14 ⟨rfl, hd7⟩
      have hS25 := hS24.out00 hd7
      refine ⟨(hS25.se [1, 3]), ?_⟩
      refine rA [4, 6] ?_
      refine rC 30 4 rfl (yC [pt B 0, gR_ r_3] K64 (c_spec_l2C_ring (Tl2C.mk bad1) r_3 B _  (hS25.inn [true, false, false, false] rfl [] rfl) hc3)) ?_ ?_
      ·rintro _ w_15 ⟨rfl, hd8⟩
       have hS26 := hS25.out [true, false, false, false] rfl hd8
       refine ⟨(hS26.se [0, 2]), ?_⟩
       refine rA [6] ?_
       refine ra_y 32 (i := 6) (v := vi Exp1) rfl rfl rfl (yl (aD b1) 4 [vi A1, vi B2, vi C1, vi D1, vi Exp1] (vi Exp1) K0 (hS26.c 1)) (hS26.se [0, 2]) ?_ ?_
       ·skip
        refine rq 7 33 (v := vi (i64.wrap (Exp1 + 1))) rfl (hS26.se [0, 2]) (fun w' hw' => (yP Exp1 1)) ?_
        refine rq 8 34 (v := .agg #[vi r_4.A, vi r_4.B, vi r_4.C, vi r_4.D, vi (i64.wrap (Exp1 + 1))]) rfl (hS26.se [0, 2]) (fun w' hw' => (Y_buildS (zs := kZ_) (vs := [(0, gR_ r_4), (1, vi (i64.wrap (Exp1 + 1)))]) (cs := [vi r_4.A, vi r_4.B, vi r_4.C, vi r_4.D, vi (i64.wrap (Exp1 + 1))]) K18 K6 rfl (mpc rfl (mpc rfl mpn)) rfl)) ?_
        refine rA [9] ?_
        refine rZ 9 rfl (yT 1 5 (aD b1) 48 (.agg #[vi r_4.A, vi r_4.B, vi r_4.C, vi r_4.D, vi (i64.wrap (Exp1 + 1))]) [vi r_4.A, vi r_4.B, vi r_4.C, vi r_4.D, vi (i64.wrap (Exp1 + 1))] 0 hS26 K1 rfl (hf2.g 5 2)) ?_ ?_
        ·rintro _ w_16 ⟨rfl, hS27⟩
         refine ⟨(hS27.se [0, 2]), ?_⟩
         refine ra_done (by kernel_rfl) ?_
         exact ⟨(fc (hf2.g 0 0) (fc (hf2.g 4 1) (fc (hf2.g 5 2) (fc (hf2.g 6 3) fn_)))), (hS27.sel [3, 0, 1, 2] rfl rfl)⟩
        exact aN
       exact aN
      refine ra_y 32 (i := 6) (v := vi Exp1) rfl rfl rfl (yl (aD b1) 4 [vi A1, vi B2, vi C1, vi D1, vi Exp1] (vi Exp1) K0 (hS25.c 2)) (hS25.se [1, 3]) ?_ ?_
      ·skip
       refine rq 7 33 (v := vi (i64.wrap (Exp1 + 1))) rfl (hS25.se [1, 3]) (fun w' hw' => (yP Exp1 1)) ?_
       refine rA [4] ?_
       refine rC 30 4 rfl (yC [pt B 0, gR_ r_3] K64 (c_spec_l2C_ring (Tl2C.mk bad1) r_3 B _  (hS25.inn [true, false, false, false] rfl [] rfl) hc3)) ?_ ?_
       ·rintro _ w_17 ⟨rfl, hd9⟩
        have hS28 := hS25.out [true, false, false, false] rfl hd9
        refine ⟨(hS28.se [0, 2]), ?_⟩
        refine rq 8 34 (v := .agg #[vi r_4.A, vi r_4.B, vi r_4.C, vi r_4.D, vi (i64.wrap (Exp1 + 1))]) rfl (hS28.se [0, 2]) (fun w' hw' => (Y_buildS (zs := kZ_) (vs := [(0, gR_ r_4), (1, vi (i64.wrap (Exp1 + 1)))]) (cs := [vi r_4.A, vi r_4.B, vi r_4.C, vi r_4.D, vi (i64.wrap (Exp1 + 1))]) K18 K6 rfl (mpc rfl (mpc rfl mpn)) rfl)) ?_
        refine rA [9] ?_
        refine rZ 9 rfl (yT 1 5 (aD b1) 48 (.agg #[vi r_4.A, vi r_4.B, vi r_4.C, vi r_4.D, vi (i64.wrap (Exp1 + 1))]) [vi r_4.A, vi r_4.B, vi r_4.C, vi r_4.D, vi (i64.wrap (Exp1 + 1))] 0 hS28 K1 rfl (hf2.g 5 2)) ?_ ?_
        ·rintro _ w_18 ⟨rfl, hS29⟩
         refine ⟨(hS29.se [0, 2]), ?_⟩
         refine ra_done (by kernel_rfl) ?_
         exact ⟨(fc (hf2.g 0 0) (fc (hf2.g 4 1) (fc (hf2.g 5 2) (fc (hf2.g 6 3) fn_)))), (hS29.sel [3, 0, 1, 2] rfl rfl)⟩
        exact aN
       exact aN
      exact aN
     refine ra_y 32 (i := 6) (v := vi Exp1) rfl rfl rfl (yl (aD b1) 4 [vi A1, vi B2, vi C1, vi D1, vi Exp1] (vi Exp1) K0 (hS24.c 2)) (hS24.se [1, 3]) ?_ ?_
     ·skip
      refine rq 7 33 (v := vi (i64.wrap (Exp1 + 1))) rfl (hS24.se [1, 3]) (fun w' hw' => (yP Exp1 1)) ?_
      refine rA [3] ?_
      refine rC 29 3 rfl (yC [.agg #[vi A1, vi B2, vi C1, vi D1]] K80 (c_spec_l1Root (TRing.mk A1 B2 C1 D1) _  (hS24.inn0 [] rfl) hc2)) ?_ ?_
      ·rintro _ w_19 ⟨rfl, hd10⟩
       have hS30 := hS24.out00 hd10
       refine ⟨(hS30.se [1, 3]), ?_⟩
       refine rA [4] ?_
       refine rC 30 4 rfl (yC [pt B 0, gR_ r_3] K64 (c_spec_l2C_ring (Tl2C.mk bad1) r_3 B _  (hS30.inn [true, false, false, false] rfl [] rfl) hc3)) ?_ ?_
       ·rintro _ w_20 ⟨rfl, hd11⟩
        have hS31 := hS30.out [true, false, false, false] rfl hd11
        refine ⟨(hS31.se [0, 2]), ?_⟩
        refine rq 8 34 (v := .agg #[vi r_4.A, vi r_4.B, vi r_4.C, vi r_4.D, vi (i64.wrap (Exp1 + 1))]) rfl (hS31.se [0, 2]) (fun w' hw' => (Y_buildS (zs := kZ_) (vs := [(0, gR_ r_4), (1, vi (i64.wrap (Exp1 + 1)))]) (cs := [vi r_4.A, vi r_4.B, vi r_4.C, vi r_4.D, vi (i64.wrap (Exp1 + 1))]) K18 K6 rfl (mpc rfl (mpc rfl mpn)) rfl)) ?_
        refine rA [9] ?_
        refine rZ 9 rfl (yT 1 5 (aD b1) 48 (.agg #[vi r_4.A, vi r_4.B, vi r_4.C, vi r_4.D, vi (i64.wrap (Exp1 + 1))]) [vi r_4.A, vi r_4.B, vi r_4.C, vi r_4.D, vi (i64.wrap (Exp1 + 1))] 0 hS31 K1 rfl (hf2.g 5 2)) ?_ ?_
        ·rintro _ w_21 ⟨rfl, hS32⟩
         refine ⟨(hS32.se [0, 2]), ?_⟩
         refine ra_done (by kernel_rfl) ?_
         exact ⟨(fc (hf2.g 0 0) (fc (hf2.g 4 1) (fc (hf2.g 5 2) (fc (hf2.g 6 3) fn_)))), (hS32.sel [3, 0, 1, 2] rfl rfl)⟩
        exact aN
       exact aN
      exact aN
     exact aN
    refine ra_y 32 (i := 6) (v := vi Exp1) rfl rfl rfl (yl (aD b1) 4 [vi A1, vi B2, vi C1, vi D1, vi Exp1] (vi Exp1) K0 (hS24.c 2)) (hS24.se [1, 3]) ?_ ?_
    ·skip
     refine rq 7 33 (v := vi (i64.wrap (Exp1 + 1))) rfl (hS24.se [1, 3]) (fun w' hw' => (yP Exp1 1)) ?_
     refine rA [2] ?_
     refine ra_y 28 (i := 2) (v := .agg #[vi A1, vi B2, vi C1, vi D1]) rfl rfl rfl (ya (aD b1) 0 [vi A1, vi B2, vi C1, vi D1, vi Exp1] [vi A1, vi B2, vi C1, vi D1] K10 K5 (hS24.c 2)) (hS24.se [1, 3]) ?_ ?_
     ·skip
      refine rA [3] ?_
      refine rC 29 3 rfl (yC [.agg #[vi A1, vi B2, vi C1, vi D1]] K80 (c_spec_l1Root (TRing.mk A1 B2 C1 D1) _  (hS24.inn0 [] rfl) hc2)) ?_ ?_
      ·rintro _ w_22 ⟨rfl, hd12⟩
       have hS33 := hS24.out00 hd12
       refine ⟨(hS33.se [1, 3]), ?_⟩
       refine rA [4] ?_
       refine rC 30 4 rfl (yC [pt B 0, gR_ r_3] K64 (c_spec_l2C_ring (Tl2C.mk bad1) r_3 B _  (hS33.inn [true, false, false, false] rfl [] rfl) hc3)) ?_ ?_
       ·rintro _ w_23 ⟨rfl, hd13⟩
        have hS34 := hS33.out [true, false, false, false] rfl hd13
        refine ⟨(hS34.se [0, 2]), ?_⟩
        refine rq 8 34 (v := .agg #[vi r_4.A, vi r_4.B, vi r_4.C, vi r_4.D, vi (i64.wrap (Exp1 + 1))]) rfl (hS34.se [0, 2]) (fun w' hw' => (Y_buildS (zs := kZ_) (vs := [(0, gR_ r_4), (1, vi (i64.wrap (Exp1 + 1)))]) (cs := [vi r_4.A, vi r_4.B, vi r_4.C, vi r_4.D, vi (i64.wrap (Exp1 + 1))]) K18 K6 rfl (mpc rfl (mpc rfl mpn)) rfl)) ?_
        refine rA [9] ?_
        refine rZ 9 rfl (yT 1 5 (aD b1) 48 (.agg #[vi r_4.A, vi r_4.B, vi r_4.C, vi r_4.D, vi (i64.wrap (Exp1 + 1))]) [vi r_4.A, vi r_4.B, vi r_4.C, vi r_4.D, vi (i64.wrap (Exp1 + 1))] 0 hS34 K1 rfl (hf2.g 5 2)) ?_ ?_
        ·rintro _ w_24 ⟨rfl, hS35⟩
         refine ⟨(hS35.se [0, 2]), ?_⟩
         refine ra_done (by kernel_rfl) ?_
         exact ⟨(fc (hf2.g 0 0) (fc (hf2.g 4 1) (fc (hf2.g 5 2) (fc (hf2.g 6 3) fn_)))), (hS35.sel [3, 0, 1, 2] rfl rfl)⟩
        exact aN
       exact aN
      exact aN
     exact aN
    exact aN
   rintro f w ⟨hf3, hS23⟩
   obtain rfl := sI hF5
   exact ⟨K28, Nat.lt_succ_self _, m2.bad, r_4.A, r_4.B, r_4.C, r_4.D, (i64.wrap (Exp1 + 1)), (fc (hf3.g 0 0) (fc (hf3.g 4 1) (fc (hf3.g 5 2) (fc (hf3.g 6 3) fn_)))), (hS23.sel [0, 1, 2, 3] rfl rfl), hL3⟩
  ·skip
   have hF6 := cf' hb2 hb3
   refine cw_exit rfl ?_
   obtain rfl := sI hF6
   obtain rfl := sI hL3
   refine cq ?_
   obtain ⟨r_5, hc4, hF4⟩ := bI hF4
   obtain ⟨⟨r_6, m3⟩, hc5, hF4⟩ := bI hF4
   obtain ⟨r_7, hc6, hF4⟩ := bI hF4
   refine ra_start (hS20.se [1, 2]).fn (by kernel_rfl) ?_
   have hS39 := hS20.drew
   refine rq 0 35 (v := pt B 0) rfl (hS39.se [1, 2]) (fun w' hw' => (ym (pt B 0) rfl (hf2.g 0 0))) ?_
   refine rq 1 36 (v := pt (aD b) 0) rfl (hS39.se [1, 2]) (fun w' hw' => (yd (aD b) 0 3 K45 K5 rfl (hf2.g 4 1))) ?_
   refine rq 2 37 (v := .agg #[vi A, vi B1, vi C, vi D]) rfl (hS39.se [1, 2]) (fun w' hw' => (ya (aD b) 0 [vi A, vi B1, vi C, vi D, vi Exp] [vi A, vi B1, vi C, vi D] K10 K5 (ST.cf hw' (i := 0) rfl))) ?_
   refine rq 3 38 (v := pt (aD b1) 0) rfl (hS39.se [1, 2]) (fun w' hw' => (yd (aD b1) 0 3 K45 K5 rfl (hf2.g 5 2))) ?_
   refine rq 4 39 (v := .agg #[vi A1, vi B2, vi C1, vi D1]) rfl (hS39.se [1, 2]) (fun w' hw' => (ya (aD b1) 0 [vi A1, vi B2, vi C1, vi D1, vi Exp1] [vi A1, vi B2, vi C1, vi D1] K10 K5 (ST.cf hw' (i := 1) rfl))) ?_
   refine rq 7 42 (v := pt (aD b) 4) rfl (hS39.se [1, 2]) (fun w' hw' => (yd (aD b) 0 0 K35 K2 rfl (hf2.g 4 1))) ?_
   refine rq 8 43 (v := vi Exp) rfl (hS39.se [1, 2]) (fun w' hw' => (yl (aD b) 4 [vi A, vi B1, vi C, vi D, vi Exp] (vi Exp) K0 (ST.cf hw' (i := 0) rfl))) ?_
   refine rA [5] ?_
   refine rC 40 5 rfl (yC [.agg #[vi A, vi B1, vi C, vi D], .agg #[vi A1, vi B2, vi C1, vi D1]] k_call_115 (c_spec_l1Add (TRing.mk A B1 C D) (TRing.mk A1 B2 C1 D1) _  (hS39.inn0 [] rfl) hc4)) ?_ ?_
   ·rintro _ w_25 ⟨rfl, hd14⟩
    have hS40 := hS39.out00 hd14
    refine ⟨(hS40.se [1, 2]), ?_⟩
    refine rA [6] ?_
    refine rC 41 6 rfl (yC [pt B 0, gR_ r_5] K64 (c_spec_l2C_ring (Tl2C.mk bad1) r_5 B _  (hS40.inn [true, false, false, false] rfl [] rfl) hc5)) ?_ ?_
    ·rintro _ w_26 ⟨rfl, hd15⟩
     have hS41 := hS40.out [true, false, false, false] rfl hd15
     refine ⟨(hS41.se [0, 1]), ?_⟩
     refine rA [9] ?_
     refine rC 44 9 rfl (yC [gR_ r_6, vi Exp] k_call_114 (c_spec_l2Low r_6 Exp _  (hS41.inn0 [] rfl) hc6)) ?_ ?_
     ·rintro _ w_27 ⟨rfl, hd16⟩
      have hS42 := hS41.out00 hd16
      refine ⟨(hS42.se [0, 1]), ?_⟩
      refine rA [10] ?_
      refine rZ 10 rfl (yT 2 5 (aD b2) 48 (gD_ r_7) (kD_ r_7) 0 hS42 K1 rfl (hf2.g 6 3)) ?_ ?_
      ·rintro _ w_28 ⟨rfl, hS43⟩
       refine ⟨(hS43.se [0, 1]), ?_⟩
       refine ra_done (by kernel_rfl) ?_
       refine ct_ ?_
       obtain ⟨rfl, rfl⟩ := pr2 (sI hF4)
       exact ret1 Tryz.results100 (v1 := gD_ r_7) (resAt_cellA (B := aD b2) (i := 0) (cs := kD_ r_7) (vs := kD_ r_7) (hf2.g 6 3) K4 K1 (hS43.c 2) rfl rfl) ⟨rfl, (hS43.sN [3])⟩
      exact aN
     exact aN
    exact aN
   exact aN

theorem c_spec_l1Mul (x : TRing) (y : TRing)  (w0 : World)  (hS : ST w0 [] w0 [] []) {r_ : TRing} (hF : F_spec_l1Mul x y = some r_) :
  CV Tryz.prog 116 #[gR_ x, gR_ y] w0 (fun v w' => v = (gR_ r_) ∧ ST w0 [] w' [] []) := by
 unfold F_spec_l1Mul at hF
 refine cv_of_cw 98 Tryz.func116 rfl Tryz.ntmps116 rfl ?_
 refine cq (cr ?_)
 refine sS 2 (yB 46 (gR_ x) (kR_ x) 4 hS) ?_
 rintro _ w_ ⟨b, rfl, hS1⟩
 refine sS 3 (yB 46 (gR_ y) (kR_ y) 4 hS1) ?_
 rintro _ w_1 ⟨b1, rfl, hS2⟩
 refine sS 4 (yN [vi 0, vi 0, vi 0, vi 0] 4 hS2 K13) ?_
 rintro _ w_2 ⟨b2, rfl, hS3⟩
 refine rn (cq (cr ?_))
 refine sQ 5 (yd (aD b) 0 0 K19 K2) <| sQ 6 (yl (aD b) 0 (kR_ x) (vi x.A) K0 (hS3.c 0)) <| sQ 7 (yd (aD b1) 0 0 K19 K2) <| sQ 8 (yl (aD b1) 0 (kR_ y) (vi y.A) K0 (hS3.c 1)) <| sQ 9 (yX x.A y.A) <| sQ 10 (yd (aD b) 0 0 K20 K2) ?_
 refine sQ 11 (yl (aD b) 1 (kR_ x) (vi x.B) K0 (hS3.c 0)) <| sQ 12 (yd (aD b1) 0 0 K22 K2) <| sQ 13 (yl (aD b1) 3 (kR_ y) (vi y.D) K0 (hS3.c 1)) <| sQ 14 (yX x.B y.D) <| sQ 15 (yM (i64.wrap (x.A * y.A)) (i64.wrap (x.B * y.D))) <| sQ 16 (yd (aD b) 0 0 K21 K2) ?_
 refine sQ 17 (yl (aD b) 2 (kR_ x) (vi x.C) K0 (hS3.c 0)) <| sQ 18 (yd (aD b1) 0 0 K21 K2) <| sQ 19 (yl (aD b1) 2 (kR_ y) (vi y.C) K0 (hS3.c 1)) <| sQ 20 (yX x.C y.C) <| sQ 21 (yM (i64.wrap ((i64.wrap (x.A * y.A)) - (i64.wrap (x.B * y.D)))) (i64.wrap (x.C * y.C))) <| sQ 22 (yd (aD b) 0 0 K22 K2) ?_
 refine sQ 23 (yl (aD b) 3 (kR_ x) (vi x.D) K0 (hS3.c 0)) <| sQ 24 (yd (aD b1) 0 0 K20 K2) <| sQ 25 (yl (aD b1) 1 (kR_ y) (vi y.B) K0 (hS3.c 1)) <| sQ 26 (yX x.D y.B) <| sQ 27 (yM (i64.wrap ((i64.wrap ((i64.wrap (x.A * y.A)) - (i64.wrap (x.B * y.D)))) - (i64.wrap (x.C * y.C)))) (i64.wrap (x.D * y.B))) <| sQ 28 (yd (aD b) 0 0 K19 K2) ?_
 refine sQ 29 (yl (aD b) 0 (kR_ x) (vi x.A) K0 (hS3.c 0)) <| sQ 30 (yd (aD b1) 0 0 K20 K2) <| sQ 31 (yl (aD b1) 1 (kR_ y) (vi y.B) K0 (hS3.c 1)) <| sQ 32 (yX x.A y.B) <| sQ 33 (yd (aD b) 0 0 K20 K2) <| sQ 34 (yl (aD b) 1 (kR_ x) (vi x.B) K0 (hS3.c 0)) ?_
 refine sQ 35 (yd (aD b1) 0 0 K19 K2) <| sQ 36 (yl (aD b1) 0 (kR_ y) (vi y.A) K0 (hS3.c 1)) <| sQ 37 (yX x.B y.A) <| sQ 38 (yP (i64.wrap (x.A * y.B)) (i64.wrap (x.B * y.A))) <| sQ 39 (yd (aD b) 0 0 K21 K2) <| sQ 40 (yl (aD b) 2 (kR_ x) (vi x.C) K0 (hS3.c 0)) ?_
 refine sQ 41 (yd (aD b1) 0 0 K22 K2) <| sQ 42 (yl (aD b1) 3 (kR_ y) (vi y.D) K0 (hS3.c 1)) <| sQ 43 (yX x.C y.D) <| sQ 44 (yM (i64.wrap ((i64.wrap (x.A * y.B)) + (i64.wrap (x.B * y.A)))) (i64.wrap (x.C * y.D))) <| sQ 45 (yd (aD b) 0 0 K22 K2) <| sQ 46 (yl (aD b) 3 (kR_ x) (vi x.D) K0 (hS3.c 0)) ?_
 refine sQ 47 (yd (aD b1) 0 0 K21 K2) <| sQ 48 (yl (aD b1) 2 (kR_ y) (vi y.C) K0 (hS3.c 1)) <| sQ 49 (yX x.D y.C) <| sQ 50 (yM (i64.wrap ((i64.wrap ((i64.wrap (x.A * y.B)) + (i64.wrap (x.B * y.A)))) - (i64.wrap (x.C * y.D)))) (i64.wrap (x.D * y.C))) <| sQ 51 (yd (aD b) 0 0 K19 K2) <| sQ 52 (yl (aD b) 0 (kR_ x) (vi x.A) K0 (hS3.c 0)) ?_
 refine sQ 53 (yd (aD b1) 0 0 K21 K2) <| sQ 54 (yl (aD b1) 2 (kR_ y) (vi y.C) K0 (hS3.c 1)) <| sQ 55 (yX x.A y.C) <| sQ 56 (yd (aD b) 0 0 K20 K2) <| sQ 57 (yl (aD b) 1 (kR_ x) (vi x.B) K0 (hS3.c 0)) <| sQ 58 (yd (aD b1) 0 0 K20 K2) ?_
 refine sQ 59 (yl (aD b1) 1 (kR_ y) (vi y.B) K0 (hS3.c 1)) <| sQ 60 (yX x.B y.B) <| sQ 61 (yP (i64.wrap (x.A * y.C)) (i64.wrap (x.B * y.B))) <| sQ 62 (yd (aD b) 0 0 K21 K2) <| sQ 63 (yl (aD b) 2 (kR_ x) (vi x.C) K0 (hS3.c 0)) <| sQ 64 (yd (aD b1) 0 0 K19 K2) ?_
 refine sQ 65 (yl (aD b1) 0 (kR_ y) (vi y.A) K0 (hS3.c 1)) <| sQ 66 (yX x.C y.A) <| sQ 67 (yP (i64.wrap ((i64.wrap (x.A * y.C)) + (i64.wrap (x.B * y.B)))) (i64.wrap (x.C * y.A))) <| sQ 68 (yd (aD b) 0 0 K22 K2) <| sQ 69 (yl (aD b) 3 (kR_ x) (vi x.D) K0 (hS3.c 0)) <| sQ 70 (yd (aD b1) 0 0 K22 K2) ?_
 refine sQ 71 (yl (aD b1) 3 (kR_ y) (vi y.D) K0 (hS3.c 1)) <| sQ 72 (yX x.D y.D) <| sQ 73 (yM (i64.wrap ((i64.wrap ((i64.wrap (x.A * y.C)) + (i64.wrap (x.B * y.B)))) + (i64.wrap (x.C * y.A)))) (i64.wrap (x.D * y.D))) <| sQ 74 (yd (aD b) 0 0 K19 K2) <| sQ 75 (yl (aD b) 0 (kR_ x) (vi x.A) K0 (hS3.c 0)) <| sQ 76 (yd (aD b1) 0 0 K22 K2) ?_
 refine sQ 77 (yl (aD b1) 3 (kR_ y) (vi y.D) K0 (hS3.c 1)) <| sQ 78 (yX x.A y.D) <| sQ 79 (yd (aD b) 0 0 K20 K2) <| sQ 80 (yl (aD b) 1 (kR_ x) (vi x.B) K0 (hS3.c 0)) <| sQ 81 (yd (aD b1) 0 0 K21 K2) <| sQ 82 (yl (aD b1) 2 (kR_ y) (vi y.C) K0 (hS3.c 1)) ?_
 refine sQ 83 (yX x.B y.C) <| sQ 84 (yP (i64.wrap (x.A * y.D)) (i64.wrap (x.B * y.C))) <| sQ 85 (yd (aD b) 0 0 K21 K2) <| sQ 86 (yl (aD b) 2 (kR_ x) (vi x.C) K0 (hS3.c 0)) <| sQ 87 (yd (aD b1) 0 0 K20 K2) <| sQ 88 (yl (aD b1) 1 (kR_ y) (vi y.B) K0 (hS3.c 1)) ?_
 refine sQ 89 (yX x.C y.B) <| sQ 90 (yP (i64.wrap ((i64.wrap (x.A * y.D)) + (i64.wrap (x.B * y.C)))) (i64.wrap (x.C * y.B))) <| sQ 91 (yd (aD b) 0 0 K22 K2) <| sQ 92 (yl (aD b) 3 (kR_ x) (vi x.D) K0 (hS3.c 0)) <| sQ 93 (yd (aD b1) 0 0 K19 K2) <| sQ 94 (yl (aD b1) 0 (kR_ y) (vi y.A) K0 (hS3.c 1)) ?_
 refine sQ 95 (yX x.D y.A) <| sQ 96 (yP (i64.wrap ((i64.wrap ((i64.wrap (x.A * y.D)) + (i64.wrap (x.B * y.C)))) + (i64.wrap (x.C * y.B)))) (i64.wrap (x.D * y.A))) <| sQ 97 (Y_buildS (zs := [vi 0, vi 0, vi 0, vi 0]) (vs := [(0, vi (i64.wrap ((i64.wrap ((i64.wrap ((i64.wrap (x.A * y.A)) - (i64.wrap (x.B * y.D)))) - (i64.wrap (x.C * y.C)))) - (i64.wrap (x.D * y.B))))), (1, vi (i64.wrap ((i64.wrap ((i64.wrap ((i64.wrap (x.A * y.B)) + (i64.wrap (x.B * y.A)))) - (i64.wrap (x.C * y.D)))) - (i64.wrap (x.D * y.C))))), (2, vi (i64.wrap ((i64.wrap ((i64.wrap ((i64.wrap (x.A * y.C)) + (i64.wrap (x.B * y.B)))) + (i64.wrap (x.C * y.A)))) - (i64.wrap (x.D * y.D))))), (3, vi (i64.wrap ((i64.wrap ((i64.wrap ((i64.wrap (x.A * y.D)) + (i64.wrap (x.B * y.C)))) + (i64.wrap (x.C * y.B)))) + (i64.wrap (x.D * y.A)))))]) (cs := [vi (i64.wrap ((i64.wrap ((i64.wrap ((i64.wrap (x.A * y.A)) - (i64.wrap (x.B * y.D)))) - (i64.wrap (x.C * y.C)))) - (i64.wrap (x.D * y.B)))), vi (i64.wrap ((i64.wrap ((i64.wrap ((i64.wrap (x.A * y.B)) + (i64.wrap (x.B * y.A)))) - (i64.wrap (x.C * y.D)))) - (i64.wrap (x.D * y.C)))), vi (i64.wrap ((i64.wrap ((i64.wrap ((i64.wrap (x.A * y.C)) + (i64.wrap (x.B * y.B)))) + (i64.wrap (x.C * y.A)))) - (i64.wrap (x.D * y.D)))), vi (i64.wrap ((i64.wrap ((i64.wrap ((i64.wrap (x.A * y.D)) + (i64.wrap (x.B * y.C)))) + (i64.wrap (x.C * y.B)))) + (i64.wrap (x.D * y.A))))]) K31 K13 rfl (mpc rfl (mpc rfl (mpc rfl (mpc rfl mpn)))) rfl) ?_
 refine s0 (yT 2 4 (aD b2) 46 (.agg #[vi (i64.wrap ((i64.wrap ((i64.wrap ((i64.wrap (x.A * y.A)) - (i64.wrap (x.B * y.D)))) - (i64.wrap (x.C * y.C)))) - (i64.wrap (x.D * y.B)))), vi (i64.wrap ((i64.wrap ((i64.wrap ((i64.wrap (x.A * y.B)) + (i64.wrap (x.B * y.A)))) - (i64.wrap (x.C * y.D)))) - (i64.wrap (x.D * y.C)))), vi (i64.wrap ((i64.wrap ((i64.wrap ((i64.wrap (x.A * y.C)) + (i64.wrap (x.B * y.B)))) + (i64.wrap (x.C * y.A)))) - (i64.wrap (x.D * y.D)))), vi (i64.wrap ((i64.wrap ((i64.wrap ((i64.wrap (x.A * y.D)) + (i64.wrap (x.B * y.C)))) + (i64.wrap (x.C * y.B)))) + (i64.wrap (x.D * y.A))))]) [vi (i64.wrap ((i64.wrap ((i64.wrap ((i64.wrap (x.A * y.A)) - (i64.wrap (x.B * y.D)))) - (i64.wrap (x.C * y.C)))) - (i64.wrap (x.D * y.B)))), vi (i64.wrap ((i64.wrap ((i64.wrap ((i64.wrap (x.A * y.B)) + (i64.wrap (x.B * y.A)))) - (i64.wrap (x.C * y.D)))) - (i64.wrap (x.D * y.C)))), vi (i64.wrap ((i64.wrap ((i64.wrap ((i64.wrap (x.A * y.C)) + (i64.wrap (x.B * y.B)))) + (i64.wrap (x.C * y.A)))) - (i64.wrap (x.D * y.D)))), vi (i64.wrap ((i64.wrap ((i64.wrap ((i64.wrap (x.A * y.D)) + (i64.wrap (x.B * y.C)))) + (i64.wrap (x.C * y.B)))) + (i64.wrap (x.D * y.A))))] 0 hS3 K5) ?_
 rintro _ w_3 ⟨rfl, hS4⟩
 refine rn (ct_ ?_)
 obtain rfl := sI hF
 exact ret1 Tryz.results116 (v1 := .agg #[vi (i64.wrap ((i64.wrap ((i64.wrap ((i64.wrap (x.A * y.A)) - (i64.wrap (x.B * y.D)))) - (i64.wrap (x.C * y.C)))) - (i64.wrap (x.D * y.B)))), vi (i64.wrap ((i64.wrap ((i64.wrap ((i64.wrap (x.A * y.B)) + (i64.wrap (x.B * y.A)))) - (i64.wrap (x.C * y.D)))) - (i64.wrap (x.D * y.C)))), vi (i64.wrap ((i64.wrap ((i64.wrap ((i64.wrap (x.A * y.C)) + (i64.wrap (x.B * y.B)))) + (i64.wrap (x.C * y.A)))) - (i64.wrap (x.D * y.D)))), vi (i64.wrap ((i64.wrap ((i64.wrap ((i64.wrap (x.A * y.D)) + (i64.wrap (x.B * y.C)))) + (i64.wrap (x.C * y.B)))) + (i64.wrap (x.D * y.A))))]) (resAt_cellA (B := aD b2) (i := 0) (cs := [vi (i64.wrap ((i64.wrap ((i64.wrap ((i64.wrap (x.A * y.A)) - (i64.wrap (x.B * y.D)))) - (i64.wrap (x.C * y.C)))) - (i64.wrap (x.D * y.B)))), vi (i64.wrap ((i64.wrap ((i64.wrap ((i64.wrap (x.A * y.B)) + (i64.wrap (x.B * y.A)))) - (i64.wrap (x.C * y.D)))) - (i64.wrap (x.D * y.C)))), vi (i64.wrap ((i64.wrap ((i64.wrap ((i64.wrap (x.A * y.C)) + (i64.wrap (x.B * y.B)))) + (i64.wrap (x.C * y.A)))) - (i64.wrap (x.D * y.D)))), vi (i64.wrap ((i64.wrap ((i64.wrap ((i64.wrap (x.A * y.D)) + (i64.wrap (x.B * y.C)))) + (i64.wrap (x.C * y.B)))) + (i64.wrap (x.D * y.A))))]) (vs := [vi (i64.wrap ((i64.wrap ((i64.wrap ((i64.wrap (x.A * y.A)) - (i64.wrap (x.B * y.D)))) - (i64.wrap (x.C * y.C)))) - (i64.wrap (x.D * y.B)))), vi (i64.wrap ((i64.wrap ((i64.wrap ((i64.wrap (x.A * y.B)) + (i64.wrap (x.B * y.A)))) - (i64.wrap (x.C * y.D)))) - (i64.wrap (x.D * y.C)))), vi (i64.wrap ((i64.wrap ((i64.wrap ((i64.wrap (x.A * y.C)) + (i64.wrap (x.B * y.B)))) + (i64.wrap (x.C * y.A)))) - (i64.wrap (x.D * y.D)))), vi (i64.wrap ((i64.wrap ((i64.wrap ((i64.wrap (x.A * y.D)) + (i64.wrap (x.B * y.C)))) + (i64.wrap (x.C * y.B)))) + (i64.wrap (x.D * y.A))))]) rfl K10 K5 (hS4.c 2) rfl rfl) ⟨rfl, (hS4.sN [])⟩

theorem c_spec_l2C_mul (c : Tl2C) (x : TDyadic) (y : TDyadic) (B : Option Addr) (w0 : World)  (hS : ST w0 (bl [⟨B, 84, [.bool c.bad], 1⟩]) w0 [⟨B, 84, [.bool c.bad], 1⟩] []) {r_ : TDyadic} {m : Tl2C} (hF : F_spec_l2C_mul c x y = some (r_, m)) :
  CV Tryz.prog 101 #[pt B 0, gD_ x, gD_ y] w0 (fun v w' => v = (gD_ r_) ∧ ST w0 (bl [⟨B, 84, [.bool c.bad], 1⟩]) w' [⟨B, 84, [.bool m.bad], 1⟩] []) := by
 unfold F_spec_l2C_mul at hF
 refine cv_of_cw 30 Tryz.func101 rfl Tryz.ntmps101 rfl ?_
 refine cq (cr ?_)
 refine sS 4 (yB 48 (gD_ x) (kD_ x) 5 hS) ?_
 rintro _ w_ ⟨b, rfl, hS1⟩
 refine sS 5 (yB 48 (gD_ y) (kD_ y) 5 hS1) ?_
 rintro _ w_1 ⟨b1, rfl, hS2⟩
 refine sS 6 (yN kZ_ 5 hS2 K6) ?_
 rintro _ w_2 ⟨b2, rfl, hS3⟩
 refine rn (cq (cq (cr ?_)))
 refine sQ 7 (yd (aD b) 0 0 K35 K2) <| sQ 8 (yl (aD b) 4 (kD_ x) (vi x.Exp) K0 (hS3.c 1)) <| sQ 9 (yd (aD b1) 0 0 K35 K2) <| sQ 10 (yl (aD b1) 4 (kD_ y) (vi y.Exp) K0 (hS3.c 2)) <| sQ 11 (yP x.Exp y.Exp) <| sQ 12 (Y_gt (k := .i64) (a := (i64.wrap (x.Exp + y.Exp))) (b := 60) rfl rfl rfl) (rn ?_)
 refine cw_cond (b := (decide (60 < (i64.wrap (x.Exp + y.Exp))))) rfl (fun hb => ?_) (fun hb => ?_)
 ·skip
  have hF1 := ct hF hb
  refine cq (cr ?_)
  refine sQ 13 (ym (pt B 0)) <| sQ 14 (Y_nilCheck (B := B) (i := 0) rfl rfl) <| sQ 15 (yd B 0 0 K107 K79) ?_
  refine s0 (yT 0 1 B 84 (.bool true) [.bool true] 0 hS3 K79) ?_
  rintro _ w_3 ⟨rfl, hS4⟩
  refine rn (cq (cr ?_))
  refine sQ 16 (Y_buildS (zs := kZ_) (vs := []) (cs := kZ_) K18 K6 rfl mpn rfl) ?_
  refine s0 (yT 3 5 (aD b2) 48 gZ_ kZ_ 0 hS4 K1) ?_
  rintro _ w_4 ⟨rfl, hS5⟩
  refine rn (ct_ ?_)
  obtain ⟨rfl, rfl⟩ := pr2 (sI hF1)
  exact ret1 Tryz.results101 (v1 := gZ_) (resAt_cellA (B := aD b2) (i := 0) (cs := kZ_) (vs := kZ_) rfl K4 K1 (hS5.c 3) rfl rfl) ⟨rfl, (hS5.sN [0])⟩
 ·skip
  have hF2 := cf' hF hb
  refine cw_skip (cq ?_)
  obtain ⟨r_1, hc, hF2⟩ := bI hF2
  obtain ⟨⟨r_2, m1⟩, hc1, hF2⟩ := bI hF2
  obtain ⟨r_3, hc2, hF2⟩ := bI hF2
  refine ra_start (hS3.se [1, 2]).fn (by kernel_rfl) ?_
  have hS9 := hS3.drew
  refine rq 0 17 (v := pt B 0) rfl (hS9.se [1, 2]) (fun w' hw' => (ym (pt B 0))) ?_
  refine rq 1 18 (v := pt (aD b) 0) rfl (hS9.se [1, 2]) (fun w' hw' => (yd (aD b) 0 3 K45 K5)) ?_
  refine rq 2 19 (v := gR_ x.Num) rfl (hS9.se [1, 2]) (fun w' hw' => (ya (aD b) 0 (kD_ x) (kR_ x.Num) K10 K5 (ST.cf hw' (i := 0) rfl))) ?_
  refine rq 3 20 (v := pt (aD b1) 0) rfl (hS9.se [1, 2]) (fun w' hw' => (yd (aD b1) 0 3 K45 K5)) ?_
  refine rq 4 21 (v := gR_ y.Num) rfl (hS9.se [1, 2]) (fun w' hw' => (ya (aD b1) 0 (kD_ y) (kR_ y.Num) K10 K5 (ST.cf hw' (i := 1) rfl))) ?_
  refine rq 7 24 (v := pt (aD b) 4) rfl (hS9.se [1, 2]) (fun w' hw' => (yd (aD b) 0 0 K35 K2)) ?_
  refine rq 8 25 (v := vi x.Exp) rfl (hS9.se [1, 2]) (fun w' hw' => (yl (aD b) 4 (kD_ x) (vi x.Exp) K0 (ST.cf hw' (i := 0) rfl))) ?_
  refine rq 9 26 (v := pt (aD b1) 4) rfl (hS9.se [1, 2]) (fun w' hw' => (yd (aD b1) 0 0 K35 K2)) ?_
  refine rq 10 27 (v := vi y.Exp) rfl (hS9.se [1, 2]) (fun w' hw' => (yl (aD b1) 4 (kD_ y) (vi y.Exp) K0 (ST.cf hw' (i := 1) rfl))) ?_
  refine rq 11 28 (v := vi (i64.wrap (x.Exp + y.Exp))) rfl (hS9.se [1, 2]) (fun w' hw' => (yP x.Exp y.Exp)) ?_
  refine rA [5] ?_
  refine rC 22 5 rfl (yC [gR_ x.Num, gR_ y.Num] k_call_116 (c_spec_l1Mul x.Num y.Num _  (hS9.inn0 [] rfl) hc)) ?_ ?_
  ·rintro _ w_5 ⟨rfl, hd⟩
   have hS10 := hS9.out00 hd
   refine ⟨(hS10.se [1, 2]), ?_⟩
   refine rA [6] ?_
   refine rC 23 6 rfl (yC [pt B 0, gR_ r_1] K64 (c_spec_l2C_ring c r_1 B _  (hS10.inn [true, false, false, false] rfl [] rfl) hc1)) ?_ ?_
   ·rintro _ w_6 ⟨rfl, hd1⟩
    have hS11 := hS10.out [true, false, false, false] rfl hd1
    refine ⟨(hS11.se [0, 1]), ?_⟩
    refine rA [12] ?_
    refine rC 29 12 rfl (yC [gR_ r_2, vi (i64.wrap (x.Exp + y.Exp))] k_call_114 (c_spec_l2Low r_2 (i64.wrap (x.Exp + y.Exp)) _  (hS11.inn0 [] rfl) hc2)) ?_ ?_
    ·rintro _ w_7 ⟨rfl, hd2⟩
     have hS12 := hS11.out00 hd2
     refine ⟨(hS12.se [0, 1]), ?_⟩
     refine rA [13] ?_
     refine rZ 13 rfl (yT 2 5 (aD b2) 48 (gD_ r_3) (kD_ r_3) 0 hS12 K1) ?_ ?_
     ·rintro _ w_8 ⟨rfl, hS13⟩
      refine ⟨(hS13.se [0, 1]), ?_⟩
      refine ra_done (by kernel_rfl) ?_
      refine ct_ ?_
      obtain ⟨rfl, rfl⟩ := pr2 (sI hF2)
      exact ret1 Tryz.results101 (v1 := gD_ r_3) (resAt_cellA (B := aD b2) (i := 0) (cs := kD_ r_3) (vs := kD_ r_3) rfl K4 K1 (hS13.c 2) rfl rfl) ⟨rfl, (hS13.sN [3])⟩
     exact aN
    exact aN
   exact aN
  exact aN

theorem c_spec_l2C_times (c : Tl2C) (a : TMatrix) (b : TMatrix) (B : Option Addr) (B1 : Option Addr) (c1 n : Nat) (B2 : Option Addr) (c2 n1 : Nat) (w0 : World) (hn : a.Cells.length = n) (hn1 : b.Cells.length = n1) (hS : ST w0 (bl [⟨B, 84, [.bool c.bad], 1⟩]) w0 [⟨B, 84, [.bool c.bad], 1⟩] [⟨B1, (a.Cells.flatMap eN0)⟩, ⟨B2, (b.Cells.flatMap eN0)⟩]) {r_ : TMatrix} {m : Tl2C} (hF : F_spec_l2C_times c a b = some (r_, m)) :
  CV Tryz.prog 70 #[pt B 0, .agg #[vi a.Rows, vi a.Cols, .slice B1 n c1], .agg #[vi b.Rows, vi b.Cols, .slice B2 n1 c2]] w0 (fun v w' => ∃ (B3 : Option Addr) (c3 : Nat), v = (gM_ r_ B3 c3) ∧ ST w0 (bl [⟨B, 84, [.bool c.bad], 1⟩]) w' [⟨B, 84, [.bool m.bad], 1⟩, ⟨B3, 48, (r_.Cells.flatMap eN0), c3 * 5⟩] []) := by
 subst hn
 subst hn1
 unfold F_spec_l2C_times at hF
 refine cv_of_cw 75 Tryz.func70 rfl Tryz.ntmps70 rfl ?_
 refine cq (cr ?_)
 refine sS 4 (yB 26 (gM_ a B1 c1) (kM_ a B1 c1) 3 hS) ?_
 rintro _ w_ ⟨b1, rfl, hS1⟩
 refine sS 5 (yB 26 (gM_ b B2 c2) (kM_ b B2 c2) 3 hS1) ?_
 rintro _ w_1 ⟨b2, rfl, hS2⟩
 refine sS 6 (yN kN_ 3 hS2 K12) ?_
 rintro _ w_2 ⟨b3, rfl, hS3⟩
 refine rn (cq (cr ?_))
 refine sQ 12 (yd (aD b1) 0 0 K43 K2) <| sQ 13 (yl (aD b1) 0 (kM_ a B1 c1) (vi a.Rows) K0 (hS3.c 1)) <| sQ 14 (yd (aD b2) 0 0 K34 K2) <| sQ 15 (yl (aD b2) 1 (kM_ b B2 c2) (vi b.Cols) K0 (hS3.c 2)) <| sQ 16 (Y_buildS (zs := kN_) (vs := [(0, vi a.Rows), (1, vi b.Cols)]) (cs := [vi a.Rows, vi b.Cols, .slice none 0 0]) K50 K12 rfl (mpc rfl (mpc rfl mpn)) rfl) ?_
 refine sS 7 (yN kN_ 3 hS3 K12) ?_
 rintro _ w_3 ⟨b4, rfl, hS4⟩
 refine s0 (yT 4 3 (aD b4) 26 (.agg #[vi a.Rows, vi b.Cols, .slice none 0 0]) [vi a.Rows, vi b.Cols, .slice none 0 0] 0 hS4 K3) ?_
 rintro _ w_4 ⟨rfl, hS5⟩
 refine rn (cq (cq (cr ?_)))
 refine sQ 8 (yg (vi 0)) (rn ?_)
 obtain ⟨hN, hF⟩ := chk_inv hF
 obtain ⟨z, hz, hF1⟩ := bI hF
 have hS7 := hS5.addNil 48
 refine cw_block ?_
 refine cw_loop (fun k f w => ∃ (i1 : Nat) (bad : Bool) (Cells : List TDyadic) (B4 : Option Addr) (c4 : Nat), FF f [(0, pt B 0), (4, pt (aD b1) 0), (5, pt (aD b2) 0), (6, pt (aD b3) 0), (7, pt (aD b4) 0), (8, vi (i1 : Int))] ∧ ST w0 (bl [⟨B, 84, [.bool c.bad], 1⟩]) w [⟨B, 84, [.bool bad], 1⟩, ⟨aD b1, 26, kM_ a B1 c1, 3⟩, ⟨aD b2, 26, kM_ b B2 c2, 3⟩, ⟨aD b3, 26, kN_, 3⟩, ⟨aD b4, 26, [vi a.Rows, vi b.Cols, .slice B4 Cells.length c4], 3⟩, ⟨B4, 48, (Cells.flatMap eN0), c4 * 5⟩] [⟨B1, (a.Cells.flatMap eN0)⟩, ⟨B2, (b.Cells.flatMap eN0)⟩] ∧ i1 + k = a.Rows.toNat ∧ forN (F_spec_l2C_times_l1 b a) k i1 (bad, Cells) = some z) a.Rows.toNat ⟨0, c.bad, [], none, 0, (fc rfl (fc rfl (fc rfl (fc rfl (fc rfl (fc rfl fn_)))))), (hS7.sel [0, 1, 2, 3, 4, 5] rfl rfl), Nat.zero_add _, hz⟩ ?_
 rintro k_ f w ⟨i1, bad, Cells, B4, c4, hf, hS6, hik, hL⟩
 refine cq (cq (cr ?_))
 refine sQ 17 (ym (vi (i1 : Int)) rfl (hf.g 8 5)) <| sQ 18 (yd (aD b1) 0 0 K43 K2 rfl (hf.g 4 1)) <| sQ 19 (yl (aD b1) 0 (kM_ a B1 c1) (vi a.Rows) K0 (hS6.c 1)) <| sQ 20 (yL (i1 : Int) a.Rows) (rn ?_)
 refine cw_cond (b := (decide ((i1 : Int) < a.Rows))) rfl (fun hlt => ?_) (fun hlt => ?_)
 ·skip
  have hlt1 : i1 < a.Rows.toNat := by have h := of_decide_eq_true hlt; omega
  obtain ⟨K7, rfl⟩ : ∃ k2, k_ = k2 + 1 := ⟨k_ - 1, by omega⟩
  obtain ⟨y, hb, hL1⟩ := forN_go hL
  unfold F_spec_l2C_times_l1 at hb
  refine cw_skip (cq (cw_block (cq (cr ?_))))
  refine sQ 9 (yg (vi 0)) (rn ?_)
  obtain ⟨hN1, hb⟩ := chk_inv hb
  obtain ⟨z1, hz1, hF2⟩ := bI hb
  refine cw_block ?_
  refine cw_loop (fun k f w => ∃ (j : Nat) (bad1 : Bool) (Cells1 : List TDyadic) (B5 : Option Addr) (c5 : Nat), FF f [(0, pt B 0), (4, pt (aD b1) 0), (5, pt (aD b2) 0), (6, pt (aD b3) 0), (7, pt (aD b4) 0), (8, vi (i1 : Int)), (9, vi (j : Int))] ∧ ST w0 (bl [⟨B, 84, [.bool c.bad], 1⟩]) w [⟨B, 84, [.bool bad1], 1⟩, ⟨aD b1, 26, kM_ a B1 c1, 3⟩, ⟨aD b2, 26, kM_ b B2 c2, 3⟩, ⟨aD b3, 26, kN_, 3⟩, ⟨aD b4, 26, [vi a.Rows, vi b.Cols, .slice B5 Cells1.length c5], 3⟩, ⟨B5, 48, (Cells1.flatMap eN0), c5 * 5⟩] [⟨B1, (a.Cells.flatMap eN0)⟩, ⟨B2, (b.Cells.flatMap eN0)⟩] ∧ j + k = b.Cols.toNat ∧ forN (F_spec_l2C_times_l2 a Cells i1 b bad) k j (bad1, Cells1) = some z1) b.Cols.toNat ⟨0, bad, Cells, B4, c4, (fc (hf.g 0 0) (fc (hf.g 4 1) (fc (hf.g 5 2) (fc (hf.g 6 3) (fc (hf.g 7 4) (fc (hf.g 8 5) (fc rfl fn_))))))), (hS6.sel [0, 1, 2, 3, 4, 5] rfl rfl), Nat.zero_add _, hz1⟩ ?_
  rintro K15 f w ⟨j, bad1, Cells1, B5, c5, hf1, hS8, hik1, hL2⟩
  refine cq (cq (cr ?_))
  refine sQ 23 (ym (vi (j : Int)) rfl (hf1.g 9 6)) <| sQ 24 (yd (aD b2) 0 0 K34 K2 rfl (hf1.g 5 2)) <| sQ 25 (yl (aD b2) 1 (kM_ b B2 c2) (vi b.Cols) K0 (hS8.c 2)) <| sQ 26 (yL (j : Int) b.Cols) (rn ?_)
  refine cw_cond (b := (decide ((j : Int) < b.Cols))) rfl (fun hlt2 => ?_) (fun hlt2 => ?_)
  ·skip
   have hlt3 : j < b.Cols.toNat := by have h := of_decide_eq_true hlt2; omega
   obtain ⟨K28, rfl⟩ : ∃ k2, K15 = k2 + 1 := ⟨K15 - 1, by omega⟩
   obtain ⟨y1, hb1, hL3⟩ := forN_go hL2
   unfold F_spec_l2C_times_l2 at hb1
   refine cw_skip (cq (cw_block (cq (cr ?_))))
   refine sQ 29 (Y_buildS (zs := kZ_) (vs := []) (cs := kZ_) K18 K6 rfl mpn rfl) ?_
   refine sS 10 (yN kZ_ 5 hS8 K6) ?_
   rintro _ w_5 ⟨b5, rfl, hS9⟩
   refine s0 (yT 6 5 (aD b5) 48 gZ_ kZ_ 0 hS9 K1) ?_
   rintro _ w_6 ⟨rfl, hS10⟩
   refine rn (cq (cq (cr ?_)))
   refine sQ 11 (yg (vi 0)) (rn ?_)
   obtain ⟨z2, hz2, hF3⟩ := bI hb1
   refine cw_block ?_
   refine cw_loop (fun k f w => ∃ (bad2 : Bool) (A : Int) (B6 : Int) (C : Int) (D : Int) (Exp : Int) (K14 : Int), FF f [(0, pt B 0), (4, pt (aD b1) 0), (5, pt (aD b2) 0), (6, pt (aD b3) 0), (7, pt (aD b4) 0), (8, vi (i1 : Int)), (9, vi (j : Int)), (10, pt (aD b5) 0), (11, vi K14)] ∧ ST w0 (bl [⟨B, 84, [.bool c.bad], 1⟩]) w [⟨B, 84, [.bool bad2], 1⟩, ⟨aD b1, 26, kM_ a B1 c1, 3⟩, ⟨aD b2, 26, kM_ b B2 c2, 3⟩, ⟨aD b3, 26, kN_, 3⟩, ⟨aD b4, 26, [vi a.Rows, vi b.Cols, .slice B5 Cells1.length c5], 3⟩, ⟨B5, 48, (Cells1.flatMap eN0), c5 * 5⟩, ⟨aD b5, 48, [vi A, vi B6, vi C, vi D, vi Exp], 5⟩] [⟨B1, (a.Cells.flatMap eN0)⟩, ⟨B2, (b.Cells.flatMap eN0)⟩] ∧ whX (F_spec_l2C_times_l3 a Cells i1 b j bad) k (bad2, A, B6, C, D, Exp, K14) = some z2) fuel ⟨bad1, 0, 0, 0, 0, 0, 0, (fc (hf1.g 0 0) (fc (hf1.g 4 1) (fc (hf1.g 5 2) (fc (hf1.g 6 3) (fc (hf1.g 7 4) (fc (hf1.g 8 5) (fc (hf1.g 9 6) (fc rfl (fc rfl fn_))))))))), (hS10.sel [0, 1, 2, 3, 4, 5, 6] rfl rfl), hz2⟩ ?_
   rintro K68 f w ⟨bad2, A, B6, C, D, Exp, K14, hf2, hS11, hL4⟩
   obtain ⟨k_6, y2, rfl, hb2, hL5⟩ := whX_go hL4
   unfold F_spec_l2C_times_l3 at hb2
   refine cq (cq (cr ?_))
   refine sQ 30 (ym (vi K14) rfl (hf2.g 11 8)) <| sQ 31 (yd (aD b1) 0 0 K34 K2 rfl (hf2.g 4 1)) <| sQ 32 (yl (aD b1) 1 (kM_ a B1 c1) (vi a.Cols) K0 (hS11.c 1)) <| sQ 33 (yL K14 a.Cols) <| sQ 34 (ym (.bool (decide (K14 < a.Cols)))) ?_
   refine sgq 35 (B := (decide (K14 < a.Cols))) (v := pt B 0) rfl rfl (uT_ 34) (fun hg => (ym (pt B 0) rfl (hf2.g 0 0))) ?_
   refine sgq 36 (B := (decide (K14 < a.Cols))) (v := pt B 0) rfl rfl (uT_ 34) (fun hg1 => (Y_nilCheck (B := B) (i := 0) rfl (gv_of (v := pt B 0) hg1))) ?_
   refine sgq 37 (B := (decide (K14 < a.Cols))) (v := pt B 0) rfl rfl (uT_ 34) (fun hg2 => (yd B 0 0 K107 K79 rfl (gv_of (v := pt B 0) hg2))) ?_
   refine sgq 38 (B := (decide (K14 < a.Cols))) (v := .bool bad2) rfl rfl (uT_ 34) (fun hg3 => (yl B 0 [.bool bad2] (.bool bad2) K126 (hS11.c 0) rfl (gv_of (v := pt B 0) hg3))) ?_
   refine sgq 39 (B := (decide (K14 < a.Cols))) (v := .bool (!bad2)) rfl rfl (uT_ 34) (fun hg4 => (Y_not (p := bad2) rfl (gv_of (v := .bool bad2) hg4))) ?_
   refine sQ 40 (Y_and (b := (decide (K14 < a.Cols))) (z := (!bad2)) rfl rfl rfl rfl) (rn ?_)
   refine cw_cond (b := ((decide (K14 < a.Cols)) && (!bad2))) rfl (fun hb3 => ?_) (fun hb3 => ?_)
   ·skip
    have hF4 := ct hb2 hb3
    refine cw_skip (cq (cw_block ?_))
    obtain ⟨x, hx, hF4⟩ := bI hF4
    obtain ⟨x1, hx1, hF4⟩ := bI hF4
    obtain ⟨⟨r_1, m1⟩, hc, hF4⟩ := bI hF4
    obtain ⟨⟨r_2, m2⟩, hc1, hF4⟩ := bI hF4
    refine cw_mid (fun f w => FF f [(0, pt B 0), (4, pt (aD b1) 0), (5, pt (aD b2) 0), (6, pt (aD b3) 0), (7, pt (aD b4) 0), (8, vi (i1 : Int)), (9, vi (j : Int)), (10, pt (aD b5) 0), (11, vi K14)] ∧ ST w0 (bl [⟨B, 84, [.bool c.bad], 1⟩]) w [⟨B, 84, [.bool m2.bad], 1⟩, ⟨aD b1, 26, kM_ a B1 c1, 3⟩, ⟨aD b2, 26, kM_ b B2 c2, 3⟩, ⟨aD b3, 26, kN_, 3⟩, ⟨aD b4, 26, [vi a.Rows, vi b.Cols, .slice B5 Cells1.length c5], 3⟩, ⟨B5, 48, (Cells1.flatMap eN0), c5 * 5⟩, ⟨aD b5, 48, kD_ r_2, 5⟩] [⟨B1, (a.Cells.flatMap eN0)⟩, ⟨B2, (b.Cells.flatMap eN0)⟩]) ?_ ?_
    ·skip
     refine ra_start (hS11.se [1, 2, 3, 4, 5]).fn (by kernel_rfl) ?_
     have hS15 := hS11.drew
     refine rq 0 43 (v := pt B 0) rfl (hS15.se [1, 2, 3, 4, 5]) (fun w' hw' => (ym (pt B 0) rfl (hf2.g 0 0))) ?_
     refine rq 2 45 (v := pt B 0) rfl (hS15.se [1, 2, 3, 4, 5]) (fun w' hw' => (ym (pt B 0) rfl (hf2.g 0 0))) ?_
     refine rq 3 46 (v := pt (aD b1) 2) rfl (hS15.se [1, 2, 3, 4, 5]) (fun w' hw' => (yd (aD b1) 0 0 K29 K11 rfl (hf2.g 4 1))) ?_
     refine rq 4 47 (v := .slice B1 a.Cells.length c1) rfl (hS15.se [1, 2, 3, 4, 5]) (fun w' hw' => (yl (aD b1) 2 (kM_ a B1 c1) (.slice B1 a.Cells.length c1) K16 (ST.cf hw' (i := 0) rfl))) ?_
     refine rq 5 48 (v := vi (i1 : Int)) rfl (hS15.se [1, 2, 3, 4, 5]) (fun w' hw' => (ym (vi (i1 : Int)) rfl (hf2.g 8 5))) ?_
     refine rq 6 49 (v := pt (aD b1) 1) rfl (hS15.se [1, 2, 3, 4, 5]) (fun w' hw' => (yd (aD b1) 0 0 K34 K2 rfl (hf2.g 4 1))) ?_
     refine rq 7 50 (v := vi a.Cols) rfl (hS15.se [1, 2, 3, 4, 5]) (fun w' hw' => (yl (aD b1) 1 (kM_ a B1 c1) (vi a.Cols) K0 (ST.cf hw' (i := 0) rfl))) ?_
     refine rq 8 51 (v := vi (i64.wrap ((i1 : Int) * a.Cols))) rfl (hS15.se [1, 2, 3, 4, 5]) (fun w' hw' => (yX (i1 : Int) a.Cols)) ?_
     refine rq 9 52 (v := vi K14) rfl (hS15.se [1, 2, 3, 4, 5]) (fun w' hw' => (ym (vi K14) rfl (hf2.g 11 8))) ?_
     refine rq 10 53 (v := vi (i64.wrap ((i64.wrap ((i1 : Int) * a.Cols)) + K14))) rfl (hS15.se [1, 2, 3, 4, 5]) (fun w' hw' => (yP (i64.wrap ((i1 : Int) * a.Cols)) K14)) ?_
     refine rq 11 54 (v := pt B1 ((i64.wrap ((i64.wrap ((i1 : Int) * a.Cols)) + K14)).toNat * 5)) rfl (hS15.se [1, 2, 3, 4, 5]) (fun w' hw' => (Y_index (B := B1) (m := a.Cells.length) (c := c1) (k := .i64) (i := (i64.wrap ((i64.wrap ((i1 : Int) * a.Cols)) + K14))) K9 K1 rfl rfl rfl (gi_isSome eN2 rfl (ST.rf hw' (i := 0) rfl) hx) (getI_nn hx) (getI_ltI hx rfl))) ?_
     refine rq 12 55 (v := gD_ x) rfl (hS15.se [1, 2, 3, 4, 5]) (fun w' hw' => (ya B1 ((i64.wrap ((i64.wrap ((i1 : Int) * a.Cols)) + K14)).toNat * 5) (a.Cells.flatMap eN0) (kD_ x) K4 K1 (ST.rf hw' (i := 0) rfl) rfl rfl (eN2 x) (gi_seg eN2 hx))) ?_
     refine rq 13 56 (v := pt (aD b2) 2) rfl (hS15.se [1, 2, 3, 4, 5]) (fun w' hw' => (yd (aD b2) 0 0 K29 K11 rfl (hf2.g 5 2))) ?_
     refine rq 14 57 (v := .slice B2 b.Cells.length c2) rfl (hS15.se [1, 2, 3, 4, 5]) (fun w' hw' => (yl (aD b2) 2 (kM_ b B2 c2) (.slice B2 b.Cells.length c2) K16 (ST.cf hw' (i := 1) rfl))) ?_
     refine rq 15 58 (v := vi K14) rfl (hS15.se [1, 2, 3, 4, 5]) (fun w' hw' => (ym (vi K14) rfl (hf2.g 11 8))) ?_
     refine rq 16 59 (v := pt (aD b2) 1) rfl (hS15.se [1, 2, 3, 4, 5]) (fun w' hw' => (yd (aD b2) 0 0 K34 K2 rfl (hf2.g 5 2))) ?_
     refine rq 17 60 (v := vi b.Cols) rfl (hS15.se [1, 2, 3, 4, 5]) (fun w' hw' => (yl (aD b2) 1 (kM_ b B2 c2) (vi b.Cols) K0 (ST.cf hw' (i := 1) rfl))) ?_
     refine rq 18 61 (v := vi (i64.wrap (K14 * b.Cols))) rfl (hS15.se [1, 2, 3, 4, 5]) (fun w' hw' => (yX K14 b.Cols)) ?_
     refine rq 19 62 (v := vi (j : Int)) rfl (hS15.se [1, 2, 3, 4, 5]) (fun w' hw' => (ym (vi (j : Int)) rfl (hf2.g 9 6))) ?_
     refine rq 20 63 (v := vi (i64.wrap ((i64.wrap (K14 * b.Cols)) + (j : Int)))) rfl (hS15.se [1, 2, 3, 4, 5]) (fun w' hw' => (yP (i64.wrap (K14 * b.Cols)) (j : Int))) ?_
     refine rq 21 64 (v := pt B2 ((i64.wrap ((i64.wrap (K14 * b.Cols)) + (j : Int))).toNat * 5)) rfl (hS15.se [1, 2, 3, 4, 5]) (fun w' hw' => (Y_index (B := B2) (m := b.Cells.length) (c := c2) (k := .i64) (i := (i64.wrap ((i64.wrap (K14 * b.Cols)) + (j : Int)))) K9 K1 rfl rfl rfl (gi_isSome eN2 rfl (ST.rf hw' (i := 1) rfl) hx1) (getI_nn hx1) (getI_ltI hx1 rfl))) ?_
     refine rq 22 65 (v := gD_ x1) rfl (hS15.se [1, 2, 3, 4, 5]) (fun w' hw' => (ya B2 ((i64.wrap ((i64.wrap (K14 * b.Cols)) + (j : Int))).toNat * 5) (b.Cells.flatMap eN0) (kD_ x1) K4 K1 (ST.rf hw' (i := 1) rfl) rfl rfl (eN2 x1) (gi_seg eN2 hx1))) ?_
     refine rA [1, 23] ?_
     refine ra_y 44 (i := 1) (v := .agg #[vi A, vi B6, vi C, vi D, vi Exp]) rfl rfl rfl (yb (aD b5) 0 [vi A, vi B6, vi C, vi D, vi Exp] K4 K1 (hS15.c 6) rfl (hf2.g 10 7)) (hS15.se [1, 2, 3, 4, 5]) ?_ ?_
     ·skip
      refine rA [23] ?_
      refine rC 66 23 rfl (yC [pt B 0, gD_ x, gD_ x1] K115 (c_spec_l2C_mul (Tl2C.mk bad2) x x1 B _  (hS15.inn [true, false, false, false, false, false, false] rfl [] rfl) hc)) ?_ ?_
      ·rintro _ w_7 ⟨rfl, hd⟩
       have hS16 := hS15.out [true, false, false, false, false, false, false] rfl hd
       refine ⟨(hS16.se [0, 1, 2, 3, 4]), ?_⟩
       refine rA [24] ?_
       refine rC 67 24 rfl (yC [pt B 0, .agg #[vi A, vi B6, vi C, vi D, vi Exp], gD_ r_1] K116 (c_spec_l2C_add m1 (TDyadic.mk (TRing.mk A B6 C D) Exp) r_1 B _  (hS16.inn [false, false, false, false, false, false, true] rfl [] rfl) hc1)) ?_ ?_
       ·rintro _ w_8 ⟨rfl, hd1⟩
        have hS17 := hS16.out [false, false, false, false, false, false, true] rfl hd1
        refine ⟨(hS17.se [0, 1, 2, 3, 4]), ?_⟩
        refine rA [25] ?_
        refine rZ 25 rfl (yT 5 5 (aD b5) 48 (gD_ r_2) (kD_ r_2) 0 hS17 K1 rfl (hf2.g 10 7)) ?_ ?_
        ·rintro _ w_9 ⟨rfl, hS18⟩
         refine ⟨(hS18.se [0, 1, 2, 3, 4]), ?_⟩
         refine ra_done (by kernel_rfl) ?_
         exact ⟨(fc (hf2.g 0 0) (fc (hf2.g 4 1) (fc (hf2.g 5 2) (fc (hf2.g 6 3) (fc (hf2.g 7 4) (fc (hf2.g 8 5) (fc (hf2.g 9 6) (fc (hf2.g 10 7) (fc (hf2.g 11 8) fn_))))))))), (hS18.sel [6, 0, 1, 2, 3, 4, 5] rfl rfl)⟩
        exact aN
       exact aN
      exact aN
     refine rC 66 23 rfl (yC [pt B 0, gD_ x, gD_ x1] K115 (c_spec_l2C_mul (Tl2C.mk bad2) x x1 B _  (hS15.inn [true, false, false, false, false, false, false] rfl [] rfl) hc)) ?_ ?_
     ·rintro _ w_10 ⟨rfl, hd2⟩
      have hS19 := hS15.out [true, false, false, false, false, false, false] rfl hd2
      refine ⟨(hS19.se [0, 1, 2, 3, 4]), ?_⟩
      refine rA [1] ?_
      refine ra_y 44 (i := 1) (v := .agg #[vi A, vi B6, vi C, vi D, vi Exp]) rfl rfl rfl (yb (aD b5) 0 [vi A, vi B6, vi C, vi D, vi Exp] K4 K1 (hS19.c 5) rfl (hf2.g 10 7)) (hS19.se [0, 1, 2, 3, 4]) ?_ ?_
      ·skip
       refine rA [24] ?_
       refine rC 67 24 rfl (yC [pt B 0, .agg #[vi A, vi B6, vi C, vi D, vi Exp], gD_ r_1] K116 (c_spec_l2C_add m1 (TDyadic.mk (TRing.mk A B6 C D) Exp) r_1 B _  (hS19.inn [false, false, false, false, false, false, true] rfl [] rfl) hc1)) ?_ ?_
       ·rintro _ w_11 ⟨rfl, hd3⟩
        have hS20 := hS19.out [false, false, false, false, false, false, true] rfl hd3
        refine ⟨(hS20.se [0, 1, 2, 3, 4]), ?_⟩
        refine rA [25] ?_
        refine rZ 25 rfl (yT 5 5 (aD b5) 48 (gD_ r_2) (kD_ r_2) 0 hS20 K1 rfl (hf2.g 10 7)) ?_ ?_
        ·rintro _ w_12 ⟨rfl, hS21⟩
         refine ⟨(hS21.se [0, 1, 2, 3, 4]), ?_⟩
         refine ra_done (by kernel_rfl) ?_
         exact ⟨(fc (hf2.g 0 0) (fc (hf2.g 4 1) (fc (hf2.g 5 2) (fc (hf2.g 6 3) (fc (hf2.g 7 4) (fc (hf2.g 8 5) (fc (hf2.g 9 6) (fc (hf2.g 10 7) (fc (hf2.g 11 8) fn_))))))))), (hS21.sel [6, 0, 1, 2, 3, 4, 5] rfl rfl)⟩
        exact aN
       exact aN
      exact aN
     exact aN
    rintro f w ⟨hf3, hS14⟩
    refine cr ?_
    refine sQ 41 (ym (vi K14) rfl (hf3.g 11 8)) <| sQ 42 (yP K14 1) <| sQ 11 (yg (vi (i64.wrap (K14 + 1)))) (rn ?_)
    obtain rfl := sI hF4
    exact ⟨k_6, Nat.lt_succ_self _, m2.bad, r_2.Num.A, r_2.Num.B, r_2.Num.C, r_2.Num.D, r_2.Exp, (i64.wrap (K14 + 1)), (fc (hf3.g 0 0) (fc (hf3.g 4 1) (fc (hf3.g 5 2) (fc (hf3.g 6 3) (fc (hf3.g 7 4) (fc (hf3.g 8 5) (fc (hf3.g 9 6) (fc (hf3.g 10 7) (fc rfl fn_))))))))), (hS14.sel [0, 1, 2, 3, 4, 5, 6] rfl rfl), hL5⟩
   ·skip
    have hF5 := cf' hb2 hb3
    refine cw_exit rfl ?_
    obtain rfl := sI hF5
    obtain rfl := sI hL5
    refine cr ?_
    refine sQ 68 (yd (aD b4) 0 0 K29 K11 rfl (hf2.g 7 4)) <| sQ 69 (yl (aD b4) 2 [vi a.Rows, vi b.Cols, .slice B5 Cells1.length c5] (.slice B5 Cells1.length c5) K16 (hS11.c 4)) <| sQ 70 (yb (aD b5) 0 [vi A, vi B6, vi C, vi D, vi Exp] K4 K1 (hS11.c 6) rfl (hf2.g 10 7)) ?_
    refine sS 71 (Ys_bslice (s := 5) (len := 1) (vs := [(0, .agg #[vi A, vi B6, vi C, vi D, vi Exp])]) (cs := [vi A, vi B6, vi C, vi D, vi Exp]) (zs := kZ_) (m := 5) hS11 K9 K1 K38 rfl (mpc rfl mpn) rfl rfl rfl (by kernel_rfl) (by kernel_rfl) rfl) ?_
    rintro _ w_13 ⟨b6, rfl, hS22⟩
    obtain ⟨hap, hF3⟩ := chk_inv hF3
    refine sS 72 (Ys_append (s := 5) (by' := 40) (i := 5) (nn := Cells1.length) (c := c5) (k := 1) (len := (Cells1 ++ [(TDyadic.mk (TRing.mk A B6 C D) Exp)]).length) (B := B5) (xs := ([(TDyadic.mk (TRing.mk A B6 C D) Exp)].flatMap eN0)) (cs' := ((Cells1 ++ [(TDyadic.mk (TRing.mk A B6 C D) Exp)]).flatMap eN0)) hS22 K9 K1 K47 K6 rfl (by decide) rfl rfl rfl rfl (fm_lenn (l := Cells1) eN2 rfl) rfl (hS22.c 7) (fm_lenn (l := [(TDyadic.mk (TRing.mk A B6 C D) Exp)]) eN2 rfl) (fm_one' (enc := eN0) enc_Dyadic_one [(TDyadic.mk (TRing.mk A B6 C D) Exp)]) (by have := hap; omega) (by have := hap; simp only [maxLen]; omega) (fm_app _ _) (app_len (l := Cells1) (l' := [(TDyadic.mk (TRing.mk A B6 C D) Exp)]) rfl rfl)) ?_
    rintro _ w_14 ⟨B7, c6, rfl, hS23⟩
    refine sQ 73 (yd (aD b4) 0 0 K29 K11 rfl (hf2.g 7 4)) ?_
    refine s0 (yS 4 1 (aD b4) 26 (.slice B7 ((Cells1 ++ [(TDyadic.mk (TRing.mk A B6 C D) Exp)]).length) c6) [.slice B7 ((Cells1 ++ [(TDyadic.mk (TRing.mk A B6 C D) Exp)]).length) c6] 2 [vi a.Rows, vi b.Cols, .slice B7 ((Cells1 ++ [(TDyadic.mk (TRing.mk A B6 C D) Exp)]).length) c6] hS23 K11) ?_
    rintro _ w_15 ⟨rfl, hS24⟩
    refine rn (cr ?_)
    refine sQ 27 (ym (vi (j : Int)) rfl (hf2.g 9 6)) <| sQ 28 (yP (j : Int) 1) <| sQ 9 (yg (vi (i64.wrap ((j : Int) + 1)))) (rn ?_)
    obtain rfl := sI hF3
    exact ⟨K28, Nat.lt_succ_self _, j + 1, bad2, (Cells1 ++ [(TDyadic.mk (TRing.mk A B6 C D) Exp)]), B7, c6, (fc (hf2.g 0 0) (fc (hf2.g 4 1) (fc (hf2.g 5 2) (fc (hf2.g 6 3) (fc (hf2.g 7 4) (fc (hf2.g 8 5) (fc (congrArg (Value.int .i64) (wr_succ hlt3 hN1)) fn_))))))), (hS24.sel [0, 1, 2, 3, 4, 5] rfl rfl), (by omega), hL3⟩
  ·skip
   obtain rfl : K15 = 0 := by have h := of_decide_eq_false hlt2; omega
   refine cw_exit rfl ?_
   obtain rfl := sI hL2
   refine cr ?_
   refine sQ 21 (ym (vi (i1 : Int)) rfl (hf1.g 8 5)) <| sQ 22 (yP (i1 : Int) 1) <| sQ 8 (yg (vi (i64.wrap ((i1 : Int) + 1)))) (rn ?_)
   obtain rfl := sI hF2
   exact ⟨K7, Nat.lt_succ_self _, i1 + 1, bad1, Cells1, B5, c5, (fc (hf1.g 0 0) (fc (hf1.g 4 1) (fc (hf1.g 5 2) (fc (hf1.g 6 3) (fc (hf1.g 7 4) (fc (congrArg (Value.int .i64) (wr_succ hlt1 hN)) fn_)))))), (hS8.sel [0, 1, 2, 3, 4, 5] rfl rfl), (by omega), hL1⟩
 ·skip
  obtain rfl : k_ = 0 := by have h := of_decide_eq_false hlt; omega
  refine cw_exit rfl ?_
  obtain rfl := sI hL
  refine cq (cr ?_)
  refine sQ 74 (yb (aD b4) 0 [vi a.Rows, vi b.Cols, .slice B4 Cells.length c4] K8 K3 (hS6.c 4) rfl (hf.g 7 4)) ?_
  refine s0 (yT 3 3 (aD b3) 26 (.agg #[vi a.Rows, vi b.Cols, .slice B4 Cells.length c4]) [vi a.Rows, vi b.Cols, .slice B4 Cells.length c4] 0 hS6 K3 rfl (hf.g 6 3)) ?_
  rintro _ w_16 ⟨rfl, hS25⟩
  refine rn (ct_ ?_)
  obtain ⟨rfl, rfl⟩ := pr2 (sI hF1)
  exact ret1 Tryz.results70 (v1 := .agg #[vi a.Rows, vi b.Cols, .slice B4 Cells.length c4]) (resAt_cellA (B := aD b3) (i := 0) (cs := [vi a.Rows, vi b.Cols, .slice B4 Cells.length c4]) (vs := [vi a.Rows, vi b.Cols, .slice B4 Cells.length c4]) (hf.g 6 3) K8 K3 (hS25.c 3) rfl rfl) ⟨B4, c4, rfl, (hS25.sN [0, 5])⟩

theorem c_spec_l1Turn (x : TRing) (k_ : Int)  (w0 : World)  (hS : ST w0 [] w0 [] []) {r_ : TRing} (hF : F_spec_l1Turn x k_ = some r_) :
  CV Tryz.prog 103 #[gR_ x, vi k_] w0 (fun v w' => v = (gR_ r_) ∧ ST w0 [] w' [] []) := by
 unfold F_spec_l1Turn at hF
 refine cv_of_cw 24 Tryz.func103 rfl Tryz.ntmps103 rfl ?_
 refine cq (cr ?_)
 refine sS 2 (yB 46 (gR_ x) (kR_ x) 4 hS) ?_
 rintro _ w_ ⟨b, rfl, hS1⟩
 refine sS 4 (yN [vi 0, vi 0, vi 0, vi 0] 4 hS1 K13) ?_
 rintro _ w_1 ⟨b1, rfl, hS2⟩
 refine rn (cq (cq (cr ?_)))
 refine sQ 5 (ym (vi k_)) <| sQ 6 (Y_rem (k := .i64) (a := k_) (b := 8) rfl rfl rfl (by decide)) <| sQ 7 (yP (Int.tmod k_ 8) 8) <| sQ 8 (Y_rem (k := .i64) (a := (i64.wrap ((Int.tmod k_ 8) + 8))) (b := 8) rfl rfl rfl (by decide)) <| sQ 1 (yg (vi (Int.tmod (i64.wrap ((Int.tmod k_ 8) + 8)) 8))) (rn ?_)
 obtain ⟨z, hz, hF1⟩ := bI hF
 refine cw_block ?_
 refine cw_loop (fun k f w => ∃ (K7 : Int) (A : Int) (B : Int) (C : Int) (D : Int), FF f [(1, vi K7), (2, pt (aD b) 0), (4, pt (aD b1) 0)] ∧ ST w0 [] w [⟨aD b, 46, [vi A, vi B, vi C, vi D], 4⟩, ⟨aD b1, 46, [vi 0, vi 0, vi 0, vi 0], 4⟩] [] ∧ whX F_spec_l1Turn_l1 k (K7, A, B, C, D) = some z) fuel ⟨(Int.tmod (i64.wrap ((Int.tmod k_ 8) + 8)) 8), x.A, x.B, x.C, x.D, (fc rfl (fc rfl (fc rfl fn_))), (hS2.sel [0, 1] rfl rfl), hz⟩ ?_
 rintro K15 f w ⟨K7, A, B, C, D, hf, hS3, hL⟩
 obtain ⟨K28, y, rfl, hb, hL1⟩ := whX_go hL
 unfold F_spec_l1Turn_l1 at hb
 refine cq (cq (cr ?_))
 refine sQ 9 (ym (vi K7) rfl (hf.g 1 0)) <| sQ 10 (Y_gt (k := .i64) (a := K7) (b := 0) rfl rfl rfl) (rn ?_)
 refine cw_cond (b := (decide (0 < K7))) rfl (fun hb1 => ?_) (fun hb1 => ?_)
 ·skip
  have hF2 := ct hb hb1
  refine cw_skip (cq (cw_block (cr ?_)))
  refine sQ 13 (yd (aD b) 0 0 K22 K2 rfl (hf.g 2 1)) <| sQ 14 (yl (aD b) 3 [vi A, vi B, vi C, vi D] (vi D) K0 (hS3.c 0)) <| sQ 15 (Y_neg (k := .i64) (a := D) rfl rfl) <| sQ 16 (yd (aD b) 0 0 K19 K2 rfl (hf.g 2 1)) <| sQ 17 (yl (aD b) 0 [vi A, vi B, vi C, vi D] (vi A) K0 (hS3.c 0)) <| sQ 18 (yd (aD b) 0 0 K20 K2 rfl (hf.g 2 1)) ?_
  refine sQ 19 (yl (aD b) 1 [vi A, vi B, vi C, vi D] (vi B) K0 (hS3.c 0)) <| sQ 20 (yd (aD b) 0 0 K21 K2 rfl (hf.g 2 1)) <| sQ 21 (yl (aD b) 2 [vi A, vi B, vi C, vi D] (vi C) K0 (hS3.c 0)) <| sQ 22 (Y_buildS (zs := [vi 0, vi 0, vi 0, vi 0]) (vs := [(0, vi (i64.wrap (-D))), (1, vi A), (2, vi B), (3, vi C)]) (cs := [vi (i64.wrap (-D)), vi A, vi B, vi C]) K31 K13 rfl (mpc rfl (mpc rfl (mpc rfl (mpc rfl mpn)))) rfl) ?_
  refine s0 (yT 0 4 (aD b) 46 (.agg #[vi (i64.wrap (-D)), vi A, vi B, vi C]) [vi (i64.wrap (-D)), vi A, vi B, vi C] 0 hS3 K5 rfl (hf.g 2 1)) ?_
  rintro _ w_2 ⟨rfl, hS4⟩
  refine rn (cr ?_)
  refine sQ 11 (ym (vi K7) rfl (hf.g 1 0)) <| sQ 12 (yM K7 1) <| sQ 1 (yg (vi (i64.wrap (K7 - 1)))) (rn ?_)
  obtain rfl := sI hF2
  exact ⟨K28, Nat.lt_succ_self _, (i64.wrap (K7 - 1)), (i64.wrap (-D)), A, B, C, (fc rfl (fc (hf.g 2 1) (fc (hf.g 4 2) fn_))), (hS4.sel [0, 1] rfl rfl), hL1⟩
 ·skip
  have hF3 := cf' hb hb1
  refine cw_exit rfl ?_
  obtain rfl := sI hF3
  obtain rfl := sI hL1
  refine cq (cr ?_)
  refine sQ 23 (yb (aD b) 0 [vi A, vi B, vi C, vi D] K10 K5 (hS3.c 0) rfl (hf.g 2 1)) ?_
  refine s0 (yT 1 4 (aD b1) 46 (.agg #[vi A, vi B, vi C, vi D]) [vi A, vi B, vi C, vi D] 0 hS3 K5 rfl (hf.g 4 2)) ?_
  rintro _ w_3 ⟨rfl, hS5⟩
  refine rn (ct_ ?_)
  obtain rfl := sI hF1
  exact ret1 Tryz.results103 (v1 := .agg #[vi A, vi B, vi C, vi D]) (resAt_cellA (B := aD b1) (i := 0) (cs := [vi A, vi B, vi C, vi D]) (vs := [vi A, vi B, vi C, vi D]) (hf.g 4 2) K10 K5 (hS5.c 1) rfl rfl) ⟨rfl, (hS5.sN [])⟩

theorem c_spec_l2Power (k_ : Int)  (w0 : World)  (hS : ST w0 [] w0 [] []) {r_ : TDyadic} (hF : F_spec_l2Power k_ = some r_) :
  CV Tryz.prog 72 #[vi k_] w0 (fun v w' => v = (gD_ r_) ∧ ST w0 [] w' [] []) := by
 unfold F_spec_l2Power at hF
 refine cv_of_cw 7 Tryz.func72 rfl Tryz.ntmps72 rfl ?_
 refine cq (cr ?_)
 refine sS 2 (yN kZ_ 5 hS K6) ?_
 rintro _ w_ ⟨b, rfl, hS1⟩
 refine rn (cq (cr ?_))
 refine sQ 3 (Y_buildS (zs := [vi 0, vi 0, vi 0, vi 0]) (vs := [(0, vi 1)]) (cs := [vi 1, vi 0, vi 0, vi 0]) K31 K13 rfl (mpc rfl mpn) rfl) <| sQ 4 (ym (vi k_)) ?_
 obtain ⟨r_1, hc, hF⟩ := bI hF
 refine sc 5 rfl rfl (yC [.agg #[vi 1, vi 0, vi 0, vi 0], vi k_] k_call_103 (c_spec_l1Turn (TRing.mk 1 0 0 0) k_ _  (hS1.inn0 [] rfl) hc)) ?_
 rintro _ w_1 ⟨rfl, hd⟩
 have hS2 := hS1.out00 hd
 refine sQ 6 (Y_buildS (zs := kZ_) (vs := [(0, gR_ r_1)]) (cs := [vi r_1.A, vi r_1.B, vi r_1.C, vi r_1.D, vi 0]) K18 K6 rfl (mpc rfl mpn) rfl) ?_
 refine s0 (yT 0 5 (aD b) 48 (.agg #[vi r_1.A, vi r_1.B, vi r_1.C, vi r_1.D, vi 0]) [vi r_1.A, vi r_1.B, vi r_1.C, vi r_1.D, vi 0] 0 hS2 K1) ?_
 rintro _ w_2 ⟨rfl, hS3⟩
 refine rn (ct_ ?_)
 obtain rfl := sI hF
 exact ret1 Tryz.results72 (v1 := .agg #[vi r_1.A, vi r_1.B, vi r_1.C, vi r_1.D, vi 0]) (resAt_cellA (B := aD b) (i := 0) (cs := [vi r_1.A, vi r_1.B, vi r_1.C, vi r_1.D, vi 0]) (vs := [vi r_1.A, vi r_1.B, vi r_1.C, vi r_1.D, vi 0]) rfl K4 K1 (hS3.c 0) rfl rfl) ⟨rfl, (hS3.sN [])⟩

theorem c_spec_l6Bit (n : Int) (k_ : Int) (q : Int)  (w0 : World)  (hS : ST w0 [] w0 [] []) {r_ : Int} (hF : F_spec_l6Bit n k_ q = some r_) :
  CV Tryz.prog 117 #[vi n, vi k_, vi q] w0 (fun v w' => v = vi r_ ∧ ST w0 [] w' [] []) := by
 unfold F_spec_l6Bit at hF
 refine cv_of_cw 15 Tryz.func117 rfl Tryz.ntmps117 rfl ?_
 refine cq (cr ?_)
 refine sQ 6 (yg (vi 0)) (rn (cq (cr ?_)))
 refine sQ 7 (ym (vi k_)) <| sQ 8 (ym (vi n)) <| sQ 9 (yM n 1) <| sQ 10 (ym (vi q)) <| sQ 11 (yM (i64.wrap (n - 1)) q) <| sQ 12 (Y_conv (k := .i64) (a := (i64.wrap ((i64.wrap (n - 1)) - q))) (T := 3) (T' := 87) K81 K82 rfl rfl) ?_
 obtain ⟨hsh, hF⟩ := chk_inv hF
 refine sQ 13 (Y_shr (k := .i64) (a := k_) (k' := .u64) (b := (IntKind.u64.wrap (i64.wrap ((i64.wrap (n - 1)) - q)))) rfl rfl rfl hsh) <| sQ 14 (Y_band (k := .i64) (a := (shrK .i64 k_ (IntKind.u64.wrap (i64.wrap ((i64.wrap (n - 1)) - q))))) (b := 1) rfl rfl rfl) <| sQ 6 (yg (vi (bits .and .i64 (shrK .i64 k_ (IntKind.u64.wrap (i64.wrap ((i64.wrap (n - 1)) - q)))) 1))) (rn (ct_ ?_))
 obtain rfl := sI hF
 exact ret1 Tryz.results117 (v1 := vi (bits .and .i64 (shrK .i64 k_ (IntKind.u64.wrap (i64.wrap ((i64.wrap (n - 1)) - q)))) 1)) (resAt_tmp rfl) ⟨rfl, (hS.sN [])⟩

theorem c_spec_l1Neg (x : TRing)  (w0 : World)  (hS : ST w0 [] w0 [] []) {r_ : TRing} (hF : F_spec_l1Neg x = some r_) :
  CV Tryz.prog 129 #[gR_ x] w0 (fun v w' => v = (gR_ r_) ∧ ST w0 [] w' [] []) := by
 unfold F_spec_l1Neg at hF
 refine cv_of_cw 16 Tryz.func129 rfl Tryz.ntmps129 rfl ?_
 refine cq (cr ?_)
 refine sS 1 (yB 46 (gR_ x) (kR_ x) 4 hS) ?_
 rintro _ w_ ⟨b, rfl, hS1⟩
 refine sS 2 (yN [vi 0, vi 0, vi 0, vi 0] 4 hS1 K13) ?_
 rintro _ w_1 ⟨b1, rfl, hS2⟩
 refine rn (cq (cr ?_))
 refine sQ 3 (yd (aD b) 0 0 K19 K2) <| sQ 4 (yl (aD b) 0 (kR_ x) (vi x.A) K0 (hS2.c 0)) <| sQ 5 (Y_neg (k := .i64) (a := x.A) rfl rfl) <| sQ 6 (yd (aD b) 0 0 K20 K2) <| sQ 7 (yl (aD b) 1 (kR_ x) (vi x.B) K0 (hS2.c 0)) <| sQ 8 (Y_neg (k := .i64) (a := x.B) rfl rfl) ?_
 refine sQ 9 (yd (aD b) 0 0 K21 K2) <| sQ 10 (yl (aD b) 2 (kR_ x) (vi x.C) K0 (hS2.c 0)) <| sQ 11 (Y_neg (k := .i64) (a := x.C) rfl rfl) <| sQ 12 (yd (aD b) 0 0 K22 K2) <| sQ 13 (yl (aD b) 3 (kR_ x) (vi x.D) K0 (hS2.c 0)) <| sQ 14 (Y_neg (k := .i64) (a := x.D) rfl rfl) ?_
 refine sQ 15 (Y_buildS (zs := [vi 0, vi 0, vi 0, vi 0]) (vs := [(0, vi (i64.wrap (-x.A))), (1, vi (i64.wrap (-x.B))), (2, vi (i64.wrap (-x.C))), (3, vi (i64.wrap (-x.D)))]) (cs := [vi (i64.wrap (-x.A)), vi (i64.wrap (-x.B)), vi (i64.wrap (-x.C)), vi (i64.wrap (-x.D))]) K31 K13 rfl (mpc rfl (mpc rfl (mpc rfl (mpc rfl mpn)))) rfl) ?_
 refine s0 (yT 1 4 (aD b1) 46 (.agg #[vi (i64.wrap (-x.A)), vi (i64.wrap (-x.B)), vi (i64.wrap (-x.C)), vi (i64.wrap (-x.D))]) [vi (i64.wrap (-x.A)), vi (i64.wrap (-x.B)), vi (i64.wrap (-x.C)), vi (i64.wrap (-x.D))] 0 hS2 K5) ?_
 rintro _ w_2 ⟨rfl, hS3⟩
 refine rn (ct_ ?_)
 obtain rfl := sI hF
 exact ret1 Tryz.results129 (v1 := .agg #[vi (i64.wrap (-x.A)), vi (i64.wrap (-x.B)), vi (i64.wrap (-x.C)), vi (i64.wrap (-x.D))]) (resAt_cellA (B := aD b1) (i := 0) (cs := [vi (i64.wrap (-x.A)), vi (i64.wrap (-x.B)), vi (i64.wrap (-x.C)), vi (i64.wrap (-x.D))]) (vs := [vi (i64.wrap (-x.A)), vi (i64.wrap (-x.B)), vi (i64.wrap (-x.C)), vi (i64.wrap (-x.D))]) rfl K10 K5 (hS3.c 1) rfl rfl) ⟨rfl, (hS3.sN [])⟩

theorem c_spec_l2Neg (x : TDyadic)  (w0 : World)  (hS : ST w0 [] w0 [] []) {r_ : TDyadic} (hF : F_spec_l2Neg x = some r_) :
  CV Tryz.prog 125 #[gD_ x] w0 (fun v w' => v = (gD_ r_) ∧ ST w0 [] w' [] []) := by
 unfold F_spec_l2Neg at hF
 refine cv_of_cw 9 Tryz.func125 rfl Tryz.ntmps125 rfl ?_
 refine cq (cr ?_)
 refine sS 1 (yB 48 (gD_ x) (kD_ x) 5 hS) ?_
 rintro _ w_ ⟨b, rfl, hS1⟩
 refine sS 2 (yN kZ_ 5 hS1 K6) ?_
 rintro _ w_1 ⟨b1, rfl, hS2⟩
 refine rn (cq ?_)
 obtain ⟨r_1, hc, hF⟩ := bI hF
 refine ra_start (hS2.se [0]).fn (by kernel_rfl) ?_
 have hS4 := hS2.drew
 refine rq 0 3 (v := pt (aD b) 0) rfl (hS4.se [0]) (fun w' hw' => (yd (aD b) 0 3 K45 K5)) ?_
 refine rq 1 4 (v := gR_ x.Num) rfl (hS4.se [0]) (fun w' hw' => (ya (aD b) 0 (kD_ x) (kR_ x.Num) K10 K5 (ST.cf hw' (i := 0) rfl))) ?_
 refine rq 3 6 (v := pt (aD b) 4) rfl (hS4.se [0]) (fun w' hw' => (yd (aD b) 0 0 K35 K2)) ?_
 refine rq 4 7 (v := vi x.Exp) rfl (hS4.se [0]) (fun w' hw' => (yl (aD b) 4 (kD_ x) (vi x.Exp) K0 (ST.cf hw' (i := 0) rfl))) ?_
 refine rA [2] ?_
 refine rC 5 2 rfl (yC [gR_ x.Num] k_call_129 (c_spec_l1Neg x.Num _  (hS4.inn0 [] rfl) hc)) ?_ ?_
 ·rintro _ w_2 ⟨rfl, hd⟩
  have hS5 := hS4.out00 hd
  refine ⟨(hS5.se [0]), ?_⟩
  refine rq 5 8 (v := .agg #[vi r_1.A, vi r_1.B, vi r_1.C, vi r_1.D, vi x.Exp]) rfl (hS5.se [0]) (fun w' hw' => (Y_buildS (zs := kZ_) (vs := [(0, gR_ r_1), (1, vi x.Exp)]) (cs := [vi r_1.A, vi r_1.B, vi r_1.C, vi r_1.D, vi x.Exp]) K18 K6 rfl (mpc rfl (mpc rfl mpn)) rfl)) ?_
  refine rA [6] ?_
  refine rZ 6 rfl (yT 1 5 (aD b1) 48 (.agg #[vi r_1.A, vi r_1.B, vi r_1.C, vi r_1.D, vi x.Exp]) [vi r_1.A, vi r_1.B, vi r_1.C, vi r_1.D, vi x.Exp] 0 hS5 K1) ?_ ?_
  ·rintro _ w_3 ⟨rfl, hS6⟩
   refine ⟨(hS6.se [0]), ?_⟩
   refine ra_done (by kernel_rfl) ?_
   refine ct_ ?_
   obtain rfl := sI hF
   exact ret1 Tryz.results125 (v1 := .agg #[vi r_1.A, vi r_1.B, vi r_1.C, vi r_1.D, vi x.Exp]) (resAt_cellA (B := aD b1) (i := 0) (cs := [vi r_1.A, vi r_1.B, vi r_1.C, vi r_1.D, vi x.Exp]) (vs := [vi r_1.A, vi r_1.B, vi r_1.C, vi r_1.D, vi x.Exp]) rfl K4 K1 (hS6.c 1) rfl rfl) ⟨rfl, (hS6.sN [])⟩
  exact aN
 exact aN

theorem c_spec_l6One (kind : Int)  (w0 : World)  (hS : ST w0 [] w0 [] []) {r_ : List TDyadic} (hF : F_spec_l6One kind = some r_) :
  CV Tryz.prog 118 #[vi kind] w0 (fun v w' => ∃ (B : Option Addr) (c : Nat), v = .slice B r_.length c ∧ ST w0 [] w' [⟨B, 48, (r_.flatMap eN0), c * 5⟩] []) := by
 unfold F_spec_l6One at hF
 refine cv_of_cw 43 Tryz.func118 rfl Tryz.ntmps118 rfl ?_
 refine cq (cr ?_)
 refine sQ 2 (yg (.slice none 0 0)) (rn (cq (cr ?_)))
 obtain ⟨r_1, hc, hF⟩ := bI hF
 refine sc 6 rfl rfl (yC [vi 0] K72 (c_spec_l2Power 0 _  (hS.inn0 [] rfl) hc)) ?_
 rintro _ w_ ⟨rfl, hd⟩
 have hS1 := hS.out00 hd
 refine sQ 7 (Y_buildS (zs := kZ_) (vs := []) (cs := kZ_) K18 K6 rfl mpn rfl) ?_
 refine sS 3 (yN kZ_ 5 hS1 K6) ?_
 rintro _ w_1 ⟨b, rfl, hS2⟩
 refine sS 4 (yN kZ_ 5 hS2 K6) ?_
 rintro _ w_2 ⟨b1, rfl, hS3⟩
 refine s0 (yT 0 5 (aD b) 48 (gD_ r_1) (kD_ r_1) 0 hS3 K1) ?_
 rintro _ w_3 ⟨rfl, hS4⟩
 refine s0 (yT 1 5 (aD b1) 48 gZ_ kZ_ 0 hS4 K1) ?_
 rintro _ w_4 ⟨rfl, hS5⟩
 refine rn (cq (cr ?_))
 refine sQ 8 (Y_buildS (zs := [vi 0, vi 0, vi 0, vi 0]) (vs := [(0, vi 1)]) (cs := [vi 1, vi 0, vi 0, vi 0]) K31 K13 rfl (mpc rfl mpn) rfl) <| sQ 9 (Y_buildS (zs := kZ_) (vs := [(0, .agg #[vi 1, vi 0, vi 0, vi 0]), (1, vi 1)]) (cs := [vi 1, vi 0, vi 0, vi 0, vi 1]) K18 K6 rfl (mpc rfl (mpc rfl mpn)) rfl) ?_
 refine sS 5 (yN kZ_ 5 hS5 K6) ?_
 rintro _ w_5 ⟨b2, rfl, hS6⟩
 refine s0 (yT 2 5 (aD b2) 48 (.agg #[vi 1, vi 0, vi 0, vi 0, vi 1]) [vi 1, vi 0, vi 0, vi 0, vi 1] 0 hS6 K1) ?_
 rintro _ w_6 ⟨rfl, hS7⟩
 refine rn (cq (cq (cr ?_)))
 refine sQ 10 (ym (vi kind)) (rn (cw_block (cq (cr ?_))))
 refine sQ 12 (yE kind 1) <| sQ 11 (yg (.bool (kind == 1))) (rn ?_)
 refine cw_cond (b := (kind == 1)) rfl (fun hb => ?_) (fun hb => ?_)
 ·skip
  have hF1 := ct hF hb
  refine cq ?_
  obtain ⟨r_2, hc1, hF1⟩ := bI hF1
  refine ra_start (hS7.se [0, 1, 2]).fn (by kernel_rfl) ?_
  have hS9 := hS7.drew
  refine rq 0 13 (v := .agg #[vi 1, vi 0, vi 0, vi 0, vi 1]) rfl (hS9.se [0, 1, 2]) (fun w' hw' => (yb (aD b2) 0 [vi 1, vi 0, vi 0, vi 0, vi 1] K4 K1 (ST.cf hw' (i := 2) rfl))) ?_
  refine rq 1 14 (v := .agg #[vi 1, vi 0, vi 0, vi 0, vi 1]) rfl (hS9.se [0, 1, 2]) (fun w' hw' => (yb (aD b2) 0 [vi 1, vi 0, vi 0, vi 0, vi 1] K4 K1 (ST.cf hw' (i := 2) rfl))) ?_
  refine rq 2 15 (v := .agg #[vi 1, vi 0, vi 0, vi 0, vi 1]) rfl (hS9.se [0, 1, 2]) (fun w' hw' => (yb (aD b2) 0 [vi 1, vi 0, vi 0, vi 0, vi 1] K4 K1 (ST.cf hw' (i := 2) rfl))) ?_
  refine rq 3 16 (v := .agg #[vi 1, vi 0, vi 0, vi 0, vi 1]) rfl (hS9.se [0, 1, 2]) (fun w' hw' => (yb (aD b2) 0 [vi 1, vi 0, vi 0, vi 0, vi 1] K4 K1 (ST.cf hw' (i := 2) rfl))) ?_
  refine rA [4] ?_
  refine rC 17 4 rfl (yC [.agg #[vi 1, vi 0, vi 0, vi 0, vi 1]] k_call_125 (c_spec_l2Neg (TDyadic.mk (TRing.mk 1 0 0 0) 1) _  (hS9.inn0 [] rfl) hc1)) ?_ ?_
  ·rintro _ w_7 ⟨rfl, hd1⟩
   have hS10 := hS9.out00 hd1
   refine ⟨(hS10.se [0, 1, 2]), ?_⟩
   refine rA [5] ?_
   refine rS 18 5 rfl (Ys_bslice (s := 5) (len := 4) (vs := [(0, .agg #[vi 1, vi 0, vi 0, vi 0, vi 1]), (1, .agg #[vi 1, vi 0, vi 0, vi 0, vi 1]), (2, .agg #[vi 1, vi 0, vi 0, vi 0, vi 1]), (3, gD_ r_2)]) (cs := [vi 1, vi 0, vi 0, vi 0, vi 1, vi 1, vi 0, vi 0, vi 0, vi 1, vi 1, vi 0, vi 0, vi 0, vi 1, vi r_2.Num.A, vi r_2.Num.B, vi r_2.Num.C, vi r_2.Num.D, vi r_2.Exp]) (zs := [vi 0, vi 0, vi 0, vi 0, vi 0, vi 0, vi 0, vi 0, vi 0, vi 0, vi 0, vi 0, vi 0, vi 0, vi 0, vi 0, vi 0, vi 0, vi 0, vi 0]) (m := 20) hS10 K9 K1 K38 rfl (mpc rfl (mpc rfl (mpc rfl (mpc rfl mpn)))) rfl rfl rfl (by kernel_rfl) (by kernel_rfl) rfl) ?_ ?_
   ·rintro _ w_8 ⟨b3, rfl, hS11⟩
    refine ⟨(hS11.se [0, 1, 2]), ?_⟩
    refine rq 6 2 (v := .slice (aD b3) 4 4) rfl (hS11.se [0, 1, 2]) (fun w' hw' => (yg (.slice (aD b3) 4 4))) ?_
    refine ra_done (by kernel_rfl) ?_
    refine ct_ ?_
    obtain rfl := sI hF1
    exact ret1 Tryz.results118 (v1 := .slice (aD b3) 4 4) (resAt_tmp rfl) ⟨aD b3, 4, rfl, (hS11.sN [3])⟩
   exact aN
  exact aN
 ·skip
  have hF2 := cf' hF hb
  refine cq (cr ?_)
  refine sQ 20 (yE kind 2) <| sQ 19 (yg (.bool (kind == 2))) (rn ?_)
  refine cw_cond (b := (kind == 2)) rfl (fun hb1 => ?_) (fun hb1 => ?_)
  ·skip
   have hF3 := ct hF2 hb1
   refine cq (cr ?_)
   refine sQ 21 (yb (aD b1) 0 kZ_ K4 K1 (hS7.c 1)) <| sQ 22 (yb (aD b) 0 (kD_ r_1) K4 K1 (hS7.c 0)) <| sQ 23 (yb (aD b) 0 (kD_ r_1) K4 K1 (hS7.c 0)) <| sQ 24 (yb (aD b1) 0 kZ_ K4 K1 (hS7.c 1)) ?_
   refine sS 25 (Ys_bslice (s := 5) (len := 4) (vs := [(0, gZ_), (1, gD_ r_1), (2, gD_ r_1), (3, gZ_)]) (cs := [vi 0, vi 0, vi 0, vi 0, vi 0, vi r_1.Num.A, vi r_1.Num.B, vi r_1.Num.C, vi r_1.Num.D, vi r_1.Exp, vi r_1.Num.A, vi r_1.Num.B, vi r_1.Num.C, vi r_1.Num.D, vi r_1.Exp, vi 0, vi 0, vi 0, vi 0, vi 0]) (zs := [vi 0, vi 0, vi 0, vi 0, vi 0, vi 0, vi 0, vi 0, vi 0, vi 0, vi 0, vi 0, vi 0, vi 0, vi 0, vi 0, vi 0, vi 0, vi 0, vi 0]) (m := 20) hS7 K9 K1 K38 rfl (mpc rfl (mpc rfl (mpc rfl (mpc rfl mpn)))) rfl rfl rfl (by kernel_rfl) (by kernel_rfl) rfl) ?_
   rintro _ w_9 ⟨b4, rfl, hS12⟩
   refine sQ 2 (yg (.slice (aD b4) 4 4)) (rn (ct_ ?_))
   obtain rfl := sI hF3
   exact ret1 Tryz.results118 (v1 := .slice (aD b4) 4 4) (resAt_tmp rfl) ⟨aD b4, 4, rfl, (hS12.sN [3])⟩
  ·skip
   have hF4 := cf' hF2 hb1
   refine cq (cr ?_)
   refine sQ 27 (yE kind 3) <| sQ 26 (yg (.bool (kind == 3))) (rn ?_)
   refine cw_cond (b := (kind == 3)) rfl (fun hb2 => ?_) (fun hb2 => ?_)
   ·skip
    have hF5 := ct hF4 hb2
    refine cq ?_
    obtain ⟨r_3, hc2, hF5⟩ := bI hF5
    obtain ⟨r_4, hc3, hF5⟩ := bI hF5
    refine ra_start (hS7.se [0, 1, 2]).fn (by kernel_rfl) ?_
    have hS15 := hS7.drew
    refine rq 0 28 (v := gZ_) rfl (hS15.se [0, 1, 2]) (fun w' hw' => (yb (aD b1) 0 kZ_ K4 K1 (ST.cf hw' (i := 1) rfl))) ?_
    refine rq 3 31 (v := gZ_) rfl (hS15.se [0, 1, 2]) (fun w' hw' => (yb (aD b1) 0 kZ_ K4 K1 (ST.cf hw' (i := 1) rfl))) ?_
    refine rA [1] ?_
    refine rC 29 1 rfl (yC [vi 6] K72 (c_spec_l2Power 6 _  (hS15.inn0 [] rfl) hc2)) ?_ ?_
    ·rintro _ w_10 ⟨rfl, hd2⟩
     have hS16 := hS15.out00 hd2
     refine ⟨(hS16.se [0, 1, 2]), ?_⟩
     refine rA [2] ?_
     refine rC 30 2 rfl (yC [vi 2] K72 (c_spec_l2Power 2 _  (hS16.inn0 [] rfl) hc3)) ?_ ?_
     ·rintro _ w_11 ⟨rfl, hd3⟩
      have hS17 := hS16.out00 hd3
      refine ⟨(hS17.se [0, 1, 2]), ?_⟩
      refine rA [4] ?_
      refine rS 32 4 rfl (Ys_bslice (s := 5) (len := 4) (vs := [(0, gZ_), (1, gD_ r_3), (2, gD_ r_4), (3, gZ_)]) (cs := [vi 0, vi 0, vi 0, vi 0, vi 0, vi r_3.Num.A, vi r_3.Num.B, vi r_3.Num.C, vi r_3.Num.D, vi r_3.Exp, vi r_4.Num.A, vi r_4.Num.B, vi r_4.Num.C, vi r_4.Num.D, vi r_4.Exp, vi 0, vi 0, vi 0, vi 0, vi 0]) (zs := [vi 0, vi 0, vi 0, vi 0, vi 0, vi 0, vi 0, vi 0, vi 0, vi 0, vi 0, vi 0, vi 0, vi 0, vi 0, vi 0, vi 0, vi 0, vi 0, vi 0]) (m := 20) hS17 K9 K1 K38 rfl (mpc rfl (mpc rfl (mpc rfl (mpc rfl mpn)))) rfl rfl rfl (by kernel_rfl) (by kernel_rfl) rfl) ?_ ?_
      ·rintro _ w_12 ⟨b5, rfl, hS18⟩
       refine ⟨(hS18.se [0, 1, 2]), ?_⟩
       refine rq 5 2 (v := .slice (aD b5) 4 4) rfl (hS18.se [0, 1, 2]) (fun w' hw' => (yg (.slice (aD b5) 4 4))) ?_
       refine ra_done (by kernel_rfl) ?_
       refine ct_ ?_
       obtain rfl := sI hF5
       exact ret1 Tryz.results118 (v1 := .slice (aD b5) 4 4) (resAt_tmp rfl) ⟨aD b5, 4, rfl, (hS18.sN [3])⟩
      exact aN
     exact aN
    exact aN
   ·skip
    have hF6 := cf' hF4 hb2
    refine cw_skip (cq ?_)
    obtain ⟨x, hx, hF6⟩ := bI hF6
    obtain ⟨r_5, hc4, hF6⟩ := bI hF6
    refine ra_start (hS7.se [0, 1, 2]).fn (by kernel_rfl) ?_
    have hS20 := hS7.drew
    refine rq 0 33 (v := gD_ r_1) rfl (hS20.se [0, 1, 2]) (fun w' hw' => (yb (aD b) 0 (kD_ r_1) K4 K1 (ST.cf hw' (i := 0) rfl))) ?_
    refine rq 1 34 (v := gZ_) rfl (hS20.se [0, 1, 2]) (fun w' hw' => (yb (aD b1) 0 kZ_ K4 K1 (ST.cf hw' (i := 1) rfl))) ?_
    refine rq 2 35 (v := gZ_) rfl (hS20.se [0, 1, 2]) (fun w' hw' => (yb (aD b1) 0 kZ_ K4 K1 (ST.cf hw' (i := 1) rfl))) ?_
    refine rq 4 37 (v := vi kind) rfl (hS20.se [0, 1, 2]) (fun w' hw' => (ym (vi kind))) ?_
    refine rq 5 38 (v := vi (i64.wrap (kind - 4))) rfl (hS20.se [0, 1, 2]) (fun w' hw' => (yM kind 4)) ?_
    refine rA [3] ?_
    refine rS 36 3 rfl (Ys_bslice (s := 1) (len := 5) (vs := [(0, vi 4), (1, vi 2), (2, vi 6), (3, vi 1), (4, vi 7)]) (cs := [vi 4, vi 2, vi 6, vi 1, vi 7]) (zs := kZ_) (m := 5) hS20 K106 K2 k_zc_3 rfl (mpc rfl (mpc rfl (mpc rfl (mpc rfl (mpc rfl mpn))))) rfl rfl rfl (by kernel_rfl) (by kernel_rfl) rfl) ?_ ?_
    ·rintro _ w_13 ⟨b6, rfl, hS21⟩
     refine ⟨(hS21.se [0, 1, 2]), ?_⟩
     refine rA [6] ?_
     refine ra_y 39 (i := 6) (v := pt (aD b6) ((i64.wrap (kind - 4)).toNat * 1)) rfl rfl rfl (Y_index (B := aD b6) (m := 5) (c := 5) (k := .i64) (i := (i64.wrap (kind - 4))) K106 K2 rfl rfl rfl (gi_isSome encI_len rfl (hS21.c 3) hx) (getI_nn hx) (getI_ltI hx rfl)) (hS21.se [0, 1, 2]) ?_ ?_
     ·skip
      refine rA [7] ?_
      refine ra_y 40 (i := 7) (v := vi x) rfl rfl rfl (yl (aD b6) ((i64.wrap (kind - 4)).toNat * 1) ([4, 2, 6, 1, 7].flatMap encI) (vi x) K0 (hS21.c 3) rfl rfl (gi_at0 encI_len hx rfl)) (hS21.se [0, 1, 2]) ?_ ?_
      ·skip
       refine rA [8] ?_
       refine rC 41 8 rfl (yC [vi x] K72 (c_spec_l2Power x _  (hS21.inn0 [] rfl) hc4)) ?_ ?_
       ·rintro _ w_14 ⟨rfl, hd4⟩
        have hS22 := hS21.out00 hd4
        refine ⟨(hS22.se [0, 1, 2]), ?_⟩
        refine rA [9] ?_
        refine rS 42 9 rfl (Ys_bslice (s := 5) (len := 4) (vs := [(0, gD_ r_1), (1, gZ_), (2, gZ_), (3, gD_ r_5)]) (cs := [vi r_1.Num.A, vi r_1.Num.B, vi r_1.Num.C, vi r_1.Num.D, vi r_1.Exp, vi 0, vi 0, vi 0, vi 0, vi 0, vi 0, vi 0, vi 0, vi 0, vi 0, vi r_5.Num.A, vi r_5.Num.B, vi r_5.Num.C, vi r_5.Num.D, vi r_5.Exp]) (zs := [vi 0, vi 0, vi 0, vi 0, vi 0, vi 0, vi 0, vi 0, vi 0, vi 0, vi 0, vi 0, vi 0, vi 0, vi 0, vi 0, vi 0, vi 0, vi 0, vi 0]) (m := 20) hS22 K9 K1 K38 rfl (mpc rfl (mpc rfl (mpc rfl (mpc rfl mpn)))) rfl rfl rfl (by kernel_rfl) (by kernel_rfl) rfl) ?_ ?_
        ·rintro _ w_15 ⟨b7, rfl, hS23⟩
         refine ⟨(hS23.se [0, 1, 2]), ?_⟩
         refine rq 10 2 (v := .slice (aD b7) 4 4) rfl (hS23.se [0, 1, 2]) (fun w' hw' => (yg (.slice (aD b7) 4 4))) ?_
         refine ra_done (by kernel_rfl) ?_
         refine ct_ ?_
         obtain rfl := sI hF6
         exact ret1 Tryz.results118 (v1 := .slice (aD b7) 4 4) (resAt_tmp rfl) ⟨aD b7, 4, rfl, (hS23.sN [4])⟩
        exact aN
       exact aN
      exact aN
     exact aN
    exact aN

theorem c_spec_l6Cell (n : Int) (g : TGate) (row : Int) (col : Int)  (w0 : World)  (hS : ST w0 [] w0 [] []) {r_ : TDyadic} (hF : F_spec_l6Cell n g row col = some r_) :
  CV Tryz.prog 102 #[vi n, .agg #[vi g.Kind, vi g.A, vi g.B], vi row, vi col] w0 (fun v w' => v = (gD_ r_) ∧ ST w0 [] w' [] []) := by
 unfold F_spec_l6Cell at hF
 refine cv_of_cw 119 Tryz.func102 rfl Tryz.ntmps102 rfl ?_
 refine cq (cr ?_)
 refine sS 5 (yB 64 (.agg #[vi g.Kind, vi g.A, vi g.B]) [vi g.Kind, vi g.A, vi g.B] 3 hS) ?_
 rintro _ w_ ⟨b, rfl, hS1⟩
 refine sS 8 (yN kZ_ 5 hS1 K6) ?_
 rintro _ w_1 ⟨b1, rfl, hS2⟩
 refine rn (cq (cr ?_))
 obtain ⟨r_1, hc, hF⟩ := bI hF
 refine sc 12 rfl rfl (yC [vi 0] K72 (c_spec_l2Power 0 _  (hS2.inn0 [] rfl) hc)) ?_
 rintro _ w_2 ⟨rfl, hd⟩
 have hS3 := hS2.out00 hd
 refine sQ 13 (Y_buildS (zs := kZ_) (vs := []) (cs := kZ_) K18 K6 rfl mpn rfl) ?_
 refine sS 9 (yN kZ_ 5 hS3 K6) ?_
 rintro _ w_3 ⟨b2, rfl, hS4⟩
 refine sS 10 (yN kZ_ 5 hS4 K6) ?_
 rintro _ w_4 ⟨b3, rfl, hS5⟩
 refine s0 (yT 2 5 (aD b2) 48 (gD_ r_1) (kD_ r_1) 0 hS5 K1) ?_
 rintro _ w_5 ⟨rfl, hS6⟩
 refine s0 (yT 3 5 (aD b3) 48 gZ_ kZ_ 0 hS6 K1) ?_
 rintro _ w_6 ⟨rfl, hS7⟩
 refine rn (cq (cr ?_))
 refine sQ 14 (ym (vi col)) <| sQ 11 (yg (vi col)) (rn (cq ?_))
 obtain ⟨z, hz, hF1⟩ := bI hF
 refine cw_mid (fun f w => ∃ (A : Int) (B : Int) (C : Int) (D : Int) (Exp : Int) (to_ : Int), .inl (A, B, C, D, Exp, to_) = z ∧ FF f [(2, vi row), (8, pt (aD b1) 0), (9, pt (aD b2) 0), (10, pt (aD b3) 0), (11, vi to_)] ∧ ST w0 [] w [⟨aD b1, 48, kZ_, 5⟩, ⟨aD b2, 48, [vi A, vi B, vi C, vi D, vi Exp], 5⟩, ⟨aD b3, 48, kZ_, 5⟩] []) ?_ ?_
 ·skip
  refine cq (cr ?_)
  refine sQ 15 (yd (aD b) 0 0 K57 K2) <| sQ 16 (yl (aD b) 0 [vi g.Kind, vi g.A, vi g.B] (vi g.Kind) K0 (hS7.c 0)) (rn (cw_block (cq (cr ?_))))
  refine sQ 48 (yE g.Kind 12) <| sQ 47 (yg (.bool (g.Kind == 12))) (rn ?_)
  refine cw_cond (b := (g.Kind == 12)) rfl (fun hb => ?_) (fun hb => ?_)
  ·skip
   have hF2 := ct hz hb
   refine cr ?_
   obtain ⟨r_2, hc1, hF2⟩ := bI hF2
   refine sc 49 rfl rfl (yC [vi 1] K72 (c_spec_l2Power 1 _  (hS7.inn0 [] rfl) hc1)) ?_
   rintro _ w_7 ⟨rfl, hd1⟩
   have hS9 := hS7.out00 hd1
   refine s0 (yT 2 5 (aD b2) 48 (gD_ r_2) (kD_ r_2) 0 hS9 K1) ?_
   rintro _ w_8 ⟨rfl, hS10⟩
   refine rn ?_
   exact ⟨r_2.Num.A, r_2.Num.B, r_2.Num.C, r_2.Num.D, r_2.Exp, col, (sI hF2), (fc rfl (fc rfl (fc rfl (fc rfl (fc rfl fn_))))), (hS10.sel [1, 2, 3] rfl rfl)⟩
  ·skip
   have hF3 := cf' hz hb
   refine cq (cr ?_)
   refine sQ 51 (yE g.Kind 9) <| sQ 50 (yg (.bool (g.Kind == 9))) (rn ?_)
   refine cw_cond (b := (g.Kind == 9)) rfl (fun hb1 => ?_) (fun hb1 => ?_)
   ·skip
    have hF4 := ct hF3 hb1
    refine cq (cr ?_)
    refine sQ 52 (ym (vi n)) <| sQ 53 (ym (vi col)) <| sQ 54 (yd (aD b) 0 0 K46 K2) <| sQ 55 (yl (aD b) 1 [vi g.Kind, vi g.A, vi g.B] (vi g.A) K0 (hS7.c 0)) ?_
    obtain ⟨r_3, hc2, hF4⟩ := bI hF4
    refine sc 56 rfl rfl (yC [vi n, vi col, vi g.A] K83 (c_spec_l6Bit n col g.A _  (hS7.inn0 [] rfl) hc2)) ?_
    rintro _ w_9 ⟨rfl, hd2⟩
    have hS11 := hS7.out00 hd2
    refine sQ 57 (yE r_3 1) (rn ?_)
    refine cw_cond (b := (r_3 == 1)) rfl (fun hb2 => ?_) (fun hb2 => ?_)
    ·skip
     have hF5 := ct hF4 hb2
     refine cr ?_
     refine sQ 58 (ym (vi col)) <| sQ 59 (ym (vi n)) <| sQ 60 (yM n 1) <| sQ 61 (yd (aD b) 0 0 K58 K2) <| sQ 62 (yl (aD b) 2 [vi g.Kind, vi g.A, vi g.B] (vi g.B) K0 (hS11.c 0)) <| sQ 63 (yM (i64.wrap (n - 1)) g.B) ?_
     refine sQ 64 (Y_conv (k := .i64) (a := (i64.wrap ((i64.wrap (n - 1)) - g.B))) (T := 3) (T' := 87) K81 K82 rfl rfl) ?_
     obtain ⟨hsh, hF5⟩ := chk_inv hF5
     refine sQ 65 (Y_shl (k := .i64) (a := 1) (k' := .u64) (b := (IntKind.u64.wrap (i64.wrap ((i64.wrap (n - 1)) - g.B)))) rfl rfl rfl hsh) <| sQ 66 (Y_bxor (k := .i64) (a := col) (b := (shlK .i64 1 (IntKind.u64.wrap (i64.wrap ((i64.wrap (n - 1)) - g.B))))) rfl rfl rfl) <| sQ 11 (yg (vi (bits .xor .i64 col (shlK .i64 1 (IntKind.u64.wrap (i64.wrap ((i64.wrap (n - 1)) - g.B))))))) (rn ?_)
     exact ⟨r_1.Num.A, r_1.Num.B, r_1.Num.C, r_1.Num.D, r_1.Exp, (bits .xor .i64 col (shlK .i64 1 (IntKind.u64.wrap (i64.wrap ((i64.wrap (n - 1)) - g.B))))), (sI hF5), (fc rfl (fc rfl (fc rfl (fc rfl (fc rfl fn_))))), (hS11.sel [1, 2, 3] rfl rfl)⟩
    ·skip
     have hF6 := cf' hF4 hb2
     refine cw_skip ?_
     exact ⟨r_1.Num.A, r_1.Num.B, r_1.Num.C, r_1.Num.D, r_1.Exp, col, (sI hF6), (fc rfl (fc rfl (fc rfl (fc rfl (fc rfl fn_))))), (hS11.sel [1, 2, 3] rfl rfl)⟩
   ·skip
    have hF7 := cf' hF3 hb1
    refine cq (cr ?_)
    refine sQ 68 (yE g.Kind 10) <| sQ 67 (yg (.bool (g.Kind == 10))) (rn ?_)
    refine cw_cond (b := (g.Kind == 10)) rfl (fun hb3 => ?_) (fun hb3 => ?_)
    ·skip
     have hF8 := ct hF7 hb3
     refine cq (cr ?_)
     refine sQ 69 (ym (vi n)) <| sQ 70 (ym (vi col)) <| sQ 71 (yd (aD b) 0 0 K46 K2) <| sQ 72 (yl (aD b) 1 [vi g.Kind, vi g.A, vi g.B] (vi g.A) K0 (hS7.c 0)) ?_
     obtain ⟨r_4, hc3, hF8⟩ := bI hF8
     refine sc 73 rfl rfl (yC [vi n, vi col, vi g.A] K83 (c_spec_l6Bit n col g.A _  (hS7.inn0 [] rfl) hc3)) ?_
     rintro _ w_10 ⟨rfl, hd3⟩
     have hS12 := hS7.out00 hd3
     refine sQ 74 (yE r_4 1) <| sQ 75 (ym (.bool (r_4 == 1))) ?_
     refine sgq 76 (B := (r_4 == 1)) (v := vi n) rfl rfl (uT_ 75) (fun hg => (ym (vi n))) ?_
     refine sgq 77 (B := (r_4 == 1)) (v := vi col) rfl rfl (uT_ 75) (fun hg1 => (ym (vi col))) ?_
     refine sgq 78 (B := (r_4 == 1)) (v := pt (aD b) 2) rfl rfl (uT_ 75) (fun hg2 => (yd (aD b) 0 0 K58 K2)) ?_
     refine sgq 79 (B := (r_4 == 1)) (v := vi g.B) rfl rfl (uT_ 75) (fun hg3 => (yl (aD b) 2 [vi g.Kind, vi g.A, vi g.B] (vi g.B) K0 (hS12.c 0) rfl (gv_of (v := pt (aD b) 2) hg3))) ?_
     obtain ⟨r_5, hc4, hF8⟩ := bI hF8
     refine sgc 80 (B := (r_4 == 1)) (v := vi r_5) (F := hS12.fn) rfl rfl (uT_ 75) hS12 (fun hg4 => (yC [vi n, vi col, vi g.B] K83 (CV.mono (c_spec_l6Bit n col g.B _  (hS12.inn0 [] rfl) (gb_inv hc4 hg4)) (by rintro _ _ ⟨rfl, h⟩; exact ⟨rfl, hS12.out00 h⟩)) rfl (mc (gv_of (v := vi n) hg4) (mc (gv_of (v := vi col) hg4) (mc (gv_of (v := vi g.B) hg4) mn))))) ?_
     rintro w_11 hS13
     refine sgq 81 (B := (r_4 == 1)) (v := .bool (r_5 == 1)) rfl rfl (uT_ 75) (fun hg5 => (yE r_5 1 rfl (gv_of (v := vi r_5) hg5))) ?_
     refine sQ 82 (Y_and (b := (r_4 == 1)) (z := (r_5 == 1)) rfl rfl rfl rfl) (rn ?_)
     refine cw_cond (b := ((r_4 == 1) && (r_5 == 1))) rfl (fun hb4 => ?_) (fun hb4 => ?_)
     ·skip
      have hF9 := ct hF8 hb4
      refine cr ?_
      obtain ⟨r_6, hc5, hF9⟩ := bI hF9
      refine sc 83 rfl rfl (yC [vi 4] K72 (c_spec_l2Power 4 _  (hS13.inn0 [] rfl) hc5)) ?_
      rintro _ w_12 ⟨rfl, hd4⟩
      have hS14 := hS13.out00 hd4
      refine s0 (yT 2 5 (aD b2) 48 (gD_ r_6) (kD_ r_6) 0 hS14 K1) ?_
      rintro _ w_13 ⟨rfl, hS15⟩
      refine rn ?_
      exact ⟨r_6.Num.A, r_6.Num.B, r_6.Num.C, r_6.Num.D, r_6.Exp, col, (sI hF9), (fc rfl (fc rfl (fc rfl (fc rfl (fc rfl fn_))))), (hS15.sel [1, 2, 3] rfl rfl)⟩
     ·skip
      have hF10 := cf' hF8 hb4
      refine cw_skip ?_
      exact ⟨r_1.Num.A, r_1.Num.B, r_1.Num.C, r_1.Num.D, r_1.Exp, col, (sI hF10), (fc rfl (fc rfl (fc rfl (fc rfl (fc rfl fn_))))), (hS13.sel [1, 2, 3] rfl rfl)⟩
    ·skip
     have hF11 := cf' hF7 hb3
     refine cq (cr ?_)
     refine sQ 85 (yE g.Kind 11) <| sQ 84 (yg (.bool (g.Kind == 11))) (rn ?_)
     refine cw_cond (b := (g.Kind == 11)) rfl (fun hb5 => ?_) (fun hb5 => ?_)
     ·skip
      have hF12 := ct hF11 hb5
      refine cq ?_
      obtain ⟨r_7, hc6, hF12⟩ := bI hF12
      obtain ⟨r_8, hc7, hF12⟩ := bI hF12
      refine ra_start (hS7.se [0, 1, 2, 3]).fn (by kernel_rfl) ?_
      have hS18 := hS7.drew
      refine rq 0 86 (v := vi n) rfl (hS18.se [0, 1, 2, 3]) (fun w' hw' => (ym (vi n))) ?_
      refine rq 1 87 (v := vi col) rfl (hS18.se [0, 1, 2, 3]) (fun w' hw' => (ym (vi col))) ?_
      refine rq 2 88 (v := pt (aD b) 1) rfl (hS18.se [0, 1, 2, 3]) (fun w' hw' => (yd (aD b) 0 0 K46 K2)) ?_
      refine rq 3 89 (v := vi g.A) rfl (hS18.se [0, 1, 2, 3]) (fun w' hw' => (yl (aD b) 1 [vi g.Kind, vi g.A, vi g.B] (vi g.A) K0 (ST.cf hw' (i := 0) rfl))) ?_
      refine rq 5 91 (v := vi n) rfl (hS18.se [0, 1, 2, 3]) (fun w' hw' => (ym (vi n))) ?_
      refine rq 6 92 (v := vi col) rfl (hS18.se [0, 1, 2, 3]) (fun w' hw' => (ym (vi col))) ?_
      refine rq 7 93 (v := pt (aD b) 2) rfl (hS18.se [0, 1, 2, 3]) (fun w' hw' => (yd (aD b) 0 0 K58 K2)) ?_
      refine rq 8 94 (v := vi g.B) rfl (hS18.se [0, 1, 2, 3]) (fun w' hw' => (yl (aD b) 2 [vi g.Kind, vi g.A, vi g.B] (vi g.B) K0 (ST.cf hw' (i := 0) rfl))) ?_
      refine rA [4] ?_
      refine rC 90 4 rfl (yC [vi n, vi col, vi g.A] K83 (c_spec_l6Bit n col g.A _  (hS18.inn0 [] rfl) hc6)) ?_ ?_
      ·rintro _ w_14 ⟨rfl, hd5⟩
       have hS19 := hS18.out00 hd5
       refine ⟨(hS19.se [0, 1, 2, 3]), ?_⟩
       refine rA [9] ?_
       refine rC 95 9 rfl (yC [vi n, vi col, vi g.B] K83 (c_spec_l6Bit n col g.B _  (hS19.inn0 [] rfl) hc7)) ?_ ?_
       ·rintro _ w_15 ⟨rfl, hd6⟩
        have hS20 := hS19.out00 hd6
        refine ⟨(hS20.se [0, 1, 2, 3]), ?_⟩
        refine rq 10 96 (v := .bool (r_7 != r_8)) rfl (hS20.se [0, 1, 2, 3]) (fun w' hw' => (Y_ne (k := .i64) (a := r_7) (b := r_8) rfl rfl rfl)) ?_
        refine ra_done (by kernel_rfl) ?_
        refine cw_cond (b := (r_7 != r_8)) rfl (fun hb6 => ?_) (fun hb6 => ?_)
        ·skip
         have hF13 := ct hF12 hb6
         refine cr ?_
         refine sQ 97 (ym (vi col)) <| sQ 98 (ym (vi n)) <| sQ 99 (yM n 1) <| sQ 100 (yd (aD b) 0 0 K46 K2) <| sQ 101 (yl (aD b) 1 [vi g.Kind, vi g.A, vi g.B] (vi g.A) K0 (hS20.c 0)) <| sQ 102 (yM (i64.wrap (n - 1)) g.A) ?_
         refine sQ 103 (Y_conv (k := .i64) (a := (i64.wrap ((i64.wrap (n - 1)) - g.A))) (T := 3) (T' := 87) K81 K82 rfl rfl) ?_
         obtain ⟨hsh1, hF13⟩ := chk_inv hF13
         refine sQ 104 (Y_shl (k := .i64) (a := 1) (k' := .u64) (b := (IntKind.u64.wrap (i64.wrap ((i64.wrap (n - 1)) - g.A)))) rfl rfl rfl hsh1) <| sQ 105 (Y_bxor (k := .i64) (a := col) (b := (shlK .i64 1 (IntKind.u64.wrap (i64.wrap ((i64.wrap (n - 1)) - g.A))))) rfl rfl rfl) <| sQ 106 (ym (vi n)) <| sQ 107 (yM n 1) <| sQ 108 (yd (aD b) 0 0 K58 K2) <| sQ 109 (yl (aD b) 2 [vi g.Kind, vi g.A, vi g.B] (vi g.B) K0 (hS20.c 0)) ?_
         refine sQ 110 (yM (i64.wrap (n - 1)) g.B) <| sQ 111 (Y_conv (k := .i64) (a := (i64.wrap ((i64.wrap (n - 1)) - g.B))) (T := 3) (T' := 87) K81 K82 rfl rfl) ?_
         obtain ⟨hsh2, hF13⟩ := chk_inv hF13
         refine sQ 112 (Y_shl (k := .i64) (a := 1) (k' := .u64) (b := (IntKind.u64.wrap (i64.wrap ((i64.wrap (n - 1)) - g.B)))) rfl rfl rfl hsh2) <| sQ 113 (Y_bxor (k := .i64) (a := (bits .xor .i64 col (shlK .i64 1 (IntKind.u64.wrap (i64.wrap ((i64.wrap (n - 1)) - g.A)))))) (b := (shlK .i64 1 (IntKind.u64.wrap (i64.wrap ((i64.wrap (n - 1)) - g.B))))) rfl rfl rfl) <| sQ 11 (yg (vi (bits .xor .i64 (bits .xor .i64 col (shlK .i64 1 (IntKind.u64.wrap (i64.wrap ((i64.wrap (n - 1)) - g.A))))) (shlK .i64 1 (IntKind.u64.wrap (i64.wrap ((i64.wrap (n - 1)) - g.B))))))) (rn ?_)
         exact ⟨r_1.Num.A, r_1.Num.B, r_1.Num.C, r_1.Num.D, r_1.Exp, (bits .xor .i64 (bits .xor .i64 col (shlK .i64 1 (IntKind.u64.wrap (i64.wrap ((i64.wrap (n - 1)) - g.A))))) (shlK .i64 1 (IntKind.u64.wrap (i64.wrap ((i64.wrap (n - 1)) - g.B))))), (sI hF13), (fc rfl (fc rfl (fc rfl (fc rfl (fc rfl fn_))))), (hS20.sel [1, 2, 3] rfl rfl)⟩
        ·skip
         have hF14 := cf' hF12 hb6
         refine cw_skip ?_
         exact ⟨r_1.Num.A, r_1.Num.B, r_1.Num.C, r_1.Num.D, r_1.Exp, col, (sI hF14), (fc rfl (fc rfl (fc rfl (fc rfl (fc rfl fn_))))), (hS20.sel [1, 2, 3] rfl rfl)⟩
       exact aN
      exact aN
     ·skip
      have hF15 := cf' hF11 hb5
      refine cq (cq (cr ?_))
      refine sQ 17 (ym (vi row)) <| sQ 18 (ym (vi col)) <| sQ 19 (Y_bxor (k := .i64) (a := row) (b := col) rfl rfl rfl) <| sQ 20 (ym (vi n)) <| sQ 21 (yM n 1) <| sQ 22 (yd (aD b) 0 0 K46 K2) ?_
      refine sQ 23 (yl (aD b) 1 [vi g.Kind, vi g.A, vi g.B] (vi g.A) K0 (hS7.c 0)) <| sQ 24 (yM (i64.wrap (n - 1)) g.A) <| sQ 25 (Y_conv (k := .i64) (a := (i64.wrap ((i64.wrap (n - 1)) - g.A))) (T := 3) (T' := 87) K81 K82 rfl rfl) ?_
      obtain ⟨hsh3, hF15⟩ := chk_inv hF15
      refine sQ 26 (Y_shl (k := .i64) (a := 1) (k' := .u64) (b := (IntKind.u64.wrap (i64.wrap ((i64.wrap (n - 1)) - g.A)))) rfl rfl rfl hsh3) <| sQ 27 (Y_bandNot (k := .i64) (a := (bits .xor .i64 row col)) (b := (shlK .i64 1 (IntKind.u64.wrap (i64.wrap ((i64.wrap (n - 1)) - g.A))))) rfl rfl rfl) <| sQ 28 (Y_ne (k := .i64) (a := (bits .andNot .i64 (bits .xor .i64 row col) (shlK .i64 1 (IntKind.u64.wrap (i64.wrap ((i64.wrap (n - 1)) - g.A)))))) (b := 0) rfl rfl rfl) (rn ?_)
      refine cw_cond (b := ((bits .andNot .i64 (bits .xor .i64 row col) (shlK .i64 1 (IntKind.u64.wrap (i64.wrap ((i64.wrap (n - 1)) - g.A))))) != 0)) rfl (fun hb7 => ?_) (fun hb7 => ?_)
      ·skip
       have hF16 := ct hF15 hb7
       refine cq (cr ?_)
       refine sQ 29 (yb (aD b3) 0 kZ_ K4 K1 (hS7.c 3)) ?_
       refine s0 (yT 1 5 (aD b1) 48 gZ_ kZ_ 0 hS7 K1) ?_
       rintro _ w_16 ⟨rfl, hS21⟩
       refine rn (ct_ ?_)
       obtain rfl := sI hF16
       obtain rfl := sI hF1
       exact ret1 Tryz.results102 (v1 := gZ_) (resAt_cellA (B := aD b1) (i := 0) (cs := kZ_) (vs := kZ_) rfl K4 K1 (hS21.c 1) rfl rfl) ⟨rfl, (hS21.sN [])⟩
      ·skip
       have hF17 := cf' hF15 hb7
       refine cw_skip (cq ?_)
       obtain ⟨r_9, hc8, hF17⟩ := bI hF17
       obtain ⟨r_10, hc9, hF17⟩ := bI hF17
       obtain ⟨r_11, hc10, hF17⟩ := bI hF17
       obtain ⟨x, hx, hF17⟩ := bI hF17
       refine ra_start (hS7.se [0, 2, 3]).fn (by kernel_rfl) ?_
       have hS25 := hS7.drew
       refine rq 0 30 (v := pt (aD b) 0) rfl (hS25.se [0, 2, 3]) (fun w' hw' => (yd (aD b) 0 0 K57 K2)) ?_
       refine rq 1 31 (v := vi g.Kind) rfl (hS25.se [0, 2, 3]) (fun w' hw' => (yl (aD b) 0 [vi g.Kind, vi g.A, vi g.B] (vi g.Kind) K0 (ST.cf hw' (i := 0) rfl))) ?_
       refine rq 3 33 (v := vi n) rfl (hS25.se [0, 2, 3]) (fun w' hw' => (ym (vi n))) ?_
       refine rq 4 34 (v := vi row) rfl (hS25.se [0, 2, 3]) (fun w' hw' => (ym (vi row))) ?_
       refine rq 5 35 (v := pt (aD b) 1) rfl (hS25.se [0, 2, 3]) (fun w' hw' => (yd (aD b) 0 0 K46 K2)) ?_
       refine rq 6 36 (v := vi g.A) rfl (hS25.se [0, 2, 3]) (fun w' hw' => (yl (aD b) 1 [vi g.Kind, vi g.A, vi g.B] (vi g.A) K0 (ST.cf hw' (i := 0) rfl))) ?_
       refine rq 9 39 (v := vi n) rfl (hS25.se [0, 2, 3]) (fun w' hw' => (ym (vi n))) ?_
       refine rq 10 40 (v := vi col) rfl (hS25.se [0, 2, 3]) (fun w' hw' => (ym (vi col))) ?_
       refine rq 11 41 (v := pt (aD b) 1) rfl (hS25.se [0, 2, 3]) (fun w' hw' => (yd (aD b) 0 0 K46 K2)) ?_
       refine rq 12 42 (v := vi g.A) rfl (hS25.se [0, 2, 3]) (fun w' hw' => (yl (aD b) 1 [vi g.Kind, vi g.A, vi g.B] (vi g.A) K0 (ST.cf hw' (i := 0) rfl))) ?_
       refine rA [2] ?_
       refine rC 32 2 rfl (yC [vi g.Kind] k_call_118 (c_spec_l6One g.Kind _  (hS25.inn0 [] rfl) hc8)) ?_ ?_
       ·rintro _ w_17 ⟨B1, c, rfl, hd7⟩
        have hS26 := hS25.out0 hd7
        refine ⟨(hS26.se [0, 2, 3]), ?_⟩
        refine rA [7] ?_
        refine rC 37 7 rfl (yC [vi n, vi row, vi g.A] K83 (c_spec_l6Bit n row g.A _  (hS26.inn0 [] rfl) hc9)) ?_ ?_
        ·rintro _ w_18 ⟨rfl, hd8⟩
         have hS27 := hS26.out00 hd8
         refine ⟨(hS27.se [0, 2, 3]), ?_⟩
         refine rq 8 38 (v := vi (i64.wrap (2 * r_10))) rfl (hS27.se [0, 2, 3]) (fun w' hw' => (yX 2 r_10)) ?_
         refine rA [13] ?_
         refine rC 43 13 rfl (yC [vi n, vi col, vi g.A] K83 (c_spec_l6Bit n col g.A _  (hS27.inn0 [] rfl) hc10)) ?_ ?_
         ·rintro _ w_19 ⟨rfl, hd9⟩
          have hS28 := hS27.out00 hd9
          refine ⟨(hS28.se [0, 2, 3]), ?_⟩
          refine rq 14 44 (v := vi (i64.wrap ((i64.wrap (2 * r_10)) + r_11))) rfl (hS28.se [0, 2, 3]) (fun w' hw' => (yP (i64.wrap (2 * r_10)) r_11)) ?_
          refine rA [15] ?_
          refine ra_y 45 (i := 15) (v := pt B1 ((i64.wrap ((i64.wrap (2 * r_10)) + r_11)).toNat * 5)) rfl rfl rfl (Y_index (B := B1) (m := r_9.length) (c := c) (k := .i64) (i := (i64.wrap ((i64.wrap (2 * r_10)) + r_11))) K9 K1 rfl rfl rfl (gi_isSome eN2 rfl (hS28.c 4) hx) (getI_nn hx) (getI_ltI hx rfl)) (hS28.se [0, 2, 3]) ?_ ?_
          ·skip
           refine rA [16] ?_
           refine ra_y 46 (i := 16) (v := gD_ x) rfl rfl rfl (ya B1 ((i64.wrap ((i64.wrap (2 * r_10)) + r_11)).toNat * 5) (r_9.flatMap eN0) (kD_ x) K4 K1 (hS28.c 4) rfl rfl (eN2 x) (gi_seg eN2 hx)) (hS28.se [0, 2, 3]) ?_ ?_
           ·skip
            refine rA [17] ?_
            refine rZ 17 rfl (yT 1 5 (aD b1) 48 (gD_ x) (kD_ x) 0 hS28 K1) ?_ ?_
            ·rintro _ w_20 ⟨rfl, hS29⟩
             refine ⟨(hS29.se [0, 2, 3]), ?_⟩
             refine ra_done (by kernel_rfl) ?_
             refine ct_ ?_
             obtain rfl := sI hF17
             obtain rfl := sI hF1
             exact ret1 Tryz.results102 (v1 := gD_ x) (resAt_cellA (B := aD b1) (i := 0) (cs := kD_ x) (vs := kD_ x) rfl K4 K1 (hS29.c 1) rfl rfl) ⟨rfl, (hS29.sN [])⟩
            exact aN
           exact aN
          exact aN
         exact aN
        exact aN
       exact aN
 rintro f w ⟨A, B, C, D, Exp, to_, rfl, hf, hS8⟩
 refine cq (cq (cr ?_))
 refine sQ 114 (ym (vi row) rfl (hf.g 2 0)) <| sQ 115 (ym (vi to_) rfl (hf.g 11 4)) <| sQ 116 (yE row to_) (rn ?_)
 refine cw_cond (b := (row == to_)) rfl (fun hb8 => ?_) (fun hb8 => ?_)
 ·skip
  have hF18 := ct hF1 hb8
  refine cq (cr ?_)
  refine sQ 117 (yb (aD b2) 0 [vi A, vi B, vi C, vi D, vi Exp] K4 K1 (hS8.c 1) rfl (hf.g 9 2)) ?_
  refine s0 (yT 0 5 (aD b1) 48 (.agg #[vi A, vi B, vi C, vi D, vi Exp]) [vi A, vi B, vi C, vi D, vi Exp] 0 hS8 K1 rfl (hf.g 8 1)) ?_
  rintro _ w_21 ⟨rfl, hS30⟩
  refine rn (ct_ ?_)
  obtain rfl := sI hF18
  exact ret1 Tryz.results102 (v1 := .agg #[vi A, vi B, vi C, vi D, vi Exp]) (resAt_cellA (B := aD b1) (i := 0) (cs := [vi A, vi B, vi C, vi D, vi Exp]) (vs := [vi A, vi B, vi C, vi D, vi Exp]) (hf.g 8 1) K4 K1 (hS30.c 0) rfl rfl) ⟨rfl, (hS30.sN [])⟩
 ·skip
  have hF19 := cf' hF1 hb8
  refine cw_skip (cq (cr ?_))
  refine sQ 118 (yb (aD b3) 0 kZ_ K4 K1 (hS8.c 2) rfl (hf.g 10 3)) ?_
  refine s0 (yT 0 5 (aD b1) 48 gZ_ kZ_ 0 hS8 K1 rfl (hf.g 8 1)) ?_
  rintro _ w_22 ⟨rfl, hS31⟩
  refine rn (ct_ ?_)
  obtain rfl := sI hF19
  exact ret1 Tryz.results102 (v1 := gZ_) (resAt_cellA (B := aD b1) (i := 0) (cs := kZ_) (vs := kZ_) (hf.g 8 1) K4 K1 (hS31.c 0) rfl rfl) ⟨rfl, (hS31.sN [])⟩

theorem c_spec_l6Gate (n : Int) (g : TGate)  (w0 : World)  (hS : ST w0 [] w0 [] []) {r_ : TMatrix} (hF : F_spec_l6Gate n g = some r_) :
  CV Tryz.prog 71 #[vi n, .agg #[vi g.Kind, vi g.A, vi g.B]] w0 (fun v w' => ∃ (B : Option Addr) (c : Nat), v = (gM_ r_ B c) ∧ ST w0 [] w' [⟨B, 48, (r_.Cells.flatMap eN0), c * 5⟩] []) := by
 unfold F_spec_l6Gate at hF
 refine cv_of_cw 36 Tryz.func71 rfl Tryz.ntmps71 rfl ?_
 refine cq (cr ?_)
 refine sS 3 (yB 64 (.agg #[vi g.Kind, vi g.A, vi g.B]) [vi g.Kind, vi g.A, vi g.B] 3 hS) ?_
 rintro _ w_ ⟨b, rfl, hS1⟩
 refine sS 4 (yN kN_ 3 hS1 K12) ?_
 rintro _ w_1 ⟨b1, rfl, hS2⟩
 refine rn (cq (cr ?_))
 refine sQ 9 (ym (vi n)) <| sQ 10 (Y_conv (k := .i64) (a := n) (T := 3) (T' := 87) K81 K82 rfl rfl) ?_
 obtain ⟨hsh, hF⟩ := chk_inv hF
 refine sQ 11 (Y_shl (k := .i64) (a := 1) (k' := .u64) (b := (IntKind.u64.wrap n)) rfl rfl rfl hsh) <| sQ 5 (yg (vi (shlK .i64 1 (IntKind.u64.wrap n)))) (rn (cq (cr ?_)))
 refine sQ 12 (ym (vi (shlK .i64 1 (IntKind.u64.wrap n)))) <| sQ 13 (ym (vi (shlK .i64 1 (IntKind.u64.wrap n)))) <| sQ 14 (Y_buildS (zs := kN_) (vs := [(0, vi (shlK .i64 1 (IntKind.u64.wrap n))), (1, vi (shlK .i64 1 (IntKind.u64.wrap n)))]) (cs := [vi (shlK .i64 1 (IntKind.u64.wrap n)), vi (shlK .i64 1 (IntKind.u64.wrap n)), .slice none 0 0]) K50 K12 rfl (mpc rfl (mpc rfl mpn)) rfl) ?_
 refine sS 6 (yN kN_ 3 hS2 K12) ?_
 rintro _ w_2 ⟨b2, rfl, hS3⟩
 refine s0 (yT 2 3 (aD b2) 26 (.agg #[vi (shlK .i64 1 (IntKind.u64.wrap n)), vi (shlK .i64 1 (IntKind.u64.wrap n)), .slice none 0 0]) [vi (shlK .i64 1 (IntKind.u64.wrap n)), vi (shlK .i64 1 (IntKind.u64.wrap n)), .slice none 0 0] 0 hS3 K3) ?_
 rintro _ w_3 ⟨rfl, hS4⟩
 refine rn (cq (cq (cr ?_)))
 refine sQ 7 (yg (vi 0)) (rn ?_)
 obtain ⟨hN, hF⟩ := chk_inv hF
 obtain ⟨z, hz, hF1⟩ := bI hF
 have hS6 := hS4.addNil 48
 refine cw_block ?_
 refine cw_loop (fun k f w => ∃ (i1 : Nat) (Cells : List TDyadic) (B1 : Option Addr) (c1 : Nat), FF f [(0, vi n), (3, pt (aD b) 0), (4, pt (aD b1) 0), (5, vi (shlK .i64 1 (IntKind.u64.wrap n))), (6, pt (aD b2) 0), (7, vi (i1 : Int))] ∧ ST w0 [] w [⟨aD b, 64, [vi g.Kind, vi g.A, vi g.B], 3⟩, ⟨aD b1, 26, kN_, 3⟩, ⟨aD b2, 26, [vi (shlK .i64 1 (IntKind.u64.wrap n)), vi (shlK .i64 1 (IntKind.u64.wrap n)), .slice B1 Cells.length c1], 3⟩, ⟨B1, 48, (Cells.flatMap eN0), c1 * 5⟩] [] ∧ i1 + k = (shlK .i64 1 (IntKind.u64.wrap n)).toNat ∧ forN (F_spec_l6Gate_l1 n g) k i1 Cells = some z) ((shlK .i64 1 (IntKind.u64.wrap n)).toNat) ⟨0, [], none, 0, (fc rfl (fc rfl (fc rfl (fc rfl (fc rfl (fc rfl fn_)))))), (hS6.sel [0, 1, 2, 3] rfl rfl), Nat.zero_add _, hz⟩ ?_
 rintro k_ f w ⟨i1, Cells, B1, c1, hf, hS5, hik, hL⟩
 refine cq (cq (cr ?_))
 refine sQ 15 (ym (vi (i1 : Int)) rfl (hf.g 7 5)) <| sQ 16 (ym (vi (shlK .i64 1 (IntKind.u64.wrap n))) rfl (hf.g 5 3)) <| sQ 17 (yL (i1 : Int) (shlK .i64 1 (IntKind.u64.wrap n))) (rn ?_)
 refine cw_cond (b := (decide ((i1 : Int) < (shlK .i64 1 (IntKind.u64.wrap n))))) rfl (fun hlt => ?_) (fun hlt => ?_)
 ·skip
  have hlt1 : i1 < (shlK .i64 1 (IntKind.u64.wrap n)).toNat := by have h := of_decide_eq_true hlt; omega
  obtain ⟨K7, rfl⟩ : ∃ k2, k_ = k2 + 1 := ⟨k_ - 1, by omega⟩
  obtain ⟨y, hb, hL1⟩ := forN_go hL
  unfold F_spec_l6Gate_l1 at hb
  refine cw_skip (cq (cw_block (cq (cr ?_))))
  refine sQ 8 (yg (vi 0)) (rn ?_)
  obtain ⟨hN1, hb⟩ := chk_inv hb
  obtain ⟨z1, hz1, hF2⟩ := bI hb
  refine cw_block ?_
  refine cw_loop (fun k f w => ∃ (j : Nat) (Cells1 : List TDyadic) (B2 : Option Addr) (c2 : Nat), FF f [(0, vi n), (3, pt (aD b) 0), (4, pt (aD b1) 0), (5, vi (shlK .i64 1 (IntKind.u64.wrap n))), (6, pt (aD b2) 0), (7, vi (i1 : Int)), (8, vi (j : Int))] ∧ ST w0 [] w [⟨aD b, 64, [vi g.Kind, vi g.A, vi g.B], 3⟩, ⟨aD b1, 26, kN_, 3⟩, ⟨aD b2, 26, [vi (shlK .i64 1 (IntKind.u64.wrap n)), vi (shlK .i64 1 (IntKind.u64.wrap n)), .slice B2 Cells1.length c2], 3⟩, ⟨B2, 48, (Cells1.flatMap eN0), c2 * 5⟩] [] ∧ j + k = (shlK .i64 1 (IntKind.u64.wrap n)).toNat ∧ forN (F_spec_l6Gate_l2 n g i1) k j Cells1 = some z1) ((shlK .i64 1 (IntKind.u64.wrap n)).toNat) ⟨0, Cells, B1, c1, (fc (hf.g 0 0) (fc (hf.g 3 1) (fc (hf.g 4 2) (fc (hf.g 5 3) (fc (hf.g 6 4) (fc (hf.g 7 5) (fc rfl fn_))))))), (hS5.sel [0, 1, 2, 3] rfl rfl), Nat.zero_add _, hz1⟩ ?_
  rintro K15 f w ⟨j, Cells1, B2, c2, hf1, hS7, hik1, hL2⟩
  refine cq (cq (cr ?_))
  refine sQ 20 (ym (vi (j : Int)) rfl (hf1.g 8 6)) <| sQ 21 (ym (vi (shlK .i64 1 (IntKind.u64.wrap n))) rfl (hf1.g 5 3)) <| sQ 22 (yL (j : Int) (shlK .i64 1 (IntKind.u64.wrap n))) (rn ?_)
  refine cw_cond (b := (decide ((j : Int) < (shlK .i64 1 (IntKind.u64.wrap n))))) rfl (fun hlt2 => ?_) (fun hlt2 => ?_)
  ·skip
   have hlt3 : j < (shlK .i64 1 (IntKind.u64.wrap n)).toNat := by have h := of_decide_eq_true hlt2; omega
   obtain ⟨K28, rfl⟩ : ∃ k2, K15 = k2 + 1 := ⟨K15 - 1, by omega⟩
   obtain ⟨y1, hb1, hL3⟩ := forN_go hL2
   unfold F_spec_l6Gate_l2 at hb1
   refine cw_skip (cq (cw_block ?_))
   obtain ⟨r_1, hc, hb1⟩ := bI hb1
   obtain ⟨hap, hb1⟩ := chk_inv hb1
   refine cw_mid (fun f w => ∃ (B4 : Option Addr) (c4 : Nat), FF f [(0, vi n), (3, pt (aD b) 0), (4, pt (aD b1) 0), (5, vi (shlK .i64 1 (IntKind.u64.wrap n))), (6, pt (aD b2) 0), (7, vi (i1 : Int)), (8, vi (j : Int))] ∧ ST w0 [] w [⟨aD b, 64, [vi g.Kind, vi g.A, vi g.B], 3⟩, ⟨aD b1, 26, kN_, 3⟩, ⟨aD b2, 26, [vi (shlK .i64 1 (IntKind.u64.wrap n)), vi (shlK .i64 1 (IntKind.u64.wrap n)), .slice B4 ((Cells1 ++ [r_1]).length) c4], 3⟩, ⟨B4, 48, ((Cells1 ++ [r_1]).flatMap eN0), c4 * 5⟩] []) ?_ ?_
   ·skip
    refine ra_start (hS7.se [0, 1]).fn (by kernel_rfl) ?_
    have hS10 := hS7.drew
    refine rq 0 25 (v := pt (aD b2) 2) rfl (hS10.se [0, 1]) (fun w' hw' => (yd (aD b2) 0 0 K29 K11 rfl (hf1.g 6 4))) ?_
    refine rq 2 27 (v := vi n) rfl (hS10.se [0, 1]) (fun w' hw' => (ym (vi n) rfl (hf1.g 0 0))) ?_
    refine rq 3 28 (v := .agg #[vi g.Kind, vi g.A, vi g.B]) rfl (hS10.se [0, 1]) (fun w' hw' => (yb (aD b) 0 [vi g.Kind, vi g.A, vi g.B] K65 K17 (ST.cf hw' (i := 0) rfl) rfl (hf1.g 3 1))) ?_
    refine rq 4 29 (v := vi (i1 : Int)) rfl (hS10.se [0, 1]) (fun w' hw' => (ym (vi (i1 : Int)) rfl (hf1.g 7 5))) ?_
    refine rq 5 30 (v := vi (j : Int)) rfl (hS10.se [0, 1]) (fun w' hw' => (ym (vi (j : Int)) rfl (hf1.g 8 6))) ?_
    refine rA [1, 6] ?_
    refine ra_y 26 (i := 1) (v := .slice B2 Cells1.length c2) rfl rfl rfl (yl (aD b2) 2 [vi (shlK .i64 1 (IntKind.u64.wrap n)), vi (shlK .i64 1 (IntKind.u64.wrap n)), .slice B2 Cells1.length c2] (.slice B2 Cells1.length c2) K16 (hS10.c 2)) (hS10.se [0, 1]) ?_ ?_
    ·skip
     refine rA [6] ?_
     refine rC 31 6 rfl (yC [vi n, .agg #[vi g.Kind, vi g.A, vi g.B], vi (i1 : Int), vi (j : Int)] k_call_102 (c_spec_l6Cell n g (i1 : Int) (j : Int) _  (hS10.inn0 [] rfl) hc)) ?_ ?_
     ·rintro _ w_4 ⟨rfl, hd⟩
      have hS11 := hS10.out00 hd
      refine ⟨(hS11.se [0, 1]), ?_⟩
      refine rA [7] ?_
      refine rS 32 7 rfl (Ys_bslice (s := 5) (len := 1) (vs := [(0, gD_ r_1)]) (cs := kD_ r_1) (zs := kZ_) (m := 5) hS11 K9 K1 K38 rfl (mpc rfl mpn) rfl rfl rfl (by kernel_rfl) (by kernel_rfl) rfl) ?_ ?_
      ·rintro _ w_5 ⟨b3, rfl, hS12⟩
       refine ⟨(hS12.se [0, 1]), ?_⟩
       refine rA [8] ?_
       refine rS 33 8 rfl (Ys_append (s := 5) (by' := 40) (i := 3) (nn := Cells1.length) (c := c2) (k := 1) (len := (Cells1 ++ [r_1]).length) (B := B2) (xs := ([r_1].flatMap eN0)) (cs' := ((Cells1 ++ [r_1]).flatMap eN0)) hS12 K9 K1 K47 K6 rfl (by decide) rfl rfl rfl rfl (fm_lenn (l := Cells1) eN2 rfl) rfl (hS12.c 4) (fm_lenn (l := [r_1]) eN2 rfl) (fm_one' (enc := eN0) enc_Dyadic_one [r_1]) (by have := hap; omega) (by have := hap; simp only [maxLen]; omega) (fm_app _ _) (app_len (l := Cells1) (l' := [r_1]) rfl rfl)) ?_ ?_
       ·rintro _ w_6 ⟨B3, c3, rfl, hS13⟩
        refine ⟨(hS13.se [0, 1]), ?_⟩
        refine rq 9 34 (v := pt (aD b2) 2) rfl (hS13.se [0, 1]) (fun w' hw' => (yd (aD b2) 0 0 K29 K11 rfl (hf1.g 6 4))) ?_
        refine rA [10] ?_
        refine rZ 10 rfl (yS 2 1 (aD b2) 26 (.slice B3 ((Cells1 ++ [r_1]).length) c3) [.slice B3 ((Cells1 ++ [r_1]).length) c3] 2 [vi (shlK .i64 1 (IntKind.u64.wrap n)), vi (shlK .i64 1 (IntKind.u64.wrap n)), .slice B3 ((Cells1 ++ [r_1]).length) c3] hS13 K11) ?_ ?_
        ·rintro _ w_7 ⟨rfl, hS14⟩
         refine ⟨(hS14.se [0, 1]), ?_⟩
         refine ra_done (by kernel_rfl) ?_
         exact ⟨B3, c3, (fc (hf1.g 0 0) (fc (hf1.g 3 1) (fc (hf1.g 4 2) (fc (hf1.g 5 3) (fc (hf1.g 6 4) (fc (hf1.g 7 5) (fc (hf1.g 8 6) fn_))))))), (hS14.sel [0, 1, 2, 3] rfl rfl)⟩
        exact aN
       exact aN
      exact aN
     exact aN
    refine rC 31 6 rfl (yC [vi n, .agg #[vi g.Kind, vi g.A, vi g.B], vi (i1 : Int), vi (j : Int)] k_call_102 (c_spec_l6Cell n g (i1 : Int) (j : Int) _  (hS10.inn0 [] rfl) hc)) ?_ ?_
    ·rintro _ w_8 ⟨rfl, hd1⟩
     have hS15 := hS10.out00 hd1
     refine ⟨(hS15.se [0, 1]), ?_⟩
     refine rA [1, 7] ?_
     refine ra_y 26 (i := 1) (v := .slice B2 Cells1.length c2) rfl rfl rfl (yl (aD b2) 2 [vi (shlK .i64 1 (IntKind.u64.wrap n)), vi (shlK .i64 1 (IntKind.u64.wrap n)), .slice B2 Cells1.length c2] (.slice B2 Cells1.length c2) K16 (hS15.c 2)) (hS15.se [0, 1]) ?_ ?_
     ·skip
      refine rA [7] ?_
      refine rS 32 7 rfl (Ys_bslice (s := 5) (len := 1) (vs := [(0, gD_ r_1)]) (cs := kD_ r_1) (zs := kZ_) (m := 5) hS15 K9 K1 K38 rfl (mpc rfl mpn) rfl rfl rfl (by kernel_rfl) (by kernel_rfl) rfl) ?_ ?_
      ·rintro _ w_9 ⟨b3, rfl, hS16⟩
       refine ⟨(hS16.se [0, 1]), ?_⟩
       refine rA [8] ?_
       refine rS 33 8 rfl (Ys_append (s := 5) (by' := 40) (i := 3) (nn := Cells1.length) (c := c2) (k := 1) (len := (Cells1 ++ [r_1]).length) (B := B2) (xs := ([r_1].flatMap eN0)) (cs' := ((Cells1 ++ [r_1]).flatMap eN0)) hS16 K9 K1 K47 K6 rfl (by decide) rfl rfl rfl rfl (fm_lenn (l := Cells1) eN2 rfl) rfl (hS16.c 4) (fm_lenn (l := [r_1]) eN2 rfl) (fm_one' (enc := eN0) enc_Dyadic_one [r_1]) (by have := hap; omega) (by have := hap; simp only [maxLen]; omega) (fm_app _ _) (app_len (l := Cells1) (l' := [r_1]) rfl rfl)) ?_ ?_
       ·rintro _ w_10 ⟨B3, c3, rfl, hS17⟩
        refine ⟨(hS17.se [0, 1]), ?_⟩
        refine rq 9 34 (v := pt (aD b2) 2) rfl (hS17.se [0, 1]) (fun w' hw' => (yd (aD b2) 0 0 K29 K11 rfl (hf1.g 6 4))) ?_
        refine rA [10] ?_
        refine rZ 10 rfl (yS 2 1 (aD b2) 26 (.slice B3 ((Cells1 ++ [r_1]).length) c3) [.slice B3 ((Cells1 ++ [r_1]).length) c3] 2 [vi (shlK .i64 1 (IntKind.u64.wrap n)), vi (shlK .i64 1 (IntKind.u64.wrap n)), .slice B3 ((Cells1 ++ [r_1]).length) c3] hS17 K11) ?_ ?_
        ·rintro _ w_11 ⟨rfl, hS18⟩
         refine ⟨(hS18.se [0, 1]), ?_⟩
         refine ra_done (by kernel_rfl) ?_
         exact ⟨B3, c3, (fc (hf1.g 0 0) (fc (hf1.g 3 1) (fc (hf1.g 4 2) (fc (hf1.g 5 3) (fc (hf1.g 6 4) (fc (hf1.g 7 5) (fc (hf1.g 8 6) fn_))))))), (hS18.sel [0, 1, 2, 3] rfl rfl)⟩
        exact aN
       exact aN
      exact aN
     refine rS 32 7 rfl (Ys_bslice (s := 5) (len := 1) (vs := [(0, gD_ r_1)]) (cs := kD_ r_1) (zs := kZ_) (m := 5) hS15 K9 K1 K38 rfl (mpc rfl mpn) rfl rfl rfl (by kernel_rfl) (by kernel_rfl) rfl) ?_ ?_
     ·rintro _ w_12 ⟨b3, rfl, hS19⟩
      refine ⟨(hS19.se [0, 1]), ?_⟩
      refine rA [1] ?_
      refine ra_y 26 (i := 1) (v := .slice B2 Cells1.length c2) rfl rfl rfl (yl (aD b2) 2 [vi (shlK .i64 1 (IntKind.u64.wrap n)), vi (shlK .i64 1 (IntKind.u64.wrap n)), .slice B2 Cells1.length c2] (.slice B2 Cells1.length c2) K16 (hS19.c 2)) (hS19.se [0, 1]) ?_ ?_
      ·skip
       refine rA [8] ?_
       refine rS 33 8 rfl (Ys_append (s := 5) (by' := 40) (i := 3) (nn := Cells1.length) (c := c2) (k := 1) (len := (Cells1 ++ [r_1]).length) (B := B2) (xs := ([r_1].flatMap eN0)) (cs' := ((Cells1 ++ [r_1]).flatMap eN0)) hS19 K9 K1 K47 K6 rfl (by decide) rfl rfl rfl rfl (fm_lenn (l := Cells1) eN2 rfl) rfl (hS19.c 4) (fm_lenn (l := [r_1]) eN2 rfl) (fm_one' (enc := eN0) enc_Dyadic_one [r_1]) (by have := hap; omega) (by have := hap; simp only [maxLen]; omega) (fm_app _ _) (app_len (l := Cells1) (l' := [r_1]) rfl rfl)) ?_ ?_
       ·rintro _ w_13 ⟨B3, c3, rfl, hS20⟩
        refine ⟨(hS20.se [0, 1]), ?_⟩
        refine rq 9 34 (v := pt (aD b2) 2) rfl (hS20.se [0, 1]) (fun w' hw' => (yd (aD b2) 0 0 K29 K11 rfl (hf1.g 6 4))) ?_
        refine rA [10] ?_
        refine rZ 10 rfl (yS 2 1 (aD b2) 26 (.slice B3 ((Cells1 ++ [r_1]).length) c3) [.slice B3 ((Cells1 ++ [r_1]).length) c3] 2 [vi (shlK .i64 1 (IntKind.u64.wrap n)), vi (shlK .i64 1 (IntKind.u64.wrap n)), .slice B3 ((Cells1 ++ [r_1]).length) c3] hS20 K11) ?_ ?_
        ·rintro _ w_14 ⟨rfl, hS21⟩
         refine ⟨(hS21.se [0, 1]), ?_⟩
         refine ra_done (by kernel_rfl) ?_
         exact ⟨B3, c3, (fc (hf1.g 0 0) (fc (hf1.g 3 1) (fc (hf1.g 4 2) (fc (hf1.g 5 3) (fc (hf1.g 6 4) (fc (hf1.g 7 5) (fc (hf1.g 8 6) fn_))))))), (hS21.sel [0, 1, 2, 3] rfl rfl)⟩
        exact aN
       exact aN
      exact aN
     exact aN
    exact aN
   rintro f w ⟨B4, c4, hf2, hS9⟩
   refine cr ?_
   refine sQ 23 (ym (vi (j : Int)) rfl (hf2.g 8 6)) <| sQ 24 (yP (j : Int) 1) <| sQ 8 (yg (vi (i64.wrap ((j : Int) + 1)))) (rn ?_)
   obtain rfl := sI hb1
   exact ⟨K28, Nat.lt_succ_self _, j + 1, (Cells1 ++ [r_1]), B4, c4, (fc (hf2.g 0 0) (fc (hf2.g 3 1) (fc (hf2.g 4 2) (fc (hf2.g 5 3) (fc (hf2.g 6 4) (fc (hf2.g 7 5) (fc (congrArg (Value.int .i64) (wr_succ hlt3 hN1)) fn_))))))), (hS9.sel [0, 1, 2, 3] rfl rfl), (by omega), hL3⟩
  ·skip
   obtain rfl : K15 = 0 := by have h := of_decide_eq_false hlt2; omega
   refine cw_exit rfl ?_
   obtain rfl := sI hL2
   refine cr ?_
   refine sQ 18 (ym (vi (i1 : Int)) rfl (hf1.g 7 5)) <| sQ 19 (yP (i1 : Int) 1) <| sQ 7 (yg (vi (i64.wrap ((i1 : Int) + 1)))) (rn ?_)
   obtain rfl := sI hF2
   exact ⟨K7, Nat.lt_succ_self _, i1 + 1, Cells1, B2, c2, (fc (hf1.g 0 0) (fc (hf1.g 3 1) (fc (hf1.g 4 2) (fc (hf1.g 5 3) (fc (hf1.g 6 4) (fc (congrArg (Value.int .i64) (wr_succ hlt1 hN)) fn_)))))), (hS7.sel [0, 1, 2, 3] rfl rfl), (by omega), hL1⟩
 ·skip
  obtain rfl : k_ = 0 := by have h := of_decide_eq_false hlt; omega
  refine cw_exit rfl ?_
  obtain rfl := sI hL
  refine cq (cr ?_)
  refine sQ 35 (yb (aD b2) 0 [vi (shlK .i64 1 (IntKind.u64.wrap n)), vi (shlK .i64 1 (IntKind.u64.wrap n)), .slice B1 Cells.length c1] K8 K3 (hS5.c 2) rfl (hf.g 6 4)) ?_
  refine s0 (yT 1 3 (aD b1) 26 (.agg #[vi (shlK .i64 1 (IntKind.u64.wrap n)), vi (shlK .i64 1 (IntKind.u64.wrap n)), .slice B1 Cells.length c1]) [vi (shlK .i64 1 (IntKind.u64.wrap n)), vi (shlK .i64 1 (IntKind.u64.wrap n)), .slice B1 Cells.length c1] 0 hS5 K3 rfl (hf.g 4 2)) ?_
  rintro _ w_15 ⟨rfl, hS22⟩
  refine rn (ct_ ?_)
  obtain rfl := sI hF1
  exact ret1 Tryz.results71 (v1 := .agg #[vi (shlK .i64 1 (IntKind.u64.wrap n)), vi (shlK .i64 1 (IntKind.u64.wrap n)), .slice B1 Cells.length c1]) (resAt_cellA (B := aD b1) (i := 0) (cs := [vi (shlK .i64 1 (IntKind.u64.wrap n)), vi (shlK .i64 1 (IntKind.u64.wrap n)), .slice B1 Cells.length c1]) (vs := [vi (shlK .i64 1 (IntKind.u64.wrap n)), vi (shlK .i64 1 (IntKind.u64.wrap n)), .slice B1 Cells.length c1]) (hf.g 4 2) K8 K3 (hS22.c 1) rfl rfl) ⟨B1, c1, rfl, (hS22.sN [3])⟩

theorem c_spec_l2C_run (c : Tl2C) (x : TCircuit) (m : TMatrix) (B : Option Addr) (B1 : Option Addr) (c1 n : Nat) (B2 : Option Addr) (c2 n1 : Nat) (w0 : World) (hn : x.Gates.length = n) (hn1 : m.Cells.length = n1) (hS : ST w0 (bl [⟨B, 84, [.bool c.bad], 1⟩, ⟨B2, 48, (m.Cells.flatMap eN0), c2 * 5⟩]) w0 [⟨B, 84, [.bool c.bad], 1⟩, ⟨B2, 48, (m.Cells.flatMap eN0), c2 * 5⟩] [⟨B1, (x.Gates.flatMap eN4)⟩]) {r_ : TMatrix} {m1 : Tl2C} (hF : F_spec_l2C_run c x m = some (r_, m1)) :
  CV Tryz.prog 41 #[pt B 0, .agg #[vi x.Qubits, .slice B1 n c1], .agg #[vi m.Rows, vi m.Cols, .slice B2 n1 c2]] w0 (fun v w' => ∃ (B3 : Option Addr) (c3 : Nat), v = (gM_ r_ B3 c3) ∧ ST w0 (bl [⟨B, 84, [.bool c.bad], 1⟩, ⟨B2, 48, (m.Cells.flatMap eN0), c2 * 5⟩]) w' [⟨B, 84, [.bool m1.bad], 1⟩, ⟨B3, 48, (r_.Cells.flatMap eN0), c3 * 5⟩] []) := by
 subst hn
 subst hn1
 unfold F_spec_l2C_run at hF
 refine cv_of_cw 30 Tryz.func41 rfl Tryz.ntmps41 rfl ?_
 refine cq (cr ?_)
 refine sS 4 (yB 37 (.agg #[vi x.Qubits, .slice B1 x.Gates.length c1]) [vi x.Qubits, .slice B1 x.Gates.length c1] 2 hS) ?_
 rintro _ w_ ⟨b, rfl, hS1⟩
 refine sS 5 (yB 26 (gM_ m B2 c2) (kM_ m B2 c2) 3 hS1) ?_
 rintro _ w_1 ⟨b1, rfl, hS2⟩
 refine sS 6 (yN kN_ 3 hS2 K12) ?_
 rintro _ w_2 ⟨b2, rfl, hS3⟩
 refine rn (cq (cq (cr ?_)))
 refine sQ 9 (yd (aD b) 0 0 K53 K37) <| sQ 10 (yl (aD b) 1 [vi x.Qubits, .slice B1 x.Gates.length c1] (.slice B1 x.Gates.length c1) K60 (hS3.c 2)) <| sQ 11 (Y_len (B := B1) (m := x.Gates.length) (c := c1) K25 rfl rfl) <| sQ 12 (ym (vi 0)) (rn ?_)
 obtain ⟨hN, hF⟩ := chk_inv hF
 obtain ⟨z, hz, hF1⟩ := bI hF
 refine cw_block ?_
 refine cw_loop (fun k f w => ∃ (i : Nat) (bad : Bool) (Rows : Int) (Cols : Int) (Cells : List TDyadic) (B4 : Option Addr) (c4 : Nat), FF f [(0, pt B 0), (4, pt (aD b) 0), (5, pt (aD b1) 0), (6, pt (aD b2) 0), (10, .slice B1 x.Gates.length c1), (11, vi (x.Gates.length : Int)), (12, vi (i : Int))] ∧ ST w0 (bl [⟨B, 84, [.bool c.bad], 1⟩, ⟨B2, 48, (m.Cells.flatMap eN0), c2 * 5⟩]) w [⟨B, 84, [.bool bad], 1⟩, ⟨aD b, 37, [vi x.Qubits, .slice B1 x.Gates.length c1], 2⟩, ⟨aD b1, 26, [vi Rows, vi Cols, .slice B4 Cells.length c4], 3⟩, ⟨B4, 48, (Cells.flatMap eN0), c4 * 5⟩, ⟨aD b2, 26, kN_, 3⟩] [⟨B1, (x.Gates.flatMap eN4)⟩] ∧ i + k = x.Gates.length ∧ forN (F_spec_l2C_run_l1 x) k i (bad, Rows, Cols, Cells) = some z) x.Gates.length ⟨0, c.bad, m.Rows, m.Cols, m.Cells, B2, c2, (fc rfl (fc rfl (fc rfl (fc rfl (fc rfl (fc rfl (fc rfl fn_))))))), (hS3.sel [0, 2, 3, 1, 4] rfl rfl), Nat.zero_add _, hz⟩ ?_
 rintro k_ f w ⟨i, bad, Rows, Cols, Cells, B4, c4, hf, hS4, hik, hL⟩
 refine cq (cr ?_)
 refine sQ 13 (yL (i : Int) (x.Gates.length : Int) rfl (hf.g 12 6) (hf.g 11 5)) (rn (cq ?_))
 refine cw_cond (b := (decide ((i : Int) < (x.Gates.length : Int)))) rfl (fun hlt => ?_) (fun hlt => ?_)
 ·skip
  have hlt1 : i < x.Gates.length := by have h := of_decide_eq_true hlt; omega
  obtain ⟨K7, rfl⟩ : ∃ k2, k_ = k2 + 1 := ⟨k_ - 1, by omega⟩
  obtain ⟨y, hb, hL1⟩ := forN_go hL
  unfold F_spec_l2C_run_l1 at hb
  refine cw_skip (cq ?_)
  obtain ⟨z1, hz1, hF2⟩ := bI hb
  refine cw_mid (fun f w => ∃ (bad1 : Bool) (Rows1 : Int) (Cols1 : Int) (Cells1 : List TDyadic) (B5 : Option Addr) (c5 : Nat), (bad1, Rows1, Cols1, Cells1) = z1 ∧ FF f [(0, pt B 0), (4, pt (aD b) 0), (5, pt (aD b1) 0), (6, pt (aD b2) 0), (10, .slice B1 x.Gates.length c1), (11, vi (x.Gates.length : Int)), (12, vi (i : Int))] ∧ ST w0 (bl [⟨B, 84, [.bool c.bad], 1⟩, ⟨B2, 48, (m.Cells.flatMap eN0), c2 * 5⟩]) w [⟨B, 84, [.bool bad1], 1⟩, ⟨aD b, 37, [vi x.Qubits, .slice B1 x.Gates.length c1], 2⟩, ⟨aD b1, 26, [vi Rows1, vi Cols1, .slice B5 Cells1.length c5], 3⟩, ⟨B5, 48, (Cells1.flatMap eN0), c5 * 5⟩, ⟨aD b2, 26, kN_, 3⟩] [⟨B1, (x.Gates.flatMap eN4)⟩]) ?_ ?_
  ·skip
   refine cw_block (cq (cr ?_))
   obtain ⟨x1, hx, hz1⟩ := bI hz1
   refine sQ 14 (Y_index (B := B1) (m := x.Gates.length) (c := c1) (k := .i64) (i := (i : Int)) K25 K17 rfl (hf.g 10 4) (hf.g 12 6) (gi_isSome enc_Gate_len rfl (hS4.rf (i := 0) rfl) hx) (getI_nn hx) (getI_ltI hx rfl)) <| sQ 15 (ya B1 ((i : Int).toNat * 3) (x.Gates.flatMap eN4) [vi x1.Kind, vi x1.A, vi x1.B] K65 K17 (hS4.rf (i := 0) rfl) rfl rfl (enc_Gate_len x1) (gi_seg enc_Gate_len hx)) ?_
   refine sS 8 (yN [vi 0, vi 0, vi 0] 3 hS4 K27) ?_
   rintro _ w_3 ⟨b3, rfl, hS6⟩
   refine s0 (yT 5 3 (aD b3) 64 (.agg #[vi x1.Kind, vi x1.A, vi x1.B]) [vi x1.Kind, vi x1.A, vi x1.B] 0 hS6 K17) ?_
   rintro _ w_4 ⟨rfl, hS7⟩
   refine rn (cq (cr ?_))
   refine sQ 16 (ym (pt B 0) rfl (hf.g 0 0)) <| sQ 17 (Y_nilCheck (B := B) (i := 0) rfl rfl) <| sQ 18 (yd B 0 0 K107 K79) <| sQ 19 (yl B 0 [.bool bad] (.bool bad) K126 (hS7.c 0)) <| sQ 20 (Y_not (p := bad) rfl rfl) (rn ?_)
   refine cw_cond (b := (!bad)) rfl (fun hb1 => ?_) (fun hb1 => ?_)
   ·skip
    have hF3 := ct hz1 hb1
    obtain ⟨r_1, hc, hF3⟩ := bI hF3
    obtain ⟨⟨r_2, m2⟩, hc1, hF3⟩ := bI hF3
    refine cw_mid (fun f w => ∃ (B8 : Option Addr) (c8 : Nat), FF f [(0, pt B 0), (4, pt (aD b) 0), (5, pt (aD b1) 0), (6, pt (aD b2) 0), (10, .slice B1 x.Gates.length c1), (11, vi (x.Gates.length : Int)), (12, vi (i : Int))] ∧ ST w0 (bl [⟨B, 84, [.bool c.bad], 1⟩, ⟨B2, 48, (m.Cells.flatMap eN0), c2 * 5⟩]) w [⟨B, 84, [.bool m2.bad], 1⟩, ⟨aD b, 37, [vi x.Qubits, .slice B1 x.Gates.length c1], 2⟩, ⟨aD b1, 26, kM_ r_2 B8 c8, 3⟩, ⟨B8, 48, (r_2.Cells.flatMap eN0), c8 * 5⟩, ⟨aD b2, 26, kN_, 3⟩] [⟨B1, (x.Gates.flatMap eN4)⟩]) ?_ ?_
    ·skip
     refine ra_start (hS7.se [1, 3, 4, 5]).fn (by kernel_rfl) ?_
     have hS11 := hS7.drew
     refine rq 0 21 (v := pt B 0) rfl (hS11.se [1, 3, 4, 5]) (fun w' hw' => (ym (pt B 0) rfl (hf.g 0 0))) ?_
     refine rq 1 22 (v := pt (aD b) 0) rfl (hS11.se [1, 3, 4, 5]) (fun w' hw' => (yd (aD b) 0 0 K86 K2 rfl (hf.g 4 1))) ?_
     refine rq 2 23 (v := vi x.Qubits) rfl (hS11.se [1, 3, 4, 5]) (fun w' hw' => (yl (aD b) 0 [vi x.Qubits, .slice B1 x.Gates.length c1] (vi x.Qubits) K0 (ST.cf hw' (i := 0) rfl))) ?_
     refine rq 3 24 (v := .agg #[vi x1.Kind, vi x1.A, vi x1.B]) rfl (hS11.se [1, 3, 4, 5]) (fun w' hw' => (yb (aD b3) 0 [vi x1.Kind, vi x1.A, vi x1.B] K65 K17 (ST.cf hw' (i := 3) rfl))) ?_
     refine rA [4, 5] ?_
     refine rC 25 4 rfl (yC [vi x.Qubits, .agg #[vi x1.Kind, vi x1.A, vi x1.B]] k_call_71 (c_spec_l6Gate x.Qubits x1 _  (hS11.inn0 [] rfl) hc)) ?_ ?_
     ·rintro _ w_5 ⟨B6, c6, rfl, hd⟩
      have hS12 := hS11.out0 hd
      refine ⟨(hS12.se [1, 3, 4, 5]), ?_⟩
      refine rA [5] ?_
      refine ra_y 26 (i := 5) (v := .agg #[vi Rows, vi Cols, .slice B4 Cells.length c4]) rfl rfl rfl (yb (aD b1) 0 [vi Rows, vi Cols, .slice B4 Cells.length c4] K8 K3 (hS12.c 2) rfl (hf.g 5 2)) (hS12.se [1, 3, 4, 5]) ?_ ?_
      ·skip
       refine rA [6] ?_
       refine rC 27 6 rfl (yC [pt B 0, gM_ r_1 B6 c6, .agg #[vi Rows, vi Cols, .slice B4 Cells.length c4]] K49 (c_spec_l2C_times (Tl2C.mk bad) r_1 (TMatrix.mk Rows Cols Cells) B B6 c6 r_1.Cells.length B4 c4 Cells.length _ rfl rfl (hS12.inn [true, false, false, false, false, false, false] rfl [(false, 5), (false, 2)] rfl) hc1)) ?_ ?_
       ·rintro _ w_6 ⟨B7, c7, rfl, hd1⟩
        have hS13 := hS12.out [true, false, false, false, false, false, false] rfl hd1
        refine ⟨(hS13.se [0, 2, 3, 4]), ?_⟩
        refine rA [7] ?_
        refine rZ 7 rfl (yT 1 3 (aD b1) 26 (gM_ r_2 B7 c7) (kM_ r_2 B7 c7) 0 hS13 K3 rfl (hf.g 5 2)) ?_ ?_
        ·rintro _ w_7 ⟨rfl, hS14⟩
         refine ⟨(hS14.se [0, 2, 3, 4]), ?_⟩
         refine ra_done (by kernel_rfl) ?_
         exact ⟨B7, c7, (fc (hf.g 0 0) (fc (hf.g 4 1) (fc (hf.g 5 2) (fc (hf.g 6 3) (fc (hf.g 10 4) (fc (hf.g 11 5) (fc (hf.g 12 6) fn_))))))), (hS14.sel [6, 0, 1, 7, 3] rfl rfl)⟩
        exact aN
       exact aN
      exact aN
     refine ra_y 26 (i := 5) (v := .agg #[vi Rows, vi Cols, .slice B4 Cells.length c4]) rfl rfl rfl (yb (aD b1) 0 [vi Rows, vi Cols, .slice B4 Cells.length c4] K8 K3 (hS11.c 2) rfl (hf.g 5 2)) (hS11.se [1, 3, 4, 5]) ?_ ?_
     ·skip
      refine rA [4] ?_
      refine rC 25 4 rfl (yC [vi x.Qubits, .agg #[vi x1.Kind, vi x1.A, vi x1.B]] k_call_71 (c_spec_l6Gate x.Qubits x1 _  (hS11.inn0 [] rfl) hc)) ?_ ?_
      ·rintro _ w_8 ⟨B6, c6, rfl, hd2⟩
       have hS15 := hS11.out0 hd2
       refine ⟨(hS15.se [1, 3, 4, 5]), ?_⟩
       refine rA [6] ?_
       refine rC 27 6 rfl (yC [pt B 0, gM_ r_1 B6 c6, .agg #[vi Rows, vi Cols, .slice B4 Cells.length c4]] K49 (c_spec_l2C_times (Tl2C.mk bad) r_1 (TMatrix.mk Rows Cols Cells) B B6 c6 r_1.Cells.length B4 c4 Cells.length _ rfl rfl (hS15.inn [true, false, false, false, false, false, false] rfl [(false, 5), (false, 2)] rfl) hc1)) ?_ ?_
       ·rintro _ w_9 ⟨B7, c7, rfl, hd3⟩
        have hS16 := hS15.out [true, false, false, false, false, false, false] rfl hd3
        refine ⟨(hS16.se [0, 2, 3, 4]), ?_⟩
        refine rA [7] ?_
        refine rZ 7 rfl (yT 1 3 (aD b1) 26 (gM_ r_2 B7 c7) (kM_ r_2 B7 c7) 0 hS16 K3 rfl (hf.g 5 2)) ?_ ?_
        ·rintro _ w_10 ⟨rfl, hS17⟩
         refine ⟨(hS17.se [0, 2, 3, 4]), ?_⟩
         refine ra_done (by kernel_rfl) ?_
         exact ⟨B7, c7, (fc (hf.g 0 0) (fc (hf.g 4 1) (fc (hf.g 5 2) (fc (hf.g 6 3) (fc (hf.g 10 4) (fc (hf.g 11 5) (fc (hf.g 12 6) fn_))))))), (hS17.sel [6, 0, 1, 7, 3] rfl rfl)⟩
        exact aN
       exact aN
      exact aN
     exact aN
    rintro f w ⟨B8, c8, hf2, hS10⟩
    exact ⟨m2.bad, r_2.Rows, r_2.Cols, r_2.Cells, B8, c8, (sI hF3), (fc (hf2.g 0 0) (fc (hf2.g 4 1) (fc (hf2.g 5 2) (fc (hf2.g 6 3) (fc (hf2.g 10 4) (fc (hf2.g 11 5) (fc (hf2.g 12 6) fn_))))))), (hS10.sel [0, 1, 2, 3, 4] rfl rfl)⟩
   ·skip
    have hF4 := cf' hz1 hb1
    refine cw_skip ?_
    exact ⟨bad, Rows, Cols, Cells, B4, c4, (sI hF4), (fc (hf.g 0 0) (fc (hf.g 4 1) (fc (hf.g 5 2) (fc (hf.g 6 3) (fc (hf.g 10 4) (fc (hf.g 11 5) (fc (hf.g 12 6) fn_))))))), (hS7.sel [0, 1, 2, 3, 4] rfl rfl)⟩
  rintro f w ⟨bad1, Rows1, Cols1, Cells1, B5, c5, rfl, hf1, hS5⟩
  refine cr ?_
  refine sQ 28 (yP (i : Int) 1 rfl (hf1.g 12 6)) <| sQ 12 (ym (vi (i64.wrap ((i : Int) + 1)))) (rn ?_)
  obtain rfl := sI hF2
  exact ⟨K7, Nat.lt_succ_self _, i + 1, bad1, Rows1, Cols1, Cells1, B5, c5, (fc (hf1.g 0 0) (fc (hf1.g 4 1) (fc (hf1.g 5 2) (fc (hf1.g 6 3) (fc (hf1.g 10 4) (fc (hf1.g 11 5) (fc (congrArg (Value.int .i64) (wr_succ hlt1 hN)) fn_))))))), (hS5.sel [0, 1, 2, 3, 4] rfl rfl), (by omega), hL1⟩
 ·skip
  obtain rfl : k_ = 0 := by have h := of_decide_eq_false hlt; omega
  refine cw_exit rfl ?_
  obtain rfl := sI hL
  refine cq (cr ?_)
  refine sQ 29 (yb (aD b1) 0 [vi Rows, vi Cols, .slice B4 Cells.length c4] K8 K3 (hS4.c 2) rfl (hf.g 5 2)) ?_
  refine s0 (yT 4 3 (aD b2) 26 (.agg #[vi Rows, vi Cols, .slice B4 Cells.length c4]) [vi Rows, vi Cols, .slice B4 Cells.length c4] 0 hS4 K3 rfl (hf.g 6 3)) ?_
  rintro _ w_11 ⟨rfl, hS18⟩
  refine rn (ct_ ?_)
  obtain ⟨rfl, rfl⟩ := pr2 (sI hF1)
  exact ret1 Tryz.results41 (v1 := .agg #[vi Rows, vi Cols, .slice B4 Cells.length c4]) (resAt_cellA (B := aD b2) (i := 0) (cs := [vi Rows, vi Cols, .slice B4 Cells.length c4]) (vs := [vi Rows, vi Cols, .slice B4 Cells.length c4]) (hf.g 6 3) K8 K3 (hS18.c 4) rfl rfl) ⟨B4, c4, rfl, (hS18.sN [0, 3])⟩

theorem c_spec_l3Unit (n : Int)  (w0 : World)  (hS : ST w0 [] w0 [] []) {r_ : TMatrix} (hF : F_spec_l3Unit n = some r_) :
  CV Tryz.prog 42 #[vi n] w0 (fun v w' => ∃ (B : Option Addr) (c : Nat), v = (gM_ r_ B c) ∧ ST w0 [] w' [⟨B, 48, (r_.Cells.flatMap eN0), c * 5⟩] []) := by
 unfold F_spec_l3Unit at hF
 refine cv_of_cw 27 Tryz.func42 rfl Tryz.ntmps42 rfl ?_
 refine cq (cr ?_)
 refine sS 2 (yN kN_ 3 hS K12) ?_
 rintro _ w_ ⟨b, rfl, hS1⟩
 refine rn (cq (cr ?_))
 refine sQ 5 (ym (vi n)) <| sQ 6 (ym (vi n)) <| sQ 7 (ym (vi n)) <| sQ 8 (ym (vi n)) <| sQ 9 (yX n n) ?_
 obtain ⟨hmk, hF⟩ := chk_inv hF
 refine sS 10 (Ys_make (s := 5) (by' := 40) (nn := (i64.wrap (n * n)).toNat) (a := (i64.wrap (n * n))) (b := (i64.wrap (n * n))) (cs := ((List.replicate ((i64.wrap (n * n)).toNat) (TDyadic.mk (TRing.mk 0 0 0 0) 0)).flatMap eN0)) hS1 K9 K1 K47 K6 rfl rfl rfl rfl hmk.1 rfl (by have := hmk; omega) (by have := hmk; omega) (by omega) (fm_rep (enc := eN0) (d := (TDyadic.mk (TRing.mk 0 0 0 0) 0)) rfl _)) ?_
 rintro _ w_1 ⟨b1, rfl, hS2⟩
 refine sQ 11 (Y_buildS (zs := kN_) (vs := [(0, vi n), (1, vi n), (2, .slice (aD b1) ((i64.wrap (n * n)).toNat) ((i64.wrap (n * n)).toNat))]) (cs := [vi n, vi n, .slice (aD b1) ((i64.wrap (n * n)).toNat) ((i64.wrap (n * n)).toNat)]) K50 K12 rfl (mpc rfl (mpc rfl (mpc rfl mpn))) rfl) ?_
 refine sS 3 (yN kN_ 3 hS2 K12) ?_
 rintro _ w_2 ⟨b2, rfl, hS3⟩
 refine s0 (yT 2 3 (aD b2) 26 (.agg #[vi n, vi n, .slice (aD b1) ((i64.wrap (n * n)).toNat) ((i64.wrap (n * n)).toNat)]) [vi n, vi n, .slice (aD b1) ((i64.wrap (n * n)).toNat) ((i64.wrap (n * n)).toNat)] 0 hS3 K3) ?_
 rintro _ w_3 ⟨rfl, hS4⟩
 refine rn (cq (cq (cr ?_)))
 refine sQ 4 (yg (vi 0)) (rn ?_)
 obtain ⟨hN, hF⟩ := chk_inv hF
 obtain ⟨z, hz, hF1⟩ := bI hF
 refine cw_block ?_
 refine cw_loop (fun k f w => ∃ (i1 : Nat) (Cells : List TDyadic), FF f [(0, vi n), (2, pt (aD b) 0), (3, pt (aD b2) 0), (4, vi (i1 : Int))] ∧ Cells.length = (i64.wrap (n * n)).toNat ∧ ST w0 [] w [⟨aD b, 26, kN_, 3⟩, ⟨aD b2, 26, [vi n, vi n, .slice (aD b1) ((i64.wrap (n * n)).toNat) ((i64.wrap (n * n)).toNat)], 3⟩, ⟨aD b1, 48, (Cells.flatMap eN0), ((i64.wrap (n * n)).toNat) * 5⟩] [] ∧ i1 + k = n.toNat ∧ forN (F_spec_l3Unit_l1 n) k i1 Cells = some z) n.toNat ⟨0, (List.replicate ((i64.wrap (n * n)).toNat) (TDyadic.mk (TRing.mk 0 0 0 0) 0)), (fc rfl (fc rfl (fc rfl (fc rfl fn_)))), List.length_replicate, (hS4.sel [0, 2, 1] rfl rfl), Nat.zero_add _, hz⟩ ?_
 rintro k_ f w ⟨i1, Cells, hf, hl, hS5, hik, hL⟩
 refine cq (cq (cr ?_))
 refine sQ 12 (ym (vi (i1 : Int)) rfl (hf.g 4 3)) <| sQ 13 (ym (vi n) rfl (hf.g 0 0)) <| sQ 14 (yL (i1 : Int) n) (rn ?_)
 refine cw_cond (b := (decide ((i1 : Int) < n))) rfl (fun hlt => ?_) (fun hlt => ?_)
 ·skip
  have hlt1 : i1 < n.toNat := by have h := of_decide_eq_true hlt; omega
  obtain ⟨K7, rfl⟩ : ∃ k2, k_ = k2 + 1 := ⟨k_ - 1, by omega⟩
  obtain ⟨y, hb, hL1⟩ := forN_go hL
  unfold F_spec_l3Unit_l1 at hb
  refine cw_skip (cq (cw_block ?_))
  obtain ⟨r_1, hc, hb⟩ := bI hb
  obtain ⟨x, hx, hb⟩ := bI hb
  refine ra_start (hS5.se [0, 1]).fn (by kernel_rfl) ?_
  have hS7 := hS5.drew
  refine rq 0 17 (v := pt (aD b2) 2) rfl (hS7.se [0, 1]) (fun w' hw' => (yd (aD b2) 0 0 K29 K11 rfl (hf.g 3 2))) ?_
  refine rq 1 18 (v := .slice (aD b1) ((i64.wrap (n * n)).toNat) ((i64.wrap (n * n)).toNat)) rfl (hS7.se [0, 1]) (fun w' hw' => (yl (aD b2) 2 [vi n, vi n, .slice (aD b1) ((i64.wrap (n * n)).toNat) ((i64.wrap (n * n)).toNat)] (.slice (aD b1) ((i64.wrap (n * n)).toNat) ((i64.wrap (n * n)).toNat)) K16 (ST.cf hw' (i := 1) rfl))) ?_
  refine rq 2 19 (v := vi (i1 : Int)) rfl (hS7.se [0, 1]) (fun w' hw' => (ym (vi (i1 : Int)) rfl (hf.g 4 3))) ?_
  refine rq 3 20 (v := vi n) rfl (hS7.se [0, 1]) (fun w' hw' => (ym (vi n) rfl (hf.g 0 0))) ?_
  refine rq 4 21 (v := vi (i64.wrap ((i1 : Int) * n))) rfl (hS7.se [0, 1]) (fun w' hw' => (yX (i1 : Int) n)) ?_
  refine rq 5 22 (v := vi (i1 : Int)) rfl (hS7.se [0, 1]) (fun w' hw' => (ym (vi (i1 : Int)) rfl (hf.g 4 3))) ?_
  refine rq 6 23 (v := vi (i64.wrap ((i64.wrap ((i1 : Int) * n)) + (i1 : Int)))) rfl (hS7.se [0, 1]) (fun w' hw' => (yP (i64.wrap ((i1 : Int) * n)) (i1 : Int))) ?_
  refine rA [7] ?_
  refine rC 24 7 rfl (yC [vi 0] K72 (c_spec_l2Power 0 _  (hS7.inn0 [] rfl) hc)) ?_ ?_
  ·rintro _ w_4 ⟨rfl, hd⟩
   have hS8 := hS7.out00 hd
   refine ⟨(hS8.se [0, 1]), ?_⟩
   refine rA [8] ?_
   refine ra_y 25 (i := 8) (v := pt (aD b1) ((i64.wrap ((i64.wrap ((i1 : Int) * n)) + (i1 : Int))).toNat * 5)) rfl rfl rfl (Y_index (B := aD b1) (m := (i64.wrap (n * n)).toNat) (c := (i64.wrap (n * n)).toNat) (k := .i64) (i := (i64.wrap ((i64.wrap ((i1 : Int) * n)) + (i1 : Int)))) K9 K1 rfl rfl rfl (gi_isSome eN2 rfl (hS8.c 2) hx) (getI_nn hx) (getI_ltI hx hl)) (hS8.se [0, 1]) ?_ ?_
   ·skip
    refine rA [9] ?_
    refine rZ 9 rfl (yS 2 5 (aD b1) 48 (gD_ r_1) (kD_ r_1) ((i64.wrap ((i64.wrap ((i1 : Int) * n)) + (i1 : Int))).toNat * 5) ((Cells.set (i64.wrap ((i64.wrap ((i1 : Int) * n)) + (i1 : Int))).toNat r_1).flatMap eN0) hS8 K1 rfl rfl rfl rfl rfl rfl rfl (gi_fit0 eN2 hx) (gi_set eN2 hx r_1 rfl)) ?_ ?_
    ·rintro _ w_5 ⟨rfl, hS9⟩
     refine ⟨(hS9.se [0, 1]), ?_⟩
     refine ra_done (by kernel_rfl) ?_
     refine cr ?_
     refine sQ 15 (ym (vi (i1 : Int)) rfl (hf.g 4 3)) <| sQ 16 (yP (i1 : Int) 1) <| sQ 4 (yg (vi (i64.wrap ((i1 : Int) + 1)))) (rn ?_)
     obtain rfl := sI hb
     exact ⟨K7, Nat.lt_succ_self _, i1 + 1, (Cells.set (i64.wrap ((i64.wrap ((i1 : Int) * n)) + (i1 : Int))).toNat r_1), (fc (hf.g 0 0) (fc (hf.g 2 1) (fc (hf.g 3 2) (fc (congrArg (Value.int .i64) (wr_succ hlt1 hN)) fn_)))), (set_len _ _ _ hl), (hS9.sel [0, 1, 2] rfl rfl), (by omega), hL1⟩
    exact aN
   exact aN
  exact aN
 ·skip
  obtain rfl : k_ = 0 := by have h := of_decide_eq_false hlt; omega
  refine cw_exit rfl ?_
  obtain rfl := sI hL
  refine cq (cr ?_)
  refine sQ 26 (yb (aD b2) 0 [vi n, vi n, .slice (aD b1) ((i64.wrap (n * n)).toNat) ((i64.wrap (n * n)).toNat)] K8 K3 (hS5.c 1) rfl (hf.g 3 2)) ?_
  refine s0 (yT 0 3 (aD b) 26 (.agg #[vi n, vi n, .slice (aD b1) ((i64.wrap (n * n)).toNat) ((i64.wrap (n * n)).toNat)]) [vi n, vi n, .slice (aD b1) ((i64.wrap (n * n)).toNat) ((i64.wrap (n * n)).toNat)] 0 hS5 K3 rfl (hf.g 2 1)) ?_
  rintro _ w_6 ⟨rfl, hS10⟩
  refine rn (ct_ ?_)
  obtain rfl := sI hF1
  exact ret1 Tryz.results42 (v1 := .agg #[vi n, vi n, .slice (aD b1) ((i64.wrap (n * n)).toNat) ((i64.wrap (n * n)).toNat)]) (resAt_cellA (B := aD b) (i := 0) (cs := [vi n, vi n, .slice (aD b1) ((i64.wrap (n * n)).toNat) ((i64.wrap (n * n)).toNat)]) (vs := [vi n, vi n, .slice (aD b1) ((i64.wrap (n * n)).toNat) ((i64.wrap (n * n)).toNat)]) (hf.g 2 1) K8 K3 (hS10.c 0) rfl rfl) ⟨aD b1, (i64.wrap (n * n)).toNat, (by simp [hl]), (hS10.sN [2])⟩

theorem c_spec_l6Op (x : TCircuit) (B : Option Addr) (c n : Nat) (w0 : World) (hn : x.Gates.length = n) (hS : ST w0 [] w0 [] [⟨B, (x.Gates.flatMap eN4)⟩]) {r_ : TMatrix} (hF : F_spec_l6Op x = some r_) :
  CV Tryz.prog 17 #[.agg #[vi x.Qubits, .slice B n c]] w0 (fun v w' => ∃ (B1 : Option Addr) (c1 : Nat), v = (gM_ r_ B1 c1) ∧ ST w0 [] w' [⟨B1, 48, (r_.Cells.flatMap eN0), c1 * 5⟩] []) := by
 subst hn
 unfold F_spec_l6Op at hF
 refine cv_of_cw 14 Tryz.func17 rfl Tryz.ntmps17 rfl ?_
 refine cq (cr ?_)
 refine sS 1 (yB 37 (.agg #[vi x.Qubits, .slice B x.Gates.length c]) [vi x.Qubits, .slice B x.Gates.length c] 2 hS) ?_
 rintro _ w_ ⟨b, rfl, hS1⟩
 refine sS 2 (yN kN_ 3 hS1 K12) ?_
 rintro _ w_1 ⟨b1, rfl, hS2⟩
 refine rn (cq (cr ?_))
 refine sQ 4 (Y_buildS (zs := [.bool false]) (vs := []) (cs := [.bool false]) k_pl_84 k_zero_84 rfl mpn rfl) ?_
 refine sS 5 (yB 84 (.agg #[.bool false]) [.bool false] 1 hS2) ?_
 rintro _ w_2 ⟨b2, rfl, hS3⟩
 refine sQ 3 (yg (pt (aD b2) 0)) (rn (cq ?_))
 obtain ⟨hsh, hF⟩ := chk_inv hF
 obtain ⟨r_1, hc, hF⟩ := bI hF
 obtain ⟨⟨r_2, m⟩, hc1, hF⟩ := bI hF
 refine ra_start (hS3.se [0]).fn (by kernel_rfl) ?_
 have hS6 := hS3.drew
 refine rq 0 6 (v := pt (aD b2) 0) rfl (hS6.se [0]) (fun w' hw' => (ym (pt (aD b2) 0))) ?_
 refine rq 1 7 (v := .agg #[vi x.Qubits, .slice B x.Gates.length c]) rfl (hS6.se [0]) (fun w' hw' => (yb (aD b) 0 [vi x.Qubits, .slice B x.Gates.length c] K54 K32 (ST.cf hw' (i := 0) rfl))) ?_
 refine rq 2 8 (v := pt (aD b) 0) rfl (hS6.se [0]) (fun w' hw' => (yd (aD b) 0 0 K86 K2)) ?_
 refine rq 3 9 (v := vi x.Qubits) rfl (hS6.se [0]) (fun w' hw' => (yl (aD b) 0 [vi x.Qubits, .slice B x.Gates.length c] (vi x.Qubits) K0 (ST.cf hw' (i := 0) rfl))) ?_
 refine rq 4 10 (v := .int .u64 (IntKind.u64.wrap x.Qubits)) rfl (hS6.se [0]) (fun w' hw' => (Y_conv (k := .i64) (a := x.Qubits) (T := 3) (T' := 87) K81 K82 rfl rfl)) ?_
 refine rq 5 11 (v := vi (shlK .i64 1 (IntKind.u64.wrap x.Qubits))) rfl (hS6.se [0]) (fun w' hw' => (Y_shl (k := .i64) (a := 1) (k' := .u64) (b := (IntKind.u64.wrap x.Qubits)) rfl rfl rfl hsh)) ?_
 refine rA [6] ?_
 refine rC 12 6 rfl (yC [vi (shlK .i64 1 (IntKind.u64.wrap x.Qubits))] k_call_42 (c_spec_l3Unit (shlK .i64 1 (IntKind.u64.wrap x.Qubits)) _  (hS6.inn0 [] rfl) hc)) ?_ ?_
 ·rintro _ w_3 ⟨B2, c2, rfl, hd⟩
  have hS7 := hS6.out0 hd
  refine ⟨(hS7.se [0]), ?_⟩
  refine rA [7] ?_
  refine rC 13 7 rfl (yC [pt (aD b2) 0, .agg #[vi x.Qubits, .slice B x.Gates.length c], gM_ r_1 B2 c2] k_call_41 (c_spec_l2C_run (Tl2C.mk false) x r_1 (aD b2) B c x.Gates.length B2 c2 r_1.Cells.length _ rfl rfl (hS7.inn [false, false, true, true] rfl [(true, 0)] rfl) hc1)) ?_ ?_
  ·rintro _ w_4 ⟨B3, c3, rfl, hd1⟩
   have hS8 := hS7.out [false, false, true, true] rfl hd1
   refine ⟨(hS8.se [0]), ?_⟩
   refine rA [8] ?_
   refine rZ 8 rfl (yT 1 3 (aD b1) 26 (gM_ r_2 B3 c3) (kM_ r_2 B3 c3) 0 hS8 K3) ?_ ?_
   ·rintro _ w_5 ⟨rfl, hS9⟩
    refine ⟨(hS9.se [0]), ?_⟩
    refine ra_done (by kernel_rfl) ?_
    refine ct_ ?_
    obtain rfl := sI hF
    exact ret1 Tryz.results17 (v1 := gM_ r_2 B3 c3) (resAt_cellA (B := aD b1) (i := 0) (cs := kM_ r_2 B3 c3) (vs := kM_ r_2 B3 c3) rfl K8 K3 (hS9.c 1) rfl rfl) ⟨B3, c3, rfl, (hS9.sN [3])⟩
   exact aN
  exact aN
 exact aN

theorem c_spec_l9Pauli (i : Int)  (w0 : World)  (hS : ST w0 [] w0 [] []) {r_ : TMatrix} (hF : F_spec_l9Pauli i = some r_) :
  CV Tryz.prog 104 #[vi i] w0 (fun v w' => ∃ (B : Option Addr) (c : Nat), v = (gM_ r_ B c) ∧ ST w0 [] w' [⟨B, 48, (r_.Cells.flatMap eN0), c * 5⟩] []) := by
 unfold F_spec_l9Pauli at hF
 refine cv_of_cw 7 Tryz.func104 rfl Tryz.ntmps104 rfl ?_
 refine cq (cr ?_)
 refine sS 2 (yN kN_ 3 hS K12) ?_
 rintro _ w_ ⟨b, rfl, hS1⟩
 refine rn (cq (cr ?_))
 refine sQ 3 (ym (vi i)) <| sQ 4 (yP 2 i) ?_
 obtain ⟨r_1, hc, hF⟩ := bI hF
 refine sc 5 rfl rfl (yC [vi (i64.wrap (2 + i))] k_call_118 (c_spec_l6One (i64.wrap (2 + i)) _  (hS1.inn0 [] rfl) hc)) ?_
 rintro _ w_1 ⟨B1, c1, rfl, hd⟩
 have hS2 := hS1.out0 hd
 refine sQ 6 (Y_buildS (zs := kN_) (vs := [(0, vi 2), (1, vi 2), (2, .slice B1 r_1.length c1)]) (cs := [vi 2, vi 2, .slice B1 r_1.length c1]) K50 K12 rfl (mpc rfl (mpc rfl (mpc rfl mpn))) rfl) ?_
 refine s0 (yT 0 3 (aD b) 26 (.agg #[vi 2, vi 2, .slice B1 r_1.length c1]) [vi 2, vi 2, .slice B1 r_1.length c1] 0 hS2 K3) ?_
 rintro _ w_2 ⟨rfl, hS3⟩
 refine rn (ct_ ?_)
 obtain rfl := sI hF
 exact ret1 Tryz.results104 (v1 := .agg #[vi 2, vi 2, .slice B1 r_1.length c1]) (resAt_cellA (B := aD b) (i := 0) (cs := [vi 2, vi 2, .slice B1 r_1.length c1]) (vs := [vi 2, vi 2, .slice B1 r_1.length c1]) rfl K8 K3 (hS3.c 0) rfl rfl) ⟨B1, c1, rfl, (hS3.sN [1])⟩

theorem c_spec_l1Conj (x : TRing)  (w0 : World)  (hS : ST w0 [] w0 [] []) {r_ : TRing} (hF : F_spec_l1Conj x = some r_) :
  CV Tryz.prog 126 #[gR_ x] w0 (fun v w' => v = (gR_ r_) ∧ ST w0 [] w' [] []) := by
 unfold F_spec_l1Conj at hF
 refine cv_of_cw 15 Tryz.func126 rfl Tryz.ntmps126 rfl ?_
 refine cq (cr ?_)
 refine sS 1 (yB 46 (gR_ x) (kR_ x) 4 hS) ?_
 rintro _ w_ ⟨b, rfl, hS1⟩
 refine sS 2 (yN [vi 0, vi 0, vi 0, vi 0] 4 hS1 K13) ?_
 rintro _ w_1 ⟨b1, rfl, hS2⟩
 refine rn (cq (cr ?_))
 refine sQ 3 (yd (aD b) 0 0 K19 K2) <| sQ 4 (yl (aD b) 0 (kR_ x) (vi x.A) K0 (hS2.c 0)) <| sQ 5 (yd (aD b) 0 0 K22 K2) <| sQ 6 (yl (aD b) 3 (kR_ x) (vi x.D) K0 (hS2.c 0)) <| sQ 7 (Y_neg (k := .i64) (a := x.D) rfl rfl) <| sQ 8 (yd (aD b) 0 0 K21 K2) ?_
 refine sQ 9 (yl (aD b) 2 (kR_ x) (vi x.C) K0 (hS2.c 0)) <| sQ 10 (Y_neg (k := .i64) (a := x.C) rfl rfl) <| sQ 11 (yd (aD b) 0 0 K20 K2) <| sQ 12 (yl (aD b) 1 (kR_ x) (vi x.B) K0 (hS2.c 0)) <| sQ 13 (Y_neg (k := .i64) (a := x.B) rfl rfl) <| sQ 14 (Y_buildS (zs := [vi 0, vi 0, vi 0, vi 0]) (vs := [(0, vi x.A), (1, vi (i64.wrap (-x.D))), (2, vi (i64.wrap (-x.C))), (3, vi (i64.wrap (-x.B)))]) (cs := [vi x.A, vi (i64.wrap (-x.D)), vi (i64.wrap (-x.C)), vi (i64.wrap (-x.B))]) K31 K13 rfl (mpc rfl (mpc rfl (mpc rfl (mpc rfl mpn)))) rfl) ?_
 refine s0 (yT 1 4 (aD b1) 46 (.agg #[vi x.A, vi (i64.wrap (-x.D)), vi (i64.wrap (-x.C)), vi (i64.wrap (-x.B))]) [vi x.A, vi (i64.wrap (-x.D)), vi (i64.wrap (-x.C)), vi (i64.wrap (-x.B))] 0 hS2 K5) ?_
 rintro _ w_2 ⟨rfl, hS3⟩
 refine rn (ct_ ?_)
 obtain rfl := sI hF
 exact ret1 Tryz.results126 (v1 := .agg #[vi x.A, vi (i64.wrap (-x.D)), vi (i64.wrap (-x.C)), vi (i64.wrap (-x.B))]) (resAt_cellA (B := aD b1) (i := 0) (cs := [vi x.A, vi (i64.wrap (-x.D)), vi (i64.wrap (-x.C)), vi (i64.wrap (-x.B))]) (vs := [vi x.A, vi (i64.wrap (-x.D)), vi (i64.wrap (-x.C)), vi (i64.wrap (-x.B))]) rfl K10 K5 (hS3.c 1) rfl rfl) ⟨rfl, (hS3.sN [])⟩

theorem c_spec_l2Conj (x : TDyadic)  (w0 : World)  (hS : ST w0 [] w0 [] []) {r_ : TDyadic} (hF : F_spec_l2Conj x = some r_) :
  CV Tryz.prog 119 #[gD_ x] w0 (fun v w' => v = (gD_ r_) ∧ ST w0 [] w' [] []) := by
 unfold F_spec_l2Conj at hF
 refine cv_of_cw 9 Tryz.func119 rfl Tryz.ntmps119 rfl ?_
 refine cq (cr ?_)
 refine sS 1 (yB 48 (gD_ x) (kD_ x) 5 hS) ?_
 rintro _ w_ ⟨b, rfl, hS1⟩
 refine sS 2 (yN kZ_ 5 hS1 K6) ?_
 rintro _ w_1 ⟨b1, rfl, hS2⟩
 refine rn (cq ?_)
 obtain ⟨r_1, hc, hF⟩ := bI hF
 refine ra_start (hS2.se [0]).fn (by kernel_rfl) ?_
 have hS4 := hS2.drew
 refine rq 0 3 (v := pt (aD b) 0) rfl (hS4.se [0]) (fun w' hw' => (yd (aD b) 0 3 K45 K5)) ?_
 refine rq 1 4 (v := gR_ x.Num) rfl (hS4.se [0]) (fun w' hw' => (ya (aD b) 0 (kD_ x) (kR_ x.Num) K10 K5 (ST.cf hw' (i := 0) rfl))) ?_
 refine rq 3 6 (v := pt (aD b) 4) rfl (hS4.se [0]) (fun w' hw' => (yd (aD b) 0 0 K35 K2)) ?_
 refine rq 4 7 (v := vi x.Exp) rfl (hS4.se [0]) (fun w' hw' => (yl (aD b) 4 (kD_ x) (vi x.Exp) K0 (ST.cf hw' (i := 0) rfl))) ?_
 refine rA [2] ?_
 refine rC 5 2 rfl (yC [gR_ x.Num] k_call_126 (c_spec_l1Conj x.Num _  (hS4.inn0 [] rfl) hc)) ?_ ?_
 ·rintro _ w_2 ⟨rfl, hd⟩
  have hS5 := hS4.out00 hd
  refine ⟨(hS5.se [0]), ?_⟩
  refine rq 5 8 (v := .agg #[vi r_1.A, vi r_1.B, vi r_1.C, vi r_1.D, vi x.Exp]) rfl (hS5.se [0]) (fun w' hw' => (Y_buildS (zs := kZ_) (vs := [(0, gR_ r_1), (1, vi x.Exp)]) (cs := [vi r_1.A, vi r_1.B, vi r_1.C, vi r_1.D, vi x.Exp]) K18 K6 rfl (mpc rfl (mpc rfl mpn)) rfl)) ?_
  refine rA [6] ?_
  refine rZ 6 rfl (yT 1 5 (aD b1) 48 (.agg #[vi r_1.A, vi r_1.B, vi r_1.C, vi r_1.D, vi x.Exp]) [vi r_1.A, vi r_1.B, vi r_1.C, vi r_1.D, vi x.Exp] 0 hS5 K1) ?_ ?_
  ·rintro _ w_3 ⟨rfl, hS6⟩
   refine ⟨(hS6.se [0]), ?_⟩
   refine ra_done (by kernel_rfl) ?_
   refine ct_ ?_
   obtain rfl := sI hF
   exact ret1 Tryz.results119 (v1 := .agg #[vi r_1.A, vi r_1.B, vi r_1.C, vi r_1.D, vi x.Exp]) (resAt_cellA (B := aD b1) (i := 0) (cs := [vi r_1.A, vi r_1.B, vi r_1.C, vi r_1.D, vi x.Exp]) (vs := [vi r_1.A, vi r_1.B, vi r_1.C, vi r_1.D, vi x.Exp]) rfl K4 K1 (hS6.c 1) rfl rfl) ⟨rfl, (hS6.sN [])⟩
  exact aN
 exact aN

theorem c_spec_l3Adj (m : TMatrix) (B : Option Addr) (c n : Nat) (w0 : World) (hn : m.Cells.length = n) (hS : ST w0 [] w0 [] [⟨B, (m.Cells.flatMap eN0)⟩]) {r_ : TMatrix} (hF : F_spec_l3Adj m = some r_) :
  CV Tryz.prog 105 #[.agg #[vi m.Rows, vi m.Cols, .slice B n c]] w0 (fun v w' => ∃ (B1 : Option Addr) (c1 : Nat), v = (gM_ r_ B1 c1) ∧ ST w0 [] w' [⟨B1, 48, (r_.Cells.flatMap eN0), c1 * 5⟩] []) := by
 subst hn
 unfold F_spec_l3Adj at hF
 refine cv_of_cw 40 Tryz.func105 rfl Tryz.ntmps105 rfl ?_
 refine cq (cr ?_)
 refine sS 1 (yB 26 (gM_ m B c) (kM_ m B c) 3 hS) ?_
 rintro _ w_ ⟨b, rfl, hS1⟩
 refine sS 2 (yN kN_ 3 hS1 K12) ?_
 rintro _ w_1 ⟨b1, rfl, hS2⟩
 refine rn (cq (cr ?_))
 refine sQ 6 (yd (aD b) 0 0 K34 K2) <| sQ 7 (yl (aD b) 1 (kM_ m B c) (vi m.Cols) K0 (hS2.c 0)) <| sQ 8 (yd (aD b) 0 0 K43 K2) <| sQ 9 (yl (aD b) 0 (kM_ m B c) (vi m.Rows) K0 (hS2.c 0)) <| sQ 10 (Y_buildS (zs := kN_) (vs := [(0, vi m.Cols), (1, vi m.Rows)]) (cs := [vi m.Cols, vi m.Rows, .slice none 0 0]) K50 K12 rfl (mpc rfl (mpc rfl mpn)) rfl) ?_
 refine sS 3 (yN kN_ 3 hS2 K12) ?_
 rintro _ w_2 ⟨b2, rfl, hS3⟩
 refine s0 (yT 2 3 (aD b2) 26 (.agg #[vi m.Cols, vi m.Rows, .slice none 0 0]) [vi m.Cols, vi m.Rows, .slice none 0 0] 0 hS3 K3) ?_
 rintro _ w_3 ⟨rfl, hS4⟩
 refine rn (cq (cq (cr ?_)))
 refine sQ 4 (yg (vi 0)) (rn ?_)
 obtain ⟨hN, hF⟩ := chk_inv hF
 obtain ⟨z, hz, hF1⟩ := bI hF
 have hS6 := hS4.addNil 48
 refine cw_block ?_
 refine cw_loop (fun k f w => ∃ (j : Nat) (Cells : List TDyadic) (B2 : Option Addr) (c2 : Nat), FF f [(1, pt (aD b) 0), (2, pt (aD b1) 0), (3, pt (aD b2) 0), (4, vi (j : Int))] ∧ ST w0 [] w [⟨aD b, 26, kM_ m B c, 3⟩, ⟨aD b1, 26, kN_, 3⟩, ⟨aD b2, 26, [vi m.Cols, vi m.Rows, .slice B2 Cells.length c2], 3⟩, ⟨B2, 48, (Cells.flatMap eN0), c2 * 5⟩] [⟨B, (m.Cells.flatMap eN0)⟩] ∧ j + k = m.Cols.toNat ∧ forN (F_spec_l3Adj_l1 m) k j Cells = some z) m.Cols.toNat ⟨0, [], none, 0, (fc rfl (fc rfl (fc rfl (fc rfl fn_)))), (hS6.sel [0, 1, 2, 3] rfl rfl), Nat.zero_add _, hz⟩ ?_
 rintro k_ f w ⟨j, Cells, B2, c2, hf, hS5, hik, hL⟩
 refine cq (cq (cr ?_))
 refine sQ 11 (ym (vi (j : Int)) rfl (hf.g 4 3)) <| sQ 12 (yd (aD b) 0 0 K34 K2 rfl (hf.g 1 0)) <| sQ 13 (yl (aD b) 1 (kM_ m B c) (vi m.Cols) K0 (hS5.c 0)) <| sQ 14 (yL (j : Int) m.Cols) (rn ?_)
 refine cw_cond (b := (decide ((j : Int) < m.Cols))) rfl (fun hlt => ?_) (fun hlt => ?_)
 ·skip
  have hlt1 : j < m.Cols.toNat := by have h := of_decide_eq_true hlt; omega
  obtain ⟨K7, rfl⟩ : ∃ k2, k_ = k2 + 1 := ⟨k_ - 1, by omega⟩
  obtain ⟨y, hb, hL1⟩ := forN_go hL
  unfold F_spec_l3Adj_l1 at hb
  refine cw_skip (cq (cw_block (cq (cr ?_))))
  refine sQ 5 (yg (vi 0)) (rn ?_)
  obtain ⟨hN1, hb⟩ := chk_inv hb
  obtain ⟨z1, hz1, hF2⟩ := bI hb
  refine cw_block ?_
  refine cw_loop (fun k f w => ∃ (i2 : Nat) (Cells1 : List TDyadic) (B3 : Option Addr) (c3 : Nat), FF f [(1, pt (aD b) 0), (2, pt (aD b1) 0), (3, pt (aD b2) 0), (4, vi (j : Int)), (5, vi (i2 : Int))] ∧ ST w0 [] w [⟨aD b, 26, kM_ m B c, 3⟩, ⟨aD b1, 26, kN_, 3⟩, ⟨aD b2, 26, [vi m.Cols, vi m.Rows, .slice B3 Cells1.length c3], 3⟩, ⟨B3, 48, (Cells1.flatMap eN0), c3 * 5⟩] [⟨B, (m.Cells.flatMap eN0)⟩] ∧ i2 + k = m.Rows.toNat ∧ forN (F_spec_l3Adj_l2 m Cells j) k i2 Cells1 = some z1) m.Rows.toNat ⟨0, Cells, B2, c2, (fc (hf.g 1 0) (fc (hf.g 2 1) (fc (hf.g 3 2) (fc (hf.g 4 3) (fc rfl fn_))))), (hS5.sel [0, 1, 2, 3] rfl rfl), Nat.zero_add _, hz1⟩ ?_
  rintro K15 f w ⟨i2, Cells1, B3, c3, hf1, hS7, hik1, hL2⟩
  refine cq (cq (cr ?_))
  refine sQ 17 (ym (vi (i2 : Int)) rfl (hf1.g 5 4)) <| sQ 18 (yd (aD b) 0 0 K43 K2 rfl (hf1.g 1 0)) <| sQ 19 (yl (aD b) 0 (kM_ m B c) (vi m.Rows) K0 (hS7.c 0)) <| sQ 20 (yL (i2 : Int) m.Rows) (rn ?_)
  refine cw_cond (b := (decide ((i2 : Int) < m.Rows))) rfl (fun hlt2 => ?_) (fun hlt2 => ?_)
  ·skip
   have hlt3 : i2 < m.Rows.toNat := by have h := of_decide_eq_true hlt2; omega
   obtain ⟨K28, rfl⟩ : ∃ k2, K15 = k2 + 1 := ⟨K15 - 1, by omega⟩
   obtain ⟨y1, hb1, hL3⟩ := forN_go hL2
   unfold F_spec_l3Adj_l2 at hb1
   refine cw_skip (cq (cw_block ?_))
   obtain ⟨x, hx, hb1⟩ := bI hb1
   obtain ⟨r_1, hc, hb1⟩ := bI hb1
   obtain ⟨hap, hb1⟩ := chk_inv hb1
   refine cw_mid (fun f w => ∃ (B5 : Option Addr) (c5 : Nat), FF f [(1, pt (aD b) 0), (2, pt (aD b1) 0), (3, pt (aD b2) 0), (4, vi (j : Int)), (5, vi (i2 : Int))] ∧ ST w0 [] w [⟨aD b, 26, kM_ m B c, 3⟩, ⟨aD b1, 26, kN_, 3⟩, ⟨aD b2, 26, [vi m.Cols, vi m.Rows, .slice B5 ((Cells1 ++ [r_1]).length) c5], 3⟩, ⟨B5, 48, ((Cells1 ++ [r_1]).flatMap eN0), c5 * 5⟩] [⟨B, (m.Cells.flatMap eN0)⟩]) ?_ ?_
   ·skip
    refine ra_start (hS7.se [0, 1]).fn (by kernel_rfl) ?_
    have hS10 := hS7.drew
    refine rq 0 23 (v := pt (aD b2) 2) rfl (hS10.se [0, 1]) (fun w' hw' => (yd (aD b2) 0 0 K29 K11 rfl (hf1.g 3 2))) ?_
    refine rq 2 25 (v := pt (aD b) 2) rfl (hS10.se [0, 1]) (fun w' hw' => (yd (aD b) 0 0 K29 K11 rfl (hf1.g 1 0))) ?_
    refine rq 3 26 (v := .slice B m.Cells.length c) rfl (hS10.se [0, 1]) (fun w' hw' => (yl (aD b) 2 (kM_ m B c) (.slice B m.Cells.length c) K16 (ST.cf hw' (i := 0) rfl))) ?_
    refine rq 4 27 (v := vi (i2 : Int)) rfl (hS10.se [0, 1]) (fun w' hw' => (ym (vi (i2 : Int)) rfl (hf1.g 5 4))) ?_
    refine rq 5 28 (v := pt (aD b) 1) rfl (hS10.se [0, 1]) (fun w' hw' => (yd (aD b) 0 0 K34 K2 rfl (hf1.g 1 0))) ?_
    refine rq 6 29 (v := vi m.Cols) rfl (hS10.se [0, 1]) (fun w' hw' => (yl (aD b) 1 (kM_ m B c) (vi m.Cols) K0 (ST.cf hw' (i := 0) rfl))) ?_
    refine rq 7 30 (v := vi (i64.wrap ((i2 : Int) * m.Cols))) rfl (hS10.se [0, 1]) (fun w' hw' => (yX (i2 : Int) m.Cols)) ?_
    refine rq 8 31 (v := vi (j : Int)) rfl (hS10.se [0, 1]) (fun w' hw' => (ym (vi (j : Int)) rfl (hf1.g 4 3))) ?_
    refine rq 9 32 (v := vi (i64.wrap ((i64.wrap ((i2 : Int) * m.Cols)) + (j : Int)))) rfl (hS10.se [0, 1]) (fun w' hw' => (yP (i64.wrap ((i2 : Int) * m.Cols)) (j : Int))) ?_
    refine rq 10 33 (v := pt B ((i64.wrap ((i64.wrap ((i2 : Int) * m.Cols)) + (j : Int))).toNat * 5)) rfl (hS10.se [0, 1]) (fun w' hw' => (Y_index (B := B) (m := m.Cells.length) (c := c) (k := .i64) (i := (i64.wrap ((i64.wrap ((i2 : Int) * m.Cols)) + (j : Int)))) K9 K1 rfl rfl rfl (gi_isSome eN2 rfl (ST.rf hw' (i := 0) rfl) hx) (getI_nn hx) (getI_ltI hx rfl))) ?_
    refine rq 11 34 (v := gD_ x) rfl (hS10.se [0, 1]) (fun w' hw' => (ya B ((i64.wrap ((i64.wrap ((i2 : Int) * m.Cols)) + (j : Int))).toNat * 5) (m.Cells.flatMap eN0) (kD_ x) K4 K1 (ST.rf hw' (i := 0) rfl) rfl rfl (eN2 x) (gi_seg eN2 hx))) ?_
    refine rA [1, 12] ?_
    refine ra_y 24 (i := 1) (v := .slice B3 Cells1.length c3) rfl rfl rfl (yl (aD b2) 2 [vi m.Cols, vi m.Rows, .slice B3 Cells1.length c3] (.slice B3 Cells1.length c3) K16 (hS10.c 2)) (hS10.se [0, 1]) ?_ ?_
    ·skip
     refine rA [12] ?_
     refine rC 35 12 rfl (yC [gD_ x] k_call_119 (c_spec_l2Conj x _  (hS10.inn0 [] rfl) hc)) ?_ ?_
     ·rintro _ w_4 ⟨rfl, hd⟩
      have hS11 := hS10.out00 hd
      refine ⟨(hS11.se [0, 1]), ?_⟩
      refine rA [13] ?_
      refine rS 36 13 rfl (Ys_bslice (s := 5) (len := 1) (vs := [(0, gD_ r_1)]) (cs := kD_ r_1) (zs := kZ_) (m := 5) hS11 K9 K1 K38 rfl (mpc rfl mpn) rfl rfl rfl (by kernel_rfl) (by kernel_rfl) rfl) ?_ ?_
      ·rintro _ w_5 ⟨b3, rfl, hS12⟩
       refine ⟨(hS12.se [0, 1]), ?_⟩
       refine rA [14] ?_
       refine rS 37 14 rfl (Ys_append (s := 5) (by' := 40) (i := 3) (nn := Cells1.length) (c := c3) (k := 1) (len := (Cells1 ++ [r_1]).length) (B := B3) (xs := ([r_1].flatMap eN0)) (cs' := ((Cells1 ++ [r_1]).flatMap eN0)) hS12 K9 K1 K47 K6 rfl (by decide) rfl rfl rfl rfl (fm_lenn (l := Cells1) eN2 rfl) rfl (hS12.c 4) (fm_lenn (l := [r_1]) eN2 rfl) (fm_one' (enc := eN0) enc_Dyadic_one [r_1]) (by have := hap; omega) (by have := hap; simp only [maxLen]; omega) (fm_app _ _) (app_len (l := Cells1) (l' := [r_1]) rfl rfl)) ?_ ?_
       ·rintro _ w_6 ⟨B4, c4, rfl, hS13⟩
        refine ⟨(hS13.se [0, 1]), ?_⟩
        refine rq 15 38 (v := pt (aD b2) 2) rfl (hS13.se [0, 1]) (fun w' hw' => (yd (aD b2) 0 0 K29 K11 rfl (hf1.g 3 2))) ?_
        refine rA [16] ?_
        refine rZ 16 rfl (yS 2 1 (aD b2) 26 (.slice B4 ((Cells1 ++ [r_1]).length) c4) [.slice B4 ((Cells1 ++ [r_1]).length) c4] 2 [vi m.Cols, vi m.Rows, .slice B4 ((Cells1 ++ [r_1]).length) c4] hS13 K11) ?_ ?_
        ·rintro _ w_7 ⟨rfl, hS14⟩
         refine ⟨(hS14.se [0, 1]), ?_⟩
         refine ra_done (by kernel_rfl) ?_
         exact ⟨B4, c4, (fc (hf1.g 1 0) (fc (hf1.g 2 1) (fc (hf1.g 3 2) (fc (hf1.g 4 3) (fc (hf1.g 5 4) fn_))))), (hS14.sel [0, 1, 2, 3] rfl rfl)⟩
        exact aN
       exact aN
      exact aN
     exact aN
    refine rC 35 12 rfl (yC [gD_ x] k_call_119 (c_spec_l2Conj x _  (hS10.inn0 [] rfl) hc)) ?_ ?_
    ·rintro _ w_8 ⟨rfl, hd1⟩
     have hS15 := hS10.out00 hd1
     refine ⟨(hS15.se [0, 1]), ?_⟩
     refine rA [1, 13] ?_
     refine ra_y 24 (i := 1) (v := .slice B3 Cells1.length c3) rfl rfl rfl (yl (aD b2) 2 [vi m.Cols, vi m.Rows, .slice B3 Cells1.length c3] (.slice B3 Cells1.length c3) K16 (hS15.c 2)) (hS15.se [0, 1]) ?_ ?_
     ·skip
      refine rA [13] ?_
      refine rS 36 13 rfl (Ys_bslice (s := 5) (len := 1) (vs := [(0, gD_ r_1)]) (cs := kD_ r_1) (zs := kZ_) (m := 5) hS15 K9 K1 K38 rfl (mpc rfl mpn) rfl rfl rfl (by kernel_rfl) (by kernel_rfl) rfl) ?_ ?_
      ·rintro _ w_9 ⟨b3, rfl, hS16⟩
       refine ⟨(hS16.se [0, 1]), ?_⟩
       refine rA [14] ?_
       refine rS 37 14 rfl (Ys_append (s := 5) (by' := 40) (i := 3) (nn := Cells1.length) (c := c3) (k := 1) (len := (Cells1 ++ [r_1]).length) (B := B3) (xs := ([r_1].flatMap eN0)) (cs' := ((Cells1 ++ [r_1]).flatMap eN0)) hS16 K9 K1 K47 K6 rfl (by decide) rfl rfl rfl rfl (fm_lenn (l := Cells1) eN2 rfl) rfl (hS16.c 4) (fm_lenn (l := [r_1]) eN2 rfl) (fm_one' (enc := eN0) enc_Dyadic_one [r_1]) (by have := hap; omega) (by have := hap; simp only [maxLen]; omega) (fm_app _ _) (app_len (l := Cells1) (l' := [r_1]) rfl rfl)) ?_ ?_
       ·rintro _ w_10 ⟨B4, c4, rfl, hS17⟩
        refine ⟨(hS17.se [0, 1]), ?_⟩
        refine rq 15 38 (v := pt (aD b2) 2) rfl (hS17.se [0, 1]) (fun w' hw' => (yd (aD b2) 0 0 K29 K11 rfl (hf1.g 3 2))) ?_
        refine rA [16] ?_
        refine rZ 16 rfl (yS 2 1 (aD b2) 26 (.slice B4 ((Cells1 ++ [r_1]).length) c4) [.slice B4 ((Cells1 ++ [r_1]).length) c4] 2 [vi m.Cols, vi m.Rows, .slice B4 ((Cells1 ++ [r_1]).length) c4] hS17 K11) ?_ ?_
        ·rintro _ w_11 ⟨rfl, hS18⟩
         refine ⟨(hS18.se [0, 1]), ?_⟩
         refine ra_done (by kernel_rfl) ?_
         exact ⟨B4, c4, (fc (hf1.g 1 0) (fc (hf1.g 2 1) (fc (hf1.g 3 2) (fc (hf1.g 4 3) (fc (hf1.g 5 4) fn_))))), (hS18.sel [0, 1, 2, 3] rfl rfl)⟩
        exact aN
       exact aN
      exact aN
     refine rS 36 13 rfl (Ys_bslice (s := 5) (len := 1) (vs := [(0, gD_ r_1)]) (cs := kD_ r_1) (zs := kZ_) (m := 5) hS15 K9 K1 K38 rfl (mpc rfl mpn) rfl rfl rfl (by kernel_rfl) (by kernel_rfl) rfl) ?_ ?_
     ·rintro _ w_12 ⟨b3, rfl, hS19⟩
      refine ⟨(hS19.se [0, 1]), ?_⟩
      refine rA [1] ?_
      refine ra_y 24 (i := 1) (v := .slice B3 Cells1.length c3) rfl rfl rfl (yl (aD b2) 2 [vi m.Cols, vi m.Rows, .slice B3 Cells1.length c3] (.slice B3 Cells1.length c3) K16 (hS19.c 2)) (hS19.se [0, 1]) ?_ ?_
      ·skip
       refine rA [14] ?_
       refine rS 37 14 rfl (Ys_append (s := 5) (by' := 40) (i := 3) (nn := Cells1.length) (c := c3) (k := 1) (len := (Cells1 ++ [r_1]).length) (B := B3) (xs := ([r_1].flatMap eN0)) (cs' := ((Cells1 ++ [r_1]).flatMap eN0)) hS19 K9 K1 K47 K6 rfl (by decide) rfl rfl rfl rfl (fm_lenn (l := Cells1) eN2 rfl) rfl (hS19.c 4) (fm_lenn (l := [r_1]) eN2 rfl) (fm_one' (enc := eN0) enc_Dyadic_one [r_1]) (by have := hap; omega) (by have := hap; simp only [maxLen]; omega) (fm_app _ _) (app_len (l := Cells1) (l' := [r_1]) rfl rfl)) ?_ ?_
       ·rintro _ w_13 ⟨B4, c4, rfl, hS20⟩
        refine ⟨(hS20.se [0, 1]), ?_⟩
        refine rq 15 38 (v := pt (aD b2) 2) rfl (hS20.se [0, 1]) (fun w' hw' => (yd (aD b2) 0 0 K29 K11 rfl (hf1.g 3 2))) ?_
        refine rA [16] ?_
        refine rZ 16 rfl (yS 2 1 (aD b2) 26 (.slice B4 ((Cells1 ++ [r_1]).length) c4) [.slice B4 ((Cells1 ++ [r_1]).length) c4] 2 [vi m.Cols, vi m.Rows, .slice B4 ((Cells1 ++ [r_1]).length) c4] hS20 K11) ?_ ?_
        ·rintro _ w_14 ⟨rfl, hS21⟩
         refine ⟨(hS21.se [0, 1]), ?_⟩
         refine ra_done (by kernel_rfl) ?_
         exact ⟨B4, c4, (fc (hf1.g 1 0) (fc (hf1.g 2 1) (fc (hf1.g 3 2) (fc (hf1.g 4 3) (fc (hf1.g 5 4) fn_))))), (hS21.sel [0, 1, 2, 3] rfl rfl)⟩
        exact aN
       exact aN
      exact aN
     exact aN
    exact aN
   rintro f w ⟨B5, c5, hf2, hS9⟩
   refine cr ?_
   refine sQ 21 (ym (vi (i2 : Int)) rfl (hf2.g 5 4)) <| sQ 22 (yP (i2 : Int) 1) <| sQ 5 (yg (vi (i64.wrap ((i2 : Int) + 1)))) (rn ?_)
   obtain rfl := sI hb1
   exact ⟨K28, Nat.lt_succ_self _, i2 + 1, (Cells1 ++ [r_1]), B5, c5, (fc (hf2.g 1 0) (fc (hf2.g 2 1) (fc (hf2.g 3 2) (fc (hf2.g 4 3) (fc (congrArg (Value.int .i64) (wr_succ hlt3 hN1)) fn_))))), (hS9.sel [0, 1, 2, 3] rfl rfl), (by omega), hL3⟩
  ·skip
   obtain rfl : K15 = 0 := by have h := of_decide_eq_false hlt2; omega
   refine cw_exit rfl ?_
   obtain rfl := sI hL2
   refine cr ?_
   refine sQ 15 (ym (vi (j : Int)) rfl (hf1.g 4 3)) <| sQ 16 (yP (j : Int) 1) <| sQ 4 (yg (vi (i64.wrap ((j : Int) + 1)))) (rn ?_)
   obtain rfl := sI hF2
   exact ⟨K7, Nat.lt_succ_self _, j + 1, Cells1, B3, c3, (fc (hf1.g 1 0) (fc (hf1.g 2 1) (fc (hf1.g 3 2) (fc (congrArg (Value.int .i64) (wr_succ hlt1 hN)) fn_)))), (hS7.sel [0, 1, 2, 3] rfl rfl), (by omega), hL1⟩
 ·skip
  obtain rfl : k_ = 0 := by have h := of_decide_eq_false hlt; omega
  refine cw_exit rfl ?_
  obtain rfl := sI hL
  refine cq (cr ?_)
  refine sQ 39 (yb (aD b2) 0 [vi m.Cols, vi m.Rows, .slice B2 Cells.length c2] K8 K3 (hS5.c 2) rfl (hf.g 3 2)) ?_
  refine s0 (yT 1 3 (aD b1) 26 (.agg #[vi m.Cols, vi m.Rows, .slice B2 Cells.length c2]) [vi m.Cols, vi m.Rows, .slice B2 Cells.length c2] 0 hS5 K3 rfl (hf.g 2 1)) ?_
  rintro _ w_15 ⟨rfl, hS22⟩
  refine rn (ct_ ?_)
  obtain rfl := sI hF1
  exact ret1 Tryz.results105 (v1 := .agg #[vi m.Cols, vi m.Rows, .slice B2 Cells.length c2]) (resAt_cellA (B := aD b1) (i := 0) (cs := [vi m.Cols, vi m.Rows, .slice B2 Cells.length c2]) (vs := [vi m.Cols, vi m.Rows, .slice B2 Cells.length c2]) (hf.g 2 1) K8 K3 (hS22.c 1) rfl rfl) ⟨B2, c2, rfl, (hS22.sN [3])⟩

theorem c_spec_l9Bloch (m : TMatrix) (B : Option Addr) (c n : Nat) (w0 : World) (hn : m.Cells.length = n) (hS : ST w0 [] w0 [] [⟨B, (m.Cells.flatMap eN0)⟩]) {r_ : TBloch} {r_1 : Bool} (hF : F_spec_l9Bloch m = some (r_, r_1)) :
  CV Tryz.prog 73 #[.agg #[vi m.Rows, vi m.Cols, .slice B n c]] w0 (fun v w' => ∃ (B1 : Option Addr) (c1 : Nat), v = .tuple #[gB_ r_ B1 c1, .bool r_1] ∧ ST w0 [] w' [⟨B1, 48, (r_.Cells.flatMap eN0), c1 * 5⟩] []) := by
 subst hn
 unfold F_spec_l9Bloch at hF
 refine cv_of_cw 59 Tryz.func73 rfl Tryz.ntmps73 rfl ?_
 refine cq (cr ?_)
 refine sS 1 (yB 26 (gM_ m B c) (kM_ m B c) 3 hS) ?_
 rintro _ w_ ⟨b, rfl, hS1⟩
 refine sS 2 (yN [.slice none 0 0] 1 hS1 K39) ?_
 rintro _ w_1 ⟨b1, rfl, hS2⟩
 refine sQ 3 (yg (.bool false)) (rn (cq (cr ?_)))
 refine sQ 10 (Y_buildS (zs := [.bool false]) (vs := []) (cs := [.bool false]) k_pl_84 k_zero_84 rfl mpn rfl) ?_
 refine sS 11 (yB 84 (.agg #[.bool false]) [.bool false] 1 hS2) ?_
 rintro _ w_2 ⟨b2, rfl, hS3⟩
 refine sQ 4 (yg (pt (aD b2) 0)) (rn (cq (cr ?_)))
 refine sS 5 (yN [.slice none 0 0] 1 hS3 K39) ?_
 rintro _ w_3 ⟨b3, rfl, hS4⟩
 refine rn (cq (cq (cr ?_)))
 refine sQ 6 (yg (vi 0)) (rn ?_)
 obtain ⟨z, hz, hF1⟩ := bI hF
 have hS6 := hS4.addNil 48
 refine cw_block ?_
 refine cw_loop (fun k f w => ∃ (i1 : Nat) (bad : Bool) (Cells : List TDyadic) (B2 : Option Addr) (c2 : Nat), FF f [(1, pt (aD b) 0), (2, pt (aD b1) 0), (4, pt (aD b2) 0), (5, pt (aD b3) 0), (6, vi (i1 : Int))] ∧ ST w0 [] w [⟨aD b, 26, kM_ m B c, 3⟩, ⟨aD b1, 54, [.slice none 0 0], 1⟩, ⟨aD b2, 84, [.bool bad], 1⟩, ⟨aD b3, 54, [.slice B2 Cells.length c2], 1⟩, ⟨B2, 48, (Cells.flatMap eN0), c2 * 5⟩] [⟨B, (m.Cells.flatMap eN0)⟩] ∧ i1 + k = 3 ∧ forN (F_spec_l9Bloch_l1 m) k i1 (bad, Cells) = some z) 3 ⟨0, false, [], none, 0, (fc rfl (fc rfl (fc rfl (fc rfl (fc rfl fn_))))), (hS6.sel [0, 1, 2, 3, 4] rfl rfl), Nat.zero_add _, hz⟩ ?_
 rintro k_ f w ⟨i1, bad, Cells, B2, c2, hf, hS5, hik, hL⟩
 refine cq (cq (cr ?_))
 refine sQ 12 (ym (vi (i1 : Int)) rfl (hf.g 6 4)) <| sQ 13 (yL (i1 : Int) 3) (rn ?_)
 refine cw_cond (b := (decide ((i1 : Int) < 3))) rfl (fun hlt => ?_) (fun hlt => ?_)
 ·skip
  have hlt1 : i1 < 3 := by have h := of_decide_eq_true hlt; omega
  obtain ⟨K7, rfl⟩ : ∃ k2, k_ = k2 + 1 := ⟨k_ - 1, by omega⟩
  obtain ⟨y, hb, hL1⟩ := forN_go hL
  unfold F_spec_l9Bloch_l1 at hb
  refine cw_skip (cq (cw_block (cq (cr ?_))))
  refine sQ 7 (yg (vi 0)) (rn ?_)
  obtain ⟨z1, hz1, hF2⟩ := bI hb
  refine cw_block ?_
  refine cw_loop (fun k f w => ∃ (j : Nat) (bad1 : Bool) (Cells1 : List TDyadic) (B3 : Option Addr) (c3 : Nat), FF f [(1, pt (aD b) 0), (2, pt (aD b1) 0), (4, pt (aD b2) 0), (5, pt (aD b3) 0), (6, vi (i1 : Int)), (7, vi (j : Int))] ∧ ST w0 [] w [⟨aD b, 26, kM_ m B c, 3⟩, ⟨aD b1, 54, [.slice none 0 0], 1⟩, ⟨aD b2, 84, [.bool bad1], 1⟩, ⟨aD b3, 54, [.slice B3 Cells1.length c3], 1⟩, ⟨B3, 48, (Cells1.flatMap eN0), c3 * 5⟩] [⟨B, (m.Cells.flatMap eN0)⟩] ∧ j + k = 3 ∧ forN (F_spec_l9Bloch_l2 i1 m Cells bad) k j (bad1, Cells1) = some z1) 3 ⟨0, bad, Cells, B2, c2, (fc (hf.g 1 0) (fc (hf.g 2 1) (fc (hf.g 4 2) (fc (hf.g 5 3) (fc (hf.g 6 4) (fc rfl fn_)))))), (hS5.sel [0, 1, 2, 3, 4] rfl rfl), Nat.zero_add _, hz1⟩ ?_
  rintro K15 f w ⟨j, bad1, Cells1, B3, c3, hf1, hS7, hik1, hL2⟩
  refine cq (cq (cr ?_))
  refine sQ 16 (ym (vi (j : Int)) rfl (hf1.g 7 5)) <| sQ 17 (yL (j : Int) 3) (rn ?_)
  refine cw_cond (b := (decide ((j : Int) < 3))) rfl (fun hlt2 => ?_) (fun hlt2 => ?_)
  ·skip
   have hlt3 : j < 3 := by have h := of_decide_eq_true hlt2; omega
   obtain ⟨K28, rfl⟩ : ∃ k2, K15 = k2 + 1 := ⟨K15 - 1, by omega⟩
   obtain ⟨y1, hb1, hL3⟩ := forN_go hL2
   unfold F_spec_l9Bloch_l2 at hb1
   refine cw_skip (cq (cw_block (cq ?_)))
   obtain ⟨r_2, hc, hb1⟩ := bI hb1
   obtain ⟨⟨r_3, m1⟩, hc1, hb1⟩ := bI hb1
   obtain ⟨r_4, hc2, hb1⟩ := bI hb1
   obtain ⟨⟨r_5, m2⟩, hc3, hb1⟩ := bI hb1
   obtain ⟨r_6, hc4, hb1⟩ := bI hb1
   obtain ⟨⟨r_7, m3⟩, hc5, hb1⟩ := bI hb1
   refine cw_mid (fun f w => ∃ (B10 : Option Addr) (B11 : Option Addr) (c10 : Nat), FF f [(1, pt (aD b) 0), (2, pt (aD b1) 0), (4, pt (aD b2) 0), (5, pt (aD b3) 0), (6, vi (i1 : Int)), (7, vi (j : Int)), (8, pt B10 0)] ∧ ST w0 [] w [⟨aD b, 26, kM_ m B c, 3⟩, ⟨aD b1, 54, [.slice none 0 0], 1⟩, ⟨aD b2, 84, [.bool m3.bad], 1⟩, ⟨aD b3, 54, [.slice B3 Cells1.length c3], 1⟩, ⟨B3, 48, (Cells1.flatMap eN0), c3 * 5⟩, ⟨B10, 26, kM_ r_7 B11 c10, 3⟩, ⟨B11, 48, (r_7.Cells.flatMap eN0), c10 * 5⟩] [⟨B, (m.Cells.flatMap eN0)⟩]) ?_ ?_
   ·skip
    refine ra_start (hS7.se [0, 1, 3, 4]).fn (by kernel_rfl) ?_
    have hS15 := hS7.drew
    refine rq 0 20 (v := pt (aD b2) 0) rfl (hS15.se [0, 1, 3, 4]) (fun w' hw' => (ym (pt (aD b2) 0) rfl (hf1.g 4 2))) ?_
    refine rq 1 21 (v := pt (aD b2) 0) rfl (hS15.se [0, 1, 3, 4]) (fun w' hw' => (ym (pt (aD b2) 0) rfl (hf1.g 4 2))) ?_
    refine rq 2 22 (v := pt (aD b2) 0) rfl (hS15.se [0, 1, 3, 4]) (fun w' hw' => (ym (pt (aD b2) 0) rfl (hf1.g 4 2))) ?_
    refine rq 3 23 (v := vi (i1 : Int)) rfl (hS15.se [0, 1, 3, 4]) (fun w' hw' => (ym (vi (i1 : Int)) rfl (hf1.g 6 4))) ?_
    refine rq 5 25 (v := gM_ m B c) rfl (hS15.se [0, 1, 3, 4]) (fun w' hw' => (yb (aD b) 0 (kM_ m B c) K8 K3 (ST.cf hw' (i := 0) rfl) rfl (hf1.g 1 0))) ?_
    refine rq 7 27 (v := vi (j : Int)) rfl (hS15.se [0, 1, 3, 4]) (fun w' hw' => (ym (vi (j : Int)) rfl (hf1.g 7 5))) ?_
    refine rq 10 30 (v := gM_ m B c) rfl (hS15.se [0, 1, 3, 4]) (fun w' hw' => (yb (aD b) 0 (kM_ m B c) K8 K3 (ST.cf hw' (i := 0) rfl) rfl (hf1.g 1 0))) ?_
    refine rA [4, 13] ?_
    refine rC 24 4 rfl (yC [vi (i1 : Int)] K92 (c_spec_l9Pauli (i1 : Int) _  (hS15.inn0 [] rfl) hc)) ?_ ?_
    ·rintro _ w_4 ⟨B4, c4, rfl, hd⟩
     have hS16 := hS15.out0 hd
     refine ⟨(hS16.se [0, 1, 3, 4]), ?_⟩
     refine rA [6, 13] ?_
     refine rC 26 6 rfl (yC [pt (aD b2) 0, gM_ r_2 B4 c4, gM_ m B c] K49 (c_spec_l2C_times (Tl2C.mk bad1) r_2 m (aD b2) B4 c4 r_2.Cells.length B c m.Cells.length _ rfl rfl (hS16.inn [false, false, true, false, false, false] rfl [(false, 4), (true, 0)] rfl) hc1)) ?_ ?_
     ·rintro _ w_5 ⟨B5, c5, rfl, hd1⟩
      have hS17 := hS16.out [false, false, true, false, false, false] rfl hd1
      refine ⟨(hS17.se [0, 1, 2, 3]), ?_⟩
      refine rA [8, 13] ?_
      refine rC 28 8 rfl (yC [vi (j : Int)] K92 (c_spec_l9Pauli (j : Int) _  (hS17.inn0 [] rfl) hc2)) ?_ ?_
      ·rintro _ w_6 ⟨B6, c6, rfl, hd2⟩
       have hS18 := hS17.out0 hd2
       refine ⟨(hS18.se [0, 1, 2, 3]), ?_⟩
       refine rA [9, 13] ?_
       refine rC 29 9 rfl (yC [pt (aD b2) 0, gM_ r_3 B5 c5, gM_ r_4 B6 c6] K49 (c_spec_l2C_times m1 r_3 r_4 (aD b2) B5 c5 r_3.Cells.length B6 c6 r_4.Cells.length _ rfl rfl (hS18.inn [false, false, false, false, false, true, false, false] rfl [(false, 5), (false, 6)] rfl) hc3)) ?_ ?_
       ·rintro _ w_7 ⟨B7, c7, rfl, hd3⟩
        have hS19 := hS18.out [false, false, false, false, false, true, false, false] rfl hd3
        refine ⟨(hS19.se [0, 1, 2, 3]), ?_⟩
        refine rA [11, 13] ?_
        refine rC 31 11 rfl (yC [gM_ m B c] K93 (c_spec_l3Adj m B c m.Cells.length _ rfl (hS19.inn0 [(true, 0)] rfl) hc4)) ?_ ?_
        ·rintro _ w_8 ⟨B8, c8, rfl, hd4⟩
         have hS20 := hS19.out0 hd4
         refine ⟨(hS20.se [0, 1, 2, 3]), ?_⟩
         refine rA [12, 13] ?_
         refine rC 32 12 rfl (yC [pt (aD b2) 0, gM_ r_5 B7 c7, gM_ r_6 B8 c8] K49 (c_spec_l2C_times m2 r_5 r_6 (aD b2) B7 c7 r_5.Cells.length B8 c8 r_6.Cells.length _ rfl rfl (hS20.inn [false, false, false, false, false, false, false, true, false, false] rfl [(false, 7), (false, 8)] rfl) hc5)) ?_ ?_
         ·rintro _ w_9 ⟨B9, c9, rfl, hd5⟩
          have hS21 := hS20.out [false, false, false, false, false, false, false, true, false, false] rfl hd5
          refine ⟨(hS21.se [0, 1, 2, 3]), ?_⟩
          refine rA [13] ?_
          refine rS 8 13 rfl (yN kN_ 3 hS21 K12) ?_ ?_
          ·rintro _ w_10 ⟨b4, rfl, hS22⟩
           refine ⟨(hS22.se [0, 1, 2, 3]), ?_⟩
           refine rA [14] ?_
           refine rZ 14 rfl (yT 11 3 (aD b4) 26 (gM_ r_7 B9 c9) (kM_ r_7 B9 c9) 0 hS22 K3) ?_ ?_
           ·rintro _ w_11 ⟨rfl, hS23⟩
            refine ⟨(hS23.se [0, 1, 2, 3]), ?_⟩
            refine ra_done (by kernel_rfl) ?_
            exact ⟨aD b4, B9, c9, (fc (hf1.g 1 0) (fc (hf1.g 2 1) (fc (hf1.g 4 2) (fc (hf1.g 5 3) (fc (hf1.g 6 4) (fc (hf1.g 7 5) (fc rfl fn_))))))), (hS23.sel [0, 1, 9, 2, 3, 11, 10] rfl rfl)⟩
           exact aN
          exact aN
         refine rS 8 13 rfl (yN kN_ 3 hS20 K12) ?_ ?_
         ·rintro _ w_12 ⟨b4, rfl, hS24⟩
          refine ⟨(hS24.se [0, 1, 2, 3]), ?_⟩
          refine rA [12] ?_
          refine rC 32 12 rfl (yC [pt (aD b2) 0, gM_ r_5 B7 c7, gM_ r_6 B8 c8] K49 (c_spec_l2C_times m2 r_5 r_6 (aD b2) B7 c7 r_5.Cells.length B8 c8 r_6.Cells.length _ rfl rfl (hS24.inn [false, false, false, false, false, false, false, true, false, false, false] rfl [(false, 7), (false, 8)] rfl) hc5)) ?_ ?_
          ·rintro _ w_13 ⟨B9, c9, rfl, hd6⟩
           have hS25 := hS24.out [false, false, false, false, false, false, false, true, false, false, false] rfl hd6
           refine ⟨(hS25.se [0, 1, 2, 3]), ?_⟩
           refine rA [14] ?_
           refine rZ 14 rfl (yT 9 3 (aD b4) 26 (gM_ r_7 B9 c9) (kM_ r_7 B9 c9) 0 hS25 K3) ?_ ?_
           ·rintro _ w_14 ⟨rfl, hS26⟩
            refine ⟨(hS26.se [0, 1, 2, 3]), ?_⟩
            refine ra_done (by kernel_rfl) ?_
            exact ⟨aD b4, B9, c9, (fc (hf1.g 1 0) (fc (hf1.g 2 1) (fc (hf1.g 4 2) (fc (hf1.g 5 3) (fc (hf1.g 6 4) (fc (hf1.g 7 5) (fc rfl fn_))))))), (hS26.sel [0, 1, 10, 2, 3, 9, 11] rfl rfl)⟩
           exact aN
          exact aN
         exact aN
        refine rS 8 13 rfl (yN kN_ 3 hS19 K12) ?_ ?_
        ·rintro _ w_15 ⟨b4, rfl, hS27⟩
         refine ⟨(hS27.se [0, 1, 2, 3]), ?_⟩
         refine rA [11] ?_
         refine rC 31 11 rfl (yC [gM_ m B c] K93 (c_spec_l3Adj m B c m.Cells.length _ rfl (hS27.inn0 [(true, 0)] rfl) hc4)) ?_ ?_
         ·rintro _ w_16 ⟨B8, c8, rfl, hd7⟩
          have hS28 := hS27.out0 hd7
          refine ⟨(hS28.se [0, 1, 2, 3]), ?_⟩
          refine rA [12] ?_
          refine rC 32 12 rfl (yC [pt (aD b2) 0, gM_ r_5 B7 c7, gM_ r_6 B8 c8] K49 (c_spec_l2C_times m2 r_5 r_6 (aD b2) B7 c7 r_5.Cells.length B8 c8 r_6.Cells.length _ rfl rfl (hS28.inn [false, false, false, false, false, false, false, true, false, false, false] rfl [(false, 7), (false, 9)] rfl) hc5)) ?_ ?_
          ·rintro _ w_17 ⟨B9, c9, rfl, hd8⟩
           have hS29 := hS28.out [false, false, false, false, false, false, false, true, false, false, false] rfl hd8
           refine ⟨(hS29.se [0, 1, 2, 3]), ?_⟩
           refine rA [14] ?_
           refine rZ 14 rfl (yT 8 3 (aD b4) 26 (gM_ r_7 B9 c9) (kM_ r_7 B9 c9) 0 hS29 K3) ?_ ?_
           ·rintro _ w_18 ⟨rfl, hS30⟩
            refine ⟨(hS30.se [0, 1, 2, 3]), ?_⟩
            refine ra_done (by kernel_rfl) ?_
            exact ⟨aD b4, B9, c9, (fc (hf1.g 1 0) (fc (hf1.g 2 1) (fc (hf1.g 4 2) (fc (hf1.g 5 3) (fc (hf1.g 6 4) (fc (hf1.g 7 5) (fc rfl fn_))))))), (hS30.sel [0, 1, 10, 2, 3, 8, 11] rfl rfl)⟩
           exact aN
          exact aN
         exact aN
        exact aN
       refine rS 8 13 rfl (yN kN_ 3 hS18 K12) ?_ ?_
       ·rintro _ w_19 ⟨b4, rfl, hS31⟩
        refine ⟨(hS31.se [0, 1, 2, 3]), ?_⟩
        refine rA [9] ?_
        refine rC 29 9 rfl (yC [pt (aD b2) 0, gM_ r_3 B5 c5, gM_ r_4 B6 c6] K49 (c_spec_l2C_times m1 r_3 r_4 (aD b2) B5 c5 r_3.Cells.length B6 c6 r_4.Cells.length _ rfl rfl (hS31.inn [false, false, false, false, false, true, false, false, false] rfl [(false, 5), (false, 6)] rfl) hc3)) ?_ ?_
        ·rintro _ w_20 ⟨B7, c7, rfl, hd9⟩
         have hS32 := hS31.out [false, false, false, false, false, true, false, false, false] rfl hd9
         refine ⟨(hS32.se [0, 1, 2, 3]), ?_⟩
         refine rA [11] ?_
         refine rC 31 11 rfl (yC [gM_ m B c] K93 (c_spec_l3Adj m B c m.Cells.length _ rfl (hS32.inn0 [(true, 0)] rfl) hc4)) ?_ ?_
         ·rintro _ w_21 ⟨B8, c8, rfl, hd10⟩
          have hS33 := hS32.out0 hd10
          refine ⟨(hS33.se [0, 1, 2, 3]), ?_⟩
          refine rA [12] ?_
          refine rC 32 12 rfl (yC [pt (aD b2) 0, gM_ r_5 B7 c7, gM_ r_6 B8 c8] K49 (c_spec_l2C_times m2 r_5 r_6 (aD b2) B7 c7 r_5.Cells.length B8 c8 r_6.Cells.length _ rfl rfl (hS33.inn [false, false, false, false, false, false, false, false, true, false, false] rfl [(false, 8), (false, 9)] rfl) hc5)) ?_ ?_
          ·rintro _ w_22 ⟨B9, c9, rfl, hd11⟩
           have hS34 := hS33.out [false, false, false, false, false, false, false, false, true, false, false] rfl hd11
           refine ⟨(hS34.se [0, 1, 2, 3]), ?_⟩
           refine rA [14] ?_
           refine rZ 14 rfl (yT 7 3 (aD b4) 26 (gM_ r_7 B9 c9) (kM_ r_7 B9 c9) 0 hS34 K3) ?_ ?_
           ·rintro _ w_23 ⟨rfl, hS35⟩
            refine ⟨(hS35.se [0, 1, 2, 3]), ?_⟩
            refine ra_done (by kernel_rfl) ?_
            exact ⟨aD b4, B9, c9, (fc (hf1.g 1 0) (fc (hf1.g 2 1) (fc (hf1.g 4 2) (fc (hf1.g 5 3) (fc (hf1.g 6 4) (fc (hf1.g 7 5) (fc rfl fn_))))))), (hS35.sel [0, 1, 10, 2, 3, 7, 11] rfl rfl)⟩
           exact aN
          exact aN
         exact aN
        exact aN
       exact aN
      refine rS 8 13 rfl (yN kN_ 3 hS17 K12) ?_ ?_
      ·rintro _ w_24 ⟨b4, rfl, hS36⟩
       refine ⟨(hS36.se [0, 1, 2, 3]), ?_⟩
       refine rA [8] ?_
       refine rC 28 8 rfl (yC [vi (j : Int)] K92 (c_spec_l9Pauli (j : Int) _  (hS36.inn0 [] rfl) hc2)) ?_ ?_
       ·rintro _ w_25 ⟨B6, c6, rfl, hd12⟩
        have hS37 := hS36.out0 hd12
        refine ⟨(hS37.se [0, 1, 2, 3]), ?_⟩
        refine rA [9] ?_
        refine rC 29 9 rfl (yC [pt (aD b2) 0, gM_ r_3 B5 c5, gM_ r_4 B6 c6] K49 (c_spec_l2C_times m1 r_3 r_4 (aD b2) B5 c5 r_3.Cells.length B6 c6 r_4.Cells.length _ rfl rfl (hS37.inn [false, false, false, false, false, true, false, false, false] rfl [(false, 5), (false, 7)] rfl) hc3)) ?_ ?_
        ·rintro _ w_26 ⟨B7, c7, rfl, hd13⟩
         have hS38 := hS37.out [false, false, false, false, false, true, false, false, false] rfl hd13
         refine ⟨(hS38.se [0, 1, 2, 3]), ?_⟩
         refine rA [11] ?_
         refine rC 31 11 rfl (yC [gM_ m B c] K93 (c_spec_l3Adj m B c m.Cells.length _ rfl (hS38.inn0 [(true, 0)] rfl) hc4)) ?_ ?_
         ·rintro _ w_27 ⟨B8, c8, rfl, hd14⟩
          have hS39 := hS38.out0 hd14
          refine ⟨(hS39.se [0, 1, 2, 3]), ?_⟩
          refine rA [12] ?_
          refine rC 32 12 rfl (yC [pt (aD b2) 0, gM_ r_5 B7 c7, gM_ r_6 B8 c8] K49 (c_spec_l2C_times m2 r_5 r_6 (aD b2) B7 c7 r_5.Cells.length B8 c8 r_6.Cells.length _ rfl rfl (hS39.inn [false, false, false, false, false, false, false, false, true, false, false] rfl [(false, 8), (false, 9)] rfl) hc5)) ?_ ?_
          ·rintro _ w_28 ⟨B9, c9, rfl, hd15⟩
           have hS40 := hS39.out [false, false, false, false, false, false, false, false, true, false, false] rfl hd15
           refine ⟨(hS40.se [0, 1, 2, 3]), ?_⟩
           refine rA [14] ?_
           refine rZ 14 rfl (yT 6 3 (aD b4) 26 (gM_ r_7 B9 c9) (kM_ r_7 B9 c9) 0 hS40 K3) ?_ ?_
           ·rintro _ w_29 ⟨rfl, hS41⟩
            refine ⟨(hS41.se [0, 1, 2, 3]), ?_⟩
            refine ra_done (by kernel_rfl) ?_
            exact ⟨aD b4, B9, c9, (fc (hf1.g 1 0) (fc (hf1.g 2 1) (fc (hf1.g 4 2) (fc (hf1.g 5 3) (fc (hf1.g 6 4) (fc (hf1.g 7 5) (fc rfl fn_))))))), (hS41.sel [0, 1, 10, 2, 3, 6, 11] rfl rfl)⟩
           exact aN
          exact aN
         exact aN
        exact aN
       exact aN
      exact aN
     refine rS 8 13 rfl (yN kN_ 3 hS16 K12) ?_ ?_
     ·rintro _ w_30 ⟨b4, rfl, hS42⟩
      have hS42 : ST w0 [] _ [⟨aD b, 26, kM_ m B c, 3⟩, ⟨aD b1, 54, [.slice none 0 0], 1⟩, ⟨aD b2, 84, [.bool bad1], 1⟩, ⟨aD b3, 54, [.slice B3 Cells1.length c3], 1⟩, ⟨B3, 48, (Cells1.flatMap eN0), c3 * 5⟩, ⟨B4, 48, (r_2.Cells.flatMap eN0), c4 * 5⟩, ⟨aD b4, 26, kN_, 3⟩] [⟨B, (m.Cells.flatMap eN0)⟩] := hS42
      refine ⟨(hS42.se [0, 1, 3, 4]), ?_⟩
      refine rA [6] ?_
      refine rC 26 6 rfl (yC [pt (aD b2) 0, gM_ r_2 B4 c4, gM_ m B c] K49 (c_spec_l2C_times (Tl2C.mk bad1) r_2 m (aD b2) B4 c4 r_2.Cells.length B c m.Cells.length _ rfl rfl (hS42.inn [false, false, true, false, false, false, false] rfl [(false, 4), (true, 0)] rfl) hc1)) ?_ ?_
      ·rintro _ w_31 ⟨B5, c5, rfl, hd16⟩
       have hS43 := hS42.out [false, false, true, false, false, false, false] rfl hd16
       refine ⟨(hS43.se [0, 1, 2, 3]), ?_⟩
       refine rA [8] ?_
       refine rC 28 8 rfl (yC [vi (j : Int)] K92 (c_spec_l9Pauli (j : Int) _  (hS43.inn0 [] rfl) hc2)) ?_ ?_
       ·rintro _ w_32 ⟨B6, c6, rfl, hd17⟩
        have hS44 := hS43.out0 hd17
        refine ⟨(hS44.se [0, 1, 2, 3]), ?_⟩
        refine rA [9] ?_
        refine rC 29 9 rfl (yC [pt (aD b2) 0, gM_ r_3 B5 c5, gM_ r_4 B6 c6] K49 (c_spec_l2C_times m1 r_3 r_4 (aD b2) B5 c5 r_3.Cells.length B6 c6 r_4.Cells.length _ rfl rfl (hS44.inn [false, false, false, false, false, false, true, false, false] rfl [(false, 6), (false, 7)] rfl) hc3)) ?_ ?_
        ·rintro _ w_33 ⟨B7, c7, rfl, hd18⟩
         have hS45 := hS44.out [false, false, false, false, false, false, true, false, false] rfl hd18
         refine ⟨(hS45.se [0, 1, 2, 3]), ?_⟩
         refine rA [11] ?_
         refine rC 31 11 rfl (yC [gM_ m B c] K93 (c_spec_l3Adj m B c m.Cells.length _ rfl (hS45.inn0 [(true, 0)] rfl) hc4)) ?_ ?_
         ·rintro _ w_34 ⟨B8, c8, rfl, hd19⟩
          have hS46 := hS45.out0 hd19
          refine ⟨(hS46.se [0, 1, 2, 3]), ?_⟩
          refine rA [12] ?_
          refine rC 32 12 rfl (yC [pt (aD b2) 0, gM_ r_5 B7 c7, gM_ r_6 B8 c8] K49 (c_spec_l2C_times m2 r_5 r_6 (aD b2) B7 c7 r_5.Cells.length B8 c8 r_6.Cells.length _ rfl rfl (hS46.inn [false, false, false, false, false, false, false, false, true, false, false] rfl [(false, 8), (false, 9)] rfl) hc5)) ?_ ?_
          ·rintro _ w_35 ⟨B9, c9, rfl, hd20⟩
           have hS47 := hS46.out [false, false, false, false, false, false, false, false, true, false, false] rfl hd20
           refine ⟨(hS47.se [0, 1, 2, 3]), ?_⟩
           refine rA [14] ?_
           refine rZ 14 rfl (yT 5 3 (aD b4) 26 (gM_ r_7 B9 c9) (kM_ r_7 B9 c9) 0 hS47 K3) ?_ ?_
           ·rintro _ w_36 ⟨rfl, hS48⟩
            refine ⟨(hS48.se [0, 1, 2, 3]), ?_⟩
            refine ra_done (by kernel_rfl) ?_
            exact ⟨aD b4, B9, c9, (fc (hf1.g 1 0) (fc (hf1.g 2 1) (fc (hf1.g 4 2) (fc (hf1.g 5 3) (fc (hf1.g 6 4) (fc (hf1.g 7 5) (fc rfl fn_))))))), (hS48.sel [0, 1, 10, 2, 3, 5, 11] rfl rfl)⟩
           exact aN
          exact aN
         exact aN
        exact aN
       exact aN
      exact aN
     exact aN
    refine rS 8 13 rfl (yN kN_ 3 hS15 K12) ?_ ?_
    ·rintro _ w_37 ⟨b4, rfl, hS49⟩
     refine ⟨(hS49.se [0, 1, 3, 4]), ?_⟩
     refine rA [4] ?_
     refine rC 24 4 rfl (yC [vi (i1 : Int)] K92 (c_spec_l9Pauli (i1 : Int) _  (hS49.inn0 [] rfl) hc)) ?_ ?_
     ·rintro _ w_38 ⟨B4, c4, rfl, hd21⟩
      have hS50 := hS49.out0 hd21
      refine ⟨(hS50.se [0, 1, 3, 4]), ?_⟩
      refine rA [6] ?_
      refine rC 26 6 rfl (yC [pt (aD b2) 0, gM_ r_2 B4 c4, gM_ m B c] K49 (c_spec_l2C_times (Tl2C.mk bad1) r_2 m (aD b2) B4 c4 r_2.Cells.length B c m.Cells.length _ rfl rfl (hS50.inn [false, false, true, false, false, false, false] rfl [(false, 5), (true, 0)] rfl) hc1)) ?_ ?_
      ·rintro _ w_39 ⟨B5, c5, rfl, hd22⟩
       have hS51 := hS50.out [false, false, true, false, false, false, false] rfl hd22
       refine ⟨(hS51.se [0, 1, 2, 3]), ?_⟩
       refine rA [8] ?_
       refine rC 28 8 rfl (yC [vi (j : Int)] K92 (c_spec_l9Pauli (j : Int) _  (hS51.inn0 [] rfl) hc2)) ?_ ?_
       ·rintro _ w_40 ⟨B6, c6, rfl, hd23⟩
        have hS52 := hS51.out0 hd23
        refine ⟨(hS52.se [0, 1, 2, 3]), ?_⟩
        refine rA [9] ?_
        refine rC 29 9 rfl (yC [pt (aD b2) 0, gM_ r_3 B5 c5, gM_ r_4 B6 c6] K49 (c_spec_l2C_times m1 r_3 r_4 (aD b2) B5 c5 r_3.Cells.length B6 c6 r_4.Cells.length _ rfl rfl (hS52.inn [false, false, false, false, false, false, true, false, false] rfl [(false, 6), (false, 7)] rfl) hc3)) ?_ ?_
        ·rintro _ w_41 ⟨B7, c7, rfl, hd24⟩
         have hS53 := hS52.out [false, false, false, false, false, false, true, false, false] rfl hd24
         refine ⟨(hS53.se [0, 1, 2, 3]), ?_⟩
         refine rA [11] ?_
         refine rC 31 11 rfl (yC [gM_ m B c] K93 (c_spec_l3Adj m B c m.Cells.length _ rfl (hS53.inn0 [(true, 0)] rfl) hc4)) ?_ ?_
         ·rintro _ w_42 ⟨B8, c8, rfl, hd25⟩
          have hS54 := hS53.out0 hd25
          refine ⟨(hS54.se [0, 1, 2, 3]), ?_⟩
          refine rA [12] ?_
          refine rC 32 12 rfl (yC [pt (aD b2) 0, gM_ r_5 B7 c7, gM_ r_6 B8 c8] K49 (c_spec_l2C_times m2 r_5 r_6 (aD b2) B7 c7 r_5.Cells.length B8 c8 r_6.Cells.length _ rfl rfl (hS54.inn [false, false, false, false, false, false, false, false, true, false, false] rfl [(false, 8), (false, 9)] rfl) hc5)) ?_ ?_
          ·rintro _ w_43 ⟨B9, c9, rfl, hd26⟩
           have hS55 := hS54.out [false, false, false, false, false, false, false, false, true, false, false] rfl hd26
           refine ⟨(hS55.se [0, 1, 2, 3]), ?_⟩
           refine rA [14] ?_
           refine rZ 14 rfl (yT 4 3 (aD b4) 26 (gM_ r_7 B9 c9) (kM_ r_7 B9 c9) 0 hS55 K3) ?_ ?_
           ·rintro _ w_44 ⟨rfl, hS56⟩
            refine ⟨(hS56.se [0, 1, 2, 3]), ?_⟩
            refine ra_done (by kernel_rfl) ?_
            exact ⟨aD b4, B9, c9, (fc (hf1.g 1 0) (fc (hf1.g 2 1) (fc (hf1.g 4 2) (fc (hf1.g 5 3) (fc (hf1.g 6 4) (fc (hf1.g 7 5) (fc rfl fn_))))))), (hS56.sel [0, 1, 10, 2, 3, 4, 11] rfl rfl)⟩
           exact aN
          exact aN
         exact aN
        exact aN
       exact aN
      exact aN
     exact aN
    exact aN
   rintro f w ⟨B10, B11, c10, hf2, hS14⟩
   refine cq ?_
   obtain ⟨x, hx, hb1⟩ := bI hb1
   obtain ⟨x1, hx1, hb1⟩ := bI hb1
   obtain ⟨⟨r_8, m4⟩, hc6, hb1⟩ := bI hb1
   refine cw_mid (fun f w => ∃ (B12 : Option Addr), FF f [(1, pt (aD b) 0), (2, pt (aD b1) 0), (4, pt (aD b2) 0), (5, pt (aD b3) 0), (6, vi (i1 : Int)), (7, vi (j : Int)), (9, pt B12 0)] ∧ ST w0 [] w [⟨aD b, 26, kM_ m B c, 3⟩, ⟨aD b1, 54, [.slice none 0 0], 1⟩, ⟨aD b2, 84, [.bool m4.bad], 1⟩, ⟨aD b3, 54, [.slice B3 Cells1.length c3], 1⟩, ⟨B3, 48, (Cells1.flatMap eN0), c3 * 5⟩, ⟨B12, 48, kD_ r_8, 5⟩] [⟨B, (m.Cells.flatMap eN0)⟩]) ?_ ?_
   ·skip
    refine ra_start (hS14.se [0, 1, 3, 4, 5, 6]).fn (by kernel_rfl) ?_
    have hS59 := hS14.drew
    refine rq 0 33 (v := pt (aD b2) 0) rfl (hS59.se [0, 1, 3, 4, 5, 6]) (fun w' hw' => (ym (pt (aD b2) 0) rfl (hf2.g 4 2))) ?_
    refine rq 1 34 (v := pt B10 2) rfl (hS59.se [0, 1, 3, 4, 5, 6]) (fun w' hw' => (yd B10 0 0 K29 K11 rfl (hf2.g 8 6))) ?_
    refine rq 2 35 (v := .slice B11 r_7.Cells.length c10) rfl (hS59.se [0, 1, 3, 4, 5, 6]) (fun w' hw' => (yl B10 2 (kM_ r_7 B11 c10) (.slice B11 r_7.Cells.length c10) K16 (ST.cf hw' (i := 4) rfl))) ?_
    refine rq 3 36 (v := pt B11 ((0 : Int).toNat * 5)) rfl (hS59.se [0, 1, 3, 4, 5, 6]) (fun w' hw' => (Y_index (B := B11) (m := r_7.Cells.length) (c := c10) (k := .i64) (i := 0) K9 K1 rfl rfl rfl (gi_isSome eN2 rfl (ST.cf hw' (i := 5) rfl) hx) (getI_nn hx) (getI_ltI hx rfl))) ?_
    refine rq 4 37 (v := gD_ x) rfl (hS59.se [0, 1, 3, 4, 5, 6]) (fun w' hw' => (ya B11 ((0 : Int).toNat * 5) (r_7.Cells.flatMap eN0) (kD_ x) K4 K1 (ST.cf hw' (i := 5) rfl) rfl rfl (eN2 x) (gi_seg eN2 hx))) ?_
    refine rq 5 38 (v := pt B10 2) rfl (hS59.se [0, 1, 3, 4, 5, 6]) (fun w' hw' => (yd B10 0 0 K29 K11 rfl (hf2.g 8 6))) ?_
    refine rq 6 39 (v := .slice B11 r_7.Cells.length c10) rfl (hS59.se [0, 1, 3, 4, 5, 6]) (fun w' hw' => (yl B10 2 (kM_ r_7 B11 c10) (.slice B11 r_7.Cells.length c10) K16 (ST.cf hw' (i := 4) rfl))) ?_
    refine rq 7 40 (v := pt B11 ((3 : Int).toNat * 5)) rfl (hS59.se [0, 1, 3, 4, 5, 6]) (fun w' hw' => (Y_index (B := B11) (m := r_7.Cells.length) (c := c10) (k := .i64) (i := 3) K9 K1 rfl rfl rfl (gi_isSome eN2 rfl (ST.cf hw' (i := 5) rfl) hx1) (getI_nn hx1) (getI_ltI hx1 rfl))) ?_
    refine rq 8 41 (v := gD_ x1) rfl (hS59.se [0, 1, 3, 4, 5, 6]) (fun w' hw' => (ya B11 ((3 : Int).toNat * 5) (r_7.Cells.flatMap eN0) (kD_ x1) K4 K1 (ST.cf hw' (i := 5) rfl) rfl rfl (eN2 x1) (gi_seg eN2 hx1))) ?_
    refine rA [9, 10] ?_
    refine rC 42 9 rfl (yC [pt (aD b2) 0, gD_ x, gD_ x1] K116 (c_spec_l2C_add m3 x x1 (aD b2) _  (hS59.inn [false, false, true, false, false, false, false] rfl [] rfl) hc6)) ?_ ?_
    ·rintro _ w_45 ⟨rfl, hd27⟩
     have hS60 := hS59.out [false, false, true, false, false, false, false] rfl hd27
     refine ⟨(hS60.se [0, 1, 2, 3, 4, 5]), ?_⟩
     refine rA [10] ?_
     refine rS 9 10 rfl (yN kZ_ 5 hS60 K6) ?_ ?_
     ·rintro _ w_46 ⟨b5, rfl, hS61⟩
      refine ⟨(hS61.se [0, 1, 2, 3, 4, 5]), ?_⟩
      refine rA [11] ?_
      refine rZ 11 rfl (yT 7 5 (aD b5) 48 (gD_ r_8) (kD_ r_8) 0 hS61 K1) ?_ ?_
      ·rintro _ w_47 ⟨rfl, hS62⟩
       refine ⟨(hS62.se [0, 1, 2, 3, 4, 5]), ?_⟩
       refine ra_done (by kernel_rfl) ?_
       exact ⟨aD b5, (fc (hf2.g 1 0) (fc (hf2.g 2 1) (fc (hf2.g 4 2) (fc (hf2.g 5 3) (fc (hf2.g 6 4) (fc (hf2.g 7 5) (fc rfl fn_))))))), (hS62.sel [0, 1, 6, 2, 3, 7] rfl rfl)⟩
      exact aN
     exact aN
    refine rS 9 10 rfl (yN kZ_ 5 hS59 K6) ?_ ?_
    ·rintro _ w_48 ⟨b5, rfl, hS63⟩
     refine ⟨(hS63.se [0, 1, 3, 4, 5, 6]), ?_⟩
     refine rA [9] ?_
     refine rC 42 9 rfl (yC [pt (aD b2) 0, gD_ x, gD_ x1] K116 (c_spec_l2C_add m3 x x1 (aD b2) _  (hS63.inn [false, false, true, false, false, false, false, false] rfl [] rfl) hc6)) ?_ ?_
     ·rintro _ w_49 ⟨rfl, hd28⟩
      have hS64 := hS63.out [false, false, true, false, false, false, false, false] rfl hd28
      refine ⟨(hS64.se [0, 1, 2, 3, 4, 5]), ?_⟩
      refine rA [11] ?_
      refine rZ 11 rfl (yT 6 5 (aD b5) 48 (gD_ r_8) (kD_ r_8) 0 hS64 K1) ?_ ?_
      ·rintro _ w_50 ⟨rfl, hS65⟩
       refine ⟨(hS65.se [0, 1, 2, 3, 4, 5]), ?_⟩
       refine ra_done (by kernel_rfl) ?_
       exact ⟨aD b5, (fc (hf2.g 1 0) (fc (hf2.g 2 1) (fc (hf2.g 4 2) (fc (hf2.g 5 3) (fc (hf2.g 6 4) (fc (hf2.g 7 5) (fc rfl fn_))))))), (hS65.sel [0, 1, 7, 2, 3, 6] rfl rfl)⟩
      exact aN
     exact aN
    exact aN
   rintro f w ⟨B12, hf3, hS58⟩
   obtain ⟨⟨r_9, m5⟩, hc7, hb1⟩ := bI hb1
   obtain ⟨hap, hb1⟩ := chk_inv hb1
   refine cw_mid (fun f w => ∃ (B14 : Option Addr) (c12 : Nat), FF f [(1, pt (aD b) 0), (2, pt (aD b1) 0), (4, pt (aD b2) 0), (5, pt (aD b3) 0), (6, vi (i1 : Int)), (7, vi (j : Int))] ∧ ST w0 [] w [⟨aD b, 26, kM_ m B c, 3⟩, ⟨aD b1, 54, [.slice none 0 0], 1⟩, ⟨aD b2, 84, [.bool m5.bad], 1⟩, ⟨aD b3, 54, [.slice B14 ((Cells1 ++ [r_9]).length) c12], 1⟩, ⟨B14, 48, ((Cells1 ++ [r_9]).flatMap eN0), c12 * 5⟩] [⟨B, (m.Cells.flatMap eN0)⟩]) ?_ ?_
   ·skip
    refine ra_start (hS58.se [0, 1, 5]).fn (by kernel_rfl) ?_
    have hS68 := hS58.drew
    refine rq 0 43 (v := pt (aD b3) 0) rfl (hS68.se [0, 1, 5]) (fun w' hw' => (yd (aD b3) 0 0 K40 K11 rfl (hf3.g 5 3))) ?_
    refine rq 2 45 (v := pt (aD b2) 0) rfl (hS68.se [0, 1, 5]) (fun w' hw' => (ym (pt (aD b2) 0) rfl (hf3.g 4 2))) ?_
    refine rq 3 46 (v := gD_ r_8) rfl (hS68.se [0, 1, 5]) (fun w' hw' => (yb B12 0 (kD_ r_8) K4 K1 (ST.cf hw' (i := 2) rfl) rfl (hf3.g 9 6))) ?_
    refine rq 4 47 (v := .agg #[vi 1, vi 0, vi 0, vi 0]) rfl (hS68.se [0, 1, 5]) (fun w' hw' => (Y_buildS (zs := [vi 0, vi 0, vi 0, vi 0]) (vs := [(0, vi 1)]) (cs := [vi 1, vi 0, vi 0, vi 0]) K31 K13 rfl (mpc rfl mpn) rfl)) ?_
    refine rq 5 48 (v := .agg #[vi 1, vi 0, vi 0, vi 0, vi 2]) rfl (hS68.se [0, 1, 5]) (fun w' hw' => (Y_buildS (zs := kZ_) (vs := [(0, .agg #[vi 1, vi 0, vi 0, vi 0]), (1, vi 2)]) (cs := [vi 1, vi 0, vi 0, vi 0, vi 2]) K18 K6 rfl (mpc rfl (mpc rfl mpn)) rfl)) ?_
    refine rA [1, 6] ?_
    refine ra_y 44 (i := 1) (v := .slice B3 Cells1.length c3) rfl rfl rfl (yl (aD b3) 0 [.slice B3 Cells1.length c3] (.slice B3 Cells1.length c3) K16 (hS68.c 3)) (hS68.se [0, 1, 5]) ?_ ?_
    ·skip
     refine rA [6] ?_
     refine rC 49 6 rfl (yC [pt (aD b2) 0, gD_ r_8, .agg #[vi 1, vi 0, vi 0, vi 0, vi 2]] K115 (c_spec_l2C_mul m4 r_8 (TDyadic.mk (TRing.mk 1 0 0 0) 2) (aD b2) _  (hS68.inn [false, false, true, false, false, false] rfl [] rfl) hc7)) ?_ ?_
     ·rintro _ w_51 ⟨rfl, hd29⟩
      have hS69 := hS68.out [false, false, true, false, false, false] rfl hd29
      refine ⟨(hS69.se [0, 1, 4]), ?_⟩
      refine rA [7] ?_
      refine rS 50 7 rfl (Ys_bslice (s := 5) (len := 1) (vs := [(0, gD_ r_9)]) (cs := kD_ r_9) (zs := kZ_) (m := 5) hS69 K9 K1 K38 rfl (mpc rfl mpn) rfl rfl rfl (by kernel_rfl) (by kernel_rfl) rfl) ?_ ?_
      ·rintro _ w_52 ⟨b6, rfl, hS70⟩
       refine ⟨(hS70.se [0, 1, 4]), ?_⟩
       refine rA [8] ?_
       refine rS 51 8 rfl (Ys_append (s := 5) (by' := 40) (i := 3) (nn := Cells1.length) (c := c3) (k := 1) (len := (Cells1 ++ [r_9]).length) (B := B3) (xs := ([r_9].flatMap eN0)) (cs' := ((Cells1 ++ [r_9]).flatMap eN0)) hS70 K9 K1 K47 K6 rfl (by decide) rfl rfl rfl rfl (fm_lenn (l := Cells1) eN2 rfl) rfl (hS70.c 6) (fm_lenn (l := [r_9]) eN2 rfl) (fm_one' (enc := eN0) enc_Dyadic_one [r_9]) (by have := hap; omega) (by have := hap; simp only [maxLen]; omega) (fm_app _ _) (app_len (l := Cells1) (l' := [r_9]) rfl rfl)) ?_ ?_
       ·rintro _ w_53 ⟨B13, c11, rfl, hS71⟩
        refine ⟨(hS71.se [0, 1, 4]), ?_⟩
        refine rq 9 52 (v := pt (aD b3) 0) rfl (hS71.se [0, 1, 4]) (fun w' hw' => (yd (aD b3) 0 0 K40 K11 rfl (hf3.g 5 3))) ?_
        refine rA [10] ?_
        refine rZ 10 rfl (yT 2 1 (aD b3) 54 (.slice B13 ((Cells1 ++ [r_9]).length) c11) [.slice B13 ((Cells1 ++ [r_9]).length) c11] 0 hS71 K11) ?_ ?_
        ·rintro _ w_54 ⟨rfl, hS72⟩
         refine ⟨(hS72.se [0, 1, 4]), ?_⟩
         refine ra_done (by kernel_rfl) ?_
         exact ⟨B13, c11, (fc (hf3.g 1 0) (fc (hf3.g 2 1) (fc (hf3.g 4 2) (fc (hf3.g 5 3) (fc (hf3.g 6 4) (fc (hf3.g 7 5) fn_)))))), (hS72.sel [0, 1, 5, 2, 3] rfl rfl)⟩
        exact aN
       exact aN
      exact aN
     exact aN
    refine rC 49 6 rfl (yC [pt (aD b2) 0, gD_ r_8, .agg #[vi 1, vi 0, vi 0, vi 0, vi 2]] K115 (c_spec_l2C_mul m4 r_8 (TDyadic.mk (TRing.mk 1 0 0 0) 2) (aD b2) _  (hS68.inn [false, false, true, false, false, false] rfl [] rfl) hc7)) ?_ ?_
    ·rintro _ w_55 ⟨rfl, hd30⟩
     have hS73 := hS68.out [false, false, true, false, false, false] rfl hd30
     refine ⟨(hS73.se [0, 1, 4]), ?_⟩
     refine rA [1, 7] ?_
     refine ra_y 44 (i := 1) (v := .slice B3 Cells1.length c3) rfl rfl rfl (yl (aD b3) 0 [.slice B3 Cells1.length c3] (.slice B3 Cells1.length c3) K16 (hS73.c 2)) (hS73.se [0, 1, 4]) ?_ ?_
     ·skip
      refine rA [7] ?_
      refine rS 50 7 rfl (Ys_bslice (s := 5) (len := 1) (vs := [(0, gD_ r_9)]) (cs := kD_ r_9) (zs := kZ_) (m := 5) hS73 K9 K1 K38 rfl (mpc rfl mpn) rfl rfl rfl (by kernel_rfl) (by kernel_rfl) rfl) ?_ ?_
      ·rintro _ w_56 ⟨b6, rfl, hS74⟩
       refine ⟨(hS74.se [0, 1, 4]), ?_⟩
       refine rA [8] ?_
       refine rS 51 8 rfl (Ys_append (s := 5) (by' := 40) (i := 3) (nn := Cells1.length) (c := c3) (k := 1) (len := (Cells1 ++ [r_9]).length) (B := B3) (xs := ([r_9].flatMap eN0)) (cs' := ((Cells1 ++ [r_9]).flatMap eN0)) hS74 K9 K1 K47 K6 rfl (by decide) rfl rfl rfl rfl (fm_lenn (l := Cells1) eN2 rfl) rfl (hS74.c 6) (fm_lenn (l := [r_9]) eN2 rfl) (fm_one' (enc := eN0) enc_Dyadic_one [r_9]) (by have := hap; omega) (by have := hap; simp only [maxLen]; omega) (fm_app _ _) (app_len (l := Cells1) (l' := [r_9]) rfl rfl)) ?_ ?_
       ·rintro _ w_57 ⟨B13, c11, rfl, hS75⟩
        refine ⟨(hS75.se [0, 1, 4]), ?_⟩
        refine rq 9 52 (v := pt (aD b3) 0) rfl (hS75.se [0, 1, 4]) (fun w' hw' => (yd (aD b3) 0 0 K40 K11 rfl (hf3.g 5 3))) ?_
        refine rA [10] ?_
        refine rZ 10 rfl (yT 2 1 (aD b3) 54 (.slice B13 ((Cells1 ++ [r_9]).length) c11) [.slice B13 ((Cells1 ++ [r_9]).length) c11] 0 hS75 K11) ?_ ?_
        ·rintro _ w_58 ⟨rfl, hS76⟩
         refine ⟨(hS76.se [0, 1, 4]), ?_⟩
         refine ra_done (by kernel_rfl) ?_
         exact ⟨B13, c11, (fc (hf3.g 1 0) (fc (hf3.g 2 1) (fc (hf3.g 4 2) (fc (hf3.g 5 3) (fc (hf3.g 6 4) (fc (hf3.g 7 5) fn_)))))), (hS76.sel [0, 1, 5, 2, 3] rfl rfl)⟩
        exact aN
       exact aN
      exact aN
     refine rS 50 7 rfl (Ys_bslice (s := 5) (len := 1) (vs := [(0, gD_ r_9)]) (cs := kD_ r_9) (zs := kZ_) (m := 5) hS73 K9 K1 K38 rfl (mpc rfl mpn) rfl rfl rfl (by kernel_rfl) (by kernel_rfl) rfl) ?_ ?_
     ·rintro _ w_59 ⟨b6, rfl, hS77⟩
      refine ⟨(hS77.se [0, 1, 4]), ?_⟩
      refine rA [1] ?_
      refine ra_y 44 (i := 1) (v := .slice B3 Cells1.length c3) rfl rfl rfl (yl (aD b3) 0 [.slice B3 Cells1.length c3] (.slice B3 Cells1.length c3) K16 (hS77.c 2)) (hS77.se [0, 1, 4]) ?_ ?_
      ·skip
       refine rA [8] ?_
       refine rS 51 8 rfl (Ys_append (s := 5) (by' := 40) (i := 3) (nn := Cells1.length) (c := c3) (k := 1) (len := (Cells1 ++ [r_9]).length) (B := B3) (xs := ([r_9].flatMap eN0)) (cs' := ((Cells1 ++ [r_9]).flatMap eN0)) hS77 K9 K1 K47 K6 rfl (by decide) rfl rfl rfl rfl (fm_lenn (l := Cells1) eN2 rfl) rfl (hS77.c 6) (fm_lenn (l := [r_9]) eN2 rfl) (fm_one' (enc := eN0) enc_Dyadic_one [r_9]) (by have := hap; omega) (by have := hap; simp only [maxLen]; omega) (fm_app _ _) (app_len (l := Cells1) (l' := [r_9]) rfl rfl)) ?_ ?_
       ·rintro _ w_60 ⟨B13, c11, rfl, hS78⟩
        have hS78 : ST w0 [] _ [⟨aD b, 26, kM_ m B c, 3⟩, ⟨aD b1, 54, [.slice none 0 0], 1⟩, ⟨aD b3, 54, [.slice B3 Cells1.length c3], 1⟩, ⟨B13, 48, ((Cells1 ++ [r_9]).flatMap eN0), c11 * 5⟩, ⟨B12, 48, kD_ r_8, 5⟩, ⟨aD b2, 84, [.bool m5.bad], 1⟩, ⟨aD b6, 48, ([r_9].flatMap eN0), 1 * 5⟩] [⟨B, (m.Cells.flatMap eN0)⟩] := hS78
        refine ⟨(hS78.se [0, 1, 4]), ?_⟩
        refine rq 9 52 (v := pt (aD b3) 0) rfl (hS78.se [0, 1, 4]) (fun w' hw' => (yd (aD b3) 0 0 K40 K11 rfl (hf3.g 5 3))) ?_
        refine rA [10] ?_
        refine rZ 10 rfl (yT 2 1 (aD b3) 54 (.slice B13 ((Cells1 ++ [r_9]).length) c11) [.slice B13 ((Cells1 ++ [r_9]).length) c11] 0 hS78 K11) ?_ ?_
        ·rintro _ w_61 ⟨rfl, hS79⟩
         refine ⟨(hS79.se [0, 1, 4]), ?_⟩
         refine ra_done (by kernel_rfl) ?_
         exact ⟨B13, c11, (fc (hf3.g 1 0) (fc (hf3.g 2 1) (fc (hf3.g 4 2) (fc (hf3.g 5 3) (fc (hf3.g 6 4) (fc (hf3.g 7 5) fn_)))))), (hS79.sel [0, 1, 5, 2, 3] rfl rfl)⟩
        exact aN
       exact aN
      exact aN
     exact aN
    exact aN
   rintro f w ⟨B14, c12, hf4, hS67⟩
   refine cr ?_
   refine sQ 18 (ym (vi (j : Int)) rfl (hf4.g 7 5)) <| sQ 19 (yP (j : Int) 1) <| sQ 7 (yg (vi (i64.wrap ((j : Int) + 1)))) (rn ?_)
   obtain rfl := sI hb1
   exact ⟨K28, Nat.lt_succ_self _, j + 1, m5.bad, (Cells1 ++ [r_9]), B14, c12, (fc (hf4.g 1 0) (fc (hf4.g 2 1) (fc (hf4.g 4 2) (fc (hf4.g 5 3) (fc (hf4.g 6 4) (fc (congrArg (Value.int .i64) (wr_succ hlt3 (show 3 ≤ 9223372036854775807 by decide))) fn_)))))), (hS67.sel [0, 1, 2, 3, 4] rfl rfl), (by omega), hL3⟩
  ·skip
   obtain rfl : K15 = 0 := by have h := of_decide_eq_false hlt2; omega
   refine cw_exit rfl ?_
   obtain rfl := sI hL2
   refine cr ?_
   refine sQ 14 (ym (vi (i1 : Int)) rfl (hf1.g 6 4)) <| sQ 15 (yP (i1 : Int) 1) <| sQ 6 (yg (vi (i64.wrap ((i1 : Int) + 1)))) (rn ?_)
   obtain rfl := sI hF2
   exact ⟨K7, Nat.lt_succ_self _, i1 + 1, bad1, Cells1, B3, c3, (fc (hf1.g 1 0) (fc (hf1.g 2 1) (fc (hf1.g 4 2) (fc (hf1.g 5 3) (fc (congrArg (Value.int .i64) (wr_succ hlt1 (show 3 ≤ 9223372036854775807 by decide))) fn_))))), (hS7.sel [0, 1, 2, 3, 4] rfl rfl), (by omega), hL1⟩
 ·skip
  obtain rfl : k_ = 0 := by have h := of_decide_eq_false hlt; omega
  refine cw_exit rfl ?_
  obtain rfl := sI hL
  refine cq (cq (cr ?_))
  refine sQ 53 (ym (pt (aD b2) 0) rfl (hf.g 4 2)) <| sQ 54 (Y_nilCheck (B := aD b2) (i := 0) rfl rfl) <| sQ 55 (yd (aD b2) 0 0 K107 K79) <| sQ 56 (yl (aD b2) 0 [.bool bad] (.bool bad) K126 (hS5.c 2)) (rn ?_)
  refine cw_cond (b := bad) rfl (fun hb2 => ?_) (fun hb2 => ?_)
  ·skip
   have hF3 := ct hF1 hb2
   refine cq (cr ?_)
   refine sQ 57 (Y_buildS (zs := [.slice none 0 0]) (vs := []) (cs := [.slice none 0 0]) K70 K39 rfl mpn rfl) ?_
   refine s0 (yT 1 1 (aD b1) 54 (.agg #[.slice none 0 0]) [.slice none 0 0] 0 hS5 K26 rfl (hf.g 2 1)) ?_
   rintro _ w_62 ⟨rfl, hS80⟩
   refine sQ 3 (yg (.bool false)) (rn (ct_ ?_))
   have hS81 := hS80.addNil 48
   obtain ⟨rfl, rfl⟩ := pr2 (sI hF3)
   exact ret2 Tryz.results73 (v1 := .agg #[.slice none 0 0]) (resAt_cellA (B := aD b1) (i := 0) (cs := [.slice none 0 0]) (vs := [.slice none 0 0]) (hf.g 2 1) K51 K26 (hS81.c 1) rfl rfl) (v2 := .bool false) (resAt_tmp rfl) ⟨none, 0, rfl, (hS81.sN [5])⟩
  ·skip
   have hF4 := cf' hF1 hb2
   refine cw_skip (cq (cr ?_))
   refine sQ 58 (yb (aD b3) 0 [.slice B2 Cells.length c2] K51 K26 (hS5.c 3) rfl (hf.g 5 3)) ?_
   refine s0 (yT 1 1 (aD b1) 54 (.agg #[.slice B2 Cells.length c2]) [.slice B2 Cells.length c2] 0 hS5 K26 rfl (hf.g 2 1)) ?_
   rintro _ w_63 ⟨rfl, hS82⟩
   refine sQ 3 (yg (.bool true)) (rn (ct_ ?_))
   obtain ⟨rfl, rfl⟩ := pr2 (sI hF4)
   exact ret2 Tryz.results73 (v1 := .agg #[.slice B2 Cells.length c2]) (resAt_cellA (B := aD b1) (i := 0) (cs := [.slice B2 Cells.length c2]) (vs := [.slice B2 Cells.length c2]) (hf.g 2 1) K51 K26 (hS82.c 1) rfl rfl) (v2 := .bool true) (resAt_tmp rfl) ⟨B2, c2, rfl, (hS82.sN [4])⟩

theorem c_spec_l9Word (w_ : List UInt8)  (w0 : World)  (hS : ST w0 [] w0 [] []) {r_ : TMatrix} (hF : F_spec_l9Word w_ = some r_) :
  CV Tryz.prog 74 #[.string (bstr w_)] w0 (fun v w' => ∃ (B : Option Addr) (c : Nat), v = (gM_ r_ B c) ∧ ST w0 [] w' [⟨B, 48, (r_.Cells.flatMap eN0), c * 5⟩] []) := by
 unfold F_spec_l9Word at hF
 refine cv_of_cw 26 Tryz.func74 rfl Tryz.ntmps74 rfl ?_
 refine cq (cr ?_)
 refine sS 2 (yN kN_ 3 hS K12) ?_
 rintro _ w_1 ⟨b, rfl, hS1⟩
 refine rn (cq (cr ?_))
 refine sQ 6 (Y_buildS (zs := [vi 0, .slice none 0 0]) (vs := [(0, vi 1)]) (cs := [vi 1, .slice none 0 0]) K78 K55 rfl (mpc rfl mpn) rfl) ?_
 refine sS 3 (yN [vi 0, .slice none 0 0] 2 hS1 K55) ?_
 rintro _ w_2 ⟨b1, rfl, hS2⟩
 refine s0 (yT 1 2 (aD b1) 37 (.agg #[vi 1, .slice none 0 0]) [vi 1, .slice none 0 0] 0 hS2 K32) ?_
 rintro _ w_3 ⟨rfl, hS3⟩
 refine rn (cq (cq (cr ?_)))
 refine sQ 4 (yg (vi 0)) (rn ?_)
 obtain ⟨hN, hF⟩ := chk_inv hF
 obtain ⟨z, hz, hF1⟩ := bI hF
 have hS5 := hS3.addNil 64
 refine cw_block ?_
 refine cw_loop (fun k f w => ∃ (i1 : Nat) (Gates : List TGate) (B1 : Option Addr) (c1 : Nat), FF f [(0, .string (bstr w_)), (2, pt (aD b) 0), (3, pt (aD b1) 0), (4, vi (i1 : Int))] ∧ ST w0 [] w [⟨aD b, 26, kN_, 3⟩, ⟨aD b1, 37, [vi 1, .slice B1 Gates.length c1], 2⟩, ⟨B1, 64, (Gates.flatMap eN4), c1 * 3⟩] [] ∧ i1 + k = w_.length ∧ forN (F_spec_l9Word_l1 w_) k i1 Gates = some z) w_.length ⟨0, [], none, 0, (fc rfl (fc rfl (fc rfl (fc rfl fn_)))), (hS5.sel [0, 1, 2] rfl rfl), Nat.zero_add _, hz⟩ ?_
 rintro k_ f w ⟨i1, Gates, B1, c1, hf, hS4, hik, hL⟩
 refine cq (cq (cr ?_))
 refine sQ 7 (ym (vi (i1 : Int)) rfl (hf.g 4 3)) <| sQ 8 (ym (.string (bstr w_)) rfl (hf.g 0 0)) <| sQ 9 (Y_slen (a := w_) K42 rfl rfl) <| sQ 10 (yL (i1 : Int) (w_.length : Int)) (rn ?_)
 refine cw_cond (b := (decide ((i1 : Int) < (w_.length : Int)))) rfl (fun hlt => ?_) (fun hlt => ?_)
 ·skip
  have hlt1 : i1 < w_.length := by have h := of_decide_eq_true hlt; omega
  obtain ⟨K7, rfl⟩ : ∃ k2, k_ = k2 + 1 := ⟨k_ - 1, by omega⟩
  obtain ⟨y, hb, hL1⟩ := forN_go hL
  unfold F_spec_l9Word_l1 at hb
  refine cw_skip (cq (cw_block (cq (cr ?_))))
  refine sQ 5 (yg (vi 1)) (rn (cq ?_))
  obtain ⟨z1, hz1, hF2⟩ := bI hb
  refine cw_mid (fun f w => ∃ (kind : Int), kind = z1 ∧ FF f [(0, .string (bstr w_)), (2, pt (aD b) 0), (3, pt (aD b1) 0), (4, vi (i1 : Int)), (5, vi kind)] ∧ ST w0 [] w [⟨aD b, 26, kN_, 3⟩, ⟨aD b1, 37, [vi 1, .slice B1 Gates.length c1], 2⟩, ⟨B1, 64, (Gates.flatMap eN4), c1 * 3⟩] []) ?_ ?_
  ·skip
   refine cq (cr ?_)
   refine sQ 13 (ym (.string (bstr w_)) rfl (hf.g 0 0)) <| sQ 14 (ym (vi (i1 : Int)) rfl (hf.g 4 3)) ?_
   obtain ⟨x, hx, hz1⟩ := bI hz1
   refine sQ 15 (Y_sidx (a := w_) (k := .i64) (i := (i1 : Int)) (b := x) K42 rfl rfl rfl hx) <| sQ 16 (Y_eq (k := .u8) (a := (x.toNat : Int)) (b := 83) rfl rfl rfl) (rn ?_)
   refine cw_cond (b := ((x.toNat : Int) == 83)) rfl (fun hb1 => ?_) (fun hb1 => ?_)
   ·skip
    have hF3 := ct hz1 hb1
    refine cr ?_
    refine sQ 5 (yg (vi 5)) (rn ?_)
    exact ⟨5, (sI hF3), (fc (hf.g 0 0) (fc (hf.g 2 1) (fc (hf.g 3 2) (fc (hf.g 4 3) (fc rfl fn_))))), (hS4.sel [0, 1, 2] rfl rfl)⟩
   ·skip
    have hF4 := cf' hz1 hb1
    refine cw_skip ?_
    exact ⟨1, (sI hF4), (fc (hf.g 0 0) (fc (hf.g 2 1) (fc (hf.g 3 2) (fc (hf.g 4 3) (fc rfl fn_))))), (hS4.sel [0, 1, 2] rfl rfl)⟩
  rintro f w ⟨kind, rfl, hf1, hS6⟩
  refine cr ?_
  refine sQ 17 (yd (aD b1) 0 0 K53 K37 rfl (hf1.g 3 2)) <| sQ 18 (yl (aD b1) 1 [vi 1, .slice B1 Gates.length c1] (.slice B1 Gates.length c1) K60 (hS6.c 1)) <| sQ 19 (ym (vi kind) rfl (hf1.g 5 4)) <| sQ 20 (Y_buildS (zs := [vi 0, vi 0, vi 0]) (vs := [(0, vi kind)]) (cs := [vi kind, vi 0, vi 0]) K48 K27 rfl (mpc rfl mpn) rfl) ?_
  refine sS 21 (Ys_bslice (s := 3) (len := 1) (vs := [(0, .agg #[vi kind, vi 0, vi 0])]) (cs := [vi kind, vi 0, vi 0]) (zs := [vi 0, vi 0, vi 0]) (m := 3) hS6 K25 K17 K61 rfl (mpc rfl mpn) rfl rfl rfl (by kernel_rfl) (by kernel_rfl) rfl) ?_
  rintro _ w_4 ⟨b2, rfl, hS7⟩
  obtain ⟨hap, hF2⟩ := chk_inv hF2
  refine sS 22 (Ys_append (s := 3) (by' := 24) (i := 2) (nn := Gates.length) (c := c1) (k := 1) (len := (Gates ++ [(TGate.mk kind 0 0)]).length) (B := B1) (xs := ([(TGate.mk kind 0 0)].flatMap eN4)) (cs' := ((Gates ++ [(TGate.mk kind 0 0)]).flatMap eN4)) hS7 K25 K17 K62 K27 rfl (by decide) rfl rfl rfl rfl (fm_lenn (l := Gates) enc_Gate_len rfl) rfl (hS7.c 3) (fm_lenn (l := [(TGate.mk kind 0 0)]) enc_Gate_len rfl) (fm_one' (enc := eN4) enc_Gate_one [(TGate.mk kind 0 0)]) (by have := hap; omega) (by have := hap; simp only [maxLen]; omega) (fm_app _ _) (app_len (l := Gates) (l' := [(TGate.mk kind 0 0)]) rfl rfl)) ?_
  rintro _ w_5 ⟨B2, c2, rfl, hS8⟩
  refine sQ 23 (yd (aD b1) 0 0 K53 K37 rfl (hf1.g 3 2)) ?_
  refine s0 (yS 1 1 (aD b1) 37 (.slice B2 ((Gates ++ [(TGate.mk kind 0 0)]).length) c2) [.slice B2 ((Gates ++ [(TGate.mk kind 0 0)]).length) c2] 1 [vi 1, .slice B2 ((Gates ++ [(TGate.mk kind 0 0)]).length) c2] hS8 K37) ?_
  rintro _ w_6 ⟨rfl, hS9⟩
  refine rn (cr ?_)
  refine sQ 11 (ym (vi (i1 : Int)) rfl (hf1.g 4 3)) <| sQ 12 (yP (i1 : Int) 1) <| sQ 4 (yg (vi (i64.wrap ((i1 : Int) + 1)))) (rn ?_)
  obtain rfl := sI hF2
  exact ⟨K7, Nat.lt_succ_self _, i1 + 1, (Gates ++ [(TGate.mk kind 0 0)]), B2, c2, (fc (hf1.g 0 0) (fc (hf1.g 2 1) (fc (hf1.g 3 2) (fc (congrArg (Value.int .i64) (wr_succ hlt1 hN)) fn_)))), (hS9.sel [0, 1, 2] rfl rfl), (by omega), hL1⟩
 ·skip
  obtain rfl : k_ = 0 := by have h := of_decide_eq_false hlt; omega
  refine cw_exit rfl ?_
  obtain rfl := sI hL
  refine cq (cr ?_)
  refine sQ 24 (yb (aD b1) 0 [vi 1, .slice B1 Gates.length c1] K54 K32 (hS4.c 1) rfl (hf.g 3 2)) ?_
  obtain ⟨r_1, hc, hF1⟩ := bI hF1
  refine sc 25 rfl rfl (yC [.agg #[vi 1, .slice B1 Gates.length c1]] k_call_17 (c_spec_l6Op (TCircuit.mk 1 Gates) B1 c1 Gates.length _ rfl (hS4.inn0 [(false, 2)] rfl) hc)) ?_
  rintro _ w_7 ⟨B3, c3, rfl, hd⟩
  have hS10 := hS4.out0 hd
  refine s0 (yT 0 3 (aD b) 26 (gM_ r_1 B3 c3) (kM_ r_1 B3 c3) 0 hS10 K3 rfl (hf.g 2 1)) ?_
  rintro _ w_8 ⟨rfl, hS11⟩
  refine rn (ct_ ?_)
  obtain rfl := sI hF1
  exact ret1 Tryz.results74 (v1 := gM_ r_1 B3 c3) (resAt_cellA (B := aD b) (i := 0) (cs := kM_ r_1 B3 c3) (vs := kM_ r_1 B3 c3) (hf.g 2 1) K8 K3 (hS11.c 0) rfl rfl) ⟨B3, c3, rfl, (hS11.sN [3])⟩

theorem c_spec_l9Same (a : TBloch) (b : TBloch) (B : Option Addr) (c n : Nat) (B1 : Option Addr) (c1 n1 : Nat) (w0 : World) (hn : a.Cells.length = n) (hn1 : b.Cells.length = n1) (hS : ST w0 [] w0 [] [⟨B, (a.Cells.flatMap eN0)⟩, ⟨B1, (b.Cells.flatMap eN0)⟩]) {r_ : Bool} (hF : F_spec_l9Same a b = some r_) :
  CV Tryz.prog 75 #[.agg #[.slice B n c], .agg #[.slice B1 n1 c1]] w0 (fun v w' => v = .bool r_ ∧ ST w0 [] w' [] []) := by
 subst hn
 subst hn1
 unfold F_spec_l9Same at hF
 refine cv_of_cw 24 Tryz.func75 rfl Tryz.ntmps75 rfl ?_
 refine cq (cr ?_)
 refine sS 2 (yB 54 (gB_ a B c) (kB_ a B c) 1 hS) ?_
 rintro _ w_ ⟨b1, rfl, hS1⟩
 refine sS 3 (yB 54 (gB_ b B1 c1) (kB_ b B1 c1) 1 hS1) ?_
 rintro _ w_1 ⟨b2, rfl, hS2⟩
 refine sQ 4 (yg (.bool false)) (rn (cq (cq (cr ?_))))
 refine sQ 6 (yd (aD b1) 0 0 K40 K11) <| sQ 7 (yl (aD b1) 0 (kB_ a B c) (.slice B a.Cells.length c) K16 (hS2.c 0)) <| sQ 8 (Y_len (B := B) (m := a.Cells.length) (c := c) K9 rfl rfl) <| sQ 9 (ym (vi 0)) (rn ?_)
 obtain ⟨hN, hF⟩ := chk_inv hF
 obtain ⟨z, hz, hF1⟩ := bI hF
 refine cw_block ?_
 refine cw_loop (fun k f w => ∃ (i : Nat), FF f [(2, pt (aD b1) 0), (3, pt (aD b2) 0), (8, vi (a.Cells.length : Int)), (9, vi (i : Int))] ∧ ST w0 [] w [⟨aD b1, 54, kB_ a B c, 1⟩, ⟨aD b2, 54, kB_ b B1 c1, 1⟩] [⟨B, (a.Cells.flatMap eN0)⟩, ⟨B1, (b.Cells.flatMap eN0)⟩] ∧ i + k = a.Cells.length ∧ forX (F_spec_l9Same_l1 a b) k i () = some z) a.Cells.length ⟨0, (fc rfl (fc rfl (fc rfl (fc rfl fn_)))), (hS2.sel [0, 1] rfl rfl), Nat.zero_add _, hz⟩ ?_
 rintro k_ f w ⟨i, hf, hS3, hik, hL⟩
 refine cq (cr ?_)
 refine sQ 10 (yL (i : Int) (a.Cells.length : Int) rfl (hf.g 9 3) (hf.g 8 2)) (rn (cq ?_))
 refine cw_cond (b := (decide ((i : Int) < (a.Cells.length : Int)))) rfl (fun hlt => ?_) (fun hlt => ?_)
 ·skip
  have hlt1 : i < a.Cells.length := by have h := of_decide_eq_true hlt; omega
  obtain ⟨K7, rfl⟩ : ∃ k2, k_ = k2 + 1 := ⟨k_ - 1, by omega⟩
  obtain ⟨y, hb, hL1⟩ := forX_go hL
  unfold F_spec_l9Same_l1 at hb
  refine cw_skip (cq (cw_block (cq (cr ?_))))
  refine sQ 11 (ym (vi (i : Int)) rfl (hf.g 9 3)) <| sQ 5 (yg (vi (i : Int))) (rn (cq ?_))
  obtain ⟨x, hx, hb⟩ := bI hb
  obtain ⟨x1, hx1, hb⟩ := bI hb
  refine ra_start (hS3.se [0, 1]).fn (by kernel_rfl) ?_
  have hS4 := hS3.drew
  refine rq 0 12 (v := pt (aD b1) 0) rfl (hS4.se [0, 1]) (fun w' hw' => (yd (aD b1) 0 0 K40 K11 rfl (hf.g 2 0))) ?_
  refine rq 1 13 (v := .slice B a.Cells.length c) rfl (hS4.se [0, 1]) (fun w' hw' => (yl (aD b1) 0 (kB_ a B c) (.slice B a.Cells.length c) K16 (ST.cf hw' (i := 0) rfl))) ?_
  refine rq 2 14 (v := vi (i : Int)) rfl (hS4.se [0, 1]) (fun w' hw' => (ym (vi (i : Int)))) ?_
  refine rq 3 15 (v := pt B ((i : Int).toNat * 5)) rfl (hS4.se [0, 1]) (fun w' hw' => (Y_index (B := B) (m := a.Cells.length) (c := c) (k := .i64) (i := (i : Int)) K9 K1 rfl rfl rfl (gi_isSome eN2 rfl (ST.rf hw' (i := 0) rfl) hx) (getI_nn hx) (getI_ltI hx rfl))) ?_
  refine rq 4 16 (v := gD_ x) rfl (hS4.se [0, 1]) (fun w' hw' => (ya B ((i : Int).toNat * 5) (a.Cells.flatMap eN0) (kD_ x) K4 K1 (ST.rf hw' (i := 0) rfl) rfl rfl (eN2 x) (gi_seg eN2 hx))) ?_
  refine rq 5 17 (v := pt (aD b2) 0) rfl (hS4.se [0, 1]) (fun w' hw' => (yd (aD b2) 0 0 K40 K11 rfl (hf.g 3 1))) ?_
  refine rq 6 18 (v := .slice B1 b.Cells.length c1) rfl (hS4.se [0, 1]) (fun w' hw' => (yl (aD b2) 0 (kB_ b B1 c1) (.slice B1 b.Cells.length c1) K16 (ST.cf hw' (i := 1) rfl))) ?_
  refine rq 7 19 (v := vi (i : Int)) rfl (hS4.se [0, 1]) (fun w' hw' => (ym (vi (i : Int)))) ?_
  refine rq 8 20 (v := pt B1 ((i : Int).toNat * 5)) rfl (hS4.se [0, 1]) (fun w' hw' => (Y_index (B := B1) (m := b.Cells.length) (c := c1) (k := .i64) (i := (i : Int)) K9 K1 rfl rfl rfl (gi_isSome eN2 rfl (ST.rf hw' (i := 1) rfl) hx1) (getI_nn hx1) (getI_ltI hx1 rfl))) ?_
  refine rq 9 21 (v := gD_ x1) rfl (hS4.se [0, 1]) (fun w' hw' => (ya B1 ((i : Int).toNat * 5) (b.Cells.flatMap eN0) (kD_ x1) K4 K1 (ST.rf hw' (i := 1) rfl) rfl rfl (eN2 x1) (gi_seg eN2 hx1))) ?_
  refine ra_q 10 22 (v := .bool (!(((x.Num.A == x1.Num.A) && ((x.Num.B == x1.Num.B) && ((x.Num.C == x1.Num.C) && ((x.Num.D == x1.Num.D) && true)))) && ((x.Exp == x1.Exp) && true)))) rfl rfl rfl (by kernel_rfl) (by kernel_rfl) (by kernel_rfl) (hS4.se [0, 1]) (fun w' hw' => (Y_neA (xs := #[vi x.Num.A, vi x.Num.B, vi x.Num.C, vi x.Num.D, vi x.Exp]) (ys := #[vi x1.Num.A, vi x1.Num.B, vi x1.Num.C, vi x1.Num.D, vi x1.Exp]) (b := (((x.Num.A == x1.Num.A) && ((x.Num.B == x1.Num.B) && ((x.Num.C == x1.Num.C) && ((x.Num.D == x1.Num.D) && true)))) && ((x.Exp == x1.Exp) && true))) K100 rfl rfl rfl (eqr_struct (xs := kD_ x) (ys := kD_ x1) K101 K102 (pts_ag (us := kR_ x.Num) (vs := kR_ x1.Num) K10 K5 rfl rfl (eqr_struct (xs := kR_ x.Num) (ys := kR_ x1.Num) K103 K104 (pts_sc K0 rfl rfl (eqr_int K23) (pts_sc K0 rfl rfl (eqr_int K23) (pts_sc K0 rfl rfl (eqr_int K23) (pts_sc K0 rfl rfl (eqr_int K23) pts_nil))))) (pts_sc K0 rfl rfl (eqr_int K23) pts_nil))))) ?_
  refine ra_done (by kernel_rfl) ?_
  refine cw_cond (b := (!(((x.Num.A == x1.Num.A) && ((x.Num.B == x1.Num.B) && ((x.Num.C == x1.Num.C) && ((x.Num.D == x1.Num.D) && true)))) && ((x.Exp == x1.Exp) && true)))) rfl (fun hb1 => ?_) (fun hb1 => ?_)
  ·skip
   have hF2 := ct hb hb1
   refine cq (cr ?_)
   refine sQ 4 (yg (.bool false)) (rn (ct_ ?_))
   obtain rfl := sI hF2
   obtain rfl := sI hL1
   obtain rfl := sI hF1
   exact ret1 Tryz.results75 (v1 := .bool false) (resAt_tmp rfl) ⟨rfl, (hS4.sN [])⟩
  ·skip
   have hF3 := cf' hb hb1
   refine cw_skip (cr ?_)
   refine sQ 23 (yP (i : Int) 1 rfl (hf.g 9 3)) <| sQ 9 (ym (vi (i64.wrap ((i : Int) + 1)))) (rn ?_)
   obtain rfl := sI hF3
   exact ⟨K7, Nat.lt_succ_self _, i + 1, (fc (hf.g 2 0) (fc (hf.g 3 1) (fc (hf.g 8 2) (fc (congrArg (Value.int .i64) (wr_succ hlt1 hN)) fn_)))), (hS4.sel [0, 1] rfl rfl), (by omega), hL1⟩
 ·skip
  obtain rfl : k_ = 0 := by have h := of_decide_eq_false hlt; omega
  refine cw_exit rfl ?_
  obtain rfl := sI hL
  refine cq (cr ?_)
  refine sQ 4 (yg (.bool true)) (rn (ct_ ?_))
  obtain rfl := sI hF1
  exact ret1 Tryz.results75 (v1 := .bool true) (resAt_tmp rfl) ⟨rfl, (hS3.sN [])⟩

theorem c_spec_l9Words   (w0 : World)  (hS : ST w0 [] w0 [] []) {r_ : List (List UInt8)} (hF : F_spec_l9Words = some r_) :
  CV Tryz.prog 43 #[] w0 (fun v w' => ∃ (B : Option Addr) (c : Nat), v = .slice B r_.length c ∧ ST w0 [] w' [⟨B, 9, (r_.flatMap encS), c * 1⟩] []) := by
 unfold F_spec_l9Words at hF
 refine cv_of_cw 61 Tryz.func43 rfl Tryz.ntmps43 rfl ?_
 refine cq (cr ?_)
 refine sQ 0 (yg (.slice none 0 0)) (rn (cq (cr ?_)))
 refine sQ 1 (yg (.slice none 0 0)) (rn (cq (cr ?_)))
 refine sQ 2 (yg (.slice none 0 0)) (rn (cq (cr ?_)))
 refine sS 12 (Ys_bslice (s := 1) (len := 1) (vs := [(0, .string (bstr ([] : List UInt8)))]) (cs := [.string (bstr ([] : List UInt8))]) (zs := [.string (bstr ([] : List UInt8))]) (m := 1) hS K33 K24 K71 rfl (mpc rfl mpn) rfl rfl rfl (by kernel_rfl) (by kernel_rfl) rfl) ?_
 rintro _ w_ ⟨b, rfl, hS1⟩
 refine sQ 3 (yg (.slice (aD b) 1 1)) (rn (cq ?_))
 obtain ⟨z, hz, hF1⟩ := bI hF
 have hS3 := hS1.addNil 9
 have hS4 := hS3.addNil 54
 have hS5 : ST w0 [] _ [⟨aD b, 9, ([([] : List UInt8)].flatMap encS), 1 * 1⟩, ⟨none, 9, ([].flatMap encS), 0 * 1⟩, ⟨none, 54, (([] : List (Hd × TBloch)).flatMap encD_Bloch), 0 * 1⟩] (((([] : List (Hd × TBloch)).flatMap rowD_Bloch) ++ [])) := ST.subR hS4 (suba fsub_nil (fun _ h => by cases h))
 refine cw_block ?_
 refine cw_loop (fun k f w => ∃ (words : List (List UInt8)) (seen : List TBloch) (level : List (List UInt8)) (B1 : Option Addr) (c1 : Nat) (B2 : Option Addr) (c2 : Nat) (D : List (Hd × TBloch)) (B3 : Option Addr) (c3 : Nat), FF f [(1, .slice B1 words.length c1), (2, .slice B2 seen.length c2), (3, .slice B3 level.length c3)] ∧ D.map Prod.snd = seen ∧ Org w0 [] [] (D.flatMap rowD_Bloch) ∧ ST w0 [] w [⟨B1, 9, (words.flatMap encS), c1 * 1⟩, ⟨B2, 54, (D.flatMap encD_Bloch), c2 * 1⟩, ⟨B3, 9, (level.flatMap encS), c3 * 1⟩] (((D.flatMap rowD_Bloch) ++ [])) ∧ whX F_spec_l9Words_l1 k (words, seen, level) = some z) fuel ⟨[], ([] : List TBloch), [([] : List UInt8)], none, 0, none, 0, ([] : List (Hd × TBloch)), aD b, 1, (fc rfl (fc rfl (fc rfl fn_))), rfl, forg_nil, (hS5.sel [1, 2, 0] rfl rfl), hz⟩ ?_
 rintro k_ f w ⟨words, seen, level, B1, c1, B2, c2, D, B3, c3, hf, hD, ho, hS2, hL⟩
 obtain ⟨K7, y, rfl, hb, hL1⟩ := whX_go hL
 unfold F_spec_l9Words_l1 at hb
 refine cq (cq (cr ?_))
 refine sQ 13 (ym (.slice B1 words.length c1) rfl (hf.g 1 0)) <| sQ 14 (Y_len (B := B1) (m := words.length) (c := c1) K33 rfl rfl) <| sQ 15 (yL (words.length : Int) 24) (rn ?_)
 refine cw_cond (b := (decide ((words.length : Int) < 24))) rfl (fun hb1 => ?_) (fun hb1 => ?_)
 ·skip
  have hF2 := ct hb hb1
  refine cw_skip (cw_block (cq (cr ?_)))
  refine sQ 4 (yg (.slice none 0 0)) (rn (cq (cq (cr ?_))))
  refine sQ 16 (ym (.slice B3 level.length c3) rfl (hf.g 3 2)) <| sQ 17 (Y_len (B := B3) (m := level.length) (c := c3) K33 rfl rfl) <| sQ 18 (ym (vi 0)) (rn ?_)
  obtain ⟨hN, hF2⟩ := chk_inv hF2
  obtain ⟨z1, hz1, hF3⟩ := bI hF2
  have hS7 := hS2.addNil 9
  refine cw_block ?_
  refine cw_loop (fun k f w => ∃ (i : Nat) (words1 : List (List UInt8)) (seen1 : List TBloch) (next_ : List (List UInt8)) (B4 : Option Addr) (c4 : Nat) (B5 : Option Addr) (c5 : Nat) (D1 : List (Hd × TBloch)) (B6 : Option Addr) (c6 : Nat), FF f [(1, .slice B4 words1.length c4), (2, .slice B5 seen1.length c5), (4, .slice B6 next_.length c6), (16, .slice B3 level.length c3), (17, vi (level.length : Int)), (18, vi (i : Int))] ∧ D1.map Prod.snd = seen1 ∧ Org w0 [] [] (D1.flatMap rowD_Bloch) ∧ ST w0 [] w [⟨B4, 9, (words1.flatMap encS), c4 * 1⟩, ⟨B5, 54, (D1.flatMap encD_Bloch), c5 * 1⟩, ⟨B6, 9, (next_.flatMap encS), c6 * 1⟩, ⟨B3, 9, (level.flatMap encS), c3 * 1⟩] (((D1.flatMap rowD_Bloch) ++ [])) ∧ i + k = level.length ∧ forN (F_spec_l9Words_l2 level) k i (words1, seen1, next_) = some z1) level.length ⟨0, words, seen, [], B1, c1, B2, c2, D, none, 0, (fc (hf.g 1 0) (fc (hf.g 2 1) (fc rfl (fc rfl (fc rfl (fc rfl fn_)))))), hD, ho, (hS7.sel [0, 1, 3, 2] rfl rfl), Nat.zero_add _, hz1⟩ ?_
  rintro K15 f w ⟨i, words1, seen1, next_, B4, c4, B5, c5, D1, B6, c6, hf1, hD1, ho1, hS6, hik1, hL2⟩
  refine cq (cr ?_)
  refine sQ 19 (yL (i : Int) (level.length : Int) rfl (hf1.g 18 5) (hf1.g 17 4)) (rn (cq ?_))
  refine cw_cond (b := (decide ((i : Int) < (level.length : Int)))) rfl (fun hlt => ?_) (fun hlt => ?_)
  ·skip
   have hlt1 : i < level.length := by have h := of_decide_eq_true hlt; omega
   obtain ⟨K28, rfl⟩ : ∃ k2, K15 = k2 + 1 := ⟨K15 - 1, by omega⟩
   obtain ⟨y1, hb2, hL3⟩ := forN_go hL2
   unfold F_spec_l9Words_l2 at hb2
   refine cw_skip (cq ?_)
   obtain ⟨z2, hz2, hF4⟩ := bI hb2
   refine cw_mid (fun f w => ∃ (words2 : List (List UInt8)) (seen2 : List TBloch) (next_1 : List (List UInt8)) (B7 : Option Addr) (c7 : Nat) (B8 : Option Addr) (c8 : Nat) (D2 : List (Hd × TBloch)) (B9 : Option Addr) (c9 : Nat), (words2, seen2, next_1) = z2 ∧ FF f [(1, .slice B7 words2.length c7), (2, .slice B8 seen2.length c8), (4, .slice B9 next_1.length c9), (16, .slice B3 level.length c3), (17, vi (level.length : Int)), (18, vi (i : Int))] ∧ D2.map Prod.snd = seen2 ∧ Org w0 [] [] (D2.flatMap rowD_Bloch) ∧ ST w0 [] w [⟨B7, 9, (words2.flatMap encS), c7 * 1⟩, ⟨B8, 54, (D2.flatMap encD_Bloch), c8 * 1⟩, ⟨B9, 9, (next_1.flatMap encS), c9 * 1⟩, ⟨B3, 9, (level.flatMap encS), c3 * 1⟩] (((D2.flatMap rowD_Bloch) ++ []))) ?_ ?_
   ·skip
    refine cw_block (cq (cr ?_))
    obtain ⟨x, hx, hz2⟩ := bI hz2
    refine sQ 20 (Y_index (B := B3) (m := level.length) (c := c3) (k := .i64) (i := (i : Int)) K33 K24 rfl (hf1.g 16 3) (hf1.g 18 5) (gi_isSome encS_len rfl (hS6.c 3) hx) (getI_nn hx) (getI_ltI hx rfl)) <| sQ 21 (yl B3 ((i : Int).toNat * 1) (level.flatMap encS) (.string (bstr x)) K41 (hS6.c 3) rfl rfl (gi_at0 encS_len hx rfl)) <| sQ 6 (yg (.string (bstr x))) (rn (cq (cr ?_)))
    refine sQ 23 (ym (.string (bstr x))) ?_
    obtain ⟨r_1, hc, hz2⟩ := bI hz2
    refine sc 24 rfl rfl (yC [.string (bstr x)] k_call_74 (c_spec_l9Word x _  (hS6.inn0 [] rfl) hc)) ?_
    rintro _ w_1 ⟨B10, c10, rfl, hd⟩
    have hS9 := hS6.out0 hd
    obtain ⟨⟨r_2, r_3⟩, hc1, hz2⟩ := bI hz2
    refine sc 25 rfl rfl (yC [gM_ r_1 B10 c10] k_call_73 (c_spec_l9Bloch r_1 B10 c10 r_1.Cells.length _ rfl (hS9.inn0 [(false, 4)] rfl) hc1)) ?_
    rintro _ w_2 ⟨B11, c11, rfl, hd1⟩
    have hS10 := hS9.out0 hd1
    refine sQ 22 (ym (.tuple #[gB_ r_2 B11 c11, .bool r_3])) <| sQ 26 (ye (gB_ r_2 B11 c11)) <| sQ 27 (ye (.bool r_3)) ?_
    refine sS 7 (yN [.slice none 0 0] 1 hS10 K39) ?_
    rintro _ w_3 ⟨b1, rfl, hS11⟩
    refine s0 (yT 6 1 (aD b1) 54 (gB_ r_2 B11 c11) (kB_ r_2 B11 c11) 0 hS11 K26) ?_
    rintro _ w_4 ⟨rfl, hS12⟩
    refine sQ 8 (yg (.bool r_3)) (rn (cq (cr ?_)))
    refine sQ 9 (yg (.bool false)) (rn (cq (cq (cr ?_))))
    refine sQ 28 (ym (.slice B5 seen1.length c5) rfl (hf1.g 2 1)) <| sQ 29 (Y_len (B := B5) (m := seen1.length) (c := c5) K117 rfl rfl) <| sQ 30 (ym (vi 0)) (rn ?_)
    obtain ⟨hN1, hz2⟩ := chk_inv hz2
    obtain ⟨z3, hz3, hF5⟩ := bI hz2
    refine cw_block ?_
    refine cw_loop (fun k f w => ∃ (i1 : Nat) (known : Bool) (D3 : List (Hd × TBloch)), FF f [(1, .slice B4 words1.length c4), (2, .slice B5 seen1.length c5), (4, .slice B6 next_.length c6), (6, .string (bstr x)), (7, pt (aD b1) 0), (9, .bool known), (16, .slice B3 level.length c3), (17, vi (level.length : Int)), (18, vi (i : Int)), (28, .slice B5 seen1.length c5), (29, vi (seen1.length : Int)), (30, vi (i1 : Int))] ∧ D3.map Prod.snd = seen1 ∧ Org w0 [] [] (D3.flatMap rowD_Bloch) ∧ ST w0 [] w [⟨B4, 9, (words1.flatMap encS), c4 * 1⟩, ⟨B5, 54, (D3.flatMap encD_Bloch), c5 * 1⟩, ⟨B6, 9, (next_.flatMap encS), c6 * 1⟩, ⟨aD b1, 54, kB_ r_2 B11 c11, 1⟩, ⟨B11, 48, (r_2.Cells.flatMap eN0), c11 * 5⟩, ⟨B3, 9, (level.flatMap encS), c3 * 1⟩] (((D3.flatMap rowD_Bloch) ++ [])) ∧ i1 + k = seen1.length ∧ forN (F_spec_l9Words_l3 seen1 r_2) k i1 known = some z3) seen1.length ⟨0, false, D1, (fc (hf1.g 1 0) (fc (hf1.g 2 1) (fc (hf1.g 4 2) (fc rfl (fc rfl (fc rfl (fc (hf1.g 16 3) (fc (hf1.g 17 4) (fc (hf1.g 18 5) (fc rfl (fc rfl (fc rfl fn_)))))))))))), hD1, ho1, (hS12.sel [0, 1, 2, 6, 5, 3] rfl rfl), Nat.zero_add _, hz3⟩ ?_
    rintro K14 f w ⟨i1, known, D3, hf3, hD3, ho3, hS13, hik2, hL4⟩
    refine cq (cr ?_)
    refine sQ 31 (yL (i1 : Int) (seen1.length : Int) rfl (hf3.g 30 11) (hf3.g 29 10)) (rn (cq ?_))
    refine cw_cond (b := (decide ((i1 : Int) < (seen1.length : Int)))) rfl (fun hlt2 => ?_) (fun hlt2 => ?_)
    ·skip
     have hlt3 : i1 < seen1.length := by have h := of_decide_eq_true hlt2; omega
     obtain ⟨K68, rfl⟩ : ∃ k2, K14 = k2 + 1 := ⟨K14 - 1, by omega⟩
     obtain ⟨y2, hb3, hL5⟩ := forN_go hL4
     unfold F_spec_l9Words_l3 at hb3
     refine cw_skip (cq (cw_block (cq (cr ?_))))
     obtain ⟨x1, hx1, hb3⟩ := bI hb3
     obtain ⟨⟨B12, c12⟩, hp⟩ := getI_snd hD3 hx1
     refine sQ 32 (Y_index (B := B5) (m := seen1.length) (c := c5) (k := .i64) (i := (i1 : Int)) K117 K26 rfl (hf3.g 28 9) (hf3.g 30 11) (gi_isSome encD_Bloch_len rfl (hS13.c 1) hp) (getI_nn hp) (getI_ltI hp (dl_len hD3))) ?_
     have hm : (⟨B12, (x1.Cells.flatMap eN0)⟩ : Ro) ∈ ((((D3.flatMap rowD_Bloch) ++ [])) : List Ro) := app_mem (fun r_ (h : r_ ∈ ((D3.flatMap rowD_Bloch) : List Ro)) => mOd (i := 0) (show r_ ∈ ((((D3.flatMap rowD_Bloch) ++ [])) : List Ro) from mAl _ h)) (row_mem (rw_ := rowD_Bloch) hp _ (mt 0))
     have hS14 : ST w0 [] _ [⟨B4, 9, (words1.flatMap encS), c4 * 1⟩, ⟨B5, 54, (D3.flatMap encD_Bloch), c5 * 1⟩, ⟨B6, 9, (next_.flatMap encS), c6 * 1⟩, ⟨aD b1, 54, kB_ r_2 B11 c11, 1⟩, ⟨B11, 48, (r_2.Cells.flatMap eN0), c11 * 5⟩, ⟨B3, 9, (level.flatMap encS), c3 * 1⟩] (⟨B12, (x1.Cells.flatMap eN0)⟩ :: ((D3.flatMap rowD_Bloch) ++ [])) := ST.subR hS13 (subc hm (fun _ h => h))
     refine sQ 33 (ya B5 ((i1 : Int).toNat * 1) (D3.flatMap encD_Bloch) (kB_ x1 B12 c12) K51 K26 (hS14.c 1) rfl rfl (encD_Bloch_len ((B12, c12), x1)) (gi_seg encD_Bloch_len hp)) ?_
     refine sS 11 (yN [.slice none 0 0] 1 hS14 K39) ?_
     rintro _ w_5 ⟨b2, rfl, hS15⟩
     refine s0 (yT 6 1 (aD b2) 54 (gB_ x1 B12 c12) (kB_ x1 B12 c12) 0 hS15 K26) ?_
     rintro _ w_6 ⟨rfl, hS16⟩
     refine rn (cr ?_)
     refine sQ 34 (ym (.bool known) rfl (hf3.g 9 5)) <| sQ 35 (ym (.bool known)) ?_
     refine sgq 36 (B := (!known)) (v := gB_ x1 B12 c12) rfl rfl (uF_ 35) (fun hg => (yb (aD b2) 0 (kB_ x1 B12 c12) K51 K26 (hS16.c 6))) ?_
     refine sgq 37 (B := (!known)) (v := gB_ r_2 B11 c11) rfl rfl (uF_ 35) (fun hg1 => (yb (aD b1) 0 (kB_ r_2 B11 c11) K51 K26 (hS16.c 3) rfl (hf3.g 7 4))) ?_
     obtain ⟨r_4, hc2, hb3⟩ := bI hb3
     refine sgc 38 (B := (!known)) (v := .bool r_4) (F := hS16.fn) rfl rfl (uF_ 35) hS16 (fun hg2 => (yC [gB_ x1 B12 c12, gB_ r_2 B11 c11] k_call_75 (CV.mono (c_spec_l9Same x1 r_2 B12 c12 x1.Cells.length B11 c11 r_2.Cells.length _ rfl rfl (hS16.inn0 [(true, 0), (false, 4)] rfl) (gb_inv hc2 hg2)) (by rintro _ _ ⟨rfl, h⟩; exact ⟨rfl, hS16.out00 h⟩)) rfl (mc (gv_of (v := gB_ x1 B12 c12) hg2) (mc (gv_of (v := gB_ r_2 B11 c11) hg2) mn)))) ?_
     rintro w_7 hS17
     refine sQ 39 (Y_or (b := known) (z := r_4) rfl rfl rfl rfl) <| sQ 9 (yg (.bool (known || r_4))) (rn (cr ?_))
     refine sQ 40 (yP (i1 : Int) 1 rfl (hf3.g 30 11)) <| sQ 30 (ym (vi (i64.wrap ((i1 : Int) + 1)))) (rn ?_)
     obtain rfl := sI hb3
     have hS18 : ST w0 [] _ [⟨B4, 9, (words1.flatMap encS), c4 * 1⟩, ⟨B5, 54, (D3.flatMap encD_Bloch), c5 * 1⟩, ⟨B6, 9, (next_.flatMap encS), c6 * 1⟩, ⟨aD b1, 54, kB_ r_2 B11 c11, 1⟩, ⟨B11, 48, (r_2.Cells.flatMap eN0), c11 * 5⟩, ⟨B3, 9, (level.flatMap encS), c3 * 1⟩, ⟨aD b2, 54, kB_ x1 B12 c12, 1⟩] (((D3.flatMap rowD_Bloch) ++ [])) := ST.subR hS17 (suba (fun r_ (h : r_ ∈ ((D3.flatMap rowD_Bloch) : List Ro)) => mOd (i := 1) (show r_ ∈ ((((D3.flatMap rowD_Bloch) ++ [])) : List Ro) from mAl _ h)) (fun _ h => by cases h))
     exact ⟨K68, Nat.lt_succ_self _, i1 + 1, (known || r_4), D3, (fc (hf3.g 1 0) (fc (hf3.g 2 1) (fc (hf3.g 4 2) (fc (hf3.g 6 3) (fc (hf3.g 7 4) (fc rfl (fc (hf3.g 16 6) (fc (hf3.g 17 7) (fc (hf3.g 18 8) (fc (hf3.g 28 9) (fc (hf3.g 29 10) (fc (congrArg (Value.int .i64) (wr_succ hlt3 hN1)) fn_)))))))))))), hD3, ho3, (hS18.sel [0, 1, 2, 3, 4, 5] rfl rfl), (by omega), hL5⟩
    ·skip
     obtain rfl : K14 = 0 := by have h := of_decide_eq_false hlt2; omega
     refine cw_exit rfl ?_
     obtain rfl := sI hL4
     refine cq (cr ?_)
     refine sQ 41 (ym (.bool known) rfl (hf3.g 9 5)) <| sQ 42 (Y_not (p := known) rfl rfl) (rn ?_)
     refine cw_cond (b := (!known)) rfl (fun hb4 => ?_) (fun hb4 => ?_)
     ·skip
      have hF6 := ct hF5 hb4
      refine cq (cr ?_)
      refine sQ 43 (ym (.slice B4 words1.length c4) rfl (hf3.g 1 0)) <| sQ 44 (ym (.string (bstr x)) rfl (hf3.g 6 3)) ?_
      refine sS 45 (Ys_bslice (s := 1) (len := 1) (vs := [(0, .string (bstr x))]) (cs := [.string (bstr x)]) (zs := [.string (bstr ([] : List UInt8))]) (m := 1) hS13 K33 K24 K71 rfl (mpc rfl mpn) rfl rfl rfl (by kernel_rfl) (by kernel_rfl) rfl) ?_
      rintro _ w_8 ⟨b3, rfl, hS19⟩
      obtain ⟨hap, hF6⟩ := chk_inv hF6
      refine sS 46 (Ys_append (s := 1) (by' := 16) (i := 0) (nn := words1.length) (c := c4) (k := 1) (len := (words1 ++ [x]).length) (B := B4) (xs := ([x].flatMap encS)) (cs' := ((words1 ++ [x]).flatMap encS)) hS19 K33 K24 K76 K77 rfl (by decide) rfl rfl rfl rfl (fm_lenn (l := words1) encS_len rfl) rfl (hS19.c 6) (fm_lenn (l := [x]) encS_len rfl) (fm_one' (enc := encS) encS_one [x]) (by have := hap; omega) (by have := hap; simp only [maxLen]; omega) (fm_app _ _) (app_len (l := words1) (l' := [x]) rfl rfl)) ?_
      rintro _ w_9 ⟨B13, c13, rfl, hS20⟩
      refine sQ 1 (yg (.slice B13 ((words1 ++ [x]).length) c13)) (rn (cq (cr ?_)))
      refine sQ 47 (ym (.slice B5 seen1.length c5) rfl (hf3.g 2 1)) <| sQ 48 (yb (aD b1) 0 (kB_ r_2 B11 c11) K51 K26 (hS20.c 3) rfl (hf3.g 7 4)) ?_
      have ho4 : Org w0 [] [] [⟨B11, (r_2.Cells.flatMap eN0)⟩] := ST.orgOwn hS20 (i := 4) rfl
      have hcap : r_2.Cells.length ≤ c11 := (hS20.lencap (i := 4) rfl (fm_lenn (l := r_2.Cells) eN2 rfl) rfl rfl)
      have hS21 : ST w0 [] _ [⟨B13, 9, ((words1 ++ [x]).flatMap encS), c13 * 1⟩, ⟨B5, 54, (D3.flatMap encD_Bloch), c5 * 1⟩, ⟨B6, 9, (next_.flatMap encS), c6 * 1⟩, ⟨aD b1, 54, kB_ r_2 B11 c11, 1⟩, ⟨B3, 9, (level.flatMap encS), c3 * 1⟩, ⟨aD b3, 9, ([x].flatMap encS), 1 * 1⟩] (⟨B11, (r_2.Cells.flatMap eN0)⟩ :: ((D3.flatMap rowD_Bloch) ++ [])) := hS20.freeze (i := 4) rfl
      refine sS 49 (Ys_bslice (s := 1) (len := 1) (vs := [(0, gB_ r_2 B11 c11)]) (cs := kB_ r_2 B11 c11) (zs := [.slice none 0 0]) (m := 1) hS21 K117 K26 k_zc_54 rfl (mpc rfl mpn) rfl rfl rfl (by kernel_rfl) (by kernel_rfl) rfl) ?_
      rintro _ w_10 ⟨b4, rfl, hS22⟩
      have hm1 : ∀ r ∈ (([((B11, c11), r_2)] : List (Hd × TBloch)).flatMap rowD_Bloch), r ∈ ((⟨B11, (r_2.Cells.flatMap eN0)⟩ :: ((D3.flatMap rowD_Bloch) ++ [])) : List Ro) := (fsub_cons (sk 0 (fun _ h => by cases h)) fsub_nil)
      have ho5 : Org w0 [] [] (([((B11, c11), r_2)] : List (Hd × TBloch)).flatMap rowD_Bloch) := (forg_cons (org_cons ho4 org_nil) forg_nil)
      have hS23 : ST w0 [] _ [⟨B13, 9, ((words1 ++ [x]).flatMap encS), c13 * 1⟩, ⟨B5, 54, (D3.flatMap encD_Bloch), c5 * 1⟩, ⟨B6, 9, (next_.flatMap encS), c6 * 1⟩, ⟨aD b1, 54, kB_ r_2 B11 c11, 1⟩, ⟨B3, 9, (level.flatMap encS), c3 * 1⟩, ⟨aD b3, 9, ([x].flatMap encS), 1 * 1⟩, ⟨aD b4, 54, (([((B11, c11), r_2)] : List (Hd × TBloch)).flatMap encD_Bloch), 1 * 1⟩] (⟨B11, (r_2.Cells.flatMap eN0)⟩ :: ((([((B11, c11), r_2)] : List (Hd × TBloch)).flatMap rowD_Bloch) ++ ((D3.flatMap rowD_Bloch) ++ []))) := ST.subR hS22 (sk 0 (suba hm1 (suba (fun r_ (h : r_ ∈ ((D3.flatMap rowD_Bloch) : List Ro)) => mOd (i := 1) (show r_ ∈ ((((D3.flatMap rowD_Bloch) ++ [])) : List Ro) from mAl _ h)) (fun _ h => by cases h))))
      obtain ⟨hap1, hF6⟩ := chk_inv hF6
      refine sS 50 (Ys_append (s := 1) (by' := 24) (i := 1) (nn := seen1.length) (c := c5) (k := 1) (len := (seen1 ++ ([r_2] : List TBloch)).length) (B := B5) (xs := (([((B11, c11), r_2)] : List (Hd × TBloch)).flatMap encD_Bloch)) (cs' := ((D3 ++ ([((B11, c11), r_2)] : List (Hd × TBloch))).flatMap encD_Bloch)) hS23 K117 K26 k_by_54_24 K39 rfl (by decide) rfl rfl rfl rfl (fm_lenn (l := D3) encD_Bloch_len (dl_len hD3)) rfl (hS23.c 6) (fm_lenn (l := ([((B11, c11), r_2)] : List (Hd × TBloch))) encD_Bloch_len rfl) (fm_one' (enc := encD_Bloch) encD_Bloch_one ([((B11, c11), r_2)] : List (Hd × TBloch))) (by have := hap1; omega) (by have := hap1; simp only [maxLen]; omega) (fm_app _ _) (dl_sum (dl_len hD3) rfl (dl_app hD3 (show List.map Prod.snd ([((B11, c11), r_2)] : List (Hd × TBloch)) = ([r_2] : List TBloch) from rfl)))) ?_
      rintro _ w_11 ⟨B14, c14, rfl, hS24⟩
      have ho6 : Org w0 [] [] ((D3 ++ ([((B11, c11), r_2)] : List (Hd × TBloch))).flatMap rowD_Bloch) := (forg_app ho3 ho5)
      have hS25 : ST w0 [] _ [⟨B13, 9, ((words1 ++ [x]).flatMap encS), c13 * 1⟩, ⟨B14, 54, ((D3 ++ ([((B11, c11), r_2)] : List (Hd × TBloch))).flatMap encD_Bloch), c14 * 1⟩, ⟨B6, 9, (next_.flatMap encS), c6 * 1⟩, ⟨aD b1, 54, kB_ r_2 B11 c11, 1⟩, ⟨B3, 9, (level.flatMap encS), c3 * 1⟩, ⟨aD b3, 9, ([x].flatMap encS), 1 * 1⟩, ⟨aD b4, 54, (([((B11, c11), r_2)] : List (Hd × TBloch)).flatMap encD_Bloch), 1 * 1⟩] (⟨B11, (r_2.Cells.flatMap eN0)⟩ :: (((D3 ++ ([((B11, c11), r_2)] : List (Hd × TBloch))).flatMap rowD_Bloch) ++ ((([((B11, c11), r_2)] : List (Hd × TBloch)).flatMap rowD_Bloch) ++ []))) := ST.subR hS24 (sk 0 (suba (fsub_app (fun r_ (h : r_ ∈ ((D3.flatMap rowD_Bloch) : List Ro)) => mOd (i := 1) (show r_ ∈ ((((([((B11, c11), r_2)] : List (Hd × TBloch)).flatMap rowD_Bloch) ++ ((D3.flatMap rowD_Bloch) ++ []))) : List Ro) from mAr _ (mAl _ h))) (fun r_ (h : r_ ∈ ((([((B11, c11), r_2)] : List (Hd × TBloch)).flatMap rowD_Bloch) : List Ro)) => mOd (i := 1) (show r_ ∈ ((((([((B11, c11), r_2)] : List (Hd × TBloch)).flatMap rowD_Bloch) ++ ((D3.flatMap rowD_Bloch) ++ []))) : List Ro) from mAl _ h))) (suba (fun r_ (h : r_ ∈ ((([((B11, c11), r_2)] : List (Hd × TBloch)).flatMap rowD_Bloch) : List Ro)) => mOd (i := 1) (show r_ ∈ ((((([((B11, c11), r_2)] : List (Hd × TBloch)).flatMap rowD_Bloch) ++ ((D3.flatMap rowD_Bloch) ++ []))) : List Ro) from mAl _ h)) (fun _ h => by cases h))))
      refine sQ 2 (yg (.slice B14 ((seen1 ++ ([r_2] : List TBloch)).length) c14)) (rn (cr ?_))
      refine sQ 51 (ym (.slice B6 next_.length c6) rfl (hf3.g 4 2)) <| sQ 52 (ym (.string (bstr x)) rfl (hf3.g 6 3)) ?_
      obtain ⟨hsa, hF6⟩ := chk_inv hF6
      refine sQ 53 (Y_sadd (a := x) (b := ([72] : List UInt8)) rfl rfl rfl hsa) <| sQ 54 (ym (.string (bstr x)) rfl (hf3.g 6 3)) ?_
      obtain ⟨hsa1, hF6⟩ := chk_inv hF6
      refine sQ 55 (Y_sadd (a := x) (b := ([83] : List UInt8)) rfl rfl rfl hsa1) ?_
      refine sS 56 (Ys_bslice (s := 1) (len := 2) (vs := [(0, .string (bstr (x ++ ([72] : List UInt8)))), (1, .string (bstr (x ++ ([83] : List UInt8))))]) (cs := [.string (bstr (x ++ ([72] : List UInt8))), .string (bstr (x ++ ([83] : List UInt8)))]) (zs := [.string (bstr ([] : List UInt8)), .string (bstr ([] : List UInt8))]) (m := 2) hS25 K33 K24 K71 rfl (mpc rfl (mpc rfl mpn)) rfl rfl rfl (by kernel_rfl) (by kernel_rfl) rfl) ?_
      rintro _ w_12 ⟨b5, rfl, hS26⟩
      obtain ⟨hap2, hF6⟩ := chk_inv hF6
      refine sS 57 (Ys_append (s := 1) (by' := 16) (i := 2) (nn := next_.length) (c := c6) (k := 2) (len := (next_ ++ [(x ++ ([72] : List UInt8)), (x ++ ([83] : List UInt8))]).length) (B := B6) (xs := ([(x ++ ([72] : List UInt8)), (x ++ ([83] : List UInt8))].flatMap encS)) (cs' := ((next_ ++ [(x ++ ([72] : List UInt8)), (x ++ ([83] : List UInt8))]).flatMap encS)) hS26 K33 K24 K76 K77 rfl (by decide) rfl rfl rfl rfl (fm_lenn (l := next_) encS_len rfl) rfl (hS26.c 7) (fm_lenn (l := [(x ++ ([72] : List UInt8)), (x ++ ([83] : List UInt8))]) encS_len rfl) (fm_one' (enc := encS) encS_one [(x ++ ([72] : List UInt8)), (x ++ ([83] : List UInt8))]) (by have := hap2; omega) (by have := hap2; simp only [maxLen]; omega) (fm_app _ _) (app_len (l := next_) (l' := [(x ++ ([72] : List UInt8)), (x ++ ([83] : List UInt8))]) rfl rfl)) ?_
      rintro _ w_13 ⟨B15, c15, rfl, hS27⟩
      refine sQ 4 (yg (.slice B15 ((next_ ++ [(x ++ ([72] : List UInt8)), (x ++ ([83] : List UInt8))]).length) c15)) (rn ?_)
      have hS28 : ST w0 [] _ [⟨B13, 9, ((words1 ++ [x]).flatMap encS), c13 * 1⟩, ⟨B14, 54, ((D3 ++ ([((B11, c11), r_2)] : List (Hd × TBloch))).flatMap encD_Bloch), c14 * 1⟩, ⟨B15, 9, ((next_ ++ [(x ++ ([72] : List UInt8)), (x ++ ([83] : List UInt8))]).flatMap encS), c15 * 1⟩, ⟨aD b1, 54, kB_ r_2 B11 c11, 1⟩, ⟨B3, 9, (level.flatMap encS), c3 * 1⟩, ⟨aD b3, 9, ([x].flatMap encS), 1 * 1⟩, ⟨aD b4, 54, (([((B11, c11), r_2)] : List (Hd × TBloch)).flatMap encD_Bloch), 1 * 1⟩, ⟨aD b5, 9, ([(x ++ ([72] : List UInt8)), (x ++ ([83] : List UInt8))].flatMap encS), 2 * 1⟩] ((((D3 ++ ([((B11, c11), r_2)] : List (Hd × TBloch))).flatMap rowD_Bloch) ++ [])) := ST.subR hS27 (suba (fun r_ (h : r_ ∈ (((D3 ++ ([((B11, c11), r_2)] : List (Hd × TBloch))).flatMap rowD_Bloch) : List Ro)) => mOd (i := 1) (show r_ ∈ (((((D3 ++ ([((B11, c11), r_2)] : List (Hd × TBloch))).flatMap rowD_Bloch) ++ ((([((B11, c11), r_2)] : List (Hd × TBloch)).flatMap rowD_Bloch) ++ []))) : List Ro) from mAl _ h)) (fun _ h => by cases h))
      exact ⟨(words1 ++ [x]), (seen1 ++ ([r_2] : List TBloch)), (next_ ++ [(x ++ ([72] : List UInt8)), (x ++ ([83] : List UInt8))]), B13, c13, B14, c14, (D3 ++ ([((B11, c11), r_2)] : List (Hd × TBloch))), B15, c15, (sI hF6), (fc rfl (fc rfl (fc rfl (fc (hf3.g 16 6) (fc (hf3.g 17 7) (fc (hf3.g 18 8) fn_)))))), (dl_app hD3 (show List.map Prod.snd ([((B11, c11), r_2)] : List (Hd × TBloch)) = ([r_2] : List TBloch) from rfl)), ho6, (hS28.sel [0, 1, 2, 4] rfl rfl)⟩
     ·skip
      have hF7 := cf' hF5 hb4
      refine cw_skip ?_
      exact ⟨words1, seen1, next_, B4, c4, B5, c5, D3, B6, c6, (sI hF7), (fc (hf3.g 1 0) (fc (hf3.g 2 1) (fc (hf3.g 4 2) (fc (hf3.g 16 6) (fc (hf3.g 17 7) (fc (hf3.g 18 8) fn_)))))), hD3, ho3, (hS13.sel [0, 1, 2, 5] rfl rfl)⟩
   rintro f w ⟨words2, seen2, next_1, B7, c7, B8, c8, D2, B9, c9, rfl, hf2, hD2, ho2, hS8⟩
   refine cr ?_
   refine sQ 58 (yP (i : Int) 1 rfl (hf2.g 18 5)) <| sQ 18 (ym (vi (i64.wrap ((i : Int) + 1)))) (rn ?_)
   obtain rfl := sI hF4
   exact ⟨K28, Nat.lt_succ_self _, i + 1, words2, seen2, next_1, B7, c7, B8, c8, D2, B9, c9, (fc (hf2.g 1 0) (fc (hf2.g 2 1) (fc (hf2.g 4 2) (fc (hf2.g 16 3) (fc (hf2.g 17 4) (fc (congrArg (Value.int .i64) (wr_succ hlt1 hN)) fn_)))))), hD2, ho2, (hS8.sel [0, 1, 2, 3] rfl rfl), (by omega), hL3⟩
  ·skip
   obtain rfl : K15 = 0 := by have h := of_decide_eq_false hlt; omega
   refine cw_exit rfl ?_
   obtain rfl := sI hL2
   refine cr ?_
   refine sQ 59 (ym (.slice B6 next_.length c6) rfl (hf1.g 4 2)) <| sQ 3 (yg (.slice B6 next_.length c6)) (rn ?_)
   obtain rfl := sI hF3
   exact ⟨K7, Nat.lt_succ_self _, words1, seen1, next_, B4, c4, B5, c5, D1, B6, c6, (fc (hf1.g 1 0) (fc (hf1.g 2 1) (fc rfl fn_))), hD1, ho1, (hS6.sel [0, 1, 2] rfl rfl), hL1⟩
 ·skip
  have hF8 := cf' hb hb1
  refine cw_exit rfl ?_
  obtain rfl := sI hF8
  obtain rfl := sI hL1
  refine cq (cr ?_)
  refine sQ 60 (ym (.slice B1 words.length c1) rfl (hf.g 1 0)) <| sQ 0 (yg (.slice B1 words.length c1)) (rn (ct_ ?_))
  obtain rfl := sI hF1
  exact ret1 Tryz.results43 (v1 := .slice B1 words.length c1) (resAt_tmp rfl) ⟨B1, c1, rfl, (hS2.sN [0])⟩
end Go.VK
