/- Walks: each Go function returns what its Lean function says. By program. -/
import Derived.Test.YtkmncijipedjaaaGreatDoorIsShortestFa
import Derived.Test.YtkmncijipedjaaaGreatDoorIsShortestShelf
import Derived.Test.YtkmncijipedjaaaGreatDoorLibU
set_option linter.unusedVariables false
set_option maxRecDepth 100000
set_option maxHeartbeats 4000000
namespace Go.VK
open Go.RowKit
open Go.Proofs
open Go.IntKind
attribute [local irreducible] CW RW RA CV Y Yw Yc Ys RetOf
attribute [local irreducible] F_laws_szGateS F_laws_szCircuit F_spec_l1Turn F_spec_l2Power F_spec_l3Unit F_spec_l1In F_spec_l4Gate F_spec_l4Good F_spec_l2C_matrix F_spec_l1All F_spec_l1Good F_spec_l2C_ring F_spec_l1Root F_spec_l1Even F_spec_l1Half F_spec_l2Low F_spec_l1Add F_spec_l2C_add F_spec_l1Mul F_spec_l2C_mul F_spec_l2C_times F_spec_l6Bit F_spec_l1Neg F_spec_l2Neg F_spec_l6One F_spec_l6Cell F_spec_l6Gate F_spec_l2C_run F_spec_OperatorOf F_spec_l1Has F_spec_l3Dim F_spec_l2Good F_spec_l3Good F_spec_l28Gates F_spec_l6Turned F_spec_l6Phase F_spec_l28Find F_spec_l28Shortest F_spec_ShortestWord
theorem c_laws_szGateS (a : List TGate) (left : Int) (B : Option Addr) (c n : Nat) (w0 : World) (hn : a.length = n) (hS : ST w0 [] w0 [] [⟨B, (a.flatMap eN0)⟩]) {r_ : Int} (hF : F_laws_szGateS a left = some r_) :
  CV Tryz.prog 15 #[.slice B n c, vi left] w0 (fun v w' => v = vi r_ ∧ ST w0 [] w' [] []) := by
 subst hn
 unfold F_laws_szGateS at hF
 refine cv_of_cw 12 Tryz.func15 rfl Tryz.ntmps15 rfl ?_
 refine cq (cr ?_)
 refine sQ 4 (yg (vi 0)) (rn (cq (cr ?_)))
 refine sQ 5 (ym (vi left)) <| sQ 6 (ym (.slice B a.length c)) <| sQ 7 (Y_len (B := B) (m := a.length) (c := c) K80 rfl rfl) <| sQ 8 (yM left (a.length : Int)) <| sQ 1 (yg (vi (i64.wrap (left - (a.length : Int))))) (rn (cq (cq (cr ?_))))
 refine sQ 9 (ym (vi (i64.wrap (left - (a.length : Int))))) <| sQ 10 (yL (i64.wrap (left - (a.length : Int))) 0) (rn ?_)
 refine cw_cond (b := (decide ((i64.wrap (left - (a.length : Int))) < 0))) rfl (fun hb => ?_) (fun hb => ?_)
 ·skip
  have hF1 := ct hF hb
  refine cq (cr ?_)
  refine sQ 4 (yg (vi (-1))) (rn (ct_ ?_))
  obtain rfl := sI hF1
  exact ret1 Tryz.results15 (v1 := vi (-1)) (resAt_tmp rfl) ⟨rfl, (hS.sN [])⟩
 ·skip
  have hF2 := cf' hF hb
  refine cw_skip (cq (cr ?_))
  refine sQ 11 (ym (vi (i64.wrap (left - (a.length : Int))))) <| sQ 4 (yg (vi (i64.wrap (left - (a.length : Int))))) (rn (ct_ ?_))
  obtain rfl := sI hF2
  exact ret1 Tryz.results15 (v1 := vi (i64.wrap (left - (a.length : Int)))) (resAt_tmp rfl) ⟨rfl, (hS.sN [])⟩

theorem c_laws_szCircuit (a : TCircuit) (left : Int) (B : Option Addr) (c n : Nat) (w0 : World) (hn : a.Gates.length = n) (hS : ST w0 [] w0 [] [⟨B, (a.Gates.flatMap eN0)⟩]) {r_ : Int} (hF : F_laws_szCircuit a left = some r_) :
  CV Tryz.prog 6 #[.agg #[vi a.Qubits, .slice B n c], vi left] w0 (fun v w' => v = vi r_ ∧ ST w0 [] w' [] []) := by
 subst hn
 unfold F_laws_szCircuit at hF
 refine cv_of_cw 12 Tryz.func6 rfl Tryz.ntmps6 rfl ?_
 refine cq (cr ?_)
 refine sS 2 (yB 24 (.agg #[vi a.Qubits, .slice B a.Gates.length c]) [vi a.Qubits, .slice B a.Gates.length c] 2 hS) ?_
 rintro _ w_ ⟨b, rfl, hS1⟩
 refine sQ 4 (yg (vi 0)) (rn (cq (cr ?_)))
 refine sQ 5 (yd (aD b) 0 0 k_fd_24_1_1_22 k_sz_22_1) <| sQ 6 (yl (aD b) 1 [vi a.Qubits, .slice B a.Gates.length c] (.slice B a.Gates.length c) k_sc_22 (hS1.c 0)) <| sQ 7 (ym (vi left)) ?_
 obtain ⟨r_1, hc, hF⟩ := bI hF
 refine sc 8 rfl rfl (yC [.slice B a.Gates.length c, vi left] k_call_15 (c_laws_szGateS a.Gates left B c a.Gates.length _ rfl (hS1.inn0 [(true, 0)] rfl) hc)) ?_
 rintro _ w_1 ⟨rfl, hd⟩
 have hS2 := hS1.out00 hd
 refine sQ 1 (yg (vi r_1)) (rn (cq (cq (cr ?_))))
 refine sQ 9 (ym (vi r_1)) <| sQ 10 (yL r_1 0) (rn ?_)
 refine cw_cond (b := (decide (r_1 < 0))) rfl (fun hb => ?_) (fun hb => ?_)
 ·skip
  have hF1 := ct hF hb
  refine cq (cr ?_)
  refine sQ 4 (yg (vi (-1))) (rn (ct_ ?_))
  obtain rfl := sI hF1
  exact ret1 Tryz.results6 (v1 := vi (-1)) (resAt_tmp rfl) ⟨rfl, (hS2.sN [])⟩
 ·skip
  have hF2 := cf' hF hb
  refine cw_skip (cq (cr ?_))
  refine sQ 11 (ym (vi r_1)) <| sQ 4 (yg (vi r_1)) (rn (ct_ ?_))
  obtain rfl := sI hF2
  exact ret1 Tryz.results6 (v1 := vi r_1) (resAt_tmp rfl) ⟨rfl, (hS2.sN [])⟩

theorem c_spec_l1Turn (x : TRing) (k_ : Int)  (w0 : World)  (hS : ST w0 [] w0 [] []) {r_ : TRing} (hF : F_spec_l1Turn x k_ = some r_) :
  CV Tryz.prog 50 #[gR_ x, vi k_] w0 (fun v w' => v = (gR_ r_) ∧ ST w0 [] w' [] []) := by
 unfold F_spec_l1Turn at hF
 refine cv_of_cw 24 Tryz.func50 rfl Tryz.ntmps50 rfl ?_
 refine cq (cr ?_)
 refine sS 2 (yB 89 (gR_ x) (kR_ x) 4 hS) ?_
 rintro _ w_ ⟨b, rfl, hS1⟩
 refine sS 4 (yN [vi 0, vi 0, vi 0, vi 0] 4 hS1 K12) ?_
 rintro _ w_1 ⟨b1, rfl, hS2⟩
 refine rn (cq (cq (cr ?_)))
 refine sQ 5 (ym (vi k_)) <| sQ 6 (Y_rem (k := .i64) (a := k_) (b := 8) rfl rfl rfl (by decide)) <| sQ 7 (yP (Int.tmod k_ 8) 8) <| sQ 8 (Y_rem (k := .i64) (a := (i64.wrap ((Int.tmod k_ 8) + 8))) (b := 8) rfl rfl rfl (by decide)) <| sQ 1 (yg (vi (Int.tmod (i64.wrap ((Int.tmod k_ 8) + 8)) 8))) (rn ?_)
 obtain ⟨z, hz, hF1⟩ := bI hF
 refine cw_block ?_
 refine cw_loop (fun k f w => ∃ (K7 : Int) (A : Int) (B : Int) (C : Int) (D : Int), FF f [(1, vi K7), (2, pt (aD b) 0), (4, pt (aD b1) 0)] ∧ ST w0 [] w [⟨aD b, 89, [vi A, vi B, vi C, vi D], 4⟩, ⟨aD b1, 89, [vi 0, vi 0, vi 0, vi 0], 4⟩] [] ∧ whX F_spec_l1Turn_l1 k (K7, A, B, C, D) = some z) fuel ⟨(Int.tmod (i64.wrap ((Int.tmod k_ 8) + 8)) 8), x.A, x.B, x.C, x.D, (fc rfl (fc rfl (fc rfl fn_))), (hS2.sel [0, 1] rfl rfl), hz⟩ ?_
 rintro K23 f w ⟨K7, A, B, C, D, hf, hS3, hL⟩
 obtain ⟨K48, y, rfl, hb, hL1⟩ := whX_go hL
 unfold F_spec_l1Turn_l1 at hb
 refine cq (cq (cr ?_))
 refine sQ 9 (ym (vi K7) rfl (hf.g 1 0)) <| sQ 10 (Y_gt (k := .i64) (a := K7) (b := 0) rfl rfl rfl) (rn ?_)
 refine cw_cond (b := (decide (0 < K7))) rfl (fun hb1 => ?_) (fun hb1 => ?_)
 ·skip
  have hF2 := ct hb hb1
  refine cw_skip (cq (cw_block (cr ?_)))
  refine sQ 13 (yd (aD b) 0 0 K15 K1 rfl (hf.g 2 1)) <| sQ 14 (yl (aD b) 3 [vi A, vi B, vi C, vi D] (vi D) K0 (hS3.c 0)) <| sQ 15 (Y_neg (k := .i64) (a := D) rfl rfl) <| sQ 16 (yd (aD b) 0 0 K14 K1 rfl (hf.g 2 1)) <| sQ 17 (yl (aD b) 0 [vi A, vi B, vi C, vi D] (vi A) K0 (hS3.c 0)) <| sQ 18 (yd (aD b) 0 0 K16 K1 rfl (hf.g 2 1)) ?_
  refine sQ 19 (yl (aD b) 1 [vi A, vi B, vi C, vi D] (vi B) K0 (hS3.c 0)) <| sQ 20 (yd (aD b) 0 0 K17 K1 rfl (hf.g 2 1)) <| sQ 21 (yl (aD b) 2 [vi A, vi B, vi C, vi D] (vi C) K0 (hS3.c 0)) <| sQ 22 (Y_buildS (zs := [vi 0, vi 0, vi 0, vi 0]) (vs := [(0, vi (i64.wrap (-D))), (1, vi A), (2, vi B), (3, vi C)]) (cs := [vi (i64.wrap (-D)), vi A, vi B, vi C]) K30 K12 rfl (mpc rfl (mpc rfl (mpc rfl (mpc rfl mpn)))) rfl) ?_
  refine s0 (yT 0 4 (aD b) 89 (.agg #[vi (i64.wrap (-D)), vi A, vi B, vi C]) [vi (i64.wrap (-D)), vi A, vi B, vi C] 0 hS3 K3 rfl (hf.g 2 1)) ?_
  rintro _ w_2 ⟨rfl, hS4⟩
  refine rn (cr ?_)
  refine sQ 11 (ym (vi K7) rfl (hf.g 1 0)) <| sQ 12 (yM K7 1) <| sQ 1 (yg (vi (i64.wrap (K7 - 1)))) (rn ?_)
  obtain rfl := sI hF2
  exact ⟨K48, Nat.lt_succ_self _, (i64.wrap (K7 - 1)), (i64.wrap (-D)), A, B, C, (fc rfl (fc (hf.g 2 1) (fc (hf.g 4 2) fn_))), (hS4.sel [0, 1] rfl rfl), hL1⟩
 ·skip
  have hF3 := cf' hb hb1
  refine cw_exit rfl ?_
  obtain rfl := sI hF3
  obtain rfl := sI hL1
  refine cq (cr ?_)
  refine sQ 23 (yb (aD b) 0 [vi A, vi B, vi C, vi D] K6 K3 (hS3.c 0) rfl (hf.g 2 1)) ?_
  refine s0 (yT 1 4 (aD b1) 89 (.agg #[vi A, vi B, vi C, vi D]) [vi A, vi B, vi C, vi D] 0 hS3 K3 rfl (hf.g 4 2)) ?_
  rintro _ w_3 ⟨rfl, hS5⟩
  refine rn (ct_ ?_)
  obtain rfl := sI hF1
  exact ret1 Tryz.results50 (v1 := .agg #[vi A, vi B, vi C, vi D]) (resAt_cellA (B := aD b1) (i := 0) (cs := [vi A, vi B, vi C, vi D]) (vs := [vi A, vi B, vi C, vi D]) (hf.g 4 2) K6 K3 (hS5.c 1) rfl rfl) ⟨rfl, (hS5.sN [])⟩

theorem c_spec_l2Power (k_ : Int)  (w0 : World)  (hS : ST w0 [] w0 [] []) {r_ : TDyadic} (hF : F_spec_l2Power k_ = some r_) :
  CV Tryz.prog 48 #[vi k_] w0 (fun v w' => v = (gD_ r_) ∧ ST w0 [] w' [] []) := by
 unfold F_spec_l2Power at hF
 refine cv_of_cw 7 Tryz.func48 rfl Tryz.ntmps48 rfl ?_
 refine cq (cr ?_)
 refine sS 2 (yN kZ_ 5 hS K8) ?_
 rintro _ w_ ⟨b, rfl, hS1⟩
 refine rn (cq (cr ?_))
 refine sQ 3 (Y_buildS (zs := [vi 0, vi 0, vi 0, vi 0]) (vs := [(0, vi 1)]) (cs := [vi 1, vi 0, vi 0, vi 0]) K30 K12 rfl (mpc rfl mpn) rfl) <| sQ 4 (ym (vi k_)) ?_
 obtain ⟨r_1, hc, hF⟩ := bI hF
 refine sc 5 rfl rfl (yC [.agg #[vi 1, vi 0, vi 0, vi 0], vi k_] k_call_50 (c_spec_l1Turn (TRing.mk 1 0 0 0) k_ _  (hS1.inn0 [] rfl) hc)) ?_
 rintro _ w_1 ⟨rfl, hd⟩
 have hS2 := hS1.out00 hd
 refine sQ 6 (Y_buildS (zs := kZ_) (vs := [(0, gR_ r_1)]) (cs := [vi r_1.A, vi r_1.B, vi r_1.C, vi r_1.D, vi 0]) K22 K8 rfl (mpc rfl mpn) rfl) ?_
 refine s0 (yT 0 5 (aD b) 91 (.agg #[vi r_1.A, vi r_1.B, vi r_1.C, vi r_1.D, vi 0]) [vi r_1.A, vi r_1.B, vi r_1.C, vi r_1.D, vi 0] 0 hS2 K2) ?_
 rintro _ w_2 ⟨rfl, hS3⟩
 refine rn (ct_ ?_)
 obtain rfl := sI hF
 exact ret1 Tryz.results48 (v1 := .agg #[vi r_1.A, vi r_1.B, vi r_1.C, vi r_1.D, vi 0]) (resAt_cellA (B := aD b) (i := 0) (cs := [vi r_1.A, vi r_1.B, vi r_1.C, vi r_1.D, vi 0]) (vs := [vi r_1.A, vi r_1.B, vi r_1.C, vi r_1.D, vi 0]) rfl K5 K2 (hS3.c 0) rfl rfl) ⟨rfl, (hS3.sN [])⟩

theorem c_spec_l3Unit (n : Int)  (w0 : World)  (hS : ST w0 [] w0 [] []) {r_ : TMatrix} (hF : F_spec_l3Unit n = some r_) :
  CV Tryz.prog 28 #[vi n] w0 (fun v w' => ∃ (B : Option Addr) (c : Nat), v = (gM_ r_ B c) ∧ ST w0 [] w' [⟨B, 91, (r_.Cells.flatMap eN1), c * 5⟩] []) := by
 unfold F_spec_l3Unit at hF
 refine cv_of_cw 27 Tryz.func28 rfl Tryz.ntmps28 rfl ?_
 refine cq (cr ?_)
 refine sS 2 (yN kN_ 3 hS K13) ?_
 rintro _ w_ ⟨b, rfl, hS1⟩
 refine rn (cq (cr ?_))
 refine sQ 5 (ym (vi n)) <| sQ 6 (ym (vi n)) <| sQ 7 (ym (vi n)) <| sQ 8 (ym (vi n)) <| sQ 9 (yX n n) ?_
 obtain ⟨hmk, hF⟩ := chk_inv hF
 refine sS 10 (Ys_make (s := 5) (by' := 40) (nn := (i64.wrap (n * n)).toNat) (a := (i64.wrap (n * n))) (b := (i64.wrap (n * n))) (cs := ((List.replicate ((i64.wrap (n * n)).toNat) (TDyadic.mk (TRing.mk 0 0 0 0) 0)).flatMap eN1)) hS1 K21 K2 K67 K8 rfl rfl rfl rfl hmk.1 rfl (by have := hmk; omega) (by have := hmk; omega) (by omega) (fm_rep (enc := eN1) (d := (TDyadic.mk (TRing.mk 0 0 0 0) 0)) rfl _)) ?_
 rintro _ w_1 ⟨b1, rfl, hS2⟩
 refine sQ 11 (Y_buildS (zs := kN_) (vs := [(0, vi n), (1, vi n), (2, .slice (aD b1) ((i64.wrap (n * n)).toNat) ((i64.wrap (n * n)).toNat))]) (cs := [vi n, vi n, .slice (aD b1) ((i64.wrap (n * n)).toNat) ((i64.wrap (n * n)).toNat)]) K47 K13 rfl (mpc rfl (mpc rfl (mpc rfl mpn))) rfl) ?_
 refine sS 3 (yN kN_ 3 hS2 K13) ?_
 rintro _ w_2 ⟨b2, rfl, hS3⟩
 refine s0 (yT 2 3 (aD b2) 50 (.agg #[vi n, vi n, .slice (aD b1) ((i64.wrap (n * n)).toNat) ((i64.wrap (n * n)).toNat)]) [vi n, vi n, .slice (aD b1) ((i64.wrap (n * n)).toNat) ((i64.wrap (n * n)).toNat)] 0 hS3 K4) ?_
 rintro _ w_3 ⟨rfl, hS4⟩
 refine rn (cq (cq (cr ?_)))
 refine sQ 4 (yg (vi 0)) (rn ?_)
 obtain ⟨hN, hF⟩ := chk_inv hF
 obtain ⟨z, hz, hF1⟩ := bI hF
 refine cw_block ?_
 refine cw_loop (fun k f w => ∃ (i1 : Nat) (Cells : List TDyadic), FF f [(0, vi n), (2, pt (aD b) 0), (3, pt (aD b2) 0), (4, vi (i1 : Int))] ∧ Cells.length = (i64.wrap (n * n)).toNat ∧ ST w0 [] w [⟨aD b, 50, kN_, 3⟩, ⟨aD b2, 50, [vi n, vi n, .slice (aD b1) ((i64.wrap (n * n)).toNat) ((i64.wrap (n * n)).toNat)], 3⟩, ⟨aD b1, 91, (Cells.flatMap eN1), ((i64.wrap (n * n)).toNat) * 5⟩] [] ∧ i1 + k = n.toNat ∧ forN (F_spec_l3Unit_l1 n) k i1 Cells = some z) n.toNat ⟨0, (List.replicate ((i64.wrap (n * n)).toNat) (TDyadic.mk (TRing.mk 0 0 0 0) 0)), (fc rfl (fc rfl (fc rfl (fc rfl fn_)))), List.length_replicate, (hS4.sel [0, 2, 1] rfl rfl), Nat.zero_add _, hz⟩ ?_
 rintro k_ f w ⟨i1, Cells, hf, hl, hS5, hik, hL⟩
 refine cq (cq (cr ?_))
 refine sQ 12 (ym (vi (i1 : Int)) rfl (hf.g 4 3)) <| sQ 13 (ym (vi n) rfl (hf.g 0 0)) <| sQ 14 (yL (i1 : Int) n) (rn ?_)
 refine cw_cond (b := (decide ((i1 : Int) < n))) rfl (fun hlt => ?_) (fun hlt => ?_)
 ·skip
  have hlt1 : i1 < n.toNat := by have h := of_decide_eq_true hlt; omega
  obtain ⟨K7, rfl⟩ : ∃ k2, k_ = k2 + 1 := ⟨k_ - 1, by omega⟩
  obtain ⟨y, hb, hL1⟩ := forN_go hL
  unfold F_spec_l3Unit_l1 at hb
  refine cw_skip (cq (cw_block ?_))
  obtain ⟨r_1, hc, hb⟩ := bI hb
  obtain ⟨x, hx, hb⟩ := bI hb
  refine ra_start (hS5.se [0, 1]).fn (by kernel_rfl) ?_
  have hS7 := hS5.drew
  refine rq 0 17 (v := pt (aD b2) 2) rfl (hS7.se [0, 1]) (fun w' hw' => (yd (aD b2) 0 0 K28 K24 rfl (hf.g 3 2))) ?_
  refine rq 1 18 (v := .slice (aD b1) ((i64.wrap (n * n)).toNat) ((i64.wrap (n * n)).toNat)) rfl (hS7.se [0, 1]) (fun w' hw' => (yl (aD b2) 2 [vi n, vi n, .slice (aD b1) ((i64.wrap (n * n)).toNat) ((i64.wrap (n * n)).toNat)] (.slice (aD b1) ((i64.wrap (n * n)).toNat) ((i64.wrap (n * n)).toNat)) K34 (ST.cf hw' (i := 1) rfl))) ?_
  refine rq 2 19 (v := vi (i1 : Int)) rfl (hS7.se [0, 1]) (fun w' hw' => (ym (vi (i1 : Int)) rfl (hf.g 4 3))) ?_
  refine rq 3 20 (v := vi n) rfl (hS7.se [0, 1]) (fun w' hw' => (ym (vi n) rfl (hf.g 0 0))) ?_
  refine rq 4 21 (v := vi (i64.wrap ((i1 : Int) * n))) rfl (hS7.se [0, 1]) (fun w' hw' => (yX (i1 : Int) n)) ?_
  refine rq 5 22 (v := vi (i1 : Int)) rfl (hS7.se [0, 1]) (fun w' hw' => (ym (vi (i1 : Int)) rfl (hf.g 4 3))) ?_
  refine rq 6 23 (v := vi (i64.wrap ((i64.wrap ((i1 : Int) * n)) + (i1 : Int)))) rfl (hS7.se [0, 1]) (fun w' hw' => (yP (i64.wrap ((i1 : Int) * n)) (i1 : Int))) ?_
  refine rA [7] ?_
  refine rC 24 7 rfl (yC [vi 0] K56 (c_spec_l2Power 0 _  (hS7.inn0 [] rfl) hc)) ?_ ?_
  ·rintro _ w_4 ⟨rfl, hd⟩
   have hS8 := hS7.out00 hd
   refine ⟨(hS8.se [0, 1]), ?_⟩
   refine rA [8] ?_
   refine ra_y 25 (i := 8) (v := pt (aD b1) ((i64.wrap ((i64.wrap ((i1 : Int) * n)) + (i1 : Int))).toNat * 5)) rfl rfl rfl (Y_index (B := aD b1) (m := (i64.wrap (n * n)).toNat) (c := (i64.wrap (n * n)).toNat) (k := .i64) (i := (i64.wrap ((i64.wrap ((i1 : Int) * n)) + (i1 : Int)))) K21 K2 rfl rfl rfl (gi_isSome enc_Dyadic_len rfl (hS8.c 2) hx) (getI_nn hx) (getI_ltI hx hl)) (hS8.se [0, 1]) ?_ ?_
   ·skip
    refine rA [9] ?_
    refine rZ 9 rfl (yS 2 5 (aD b1) 91 (gD_ r_1) (kD_ r_1) ((i64.wrap ((i64.wrap ((i1 : Int) * n)) + (i1 : Int))).toNat * 5) ((Cells.set (i64.wrap ((i64.wrap ((i1 : Int) * n)) + (i1 : Int))).toNat r_1).flatMap eN1) hS8 K2 rfl rfl rfl rfl rfl rfl rfl (gi_fit0 enc_Dyadic_len hx) (gi_set enc_Dyadic_len hx r_1 rfl)) ?_ ?_
    ·rintro _ w_5 ⟨rfl, hS9⟩
     refine ⟨(hS9.se [0, 1]), ?_⟩
     refine ra_done (by kernel_rfl) ?_
     refine cr ?_
     refine sQ 15 (ym (vi (i1 : Int)) rfl (hf.g 4 3)) <| sQ 16 (yP (i1 : Int) 1) <| sQ 4 (yg (vi (i64.wrap ((i1 : Int) + 1)))) (rn ?_)
     obtain rfl := sI hb
     exact ⟨K7, Nat.lt_succ_self _, i1 + 1, (Cells.set (i64.wrap ((i64.wrap ((i1 : Int) * n)) + (i1 : Int))).toNat r_1), (fc (hf.g 0 0) (fc (hf.g 2 1) (fc (hf.g 3 2) (fc (congrArg (Value.int .i64) (wr_succ hlt1 hN)) fn_)))), (set_len _ _ _ hl), (hS9.sel [0, 1, 2] rfl rfl), (by omega), hL1⟩
    exact aN
   exact aN
  exact aN
 ·skip
  obtain rfl : k_ = 0 := by have h := of_decide_eq_false hlt; omega
  refine cw_exit rfl ?_
  obtain rfl := sI hL
  refine cq (cr ?_)
  refine sQ 26 (yb (aD b2) 0 [vi n, vi n, .slice (aD b1) ((i64.wrap (n * n)).toNat) ((i64.wrap (n * n)).toNat)] K9 K4 (hS5.c 1) rfl (hf.g 3 2)) ?_
  refine s0 (yT 0 3 (aD b) 50 (.agg #[vi n, vi n, .slice (aD b1) ((i64.wrap (n * n)).toNat) ((i64.wrap (n * n)).toNat)]) [vi n, vi n, .slice (aD b1) ((i64.wrap (n * n)).toNat) ((i64.wrap (n * n)).toNat)] 0 hS5 K4 rfl (hf.g 2 1)) ?_
  rintro _ w_6 ⟨rfl, hS10⟩
  refine rn (ct_ ?_)
  obtain rfl := sI hF1
  exact ret1 Tryz.results28 (v1 := .agg #[vi n, vi n, .slice (aD b1) ((i64.wrap (n * n)).toNat) ((i64.wrap (n * n)).toNat)]) (resAt_cellA (B := aD b) (i := 0) (cs := [vi n, vi n, .slice (aD b1) ((i64.wrap (n * n)).toNat) ((i64.wrap (n * n)).toNat)]) (vs := [vi n, vi n, .slice (aD b1) ((i64.wrap (n * n)).toNat) ((i64.wrap (n * n)).toNat)]) (hf.g 2 1) K9 K4 (hS10.c 0) rfl rfl) ⟨aD b1, (i64.wrap (n * n)).toNat, (by simp [hl]), (hS10.sN [2])⟩

theorem c_spec_l1In (n : Int) (lo : Int) (hi : Int)  (w0 : World)  (hS : ST w0 [] w0 [] []) {r_ : Bool} (hF : F_spec_l1In n lo hi = some r_) :
  CV Tryz.prog 18 #[vi n, vi lo, vi hi] w0 (fun v w' => v = .bool r_ ∧ ST w0 [] w' [] []) := by
 unfold F_spec_l1In at hF
 refine cv_of_cw 15 Tryz.func18 rfl Tryz.ntmps18 rfl ?_
 refine cq (cr ?_)
 refine sQ 6 (yg (.bool false)) (rn (cq (cr ?_)))
 refine sQ 7 (ym (vi n)) <| sQ 8 (ym (vi lo)) <| sQ 9 (Y_ge (k := .i64) (a := n) (b := lo) rfl rfl rfl) <| sQ 10 (ym (.bool (decide (lo ≤ n)))) ?_
 refine sgq 11 (B := (decide (lo ≤ n))) (v := vi n) rfl rfl (uT_ 10) (fun hg => (ym (vi n))) ?_
 refine sgq 12 (B := (decide (lo ≤ n))) (v := vi hi) rfl rfl (uT_ 10) (fun hg1 => (ym (vi hi))) ?_
 refine sgq 13 (B := (decide (lo ≤ n))) (v := .bool (decide (n ≤ hi))) rfl rfl (uT_ 10) (fun hg2 => (Y_le (k := .i64) (a := n) (b := hi) rfl (gv_of (v := vi n) hg2) (gv_of (v := vi hi) hg2))) ?_
 refine sQ 14 (Y_and (b := (decide (lo ≤ n))) (z := (decide (n ≤ hi))) rfl rfl rfl rfl) <| sQ 6 (yg (.bool ((decide (lo ≤ n)) && (decide (n ≤ hi))))) (rn (ct_ ?_))
 obtain rfl := sI hF
 exact ret1 Tryz.results18 (v1 := .bool ((decide (lo ≤ n)) && (decide (n ≤ hi)))) (resAt_tmp rfl) ⟨rfl, (hS.sN [])⟩

theorem c_spec_l4Gate (n : Int) (g : TGate)  (w0 : World)  (hS : ST w0 [] w0 [] []) {r_ : Bool} (hF : F_spec_l4Gate n g = some r_) :
  CV Tryz.prog 74 #[vi n, .agg #[vi g.Kind, vi g.A, vi g.B]] w0 (fun v w' => v = .bool r_ ∧ ST w0 [] w' [] []) := by
 unfold F_spec_l4Gate at hF
 refine cv_of_cw 55 Tryz.func74 rfl Tryz.ntmps74 rfl ?_
 refine cq (cr ?_)
 refine sS 3 (yB 56 (.agg #[vi g.Kind, vi g.A, vi g.B]) [vi g.Kind, vi g.A, vi g.B] 3 hS) ?_
 rintro _ w_ ⟨b, rfl, hS1⟩
 refine sQ 4 (yg (.bool false)) (rn (cq (cw_block (cq (cr ?_)))))
 refine sQ 6 (yd (aD b) 0 0 K38 K1) <| sQ 7 (yl (aD b) 0 [vi g.Kind, vi g.A, vi g.B] (vi g.Kind) K0 (hS1.c 0)) ?_
 obtain ⟨r_1, hc, hF⟩ := bI hF
 refine sc 8 rfl rfl (yC [vi g.Kind, vi 1, vi 8] K57 (c_spec_l1In g.Kind 1 8 _  (hS1.inn0 [] rfl) hc)) ?_
 rintro _ w_1 ⟨rfl, hd⟩
 have hS2 := hS1.out00 hd
 refine sQ 5 (yg (.bool r_1)) (rn ?_)
 refine cw_cond (b := r_1) rfl (fun hb => ?_) (fun hb => ?_)
 ·skip
  have hF1 := ct hF hb
  refine cq (cr ?_)
  refine sQ 9 (yd (aD b) 0 0 K26 K1) <| sQ 10 (yl (aD b) 1 [vi g.Kind, vi g.A, vi g.B] (vi g.A) K0 (hS2.c 0)) <| sQ 11 (ym (vi n)) <| sQ 12 (yM n 1) ?_
  obtain ⟨r_2, hc1, hF1⟩ := bI hF1
  refine sc 13 rfl rfl (yC [vi g.A, vi 0, vi (i64.wrap (n - 1))] K57 (c_spec_l1In g.A 0 (i64.wrap (n - 1)) _  (hS2.inn0 [] rfl) hc1)) ?_
  rintro _ w_2 ⟨rfl, hd1⟩
  have hS3 := hS2.out00 hd1
  refine sQ 14 (ym (.bool r_2)) ?_
  refine sgq 15 (B := r_2) (v := pt (aD b) 2) rfl rfl (uT_ 14) (fun hg => (yd (aD b) 0 0 K35 K1)) ?_
  refine sgq 16 (B := r_2) (v := vi g.B) rfl rfl (uT_ 14) (fun hg1 => (yl (aD b) 2 [vi g.Kind, vi g.A, vi g.B] (vi g.B) K0 (hS3.c 0) rfl (gv_of (v := pt (aD b) 2) hg1))) ?_
  refine sgq 17 (B := r_2) (v := .bool (g.B == 0)) rfl rfl (uT_ 14) (fun hg2 => (yE g.B 0 rfl (gv_of (v := vi g.B) hg2))) ?_
  refine sQ 18 (Y_and (b := r_2) (z := (g.B == 0)) rfl rfl rfl rfl) <| sQ 4 (yg (.bool (r_2 && (g.B == 0)))) (rn (ct_ ?_))
  obtain rfl := sI hF1
  exact ret1 Tryz.results74 (v1 := .bool (r_2 && (g.B == 0))) (resAt_tmp rfl) ⟨rfl, (hS3.sN [])⟩
 ·skip
  have hF2 := cf' hF hb
  refine cq (cr ?_)
  refine sQ 20 (yd (aD b) 0 0 K38 K1) <| sQ 21 (yl (aD b) 0 [vi g.Kind, vi g.A, vi g.B] (vi g.Kind) K0 (hS2.c 0)) ?_
  obtain ⟨r_3, hc2, hF2⟩ := bI hF2
  refine sc 22 rfl rfl (yC [vi g.Kind, vi 9, vi 11] K57 (c_spec_l1In g.Kind 9 11 _  (hS2.inn0 [] rfl) hc2)) ?_
  rintro _ w_3 ⟨rfl, hd2⟩
  have hS4 := hS2.out00 hd2
  refine sQ 19 (yg (.bool r_3)) (rn ?_)
  refine cw_cond (b := r_3) rfl (fun hb1 => ?_) (fun hb1 => ?_)
  ·skip
   have hF3 := ct hF2 hb1
   refine cq (cr ?_)
   refine sQ 23 (yd (aD b) 0 0 K26 K1) <| sQ 24 (yl (aD b) 1 [vi g.Kind, vi g.A, vi g.B] (vi g.A) K0 (hS4.c 0)) <| sQ 25 (ym (vi n)) <| sQ 26 (yM n 1) ?_
   obtain ⟨r_4, hc3, hF3⟩ := bI hF3
   refine sc 27 rfl rfl (yC [vi g.A, vi 0, vi (i64.wrap (n - 1))] K57 (c_spec_l1In g.A 0 (i64.wrap (n - 1)) _  (hS4.inn0 [] rfl) hc3)) ?_
   rintro _ w_4 ⟨rfl, hd3⟩
   have hS5 := hS4.out00 hd3
   refine sQ 28 (ym (.bool r_4)) ?_
   refine sgq 29 (B := r_4) (v := pt (aD b) 2) rfl rfl (uT_ 28) (fun hg3 => (yd (aD b) 0 0 K35 K1)) ?_
   refine sgq 30 (B := r_4) (v := vi g.B) rfl rfl (uT_ 28) (fun hg4 => (yl (aD b) 2 [vi g.Kind, vi g.A, vi g.B] (vi g.B) K0 (hS5.c 0) rfl (gv_of (v := pt (aD b) 2) hg4))) ?_
   refine sgq 31 (B := r_4) (v := vi n) rfl rfl (uT_ 28) (fun hg5 => (ym (vi n))) ?_
   refine sgq 32 (B := r_4) (v := vi (i64.wrap (n - 1))) rfl rfl (uT_ 28) (fun hg6 => (yM n 1 rfl (gv_of (v := vi n) hg6))) ?_
   obtain ⟨r_5, hc4, hF3⟩ := bI hF3
   refine sgc 33 (B := r_4) (v := .bool r_5) (F := hS5.fn) rfl rfl (uT_ 28) hS5 (fun hg7 => (yC [vi g.B, vi 0, vi (i64.wrap (n - 1))] K57 (CV.mono (c_spec_l1In g.B 0 (i64.wrap (n - 1)) _  (hS5.inn0 [] rfl) (gb_inv hc4 hg7)) (by rintro _ _ ⟨rfl, h⟩; exact ⟨rfl, hS5.out00 h⟩)) rfl (mc (gv_of (v := vi g.B) hg7) (mc rfl (mc (gv_of (v := vi (i64.wrap (n - 1))) hg7) mn))))) ?_
   rintro w_5 hS6
   refine sQ 34 (Y_and (b := r_4) (z := r_5) rfl rfl rfl rfl) <| sQ 35 (ym (.bool (r_4 && r_5))) ?_
   refine sgq 36 (B := (r_4 && r_5)) (v := pt (aD b) 1) rfl rfl (uT_ 35) (fun hg8 => (yd (aD b) 0 0 K26 K1)) ?_
   refine sgq 37 (B := (r_4 && r_5)) (v := vi g.A) rfl rfl (uT_ 35) (fun hg9 => (yl (aD b) 1 [vi g.Kind, vi g.A, vi g.B] (vi g.A) K0 (hS6.c 0) rfl (gv_of (v := pt (aD b) 1) hg9))) ?_
   refine sgq 38 (B := (r_4 && r_5)) (v := pt (aD b) 2) rfl rfl (uT_ 35) (fun hg10 => (yd (aD b) 0 0 K35 K1)) ?_
   refine sgq 39 (B := (r_4 && r_5)) (v := vi g.B) rfl rfl (uT_ 35) (fun hg11 => (yl (aD b) 2 [vi g.Kind, vi g.A, vi g.B] (vi g.B) K0 (hS6.c 0) rfl (gv_of (v := pt (aD b) 2) hg11))) ?_
   refine sgq 40 (B := (r_4 && r_5)) (v := .bool (g.A != g.B)) rfl rfl (uT_ 35) (fun hg12 => (Y_ne (k := .i64) (a := g.A) (b := g.B) rfl (gv_of (v := vi g.A) hg12) (gv_of (v := vi g.B) hg12))) ?_
   refine sQ 41 (Y_and (b := (r_4 && r_5)) (z := (g.A != g.B)) rfl rfl rfl rfl) <| sQ 4 (yg (.bool ((r_4 && r_5) && (g.A != g.B)))) (rn (ct_ ?_))
   obtain rfl := sI hF3
   exact ret1 Tryz.results74 (v1 := .bool ((r_4 && r_5) && (g.A != g.B))) (resAt_tmp rfl) ⟨rfl, (hS6.sN [])⟩
  ·skip
   have hF4 := cf' hF2 hb1
   refine cw_skip (cq (cr ?_))
   refine sQ 42 (yd (aD b) 0 0 K38 K1) <| sQ 43 (yl (aD b) 0 [vi g.Kind, vi g.A, vi g.B] (vi g.Kind) K0 (hS4.c 0)) <| sQ 44 (yE g.Kind 12) <| sQ 45 (ym (.bool (g.Kind == 12))) ?_
   refine sgq 46 (B := (g.Kind == 12)) (v := pt (aD b) 1) rfl rfl (uT_ 45) (fun hg13 => (yd (aD b) 0 0 K26 K1)) ?_
   refine sgq 47 (B := (g.Kind == 12)) (v := vi g.A) rfl rfl (uT_ 45) (fun hg14 => (yl (aD b) 1 [vi g.Kind, vi g.A, vi g.B] (vi g.A) K0 (hS4.c 0) rfl (gv_of (v := pt (aD b) 1) hg14))) ?_
   refine sgq 48 (B := (g.Kind == 12)) (v := .bool (g.A == 0)) rfl rfl (uT_ 45) (fun hg15 => (yE g.A 0 rfl (gv_of (v := vi g.A) hg15))) ?_
   refine sQ 49 (Y_and (b := (g.Kind == 12)) (z := (g.A == 0)) rfl rfl rfl rfl) <| sQ 50 (ym (.bool ((g.Kind == 12) && (g.A == 0)))) ?_
   refine sgq 51 (B := ((g.Kind == 12) && (g.A == 0))) (v := pt (aD b) 2) rfl rfl (uT_ 50) (fun hg16 => (yd (aD b) 0 0 K35 K1)) ?_
   refine sgq 52 (B := ((g.Kind == 12) && (g.A == 0))) (v := vi g.B) rfl rfl (uT_ 50) (fun hg17 => (yl (aD b) 2 [vi g.Kind, vi g.A, vi g.B] (vi g.B) K0 (hS4.c 0) rfl (gv_of (v := pt (aD b) 2) hg17))) ?_
   refine sgq 53 (B := ((g.Kind == 12) && (g.A == 0))) (v := .bool (g.B == 0)) rfl rfl (uT_ 50) (fun hg18 => (yE g.B 0 rfl (gv_of (v := vi g.B) hg18))) ?_
   refine sQ 54 (Y_and (b := ((g.Kind == 12) && (g.A == 0))) (z := (g.B == 0)) rfl rfl rfl rfl) <| sQ 4 (yg (.bool (((g.Kind == 12) && (g.A == 0)) && (g.B == 0)))) (rn (ct_ ?_))
   obtain rfl := sI hF4
   exact ret1 Tryz.results74 (v1 := .bool (((g.Kind == 12) && (g.A == 0)) && (g.B == 0))) (resAt_tmp rfl) ⟨rfl, (hS4.sN [])⟩

theorem c_spec_l4Good (c : TCircuit) (B : Option Addr) (c1 n : Nat) (w0 : World) (hn : c.Gates.length = n) (hS : ST w0 [] w0 [] [⟨B, (c.Gates.flatMap eN0)⟩]) {r_ : Bool} (hF : F_spec_l4Good c = some r_) :
  CV Tryz.prog 40 #[.agg #[vi c.Qubits, .slice B n c1]] w0 (fun v w' => v = .bool r_ ∧ ST w0 [] w' [] []) := by
 subst hn
 unfold F_spec_l4Good at hF
 refine cv_of_cw 28 Tryz.func40 rfl Tryz.ntmps40 rfl ?_
 refine cq (cr ?_)
 refine sS 1 (yB 30 (.agg #[vi c.Qubits, .slice B c.Gates.length c1]) [vi c.Qubits, .slice B c.Gates.length c1] 2 hS) ?_
 rintro _ w_ ⟨b, rfl, hS1⟩
 refine sQ 2 (yg (.bool false)) (rn (cq (cq (cr ?_))))
 refine sQ 5 (yd (aD b) 0 0 K49 K1) <| sQ 6 (yl (aD b) 0 [vi c.Qubits, .slice B c.Gates.length c1] (vi c.Qubits) K0 (hS1.c 0)) ?_
 obtain ⟨r_1, hc, hF⟩ := bI hF
 refine sc 7 rfl rfl (yC [vi c.Qubits, vi 1, vi 5] K57 (c_spec_l1In c.Qubits 1 5 _  (hS1.inn0 [] rfl) hc)) ?_
 rintro _ w_1 ⟨rfl, hd⟩
 have hS2 := hS1.out00 hd
 refine sQ 8 (Y_not (p := r_1) rfl rfl) <| sQ 9 (ym (.bool (!r_1))) ?_
 refine sgq 10 (B := (!(!r_1))) (v := pt (aD b) 1) rfl rfl (uF_ 9) (fun hg => (yd (aD b) 0 0 K44 K39)) ?_
 refine sgq 11 (B := (!(!r_1))) (v := .slice B c.Gates.length c1) rfl rfl (uF_ 9) (fun hg1 => (yl (aD b) 1 [vi c.Qubits, .slice B c.Gates.length c1] (.slice B c.Gates.length c1) K43 (hS2.c 0) rfl (gv_of (v := pt (aD b) 1) hg1))) ?_
 refine sgq 12 (B := (!(!r_1))) (v := vi (c.Gates.length : Int)) rfl rfl (uF_ 9) (fun hg2 => (Y_len (B := B) (m := c.Gates.length) (c := c1) K11 rfl (gv_of (v := .slice B c.Gates.length c1) hg2))) ?_
 refine sgq 13 (B := (!(!r_1))) (v := .bool (decide (400 < (c.Gates.length : Int)))) rfl rfl (uF_ 9) (fun hg3 => (Y_gt (k := .i64) (a := (c.Gates.length : Int)) (b := 400) rfl (gv_of (v := vi (c.Gates.length : Int)) hg3) rfl)) ?_
 refine sQ 14 (Y_or (b := (!r_1)) (z := (decide (400 < (c.Gates.length : Int)))) rfl rfl rfl rfl) (rn ?_)
 refine cw_cond (b := ((!r_1) || (decide (400 < (c.Gates.length : Int))))) rfl (fun hb => ?_) (fun hb => ?_)
 ·skip
  have hF1 := ct hF hb
  refine cq (cr ?_)
  refine sQ 2 (yg (.bool false)) (rn (ct_ ?_))
  obtain rfl := sI hF1
  exact ret1 Tryz.results40 (v1 := .bool false) (resAt_tmp rfl) ⟨rfl, (hS2.sN [])⟩
 ·skip
  have hF2 := cf' hF hb
  refine cw_skip (cq (cq (cr ?_)))
  refine sQ 15 (yd (aD b) 0 0 K44 K39) <| sQ 16 (yl (aD b) 1 [vi c.Qubits, .slice B c.Gates.length c1] (.slice B c.Gates.length c1) K43 (hS2.c 0)) <| sQ 17 (Y_len (B := B) (m := c.Gates.length) (c := c1) K11 rfl rfl) <| sQ 18 (ym (vi 0)) (rn ?_)
  obtain ⟨hN, hF2⟩ := chk_inv hF2
  obtain ⟨z, hz, hF3⟩ := bI hF2
  refine cw_block ?_
  refine cw_loop (fun k f w => ∃ (i : Nat), FF f [(1, pt (aD b) 0), (16, .slice B c.Gates.length c1), (17, vi (c.Gates.length : Int)), (18, vi (i : Int))] ∧ ST w0 [] w [⟨aD b, 30, [vi c.Qubits, .slice B c.Gates.length c1], 2⟩] [⟨B, (c.Gates.flatMap eN0)⟩] ∧ i + k = c.Gates.length ∧ forX (F_spec_l4Good_l1 c) k i () = some z) c.Gates.length ⟨0, (fc rfl (fc rfl (fc rfl (fc rfl fn_)))), (hS2.sel [0] rfl rfl), Nat.zero_add _, hz⟩ ?_
  rintro k_ f w ⟨i, hf, hS3, hik, hL⟩
  refine cq (cr ?_)
  refine sQ 19 (yL (i : Int) (c.Gates.length : Int) rfl (hf.g 18 3) (hf.g 17 2)) (rn (cq ?_))
  refine cw_cond (b := (decide ((i : Int) < (c.Gates.length : Int)))) rfl (fun hlt => ?_) (fun hlt => ?_)
  ·skip
   have hlt1 : i < c.Gates.length := by have h := of_decide_eq_true hlt; omega
   obtain ⟨K7, rfl⟩ : ∃ k2, k_ = k2 + 1 := ⟨k_ - 1, by omega⟩
   obtain ⟨y, hb1, hL1⟩ := forX_go hL
   unfold F_spec_l4Good_l1 at hb1
   refine cw_skip (cq (cw_block (cq (cr ?_))))
   obtain ⟨x, hx, hb1⟩ := bI hb1
   refine sQ 20 (Y_index (B := B) (m := c.Gates.length) (c := c1) (k := .i64) (i := (i : Int)) K11 K10 rfl (hf.g 16 1) (hf.g 18 3) (gi_isSome enc_Gate_len rfl (hS3.rf (i := 0) rfl) hx) (getI_nn hx) (getI_ltI hx rfl)) <| sQ 21 (ya B ((i : Int).toNat * 3) (c.Gates.flatMap eN0) [vi x.Kind, vi x.A, vi x.B] K31 K10 (hS3.rf (i := 0) rfl) rfl rfl (enc_Gate_len x) (gi_seg enc_Gate_len hx)) ?_
   refine sS 4 (yN [vi 0, vi 0, vi 0] 3 hS3 K20) ?_
   rintro _ w_2 ⟨b1, rfl, hS4⟩
   refine s0 (yT 1 3 (aD b1) 56 (.agg #[vi x.Kind, vi x.A, vi x.B]) [vi x.Kind, vi x.A, vi x.B] 0 hS4 K10) ?_
   rintro _ w_3 ⟨rfl, hS5⟩
   refine rn (cq (cr ?_))
   refine sQ 22 (yd (aD b) 0 0 K49 K1 rfl (hf.g 1 0)) <| sQ 23 (yl (aD b) 0 [vi c.Qubits, .slice B c.Gates.length c1] (vi c.Qubits) K0 (hS5.c 0)) <| sQ 24 (yb (aD b1) 0 [vi x.Kind, vi x.A, vi x.B] K31 K10 (hS5.c 1)) ?_
   obtain ⟨r_2, hc1, hb1⟩ := bI hb1
   refine sc 25 rfl rfl (yC [vi c.Qubits, .agg #[vi x.Kind, vi x.A, vi x.B]] k_call_74 (c_spec_l4Gate c.Qubits x _  (hS5.inn0 [] rfl) hc1)) ?_
   rintro _ w_4 ⟨rfl, hd1⟩
   have hS6 := hS5.out00 hd1
   refine sQ 26 (Y_not (p := r_2) rfl rfl) (rn ?_)
   refine cw_cond (b := (!r_2)) rfl (fun hb2 => ?_) (fun hb2 => ?_)
   ·skip
    have hF4 := ct hb1 hb2
    refine cq (cr ?_)
    refine sQ 2 (yg (.bool false)) (rn (ct_ ?_))
    obtain rfl := sI hF4
    obtain rfl := sI hL1
    obtain rfl := sI hF3
    exact ret1 Tryz.results40 (v1 := .bool false) (resAt_tmp rfl) ⟨rfl, (hS6.sN [])⟩
   ·skip
    have hF5 := cf' hb1 hb2
    refine cw_skip (cr ?_)
    refine sQ 27 (yP (i : Int) 1 rfl (hf.g 18 3)) <| sQ 18 (ym (vi (i64.wrap ((i : Int) + 1)))) (rn ?_)
    obtain rfl := sI hF5
    exact ⟨K7, Nat.lt_succ_self _, i + 1, (fc (hf.g 1 0) (fc (hf.g 16 1) (fc (hf.g 17 2) (fc (congrArg (Value.int .i64) (wr_succ hlt1 hN)) fn_)))), (hS6.sel [0] rfl rfl), (by omega), hL1⟩
  ·skip
   obtain rfl : k_ = 0 := by have h := of_decide_eq_false hlt; omega
   refine cw_exit rfl ?_
   obtain rfl := sI hL
   refine cq (cr ?_)
   refine sQ 2 (yg (.bool true)) (rn (ct_ ?_))
   obtain rfl := sI hF3
   exact ret1 Tryz.results40 (v1 := .bool true) (resAt_tmp rfl) ⟨rfl, (hS3.sN [])⟩

theorem c_spec_l2C_matrix (c : Tl2C) (m : TMatrix) (B : Option Addr) (B1 : Option Addr) (c1 n : Nat) (w0 : World) (hn : m.Cells.length = n) (hS : ST w0 (bl [⟨B1, 91, (m.Cells.flatMap eN1), c1 * 5⟩]) w0 [⟨B1, 91, (m.Cells.flatMap eN1), c1 * 5⟩] [⟨B, [.bool c.bad]⟩]) {r_ : TMatrix} {r_1 : Bool} (hF : F_spec_l2C_matrix c m = some (r_, r_1)) :
  CV Tryz.prog 41 #[pt B 0, .agg #[vi m.Rows, vi m.Cols, .slice B1 n c1]] w0 (fun v w' => ∃ (B2 : Option Addr) (c2 : Nat), v = .tuple #[gM_ r_ B2 c2, .bool r_1] ∧ ST w0 (bl [⟨B1, 91, (m.Cells.flatMap eN1), c1 * 5⟩]) w' [⟨B2, 91, (r_.Cells.flatMap eN1), c2 * 5⟩] []) := by
 subst hn
 unfold F_spec_l2C_matrix at hF
 refine cv_of_cw 12 Tryz.func41 rfl Tryz.ntmps41 rfl ?_
 refine cq (cr ?_)
 refine sS 3 (yB 50 (gM_ m B1 c1) (kM_ m B1 c1) 3 hS) ?_
 rintro _ w_ ⟨b, rfl, hS1⟩
 refine sS 4 (yN kN_ 3 hS1 K13) ?_
 rintro _ w_1 ⟨b1, rfl, hS2⟩
 refine sQ 5 (yg (.bool false)) (rn (cq (cq (cr ?_))))
 refine sQ 6 (ym (pt B 0)) <| sQ 7 (Y_nilCheck (B := B) (i := 0) rfl rfl) <| sQ 8 (yd B 0 0 K76 K59) <| sQ 9 (yl B 0 [.bool c.bad] (.bool c.bad) K94 (hS2.rf (i := 0) rfl)) (rn ?_)
 refine cw_cond (b := c.bad) rfl (fun hb => ?_) (fun hb => ?_)
 ·skip
  have hF1 := ct hF hb
  refine cq (cr ?_)
  refine sQ 10 (Y_buildS (zs := kN_) (vs := []) (cs := kN_) K47 K13 rfl mpn rfl) ?_
  refine s0 (yT 2 3 (aD b1) 50 gN_ kN_ 0 hS2 K4) ?_
  rintro _ w_2 ⟨rfl, hS3⟩
  refine sQ 5 (yg (.bool false)) (rn (ct_ ?_))
  have hS4 := hS3.addNil 91
  obtain ⟨rfl, rfl⟩ := pr2 (sI hF1)
  exact ret2 Tryz.results41 (v1 := gN_) (resAt_cellA (B := aD b1) (i := 0) (cs := kN_) (vs := kN_) rfl K9 K4 (hS4.c 2) rfl rfl) (v2 := .bool false) (resAt_tmp rfl) ⟨none, 0, rfl, (hS4.sN [3])⟩
 ·skip
  have hF2 := cf' hF hb
  refine cw_skip (cq (cr ?_))
  refine sQ 11 (yb (aD b) 0 (kM_ m B1 c1) K9 K4 (hS2.c 1)) ?_
  refine s0 (yT 2 3 (aD b1) 50 (gM_ m B1 c1) (kM_ m B1 c1) 0 hS2 K4) ?_
  rintro _ w_3 ⟨rfl, hS5⟩
  refine sQ 5 (yg (.bool true)) (rn (ct_ ?_))
  obtain ⟨rfl, rfl⟩ := pr2 (sI hF2)
  exact ret2 Tryz.results41 (v1 := gM_ m B1 c1) (resAt_cellA (B := aD b1) (i := 0) (cs := kM_ m B1 c1) (vs := kM_ m B1 c1) rfl K9 K4 (hS5.c 2) rfl rfl) (v2 := .bool true) (resAt_tmp rfl) ⟨B1, c1, rfl, (hS5.sN [0])⟩

theorem c_spec_l1All (l : List Int) (lo : Int) (hi : Int) (B : Option Addr) (c n : Nat) (w0 : World) (hn : l.length = n) (hS : ST w0 [] w0 [] [⟨B, (l.flatMap encI)⟩]) {r_ : Bool} (hF : F_spec_l1All l lo hi = some r_) :
  CV Tryz.prog 124 #[.slice B n c, vi lo, vi hi] w0 (fun v w' => v = .bool r_ ∧ ST w0 [] w' [] []) := by
 subst hn
 unfold F_spec_l1All at hF
 refine cv_of_cw 21 Tryz.func124 rfl Tryz.ntmps124 rfl ?_
 refine cq (cr ?_)
 refine sQ 6 (yg (.bool false)) (rn (cq (cq (cr ?_))))
 refine sQ 9 (ym (.slice B l.length c)) <| sQ 10 (Y_len (B := B) (m := l.length) (c := c) K25 rfl rfl) <| sQ 11 (ym (vi 0)) (rn ?_)
 obtain ⟨hN, hF⟩ := chk_inv hF
 obtain ⟨z, hz, hF1⟩ := bI hF
 refine cw_block ?_
 refine cw_loop (fun k f w => ∃ (i : Nat), FF f [(1, vi lo), (2, vi hi), (9, .slice B l.length c), (10, vi (l.length : Int)), (11, vi (i : Int))] ∧ ST w0 [] w [] [⟨B, (l.flatMap encI)⟩] ∧ i + k = l.length ∧ forX (F_spec_l1All_l1 l lo hi) k i () = some z) l.length ⟨0, (fc rfl (fc rfl (fc rfl (fc rfl (fc rfl fn_))))), (hS.sel [] rfl rfl), Nat.zero_add _, hz⟩ ?_
 rintro k_ f w ⟨i, hf, hS1, hik, hL⟩
 refine cq (cr ?_)
 refine sQ 12 (yL (i : Int) (l.length : Int) rfl (hf.g 11 4) (hf.g 10 3)) (rn (cq ?_))
 refine cw_cond (b := (decide ((i : Int) < (l.length : Int)))) rfl (fun hlt => ?_) (fun hlt => ?_)
 ·skip
  have hlt1 : i < l.length := by have h := of_decide_eq_true hlt; omega
  obtain ⟨K7, rfl⟩ : ∃ k2, k_ = k2 + 1 := ⟨k_ - 1, by omega⟩
  obtain ⟨y, hb, hL1⟩ := forX_go hL
  unfold F_spec_l1All_l1 at hb
  refine cw_skip (cq (cw_block (cq (cr ?_))))
  obtain ⟨x, hx, hb⟩ := bI hb
  refine sQ 13 (Y_index (B := B) (m := l.length) (c := c) (k := .i64) (i := (i : Int)) K25 K1 rfl (hf.g 9 2) (hf.g 11 4) (gi_isSome encI_len rfl (hS1.rf (i := 0) rfl) hx) (getI_nn hx) (getI_ltI hx rfl)) <| sQ 14 (yl B ((i : Int).toNat * 1) (l.flatMap encI) (vi x) K0 (hS1.rf (i := 0) rfl) rfl rfl (gi_at0 encI_len hx rfl)) <| sQ 8 (yg (vi x)) (rn (cq (cr ?_)))
  refine sQ 15 (ym (vi x)) <| sQ 16 (ym (vi lo) rfl (hf.g 1 0)) <| sQ 17 (ym (vi hi) rfl (hf.g 2 1)) ?_
  obtain ⟨r_1, hc, hb⟩ := bI hb
  refine sc 18 rfl rfl (yC [vi x, vi lo, vi hi] K57 (c_spec_l1In x lo hi _  (hS1.inn0 [] rfl) hc)) ?_
  rintro _ w_ ⟨rfl, hd⟩
  have hS2 := hS1.out00 hd
  refine sQ 19 (Y_not (p := r_1) rfl rfl) (rn ?_)
  refine cw_cond (b := (!r_1)) rfl (fun hb1 => ?_) (fun hb1 => ?_)
  ·skip
   have hF2 := ct hb hb1
   refine cq (cr ?_)
   refine sQ 6 (yg (.bool false)) (rn (ct_ ?_))
   obtain rfl := sI hF2
   obtain rfl := sI hL1
   obtain rfl := sI hF1
   exact ret1 Tryz.results124 (v1 := .bool false) (resAt_tmp rfl) ⟨rfl, (hS2.sN [])⟩
  ·skip
   have hF3 := cf' hb hb1
   refine cw_skip (cr ?_)
   refine sQ 20 (yP (i : Int) 1 rfl (hf.g 11 4)) <| sQ 11 (ym (vi (i64.wrap ((i : Int) + 1)))) (rn ?_)
   obtain rfl := sI hF3
   exact ⟨K7, Nat.lt_succ_self _, i + 1, (fc (hf.g 1 0) (fc (hf.g 2 1) (fc (hf.g 9 2) (fc (hf.g 10 3) (fc (congrArg (Value.int .i64) (wr_succ hlt1 hN)) fn_))))), (hS2.sel [] rfl rfl), (by omega), hL1⟩
 ·skip
  obtain rfl : k_ = 0 := by have h := of_decide_eq_false hlt; omega
  refine cw_exit rfl ?_
  obtain rfl := sI hL
  refine cq (cr ?_)
  refine sQ 6 (yg (.bool true)) (rn (ct_ ?_))
  obtain rfl := sI hF1
  exact ret1 Tryz.results124 (v1 := .bool true) (resAt_tmp rfl) ⟨rfl, (hS1.sN [])⟩

theorem c_spec_l1Good (x : TRing)  (w0 : World)  (hS : ST w0 [] w0 [] []) {r_ : Bool} (hF : F_spec_l1Good x = some r_) :
  CV Tryz.prog 107 #[gR_ x] w0 (fun v w' => v = .bool r_ ∧ ST w0 [] w' [] []) := by
 unfold F_spec_l1Good at hF
 refine cv_of_cw 13 Tryz.func107 rfl Tryz.ntmps107 rfl ?_
 refine cq (cr ?_)
 refine sS 1 (yB 89 (gR_ x) (kR_ x) 4 hS) ?_
 rintro _ w_ ⟨b, rfl, hS1⟩
 refine sQ 2 (yg (.bool false)) (rn (cq (cr ?_)))
 refine sQ 3 (yd (aD b) 0 0 K14 K1) <| sQ 4 (yl (aD b) 0 (kR_ x) (vi x.A) K0 (hS1.c 0)) <| sQ 5 (yd (aD b) 0 0 K16 K1) <| sQ 6 (yl (aD b) 1 (kR_ x) (vi x.B) K0 (hS1.c 0)) <| sQ 7 (yd (aD b) 0 0 K17 K1) <| sQ 8 (yl (aD b) 2 (kR_ x) (vi x.C) K0 (hS1.c 0)) ?_
 refine sQ 9 (yd (aD b) 0 0 K15 K1) <| sQ 10 (yl (aD b) 3 (kR_ x) (vi x.D) K0 (hS1.c 0)) ?_
 refine sS 11 (Ys_bslice (s := 1) (len := 4) (vs := [(0, vi x.A), (1, vi x.B), (2, vi x.C), (3, vi x.D)]) (cs := kR_ x) (zs := [vi 0, vi 0, vi 0, vi 0]) (m := 4) hS1 K25 K1 K53 rfl (mpc rfl (mpc rfl (mpc rfl (mpc rfl mpn)))) rfl rfl rfl (by kernel_rfl) (by kernel_rfl) rfl) ?_
 rintro _ w_1 ⟨b1, rfl, hS2⟩
 obtain ⟨r_1, hc, hF⟩ := bI hF
 refine sc 12 rfl rfl (yC [.slice (aD b1) 4 4, vi (-1000000000), vi 1000000000] k_call_124 (c_spec_l1All [x.A, x.B, x.C, x.D] (-1000000000) 1000000000 (aD b1) 4 4 _ rfl (hS2.inn0 [(false, 1)] rfl) hc)) ?_
 rintro _ w_2 ⟨rfl, hd⟩
 have hS3 := hS2.out00 hd
 refine sQ 2 (yg (.bool r_1)) (rn (ct_ ?_))
 obtain rfl := sI hF
 exact ret1 Tryz.results107 (v1 := .bool r_1) (resAt_tmp rfl) ⟨rfl, (hS3.sN [])⟩

theorem c_spec_l2C_ring (c : Tl2C) (x : TRing) (B : Option Addr) (w0 : World)  (hS : ST w0 (bl [⟨B, 65, [.bool c.bad], 1⟩]) w0 [⟨B, 65, [.bool c.bad], 1⟩] []) {r_ : TRing} {m : Tl2C} (hF : F_spec_l2C_ring c x = some (r_, m)) :
  CV Tryz.prog 81 #[pt B 0, gR_ x] w0 (fun v w' => v = (gR_ r_) ∧ ST w0 (bl [⟨B, 65, [.bool c.bad], 1⟩]) w' [⟨B, 65, [.bool m.bad], 1⟩] []) := by
 unfold F_spec_l2C_ring at hF
 refine cv_of_cw 13 Tryz.func81 rfl Tryz.ntmps81 rfl ?_
 refine cq (cr ?_)
 refine sS 3 (yB 89 (gR_ x) (kR_ x) 4 hS) ?_
 rintro _ w_ ⟨b, rfl, hS1⟩
 refine sS 4 (yN [vi 0, vi 0, vi 0, vi 0] 4 hS1 K12) ?_
 rintro _ w_1 ⟨b1, rfl, hS2⟩
 refine rn (cq (cq (cr ?_)))
 refine sQ 5 (yb (aD b) 0 (kR_ x) K6 K3 (hS2.c 1)) ?_
 obtain ⟨r_1, hc, hF⟩ := bI hF
 refine sc 6 rfl rfl (yC [gR_ x] k_call_107 (c_spec_l1Good x _  (hS2.inn0 [] rfl) hc)) ?_
 rintro _ w_2 ⟨rfl, hd⟩
 have hS3 := hS2.out00 hd
 refine sQ 7 (Y_not (p := r_1) rfl rfl) (rn ?_)
 refine cw_cond (b := (!r_1)) rfl (fun hb => ?_) (fun hb => ?_)
 ·skip
  have hF1 := ct hF hb
  refine cq (cr ?_)
  refine sQ 8 (ym (pt B 0)) <| sQ 9 (Y_nilCheck (B := B) (i := 0) rfl rfl) <| sQ 10 (yd B 0 0 K76 K59) ?_
  refine s0 (yT 0 1 B 65 (.bool true) [.bool true] 0 hS3 K59) ?_
  rintro _ w_3 ⟨rfl, hS4⟩
  refine rn (cq (cr ?_))
  refine sQ 11 (Y_buildS (zs := [vi 0, vi 0, vi 0, vi 0]) (vs := []) (cs := [vi 0, vi 0, vi 0, vi 0]) K30 K12 rfl mpn rfl) ?_
  refine s0 (yT 2 4 (aD b1) 89 (.agg #[vi 0, vi 0, vi 0, vi 0]) [vi 0, vi 0, vi 0, vi 0] 0 hS4 K3) ?_
  rintro _ w_4 ⟨rfl, hS5⟩
  refine rn (ct_ ?_)
  obtain ⟨rfl, rfl⟩ := pr2 (sI hF1)
  exact ret1 Tryz.results81 (v1 := .agg #[vi 0, vi 0, vi 0, vi 0]) (resAt_cellA (B := aD b1) (i := 0) (cs := [vi 0, vi 0, vi 0, vi 0]) (vs := [vi 0, vi 0, vi 0, vi 0]) rfl K6 K3 (hS5.c 2) rfl rfl) ⟨rfl, (hS5.sN [0])⟩
 ·skip
  have hF2 := cf' hF hb
  refine cw_skip (cq (cr ?_))
  refine sQ 12 (yb (aD b) 0 (kR_ x) K6 K3 (hS3.c 1)) ?_
  refine s0 (yT 2 4 (aD b1) 89 (gR_ x) (kR_ x) 0 hS3 K3) ?_
  rintro _ w_5 ⟨rfl, hS6⟩
  refine rn (ct_ ?_)
  obtain ⟨rfl, rfl⟩ := pr2 (sI hF2)
  exact ret1 Tryz.results81 (v1 := gR_ x) (resAt_cellA (B := aD b1) (i := 0) (cs := kR_ x) (vs := kR_ x) rfl K6 K3 (hS6.c 2) rfl rfl) ⟨rfl, (hS6.sN [0])⟩

theorem c_spec_l1Root (x : TRing)  (w0 : World)  (hS : ST w0 [] w0 [] []) {r_ : TRing} (hF : F_spec_l1Root x = some r_) :
  CV Tryz.prog 82 #[gR_ x] w0 (fun v w' => v = (gR_ r_) ∧ ST w0 [] w' [] []) := by
 unfold F_spec_l1Root at hF
 refine cv_of_cw 24 Tryz.func82 rfl Tryz.ntmps82 rfl ?_
 refine cq (cr ?_)
 refine sS 1 (yB 89 (gR_ x) (kR_ x) 4 hS) ?_
 rintro _ w_ ⟨b, rfl, hS1⟩
 refine sS 2 (yN [vi 0, vi 0, vi 0, vi 0] 4 hS1 K12) ?_
 rintro _ w_1 ⟨b1, rfl, hS2⟩
 refine rn (cq (cr ?_))
 refine sQ 3 (yd (aD b) 0 0 K16 K1) <| sQ 4 (yl (aD b) 1 (kR_ x) (vi x.B) K0 (hS2.c 0)) <| sQ 5 (yd (aD b) 0 0 K15 K1) <| sQ 6 (yl (aD b) 3 (kR_ x) (vi x.D) K0 (hS2.c 0)) <| sQ 7 (yM x.B x.D) <| sQ 8 (yd (aD b) 0 0 K14 K1) ?_
 refine sQ 9 (yl (aD b) 0 (kR_ x) (vi x.A) K0 (hS2.c 0)) <| sQ 10 (yd (aD b) 0 0 K17 K1) <| sQ 11 (yl (aD b) 2 (kR_ x) (vi x.C) K0 (hS2.c 0)) <| sQ 12 (yP x.A x.C) <| sQ 13 (yd (aD b) 0 0 K16 K1) <| sQ 14 (yl (aD b) 1 (kR_ x) (vi x.B) K0 (hS2.c 0)) ?_
 refine sQ 15 (yd (aD b) 0 0 K15 K1) <| sQ 16 (yl (aD b) 3 (kR_ x) (vi x.D) K0 (hS2.c 0)) <| sQ 17 (yP x.B x.D) <| sQ 18 (yd (aD b) 0 0 K17 K1) <| sQ 19 (yl (aD b) 2 (kR_ x) (vi x.C) K0 (hS2.c 0)) <| sQ 20 (yd (aD b) 0 0 K14 K1) ?_
 refine sQ 21 (yl (aD b) 0 (kR_ x) (vi x.A) K0 (hS2.c 0)) <| sQ 22 (yM x.C x.A) <| sQ 23 (Y_buildS (zs := [vi 0, vi 0, vi 0, vi 0]) (vs := [(0, vi (i64.wrap (x.B - x.D))), (1, vi (i64.wrap (x.A + x.C))), (2, vi (i64.wrap (x.B + x.D))), (3, vi (i64.wrap (x.C - x.A)))]) (cs := [vi (i64.wrap (x.B - x.D)), vi (i64.wrap (x.A + x.C)), vi (i64.wrap (x.B + x.D)), vi (i64.wrap (x.C - x.A))]) K30 K12 rfl (mpc rfl (mpc rfl (mpc rfl (mpc rfl mpn)))) rfl) ?_
 refine s0 (yT 1 4 (aD b1) 89 (.agg #[vi (i64.wrap (x.B - x.D)), vi (i64.wrap (x.A + x.C)), vi (i64.wrap (x.B + x.D)), vi (i64.wrap (x.C - x.A))]) [vi (i64.wrap (x.B - x.D)), vi (i64.wrap (x.A + x.C)), vi (i64.wrap (x.B + x.D)), vi (i64.wrap (x.C - x.A))] 0 hS2 K3) ?_
 rintro _ w_2 ⟨rfl, hS3⟩
 refine rn (ct_ ?_)
 obtain rfl := sI hF
 exact ret1 Tryz.results82 (v1 := .agg #[vi (i64.wrap (x.B - x.D)), vi (i64.wrap (x.A + x.C)), vi (i64.wrap (x.B + x.D)), vi (i64.wrap (x.C - x.A))]) (resAt_cellA (B := aD b1) (i := 0) (cs := [vi (i64.wrap (x.B - x.D)), vi (i64.wrap (x.A + x.C)), vi (i64.wrap (x.B + x.D)), vi (i64.wrap (x.C - x.A))]) (vs := [vi (i64.wrap (x.B - x.D)), vi (i64.wrap (x.A + x.C)), vi (i64.wrap (x.B + x.D)), vi (i64.wrap (x.C - x.A))]) rfl K6 K3 (hS3.c 1) rfl rfl) ⟨rfl, (hS3.sN [])⟩

theorem c_spec_l1Even (x : TRing)  (w0 : World)  (hS : ST w0 [] w0 [] []) {r_ : Bool} (hF : F_spec_l1Even x = some r_) :
  CV Tryz.prog 108 #[gR_ x] w0 (fun v w' => v = .bool r_ ∧ ST w0 [] w' [] []) := by
 unfold F_spec_l1Even at hF
 refine cv_of_cw 19 Tryz.func108 rfl Tryz.ntmps108 rfl ?_
 refine cq (cr ?_)
 refine sS 1 (yB 89 (gR_ x) (kR_ x) 4 hS) ?_
 rintro _ w_ ⟨b, rfl, hS1⟩
 refine sQ 2 (yg (.bool false)) (rn (cq (cr ?_)))
 refine sQ 3 (yd (aD b) 0 0 K14 K1) <| sQ 4 (yl (aD b) 0 (kR_ x) (vi x.A) K0 (hS1.c 0)) <| sQ 5 (yd (aD b) 0 0 K17 K1) <| sQ 6 (yl (aD b) 2 (kR_ x) (vi x.C) K0 (hS1.c 0)) <| sQ 7 (yP x.A x.C) <| sQ 8 (Y_rem (k := .i64) (a := (i64.wrap (x.A + x.C))) (b := 2) rfl rfl rfl (by decide)) ?_
 refine sQ 9 (yE (Int.tmod (i64.wrap (x.A + x.C)) 2) 0) <| sQ 10 (ym (.bool ((Int.tmod (i64.wrap (x.A + x.C)) 2) == 0))) ?_
 refine sgq 11 (B := ((Int.tmod (i64.wrap (x.A + x.C)) 2) == 0)) (v := pt (aD b) 1) rfl rfl (uT_ 10) (fun hg => (yd (aD b) 0 0 K16 K1)) ?_
 refine sgq 12 (B := ((Int.tmod (i64.wrap (x.A + x.C)) 2) == 0)) (v := vi x.B) rfl rfl (uT_ 10) (fun hg1 => (yl (aD b) 1 (kR_ x) (vi x.B) K0 (hS1.c 0) rfl (gv_of (v := pt (aD b) 1) hg1))) ?_
 refine sgq 13 (B := ((Int.tmod (i64.wrap (x.A + x.C)) 2) == 0)) (v := pt (aD b) 3) rfl rfl (uT_ 10) (fun hg2 => (yd (aD b) 0 0 K15 K1)) ?_
 refine sgq 14 (B := ((Int.tmod (i64.wrap (x.A + x.C)) 2) == 0)) (v := vi x.D) rfl rfl (uT_ 10) (fun hg3 => (yl (aD b) 3 (kR_ x) (vi x.D) K0 (hS1.c 0) rfl (gv_of (v := pt (aD b) 3) hg3))) ?_
 refine sgq 15 (B := ((Int.tmod (i64.wrap (x.A + x.C)) 2) == 0)) (v := vi (i64.wrap (x.B + x.D))) rfl rfl (uT_ 10) (fun hg4 => (yP x.B x.D rfl (gv_of (v := vi x.B) hg4) (gv_of (v := vi x.D) hg4))) ?_
 refine sgq 16 (B := ((Int.tmod (i64.wrap (x.A + x.C)) 2) == 0)) (v := vi (Int.tmod (i64.wrap (x.B + x.D)) 2)) rfl rfl (uT_ 10) (fun hg5 => (Y_rem (k := .i64) (a := (i64.wrap (x.B + x.D))) (b := 2) rfl (gv_of (v := vi (i64.wrap (x.B + x.D))) hg5) rfl (by decide))) ?_
 refine sgq 17 (B := ((Int.tmod (i64.wrap (x.A + x.C)) 2) == 0)) (v := .bool ((Int.tmod (i64.wrap (x.B + x.D)) 2) == 0)) rfl rfl (uT_ 10) (fun hg6 => (yE (Int.tmod (i64.wrap (x.B + x.D)) 2) 0 rfl (gv_of (v := vi (Int.tmod (i64.wrap (x.B + x.D)) 2)) hg6))) ?_
 refine sQ 18 (Y_and (b := ((Int.tmod (i64.wrap (x.A + x.C)) 2) == 0)) (z := ((Int.tmod (i64.wrap (x.B + x.D)) 2) == 0)) rfl rfl rfl rfl) <| sQ 2 (yg (.bool (((Int.tmod (i64.wrap (x.A + x.C)) 2) == 0) && ((Int.tmod (i64.wrap (x.B + x.D)) 2) == 0)))) (rn (ct_ ?_))
 obtain rfl := sI hF
 exact ret1 Tryz.results108 (v1 := .bool (((Int.tmod (i64.wrap (x.A + x.C)) 2) == 0) && ((Int.tmod (i64.wrap (x.B + x.D)) 2) == 0))) (resAt_tmp rfl) ⟨rfl, (hS1.sN [])⟩

theorem c_spec_l1Half (x : TRing)  (w0 : World)  (hS : ST w0 [] w0 [] []) {r_ : TRing} (hF : F_spec_l1Half x = some r_) :
  CV Tryz.prog 111 #[gR_ x] w0 (fun v w' => v = (gR_ r_) ∧ ST w0 [] w' [] []) := by
 unfold F_spec_l1Half at hF
 refine cv_of_cw 19 Tryz.func111 rfl Tryz.ntmps111 rfl ?_
 refine cq (cr ?_)
 refine sS 1 (yB 89 (gR_ x) (kR_ x) 4 hS) ?_
 rintro _ w_ ⟨b, rfl, hS1⟩
 refine sS 2 (yN [vi 0, vi 0, vi 0, vi 0] 4 hS1 K12) ?_
 rintro _ w_1 ⟨b1, rfl, hS2⟩
 refine rn (cq (cr ?_))
 refine sQ 4 (yb (aD b) 0 (kR_ x) K6 K3 (hS2.c 0)) ?_
 obtain ⟨r_1, hc, hF⟩ := bI hF
 refine sc 5 rfl rfl (yC [gR_ x] K60 (c_spec_l1Root x _  (hS2.inn0 [] rfl) hc)) ?_
 rintro _ w_2 ⟨rfl, hd⟩
 have hS3 := hS2.out00 hd
 refine sS 3 (yN [vi 0, vi 0, vi 0, vi 0] 4 hS3 K12) ?_
 rintro _ w_3 ⟨b2, rfl, hS4⟩
 refine s0 (yT 2 4 (aD b2) 89 (gR_ r_1) (kR_ r_1) 0 hS4 K3) ?_
 rintro _ w_4 ⟨rfl, hS5⟩
 refine rn (cq (cr ?_))
 refine sQ 6 (yd (aD b2) 0 0 K14 K1) <| sQ 7 (yl (aD b2) 0 (kR_ r_1) (vi r_1.A) K0 (hS5.c 2)) <| sQ 8 (Y_quo (k := .i64) (a := r_1.A) (b := 2) rfl rfl rfl (by decide)) <| sQ 9 (yd (aD b2) 0 0 K16 K1) <| sQ 10 (yl (aD b2) 1 (kR_ r_1) (vi r_1.B) K0 (hS5.c 2)) <| sQ 11 (Y_quo (k := .i64) (a := r_1.B) (b := 2) rfl rfl rfl (by decide)) ?_
 refine sQ 12 (yd (aD b2) 0 0 K17 K1) <| sQ 13 (yl (aD b2) 2 (kR_ r_1) (vi r_1.C) K0 (hS5.c 2)) <| sQ 14 (Y_quo (k := .i64) (a := r_1.C) (b := 2) rfl rfl rfl (by decide)) <| sQ 15 (yd (aD b2) 0 0 K15 K1) <| sQ 16 (yl (aD b2) 3 (kR_ r_1) (vi r_1.D) K0 (hS5.c 2)) <| sQ 17 (Y_quo (k := .i64) (a := r_1.D) (b := 2) rfl rfl rfl (by decide)) ?_
 refine sQ 18 (Y_buildS (zs := [vi 0, vi 0, vi 0, vi 0]) (vs := [(0, vi (i64.wrap (Int.tdiv r_1.A 2))), (1, vi (i64.wrap (Int.tdiv r_1.B 2))), (2, vi (i64.wrap (Int.tdiv r_1.C 2))), (3, vi (i64.wrap (Int.tdiv r_1.D 2)))]) (cs := [vi (i64.wrap (Int.tdiv r_1.A 2)), vi (i64.wrap (Int.tdiv r_1.B 2)), vi (i64.wrap (Int.tdiv r_1.C 2)), vi (i64.wrap (Int.tdiv r_1.D 2))]) K30 K12 rfl (mpc rfl (mpc rfl (mpc rfl (mpc rfl mpn)))) rfl) ?_
 refine s0 (yT 1 4 (aD b1) 89 (.agg #[vi (i64.wrap (Int.tdiv r_1.A 2)), vi (i64.wrap (Int.tdiv r_1.B 2)), vi (i64.wrap (Int.tdiv r_1.C 2)), vi (i64.wrap (Int.tdiv r_1.D 2))]) [vi (i64.wrap (Int.tdiv r_1.A 2)), vi (i64.wrap (Int.tdiv r_1.B 2)), vi (i64.wrap (Int.tdiv r_1.C 2)), vi (i64.wrap (Int.tdiv r_1.D 2))] 0 hS5 K3) ?_
 rintro _ w_5 ⟨rfl, hS6⟩
 refine rn (ct_ ?_)
 obtain rfl := sI hF
 exact ret1 Tryz.results111 (v1 := .agg #[vi (i64.wrap (Int.tdiv r_1.A 2)), vi (i64.wrap (Int.tdiv r_1.B 2)), vi (i64.wrap (Int.tdiv r_1.C 2)), vi (i64.wrap (Int.tdiv r_1.D 2))]) (resAt_cellA (B := aD b1) (i := 0) (cs := [vi (i64.wrap (Int.tdiv r_1.A 2)), vi (i64.wrap (Int.tdiv r_1.B 2)), vi (i64.wrap (Int.tdiv r_1.C 2)), vi (i64.wrap (Int.tdiv r_1.D 2))]) (vs := [vi (i64.wrap (Int.tdiv r_1.A 2)), vi (i64.wrap (Int.tdiv r_1.B 2)), vi (i64.wrap (Int.tdiv r_1.C 2)), vi (i64.wrap (Int.tdiv r_1.D 2))]) rfl K6 K3 (hS6.c 1) rfl rfl) ⟨rfl, (hS6.sN [])⟩

theorem c_spec_l2Low (num : TRing) (exp : Int)  (w0 : World)  (hS : ST w0 [] w0 [] []) {r_ : TDyadic} (hF : F_spec_l2Low num exp = some r_) :
  CV Tryz.prog 83 #[gR_ num, vi exp] w0 (fun v w' => v = (gD_ r_) ∧ ST w0 [] w' [] []) := by
 unfold F_spec_l2Low at hF
 refine cv_of_cw 18 Tryz.func83 rfl Tryz.ntmps83 rfl ?_
 refine cq (cr ?_)
 refine sS 2 (yB 89 (gR_ num) (kR_ num) 4 hS) ?_
 rintro _ w_ ⟨b, rfl, hS1⟩
 refine sS 4 (yN kZ_ 5 hS1 K8) ?_
 rintro _ w_1 ⟨b1, rfl, hS2⟩
 refine rn (cq ?_)
 obtain ⟨z, hz, hF1⟩ := bI hF
 refine cw_block ?_
 refine cw_loop (fun k f w => ∃ (exp1 : Int) (A : Int) (B : Int) (C : Int) (D : Int), FF f [(1, vi exp1), (2, pt (aD b) 0), (4, pt (aD b1) 0)] ∧ ST w0 [] w [⟨aD b, 89, [vi A, vi B, vi C, vi D], 4⟩, ⟨aD b1, 91, kZ_, 5⟩] [] ∧ whX F_spec_l2Low_l1 k (exp1, A, B, C, D) = some z) fuel ⟨exp, num.A, num.B, num.C, num.D, (fc rfl (fc rfl (fc rfl fn_))), (hS2.sel [0, 1] rfl rfl), hz⟩ ?_
 rintro k_ f w ⟨exp1, A, B, C, D, hf, hS3, hL⟩
 obtain ⟨K7, y, rfl, hb, hL1⟩ := whX_go hL
 unfold F_spec_l2Low_l1 at hb
 refine cq (cq (cr ?_))
 refine sQ 5 (ym (vi exp1) rfl (hf.g 1 0)) <| sQ 6 (Y_gt (k := .i64) (a := exp1) (b := 0) rfl rfl rfl) <| sQ 7 (ym (.bool (decide (0 < exp1)))) ?_
 refine sgq 8 (B := (decide (0 < exp1))) (v := .agg #[vi A, vi B, vi C, vi D]) rfl rfl (uT_ 7) (fun hg => (yb (aD b) 0 [vi A, vi B, vi C, vi D] K6 K3 (hS3.c 0) rfl (hf.g 2 1))) ?_
 obtain ⟨r_1, hc, hb⟩ := bI hb
 refine sgc 9 (B := (decide (0 < exp1))) (v := .bool r_1) (F := hS3.fn) rfl rfl (uT_ 7) hS3 (fun hg1 => (yC [.agg #[vi A, vi B, vi C, vi D]] k_call_108 (CV.mono (c_spec_l1Even (TRing.mk A B C D) _  (hS3.inn0 [] rfl) (gb_inv hc hg1)) (by rintro _ _ ⟨rfl, h⟩; exact ⟨rfl, hS3.out00 h⟩)) rfl (mc (gv_of (v := .agg #[vi A, vi B, vi C, vi D]) hg1) mn))) ?_
 rintro w_2 hS4
 refine sQ 10 (Y_and (b := (decide (0 < exp1))) (z := r_1) rfl rfl rfl rfl) (rn ?_)
 refine cw_cond (b := ((decide (0 < exp1)) && r_1)) rfl (fun hb1 => ?_) (fun hb1 => ?_)
 ·skip
  have hF2 := ct hb hb1
  refine cw_skip (cw_block (cq (cr ?_)))
  refine sQ 11 (yb (aD b) 0 [vi A, vi B, vi C, vi D] K6 K3 (hS4.c 0) rfl (hf.g 2 1)) ?_
  obtain ⟨r_2, hc1, hF2⟩ := bI hF2
  refine sc 12 rfl rfl (yC [.agg #[vi A, vi B, vi C, vi D]] k_call_111 (c_spec_l1Half (TRing.mk A B C D) _  (hS4.inn0 [] rfl) hc1)) ?_
  rintro _ w_3 ⟨rfl, hd⟩
  have hS5 := hS4.out00 hd
  refine s0 (yT 0 4 (aD b) 89 (gR_ r_2) (kR_ r_2) 0 hS5 K3 rfl (hf.g 2 1)) ?_
  rintro _ w_4 ⟨rfl, hS6⟩
  refine rn (cr ?_)
  refine sQ 13 (ym (vi exp1) rfl (hf.g 1 0)) <| sQ 14 (yM exp1 1) <| sQ 1 (yg (vi (i64.wrap (exp1 - 1)))) (rn ?_)
  obtain rfl := sI hF2
  exact ⟨K7, Nat.lt_succ_self _, (i64.wrap (exp1 - 1)), r_2.A, r_2.B, r_2.C, r_2.D, (fc rfl (fc (hf.g 2 1) (fc (hf.g 4 2) fn_))), (hS6.sel [0, 1] rfl rfl), hL1⟩
 ·skip
  have hF3 := cf' hb hb1
  refine cw_exit rfl ?_
  obtain rfl := sI hF3
  obtain rfl := sI hL1
  refine cq (cr ?_)
  refine sQ 15 (yb (aD b) 0 [vi A, vi B, vi C, vi D] K6 K3 (hS4.c 0) rfl (hf.g 2 1)) <| sQ 16 (ym (vi exp1) rfl (hf.g 1 0)) <| sQ 17 (Y_buildS (zs := kZ_) (vs := [(0, .agg #[vi A, vi B, vi C, vi D]), (1, vi exp1)]) (cs := [vi A, vi B, vi C, vi D, vi exp1]) K22 K8 rfl (mpc rfl (mpc rfl mpn)) rfl) ?_
  refine s0 (yT 1 5 (aD b1) 91 (.agg #[vi A, vi B, vi C, vi D, vi exp1]) [vi A, vi B, vi C, vi D, vi exp1] 0 hS4 K2 rfl (hf.g 4 2)) ?_
  rintro _ w_5 ⟨rfl, hS7⟩
  refine rn (ct_ ?_)
  obtain rfl := sI hF1
  exact ret1 Tryz.results83 (v1 := .agg #[vi A, vi B, vi C, vi D, vi exp1]) (resAt_cellA (B := aD b1) (i := 0) (cs := [vi A, vi B, vi C, vi D, vi exp1]) (vs := [vi A, vi B, vi C, vi D, vi exp1]) (hf.g 4 2) K5 K2 (hS7.c 1) rfl rfl) ⟨rfl, (hS7.sN [])⟩

theorem c_spec_l1Add (x : TRing) (y : TRing)  (w0 : World)  (hS : ST w0 [] w0 [] []) {r_ : TRing} (hF : F_spec_l1Add x y = some r_) :
  CV Tryz.prog 84 #[gR_ x, gR_ y] w0 (fun v w' => v = (gR_ r_) ∧ ST w0 [] w' [] []) := by
 unfold F_spec_l1Add at hF
 refine cv_of_cw 26 Tryz.func84 rfl Tryz.ntmps84 rfl ?_
 refine cq (cr ?_)
 refine sS 2 (yB 89 (gR_ x) (kR_ x) 4 hS) ?_
 rintro _ w_ ⟨b, rfl, hS1⟩
 refine sS 3 (yB 89 (gR_ y) (kR_ y) 4 hS1) ?_
 rintro _ w_1 ⟨b1, rfl, hS2⟩
 refine sS 4 (yN [vi 0, vi 0, vi 0, vi 0] 4 hS2 K12) ?_
 rintro _ w_2 ⟨b2, rfl, hS3⟩
 refine rn (cq (cr ?_))
 refine sQ 5 (yd (aD b) 0 0 K14 K1) <| sQ 6 (yl (aD b) 0 (kR_ x) (vi x.A) K0 (hS3.c 0)) <| sQ 7 (yd (aD b1) 0 0 K14 K1) <| sQ 8 (yl (aD b1) 0 (kR_ y) (vi y.A) K0 (hS3.c 1)) <| sQ 9 (yP x.A y.A) <| sQ 10 (yd (aD b) 0 0 K16 K1) ?_
 refine sQ 11 (yl (aD b) 1 (kR_ x) (vi x.B) K0 (hS3.c 0)) <| sQ 12 (yd (aD b1) 0 0 K16 K1) <| sQ 13 (yl (aD b1) 1 (kR_ y) (vi y.B) K0 (hS3.c 1)) <| sQ 14 (yP x.B y.B) <| sQ 15 (yd (aD b) 0 0 K17 K1) <| sQ 16 (yl (aD b) 2 (kR_ x) (vi x.C) K0 (hS3.c 0)) ?_
 refine sQ 17 (yd (aD b1) 0 0 K17 K1) <| sQ 18 (yl (aD b1) 2 (kR_ y) (vi y.C) K0 (hS3.c 1)) <| sQ 19 (yP x.C y.C) <| sQ 20 (yd (aD b) 0 0 K15 K1) <| sQ 21 (yl (aD b) 3 (kR_ x) (vi x.D) K0 (hS3.c 0)) <| sQ 22 (yd (aD b1) 0 0 K15 K1) ?_
 refine sQ 23 (yl (aD b1) 3 (kR_ y) (vi y.D) K0 (hS3.c 1)) <| sQ 24 (yP x.D y.D) <| sQ 25 (Y_buildS (zs := [vi 0, vi 0, vi 0, vi 0]) (vs := [(0, vi (i64.wrap (x.A + y.A))), (1, vi (i64.wrap (x.B + y.B))), (2, vi (i64.wrap (x.C + y.C))), (3, vi (i64.wrap (x.D + y.D)))]) (cs := [vi (i64.wrap (x.A + y.A)), vi (i64.wrap (x.B + y.B)), vi (i64.wrap (x.C + y.C)), vi (i64.wrap (x.D + y.D))]) K30 K12 rfl (mpc rfl (mpc rfl (mpc rfl (mpc rfl mpn)))) rfl) ?_
 refine s0 (yT 2 4 (aD b2) 89 (.agg #[vi (i64.wrap (x.A + y.A)), vi (i64.wrap (x.B + y.B)), vi (i64.wrap (x.C + y.C)), vi (i64.wrap (x.D + y.D))]) [vi (i64.wrap (x.A + y.A)), vi (i64.wrap (x.B + y.B)), vi (i64.wrap (x.C + y.C)), vi (i64.wrap (x.D + y.D))] 0 hS3 K3) ?_
 rintro _ w_3 ⟨rfl, hS4⟩
 refine rn (ct_ ?_)
 obtain rfl := sI hF
 exact ret1 Tryz.results84 (v1 := .agg #[vi (i64.wrap (x.A + y.A)), vi (i64.wrap (x.B + y.B)), vi (i64.wrap (x.C + y.C)), vi (i64.wrap (x.D + y.D))]) (resAt_cellA (B := aD b2) (i := 0) (cs := [vi (i64.wrap (x.A + y.A)), vi (i64.wrap (x.B + y.B)), vi (i64.wrap (x.C + y.C)), vi (i64.wrap (x.D + y.D))]) (vs := [vi (i64.wrap (x.A + y.A)), vi (i64.wrap (x.B + y.B)), vi (i64.wrap (x.C + y.C)), vi (i64.wrap (x.D + y.D))]) rfl K6 K3 (hS4.c 2) rfl rfl) ⟨rfl, (hS4.sN [])⟩

theorem c_spec_l2C_add (c : Tl2C) (x : TDyadic) (y : TDyadic) (B : Option Addr) (w0 : World)  (hS : ST w0 (bl [⟨B, 65, [.bool c.bad], 1⟩]) w0 [⟨B, 65, [.bool c.bad], 1⟩] []) {r_ : TDyadic} {m : Tl2C} (hF : F_spec_l2C_add c x y = some (r_, m)) :
  CV Tryz.prog 51 #[pt B 0, gD_ x, gD_ y] w0 (fun v w' => v = (gD_ r_) ∧ ST w0 (bl [⟨B, 65, [.bool c.bad], 1⟩]) w' [⟨B, 65, [.bool m.bad], 1⟩] []) := by
 unfold F_spec_l2C_add at hF
 refine cv_of_cw 45 Tryz.func51 rfl Tryz.ntmps51 rfl ?_
 refine cq (cr ?_)
 refine sS 4 (yB 91 (gD_ x) (kD_ x) 5 hS) ?_
 rintro _ w_ ⟨b, rfl, hS1⟩
 refine sS 5 (yB 91 (gD_ y) (kD_ y) 5 hS1) ?_
 rintro _ w_1 ⟨b1, rfl, hS2⟩
 refine sS 6 (yN kZ_ 5 hS2 K8) ?_
 rintro _ w_2 ⟨b2, rfl, hS3⟩
 refine rn (cq ?_)
 obtain ⟨z, hz, hF1⟩ := bI hF
 refine cw_block ?_
 refine cw_loop (fun k f w => ∃ (bad : Bool) (A : Int) (B1 : Int) (C : Int) (D : Int) (Exp : Int), FF f [(0, pt B 0), (4, pt (aD b) 0), (5, pt (aD b1) 0), (6, pt (aD b2) 0)] ∧ ST w0 (bl [⟨B, 65, [.bool c.bad], 1⟩]) w [⟨B, 65, [.bool bad], 1⟩, ⟨aD b, 91, [vi A, vi B1, vi C, vi D, vi Exp], 5⟩, ⟨aD b1, 91, kD_ y, 5⟩, ⟨aD b2, 91, kZ_, 5⟩] [] ∧ whX (F_spec_l2C_add_l1 y) k (bad, A, B1, C, D, Exp) = some z) fuel ⟨c.bad, x.Num.A, x.Num.B, x.Num.C, x.Num.D, x.Exp, (fc rfl (fc rfl (fc rfl (fc rfl fn_)))), (hS3.sel [0, 1, 2, 3] rfl rfl), hz⟩ ?_
 rintro k_ f w ⟨bad, A, B1, C, D, Exp, hf, hS4, hL⟩
 obtain ⟨K7, y1, rfl, hb, hL1⟩ := whX_go hL
 unfold F_spec_l2C_add_l1 at hb
 refine cq (cq (cr ?_))
 refine sQ 7 (yd (aD b) 0 0 K29 K1 rfl (hf.g 4 1)) <| sQ 8 (yl (aD b) 4 [vi A, vi B1, vi C, vi D, vi Exp] (vi Exp) K0 (hS4.c 1)) <| sQ 9 (yd (aD b1) 0 0 K29 K1 rfl (hf.g 5 2)) <| sQ 10 (yl (aD b1) 4 (kD_ y) (vi y.Exp) K0 (hS4.c 2)) <| sQ 11 (yL Exp y.Exp) (rn ?_)
 refine cw_cond (b := (decide (Exp < y.Exp))) rfl (fun hb1 => ?_) (fun hb1 => ?_)
 ·skip
  have hF2 := ct hb hb1
  refine cw_skip (cw_block ?_)
  obtain ⟨r_1, hc, hF2⟩ := bI hF2
  obtain ⟨⟨r_2, m1⟩, hc1, hF2⟩ := bI hF2
  refine cw_mid (fun f w => FF f [(0, pt B 0), (4, pt (aD b) 0), (5, pt (aD b1) 0), (6, pt (aD b2) 0)] ∧ ST w0 (bl [⟨B, 65, [.bool c.bad], 1⟩]) w [⟨B, 65, [.bool m1.bad], 1⟩, ⟨aD b, 91, [vi r_2.A, vi r_2.B, vi r_2.C, vi r_2.D, vi (i64.wrap (Exp + 1))], 5⟩, ⟨aD b1, 91, kD_ y, 5⟩, ⟨aD b2, 91, kZ_, 5⟩] []) ?_ ?_
  ·skip
   refine ra_start (hS4.se [2, 3]).fn (by kernel_rfl) ?_
   have hS8 := hS4.drew
   refine rq 0 12 (v := pt B 0) rfl (hS8.se [2, 3]) (fun w' hw' => (ym (pt B 0) rfl (hf.g 0 0))) ?_
   refine rq 1 13 (v := pt (aD b) 0) rfl (hS8.se [2, 3]) (fun w' hw' => (yd (aD b) 0 3 K32 K3 rfl (hf.g 4 1))) ?_
   refine rq 5 17 (v := pt (aD b) 4) rfl (hS8.se [2, 3]) (fun w' hw' => (yd (aD b) 0 0 K29 K1 rfl (hf.g 4 1))) ?_
   refine rA [2, 6] ?_
   refine ra_y 14 (i := 2) (v := .agg #[vi A, vi B1, vi C, vi D]) rfl rfl rfl (ya (aD b) 0 [vi A, vi B1, vi C, vi D, vi Exp] [vi A, vi B1, vi C, vi D] K6 K3 (hS8.c 1)) (hS8.se [2, 3]) ?_ ?_
   ·skip
    refine rA [3, 6] ?_
    refine rC 15 3 rfl (yC [.agg #[vi A, vi B1, vi C, vi D]] K60 (c_spec_l1Root (TRing.mk A B1 C D) _  (hS8.inn0 [] rfl) hc)) ?_ ?_
    ·rintro _ w_3 ⟨rfl, hd⟩
     have hS9 := hS8.out00 hd
     refine ⟨(hS9.se [2, 3]), ?_⟩
     refine rA [4, 6] ?_
     refine rC 16 4 rfl (yC [pt B 0, gR_ r_1] K51 (c_spec_l2C_ring (Tl2C.mk bad) r_1 B _  (hS9.inn [true, false, false, false] rfl [] rfl) hc1)) ?_ ?_
     ·rintro _ w_4 ⟨rfl, hd1⟩
      have hS10 := hS9.out [true, false, false, false] rfl hd1
      refine ⟨(hS10.se [1, 2]), ?_⟩
      refine rA [6] ?_
      refine ra_y 18 (i := 6) (v := vi Exp) rfl rfl rfl (yl (aD b) 4 [vi A, vi B1, vi C, vi D, vi Exp] (vi Exp) K0 (hS10.c 0)) (hS10.se [1, 2]) ?_ ?_
      ·skip
       refine rq 7 19 (v := vi (i64.wrap (Exp + 1))) rfl (hS10.se [1, 2]) (fun w' hw' => (yP Exp 1)) ?_
       refine rq 8 20 (v := .agg #[vi r_2.A, vi r_2.B, vi r_2.C, vi r_2.D, vi (i64.wrap (Exp + 1))]) rfl (hS10.se [1, 2]) (fun w' hw' => (Y_buildS (zs := kZ_) (vs := [(0, gR_ r_2), (1, vi (i64.wrap (Exp + 1)))]) (cs := [vi r_2.A, vi r_2.B, vi r_2.C, vi r_2.D, vi (i64.wrap (Exp + 1))]) K22 K8 rfl (mpc rfl (mpc rfl mpn)) rfl)) ?_
       refine rA [9] ?_
       refine rZ 9 rfl (yT 0 5 (aD b) 91 (.agg #[vi r_2.A, vi r_2.B, vi r_2.C, vi r_2.D, vi (i64.wrap (Exp + 1))]) [vi r_2.A, vi r_2.B, vi r_2.C, vi r_2.D, vi (i64.wrap (Exp + 1))] 0 hS10 K2 rfl (hf.g 4 1)) ?_ ?_
       ·rintro _ w_5 ⟨rfl, hS11⟩
        refine ⟨(hS11.se [1, 2]), ?_⟩
        refine ra_done (by kernel_rfl) ?_
        exact ⟨(fc (hf.g 0 0) (fc (hf.g 4 1) (fc (hf.g 5 2) (fc (hf.g 6 3) fn_)))), (hS11.sel [3, 0, 1, 2] rfl rfl)⟩
       exact aN
      exact aN
     refine ra_y 18 (i := 6) (v := vi Exp) rfl rfl rfl (yl (aD b) 4 [vi A, vi B1, vi C, vi D, vi Exp] (vi Exp) K0 (hS9.c 1)) (hS9.se [2, 3]) ?_ ?_
     ·skip
      refine rq 7 19 (v := vi (i64.wrap (Exp + 1))) rfl (hS9.se [2, 3]) (fun w' hw' => (yP Exp 1)) ?_
      refine rA [4] ?_
      refine rC 16 4 rfl (yC [pt B 0, gR_ r_1] K51 (c_spec_l2C_ring (Tl2C.mk bad) r_1 B _  (hS9.inn [true, false, false, false] rfl [] rfl) hc1)) ?_ ?_
      ·rintro _ w_6 ⟨rfl, hd2⟩
       have hS12 := hS9.out [true, false, false, false] rfl hd2
       refine ⟨(hS12.se [1, 2]), ?_⟩
       refine rq 8 20 (v := .agg #[vi r_2.A, vi r_2.B, vi r_2.C, vi r_2.D, vi (i64.wrap (Exp + 1))]) rfl (hS12.se [1, 2]) (fun w' hw' => (Y_buildS (zs := kZ_) (vs := [(0, gR_ r_2), (1, vi (i64.wrap (Exp + 1)))]) (cs := [vi r_2.A, vi r_2.B, vi r_2.C, vi r_2.D, vi (i64.wrap (Exp + 1))]) K22 K8 rfl (mpc rfl (mpc rfl mpn)) rfl)) ?_
       refine rA [9] ?_
       refine rZ 9 rfl (yT 0 5 (aD b) 91 (.agg #[vi r_2.A, vi r_2.B, vi r_2.C, vi r_2.D, vi (i64.wrap (Exp + 1))]) [vi r_2.A, vi r_2.B, vi r_2.C, vi r_2.D, vi (i64.wrap (Exp + 1))] 0 hS12 K2 rfl (hf.g 4 1)) ?_ ?_
       ·rintro _ w_7 ⟨rfl, hS13⟩
        refine ⟨(hS13.se [1, 2]), ?_⟩
        refine ra_done (by kernel_rfl) ?_
        exact ⟨(fc (hf.g 0 0) (fc (hf.g 4 1) (fc (hf.g 5 2) (fc (hf.g 6 3) fn_)))), (hS13.sel [3, 0, 1, 2] rfl rfl)⟩
       exact aN
      exact aN
     exact aN
    refine ra_y 18 (i := 6) (v := vi Exp) rfl rfl rfl (yl (aD b) 4 [vi A, vi B1, vi C, vi D, vi Exp] (vi Exp) K0 (hS8.c 1)) (hS8.se [2, 3]) ?_ ?_
    ·skip
     refine rq 7 19 (v := vi (i64.wrap (Exp + 1))) rfl (hS8.se [2, 3]) (fun w' hw' => (yP Exp 1)) ?_
     refine rA [3] ?_
     refine rC 15 3 rfl (yC [.agg #[vi A, vi B1, vi C, vi D]] K60 (c_spec_l1Root (TRing.mk A B1 C D) _  (hS8.inn0 [] rfl) hc)) ?_ ?_
     ·rintro _ w_8 ⟨rfl, hd3⟩
      have hS14 := hS8.out00 hd3
      refine ⟨(hS14.se [2, 3]), ?_⟩
      refine rA [4] ?_
      refine rC 16 4 rfl (yC [pt B 0, gR_ r_1] K51 (c_spec_l2C_ring (Tl2C.mk bad) r_1 B _  (hS14.inn [true, false, false, false] rfl [] rfl) hc1)) ?_ ?_
      ·rintro _ w_9 ⟨rfl, hd4⟩
       have hS15 := hS14.out [true, false, false, false] rfl hd4
       refine ⟨(hS15.se [1, 2]), ?_⟩
       refine rq 8 20 (v := .agg #[vi r_2.A, vi r_2.B, vi r_2.C, vi r_2.D, vi (i64.wrap (Exp + 1))]) rfl (hS15.se [1, 2]) (fun w' hw' => (Y_buildS (zs := kZ_) (vs := [(0, gR_ r_2), (1, vi (i64.wrap (Exp + 1)))]) (cs := [vi r_2.A, vi r_2.B, vi r_2.C, vi r_2.D, vi (i64.wrap (Exp + 1))]) K22 K8 rfl (mpc rfl (mpc rfl mpn)) rfl)) ?_
       refine rA [9] ?_
       refine rZ 9 rfl (yT 0 5 (aD b) 91 (.agg #[vi r_2.A, vi r_2.B, vi r_2.C, vi r_2.D, vi (i64.wrap (Exp + 1))]) [vi r_2.A, vi r_2.B, vi r_2.C, vi r_2.D, vi (i64.wrap (Exp + 1))] 0 hS15 K2 rfl (hf.g 4 1)) ?_ ?_
       ·rintro _ w_10 ⟨rfl, hS16⟩
        refine ⟨(hS16.se [1, 2]), ?_⟩
        refine ra_done (by kernel_rfl) ?_
        exact ⟨(fc (hf.g 0 0) (fc (hf.g 4 1) (fc (hf.g 5 2) (fc (hf.g 6 3) fn_)))), (hS16.sel [3, 0, 1, 2] rfl rfl)⟩
       exact aN
      exact aN
     exact aN
    exact aN
   refine ra_y 18 (i := 6) (v := vi Exp) rfl rfl rfl (yl (aD b) 4 [vi A, vi B1, vi C, vi D, vi Exp] (vi Exp) K0 (hS8.c 1)) (hS8.se [2, 3]) ?_ ?_
   ·skip
    refine rq 7 19 (v := vi (i64.wrap (Exp + 1))) rfl (hS8.se [2, 3]) (fun w' hw' => (yP Exp 1)) ?_
    refine rA [2] ?_
    refine ra_y 14 (i := 2) (v := .agg #[vi A, vi B1, vi C, vi D]) rfl rfl rfl (ya (aD b) 0 [vi A, vi B1, vi C, vi D, vi Exp] [vi A, vi B1, vi C, vi D] K6 K3 (hS8.c 1)) (hS8.se [2, 3]) ?_ ?_
    ·skip
     refine rA [3] ?_
     refine rC 15 3 rfl (yC [.agg #[vi A, vi B1, vi C, vi D]] K60 (c_spec_l1Root (TRing.mk A B1 C D) _  (hS8.inn0 [] rfl) hc)) ?_ ?_
     ·rintro _ w_11 ⟨rfl, hd5⟩
      have hS17 := hS8.out00 hd5
      refine ⟨(hS17.se [2, 3]), ?_⟩
      refine rA [4] ?_
      refine rC 16 4 rfl (yC [pt B 0, gR_ r_1] K51 (c_spec_l2C_ring (Tl2C.mk bad) r_1 B _  (hS17.inn [true, false, false, false] rfl [] rfl) hc1)) ?_ ?_
      ·rintro _ w_12 ⟨rfl, hd6⟩
       have hS18 := hS17.out [true, false, false, false] rfl hd6
       refine ⟨(hS18.se [1, 2]), ?_⟩
       refine rq 8 20 (v := .agg #[vi r_2.A, vi r_2.B, vi r_2.C, vi r_2.D, vi (i64.wrap (Exp + 1))]) rfl (hS18.se [1, 2]) (fun w' hw' => (Y_buildS (zs := kZ_) (vs := [(0, gR_ r_2), (1, vi (i64.wrap (Exp + 1)))]) (cs := [vi r_2.A, vi r_2.B, vi r_2.C, vi r_2.D, vi (i64.wrap (Exp + 1))]) K22 K8 rfl (mpc rfl (mpc rfl mpn)) rfl)) ?_
       refine rA [9] ?_
       refine rZ 9 rfl (yT 0 5 (aD b) 91 (.agg #[vi r_2.A, vi r_2.B, vi r_2.C, vi r_2.D, vi (i64.wrap (Exp + 1))]) [vi r_2.A, vi r_2.B, vi r_2.C, vi r_2.D, vi (i64.wrap (Exp + 1))] 0 hS18 K2 rfl (hf.g 4 1)) ?_ ?_
       ·rintro _ w_13 ⟨rfl, hS19⟩
        refine ⟨(hS19.se [1, 2]), ?_⟩
        refine ra_done (by kernel_rfl) ?_
        exact ⟨(fc (hf.g 0 0) (fc (hf.g 4 1) (fc (hf.g 5 2) (fc (hf.g 6 3) fn_)))), (hS19.sel [3, 0, 1, 2] rfl rfl)⟩
       exact aN
      exact aN
     exact aN
    exact aN
   exact aN
  rintro f w ⟨hf1, hS7⟩
  obtain rfl := sI hF2
  exact ⟨K7, Nat.lt_succ_self _, m1.bad, r_2.A, r_2.B, r_2.C, r_2.D, (i64.wrap (Exp + 1)), (fc (hf1.g 0 0) (fc (hf1.g 4 1) (fc (hf1.g 5 2) (fc (hf1.g 6 3) fn_)))), (hS7.sel [0, 1, 2, 3] rfl rfl), hL1⟩
 ·skip
  have hF3 := cf' hb hb1
  refine cw_exit rfl ?_
  obtain rfl := sI hF3
  obtain rfl := sI hL1
  refine cq ?_
  obtain ⟨z1, hz1, hF4⟩ := bI hF1
  refine cw_block ?_
  refine cw_loop (fun k f w => ∃ (bad1 : Bool) (A1 : Int) (B2 : Int) (C1 : Int) (D1 : Int) (Exp1 : Int), FF f [(0, pt B 0), (4, pt (aD b) 0), (5, pt (aD b1) 0), (6, pt (aD b2) 0)] ∧ ST w0 (bl [⟨B, 65, [.bool c.bad], 1⟩]) w [⟨B, 65, [.bool bad1], 1⟩, ⟨aD b, 91, [vi A, vi B1, vi C, vi D, vi Exp], 5⟩, ⟨aD b1, 91, [vi A1, vi B2, vi C1, vi D1, vi Exp1], 5⟩, ⟨aD b2, 91, kZ_, 5⟩] [] ∧ whX (F_spec_l2C_add_l2 Exp bad A C D) k (bad1, A1, B2, C1, D1, Exp1) = some z1) fuel ⟨bad, y.Num.A, y.Num.B, y.Num.C, y.Num.D, y.Exp, (fc (hf.g 0 0) (fc (hf.g 4 1) (fc (hf.g 5 2) (fc (hf.g 6 3) fn_)))), (hS4.sel [0, 1, 2, 3] rfl rfl), hz1⟩ ?_
  rintro K23 f w ⟨bad1, A1, B2, C1, D1, Exp1, hf2, hS20, hL2⟩
  obtain ⟨K48, y2, rfl, hb2, hL3⟩ := whX_go hL2
  unfold F_spec_l2C_add_l2 at hb2
  refine cq (cq (cr ?_))
  refine sQ 21 (yd (aD b1) 0 0 K29 K1 rfl (hf2.g 5 2)) <| sQ 22 (yl (aD b1) 4 [vi A1, vi B2, vi C1, vi D1, vi Exp1] (vi Exp1) K0 (hS20.c 2)) <| sQ 23 (yd (aD b) 0 0 K29 K1 rfl (hf2.g 4 1)) <| sQ 24 (yl (aD b) 4 [vi A, vi B1, vi C, vi D, vi Exp] (vi Exp) K0 (hS20.c 1)) <| sQ 25 (yL Exp1 Exp) (rn ?_)
  refine cw_cond (b := (decide (Exp1 < Exp))) rfl (fun hb3 => ?_) (fun hb3 => ?_)
  ·skip
   have hF5 := ct hb2 hb3
   refine cw_skip (cw_block ?_)
   obtain ⟨r_3, hc2, hF5⟩ := bI hF5
   obtain ⟨⟨r_4, m2⟩, hc3, hF5⟩ := bI hF5
   refine cw_mid (fun f w => FF f [(0, pt B 0), (4, pt (aD b) 0), (5, pt (aD b1) 0), (6, pt (aD b2) 0)] ∧ ST w0 (bl [⟨B, 65, [.bool c.bad], 1⟩]) w [⟨B, 65, [.bool m2.bad], 1⟩, ⟨aD b, 91, [vi A, vi B1, vi C, vi D, vi Exp], 5⟩, ⟨aD b1, 91, [vi r_4.A, vi r_4.B, vi r_4.C, vi r_4.D, vi (i64.wrap (Exp1 + 1))], 5⟩, ⟨aD b2, 91, kZ_, 5⟩] []) ?_ ?_
   ·skip
    refine ra_start (hS20.se [1, 3]).fn (by kernel_rfl) ?_
    have hS24 := hS20.drew
    refine rq 0 26 (v := pt B 0) rfl (hS24.se [1, 3]) (fun w' hw' => (ym (pt B 0) rfl (hf2.g 0 0))) ?_
    refine rq 1 27 (v := pt (aD b1) 0) rfl (hS24.se [1, 3]) (fun w' hw' => (yd (aD b1) 0 3 K32 K3 rfl (hf2.g 5 2))) ?_
    refine rq 5 31 (v := pt (aD b1) 4) rfl (hS24.se [1, 3]) (fun w' hw' => (yd (aD b1) 0 0 K29 K1 rfl (hf2.g 5 2))) ?_
    refine rA [2, 6] ?_
    refine ra_y 28 (i := 2) (v := .agg #[vi A1, vi B2, vi C1, vi D1]) rfl rfl rfl (ya (aD b1) 0 [vi A1, vi B2, vi C1, vi D1, vi Exp1] [vi A1, vi B2, vi C1, vi D1] K6 K3 (hS24.c 2)) (hS24.se [1, 3]) ?_ ?_
    ·skip
     refine rA [3, 6] ?_
     refine rC 29 3 rfl (yC [.agg #[vi A1, vi B2, vi C1, vi D1]] K60 (c_spec_l1Root (TRing.mk A1 B2 C1 D1) _  (hS24.inn0 [] rfl) hc2)) ?_ ?_
     ·rintro _ w_14 ⟨rfl, hd7⟩
      have hS25 := hS24.out00 hd7
      refine ⟨(hS25.se [1, 3]), ?_⟩
      refine rA [4, 6] ?_
      refine rC 30 4 rfl (yC [pt B 0, gR_ r_3] K51 (c_spec_l2C_ring (Tl2C.mk bad1) r_3 B _  (hS25.inn [true, false, false, false] rfl [] rfl) hc3)) ?_ ?_
      ·rintro _ w_15 ⟨rfl, hd8⟩
       have hS26 := hS25.out [true, false, false, false] rfl hd8
       refine ⟨(hS26.se [0, 2]), ?_⟩
       refine rA [6] ?_
       refine ra_y 32 (i := 6) (v := vi Exp1) rfl rfl rfl (yl (aD b1) 4 [vi A1, vi B2, vi C1, vi D1, vi Exp1] (vi Exp1) K0 (hS26.c 1)) (hS26.se [0, 2]) ?_ ?_
       ·skip
        refine rq 7 33 (v := vi (i64.wrap (Exp1 + 1))) rfl (hS26.se [0, 2]) (fun w' hw' => (yP Exp1 1)) ?_
        refine rq 8 34 (v := .agg #[vi r_4.A, vi r_4.B, vi r_4.C, vi r_4.D, vi (i64.wrap (Exp1 + 1))]) rfl (hS26.se [0, 2]) (fun w' hw' => (Y_buildS (zs := kZ_) (vs := [(0, gR_ r_4), (1, vi (i64.wrap (Exp1 + 1)))]) (cs := [vi r_4.A, vi r_4.B, vi r_4.C, vi r_4.D, vi (i64.wrap (Exp1 + 1))]) K22 K8 rfl (mpc rfl (mpc rfl mpn)) rfl)) ?_
        refine rA [9] ?_
        refine rZ 9 rfl (yT 1 5 (aD b1) 91 (.agg #[vi r_4.A, vi r_4.B, vi r_4.C, vi r_4.D, vi (i64.wrap (Exp1 + 1))]) [vi r_4.A, vi r_4.B, vi r_4.C, vi r_4.D, vi (i64.wrap (Exp1 + 1))] 0 hS26 K2 rfl (hf2.g 5 2)) ?_ ?_
        ·rintro _ w_16 ⟨rfl, hS27⟩
         refine ⟨(hS27.se [0, 2]), ?_⟩
         refine ra_done (by kernel_rfl) ?_
         exact ⟨(fc (hf2.g 0 0) (fc (hf2.g 4 1) (fc (hf2.g 5 2) (fc (hf2.g 6 3) fn_)))), (hS27.sel [3, 0, 1, 2] rfl rfl)⟩
        exact aN
       exact aN
      refine ra_y 32 (i := 6) (v := vi Exp1) rfl rfl rfl (yl (aD b1) 4 [vi A1, vi B2, vi C1, vi D1, vi Exp1] (vi Exp1) K0 (hS25.c 2)) (hS25.se [1, 3]) ?_ ?_
      ·skip
       refine rq 7 33 (v := vi (i64.wrap (Exp1 + 1))) rfl (hS25.se [1, 3]) (fun w' hw' => (yP Exp1 1)) ?_
       refine rA [4] ?_
       refine rC 30 4 rfl (yC [pt B 0, gR_ r_3] K51 (c_spec_l2C_ring (Tl2C.mk bad1) r_3 B _  (hS25.inn [true, false, false, false] rfl [] rfl) hc3)) ?_ ?_
       ·rintro _ w_17 ⟨rfl, hd9⟩
        have hS28 := hS25.out [true, false, false, false] rfl hd9
        refine ⟨(hS28.se [0, 2]), ?_⟩
        refine rq 8 34 (v := .agg #[vi r_4.A, vi r_4.B, vi r_4.C, vi r_4.D, vi (i64.wrap (Exp1 + 1))]) rfl (hS28.se [0, 2]) (fun w' hw' => (Y_buildS (zs := kZ_) (vs := [(0, gR_ r_4), (1, vi (i64.wrap (Exp1 + 1)))]) (cs := [vi r_4.A, vi r_4.B, vi r_4.C, vi r_4.D, vi (i64.wrap (Exp1 + 1))]) K22 K8 rfl (mpc rfl (mpc rfl mpn)) rfl)) ?_
        refine rA [9] ?_
        refine rZ 9 rfl (yT 1 5 (aD b1) 91 (.agg #[vi r_4.A, vi r_4.B, vi r_4.C, vi r_4.D, vi (i64.wrap (Exp1 + 1))]) [vi r_4.A, vi r_4.B, vi r_4.C, vi r_4.D, vi (i64.wrap (Exp1 + 1))] 0 hS28 K2 rfl (hf2.g 5 2)) ?_ ?_
        ·rintro _ w_18 ⟨rfl, hS29⟩
         refine ⟨(hS29.se [0, 2]), ?_⟩
         refine ra_done (by kernel_rfl) ?_
         exact ⟨(fc (hf2.g 0 0) (fc (hf2.g 4 1) (fc (hf2.g 5 2) (fc (hf2.g 6 3) fn_)))), (hS29.sel [3, 0, 1, 2] rfl rfl)⟩
        exact aN
       exact aN
      exact aN
     refine ra_y 32 (i := 6) (v := vi Exp1) rfl rfl rfl (yl (aD b1) 4 [vi A1, vi B2, vi C1, vi D1, vi Exp1] (vi Exp1) K0 (hS24.c 2)) (hS24.se [1, 3]) ?_ ?_
     ·skip
      refine rq 7 33 (v := vi (i64.wrap (Exp1 + 1))) rfl (hS24.se [1, 3]) (fun w' hw' => (yP Exp1 1)) ?_
      refine rA [3] ?_
      refine rC 29 3 rfl (yC [.agg #[vi A1, vi B2, vi C1, vi D1]] K60 (c_spec_l1Root (TRing.mk A1 B2 C1 D1) _  (hS24.inn0 [] rfl) hc2)) ?_ ?_
      ·rintro _ w_19 ⟨rfl, hd10⟩
       have hS30 := hS24.out00 hd10
       refine ⟨(hS30.se [1, 3]), ?_⟩
       refine rA [4] ?_
       refine rC 30 4 rfl (yC [pt B 0, gR_ r_3] K51 (c_spec_l2C_ring (Tl2C.mk bad1) r_3 B _  (hS30.inn [true, false, false, false] rfl [] rfl) hc3)) ?_ ?_
       ·rintro _ w_20 ⟨rfl, hd11⟩
        have hS31 := hS30.out [true, false, false, false] rfl hd11
        refine ⟨(hS31.se [0, 2]), ?_⟩
        refine rq 8 34 (v := .agg #[vi r_4.A, vi r_4.B, vi r_4.C, vi r_4.D, vi (i64.wrap (Exp1 + 1))]) rfl (hS31.se [0, 2]) (fun w' hw' => (Y_buildS (zs := kZ_) (vs := [(0, gR_ r_4), (1, vi (i64.wrap (Exp1 + 1)))]) (cs := [vi r_4.A, vi r_4.B, vi r_4.C, vi r_4.D, vi (i64.wrap (Exp1 + 1))]) K22 K8 rfl (mpc rfl (mpc rfl mpn)) rfl)) ?_
        refine rA [9] ?_
        refine rZ 9 rfl (yT 1 5 (aD b1) 91 (.agg #[vi r_4.A, vi r_4.B, vi r_4.C, vi r_4.D, vi (i64.wrap (Exp1 + 1))]) [vi r_4.A, vi r_4.B, vi r_4.C, vi r_4.D, vi (i64.wrap (Exp1 + 1))] 0 hS31 K2 rfl (hf2.g 5 2)) ?_ ?_
        ·rintro _ w_21 ⟨rfl, hS32⟩
         refine ⟨(hS32.se [0, 2]), ?_⟩
         refine ra_done (by kernel_rfl) ?_
         exact ⟨(fc (hf2.g 0 0) (fc (hf2.g 4 1) (fc (hf2.g 5 2) (fc (hf2.g 6 3) fn_)))), (hS32.sel [3, 0, 1, 2] rfl rfl)⟩
        exact aN
       exact aN
      exact aN
     exact aN
    refine ra_y 32 (i := 6) (v := vi Exp1) rfl rfl rfl (yl (aD b1) 4 [vi A1, vi B2, vi C1, vi D1, vi Exp1] (vi Exp1) K0 (hS24.c 2)) (hS24.se [1, 3]) ?_ ?_
    ·skip
     refine rq 7 33 (v := vi (i64.wrap (Exp1 + 1))) rfl (hS24.se [1, 3]) (fun w' hw' => (yP Exp1 1)) ?_
     refine rA [2] ?_
     refine ra_y 28 (i := 2) (v := .agg #[vi A1, vi B2, vi C1, vi D1]) rfl rfl rfl (ya (aD b1) 0 [vi A1, vi B2, vi C1, vi D1, vi Exp1] [vi A1, vi B2, vi C1, vi D1] K6 K3 (hS24.c 2)) (hS24.se [1, 3]) ?_ ?_
     ·skip
      refine rA [3] ?_
      refine rC 29 3 rfl (yC [.agg #[vi A1, vi B2, vi C1, vi D1]] K60 (c_spec_l1Root (TRing.mk A1 B2 C1 D1) _  (hS24.inn0 [] rfl) hc2)) ?_ ?_
      ·rintro _ w_22 ⟨rfl, hd12⟩
       have hS33 := hS24.out00 hd12
       refine ⟨(hS33.se [1, 3]), ?_⟩
       refine rA [4] ?_
       refine rC 30 4 rfl (yC [pt B 0, gR_ r_3] K51 (c_spec_l2C_ring (Tl2C.mk bad1) r_3 B _  (hS33.inn [true, false, false, false] rfl [] rfl) hc3)) ?_ ?_
       ·rintro _ w_23 ⟨rfl, hd13⟩
        have hS34 := hS33.out [true, false, false, false] rfl hd13
        refine ⟨(hS34.se [0, 2]), ?_⟩
        refine rq 8 34 (v := .agg #[vi r_4.A, vi r_4.B, vi r_4.C, vi r_4.D, vi (i64.wrap (Exp1 + 1))]) rfl (hS34.se [0, 2]) (fun w' hw' => (Y_buildS (zs := kZ_) (vs := [(0, gR_ r_4), (1, vi (i64.wrap (Exp1 + 1)))]) (cs := [vi r_4.A, vi r_4.B, vi r_4.C, vi r_4.D, vi (i64.wrap (Exp1 + 1))]) K22 K8 rfl (mpc rfl (mpc rfl mpn)) rfl)) ?_
        refine rA [9] ?_
        refine rZ 9 rfl (yT 1 5 (aD b1) 91 (.agg #[vi r_4.A, vi r_4.B, vi r_4.C, vi r_4.D, vi (i64.wrap (Exp1 + 1))]) [vi r_4.A, vi r_4.B, vi r_4.C, vi r_4.D, vi (i64.wrap (Exp1 + 1))] 0 hS34 K2 rfl (hf2.g 5 2)) ?_ ?_
        ·rintro _ w_24 ⟨rfl, hS35⟩
         refine ⟨(hS35.se [0, 2]), ?_⟩
         refine ra_done (by kernel_rfl) ?_
         exact ⟨(fc (hf2.g 0 0) (fc (hf2.g 4 1) (fc (hf2.g 5 2) (fc (hf2.g 6 3) fn_)))), (hS35.sel [3, 0, 1, 2] rfl rfl)⟩
        exact aN
       exact aN
      exact aN
     exact aN
    exact aN
   rintro f w ⟨hf3, hS23⟩
   obtain rfl := sI hF5
   exact ⟨K48, Nat.lt_succ_self _, m2.bad, r_4.A, r_4.B, r_4.C, r_4.D, (i64.wrap (Exp1 + 1)), (fc (hf3.g 0 0) (fc (hf3.g 4 1) (fc (hf3.g 5 2) (fc (hf3.g 6 3) fn_)))), (hS23.sel [0, 1, 2, 3] rfl rfl), hL3⟩
  ·skip
   have hF6 := cf' hb2 hb3
   refine cw_exit rfl ?_
   obtain rfl := sI hF6
   obtain rfl := sI hL3
   refine cq ?_
   obtain ⟨r_5, hc4, hF4⟩ := bI hF4
   obtain ⟨⟨r_6, m3⟩, hc5, hF4⟩ := bI hF4
   obtain ⟨r_7, hc6, hF4⟩ := bI hF4
   refine ra_start (hS20.se [1, 2]).fn (by kernel_rfl) ?_
   have hS39 := hS20.drew
   refine rq 0 35 (v := pt B 0) rfl (hS39.se [1, 2]) (fun w' hw' => (ym (pt B 0) rfl (hf2.g 0 0))) ?_
   refine rq 1 36 (v := pt (aD b) 0) rfl (hS39.se [1, 2]) (fun w' hw' => (yd (aD b) 0 3 K32 K3 rfl (hf2.g 4 1))) ?_
   refine rq 2 37 (v := .agg #[vi A, vi B1, vi C, vi D]) rfl (hS39.se [1, 2]) (fun w' hw' => (ya (aD b) 0 [vi A, vi B1, vi C, vi D, vi Exp] [vi A, vi B1, vi C, vi D] K6 K3 (ST.cf hw' (i := 0) rfl))) ?_
   refine rq 3 38 (v := pt (aD b1) 0) rfl (hS39.se [1, 2]) (fun w' hw' => (yd (aD b1) 0 3 K32 K3 rfl (hf2.g 5 2))) ?_
   refine rq 4 39 (v := .agg #[vi A1, vi B2, vi C1, vi D1]) rfl (hS39.se [1, 2]) (fun w' hw' => (ya (aD b1) 0 [vi A1, vi B2, vi C1, vi D1, vi Exp1] [vi A1, vi B2, vi C1, vi D1] K6 K3 (ST.cf hw' (i := 1) rfl))) ?_
   refine rq 7 42 (v := pt (aD b) 4) rfl (hS39.se [1, 2]) (fun w' hw' => (yd (aD b) 0 0 K29 K1 rfl (hf2.g 4 1))) ?_
   refine rq 8 43 (v := vi Exp) rfl (hS39.se [1, 2]) (fun w' hw' => (yl (aD b) 4 [vi A, vi B1, vi C, vi D, vi Exp] (vi Exp) K0 (ST.cf hw' (i := 0) rfl))) ?_
   refine rA [5] ?_
   refine rC 40 5 rfl (yC [.agg #[vi A, vi B1, vi C, vi D], .agg #[vi A1, vi B2, vi C1, vi D1]] k_call_84 (c_spec_l1Add (TRing.mk A B1 C D) (TRing.mk A1 B2 C1 D1) _  (hS39.inn0 [] rfl) hc4)) ?_ ?_
   ·rintro _ w_25 ⟨rfl, hd14⟩
    have hS40 := hS39.out00 hd14
    refine ⟨(hS40.se [1, 2]), ?_⟩
    refine rA [6] ?_
    refine rC 41 6 rfl (yC [pt B 0, gR_ r_5] K51 (c_spec_l2C_ring (Tl2C.mk bad1) r_5 B _  (hS40.inn [true, false, false, false] rfl [] rfl) hc5)) ?_ ?_
    ·rintro _ w_26 ⟨rfl, hd15⟩
     have hS41 := hS40.out [true, false, false, false] rfl hd15
     refine ⟨(hS41.se [0, 1]), ?_⟩
     refine rA [9] ?_
     refine rC 44 9 rfl (yC [gR_ r_6, vi Exp] k_call_83 (c_spec_l2Low r_6 Exp _  (hS41.inn0 [] rfl) hc6)) ?_ ?_
     ·rintro _ w_27 ⟨rfl, hd16⟩
      have hS42 := hS41.out00 hd16
      refine ⟨(hS42.se [0, 1]), ?_⟩
      refine rA [10] ?_
      refine rZ 10 rfl (yT 2 5 (aD b2) 91 (gD_ r_7) (kD_ r_7) 0 hS42 K2 rfl (hf2.g 6 3)) ?_ ?_
      ·rintro _ w_28 ⟨rfl, hS43⟩
       refine ⟨(hS43.se [0, 1]), ?_⟩
       refine ra_done (by kernel_rfl) ?_
       refine ct_ ?_
       obtain ⟨rfl, rfl⟩ := pr2 (sI hF4)
       exact ret1 Tryz.results51 (v1 := gD_ r_7) (resAt_cellA (B := aD b2) (i := 0) (cs := kD_ r_7) (vs := kD_ r_7) (hf2.g 6 3) K5 K2 (hS43.c 2) rfl rfl) ⟨rfl, (hS43.sN [3])⟩
      exact aN
     exact aN
    exact aN
   exact aN

theorem c_spec_l1Mul (x : TRing) (y : TRing)  (w0 : World)  (hS : ST w0 [] w0 [] []) {r_ : TRing} (hF : F_spec_l1Mul x y = some r_) :
  CV Tryz.prog 85 #[gR_ x, gR_ y] w0 (fun v w' => v = (gR_ r_) ∧ ST w0 [] w' [] []) := by
 unfold F_spec_l1Mul at hF
 refine cv_of_cw 98 Tryz.func85 rfl Tryz.ntmps85 rfl ?_
 refine cq (cr ?_)
 refine sS 2 (yB 89 (gR_ x) (kR_ x) 4 hS) ?_
 rintro _ w_ ⟨b, rfl, hS1⟩
 refine sS 3 (yB 89 (gR_ y) (kR_ y) 4 hS1) ?_
 rintro _ w_1 ⟨b1, rfl, hS2⟩
 refine sS 4 (yN [vi 0, vi 0, vi 0, vi 0] 4 hS2 K12) ?_
 rintro _ w_2 ⟨b2, rfl, hS3⟩
 refine rn (cq (cr ?_))
 refine sQ 5 (yd (aD b) 0 0 K14 K1) <| sQ 6 (yl (aD b) 0 (kR_ x) (vi x.A) K0 (hS3.c 0)) <| sQ 7 (yd (aD b1) 0 0 K14 K1) <| sQ 8 (yl (aD b1) 0 (kR_ y) (vi y.A) K0 (hS3.c 1)) <| sQ 9 (yX x.A y.A) <| sQ 10 (yd (aD b) 0 0 K16 K1) ?_
 refine sQ 11 (yl (aD b) 1 (kR_ x) (vi x.B) K0 (hS3.c 0)) <| sQ 12 (yd (aD b1) 0 0 K15 K1) <| sQ 13 (yl (aD b1) 3 (kR_ y) (vi y.D) K0 (hS3.c 1)) <| sQ 14 (yX x.B y.D) <| sQ 15 (yM (i64.wrap (x.A * y.A)) (i64.wrap (x.B * y.D))) <| sQ 16 (yd (aD b) 0 0 K17 K1) ?_
 refine sQ 17 (yl (aD b) 2 (kR_ x) (vi x.C) K0 (hS3.c 0)) <| sQ 18 (yd (aD b1) 0 0 K17 K1) <| sQ 19 (yl (aD b1) 2 (kR_ y) (vi y.C) K0 (hS3.c 1)) <| sQ 20 (yX x.C y.C) <| sQ 21 (yM (i64.wrap ((i64.wrap (x.A * y.A)) - (i64.wrap (x.B * y.D)))) (i64.wrap (x.C * y.C))) <| sQ 22 (yd (aD b) 0 0 K15 K1) ?_
 refine sQ 23 (yl (aD b) 3 (kR_ x) (vi x.D) K0 (hS3.c 0)) <| sQ 24 (yd (aD b1) 0 0 K16 K1) <| sQ 25 (yl (aD b1) 1 (kR_ y) (vi y.B) K0 (hS3.c 1)) <| sQ 26 (yX x.D y.B) <| sQ 27 (yM (i64.wrap ((i64.wrap ((i64.wrap (x.A * y.A)) - (i64.wrap (x.B * y.D)))) - (i64.wrap (x.C * y.C)))) (i64.wrap (x.D * y.B))) <| sQ 28 (yd (aD b) 0 0 K14 K1) ?_
 refine sQ 29 (yl (aD b) 0 (kR_ x) (vi x.A) K0 (hS3.c 0)) <| sQ 30 (yd (aD b1) 0 0 K16 K1) <| sQ 31 (yl (aD b1) 1 (kR_ y) (vi y.B) K0 (hS3.c 1)) <| sQ 32 (yX x.A y.B) <| sQ 33 (yd (aD b) 0 0 K16 K1) <| sQ 34 (yl (aD b) 1 (kR_ x) (vi x.B) K0 (hS3.c 0)) ?_
 refine sQ 35 (yd (aD b1) 0 0 K14 K1) <| sQ 36 (yl (aD b1) 0 (kR_ y) (vi y.A) K0 (hS3.c 1)) <| sQ 37 (yX x.B y.A) <| sQ 38 (yP (i64.wrap (x.A * y.B)) (i64.wrap (x.B * y.A))) <| sQ 39 (yd (aD b) 0 0 K17 K1) <| sQ 40 (yl (aD b) 2 (kR_ x) (vi x.C) K0 (hS3.c 0)) ?_
 refine sQ 41 (yd (aD b1) 0 0 K15 K1) <| sQ 42 (yl (aD b1) 3 (kR_ y) (vi y.D) K0 (hS3.c 1)) <| sQ 43 (yX x.C y.D) <| sQ 44 (yM (i64.wrap ((i64.wrap (x.A * y.B)) + (i64.wrap (x.B * y.A)))) (i64.wrap (x.C * y.D))) <| sQ 45 (yd (aD b) 0 0 K15 K1) <| sQ 46 (yl (aD b) 3 (kR_ x) (vi x.D) K0 (hS3.c 0)) ?_
 refine sQ 47 (yd (aD b1) 0 0 K17 K1) <| sQ 48 (yl (aD b1) 2 (kR_ y) (vi y.C) K0 (hS3.c 1)) <| sQ 49 (yX x.D y.C) <| sQ 50 (yM (i64.wrap ((i64.wrap ((i64.wrap (x.A * y.B)) + (i64.wrap (x.B * y.A)))) - (i64.wrap (x.C * y.D)))) (i64.wrap (x.D * y.C))) <| sQ 51 (yd (aD b) 0 0 K14 K1) <| sQ 52 (yl (aD b) 0 (kR_ x) (vi x.A) K0 (hS3.c 0)) ?_
 refine sQ 53 (yd (aD b1) 0 0 K17 K1) <| sQ 54 (yl (aD b1) 2 (kR_ y) (vi y.C) K0 (hS3.c 1)) <| sQ 55 (yX x.A y.C) <| sQ 56 (yd (aD b) 0 0 K16 K1) <| sQ 57 (yl (aD b) 1 (kR_ x) (vi x.B) K0 (hS3.c 0)) <| sQ 58 (yd (aD b1) 0 0 K16 K1) ?_
 refine sQ 59 (yl (aD b1) 1 (kR_ y) (vi y.B) K0 (hS3.c 1)) <| sQ 60 (yX x.B y.B) <| sQ 61 (yP (i64.wrap (x.A * y.C)) (i64.wrap (x.B * y.B))) <| sQ 62 (yd (aD b) 0 0 K17 K1) <| sQ 63 (yl (aD b) 2 (kR_ x) (vi x.C) K0 (hS3.c 0)) <| sQ 64 (yd (aD b1) 0 0 K14 K1) ?_
 refine sQ 65 (yl (aD b1) 0 (kR_ y) (vi y.A) K0 (hS3.c 1)) <| sQ 66 (yX x.C y.A) <| sQ 67 (yP (i64.wrap ((i64.wrap (x.A * y.C)) + (i64.wrap (x.B * y.B)))) (i64.wrap (x.C * y.A))) <| sQ 68 (yd (aD b) 0 0 K15 K1) <| sQ 69 (yl (aD b) 3 (kR_ x) (vi x.D) K0 (hS3.c 0)) <| sQ 70 (yd (aD b1) 0 0 K15 K1) ?_
 refine sQ 71 (yl (aD b1) 3 (kR_ y) (vi y.D) K0 (hS3.c 1)) <| sQ 72 (yX x.D y.D) <| sQ 73 (yM (i64.wrap ((i64.wrap ((i64.wrap (x.A * y.C)) + (i64.wrap (x.B * y.B)))) + (i64.wrap (x.C * y.A)))) (i64.wrap (x.D * y.D))) <| sQ 74 (yd (aD b) 0 0 K14 K1) <| sQ 75 (yl (aD b) 0 (kR_ x) (vi x.A) K0 (hS3.c 0)) <| sQ 76 (yd (aD b1) 0 0 K15 K1) ?_
 refine sQ 77 (yl (aD b1) 3 (kR_ y) (vi y.D) K0 (hS3.c 1)) <| sQ 78 (yX x.A y.D) <| sQ 79 (yd (aD b) 0 0 K16 K1) <| sQ 80 (yl (aD b) 1 (kR_ x) (vi x.B) K0 (hS3.c 0)) <| sQ 81 (yd (aD b1) 0 0 K17 K1) <| sQ 82 (yl (aD b1) 2 (kR_ y) (vi y.C) K0 (hS3.c 1)) ?_
 refine sQ 83 (yX x.B y.C) <| sQ 84 (yP (i64.wrap (x.A * y.D)) (i64.wrap (x.B * y.C))) <| sQ 85 (yd (aD b) 0 0 K17 K1) <| sQ 86 (yl (aD b) 2 (kR_ x) (vi x.C) K0 (hS3.c 0)) <| sQ 87 (yd (aD b1) 0 0 K16 K1) <| sQ 88 (yl (aD b1) 1 (kR_ y) (vi y.B) K0 (hS3.c 1)) ?_
 refine sQ 89 (yX x.C y.B) <| sQ 90 (yP (i64.wrap ((i64.wrap (x.A * y.D)) + (i64.wrap (x.B * y.C)))) (i64.wrap (x.C * y.B))) <| sQ 91 (yd (aD b) 0 0 K15 K1) <| sQ 92 (yl (aD b) 3 (kR_ x) (vi x.D) K0 (hS3.c 0)) <| sQ 93 (yd (aD b1) 0 0 K14 K1) <| sQ 94 (yl (aD b1) 0 (kR_ y) (vi y.A) K0 (hS3.c 1)) ?_
 refine sQ 95 (yX x.D y.A) <| sQ 96 (yP (i64.wrap ((i64.wrap ((i64.wrap (x.A * y.D)) + (i64.wrap (x.B * y.C)))) + (i64.wrap (x.C * y.B)))) (i64.wrap (x.D * y.A))) <| sQ 97 (Y_buildS (zs := [vi 0, vi 0, vi 0, vi 0]) (vs := [(0, vi (i64.wrap ((i64.wrap ((i64.wrap ((i64.wrap (x.A * y.A)) - (i64.wrap (x.B * y.D)))) - (i64.wrap (x.C * y.C)))) - (i64.wrap (x.D * y.B))))), (1, vi (i64.wrap ((i64.wrap ((i64.wrap ((i64.wrap (x.A * y.B)) + (i64.wrap (x.B * y.A)))) - (i64.wrap (x.C * y.D)))) - (i64.wrap (x.D * y.C))))), (2, vi (i64.wrap ((i64.wrap ((i64.wrap ((i64.wrap (x.A * y.C)) + (i64.wrap (x.B * y.B)))) + (i64.wrap (x.C * y.A)))) - (i64.wrap (x.D * y.D))))), (3, vi (i64.wrap ((i64.wrap ((i64.wrap ((i64.wrap (x.A * y.D)) + (i64.wrap (x.B * y.C)))) + (i64.wrap (x.C * y.B)))) + (i64.wrap (x.D * y.A)))))]) (cs := [vi (i64.wrap ((i64.wrap ((i64.wrap ((i64.wrap (x.A * y.A)) - (i64.wrap (x.B * y.D)))) - (i64.wrap (x.C * y.C)))) - (i64.wrap (x.D * y.B)))), vi (i64.wrap ((i64.wrap ((i64.wrap ((i64.wrap (x.A * y.B)) + (i64.wrap (x.B * y.A)))) - (i64.wrap (x.C * y.D)))) - (i64.wrap (x.D * y.C)))), vi (i64.wrap ((i64.wrap ((i64.wrap ((i64.wrap (x.A * y.C)) + (i64.wrap (x.B * y.B)))) + (i64.wrap (x.C * y.A)))) - (i64.wrap (x.D * y.D)))), vi (i64.wrap ((i64.wrap ((i64.wrap ((i64.wrap (x.A * y.D)) + (i64.wrap (x.B * y.C)))) + (i64.wrap (x.C * y.B)))) + (i64.wrap (x.D * y.A))))]) K30 K12 rfl (mpc rfl (mpc rfl (mpc rfl (mpc rfl mpn)))) rfl) ?_
 refine s0 (yT 2 4 (aD b2) 89 (.agg #[vi (i64.wrap ((i64.wrap ((i64.wrap ((i64.wrap (x.A * y.A)) - (i64.wrap (x.B * y.D)))) - (i64.wrap (x.C * y.C)))) - (i64.wrap (x.D * y.B)))), vi (i64.wrap ((i64.wrap ((i64.wrap ((i64.wrap (x.A * y.B)) + (i64.wrap (x.B * y.A)))) - (i64.wrap (x.C * y.D)))) - (i64.wrap (x.D * y.C)))), vi (i64.wrap ((i64.wrap ((i64.wrap ((i64.wrap (x.A * y.C)) + (i64.wrap (x.B * y.B)))) + (i64.wrap (x.C * y.A)))) - (i64.wrap (x.D * y.D)))), vi (i64.wrap ((i64.wrap ((i64.wrap ((i64.wrap (x.A * y.D)) + (i64.wrap (x.B * y.C)))) + (i64.wrap (x.C * y.B)))) + (i64.wrap (x.D * y.A))))]) [vi (i64.wrap ((i64.wrap ((i64.wrap ((i64.wrap (x.A * y.A)) - (i64.wrap (x.B * y.D)))) - (i64.wrap (x.C * y.C)))) - (i64.wrap (x.D * y.B)))), vi (i64.wrap ((i64.wrap ((i64.wrap ((i64.wrap (x.A * y.B)) + (i64.wrap (x.B * y.A)))) - (i64.wrap (x.C * y.D)))) - (i64.wrap (x.D * y.C)))), vi (i64.wrap ((i64.wrap ((i64.wrap ((i64.wrap (x.A * y.C)) + (i64.wrap (x.B * y.B)))) + (i64.wrap (x.C * y.A)))) - (i64.wrap (x.D * y.D)))), vi (i64.wrap ((i64.wrap ((i64.wrap ((i64.wrap (x.A * y.D)) + (i64.wrap (x.B * y.C)))) + (i64.wrap (x.C * y.B)))) + (i64.wrap (x.D * y.A))))] 0 hS3 K3) ?_
 rintro _ w_3 ⟨rfl, hS4⟩
 refine rn (ct_ ?_)
 obtain rfl := sI hF
 exact ret1 Tryz.results85 (v1 := .agg #[vi (i64.wrap ((i64.wrap ((i64.wrap ((i64.wrap (x.A * y.A)) - (i64.wrap (x.B * y.D)))) - (i64.wrap (x.C * y.C)))) - (i64.wrap (x.D * y.B)))), vi (i64.wrap ((i64.wrap ((i64.wrap ((i64.wrap (x.A * y.B)) + (i64.wrap (x.B * y.A)))) - (i64.wrap (x.C * y.D)))) - (i64.wrap (x.D * y.C)))), vi (i64.wrap ((i64.wrap ((i64.wrap ((i64.wrap (x.A * y.C)) + (i64.wrap (x.B * y.B)))) + (i64.wrap (x.C * y.A)))) - (i64.wrap (x.D * y.D)))), vi (i64.wrap ((i64.wrap ((i64.wrap ((i64.wrap (x.A * y.D)) + (i64.wrap (x.B * y.C)))) + (i64.wrap (x.C * y.B)))) + (i64.wrap (x.D * y.A))))]) (resAt_cellA (B := aD b2) (i := 0) (cs := [vi (i64.wrap ((i64.wrap ((i64.wrap ((i64.wrap (x.A * y.A)) - (i64.wrap (x.B * y.D)))) - (i64.wrap (x.C * y.C)))) - (i64.wrap (x.D * y.B)))), vi (i64.wrap ((i64.wrap ((i64.wrap ((i64.wrap (x.A * y.B)) + (i64.wrap (x.B * y.A)))) - (i64.wrap (x.C * y.D)))) - (i64.wrap (x.D * y.C)))), vi (i64.wrap ((i64.wrap ((i64.wrap ((i64.wrap (x.A * y.C)) + (i64.wrap (x.B * y.B)))) + (i64.wrap (x.C * y.A)))) - (i64.wrap (x.D * y.D)))), vi (i64.wrap ((i64.wrap ((i64.wrap ((i64.wrap (x.A * y.D)) + (i64.wrap (x.B * y.C)))) + (i64.wrap (x.C * y.B)))) + (i64.wrap (x.D * y.A))))]) (vs := [vi (i64.wrap ((i64.wrap ((i64.wrap ((i64.wrap (x.A * y.A)) - (i64.wrap (x.B * y.D)))) - (i64.wrap (x.C * y.C)))) - (i64.wrap (x.D * y.B)))), vi (i64.wrap ((i64.wrap ((i64.wrap ((i64.wrap (x.A * y.B)) + (i64.wrap (x.B * y.A)))) - (i64.wrap (x.C * y.D)))) - (i64.wrap (x.D * y.C)))), vi (i64.wrap ((i64.wrap ((i64.wrap ((i64.wrap (x.A * y.C)) + (i64.wrap (x.B * y.B)))) + (i64.wrap (x.C * y.A)))) - (i64.wrap (x.D * y.D)))), vi (i64.wrap ((i64.wrap ((i64.wrap ((i64.wrap (x.A * y.D)) + (i64.wrap (x.B * y.C)))) + (i64.wrap (x.C * y.B)))) + (i64.wrap (x.D * y.A))))]) rfl K6 K3 (hS4.c 2) rfl rfl) ⟨rfl, (hS4.sN [])⟩

theorem c_spec_l2C_mul (c : Tl2C) (x : TDyadic) (y : TDyadic) (B : Option Addr) (w0 : World)  (hS : ST w0 (bl [⟨B, 65, [.bool c.bad], 1⟩]) w0 [⟨B, 65, [.bool c.bad], 1⟩] []) {r_ : TDyadic} {m : Tl2C} (hF : F_spec_l2C_mul c x y = some (r_, m)) :
  CV Tryz.prog 52 #[pt B 0, gD_ x, gD_ y] w0 (fun v w' => v = (gD_ r_) ∧ ST w0 (bl [⟨B, 65, [.bool c.bad], 1⟩]) w' [⟨B, 65, [.bool m.bad], 1⟩] []) := by
 unfold F_spec_l2C_mul at hF
 refine cv_of_cw 30 Tryz.func52 rfl Tryz.ntmps52 rfl ?_
 refine cq (cr ?_)
 refine sS 4 (yB 91 (gD_ x) (kD_ x) 5 hS) ?_
 rintro _ w_ ⟨b, rfl, hS1⟩
 refine sS 5 (yB 91 (gD_ y) (kD_ y) 5 hS1) ?_
 rintro _ w_1 ⟨b1, rfl, hS2⟩
 refine sS 6 (yN kZ_ 5 hS2 K8) ?_
 rintro _ w_2 ⟨b2, rfl, hS3⟩
 refine rn (cq (cq (cr ?_)))
 refine sQ 7 (yd (aD b) 0 0 K29 K1) <| sQ 8 (yl (aD b) 4 (kD_ x) (vi x.Exp) K0 (hS3.c 1)) <| sQ 9 (yd (aD b1) 0 0 K29 K1) <| sQ 10 (yl (aD b1) 4 (kD_ y) (vi y.Exp) K0 (hS3.c 2)) <| sQ 11 (yP x.Exp y.Exp) <| sQ 12 (Y_gt (k := .i64) (a := (i64.wrap (x.Exp + y.Exp))) (b := 60) rfl rfl rfl) (rn ?_)
 refine cw_cond (b := (decide (60 < (i64.wrap (x.Exp + y.Exp))))) rfl (fun hb => ?_) (fun hb => ?_)
 ·skip
  have hF1 := ct hF hb
  refine cq (cr ?_)
  refine sQ 13 (ym (pt B 0)) <| sQ 14 (Y_nilCheck (B := B) (i := 0) rfl rfl) <| sQ 15 (yd B 0 0 K76 K59) ?_
  refine s0 (yT 0 1 B 65 (.bool true) [.bool true] 0 hS3 K59) ?_
  rintro _ w_3 ⟨rfl, hS4⟩
  refine rn (cq (cr ?_))
  refine sQ 16 (Y_buildS (zs := kZ_) (vs := []) (cs := kZ_) K22 K8 rfl mpn rfl) ?_
  refine s0 (yT 3 5 (aD b2) 91 gZ_ kZ_ 0 hS4 K2) ?_
  rintro _ w_4 ⟨rfl, hS5⟩
  refine rn (ct_ ?_)
  obtain ⟨rfl, rfl⟩ := pr2 (sI hF1)
  exact ret1 Tryz.results52 (v1 := gZ_) (resAt_cellA (B := aD b2) (i := 0) (cs := kZ_) (vs := kZ_) rfl K5 K2 (hS5.c 3) rfl rfl) ⟨rfl, (hS5.sN [0])⟩
 ·skip
  have hF2 := cf' hF hb
  refine cw_skip (cq ?_)
  obtain ⟨r_1, hc, hF2⟩ := bI hF2
  obtain ⟨⟨r_2, m1⟩, hc1, hF2⟩ := bI hF2
  obtain ⟨r_3, hc2, hF2⟩ := bI hF2
  refine ra_start (hS3.se [1, 2]).fn (by kernel_rfl) ?_
  have hS9 := hS3.drew
  refine rq 0 17 (v := pt B 0) rfl (hS9.se [1, 2]) (fun w' hw' => (ym (pt B 0))) ?_
  refine rq 1 18 (v := pt (aD b) 0) rfl (hS9.se [1, 2]) (fun w' hw' => (yd (aD b) 0 3 K32 K3)) ?_
  refine rq 2 19 (v := gR_ x.Num) rfl (hS9.se [1, 2]) (fun w' hw' => (ya (aD b) 0 (kD_ x) (kR_ x.Num) K6 K3 (ST.cf hw' (i := 0) rfl))) ?_
  refine rq 3 20 (v := pt (aD b1) 0) rfl (hS9.se [1, 2]) (fun w' hw' => (yd (aD b1) 0 3 K32 K3)) ?_
  refine rq 4 21 (v := gR_ y.Num) rfl (hS9.se [1, 2]) (fun w' hw' => (ya (aD b1) 0 (kD_ y) (kR_ y.Num) K6 K3 (ST.cf hw' (i := 1) rfl))) ?_
  refine rq 7 24 (v := pt (aD b) 4) rfl (hS9.se [1, 2]) (fun w' hw' => (yd (aD b) 0 0 K29 K1)) ?_
  refine rq 8 25 (v := vi x.Exp) rfl (hS9.se [1, 2]) (fun w' hw' => (yl (aD b) 4 (kD_ x) (vi x.Exp) K0 (ST.cf hw' (i := 0) rfl))) ?_
  refine rq 9 26 (v := pt (aD b1) 4) rfl (hS9.se [1, 2]) (fun w' hw' => (yd (aD b1) 0 0 K29 K1)) ?_
  refine rq 10 27 (v := vi y.Exp) rfl (hS9.se [1, 2]) (fun w' hw' => (yl (aD b1) 4 (kD_ y) (vi y.Exp) K0 (ST.cf hw' (i := 1) rfl))) ?_
  refine rq 11 28 (v := vi (i64.wrap (x.Exp + y.Exp))) rfl (hS9.se [1, 2]) (fun w' hw' => (yP x.Exp y.Exp)) ?_
  refine rA [5] ?_
  refine rC 22 5 rfl (yC [gR_ x.Num, gR_ y.Num] k_call_85 (c_spec_l1Mul x.Num y.Num _  (hS9.inn0 [] rfl) hc)) ?_ ?_
  ·rintro _ w_5 ⟨rfl, hd⟩
   have hS10 := hS9.out00 hd
   refine ⟨(hS10.se [1, 2]), ?_⟩
   refine rA [6] ?_
   refine rC 23 6 rfl (yC [pt B 0, gR_ r_1] K51 (c_spec_l2C_ring c r_1 B _  (hS10.inn [true, false, false, false] rfl [] rfl) hc1)) ?_ ?_
   ·rintro _ w_6 ⟨rfl, hd1⟩
    have hS11 := hS10.out [true, false, false, false] rfl hd1
    refine ⟨(hS11.se [0, 1]), ?_⟩
    refine rA [12] ?_
    refine rC 29 12 rfl (yC [gR_ r_2, vi (i64.wrap (x.Exp + y.Exp))] k_call_83 (c_spec_l2Low r_2 (i64.wrap (x.Exp + y.Exp)) _  (hS11.inn0 [] rfl) hc2)) ?_ ?_
    ·rintro _ w_7 ⟨rfl, hd2⟩
     have hS12 := hS11.out00 hd2
     refine ⟨(hS12.se [0, 1]), ?_⟩
     refine rA [13] ?_
     refine rZ 13 rfl (yT 2 5 (aD b2) 91 (gD_ r_3) (kD_ r_3) 0 hS12 K2) ?_ ?_
     ·rintro _ w_8 ⟨rfl, hS13⟩
      refine ⟨(hS13.se [0, 1]), ?_⟩
      refine ra_done (by kernel_rfl) ?_
      refine ct_ ?_
      obtain ⟨rfl, rfl⟩ := pr2 (sI hF2)
      exact ret1 Tryz.results52 (v1 := gD_ r_3) (resAt_cellA (B := aD b2) (i := 0) (cs := kD_ r_3) (vs := kD_ r_3) rfl K5 K2 (hS13.c 2) rfl rfl) ⟨rfl, (hS13.sN [3])⟩
     exact aN
    exact aN
   exact aN
  exact aN

theorem c_spec_l2C_times (c : Tl2C) (a : TMatrix) (b : TMatrix) (B : Option Addr) (B1 : Option Addr) (c1 n : Nat) (B2 : Option Addr) (c2 n1 : Nat) (w0 : World) (hn : a.Cells.length = n) (hn1 : b.Cells.length = n1) (hS : ST w0 (bl [⟨B, 65, [.bool c.bad], 1⟩]) w0 [⟨B, 65, [.bool c.bad], 1⟩] [⟨B1, (a.Cells.flatMap eN1)⟩, ⟨B2, (b.Cells.flatMap eN1)⟩]) {r_ : TMatrix} {m : Tl2C} (hF : F_spec_l2C_times c a b = some (r_, m)) :
  CV Tryz.prog 31 #[pt B 0, .agg #[vi a.Rows, vi a.Cols, .slice B1 n c1], .agg #[vi b.Rows, vi b.Cols, .slice B2 n1 c2]] w0 (fun v w' => ∃ (B3 : Option Addr) (c3 : Nat), v = (gM_ r_ B3 c3) ∧ ST w0 (bl [⟨B, 65, [.bool c.bad], 1⟩]) w' [⟨B, 65, [.bool m.bad], 1⟩, ⟨B3, 91, (r_.Cells.flatMap eN1), c3 * 5⟩] []) := by
 subst hn
 subst hn1
 unfold F_spec_l2C_times at hF
 refine cv_of_cw 75 Tryz.func31 rfl Tryz.ntmps31 rfl ?_
 refine cq (cr ?_)
 refine sS 4 (yB 50 (gM_ a B1 c1) (kM_ a B1 c1) 3 hS) ?_
 rintro _ w_ ⟨b1, rfl, hS1⟩
 refine sS 5 (yB 50 (gM_ b B2 c2) (kM_ b B2 c2) 3 hS1) ?_
 rintro _ w_1 ⟨b2, rfl, hS2⟩
 refine sS 6 (yN kN_ 3 hS2 K13) ?_
 rintro _ w_2 ⟨b3, rfl, hS3⟩
 refine rn (cq (cr ?_))
 refine sQ 12 (yd (aD b1) 0 0 K33 K1) <| sQ 13 (yl (aD b1) 0 (kM_ a B1 c1) (vi a.Rows) K0 (hS3.c 1)) <| sQ 14 (yd (aD b2) 0 0 K36 K1) <| sQ 15 (yl (aD b2) 1 (kM_ b B2 c2) (vi b.Cols) K0 (hS3.c 2)) <| sQ 16 (Y_buildS (zs := kN_) (vs := [(0, vi a.Rows), (1, vi b.Cols)]) (cs := [vi a.Rows, vi b.Cols, .slice none 0 0]) K47 K13 rfl (mpc rfl (mpc rfl mpn)) rfl) ?_
 refine sS 7 (yN kN_ 3 hS3 K13) ?_
 rintro _ w_3 ⟨b4, rfl, hS4⟩
 refine s0 (yT 4 3 (aD b4) 50 (.agg #[vi a.Rows, vi b.Cols, .slice none 0 0]) [vi a.Rows, vi b.Cols, .slice none 0 0] 0 hS4 K4) ?_
 rintro _ w_4 ⟨rfl, hS5⟩
 refine rn (cq (cq (cr ?_)))
 refine sQ 8 (yg (vi 0)) (rn ?_)
 obtain ⟨hN, hF⟩ := chk_inv hF
 obtain ⟨z, hz, hF1⟩ := bI hF
 have hS7 := hS5.addNil 91
 refine cw_block ?_
 refine cw_loop (fun k f w => ∃ (i1 : Nat) (bad : Bool) (Cells : List TDyadic) (B4 : Option Addr) (c4 : Nat), FF f [(0, pt B 0), (4, pt (aD b1) 0), (5, pt (aD b2) 0), (6, pt (aD b3) 0), (7, pt (aD b4) 0), (8, vi (i1 : Int))] ∧ ST w0 (bl [⟨B, 65, [.bool c.bad], 1⟩]) w [⟨B, 65, [.bool bad], 1⟩, ⟨aD b1, 50, kM_ a B1 c1, 3⟩, ⟨aD b2, 50, kM_ b B2 c2, 3⟩, ⟨aD b3, 50, kN_, 3⟩, ⟨aD b4, 50, [vi a.Rows, vi b.Cols, .slice B4 Cells.length c4], 3⟩, ⟨B4, 91, (Cells.flatMap eN1), c4 * 5⟩] [⟨B1, (a.Cells.flatMap eN1)⟩, ⟨B2, (b.Cells.flatMap eN1)⟩] ∧ i1 + k = a.Rows.toNat ∧ forN (F_spec_l2C_times_l1 b a) k i1 (bad, Cells) = some z) a.Rows.toNat ⟨0, c.bad, [], none, 0, (fc rfl (fc rfl (fc rfl (fc rfl (fc rfl (fc rfl fn_)))))), (hS7.sel [0, 1, 2, 3, 4, 5] rfl rfl), Nat.zero_add _, hz⟩ ?_
 rintro k_ f w ⟨i1, bad, Cells, B4, c4, hf, hS6, hik, hL⟩
 refine cq (cq (cr ?_))
 refine sQ 17 (ym (vi (i1 : Int)) rfl (hf.g 8 5)) <| sQ 18 (yd (aD b1) 0 0 K33 K1 rfl (hf.g 4 1)) <| sQ 19 (yl (aD b1) 0 (kM_ a B1 c1) (vi a.Rows) K0 (hS6.c 1)) <| sQ 20 (yL (i1 : Int) a.Rows) (rn ?_)
 refine cw_cond (b := (decide ((i1 : Int) < a.Rows))) rfl (fun hlt => ?_) (fun hlt => ?_)
 ·skip
  have hlt1 : i1 < a.Rows.toNat := by have h := of_decide_eq_true hlt; omega
  obtain ⟨K7, rfl⟩ : ∃ k2, k_ = k2 + 1 := ⟨k_ - 1, by omega⟩
  obtain ⟨y, hb, hL1⟩ := forN_go hL
  unfold F_spec_l2C_times_l1 at hb
  refine cw_skip (cq (cw_block (cq (cr ?_))))
  refine sQ 9 (yg (vi 0)) (rn ?_)
  obtain ⟨hN1, hb⟩ := chk_inv hb
  obtain ⟨z1, hz1, hF2⟩ := bI hb
  refine cw_block ?_
  refine cw_loop (fun k f w => ∃ (j : Nat) (bad1 : Bool) (Cells1 : List TDyadic) (B5 : Option Addr) (c5 : Nat), FF f [(0, pt B 0), (4, pt (aD b1) 0), (5, pt (aD b2) 0), (6, pt (aD b3) 0), (7, pt (aD b4) 0), (8, vi (i1 : Int)), (9, vi (j : Int))] ∧ ST w0 (bl [⟨B, 65, [.bool c.bad], 1⟩]) w [⟨B, 65, [.bool bad1], 1⟩, ⟨aD b1, 50, kM_ a B1 c1, 3⟩, ⟨aD b2, 50, kM_ b B2 c2, 3⟩, ⟨aD b3, 50, kN_, 3⟩, ⟨aD b4, 50, [vi a.Rows, vi b.Cols, .slice B5 Cells1.length c5], 3⟩, ⟨B5, 91, (Cells1.flatMap eN1), c5 * 5⟩] [⟨B1, (a.Cells.flatMap eN1)⟩, ⟨B2, (b.Cells.flatMap eN1)⟩] ∧ j + k = b.Cols.toNat ∧ forN (F_spec_l2C_times_l2 a Cells i1 b bad) k j (bad1, Cells1) = some z1) b.Cols.toNat ⟨0, bad, Cells, B4, c4, (fc (hf.g 0 0) (fc (hf.g 4 1) (fc (hf.g 5 2) (fc (hf.g 6 3) (fc (hf.g 7 4) (fc (hf.g 8 5) (fc rfl fn_))))))), (hS6.sel [0, 1, 2, 3, 4, 5] rfl rfl), Nat.zero_add _, hz1⟩ ?_
  rintro K23 f w ⟨j, bad1, Cells1, B5, c5, hf1, hS8, hik1, hL2⟩
  refine cq (cq (cr ?_))
  refine sQ 23 (ym (vi (j : Int)) rfl (hf1.g 9 6)) <| sQ 24 (yd (aD b2) 0 0 K36 K1 rfl (hf1.g 5 2)) <| sQ 25 (yl (aD b2) 1 (kM_ b B2 c2) (vi b.Cols) K0 (hS8.c 2)) <| sQ 26 (yL (j : Int) b.Cols) (rn ?_)
  refine cw_cond (b := (decide ((j : Int) < b.Cols))) rfl (fun hlt2 => ?_) (fun hlt2 => ?_)
  ·skip
   have hlt3 : j < b.Cols.toNat := by have h := of_decide_eq_true hlt2; omega
   obtain ⟨K48, rfl⟩ : ∃ k2, K23 = k2 + 1 := ⟨K23 - 1, by omega⟩
   obtain ⟨y1, hb1, hL3⟩ := forN_go hL2
   unfold F_spec_l2C_times_l2 at hb1
   refine cw_skip (cq (cw_block (cq (cr ?_))))
   refine sQ 29 (Y_buildS (zs := kZ_) (vs := []) (cs := kZ_) K22 K8 rfl mpn rfl) ?_
   refine sS 10 (yN kZ_ 5 hS8 K8) ?_
   rintro _ w_5 ⟨b5, rfl, hS9⟩
   refine s0 (yT 6 5 (aD b5) 91 gZ_ kZ_ 0 hS9 K2) ?_
   rintro _ w_6 ⟨rfl, hS10⟩
   refine rn (cq (cq (cr ?_)))
   refine sQ 11 (yg (vi 0)) (rn ?_)
   obtain ⟨z2, hz2, hF3⟩ := bI hb1
   refine cw_block ?_
   refine cw_loop (fun k f w => ∃ (bad2 : Bool) (A : Int) (B6 : Int) (C : Int) (D : Int) (Exp : Int) (K19 : Int), FF f [(0, pt B 0), (4, pt (aD b1) 0), (5, pt (aD b2) 0), (6, pt (aD b3) 0), (7, pt (aD b4) 0), (8, vi (i1 : Int)), (9, vi (j : Int)), (10, pt (aD b5) 0), (11, vi K19)] ∧ ST w0 (bl [⟨B, 65, [.bool c.bad], 1⟩]) w [⟨B, 65, [.bool bad2], 1⟩, ⟨aD b1, 50, kM_ a B1 c1, 3⟩, ⟨aD b2, 50, kM_ b B2 c2, 3⟩, ⟨aD b3, 50, kN_, 3⟩, ⟨aD b4, 50, [vi a.Rows, vi b.Cols, .slice B5 Cells1.length c5], 3⟩, ⟨B5, 91, (Cells1.flatMap eN1), c5 * 5⟩, ⟨aD b5, 91, [vi A, vi B6, vi C, vi D, vi Exp], 5⟩] [⟨B1, (a.Cells.flatMap eN1)⟩, ⟨B2, (b.Cells.flatMap eN1)⟩] ∧ whX (F_spec_l2C_times_l3 a Cells i1 b j bad) k (bad2, A, B6, C, D, Exp, K19) = some z2) fuel ⟨bad1, 0, 0, 0, 0, 0, 0, (fc (hf1.g 0 0) (fc (hf1.g 4 1) (fc (hf1.g 5 2) (fc (hf1.g 6 3) (fc (hf1.g 7 4) (fc (hf1.g 8 5) (fc (hf1.g 9 6) (fc rfl (fc rfl fn_))))))))), (hS10.sel [0, 1, 2, 3, 4, 5, 6] rfl rfl), hz2⟩ ?_
   rintro k_5 f w ⟨bad2, A, B6, C, D, Exp, K19, hf2, hS11, hL4⟩
   obtain ⟨K68, y2, rfl, hb2, hL5⟩ := whX_go hL4
   unfold F_spec_l2C_times_l3 at hb2
   refine cq (cq (cr ?_))
   refine sQ 30 (ym (vi K19) rfl (hf2.g 11 8)) <| sQ 31 (yd (aD b1) 0 0 K36 K1 rfl (hf2.g 4 1)) <| sQ 32 (yl (aD b1) 1 (kM_ a B1 c1) (vi a.Cols) K0 (hS11.c 1)) <| sQ 33 (yL K19 a.Cols) <| sQ 34 (ym (.bool (decide (K19 < a.Cols)))) ?_
   refine sgq 35 (B := (decide (K19 < a.Cols))) (v := pt B 0) rfl rfl (uT_ 34) (fun hg => (ym (pt B 0) rfl (hf2.g 0 0))) ?_
   refine sgq 36 (B := (decide (K19 < a.Cols))) (v := pt B 0) rfl rfl (uT_ 34) (fun hg1 => (Y_nilCheck (B := B) (i := 0) rfl (gv_of (v := pt B 0) hg1))) ?_
   refine sgq 37 (B := (decide (K19 < a.Cols))) (v := pt B 0) rfl rfl (uT_ 34) (fun hg2 => (yd B 0 0 K76 K59 rfl (gv_of (v := pt B 0) hg2))) ?_
   refine sgq 38 (B := (decide (K19 < a.Cols))) (v := .bool bad2) rfl rfl (uT_ 34) (fun hg3 => (yl B 0 [.bool bad2] (.bool bad2) K94 (hS11.c 0) rfl (gv_of (v := pt B 0) hg3))) ?_
   refine sgq 39 (B := (decide (K19 < a.Cols))) (v := .bool (!bad2)) rfl rfl (uT_ 34) (fun hg4 => (Y_not (p := bad2) rfl (gv_of (v := .bool bad2) hg4))) ?_
   refine sQ 40 (Y_and (b := (decide (K19 < a.Cols))) (z := (!bad2)) rfl rfl rfl rfl) (rn ?_)
   refine cw_cond (b := ((decide (K19 < a.Cols)) && (!bad2))) rfl (fun hb3 => ?_) (fun hb3 => ?_)
   ·skip
    have hF4 := ct hb2 hb3
    refine cw_skip (cq (cw_block ?_))
    obtain ⟨x, hx, hF4⟩ := bI hF4
    obtain ⟨x1, hx1, hF4⟩ := bI hF4
    obtain ⟨⟨r_1, m1⟩, hc, hF4⟩ := bI hF4
    obtain ⟨⟨r_2, m2⟩, hc1, hF4⟩ := bI hF4
    refine cw_mid (fun f w => FF f [(0, pt B 0), (4, pt (aD b1) 0), (5, pt (aD b2) 0), (6, pt (aD b3) 0), (7, pt (aD b4) 0), (8, vi (i1 : Int)), (9, vi (j : Int)), (10, pt (aD b5) 0), (11, vi K19)] ∧ ST w0 (bl [⟨B, 65, [.bool c.bad], 1⟩]) w [⟨B, 65, [.bool m2.bad], 1⟩, ⟨aD b1, 50, kM_ a B1 c1, 3⟩, ⟨aD b2, 50, kM_ b B2 c2, 3⟩, ⟨aD b3, 50, kN_, 3⟩, ⟨aD b4, 50, [vi a.Rows, vi b.Cols, .slice B5 Cells1.length c5], 3⟩, ⟨B5, 91, (Cells1.flatMap eN1), c5 * 5⟩, ⟨aD b5, 91, kD_ r_2, 5⟩] [⟨B1, (a.Cells.flatMap eN1)⟩, ⟨B2, (b.Cells.flatMap eN1)⟩]) ?_ ?_
    ·skip
     refine ra_start (hS11.se [1, 2, 3, 4, 5]).fn (by kernel_rfl) ?_
     have hS15 := hS11.drew
     refine rq 0 43 (v := pt B 0) rfl (hS15.se [1, 2, 3, 4, 5]) (fun w' hw' => (ym (pt B 0) rfl (hf2.g 0 0))) ?_
     refine rq 2 45 (v := pt B 0) rfl (hS15.se [1, 2, 3, 4, 5]) (fun w' hw' => (ym (pt B 0) rfl (hf2.g 0 0))) ?_
     refine rq 3 46 (v := pt (aD b1) 2) rfl (hS15.se [1, 2, 3, 4, 5]) (fun w' hw' => (yd (aD b1) 0 0 K28 K24 rfl (hf2.g 4 1))) ?_
     refine rq 4 47 (v := .slice B1 a.Cells.length c1) rfl (hS15.se [1, 2, 3, 4, 5]) (fun w' hw' => (yl (aD b1) 2 (kM_ a B1 c1) (.slice B1 a.Cells.length c1) K34 (ST.cf hw' (i := 0) rfl))) ?_
     refine rq 5 48 (v := vi (i1 : Int)) rfl (hS15.se [1, 2, 3, 4, 5]) (fun w' hw' => (ym (vi (i1 : Int)) rfl (hf2.g 8 5))) ?_
     refine rq 6 49 (v := pt (aD b1) 1) rfl (hS15.se [1, 2, 3, 4, 5]) (fun w' hw' => (yd (aD b1) 0 0 K36 K1 rfl (hf2.g 4 1))) ?_
     refine rq 7 50 (v := vi a.Cols) rfl (hS15.se [1, 2, 3, 4, 5]) (fun w' hw' => (yl (aD b1) 1 (kM_ a B1 c1) (vi a.Cols) K0 (ST.cf hw' (i := 0) rfl))) ?_
     refine rq 8 51 (v := vi (i64.wrap ((i1 : Int) * a.Cols))) rfl (hS15.se [1, 2, 3, 4, 5]) (fun w' hw' => (yX (i1 : Int) a.Cols)) ?_
     refine rq 9 52 (v := vi K19) rfl (hS15.se [1, 2, 3, 4, 5]) (fun w' hw' => (ym (vi K19) rfl (hf2.g 11 8))) ?_
     refine rq 10 53 (v := vi (i64.wrap ((i64.wrap ((i1 : Int) * a.Cols)) + K19))) rfl (hS15.se [1, 2, 3, 4, 5]) (fun w' hw' => (yP (i64.wrap ((i1 : Int) * a.Cols)) K19)) ?_
     refine rq 11 54 (v := pt B1 ((i64.wrap ((i64.wrap ((i1 : Int) * a.Cols)) + K19)).toNat * 5)) rfl (hS15.se [1, 2, 3, 4, 5]) (fun w' hw' => (Y_index (B := B1) (m := a.Cells.length) (c := c1) (k := .i64) (i := (i64.wrap ((i64.wrap ((i1 : Int) * a.Cols)) + K19))) K21 K2 rfl rfl rfl (gi_isSome enc_Dyadic_len rfl (ST.rf hw' (i := 0) rfl) hx) (getI_nn hx) (getI_ltI hx rfl))) ?_
     refine rq 12 55 (v := gD_ x) rfl (hS15.se [1, 2, 3, 4, 5]) (fun w' hw' => (ya B1 ((i64.wrap ((i64.wrap ((i1 : Int) * a.Cols)) + K19)).toNat * 5) (a.Cells.flatMap eN1) (kD_ x) K5 K2 (ST.rf hw' (i := 0) rfl) rfl rfl (enc_Dyadic_len x) (gi_seg enc_Dyadic_len hx))) ?_
     refine rq 13 56 (v := pt (aD b2) 2) rfl (hS15.se [1, 2, 3, 4, 5]) (fun w' hw' => (yd (aD b2) 0 0 K28 K24 rfl (hf2.g 5 2))) ?_
     refine rq 14 57 (v := .slice B2 b.Cells.length c2) rfl (hS15.se [1, 2, 3, 4, 5]) (fun w' hw' => (yl (aD b2) 2 (kM_ b B2 c2) (.slice B2 b.Cells.length c2) K34 (ST.cf hw' (i := 1) rfl))) ?_
     refine rq 15 58 (v := vi K19) rfl (hS15.se [1, 2, 3, 4, 5]) (fun w' hw' => (ym (vi K19) rfl (hf2.g 11 8))) ?_
     refine rq 16 59 (v := pt (aD b2) 1) rfl (hS15.se [1, 2, 3, 4, 5]) (fun w' hw' => (yd (aD b2) 0 0 K36 K1 rfl (hf2.g 5 2))) ?_
     refine rq 17 60 (v := vi b.Cols) rfl (hS15.se [1, 2, 3, 4, 5]) (fun w' hw' => (yl (aD b2) 1 (kM_ b B2 c2) (vi b.Cols) K0 (ST.cf hw' (i := 1) rfl))) ?_
     refine rq 18 61 (v := vi (i64.wrap (K19 * b.Cols))) rfl (hS15.se [1, 2, 3, 4, 5]) (fun w' hw' => (yX K19 b.Cols)) ?_
     refine rq 19 62 (v := vi (j : Int)) rfl (hS15.se [1, 2, 3, 4, 5]) (fun w' hw' => (ym (vi (j : Int)) rfl (hf2.g 9 6))) ?_
     refine rq 20 63 (v := vi (i64.wrap ((i64.wrap (K19 * b.Cols)) + (j : Int)))) rfl (hS15.se [1, 2, 3, 4, 5]) (fun w' hw' => (yP (i64.wrap (K19 * b.Cols)) (j : Int))) ?_
     refine rq 21 64 (v := pt B2 ((i64.wrap ((i64.wrap (K19 * b.Cols)) + (j : Int))).toNat * 5)) rfl (hS15.se [1, 2, 3, 4, 5]) (fun w' hw' => (Y_index (B := B2) (m := b.Cells.length) (c := c2) (k := .i64) (i := (i64.wrap ((i64.wrap (K19 * b.Cols)) + (j : Int)))) K21 K2 rfl rfl rfl (gi_isSome enc_Dyadic_len rfl (ST.rf hw' (i := 1) rfl) hx1) (getI_nn hx1) (getI_ltI hx1 rfl))) ?_
     refine rq 22 65 (v := gD_ x1) rfl (hS15.se [1, 2, 3, 4, 5]) (fun w' hw' => (ya B2 ((i64.wrap ((i64.wrap (K19 * b.Cols)) + (j : Int))).toNat * 5) (b.Cells.flatMap eN1) (kD_ x1) K5 K2 (ST.rf hw' (i := 1) rfl) rfl rfl (enc_Dyadic_len x1) (gi_seg enc_Dyadic_len hx1))) ?_
     refine rA [1, 23] ?_
     refine ra_y 44 (i := 1) (v := .agg #[vi A, vi B6, vi C, vi D, vi Exp]) rfl rfl rfl (yb (aD b5) 0 [vi A, vi B6, vi C, vi D, vi Exp] K5 K2 (hS15.c 6) rfl (hf2.g 10 7)) (hS15.se [1, 2, 3, 4, 5]) ?_ ?_
     ·skip
      refine rA [23] ?_
      refine rC 66 23 rfl (yC [pt B 0, gD_ x, gD_ x1] k_call_52 (c_spec_l2C_mul (Tl2C.mk bad2) x x1 B _  (hS15.inn [true, false, false, false, false, false, false] rfl [] rfl) hc)) ?_ ?_
      ·rintro _ w_7 ⟨rfl, hd⟩
       have hS16 := hS15.out [true, false, false, false, false, false, false] rfl hd
       refine ⟨(hS16.se [0, 1, 2, 3, 4]), ?_⟩
       refine rA [24] ?_
       refine rC 67 24 rfl (yC [pt B 0, .agg #[vi A, vi B6, vi C, vi D, vi Exp], gD_ r_1] k_call_51 (c_spec_l2C_add m1 (TDyadic.mk (TRing.mk A B6 C D) Exp) r_1 B _  (hS16.inn [false, false, false, false, false, false, true] rfl [] rfl) hc1)) ?_ ?_
       ·rintro _ w_8 ⟨rfl, hd1⟩
        have hS17 := hS16.out [false, false, false, false, false, false, true] rfl hd1
        refine ⟨(hS17.se [0, 1, 2, 3, 4]), ?_⟩
        refine rA [25] ?_
        refine rZ 25 rfl (yT 5 5 (aD b5) 91 (gD_ r_2) (kD_ r_2) 0 hS17 K2 rfl (hf2.g 10 7)) ?_ ?_
        ·rintro _ w_9 ⟨rfl, hS18⟩
         refine ⟨(hS18.se [0, 1, 2, 3, 4]), ?_⟩
         refine ra_done (by kernel_rfl) ?_
         exact ⟨(fc (hf2.g 0 0) (fc (hf2.g 4 1) (fc (hf2.g 5 2) (fc (hf2.g 6 3) (fc (hf2.g 7 4) (fc (hf2.g 8 5) (fc (hf2.g 9 6) (fc (hf2.g 10 7) (fc (hf2.g 11 8) fn_))))))))), (hS18.sel [6, 0, 1, 2, 3, 4, 5] rfl rfl)⟩
        exact aN
       exact aN
      exact aN
     refine rC 66 23 rfl (yC [pt B 0, gD_ x, gD_ x1] k_call_52 (c_spec_l2C_mul (Tl2C.mk bad2) x x1 B _  (hS15.inn [true, false, false, false, false, false, false] rfl [] rfl) hc)) ?_ ?_
     ·rintro _ w_10 ⟨rfl, hd2⟩
      have hS19 := hS15.out [true, false, false, false, false, false, false] rfl hd2
      refine ⟨(hS19.se [0, 1, 2, 3, 4]), ?_⟩
      refine rA [1] ?_
      refine ra_y 44 (i := 1) (v := .agg #[vi A, vi B6, vi C, vi D, vi Exp]) rfl rfl rfl (yb (aD b5) 0 [vi A, vi B6, vi C, vi D, vi Exp] K5 K2 (hS19.c 5) rfl (hf2.g 10 7)) (hS19.se [0, 1, 2, 3, 4]) ?_ ?_
      ·skip
       refine rA [24] ?_
       refine rC 67 24 rfl (yC [pt B 0, .agg #[vi A, vi B6, vi C, vi D, vi Exp], gD_ r_1] k_call_51 (c_spec_l2C_add m1 (TDyadic.mk (TRing.mk A B6 C D) Exp) r_1 B _  (hS19.inn [false, false, false, false, false, false, true] rfl [] rfl) hc1)) ?_ ?_
       ·rintro _ w_11 ⟨rfl, hd3⟩
        have hS20 := hS19.out [false, false, false, false, false, false, true] rfl hd3
        refine ⟨(hS20.se [0, 1, 2, 3, 4]), ?_⟩
        refine rA [25] ?_
        refine rZ 25 rfl (yT 5 5 (aD b5) 91 (gD_ r_2) (kD_ r_2) 0 hS20 K2 rfl (hf2.g 10 7)) ?_ ?_
        ·rintro _ w_12 ⟨rfl, hS21⟩
         refine ⟨(hS21.se [0, 1, 2, 3, 4]), ?_⟩
         refine ra_done (by kernel_rfl) ?_
         exact ⟨(fc (hf2.g 0 0) (fc (hf2.g 4 1) (fc (hf2.g 5 2) (fc (hf2.g 6 3) (fc (hf2.g 7 4) (fc (hf2.g 8 5) (fc (hf2.g 9 6) (fc (hf2.g 10 7) (fc (hf2.g 11 8) fn_))))))))), (hS21.sel [6, 0, 1, 2, 3, 4, 5] rfl rfl)⟩
        exact aN
       exact aN
      exact aN
     exact aN
    rintro f w ⟨hf3, hS14⟩
    refine cr ?_
    refine sQ 41 (ym (vi K19) rfl (hf3.g 11 8)) <| sQ 42 (yP K19 1) <| sQ 11 (yg (vi (i64.wrap (K19 + 1)))) (rn ?_)
    obtain rfl := sI hF4
    exact ⟨K68, Nat.lt_succ_self _, m2.bad, r_2.Num.A, r_2.Num.B, r_2.Num.C, r_2.Num.D, r_2.Exp, (i64.wrap (K19 + 1)), (fc (hf3.g 0 0) (fc (hf3.g 4 1) (fc (hf3.g 5 2) (fc (hf3.g 6 3) (fc (hf3.g 7 4) (fc (hf3.g 8 5) (fc (hf3.g 9 6) (fc (hf3.g 10 7) (fc rfl fn_))))))))), (hS14.sel [0, 1, 2, 3, 4, 5, 6] rfl rfl), hL5⟩
   ·skip
    have hF5 := cf' hb2 hb3
    refine cw_exit rfl ?_
    obtain rfl := sI hF5
    obtain rfl := sI hL5
    refine cr ?_
    refine sQ 68 (yd (aD b4) 0 0 K28 K24 rfl (hf2.g 7 4)) <| sQ 69 (yl (aD b4) 2 [vi a.Rows, vi b.Cols, .slice B5 Cells1.length c5] (.slice B5 Cells1.length c5) K34 (hS11.c 4)) <| sQ 70 (yb (aD b5) 0 [vi A, vi B6, vi C, vi D, vi Exp] K5 K2 (hS11.c 6) rfl (hf2.g 10 7)) ?_
    refine sS 71 (Ys_bslice (s := 5) (len := 1) (vs := [(0, .agg #[vi A, vi B6, vi C, vi D, vi Exp])]) (cs := [vi A, vi B6, vi C, vi D, vi Exp]) (zs := kZ_) (m := 5) hS11 K21 K2 K54 rfl (mpc rfl mpn) rfl rfl rfl (by kernel_rfl) (by kernel_rfl) rfl) ?_
    rintro _ w_13 ⟨b6, rfl, hS22⟩
    obtain ⟨hap, hF3⟩ := chk_inv hF3
    refine sS 72 (Ys_append (s := 5) (by' := 40) (i := 5) (nn := Cells1.length) (c := c5) (k := 1) (len := (Cells1 ++ [(TDyadic.mk (TRing.mk A B6 C D) Exp)]).length) (B := B5) (xs := ([(TDyadic.mk (TRing.mk A B6 C D) Exp)].flatMap eN1)) (cs' := ((Cells1 ++ [(TDyadic.mk (TRing.mk A B6 C D) Exp)]).flatMap eN1)) hS22 K21 K2 K67 K8 rfl (by decide) rfl rfl rfl rfl (fm_lenn (l := Cells1) enc_Dyadic_len rfl) rfl (hS22.c 7) (fm_lenn (l := [(TDyadic.mk (TRing.mk A B6 C D) Exp)]) enc_Dyadic_len rfl) (fm_one' (enc := eN1) enc_Dyadic_one [(TDyadic.mk (TRing.mk A B6 C D) Exp)]) (by have := hap; omega) (by have := hap; simp only [maxLen]; omega) (fm_app _ _) (app_len (l := Cells1) (l' := [(TDyadic.mk (TRing.mk A B6 C D) Exp)]) rfl rfl)) ?_
    rintro _ w_14 ⟨B7, c6, rfl, hS23⟩
    refine sQ 73 (yd (aD b4) 0 0 K28 K24 rfl (hf2.g 7 4)) ?_
    refine s0 (yS 4 1 (aD b4) 50 (.slice B7 ((Cells1 ++ [(TDyadic.mk (TRing.mk A B6 C D) Exp)]).length) c6) [.slice B7 ((Cells1 ++ [(TDyadic.mk (TRing.mk A B6 C D) Exp)]).length) c6] 2 [vi a.Rows, vi b.Cols, .slice B7 ((Cells1 ++ [(TDyadic.mk (TRing.mk A B6 C D) Exp)]).length) c6] hS23 K24) ?_
    rintro _ w_15 ⟨rfl, hS24⟩
    refine rn (cr ?_)
    refine sQ 27 (ym (vi (j : Int)) rfl (hf2.g 9 6)) <| sQ 28 (yP (j : Int) 1) <| sQ 9 (yg (vi (i64.wrap ((j : Int) + 1)))) (rn ?_)
    obtain rfl := sI hF3
    exact ⟨K48, Nat.lt_succ_self _, j + 1, bad2, (Cells1 ++ [(TDyadic.mk (TRing.mk A B6 C D) Exp)]), B7, c6, (fc (hf2.g 0 0) (fc (hf2.g 4 1) (fc (hf2.g 5 2) (fc (hf2.g 6 3) (fc (hf2.g 7 4) (fc (hf2.g 8 5) (fc (congrArg (Value.int .i64) (wr_succ hlt3 hN1)) fn_))))))), (hS24.sel [0, 1, 2, 3, 4, 5] rfl rfl), (by omega), hL3⟩
  ·skip
   obtain rfl : K23 = 0 := by have h := of_decide_eq_false hlt2; omega
   refine cw_exit rfl ?_
   obtain rfl := sI hL2
   refine cr ?_
   refine sQ 21 (ym (vi (i1 : Int)) rfl (hf1.g 8 5)) <| sQ 22 (yP (i1 : Int) 1) <| sQ 8 (yg (vi (i64.wrap ((i1 : Int) + 1)))) (rn ?_)
   obtain rfl := sI hF2
   exact ⟨K7, Nat.lt_succ_self _, i1 + 1, bad1, Cells1, B5, c5, (fc (hf1.g 0 0) (fc (hf1.g 4 1) (fc (hf1.g 5 2) (fc (hf1.g 6 3) (fc (hf1.g 7 4) (fc (congrArg (Value.int .i64) (wr_succ hlt1 hN)) fn_)))))), (hS8.sel [0, 1, 2, 3, 4, 5] rfl rfl), (by omega), hL1⟩
 ·skip
  obtain rfl : k_ = 0 := by have h := of_decide_eq_false hlt; omega
  refine cw_exit rfl ?_
  obtain rfl := sI hL
  refine cq (cr ?_)
  refine sQ 74 (yb (aD b4) 0 [vi a.Rows, vi b.Cols, .slice B4 Cells.length c4] K9 K4 (hS6.c 4) rfl (hf.g 7 4)) ?_
  refine s0 (yT 3 3 (aD b3) 50 (.agg #[vi a.Rows, vi b.Cols, .slice B4 Cells.length c4]) [vi a.Rows, vi b.Cols, .slice B4 Cells.length c4] 0 hS6 K4 rfl (hf.g 6 3)) ?_
  rintro _ w_16 ⟨rfl, hS25⟩
  refine rn (ct_ ?_)
  obtain ⟨rfl, rfl⟩ := pr2 (sI hF1)
  exact ret1 Tryz.results31 (v1 := .agg #[vi a.Rows, vi b.Cols, .slice B4 Cells.length c4]) (resAt_cellA (B := aD b3) (i := 0) (cs := [vi a.Rows, vi b.Cols, .slice B4 Cells.length c4]) (vs := [vi a.Rows, vi b.Cols, .slice B4 Cells.length c4]) (hf.g 6 3) K9 K4 (hS25.c 3) rfl rfl) ⟨B4, c4, rfl, (hS25.sN [0, 5])⟩

theorem c_spec_l6Bit (n : Int) (k_ : Int) (q : Int)  (w0 : World)  (hS : ST w0 [] w0 [] []) {r_ : Int} (hF : F_spec_l6Bit n k_ q = some r_) :
  CV Tryz.prog 86 #[vi n, vi k_, vi q] w0 (fun v w' => v = vi r_ ∧ ST w0 [] w' [] []) := by
 unfold F_spec_l6Bit at hF
 refine cv_of_cw 15 Tryz.func86 rfl Tryz.ntmps86 rfl ?_
 refine cq (cr ?_)
 refine sQ 6 (yg (vi 0)) (rn (cq (cr ?_)))
 refine sQ 7 (ym (vi k_)) <| sQ 8 (ym (vi n)) <| sQ 9 (yM n 1) <| sQ 10 (ym (vi q)) <| sQ 11 (yM (i64.wrap (n - 1)) q) <| sQ 12 (Y_conv (k := .i64) (a := (i64.wrap ((i64.wrap (n - 1)) - q))) (T := 3) (T' := 84) K61 K62 rfl rfl) ?_
 obtain ⟨hsh, hF⟩ := chk_inv hF
 refine sQ 13 (Y_shr (k := .i64) (a := k_) (k' := .u64) (b := (IntKind.u64.wrap (i64.wrap ((i64.wrap (n - 1)) - q)))) rfl rfl rfl hsh) <| sQ 14 (Y_band (k := .i64) (a := (shrK .i64 k_ (IntKind.u64.wrap (i64.wrap ((i64.wrap (n - 1)) - q))))) (b := 1) rfl rfl rfl) <| sQ 6 (yg (vi (bits .and .i64 (shrK .i64 k_ (IntKind.u64.wrap (i64.wrap ((i64.wrap (n - 1)) - q)))) 1))) (rn (ct_ ?_))
 obtain rfl := sI hF
 exact ret1 Tryz.results86 (v1 := vi (bits .and .i64 (shrK .i64 k_ (IntKind.u64.wrap (i64.wrap ((i64.wrap (n - 1)) - q)))) 1)) (resAt_tmp rfl) ⟨rfl, (hS.sN [])⟩

theorem c_spec_l1Neg (x : TRing)  (w0 : World)  (hS : ST w0 [] w0 [] []) {r_ : TRing} (hF : F_spec_l1Neg x = some r_) :
  CV Tryz.prog 126 #[gR_ x] w0 (fun v w' => v = (gR_ r_) ∧ ST w0 [] w' [] []) := by
 unfold F_spec_l1Neg at hF
 refine cv_of_cw 16 Tryz.func126 rfl Tryz.ntmps126 rfl ?_
 refine cq (cr ?_)
 refine sS 1 (yB 89 (gR_ x) (kR_ x) 4 hS) ?_
 rintro _ w_ ⟨b, rfl, hS1⟩
 refine sS 2 (yN [vi 0, vi 0, vi 0, vi 0] 4 hS1 K12) ?_
 rintro _ w_1 ⟨b1, rfl, hS2⟩
 refine rn (cq (cr ?_))
 refine sQ 3 (yd (aD b) 0 0 K14 K1) <| sQ 4 (yl (aD b) 0 (kR_ x) (vi x.A) K0 (hS2.c 0)) <| sQ 5 (Y_neg (k := .i64) (a := x.A) rfl rfl) <| sQ 6 (yd (aD b) 0 0 K16 K1) <| sQ 7 (yl (aD b) 1 (kR_ x) (vi x.B) K0 (hS2.c 0)) <| sQ 8 (Y_neg (k := .i64) (a := x.B) rfl rfl) ?_
 refine sQ 9 (yd (aD b) 0 0 K17 K1) <| sQ 10 (yl (aD b) 2 (kR_ x) (vi x.C) K0 (hS2.c 0)) <| sQ 11 (Y_neg (k := .i64) (a := x.C) rfl rfl) <| sQ 12 (yd (aD b) 0 0 K15 K1) <| sQ 13 (yl (aD b) 3 (kR_ x) (vi x.D) K0 (hS2.c 0)) <| sQ 14 (Y_neg (k := .i64) (a := x.D) rfl rfl) ?_
 refine sQ 15 (Y_buildS (zs := [vi 0, vi 0, vi 0, vi 0]) (vs := [(0, vi (i64.wrap (-x.A))), (1, vi (i64.wrap (-x.B))), (2, vi (i64.wrap (-x.C))), (3, vi (i64.wrap (-x.D)))]) (cs := [vi (i64.wrap (-x.A)), vi (i64.wrap (-x.B)), vi (i64.wrap (-x.C)), vi (i64.wrap (-x.D))]) K30 K12 rfl (mpc rfl (mpc rfl (mpc rfl (mpc rfl mpn)))) rfl) ?_
 refine s0 (yT 1 4 (aD b1) 89 (.agg #[vi (i64.wrap (-x.A)), vi (i64.wrap (-x.B)), vi (i64.wrap (-x.C)), vi (i64.wrap (-x.D))]) [vi (i64.wrap (-x.A)), vi (i64.wrap (-x.B)), vi (i64.wrap (-x.C)), vi (i64.wrap (-x.D))] 0 hS2 K3) ?_
 rintro _ w_2 ⟨rfl, hS3⟩
 refine rn (ct_ ?_)
 obtain rfl := sI hF
 exact ret1 Tryz.results126 (v1 := .agg #[vi (i64.wrap (-x.A)), vi (i64.wrap (-x.B)), vi (i64.wrap (-x.C)), vi (i64.wrap (-x.D))]) (resAt_cellA (B := aD b1) (i := 0) (cs := [vi (i64.wrap (-x.A)), vi (i64.wrap (-x.B)), vi (i64.wrap (-x.C)), vi (i64.wrap (-x.D))]) (vs := [vi (i64.wrap (-x.A)), vi (i64.wrap (-x.B)), vi (i64.wrap (-x.C)), vi (i64.wrap (-x.D))]) rfl K6 K3 (hS3.c 1) rfl rfl) ⟨rfl, (hS3.sN [])⟩

theorem c_spec_l2Neg (x : TDyadic)  (w0 : World)  (hS : ST w0 [] w0 [] []) {r_ : TDyadic} (hF : F_spec_l2Neg x = some r_) :
  CV Tryz.prog 112 #[gD_ x] w0 (fun v w' => v = (gD_ r_) ∧ ST w0 [] w' [] []) := by
 unfold F_spec_l2Neg at hF
 refine cv_of_cw 9 Tryz.func112 rfl Tryz.ntmps112 rfl ?_
 refine cq (cr ?_)
 refine sS 1 (yB 91 (gD_ x) (kD_ x) 5 hS) ?_
 rintro _ w_ ⟨b, rfl, hS1⟩
 refine sS 2 (yN kZ_ 5 hS1 K8) ?_
 rintro _ w_1 ⟨b1, rfl, hS2⟩
 refine rn (cq ?_)
 obtain ⟨r_1, hc, hF⟩ := bI hF
 refine ra_start (hS2.se [0]).fn (by kernel_rfl) ?_
 have hS4 := hS2.drew
 refine rq 0 3 (v := pt (aD b) 0) rfl (hS4.se [0]) (fun w' hw' => (yd (aD b) 0 3 K32 K3)) ?_
 refine rq 1 4 (v := gR_ x.Num) rfl (hS4.se [0]) (fun w' hw' => (ya (aD b) 0 (kD_ x) (kR_ x.Num) K6 K3 (ST.cf hw' (i := 0) rfl))) ?_
 refine rq 3 6 (v := pt (aD b) 4) rfl (hS4.se [0]) (fun w' hw' => (yd (aD b) 0 0 K29 K1)) ?_
 refine rq 4 7 (v := vi x.Exp) rfl (hS4.se [0]) (fun w' hw' => (yl (aD b) 4 (kD_ x) (vi x.Exp) K0 (ST.cf hw' (i := 0) rfl))) ?_
 refine rA [2] ?_
 refine rC 5 2 rfl (yC [gR_ x.Num] k_call_126 (c_spec_l1Neg x.Num _  (hS4.inn0 [] rfl) hc)) ?_ ?_
 ·rintro _ w_2 ⟨rfl, hd⟩
  have hS5 := hS4.out00 hd
  refine ⟨(hS5.se [0]), ?_⟩
  refine rq 5 8 (v := .agg #[vi r_1.A, vi r_1.B, vi r_1.C, vi r_1.D, vi x.Exp]) rfl (hS5.se [0]) (fun w' hw' => (Y_buildS (zs := kZ_) (vs := [(0, gR_ r_1), (1, vi x.Exp)]) (cs := [vi r_1.A, vi r_1.B, vi r_1.C, vi r_1.D, vi x.Exp]) K22 K8 rfl (mpc rfl (mpc rfl mpn)) rfl)) ?_
  refine rA [6] ?_
  refine rZ 6 rfl (yT 1 5 (aD b1) 91 (.agg #[vi r_1.A, vi r_1.B, vi r_1.C, vi r_1.D, vi x.Exp]) [vi r_1.A, vi r_1.B, vi r_1.C, vi r_1.D, vi x.Exp] 0 hS5 K2) ?_ ?_
  ·rintro _ w_3 ⟨rfl, hS6⟩
   refine ⟨(hS6.se [0]), ?_⟩
   refine ra_done (by kernel_rfl) ?_
   refine ct_ ?_
   obtain rfl := sI hF
   exact ret1 Tryz.results112 (v1 := .agg #[vi r_1.A, vi r_1.B, vi r_1.C, vi r_1.D, vi x.Exp]) (resAt_cellA (B := aD b1) (i := 0) (cs := [vi r_1.A, vi r_1.B, vi r_1.C, vi r_1.D, vi x.Exp]) (vs := [vi r_1.A, vi r_1.B, vi r_1.C, vi r_1.D, vi x.Exp]) rfl K5 K2 (hS6.c 1) rfl rfl) ⟨rfl, (hS6.sN [])⟩
  exact aN
 exact aN

theorem c_spec_l6One (kind : Int)  (w0 : World)  (hS : ST w0 [] w0 [] []) {r_ : List TDyadic} (hF : F_spec_l6One kind = some r_) :
  CV Tryz.prog 87 #[vi kind] w0 (fun v w' => ∃ (B : Option Addr) (c : Nat), v = .slice B r_.length c ∧ ST w0 [] w' [⟨B, 91, (r_.flatMap eN1), c * 5⟩] []) := by
 unfold F_spec_l6One at hF
 refine cv_of_cw 43 Tryz.func87 rfl Tryz.ntmps87 rfl ?_
 refine cq (cr ?_)
 refine sQ 2 (yg (.slice none 0 0)) (rn (cq (cr ?_)))
 obtain ⟨r_1, hc, hF⟩ := bI hF
 refine sc 6 rfl rfl (yC [vi 0] K56 (c_spec_l2Power 0 _  (hS.inn0 [] rfl) hc)) ?_
 rintro _ w_ ⟨rfl, hd⟩
 have hS1 := hS.out00 hd
 refine sQ 7 (Y_buildS (zs := kZ_) (vs := []) (cs := kZ_) K22 K8 rfl mpn rfl) ?_
 refine sS 3 (yN kZ_ 5 hS1 K8) ?_
 rintro _ w_1 ⟨b, rfl, hS2⟩
 refine sS 4 (yN kZ_ 5 hS2 K8) ?_
 rintro _ w_2 ⟨b1, rfl, hS3⟩
 refine s0 (yT 0 5 (aD b) 91 (gD_ r_1) (kD_ r_1) 0 hS3 K2) ?_
 rintro _ w_3 ⟨rfl, hS4⟩
 refine s0 (yT 1 5 (aD b1) 91 gZ_ kZ_ 0 hS4 K2) ?_
 rintro _ w_4 ⟨rfl, hS5⟩
 refine rn (cq (cr ?_))
 refine sQ 8 (Y_buildS (zs := [vi 0, vi 0, vi 0, vi 0]) (vs := [(0, vi 1)]) (cs := [vi 1, vi 0, vi 0, vi 0]) K30 K12 rfl (mpc rfl mpn) rfl) <| sQ 9 (Y_buildS (zs := kZ_) (vs := [(0, .agg #[vi 1, vi 0, vi 0, vi 0]), (1, vi 1)]) (cs := [vi 1, vi 0, vi 0, vi 0, vi 1]) K22 K8 rfl (mpc rfl (mpc rfl mpn)) rfl) ?_
 refine sS 5 (yN kZ_ 5 hS5 K8) ?_
 rintro _ w_5 ⟨b2, rfl, hS6⟩
 refine s0 (yT 2 5 (aD b2) 91 (.agg #[vi 1, vi 0, vi 0, vi 0, vi 1]) [vi 1, vi 0, vi 0, vi 0, vi 1] 0 hS6 K2) ?_
 rintro _ w_6 ⟨rfl, hS7⟩
 refine rn (cq (cq (cr ?_)))
 refine sQ 10 (ym (vi kind)) (rn (cw_block (cq (cr ?_))))
 refine sQ 12 (yE kind 1) <| sQ 11 (yg (.bool (kind == 1))) (rn ?_)
 refine cw_cond (b := (kind == 1)) rfl (fun hb => ?_) (fun hb => ?_)
 ·skip
  have hF1 := ct hF hb
  refine cq ?_
  obtain ⟨r_2, hc1, hF1⟩ := bI hF1
  refine ra_start (hS7.se [0, 1, 2]).fn (by kernel_rfl) ?_
  have hS9 := hS7.drew
  refine rq 0 13 (v := .agg #[vi 1, vi 0, vi 0, vi 0, vi 1]) rfl (hS9.se [0, 1, 2]) (fun w' hw' => (yb (aD b2) 0 [vi 1, vi 0, vi 0, vi 0, vi 1] K5 K2 (ST.cf hw' (i := 2) rfl))) ?_
  refine rq 1 14 (v := .agg #[vi 1, vi 0, vi 0, vi 0, vi 1]) rfl (hS9.se [0, 1, 2]) (fun w' hw' => (yb (aD b2) 0 [vi 1, vi 0, vi 0, vi 0, vi 1] K5 K2 (ST.cf hw' (i := 2) rfl))) ?_
  refine rq 2 15 (v := .agg #[vi 1, vi 0, vi 0, vi 0, vi 1]) rfl (hS9.se [0, 1, 2]) (fun w' hw' => (yb (aD b2) 0 [vi 1, vi 0, vi 0, vi 0, vi 1] K5 K2 (ST.cf hw' (i := 2) rfl))) ?_
  refine rq 3 16 (v := .agg #[vi 1, vi 0, vi 0, vi 0, vi 1]) rfl (hS9.se [0, 1, 2]) (fun w' hw' => (yb (aD b2) 0 [vi 1, vi 0, vi 0, vi 0, vi 1] K5 K2 (ST.cf hw' (i := 2) rfl))) ?_
  refine rA [4] ?_
  refine rC 17 4 rfl (yC [.agg #[vi 1, vi 0, vi 0, vi 0, vi 1]] k_call_112 (c_spec_l2Neg (TDyadic.mk (TRing.mk 1 0 0 0) 1) _  (hS9.inn0 [] rfl) hc1)) ?_ ?_
  ·rintro _ w_7 ⟨rfl, hd1⟩
   have hS10 := hS9.out00 hd1
   refine ⟨(hS10.se [0, 1, 2]), ?_⟩
   refine rA [5] ?_
   refine rS 18 5 rfl (Ys_bslice (s := 5) (len := 4) (vs := [(0, .agg #[vi 1, vi 0, vi 0, vi 0, vi 1]), (1, .agg #[vi 1, vi 0, vi 0, vi 0, vi 1]), (2, .agg #[vi 1, vi 0, vi 0, vi 0, vi 1]), (3, gD_ r_2)]) (cs := [vi 1, vi 0, vi 0, vi 0, vi 1, vi 1, vi 0, vi 0, vi 0, vi 1, vi 1, vi 0, vi 0, vi 0, vi 1, vi r_2.Num.A, vi r_2.Num.B, vi r_2.Num.C, vi r_2.Num.D, vi r_2.Exp]) (zs := [vi 0, vi 0, vi 0, vi 0, vi 0, vi 0, vi 0, vi 0, vi 0, vi 0, vi 0, vi 0, vi 0, vi 0, vi 0, vi 0, vi 0, vi 0, vi 0, vi 0]) (m := 20) hS10 K21 K2 K54 rfl (mpc rfl (mpc rfl (mpc rfl (mpc rfl mpn)))) rfl rfl rfl (by kernel_rfl) (by kernel_rfl) rfl) ?_ ?_
   ·rintro _ w_8 ⟨b3, rfl, hS11⟩
    refine ⟨(hS11.se [0, 1, 2]), ?_⟩
    refine rq 6 2 (v := .slice (aD b3) 4 4) rfl (hS11.se [0, 1, 2]) (fun w' hw' => (yg (.slice (aD b3) 4 4))) ?_
    refine ra_done (by kernel_rfl) ?_
    refine ct_ ?_
    obtain rfl := sI hF1
    exact ret1 Tryz.results87 (v1 := .slice (aD b3) 4 4) (resAt_tmp rfl) ⟨aD b3, 4, rfl, (hS11.sN [3])⟩
   exact aN
  exact aN
 ·skip
  have hF2 := cf' hF hb
  refine cq (cr ?_)
  refine sQ 20 (yE kind 2) <| sQ 19 (yg (.bool (kind == 2))) (rn ?_)
  refine cw_cond (b := (kind == 2)) rfl (fun hb1 => ?_) (fun hb1 => ?_)
  ·skip
   have hF3 := ct hF2 hb1
   refine cq (cr ?_)
   refine sQ 21 (yb (aD b1) 0 kZ_ K5 K2 (hS7.c 1)) <| sQ 22 (yb (aD b) 0 (kD_ r_1) K5 K2 (hS7.c 0)) <| sQ 23 (yb (aD b) 0 (kD_ r_1) K5 K2 (hS7.c 0)) <| sQ 24 (yb (aD b1) 0 kZ_ K5 K2 (hS7.c 1)) ?_
   refine sS 25 (Ys_bslice (s := 5) (len := 4) (vs := [(0, gZ_), (1, gD_ r_1), (2, gD_ r_1), (3, gZ_)]) (cs := [vi 0, vi 0, vi 0, vi 0, vi 0, vi r_1.Num.A, vi r_1.Num.B, vi r_1.Num.C, vi r_1.Num.D, vi r_1.Exp, vi r_1.Num.A, vi r_1.Num.B, vi r_1.Num.C, vi r_1.Num.D, vi r_1.Exp, vi 0, vi 0, vi 0, vi 0, vi 0]) (zs := [vi 0, vi 0, vi 0, vi 0, vi 0, vi 0, vi 0, vi 0, vi 0, vi 0, vi 0, vi 0, vi 0, vi 0, vi 0, vi 0, vi 0, vi 0, vi 0, vi 0]) (m := 20) hS7 K21 K2 K54 rfl (mpc rfl (mpc rfl (mpc rfl (mpc rfl mpn)))) rfl rfl rfl (by kernel_rfl) (by kernel_rfl) rfl) ?_
   rintro _ w_9 ⟨b4, rfl, hS12⟩
   refine sQ 2 (yg (.slice (aD b4) 4 4)) (rn (ct_ ?_))
   obtain rfl := sI hF3
   exact ret1 Tryz.results87 (v1 := .slice (aD b4) 4 4) (resAt_tmp rfl) ⟨aD b4, 4, rfl, (hS12.sN [3])⟩
  ·skip
   have hF4 := cf' hF2 hb1
   refine cq (cr ?_)
   refine sQ 27 (yE kind 3) <| sQ 26 (yg (.bool (kind == 3))) (rn ?_)
   refine cw_cond (b := (kind == 3)) rfl (fun hb2 => ?_) (fun hb2 => ?_)
   ·skip
    have hF5 := ct hF4 hb2
    refine cq ?_
    obtain ⟨r_3, hc2, hF5⟩ := bI hF5
    obtain ⟨r_4, hc3, hF5⟩ := bI hF5
    refine ra_start (hS7.se [0, 1, 2]).fn (by kernel_rfl) ?_
    have hS15 := hS7.drew
    refine rq 0 28 (v := gZ_) rfl (hS15.se [0, 1, 2]) (fun w' hw' => (yb (aD b1) 0 kZ_ K5 K2 (ST.cf hw' (i := 1) rfl))) ?_
    refine rq 3 31 (v := gZ_) rfl (hS15.se [0, 1, 2]) (fun w' hw' => (yb (aD b1) 0 kZ_ K5 K2 (ST.cf hw' (i := 1) rfl))) ?_
    refine rA [1] ?_
    refine rC 29 1 rfl (yC [vi 6] K56 (c_spec_l2Power 6 _  (hS15.inn0 [] rfl) hc2)) ?_ ?_
    ·rintro _ w_10 ⟨rfl, hd2⟩
     have hS16 := hS15.out00 hd2
     refine ⟨(hS16.se [0, 1, 2]), ?_⟩
     refine rA [2] ?_
     refine rC 30 2 rfl (yC [vi 2] K56 (c_spec_l2Power 2 _  (hS16.inn0 [] rfl) hc3)) ?_ ?_
     ·rintro _ w_11 ⟨rfl, hd3⟩
      have hS17 := hS16.out00 hd3
      refine ⟨(hS17.se [0, 1, 2]), ?_⟩
      refine rA [4] ?_
      refine rS 32 4 rfl (Ys_bslice (s := 5) (len := 4) (vs := [(0, gZ_), (1, gD_ r_3), (2, gD_ r_4), (3, gZ_)]) (cs := [vi 0, vi 0, vi 0, vi 0, vi 0, vi r_3.Num.A, vi r_3.Num.B, vi r_3.Num.C, vi r_3.Num.D, vi r_3.Exp, vi r_4.Num.A, vi r_4.Num.B, vi r_4.Num.C, vi r_4.Num.D, vi r_4.Exp, vi 0, vi 0, vi 0, vi 0, vi 0]) (zs := [vi 0, vi 0, vi 0, vi 0, vi 0, vi 0, vi 0, vi 0, vi 0, vi 0, vi 0, vi 0, vi 0, vi 0, vi 0, vi 0, vi 0, vi 0, vi 0, vi 0]) (m := 20) hS17 K21 K2 K54 rfl (mpc rfl (mpc rfl (mpc rfl (mpc rfl mpn)))) rfl rfl rfl (by kernel_rfl) (by kernel_rfl) rfl) ?_ ?_
      ·rintro _ w_12 ⟨b5, rfl, hS18⟩
       refine ⟨(hS18.se [0, 1, 2]), ?_⟩
       refine rq 5 2 (v := .slice (aD b5) 4 4) rfl (hS18.se [0, 1, 2]) (fun w' hw' => (yg (.slice (aD b5) 4 4))) ?_
       refine ra_done (by kernel_rfl) ?_
       refine ct_ ?_
       obtain rfl := sI hF5
       exact ret1 Tryz.results87 (v1 := .slice (aD b5) 4 4) (resAt_tmp rfl) ⟨aD b5, 4, rfl, (hS18.sN [3])⟩
      exact aN
     exact aN
    exact aN
   ·skip
    have hF6 := cf' hF4 hb2
    refine cw_skip (cq ?_)
    obtain ⟨x, hx, hF6⟩ := bI hF6
    obtain ⟨r_5, hc4, hF6⟩ := bI hF6
    refine ra_start (hS7.se [0, 1, 2]).fn (by kernel_rfl) ?_
    have hS20 := hS7.drew
    refine rq 0 33 (v := gD_ r_1) rfl (hS20.se [0, 1, 2]) (fun w' hw' => (yb (aD b) 0 (kD_ r_1) K5 K2 (ST.cf hw' (i := 0) rfl))) ?_
    refine rq 1 34 (v := gZ_) rfl (hS20.se [0, 1, 2]) (fun w' hw' => (yb (aD b1) 0 kZ_ K5 K2 (ST.cf hw' (i := 1) rfl))) ?_
    refine rq 2 35 (v := gZ_) rfl (hS20.se [0, 1, 2]) (fun w' hw' => (yb (aD b1) 0 kZ_ K5 K2 (ST.cf hw' (i := 1) rfl))) ?_
    refine rq 4 37 (v := vi kind) rfl (hS20.se [0, 1, 2]) (fun w' hw' => (ym (vi kind))) ?_
    refine rq 5 38 (v := vi (i64.wrap (kind - 4))) rfl (hS20.se [0, 1, 2]) (fun w' hw' => (yM kind 4)) ?_
    refine rA [3] ?_
    refine rS 36 3 rfl (Ys_bslice (s := 1) (len := 5) (vs := [(0, vi 4), (1, vi 2), (2, vi 6), (3, vi 1), (4, vi 7)]) (cs := [vi 4, vi 2, vi 6, vi 1, vi 7]) (zs := kZ_) (m := 5) hS20 K25 K1 K53 rfl (mpc rfl (mpc rfl (mpc rfl (mpc rfl (mpc rfl mpn))))) rfl rfl rfl (by kernel_rfl) (by kernel_rfl) rfl) ?_ ?_
    ·rintro _ w_13 ⟨b6, rfl, hS21⟩
     refine ⟨(hS21.se [0, 1, 2]), ?_⟩
     refine rA [6] ?_
     refine ra_y 39 (i := 6) (v := pt (aD b6) ((i64.wrap (kind - 4)).toNat * 1)) rfl rfl rfl (Y_index (B := aD b6) (m := 5) (c := 5) (k := .i64) (i := (i64.wrap (kind - 4))) K25 K1 rfl rfl rfl (gi_isSome encI_len rfl (hS21.c 3) hx) (getI_nn hx) (getI_ltI hx rfl)) (hS21.se [0, 1, 2]) ?_ ?_
     ·skip
      refine rA [7] ?_
      refine ra_y 40 (i := 7) (v := vi x) rfl rfl rfl (yl (aD b6) ((i64.wrap (kind - 4)).toNat * 1) ([4, 2, 6, 1, 7].flatMap encI) (vi x) K0 (hS21.c 3) rfl rfl (gi_at0 encI_len hx rfl)) (hS21.se [0, 1, 2]) ?_ ?_
      ·skip
       refine rA [8] ?_
       refine rC 41 8 rfl (yC [vi x] K56 (c_spec_l2Power x _  (hS21.inn0 [] rfl) hc4)) ?_ ?_
       ·rintro _ w_14 ⟨rfl, hd4⟩
        have hS22 := hS21.out00 hd4
        refine ⟨(hS22.se [0, 1, 2]), ?_⟩
        refine rA [9] ?_
        refine rS 42 9 rfl (Ys_bslice (s := 5) (len := 4) (vs := [(0, gD_ r_1), (1, gZ_), (2, gZ_), (3, gD_ r_5)]) (cs := [vi r_1.Num.A, vi r_1.Num.B, vi r_1.Num.C, vi r_1.Num.D, vi r_1.Exp, vi 0, vi 0, vi 0, vi 0, vi 0, vi 0, vi 0, vi 0, vi 0, vi 0, vi r_5.Num.A, vi r_5.Num.B, vi r_5.Num.C, vi r_5.Num.D, vi r_5.Exp]) (zs := [vi 0, vi 0, vi 0, vi 0, vi 0, vi 0, vi 0, vi 0, vi 0, vi 0, vi 0, vi 0, vi 0, vi 0, vi 0, vi 0, vi 0, vi 0, vi 0, vi 0]) (m := 20) hS22 K21 K2 K54 rfl (mpc rfl (mpc rfl (mpc rfl (mpc rfl mpn)))) rfl rfl rfl (by kernel_rfl) (by kernel_rfl) rfl) ?_ ?_
        ·rintro _ w_15 ⟨b7, rfl, hS23⟩
         refine ⟨(hS23.se [0, 1, 2]), ?_⟩
         refine rq 10 2 (v := .slice (aD b7) 4 4) rfl (hS23.se [0, 1, 2]) (fun w' hw' => (yg (.slice (aD b7) 4 4))) ?_
         refine ra_done (by kernel_rfl) ?_
         refine ct_ ?_
         obtain rfl := sI hF6
         exact ret1 Tryz.results87 (v1 := .slice (aD b7) 4 4) (resAt_tmp rfl) ⟨aD b7, 4, rfl, (hS23.sN [4])⟩
        exact aN
       exact aN
      exact aN
     exact aN
    exact aN

theorem c_spec_l6Cell (n : Int) (g : TGate) (row : Int) (col : Int)  (w0 : World)  (hS : ST w0 [] w0 [] []) {r_ : TDyadic} (hF : F_spec_l6Cell n g row col = some r_) :
  CV Tryz.prog 53 #[vi n, .agg #[vi g.Kind, vi g.A, vi g.B], vi row, vi col] w0 (fun v w' => v = (gD_ r_) ∧ ST w0 [] w' [] []) := by
 unfold F_spec_l6Cell at hF
 refine cv_of_cw 119 Tryz.func53 rfl Tryz.ntmps53 rfl ?_
 refine cq (cr ?_)
 refine sS 5 (yB 56 (.agg #[vi g.Kind, vi g.A, vi g.B]) [vi g.Kind, vi g.A, vi g.B] 3 hS) ?_
 rintro _ w_ ⟨b, rfl, hS1⟩
 refine sS 8 (yN kZ_ 5 hS1 K8) ?_
 rintro _ w_1 ⟨b1, rfl, hS2⟩
 refine rn (cq (cr ?_))
 obtain ⟨r_1, hc, hF⟩ := bI hF
 refine sc 12 rfl rfl (yC [vi 0] K56 (c_spec_l2Power 0 _  (hS2.inn0 [] rfl) hc)) ?_
 rintro _ w_2 ⟨rfl, hd⟩
 have hS3 := hS2.out00 hd
 refine sQ 13 (Y_buildS (zs := kZ_) (vs := []) (cs := kZ_) K22 K8 rfl mpn rfl) ?_
 refine sS 9 (yN kZ_ 5 hS3 K8) ?_
 rintro _ w_3 ⟨b2, rfl, hS4⟩
 refine sS 10 (yN kZ_ 5 hS4 K8) ?_
 rintro _ w_4 ⟨b3, rfl, hS5⟩
 refine s0 (yT 2 5 (aD b2) 91 (gD_ r_1) (kD_ r_1) 0 hS5 K2) ?_
 rintro _ w_5 ⟨rfl, hS6⟩
 refine s0 (yT 3 5 (aD b3) 91 gZ_ kZ_ 0 hS6 K2) ?_
 rintro _ w_6 ⟨rfl, hS7⟩
 refine rn (cq (cr ?_))
 refine sQ 14 (ym (vi col)) <| sQ 11 (yg (vi col)) (rn (cq ?_))
 obtain ⟨z, hz, hF1⟩ := bI hF
 refine cw_mid (fun f w => ∃ (A : Int) (B : Int) (C : Int) (D : Int) (Exp : Int) (to_ : Int), .inl (A, B, C, D, Exp, to_) = z ∧ FF f [(2, vi row), (8, pt (aD b1) 0), (9, pt (aD b2) 0), (10, pt (aD b3) 0), (11, vi to_)] ∧ ST w0 [] w [⟨aD b1, 91, kZ_, 5⟩, ⟨aD b2, 91, [vi A, vi B, vi C, vi D, vi Exp], 5⟩, ⟨aD b3, 91, kZ_, 5⟩] []) ?_ ?_
 ·skip
  refine cq (cr ?_)
  refine sQ 15 (yd (aD b) 0 0 K38 K1) <| sQ 16 (yl (aD b) 0 [vi g.Kind, vi g.A, vi g.B] (vi g.Kind) K0 (hS7.c 0)) (rn (cw_block (cq (cr ?_))))
  refine sQ 48 (yE g.Kind 12) <| sQ 47 (yg (.bool (g.Kind == 12))) (rn ?_)
  refine cw_cond (b := (g.Kind == 12)) rfl (fun hb => ?_) (fun hb => ?_)
  ·skip
   have hF2 := ct hz hb
   refine cr ?_
   obtain ⟨r_2, hc1, hF2⟩ := bI hF2
   refine sc 49 rfl rfl (yC [vi 1] K56 (c_spec_l2Power 1 _  (hS7.inn0 [] rfl) hc1)) ?_
   rintro _ w_7 ⟨rfl, hd1⟩
   have hS9 := hS7.out00 hd1
   refine s0 (yT 2 5 (aD b2) 91 (gD_ r_2) (kD_ r_2) 0 hS9 K2) ?_
   rintro _ w_8 ⟨rfl, hS10⟩
   refine rn ?_
   exact ⟨r_2.Num.A, r_2.Num.B, r_2.Num.C, r_2.Num.D, r_2.Exp, col, (sI hF2), (fc rfl (fc rfl (fc rfl (fc rfl (fc rfl fn_))))), (hS10.sel [1, 2, 3] rfl rfl)⟩
  ·skip
   have hF3 := cf' hz hb
   refine cq (cr ?_)
   refine sQ 51 (yE g.Kind 9) <| sQ 50 (yg (.bool (g.Kind == 9))) (rn ?_)
   refine cw_cond (b := (g.Kind == 9)) rfl (fun hb1 => ?_) (fun hb1 => ?_)
   ·skip
    have hF4 := ct hF3 hb1
    refine cq (cr ?_)
    refine sQ 52 (ym (vi n)) <| sQ 53 (ym (vi col)) <| sQ 54 (yd (aD b) 0 0 K26 K1) <| sQ 55 (yl (aD b) 1 [vi g.Kind, vi g.A, vi g.B] (vi g.A) K0 (hS7.c 0)) ?_
    obtain ⟨r_3, hc2, hF4⟩ := bI hF4
    refine sc 56 rfl rfl (yC [vi n, vi col, vi g.A] K63 (c_spec_l6Bit n col g.A _  (hS7.inn0 [] rfl) hc2)) ?_
    rintro _ w_9 ⟨rfl, hd2⟩
    have hS11 := hS7.out00 hd2
    refine sQ 57 (yE r_3 1) (rn ?_)
    refine cw_cond (b := (r_3 == 1)) rfl (fun hb2 => ?_) (fun hb2 => ?_)
    ·skip
     have hF5 := ct hF4 hb2
     refine cr ?_
     refine sQ 58 (ym (vi col)) <| sQ 59 (ym (vi n)) <| sQ 60 (yM n 1) <| sQ 61 (yd (aD b) 0 0 K35 K1) <| sQ 62 (yl (aD b) 2 [vi g.Kind, vi g.A, vi g.B] (vi g.B) K0 (hS11.c 0)) <| sQ 63 (yM (i64.wrap (n - 1)) g.B) ?_
     refine sQ 64 (Y_conv (k := .i64) (a := (i64.wrap ((i64.wrap (n - 1)) - g.B))) (T := 3) (T' := 84) K61 K62 rfl rfl) ?_
     obtain ⟨hsh, hF5⟩ := chk_inv hF5
     refine sQ 65 (Y_shl (k := .i64) (a := 1) (k' := .u64) (b := (IntKind.u64.wrap (i64.wrap ((i64.wrap (n - 1)) - g.B)))) rfl rfl rfl hsh) <| sQ 66 (Y_bxor (k := .i64) (a := col) (b := (shlK .i64 1 (IntKind.u64.wrap (i64.wrap ((i64.wrap (n - 1)) - g.B))))) rfl rfl rfl) <| sQ 11 (yg (vi (bits .xor .i64 col (shlK .i64 1 (IntKind.u64.wrap (i64.wrap ((i64.wrap (n - 1)) - g.B))))))) (rn ?_)
     exact ⟨r_1.Num.A, r_1.Num.B, r_1.Num.C, r_1.Num.D, r_1.Exp, (bits .xor .i64 col (shlK .i64 1 (IntKind.u64.wrap (i64.wrap ((i64.wrap (n - 1)) - g.B))))), (sI hF5), (fc rfl (fc rfl (fc rfl (fc rfl (fc rfl fn_))))), (hS11.sel [1, 2, 3] rfl rfl)⟩
    ·skip
     have hF6 := cf' hF4 hb2
     refine cw_skip ?_
     exact ⟨r_1.Num.A, r_1.Num.B, r_1.Num.C, r_1.Num.D, r_1.Exp, col, (sI hF6), (fc rfl (fc rfl (fc rfl (fc rfl (fc rfl fn_))))), (hS11.sel [1, 2, 3] rfl rfl)⟩
   ·skip
    have hF7 := cf' hF3 hb1
    refine cq (cr ?_)
    refine sQ 68 (yE g.Kind 10) <| sQ 67 (yg (.bool (g.Kind == 10))) (rn ?_)
    refine cw_cond (b := (g.Kind == 10)) rfl (fun hb3 => ?_) (fun hb3 => ?_)
    ·skip
     have hF8 := ct hF7 hb3
     refine cq (cr ?_)
     refine sQ 69 (ym (vi n)) <| sQ 70 (ym (vi col)) <| sQ 71 (yd (aD b) 0 0 K26 K1) <| sQ 72 (yl (aD b) 1 [vi g.Kind, vi g.A, vi g.B] (vi g.A) K0 (hS7.c 0)) ?_
     obtain ⟨r_4, hc3, hF8⟩ := bI hF8
     refine sc 73 rfl rfl (yC [vi n, vi col, vi g.A] K63 (c_spec_l6Bit n col g.A _  (hS7.inn0 [] rfl) hc3)) ?_
     rintro _ w_10 ⟨rfl, hd3⟩
     have hS12 := hS7.out00 hd3
     refine sQ 74 (yE r_4 1) <| sQ 75 (ym (.bool (r_4 == 1))) ?_
     refine sgq 76 (B := (r_4 == 1)) (v := vi n) rfl rfl (uT_ 75) (fun hg => (ym (vi n))) ?_
     refine sgq 77 (B := (r_4 == 1)) (v := vi col) rfl rfl (uT_ 75) (fun hg1 => (ym (vi col))) ?_
     refine sgq 78 (B := (r_4 == 1)) (v := pt (aD b) 2) rfl rfl (uT_ 75) (fun hg2 => (yd (aD b) 0 0 K35 K1)) ?_
     refine sgq 79 (B := (r_4 == 1)) (v := vi g.B) rfl rfl (uT_ 75) (fun hg3 => (yl (aD b) 2 [vi g.Kind, vi g.A, vi g.B] (vi g.B) K0 (hS12.c 0) rfl (gv_of (v := pt (aD b) 2) hg3))) ?_
     obtain ⟨r_5, hc4, hF8⟩ := bI hF8
     refine sgc 80 (B := (r_4 == 1)) (v := vi r_5) (F := hS12.fn) rfl rfl (uT_ 75) hS12 (fun hg4 => (yC [vi n, vi col, vi g.B] K63 (CV.mono (c_spec_l6Bit n col g.B _  (hS12.inn0 [] rfl) (gb_inv hc4 hg4)) (by rintro _ _ ⟨rfl, h⟩; exact ⟨rfl, hS12.out00 h⟩)) rfl (mc (gv_of (v := vi n) hg4) (mc (gv_of (v := vi col) hg4) (mc (gv_of (v := vi g.B) hg4) mn))))) ?_
     rintro w_11 hS13
     refine sgq 81 (B := (r_4 == 1)) (v := .bool (r_5 == 1)) rfl rfl (uT_ 75) (fun hg5 => (yE r_5 1 rfl (gv_of (v := vi r_5) hg5))) ?_
     refine sQ 82 (Y_and (b := (r_4 == 1)) (z := (r_5 == 1)) rfl rfl rfl rfl) (rn ?_)
     refine cw_cond (b := ((r_4 == 1) && (r_5 == 1))) rfl (fun hb4 => ?_) (fun hb4 => ?_)
     ·skip
      have hF9 := ct hF8 hb4
      refine cr ?_
      obtain ⟨r_6, hc5, hF9⟩ := bI hF9
      refine sc 83 rfl rfl (yC [vi 4] K56 (c_spec_l2Power 4 _  (hS13.inn0 [] rfl) hc5)) ?_
      rintro _ w_12 ⟨rfl, hd4⟩
      have hS14 := hS13.out00 hd4
      refine s0 (yT 2 5 (aD b2) 91 (gD_ r_6) (kD_ r_6) 0 hS14 K2) ?_
      rintro _ w_13 ⟨rfl, hS15⟩
      refine rn ?_
      exact ⟨r_6.Num.A, r_6.Num.B, r_6.Num.C, r_6.Num.D, r_6.Exp, col, (sI hF9), (fc rfl (fc rfl (fc rfl (fc rfl (fc rfl fn_))))), (hS15.sel [1, 2, 3] rfl rfl)⟩
     ·skip
      have hF10 := cf' hF8 hb4
      refine cw_skip ?_
      exact ⟨r_1.Num.A, r_1.Num.B, r_1.Num.C, r_1.Num.D, r_1.Exp, col, (sI hF10), (fc rfl (fc rfl (fc rfl (fc rfl (fc rfl fn_))))), (hS13.sel [1, 2, 3] rfl rfl)⟩
    ·skip
     have hF11 := cf' hF7 hb3
     refine cq (cr ?_)
     refine sQ 85 (yE g.Kind 11) <| sQ 84 (yg (.bool (g.Kind == 11))) (rn ?_)
     refine cw_cond (b := (g.Kind == 11)) rfl (fun hb5 => ?_) (fun hb5 => ?_)
     ·skip
      have hF12 := ct hF11 hb5
      refine cq ?_
      obtain ⟨r_7, hc6, hF12⟩ := bI hF12
      obtain ⟨r_8, hc7, hF12⟩ := bI hF12
      refine ra_start (hS7.se [0, 1, 2, 3]).fn (by kernel_rfl) ?_
      have hS18 := hS7.drew
      refine rq 0 86 (v := vi n) rfl (hS18.se [0, 1, 2, 3]) (fun w' hw' => (ym (vi n))) ?_
      refine rq 1 87 (v := vi col) rfl (hS18.se [0, 1, 2, 3]) (fun w' hw' => (ym (vi col))) ?_
      refine rq 2 88 (v := pt (aD b) 1) rfl (hS18.se [0, 1, 2, 3]) (fun w' hw' => (yd (aD b) 0 0 K26 K1)) ?_
      refine rq 3 89 (v := vi g.A) rfl (hS18.se [0, 1, 2, 3]) (fun w' hw' => (yl (aD b) 1 [vi g.Kind, vi g.A, vi g.B] (vi g.A) K0 (ST.cf hw' (i := 0) rfl))) ?_
      refine rq 5 91 (v := vi n) rfl (hS18.se [0, 1, 2, 3]) (fun w' hw' => (ym (vi n))) ?_
      refine rq 6 92 (v := vi col) rfl (hS18.se [0, 1, 2, 3]) (fun w' hw' => (ym (vi col))) ?_
      refine rq 7 93 (v := pt (aD b) 2) rfl (hS18.se [0, 1, 2, 3]) (fun w' hw' => (yd (aD b) 0 0 K35 K1)) ?_
      refine rq 8 94 (v := vi g.B) rfl (hS18.se [0, 1, 2, 3]) (fun w' hw' => (yl (aD b) 2 [vi g.Kind, vi g.A, vi g.B] (vi g.B) K0 (ST.cf hw' (i := 0) rfl))) ?_
      refine rA [4] ?_
      refine rC 90 4 rfl (yC [vi n, vi col, vi g.A] K63 (c_spec_l6Bit n col g.A _  (hS18.inn0 [] rfl) hc6)) ?_ ?_
      ·rintro _ w_14 ⟨rfl, hd5⟩
       have hS19 := hS18.out00 hd5
       refine ⟨(hS19.se [0, 1, 2, 3]), ?_⟩
       refine rA [9] ?_
       refine rC 95 9 rfl (yC [vi n, vi col, vi g.B] K63 (c_spec_l6Bit n col g.B _  (hS19.inn0 [] rfl) hc7)) ?_ ?_
       ·rintro _ w_15 ⟨rfl, hd6⟩
        have hS20 := hS19.out00 hd6
        refine ⟨(hS20.se [0, 1, 2, 3]), ?_⟩
        refine rq 10 96 (v := .bool (r_7 != r_8)) rfl (hS20.se [0, 1, 2, 3]) (fun w' hw' => (Y_ne (k := .i64) (a := r_7) (b := r_8) rfl rfl rfl)) ?_
        refine ra_done (by kernel_rfl) ?_
        refine cw_cond (b := (r_7 != r_8)) rfl (fun hb6 => ?_) (fun hb6 => ?_)
        ·skip
         have hF13 := ct hF12 hb6
         refine cr ?_
         refine sQ 97 (ym (vi col)) <| sQ 98 (ym (vi n)) <| sQ 99 (yM n 1) <| sQ 100 (yd (aD b) 0 0 K26 K1) <| sQ 101 (yl (aD b) 1 [vi g.Kind, vi g.A, vi g.B] (vi g.A) K0 (hS20.c 0)) <| sQ 102 (yM (i64.wrap (n - 1)) g.A) ?_
         refine sQ 103 (Y_conv (k := .i64) (a := (i64.wrap ((i64.wrap (n - 1)) - g.A))) (T := 3) (T' := 84) K61 K62 rfl rfl) ?_
         obtain ⟨hsh1, hF13⟩ := chk_inv hF13
         refine sQ 104 (Y_shl (k := .i64) (a := 1) (k' := .u64) (b := (IntKind.u64.wrap (i64.wrap ((i64.wrap (n - 1)) - g.A)))) rfl rfl rfl hsh1) <| sQ 105 (Y_bxor (k := .i64) (a := col) (b := (shlK .i64 1 (IntKind.u64.wrap (i64.wrap ((i64.wrap (n - 1)) - g.A))))) rfl rfl rfl) <| sQ 106 (ym (vi n)) <| sQ 107 (yM n 1) <| sQ 108 (yd (aD b) 0 0 K35 K1) <| sQ 109 (yl (aD b) 2 [vi g.Kind, vi g.A, vi g.B] (vi g.B) K0 (hS20.c 0)) ?_
         refine sQ 110 (yM (i64.wrap (n - 1)) g.B) <| sQ 111 (Y_conv (k := .i64) (a := (i64.wrap ((i64.wrap (n - 1)) - g.B))) (T := 3) (T' := 84) K61 K62 rfl rfl) ?_
         obtain ⟨hsh2, hF13⟩ := chk_inv hF13
         refine sQ 112 (Y_shl (k := .i64) (a := 1) (k' := .u64) (b := (IntKind.u64.wrap (i64.wrap ((i64.wrap (n - 1)) - g.B)))) rfl rfl rfl hsh2) <| sQ 113 (Y_bxor (k := .i64) (a := (bits .xor .i64 col (shlK .i64 1 (IntKind.u64.wrap (i64.wrap ((i64.wrap (n - 1)) - g.A)))))) (b := (shlK .i64 1 (IntKind.u64.wrap (i64.wrap ((i64.wrap (n - 1)) - g.B))))) rfl rfl rfl) <| sQ 11 (yg (vi (bits .xor .i64 (bits .xor .i64 col (shlK .i64 1 (IntKind.u64.wrap (i64.wrap ((i64.wrap (n - 1)) - g.A))))) (shlK .i64 1 (IntKind.u64.wrap (i64.wrap ((i64.wrap (n - 1)) - g.B))))))) (rn ?_)
         exact ⟨r_1.Num.A, r_1.Num.B, r_1.Num.C, r_1.Num.D, r_1.Exp, (bits .xor .i64 (bits .xor .i64 col (shlK .i64 1 (IntKind.u64.wrap (i64.wrap ((i64.wrap (n - 1)) - g.A))))) (shlK .i64 1 (IntKind.u64.wrap (i64.wrap ((i64.wrap (n - 1)) - g.B))))), (sI hF13), (fc rfl (fc rfl (fc rfl (fc rfl (fc rfl fn_))))), (hS20.sel [1, 2, 3] rfl rfl)⟩
        ·skip
         have hF14 := cf' hF12 hb6
         refine cw_skip ?_
         exact ⟨r_1.Num.A, r_1.Num.B, r_1.Num.C, r_1.Num.D, r_1.Exp, col, (sI hF14), (fc rfl (fc rfl (fc rfl (fc rfl (fc rfl fn_))))), (hS20.sel [1, 2, 3] rfl rfl)⟩
       exact aN
      exact aN
     ·skip
      have hF15 := cf' hF11 hb5
      refine cq (cq (cr ?_))
      refine sQ 17 (ym (vi row)) <| sQ 18 (ym (vi col)) <| sQ 19 (Y_bxor (k := .i64) (a := row) (b := col) rfl rfl rfl) <| sQ 20 (ym (vi n)) <| sQ 21 (yM n 1) <| sQ 22 (yd (aD b) 0 0 K26 K1) ?_
      refine sQ 23 (yl (aD b) 1 [vi g.Kind, vi g.A, vi g.B] (vi g.A) K0 (hS7.c 0)) <| sQ 24 (yM (i64.wrap (n - 1)) g.A) <| sQ 25 (Y_conv (k := .i64) (a := (i64.wrap ((i64.wrap (n - 1)) - g.A))) (T := 3) (T' := 84) K61 K62 rfl rfl) ?_
      obtain ⟨hsh3, hF15⟩ := chk_inv hF15
      refine sQ 26 (Y_shl (k := .i64) (a := 1) (k' := .u64) (b := (IntKind.u64.wrap (i64.wrap ((i64.wrap (n - 1)) - g.A)))) rfl rfl rfl hsh3) <| sQ 27 (Y_bandNot (k := .i64) (a := (bits .xor .i64 row col)) (b := (shlK .i64 1 (IntKind.u64.wrap (i64.wrap ((i64.wrap (n - 1)) - g.A))))) rfl rfl rfl) <| sQ 28 (Y_ne (k := .i64) (a := (bits .andNot .i64 (bits .xor .i64 row col) (shlK .i64 1 (IntKind.u64.wrap (i64.wrap ((i64.wrap (n - 1)) - g.A)))))) (b := 0) rfl rfl rfl) (rn ?_)
      refine cw_cond (b := ((bits .andNot .i64 (bits .xor .i64 row col) (shlK .i64 1 (IntKind.u64.wrap (i64.wrap ((i64.wrap (n - 1)) - g.A))))) != 0)) rfl (fun hb7 => ?_) (fun hb7 => ?_)
      ·skip
       have hF16 := ct hF15 hb7
       refine cq (cr ?_)
       refine sQ 29 (yb (aD b3) 0 kZ_ K5 K2 (hS7.c 3)) ?_
       refine s0 (yT 1 5 (aD b1) 91 gZ_ kZ_ 0 hS7 K2) ?_
       rintro _ w_16 ⟨rfl, hS21⟩
       refine rn (ct_ ?_)
       obtain rfl := sI hF16
       obtain rfl := sI hF1
       exact ret1 Tryz.results53 (v1 := gZ_) (resAt_cellA (B := aD b1) (i := 0) (cs := kZ_) (vs := kZ_) rfl K5 K2 (hS21.c 1) rfl rfl) ⟨rfl, (hS21.sN [])⟩
      ·skip
       have hF17 := cf' hF15 hb7
       refine cw_skip (cq ?_)
       obtain ⟨r_9, hc8, hF17⟩ := bI hF17
       obtain ⟨r_10, hc9, hF17⟩ := bI hF17
       obtain ⟨r_11, hc10, hF17⟩ := bI hF17
       obtain ⟨x, hx, hF17⟩ := bI hF17
       refine ra_start (hS7.se [0, 2, 3]).fn (by kernel_rfl) ?_
       have hS25 := hS7.drew
       refine rq 0 30 (v := pt (aD b) 0) rfl (hS25.se [0, 2, 3]) (fun w' hw' => (yd (aD b) 0 0 K38 K1)) ?_
       refine rq 1 31 (v := vi g.Kind) rfl (hS25.se [0, 2, 3]) (fun w' hw' => (yl (aD b) 0 [vi g.Kind, vi g.A, vi g.B] (vi g.Kind) K0 (ST.cf hw' (i := 0) rfl))) ?_
       refine rq 3 33 (v := vi n) rfl (hS25.se [0, 2, 3]) (fun w' hw' => (ym (vi n))) ?_
       refine rq 4 34 (v := vi row) rfl (hS25.se [0, 2, 3]) (fun w' hw' => (ym (vi row))) ?_
       refine rq 5 35 (v := pt (aD b) 1) rfl (hS25.se [0, 2, 3]) (fun w' hw' => (yd (aD b) 0 0 K26 K1)) ?_
       refine rq 6 36 (v := vi g.A) rfl (hS25.se [0, 2, 3]) (fun w' hw' => (yl (aD b) 1 [vi g.Kind, vi g.A, vi g.B] (vi g.A) K0 (ST.cf hw' (i := 0) rfl))) ?_
       refine rq 9 39 (v := vi n) rfl (hS25.se [0, 2, 3]) (fun w' hw' => (ym (vi n))) ?_
       refine rq 10 40 (v := vi col) rfl (hS25.se [0, 2, 3]) (fun w' hw' => (ym (vi col))) ?_
       refine rq 11 41 (v := pt (aD b) 1) rfl (hS25.se [0, 2, 3]) (fun w' hw' => (yd (aD b) 0 0 K26 K1)) ?_
       refine rq 12 42 (v := vi g.A) rfl (hS25.se [0, 2, 3]) (fun w' hw' => (yl (aD b) 1 [vi g.Kind, vi g.A, vi g.B] (vi g.A) K0 (ST.cf hw' (i := 0) rfl))) ?_
       refine rA [2] ?_
       refine rC 32 2 rfl (yC [vi g.Kind] k_call_87 (c_spec_l6One g.Kind _  (hS25.inn0 [] rfl) hc8)) ?_ ?_
       ·rintro _ w_17 ⟨B1, c, rfl, hd7⟩
        have hS26 := hS25.out0 hd7
        refine ⟨(hS26.se [0, 2, 3]), ?_⟩
        refine rA [7] ?_
        refine rC 37 7 rfl (yC [vi n, vi row, vi g.A] K63 (c_spec_l6Bit n row g.A _  (hS26.inn0 [] rfl) hc9)) ?_ ?_
        ·rintro _ w_18 ⟨rfl, hd8⟩
         have hS27 := hS26.out00 hd8
         refine ⟨(hS27.se [0, 2, 3]), ?_⟩
         refine rq 8 38 (v := vi (i64.wrap (2 * r_10))) rfl (hS27.se [0, 2, 3]) (fun w' hw' => (yX 2 r_10)) ?_
         refine rA [13] ?_
         refine rC 43 13 rfl (yC [vi n, vi col, vi g.A] K63 (c_spec_l6Bit n col g.A _  (hS27.inn0 [] rfl) hc10)) ?_ ?_
         ·rintro _ w_19 ⟨rfl, hd9⟩
          have hS28 := hS27.out00 hd9
          refine ⟨(hS28.se [0, 2, 3]), ?_⟩
          refine rq 14 44 (v := vi (i64.wrap ((i64.wrap (2 * r_10)) + r_11))) rfl (hS28.se [0, 2, 3]) (fun w' hw' => (yP (i64.wrap (2 * r_10)) r_11)) ?_
          refine rA [15] ?_
          refine ra_y 45 (i := 15) (v := pt B1 ((i64.wrap ((i64.wrap (2 * r_10)) + r_11)).toNat * 5)) rfl rfl rfl (Y_index (B := B1) (m := r_9.length) (c := c) (k := .i64) (i := (i64.wrap ((i64.wrap (2 * r_10)) + r_11))) K21 K2 rfl rfl rfl (gi_isSome enc_Dyadic_len rfl (hS28.c 4) hx) (getI_nn hx) (getI_ltI hx rfl)) (hS28.se [0, 2, 3]) ?_ ?_
          ·skip
           refine rA [16] ?_
           refine ra_y 46 (i := 16) (v := gD_ x) rfl rfl rfl (ya B1 ((i64.wrap ((i64.wrap (2 * r_10)) + r_11)).toNat * 5) (r_9.flatMap eN1) (kD_ x) K5 K2 (hS28.c 4) rfl rfl (enc_Dyadic_len x) (gi_seg enc_Dyadic_len hx)) (hS28.se [0, 2, 3]) ?_ ?_
           ·skip
            refine rA [17] ?_
            refine rZ 17 rfl (yT 1 5 (aD b1) 91 (gD_ x) (kD_ x) 0 hS28 K2) ?_ ?_
            ·rintro _ w_20 ⟨rfl, hS29⟩
             refine ⟨(hS29.se [0, 2, 3]), ?_⟩
             refine ra_done (by kernel_rfl) ?_
             refine ct_ ?_
             obtain rfl := sI hF17
             obtain rfl := sI hF1
             exact ret1 Tryz.results53 (v1 := gD_ x) (resAt_cellA (B := aD b1) (i := 0) (cs := kD_ x) (vs := kD_ x) rfl K5 K2 (hS29.c 1) rfl rfl) ⟨rfl, (hS29.sN [])⟩
            exact aN
           exact aN
          exact aN
         exact aN
        exact aN
       exact aN
 rintro f w ⟨A, B, C, D, Exp, to_, rfl, hf, hS8⟩
 refine cq (cq (cr ?_))
 refine sQ 114 (ym (vi row) rfl (hf.g 2 0)) <| sQ 115 (ym (vi to_) rfl (hf.g 11 4)) <| sQ 116 (yE row to_) (rn ?_)
 refine cw_cond (b := (row == to_)) rfl (fun hb8 => ?_) (fun hb8 => ?_)
 ·skip
  have hF18 := ct hF1 hb8
  refine cq (cr ?_)
  refine sQ 117 (yb (aD b2) 0 [vi A, vi B, vi C, vi D, vi Exp] K5 K2 (hS8.c 1) rfl (hf.g 9 2)) ?_
  refine s0 (yT 0 5 (aD b1) 91 (.agg #[vi A, vi B, vi C, vi D, vi Exp]) [vi A, vi B, vi C, vi D, vi Exp] 0 hS8 K2 rfl (hf.g 8 1)) ?_
  rintro _ w_21 ⟨rfl, hS30⟩
  refine rn (ct_ ?_)
  obtain rfl := sI hF18
  exact ret1 Tryz.results53 (v1 := .agg #[vi A, vi B, vi C, vi D, vi Exp]) (resAt_cellA (B := aD b1) (i := 0) (cs := [vi A, vi B, vi C, vi D, vi Exp]) (vs := [vi A, vi B, vi C, vi D, vi Exp]) (hf.g 8 1) K5 K2 (hS30.c 0) rfl rfl) ⟨rfl, (hS30.sN [])⟩
 ·skip
  have hF19 := cf' hF1 hb8
  refine cw_skip (cq (cr ?_))
  refine sQ 118 (yb (aD b3) 0 kZ_ K5 K2 (hS8.c 2) rfl (hf.g 10 3)) ?_
  refine s0 (yT 0 5 (aD b1) 91 gZ_ kZ_ 0 hS8 K2 rfl (hf.g 8 1)) ?_
  rintro _ w_22 ⟨rfl, hS31⟩
  refine rn (ct_ ?_)
  obtain rfl := sI hF19
  exact ret1 Tryz.results53 (v1 := gZ_) (resAt_cellA (B := aD b1) (i := 0) (cs := kZ_) (vs := kZ_) (hf.g 8 1) K5 K2 (hS31.c 0) rfl rfl) ⟨rfl, (hS31.sN [])⟩

theorem c_spec_l6Gate (n : Int) (g : TGate)  (w0 : World)  (hS : ST w0 [] w0 [] []) {r_ : TMatrix} (hF : F_spec_l6Gate n g = some r_) :
  CV Tryz.prog 32 #[vi n, .agg #[vi g.Kind, vi g.A, vi g.B]] w0 (fun v w' => ∃ (B : Option Addr) (c : Nat), v = (gM_ r_ B c) ∧ ST w0 [] w' [⟨B, 91, (r_.Cells.flatMap eN1), c * 5⟩] []) := by
 unfold F_spec_l6Gate at hF
 refine cv_of_cw 36 Tryz.func32 rfl Tryz.ntmps32 rfl ?_
 refine cq (cr ?_)
 refine sS 3 (yB 56 (.agg #[vi g.Kind, vi g.A, vi g.B]) [vi g.Kind, vi g.A, vi g.B] 3 hS) ?_
 rintro _ w_ ⟨b, rfl, hS1⟩
 refine sS 4 (yN kN_ 3 hS1 K13) ?_
 rintro _ w_1 ⟨b1, rfl, hS2⟩
 refine rn (cq (cr ?_))
 refine sQ 9 (ym (vi n)) <| sQ 10 (Y_conv (k := .i64) (a := n) (T := 3) (T' := 84) K61 K62 rfl rfl) ?_
 obtain ⟨hsh, hF⟩ := chk_inv hF
 refine sQ 11 (Y_shl (k := .i64) (a := 1) (k' := .u64) (b := (IntKind.u64.wrap n)) rfl rfl rfl hsh) <| sQ 5 (yg (vi (shlK .i64 1 (IntKind.u64.wrap n)))) (rn (cq (cr ?_)))
 refine sQ 12 (ym (vi (shlK .i64 1 (IntKind.u64.wrap n)))) <| sQ 13 (ym (vi (shlK .i64 1 (IntKind.u64.wrap n)))) <| sQ 14 (Y_buildS (zs := kN_) (vs := [(0, vi (shlK .i64 1 (IntKind.u64.wrap n))), (1, vi (shlK .i64 1 (IntKind.u64.wrap n)))]) (cs := [vi (shlK .i64 1 (IntKind.u64.wrap n)), vi (shlK .i64 1 (IntKind.u64.wrap n)), .slice none 0 0]) K47 K13 rfl (mpc rfl (mpc rfl mpn)) rfl) ?_
 refine sS 6 (yN kN_ 3 hS2 K13) ?_
 rintro _ w_2 ⟨b2, rfl, hS3⟩
 refine s0 (yT 2 3 (aD b2) 50 (.agg #[vi (shlK .i64 1 (IntKind.u64.wrap n)), vi (shlK .i64 1 (IntKind.u64.wrap n)), .slice none 0 0]) [vi (shlK .i64 1 (IntKind.u64.wrap n)), vi (shlK .i64 1 (IntKind.u64.wrap n)), .slice none 0 0] 0 hS3 K4) ?_
 rintro _ w_3 ⟨rfl, hS4⟩
 refine rn (cq (cq (cr ?_)))
 refine sQ 7 (yg (vi 0)) (rn ?_)
 obtain ⟨hN, hF⟩ := chk_inv hF
 obtain ⟨z, hz, hF1⟩ := bI hF
 have hS6 := hS4.addNil 91
 refine cw_block ?_
 refine cw_loop (fun k f w => ∃ (i1 : Nat) (Cells : List TDyadic) (B1 : Option Addr) (c1 : Nat), FF f [(0, vi n), (3, pt (aD b) 0), (4, pt (aD b1) 0), (5, vi (shlK .i64 1 (IntKind.u64.wrap n))), (6, pt (aD b2) 0), (7, vi (i1 : Int))] ∧ ST w0 [] w [⟨aD b, 56, [vi g.Kind, vi g.A, vi g.B], 3⟩, ⟨aD b1, 50, kN_, 3⟩, ⟨aD b2, 50, [vi (shlK .i64 1 (IntKind.u64.wrap n)), vi (shlK .i64 1 (IntKind.u64.wrap n)), .slice B1 Cells.length c1], 3⟩, ⟨B1, 91, (Cells.flatMap eN1), c1 * 5⟩] [] ∧ i1 + k = (shlK .i64 1 (IntKind.u64.wrap n)).toNat ∧ forN (F_spec_l6Gate_l1 n g) k i1 Cells = some z) ((shlK .i64 1 (IntKind.u64.wrap n)).toNat) ⟨0, [], none, 0, (fc rfl (fc rfl (fc rfl (fc rfl (fc rfl (fc rfl fn_)))))), (hS6.sel [0, 1, 2, 3] rfl rfl), Nat.zero_add _, hz⟩ ?_
 rintro k_ f w ⟨i1, Cells, B1, c1, hf, hS5, hik, hL⟩
 refine cq (cq (cr ?_))
 refine sQ 15 (ym (vi (i1 : Int)) rfl (hf.g 7 5)) <| sQ 16 (ym (vi (shlK .i64 1 (IntKind.u64.wrap n))) rfl (hf.g 5 3)) <| sQ 17 (yL (i1 : Int) (shlK .i64 1 (IntKind.u64.wrap n))) (rn ?_)
 refine cw_cond (b := (decide ((i1 : Int) < (shlK .i64 1 (IntKind.u64.wrap n))))) rfl (fun hlt => ?_) (fun hlt => ?_)
 ·skip
  have hlt1 : i1 < (shlK .i64 1 (IntKind.u64.wrap n)).toNat := by have h := of_decide_eq_true hlt; omega
  obtain ⟨K7, rfl⟩ : ∃ k2, k_ = k2 + 1 := ⟨k_ - 1, by omega⟩
  obtain ⟨y, hb, hL1⟩ := forN_go hL
  unfold F_spec_l6Gate_l1 at hb
  refine cw_skip (cq (cw_block (cq (cr ?_))))
  refine sQ 8 (yg (vi 0)) (rn ?_)
  obtain ⟨hN1, hb⟩ := chk_inv hb
  obtain ⟨z1, hz1, hF2⟩ := bI hb
  refine cw_block ?_
  refine cw_loop (fun k f w => ∃ (j : Nat) (Cells1 : List TDyadic) (B2 : Option Addr) (c2 : Nat), FF f [(0, vi n), (3, pt (aD b) 0), (4, pt (aD b1) 0), (5, vi (shlK .i64 1 (IntKind.u64.wrap n))), (6, pt (aD b2) 0), (7, vi (i1 : Int)), (8, vi (j : Int))] ∧ ST w0 [] w [⟨aD b, 56, [vi g.Kind, vi g.A, vi g.B], 3⟩, ⟨aD b1, 50, kN_, 3⟩, ⟨aD b2, 50, [vi (shlK .i64 1 (IntKind.u64.wrap n)), vi (shlK .i64 1 (IntKind.u64.wrap n)), .slice B2 Cells1.length c2], 3⟩, ⟨B2, 91, (Cells1.flatMap eN1), c2 * 5⟩] [] ∧ j + k = (shlK .i64 1 (IntKind.u64.wrap n)).toNat ∧ forN (F_spec_l6Gate_l2 n g i1) k j Cells1 = some z1) ((shlK .i64 1 (IntKind.u64.wrap n)).toNat) ⟨0, Cells, B1, c1, (fc (hf.g 0 0) (fc (hf.g 3 1) (fc (hf.g 4 2) (fc (hf.g 5 3) (fc (hf.g 6 4) (fc (hf.g 7 5) (fc rfl fn_))))))), (hS5.sel [0, 1, 2, 3] rfl rfl), Nat.zero_add _, hz1⟩ ?_
  rintro K23 f w ⟨j, Cells1, B2, c2, hf1, hS7, hik1, hL2⟩
  refine cq (cq (cr ?_))
  refine sQ 20 (ym (vi (j : Int)) rfl (hf1.g 8 6)) <| sQ 21 (ym (vi (shlK .i64 1 (IntKind.u64.wrap n))) rfl (hf1.g 5 3)) <| sQ 22 (yL (j : Int) (shlK .i64 1 (IntKind.u64.wrap n))) (rn ?_)
  refine cw_cond (b := (decide ((j : Int) < (shlK .i64 1 (IntKind.u64.wrap n))))) rfl (fun hlt2 => ?_) (fun hlt2 => ?_)
  ·skip
   have hlt3 : j < (shlK .i64 1 (IntKind.u64.wrap n)).toNat := by have h := of_decide_eq_true hlt2; omega
   obtain ⟨K48, rfl⟩ : ∃ k2, K23 = k2 + 1 := ⟨K23 - 1, by omega⟩
   obtain ⟨y1, hb1, hL3⟩ := forN_go hL2
   unfold F_spec_l6Gate_l2 at hb1
   refine cw_skip (cq (cw_block ?_))
   obtain ⟨r_1, hc, hb1⟩ := bI hb1
   obtain ⟨hap, hb1⟩ := chk_inv hb1
   refine cw_mid (fun f w => ∃ (B4 : Option Addr) (c4 : Nat), FF f [(0, vi n), (3, pt (aD b) 0), (4, pt (aD b1) 0), (5, vi (shlK .i64 1 (IntKind.u64.wrap n))), (6, pt (aD b2) 0), (7, vi (i1 : Int)), (8, vi (j : Int))] ∧ ST w0 [] w [⟨aD b, 56, [vi g.Kind, vi g.A, vi g.B], 3⟩, ⟨aD b1, 50, kN_, 3⟩, ⟨aD b2, 50, [vi (shlK .i64 1 (IntKind.u64.wrap n)), vi (shlK .i64 1 (IntKind.u64.wrap n)), .slice B4 ((Cells1 ++ [r_1]).length) c4], 3⟩, ⟨B4, 91, ((Cells1 ++ [r_1]).flatMap eN1), c4 * 5⟩] []) ?_ ?_
   ·skip
    refine ra_start (hS7.se [0, 1]).fn (by kernel_rfl) ?_
    have hS10 := hS7.drew
    refine rq 0 25 (v := pt (aD b2) 2) rfl (hS10.se [0, 1]) (fun w' hw' => (yd (aD b2) 0 0 K28 K24 rfl (hf1.g 6 4))) ?_
    refine rq 2 27 (v := vi n) rfl (hS10.se [0, 1]) (fun w' hw' => (ym (vi n) rfl (hf1.g 0 0))) ?_
    refine rq 3 28 (v := .agg #[vi g.Kind, vi g.A, vi g.B]) rfl (hS10.se [0, 1]) (fun w' hw' => (yb (aD b) 0 [vi g.Kind, vi g.A, vi g.B] K31 K10 (ST.cf hw' (i := 0) rfl) rfl (hf1.g 3 1))) ?_
    refine rq 4 29 (v := vi (i1 : Int)) rfl (hS10.se [0, 1]) (fun w' hw' => (ym (vi (i1 : Int)) rfl (hf1.g 7 5))) ?_
    refine rq 5 30 (v := vi (j : Int)) rfl (hS10.se [0, 1]) (fun w' hw' => (ym (vi (j : Int)) rfl (hf1.g 8 6))) ?_
    refine rA [1, 6] ?_
    refine ra_y 26 (i := 1) (v := .slice B2 Cells1.length c2) rfl rfl rfl (yl (aD b2) 2 [vi (shlK .i64 1 (IntKind.u64.wrap n)), vi (shlK .i64 1 (IntKind.u64.wrap n)), .slice B2 Cells1.length c2] (.slice B2 Cells1.length c2) K34 (hS10.c 2)) (hS10.se [0, 1]) ?_ ?_
    ·skip
     refine rA [6] ?_
     refine rC 31 6 rfl (yC [vi n, .agg #[vi g.Kind, vi g.A, vi g.B], vi (i1 : Int), vi (j : Int)] k_call_53 (c_spec_l6Cell n g (i1 : Int) (j : Int) _  (hS10.inn0 [] rfl) hc)) ?_ ?_
     ·rintro _ w_4 ⟨rfl, hd⟩
      have hS11 := hS10.out00 hd
      refine ⟨(hS11.se [0, 1]), ?_⟩
      refine rA [7] ?_
      refine rS 32 7 rfl (Ys_bslice (s := 5) (len := 1) (vs := [(0, gD_ r_1)]) (cs := kD_ r_1) (zs := kZ_) (m := 5) hS11 K21 K2 K54 rfl (mpc rfl mpn) rfl rfl rfl (by kernel_rfl) (by kernel_rfl) rfl) ?_ ?_
      ·rintro _ w_5 ⟨b3, rfl, hS12⟩
       refine ⟨(hS12.se [0, 1]), ?_⟩
       refine rA [8] ?_
       refine rS 33 8 rfl (Ys_append (s := 5) (by' := 40) (i := 3) (nn := Cells1.length) (c := c2) (k := 1) (len := (Cells1 ++ [r_1]).length) (B := B2) (xs := ([r_1].flatMap eN1)) (cs' := ((Cells1 ++ [r_1]).flatMap eN1)) hS12 K21 K2 K67 K8 rfl (by decide) rfl rfl rfl rfl (fm_lenn (l := Cells1) enc_Dyadic_len rfl) rfl (hS12.c 4) (fm_lenn (l := [r_1]) enc_Dyadic_len rfl) (fm_one' (enc := eN1) enc_Dyadic_one [r_1]) (by have := hap; omega) (by have := hap; simp only [maxLen]; omega) (fm_app _ _) (app_len (l := Cells1) (l' := [r_1]) rfl rfl)) ?_ ?_
       ·rintro _ w_6 ⟨B3, c3, rfl, hS13⟩
        refine ⟨(hS13.se [0, 1]), ?_⟩
        refine rq 9 34 (v := pt (aD b2) 2) rfl (hS13.se [0, 1]) (fun w' hw' => (yd (aD b2) 0 0 K28 K24 rfl (hf1.g 6 4))) ?_
        refine rA [10] ?_
        refine rZ 10 rfl (yS 2 1 (aD b2) 50 (.slice B3 ((Cells1 ++ [r_1]).length) c3) [.slice B3 ((Cells1 ++ [r_1]).length) c3] 2 [vi (shlK .i64 1 (IntKind.u64.wrap n)), vi (shlK .i64 1 (IntKind.u64.wrap n)), .slice B3 ((Cells1 ++ [r_1]).length) c3] hS13 K24) ?_ ?_
        ·rintro _ w_7 ⟨rfl, hS14⟩
         refine ⟨(hS14.se [0, 1]), ?_⟩
         refine ra_done (by kernel_rfl) ?_
         exact ⟨B3, c3, (fc (hf1.g 0 0) (fc (hf1.g 3 1) (fc (hf1.g 4 2) (fc (hf1.g 5 3) (fc (hf1.g 6 4) (fc (hf1.g 7 5) (fc (hf1.g 8 6) fn_))))))), (hS14.sel [0, 1, 2, 3] rfl rfl)⟩
        exact aN
       exact aN
      exact aN
     exact aN
    refine rC 31 6 rfl (yC [vi n, .agg #[vi g.Kind, vi g.A, vi g.B], vi (i1 : Int), vi (j : Int)] k_call_53 (c_spec_l6Cell n g (i1 : Int) (j : Int) _  (hS10.inn0 [] rfl) hc)) ?_ ?_
    ·rintro _ w_8 ⟨rfl, hd1⟩
     have hS15 := hS10.out00 hd1
     refine ⟨(hS15.se [0, 1]), ?_⟩
     refine rA [1, 7] ?_
     refine ra_y 26 (i := 1) (v := .slice B2 Cells1.length c2) rfl rfl rfl (yl (aD b2) 2 [vi (shlK .i64 1 (IntKind.u64.wrap n)), vi (shlK .i64 1 (IntKind.u64.wrap n)), .slice B2 Cells1.length c2] (.slice B2 Cells1.length c2) K34 (hS15.c 2)) (hS15.se [0, 1]) ?_ ?_
     ·skip
      refine rA [7] ?_
      refine rS 32 7 rfl (Ys_bslice (s := 5) (len := 1) (vs := [(0, gD_ r_1)]) (cs := kD_ r_1) (zs := kZ_) (m := 5) hS15 K21 K2 K54 rfl (mpc rfl mpn) rfl rfl rfl (by kernel_rfl) (by kernel_rfl) rfl) ?_ ?_
      ·rintro _ w_9 ⟨b3, rfl, hS16⟩
       refine ⟨(hS16.se [0, 1]), ?_⟩
       refine rA [8] ?_
       refine rS 33 8 rfl (Ys_append (s := 5) (by' := 40) (i := 3) (nn := Cells1.length) (c := c2) (k := 1) (len := (Cells1 ++ [r_1]).length) (B := B2) (xs := ([r_1].flatMap eN1)) (cs' := ((Cells1 ++ [r_1]).flatMap eN1)) hS16 K21 K2 K67 K8 rfl (by decide) rfl rfl rfl rfl (fm_lenn (l := Cells1) enc_Dyadic_len rfl) rfl (hS16.c 4) (fm_lenn (l := [r_1]) enc_Dyadic_len rfl) (fm_one' (enc := eN1) enc_Dyadic_one [r_1]) (by have := hap; omega) (by have := hap; simp only [maxLen]; omega) (fm_app _ _) (app_len (l := Cells1) (l' := [r_1]) rfl rfl)) ?_ ?_
       ·rintro _ w_10 ⟨B3, c3, rfl, hS17⟩
        refine ⟨(hS17.se [0, 1]), ?_⟩
        refine rq 9 34 (v := pt (aD b2) 2) rfl (hS17.se [0, 1]) (fun w' hw' => (yd (aD b2) 0 0 K28 K24 rfl (hf1.g 6 4))) ?_
        refine rA [10] ?_
        refine rZ 10 rfl (yS 2 1 (aD b2) 50 (.slice B3 ((Cells1 ++ [r_1]).length) c3) [.slice B3 ((Cells1 ++ [r_1]).length) c3] 2 [vi (shlK .i64 1 (IntKind.u64.wrap n)), vi (shlK .i64 1 (IntKind.u64.wrap n)), .slice B3 ((Cells1 ++ [r_1]).length) c3] hS17 K24) ?_ ?_
        ·rintro _ w_11 ⟨rfl, hS18⟩
         refine ⟨(hS18.se [0, 1]), ?_⟩
         refine ra_done (by kernel_rfl) ?_
         exact ⟨B3, c3, (fc (hf1.g 0 0) (fc (hf1.g 3 1) (fc (hf1.g 4 2) (fc (hf1.g 5 3) (fc (hf1.g 6 4) (fc (hf1.g 7 5) (fc (hf1.g 8 6) fn_))))))), (hS18.sel [0, 1, 2, 3] rfl rfl)⟩
        exact aN
       exact aN
      exact aN
     refine rS 32 7 rfl (Ys_bslice (s := 5) (len := 1) (vs := [(0, gD_ r_1)]) (cs := kD_ r_1) (zs := kZ_) (m := 5) hS15 K21 K2 K54 rfl (mpc rfl mpn) rfl rfl rfl (by kernel_rfl) (by kernel_rfl) rfl) ?_ ?_
     ·rintro _ w_12 ⟨b3, rfl, hS19⟩
      refine ⟨(hS19.se [0, 1]), ?_⟩
      refine rA [1] ?_
      refine ra_y 26 (i := 1) (v := .slice B2 Cells1.length c2) rfl rfl rfl (yl (aD b2) 2 [vi (shlK .i64 1 (IntKind.u64.wrap n)), vi (shlK .i64 1 (IntKind.u64.wrap n)), .slice B2 Cells1.length c2] (.slice B2 Cells1.length c2) K34 (hS19.c 2)) (hS19.se [0, 1]) ?_ ?_
      ·skip
       refine rA [8] ?_
       refine rS 33 8 rfl (Ys_append (s := 5) (by' := 40) (i := 3) (nn := Cells1.length) (c := c2) (k := 1) (len := (Cells1 ++ [r_1]).length) (B := B2) (xs := ([r_1].flatMap eN1)) (cs' := ((Cells1 ++ [r_1]).flatMap eN1)) hS19 K21 K2 K67 K8 rfl (by decide) rfl rfl rfl rfl (fm_lenn (l := Cells1) enc_Dyadic_len rfl) rfl (hS19.c 4) (fm_lenn (l := [r_1]) enc_Dyadic_len rfl) (fm_one' (enc := eN1) enc_Dyadic_one [r_1]) (by have := hap; omega) (by have := hap; simp only [maxLen]; omega) (fm_app _ _) (app_len (l := Cells1) (l' := [r_1]) rfl rfl)) ?_ ?_
       ·rintro _ w_13 ⟨B3, c3, rfl, hS20⟩
        refine ⟨(hS20.se [0, 1]), ?_⟩
        refine rq 9 34 (v := pt (aD b2) 2) rfl (hS20.se [0, 1]) (fun w' hw' => (yd (aD b2) 0 0 K28 K24 rfl (hf1.g 6 4))) ?_
        refine rA [10] ?_
        refine rZ 10 rfl (yS 2 1 (aD b2) 50 (.slice B3 ((Cells1 ++ [r_1]).length) c3) [.slice B3 ((Cells1 ++ [r_1]).length) c3] 2 [vi (shlK .i64 1 (IntKind.u64.wrap n)), vi (shlK .i64 1 (IntKind.u64.wrap n)), .slice B3 ((Cells1 ++ [r_1]).length) c3] hS20 K24) ?_ ?_
        ·rintro _ w_14 ⟨rfl, hS21⟩
         refine ⟨(hS21.se [0, 1]), ?_⟩
         refine ra_done (by kernel_rfl) ?_
         exact ⟨B3, c3, (fc (hf1.g 0 0) (fc (hf1.g 3 1) (fc (hf1.g 4 2) (fc (hf1.g 5 3) (fc (hf1.g 6 4) (fc (hf1.g 7 5) (fc (hf1.g 8 6) fn_))))))), (hS21.sel [0, 1, 2, 3] rfl rfl)⟩
        exact aN
       exact aN
      exact aN
     exact aN
    exact aN
   rintro f w ⟨B4, c4, hf2, hS9⟩
   refine cr ?_
   refine sQ 23 (ym (vi (j : Int)) rfl (hf2.g 8 6)) <| sQ 24 (yP (j : Int) 1) <| sQ 8 (yg (vi (i64.wrap ((j : Int) + 1)))) (rn ?_)
   obtain rfl := sI hb1
   exact ⟨K48, Nat.lt_succ_self _, j + 1, (Cells1 ++ [r_1]), B4, c4, (fc (hf2.g 0 0) (fc (hf2.g 3 1) (fc (hf2.g 4 2) (fc (hf2.g 5 3) (fc (hf2.g 6 4) (fc (hf2.g 7 5) (fc (congrArg (Value.int .i64) (wr_succ hlt3 hN1)) fn_))))))), (hS9.sel [0, 1, 2, 3] rfl rfl), (by omega), hL3⟩
  ·skip
   obtain rfl : K23 = 0 := by have h := of_decide_eq_false hlt2; omega
   refine cw_exit rfl ?_
   obtain rfl := sI hL2
   refine cr ?_
   refine sQ 18 (ym (vi (i1 : Int)) rfl (hf1.g 7 5)) <| sQ 19 (yP (i1 : Int) 1) <| sQ 7 (yg (vi (i64.wrap ((i1 : Int) + 1)))) (rn ?_)
   obtain rfl := sI hF2
   exact ⟨K7, Nat.lt_succ_self _, i1 + 1, Cells1, B2, c2, (fc (hf1.g 0 0) (fc (hf1.g 3 1) (fc (hf1.g 4 2) (fc (hf1.g 5 3) (fc (hf1.g 6 4) (fc (congrArg (Value.int .i64) (wr_succ hlt1 hN)) fn_)))))), (hS7.sel [0, 1, 2, 3] rfl rfl), (by omega), hL1⟩
 ·skip
  obtain rfl : k_ = 0 := by have h := of_decide_eq_false hlt; omega
  refine cw_exit rfl ?_
  obtain rfl := sI hL
  refine cq (cr ?_)
  refine sQ 35 (yb (aD b2) 0 [vi (shlK .i64 1 (IntKind.u64.wrap n)), vi (shlK .i64 1 (IntKind.u64.wrap n)), .slice B1 Cells.length c1] K9 K4 (hS5.c 2) rfl (hf.g 6 4)) ?_
  refine s0 (yT 1 3 (aD b1) 50 (.agg #[vi (shlK .i64 1 (IntKind.u64.wrap n)), vi (shlK .i64 1 (IntKind.u64.wrap n)), .slice B1 Cells.length c1]) [vi (shlK .i64 1 (IntKind.u64.wrap n)), vi (shlK .i64 1 (IntKind.u64.wrap n)), .slice B1 Cells.length c1] 0 hS5 K4 rfl (hf.g 4 2)) ?_
  rintro _ w_15 ⟨rfl, hS22⟩
  refine rn (ct_ ?_)
  obtain rfl := sI hF1
  exact ret1 Tryz.results32 (v1 := .agg #[vi (shlK .i64 1 (IntKind.u64.wrap n)), vi (shlK .i64 1 (IntKind.u64.wrap n)), .slice B1 Cells.length c1]) (resAt_cellA (B := aD b1) (i := 0) (cs := [vi (shlK .i64 1 (IntKind.u64.wrap n)), vi (shlK .i64 1 (IntKind.u64.wrap n)), .slice B1 Cells.length c1]) (vs := [vi (shlK .i64 1 (IntKind.u64.wrap n)), vi (shlK .i64 1 (IntKind.u64.wrap n)), .slice B1 Cells.length c1]) (hf.g 4 2) K9 K4 (hS22.c 1) rfl rfl) ⟨B1, c1, rfl, (hS22.sN [3])⟩

theorem c_spec_l2C_run (c : Tl2C) (x : TCircuit) (m : TMatrix) (B : Option Addr) (B1 : Option Addr) (c1 n : Nat) (B2 : Option Addr) (c2 n1 : Nat) (w0 : World) (hn : x.Gates.length = n) (hn1 : m.Cells.length = n1) (hS : ST w0 (bl [⟨B, 65, [.bool c.bad], 1⟩, ⟨B2, 91, (m.Cells.flatMap eN1), c2 * 5⟩]) w0 [⟨B, 65, [.bool c.bad], 1⟩, ⟨B2, 91, (m.Cells.flatMap eN1), c2 * 5⟩] [⟨B1, (x.Gates.flatMap eN0)⟩]) {r_ : TMatrix} {m1 : Tl2C} (hF : F_spec_l2C_run c x m = some (r_, m1)) :
  CV Tryz.prog 42 #[pt B 0, .agg #[vi x.Qubits, .slice B1 n c1], .agg #[vi m.Rows, vi m.Cols, .slice B2 n1 c2]] w0 (fun v w' => ∃ (B3 : Option Addr) (c3 : Nat), v = (gM_ r_ B3 c3) ∧ ST w0 (bl [⟨B, 65, [.bool c.bad], 1⟩, ⟨B2, 91, (m.Cells.flatMap eN1), c2 * 5⟩]) w' [⟨B, 65, [.bool m1.bad], 1⟩, ⟨B3, 91, (r_.Cells.flatMap eN1), c3 * 5⟩] []) := by
 subst hn
 subst hn1
 unfold F_spec_l2C_run at hF
 refine cv_of_cw 30 Tryz.func42 rfl Tryz.ntmps42 rfl ?_
 refine cq (cr ?_)
 refine sS 4 (yB 30 (.agg #[vi x.Qubits, .slice B1 x.Gates.length c1]) [vi x.Qubits, .slice B1 x.Gates.length c1] 2 hS) ?_
 rintro _ w_ ⟨b, rfl, hS1⟩
 refine sS 5 (yB 50 (gM_ m B2 c2) (kM_ m B2 c2) 3 hS1) ?_
 rintro _ w_1 ⟨b1, rfl, hS2⟩
 refine sS 6 (yN kN_ 3 hS2 K13) ?_
 rintro _ w_2 ⟨b2, rfl, hS3⟩
 refine rn (cq (cq (cr ?_)))
 refine sQ 9 (yd (aD b) 0 0 K44 K39) <| sQ 10 (yl (aD b) 1 [vi x.Qubits, .slice B1 x.Gates.length c1] (.slice B1 x.Gates.length c1) K43 (hS3.c 2)) <| sQ 11 (Y_len (B := B1) (m := x.Gates.length) (c := c1) K11 rfl rfl) <| sQ 12 (ym (vi 0)) (rn ?_)
 obtain ⟨hN, hF⟩ := chk_inv hF
 obtain ⟨z, hz, hF1⟩ := bI hF
 refine cw_block ?_
 refine cw_loop (fun k f w => ∃ (i : Nat) (bad : Bool) (Rows : Int) (Cols : Int) (Cells : List TDyadic) (B4 : Option Addr) (c4 : Nat), FF f [(0, pt B 0), (4, pt (aD b) 0), (5, pt (aD b1) 0), (6, pt (aD b2) 0), (10, .slice B1 x.Gates.length c1), (11, vi (x.Gates.length : Int)), (12, vi (i : Int))] ∧ ST w0 (bl [⟨B, 65, [.bool c.bad], 1⟩, ⟨B2, 91, (m.Cells.flatMap eN1), c2 * 5⟩]) w [⟨B, 65, [.bool bad], 1⟩, ⟨aD b, 30, [vi x.Qubits, .slice B1 x.Gates.length c1], 2⟩, ⟨aD b1, 50, [vi Rows, vi Cols, .slice B4 Cells.length c4], 3⟩, ⟨B4, 91, (Cells.flatMap eN1), c4 * 5⟩, ⟨aD b2, 50, kN_, 3⟩] [⟨B1, (x.Gates.flatMap eN0)⟩] ∧ i + k = x.Gates.length ∧ forN (F_spec_l2C_run_l1 x) k i (bad, Rows, Cols, Cells) = some z) x.Gates.length ⟨0, c.bad, m.Rows, m.Cols, m.Cells, B2, c2, (fc rfl (fc rfl (fc rfl (fc rfl (fc rfl (fc rfl (fc rfl fn_))))))), (hS3.sel [0, 2, 3, 1, 4] rfl rfl), Nat.zero_add _, hz⟩ ?_
 rintro k_ f w ⟨i, bad, Rows, Cols, Cells, B4, c4, hf, hS4, hik, hL⟩
 refine cq (cr ?_)
 refine sQ 13 (yL (i : Int) (x.Gates.length : Int) rfl (hf.g 12 6) (hf.g 11 5)) (rn (cq ?_))
 refine cw_cond (b := (decide ((i : Int) < (x.Gates.length : Int)))) rfl (fun hlt => ?_) (fun hlt => ?_)
 ·skip
  have hlt1 : i < x.Gates.length := by have h := of_decide_eq_true hlt; omega
  obtain ⟨K7, rfl⟩ : ∃ k2, k_ = k2 + 1 := ⟨k_ - 1, by omega⟩
  obtain ⟨y, hb, hL1⟩ := forN_go hL
  unfold F_spec_l2C_run_l1 at hb
  refine cw_skip (cq ?_)
  obtain ⟨z1, hz1, hF2⟩ := bI hb
  refine cw_mid (fun f w => ∃ (bad1 : Bool) (Rows1 : Int) (Cols1 : Int) (Cells1 : List TDyadic) (B5 : Option Addr) (c5 : Nat), (bad1, Rows1, Cols1, Cells1) = z1 ∧ FF f [(0, pt B 0), (4, pt (aD b) 0), (5, pt (aD b1) 0), (6, pt (aD b2) 0), (10, .slice B1 x.Gates.length c1), (11, vi (x.Gates.length : Int)), (12, vi (i : Int))] ∧ ST w0 (bl [⟨B, 65, [.bool c.bad], 1⟩, ⟨B2, 91, (m.Cells.flatMap eN1), c2 * 5⟩]) w [⟨B, 65, [.bool bad1], 1⟩, ⟨aD b, 30, [vi x.Qubits, .slice B1 x.Gates.length c1], 2⟩, ⟨aD b1, 50, [vi Rows1, vi Cols1, .slice B5 Cells1.length c5], 3⟩, ⟨B5, 91, (Cells1.flatMap eN1), c5 * 5⟩, ⟨aD b2, 50, kN_, 3⟩] [⟨B1, (x.Gates.flatMap eN0)⟩]) ?_ ?_
  ·skip
   refine cw_block (cq (cr ?_))
   obtain ⟨x1, hx, hz1⟩ := bI hz1
   refine sQ 14 (Y_index (B := B1) (m := x.Gates.length) (c := c1) (k := .i64) (i := (i : Int)) K11 K10 rfl (hf.g 10 4) (hf.g 12 6) (gi_isSome enc_Gate_len rfl (hS4.rf (i := 0) rfl) hx) (getI_nn hx) (getI_ltI hx rfl)) <| sQ 15 (ya B1 ((i : Int).toNat * 3) (x.Gates.flatMap eN0) [vi x1.Kind, vi x1.A, vi x1.B] K31 K10 (hS4.rf (i := 0) rfl) rfl rfl (enc_Gate_len x1) (gi_seg enc_Gate_len hx)) ?_
   refine sS 8 (yN [vi 0, vi 0, vi 0] 3 hS4 K20) ?_
   rintro _ w_3 ⟨b3, rfl, hS6⟩
   refine s0 (yT 5 3 (aD b3) 56 (.agg #[vi x1.Kind, vi x1.A, vi x1.B]) [vi x1.Kind, vi x1.A, vi x1.B] 0 hS6 K10) ?_
   rintro _ w_4 ⟨rfl, hS7⟩
   refine rn (cq (cr ?_))
   refine sQ 16 (ym (pt B 0) rfl (hf.g 0 0)) <| sQ 17 (Y_nilCheck (B := B) (i := 0) rfl rfl) <| sQ 18 (yd B 0 0 K76 K59) <| sQ 19 (yl B 0 [.bool bad] (.bool bad) K94 (hS7.c 0)) <| sQ 20 (Y_not (p := bad) rfl rfl) (rn ?_)
   refine cw_cond (b := (!bad)) rfl (fun hb1 => ?_) (fun hb1 => ?_)
   ·skip
    have hF3 := ct hz1 hb1
    obtain ⟨r_1, hc, hF3⟩ := bI hF3
    obtain ⟨⟨r_2, m2⟩, hc1, hF3⟩ := bI hF3
    refine cw_mid (fun f w => ∃ (B8 : Option Addr) (c8 : Nat), FF f [(0, pt B 0), (4, pt (aD b) 0), (5, pt (aD b1) 0), (6, pt (aD b2) 0), (10, .slice B1 x.Gates.length c1), (11, vi (x.Gates.length : Int)), (12, vi (i : Int))] ∧ ST w0 (bl [⟨B, 65, [.bool c.bad], 1⟩, ⟨B2, 91, (m.Cells.flatMap eN1), c2 * 5⟩]) w [⟨B, 65, [.bool m2.bad], 1⟩, ⟨aD b, 30, [vi x.Qubits, .slice B1 x.Gates.length c1], 2⟩, ⟨aD b1, 50, kM_ r_2 B8 c8, 3⟩, ⟨B8, 91, (r_2.Cells.flatMap eN1), c8 * 5⟩, ⟨aD b2, 50, kN_, 3⟩] [⟨B1, (x.Gates.flatMap eN0)⟩]) ?_ ?_
    ·skip
     refine ra_start (hS7.se [1, 3, 4, 5]).fn (by kernel_rfl) ?_
     have hS11 := hS7.drew
     refine rq 0 21 (v := pt B 0) rfl (hS11.se [1, 3, 4, 5]) (fun w' hw' => (ym (pt B 0) rfl (hf.g 0 0))) ?_
     refine rq 1 22 (v := pt (aD b) 0) rfl (hS11.se [1, 3, 4, 5]) (fun w' hw' => (yd (aD b) 0 0 K49 K1 rfl (hf.g 4 1))) ?_
     refine rq 2 23 (v := vi x.Qubits) rfl (hS11.se [1, 3, 4, 5]) (fun w' hw' => (yl (aD b) 0 [vi x.Qubits, .slice B1 x.Gates.length c1] (vi x.Qubits) K0 (ST.cf hw' (i := 0) rfl))) ?_
     refine rq 3 24 (v := .agg #[vi x1.Kind, vi x1.A, vi x1.B]) rfl (hS11.se [1, 3, 4, 5]) (fun w' hw' => (yb (aD b3) 0 [vi x1.Kind, vi x1.A, vi x1.B] K31 K10 (ST.cf hw' (i := 3) rfl))) ?_
     refine rA [4, 5] ?_
     refine rC 25 4 rfl (yC [vi x.Qubits, .agg #[vi x1.Kind, vi x1.A, vi x1.B]] K95 (c_spec_l6Gate x.Qubits x1 _  (hS11.inn0 [] rfl) hc)) ?_ ?_
     ·rintro _ w_5 ⟨B6, c6, rfl, hd⟩
      have hS12 := hS11.out0 hd
      refine ⟨(hS12.se [1, 3, 4, 5]), ?_⟩
      refine rA [5] ?_
      refine ra_y 26 (i := 5) (v := .agg #[vi Rows, vi Cols, .slice B4 Cells.length c4]) rfl rfl rfl (yb (aD b1) 0 [vi Rows, vi Cols, .slice B4 Cells.length c4] K9 K4 (hS12.c 2) rfl (hf.g 5 2)) (hS12.se [1, 3, 4, 5]) ?_ ?_
      ·skip
       refine rA [6] ?_
       refine rC 27 6 rfl (yC [pt B 0, gM_ r_1 B6 c6, .agg #[vi Rows, vi Cols, .slice B4 Cells.length c4]] K96 (c_spec_l2C_times (Tl2C.mk bad) r_1 (TMatrix.mk Rows Cols Cells) B B6 c6 r_1.Cells.length B4 c4 Cells.length _ rfl rfl (hS12.inn [true, false, false, false, false, false, false] rfl [(false, 5), (false, 2)] rfl) hc1)) ?_ ?_
       ·rintro _ w_6 ⟨B7, c7, rfl, hd1⟩
        have hS13 := hS12.out [true, false, false, false, false, false, false] rfl hd1
        refine ⟨(hS13.se [0, 2, 3, 4]), ?_⟩
        refine rA [7] ?_
        refine rZ 7 rfl (yT 1 3 (aD b1) 50 (gM_ r_2 B7 c7) (kM_ r_2 B7 c7) 0 hS13 K4 rfl (hf.g 5 2)) ?_ ?_
        ·rintro _ w_7 ⟨rfl, hS14⟩
         refine ⟨(hS14.se [0, 2, 3, 4]), ?_⟩
         refine ra_done (by kernel_rfl) ?_
         exact ⟨B7, c7, (fc (hf.g 0 0) (fc (hf.g 4 1) (fc (hf.g 5 2) (fc (hf.g 6 3) (fc (hf.g 10 4) (fc (hf.g 11 5) (fc (hf.g 12 6) fn_))))))), (hS14.sel [6, 0, 1, 7, 3] rfl rfl)⟩
        exact aN
       exact aN
      exact aN
     refine ra_y 26 (i := 5) (v := .agg #[vi Rows, vi Cols, .slice B4 Cells.length c4]) rfl rfl rfl (yb (aD b1) 0 [vi Rows, vi Cols, .slice B4 Cells.length c4] K9 K4 (hS11.c 2) rfl (hf.g 5 2)) (hS11.se [1, 3, 4, 5]) ?_ ?_
     ·skip
      refine rA [4] ?_
      refine rC 25 4 rfl (yC [vi x.Qubits, .agg #[vi x1.Kind, vi x1.A, vi x1.B]] K95 (c_spec_l6Gate x.Qubits x1 _  (hS11.inn0 [] rfl) hc)) ?_ ?_
      ·rintro _ w_8 ⟨B6, c6, rfl, hd2⟩
       have hS15 := hS11.out0 hd2
       refine ⟨(hS15.se [1, 3, 4, 5]), ?_⟩
       refine rA [6] ?_
       refine rC 27 6 rfl (yC [pt B 0, gM_ r_1 B6 c6, .agg #[vi Rows, vi Cols, .slice B4 Cells.length c4]] K96 (c_spec_l2C_times (Tl2C.mk bad) r_1 (TMatrix.mk Rows Cols Cells) B B6 c6 r_1.Cells.length B4 c4 Cells.length _ rfl rfl (hS15.inn [true, false, false, false, false, false, false] rfl [(false, 5), (false, 2)] rfl) hc1)) ?_ ?_
       ·rintro _ w_9 ⟨B7, c7, rfl, hd3⟩
        have hS16 := hS15.out [true, false, false, false, false, false, false] rfl hd3
        refine ⟨(hS16.se [0, 2, 3, 4]), ?_⟩
        refine rA [7] ?_
        refine rZ 7 rfl (yT 1 3 (aD b1) 50 (gM_ r_2 B7 c7) (kM_ r_2 B7 c7) 0 hS16 K4 rfl (hf.g 5 2)) ?_ ?_
        ·rintro _ w_10 ⟨rfl, hS17⟩
         refine ⟨(hS17.se [0, 2, 3, 4]), ?_⟩
         refine ra_done (by kernel_rfl) ?_
         exact ⟨B7, c7, (fc (hf.g 0 0) (fc (hf.g 4 1) (fc (hf.g 5 2) (fc (hf.g 6 3) (fc (hf.g 10 4) (fc (hf.g 11 5) (fc (hf.g 12 6) fn_))))))), (hS17.sel [6, 0, 1, 7, 3] rfl rfl)⟩
        exact aN
       exact aN
      exact aN
     exact aN
    rintro f w ⟨B8, c8, hf2, hS10⟩
    exact ⟨m2.bad, r_2.Rows, r_2.Cols, r_2.Cells, B8, c8, (sI hF3), (fc (hf2.g 0 0) (fc (hf2.g 4 1) (fc (hf2.g 5 2) (fc (hf2.g 6 3) (fc (hf2.g 10 4) (fc (hf2.g 11 5) (fc (hf2.g 12 6) fn_))))))), (hS10.sel [0, 1, 2, 3, 4] rfl rfl)⟩
   ·skip
    have hF4 := cf' hz1 hb1
    refine cw_skip ?_
    exact ⟨bad, Rows, Cols, Cells, B4, c4, (sI hF4), (fc (hf.g 0 0) (fc (hf.g 4 1) (fc (hf.g 5 2) (fc (hf.g 6 3) (fc (hf.g 10 4) (fc (hf.g 11 5) (fc (hf.g 12 6) fn_))))))), (hS7.sel [0, 1, 2, 3, 4] rfl rfl)⟩
  rintro f w ⟨bad1, Rows1, Cols1, Cells1, B5, c5, rfl, hf1, hS5⟩
  refine cr ?_
  refine sQ 28 (yP (i : Int) 1 rfl (hf1.g 12 6)) <| sQ 12 (ym (vi (i64.wrap ((i : Int) + 1)))) (rn ?_)
  obtain rfl := sI hF2
  exact ⟨K7, Nat.lt_succ_self _, i + 1, bad1, Rows1, Cols1, Cells1, B5, c5, (fc (hf1.g 0 0) (fc (hf1.g 4 1) (fc (hf1.g 5 2) (fc (hf1.g 6 3) (fc (hf1.g 10 4) (fc (hf1.g 11 5) (fc (congrArg (Value.int .i64) (wr_succ hlt1 hN)) fn_))))))), (hS5.sel [0, 1, 2, 3, 4] rfl rfl), (by omega), hL1⟩
 ·skip
  obtain rfl : k_ = 0 := by have h := of_decide_eq_false hlt; omega
  refine cw_exit rfl ?_
  obtain rfl := sI hL
  refine cq (cr ?_)
  refine sQ 29 (yb (aD b1) 0 [vi Rows, vi Cols, .slice B4 Cells.length c4] K9 K4 (hS4.c 2) rfl (hf.g 5 2)) ?_
  refine s0 (yT 4 3 (aD b2) 50 (.agg #[vi Rows, vi Cols, .slice B4 Cells.length c4]) [vi Rows, vi Cols, .slice B4 Cells.length c4] 0 hS4 K4 rfl (hf.g 6 3)) ?_
  rintro _ w_11 ⟨rfl, hS18⟩
  refine rn (ct_ ?_)
  obtain ⟨rfl, rfl⟩ := pr2 (sI hF1)
  exact ret1 Tryz.results42 (v1 := .agg #[vi Rows, vi Cols, .slice B4 Cells.length c4]) (resAt_cellA (B := aD b2) (i := 0) (cs := [vi Rows, vi Cols, .slice B4 Cells.length c4]) (vs := [vi Rows, vi Cols, .slice B4 Cells.length c4]) (hf.g 6 3) K9 K4 (hS18.c 4) rfl rfl) ⟨B4, c4, rfl, (hS18.sN [0, 3])⟩

theorem c_spec_OperatorOf (c : TCircuit) (B : Option Addr) (c1 n : Nat) (w0 : World) (hn : c.Gates.length = n) (hS : ST w0 [] w0 [] [⟨B, (c.Gates.flatMap eN0)⟩]) {r_ : TMatrix} {r_1 : Bool} (hF : F_spec_OperatorOf c = some (r_, r_1)) :
  CV Tryz.prog 22 #[.agg #[vi c.Qubits, .slice B n c1]] w0 (fun v w' => ∃ (B1 : Option Addr) (c2 : Nat), v = .tuple #[gM_ r_ B1 c2, .bool r_1] ∧ ST w0 [] w' [⟨B1, 91, (r_.Cells.flatMap eN1), c2 * 5⟩] []) := by
 subst hn
 unfold F_spec_OperatorOf at hF
 refine cv_of_cw 23 Tryz.func22 rfl Tryz.ntmps22 rfl ?_
 refine cq (cr ?_)
 refine sS 1 (yB 30 (.agg #[vi c.Qubits, .slice B c.Gates.length c1]) [vi c.Qubits, .slice B c.Gates.length c1] 2 hS) ?_
 rintro _ w_ ⟨b, rfl, hS1⟩
 refine sS 2 (yN kN_ 3 hS1 K13) ?_
 rintro _ w_1 ⟨b1, rfl, hS2⟩
 refine sQ 3 (yg (.bool false)) (rn (cq (cq (cr ?_))))
 refine sQ 5 (yb (aD b) 0 [vi c.Qubits, .slice B c.Gates.length c1] K27 K18 (hS2.c 0)) ?_
 obtain ⟨r_2, hc, hF⟩ := bI hF
 refine sc 6 rfl rfl (yC [.agg #[vi c.Qubits, .slice B c.Gates.length c1]] k_call_40 (c_spec_l4Good c B c1 c.Gates.length _ rfl (hS2.inn0 [(true, 0)] rfl) hc)) ?_
 rintro _ w_2 ⟨rfl, hd⟩
 have hS3 := hS2.out00 hd
 refine sQ 7 (Y_not (p := r_2) rfl rfl) (rn ?_)
 refine cw_cond (b := (!r_2)) rfl (fun hb => ?_) (fun hb => ?_)
 ·skip
  have hF1 := ct hF hb
  refine cq (cr ?_)
  refine sQ 8 (Y_buildS (zs := kN_) (vs := []) (cs := kN_) K47 K13 rfl mpn rfl) ?_
  refine s0 (yT 1 3 (aD b1) 50 gN_ kN_ 0 hS3 K4) ?_
  rintro _ w_3 ⟨rfl, hS4⟩
  refine sQ 3 (yg (.bool false)) (rn (ct_ ?_))
  have hS5 := hS4.addNil 91
  obtain ⟨rfl, rfl⟩ := pr2 (sI hF1)
  exact ret2 Tryz.results22 (v1 := gN_) (resAt_cellA (B := aD b1) (i := 0) (cs := kN_) (vs := kN_) rfl K9 K4 (hS5.c 1) rfl rfl) (v2 := .bool false) (resAt_tmp rfl) ⟨none, 0, rfl, (hS5.sN [2])⟩
 ·skip
  have hF2 := cf' hF hb
  refine cw_skip (cq (cr ?_))
  refine sQ 9 (Y_buildS (zs := [.bool false]) (vs := []) (cs := [.bool false]) k_pl_65 k_zero_65 rfl mpn rfl) ?_
  refine sS 10 (yB 65 (.agg #[.bool false]) [.bool false] 1 hS3) ?_
  rintro _ w_4 ⟨b2, rfl, hS6⟩
  refine sQ 4 (yg (pt (aD b2) 0)) (rn (cq ?_))
  obtain ⟨hsh, hF2⟩ := chk_inv hF2
  obtain ⟨r_3, hc1, hF2⟩ := bI hF2
  obtain ⟨⟨r_4, m⟩, hc2, hF2⟩ := bI hF2
  obtain ⟨⟨r_5, r_6⟩, hc3, hF2⟩ := bI hF2
  refine ra_start (hS6.se [0]).fn (by kernel_rfl) ?_
  have hS10 := hS6.drew
  refine rq 0 11 (v := pt (aD b2) 0) rfl (hS10.se [0]) (fun w' hw' => (ym (pt (aD b2) 0))) ?_
  refine rq 1 12 (v := pt (aD b2) 0) rfl (hS10.se [0]) (fun w' hw' => (ym (pt (aD b2) 0))) ?_
  refine rq 2 13 (v := .agg #[vi c.Qubits, .slice B c.Gates.length c1]) rfl (hS10.se [0]) (fun w' hw' => (yb (aD b) 0 [vi c.Qubits, .slice B c.Gates.length c1] K27 K18 (ST.cf hw' (i := 0) rfl))) ?_
  refine rq 3 14 (v := pt (aD b) 0) rfl (hS10.se [0]) (fun w' hw' => (yd (aD b) 0 0 K49 K1)) ?_
  refine rq 4 15 (v := vi c.Qubits) rfl (hS10.se [0]) (fun w' hw' => (yl (aD b) 0 [vi c.Qubits, .slice B c.Gates.length c1] (vi c.Qubits) K0 (ST.cf hw' (i := 0) rfl))) ?_
  refine rq 5 16 (v := .int .u64 (IntKind.u64.wrap c.Qubits)) rfl (hS10.se [0]) (fun w' hw' => (Y_conv (k := .i64) (a := c.Qubits) (T := 3) (T' := 84) K61 K62 rfl rfl)) ?_
  refine rq 6 17 (v := vi (shlK .i64 1 (IntKind.u64.wrap c.Qubits))) rfl (hS10.se [0]) (fun w' hw' => (Y_shl (k := .i64) (a := 1) (k' := .u64) (b := (IntKind.u64.wrap c.Qubits)) rfl rfl rfl hsh)) ?_
  refine rA [7] ?_
  refine rC 18 7 rfl (yC [vi (shlK .i64 1 (IntKind.u64.wrap c.Qubits))] k_call_28 (c_spec_l3Unit (shlK .i64 1 (IntKind.u64.wrap c.Qubits)) _  (hS10.inn0 [] rfl) hc1)) ?_ ?_
  ·rintro _ w_5 ⟨B2, c3, rfl, hd1⟩
   have hS11 := hS10.out0 hd1
   refine ⟨(hS11.se [0]), ?_⟩
   refine rA [8] ?_
   refine rC 19 8 rfl (yC [pt (aD b2) 0, .agg #[vi c.Qubits, .slice B c.Gates.length c1], gM_ r_3 B2 c3] k_call_42 (c_spec_l2C_run (Tl2C.mk false) c r_3 (aD b2) B c1 c.Gates.length B2 c3 r_3.Cells.length _ rfl rfl (hS11.inn [false, false, true, true] rfl [(true, 0)] rfl) hc2)) ?_ ?_
   ·rintro _ w_6 ⟨B3, c4, rfl, hd2⟩
    have hS12 := hS11.out [false, false, true, true] rfl hd2
    refine ⟨(hS12.se [0]), ?_⟩
    refine rA [9] ?_
    refine rC 20 9 rfl (yC [pt (aD b2) 0, gM_ r_4 B3 c4] k_call_41 (c_spec_l2C_matrix m r_4 (aD b2) B3 c4 r_4.Cells.length _ rfl (hS12.inn [false, false, false, true] rfl [(false, 2)] rfl) hc3)) ?_ ?_
    ·rintro _ w_7 ⟨B4, c5, rfl, hd3⟩
     have hS13 := hS12.out [false, false, false, true] rfl hd3
     refine ⟨(hS13.se [0]), ?_⟩
     refine rq 10 21 (v := gM_ r_5 B4 c5) rfl (hS13.se [0]) (fun w' hw' => (ye (gM_ r_5 B4 c5))) ?_
     refine rq 11 22 (v := .bool r_6) rfl (hS13.se [0]) (fun w' hw' => (ye (.bool r_6))) ?_
     refine rA [12] ?_
     refine rZ 12 rfl (yT 1 3 (aD b1) 50 (gM_ r_5 B4 c5) (kM_ r_5 B4 c5) 0 hS13 K4) ?_ ?_
     ·rintro _ w_8 ⟨rfl, hS14⟩
      refine ⟨(hS14.se [0]), ?_⟩
      refine rq 13 3 (v := .bool r_6) rfl (hS14.se [0]) (fun w' hw' => (yg (.bool r_6))) ?_
      refine ra_done (by kernel_rfl) ?_
      refine ct_ ?_
      obtain ⟨rfl, rfl⟩ := pr2 (sI hF2)
      exact ret2 Tryz.results22 (v1 := gM_ r_5 B4 c5) (resAt_cellA (B := aD b1) (i := 0) (cs := kM_ r_5 B4 c5) (vs := kM_ r_5 B4 c5) rfl K9 K4 (hS14.c 1) rfl rfl) (v2 := .bool r_6) (resAt_tmp rfl) ⟨B4, c5, rfl, (hS14.sN [3])⟩
     exact aN
    exact aN
   exact aN
  exact aN

theorem c_spec_l1Has (l : List Int) (n1 : Int) (B : Option Addr) (c n : Nat) (w0 : World) (hn : l.length = n) (hS : ST w0 [] w0 [] [⟨B, (l.flatMap encI)⟩]) {r_ : Bool} (hF : F_spec_l1Has l n1 = some r_) :
  CV Tryz.prog 106 #[.slice B n c, vi n1] w0 (fun v w' => v = .bool r_ ∧ ST w0 [] w' [] []) := by
 subst hn
 unfold F_spec_l1Has at hF
 refine cv_of_cw 17 Tryz.func106 rfl Tryz.ntmps106 rfl ?_
 refine cq (cr ?_)
 refine sQ 4 (yg (.bool false)) (rn (cq (cq (cr ?_))))
 refine sQ 7 (ym (.slice B l.length c)) <| sQ 8 (Y_len (B := B) (m := l.length) (c := c) K25 rfl rfl) <| sQ 9 (ym (vi 0)) (rn ?_)
 obtain ⟨hN, hF⟩ := chk_inv hF
 obtain ⟨z, hz, hF1⟩ := bI hF
 refine cw_block ?_
 refine cw_loop (fun k f w => ∃ (i : Nat), FF f [(1, vi n1), (7, .slice B l.length c), (8, vi (l.length : Int)), (9, vi (i : Int))] ∧ ST w0 [] w [] [⟨B, (l.flatMap encI)⟩] ∧ i + k = l.length ∧ forX (F_spec_l1Has_l1 l n1) k i () = some z) l.length ⟨0, (fc rfl (fc rfl (fc rfl (fc rfl fn_)))), (hS.sel [] rfl rfl), Nat.zero_add _, hz⟩ ?_
 rintro k_ f w ⟨i, hf, hS1, hik, hL⟩
 refine cq (cr ?_)
 refine sQ 10 (yL (i : Int) (l.length : Int) rfl (hf.g 9 3) (hf.g 8 2)) (rn (cq ?_))
 refine cw_cond (b := (decide ((i : Int) < (l.length : Int)))) rfl (fun hlt => ?_) (fun hlt => ?_)
 ·skip
  have hlt1 : i < l.length := by have h := of_decide_eq_true hlt; omega
  obtain ⟨K7, rfl⟩ : ∃ k2, k_ = k2 + 1 := ⟨k_ - 1, by omega⟩
  obtain ⟨y, hb, hL1⟩ := forX_go hL
  unfold F_spec_l1Has_l1 at hb
  refine cw_skip (cq (cw_block (cq (cr ?_))))
  obtain ⟨x, hx, hb⟩ := bI hb
  refine sQ 11 (Y_index (B := B) (m := l.length) (c := c) (k := .i64) (i := (i : Int)) K25 K1 rfl (hf.g 7 1) (hf.g 9 3) (gi_isSome encI_len rfl (hS1.rf (i := 0) rfl) hx) (getI_nn hx) (getI_ltI hx rfl)) <| sQ 12 (yl B ((i : Int).toNat * 1) (l.flatMap encI) (vi x) K0 (hS1.rf (i := 0) rfl) rfl rfl (gi_at0 encI_len hx rfl)) <| sQ 6 (yg (vi x)) (rn (cq (cr ?_)))
  refine sQ 13 (ym (vi x)) <| sQ 14 (ym (vi n1) rfl (hf.g 1 0)) <| sQ 15 (yE x n1) (rn ?_)
  refine cw_cond (b := (x == n1)) rfl (fun hb1 => ?_) (fun hb1 => ?_)
  ·skip
   have hF2 := ct hb hb1
   refine cq (cr ?_)
   refine sQ 4 (yg (.bool true)) (rn (ct_ ?_))
   obtain rfl := sI hF2
   obtain rfl := sI hL1
   obtain rfl := sI hF1
   exact ret1 Tryz.results106 (v1 := .bool true) (resAt_tmp rfl) ⟨rfl, (hS1.sN [])⟩
  ·skip
   have hF3 := cf' hb hb1
   refine cw_skip (cr ?_)
   refine sQ 16 (yP (i : Int) 1 rfl (hf.g 9 3)) <| sQ 9 (ym (vi (i64.wrap ((i : Int) + 1)))) (rn ?_)
   obtain rfl := sI hF3
   exact ⟨K7, Nat.lt_succ_self _, i + 1, (fc (hf.g 1 0) (fc (hf.g 7 1) (fc (hf.g 8 2) (fc (congrArg (Value.int .i64) (wr_succ hlt1 hN)) fn_)))), (hS1.sel [] rfl rfl), (by omega), hL1⟩
 ·skip
  obtain rfl : k_ = 0 := by have h := of_decide_eq_false hlt; omega
  refine cw_exit rfl ?_
  obtain rfl := sI hL
  refine cq (cr ?_)
  refine sQ 4 (yg (.bool false)) (rn (ct_ ?_))
  obtain rfl := sI hF1
  exact ret1 Tryz.results106 (v1 := .bool false) (resAt_tmp rfl) ⟨rfl, (hS1.sN [])⟩

theorem c_spec_l3Dim (n : Int)  (w0 : World)  (hS : ST w0 [] w0 [] []) {r_ : Bool} (hF : F_spec_l3Dim n = some r_) :
  CV Tryz.prog 75 #[vi n] w0 (fun v w' => v = .bool r_ ∧ ST w0 [] w' [] []) := by
 unfold F_spec_l3Dim at hF
 refine cv_of_cw 6 Tryz.func75 rfl Tryz.ntmps75 rfl ?_
 refine cq (cr ?_)
 refine sQ 2 (yg (.bool false)) (rn (cq (cr ?_)))
 refine sS 3 (Ys_bslice (s := 1) (len := 6) (vs := [(0, vi 1), (1, vi 2), (2, vi 4), (3, vi 8), (4, vi 16), (5, vi 32)]) (cs := [vi 1, vi 2, vi 4, vi 8, vi 16, vi 32]) (zs := [vi 0, vi 0, vi 0, vi 0, vi 0, vi 0]) (m := 6) hS K25 K1 K53 rfl (mpc rfl (mpc rfl (mpc rfl (mpc rfl (mpc rfl (mpc rfl mpn)))))) rfl rfl rfl (by kernel_rfl) (by kernel_rfl) rfl) ?_
 rintro _ w_ ⟨b, rfl, hS1⟩
 refine sQ 4 (ym (vi n)) ?_
 obtain ⟨r_1, hc, hF⟩ := bI hF
 refine sc 5 rfl rfl (yC [.slice (aD b) 6 6, vi n] k_call_106 (c_spec_l1Has [1, 2, 4, 8, 16, 32] n (aD b) 6 6 _ rfl (hS1.inn0 [(false, 0)] rfl) hc)) ?_
 rintro _ w_1 ⟨rfl, hd⟩
 have hS2 := hS1.out00 hd
 refine sQ 2 (yg (.bool r_1)) (rn (ct_ ?_))
 obtain rfl := sI hF
 exact ret1 Tryz.results75 (v1 := .bool r_1) (resAt_tmp rfl) ⟨rfl, (hS2.sN [])⟩

theorem c_spec_l2Good (x : TDyadic)  (w0 : World)  (hS : ST w0 [] w0 [] []) {r_ : Bool} (hF : F_spec_l2Good x = some r_) :
  CV Tryz.prog 76 #[gD_ x] w0 (fun v w' => v = .bool r_ ∧ ST w0 [] w' [] []) := by
 unfold F_spec_l2Good at hF
 refine cv_of_cw 22 Tryz.func76 rfl Tryz.ntmps76 rfl ?_
 refine cq (cr ?_)
 refine sS 1 (yB 91 (gD_ x) (kD_ x) 5 hS) ?_
 rintro _ w_ ⟨b, rfl, hS1⟩
 refine sQ 2 (yg (.bool false)) (rn (cq (cr ?_)))
 refine sQ 3 (yd (aD b) 0 3 K32 K3) <| sQ 4 (ya (aD b) 0 (kD_ x) (kR_ x.Num) K6 K3 (hS1.c 0)) ?_
 obtain ⟨r_1, hc, hF⟩ := bI hF
 refine sc 5 rfl rfl (yC [gR_ x.Num] k_call_107 (c_spec_l1Good x.Num _  (hS1.inn0 [] rfl) hc)) ?_
 rintro _ w_1 ⟨rfl, hd⟩
 have hS2 := hS1.out00 hd
 refine sQ 6 (ym (.bool r_1)) ?_
 refine sgq 7 (B := r_1) (v := pt (aD b) 4) rfl rfl (uT_ 6) (fun hg => (yd (aD b) 0 0 K29 K1)) ?_
 refine sgq 8 (B := r_1) (v := vi x.Exp) rfl rfl (uT_ 6) (fun hg1 => (yl (aD b) 4 (kD_ x) (vi x.Exp) K0 (hS2.c 0) rfl (gv_of (v := pt (aD b) 4) hg1))) ?_
 obtain ⟨r_2, hc1, hF⟩ := bI hF
 refine sgc 9 (B := r_1) (v := .bool r_2) (F := hS2.fn) rfl rfl (uT_ 6) hS2 (fun hg2 => (yC [vi x.Exp, vi 0, vi 60] K57 (CV.mono (c_spec_l1In x.Exp 0 60 _  (hS2.inn0 [] rfl) (gb_inv hc1 hg2)) (by rintro _ _ ⟨rfl, h⟩; exact ⟨rfl, hS2.out00 h⟩)) rfl (mc (gv_of (v := vi x.Exp) hg2) (mc rfl (mc rfl mn))))) ?_
 rintro w_2 hS3
 refine sQ 10 (Y_and (b := r_1) (z := r_2) rfl rfl rfl rfl) <| sQ 11 (ym (.bool (r_1 && r_2))) ?_
 refine sgq 12 (B := (r_1 && r_2)) (v := pt (aD b) 4) rfl rfl (uT_ 11) (fun hg3 => (yd (aD b) 0 0 K29 K1)) ?_
 refine sgq 13 (B := (r_1 && r_2)) (v := vi x.Exp) rfl rfl (uT_ 11) (fun hg4 => (yl (aD b) 4 (kD_ x) (vi x.Exp) K0 (hS3.c 0) rfl (gv_of (v := pt (aD b) 4) hg4))) ?_
 refine sgq 14 (B := (r_1 && r_2)) (v := .bool (x.Exp == 0)) rfl rfl (uT_ 11) (fun hg5 => (yE x.Exp 0 rfl (gv_of (v := vi x.Exp) hg5))) ?_
 refine sgq 15 (B := (r_1 && r_2)) (v := .bool (x.Exp == 0)) rfl rfl (uT_ 11) (fun hg6 => (ym (.bool (x.Exp == 0)) rfl (gv_of (v := .bool (x.Exp == 0)) hg6))) ?_
 refine sgq 16 (B := ((r_1 && r_2) && (!(x.Exp == 0)))) (v := pt (aD b) 0) rfl rfl (wt_gf (gd_of (t := 15) (by kernel_rfl) rfl)) (fun hg7 => (yd (aD b) 0 3 K32 K3)) ?_
 refine sgq 17 (B := ((r_1 && r_2) && (!(x.Exp == 0)))) (v := gR_ x.Num) rfl rfl (wt_gf (gd_of (t := 15) (by kernel_rfl) rfl)) (fun hg8 => (ya (aD b) 0 (kD_ x) (kR_ x.Num) K6 K3 (hS3.c 0) rfl (gv_of (v := pt (aD b) 0) hg8))) ?_
 obtain ⟨r_3, hc2, hF⟩ := bI hF
 refine sgc 18 (B := ((r_1 && r_2) && (!(x.Exp == 0)))) (v := .bool r_3) (F := hS3.fn) rfl rfl (wt_gf (gd_of (t := 15) (by kernel_rfl) rfl)) hS3 (fun hg9 => (yC [gR_ x.Num] k_call_108 (CV.mono (c_spec_l1Even x.Num _  (hS3.inn0 [] rfl) (gb_inv hc2 hg9)) (by rintro _ _ ⟨rfl, h⟩; exact ⟨rfl, hS3.out00 h⟩)) rfl (mc (gv_of (v := gR_ x.Num) hg9) mn))) ?_
 rintro w_3 hS4
 refine sgq 19 (B := ((r_1 && r_2) && (!(x.Exp == 0)))) (v := .bool (!r_3)) rfl rfl (wt_gf (gd_of (t := 15) (by kernel_rfl) rfl)) (fun hg10 => (Y_not (p := r_3) rfl (gv_of (v := .bool r_3) hg10))) ?_
 refine sgq 20 (B := (r_1 && r_2)) (v := .bool ((x.Exp == 0) || (!r_3))) rfl rfl (uT_ 11) (fun hg11 => (Y_or (b := (x.Exp == 0)) (z := (!r_3)) rfl (gv_of (v := .bool (x.Exp == 0)) hg11) rfl (gv_and (B := (r_1 && r_2)) (C := (!(x.Exp == 0))) (v := .bool (!r_3)) hg11))) ?_
 refine sQ 21 (Y_and (b := (r_1 && r_2)) (z := ((x.Exp == 0) || (!r_3))) rfl rfl rfl rfl) <| sQ 2 (yg (.bool ((r_1 && r_2) && ((x.Exp == 0) || (!r_3))))) (rn (ct_ ?_))
 obtain rfl := sI hF
 exact ret1 Tryz.results76 (v1 := .bool ((r_1 && r_2) && ((x.Exp == 0) || (!r_3)))) (resAt_tmp rfl) ⟨rfl, (hS4.sN [])⟩

theorem c_spec_l3Good (m : TMatrix) (B : Option Addr) (c n : Nat) (w0 : World) (hn : m.Cells.length = n) (hS : ST w0 [] w0 [] [⟨B, (m.Cells.flatMap eN1)⟩]) {r_ : Bool} (hF : F_spec_l3Good m = some r_) :
  CV Tryz.prog 43 #[.agg #[vi m.Rows, vi m.Cols, .slice B n c]] w0 (fun v w' => v = .bool r_ ∧ ST w0 [] w' [] []) := by
 subst hn
 unfold F_spec_l3Good at hF
 refine cv_of_cw 37 Tryz.func43 rfl Tryz.ntmps43 rfl ?_
 refine cq (cr ?_)
 refine sS 1 (yB 50 (gM_ m B c) (kM_ m B c) 3 hS) ?_
 rintro _ w_ ⟨b, rfl, hS1⟩
 refine sQ 2 (yg (.bool false)) (rn (cq (cq (cr ?_))))
 refine sQ 5 (yd (aD b) 0 0 K33 K1) <| sQ 6 (yl (aD b) 0 (kM_ m B c) (vi m.Rows) K0 (hS1.c 0)) ?_
 obtain ⟨r_1, hc, hF⟩ := bI hF
 refine sc 7 rfl rfl (yC [vi m.Rows] k_call_75 (c_spec_l3Dim m.Rows _  (hS1.inn0 [] rfl) hc)) ?_
 rintro _ w_1 ⟨rfl, hd⟩
 have hS2 := hS1.out00 hd
 refine sQ 8 (Y_not (p := r_1) rfl rfl) <| sQ 9 (ym (.bool (!r_1))) ?_
 refine sgq 10 (B := (!(!r_1))) (v := pt (aD b) 1) rfl rfl (uF_ 9) (fun hg => (yd (aD b) 0 0 K36 K1)) ?_
 refine sgq 11 (B := (!(!r_1))) (v := vi m.Cols) rfl rfl (uF_ 9) (fun hg1 => (yl (aD b) 1 (kM_ m B c) (vi m.Cols) K0 (hS2.c 0) rfl (gv_of (v := pt (aD b) 1) hg1))) ?_
 obtain ⟨r_2, hc1, hF⟩ := bI hF
 refine sgc 12 (B := (!(!r_1))) (v := .bool r_2) (F := hS2.fn) rfl rfl (uF_ 9) hS2 (fun hg2 => (yC [vi m.Cols] k_call_75 (CV.mono (c_spec_l3Dim m.Cols _  (hS2.inn0 [] rfl) (gb_inv hc1 hg2)) (by rintro _ _ ⟨rfl, h⟩; exact ⟨rfl, hS2.out00 h⟩)) rfl (mc (gv_of (v := vi m.Cols) hg2) mn))) ?_
 rintro w_2 hS3
 refine sgq 13 (B := (!(!r_1))) (v := .bool (!r_2)) rfl rfl (uF_ 9) (fun hg3 => (Y_not (p := r_2) rfl (gv_of (v := .bool r_2) hg3))) ?_
 refine sQ 14 (Y_or (b := (!r_1)) (z := (!r_2)) rfl rfl rfl rfl) <| sQ 15 (ym (.bool ((!r_1) || (!r_2)))) ?_
 refine sgq 16 (B := (!((!r_1) || (!r_2)))) (v := pt (aD b) 2) rfl rfl (uF_ 15) (fun hg4 => (yd (aD b) 0 0 K28 K24)) ?_
 refine sgq 17 (B := (!((!r_1) || (!r_2)))) (v := .slice B m.Cells.length c) rfl rfl (uF_ 15) (fun hg5 => (yl (aD b) 2 (kM_ m B c) (.slice B m.Cells.length c) K34 (hS3.c 0) rfl (gv_of (v := pt (aD b) 2) hg5))) ?_
 refine sgq 18 (B := (!((!r_1) || (!r_2)))) (v := vi (m.Cells.length : Int)) rfl rfl (uF_ 15) (fun hg6 => (Y_len (B := B) (m := m.Cells.length) (c := c) K21 rfl (gv_of (v := .slice B m.Cells.length c) hg6))) ?_
 refine sgq 19 (B := (!((!r_1) || (!r_2)))) (v := pt (aD b) 0) rfl rfl (uF_ 15) (fun hg7 => (yd (aD b) 0 0 K33 K1)) ?_
 refine sgq 20 (B := (!((!r_1) || (!r_2)))) (v := vi m.Rows) rfl rfl (uF_ 15) (fun hg8 => (yl (aD b) 0 (kM_ m B c) (vi m.Rows) K0 (hS3.c 0) rfl (gv_of (v := pt (aD b) 0) hg8))) ?_
 refine sgq 21 (B := (!((!r_1) || (!r_2)))) (v := pt (aD b) 1) rfl rfl (uF_ 15) (fun hg9 => (yd (aD b) 0 0 K36 K1)) ?_
 refine sgq 22 (B := (!((!r_1) || (!r_2)))) (v := vi m.Cols) rfl rfl (uF_ 15) (fun hg10 => (yl (aD b) 1 (kM_ m B c) (vi m.Cols) K0 (hS3.c 0) rfl (gv_of (v := pt (aD b) 1) hg10))) ?_
 refine sgq 23 (B := (!((!r_1) || (!r_2)))) (v := vi (i64.wrap (m.Rows * m.Cols))) rfl rfl (uF_ 15) (fun hg11 => (yX m.Rows m.Cols rfl (gv_of (v := vi m.Rows) hg11) (gv_of (v := vi m.Cols) hg11))) ?_
 refine sgq 24 (B := (!((!r_1) || (!r_2)))) (v := .bool ((m.Cells.length : Int) != (i64.wrap (m.Rows * m.Cols)))) rfl rfl (uF_ 15) (fun hg12 => (Y_ne (k := .i64) (a := (m.Cells.length : Int)) (b := (i64.wrap (m.Rows * m.Cols))) rfl (gv_of (v := vi (m.Cells.length : Int)) hg12) (gv_of (v := vi (i64.wrap (m.Rows * m.Cols))) hg12))) ?_
 refine sQ 25 (Y_or (b := ((!r_1) || (!r_2))) (z := ((m.Cells.length : Int) != (i64.wrap (m.Rows * m.Cols)))) rfl rfl rfl rfl) (rn ?_)
 refine cw_cond (b := (((!r_1) || (!r_2)) || ((m.Cells.length : Int) != (i64.wrap (m.Rows * m.Cols))))) rfl (fun hb => ?_) (fun hb => ?_)
 ·skip
  have hF1 := ct hF hb
  refine cq (cr ?_)
  refine sQ 2 (yg (.bool false)) (rn (ct_ ?_))
  obtain rfl := sI hF1
  exact ret1 Tryz.results43 (v1 := .bool false) (resAt_tmp rfl) ⟨rfl, (hS3.sN [])⟩
 ·skip
  have hF2 := cf' hF hb
  refine cw_skip (cq (cq (cr ?_)))
  refine sQ 26 (yd (aD b) 0 0 K28 K24) <| sQ 27 (yl (aD b) 2 (kM_ m B c) (.slice B m.Cells.length c) K34 (hS3.c 0)) <| sQ 28 (Y_len (B := B) (m := m.Cells.length) (c := c) K21 rfl rfl) <| sQ 29 (ym (vi 0)) (rn ?_)
  obtain ⟨hN, hF2⟩ := chk_inv hF2
  obtain ⟨z, hz, hF3⟩ := bI hF2
  refine cw_block ?_
  refine cw_loop (fun k f w => ∃ (i : Nat), FF f [(27, .slice B m.Cells.length c), (28, vi (m.Cells.length : Int)), (29, vi (i : Int))] ∧ ST w0 [] w [] [⟨B, (m.Cells.flatMap eN1)⟩] ∧ i + k = m.Cells.length ∧ forX (F_spec_l3Good_l1 m) k i () = some z) m.Cells.length ⟨0, (fc rfl (fc rfl (fc rfl fn_))), (hS3.sel [] rfl rfl), Nat.zero_add _, hz⟩ ?_
  rintro k_ f w ⟨i, hf, hS4, hik, hL⟩
  refine cq (cr ?_)
  refine sQ 30 (yL (i : Int) (m.Cells.length : Int) rfl (hf.g 29 2) (hf.g 28 1)) (rn (cq ?_))
  refine cw_cond (b := (decide ((i : Int) < (m.Cells.length : Int)))) rfl (fun hlt => ?_) (fun hlt => ?_)
  ·skip
   have hlt1 : i < m.Cells.length := by have h := of_decide_eq_true hlt; omega
   obtain ⟨K7, rfl⟩ : ∃ k2, k_ = k2 + 1 := ⟨k_ - 1, by omega⟩
   obtain ⟨y, hb1, hL1⟩ := forX_go hL
   unfold F_spec_l3Good_l1 at hb1
   refine cw_skip (cq (cw_block (cq (cr ?_))))
   obtain ⟨x, hx, hb1⟩ := bI hb1
   refine sQ 31 (Y_index (B := B) (m := m.Cells.length) (c := c) (k := .i64) (i := (i : Int)) K21 K2 rfl (hf.g 27 0) (hf.g 29 2) (gi_isSome enc_Dyadic_len rfl (hS4.rf (i := 0) rfl) hx) (getI_nn hx) (getI_ltI hx rfl)) <| sQ 32 (ya B ((i : Int).toNat * 5) (m.Cells.flatMap eN1) (kD_ x) K5 K2 (hS4.rf (i := 0) rfl) rfl rfl (enc_Dyadic_len x) (gi_seg enc_Dyadic_len hx)) ?_
   refine sS 4 (yN kZ_ 5 hS4 K8) ?_
   rintro _ w_3 ⟨b1, rfl, hS5⟩
   refine s0 (yT 0 5 (aD b1) 91 (gD_ x) (kD_ x) 0 hS5 K2) ?_
   rintro _ w_4 ⟨rfl, hS6⟩
   refine rn (cq (cr ?_))
   refine sQ 33 (yb (aD b1) 0 (kD_ x) K5 K2 (hS6.c 0)) ?_
   obtain ⟨r_3, hc2, hb1⟩ := bI hb1
   refine sc 34 rfl rfl (yC [gD_ x] k_call_76 (c_spec_l2Good x _  (hS6.inn0 [] rfl) hc2)) ?_
   rintro _ w_5 ⟨rfl, hd1⟩
   have hS7 := hS6.out00 hd1
   refine sQ 35 (Y_not (p := r_3) rfl rfl) (rn ?_)
   refine cw_cond (b := (!r_3)) rfl (fun hb2 => ?_) (fun hb2 => ?_)
   ·skip
    have hF4 := ct hb1 hb2
    refine cq (cr ?_)
    refine sQ 2 (yg (.bool false)) (rn (ct_ ?_))
    obtain rfl := sI hF4
    obtain rfl := sI hL1
    obtain rfl := sI hF3
    exact ret1 Tryz.results43 (v1 := .bool false) (resAt_tmp rfl) ⟨rfl, (hS7.sN [])⟩
   ·skip
    have hF5 := cf' hb1 hb2
    refine cw_skip (cr ?_)
    refine sQ 36 (yP (i : Int) 1 rfl (hf.g 29 2)) <| sQ 29 (ym (vi (i64.wrap ((i : Int) + 1)))) (rn ?_)
    obtain rfl := sI hF5
    exact ⟨K7, Nat.lt_succ_self _, i + 1, (fc (hf.g 27 0) (fc (hf.g 28 1) (fc (congrArg (Value.int .i64) (wr_succ hlt1 hN)) fn_))), (hS7.sel [] rfl rfl), (by omega), hL1⟩
  ·skip
   obtain rfl : k_ = 0 := by have h := of_decide_eq_false hlt; omega
   refine cw_exit rfl ?_
   obtain rfl := sI hL
   refine cq (cr ?_)
   refine sQ 2 (yg (.bool true)) (rn (ct_ ?_))
   obtain rfl := sI hF3
   exact ret1 Tryz.results43 (v1 := .bool true) (resAt_tmp rfl) ⟨rfl, (hS4.sN [])⟩

theorem c_spec_l28Gates (n : Int)  (w0 : World)  (hS : ST w0 [] w0 [] []) {r_ : List TGate} (hF : F_spec_l28Gates n = some r_) :
  CV Tryz.prog 29 #[vi n] w0 (fun v w' => ∃ (B : Option Addr) (c : Nat), v = .slice B r_.length c ∧ ST w0 [] w' [⟨B, 56, (r_.flatMap eN0), c * 3⟩] []) := by
 unfold F_spec_l28Gates at hF
 refine cv_of_cw 18 Tryz.func29 rfl Tryz.ntmps29 rfl ?_
 refine cq (cr ?_)
 refine sQ 2 (yg (.slice none 0 0)) (rn (cq (cq (cr ?_))))
 refine sQ 3 (ym (vi n)) <| sQ 4 (yE n 1) (rn ?_)
 refine cw_cond (b := (n == 1)) rfl (fun hb => ?_) (fun hb => ?_)
 ·skip
  have hF1 := ct hF hb
  refine cq (cr ?_)
  refine sQ 5 (Y_buildS (zs := [vi 0, vi 0, vi 0]) (vs := [(0, vi 1)]) (cs := [vi 1, vi 0, vi 0]) K45 K20 rfl (mpc rfl mpn) rfl) <| sQ 6 (Y_buildS (zs := [vi 0, vi 0, vi 0]) (vs := [(0, vi 5)]) (cs := [vi 5, vi 0, vi 0]) K45 K20 rfl (mpc rfl mpn) rfl) <| sQ 7 (Y_buildS (zs := [vi 0, vi 0, vi 0]) (vs := [(0, vi 7)]) (cs := [vi 7, vi 0, vi 0]) K45 K20 rfl (mpc rfl mpn) rfl) ?_
  refine sS 8 (Ys_bslice (s := 3) (len := 3) (vs := [(0, .agg #[vi 1, vi 0, vi 0]), (1, .agg #[vi 5, vi 0, vi 0]), (2, .agg #[vi 7, vi 0, vi 0])]) (cs := [vi 1, vi 0, vi 0, vi 5, vi 0, vi 0, vi 7, vi 0, vi 0]) (zs := [vi 0, vi 0, vi 0, vi 0, vi 0, vi 0, vi 0, vi 0, vi 0]) (m := 9) hS K11 K10 K52 rfl (mpc rfl (mpc rfl (mpc rfl mpn))) rfl rfl rfl (by kernel_rfl) (by kernel_rfl) rfl) ?_
  rintro _ w_ ⟨b, rfl, hS1⟩
  refine sQ 2 (yg (.slice (aD b) 3 3)) (rn (ct_ ?_))
  obtain rfl := sI hF1
  exact ret1 Tryz.results29 (v1 := .slice (aD b) 3 3) (resAt_tmp rfl) ⟨aD b, 3, rfl, (hS1.sN [0])⟩
 ·skip
  have hF2 := cf' hF hb
  refine cw_skip (cq (cr ?_))
  refine sQ 9 (Y_buildS (zs := [vi 0, vi 0, vi 0]) (vs := [(0, vi 1)]) (cs := [vi 1, vi 0, vi 0]) K45 K20 rfl (mpc rfl mpn) rfl) <| sQ 10 (Y_buildS (zs := [vi 0, vi 0, vi 0]) (vs := [(0, vi 1), (1, vi 1)]) (cs := [vi 1, vi 1, vi 0]) K45 K20 rfl (mpc rfl (mpc rfl mpn)) rfl) <| sQ 11 (Y_buildS (zs := [vi 0, vi 0, vi 0]) (vs := [(0, vi 5)]) (cs := [vi 5, vi 0, vi 0]) K45 K20 rfl (mpc rfl mpn) rfl) <| sQ 12 (Y_buildS (zs := [vi 0, vi 0, vi 0]) (vs := [(0, vi 5), (1, vi 1)]) (cs := [vi 5, vi 1, vi 0]) K45 K20 rfl (mpc rfl (mpc rfl mpn)) rfl) <| sQ 13 (Y_buildS (zs := [vi 0, vi 0, vi 0]) (vs := [(0, vi 7)]) (cs := [vi 7, vi 0, vi 0]) K45 K20 rfl (mpc rfl mpn) rfl) <| sQ 14 (Y_buildS (zs := [vi 0, vi 0, vi 0]) (vs := [(0, vi 7), (1, vi 1)]) (cs := [vi 7, vi 1, vi 0]) K45 K20 rfl (mpc rfl (mpc rfl mpn)) rfl) ?_
  refine sQ 15 (Y_buildS (zs := [vi 0, vi 0, vi 0]) (vs := [(0, vi 9), (2, vi 1)]) (cs := [vi 9, vi 0, vi 1]) K45 K20 rfl (mpc rfl (mpc rfl mpn)) rfl) <| sQ 16 (Y_buildS (zs := [vi 0, vi 0, vi 0]) (vs := [(0, vi 9), (1, vi 1)]) (cs := [vi 9, vi 1, vi 0]) K45 K20 rfl (mpc rfl (mpc rfl mpn)) rfl) ?_
  refine sS 17 (Ys_bslice (s := 3) (len := 8) (vs := [(0, .agg #[vi 1, vi 0, vi 0]), (1, .agg #[vi 1, vi 1, vi 0]), (2, .agg #[vi 5, vi 0, vi 0]), (3, .agg #[vi 5, vi 1, vi 0]), (4, .agg #[vi 7, vi 0, vi 0]), (5, .agg #[vi 7, vi 1, vi 0]), (6, .agg #[vi 9, vi 0, vi 1]), (7, .agg #[vi 9, vi 1, vi 0])]) (cs := [vi 1, vi 0, vi 0, vi 1, vi 1, vi 0, vi 5, vi 0, vi 0, vi 5, vi 1, vi 0, vi 7, vi 0, vi 0, vi 7, vi 1, vi 0, vi 9, vi 0, vi 1, vi 9, vi 1, vi 0]) (zs := [vi 0, vi 0, vi 0, vi 0, vi 0, vi 0, vi 0, vi 0, vi 0, vi 0, vi 0, vi 0, vi 0, vi 0, vi 0, vi 0, vi 0, vi 0, vi 0, vi 0, vi 0, vi 0, vi 0, vi 0]) (m := 24) hS K11 K10 K52 rfl (mpc rfl (mpc rfl (mpc rfl (mpc rfl (mpc rfl (mpc rfl (mpc rfl (mpc rfl mpn)))))))) rfl rfl rfl (by kernel_rfl) (by kernel_rfl) rfl) ?_
  rintro _ w_1 ⟨b1, rfl, hS2⟩
  refine sQ 2 (yg (.slice (aD b1) 8 8)) (rn (ct_ ?_))
  obtain rfl := sI hF2
  exact ret1 Tryz.results29 (v1 := .slice (aD b1) 8 8) (resAt_tmp rfl) ⟨aD b1, 8, rfl, (hS2.sN [0])⟩

theorem c_spec_l6Turned (a : TMatrix) (b : TMatrix) (k_ : Int) (B : Option Addr) (c n : Nat) (B1 : Option Addr) (c1 n1 : Nat) (w0 : World) (hn : a.Cells.length = n) (hn1 : b.Cells.length = n1) (hS : ST w0 [] w0 [] [⟨B, (a.Cells.flatMap eN1)⟩, ⟨B1, (b.Cells.flatMap eN1)⟩]) {r_ : Bool} (hF : F_spec_l6Turned a b k_ = some r_) :
  CV Tryz.prog 125 #[.agg #[vi a.Rows, vi a.Cols, .slice B n c], .agg #[vi b.Rows, vi b.Cols, .slice B1 n1 c1], vi k_] w0 (fun v w' => v = .bool r_ ∧ ST w0 [] w' [] []) := by
 subst hn
 subst hn1
 unfold F_spec_l6Turned at hF
 refine cv_of_cw 42 Tryz.func125 rfl Tryz.ntmps125 rfl ?_
 refine cq (cr ?_)
 refine sS 3 (yB 50 (gM_ a B c) (kM_ a B c) 3 hS) ?_
 rintro _ w_ ⟨b1, rfl, hS1⟩
 refine sS 4 (yB 50 (gM_ b B1 c1) (kM_ b B1 c1) 3 hS1) ?_
 rintro _ w_1 ⟨b2, rfl, hS2⟩
 refine sQ 6 (yg (.bool false)) (rn (cq (cq (cr ?_))))
 refine sQ 9 (yd (aD b1) 0 0 K33 K1) <| sQ 10 (yl (aD b1) 0 (kM_ a B c) (vi a.Rows) K0 (hS2.c 0)) <| sQ 11 (yd (aD b2) 0 0 K33 K1) <| sQ 12 (yl (aD b2) 0 (kM_ b B1 c1) (vi b.Rows) K0 (hS2.c 1)) <| sQ 13 (Y_ne (k := .i64) (a := a.Rows) (b := b.Rows) rfl rfl rfl) <| sQ 14 (ym (.bool (a.Rows != b.Rows))) ?_
 refine sgq 15 (B := (!(a.Rows != b.Rows))) (v := pt (aD b1) 1) rfl rfl (uF_ 14) (fun hg => (yd (aD b1) 0 0 K36 K1)) ?_
 refine sgq 16 (B := (!(a.Rows != b.Rows))) (v := vi a.Cols) rfl rfl (uF_ 14) (fun hg1 => (yl (aD b1) 1 (kM_ a B c) (vi a.Cols) K0 (hS2.c 0) rfl (gv_of (v := pt (aD b1) 1) hg1))) ?_
 refine sgq 17 (B := (!(a.Rows != b.Rows))) (v := pt (aD b2) 1) rfl rfl (uF_ 14) (fun hg2 => (yd (aD b2) 0 0 K36 K1)) ?_
 refine sgq 18 (B := (!(a.Rows != b.Rows))) (v := vi b.Cols) rfl rfl (uF_ 14) (fun hg3 => (yl (aD b2) 1 (kM_ b B1 c1) (vi b.Cols) K0 (hS2.c 1) rfl (gv_of (v := pt (aD b2) 1) hg3))) ?_
 refine sgq 19 (B := (!(a.Rows != b.Rows))) (v := .bool (a.Cols != b.Cols)) rfl rfl (uF_ 14) (fun hg4 => (Y_ne (k := .i64) (a := a.Cols) (b := b.Cols) rfl (gv_of (v := vi a.Cols) hg4) (gv_of (v := vi b.Cols) hg4))) ?_
 refine sQ 20 (Y_or (b := (a.Rows != b.Rows)) (z := (a.Cols != b.Cols)) rfl rfl rfl rfl) (rn ?_)
 refine cw_cond (b := ((a.Rows != b.Rows) || (a.Cols != b.Cols))) rfl (fun hb => ?_) (fun hb => ?_)
 ·skip
  have hF1 := ct hF hb
  refine cq (cr ?_)
  refine sQ 6 (yg (.bool false)) (rn (ct_ ?_))
  obtain rfl := sI hF1
  exact ret1 Tryz.results125 (v1 := .bool false) (resAt_tmp rfl) ⟨rfl, (hS2.sN [])⟩
 ·skip
  have hF2 := cf' hF hb
  refine cw_skip (cq (cq (cr ?_)))
  refine sQ 21 (yd (aD b2) 0 0 K28 K24) <| sQ 22 (yl (aD b2) 2 (kM_ b B1 c1) (.slice B1 b.Cells.length c1) K34 (hS2.c 1)) <| sQ 23 (Y_len (B := B1) (m := b.Cells.length) (c := c1) K21 rfl rfl) <| sQ 24 (ym (vi 0)) (rn ?_)
  obtain ⟨hN, hF2⟩ := chk_inv hF2
  obtain ⟨z, hz, hF3⟩ := bI hF2
  refine cw_block ?_
  refine cw_loop (fun k f w => ∃ (i : Nat), FF f [(2, vi k_), (3, pt (aD b1) 0), (22, .slice B1 b.Cells.length c1), (23, vi (b.Cells.length : Int)), (24, vi (i : Int))] ∧ ST w0 [] w [⟨aD b1, 50, kM_ a B c, 3⟩] [⟨B, (a.Cells.flatMap eN1)⟩, ⟨B1, (b.Cells.flatMap eN1)⟩] ∧ i + k = b.Cells.length ∧ forX (F_spec_l6Turned_l1 b k_ a) k i () = some z) b.Cells.length ⟨0, (fc rfl (fc rfl (fc rfl (fc rfl (fc rfl fn_))))), (hS2.sel [0] rfl rfl), Nat.zero_add _, hz⟩ ?_
  rintro K7 f w ⟨i, hf, hS3, hik, hL⟩
  refine cq (cr ?_)
  refine sQ 25 (yL (i : Int) (b.Cells.length : Int) rfl (hf.g 24 4) (hf.g 23 3)) (rn (cq ?_))
  refine cw_cond (b := (decide ((i : Int) < (b.Cells.length : Int)))) rfl (fun hlt => ?_) (fun hlt => ?_)
  ·skip
   have hlt1 : i < b.Cells.length := by have h := of_decide_eq_true hlt; omega
   obtain ⟨K23, rfl⟩ : ∃ k2, K7 = k2 + 1 := ⟨K7 - 1, by omega⟩
   obtain ⟨y, hb1, hL1⟩ := forX_go hL
   unfold F_spec_l6Turned_l1 at hb1
   refine cw_skip (cq (cw_block (cq (cr ?_))))
   refine sQ 26 (ym (vi (i : Int)) rfl (hf.g 24 4)) ?_
   obtain ⟨x, hx, hb1⟩ := bI hb1
   refine sQ 27 (Y_index (B := B1) (m := b.Cells.length) (c := c1) (k := .i64) (i := (i : Int)) K21 K2 rfl (hf.g 22 2) (hf.g 24 4) (gi_isSome enc_Dyadic_len rfl (hS3.rf (i := 1) rfl) hx) (getI_nn hx) (getI_ltI hx rfl)) <| sQ 28 (ya B1 ((i : Int).toNat * 5) (b.Cells.flatMap eN1) (kD_ x) K5 K2 (hS3.rf (i := 1) rfl) rfl rfl (enc_Dyadic_len x) (gi_seg enc_Dyadic_len hx)) ?_
   refine sS 8 (yN kZ_ 5 hS3 K8) ?_
   rintro _ w_2 ⟨b3, rfl, hS4⟩
   refine sQ 7 (yg (vi (i : Int))) ?_
   refine s0 (yT 1 5 (aD b3) 91 (gD_ x) (kD_ x) 0 hS4 K2) ?_
   rintro _ w_3 ⟨rfl, hS5⟩
   refine rn (cq (cr ?_))
   refine sQ 29 (yd (aD b3) 0 3 K32 K3) <| sQ 30 (ya (aD b3) 0 (kD_ x) (kR_ x.Num) K6 K3 (hS5.c 1)) <| sQ 31 (ym (vi k_) rfl (hf.g 2 0)) ?_
   obtain ⟨r_1, hc, hb1⟩ := bI hb1
   refine sc 32 rfl rfl (yC [gR_ x.Num, vi k_] k_call_50 (c_spec_l1Turn x.Num k_ _  (hS5.inn0 [] rfl) hc)) ?_
   rintro _ w_4 ⟨rfl, hd⟩
   have hS6 := hS5.out00 hd
   refine sQ 33 (yd (aD b3) 0 3 K32 K3) ?_
   refine s0 (yS 1 4 (aD b3) 91 (gR_ r_1) (kR_ r_1) 0 [vi r_1.A, vi r_1.B, vi r_1.C, vi r_1.D, vi x.Exp] hS6 K3) ?_
   rintro _ w_5 ⟨rfl, hS7⟩
   refine rn (cq ?_)
   obtain ⟨x1, hx1, hb1⟩ := bI hb1
   refine ra_start (hS7.se [0, 1]).fn (by kernel_rfl) ?_
   have hS8 := hS7.drew
   refine rq 0 34 (v := pt (aD b1) 2) rfl (hS8.se [0, 1]) (fun w' hw' => (yd (aD b1) 0 0 K28 K24 rfl (hf.g 3 1))) ?_
   refine rq 1 35 (v := .slice B a.Cells.length c) rfl (hS8.se [0, 1]) (fun w' hw' => (yl (aD b1) 2 (kM_ a B c) (.slice B a.Cells.length c) K34 (ST.cf hw' (i := 0) rfl))) ?_
   refine rq 2 36 (v := vi (i : Int)) rfl (hS8.se [0, 1]) (fun w' hw' => (ym (vi (i : Int)))) ?_
   refine rq 3 37 (v := pt B ((i : Int).toNat * 5)) rfl (hS8.se [0, 1]) (fun w' hw' => (Y_index (B := B) (m := a.Cells.length) (c := c) (k := .i64) (i := (i : Int)) K21 K2 rfl rfl rfl (gi_isSome enc_Dyadic_len rfl (ST.rf hw' (i := 0) rfl) hx1) (getI_nn hx1) (getI_ltI hx1 rfl))) ?_
   refine rq 4 38 (v := gD_ x1) rfl (hS8.se [0, 1]) (fun w' hw' => (ya B ((i : Int).toNat * 5) (a.Cells.flatMap eN1) (kD_ x1) K5 K2 (ST.rf hw' (i := 0) rfl) rfl rfl (enc_Dyadic_len x1) (gi_seg enc_Dyadic_len hx1))) ?_
   refine rq 5 39 (v := .agg #[vi r_1.A, vi r_1.B, vi r_1.C, vi r_1.D, vi x.Exp]) rfl (hS8.se [0, 1]) (fun w' hw' => (yb (aD b3) 0 [vi r_1.A, vi r_1.B, vi r_1.C, vi r_1.D, vi x.Exp] K5 K2 (ST.cf hw' (i := 1) rfl))) ?_
   refine ra_q 6 40 (v := .bool (!(((x1.Num.A == r_1.A) && ((x1.Num.B == r_1.B) && ((x1.Num.C == r_1.C) && ((x1.Num.D == r_1.D) && true)))) && ((x1.Exp == x.Exp) && true)))) rfl rfl rfl (by kernel_rfl) (by kernel_rfl) (by kernel_rfl) (hS8.se [0, 1]) (fun w' hw' => (Y_neA (xs := #[vi x1.Num.A, vi x1.Num.B, vi x1.Num.C, vi x1.Num.D, vi x1.Exp]) (ys := #[vi r_1.A, vi r_1.B, vi r_1.C, vi r_1.D, vi x.Exp]) (b := (((x1.Num.A == r_1.A) && ((x1.Num.B == r_1.B) && ((x1.Num.C == r_1.C) && ((x1.Num.D == r_1.D) && true)))) && ((x1.Exp == x.Exp) && true))) k_eg_91 rfl rfl rfl (eqr_struct (xs := kD_ x1) (ys := [vi r_1.A, vi r_1.B, vi r_1.C, vi r_1.D, vi x.Exp]) k_st_91 k_ho_91 (pts_ag (us := kR_ x1.Num) (vs := kR_ r_1) K6 K3 rfl rfl (eqr_struct (xs := kR_ x1.Num) (ys := kR_ r_1) k_st_89 k_ho_89 (pts_sc K0 rfl rfl (eqr_int K41) (pts_sc K0 rfl rfl (eqr_int K41) (pts_sc K0 rfl rfl (eqr_int K41) (pts_sc K0 rfl rfl (eqr_int K41) pts_nil))))) (pts_sc K0 rfl rfl (eqr_int K41) pts_nil))))) ?_
   refine ra_done (by kernel_rfl) ?_
   refine cw_cond (b := (!(((x1.Num.A == r_1.A) && ((x1.Num.B == r_1.B) && ((x1.Num.C == r_1.C) && ((x1.Num.D == r_1.D) && true)))) && ((x1.Exp == x.Exp) && true)))) rfl (fun hb2 => ?_) (fun hb2 => ?_)
   ·skip
    have hF4 := ct hb1 hb2
    refine cq (cr ?_)
    refine sQ 6 (yg (.bool false)) (rn (ct_ ?_))
    obtain rfl := sI hF4
    obtain rfl := sI hL1
    obtain rfl := sI hF3
    exact ret1 Tryz.results125 (v1 := .bool false) (resAt_tmp rfl) ⟨rfl, (hS8.sN [])⟩
   ·skip
    have hF5 := cf' hb1 hb2
    refine cw_skip (cr ?_)
    refine sQ 41 (yP (i : Int) 1 rfl (hf.g 24 4)) <| sQ 24 (ym (vi (i64.wrap ((i : Int) + 1)))) (rn ?_)
    obtain rfl := sI hF5
    exact ⟨K23, Nat.lt_succ_self _, i + 1, (fc (hf.g 2 0) (fc (hf.g 3 1) (fc (hf.g 22 2) (fc (hf.g 23 3) (fc (congrArg (Value.int .i64) (wr_succ hlt1 hN)) fn_))))), (hS8.sel [0] rfl rfl), (by omega), hL1⟩
  ·skip
   obtain rfl : K7 = 0 := by have h := of_decide_eq_false hlt; omega
   refine cw_exit rfl ?_
   obtain rfl := sI hL
   refine cq (cr ?_)
   refine sQ 6 (yg (.bool true)) (rn (ct_ ?_))
   obtain rfl := sI hF3
   exact ret1 Tryz.results125 (v1 := .bool true) (resAt_tmp rfl) ⟨rfl, (hS3.sN [])⟩

theorem c_spec_l6Phase (a : TMatrix) (b : TMatrix) (B : Option Addr) (c n : Nat) (B1 : Option Addr) (c1 n1 : Nat) (w0 : World) (hn : a.Cells.length = n) (hn1 : b.Cells.length = n1) (hS : ST w0 [] w0 [] [⟨B, (a.Cells.flatMap eN1)⟩, ⟨B1, (b.Cells.flatMap eN1)⟩]) {r_ : Int} {r_1 : Bool} (hF : F_spec_l6Phase a b = some (r_, r_1)) :
  CV Tryz.prog 109 #[.agg #[vi a.Rows, vi a.Cols, .slice B n c], .agg #[vi b.Rows, vi b.Cols, .slice B1 n1 c1]] w0 (fun v w' => v = .tuple #[vi r_, .bool r_1] ∧ ST w0 [] w' [] []) := by
 subst hn
 subst hn1
 unfold F_spec_l6Phase at hF
 refine cv_of_cw 16 Tryz.func109 rfl Tryz.ntmps109 rfl ?_
 refine cq (cr ?_)
 refine sS 2 (yB 50 (gM_ a B c) (kM_ a B c) 3 hS) ?_
 rintro _ w_ ⟨b1, rfl, hS1⟩
 refine sS 3 (yB 50 (gM_ b B1 c1) (kM_ b B1 c1) 3 hS1) ?_
 rintro _ w_1 ⟨b2, rfl, hS2⟩
 refine sQ 4 (yg (vi 0)) <| sQ 5 (yg (.bool false)) (rn (cq (cq (cr ?_))))
 refine sQ 6 (yg (vi 0)) (rn ?_)
 obtain ⟨z, hz, hF1⟩ := bI hF
 refine cw_block ?_
 refine cw_loop (fun k f w => ∃ (k_ : Nat), FF f [(2, pt (aD b1) 0), (3, pt (aD b2) 0), (6, vi (k_ : Int))] ∧ ST w0 [] w [⟨aD b1, 50, kM_ a B c, 3⟩, ⟨aD b2, 50, kM_ b B1 c1, 3⟩] [⟨B, (a.Cells.flatMap eN1)⟩, ⟨B1, (b.Cells.flatMap eN1)⟩] ∧ k_ + k = 8 ∧ forX (F_spec_l6Phase_l1 a b) k k_ () = some z) 8 ⟨0, (fc rfl (fc rfl (fc rfl fn_))), (hS2.sel [0, 1] rfl rfl), Nat.zero_add _, hz⟩ ?_
 rintro K7 f w ⟨k_, hf, hS3, hik, hL⟩
 refine cq (cq (cr ?_))
 refine sQ 7 (ym (vi (k_ : Int)) rfl (hf.g 6 2)) <| sQ 8 (yL (k_ : Int) 8) (rn ?_)
 refine cw_cond (b := (decide ((k_ : Int) < 8))) rfl (fun hlt => ?_) (fun hlt => ?_)
 ·skip
  have hlt1 : k_ < 8 := by have h := of_decide_eq_true hlt; omega
  obtain ⟨K23, rfl⟩ : ∃ k2, K7 = k2 + 1 := ⟨K7 - 1, by omega⟩
  obtain ⟨y, hb, hL1⟩ := forX_go hL
  unfold F_spec_l6Phase_l1 at hb
  refine cw_skip (cq (cw_block (cq (cr ?_))))
  refine sQ 11 (yb (aD b1) 0 (kM_ a B c) K9 K4 (hS3.c 0) rfl (hf.g 2 0)) <| sQ 12 (yb (aD b2) 0 (kM_ b B1 c1) K9 K4 (hS3.c 1) rfl (hf.g 3 1)) <| sQ 13 (ym (vi (k_ : Int)) rfl (hf.g 6 2)) ?_
  obtain ⟨r_2, hc, hb⟩ := bI hb
  refine sc 14 rfl rfl (yC [gM_ a B c, gM_ b B1 c1, vi (k_ : Int)] k_call_125 (c_spec_l6Turned a b (k_ : Int) B c a.Cells.length B1 c1 b.Cells.length _ rfl rfl (hS3.inn0 [(true, 0), (true, 1)] rfl) hc)) ?_
  rintro _ w_2 ⟨rfl, hd⟩
  have hS4 := hS3.out00 hd
  refine rn ?_
  refine cw_cond (b := r_2) rfl (fun hb1 => ?_) (fun hb1 => ?_)
  ·skip
   have hF2 := ct hb hb1
   refine cq (cr ?_)
   refine sQ 15 (ym (vi (k_ : Int)) rfl (hf.g 6 2)) <| sQ 4 (yg (vi (k_ : Int))) <| sQ 5 (yg (.bool true)) (rn (ct_ ?_))
   obtain rfl := sI hF2
   obtain rfl := sI hL1
   obtain ⟨rfl, rfl⟩ := pr2 (sI hF1)
   exact ret2 Tryz.results109 (v1 := vi (k_ : Int)) (resAt_tmp rfl) (v2 := .bool true) (resAt_tmp rfl) ⟨rfl, (hS4.sN [])⟩
  ·skip
   have hF3 := cf' hb hb1
   refine cw_skip (cr ?_)
   refine sQ 9 (ym (vi (k_ : Int)) rfl (hf.g 6 2)) <| sQ 10 (yP (k_ : Int) 1) <| sQ 6 (yg (vi (i64.wrap ((k_ : Int) + 1)))) (rn ?_)
   obtain rfl := sI hF3
   exact ⟨K23, Nat.lt_succ_self _, k_ + 1, (fc (hf.g 2 0) (fc (hf.g 3 1) (fc (congrArg (Value.int .i64) (wr_succ hlt1 (show 8 ≤ 9223372036854775807 by decide))) fn_))), (hS4.sel [0, 1] rfl rfl), (by omega), hL1⟩
 ·skip
  obtain rfl : K7 = 0 := by have h := of_decide_eq_false hlt; omega
  refine cw_exit rfl ?_
  obtain rfl := sI hL
  refine cq (cr ?_)
  refine sQ 4 (yg (vi 0)) <| sQ 5 (yg (.bool false)) (rn (ct_ ?_))
  obtain ⟨rfl, rfl⟩ := pr2 (sI hF1)
  exact ret2 Tryz.results109 (v1 := vi 0) (resAt_tmp rfl) (v2 := .bool false) (resAt_tmp rfl) ⟨rfl, (hS3.sN [])⟩

theorem c_spec_l28Find_B (rec_ : Int → TMatrix → TMatrix → Int → Option (List TGate × Bool)) (hrec_ : ∀ (n : Int) (x : TMatrix) (m : TMatrix) (length : Int) (B : Option Addr) (c n1 : Nat) (B1 : Option Addr) (c1 n2 : Nat) (w0 : World) (hn : x.Cells.length = n1) (hn1 : m.Cells.length = n2) (hS : ST w0 [] w0 [] [⟨B, (x.Cells.flatMap eN1)⟩, ⟨B1, (m.Cells.flatMap eN1)⟩]) {r_ : List TGate} {r_1 : Bool} (hF : rec_ n x m length = some (r_, r_1)), CV Tryz.prog 77 #[vi n, .agg #[vi x.Rows, vi x.Cols, .slice B n1 c], .agg #[vi m.Rows, vi m.Cols, .slice B1 n2 c1], vi length] w0 (fun v w' => ∃ (B2 : Option Addr) (c2 : Nat), v = .tuple #[.slice B2 r_.length c2, .bool r_1] ∧ ST w0 [] w' [⟨B2, 56, (r_.flatMap eN0), c2 * 3⟩] [])) (n : Int) (x : TMatrix) (m : TMatrix) (length : Int) (B : Option Addr) (c n1 : Nat) (B1 : Option Addr) (c1 n2 : Nat) (w0 : World) (hn : x.Cells.length = n1) (hn1 : m.Cells.length = n2) (hS : ST w0 [] w0 [] [⟨B, (x.Cells.flatMap eN1)⟩, ⟨B1, (m.Cells.flatMap eN1)⟩]) {r_ : List TGate} {r_1 : Bool} (hF : F_spec_l28FindB rec_ n x m length = some (r_, r_1)) :
  CV Tryz.prog 77 #[vi n, .agg #[vi x.Rows, vi x.Cols, .slice B n1 c], .agg #[vi m.Rows, vi m.Cols, .slice B1 n2 c1], vi length] w0 (fun v w' => ∃ (B2 : Option Addr) (c2 : Nat), v = .tuple #[.slice B2 r_.length c2, .bool r_1] ∧ ST w0 [] w' [⟨B2, 56, (r_.flatMap eN0), c2 * 3⟩] []) := by
 subst hn
 subst hn1
 unfold F_spec_l28FindB at hF
 refine cv_of_cw 55 Tryz.func77 rfl Tryz.ntmps77 rfl ?_
 refine cq (cr ?_)
 refine sS 5 (yB 50 (gM_ x B c) (kM_ x B c) 3 hS) ?_
 rintro _ w_ ⟨b, rfl, hS1⟩
 refine sS 6 (yB 50 (gM_ m B1 c1) (kM_ m B1 c1) 3 hS1) ?_
 rintro _ w_1 ⟨b1, rfl, hS2⟩
 refine sQ 8 (yg (.slice none 0 0)) <| sQ 9 (yg (.bool false)) (rn (cq (cq (cr ?_))))
 refine sQ 17 (ym (vi length)) <| sQ 18 (yE length 0) (rn ?_)
 refine cw_cond (b := (length == 0)) rfl (fun hb => ?_) (fun hb => ?_)
 ·skip
  have hF1 := ct hF hb
  refine cq (cr ?_)
  refine sQ 20 (yb (aD b) 0 (kM_ x B c) K9 K4 (hS2.c 0)) <| sQ 21 (yb (aD b1) 0 (kM_ m B1 c1) K9 K4 (hS2.c 1)) ?_
  obtain ⟨⟨r_2, r_3⟩, hc, hF1⟩ := bI hF1
  refine sc 22 rfl rfl (yC [gM_ x B c, gM_ m B1 c1] k_call_109 (c_spec_l6Phase x m B c x.Cells.length B1 c1 m.Cells.length _ rfl rfl (hS2.inn0 [(true, 0), (true, 1)] rfl) hc)) ?_
  rintro _ w_2 ⟨rfl, hd⟩
  have hS3 := hS2.out00 hd
  refine sQ 19 (ym (.tuple #[vi r_2, .bool r_3])) <| sQ 23 (ye (vi r_2)) <| sQ 24 (ye (.bool r_3)) <| sQ 10 (yg (vi r_2)) <| sQ 11 (yg (.bool r_3)) (rn (cq (cr ?_)))
  refine sQ 25 (ym (.bool r_3)) <| sQ 8 (yg (.slice none 0 0)) <| sQ 9 (yg (.bool r_3)) (rn (ct_ ?_))
  have hS4 := hS3.addNil 56
  obtain ⟨rfl, rfl⟩ := pr2 (sI hF1)
  exact ret2 Tryz.results77 (v1 := .slice none 0 0) (resAt_tmp rfl) (v2 := .bool r_3) (resAt_tmp rfl) ⟨none, 0, rfl, (hS4.sN [2])⟩
 ·skip
  have hF2 := cf' hF hb
  refine cw_skip (cq (cr ?_))
  refine sQ 26 (Y_buildS (zs := [.bool false]) (vs := []) (cs := [.bool false]) k_pl_65 k_zero_65 rfl mpn rfl) ?_
  refine sS 27 (yB 65 (.agg #[.bool false]) [.bool false] 1 hS2) ?_
  rintro _ w_3 ⟨b2, rfl, hS5⟩
  refine sQ 12 (yg (pt (aD b2) 0)) (rn (cq (cq (cr ?_))))
  refine sQ 28 (ym (vi n)) ?_
  obtain ⟨r_4, hc1, hF2⟩ := bI hF2
  refine sc 29 rfl rfl (yC [vi n] k_call_29 (c_spec_l28Gates n _  (hS5.inn0 [] rfl) hc1)) ?_
  rintro _ w_4 ⟨B3, c3, rfl, hd1⟩
  have hS6 := hS5.out0 hd1
  refine sQ 30 (Y_len (B := B3) (m := r_4.length) (c := c3) K11 rfl rfl) <| sQ 31 (ym (vi 0)) (rn ?_)
  obtain ⟨hN, hF2⟩ := chk_inv hF2
  obtain ⟨z, hz, hF3⟩ := bI hF2
  refine cw_block ?_
  refine cw_loop (fun k f w => ∃ (i : Nat) (bad : Bool), FF f [(0, vi n), (3, vi length), (5, pt (aD b) 0), (6, pt (aD b1) 0), (12, pt (aD b2) 0), (29, .slice B3 r_4.length c3), (30, vi (r_4.length : Int)), (31, vi (i : Int))] ∧ ST w0 [] w [⟨aD b, 50, kM_ x B c, 3⟩, ⟨aD b1, 50, kM_ m B1 c1, 3⟩, ⟨aD b2, 65, [.bool bad], 1⟩, ⟨B3, 56, (r_4.flatMap eN0), c3 * 3⟩] [⟨B, (x.Cells.flatMap eN1)⟩, ⟨B1, (m.Cells.flatMap eN1)⟩] ∧ i + k = r_4.length ∧ forX (F_spec_l28Find_l1 r_4 n x rec_ m length) k i bad = some z) r_4.length ⟨0, false, (fc rfl (fc rfl (fc rfl (fc rfl (fc rfl (fc rfl (fc rfl (fc rfl fn_)))))))), (hS6.sel [0, 1, 2, 3] rfl rfl), Nat.zero_add _, hz⟩ ?_
  rintro k_ f w ⟨i, bad, hf, hS7, hik, hL⟩
  refine cq (cr ?_)
  refine sQ 32 (yL (i : Int) (r_4.length : Int) rfl (hf.g 31 7) (hf.g 30 6)) (rn (cq ?_))
  refine cw_cond (b := (decide ((i : Int) < (r_4.length : Int)))) rfl (fun hlt => ?_) (fun hlt => ?_)
  ·skip
   have hlt1 : i < r_4.length := by have h := of_decide_eq_true hlt; omega
   obtain ⟨K7, rfl⟩ : ∃ k2, k_ = k2 + 1 := ⟨k_ - 1, by omega⟩
   obtain ⟨y, hb1, hL1⟩ := forX_go hL
   unfold F_spec_l28Find_l1 at hb1
   refine cw_skip (cq (cw_block (cq (cr ?_))))
   obtain ⟨x1, hx, hb1⟩ := bI hb1
   refine sQ 33 (Y_index (B := B3) (m := r_4.length) (c := c3) (k := .i64) (i := (i : Int)) K11 K10 rfl (hf.g 29 5) (hf.g 31 7) (gi_isSome enc_Gate_len rfl (hS7.c 3) hx) (getI_nn hx) (getI_ltI hx rfl)) <| sQ 34 (ya B3 ((i : Int).toNat * 3) (r_4.flatMap eN0) [vi x1.Kind, vi x1.A, vi x1.B] K31 K10 (hS7.c 3) rfl rfl (enc_Gate_len x1) (gi_seg enc_Gate_len hx)) ?_
   refine sS 14 (yN [vi 0, vi 0, vi 0] 3 hS7 K20) ?_
   rintro _ w_5 ⟨b3, rfl, hS8⟩
   refine s0 (yT 4 3 (aD b3) 56 (.agg #[vi x1.Kind, vi x1.A, vi x1.B]) [vi x1.Kind, vi x1.A, vi x1.B] 0 hS8 K10) ?_
   rintro _ w_6 ⟨rfl, hS9⟩
   refine rn (cq ?_)
   obtain ⟨r_5, hc2, hb1⟩ := bI hb1
   obtain ⟨⟨r_6, m1⟩, hc3, hb1⟩ := bI hb1
   obtain ⟨⟨r_7, r_8⟩, hc4, hb1⟩ := bI hb1
   refine ra_start (hS9.se [0, 1, 3, 4]).fn (by kernel_rfl) ?_
   have hS13 := hS9.drew
   refine rq 0 36 (v := vi n) rfl (hS13.se [0, 1, 3, 4]) (fun w' hw' => (ym (vi n) rfl (hf.g 0 0))) ?_
   refine rq 1 37 (v := pt (aD b2) 0) rfl (hS13.se [0, 1, 3, 4]) (fun w' hw' => (ym (pt (aD b2) 0) rfl (hf.g 12 4))) ?_
   refine rq 2 38 (v := vi n) rfl (hS13.se [0, 1, 3, 4]) (fun w' hw' => (ym (vi n) rfl (hf.g 0 0))) ?_
   refine rq 3 39 (v := .agg #[vi x1.Kind, vi x1.A, vi x1.B]) rfl (hS13.se [0, 1, 3, 4]) (fun w' hw' => (yb (aD b3) 0 [vi x1.Kind, vi x1.A, vi x1.B] K31 K10 (ST.cf hw' (i := 3) rfl))) ?_
   refine rq 5 41 (v := gM_ x B c) rfl (hS13.se [0, 1, 3, 4]) (fun w' hw' => (yb (aD b) 0 (kM_ x B c) K9 K4 (ST.cf hw' (i := 0) rfl) rfl (hf.g 5 2))) ?_
   refine rq 7 43 (v := gM_ m B1 c1) rfl (hS13.se [0, 1, 3, 4]) (fun w' hw' => (yb (aD b1) 0 (kM_ m B1 c1) K9 K4 (ST.cf hw' (i := 1) rfl) rfl (hf.g 6 3))) ?_
   refine rq 8 44 (v := vi length) rfl (hS13.se [0, 1, 3, 4]) (fun w' hw' => (ym (vi length) rfl (hf.g 3 1))) ?_
   refine rq 9 45 (v := vi (i64.wrap (length - 1))) rfl (hS13.se [0, 1, 3, 4]) (fun w' hw' => (yM length 1)) ?_
   refine rA [4] ?_
   refine rC 40 4 rfl (yC [vi n, .agg #[vi x1.Kind, vi x1.A, vi x1.B]] K95 (c_spec_l6Gate n x1 _  (hS13.inn0 [] rfl) hc2)) ?_ ?_
   ·rintro _ w_7 ⟨B4, c4, rfl, hd2⟩
    have hS14 := hS13.out0 hd2
    refine ⟨(hS14.se [0, 1, 3, 4]), ?_⟩
    refine rA [6] ?_
    refine rC 42 6 rfl (yC [pt (aD b2) 0, gM_ r_5 B4 c4, gM_ x B c] K96 (c_spec_l2C_times (Tl2C.mk bad) r_5 x (aD b2) B4 c4 r_5.Cells.length B c x.Cells.length _ rfl rfl (hS14.inn [false, false, true, false, false, false] rfl [(false, 4), (true, 0)] rfl) hc3)) ?_ ?_
    ·rintro _ w_8 ⟨B5, c5, rfl, hd3⟩
     have hS15 := hS14.out [false, false, true, false, false, false] rfl hd3
     refine ⟨(hS15.se [0, 1, 2, 3]), ?_⟩
     refine rA [10] ?_
     refine rC 46 10 rfl (yC [vi n, gM_ r_6 B5 c5, gM_ m B1 c1, vi (i64.wrap (length - 1))] k_call_77 (hrec_ n r_6 m (i64.wrap (length - 1)) B5 c5 r_6.Cells.length B1 c1 m.Cells.length _ rfl rfl (hS15.inn0 [(false, 6), (true, 1)] rfl) hc4)) ?_ ?_
     ·rintro _ w_9 ⟨B6, c6, rfl, hd4⟩
      have hS16 := hS15.out0 hd4
      refine ⟨(hS16.se [0, 1, 2, 3]), ?_⟩
      refine rq 11 35 (v := .tuple #[.slice B6 r_7.length c6, .bool r_8]) rfl (hS16.se [0, 1, 2, 3]) (fun w' hw' => (ym (.tuple #[.slice B6 r_7.length c6, .bool r_8]))) ?_
      refine rq 12 47 (v := .slice B6 r_7.length c6) rfl (hS16.se [0, 1, 2, 3]) (fun w' hw' => (ye (.slice B6 r_7.length c6))) ?_
      refine rq 13 48 (v := .bool r_8) rfl (hS16.se [0, 1, 2, 3]) (fun w' hw' => (ye (.bool r_8))) ?_
      refine rq 14 15 (v := .slice B6 r_7.length c6) rfl (hS16.se [0, 1, 2, 3]) (fun w' hw' => (yg (.slice B6 r_7.length c6))) ?_
      refine rq 15 16 (v := .bool r_8) rfl (hS16.se [0, 1, 2, 3]) (fun w' hw' => (yg (.bool r_8))) ?_
      refine ra_done (by kernel_rfl) ?_
      refine cq (cr ?_)
      refine sQ 49 (ym (.bool r_8)) (rn ?_)
      refine cw_cond (b := r_8) rfl (fun hb2 => ?_) (fun hb2 => ?_)
      ·skip
       have hF4 := ct hb1 hb2
       refine cq (cr ?_)
       refine sQ 50 (yb (aD b3) 0 [vi x1.Kind, vi x1.A, vi x1.B] K31 K10 (hS16.c 3)) ?_
       refine sS 51 (Ys_bslice (s := 3) (len := 1) (vs := [(0, .agg #[vi x1.Kind, vi x1.A, vi x1.B])]) (cs := [vi x1.Kind, vi x1.A, vi x1.B]) (zs := [vi 0, vi 0, vi 0]) (m := 3) hS16 K11 K10 K52 rfl (mpc rfl mpn) rfl rfl rfl (by kernel_rfl) (by kernel_rfl) rfl) ?_
       rintro _ w_10 ⟨b4, rfl, hS17⟩
       refine sQ 52 (ym (.slice B6 r_7.length c6)) ?_
       obtain ⟨hap, hF4⟩ := chk_inv hF4
       refine sS 53 (Ys_append (s := 3) (by' := 24) (i := 8) (nn := 1) (c := 1) (k := r_7.length) (len := ([x1] ++ r_7).length) (B := aD b4) (xs := (r_7.flatMap eN0)) (cs' := (([x1] ++ r_7).flatMap eN0)) hS17 K11 K10 K46 K20 rfl (by decide) rfl rfl rfl rfl (fm_lenn (l := [x1]) enc_Gate_len rfl) rfl (hS17.c 7) (fm_lenn (l := r_7) enc_Gate_len rfl) (fm_one' (enc := eN0) enc_Gate_one r_7) (by have := hap; omega) (by have := hap; simp only [maxLen]; omega) (fm_app (enc := eN0) [x1] r_7) (app_len (l := [x1]) (l' := r_7) rfl rfl)) ?_
       rintro _ w_11 ⟨B7, c7, rfl, hS18⟩
       refine sQ 8 (yg (.slice B7 (([x1] ++ r_7).length) c7)) <| sQ 9 (yg (.bool true)) (rn (ct_ ?_))
       obtain rfl := sI hF4
       obtain rfl := sI hL1
       obtain ⟨rfl, rfl⟩ := pr2 (sI hF3)
       exact ret2 Tryz.results77 (v1 := .slice B7 (([x1] ++ r_7).length) c7) (resAt_tmp rfl) (v2 := .bool true) (resAt_tmp rfl) ⟨B7, c7, rfl, (hS18.sN [8])⟩
      ·skip
       have hF5 := cf' hb1 hb2
       refine cw_skip (cr ?_)
       refine sQ 54 (yP (i : Int) 1 rfl (hf.g 31 7)) <| sQ 31 (ym (vi (i64.wrap ((i : Int) + 1)))) (rn ?_)
       obtain rfl := sI hF5
       exact ⟨K7, Nat.lt_succ_self _, i + 1, m1.bad, (fc (hf.g 0 0) (fc (hf.g 3 1) (fc (hf.g 5 2) (fc (hf.g 6 3) (fc (hf.g 12 4) (fc (hf.g 29 5) (fc (hf.g 30 6) (fc (congrArg (Value.int .i64) (wr_succ hlt1 hN)) fn_)))))))), (hS16.sel [0, 1, 5, 2] rfl rfl), (by omega), hL1⟩
     exact aN
    exact aN
   exact aN
  ·skip
   obtain rfl : k_ = 0 := by have h := of_decide_eq_false hlt; omega
   refine cw_exit rfl ?_
   obtain rfl := sI hL
   refine cq (cr ?_)
   refine sQ 8 (yg (.slice none 0 0)) <| sQ 9 (yg (.bool false)) (rn (ct_ ?_))
   have hS19 := hS7.addNil 56
   obtain ⟨rfl, rfl⟩ := pr2 (sI hF3)
   exact ret2 Tryz.results77 (v1 := .slice none 0 0) (resAt_tmp rfl) (v2 := .bool false) (resAt_tmp rfl) ⟨none, 0, rfl, (hS19.sN [4])⟩
theorem c_spec_l28Find (fu : Nat) : ∀ (n : Int) (x : TMatrix) (m : TMatrix) (length : Int) (B : Option Addr) (c n1 : Nat) (B1 : Option Addr) (c1 n2 : Nat) (w0 : World) (hn : x.Cells.length = n1) (hn1 : m.Cells.length = n2) (hS : ST w0 [] w0 [] [⟨B, (x.Cells.flatMap eN1)⟩, ⟨B1, (m.Cells.flatMap eN1)⟩]) {r_ : List TGate} {r_1 : Bool} (hF : F_spec_l28Find fu n x m length = some (r_, r_1)), CV Tryz.prog 77 #[vi n, .agg #[vi x.Rows, vi x.Cols, .slice B n1 c], .agg #[vi m.Rows, vi m.Cols, .slice B1 n2 c1], vi length] w0 (fun v w' => ∃ (B2 : Option Addr) (c2 : Nat), v = .tuple #[.slice B2 r_.length c2, .bool r_1] ∧ ST w0 [] w' [⟨B2, 56, (r_.flatMap eN0), c2 * 3⟩] []) := by
 induction fu with
 | zero => intros; rename_i hF; rw [F_spec_l28Find] at hF; cases hF
 | succ fu ih => simp only [F_spec_l28Find]; exact c_spec_l28Find_B (F_spec_l28Find fu) ih

theorem c_spec_l28Shortest (m : TMatrix) (B : Option Addr) (c n : Nat) (w0 : World) (hn : m.Cells.length = n) (hS : ST w0 [] w0 [] [⟨B, (m.Cells.flatMap eN1)⟩]) {r_ : TCircuit} {r_1 : Bool} (hF : F_spec_l28Shortest m = some (r_, r_1)) :
  CV Tryz.prog 44 #[.agg #[vi m.Rows, vi m.Cols, .slice B n c]] w0 (fun v w' => ∃ (B1 : Option Addr) (c1 : Nat), v = .tuple #[.agg #[vi r_.Qubits, .slice B1 r_.Gates.length c1], .bool r_1] ∧ ST w0 [] w' [⟨B1, 56, (r_.Gates.flatMap eN0), c1 * 3⟩] []) := by
 subst hn
 unfold F_spec_l28Shortest at hF
 refine cv_of_cw 32 Tryz.func44 rfl Tryz.ntmps44 rfl ?_
 refine cq (cr ?_)
 refine sS 1 (yB 50 (gM_ m B c) (kM_ m B c) 3 hS) ?_
 rintro _ w_ ⟨b, rfl, hS1⟩
 refine sS 2 (yN [vi 0, .slice none 0 0] 2 hS1 K40) ?_
 rintro _ w_1 ⟨b1, rfl, hS2⟩
 refine sQ 3 (yg (.bool false)) (rn (cq (cr ?_)))
 refine sQ 4 (yg (vi 1)) <| sQ 5 (yg (vi 8)) (rn (cq ?_))
 obtain ⟨z, hz, hF1⟩ := bI hF
 refine cw_mid (fun f w => ∃ (n1 : Int) (most : Int), (n1, most) = z ∧ FF f [(1, pt (aD b) 0), (2, pt (aD b1) 0), (4, vi n1), (5, vi most)] ∧ ST w0 [] w [⟨aD b, 50, kM_ m B c, 3⟩, ⟨aD b1, 30, [vi 0, .slice none 0 0], 2⟩] [⟨B, (m.Cells.flatMap eN1)⟩]) ?_ ?_
 ·skip
  refine cq (cr ?_)
  refine sQ 9 (yd (aD b) 0 0 K33 K1) <| sQ 10 (yl (aD b) 0 (kM_ m B c) (vi m.Rows) K0 (hS2.c 0)) <| sQ 11 (yE m.Rows 4) (rn ?_)
  refine cw_cond (b := (m.Rows == 4)) rfl (fun hb => ?_) (fun hb => ?_)
  ·skip
   have hF2 := ct hz hb
   refine cq (cr ?_)
   refine sQ 4 (yg (vi 2)) (rn (cr ?_))
   refine sQ 5 (yg (vi 4)) (rn ?_)
   exact ⟨2, 4, (sI hF2), (fc rfl (fc rfl (fc rfl (fc rfl fn_)))), (hS2.sel [0, 1] rfl rfl)⟩
  ·skip
   have hF3 := cf' hz hb
   refine cw_skip ?_
   exact ⟨1, 8, (sI hF3), (fc rfl (fc rfl (fc rfl (fc rfl fn_)))), (hS2.sel [0, 1] rfl rfl)⟩
 rintro f w ⟨n1, most, rfl, hf, hS3⟩
 refine cq (cq (cr ?_))
 refine sQ 6 (yg (vi 0)) (rn ?_)
 obtain ⟨z1, hz1, hF4⟩ := bI hF1
 refine cw_block ?_
 refine cw_loop (fun k f w => ∃ (length : Int), FF f [(1, pt (aD b) 0), (2, pt (aD b1) 0), (4, vi n1), (5, vi most), (6, vi length)] ∧ ST w0 [] w [⟨aD b, 50, kM_ m B c, 3⟩, ⟨aD b1, 30, [vi 0, .slice none 0 0], 2⟩] [⟨B, (m.Cells.flatMap eN1)⟩] ∧ whX (F_spec_l28Shortest_l1 most m n1) k length = some z1) fuel ⟨0, (fc (hf.g 1 0) (fc (hf.g 2 1) (fc (hf.g 4 2) (fc (hf.g 5 3) (fc rfl fn_))))), (hS3.sel [0, 1] rfl rfl), hz1⟩ ?_
 rintro k_ f w ⟨length, hf1, hS4, hL⟩
 obtain ⟨K7, y, rfl, hb1, hL1⟩ := whX_go hL
 unfold F_spec_l28Shortest_l1 at hb1
 refine cq (cq (cr ?_))
 refine sQ 12 (ym (vi length) rfl (hf1.g 6 4)) <| sQ 13 (ym (vi most) rfl (hf1.g 5 3)) <| sQ 14 (Y_le (k := .i64) (a := length) (b := most) rfl rfl rfl) (rn ?_)
 refine cw_cond (b := (decide (length ≤ most))) rfl (fun hb2 => ?_) (fun hb2 => ?_)
 ·skip
  have hF5 := ct hb1 hb2
  refine cw_skip (cq (cw_block (cq ?_)))
  obtain ⟨r_2, hc, hF5⟩ := bI hF5
  obtain ⟨⟨r_3, r_4⟩, hc1, hF5⟩ := bI hF5
  refine ra_start (hS4.se [0, 1]).fn (by kernel_rfl) ?_
  have hS7 := hS4.drew
  refine rq 0 18 (v := vi n1) rfl (hS7.se [0, 1]) (fun w' hw' => (ym (vi n1) rfl (hf1.g 4 2))) ?_
  refine rq 1 19 (v := pt (aD b) 0) rfl (hS7.se [0, 1]) (fun w' hw' => (yd (aD b) 0 0 K33 K1 rfl (hf1.g 1 0))) ?_
  refine rq 2 20 (v := vi m.Rows) rfl (hS7.se [0, 1]) (fun w' hw' => (yl (aD b) 0 (kM_ m B c) (vi m.Rows) K0 (ST.cf hw' (i := 0) rfl))) ?_
  refine rq 4 22 (v := gM_ m B c) rfl (hS7.se [0, 1]) (fun w' hw' => (yb (aD b) 0 (kM_ m B c) K9 K4 (ST.cf hw' (i := 0) rfl) rfl (hf1.g 1 0))) ?_
  refine rq 5 23 (v := vi length) rfl (hS7.se [0, 1]) (fun w' hw' => (ym (vi length) rfl (hf1.g 6 4))) ?_
  refine rA [3] ?_
  refine rC 21 3 rfl (yC [vi m.Rows] k_call_28 (c_spec_l3Unit m.Rows _  (hS7.inn0 [] rfl) hc)) ?_ ?_
  ·rintro _ w_2 ⟨B2, c2, rfl, hd⟩
   have hS8 := hS7.out0 hd
   refine ⟨(hS8.se [0, 1]), ?_⟩
   refine rA [6] ?_
   refine rC 24 6 rfl (yC [vi n1, gM_ r_2 B2 c2, gM_ m B c, vi length] k_call_77 (c_spec_l28Find 1000 n1 r_2 m length B2 c2 r_2.Cells.length B c m.Cells.length _ rfl rfl (hS8.inn0 [(false, 2), (true, 0)] rfl) hc1)) ?_ ?_
   ·rintro _ w_3 ⟨B3, c3, rfl, hd1⟩
    have hS9 := hS8.out0 hd1
    refine ⟨(hS9.se [0, 1]), ?_⟩
    refine rq 7 17 (v := .tuple #[.slice B3 r_3.length c3, .bool r_4]) rfl (hS9.se [0, 1]) (fun w' hw' => (ym (.tuple #[.slice B3 r_3.length c3, .bool r_4]))) ?_
    refine rq 8 25 (v := .slice B3 r_3.length c3) rfl (hS9.se [0, 1]) (fun w' hw' => (ye (.slice B3 r_3.length c3))) ?_
    refine rq 9 26 (v := .bool r_4) rfl (hS9.se [0, 1]) (fun w' hw' => (ye (.bool r_4))) ?_
    refine rq 10 7 (v := .slice B3 r_3.length c3) rfl (hS9.se [0, 1]) (fun w' hw' => (yg (.slice B3 r_3.length c3))) ?_
    refine rq 11 8 (v := .bool r_4) rfl (hS9.se [0, 1]) (fun w' hw' => (yg (.bool r_4))) ?_
    refine ra_done (by kernel_rfl) ?_
    refine cq (cr ?_)
    refine sQ 27 (ym (.bool r_4)) (rn ?_)
    refine cw_cond (b := r_4) rfl (fun hb3 => ?_) (fun hb3 => ?_)
    ·skip
     have hF6 := ct hF5 hb3
     refine cq (cr ?_)
     refine sQ 28 (ym (vi n1) rfl (hf1.g 4 2)) <| sQ 29 (ym (.slice B3 r_3.length c3)) <| sQ 30 (Y_buildS (zs := [vi 0, .slice none 0 0]) (vs := [(0, vi n1), (1, .slice B3 r_3.length c3)]) (cs := [vi n1, .slice B3 r_3.length c3]) K64 K40 rfl (mpc rfl (mpc rfl mpn)) rfl) ?_
     refine s0 (yT 1 2 (aD b1) 30 (.agg #[vi n1, .slice B3 r_3.length c3]) [vi n1, .slice B3 r_3.length c3] 0 hS9 K18 rfl (hf1.g 2 1)) ?_
     rintro _ w_4 ⟨rfl, hS10⟩
     refine sQ 3 (yg (.bool true)) (rn (ct_ ?_))
     obtain rfl := sI hF6
     obtain rfl := sI hL1
     obtain ⟨rfl, rfl⟩ := pr2 (sI hF4)
     exact ret2 Tryz.results44 (v1 := .agg #[vi n1, .slice B3 r_3.length c3]) (resAt_cellA (B := aD b1) (i := 0) (cs := [vi n1, .slice B3 r_3.length c3]) (vs := [vi n1, .slice B3 r_3.length c3]) (hf1.g 2 1) K27 K18 (hS10.c 1) rfl rfl) (v2 := .bool true) (resAt_tmp rfl) ⟨B3, c3, rfl, (hS10.sN [3])⟩
    ·skip
     have hF7 := cf' hF5 hb3
     refine cw_skip (cr ?_)
     refine sQ 15 (ym (vi length) rfl (hf1.g 6 4)) <| sQ 16 (yP length 1) <| sQ 6 (yg (vi (i64.wrap (length + 1)))) (rn ?_)
     obtain rfl := sI hF7
     exact ⟨K7, Nat.lt_succ_self _, (i64.wrap (length + 1)), (fc (hf1.g 1 0) (fc (hf1.g 2 1) (fc (hf1.g 4 2) (fc (hf1.g 5 3) (fc rfl fn_))))), (hS9.sel [0, 1] rfl rfl), hL1⟩
   exact aN
  exact aN
 ·skip
  have hF8 := cf' hb1 hb2
  refine cw_exit rfl ?_
  obtain rfl := sI hF8
  obtain rfl := sI hL1
  refine cq (cr ?_)
  refine sQ 31 (Y_buildS (zs := [vi 0, .slice none 0 0]) (vs := []) (cs := [vi 0, .slice none 0 0]) K64 K40 rfl mpn rfl) ?_
  refine s0 (yT 1 2 (aD b1) 30 (.agg #[vi 0, .slice none 0 0]) [vi 0, .slice none 0 0] 0 hS4 K18 rfl (hf1.g 2 1)) ?_
  rintro _ w_5 ⟨rfl, hS11⟩
  refine sQ 3 (yg (.bool false)) (rn (ct_ ?_))
  have hS12 := hS11.addNil 56
  obtain ⟨rfl, rfl⟩ := pr2 (sI hF4)
  exact ret2 Tryz.results44 (v1 := .agg #[vi 0, .slice none 0 0]) (resAt_cellA (B := aD b1) (i := 0) (cs := [vi 0, .slice none 0 0]) (vs := [vi 0, .slice none 0 0]) (hf1.g 2 1) K27 K18 (hS12.c 1) rfl rfl) (v2 := .bool false) (resAt_tmp rfl) ⟨none, 0, rfl, (hS12.sN [2])⟩

theorem c_spec_ShortestWord (m : TMatrix) (B : Option Addr) (c n : Nat) (w0 : World) (hn : m.Cells.length = n) (hS : ST w0 [] w0 [] [⟨B, (m.Cells.flatMap eN1)⟩]) {r_ : TCircuit} {r_1 : Bool} (hF : F_spec_ShortestWord m = some (r_, r_1)) :
  CV Tryz.prog 23 #[.agg #[vi m.Rows, vi m.Cols, .slice B n c]] w0 (fun v w' => ∃ (B1 : Option Addr) (c1 : Nat), v = .tuple #[.agg #[vi r_.Qubits, .slice B1 r_.Gates.length c1], .bool r_1] ∧ ST w0 [] w' [⟨B1, 56, (r_.Gates.flatMap eN0), c1 * 3⟩] []) := by
 subst hn
 unfold F_spec_ShortestWord at hF
 refine cv_of_cw 29 Tryz.func23 rfl Tryz.ntmps23 rfl ?_
 refine cq (cr ?_)
 refine sS 1 (yB 50 (gM_ m B c) (kM_ m B c) 3 hS) ?_
 rintro _ w_ ⟨b, rfl, hS1⟩
 refine sS 2 (yN [vi 0, .slice none 0 0] 2 hS1 K40) ?_
 rintro _ w_1 ⟨b1, rfl, hS2⟩
 refine sQ 3 (yg (.bool false)) (rn (cq (cq (cr ?_))))
 refine sQ 4 (yb (aD b) 0 (kM_ m B c) K9 K4 (hS2.c 0)) ?_
 obtain ⟨r_2, hc, hF⟩ := bI hF
 refine sc 5 rfl rfl (yC [gM_ m B c] k_call_43 (c_spec_l3Good m B c m.Cells.length _ rfl (hS2.inn0 [(true, 0)] rfl) hc)) ?_
 rintro _ w_2 ⟨rfl, hd⟩
 have hS3 := hS2.out00 hd
 refine sQ 6 (Y_not (p := r_2) rfl rfl) <| sQ 7 (ym (.bool (!r_2))) ?_
 refine sgq 8 (B := (!(!r_2))) (v := pt (aD b) 0) rfl rfl (uF_ 7) (fun hg => (yd (aD b) 0 0 K33 K1)) ?_
 refine sgq 9 (B := (!(!r_2))) (v := vi m.Rows) rfl rfl (uF_ 7) (fun hg1 => (yl (aD b) 0 (kM_ m B c) (vi m.Rows) K0 (hS3.c 0) rfl (gv_of (v := pt (aD b) 0) hg1))) ?_
 refine sgq 10 (B := (!(!r_2))) (v := pt (aD b) 1) rfl rfl (uF_ 7) (fun hg2 => (yd (aD b) 0 0 K36 K1)) ?_
 refine sgq 11 (B := (!(!r_2))) (v := vi m.Cols) rfl rfl (uF_ 7) (fun hg3 => (yl (aD b) 1 (kM_ m B c) (vi m.Cols) K0 (hS3.c 0) rfl (gv_of (v := pt (aD b) 1) hg3))) ?_
 refine sgq 12 (B := (!(!r_2))) (v := .bool (m.Rows != m.Cols)) rfl rfl (uF_ 7) (fun hg4 => (Y_ne (k := .i64) (a := m.Rows) (b := m.Cols) rfl (gv_of (v := vi m.Rows) hg4) (gv_of (v := vi m.Cols) hg4))) ?_
 refine sQ 13 (Y_or (b := (!r_2)) (z := (m.Rows != m.Cols)) rfl rfl rfl rfl) <| sQ 14 (ym (.bool ((!r_2) || (m.Rows != m.Cols)))) ?_
 refine sgq 15 (B := (!((!r_2) || (m.Rows != m.Cols)))) (v := pt (aD b) 0) rfl rfl (uF_ 14) (fun hg5 => (yd (aD b) 0 0 K33 K1)) ?_
 refine sgq 16 (B := (!((!r_2) || (m.Rows != m.Cols)))) (v := vi m.Rows) rfl rfl (uF_ 14) (fun hg6 => (yl (aD b) 0 (kM_ m B c) (vi m.Rows) K0 (hS3.c 0) rfl (gv_of (v := pt (aD b) 0) hg6))) ?_
 refine sgq 17 (B := (!((!r_2) || (m.Rows != m.Cols)))) (v := .bool (m.Rows != 2)) rfl rfl (uF_ 14) (fun hg7 => (Y_ne (k := .i64) (a := m.Rows) (b := 2) rfl (gv_of (v := vi m.Rows) hg7) rfl)) ?_
 refine sgq 18 (B := (!((!r_2) || (m.Rows != m.Cols)))) (v := .bool (m.Rows != 2)) rfl rfl (uF_ 14) (fun hg8 => (ym (.bool (m.Rows != 2)) rfl (gv_of (v := .bool (m.Rows != 2)) hg8))) ?_
 refine sgq 19 (B := ((!((!r_2) || (m.Rows != m.Cols))) && (m.Rows != 2))) (v := pt (aD b) 0) rfl rfl (wt_gt (gd_of (t := 18) (by kernel_rfl) rfl)) (fun hg9 => (yd (aD b) 0 0 K33 K1)) ?_
 refine sgq 20 (B := ((!((!r_2) || (m.Rows != m.Cols))) && (m.Rows != 2))) (v := vi m.Rows) rfl rfl (wt_gt (gd_of (t := 18) (by kernel_rfl) rfl)) (fun hg10 => (yl (aD b) 0 (kM_ m B c) (vi m.Rows) K0 (hS3.c 0) rfl (gv_of (v := pt (aD b) 0) hg10))) ?_
 refine sgq 21 (B := ((!((!r_2) || (m.Rows != m.Cols))) && (m.Rows != 2))) (v := .bool (m.Rows != 4)) rfl rfl (wt_gt (gd_of (t := 18) (by kernel_rfl) rfl)) (fun hg11 => (Y_ne (k := .i64) (a := m.Rows) (b := 4) rfl (gv_of (v := vi m.Rows) hg11) rfl)) ?_
 refine sgq 22 (B := (!((!r_2) || (m.Rows != m.Cols)))) (v := .bool ((m.Rows != 2) && (m.Rows != 4))) rfl rfl (uF_ 14) (fun hg12 => (Y_and (b := (m.Rows != 2)) (z := (m.Rows != 4)) rfl (gv_of (v := .bool (m.Rows != 2)) hg12) (gv_and (B := (!((!r_2) || (m.Rows != m.Cols)))) (C := (m.Rows != 2)) (v := .bool (m.Rows != 4)) hg12) rfl)) ?_
 refine sQ 23 (Y_or (b := ((!r_2) || (m.Rows != m.Cols))) (z := ((m.Rows != 2) && (m.Rows != 4))) rfl rfl rfl rfl) (rn ?_)
 refine cw_cond (b := (((!r_2) || (m.Rows != m.Cols)) || ((m.Rows != 2) && (m.Rows != 4)))) rfl (fun hb => ?_) (fun hb => ?_)
 ·skip
  have hF1 := ct hF hb
  refine cq (cr ?_)
  refine sQ 24 (Y_buildS (zs := [vi 0, .slice none 0 0]) (vs := []) (cs := [vi 0, .slice none 0 0]) K64 K40 rfl mpn rfl) ?_
  refine s0 (yT 1 2 (aD b1) 30 (.agg #[vi 0, .slice none 0 0]) [vi 0, .slice none 0 0] 0 hS3 K18) ?_
  rintro _ w_3 ⟨rfl, hS4⟩
  refine sQ 3 (yg (.bool false)) (rn (ct_ ?_))
  have hS5 := hS4.addNil 56
  obtain ⟨rfl, rfl⟩ := pr2 (sI hF1)
  exact ret2 Tryz.results23 (v1 := .agg #[vi 0, .slice none 0 0]) (resAt_cellA (B := aD b1) (i := 0) (cs := [vi 0, .slice none 0 0]) (vs := [vi 0, .slice none 0 0]) rfl K27 K18 (hS5.c 1) rfl rfl) (v2 := .bool false) (resAt_tmp rfl) ⟨none, 0, rfl, (hS5.sN [2])⟩
 ·skip
  have hF2 := cf' hF hb
  refine cw_skip (cq (cr ?_))
  refine sQ 25 (yb (aD b) 0 (kM_ m B c) K9 K4 (hS3.c 0)) ?_
  obtain ⟨⟨r_3, r_4⟩, hc1, hF2⟩ := bI hF2
  refine sc 26 rfl rfl (yC [gM_ m B c] k_call_44 (c_spec_l28Shortest m B c m.Cells.length _ rfl (hS3.inn0 [(true, 0)] rfl) hc1)) ?_
  rintro _ w_4 ⟨B2, c2, rfl, hd1⟩
  have hS6 := hS3.out0 hd1
  refine sQ 27 (ye (.agg #[vi r_3.Qubits, .slice B2 r_3.Gates.length c2])) <| sQ 28 (ye (.bool r_4)) ?_
  refine s0 (yT 1 2 (aD b1) 30 (.agg #[vi r_3.Qubits, .slice B2 r_3.Gates.length c2]) [vi r_3.Qubits, .slice B2 r_3.Gates.length c2] 0 hS6 K18) ?_
  rintro _ w_5 ⟨rfl, hS7⟩
  refine sQ 3 (yg (.bool r_4)) (rn (ct_ ?_))
  obtain ⟨rfl, rfl⟩ := pr2 (sI hF2)
  exact ret2 Tryz.results23 (v1 := .agg #[vi r_3.Qubits, .slice B2 r_3.Gates.length c2]) (resAt_cellA (B := aD b1) (i := 0) (cs := [vi r_3.Qubits, .slice B2 r_3.Gates.length c2]) (vs := [vi r_3.Qubits, .slice B2 r_3.Gates.length c2]) rfl K27 K18 (hS7.c 1) rfl rfl) (v2 := .bool r_4) (resAt_tmp rfl) ⟨B2, c2, rfl, (hS7.sN [2])⟩
end Go.VK
