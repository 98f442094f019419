/- Walks: each Go function returns what its Lean function says. By program. -/
import Derived.Test.YtgacclcoghlhmaaNormalizeCliffordFa
import Derived.Test.YtgacclcoghlhmaaNormalizeCliffordShelf
import Derived.Test.YtgacclcoghlhmaaLibQ
set_option linter.unusedVariables false
set_option maxRecDepth 100000
set_option maxHeartbeats 4000000
namespace Go.VK
open Go.RowKit
open Go.Proofs
open Go.IntKind
attribute [local irreducible] CW RW RA CV Y Yw Yc Ys RetOf
attribute [local irreducible] F_laws_szGateS F_laws_szCircuit F_spec_l1In F_spec_l4Gate F_spec_l4Good F_spec_l4Count F_spec_CountT F_spec_l7Clifford F_spec_l7Letter F_spec_l7Sign F_spec_l7Mul F_spec_l7Image F_spec_l7Then F_spec_l7Identity F_spec_l7Gate F_spec_l8R_add
theorem c_laws_szGateS (a : List TGate) (left : Int) (B : Option Addr) (c n : Nat) (w0 : World) (hn : a.length = n) (hS : ST w0 [] w0 [] [⟨B, (a.flatMap eN2)⟩]) {r_ : Int} (hF : F_laws_szGateS a left = some r_) :
  CV Try.prog 11 #[.slice B n c, vi left] w0 (fun v w' => v = vi r_ ∧ ST w0 [] w' [] []) := by
 subst hn
 unfold F_laws_szGateS at hF
 refine cv_of_cw 12 Try.func11 rfl Try.ntmps11 rfl ?_
 refine cq (cr ?_)
 refine sQ 4 (yg (vi 0)) (rn (cq (cr ?_)))
 refine sQ 5 (ym (vi left)) <| sQ 6 (ym (.slice B a.length c)) <| sQ 7 (Y_len (B := B) (m := a.length) (c := c) K68 rfl rfl) <| sQ 8 (yM left (a.length : Int)) <| sQ 1 (yg (vi (i64.wrap (left - (a.length : Int))))) (rn (cq (cq (cr ?_))))
 refine sQ 9 (ym (vi (i64.wrap (left - (a.length : Int))))) <| sQ 10 (yL (i64.wrap (left - (a.length : Int))) 0) (rn ?_)
 refine cw_cond (b := (decide ((i64.wrap (left - (a.length : Int))) < 0))) rfl (fun hb => ?_) (fun hb => ?_)
 ·skip
  have hF1 := ct hF hb
  refine cq (cr ?_)
  refine sQ 4 (yg (vi (-1))) (rn (ct_ ?_))
  obtain rfl := sI hF1
  exact ret1 Try.results11 (v1 := vi (-1)) (resAt_tmp rfl) ⟨rfl, (hS.sN [])⟩
 ·skip
  have hF2 := cf' hF hb
  refine cw_skip (cq (cr ?_))
  refine sQ 11 (ym (vi (i64.wrap (left - (a.length : Int))))) <| sQ 4 (yg (vi (i64.wrap (left - (a.length : Int))))) (rn (ct_ ?_))
  obtain rfl := sI hF2
  exact ret1 Try.results11 (v1 := vi (i64.wrap (left - (a.length : Int)))) (resAt_tmp rfl) ⟨rfl, (hS.sN [])⟩

theorem c_laws_szCircuit (a : TCircuit) (left : Int) (B : Option Addr) (c n : Nat) (w0 : World) (hn : a.Gates.length = n) (hS : ST w0 [] w0 [] [⟨B, (a.Gates.flatMap eN2)⟩]) {r_ : Int} (hF : F_laws_szCircuit a left = some r_) :
  CV Try.prog 4 #[.agg #[vi a.Qubits, .slice B n c], vi left] w0 (fun v w' => v = vi r_ ∧ ST w0 [] w' [] []) := by
 subst hn
 unfold F_laws_szCircuit at hF
 refine cv_of_cw 12 Try.func4 rfl Try.ntmps4 rfl ?_
 refine cq (cr ?_)
 refine sS 2 (yB 24 (.agg #[vi a.Qubits, .slice B a.Gates.length c]) [vi a.Qubits, .slice B a.Gates.length c] 2 hS) ?_
 rintro _ w_ ⟨b, rfl, hS1⟩
 refine sQ 4 (yg (vi 0)) (rn (cq (cr ?_)))
 refine sQ 5 (yd (aD b) 0 0 k_fd_24_1_1_22 k_sz_22_1) <| sQ 6 (yl (aD b) 1 [vi a.Qubits, .slice B a.Gates.length c] (.slice B a.Gates.length c) k_sc_22 (hS1.c 0)) <| sQ 7 (ym (vi left)) ?_
 obtain ⟨r_1, hc, hF⟩ := bI hF
 refine sc 8 rfl rfl (yC [.slice B a.Gates.length c, vi left] k_call_11 (c_laws_szGateS a.Gates left B c a.Gates.length _ rfl (hS1.inn0 [(true, 0)] rfl) hc)) ?_
 rintro _ w_1 ⟨rfl, hd⟩
 have hS2 := hS1.out00 hd
 refine sQ 1 (yg (vi r_1)) (rn (cq (cq (cr ?_))))
 refine sQ 9 (ym (vi r_1)) <| sQ 10 (yL r_1 0) (rn ?_)
 refine cw_cond (b := (decide (r_1 < 0))) rfl (fun hb => ?_) (fun hb => ?_)
 ·skip
  have hF1 := ct hF hb
  refine cq (cr ?_)
  refine sQ 4 (yg (vi (-1))) (rn (ct_ ?_))
  obtain rfl := sI hF1
  exact ret1 Try.results4 (v1 := vi (-1)) (resAt_tmp rfl) ⟨rfl, (hS2.sN [])⟩
 ·skip
  have hF2 := cf' hF hb
  refine cw_skip (cq (cr ?_))
  refine sQ 11 (ym (vi r_1)) <| sQ 4 (yg (vi r_1)) (rn (ct_ ?_))
  obtain rfl := sI hF2
  exact ret1 Try.results4 (v1 := vi r_1) (resAt_tmp rfl) ⟨rfl, (hS2.sN [])⟩

theorem c_spec_l1In (n : Int) (lo : Int) (hi : Int)  (w0 : World)  (hS : ST w0 [] w0 [] []) {r_ : Bool} (hF : F_spec_l1In n lo hi = some r_) :
  CV Try.prog 59 #[vi n, vi lo, vi hi] w0 (fun v w' => v = .bool r_ ∧ ST w0 [] w' [] []) := by
 unfold F_spec_l1In at hF
 refine cv_of_cw 15 Try.func59 rfl Try.ntmps59 rfl ?_
 refine cq (cr ?_)
 refine sQ 6 (yg (.bool false)) (rn (cq (cr ?_)))
 refine sQ 7 (ym (vi n)) <| sQ 8 (ym (vi lo)) <| sQ 9 (Y_ge (k := .i64) (a := n) (b := lo) rfl rfl rfl) <| sQ 10 (ym (.bool (decide (lo ≤ n)))) ?_
 refine sgq 11 (B := (decide (lo ≤ n))) (v := vi n) rfl rfl (uT_ 10) (fun hg => (ym (vi n))) ?_
 refine sgq 12 (B := (decide (lo ≤ n))) (v := vi hi) rfl rfl (uT_ 10) (fun hg1 => (ym (vi hi))) ?_
 refine sgq 13 (B := (decide (lo ≤ n))) (v := .bool (decide (n ≤ hi))) rfl rfl (uT_ 10) (fun hg2 => (Y_le (k := .i64) (a := n) (b := hi) rfl (gv_of (v := vi n) hg2) (gv_of (v := vi hi) hg2))) ?_
 refine sQ 14 (Y_and (b := (decide (lo ≤ n))) (z := (decide (n ≤ hi))) rfl rfl rfl rfl) <| sQ 6 (yg (.bool ((decide (lo ≤ n)) && (decide (n ≤ hi))))) (rn (ct_ ?_))
 obtain rfl := sI hF
 exact ret1 Try.results59 (v1 := .bool ((decide (lo ≤ n)) && (decide (n ≤ hi)))) (resAt_tmp rfl) ⟨rfl, (hS.sN [])⟩

theorem c_spec_l4Gate (n : Int) (g : TGate)  (w0 : World)  (hS : ST w0 [] w0 [] []) {r_ : Bool} (hF : F_spec_l4Gate n g = some r_) :
  CV Try.prog 60 #[vi n, .agg #[vi g.Kind, vi g.A, vi g.B]] w0 (fun v w' => v = .bool r_ ∧ ST w0 [] w' [] []) := by
 unfold F_spec_l4Gate at hF
 refine cv_of_cw 55 Try.func60 rfl Try.ntmps60 rfl ?_
 refine cq (cr ?_)
 refine sS 3 (yB 55 (.agg #[vi g.Kind, vi g.A, vi g.B]) [vi g.Kind, vi g.A, vi g.B] 3 hS) ?_
 rintro _ w_ ⟨b, rfl, hS1⟩
 refine sQ 4 (yg (.bool false)) (rn (cq (cw_block (cq (cr ?_)))))
 refine sQ 6 (yd (aD b) 0 0 K36 K3) <| sQ 7 (yl (aD b) 0 [vi g.Kind, vi g.A, vi g.B] (vi g.Kind) K4 (hS1.c 0)) ?_
 obtain ⟨r_1, hc, hF⟩ := bI hF
 refine sc 8 rfl rfl (yC [vi g.Kind, vi 1, vi 8] K53 (c_spec_l1In g.Kind 1 8 _  (hS1.inn0 [] rfl) hc)) ?_
 rintro _ w_1 ⟨rfl, hd⟩
 have hS2 := hS1.out00 hd
 refine sQ 5 (yg (.bool r_1)) (rn ?_)
 refine cw_cond (b := r_1) rfl (fun hb => ?_) (fun hb => ?_)
 ·skip
  have hF1 := ct hF hb
  refine cq (cr ?_)
  refine sQ 9 (yd (aD b) 0 0 K18 K3) <| sQ 10 (yl (aD b) 1 [vi g.Kind, vi g.A, vi g.B] (vi g.A) K4 (hS2.c 0)) <| sQ 11 (ym (vi n)) <| sQ 12 (yM n 1) ?_
  obtain ⟨r_2, hc1, hF1⟩ := bI hF1
  refine sc 13 rfl rfl (yC [vi g.A, vi 0, vi (i64.wrap (n - 1))] K53 (c_spec_l1In g.A 0 (i64.wrap (n - 1)) _  (hS2.inn0 [] rfl) hc1)) ?_
  rintro _ w_2 ⟨rfl, hd1⟩
  have hS3 := hS2.out00 hd1
  refine sQ 14 (ym (.bool r_2)) ?_
  refine sgq 15 (B := r_2) (v := pt (aD b) 2) rfl rfl (uT_ 14) (fun hg => (yd (aD b) 0 0 K25 K3)) ?_
  refine sgq 16 (B := r_2) (v := vi g.B) rfl rfl (uT_ 14) (fun hg1 => (yl (aD b) 2 [vi g.Kind, vi g.A, vi g.B] (vi g.B) K4 (hS3.c 0) rfl (gv_of (v := pt (aD b) 2) hg1))) ?_
  refine sgq 17 (B := r_2) (v := .bool (g.B == 0)) rfl rfl (uT_ 14) (fun hg2 => (yE g.B 0 rfl (gv_of (v := vi g.B) hg2))) ?_
  refine sQ 18 (Y_and (b := r_2) (z := (g.B == 0)) rfl rfl rfl rfl) <| sQ 4 (yg (.bool (r_2 && (g.B == 0)))) (rn (ct_ ?_))
  obtain rfl := sI hF1
  exact ret1 Try.results60 (v1 := .bool (r_2 && (g.B == 0))) (resAt_tmp rfl) ⟨rfl, (hS3.sN [])⟩
 ·skip
  have hF2 := cf' hF hb
  refine cq (cr ?_)
  refine sQ 20 (yd (aD b) 0 0 K36 K3) <| sQ 21 (yl (aD b) 0 [vi g.Kind, vi g.A, vi g.B] (vi g.Kind) K4 (hS2.c 0)) ?_
  obtain ⟨r_3, hc2, hF2⟩ := bI hF2
  refine sc 22 rfl rfl (yC [vi g.Kind, vi 9, vi 11] K53 (c_spec_l1In g.Kind 9 11 _  (hS2.inn0 [] rfl) hc2)) ?_
  rintro _ w_3 ⟨rfl, hd2⟩
  have hS4 := hS2.out00 hd2
  refine sQ 19 (yg (.bool r_3)) (rn ?_)
  refine cw_cond (b := r_3) rfl (fun hb1 => ?_) (fun hb1 => ?_)
  ·skip
   have hF3 := ct hF2 hb1
   refine cq (cr ?_)
   refine sQ 23 (yd (aD b) 0 0 K18 K3) <| sQ 24 (yl (aD b) 1 [vi g.Kind, vi g.A, vi g.B] (vi g.A) K4 (hS4.c 0)) <| sQ 25 (ym (vi n)) <| sQ 26 (yM n 1) ?_
   obtain ⟨r_4, hc3, hF3⟩ := bI hF3
   refine sc 27 rfl rfl (yC [vi g.A, vi 0, vi (i64.wrap (n - 1))] K53 (c_spec_l1In g.A 0 (i64.wrap (n - 1)) _  (hS4.inn0 [] rfl) hc3)) ?_
   rintro _ w_4 ⟨rfl, hd3⟩
   have hS5 := hS4.out00 hd3
   refine sQ 28 (ym (.bool r_4)) ?_
   refine sgq 29 (B := r_4) (v := pt (aD b) 2) rfl rfl (uT_ 28) (fun hg3 => (yd (aD b) 0 0 K25 K3)) ?_
   refine sgq 30 (B := r_4) (v := vi g.B) rfl rfl (uT_ 28) (fun hg4 => (yl (aD b) 2 [vi g.Kind, vi g.A, vi g.B] (vi g.B) K4 (hS5.c 0) rfl (gv_of (v := pt (aD b) 2) hg4))) ?_
   refine sgq 31 (B := r_4) (v := vi n) rfl rfl (uT_ 28) (fun hg5 => (ym (vi n))) ?_
   refine sgq 32 (B := r_4) (v := vi (i64.wrap (n - 1))) rfl rfl (uT_ 28) (fun hg6 => (yM n 1 rfl (gv_of (v := vi n) hg6))) ?_
   obtain ⟨r_5, hc4, hF3⟩ := bI hF3
   refine sgc 33 (B := r_4) (v := .bool r_5) (F := hS5.fn) rfl rfl (uT_ 28) hS5 (fun hg7 => (yC [vi g.B, vi 0, vi (i64.wrap (n - 1))] K53 (CV.mono (c_spec_l1In g.B 0 (i64.wrap (n - 1)) _  (hS5.inn0 [] rfl) (gb_inv hc4 hg7)) (by rintro _ _ ⟨rfl, h⟩; exact ⟨rfl, hS5.out00 h⟩)) rfl (mc (gv_of (v := vi g.B) hg7) (mc rfl (mc (gv_of (v := vi (i64.wrap (n - 1))) hg7) mn))))) ?_
   rintro w_5 hS6
   refine sQ 34 (Y_and (b := r_4) (z := r_5) rfl rfl rfl rfl) <| sQ 35 (ym (.bool (r_4 && r_5))) ?_
   refine sgq 36 (B := (r_4 && r_5)) (v := pt (aD b) 1) rfl rfl (uT_ 35) (fun hg8 => (yd (aD b) 0 0 K18 K3)) ?_
   refine sgq 37 (B := (r_4 && r_5)) (v := vi g.A) rfl rfl (uT_ 35) (fun hg9 => (yl (aD b) 1 [vi g.Kind, vi g.A, vi g.B] (vi g.A) K4 (hS6.c 0) rfl (gv_of (v := pt (aD b) 1) hg9))) ?_
   refine sgq 38 (B := (r_4 && r_5)) (v := pt (aD b) 2) rfl rfl (uT_ 35) (fun hg10 => (yd (aD b) 0 0 K25 K3)) ?_
   refine sgq 39 (B := (r_4 && r_5)) (v := vi g.B) rfl rfl (uT_ 35) (fun hg11 => (yl (aD b) 2 [vi g.Kind, vi g.A, vi g.B] (vi g.B) K4 (hS6.c 0) rfl (gv_of (v := pt (aD b) 2) hg11))) ?_
   refine sgq 40 (B := (r_4 && r_5)) (v := .bool (g.A != g.B)) rfl rfl (uT_ 35) (fun hg12 => (Y_ne (k := .i64) (a := g.A) (b := g.B) rfl (gv_of (v := vi g.A) hg12) (gv_of (v := vi g.B) hg12))) ?_
   refine sQ 41 (Y_and (b := (r_4 && r_5)) (z := (g.A != g.B)) rfl rfl rfl rfl) <| sQ 4 (yg (.bool ((r_4 && r_5) && (g.A != g.B)))) (rn (ct_ ?_))
   obtain rfl := sI hF3
   exact ret1 Try.results60 (v1 := .bool ((r_4 && r_5) && (g.A != g.B))) (resAt_tmp rfl) ⟨rfl, (hS6.sN [])⟩
  ·skip
   have hF4 := cf' hF2 hb1
   refine cw_skip (cq (cr ?_))
   refine sQ 42 (yd (aD b) 0 0 K36 K3) <| sQ 43 (yl (aD b) 0 [vi g.Kind, vi g.A, vi g.B] (vi g.Kind) K4 (hS4.c 0)) <| sQ 44 (yE g.Kind 12) <| sQ 45 (ym (.bool (g.Kind == 12))) ?_
   refine sgq 46 (B := (g.Kind == 12)) (v := pt (aD b) 1) rfl rfl (uT_ 45) (fun hg13 => (yd (aD b) 0 0 K18 K3)) ?_
   refine sgq 47 (B := (g.Kind == 12)) (v := vi g.A) rfl rfl (uT_ 45) (fun hg14 => (yl (aD b) 1 [vi g.Kind, vi g.A, vi g.B] (vi g.A) K4 (hS4.c 0) rfl (gv_of (v := pt (aD b) 1) hg14))) ?_
   refine sgq 48 (B := (g.Kind == 12)) (v := .bool (g.A == 0)) rfl rfl (uT_ 45) (fun hg15 => (yE g.A 0 rfl (gv_of (v := vi g.A) hg15))) ?_
   refine sQ 49 (Y_and (b := (g.Kind == 12)) (z := (g.A == 0)) rfl rfl rfl rfl) <| sQ 50 (ym (.bool ((g.Kind == 12) && (g.A == 0)))) ?_
   refine sgq 51 (B := ((g.Kind == 12) && (g.A == 0))) (v := pt (aD b) 2) rfl rfl (uT_ 50) (fun hg16 => (yd (aD b) 0 0 K25 K3)) ?_
   refine sgq 52 (B := ((g.Kind == 12) && (g.A == 0))) (v := vi g.B) rfl rfl (uT_ 50) (fun hg17 => (yl (aD b) 2 [vi g.Kind, vi g.A, vi g.B] (vi g.B) K4 (hS4.c 0) rfl (gv_of (v := pt (aD b) 2) hg17))) ?_
   refine sgq 53 (B := ((g.Kind == 12) && (g.A == 0))) (v := .bool (g.B == 0)) rfl rfl (uT_ 50) (fun hg18 => (yE g.B 0 rfl (gv_of (v := vi g.B) hg18))) ?_
   refine sQ 54 (Y_and (b := ((g.Kind == 12) && (g.A == 0))) (z := (g.B == 0)) rfl rfl rfl rfl) <| sQ 4 (yg (.bool (((g.Kind == 12) && (g.A == 0)) && (g.B == 0)))) (rn (ct_ ?_))
   obtain rfl := sI hF4
   exact ret1 Try.results60 (v1 := .bool (((g.Kind == 12) && (g.A == 0)) && (g.B == 0))) (resAt_tmp rfl) ⟨rfl, (hS4.sN [])⟩

theorem c_spec_l4Good (c : TCircuit) (B : Option Addr) (c1 n : Nat) (w0 : World) (hn : c.Gates.length = n) (hS : ST w0 [] w0 [] [⟨B, (c.Gates.flatMap eN2)⟩]) {r_ : Bool} (hF : F_spec_l4Good c = some r_) :
  CV Try.prog 35 #[.agg #[vi c.Qubits, .slice B n c1]] w0 (fun v w' => v = .bool r_ ∧ ST w0 [] w' [] []) := by
 subst hn
 unfold F_spec_l4Good at hF
 refine cv_of_cw 28 Try.func35 rfl Try.ntmps35 rfl ?_
 refine cq (cr ?_)
 refine sS 1 (yB 28 (.agg #[vi c.Qubits, .slice B c.Gates.length c1]) [vi c.Qubits, .slice B c.Gates.length c1] 2 hS) ?_
 rintro _ w_ ⟨b, rfl, hS1⟩
 refine sQ 2 (yg (.bool false)) (rn (cq (cq (cr ?_))))
 refine sQ 5 (yd (aD b) 0 0 K47 K3) <| sQ 6 (yl (aD b) 0 [vi c.Qubits, .slice B c.Gates.length c1] (vi c.Qubits) K4 (hS1.c 0)) ?_
 obtain ⟨r_1, hc, hF⟩ := bI hF
 refine sc 7 rfl rfl (yC [vi c.Qubits, vi 1, vi 5] K53 (c_spec_l1In c.Qubits 1 5 _  (hS1.inn0 [] rfl) hc)) ?_
 rintro _ w_1 ⟨rfl, hd⟩
 have hS2 := hS1.out00 hd
 refine sQ 8 (Y_not (p := r_1) rfl rfl) <| sQ 9 (ym (.bool (!r_1))) ?_
 refine sgq 10 (B := (!(!r_1))) (v := pt (aD b) 1) rfl rfl (uF_ 9) (fun hg => (yd (aD b) 0 0 K33 K17)) ?_
 refine sgq 11 (B := (!(!r_1))) (v := .slice B c.Gates.length c1) rfl rfl (uF_ 9) (fun hg1 => (yl (aD b) 1 [vi c.Qubits, .slice B c.Gates.length c1] (.slice B c.Gates.length c1) K22 (hS2.c 0) rfl (gv_of (v := pt (aD b) 1) hg1))) ?_
 refine sgq 12 (B := (!(!r_1))) (v := vi (c.Gates.length : Int)) rfl rfl (uF_ 9) (fun hg2 => (Y_len (B := B) (m := c.Gates.length) (c := c1) K15 rfl (gv_of (v := .slice B c.Gates.length c1) hg2))) ?_
 refine sgq 13 (B := (!(!r_1))) (v := .bool (decide (400 < (c.Gates.length : Int)))) rfl rfl (uF_ 9) (fun hg3 => (Y_gt (k := .i64) (a := (c.Gates.length : Int)) (b := 400) rfl (gv_of (v := vi (c.Gates.length : Int)) hg3) rfl)) ?_
 refine sQ 14 (Y_or (b := (!r_1)) (z := (decide (400 < (c.Gates.length : Int)))) rfl rfl rfl rfl) (rn ?_)
 refine cw_cond (b := ((!r_1) || (decide (400 < (c.Gates.length : Int))))) rfl (fun hb => ?_) (fun hb => ?_)
 ·skip
  have hF1 := ct hF hb
  refine cq (cr ?_)
  refine sQ 2 (yg (.bool false)) (rn (ct_ ?_))
  obtain rfl := sI hF1
  exact ret1 Try.results35 (v1 := .bool false) (resAt_tmp rfl) ⟨rfl, (hS2.sN [])⟩
 ·skip
  have hF2 := cf' hF hb
  refine cw_skip (cq (cq (cr ?_)))
  refine sQ 15 (yd (aD b) 0 0 K33 K17) <| sQ 16 (yl (aD b) 1 [vi c.Qubits, .slice B c.Gates.length c1] (.slice B c.Gates.length c1) K22 (hS2.c 0)) <| sQ 17 (Y_len (B := B) (m := c.Gates.length) (c := c1) K15 rfl rfl) <| sQ 18 (ym (vi 0)) (rn ?_)
  obtain ⟨hN, hF2⟩ := chk_inv hF2
  obtain ⟨z, hz, hF3⟩ := bI hF2
  refine cw_block ?_
  refine cw_loop (fun k f w => ∃ (i : Nat), FF f [(1, pt (aD b) 0), (16, .slice B c.Gates.length c1), (17, vi (c.Gates.length : Int)), (18, vi (i : Int))] ∧ ST w0 [] w [⟨aD b, 28, [vi c.Qubits, .slice B c.Gates.length c1], 2⟩] [⟨B, (c.Gates.flatMap eN2)⟩] ∧ i + k = c.Gates.length ∧ forX (F_spec_l4Good_l1 c) k i () = some z) c.Gates.length ⟨0, (fc rfl (fc rfl (fc rfl (fc rfl fn_)))), (hS2.sel [0] rfl rfl), Nat.zero_add _, hz⟩ ?_
  rintro k_ f w ⟨i, hf, hS3, hik, hL⟩
  refine cq (cr ?_)
  refine sQ 19 (yL (i : Int) (c.Gates.length : Int) rfl (hf.g 18 3) (hf.g 17 2)) (rn (cq ?_))
  refine cw_cond (b := (decide ((i : Int) < (c.Gates.length : Int)))) rfl (fun hlt => ?_) (fun hlt => ?_)
  ·skip
   have hlt1 : i < c.Gates.length := by have h := of_decide_eq_true hlt; omega
   obtain ⟨K7, rfl⟩ : ∃ k2, k_ = k2 + 1 := ⟨k_ - 1, by omega⟩
   obtain ⟨y, hb1, hL1⟩ := forX_go hL
   unfold F_spec_l4Good_l1 at hb1
   refine cw_skip (cq (cw_block (cq (cr ?_))))
   obtain ⟨x, hx, hb1⟩ := bI hb1
   refine sQ 20 (Y_index (B := B) (m := c.Gates.length) (c := c1) (k := .i64) (i := (i : Int)) K15 K13 rfl (hf.g 16 1) (hf.g 18 3) (gi_isSome eN4 rfl (hS3.rf (i := 0) rfl) hx) (getI_nn hx) (getI_ltI hx rfl)) <| sQ 21 (ya B ((i : Int).toNat * 3) (c.Gates.flatMap eN2) [vi x.Kind, vi x.A, vi x.B] K26 K13 (hS3.rf (i := 0) rfl) rfl rfl (eN4 x) (gi_seg eN4 hx)) ?_
   refine sS 4 (yN [vi 0, vi 0, vi 0] 3 hS3 K28) ?_
   rintro _ w_2 ⟨b1, rfl, hS4⟩
   refine s0 (yT 1 3 (aD b1) 55 (.agg #[vi x.Kind, vi x.A, vi x.B]) [vi x.Kind, vi x.A, vi x.B] 0 hS4 K13) ?_
   rintro _ w_3 ⟨rfl, hS5⟩
   refine rn (cq (cr ?_))
   refine sQ 22 (yd (aD b) 0 0 K47 K3 rfl (hf.g 1 0)) <| sQ 23 (yl (aD b) 0 [vi c.Qubits, .slice B c.Gates.length c1] (vi c.Qubits) K4 (hS5.c 0)) <| sQ 24 (yb (aD b1) 0 [vi x.Kind, vi x.A, vi x.B] K26 K13 (hS5.c 1)) ?_
   obtain ⟨r_2, hc1, hb1⟩ := bI hb1
   refine sc 25 rfl rfl (yC [vi c.Qubits, .agg #[vi x.Kind, vi x.A, vi x.B]] k_call_60 (c_spec_l4Gate c.Qubits x _  (hS5.inn0 [] rfl) hc1)) ?_
   rintro _ w_4 ⟨rfl, hd1⟩
   have hS6 := hS5.out00 hd1
   refine sQ 26 (Y_not (p := r_2) rfl rfl) (rn ?_)
   refine cw_cond (b := (!r_2)) rfl (fun hb2 => ?_) (fun hb2 => ?_)
   ·skip
    have hF4 := ct hb1 hb2
    refine cq (cr ?_)
    refine sQ 2 (yg (.bool false)) (rn (ct_ ?_))
    obtain rfl := sI hF4
    obtain rfl := sI hL1
    obtain rfl := sI hF3
    exact ret1 Try.results35 (v1 := .bool false) (resAt_tmp rfl) ⟨rfl, (hS6.sN [])⟩
   ·skip
    have hF5 := cf' hb1 hb2
    refine cw_skip (cr ?_)
    refine sQ 27 (yP (i : Int) 1 rfl (hf.g 18 3)) <| sQ 18 (ym (vi (i64.wrap ((i : Int) + 1)))) (rn ?_)
    obtain rfl := sI hF5
    exact ⟨K7, Nat.lt_succ_self _, i + 1, (fc (hf.g 1 0) (fc (hf.g 16 1) (fc (hf.g 17 2) (fc (congrArg (Value.int .i64) (wr_succ hlt1 hN)) fn_)))), (hS6.sel [0] rfl rfl), (by omega), hL1⟩
  ·skip
   obtain rfl : k_ = 0 := by have h := of_decide_eq_false hlt; omega
   refine cw_exit rfl ?_
   obtain rfl := sI hL
   refine cq (cr ?_)
   refine sQ 2 (yg (.bool true)) (rn (ct_ ?_))
   obtain rfl := sI hF3
   exact ret1 Try.results35 (v1 := .bool true) (resAt_tmp rfl) ⟨rfl, (hS3.sN [])⟩

theorem c_spec_l4Count (c : TCircuit) (lo : Int) (hi : Int) (B : Option Addr) (c1 n : Nat) (w0 : World) (hn : c.Gates.length = n) (hS : ST w0 [] w0 [] [⟨B, (c.Gates.flatMap eN2)⟩]) {r_ : Int} (hF : F_spec_l4Count c lo hi = some r_) :
  CV Try.prog 36 #[.agg #[vi c.Qubits, .slice B n c1], vi lo, vi hi] w0 (fun v w' => v = vi r_ ∧ ST w0 [] w' [] []) := by
 subst hn
 unfold F_spec_l4Count at hF
 refine cv_of_cw 26 Try.func36 rfl Try.ntmps36 rfl ?_
 refine cq (cr ?_)
 refine sS 3 (yB 28 (.agg #[vi c.Qubits, .slice B c.Gates.length c1]) [vi c.Qubits, .slice B c.Gates.length c1] 2 hS) ?_
 rintro _ w_ ⟨b, rfl, hS1⟩
 refine sQ 6 (yg (vi 0)) (rn (cq (cr ?_)))
 refine sQ 7 (yg (vi 0)) (rn (cq (cq (cr ?_))))
 refine sQ 10 (yd (aD b) 0 0 K33 K17) <| sQ 11 (yl (aD b) 1 [vi c.Qubits, .slice B c.Gates.length c1] (.slice B c.Gates.length c1) K22 (hS1.c 0)) <| sQ 12 (Y_len (B := B) (m := c.Gates.length) (c := c1) K15 rfl rfl) <| sQ 13 (ym (vi 0)) (rn ?_)
 obtain ⟨hN, hF⟩ := chk_inv hF
 obtain ⟨z, hz, hF1⟩ := bI hF
 refine cw_block ?_
 refine cw_loop (fun k f w => ∃ (i : Nat) (n1 : Int), FF f [(1, vi lo), (2, vi hi), (7, vi n1), (11, .slice B c.Gates.length c1), (12, vi (c.Gates.length : Int)), (13, vi (i : Int))] ∧ ST w0 [] w [] [⟨B, (c.Gates.flatMap eN2)⟩] ∧ i + k = c.Gates.length ∧ forN (F_spec_l4Count_l1 c lo hi) k i n1 = some z) c.Gates.length ⟨0, 0, (fc rfl (fc rfl (fc rfl (fc rfl (fc rfl (fc rfl fn_)))))), (hS1.sel [] rfl rfl), Nat.zero_add _, hz⟩ ?_
 rintro k_ f w ⟨i, n1, hf, hS2, hik, hL⟩
 refine cq (cr ?_)
 refine sQ 14 (yL (i : Int) (c.Gates.length : Int) rfl (hf.g 13 5) (hf.g 12 4)) (rn (cq ?_))
 refine cw_cond (b := (decide ((i : Int) < (c.Gates.length : Int)))) rfl (fun hlt => ?_) (fun hlt => ?_)
 ·skip
  have hlt1 : i < c.Gates.length := by have h := of_decide_eq_true hlt; omega
  obtain ⟨K7, rfl⟩ : ∃ k2, k_ = k2 + 1 := ⟨k_ - 1, by omega⟩
  obtain ⟨y, hb, hL1⟩ := forN_go hL
  unfold F_spec_l4Count_l1 at hb
  refine cw_skip (cq ?_)
  obtain ⟨z1, hz1, hF2⟩ := bI hb
  refine cw_mid (fun f w => ∃ (n2 : Int), n2 = z1 ∧ FF f [(1, vi lo), (2, vi hi), (7, vi n2), (11, .slice B c.Gates.length c1), (12, vi (c.Gates.length : Int)), (13, vi (i : Int))] ∧ ST w0 [] w [] [⟨B, (c.Gates.flatMap eN2)⟩]) ?_ ?_
  ·skip
   refine cw_block (cq (cr ?_))
   obtain ⟨x, hx, hz1⟩ := bI hz1
   refine sQ 15 (Y_index (B := B) (m := c.Gates.length) (c := c1) (k := .i64) (i := (i : Int)) K15 K13 rfl (hf.g 11 3) (hf.g 13 5) (gi_isSome eN4 rfl (hS2.rf (i := 0) rfl) hx) (getI_nn hx) (getI_ltI hx rfl)) <| sQ 16 (ya B ((i : Int).toNat * 3) (c.Gates.flatMap eN2) [vi x.Kind, vi x.A, vi x.B] K26 K13 (hS2.rf (i := 0) rfl) rfl rfl (eN4 x) (gi_seg eN4 hx)) ?_
   refine sS 9 (yN [vi 0, vi 0, vi 0] 3 hS2 K28) ?_
   rintro _ w_1 ⟨b1, rfl, hS4⟩
   refine s0 (yT 0 3 (aD b1) 55 (.agg #[vi x.Kind, vi x.A, vi x.B]) [vi x.Kind, vi x.A, vi x.B] 0 hS4 K13) ?_
   rintro _ w_2 ⟨rfl, hS5⟩
   refine rn (cq (cr ?_))
   refine sQ 17 (yd (aD b1) 0 0 K36 K3) <| sQ 18 (yl (aD b1) 0 [vi x.Kind, vi x.A, vi x.B] (vi x.Kind) K4 (hS5.c 0)) <| sQ 19 (ym (vi lo) rfl (hf.g 1 0)) <| sQ 20 (ym (vi hi) rfl (hf.g 2 1)) ?_
   obtain ⟨r_1, hc, hz1⟩ := bI hz1
   refine sc 21 rfl rfl (yC [vi x.Kind, vi lo, vi hi] K53 (c_spec_l1In x.Kind lo hi _  (hS5.inn0 [] rfl) hc)) ?_
   rintro _ w_3 ⟨rfl, hd⟩
   have hS6 := hS5.out00 hd
   refine rn ?_
   refine cw_cond (b := r_1) rfl (fun hb1 => ?_) (fun hb1 => ?_)
   ·skip
    have hF3 := ct hz1 hb1
    refine cr ?_
    refine sQ 22 (ym (vi n1) rfl (hf.g 7 2)) <| sQ 23 (yP n1 1) <| sQ 7 (yg (vi (i64.wrap (n1 + 1)))) (rn ?_)
    exact ⟨(i64.wrap (n1 + 1)), (sI hF3), (fc (hf.g 1 0) (fc (hf.g 2 1) (fc rfl (fc (hf.g 11 3) (fc (hf.g 12 4) (fc (hf.g 13 5) fn_)))))), (hS6.sel [] rfl rfl)⟩
   ·skip
    have hF4 := cf' hz1 hb1
    refine cw_skip ?_
    exact ⟨n1, (sI hF4), (fc (hf.g 1 0) (fc (hf.g 2 1) (fc (hf.g 7 2) (fc (hf.g 11 3) (fc (hf.g 12 4) (fc (hf.g 13 5) fn_)))))), (hS6.sel [] rfl rfl)⟩
  rintro f w ⟨n2, rfl, hf1, hS3⟩
  refine cr ?_
  refine sQ 24 (yP (i : Int) 1 rfl (hf1.g 13 5)) <| sQ 13 (ym (vi (i64.wrap ((i : Int) + 1)))) (rn ?_)
  obtain rfl := sI hF2
  exact ⟨K7, Nat.lt_succ_self _, i + 1, n2, (fc (hf1.g 1 0) (fc (hf1.g 2 1) (fc (hf1.g 7 2) (fc (hf1.g 11 3) (fc (hf1.g 12 4) (fc (congrArg (Value.int .i64) (wr_succ hlt1 hN)) fn_)))))), (hS3.sel [] rfl rfl), (by omega), hL1⟩
 ·skip
  obtain rfl : k_ = 0 := by have h := of_decide_eq_false hlt; omega
  refine cw_exit rfl ?_
  obtain rfl := sI hL
  refine cq (cr ?_)
  refine sQ 25 (ym (vi n1) rfl (hf.g 7 2)) <| sQ 6 (yg (vi n1)) (rn (ct_ ?_))
  obtain rfl := sI hF1
  exact ret1 Try.results36 (v1 := vi n1) (resAt_tmp rfl) ⟨rfl, (hS2.sN [])⟩

theorem c_spec_CountT (c : TCircuit) (B : Option Addr) (c1 n : Nat) (w0 : World) (hn : c.Gates.length = n) (hS : ST w0 [] w0 [] [⟨B, (c.Gates.flatMap eN2)⟩]) {r_ : Int} {r_1 : Bool} (hF : F_spec_CountT c = some (r_, r_1)) :
  CV Try.prog 21 #[.agg #[vi c.Qubits, .slice B n c1]] w0 (fun v w' => v = .tuple #[vi r_, .bool r_1] ∧ ST w0 [] w' [] []) := by
 subst hn
 unfold F_spec_CountT at hF
 refine cv_of_cw 9 Try.func21 rfl Try.ntmps21 rfl ?_
 refine cq (cr ?_)
 refine sS 1 (yB 28 (.agg #[vi c.Qubits, .slice B c.Gates.length c1]) [vi c.Qubits, .slice B c.Gates.length c1] 2 hS) ?_
 rintro _ w_ ⟨b, rfl, hS1⟩
 refine sQ 2 (yg (vi 0)) <| sQ 3 (yg (.bool false)) (rn (cq (cq (cr ?_))))
 refine sQ 4 (yb (aD b) 0 [vi c.Qubits, .slice B c.Gates.length c1] K19 K16 (hS1.c 0)) ?_
 obtain ⟨r_2, hc, hF⟩ := bI hF
 refine sc 5 rfl rfl (yC [.agg #[vi c.Qubits, .slice B c.Gates.length c1]] k_call_35 (c_spec_l4Good c B c1 c.Gates.length _ rfl (hS1.inn0 [(true, 0)] rfl) hc)) ?_
 rintro _ w_1 ⟨rfl, hd⟩
 have hS2 := hS1.out00 hd
 refine sQ 6 (Y_not (p := r_2) rfl rfl) (rn ?_)
 refine cw_cond (b := (!r_2)) rfl (fun hb => ?_) (fun hb => ?_)
 ·skip
  have hF1 := ct hF hb
  refine cq (cr ?_)
  refine sQ 2 (yg (vi 0)) <| sQ 3 (yg (.bool false)) (rn (ct_ ?_))
  obtain ⟨rfl, rfl⟩ := pr2 (sI hF1)
  exact ret2 Try.results21 (v1 := vi 0) (resAt_tmp rfl) (v2 := .bool false) (resAt_tmp rfl) ⟨rfl, (hS2.sN [])⟩
 ·skip
  have hF2 := cf' hF hb
  refine cw_skip (cq (cr ?_))
  refine sQ 7 (yb (aD b) 0 [vi c.Qubits, .slice B c.Gates.length c1] K19 K16 (hS2.c 0)) ?_
  obtain ⟨r_3, hc1, hF2⟩ := bI hF2
  refine sc 8 rfl rfl (yC [.agg #[vi c.Qubits, .slice B c.Gates.length c1], vi 7, vi 8] k_call_36 (c_spec_l4Count c 7 8 B c1 c.Gates.length _ rfl (hS2.inn0 [(true, 0)] rfl) hc1)) ?_
  rintro _ w_2 ⟨rfl, hd1⟩
  have hS3 := hS2.out00 hd1
  refine sQ 2 (yg (vi r_3)) <| sQ 3 (yg (.bool true)) (rn (ct_ ?_))
  obtain ⟨rfl, rfl⟩ := pr2 (sI hF2)
  exact ret2 Try.results21 (v1 := vi r_3) (resAt_tmp rfl) (v2 := .bool true) (resAt_tmp rfl) ⟨rfl, (hS3.sN [])⟩

theorem c_spec_l7Clifford (c : TCircuit) (B : Option Addr) (c1 n : Nat) (w0 : World) (hn : c.Gates.length = n) (hS : ST w0 [] w0 [] [⟨B, (c.Gates.flatMap eN2)⟩]) {r_ : Bool} (hF : F_spec_l7Clifford c = some r_) :
  CV Try.prog 12 #[.agg #[vi c.Qubits, .slice B n c1]] w0 (fun v w' => v = .bool r_ ∧ ST w0 [] w' [] []) := by
 subst hn
 unfold F_spec_l7Clifford at hF
 refine cv_of_cw 15 Try.func12 rfl Try.ntmps12 rfl ?_
 refine cq (cr ?_)
 refine sS 1 (yB 28 (.agg #[vi c.Qubits, .slice B c.Gates.length c1]) [vi c.Qubits, .slice B c.Gates.length c1] 2 hS) ?_
 rintro _ w_ ⟨b, rfl, hS1⟩
 refine sQ 2 (yg (.bool false)) (rn (cq (cr ?_)))
 refine sQ 6 (yb (aD b) 0 [vi c.Qubits, .slice B c.Gates.length c1] K19 K16 (hS1.c 0)) ?_
 obtain ⟨⟨r_1, r_2⟩, hc, hF⟩ := bI hF
 refine sc 7 rfl rfl (yC [.agg #[vi c.Qubits, .slice B c.Gates.length c1]] k_call_21 (c_spec_CountT c B c1 c.Gates.length _ rfl (hS1.inn0 [(true, 0)] rfl) hc)) ?_
 rintro _ w_1 ⟨rfl, hd⟩
 have hS2 := hS1.out00 hd
 refine sQ 5 (ym (.tuple #[vi r_1, .bool r_2])) <| sQ 8 (ye (vi r_1)) <| sQ 9 (ye (.bool r_2)) <| sQ 3 (yg (vi r_1)) <| sQ 4 (yg (.bool r_2)) (rn (cq (cr ?_)))
 refine sQ 10 (ym (.bool r_2)) <| sQ 11 (ym (.bool r_2)) ?_
 refine sgq 12 (B := r_2) (v := vi r_1) rfl rfl (uT_ 11) (fun hg => (ym (vi r_1))) ?_
 refine sgq 13 (B := r_2) (v := .bool (r_1 == 0)) rfl rfl (uT_ 11) (fun hg1 => (yE r_1 0 rfl (gv_of (v := vi r_1) hg1))) ?_
 refine sQ 14 (Y_and (b := r_2) (z := (r_1 == 0)) rfl rfl rfl rfl) <| sQ 2 (yg (.bool (r_2 && (r_1 == 0)))) (rn (ct_ ?_))
 obtain rfl := sI hF
 exact ret1 Try.results12 (v1 := .bool (r_2 && (r_1 == 0))) (resAt_tmp rfl) ⟨rfl, (hS2.sN [])⟩

theorem c_spec_l7Letter (p : TPauli) (q : Int)  (w0 : World)  (hS : ST w0 [] w0 [] []) {r_ : Int} (hF : F_spec_l7Letter p q = some r_) :
  CV Try.prog 38 #[.agg #[vi p.Phase, vi p.X, vi p.Z], vi q] w0 (fun v w' => v = vi r_ ∧ ST w0 [] w' [] []) := by
 unfold F_spec_l7Letter at hF
 refine cv_of_cw 19 Try.func38 rfl Try.ntmps38 rfl ?_
 refine cq (cr ?_)
 refine sS 2 (yB 71 (.agg #[vi p.Phase, vi p.X, vi p.Z]) [vi p.Phase, vi p.X, vi p.Z] 3 hS) ?_
 rintro _ w_ ⟨b, rfl, hS1⟩
 refine sQ 4 (yg (vi 0)) (rn (cq (cr ?_)))
 refine sQ 5 (yd (aD b) 0 0 K37 K3) <| sQ 6 (yl (aD b) 1 [vi p.Phase, vi p.X, vi p.Z] (vi p.X) K4 (hS1.c 0)) <| sQ 7 (ym (vi q)) <| sQ 8 (Y_conv (k := .i64) (a := q) (T := 3) (T' := 74) K39 K40 rfl rfl) ?_
 obtain ⟨hsh, hF⟩ := chk_inv hF
 refine sQ 9 (Y_shr (k := .i64) (a := p.X) (k' := .u64) (b := (IntKind.u64.wrap q)) rfl rfl rfl hsh) <| sQ 10 (Y_band (k := .i64) (a := (shrK .i64 p.X (IntKind.u64.wrap q))) (b := 1) rfl rfl rfl) <| sQ 11 (yd (aD b) 0 0 K38 K3) <| sQ 12 (yl (aD b) 2 [vi p.Phase, vi p.X, vi p.Z] (vi p.Z) K4 (hS1.c 0)) <| sQ 13 (ym (vi q)) <| sQ 14 (Y_conv (k := .i64) (a := q) (T := 3) (T' := 74) K39 K40 rfl rfl) ?_
 obtain ⟨hsh1, hF⟩ := chk_inv hF
 refine sQ 15 (Y_shr (k := .i64) (a := p.Z) (k' := .u64) (b := (IntKind.u64.wrap q)) rfl rfl rfl hsh1) <| sQ 16 (Y_band (k := .i64) (a := (shrK .i64 p.Z (IntKind.u64.wrap q))) (b := 1) rfl rfl rfl) <| sQ 17 (yX 2 (bits .and .i64 (shrK .i64 p.Z (IntKind.u64.wrap q)) 1)) <| sQ 18 (yP (bits .and .i64 (shrK .i64 p.X (IntKind.u64.wrap q)) 1) (i64.wrap (2 * (bits .and .i64 (shrK .i64 p.Z (IntKind.u64.wrap q)) 1)))) <| sQ 4 (yg (vi (i64.wrap ((bits .and .i64 (shrK .i64 p.X (IntKind.u64.wrap q)) 1) + (i64.wrap (2 * (bits .and .i64 (shrK .i64 p.Z (IntKind.u64.wrap q)) 1))))))) (rn (ct_ ?_))
 obtain rfl := sI hF
 exact ret1 Try.results38 (v1 := vi (i64.wrap ((bits .and .i64 (shrK .i64 p.X (IntKind.u64.wrap q)) 1) + (i64.wrap (2 * (bits .and .i64 (shrK .i64 p.Z (IntKind.u64.wrap q)) 1)))))) (resAt_tmp rfl) ⟨rfl, (hS1.sN [])⟩

theorem c_spec_l7Sign (a : Int) (b : Int)  (w0 : World)  (hS : ST w0 [] w0 [] []) {r_ : Int} (hF : F_spec_l7Sign a b = some r_) :
  CV Try.prog 62 #[vi a, vi b] w0 (fun v w' => v = vi r_ ∧ ST w0 [] w' [] []) := by
 unfold F_spec_l7Sign at hF
 refine cv_of_cw 16 Try.func62 rfl Try.ntmps62 rfl ?_
 refine cq (cr ?_)
 refine sQ 4 (yg (vi 0)) (rn (cq (cr ?_)))
 refine sQ 6 (show Y _ _ _ _ _ (.agg (([0, 0, 0, 0] : List Int).flatMap encI).toArray) from Y_buildA (zs := [vi 0, vi 0, vi 0, vi 0]) (vs := [(0, vi 0), (1, vi 0), (2, vi 0), (3, vi 0)]) (cs := [vi 0, vi 0, vi 0, vi 0]) K58 K3 K69 rfl (mpc rfl (mpc rfl (mpc rfl (mpc rfl mpn)))) (by kernel_rfl)) <| sQ 7 (show Y _ _ _ _ _ (.agg (([0, 0, 3, 1] : List Int).flatMap encI).toArray) from Y_buildA (zs := [vi 0, vi 0, vi 0, vi 0]) (vs := [(0, vi 0), (1, vi 0), (2, vi 3), (3, vi 1)]) (cs := [vi 0, vi 0, vi 3, vi 1]) K58 K3 K69 rfl (mpc rfl (mpc rfl (mpc rfl (mpc rfl mpn)))) (by kernel_rfl)) <| sQ 8 (show Y _ _ _ _ _ (.agg (([0, 1, 0, 3] : List Int).flatMap encI).toArray) from Y_buildA (zs := [vi 0, vi 0, vi 0, vi 0]) (vs := [(0, vi 0), (1, vi 1), (2, vi 0), (3, vi 3)]) (cs := [vi 0, vi 1, vi 0, vi 3]) K58 K3 K69 rfl (mpc rfl (mpc rfl (mpc rfl (mpc rfl mpn)))) (by kernel_rfl)) <| sQ 9 (show Y _ _ _ _ _ (.agg (([0, 3, 1, 0] : List Int).flatMap encI).toArray) from Y_buildA (zs := [vi 0, vi 0, vi 0, vi 0]) (vs := [(0, vi 0), (1, vi 3), (2, vi 1), (3, vi 0)]) (cs := [vi 0, vi 3, vi 1, vi 0]) K58 K3 K69 rfl (mpc rfl (mpc rfl (mpc rfl (mpc rfl mpn)))) (by kernel_rfl)) <| sQ 10 (show Y _ _ _ _ _ (.agg (([([0, 0, 0, 0] : List Int), ([0, 0, 3, 1] : List Int), ([0, 1, 0, 3] : List Int), ([0, 3, 1, 0] : List Int)] : List (List Int)).flatMap encA4_Int).toArray) from Y_buildA (zs := [vi 0, vi 0, vi 0, vi 0, vi 0, vi 0, vi 0, vi 0, vi 0, vi 0, vi 0, vi 0, vi 0, vi 0, vi 0, vi 0]) (vs := [(0, .agg (([0, 0, 0, 0] : List Int).flatMap encI).toArray), (1, .agg (([0, 0, 3, 1] : List Int).flatMap encI).toArray), (2, .agg (([0, 1, 0, 3] : List Int).flatMap encI).toArray), (3, .agg (([0, 3, 1, 0] : List Int).flatMap encI).toArray)]) (cs := (([([0, 0, 0, 0] : List Int), ([0, 0, 3, 1] : List Int), ([0, 1, 0, 3] : List Int), ([0, 3, 1, 0] : List Int)] : List (List Int)).flatMap encA4_Int)) k_ar_99_4_98 k_sz_98_4 k_zero_99 rfl (mpc rfl (mpc rfl (mpc rfl (mpc rfl mpn)))) (by kernel_rfl)) ?_
 refine sS 5 (yN ((List.replicate 4 (List.replicate 4 0)).flatMap encA4_Int) 16 hS k_zero_99) ?_
 rintro _ w_ ⟨b1, rfl, hS1⟩
 refine s0 (yT 0 16 (aD b1) 99 (.agg (([([0, 0, 0, 0] : List Int), ([0, 0, 3, 1] : List Int), ([0, 1, 0, 3] : List Int), ([0, 3, 1, 0] : List Int)] : List (List Int)).flatMap encA4_Int).toArray) (([([0, 0, 0, 0] : List Int), ([0, 0, 3, 1] : List Int), ([0, 1, 0, 3] : List Int), ([0, 3, 1, 0] : List Int)] : List (List Int)).flatMap encA4_Int) 0 hS1 k_sz_99_16 rfl rfl rfl rfl (fm_lenn2 encA4_Int_len rfl rfl) (fm_one' encA4_Int_one _) rfl (fm_fit encA4_Int_len (List.length_replicate (n := 4)) rfl) (fm_spl encA4_Int_len (List.length_replicate (n := 4)) rfl)) ?_
 rintro _ w_1 ⟨rfl, hS2⟩
 refine rn (cq (cr ?_))
 refine sQ 11 (ym (vi a)) <| sQ 12 (ym (vi b)) ?_
 obtain ⟨x, hx, hF⟩ := bI hF
 refine sQ 13 (Y_indexArr0 (B := aD b1) (k := .i64) (i := a) k_ar_99_4_98 k_sz_98_4 rfl rfl rfl (getI_nn hx) (getI_ltI hx rfl)) ?_
 obtain ⟨hlt, hF⟩ := chk_inv hF
 obtain ⟨x1, hx1, hF⟩ := bI hF
 refine sQ 14 (Y_indexArr (B := aD b1) (off := a.toNat * 4) (k := .i64) (i := b) K58 K3 rfl rfl rfl (getI_nn hx1) hlt) <| sQ 15 (yl (aD b1) (a.toNat * 4 + b.toNat * 1) (([([0, 0, 0, 0] : List Int), ([0, 0, 3, 1] : List Int), ([0, 1, 0, 3] : List Int), ([0, 3, 1, 0] : List Int)] : List (List Int)).flatMap encA4_Int) (vi x1) K4 (hS2.c 0) rfl rfl (gi_at encA4_Int_len hx (encA4_Int_at hx1 hlt))) <| sQ 4 (yg (vi x1)) (rn (ct_ ?_))
 obtain rfl := sI hF
 exact ret1 Try.results62 (v1 := vi x1) (resAt_tmp rfl) ⟨rfl, (hS2.sN [])⟩

theorem c_spec_l7Mul (a : TPauli) (b : TPauli)  (w0 : World)  (hS : ST w0 [] w0 [] []) {r_ : TPauli} (hF : F_spec_l7Mul a b = some r_) :
  CV Try.prog 42 #[.agg #[vi a.Phase, vi a.X, vi a.Z], .agg #[vi b.Phase, vi b.X, vi b.Z]] w0 (fun v w' => v = .agg #[vi r_.Phase, vi r_.X, vi r_.Z] ∧ ST w0 [] w' [] []) := by
 unfold F_spec_l7Mul at hF
 refine cv_of_cw 43 Try.func42 rfl Try.ntmps42 rfl ?_
 refine cq (cr ?_)
 refine sS 2 (yB 71 (.agg #[vi a.Phase, vi a.X, vi a.Z]) [vi a.Phase, vi a.X, vi a.Z] 3 hS) ?_
 rintro _ w_ ⟨b1, rfl, hS1⟩
 refine sS 3 (yB 71 (.agg #[vi b.Phase, vi b.X, vi b.Z]) [vi b.Phase, vi b.X, vi b.Z] 3 hS1) ?_
 rintro _ w_1 ⟨b2, rfl, hS2⟩
 refine sS 4 (yN [vi 0, vi 0, vi 0] 3 hS2 K5) ?_
 rintro _ w_2 ⟨b3, rfl, hS3⟩
 refine rn (cq (cr ?_))
 refine sQ 7 (yd (aD b1) 0 0 K23 K3) <| sQ 8 (yl (aD b1) 0 [vi a.Phase, vi a.X, vi a.Z] (vi a.Phase) K4 (hS3.c 0)) <| sQ 9 (yd (aD b2) 0 0 K23 K3) <| sQ 10 (yl (aD b2) 0 [vi b.Phase, vi b.X, vi b.Z] (vi b.Phase) K4 (hS3.c 1)) <| sQ 11 (yP a.Phase b.Phase) <| sQ 12 (yd (aD b1) 0 0 K37 K3) ?_
 refine sQ 13 (yl (aD b1) 1 [vi a.Phase, vi a.X, vi a.Z] (vi a.X) K4 (hS3.c 0)) <| sQ 14 (yd (aD b2) 0 0 K37 K3) <| sQ 15 (yl (aD b2) 1 [vi b.Phase, vi b.X, vi b.Z] (vi b.X) K4 (hS3.c 1)) <| sQ 16 (Y_bxor (k := .i64) (a := a.X) (b := b.X) rfl rfl rfl) <| sQ 17 (yd (aD b1) 0 0 K38 K3) <| sQ 18 (yl (aD b1) 2 [vi a.Phase, vi a.X, vi a.Z] (vi a.Z) K4 (hS3.c 0)) ?_
 refine sQ 19 (yd (aD b2) 0 0 K38 K3) <| sQ 20 (yl (aD b2) 2 [vi b.Phase, vi b.X, vi b.Z] (vi b.Z) K4 (hS3.c 1)) <| sQ 21 (Y_bxor (k := .i64) (a := a.Z) (b := b.Z) rfl rfl rfl) <| sQ 22 (Y_buildS (zs := [vi 0, vi 0, vi 0]) (vs := [(0, vi (i64.wrap (a.Phase + b.Phase))), (1, vi (bits .xor .i64 a.X b.X)), (2, vi (bits .xor .i64 a.Z b.Z))]) (cs := [vi (i64.wrap (a.Phase + b.Phase)), vi (bits .xor .i64 a.X b.X), vi (bits .xor .i64 a.Z b.Z)]) K24 K5 rfl (mpc rfl (mpc rfl (mpc rfl mpn))) rfl) ?_
 refine sS 5 (yN [vi 0, vi 0, vi 0] 3 hS3 K5) ?_
 rintro _ w_3 ⟨b4, rfl, hS4⟩
 refine s0 (yT 3 3 (aD b4) 71 (.agg #[vi (i64.wrap (a.Phase + b.Phase)), vi (bits .xor .i64 a.X b.X), vi (bits .xor .i64 a.Z b.Z)]) [vi (i64.wrap (a.Phase + b.Phase)), vi (bits .xor .i64 a.X b.X), vi (bits .xor .i64 a.Z b.Z)] 0 hS4 K0) ?_
 rintro _ w_4 ⟨rfl, hS5⟩
 refine rn (cq (cq (cr ?_)))
 refine sQ 6 (yg (vi 0)) (rn ?_)
 obtain ⟨z, hz, hF1⟩ := bI hF
 refine cw_block ?_
 refine cw_loop (fun k f w => ∃ (q : Nat) (Phase : Int), FF f [(2, pt (aD b1) 0), (3, pt (aD b2) 0), (4, pt (aD b3) 0), (5, pt (aD b4) 0), (6, vi (q : Int))] ∧ ST w0 [] w [⟨aD b1, 71, [vi a.Phase, vi a.X, vi a.Z], 3⟩, ⟨aD b2, 71, [vi b.Phase, vi b.X, vi b.Z], 3⟩, ⟨aD b3, 71, [vi 0, vi 0, vi 0], 3⟩, ⟨aD b4, 71, [vi Phase, vi (bits .xor .i64 a.X b.X), vi (bits .xor .i64 a.Z b.Z)], 3⟩] [] ∧ q + k = 5 ∧ forN (F_spec_l7Mul_l1 a b) k q Phase = some z) 5 ⟨0, (i64.wrap (a.Phase + b.Phase)), (fc rfl (fc rfl (fc rfl (fc rfl (fc rfl fn_))))), (hS5.sel [0, 1, 2, 3] rfl rfl), Nat.zero_add _, hz⟩ ?_
 rintro k_ f w ⟨q, Phase, hf, hS6, hik, hL⟩
 refine cq (cq (cr ?_))
 refine sQ 23 (ym (vi (q : Int)) rfl (hf.g 6 4)) <| sQ 24 (yL (q : Int) 5) (rn ?_)
 refine cw_cond (b := (decide ((q : Int) < 5))) rfl (fun hlt => ?_) (fun hlt => ?_)
 ·skip
  have hlt1 : q < 5 := by have h := of_decide_eq_true hlt; omega
  obtain ⟨K7, rfl⟩ : ∃ k2, k_ = k2 + 1 := ⟨k_ - 1, by omega⟩
  obtain ⟨y, hb, hL1⟩ := forN_go hL
  unfold F_spec_l7Mul_l1 at hb
  refine cw_skip (cq (cw_block ?_))
  obtain ⟨r_1, hc, hb⟩ := bI hb
  obtain ⟨r_2, hc1, hb⟩ := bI hb
  obtain ⟨r_3, hc2, hb⟩ := bI hb
  refine cw_mid (fun f w => FF f [(2, pt (aD b1) 0), (3, pt (aD b2) 0), (4, pt (aD b3) 0), (5, pt (aD b4) 0), (6, vi (q : Int))] ∧ ST w0 [] w [⟨aD b1, 71, [vi a.Phase, vi a.X, vi a.Z], 3⟩, ⟨aD b2, 71, [vi b.Phase, vi b.X, vi b.Z], 3⟩, ⟨aD b3, 71, [vi 0, vi 0, vi 0], 3⟩, ⟨aD b4, 71, [vi (i64.wrap (Phase + r_3)), vi (bits .xor .i64 a.X b.X), vi (bits .xor .i64 a.Z b.Z)], 3⟩] []) ?_ ?_
  ·skip
   refine ra_start (hS6.se [0, 1, 2]).fn (by kernel_rfl) ?_
   have hS11 := hS6.drew
   refine rq 0 27 (v := pt (aD b4) 0) rfl (hS11.se [0, 1, 2]) (fun w' hw' => (yd (aD b4) 0 0 K23 K3 rfl (hf.g 5 3))) ?_
   refine rq 2 29 (v := .agg #[vi a.Phase, vi a.X, vi a.Z]) rfl (hS11.se [0, 1, 2]) (fun w' hw' => (yb (aD b1) 0 [vi a.Phase, vi a.X, vi a.Z] K14 K0 (ST.cf hw' (i := 0) rfl) rfl (hf.g 2 0))) ?_
   refine rq 3 30 (v := vi (q : Int)) rfl (hS11.se [0, 1, 2]) (fun w' hw' => (ym (vi (q : Int)) rfl (hf.g 6 4))) ?_
   refine rq 5 32 (v := .agg #[vi b.Phase, vi b.X, vi b.Z]) rfl (hS11.se [0, 1, 2]) (fun w' hw' => (yb (aD b2) 0 [vi b.Phase, vi b.X, vi b.Z] K14 K0 (ST.cf hw' (i := 1) rfl) rfl (hf.g 3 1))) ?_
   refine rq 6 33 (v := vi (q : Int)) rfl (hS11.se [0, 1, 2]) (fun w' hw' => (ym (vi (q : Int)) rfl (hf.g 6 4))) ?_
   refine rA [1, 4] ?_
   refine ra_y 28 (i := 1) (v := vi Phase) rfl rfl rfl (yl (aD b4) 0 [vi Phase, vi (bits .xor .i64 a.X b.X), vi (bits .xor .i64 a.Z b.Z)] (vi Phase) K4 (hS11.c 3)) (hS11.se [0, 1, 2]) ?_ ?_
   ·skip
    refine rA [4] ?_
    refine rC 31 4 rfl (yC [.agg #[vi a.Phase, vi a.X, vi a.Z], vi (q : Int)] K42 (c_spec_l7Letter a (q : Int) _  (hS11.inn0 [] rfl) hc)) ?_ ?_
    ·rintro _ w_5 ⟨rfl, hd⟩
     have hS12 := hS11.out00 hd
     refine ⟨(hS12.se [0, 1, 2]), ?_⟩
     refine rA [7] ?_
     refine rC 34 7 rfl (yC [.agg #[vi b.Phase, vi b.X, vi b.Z], vi (q : Int)] K42 (c_spec_l7Letter b (q : Int) _  (hS12.inn0 [] rfl) hc1)) ?_ ?_
     ·rintro _ w_6 ⟨rfl, hd1⟩
      have hS13 := hS12.out00 hd1
      refine ⟨(hS13.se [0, 1, 2]), ?_⟩
      refine rA [8] ?_
      refine rC 35 8 rfl (yC [vi r_1, vi r_2] K70 (c_spec_l7Sign r_1 r_2 _  (hS13.inn0 [] rfl) hc2)) ?_ ?_
      ·rintro _ w_7 ⟨rfl, hd2⟩
       have hS14 := hS13.out00 hd2
       refine ⟨(hS14.se [0, 1, 2]), ?_⟩
       refine rq 9 36 (v := vi (i64.wrap (Phase + r_3))) rfl (hS14.se [0, 1, 2]) (fun w' hw' => (yP Phase r_3)) ?_
       refine rq 10 37 (v := pt (aD b4) 0) rfl (hS14.se [0, 1, 2]) (fun w' hw' => (yd (aD b4) 0 0 K23 K3 rfl (hf.g 5 3))) ?_
       refine rA [11] ?_
       refine rZ 11 rfl (yS 3 1 (aD b4) 71 (vi (i64.wrap (Phase + r_3))) [vi (i64.wrap (Phase + r_3))] 0 [vi (i64.wrap (Phase + r_3)), vi (bits .xor .i64 a.X b.X), vi (bits .xor .i64 a.Z b.Z)] hS14 K3) ?_ ?_
       ·rintro _ w_8 ⟨rfl, hS15⟩
        refine ⟨(hS15.se [0, 1, 2]), ?_⟩
        refine ra_done (by kernel_rfl) ?_
        exact ⟨(fc (hf.g 2 0) (fc (hf.g 3 1) (fc (hf.g 4 2) (fc (hf.g 5 3) (fc (hf.g 6 4) fn_))))), (hS15.sel [0, 1, 2, 3] rfl rfl)⟩
       exact aN
      exact aN
     exact aN
    exact aN
   refine rC 31 4 rfl (yC [.agg #[vi a.Phase, vi a.X, vi a.Z], vi (q : Int)] K42 (c_spec_l7Letter a (q : Int) _  (hS11.inn0 [] rfl) hc)) ?_ ?_
   ·rintro _ w_9 ⟨rfl, hd3⟩
    have hS16 := hS11.out00 hd3
    refine ⟨(hS16.se [0, 1, 2]), ?_⟩
    refine rA [1, 7] ?_
    refine ra_y 28 (i := 1) (v := vi Phase) rfl rfl rfl (yl (aD b4) 0 [vi Phase, vi (bits .xor .i64 a.X b.X), vi (bits .xor .i64 a.Z b.Z)] (vi Phase) K4 (hS16.c 3)) (hS16.se [0, 1, 2]) ?_ ?_
    ·skip
     refine rA [7] ?_
     refine rC 34 7 rfl (yC [.agg #[vi b.Phase, vi b.X, vi b.Z], vi (q : Int)] K42 (c_spec_l7Letter b (q : Int) _  (hS16.inn0 [] rfl) hc1)) ?_ ?_
     ·rintro _ w_10 ⟨rfl, hd4⟩
      have hS17 := hS16.out00 hd4
      refine ⟨(hS17.se [0, 1, 2]), ?_⟩
      refine rA [8] ?_
      refine rC 35 8 rfl (yC [vi r_1, vi r_2] K70 (c_spec_l7Sign r_1 r_2 _  (hS17.inn0 [] rfl) hc2)) ?_ ?_
      ·rintro _ w_11 ⟨rfl, hd5⟩
       have hS18 := hS17.out00 hd5
       refine ⟨(hS18.se [0, 1, 2]), ?_⟩
       refine rq 9 36 (v := vi (i64.wrap (Phase + r_3))) rfl (hS18.se [0, 1, 2]) (fun w' hw' => (yP Phase r_3)) ?_
       refine rq 10 37 (v := pt (aD b4) 0) rfl (hS18.se [0, 1, 2]) (fun w' hw' => (yd (aD b4) 0 0 K23 K3 rfl (hf.g 5 3))) ?_
       refine rA [11] ?_
       refine rZ 11 rfl (yS 3 1 (aD b4) 71 (vi (i64.wrap (Phase + r_3))) [vi (i64.wrap (Phase + r_3))] 0 [vi (i64.wrap (Phase + r_3)), vi (bits .xor .i64 a.X b.X), vi (bits .xor .i64 a.Z b.Z)] hS18 K3) ?_ ?_
       ·rintro _ w_12 ⟨rfl, hS19⟩
        refine ⟨(hS19.se [0, 1, 2]), ?_⟩
        refine ra_done (by kernel_rfl) ?_
        exact ⟨(fc (hf.g 2 0) (fc (hf.g 3 1) (fc (hf.g 4 2) (fc (hf.g 5 3) (fc (hf.g 6 4) fn_))))), (hS19.sel [0, 1, 2, 3] rfl rfl)⟩
       exact aN
      exact aN
     exact aN
    refine rC 34 7 rfl (yC [.agg #[vi b.Phase, vi b.X, vi b.Z], vi (q : Int)] K42 (c_spec_l7Letter b (q : Int) _  (hS16.inn0 [] rfl) hc1)) ?_ ?_
    ·rintro _ w_13 ⟨rfl, hd6⟩
     have hS20 := hS16.out00 hd6
     refine ⟨(hS20.se [0, 1, 2]), ?_⟩
     refine rA [1, 8] ?_
     refine ra_y 28 (i := 1) (v := vi Phase) rfl rfl rfl (yl (aD b4) 0 [vi Phase, vi (bits .xor .i64 a.X b.X), vi (bits .xor .i64 a.Z b.Z)] (vi Phase) K4 (hS20.c 3)) (hS20.se [0, 1, 2]) ?_ ?_
     ·skip
      refine rA [8] ?_
      refine rC 35 8 rfl (yC [vi r_1, vi r_2] K70 (c_spec_l7Sign r_1 r_2 _  (hS20.inn0 [] rfl) hc2)) ?_ ?_
      ·rintro _ w_14 ⟨rfl, hd7⟩
       have hS21 := hS20.out00 hd7
       refine ⟨(hS21.se [0, 1, 2]), ?_⟩
       refine rq 9 36 (v := vi (i64.wrap (Phase + r_3))) rfl (hS21.se [0, 1, 2]) (fun w' hw' => (yP Phase r_3)) ?_
       refine rq 10 37 (v := pt (aD b4) 0) rfl (hS21.se [0, 1, 2]) (fun w' hw' => (yd (aD b4) 0 0 K23 K3 rfl (hf.g 5 3))) ?_
       refine rA [11] ?_
       refine rZ 11 rfl (yS 3 1 (aD b4) 71 (vi (i64.wrap (Phase + r_3))) [vi (i64.wrap (Phase + r_3))] 0 [vi (i64.wrap (Phase + r_3)), vi (bits .xor .i64 a.X b.X), vi (bits .xor .i64 a.Z b.Z)] hS21 K3) ?_ ?_
       ·rintro _ w_15 ⟨rfl, hS22⟩
        refine ⟨(hS22.se [0, 1, 2]), ?_⟩
        refine ra_done (by kernel_rfl) ?_
        exact ⟨(fc (hf.g 2 0) (fc (hf.g 3 1) (fc (hf.g 4 2) (fc (hf.g 5 3) (fc (hf.g 6 4) fn_))))), (hS22.sel [0, 1, 2, 3] rfl rfl)⟩
       exact aN
      exact aN
     refine rC 35 8 rfl (yC [vi r_1, vi r_2] K70 (c_spec_l7Sign r_1 r_2 _  (hS20.inn0 [] rfl) hc2)) ?_ ?_
     ·rintro _ w_16 ⟨rfl, hd8⟩
      have hS23 := hS20.out00 hd8
      refine ⟨(hS23.se [0, 1, 2]), ?_⟩
      refine rA [1] ?_
      refine ra_y 28 (i := 1) (v := vi Phase) rfl rfl rfl (yl (aD b4) 0 [vi Phase, vi (bits .xor .i64 a.X b.X), vi (bits .xor .i64 a.Z b.Z)] (vi Phase) K4 (hS23.c 3)) (hS23.se [0, 1, 2]) ?_ ?_
      ·skip
       refine rq 9 36 (v := vi (i64.wrap (Phase + r_3))) rfl (hS23.se [0, 1, 2]) (fun w' hw' => (yP Phase r_3)) ?_
       refine rq 10 37 (v := pt (aD b4) 0) rfl (hS23.se [0, 1, 2]) (fun w' hw' => (yd (aD b4) 0 0 K23 K3 rfl (hf.g 5 3))) ?_
       refine rA [11] ?_
       refine rZ 11 rfl (yS 3 1 (aD b4) 71 (vi (i64.wrap (Phase + r_3))) [vi (i64.wrap (Phase + r_3))] 0 [vi (i64.wrap (Phase + r_3)), vi (bits .xor .i64 a.X b.X), vi (bits .xor .i64 a.Z b.Z)] hS23 K3) ?_ ?_
       ·rintro _ w_17 ⟨rfl, hS24⟩
        refine ⟨(hS24.se [0, 1, 2]), ?_⟩
        refine ra_done (by kernel_rfl) ?_
        exact ⟨(fc (hf.g 2 0) (fc (hf.g 3 1) (fc (hf.g 4 2) (fc (hf.g 5 3) (fc (hf.g 6 4) fn_))))), (hS24.sel [0, 1, 2, 3] rfl rfl)⟩
       exact aN
      exact aN
     exact aN
    exact aN
   exact aN
  rintro f w ⟨hf1, hS10⟩
  refine cr ?_
  refine sQ 25 (ym (vi (q : Int)) rfl (hf1.g 6 4)) <| sQ 26 (yP (q : Int) 1) <| sQ 6 (yg (vi (i64.wrap ((q : Int) + 1)))) (rn ?_)
  obtain rfl := sI hb
  exact ⟨K7, Nat.lt_succ_self _, q + 1, (i64.wrap (Phase + r_3)), (fc (hf1.g 2 0) (fc (hf1.g 3 1) (fc (hf1.g 4 2) (fc (hf1.g 5 3) (fc (congrArg (Value.int .i64) (wr_succ hlt1 (show 5 ≤ 9223372036854775807 by decide))) fn_))))), (hS10.sel [0, 1, 2, 3] rfl rfl), (by omega), hL1⟩
 ·skip
  obtain rfl : k_ = 0 := by have h := of_decide_eq_false hlt; omega
  refine cw_exit rfl ?_
  obtain rfl := sI hL
  refine cq (cr ?_)
  refine sQ 38 (yd (aD b4) 0 0 K23 K3 rfl (hf.g 5 3)) <| sQ 39 (yl (aD b4) 0 [vi Phase, vi (bits .xor .i64 a.X b.X), vi (bits .xor .i64 a.Z b.Z)] (vi Phase) K4 (hS6.c 3)) <| sQ 40 (Y_rem (k := .i64) (a := Phase) (b := 4) rfl rfl rfl (by decide)) <| sQ 41 (yd (aD b4) 0 0 K23 K3 rfl (hf.g 5 3)) ?_
  refine s0 (yS 3 1 (aD b4) 71 (vi (Int.tmod Phase 4)) [vi (Int.tmod Phase 4)] 0 [vi (Int.tmod Phase 4), vi (bits .xor .i64 a.X b.X), vi (bits .xor .i64 a.Z b.Z)] hS6 K3) ?_
  rintro _ w_18 ⟨rfl, hS25⟩
  refine rn (cq (cr ?_))
  refine sQ 42 (yb (aD b4) 0 [vi (Int.tmod Phase 4), vi (bits .xor .i64 a.X b.X), vi (bits .xor .i64 a.Z b.Z)] K14 K0 (hS25.c 3) rfl (hf.g 5 3)) ?_
  refine s0 (yT 2 3 (aD b3) 71 (.agg #[vi (Int.tmod Phase 4), vi (bits .xor .i64 a.X b.X), vi (bits .xor .i64 a.Z b.Z)]) [vi (Int.tmod Phase 4), vi (bits .xor .i64 a.X b.X), vi (bits .xor .i64 a.Z b.Z)] 0 hS25 K0 rfl (hf.g 4 2)) ?_
  rintro _ w_19 ⟨rfl, hS26⟩
  refine rn (ct_ ?_)
  obtain rfl := sI hF1
  exact ret1 Try.results42 (v1 := .agg #[vi (Int.tmod Phase 4), vi (bits .xor .i64 a.X b.X), vi (bits .xor .i64 a.Z b.Z)]) (resAt_cellA (B := aD b3) (i := 0) (cs := [vi (Int.tmod Phase 4), vi (bits .xor .i64 a.X b.X), vi (bits .xor .i64 a.Z b.Z)]) (vs := [vi (Int.tmod Phase 4), vi (bits .xor .i64 a.X b.X), vi (bits .xor .i64 a.Z b.Z)]) (hf.g 4 2) K14 K0 (hS26.c 2) rfl rfl) ⟨rfl, (hS26.sN [])⟩

theorem c_spec_l7Image (t : TTableau) (p : TPauli) (B : Option Addr) (c n : Nat) (B1 : Option Addr) (c1 n1 : Nat) (w0 : World) (hn : t.XImages.length = n) (hn1 : t.ZImages.length = n1) (hS : ST w0 [] w0 [] [⟨B, (t.XImages.flatMap eN0)⟩, ⟨B1, (t.ZImages.flatMap eN0)⟩]) {r_ : TPauli} (hF : F_spec_l7Image t p = some r_) :
  CV Try.prog 41 #[.agg #[vi t.Qubits, .slice B n c, .slice B1 n1 c1], .agg #[vi p.Phase, vi p.X, vi p.Z]] w0 (fun v w' => v = .agg #[vi r_.Phase, vi r_.X, vi r_.Z] ∧ ST w0 [] w' [] []) := by
 subst hn
 subst hn1
 unfold F_spec_l7Image at hF
 refine cv_of_cw 48 Try.func41 rfl Try.ntmps41 rfl ?_
 refine cq (cr ?_)
 refine sS 2 (yB 40 (.agg #[vi t.Qubits, .slice B t.XImages.length c, .slice B1 t.ZImages.length c1]) [vi t.Qubits, .slice B t.XImages.length c, .slice B1 t.ZImages.length c1] 3 hS) ?_
 rintro _ w_ ⟨b, rfl, hS1⟩
 refine sS 3 (yB 71 (.agg #[vi p.Phase, vi p.X, vi p.Z]) [vi p.Phase, vi p.X, vi p.Z] 3 hS1) ?_
 rintro _ w_1 ⟨b1, rfl, hS2⟩
 refine sS 4 (yN [vi 0, vi 0, vi 0] 3 hS2 K5) ?_
 rintro _ w_2 ⟨b2, rfl, hS3⟩
 refine rn (cq (cr ?_))
 refine sQ 8 (yd (aD b1) 0 0 K23 K3) <| sQ 9 (yl (aD b1) 0 [vi p.Phase, vi p.X, vi p.Z] (vi p.Phase) K4 (hS3.c 1)) <| sQ 10 (Y_buildS (zs := [vi 0, vi 0, vi 0]) (vs := [(0, vi p.Phase)]) (cs := [vi p.Phase, vi 0, vi 0]) K24 K5 rfl (mpc rfl mpn) rfl) ?_
 refine sS 5 (yN [vi 0, vi 0, vi 0] 3 hS3 K5) ?_
 rintro _ w_3 ⟨b3, rfl, hS4⟩
 refine s0 (yT 3 3 (aD b3) 71 (.agg #[vi p.Phase, vi 0, vi 0]) [vi p.Phase, vi 0, vi 0] 0 hS4 K0) ?_
 rintro _ w_4 ⟨rfl, hS5⟩
 refine rn (cq (cq (cr ?_)))
 refine sQ 6 (yg (vi 0)) (rn ?_)
 obtain ⟨hN, hF⟩ := chk_inv hF
 obtain ⟨z, hz, hF1⟩ := bI hF
 refine cw_block ?_
 refine cw_loop (fun k f w => ∃ (q : Nat) (Phase : Int) (X : Int) (Z : Int), FF f [(2, pt (aD b) 0), (3, pt (aD b1) 0), (4, pt (aD b2) 0), (5, pt (aD b3) 0), (6, vi (q : Int))] ∧ ST w0 [] w [⟨aD b, 40, [vi t.Qubits, .slice B t.XImages.length c, .slice B1 t.ZImages.length c1], 3⟩, ⟨aD b1, 71, [vi p.Phase, vi p.X, vi p.Z], 3⟩, ⟨aD b2, 71, [vi 0, vi 0, vi 0], 3⟩, ⟨aD b3, 71, [vi Phase, vi X, vi Z], 3⟩] [⟨B, (t.XImages.flatMap eN0)⟩, ⟨B1, (t.ZImages.flatMap eN0)⟩] ∧ q + k = t.Qubits.toNat ∧ forN (F_spec_l7Image_l1 p t) k q (Phase, X, Z) = some z) t.Qubits.toNat ⟨0, p.Phase, 0, 0, (fc rfl (fc rfl (fc rfl (fc rfl (fc rfl fn_))))), (hS5.sel [0, 1, 2, 3] rfl rfl), Nat.zero_add _, hz⟩ ?_
 rintro k_ f w ⟨q, Phase, X, Z, hf, hS6, hik, hL⟩
 refine cq (cq (cr ?_))
 refine sQ 11 (ym (vi (q : Int)) rfl (hf.g 6 4)) <| sQ 12 (yd (aD b) 0 0 K30 K3 rfl (hf.g 2 0)) <| sQ 13 (yl (aD b) 0 [vi t.Qubits, .slice B t.XImages.length c, .slice B1 t.ZImages.length c1] (vi t.Qubits) K4 (hS6.c 0)) <| sQ 14 (yL (q : Int) t.Qubits) (rn ?_)
 refine cw_cond (b := (decide ((q : Int) < t.Qubits))) rfl (fun hlt => ?_) (fun hlt => ?_)
 ·skip
  have hlt1 : q < t.Qubits.toNat := by have h := of_decide_eq_true hlt; omega
  obtain ⟨K7, rfl⟩ : ∃ k2, k_ = k2 + 1 := ⟨k_ - 1, by omega⟩
  obtain ⟨y, hb, hL1⟩ := forN_go hL
  unfold F_spec_l7Image_l1 at hb
  refine cw_skip (cq ?_)
  obtain ⟨z1, hz1, hF2⟩ := bI hb
  refine cw_mid (fun f w => ∃ (Phase1 : Int) (X1 : Int) (Z1 : Int), (Phase1, X1, Z1) = z1 ∧ FF f [(2, pt (aD b) 0), (3, pt (aD b1) 0), (4, pt (aD b2) 0), (5, pt (aD b3) 0), (6, vi (q : Int))] ∧ ST w0 [] w [⟨aD b, 40, [vi t.Qubits, .slice B t.XImages.length c, .slice B1 t.ZImages.length c1], 3⟩, ⟨aD b1, 71, [vi p.Phase, vi p.X, vi p.Z], 3⟩, ⟨aD b2, 71, [vi 0, vi 0, vi 0], 3⟩, ⟨aD b3, 71, [vi Phase1, vi X1, vi Z1], 3⟩] [⟨B, (t.XImages.flatMap eN0)⟩, ⟨B1, (t.ZImages.flatMap eN0)⟩]) ?_ ?_
  ·skip
   refine cw_block (cq (cr ?_))
   refine sQ 17 (yb (aD b1) 0 [vi p.Phase, vi p.X, vi p.Z] K14 K0 (hS6.c 1) rfl (hf.g 3 1)) <| sQ 18 (ym (vi (q : Int)) rfl (hf.g 6 4)) ?_
   obtain ⟨r_1, hc, hz1⟩ := bI hz1
   refine sc 19 rfl rfl (yC [.agg #[vi p.Phase, vi p.X, vi p.Z], vi (q : Int)] K42 (c_spec_l7Letter p (q : Int) _  (hS6.inn0 [] rfl) hc)) ?_
   rintro _ w_5 ⟨rfl, hd⟩
   have hS8 := hS6.out00 hd
   refine sQ 7 (yg (vi r_1)) (rn (cq ?_))
   obtain ⟨z2, hz2, hF3⟩ := bI hz1
   refine cw_mid (fun f w => ∃ (Phase2 : Int) (X2 : Int) (Z2 : Int), (Phase2, X2, Z2) = z2 ∧ FF f [(2, pt (aD b) 0), (3, pt (aD b1) 0), (4, pt (aD b2) 0), (5, pt (aD b3) 0), (6, vi (q : Int)), (7, vi r_1)] ∧ ST w0 [] w [⟨aD b, 40, [vi t.Qubits, .slice B t.XImages.length c, .slice B1 t.ZImages.length c1], 3⟩, ⟨aD b1, 71, [vi p.Phase, vi p.X, vi p.Z], 3⟩, ⟨aD b2, 71, [vi 0, vi 0, vi 0], 3⟩, ⟨aD b3, 71, [vi Phase2, vi X2, vi Z2], 3⟩] [⟨B, (t.XImages.flatMap eN0)⟩, ⟨B1, (t.ZImages.flatMap eN0)⟩]) ?_ ?_
   ·skip
    refine cq (cr ?_)
    refine sQ 20 (ym (vi r_1)) <| sQ 21 (Y_band (k := .i64) (a := r_1) (b := 1) rfl rfl rfl) <| sQ 22 (yE (bits .and .i64 r_1 1) 1) (rn ?_)
    refine cw_cond (b := ((bits .and .i64 r_1 1) == 1)) rfl (fun hb1 => ?_) (fun hb1 => ?_)
    ·skip
     have hF4 := ct hz2 hb1
     obtain ⟨x, hx, hF4⟩ := bI hF4
     obtain ⟨r_2, hc1, hF4⟩ := bI hF4
     refine ra_start (hS8.se [0, 1, 2]).fn (by kernel_rfl) ?_
     have hS11 := hS8.drew
     refine rq 1 24 (v := pt (aD b) 1) rfl (hS11.se [0, 1, 2]) (fun w' hw' => (yd (aD b) 0 0 K9 K1 rfl (hf.g 2 0))) ?_
     refine rq 2 25 (v := .slice B t.XImages.length c) rfl (hS11.se [0, 1, 2]) (fun w' hw' => (yl (aD b) 1 [vi t.Qubits, .slice B t.XImages.length c, .slice B1 t.ZImages.length c1] (.slice B t.XImages.length c) K6 (ST.cf hw' (i := 0) rfl))) ?_
     refine rq 3 26 (v := vi (q : Int)) rfl (hS11.se [0, 1, 2]) (fun w' hw' => (ym (vi (q : Int)) rfl (hf.g 6 4))) ?_
     refine rq 4 27 (v := pt B ((q : Int).toNat * 3)) rfl (hS11.se [0, 1, 2]) (fun w' hw' => (Y_index (B := B) (m := t.XImages.length) (c := c) (k := .i64) (i := (q : Int)) K2 K0 rfl rfl rfl (gi_isSome eN1 rfl (ST.rf hw' (i := 0) rfl) hx) (getI_nn hx) (getI_ltI hx rfl))) ?_
     refine rq 5 28 (v := .agg #[vi x.Phase, vi x.X, vi x.Z]) rfl (hS11.se [0, 1, 2]) (fun w' hw' => (ya B ((q : Int).toNat * 3) (t.XImages.flatMap eN0) [vi x.Phase, vi x.X, vi x.Z] K14 K0 (ST.rf hw' (i := 0) rfl) rfl rfl (eN1 x) (gi_seg eN1 hx))) ?_
     refine rA [0] ?_
     refine ra_y 23 (i := 0) (v := .agg #[vi Phase, vi X, vi Z]) rfl rfl rfl (yb (aD b3) 0 [vi Phase, vi X, vi Z] K14 K0 (hS11.c 3) rfl (hf.g 5 3)) (hS11.se [0, 1, 2]) ?_ ?_
     ·skip
      refine rA [6] ?_
      refine rC 29 6 rfl (yC [.agg #[vi Phase, vi X, vi Z], .agg #[vi x.Phase, vi x.X, vi x.Z]] K54 (c_spec_l7Mul (TPauli.mk Phase X Z) x _  (hS11.inn0 [] rfl) hc1)) ?_ ?_
      ·rintro _ w_6 ⟨rfl, hd1⟩
       have hS12 := hS11.out00 hd1
       refine ⟨(hS12.se [0, 1, 2]), ?_⟩
       refine rA [7] ?_
       refine rZ 7 rfl (yT 3 3 (aD b3) 71 (.agg #[vi r_2.Phase, vi r_2.X, vi r_2.Z]) [vi r_2.Phase, vi r_2.X, vi r_2.Z] 0 hS12 K0 rfl (hf.g 5 3)) ?_ ?_
       ·rintro _ w_7 ⟨rfl, hS13⟩
        refine ⟨(hS13.se [0, 1, 2]), ?_⟩
        refine ra_done (by kernel_rfl) ?_
        exact ⟨r_2.Phase, r_2.X, r_2.Z, (sI hF4), (fc (hf.g 2 0) (fc (hf.g 3 1) (fc (hf.g 4 2) (fc (hf.g 5 3) (fc (hf.g 6 4) (fc rfl fn_)))))), (hS13.sel [0, 1, 2, 3] rfl rfl)⟩
       exact aN
      exact aN
     exact aN
    ·skip
     have hF5 := cf' hz2 hb1
     refine cw_skip ?_
     exact ⟨Phase, X, Z, (sI hF5), (fc (hf.g 2 0) (fc (hf.g 3 1) (fc (hf.g 4 2) (fc (hf.g 5 3) (fc (hf.g 6 4) (fc rfl fn_)))))), (hS8.sel [0, 1, 2, 3] rfl rfl)⟩
   rintro f w ⟨Phase2, X2, Z2, rfl, hf2, hS9⟩
   refine cq ?_
   obtain ⟨z3, hz3, hF6⟩ := bI hF3
   refine cw_mid (fun f w => ∃ (Phase3 : Int) (X3 : Int) (Z3 : Int), (Phase3, X3, Z3) = z3 ∧ FF f [(2, pt (aD b) 0), (3, pt (aD b1) 0), (4, pt (aD b2) 0), (5, pt (aD b3) 0), (6, vi (q : Int)), (7, vi r_1)] ∧ ST w0 [] w [⟨aD b, 40, [vi t.Qubits, .slice B t.XImages.length c, .slice B1 t.ZImages.length c1], 3⟩, ⟨aD b1, 71, [vi p.Phase, vi p.X, vi p.Z], 3⟩, ⟨aD b2, 71, [vi 0, vi 0, vi 0], 3⟩, ⟨aD b3, 71, [vi Phase3, vi X3, vi Z3], 3⟩] [⟨B, (t.XImages.flatMap eN0)⟩, ⟨B1, (t.ZImages.flatMap eN0)⟩]) ?_ ?_
   ·skip
    refine cq (cr ?_)
    refine sQ 30 (ym (vi r_1) rfl (hf2.g 7 5)) <| sQ 31 (Y_band (k := .i64) (a := r_1) (b := 2) rfl rfl rfl) <| sQ 32 (yE (bits .and .i64 r_1 2) 2) (rn ?_)
    refine cw_cond (b := ((bits .and .i64 r_1 2) == 2)) rfl (fun hb2 => ?_) (fun hb2 => ?_)
    ·skip
     have hF7 := ct hz3 hb2
     obtain ⟨x1, hx1, hF7⟩ := bI hF7
     obtain ⟨r_3, hc2, hF7⟩ := bI hF7
     refine ra_start (hS9.se [0, 1, 2]).fn (by kernel_rfl) ?_
     have hS16 := hS9.drew
     refine rq 1 34 (v := pt (aD b) 2) rfl (hS16.se [0, 1, 2]) (fun w' hw' => (yd (aD b) 0 0 K11 K1 rfl (hf2.g 2 0))) ?_
     refine rq 2 35 (v := .slice B1 t.ZImages.length c1) rfl (hS16.se [0, 1, 2]) (fun w' hw' => (yl (aD b) 2 [vi t.Qubits, .slice B t.XImages.length c, .slice B1 t.ZImages.length c1] (.slice B1 t.ZImages.length c1) K6 (ST.cf hw' (i := 0) rfl))) ?_
     refine rq 3 36 (v := vi (q : Int)) rfl (hS16.se [0, 1, 2]) (fun w' hw' => (ym (vi (q : Int)) rfl (hf2.g 6 4))) ?_
     refine rq 4 37 (v := pt B1 ((q : Int).toNat * 3)) rfl (hS16.se [0, 1, 2]) (fun w' hw' => (Y_index (B := B1) (m := t.ZImages.length) (c := c1) (k := .i64) (i := (q : Int)) K2 K0 rfl rfl rfl (gi_isSome eN1 rfl (ST.rf hw' (i := 1) rfl) hx1) (getI_nn hx1) (getI_ltI hx1 rfl))) ?_
     refine rq 5 38 (v := .agg #[vi x1.Phase, vi x1.X, vi x1.Z]) rfl (hS16.se [0, 1, 2]) (fun w' hw' => (ya B1 ((q : Int).toNat * 3) (t.ZImages.flatMap eN0) [vi x1.Phase, vi x1.X, vi x1.Z] K14 K0 (ST.rf hw' (i := 1) rfl) rfl rfl (eN1 x1) (gi_seg eN1 hx1))) ?_
     refine rA [0] ?_
     refine ra_y 33 (i := 0) (v := .agg #[vi Phase2, vi X2, vi Z2]) rfl rfl rfl (yb (aD b3) 0 [vi Phase2, vi X2, vi Z2] K14 K0 (hS16.c 3) rfl (hf2.g 5 3)) (hS16.se [0, 1, 2]) ?_ ?_
     ·skip
      refine rA [6] ?_
      refine rC 39 6 rfl (yC [.agg #[vi Phase2, vi X2, vi Z2], .agg #[vi x1.Phase, vi x1.X, vi x1.Z]] K54 (c_spec_l7Mul (TPauli.mk Phase2 X2 Z2) x1 _  (hS16.inn0 [] rfl) hc2)) ?_ ?_
      ·rintro _ w_8 ⟨rfl, hd2⟩
       have hS17 := hS16.out00 hd2
       refine ⟨(hS17.se [0, 1, 2]), ?_⟩
       refine rA [7] ?_
       refine rZ 7 rfl (yT 3 3 (aD b3) 71 (.agg #[vi r_3.Phase, vi r_3.X, vi r_3.Z]) [vi r_3.Phase, vi r_3.X, vi r_3.Z] 0 hS17 K0 rfl (hf2.g 5 3)) ?_ ?_
       ·rintro _ w_9 ⟨rfl, hS18⟩
        refine ⟨(hS18.se [0, 1, 2]), ?_⟩
        refine ra_done (by kernel_rfl) ?_
        exact ⟨r_3.Phase, r_3.X, r_3.Z, (sI hF7), (fc (hf2.g 2 0) (fc (hf2.g 3 1) (fc (hf2.g 4 2) (fc (hf2.g 5 3) (fc (hf2.g 6 4) (fc (hf2.g 7 5) fn_)))))), (hS18.sel [0, 1, 2, 3] rfl rfl)⟩
       exact aN
      exact aN
     exact aN
    ·skip
     have hF8 := cf' hz3 hb2
     refine cw_skip ?_
     exact ⟨Phase2, X2, Z2, (sI hF8), (fc (hf2.g 2 0) (fc (hf2.g 3 1) (fc (hf2.g 4 2) (fc (hf2.g 5 3) (fc (hf2.g 6 4) (fc (hf2.g 7 5) fn_)))))), (hS9.sel [0, 1, 2, 3] rfl rfl)⟩
   rintro f w ⟨Phase3, X3, Z3, rfl, hf3, hS14⟩
   refine cq (cr ?_)
   refine sQ 40 (ym (vi r_1) rfl (hf3.g 7 5)) <| sQ 41 (yE r_1 3) (rn ?_)
   refine cw_cond (b := (r_1 == 3)) rfl (fun hb3 => ?_) (fun hb3 => ?_)
   ·skip
    have hF9 := ct hF6 hb3
    refine cr ?_
    refine sQ 42 (yd (aD b3) 0 0 K23 K3 rfl (hf3.g 5 3)) <| sQ 43 (yl (aD b3) 0 [vi Phase3, vi X3, vi Z3] (vi Phase3) K4 (hS14.c 3)) <| sQ 44 (yP Phase3 1) <| sQ 45 (Y_rem (k := .i64) (a := (i64.wrap (Phase3 + 1))) (b := 4) rfl rfl rfl (by decide)) <| sQ 46 (yd (aD b3) 0 0 K23 K3 rfl (hf3.g 5 3)) ?_
    refine s0 (yS 3 1 (aD b3) 71 (vi (Int.tmod (i64.wrap (Phase3 + 1)) 4)) [vi (Int.tmod (i64.wrap (Phase3 + 1)) 4)] 0 [vi (Int.tmod (i64.wrap (Phase3 + 1)) 4), vi X3, vi Z3] hS14 K3) ?_
    rintro _ w_10 ⟨rfl, hS19⟩
    refine rn ?_
    exact ⟨(Int.tmod (i64.wrap (Phase3 + 1)) 4), X3, Z3, (sI hF9), (fc (hf3.g 2 0) (fc (hf3.g 3 1) (fc (hf3.g 4 2) (fc (hf3.g 5 3) (fc (hf3.g 6 4) fn_))))), (hS19.sel [0, 1, 2, 3] rfl rfl)⟩
   ·skip
    have hF10 := cf' hF6 hb3
    refine cw_skip ?_
    exact ⟨Phase3, X3, Z3, (sI hF10), (fc (hf3.g 2 0) (fc (hf3.g 3 1) (fc (hf3.g 4 2) (fc (hf3.g 5 3) (fc (hf3.g 6 4) fn_))))), (hS14.sel [0, 1, 2, 3] rfl rfl)⟩
  rintro f w ⟨Phase1, X1, Z1, rfl, hf1, hS7⟩
  refine cr ?_
  refine sQ 15 (ym (vi (q : Int)) rfl (hf1.g 6 4)) <| sQ 16 (yP (q : Int) 1) <| sQ 6 (yg (vi (i64.wrap ((q : Int) + 1)))) (rn ?_)
  obtain rfl := sI hF2
  exact ⟨K7, Nat.lt_succ_self _, q + 1, Phase1, X1, Z1, (fc (hf1.g 2 0) (fc (hf1.g 3 1) (fc (hf1.g 4 2) (fc (hf1.g 5 3) (fc (congrArg (Value.int .i64) (wr_succ hlt1 hN)) fn_))))), (hS7.sel [0, 1, 2, 3] rfl rfl), (by omega), hL1⟩
 ·skip
  obtain rfl : k_ = 0 := by have h := of_decide_eq_false hlt; omega
  refine cw_exit rfl ?_
  obtain rfl := sI hL
  refine cq (cr ?_)
  refine sQ 47 (yb (aD b3) 0 [vi Phase, vi X, vi Z] K14 K0 (hS6.c 3) rfl (hf.g 5 3)) ?_
  refine s0 (yT 2 3 (aD b2) 71 (.agg #[vi Phase, vi X, vi Z]) [vi Phase, vi X, vi Z] 0 hS6 K0 rfl (hf.g 4 2)) ?_
  rintro _ w_11 ⟨rfl, hS20⟩
  refine rn (ct_ ?_)
  obtain rfl := sI hF1
  exact ret1 Try.results41 (v1 := .agg #[vi Phase, vi X, vi Z]) (resAt_cellA (B := aD b2) (i := 0) (cs := [vi Phase, vi X, vi Z]) (vs := [vi Phase, vi X, vi Z]) (hf.g 4 2) K14 K0 (hS20.c 2) rfl rfl) ⟨rfl, (hS20.sN [])⟩

theorem c_spec_l7Then (first : TTableau) (second : TTableau) (B : Option Addr) (c n : Nat) (B1 : Option Addr) (c1 n1 : Nat) (B2 : Option Addr) (c2 n2 : Nat) (B3 : Option Addr) (c3 n3 : Nat) (w0 : World) (hn : first.XImages.length = n) (hn1 : first.ZImages.length = n1) (hn2 : second.XImages.length = n2) (hn3 : second.ZImages.length = n3) (hS : ST w0 [] w0 [] [⟨B, (first.XImages.flatMap eN0)⟩, ⟨B1, (first.ZImages.flatMap eN0)⟩, ⟨B2, (second.XImages.flatMap eN0)⟩, ⟨B3, (second.ZImages.flatMap eN0)⟩]) {r_ : TTableau} (hF : F_spec_l7Then first second = some r_) :
  CV Try.prog 24 #[.agg #[vi first.Qubits, .slice B n c, .slice B1 n1 c1], .agg #[vi second.Qubits, .slice B2 n2 c2, .slice B3 n3 c3]] w0 (fun v w' => ∃ (B4 : Option Addr) (c4 : Nat) (B5 : Option Addr) (c5 : Nat), v = .agg #[vi r_.Qubits, .slice B4 r_.XImages.length c4, .slice B5 r_.ZImages.length c5] ∧ ST w0 [] w' [⟨B4, 71, (r_.XImages.flatMap eN0), c4 * 3⟩, ⟨B5, 71, (r_.ZImages.flatMap eN0), c5 * 3⟩] []) := by
 subst hn
 subst hn1
 subst hn2
 subst hn3
 unfold F_spec_l7Then at hF
 refine cv_of_cw 41 Try.func24 rfl Try.ntmps24 rfl ?_
 refine cq (cr ?_)
 refine sS 2 (yB 40 (.agg #[vi first.Qubits, .slice B first.XImages.length c, .slice B1 first.ZImages.length c1]) [vi first.Qubits, .slice B first.XImages.length c, .slice B1 first.ZImages.length c1] 3 hS) ?_
 rintro _ w_ ⟨b, rfl, hS1⟩
 refine sS 3 (yB 40 (.agg #[vi second.Qubits, .slice B2 second.XImages.length c2, .slice B3 second.ZImages.length c3]) [vi second.Qubits, .slice B2 second.XImages.length c2, .slice B3 second.ZImages.length c3] 3 hS1) ?_
 rintro _ w_1 ⟨b1, rfl, hS2⟩
 refine sS 4 (yN [vi 0, .slice none 0 0, .slice none 0 0] 3 hS2 K31) ?_
 rintro _ w_2 ⟨b2, rfl, hS3⟩
 refine rn (cq (cr ?_))
 refine sQ 7 (yd (aD b) 0 0 K30 K3) <| sQ 8 (yl (aD b) 0 [vi first.Qubits, .slice B first.XImages.length c, .slice B1 first.ZImages.length c1] (vi first.Qubits) K4 (hS3.c 0)) <| sQ 9 (Y_buildS (zs := [vi 0, .slice none 0 0, .slice none 0 0]) (vs := [(0, vi first.Qubits)]) (cs := [vi first.Qubits, .slice none 0 0, .slice none 0 0]) K59 K31 rfl (mpc rfl mpn) rfl) ?_
 refine sS 5 (yN [vi 0, .slice none 0 0, .slice none 0 0] 3 hS3 K31) ?_
 rintro _ w_3 ⟨b3, rfl, hS4⟩
 refine s0 (yT 3 3 (aD b3) 40 (.agg #[vi first.Qubits, .slice none 0 0, .slice none 0 0]) [vi first.Qubits, .slice none 0 0, .slice none 0 0] 0 hS4 K10) ?_
 rintro _ w_4 ⟨rfl, hS5⟩
 refine rn (cq (cq (cr ?_)))
 refine sQ 6 (yg (vi 0)) (rn ?_)
 obtain ⟨hN, hF⟩ := chk_inv hF
 obtain ⟨z, hz, hF1⟩ := bI hF
 have hS7 := hS5.addNil 71
 have hS8 := hS7.addNil 71
 refine cw_block ?_
 refine cw_loop (fun k f w => ∃ (q : Nat) (XImages : List TPauli) (ZImages : List TPauli) (B6 : Option Addr) (c6 : Nat) (B7 : Option Addr) (c7 : Nat), FF f [(2, pt (aD b) 0), (3, pt (aD b1) 0), (4, pt (aD b2) 0), (5, pt (aD b3) 0), (6, vi (q : Int))] ∧ ST w0 [] w [⟨aD b, 40, [vi first.Qubits, .slice B first.XImages.length c, .slice B1 first.ZImages.length c1], 3⟩, ⟨aD b1, 40, [vi second.Qubits, .slice B2 second.XImages.length c2, .slice B3 second.ZImages.length c3], 3⟩, ⟨aD b2, 40, [vi 0, .slice none 0 0, .slice none 0 0], 3⟩, ⟨aD b3, 40, [vi first.Qubits, .slice B6 XImages.length c6, .slice B7 ZImages.length c7], 3⟩, ⟨B6, 71, (XImages.flatMap eN0), c6 * 3⟩, ⟨B7, 71, (ZImages.flatMap eN0), c7 * 3⟩] [⟨B, (first.XImages.flatMap eN0)⟩, ⟨B1, (first.ZImages.flatMap eN0)⟩, ⟨B2, (second.XImages.flatMap eN0)⟩, ⟨B3, (second.ZImages.flatMap eN0)⟩] ∧ q + k = first.Qubits.toNat ∧ forN (F_spec_l7Then_l1 first second) k q (XImages, ZImages) = some z) first.Qubits.toNat ⟨0, [], [], none, 0, none, 0, (fc rfl (fc rfl (fc rfl (fc rfl (fc rfl fn_))))), (hS8.sel [0, 1, 2, 3, 4, 5] rfl rfl), Nat.zero_add _, hz⟩ ?_
 rintro k_ f w ⟨q, XImages, ZImages, B6, c6, B7, c7, hf, hS6, hik, hL⟩
 refine cq (cq (cr ?_))
 refine sQ 10 (ym (vi (q : Int)) rfl (hf.g 6 4)) <| sQ 11 (yd (aD b) 0 0 K30 K3 rfl (hf.g 2 0)) <| sQ 12 (yl (aD b) 0 [vi first.Qubits, .slice B first.XImages.length c, .slice B1 first.ZImages.length c1] (vi first.Qubits) K4 (hS6.c 0)) <| sQ 13 (yL (q : Int) first.Qubits) (rn ?_)
 refine cw_cond (b := (decide ((q : Int) < first.Qubits))) rfl (fun hlt => ?_) (fun hlt => ?_)
 ·skip
  have hlt1 : q < first.Qubits.toNat := by have h := of_decide_eq_true hlt; omega
  obtain ⟨K7, rfl⟩ : ∃ k2, k_ = k2 + 1 := ⟨k_ - 1, by omega⟩
  obtain ⟨y, hb, hL1⟩ := forN_go hL
  unfold F_spec_l7Then_l1 at hb
  refine cw_skip (cq (cw_block (cq ?_)))
  obtain ⟨x, hx, hb⟩ := bI hb
  obtain ⟨r_1, hc, hb⟩ := bI hb
  obtain ⟨hap, hb⟩ := chk_inv hb
  refine cw_mid (fun f w => ∃ (B9 : Option Addr) (c9 : Nat), FF f [(2, pt (aD b) 0), (3, pt (aD b1) 0), (4, pt (aD b2) 0), (5, pt (aD b3) 0), (6, vi (q : Int))] ∧ ST w0 [] w [⟨aD b, 40, [vi first.Qubits, .slice B first.XImages.length c, .slice B1 first.ZImages.length c1], 3⟩, ⟨aD b1, 40, [vi second.Qubits, .slice B2 second.XImages.length c2, .slice B3 second.ZImages.length c3], 3⟩, ⟨aD b2, 40, [vi 0, .slice none 0 0, .slice none 0 0], 3⟩, ⟨aD b3, 40, [vi first.Qubits, .slice B9 ((XImages ++ [r_1]).length) c9, .slice B7 ZImages.length c7], 3⟩, ⟨B9, 71, ((XImages ++ [r_1]).flatMap eN0), c9 * 3⟩, ⟨B7, 71, (ZImages.flatMap eN0), c7 * 3⟩] [⟨B, (first.XImages.flatMap eN0)⟩, ⟨B1, (first.ZImages.flatMap eN0)⟩, ⟨B2, (second.XImages.flatMap eN0)⟩, ⟨B3, (second.ZImages.flatMap eN0)⟩]) ?_ ?_
  ·skip
   refine ra_start (hS6.se [0, 1, 2, 5]).fn (by kernel_rfl) ?_
   have hS11 := hS6.drew
   refine rq 0 16 (v := pt (aD b3) 1) rfl (hS11.se [0, 1, 2, 5]) (fun w' hw' => (yd (aD b3) 0 0 K9 K1 rfl (hf.g 5 3))) ?_
   refine rq 2 18 (v := .agg #[vi second.Qubits, .slice B2 second.XImages.length c2, .slice B3 second.ZImages.length c3]) rfl (hS11.se [0, 1, 2, 5]) (fun w' hw' => (yb (aD b1) 0 [vi second.Qubits, .slice B2 second.XImages.length c2, .slice B3 second.ZImages.length c3] K20 K10 (ST.cf hw' (i := 1) rfl) rfl (hf.g 3 1))) ?_
   refine rq 3 19 (v := pt (aD b) 1) rfl (hS11.se [0, 1, 2, 5]) (fun w' hw' => (yd (aD b) 0 0 K9 K1 rfl (hf.g 2 0))) ?_
   refine rq 4 20 (v := .slice B first.XImages.length c) rfl (hS11.se [0, 1, 2, 5]) (fun w' hw' => (yl (aD b) 1 [vi first.Qubits, .slice B first.XImages.length c, .slice B1 first.ZImages.length c1] (.slice B first.XImages.length c) K6 (ST.cf hw' (i := 0) rfl))) ?_
   refine rq 5 21 (v := vi (q : Int)) rfl (hS11.se [0, 1, 2, 5]) (fun w' hw' => (ym (vi (q : Int)) rfl (hf.g 6 4))) ?_
   refine rq 6 22 (v := pt B ((q : Int).toNat * 3)) rfl (hS11.se [0, 1, 2, 5]) (fun w' hw' => (Y_index (B := B) (m := first.XImages.length) (c := c) (k := .i64) (i := (q : Int)) K2 K0 rfl rfl rfl (gi_isSome eN1 rfl (ST.rf hw' (i := 0) rfl) hx) (getI_nn hx) (getI_ltI hx rfl))) ?_
   refine rq 7 23 (v := .agg #[vi x.Phase, vi x.X, vi x.Z]) rfl (hS11.se [0, 1, 2, 5]) (fun w' hw' => (ya B ((q : Int).toNat * 3) (first.XImages.flatMap eN0) [vi x.Phase, vi x.X, vi x.Z] K14 K0 (ST.rf hw' (i := 0) rfl) rfl rfl (eN1 x) (gi_seg eN1 hx))) ?_
   refine rA [1, 8] ?_
   refine ra_y 17 (i := 1) (v := .slice B6 XImages.length c6) rfl rfl rfl (yl (aD b3) 1 [vi first.Qubits, .slice B6 XImages.length c6, .slice B7 ZImages.length c7] (.slice B6 XImages.length c6) K6 (hS11.c 3)) (hS11.se [0, 1, 2, 5]) ?_ ?_
   ·skip
    refine rA [8] ?_
    refine rC 24 8 rfl (yC [.agg #[vi second.Qubits, .slice B2 second.XImages.length c2, .slice B3 second.ZImages.length c3], .agg #[vi x.Phase, vi x.X, vi x.Z]] K71 (c_spec_l7Image second x B2 c2 second.XImages.length B3 c3 second.ZImages.length _ rfl rfl (hS11.inn0 [(true, 2), (true, 3)] rfl) hc)) ?_ ?_
    ·rintro _ w_5 ⟨rfl, hd⟩
     have hS12 := hS11.out00 hd
     refine ⟨(hS12.se [0, 1, 2, 5]), ?_⟩
     refine rA [9] ?_
     refine rS 25 9 rfl (Ys_bslice (s := 3) (len := 1) (vs := [(0, .agg #[vi r_1.Phase, vi r_1.X, vi r_1.Z])]) (cs := [vi r_1.Phase, vi r_1.X, vi r_1.Z]) (zs := [vi 0, vi 0, vi 0]) (m := 3) hS12 K2 K0 K12 rfl (mpc rfl mpn) rfl rfl rfl (by kernel_rfl) (by kernel_rfl) rfl) ?_ ?_
     ·rintro _ w_6 ⟨b4, rfl, hS13⟩
      refine ⟨(hS13.se [0, 1, 2, 5]), ?_⟩
      refine rA [10] ?_
      refine rS 26 10 rfl (Ys_append (s := 3) (by' := 24) (i := 4) (nn := XImages.length) (c := c6) (k := 1) (len := (XImages ++ [r_1]).length) (B := B6) (xs := ([r_1].flatMap eN0)) (cs' := ((XImages ++ [r_1]).flatMap eN0)) hS13 K2 K0 K8 K5 rfl (by decide) rfl rfl rfl rfl (fm_lenn (l := XImages) eN1 rfl) rfl (hS13.c 6) (fm_lenn (l := [r_1]) eN1 rfl) (fm_one' (enc := eN0) eN3 [r_1]) (by have := hap; omega) (by have := hap; simp only [maxLen]; omega) (fm_app _ _) (app_len (l := XImages) (l' := [r_1]) rfl rfl)) ?_ ?_
      ·rintro _ w_7 ⟨B8, c8, rfl, hS14⟩
       refine ⟨(hS14.se [0, 1, 2, 5]), ?_⟩
       refine rq 11 27 (v := pt (aD b3) 1) rfl (hS14.se [0, 1, 2, 5]) (fun w' hw' => (yd (aD b3) 0 0 K9 K1 rfl (hf.g 5 3))) ?_
       refine rA [12] ?_
       refine rZ 12 rfl (yS 3 1 (aD b3) 40 (.slice B8 ((XImages ++ [r_1]).length) c8) [.slice B8 ((XImages ++ [r_1]).length) c8] 1 [vi first.Qubits, .slice B8 ((XImages ++ [r_1]).length) c8, .slice B7 ZImages.length c7] hS14 K1) ?_ ?_
       ·rintro _ w_8 ⟨rfl, hS15⟩
        refine ⟨(hS15.se [0, 1, 2, 5]), ?_⟩
        refine ra_done (by kernel_rfl) ?_
        exact ⟨B8, c8, (fc (hf.g 2 0) (fc (hf.g 3 1) (fc (hf.g 4 2) (fc (hf.g 5 3) (fc (hf.g 6 4) fn_))))), (hS15.sel [0, 1, 2, 3, 4, 5] rfl rfl)⟩
       exact aN
      exact aN
     exact aN
    exact aN
   refine rC 24 8 rfl (yC [.agg #[vi second.Qubits, .slice B2 second.XImages.length c2, .slice B3 second.ZImages.length c3], .agg #[vi x.Phase, vi x.X, vi x.Z]] K71 (c_spec_l7Image second x B2 c2 second.XImages.length B3 c3 second.ZImages.length _ rfl rfl (hS11.inn0 [(true, 2), (true, 3)] rfl) hc)) ?_ ?_
   ·rintro _ w_9 ⟨rfl, hd1⟩
    have hS16 := hS11.out00 hd1
    refine ⟨(hS16.se [0, 1, 2, 5]), ?_⟩
    refine rA [1, 9] ?_
    refine ra_y 17 (i := 1) (v := .slice B6 XImages.length c6) rfl rfl rfl (yl (aD b3) 1 [vi first.Qubits, .slice B6 XImages.length c6, .slice B7 ZImages.length c7] (.slice B6 XImages.length c6) K6 (hS16.c 3)) (hS16.se [0, 1, 2, 5]) ?_ ?_
    ·skip
     refine rA [9] ?_
     refine rS 25 9 rfl (Ys_bslice (s := 3) (len := 1) (vs := [(0, .agg #[vi r_1.Phase, vi r_1.X, vi r_1.Z])]) (cs := [vi r_1.Phase, vi r_1.X, vi r_1.Z]) (zs := [vi 0, vi 0, vi 0]) (m := 3) hS16 K2 K0 K12 rfl (mpc rfl mpn) rfl rfl rfl (by kernel_rfl) (by kernel_rfl) rfl) ?_ ?_
     ·rintro _ w_10 ⟨b4, rfl, hS17⟩
      refine ⟨(hS17.se [0, 1, 2, 5]), ?_⟩
      refine rA [10] ?_
      refine rS 26 10 rfl (Ys_append (s := 3) (by' := 24) (i := 4) (nn := XImages.length) (c := c6) (k := 1) (len := (XImages ++ [r_1]).length) (B := B6) (xs := ([r_1].flatMap eN0)) (cs' := ((XImages ++ [r_1]).flatMap eN0)) hS17 K2 K0 K8 K5 rfl (by decide) rfl rfl rfl rfl (fm_lenn (l := XImages) eN1 rfl) rfl (hS17.c 6) (fm_lenn (l := [r_1]) eN1 rfl) (fm_one' (enc := eN0) eN3 [r_1]) (by have := hap; omega) (by have := hap; simp only [maxLen]; omega) (fm_app _ _) (app_len (l := XImages) (l' := [r_1]) rfl rfl)) ?_ ?_
      ·rintro _ w_11 ⟨B8, c8, rfl, hS18⟩
       refine ⟨(hS18.se [0, 1, 2, 5]), ?_⟩
       refine rq 11 27 (v := pt (aD b3) 1) rfl (hS18.se [0, 1, 2, 5]) (fun w' hw' => (yd (aD b3) 0 0 K9 K1 rfl (hf.g 5 3))) ?_
       refine rA [12] ?_
       refine rZ 12 rfl (yS 3 1 (aD b3) 40 (.slice B8 ((XImages ++ [r_1]).length) c8) [.slice B8 ((XImages ++ [r_1]).length) c8] 1 [vi first.Qubits, .slice B8 ((XImages ++ [r_1]).length) c8, .slice B7 ZImages.length c7] hS18 K1) ?_ ?_
       ·rintro _ w_12 ⟨rfl, hS19⟩
        refine ⟨(hS19.se [0, 1, 2, 5]), ?_⟩
        refine ra_done (by kernel_rfl) ?_
        exact ⟨B8, c8, (fc (hf.g 2 0) (fc (hf.g 3 1) (fc (hf.g 4 2) (fc (hf.g 5 3) (fc (hf.g 6 4) fn_))))), (hS19.sel [0, 1, 2, 3, 4, 5] rfl rfl)⟩
       exact aN
      exact aN
     exact aN
    refine rS 25 9 rfl (Ys_bslice (s := 3) (len := 1) (vs := [(0, .agg #[vi r_1.Phase, vi r_1.X, vi r_1.Z])]) (cs := [vi r_1.Phase, vi r_1.X, vi r_1.Z]) (zs := [vi 0, vi 0, vi 0]) (m := 3) hS16 K2 K0 K12 rfl (mpc rfl mpn) rfl rfl rfl (by kernel_rfl) (by kernel_rfl) rfl) ?_ ?_
    ·rintro _ w_13 ⟨b4, rfl, hS20⟩
     refine ⟨(hS20.se [0, 1, 2, 5]), ?_⟩
     refine rA [1] ?_
     refine ra_y 17 (i := 1) (v := .slice B6 XImages.length c6) rfl rfl rfl (yl (aD b3) 1 [vi first.Qubits, .slice B6 XImages.length c6, .slice B7 ZImages.length c7] (.slice B6 XImages.length c6) K6 (hS20.c 3)) (hS20.se [0, 1, 2, 5]) ?_ ?_
     ·skip
      refine rA [10] ?_
      refine rS 26 10 rfl (Ys_append (s := 3) (by' := 24) (i := 4) (nn := XImages.length) (c := c6) (k := 1) (len := (XImages ++ [r_1]).length) (B := B6) (xs := ([r_1].flatMap eN0)) (cs' := ((XImages ++ [r_1]).flatMap eN0)) hS20 K2 K0 K8 K5 rfl (by decide) rfl rfl rfl rfl (fm_lenn (l := XImages) eN1 rfl) rfl (hS20.c 6) (fm_lenn (l := [r_1]) eN1 rfl) (fm_one' (enc := eN0) eN3 [r_1]) (by have := hap; omega) (by have := hap; simp only [maxLen]; omega) (fm_app _ _) (app_len (l := XImages) (l' := [r_1]) rfl rfl)) ?_ ?_
      ·rintro _ w_14 ⟨B8, c8, rfl, hS21⟩
       refine ⟨(hS21.se [0, 1, 2, 5]), ?_⟩
       refine rq 11 27 (v := pt (aD b3) 1) rfl (hS21.se [0, 1, 2, 5]) (fun w' hw' => (yd (aD b3) 0 0 K9 K1 rfl (hf.g 5 3))) ?_
       refine rA [12] ?_
       refine rZ 12 rfl (yS 3 1 (aD b3) 40 (.slice B8 ((XImages ++ [r_1]).length) c8) [.slice B8 ((XImages ++ [r_1]).length) c8] 1 [vi first.Qubits, .slice B8 ((XImages ++ [r_1]).length) c8, .slice B7 ZImages.length c7] hS21 K1) ?_ ?_
       ·rintro _ w_15 ⟨rfl, hS22⟩
        refine ⟨(hS22.se [0, 1, 2, 5]), ?_⟩
        refine ra_done (by kernel_rfl) ?_
        exact ⟨B8, c8, (fc (hf.g 2 0) (fc (hf.g 3 1) (fc (hf.g 4 2) (fc (hf.g 5 3) (fc (hf.g 6 4) fn_))))), (hS22.sel [0, 1, 2, 3, 4, 5] rfl rfl)⟩
       exact aN
      exact aN
     exact aN
    exact aN
   exact aN
  rintro f w ⟨B9, c9, hf1, hS10⟩
  obtain ⟨x1, hx1, hb⟩ := bI hb
  obtain ⟨r_2, hc1, hb⟩ := bI hb
  obtain ⟨hap1, hb⟩ := chk_inv hb
  refine cw_mid (fun f w => ∃ (B11 : Option Addr) (c11 : Nat), FF f [(2, pt (aD b) 0), (3, pt (aD b1) 0), (4, pt (aD b2) 0), (5, pt (aD b3) 0), (6, vi (q : Int))] ∧ ST w0 [] w [⟨aD b, 40, [vi first.Qubits, .slice B first.XImages.length c, .slice B1 first.ZImages.length c1], 3⟩, ⟨aD b1, 40, [vi second.Qubits, .slice B2 second.XImages.length c2, .slice B3 second.ZImages.length c3], 3⟩, ⟨aD b2, 40, [vi 0, .slice none 0 0, .slice none 0 0], 3⟩, ⟨aD b3, 40, [vi first.Qubits, .slice B9 ((XImages ++ [r_1]).length) c9, .slice B11 ((ZImages ++ [r_2]).length) c11], 3⟩, ⟨B9, 71, ((XImages ++ [r_1]).flatMap eN0), c9 * 3⟩, ⟨B11, 71, ((ZImages ++ [r_2]).flatMap eN0), c11 * 3⟩] [⟨B, (first.XImages.flatMap eN0)⟩, ⟨B1, (first.ZImages.flatMap eN0)⟩, ⟨B2, (second.XImages.flatMap eN0)⟩, ⟨B3, (second.ZImages.flatMap eN0)⟩]) ?_ ?_
  ·skip
   refine ra_start (hS10.se [0, 1, 2, 4]).fn (by kernel_rfl) ?_
   have hS25 := hS10.drew
   refine rq 0 28 (v := pt (aD b3) 2) rfl (hS25.se [0, 1, 2, 4]) (fun w' hw' => (yd (aD b3) 0 0 K11 K1 rfl (hf1.g 5 3))) ?_
   refine rq 2 30 (v := .agg #[vi second.Qubits, .slice B2 second.XImages.length c2, .slice B3 second.ZImages.length c3]) rfl (hS25.se [0, 1, 2, 4]) (fun w' hw' => (yb (aD b1) 0 [vi second.Qubits, .slice B2 second.XImages.length c2, .slice B3 second.ZImages.length c3] K20 K10 (ST.cf hw' (i := 1) rfl) rfl (hf1.g 3 1))) ?_
   refine rq 3 31 (v := pt (aD b) 2) rfl (hS25.se [0, 1, 2, 4]) (fun w' hw' => (yd (aD b) 0 0 K11 K1 rfl (hf1.g 2 0))) ?_
   refine rq 4 32 (v := .slice B1 first.ZImages.length c1) rfl (hS25.se [0, 1, 2, 4]) (fun w' hw' => (yl (aD b) 2 [vi first.Qubits, .slice B first.XImages.length c, .slice B1 first.ZImages.length c1] (.slice B1 first.ZImages.length c1) K6 (ST.cf hw' (i := 0) rfl))) ?_
   refine rq 5 33 (v := vi (q : Int)) rfl (hS25.se [0, 1, 2, 4]) (fun w' hw' => (ym (vi (q : Int)) rfl (hf1.g 6 4))) ?_
   refine rq 6 34 (v := pt B1 ((q : Int).toNat * 3)) rfl (hS25.se [0, 1, 2, 4]) (fun w' hw' => (Y_index (B := B1) (m := first.ZImages.length) (c := c1) (k := .i64) (i := (q : Int)) K2 K0 rfl rfl rfl (gi_isSome eN1 rfl (ST.rf hw' (i := 1) rfl) hx1) (getI_nn hx1) (getI_ltI hx1 rfl))) ?_
   refine rq 7 35 (v := .agg #[vi x1.Phase, vi x1.X, vi x1.Z]) rfl (hS25.se [0, 1, 2, 4]) (fun w' hw' => (ya B1 ((q : Int).toNat * 3) (first.ZImages.flatMap eN0) [vi x1.Phase, vi x1.X, vi x1.Z] K14 K0 (ST.rf hw' (i := 1) rfl) rfl rfl (eN1 x1) (gi_seg eN1 hx1))) ?_
   refine rA [1, 8] ?_
   refine ra_y 29 (i := 1) (v := .slice B7 ZImages.length c7) rfl rfl rfl (yl (aD b3) 2 [vi first.Qubits, .slice B9 ((XImages ++ [r_1]).length) c9, .slice B7 ZImages.length c7] (.slice B7 ZImages.length c7) K6 (hS25.c 3)) (hS25.se [0, 1, 2, 4]) ?_ ?_
   ·skip
    refine rA [8] ?_
    refine rC 36 8 rfl (yC [.agg #[vi second.Qubits, .slice B2 second.XImages.length c2, .slice B3 second.ZImages.length c3], .agg #[vi x1.Phase, vi x1.X, vi x1.Z]] K71 (c_spec_l7Image second x1 B2 c2 second.XImages.length B3 c3 second.ZImages.length _ rfl rfl (hS25.inn0 [(true, 2), (true, 3)] rfl) hc1)) ?_ ?_
    ·rintro _ w_16 ⟨rfl, hd2⟩
     have hS26 := hS25.out00 hd2
     refine ⟨(hS26.se [0, 1, 2, 4]), ?_⟩
     refine rA [9] ?_
     refine rS 37 9 rfl (Ys_bslice (s := 3) (len := 1) (vs := [(0, .agg #[vi r_2.Phase, vi r_2.X, vi r_2.Z])]) (cs := [vi r_2.Phase, vi r_2.X, vi r_2.Z]) (zs := [vi 0, vi 0, vi 0]) (m := 3) hS26 K2 K0 K12 rfl (mpc rfl mpn) rfl rfl rfl (by kernel_rfl) (by kernel_rfl) rfl) ?_ ?_
     ·rintro _ w_17 ⟨b5, rfl, hS27⟩
      refine ⟨(hS27.se [0, 1, 2, 4]), ?_⟩
      refine rA [10] ?_
      refine rS 38 10 rfl (Ys_append (s := 3) (by' := 24) (i := 5) (nn := ZImages.length) (c := c7) (k := 1) (len := (ZImages ++ [r_2]).length) (B := B7) (xs := ([r_2].flatMap eN0)) (cs' := ((ZImages ++ [r_2]).flatMap eN0)) hS27 K2 K0 K8 K5 rfl (by decide) rfl rfl rfl rfl (fm_lenn (l := ZImages) eN1 rfl) rfl (hS27.c 6) (fm_lenn (l := [r_2]) eN1 rfl) (fm_one' (enc := eN0) eN3 [r_2]) (by have := hap1; omega) (by have := hap1; simp only [maxLen]; omega) (fm_app _ _) (app_len (l := ZImages) (l' := [r_2]) rfl rfl)) ?_ ?_
      ·rintro _ w_18 ⟨B10, c10, rfl, hS28⟩
       refine ⟨(hS28.se [0, 1, 2, 4]), ?_⟩
       refine rq 11 39 (v := pt (aD b3) 2) rfl (hS28.se [0, 1, 2, 4]) (fun w' hw' => (yd (aD b3) 0 0 K11 K1 rfl (hf1.g 5 3))) ?_
       refine rA [12] ?_
       refine rZ 12 rfl (yS 3 1 (aD b3) 40 (.slice B10 ((ZImages ++ [r_2]).length) c10) [.slice B10 ((ZImages ++ [r_2]).length) c10] 2 [vi first.Qubits, .slice B9 ((XImages ++ [r_1]).length) c9, .slice B10 ((ZImages ++ [r_2]).length) c10] hS28 K1) ?_ ?_
       ·rintro _ w_19 ⟨rfl, hS29⟩
        refine ⟨(hS29.se [0, 1, 2, 4]), ?_⟩
        refine ra_done (by kernel_rfl) ?_
        exact ⟨B10, c10, (fc (hf1.g 2 0) (fc (hf1.g 3 1) (fc (hf1.g 4 2) (fc (hf1.g 5 3) (fc (hf1.g 6 4) fn_))))), (hS29.sel [0, 1, 2, 3, 4, 5] rfl rfl)⟩
       exact aN
      exact aN
     exact aN
    exact aN
   refine rC 36 8 rfl (yC [.agg #[vi second.Qubits, .slice B2 second.XImages.length c2, .slice B3 second.ZImages.length c3], .agg #[vi x1.Phase, vi x1.X, vi x1.Z]] K71 (c_spec_l7Image second x1 B2 c2 second.XImages.length B3 c3 second.ZImages.length _ rfl rfl (hS25.inn0 [(true, 2), (true, 3)] rfl) hc1)) ?_ ?_
   ·rintro _ w_20 ⟨rfl, hd3⟩
    have hS30 := hS25.out00 hd3
    refine ⟨(hS30.se [0, 1, 2, 4]), ?_⟩
    refine rA [1, 9] ?_
    refine ra_y 29 (i := 1) (v := .slice B7 ZImages.length c7) rfl rfl rfl (yl (aD b3) 2 [vi first.Qubits, .slice B9 ((XImages ++ [r_1]).length) c9, .slice B7 ZImages.length c7] (.slice B7 ZImages.length c7) K6 (hS30.c 3)) (hS30.se [0, 1, 2, 4]) ?_ ?_
    ·skip
     refine rA [9] ?_
     refine rS 37 9 rfl (Ys_bslice (s := 3) (len := 1) (vs := [(0, .agg #[vi r_2.Phase, vi r_2.X, vi r_2.Z])]) (cs := [vi r_2.Phase, vi r_2.X, vi r_2.Z]) (zs := [vi 0, vi 0, vi 0]) (m := 3) hS30 K2 K0 K12 rfl (mpc rfl mpn) rfl rfl rfl (by kernel_rfl) (by kernel_rfl) rfl) ?_ ?_
     ·rintro _ w_21 ⟨b5, rfl, hS31⟩
      refine ⟨(hS31.se [0, 1, 2, 4]), ?_⟩
      refine rA [10] ?_
      refine rS 38 10 rfl (Ys_append (s := 3) (by' := 24) (i := 5) (nn := ZImages.length) (c := c7) (k := 1) (len := (ZImages ++ [r_2]).length) (B := B7) (xs := ([r_2].flatMap eN0)) (cs' := ((ZImages ++ [r_2]).flatMap eN0)) hS31 K2 K0 K8 K5 rfl (by decide) rfl rfl rfl rfl (fm_lenn (l := ZImages) eN1 rfl) rfl (hS31.c 6) (fm_lenn (l := [r_2]) eN1 rfl) (fm_one' (enc := eN0) eN3 [r_2]) (by have := hap1; omega) (by have := hap1; simp only [maxLen]; omega) (fm_app _ _) (app_len (l := ZImages) (l' := [r_2]) rfl rfl)) ?_ ?_
      ·rintro _ w_22 ⟨B10, c10, rfl, hS32⟩
       refine ⟨(hS32.se [0, 1, 2, 4]), ?_⟩
       refine rq 11 39 (v := pt (aD b3) 2) rfl (hS32.se [0, 1, 2, 4]) (fun w' hw' => (yd (aD b3) 0 0 K11 K1 rfl (hf1.g 5 3))) ?_
       refine rA [12] ?_
       refine rZ 12 rfl (yS 3 1 (aD b3) 40 (.slice B10 ((ZImages ++ [r_2]).length) c10) [.slice B10 ((ZImages ++ [r_2]).length) c10] 2 [vi first.Qubits, .slice B9 ((XImages ++ [r_1]).length) c9, .slice B10 ((ZImages ++ [r_2]).length) c10] hS32 K1) ?_ ?_
       ·rintro _ w_23 ⟨rfl, hS33⟩
        refine ⟨(hS33.se [0, 1, 2, 4]), ?_⟩
        refine ra_done (by kernel_rfl) ?_
        exact ⟨B10, c10, (fc (hf1.g 2 0) (fc (hf1.g 3 1) (fc (hf1.g 4 2) (fc (hf1.g 5 3) (fc (hf1.g 6 4) fn_))))), (hS33.sel [0, 1, 2, 3, 4, 5] rfl rfl)⟩
       exact aN
      exact aN
     exact aN
    refine rS 37 9 rfl (Ys_bslice (s := 3) (len := 1) (vs := [(0, .agg #[vi r_2.Phase, vi r_2.X, vi r_2.Z])]) (cs := [vi r_2.Phase, vi r_2.X, vi r_2.Z]) (zs := [vi 0, vi 0, vi 0]) (m := 3) hS30 K2 K0 K12 rfl (mpc rfl mpn) rfl rfl rfl (by kernel_rfl) (by kernel_rfl) rfl) ?_ ?_
    ·rintro _ w_24 ⟨b5, rfl, hS34⟩
     refine ⟨(hS34.se [0, 1, 2, 4]), ?_⟩
     refine rA [1] ?_
     refine ra_y 29 (i := 1) (v := .slice B7 ZImages.length c7) rfl rfl rfl (yl (aD b3) 2 [vi first.Qubits, .slice B9 ((XImages ++ [r_1]).length) c9, .slice B7 ZImages.length c7] (.slice B7 ZImages.length c7) K6 (hS34.c 3)) (hS34.se [0, 1, 2, 4]) ?_ ?_
     ·skip
      refine rA [10] ?_
      refine rS 38 10 rfl (Ys_append (s := 3) (by' := 24) (i := 5) (nn := ZImages.length) (c := c7) (k := 1) (len := (ZImages ++ [r_2]).length) (B := B7) (xs := ([r_2].flatMap eN0)) (cs' := ((ZImages ++ [r_2]).flatMap eN0)) hS34 K2 K0 K8 K5 rfl (by decide) rfl rfl rfl rfl (fm_lenn (l := ZImages) eN1 rfl) rfl (hS34.c 6) (fm_lenn (l := [r_2]) eN1 rfl) (fm_one' (enc := eN0) eN3 [r_2]) (by have := hap1; omega) (by have := hap1; simp only [maxLen]; omega) (fm_app _ _) (app_len (l := ZImages) (l' := [r_2]) rfl rfl)) ?_ ?_
      ·rintro _ w_25 ⟨B10, c10, rfl, hS35⟩
       refine ⟨(hS35.se [0, 1, 2, 4]), ?_⟩
       refine rq 11 39 (v := pt (aD b3) 2) rfl (hS35.se [0, 1, 2, 4]) (fun w' hw' => (yd (aD b3) 0 0 K11 K1 rfl (hf1.g 5 3))) ?_
       refine rA [12] ?_
       refine rZ 12 rfl (yS 3 1 (aD b3) 40 (.slice B10 ((ZImages ++ [r_2]).length) c10) [.slice B10 ((ZImages ++ [r_2]).length) c10] 2 [vi first.Qubits, .slice B9 ((XImages ++ [r_1]).length) c9, .slice B10 ((ZImages ++ [r_2]).length) c10] hS35 K1) ?_ ?_
       ·rintro _ w_26 ⟨rfl, hS36⟩
        refine ⟨(hS36.se [0, 1, 2, 4]), ?_⟩
        refine ra_done (by kernel_rfl) ?_
        exact ⟨B10, c10, (fc (hf1.g 2 0) (fc (hf1.g 3 1) (fc (hf1.g 4 2) (fc (hf1.g 5 3) (fc (hf1.g 6 4) fn_))))), (hS36.sel [0, 1, 2, 3, 4, 5] rfl rfl)⟩
       exact aN
      exact aN
     exact aN
    exact aN
   exact aN
  rintro f w ⟨B11, c11, hf2, hS24⟩
  refine cr ?_
  refine sQ 14 (ym (vi (q : Int)) rfl (hf2.g 6 4)) <| sQ 15 (yP (q : Int) 1) <| sQ 6 (yg (vi (i64.wrap ((q : Int) + 1)))) (rn ?_)
  obtain rfl := sI hb
  exact ⟨K7, Nat.lt_succ_self _, q + 1, (XImages ++ [r_1]), (ZImages ++ [r_2]), B9, c9, B11, c11, (fc (hf2.g 2 0) (fc (hf2.g 3 1) (fc (hf2.g 4 2) (fc (hf2.g 5 3) (fc (congrArg (Value.int .i64) (wr_succ hlt1 hN)) fn_))))), (hS24.sel [0, 1, 2, 3, 4, 5] rfl rfl), (by omega), hL1⟩
 ·skip
  obtain rfl : k_ = 0 := by have h := of_decide_eq_false hlt; omega
  refine cw_exit rfl ?_
  obtain rfl := sI hL
  refine cq (cr ?_)
  refine sQ 40 (yb (aD b3) 0 [vi first.Qubits, .slice B6 XImages.length c6, .slice B7 ZImages.length c7] K20 K10 (hS6.c 3) rfl (hf.g 5 3)) ?_
  refine s0 (yT 2 3 (aD b2) 40 (.agg #[vi first.Qubits, .slice B6 XImages.length c6, .slice B7 ZImages.length c7]) [vi first.Qubits, .slice B6 XImages.length c6, .slice B7 ZImages.length c7] 0 hS6 K10 rfl (hf.g 4 2)) ?_
  rintro _ w_27 ⟨rfl, hS37⟩
  refine rn (ct_ ?_)
  obtain rfl := sI hF1
  exact ret1 Try.results24 (v1 := .agg #[vi first.Qubits, .slice B6 XImages.length c6, .slice B7 ZImages.length c7]) (resAt_cellA (B := aD b2) (i := 0) (cs := [vi first.Qubits, .slice B6 XImages.length c6, .slice B7 ZImages.length c7]) (vs := [vi first.Qubits, .slice B6 XImages.length c6, .slice B7 ZImages.length c7]) (hf.g 4 2) K20 K10 (hS37.c 2) rfl rfl) ⟨B6, c6, B7, c7, rfl, (hS37.sN [4, 5])⟩

theorem c_spec_l7Identity (n : Int)  (w0 : World)  (hS : ST w0 [] w0 [] []) {r_ : TTableau} (hF : F_spec_l7Identity n = some r_) :
  CV Try.prog 23 #[vi n] w0 (fun v w' => ∃ (B : Option Addr) (c : Nat) (B1 : Option Addr) (c1 : Nat), v = .agg #[vi r_.Qubits, .slice B r_.XImages.length c, .slice B1 r_.ZImages.length c1] ∧ ST w0 [] w' [⟨B, 71, (r_.XImages.flatMap eN0), c * 3⟩, ⟨B1, 71, (r_.ZImages.flatMap eN0), c1 * 3⟩] []) := by
 unfold F_spec_l7Identity at hF
 refine cv_of_cw 31 Try.func23 rfl Try.ntmps23 rfl ?_
 refine cq (cr ?_)
 refine sS 2 (yN [vi 0, .slice none 0 0, .slice none 0 0] 3 hS K31) ?_
 rintro _ w_ ⟨b, rfl, hS1⟩
 refine rn (cq (cr ?_))
 refine sQ 5 (ym (vi n)) <| sQ 6 (Y_buildS (zs := [vi 0, .slice none 0 0, .slice none 0 0]) (vs := [(0, vi n)]) (cs := [vi n, .slice none 0 0, .slice none 0 0]) K59 K31 rfl (mpc rfl mpn) rfl) ?_
 refine sS 3 (yN [vi 0, .slice none 0 0, .slice none 0 0] 3 hS1 K31) ?_
 rintro _ w_1 ⟨b1, rfl, hS2⟩
 refine s0 (yT 1 3 (aD b1) 40 (.agg #[vi n, .slice none 0 0, .slice none 0 0]) [vi n, .slice none 0 0, .slice none 0 0] 0 hS2 K10) ?_
 rintro _ w_2 ⟨rfl, hS3⟩
 refine rn (cq (cq (cr ?_)))
 refine sQ 4 (yg (vi 0)) (rn ?_)
 obtain ⟨hN, hF⟩ := chk_inv hF
 obtain ⟨z, hz, hF1⟩ := bI hF
 have hS5 := hS3.addNil 71
 have hS6 := hS5.addNil 71
 refine cw_block ?_
 refine cw_loop (fun k f w => ∃ (q : Nat) (XImages : List TPauli) (ZImages : List TPauli) (B2 : Option Addr) (c2 : Nat) (B3 : Option Addr) (c3 : Nat), FF f [(0, vi n), (2, pt (aD b) 0), (3, pt (aD b1) 0), (4, vi (q : Int))] ∧ ST w0 [] w [⟨aD b, 40, [vi 0, .slice none 0 0, .slice none 0 0], 3⟩, ⟨aD b1, 40, [vi n, .slice B2 XImages.length c2, .slice B3 ZImages.length c3], 3⟩, ⟨B2, 71, (XImages.flatMap eN0), c2 * 3⟩, ⟨B3, 71, (ZImages.flatMap eN0), c3 * 3⟩] [] ∧ q + k = n.toNat ∧ forN F_spec_l7Identity_l1 k q (XImages, ZImages) = some z) n.toNat ⟨0, [], [], none, 0, none, 0, (fc rfl (fc rfl (fc rfl (fc rfl fn_)))), (hS6.sel [0, 1, 2, 3] rfl rfl), Nat.zero_add _, hz⟩ ?_
 rintro k_ f w ⟨q, XImages, ZImages, B2, c2, B3, c3, hf, hS4, hik, hL⟩
 refine cq (cq (cr ?_))
 refine sQ 7 (ym (vi (q : Int)) rfl (hf.g 4 3)) <| sQ 8 (ym (vi n) rfl (hf.g 0 0)) <| sQ 9 (yL (q : Int) n) (rn ?_)
 refine cw_cond (b := (decide ((q : Int) < n))) rfl (fun hlt => ?_) (fun hlt => ?_)
 ·skip
  have hlt1 : q < n.toNat := by have h := of_decide_eq_true hlt; omega
  obtain ⟨K7, rfl⟩ : ∃ k2, k_ = k2 + 1 := ⟨k_ - 1, by omega⟩
  obtain ⟨y, hb, hL1⟩ := forN_go hL
  unfold F_spec_l7Identity_l1 at hb
  refine cw_skip (cq (cw_block (cq (cr ?_))))
  refine sQ 12 (yd (aD b1) 0 0 K9 K1 rfl (hf.g 3 2)) <| sQ 13 (yl (aD b1) 1 [vi n, .slice B2 XImages.length c2, .slice B3 ZImages.length c3] (.slice B2 XImages.length c2) K6 (hS4.c 1)) <| sQ 14 (ym (vi (q : Int)) rfl (hf.g 4 3)) <| sQ 15 (Y_conv (k := .i64) (a := (q : Int)) (T := 3) (T' := 74) K39 K40 rfl rfl) ?_
  obtain ⟨hsh, hb⟩ := chk_inv hb
  refine sQ 16 (Y_shl (k := .i64) (a := 1) (k' := .u64) (b := (IntKind.u64.wrap (q : Int))) rfl rfl rfl hsh) <| sQ 17 (Y_buildS (zs := [vi 0, vi 0, vi 0]) (vs := [(1, vi (shlK .i64 1 (IntKind.u64.wrap (q : Int))))]) (cs := [vi 0, vi (shlK .i64 1 (IntKind.u64.wrap (q : Int))), vi 0]) K24 K5 rfl (mpc rfl mpn) rfl) ?_
  refine sS 18 (Ys_bslice (s := 3) (len := 1) (vs := [(0, .agg #[vi 0, vi (shlK .i64 1 (IntKind.u64.wrap (q : Int))), vi 0])]) (cs := [vi 0, vi (shlK .i64 1 (IntKind.u64.wrap (q : Int))), vi 0]) (zs := [vi 0, vi 0, vi 0]) (m := 3) hS4 K2 K0 K12 rfl (mpc rfl mpn) rfl rfl rfl (by kernel_rfl) (by kernel_rfl) rfl) ?_
  rintro _ w_3 ⟨b2, rfl, hS7⟩
  obtain ⟨hap, hb⟩ := chk_inv hb
  refine sS 19 (Ys_append (s := 3) (by' := 24) (i := 2) (nn := XImages.length) (c := c2) (k := 1) (len := (XImages ++ [(TPauli.mk 0 (shlK .i64 1 (IntKind.u64.wrap (q : Int))) 0)]).length) (B := B2) (xs := ([(TPauli.mk 0 (shlK .i64 1 (IntKind.u64.wrap (q : Int))) 0)].flatMap eN0)) (cs' := ((XImages ++ [(TPauli.mk 0 (shlK .i64 1 (IntKind.u64.wrap (q : Int))) 0)]).flatMap eN0)) hS7 K2 K0 K8 K5 rfl (by decide) rfl rfl rfl rfl (fm_lenn (l := XImages) eN1 rfl) rfl (hS7.c 4) (fm_lenn (l := [(TPauli.mk 0 (shlK .i64 1 (IntKind.u64.wrap (q : Int))) 0)]) eN1 rfl) (fm_one' (enc := eN0) eN3 [(TPauli.mk 0 (shlK .i64 1 (IntKind.u64.wrap (q : Int))) 0)]) (by have := hap; omega) (by have := hap; simp only [maxLen]; omega) (fm_app _ _) (app_len (l := XImages) (l' := [(TPauli.mk 0 (shlK .i64 1 (IntKind.u64.wrap (q : Int))) 0)]) rfl rfl)) ?_
  rintro _ w_4 ⟨B4, c4, rfl, hS8⟩
  refine sQ 20 (yd (aD b1) 0 0 K9 K1 rfl (hf.g 3 2)) ?_
  refine s0 (yS 1 1 (aD b1) 40 (.slice B4 ((XImages ++ [(TPauli.mk 0 (shlK .i64 1 (IntKind.u64.wrap (q : Int))) 0)]).length) c4) [.slice B4 ((XImages ++ [(TPauli.mk 0 (shlK .i64 1 (IntKind.u64.wrap (q : Int))) 0)]).length) c4] 1 [vi n, .slice B4 ((XImages ++ [(TPauli.mk 0 (shlK .i64 1 (IntKind.u64.wrap (q : Int))) 0)]).length) c4, .slice B3 ZImages.length c3] hS8 K1) ?_
  rintro _ w_5 ⟨rfl, hS9⟩
  refine rn (cr ?_)
  refine sQ 21 (yd (aD b1) 0 0 K11 K1 rfl (hf.g 3 2)) <| sQ 22 (yl (aD b1) 2 [vi n, .slice B4 ((XImages ++ [(TPauli.mk 0 (shlK .i64 1 (IntKind.u64.wrap (q : Int))) 0)]).length) c4, .slice B3 ZImages.length c3] (.slice B3 ZImages.length c3) K6 (hS9.c 1)) <| sQ 23 (ym (vi (q : Int)) rfl (hf.g 4 3)) <| sQ 24 (Y_conv (k := .i64) (a := (q : Int)) (T := 3) (T' := 74) K39 K40 rfl rfl) ?_
  obtain ⟨hsh1, hb⟩ := chk_inv hb
  refine sQ 25 (Y_shl (k := .i64) (a := 1) (k' := .u64) (b := (IntKind.u64.wrap (q : Int))) rfl rfl rfl hsh1) <| sQ 26 (Y_buildS (zs := [vi 0, vi 0, vi 0]) (vs := [(2, vi (shlK .i64 1 (IntKind.u64.wrap (q : Int))))]) (cs := [vi 0, vi 0, vi (shlK .i64 1 (IntKind.u64.wrap (q : Int)))]) K24 K5 rfl (mpc rfl mpn) rfl) ?_
  refine sS 27 (Ys_bslice (s := 3) (len := 1) (vs := [(0, .agg #[vi 0, vi 0, vi (shlK .i64 1 (IntKind.u64.wrap (q : Int)))])]) (cs := [vi 0, vi 0, vi (shlK .i64 1 (IntKind.u64.wrap (q : Int)))]) (zs := [vi 0, vi 0, vi 0]) (m := 3) hS9 K2 K0 K12 rfl (mpc rfl mpn) rfl rfl rfl (by kernel_rfl) (by kernel_rfl) rfl) ?_
  rintro _ w_6 ⟨b3, rfl, hS10⟩
  obtain ⟨hap1, hb⟩ := chk_inv hb
  refine sS 28 (Ys_append (s := 3) (by' := 24) (i := 3) (nn := ZImages.length) (c := c3) (k := 1) (len := (ZImages ++ [(TPauli.mk 0 0 (shlK .i64 1 (IntKind.u64.wrap (q : Int))))]).length) (B := B3) (xs := ([(TPauli.mk 0 0 (shlK .i64 1 (IntKind.u64.wrap (q : Int))))].flatMap eN0)) (cs' := ((ZImages ++ [(TPauli.mk 0 0 (shlK .i64 1 (IntKind.u64.wrap (q : Int))))]).flatMap eN0)) hS10 K2 K0 K8 K5 rfl (by decide) rfl rfl rfl rfl (fm_lenn (l := ZImages) eN1 rfl) rfl (hS10.c 5) (fm_lenn (l := [(TPauli.mk 0 0 (shlK .i64 1 (IntKind.u64.wrap (q : Int))))]) eN1 rfl) (fm_one' (enc := eN0) eN3 [(TPauli.mk 0 0 (shlK .i64 1 (IntKind.u64.wrap (q : Int))))]) (by have := hap1; omega) (by have := hap1; simp only [maxLen]; omega) (fm_app _ _) (app_len (l := ZImages) (l' := [(TPauli.mk 0 0 (shlK .i64 1 (IntKind.u64.wrap (q : Int))))]) rfl rfl)) ?_
  rintro _ w_7 ⟨B5, c5, rfl, hS11⟩
  refine sQ 29 (yd (aD b1) 0 0 K11 K1 rfl (hf.g 3 2)) ?_
  refine s0 (yS 1 1 (aD b1) 40 (.slice B5 ((ZImages ++ [(TPauli.mk 0 0 (shlK .i64 1 (IntKind.u64.wrap (q : Int))))]).length) c5) [.slice B5 ((ZImages ++ [(TPauli.mk 0 0 (shlK .i64 1 (IntKind.u64.wrap (q : Int))))]).length) c5] 2 [vi n, .slice B4 ((XImages ++ [(TPauli.mk 0 (shlK .i64 1 (IntKind.u64.wrap (q : Int))) 0)]).length) c4, .slice B5 ((ZImages ++ [(TPauli.mk 0 0 (shlK .i64 1 (IntKind.u64.wrap (q : Int))))]).length) c5] hS11 K1) ?_
  rintro _ w_8 ⟨rfl, hS12⟩
  refine rn (cr ?_)
  refine sQ 10 (ym (vi (q : Int)) rfl (hf.g 4 3)) <| sQ 11 (yP (q : Int) 1) <| sQ 4 (yg (vi (i64.wrap ((q : Int) + 1)))) (rn ?_)
  obtain rfl := sI hb
  exact ⟨K7, Nat.lt_succ_self _, q + 1, (XImages ++ [(TPauli.mk 0 (shlK .i64 1 (IntKind.u64.wrap (q : Int))) 0)]), (ZImages ++ [(TPauli.mk 0 0 (shlK .i64 1 (IntKind.u64.wrap (q : Int))))]), B4, c4, B5, c5, (fc (hf.g 0 0) (fc (hf.g 2 1) (fc (hf.g 3 2) (fc (congrArg (Value.int .i64) (wr_succ hlt1 hN)) fn_)))), (hS12.sel [0, 1, 2, 3] rfl rfl), (by omega), hL1⟩
 ·skip
  obtain rfl : k_ = 0 := by have h := of_decide_eq_false hlt; omega
  refine cw_exit rfl ?_
  obtain rfl := sI hL
  refine cq (cr ?_)
  refine sQ 30 (yb (aD b1) 0 [vi n, .slice B2 XImages.length c2, .slice B3 ZImages.length c3] K20 K10 (hS4.c 1) rfl (hf.g 3 2)) ?_
  refine s0 (yT 0 3 (aD b) 40 (.agg #[vi n, .slice B2 XImages.length c2, .slice B3 ZImages.length c3]) [vi n, .slice B2 XImages.length c2, .slice B3 ZImages.length c3] 0 hS4 K10 rfl (hf.g 2 1)) ?_
  rintro _ w_9 ⟨rfl, hS13⟩
  refine rn (ct_ ?_)
  obtain rfl := sI hF1
  exact ret1 Try.results23 (v1 := .agg #[vi n, .slice B2 XImages.length c2, .slice B3 ZImages.length c3]) (resAt_cellA (B := aD b) (i := 0) (cs := [vi n, .slice B2 XImages.length c2, .slice B3 ZImages.length c3]) (vs := [vi n, .slice B2 XImages.length c2, .slice B3 ZImages.length c3]) (hf.g 2 1) K20 K10 (hS13.c 0) rfl rfl) ⟨B2, c2, B3, c3, rfl, (hS13.sN [2, 3])⟩

theorem c_spec_l7Gate (n : Int) (g : TGate)  (w0 : World)  (hS : ST w0 [] w0 [] []) {r_ : TTableau} (hF : F_spec_l7Gate n g = some r_) :
  CV Try.prog 25 #[vi n, .agg #[vi g.Kind, vi g.A, vi g.B]] w0 (fun v w' => ∃ (B : Option Addr) (c : Nat) (B1 : Option Addr) (c1 : Nat), v = .agg #[vi r_.Qubits, .slice B r_.XImages.length c, .slice B1 r_.ZImages.length c1] ∧ ST w0 [] w' [⟨B, 71, (r_.XImages.flatMap eN0), c * 3⟩, ⟨B1, 71, (r_.ZImages.flatMap eN0), c1 * 3⟩] []) := by
 unfold F_spec_l7Gate at hF
 refine cv_of_cw 163 Try.func25 rfl Try.ntmps25 rfl ?_
 refine cq (cr ?_)
 refine sS 3 (yB 55 (.agg #[vi g.Kind, vi g.A, vi g.B]) [vi g.Kind, vi g.A, vi g.B] 3 hS) ?_
 rintro _ w_ ⟨b, rfl, hS1⟩
 refine sS 4 (yN [vi 0, .slice none 0 0, .slice none 0 0] 3 hS1 K31) ?_
 rintro _ w_1 ⟨b1, rfl, hS2⟩
 refine rn (cq (cr ?_))
 refine sQ 10 (ym (vi n)) ?_
 obtain ⟨r_1, hc, hF⟩ := bI hF
 refine sc 11 rfl rfl (yC [vi n] k_call_23 (c_spec_l7Identity n _  (hS2.inn0 [] rfl) hc)) ?_
 rintro _ w_2 ⟨B2, c2, B3, c3, rfl, hd⟩
 have hS3 := hS2.out0 hd
 refine sS 5 (yN [vi 0, .slice none 0 0, .slice none 0 0] 3 hS3 K31) ?_
 rintro _ w_3 ⟨b2, rfl, hS4⟩
 refine s0 (yT 4 3 (aD b2) 40 (.agg #[vi r_1.Qubits, .slice B2 r_1.XImages.length c2, .slice B3 r_1.ZImages.length c3]) [vi r_1.Qubits, .slice B2 r_1.XImages.length c2, .slice B3 r_1.ZImages.length c3] 0 hS4 K10) ?_
 rintro _ w_4 ⟨rfl, hS5⟩
 refine rn (cq ?_)
 obtain ⟨hsh, hF⟩ := chk_inv hF
 obtain ⟨hsh1, hF⟩ := chk_inv hF
 refine cw_mid (fun f w => ∃ (B4 : Option Addr) (B5 : Option Addr), FF f [(3, pt (aD b) 0), (4, pt (aD b1) 0), (5, pt (aD b2) 0), (6, pt B4 0), (7, pt B5 0)] ∧ ST w0 [] w [⟨aD b, 55, [vi g.Kind, vi g.A, vi g.B], 3⟩, ⟨aD b1, 40, [vi 0, .slice none 0 0, .slice none 0 0], 3⟩, ⟨aD b2, 40, [vi r_1.Qubits, .slice B2 r_1.XImages.length c2, .slice B3 r_1.ZImages.length c3], 3⟩, ⟨B2, 71, (r_1.XImages.flatMap eN0), c2 * 3⟩, ⟨B3, 71, (r_1.ZImages.flatMap eN0), c3 * 3⟩, ⟨B4, 71, [vi 0, vi (shlK .i64 1 (IntKind.u64.wrap g.A)), vi 0], 3⟩, ⟨B5, 71, [vi 0, vi 0, vi (shlK .i64 1 (IntKind.u64.wrap g.A))], 3⟩] []) ?_ ?_
 ·skip
  refine ra_start (hS5.se [0, 1, 2, 3, 4]).fn (by kernel_rfl) ?_
  have hS7 := hS5.drew
  refine rq 0 12 (v := pt (aD b) 1) rfl (hS7.se [0, 1, 2, 3, 4]) (fun w' hw' => (yd (aD b) 0 0 K18 K3)) ?_
  refine rq 1 13 (v := vi g.A) rfl (hS7.se [0, 1, 2, 3, 4]) (fun w' hw' => (yl (aD b) 1 [vi g.Kind, vi g.A, vi g.B] (vi g.A) K4 (ST.cf hw' (i := 0) rfl))) ?_
  refine rq 2 14 (v := .int .u64 (IntKind.u64.wrap g.A)) rfl (hS7.se [0, 1, 2, 3, 4]) (fun w' hw' => (Y_conv (k := .i64) (a := g.A) (T := 3) (T' := 74) K39 K40 rfl rfl)) ?_
  refine rq 3 15 (v := vi (shlK .i64 1 (IntKind.u64.wrap g.A))) rfl (hS7.se [0, 1, 2, 3, 4]) (fun w' hw' => (Y_shl (k := .i64) (a := 1) (k' := .u64) (b := (IntKind.u64.wrap g.A)) rfl rfl rfl hsh)) ?_
  refine rq 4 16 (v := .agg #[vi 0, vi (shlK .i64 1 (IntKind.u64.wrap g.A)), vi 0]) rfl (hS7.se [0, 1, 2, 3, 4]) (fun w' hw' => (Y_buildS (zs := [vi 0, vi 0, vi 0]) (vs := [(1, vi (shlK .i64 1 (IntKind.u64.wrap g.A)))]) (cs := [vi 0, vi (shlK .i64 1 (IntKind.u64.wrap g.A)), vi 0]) K24 K5 rfl (mpc rfl mpn) rfl)) ?_
  refine rq 5 17 (v := pt (aD b) 1) rfl (hS7.se [0, 1, 2, 3, 4]) (fun w' hw' => (yd (aD b) 0 0 K18 K3)) ?_
  refine rq 6 18 (v := vi g.A) rfl (hS7.se [0, 1, 2, 3, 4]) (fun w' hw' => (yl (aD b) 1 [vi g.Kind, vi g.A, vi g.B] (vi g.A) K4 (ST.cf hw' (i := 0) rfl))) ?_
  refine rq 7 19 (v := .int .u64 (IntKind.u64.wrap g.A)) rfl (hS7.se [0, 1, 2, 3, 4]) (fun w' hw' => (Y_conv (k := .i64) (a := g.A) (T := 3) (T' := 74) K39 K40 rfl rfl)) ?_
  refine rq 8 20 (v := vi (shlK .i64 1 (IntKind.u64.wrap g.A))) rfl (hS7.se [0, 1, 2, 3, 4]) (fun w' hw' => (Y_shl (k := .i64) (a := 1) (k' := .u64) (b := (IntKind.u64.wrap g.A)) rfl rfl rfl hsh1)) ?_
  refine rq 9 21 (v := .agg #[vi 0, vi 0, vi (shlK .i64 1 (IntKind.u64.wrap g.A))]) rfl (hS7.se [0, 1, 2, 3, 4]) (fun w' hw' => (Y_buildS (zs := [vi 0, vi 0, vi 0]) (vs := [(2, vi (shlK .i64 1 (IntKind.u64.wrap g.A)))]) (cs := [vi 0, vi 0, vi (shlK .i64 1 (IntKind.u64.wrap g.A))]) K24 K5 rfl (mpc rfl mpn) rfl)) ?_
  refine rA [10, 11] ?_
  refine rS 6 10 rfl (yN [vi 0, vi 0, vi 0] 3 hS7 K5) ?_ ?_
  ·rintro _ w_5 ⟨b3, rfl, hS8⟩
   refine ⟨(hS8.se [0, 1, 2, 3, 4]), ?_⟩
   refine rA [11] ?_
   refine rS 7 11 rfl (yN [vi 0, vi 0, vi 0] 3 hS8 K5) ?_ ?_
   ·rintro _ w_6 ⟨b4, rfl, hS9⟩
    refine ⟨(hS9.se [0, 1, 2, 3, 4]), ?_⟩
    refine rA [12] ?_
    refine rZ 12 rfl (yT 5 3 (aD b3) 71 (.agg #[vi 0, vi (shlK .i64 1 (IntKind.u64.wrap g.A)), vi 0]) [vi 0, vi (shlK .i64 1 (IntKind.u64.wrap g.A)), vi 0] 0 hS9 K0) ?_ ?_
    ·rintro _ w_7 ⟨rfl, hS10⟩
     refine ⟨(hS10.se [0, 1, 2, 3, 4]), ?_⟩
     refine rA [13] ?_
     refine rZ 13 rfl (yT 6 3 (aD b4) 71 (.agg #[vi 0, vi 0, vi (shlK .i64 1 (IntKind.u64.wrap g.A))]) [vi 0, vi 0, vi (shlK .i64 1 (IntKind.u64.wrap g.A))] 0 hS10 K0) ?_ ?_
     ·rintro _ w_8 ⟨rfl, hS11⟩
      refine ⟨(hS11.se [0, 1, 2, 3, 4]), ?_⟩
      refine ra_done (by kernel_rfl) ?_
      exact ⟨aD b3, aD b4, (fc rfl (fc rfl (fc rfl (fc rfl (fc rfl fn_))))), (hS11.sel [0, 1, 4, 2, 3, 5, 6] rfl rfl)⟩
     exact aN
    exact aN
   exact aN
  refine rS 7 11 rfl (yN [vi 0, vi 0, vi 0] 3 hS7 K5) ?_ ?_
  ·rintro _ w_9 ⟨b4, rfl, hS12⟩
   refine ⟨(hS12.se [0, 1, 2, 3, 4]), ?_⟩
   refine rA [10] ?_
   refine rS 6 10 rfl (yN [vi 0, vi 0, vi 0] 3 hS12 K5) ?_ ?_
   ·rintro _ w_10 ⟨b3, rfl, hS13⟩
    refine ⟨(hS13.se [0, 1, 2, 3, 4]), ?_⟩
    refine rA [12] ?_
    refine rZ 12 rfl (yT 6 3 (aD b3) 71 (.agg #[vi 0, vi (shlK .i64 1 (IntKind.u64.wrap g.A)), vi 0]) [vi 0, vi (shlK .i64 1 (IntKind.u64.wrap g.A)), vi 0] 0 hS13 K0) ?_ ?_
    ·rintro _ w_11 ⟨rfl, hS14⟩
     refine ⟨(hS14.se [0, 1, 2, 3, 4]), ?_⟩
     refine rA [13] ?_
     refine rZ 13 rfl (yT 5 3 (aD b4) 71 (.agg #[vi 0, vi 0, vi (shlK .i64 1 (IntKind.u64.wrap g.A))]) [vi 0, vi 0, vi (shlK .i64 1 (IntKind.u64.wrap g.A))] 0 hS14 K0) ?_ ?_
     ·rintro _ w_12 ⟨rfl, hS15⟩
      refine ⟨(hS15.se [0, 1, 2, 3, 4]), ?_⟩
      refine ra_done (by kernel_rfl) ?_
      exact ⟨aD b3, aD b4, (fc rfl (fc rfl (fc rfl (fc rfl (fc rfl fn_))))), (hS15.sel [0, 1, 4, 2, 3, 6, 5] rfl rfl)⟩
     exact aN
    exact aN
   exact aN
  exact aN
 rintro f w ⟨B4, B5, hf, hS6⟩
 refine cq ?_
 obtain ⟨hsh2, hF⟩ := chk_inv hF
 obtain ⟨hsh3, hF⟩ := chk_inv hF
 refine cw_mid (fun f w => ∃ (B6 : Option Addr) (B7 : Option Addr), FF f [(3, pt (aD b) 0), (4, pt (aD b1) 0), (5, pt (aD b2) 0), (6, pt B4 0), (7, pt B5 0), (8, pt B6 0), (9, pt B7 0)] ∧ ST w0 [] w [⟨aD b, 55, [vi g.Kind, vi g.A, vi g.B], 3⟩, ⟨aD b1, 40, [vi 0, .slice none 0 0, .slice none 0 0], 3⟩, ⟨aD b2, 40, [vi r_1.Qubits, .slice B2 r_1.XImages.length c2, .slice B3 r_1.ZImages.length c3], 3⟩, ⟨B2, 71, (r_1.XImages.flatMap eN0), c2 * 3⟩, ⟨B3, 71, (r_1.ZImages.flatMap eN0), c3 * 3⟩, ⟨B4, 71, [vi 0, vi (shlK .i64 1 (IntKind.u64.wrap g.A)), vi 0], 3⟩, ⟨B5, 71, [vi 0, vi 0, vi (shlK .i64 1 (IntKind.u64.wrap g.A))], 3⟩, ⟨B6, 71, [vi 0, vi (shlK .i64 1 (IntKind.u64.wrap g.B)), vi 0], 3⟩, ⟨B7, 71, [vi 0, vi 0, vi (shlK .i64 1 (IntKind.u64.wrap g.B))], 3⟩] []) ?_ ?_
 ·skip
  refine ra_start (hS6.se [0, 1, 2, 3, 4, 5, 6]).fn (by kernel_rfl) ?_
  have hS17 := hS6.drew
  refine rq 0 22 (v := pt (aD b) 2) rfl (hS17.se [0, 1, 2, 3, 4, 5, 6]) (fun w' hw' => (yd (aD b) 0 0 K25 K3 rfl (hf.g 3 0))) ?_
  refine rq 1 23 (v := vi g.B) rfl (hS17.se [0, 1, 2, 3, 4, 5, 6]) (fun w' hw' => (yl (aD b) 2 [vi g.Kind, vi g.A, vi g.B] (vi g.B) K4 (ST.cf hw' (i := 0) rfl))) ?_
  refine rq 2 24 (v := .int .u64 (IntKind.u64.wrap g.B)) rfl (hS17.se [0, 1, 2, 3, 4, 5, 6]) (fun w' hw' => (Y_conv (k := .i64) (a := g.B) (T := 3) (T' := 74) K39 K40 rfl rfl)) ?_
  refine rq 3 25 (v := vi (shlK .i64 1 (IntKind.u64.wrap g.B))) rfl (hS17.se [0, 1, 2, 3, 4, 5, 6]) (fun w' hw' => (Y_shl (k := .i64) (a := 1) (k' := .u64) (b := (IntKind.u64.wrap g.B)) rfl rfl rfl hsh2)) ?_
  refine rq 4 26 (v := .agg #[vi 0, vi (shlK .i64 1 (IntKind.u64.wrap g.B)), vi 0]) rfl (hS17.se [0, 1, 2, 3, 4, 5, 6]) (fun w' hw' => (Y_buildS (zs := [vi 0, vi 0, vi 0]) (vs := [(1, vi (shlK .i64 1 (IntKind.u64.wrap g.B)))]) (cs := [vi 0, vi (shlK .i64 1 (IntKind.u64.wrap g.B)), vi 0]) K24 K5 rfl (mpc rfl mpn) rfl)) ?_
  refine rq 5 27 (v := pt (aD b) 2) rfl (hS17.se [0, 1, 2, 3, 4, 5, 6]) (fun w' hw' => (yd (aD b) 0 0 K25 K3 rfl (hf.g 3 0))) ?_
  refine rq 6 28 (v := vi g.B) rfl (hS17.se [0, 1, 2, 3, 4, 5, 6]) (fun w' hw' => (yl (aD b) 2 [vi g.Kind, vi g.A, vi g.B] (vi g.B) K4 (ST.cf hw' (i := 0) rfl))) ?_
  refine rq 7 29 (v := .int .u64 (IntKind.u64.wrap g.B)) rfl (hS17.se [0, 1, 2, 3, 4, 5, 6]) (fun w' hw' => (Y_conv (k := .i64) (a := g.B) (T := 3) (T' := 74) K39 K40 rfl rfl)) ?_
  refine rq 8 30 (v := vi (shlK .i64 1 (IntKind.u64.wrap g.B))) rfl (hS17.se [0, 1, 2, 3, 4, 5, 6]) (fun w' hw' => (Y_shl (k := .i64) (a := 1) (k' := .u64) (b := (IntKind.u64.wrap g.B)) rfl rfl rfl hsh3)) ?_
  refine rq 9 31 (v := .agg #[vi 0, vi 0, vi (shlK .i64 1 (IntKind.u64.wrap g.B))]) rfl (hS17.se [0, 1, 2, 3, 4, 5, 6]) (fun w' hw' => (Y_buildS (zs := [vi 0, vi 0, vi 0]) (vs := [(2, vi (shlK .i64 1 (IntKind.u64.wrap g.B)))]) (cs := [vi 0, vi 0, vi (shlK .i64 1 (IntKind.u64.wrap g.B))]) K24 K5 rfl (mpc rfl mpn) rfl)) ?_
  refine rA [10, 11] ?_
  refine rS 8 10 rfl (yN [vi 0, vi 0, vi 0] 3 hS17 K5) ?_ ?_
  ·rintro _ w_13 ⟨b5, rfl, hS18⟩
   refine ⟨(hS18.se [0, 1, 2, 3, 4, 5, 6]), ?_⟩
   refine rA [11] ?_
   refine rS 9 11 rfl (yN [vi 0, vi 0, vi 0] 3 hS18 K5) ?_ ?_
   ·rintro _ w_14 ⟨b6, rfl, hS19⟩
    refine ⟨(hS19.se [0, 1, 2, 3, 4, 5, 6]), ?_⟩
    refine rA [12] ?_
    refine rZ 12 rfl (yT 7 3 (aD b5) 71 (.agg #[vi 0, vi (shlK .i64 1 (IntKind.u64.wrap g.B)), vi 0]) [vi 0, vi (shlK .i64 1 (IntKind.u64.wrap g.B)), vi 0] 0 hS19 K0) ?_ ?_
    ·rintro _ w_15 ⟨rfl, hS20⟩
     refine ⟨(hS20.se [0, 1, 2, 3, 4, 5, 6]), ?_⟩
     refine rA [13] ?_
     refine rZ 13 rfl (yT 8 3 (aD b6) 71 (.agg #[vi 0, vi 0, vi (shlK .i64 1 (IntKind.u64.wrap g.B))]) [vi 0, vi 0, vi (shlK .i64 1 (IntKind.u64.wrap g.B))] 0 hS20 K0) ?_ ?_
     ·rintro _ w_16 ⟨rfl, hS21⟩
      refine ⟨(hS21.se [0, 1, 2, 3, 4, 5, 6]), ?_⟩
      refine ra_done (by kernel_rfl) ?_
      exact ⟨aD b5, aD b6, (fc (hf.g 3 0) (fc (hf.g 4 1) (fc (hf.g 5 2) (fc (hf.g 6 3) (fc (hf.g 7 4) (fc rfl (fc rfl fn_))))))), (hS21.sel [0, 1, 2, 3, 4, 5, 6, 7, 8] rfl rfl)⟩
     exact aN
    exact aN
   exact aN
  refine rS 9 11 rfl (yN [vi 0, vi 0, vi 0] 3 hS17 K5) ?_ ?_
  ·rintro _ w_17 ⟨b6, rfl, hS22⟩
   refine ⟨(hS22.se [0, 1, 2, 3, 4, 5, 6]), ?_⟩
   refine rA [10] ?_
   refine rS 8 10 rfl (yN [vi 0, vi 0, vi 0] 3 hS22 K5) ?_ ?_
   ·rintro _ w_18 ⟨b5, rfl, hS23⟩
    refine ⟨(hS23.se [0, 1, 2, 3, 4, 5, 6]), ?_⟩
    refine rA [12] ?_
    refine rZ 12 rfl (yT 8 3 (aD b5) 71 (.agg #[vi 0, vi (shlK .i64 1 (IntKind.u64.wrap g.B)), vi 0]) [vi 0, vi (shlK .i64 1 (IntKind.u64.wrap g.B)), vi 0] 0 hS23 K0) ?_ ?_
    ·rintro _ w_19 ⟨rfl, hS24⟩
     refine ⟨(hS24.se [0, 1, 2, 3, 4, 5, 6]), ?_⟩
     refine rA [13] ?_
     refine rZ 13 rfl (yT 7 3 (aD b6) 71 (.agg #[vi 0, vi 0, vi (shlK .i64 1 (IntKind.u64.wrap g.B))]) [vi 0, vi 0, vi (shlK .i64 1 (IntKind.u64.wrap g.B))] 0 hS24 K0) ?_ ?_
     ·rintro _ w_20 ⟨rfl, hS25⟩
      refine ⟨(hS25.se [0, 1, 2, 3, 4, 5, 6]), ?_⟩
      refine ra_done (by kernel_rfl) ?_
      exact ⟨aD b5, aD b6, (fc (hf.g 3 0) (fc (hf.g 4 1) (fc (hf.g 5 2) (fc (hf.g 6 3) (fc (hf.g 7 4) (fc rfl (fc rfl fn_))))))), (hS25.sel [0, 1, 2, 3, 4, 5, 6, 8, 7] rfl rfl)⟩
     exact aN
    exact aN
   exact aN
  exact aN
 rintro f w ⟨B6, B7, hf1, hS16⟩
 refine cq ?_
 obtain ⟨z, hz, hF1⟩ := bI hF
 refine cw_mid (fun f w => ∃ (XImages : List TPauli) (ZImages : List TPauli), (XImages, ZImages) = z ∧ FF f [(4, pt (aD b1) 0), (5, pt (aD b2) 0)] ∧ XImages.length = r_1.XImages.length ∧ ZImages.length = r_1.ZImages.length ∧ ST w0 [] w [⟨aD b1, 40, [vi 0, .slice none 0 0, .slice none 0 0], 3⟩, ⟨aD b2, 40, [vi r_1.Qubits, .slice B2 r_1.XImages.length c2, .slice B3 r_1.ZImages.length c3], 3⟩, ⟨B2, 71, (XImages.flatMap eN0), c2 * 3⟩, ⟨B3, 71, (ZImages.flatMap eN0), c3 * 3⟩] []) ?_ ?_
 ·skip
  refine cq (cr ?_)
  refine sQ 32 (yd (aD b) 0 0 K36 K3 rfl (hf1.g 3 0)) <| sQ 33 (yl (aD b) 0 [vi g.Kind, vi g.A, vi g.B] (vi g.Kind) K4 (hS16.c 0)) (rn (cw_block (cq (cr ?_))))
  refine sQ 35 (yE g.Kind 1) <| sQ 34 (yg (.bool (g.Kind == 1))) (rn ?_)
  refine cw_cond (b := (g.Kind == 1)) rfl (fun hb => ?_) (fun hb => ?_)
  ·skip
   have hF2 := ct hz hb
   refine cq (cr ?_)
   refine sQ 36 (yd (aD b2) 0 0 K9 K1 rfl (hf1.g 5 2)) <| sQ 37 (yl (aD b2) 1 [vi r_1.Qubits, .slice B2 r_1.XImages.length c2, .slice B3 r_1.ZImages.length c3] (.slice B2 r_1.XImages.length c2) K6 (hS16.c 2)) <| sQ 38 (yd (aD b) 0 0 K18 K3 rfl (hf1.g 3 0)) <| sQ 39 (yl (aD b) 1 [vi g.Kind, vi g.A, vi g.B] (vi g.A) K4 (hS16.c 0)) <| sQ 40 (yb B5 0 [vi 0, vi 0, vi (shlK .i64 1 (IntKind.u64.wrap g.A))] K14 K0 (hS16.c 6) rfl (hf1.g 7 4)) ?_
   obtain ⟨x, hx, hF2⟩ := bI hF2
   refine sQ 41 (Y_index (B := B2) (m := r_1.XImages.length) (c := c2) (k := .i64) (i := g.A) K2 K0 rfl rfl rfl (gi_isSome eN1 rfl (hS16.c 3) hx) (getI_nn hx) (getI_ltI hx rfl)) ?_
   refine s0 (yS 3 3 B2 71 (.agg #[vi 0, vi 0, vi (shlK .i64 1 (IntKind.u64.wrap g.A))]) [vi 0, vi 0, vi (shlK .i64 1 (IntKind.u64.wrap g.A))] (g.A.toNat * 3) ((r_1.XImages.set g.A.toNat (TPauli.mk 0 0 (shlK .i64 1 (IntKind.u64.wrap g.A)))).flatMap eN0) hS16 K0 rfl rfl rfl rfl rfl rfl rfl (gi_fit0 eN1 hx) (gi_set eN1 hx (TPauli.mk 0 0 (shlK .i64 1 (IntKind.u64.wrap g.A))) rfl)) ?_
   rintro _ w_21 ⟨rfl, hS27⟩
   refine rn (cr ?_)
   refine sQ 42 (yd (aD b2) 0 0 K11 K1 rfl (hf1.g 5 2)) <| sQ 43 (yl (aD b2) 2 [vi r_1.Qubits, .slice B2 r_1.XImages.length c2, .slice B3 r_1.ZImages.length c3] (.slice B3 r_1.ZImages.length c3) K6 (hS27.c 2)) <| sQ 44 (yd (aD b) 0 0 K18 K3 rfl (hf1.g 3 0)) <| sQ 45 (yl (aD b) 1 [vi g.Kind, vi g.A, vi g.B] (vi g.A) K4 (hS27.c 0)) <| sQ 46 (yb B4 0 [vi 0, vi (shlK .i64 1 (IntKind.u64.wrap g.A)), vi 0] K14 K0 (hS27.c 5) rfl (hf1.g 6 3)) ?_
   obtain ⟨x1, hx1, hF2⟩ := bI hF2
   refine sQ 47 (Y_index (B := B3) (m := r_1.ZImages.length) (c := c3) (k := .i64) (i := g.A) K2 K0 rfl rfl rfl (gi_isSome eN1 rfl (hS27.c 4) hx1) (getI_nn hx1) (getI_ltI hx1 rfl)) ?_
   refine s0 (yS 4 3 B3 71 (.agg #[vi 0, vi (shlK .i64 1 (IntKind.u64.wrap g.A)), vi 0]) [vi 0, vi (shlK .i64 1 (IntKind.u64.wrap g.A)), vi 0] (g.A.toNat * 3) ((r_1.ZImages.set g.A.toNat (TPauli.mk 0 (shlK .i64 1 (IntKind.u64.wrap g.A)) 0)).flatMap eN0) hS27 K0 rfl rfl rfl rfl rfl rfl rfl (gi_fit0 eN1 hx1) (gi_set eN1 hx1 (TPauli.mk 0 (shlK .i64 1 (IntKind.u64.wrap g.A)) 0) rfl)) ?_
   rintro _ w_22 ⟨rfl, hS28⟩
   refine rn ?_
   exact ⟨(r_1.XImages.set g.A.toNat (TPauli.mk 0 0 (shlK .i64 1 (IntKind.u64.wrap g.A)))), (r_1.ZImages.set g.A.toNat (TPauli.mk 0 (shlK .i64 1 (IntKind.u64.wrap g.A)) 0)), (sI hF2), (fc (hf1.g 4 1) (fc (hf1.g 5 2) fn_)), (set_len _ _ _ rfl), (set_len _ _ _ rfl), (hS28.sel [1, 2, 3, 4] rfl rfl)⟩
  ·skip
   have hF3 := cf' hz hb
   refine cq (cr ?_)
   refine sQ 49 (yE g.Kind 2) <| sQ 48 (yg (.bool (g.Kind == 2))) (rn ?_)
   refine cw_cond (b := (g.Kind == 2)) rfl (fun hb1 => ?_) (fun hb1 => ?_)
   ·skip
    have hF4 := ct hF3 hb1
    refine cr ?_
    refine sQ 50 (yd (aD b2) 0 0 K11 K1 rfl (hf1.g 5 2)) <| sQ 51 (yl (aD b2) 2 [vi r_1.Qubits, .slice B2 r_1.XImages.length c2, .slice B3 r_1.ZImages.length c3] (.slice B3 r_1.ZImages.length c3) K6 (hS16.c 2)) <| sQ 52 (yd (aD b) 0 0 K18 K3 rfl (hf1.g 3 0)) <| sQ 53 (yl (aD b) 1 [vi g.Kind, vi g.A, vi g.B] (vi g.A) K4 (hS16.c 0)) ?_
    obtain ⟨x2, hx2, hF4⟩ := bI hF4
    refine sQ 54 (Y_index (B := B3) (m := r_1.ZImages.length) (c := c3) (k := .i64) (i := g.A) K2 K0 rfl rfl rfl (gi_isSome eN1 rfl (hS16.c 4) hx2) (getI_nn hx2) (getI_ltI hx2 rfl)) <| sQ 55 (yd B3 (g.A.toNat * 3) 0 K23 K3) ?_
    refine s0 (yS 4 1 B3 71 (vi 2) [vi 2] (g.A.toNat * 3 + 0) ((r_1.ZImages.set g.A.toNat (TPauli.mk 2 x2.X x2.Z)).flatMap eN0) hS16 K3 rfl rfl rfl rfl rfl rfl rfl (gi_fit eN1 hx2 (j := 0) (k := 1) (by decide)) (gi_setf eN1 hx2 (TPauli.mk 2 x2.X x2.Z) rfl (lB rfl))) ?_
    rintro _ w_23 ⟨rfl, hS29⟩
    refine rn ?_
    exact ⟨r_1.XImages, (r_1.ZImages.set g.A.toNat (TPauli.mk 2 x2.X x2.Z)), (sI hF4), (fc (hf1.g 4 1) (fc (hf1.g 5 2) fn_)), rfl, (set_len _ _ _ rfl), (hS29.sel [1, 2, 3, 4] rfl rfl)⟩
   ·skip
    have hF5 := cf' hF3 hb1
    refine cq (cr ?_)
    refine sQ 57 (yE g.Kind 4) <| sQ 56 (yg (.bool (g.Kind == 4))) (rn ?_)
    refine cw_cond (b := (g.Kind == 4)) rfl (fun hb2 => ?_) (fun hb2 => ?_)
    ·skip
     have hF6 := ct hF5 hb2
     refine cr ?_
     refine sQ 58 (yd (aD b2) 0 0 K9 K1 rfl (hf1.g 5 2)) <| sQ 59 (yl (aD b2) 1 [vi r_1.Qubits, .slice B2 r_1.XImages.length c2, .slice B3 r_1.ZImages.length c3] (.slice B2 r_1.XImages.length c2) K6 (hS16.c 2)) <| sQ 60 (yd (aD b) 0 0 K18 K3 rfl (hf1.g 3 0)) <| sQ 61 (yl (aD b) 1 [vi g.Kind, vi g.A, vi g.B] (vi g.A) K4 (hS16.c 0)) ?_
     obtain ⟨x3, hx3, hF6⟩ := bI hF6
     refine sQ 62 (Y_index (B := B2) (m := r_1.XImages.length) (c := c2) (k := .i64) (i := g.A) K2 K0 rfl rfl rfl (gi_isSome eN1 rfl (hS16.c 3) hx3) (getI_nn hx3) (getI_ltI hx3 rfl)) <| sQ 63 (yd B2 (g.A.toNat * 3) 0 K23 K3) ?_
     refine s0 (yS 3 1 B2 71 (vi 2) [vi 2] (g.A.toNat * 3 + 0) ((r_1.XImages.set g.A.toNat (TPauli.mk 2 x3.X x3.Z)).flatMap eN0) hS16 K3 rfl rfl rfl rfl rfl rfl rfl (gi_fit eN1 hx3 (j := 0) (k := 1) (by decide)) (gi_setf eN1 hx3 (TPauli.mk 2 x3.X x3.Z) rfl (lB rfl))) ?_
     rintro _ w_24 ⟨rfl, hS30⟩
     refine rn ?_
     exact ⟨(r_1.XImages.set g.A.toNat (TPauli.mk 2 x3.X x3.Z)), r_1.ZImages, (sI hF6), (fc (hf1.g 4 1) (fc (hf1.g 5 2) fn_)), (set_len _ _ _ rfl), rfl, (hS30.sel [1, 2, 3, 4] rfl rfl)⟩
    ·skip
     have hF7 := cf' hF5 hb2
     refine cq (cr ?_)
     refine sQ 65 (yE g.Kind 3) <| sQ 64 (yg (.bool (g.Kind == 3))) (rn ?_)
     refine cw_cond (b := (g.Kind == 3)) rfl (fun hb3 => ?_) (fun hb3 => ?_)
     ·skip
      have hF8 := ct hF7 hb3
      refine cq (cr ?_)
      refine sQ 66 (yd (aD b2) 0 0 K9 K1 rfl (hf1.g 5 2)) <| sQ 67 (yl (aD b2) 1 [vi r_1.Qubits, .slice B2 r_1.XImages.length c2, .slice B3 r_1.ZImages.length c3] (.slice B2 r_1.XImages.length c2) K6 (hS16.c 2)) <| sQ 68 (yd (aD b) 0 0 K18 K3 rfl (hf1.g 3 0)) <| sQ 69 (yl (aD b) 1 [vi g.Kind, vi g.A, vi g.B] (vi g.A) K4 (hS16.c 0)) ?_
      obtain ⟨x4, hx4, hF8⟩ := bI hF8
      refine sQ 70 (Y_index (B := B2) (m := r_1.XImages.length) (c := c2) (k := .i64) (i := g.A) K2 K0 rfl rfl rfl (gi_isSome eN1 rfl (hS16.c 3) hx4) (getI_nn hx4) (getI_ltI hx4 rfl)) <| sQ 71 (yd B2 (g.A.toNat * 3) 0 K23 K3) ?_
      refine s0 (yS 3 1 B2 71 (vi 2) [vi 2] (g.A.toNat * 3 + 0) ((r_1.XImages.set g.A.toNat (TPauli.mk 2 x4.X x4.Z)).flatMap eN0) hS16 K3 rfl rfl rfl rfl rfl rfl rfl (gi_fit eN1 hx4 (j := 0) (k := 1) (by decide)) (gi_setf eN1 hx4 (TPauli.mk 2 x4.X x4.Z) rfl (lB rfl))) ?_
      rintro _ w_25 ⟨rfl, hS31⟩
      refine rn (cr ?_)
      refine sQ 72 (yd (aD b2) 0 0 K11 K1 rfl (hf1.g 5 2)) <| sQ 73 (yl (aD b2) 2 [vi r_1.Qubits, .slice B2 r_1.XImages.length c2, .slice B3 r_1.ZImages.length c3] (.slice B3 r_1.ZImages.length c3) K6 (hS31.c 2)) <| sQ 74 (yd (aD b) 0 0 K18 K3 rfl (hf1.g 3 0)) <| sQ 75 (yl (aD b) 1 [vi g.Kind, vi g.A, vi g.B] (vi g.A) K4 (hS31.c 0)) ?_
      obtain ⟨x5, hx5, hF8⟩ := bI hF8
      refine sQ 76 (Y_index (B := B3) (m := r_1.ZImages.length) (c := c3) (k := .i64) (i := g.A) K2 K0 rfl rfl rfl (gi_isSome eN1 rfl (hS31.c 4) hx5) (getI_nn hx5) (getI_ltI hx5 rfl)) <| sQ 77 (yd B3 (g.A.toNat * 3) 0 K23 K3) ?_
      refine s0 (yS 4 1 B3 71 (vi 2) [vi 2] (g.A.toNat * 3 + 0) ((r_1.ZImages.set g.A.toNat (TPauli.mk 2 x5.X x5.Z)).flatMap eN0) hS31 K3 rfl rfl rfl rfl rfl rfl rfl (gi_fit eN1 hx5 (j := 0) (k := 1) (by decide)) (gi_setf eN1 hx5 (TPauli.mk 2 x5.X x5.Z) rfl (lB rfl))) ?_
      rintro _ w_26 ⟨rfl, hS32⟩
      refine rn ?_
      exact ⟨(r_1.XImages.set g.A.toNat (TPauli.mk 2 x4.X x4.Z)), (r_1.ZImages.set g.A.toNat (TPauli.mk 2 x5.X x5.Z)), (sI hF8), (fc (hf1.g 4 1) (fc (hf1.g 5 2) fn_)), (set_len _ _ _ rfl), (set_len _ _ _ rfl), (hS32.sel [1, 2, 3, 4] rfl rfl)⟩
     ·skip
      have hF9 := cf' hF7 hb3
      refine cq ?_
      obtain ⟨z1, hz1, hF10⟩ := bI hF9
      refine cw_mid (fun f w => ∃ (t : Bool), t = z1 ∧ FF f [(3, pt (aD b) 0), (4, pt (aD b1) 0), (5, pt (aD b2) 0), (6, pt B4 0), (7, pt B5 0), (8, pt B6 0), (9, pt B7 0), (33, vi g.Kind), (78, .bool t)] ∧ ST w0 [] w [⟨aD b, 55, [vi g.Kind, vi g.A, vi g.B], 3⟩, ⟨aD b1, 40, [vi 0, .slice none 0 0, .slice none 0 0], 3⟩, ⟨aD b2, 40, [vi r_1.Qubits, .slice B2 r_1.XImages.length c2, .slice B3 r_1.ZImages.length c3], 3⟩, ⟨B2, 71, (r_1.XImages.flatMap eN0), c2 * 3⟩, ⟨B3, 71, (r_1.ZImages.flatMap eN0), c3 * 3⟩, ⟨B4, 71, [vi 0, vi (shlK .i64 1 (IntKind.u64.wrap g.A)), vi 0], 3⟩, ⟨B5, 71, [vi 0, vi 0, vi (shlK .i64 1 (IntKind.u64.wrap g.A))], 3⟩, ⟨B6, 71, [vi 0, vi (shlK .i64 1 (IntKind.u64.wrap g.B)), vi 0], 3⟩, ⟨B7, 71, [vi 0, vi 0, vi (shlK .i64 1 (IntKind.u64.wrap g.B))], 3⟩] []) ?_ ?_
      ·skip
       refine cq (cr ?_)
       refine sQ 79 (yE g.Kind 5) <| sQ 78 (yg (.bool (g.Kind == 5))) (rn ?_)
       refine cw_cond (b := (g.Kind == 5)) rfl (fun hb4 => ?_) (fun hb4 => ?_)
       ·skip
        have hF11 := ct hz1 hb4
        refine cw_skip ?_
        exact ⟨(g.Kind == 5), (sI hF11), (fc (hf1.g 3 0) (fc (hf1.g 4 1) (fc (hf1.g 5 2) (fc (hf1.g 6 3) (fc (hf1.g 7 4) (fc (hf1.g 8 5) (fc (hf1.g 9 6) (fc rfl (fc rfl fn_))))))))), (hS16.sel [0, 1, 2, 3, 4, 5, 6, 7, 8] rfl rfl)⟩
       ·skip
        have hF12 := cf' hz1 hb4
        refine cr ?_
        refine sQ 80 (yE g.Kind 6) <| sQ 78 (yg (.bool (g.Kind == 6))) (rn ?_)
        exact ⟨(g.Kind == 6), (sI hF12), (fc (hf1.g 3 0) (fc (hf1.g 4 1) (fc (hf1.g 5 2) (fc (hf1.g 6 3) (fc (hf1.g 7 4) (fc (hf1.g 8 5) (fc (hf1.g 9 6) (fc rfl (fc rfl fn_))))))))), (hS16.sel [0, 1, 2, 3, 4, 5, 6, 7, 8] rfl rfl)⟩
      rintro f w ⟨t, rfl, hf3, hS33⟩
      refine cw_cond (b := t) (hf3.g 78 8) (fun hb5 => ?_) (fun hb5 => ?_)
      ·skip
       have hF13 := ct hF10 hb5
       refine cq (cr ?_)
       refine sQ 81 (yd (aD b2) 0 0 K9 K1 rfl (hf3.g 5 2)) <| sQ 82 (yl (aD b2) 1 [vi r_1.Qubits, .slice B2 r_1.XImages.length c2, .slice B3 r_1.ZImages.length c3] (.slice B2 r_1.XImages.length c2) K6 (hS33.c 2)) <| sQ 83 (yd (aD b) 0 0 K18 K3 rfl (hf3.g 3 0)) <| sQ 84 (yl (aD b) 1 [vi g.Kind, vi g.A, vi g.B] (vi g.A) K4 (hS33.c 0)) <| sQ 85 (yd B4 0 0 K37 K3 rfl (hf3.g 6 3)) <| sQ 86 (yl B4 1 [vi 0, vi (shlK .i64 1 (IntKind.u64.wrap g.A)), vi 0] (vi (shlK .i64 1 (IntKind.u64.wrap g.A))) K4 (hS33.c 5)) ?_
       refine sQ 87 (yd B5 0 0 K38 K3 rfl (hf3.g 7 4)) <| sQ 88 (yl B5 2 [vi 0, vi 0, vi (shlK .i64 1 (IntKind.u64.wrap g.A))] (vi (shlK .i64 1 (IntKind.u64.wrap g.A))) K4 (hS33.c 6)) <| sQ 89 (Y_buildS (zs := [vi 0, vi 0, vi 0]) (vs := [(1, vi (shlK .i64 1 (IntKind.u64.wrap g.A))), (2, vi (shlK .i64 1 (IntKind.u64.wrap g.A)))]) (cs := [vi 0, vi (shlK .i64 1 (IntKind.u64.wrap g.A)), vi (shlK .i64 1 (IntKind.u64.wrap g.A))]) K24 K5 rfl (mpc rfl (mpc rfl mpn)) rfl) ?_
       obtain ⟨x6, hx6, hF13⟩ := bI hF13
       refine sQ 90 (Y_index (B := B2) (m := r_1.XImages.length) (c := c2) (k := .i64) (i := g.A) K2 K0 rfl rfl rfl (gi_isSome eN1 rfl (hS33.c 3) hx6) (getI_nn hx6) (getI_ltI hx6 rfl)) ?_
       refine s0 (yS 3 3 B2 71 (.agg #[vi 0, vi (shlK .i64 1 (IntKind.u64.wrap g.A)), vi (shlK .i64 1 (IntKind.u64.wrap g.A))]) [vi 0, vi (shlK .i64 1 (IntKind.u64.wrap g.A)), vi (shlK .i64 1 (IntKind.u64.wrap g.A))] (g.A.toNat * 3) ((r_1.XImages.set g.A.toNat (TPauli.mk 0 (shlK .i64 1 (IntKind.u64.wrap g.A)) (shlK .i64 1 (IntKind.u64.wrap g.A)))).flatMap eN0) hS33 K0 rfl rfl rfl rfl rfl rfl rfl (gi_fit0 eN1 hx6) (gi_set eN1 hx6 (TPauli.mk 0 (shlK .i64 1 (IntKind.u64.wrap g.A)) (shlK .i64 1 (IntKind.u64.wrap g.A))) rfl)) ?_
       rintro _ w_27 ⟨rfl, hS34⟩
       refine rn (cq (cr ?_))
       refine sQ 91 (yd (aD b) 0 0 K36 K3 rfl (hf3.g 3 0)) <| sQ 92 (yl (aD b) 0 [vi g.Kind, vi g.A, vi g.B] (vi g.Kind) K4 (hS34.c 0)) <| sQ 93 (yE g.Kind 6) (rn ?_)
       refine cw_cond (b := (g.Kind == 6)) rfl (fun hb6 => ?_) (fun hb6 => ?_)
       ·skip
        have hF14 := ct hF13 hb6
        refine cr ?_
        refine sQ 94 (yd (aD b2) 0 0 K9 K1 rfl (hf3.g 5 2)) <| sQ 95 (yl (aD b2) 1 [vi r_1.Qubits, .slice B2 r_1.XImages.length c2, .slice B3 r_1.ZImages.length c3] (.slice B2 r_1.XImages.length c2) K6 (hS34.c 2)) <| sQ 96 (yd (aD b) 0 0 K18 K3 rfl (hf3.g 3 0)) <| sQ 97 (yl (aD b) 1 [vi g.Kind, vi g.A, vi g.B] (vi g.A) K4 (hS34.c 0)) <| sQ 98 (Y_index (B := B2) (m := r_1.XImages.length) (c := c2) (k := .i64) (i := g.A) K2 K0 rfl rfl rfl (gi_isSome eN1 rfl (hS34.c 3) (getI_set (y := (TPauli.mk 0 (shlK .i64 1 (IntKind.u64.wrap g.A)) (shlK .i64 1 (IntKind.u64.wrap g.A)))) hx6)) (getI_nn (getI_set (y := (TPauli.mk 0 (shlK .i64 1 (IntKind.u64.wrap g.A)) (shlK .i64 1 (IntKind.u64.wrap g.A)))) hx6)) (getI_ltI (getI_set (y := (TPauli.mk 0 (shlK .i64 1 (IntKind.u64.wrap g.A)) (shlK .i64 1 (IntKind.u64.wrap g.A)))) hx6) (set_len _ _ _ rfl))) <| sQ 99 (yd B2 (g.A.toNat * 3) 0 K23 K3) ?_
        refine s0 (yS 3 1 B2 71 (vi 2) [vi 2] (g.A.toNat * 3 + 0) (((r_1.XImages.set g.A.toNat (TPauli.mk 0 (shlK .i64 1 (IntKind.u64.wrap g.A)) (shlK .i64 1 (IntKind.u64.wrap g.A)))).set g.A.toNat (TPauli.mk 2 (shlK .i64 1 (IntKind.u64.wrap g.A)) (shlK .i64 1 (IntKind.u64.wrap g.A)))).flatMap eN0) hS34 K3 rfl rfl rfl rfl rfl rfl rfl (gi_fit eN1 (getI_set (y := (TPauli.mk 0 (shlK .i64 1 (IntKind.u64.wrap g.A)) (shlK .i64 1 (IntKind.u64.wrap g.A)))) hx6) (j := 0) (k := 1) (by decide)) (gi_setf eN1 (getI_set (y := (TPauli.mk 0 (shlK .i64 1 (IntKind.u64.wrap g.A)) (shlK .i64 1 (IntKind.u64.wrap g.A)))) hx6) (TPauli.mk 2 (shlK .i64 1 (IntKind.u64.wrap g.A)) (shlK .i64 1 (IntKind.u64.wrap g.A))) rfl (lB rfl))) ?_
        rintro _ w_28 ⟨rfl, hS35⟩
        refine rn ?_
        exact ⟨((r_1.XImages.set g.A.toNat (TPauli.mk 0 (shlK .i64 1 (IntKind.u64.wrap g.A)) (shlK .i64 1 (IntKind.u64.wrap g.A)))).set g.A.toNat (TPauli.mk 2 (shlK .i64 1 (IntKind.u64.wrap g.A)) (shlK .i64 1 (IntKind.u64.wrap g.A)))), r_1.ZImages, (sI hF14), (fc (hf3.g 4 1) (fc (hf3.g 5 2) fn_)), (set_len _ _ _ (set_len _ _ _ rfl)), rfl, (hS35.sel [1, 2, 3, 4] rfl rfl)⟩
       ·skip
        have hF15 := cf' hF13 hb6
        refine cw_skip ?_
        exact ⟨(r_1.XImages.set g.A.toNat (TPauli.mk 0 (shlK .i64 1 (IntKind.u64.wrap g.A)) (shlK .i64 1 (IntKind.u64.wrap g.A)))), r_1.ZImages, (sI hF15), (fc (hf3.g 4 1) (fc (hf3.g 5 2) fn_)), (set_len _ _ _ rfl), rfl, (hS34.sel [1, 2, 3, 4] rfl rfl)⟩
      ·skip
       have hF16 := cf' hF10 hb5
       refine cq (cr ?_)
       refine sQ 101 (yE g.Kind 9 rfl (hf3.g 33 7)) <| sQ 100 (yg (.bool (g.Kind == 9))) (rn ?_)
       refine cw_cond (b := (g.Kind == 9)) rfl (fun hb7 => ?_) (fun hb7 => ?_)
       ·skip
        have hF17 := ct hF16 hb7
        refine cq ?_
        obtain ⟨r_2, hc1, hF17⟩ := bI hF17
        obtain ⟨x7, hx7, hF17⟩ := bI hF17
        refine ra_start (hS33.se [0, 1, 2, 4, 5, 6, 7, 8]).fn (by kernel_rfl) ?_
        have hS37 := hS33.drew
        refine rq 0 102 (v := pt (aD b2) 1) rfl (hS37.se [0, 1, 2, 4, 5, 6, 7, 8]) (fun w' hw' => (yd (aD b2) 0 0 K9 K1 rfl (hf3.g 5 2))) ?_
        refine rq 1 103 (v := .slice B2 r_1.XImages.length c2) rfl (hS37.se [0, 1, 2, 4, 5, 6, 7, 8]) (fun w' hw' => (yl (aD b2) 1 [vi r_1.Qubits, .slice B2 r_1.XImages.length c2, .slice B3 r_1.ZImages.length c3] (.slice B2 r_1.XImages.length c2) K6 (ST.cf hw' (i := 2) rfl))) ?_
        refine rq 2 104 (v := pt (aD b) 1) rfl (hS37.se [0, 1, 2, 4, 5, 6, 7, 8]) (fun w' hw' => (yd (aD b) 0 0 K18 K3 rfl (hf3.g 3 0))) ?_
        refine rq 3 105 (v := vi g.A) rfl (hS37.se [0, 1, 2, 4, 5, 6, 7, 8]) (fun w' hw' => (yl (aD b) 1 [vi g.Kind, vi g.A, vi g.B] (vi g.A) K4 (ST.cf hw' (i := 0) rfl))) ?_
        refine rq 4 106 (v := .agg #[vi 0, vi (shlK .i64 1 (IntKind.u64.wrap g.A)), vi 0]) rfl (hS37.se [0, 1, 2, 4, 5, 6, 7, 8]) (fun w' hw' => (yb B4 0 [vi 0, vi (shlK .i64 1 (IntKind.u64.wrap g.A)), vi 0] K14 K0 (ST.cf hw' (i := 4) rfl) rfl (hf3.g 6 3))) ?_
        refine rq 5 107 (v := .agg #[vi 0, vi (shlK .i64 1 (IntKind.u64.wrap g.B)), vi 0]) rfl (hS37.se [0, 1, 2, 4, 5, 6, 7, 8]) (fun w' hw' => (yb B6 0 [vi 0, vi (shlK .i64 1 (IntKind.u64.wrap g.B)), vi 0] K14 K0 (ST.cf hw' (i := 6) rfl) rfl (hf3.g 8 5))) ?_
        refine rA [6] ?_
        refine rC 108 6 rfl (yC [.agg #[vi 0, vi (shlK .i64 1 (IntKind.u64.wrap g.A)), vi 0], .agg #[vi 0, vi (shlK .i64 1 (IntKind.u64.wrap g.B)), vi 0]] K54 (c_spec_l7Mul (TPauli.mk 0 (shlK .i64 1 (IntKind.u64.wrap g.A)) 0) (TPauli.mk 0 (shlK .i64 1 (IntKind.u64.wrap g.B)) 0) _  (hS37.inn0 [] rfl) hc1)) ?_ ?_
        ·rintro _ w_29 ⟨rfl, hd1⟩
         have hS38 := hS37.out00 hd1
         refine ⟨(hS38.se [0, 1, 2, 4, 5, 6, 7, 8]), ?_⟩
         refine rA [7] ?_
         refine ra_y 109 (i := 7) (v := pt B2 (g.A.toNat * 3)) rfl rfl rfl (Y_index (B := B2) (m := r_1.XImages.length) (c := c2) (k := .i64) (i := g.A) K2 K0 rfl rfl rfl (gi_isSome eN1 rfl (hS38.c 3) hx7) (getI_nn hx7) (getI_ltI hx7 rfl)) (hS38.se [0, 1, 2, 4, 5, 6, 7, 8]) ?_ ?_
         ·skip
          refine rA [8] ?_
          refine rZ 8 rfl (yS 3 3 B2 71 (.agg #[vi r_2.Phase, vi r_2.X, vi r_2.Z]) [vi r_2.Phase, vi r_2.X, vi r_2.Z] (g.A.toNat * 3) ((r_1.XImages.set g.A.toNat r_2).flatMap eN0) hS38 K0 rfl rfl rfl rfl rfl rfl rfl (gi_fit0 eN1 hx7) (gi_set eN1 hx7 r_2 rfl)) ?_ ?_
          ·rintro _ w_30 ⟨rfl, hS39⟩
           have hS39 : ST w0 [] _ [⟨aD b, 55, [vi g.Kind, vi g.A, vi g.B], 3⟩, ⟨aD b1, 40, [vi 0, .slice none 0 0, .slice none 0 0], 3⟩, ⟨aD b2, 40, [vi r_1.Qubits, .slice B2 r_1.XImages.length c2, .slice B3 r_1.ZImages.length c3], 3⟩, ⟨B2, 71, ((r_1.XImages.set g.A.toNat r_2).flatMap eN0), c2 * 3⟩, ⟨B3, 71, (r_1.ZImages.flatMap eN0), c3 * 3⟩, ⟨B4, 71, [vi 0, vi (shlK .i64 1 (IntKind.u64.wrap g.A)), vi 0], 3⟩, ⟨B5, 71, [vi 0, vi 0, vi (shlK .i64 1 (IntKind.u64.wrap g.A))], 3⟩, ⟨B6, 71, [vi 0, vi (shlK .i64 1 (IntKind.u64.wrap g.B)), vi 0], 3⟩, ⟨B7, 71, [vi 0, vi 0, vi (shlK .i64 1 (IntKind.u64.wrap g.B))], 3⟩] [] := hS39
           refine ⟨(hS39.se [0, 1, 2, 4, 5, 6, 7, 8]), ?_⟩
           refine ra_done (by kernel_rfl) ?_
           obtain ⟨r_3, hc2, hF17⟩ := bI hF17
           obtain ⟨x8, hx8, hF17⟩ := bI hF17
           refine ra_start (hS39.se [0, 1, 2, 3, 5, 6, 7, 8]).fn (by kernel_rfl) ?_
           have hS41 := hS39.drew
           refine rq 0 110 (v := pt (aD b2) 2) rfl (hS41.se [0, 1, 2, 3, 5, 6, 7, 8]) (fun w' hw' => (yd (aD b2) 0 0 K11 K1 rfl (hf3.g 5 2))) ?_
           refine rq 1 111 (v := .slice B3 r_1.ZImages.length c3) rfl (hS41.se [0, 1, 2, 3, 5, 6, 7, 8]) (fun w' hw' => (yl (aD b2) 2 [vi r_1.Qubits, .slice B2 r_1.XImages.length c2, .slice B3 r_1.ZImages.length c3] (.slice B3 r_1.ZImages.length c3) K6 (ST.cf hw' (i := 2) rfl))) ?_
           refine rq 2 112 (v := pt (aD b) 2) rfl (hS41.se [0, 1, 2, 3, 5, 6, 7, 8]) (fun w' hw' => (yd (aD b) 0 0 K25 K3 rfl (hf3.g 3 0))) ?_
           refine rq 3 113 (v := vi g.B) rfl (hS41.se [0, 1, 2, 3, 5, 6, 7, 8]) (fun w' hw' => (yl (aD b) 2 [vi g.Kind, vi g.A, vi g.B] (vi g.B) K4 (ST.cf hw' (i := 0) rfl))) ?_
           refine rq 4 114 (v := .agg #[vi 0, vi 0, vi (shlK .i64 1 (IntKind.u64.wrap g.A))]) rfl (hS41.se [0, 1, 2, 3, 5, 6, 7, 8]) (fun w' hw' => (yb B5 0 [vi 0, vi 0, vi (shlK .i64 1 (IntKind.u64.wrap g.A))] K14 K0 (ST.cf hw' (i := 5) rfl) rfl (hf3.g 7 4))) ?_
           refine rq 5 115 (v := .agg #[vi 0, vi 0, vi (shlK .i64 1 (IntKind.u64.wrap g.B))]) rfl (hS41.se [0, 1, 2, 3, 5, 6, 7, 8]) (fun w' hw' => (yb B7 0 [vi 0, vi 0, vi (shlK .i64 1 (IntKind.u64.wrap g.B))] K14 K0 (ST.cf hw' (i := 7) rfl) rfl (hf3.g 9 6))) ?_
           refine rA [6] ?_
           refine rC 116 6 rfl (yC [.agg #[vi 0, vi 0, vi (shlK .i64 1 (IntKind.u64.wrap g.A))], .agg #[vi 0, vi 0, vi (shlK .i64 1 (IntKind.u64.wrap g.B))]] K54 (c_spec_l7Mul (TPauli.mk 0 0 (shlK .i64 1 (IntKind.u64.wrap g.A))) (TPauli.mk 0 0 (shlK .i64 1 (IntKind.u64.wrap g.B))) _  (hS41.inn0 [] rfl) hc2)) ?_ ?_
           ·rintro _ w_31 ⟨rfl, hd2⟩
            have hS42 := hS41.out00 hd2
            refine ⟨(hS42.se [0, 1, 2, 3, 5, 6, 7, 8]), ?_⟩
            refine rA [7] ?_
            refine ra_y 117 (i := 7) (v := pt B3 (g.B.toNat * 3)) rfl rfl rfl (Y_index (B := B3) (m := r_1.ZImages.length) (c := c3) (k := .i64) (i := g.B) K2 K0 rfl rfl rfl (gi_isSome eN1 rfl (hS42.c 4) hx8) (getI_nn hx8) (getI_ltI hx8 rfl)) (hS42.se [0, 1, 2, 3, 5, 6, 7, 8]) ?_ ?_
            ·skip
             refine rA [8] ?_
             refine rZ 8 rfl (yS 4 3 B3 71 (.agg #[vi r_3.Phase, vi r_3.X, vi r_3.Z]) [vi r_3.Phase, vi r_3.X, vi r_3.Z] (g.B.toNat * 3) ((r_1.ZImages.set g.B.toNat r_3).flatMap eN0) hS42 K0 rfl rfl rfl rfl rfl rfl rfl (gi_fit0 eN1 hx8) (gi_set eN1 hx8 r_3 rfl)) ?_ ?_
             ·rintro _ w_32 ⟨rfl, hS43⟩
              refine ⟨(hS43.se [0, 1, 2, 3, 5, 6, 7, 8]), ?_⟩
              refine ra_done (by kernel_rfl) ?_
              exact ⟨(r_1.XImages.set g.A.toNat r_2), (r_1.ZImages.set g.B.toNat r_3), (sI hF17), (fc (hf3.g 4 1) (fc (hf3.g 5 2) fn_)), (set_len _ _ _ rfl), (set_len _ _ _ rfl), (hS43.sel [1, 2, 3, 4] rfl rfl)⟩
             exact aN
            exact aN
           exact aN
          exact aN
         exact aN
        exact aN
       ·skip
        have hF18 := cf' hF16 hb7
        refine cq (cr ?_)
        refine sQ 119 (yE g.Kind 10 rfl (hf3.g 33 7)) <| sQ 118 (yg (.bool (g.Kind == 10))) (rn ?_)
        refine cw_cond (b := (g.Kind == 10)) rfl (fun hb8 => ?_) (fun hb8 => ?_)
        ·skip
         have hF19 := ct hF18 hb8
         refine cq ?_
         obtain ⟨r_4, hc3, hF19⟩ := bI hF19
         obtain ⟨x9, hx9, hF19⟩ := bI hF19
         refine ra_start (hS33.se [0, 1, 2, 4, 5, 6, 7, 8]).fn (by kernel_rfl) ?_
         have hS45 := hS33.drew
         refine rq 0 120 (v := pt (aD b2) 1) rfl (hS45.se [0, 1, 2, 4, 5, 6, 7, 8]) (fun w' hw' => (yd (aD b2) 0 0 K9 K1 rfl (hf3.g 5 2))) ?_
         refine rq 1 121 (v := .slice B2 r_1.XImages.length c2) rfl (hS45.se [0, 1, 2, 4, 5, 6, 7, 8]) (fun w' hw' => (yl (aD b2) 1 [vi r_1.Qubits, .slice B2 r_1.XImages.length c2, .slice B3 r_1.ZImages.length c3] (.slice B2 r_1.XImages.length c2) K6 (ST.cf hw' (i := 2) rfl))) ?_
         refine rq 2 122 (v := pt (aD b) 1) rfl (hS45.se [0, 1, 2, 4, 5, 6, 7, 8]) (fun w' hw' => (yd (aD b) 0 0 K18 K3 rfl (hf3.g 3 0))) ?_
         refine rq 3 123 (v := vi g.A) rfl (hS45.se [0, 1, 2, 4, 5, 6, 7, 8]) (fun w' hw' => (yl (aD b) 1 [vi g.Kind, vi g.A, vi g.B] (vi g.A) K4 (ST.cf hw' (i := 0) rfl))) ?_
         refine rq 4 124 (v := .agg #[vi 0, vi (shlK .i64 1 (IntKind.u64.wrap g.A)), vi 0]) rfl (hS45.se [0, 1, 2, 4, 5, 6, 7, 8]) (fun w' hw' => (yb B4 0 [vi 0, vi (shlK .i64 1 (IntKind.u64.wrap g.A)), vi 0] K14 K0 (ST.cf hw' (i := 4) rfl) rfl (hf3.g 6 3))) ?_
         refine rq 5 125 (v := .agg #[vi 0, vi 0, vi (shlK .i64 1 (IntKind.u64.wrap g.B))]) rfl (hS45.se [0, 1, 2, 4, 5, 6, 7, 8]) (fun w' hw' => (yb B7 0 [vi 0, vi 0, vi (shlK .i64 1 (IntKind.u64.wrap g.B))] K14 K0 (ST.cf hw' (i := 7) rfl) rfl (hf3.g 9 6))) ?_
         refine rA [6] ?_
         refine rC 126 6 rfl (yC [.agg #[vi 0, vi (shlK .i64 1 (IntKind.u64.wrap g.A)), vi 0], .agg #[vi 0, vi 0, vi (shlK .i64 1 (IntKind.u64.wrap g.B))]] K54 (c_spec_l7Mul (TPauli.mk 0 (shlK .i64 1 (IntKind.u64.wrap g.A)) 0) (TPauli.mk 0 0 (shlK .i64 1 (IntKind.u64.wrap g.B))) _  (hS45.inn0 [] rfl) hc3)) ?_ ?_
         ·rintro _ w_33 ⟨rfl, hd3⟩
          have hS46 := hS45.out00 hd3
          refine ⟨(hS46.se [0, 1, 2, 4, 5, 6, 7, 8]), ?_⟩
          refine rA [7] ?_
          refine ra_y 127 (i := 7) (v := pt B2 (g.A.toNat * 3)) rfl rfl rfl (Y_index (B := B2) (m := r_1.XImages.length) (c := c2) (k := .i64) (i := g.A) K2 K0 rfl rfl rfl (gi_isSome eN1 rfl (hS46.c 3) hx9) (getI_nn hx9) (getI_ltI hx9 rfl)) (hS46.se [0, 1, 2, 4, 5, 6, 7, 8]) ?_ ?_
          ·skip
           refine rA [8] ?_
           refine rZ 8 rfl (yS 3 3 B2 71 (.agg #[vi r_4.Phase, vi r_4.X, vi r_4.Z]) [vi r_4.Phase, vi r_4.X, vi r_4.Z] (g.A.toNat * 3) ((r_1.XImages.set g.A.toNat r_4).flatMap eN0) hS46 K0 rfl rfl rfl rfl rfl rfl rfl (gi_fit0 eN1 hx9) (gi_set eN1 hx9 r_4 rfl)) ?_ ?_
           ·rintro _ w_34 ⟨rfl, hS47⟩
            refine ⟨(hS47.se [0, 1, 2, 4, 5, 6, 7, 8]), ?_⟩
            refine ra_done (by kernel_rfl) ?_
            obtain ⟨r_5, hc4, hF19⟩ := bI hF19
            obtain ⟨x10, hx10, hF19⟩ := bI hF19
            refine ra_start (hS47.se [0, 1, 2, 4, 5, 6, 7, 8]).fn (by kernel_rfl) ?_
            have hS49 := hS47.drew
            refine rq 0 128 (v := pt (aD b2) 1) rfl (hS49.se [0, 1, 2, 4, 5, 6, 7, 8]) (fun w' hw' => (yd (aD b2) 0 0 K9 K1 rfl (hf3.g 5 2))) ?_
            refine rq 1 129 (v := .slice B2 r_1.XImages.length c2) rfl (hS49.se [0, 1, 2, 4, 5, 6, 7, 8]) (fun w' hw' => (yl (aD b2) 1 [vi r_1.Qubits, .slice B2 r_1.XImages.length c2, .slice B3 r_1.ZImages.length c3] (.slice B2 r_1.XImages.length c2) K6 (ST.cf hw' (i := 2) rfl))) ?_
            refine rq 2 130 (v := pt (aD b) 2) rfl (hS49.se [0, 1, 2, 4, 5, 6, 7, 8]) (fun w' hw' => (yd (aD b) 0 0 K25 K3 rfl (hf3.g 3 0))) ?_
            refine rq 3 131 (v := vi g.B) rfl (hS49.se [0, 1, 2, 4, 5, 6, 7, 8]) (fun w' hw' => (yl (aD b) 2 [vi g.Kind, vi g.A, vi g.B] (vi g.B) K4 (ST.cf hw' (i := 0) rfl))) ?_
            refine rq 4 132 (v := .agg #[vi 0, vi 0, vi (shlK .i64 1 (IntKind.u64.wrap g.A))]) rfl (hS49.se [0, 1, 2, 4, 5, 6, 7, 8]) (fun w' hw' => (yb B5 0 [vi 0, vi 0, vi (shlK .i64 1 (IntKind.u64.wrap g.A))] K14 K0 (ST.cf hw' (i := 5) rfl) rfl (hf3.g 7 4))) ?_
            refine rq 5 133 (v := .agg #[vi 0, vi (shlK .i64 1 (IntKind.u64.wrap g.B)), vi 0]) rfl (hS49.se [0, 1, 2, 4, 5, 6, 7, 8]) (fun w' hw' => (yb B6 0 [vi 0, vi (shlK .i64 1 (IntKind.u64.wrap g.B)), vi 0] K14 K0 (ST.cf hw' (i := 6) rfl) rfl (hf3.g 8 5))) ?_
            refine rA [6] ?_
            refine rC 134 6 rfl (yC [.agg #[vi 0, vi 0, vi (shlK .i64 1 (IntKind.u64.wrap g.A))], .agg #[vi 0, vi (shlK .i64 1 (IntKind.u64.wrap g.B)), vi 0]] K54 (c_spec_l7Mul (TPauli.mk 0 0 (shlK .i64 1 (IntKind.u64.wrap g.A))) (TPauli.mk 0 (shlK .i64 1 (IntKind.u64.wrap g.B)) 0) _  (hS49.inn0 [] rfl) hc4)) ?_ ?_
            ·rintro _ w_35 ⟨rfl, hd4⟩
             have hS50 := hS49.out00 hd4
             refine ⟨(hS50.se [0, 1, 2, 4, 5, 6, 7, 8]), ?_⟩
             refine rA [7] ?_
             refine ra_y 135 (i := 7) (v := pt B2 (g.B.toNat * 3)) rfl rfl rfl (Y_index (B := B2) (m := r_1.XImages.length) (c := c2) (k := .i64) (i := g.B) K2 K0 rfl rfl rfl (gi_isSome eN1 rfl (hS50.c 3) hx10) (getI_nn hx10) (getI_ltI hx10 (set_len _ _ _ rfl))) (hS50.se [0, 1, 2, 4, 5, 6, 7, 8]) ?_ ?_
             ·skip
              refine rA [8] ?_
              refine rZ 8 rfl (yS 3 3 B2 71 (.agg #[vi r_5.Phase, vi r_5.X, vi r_5.Z]) [vi r_5.Phase, vi r_5.X, vi r_5.Z] (g.B.toNat * 3) (((r_1.XImages.set g.A.toNat r_4).set g.B.toNat r_5).flatMap eN0) hS50 K0 rfl rfl rfl rfl rfl rfl rfl (gi_fit0 eN1 hx10) (gi_set eN1 hx10 r_5 rfl)) ?_ ?_
              ·rintro _ w_36 ⟨rfl, hS51⟩
               refine ⟨(hS51.se [0, 1, 2, 4, 5, 6, 7, 8]), ?_⟩
               refine ra_done (by kernel_rfl) ?_
               exact ⟨((r_1.XImages.set g.A.toNat r_4).set g.B.toNat r_5), r_1.ZImages, (sI hF19), (fc (hf3.g 4 1) (fc (hf3.g 5 2) fn_)), (set_len _ _ _ (set_len _ _ _ rfl)), rfl, (hS51.sel [1, 2, 3, 4] rfl rfl)⟩
              exact aN
             exact aN
            exact aN
           exact aN
          exact aN
         exact aN
        ·skip
         have hF20 := cf' hF18 hb8
         refine cq (cr ?_)
         refine sQ 137 (yE g.Kind 11 rfl (hf3.g 33 7)) <| sQ 136 (yg (.bool (g.Kind == 11))) (rn ?_)
         refine cw_cond (b := (g.Kind == 11)) rfl (fun hb9 => ?_) (fun hb9 => ?_)
         ·skip
          have hF21 := ct hF20 hb9
          refine cq (cr ?_)
          refine sQ 138 (yd (aD b2) 0 0 K9 K1 rfl (hf3.g 5 2)) <| sQ 139 (yl (aD b2) 1 [vi r_1.Qubits, .slice B2 r_1.XImages.length c2, .slice B3 r_1.ZImages.length c3] (.slice B2 r_1.XImages.length c2) K6 (hS33.c 2)) <| sQ 140 (yd (aD b) 0 0 K18 K3 rfl (hf3.g 3 0)) <| sQ 141 (yl (aD b) 1 [vi g.Kind, vi g.A, vi g.B] (vi g.A) K4 (hS33.c 0)) <| sQ 142 (yb B6 0 [vi 0, vi (shlK .i64 1 (IntKind.u64.wrap g.B)), vi 0] K14 K0 (hS33.c 7) rfl (hf3.g 8 5)) ?_
          obtain ⟨x11, hx11, hF21⟩ := bI hF21
          refine sQ 143 (Y_index (B := B2) (m := r_1.XImages.length) (c := c2) (k := .i64) (i := g.A) K2 K0 rfl rfl rfl (gi_isSome eN1 rfl (hS33.c 3) hx11) (getI_nn hx11) (getI_ltI hx11 rfl)) ?_
          refine s0 (yS 3 3 B2 71 (.agg #[vi 0, vi (shlK .i64 1 (IntKind.u64.wrap g.B)), vi 0]) [vi 0, vi (shlK .i64 1 (IntKind.u64.wrap g.B)), vi 0] (g.A.toNat * 3) ((r_1.XImages.set g.A.toNat (TPauli.mk 0 (shlK .i64 1 (IntKind.u64.wrap g.B)) 0)).flatMap eN0) hS33 K0 rfl rfl rfl rfl rfl rfl rfl (gi_fit0 eN1 hx11) (gi_set eN1 hx11 (TPauli.mk 0 (shlK .i64 1 (IntKind.u64.wrap g.B)) 0) rfl)) ?_
          rintro _ w_37 ⟨rfl, hS52⟩
          refine rn (cq (cr ?_))
          refine sQ 144 (yd (aD b2) 0 0 K9 K1 rfl (hf3.g 5 2)) <| sQ 145 (yl (aD b2) 1 [vi r_1.Qubits, .slice B2 r_1.XImages.length c2, .slice B3 r_1.ZImages.length c3] (.slice B2 r_1.XImages.length c2) K6 (hS52.c 2)) <| sQ 146 (yd (aD b) 0 0 K25 K3 rfl (hf3.g 3 0)) <| sQ 147 (yl (aD b) 2 [vi g.Kind, vi g.A, vi g.B] (vi g.B) K4 (hS52.c 0)) <| sQ 148 (yb B4 0 [vi 0, vi (shlK .i64 1 (IntKind.u64.wrap g.A)), vi 0] K14 K0 (hS52.c 5) rfl (hf3.g 6 3)) ?_
          obtain ⟨x12, hx12, hF21⟩ := bI hF21
          refine sQ 149 (Y_index (B := B2) (m := r_1.XImages.length) (c := c2) (k := .i64) (i := g.B) K2 K0 rfl rfl rfl (gi_isSome eN1 rfl (hS52.c 3) hx12) (getI_nn hx12) (getI_ltI hx12 (set_len _ _ _ rfl))) ?_
          refine s0 (yS 3 3 B2 71 (.agg #[vi 0, vi (shlK .i64 1 (IntKind.u64.wrap g.A)), vi 0]) [vi 0, vi (shlK .i64 1 (IntKind.u64.wrap g.A)), vi 0] (g.B.toNat * 3) (((r_1.XImages.set g.A.toNat (TPauli.mk 0 (shlK .i64 1 (IntKind.u64.wrap g.B)) 0)).set g.B.toNat (TPauli.mk 0 (shlK .i64 1 (IntKind.u64.wrap g.A)) 0)).flatMap eN0) hS52 K0 rfl rfl rfl rfl rfl rfl rfl (gi_fit0 eN1 hx12) (gi_set eN1 hx12 (TPauli.mk 0 (shlK .i64 1 (IntKind.u64.wrap g.A)) 0) rfl)) ?_
          rintro _ w_38 ⟨rfl, hS53⟩
          refine rn (cq (cr ?_))
          refine sQ 150 (yd (aD b2) 0 0 K11 K1 rfl (hf3.g 5 2)) <| sQ 151 (yl (aD b2) 2 [vi r_1.Qubits, .slice B2 r_1.XImages.length c2, .slice B3 r_1.ZImages.length c3] (.slice B3 r_1.ZImages.length c3) K6 (hS53.c 2)) <| sQ 152 (yd (aD b) 0 0 K18 K3 rfl (hf3.g 3 0)) <| sQ 153 (yl (aD b) 1 [vi g.Kind, vi g.A, vi g.B] (vi g.A) K4 (hS53.c 0)) <| sQ 154 (yb B7 0 [vi 0, vi 0, vi (shlK .i64 1 (IntKind.u64.wrap g.B))] K14 K0 (hS53.c 8) rfl (hf3.g 9 6)) ?_
          obtain ⟨x13, hx13, hF21⟩ := bI hF21
          refine sQ 155 (Y_index (B := B3) (m := r_1.ZImages.length) (c := c3) (k := .i64) (i := g.A) K2 K0 rfl rfl rfl (gi_isSome eN1 rfl (hS53.c 4) hx13) (getI_nn hx13) (getI_ltI hx13 rfl)) ?_
          refine s0 (yS 4 3 B3 71 (.agg #[vi 0, vi 0, vi (shlK .i64 1 (IntKind.u64.wrap g.B))]) [vi 0, vi 0, vi (shlK .i64 1 (IntKind.u64.wrap g.B))] (g.A.toNat * 3) ((r_1.ZImages.set g.A.toNat (TPauli.mk 0 0 (shlK .i64 1 (IntKind.u64.wrap g.B)))).flatMap eN0) hS53 K0 rfl rfl rfl rfl rfl rfl rfl (gi_fit0 eN1 hx13) (gi_set eN1 hx13 (TPauli.mk 0 0 (shlK .i64 1 (IntKind.u64.wrap g.B))) rfl)) ?_
          rintro _ w_39 ⟨rfl, hS54⟩
          refine rn (cr ?_)
          refine sQ 156 (yd (aD b2) 0 0 K11 K1 rfl (hf3.g 5 2)) <| sQ 157 (yl (aD b2) 2 [vi r_1.Qubits, .slice B2 r_1.XImages.length c2, .slice B3 r_1.ZImages.length c3] (.slice B3 r_1.ZImages.length c3) K6 (hS54.c 2)) <| sQ 158 (yd (aD b) 0 0 K25 K3 rfl (hf3.g 3 0)) <| sQ 159 (yl (aD b) 2 [vi g.Kind, vi g.A, vi g.B] (vi g.B) K4 (hS54.c 0)) <| sQ 160 (yb B5 0 [vi 0, vi 0, vi (shlK .i64 1 (IntKind.u64.wrap g.A))] K14 K0 (hS54.c 6) rfl (hf3.g 7 4)) ?_
          obtain ⟨x14, hx14, hF21⟩ := bI hF21
          refine sQ 161 (Y_index (B := B3) (m := r_1.ZImages.length) (c := c3) (k := .i64) (i := g.B) K2 K0 rfl rfl rfl (gi_isSome eN1 rfl (hS54.c 4) hx14) (getI_nn hx14) (getI_ltI hx14 (set_len _ _ _ rfl))) ?_
          refine s0 (yS 4 3 B3 71 (.agg #[vi 0, vi 0, vi (shlK .i64 1 (IntKind.u64.wrap g.A))]) [vi 0, vi 0, vi (shlK .i64 1 (IntKind.u64.wrap g.A))] (g.B.toNat * 3) (((r_1.ZImages.set g.A.toNat (TPauli.mk 0 0 (shlK .i64 1 (IntKind.u64.wrap g.B)))).set g.B.toNat (TPauli.mk 0 0 (shlK .i64 1 (IntKind.u64.wrap g.A)))).flatMap eN0) hS54 K0 rfl rfl rfl rfl rfl rfl rfl (gi_fit0 eN1 hx14) (gi_set eN1 hx14 (TPauli.mk 0 0 (shlK .i64 1 (IntKind.u64.wrap g.A))) rfl)) ?_
          rintro _ w_40 ⟨rfl, hS55⟩
          refine rn ?_
          exact ⟨((r_1.XImages.set g.A.toNat (TPauli.mk 0 (shlK .i64 1 (IntKind.u64.wrap g.B)) 0)).set g.B.toNat (TPauli.mk 0 (shlK .i64 1 (IntKind.u64.wrap g.A)) 0)), ((r_1.ZImages.set g.A.toNat (TPauli.mk 0 0 (shlK .i64 1 (IntKind.u64.wrap g.B)))).set g.B.toNat (TPauli.mk 0 0 (shlK .i64 1 (IntKind.u64.wrap g.A)))), (sI hF21), (fc (hf3.g 4 1) (fc (hf3.g 5 2) fn_)), (set_len _ _ _ (set_len _ _ _ rfl)), (set_len _ _ _ (set_len _ _ _ rfl)), (hS55.sel [1, 2, 3, 4] rfl rfl)⟩
         ·skip
          have hF22 := cf' hF20 hb9
          refine cw_skip ?_
          exact ⟨r_1.XImages, r_1.ZImages, (sI hF22), (fc (hf3.g 4 1) (fc (hf3.g 5 2) fn_)), rfl, rfl, (hS33.sel [1, 2, 3, 4] rfl rfl)⟩
 rintro f w ⟨XImages, ZImages, rfl, hf2, hl, hl1, hS26⟩
 refine cq (cr ?_)
 refine sQ 162 (yb (aD b2) 0 [vi r_1.Qubits, .slice B2 r_1.XImages.length c2, .slice B3 r_1.ZImages.length c3] K20 K10 (hS26.c 1) rfl (hf2.g 5 1)) ?_
 refine s0 (yT 0 3 (aD b1) 40 (.agg #[vi r_1.Qubits, .slice B2 r_1.XImages.length c2, .slice B3 r_1.ZImages.length c3]) [vi r_1.Qubits, .slice B2 r_1.XImages.length c2, .slice B3 r_1.ZImages.length c3] 0 hS26 K10 rfl (hf2.g 4 0)) ?_
 rintro _ w_41 ⟨rfl, hS56⟩
 refine rn (ct_ ?_)
 obtain rfl := sI hF1
 exact ret1 Try.results25 (v1 := .agg #[vi r_1.Qubits, .slice B2 r_1.XImages.length c2, .slice B3 r_1.ZImages.length c3]) (resAt_cellA (B := aD b1) (i := 0) (cs := [vi r_1.Qubits, .slice B2 r_1.XImages.length c2, .slice B3 r_1.ZImages.length c3]) (vs := [vi r_1.Qubits, .slice B2 r_1.XImages.length c2, .slice B3 r_1.ZImages.length c3]) (hf2.g 4 0) K20 K10 (hS56.c 0) rfl rfl) ⟨B2, c2, B3, c3, (by simp [hl, hl1]), (hS56.sN [2, 3])⟩

theorem c_spec_l8R_add (r_ : Tl8R) (kind : Int) (a : Int) (b : Int) (B : Option Addr) (B1 : Option Addr) (c n : Nat) (B2 : Option Addr) (c1 n1 : Nat) (B3 : Option Addr) (c2 n2 : Nat) (w0 : World) (hn : r_.t.XImages.length = n) (hn1 : r_.t.ZImages.length = n1) (hn2 : r_.out.length = n2) (hS : ST w0 (bl [⟨B, 52, [vi r_.t.Qubits, .slice B1 n c, .slice B2 n1 c1, .slice B3 n2 c2], 4⟩, ⟨B3, 55, (r_.out.flatMap eN2), c2 * 3⟩]) w0 [⟨B, 52, [vi r_.t.Qubits, .slice B1 n c, .slice B2 n1 c1, .slice B3 n2 c2], 4⟩, ⟨B3, 55, (r_.out.flatMap eN2), c2 * 3⟩] [⟨B1, (r_.t.XImages.flatMap eN0)⟩, ⟨B2, (r_.t.ZImages.flatMap eN0)⟩]) {m : Tl8R} (hF : F_spec_l8R_add r_ kind a b = some m) :
  CV Try.prog 39 #[pt B 0, vi kind, vi a, vi b] w0 (fun v w' => ∃ (B4 : Option Addr) (c3 : Nat) (B5 : Option Addr) (c4 : Nat) (B6 : Option Addr) (c5 : Nat), v = .tuple #[] ∧ ST w0 (bl [⟨B, 52, [vi r_.t.Qubits, .slice B1 n c, .slice B2 n1 c1, .slice B3 n2 c2], 4⟩, ⟨B3, 55, (r_.out.flatMap eN2), c2 * 3⟩]) w' [⟨B, 52, [vi m.t.Qubits, .slice B4 m.t.XImages.length c3, .slice B5 m.t.ZImages.length c4, .slice B6 m.out.length c5], 4⟩, ⟨B4, 71, (m.t.XImages.flatMap eN0), c3 * 3⟩, ⟨B5, 71, (m.t.ZImages.flatMap eN0), c4 * 3⟩, ⟨B6, 55, (m.out.flatMap eN2), c5 * 3⟩] []) := by
 subst hn
 subst hn1
 subst hn2
 unfold F_spec_l8R_add at hF
 refine cv_of_cw 38 Try.func39 rfl Try.ntmps39 rfl ?_
 refine cq (cr ?_)
 refine sQ 9 (ym (vi kind)) <| sQ 10 (ym (vi a)) <| sQ 11 (ym (vi b)) <| sQ 12 (Y_buildS (zs := [vi 0, vi 0, vi 0]) (vs := [(0, vi kind), (1, vi a), (2, vi b)]) (cs := [vi kind, vi a, vi b]) k_pl_55 K28 rfl (mpc rfl (mpc rfl (mpc rfl mpn))) rfl) ?_
 refine sS 8 (yN [vi 0, vi 0, vi 0] 3 hS K28) ?_
 rintro _ w_ ⟨b1, rfl, hS1⟩
 refine s0 (yT 2 3 (aD b1) 55 (.agg #[vi kind, vi a, vi b]) [vi kind, vi a, vi b] 0 hS1 K13) ?_
 rintro _ w_1 ⟨rfl, hS2⟩
 refine rn (cq ?_)
 obtain ⟨r_1, hc, hF⟩ := bI hF
 obtain ⟨r_2, hc1, hF⟩ := bI hF
 refine cw_mid (fun f w => ∃ (B11 : Option Addr) (c10 : Nat) (B12 : Option Addr) (c11 : Nat), FF f [(0, pt B 0), (8, pt (aD b1) 0)] ∧ ST w0 (bl [⟨B, 52, [vi r_.t.Qubits, .slice B1 r_.t.XImages.length c, .slice B2 r_.t.ZImages.length c1, .slice B3 r_.out.length c2], 4⟩, ⟨B3, 55, (r_.out.flatMap eN2), c2 * 3⟩]) w [⟨B, 52, [vi r_2.Qubits, .slice B11 r_2.XImages.length c10, .slice B12 r_2.ZImages.length c11, .slice B3 r_.out.length c2], 4⟩, ⟨B11, 71, (r_2.XImages.flatMap eN0), c10 * 3⟩, ⟨B12, 71, (r_2.ZImages.flatMap eN0), c11 * 3⟩, ⟨B3, 55, (r_.out.flatMap eN2), c2 * 3⟩, ⟨aD b1, 55, [vi kind, vi a, vi b], 3⟩] [⟨B1, (r_.t.XImages.flatMap eN0)⟩, ⟨B2, (r_.t.ZImages.flatMap eN0)⟩]) ?_ ?_
 ·skip
  refine ra_start (hS2.se [1, 2]).fn (by kernel_rfl) ?_
  have hS6 := hS2.drew
  refine rq 0 13 (v := pt B 0) rfl (hS6.se [1, 2]) (fun w' hw' => (ym (pt B 0))) ?_
  refine rq 1 14 (v := pt B 0) rfl (hS6.se [1, 2]) (fun w' hw' => (ym (pt B 0))) ?_
  refine rq 2 15 (v := pt B 0) rfl (hS6.se [1, 2]) (fun w' hw' => (Y_nilCheck (B := B) (i := 0) rfl rfl)) ?_
  refine rq 3 16 (v := pt B 0) rfl (hS6.se [1, 2]) (fun w' hw' => (yd B 0 2 K32 K10)) ?_
  refine rq 5 18 (v := pt B 0) rfl (hS6.se [1, 2]) (fun w' hw' => (ym (pt B 0))) ?_
  refine rq 6 19 (v := pt B 0) rfl (hS6.se [1, 2]) (fun w' hw' => (Y_nilCheck (B := B) (i := 0) rfl rfl)) ?_
  refine rq 7 20 (v := pt B 0) rfl (hS6.se [1, 2]) (fun w' hw' => (yd B 0 2 K32 K10)) ?_
  refine rq 8 21 (v := pt B 0) rfl (hS6.se [1, 2]) (fun w' hw' => (yd B 0 0 K30 K3)) ?_
  refine rq 10 23 (v := .agg #[vi kind, vi a, vi b]) rfl (hS6.se [1, 2]) (fun w' hw' => (yb (aD b1) 0 [vi kind, vi a, vi b] K26 K13 (ST.cf hw' (i := 1) rfl))) ?_
  refine rA [4, 9] ?_
  refine ra_y 17 (i := 4) (v := .agg #[vi r_.t.Qubits, .slice B1 r_.t.XImages.length c, .slice B2 r_.t.ZImages.length c1]) rfl rfl rfl (ya B 0 [vi r_.t.Qubits, .slice B1 r_.t.XImages.length c, .slice B2 r_.t.ZImages.length c1, .slice B3 r_.out.length c2] [vi r_.t.Qubits, .slice B1 r_.t.XImages.length c, .slice B2 r_.t.ZImages.length c1] K20 K10 (hS6.c 0)) (hS6.se [1, 2]) ?_ ?_
  ·skip
   refine rA [9] ?_
   refine ra_y 22 (i := 9) (v := vi r_.t.Qubits) rfl rfl rfl (yl B 0 [vi r_.t.Qubits, .slice B1 r_.t.XImages.length c, .slice B2 r_.t.ZImages.length c1, .slice B3 r_.out.length c2] (vi r_.t.Qubits) K4 (hS6.c 0)) (hS6.se [1, 2]) ?_ ?_
   ·skip
    refine rA [11] ?_
    refine rC 24 11 rfl (yC [vi r_.t.Qubits, .agg #[vi kind, vi a, vi b]] K60 (c_spec_l7Gate r_.t.Qubits (TGate.mk kind a b) _  (hS6.inn0 [] rfl) hc)) ?_ ?_
    ·rintro _ w_2 ⟨B7, c6, B8, c7, rfl, hd⟩
     have hS7 := hS6.out0 hd
     refine ⟨(hS7.se [1, 2]), ?_⟩
     refine rA [12] ?_
     refine rC 25 12 rfl (yC [.agg #[vi r_.t.Qubits, .slice B1 r_.t.XImages.length c, .slice B2 r_.t.ZImages.length c1], .agg #[vi r_1.Qubits, .slice B7 r_1.XImages.length c6, .slice B8 r_1.ZImages.length c7]] K61 (c_spec_l7Then r_.t r_1 B1 c r_.t.XImages.length B2 c1 r_.t.ZImages.length B7 c6 r_1.XImages.length B8 c7 r_1.ZImages.length _ rfl rfl rfl rfl (hS7.inn0 [(true, 0), (true, 1), (false, 3), (false, 4)] rfl) hc1)) ?_ ?_
     ·rintro _ w_3 ⟨B9, c8, B10, c9, rfl, hd1⟩
      have hS8 := hS7.out0 hd1
      refine ⟨(hS8.se [1, 2]), ?_⟩
      refine rq 13 26 (v := pt B 0) rfl (hS8.se [1, 2]) (fun w' hw' => (Y_nilCheck (B := B) (i := 0) rfl rfl)) ?_
      refine rq 14 27 (v := pt B 0) rfl (hS8.se [1, 2]) (fun w' hw' => (yd B 0 2 K32 K10)) ?_
      refine rA [15] ?_
      refine rZ 15 rfl (yS 0 3 B 52 (.agg #[vi r_2.Qubits, .slice B9 r_2.XImages.length c8, .slice B10 r_2.ZImages.length c9]) [vi r_2.Qubits, .slice B9 r_2.XImages.length c8, .slice B10 r_2.ZImages.length c9] 0 [vi r_2.Qubits, .slice B9 r_2.XImages.length c8, .slice B10 r_2.ZImages.length c9, .slice B3 r_.out.length c2] hS8 K10) ?_ ?_
      ·rintro _ w_4 ⟨rfl, hS9⟩
       refine ⟨(hS9.se [1, 2]), ?_⟩
       refine ra_done (by kernel_rfl) ?_
       exact ⟨B9, c8, B10, c9, (fc rfl (fc rfl fn_)), (hS9.sel [0, 5, 6, 1, 2] rfl rfl)⟩
      exact aN
     exact aN
    exact aN
   exact aN
  refine ra_y 22 (i := 9) (v := vi r_.t.Qubits) rfl rfl rfl (yl B 0 [vi r_.t.Qubits, .slice B1 r_.t.XImages.length c, .slice B2 r_.t.ZImages.length c1, .slice B3 r_.out.length c2] (vi r_.t.Qubits) K4 (hS6.c 0)) (hS6.se [1, 2]) ?_ ?_
  ·skip
   refine rA [4, 11] ?_
   refine ra_y 17 (i := 4) (v := .agg #[vi r_.t.Qubits, .slice B1 r_.t.XImages.length c, .slice B2 r_.t.ZImages.length c1]) rfl rfl rfl (ya B 0 [vi r_.t.Qubits, .slice B1 r_.t.XImages.length c, .slice B2 r_.t.ZImages.length c1, .slice B3 r_.out.length c2] [vi r_.t.Qubits, .slice B1 r_.t.XImages.length c, .slice B2 r_.t.ZImages.length c1] K20 K10 (hS6.c 0)) (hS6.se [1, 2]) ?_ ?_
   ·skip
    refine rA [11] ?_
    refine rC 24 11 rfl (yC [vi r_.t.Qubits, .agg #[vi kind, vi a, vi b]] K60 (c_spec_l7Gate r_.t.Qubits (TGate.mk kind a b) _  (hS6.inn0 [] rfl) hc)) ?_ ?_
    ·rintro _ w_5 ⟨B7, c6, B8, c7, rfl, hd2⟩
     have hS10 := hS6.out0 hd2
     refine ⟨(hS10.se [1, 2]), ?_⟩
     refine rA [12] ?_
     refine rC 25 12 rfl (yC [.agg #[vi r_.t.Qubits, .slice B1 r_.t.XImages.length c, .slice B2 r_.t.ZImages.length c1], .agg #[vi r_1.Qubits, .slice B7 r_1.XImages.length c6, .slice B8 r_1.ZImages.length c7]] K61 (c_spec_l7Then r_.t r_1 B1 c r_.t.XImages.length B2 c1 r_.t.ZImages.length B7 c6 r_1.XImages.length B8 c7 r_1.ZImages.length _ rfl rfl rfl rfl (hS10.inn0 [(true, 0), (true, 1), (false, 3), (false, 4)] rfl) hc1)) ?_ ?_
     ·rintro _ w_6 ⟨B9, c8, B10, c9, rfl, hd3⟩
      have hS11 := hS10.out0 hd3
      refine ⟨(hS11.se [1, 2]), ?_⟩
      refine rq 13 26 (v := pt B 0) rfl (hS11.se [1, 2]) (fun w' hw' => (Y_nilCheck (B := B) (i := 0) rfl rfl)) ?_
      refine rq 14 27 (v := pt B 0) rfl (hS11.se [1, 2]) (fun w' hw' => (yd B 0 2 K32 K10)) ?_
      refine rA [15] ?_
      refine rZ 15 rfl (yS 0 3 B 52 (.agg #[vi r_2.Qubits, .slice B9 r_2.XImages.length c8, .slice B10 r_2.ZImages.length c9]) [vi r_2.Qubits, .slice B9 r_2.XImages.length c8, .slice B10 r_2.ZImages.length c9] 0 [vi r_2.Qubits, .slice B9 r_2.XImages.length c8, .slice B10 r_2.ZImages.length c9, .slice B3 r_.out.length c2] hS11 K10) ?_ ?_
      ·rintro _ w_7 ⟨rfl, hS12⟩
       refine ⟨(hS12.se [1, 2]), ?_⟩
       refine ra_done (by kernel_rfl) ?_
       exact ⟨B9, c8, B10, c9, (fc rfl (fc rfl fn_)), (hS12.sel [0, 5, 6, 1, 2] rfl rfl)⟩
      exact aN
     exact aN
    exact aN
   refine rC 24 11 rfl (yC [vi r_.t.Qubits, .agg #[vi kind, vi a, vi b]] K60 (c_spec_l7Gate r_.t.Qubits (TGate.mk kind a b) _  (hS6.inn0 [] rfl) hc)) ?_ ?_
   ·rintro _ w_8 ⟨B7, c6, B8, c7, rfl, hd4⟩
    have hS13 := hS6.out0 hd4
    refine ⟨(hS13.se [1, 2]), ?_⟩
    refine rA [4] ?_
    refine ra_y 17 (i := 4) (v := .agg #[vi r_.t.Qubits, .slice B1 r_.t.XImages.length c, .slice B2 r_.t.ZImages.length c1]) rfl rfl rfl (ya B 0 [vi r_.t.Qubits, .slice B1 r_.t.XImages.length c, .slice B2 r_.t.ZImages.length c1, .slice B3 r_.out.length c2] [vi r_.t.Qubits, .slice B1 r_.t.XImages.length c, .slice B2 r_.t.ZImages.length c1] K20 K10 (hS13.c 0)) (hS13.se [1, 2]) ?_ ?_
    ·skip
     refine rA [12] ?_
     refine rC 25 12 rfl (yC [.agg #[vi r_.t.Qubits, .slice B1 r_.t.XImages.length c, .slice B2 r_.t.ZImages.length c1], .agg #[vi r_1.Qubits, .slice B7 r_1.XImages.length c6, .slice B8 r_1.ZImages.length c7]] K61 (c_spec_l7Then r_.t r_1 B1 c r_.t.XImages.length B2 c1 r_.t.ZImages.length B7 c6 r_1.XImages.length B8 c7 r_1.ZImages.length _ rfl rfl rfl rfl (hS13.inn0 [(true, 0), (true, 1), (false, 3), (false, 4)] rfl) hc1)) ?_ ?_
     ·rintro _ w_9 ⟨B9, c8, B10, c9, rfl, hd5⟩
      have hS14 := hS13.out0 hd5
      refine ⟨(hS14.se [1, 2]), ?_⟩
      refine rq 13 26 (v := pt B 0) rfl (hS14.se [1, 2]) (fun w' hw' => (Y_nilCheck (B := B) (i := 0) rfl rfl)) ?_
      refine rq 14 27 (v := pt B 0) rfl (hS14.se [1, 2]) (fun w' hw' => (yd B 0 2 K32 K10)) ?_
      refine rA [15] ?_
      refine rZ 15 rfl (yS 0 3 B 52 (.agg #[vi r_2.Qubits, .slice B9 r_2.XImages.length c8, .slice B10 r_2.ZImages.length c9]) [vi r_2.Qubits, .slice B9 r_2.XImages.length c8, .slice B10 r_2.ZImages.length c9] 0 [vi r_2.Qubits, .slice B9 r_2.XImages.length c8, .slice B10 r_2.ZImages.length c9, .slice B3 r_.out.length c2] hS14 K10) ?_ ?_
      ·rintro _ w_10 ⟨rfl, hS15⟩
       refine ⟨(hS15.se [1, 2]), ?_⟩
       refine ra_done (by kernel_rfl) ?_
       exact ⟨B9, c8, B10, c9, (fc rfl (fc rfl fn_)), (hS15.sel [0, 5, 6, 1, 2] rfl rfl)⟩
      exact aN
     exact aN
    exact aN
   exact aN
  exact aN
 rintro f w ⟨B11, c10, B12, c11, hf, hS5⟩
 obtain ⟨hap, hF⟩ := chk_inv hF
 refine cw_mid (fun f w => ∃ (B14 : Option Addr) (c13 : Nat), FF f [] ∧ ST w0 (bl [⟨B, 52, [vi r_.t.Qubits, .slice B1 r_.t.XImages.length c, .slice B2 r_.t.ZImages.length c1, .slice B3 r_.out.length c2], 4⟩, ⟨B3, 55, (r_.out.flatMap eN2), c2 * 3⟩]) w [⟨B, 52, [vi r_2.Qubits, .slice B11 r_2.XImages.length c10, .slice B12 r_2.ZImages.length c11, .slice B14 ((r_.out ++ [(TGate.mk kind a b)]).length) c13], 4⟩, ⟨B11, 71, (r_2.XImages.flatMap eN0), c10 * 3⟩, ⟨B12, 71, (r_2.ZImages.flatMap eN0), c11 * 3⟩, ⟨B14, 55, ((r_.out ++ [(TGate.mk kind a b)]).flatMap eN2), c13 * 3⟩] [⟨B1, (r_.t.XImages.flatMap eN0)⟩, ⟨B2, (r_.t.ZImages.flatMap eN0)⟩]) ?_ ?_
 ·skip
  refine ra_start (hS5.se [1, 2, 4]).fn (by kernel_rfl) ?_
  have hS17 := hS5.drew
  refine rq 0 28 (v := pt B 0) rfl (hS17.se [1, 2, 4]) (fun w' hw' => (ym (pt B 0) rfl (hf.g 0 0))) ?_
  refine rq 1 29 (v := pt B 0) rfl (hS17.se [1, 2, 4]) (fun w' hw' => (ym (pt B 0) rfl (hf.g 0 0))) ?_
  refine rq 2 30 (v := pt B 0) rfl (hS17.se [1, 2, 4]) (fun w' hw' => (Y_nilCheck (B := B) (i := 0) rfl rfl)) ?_
  refine rq 3 31 (v := pt B 3) rfl (hS17.se [1, 2, 4]) (fun w' hw' => (yd B 0 0 K49 K17)) ?_
  refine rq 5 33 (v := .agg #[vi kind, vi a, vi b]) rfl (hS17.se [1, 2, 4]) (fun w' hw' => (yb (aD b1) 0 [vi kind, vi a, vi b] K26 K13 (ST.cf hw' (i := 2) rfl) rfl (hf.g 8 1))) ?_
  refine rA [4, 6] ?_
  refine ra_y 32 (i := 4) (v := .slice B3 r_.out.length c2) rfl rfl rfl (yl B 3 [vi r_2.Qubits, .slice B11 r_2.XImages.length c10, .slice B12 r_2.ZImages.length c11, .slice B3 r_.out.length c2] (.slice B3 r_.out.length c2) K22 (hS17.c 0)) (hS17.se [1, 2, 4]) ?_ ?_
  ·skip
   refine rA [6] ?_
   refine rS 34 6 rfl (Ys_bslice (s := 3) (len := 1) (vs := [(0, .agg #[vi kind, vi a, vi b])]) (cs := [vi kind, vi a, vi b]) (zs := [vi 0, vi 0, vi 0]) (m := 3) hS17 K15 K13 K48 rfl (mpc rfl mpn) rfl rfl rfl (by kernel_rfl) (by kernel_rfl) rfl) ?_ ?_
   ·rintro _ w_11 ⟨b2, rfl, hS18⟩
    refine ⟨(hS18.se [1, 2, 4]), ?_⟩
    refine rA [7] ?_
    refine rS 35 7 rfl (Ys_append (s := 3) (by' := 24) (i := 3) (nn := r_.out.length) (c := c2) (k := 1) (len := (r_.out ++ [(TGate.mk kind a b)]).length) (B := B3) (xs := ([(TGate.mk kind a b)].flatMap eN2)) (cs' := ((r_.out ++ [(TGate.mk kind a b)]).flatMap eN2)) hS18 K15 K13 K45 K28 rfl (by decide) rfl rfl rfl rfl (fm_lenn (l := r_.out) eN4 rfl) rfl (hS18.c 5) (fm_lenn (l := [(TGate.mk kind a b)]) eN4 rfl) (fm_one' (enc := eN2) enc_Gate_one [(TGate.mk kind a b)]) (by have := hap; omega) (by have := hap; simp only [maxLen]; omega) (fm_app _ _) (app_len (l := r_.out) (l' := [(TGate.mk kind a b)]) rfl rfl)) ?_ ?_
    ·rintro _ w_12 ⟨B13, c12, rfl, hS19⟩
     refine ⟨(hS19.se [1, 2, 4]), ?_⟩
     refine rq 8 36 (v := pt B 0) rfl (hS19.se [1, 2, 4]) (fun w' hw' => (Y_nilCheck (B := B) (i := 0) rfl rfl)) ?_
     refine rq 9 37 (v := pt B 3) rfl (hS19.se [1, 2, 4]) (fun w' hw' => (yd B 0 0 K49 K17)) ?_
     refine rA [10] ?_
     refine rZ 10 rfl (yS 0 1 B 52 (.slice B13 ((r_.out ++ [(TGate.mk kind a b)]).length) c12) [.slice B13 ((r_.out ++ [(TGate.mk kind a b)]).length) c12] 3 [vi r_2.Qubits, .slice B11 r_2.XImages.length c10, .slice B12 r_2.ZImages.length c11, .slice B13 ((r_.out ++ [(TGate.mk kind a b)]).length) c12] hS19 K17) ?_ ?_
     ·rintro _ w_13 ⟨rfl, hS20⟩
      refine ⟨(hS20.se [1, 2, 4]), ?_⟩
      refine ra_done (by kernel_rfl) ?_
      exact ⟨B13, c12, fn_, (hS20.sel [0, 1, 2, 3] rfl rfl)⟩
     exact aN
    exact aN
   exact aN
  refine rS 34 6 rfl (Ys_bslice (s := 3) (len := 1) (vs := [(0, .agg #[vi kind, vi a, vi b])]) (cs := [vi kind, vi a, vi b]) (zs := [vi 0, vi 0, vi 0]) (m := 3) hS17 K15 K13 K48 rfl (mpc rfl mpn) rfl rfl rfl (by kernel_rfl) (by kernel_rfl) rfl) ?_ ?_
  ·rintro _ w_14 ⟨b2, rfl, hS21⟩
   refine ⟨(hS21.se [1, 2, 4]), ?_⟩
   refine rA [4] ?_
   refine ra_y 32 (i := 4) (v := .slice B3 r_.out.length c2) rfl rfl rfl (yl B 3 [vi r_2.Qubits, .slice B11 r_2.XImages.length c10, .slice B12 r_2.ZImages.length c11, .slice B3 r_.out.length c2] (.slice B3 r_.out.length c2) K22 (hS21.c 0)) (hS21.se [1, 2, 4]) ?_ ?_
   ·skip
    refine rA [7] ?_
    refine rS 35 7 rfl (Ys_append (s := 3) (by' := 24) (i := 3) (nn := r_.out.length) (c := c2) (k := 1) (len := (r_.out ++ [(TGate.mk kind a b)]).length) (B := B3) (xs := ([(TGate.mk kind a b)].flatMap eN2)) (cs' := ((r_.out ++ [(TGate.mk kind a b)]).flatMap eN2)) hS21 K15 K13 K45 K28 rfl (by decide) rfl rfl rfl rfl (fm_lenn (l := r_.out) eN4 rfl) rfl (hS21.c 5) (fm_lenn (l := [(TGate.mk kind a b)]) eN4 rfl) (fm_one' (enc := eN2) enc_Gate_one [(TGate.mk kind a b)]) (by have := hap; omega) (by have := hap; simp only [maxLen]; omega) (fm_app _ _) (app_len (l := r_.out) (l' := [(TGate.mk kind a b)]) rfl rfl)) ?_ ?_
    ·rintro _ w_15 ⟨B13, c12, rfl, hS22⟩
     refine ⟨(hS22.se [1, 2, 4]), ?_⟩
     refine rq 8 36 (v := pt B 0) rfl (hS22.se [1, 2, 4]) (fun w' hw' => (Y_nilCheck (B := B) (i := 0) rfl rfl)) ?_
     refine rq 9 37 (v := pt B 3) rfl (hS22.se [1, 2, 4]) (fun w' hw' => (yd B 0 0 K49 K17)) ?_
     refine rA [10] ?_
     refine rZ 10 rfl (yS 0 1 B 52 (.slice B13 ((r_.out ++ [(TGate.mk kind a b)]).length) c12) [.slice B13 ((r_.out ++ [(TGate.mk kind a b)]).length) c12] 3 [vi r_2.Qubits, .slice B11 r_2.XImages.length c10, .slice B12 r_2.ZImages.length c11, .slice B13 ((r_.out ++ [(TGate.mk kind a b)]).length) c12] hS22 K17) ?_ ?_
     ·rintro _ w_16 ⟨rfl, hS23⟩
      refine ⟨(hS23.se [1, 2, 4]), ?_⟩
      refine ra_done (by kernel_rfl) ?_
      exact ⟨B13, c12, fn_, (hS23.sel [0, 1, 2, 3] rfl rfl)⟩
     exact aN
    exact aN
   exact aN
  exact aN
 rintro f w ⟨B14, c13, hf1, hS16⟩
 obtain rfl := sI hF
 exact ret0 Try.results39  ⟨B11, c10, B12, c11, B14, c13, rfl, (hS16.sN [0, 1, 2, 3])⟩
end Go.VK
