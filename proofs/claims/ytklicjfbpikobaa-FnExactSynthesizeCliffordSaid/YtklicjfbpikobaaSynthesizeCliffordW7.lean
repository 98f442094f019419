/- Walks: each Go function returns what its Lean function says. By program. -/
import Derived.Test.YtklicjfbpikobaaSynthesizeCliffordFa
import Derived.Test.YtklicjfbpikobaaSynthesizeCliffordShelf
import Derived.Test.YtklicjfbpikobaaLibQ
import Derived.Test.YtklicjfbpikobaaSynthesizeCliffordW6
set_option linter.unusedVariables false
set_option maxRecDepth 100000
set_option maxHeartbeats 4000000
namespace Go.VK
open Go.RowKit
open Go.Proofs
open Go.IntKind
attribute [local irreducible] CW RW RA CV Y Yw Yc Ys RetOf
attribute [local irreducible] F_laws_szTableau F_spec_SynthesizeClifford F_laws_toTableau F_impl_SynthesizeClifford F_laws_eqCircuit F_laws_eqTableau F_laws_markTableau F_laws_markCircuit F_laws_heldCircuit F_laws_FnExactSynthesizeClifford
theorem c_laws_FnExactSynthesizeClifford (aT : TTableau) (B : Option Addr) (c n : Nat) (B1 : Option Addr) (c1 n1 : Nat) (w0 : World) (hn : aT.XImages.length = n) (hn1 : aT.ZImages.length = n1) (hS : ST w0 [] w0 [] [⟨B, (aT.XImages.flatMap eN0)⟩, ⟨B1, (aT.ZImages.flatMap eN0)⟩]) {r_ : Bool} (hF : F_laws_FnExactSynthesizeClifford aT = some r_) :
  CV Try.prog 3 #[.agg #[vi aT.Qubits, .slice B n c, .slice B1 n1 c1]] w0 (fun v w' => v = .bool r_ ∧ ST w0 [] w' [] []) := by
 subst hn
 subst hn1
 unfold F_laws_FnExactSynthesizeClifford at hF
 refine cv_of_cw 96 Try.func3 rfl Try.ntmps3 rfl ?_
 refine cq (cr ?_)
 refine sS 1 (yB 24 (.agg #[vi aT.Qubits, .slice B aT.XImages.length c, .slice B1 aT.ZImages.length c1]) [vi aT.Qubits, .slice B aT.XImages.length c, .slice B1 aT.ZImages.length c1] 3 hS) ?_
 rintro _ w_ ⟨b, rfl, hS1⟩
 refine sQ 2 (yg (.bool false)) (rn (cq (cr ?_)))
 refine sQ 3 (yg (vi 1048576)) (rn (cq (cr ?_)))
 refine sQ 14 (yb (aD b) 0 [vi aT.Qubits, .slice B aT.XImages.length c, .slice B1 aT.ZImages.length c1] K61 K62 (hS1.c 0)) <| sQ 15 (ym (vi 1048576)) ?_
 obtain ⟨r_1, hc, hF⟩ := bI hF
 refine sc 16 rfl rfl (yC [.agg #[vi aT.Qubits, .slice B aT.XImages.length c, .slice B1 aT.ZImages.length c1], vi 1048576] k_call_7 (c_laws_szTableau aT 1048576 B c aT.XImages.length B1 c1 aT.ZImages.length _ rfl rfl (hS1.inn0 [(true, 0), (true, 1)] rfl) hc)) ?_
 rintro _ w_1 ⟨rfl, hd⟩
 have hS2 := hS1.out00 hd
 refine sQ 3 (yg (vi r_1)) (rn (cq (cq (cr ?_))))
 refine sQ 17 (ym (vi r_1)) <| sQ 18 (yL r_1 0) (rn ?_)
 refine cw_cond (b := (decide (r_1 < 0))) rfl (fun hb => ?_) (fun hb => ?_)
 ·skip
  have hF1 := ct hF hb
  refine cq (cr ?_)
  refine sQ 2 (yg (.bool true)) (rn (ct_ ?_))
  obtain rfl := sI hF1
  exact ret1 Try.results3 (v1 := .bool true) (resAt_tmp rfl) ⟨rfl, (hS2.sN [])⟩
 ·skip
  have hF2 := cf' hF hb
  refine cw_skip (cq (cr ?_))
  refine sQ 20 (yb (aD b) 0 [vi aT.Qubits, .slice B aT.XImages.length c, .slice B1 aT.ZImages.length c1] K61 K62 (hS2.c 0)) ?_
  obtain ⟨r_2, hc1, hF2⟩ := bI hF2
  refine sc 21 rfl rfl (yC [.agg #[vi aT.Qubits, .slice B aT.XImages.length c, .slice B1 aT.ZImages.length c1]] K76 (c_laws_toTableau aT B c aT.XImages.length B1 c1 aT.ZImages.length _ rfl rfl (hS2.inn0 [(true, 0), (true, 1)] rfl) hc1)) ?_
  rintro _ w_2 ⟨B2, c2, B3, c3, rfl, hd1⟩
  have hS3 := hS2.out0 hd1
  obtain ⟨⟨r_3, r_4⟩, hc2, hF2⟩ := bI hF2
  refine sc 22 rfl rfl (yC [.agg #[vi r_2.Qubits, .slice B2 r_2.XImages.length c2, .slice B3 r_2.ZImages.length c3]] k_call_8 (c_spec_SynthesizeClifford r_2 B2 c2 r_2.XImages.length B3 c3 r_2.ZImages.length _ rfl (hS3.lencap (i := 1) rfl (fm_lenn (l := r_2.XImages) eN1 rfl) rfl rfl) rfl (hS3.lencap (i := 2) rfl (fm_lenn (l := r_2.ZImages) eN1 rfl) rfl rfl) (hS3.inn0 [(false, 1), (false, 2)] rfl) hc2)) ?_
  rintro _ w_3 ⟨B4, c4, rfl, hd2⟩
  have hS4 := hS3.out0 hd2
  have hS4 : ST w0 [] _ [⟨aD b, 24, [vi aT.Qubits, .slice B aT.XImages.length c, .slice B1 aT.ZImages.length c1], 3⟩, ⟨B2, 111, (r_2.XImages.flatMap eN0), c2 * 3⟩, ⟨B3, 111, (r_2.ZImages.flatMap eN0), c3 * 3⟩, ⟨B4, 76, (r_3.Gates.flatMap eN2), c4 * 3⟩] [⟨B, (aT.XImages.flatMap eN0)⟩, ⟨B1, (aT.ZImages.flatMap eN0)⟩] := hS4
  refine sQ 19 (ym (.tuple #[.agg #[vi r_3.Qubits, .slice B4 r_3.Gates.length c4], .bool r_4])) <| sQ 23 (ye (.agg #[vi r_3.Qubits, .slice B4 r_3.Gates.length c4])) <| sQ 24 (ye (.bool r_4)) ?_
  refine sS 4 (yN [vi 0, .slice none 0 0] 2 hS4 K40) ?_
  rintro _ w_4 ⟨b1, rfl, hS5⟩
  refine s0 (yT 4 2 (aD b1) 28 (.agg #[vi r_3.Qubits, .slice B4 r_3.Gates.length c4]) [vi r_3.Qubits, .slice B4 r_3.Gates.length c4] 0 hS5 K21) ?_
  rintro _ w_5 ⟨rfl, hS6⟩
  have hS6 : ST w0 [] _ [⟨aD b, 24, [vi aT.Qubits, .slice B aT.XImages.length c, .slice B1 aT.ZImages.length c1], 3⟩, ⟨B2, 111, (r_2.XImages.flatMap eN0), c2 * 3⟩, ⟨B3, 111, (r_2.ZImages.flatMap eN0), c3 * 3⟩, ⟨B4, 76, (r_3.Gates.flatMap eN2), c4 * 3⟩, ⟨aD b1, 28, [vi r_3.Qubits, .slice B4 r_3.Gates.length c4], 2⟩] [⟨B, (aT.XImages.flatMap eN0)⟩, ⟨B1, (aT.ZImages.flatMap eN0)⟩] := hS6
  refine sQ 5 (yg (.bool r_4)) (rn (cq (cr ?_)))
  refine sQ 25 (yb (aD b) 0 [vi aT.Qubits, .slice B aT.XImages.length c, .slice B1 aT.ZImages.length c1] K61 K62 (hS6.c 0)) ?_
  obtain ⟨r_5, hc3, hF2⟩ := bI hF2
  refine sc 26 rfl rfl (yC [.agg #[vi aT.Qubits, .slice B aT.XImages.length c, .slice B1 aT.ZImages.length c1]] K76 (c_laws_toTableau aT B c aT.XImages.length B1 c1 aT.ZImages.length _ rfl rfl (hS6.inn0 [(true, 0), (true, 1)] rfl) hc3)) ?_
  rintro _ w_6 ⟨B5, c5, B6, c6, rfl, hd3⟩
  have hS7 := hS6.out0 hd3
  refine sS 6 (yN [vi 0, .slice none 0 0, .slice none 0 0] 3 hS7 K31) ?_
  rintro _ w_7 ⟨b2, rfl, hS8⟩
  have hS8 : ST w0 [] _ [⟨aD b, 24, [vi aT.Qubits, .slice B aT.XImages.length c, .slice B1 aT.ZImages.length c1], 3⟩, ⟨B2, 111, (r_2.XImages.flatMap eN0), c2 * 3⟩, ⟨B3, 111, (r_2.ZImages.flatMap eN0), c3 * 3⟩, ⟨B4, 76, (r_3.Gates.flatMap eN2), c4 * 3⟩, ⟨aD b1, 28, [vi r_3.Qubits, .slice B4 r_3.Gates.length c4], 2⟩, ⟨B5, 111, (r_5.XImages.flatMap eN0), c5 * 3⟩, ⟨B6, 111, (r_5.ZImages.flatMap eN0), c6 * 3⟩, ⟨aD b2, 33, [vi 0, .slice none 0 0, .slice none 0 0], 3⟩] [⟨B, (aT.XImages.flatMap eN0)⟩, ⟨B1, (aT.ZImages.flatMap eN0)⟩] := hS8
  refine s0 (yT 7 3 (aD b2) 33 (.agg #[vi r_5.Qubits, .slice B5 r_5.XImages.length c5, .slice B6 r_5.ZImages.length c6]) [vi r_5.Qubits, .slice B5 r_5.XImages.length c5, .slice B6 r_5.ZImages.length c6] 0 hS8 K11) ?_
  rintro _ w_8 ⟨rfl, hS9⟩
  refine rn (cq (cr ?_))
  refine sQ 28 (yb (aD b2) 0 [vi r_5.Qubits, .slice B5 r_5.XImages.length c5, .slice B6 r_5.ZImages.length c6] K20 K11 (hS9.c 7)) ?_
  obtain ⟨⟨r_6, r_7⟩, hc4, hF2⟩ := bI hF2
  refine sc 29 rfl rfl (yC [.agg #[vi r_5.Qubits, .slice B5 r_5.XImages.length c5, .slice B6 r_5.ZImages.length c6]] k_call_10 (c_impl_SynthesizeClifford r_5 B5 c5 r_5.XImages.length B6 c6 r_5.ZImages.length _ rfl (hS9.lencap (i := 5) rfl (fm_lenn (l := r_5.XImages) eN1 rfl) rfl rfl) rfl (hS9.lencap (i := 6) rfl (fm_lenn (l := r_5.ZImages) eN1 rfl) rfl rfl) (hS9.inn0 [(false, 5), (false, 6)] rfl) hc4)) ?_
  rintro _ w_9 ⟨B7, c7, rfl, hd4⟩
  have hS10 := hS9.out0 hd4
  have hS10 : ST w0 [] _ [⟨aD b, 24, [vi aT.Qubits, .slice B aT.XImages.length c, .slice B1 aT.ZImages.length c1], 3⟩, ⟨B2, 111, (r_2.XImages.flatMap eN0), c2 * 3⟩, ⟨B3, 111, (r_2.ZImages.flatMap eN0), c3 * 3⟩, ⟨B4, 76, (r_3.Gates.flatMap eN2), c4 * 3⟩, ⟨aD b1, 28, [vi r_3.Qubits, .slice B4 r_3.Gates.length c4], 2⟩, ⟨B5, 111, (r_5.XImages.flatMap eN0), c5 * 3⟩, ⟨B6, 111, (r_5.ZImages.flatMap eN0), c6 * 3⟩, ⟨aD b2, 33, [vi r_5.Qubits, .slice B5 r_5.XImages.length c5, .slice B6 r_5.ZImages.length c6], 3⟩, ⟨B7, 76, (r_6.Gates.flatMap eN2), c7 * 3⟩] [⟨B, (aT.XImages.flatMap eN0)⟩, ⟨B1, (aT.ZImages.flatMap eN0)⟩] := hS10
  refine sQ 27 (ym (.tuple #[.agg #[vi r_6.Qubits, .slice B7 r_6.Gates.length c7], .bool r_7])) <| sQ 30 (ye (.agg #[vi r_6.Qubits, .slice B7 r_6.Gates.length c7])) <| sQ 31 (ye (.bool r_7)) ?_
  refine sS 7 (yN [vi 0, .slice none 0 0] 2 hS10 K40) ?_
  rintro _ w_10 ⟨b3, rfl, hS11⟩
  refine s0 (yT 9 2 (aD b3) 28 (.agg #[vi r_6.Qubits, .slice B7 r_6.Gates.length c7]) [vi r_6.Qubits, .slice B7 r_6.Gates.length c7] 0 hS11 K21) ?_
  rintro _ w_11 ⟨rfl, hS12⟩
  have hS12 : ST w0 [] _ [⟨aD b, 24, [vi aT.Qubits, .slice B aT.XImages.length c, .slice B1 aT.ZImages.length c1], 3⟩, ⟨B2, 111, (r_2.XImages.flatMap eN0), c2 * 3⟩, ⟨B3, 111, (r_2.ZImages.flatMap eN0), c3 * 3⟩, ⟨B4, 76, (r_3.Gates.flatMap eN2), c4 * 3⟩, ⟨aD b1, 28, [vi r_3.Qubits, .slice B4 r_3.Gates.length c4], 2⟩, ⟨B5, 111, (r_5.XImages.flatMap eN0), c5 * 3⟩, ⟨B6, 111, (r_5.ZImages.flatMap eN0), c6 * 3⟩, ⟨aD b2, 33, [vi r_5.Qubits, .slice B5 r_5.XImages.length c5, .slice B6 r_5.ZImages.length c6], 3⟩, ⟨B7, 76, (r_6.Gates.flatMap eN2), c7 * 3⟩, ⟨aD b3, 28, [vi r_6.Qubits, .slice B7 r_6.Gates.length c7], 2⟩] [⟨B, (aT.XImages.flatMap eN0)⟩, ⟨B1, (aT.ZImages.flatMap eN0)⟩] := hS12
  refine sQ 8 (yg (.bool r_7)) (rn (cq (cq (cr ?_))))
  refine sQ 32 (yb (aD b3) 0 [vi r_6.Qubits, .slice B7 r_6.Gates.length c7] K33 K21 (hS12.c 9)) <| sQ 33 (yb (aD b1) 0 [vi r_3.Qubits, .slice B4 r_3.Gates.length c4] K33 K21 (hS12.c 4)) ?_
  obtain ⟨r_8, hc5, hF2⟩ := bI hF2
  refine sc 34 rfl rfl (yC [.agg #[vi r_6.Qubits, .slice B7 r_6.Gates.length c7], .agg #[vi r_3.Qubits, .slice B4 r_3.Gates.length c4]] K81 (c_laws_eqCircuit r_6 r_3 B7 c7 r_6.Gates.length B4 c4 r_3.Gates.length _ rfl rfl (hS12.inn0 [(false, 8), (false, 3)] rfl) hc5)) ?_
  rintro _ w_12 ⟨rfl, hd5⟩
  have hS13 := hS12.out00 hd5
  refine sQ 35 (Y_not (p := r_8) rfl rfl) <| sQ 36 (ym (.bool (!r_8))) ?_
  refine sgq 37 (B := (!(!r_8))) (v := .bool r_7) rfl rfl (uF_ 36) (fun hg => (ym (.bool r_7))) ?_
  refine sgq 38 (B := (!(!r_8))) (v := .bool r_4) rfl rfl (uF_ 36) (fun hg1 => (ym (.bool r_4))) ?_
  refine sgq 39 (B := (!(!r_8))) (v := .bool (!(r_7 == r_4))) rfl rfl (uF_ 36) (fun hg2 => (Y_bne (p := r_7) (q := r_4) K57 rfl (gv_of (v := .bool r_7) hg2) (gv_of (v := .bool r_4) hg2))) ?_
  refine sQ 40 (Y_or (b := (!r_8)) (z := (!(r_7 == r_4))) rfl rfl rfl rfl) (rn ?_)
  refine cw_cond (b := ((!r_8) || (!(r_7 == r_4)))) rfl (fun hb1 => ?_) (fun hb1 => ?_)
  ·skip
   have hF3 := ct hF2 hb1
   refine cq (cr ?_)
   refine sQ 2 (yg (.bool false)) (rn (ct_ ?_))
   obtain rfl := sI hF3
   exact ret1 Try.results3 (v1 := .bool false) (resAt_tmp rfl) ⟨rfl, (hS13.sN [])⟩
  ·skip
   have hF4 := cf' hF2 hb1
   refine cw_skip (cq (cq ?_))
   obtain ⟨r_9, hc6, hF4⟩ := bI hF4
   obtain ⟨r_10, hc7, hF4⟩ := bI hF4
   refine ra_start (hS13.se [0, 1, 2, 3, 4, 5, 6, 7, 8, 9]).fn (by kernel_rfl) ?_
   have hS16 := hS13.drew
   refine rq 0 41 (v := .agg #[vi r_5.Qubits, .slice B5 r_5.XImages.length c5, .slice B6 r_5.ZImages.length c6]) rfl (hS16.se [0, 1, 2, 3, 4, 5, 6, 7, 8, 9]) (fun w' hw' => (yb (aD b2) 0 [vi r_5.Qubits, .slice B5 r_5.XImages.length c5, .slice B6 r_5.ZImages.length c6] K20 K11 (ST.cf hw' (i := 7) rfl))) ?_
   refine rq 1 42 (v := .agg #[vi aT.Qubits, .slice B aT.XImages.length c, .slice B1 aT.ZImages.length c1]) rfl (hS16.se [0, 1, 2, 3, 4, 5, 6, 7, 8, 9]) (fun w' hw' => (yb (aD b) 0 [vi aT.Qubits, .slice B aT.XImages.length c, .slice B1 aT.ZImages.length c1] K61 K62 (ST.cf hw' (i := 0) rfl))) ?_
   refine rA [2] ?_
   refine rC 43 2 rfl (yC [.agg #[vi aT.Qubits, .slice B aT.XImages.length c, .slice B1 aT.ZImages.length c1]] K76 (c_laws_toTableau aT B c aT.XImages.length B1 c1 aT.ZImages.length _ rfl rfl (hS16.inn0 [(true, 0), (true, 1)] rfl) hc6)) ?_ ?_
   ·rintro _ w_13 ⟨B8, c8, B9, c9, rfl, hd6⟩
    have hS17 := hS16.out0 hd6
    have hS17 : ST w0 [] _ [⟨aD b, 24, [vi aT.Qubits, .slice B aT.XImages.length c, .slice B1 aT.ZImages.length c1], 3⟩, ⟨B2, 111, (r_2.XImages.flatMap eN0), c2 * 3⟩, ⟨B3, 111, (r_2.ZImages.flatMap eN0), c3 * 3⟩, ⟨B4, 76, (r_3.Gates.flatMap eN2), c4 * 3⟩, ⟨aD b1, 28, [vi r_3.Qubits, .slice B4 r_3.Gates.length c4], 2⟩, ⟨B5, 111, (r_5.XImages.flatMap eN0), c5 * 3⟩, ⟨B6, 111, (r_5.ZImages.flatMap eN0), c6 * 3⟩, ⟨aD b2, 33, [vi r_5.Qubits, .slice B5 r_5.XImages.length c5, .slice B6 r_5.ZImages.length c6], 3⟩, ⟨B7, 76, (r_6.Gates.flatMap eN2), c7 * 3⟩, ⟨aD b3, 28, [vi r_6.Qubits, .slice B7 r_6.Gates.length c7], 2⟩, ⟨B8, 111, (r_9.XImages.flatMap eN0), c8 * 3⟩, ⟨B9, 111, (r_9.ZImages.flatMap eN0), c9 * 3⟩] [⟨B, (aT.XImages.flatMap eN0)⟩, ⟨B1, (aT.ZImages.flatMap eN0)⟩] := hS17
    refine ⟨(hS17.se [0, 1, 2, 3, 4, 5, 6, 7, 8, 9]), ?_⟩
    refine rA [3] ?_
    refine rC 44 3 rfl (yC [.agg #[vi r_5.Qubits, .slice B5 r_5.XImages.length c5, .slice B6 r_5.ZImages.length c6], .agg #[vi r_9.Qubits, .slice B8 r_9.XImages.length c8, .slice B9 r_9.ZImages.length c9]] k_call_12 (c_laws_eqTableau r_5 r_9 B5 c5 r_5.XImages.length B6 c6 r_5.ZImages.length B8 c8 r_9.XImages.length B9 c9 r_9.ZImages.length _ rfl rfl rfl rfl (hS17.inn0 [(false, 5), (false, 6), (false, 10), (false, 11)] rfl) hc7)) ?_ ?_
    ·rintro _ w_14 ⟨rfl, hd7⟩
     have hS18 := hS17.out00 hd7
     refine ⟨(hS18.se [0, 1, 2, 3, 4, 5, 6, 7, 8, 9]), ?_⟩
     refine rq 4 45 (v := .bool (!r_10)) rfl (hS18.se [0, 1, 2, 3, 4, 5, 6, 7, 8, 9]) (fun w' hw' => (Y_not (p := r_10) rfl rfl)) ?_
     refine ra_done (by kernel_rfl) ?_
     refine cw_cond (b := (!r_10)) rfl (fun hb2 => ?_) (fun hb2 => ?_)
     ·skip
      have hF5 := ct hF4 hb2
      refine cq (cr ?_)
      refine sQ 2 (yg (.bool false)) (rn (ct_ ?_))
      obtain rfl := sI hF5
      exact ret1 Try.results3 (v1 := .bool false) (resAt_tmp rfl) ⟨rfl, (hS18.sN [])⟩
     ·skip
      have hF6 := cf' hF4 hb2
      refine cw_skip (cq (cr ?_))
      refine sQ 9 (yg (vi 1)) (rn (cq (cr ?_)))
      refine sQ 46 (yb (aD b2) 0 [vi r_5.Qubits, .slice B5 r_5.XImages.length c5, .slice B6 r_5.ZImages.length c6] K20 K11 (hS18.c 7)) <| sQ 47 (ym (vi 1)) ?_
      obtain ⟨⟨r_11, m, m1⟩, hc8, hF6⟩ := bI hF6
      refine sc 48 rfl rfl (yC [.agg #[vi r_5.Qubits, .slice B5 r_5.XImages.length c5, .slice B6 r_5.ZImages.length c6], vi 1] k_call_13 (c_laws_markTableau r_5 1 B5 c5 r_5.XImages.length B6 c6 r_5.ZImages.length _ rfl rfl (hS18.inn [false, false, false, false, false, true, true, false, false, false, false, false] rfl [] rfl) hc8)) ?_
      rintro _ w_15 ⟨rfl, hl, hl1, hd8⟩
      have hS19 := hS18.out [false, false, false, false, false, true, true, false, false, false, false, false] rfl hd8
      have hS19 : ST w0 [] _ [⟨aD b, 24, [vi aT.Qubits, .slice B aT.XImages.length c, .slice B1 aT.ZImages.length c1], 3⟩, ⟨B2, 111, (r_2.XImages.flatMap eN0), c2 * 3⟩, ⟨B3, 111, (r_2.ZImages.flatMap eN0), c3 * 3⟩, ⟨B4, 76, (r_3.Gates.flatMap eN2), c4 * 3⟩, ⟨aD b1, 28, [vi r_3.Qubits, .slice B4 r_3.Gates.length c4], 2⟩, ⟨aD b2, 33, [vi r_5.Qubits, .slice B5 r_5.XImages.length c5, .slice B6 r_5.ZImages.length c6], 3⟩, ⟨B7, 76, (r_6.Gates.flatMap eN2), c7 * 3⟩, ⟨aD b3, 28, [vi r_6.Qubits, .slice B7 r_6.Gates.length c7], 2⟩, ⟨B8, 111, (r_9.XImages.flatMap eN0), c8 * 3⟩, ⟨B9, 111, (r_9.ZImages.flatMap eN0), c9 * 3⟩, ⟨B5, 111, (m.flatMap eN0), c5 * 3⟩, ⟨B6, 111, (m1.flatMap eN0), c6 * 3⟩] [⟨B, (aT.XImages.flatMap eN0)⟩, ⟨B1, (aT.ZImages.flatMap eN0)⟩] := hS19
      refine sQ 9 (yg (vi r_11)) (rn (cq (cq (cr ?_))))
      refine sQ 49 (ym (vi r_11)) <| sQ 50 (yL r_11 0) <| sQ 51 (ym (.bool (decide (r_11 < 0)))) ?_
      refine sgq 52 (B := (!(decide (r_11 < 0)))) (v := .agg #[vi r_6.Qubits, .slice B7 r_6.Gates.length c7]) rfl rfl (uF_ 51) (fun hg3 => (yb (aD b3) 0 [vi r_6.Qubits, .slice B7 r_6.Gates.length c7] K33 K21 (hS19.c 7))) ?_
      refine sgq 53 (B := (!(decide (r_11 < 0)))) (v := .agg #[vi r_3.Qubits, .slice B4 r_3.Gates.length c4]) rfl rfl (uF_ 51) (fun hg4 => (yb (aD b1) 0 [vi r_3.Qubits, .slice B4 r_3.Gates.length c4] K33 K21 (hS19.c 4))) ?_
      obtain ⟨r_12, hc9, hF6⟩ := bI hF6
      refine sgc 54 (B := (!(decide (r_11 < 0)))) (v := .bool r_12) (F := hS19.fn) rfl rfl (uF_ 51) hS19 (fun hg5 => (yC [.agg #[vi r_6.Qubits, .slice B7 r_6.Gates.length c7], .agg #[vi r_3.Qubits, .slice B4 r_3.Gates.length c4]] K81 (CV.mono (c_laws_eqCircuit r_6 r_3 B7 c7 r_6.Gates.length B4 c4 r_3.Gates.length _ rfl rfl (hS19.inn0 [(false, 6), (false, 3)] rfl) (gb_inv hc9 hg5)) (by rintro _ _ ⟨rfl, h⟩; exact ⟨rfl, hS19.out00 h⟩)) rfl (mc (gv_of (v := .agg #[vi r_6.Qubits, .slice B7 r_6.Gates.length c7]) hg5) (mc (gv_of (v := .agg #[vi r_3.Qubits, .slice B4 r_3.Gates.length c4]) hg5) mn)))) ?_
      rintro w_16 hS20
      refine sgq 55 (B := (!(decide (r_11 < 0)))) (v := .bool (!r_12)) rfl rfl (uF_ 51) (fun hg6 => (Y_not (p := r_12) rfl (gv_of (v := .bool r_12) hg6))) ?_
      refine sQ 56 (Y_or (b := (decide (r_11 < 0))) (z := (!r_12)) rfl rfl rfl rfl) <| sQ 57 (ym (.bool ((decide (r_11 < 0)) || (!r_12)))) ?_
      refine sgq 58 (B := (!((decide (r_11 < 0)) || (!r_12)))) (v := .bool r_7) rfl rfl (uF_ 57) (fun hg7 => (ym (.bool r_7))) ?_
      refine sgq 59 (B := (!((decide (r_11 < 0)) || (!r_12)))) (v := .bool r_4) rfl rfl (uF_ 57) (fun hg8 => (ym (.bool r_4))) ?_
      refine sgq 60 (B := (!((decide (r_11 < 0)) || (!r_12)))) (v := .bool (!(r_7 == r_4))) rfl rfl (uF_ 57) (fun hg9 => (Y_bne (p := r_7) (q := r_4) K57 rfl (gv_of (v := .bool r_7) hg9) (gv_of (v := .bool r_4) hg9))) ?_
      refine sQ 61 (Y_or (b := ((decide (r_11 < 0)) || (!r_12))) (z := (!(r_7 == r_4))) rfl rfl rfl rfl) (rn ?_)
      refine cw_cond (b := (((decide (r_11 < 0)) || (!r_12)) || (!(r_7 == r_4)))) rfl (fun hb3 => ?_) (fun hb3 => ?_)
      ·skip
       have hF7 := ct hF6 hb3
       refine cq (cr ?_)
       refine sQ 2 (yg (.bool false)) (rn (ct_ ?_))
       obtain rfl := sI hF7
       exact ret1 Try.results3 (v1 := .bool false) (resAt_tmp rfl) ⟨rfl, (hS20.sN [])⟩
      ·skip
       have hF8 := cf' hF6 hb3
       refine cw_skip (cq (cr ?_))
       refine sQ 10 (yg (vi 1)) (rn (cq (cr ?_)))
       refine sQ 62 (yb (aD b3) 0 [vi r_6.Qubits, .slice B7 r_6.Gates.length c7] K33 K21 (hS20.c 7)) <| sQ 63 (ym (vi 1)) ?_
       obtain ⟨⟨r_13, m2⟩, hc10, hF8⟩ := bI hF8
       refine sc 64 rfl rfl (yC [.agg #[vi r_6.Qubits, .slice B7 r_6.Gates.length c7], vi 1] k_call_14 (c_laws_markCircuit r_6 1 B7 c7 r_6.Gates.length _ rfl (hS20.inn [false, false, false, false, false, false, true, false, false, false, false, false] rfl [] rfl) hc10)) ?_
       rintro _ w_17 ⟨rfl, hl2, hd9⟩
       have hS21 := hS20.out [false, false, false, false, false, false, true, false, false, false, false, false] rfl hd9
       have hS21 : ST w0 [] _ [⟨aD b, 24, [vi aT.Qubits, .slice B aT.XImages.length c, .slice B1 aT.ZImages.length c1], 3⟩, ⟨B2, 111, (r_2.XImages.flatMap eN0), c2 * 3⟩, ⟨B3, 111, (r_2.ZImages.flatMap eN0), c3 * 3⟩, ⟨B4, 76, (r_3.Gates.flatMap eN2), c4 * 3⟩, ⟨aD b1, 28, [vi r_3.Qubits, .slice B4 r_3.Gates.length c4], 2⟩, ⟨aD b2, 33, [vi r_5.Qubits, .slice B5 r_5.XImages.length c5, .slice B6 r_5.ZImages.length c6], 3⟩, ⟨aD b3, 28, [vi r_6.Qubits, .slice B7 r_6.Gates.length c7], 2⟩, ⟨B8, 111, (r_9.XImages.flatMap eN0), c8 * 3⟩, ⟨B9, 111, (r_9.ZImages.flatMap eN0), c9 * 3⟩, ⟨B5, 111, (m.flatMap eN0), c5 * 3⟩, ⟨B6, 111, (m1.flatMap eN0), c6 * 3⟩, ⟨B7, 76, (m2.flatMap eN2), c7 * 3⟩] [⟨B, (aT.XImages.flatMap eN0)⟩, ⟨B1, (aT.ZImages.flatMap eN0)⟩] := hS21
       refine sQ 10 (yg (vi r_13)) (rn (cq (cr ?_)))
       refine sQ 11 (yg (vi 1)) (rn (cq (cr ?_)))
       refine sQ 65 (yb (aD b3) 0 [vi r_6.Qubits, .slice B7 r_6.Gates.length c7] K33 K21 (hS21.c 6)) <| sQ 66 (ym (vi 1)) ?_
       obtain ⟨r_14, hc11, hF8⟩ := bI hF8
       refine sc 67 rfl rfl (yC [.agg #[vi r_6.Qubits, .slice B7 r_6.Gates.length c7], vi 1] k_call_15 (c_laws_heldCircuit (TCircuit.mk r_6.Qubits m2) 1 B7 c7 r_6.Gates.length _ hl2 (hS21.inn0 [(false, 11)] rfl) hc11)) ?_
       rintro _ w_18 ⟨rfl, hd10⟩
       have hS22 := hS21.out00 hd10
       refine sQ 11 (yg (vi r_14)) (rn (cq (cq (cr ?_))))
       refine sQ 68 (ym (vi r_14)) <| sQ 69 (yL r_14 0) (rn ?_)
       refine cw_cond (b := (decide (r_14 < 0))) rfl (fun hb4 => ?_) (fun hb4 => ?_)
       ·skip
        have hF9 := ct hF8 hb4
        refine cq (cr ?_)
        refine sQ 2 (yg (.bool false)) (rn (ct_ ?_))
        obtain rfl := sI hF9
        exact ret1 Try.results3 (v1 := .bool false) (resAt_tmp rfl) ⟨rfl, (hS22.sN [])⟩
       ·skip
        have hF10 := cf' hF8 hb4
        refine cw_skip (cq (cq (cr ?_)))
        refine sQ 70 (ym (vi r_14)) <| sQ 71 (ym (vi r_13)) <| sQ 72 (Y_ne (k := .i64) (a := r_14) (b := r_13) rfl rfl rfl) (rn ?_)
        refine cw_cond (b := (r_14 != r_13)) rfl (fun hb5 => ?_) (fun hb5 => ?_)
        ·skip
         have hF11 := ct hF10 hb5
         refine cq (cr ?_)
         refine sQ 2 (yg (.bool false)) (rn (ct_ ?_))
         obtain rfl := sI hF11
         exact ret1 Try.results3 (v1 := .bool false) (resAt_tmp rfl) ⟨rfl, (hS22.sN [])⟩
        ·skip
         have hF12 := cf' hF10 hb5
         refine cw_skip (cq (cr ?_))
         refine sQ 74 (yb (aD b) 0 [vi aT.Qubits, .slice B aT.XImages.length c, .slice B1 aT.ZImages.length c1] K61 K62 (hS22.c 0)) ?_
         obtain ⟨r_15, hc12, hF12⟩ := bI hF12
         refine sc 75 rfl rfl (yC [.agg #[vi aT.Qubits, .slice B aT.XImages.length c, .slice B1 aT.ZImages.length c1]] K76 (c_laws_toTableau aT B c aT.XImages.length B1 c1 aT.ZImages.length _ rfl rfl (hS22.inn0 [(true, 0), (true, 1)] rfl) hc12)) ?_
         rintro _ w_19 ⟨B10, c10, B11, c11, rfl, hd11⟩
         have hS23 := hS22.out0 hd11
         have hS23 : ST w0 [] _ [⟨aD b, 24, [vi aT.Qubits, .slice B aT.XImages.length c, .slice B1 aT.ZImages.length c1], 3⟩, ⟨B2, 111, (r_2.XImages.flatMap eN0), c2 * 3⟩, ⟨B3, 111, (r_2.ZImages.flatMap eN0), c3 * 3⟩, ⟨B4, 76, (r_3.Gates.flatMap eN2), c4 * 3⟩, ⟨aD b1, 28, [vi r_3.Qubits, .slice B4 r_3.Gates.length c4], 2⟩, ⟨aD b2, 33, [vi r_5.Qubits, .slice B5 r_5.XImages.length c5, .slice B6 r_5.ZImages.length c6], 3⟩, ⟨aD b3, 28, [vi r_6.Qubits, .slice B7 r_6.Gates.length c7], 2⟩, ⟨B8, 111, (r_9.XImages.flatMap eN0), c8 * 3⟩, ⟨B9, 111, (r_9.ZImages.flatMap eN0), c9 * 3⟩, ⟨B5, 111, (m.flatMap eN0), c5 * 3⟩, ⟨B6, 111, (m1.flatMap eN0), c6 * 3⟩, ⟨B7, 76, (m2.flatMap eN2), c7 * 3⟩, ⟨B10, 111, (r_15.XImages.flatMap eN0), c10 * 3⟩, ⟨B11, 111, (r_15.ZImages.flatMap eN0), c11 * 3⟩] [⟨B, (aT.XImages.flatMap eN0)⟩, ⟨B1, (aT.ZImages.flatMap eN0)⟩] := hS23
         obtain ⟨⟨r_16, r_17⟩, hc13, hF12⟩ := bI hF12
         refine sc 76 rfl rfl (yC [.agg #[vi r_15.Qubits, .slice B10 r_15.XImages.length c10, .slice B11 r_15.ZImages.length c11]] k_call_10 (c_impl_SynthesizeClifford r_15 B10 c10 r_15.XImages.length B11 c11 r_15.ZImages.length _ rfl (hS23.lencap (i := 12) rfl (fm_lenn (l := r_15.XImages) eN1 rfl) rfl rfl) rfl (hS23.lencap (i := 13) rfl (fm_lenn (l := r_15.ZImages) eN1 rfl) rfl rfl) (hS23.inn0 [(false, 12), (false, 13)] rfl) hc13)) ?_
         rintro _ w_20 ⟨B12, c12, rfl, hd12⟩
         have hS24 := hS23.out0 hd12
         refine sQ 73 (ym (.tuple #[.agg #[vi r_16.Qubits, .slice B12 r_16.Gates.length c12], .bool r_17])) <| sQ 77 (ye (.agg #[vi r_16.Qubits, .slice B12 r_16.Gates.length c12])) <| sQ 78 (ye (.bool r_17)) ?_
         refine sS 12 (yN [vi 0, .slice none 0 0] 2 hS24 K40) ?_
         rintro _ w_21 ⟨b4, rfl, hS25⟩
         have hS25 : ST w0 [] _ [⟨aD b, 24, [vi aT.Qubits, .slice B aT.XImages.length c, .slice B1 aT.ZImages.length c1], 3⟩, ⟨B2, 111, (r_2.XImages.flatMap eN0), c2 * 3⟩, ⟨B3, 111, (r_2.ZImages.flatMap eN0), c3 * 3⟩, ⟨B4, 76, (r_3.Gates.flatMap eN2), c4 * 3⟩, ⟨aD b1, 28, [vi r_3.Qubits, .slice B4 r_3.Gates.length c4], 2⟩, ⟨aD b2, 33, [vi r_5.Qubits, .slice B5 r_5.XImages.length c5, .slice B6 r_5.ZImages.length c6], 3⟩, ⟨aD b3, 28, [vi r_6.Qubits, .slice B7 r_6.Gates.length c7], 2⟩, ⟨B8, 111, (r_9.XImages.flatMap eN0), c8 * 3⟩, ⟨B9, 111, (r_9.ZImages.flatMap eN0), c9 * 3⟩, ⟨B5, 111, (m.flatMap eN0), c5 * 3⟩, ⟨B6, 111, (m1.flatMap eN0), c6 * 3⟩, ⟨B7, 76, (m2.flatMap eN2), c7 * 3⟩, ⟨B10, 111, (r_15.XImages.flatMap eN0), c10 * 3⟩, ⟨B11, 111, (r_15.ZImages.flatMap eN0), c11 * 3⟩, ⟨B12, 76, (r_16.Gates.flatMap eN2), c12 * 3⟩, ⟨aD b4, 28, [vi 0, .slice none 0 0], 2⟩] [⟨B, (aT.XImages.flatMap eN0)⟩, ⟨B1, (aT.ZImages.flatMap eN0)⟩] := hS25
         refine s0 (yT 15 2 (aD b4) 28 (.agg #[vi r_16.Qubits, .slice B12 r_16.Gates.length c12]) [vi r_16.Qubits, .slice B12 r_16.Gates.length c12] 0 hS25 K21) ?_
         rintro _ w_22 ⟨rfl, hS26⟩
         refine sQ 13 (yg (.bool r_17)) (rn (cq (cq (cr ?_))))
         refine sQ 79 (yb (aD b4) 0 [vi r_16.Qubits, .slice B12 r_16.Gates.length c12] K33 K21 (hS26.c 15)) <| sQ 80 (yb (aD b1) 0 [vi r_3.Qubits, .slice B4 r_3.Gates.length c4] K33 K21 (hS26.c 4)) ?_
         obtain ⟨r_18, hc14, hF12⟩ := bI hF12
         refine sc 81 rfl rfl (yC [.agg #[vi r_16.Qubits, .slice B12 r_16.Gates.length c12], .agg #[vi r_3.Qubits, .slice B4 r_3.Gates.length c4]] K81 (c_laws_eqCircuit r_16 r_3 B12 c12 r_16.Gates.length B4 c4 r_3.Gates.length _ rfl rfl (hS26.inn0 [(false, 14), (false, 3)] rfl) hc14)) ?_
         rintro _ w_23 ⟨rfl, hd13⟩
         have hS27 := hS26.out00 hd13
         have hS27 : ST w0 [] _ [⟨aD b, 24, [vi aT.Qubits, .slice B aT.XImages.length c, .slice B1 aT.ZImages.length c1], 3⟩, ⟨B2, 111, (r_2.XImages.flatMap eN0), c2 * 3⟩, ⟨B3, 111, (r_2.ZImages.flatMap eN0), c3 * 3⟩, ⟨B4, 76, (r_3.Gates.flatMap eN2), c4 * 3⟩, ⟨aD b1, 28, [vi r_3.Qubits, .slice B4 r_3.Gates.length c4], 2⟩, ⟨aD b2, 33, [vi r_5.Qubits, .slice B5 r_5.XImages.length c5, .slice B6 r_5.ZImages.length c6], 3⟩, ⟨aD b3, 28, [vi r_6.Qubits, .slice B7 r_6.Gates.length c7], 2⟩, ⟨B8, 111, (r_9.XImages.flatMap eN0), c8 * 3⟩, ⟨B9, 111, (r_9.ZImages.flatMap eN0), c9 * 3⟩, ⟨B5, 111, (m.flatMap eN0), c5 * 3⟩, ⟨B6, 111, (m1.flatMap eN0), c6 * 3⟩, ⟨B7, 76, (m2.flatMap eN2), c7 * 3⟩, ⟨B10, 111, (r_15.XImages.flatMap eN0), c10 * 3⟩, ⟨B11, 111, (r_15.ZImages.flatMap eN0), c11 * 3⟩, ⟨B12, 76, (r_16.Gates.flatMap eN2), c12 * 3⟩, ⟨aD b4, 28, [vi r_16.Qubits, .slice B12 r_16.Gates.length c12], 2⟩] [⟨B, (aT.XImages.flatMap eN0)⟩, ⟨B1, (aT.ZImages.flatMap eN0)⟩] := hS27
         refine sQ 82 (Y_not (p := r_18) rfl rfl) <| sQ 83 (ym (.bool (!r_18))) ?_
         refine sgq 84 (B := (!(!r_18))) (v := .bool r_17) rfl rfl (uF_ 83) (fun hg10 => (ym (.bool r_17))) ?_
         refine sgq 85 (B := (!(!r_18))) (v := .bool r_4) rfl rfl (uF_ 83) (fun hg11 => (ym (.bool r_4))) ?_
         refine sgq 86 (B := (!(!r_18))) (v := .bool (!(r_17 == r_4))) rfl rfl (uF_ 83) (fun hg12 => (Y_bne (p := r_17) (q := r_4) K57 rfl (gv_of (v := .bool r_17) hg12) (gv_of (v := .bool r_4) hg12))) ?_
         refine sQ 87 (Y_or (b := (!r_18)) (z := (!(r_17 == r_4))) rfl rfl rfl rfl) (rn ?_)
         refine cw_cond (b := ((!r_18) || (!(r_17 == r_4)))) rfl (fun hb6 => ?_) (fun hb6 => ?_)
         ·skip
          have hF13 := ct hF12 hb6
          refine cq (cr ?_)
          refine sQ 2 (yg (.bool false)) (rn (ct_ ?_))
          obtain rfl := sI hF13
          exact ret1 Try.results3 (v1 := .bool false) (resAt_tmp rfl) ⟨rfl, (hS27.sN [])⟩
         ·skip
          have hF14 := cf' hF12 hb6
          refine cw_skip (cq (cr ?_))
          refine sQ 11 (yg (vi 1)) (rn (cq (cr ?_)))
          refine sQ 88 (yb (aD b3) 0 [vi r_6.Qubits, .slice B7 r_6.Gates.length c7] K33 K21 (hS27.c 6)) <| sQ 89 (ym (vi 1)) ?_
          obtain ⟨r_19, hc15, hF14⟩ := bI hF14
          refine sc 90 rfl rfl (yC [.agg #[vi r_6.Qubits, .slice B7 r_6.Gates.length c7], vi 1] k_call_15 (c_laws_heldCircuit (TCircuit.mk r_6.Qubits m2) 1 B7 c7 r_6.Gates.length _ hl2 (hS27.inn0 [(false, 11)] rfl) hc15)) ?_
          rintro _ w_24 ⟨rfl, hd14⟩
          have hS28 := hS27.out00 hd14
          refine sQ 11 (yg (vi r_19)) (rn (cq (cq (cr ?_))))
          refine sQ 91 (ym (vi r_19)) <| sQ 92 (yL r_19 0) (rn ?_)
          refine cw_cond (b := (decide (r_19 < 0))) rfl (fun hb7 => ?_) (fun hb7 => ?_)
          ·skip
           have hF15 := ct hF14 hb7
           refine cq (cr ?_)
           refine sQ 2 (yg (.bool false)) (rn (ct_ ?_))
           obtain rfl := sI hF15
           exact ret1 Try.results3 (v1 := .bool false) (resAt_tmp rfl) ⟨rfl, (hS28.sN [])⟩
          ·skip
           have hF16 := cf' hF14 hb7
           refine cw_skip (cq (cq (cr ?_)))
           refine sQ 93 (ym (vi r_19)) <| sQ 94 (ym (vi r_13)) <| sQ 95 (Y_ne (k := .i64) (a := r_19) (b := r_13) rfl rfl rfl) (rn ?_)
           refine cw_cond (b := (r_19 != r_13)) rfl (fun hb8 => ?_) (fun hb8 => ?_)
           ·skip
            have hF17 := ct hF16 hb8
            refine cq (cr ?_)
            refine sQ 2 (yg (.bool false)) (rn (ct_ ?_))
            obtain rfl := sI hF17
            exact ret1 Try.results3 (v1 := .bool false) (resAt_tmp rfl) ⟨rfl, (hS28.sN [])⟩
           ·skip
            have hF18 := cf' hF16 hb8
            refine cw_skip (cq (cr ?_))
            refine sQ 2 (yg (.bool true)) (rn (ct_ ?_))
            obtain rfl := sI hF18
            exact ret1 Try.results3 (v1 := .bool true) (resAt_tmp rfl) ⟨rfl, (hS28.sN [])⟩
    exact aN
   exact aN
end Go.VK
