/- Walks: each Go function returns what its Lean function says. By program. -/
import Derived.Test.YtgacclcoghlhmaaNormalizeCliffordFa
import Derived.Test.YtgacclcoghlhmaaNormalizeCliffordShelf
import Derived.Test.YtgacclcoghlhmaaLibQ
import Derived.Test.YtgacclcoghlhmaaNormalizeCliffordW5
set_option linter.unusedVariables false
set_option maxRecDepth 100000
set_option maxHeartbeats 4000000
namespace Go.VK
open Go.RowKit
open Go.Proofs
open Go.IntKind
attribute [local irreducible] CW RW RA CV Y Yw Yc Ys RetOf
attribute [local irreducible] F_laws_szCircuit F_spec_NormalizeClifford F_laws_toCircuit F_impl_TableauOf F_impl_IsValidTableau F_impl_circuitIf F_impl_letterOf F_impl_reducer_add F_impl_SynthesizeClifford F_impl_NormalizeClifford F_laws_eqGate F_laws_eqGateS F_laws_eqCircuit F_laws_markGateS F_laws_markCircuit F_laws_heldGateS F_laws_heldCircuit F_laws_FnExactNormalizeClifford
theorem c_impl_SynthesizeClifford (t : TTableau) (B : Option Addr) (c n : Nat) (B1 : Option Addr) (c1 n1 : Nat) (w0 : World) (hn : t.XImages.length = n) (hq : n ≤ c) (hn1 : t.ZImages.length = n1) (hq1 : n1 ≤ c1) (hS : ST w0 [] w0 [] [⟨B, (t.XImages.flatMap eN0)⟩, ⟨B1, (t.ZImages.flatMap eN0)⟩]) {r_ : TCircuit} {r_1 : Bool} (hF : F_impl_SynthesizeClifford t = some (r_, r_1)) :
  CV Try.prog 17 #[.agg #[vi t.Qubits, .slice B n c, .slice B1 n1 c1]] w0 (fun v w' => ∃ (B2 : Option Addr) (c2 : Nat), v = .tuple #[.agg #[vi r_.Qubits, .slice B2 r_.Gates.length c2], .bool r_1] ∧ ST w0 [] w' [⟨B2, 55, (r_.Gates.flatMap eN2), c2 * 3⟩] []) := by
 subst hn
 subst hn1
 unfold F_impl_SynthesizeClifford at hF
 refine cv_of_cw 77 Try.func17 rfl Try.ntmps17 rfl ?_
 refine cq (cr ?_)
 refine sS 1 (yB 40 (.agg #[vi t.Qubits, .slice B t.XImages.length c, .slice B1 t.ZImages.length c1]) [vi t.Qubits, .slice B t.XImages.length c, .slice B1 t.ZImages.length c1] 3 hS) ?_
 rintro _ w_ ⟨b, rfl, hS1⟩
 refine sS 2 (yN [vi 0, .slice none 0 0] 2 hS1 K34) ?_
 rintro _ w_1 ⟨b1, rfl, hS2⟩
 refine sQ 3 (yg (.bool false)) (rn (cq (cq (cr ?_))))
 refine sQ 8 (yb (aD b) 0 [vi t.Qubits, .slice B t.XImages.length c, .slice B1 t.ZImages.length c1] K20 K10 (hS2.c 0)) ?_
 obtain ⟨r_2, hc, hF⟩ := bI hF
 refine sc 9 rfl rfl (yC [.agg #[vi t.Qubits, .slice B t.XImages.length c, .slice B1 t.ZImages.length c1]] k_call_31 (c_impl_IsValidTableau t B c t.XImages.length B1 c1 t.ZImages.length _ rfl rfl (hS2.inn0 [(true, 0), (true, 1)] rfl) hc)) ?_
 rintro _ w_2 ⟨rfl, hd⟩
 have hS3 := hS2.out00 hd
 refine sQ 10 (Y_not (p := r_2) rfl rfl) (rn ?_)
 refine cw_cond (b := (!r_2)) rfl (fun hb => ?_) (fun hb => ?_)
 ·skip
  have hF1 := ct hF hb
  refine cq (cr ?_)
  refine sQ 11 (Y_buildS (zs := [vi 0, .slice none 0 0]) (vs := []) (cs := [vi 0, .slice none 0 0]) K56 K34 rfl mpn rfl) ?_
  refine s0 (yT 1 2 (aD b1) 28 (.agg #[vi 0, .slice none 0 0]) [vi 0, .slice none 0 0] 0 hS3 K16) ?_
  rintro _ w_3 ⟨rfl, hS4⟩
  refine sQ 3 (yg (.bool false)) (rn (ct_ ?_))
  have hS5 := hS4.addNil 55
  obtain ⟨rfl, rfl⟩ := pr2 (sI hF1)
  exact ret2 Try.results17 (v1 := .agg #[vi 0, .slice none 0 0]) (resAt_cellA (B := aD b1) (i := 0) (cs := [vi 0, .slice none 0 0]) (vs := [vi 0, .slice none 0 0]) rfl K19 K16 (hS5.c 1) rfl rfl) (v2 := .bool false) (resAt_tmp rfl) ⟨none, 0, rfl, (hS5.sN [2])⟩
 ·skip
  have hF2 := cf' hF hb
  refine cw_skip (cq (cr ?_))
  refine sQ 12 (yb (aD b) 0 [vi t.Qubits, .slice B t.XImages.length c, .slice B1 t.ZImages.length c1] K20 K10 (hS3.c 0)) <| sQ 13 (Y_buildS (zs := [vi 0, .slice none 0 0, .slice none 0 0, .slice none 0 0]) (vs := [(0, .agg #[vi t.Qubits, .slice B t.XImages.length c, .slice B1 t.ZImages.length c1])]) (cs := [vi t.Qubits, .slice B t.XImages.length c, .slice B1 t.ZImages.length c1, .slice none 0 0]) k_pl_64 k_zero_64 rfl (mpc rfl mpn) rfl) ?_
  refine sS 14 (yB 64 (.agg #[vi t.Qubits, .slice B t.XImages.length c, .slice B1 t.ZImages.length c1, .slice none 0 0]) [vi t.Qubits, .slice B t.XImages.length c, .slice B1 t.ZImages.length c1, .slice none 0 0] 4 hS3) ?_
  rintro _ w_4 ⟨b2, rfl, hS6⟩
  have hS6 : ST w0 [] _ [⟨aD b, 40, [vi t.Qubits, .slice B t.XImages.length c, .slice B1 t.ZImages.length c1], 3⟩, ⟨aD b1, 28, [vi 0, .slice none 0 0], 2⟩, ⟨aD b2, 64, [vi t.Qubits, .slice B t.XImages.length c, .slice B1 t.ZImages.length c1, .slice none 0 0], 4⟩] [⟨B, (t.XImages.flatMap eN0)⟩, ⟨B1, (t.ZImages.flatMap eN0)⟩] := hS6
  refine sQ 4 (yg (pt (aD b2) 0)) (rn (cq (cq (cr ?_))))
  refine sQ 15 (yd (aD b) 0 0 K30 K3) <| sQ 16 (yl (aD b) 0 [vi t.Qubits, .slice B t.XImages.length c, .slice B1 t.ZImages.length c1] (vi t.Qubits) K4 (hS6.c 0)) <| sQ 17 (ym (vi 0)) (rn ?_)
  obtain ⟨z, hz, hF3⟩ := bI hF2
  have hS8 := hS6.addNil 55
  have hS9 : ST w0 [] _ [⟨aD b, 40, [vi t.Qubits, .slice B t.XImages.length c, .slice B1 t.ZImages.length c1], 3⟩, ⟨aD b1, 28, [vi 0, .slice none 0 0], 2⟩, ⟨aD b2, 64, [vi t.Qubits, .slice B t.XImages.length c, .slice B1 t.ZImages.length c1, .slice none 0 0], 4⟩, ⟨none, 55, ([].flatMap eN2), 0 * 3⟩] [⟨B1, (t.ZImages.flatMap eN0)⟩, ⟨B, (t.XImages.flatMap eN0)⟩, ⟨B, (t.XImages.flatMap eN0)⟩, ⟨B1, (t.ZImages.flatMap eN0)⟩] := ST.subR hS8 (sk 1 (sk 0 (sk 0 (sk 1 (fun _ h => by cases h)))))
  refine cw_block ?_
  refine cw_loop (fun k f w => ∃ (Qubits : Int) (XImages : List TPauli) (ZImages : List TPauli) (gates : List TGate) (t1 : Int) (B3 : Option Addr) (c3 : Nat) (B4 : Option Addr) (c4 : Nat) (B5 : Option Addr) (c5 : Nat), FF f [(1, pt (aD b) 0), (2, pt (aD b1) 0), (4, pt (aD b2) 0), (16, vi t.Qubits), (17, vi t1)] ∧ Org w0 [] [⟨B, (t.XImages.flatMap eN0)⟩, ⟨B1, (t.ZImages.flatMap eN0)⟩] [⟨B3, (XImages.flatMap eN0)⟩] ∧ XImages.length ≤ c3 ∧ Org w0 [] [⟨B, (t.XImages.flatMap eN0)⟩, ⟨B1, (t.ZImages.flatMap eN0)⟩] [⟨B4, (ZImages.flatMap eN0)⟩] ∧ ZImages.length ≤ c4 ∧ ST w0 [] w [⟨aD b, 40, [vi t.Qubits, .slice B t.XImages.length c, .slice B1 t.ZImages.length c1], 3⟩, ⟨aD b1, 28, [vi 0, .slice none 0 0], 2⟩, ⟨aD b2, 64, [vi Qubits, .slice B3 XImages.length c3, .slice B4 ZImages.length c4, .slice B5 gates.length c5], 4⟩, ⟨B5, 55, (gates.flatMap eN2), c5 * 3⟩] [⟨B4, (ZImages.flatMap eN0)⟩, ⟨B3, (XImages.flatMap eN0)⟩, ⟨B, (t.XImages.flatMap eN0)⟩, ⟨B1, (t.ZImages.flatMap eN0)⟩] ∧ whX (F_impl_SynthesizeClifford_l1 t) k (Qubits, XImages, ZImages, gates, t1) = some z) fuel ⟨t.Qubits, t.XImages, t.ZImages, [], 0, B, c, B1, c1, none, 0, (fc rfl (fc rfl (fc rfl (fc rfl (fc rfl fn_))))), (org_mem (i := 0) rfl), (len_le rfl hq), (org_mem (i := 1) rfl), (len_le rfl hq1), (hS9.sel [0, 1, 2, 3] rfl rfl), hz⟩ ?_
  rintro k_ f w ⟨Qubits, XImages, ZImages, gates, t1, B3, c3, B4, c4, B5, c5, hf, ho, hq2, ho1, hq3, hS7, hL⟩
  obtain ⟨K7, y, rfl, hb1, hL1⟩ := whX_go hL
  unfold F_impl_SynthesizeClifford_l1 at hb1
  refine cq (cr ?_)
  refine sQ 18 (yL t1 t.Qubits rfl (hf.g 17 4) (hf.g 16 3)) (rn (cq ?_))
  refine cw_cond (b := (decide (t1 < t.Qubits))) rfl (fun hb2 => ?_) (fun hb2 => ?_)
  ·skip
   have hF4 := ct hb1 hb2
   refine cw_skip (cq (cw_block (cq (cr ?_))))
   refine sQ 19 (ym (vi t1) rfl (hf.g 17 4)) <| sQ 5 (yg (vi t1)) (rn (cr ?_))
   refine sQ 20 (ym (pt (aD b2) 0) rfl (hf.g 4 2)) <| sQ 21 (ym (vi t1)) ?_
   obtain ⟨⟨Qubits1, XImages1, ZImages1, gates1⟩, hc34, hF4⟩ := bI hF4
   refine sc 22 rfl rfl (Yc_func (g := 32) (vs := [pt (aD b2) 0, vi t1]) (R := fun v w' => ∃ (B6 : Option Addr) (c6 : Nat) (B7 : Option Addr) (c7 : Nat) (B8 : Option Addr) (c8 : Nat), v = .tuple #[] ∧ Org w0 [] [⟨B, (t.XImages.flatMap eN0)⟩, ⟨B1, (t.ZImages.flatMap eN0)⟩] [⟨B6, (XImages1.flatMap eN0)⟩] ∧ XImages1.length ≤ c6 ∧ Org w0 [] [⟨B, (t.XImages.flatMap eN0)⟩, ⟨B1, (t.ZImages.flatMap eN0)⟩] [⟨B7, (ZImages1.flatMap eN0)⟩] ∧ ZImages1.length ≤ c7 ∧ ST w0 [] w' [⟨aD b, 40, [vi t.Qubits, .slice B t.XImages.length c, .slice B1 t.ZImages.length c1], 3⟩, ⟨aD b1, 28, [vi 0, .slice none 0 0], 2⟩, ⟨aD b2, 64, [vi Qubits1, .slice B6 XImages1.length c6, .slice B7 ZImages1.length c7, .slice B8 gates1.length c8], 4⟩, ⟨B8, 55, (gates1.flatMap eN2), c8 * 3⟩] [⟨B7, (ZImages1.flatMap eN0)⟩, ⟨B6, (XImages1.flatMap eN0)⟩, ⟨B4, (ZImages.flatMap eN0)⟩, ⟨B3, (XImages.flatMap eN0)⟩, ⟨B, (t.XImages.flatMap eN0)⟩, ⟨B1, (t.ZImages.flatMap eN0)⟩]) k_call_32 rfl (mc rfl (mc rfl mn)) ?cv) ?_
   case cv =>
    show CV Try.prog 32 #[pt (aD b2) 0, vi t1] _ _
    refine cv_of_cw 124 Try.func32 rfl Try.ntmps32 rfl ?_
    refine cq (cr ?_)
    refine sS 2 (yB 62 (pt (aD b2) 0) [pt (aD b2) 0] 1 hS7) ?_
    rintro _ w_63 ⟨b17, rfl, hS119⟩
    refine sS 3 (yB 3 (vi t1) [vi t1] 1 hS119) ?_
    rintro _ w_64 ⟨b18, rfl, hS120⟩
    refine rn (cq (cr ?_))
    refine sQ 10 (Y_makeFunc (cs := [pt (aD b17) 0, pt (aD b18) 0]) rfl rfl (mc rfl (mc rfl mn))) <| sQ 11 (Y_makeFunc (cs := [pt (aD b17) 0, pt (aD b18) 0]) rfl rfl (mc rfl (mc rfl mn))) <| sQ 4 (yg (.func (.func 52) #[] #[pt (aD b17) 0, pt (aD b18) 0])) <| sQ 5 (yg (.func (.func 53) #[] #[pt (aD b17) 0, pt (aD b18) 0])) (rn (cq (cq (cr ?_))))
    refine sQ 12 (yl (aD b18) 0 [vi t1] (vi t1) K4 (hS120.c 5)) <| sQ 6 (yg (vi t1)) (rn ?_)
    obtain ⟨z12, hz12, hF50⟩ := bI hc34
    have hS122 : ST w0 [] _ [⟨aD b, 40, [vi t.Qubits, .slice B t.XImages.length c, .slice B1 t.ZImages.length c1], 3⟩, ⟨aD b1, 28, [vi 0, .slice none 0 0], 2⟩, ⟨aD b2, 64, [vi Qubits, .slice B3 XImages.length c3, .slice B4 ZImages.length c4, .slice B5 gates.length c5], 4⟩, ⟨B5, 55, (gates.flatMap eN2), c5 * 3⟩, ⟨aD b17, 62, [pt (aD b2) 0], 1⟩, ⟨aD b18, 3, [vi t1], 1⟩] [⟨B4, (ZImages.flatMap eN0)⟩, ⟨B3, (XImages.flatMap eN0)⟩, ⟨B4, (ZImages.flatMap eN0)⟩, ⟨B3, (XImages.flatMap eN0)⟩, ⟨B, (t.XImages.flatMap eN0)⟩, ⟨B1, (t.ZImages.flatMap eN0)⟩] := ST.subR hS120 (sk 0 (sk 1 (sk 0 (sk 1 (sk 2 (sk 3 (fun _ h => by cases h)))))))
    refine cw_block ?_
    refine cw_loop (fun k f w => ∃ (Qubits16 : Int) (XImages16 : List TPauli) (ZImages16 : List TPauli) (gates16 : List TGate) (s4 : Int) (B93 : Option Addr) (c93 : Nat) (B94 : Option Addr) (c94 : Nat) (B95 : Option Addr) (c95 : Nat), FF f [(2, pt (aD b17) 0), (3, pt (aD b18) 0), (4, .func (.func 52) #[] #[pt (aD b17) 0, pt (aD b18) 0]), (5, .func (.func 53) #[] #[pt (aD b17) 0, pt (aD b18) 0]), (6, vi s4)] ∧ Org w0 [] [⟨B, (t.XImages.flatMap eN0)⟩, ⟨B1, (t.ZImages.flatMap eN0)⟩] [⟨B93, (XImages16.flatMap eN0)⟩] ∧ XImages16.length ≤ c93 ∧ Org w0 [] [⟨B, (t.XImages.flatMap eN0)⟩, ⟨B1, (t.ZImages.flatMap eN0)⟩] [⟨B94, (ZImages16.flatMap eN0)⟩] ∧ ZImages16.length ≤ c94 ∧ ST w0 [] w [⟨aD b17, 62, [pt (aD b2) 0], 1⟩, ⟨aD b2, 64, [vi Qubits16, .slice B93 XImages16.length c93, .slice B94 ZImages16.length c94, .slice B95 gates16.length c95], 4⟩, ⟨B95, 55, (gates16.flatMap eN2), c95 * 3⟩, ⟨aD b18, 3, [vi t1], 1⟩, ⟨aD b, 40, [vi t.Qubits, .slice B t.XImages.length c, .slice B1 t.ZImages.length c1], 3⟩, ⟨aD b1, 28, [vi 0, .slice none 0 0], 2⟩] [⟨B94, (ZImages16.flatMap eN0)⟩, ⟨B93, (XImages16.flatMap eN0)⟩, ⟨B4, (ZImages.flatMap eN0)⟩, ⟨B3, (XImages.flatMap eN0)⟩, ⟨B, (t.XImages.flatMap eN0)⟩, ⟨B1, (t.ZImages.flatMap eN0)⟩] ∧ whX (F_impl_SynthesizeClifford_l2 t1) k (Qubits16, XImages16, ZImages16, gates16, s4) = some z12) fuel ⟨Qubits, XImages, ZImages, gates, t1, B3, c3, B4, c4, B5, c5, (fc rfl (fc rfl (fc rfl (fc rfl (fc rfl fn_))))), ho, (len_le rfl hq2), ho1, (len_le rfl hq3), (hS122.sel [4, 2, 3, 5, 0, 1] rfl rfl), hz12⟩ ?_
    rintro k_12 f w ⟨Qubits16, XImages16, ZImages16, gates16, s4, B93, c93, B94, c94, B95, c95, hf27, ho34, hq22, ho35, hq23, hS121, hL12⟩
    obtain ⟨k_13, y6, rfl, hb25, hL13⟩ := whX_go hL12
    unfold F_impl_SynthesizeClifford_l2 at hb25
    refine cq (cq (cr ?_))
    refine sQ 13 (ym (vi s4) rfl (hf27.g 6 4)) <| sQ 14 (yl (aD b17) 0 [pt (aD b2) 0] (pt (aD b2) 0) K27 (hS121.c 0) rfl (hf27.g 2 0)) <| sQ 15 (Y_nilCheck (B := aD b2) (i := 0) rfl rfl) <| sQ 16 (yd (aD b2) 0 2 K35 K10) <| sQ 17 (yd (aD b2) 0 0 K30 K3) <| sQ 18 (yl (aD b2) 0 [vi Qubits16, .slice B93 XImages16.length c93, .slice B94 ZImages16.length c94, .slice B95 gates16.length c95] (vi Qubits16) K4 (hS121.c 1)) ?_
    refine sQ 19 (yL s4 Qubits16) (rn ?_)
    refine cw_cond (b := (decide (s4 < Qubits16))) rfl (fun hb26 => ?_) (fun hb26 => ?_)
    ·skip
     have hF51 := ct hb25 hb26
     refine cw_skip (cq (cw_block ?_))
     obtain ⟨⟨t29, t30, t31⟩, hc35, hF51⟩ := bI hF51
     obtain ⟨⟨Qubits17, XImages17, ZImages17, gates17⟩, hc39, hF51⟩ := bI hF51
     refine ra_start (hS121.se [0, 3, 4, 5]).fn (by kernel_rfl) ?_
     have hS137 := hS121.drew
     refine rq 0 22 (v := pt (aD b2) 0) rfl (hS137.se [0, 3, 4, 5]) (fun w' hw' => (yl (aD b17) 0 [pt (aD b2) 0] (pt (aD b2) 0) K27 (ST.cf hw' (i := 0) rfl) rfl (hf27.g 2 0))) ?_
     refine rq 1 23 (v := .func (.func 52) #[] #[pt (aD b17) 0, pt (aD b18) 0]) rfl (hS137.se [0, 3, 4, 5]) (fun w' hw' => (ym (.func (.func 52) #[] #[pt (aD b17) 0, pt (aD b18) 0]) rfl (hf27.g 4 2))) ?_
     refine rq 3 25 (v := vi s4) rfl (hS137.se [0, 3, 4, 5]) (fun w' hw' => (ym (vi s4) rfl (hf27.g 6 4))) ?_
     refine rA [2] ?_
     refine rC 24 2 rfl (Yc_clos (g := 52) (vs := [pt (aD b17) 0, pt (aD b18) 0]) (R := fun v w' => v = .agg #[vi t29, vi t30, vi t31] ∧ ST w0 [] w' [⟨aD b, 40, [vi t.Qubits, .slice B t.XImages.length c, .slice B1 t.ZImages.length c1], 3⟩, ⟨aD b1, 28, [vi 0, .slice none 0 0], 2⟩, ⟨aD b2, 64, [vi Qubits16, .slice B93 XImages16.length c93, .slice B94 ZImages16.length c94, .slice B95 gates16.length c95], 4⟩, ⟨B95, 55, (gates16.flatMap eN2), c95 * 3⟩, ⟨aD b17, 62, [pt (aD b2) 0], 1⟩, ⟨aD b18, 3, [vi t1], 1⟩] [⟨B94, (ZImages16.flatMap eN0)⟩, ⟨B93, (XImages16.flatMap eN0)⟩, ⟨B4, (ZImages.flatMap eN0)⟩, ⟨B3, (XImages.flatMap eN0)⟩, ⟨B, (t.XImages.flatMap eN0)⟩, ⟨B1, (t.ZImages.flatMap eN0)⟩]) K76 rfl rfl (clo_args mn) ?cv) ?_ ?_
     case cv =>
      show CV Try.prog 52 #[pt (aD b17) 0, pt (aD b18) 0] _ _
      refine cv_of_cw 11 Try.func52 rfl Try.ntmps52 rfl ?_
      refine cq (cr ?_)
      refine sS 2 (yN [vi 0, vi 0, vi 0] 3 hS137 K5) ?_
      rintro _ w_72 ⟨b21, rfl, hS138⟩
      refine rn (cq ?_)
      obtain ⟨x10, hx10, hc35⟩ := bI hc35
      refine ra_start (hS138.se [0, 1, 2, 3, 4, 5]).fn (by kernel_rfl) ?_
      have hS139 := hS138.drew
      refine rq 0 3 (v := pt (aD b2) 0) rfl (hS139.se [0, 1, 2, 3, 4, 5]) (fun w' hw' => (yl (aD b17) 0 [pt (aD b2) 0] (pt (aD b2) 0) K27 (ST.cf hw' (i := 0) rfl))) ?_
      refine rq 1 4 (v := pt (aD b2) 0) rfl (hS139.se [0, 1, 2, 3, 4, 5]) (fun w' hw' => (Y_nilCheck (B := aD b2) (i := 0) rfl rfl)) ?_
      refine rq 2 5 (v := pt (aD b2) 0) rfl (hS139.se [0, 1, 2, 3, 4, 5]) (fun w' hw' => (yd (aD b2) 0 2 K35 K10)) ?_
      refine rq 3 6 (v := pt (aD b2) 1) rfl (hS139.se [0, 1, 2, 3, 4, 5]) (fun w' hw' => (yd (aD b2) 0 0 K9 K1)) ?_
      refine rq 4 7 (v := .slice B93 XImages16.length c93) rfl (hS139.se [0, 1, 2, 3, 4, 5]) (fun w' hw' => (yl (aD b2) 1 [vi Qubits16, .slice B93 XImages16.length c93, .slice B94 ZImages16.length c94, .slice B95 gates16.length c95] (.slice B93 XImages16.length c93) K6 (ST.cf hw' (i := 1) rfl))) ?_
      refine rq 5 8 (v := vi t1) rfl (hS139.se [0, 1, 2, 3, 4, 5]) (fun w' hw' => (yl (aD b18) 0 [vi t1] (vi t1) K4 (ST.cf hw' (i := 3) rfl))) ?_
      refine rq 6 9 (v := pt B93 (t1.toNat * 3)) rfl (hS139.se [0, 1, 2, 3, 4, 5]) (fun w' hw' => (Y_index (B := B93) (m := XImages16.length) (c := c93) (k := .i64) (i := t1) K2 K0 rfl rfl rfl (gi_isSome eN1 rfl (ST.rf hw' (i := 1) rfl) hx10) (getI_nn hx10) (getI_ltI hx10 rfl))) ?_
      refine rq 7 10 (v := .agg #[vi x10.Phase, vi x10.X, vi x10.Z]) rfl (hS139.se [0, 1, 2, 3, 4, 5]) (fun w' hw' => (ya B93 (t1.toNat * 3) (XImages16.flatMap eN0) [vi x10.Phase, vi x10.X, vi x10.Z] K14 K0 (ST.rf hw' (i := 1) rfl) rfl rfl (eN1 x10) (gi_seg eN1 hx10))) ?_
      refine rA [8] ?_
      refine rZ 8 rfl (yT 6 3 (aD b21) 71 (.agg #[vi x10.Phase, vi x10.X, vi x10.Z]) [vi x10.Phase, vi x10.X, vi x10.Z] 0 hS139 K0) ?_ ?_
      ·rintro _ w_73 ⟨rfl, hS140⟩
       have hS140 : ST w0 [] _ [⟨aD b17, 62, [pt (aD b2) 0], 1⟩, ⟨aD b2, 64, [vi Qubits16, .slice B93 XImages16.length c93, .slice B94 ZImages16.length c94, .slice B95 gates16.length c95], 4⟩, ⟨B95, 55, (gates16.flatMap eN2), c95 * 3⟩, ⟨aD b18, 3, [vi t1], 1⟩, ⟨aD b, 40, [vi t.Qubits, .slice B t.XImages.length c, .slice B1 t.ZImages.length c1], 3⟩, ⟨aD b1, 28, [vi 0, .slice none 0 0], 2⟩, ⟨aD b21, 71, [vi x10.Phase, vi x10.X, vi x10.Z], 3⟩] [⟨B94, (ZImages16.flatMap eN0)⟩, ⟨B93, (XImages16.flatMap eN0)⟩, ⟨B4, (ZImages.flatMap eN0)⟩, ⟨B3, (XImages.flatMap eN0)⟩, ⟨B, (t.XImages.flatMap eN0)⟩, ⟨B1, (t.ZImages.flatMap eN0)⟩] := hS140
       refine ⟨(hS140.se [0, 1, 2, 3, 4, 5]), ?_⟩
       refine ra_done (by kernel_rfl) ?_
       refine ct_ ?_
       obtain ⟨rfl, rfl, rfl⟩ := pr3 (sI hc35)
       exact ret1 Try.results52 (v1 := .agg #[vi x10.Phase, vi x10.X, vi x10.Z]) (resAt_cellA (B := aD b21) (i := 0) (cs := [vi x10.Phase, vi x10.X, vi x10.Z]) (vs := [vi x10.Phase, vi x10.X, vi x10.Z]) rfl K14 K0 (hS140.c 6) rfl rfl) ⟨rfl, (hS140.sel [4, 5, 1, 2, 0, 3] rfl rfl)⟩
      exact aN
     ·rintro _ w_71 ⟨rfl, hd38⟩
      have hd38 : ST w0 [] _ [⟨aD b, 40, [vi t.Qubits, .slice B t.XImages.length c, .slice B1 t.ZImages.length c1], 3⟩, ⟨aD b1, 28, [vi 0, .slice none 0 0], 2⟩, ⟨aD b2, 64, [vi Qubits16, .slice B93 XImages16.length c93, .slice B94 ZImages16.length c94, .slice B95 gates16.length c95], 4⟩, ⟨B95, 55, (gates16.flatMap eN2), c95 * 3⟩, ⟨aD b17, 62, [pt (aD b2) 0], 1⟩, ⟨aD b18, 3, [vi t1], 1⟩] [⟨B94, (ZImages16.flatMap eN0)⟩, ⟨B93, (XImages16.flatMap eN0)⟩, ⟨B4, (ZImages.flatMap eN0)⟩, ⟨B3, (XImages.flatMap eN0)⟩, ⟨B, (t.XImages.flatMap eN0)⟩, ⟨B1, (t.ZImages.flatMap eN0)⟩] := hd38
      refine ⟨(ST.sel hd38 [4, 5, 0, 1] rfl rfl), ?_⟩
      refine rA [4] ?_
      refine rC 26 4 rfl (Yc_func (g := 54) (vs := [pt (aD b2) 0, .agg #[vi t29, vi t30, vi t31], vi s4]) (R := fun v w' => ∃ (B96 : Option Addr) (c96 : Nat) (B97 : Option Addr) (c97 : Nat) (B98 : Option Addr) (c98 : Nat), v = .tuple #[] ∧ Org w0 [] [⟨B, (t.XImages.flatMap eN0)⟩, ⟨B1, (t.ZImages.flatMap eN0)⟩] [⟨B96, (XImages17.flatMap eN0)⟩] ∧ XImages17.length ≤ c96 ∧ Org w0 [] [⟨B, (t.XImages.flatMap eN0)⟩, ⟨B1, (t.ZImages.flatMap eN0)⟩] [⟨B97, (ZImages17.flatMap eN0)⟩] ∧ ZImages17.length ≤ c97 ∧ ST w0 [] w' [⟨aD b, 40, [vi t.Qubits, .slice B t.XImages.length c, .slice B1 t.ZImages.length c1], 3⟩, ⟨aD b1, 28, [vi 0, .slice none 0 0], 2⟩, ⟨aD b2, 64, [vi Qubits17, .slice B96 XImages17.length c96, .slice B97 ZImages17.length c97, .slice B98 gates17.length c98], 4⟩, ⟨B98, 55, (gates17.flatMap eN2), c98 * 3⟩, ⟨aD b17, 62, [pt (aD b2) 0], 1⟩, ⟨aD b18, 3, [vi t1], 1⟩] [⟨B97, (ZImages17.flatMap eN0)⟩, ⟨B96, (XImages17.flatMap eN0)⟩, ⟨B94, (ZImages16.flatMap eN0)⟩, ⟨B93, (XImages16.flatMap eN0)⟩, ⟨B4, (ZImages.flatMap eN0)⟩, ⟨B3, (XImages.flatMap eN0)⟩, ⟨B, (t.XImages.flatMap eN0)⟩, ⟨B1, (t.ZImages.flatMap eN0)⟩]) k_call_54 rfl (mc rfl (mc rfl (mc rfl mn))) ?cv) ?_ ?_
      case cv =>
       show CV Try.prog 54 #[pt (aD b2) 0, .agg #[vi t29, vi t30, vi t31], vi s4] _ _
       refine cv_of_cw 19 Try.func54 rfl Try.ntmps54 rfl ?_
       refine cq (cr ?_)
       refine sS 4 (yB 71 (.agg #[vi t29, vi t30, vi t31]) [vi t29, vi t30, vi t31] 3 hd38) ?_
       rintro _ w_75 ⟨b22, rfl, hS141⟩
       refine rn (cq (cr ?_))
       refine sQ 6 (yb (aD b22) 0 [vi t29, vi t30, vi t31] K14 K0 (hS141.c 6)) <| sQ 7 (ym (vi s4)) ?_
       obtain ⟨r_10, hc40, hc39⟩ := bI hc39
       refine sc 8 rfl rfl (yC [.agg #[vi t29, vi t30, vi t31], vi s4] K57 (c_impl_letterOf (TPauli.mk t29 t30 t31) s4 _  (hS141.inn0 [] rfl) hc40)) ?_
       rintro _ w_76 ⟨rfl, hd40⟩
       have hS142 := hS141.out00 hd40
       refine rn (cw_block (cq (cr ?_)))
       refine sQ 10 (Y_eq (k := .u8) (a := r_10) (b := 90) rfl rfl rfl) <| sQ 9 (yg (.bool (r_10 == 90))) (rn ?_)
       refine cw_cond (b := (r_10 == 90)) rfl (fun hb29 => ?_) (fun hb29 => ?_)
       ·skip
        have hF56 := ct hc39 hb29
        refine cr ?_
        refine sQ 11 (ym (pt (aD b2) 0)) <| sQ 12 (ym (vi s4)) ?_
        obtain ⟨m16, hc41, hF56⟩ := bI hF56
        refine sc 13 rfl rfl (yC [pt (aD b2) 0, vi 1, vi s4, vi 0] K44 (c_impl_reducer_add (Treducer.mk (TTableau.mk Qubits16 XImages16 ZImages16) gates16) 1 s4 0 (aD b2) B93 c93 XImages16.length B94 c94 ZImages16.length B95 c95 gates16.length _ rfl rfl rfl (hS142.inn [false, false, true, true, false, false, false] rfl [(true, 1), (true, 0)] rfl) hc41)) ?_
        rintro _ w_77 ⟨B105, c105, B106, c106, B107, c107, rfl, hd41⟩
        have hS143 := hS142.out [false, false, true, true, false, false, false] rfl hd41
        refine rn ?_
        have ho42 : Org w0 [] [⟨B, (t.XImages.flatMap eN0)⟩, ⟨B1, (t.ZImages.flatMap eN0)⟩] [⟨B105, (m16.t.XImages.flatMap eN0)⟩] := ST.orgOwn hS143 (i := 6) rfl
        have hcap18 : m16.t.XImages.length ≤ c105 := (hS143.lencap (i := 6) rfl (fm_lenn (l := m16.t.XImages) eN1 rfl) rfl rfl)
        have hS144 : ST w0 [] _ [⟨aD b, 40, [vi t.Qubits, .slice B t.XImages.length c, .slice B1 t.ZImages.length c1], 3⟩, ⟨aD b1, 28, [vi 0, .slice none 0 0], 2⟩, ⟨aD b17, 62, [pt (aD b2) 0], 1⟩, ⟨aD b18, 3, [vi t1], 1⟩, ⟨aD b22, 71, [vi t29, vi t30, vi t31], 3⟩, ⟨aD b2, 64, [vi m16.t.Qubits, .slice B105 m16.t.XImages.length c105, .slice B106 m16.t.ZImages.length c106, .slice B107 m16.gates.length c107], 4⟩, ⟨B106, 71, (m16.t.ZImages.flatMap eN0), c106 * 3⟩, ⟨B107, 55, (m16.gates.flatMap eN2), c107 * 3⟩] [⟨B105, (m16.t.XImages.flatMap eN0)⟩, ⟨B94, (ZImages16.flatMap eN0)⟩, ⟨B93, (XImages16.flatMap eN0)⟩, ⟨B4, (ZImages.flatMap eN0)⟩, ⟨B3, (XImages.flatMap eN0)⟩, ⟨B, (t.XImages.flatMap eN0)⟩, ⟨B1, (t.ZImages.flatMap eN0)⟩] := hS143.freeze (i := 6) rfl
        have ho43 : Org w0 [] [⟨B, (t.XImages.flatMap eN0)⟩, ⟨B1, (t.ZImages.flatMap eN0)⟩] [⟨B106, (m16.t.ZImages.flatMap eN0)⟩] := ST.orgOwn hS144 (i := 6) rfl
        have hcap19 : m16.t.ZImages.length ≤ c106 := (hS144.lencap (i := 6) rfl (fm_lenn (l := m16.t.ZImages) eN1 rfl) rfl rfl)
        have hS145 : ST w0 [] _ [⟨aD b, 40, [vi t.Qubits, .slice B t.XImages.length c, .slice B1 t.ZImages.length c1], 3⟩, ⟨aD b1, 28, [vi 0, .slice none 0 0], 2⟩, ⟨aD b17, 62, [pt (aD b2) 0], 1⟩, ⟨aD b18, 3, [vi t1], 1⟩, ⟨aD b22, 71, [vi t29, vi t30, vi t31], 3⟩, ⟨aD b2, 64, [vi m16.t.Qubits, .slice B105 m16.t.XImages.length c105, .slice B106 m16.t.ZImages.length c106, .slice B107 m16.gates.length c107], 4⟩, ⟨B107, 55, (m16.gates.flatMap eN2), c107 * 3⟩] [⟨B106, (m16.t.ZImages.flatMap eN0)⟩, ⟨B105, (m16.t.XImages.flatMap eN0)⟩, ⟨B94, (ZImages16.flatMap eN0)⟩, ⟨B93, (XImages16.flatMap eN0)⟩, ⟨B4, (ZImages.flatMap eN0)⟩, ⟨B3, (XImages.flatMap eN0)⟩, ⟨B, (t.XImages.flatMap eN0)⟩, ⟨B1, (t.ZImages.flatMap eN0)⟩] := hS144.freeze (i := 6) rfl
        obtain ⟨rfl, rfl, rfl, rfl⟩ := pr4 (sI hF56)
        exact ret0 Try.results54  ⟨B105, c105, B106, c106, B107, c107, rfl, ho42, (len_le rfl hcap18), ho43, (len_le rfl hcap19), (hS145.sel [0, 1, 5, 6, 2, 3] rfl rfl)⟩
       ·skip
        have hF57 := cf' hc39 hb29
        refine cq (cr ?_)
        refine sQ 15 (Y_eq (k := .u8) (a := r_10) (b := 89) rfl rfl rfl) <| sQ 14 (yg (.bool (r_10 == 89))) (rn ?_)
        refine cw_cond (b := (r_10 == 89)) rfl (fun hb30 => ?_) (fun hb30 => ?_)
        ·skip
         have hF58 := ct hF57 hb30
         refine cr ?_
         refine sQ 16 (ym (pt (aD b2) 0)) <| sQ 17 (ym (vi s4)) ?_
         obtain ⟨m17, hc42, hF58⟩ := bI hF58
         refine sc 18 rfl rfl (yC [pt (aD b2) 0, vi 5, vi s4, vi 0] K44 (c_impl_reducer_add (Treducer.mk (TTableau.mk Qubits16 XImages16 ZImages16) gates16) 5 s4 0 (aD b2) B93 c93 XImages16.length B94 c94 ZImages16.length B95 c95 gates16.length _ rfl rfl rfl (hS142.inn [false, false, true, true, false, false, false] rfl [(true, 1), (true, 0)] rfl) hc42)) ?_
         rintro _ w_78 ⟨B108, c108, B109, c109, B110, c110, rfl, hd42⟩
         have hS146 := hS142.out [false, false, true, true, false, false, false] rfl hd42
         have hS146 : ST w0 [] _ [⟨aD b, 40, [vi t.Qubits, .slice B t.XImages.length c, .slice B1 t.ZImages.length c1], 3⟩, ⟨aD b1, 28, [vi 0, .slice none 0 0], 2⟩, ⟨aD b17, 62, [pt (aD b2) 0], 1⟩, ⟨aD b18, 3, [vi t1], 1⟩, ⟨aD b22, 71, [vi t29, vi t30, vi t31], 3⟩, ⟨aD b2, 64, [vi m17.t.Qubits, .slice B108 m17.t.XImages.length c108, .slice B109 m17.t.ZImages.length c109, .slice B110 m17.gates.length c110], 4⟩, ⟨B108, 71, (m17.t.XImages.flatMap eN0), c108 * 3⟩, ⟨B109, 71, (m17.t.ZImages.flatMap eN0), c109 * 3⟩, ⟨B110, 55, (m17.gates.flatMap eN2), c110 * 3⟩] [⟨B94, (ZImages16.flatMap eN0)⟩, ⟨B93, (XImages16.flatMap eN0)⟩, ⟨B4, (ZImages.flatMap eN0)⟩, ⟨B3, (XImages.flatMap eN0)⟩, ⟨B, (t.XImages.flatMap eN0)⟩, ⟨B1, (t.ZImages.flatMap eN0)⟩] := hS146
         refine rn ?_
         have ho44 : Org w0 [] [⟨B, (t.XImages.flatMap eN0)⟩, ⟨B1, (t.ZImages.flatMap eN0)⟩] [⟨B108, (m17.t.XImages.flatMap eN0)⟩] := ST.orgOwn hS146 (i := 6) rfl
         have hcap20 : m17.t.XImages.length ≤ c108 := (hS146.lencap (i := 6) rfl (fm_lenn (l := m17.t.XImages) eN1 rfl) rfl rfl)
         have hS147 : ST w0 [] _ [⟨aD b, 40, [vi t.Qubits, .slice B t.XImages.length c, .slice B1 t.ZImages.length c1], 3⟩, ⟨aD b1, 28, [vi 0, .slice none 0 0], 2⟩, ⟨aD b17, 62, [pt (aD b2) 0], 1⟩, ⟨aD b18, 3, [vi t1], 1⟩, ⟨aD b22, 71, [vi t29, vi t30, vi t31], 3⟩, ⟨aD b2, 64, [vi m17.t.Qubits, .slice B108 m17.t.XImages.length c108, .slice B109 m17.t.ZImages.length c109, .slice B110 m17.gates.length c110], 4⟩, ⟨B109, 71, (m17.t.ZImages.flatMap eN0), c109 * 3⟩, ⟨B110, 55, (m17.gates.flatMap eN2), c110 * 3⟩] [⟨B108, (m17.t.XImages.flatMap eN0)⟩, ⟨B94, (ZImages16.flatMap eN0)⟩, ⟨B93, (XImages16.flatMap eN0)⟩, ⟨B4, (ZImages.flatMap eN0)⟩, ⟨B3, (XImages.flatMap eN0)⟩, ⟨B, (t.XImages.flatMap eN0)⟩, ⟨B1, (t.ZImages.flatMap eN0)⟩] := hS146.freeze (i := 6) rfl
         have ho45 : Org w0 [] [⟨B, (t.XImages.flatMap eN0)⟩, ⟨B1, (t.ZImages.flatMap eN0)⟩] [⟨B109, (m17.t.ZImages.flatMap eN0)⟩] := ST.orgOwn hS147 (i := 6) rfl
         have hcap21 : m17.t.ZImages.length ≤ c109 := (hS147.lencap (i := 6) rfl (fm_lenn (l := m17.t.ZImages) eN1 rfl) rfl rfl)
         have hS148 : ST w0 [] _ [⟨aD b, 40, [vi t.Qubits, .slice B t.XImages.length c, .slice B1 t.ZImages.length c1], 3⟩, ⟨aD b1, 28, [vi 0, .slice none 0 0], 2⟩, ⟨aD b17, 62, [pt (aD b2) 0], 1⟩, ⟨aD b18, 3, [vi t1], 1⟩, ⟨aD b22, 71, [vi t29, vi t30, vi t31], 3⟩, ⟨aD b2, 64, [vi m17.t.Qubits, .slice B108 m17.t.XImages.length c108, .slice B109 m17.t.ZImages.length c109, .slice B110 m17.gates.length c110], 4⟩, ⟨B110, 55, (m17.gates.flatMap eN2), c110 * 3⟩] [⟨B109, (m17.t.ZImages.flatMap eN0)⟩, ⟨B108, (m17.t.XImages.flatMap eN0)⟩, ⟨B94, (ZImages16.flatMap eN0)⟩, ⟨B93, (XImages16.flatMap eN0)⟩, ⟨B4, (ZImages.flatMap eN0)⟩, ⟨B3, (XImages.flatMap eN0)⟩, ⟨B, (t.XImages.flatMap eN0)⟩, ⟨B1, (t.ZImages.flatMap eN0)⟩] := hS147.freeze (i := 6) rfl
         obtain ⟨rfl, rfl, rfl, rfl⟩ := pr4 (sI hF58)
         exact ret0 Try.results54  ⟨B108, c108, B109, c109, B110, c110, rfl, ho44, (len_le rfl hcap20), ho45, (len_le rfl hcap21), (hS148.sel [0, 1, 5, 6, 2, 3] rfl rfl)⟩
        ·skip
         have hF59 := cf' hF57 hb30
         refine cw_skip ?_
         have hS149 : ST w0 [] _ [⟨aD b, 40, [vi t.Qubits, .slice B t.XImages.length c, .slice B1 t.ZImages.length c1], 3⟩, ⟨aD b1, 28, [vi 0, .slice none 0 0], 2⟩, ⟨aD b2, 64, [vi Qubits16, .slice B93 XImages16.length c93, .slice B94 ZImages16.length c94, .slice B95 gates16.length c95], 4⟩, ⟨B95, 55, (gates16.flatMap eN2), c95 * 3⟩, ⟨aD b17, 62, [pt (aD b2) 0], 1⟩, ⟨aD b18, 3, [vi t1], 1⟩, ⟨aD b22, 71, [vi t29, vi t30, vi t31], 3⟩] [⟨B94, (ZImages16.flatMap eN0)⟩, ⟨B93, (XImages16.flatMap eN0)⟩, ⟨B94, (ZImages16.flatMap eN0)⟩, ⟨B93, (XImages16.flatMap eN0)⟩, ⟨B4, (ZImages.flatMap eN0)⟩, ⟨B3, (XImages.flatMap eN0)⟩, ⟨B, (t.XImages.flatMap eN0)⟩, ⟨B1, (t.ZImages.flatMap eN0)⟩] := ST.subR hS142 (sk 0 (sk 1 (sk 0 (sk 1 (sk 2 (sk 3 (sk 4 (sk 5 (fun _ h => by cases h)))))))))
         obtain ⟨rfl, rfl, rfl, rfl⟩ := pr4 (sI hF59)
         exact ret0 Try.results54  ⟨B93, c93, B94, c94, B95, c95, rfl, ho34, (len_le rfl hq22), ho35, (len_le rfl hq23), (hS149.sel [0, 1, 2, 3, 4, 5] rfl rfl)⟩
      ·rintro _ w_74 ⟨B96, c96, B97, c97, B98, c98, rfl, ho36, hq24, ho37, hq25, hd39⟩
       have hd39 : ST w0 [] _ [⟨aD b, 40, [vi t.Qubits, .slice B t.XImages.length c, .slice B1 t.ZImages.length c1], 3⟩, ⟨aD b1, 28, [vi 0, .slice none 0 0], 2⟩, ⟨aD b2, 64, [vi Qubits17, .slice B96 XImages17.length c96, .slice B97 ZImages17.length c97, .slice B98 gates17.length c98], 4⟩, ⟨B98, 55, (gates17.flatMap eN2), c98 * 3⟩, ⟨aD b17, 62, [pt (aD b2) 0], 1⟩, ⟨aD b18, 3, [vi t1], 1⟩] [⟨B97, (ZImages17.flatMap eN0)⟩, ⟨B96, (XImages17.flatMap eN0)⟩, ⟨B94, (ZImages16.flatMap eN0)⟩, ⟨B93, (XImages16.flatMap eN0)⟩, ⟨B4, (ZImages.flatMap eN0)⟩, ⟨B3, (XImages.flatMap eN0)⟩, ⟨B, (t.XImages.flatMap eN0)⟩, ⟨B1, (t.ZImages.flatMap eN0)⟩] := hd39
       refine ⟨(ST.subR (ST.sel hd39 [4, 5, 0, 1] rfl rfl) (R' := [⟨B94, (ZImages16.flatMap eN0)⟩, ⟨B93, (XImages16.flatMap eN0)⟩, ⟨B4, (ZImages.flatMap eN0)⟩, ⟨B3, (XImages.flatMap eN0)⟩, ⟨B, (t.XImages.flatMap eN0)⟩, ⟨B1, (t.ZImages.flatMap eN0)⟩]) (sk 2 (sk 3 (sk 4 (sk 5 (sk 6 (sk 7 (fun _ h => by cases h)))))))), ?_⟩
       refine ra_done (by kernel_rfl) ?_
       refine cr ?_
       refine sQ 20 (ym (vi s4) rfl (hf27.g 6 4)) <| sQ 21 (yP s4 1) <| sQ 6 (yg (vi (i64.wrap (s4 + 1)))) (rn ?_)
       obtain rfl := sI hF51
       have hS150 : ST w0 [] _ [⟨aD b, 40, [vi t.Qubits, .slice B t.XImages.length c, .slice B1 t.ZImages.length c1], 3⟩, ⟨aD b1, 28, [vi 0, .slice none 0 0], 2⟩, ⟨aD b2, 64, [vi Qubits17, .slice B96 XImages17.length c96, .slice B97 ZImages17.length c97, .slice B98 gates17.length c98], 4⟩, ⟨B98, 55, (gates17.flatMap eN2), c98 * 3⟩, ⟨aD b17, 62, [pt (aD b2) 0], 1⟩, ⟨aD b18, 3, [vi t1], 1⟩] [⟨B97, (ZImages17.flatMap eN0)⟩, ⟨B96, (XImages17.flatMap eN0)⟩, ⟨B4, (ZImages.flatMap eN0)⟩, ⟨B3, (XImages.flatMap eN0)⟩, ⟨B, (t.XImages.flatMap eN0)⟩, ⟨B1, (t.ZImages.flatMap eN0)⟩] := ST.subR hd39 (sk 0 (sk 1 (sk 4 (sk 5 (sk 6 (sk 7 (fun _ h => by cases h)))))))
       exact ⟨k_13, Nat.lt_succ_self _, Qubits17, XImages17, ZImages17, gates17, (i64.wrap (s4 + 1)), B96, c96, B97, c97, B98, c98, (fc (hf27.g 2 0) (fc (hf27.g 3 1) (fc (hf27.g 4 2) (fc (hf27.g 5 3) (fc rfl fn_))))), ho36, (len_le rfl hq24), ho37, (len_le rfl hq25), (hS150.sel [4, 2, 3, 5, 0, 1] rfl rfl), hL13⟩
      exact aN
     exact aN
    ·skip
     have hF60 := cf' hb25 hb26
     refine cw_exit rfl ?_
     obtain rfl := sI hF60
     obtain rfl := sI hL13
     refine cq (cr ?_)
     refine sQ 27 (yl (aD b18) 0 [vi t1] (vi t1) K4 (hS121.c 3) rfl (hf27.g 3 1)) <| sQ 7 (yg (vi t1)) (rn (cq ?_))
     obtain ⟨z13, hz13, hF61⟩ := bI hF50
     refine cw_mid (fun f w => ∃ (first2 : Int), .inl first2 = z13 ∧ FF f [(2, pt (aD b17) 0), (3, pt (aD b18) 0), (4, .func (.func 52) #[] #[pt (aD b17) 0, pt (aD b18) 0]), (5, .func (.func 53) #[] #[pt (aD b17) 0, pt (aD b18) 0]), (7, vi first2)] ∧ ST w0 [] w [⟨aD b17, 62, [pt (aD b2) 0], 1⟩, ⟨aD b2, 64, [vi Qubits16, .slice B93 XImages16.length c93, .slice B94 ZImages16.length c94, .slice B95 gates16.length c95], 4⟩, ⟨B95, 55, (gates16.flatMap eN2), c95 * 3⟩, ⟨aD b18, 3, [vi t1], 1⟩, ⟨aD b, 40, [vi t.Qubits, .slice B t.XImages.length c, .slice B1 t.ZImages.length c1], 3⟩, ⟨aD b1, 28, [vi 0, .slice none 0 0], 2⟩] [⟨B94, (ZImages16.flatMap eN0)⟩, ⟨B93, (XImages16.flatMap eN0)⟩, ⟨B4, (ZImages.flatMap eN0)⟩, ⟨B3, (XImages.flatMap eN0)⟩, ⟨B, (t.XImages.flatMap eN0)⟩, ⟨B1, (t.ZImages.flatMap eN0)⟩]) ?_ ?_
     ·skip
      refine cw_block ?_
      refine cw_loop (fun k f w => ∃ (first3 : Int), FF f [(2, pt (aD b17) 0), (3, pt (aD b18) 0), (4, .func (.func 52) #[] #[pt (aD b17) 0, pt (aD b18) 0]), (5, .func (.func 53) #[] #[pt (aD b17) 0, pt (aD b18) 0]), (7, vi first3)] ∧ ST w0 [] w [⟨aD b17, 62, [pt (aD b2) 0], 1⟩, ⟨aD b2, 64, [vi Qubits16, .slice B93 XImages16.length c93, .slice B94 ZImages16.length c94, .slice B95 gates16.length c95], 4⟩, ⟨B95, 55, (gates16.flatMap eN2), c95 * 3⟩, ⟨aD b18, 3, [vi t1], 1⟩, ⟨aD b, 40, [vi t.Qubits, .slice B t.XImages.length c, .slice B1 t.ZImages.length c1], 3⟩, ⟨aD b1, 28, [vi 0, .slice none 0 0], 2⟩] [⟨B94, (ZImages16.flatMap eN0)⟩, ⟨B93, (XImages16.flatMap eN0)⟩, ⟨B4, (ZImages.flatMap eN0)⟩, ⟨B3, (XImages.flatMap eN0)⟩, ⟨B, (t.XImages.flatMap eN0)⟩, ⟨B1, (t.ZImages.flatMap eN0)⟩] ∧ whX (F_impl_SynthesizeClifford_l3 Qubits16 XImages16 t1) k first3 = some z13) fuel ⟨t1, (fc (hf27.g 2 0) (fc (hf27.g 3 1) (fc (hf27.g 4 2) (fc (hf27.g 5 3) (fc rfl fn_))))), (hS121.sel [0, 1, 2, 3, 4, 5] rfl rfl), hz13⟩ ?_
      rintro k_14 f w ⟨first3, hf31, hS152, hL14⟩
      obtain ⟨K72, y7, rfl, hb31, hL15⟩ := whX_go hL14
      unfold F_impl_SynthesizeClifford_l3 at hb31
      refine cq (cq (cr ?_))
      refine sQ 28 (ym (vi first3) rfl (hf31.g 7 4)) <| sQ 29 (yl (aD b17) 0 [pt (aD b2) 0] (pt (aD b2) 0) K27 (hS152.c 0) rfl (hf31.g 2 0)) <| sQ 30 (Y_nilCheck (B := aD b2) (i := 0) rfl rfl) <| sQ 31 (yd (aD b2) 0 2 K35 K10) <| sQ 32 (yd (aD b2) 0 0 K30 K3) <| sQ 33 (yl (aD b2) 0 [vi Qubits16, .slice B93 XImages16.length c93, .slice B94 ZImages16.length c94, .slice B95 gates16.length c95] (vi Qubits16) K4 (hS152.c 1)) ?_
      refine sQ 34 (yM Qubits16 1) <| sQ 35 (yL first3 (i64.wrap (Qubits16 - 1))) <| sQ 36 (ym (.bool (decide (first3 < (i64.wrap (Qubits16 - 1)))))) ?_
      refine sgq 37 (B := (decide (first3 < (i64.wrap (Qubits16 - 1))))) (v := .func (.func 52) #[] #[pt (aD b17) 0, pt (aD b18) 0]) rfl rfl (uT_ 36) (fun hg6 => (ym (.func (.func 52) #[] #[pt (aD b17) 0, pt (aD b18) 0]) rfl (hf31.g 4 2))) ?_
      refine rw_split (B := (decide (first3 < (i64.wrap (Qubits16 - 1))))) (fun hb32 => ?_) (fun hb32 => ?_)
      ·skip
       have hF62 := ct hb31 hb32
       obtain ⟨⟨t32, t33, t34⟩, hc43, hF62⟩ := bI hF62
       refine scg 38 rfl rfl (uT_ 36) hb32 (Yc_clos (g := 52) (vs := [pt (aD b17) 0, pt (aD b18) 0]) (R := fun v w' => v = .agg #[vi t32, vi t33, vi t34] ∧ ST w0 [] w' [⟨aD b, 40, [vi t.Qubits, .slice B t.XImages.length c, .slice B1 t.ZImages.length c1], 3⟩, ⟨aD b1, 28, [vi 0, .slice none 0 0], 2⟩, ⟨aD b2, 64, [vi Qubits16, .slice B93 XImages16.length c93, .slice B94 ZImages16.length c94, .slice B95 gates16.length c95], 4⟩, ⟨B95, 55, (gates16.flatMap eN2), c95 * 3⟩, ⟨aD b17, 62, [pt (aD b2) 0], 1⟩, ⟨aD b18, 3, [vi t1], 1⟩] [⟨B94, (ZImages16.flatMap eN0)⟩, ⟨B93, (XImages16.flatMap eN0)⟩, ⟨B4, (ZImages.flatMap eN0)⟩, ⟨B3, (XImages.flatMap eN0)⟩, ⟨B, (t.XImages.flatMap eN0)⟩, ⟨B1, (t.ZImages.flatMap eN0)⟩]) K76 rfl (gv_of (v := .func (.func 52) #[] #[pt (aD b17) 0, pt (aD b18) 0]) hb32) (clo_args mn) ?cv) ?_
       case cv =>
        show CV Try.prog 52 #[pt (aD b17) 0, pt (aD b18) 0] _ _
        refine cv_of_cw 11 Try.func52 rfl Try.ntmps52 rfl ?_
        refine cq (cr ?_)
        refine sS 2 (yN [vi 0, vi 0, vi 0] 3 hS152 K5) ?_
        rintro _ w_82 ⟨b24, rfl, hS157⟩
        refine rn (cq ?_)
        obtain ⟨x12, hx12, hc43⟩ := bI hc43
        refine ra_start (hS157.se [0, 1, 2, 3, 4, 5]).fn (by kernel_rfl) ?_
        have hS158 := hS157.drew
        refine rq 0 3 (v := pt (aD b2) 0) rfl (hS158.se [0, 1, 2, 3, 4, 5]) (fun w' hw' => (yl (aD b17) 0 [pt (aD b2) 0] (pt (aD b2) 0) K27 (ST.cf hw' (i := 0) rfl))) ?_
        refine rq 1 4 (v := pt (aD b2) 0) rfl (hS158.se [0, 1, 2, 3, 4, 5]) (fun w' hw' => (Y_nilCheck (B := aD b2) (i := 0) rfl rfl)) ?_
        refine rq 2 5 (v := pt (aD b2) 0) rfl (hS158.se [0, 1, 2, 3, 4, 5]) (fun w' hw' => (yd (aD b2) 0 2 K35 K10)) ?_
        refine rq 3 6 (v := pt (aD b2) 1) rfl (hS158.se [0, 1, 2, 3, 4, 5]) (fun w' hw' => (yd (aD b2) 0 0 K9 K1)) ?_
        refine rq 4 7 (v := .slice B93 XImages16.length c93) rfl (hS158.se [0, 1, 2, 3, 4, 5]) (fun w' hw' => (yl (aD b2) 1 [vi Qubits16, .slice B93 XImages16.length c93, .slice B94 ZImages16.length c94, .slice B95 gates16.length c95] (.slice B93 XImages16.length c93) K6 (ST.cf hw' (i := 1) rfl))) ?_
        refine rq 5 8 (v := vi t1) rfl (hS158.se [0, 1, 2, 3, 4, 5]) (fun w' hw' => (yl (aD b18) 0 [vi t1] (vi t1) K4 (ST.cf hw' (i := 3) rfl))) ?_
        refine rq 6 9 (v := pt B93 (t1.toNat * 3)) rfl (hS158.se [0, 1, 2, 3, 4, 5]) (fun w' hw' => (Y_index (B := B93) (m := XImages16.length) (c := c93) (k := .i64) (i := t1) K2 K0 rfl rfl rfl (gi_isSome eN1 rfl (ST.rf hw' (i := 1) rfl) hx12) (getI_nn hx12) (getI_ltI hx12 rfl))) ?_
        refine rq 7 10 (v := .agg #[vi x12.Phase, vi x12.X, vi x12.Z]) rfl (hS158.se [0, 1, 2, 3, 4, 5]) (fun w' hw' => (ya B93 (t1.toNat * 3) (XImages16.flatMap eN0) [vi x12.Phase, vi x12.X, vi x12.Z] K14 K0 (ST.rf hw' (i := 1) rfl) rfl rfl (eN1 x12) (gi_seg eN1 hx12))) ?_
        refine rA [8] ?_
        refine rZ 8 rfl (yT 6 3 (aD b24) 71 (.agg #[vi x12.Phase, vi x12.X, vi x12.Z]) [vi x12.Phase, vi x12.X, vi x12.Z] 0 hS158 K0) ?_ ?_
        ·rintro _ w_83 ⟨rfl, hS159⟩
         refine ⟨(hS159.se [0, 1, 2, 3, 4, 5]), ?_⟩
         refine ra_done (by kernel_rfl) ?_
         refine ct_ ?_
         obtain ⟨rfl, rfl, rfl⟩ := pr3 (sI hc43)
         exact ret1 Try.results52 (v1 := .agg #[vi x12.Phase, vi x12.X, vi x12.Z]) (resAt_cellA (B := aD b24) (i := 0) (cs := [vi x12.Phase, vi x12.X, vi x12.Z]) (vs := [vi x12.Phase, vi x12.X, vi x12.Z]) rfl K14 K0 (hS159.c 6) rfl rfl) ⟨rfl, (hS159.sel [4, 5, 1, 2, 0, 3] rfl rfl)⟩
        exact aN
       rintro _ w_81 ⟨rfl, hd43⟩
       have hd43 : ST w0 [] _ [⟨aD b, 40, [vi t.Qubits, .slice B t.XImages.length c, .slice B1 t.ZImages.length c1], 3⟩, ⟨aD b1, 28, [vi 0, .slice none 0 0], 2⟩, ⟨aD b2, 64, [vi Qubits16, .slice B93 XImages16.length c93, .slice B94 ZImages16.length c94, .slice B95 gates16.length c95], 4⟩, ⟨B95, 55, (gates16.flatMap eN2), c95 * 3⟩, ⟨aD b17, 62, [pt (aD b2) 0], 1⟩, ⟨aD b18, 3, [vi t1], 1⟩] [⟨B94, (ZImages16.flatMap eN0)⟩, ⟨B93, (XImages16.flatMap eN0)⟩, ⟨B4, (ZImages.flatMap eN0)⟩, ⟨B3, (XImages.flatMap eN0)⟩, ⟨B, (t.XImages.flatMap eN0)⟩, ⟨B1, (t.ZImages.flatMap eN0)⟩] := hd43
       refine sqg 39 rfl rfl (uT_ 36) hb32 (ym (vi first3) rfl (hf31.g 7 4)) ?_
       obtain ⟨r_11, hc44, hF62⟩ := bI hF62
       refine scg 40 rfl rfl (uT_ 36) hb32 (yC [.agg #[vi t32, vi t33, vi t34], vi first3] K57 (c_impl_letterOf (TPauli.mk t32 t33 t34) first3 _  (hd43.inn0 [] rfl) hc44)) ?_
       rintro _ w_84 ⟨rfl, hd44⟩
       have hS160 := hd43.out00 hd44
       refine sqg 41 rfl rfl (uT_ 36) hb32 (Y_ne (k := .u8) (a := r_11) (b := 88) rfl rfl rfl) ?_
       refine sQ 42 (Y_pickT (b := (decide (first3 < (i64.wrap (Qubits16 - 1))))) (v := .bool (r_11 != 88)) rfl rfl hb32 rfl) (rn ?_)
       refine cw_cond (b := (r_11 != 88)) rfl (fun hb33 => ?_) (fun hb33 => ?_)
       ·skip
        have hF63 := ct hF62 hb33
        refine cw_skip (cw_block (cr ?_))
        refine sQ 43 (ym (vi first3) rfl (hf31.g 7 4)) <| sQ 44 (yP first3 1) <| sQ 7 (yg (vi (i64.wrap (first3 + 1)))) (rn ?_)
        obtain rfl := sI hF63
        exact ⟨K72, Nat.lt_succ_self _, (i64.wrap (first3 + 1)), (fc (hf31.g 2 0) (fc (hf31.g 3 1) (fc (hf31.g 4 2) (fc (hf31.g 5 3) (fc rfl fn_))))), (hS160.sel [4, 2, 3, 5, 0, 1] rfl rfl), hL15⟩
       ·skip
        have hF64 := cf' hF62 hb33
        refine cw_exit rfl ?_
        obtain rfl := sI hF64
        exact ⟨first3, (sI hL15), (fc (hf31.g 2 0) (fc (hf31.g 3 1) (fc (hf31.g 4 2) (fc (hf31.g 5 3) (fc (hf31.g 7 4) fn_))))), (hS160.sel [4, 2, 3, 5, 0, 1] rfl rfl)⟩
      ·skip
       have hF65 := cf' hb31 hb32
       refine sgn 38 rfl rfl (uT_ 36) hb32 ?_
       refine sgn 39 rfl rfl (uT_ 36) hb32 ?_
       refine sgn 40 rfl rfl (uT_ 36) hb32 ?_
       refine sgn 41 rfl rfl (uT_ 36) hb32 ?_
       refine sQ 42 (Y_pickF (b := (decide (first3 < (i64.wrap (Qubits16 - 1))))) (v := .bool false) rfl rfl hb32 rfl) (rn ?_)
       refine cw_cond (b := false) rfl (fun h => by cases h) (fun _ => ?_)
       refine cw_exit rfl ?_
       obtain rfl := sI hF65
       exact ⟨first3, (sI hL15), (fc (hf31.g 2 0) (fc (hf31.g 3 1) (fc (hf31.g 4 2) (fc (hf31.g 5 3) (fc (hf31.g 7 4) fn_))))), (hS152.sel [0, 1, 2, 3, 4, 5] rfl rfl)⟩
     rintro f w ⟨first2, rfl, hf30, hS151⟩
     refine cq ?_
     obtain ⟨z14, hz14, hF66⟩ := bI hF61
     refine cw_mid (fun f w => ∃ (Qubits18 : Int) (XImages18 : List TPauli) (ZImages18 : List TPauli) (gates18 : List TGate) (B111 : Option Addr) (c111 : Nat) (B112 : Option Addr) (c112 : Nat) (B113 : Option Addr) (c113 : Nat), (Qubits18, XImages18, ZImages18, gates18) = z14 ∧ FF f [(2, pt (aD b17) 0), (3, pt (aD b18) 0), (4, .func (.func 52) #[] #[pt (aD b17) 0, pt (aD b18) 0]), (5, .func (.func 53) #[] #[pt (aD b17) 0, pt (aD b18) 0])] ∧ Org w0 [] [⟨B, (t.XImages.flatMap eN0)⟩, ⟨B1, (t.ZImages.flatMap eN0)⟩] [⟨B111, (XImages18.flatMap eN0)⟩] ∧ XImages18.length ≤ c111 ∧ Org w0 [] [⟨B, (t.XImages.flatMap eN0)⟩, ⟨B1, (t.ZImages.flatMap eN0)⟩] [⟨B112, (ZImages18.flatMap eN0)⟩] ∧ ZImages18.length ≤ c112 ∧ ST w0 [] w [⟨aD b17, 62, [pt (aD b2) 0], 1⟩, ⟨aD b2, 64, [vi Qubits18, .slice B111 XImages18.length c111, .slice B112 ZImages18.length c112, .slice B113 gates18.length c113], 4⟩, ⟨B113, 55, (gates18.flatMap eN2), c113 * 3⟩, ⟨aD b18, 3, [vi t1], 1⟩, ⟨aD b, 40, [vi t.Qubits, .slice B t.XImages.length c, .slice B1 t.ZImages.length c1], 3⟩, ⟨aD b1, 28, [vi 0, .slice none 0 0], 2⟩] [⟨B112, (ZImages18.flatMap eN0)⟩, ⟨B111, (XImages18.flatMap eN0)⟩, ⟨B94, (ZImages16.flatMap eN0)⟩, ⟨B93, (XImages16.flatMap eN0)⟩, ⟨B4, (ZImages.flatMap eN0)⟩, ⟨B3, (XImages.flatMap eN0)⟩, ⟨B, (t.XImages.flatMap eN0)⟩, ⟨B1, (t.ZImages.flatMap eN0)⟩]) ?_ ?_
     ·skip
      refine cq (cr ?_)
      refine sQ 45 (ym (vi first2) rfl (hf30.g 7 4)) <| sQ 46 (yl (aD b18) 0 [vi t1] (vi t1) K4 (hS151.c 3) rfl (hf30.g 3 1)) <| sQ 47 (Y_ne (k := .i64) (a := first2) (b := t1) rfl rfl rfl) (rn ?_)
      refine cw_cond (b := (first2 != t1)) rfl (fun hb34 => ?_) (fun hb34 => ?_)
      ·skip
       have hF67 := ct hz14 hb34
       refine cq (cr ?_)
       refine sQ 48 (yl (aD b17) 0 [pt (aD b2) 0] (pt (aD b2) 0) K27 (hS151.c 0) rfl (hf30.g 2 0)) <| sQ 49 (ym (vi first2) rfl (hf30.g 7 4)) <| sQ 50 (yl (aD b18) 0 [vi t1] (vi t1) K4 (hS151.c 3) rfl (hf30.g 3 1)) ?_
       obtain ⟨m18, hc45, hF67⟩ := bI hF67
       refine sc 51 rfl rfl (yC [pt (aD b2) 0, vi 9, vi first2, vi t1] K44 (c_impl_reducer_add (Treducer.mk (TTableau.mk Qubits16 XImages16 ZImages16) gates16) 9 first2 t1 (aD b2) B93 c93 XImages16.length B94 c94 ZImages16.length B95 c95 gates16.length _ rfl rfl rfl (hS151.inn [false, true, true, false, false, false] rfl [(true, 1), (true, 0)] rfl) hc45)) ?_
       rintro _ w_85 ⟨B114, c114, B115, c115, B116, c116, rfl, hd45⟩
       have hS162 := hS151.out [false, true, true, false, false, false] rfl hd45
       have hS162 : ST w0 [] _ [⟨aD b17, 62, [pt (aD b2) 0], 1⟩, ⟨aD b18, 3, [vi t1], 1⟩, ⟨aD b, 40, [vi t.Qubits, .slice B t.XImages.length c, .slice B1 t.ZImages.length c1], 3⟩, ⟨aD b1, 28, [vi 0, .slice none 0 0], 2⟩, ⟨aD b2, 64, [vi m18.t.Qubits, .slice B114 m18.t.XImages.length c114, .slice B115 m18.t.ZImages.length c115, .slice B116 m18.gates.length c116], 4⟩, ⟨B114, 71, (m18.t.XImages.flatMap eN0), c114 * 3⟩, ⟨B115, 71, (m18.t.ZImages.flatMap eN0), c115 * 3⟩, ⟨B116, 55, (m18.gates.flatMap eN2), c116 * 3⟩] [⟨B94, (ZImages16.flatMap eN0)⟩, ⟨B93, (XImages16.flatMap eN0)⟩, ⟨B4, (ZImages.flatMap eN0)⟩, ⟨B3, (XImages.flatMap eN0)⟩, ⟨B, (t.XImages.flatMap eN0)⟩, ⟨B1, (t.ZImages.flatMap eN0)⟩] := hS162
       refine rn (cq (cr ?_))
       refine sQ 52 (yl (aD b17) 0 [pt (aD b2) 0] (pt (aD b2) 0) K27 (hS162.c 0) rfl (hf30.g 2 0)) <| sQ 53 (yl (aD b18) 0 [vi t1] (vi t1) K4 (hS162.c 1) rfl (hf30.g 3 1)) <| sQ 54 (ym (vi first2) rfl (hf30.g 7 4)) ?_
       obtain ⟨m19, hc46, hF67⟩ := bI hF67
       refine sc 55 rfl rfl (yC [pt (aD b2) 0, vi 9, vi t1, vi first2] K44 (c_impl_reducer_add m18 9 t1 first2 (aD b2) B114 c114 m18.t.XImages.length B115 c115 m18.t.ZImages.length B116 c116 m18.gates.length _ rfl rfl rfl (hS162.inn [false, false, false, false, true, false, false, true] rfl [(false, 4), (false, 5)] rfl) hc46)) ?_
       rintro _ w_86 ⟨B117, c117, B118, c118, B119, c119, rfl, hd46⟩
       have hS163 := hS162.out [false, false, false, false, true, false, false, true] rfl hd46
       refine rn (cr ?_)
       refine sQ 56 (yl (aD b17) 0 [pt (aD b2) 0] (pt (aD b2) 0) K27 (hS163.c 0) rfl (hf30.g 2 0)) <| sQ 57 (ym (vi first2) rfl (hf30.g 7 4)) <| sQ 58 (yl (aD b18) 0 [vi t1] (vi t1) K4 (hS163.c 1) rfl (hf30.g 3 1)) ?_
       obtain ⟨m20, hc47, hF67⟩ := bI hF67
       refine sc 59 rfl rfl (yC [pt (aD b2) 0, vi 9, vi first2, vi t1] K44 (c_impl_reducer_add m19 9 first2 t1 (aD b2) B117 c117 m19.t.XImages.length B118 c118 m19.t.ZImages.length B119 c119 m19.gates.length _ rfl rfl rfl (hS163.inn [false, false, false, false, false, false, true, false, false, true] rfl [(false, 6), (false, 7)] rfl) hc47)) ?_
       rintro _ w_87 ⟨B120, c120, B121, c121, B122, c122, rfl, hd47⟩
       have hS164 := hS163.out [false, false, false, false, false, false, true, false, false, true] rfl hd47
       refine rn ?_
       have ho48 : Org w0 [] [⟨B, (t.XImages.flatMap eN0)⟩, ⟨B1, (t.ZImages.flatMap eN0)⟩] [⟨B120, (m20.t.XImages.flatMap eN0)⟩] := ST.orgOwn hS164 (i := 9) rfl
       have hcap22 : m20.t.XImages.length ≤ c120 := (hS164.lencap (i := 9) rfl (fm_lenn (l := m20.t.XImages) eN1 rfl) rfl rfl)
       have hS165 : ST w0 [] _ [⟨aD b17, 62, [pt (aD b2) 0], 1⟩, ⟨aD b18, 3, [vi t1], 1⟩, ⟨aD b, 40, [vi t.Qubits, .slice B t.XImages.length c, .slice B1 t.ZImages.length c1], 3⟩, ⟨aD b1, 28, [vi 0, .slice none 0 0], 2⟩, ⟨B114, 71, (m18.t.XImages.flatMap eN0), c114 * 3⟩, ⟨B115, 71, (m18.t.ZImages.flatMap eN0), c115 * 3⟩, ⟨B117, 71, (m19.t.XImages.flatMap eN0), c117 * 3⟩, ⟨B118, 71, (m19.t.ZImages.flatMap eN0), c118 * 3⟩, ⟨aD b2, 64, [vi m20.t.Qubits, .slice B120 m20.t.XImages.length c120, .slice B121 m20.t.ZImages.length c121, .slice B122 m20.gates.length c122], 4⟩, ⟨B121, 71, (m20.t.ZImages.flatMap eN0), c121 * 3⟩, ⟨B122, 55, (m20.gates.flatMap eN2), c122 * 3⟩] [⟨B120, (m20.t.XImages.flatMap eN0)⟩, ⟨B94, (ZImages16.flatMap eN0)⟩, ⟨B93, (XImages16.flatMap eN0)⟩, ⟨B4, (ZImages.flatMap eN0)⟩, ⟨B3, (XImages.flatMap eN0)⟩, ⟨B, (t.XImages.flatMap eN0)⟩, ⟨B1, (t.ZImages.flatMap eN0)⟩] := hS164.freeze (i := 9) rfl
       have ho49 : Org w0 [] [⟨B, (t.XImages.flatMap eN0)⟩, ⟨B1, (t.ZImages.flatMap eN0)⟩] [⟨B121, (m20.t.ZImages.flatMap eN0)⟩] := ST.orgOwn hS165 (i := 9) rfl
       have hcap23 : m20.t.ZImages.length ≤ c121 := (hS165.lencap (i := 9) rfl (fm_lenn (l := m20.t.ZImages) eN1 rfl) rfl rfl)
       have hS166 : ST w0 [] _ [⟨aD b17, 62, [pt (aD b2) 0], 1⟩, ⟨aD b18, 3, [vi t1], 1⟩, ⟨aD b, 40, [vi t.Qubits, .slice B t.XImages.length c, .slice B1 t.ZImages.length c1], 3⟩, ⟨aD b1, 28, [vi 0, .slice none 0 0], 2⟩, ⟨B114, 71, (m18.t.XImages.flatMap eN0), c114 * 3⟩, ⟨B115, 71, (m18.t.ZImages.flatMap eN0), c115 * 3⟩, ⟨B117, 71, (m19.t.XImages.flatMap eN0), c117 * 3⟩, ⟨B118, 71, (m19.t.ZImages.flatMap eN0), c118 * 3⟩, ⟨aD b2, 64, [vi m20.t.Qubits, .slice B120 m20.t.XImages.length c120, .slice B121 m20.t.ZImages.length c121, .slice B122 m20.gates.length c122], 4⟩, ⟨B122, 55, (m20.gates.flatMap eN2), c122 * 3⟩] [⟨B121, (m20.t.ZImages.flatMap eN0)⟩, ⟨B120, (m20.t.XImages.flatMap eN0)⟩, ⟨B94, (ZImages16.flatMap eN0)⟩, ⟨B93, (XImages16.flatMap eN0)⟩, ⟨B4, (ZImages.flatMap eN0)⟩, ⟨B3, (XImages.flatMap eN0)⟩, ⟨B, (t.XImages.flatMap eN0)⟩, ⟨B1, (t.ZImages.flatMap eN0)⟩] := hS165.freeze (i := 9) rfl
       exact ⟨m20.t.Qubits, m20.t.XImages, m20.t.ZImages, m20.gates, B120, c120, B121, c121, B122, c122, (sI hF67), (fc (hf30.g 2 0) (fc (hf30.g 3 1) (fc (hf30.g 4 2) (fc (hf30.g 5 3) fn_)))), ho48, (len_le rfl hcap22), ho49, (len_le rfl hcap23), (hS166.sel [0, 8, 9, 1, 2, 3] rfl rfl)⟩
      ·skip
       have hF68 := cf' hz14 hb34
       refine cw_skip ?_
       have hS167 : ST w0 [] _ [⟨aD b17, 62, [pt (aD b2) 0], 1⟩, ⟨aD b2, 64, [vi Qubits16, .slice B93 XImages16.length c93, .slice B94 ZImages16.length c94, .slice B95 gates16.length c95], 4⟩, ⟨B95, 55, (gates16.flatMap eN2), c95 * 3⟩, ⟨aD b18, 3, [vi t1], 1⟩, ⟨aD b, 40, [vi t.Qubits, .slice B t.XImages.length c, .slice B1 t.ZImages.length c1], 3⟩, ⟨aD b1, 28, [vi 0, .slice none 0 0], 2⟩] [⟨B94, (ZImages16.flatMap eN0)⟩, ⟨B93, (XImages16.flatMap eN0)⟩, ⟨B94, (ZImages16.flatMap eN0)⟩, ⟨B93, (XImages16.flatMap eN0)⟩, ⟨B4, (ZImages.flatMap eN0)⟩, ⟨B3, (XImages.flatMap eN0)⟩, ⟨B, (t.XImages.flatMap eN0)⟩, ⟨B1, (t.ZImages.flatMap eN0)⟩] := ST.subR hS151 (sk 0 (sk 1 (sk 0 (sk 1 (sk 2 (sk 3 (sk 4 (sk 5 (fun _ h => by cases h)))))))))
       exact ⟨Qubits16, XImages16, ZImages16, gates16, B93, c93, B94, c94, B95, c95, (sI hF68), (fc (hf30.g 2 0) (fc (hf30.g 3 1) (fc (hf30.g 4 2) (fc (hf30.g 5 3) fn_)))), ho34, (len_le rfl hq22), ho35, (len_le rfl hq23), (hS167.sel [0, 1, 2, 3, 4, 5] rfl rfl)⟩
     rintro f w ⟨Qubits18, XImages18, ZImages18, gates18, B111, c111, B112, c112, B113, c113, rfl, hf33, ho46, hq26, ho47, hq27, hS161⟩
     refine cq (cr ?_)
     refine sQ 60 (yl (aD b17) 0 [pt (aD b2) 0] (pt (aD b2) 0) K27 (hS161.c 0) rfl (hf33.g 2 0)) <| sQ 61 (yl (aD b18) 0 [vi t1] (vi t1) K4 (hS161.c 3) rfl (hf33.g 3 1)) <| sQ 62 (ym (.func (.func 52) #[] #[pt (aD b17) 0, pt (aD b18) 0]) rfl (hf33.g 4 2)) ?_
     obtain ⟨⟨Qubits19, XImages19, ZImages19, gates19⟩, hc51, hF66⟩ := bI hF66
     refine sc 63 rfl rfl (Yc_func (g := 57) (vs := [pt (aD b2) 0, vi t1, .func (.func 52) #[] #[pt (aD b17) 0, pt (aD b18) 0]]) (R := fun v w' => ∃ (B123 : Option Addr) (c123 : Nat) (B124 : Option Addr) (c124 : Nat) (B125 : Option Addr) (c125 : Nat), v = .tuple #[] ∧ XImages19.length = XImages19.length ∧ Org w0 [] [⟨B, (t.XImages.flatMap eN0)⟩, ⟨B1, (t.ZImages.flatMap eN0)⟩] [⟨B123, (XImages19.flatMap eN0)⟩] ∧ XImages19.length ≤ c123 ∧ ZImages19.length = ZImages19.length ∧ Org w0 [] [⟨B, (t.XImages.flatMap eN0)⟩, ⟨B1, (t.ZImages.flatMap eN0)⟩] [⟨B124, (ZImages19.flatMap eN0)⟩] ∧ ZImages19.length ≤ c124 ∧ gates19.length = gates19.length ∧ ST w0 [] w' [⟨aD b, 40, [vi t.Qubits, .slice B t.XImages.length c, .slice B1 t.ZImages.length c1], 3⟩, ⟨aD b1, 28, [vi 0, .slice none 0 0], 2⟩, ⟨aD b2, 64, [vi Qubits19, .slice B123 XImages19.length c123, .slice B124 ZImages19.length c124, .slice B125 gates19.length c125], 4⟩, ⟨B125, 55, (gates19.flatMap eN2), c125 * 3⟩, ⟨aD b17, 62, [pt (aD b2) 0], 1⟩, ⟨aD b18, 3, [vi t1], 1⟩] [⟨B124, (ZImages19.flatMap eN0)⟩, ⟨B123, (XImages19.flatMap eN0)⟩, ⟨B112, (ZImages18.flatMap eN0)⟩, ⟨B111, (XImages18.flatMap eN0)⟩, ⟨B94, (ZImages16.flatMap eN0)⟩, ⟨B93, (XImages16.flatMap eN0)⟩, ⟨B4, (ZImages.flatMap eN0)⟩, ⟨B3, (XImages.flatMap eN0)⟩, ⟨B, (t.XImages.flatMap eN0)⟩, ⟨B1, (t.ZImages.flatMap eN0)⟩]) k_call_57 rfl (mc rfl (mc rfl (mc rfl mn))) ?cv) ?_
     case cv =>
      show CV Try.prog 57 #[pt (aD b2) 0, vi t1, .func (.func 52) #[] #[pt (aD b17) 0, pt (aD b18) 0]] _ _
      refine cv_of_cw 27 Try.func57 rfl Try.ntmps57 rfl ?_
      refine cq (cr ?_)
      refine sQ 7 (ym (vi t1)) <| sQ 8 (yP t1 1) <| sQ 6 (yg (vi (i64.wrap (t1 + 1)))) (rn ?_)
      obtain ⟨z17, hz17, hF75⟩ := bI hc51
      have hS183 : ST w0 [] _ [⟨aD b17, 62, [pt (aD b2) 0], 1⟩, ⟨aD b2, 64, [vi Qubits18, .slice B111 XImages18.length c111, .slice B112 ZImages18.length c112, .slice B113 gates18.length c113], 4⟩, ⟨B113, 55, (gates18.flatMap eN2), c113 * 3⟩, ⟨aD b18, 3, [vi t1], 1⟩, ⟨aD b, 40, [vi t.Qubits, .slice B t.XImages.length c, .slice B1 t.ZImages.length c1], 3⟩, ⟨aD b1, 28, [vi 0, .slice none 0 0], 2⟩] [⟨B112, (ZImages18.flatMap eN0)⟩, ⟨B111, (XImages18.flatMap eN0)⟩, ⟨B112, (ZImages18.flatMap eN0)⟩, ⟨B111, (XImages18.flatMap eN0)⟩, ⟨B94, (ZImages16.flatMap eN0)⟩, ⟨B93, (XImages16.flatMap eN0)⟩, ⟨B4, (ZImages.flatMap eN0)⟩, ⟨B3, (XImages.flatMap eN0)⟩, ⟨B, (t.XImages.flatMap eN0)⟩, ⟨B1, (t.ZImages.flatMap eN0)⟩] := ST.subR hS161 (sk 0 (sk 1 (sk 0 (sk 1 (sk 2 (sk 3 (sk 4 (sk 5 (sk 6 (sk 7 (fun _ h => by cases h)))))))))))
      refine cw_block ?_
      refine cw_loop (fun k f w => ∃ (Qubits22 : Int) (XImages22 : List TPauli) (ZImages22 : List TPauli) (gates22 : List TGate) (s6 : Int) (B135 : Option Addr) (c135 : Nat) (B136 : Option Addr) (c136 : Nat) (B137 : Option Addr) (c137 : Nat), FF f [(0, pt (aD b2) 0), (1, vi t1), (2, .func (.func 52) #[] #[pt (aD b17) 0, pt (aD b18) 0]), (6, vi s6)] ∧ Org w0 [] [⟨B, (t.XImages.flatMap eN0)⟩, ⟨B1, (t.ZImages.flatMap eN0)⟩] [⟨B135, (XImages22.flatMap eN0)⟩] ∧ XImages22.length ≤ c135 ∧ Org w0 [] [⟨B, (t.XImages.flatMap eN0)⟩, ⟨B1, (t.ZImages.flatMap eN0)⟩] [⟨B136, (ZImages22.flatMap eN0)⟩] ∧ ZImages22.length ≤ c136 ∧ ST w0 [] w [⟨aD b2, 64, [vi Qubits22, .slice B135 XImages22.length c135, .slice B136 ZImages22.length c136, .slice B137 gates22.length c137], 4⟩, ⟨B137, 55, (gates22.flatMap eN2), c137 * 3⟩, ⟨aD b17, 62, [pt (aD b2) 0], 1⟩, ⟨aD b18, 3, [vi t1], 1⟩, ⟨aD b, 40, [vi t.Qubits, .slice B t.XImages.length c, .slice B1 t.ZImages.length c1], 3⟩, ⟨aD b1, 28, [vi 0, .slice none 0 0], 2⟩] [⟨B136, (ZImages22.flatMap eN0)⟩, ⟨B135, (XImages22.flatMap eN0)⟩, ⟨B112, (ZImages18.flatMap eN0)⟩, ⟨B111, (XImages18.flatMap eN0)⟩, ⟨B94, (ZImages16.flatMap eN0)⟩, ⟨B93, (XImages16.flatMap eN0)⟩, ⟨B4, (ZImages.flatMap eN0)⟩, ⟨B3, (XImages.flatMap eN0)⟩, ⟨B, (t.XImages.flatMap eN0)⟩, ⟨B1, (t.ZImages.flatMap eN0)⟩] ∧ whX (F_impl_SynthesizeClifford_l4 t1) k (Qubits22, XImages22, ZImages22, gates22, s6) = some z17) fuel ⟨Qubits18, XImages18, ZImages18, gates18, (i64.wrap (t1 + 1)), B111, c111, B112, c112, B113, c113, (fc rfl (fc rfl (fc rfl (fc rfl fn_)))), ho46, (len_le rfl hq26), ho47, (len_le rfl hq27), (hS183.sel [1, 2, 0, 3, 4, 5] rfl rfl), hz17⟩ ?_
      rintro k_18 f w ⟨Qubits22, XImages22, ZImages22, gates22, s6, B135, c135, B136, c136, B137, c137, hf38, ho58, hq34, ho59, hq35, hS182, hL18⟩
      obtain ⟨k_19, y9, rfl, hb38, hL19⟩ := whX_go hL18
      unfold F_impl_SynthesizeClifford_l4 at hb38
      refine cq (cq (cr ?_))
      refine sQ 9 (ym (vi s6) rfl (hf38.g 6 3)) <| sQ 10 (ym (pt (aD b2) 0) rfl (hf38.g 0 0)) <| sQ 11 (Y_nilCheck (B := aD b2) (i := 0) rfl rfl) <| sQ 12 (yd (aD b2) 0 2 K35 K10) <| sQ 13 (yd (aD b2) 0 0 K30 K3) <| sQ 14 (yl (aD b2) 0 [vi Qubits22, .slice B135 XImages22.length c135, .slice B136 ZImages22.length c136, .slice B137 gates22.length c137] (vi Qubits22) K4 (hS182.c 0)) ?_
      refine sQ 15 (yL s6 Qubits22) (rn ?_)
      refine cw_cond (b := (decide (s6 < Qubits22))) rfl (fun hb39 => ?_) (fun hb39 => ?_)
      ·skip
       have hF76 := ct hb38 hb39
       refine cw_skip (cq ?_)
       obtain ⟨z18, hz18, hF77⟩ := bI hF76
       refine cw_mid (fun f w => ∃ (Qubits23 : Int) (XImages23 : List TPauli) (ZImages23 : List TPauli) (gates23 : List TGate) (B138 : Option Addr) (c138 : Nat) (B139 : Option Addr) (c139 : Nat) (B140 : Option Addr) (c140 : Nat), (Qubits23, XImages23, ZImages23, gates23) = z18 ∧ FF f [(0, pt (aD b2) 0), (1, vi t1), (2, .func (.func 52) #[] #[pt (aD b17) 0, pt (aD b18) 0]), (6, vi s6)] ∧ Org w0 [] [⟨B, (t.XImages.flatMap eN0)⟩, ⟨B1, (t.ZImages.flatMap eN0)⟩] [⟨B138, (XImages23.flatMap eN0)⟩] ∧ XImages23.length ≤ c138 ∧ Org w0 [] [⟨B, (t.XImages.flatMap eN0)⟩, ⟨B1, (t.ZImages.flatMap eN0)⟩] [⟨B139, (ZImages23.flatMap eN0)⟩] ∧ ZImages23.length ≤ c139 ∧ ST w0 [] w [⟨aD b2, 64, [vi Qubits23, .slice B138 XImages23.length c138, .slice B139 ZImages23.length c139, .slice B140 gates23.length c140], 4⟩, ⟨B140, 55, (gates23.flatMap eN2), c140 * 3⟩, ⟨aD b17, 62, [pt (aD b2) 0], 1⟩, ⟨aD b18, 3, [vi t1], 1⟩, ⟨aD b, 40, [vi t.Qubits, .slice B t.XImages.length c, .slice B1 t.ZImages.length c1], 3⟩, ⟨aD b1, 28, [vi 0, .slice none 0 0], 2⟩] [⟨B139, (ZImages23.flatMap eN0)⟩, ⟨B138, (XImages23.flatMap eN0)⟩, ⟨B136, (ZImages22.flatMap eN0)⟩, ⟨B135, (XImages22.flatMap eN0)⟩, ⟨B112, (ZImages18.flatMap eN0)⟩, ⟨B111, (XImages18.flatMap eN0)⟩, ⟨B94, (ZImages16.flatMap eN0)⟩, ⟨B93, (XImages16.flatMap eN0)⟩, ⟨B4, (ZImages.flatMap eN0)⟩, ⟨B3, (XImages.flatMap eN0)⟩, ⟨B, (t.XImages.flatMap eN0)⟩, ⟨B1, (t.ZImages.flatMap eN0)⟩]) ?_ ?_
       ·skip
        refine cw_block (cq (cr ?_))
        refine sQ 18 (ym (.func (.func 52) #[] #[pt (aD b17) 0, pt (aD b18) 0]) rfl (hf38.g 2 2)) ?_
        obtain ⟨⟨t38, t39, t40⟩, hc52, hz18⟩ := bI hz18
        refine sc 19 rfl rfl (Yc_clos (g := 52) (vs := [pt (aD b17) 0, pt (aD b18) 0]) (R := fun v w' => v = .agg #[vi t38, vi t39, vi t40] ∧ ST w0 [] w' [⟨aD b, 40, [vi t.Qubits, .slice B t.XImages.length c, .slice B1 t.ZImages.length c1], 3⟩, ⟨aD b1, 28, [vi 0, .slice none 0 0], 2⟩, ⟨aD b2, 64, [vi Qubits22, .slice B135 XImages22.length c135, .slice B136 ZImages22.length c136, .slice B137 gates22.length c137], 4⟩, ⟨B137, 55, (gates22.flatMap eN2), c137 * 3⟩, ⟨aD b17, 62, [pt (aD b2) 0], 1⟩, ⟨aD b18, 3, [vi t1], 1⟩] [⟨B136, (ZImages22.flatMap eN0)⟩, ⟨B135, (XImages22.flatMap eN0)⟩, ⟨B112, (ZImages18.flatMap eN0)⟩, ⟨B111, (XImages18.flatMap eN0)⟩, ⟨B94, (ZImages16.flatMap eN0)⟩, ⟨B93, (XImages16.flatMap eN0)⟩, ⟨B4, (ZImages.flatMap eN0)⟩, ⟨B3, (XImages.flatMap eN0)⟩, ⟨B, (t.XImages.flatMap eN0)⟩, ⟨B1, (t.ZImages.flatMap eN0)⟩]) K76 rfl rfl (clo_args mn) ?cv) ?_
        case cv =>
         show CV Try.prog 52 #[pt (aD b17) 0, pt (aD b18) 0] _ _
         refine cv_of_cw 11 Try.func52 rfl Try.ntmps52 rfl ?_
         refine cq (cr ?_)
         refine sS 2 (yN [vi 0, vi 0, vi 0] 3 hS182 K5) ?_
         rintro _ w_97 ⟨b27, rfl, hS189⟩
         refine rn (cq ?_)
         obtain ⟨x15, hx15, hc52⟩ := bI hc52
         refine ra_start (hS189.se [0, 1, 2, 3, 4, 5]).fn (by kernel_rfl) ?_
         have hS190 := hS189.drew
         refine rq 0 3 (v := pt (aD b2) 0) rfl (hS190.se [0, 1, 2, 3, 4, 5]) (fun w' hw' => (yl (aD b17) 0 [pt (aD b2) 0] (pt (aD b2) 0) K27 (ST.cf hw' (i := 2) rfl))) ?_
         refine rq 1 4 (v := pt (aD b2) 0) rfl (hS190.se [0, 1, 2, 3, 4, 5]) (fun w' hw' => (Y_nilCheck (B := aD b2) (i := 0) rfl rfl)) ?_
         refine rq 2 5 (v := pt (aD b2) 0) rfl (hS190.se [0, 1, 2, 3, 4, 5]) (fun w' hw' => (yd (aD b2) 0 2 K35 K10)) ?_
         refine rq 3 6 (v := pt (aD b2) 1) rfl (hS190.se [0, 1, 2, 3, 4, 5]) (fun w' hw' => (yd (aD b2) 0 0 K9 K1)) ?_
         refine rq 4 7 (v := .slice B135 XImages22.length c135) rfl (hS190.se [0, 1, 2, 3, 4, 5]) (fun w' hw' => (yl (aD b2) 1 [vi Qubits22, .slice B135 XImages22.length c135, .slice B136 ZImages22.length c136, .slice B137 gates22.length c137] (.slice B135 XImages22.length c135) K6 (ST.cf hw' (i := 0) rfl))) ?_
         refine rq 5 8 (v := vi t1) rfl (hS190.se [0, 1, 2, 3, 4, 5]) (fun w' hw' => (yl (aD b18) 0 [vi t1] (vi t1) K4 (ST.cf hw' (i := 3) rfl))) ?_
         refine rq 6 9 (v := pt B135 (t1.toNat * 3)) rfl (hS190.se [0, 1, 2, 3, 4, 5]) (fun w' hw' => (Y_index (B := B135) (m := XImages22.length) (c := c135) (k := .i64) (i := t1) K2 K0 rfl rfl rfl (gi_isSome eN1 rfl (ST.rf hw' (i := 1) rfl) hx15) (getI_nn hx15) (getI_ltI hx15 rfl))) ?_
         refine rq 7 10 (v := .agg #[vi x15.Phase, vi x15.X, vi x15.Z]) rfl (hS190.se [0, 1, 2, 3, 4, 5]) (fun w' hw' => (ya B135 (t1.toNat * 3) (XImages22.flatMap eN0) [vi x15.Phase, vi x15.X, vi x15.Z] K14 K0 (ST.rf hw' (i := 1) rfl) rfl rfl (eN1 x15) (gi_seg eN1 hx15))) ?_
         refine rA [8] ?_
         refine rZ 8 rfl (yT 6 3 (aD b27) 71 (.agg #[vi x15.Phase, vi x15.X, vi x15.Z]) [vi x15.Phase, vi x15.X, vi x15.Z] 0 hS190 K0) ?_ ?_
         ·rintro _ w_98 ⟨rfl, hS191⟩
          have hS191 : ST w0 [] _ [⟨aD b2, 64, [vi Qubits22, .slice B135 XImages22.length c135, .slice B136 ZImages22.length c136, .slice B137 gates22.length c137], 4⟩, ⟨B137, 55, (gates22.flatMap eN2), c137 * 3⟩, ⟨aD b17, 62, [pt (aD b2) 0], 1⟩, ⟨aD b18, 3, [vi t1], 1⟩, ⟨aD b, 40, [vi t.Qubits, .slice B t.XImages.length c, .slice B1 t.ZImages.length c1], 3⟩, ⟨aD b1, 28, [vi 0, .slice none 0 0], 2⟩, ⟨aD b27, 71, [vi x15.Phase, vi x15.X, vi x15.Z], 3⟩] [⟨B136, (ZImages22.flatMap eN0)⟩, ⟨B135, (XImages22.flatMap eN0)⟩, ⟨B112, (ZImages18.flatMap eN0)⟩, ⟨B111, (XImages18.flatMap eN0)⟩, ⟨B94, (ZImages16.flatMap eN0)⟩, ⟨B93, (XImages16.flatMap eN0)⟩, ⟨B4, (ZImages.flatMap eN0)⟩, ⟨B3, (XImages.flatMap eN0)⟩, ⟨B, (t.XImages.flatMap eN0)⟩, ⟨B1, (t.ZImages.flatMap eN0)⟩] := hS191
          refine ⟨(hS191.se [0, 1, 2, 3, 4, 5]), ?_⟩
          refine ra_done (by kernel_rfl) ?_
          refine ct_ ?_
          obtain ⟨rfl, rfl, rfl⟩ := pr3 (sI hc52)
          exact ret1 Try.results52 (v1 := .agg #[vi x15.Phase, vi x15.X, vi x15.Z]) (resAt_cellA (B := aD b27) (i := 0) (cs := [vi x15.Phase, vi x15.X, vi x15.Z]) (vs := [vi x15.Phase, vi x15.X, vi x15.Z]) rfl K14 K0 (hS191.c 6) rfl rfl) ⟨rfl, (hS191.sel [4, 5, 0, 1, 2, 3] rfl rfl)⟩
         exact aN
        rintro _ w_96 ⟨rfl, hd52⟩
        have hd52 : ST w0 [] _ [⟨aD b, 40, [vi t.Qubits, .slice B t.XImages.length c, .slice B1 t.ZImages.length c1], 3⟩, ⟨aD b1, 28, [vi 0, .slice none 0 0], 2⟩, ⟨aD b2, 64, [vi Qubits22, .slice B135 XImages22.length c135, .slice B136 ZImages22.length c136, .slice B137 gates22.length c137], 4⟩, ⟨B137, 55, (gates22.flatMap eN2), c137 * 3⟩, ⟨aD b17, 62, [pt (aD b2) 0], 1⟩, ⟨aD b18, 3, [vi t1], 1⟩] [⟨B136, (ZImages22.flatMap eN0)⟩, ⟨B135, (XImages22.flatMap eN0)⟩, ⟨B112, (ZImages18.flatMap eN0)⟩, ⟨B111, (XImages18.flatMap eN0)⟩, ⟨B94, (ZImages16.flatMap eN0)⟩, ⟨B93, (XImages16.flatMap eN0)⟩, ⟨B4, (ZImages.flatMap eN0)⟩, ⟨B3, (XImages.flatMap eN0)⟩, ⟨B, (t.XImages.flatMap eN0)⟩, ⟨B1, (t.ZImages.flatMap eN0)⟩] := hd52
        refine sQ 20 (ym (vi s6) rfl (hf38.g 6 3)) ?_
        obtain ⟨r_13, hc53, hz18⟩ := bI hz18
        refine sc 21 rfl rfl (yC [.agg #[vi t38, vi t39, vi t40], vi s6] K57 (c_impl_letterOf (TPauli.mk t38 t39 t40) s6 _  (hd52.inn0 [] rfl) hc53)) ?_
        rintro _ w_99 ⟨rfl, hd53⟩
        have hS192 := hd52.out00 hd53
        refine sQ 22 (Y_eq (k := .u8) (a := r_13) (b := 88) rfl rfl rfl) (rn ?_)
        refine cw_cond (b := (r_13 == 88)) rfl (fun hb40 => ?_) (fun hb40 => ?_)
        ·skip
         have hF78 := ct hz18 hb40
         refine cr ?_
         refine sQ 23 (ym (pt (aD b2) 0) rfl (hf38.g 0 0)) <| sQ 24 (ym (vi t1) rfl (hf38.g 1 1)) <| sQ 25 (ym (vi s6) rfl (hf38.g 6 3)) ?_
         obtain ⟨m22, hc54, hF78⟩ := bI hF78
         refine sc 26 rfl rfl (yC [pt (aD b2) 0, vi 9, vi t1, vi s6] K44 (c_impl_reducer_add (Treducer.mk (TTableau.mk Qubits22 XImages22 ZImages22) gates22) 9 t1 s6 (aD b2) B135 c135 XImages22.length B136 c136 ZImages22.length B137 c137 gates22.length _ rfl rfl rfl (hS192.inn [false, false, true, true, false, false] rfl [(true, 1), (true, 0)] rfl) hc54)) ?_
         rintro _ w_100 ⟨B141, c141, B142, c142, B143, c143, rfl, hd54⟩
         have hS193 := hS192.out [false, false, true, true, false, false] rfl hd54
         refine rn ?_
         have ho62 : Org w0 [] [⟨B, (t.XImages.flatMap eN0)⟩, ⟨B1, (t.ZImages.flatMap eN0)⟩] [⟨B141, (m22.t.XImages.flatMap eN0)⟩] := ST.orgOwn hS193 (i := 5) rfl
         have hcap26 : m22.t.XImages.length ≤ c141 := (hS193.lencap (i := 5) rfl (fm_lenn (l := m22.t.XImages) eN1 rfl) rfl rfl)
         have hS194 : ST w0 [] _ [⟨aD b, 40, [vi t.Qubits, .slice B t.XImages.length c, .slice B1 t.ZImages.length c1], 3⟩, ⟨aD b1, 28, [vi 0, .slice none 0 0], 2⟩, ⟨aD b17, 62, [pt (aD b2) 0], 1⟩, ⟨aD b18, 3, [vi t1], 1⟩, ⟨aD b2, 64, [vi m22.t.Qubits, .slice B141 m22.t.XImages.length c141, .slice B142 m22.t.ZImages.length c142, .slice B143 m22.gates.length c143], 4⟩, ⟨B142, 71, (m22.t.ZImages.flatMap eN0), c142 * 3⟩, ⟨B143, 55, (m22.gates.flatMap eN2), c143 * 3⟩] [⟨B141, (m22.t.XImages.flatMap eN0)⟩, ⟨B136, (ZImages22.flatMap eN0)⟩, ⟨B135, (XImages22.flatMap eN0)⟩, ⟨B112, (ZImages18.flatMap eN0)⟩, ⟨B111, (XImages18.flatMap eN0)⟩, ⟨B94, (ZImages16.flatMap eN0)⟩, ⟨B93, (XImages16.flatMap eN0)⟩, ⟨B4, (ZImages.flatMap eN0)⟩, ⟨B3, (XImages.flatMap eN0)⟩, ⟨B, (t.XImages.flatMap eN0)⟩, ⟨B1, (t.ZImages.flatMap eN0)⟩] := hS193.freeze (i := 5) rfl
         have ho63 : Org w0 [] [⟨B, (t.XImages.flatMap eN0)⟩, ⟨B1, (t.ZImages.flatMap eN0)⟩] [⟨B142, (m22.t.ZImages.flatMap eN0)⟩] := ST.orgOwn hS194 (i := 5) rfl
         have hcap27 : m22.t.ZImages.length ≤ c142 := (hS194.lencap (i := 5) rfl (fm_lenn (l := m22.t.ZImages) eN1 rfl) rfl rfl)
         have hS195 : ST w0 [] _ [⟨aD b, 40, [vi t.Qubits, .slice B t.XImages.length c, .slice B1 t.ZImages.length c1], 3⟩, ⟨aD b1, 28, [vi 0, .slice none 0 0], 2⟩, ⟨aD b17, 62, [pt (aD b2) 0], 1⟩, ⟨aD b18, 3, [vi t1], 1⟩, ⟨aD b2, 64, [vi m22.t.Qubits, .slice B141 m22.t.XImages.length c141, .slice B142 m22.t.ZImages.length c142, .slice B143 m22.gates.length c143], 4⟩, ⟨B143, 55, (m22.gates.flatMap eN2), c143 * 3⟩] [⟨B142, (m22.t.ZImages.flatMap eN0)⟩, ⟨B141, (m22.t.XImages.flatMap eN0)⟩, ⟨B136, (ZImages22.flatMap eN0)⟩, ⟨B135, (XImages22.flatMap eN0)⟩, ⟨B112, (ZImages18.flatMap eN0)⟩, ⟨B111, (XImages18.flatMap eN0)⟩, ⟨B94, (ZImages16.flatMap eN0)⟩, ⟨B93, (XImages16.flatMap eN0)⟩, ⟨B4, (ZImages.flatMap eN0)⟩, ⟨B3, (XImages.flatMap eN0)⟩, ⟨B, (t.XImages.flatMap eN0)⟩, ⟨B1, (t.ZImages.flatMap eN0)⟩] := hS194.freeze (i := 5) rfl
         exact ⟨m22.t.Qubits, m22.t.XImages, m22.t.ZImages, m22.gates, B141, c141, B142, c142, B143, c143, (sI hF78), (fc (hf38.g 0 0) (fc (hf38.g 1 1) (fc (hf38.g 2 2) (fc (hf38.g 6 3) fn_)))), ho62, (len_le rfl hcap26), ho63, (len_le rfl hcap27), (hS195.sel [4, 5, 2, 3, 0, 1] rfl rfl)⟩
        ·skip
         have hF79 := cf' hz18 hb40
         refine cw_skip ?_
         have hS196 : ST w0 [] _ [⟨aD b, 40, [vi t.Qubits, .slice B t.XImages.length c, .slice B1 t.ZImages.length c1], 3⟩, ⟨aD b1, 28, [vi 0, .slice none 0 0], 2⟩, ⟨aD b2, 64, [vi Qubits22, .slice B135 XImages22.length c135, .slice B136 ZImages22.length c136, .slice B137 gates22.length c137], 4⟩, ⟨B137, 55, (gates22.flatMap eN2), c137 * 3⟩, ⟨aD b17, 62, [pt (aD b2) 0], 1⟩, ⟨aD b18, 3, [vi t1], 1⟩] [⟨B136, (ZImages22.flatMap eN0)⟩, ⟨B135, (XImages22.flatMap eN0)⟩, ⟨B136, (ZImages22.flatMap eN0)⟩, ⟨B135, (XImages22.flatMap eN0)⟩, ⟨B112, (ZImages18.flatMap eN0)⟩, ⟨B111, (XImages18.flatMap eN0)⟩, ⟨B94, (ZImages16.flatMap eN0)⟩, ⟨B93, (XImages16.flatMap eN0)⟩, ⟨B4, (ZImages.flatMap eN0)⟩, ⟨B3, (XImages.flatMap eN0)⟩, ⟨B, (t.XImages.flatMap eN0)⟩, ⟨B1, (t.ZImages.flatMap eN0)⟩] := ST.subR hS192 (sk 0 (sk 1 (sk 0 (sk 1 (sk 2 (sk 3 (sk 4 (sk 5 (sk 6 (sk 7 (sk 8 (sk 9 (fun _ h => by cases h)))))))))))))
         exact ⟨Qubits22, XImages22, ZImages22, gates22, B135, c135, B136, c136, B137, c137, (sI hF79), (fc (hf38.g 0 0) (fc (hf38.g 1 1) (fc (hf38.g 2 2) (fc (hf38.g 6 3) fn_)))), ho58, (len_le rfl hq34), ho59, (len_le rfl hq35), (hS196.sel [2, 3, 4, 5, 0, 1] rfl rfl)⟩
       rintro f w ⟨Qubits23, XImages23, ZImages23, gates23, B138, c138, B139, c139, B140, c140, rfl, hf39, ho60, hq36, ho61, hq37, hS184⟩
       refine cr ?_
       refine sQ 16 (ym (vi s6) rfl (hf39.g 6 3)) <| sQ 17 (yP s6 1) <| sQ 6 (yg (vi (i64.wrap (s6 + 1)))) (rn ?_)
       obtain rfl := sI hF77
       have hS197 : ST w0 [] _ [⟨aD b2, 64, [vi Qubits23, .slice B138 XImages23.length c138, .slice B139 ZImages23.length c139, .slice B140 gates23.length c140], 4⟩, ⟨B140, 55, (gates23.flatMap eN2), c140 * 3⟩, ⟨aD b17, 62, [pt (aD b2) 0], 1⟩, ⟨aD b18, 3, [vi t1], 1⟩, ⟨aD b, 40, [vi t.Qubits, .slice B t.XImages.length c, .slice B1 t.ZImages.length c1], 3⟩, ⟨aD b1, 28, [vi 0, .slice none 0 0], 2⟩] [⟨B139, (ZImages23.flatMap eN0)⟩, ⟨B138, (XImages23.flatMap eN0)⟩, ⟨B112, (ZImages18.flatMap eN0)⟩, ⟨B111, (XImages18.flatMap eN0)⟩, ⟨B94, (ZImages16.flatMap eN0)⟩, ⟨B93, (XImages16.flatMap eN0)⟩, ⟨B4, (ZImages.flatMap eN0)⟩, ⟨B3, (XImages.flatMap eN0)⟩, ⟨B, (t.XImages.flatMap eN0)⟩, ⟨B1, (t.ZImages.flatMap eN0)⟩] := ST.subR hS184 (sk 0 (sk 1 (sk 4 (sk 5 (sk 6 (sk 7 (sk 8 (sk 9 (sk 10 (sk 11 (fun _ h => by cases h)))))))))))
       exact ⟨k_19, Nat.lt_succ_self _, Qubits23, XImages23, ZImages23, gates23, (i64.wrap (s6 + 1)), B138, c138, B139, c139, B140, c140, (fc (hf39.g 0 0) (fc (hf39.g 1 1) (fc (hf39.g 2 2) (fc rfl fn_)))), ho60, (len_le rfl hq36), ho61, (len_le rfl hq37), (hS197.sel [0, 1, 2, 3, 4, 5] rfl rfl), hL19⟩
      ·skip
       have hF80 := cf' hb38 hb39
       refine cw_exit rfl ?_
       obtain rfl := sI hF80
       obtain rfl := sI hL19
       obtain ⟨rfl, rfl, rfl, rfl⟩ := pr4 (sI hF75)
       exact ret0 Try.results57  ⟨B135, c135, B136, c136, B137, c137, rfl, rfl, ho58, hq34, rfl, ho59, hq35, rfl, (hS182.sel [4, 5, 0, 1, 2, 3] rfl rfl)⟩
     rintro _ w_93 ⟨B123, c123, B124, c124, B125, c125, rfl, hl6, ho50, hq28, hl7, ho51, hq29, hl8, hd51⟩
     have hd51 : ST w0 [] _ [⟨aD b, 40, [vi t.Qubits, .slice B t.XImages.length c, .slice B1 t.ZImages.length c1], 3⟩, ⟨aD b1, 28, [vi 0, .slice none 0 0], 2⟩, ⟨aD b2, 64, [vi Qubits19, .slice B123 XImages19.length c123, .slice B124 ZImages19.length c124, .slice B125 gates19.length c125], 4⟩, ⟨B125, 55, (gates19.flatMap eN2), c125 * 3⟩, ⟨aD b17, 62, [pt (aD b2) 0], 1⟩, ⟨aD b18, 3, [vi t1], 1⟩] [⟨B124, (ZImages19.flatMap eN0)⟩, ⟨B123, (XImages19.flatMap eN0)⟩, ⟨B112, (ZImages18.flatMap eN0)⟩, ⟨B111, (XImages18.flatMap eN0)⟩, ⟨B94, (ZImages16.flatMap eN0)⟩, ⟨B93, (XImages16.flatMap eN0)⟩, ⟨B4, (ZImages.flatMap eN0)⟩, ⟨B3, (XImages.flatMap eN0)⟩, ⟨B, (t.XImages.flatMap eN0)⟩, ⟨B1, (t.ZImages.flatMap eN0)⟩] := hd51
     refine rn (cq ?_)
     obtain ⟨z19, hz19, hF81⟩ := bI hF66
     refine cw_mid (fun f w => ∃ (Qubits24 : Int) (XImages24 : List TPauli) (ZImages24 : List TPauli) (gates24 : List TGate) (B144 : Option Addr) (c144 : Nat) (B145 : Option Addr) (c145 : Nat) (B146 : Option Addr) (c146 : Nat), (Qubits24, XImages24, ZImages24, gates24) = z19 ∧ FF f [(2, pt (aD b17) 0), (3, pt (aD b18) 0), (4, .func (.func 52) #[] #[pt (aD b17) 0, pt (aD b18) 0]), (5, .func (.func 53) #[] #[pt (aD b17) 0, pt (aD b18) 0])] ∧ Org w0 [] [⟨B, (t.XImages.flatMap eN0)⟩, ⟨B1, (t.ZImages.flatMap eN0)⟩] [⟨B144, (XImages24.flatMap eN0)⟩] ∧ XImages24.length ≤ c144 ∧ Org w0 [] [⟨B, (t.XImages.flatMap eN0)⟩, ⟨B1, (t.ZImages.flatMap eN0)⟩] [⟨B145, (ZImages24.flatMap eN0)⟩] ∧ ZImages24.length ≤ c145 ∧ ST w0 [] w [⟨aD b17, 62, [pt (aD b2) 0], 1⟩, ⟨aD b2, 64, [vi Qubits24, .slice B144 XImages24.length c144, .slice B145 ZImages24.length c145, .slice B146 gates24.length c146], 4⟩, ⟨B146, 55, (gates24.flatMap eN2), c146 * 3⟩, ⟨aD b18, 3, [vi t1], 1⟩, ⟨aD b, 40, [vi t.Qubits, .slice B t.XImages.length c, .slice B1 t.ZImages.length c1], 3⟩, ⟨aD b1, 28, [vi 0, .slice none 0 0], 2⟩] [⟨B145, (ZImages24.flatMap eN0)⟩, ⟨B144, (XImages24.flatMap eN0)⟩, ⟨B124, (ZImages19.flatMap eN0)⟩, ⟨B123, (XImages19.flatMap eN0)⟩, ⟨B112, (ZImages18.flatMap eN0)⟩, ⟨B111, (XImages18.flatMap eN0)⟩, ⟨B94, (ZImages16.flatMap eN0)⟩, ⟨B93, (XImages16.flatMap eN0)⟩, ⟨B4, (ZImages.flatMap eN0)⟩, ⟨B3, (XImages.flatMap eN0)⟩, ⟨B, (t.XImages.flatMap eN0)⟩, ⟨B1, (t.ZImages.flatMap eN0)⟩]) ?_ ?_
     ·skip
      refine cq (cr ?_)
      refine sQ 64 (ym (.func (.func 53) #[] #[pt (aD b17) 0, pt (aD b18) 0]) rfl (hf33.g 5 3)) ?_
      obtain ⟨⟨t41, t42, t43⟩, hc55, hz19⟩ := bI hz19
      refine sc 65 rfl rfl (Yc_clos (g := 53) (vs := [pt (aD b17) 0, pt (aD b18) 0]) (R := fun v w' => v = .agg #[vi t41, vi t42, vi t43] ∧ ST w0 [] w' [⟨aD b, 40, [vi t.Qubits, .slice B t.XImages.length c, .slice B1 t.ZImages.length c1], 3⟩, ⟨aD b1, 28, [vi 0, .slice none 0 0], 2⟩, ⟨aD b2, 64, [vi Qubits19, .slice B123 XImages19.length c123, .slice B124 ZImages19.length c124, .slice B125 gates19.length c125], 4⟩, ⟨B125, 55, (gates19.flatMap eN2), c125 * 3⟩, ⟨aD b17, 62, [pt (aD b2) 0], 1⟩, ⟨aD b18, 3, [vi t1], 1⟩] [⟨B124, (ZImages19.flatMap eN0)⟩, ⟨B123, (XImages19.flatMap eN0)⟩, ⟨B112, (ZImages18.flatMap eN0)⟩, ⟨B111, (XImages18.flatMap eN0)⟩, ⟨B94, (ZImages16.flatMap eN0)⟩, ⟨B93, (XImages16.flatMap eN0)⟩, ⟨B4, (ZImages.flatMap eN0)⟩, ⟨B3, (XImages.flatMap eN0)⟩, ⟨B, (t.XImages.flatMap eN0)⟩, ⟨B1, (t.ZImages.flatMap eN0)⟩]) K65 rfl rfl (clo_args mn) ?cv) ?_
      case cv =>
       show CV Try.prog 53 #[pt (aD b17) 0, pt (aD b18) 0] _ _
       refine cv_of_cw 11 Try.func53 rfl Try.ntmps53 rfl ?_
       refine cq (cr ?_)
       refine sS 2 (yN [vi 0, vi 0, vi 0] 3 hd51 K5) ?_
       rintro _ w_104 ⟨b29, rfl, hS203⟩
       refine rn (cq ?_)
       obtain ⟨x17, hx17, hc55⟩ := bI hc55
       refine ra_start (hS203.se [0, 1, 2, 3, 4, 5]).fn (by kernel_rfl) ?_
       have hS204 := hS203.drew
       refine rq 0 3 (v := pt (aD b2) 0) rfl (hS204.se [0, 1, 2, 3, 4, 5]) (fun w' hw' => (yl (aD b17) 0 [pt (aD b2) 0] (pt (aD b2) 0) K27 (ST.cf hw' (i := 4) rfl))) ?_
       refine rq 1 4 (v := pt (aD b2) 0) rfl (hS204.se [0, 1, 2, 3, 4, 5]) (fun w' hw' => (Y_nilCheck (B := aD b2) (i := 0) rfl rfl)) ?_
       refine rq 2 5 (v := pt (aD b2) 0) rfl (hS204.se [0, 1, 2, 3, 4, 5]) (fun w' hw' => (yd (aD b2) 0 2 K35 K10)) ?_
       refine rq 3 6 (v := pt (aD b2) 2) rfl (hS204.se [0, 1, 2, 3, 4, 5]) (fun w' hw' => (yd (aD b2) 0 0 K11 K1)) ?_
       refine rq 4 7 (v := .slice B124 ZImages19.length c124) rfl (hS204.se [0, 1, 2, 3, 4, 5]) (fun w' hw' => (yl (aD b2) 2 [vi Qubits19, .slice B123 XImages19.length c123, .slice B124 ZImages19.length c124, .slice B125 gates19.length c125] (.slice B124 ZImages19.length c124) K6 (ST.cf hw' (i := 2) rfl))) ?_
       refine rq 5 8 (v := vi t1) rfl (hS204.se [0, 1, 2, 3, 4, 5]) (fun w' hw' => (yl (aD b18) 0 [vi t1] (vi t1) K4 (ST.cf hw' (i := 5) rfl))) ?_
       refine rq 6 9 (v := pt B124 (t1.toNat * 3)) rfl (hS204.se [0, 1, 2, 3, 4, 5]) (fun w' hw' => (Y_index (B := B124) (m := ZImages19.length) (c := c124) (k := .i64) (i := t1) K2 K0 rfl rfl rfl (gi_isSome eN1 rfl (ST.rf hw' (i := 0) rfl) hx17) (getI_nn hx17) (getI_ltI hx17 hl7))) ?_
       refine rq 7 10 (v := .agg #[vi x17.Phase, vi x17.X, vi x17.Z]) rfl (hS204.se [0, 1, 2, 3, 4, 5]) (fun w' hw' => (ya B124 (t1.toNat * 3) (ZImages19.flatMap eN0) [vi x17.Phase, vi x17.X, vi x17.Z] K14 K0 (ST.rf hw' (i := 0) rfl) rfl rfl (eN1 x17) (gi_seg eN1 hx17))) ?_
       refine rA [8] ?_
       refine rZ 8 rfl (yT 6 3 (aD b29) 71 (.agg #[vi x17.Phase, vi x17.X, vi x17.Z]) [vi x17.Phase, vi x17.X, vi x17.Z] 0 hS204 K0) ?_ ?_
       ·rintro _ w_105 ⟨rfl, hS205⟩
        have hS205 : ST w0 [] _ [⟨aD b, 40, [vi t.Qubits, .slice B t.XImages.length c, .slice B1 t.ZImages.length c1], 3⟩, ⟨aD b1, 28, [vi 0, .slice none 0 0], 2⟩, ⟨aD b2, 64, [vi Qubits19, .slice B123 XImages19.length c123, .slice B124 ZImages19.length c124, .slice B125 gates19.length c125], 4⟩, ⟨B125, 55, (gates19.flatMap eN2), c125 * 3⟩, ⟨aD b17, 62, [pt (aD b2) 0], 1⟩, ⟨aD b18, 3, [vi t1], 1⟩, ⟨aD b29, 71, [vi x17.Phase, vi x17.X, vi x17.Z], 3⟩] [⟨B124, (ZImages19.flatMap eN0)⟩, ⟨B123, (XImages19.flatMap eN0)⟩, ⟨B112, (ZImages18.flatMap eN0)⟩, ⟨B111, (XImages18.flatMap eN0)⟩, ⟨B94, (ZImages16.flatMap eN0)⟩, ⟨B93, (XImages16.flatMap eN0)⟩, ⟨B4, (ZImages.flatMap eN0)⟩, ⟨B3, (XImages.flatMap eN0)⟩, ⟨B, (t.XImages.flatMap eN0)⟩, ⟨B1, (t.ZImages.flatMap eN0)⟩] := hS205
        refine ⟨(hS205.se [0, 1, 2, 3, 4, 5]), ?_⟩
        refine ra_done (by kernel_rfl) ?_
        refine ct_ ?_
        obtain ⟨rfl, rfl, rfl⟩ := pr3 (sI hc55)
        exact ret1 Try.results53 (v1 := .agg #[vi x17.Phase, vi x17.X, vi x17.Z]) (resAt_cellA (B := aD b29) (i := 0) (cs := [vi x17.Phase, vi x17.X, vi x17.Z]) (vs := [vi x17.Phase, vi x17.X, vi x17.Z]) rfl K14 K0 (hS205.c 6) rfl rfl) ⟨rfl, (hS205.sel [0, 1, 2, 3, 4, 5] rfl rfl)⟩
       exact aN
      rintro _ w_103 ⟨rfl, hd55⟩
      have hd55 : ST w0 [] _ [⟨aD b, 40, [vi t.Qubits, .slice B t.XImages.length c, .slice B1 t.ZImages.length c1], 3⟩, ⟨aD b1, 28, [vi 0, .slice none 0 0], 2⟩, ⟨aD b2, 64, [vi Qubits19, .slice B123 XImages19.length c123, .slice B124 ZImages19.length c124, .slice B125 gates19.length c125], 4⟩, ⟨B125, 55, (gates19.flatMap eN2), c125 * 3⟩, ⟨aD b17, 62, [pt (aD b2) 0], 1⟩, ⟨aD b18, 3, [vi t1], 1⟩] [⟨B124, (ZImages19.flatMap eN0)⟩, ⟨B123, (XImages19.flatMap eN0)⟩, ⟨B112, (ZImages18.flatMap eN0)⟩, ⟨B111, (XImages18.flatMap eN0)⟩, ⟨B94, (ZImages16.flatMap eN0)⟩, ⟨B93, (XImages16.flatMap eN0)⟩, ⟨B4, (ZImages.flatMap eN0)⟩, ⟨B3, (XImages.flatMap eN0)⟩, ⟨B, (t.XImages.flatMap eN0)⟩, ⟨B1, (t.ZImages.flatMap eN0)⟩] := hd55
      refine sS 8 (yN [vi 0, vi 0, vi 0] 3 hd55 K5) ?_
      rintro _ w_106 ⟨b30, rfl, hS206⟩
      refine s0 (yT 6 3 (aD b30) 71 (.agg #[vi t41, vi t42, vi t43]) [vi t41, vi t42, vi t43] 0 hS206 K0) ?_
      rintro _ w_107 ⟨rfl, hS207⟩
      refine rn (cq ?_)
      obtain ⟨hsh1, hz19⟩ := chk_inv hz19
      refine ra_start (hS207.se [0, 1, 2, 3, 4, 5, 6]).fn (by kernel_rfl) ?_
      have hS208 := hS207.drew
      refine rq 0 66 (v := pt (aD b30) 1) rfl (hS208.se [0, 1, 2, 3, 4, 5, 6]) (fun w' hw' => (yd (aD b30) 0 0 K37 K3)) ?_
      refine rq 1 67 (v := vi t42) rfl (hS208.se [0, 1, 2, 3, 4, 5, 6]) (fun w' hw' => (yl (aD b30) 1 [vi t41, vi t42, vi t43] (vi t42) K4 (ST.cf hw' (i := 6) rfl))) ?_
      refine rq 2 68 (v := .bool (t42 != 0)) rfl (hS208.se [0, 1, 2, 3, 4, 5, 6]) (fun w' hw' => (Y_ne (k := .i64) (a := t42) (b := 0) rfl rfl rfl)) ?_
      refine rq 3 69 (v := .bool (t42 != 0)) rfl (hS208.se [0, 1, 2, 3, 4, 5, 6]) (fun w' hw' => (ym (.bool (t42 != 0)))) ?_
      refine ra_gq 4 70 (B := (!(t42 != 0))) (v := pt (aD b30) 2) rfl rfl rfl (uF_ 69) (by kernel_rfl) (by kernel_rfl) (by kernel_rfl) (hS208.se [0, 1, 2, 3, 4, 5, 6]) (fun hg7 w' hw' => (yd (aD b30) 0 0 K38 K3)) ?_
      refine ra_gq 5 71 (B := (!(t42 != 0))) (v := vi t43) rfl rfl rfl (uF_ 69) (by kernel_rfl) (by kernel_rfl) (by kernel_rfl) (hS208.se [0, 1, 2, 3, 4, 5, 6]) (fun hg8 w' hw' => (yl (aD b30) 2 [vi t41, vi t42, vi t43] (vi t43) K4 (ST.cf hw' (i := 6) rfl) rfl (gv_of (v := pt (aD b30) 2) hg8))) ?_
      refine ra_gq 6 72 (B := (!(t42 != 0))) (v := vi t1) rfl rfl rfl (uF_ 69) (by kernel_rfl) (by kernel_rfl) (by kernel_rfl) (hS208.se [0, 1, 2, 3, 4, 5, 6]) (fun hg9 w' hw' => (yl (aD b18) 0 [vi t1] (vi t1) K4 (ST.cf hw' (i := 5) rfl) rfl (hf33.g 3 1))) ?_
      refine ra_gq 7 73 (B := (!(t42 != 0))) (v := vi (shlK .i64 1 t1)) rfl rfl rfl (uF_ 69) (by kernel_rfl) (by kernel_rfl) (by kernel_rfl) (hS208.se [0, 1, 2, 3, 4, 5, 6]) (fun hg10 w' hw' => (Y_shl (k := .i64) (a := 1) (k' := .i64) (b := t1) rfl rfl (gv_of (v := vi t1) hg10) (hsh1 hg10))) ?_
      refine ra_gq 8 74 (B := (!(t42 != 0))) (v := .bool (t43 != (shlK .i64 1 t1))) rfl rfl rfl (uF_ 69) (by kernel_rfl) (by kernel_rfl) (by kernel_rfl) (hS208.se [0, 1, 2, 3, 4, 5, 6]) (fun hg11 w' hw' => (Y_ne (k := .i64) (a := t43) (b := (shlK .i64 1 t1)) rfl (gv_of (v := vi t43) hg11) (gv_of (v := vi (shlK .i64 1 t1)) hg11))) ?_
      refine rq 9 75 (v := .bool ((t42 != 0) || (t43 != (shlK .i64 1 t1)))) rfl (hS208.se [0, 1, 2, 3, 4, 5, 6]) (fun w' hw' => (Y_or (b := (t42 != 0)) (z := (t43 != (shlK .i64 1 t1))) rfl rfl rfl rfl)) ?_
      refine ra_done (by kernel_rfl) ?_
      refine cw_cond (b := ((t42 != 0) || (t43 != (shlK .i64 1 t1)))) rfl (fun hb41 => ?_) (fun hb41 => ?_)
      ·skip
       have hF82 := ct hz19 hb41
       refine cq (cr ?_)
       refine sQ 76 (yl (aD b17) 0 [pt (aD b2) 0] (pt (aD b2) 0) K27 (hS208.c 4) rfl (hf33.g 2 0)) <| sQ 77 (yl (aD b18) 0 [vi t1] (vi t1) K4 (hS208.c 5) rfl (hf33.g 3 1)) ?_
       obtain ⟨m23, hc56, hF82⟩ := bI hF82
       refine sc 78 rfl rfl (yC [pt (aD b2) 0, vi 1, vi t1, vi 0] K44 (c_impl_reducer_add (Treducer.mk (TTableau.mk Qubits19 XImages19 ZImages19) gates19) 1 t1 0 (aD b2) B123 c123 XImages19.length B124 c124 ZImages19.length B125 c125 gates19.length _ hl6 hl7 hl8 (hS208.inn [false, false, true, true, false, false, false] rfl [(true, 1), (true, 0)] rfl) hc56)) ?_
       rintro _ w_108 ⟨B147, c147, B148, c148, B149, c149, rfl, hd56⟩
       have hS209 := hS208.out [false, false, true, true, false, false, false] rfl hd56
       refine rn (cq (cq (cr ?_)))
       refine sQ 79 (yl (aD b18) 0 [vi t1] (vi t1) K4 (hS209.c 3) rfl (hf33.g 3 1)) <| sQ 80 (yP t1 1) <| sQ 9 (yg (vi (i64.wrap (t1 + 1)))) (rn ?_)
       obtain ⟨z20, hz20, hF83⟩ := bI hF82
       refine cw_block ?_
       refine cw_loop (fun k f w => ∃ (Qubits25 : Int) (XImages25 : List TPauli) (ZImages25 : List TPauli) (gates25 : List TGate) (s7 : Int) (B150 : Option Addr) (c150 : Nat) (B151 : Option Addr) (c151 : Nat) (B152 : Option Addr) (c152 : Nat), FF f [(2, pt (aD b17) 0), (3, pt (aD b18) 0), (4, .func (.func 52) #[] #[pt (aD b17) 0, pt (aD b18) 0]), (5, .func (.func 53) #[] #[pt (aD b17) 0, pt (aD b18) 0]), (9, vi s7)] ∧ ST w0 [] w [⟨aD b17, 62, [pt (aD b2) 0], 1⟩, ⟨aD b2, 64, [vi Qubits25, .slice B150 XImages25.length c150, .slice B151 ZImages25.length c151, .slice B152 gates25.length c152], 4⟩, ⟨B150, 71, (XImages25.flatMap eN0), c150 * 3⟩, ⟨B151, 71, (ZImages25.flatMap eN0), c151 * 3⟩, ⟨B152, 55, (gates25.flatMap eN2), c152 * 3⟩, ⟨aD b18, 3, [vi t1], 1⟩, ⟨aD b, 40, [vi t.Qubits, .slice B t.XImages.length c, .slice B1 t.ZImages.length c1], 3⟩, ⟨aD b1, 28, [vi 0, .slice none 0 0], 2⟩] [⟨B124, (ZImages19.flatMap eN0)⟩, ⟨B123, (XImages19.flatMap eN0)⟩, ⟨B112, (ZImages18.flatMap eN0)⟩, ⟨B111, (XImages18.flatMap eN0)⟩, ⟨B94, (ZImages16.flatMap eN0)⟩, ⟨B93, (XImages16.flatMap eN0)⟩, ⟨B4, (ZImages.flatMap eN0)⟩, ⟨B3, (XImages.flatMap eN0)⟩, ⟨B, (t.XImages.flatMap eN0)⟩, ⟨B1, (t.ZImages.flatMap eN0)⟩] ∧ whX (F_impl_SynthesizeClifford_l5 t1) k (Qubits25, XImages25, ZImages25, gates25, s7) = some z20) fuel ⟨m23.t.Qubits, m23.t.XImages, m23.t.ZImages, m23.gates, (i64.wrap (t1 + 1)), B147, c147, B148, c148, B149, c149, (fc (hf33.g 2 0) (fc (hf33.g 3 1) (fc (hf33.g 4 2) (fc (hf33.g 5 3) (fc rfl fn_))))), (hS209.sel [2, 5, 6, 7, 8, 3, 0, 1] rfl rfl), hz20⟩ ?_
       rintro k_20 f w ⟨Qubits25, XImages25, ZImages25, gates25, s7, B150, c150, B151, c151, B152, c152, hf43, hS210, hL20⟩
       obtain ⟨K73, y10, rfl, hb42, hL21⟩ := whX_go hL20
       unfold F_impl_SynthesizeClifford_l5 at hb42
       refine cq (cq (cr ?_))
       refine sQ 81 (ym (vi s7) rfl (hf43.g 9 4)) <| sQ 82 (yl (aD b17) 0 [pt (aD b2) 0] (pt (aD b2) 0) K27 (hS210.c 0) rfl (hf43.g 2 0)) <| sQ 83 (Y_nilCheck (B := aD b2) (i := 0) rfl rfl) <| sQ 84 (yd (aD b2) 0 2 K35 K10) <| sQ 85 (yd (aD b2) 0 0 K30 K3) <| sQ 86 (yl (aD b2) 0 [vi Qubits25, .slice B150 XImages25.length c150, .slice B151 ZImages25.length c151, .slice B152 gates25.length c152] (vi Qubits25) K4 (hS210.c 1)) ?_
       refine sQ 87 (yL s7 Qubits25) (rn ?_)
       refine cw_cond (b := (decide (s7 < Qubits25))) rfl (fun hb43 => ?_) (fun hb43 => ?_)
       ·skip
        have hF84 := ct hb42 hb43
        refine cw_skip (cq (cw_block ?_))
        obtain ⟨⟨t44, t45, t46⟩, hc57, hF84⟩ := bI hF84
        obtain ⟨⟨Qubits26, XImages26, ZImages26, gates26⟩, hc61, hF84⟩ := bI hF84
        refine ra_start (hS210.se [0, 5, 6, 7]).fn (by kernel_rfl) ?_
        have hS220 := hS210.drew
        refine rq 0 90 (v := pt (aD b2) 0) rfl (hS220.se [0, 5, 6, 7]) (fun w' hw' => (yl (aD b17) 0 [pt (aD b2) 0] (pt (aD b2) 0) K27 (ST.cf hw' (i := 0) rfl) rfl (hf43.g 2 0))) ?_
        refine rq 1 91 (v := .func (.func 53) #[] #[pt (aD b17) 0, pt (aD b18) 0]) rfl (hS220.se [0, 5, 6, 7]) (fun w' hw' => (ym (.func (.func 53) #[] #[pt (aD b17) 0, pt (aD b18) 0]) rfl (hf43.g 5 3))) ?_
        refine rq 3 93 (v := vi s7) rfl (hS220.se [0, 5, 6, 7]) (fun w' hw' => (ym (vi s7) rfl (hf43.g 9 4))) ?_
        refine rA [2] ?_
        refine rC 92 2 rfl (Yc_clos (g := 53) (vs := [pt (aD b17) 0, pt (aD b18) 0]) (R := fun v w' => v = .agg #[vi t44, vi t45, vi t46] ∧ ST w0 [] w' [⟨aD b, 40, [vi t.Qubits, .slice B t.XImages.length c, .slice B1 t.ZImages.length c1], 3⟩, ⟨aD b1, 28, [vi 0, .slice none 0 0], 2⟩, ⟨aD b2, 64, [vi Qubits25, .slice B150 XImages25.length c150, .slice B151 ZImages25.length c151, .slice B152 gates25.length c152], 4⟩, ⟨B150, 71, (XImages25.flatMap eN0), c150 * 3⟩, ⟨B151, 71, (ZImages25.flatMap eN0), c151 * 3⟩, ⟨B152, 55, (gates25.flatMap eN2), c152 * 3⟩, ⟨aD b17, 62, [pt (aD b2) 0], 1⟩, ⟨aD b18, 3, [vi t1], 1⟩] [⟨B124, (ZImages19.flatMap eN0)⟩, ⟨B123, (XImages19.flatMap eN0)⟩, ⟨B112, (ZImages18.flatMap eN0)⟩, ⟨B111, (XImages18.flatMap eN0)⟩, ⟨B94, (ZImages16.flatMap eN0)⟩, ⟨B93, (XImages16.flatMap eN0)⟩, ⟨B4, (ZImages.flatMap eN0)⟩, ⟨B3, (XImages.flatMap eN0)⟩, ⟨B, (t.XImages.flatMap eN0)⟩, ⟨B1, (t.ZImages.flatMap eN0)⟩]) K65 rfl rfl (clo_args mn) ?cv) ?_ ?_
        case cv =>
         show CV Try.prog 53 #[pt (aD b17) 0, pt (aD b18) 0] _ _
         refine cv_of_cw 11 Try.func53 rfl Try.ntmps53 rfl ?_
         refine cq (cr ?_)
         refine sS 2 (yN [vi 0, vi 0, vi 0] 3 hS220 K5) ?_
         rintro _ w_116 ⟨b33, rfl, hS221⟩
         have hS221 : ST w0 [] _ [⟨aD b17, 62, [pt (aD b2) 0], 1⟩, ⟨aD b2, 64, [vi Qubits25, .slice B150 XImages25.length c150, .slice B151 ZImages25.length c151, .slice B152 gates25.length c152], 4⟩, ⟨B150, 71, (XImages25.flatMap eN0), c150 * 3⟩, ⟨B151, 71, (ZImages25.flatMap eN0), c151 * 3⟩, ⟨B152, 55, (gates25.flatMap eN2), c152 * 3⟩, ⟨aD b18, 3, [vi t1], 1⟩, ⟨aD b, 40, [vi t.Qubits, .slice B t.XImages.length c, .slice B1 t.ZImages.length c1], 3⟩, ⟨aD b1, 28, [vi 0, .slice none 0 0], 2⟩, ⟨aD b33, 71, [vi 0, vi 0, vi 0], 3⟩] [⟨B124, (ZImages19.flatMap eN0)⟩, ⟨B123, (XImages19.flatMap eN0)⟩, ⟨B112, (ZImages18.flatMap eN0)⟩, ⟨B111, (XImages18.flatMap eN0)⟩, ⟨B94, (ZImages16.flatMap eN0)⟩, ⟨B93, (XImages16.flatMap eN0)⟩, ⟨B4, (ZImages.flatMap eN0)⟩, ⟨B3, (XImages.flatMap eN0)⟩, ⟨B, (t.XImages.flatMap eN0)⟩, ⟨B1, (t.ZImages.flatMap eN0)⟩] := hS221
         refine rn (cq ?_)
         obtain ⟨x19, hx19, hc57⟩ := bI hc57
         refine ra_start (hS221.se [0, 1, 2, 3, 4, 5, 6, 7]).fn (by kernel_rfl) ?_
         have hS222 := hS221.drew
         refine rq 0 3 (v := pt (aD b2) 0) rfl (hS222.se [0, 1, 2, 3, 4, 5, 6, 7]) (fun w' hw' => (yl (aD b17) 0 [pt (aD b2) 0] (pt (aD b2) 0) K27 (ST.cf hw' (i := 0) rfl))) ?_
         refine rq 1 4 (v := pt (aD b2) 0) rfl (hS222.se [0, 1, 2, 3, 4, 5, 6, 7]) (fun w' hw' => (Y_nilCheck (B := aD b2) (i := 0) rfl rfl)) ?_
         refine rq 2 5 (v := pt (aD b2) 0) rfl (hS222.se [0, 1, 2, 3, 4, 5, 6, 7]) (fun w' hw' => (yd (aD b2) 0 2 K35 K10)) ?_
         refine rq 3 6 (v := pt (aD b2) 2) rfl (hS222.se [0, 1, 2, 3, 4, 5, 6, 7]) (fun w' hw' => (yd (aD b2) 0 0 K11 K1)) ?_
         refine rq 4 7 (v := .slice B151 ZImages25.length c151) rfl (hS222.se [0, 1, 2, 3, 4, 5, 6, 7]) (fun w' hw' => (yl (aD b2) 2 [vi Qubits25, .slice B150 XImages25.length c150, .slice B151 ZImages25.length c151, .slice B152 gates25.length c152] (.slice B151 ZImages25.length c151) K6 (ST.cf hw' (i := 1) rfl))) ?_
         refine rq 5 8 (v := vi t1) rfl (hS222.se [0, 1, 2, 3, 4, 5, 6, 7]) (fun w' hw' => (yl (aD b18) 0 [vi t1] (vi t1) K4 (ST.cf hw' (i := 5) rfl))) ?_
         refine rq 6 9 (v := pt B151 (t1.toNat * 3)) rfl (hS222.se [0, 1, 2, 3, 4, 5, 6, 7]) (fun w' hw' => (Y_index (B := B151) (m := ZImages25.length) (c := c151) (k := .i64) (i := t1) K2 K0 rfl rfl rfl (gi_isSome eN1 rfl (ST.cf hw' (i := 3) rfl) hx19) (getI_nn hx19) (getI_ltI hx19 rfl))) ?_
         refine rq 7 10 (v := .agg #[vi x19.Phase, vi x19.X, vi x19.Z]) rfl (hS222.se [0, 1, 2, 3, 4, 5, 6, 7]) (fun w' hw' => (ya B151 (t1.toNat * 3) (ZImages25.flatMap eN0) [vi x19.Phase, vi x19.X, vi x19.Z] K14 K0 (ST.cf hw' (i := 3) rfl) rfl rfl (eN1 x19) (gi_seg eN1 hx19))) ?_
         refine rA [8] ?_
         refine rZ 8 rfl (yT 8 3 (aD b33) 71 (.agg #[vi x19.Phase, vi x19.X, vi x19.Z]) [vi x19.Phase, vi x19.X, vi x19.Z] 0 hS222 K0) ?_ ?_
         ·rintro _ w_117 ⟨rfl, hS223⟩
          refine ⟨(hS223.se [0, 1, 2, 3, 4, 5, 6, 7]), ?_⟩
          refine ra_done (by kernel_rfl) ?_
          refine ct_ ?_
          obtain ⟨rfl, rfl, rfl⟩ := pr3 (sI hc57)
          exact ret1 Try.results53 (v1 := .agg #[vi x19.Phase, vi x19.X, vi x19.Z]) (resAt_cellA (B := aD b33) (i := 0) (cs := [vi x19.Phase, vi x19.X, vi x19.Z]) (vs := [vi x19.Phase, vi x19.X, vi x19.Z]) rfl K14 K0 (hS223.c 8) rfl rfl) ⟨rfl, (hS223.sel [6, 7, 1, 2, 3, 4, 0, 5] rfl rfl)⟩
         exact aN
        ·rintro _ w_115 ⟨rfl, hd60⟩
         have hd60 : ST w0 [] _ [⟨aD b, 40, [vi t.Qubits, .slice B t.XImages.length c, .slice B1 t.ZImages.length c1], 3⟩, ⟨aD b1, 28, [vi 0, .slice none 0 0], 2⟩, ⟨aD b2, 64, [vi Qubits25, .slice B150 XImages25.length c150, .slice B151 ZImages25.length c151, .slice B152 gates25.length c152], 4⟩, ⟨B150, 71, (XImages25.flatMap eN0), c150 * 3⟩, ⟨B151, 71, (ZImages25.flatMap eN0), c151 * 3⟩, ⟨B152, 55, (gates25.flatMap eN2), c152 * 3⟩, ⟨aD b17, 62, [pt (aD b2) 0], 1⟩, ⟨aD b18, 3, [vi t1], 1⟩] [⟨B124, (ZImages19.flatMap eN0)⟩, ⟨B123, (XImages19.flatMap eN0)⟩, ⟨B112, (ZImages18.flatMap eN0)⟩, ⟨B111, (XImages18.flatMap eN0)⟩, ⟨B94, (ZImages16.flatMap eN0)⟩, ⟨B93, (XImages16.flatMap eN0)⟩, ⟨B4, (ZImages.flatMap eN0)⟩, ⟨B3, (XImages.flatMap eN0)⟩, ⟨B, (t.XImages.flatMap eN0)⟩, ⟨B1, (t.ZImages.flatMap eN0)⟩] := hd60
         refine ⟨(ST.sel hd60 [6, 7, 0, 1] rfl rfl), ?_⟩
         refine rA [4] ?_
         refine rC 94 4 rfl (Yc_func (g := 54) (vs := [pt (aD b2) 0, .agg #[vi t44, vi t45, vi t46], vi s7]) (R := fun v w' => ∃ (B153 : Option Addr) (c153 : Nat) (B154 : Option Addr) (c154 : Nat) (B155 : Option Addr) (c155 : Nat), v = .tuple #[] ∧ ST w0 [] w' [⟨aD b, 40, [vi t.Qubits, .slice B t.XImages.length c, .slice B1 t.ZImages.length c1], 3⟩, ⟨aD b1, 28, [vi 0, .slice none 0 0], 2⟩, ⟨aD b2, 64, [vi Qubits26, .slice B153 XImages26.length c153, .slice B154 ZImages26.length c154, .slice B155 gates26.length c155], 4⟩, ⟨B153, 71, (XImages26.flatMap eN0), c153 * 3⟩, ⟨B154, 71, (ZImages26.flatMap eN0), c154 * 3⟩, ⟨B155, 55, (gates26.flatMap eN2), c155 * 3⟩, ⟨aD b17, 62, [pt (aD b2) 0], 1⟩, ⟨aD b18, 3, [vi t1], 1⟩] [⟨B124, (ZImages19.flatMap eN0)⟩, ⟨B123, (XImages19.flatMap eN0)⟩, ⟨B112, (ZImages18.flatMap eN0)⟩, ⟨B111, (XImages18.flatMap eN0)⟩, ⟨B94, (ZImages16.flatMap eN0)⟩, ⟨B93, (XImages16.flatMap eN0)⟩, ⟨B4, (ZImages.flatMap eN0)⟩, ⟨B3, (XImages.flatMap eN0)⟩, ⟨B, (t.XImages.flatMap eN0)⟩, ⟨B1, (t.ZImages.flatMap eN0)⟩]) k_call_54 rfl (mc rfl (mc rfl (mc rfl mn))) ?cv) ?_ ?_
         case cv =>
          show CV Try.prog 54 #[pt (aD b2) 0, .agg #[vi t44, vi t45, vi t46], vi s7] _ _
          refine cv_of_cw 19 Try.func54 rfl Try.ntmps54 rfl ?_
          refine cq (cr ?_)
          refine sS 4 (yB 71 (.agg #[vi t44, vi t45, vi t46]) [vi t44, vi t45, vi t46] 3 hd60) ?_
          rintro _ w_119 ⟨b34, rfl, hS224⟩
          refine rn (cq (cr ?_))
          refine sQ 6 (yb (aD b34) 0 [vi t44, vi t45, vi t46] K14 K0 (hS224.c 8)) <| sQ 7 (ym (vi s7)) ?_
          obtain ⟨r_15, hc62, hc61⟩ := bI hc61
          refine sc 8 rfl rfl (yC [.agg #[vi t44, vi t45, vi t46], vi s7] K57 (c_impl_letterOf (TPauli.mk t44 t45 t46) s7 _  (hS224.inn0 [] rfl) hc62)) ?_
          rintro _ w_120 ⟨rfl, hd62⟩
          have hS225 := hS224.out00 hd62
          refine rn (cw_block (cq (cr ?_)))
          refine sQ 10 (Y_eq (k := .u8) (a := r_15) (b := 90) rfl rfl rfl) <| sQ 9 (yg (.bool (r_15 == 90))) (rn ?_)
          refine cw_cond (b := (r_15 == 90)) rfl (fun hb46 => ?_) (fun hb46 => ?_)
          ·skip
           have hF89 := ct hc61 hb46
           refine cr ?_
           refine sQ 11 (ym (pt (aD b2) 0)) <| sQ 12 (ym (vi s7)) ?_
           obtain ⟨m26, hc63, hF89⟩ := bI hF89
           refine sc 13 rfl rfl (yC [pt (aD b2) 0, vi 1, vi s7, vi 0] K44 (c_impl_reducer_add (Treducer.mk (TTableau.mk Qubits25 XImages25 ZImages25) gates25) 1 s7 0 (aD b2) B150 c150 XImages25.length B151 c151 ZImages25.length B152 c152 gates25.length _ rfl rfl rfl (hS225.inn [false, false, true, false, false, true, false, false, false] rfl [(false, 2), (false, 3)] rfl) hc63)) ?_
           rintro _ w_121 ⟨B162, c162, B163, c163, B164, c164, rfl, hd63⟩
           have hS226 := hS225.out [false, false, true, false, false, true, false, false, false] rfl hd63
           have hS226 : ST w0 [] _ [⟨aD b, 40, [vi t.Qubits, .slice B t.XImages.length c, .slice B1 t.ZImages.length c1], 3⟩, ⟨aD b1, 28, [vi 0, .slice none 0 0], 2⟩, ⟨B150, 71, (XImages25.flatMap eN0), c150 * 3⟩, ⟨B151, 71, (ZImages25.flatMap eN0), c151 * 3⟩, ⟨aD b17, 62, [pt (aD b2) 0], 1⟩, ⟨aD b18, 3, [vi t1], 1⟩, ⟨aD b34, 71, [vi t44, vi t45, vi t46], 3⟩, ⟨aD b2, 64, [vi m26.t.Qubits, .slice B162 m26.t.XImages.length c162, .slice B163 m26.t.ZImages.length c163, .slice B164 m26.gates.length c164], 4⟩, ⟨B162, 71, (m26.t.XImages.flatMap eN0), c162 * 3⟩, ⟨B163, 71, (m26.t.ZImages.flatMap eN0), c163 * 3⟩, ⟨B164, 55, (m26.gates.flatMap eN2), c164 * 3⟩] [⟨B124, (ZImages19.flatMap eN0)⟩, ⟨B123, (XImages19.flatMap eN0)⟩, ⟨B112, (ZImages18.flatMap eN0)⟩, ⟨B111, (XImages18.flatMap eN0)⟩, ⟨B94, (ZImages16.flatMap eN0)⟩, ⟨B93, (XImages16.flatMap eN0)⟩, ⟨B4, (ZImages.flatMap eN0)⟩, ⟨B3, (XImages.flatMap eN0)⟩, ⟨B, (t.XImages.flatMap eN0)⟩, ⟨B1, (t.ZImages.flatMap eN0)⟩] := hS226
           refine rn ?_
           obtain ⟨rfl, rfl, rfl, rfl⟩ := pr4 (sI hF89)
           exact ret0 Try.results54  ⟨B162, c162, B163, c163, B164, c164, rfl, (hS226.sel [0, 1, 7, 8, 9, 10, 4, 5] rfl rfl)⟩
          ·skip
           have hF90 := cf' hc61 hb46
           refine cq (cr ?_)
           refine sQ 15 (Y_eq (k := .u8) (a := r_15) (b := 89) rfl rfl rfl) <| sQ 14 (yg (.bool (r_15 == 89))) (rn ?_)
           refine cw_cond (b := (r_15 == 89)) rfl (fun hb47 => ?_) (fun hb47 => ?_)
           ·skip
            have hF91 := ct hF90 hb47
            refine cr ?_
            refine sQ 16 (ym (pt (aD b2) 0)) <| sQ 17 (ym (vi s7)) ?_
            obtain ⟨m27, hc64, hF91⟩ := bI hF91
            refine sc 18 rfl rfl (yC [pt (aD b2) 0, vi 5, vi s7, vi 0] K44 (c_impl_reducer_add (Treducer.mk (TTableau.mk Qubits25 XImages25 ZImages25) gates25) 5 s7 0 (aD b2) B150 c150 XImages25.length B151 c151 ZImages25.length B152 c152 gates25.length _ rfl rfl rfl (hS225.inn [false, false, true, false, false, true, false, false, false] rfl [(false, 2), (false, 3)] rfl) hc64)) ?_
            rintro _ w_122 ⟨B165, c165, B166, c166, B167, c167, rfl, hd64⟩
            have hS227 := hS225.out [false, false, true, false, false, true, false, false, false] rfl hd64
            refine rn ?_
            obtain ⟨rfl, rfl, rfl, rfl⟩ := pr4 (sI hF91)
            exact ret0 Try.results54  ⟨B165, c165, B166, c166, B167, c167, rfl, (hS227.sel [0, 1, 7, 8, 9, 10, 4, 5] rfl rfl)⟩
           ·skip
            have hF92 := cf' hF90 hb47
            refine cw_skip ?_
            obtain ⟨rfl, rfl, rfl, rfl⟩ := pr4 (sI hF92)
            exact ret0 Try.results54  ⟨B150, c150, B151, c151, B152, c152, rfl, (hS225.sel [0, 1, 2, 3, 4, 5, 6, 7] rfl rfl)⟩
         ·rintro _ w_118 ⟨B153, c153, B154, c154, B155, c155, rfl, hd61⟩
          have hd61 : ST w0 [] _ [⟨aD b, 40, [vi t.Qubits, .slice B t.XImages.length c, .slice B1 t.ZImages.length c1], 3⟩, ⟨aD b1, 28, [vi 0, .slice none 0 0], 2⟩, ⟨aD b2, 64, [vi Qubits26, .slice B153 XImages26.length c153, .slice B154 ZImages26.length c154, .slice B155 gates26.length c155], 4⟩, ⟨B153, 71, (XImages26.flatMap eN0), c153 * 3⟩, ⟨B154, 71, (ZImages26.flatMap eN0), c154 * 3⟩, ⟨B155, 55, (gates26.flatMap eN2), c155 * 3⟩, ⟨aD b17, 62, [pt (aD b2) 0], 1⟩, ⟨aD b18, 3, [vi t1], 1⟩] [⟨B124, (ZImages19.flatMap eN0)⟩, ⟨B123, (XImages19.flatMap eN0)⟩, ⟨B112, (ZImages18.flatMap eN0)⟩, ⟨B111, (XImages18.flatMap eN0)⟩, ⟨B94, (ZImages16.flatMap eN0)⟩, ⟨B93, (XImages16.flatMap eN0)⟩, ⟨B4, (ZImages.flatMap eN0)⟩, ⟨B3, (XImages.flatMap eN0)⟩, ⟨B, (t.XImages.flatMap eN0)⟩, ⟨B1, (t.ZImages.flatMap eN0)⟩] := hd61
          refine ⟨(ST.sel hd61 [6, 7, 0, 1] rfl rfl), ?_⟩
          refine ra_done (by kernel_rfl) ?_
          refine cr ?_
          refine sQ 88 (ym (vi s7) rfl (hf43.g 9 4)) <| sQ 89 (yP s7 1) <| sQ 9 (yg (vi (i64.wrap (s7 + 1)))) (rn ?_)
          obtain rfl := sI hF84
          exact ⟨K73, Nat.lt_succ_self _, Qubits26, XImages26, ZImages26, gates26, (i64.wrap (s7 + 1)), B153, c153, B154, c154, B155, c155, (fc (hf43.g 2 0) (fc (hf43.g 3 1) (fc (hf43.g 4 2) (fc (hf43.g 5 3) (fc rfl fn_))))), (hd61.sel [6, 2, 3, 4, 5, 7, 0, 1] rfl rfl), hL21⟩
         exact aN
        exact aN
       ·skip
        have hF93 := cf' hb42 hb43
        refine cw_exit rfl ?_
        obtain rfl := sI hF93
        obtain rfl := sI hL21
        refine cq ?_
        obtain ⟨z21, hz21, hF94⟩ := bI hF83
        refine cw_mid (fun f w => ∃ (Qubits27 : Int) (XImages27 : List TPauli) (ZImages27 : List TPauli) (gates27 : List TGate) (B168 : Option Addr) (c168 : Nat) (B169 : Option Addr) (c169 : Nat) (B170 : Option Addr) (c170 : Nat), (Qubits27, XImages27, ZImages27, gates27) = z21 ∧ FF f [(2, pt (aD b17) 0), (3, pt (aD b18) 0), (4, .func (.func 52) #[] #[pt (aD b17) 0, pt (aD b18) 0]), (5, .func (.func 53) #[] #[pt (aD b17) 0, pt (aD b18) 0])] ∧ ST w0 [] w [⟨aD b17, 62, [pt (aD b2) 0], 1⟩, ⟨aD b2, 64, [vi Qubits27, .slice B168 XImages27.length c168, .slice B169 ZImages27.length c169, .slice B170 gates27.length c170], 4⟩, ⟨B168, 71, (XImages27.flatMap eN0), c168 * 3⟩, ⟨B169, 71, (ZImages27.flatMap eN0), c169 * 3⟩, ⟨B170, 55, (gates27.flatMap eN2), c170 * 3⟩, ⟨aD b18, 3, [vi t1], 1⟩, ⟨aD b, 40, [vi t.Qubits, .slice B t.XImages.length c, .slice B1 t.ZImages.length c1], 3⟩, ⟨aD b1, 28, [vi 0, .slice none 0 0], 2⟩] [⟨B124, (ZImages19.flatMap eN0)⟩, ⟨B123, (XImages19.flatMap eN0)⟩, ⟨B112, (ZImages18.flatMap eN0)⟩, ⟨B111, (XImages18.flatMap eN0)⟩, ⟨B94, (ZImages16.flatMap eN0)⟩, ⟨B93, (XImages16.flatMap eN0)⟩, ⟨B4, (ZImages.flatMap eN0)⟩, ⟨B3, (XImages.flatMap eN0)⟩, ⟨B, (t.XImages.flatMap eN0)⟩, ⟨B1, (t.ZImages.flatMap eN0)⟩]) ?_ ?_
        ·skip
         refine cq ?_
         obtain ⟨⟨t47, t48, t49⟩, hc65, hz21⟩ := bI hz21
         obtain ⟨r_16, hc66, hz21⟩ := bI hz21
         refine ra_start (hS210.se [0, 1, 2, 3, 4, 5, 6, 7]).fn (by kernel_rfl) ?_
         have hS234 := hS210.drew
         refine rq 0 95 (v := .func (.func 53) #[] #[pt (aD b17) 0, pt (aD b18) 0]) rfl (hS234.se [0, 1, 2, 3, 4, 5, 6, 7]) (fun w' hw' => (ym (.func (.func 53) #[] #[pt (aD b17) 0, pt (aD b18) 0]) rfl (hf43.g 5 3))) ?_
         refine rq 2 97 (v := vi t1) rfl (hS234.se [0, 1, 2, 3, 4, 5, 6, 7]) (fun w' hw' => (yl (aD b18) 0 [vi t1] (vi t1) K4 (ST.cf hw' (i := 5) rfl) rfl (hf43.g 3 1))) ?_
         refine rA [1] ?_
         refine rC 96 1 rfl (Yc_clos (g := 53) (vs := [pt (aD b17) 0, pt (aD b18) 0]) (R := fun v w' => v = .agg #[vi t47, vi t48, vi t49] ∧ ST w0 [] w' [⟨aD b, 40, [vi t.Qubits, .slice B t.XImages.length c, .slice B1 t.ZImages.length c1], 3⟩, ⟨aD b1, 28, [vi 0, .slice none 0 0], 2⟩, ⟨aD b2, 64, [vi Qubits25, .slice B150 XImages25.length c150, .slice B151 ZImages25.length c151, .slice B152 gates25.length c152], 4⟩, ⟨B150, 71, (XImages25.flatMap eN0), c150 * 3⟩, ⟨B151, 71, (ZImages25.flatMap eN0), c151 * 3⟩, ⟨B152, 55, (gates25.flatMap eN2), c152 * 3⟩, ⟨aD b17, 62, [pt (aD b2) 0], 1⟩, ⟨aD b18, 3, [vi t1], 1⟩] [⟨B124, (ZImages19.flatMap eN0)⟩, ⟨B123, (XImages19.flatMap eN0)⟩, ⟨B112, (ZImages18.flatMap eN0)⟩, ⟨B111, (XImages18.flatMap eN0)⟩, ⟨B94, (ZImages16.flatMap eN0)⟩, ⟨B93, (XImages16.flatMap eN0)⟩, ⟨B4, (ZImages.flatMap eN0)⟩, ⟨B3, (XImages.flatMap eN0)⟩, ⟨B, (t.XImages.flatMap eN0)⟩, ⟨B1, (t.ZImages.flatMap eN0)⟩]) K65 rfl rfl (clo_args mn) ?cv) ?_ ?_
         case cv =>
          show CV Try.prog 53 #[pt (aD b17) 0, pt (aD b18) 0] _ _
          refine cv_of_cw 11 Try.func53 rfl Try.ntmps53 rfl ?_
          refine cq (cr ?_)
          refine sS 2 (yN [vi 0, vi 0, vi 0] 3 hS234 K5) ?_
          rintro _ w_126 ⟨b36, rfl, hS235⟩
          refine rn (cq ?_)
          obtain ⟨x21, hx21, hc65⟩ := bI hc65
          refine ra_start (hS235.se [0, 1, 2, 3, 4, 5, 6, 7]).fn (by kernel_rfl) ?_
          have hS236 := hS235.drew
          refine rq 0 3 (v := pt (aD b2) 0) rfl (hS236.se [0, 1, 2, 3, 4, 5, 6, 7]) (fun w' hw' => (yl (aD b17) 0 [pt (aD b2) 0] (pt (aD b2) 0) K27 (ST.cf hw' (i := 0) rfl))) ?_
          refine rq 1 4 (v := pt (aD b2) 0) rfl (hS236.se [0, 1, 2, 3, 4, 5, 6, 7]) (fun w' hw' => (Y_nilCheck (B := aD b2) (i := 0) rfl rfl)) ?_
          refine rq 2 5 (v := pt (aD b2) 0) rfl (hS236.se [0, 1, 2, 3, 4, 5, 6, 7]) (fun w' hw' => (yd (aD b2) 0 2 K35 K10)) ?_
          refine rq 3 6 (v := pt (aD b2) 2) rfl (hS236.se [0, 1, 2, 3, 4, 5, 6, 7]) (fun w' hw' => (yd (aD b2) 0 0 K11 K1)) ?_
          refine rq 4 7 (v := .slice B151 ZImages25.length c151) rfl (hS236.se [0, 1, 2, 3, 4, 5, 6, 7]) (fun w' hw' => (yl (aD b2) 2 [vi Qubits25, .slice B150 XImages25.length c150, .slice B151 ZImages25.length c151, .slice B152 gates25.length c152] (.slice B151 ZImages25.length c151) K6 (ST.cf hw' (i := 1) rfl))) ?_
          refine rq 5 8 (v := vi t1) rfl (hS236.se [0, 1, 2, 3, 4, 5, 6, 7]) (fun w' hw' => (yl (aD b18) 0 [vi t1] (vi t1) K4 (ST.cf hw' (i := 5) rfl))) ?_
          refine rq 6 9 (v := pt B151 (t1.toNat * 3)) rfl (hS236.se [0, 1, 2, 3, 4, 5, 6, 7]) (fun w' hw' => (Y_index (B := B151) (m := ZImages25.length) (c := c151) (k := .i64) (i := t1) K2 K0 rfl rfl rfl (gi_isSome eN1 rfl (ST.cf hw' (i := 3) rfl) hx21) (getI_nn hx21) (getI_ltI hx21 rfl))) ?_
          refine rq 7 10 (v := .agg #[vi x21.Phase, vi x21.X, vi x21.Z]) rfl (hS236.se [0, 1, 2, 3, 4, 5, 6, 7]) (fun w' hw' => (ya B151 (t1.toNat * 3) (ZImages25.flatMap eN0) [vi x21.Phase, vi x21.X, vi x21.Z] K14 K0 (ST.cf hw' (i := 3) rfl) rfl rfl (eN1 x21) (gi_seg eN1 hx21))) ?_
          refine rA [8] ?_
          refine rZ 8 rfl (yT 8 3 (aD b36) 71 (.agg #[vi x21.Phase, vi x21.X, vi x21.Z]) [vi x21.Phase, vi x21.X, vi x21.Z] 0 hS236 K0) ?_ ?_
          ·rintro _ w_127 ⟨rfl, hS237⟩
           refine ⟨(hS237.se [0, 1, 2, 3, 4, 5, 6, 7]), ?_⟩
           refine ra_done (by kernel_rfl) ?_
           refine ct_ ?_
           obtain ⟨rfl, rfl, rfl⟩ := pr3 (sI hc65)
           exact ret1 Try.results53 (v1 := .agg #[vi x21.Phase, vi x21.X, vi x21.Z]) (resAt_cellA (B := aD b36) (i := 0) (cs := [vi x21.Phase, vi x21.X, vi x21.Z]) (vs := [vi x21.Phase, vi x21.X, vi x21.Z]) rfl K14 K0 (hS237.c 8) rfl rfl) ⟨rfl, (hS237.sel [6, 7, 1, 2, 3, 4, 0, 5] rfl rfl)⟩
          exact aN
         ·rintro _ w_125 ⟨rfl, hd65⟩
          have hd65 : ST w0 [] _ [⟨aD b, 40, [vi t.Qubits, .slice B t.XImages.length c, .slice B1 t.ZImages.length c1], 3⟩, ⟨aD b1, 28, [vi 0, .slice none 0 0], 2⟩, ⟨aD b2, 64, [vi Qubits25, .slice B150 XImages25.length c150, .slice B151 ZImages25.length c151, .slice B152 gates25.length c152], 4⟩, ⟨B150, 71, (XImages25.flatMap eN0), c150 * 3⟩, ⟨B151, 71, (ZImages25.flatMap eN0), c151 * 3⟩, ⟨B152, 55, (gates25.flatMap eN2), c152 * 3⟩, ⟨aD b17, 62, [pt (aD b2) 0], 1⟩, ⟨aD b18, 3, [vi t1], 1⟩] [⟨B124, (ZImages19.flatMap eN0)⟩, ⟨B123, (XImages19.flatMap eN0)⟩, ⟨B112, (ZImages18.flatMap eN0)⟩, ⟨B111, (XImages18.flatMap eN0)⟩, ⟨B94, (ZImages16.flatMap eN0)⟩, ⟨B93, (XImages16.flatMap eN0)⟩, ⟨B4, (ZImages.flatMap eN0)⟩, ⟨B3, (XImages.flatMap eN0)⟩, ⟨B, (t.XImages.flatMap eN0)⟩, ⟨B1, (t.ZImages.flatMap eN0)⟩] := hd65
          refine ⟨(ST.sel hd65 [6, 2, 3, 4, 5, 7, 0, 1] rfl rfl), ?_⟩
          refine rA [3] ?_
          refine rC 98 3 rfl (yC [.agg #[vi t47, vi t48, vi t49], vi t1] K57 (c_impl_letterOf (TPauli.mk t47 t48 t49) t1 _  (hd65.inn0 [] rfl) hc66)) ?_ ?_
          ·rintro _ w_128 ⟨rfl, hd66⟩
           have hS238 := hd65.out00 hd66
           have hS238 : ST w0 [] _ [⟨aD b, 40, [vi t.Qubits, .slice B t.XImages.length c, .slice B1 t.ZImages.length c1], 3⟩, ⟨aD b1, 28, [vi 0, .slice none 0 0], 2⟩, ⟨aD b2, 64, [vi Qubits25, .slice B150 XImages25.length c150, .slice B151 ZImages25.length c151, .slice B152 gates25.length c152], 4⟩, ⟨B150, 71, (XImages25.flatMap eN0), c150 * 3⟩, ⟨B151, 71, (ZImages25.flatMap eN0), c151 * 3⟩, ⟨B152, 55, (gates25.flatMap eN2), c152 * 3⟩, ⟨aD b17, 62, [pt (aD b2) 0], 1⟩, ⟨aD b18, 3, [vi t1], 1⟩] [⟨B124, (ZImages19.flatMap eN0)⟩, ⟨B123, (XImages19.flatMap eN0)⟩, ⟨B112, (ZImages18.flatMap eN0)⟩, ⟨B111, (XImages18.flatMap eN0)⟩, ⟨B94, (ZImages16.flatMap eN0)⟩, ⟨B93, (XImages16.flatMap eN0)⟩, ⟨B4, (ZImages.flatMap eN0)⟩, ⟨B3, (XImages.flatMap eN0)⟩, ⟨B, (t.XImages.flatMap eN0)⟩, ⟨B1, (t.ZImages.flatMap eN0)⟩] := hS238
           refine ⟨(hS238.se [6, 2, 3, 4, 5, 7, 0, 1]), ?_⟩
           refine rq 4 99 (v := .bool (r_16 == 89)) rfl (hS238.se [6, 2, 3, 4, 5, 7, 0, 1]) (fun w' hw' => (Y_eq (k := .u8) (a := r_16) (b := 89) rfl rfl rfl)) ?_
           refine ra_done (by kernel_rfl) ?_
           refine cw_cond (b := (r_16 == 89)) rfl (fun hb48 => ?_) (fun hb48 => ?_)
           ·skip
            have hF95 := ct hz21 hb48
            refine cr ?_
            refine sQ 100 (yl (aD b17) 0 [pt (aD b2) 0] (pt (aD b2) 0) K27 (hS238.c 6) rfl (hf43.g 2 0)) <| sQ 101 (yl (aD b18) 0 [vi t1] (vi t1) K4 (hS238.c 7) rfl (hf43.g 3 1)) ?_
            obtain ⟨m28, hc67, hF95⟩ := bI hF95
            refine sc 102 rfl rfl (yC [pt (aD b2) 0, vi 5, vi t1, vi 0] K44 (c_impl_reducer_add (Treducer.mk (TTableau.mk Qubits25 XImages25 ZImages25) gates25) 5 t1 0 (aD b2) B150 c150 XImages25.length B151 c151 ZImages25.length B152 c152 gates25.length _ rfl rfl rfl (hS238.inn [false, false, true, false, false, true, false, false] rfl [(false, 2), (false, 3)] rfl) hc67)) ?_
            rintro _ w_129 ⟨B171, c171, B172, c172, B173, c173, rfl, hd67⟩
            have hS239 := hS238.out [false, false, true, false, false, true, false, false] rfl hd67
            refine rn ?_
            exact ⟨m28.t.Qubits, m28.t.XImages, m28.t.ZImages, m28.gates, B171, c171, B172, c172, B173, c173, (sI hF95), (fc (hf43.g 2 0) (fc (hf43.g 3 1) (fc (hf43.g 4 2) (fc (hf43.g 5 3) fn_)))), (hS239.sel [4, 6, 7, 8, 9, 5, 0, 1] rfl rfl)⟩
           ·skip
            have hF96 := cf' hz21 hb48
            refine cw_skip ?_
            exact ⟨Qubits25, XImages25, ZImages25, gates25, B150, c150, B151, c151, B152, c152, (sI hF96), (fc (hf43.g 2 0) (fc (hf43.g 3 1) (fc (hf43.g 4 2) (fc (hf43.g 5 3) fn_)))), (hS238.sel [6, 2, 3, 4, 5, 7, 0, 1] rfl rfl)⟩
          exact aN
         exact aN
        rintro f w ⟨Qubits27, XImages27, ZImages27, gates27, B168, c168, B169, c169, B170, c170, rfl, hf46, hS228⟩
        refine cq (cr ?_)
        refine sQ 103 (yl (aD b17) 0 [pt (aD b2) 0] (pt (aD b2) 0) K27 (hS228.c 0) rfl (hf46.g 2 0)) <| sQ 104 (yl (aD b18) 0 [vi t1] (vi t1) K4 (hS228.c 5) rfl (hf46.g 3 1)) <| sQ 105 (ym (.func (.func 53) #[] #[pt (aD b17) 0, pt (aD b18) 0]) rfl (hf46.g 5 3)) ?_
        obtain ⟨⟨Qubits28, XImages28, ZImages28, gates28⟩, hc71, hF94⟩ := bI hF94
        refine sc 106 rfl rfl (Yc_func (g := 57) (vs := [pt (aD b2) 0, vi t1, .func (.func 53) #[] #[pt (aD b17) 0, pt (aD b18) 0]]) (R := fun v w' => ∃ (B174 : Option Addr) (c174 : Nat) (B175 : Option Addr) (c175 : Nat) (B176 : Option Addr) (c176 : Nat), v = .tuple #[] ∧ XImages28.length = XImages28.length ∧ ZImages28.length = ZImages28.length ∧ gates28.length = gates28.length ∧ ST w0 [] w' [⟨aD b, 40, [vi t.Qubits, .slice B t.XImages.length c, .slice B1 t.ZImages.length c1], 3⟩, ⟨aD b1, 28, [vi 0, .slice none 0 0], 2⟩, ⟨aD b2, 64, [vi Qubits28, .slice B174 XImages28.length c174, .slice B175 ZImages28.length c175, .slice B176 gates28.length c176], 4⟩, ⟨B174, 71, (XImages28.flatMap eN0), c174 * 3⟩, ⟨B175, 71, (ZImages28.flatMap eN0), c175 * 3⟩, ⟨B176, 55, (gates28.flatMap eN2), c176 * 3⟩, ⟨aD b17, 62, [pt (aD b2) 0], 1⟩, ⟨aD b18, 3, [vi t1], 1⟩] [⟨B124, (ZImages19.flatMap eN0)⟩, ⟨B123, (XImages19.flatMap eN0)⟩, ⟨B112, (ZImages18.flatMap eN0)⟩, ⟨B111, (XImages18.flatMap eN0)⟩, ⟨B94, (ZImages16.flatMap eN0)⟩, ⟨B93, (XImages16.flatMap eN0)⟩, ⟨B4, (ZImages.flatMap eN0)⟩, ⟨B3, (XImages.flatMap eN0)⟩, ⟨B, (t.XImages.flatMap eN0)⟩, ⟨B1, (t.ZImages.flatMap eN0)⟩]) k_call_57 rfl (mc rfl (mc rfl (mc rfl mn))) ?cv) ?_
        case cv =>
         show CV Try.prog 57 #[pt (aD b2) 0, vi t1, .func (.func 53) #[] #[pt (aD b17) 0, pt (aD b18) 0]] _ _
         refine cv_of_cw 27 Try.func57 rfl Try.ntmps57 rfl ?_
         refine cq (cr ?_)
         refine sQ 7 (ym (vi t1)) <| sQ 8 (yP t1 1) <| sQ 6 (yg (vi (i64.wrap (t1 + 1)))) (rn ?_)
         obtain ⟨z24, hz24, hF103⟩ := bI hc71
         refine cw_block ?_
         refine cw_loop (fun k f w => ∃ (Qubits31 : Int) (XImages31 : List TPauli) (ZImages31 : List TPauli) (gates31 : List TGate) (s9 : Int) (B186 : Option Addr) (c186 : Nat) (B187 : Option Addr) (c187 : Nat) (B188 : Option Addr) (c188 : Nat), FF f [(0, pt (aD b2) 0), (1, vi t1), (2, .func (.func 53) #[] #[pt (aD b17) 0, pt (aD b18) 0]), (6, vi s9)] ∧ ST w0 [] w [⟨aD b2, 64, [vi Qubits31, .slice B186 XImages31.length c186, .slice B187 ZImages31.length c187, .slice B188 gates31.length c188], 4⟩, ⟨B186, 71, (XImages31.flatMap eN0), c186 * 3⟩, ⟨B187, 71, (ZImages31.flatMap eN0), c187 * 3⟩, ⟨B188, 55, (gates31.flatMap eN2), c188 * 3⟩, ⟨aD b17, 62, [pt (aD b2) 0], 1⟩, ⟨aD b18, 3, [vi t1], 1⟩, ⟨aD b, 40, [vi t.Qubits, .slice B t.XImages.length c, .slice B1 t.ZImages.length c1], 3⟩, ⟨aD b1, 28, [vi 0, .slice none 0 0], 2⟩] [⟨B124, (ZImages19.flatMap eN0)⟩, ⟨B123, (XImages19.flatMap eN0)⟩, ⟨B112, (ZImages18.flatMap eN0)⟩, ⟨B111, (XImages18.flatMap eN0)⟩, ⟨B94, (ZImages16.flatMap eN0)⟩, ⟨B93, (XImages16.flatMap eN0)⟩, ⟨B4, (ZImages.flatMap eN0)⟩, ⟨B3, (XImages.flatMap eN0)⟩, ⟨B, (t.XImages.flatMap eN0)⟩, ⟨B1, (t.ZImages.flatMap eN0)⟩] ∧ whX (F_impl_SynthesizeClifford_l6 t1) k (Qubits31, XImages31, ZImages31, gates31, s9) = some z24) fuel ⟨Qubits27, XImages27, ZImages27, gates27, (i64.wrap (t1 + 1)), B168, c168, B169, c169, B170, c170, (fc rfl (fc rfl (fc rfl (fc rfl fn_)))), (hS228.sel [1, 2, 3, 4, 0, 5, 6, 7] rfl rfl), hz24⟩ ?_
         rintro k_24 f w ⟨Qubits31, XImages31, ZImages31, gates31, s9, B186, c186, B187, c187, B188, c188, hf52, hS249, hL24⟩
         obtain ⟨K74, y12, rfl, hb52, hL25⟩ := whX_go hL24
         unfold F_impl_SynthesizeClifford_l6 at hb52
         refine cq (cq (cr ?_))
         refine sQ 9 (ym (vi s9) rfl (hf52.g 6 3)) <| sQ 10 (ym (pt (aD b2) 0) rfl (hf52.g 0 0)) <| sQ 11 (Y_nilCheck (B := aD b2) (i := 0) rfl rfl) <| sQ 12 (yd (aD b2) 0 2 K35 K10) <| sQ 13 (yd (aD b2) 0 0 K30 K3) <| sQ 14 (yl (aD b2) 0 [vi Qubits31, .slice B186 XImages31.length c186, .slice B187 ZImages31.length c187, .slice B188 gates31.length c188] (vi Qubits31) K4 (hS249.c 0)) ?_
         refine sQ 15 (yL s9 Qubits31) (rn ?_)
         refine cw_cond (b := (decide (s9 < Qubits31))) rfl (fun hb53 => ?_) (fun hb53 => ?_)
         ·skip
          have hF104 := ct hb52 hb53
          refine cw_skip (cq ?_)
          obtain ⟨z25, hz25, hF105⟩ := bI hF104
          refine cw_mid (fun f w => ∃ (Qubits32 : Int) (XImages32 : List TPauli) (ZImages32 : List TPauli) (gates32 : List TGate) (B189 : Option Addr) (c189 : Nat) (B190 : Option Addr) (c190 : Nat) (B191 : Option Addr) (c191 : Nat), (Qubits32, XImages32, ZImages32, gates32) = z25 ∧ FF f [(0, pt (aD b2) 0), (1, vi t1), (2, .func (.func 53) #[] #[pt (aD b17) 0, pt (aD b18) 0]), (6, vi s9)] ∧ ST w0 [] w [⟨aD b2, 64, [vi Qubits32, .slice B189 XImages32.length c189, .slice B190 ZImages32.length c190, .slice B191 gates32.length c191], 4⟩, ⟨B189, 71, (XImages32.flatMap eN0), c189 * 3⟩, ⟨B190, 71, (ZImages32.flatMap eN0), c190 * 3⟩, ⟨B191, 55, (gates32.flatMap eN2), c191 * 3⟩, ⟨aD b17, 62, [pt (aD b2) 0], 1⟩, ⟨aD b18, 3, [vi t1], 1⟩, ⟨aD b, 40, [vi t.Qubits, .slice B t.XImages.length c, .slice B1 t.ZImages.length c1], 3⟩, ⟨aD b1, 28, [vi 0, .slice none 0 0], 2⟩] [⟨B124, (ZImages19.flatMap eN0)⟩, ⟨B123, (XImages19.flatMap eN0)⟩, ⟨B112, (ZImages18.flatMap eN0)⟩, ⟨B111, (XImages18.flatMap eN0)⟩, ⟨B94, (ZImages16.flatMap eN0)⟩, ⟨B93, (XImages16.flatMap eN0)⟩, ⟨B4, (ZImages.flatMap eN0)⟩, ⟨B3, (XImages.flatMap eN0)⟩, ⟨B, (t.XImages.flatMap eN0)⟩, ⟨B1, (t.ZImages.flatMap eN0)⟩]) ?_ ?_
          ·skip
           refine cw_block (cq (cr ?_))
           refine sQ 18 (ym (.func (.func 53) #[] #[pt (aD b17) 0, pt (aD b18) 0]) rfl (hf52.g 2 2)) ?_
           obtain ⟨⟨t53, t54, t55⟩, hc72, hz25⟩ := bI hz25
           refine sc 19 rfl rfl (Yc_clos (g := 53) (vs := [pt (aD b17) 0, pt (aD b18) 0]) (R := fun v w' => v = .agg #[vi t53, vi t54, vi t55] ∧ ST w0 [] w' [⟨aD b, 40, [vi t.Qubits, .slice B t.XImages.length c, .slice B1 t.ZImages.length c1], 3⟩, ⟨aD b1, 28, [vi 0, .slice none 0 0], 2⟩, ⟨aD b2, 64, [vi Qubits31, .slice B186 XImages31.length c186, .slice B187 ZImages31.length c187, .slice B188 gates31.length c188], 4⟩, ⟨B186, 71, (XImages31.flatMap eN0), c186 * 3⟩, ⟨B187, 71, (ZImages31.flatMap eN0), c187 * 3⟩, ⟨B188, 55, (gates31.flatMap eN2), c188 * 3⟩, ⟨aD b17, 62, [pt (aD b2) 0], 1⟩, ⟨aD b18, 3, [vi t1], 1⟩] [⟨B124, (ZImages19.flatMap eN0)⟩, ⟨B123, (XImages19.flatMap eN0)⟩, ⟨B112, (ZImages18.flatMap eN0)⟩, ⟨B111, (XImages18.flatMap eN0)⟩, ⟨B94, (ZImages16.flatMap eN0)⟩, ⟨B93, (XImages16.flatMap eN0)⟩, ⟨B4, (ZImages.flatMap eN0)⟩, ⟨B3, (XImages.flatMap eN0)⟩, ⟨B, (t.XImages.flatMap eN0)⟩, ⟨B1, (t.ZImages.flatMap eN0)⟩]) K65 rfl rfl (clo_args mn) ?cv) ?_
           case cv =>
            show CV Try.prog 53 #[pt (aD b17) 0, pt (aD b18) 0] _ _
            refine cv_of_cw 11 Try.func53 rfl Try.ntmps53 rfl ?_
            refine cq (cr ?_)
            refine sS 2 (yN [vi 0, vi 0, vi 0] 3 hS249 K5) ?_
            rintro _ w_139 ⟨b39, rfl, hS255⟩
            refine rn (cq ?_)
            obtain ⟨x24, hx24, hc72⟩ := bI hc72
            refine ra_start (hS255.se [0, 1, 2, 3, 4, 5, 6, 7]).fn (by kernel_rfl) ?_
            have hS256 := hS255.drew
            refine rq 0 3 (v := pt (aD b2) 0) rfl (hS256.se [0, 1, 2, 3, 4, 5, 6, 7]) (fun w' hw' => (yl (aD b17) 0 [pt (aD b2) 0] (pt (aD b2) 0) K27 (ST.cf hw' (i := 4) rfl))) ?_
            refine rq 1 4 (v := pt (aD b2) 0) rfl (hS256.se [0, 1, 2, 3, 4, 5, 6, 7]) (fun w' hw' => (Y_nilCheck (B := aD b2) (i := 0) rfl rfl)) ?_
            refine rq 2 5 (v := pt (aD b2) 0) rfl (hS256.se [0, 1, 2, 3, 4, 5, 6, 7]) (fun w' hw' => (yd (aD b2) 0 2 K35 K10)) ?_
            refine rq 3 6 (v := pt (aD b2) 2) rfl (hS256.se [0, 1, 2, 3, 4, 5, 6, 7]) (fun w' hw' => (yd (aD b2) 0 0 K11 K1)) ?_
            refine rq 4 7 (v := .slice B187 ZImages31.length c187) rfl (hS256.se [0, 1, 2, 3, 4, 5, 6, 7]) (fun w' hw' => (yl (aD b2) 2 [vi Qubits31, .slice B186 XImages31.length c186, .slice B187 ZImages31.length c187, .slice B188 gates31.length c188] (.slice B187 ZImages31.length c187) K6 (ST.cf hw' (i := 0) rfl))) ?_
            refine rq 5 8 (v := vi t1) rfl (hS256.se [0, 1, 2, 3, 4, 5, 6, 7]) (fun w' hw' => (yl (aD b18) 0 [vi t1] (vi t1) K4 (ST.cf hw' (i := 5) rfl))) ?_
            refine rq 6 9 (v := pt B187 (t1.toNat * 3)) rfl (hS256.se [0, 1, 2, 3, 4, 5, 6, 7]) (fun w' hw' => (Y_index (B := B187) (m := ZImages31.length) (c := c187) (k := .i64) (i := t1) K2 K0 rfl rfl rfl (gi_isSome eN1 rfl (ST.cf hw' (i := 2) rfl) hx24) (getI_nn hx24) (getI_ltI hx24 rfl))) ?_
            refine rq 7 10 (v := .agg #[vi x24.Phase, vi x24.X, vi x24.Z]) rfl (hS256.se [0, 1, 2, 3, 4, 5, 6, 7]) (fun w' hw' => (ya B187 (t1.toNat * 3) (ZImages31.flatMap eN0) [vi x24.Phase, vi x24.X, vi x24.Z] K14 K0 (ST.cf hw' (i := 2) rfl) rfl rfl (eN1 x24) (gi_seg eN1 hx24))) ?_
            refine rA [8] ?_
            refine rZ 8 rfl (yT 8 3 (aD b39) 71 (.agg #[vi x24.Phase, vi x24.X, vi x24.Z]) [vi x24.Phase, vi x24.X, vi x24.Z] 0 hS256 K0) ?_ ?_
            ·rintro _ w_140 ⟨rfl, hS257⟩
             refine ⟨(hS257.se [0, 1, 2, 3, 4, 5, 6, 7]), ?_⟩
             refine ra_done (by kernel_rfl) ?_
             refine ct_ ?_
             obtain ⟨rfl, rfl, rfl⟩ := pr3 (sI hc72)
             exact ret1 Try.results53 (v1 := .agg #[vi x24.Phase, vi x24.X, vi x24.Z]) (resAt_cellA (B := aD b39) (i := 0) (cs := [vi x24.Phase, vi x24.X, vi x24.Z]) (vs := [vi x24.Phase, vi x24.X, vi x24.Z]) rfl K14 K0 (hS257.c 8) rfl rfl) ⟨rfl, (hS257.sel [6, 7, 0, 1, 2, 3, 4, 5] rfl rfl)⟩
            exact aN
           rintro _ w_138 ⟨rfl, hd72⟩
           have hd72 : ST w0 [] _ [⟨aD b, 40, [vi t.Qubits, .slice B t.XImages.length c, .slice B1 t.ZImages.length c1], 3⟩, ⟨aD b1, 28, [vi 0, .slice none 0 0], 2⟩, ⟨aD b2, 64, [vi Qubits31, .slice B186 XImages31.length c186, .slice B187 ZImages31.length c187, .slice B188 gates31.length c188], 4⟩, ⟨B186, 71, (XImages31.flatMap eN0), c186 * 3⟩, ⟨B187, 71, (ZImages31.flatMap eN0), c187 * 3⟩, ⟨B188, 55, (gates31.flatMap eN2), c188 * 3⟩, ⟨aD b17, 62, [pt (aD b2) 0], 1⟩, ⟨aD b18, 3, [vi t1], 1⟩] [⟨B124, (ZImages19.flatMap eN0)⟩, ⟨B123, (XImages19.flatMap eN0)⟩, ⟨B112, (ZImages18.flatMap eN0)⟩, ⟨B111, (XImages18.flatMap eN0)⟩, ⟨B94, (ZImages16.flatMap eN0)⟩, ⟨B93, (XImages16.flatMap eN0)⟩, ⟨B4, (ZImages.flatMap eN0)⟩, ⟨B3, (XImages.flatMap eN0)⟩, ⟨B, (t.XImages.flatMap eN0)⟩, ⟨B1, (t.ZImages.flatMap eN0)⟩] := hd72
           refine sQ 20 (ym (vi s9) rfl (hf52.g 6 3)) ?_
           obtain ⟨r_18, hc73, hz25⟩ := bI hz25
           refine sc 21 rfl rfl (yC [.agg #[vi t53, vi t54, vi t55], vi s9] K57 (c_impl_letterOf (TPauli.mk t53 t54 t55) s9 _  (hd72.inn0 [] rfl) hc73)) ?_
           rintro _ w_141 ⟨rfl, hd73⟩
           have hS258 := hd72.out00 hd73
           have hS258 : ST w0 [] _ [⟨aD b, 40, [vi t.Qubits, .slice B t.XImages.length c, .slice B1 t.ZImages.length c1], 3⟩, ⟨aD b1, 28, [vi 0, .slice none 0 0], 2⟩, ⟨aD b2, 64, [vi Qubits31, .slice B186 XImages31.length c186, .slice B187 ZImages31.length c187, .slice B188 gates31.length c188], 4⟩, ⟨B186, 71, (XImages31.flatMap eN0), c186 * 3⟩, ⟨B187, 71, (ZImages31.flatMap eN0), c187 * 3⟩, ⟨B188, 55, (gates31.flatMap eN2), c188 * 3⟩, ⟨aD b17, 62, [pt (aD b2) 0], 1⟩, ⟨aD b18, 3, [vi t1], 1⟩] [⟨B124, (ZImages19.flatMap eN0)⟩, ⟨B123, (XImages19.flatMap eN0)⟩, ⟨B112, (ZImages18.flatMap eN0)⟩, ⟨B111, (XImages18.flatMap eN0)⟩, ⟨B94, (ZImages16.flatMap eN0)⟩, ⟨B93, (XImages16.flatMap eN0)⟩, ⟨B4, (ZImages.flatMap eN0)⟩, ⟨B3, (XImages.flatMap eN0)⟩, ⟨B, (t.XImages.flatMap eN0)⟩, ⟨B1, (t.ZImages.flatMap eN0)⟩] := hS258
           refine sQ 22 (Y_eq (k := .u8) (a := r_18) (b := 88) rfl rfl rfl) (rn ?_)
           refine cw_cond (b := (r_18 == 88)) rfl (fun hb54 => ?_) (fun hb54 => ?_)
           ·skip
            have hF106 := ct hz25 hb54
            refine cr ?_
            refine sQ 23 (ym (pt (aD b2) 0) rfl (hf52.g 0 0)) <| sQ 24 (ym (vi t1) rfl (hf52.g 1 1)) <| sQ 25 (ym (vi s9) rfl (hf52.g 6 3)) ?_
            obtain ⟨m30, hc74, hF106⟩ := bI hF106
            refine sc 26 rfl rfl (yC [pt (aD b2) 0, vi 9, vi t1, vi s9] K44 (c_impl_reducer_add (Treducer.mk (TTableau.mk Qubits31 XImages31 ZImages31) gates31) 9 t1 s9 (aD b2) B186 c186 XImages31.length B187 c187 ZImages31.length B188 c188 gates31.length _ rfl rfl rfl (hS258.inn [false, false, true, false, false, true, false, false] rfl [(false, 2), (false, 3)] rfl) hc74)) ?_
            rintro _ w_142 ⟨B192, c192, B193, c193, B194, c194, rfl, hd74⟩
            have hS259 := hS258.out [false, false, true, false, false, true, false, false] rfl hd74
            refine rn ?_
            exact ⟨m30.t.Qubits, m30.t.XImages, m30.t.ZImages, m30.gates, B192, c192, B193, c193, B194, c194, (sI hF106), (fc (hf52.g 0 0) (fc (hf52.g 1 1) (fc (hf52.g 2 2) (fc (hf52.g 6 3) fn_)))), (hS259.sel [6, 7, 8, 9, 4, 5, 0, 1] rfl rfl)⟩
           ·skip
            have hF107 := cf' hz25 hb54
            refine cw_skip ?_
            exact ⟨Qubits31, XImages31, ZImages31, gates31, B186, c186, B187, c187, B188, c188, (sI hF107), (fc (hf52.g 0 0) (fc (hf52.g 1 1) (fc (hf52.g 2 2) (fc (hf52.g 6 3) fn_)))), (hS258.sel [2, 3, 4, 5, 6, 7, 0, 1] rfl rfl)⟩
          rintro f w ⟨Qubits32, XImages32, ZImages32, gates32, B189, c189, B190, c190, B191, c191, rfl, hf53, hS250⟩
          refine cr ?_
          refine sQ 16 (ym (vi s9) rfl (hf53.g 6 3)) <| sQ 17 (yP s9 1) <| sQ 6 (yg (vi (i64.wrap (s9 + 1)))) (rn ?_)
          obtain rfl := sI hF105
          exact ⟨K74, Nat.lt_succ_self _, Qubits32, XImages32, ZImages32, gates32, (i64.wrap (s9 + 1)), B189, c189, B190, c190, B191, c191, (fc (hf53.g 0 0) (fc (hf53.g 1 1) (fc (hf53.g 2 2) (fc rfl fn_)))), (hS250.sel [0, 1, 2, 3, 4, 5, 6, 7] rfl rfl), hL25⟩
         ·skip
          have hF108 := cf' hb52 hb53
          refine cw_exit rfl ?_
          obtain rfl := sI hF108
          obtain rfl := sI hL25
          obtain ⟨rfl, rfl, rfl, rfl⟩ := pr4 (sI hF103)
          exact ret0 Try.results57  ⟨B186, c186, B187, c187, B188, c188, rfl, rfl, rfl, rfl, (hS249.sel [6, 7, 0, 1, 2, 3, 4, 5] rfl rfl)⟩
        rintro _ w_135 ⟨B174, c174, B175, c175, B176, c176, rfl, hl9, hl10, hl11, hd71⟩
        have hd71 : ST w0 [] _ [⟨aD b, 40, [vi t.Qubits, .slice B t.XImages.length c, .slice B1 t.ZImages.length c1], 3⟩, ⟨aD b1, 28, [vi 0, .slice none 0 0], 2⟩, ⟨aD b2, 64, [vi Qubits28, .slice B174 XImages28.length c174, .slice B175 ZImages28.length c175, .slice B176 gates28.length c176], 4⟩, ⟨B174, 71, (XImages28.flatMap eN0), c174 * 3⟩, ⟨B175, 71, (ZImages28.flatMap eN0), c175 * 3⟩, ⟨B176, 55, (gates28.flatMap eN2), c176 * 3⟩, ⟨aD b17, 62, [pt (aD b2) 0], 1⟩, ⟨aD b18, 3, [vi t1], 1⟩] [⟨B124, (ZImages19.flatMap eN0)⟩, ⟨B123, (XImages19.flatMap eN0)⟩, ⟨B112, (ZImages18.flatMap eN0)⟩, ⟨B111, (XImages18.flatMap eN0)⟩, ⟨B94, (ZImages16.flatMap eN0)⟩, ⟨B93, (XImages16.flatMap eN0)⟩, ⟨B4, (ZImages.flatMap eN0)⟩, ⟨B3, (XImages.flatMap eN0)⟩, ⟨B, (t.XImages.flatMap eN0)⟩, ⟨B1, (t.ZImages.flatMap eN0)⟩] := hd71
        refine rn (cr ?_)
        refine sQ 107 (yl (aD b17) 0 [pt (aD b2) 0] (pt (aD b2) 0) K27 (hd71.cf (i := 6) rfl) rfl (hf46.g 2 0)) <| sQ 108 (yl (aD b18) 0 [vi t1] (vi t1) K4 (hd71.cf (i := 7) rfl) rfl (hf46.g 3 1)) ?_
        obtain ⟨m31, hc75, hF94⟩ := bI hF94
        refine sc 109 rfl rfl (yC [pt (aD b2) 0, vi 1, vi t1, vi 0] K44 (c_impl_reducer_add (Treducer.mk (TTableau.mk Qubits28 XImages28 ZImages28) gates28) 1 t1 0 (aD b2) B174 c174 XImages28.length B175 c175 ZImages28.length B176 c176 gates28.length _ hl9 hl10 hl11 (hd71.inn [false, false, true, false, false, true, false, false] rfl [(false, 2), (false, 3)] rfl) hc75)) ?_
        rintro _ w_143 ⟨B195, c195, B196, c196, B197, c197, rfl, hd75⟩
        have hS260 := hd71.out [false, false, true, false, false, true, false, false] rfl hd75
        refine rn ?_
        have ho66 : Org w0 [] [⟨B, (t.XImages.flatMap eN0)⟩, ⟨B1, (t.ZImages.flatMap eN0)⟩] [⟨B195, (m31.t.XImages.flatMap eN0)⟩] := ST.orgOwn hS260 (i := 7) rfl
        have hcap28 : m31.t.XImages.length ≤ c195 := (hS260.lencap (i := 7) rfl (fm_lenn (l := m31.t.XImages) eN1 rfl) rfl rfl)
        have hS261 : ST w0 [] _ [⟨aD b, 40, [vi t.Qubits, .slice B t.XImages.length c, .slice B1 t.ZImages.length c1], 3⟩, ⟨aD b1, 28, [vi 0, .slice none 0 0], 2⟩, ⟨B174, 71, (XImages28.flatMap eN0), c174 * 3⟩, ⟨B175, 71, (ZImages28.flatMap eN0), c175 * 3⟩, ⟨aD b17, 62, [pt (aD b2) 0], 1⟩, ⟨aD b18, 3, [vi t1], 1⟩, ⟨aD b2, 64, [vi m31.t.Qubits, .slice B195 m31.t.XImages.length c195, .slice B196 m31.t.ZImages.length c196, .slice B197 m31.gates.length c197], 4⟩, ⟨B196, 71, (m31.t.ZImages.flatMap eN0), c196 * 3⟩, ⟨B197, 55, (m31.gates.flatMap eN2), c197 * 3⟩] [⟨B195, (m31.t.XImages.flatMap eN0)⟩, ⟨B124, (ZImages19.flatMap eN0)⟩, ⟨B123, (XImages19.flatMap eN0)⟩, ⟨B112, (ZImages18.flatMap eN0)⟩, ⟨B111, (XImages18.flatMap eN0)⟩, ⟨B94, (ZImages16.flatMap eN0)⟩, ⟨B93, (XImages16.flatMap eN0)⟩, ⟨B4, (ZImages.flatMap eN0)⟩, ⟨B3, (XImages.flatMap eN0)⟩, ⟨B, (t.XImages.flatMap eN0)⟩, ⟨B1, (t.ZImages.flatMap eN0)⟩] := hS260.freeze (i := 7) rfl
        have ho67 : Org w0 [] [⟨B, (t.XImages.flatMap eN0)⟩, ⟨B1, (t.ZImages.flatMap eN0)⟩] [⟨B196, (m31.t.ZImages.flatMap eN0)⟩] := ST.orgOwn hS261 (i := 7) rfl
        have hcap29 : m31.t.ZImages.length ≤ c196 := (hS261.lencap (i := 7) rfl (fm_lenn (l := m31.t.ZImages) eN1 rfl) rfl rfl)
        have hS262 : ST w0 [] _ [⟨aD b, 40, [vi t.Qubits, .slice B t.XImages.length c, .slice B1 t.ZImages.length c1], 3⟩, ⟨aD b1, 28, [vi 0, .slice none 0 0], 2⟩, ⟨B174, 71, (XImages28.flatMap eN0), c174 * 3⟩, ⟨B175, 71, (ZImages28.flatMap eN0), c175 * 3⟩, ⟨aD b17, 62, [pt (aD b2) 0], 1⟩, ⟨aD b18, 3, [vi t1], 1⟩, ⟨aD b2, 64, [vi m31.t.Qubits, .slice B195 m31.t.XImages.length c195, .slice B196 m31.t.ZImages.length c196, .slice B197 m31.gates.length c197], 4⟩, ⟨B197, 55, (m31.gates.flatMap eN2), c197 * 3⟩] [⟨B196, (m31.t.ZImages.flatMap eN0)⟩, ⟨B195, (m31.t.XImages.flatMap eN0)⟩, ⟨B124, (ZImages19.flatMap eN0)⟩, ⟨B123, (XImages19.flatMap eN0)⟩, ⟨B112, (ZImages18.flatMap eN0)⟩, ⟨B111, (XImages18.flatMap eN0)⟩, ⟨B94, (ZImages16.flatMap eN0)⟩, ⟨B93, (XImages16.flatMap eN0)⟩, ⟨B4, (ZImages.flatMap eN0)⟩, ⟨B3, (XImages.flatMap eN0)⟩, ⟨B, (t.XImages.flatMap eN0)⟩, ⟨B1, (t.ZImages.flatMap eN0)⟩] := hS261.freeze (i := 7) rfl
        exact ⟨m31.t.Qubits, m31.t.XImages, m31.t.ZImages, m31.gates, B195, c195, B196, c196, B197, c197, (sI hF94), (fc (hf46.g 2 0) (fc (hf46.g 3 1) (fc (hf46.g 4 2) (fc (hf46.g 5 3) fn_)))), ho66, (len_le rfl hcap28), ho67, (len_le rfl hcap29), (hS262.sel [4, 6, 7, 5, 0, 1] rfl rfl)⟩
      ·skip
       have hF109 := cf' hz19 hb41
       refine cw_skip ?_
       have hS263 : ST w0 [] _ [⟨aD b, 40, [vi t.Qubits, .slice B t.XImages.length c, .slice B1 t.ZImages.length c1], 3⟩, ⟨aD b1, 28, [vi 0, .slice none 0 0], 2⟩, ⟨aD b2, 64, [vi Qubits19, .slice B123 XImages19.length c123, .slice B124 ZImages19.length c124, .slice B125 gates19.length c125], 4⟩, ⟨B125, 55, (gates19.flatMap eN2), c125 * 3⟩, ⟨aD b17, 62, [pt (aD b2) 0], 1⟩, ⟨aD b18, 3, [vi t1], 1⟩, ⟨aD b30, 71, [vi t41, vi t42, vi t43], 3⟩] [⟨B124, (ZImages19.flatMap eN0)⟩, ⟨B123, (XImages19.flatMap eN0)⟩, ⟨B124, (ZImages19.flatMap eN0)⟩, ⟨B123, (XImages19.flatMap eN0)⟩, ⟨B112, (ZImages18.flatMap eN0)⟩, ⟨B111, (XImages18.flatMap eN0)⟩, ⟨B94, (ZImages16.flatMap eN0)⟩, ⟨B93, (XImages16.flatMap eN0)⟩, ⟨B4, (ZImages.flatMap eN0)⟩, ⟨B3, (XImages.flatMap eN0)⟩, ⟨B, (t.XImages.flatMap eN0)⟩, ⟨B1, (t.ZImages.flatMap eN0)⟩] := ST.subR hS208 (sk 0 (sk 1 (sk 0 (sk 1 (sk 2 (sk 3 (sk 4 (sk 5 (sk 6 (sk 7 (sk 8 (sk 9 (fun _ h => by cases h)))))))))))))
       exact ⟨Qubits19, XImages19, ZImages19, gates19, B123, c123, B124, c124, B125, c125, (sI hF109), (fc (hf33.g 2 0) (fc (hf33.g 3 1) (fc (hf33.g 4 2) (fc (hf33.g 5 3) fn_)))), ho50, (len_le hl6 hq28), ho51, (len_le hl7 hq29), (by rw [(hl6 : XImages19.length = XImages19.length), (hl7 : ZImages19.length = ZImages19.length), (hl8 : gates19.length = gates19.length)]; exact hS263.sel [4, 2, 3, 5, 0, 1] rfl rfl)⟩
     rintro f w ⟨Qubits24, XImages24, ZImages24, gates24, B144, c144, B145, c145, B146, c146, rfl, hf41, ho64, hq38, ho65, hq39, hS198⟩
     refine cq ?_
     obtain ⟨z26, hz26, hF110⟩ := bI hF81
     refine cw_mid (fun f w => ∃ (Qubits33 : Int) (XImages33 : List TPauli) (ZImages33 : List TPauli) (gates33 : List TGate) (B198 : Option Addr) (c198 : Nat) (B199 : Option Addr) (c199 : Nat) (B200 : Option Addr) (c200 : Nat), (Qubits33, XImages33, ZImages33, gates33) = z26 ∧ FF f [(2, pt (aD b17) 0), (3, pt (aD b18) 0), (5, .func (.func 53) #[] #[pt (aD b17) 0, pt (aD b18) 0])] ∧ Org w0 [] [⟨B, (t.XImages.flatMap eN0)⟩, ⟨B1, (t.ZImages.flatMap eN0)⟩] [⟨B198, (XImages33.flatMap eN0)⟩] ∧ XImages33.length ≤ c198 ∧ Org w0 [] [⟨B, (t.XImages.flatMap eN0)⟩, ⟨B1, (t.ZImages.flatMap eN0)⟩] [⟨B199, (ZImages33.flatMap eN0)⟩] ∧ ZImages33.length ≤ c199 ∧ ST w0 [] w [⟨aD b17, 62, [pt (aD b2) 0], 1⟩, ⟨aD b2, 64, [vi Qubits33, .slice B198 XImages33.length c198, .slice B199 ZImages33.length c199, .slice B200 gates33.length c200], 4⟩, ⟨B200, 55, (gates33.flatMap eN2), c200 * 3⟩, ⟨aD b18, 3, [vi t1], 1⟩, ⟨aD b, 40, [vi t.Qubits, .slice B t.XImages.length c, .slice B1 t.ZImages.length c1], 3⟩, ⟨aD b1, 28, [vi 0, .slice none 0 0], 2⟩] [⟨B199, (ZImages33.flatMap eN0)⟩, ⟨B198, (XImages33.flatMap eN0)⟩, ⟨B145, (ZImages24.flatMap eN0)⟩, ⟨B144, (XImages24.flatMap eN0)⟩, ⟨B124, (ZImages19.flatMap eN0)⟩, ⟨B123, (XImages19.flatMap eN0)⟩, ⟨B112, (ZImages18.flatMap eN0)⟩, ⟨B111, (XImages18.flatMap eN0)⟩, ⟨B94, (ZImages16.flatMap eN0)⟩, ⟨B93, (XImages16.flatMap eN0)⟩, ⟨B4, (ZImages.flatMap eN0)⟩, ⟨B3, (XImages.flatMap eN0)⟩, ⟨B, (t.XImages.flatMap eN0)⟩, ⟨B1, (t.ZImages.flatMap eN0)⟩]) ?_ ?_
     ·skip
      refine cq (cr ?_)
      refine sQ 110 (ym (.func (.func 52) #[] #[pt (aD b17) 0, pt (aD b18) 0]) rfl (hf41.g 4 2)) ?_
      obtain ⟨⟨t56, t57, t58⟩, hc76, hz26⟩ := bI hz26
      refine sc 111 rfl rfl (Yc_clos (g := 52) (vs := [pt (aD b17) 0, pt (aD b18) 0]) (R := fun v w' => v = .agg #[vi t56, vi t57, vi t58] ∧ ST w0 [] w' [⟨aD b, 40, [vi t.Qubits, .slice B t.XImages.length c, .slice B1 t.ZImages.length c1], 3⟩, ⟨aD b1, 28, [vi 0, .slice none 0 0], 2⟩, ⟨aD b2, 64, [vi Qubits24, .slice B144 XImages24.length c144, .slice B145 ZImages24.length c145, .slice B146 gates24.length c146], 4⟩, ⟨B146, 55, (gates24.flatMap eN2), c146 * 3⟩, ⟨aD b17, 62, [pt (aD b2) 0], 1⟩, ⟨aD b18, 3, [vi t1], 1⟩] [⟨B145, (ZImages24.flatMap eN0)⟩, ⟨B144, (XImages24.flatMap eN0)⟩, ⟨B124, (ZImages19.flatMap eN0)⟩, ⟨B123, (XImages19.flatMap eN0)⟩, ⟨B112, (ZImages18.flatMap eN0)⟩, ⟨B111, (XImages18.flatMap eN0)⟩, ⟨B94, (ZImages16.flatMap eN0)⟩, ⟨B93, (XImages16.flatMap eN0)⟩, ⟨B4, (ZImages.flatMap eN0)⟩, ⟨B3, (XImages.flatMap eN0)⟩, ⟨B, (t.XImages.flatMap eN0)⟩, ⟨B1, (t.ZImages.flatMap eN0)⟩]) K76 rfl rfl (clo_args mn) ?cv) ?_
      case cv =>
       show CV Try.prog 52 #[pt (aD b17) 0, pt (aD b18) 0] _ _
       refine cv_of_cw 11 Try.func52 rfl Try.ntmps52 rfl ?_
       refine cq (cr ?_)
       refine sS 2 (yN [vi 0, vi 0, vi 0] 3 hS198 K5) ?_
       rintro _ w_147 ⟨b41, rfl, hS269⟩
       refine rn (cq ?_)
       obtain ⟨x26, hx26, hc76⟩ := bI hc76
       refine ra_start (hS269.se [0, 1, 2, 3, 4, 5]).fn (by kernel_rfl) ?_
       have hS270 := hS269.drew
       refine rq 0 3 (v := pt (aD b2) 0) rfl (hS270.se [0, 1, 2, 3, 4, 5]) (fun w' hw' => (yl (aD b17) 0 [pt (aD b2) 0] (pt (aD b2) 0) K27 (ST.cf hw' (i := 0) rfl))) ?_
       refine rq 1 4 (v := pt (aD b2) 0) rfl (hS270.se [0, 1, 2, 3, 4, 5]) (fun w' hw' => (Y_nilCheck (B := aD b2) (i := 0) rfl rfl)) ?_
       refine rq 2 5 (v := pt (aD b2) 0) rfl (hS270.se [0, 1, 2, 3, 4, 5]) (fun w' hw' => (yd (aD b2) 0 2 K35 K10)) ?_
       refine rq 3 6 (v := pt (aD b2) 1) rfl (hS270.se [0, 1, 2, 3, 4, 5]) (fun w' hw' => (yd (aD b2) 0 0 K9 K1)) ?_
       refine rq 4 7 (v := .slice B144 XImages24.length c144) rfl (hS270.se [0, 1, 2, 3, 4, 5]) (fun w' hw' => (yl (aD b2) 1 [vi Qubits24, .slice B144 XImages24.length c144, .slice B145 ZImages24.length c145, .slice B146 gates24.length c146] (.slice B144 XImages24.length c144) K6 (ST.cf hw' (i := 1) rfl))) ?_
       refine rq 5 8 (v := vi t1) rfl (hS270.se [0, 1, 2, 3, 4, 5]) (fun w' hw' => (yl (aD b18) 0 [vi t1] (vi t1) K4 (ST.cf hw' (i := 3) rfl))) ?_
       refine rq 6 9 (v := pt B144 (t1.toNat * 3)) rfl (hS270.se [0, 1, 2, 3, 4, 5]) (fun w' hw' => (Y_index (B := B144) (m := XImages24.length) (c := c144) (k := .i64) (i := t1) K2 K0 rfl rfl rfl (gi_isSome eN1 rfl (ST.rf hw' (i := 1) rfl) hx26) (getI_nn hx26) (getI_ltI hx26 rfl))) ?_
       refine rq 7 10 (v := .agg #[vi x26.Phase, vi x26.X, vi x26.Z]) rfl (hS270.se [0, 1, 2, 3, 4, 5]) (fun w' hw' => (ya B144 (t1.toNat * 3) (XImages24.flatMap eN0) [vi x26.Phase, vi x26.X, vi x26.Z] K14 K0 (ST.rf hw' (i := 1) rfl) rfl rfl (eN1 x26) (gi_seg eN1 hx26))) ?_
       refine rA [8] ?_
       refine rZ 8 rfl (yT 6 3 (aD b41) 71 (.agg #[vi x26.Phase, vi x26.X, vi x26.Z]) [vi x26.Phase, vi x26.X, vi x26.Z] 0 hS270 K0) ?_ ?_
       ·rintro _ w_148 ⟨rfl, hS271⟩
        have hS271 : ST w0 [] _ [⟨aD b17, 62, [pt (aD b2) 0], 1⟩, ⟨aD b2, 64, [vi Qubits24, .slice B144 XImages24.length c144, .slice B145 ZImages24.length c145, .slice B146 gates24.length c146], 4⟩, ⟨B146, 55, (gates24.flatMap eN2), c146 * 3⟩, ⟨aD b18, 3, [vi t1], 1⟩, ⟨aD b, 40, [vi t.Qubits, .slice B t.XImages.length c, .slice B1 t.ZImages.length c1], 3⟩, ⟨aD b1, 28, [vi 0, .slice none 0 0], 2⟩, ⟨aD b41, 71, [vi x26.Phase, vi x26.X, vi x26.Z], 3⟩] [⟨B145, (ZImages24.flatMap eN0)⟩, ⟨B144, (XImages24.flatMap eN0)⟩, ⟨B124, (ZImages19.flatMap eN0)⟩, ⟨B123, (XImages19.flatMap eN0)⟩, ⟨B112, (ZImages18.flatMap eN0)⟩, ⟨B111, (XImages18.flatMap eN0)⟩, ⟨B94, (ZImages16.flatMap eN0)⟩, ⟨B93, (XImages16.flatMap eN0)⟩, ⟨B4, (ZImages.flatMap eN0)⟩, ⟨B3, (XImages.flatMap eN0)⟩, ⟨B, (t.XImages.flatMap eN0)⟩, ⟨B1, (t.ZImages.flatMap eN0)⟩] := hS271
        refine ⟨(hS271.se [0, 1, 2, 3, 4, 5]), ?_⟩
        refine ra_done (by kernel_rfl) ?_
        refine ct_ ?_
        obtain ⟨rfl, rfl, rfl⟩ := pr3 (sI hc76)
        exact ret1 Try.results52 (v1 := .agg #[vi x26.Phase, vi x26.X, vi x26.Z]) (resAt_cellA (B := aD b41) (i := 0) (cs := [vi x26.Phase, vi x26.X, vi x26.Z]) (vs := [vi x26.Phase, vi x26.X, vi x26.Z]) rfl K14 K0 (hS271.c 6) rfl rfl) ⟨rfl, (hS271.sel [4, 5, 1, 2, 0, 3] rfl rfl)⟩
       exact aN
      rintro _ w_146 ⟨rfl, hd76⟩
      have hd76 : ST w0 [] _ [⟨aD b, 40, [vi t.Qubits, .slice B t.XImages.length c, .slice B1 t.ZImages.length c1], 3⟩, ⟨aD b1, 28, [vi 0, .slice none 0 0], 2⟩, ⟨aD b2, 64, [vi Qubits24, .slice B144 XImages24.length c144, .slice B145 ZImages24.length c145, .slice B146 gates24.length c146], 4⟩, ⟨B146, 55, (gates24.flatMap eN2), c146 * 3⟩, ⟨aD b17, 62, [pt (aD b2) 0], 1⟩, ⟨aD b18, 3, [vi t1], 1⟩] [⟨B145, (ZImages24.flatMap eN0)⟩, ⟨B144, (XImages24.flatMap eN0)⟩, ⟨B124, (ZImages19.flatMap eN0)⟩, ⟨B123, (XImages19.flatMap eN0)⟩, ⟨B112, (ZImages18.flatMap eN0)⟩, ⟨B111, (XImages18.flatMap eN0)⟩, ⟨B94, (ZImages16.flatMap eN0)⟩, ⟨B93, (XImages16.flatMap eN0)⟩, ⟨B4, (ZImages.flatMap eN0)⟩, ⟨B3, (XImages.flatMap eN0)⟩, ⟨B, (t.XImages.flatMap eN0)⟩, ⟨B1, (t.ZImages.flatMap eN0)⟩] := hd76
      refine sQ 112 (Y_field1 (v := vi t56) K23 K4 rfl rfl rfl) <| sQ 113 (yE t56 2) (rn ?_)
      refine cw_cond (b := (t56 == 2)) rfl (fun hb55 => ?_) (fun hb55 => ?_)
      ·skip
       have hF111 := ct hz26 hb55
       refine cr ?_
       refine sQ 114 (yl (aD b17) 0 [pt (aD b2) 0] (pt (aD b2) 0) K27 (hd76.cf (i := 4) rfl) rfl (hf41.g 2 0)) <| sQ 115 (yl (aD b18) 0 [vi t1] (vi t1) K4 (hd76.cf (i := 5) rfl) rfl (hf41.g 3 1)) ?_
       obtain ⟨m32, hc77, hF111⟩ := bI hF111
       refine sc 116 rfl rfl (yC [pt (aD b2) 0, vi 4, vi t1, vi 0] K44 (c_impl_reducer_add (Treducer.mk (TTableau.mk Qubits24 XImages24 ZImages24) gates24) 4 t1 0 (aD b2) B144 c144 XImages24.length B145 c145 ZImages24.length B146 c146 gates24.length _ rfl rfl rfl (hd76.inn [false, false, true, true, false, false] rfl [(true, 1), (true, 0)] rfl) hc77)) ?_
       rintro _ w_149 ⟨B201, c201, B202, c202, B203, c203, rfl, hd77⟩
       have hS272 := hd76.out [false, false, true, true, false, false] rfl hd77
       refine rn ?_
       have ho70 : Org w0 [] [⟨B, (t.XImages.flatMap eN0)⟩, ⟨B1, (t.ZImages.flatMap eN0)⟩] [⟨B201, (m32.t.XImages.flatMap eN0)⟩] := ST.orgOwn hS272 (i := 5) rfl
       have hcap30 : m32.t.XImages.length ≤ c201 := (hS272.lencap (i := 5) rfl (fm_lenn (l := m32.t.XImages) eN1 rfl) rfl rfl)
       have hS273 : ST w0 [] _ [⟨aD b, 40, [vi t.Qubits, .slice B t.XImages.length c, .slice B1 t.ZImages.length c1], 3⟩, ⟨aD b1, 28, [vi 0, .slice none 0 0], 2⟩, ⟨aD b17, 62, [pt (aD b2) 0], 1⟩, ⟨aD b18, 3, [vi t1], 1⟩, ⟨aD b2, 64, [vi m32.t.Qubits, .slice B201 m32.t.XImages.length c201, .slice B202 m32.t.ZImages.length c202, .slice B203 m32.gates.length c203], 4⟩, ⟨B202, 71, (m32.t.ZImages.flatMap eN0), c202 * 3⟩, ⟨B203, 55, (m32.gates.flatMap eN2), c203 * 3⟩] [⟨B201, (m32.t.XImages.flatMap eN0)⟩, ⟨B145, (ZImages24.flatMap eN0)⟩, ⟨B144, (XImages24.flatMap eN0)⟩, ⟨B124, (ZImages19.flatMap eN0)⟩, ⟨B123, (XImages19.flatMap eN0)⟩, ⟨B112, (ZImages18.flatMap eN0)⟩, ⟨B111, (XImages18.flatMap eN0)⟩, ⟨B94, (ZImages16.flatMap eN0)⟩, ⟨B93, (XImages16.flatMap eN0)⟩, ⟨B4, (ZImages.flatMap eN0)⟩, ⟨B3, (XImages.flatMap eN0)⟩, ⟨B, (t.XImages.flatMap eN0)⟩, ⟨B1, (t.ZImages.flatMap eN0)⟩] := hS272.freeze (i := 5) rfl
       have ho71 : Org w0 [] [⟨B, (t.XImages.flatMap eN0)⟩, ⟨B1, (t.ZImages.flatMap eN0)⟩] [⟨B202, (m32.t.ZImages.flatMap eN0)⟩] := ST.orgOwn hS273 (i := 5) rfl
       have hcap31 : m32.t.ZImages.length ≤ c202 := (hS273.lencap (i := 5) rfl (fm_lenn (l := m32.t.ZImages) eN1 rfl) rfl rfl)
       have hS274 : ST w0 [] _ [⟨aD b, 40, [vi t.Qubits, .slice B t.XImages.length c, .slice B1 t.ZImages.length c1], 3⟩, ⟨aD b1, 28, [vi 0, .slice none 0 0], 2⟩, ⟨aD b17, 62, [pt (aD b2) 0], 1⟩, ⟨aD b18, 3, [vi t1], 1⟩, ⟨aD b2, 64, [vi m32.t.Qubits, .slice B201 m32.t.XImages.length c201, .slice B202 m32.t.ZImages.length c202, .slice B203 m32.gates.length c203], 4⟩, ⟨B203, 55, (m32.gates.flatMap eN2), c203 * 3⟩] [⟨B202, (m32.t.ZImages.flatMap eN0)⟩, ⟨B201, (m32.t.XImages.flatMap eN0)⟩, ⟨B145, (ZImages24.flatMap eN0)⟩, ⟨B144, (XImages24.flatMap eN0)⟩, ⟨B124, (ZImages19.flatMap eN0)⟩, ⟨B123, (XImages19.flatMap eN0)⟩, ⟨B112, (ZImages18.flatMap eN0)⟩, ⟨B111, (XImages18.flatMap eN0)⟩, ⟨B94, (ZImages16.flatMap eN0)⟩, ⟨B93, (XImages16.flatMap eN0)⟩, ⟨B4, (ZImages.flatMap eN0)⟩, ⟨B3, (XImages.flatMap eN0)⟩, ⟨B, (t.XImages.flatMap eN0)⟩, ⟨B1, (t.ZImages.flatMap eN0)⟩] := hS273.freeze (i := 5) rfl
       exact ⟨m32.t.Qubits, m32.t.XImages, m32.t.ZImages, m32.gates, B201, c201, B202, c202, B203, c203, (sI hF111), (fc (hf41.g 2 0) (fc (hf41.g 3 1) (fc (hf41.g 5 3) fn_))), ho70, (len_le rfl hcap30), ho71, (len_le rfl hcap31), (hS274.sel [2, 4, 5, 3, 0, 1] rfl rfl)⟩
      ·skip
       have hF112 := cf' hz26 hb55
       refine cw_skip ?_
       have hS275 : ST w0 [] _ [⟨aD b, 40, [vi t.Qubits, .slice B t.XImages.length c, .slice B1 t.ZImages.length c1], 3⟩, ⟨aD b1, 28, [vi 0, .slice none 0 0], 2⟩, ⟨aD b2, 64, [vi Qubits24, .slice B144 XImages24.length c144, .slice B145 ZImages24.length c145, .slice B146 gates24.length c146], 4⟩, ⟨B146, 55, (gates24.flatMap eN2), c146 * 3⟩, ⟨aD b17, 62, [pt (aD b2) 0], 1⟩, ⟨aD b18, 3, [vi t1], 1⟩] [⟨B145, (ZImages24.flatMap eN0)⟩, ⟨B144, (XImages24.flatMap eN0)⟩, ⟨B145, (ZImages24.flatMap eN0)⟩, ⟨B144, (XImages24.flatMap eN0)⟩, ⟨B124, (ZImages19.flatMap eN0)⟩, ⟨B123, (XImages19.flatMap eN0)⟩, ⟨B112, (ZImages18.flatMap eN0)⟩, ⟨B111, (XImages18.flatMap eN0)⟩, ⟨B94, (ZImages16.flatMap eN0)⟩, ⟨B93, (XImages16.flatMap eN0)⟩, ⟨B4, (ZImages.flatMap eN0)⟩, ⟨B3, (XImages.flatMap eN0)⟩, ⟨B, (t.XImages.flatMap eN0)⟩, ⟨B1, (t.ZImages.flatMap eN0)⟩] := ST.subR hd76 (sk 0 (sk 1 (sk 0 (sk 1 (sk 2 (sk 3 (sk 4 (sk 5 (sk 6 (sk 7 (sk 8 (sk 9 (sk 10 (sk 11 (fun _ h => by cases h)))))))))))))))
       exact ⟨Qubits24, XImages24, ZImages24, gates24, B144, c144, B145, c145, B146, c146, (sI hF112), (fc (hf41.g 2 0) (fc (hf41.g 3 1) (fc (hf41.g 5 3) fn_))), ho64, (len_le rfl hq38), ho65, (len_le rfl hq39), (hS275.sel [4, 2, 3, 5, 0, 1] rfl rfl)⟩
     rintro f w ⟨Qubits33, XImages33, ZImages33, gates33, B198, c198, B199, c199, B200, c200, rfl, hf55, ho68, hq40, ho69, hq41, hS264⟩
     refine cq (cr ?_)
     refine sQ 117 (ym (.func (.func 53) #[] #[pt (aD b17) 0, pt (aD b18) 0]) rfl (hf55.g 5 2)) ?_
     obtain ⟨⟨t59, t60, t61⟩, hc78, hF110⟩ := bI hF110
     refine sc 118 rfl rfl (Yc_clos (g := 53) (vs := [pt (aD b17) 0, pt (aD b18) 0]) (R := fun v w' => v = .agg #[vi t59, vi t60, vi t61] ∧ ST w0 [] w' [⟨aD b, 40, [vi t.Qubits, .slice B t.XImages.length c, .slice B1 t.ZImages.length c1], 3⟩, ⟨aD b1, 28, [vi 0, .slice none 0 0], 2⟩, ⟨aD b2, 64, [vi Qubits33, .slice B198 XImages33.length c198, .slice B199 ZImages33.length c199, .slice B200 gates33.length c200], 4⟩, ⟨B200, 55, (gates33.flatMap eN2), c200 * 3⟩, ⟨aD b17, 62, [pt (aD b2) 0], 1⟩, ⟨aD b18, 3, [vi t1], 1⟩] [⟨B199, (ZImages33.flatMap eN0)⟩, ⟨B198, (XImages33.flatMap eN0)⟩, ⟨B145, (ZImages24.flatMap eN0)⟩, ⟨B144, (XImages24.flatMap eN0)⟩, ⟨B124, (ZImages19.flatMap eN0)⟩, ⟨B123, (XImages19.flatMap eN0)⟩, ⟨B112, (ZImages18.flatMap eN0)⟩, ⟨B111, (XImages18.flatMap eN0)⟩, ⟨B94, (ZImages16.flatMap eN0)⟩, ⟨B93, (XImages16.flatMap eN0)⟩, ⟨B4, (ZImages.flatMap eN0)⟩, ⟨B3, (XImages.flatMap eN0)⟩, ⟨B, (t.XImages.flatMap eN0)⟩, ⟨B1, (t.ZImages.flatMap eN0)⟩]) K65 rfl rfl (clo_args mn) ?cv) ?_
     case cv =>
      show CV Try.prog 53 #[pt (aD b17) 0, pt (aD b18) 0] _ _
      refine cv_of_cw 11 Try.func53 rfl Try.ntmps53 rfl ?_
      refine cq (cr ?_)
      refine sS 2 (yN [vi 0, vi 0, vi 0] 3 hS264 K5) ?_
      rintro _ w_153 ⟨b43, rfl, hS280⟩
      refine rn (cq ?_)
      obtain ⟨x28, hx28, hc78⟩ := bI hc78
      refine ra_start (hS280.se [0, 1, 2, 3, 4, 5]).fn (by kernel_rfl) ?_
      have hS281 := hS280.drew
      refine rq 0 3 (v := pt (aD b2) 0) rfl (hS281.se [0, 1, 2, 3, 4, 5]) (fun w' hw' => (yl (aD b17) 0 [pt (aD b2) 0] (pt (aD b2) 0) K27 (ST.cf hw' (i := 0) rfl))) ?_
      refine rq 1 4 (v := pt (aD b2) 0) rfl (hS281.se [0, 1, 2, 3, 4, 5]) (fun w' hw' => (Y_nilCheck (B := aD b2) (i := 0) rfl rfl)) ?_
      refine rq 2 5 (v := pt (aD b2) 0) rfl (hS281.se [0, 1, 2, 3, 4, 5]) (fun w' hw' => (yd (aD b2) 0 2 K35 K10)) ?_
      refine rq 3 6 (v := pt (aD b2) 2) rfl (hS281.se [0, 1, 2, 3, 4, 5]) (fun w' hw' => (yd (aD b2) 0 0 K11 K1)) ?_
      refine rq 4 7 (v := .slice B199 ZImages33.length c199) rfl (hS281.se [0, 1, 2, 3, 4, 5]) (fun w' hw' => (yl (aD b2) 2 [vi Qubits33, .slice B198 XImages33.length c198, .slice B199 ZImages33.length c199, .slice B200 gates33.length c200] (.slice B199 ZImages33.length c199) K6 (ST.cf hw' (i := 1) rfl))) ?_
      refine rq 5 8 (v := vi t1) rfl (hS281.se [0, 1, 2, 3, 4, 5]) (fun w' hw' => (yl (aD b18) 0 [vi t1] (vi t1) K4 (ST.cf hw' (i := 3) rfl))) ?_
      refine rq 6 9 (v := pt B199 (t1.toNat * 3)) rfl (hS281.se [0, 1, 2, 3, 4, 5]) (fun w' hw' => (Y_index (B := B199) (m := ZImages33.length) (c := c199) (k := .i64) (i := t1) K2 K0 rfl rfl rfl (gi_isSome eN1 rfl (ST.rf hw' (i := 0) rfl) hx28) (getI_nn hx28) (getI_ltI hx28 rfl))) ?_
      refine rq 7 10 (v := .agg #[vi x28.Phase, vi x28.X, vi x28.Z]) rfl (hS281.se [0, 1, 2, 3, 4, 5]) (fun w' hw' => (ya B199 (t1.toNat * 3) (ZImages33.flatMap eN0) [vi x28.Phase, vi x28.X, vi x28.Z] K14 K0 (ST.rf hw' (i := 0) rfl) rfl rfl (eN1 x28) (gi_seg eN1 hx28))) ?_
      refine rA [8] ?_
      refine rZ 8 rfl (yT 6 3 (aD b43) 71 (.agg #[vi x28.Phase, vi x28.X, vi x28.Z]) [vi x28.Phase, vi x28.X, vi x28.Z] 0 hS281 K0) ?_ ?_
      ·rintro _ w_154 ⟨rfl, hS282⟩
       refine ⟨(hS282.se [0, 1, 2, 3, 4, 5]), ?_⟩
       refine ra_done (by kernel_rfl) ?_
       refine ct_ ?_
       obtain ⟨rfl, rfl, rfl⟩ := pr3 (sI hc78)
       exact ret1 Try.results53 (v1 := .agg #[vi x28.Phase, vi x28.X, vi x28.Z]) (resAt_cellA (B := aD b43) (i := 0) (cs := [vi x28.Phase, vi x28.X, vi x28.Z]) (vs := [vi x28.Phase, vi x28.X, vi x28.Z]) rfl K14 K0 (hS282.c 6) rfl rfl) ⟨rfl, (hS282.sel [4, 5, 1, 2, 0, 3] rfl rfl)⟩
      exact aN
     rintro _ w_152 ⟨rfl, hd78⟩
     have hd78 : ST w0 [] _ [⟨aD b, 40, [vi t.Qubits, .slice B t.XImages.length c, .slice B1 t.ZImages.length c1], 3⟩, ⟨aD b1, 28, [vi 0, .slice none 0 0], 2⟩, ⟨aD b2, 64, [vi Qubits33, .slice B198 XImages33.length c198, .slice B199 ZImages33.length c199, .slice B200 gates33.length c200], 4⟩, ⟨B200, 55, (gates33.flatMap eN2), c200 * 3⟩, ⟨aD b17, 62, [pt (aD b2) 0], 1⟩, ⟨aD b18, 3, [vi t1], 1⟩] [⟨B199, (ZImages33.flatMap eN0)⟩, ⟨B198, (XImages33.flatMap eN0)⟩, ⟨B145, (ZImages24.flatMap eN0)⟩, ⟨B144, (XImages24.flatMap eN0)⟩, ⟨B124, (ZImages19.flatMap eN0)⟩, ⟨B123, (XImages19.flatMap eN0)⟩, ⟨B112, (ZImages18.flatMap eN0)⟩, ⟨B111, (XImages18.flatMap eN0)⟩, ⟨B94, (ZImages16.flatMap eN0)⟩, ⟨B93, (XImages16.flatMap eN0)⟩, ⟨B4, (ZImages.flatMap eN0)⟩, ⟨B3, (XImages.flatMap eN0)⟩, ⟨B, (t.XImages.flatMap eN0)⟩, ⟨B1, (t.ZImages.flatMap eN0)⟩] := hd78
     refine sQ 119 (Y_field1 (v := vi t59) K23 K4 rfl rfl rfl) <| sQ 120 (yE t59 2) (rn ?_)
     refine cw_cond (b := (t59 == 2)) rfl (fun hb56 => ?_) (fun hb56 => ?_)
     ·skip
      have hF113 := ct hF110 hb56
      refine cr ?_
      refine sQ 121 (yl (aD b17) 0 [pt (aD b2) 0] (pt (aD b2) 0) K27 (hd78.cf (i := 4) rfl) rfl (hf55.g 2 0)) <| sQ 122 (yl (aD b18) 0 [vi t1] (vi t1) K4 (hd78.cf (i := 5) rfl) rfl (hf55.g 3 1)) ?_
      obtain ⟨m33, hc79, hF113⟩ := bI hF113
      refine sc 123 rfl rfl (yC [pt (aD b2) 0, vi 2, vi t1, vi 0] K44 (c_impl_reducer_add (Treducer.mk (TTableau.mk Qubits33 XImages33 ZImages33) gates33) 2 t1 0 (aD b2) B198 c198 XImages33.length B199 c199 ZImages33.length B200 c200 gates33.length _ rfl rfl rfl (hd78.inn [false, false, true, true, false, false] rfl [(true, 1), (true, 0)] rfl) hc79)) ?_
      rintro _ w_155 ⟨B204, c204, B205, c205, B206, c206, rfl, hd79⟩
      have hS283 := hd78.out [false, false, true, true, false, false] rfl hd79
      have hS283 : ST w0 [] _ [⟨aD b, 40, [vi t.Qubits, .slice B t.XImages.length c, .slice B1 t.ZImages.length c1], 3⟩, ⟨aD b1, 28, [vi 0, .slice none 0 0], 2⟩, ⟨aD b17, 62, [pt (aD b2) 0], 1⟩, ⟨aD b18, 3, [vi t1], 1⟩, ⟨aD b2, 64, [vi m33.t.Qubits, .slice B204 m33.t.XImages.length c204, .slice B205 m33.t.ZImages.length c205, .slice B206 m33.gates.length c206], 4⟩, ⟨B204, 71, (m33.t.XImages.flatMap eN0), c204 * 3⟩, ⟨B205, 71, (m33.t.ZImages.flatMap eN0), c205 * 3⟩, ⟨B206, 55, (m33.gates.flatMap eN2), c206 * 3⟩] [⟨B199, (ZImages33.flatMap eN0)⟩, ⟨B198, (XImages33.flatMap eN0)⟩, ⟨B145, (ZImages24.flatMap eN0)⟩, ⟨B144, (XImages24.flatMap eN0)⟩, ⟨B124, (ZImages19.flatMap eN0)⟩, ⟨B123, (XImages19.flatMap eN0)⟩, ⟨B112, (ZImages18.flatMap eN0)⟩, ⟨B111, (XImages18.flatMap eN0)⟩, ⟨B94, (ZImages16.flatMap eN0)⟩, ⟨B93, (XImages16.flatMap eN0)⟩, ⟨B4, (ZImages.flatMap eN0)⟩, ⟨B3, (XImages.flatMap eN0)⟩, ⟨B, (t.XImages.flatMap eN0)⟩, ⟨B1, (t.ZImages.flatMap eN0)⟩] := hS283
      refine rn ?_
      have ho72 : Org w0 [] [⟨B, (t.XImages.flatMap eN0)⟩, ⟨B1, (t.ZImages.flatMap eN0)⟩] [⟨B204, (m33.t.XImages.flatMap eN0)⟩] := ST.orgOwn hS283 (i := 5) rfl
      have hcap32 : m33.t.XImages.length ≤ c204 := (hS283.lencap (i := 5) rfl (fm_lenn (l := m33.t.XImages) eN1 rfl) rfl rfl)
      have hS284 : ST w0 [] _ [⟨aD b, 40, [vi t.Qubits, .slice B t.XImages.length c, .slice B1 t.ZImages.length c1], 3⟩, ⟨aD b1, 28, [vi 0, .slice none 0 0], 2⟩, ⟨aD b17, 62, [pt (aD b2) 0], 1⟩, ⟨aD b18, 3, [vi t1], 1⟩, ⟨aD b2, 64, [vi m33.t.Qubits, .slice B204 m33.t.XImages.length c204, .slice B205 m33.t.ZImages.length c205, .slice B206 m33.gates.length c206], 4⟩, ⟨B205, 71, (m33.t.ZImages.flatMap eN0), c205 * 3⟩, ⟨B206, 55, (m33.gates.flatMap eN2), c206 * 3⟩] [⟨B204, (m33.t.XImages.flatMap eN0)⟩, ⟨B199, (ZImages33.flatMap eN0)⟩, ⟨B198, (XImages33.flatMap eN0)⟩, ⟨B145, (ZImages24.flatMap eN0)⟩, ⟨B144, (XImages24.flatMap eN0)⟩, ⟨B124, (ZImages19.flatMap eN0)⟩, ⟨B123, (XImages19.flatMap eN0)⟩, ⟨B112, (ZImages18.flatMap eN0)⟩, ⟨B111, (XImages18.flatMap eN0)⟩, ⟨B94, (ZImages16.flatMap eN0)⟩, ⟨B93, (XImages16.flatMap eN0)⟩, ⟨B4, (ZImages.flatMap eN0)⟩, ⟨B3, (XImages.flatMap eN0)⟩, ⟨B, (t.XImages.flatMap eN0)⟩, ⟨B1, (t.ZImages.flatMap eN0)⟩] := hS283.freeze (i := 5) rfl
      have ho73 : Org w0 [] [⟨B, (t.XImages.flatMap eN0)⟩, ⟨B1, (t.ZImages.flatMap eN0)⟩] [⟨B205, (m33.t.ZImages.flatMap eN0)⟩] := ST.orgOwn hS284 (i := 5) rfl
      have hcap33 : m33.t.ZImages.length ≤ c205 := (hS284.lencap (i := 5) rfl (fm_lenn (l := m33.t.ZImages) eN1 rfl) rfl rfl)
      have hS285 : ST w0 [] _ [⟨aD b, 40, [vi t.Qubits, .slice B t.XImages.length c, .slice B1 t.ZImages.length c1], 3⟩, ⟨aD b1, 28, [vi 0, .slice none 0 0], 2⟩, ⟨aD b17, 62, [pt (aD b2) 0], 1⟩, ⟨aD b18, 3, [vi t1], 1⟩, ⟨aD b2, 64, [vi m33.t.Qubits, .slice B204 m33.t.XImages.length c204, .slice B205 m33.t.ZImages.length c205, .slice B206 m33.gates.length c206], 4⟩, ⟨B206, 55, (m33.gates.flatMap eN2), c206 * 3⟩] [⟨B205, (m33.t.ZImages.flatMap eN0)⟩, ⟨B204, (m33.t.XImages.flatMap eN0)⟩, ⟨B199, (ZImages33.flatMap eN0)⟩, ⟨B198, (XImages33.flatMap eN0)⟩, ⟨B145, (ZImages24.flatMap eN0)⟩, ⟨B144, (XImages24.flatMap eN0)⟩, ⟨B124, (ZImages19.flatMap eN0)⟩, ⟨B123, (XImages19.flatMap eN0)⟩, ⟨B112, (ZImages18.flatMap eN0)⟩, ⟨B111, (XImages18.flatMap eN0)⟩, ⟨B94, (ZImages16.flatMap eN0)⟩, ⟨B93, (XImages16.flatMap eN0)⟩, ⟨B4, (ZImages.flatMap eN0)⟩, ⟨B3, (XImages.flatMap eN0)⟩, ⟨B, (t.XImages.flatMap eN0)⟩, ⟨B1, (t.ZImages.flatMap eN0)⟩] := hS284.freeze (i := 5) rfl
      have hS286 : ST w0 [] _ [⟨aD b, 40, [vi t.Qubits, .slice B t.XImages.length c, .slice B1 t.ZImages.length c1], 3⟩, ⟨aD b1, 28, [vi 0, .slice none 0 0], 2⟩, ⟨aD b17, 62, [pt (aD b2) 0], 1⟩, ⟨aD b18, 3, [vi t1], 1⟩, ⟨aD b2, 64, [vi m33.t.Qubits, .slice B204 m33.t.XImages.length c204, .slice B205 m33.t.ZImages.length c205, .slice B206 m33.gates.length c206], 4⟩, ⟨B206, 55, (m33.gates.flatMap eN2), c206 * 3⟩] [⟨B205, (m33.t.ZImages.flatMap eN0)⟩, ⟨B204, (m33.t.XImages.flatMap eN0)⟩, ⟨B4, (ZImages.flatMap eN0)⟩, ⟨B3, (XImages.flatMap eN0)⟩, ⟨B, (t.XImages.flatMap eN0)⟩, ⟨B1, (t.ZImages.flatMap eN0)⟩] := ST.subR hS285 (sk 0 (sk 1 (sk 12 (sk 13 (sk 14 (sk 15 (fun _ h => by cases h)))))))
      obtain ⟨rfl, rfl, rfl, rfl⟩ := pr4 (sI hF113)
      exact ret0 Try.results32  ⟨B204, c204, B205, c205, B206, c206, rfl, ho72, (len_le rfl hcap32), ho73, (len_le rfl hcap33), (hS286.sel [0, 1, 4, 5] rfl rfl)⟩
     ·skip
      have hF114 := cf' hF110 hb56
      refine cw_skip ?_
      have hS287 : ST w0 [] _ [⟨aD b, 40, [vi t.Qubits, .slice B t.XImages.length c, .slice B1 t.ZImages.length c1], 3⟩, ⟨aD b1, 28, [vi 0, .slice none 0 0], 2⟩, ⟨aD b2, 64, [vi Qubits33, .slice B198 XImages33.length c198, .slice B199 ZImages33.length c199, .slice B200 gates33.length c200], 4⟩, ⟨B200, 55, (gates33.flatMap eN2), c200 * 3⟩, ⟨aD b17, 62, [pt (aD b2) 0], 1⟩, ⟨aD b18, 3, [vi t1], 1⟩] [⟨B199, (ZImages33.flatMap eN0)⟩, ⟨B198, (XImages33.flatMap eN0)⟩, ⟨B4, (ZImages.flatMap eN0)⟩, ⟨B3, (XImages.flatMap eN0)⟩, ⟨B, (t.XImages.flatMap eN0)⟩, ⟨B1, (t.ZImages.flatMap eN0)⟩] := ST.subR hd78 (sk 0 (sk 1 (sk 10 (sk 11 (sk 12 (sk 13 (fun _ h => by cases h)))))))
      obtain ⟨rfl, rfl, rfl, rfl⟩ := pr4 (sI hF114)
      exact ret0 Try.results32  ⟨B198, c198, B199, c199, B200, c200, rfl, ho68, (len_le rfl hq40), ho69, (len_le rfl hq41), (hS287.sel [0, 1, 2, 3] rfl rfl)⟩
   rintro _ w_62 ⟨B6, c6, B7, c7, B8, c8, rfl, ho2, hq4, ho3, hq5, hd34⟩
   have hd34 : ST w0 [] _ [⟨aD b, 40, [vi t.Qubits, .slice B t.XImages.length c, .slice B1 t.ZImages.length c1], 3⟩, ⟨aD b1, 28, [vi 0, .slice none 0 0], 2⟩, ⟨aD b2, 64, [vi Qubits1, .slice B6 XImages1.length c6, .slice B7 ZImages1.length c7, .slice B8 gates1.length c8], 4⟩, ⟨B8, 55, (gates1.flatMap eN2), c8 * 3⟩] [⟨B7, (ZImages1.flatMap eN0)⟩, ⟨B6, (XImages1.flatMap eN0)⟩, ⟨B4, (ZImages.flatMap eN0)⟩, ⟨B3, (XImages.flatMap eN0)⟩, ⟨B, (t.XImages.flatMap eN0)⟩, ⟨B1, (t.ZImages.flatMap eN0)⟩] := hd34
   refine rn (cr ?_)
   refine sQ 23 (yP t1 1 rfl (hf.g 17 4)) <| sQ 17 (ym (vi (i64.wrap (t1 + 1)))) (rn ?_)
   obtain rfl := sI hF4
   have hS288 : ST w0 [] _ [⟨aD b, 40, [vi t.Qubits, .slice B t.XImages.length c, .slice B1 t.ZImages.length c1], 3⟩, ⟨aD b1, 28, [vi 0, .slice none 0 0], 2⟩, ⟨aD b2, 64, [vi Qubits1, .slice B6 XImages1.length c6, .slice B7 ZImages1.length c7, .slice B8 gates1.length c8], 4⟩, ⟨B8, 55, (gates1.flatMap eN2), c8 * 3⟩] [⟨B7, (ZImages1.flatMap eN0)⟩, ⟨B6, (XImages1.flatMap eN0)⟩, ⟨B, (t.XImages.flatMap eN0)⟩, ⟨B1, (t.ZImages.flatMap eN0)⟩] := ST.subR hd34 (sk 0 (sk 1 (sk 4 (sk 5 (fun _ h => by cases h)))))
   exact ⟨K7, Nat.lt_succ_self _, Qubits1, XImages1, ZImages1, gates1, (i64.wrap (t1 + 1)), B6, c6, B7, c7, B8, c8, (fc (hf.g 1 0) (fc (hf.g 2 1) (fc (hf.g 4 2) (fc (hf.g 16 3) (fc rfl fn_))))), ho2, (len_le rfl hq4), ho3, (len_le rfl hq5), (hS288.sel [0, 1, 2, 3] rfl rfl), hL1⟩
  ·skip
   have hF115 := cf' hb1 hb2
   refine cw_exit rfl ?_
   obtain rfl := sI hF115
   obtain rfl := sI hL1
   refine cq (cr ?_)
   refine sS 24 (Ys_bslice0 (s := 3) (e := 55) hS7 K15 K13 rfl) ?_
   rintro _ w_156 ⟨b44, rfl, hS289⟩
   refine sQ 6 (yg (.slice (aD b44) 0 0)) (rn (cq (cq (cr ?_))))
   refine sQ 25 (ym (pt (aD b2) 0) rfl (hf.g 4 2)) <| sQ 26 (Y_nilCheck (B := aD b2) (i := 0) rfl rfl) <| sQ 27 (yd (aD b2) 0 0 K52 K17) <| sQ 28 (yl (aD b2) 3 [vi Qubits, .slice B3 XImages.length c3, .slice B4 ZImages.length c4, .slice B5 gates.length c5] (.slice B5 gates.length c5) K22 (hS289.c 2)) <| sQ 29 (Y_len (B := B5) (m := gates.length) (c := c5) K15 rfl rfl) <| sQ 30 (yM (gates.length : Int) 1) ?_
   refine sQ 7 (yg (vi (i64.wrap ((gates.length : Int) - 1)))) (rn ?_)
   obtain ⟨z27, hz27, hF116⟩ := bI hF3
   refine cw_block ?_
   refine cw_loop (fun k f w => ∃ (out : List TGate) (i1 : Int) (B207 : Option Addr) (c207 : Nat), FF f [(1, pt (aD b) 0), (2, pt (aD b1) 0), (4, pt (aD b2) 0), (6, .slice B207 out.length c207), (7, vi i1)] ∧ ST w0 [] w [⟨aD b, 40, [vi t.Qubits, .slice B t.XImages.length c, .slice B1 t.ZImages.length c1], 3⟩, ⟨aD b1, 28, [vi 0, .slice none 0 0], 2⟩, ⟨aD b2, 64, [vi Qubits, .slice B3 XImages.length c3, .slice B4 ZImages.length c4, .slice B5 gates.length c5], 4⟩, ⟨B5, 55, (gates.flatMap eN2), c5 * 3⟩, ⟨B207, 55, (out.flatMap eN2), c207 * 3⟩] [⟨B4, (ZImages.flatMap eN0)⟩, ⟨B3, (XImages.flatMap eN0)⟩, ⟨B, (t.XImages.flatMap eN0)⟩, ⟨B1, (t.ZImages.flatMap eN0)⟩] ∧ whX (F_impl_SynthesizeClifford_l7 gates) k (out, i1) = some z27) fuel ⟨[], (i64.wrap ((gates.length : Int) - 1)), aD b44, 0, (fc (hf.g 1 0) (fc (hf.g 2 1) (fc (hf.g 4 2) (fc rfl (fc rfl fn_))))), (hS289.sel [0, 1, 2, 3, 4] rfl rfl), hz27⟩ ?_
   rintro k_26 f w ⟨out, i1, B207, c207, hf58, hS290, hL26⟩
   obtain ⟨k_27, y13, rfl, hb57, hL27⟩ := whX_go hL26
   unfold F_impl_SynthesizeClifford_l7 at hb57
   refine cq (cq (cr ?_))
   refine sQ 31 (ym (vi i1) rfl (hf58.g 7 4)) <| sQ 32 (Y_ge (k := .i64) (a := i1) (b := 0) rfl rfl rfl) (rn ?_)
   refine cw_cond (b := (decide (0 ≤ i1))) rfl (fun hb58 => ?_) (fun hb58 => ?_)
   ·skip
    have hF117 := ct hb57 hb58
    refine cw_skip (cq ?_)
    obtain ⟨z28, hz28, hF118⟩ := bI hF117
    refine cw_mid (fun f w => ∃ (out1 : List TGate) (B208 : Option Addr) (c208 : Nat), out1 = z28 ∧ FF f [(1, pt (aD b) 0), (2, pt (aD b1) 0), (4, pt (aD b2) 0), (6, .slice B208 out1.length c208), (7, vi i1)] ∧ ST w0 [] w [⟨aD b, 40, [vi t.Qubits, .slice B t.XImages.length c, .slice B1 t.ZImages.length c1], 3⟩, ⟨aD b1, 28, [vi 0, .slice none 0 0], 2⟩, ⟨aD b2, 64, [vi Qubits, .slice B3 XImages.length c3, .slice B4 ZImages.length c4, .slice B5 gates.length c5], 4⟩, ⟨B5, 55, (gates.flatMap eN2), c5 * 3⟩, ⟨B208, 55, (out1.flatMap eN2), c208 * 3⟩] [⟨B4, (ZImages.flatMap eN0)⟩, ⟨B3, (XImages.flatMap eN0)⟩, ⟨B, (t.XImages.flatMap eN0)⟩, ⟨B1, (t.ZImages.flatMap eN0)⟩]) ?_ ?_
    ·skip
     refine cw_block (cq (cr ?_))
     refine sQ 35 (ym (.slice B207 out.length c207) rfl (hf58.g 6 3)) <| sQ 36 (ym (pt (aD b2) 0) rfl (hf58.g 4 2)) <| sQ 37 (Y_nilCheck (B := aD b2) (i := 0) rfl rfl) <| sQ 38 (yd (aD b2) 0 0 K52 K17) <| sQ 39 (yl (aD b2) 3 [vi Qubits, .slice B3 XImages.length c3, .slice B4 ZImages.length c4, .slice B5 gates.length c5] (.slice B5 gates.length c5) K22 (hS290.c 2)) <| sQ 40 (ym (vi i1) rfl (hf58.g 7 4)) ?_
     obtain ⟨x29, hx29, hz28⟩ := bI hz28
     refine sQ 41 (Y_index (B := B5) (m := gates.length) (c := c5) (k := .i64) (i := i1) K15 K13 rfl rfl rfl (gi_isSome eN4 rfl (hS290.c 3) hx29) (getI_nn hx29) (getI_ltI hx29 rfl)) <| sQ 42 (ya B5 (i1.toNat * 3) (gates.flatMap eN2) [vi x29.Kind, vi x29.A, vi x29.B] K26 K13 (hS290.c 3) rfl rfl (eN4 x29) (gi_seg eN4 hx29)) ?_
     refine sS 43 (Ys_bslice (s := 3) (len := 1) (vs := [(0, .agg #[vi x29.Kind, vi x29.A, vi x29.B])]) (cs := [vi x29.Kind, vi x29.A, vi x29.B]) (zs := [vi 0, vi 0, vi 0]) (m := 3) hS290 K15 K13 K48 rfl (mpc rfl mpn) rfl rfl rfl (by kernel_rfl) (by kernel_rfl) rfl) ?_
     rintro _ w_157 ⟨b45, rfl, hS292⟩
     obtain ⟨hap, hz28⟩ := chk_inv hz28
     refine sS 44 (Ys_append (s := 3) (by' := 24) (i := 4) (nn := out.length) (c := c207) (k := 1) (len := (out ++ [x29]).length) (B := B207) (xs := ([x29].flatMap eN2)) (cs' := ((out ++ [x29]).flatMap eN2)) hS292 K15 K13 K45 K28 rfl (by decide) rfl rfl rfl rfl (fm_lenn (l := out) eN4 rfl) rfl (hS292.c 5) (fm_lenn (l := [x29]) eN4 rfl) (fm_one' (enc := eN2) enc_Gate_one [x29]) (by have := hap; omega) (by have := hap; simp only [maxLen]; omega) (fm_app _ _) (app_len (l := out) (l' := [x29]) rfl rfl)) ?_
     rintro _ w_158 ⟨B209, c209, rfl, hS293⟩
     refine sQ 6 (yg (.slice B209 ((out ++ [x29]).length) c209)) (rn (cq (cr ?_)))
     refine sQ 45 (ym (pt (aD b2) 0) rfl (hf58.g 4 2)) <| sQ 46 (Y_nilCheck (B := aD b2) (i := 0) rfl rfl) <| sQ 47 (yd (aD b2) 0 0 K52 K17) <| sQ 48 (yl (aD b2) 3 [vi Qubits, .slice B3 XImages.length c3, .slice B4 ZImages.length c4, .slice B5 gates.length c5] (.slice B5 gates.length c5) K22 (hS293.c 2)) <| sQ 49 (ym (vi i1) rfl (hf58.g 7 4)) <| sQ 50 (Y_index (B := B5) (m := gates.length) (c := c5) (k := .i64) (i := i1) K15 K13 rfl rfl rfl (gi_isSome eN4 rfl (hS293.c 3) hx29) (getI_nn hx29) (getI_ltI hx29 rfl)) ?_
     refine sQ 51 (yd B5 (i1.toNat * 3) 0 K36 K3) <| sQ 52 (yl B5 (i1.toNat * 3 + 0) (gates.flatMap eN2) (vi x29.Kind) K4 (hS293.c 3) rfl rfl (gi_at eN4 hx29 rfl)) <| sQ 53 (yE x29.Kind 5) (rn ?_)
     refine cw_cond (b := (x29.Kind == 5)) rfl (fun hb59 => ?_) (fun hb59 => ?_)
     ·skip
      have hF119 := ct hz28 hb59
      obtain ⟨hap1, hF119⟩ := chk_inv hF119
      refine ra_start (hS293.se [0, 1, 2, 3, 5]).fn (by kernel_rfl) ?_
      have hS294 := hS293.drew
      refine rq 0 54 (v := .slice B209 ((out ++ [x29]).length) c209) rfl (hS294.se [0, 1, 2, 3, 5]) (fun w' hw' => (ym (.slice B209 ((out ++ [x29]).length) c209))) ?_
      refine rq 1 55 (v := pt (aD b2) 0) rfl (hS294.se [0, 1, 2, 3, 5]) (fun w' hw' => (ym (pt (aD b2) 0) rfl (hf58.g 4 2))) ?_
      refine rq 2 56 (v := pt (aD b2) 0) rfl (hS294.se [0, 1, 2, 3, 5]) (fun w' hw' => (Y_nilCheck (B := aD b2) (i := 0) rfl rfl)) ?_
      refine rq 3 57 (v := pt (aD b2) 3) rfl (hS294.se [0, 1, 2, 3, 5]) (fun w' hw' => (yd (aD b2) 0 0 K52 K17)) ?_
      refine rq 4 58 (v := .slice B5 gates.length c5) rfl (hS294.se [0, 1, 2, 3, 5]) (fun w' hw' => (yl (aD b2) 3 [vi Qubits, .slice B3 XImages.length c3, .slice B4 ZImages.length c4, .slice B5 gates.length c5] (.slice B5 gates.length c5) K22 (ST.cf hw' (i := 2) rfl))) ?_
      refine rq 5 59 (v := vi i1) rfl (hS294.se [0, 1, 2, 3, 5]) (fun w' hw' => (ym (vi i1) rfl (hf58.g 7 4))) ?_
      refine rq 6 60 (v := pt B5 (i1.toNat * 3)) rfl (hS294.se [0, 1, 2, 3, 5]) (fun w' hw' => (Y_index (B := B5) (m := gates.length) (c := c5) (k := .i64) (i := i1) K15 K13 rfl rfl rfl (gi_isSome eN4 rfl (ST.cf hw' (i := 3) rfl) hx29) (getI_nn hx29) (getI_ltI hx29 rfl))) ?_
      refine rq 7 61 (v := .agg #[vi x29.Kind, vi x29.A, vi x29.B]) rfl (hS294.se [0, 1, 2, 3, 5]) (fun w' hw' => (ya B5 (i1.toNat * 3) (gates.flatMap eN2) [vi x29.Kind, vi x29.A, vi x29.B] K26 K13 (ST.cf hw' (i := 3) rfl) rfl rfl (eN4 x29) (gi_seg eN4 hx29))) ?_
      refine rq 8 62 (v := pt (aD b2) 0) rfl (hS294.se [0, 1, 2, 3, 5]) (fun w' hw' => (ym (pt (aD b2) 0) rfl (hf58.g 4 2))) ?_
      refine rq 9 63 (v := pt (aD b2) 0) rfl (hS294.se [0, 1, 2, 3, 5]) (fun w' hw' => (Y_nilCheck (B := aD b2) (i := 0) rfl rfl)) ?_
      refine rq 10 64 (v := pt (aD b2) 3) rfl (hS294.se [0, 1, 2, 3, 5]) (fun w' hw' => (yd (aD b2) 0 0 K52 K17)) ?_
      refine rq 11 65 (v := .slice B5 gates.length c5) rfl (hS294.se [0, 1, 2, 3, 5]) (fun w' hw' => (yl (aD b2) 3 [vi Qubits, .slice B3 XImages.length c3, .slice B4 ZImages.length c4, .slice B5 gates.length c5] (.slice B5 gates.length c5) K22 (ST.cf hw' (i := 2) rfl))) ?_
      refine rq 12 66 (v := vi i1) rfl (hS294.se [0, 1, 2, 3, 5]) (fun w' hw' => (ym (vi i1) rfl (hf58.g 7 4))) ?_
      refine rq 13 67 (v := pt B5 (i1.toNat * 3)) rfl (hS294.se [0, 1, 2, 3, 5]) (fun w' hw' => (Y_index (B := B5) (m := gates.length) (c := c5) (k := .i64) (i := i1) K15 K13 rfl rfl rfl (gi_isSome eN4 rfl (ST.cf hw' (i := 3) rfl) hx29) (getI_nn hx29) (getI_ltI hx29 rfl))) ?_
      refine rq 14 68 (v := .agg #[vi x29.Kind, vi x29.A, vi x29.B]) rfl (hS294.se [0, 1, 2, 3, 5]) (fun w' hw' => (ya B5 (i1.toNat * 3) (gates.flatMap eN2) [vi x29.Kind, vi x29.A, vi x29.B] K26 K13 (ST.cf hw' (i := 3) rfl) rfl rfl (eN4 x29) (gi_seg eN4 hx29))) ?_
      refine rA [15] ?_
      refine rS 69 15 rfl (Ys_bslice (s := 3) (len := 2) (vs := [(0, .agg #[vi x29.Kind, vi x29.A, vi x29.B]), (1, .agg #[vi x29.Kind, vi x29.A, vi x29.B])]) (cs := [vi x29.Kind, vi x29.A, vi x29.B, vi x29.Kind, vi x29.A, vi x29.B]) (zs := [vi 0, vi 0, vi 0, vi 0, vi 0, vi 0]) (m := 6) hS294 K15 K13 K48 rfl (mpc rfl (mpc rfl mpn)) rfl rfl rfl (by kernel_rfl) (by kernel_rfl) rfl) ?_ ?_
      ·rintro _ w_159 ⟨b46, rfl, hS295⟩
       have hS295 : ST w0 [] _ [⟨aD b, 40, [vi t.Qubits, .slice B t.XImages.length c, .slice B1 t.ZImages.length c1], 3⟩, ⟨aD b1, 28, [vi 0, .slice none 0 0], 2⟩, ⟨aD b2, 64, [vi Qubits, .slice B3 XImages.length c3, .slice B4 ZImages.length c4, .slice B5 gates.length c5], 4⟩, ⟨B5, 55, (gates.flatMap eN2), c5 * 3⟩, ⟨B209, 55, ((out ++ [x29]).flatMap eN2), c209 * 3⟩, ⟨aD b45, 55, ([x29].flatMap eN2), 1 * 3⟩, ⟨aD b46, 55, ([x29, x29].flatMap eN2), 2 * 3⟩] [⟨B4, (ZImages.flatMap eN0)⟩, ⟨B3, (XImages.flatMap eN0)⟩, ⟨B, (t.XImages.flatMap eN0)⟩, ⟨B1, (t.ZImages.flatMap eN0)⟩] := hS295
       refine ⟨(hS295.se [0, 1, 2, 3, 5]), ?_⟩
       refine rA [16] ?_
       refine rS 70 16 rfl (Ys_append (s := 3) (by' := 24) (i := 4) (nn := (out ++ [x29]).length) (c := c209) (k := 2) (len := ((out ++ [x29]) ++ [x29, x29]).length) (B := B209) (xs := ([x29, x29].flatMap eN2)) (cs' := (((out ++ [x29]) ++ [x29, x29]).flatMap eN2)) hS295 K15 K13 K45 K28 rfl (by decide) rfl rfl rfl rfl (fm_lenn (l := (out ++ [x29])) eN4 rfl) rfl (hS295.c 6) (fm_lenn (l := [x29, x29]) eN4 rfl) (fm_one' (enc := eN2) enc_Gate_one [x29, x29]) (by have := hap1; omega) (by have := hap1; simp only [maxLen]; omega) (fm_app _ _) (app_len (l := (out ++ [x29])) (l' := [x29, x29]) rfl rfl)) ?_ ?_
       ·rintro _ w_160 ⟨B210, c210, rfl, hS296⟩
        refine ⟨(hS296.se [0, 1, 2, 3, 5]), ?_⟩
        refine rq 17 6 (v := .slice B210 (((out ++ [x29]) ++ [x29, x29]).length) c210) rfl (hS296.se [0, 1, 2, 3, 5]) (fun w' hw' => (yg (.slice B210 (((out ++ [x29]) ++ [x29, x29]).length) c210))) ?_
        refine ra_done (by kernel_rfl) ?_
        exact ⟨((out ++ [x29]) ++ [x29, x29]), B210, c210, (sI hF119), (fc (hf58.g 1 0) (fc (hf58.g 2 1) (fc (hf58.g 4 2) (fc rfl (fc (hf58.g 7 4) fn_))))), (hS296.sel [0, 1, 2, 3, 4] rfl rfl)⟩
       exact aN
      exact aN
     ·skip
      have hF120 := cf' hz28 hb59
      refine cw_skip ?_
      exact ⟨(out ++ [x29]), B209, c209, (sI hF120), (fc (hf58.g 1 0) (fc (hf58.g 2 1) (fc (hf58.g 4 2) (fc rfl (fc (hf58.g 7 4) fn_))))), (hS293.sel [0, 1, 2, 3, 4] rfl rfl)⟩
    rintro f w ⟨out1, B208, c208, rfl, hf59, hS291⟩
    refine cr ?_
    refine sQ 33 (ym (vi i1) rfl (hf59.g 7 4)) <| sQ 34 (yM i1 1) <| sQ 7 (yg (vi (i64.wrap (i1 - 1)))) (rn ?_)
    obtain rfl := sI hF118
    exact ⟨k_27, Nat.lt_succ_self _, out1, (i64.wrap (i1 - 1)), B208, c208, (fc (hf59.g 1 0) (fc (hf59.g 2 1) (fc (hf59.g 4 2) (fc (hf59.g 6 3) (fc rfl fn_))))), (hS291.sel [0, 1, 2, 3, 4] rfl rfl), hL27⟩
   ·skip
    have hF121 := cf' hb57 hb58
    refine cw_exit rfl ?_
    obtain rfl := sI hF121
    obtain rfl := sI hL27
    refine cq (cr ?_)
    refine sQ 71 (yd (aD b) 0 0 K30 K3 rfl (hf58.g 1 0)) <| sQ 72 (yl (aD b) 0 [vi t.Qubits, .slice B t.XImages.length c, .slice B1 t.ZImages.length c1] (vi t.Qubits) K4 (hS290.c 0)) <| sQ 73 (ym (.slice B207 out.length c207) rfl (hf58.g 6 3)) ?_
    obtain ⟨⟨r_19, r_20⟩, hc80, hF116⟩ := bI hF116
    refine sc 74 rfl rfl (yC [vi t.Qubits, .slice B207 out.length c207] k_call_33 (c_impl_circuitIf t.Qubits out B207 c207 out.length _ rfl (hS290.inn0 [(false, 4)] rfl) hc80)) ?_
    rintro _ w_161 ⟨B211, c211, rfl, hd80⟩
    have hS297 := hS290.out0 hd80
    refine sQ 75 (ye (.agg #[vi r_19.Qubits, .slice B211 r_19.Gates.length c211])) <| sQ 76 (ye (.bool r_20)) ?_
    refine s0 (yT 1 2 (aD b1) 28 (.agg #[vi r_19.Qubits, .slice B211 r_19.Gates.length c211]) [vi r_19.Qubits, .slice B211 r_19.Gates.length c211] 0 hS297 K16 rfl (hf58.g 2 1)) ?_
    rintro _ w_162 ⟨rfl, hS298⟩
    refine sQ 3 (yg (.bool r_20)) (rn (ct_ ?_))
    obtain ⟨rfl, rfl⟩ := pr2 (sI hF116)
    exact ret2 Try.results17 (v1 := .agg #[vi r_19.Qubits, .slice B211 r_19.Gates.length c211]) (resAt_cellA (B := aD b1) (i := 0) (cs := [vi r_19.Qubits, .slice B211 r_19.Gates.length c211]) (vs := [vi r_19.Qubits, .slice B211 r_19.Gates.length c211]) (hf58.g 2 1) K19 K16 (hS298.c 1) rfl rfl) (v2 := .bool r_20) (resAt_tmp rfl) ⟨B211, c211, rfl, (hS298.sN [5])⟩

theorem c_impl_NormalizeClifford (c : TCircuit) (B : Option Addr) (c1 n : Nat) (w0 : World) (hn : c.Gates.length = n) (hS : ST w0 [] w0 [] [⟨B, (c.Gates.flatMap eN2)⟩]) {r_ : TCircuit} {r_1 : Bool} (hF : F_impl_NormalizeClifford c = some (r_, r_1)) :
  CV Try.prog 7 #[.agg #[vi c.Qubits, .slice B n c1]] w0 (fun v w' => ∃ (B1 : Option Addr) (c2 : Nat), v = .tuple #[.agg #[vi r_.Qubits, .slice B1 r_.Gates.length c2], .bool r_1] ∧ ST w0 [] w' [⟨B1, 55, (r_.Gates.flatMap eN2), c2 * 3⟩] []) := by
 subst hn
 unfold F_impl_NormalizeClifford at hF
 refine cv_of_cw 18 Try.func7 rfl Try.ntmps7 rfl ?_
 refine cq (cr ?_)
 refine sS 1 (yB 28 (.agg #[vi c.Qubits, .slice B c.Gates.length c1]) [vi c.Qubits, .slice B c.Gates.length c1] 2 hS) ?_
 rintro _ w_ ⟨b, rfl, hS1⟩
 refine sS 2 (yN [vi 0, .slice none 0 0] 2 hS1 K34) ?_
 rintro _ w_1 ⟨b1, rfl, hS2⟩
 refine sQ 3 (yg (.bool false)) (rn (cq (cr ?_)))
 refine sQ 7 (yb (aD b) 0 [vi c.Qubits, .slice B c.Gates.length c1] K19 K16 (hS2.c 0)) ?_
 obtain ⟨⟨r_2, r_3⟩, hc, hF⟩ := bI hF
 refine sc 8 rfl rfl (yC [.agg #[vi c.Qubits, .slice B c.Gates.length c1]] k_call_16 (c_impl_TableauOf c B c1 c.Gates.length _ rfl (hS2.inn0 [(true, 0)] rfl) hc)) ?_
 rintro _ w_2 ⟨B2, c3, B3, c4, rfl, hd⟩
 have hS3 := hS2.out0 hd
 refine sQ 6 (ym (.tuple #[.agg #[vi r_2.Qubits, .slice B2 r_2.XImages.length c3, .slice B3 r_2.ZImages.length c4], .bool r_3])) <| sQ 9 (ye (.agg #[vi r_2.Qubits, .slice B2 r_2.XImages.length c3, .slice B3 r_2.ZImages.length c4])) <| sQ 10 (ye (.bool r_3)) ?_
 refine sS 4 (yN [vi 0, .slice none 0 0, .slice none 0 0] 3 hS3 K31) ?_
 rintro _ w_3 ⟨b2, rfl, hS4⟩
 refine s0 (yT 4 3 (aD b2) 40 (.agg #[vi r_2.Qubits, .slice B2 r_2.XImages.length c3, .slice B3 r_2.ZImages.length c4]) [vi r_2.Qubits, .slice B2 r_2.XImages.length c3, .slice B3 r_2.ZImages.length c4] 0 hS4 K10) ?_
 rintro _ w_4 ⟨rfl, hS5⟩
 refine sQ 5 (yg (.bool r_3)) (rn (cq (cq (cr ?_))))
 refine sQ 11 (ym (.bool r_3)) <| sQ 12 (Y_not (p := r_3) rfl rfl) (rn ?_)
 refine cw_cond (b := (!r_3)) rfl (fun hb => ?_) (fun hb => ?_)
 ·skip
  have hF1 := ct hF hb
  refine cq (cr ?_)
  refine sQ 13 (Y_buildS (zs := [vi 0, .slice none 0 0]) (vs := []) (cs := [vi 0, .slice none 0 0]) K56 K34 rfl mpn rfl) ?_
  refine s0 (yT 1 2 (aD b1) 28 (.agg #[vi 0, .slice none 0 0]) [vi 0, .slice none 0 0] 0 hS5 K16) ?_
  rintro _ w_5 ⟨rfl, hS6⟩
  refine sQ 3 (yg (.bool false)) (rn (ct_ ?_))
  have hS7 := hS6.addNil 55
  obtain ⟨rfl, rfl⟩ := pr2 (sI hF1)
  exact ret2 Try.results7 (v1 := .agg #[vi 0, .slice none 0 0]) (resAt_cellA (B := aD b1) (i := 0) (cs := [vi 0, .slice none 0 0]) (vs := [vi 0, .slice none 0 0]) rfl K19 K16 (hS7.c 1) rfl rfl) (v2 := .bool false) (resAt_tmp rfl) ⟨none, 0, rfl, (hS7.sN [5])⟩
 ·skip
  have hF2 := cf' hF hb
  refine cw_skip (cq (cr ?_))
  refine sQ 14 (yb (aD b2) 0 [vi r_2.Qubits, .slice B2 r_2.XImages.length c3, .slice B3 r_2.ZImages.length c4] K20 K10 (hS5.c 4)) ?_
  obtain ⟨⟨r_4, r_5⟩, hc1, hF2⟩ := bI hF2
  refine sc 15 rfl rfl (yC [.agg #[vi r_2.Qubits, .slice B2 r_2.XImages.length c3, .slice B3 r_2.ZImages.length c4]] k_call_17 (c_impl_SynthesizeClifford r_2 B2 c3 r_2.XImages.length B3 c4 r_2.ZImages.length _ rfl (hS5.lencap (i := 2) rfl (fm_lenn (l := r_2.XImages) eN1 rfl) rfl rfl) rfl (hS5.lencap (i := 3) rfl (fm_lenn (l := r_2.ZImages) eN1 rfl) rfl rfl) (hS5.inn0 [(false, 2), (false, 3)] rfl) hc1)) ?_
  rintro _ w_6 ⟨B4, c5, rfl, hd1⟩
  have hS8 := hS5.out0 hd1
  refine sQ 16 (ye (.agg #[vi r_4.Qubits, .slice B4 r_4.Gates.length c5])) <| sQ 17 (ye (.bool r_5)) ?_
  refine s0 (yT 1 2 (aD b1) 28 (.agg #[vi r_4.Qubits, .slice B4 r_4.Gates.length c5]) [vi r_4.Qubits, .slice B4 r_4.Gates.length c5] 0 hS8 K16) ?_
  rintro _ w_7 ⟨rfl, hS9⟩
  refine sQ 3 (yg (.bool r_5)) (rn (ct_ ?_))
  obtain ⟨rfl, rfl⟩ := pr2 (sI hF2)
  exact ret2 Try.results7 (v1 := .agg #[vi r_4.Qubits, .slice B4 r_4.Gates.length c5]) (resAt_cellA (B := aD b1) (i := 0) (cs := [vi r_4.Qubits, .slice B4 r_4.Gates.length c5]) (vs := [vi r_4.Qubits, .slice B4 r_4.Gates.length c5]) rfl K19 K16 (hS9.c 1) rfl rfl) (v2 := .bool r_5) (resAt_tmp rfl) ⟨B4, c5, rfl, (hS9.sN [5])⟩

theorem c_laws_eqGate (a : TGate) (b : TGate)  (w0 : World)  (hS : ST w0 [] w0 [] []) {r_ : Bool} (hF : F_laws_eqGate a b = some r_) :
  CV Try.prog 34 #[.agg #[vi a.Kind, vi a.A, vi a.B], .agg #[vi b.Kind, vi b.A, vi b.B]] w0 (fun v w' => v = .bool r_ ∧ ST w0 [] w' [] []) := by
 unfold F_laws_eqGate at hF
 refine cv_of_cw 20 Try.func34 rfl Try.ntmps34 rfl ?_
 refine cq (cr ?_)
 refine sS 2 (yB 55 (.agg #[vi a.Kind, vi a.A, vi a.B]) [vi a.Kind, vi a.A, vi a.B] 3 hS) ?_
 rintro _ w_ ⟨b1, rfl, hS1⟩
 refine sS 3 (yB 55 (.agg #[vi b.Kind, vi b.A, vi b.B]) [vi b.Kind, vi b.A, vi b.B] 3 hS1) ?_
 rintro _ w_1 ⟨b2, rfl, hS2⟩
 refine sQ 4 (yg (.bool false)) (rn (cq (cq (cr ?_))))
 refine sQ 5 (yd (aD b1) 0 0 K36 K3) <| sQ 6 (yl (aD b1) 0 [vi a.Kind, vi a.A, vi a.B] (vi a.Kind) K4 (hS2.c 0)) <| sQ 7 (yd (aD b2) 0 0 K36 K3) <| sQ 8 (yl (aD b2) 0 [vi b.Kind, vi b.A, vi b.B] (vi b.Kind) K4 (hS2.c 1)) <| sQ 9 (Y_ne (k := .i64) (a := a.Kind) (b := b.Kind) rfl rfl rfl) (rn ?_)
 refine cw_cond (b := (a.Kind != b.Kind)) rfl (fun hb => ?_) (fun hb => ?_)
 ·skip
  have hF1 := ct hF hb
  refine cq (cr ?_)
  refine sQ 4 (yg (.bool false)) (rn (ct_ ?_))
  obtain rfl := sI hF1
  exact ret1 Try.results34 (v1 := .bool false) (resAt_tmp rfl) ⟨rfl, (hS2.sN [])⟩
 ·skip
  have hF2 := cf' hF hb
  refine cw_skip (cq (cq (cr ?_)))
  refine sQ 10 (yd (aD b1) 0 0 K18 K3) <| sQ 11 (yl (aD b1) 1 [vi a.Kind, vi a.A, vi a.B] (vi a.A) K4 (hS2.c 0)) <| sQ 12 (yd (aD b2) 0 0 K18 K3) <| sQ 13 (yl (aD b2) 1 [vi b.Kind, vi b.A, vi b.B] (vi b.A) K4 (hS2.c 1)) <| sQ 14 (Y_ne (k := .i64) (a := a.A) (b := b.A) rfl rfl rfl) (rn ?_)
  refine cw_cond (b := (a.A != b.A)) rfl (fun hb1 => ?_) (fun hb1 => ?_)
  ·skip
   have hF3 := ct hF2 hb1
   refine cq (cr ?_)
   refine sQ 4 (yg (.bool false)) (rn (ct_ ?_))
   obtain rfl := sI hF3
   exact ret1 Try.results34 (v1 := .bool false) (resAt_tmp rfl) ⟨rfl, (hS2.sN [])⟩
  ·skip
   have hF4 := cf' hF2 hb1
   refine cw_skip (cq (cq (cr ?_)))
   refine sQ 15 (yd (aD b1) 0 0 K25 K3) <| sQ 16 (yl (aD b1) 2 [vi a.Kind, vi a.A, vi a.B] (vi a.B) K4 (hS2.c 0)) <| sQ 17 (yd (aD b2) 0 0 K25 K3) <| sQ 18 (yl (aD b2) 2 [vi b.Kind, vi b.A, vi b.B] (vi b.B) K4 (hS2.c 1)) <| sQ 19 (Y_ne (k := .i64) (a := a.B) (b := b.B) rfl rfl rfl) (rn ?_)
   refine cw_cond (b := (a.B != b.B)) rfl (fun hb2 => ?_) (fun hb2 => ?_)
   ·skip
    have hF5 := ct hF4 hb2
    refine cq (cr ?_)
    refine sQ 4 (yg (.bool false)) (rn (ct_ ?_))
    obtain rfl := sI hF5
    exact ret1 Try.results34 (v1 := .bool false) (resAt_tmp rfl) ⟨rfl, (hS2.sN [])⟩
   ·skip
    have hF6 := cf' hF4 hb2
    refine cw_skip (cq (cr ?_))
    refine sQ 4 (yg (.bool true)) (rn (ct_ ?_))
    obtain rfl := sI hF6
    exact ret1 Try.results34 (v1 := .bool true) (resAt_tmp rfl) ⟨rfl, (hS2.sN [])⟩

theorem c_laws_eqGateS (a : List TGate) (b : List TGate) (B : Option Addr) (c n : Nat) (B1 : Option Addr) (c1 n1 : Nat) (w0 : World) (hn : a.length = n) (hn1 : b.length = n1) (hS : ST w0 [] w0 [] [⟨B, (a.flatMap eN2)⟩, ⟨B1, (b.flatMap eN2)⟩]) {r_ : Bool} (hF : F_laws_eqGateS a b = some r_) :
  CV Try.prog 18 #[.slice B n c, .slice B1 n1 c1] w0 (fun v w' => v = .bool r_ ∧ ST w0 [] w' [] []) := by
 subst hn
 subst hn1
 unfold F_laws_eqGateS at hF
 refine cv_of_cw 27 Try.func18 rfl Try.ntmps18 rfl ?_
 refine cq (cr ?_)
 refine sQ 4 (yg (.bool false)) (rn (cq (cq (cr ?_))))
 refine sQ 6 (ym (.slice B a.length c)) <| sQ 7 (Y_len (B := B) (m := a.length) (c := c) K15 rfl rfl) <| sQ 8 (ym (.slice B1 b.length c1)) <| sQ 9 (Y_len (B := B1) (m := b.length) (c := c1) K15 rfl rfl) <| sQ 10 (Y_ne (k := .i64) (a := (a.length : Int)) (b := (b.length : Int)) rfl rfl rfl) (rn ?_)
 refine cw_cond (b := ((a.length : Int) != (b.length : Int))) rfl (fun hb => ?_) (fun hb => ?_)
 ·skip
  have hF1 := ct hF hb
  refine cq (cr ?_)
  refine sQ 4 (yg (.bool false)) (rn (ct_ ?_))
  obtain rfl := sI hF1
  exact ret1 Try.results18 (v1 := .bool false) (resAt_tmp rfl) ⟨rfl, (hS.sN [])⟩
 ·skip
  have hF2 := cf' hF hb
  refine cw_skip (cq (cq (cr ?_)))
  refine sQ 5 (yg (vi 0)) (rn ?_)
  obtain ⟨hN, hF2⟩ := chk_inv hF2
  obtain ⟨z, hz, hF3⟩ := bI hF2
  refine cw_block ?_
  refine cw_loop (fun k f w => ∃ (i1 : Nat), FF f [(0, .slice B a.length c), (1, .slice B1 b.length c1), (5, vi (i1 : Int))] ∧ ST w0 [] w [] [⟨B, (a.flatMap eN2)⟩, ⟨B1, (b.flatMap eN2)⟩] ∧ i1 + k = a.length ∧ forX (F_laws_eqGateS_l1 a b) k i1 () = some z) a.length ⟨0, (fc rfl (fc rfl (fc rfl fn_))), (hS.sel [] rfl rfl), Nat.zero_add _, hz⟩ ?_
  rintro k_ f w ⟨i1, hf, hS1, hik, hL⟩
  refine cq (cq (cr ?_))
  refine sQ 11 (ym (vi (i1 : Int)) rfl (hf.g 5 2)) <| sQ 12 (ym (.slice B a.length c) rfl (hf.g 0 0)) <| sQ 13 (Y_len (B := B) (m := a.length) (c := c) K15 rfl rfl) <| sQ 14 (yL (i1 : Int) (a.length : Int)) (rn ?_)
  refine cw_cond (b := (decide ((i1 : Int) < (a.length : Int)))) rfl (fun hlt => ?_) (fun hlt => ?_)
  ·skip
   have hlt1 : i1 < a.length := by have h := of_decide_eq_true hlt; omega
   obtain ⟨K7, rfl⟩ : ∃ k2, k_ = k2 + 1 := ⟨k_ - 1, by omega⟩
   obtain ⟨y, hb1, hL1⟩ := forX_go hL
   unfold F_laws_eqGateS_l1 at hb1
   refine cw_skip (cq (cw_block (cq ?_)))
   obtain ⟨x, hx, hb1⟩ := bI hb1
   obtain ⟨x1, hx1, hb1⟩ := bI hb1
   obtain ⟨r_1, hc, hb1⟩ := bI hb1
   refine ra_start (hS1.se []).fn (by kernel_rfl) ?_
   have hS3 := hS1.drew
   refine rq 0 17 (v := .slice B a.length c) rfl (hS3.se []) (fun w' hw' => (ym (.slice B a.length c) rfl (hf.g 0 0))) ?_
   refine rq 1 18 (v := vi (i1 : Int)) rfl (hS3.se []) (fun w' hw' => (ym (vi (i1 : Int)) rfl (hf.g 5 2))) ?_
   refine rq 2 19 (v := pt B ((i1 : Int).toNat * 3)) rfl (hS3.se []) (fun w' hw' => (Y_index (B := B) (m := a.length) (c := c) (k := .i64) (i := (i1 : Int)) K15 K13 rfl rfl rfl (gi_isSome eN4 rfl (ST.rf hw' (i := 0) rfl) hx) (getI_nn hx) (getI_ltI hx rfl))) ?_
   refine rq 3 20 (v := .agg #[vi x.Kind, vi x.A, vi x.B]) rfl (hS3.se []) (fun w' hw' => (ya B ((i1 : Int).toNat * 3) (a.flatMap eN2) [vi x.Kind, vi x.A, vi x.B] K26 K13 (ST.rf hw' (i := 0) rfl) rfl rfl (eN4 x) (gi_seg eN4 hx))) ?_
   refine rq 4 21 (v := .slice B1 b.length c1) rfl (hS3.se []) (fun w' hw' => (ym (.slice B1 b.length c1) rfl (hf.g 1 1))) ?_
   refine rq 5 22 (v := vi (i1 : Int)) rfl (hS3.se []) (fun w' hw' => (ym (vi (i1 : Int)) rfl (hf.g 5 2))) ?_
   refine rq 6 23 (v := pt B1 ((i1 : Int).toNat * 3)) rfl (hS3.se []) (fun w' hw' => (Y_index (B := B1) (m := b.length) (c := c1) (k := .i64) (i := (i1 : Int)) K15 K13 rfl rfl rfl (gi_isSome eN4 rfl (ST.rf hw' (i := 1) rfl) hx1) (getI_nn hx1) (getI_ltI hx1 rfl))) ?_
   refine rq 7 24 (v := .agg #[vi x1.Kind, vi x1.A, vi x1.B]) rfl (hS3.se []) (fun w' hw' => (ya B1 ((i1 : Int).toNat * 3) (b.flatMap eN2) [vi x1.Kind, vi x1.A, vi x1.B] K26 K13 (ST.rf hw' (i := 1) rfl) rfl rfl (eN4 x1) (gi_seg eN4 hx1))) ?_
   refine rA [8] ?_
   refine rC 25 8 rfl (yC [.agg #[vi x.Kind, vi x.A, vi x.B], .agg #[vi x1.Kind, vi x1.A, vi x1.B]] k_call_34 (c_laws_eqGate x x1 _  (hS3.inn0 [] rfl) hc)) ?_ ?_
   ·rintro _ w_ ⟨rfl, hd⟩
    have hS4 := hS3.out00 hd
    refine ⟨(hS4.se []), ?_⟩
    refine rq 9 26 (v := .bool (!r_1)) rfl (hS4.se []) (fun w' hw' => (Y_not (p := r_1) rfl rfl)) ?_
    refine ra_done (by kernel_rfl) ?_
    refine cw_cond (b := (!r_1)) rfl (fun hb2 => ?_) (fun hb2 => ?_)
    ·skip
     have hF4 := ct hb1 hb2
     refine cq (cr ?_)
     refine sQ 4 (yg (.bool false)) (rn (ct_ ?_))
     obtain rfl := sI hF4
     obtain rfl := sI hL1
     obtain rfl := sI hF3
     exact ret1 Try.results18 (v1 := .bool false) (resAt_tmp rfl) ⟨rfl, (hS4.sN [])⟩
    ·skip
     have hF5 := cf' hb1 hb2
     refine cw_skip (cr ?_)
     refine sQ 15 (ym (vi (i1 : Int)) rfl (hf.g 5 2)) <| sQ 16 (yP (i1 : Int) 1) <| sQ 5 (yg (vi (i64.wrap ((i1 : Int) + 1)))) (rn ?_)
     obtain rfl := sI hF5
     exact ⟨K7, Nat.lt_succ_self _, i1 + 1, (fc (hf.g 0 0) (fc (hf.g 1 1) (fc (congrArg (Value.int .i64) (wr_succ hlt1 hN)) fn_))), (hS4.sel [] rfl rfl), (by omega), hL1⟩
   exact aN
  ·skip
   obtain rfl : k_ = 0 := by have h := of_decide_eq_false hlt; omega
   refine cw_exit rfl ?_
   obtain rfl := sI hL
   refine cq (cr ?_)
   refine sQ 4 (yg (.bool true)) (rn (ct_ ?_))
   obtain rfl := sI hF3
   exact ret1 Try.results18 (v1 := .bool true) (resAt_tmp rfl) ⟨rfl, (hS1.sN [])⟩

theorem c_laws_eqCircuit (a : TCircuit) (b : TCircuit) (B : Option Addr) (c n : Nat) (B1 : Option Addr) (c1 n1 : Nat) (w0 : World) (hn : a.Gates.length = n) (hn1 : b.Gates.length = n1) (hS : ST w0 [] w0 [] [⟨B, (a.Gates.flatMap eN2)⟩, ⟨B1, (b.Gates.flatMap eN2)⟩]) {r_ : Bool} (hF : F_laws_eqCircuit a b = some r_) :
  CV Try.prog 8 #[.agg #[vi a.Qubits, .slice B n c], .agg #[vi b.Qubits, .slice B1 n1 c1]] w0 (fun v w' => v = .bool r_ ∧ ST w0 [] w' [] []) := by
 subst hn
 subst hn1
 unfold F_laws_eqCircuit at hF
 refine cv_of_cw 16 Try.func8 rfl Try.ntmps8 rfl ?_
 refine cq (cr ?_)
 refine sS 2 (yB 28 (.agg #[vi a.Qubits, .slice B a.Gates.length c]) [vi a.Qubits, .slice B a.Gates.length c] 2 hS) ?_
 rintro _ w_ ⟨b1, rfl, hS1⟩
 refine sS 3 (yB 28 (.agg #[vi b.Qubits, .slice B1 b.Gates.length c1]) [vi b.Qubits, .slice B1 b.Gates.length c1] 2 hS1) ?_
 rintro _ w_1 ⟨b2, rfl, hS2⟩
 refine sQ 4 (yg (.bool false)) (rn (cq (cq (cr ?_))))
 refine sQ 5 (yd (aD b1) 0 0 K47 K3) <| sQ 6 (yl (aD b1) 0 [vi a.Qubits, .slice B a.Gates.length c] (vi a.Qubits) K4 (hS2.c 0)) <| sQ 7 (yd (aD b2) 0 0 K47 K3) <| sQ 8 (yl (aD b2) 0 [vi b.Qubits, .slice B1 b.Gates.length c1] (vi b.Qubits) K4 (hS2.c 1)) <| sQ 9 (Y_ne (k := .i64) (a := a.Qubits) (b := b.Qubits) rfl rfl rfl) (rn ?_)
 refine cw_cond (b := (a.Qubits != b.Qubits)) rfl (fun hb => ?_) (fun hb => ?_)
 ·skip
  have hF1 := ct hF hb
  refine cq (cr ?_)
  refine sQ 4 (yg (.bool false)) (rn (ct_ ?_))
  obtain rfl := sI hF1
  exact ret1 Try.results8 (v1 := .bool false) (resAt_tmp rfl) ⟨rfl, (hS2.sN [])⟩
 ·skip
  have hF2 := cf' hF hb
  refine cw_skip (cq (cq (cr ?_)))
  refine sQ 10 (yd (aD b1) 0 0 K33 K17) <| sQ 11 (yl (aD b1) 1 [vi a.Qubits, .slice B a.Gates.length c] (.slice B a.Gates.length c) K22 (hS2.c 0)) <| sQ 12 (yd (aD b2) 0 0 K33 K17) <| sQ 13 (yl (aD b2) 1 [vi b.Qubits, .slice B1 b.Gates.length c1] (.slice B1 b.Gates.length c1) K22 (hS2.c 1)) ?_
  obtain ⟨r_1, hc, hF2⟩ := bI hF2
  refine sc 14 rfl rfl (yC [.slice B a.Gates.length c, .slice B1 b.Gates.length c1] k_call_18 (c_laws_eqGateS a.Gates b.Gates B c a.Gates.length B1 c1 b.Gates.length _ rfl rfl (hS2.inn0 [(true, 0), (true, 1)] rfl) hc)) ?_
  rintro _ w_2 ⟨rfl, hd⟩
  have hS3 := hS2.out00 hd
  refine sQ 15 (Y_not (p := r_1) rfl rfl) (rn ?_)
  refine cw_cond (b := (!r_1)) rfl (fun hb1 => ?_) (fun hb1 => ?_)
  ·skip
   have hF3 := ct hF2 hb1
   refine cq (cr ?_)
   refine sQ 4 (yg (.bool false)) (rn (ct_ ?_))
   obtain rfl := sI hF3
   exact ret1 Try.results8 (v1 := .bool false) (resAt_tmp rfl) ⟨rfl, (hS3.sN [])⟩
  ·skip
   have hF4 := cf' hF2 hb1
   refine cw_skip (cq (cr ?_))
   refine sQ 4 (yg (.bool true)) (rn (ct_ ?_))
   obtain rfl := sI hF4
   exact ret1 Try.results8 (v1 := .bool true) (resAt_tmp rfl) ⟨rfl, (hS3.sN [])⟩

theorem c_laws_markGateS (a : List TGate) (k_ : Int) (B : Option Addr) (c n : Nat) (w0 : World) (hn : a.length = n) (hS : ST w0 (bl [⟨B, 55, (a.flatMap eN2), c * 3⟩]) w0 [⟨B, 55, (a.flatMap eN2), c * 3⟩] []) {r_ : Int} {m : List TGate} (hF : F_laws_markGateS a k_ = some (r_, m)) :
  CV Try.prog 19 #[.slice B n c, vi k_] w0 (fun v w' => v = vi r_ ∧ m.length = n ∧ ST w0 (bl [⟨B, 55, (a.flatMap eN2), c * 3⟩]) w' [⟨B, 55, (m.flatMap eN2), c * 3⟩] []) := by
 subst hn
 unfold F_laws_markGateS at hF
 refine cv_of_cw 34 Try.func19 rfl Try.ntmps19 rfl ?_
 refine cq (cr ?_)
 refine sQ 4 (yg (vi 0)) (rn (cq (cq (cr ?_))))
 refine sQ 5 (yg (vi 0)) (rn ?_)
 obtain ⟨hN, hF⟩ := chk_inv hF
 obtain ⟨z, hz, hF1⟩ := bI hF
 refine cw_block ?_
 refine cw_loop (fun k f w => ∃ (i1 : Nat) (m1 : List TGate) (K7 : Int), FF f [(0, .slice B a.length c), (1, vi K7), (5, vi (i1 : Int))] ∧ m1.length = a.length ∧ ST w0 (bl [⟨B, 55, (a.flatMap eN2), c * 3⟩]) w [⟨B, 55, (m1.flatMap eN2), c * 3⟩] [] ∧ i1 + k = a.length ∧ forN F_laws_markGateS_l1 k i1 (m1, K7) = some z) a.length ⟨0, a, k_, (fc rfl (fc rfl (fc rfl fn_))), rfl, (hS.sel [0] rfl rfl), Nat.zero_add _, hz⟩ ?_
 rintro K41 f w ⟨i1, m1, K7, hf, hl, hS1, hik, hL⟩
 refine cq (cq (cr ?_))
 refine sQ 6 (ym (vi (i1 : Int)) rfl (hf.g 5 2)) <| sQ 7 (ym (.slice B a.length c) rfl (hf.g 0 0)) <| sQ 8 (Y_len (B := B) (m := a.length) (c := c) K15 rfl rfl) <| sQ 9 (yL (i1 : Int) (a.length : Int)) (rn ?_)
 refine cw_cond (b := (decide ((i1 : Int) < (a.length : Int)))) rfl (fun hlt => ?_) (fun hlt => ?_)
 ·skip
  have hlt1 : i1 < a.length := by have h := of_decide_eq_true hlt; omega
  obtain ⟨K51, rfl⟩ : ∃ k2, K41 = k2 + 1 := ⟨K41 - 1, by omega⟩
  obtain ⟨y, hb, hL1⟩ := forN_go hL
  unfold F_laws_markGateS_l1 at hb
  refine cw_skip (cq (cw_block (cq (cr ?_))))
  refine sQ 12 (ym (.slice B a.length c) rfl (hf.g 0 0)) <| sQ 13 (ym (vi (i1 : Int)) rfl (hf.g 5 2)) <| sQ 14 (ym (vi K7) rfl (hf.g 1 1)) ?_
  obtain ⟨x, hx, hb⟩ := bI hb
  refine sQ 15 (Y_index (B := B) (m := a.length) (c := c) (k := .i64) (i := (i1 : Int)) K15 K13 rfl rfl rfl (gi_isSome eN4 rfl (hS1.c 0) hx) (getI_nn hx) (getI_ltI hx hl)) <| sQ 16 (yd B ((i1 : Int).toNat * 3) 0 K36 K3) ?_
  refine s0 (yS 0 1 B 55 (vi K7) [vi K7] ((i1 : Int).toNat * 3 + 0) ((m1.set (i1 : Int).toNat (TGate.mk K7 x.A x.B)).flatMap eN2) hS1 K3 rfl rfl rfl rfl rfl rfl rfl (gi_fit eN4 hx (j := 0) (k := 1) (by decide)) (gi_setf eN4 hx (TGate.mk K7 x.A x.B) rfl (lB rfl))) ?_
  rintro _ w_ ⟨rfl, hS2⟩
  refine rn (cq (cr ?_))
  refine sQ 17 (ym (vi K7) rfl (hf.g 1 1)) <| sQ 18 (yP K7 1) <| sQ 1 (yg (vi (i64.wrap (K7 + 1)))) (rn (cq (cr ?_)))
  refine sQ 19 (ym (.slice B a.length c) rfl (hf.g 0 0)) <| sQ 20 (ym (vi (i1 : Int)) rfl (hf.g 5 2)) <| sQ 21 (ym (vi (i64.wrap (K7 + 1)))) <| sQ 22 (Y_index (B := B) (m := a.length) (c := c) (k := .i64) (i := (i1 : Int)) K15 K13 rfl rfl rfl (gi_isSome eN4 rfl (hS2.c 0) (getI_set (y := (TGate.mk K7 x.A x.B)) hx)) (getI_nn (getI_set (y := (TGate.mk K7 x.A x.B)) hx)) (getI_ltI (getI_set (y := (TGate.mk K7 x.A x.B)) hx) (set_len _ _ _ hl))) <| sQ 23 (yd B ((i1 : Int).toNat * 3) 0 K18 K3) ?_
  refine s0 (yS 0 1 B 55 (vi (i64.wrap (K7 + 1))) [vi (i64.wrap (K7 + 1))] ((i1 : Int).toNat * 3 + 1) (((m1.set (i1 : Int).toNat (TGate.mk K7 x.A x.B)).set (i1 : Int).toNat (TGate.mk K7 (i64.wrap (K7 + 1)) x.B)).flatMap eN2) hS2 K3 rfl rfl rfl rfl rfl rfl rfl (gi_fit eN4 (getI_set (y := (TGate.mk K7 x.A x.B)) hx) (j := 1) (k := 1) (by decide)) (gi_setf eN4 (getI_set (y := (TGate.mk K7 x.A x.B)) hx) (TGate.mk K7 (i64.wrap (K7 + 1)) x.B) rfl (lB rfl))) ?_
  rintro _ w_1 ⟨rfl, hS3⟩
  refine rn (cq (cr ?_))
  refine sQ 24 (ym (vi (i64.wrap (K7 + 1)))) <| sQ 25 (yP (i64.wrap (K7 + 1)) 1) <| sQ 1 (yg (vi (i64.wrap ((i64.wrap (K7 + 1)) + 1)))) (rn (cq (cr ?_)))
  refine sQ 26 (ym (.slice B a.length c) rfl (hf.g 0 0)) <| sQ 27 (ym (vi (i1 : Int)) rfl (hf.g 5 2)) <| sQ 28 (ym (vi (i64.wrap ((i64.wrap (K7 + 1)) + 1)))) <| sQ 29 (Y_index (B := B) (m := a.length) (c := c) (k := .i64) (i := (i1 : Int)) K15 K13 rfl rfl rfl (gi_isSome eN4 rfl (hS3.c 0) (getI_set (y := (TGate.mk K7 (i64.wrap (K7 + 1)) x.B)) (getI_set (y := (TGate.mk K7 x.A x.B)) hx))) (getI_nn (getI_set (y := (TGate.mk K7 (i64.wrap (K7 + 1)) x.B)) (getI_set (y := (TGate.mk K7 x.A x.B)) hx))) (getI_ltI (getI_set (y := (TGate.mk K7 (i64.wrap (K7 + 1)) x.B)) (getI_set (y := (TGate.mk K7 x.A x.B)) hx)) (set_len _ _ _ (set_len _ _ _ hl)))) <| sQ 30 (yd B ((i1 : Int).toNat * 3) 0 K25 K3) ?_
  refine s0 (yS 0 1 B 55 (vi (i64.wrap ((i64.wrap (K7 + 1)) + 1))) [vi (i64.wrap ((i64.wrap (K7 + 1)) + 1))] ((i1 : Int).toNat * 3 + 2) ((((m1.set (i1 : Int).toNat (TGate.mk K7 x.A x.B)).set (i1 : Int).toNat (TGate.mk K7 (i64.wrap (K7 + 1)) x.B)).set (i1 : Int).toNat (TGate.mk K7 (i64.wrap (K7 + 1)) (i64.wrap ((i64.wrap (K7 + 1)) + 1)))).flatMap eN2) hS3 K3 rfl rfl rfl rfl rfl rfl rfl (gi_fit eN4 (getI_set (y := (TGate.mk K7 (i64.wrap (K7 + 1)) x.B)) (getI_set (y := (TGate.mk K7 x.A x.B)) hx)) (j := 2) (k := 1) (by decide)) (gi_setf eN4 (getI_set (y := (TGate.mk K7 (i64.wrap (K7 + 1)) x.B)) (getI_set (y := (TGate.mk K7 x.A x.B)) hx)) (TGate.mk K7 (i64.wrap (K7 + 1)) (i64.wrap ((i64.wrap (K7 + 1)) + 1))) rfl (lB rfl))) ?_
  rintro _ w_2 ⟨rfl, hS4⟩
  refine rn (cr ?_)
  refine sQ 31 (ym (vi (i64.wrap ((i64.wrap (K7 + 1)) + 1)))) <| sQ 32 (yP (i64.wrap ((i64.wrap (K7 + 1)) + 1)) 1) <| sQ 1 (yg (vi (i64.wrap ((i64.wrap ((i64.wrap (K7 + 1)) + 1)) + 1)))) (rn (cr ?_))
  refine sQ 10 (ym (vi (i1 : Int)) rfl (hf.g 5 2)) <| sQ 11 (yP (i1 : Int) 1) <| sQ 5 (yg (vi (i64.wrap ((i1 : Int) + 1)))) (rn ?_)
  obtain rfl := sI hb
  exact ⟨K51, Nat.lt_succ_self _, i1 + 1, (((m1.set (i1 : Int).toNat (TGate.mk K7 x.A x.B)).set (i1 : Int).toNat (TGate.mk K7 (i64.wrap (K7 + 1)) x.B)).set (i1 : Int).toNat (TGate.mk K7 (i64.wrap (K7 + 1)) (i64.wrap ((i64.wrap (K7 + 1)) + 1)))), (i64.wrap ((i64.wrap ((i64.wrap (K7 + 1)) + 1)) + 1)), (fc (hf.g 0 0) (fc rfl (fc (congrArg (Value.int .i64) (wr_succ hlt1 hN)) fn_))), (set_len _ _ _ (set_len _ _ _ (set_len _ _ _ hl))), (hS4.sel [0] rfl rfl), (by omega), hL1⟩
 ·skip
  obtain rfl : K41 = 0 := by have h := of_decide_eq_false hlt; omega
  refine cw_exit rfl ?_
  obtain rfl := sI hL
  refine cq (cr ?_)
  refine sQ 33 (ym (vi K7) rfl (hf.g 1 1)) <| sQ 4 (yg (vi K7)) (rn (ct_ ?_))
  obtain ⟨rfl, rfl⟩ := pr2 (sI hF1)
  exact ret1 Try.results19 (v1 := vi K7) (resAt_tmp rfl) ⟨rfl, hl, (hS1.sN [0])⟩

theorem c_laws_markCircuit (a : TCircuit) (k_ : Int) (B : Option Addr) (c n : Nat) (w0 : World) (hn : a.Gates.length = n) (hS : ST w0 (bl [⟨B, 55, (a.Gates.flatMap eN2), c * 3⟩]) w0 [⟨B, 55, (a.Gates.flatMap eN2), c * 3⟩] []) {r_ : Int} {m : List TGate} (hF : F_laws_markCircuit a k_ = some (r_, m)) :
  CV Try.prog 9 #[.agg #[vi a.Qubits, .slice B n c], vi k_] w0 (fun v w' => v = vi r_ ∧ m.length = n ∧ ST w0 (bl [⟨B, 55, (a.Gates.flatMap eN2), c * 3⟩]) w' [⟨B, 55, (m.flatMap eN2), c * 3⟩] []) := by
 subst hn
 unfold F_laws_markCircuit at hF
 refine cv_of_cw 10 Try.func9 rfl Try.ntmps9 rfl ?_
 refine cq (cr ?_)
 refine sS 2 (yB 28 (.agg #[vi a.Qubits, .slice B a.Gates.length c]) [vi a.Qubits, .slice B a.Gates.length c] 2 hS) ?_
 rintro _ w_ ⟨b, rfl, hS1⟩
 refine sQ 4 (yg (vi 0)) (rn (cq (cr ?_)))
 refine sQ 5 (yd (aD b) 0 0 K33 K17) <| sQ 6 (yl (aD b) 1 [vi a.Qubits, .slice B a.Gates.length c] (.slice B a.Gates.length c) K22 (hS1.c 1)) <| sQ 7 (ym (vi k_)) ?_
 obtain ⟨⟨r_1, m1⟩, hc, hF⟩ := bI hF
 refine sc 8 rfl rfl (yC [.slice B a.Gates.length c, vi k_] k_call_19 (c_laws_markGateS a.Gates k_ B c a.Gates.length _ rfl (hS1.inn [true, false] rfl [] rfl) hc)) ?_
 rintro _ w_1 ⟨rfl, hl, hd⟩
 have hS2 := hS1.out [true, false] rfl hd
 refine sQ 1 (yg (vi r_1)) (rn (cq (cr ?_)))
 refine sQ 9 (ym (vi r_1)) <| sQ 4 (yg (vi r_1)) (rn (ct_ ?_))
 obtain ⟨rfl, rfl⟩ := pr2 (sI hF)
 exact ret1 Try.results9 (v1 := vi r_1) (resAt_tmp rfl) ⟨rfl, hl, (hS2.sN [1])⟩

theorem c_laws_heldGateS (a : List TGate) (k_ : Int) (B : Option Addr) (c n : Nat) (w0 : World) (hn : a.length = n) (hS : ST w0 [] w0 [] [⟨B, (a.flatMap eN2)⟩]) {r_ : Int} (hF : F_laws_heldGateS a k_ = some r_) :
  CV Try.prog 20 #[.slice B n c, vi k_] w0 (fun v w' => v = vi r_ ∧ ST w0 [] w' [] []) := by
 subst hn
 unfold F_laws_heldGateS at hF
 refine cv_of_cw 40 Try.func20 rfl Try.ntmps20 rfl ?_
 refine cq (cr ?_)
 refine sQ 4 (yg (vi 0)) (rn (cq (cq (cr ?_))))
 refine sQ 5 (yg (vi 0)) (rn ?_)
 obtain ⟨hN, hF⟩ := chk_inv hF
 obtain ⟨z, hz, hF1⟩ := bI hF
 refine cw_block ?_
 refine cw_loop (fun k f w => ∃ (i1 : Nat) (K7 : Int), FF f [(0, .slice B a.length c), (1, vi K7), (5, vi (i1 : Int))] ∧ ST w0 [] w [] [⟨B, (a.flatMap eN2)⟩] ∧ i1 + k = a.length ∧ forX (F_laws_heldGateS_l1 a) k i1 K7 = some z) a.length ⟨0, k_, (fc rfl (fc rfl (fc rfl fn_))), (hS.sel [] rfl rfl), Nat.zero_add _, hz⟩ ?_
 rintro K41 f w ⟨i1, K7, hf, hS1, hik, hL⟩
 refine cq (cq (cr ?_))
 refine sQ 6 (ym (vi (i1 : Int)) rfl (hf.g 5 2)) <| sQ 7 (ym (.slice B a.length c) rfl (hf.g 0 0)) <| sQ 8 (Y_len (B := B) (m := a.length) (c := c) K15 rfl rfl) <| sQ 9 (yL (i1 : Int) (a.length : Int)) (rn ?_)
 refine cw_cond (b := (decide ((i1 : Int) < (a.length : Int)))) rfl (fun hlt => ?_) (fun hlt => ?_)
 ·skip
  have hlt1 : i1 < a.length := by have h := of_decide_eq_true hlt; omega
  obtain ⟨K51, rfl⟩ : ∃ k2, K41 = k2 + 1 := ⟨K41 - 1, by omega⟩
  obtain ⟨y, hb, hL1⟩ := forX_go hL
  unfold F_laws_heldGateS_l1 at hb
  refine cw_skip (cq (cw_block (cq (cq (cr ?_)))))
  refine sQ 12 (ym (.slice B a.length c) rfl (hf.g 0 0)) <| sQ 13 (ym (vi (i1 : Int)) rfl (hf.g 5 2)) ?_
  obtain ⟨x, hx, hb⟩ := bI hb
  refine sQ 14 (Y_index (B := B) (m := a.length) (c := c) (k := .i64) (i := (i1 : Int)) K15 K13 rfl rfl rfl (gi_isSome eN4 rfl (hS1.rf (i := 0) rfl) hx) (getI_nn hx) (getI_ltI hx rfl)) <| sQ 15 (yd B ((i1 : Int).toNat * 3) 0 K36 K3) <| sQ 16 (yl B ((i1 : Int).toNat * 3 + 0) (a.flatMap eN2) (vi x.Kind) K4 (hS1.rf (i := 0) rfl) rfl rfl (gi_at eN4 hx rfl)) <| sQ 17 (ym (vi K7) rfl (hf.g 1 1)) <| sQ 18 (Y_ne (k := .i64) (a := x.Kind) (b := K7) rfl rfl rfl) (rn ?_)
  refine cw_cond (b := (x.Kind != K7)) rfl (fun hb1 => ?_) (fun hb1 => ?_)
  ·skip
   have hF2 := ct hb hb1
   refine cq (cr ?_)
   refine sQ 4 (yg (vi (-1))) (rn (ct_ ?_))
   obtain rfl := sI hF2
   obtain rfl := sI hL1
   obtain rfl := sI hF1
   exact ret1 Try.results20 (v1 := vi (-1)) (resAt_tmp rfl) ⟨rfl, (hS1.sN [])⟩
  ·skip
   have hF3 := cf' hb hb1
   refine cw_skip (cq (cr ?_))
   refine sQ 19 (ym (vi K7) rfl (hf.g 1 1)) <| sQ 20 (yP K7 1) <| sQ 1 (yg (vi (i64.wrap (K7 + 1)))) (rn (cq (cq (cr ?_))))
   refine sQ 21 (ym (.slice B a.length c) rfl (hf.g 0 0)) <| sQ 22 (ym (vi (i1 : Int)) rfl (hf.g 5 2)) <| sQ 23 (Y_index (B := B) (m := a.length) (c := c) (k := .i64) (i := (i1 : Int)) K15 K13 rfl rfl rfl (gi_isSome eN4 rfl (hS1.rf (i := 0) rfl) hx) (getI_nn hx) (getI_ltI hx rfl)) <| sQ 24 (yd B ((i1 : Int).toNat * 3) 0 K18 K3) <| sQ 25 (yl B ((i1 : Int).toNat * 3 + 1) (a.flatMap eN2) (vi x.A) K4 (hS1.rf (i := 0) rfl) rfl rfl (gi_at eN4 hx rfl)) <| sQ 26 (ym (vi (i64.wrap (K7 + 1)))) ?_
   refine sQ 27 (Y_ne (k := .i64) (a := x.A) (b := (i64.wrap (K7 + 1))) rfl rfl rfl) (rn ?_)
   refine cw_cond (b := (x.A != (i64.wrap (K7 + 1)))) rfl (fun hb2 => ?_) (fun hb2 => ?_)
   ·skip
    have hF4 := ct hF3 hb2
    refine cq (cr ?_)
    refine sQ 4 (yg (vi (-1))) (rn (ct_ ?_))
    obtain rfl := sI hF4
    obtain rfl := sI hL1
    obtain rfl := sI hF1
    exact ret1 Try.results20 (v1 := vi (-1)) (resAt_tmp rfl) ⟨rfl, (hS1.sN [])⟩
   ·skip
    have hF5 := cf' hF3 hb2
    refine cw_skip (cq (cr ?_))
    refine sQ 28 (ym (vi (i64.wrap (K7 + 1)))) <| sQ 29 (yP (i64.wrap (K7 + 1)) 1) <| sQ 1 (yg (vi (i64.wrap ((i64.wrap (K7 + 1)) + 1)))) (rn (cq (cq (cr ?_))))
    refine sQ 30 (ym (.slice B a.length c) rfl (hf.g 0 0)) <| sQ 31 (ym (vi (i1 : Int)) rfl (hf.g 5 2)) <| sQ 32 (Y_index (B := B) (m := a.length) (c := c) (k := .i64) (i := (i1 : Int)) K15 K13 rfl rfl rfl (gi_isSome eN4 rfl (hS1.rf (i := 0) rfl) hx) (getI_nn hx) (getI_ltI hx rfl)) <| sQ 33 (yd B ((i1 : Int).toNat * 3) 0 K25 K3) <| sQ 34 (yl B ((i1 : Int).toNat * 3 + 2) (a.flatMap eN2) (vi x.B) K4 (hS1.rf (i := 0) rfl) rfl rfl (gi_at eN4 hx rfl)) <| sQ 35 (ym (vi (i64.wrap ((i64.wrap (K7 + 1)) + 1)))) ?_
    refine sQ 36 (Y_ne (k := .i64) (a := x.B) (b := (i64.wrap ((i64.wrap (K7 + 1)) + 1))) rfl rfl rfl) (rn ?_)
    refine cw_cond (b := (x.B != (i64.wrap ((i64.wrap (K7 + 1)) + 1)))) rfl (fun hb3 => ?_) (fun hb3 => ?_)
    ·skip
     have hF6 := ct hF5 hb3
     refine cq (cr ?_)
     refine sQ 4 (yg (vi (-1))) (rn (ct_ ?_))
     obtain rfl := sI hF6
     obtain rfl := sI hL1
     obtain rfl := sI hF1
     exact ret1 Try.results20 (v1 := vi (-1)) (resAt_tmp rfl) ⟨rfl, (hS1.sN [])⟩
    ·skip
     have hF7 := cf' hF5 hb3
     refine cw_skip (cr ?_)
     refine sQ 37 (ym (vi (i64.wrap ((i64.wrap (K7 + 1)) + 1)))) <| sQ 38 (yP (i64.wrap ((i64.wrap (K7 + 1)) + 1)) 1) <| sQ 1 (yg (vi (i64.wrap ((i64.wrap ((i64.wrap (K7 + 1)) + 1)) + 1)))) (rn (cr ?_))
     refine sQ 10 (ym (vi (i1 : Int)) rfl (hf.g 5 2)) <| sQ 11 (yP (i1 : Int) 1) <| sQ 5 (yg (vi (i64.wrap ((i1 : Int) + 1)))) (rn ?_)
     obtain rfl := sI hF7
     exact ⟨K51, Nat.lt_succ_self _, i1 + 1, (i64.wrap ((i64.wrap ((i64.wrap (K7 + 1)) + 1)) + 1)), (fc (hf.g 0 0) (fc rfl (fc (congrArg (Value.int .i64) (wr_succ hlt1 hN)) fn_))), (hS1.sel [] rfl rfl), (by omega), hL1⟩
 ·skip
  obtain rfl : K41 = 0 := by have h := of_decide_eq_false hlt; omega
  refine cw_exit rfl ?_
  obtain rfl := sI hL
  refine cq (cr ?_)
  refine sQ 39 (ym (vi K7) rfl (hf.g 1 1)) <| sQ 4 (yg (vi K7)) (rn (ct_ ?_))
  obtain rfl := sI hF1
  exact ret1 Try.results20 (v1 := vi K7) (resAt_tmp rfl) ⟨rfl, (hS1.sN [])⟩

theorem c_laws_heldCircuit (a : TCircuit) (k_ : Int) (B : Option Addr) (c n : Nat) (w0 : World) (hn : a.Gates.length = n) (hS : ST w0 [] w0 [] [⟨B, (a.Gates.flatMap eN2)⟩]) {r_ : Int} (hF : F_laws_heldCircuit a k_ = some r_) :
  CV Try.prog 10 #[.agg #[vi a.Qubits, .slice B n c], vi k_] w0 (fun v w' => v = vi r_ ∧ ST w0 [] w' [] []) := by
 subst hn
 unfold F_laws_heldCircuit at hF
 refine cv_of_cw 12 Try.func10 rfl Try.ntmps10 rfl ?_
 refine cq (cr ?_)
 refine sS 2 (yB 28 (.agg #[vi a.Qubits, .slice B a.Gates.length c]) [vi a.Qubits, .slice B a.Gates.length c] 2 hS) ?_
 rintro _ w_ ⟨b, rfl, hS1⟩
 refine sQ 4 (yg (vi 0)) (rn (cq (cr ?_)))
 refine sQ 5 (yd (aD b) 0 0 K33 K17) <| sQ 6 (yl (aD b) 1 [vi a.Qubits, .slice B a.Gates.length c] (.slice B a.Gates.length c) K22 (hS1.c 0)) <| sQ 7 (ym (vi k_)) ?_
 obtain ⟨r_1, hc, hF⟩ := bI hF
 refine sc 8 rfl rfl (yC [.slice B a.Gates.length c, vi k_] k_call_20 (c_laws_heldGateS a.Gates k_ B c a.Gates.length _ rfl (hS1.inn0 [(true, 0)] rfl) hc)) ?_
 rintro _ w_1 ⟨rfl, hd⟩
 have hS2 := hS1.out00 hd
 refine sQ 1 (yg (vi r_1)) (rn (cq (cq (cr ?_))))
 refine sQ 9 (ym (vi r_1)) <| sQ 10 (yL r_1 0) (rn ?_)
 refine cw_cond (b := (decide (r_1 < 0))) rfl (fun hb => ?_) (fun hb => ?_)
 ·skip
  have hF1 := ct hF hb
  refine cq (cr ?_)
  refine sQ 4 (yg (vi (-1))) (rn (ct_ ?_))
  obtain rfl := sI hF1
  exact ret1 Try.results10 (v1 := vi (-1)) (resAt_tmp rfl) ⟨rfl, (hS2.sN [])⟩
 ·skip
  have hF2 := cf' hF hb
  refine cw_skip (cq (cr ?_))
  refine sQ 11 (ym (vi r_1)) <| sQ 4 (yg (vi r_1)) (rn (ct_ ?_))
  obtain rfl := sI hF2
  exact ret1 Try.results10 (v1 := vi r_1) (resAt_tmp rfl) ⟨rfl, (hS2.sN [])⟩

theorem c_laws_FnExactNormalizeClifford (aC : TCircuit) (B : Option Addr) (c n : Nat) (w0 : World) (hn : aC.Gates.length = n) (hS : ST w0 [] w0 [] [⟨B, (aC.Gates.flatMap eN2)⟩]) {r_ : Bool} (hF : F_laws_FnExactNormalizeClifford aC = some r_) :
  CV Try.prog 3 #[.agg #[vi aC.Qubits, .slice B n c]] w0 (fun v w' => v = .bool r_ ∧ ST w0 [] w' [] []) := by
 subst hn
 unfold F_laws_FnExactNormalizeClifford at hF
 refine cv_of_cw 96 Try.func3 rfl Try.ntmps3 rfl ?_
 refine cq (cr ?_)
 refine sS 1 (yB 24 (.agg #[vi aC.Qubits, .slice B aC.Gates.length c]) [vi aC.Qubits, .slice B aC.Gates.length c] 2 hS) ?_
 rintro _ w_ ⟨b, rfl, hS1⟩
 refine sQ 2 (yg (.bool false)) (rn (cq (cr ?_)))
 refine sQ 3 (yg (vi 1048576)) (rn (cq (cr ?_)))
 refine sQ 14 (yb (aD b) 0 [vi aC.Qubits, .slice B aC.Gates.length c] K66 K67 (hS1.c 0)) <| sQ 15 (ym (vi 1048576)) ?_
 obtain ⟨r_1, hc, hF⟩ := bI hF
 refine sc 16 rfl rfl (yC [.agg #[vi aC.Qubits, .slice B aC.Gates.length c], vi 1048576] k_call_4 (c_laws_szCircuit aC 1048576 B c aC.Gates.length _ rfl (hS1.inn0 [(true, 0)] rfl) hc)) ?_
 rintro _ w_1 ⟨rfl, hd⟩
 have hS2 := hS1.out00 hd
 refine sQ 3 (yg (vi r_1)) (rn (cq (cq (cr ?_))))
 refine sQ 17 (ym (vi r_1)) <| sQ 18 (yL r_1 0) (rn ?_)
 refine cw_cond (b := (decide (r_1 < 0))) rfl (fun hb => ?_) (fun hb => ?_)
 ·skip
  have hF1 := ct hF hb
  refine cq (cr ?_)
  refine sQ 2 (yg (.bool true)) (rn (ct_ ?_))
  obtain rfl := sI hF1
  exact ret1 Try.results3 (v1 := .bool true) (resAt_tmp rfl) ⟨rfl, (hS2.sN [])⟩
 ·skip
  have hF2 := cf' hF hb
  refine cw_skip (cq (cr ?_))
  refine sQ 20 (yb (aD b) 0 [vi aC.Qubits, .slice B aC.Gates.length c] K66 K67 (hS2.c 0)) ?_
  obtain ⟨r_2, hc1, hF2⟩ := bI hF2
  refine sc 21 rfl rfl (yC [.agg #[vi aC.Qubits, .slice B aC.Gates.length c]] K77 (c_laws_toCircuit aC B c aC.Gates.length _ rfl (hS2.inn0 [(true, 0)] rfl) hc1)) ?_
  rintro _ w_2 ⟨B1, c1, rfl, hd1⟩
  have hS3 := hS2.out0 hd1
  obtain ⟨⟨r_3, r_4⟩, hc2, hF2⟩ := bI hF2
  refine sc 22 rfl rfl (yC [.agg #[vi r_2.Qubits, .slice B1 r_2.Gates.length c1]] k_call_5 (c_spec_NormalizeClifford r_2 B1 c1 r_2.Gates.length _ rfl (hS3.inn0 [(false, 1)] rfl) hc2)) ?_
  rintro _ w_3 ⟨B2, c2, rfl, hd2⟩
  have hS4 := hS3.out0 hd2
  have hS4 : ST w0 [] _ [⟨aD b, 24, [vi aC.Qubits, .slice B aC.Gates.length c], 2⟩, ⟨B1, 55, (r_2.Gates.flatMap eN2), c1 * 3⟩, ⟨B2, 55, (r_3.Gates.flatMap eN2), c2 * 3⟩] [⟨B, (aC.Gates.flatMap eN2)⟩] := hS4
  refine sQ 19 (ym (.tuple #[.agg #[vi r_3.Qubits, .slice B2 r_3.Gates.length c2], .bool r_4])) <| sQ 23 (ye (.agg #[vi r_3.Qubits, .slice B2 r_3.Gates.length c2])) <| sQ 24 (ye (.bool r_4)) ?_
  refine sS 4 (yN [vi 0, .slice none 0 0] 2 hS4 K34) ?_
  rintro _ w_4 ⟨b1, rfl, hS5⟩
  refine s0 (yT 3 2 (aD b1) 28 (.agg #[vi r_3.Qubits, .slice B2 r_3.Gates.length c2]) [vi r_3.Qubits, .slice B2 r_3.Gates.length c2] 0 hS5 K16) ?_
  rintro _ w_5 ⟨rfl, hS6⟩
  have hS6 : ST w0 [] _ [⟨aD b, 24, [vi aC.Qubits, .slice B aC.Gates.length c], 2⟩, ⟨B1, 55, (r_2.Gates.flatMap eN2), c1 * 3⟩, ⟨B2, 55, (r_3.Gates.flatMap eN2), c2 * 3⟩, ⟨aD b1, 28, [vi r_3.Qubits, .slice B2 r_3.Gates.length c2], 2⟩] [⟨B, (aC.Gates.flatMap eN2)⟩] := hS6
  refine sQ 5 (yg (.bool r_4)) (rn (cq (cr ?_)))
  refine sQ 25 (yb (aD b) 0 [vi aC.Qubits, .slice B aC.Gates.length c] K66 K67 (hS6.c 0)) ?_
  obtain ⟨r_5, hc3, hF2⟩ := bI hF2
  refine sc 26 rfl rfl (yC [.agg #[vi aC.Qubits, .slice B aC.Gates.length c]] K77 (c_laws_toCircuit aC B c aC.Gates.length _ rfl (hS6.inn0 [(true, 0)] rfl) hc3)) ?_
  rintro _ w_6 ⟨B3, c3, rfl, hd3⟩
  have hS7 := hS6.out0 hd3
  refine sS 6 (yN [vi 0, .slice none 0 0] 2 hS7 K34) ?_
  rintro _ w_7 ⟨b2, rfl, hS8⟩
  have hS8 : ST w0 [] _ [⟨aD b, 24, [vi aC.Qubits, .slice B aC.Gates.length c], 2⟩, ⟨B1, 55, (r_2.Gates.flatMap eN2), c1 * 3⟩, ⟨B2, 55, (r_3.Gates.flatMap eN2), c2 * 3⟩, ⟨aD b1, 28, [vi r_3.Qubits, .slice B2 r_3.Gates.length c2], 2⟩, ⟨B3, 55, (r_5.Gates.flatMap eN2), c3 * 3⟩, ⟨aD b2, 28, [vi 0, .slice none 0 0], 2⟩] [⟨B, (aC.Gates.flatMap eN2)⟩] := hS8
  refine s0 (yT 5 2 (aD b2) 28 (.agg #[vi r_5.Qubits, .slice B3 r_5.Gates.length c3]) [vi r_5.Qubits, .slice B3 r_5.Gates.length c3] 0 hS8 K16) ?_
  rintro _ w_8 ⟨rfl, hS9⟩
  refine rn (cq (cr ?_))
  refine sQ 28 (yb (aD b2) 0 [vi r_5.Qubits, .slice B3 r_5.Gates.length c3] K19 K16 (hS9.c 5)) ?_
  obtain ⟨⟨r_6, r_7⟩, hc4, hF2⟩ := bI hF2
  refine sc 29 rfl rfl (yC [.agg #[vi r_5.Qubits, .slice B3 r_5.Gates.length c3]] k_call_7 (c_impl_NormalizeClifford r_5 B3 c3 r_5.Gates.length _ rfl (hS9.inn0 [(false, 4)] rfl) hc4)) ?_
  rintro _ w_9 ⟨B4, c4, rfl, hd4⟩
  have hS10 := hS9.out0 hd4
  have hS10 : ST w0 [] _ [⟨aD b, 24, [vi aC.Qubits, .slice B aC.Gates.length c], 2⟩, ⟨B1, 55, (r_2.Gates.flatMap eN2), c1 * 3⟩, ⟨B2, 55, (r_3.Gates.flatMap eN2), c2 * 3⟩, ⟨aD b1, 28, [vi r_3.Qubits, .slice B2 r_3.Gates.length c2], 2⟩, ⟨B3, 55, (r_5.Gates.flatMap eN2), c3 * 3⟩, ⟨aD b2, 28, [vi r_5.Qubits, .slice B3 r_5.Gates.length c3], 2⟩, ⟨B4, 55, (r_6.Gates.flatMap eN2), c4 * 3⟩] [⟨B, (aC.Gates.flatMap eN2)⟩] := hS10
  refine sQ 27 (ym (.tuple #[.agg #[vi r_6.Qubits, .slice B4 r_6.Gates.length c4], .bool r_7])) <| sQ 30 (ye (.agg #[vi r_6.Qubits, .slice B4 r_6.Gates.length c4])) <| sQ 31 (ye (.bool r_7)) ?_
  refine sS 7 (yN [vi 0, .slice none 0 0] 2 hS10 K34) ?_
  rintro _ w_10 ⟨b3, rfl, hS11⟩
  refine s0 (yT 7 2 (aD b3) 28 (.agg #[vi r_6.Qubits, .slice B4 r_6.Gates.length c4]) [vi r_6.Qubits, .slice B4 r_6.Gates.length c4] 0 hS11 K16) ?_
  rintro _ w_11 ⟨rfl, hS12⟩
  have hS12 : ST w0 [] _ [⟨aD b, 24, [vi aC.Qubits, .slice B aC.Gates.length c], 2⟩, ⟨B1, 55, (r_2.Gates.flatMap eN2), c1 * 3⟩, ⟨B2, 55, (r_3.Gates.flatMap eN2), c2 * 3⟩, ⟨aD b1, 28, [vi r_3.Qubits, .slice B2 r_3.Gates.length c2], 2⟩, ⟨B3, 55, (r_5.Gates.flatMap eN2), c3 * 3⟩, ⟨aD b2, 28, [vi r_5.Qubits, .slice B3 r_5.Gates.length c3], 2⟩, ⟨B4, 55, (r_6.Gates.flatMap eN2), c4 * 3⟩, ⟨aD b3, 28, [vi r_6.Qubits, .slice B4 r_6.Gates.length c4], 2⟩] [⟨B, (aC.Gates.flatMap eN2)⟩] := hS12
  refine sQ 8 (yg (.bool r_7)) (rn (cq (cq (cr ?_))))
  refine sQ 32 (yb (aD b3) 0 [vi r_6.Qubits, .slice B4 r_6.Gates.length c4] K19 K16 (hS12.c 7)) <| sQ 33 (yb (aD b1) 0 [vi r_3.Qubits, .slice B2 r_3.Gates.length c2] K19 K16 (hS12.c 3)) ?_
  obtain ⟨r_8, hc5, hF2⟩ := bI hF2
  refine sc 34 rfl rfl (yC [.agg #[vi r_6.Qubits, .slice B4 r_6.Gates.length c4], .agg #[vi r_3.Qubits, .slice B2 r_3.Gates.length c2]] K78 (c_laws_eqCircuit r_6 r_3 B4 c4 r_6.Gates.length B2 c2 r_3.Gates.length _ rfl rfl (hS12.inn0 [(false, 6), (false, 2)] rfl) hc5)) ?_
  rintro _ w_12 ⟨rfl, hd5⟩
  have hS13 := hS12.out00 hd5
  refine sQ 35 (Y_not (p := r_8) rfl rfl) <| sQ 36 (ym (.bool (!r_8))) ?_
  refine sgq 37 (B := (!(!r_8))) (v := .bool r_7) rfl rfl (uF_ 36) (fun hg => (ym (.bool r_7))) ?_
  refine sgq 38 (B := (!(!r_8))) (v := .bool r_4) rfl rfl (uF_ 36) (fun hg1 => (ym (.bool r_4))) ?_
  refine sgq 39 (B := (!(!r_8))) (v := .bool (!(r_7 == r_4))) rfl rfl (uF_ 36) (fun hg2 => (Y_bne (p := r_7) (q := r_4) K75 rfl (gv_of (v := .bool r_7) hg2) (gv_of (v := .bool r_4) hg2))) ?_
  refine sQ 40 (Y_or (b := (!r_8)) (z := (!(r_7 == r_4))) rfl rfl rfl rfl) (rn ?_)
  refine cw_cond (b := ((!r_8) || (!(r_7 == r_4)))) rfl (fun hb1 => ?_) (fun hb1 => ?_)
  ·skip
   have hF3 := ct hF2 hb1
   refine cq (cr ?_)
   refine sQ 2 (yg (.bool false)) (rn (ct_ ?_))
   obtain rfl := sI hF3
   exact ret1 Try.results3 (v1 := .bool false) (resAt_tmp rfl) ⟨rfl, (hS13.sN [])⟩
  ·skip
   have hF4 := cf' hF2 hb1
   refine cw_skip (cq (cq ?_))
   obtain ⟨r_9, hc6, hF4⟩ := bI hF4
   obtain ⟨r_10, hc7, hF4⟩ := bI hF4
   refine ra_start (hS13.se [0, 1, 2, 3, 4, 5, 6, 7]).fn (by kernel_rfl) ?_
   have hS16 := hS13.drew
   refine rq 0 41 (v := .agg #[vi r_5.Qubits, .slice B3 r_5.Gates.length c3]) rfl (hS16.se [0, 1, 2, 3, 4, 5, 6, 7]) (fun w' hw' => (yb (aD b2) 0 [vi r_5.Qubits, .slice B3 r_5.Gates.length c3] K19 K16 (ST.cf hw' (i := 5) rfl))) ?_
   refine rq 1 42 (v := .agg #[vi aC.Qubits, .slice B aC.Gates.length c]) rfl (hS16.se [0, 1, 2, 3, 4, 5, 6, 7]) (fun w' hw' => (yb (aD b) 0 [vi aC.Qubits, .slice B aC.Gates.length c] K66 K67 (ST.cf hw' (i := 0) rfl))) ?_
   refine rA [2] ?_
   refine rC 43 2 rfl (yC [.agg #[vi aC.Qubits, .slice B aC.Gates.length c]] K77 (c_laws_toCircuit aC B c aC.Gates.length _ rfl (hS16.inn0 [(true, 0)] rfl) hc6)) ?_ ?_
   ·rintro _ w_13 ⟨B5, c5, rfl, hd6⟩
    have hS17 := hS16.out0 hd6
    have hS17 : ST w0 [] _ [⟨aD b, 24, [vi aC.Qubits, .slice B aC.Gates.length c], 2⟩, ⟨B1, 55, (r_2.Gates.flatMap eN2), c1 * 3⟩, ⟨B2, 55, (r_3.Gates.flatMap eN2), c2 * 3⟩, ⟨aD b1, 28, [vi r_3.Qubits, .slice B2 r_3.Gates.length c2], 2⟩, ⟨B3, 55, (r_5.Gates.flatMap eN2), c3 * 3⟩, ⟨aD b2, 28, [vi r_5.Qubits, .slice B3 r_5.Gates.length c3], 2⟩, ⟨B4, 55, (r_6.Gates.flatMap eN2), c4 * 3⟩, ⟨aD b3, 28, [vi r_6.Qubits, .slice B4 r_6.Gates.length c4], 2⟩, ⟨B5, 55, (r_9.Gates.flatMap eN2), c5 * 3⟩] [⟨B, (aC.Gates.flatMap eN2)⟩] := hS17
    refine ⟨(hS17.se [0, 1, 2, 3, 4, 5, 6, 7]), ?_⟩
    refine rA [3] ?_
    refine rC 44 3 rfl (yC [.agg #[vi r_5.Qubits, .slice B3 r_5.Gates.length c3], .agg #[vi r_9.Qubits, .slice B5 r_9.Gates.length c5]] K78 (c_laws_eqCircuit r_5 r_9 B3 c3 r_5.Gates.length B5 c5 r_9.Gates.length _ rfl rfl (hS17.inn0 [(false, 4), (false, 8)] rfl) hc7)) ?_ ?_
    ·rintro _ w_14 ⟨rfl, hd7⟩
     have hS18 := hS17.out00 hd7
     refine ⟨(hS18.se [0, 1, 2, 3, 4, 5, 6, 7]), ?_⟩
     refine rq 4 45 (v := .bool (!r_10)) rfl (hS18.se [0, 1, 2, 3, 4, 5, 6, 7]) (fun w' hw' => (Y_not (p := r_10) rfl rfl)) ?_
     refine ra_done (by kernel_rfl) ?_
     refine cw_cond (b := (!r_10)) rfl (fun hb2 => ?_) (fun hb2 => ?_)
     ·skip
      have hF5 := ct hF4 hb2
      refine cq (cr ?_)
      refine sQ 2 (yg (.bool false)) (rn (ct_ ?_))
      obtain rfl := sI hF5
      exact ret1 Try.results3 (v1 := .bool false) (resAt_tmp rfl) ⟨rfl, (hS18.sN [])⟩
     ·skip
      have hF6 := cf' hF4 hb2
      refine cw_skip (cq (cr ?_))
      refine sQ 9 (yg (vi 1)) (rn (cq (cr ?_)))
      refine sQ 46 (yb (aD b2) 0 [vi r_5.Qubits, .slice B3 r_5.Gates.length c3] K19 K16 (hS18.c 5)) <| sQ 47 (ym (vi 1)) ?_
      obtain ⟨⟨r_11, m⟩, hc8, hF6⟩ := bI hF6
      refine sc 48 rfl rfl (yC [.agg #[vi r_5.Qubits, .slice B3 r_5.Gates.length c3], vi 1] k_call_9 (c_laws_markCircuit r_5 1 B3 c3 r_5.Gates.length _ rfl (hS18.inn [false, false, false, false, true, false, false, false, false] rfl [] rfl) hc8)) ?_
      rintro _ w_15 ⟨rfl, hl, hd8⟩
      have hS19 := hS18.out [false, false, false, false, true, false, false, false, false] rfl hd8
      have hS19 : ST w0 [] _ [⟨aD b, 24, [vi aC.Qubits, .slice B aC.Gates.length c], 2⟩, ⟨B1, 55, (r_2.Gates.flatMap eN2), c1 * 3⟩, ⟨B2, 55, (r_3.Gates.flatMap eN2), c2 * 3⟩, ⟨aD b1, 28, [vi r_3.Qubits, .slice B2 r_3.Gates.length c2], 2⟩, ⟨aD b2, 28, [vi r_5.Qubits, .slice B3 r_5.Gates.length c3], 2⟩, ⟨B4, 55, (r_6.Gates.flatMap eN2), c4 * 3⟩, ⟨aD b3, 28, [vi r_6.Qubits, .slice B4 r_6.Gates.length c4], 2⟩, ⟨B5, 55, (r_9.Gates.flatMap eN2), c5 * 3⟩, ⟨B3, 55, (m.flatMap eN2), c3 * 3⟩] [⟨B, (aC.Gates.flatMap eN2)⟩] := hS19
      refine sQ 9 (yg (vi r_11)) (rn (cq (cq (cr ?_))))
      refine sQ 49 (ym (vi r_11)) <| sQ 50 (yL r_11 0) <| sQ 51 (ym (.bool (decide (r_11 < 0)))) ?_
      refine sgq 52 (B := (!(decide (r_11 < 0)))) (v := .agg #[vi r_6.Qubits, .slice B4 r_6.Gates.length c4]) rfl rfl (uF_ 51) (fun hg3 => (yb (aD b3) 0 [vi r_6.Qubits, .slice B4 r_6.Gates.length c4] K19 K16 (hS19.c 6))) ?_
      refine sgq 53 (B := (!(decide (r_11 < 0)))) (v := .agg #[vi r_3.Qubits, .slice B2 r_3.Gates.length c2]) rfl rfl (uF_ 51) (fun hg4 => (yb (aD b1) 0 [vi r_3.Qubits, .slice B2 r_3.Gates.length c2] K19 K16 (hS19.c 3))) ?_
      obtain ⟨r_12, hc9, hF6⟩ := bI hF6
      refine sgc 54 (B := (!(decide (r_11 < 0)))) (v := .bool r_12) (F := hS19.fn) rfl rfl (uF_ 51) hS19 (fun hg5 => (yC [.agg #[vi r_6.Qubits, .slice B4 r_6.Gates.length c4], .agg #[vi r_3.Qubits, .slice B2 r_3.Gates.length c2]] K78 (CV.mono (c_laws_eqCircuit r_6 r_3 B4 c4 r_6.Gates.length B2 c2 r_3.Gates.length _ rfl rfl (hS19.inn0 [(false, 5), (false, 2)] rfl) (gb_inv hc9 hg5)) (by rintro _ _ ⟨rfl, h⟩; exact ⟨rfl, hS19.out00 h⟩)) rfl (mc (gv_of (v := .agg #[vi r_6.Qubits, .slice B4 r_6.Gates.length c4]) hg5) (mc (gv_of (v := .agg #[vi r_3.Qubits, .slice B2 r_3.Gates.length c2]) hg5) mn)))) ?_
      rintro w_16 hS20
      refine sgq 55 (B := (!(decide (r_11 < 0)))) (v := .bool (!r_12)) rfl rfl (uF_ 51) (fun hg6 => (Y_not (p := r_12) rfl (gv_of (v := .bool r_12) hg6))) ?_
      refine sQ 56 (Y_or (b := (decide (r_11 < 0))) (z := (!r_12)) rfl rfl rfl rfl) <| sQ 57 (ym (.bool ((decide (r_11 < 0)) || (!r_12)))) ?_
      refine sgq 58 (B := (!((decide (r_11 < 0)) || (!r_12)))) (v := .bool r_7) rfl rfl (uF_ 57) (fun hg7 => (ym (.bool r_7))) ?_
      refine sgq 59 (B := (!((decide (r_11 < 0)) || (!r_12)))) (v := .bool r_4) rfl rfl (uF_ 57) (fun hg8 => (ym (.bool r_4))) ?_
      refine sgq 60 (B := (!((decide (r_11 < 0)) || (!r_12)))) (v := .bool (!(r_7 == r_4))) rfl rfl (uF_ 57) (fun hg9 => (Y_bne (p := r_7) (q := r_4) K75 rfl (gv_of (v := .bool r_7) hg9) (gv_of (v := .bool r_4) hg9))) ?_
      refine sQ 61 (Y_or (b := ((decide (r_11 < 0)) || (!r_12))) (z := (!(r_7 == r_4))) rfl rfl rfl rfl) (rn ?_)
      refine cw_cond (b := (((decide (r_11 < 0)) || (!r_12)) || (!(r_7 == r_4)))) rfl (fun hb3 => ?_) (fun hb3 => ?_)
      ·skip
       have hF7 := ct hF6 hb3
       refine cq (cr ?_)
       refine sQ 2 (yg (.bool false)) (rn (ct_ ?_))
       obtain rfl := sI hF7
       exact ret1 Try.results3 (v1 := .bool false) (resAt_tmp rfl) ⟨rfl, (hS20.sN [])⟩
      ·skip
       have hF8 := cf' hF6 hb3
       refine cw_skip (cq (cr ?_))
       refine sQ 10 (yg (vi 1)) (rn (cq (cr ?_)))
       refine sQ 62 (yb (aD b3) 0 [vi r_6.Qubits, .slice B4 r_6.Gates.length c4] K19 K16 (hS20.c 6)) <| sQ 63 (ym (vi 1)) ?_
       obtain ⟨⟨r_13, m1⟩, hc10, hF8⟩ := bI hF8
       refine sc 64 rfl rfl (yC [.agg #[vi r_6.Qubits, .slice B4 r_6.Gates.length c4], vi 1] k_call_9 (c_laws_markCircuit r_6 1 B4 c4 r_6.Gates.length _ rfl (hS20.inn [false, false, false, false, false, true, false, false, false] rfl [] rfl) hc10)) ?_
       rintro _ w_17 ⟨rfl, hl1, hd9⟩
       have hS21 := hS20.out [false, false, false, false, false, true, false, false, false] rfl hd9
       have hS21 : ST w0 [] _ [⟨aD b, 24, [vi aC.Qubits, .slice B aC.Gates.length c], 2⟩, ⟨B1, 55, (r_2.Gates.flatMap eN2), c1 * 3⟩, ⟨B2, 55, (r_3.Gates.flatMap eN2), c2 * 3⟩, ⟨aD b1, 28, [vi r_3.Qubits, .slice B2 r_3.Gates.length c2], 2⟩, ⟨aD b2, 28, [vi r_5.Qubits, .slice B3 r_5.Gates.length c3], 2⟩, ⟨aD b3, 28, [vi r_6.Qubits, .slice B4 r_6.Gates.length c4], 2⟩, ⟨B5, 55, (r_9.Gates.flatMap eN2), c5 * 3⟩, ⟨B3, 55, (m.flatMap eN2), c3 * 3⟩, ⟨B4, 55, (m1.flatMap eN2), c4 * 3⟩] [⟨B, (aC.Gates.flatMap eN2)⟩] := hS21
       refine sQ 10 (yg (vi r_13)) (rn (cq (cr ?_)))
       refine sQ 11 (yg (vi 1)) (rn (cq (cr ?_)))
       refine sQ 65 (yb (aD b3) 0 [vi r_6.Qubits, .slice B4 r_6.Gates.length c4] K19 K16 (hS21.c 5)) <| sQ 66 (ym (vi 1)) ?_
       obtain ⟨r_14, hc11, hF8⟩ := bI hF8
       refine sc 67 rfl rfl (yC [.agg #[vi r_6.Qubits, .slice B4 r_6.Gates.length c4], vi 1] k_call_10 (c_laws_heldCircuit (TCircuit.mk r_6.Qubits m1) 1 B4 c4 r_6.Gates.length _ hl1 (hS21.inn0 [(false, 8)] rfl) hc11)) ?_
       rintro _ w_18 ⟨rfl, hd10⟩
       have hS22 := hS21.out00 hd10
       refine sQ 11 (yg (vi r_14)) (rn (cq (cq (cr ?_))))
       refine sQ 68 (ym (vi r_14)) <| sQ 69 (yL r_14 0) (rn ?_)
       refine cw_cond (b := (decide (r_14 < 0))) rfl (fun hb4 => ?_) (fun hb4 => ?_)
       ·skip
        have hF9 := ct hF8 hb4
        refine cq (cr ?_)
        refine sQ 2 (yg (.bool false)) (rn (ct_ ?_))
        obtain rfl := sI hF9
        exact ret1 Try.results3 (v1 := .bool false) (resAt_tmp rfl) ⟨rfl, (hS22.sN [])⟩
       ·skip
        have hF10 := cf' hF8 hb4
        refine cw_skip (cq (cq (cr ?_)))
        refine sQ 70 (ym (vi r_14)) <| sQ 71 (ym (vi r_13)) <| sQ 72 (Y_ne (k := .i64) (a := r_14) (b := r_13) rfl rfl rfl) (rn ?_)
        refine cw_cond (b := (r_14 != r_13)) rfl (fun hb5 => ?_) (fun hb5 => ?_)
        ·skip
         have hF11 := ct hF10 hb5
         refine cq (cr ?_)
         refine sQ 2 (yg (.bool false)) (rn (ct_ ?_))
         obtain rfl := sI hF11
         exact ret1 Try.results3 (v1 := .bool false) (resAt_tmp rfl) ⟨rfl, (hS22.sN [])⟩
        ·skip
         have hF12 := cf' hF10 hb5
         refine cw_skip (cq (cr ?_))
         refine sQ 74 (yb (aD b) 0 [vi aC.Qubits, .slice B aC.Gates.length c] K66 K67 (hS22.c 0)) ?_
         obtain ⟨r_15, hc12, hF12⟩ := bI hF12
         refine sc 75 rfl rfl (yC [.agg #[vi aC.Qubits, .slice B aC.Gates.length c]] K77 (c_laws_toCircuit aC B c aC.Gates.length _ rfl (hS22.inn0 [(true, 0)] rfl) hc12)) ?_
         rintro _ w_19 ⟨B6, c6, rfl, hd11⟩
         have hS23 := hS22.out0 hd11
         have hS23 : ST w0 [] _ [⟨aD b, 24, [vi aC.Qubits, .slice B aC.Gates.length c], 2⟩, ⟨B1, 55, (r_2.Gates.flatMap eN2), c1 * 3⟩, ⟨B2, 55, (r_3.Gates.flatMap eN2), c2 * 3⟩, ⟨aD b1, 28, [vi r_3.Qubits, .slice B2 r_3.Gates.length c2], 2⟩, ⟨aD b2, 28, [vi r_5.Qubits, .slice B3 r_5.Gates.length c3], 2⟩, ⟨aD b3, 28, [vi r_6.Qubits, .slice B4 r_6.Gates.length c4], 2⟩, ⟨B5, 55, (r_9.Gates.flatMap eN2), c5 * 3⟩, ⟨B3, 55, (m.flatMap eN2), c3 * 3⟩, ⟨B4, 55, (m1.flatMap eN2), c4 * 3⟩, ⟨B6, 55, (r_15.Gates.flatMap eN2), c6 * 3⟩] [⟨B, (aC.Gates.flatMap eN2)⟩] := hS23
         obtain ⟨⟨r_16, r_17⟩, hc13, hF12⟩ := bI hF12
         refine sc 76 rfl rfl (yC [.agg #[vi r_15.Qubits, .slice B6 r_15.Gates.length c6]] k_call_7 (c_impl_NormalizeClifford r_15 B6 c6 r_15.Gates.length _ rfl (hS23.inn0 [(false, 9)] rfl) hc13)) ?_
         rintro _ w_20 ⟨B7, c7, rfl, hd12⟩
         have hS24 := hS23.out0 hd12
         refine sQ 73 (ym (.tuple #[.agg #[vi r_16.Qubits, .slice B7 r_16.Gates.length c7], .bool r_17])) <| sQ 77 (ye (.agg #[vi r_16.Qubits, .slice B7 r_16.Gates.length c7])) <| sQ 78 (ye (.bool r_17)) ?_
         refine sS 12 (yN [vi 0, .slice none 0 0] 2 hS24 K34) ?_
         rintro _ w_21 ⟨b4, rfl, hS25⟩
         have hS25 : ST w0 [] _ [⟨aD b, 24, [vi aC.Qubits, .slice B aC.Gates.length c], 2⟩, ⟨B1, 55, (r_2.Gates.flatMap eN2), c1 * 3⟩, ⟨B2, 55, (r_3.Gates.flatMap eN2), c2 * 3⟩, ⟨aD b1, 28, [vi r_3.Qubits, .slice B2 r_3.Gates.length c2], 2⟩, ⟨aD b2, 28, [vi r_5.Qubits, .slice B3 r_5.Gates.length c3], 2⟩, ⟨aD b3, 28, [vi r_6.Qubits, .slice B4 r_6.Gates.length c4], 2⟩, ⟨B5, 55, (r_9.Gates.flatMap eN2), c5 * 3⟩, ⟨B3, 55, (m.flatMap eN2), c3 * 3⟩, ⟨B4, 55, (m1.flatMap eN2), c4 * 3⟩, ⟨B6, 55, (r_15.Gates.flatMap eN2), c6 * 3⟩, ⟨B7, 55, (r_16.Gates.flatMap eN2), c7 * 3⟩, ⟨aD b4, 28, [vi 0, .slice none 0 0], 2⟩] [⟨B, (aC.Gates.flatMap eN2)⟩] := hS25
         refine s0 (yT 11 2 (aD b4) 28 (.agg #[vi r_16.Qubits, .slice B7 r_16.Gates.length c7]) [vi r_16.Qubits, .slice B7 r_16.Gates.length c7] 0 hS25 K16) ?_
         rintro _ w_22 ⟨rfl, hS26⟩
         refine sQ 13 (yg (.bool r_17)) (rn (cq (cq (cr ?_))))
         refine sQ 79 (yb (aD b4) 0 [vi r_16.Qubits, .slice B7 r_16.Gates.length c7] K19 K16 (hS26.c 11)) <| sQ 80 (yb (aD b1) 0 [vi r_3.Qubits, .slice B2 r_3.Gates.length c2] K19 K16 (hS26.c 3)) ?_
         obtain ⟨r_18, hc14, hF12⟩ := bI hF12
         refine sc 81 rfl rfl (yC [.agg #[vi r_16.Qubits, .slice B7 r_16.Gates.length c7], .agg #[vi r_3.Qubits, .slice B2 r_3.Gates.length c2]] K78 (c_laws_eqCircuit r_16 r_3 B7 c7 r_16.Gates.length B2 c2 r_3.Gates.length _ rfl rfl (hS26.inn0 [(false, 10), (false, 2)] rfl) hc14)) ?_
         rintro _ w_23 ⟨rfl, hd13⟩
         have hS27 := hS26.out00 hd13
         have hS27 : ST w0 [] _ [⟨aD b, 24, [vi aC.Qubits, .slice B aC.Gates.length c], 2⟩, ⟨B1, 55, (r_2.Gates.flatMap eN2), c1 * 3⟩, ⟨B2, 55, (r_3.Gates.flatMap eN2), c2 * 3⟩, ⟨aD b1, 28, [vi r_3.Qubits, .slice B2 r_3.Gates.length c2], 2⟩, ⟨aD b2, 28, [vi r_5.Qubits, .slice B3 r_5.Gates.length c3], 2⟩, ⟨aD b3, 28, [vi r_6.Qubits, .slice B4 r_6.Gates.length c4], 2⟩, ⟨B5, 55, (r_9.Gates.flatMap eN2), c5 * 3⟩, ⟨B3, 55, (m.flatMap eN2), c3 * 3⟩, ⟨B4, 55, (m1.flatMap eN2), c4 * 3⟩, ⟨B6, 55, (r_15.Gates.flatMap eN2), c6 * 3⟩, ⟨B7, 55, (r_16.Gates.flatMap eN2), c7 * 3⟩, ⟨aD b4, 28, [vi r_16.Qubits, .slice B7 r_16.Gates.length c7], 2⟩] [⟨B, (aC.Gates.flatMap eN2)⟩] := hS27
         refine sQ 82 (Y_not (p := r_18) rfl rfl) <| sQ 83 (ym (.bool (!r_18))) ?_
         refine sgq 84 (B := (!(!r_18))) (v := .bool r_17) rfl rfl (uF_ 83) (fun hg10 => (ym (.bool r_17))) ?_
         refine sgq 85 (B := (!(!r_18))) (v := .bool r_4) rfl rfl (uF_ 83) (fun hg11 => (ym (.bool r_4))) ?_
         refine sgq 86 (B := (!(!r_18))) (v := .bool (!(r_17 == r_4))) rfl rfl (uF_ 83) (fun hg12 => (Y_bne (p := r_17) (q := r_4) K75 rfl (gv_of (v := .bool r_17) hg12) (gv_of (v := .bool r_4) hg12))) ?_
         refine sQ 87 (Y_or (b := (!r_18)) (z := (!(r_17 == r_4))) rfl rfl rfl rfl) (rn ?_)
         refine cw_cond (b := ((!r_18) || (!(r_17 == r_4)))) rfl (fun hb6 => ?_) (fun hb6 => ?_)
         ·skip
          have hF13 := ct hF12 hb6
          refine cq (cr ?_)
          refine sQ 2 (yg (.bool false)) (rn (ct_ ?_))
          obtain rfl := sI hF13
          exact ret1 Try.results3 (v1 := .bool false) (resAt_tmp rfl) ⟨rfl, (hS27.sN [])⟩
         ·skip
          have hF14 := cf' hF12 hb6
          refine cw_skip (cq (cr ?_))
          refine sQ 11 (yg (vi 1)) (rn (cq (cr ?_)))
          refine sQ 88 (yb (aD b3) 0 [vi r_6.Qubits, .slice B4 r_6.Gates.length c4] K19 K16 (hS27.c 5)) <| sQ 89 (ym (vi 1)) ?_
          obtain ⟨r_19, hc15, hF14⟩ := bI hF14
          refine sc 90 rfl rfl (yC [.agg #[vi r_6.Qubits, .slice B4 r_6.Gates.length c4], vi 1] k_call_10 (c_laws_heldCircuit (TCircuit.mk r_6.Qubits m1) 1 B4 c4 r_6.Gates.length _ hl1 (hS27.inn0 [(false, 8)] rfl) hc15)) ?_
          rintro _ w_24 ⟨rfl, hd14⟩
          have hS28 := hS27.out00 hd14
          refine sQ 11 (yg (vi r_19)) (rn (cq (cq (cr ?_))))
          refine sQ 91 (ym (vi r_19)) <| sQ 92 (yL r_19 0) (rn ?_)
          refine cw_cond (b := (decide (r_19 < 0))) rfl (fun hb7 => ?_) (fun hb7 => ?_)
          ·skip
           have hF15 := ct hF14 hb7
           refine cq (cr ?_)
           refine sQ 2 (yg (.bool false)) (rn (ct_ ?_))
           obtain rfl := sI hF15
           exact ret1 Try.results3 (v1 := .bool false) (resAt_tmp rfl) ⟨rfl, (hS28.sN [])⟩
          ·skip
           have hF16 := cf' hF14 hb7
           refine cw_skip (cq (cq (cr ?_)))
           refine sQ 93 (ym (vi r_19)) <| sQ 94 (ym (vi r_13)) <| sQ 95 (Y_ne (k := .i64) (a := r_19) (b := r_13) rfl rfl rfl) (rn ?_)
           refine cw_cond (b := (r_19 != r_13)) rfl (fun hb8 => ?_) (fun hb8 => ?_)
           ·skip
            have hF17 := ct hF16 hb8
            refine cq (cr ?_)
            refine sQ 2 (yg (.bool false)) (rn (ct_ ?_))
            obtain rfl := sI hF17
            exact ret1 Try.results3 (v1 := .bool false) (resAt_tmp rfl) ⟨rfl, (hS28.sN [])⟩
           ·skip
            have hF18 := cf' hF16 hb8
            refine cw_skip (cq (cr ?_))
            refine sQ 2 (yg (.bool true)) (rn (ct_ ?_))
            obtain rfl := sI hF18
            exact ret1 Try.results3 (v1 := .bool true) (resAt_tmp rfl) ⟨rfl, (hS28.sN [])⟩
    exact aN
   exact aN
end Go.VK
