/- Walks: each Go function returns what its Lean function says. By program. -/
import Derived.Test.YtgacclcoghlhmaaNormalizeCliffordFa
import Derived.Test.YtgacclcoghlhmaaNormalizeCliffordShelf
import Derived.Test.YtgacclcoghlhmaaLibQ
import Derived.Test.YtgacclcoghlhmaaNormalizeCliffordW1
set_option linter.unusedVariables false
set_option maxRecDepth 100000
set_option maxHeartbeats 4000000
namespace Go.VK
open Go.RowKit
open Go.Proofs
open Go.IntKind
attribute [local irreducible] CW RW RA CV Y Yw Yc Ys RetOf
attribute [local irreducible] F_spec_l7Clifford F_spec_l7Letter F_spec_l7Then F_spec_l7Identity F_spec_l7Gate F_spec_l8R_add F_spec_l8Synthesize F_spec_l7Of F_spec_NormalizeClifford F_laws_toGate F_laws_toGateS F_laws_toCircuit F_impl_within F_slices_IndexFunc_impl_Gate_impl_Gate F_slices_ContainsFunc_impl_Gate_impl_Gate F_impl_isTwo F_impl_IsValidGate F_impl_IsValidCircuit_1 F_impl_IsValidCircuit F_impl_counted F_impl_isT F_impl_CountT
theorem c_spec_l8Synthesize (t : TTableau) (B : Option Addr) (c n : Nat) (B1 : Option Addr) (c1 n1 : Nat) (w0 : World) (hn : t.XImages.length = n) (hq : n ≤ c) (hn1 : t.ZImages.length = n1) (hq1 : n1 ≤ c1) (hS : ST w0 [] w0 [] [⟨B, (t.XImages.flatMap eN0)⟩, ⟨B1, (t.ZImages.flatMap eN0)⟩]) {r_ : TCircuit} (hF : F_spec_l8Synthesize t = some r_) :
  CV Try.prog 13 #[.agg #[vi t.Qubits, .slice B n c, .slice B1 n1 c1]] w0 (fun v w' => ∃ (B2 : Option Addr) (c2 : Nat), v = .agg #[vi r_.Qubits, .slice B2 r_.Gates.length c2] ∧ ST w0 [] w' [⟨B2, 55, (r_.Gates.flatMap eN2), c2 * 3⟩] []) := by
 subst hn
 subst hn1
 unfold F_spec_l8Synthesize at hF
 refine cv_of_cw 73 Try.func13 rfl Try.ntmps13 rfl ?_
 refine cq (cr ?_)
 refine sS 1 (yB 40 (.agg #[vi t.Qubits, .slice B t.XImages.length c, .slice B1 t.ZImages.length c1]) [vi t.Qubits, .slice B t.XImages.length c, .slice B1 t.ZImages.length c1] 3 hS) ?_
 rintro _ w_ ⟨b, rfl, hS1⟩
 refine sS 2 (yN [vi 0, .slice none 0 0] 2 hS1 K34) ?_
 rintro _ w_1 ⟨b1, rfl, hS2⟩
 refine rn (cq (cr ?_))
 refine sQ 7 (yb (aD b) 0 [vi t.Qubits, .slice B t.XImages.length c, .slice B1 t.ZImages.length c1] K20 K10 (hS2.c 0)) <| sQ 8 (Y_buildS (zs := [vi 0, .slice none 0 0, .slice none 0 0, .slice none 0 0]) (vs := [(0, .agg #[vi t.Qubits, .slice B t.XImages.length c, .slice B1 t.ZImages.length c1])]) (cs := [vi t.Qubits, .slice B t.XImages.length c, .slice B1 t.ZImages.length c1, .slice none 0 0]) k_pl_52 k_zero_52 rfl (mpc rfl mpn) rfl) ?_
 refine sS 9 (yB 52 (.agg #[vi t.Qubits, .slice B t.XImages.length c, .slice B1 t.ZImages.length c1, .slice none 0 0]) [vi t.Qubits, .slice B t.XImages.length c, .slice B1 t.ZImages.length c1, .slice none 0 0] 4 hS2) ?_
 rintro _ w_2 ⟨b2, rfl, hS3⟩
 refine sQ 3 (yg (pt (aD b2) 0)) (rn (cq (cq (cr ?_))))
 refine sQ 4 (yg (vi 0)) (rn ?_)
 obtain ⟨z, hz, hF1⟩ := bI hF
 have hS5 := hS3.addNil 55
 have hS6 : ST w0 [] _ [⟨aD b, 40, [vi t.Qubits, .slice B t.XImages.length c, .slice B1 t.ZImages.length c1], 3⟩, ⟨aD b1, 28, [vi 0, .slice none 0 0], 2⟩, ⟨aD b2, 52, [vi t.Qubits, .slice B t.XImages.length c, .slice B1 t.ZImages.length c1, .slice none 0 0], 4⟩, ⟨none, 55, ([].flatMap eN2), 0 * 3⟩] [⟨B1, (t.ZImages.flatMap eN0)⟩, ⟨B, (t.XImages.flatMap eN0)⟩, ⟨B, (t.XImages.flatMap eN0)⟩, ⟨B1, (t.ZImages.flatMap eN0)⟩] := ST.subR hS5 (sk 1 (sk 0 (sk 0 (sk 1 (fun _ h => by cases h)))))
 refine cw_block ?_
 refine cw_loop (fun k f w => ∃ (Qubits : Int) (XImages : List TPauli) (ZImages : List TPauli) (out : List TGate) (q1 : Int) (B3 : Option Addr) (c3 : Nat) (B4 : Option Addr) (c4 : Nat) (B5 : Option Addr) (c5 : Nat), FF f [(1, pt (aD b) 0), (2, pt (aD b1) 0), (3, pt (aD b2) 0), (4, vi q1)] ∧ Org w0 [] [⟨B, (t.XImages.flatMap eN0)⟩, ⟨B1, (t.ZImages.flatMap eN0)⟩] [⟨B3, (XImages.flatMap eN0)⟩] ∧ XImages.length ≤ c3 ∧ Org w0 [] [⟨B, (t.XImages.flatMap eN0)⟩, ⟨B1, (t.ZImages.flatMap eN0)⟩] [⟨B4, (ZImages.flatMap eN0)⟩] ∧ ZImages.length ≤ c4 ∧ ST w0 [] w [⟨aD b, 40, [vi t.Qubits, .slice B t.XImages.length c, .slice B1 t.ZImages.length c1], 3⟩, ⟨aD b1, 28, [vi 0, .slice none 0 0], 2⟩, ⟨aD b2, 52, [vi Qubits, .slice B3 XImages.length c3, .slice B4 ZImages.length c4, .slice B5 out.length c5], 4⟩, ⟨B5, 55, (out.flatMap eN2), c5 * 3⟩] [⟨B4, (ZImages.flatMap eN0)⟩, ⟨B3, (XImages.flatMap eN0)⟩, ⟨B, (t.XImages.flatMap eN0)⟩, ⟨B1, (t.ZImages.flatMap eN0)⟩] ∧ whX (F_spec_l8Synthesize_l1 t) k (Qubits, XImages, ZImages, out, q1) = some z) fuel ⟨t.Qubits, t.XImages, t.ZImages, [], 0, B, c, B1, c1, none, 0, (fc rfl (fc rfl (fc rfl (fc rfl fn_)))), (org_mem (i := 0) rfl), (len_le rfl hq), (org_mem (i := 1) rfl), (len_le rfl hq1), (hS6.sel [0, 1, 2, 3] rfl rfl), hz⟩ ?_
 rintro k_ f w ⟨Qubits, XImages, ZImages, out, q1, B3, c3, B4, c4, B5, c5, hf, ho, hq2, ho1, hq3, hS4, hL⟩
 obtain ⟨K7, y, rfl, hb, hL1⟩ := whX_go hL
 unfold F_spec_l8Synthesize_l1 at hb
 refine cq (cq (cr ?_))
 refine sQ 10 (ym (vi q1) rfl (hf.g 4 3)) <| sQ 11 (yd (aD b) 0 0 K30 K3 rfl (hf.g 1 0)) <| sQ 12 (yl (aD b) 0 [vi t.Qubits, .slice B t.XImages.length c, .slice B1 t.ZImages.length c1] (vi t.Qubits) K4 (hS4.c 0)) <| sQ 13 (yL q1 t.Qubits) (rn ?_)
 refine cw_cond (b := (decide (q1 < t.Qubits))) rfl (fun hb1 => ?_) (fun hb1 => ?_)
 ·skip
  have hF2 := ct hb hb1
  refine cw_skip (cq (cw_block (cr ?_)))
  refine sQ 16 (ym (pt (aD b2) 0) rfl (hf.g 3 2)) <| sQ 17 (ym (vi q1) rfl (hf.g 4 3)) ?_
  obtain ⟨⟨Qubits1, XImages1, ZImages1, out1⟩, hc32, hF2⟩ := bI hF2
  refine sc 18 rfl rfl (Yc_func (g := 22) (vs := [pt (aD b2) 0, vi q1]) (R := fun v w' => ∃ (B6 : Option Addr) (c6 : Nat) (B7 : Option Addr) (c7 : Nat) (B8 : Option Addr) (c8 : Nat), v = .tuple #[] ∧ Org w0 [] [⟨B, (t.XImages.flatMap eN0)⟩, ⟨B1, (t.ZImages.flatMap eN0)⟩] [⟨B6, (XImages1.flatMap eN0)⟩] ∧ XImages1.length ≤ c6 ∧ Org w0 [] [⟨B, (t.XImages.flatMap eN0)⟩, ⟨B1, (t.ZImages.flatMap eN0)⟩] [⟨B7, (ZImages1.flatMap eN0)⟩] ∧ ZImages1.length ≤ c7 ∧ ST w0 [] w' [⟨aD b, 40, [vi t.Qubits, .slice B t.XImages.length c, .slice B1 t.ZImages.length c1], 3⟩, ⟨aD b1, 28, [vi 0, .slice none 0 0], 2⟩, ⟨aD b2, 52, [vi Qubits1, .slice B6 XImages1.length c6, .slice B7 ZImages1.length c7, .slice B8 out1.length c8], 4⟩, ⟨B8, 55, (out1.flatMap eN2), c8 * 3⟩] [⟨B7, (ZImages1.flatMap eN0)⟩, ⟨B6, (XImages1.flatMap eN0)⟩, ⟨B4, (ZImages.flatMap eN0)⟩, ⟨B3, (XImages.flatMap eN0)⟩, ⟨B, (t.XImages.flatMap eN0)⟩, ⟨B1, (t.ZImages.flatMap eN0)⟩]) k_call_22 rfl (mc rfl (mc rfl mn)) ?cv) ?_
  case cv =>
   show CV Try.prog 22 #[pt (aD b2) 0, vi q1] _ _
   refine cv_of_cw 115 Try.func22 rfl Try.ntmps22 rfl ?_
   refine cq (cr ?_)
   refine sQ 6 (ym (pt (aD b2) 0)) <| sQ 7 (ym (vi q1)) <| sQ 8 (ym (vi q1)) ?_
   obtain ⟨⟨Qubits20, XImages20, ZImages20, out20⟩, hc39, hc32⟩ := bI hc32
   refine sc 9 rfl rfl (Yc_func (g := 37) (vs := [pt (aD b2) 0, .bool true, vi q1, vi q1]) (R := fun v w' => ∃ (B105 : Option Addr) (c105 : Nat) (B106 : Option Addr) (c106 : Nat) (B107 : Option Addr) (c107 : Nat), v = .tuple #[] ∧ XImages20.length = XImages20.length ∧ Org w0 [] [⟨B, (t.XImages.flatMap eN0)⟩, ⟨B1, (t.ZImages.flatMap eN0)⟩] [⟨B105, (XImages20.flatMap eN0)⟩] ∧ XImages20.length ≤ c105 ∧ ZImages20.length = ZImages20.length ∧ Org w0 [] [⟨B, (t.XImages.flatMap eN0)⟩, ⟨B1, (t.ZImages.flatMap eN0)⟩] [⟨B106, (ZImages20.flatMap eN0)⟩] ∧ ZImages20.length ≤ c106 ∧ out20.length = out20.length ∧ ST w0 [] w' [⟨aD b, 40, [vi t.Qubits, .slice B t.XImages.length c, .slice B1 t.ZImages.length c1], 3⟩, ⟨aD b1, 28, [vi 0, .slice none 0 0], 2⟩, ⟨aD b2, 52, [vi Qubits20, .slice B105 XImages20.length c105, .slice B106 ZImages20.length c106, .slice B107 out20.length c107], 4⟩, ⟨B107, 55, (out20.flatMap eN2), c107 * 3⟩] [⟨B106, (ZImages20.flatMap eN0)⟩, ⟨B105, (XImages20.flatMap eN0)⟩, ⟨B4, (ZImages.flatMap eN0)⟩, ⟨B3, (XImages.flatMap eN0)⟩, ⟨B, (t.XImages.flatMap eN0)⟩, ⟨B1, (t.ZImages.flatMap eN0)⟩]) k_call_37 rfl (mc rfl (mc rfl (mc rfl (mc rfl mn)))) ?cv) ?_
   case cv =>
    show CV Try.prog 37 #[pt (aD b2) 0, .bool true, vi q1, vi q1] _ _
    refine cv_of_cw 39 Try.func37 rfl Try.ntmps37 rfl ?_
    refine cq (cr ?_)
    refine sQ 9 (ym (vi q1)) <| sQ 8 (yg (vi q1)) (rn ?_)
    obtain ⟨z19, hz19, hF59⟩ := bI hc39
    have hS118 : ST w0 [] _ [⟨aD b, 40, [vi t.Qubits, .slice B t.XImages.length c, .slice B1 t.ZImages.length c1], 3⟩, ⟨aD b1, 28, [vi 0, .slice none 0 0], 2⟩, ⟨aD b2, 52, [vi Qubits, .slice B3 XImages.length c3, .slice B4 ZImages.length c4, .slice B5 out.length c5], 4⟩, ⟨B5, 55, (out.flatMap eN2), c5 * 3⟩] [⟨B4, (ZImages.flatMap eN0)⟩, ⟨B3, (XImages.flatMap eN0)⟩, ⟨B4, (ZImages.flatMap eN0)⟩, ⟨B3, (XImages.flatMap eN0)⟩, ⟨B, (t.XImages.flatMap eN0)⟩, ⟨B1, (t.ZImages.flatMap eN0)⟩] := ST.subR hS4 (sk 0 (sk 1 (sk 0 (sk 1 (sk 2 (sk 3 (fun _ h => by cases h)))))))
    refine cw_block ?_
    refine cw_loop (fun k f w => ∃ (Qubits24 : Int) (XImages24 : List TPauli) (ZImages24 : List TPauli) (out24 : List TGate) (s5 : Int) (B123 : Option Addr) (c123 : Nat) (B124 : Option Addr) (c124 : Nat) (B125 : Option Addr) (c125 : Nat), FF f [(0, pt (aD b2) 0), (1, .bool true), (2, vi q1), (8, vi s5)] ∧ Org w0 [] [⟨B, (t.XImages.flatMap eN0)⟩, ⟨B1, (t.ZImages.flatMap eN0)⟩] [⟨B123, (XImages24.flatMap eN0)⟩] ∧ XImages24.length ≤ c123 ∧ Org w0 [] [⟨B, (t.XImages.flatMap eN0)⟩, ⟨B1, (t.ZImages.flatMap eN0)⟩] [⟨B124, (ZImages24.flatMap eN0)⟩] ∧ ZImages24.length ≤ c124 ∧ ST w0 [] w [⟨aD b2, 52, [vi Qubits24, .slice B123 XImages24.length c123, .slice B124 ZImages24.length c124, .slice B125 out24.length c125], 4⟩, ⟨B125, 55, (out24.flatMap eN2), c125 * 3⟩, ⟨aD b, 40, [vi t.Qubits, .slice B t.XImages.length c, .slice B1 t.ZImages.length c1], 3⟩, ⟨aD b1, 28, [vi 0, .slice none 0 0], 2⟩] [⟨B124, (ZImages24.flatMap eN0)⟩, ⟨B123, (XImages24.flatMap eN0)⟩, ⟨B4, (ZImages.flatMap eN0)⟩, ⟨B3, (XImages.flatMap eN0)⟩, ⟨B, (t.XImages.flatMap eN0)⟩, ⟨B1, (t.ZImages.flatMap eN0)⟩] ∧ whX (F_spec_l8Synthesize_l2 q1) k (Qubits24, XImages24, ZImages24, out24, s5) = some z19) fuel ⟨Qubits, XImages, ZImages, out, q1, B3, c3, B4, c4, B5, c5, (fc rfl (fc rfl (fc rfl (fc rfl fn_)))), ho, (len_le rfl hq2), ho1, (len_le rfl hq3), (hS118.sel [2, 3, 0, 1] rfl rfl), hz19⟩ ?_
    rintro k_14 f w ⟨Qubits24, XImages24, ZImages24, out24, s5, B123, c123, B124, c124, B125, c125, hf33, ho50, hq34, ho51, hq35, hS117, hL14⟩
    obtain ⟨K72, y7, rfl, hb27, hL15⟩ := whX_go hL14
    unfold F_spec_l8Synthesize_l2 at hb27
    refine cq (cq (cr ?_))
    refine sQ 10 (ym (vi s5) rfl (hf33.g 8 3)) <| sQ 11 (ym (pt (aD b2) 0) rfl (hf33.g 0 0)) <| sQ 12 (Y_nilCheck (B := aD b2) (i := 0) rfl rfl) <| sQ 13 (yd (aD b2) 0 2 K32 K10) <| sQ 14 (yd (aD b2) 0 0 K30 K3) <| sQ 15 (yl (aD b2) 0 [vi Qubits24, .slice B123 XImages24.length c123, .slice B124 ZImages24.length c124, .slice B125 out24.length c125] (vi Qubits24) K4 (hS117.c 0)) ?_
    refine sQ 16 (yL s5 Qubits24) (rn ?_)
    refine cw_cond (b := (decide (s5 < Qubits24))) rfl (fun hb28 => ?_) (fun hb28 => ?_)
    ·skip
     have hF60 := ct hb27 hb28
     refine cw_skip (cq ?_)
     obtain ⟨z20, hz20, hF61⟩ := bI hF60
     refine cw_mid (fun f w => ∃ (Qubits25 : Int) (XImages25 : List TPauli) (ZImages25 : List TPauli) (out25 : List TGate) (B126 : Option Addr) (c126 : Nat) (B127 : Option Addr) (c127 : Nat) (B128 : Option Addr) (c128 : Nat), (Qubits25, XImages25, ZImages25, out25) = z20 ∧ FF f [(0, pt (aD b2) 0), (1, .bool true), (2, vi q1), (8, vi s5)] ∧ Org w0 [] [⟨B, (t.XImages.flatMap eN0)⟩, ⟨B1, (t.ZImages.flatMap eN0)⟩] [⟨B126, (XImages25.flatMap eN0)⟩] ∧ XImages25.length ≤ c126 ∧ Org w0 [] [⟨B, (t.XImages.flatMap eN0)⟩, ⟨B1, (t.ZImages.flatMap eN0)⟩] [⟨B127, (ZImages25.flatMap eN0)⟩] ∧ ZImages25.length ≤ c127 ∧ ST w0 [] w [⟨aD b2, 52, [vi Qubits25, .slice B126 XImages25.length c126, .slice B127 ZImages25.length c127, .slice B128 out25.length c128], 4⟩, ⟨B128, 55, (out25.flatMap eN2), c128 * 3⟩, ⟨aD b, 40, [vi t.Qubits, .slice B t.XImages.length c, .slice B1 t.ZImages.length c1], 3⟩, ⟨aD b1, 28, [vi 0, .slice none 0 0], 2⟩] [⟨B127, (ZImages25.flatMap eN0)⟩, ⟨B126, (XImages25.flatMap eN0)⟩, ⟨B124, (ZImages24.flatMap eN0)⟩, ⟨B123, (XImages24.flatMap eN0)⟩, ⟨B4, (ZImages.flatMap eN0)⟩, ⟨B3, (XImages.flatMap eN0)⟩, ⟨B, (t.XImages.flatMap eN0)⟩, ⟨B1, (t.ZImages.flatMap eN0)⟩]) ?_ ?_
     ·skip
      refine cw_block (cq ?_)
      obtain ⟨z21, hz21, hF62⟩ := bI hz20
      refine cw_mid (fun f w => ∃ (Qubits26 : Int) (XImages26 : List TPauli) (ZImages26 : List TPauli) (out26 : List TGate) (B129 : Option Addr) (c129 : Nat) (B130 : Option Addr) (c130 : Nat) (B131 : Option Addr) (c131 : Nat), (Qubits26, XImages26, ZImages26, out26) = z21 ∧ FF f [(0, pt (aD b2) 0), (1, .bool true), (2, vi q1), (8, vi s5)] ∧ Org w0 [] [⟨B, (t.XImages.flatMap eN0)⟩, ⟨B1, (t.ZImages.flatMap eN0)⟩] [⟨B129, (XImages26.flatMap eN0)⟩] ∧ XImages26.length ≤ c129 ∧ Org w0 [] [⟨B, (t.XImages.flatMap eN0)⟩, ⟨B1, (t.ZImages.flatMap eN0)⟩] [⟨B130, (ZImages26.flatMap eN0)⟩] ∧ ZImages26.length ≤ c130 ∧ ST w0 [] w [⟨aD b2, 52, [vi Qubits26, .slice B129 XImages26.length c129, .slice B130 ZImages26.length c130, .slice B131 out26.length c131], 4⟩, ⟨B131, 55, (out26.flatMap eN2), c131 * 3⟩, ⟨aD b, 40, [vi t.Qubits, .slice B t.XImages.length c, .slice B1 t.ZImages.length c1], 3⟩, ⟨aD b1, 28, [vi 0, .slice none 0 0], 2⟩] [⟨B130, (ZImages26.flatMap eN0)⟩, ⟨B129, (XImages26.flatMap eN0)⟩, ⟨B124, (ZImages24.flatMap eN0)⟩, ⟨B123, (XImages24.flatMap eN0)⟩, ⟨B4, (ZImages.flatMap eN0)⟩, ⟨B3, (XImages.flatMap eN0)⟩, ⟨B, (t.XImages.flatMap eN0)⟩, ⟨B1, (t.ZImages.flatMap eN0)⟩]) ?_ ?_
      ·skip
       refine cq (cr ?_)
       refine sQ 19 (ym (pt (aD b2) 0) rfl (hf33.g 0 0)) <| sQ 20 (ym (.bool true) rfl (hf33.g 1 1)) <| sQ 21 (ym (vi q1) rfl (hf33.g 2 2)) ?_
       obtain ⟨⟨t25, t26, t27⟩, hc40, hz21⟩ := bI hz21
       refine sc 22 rfl rfl (Yc_func (g := 61) (vs := [pt (aD b2) 0, .bool true, vi q1]) (R := fun v w' => v = .agg #[vi t25, vi t26, vi t27] ∧ ST w0 [] w' [⟨aD b, 40, [vi t.Qubits, .slice B t.XImages.length c, .slice B1 t.ZImages.length c1], 3⟩, ⟨aD b1, 28, [vi 0, .slice none 0 0], 2⟩, ⟨aD b2, 52, [vi Qubits24, .slice B123 XImages24.length c123, .slice B124 ZImages24.length c124, .slice B125 out24.length c125], 4⟩, ⟨B125, 55, (out24.flatMap eN2), c125 * 3⟩] [⟨B124, (ZImages24.flatMap eN0)⟩, ⟨B123, (XImages24.flatMap eN0)⟩, ⟨B4, (ZImages.flatMap eN0)⟩, ⟨B3, (XImages.flatMap eN0)⟩, ⟨B, (t.XImages.flatMap eN0)⟩, ⟨B1, (t.ZImages.flatMap eN0)⟩]) K55 rfl (mc rfl (mc rfl (mc rfl mn))) ?cv) ?_
       case cv =>
        show CV Try.prog 61 #[pt (aD b2) 0, .bool true, vi q1] _ _
        refine cv_of_cw 24 Try.func61 rfl Try.ntmps61 rfl ?_
        refine cq (cr ?_)
        refine sS 6 (yN [vi 0, vi 0, vi 0] 3 hS117 K5) ?_
        rintro _ w_64 ⟨b13, rfl, hS124⟩
        refine rn (cq (cq (cr ?_)))
        refine sQ 7 (ym (.bool true)) (rn ?_)
        refine cw_cond (b := true) rfl (fun _ => ?_) (fun h => by cases h)
        refine cq (cr ?_)
        refine sQ 8 (ym (pt (aD b2) 0)) <| sQ 9 (Y_nilCheck (B := aD b2) (i := 0) rfl rfl) <| sQ 10 (yd (aD b2) 0 2 K32 K10) <| sQ 11 (yd (aD b2) 0 0 K9 K1) <| sQ 12 (yl (aD b2) 1 [vi Qubits24, .slice B123 XImages24.length c123, .slice B124 ZImages24.length c124, .slice B125 out24.length c125] (.slice B123 XImages24.length c123) K6 (hS124.c 0)) <| sQ 13 (ym (vi q1)) ?_
        obtain ⟨x14, hx14, hc40⟩ := bI hc40
        refine sQ 14 (Y_index (B := B123) (m := XImages24.length) (c := c123) (k := .i64) (i := q1) K2 K0 rfl rfl rfl (gi_isSome eN1 rfl (hS124.rf (i := 1) rfl) hx14) (getI_nn hx14) (getI_ltI hx14 rfl)) <| sQ 15 (ya B123 (q1.toNat * 3) (XImages24.flatMap eN0) [vi x14.Phase, vi x14.X, vi x14.Z] K14 K0 (hS124.rf (i := 1) rfl) rfl rfl (eN1 x14) (gi_seg eN1 hx14)) ?_
        refine s0 (yT 4 3 (aD b13) 71 (.agg #[vi x14.Phase, vi x14.X, vi x14.Z]) [vi x14.Phase, vi x14.X, vi x14.Z] 0 hS124 K0) ?_
        rintro _ w_65 ⟨rfl, hS125⟩
        have hS125 : ST w0 [] _ [⟨aD b2, 52, [vi Qubits24, .slice B123 XImages24.length c123, .slice B124 ZImages24.length c124, .slice B125 out24.length c125], 4⟩, ⟨B125, 55, (out24.flatMap eN2), c125 * 3⟩, ⟨aD b, 40, [vi t.Qubits, .slice B t.XImages.length c, .slice B1 t.ZImages.length c1], 3⟩, ⟨aD b1, 28, [vi 0, .slice none 0 0], 2⟩, ⟨aD b13, 71, [vi x14.Phase, vi x14.X, vi x14.Z], 3⟩] [⟨B124, (ZImages24.flatMap eN0)⟩, ⟨B123, (XImages24.flatMap eN0)⟩, ⟨B4, (ZImages.flatMap eN0)⟩, ⟨B3, (XImages.flatMap eN0)⟩, ⟨B, (t.XImages.flatMap eN0)⟩, ⟨B1, (t.ZImages.flatMap eN0)⟩] := hS125
        refine rn (ct_ ?_)
        obtain ⟨rfl, rfl, rfl⟩ := pr3 (sI hc40)
        exact ret1 Try.results61 (v1 := .agg #[vi x14.Phase, vi x14.X, vi x14.Z]) (resAt_cellA (B := aD b13) (i := 0) (cs := [vi x14.Phase, vi x14.X, vi x14.Z]) (vs := [vi x14.Phase, vi x14.X, vi x14.Z]) rfl K14 K0 (hS125.c 4) rfl rfl) ⟨rfl, (hS125.sel [2, 3, 0, 1] rfl rfl)⟩
       rintro _ w_63 ⟨rfl, hd40⟩
       have hd40 : ST w0 [] _ [⟨aD b, 40, [vi t.Qubits, .slice B t.XImages.length c, .slice B1 t.ZImages.length c1], 3⟩, ⟨aD b1, 28, [vi 0, .slice none 0 0], 2⟩, ⟨aD b2, 52, [vi Qubits24, .slice B123 XImages24.length c123, .slice B124 ZImages24.length c124, .slice B125 out24.length c125], 4⟩, ⟨B125, 55, (out24.flatMap eN2), c125 * 3⟩] [⟨B124, (ZImages24.flatMap eN0)⟩, ⟨B123, (XImages24.flatMap eN0)⟩, ⟨B4, (ZImages.flatMap eN0)⟩, ⟨B3, (XImages.flatMap eN0)⟩, ⟨B, (t.XImages.flatMap eN0)⟩, ⟨B1, (t.ZImages.flatMap eN0)⟩] := hd40
       refine sQ 23 (ym (vi s5) rfl (hf33.g 8 3)) ?_
       obtain ⟨r_11, hc41, hz21⟩ := bI hz21
       refine sc 24 rfl rfl (yC [.agg #[vi t25, vi t26, vi t27], vi s5] K42 (c_spec_l7Letter (TPauli.mk t25 t26 t27) s5 _  (hd40.inn0 [] rfl) hc41)) ?_
       rintro _ w_66 ⟨rfl, hd41⟩
       have hS126 := hd40.out00 hd41
       refine sQ 25 (yE r_11 2) (rn ?_)
       refine cw_cond (b := (r_11 == 2)) rfl (fun hb29 => ?_) (fun hb29 => ?_)
       ·skip
        have hF63 := ct hz21 hb29
        refine cr ?_
        refine sQ 26 (ym (pt (aD b2) 0) rfl (hf33.g 0 0)) <| sQ 27 (ym (vi s5) rfl (hf33.g 8 3)) ?_
        obtain ⟨m16, hc42, hF63⟩ := bI hF63
        refine sc 28 rfl rfl (yC [pt (aD b2) 0, vi 1, vi s5, vi 0] K43 (c_spec_l8R_add (Tl8R.mk (TTableau.mk Qubits24 XImages24 ZImages24) out24) 1 s5 0 (aD b2) B123 c123 XImages24.length B124 c124 ZImages24.length B125 c125 out24.length _ rfl rfl rfl (hS126.inn [false, false, true, true] rfl [(true, 1), (true, 0)] rfl) hc42)) ?_
        rintro _ w_67 ⟨B132, c132, B133, c133, B134, c134, rfl, hd42⟩
        have hS127 := hS126.out [false, false, true, true] rfl hd42
        refine rn ?_
        have ho56 : Org w0 [] [⟨B, (t.XImages.flatMap eN0)⟩, ⟨B1, (t.ZImages.flatMap eN0)⟩] [⟨B132, (m16.t.XImages.flatMap eN0)⟩] := ST.orgOwn hS127 (i := 3) rfl
        have hcap18 : m16.t.XImages.length ≤ c132 := (hS127.lencap (i := 3) rfl (fm_lenn (l := m16.t.XImages) eN1 rfl) rfl rfl)
        have hS128 : ST w0 [] _ [⟨aD b, 40, [vi t.Qubits, .slice B t.XImages.length c, .slice B1 t.ZImages.length c1], 3⟩, ⟨aD b1, 28, [vi 0, .slice none 0 0], 2⟩, ⟨aD b2, 52, [vi m16.t.Qubits, .slice B132 m16.t.XImages.length c132, .slice B133 m16.t.ZImages.length c133, .slice B134 m16.out.length c134], 4⟩, ⟨B133, 71, (m16.t.ZImages.flatMap eN0), c133 * 3⟩, ⟨B134, 55, (m16.out.flatMap eN2), c134 * 3⟩] [⟨B132, (m16.t.XImages.flatMap eN0)⟩, ⟨B124, (ZImages24.flatMap eN0)⟩, ⟨B123, (XImages24.flatMap eN0)⟩, ⟨B4, (ZImages.flatMap eN0)⟩, ⟨B3, (XImages.flatMap eN0)⟩, ⟨B, (t.XImages.flatMap eN0)⟩, ⟨B1, (t.ZImages.flatMap eN0)⟩] := hS127.freeze (i := 3) rfl
        have ho57 : Org w0 [] [⟨B, (t.XImages.flatMap eN0)⟩, ⟨B1, (t.ZImages.flatMap eN0)⟩] [⟨B133, (m16.t.ZImages.flatMap eN0)⟩] := ST.orgOwn hS128 (i := 3) rfl
        have hcap19 : m16.t.ZImages.length ≤ c133 := (hS128.lencap (i := 3) rfl (fm_lenn (l := m16.t.ZImages) eN1 rfl) rfl rfl)
        have hS129 : ST w0 [] _ [⟨aD b, 40, [vi t.Qubits, .slice B t.XImages.length c, .slice B1 t.ZImages.length c1], 3⟩, ⟨aD b1, 28, [vi 0, .slice none 0 0], 2⟩, ⟨aD b2, 52, [vi m16.t.Qubits, .slice B132 m16.t.XImages.length c132, .slice B133 m16.t.ZImages.length c133, .slice B134 m16.out.length c134], 4⟩, ⟨B134, 55, (m16.out.flatMap eN2), c134 * 3⟩] [⟨B133, (m16.t.ZImages.flatMap eN0)⟩, ⟨B132, (m16.t.XImages.flatMap eN0)⟩, ⟨B124, (ZImages24.flatMap eN0)⟩, ⟨B123, (XImages24.flatMap eN0)⟩, ⟨B4, (ZImages.flatMap eN0)⟩, ⟨B3, (XImages.flatMap eN0)⟩, ⟨B, (t.XImages.flatMap eN0)⟩, ⟨B1, (t.ZImages.flatMap eN0)⟩] := hS128.freeze (i := 3) rfl
        exact ⟨m16.t.Qubits, m16.t.XImages, m16.t.ZImages, m16.out, B132, c132, B133, c133, B134, c134, (sI hF63), (fc (hf33.g 0 0) (fc (hf33.g 1 1) (fc (hf33.g 2 2) (fc (hf33.g 8 3) fn_)))), ho56, (len_le rfl hcap18), ho57, (len_le rfl hcap19), (hS129.sel [2, 3, 0, 1] rfl rfl)⟩
       ·skip
        have hF64 := cf' hz21 hb29
        refine cw_skip ?_
        have hS130 : ST w0 [] _ [⟨aD b, 40, [vi t.Qubits, .slice B t.XImages.length c, .slice B1 t.ZImages.length c1], 3⟩, ⟨aD b1, 28, [vi 0, .slice none 0 0], 2⟩, ⟨aD b2, 52, [vi Qubits24, .slice B123 XImages24.length c123, .slice B124 ZImages24.length c124, .slice B125 out24.length c125], 4⟩, ⟨B125, 55, (out24.flatMap eN2), c125 * 3⟩] [⟨B124, (ZImages24.flatMap eN0)⟩, ⟨B123, (XImages24.flatMap eN0)⟩, ⟨B124, (ZImages24.flatMap eN0)⟩, ⟨B123, (XImages24.flatMap eN0)⟩, ⟨B4, (ZImages.flatMap eN0)⟩, ⟨B3, (XImages.flatMap eN0)⟩, ⟨B, (t.XImages.flatMap eN0)⟩, ⟨B1, (t.ZImages.flatMap eN0)⟩] := ST.subR hS126 (sk 0 (sk 1 (sk 0 (sk 1 (sk 2 (sk 3 (sk 4 (sk 5 (fun _ h => by cases h)))))))))
        exact ⟨Qubits24, XImages24, ZImages24, out24, B123, c123, B124, c124, B125, c125, (sI hF64), (fc (hf33.g 0 0) (fc (hf33.g 1 1) (fc (hf33.g 2 2) (fc (hf33.g 8 3) fn_)))), ho50, (len_le rfl hq34), ho51, (len_le rfl hq35), (hS130.sel [2, 3, 0, 1] rfl rfl)⟩
      rintro f w ⟨Qubits26, XImages26, ZImages26, out26, B129, c129, B130, c130, B131, c131, rfl, hf35, ho54, hq38, ho55, hq39, hS120⟩
      refine cq (cr ?_)
      refine sQ 29 (ym (pt (aD b2) 0) rfl (hf35.g 0 0)) <| sQ 30 (ym (.bool true) rfl (hf35.g 1 1)) <| sQ 31 (ym (vi q1) rfl (hf35.g 2 2)) ?_
      obtain ⟨⟨t28, t29, t30⟩, hc43, hF62⟩ := bI hF62
      refine sc 32 rfl rfl (Yc_func (g := 61) (vs := [pt (aD b2) 0, .bool true, vi q1]) (R := fun v w' => v = .agg #[vi t28, vi t29, vi t30] ∧ ST w0 [] w' [⟨aD b, 40, [vi t.Qubits, .slice B t.XImages.length c, .slice B1 t.ZImages.length c1], 3⟩, ⟨aD b1, 28, [vi 0, .slice none 0 0], 2⟩, ⟨aD b2, 52, [vi Qubits26, .slice B129 XImages26.length c129, .slice B130 ZImages26.length c130, .slice B131 out26.length c131], 4⟩, ⟨B131, 55, (out26.flatMap eN2), c131 * 3⟩] [⟨B130, (ZImages26.flatMap eN0)⟩, ⟨B129, (XImages26.flatMap eN0)⟩, ⟨B124, (ZImages24.flatMap eN0)⟩, ⟨B123, (XImages24.flatMap eN0)⟩, ⟨B4, (ZImages.flatMap eN0)⟩, ⟨B3, (XImages.flatMap eN0)⟩, ⟨B, (t.XImages.flatMap eN0)⟩, ⟨B1, (t.ZImages.flatMap eN0)⟩]) K55 rfl (mc rfl (mc rfl (mc rfl mn))) ?cv) ?_
      case cv =>
       show CV Try.prog 61 #[pt (aD b2) 0, .bool true, vi q1] _ _
       refine cv_of_cw 24 Try.func61 rfl Try.ntmps61 rfl ?_
       refine cq (cr ?_)
       refine sS 6 (yN [vi 0, vi 0, vi 0] 3 hS120 K5) ?_
       rintro _ w_71 ⟨b15, rfl, hS134⟩
       refine rn (cq (cq (cr ?_)))
       refine sQ 7 (ym (.bool true)) (rn ?_)
       refine cw_cond (b := true) rfl (fun _ => ?_) (fun h => by cases h)
       refine cq (cr ?_)
       refine sQ 8 (ym (pt (aD b2) 0)) <| sQ 9 (Y_nilCheck (B := aD b2) (i := 0) rfl rfl) <| sQ 10 (yd (aD b2) 0 2 K32 K10) <| sQ 11 (yd (aD b2) 0 0 K9 K1) <| sQ 12 (yl (aD b2) 1 [vi Qubits26, .slice B129 XImages26.length c129, .slice B130 ZImages26.length c130, .slice B131 out26.length c131] (.slice B129 XImages26.length c129) K6 (hS134.c 0)) <| sQ 13 (ym (vi q1)) ?_
       obtain ⟨x16, hx16, hc43⟩ := bI hc43
       refine sQ 14 (Y_index (B := B129) (m := XImages26.length) (c := c129) (k := .i64) (i := q1) K2 K0 rfl rfl rfl (gi_isSome eN1 rfl (hS134.rf (i := 1) rfl) hx16) (getI_nn hx16) (getI_ltI hx16 rfl)) <| sQ 15 (ya B129 (q1.toNat * 3) (XImages26.flatMap eN0) [vi x16.Phase, vi x16.X, vi x16.Z] K14 K0 (hS134.rf (i := 1) rfl) rfl rfl (eN1 x16) (gi_seg eN1 hx16)) ?_
       refine s0 (yT 4 3 (aD b15) 71 (.agg #[vi x16.Phase, vi x16.X, vi x16.Z]) [vi x16.Phase, vi x16.X, vi x16.Z] 0 hS134 K0) ?_
       rintro _ w_72 ⟨rfl, hS135⟩
       have hS135 : ST w0 [] _ [⟨aD b2, 52, [vi Qubits26, .slice B129 XImages26.length c129, .slice B130 ZImages26.length c130, .slice B131 out26.length c131], 4⟩, ⟨B131, 55, (out26.flatMap eN2), c131 * 3⟩, ⟨aD b, 40, [vi t.Qubits, .slice B t.XImages.length c, .slice B1 t.ZImages.length c1], 3⟩, ⟨aD b1, 28, [vi 0, .slice none 0 0], 2⟩, ⟨aD b15, 71, [vi x16.Phase, vi x16.X, vi x16.Z], 3⟩] [⟨B130, (ZImages26.flatMap eN0)⟩, ⟨B129, (XImages26.flatMap eN0)⟩, ⟨B124, (ZImages24.flatMap eN0)⟩, ⟨B123, (XImages24.flatMap eN0)⟩, ⟨B4, (ZImages.flatMap eN0)⟩, ⟨B3, (XImages.flatMap eN0)⟩, ⟨B, (t.XImages.flatMap eN0)⟩, ⟨B1, (t.ZImages.flatMap eN0)⟩] := hS135
       refine rn (ct_ ?_)
       obtain ⟨rfl, rfl, rfl⟩ := pr3 (sI hc43)
       exact ret1 Try.results61 (v1 := .agg #[vi x16.Phase, vi x16.X, vi x16.Z]) (resAt_cellA (B := aD b15) (i := 0) (cs := [vi x16.Phase, vi x16.X, vi x16.Z]) (vs := [vi x16.Phase, vi x16.X, vi x16.Z]) rfl K14 K0 (hS135.c 4) rfl rfl) ⟨rfl, (hS135.sel [2, 3, 0, 1] rfl rfl)⟩
      rintro _ w_70 ⟨rfl, hd43⟩
      have hd43 : ST w0 [] _ [⟨aD b, 40, [vi t.Qubits, .slice B t.XImages.length c, .slice B1 t.ZImages.length c1], 3⟩, ⟨aD b1, 28, [vi 0, .slice none 0 0], 2⟩, ⟨aD b2, 52, [vi Qubits26, .slice B129 XImages26.length c129, .slice B130 ZImages26.length c130, .slice B131 out26.length c131], 4⟩, ⟨B131, 55, (out26.flatMap eN2), c131 * 3⟩] [⟨B130, (ZImages26.flatMap eN0)⟩, ⟨B129, (XImages26.flatMap eN0)⟩, ⟨B124, (ZImages24.flatMap eN0)⟩, ⟨B123, (XImages24.flatMap eN0)⟩, ⟨B4, (ZImages.flatMap eN0)⟩, ⟨B3, (XImages.flatMap eN0)⟩, ⟨B, (t.XImages.flatMap eN0)⟩, ⟨B1, (t.ZImages.flatMap eN0)⟩] := hd43
      refine sQ 33 (ym (vi s5) rfl (hf35.g 8 3)) ?_
      obtain ⟨r_12, hc44, hF62⟩ := bI hF62
      refine sc 34 rfl rfl (yC [.agg #[vi t28, vi t29, vi t30], vi s5] K42 (c_spec_l7Letter (TPauli.mk t28 t29 t30) s5 _  (hd43.inn0 [] rfl) hc44)) ?_
      rintro _ w_73 ⟨rfl, hd44⟩
      have hS136 := hd43.out00 hd44
      refine sQ 35 (yE r_12 3) (rn ?_)
      refine cw_cond (b := (r_12 == 3)) rfl (fun hb30 => ?_) (fun hb30 => ?_)
      ·skip
       have hF65 := ct hF62 hb30
       refine cr ?_
       refine sQ 36 (ym (pt (aD b2) 0) rfl (hf35.g 0 0)) <| sQ 37 (ym (vi s5) rfl (hf35.g 8 3)) ?_
       obtain ⟨m17, hc45, hF65⟩ := bI hF65
       refine sc 38 rfl rfl (yC [pt (aD b2) 0, vi 5, vi s5, vi 0] K43 (c_spec_l8R_add (Tl8R.mk (TTableau.mk Qubits26 XImages26 ZImages26) out26) 5 s5 0 (aD b2) B129 c129 XImages26.length B130 c130 ZImages26.length B131 c131 out26.length _ rfl rfl rfl (hS136.inn [false, false, true, true] rfl [(true, 1), (true, 0)] rfl) hc45)) ?_
       rintro _ w_74 ⟨B135, c135, B136, c136, B137, c137, rfl, hd45⟩
       have hS137 := hS136.out [false, false, true, true] rfl hd45
       refine rn ?_
       have ho58 : Org w0 [] [⟨B, (t.XImages.flatMap eN0)⟩, ⟨B1, (t.ZImages.flatMap eN0)⟩] [⟨B135, (m17.t.XImages.flatMap eN0)⟩] := ST.orgOwn hS137 (i := 3) rfl
       have hcap20 : m17.t.XImages.length ≤ c135 := (hS137.lencap (i := 3) rfl (fm_lenn (l := m17.t.XImages) eN1 rfl) rfl rfl)
       have hS138 : ST w0 [] _ [⟨aD b, 40, [vi t.Qubits, .slice B t.XImages.length c, .slice B1 t.ZImages.length c1], 3⟩, ⟨aD b1, 28, [vi 0, .slice none 0 0], 2⟩, ⟨aD b2, 52, [vi m17.t.Qubits, .slice B135 m17.t.XImages.length c135, .slice B136 m17.t.ZImages.length c136, .slice B137 m17.out.length c137], 4⟩, ⟨B136, 71, (m17.t.ZImages.flatMap eN0), c136 * 3⟩, ⟨B137, 55, (m17.out.flatMap eN2), c137 * 3⟩] [⟨B135, (m17.t.XImages.flatMap eN0)⟩, ⟨B130, (ZImages26.flatMap eN0)⟩, ⟨B129, (XImages26.flatMap eN0)⟩, ⟨B124, (ZImages24.flatMap eN0)⟩, ⟨B123, (XImages24.flatMap eN0)⟩, ⟨B4, (ZImages.flatMap eN0)⟩, ⟨B3, (XImages.flatMap eN0)⟩, ⟨B, (t.XImages.flatMap eN0)⟩, ⟨B1, (t.ZImages.flatMap eN0)⟩] := hS137.freeze (i := 3) rfl
       have ho59 : Org w0 [] [⟨B, (t.XImages.flatMap eN0)⟩, ⟨B1, (t.ZImages.flatMap eN0)⟩] [⟨B136, (m17.t.ZImages.flatMap eN0)⟩] := ST.orgOwn hS138 (i := 3) rfl
       have hcap21 : m17.t.ZImages.length ≤ c136 := (hS138.lencap (i := 3) rfl (fm_lenn (l := m17.t.ZImages) eN1 rfl) rfl rfl)
       have hS139 : ST w0 [] _ [⟨aD b, 40, [vi t.Qubits, .slice B t.XImages.length c, .slice B1 t.ZImages.length c1], 3⟩, ⟨aD b1, 28, [vi 0, .slice none 0 0], 2⟩, ⟨aD b2, 52, [vi m17.t.Qubits, .slice B135 m17.t.XImages.length c135, .slice B136 m17.t.ZImages.length c136, .slice B137 m17.out.length c137], 4⟩, ⟨B137, 55, (m17.out.flatMap eN2), c137 * 3⟩] [⟨B136, (m17.t.ZImages.flatMap eN0)⟩, ⟨B135, (m17.t.XImages.flatMap eN0)⟩, ⟨B130, (ZImages26.flatMap eN0)⟩, ⟨B129, (XImages26.flatMap eN0)⟩, ⟨B124, (ZImages24.flatMap eN0)⟩, ⟨B123, (XImages24.flatMap eN0)⟩, ⟨B4, (ZImages.flatMap eN0)⟩, ⟨B3, (XImages.flatMap eN0)⟩, ⟨B, (t.XImages.flatMap eN0)⟩, ⟨B1, (t.ZImages.flatMap eN0)⟩] := hS138.freeze (i := 3) rfl
       have hS140 : ST w0 [] _ [⟨aD b, 40, [vi t.Qubits, .slice B t.XImages.length c, .slice B1 t.ZImages.length c1], 3⟩, ⟨aD b1, 28, [vi 0, .slice none 0 0], 2⟩, ⟨aD b2, 52, [vi m17.t.Qubits, .slice B135 m17.t.XImages.length c135, .slice B136 m17.t.ZImages.length c136, .slice B137 m17.out.length c137], 4⟩, ⟨B137, 55, (m17.out.flatMap eN2), c137 * 3⟩] [⟨B136, (m17.t.ZImages.flatMap eN0)⟩, ⟨B135, (m17.t.XImages.flatMap eN0)⟩, ⟨B124, (ZImages24.flatMap eN0)⟩, ⟨B123, (XImages24.flatMap eN0)⟩, ⟨B4, (ZImages.flatMap eN0)⟩, ⟨B3, (XImages.flatMap eN0)⟩, ⟨B, (t.XImages.flatMap eN0)⟩, ⟨B1, (t.ZImages.flatMap eN0)⟩] := ST.subR hS139 (sk 0 (sk 1 (sk 4 (sk 5 (sk 6 (sk 7 (sk 8 (sk 9 (fun _ h => by cases h)))))))))
       exact ⟨m17.t.Qubits, m17.t.XImages, m17.t.ZImages, m17.out, B135, c135, B136, c136, B137, c137, (sI hF65), (fc (hf35.g 0 0) (fc (hf35.g 1 1) (fc (hf35.g 2 2) (fc (hf35.g 8 3) fn_)))), ho58, (len_le rfl hcap20), ho59, (len_le rfl hcap21), (hS140.sel [2, 3, 0, 1] rfl rfl)⟩
      ·skip
       have hF66 := cf' hF62 hb30
       refine cw_skip ?_
       exact ⟨Qubits26, XImages26, ZImages26, out26, B129, c129, B130, c130, B131, c131, (sI hF66), (fc (hf35.g 0 0) (fc (hf35.g 1 1) (fc (hf35.g 2 2) (fc (hf35.g 8 3) fn_)))), ho54, (len_le rfl hq38), ho55, (len_le rfl hq39), (hS136.sel [2, 3, 0, 1] rfl rfl)⟩
     rintro f w ⟨Qubits25, XImages25, ZImages25, out25, B126, c126, B127, c127, B128, c128, rfl, hf34, ho52, hq36, ho53, hq37, hS119⟩
     refine cr ?_
     refine sQ 17 (ym (vi s5) rfl (hf34.g 8 3)) <| sQ 18 (yP s5 1) <| sQ 8 (yg (vi (i64.wrap (s5 + 1)))) (rn ?_)
     obtain rfl := sI hF61
     have hS141 : ST w0 [] _ [⟨aD b2, 52, [vi Qubits25, .slice B126 XImages25.length c126, .slice B127 ZImages25.length c127, .slice B128 out25.length c128], 4⟩, ⟨B128, 55, (out25.flatMap eN2), c128 * 3⟩, ⟨aD b, 40, [vi t.Qubits, .slice B t.XImages.length c, .slice B1 t.ZImages.length c1], 3⟩, ⟨aD b1, 28, [vi 0, .slice none 0 0], 2⟩] [⟨B127, (ZImages25.flatMap eN0)⟩, ⟨B126, (XImages25.flatMap eN0)⟩, ⟨B4, (ZImages.flatMap eN0)⟩, ⟨B3, (XImages.flatMap eN0)⟩, ⟨B, (t.XImages.flatMap eN0)⟩, ⟨B1, (t.ZImages.flatMap eN0)⟩] := ST.subR hS119 (sk 0 (sk 1 (sk 4 (sk 5 (sk 6 (sk 7 (fun _ h => by cases h)))))))
     exact ⟨K72, Nat.lt_succ_self _, Qubits25, XImages25, ZImages25, out25, (i64.wrap (s5 + 1)), B126, c126, B127, c127, B128, c128, (fc (hf34.g 0 0) (fc (hf34.g 1 1) (fc (hf34.g 2 2) (fc rfl fn_)))), ho52, (len_le rfl hq36), ho53, (len_le rfl hq37), (hS141.sel [0, 1, 2, 3] rfl rfl), hL15⟩
    ·skip
     have hF67 := cf' hb27 hb28
     refine cw_exit rfl ?_
     obtain rfl := sI hF67
     obtain rfl := sI hL15
     obtain ⟨rfl, rfl, rfl, rfl⟩ := pr4 (sI hF59)
     exact ret0 Try.results37  ⟨B123, c123, B124, c124, B125, c125, rfl, rfl, ho50, hq34, rfl, ho51, hq35, rfl, (hS117.sel [2, 3, 0, 1] rfl rfl)⟩
   rintro _ w_60 ⟨B105, c105, B106, c106, B107, c107, rfl, hl12, ho38, hq26, hl13, ho39, hq27, hl14, hd39⟩
   have hd39 : ST w0 [] _ [⟨aD b, 40, [vi t.Qubits, .slice B t.XImages.length c, .slice B1 t.ZImages.length c1], 3⟩, ⟨aD b1, 28, [vi 0, .slice none 0 0], 2⟩, ⟨aD b2, 52, [vi Qubits20, .slice B105 XImages20.length c105, .slice B106 ZImages20.length c106, .slice B107 out20.length c107], 4⟩, ⟨B107, 55, (out20.flatMap eN2), c107 * 3⟩] [⟨B106, (ZImages20.flatMap eN0)⟩, ⟨B105, (XImages20.flatMap eN0)⟩, ⟨B4, (ZImages.flatMap eN0)⟩, ⟨B3, (XImages.flatMap eN0)⟩, ⟨B, (t.XImages.flatMap eN0)⟩, ⟨B1, (t.ZImages.flatMap eN0)⟩] := hd39
   refine rn (cq (cr ?_))
   refine sQ 10 (ym (vi q1)) <| sQ 4 (yg (vi q1)) (rn (cq ?_))
   obtain ⟨z22, hz22, hF68⟩ := bI hc32
   refine cw_block ?_
   refine cw_loop (fun k f w => ∃ (at_1 : Int), FF f [(0, pt (aD b2) 0), (1, vi q1), (4, vi at_1)] ∧ ST w0 [] w [⟨aD b2, 52, [vi Qubits20, .slice B105 XImages20.length c105, .slice B106 ZImages20.length c106, .slice B107 out20.length c107], 4⟩, ⟨B107, 55, (out20.flatMap eN2), c107 * 3⟩, ⟨aD b, 40, [vi t.Qubits, .slice B t.XImages.length c, .slice B1 t.ZImages.length c1], 3⟩, ⟨aD b1, 28, [vi 0, .slice none 0 0], 2⟩] [⟨B106, (ZImages20.flatMap eN0)⟩, ⟨B105, (XImages20.flatMap eN0)⟩, ⟨B4, (ZImages.flatMap eN0)⟩, ⟨B3, (XImages.flatMap eN0)⟩, ⟨B, (t.XImages.flatMap eN0)⟩, ⟨B1, (t.ZImages.flatMap eN0)⟩] ∧ whX (F_spec_l8Synthesize_l3 XImages20 q1) k at_1 = some z22) fuel ⟨q1, (fc rfl (fc rfl (fc rfl fn_))), (hd39.sel [2, 3, 0, 1] rfl rfl), hz22⟩ ?_
   rintro k_16 f w ⟨at_1, hf38, hS142, hL16⟩
   obtain ⟨k_17, y8, rfl, hb31, hL17⟩ := whX_go hL16
   unfold F_spec_l8Synthesize_l3 at hb31
   refine cq (cq (cr ?_))
   refine sQ 11 (ym (pt (aD b2) 0) rfl (hf38.g 0 0)) <| sQ 12 (Y_nilCheck (B := aD b2) (i := 0) rfl rfl) <| sQ 13 (yd (aD b2) 0 2 K32 K10) <| sQ 14 (yd (aD b2) 0 0 K9 K1) <| sQ 15 (yl (aD b2) 1 [vi Qubits20, .slice B105 XImages20.length c105, .slice B106 ZImages20.length c106, .slice B107 out20.length c107] (.slice B105 XImages20.length c105) K6 (hS142.c 0)) <| sQ 16 (ym (vi q1) rfl (hf38.g 1 1)) ?_
   obtain ⟨x17, hx17, hb31⟩ := bI hb31
   refine sQ 17 (Y_index (B := B105) (m := XImages20.length) (c := c105) (k := .i64) (i := q1) K2 K0 rfl rfl rfl (gi_isSome eN1 rfl (hS142.rf (i := 1) rfl) hx17) (getI_nn hx17) (getI_ltI hx17 hl12)) <| sQ 18 (ya B105 (q1.toNat * 3) (XImages20.flatMap eN0) [vi x17.Phase, vi x17.X, vi x17.Z] K14 K0 (hS142.rf (i := 1) rfl) rfl rfl (eN1 x17) (gi_seg eN1 hx17)) <| sQ 19 (ym (vi at_1) rfl (hf38.g 4 2)) ?_
   obtain ⟨r_13, hc46, hb31⟩ := bI hb31
   refine sc 20 rfl rfl (yC [.agg #[vi x17.Phase, vi x17.X, vi x17.Z], vi at_1] K42 (c_spec_l7Letter x17 at_1 _  (hS142.inn0 [] rfl) hc46)) ?_
   rintro _ w_75 ⟨rfl, hd46⟩
   have hS143 := hS142.out00 hd46
   refine sQ 21 (Y_ne (k := .i64) (a := r_13) (b := 1) rfl rfl rfl) (rn ?_)
   refine cw_cond (b := (r_13 != 1)) rfl (fun hb32 => ?_) (fun hb32 => ?_)
   ·skip
    have hF69 := ct hb31 hb32
    refine cw_skip (cw_block (cr ?_))
    refine sQ 22 (ym (vi at_1) rfl (hf38.g 4 2)) <| sQ 23 (yP at_1 1) <| sQ 4 (yg (vi (i64.wrap (at_1 + 1)))) (rn ?_)
    obtain rfl := sI hF69
    exact ⟨k_17, Nat.lt_succ_self _, (i64.wrap (at_1 + 1)), (fc (hf38.g 0 0) (fc (hf38.g 1 1) (fc rfl fn_))), (hS143.sel [0, 1, 2, 3] rfl rfl), hL17⟩
   ·skip
    have hF70 := cf' hb31 hb32
    refine cw_exit rfl ?_
    obtain rfl := sI hF70
    obtain rfl := sI hL17
    refine cq ?_
    obtain ⟨z23, hz23, hF71⟩ := bI hF68
    refine cw_mid (fun f w => ∃ (Qubits27 : Int) (XImages27 : List TPauli) (ZImages27 : List TPauli) (out27 : List TGate) (B138 : Option Addr) (c138 : Nat) (B139 : Option Addr) (c139 : Nat) (B140 : Option Addr) (c140 : Nat), (Qubits27, XImages27, ZImages27, out27) = z23 ∧ FF f [(0, pt (aD b2) 0), (1, vi q1)] ∧ Org w0 [] [⟨B, (t.XImages.flatMap eN0)⟩, ⟨B1, (t.ZImages.flatMap eN0)⟩] [⟨B138, (XImages27.flatMap eN0)⟩] ∧ XImages27.length ≤ c138 ∧ Org w0 [] [⟨B, (t.XImages.flatMap eN0)⟩, ⟨B1, (t.ZImages.flatMap eN0)⟩] [⟨B139, (ZImages27.flatMap eN0)⟩] ∧ ZImages27.length ≤ c139 ∧ ST w0 [] w [⟨aD b2, 52, [vi Qubits27, .slice B138 XImages27.length c138, .slice B139 ZImages27.length c139, .slice B140 out27.length c140], 4⟩, ⟨B140, 55, (out27.flatMap eN2), c140 * 3⟩, ⟨aD b, 40, [vi t.Qubits, .slice B t.XImages.length c, .slice B1 t.ZImages.length c1], 3⟩, ⟨aD b1, 28, [vi 0, .slice none 0 0], 2⟩] [⟨B139, (ZImages27.flatMap eN0)⟩, ⟨B138, (XImages27.flatMap eN0)⟩, ⟨B106, (ZImages20.flatMap eN0)⟩, ⟨B105, (XImages20.flatMap eN0)⟩, ⟨B4, (ZImages.flatMap eN0)⟩, ⟨B3, (XImages.flatMap eN0)⟩, ⟨B, (t.XImages.flatMap eN0)⟩, ⟨B1, (t.ZImages.flatMap eN0)⟩]) ?_ ?_
    ·skip
     refine cq (cr ?_)
     refine sQ 24 (ym (vi at_1) rfl (hf38.g 4 2)) <| sQ 25 (ym (vi q1) rfl (hf38.g 1 1)) <| sQ 26 (Y_ne (k := .i64) (a := at_1) (b := q1) rfl rfl rfl) (rn ?_)
     refine cw_cond (b := (at_1 != q1)) rfl (fun hb33 => ?_) (fun hb33 => ?_)
     ·skip
      have hF72 := ct hz23 hb33
      refine cq (cr ?_)
      refine sQ 27 (ym (pt (aD b2) 0) rfl (hf38.g 0 0)) <| sQ 28 (ym (vi at_1) rfl (hf38.g 4 2)) <| sQ 29 (ym (vi q1) rfl (hf38.g 1 1)) ?_
      obtain ⟨m18, hc47, hF72⟩ := bI hF72
      refine sc 30 rfl rfl (yC [pt (aD b2) 0, vi 9, vi at_1, vi q1] K43 (c_spec_l8R_add (Tl8R.mk (TTableau.mk Qubits20 XImages20 ZImages20) out20) 9 at_1 q1 (aD b2) B105 c105 XImages20.length B106 c106 ZImages20.length B107 c107 out20.length _ hl12 hl13 hl14 (hS143.inn [true, true, false, false] rfl [(true, 1), (true, 0)] rfl) hc47)) ?_
      rintro _ w_76 ⟨B141, c141, B142, c142, B143, c143, rfl, hd47⟩
      have hS145 := hS143.out [true, true, false, false] rfl hd47
      have hS145 : ST w0 [] _ [⟨aD b, 40, [vi t.Qubits, .slice B t.XImages.length c, .slice B1 t.ZImages.length c1], 3⟩, ⟨aD b1, 28, [vi 0, .slice none 0 0], 2⟩, ⟨aD b2, 52, [vi m18.t.Qubits, .slice B141 m18.t.XImages.length c141, .slice B142 m18.t.ZImages.length c142, .slice B143 m18.out.length c143], 4⟩, ⟨B141, 71, (m18.t.XImages.flatMap eN0), c141 * 3⟩, ⟨B142, 71, (m18.t.ZImages.flatMap eN0), c142 * 3⟩, ⟨B143, 55, (m18.out.flatMap eN2), c143 * 3⟩] [⟨B106, (ZImages20.flatMap eN0)⟩, ⟨B105, (XImages20.flatMap eN0)⟩, ⟨B4, (ZImages.flatMap eN0)⟩, ⟨B3, (XImages.flatMap eN0)⟩, ⟨B, (t.XImages.flatMap eN0)⟩, ⟨B1, (t.ZImages.flatMap eN0)⟩] := hS145
      refine rn (cq (cr ?_))
      refine sQ 31 (ym (pt (aD b2) 0) rfl (hf38.g 0 0)) <| sQ 32 (ym (vi q1) rfl (hf38.g 1 1)) <| sQ 33 (ym (vi at_1) rfl (hf38.g 4 2)) ?_
      obtain ⟨m19, hc48, hF72⟩ := bI hF72
      refine sc 34 rfl rfl (yC [pt (aD b2) 0, vi 9, vi q1, vi at_1] K43 (c_spec_l8R_add m18 9 q1 at_1 (aD b2) B141 c141 m18.t.XImages.length B142 c142 m18.t.ZImages.length B143 c143 m18.out.length _ rfl rfl rfl (hS145.inn [false, false, true, false, false, true] rfl [(false, 2), (false, 3)] rfl) hc48)) ?_
      rintro _ w_77 ⟨B144, c144, B145, c145, B146, c146, rfl, hd48⟩
      have hS146 := hS145.out [false, false, true, false, false, true] rfl hd48
      refine rn (cr ?_)
      refine sQ 35 (ym (pt (aD b2) 0) rfl (hf38.g 0 0)) <| sQ 36 (ym (vi at_1) rfl (hf38.g 4 2)) <| sQ 37 (ym (vi q1) rfl (hf38.g 1 1)) ?_
      obtain ⟨m20, hc49, hF72⟩ := bI hF72
      refine sc 38 rfl rfl (yC [pt (aD b2) 0, vi 9, vi at_1, vi q1] K43 (c_spec_l8R_add m19 9 at_1 q1 (aD b2) B144 c144 m19.t.XImages.length B145 c145 m19.t.ZImages.length B146 c146 m19.out.length _ rfl rfl rfl (hS146.inn [false, false, false, false, true, false, false, true] rfl [(false, 4), (false, 5)] rfl) hc49)) ?_
      rintro _ w_78 ⟨B147, c147, B148, c148, B149, c149, rfl, hd49⟩
      have hS147 := hS146.out [false, false, false, false, true, false, false, true] rfl hd49
      refine rn ?_
      have ho62 : Org w0 [] [⟨B, (t.XImages.flatMap eN0)⟩, ⟨B1, (t.ZImages.flatMap eN0)⟩] [⟨B147, (m20.t.XImages.flatMap eN0)⟩] := ST.orgOwn hS147 (i := 7) rfl
      have hcap22 : m20.t.XImages.length ≤ c147 := (hS147.lencap (i := 7) rfl (fm_lenn (l := m20.t.XImages) eN1 rfl) rfl rfl)
      have hS148 : ST w0 [] _ [⟨aD b, 40, [vi t.Qubits, .slice B t.XImages.length c, .slice B1 t.ZImages.length c1], 3⟩, ⟨aD b1, 28, [vi 0, .slice none 0 0], 2⟩, ⟨B141, 71, (m18.t.XImages.flatMap eN0), c141 * 3⟩, ⟨B142, 71, (m18.t.ZImages.flatMap eN0), c142 * 3⟩, ⟨B144, 71, (m19.t.XImages.flatMap eN0), c144 * 3⟩, ⟨B145, 71, (m19.t.ZImages.flatMap eN0), c145 * 3⟩, ⟨aD b2, 52, [vi m20.t.Qubits, .slice B147 m20.t.XImages.length c147, .slice B148 m20.t.ZImages.length c148, .slice B149 m20.out.length c149], 4⟩, ⟨B148, 71, (m20.t.ZImages.flatMap eN0), c148 * 3⟩, ⟨B149, 55, (m20.out.flatMap eN2), c149 * 3⟩] [⟨B147, (m20.t.XImages.flatMap eN0)⟩, ⟨B106, (ZImages20.flatMap eN0)⟩, ⟨B105, (XImages20.flatMap eN0)⟩, ⟨B4, (ZImages.flatMap eN0)⟩, ⟨B3, (XImages.flatMap eN0)⟩, ⟨B, (t.XImages.flatMap eN0)⟩, ⟨B1, (t.ZImages.flatMap eN0)⟩] := hS147.freeze (i := 7) rfl
      have ho63 : Org w0 [] [⟨B, (t.XImages.flatMap eN0)⟩, ⟨B1, (t.ZImages.flatMap eN0)⟩] [⟨B148, (m20.t.ZImages.flatMap eN0)⟩] := ST.orgOwn hS148 (i := 7) rfl
      have hcap23 : m20.t.ZImages.length ≤ c148 := (hS148.lencap (i := 7) rfl (fm_lenn (l := m20.t.ZImages) eN1 rfl) rfl rfl)
      have hS149 : ST w0 [] _ [⟨aD b, 40, [vi t.Qubits, .slice B t.XImages.length c, .slice B1 t.ZImages.length c1], 3⟩, ⟨aD b1, 28, [vi 0, .slice none 0 0], 2⟩, ⟨B141, 71, (m18.t.XImages.flatMap eN0), c141 * 3⟩, ⟨B142, 71, (m18.t.ZImages.flatMap eN0), c142 * 3⟩, ⟨B144, 71, (m19.t.XImages.flatMap eN0), c144 * 3⟩, ⟨B145, 71, (m19.t.ZImages.flatMap eN0), c145 * 3⟩, ⟨aD b2, 52, [vi m20.t.Qubits, .slice B147 m20.t.XImages.length c147, .slice B148 m20.t.ZImages.length c148, .slice B149 m20.out.length c149], 4⟩, ⟨B149, 55, (m20.out.flatMap eN2), c149 * 3⟩] [⟨B148, (m20.t.ZImages.flatMap eN0)⟩, ⟨B147, (m20.t.XImages.flatMap eN0)⟩, ⟨B106, (ZImages20.flatMap eN0)⟩, ⟨B105, (XImages20.flatMap eN0)⟩, ⟨B4, (ZImages.flatMap eN0)⟩, ⟨B3, (XImages.flatMap eN0)⟩, ⟨B, (t.XImages.flatMap eN0)⟩, ⟨B1, (t.ZImages.flatMap eN0)⟩] := hS148.freeze (i := 7) rfl
      exact ⟨m20.t.Qubits, m20.t.XImages, m20.t.ZImages, m20.out, B147, c147, B148, c148, B149, c149, (sI hF72), (fc (hf38.g 0 0) (fc (hf38.g 1 1) fn_)), ho62, (len_le rfl hcap22), ho63, (len_le rfl hcap23), (hS149.sel [6, 7, 0, 1] rfl rfl)⟩
     ·skip
      have hF73 := cf' hz23 hb33
      refine cw_skip ?_
      have hS150 : ST w0 [] _ [⟨aD b2, 52, [vi Qubits20, .slice B105 XImages20.length c105, .slice B106 ZImages20.length c106, .slice B107 out20.length c107], 4⟩, ⟨B107, 55, (out20.flatMap eN2), c107 * 3⟩, ⟨aD b, 40, [vi t.Qubits, .slice B t.XImages.length c, .slice B1 t.ZImages.length c1], 3⟩, ⟨aD b1, 28, [vi 0, .slice none 0 0], 2⟩] [⟨B106, (ZImages20.flatMap eN0)⟩, ⟨B105, (XImages20.flatMap eN0)⟩, ⟨B106, (ZImages20.flatMap eN0)⟩, ⟨B105, (XImages20.flatMap eN0)⟩, ⟨B4, (ZImages.flatMap eN0)⟩, ⟨B3, (XImages.flatMap eN0)⟩, ⟨B, (t.XImages.flatMap eN0)⟩, ⟨B1, (t.ZImages.flatMap eN0)⟩] := ST.subR hS143 (sk 0 (sk 1 (sk 0 (sk 1 (sk 2 (sk 3 (sk 4 (sk 5 (fun _ h => by cases h)))))))))
      exact ⟨Qubits20, XImages20, ZImages20, out20, B105, c105, B106, c106, B107, c107, (sI hF73), (fc (hf38.g 0 0) (fc (hf38.g 1 1) fn_)), ho38, (len_le hl12 hq26), ho39, (len_le hl13 hq27), (by rw [(hl12 : XImages20.length = XImages20.length), (hl13 : ZImages20.length = ZImages20.length), (hl14 : out20.length = out20.length)]; exact hS150.sel [0, 1, 2, 3] rfl rfl)⟩
    rintro f w ⟨Qubits27, XImages27, ZImages27, out27, B138, c138, B139, c139, B140, c140, rfl, hf39, ho60, hq40, ho61, hq41, hS144⟩
    refine cq (cr ?_)
    refine sQ 39 (ym (pt (aD b2) 0) rfl (hf39.g 0 0)) <| sQ 40 (ym (vi q1) rfl (hf39.g 1 1)) ?_
    obtain ⟨⟨Qubits28, XImages28, ZImages28, out28⟩, hc53, hF71⟩ := bI hF71
    refine sc 41 rfl rfl (Yc_func (g := 40) (vs := [pt (aD b2) 0, .bool true, vi q1]) (R := fun v w' => ∃ (B150 : Option Addr) (c150 : Nat) (B151 : Option Addr) (c151 : Nat) (B152 : Option Addr) (c152 : Nat), v = .tuple #[] ∧ XImages28.length = XImages28.length ∧ Org w0 [] [⟨B, (t.XImages.flatMap eN0)⟩, ⟨B1, (t.ZImages.flatMap eN0)⟩] [⟨B150, (XImages28.flatMap eN0)⟩] ∧ XImages28.length ≤ c150 ∧ ZImages28.length = ZImages28.length ∧ Org w0 [] [⟨B, (t.XImages.flatMap eN0)⟩, ⟨B1, (t.ZImages.flatMap eN0)⟩] [⟨B151, (ZImages28.flatMap eN0)⟩] ∧ ZImages28.length ≤ c151 ∧ out28.length = out28.length ∧ ST w0 [] w' [⟨aD b, 40, [vi t.Qubits, .slice B t.XImages.length c, .slice B1 t.ZImages.length c1], 3⟩, ⟨aD b1, 28, [vi 0, .slice none 0 0], 2⟩, ⟨aD b2, 52, [vi Qubits28, .slice B150 XImages28.length c150, .slice B151 ZImages28.length c151, .slice B152 out28.length c152], 4⟩, ⟨B152, 55, (out28.flatMap eN2), c152 * 3⟩] [⟨B151, (ZImages28.flatMap eN0)⟩, ⟨B150, (XImages28.flatMap eN0)⟩, ⟨B139, (ZImages27.flatMap eN0)⟩, ⟨B138, (XImages27.flatMap eN0)⟩, ⟨B106, (ZImages20.flatMap eN0)⟩, ⟨B105, (XImages20.flatMap eN0)⟩, ⟨B4, (ZImages.flatMap eN0)⟩, ⟨B3, (XImages.flatMap eN0)⟩, ⟨B, (t.XImages.flatMap eN0)⟩, ⟨B1, (t.ZImages.flatMap eN0)⟩]) k_call_40 rfl (mc rfl (mc rfl (mc rfl mn))) ?cv) ?_
    case cv =>
     show CV Try.prog 40 #[pt (aD b2) 0, .bool true, vi q1] _ _
     refine cv_of_cw 29 Try.func40 rfl Try.ntmps40 rfl ?_
     refine cq (cr ?_)
     refine sQ 7 (ym (vi q1)) <| sQ 8 (yP q1 1) <| sQ 6 (yg (vi (i64.wrap (q1 + 1)))) (rn ?_)
     obtain ⟨z26, hz26, hF80⟩ := bI hc53
     have hS165 : ST w0 [] _ [⟨aD b2, 52, [vi Qubits27, .slice B138 XImages27.length c138, .slice B139 ZImages27.length c139, .slice B140 out27.length c140], 4⟩, ⟨B140, 55, (out27.flatMap eN2), c140 * 3⟩, ⟨aD b, 40, [vi t.Qubits, .slice B t.XImages.length c, .slice B1 t.ZImages.length c1], 3⟩, ⟨aD b1, 28, [vi 0, .slice none 0 0], 2⟩] [⟨B139, (ZImages27.flatMap eN0)⟩, ⟨B138, (XImages27.flatMap eN0)⟩, ⟨B139, (ZImages27.flatMap eN0)⟩, ⟨B138, (XImages27.flatMap eN0)⟩, ⟨B106, (ZImages20.flatMap eN0)⟩, ⟨B105, (XImages20.flatMap eN0)⟩, ⟨B4, (ZImages.flatMap eN0)⟩, ⟨B3, (XImages.flatMap eN0)⟩, ⟨B, (t.XImages.flatMap eN0)⟩, ⟨B1, (t.ZImages.flatMap eN0)⟩] := ST.subR hS144 (sk 0 (sk 1 (sk 0 (sk 1 (sk 2 (sk 3 (sk 4 (sk 5 (sk 6 (sk 7 (fun _ h => by cases h)))))))))))
     refine cw_block ?_
     refine cw_loop (fun k f w => ∃ (Qubits31 : Int) (XImages31 : List TPauli) (ZImages31 : List TPauli) (out31 : List TGate) (s7 : Int) (B162 : Option Addr) (c162 : Nat) (B163 : Option Addr) (c163 : Nat) (B164 : Option Addr) (c164 : Nat), FF f [(0, pt (aD b2) 0), (1, .bool true), (2, vi q1), (6, vi s7)] ∧ Org w0 [] [⟨B, (t.XImages.flatMap eN0)⟩, ⟨B1, (t.ZImages.flatMap eN0)⟩] [⟨B162, (XImages31.flatMap eN0)⟩] ∧ XImages31.length ≤ c162 ∧ Org w0 [] [⟨B, (t.XImages.flatMap eN0)⟩, ⟨B1, (t.ZImages.flatMap eN0)⟩] [⟨B163, (ZImages31.flatMap eN0)⟩] ∧ ZImages31.length ≤ c163 ∧ ST w0 [] w [⟨aD b2, 52, [vi Qubits31, .slice B162 XImages31.length c162, .slice B163 ZImages31.length c163, .slice B164 out31.length c164], 4⟩, ⟨B164, 55, (out31.flatMap eN2), c164 * 3⟩, ⟨aD b, 40, [vi t.Qubits, .slice B t.XImages.length c, .slice B1 t.ZImages.length c1], 3⟩, ⟨aD b1, 28, [vi 0, .slice none 0 0], 2⟩] [⟨B163, (ZImages31.flatMap eN0)⟩, ⟨B162, (XImages31.flatMap eN0)⟩, ⟨B139, (ZImages27.flatMap eN0)⟩, ⟨B138, (XImages27.flatMap eN0)⟩, ⟨B106, (ZImages20.flatMap eN0)⟩, ⟨B105, (XImages20.flatMap eN0)⟩, ⟨B4, (ZImages.flatMap eN0)⟩, ⟨B3, (XImages.flatMap eN0)⟩, ⟨B, (t.XImages.flatMap eN0)⟩, ⟨B1, (t.ZImages.flatMap eN0)⟩] ∧ whX (F_spec_l8Synthesize_l4 q1) k (Qubits31, XImages31, ZImages31, out31, s7) = some z26) fuel ⟨Qubits27, XImages27, ZImages27, out27, (i64.wrap (q1 + 1)), B138, c138, B139, c139, B140, c140, (fc rfl (fc rfl (fc rfl (fc rfl fn_)))), ho60, (len_le rfl hq40), ho61, (len_le rfl hq41), (hS165.sel [0, 1, 2, 3] rfl rfl), hz26⟩ ?_
     rintro k_20 f w ⟨Qubits31, XImages31, ZImages31, out31, s7, B162, c162, B163, c163, B164, c164, hf44, ho72, hq48, ho73, hq49, hS164, hL20⟩
     obtain ⟨K73, y10, rfl, hb37, hL21⟩ := whX_go hL20
     unfold F_spec_l8Synthesize_l4 at hb37
     refine cq (cq (cr ?_))
     refine sQ 9 (ym (vi s7) rfl (hf44.g 6 3)) <| sQ 10 (ym (pt (aD b2) 0) rfl (hf44.g 0 0)) <| sQ 11 (Y_nilCheck (B := aD b2) (i := 0) rfl rfl) <| sQ 12 (yd (aD b2) 0 2 K32 K10) <| sQ 13 (yd (aD b2) 0 0 K30 K3) <| sQ 14 (yl (aD b2) 0 [vi Qubits31, .slice B162 XImages31.length c162, .slice B163 ZImages31.length c163, .slice B164 out31.length c164] (vi Qubits31) K4 (hS164.c 0)) ?_
     refine sQ 15 (yL s7 Qubits31) (rn ?_)
     refine cw_cond (b := (decide (s7 < Qubits31))) rfl (fun hb38 => ?_) (fun hb38 => ?_)
     ·skip
      have hF81 := ct hb37 hb38
      refine cw_skip (cq ?_)
      obtain ⟨z27, hz27, hF82⟩ := bI hF81
      refine cw_mid (fun f w => ∃ (Qubits32 : Int) (XImages32 : List TPauli) (ZImages32 : List TPauli) (out32 : List TGate) (B165 : Option Addr) (c165 : Nat) (B166 : Option Addr) (c166 : Nat) (B167 : Option Addr) (c167 : Nat), (Qubits32, XImages32, ZImages32, out32) = z27 ∧ FF f [(0, pt (aD b2) 0), (1, .bool true), (2, vi q1), (6, vi s7)] ∧ Org w0 [] [⟨B, (t.XImages.flatMap eN0)⟩, ⟨B1, (t.ZImages.flatMap eN0)⟩] [⟨B165, (XImages32.flatMap eN0)⟩] ∧ XImages32.length ≤ c165 ∧ Org w0 [] [⟨B, (t.XImages.flatMap eN0)⟩, ⟨B1, (t.ZImages.flatMap eN0)⟩] [⟨B166, (ZImages32.flatMap eN0)⟩] ∧ ZImages32.length ≤ c166 ∧ ST w0 [] w [⟨aD b2, 52, [vi Qubits32, .slice B165 XImages32.length c165, .slice B166 ZImages32.length c166, .slice B167 out32.length c167], 4⟩, ⟨B167, 55, (out32.flatMap eN2), c167 * 3⟩, ⟨aD b, 40, [vi t.Qubits, .slice B t.XImages.length c, .slice B1 t.ZImages.length c1], 3⟩, ⟨aD b1, 28, [vi 0, .slice none 0 0], 2⟩] [⟨B166, (ZImages32.flatMap eN0)⟩, ⟨B165, (XImages32.flatMap eN0)⟩, ⟨B163, (ZImages31.flatMap eN0)⟩, ⟨B162, (XImages31.flatMap eN0)⟩, ⟨B139, (ZImages27.flatMap eN0)⟩, ⟨B138, (XImages27.flatMap eN0)⟩, ⟨B106, (ZImages20.flatMap eN0)⟩, ⟨B105, (XImages20.flatMap eN0)⟩, ⟨B4, (ZImages.flatMap eN0)⟩, ⟨B3, (XImages.flatMap eN0)⟩, ⟨B, (t.XImages.flatMap eN0)⟩, ⟨B1, (t.ZImages.flatMap eN0)⟩]) ?_ ?_
      ·skip
       refine cw_block (cq (cr ?_))
       refine sQ 18 (ym (pt (aD b2) 0) rfl (hf44.g 0 0)) <| sQ 19 (ym (.bool true) rfl (hf44.g 1 1)) <| sQ 20 (ym (vi q1) rfl (hf44.g 2 2)) ?_
       obtain ⟨⟨t34, t35, t36⟩, hc54, hz27⟩ := bI hz27
       refine sc 21 rfl rfl (Yc_func (g := 61) (vs := [pt (aD b2) 0, .bool true, vi q1]) (R := fun v w' => v = .agg #[vi t34, vi t35, vi t36] ∧ ST w0 [] w' [⟨aD b, 40, [vi t.Qubits, .slice B t.XImages.length c, .slice B1 t.ZImages.length c1], 3⟩, ⟨aD b1, 28, [vi 0, .slice none 0 0], 2⟩, ⟨aD b2, 52, [vi Qubits31, .slice B162 XImages31.length c162, .slice B163 ZImages31.length c163, .slice B164 out31.length c164], 4⟩, ⟨B164, 55, (out31.flatMap eN2), c164 * 3⟩] [⟨B163, (ZImages31.flatMap eN0)⟩, ⟨B162, (XImages31.flatMap eN0)⟩, ⟨B139, (ZImages27.flatMap eN0)⟩, ⟨B138, (XImages27.flatMap eN0)⟩, ⟨B106, (ZImages20.flatMap eN0)⟩, ⟨B105, (XImages20.flatMap eN0)⟩, ⟨B4, (ZImages.flatMap eN0)⟩, ⟨B3, (XImages.flatMap eN0)⟩, ⟨B, (t.XImages.flatMap eN0)⟩, ⟨B1, (t.ZImages.flatMap eN0)⟩]) K55 rfl (mc rfl (mc rfl (mc rfl mn))) ?cv) ?_
       case cv =>
        show CV Try.prog 61 #[pt (aD b2) 0, .bool true, vi q1] _ _
        refine cv_of_cw 24 Try.func61 rfl Try.ntmps61 rfl ?_
        refine cq (cr ?_)
        refine sS 6 (yN [vi 0, vi 0, vi 0] 3 hS164 K5) ?_
        rintro _ w_88 ⟨b18, rfl, hS170⟩
        refine rn (cq (cq (cr ?_)))
        refine sQ 7 (ym (.bool true)) (rn ?_)
        refine cw_cond (b := true) rfl (fun _ => ?_) (fun h => by cases h)
        refine cq (cr ?_)
        refine sQ 8 (ym (pt (aD b2) 0)) <| sQ 9 (Y_nilCheck (B := aD b2) (i := 0) rfl rfl) <| sQ 10 (yd (aD b2) 0 2 K32 K10) <| sQ 11 (yd (aD b2) 0 0 K9 K1) <| sQ 12 (yl (aD b2) 1 [vi Qubits31, .slice B162 XImages31.length c162, .slice B163 ZImages31.length c163, .slice B164 out31.length c164] (.slice B162 XImages31.length c162) K6 (hS170.c 0)) <| sQ 13 (ym (vi q1)) ?_
        obtain ⟨x20, hx20, hc54⟩ := bI hc54
        refine sQ 14 (Y_index (B := B162) (m := XImages31.length) (c := c162) (k := .i64) (i := q1) K2 K0 rfl rfl rfl (gi_isSome eN1 rfl (hS170.rf (i := 1) rfl) hx20) (getI_nn hx20) (getI_ltI hx20 rfl)) <| sQ 15 (ya B162 (q1.toNat * 3) (XImages31.flatMap eN0) [vi x20.Phase, vi x20.X, vi x20.Z] K14 K0 (hS170.rf (i := 1) rfl) rfl rfl (eN1 x20) (gi_seg eN1 hx20)) ?_
        refine s0 (yT 4 3 (aD b18) 71 (.agg #[vi x20.Phase, vi x20.X, vi x20.Z]) [vi x20.Phase, vi x20.X, vi x20.Z] 0 hS170 K0) ?_
        rintro _ w_89 ⟨rfl, hS171⟩
        have hS171 : ST w0 [] _ [⟨aD b2, 52, [vi Qubits31, .slice B162 XImages31.length c162, .slice B163 ZImages31.length c163, .slice B164 out31.length c164], 4⟩, ⟨B164, 55, (out31.flatMap eN2), c164 * 3⟩, ⟨aD b, 40, [vi t.Qubits, .slice B t.XImages.length c, .slice B1 t.ZImages.length c1], 3⟩, ⟨aD b1, 28, [vi 0, .slice none 0 0], 2⟩, ⟨aD b18, 71, [vi x20.Phase, vi x20.X, vi x20.Z], 3⟩] [⟨B163, (ZImages31.flatMap eN0)⟩, ⟨B162, (XImages31.flatMap eN0)⟩, ⟨B139, (ZImages27.flatMap eN0)⟩, ⟨B138, (XImages27.flatMap eN0)⟩, ⟨B106, (ZImages20.flatMap eN0)⟩, ⟨B105, (XImages20.flatMap eN0)⟩, ⟨B4, (ZImages.flatMap eN0)⟩, ⟨B3, (XImages.flatMap eN0)⟩, ⟨B, (t.XImages.flatMap eN0)⟩, ⟨B1, (t.ZImages.flatMap eN0)⟩] := hS171
        refine rn (ct_ ?_)
        obtain ⟨rfl, rfl, rfl⟩ := pr3 (sI hc54)
        exact ret1 Try.results61 (v1 := .agg #[vi x20.Phase, vi x20.X, vi x20.Z]) (resAt_cellA (B := aD b18) (i := 0) (cs := [vi x20.Phase, vi x20.X, vi x20.Z]) (vs := [vi x20.Phase, vi x20.X, vi x20.Z]) rfl K14 K0 (hS171.c 4) rfl rfl) ⟨rfl, (hS171.sel [2, 3, 0, 1] rfl rfl)⟩
       rintro _ w_87 ⟨rfl, hd54⟩
       have hd54 : ST w0 [] _ [⟨aD b, 40, [vi t.Qubits, .slice B t.XImages.length c, .slice B1 t.ZImages.length c1], 3⟩, ⟨aD b1, 28, [vi 0, .slice none 0 0], 2⟩, ⟨aD b2, 52, [vi Qubits31, .slice B162 XImages31.length c162, .slice B163 ZImages31.length c163, .slice B164 out31.length c164], 4⟩, ⟨B164, 55, (out31.flatMap eN2), c164 * 3⟩] [⟨B163, (ZImages31.flatMap eN0)⟩, ⟨B162, (XImages31.flatMap eN0)⟩, ⟨B139, (ZImages27.flatMap eN0)⟩, ⟨B138, (XImages27.flatMap eN0)⟩, ⟨B106, (ZImages20.flatMap eN0)⟩, ⟨B105, (XImages20.flatMap eN0)⟩, ⟨B4, (ZImages.flatMap eN0)⟩, ⟨B3, (XImages.flatMap eN0)⟩, ⟨B, (t.XImages.flatMap eN0)⟩, ⟨B1, (t.ZImages.flatMap eN0)⟩] := hd54
       refine sQ 22 (ym (vi s7) rfl (hf44.g 6 3)) ?_
       obtain ⟨r_15, hc55, hz27⟩ := bI hz27
       refine sc 23 rfl rfl (yC [.agg #[vi t34, vi t35, vi t36], vi s7] K42 (c_spec_l7Letter (TPauli.mk t34 t35 t36) s7 _  (hd54.inn0 [] rfl) hc55)) ?_
       rintro _ w_90 ⟨rfl, hd55⟩
       have hS172 := hd54.out00 hd55
       refine sQ 24 (yE r_15 1) (rn ?_)
       refine cw_cond (b := (r_15 == 1)) rfl (fun hb39 => ?_) (fun hb39 => ?_)
       ·skip
        have hF83 := ct hz27 hb39
        refine cr ?_
        refine sQ 25 (ym (pt (aD b2) 0) rfl (hf44.g 0 0)) <| sQ 26 (ym (vi q1) rfl (hf44.g 2 2)) <| sQ 27 (ym (vi s7) rfl (hf44.g 6 3)) ?_
        obtain ⟨m22, hc56, hF83⟩ := bI hF83
        refine sc 28 rfl rfl (yC [pt (aD b2) 0, vi 9, vi q1, vi s7] K43 (c_spec_l8R_add (Tl8R.mk (TTableau.mk Qubits31 XImages31 ZImages31) out31) 9 q1 s7 (aD b2) B162 c162 XImages31.length B163 c163 ZImages31.length B164 c164 out31.length _ rfl rfl rfl (hS172.inn [false, false, true, true] rfl [(true, 1), (true, 0)] rfl) hc56)) ?_
        rintro _ w_91 ⟨B168, c168, B169, c169, B170, c170, rfl, hd56⟩
        have hS173 := hS172.out [false, false, true, true] rfl hd56
        refine rn ?_
        have ho76 : Org w0 [] [⟨B, (t.XImages.flatMap eN0)⟩, ⟨B1, (t.ZImages.flatMap eN0)⟩] [⟨B168, (m22.t.XImages.flatMap eN0)⟩] := ST.orgOwn hS173 (i := 3) rfl
        have hcap26 : m22.t.XImages.length ≤ c168 := (hS173.lencap (i := 3) rfl (fm_lenn (l := m22.t.XImages) eN1 rfl) rfl rfl)
        have hS174 : ST w0 [] _ [⟨aD b, 40, [vi t.Qubits, .slice B t.XImages.length c, .slice B1 t.ZImages.length c1], 3⟩, ⟨aD b1, 28, [vi 0, .slice none 0 0], 2⟩, ⟨aD b2, 52, [vi m22.t.Qubits, .slice B168 m22.t.XImages.length c168, .slice B169 m22.t.ZImages.length c169, .slice B170 m22.out.length c170], 4⟩, ⟨B169, 71, (m22.t.ZImages.flatMap eN0), c169 * 3⟩, ⟨B170, 55, (m22.out.flatMap eN2), c170 * 3⟩] [⟨B168, (m22.t.XImages.flatMap eN0)⟩, ⟨B163, (ZImages31.flatMap eN0)⟩, ⟨B162, (XImages31.flatMap eN0)⟩, ⟨B139, (ZImages27.flatMap eN0)⟩, ⟨B138, (XImages27.flatMap eN0)⟩, ⟨B106, (ZImages20.flatMap eN0)⟩, ⟨B105, (XImages20.flatMap eN0)⟩, ⟨B4, (ZImages.flatMap eN0)⟩, ⟨B3, (XImages.flatMap eN0)⟩, ⟨B, (t.XImages.flatMap eN0)⟩, ⟨B1, (t.ZImages.flatMap eN0)⟩] := hS173.freeze (i := 3) rfl
        have ho77 : Org w0 [] [⟨B, (t.XImages.flatMap eN0)⟩, ⟨B1, (t.ZImages.flatMap eN0)⟩] [⟨B169, (m22.t.ZImages.flatMap eN0)⟩] := ST.orgOwn hS174 (i := 3) rfl
        have hcap27 : m22.t.ZImages.length ≤ c169 := (hS174.lencap (i := 3) rfl (fm_lenn (l := m22.t.ZImages) eN1 rfl) rfl rfl)
        have hS175 : ST w0 [] _ [⟨aD b, 40, [vi t.Qubits, .slice B t.XImages.length c, .slice B1 t.ZImages.length c1], 3⟩, ⟨aD b1, 28, [vi 0, .slice none 0 0], 2⟩, ⟨aD b2, 52, [vi m22.t.Qubits, .slice B168 m22.t.XImages.length c168, .slice B169 m22.t.ZImages.length c169, .slice B170 m22.out.length c170], 4⟩, ⟨B170, 55, (m22.out.flatMap eN2), c170 * 3⟩] [⟨B169, (m22.t.ZImages.flatMap eN0)⟩, ⟨B168, (m22.t.XImages.flatMap eN0)⟩, ⟨B163, (ZImages31.flatMap eN0)⟩, ⟨B162, (XImages31.flatMap eN0)⟩, ⟨B139, (ZImages27.flatMap eN0)⟩, ⟨B138, (XImages27.flatMap eN0)⟩, ⟨B106, (ZImages20.flatMap eN0)⟩, ⟨B105, (XImages20.flatMap eN0)⟩, ⟨B4, (ZImages.flatMap eN0)⟩, ⟨B3, (XImages.flatMap eN0)⟩, ⟨B, (t.XImages.flatMap eN0)⟩, ⟨B1, (t.ZImages.flatMap eN0)⟩] := hS174.freeze (i := 3) rfl
        exact ⟨m22.t.Qubits, m22.t.XImages, m22.t.ZImages, m22.out, B168, c168, B169, c169, B170, c170, (sI hF83), (fc (hf44.g 0 0) (fc (hf44.g 1 1) (fc (hf44.g 2 2) (fc (hf44.g 6 3) fn_)))), ho76, (len_le rfl hcap26), ho77, (len_le rfl hcap27), (hS175.sel [2, 3, 0, 1] rfl rfl)⟩
       ·skip
        have hF84 := cf' hz27 hb39
        refine cw_skip ?_
        have hS176 : ST w0 [] _ [⟨aD b, 40, [vi t.Qubits, .slice B t.XImages.length c, .slice B1 t.ZImages.length c1], 3⟩, ⟨aD b1, 28, [vi 0, .slice none 0 0], 2⟩, ⟨aD b2, 52, [vi Qubits31, .slice B162 XImages31.length c162, .slice B163 ZImages31.length c163, .slice B164 out31.length c164], 4⟩, ⟨B164, 55, (out31.flatMap eN2), c164 * 3⟩] [⟨B163, (ZImages31.flatMap eN0)⟩, ⟨B162, (XImages31.flatMap eN0)⟩, ⟨B163, (ZImages31.flatMap eN0)⟩, ⟨B162, (XImages31.flatMap eN0)⟩, ⟨B139, (ZImages27.flatMap eN0)⟩, ⟨B138, (XImages27.flatMap eN0)⟩, ⟨B106, (ZImages20.flatMap eN0)⟩, ⟨B105, (XImages20.flatMap eN0)⟩, ⟨B4, (ZImages.flatMap eN0)⟩, ⟨B3, (XImages.flatMap eN0)⟩, ⟨B, (t.XImages.flatMap eN0)⟩, ⟨B1, (t.ZImages.flatMap eN0)⟩] := ST.subR hS172 (sk 0 (sk 1 (sk 0 (sk 1 (sk 2 (sk 3 (sk 4 (sk 5 (sk 6 (sk 7 (sk 8 (sk 9 (fun _ h => by cases h)))))))))))))
        exact ⟨Qubits31, XImages31, ZImages31, out31, B162, c162, B163, c163, B164, c164, (sI hF84), (fc (hf44.g 0 0) (fc (hf44.g 1 1) (fc (hf44.g 2 2) (fc (hf44.g 6 3) fn_)))), ho72, (len_le rfl hq48), ho73, (len_le rfl hq49), (hS176.sel [2, 3, 0, 1] rfl rfl)⟩
      rintro f w ⟨Qubits32, XImages32, ZImages32, out32, B165, c165, B166, c166, B167, c167, rfl, hf45, ho74, hq50, ho75, hq51, hS166⟩
      refine cr ?_
      refine sQ 16 (ym (vi s7) rfl (hf45.g 6 3)) <| sQ 17 (yP s7 1) <| sQ 6 (yg (vi (i64.wrap (s7 + 1)))) (rn ?_)
      obtain rfl := sI hF82
      have hS177 : ST w0 [] _ [⟨aD b2, 52, [vi Qubits32, .slice B165 XImages32.length c165, .slice B166 ZImages32.length c166, .slice B167 out32.length c167], 4⟩, ⟨B167, 55, (out32.flatMap eN2), c167 * 3⟩, ⟨aD b, 40, [vi t.Qubits, .slice B t.XImages.length c, .slice B1 t.ZImages.length c1], 3⟩, ⟨aD b1, 28, [vi 0, .slice none 0 0], 2⟩] [⟨B166, (ZImages32.flatMap eN0)⟩, ⟨B165, (XImages32.flatMap eN0)⟩, ⟨B139, (ZImages27.flatMap eN0)⟩, ⟨B138, (XImages27.flatMap eN0)⟩, ⟨B106, (ZImages20.flatMap eN0)⟩, ⟨B105, (XImages20.flatMap eN0)⟩, ⟨B4, (ZImages.flatMap eN0)⟩, ⟨B3, (XImages.flatMap eN0)⟩, ⟨B, (t.XImages.flatMap eN0)⟩, ⟨B1, (t.ZImages.flatMap eN0)⟩] := ST.subR hS166 (sk 0 (sk 1 (sk 4 (sk 5 (sk 6 (sk 7 (sk 8 (sk 9 (sk 10 (sk 11 (fun _ h => by cases h)))))))))))
      exact ⟨K73, Nat.lt_succ_self _, Qubits32, XImages32, ZImages32, out32, (i64.wrap (s7 + 1)), B165, c165, B166, c166, B167, c167, (fc (hf45.g 0 0) (fc (hf45.g 1 1) (fc (hf45.g 2 2) (fc rfl fn_)))), ho74, (len_le rfl hq50), ho75, (len_le rfl hq51), (hS177.sel [0, 1, 2, 3] rfl rfl), hL21⟩
     ·skip
      have hF85 := cf' hb37 hb38
      refine cw_exit rfl ?_
      obtain rfl := sI hF85
      obtain rfl := sI hL21
      obtain ⟨rfl, rfl, rfl, rfl⟩ := pr4 (sI hF80)
      exact ret0 Try.results40  ⟨B162, c162, B163, c163, B164, c164, rfl, rfl, ho72, hq48, rfl, ho73, hq49, rfl, (hS164.sel [2, 3, 0, 1] rfl rfl)⟩
    rintro _ w_84 ⟨B150, c150, B151, c151, B152, c152, rfl, hl15, ho64, hq42, hl16, ho65, hq43, hl17, hd53⟩
    have hd53 : ST w0 [] _ [⟨aD b, 40, [vi t.Qubits, .slice B t.XImages.length c, .slice B1 t.ZImages.length c1], 3⟩, ⟨aD b1, 28, [vi 0, .slice none 0 0], 2⟩, ⟨aD b2, 52, [vi Qubits28, .slice B150 XImages28.length c150, .slice B151 ZImages28.length c151, .slice B152 out28.length c152], 4⟩, ⟨B152, 55, (out28.flatMap eN2), c152 * 3⟩] [⟨B151, (ZImages28.flatMap eN0)⟩, ⟨B150, (XImages28.flatMap eN0)⟩, ⟨B139, (ZImages27.flatMap eN0)⟩, ⟨B138, (XImages27.flatMap eN0)⟩, ⟨B106, (ZImages20.flatMap eN0)⟩, ⟨B105, (XImages20.flatMap eN0)⟩, ⟨B4, (ZImages.flatMap eN0)⟩, ⟨B3, (XImages.flatMap eN0)⟩, ⟨B, (t.XImages.flatMap eN0)⟩, ⟨B1, (t.ZImages.flatMap eN0)⟩] := hd53
    refine rn (cq ?_)
    obtain ⟨z28, hz28, hF86⟩ := bI hF71
    refine cw_mid (fun f w => ∃ (Qubits33 : Int) (XImages33 : List TPauli) (ZImages33 : List TPauli) (out33 : List TGate) (B171 : Option Addr) (c171 : Nat) (B172 : Option Addr) (c172 : Nat) (B173 : Option Addr) (c173 : Nat), (Qubits33, XImages33, ZImages33, out33) = z28 ∧ FF f [(0, pt (aD b2) 0), (1, vi q1)] ∧ Org w0 [] [⟨B, (t.XImages.flatMap eN0)⟩, ⟨B1, (t.ZImages.flatMap eN0)⟩] [⟨B171, (XImages33.flatMap eN0)⟩] ∧ XImages33.length ≤ c171 ∧ Org w0 [] [⟨B, (t.XImages.flatMap eN0)⟩, ⟨B1, (t.ZImages.flatMap eN0)⟩] [⟨B172, (ZImages33.flatMap eN0)⟩] ∧ ZImages33.length ≤ c172 ∧ ST w0 [] w [⟨aD b2, 52, [vi Qubits33, .slice B171 XImages33.length c171, .slice B172 ZImages33.length c172, .slice B173 out33.length c173], 4⟩, ⟨B173, 55, (out33.flatMap eN2), c173 * 3⟩, ⟨aD b, 40, [vi t.Qubits, .slice B t.XImages.length c, .slice B1 t.ZImages.length c1], 3⟩, ⟨aD b1, 28, [vi 0, .slice none 0 0], 2⟩] [⟨B172, (ZImages33.flatMap eN0)⟩, ⟨B171, (XImages33.flatMap eN0)⟩, ⟨B151, (ZImages28.flatMap eN0)⟩, ⟨B150, (XImages28.flatMap eN0)⟩, ⟨B139, (ZImages27.flatMap eN0)⟩, ⟨B138, (XImages27.flatMap eN0)⟩, ⟨B106, (ZImages20.flatMap eN0)⟩, ⟨B105, (XImages20.flatMap eN0)⟩, ⟨B4, (ZImages.flatMap eN0)⟩, ⟨B3, (XImages.flatMap eN0)⟩, ⟨B, (t.XImages.flatMap eN0)⟩, ⟨B1, (t.ZImages.flatMap eN0)⟩]) ?_ ?_
    ·skip
     refine cq (cr ?_)
     refine sQ 42 (ym (pt (aD b2) 0) rfl (hf39.g 0 0)) <| sQ 43 (Y_nilCheck (B := aD b2) (i := 0) rfl rfl) <| sQ 44 (yd (aD b2) 0 2 K32 K10) <| sQ 45 (yd (aD b2) 0 0 K11 K1) <| sQ 46 (yl (aD b2) 2 [vi Qubits28, .slice B150 XImages28.length c150, .slice B151 ZImages28.length c151, .slice B152 out28.length c152] (.slice B151 ZImages28.length c151) K6 (hd53.cf (i := 2) rfl)) <| sQ 47 (ym (vi q1) rfl (hf39.g 1 1)) ?_
     obtain ⟨x21, hx21, hz28⟩ := bI hz28
     refine sQ 48 (Y_index (B := B151) (m := ZImages28.length) (c := c151) (k := .i64) (i := q1) K2 K0 rfl rfl rfl (gi_isSome eN1 rfl (hd53.rf (i := 0) rfl) hx21) (getI_nn hx21) (getI_ltI hx21 hl16)) <| sQ 49 (ya B151 (q1.toNat * 3) (ZImages28.flatMap eN0) [vi x21.Phase, vi x21.X, vi x21.Z] K14 K0 (hd53.rf (i := 0) rfl) rfl rfl (eN1 x21) (gi_seg eN1 hx21)) ?_
     refine sS 5 (yN [vi 0, vi 0, vi 0] 3 hd53 K5) ?_
     rintro _ w_92 ⟨b19, rfl, hS179⟩
     refine s0 (yT 4 3 (aD b19) 71 (.agg #[vi x21.Phase, vi x21.X, vi x21.Z]) [vi x21.Phase, vi x21.X, vi x21.Z] 0 hS179 K0) ?_
     rintro _ w_93 ⟨rfl, hS180⟩
     have hS180 : ST w0 [] _ [⟨aD b, 40, [vi t.Qubits, .slice B t.XImages.length c, .slice B1 t.ZImages.length c1], 3⟩, ⟨aD b1, 28, [vi 0, .slice none 0 0], 2⟩, ⟨aD b2, 52, [vi Qubits28, .slice B150 XImages28.length c150, .slice B151 ZImages28.length c151, .slice B152 out28.length c152], 4⟩, ⟨B152, 55, (out28.flatMap eN2), c152 * 3⟩, ⟨aD b19, 71, [vi x21.Phase, vi x21.X, vi x21.Z], 3⟩] [⟨B151, (ZImages28.flatMap eN0)⟩, ⟨B150, (XImages28.flatMap eN0)⟩, ⟨B139, (ZImages27.flatMap eN0)⟩, ⟨B138, (XImages27.flatMap eN0)⟩, ⟨B106, (ZImages20.flatMap eN0)⟩, ⟨B105, (XImages20.flatMap eN0)⟩, ⟨B4, (ZImages.flatMap eN0)⟩, ⟨B3, (XImages.flatMap eN0)⟩, ⟨B, (t.XImages.flatMap eN0)⟩, ⟨B1, (t.ZImages.flatMap eN0)⟩] := hS180
     refine rn (cq (cr ?_))
     refine sQ 50 (yd (aD b19) 0 0 K37 K3) <| sQ 51 (yl (aD b19) 1 [vi x21.Phase, vi x21.X, vi x21.Z] (vi x21.X) K4 (hS180.c 4)) <| sQ 52 (Y_ne (k := .i64) (a := x21.X) (b := 0) rfl rfl rfl) <| sQ 53 (ym (.bool (x21.X != 0))) ?_
     refine sgq 54 (B := (!(x21.X != 0))) (v := pt (aD b19) 2) rfl rfl (uF_ 53) (fun hg6 => (yd (aD b19) 0 0 K38 K3)) ?_
     refine sgq 55 (B := (!(x21.X != 0))) (v := vi x21.Z) rfl rfl (uF_ 53) (fun hg7 => (yl (aD b19) 2 [vi x21.Phase, vi x21.X, vi x21.Z] (vi x21.Z) K4 (hS180.c 4) rfl (gv_of (v := pt (aD b19) 2) hg7))) ?_
     refine sgq 56 (B := (!(x21.X != 0))) (v := vi q1) rfl rfl (uF_ 53) (fun hg8 => (ym (vi q1) rfl (hf39.g 1 1))) ?_
     refine sgq 57 (B := (!(x21.X != 0))) (v := .int .u64 (IntKind.u64.wrap q1)) rfl rfl (uF_ 53) (fun hg9 => (Y_conv (k := .i64) (a := q1) (T := 3) (T' := 74) K39 K40 rfl (gv_of (v := vi q1) hg9))) ?_
     obtain ⟨hsh1, hz28⟩ := chk_inv hz28
     refine sgq 58 (B := (!(x21.X != 0))) (v := vi (shlK .i64 1 (IntKind.u64.wrap q1))) rfl rfl (uF_ 53) (fun hg10 => (Y_shl (k := .i64) (a := 1) (k' := .u64) (b := (IntKind.u64.wrap q1)) rfl rfl (gv_of (v := .int .u64 (IntKind.u64.wrap q1)) hg10) (hsh1 hg10))) ?_
     refine sgq 59 (B := (!(x21.X != 0))) (v := .bool (x21.Z != (shlK .i64 1 (IntKind.u64.wrap q1)))) rfl rfl (uF_ 53) (fun hg11 => (Y_ne (k := .i64) (a := x21.Z) (b := (shlK .i64 1 (IntKind.u64.wrap q1))) rfl (gv_of (v := vi x21.Z) hg11) (gv_of (v := vi (shlK .i64 1 (IntKind.u64.wrap q1))) hg11))) ?_
     refine sQ 60 (Y_or (b := (x21.X != 0)) (z := (x21.Z != (shlK .i64 1 (IntKind.u64.wrap q1)))) rfl rfl rfl rfl) (rn ?_)
     refine cw_cond (b := ((x21.X != 0) || (x21.Z != (shlK .i64 1 (IntKind.u64.wrap q1))))) rfl (fun hb40 => ?_) (fun hb40 => ?_)
     ·skip
      have hF87 := ct hz28 hb40
      refine cq (cr ?_)
      refine sQ 61 (ym (pt (aD b2) 0) rfl (hf39.g 0 0)) <| sQ 62 (ym (vi q1) rfl (hf39.g 1 1)) ?_
      obtain ⟨m23, hc57, hF87⟩ := bI hF87
      refine sc 63 rfl rfl (yC [pt (aD b2) 0, vi 1, vi q1, vi 0] K43 (c_spec_l8R_add (Tl8R.mk (TTableau.mk Qubits28 XImages28 ZImages28) out28) 1 q1 0 (aD b2) B150 c150 XImages28.length B151 c151 ZImages28.length B152 c152 out28.length _ hl15 hl16 hl17 (hS180.inn [false, false, true, true, false] rfl [(true, 1), (true, 0)] rfl) hc57)) ?_
      rintro _ w_94 ⟨B174, c174, B175, c175, B176, c176, rfl, hd57⟩
      have hS181 := hS180.out [false, false, true, true, false] rfl hd57
      refine rn (cq (cr ?_))
      refine sQ 64 (ym (pt (aD b2) 0) rfl (hf39.g 0 0)) <| sQ 65 (ym (vi q1) rfl (hf39.g 1 1)) <| sQ 66 (ym (vi q1) rfl (hf39.g 1 1)) <| sQ 67 (yP q1 1) ?_
      obtain ⟨⟨Qubits34, XImages34, ZImages34, out34⟩, hc64, hF87⟩ := bI hF87
      refine sc 68 rfl rfl (Yc_func (g := 37) (vs := [pt (aD b2) 0, .bool false, vi q1, vi (i64.wrap (q1 + 1))]) (R := fun v w' => ∃ (B177 : Option Addr) (c177 : Nat) (B178 : Option Addr) (c178 : Nat) (B179 : Option Addr) (c179 : Nat), v = .tuple #[] ∧ XImages34.length = XImages34.length ∧ ZImages34.length = ZImages34.length ∧ out34.length = out34.length ∧ ST w0 [] w' [⟨aD b, 40, [vi t.Qubits, .slice B t.XImages.length c, .slice B1 t.ZImages.length c1], 3⟩, ⟨aD b1, 28, [vi 0, .slice none 0 0], 2⟩, ⟨aD b2, 52, [vi Qubits34, .slice B177 XImages34.length c177, .slice B178 ZImages34.length c178, .slice B179 out34.length c179], 4⟩, ⟨B177, 71, (XImages34.flatMap eN0), c177 * 3⟩, ⟨B178, 71, (ZImages34.flatMap eN0), c178 * 3⟩, ⟨B179, 55, (out34.flatMap eN2), c179 * 3⟩] [⟨B151, (ZImages28.flatMap eN0)⟩, ⟨B150, (XImages28.flatMap eN0)⟩, ⟨B139, (ZImages27.flatMap eN0)⟩, ⟨B138, (XImages27.flatMap eN0)⟩, ⟨B106, (ZImages20.flatMap eN0)⟩, ⟨B105, (XImages20.flatMap eN0)⟩, ⟨B4, (ZImages.flatMap eN0)⟩, ⟨B3, (XImages.flatMap eN0)⟩, ⟨B, (t.XImages.flatMap eN0)⟩, ⟨B1, (t.ZImages.flatMap eN0)⟩]) k_call_37 rfl (mc rfl (mc rfl (mc rfl (mc rfl mn)))) ?cv) ?_
      case cv =>
       show CV Try.prog 37 #[pt (aD b2) 0, .bool false, vi q1, vi (i64.wrap (q1 + 1))] _ _
       refine cv_of_cw 39 Try.func37 rfl Try.ntmps37 rfl ?_
       refine cq (cr ?_)
       refine sQ 9 (ym (vi (i64.wrap (q1 + 1)))) <| sQ 8 (yg (vi (i64.wrap (q1 + 1)))) (rn ?_)
       obtain ⟨z32, hz32, hF97⟩ := bI hc64
       refine cw_block ?_
       refine cw_loop (fun k f w => ∃ (Qubits38 : Int) (XImages38 : List TPauli) (ZImages38 : List TPauli) (out38 : List TGate) (s9 : Int) (B195 : Option Addr) (c195 : Nat) (B196 : Option Addr) (c196 : Nat) (B197 : Option Addr) (c197 : Nat), FF f [(0, pt (aD b2) 0), (1, .bool false), (2, vi q1), (8, vi s9)] ∧ ST w0 [] w [⟨aD b2, 52, [vi Qubits38, .slice B195 XImages38.length c195, .slice B196 ZImages38.length c196, .slice B197 out38.length c197], 4⟩, ⟨B195, 71, (XImages38.flatMap eN0), c195 * 3⟩, ⟨B196, 71, (ZImages38.flatMap eN0), c196 * 3⟩, ⟨B197, 55, (out38.flatMap eN2), c197 * 3⟩, ⟨aD b, 40, [vi t.Qubits, .slice B t.XImages.length c, .slice B1 t.ZImages.length c1], 3⟩, ⟨aD b1, 28, [vi 0, .slice none 0 0], 2⟩] [⟨B151, (ZImages28.flatMap eN0)⟩, ⟨B150, (XImages28.flatMap eN0)⟩, ⟨B139, (ZImages27.flatMap eN0)⟩, ⟨B138, (XImages27.flatMap eN0)⟩, ⟨B106, (ZImages20.flatMap eN0)⟩, ⟨B105, (XImages20.flatMap eN0)⟩, ⟨B4, (ZImages.flatMap eN0)⟩, ⟨B3, (XImages.flatMap eN0)⟩, ⟨B, (t.XImages.flatMap eN0)⟩, ⟨B1, (t.ZImages.flatMap eN0)⟩] ∧ whX (F_spec_l8Synthesize_l5 q1) k (Qubits38, XImages38, ZImages38, out38, s9) = some z32) fuel ⟨m23.t.Qubits, m23.t.XImages, m23.t.ZImages, m23.out, (i64.wrap (q1 + 1)), B174, c174, B175, c175, B176, c176, (fc rfl (fc rfl (fc rfl (fc rfl fn_)))), (hS181.sel [3, 4, 5, 6, 0, 1] rfl rfl), hz32⟩ ?_
       rintro k_24 f w ⟨Qubits38, XImages38, ZImages38, out38, s9, B195, c195, B196, c196, B197, c197, hf54, hS196, hL24⟩
       obtain ⟨K74, y12, rfl, hb45, hL25⟩ := whX_go hL24
       unfold F_spec_l8Synthesize_l5 at hb45
       refine cq (cq (cr ?_))
       refine sQ 10 (ym (vi s9) rfl (hf54.g 8 3)) <| sQ 11 (ym (pt (aD b2) 0) rfl (hf54.g 0 0)) <| sQ 12 (Y_nilCheck (B := aD b2) (i := 0) rfl rfl) <| sQ 13 (yd (aD b2) 0 2 K32 K10) <| sQ 14 (yd (aD b2) 0 0 K30 K3) <| sQ 15 (yl (aD b2) 0 [vi Qubits38, .slice B195 XImages38.length c195, .slice B196 ZImages38.length c196, .slice B197 out38.length c197] (vi Qubits38) K4 (hS196.c 0)) ?_
       refine sQ 16 (yL s9 Qubits38) (rn ?_)
       refine cw_cond (b := (decide (s9 < Qubits38))) rfl (fun hb46 => ?_) (fun hb46 => ?_)
       ·skip
        have hF98 := ct hb45 hb46
        refine cw_skip (cq ?_)
        obtain ⟨z33, hz33, hF99⟩ := bI hF98
        refine cw_mid (fun f w => ∃ (Qubits39 : Int) (XImages39 : List TPauli) (ZImages39 : List TPauli) (out39 : List TGate) (B198 : Option Addr) (c198 : Nat) (B199 : Option Addr) (c199 : Nat) (B200 : Option Addr) (c200 : Nat), (Qubits39, XImages39, ZImages39, out39) = z33 ∧ FF f [(0, pt (aD b2) 0), (1, .bool false), (2, vi q1), (8, vi s9)] ∧ ST w0 [] w [⟨aD b2, 52, [vi Qubits39, .slice B198 XImages39.length c198, .slice B199 ZImages39.length c199, .slice B200 out39.length c200], 4⟩, ⟨B198, 71, (XImages39.flatMap eN0), c198 * 3⟩, ⟨B199, 71, (ZImages39.flatMap eN0), c199 * 3⟩, ⟨B200, 55, (out39.flatMap eN2), c200 * 3⟩, ⟨aD b, 40, [vi t.Qubits, .slice B t.XImages.length c, .slice B1 t.ZImages.length c1], 3⟩, ⟨aD b1, 28, [vi 0, .slice none 0 0], 2⟩] [⟨B151, (ZImages28.flatMap eN0)⟩, ⟨B150, (XImages28.flatMap eN0)⟩, ⟨B139, (ZImages27.flatMap eN0)⟩, ⟨B138, (XImages27.flatMap eN0)⟩, ⟨B106, (ZImages20.flatMap eN0)⟩, ⟨B105, (XImages20.flatMap eN0)⟩, ⟨B4, (ZImages.flatMap eN0)⟩, ⟨B3, (XImages.flatMap eN0)⟩, ⟨B, (t.XImages.flatMap eN0)⟩, ⟨B1, (t.ZImages.flatMap eN0)⟩]) ?_ ?_
        ·skip
         refine cw_block (cq ?_)
         obtain ⟨z34, hz34, hF100⟩ := bI hz33
         refine cw_mid (fun f w => ∃ (Qubits40 : Int) (XImages40 : List TPauli) (ZImages40 : List TPauli) (out40 : List TGate) (B201 : Option Addr) (c201 : Nat) (B202 : Option Addr) (c202 : Nat) (B203 : Option Addr) (c203 : Nat), (Qubits40, XImages40, ZImages40, out40) = z34 ∧ FF f [(0, pt (aD b2) 0), (1, .bool false), (2, vi q1), (8, vi s9)] ∧ ST w0 [] w [⟨aD b2, 52, [vi Qubits40, .slice B201 XImages40.length c201, .slice B202 ZImages40.length c202, .slice B203 out40.length c203], 4⟩, ⟨B201, 71, (XImages40.flatMap eN0), c201 * 3⟩, ⟨B202, 71, (ZImages40.flatMap eN0), c202 * 3⟩, ⟨B203, 55, (out40.flatMap eN2), c203 * 3⟩, ⟨aD b, 40, [vi t.Qubits, .slice B t.XImages.length c, .slice B1 t.ZImages.length c1], 3⟩, ⟨aD b1, 28, [vi 0, .slice none 0 0], 2⟩] [⟨B151, (ZImages28.flatMap eN0)⟩, ⟨B150, (XImages28.flatMap eN0)⟩, ⟨B139, (ZImages27.flatMap eN0)⟩, ⟨B138, (XImages27.flatMap eN0)⟩, ⟨B106, (ZImages20.flatMap eN0)⟩, ⟨B105, (XImages20.flatMap eN0)⟩, ⟨B4, (ZImages.flatMap eN0)⟩, ⟨B3, (XImages.flatMap eN0)⟩, ⟨B, (t.XImages.flatMap eN0)⟩, ⟨B1, (t.ZImages.flatMap eN0)⟩]) ?_ ?_
         ·skip
          refine cq (cr ?_)
          refine sQ 19 (ym (pt (aD b2) 0) rfl (hf54.g 0 0)) <| sQ 20 (ym (.bool false) rfl (hf54.g 1 1)) <| sQ 21 (ym (vi q1) rfl (hf54.g 2 2)) ?_
          obtain ⟨⟨t43, t44, t45⟩, hc65, hz34⟩ := bI hz34
          refine sc 22 rfl rfl (Yc_func (g := 61) (vs := [pt (aD b2) 0, .bool false, vi q1]) (R := fun v w' => v = .agg #[vi t43, vi t44, vi t45] ∧ ST w0 [] w' [⟨aD b, 40, [vi t.Qubits, .slice B t.XImages.length c, .slice B1 t.ZImages.length c1], 3⟩, ⟨aD b1, 28, [vi 0, .slice none 0 0], 2⟩, ⟨aD b2, 52, [vi Qubits38, .slice B195 XImages38.length c195, .slice B196 ZImages38.length c196, .slice B197 out38.length c197], 4⟩, ⟨B195, 71, (XImages38.flatMap eN0), c195 * 3⟩, ⟨B196, 71, (ZImages38.flatMap eN0), c196 * 3⟩, ⟨B197, 55, (out38.flatMap eN2), c197 * 3⟩] [⟨B151, (ZImages28.flatMap eN0)⟩, ⟨B150, (XImages28.flatMap eN0)⟩, ⟨B139, (ZImages27.flatMap eN0)⟩, ⟨B138, (XImages27.flatMap eN0)⟩, ⟨B106, (ZImages20.flatMap eN0)⟩, ⟨B105, (XImages20.flatMap eN0)⟩, ⟨B4, (ZImages.flatMap eN0)⟩, ⟨B3, (XImages.flatMap eN0)⟩, ⟨B, (t.XImages.flatMap eN0)⟩, ⟨B1, (t.ZImages.flatMap eN0)⟩]) K55 rfl (mc rfl (mc rfl (mc rfl mn))) ?cv) ?_
          case cv =>
           show CV Try.prog 61 #[pt (aD b2) 0, .bool false, vi q1] _ _
           refine cv_of_cw 24 Try.func61 rfl Try.ntmps61 rfl ?_
           refine cq (cr ?_)
           refine sS 6 (yN [vi 0, vi 0, vi 0] 3 hS196 K5) ?_
           rintro _ w_109 ⟨b23, rfl, hS202⟩
           refine rn (cq (cq (cr ?_)))
           refine sQ 7 (ym (.bool false)) (rn ?_)
           refine cw_cond (b := false) rfl (fun h => by cases h) (fun _ => ?_)
           refine cw_skip (cq (cr ?_))
           refine sQ 16 (ym (pt (aD b2) 0)) <| sQ 17 (Y_nilCheck (B := aD b2) (i := 0) rfl rfl) <| sQ 18 (yd (aD b2) 0 2 K32 K10) <| sQ 19 (yd (aD b2) 0 0 K11 K1) <| sQ 20 (yl (aD b2) 2 [vi Qubits38, .slice B195 XImages38.length c195, .slice B196 ZImages38.length c196, .slice B197 out38.length c197] (.slice B196 ZImages38.length c196) K6 (hS202.c 0)) <| sQ 21 (ym (vi q1)) ?_
           obtain ⟨x25, hx25, hc65⟩ := bI hc65
           refine sQ 22 (Y_index (B := B196) (m := ZImages38.length) (c := c196) (k := .i64) (i := q1) K2 K0 rfl rfl rfl (gi_isSome eN1 rfl (hS202.c 2) hx25) (getI_nn hx25) (getI_ltI hx25 rfl)) <| sQ 23 (ya B196 (q1.toNat * 3) (ZImages38.flatMap eN0) [vi x25.Phase, vi x25.X, vi x25.Z] K14 K0 (hS202.c 2) rfl rfl (eN1 x25) (gi_seg eN1 hx25)) ?_
           refine s0 (yT 6 3 (aD b23) 71 (.agg #[vi x25.Phase, vi x25.X, vi x25.Z]) [vi x25.Phase, vi x25.X, vi x25.Z] 0 hS202 K0) ?_
           rintro _ w_110 ⟨rfl, hS203⟩
           refine rn (ct_ ?_)
           obtain ⟨rfl, rfl, rfl⟩ := pr3 (sI hc65)
           exact ret1 Try.results61 (v1 := .agg #[vi x25.Phase, vi x25.X, vi x25.Z]) (resAt_cellA (B := aD b23) (i := 0) (cs := [vi x25.Phase, vi x25.X, vi x25.Z]) (vs := [vi x25.Phase, vi x25.X, vi x25.Z]) rfl K14 K0 (hS203.c 6) rfl rfl) ⟨rfl, (hS203.sel [4, 5, 0, 1, 2, 3] rfl rfl)⟩
          rintro _ w_108 ⟨rfl, hd65⟩
          have hd65 : ST w0 [] _ [⟨aD b, 40, [vi t.Qubits, .slice B t.XImages.length c, .slice B1 t.ZImages.length c1], 3⟩, ⟨aD b1, 28, [vi 0, .slice none 0 0], 2⟩, ⟨aD b2, 52, [vi Qubits38, .slice B195 XImages38.length c195, .slice B196 ZImages38.length c196, .slice B197 out38.length c197], 4⟩, ⟨B195, 71, (XImages38.flatMap eN0), c195 * 3⟩, ⟨B196, 71, (ZImages38.flatMap eN0), c196 * 3⟩, ⟨B197, 55, (out38.flatMap eN2), c197 * 3⟩] [⟨B151, (ZImages28.flatMap eN0)⟩, ⟨B150, (XImages28.flatMap eN0)⟩, ⟨B139, (ZImages27.flatMap eN0)⟩, ⟨B138, (XImages27.flatMap eN0)⟩, ⟨B106, (ZImages20.flatMap eN0)⟩, ⟨B105, (XImages20.flatMap eN0)⟩, ⟨B4, (ZImages.flatMap eN0)⟩, ⟨B3, (XImages.flatMap eN0)⟩, ⟨B, (t.XImages.flatMap eN0)⟩, ⟨B1, (t.ZImages.flatMap eN0)⟩] := hd65
          refine sQ 23 (ym (vi s9) rfl (hf54.g 8 3)) ?_
          obtain ⟨r_18, hc66, hz34⟩ := bI hz34
          refine sc 24 rfl rfl (yC [.agg #[vi t43, vi t44, vi t45], vi s9] K42 (c_spec_l7Letter (TPauli.mk t43 t44 t45) s9 _  (hd65.inn0 [] rfl) hc66)) ?_
          rintro _ w_111 ⟨rfl, hd66⟩
          have hS204 := hd65.out00 hd66
          have hS204 : ST w0 [] _ [⟨aD b, 40, [vi t.Qubits, .slice B t.XImages.length c, .slice B1 t.ZImages.length c1], 3⟩, ⟨aD b1, 28, [vi 0, .slice none 0 0], 2⟩, ⟨aD b2, 52, [vi Qubits38, .slice B195 XImages38.length c195, .slice B196 ZImages38.length c196, .slice B197 out38.length c197], 4⟩, ⟨B195, 71, (XImages38.flatMap eN0), c195 * 3⟩, ⟨B196, 71, (ZImages38.flatMap eN0), c196 * 3⟩, ⟨B197, 55, (out38.flatMap eN2), c197 * 3⟩] [⟨B151, (ZImages28.flatMap eN0)⟩, ⟨B150, (XImages28.flatMap eN0)⟩, ⟨B139, (ZImages27.flatMap eN0)⟩, ⟨B138, (XImages27.flatMap eN0)⟩, ⟨B106, (ZImages20.flatMap eN0)⟩, ⟨B105, (XImages20.flatMap eN0)⟩, ⟨B4, (ZImages.flatMap eN0)⟩, ⟨B3, (XImages.flatMap eN0)⟩, ⟨B, (t.XImages.flatMap eN0)⟩, ⟨B1, (t.ZImages.flatMap eN0)⟩] := hS204
          refine sQ 25 (yE r_18 2) (rn ?_)
          refine cw_cond (b := (r_18 == 2)) rfl (fun hb47 => ?_) (fun hb47 => ?_)
          ·skip
           have hF101 := ct hz34 hb47
           refine cr ?_
           refine sQ 26 (ym (pt (aD b2) 0) rfl (hf54.g 0 0)) <| sQ 27 (ym (vi s9) rfl (hf54.g 8 3)) ?_
           obtain ⟨m26, hc67, hF101⟩ := bI hF101
           refine sc 28 rfl rfl (yC [pt (aD b2) 0, vi 1, vi s9, vi 0] K43 (c_spec_l8R_add (Tl8R.mk (TTableau.mk Qubits38 XImages38 ZImages38) out38) 1 s9 0 (aD b2) B195 c195 XImages38.length B196 c196 ZImages38.length B197 c197 out38.length _ rfl rfl rfl (hS204.inn [false, false, true, false, false, true] rfl [(false, 2), (false, 3)] rfl) hc67)) ?_
           rintro _ w_112 ⟨B204, c204, B205, c205, B206, c206, rfl, hd67⟩
           have hS205 := hS204.out [false, false, true, false, false, true] rfl hd67
           refine rn ?_
           exact ⟨m26.t.Qubits, m26.t.XImages, m26.t.ZImages, m26.out, B204, c204, B205, c205, B206, c206, (sI hF101), (fc (hf54.g 0 0) (fc (hf54.g 1 1) (fc (hf54.g 2 2) (fc (hf54.g 8 3) fn_)))), (hS205.sel [4, 5, 6, 7, 0, 1] rfl rfl)⟩
          ·skip
           have hF102 := cf' hz34 hb47
           refine cw_skip ?_
           exact ⟨Qubits38, XImages38, ZImages38, out38, B195, c195, B196, c196, B197, c197, (sI hF102), (fc (hf54.g 0 0) (fc (hf54.g 1 1) (fc (hf54.g 2 2) (fc (hf54.g 8 3) fn_)))), (hS204.sel [2, 3, 4, 5, 0, 1] rfl rfl)⟩
         rintro f w ⟨Qubits40, XImages40, ZImages40, out40, B201, c201, B202, c202, B203, c203, rfl, hf56, hS198⟩
         refine cq (cr ?_)
         refine sQ 29 (ym (pt (aD b2) 0) rfl (hf56.g 0 0)) <| sQ 30 (ym (.bool false) rfl (hf56.g 1 1)) <| sQ 31 (ym (vi q1) rfl (hf56.g 2 2)) ?_
         obtain ⟨⟨t46, t47, t48⟩, hc68, hF100⟩ := bI hF100
         refine sc 32 rfl rfl (Yc_func (g := 61) (vs := [pt (aD b2) 0, .bool false, vi q1]) (R := fun v w' => v = .agg #[vi t46, vi t47, vi t48] ∧ ST w0 [] w' [⟨aD b, 40, [vi t.Qubits, .slice B t.XImages.length c, .slice B1 t.ZImages.length c1], 3⟩, ⟨aD b1, 28, [vi 0, .slice none 0 0], 2⟩, ⟨aD b2, 52, [vi Qubits40, .slice B201 XImages40.length c201, .slice B202 ZImages40.length c202, .slice B203 out40.length c203], 4⟩, ⟨B201, 71, (XImages40.flatMap eN0), c201 * 3⟩, ⟨B202, 71, (ZImages40.flatMap eN0), c202 * 3⟩, ⟨B203, 55, (out40.flatMap eN2), c203 * 3⟩] [⟨B151, (ZImages28.flatMap eN0)⟩, ⟨B150, (XImages28.flatMap eN0)⟩, ⟨B139, (ZImages27.flatMap eN0)⟩, ⟨B138, (XImages27.flatMap eN0)⟩, ⟨B106, (ZImages20.flatMap eN0)⟩, ⟨B105, (XImages20.flatMap eN0)⟩, ⟨B4, (ZImages.flatMap eN0)⟩, ⟨B3, (XImages.flatMap eN0)⟩, ⟨B, (t.XImages.flatMap eN0)⟩, ⟨B1, (t.ZImages.flatMap eN0)⟩]) K55 rfl (mc rfl (mc rfl (mc rfl mn))) ?cv) ?_
         case cv =>
          show CV Try.prog 61 #[pt (aD b2) 0, .bool false, vi q1] _ _
          refine cv_of_cw 24 Try.func61 rfl Try.ntmps61 rfl ?_
          refine cq (cr ?_)
          refine sS 6 (yN [vi 0, vi 0, vi 0] 3 hS198 K5) ?_
          rintro _ w_116 ⟨b25, rfl, hS209⟩
          refine rn (cq (cq (cr ?_)))
          refine sQ 7 (ym (.bool false)) (rn ?_)
          refine cw_cond (b := false) rfl (fun h => by cases h) (fun _ => ?_)
          refine cw_skip (cq (cr ?_))
          refine sQ 16 (ym (pt (aD b2) 0)) <| sQ 17 (Y_nilCheck (B := aD b2) (i := 0) rfl rfl) <| sQ 18 (yd (aD b2) 0 2 K32 K10) <| sQ 19 (yd (aD b2) 0 0 K11 K1) <| sQ 20 (yl (aD b2) 2 [vi Qubits40, .slice B201 XImages40.length c201, .slice B202 ZImages40.length c202, .slice B203 out40.length c203] (.slice B202 ZImages40.length c202) K6 (hS209.c 0)) <| sQ 21 (ym (vi q1)) ?_
          obtain ⟨x27, hx27, hc68⟩ := bI hc68
          refine sQ 22 (Y_index (B := B202) (m := ZImages40.length) (c := c202) (k := .i64) (i := q1) K2 K0 rfl rfl rfl (gi_isSome eN1 rfl (hS209.c 2) hx27) (getI_nn hx27) (getI_ltI hx27 rfl)) <| sQ 23 (ya B202 (q1.toNat * 3) (ZImages40.flatMap eN0) [vi x27.Phase, vi x27.X, vi x27.Z] K14 K0 (hS209.c 2) rfl rfl (eN1 x27) (gi_seg eN1 hx27)) ?_
          refine s0 (yT 6 3 (aD b25) 71 (.agg #[vi x27.Phase, vi x27.X, vi x27.Z]) [vi x27.Phase, vi x27.X, vi x27.Z] 0 hS209 K0) ?_
          rintro _ w_117 ⟨rfl, hS210⟩
          refine rn (ct_ ?_)
          obtain ⟨rfl, rfl, rfl⟩ := pr3 (sI hc68)
          exact ret1 Try.results61 (v1 := .agg #[vi x27.Phase, vi x27.X, vi x27.Z]) (resAt_cellA (B := aD b25) (i := 0) (cs := [vi x27.Phase, vi x27.X, vi x27.Z]) (vs := [vi x27.Phase, vi x27.X, vi x27.Z]) rfl K14 K0 (hS210.c 6) rfl rfl) ⟨rfl, (hS210.sel [4, 5, 0, 1, 2, 3] rfl rfl)⟩
         rintro _ w_115 ⟨rfl, hd68⟩
         have hd68 : ST w0 [] _ [⟨aD b, 40, [vi t.Qubits, .slice B t.XImages.length c, .slice B1 t.ZImages.length c1], 3⟩, ⟨aD b1, 28, [vi 0, .slice none 0 0], 2⟩, ⟨aD b2, 52, [vi Qubits40, .slice B201 XImages40.length c201, .slice B202 ZImages40.length c202, .slice B203 out40.length c203], 4⟩, ⟨B201, 71, (XImages40.flatMap eN0), c201 * 3⟩, ⟨B202, 71, (ZImages40.flatMap eN0), c202 * 3⟩, ⟨B203, 55, (out40.flatMap eN2), c203 * 3⟩] [⟨B151, (ZImages28.flatMap eN0)⟩, ⟨B150, (XImages28.flatMap eN0)⟩, ⟨B139, (ZImages27.flatMap eN0)⟩, ⟨B138, (XImages27.flatMap eN0)⟩, ⟨B106, (ZImages20.flatMap eN0)⟩, ⟨B105, (XImages20.flatMap eN0)⟩, ⟨B4, (ZImages.flatMap eN0)⟩, ⟨B3, (XImages.flatMap eN0)⟩, ⟨B, (t.XImages.flatMap eN0)⟩, ⟨B1, (t.ZImages.flatMap eN0)⟩] := hd68
         refine sQ 33 (ym (vi s9) rfl (hf56.g 8 3)) ?_
         obtain ⟨r_19, hc69, hF100⟩ := bI hF100
         refine sc 34 rfl rfl (yC [.agg #[vi t46, vi t47, vi t48], vi s9] K42 (c_spec_l7Letter (TPauli.mk t46 t47 t48) s9 _  (hd68.inn0 [] rfl) hc69)) ?_
         rintro _ w_118 ⟨rfl, hd69⟩
         have hS211 := hd68.out00 hd69
         have hS211 : ST w0 [] _ [⟨aD b, 40, [vi t.Qubits, .slice B t.XImages.length c, .slice B1 t.ZImages.length c1], 3⟩, ⟨aD b1, 28, [vi 0, .slice none 0 0], 2⟩, ⟨aD b2, 52, [vi Qubits40, .slice B201 XImages40.length c201, .slice B202 ZImages40.length c202, .slice B203 out40.length c203], 4⟩, ⟨B201, 71, (XImages40.flatMap eN0), c201 * 3⟩, ⟨B202, 71, (ZImages40.flatMap eN0), c202 * 3⟩, ⟨B203, 55, (out40.flatMap eN2), c203 * 3⟩] [⟨B151, (ZImages28.flatMap eN0)⟩, ⟨B150, (XImages28.flatMap eN0)⟩, ⟨B139, (ZImages27.flatMap eN0)⟩, ⟨B138, (XImages27.flatMap eN0)⟩, ⟨B106, (ZImages20.flatMap eN0)⟩, ⟨B105, (XImages20.flatMap eN0)⟩, ⟨B4, (ZImages.flatMap eN0)⟩, ⟨B3, (XImages.flatMap eN0)⟩, ⟨B, (t.XImages.flatMap eN0)⟩, ⟨B1, (t.ZImages.flatMap eN0)⟩] := hS211
         refine sQ 35 (yE r_19 3) (rn ?_)
         refine cw_cond (b := (r_19 == 3)) rfl (fun hb48 => ?_) (fun hb48 => ?_)
         ·skip
          have hF103 := ct hF100 hb48
          refine cr ?_
          refine sQ 36 (ym (pt (aD b2) 0) rfl (hf56.g 0 0)) <| sQ 37 (ym (vi s9) rfl (hf56.g 8 3)) ?_
          obtain ⟨m27, hc70, hF103⟩ := bI hF103
          refine sc 38 rfl rfl (yC [pt (aD b2) 0, vi 5, vi s9, vi 0] K43 (c_spec_l8R_add (Tl8R.mk (TTableau.mk Qubits40 XImages40 ZImages40) out40) 5 s9 0 (aD b2) B201 c201 XImages40.length B202 c202 ZImages40.length B203 c203 out40.length _ rfl rfl rfl (hS211.inn [false, false, true, false, false, true] rfl [(false, 2), (false, 3)] rfl) hc70)) ?_
          rintro _ w_119 ⟨B207, c207, B208, c208, B209, c209, rfl, hd70⟩
          have hS212 := hS211.out [false, false, true, false, false, true] rfl hd70
          refine rn ?_
          exact ⟨m27.t.Qubits, m27.t.XImages, m27.t.ZImages, m27.out, B207, c207, B208, c208, B209, c209, (sI hF103), (fc (hf56.g 0 0) (fc (hf56.g 1 1) (fc (hf56.g 2 2) (fc (hf56.g 8 3) fn_)))), (hS212.sel [4, 5, 6, 7, 0, 1] rfl rfl)⟩
         ·skip
          have hF104 := cf' hF100 hb48
          refine cw_skip ?_
          exact ⟨Qubits40, XImages40, ZImages40, out40, B201, c201, B202, c202, B203, c203, (sI hF104), (fc (hf56.g 0 0) (fc (hf56.g 1 1) (fc (hf56.g 2 2) (fc (hf56.g 8 3) fn_)))), (hS211.sel [2, 3, 4, 5, 0, 1] rfl rfl)⟩
        rintro f w ⟨Qubits39, XImages39, ZImages39, out39, B198, c198, B199, c199, B200, c200, rfl, hf55, hS197⟩
        refine cr ?_
        refine sQ 17 (ym (vi s9) rfl (hf55.g 8 3)) <| sQ 18 (yP s9 1) <| sQ 8 (yg (vi (i64.wrap (s9 + 1)))) (rn ?_)
        obtain rfl := sI hF99
        exact ⟨K74, Nat.lt_succ_self _, Qubits39, XImages39, ZImages39, out39, (i64.wrap (s9 + 1)), B198, c198, B199, c199, B200, c200, (fc (hf55.g 0 0) (fc (hf55.g 1 1) (fc (hf55.g 2 2) (fc rfl fn_)))), (hS197.sel [0, 1, 2, 3, 4, 5] rfl rfl), hL25⟩
       ·skip
        have hF105 := cf' hb45 hb46
        refine cw_exit rfl ?_
        obtain rfl := sI hF105
        obtain rfl := sI hL25
        obtain ⟨rfl, rfl, rfl, rfl⟩ := pr4 (sI hF97)
        exact ret0 Try.results37  ⟨B195, c195, B196, c196, B197, c197, rfl, rfl, rfl, rfl, (hS196.sel [4, 5, 0, 1, 2, 3] rfl rfl)⟩
      rintro _ w_105 ⟨B177, c177, B178, c178, B179, c179, rfl, hl18, hl19, hl20, hd64⟩
      have hd64 : ST w0 [] _ [⟨aD b, 40, [vi t.Qubits, .slice B t.XImages.length c, .slice B1 t.ZImages.length c1], 3⟩, ⟨aD b1, 28, [vi 0, .slice none 0 0], 2⟩, ⟨aD b2, 52, [vi Qubits34, .slice B177 XImages34.length c177, .slice B178 ZImages34.length c178, .slice B179 out34.length c179], 4⟩, ⟨B177, 71, (XImages34.flatMap eN0), c177 * 3⟩, ⟨B178, 71, (ZImages34.flatMap eN0), c178 * 3⟩, ⟨B179, 55, (out34.flatMap eN2), c179 * 3⟩] [⟨B151, (ZImages28.flatMap eN0)⟩, ⟨B150, (XImages28.flatMap eN0)⟩, ⟨B139, (ZImages27.flatMap eN0)⟩, ⟨B138, (XImages27.flatMap eN0)⟩, ⟨B106, (ZImages20.flatMap eN0)⟩, ⟨B105, (XImages20.flatMap eN0)⟩, ⟨B4, (ZImages.flatMap eN0)⟩, ⟨B3, (XImages.flatMap eN0)⟩, ⟨B, (t.XImages.flatMap eN0)⟩, ⟨B1, (t.ZImages.flatMap eN0)⟩] := hd64
      refine rn (cq ?_)
      obtain ⟨z35, hz35, hF106⟩ := bI hF87
      refine cw_mid (fun f w => ∃ (Qubits41 : Int) (XImages41 : List TPauli) (ZImages41 : List TPauli) (out41 : List TGate) (B210 : Option Addr) (c210 : Nat) (B211 : Option Addr) (c211 : Nat) (B212 : Option Addr) (c212 : Nat), (Qubits41, XImages41, ZImages41, out41) = z35 ∧ FF f [(0, pt (aD b2) 0), (1, vi q1)] ∧ ST w0 [] w [⟨aD b2, 52, [vi Qubits41, .slice B210 XImages41.length c210, .slice B211 ZImages41.length c211, .slice B212 out41.length c212], 4⟩, ⟨B210, 71, (XImages41.flatMap eN0), c210 * 3⟩, ⟨B211, 71, (ZImages41.flatMap eN0), c211 * 3⟩, ⟨B212, 55, (out41.flatMap eN2), c212 * 3⟩, ⟨aD b, 40, [vi t.Qubits, .slice B t.XImages.length c, .slice B1 t.ZImages.length c1], 3⟩, ⟨aD b1, 28, [vi 0, .slice none 0 0], 2⟩] [⟨B151, (ZImages28.flatMap eN0)⟩, ⟨B150, (XImages28.flatMap eN0)⟩, ⟨B139, (ZImages27.flatMap eN0)⟩, ⟨B138, (XImages27.flatMap eN0)⟩, ⟨B106, (ZImages20.flatMap eN0)⟩, ⟨B105, (XImages20.flatMap eN0)⟩, ⟨B4, (ZImages.flatMap eN0)⟩, ⟨B3, (XImages.flatMap eN0)⟩, ⟨B, (t.XImages.flatMap eN0)⟩, ⟨B1, (t.ZImages.flatMap eN0)⟩]) ?_ ?_
      ·skip
       refine cq (cr ?_)
       refine sQ 69 (ym (pt (aD b2) 0) rfl (hf39.g 0 0)) <| sQ 70 (Y_nilCheck (B := aD b2) (i := 0) rfl rfl) <| sQ 71 (yd (aD b2) 0 2 K32 K10) <| sQ 72 (yd (aD b2) 0 0 K11 K1) <| sQ 73 (yl (aD b2) 2 [vi Qubits34, .slice B177 XImages34.length c177, .slice B178 ZImages34.length c178, .slice B179 out34.length c179] (.slice B178 ZImages34.length c178) K6 (hd64.cf (i := 2) rfl)) <| sQ 74 (ym (vi q1) rfl (hf39.g 1 1)) ?_
       obtain ⟨x28, hx28, hz35⟩ := bI hz35
       refine sQ 75 (Y_index (B := B178) (m := ZImages34.length) (c := c178) (k := .i64) (i := q1) K2 K0 rfl rfl rfl (gi_isSome eN1 rfl (hd64.cf (i := 4) rfl) hx28) (getI_nn hx28) (getI_ltI hx28 hl19)) <| sQ 76 (ya B178 (q1.toNat * 3) (ZImages34.flatMap eN0) [vi x28.Phase, vi x28.X, vi x28.Z] K14 K0 (hd64.cf (i := 4) rfl) rfl rfl (eN1 x28) (gi_seg eN1 hx28)) <| sQ 77 (ym (vi q1) rfl (hf39.g 1 1)) ?_
       obtain ⟨r_20, hc71, hz35⟩ := bI hz35
       refine sc 78 rfl rfl (yC [.agg #[vi x28.Phase, vi x28.X, vi x28.Z], vi q1] K42 (c_spec_l7Letter x28 q1 _  (hd64.inn0 [] rfl) hc71)) ?_
       rintro _ w_120 ⟨rfl, hd71⟩
       have hS214 := hd64.out00 hd71
       refine sQ 79 (yE r_20 3) (rn ?_)
       refine cw_cond (b := (r_20 == 3)) rfl (fun hb49 => ?_) (fun hb49 => ?_)
       ·skip
        have hF107 := ct hz35 hb49
        refine cr ?_
        refine sQ 80 (ym (pt (aD b2) 0) rfl (hf39.g 0 0)) <| sQ 81 (ym (vi q1) rfl (hf39.g 1 1)) ?_
        obtain ⟨m28, hc72, hF107⟩ := bI hF107
        refine sc 82 rfl rfl (yC [pt (aD b2) 0, vi 5, vi q1, vi 0] K43 (c_spec_l8R_add (Tl8R.mk (TTableau.mk Qubits34 XImages34 ZImages34) out34) 5 q1 0 (aD b2) B177 c177 XImages34.length B178 c178 ZImages34.length B179 c179 out34.length _ hl18 hl19 hl20 (hS214.inn [false, false, true, false, false, true] rfl [(false, 2), (false, 3)] rfl) hc72)) ?_
        rintro _ w_121 ⟨B213, c213, B214, c214, B215, c215, rfl, hd72⟩
        have hS215 := hS214.out [false, false, true, false, false, true] rfl hd72
        refine rn ?_
        exact ⟨m28.t.Qubits, m28.t.XImages, m28.t.ZImages, m28.out, B213, c213, B214, c214, B215, c215, (sI hF107), (fc (hf39.g 0 0) (fc (hf39.g 1 1) fn_)), (hS215.sel [4, 5, 6, 7, 0, 1] rfl rfl)⟩
       ·skip
        have hF108 := cf' hz35 hb49
        refine cw_skip ?_
        exact ⟨Qubits34, XImages34, ZImages34, out34, B177, c177, B178, c178, B179, c179, (sI hF108), (fc (hf39.g 0 0) (fc (hf39.g 1 1) fn_)), (by rw [(hl18 : XImages34.length = XImages34.length), (hl19 : ZImages34.length = ZImages34.length), (hl20 : out34.length = out34.length)]; exact hS214.sel [2, 3, 4, 5, 0, 1] rfl rfl)⟩
      rintro f w ⟨Qubits41, XImages41, ZImages41, out41, B210, c210, B211, c211, B212, c212, rfl, hf59, hS213⟩
      refine cq (cr ?_)
      refine sQ 83 (ym (pt (aD b2) 0) rfl (hf59.g 0 0)) <| sQ 84 (ym (vi q1) rfl (hf59.g 1 1)) ?_
      obtain ⟨⟨Qubits42, XImages42, ZImages42, out42⟩, hc76, hF106⟩ := bI hF106
      refine sc 85 rfl rfl (Yc_func (g := 40) (vs := [pt (aD b2) 0, .bool false, vi q1]) (R := fun v w' => ∃ (B216 : Option Addr) (c216 : Nat) (B217 : Option Addr) (c217 : Nat) (B218 : Option Addr) (c218 : Nat), v = .tuple #[] ∧ XImages42.length = XImages42.length ∧ ZImages42.length = ZImages42.length ∧ out42.length = out42.length ∧ ST w0 [] w' [⟨aD b, 40, [vi t.Qubits, .slice B t.XImages.length c, .slice B1 t.ZImages.length c1], 3⟩, ⟨aD b1, 28, [vi 0, .slice none 0 0], 2⟩, ⟨aD b2, 52, [vi Qubits42, .slice B216 XImages42.length c216, .slice B217 ZImages42.length c217, .slice B218 out42.length c218], 4⟩, ⟨B216, 71, (XImages42.flatMap eN0), c216 * 3⟩, ⟨B217, 71, (ZImages42.flatMap eN0), c217 * 3⟩, ⟨B218, 55, (out42.flatMap eN2), c218 * 3⟩] [⟨B151, (ZImages28.flatMap eN0)⟩, ⟨B150, (XImages28.flatMap eN0)⟩, ⟨B139, (ZImages27.flatMap eN0)⟩, ⟨B138, (XImages27.flatMap eN0)⟩, ⟨B106, (ZImages20.flatMap eN0)⟩, ⟨B105, (XImages20.flatMap eN0)⟩, ⟨B4, (ZImages.flatMap eN0)⟩, ⟨B3, (XImages.flatMap eN0)⟩, ⟨B, (t.XImages.flatMap eN0)⟩, ⟨B1, (t.ZImages.flatMap eN0)⟩]) k_call_40 rfl (mc rfl (mc rfl (mc rfl mn))) ?cv) ?_
      case cv =>
       show CV Try.prog 40 #[pt (aD b2) 0, .bool false, vi q1] _ _
       refine cv_of_cw 29 Try.func40 rfl Try.ntmps40 rfl ?_
       refine cq (cr ?_)
       refine sQ 7 (ym (vi q1)) <| sQ 8 (yP q1 1) <| sQ 6 (yg (vi (i64.wrap (q1 + 1)))) (rn ?_)
       obtain ⟨z38, hz38, hF115⟩ := bI hc76
       refine cw_block ?_
       refine cw_loop (fun k f w => ∃ (Qubits45 : Int) (XImages45 : List TPauli) (ZImages45 : List TPauli) (out45 : List TGate) (s11 : Int) (B228 : Option Addr) (c228 : Nat) (B229 : Option Addr) (c229 : Nat) (B230 : Option Addr) (c230 : Nat), FF f [(0, pt (aD b2) 0), (1, .bool false), (2, vi q1), (6, vi s11)] ∧ ST w0 [] w [⟨aD b2, 52, [vi Qubits45, .slice B228 XImages45.length c228, .slice B229 ZImages45.length c229, .slice B230 out45.length c230], 4⟩, ⟨B228, 71, (XImages45.flatMap eN0), c228 * 3⟩, ⟨B229, 71, (ZImages45.flatMap eN0), c229 * 3⟩, ⟨B230, 55, (out45.flatMap eN2), c230 * 3⟩, ⟨aD b, 40, [vi t.Qubits, .slice B t.XImages.length c, .slice B1 t.ZImages.length c1], 3⟩, ⟨aD b1, 28, [vi 0, .slice none 0 0], 2⟩] [⟨B151, (ZImages28.flatMap eN0)⟩, ⟨B150, (XImages28.flatMap eN0)⟩, ⟨B139, (ZImages27.flatMap eN0)⟩, ⟨B138, (XImages27.flatMap eN0)⟩, ⟨B106, (ZImages20.flatMap eN0)⟩, ⟨B105, (XImages20.flatMap eN0)⟩, ⟨B4, (ZImages.flatMap eN0)⟩, ⟨B3, (XImages.flatMap eN0)⟩, ⟨B, (t.XImages.flatMap eN0)⟩, ⟨B1, (t.ZImages.flatMap eN0)⟩] ∧ whX (F_spec_l8Synthesize_l6 q1) k (Qubits45, XImages45, ZImages45, out45, s11) = some z38) fuel ⟨Qubits41, XImages41, ZImages41, out41, (i64.wrap (q1 + 1)), B210, c210, B211, c211, B212, c212, (fc rfl (fc rfl (fc rfl (fc rfl fn_)))), (hS213.sel [0, 1, 2, 3, 4, 5] rfl rfl), hz38⟩ ?_
       rintro k_28 f w ⟨Qubits45, XImages45, ZImages45, out45, s11, B228, c228, B229, c229, B230, c230, hf64, hS224, hL28⟩
       obtain ⟨k_29, y14, rfl, hb53, hL29⟩ := whX_go hL28
       unfold F_spec_l8Synthesize_l6 at hb53
       refine cq (cq (cr ?_))
       refine sQ 9 (ym (vi s11) rfl (hf64.g 6 3)) <| sQ 10 (ym (pt (aD b2) 0) rfl (hf64.g 0 0)) <| sQ 11 (Y_nilCheck (B := aD b2) (i := 0) rfl rfl) <| sQ 12 (yd (aD b2) 0 2 K32 K10) <| sQ 13 (yd (aD b2) 0 0 K30 K3) <| sQ 14 (yl (aD b2) 0 [vi Qubits45, .slice B228 XImages45.length c228, .slice B229 ZImages45.length c229, .slice B230 out45.length c230] (vi Qubits45) K4 (hS224.c 0)) ?_
       refine sQ 15 (yL s11 Qubits45) (rn ?_)
       refine cw_cond (b := (decide (s11 < Qubits45))) rfl (fun hb54 => ?_) (fun hb54 => ?_)
       ·skip
        have hF116 := ct hb53 hb54
        refine cw_skip (cq ?_)
        obtain ⟨z39, hz39, hF117⟩ := bI hF116
        refine cw_mid (fun f w => ∃ (Qubits46 : Int) (XImages46 : List TPauli) (ZImages46 : List TPauli) (out46 : List TGate) (B231 : Option Addr) (c231 : Nat) (B232 : Option Addr) (c232 : Nat) (B233 : Option Addr) (c233 : Nat), (Qubits46, XImages46, ZImages46, out46) = z39 ∧ FF f [(0, pt (aD b2) 0), (1, .bool false), (2, vi q1), (6, vi s11)] ∧ ST w0 [] w [⟨aD b2, 52, [vi Qubits46, .slice B231 XImages46.length c231, .slice B232 ZImages46.length c232, .slice B233 out46.length c233], 4⟩, ⟨B231, 71, (XImages46.flatMap eN0), c231 * 3⟩, ⟨B232, 71, (ZImages46.flatMap eN0), c232 * 3⟩, ⟨B233, 55, (out46.flatMap eN2), c233 * 3⟩, ⟨aD b, 40, [vi t.Qubits, .slice B t.XImages.length c, .slice B1 t.ZImages.length c1], 3⟩, ⟨aD b1, 28, [vi 0, .slice none 0 0], 2⟩] [⟨B151, (ZImages28.flatMap eN0)⟩, ⟨B150, (XImages28.flatMap eN0)⟩, ⟨B139, (ZImages27.flatMap eN0)⟩, ⟨B138, (XImages27.flatMap eN0)⟩, ⟨B106, (ZImages20.flatMap eN0)⟩, ⟨B105, (XImages20.flatMap eN0)⟩, ⟨B4, (ZImages.flatMap eN0)⟩, ⟨B3, (XImages.flatMap eN0)⟩, ⟨B, (t.XImages.flatMap eN0)⟩, ⟨B1, (t.ZImages.flatMap eN0)⟩]) ?_ ?_
        ·skip
         refine cw_block (cq (cr ?_))
         refine sQ 18 (ym (pt (aD b2) 0) rfl (hf64.g 0 0)) <| sQ 19 (ym (.bool false) rfl (hf64.g 1 1)) <| sQ 20 (ym (vi q1) rfl (hf64.g 2 2)) ?_
         obtain ⟨⟨t52, t53, t54⟩, hc77, hz39⟩ := bI hz39
         refine sc 21 rfl rfl (Yc_func (g := 61) (vs := [pt (aD b2) 0, .bool false, vi q1]) (R := fun v w' => v = .agg #[vi t52, vi t53, vi t54] ∧ ST w0 [] w' [⟨aD b, 40, [vi t.Qubits, .slice B t.XImages.length c, .slice B1 t.ZImages.length c1], 3⟩, ⟨aD b1, 28, [vi 0, .slice none 0 0], 2⟩, ⟨aD b2, 52, [vi Qubits45, .slice B228 XImages45.length c228, .slice B229 ZImages45.length c229, .slice B230 out45.length c230], 4⟩, ⟨B228, 71, (XImages45.flatMap eN0), c228 * 3⟩, ⟨B229, 71, (ZImages45.flatMap eN0), c229 * 3⟩, ⟨B230, 55, (out45.flatMap eN2), c230 * 3⟩] [⟨B151, (ZImages28.flatMap eN0)⟩, ⟨B150, (XImages28.flatMap eN0)⟩, ⟨B139, (ZImages27.flatMap eN0)⟩, ⟨B138, (XImages27.flatMap eN0)⟩, ⟨B106, (ZImages20.flatMap eN0)⟩, ⟨B105, (XImages20.flatMap eN0)⟩, ⟨B4, (ZImages.flatMap eN0)⟩, ⟨B3, (XImages.flatMap eN0)⟩, ⟨B, (t.XImages.flatMap eN0)⟩, ⟨B1, (t.ZImages.flatMap eN0)⟩]) K55 rfl (mc rfl (mc rfl (mc rfl mn))) ?cv) ?_
         case cv =>
          show CV Try.prog 61 #[pt (aD b2) 0, .bool false, vi q1] _ _
          refine cv_of_cw 24 Try.func61 rfl Try.ntmps61 rfl ?_
          refine cq (cr ?_)
          refine sS 6 (yN [vi 0, vi 0, vi 0] 3 hS224 K5) ?_
          rintro _ w_131 ⟨b28, rfl, hS229⟩
          have hS229 : ST w0 [] _ [⟨aD b2, 52, [vi Qubits45, .slice B228 XImages45.length c228, .slice B229 ZImages45.length c229, .slice B230 out45.length c230], 4⟩, ⟨B228, 71, (XImages45.flatMap eN0), c228 * 3⟩, ⟨B229, 71, (ZImages45.flatMap eN0), c229 * 3⟩, ⟨B230, 55, (out45.flatMap eN2), c230 * 3⟩, ⟨aD b, 40, [vi t.Qubits, .slice B t.XImages.length c, .slice B1 t.ZImages.length c1], 3⟩, ⟨aD b1, 28, [vi 0, .slice none 0 0], 2⟩, ⟨aD b28, 71, [vi 0, vi 0, vi 0], 3⟩] [⟨B151, (ZImages28.flatMap eN0)⟩, ⟨B150, (XImages28.flatMap eN0)⟩, ⟨B139, (ZImages27.flatMap eN0)⟩, ⟨B138, (XImages27.flatMap eN0)⟩, ⟨B106, (ZImages20.flatMap eN0)⟩, ⟨B105, (XImages20.flatMap eN0)⟩, ⟨B4, (ZImages.flatMap eN0)⟩, ⟨B3, (XImages.flatMap eN0)⟩, ⟨B, (t.XImages.flatMap eN0)⟩, ⟨B1, (t.ZImages.flatMap eN0)⟩] := hS229
          refine rn (cq (cq (cr ?_)))
          refine sQ 7 (ym (.bool false)) (rn ?_)
          refine cw_cond (b := false) rfl (fun h => by cases h) (fun _ => ?_)
          refine cw_skip (cq (cr ?_))
          refine sQ 16 (ym (pt (aD b2) 0)) <| sQ 17 (Y_nilCheck (B := aD b2) (i := 0) rfl rfl) <| sQ 18 (yd (aD b2) 0 2 K32 K10) <| sQ 19 (yd (aD b2) 0 0 K11 K1) <| sQ 20 (yl (aD b2) 2 [vi Qubits45, .slice B228 XImages45.length c228, .slice B229 ZImages45.length c229, .slice B230 out45.length c230] (.slice B229 ZImages45.length c229) K6 (hS229.c 0)) <| sQ 21 (ym (vi q1)) ?_
          obtain ⟨x31, hx31, hc77⟩ := bI hc77
          refine sQ 22 (Y_index (B := B229) (m := ZImages45.length) (c := c229) (k := .i64) (i := q1) K2 K0 rfl rfl rfl (gi_isSome eN1 rfl (hS229.c 2) hx31) (getI_nn hx31) (getI_ltI hx31 rfl)) <| sQ 23 (ya B229 (q1.toNat * 3) (ZImages45.flatMap eN0) [vi x31.Phase, vi x31.X, vi x31.Z] K14 K0 (hS229.c 2) rfl rfl (eN1 x31) (gi_seg eN1 hx31)) ?_
          refine s0 (yT 6 3 (aD b28) 71 (.agg #[vi x31.Phase, vi x31.X, vi x31.Z]) [vi x31.Phase, vi x31.X, vi x31.Z] 0 hS229 K0) ?_
          rintro _ w_132 ⟨rfl, hS230⟩
          refine rn (ct_ ?_)
          obtain ⟨rfl, rfl, rfl⟩ := pr3 (sI hc77)
          exact ret1 Try.results61 (v1 := .agg #[vi x31.Phase, vi x31.X, vi x31.Z]) (resAt_cellA (B := aD b28) (i := 0) (cs := [vi x31.Phase, vi x31.X, vi x31.Z]) (vs := [vi x31.Phase, vi x31.X, vi x31.Z]) rfl K14 K0 (hS230.c 6) rfl rfl) ⟨rfl, (hS230.sel [4, 5, 0, 1, 2, 3] rfl rfl)⟩
         rintro _ w_130 ⟨rfl, hd77⟩
         have hd77 : ST w0 [] _ [⟨aD b, 40, [vi t.Qubits, .slice B t.XImages.length c, .slice B1 t.ZImages.length c1], 3⟩, ⟨aD b1, 28, [vi 0, .slice none 0 0], 2⟩, ⟨aD b2, 52, [vi Qubits45, .slice B228 XImages45.length c228, .slice B229 ZImages45.length c229, .slice B230 out45.length c230], 4⟩, ⟨B228, 71, (XImages45.flatMap eN0), c228 * 3⟩, ⟨B229, 71, (ZImages45.flatMap eN0), c229 * 3⟩, ⟨B230, 55, (out45.flatMap eN2), c230 * 3⟩] [⟨B151, (ZImages28.flatMap eN0)⟩, ⟨B150, (XImages28.flatMap eN0)⟩, ⟨B139, (ZImages27.flatMap eN0)⟩, ⟨B138, (XImages27.flatMap eN0)⟩, ⟨B106, (ZImages20.flatMap eN0)⟩, ⟨B105, (XImages20.flatMap eN0)⟩, ⟨B4, (ZImages.flatMap eN0)⟩, ⟨B3, (XImages.flatMap eN0)⟩, ⟨B, (t.XImages.flatMap eN0)⟩, ⟨B1, (t.ZImages.flatMap eN0)⟩] := hd77
         refine sQ 22 (ym (vi s11) rfl (hf64.g 6 3)) ?_
         obtain ⟨r_22, hc78, hz39⟩ := bI hz39
         refine sc 23 rfl rfl (yC [.agg #[vi t52, vi t53, vi t54], vi s11] K42 (c_spec_l7Letter (TPauli.mk t52 t53 t54) s11 _  (hd77.inn0 [] rfl) hc78)) ?_
         rintro _ w_133 ⟨rfl, hd78⟩
         have hS231 := hd77.out00 hd78
         refine sQ 24 (yE r_22 1) (rn ?_)
         refine cw_cond (b := (r_22 == 1)) rfl (fun hb55 => ?_) (fun hb55 => ?_)
         ·skip
          have hF118 := ct hz39 hb55
          refine cr ?_
          refine sQ 25 (ym (pt (aD b2) 0) rfl (hf64.g 0 0)) <| sQ 26 (ym (vi q1) rfl (hf64.g 2 2)) <| sQ 27 (ym (vi s11) rfl (hf64.g 6 3)) ?_
          obtain ⟨m30, hc79, hF118⟩ := bI hF118
          refine sc 28 rfl rfl (yC [pt (aD b2) 0, vi 9, vi q1, vi s11] K43 (c_spec_l8R_add (Tl8R.mk (TTableau.mk Qubits45 XImages45 ZImages45) out45) 9 q1 s11 (aD b2) B228 c228 XImages45.length B229 c229 ZImages45.length B230 c230 out45.length _ rfl rfl rfl (hS231.inn [false, false, true, false, false, true] rfl [(false, 2), (false, 3)] rfl) hc79)) ?_
          rintro _ w_134 ⟨B234, c234, B235, c235, B236, c236, rfl, hd79⟩
          have hS232 := hS231.out [false, false, true, false, false, true] rfl hd79
          refine rn ?_
          exact ⟨m30.t.Qubits, m30.t.XImages, m30.t.ZImages, m30.out, B234, c234, B235, c235, B236, c236, (sI hF118), (fc (hf64.g 0 0) (fc (hf64.g 1 1) (fc (hf64.g 2 2) (fc (hf64.g 6 3) fn_)))), (hS232.sel [4, 5, 6, 7, 0, 1] rfl rfl)⟩
         ·skip
          have hF119 := cf' hz39 hb55
          refine cw_skip ?_
          exact ⟨Qubits45, XImages45, ZImages45, out45, B228, c228, B229, c229, B230, c230, (sI hF119), (fc (hf64.g 0 0) (fc (hf64.g 1 1) (fc (hf64.g 2 2) (fc (hf64.g 6 3) fn_)))), (hS231.sel [2, 3, 4, 5, 0, 1] rfl rfl)⟩
        rintro f w ⟨Qubits46, XImages46, ZImages46, out46, B231, c231, B232, c232, B233, c233, rfl, hf65, hS225⟩
        refine cr ?_
        refine sQ 16 (ym (vi s11) rfl (hf65.g 6 3)) <| sQ 17 (yP s11 1) <| sQ 6 (yg (vi (i64.wrap (s11 + 1)))) (rn ?_)
        obtain rfl := sI hF117
        exact ⟨k_29, Nat.lt_succ_self _, Qubits46, XImages46, ZImages46, out46, (i64.wrap (s11 + 1)), B231, c231, B232, c232, B233, c233, (fc (hf65.g 0 0) (fc (hf65.g 1 1) (fc (hf65.g 2 2) (fc rfl fn_)))), (hS225.sel [0, 1, 2, 3, 4, 5] rfl rfl), hL29⟩
       ·skip
        have hF120 := cf' hb53 hb54
        refine cw_exit rfl ?_
        obtain rfl := sI hF120
        obtain rfl := sI hL29
        obtain ⟨rfl, rfl, rfl, rfl⟩ := pr4 (sI hF115)
        exact ret0 Try.results40  ⟨B228, c228, B229, c229, B230, c230, rfl, rfl, rfl, rfl, (hS224.sel [4, 5, 0, 1, 2, 3] rfl rfl)⟩
      rintro _ w_127 ⟨B216, c216, B217, c217, B218, c218, rfl, hl21, hl22, hl23, hd76⟩
      have hd76 : ST w0 [] _ [⟨aD b, 40, [vi t.Qubits, .slice B t.XImages.length c, .slice B1 t.ZImages.length c1], 3⟩, ⟨aD b1, 28, [vi 0, .slice none 0 0], 2⟩, ⟨aD b2, 52, [vi Qubits42, .slice B216 XImages42.length c216, .slice B217 ZImages42.length c217, .slice B218 out42.length c218], 4⟩, ⟨B216, 71, (XImages42.flatMap eN0), c216 * 3⟩, ⟨B217, 71, (ZImages42.flatMap eN0), c217 * 3⟩, ⟨B218, 55, (out42.flatMap eN2), c218 * 3⟩] [⟨B151, (ZImages28.flatMap eN0)⟩, ⟨B150, (XImages28.flatMap eN0)⟩, ⟨B139, (ZImages27.flatMap eN0)⟩, ⟨B138, (XImages27.flatMap eN0)⟩, ⟨B106, (ZImages20.flatMap eN0)⟩, ⟨B105, (XImages20.flatMap eN0)⟩, ⟨B4, (ZImages.flatMap eN0)⟩, ⟨B3, (XImages.flatMap eN0)⟩, ⟨B, (t.XImages.flatMap eN0)⟩, ⟨B1, (t.ZImages.flatMap eN0)⟩] := hd76
      refine rn (cr ?_)
      refine sQ 86 (ym (pt (aD b2) 0) rfl (hf59.g 0 0)) <| sQ 87 (ym (vi q1) rfl (hf59.g 1 1)) ?_
      obtain ⟨m31, hc80, hF106⟩ := bI hF106
      refine sc 88 rfl rfl (yC [pt (aD b2) 0, vi 1, vi q1, vi 0] K43 (c_spec_l8R_add (Tl8R.mk (TTableau.mk Qubits42 XImages42 ZImages42) out42) 1 q1 0 (aD b2) B216 c216 XImages42.length B217 c217 ZImages42.length B218 c218 out42.length _ hl21 hl22 hl23 (hd76.inn [false, false, true, false, false, true] rfl [(false, 2), (false, 3)] rfl) hc80)) ?_
      rintro _ w_135 ⟨B237, c237, B238, c238, B239, c239, rfl, hd80⟩
      have hS233 := hd76.out [false, false, true, false, false, true] rfl hd80
      have hS233 : ST w0 [] _ [⟨aD b, 40, [vi t.Qubits, .slice B t.XImages.length c, .slice B1 t.ZImages.length c1], 3⟩, ⟨aD b1, 28, [vi 0, .slice none 0 0], 2⟩, ⟨B216, 71, (XImages42.flatMap eN0), c216 * 3⟩, ⟨B217, 71, (ZImages42.flatMap eN0), c217 * 3⟩, ⟨aD b2, 52, [vi m31.t.Qubits, .slice B237 m31.t.XImages.length c237, .slice B238 m31.t.ZImages.length c238, .slice B239 m31.out.length c239], 4⟩, ⟨B237, 71, (m31.t.XImages.flatMap eN0), c237 * 3⟩, ⟨B238, 71, (m31.t.ZImages.flatMap eN0), c238 * 3⟩, ⟨B239, 55, (m31.out.flatMap eN2), c239 * 3⟩] [⟨B151, (ZImages28.flatMap eN0)⟩, ⟨B150, (XImages28.flatMap eN0)⟩, ⟨B139, (ZImages27.flatMap eN0)⟩, ⟨B138, (XImages27.flatMap eN0)⟩, ⟨B106, (ZImages20.flatMap eN0)⟩, ⟨B105, (XImages20.flatMap eN0)⟩, ⟨B4, (ZImages.flatMap eN0)⟩, ⟨B3, (XImages.flatMap eN0)⟩, ⟨B, (t.XImages.flatMap eN0)⟩, ⟨B1, (t.ZImages.flatMap eN0)⟩] := hS233
      refine rn ?_
      have ho80 : Org w0 [] [⟨B, (t.XImages.flatMap eN0)⟩, ⟨B1, (t.ZImages.flatMap eN0)⟩] [⟨B237, (m31.t.XImages.flatMap eN0)⟩] := ST.orgOwn hS233 (i := 5) rfl
      have hcap28 : m31.t.XImages.length ≤ c237 := (hS233.lencap (i := 5) rfl (fm_lenn (l := m31.t.XImages) eN1 rfl) rfl rfl)
      have hS234 : ST w0 [] _ [⟨aD b, 40, [vi t.Qubits, .slice B t.XImages.length c, .slice B1 t.ZImages.length c1], 3⟩, ⟨aD b1, 28, [vi 0, .slice none 0 0], 2⟩, ⟨B216, 71, (XImages42.flatMap eN0), c216 * 3⟩, ⟨B217, 71, (ZImages42.flatMap eN0), c217 * 3⟩, ⟨aD b2, 52, [vi m31.t.Qubits, .slice B237 m31.t.XImages.length c237, .slice B238 m31.t.ZImages.length c238, .slice B239 m31.out.length c239], 4⟩, ⟨B238, 71, (m31.t.ZImages.flatMap eN0), c238 * 3⟩, ⟨B239, 55, (m31.out.flatMap eN2), c239 * 3⟩] [⟨B237, (m31.t.XImages.flatMap eN0)⟩, ⟨B151, (ZImages28.flatMap eN0)⟩, ⟨B150, (XImages28.flatMap eN0)⟩, ⟨B139, (ZImages27.flatMap eN0)⟩, ⟨B138, (XImages27.flatMap eN0)⟩, ⟨B106, (ZImages20.flatMap eN0)⟩, ⟨B105, (XImages20.flatMap eN0)⟩, ⟨B4, (ZImages.flatMap eN0)⟩, ⟨B3, (XImages.flatMap eN0)⟩, ⟨B, (t.XImages.flatMap eN0)⟩, ⟨B1, (t.ZImages.flatMap eN0)⟩] := hS233.freeze (i := 5) rfl
      have ho81 : Org w0 [] [⟨B, (t.XImages.flatMap eN0)⟩, ⟨B1, (t.ZImages.flatMap eN0)⟩] [⟨B238, (m31.t.ZImages.flatMap eN0)⟩] := ST.orgOwn hS234 (i := 5) rfl
      have hcap29 : m31.t.ZImages.length ≤ c238 := (hS234.lencap (i := 5) rfl (fm_lenn (l := m31.t.ZImages) eN1 rfl) rfl rfl)
      have hS235 : ST w0 [] _ [⟨aD b, 40, [vi t.Qubits, .slice B t.XImages.length c, .slice B1 t.ZImages.length c1], 3⟩, ⟨aD b1, 28, [vi 0, .slice none 0 0], 2⟩, ⟨B216, 71, (XImages42.flatMap eN0), c216 * 3⟩, ⟨B217, 71, (ZImages42.flatMap eN0), c217 * 3⟩, ⟨aD b2, 52, [vi m31.t.Qubits, .slice B237 m31.t.XImages.length c237, .slice B238 m31.t.ZImages.length c238, .slice B239 m31.out.length c239], 4⟩, ⟨B239, 55, (m31.out.flatMap eN2), c239 * 3⟩] [⟨B238, (m31.t.ZImages.flatMap eN0)⟩, ⟨B237, (m31.t.XImages.flatMap eN0)⟩, ⟨B151, (ZImages28.flatMap eN0)⟩, ⟨B150, (XImages28.flatMap eN0)⟩, ⟨B139, (ZImages27.flatMap eN0)⟩, ⟨B138, (XImages27.flatMap eN0)⟩, ⟨B106, (ZImages20.flatMap eN0)⟩, ⟨B105, (XImages20.flatMap eN0)⟩, ⟨B4, (ZImages.flatMap eN0)⟩, ⟨B3, (XImages.flatMap eN0)⟩, ⟨B, (t.XImages.flatMap eN0)⟩, ⟨B1, (t.ZImages.flatMap eN0)⟩] := hS234.freeze (i := 5) rfl
      exact ⟨m31.t.Qubits, m31.t.XImages, m31.t.ZImages, m31.out, B237, c237, B238, c238, B239, c239, (sI hF106), (fc (hf59.g 0 0) (fc (hf59.g 1 1) fn_)), ho80, (len_le rfl hcap28), ho81, (len_le rfl hcap29), (hS235.sel [4, 5, 0, 1] rfl rfl)⟩
     ·skip
      have hF121 := cf' hz28 hb40
      refine cw_skip ?_
      have hS236 : ST w0 [] _ [⟨aD b, 40, [vi t.Qubits, .slice B t.XImages.length c, .slice B1 t.ZImages.length c1], 3⟩, ⟨aD b1, 28, [vi 0, .slice none 0 0], 2⟩, ⟨aD b2, 52, [vi Qubits28, .slice B150 XImages28.length c150, .slice B151 ZImages28.length c151, .slice B152 out28.length c152], 4⟩, ⟨B152, 55, (out28.flatMap eN2), c152 * 3⟩, ⟨aD b19, 71, [vi x21.Phase, vi x21.X, vi x21.Z], 3⟩] [⟨B151, (ZImages28.flatMap eN0)⟩, ⟨B150, (XImages28.flatMap eN0)⟩, ⟨B151, (ZImages28.flatMap eN0)⟩, ⟨B150, (XImages28.flatMap eN0)⟩, ⟨B139, (ZImages27.flatMap eN0)⟩, ⟨B138, (XImages27.flatMap eN0)⟩, ⟨B106, (ZImages20.flatMap eN0)⟩, ⟨B105, (XImages20.flatMap eN0)⟩, ⟨B4, (ZImages.flatMap eN0)⟩, ⟨B3, (XImages.flatMap eN0)⟩, ⟨B, (t.XImages.flatMap eN0)⟩, ⟨B1, (t.ZImages.flatMap eN0)⟩] := ST.subR hS180 (sk 0 (sk 1 (sk 0 (sk 1 (sk 2 (sk 3 (sk 4 (sk 5 (sk 6 (sk 7 (sk 8 (sk 9 (fun _ h => by cases h)))))))))))))
      exact ⟨Qubits28, XImages28, ZImages28, out28, B150, c150, B151, c151, B152, c152, (sI hF121), (fc (hf39.g 0 0) (fc (hf39.g 1 1) fn_)), ho64, (len_le hl15 hq42), ho65, (len_le hl16 hq43), (by rw [(hl15 : XImages28.length = XImages28.length), (hl16 : ZImages28.length = ZImages28.length), (hl17 : out28.length = out28.length)]; exact hS236.sel [2, 3, 0, 1] rfl rfl)⟩
    rintro f w ⟨Qubits33, XImages33, ZImages33, out33, B171, c171, B172, c172, B173, c173, rfl, hf47, ho78, hq52, ho79, hq53, hS178⟩
    refine cq ?_
    obtain ⟨z40, hz40, hF122⟩ := bI hF86
    refine cw_mid (fun f w => ∃ (Qubits47 : Int) (XImages47 : List TPauli) (ZImages47 : List TPauli) (out47 : List TGate) (B240 : Option Addr) (c240 : Nat) (B241 : Option Addr) (c241 : Nat) (B242 : Option Addr) (c242 : Nat), (Qubits47, XImages47, ZImages47, out47) = z40 ∧ FF f [(0, pt (aD b2) 0), (1, vi q1)] ∧ Org w0 [] [⟨B, (t.XImages.flatMap eN0)⟩, ⟨B1, (t.ZImages.flatMap eN0)⟩] [⟨B240, (XImages47.flatMap eN0)⟩] ∧ XImages47.length ≤ c240 ∧ Org w0 [] [⟨B, (t.XImages.flatMap eN0)⟩, ⟨B1, (t.ZImages.flatMap eN0)⟩] [⟨B241, (ZImages47.flatMap eN0)⟩] ∧ ZImages47.length ≤ c241 ∧ ST w0 [] w [⟨aD b2, 52, [vi Qubits47, .slice B240 XImages47.length c240, .slice B241 ZImages47.length c241, .slice B242 out47.length c242], 4⟩, ⟨B242, 55, (out47.flatMap eN2), c242 * 3⟩, ⟨aD b, 40, [vi t.Qubits, .slice B t.XImages.length c, .slice B1 t.ZImages.length c1], 3⟩, ⟨aD b1, 28, [vi 0, .slice none 0 0], 2⟩] [⟨B241, (ZImages47.flatMap eN0)⟩, ⟨B240, (XImages47.flatMap eN0)⟩, ⟨B172, (ZImages33.flatMap eN0)⟩, ⟨B171, (XImages33.flatMap eN0)⟩, ⟨B151, (ZImages28.flatMap eN0)⟩, ⟨B150, (XImages28.flatMap eN0)⟩, ⟨B139, (ZImages27.flatMap eN0)⟩, ⟨B138, (XImages27.flatMap eN0)⟩, ⟨B106, (ZImages20.flatMap eN0)⟩, ⟨B105, (XImages20.flatMap eN0)⟩, ⟨B4, (ZImages.flatMap eN0)⟩, ⟨B3, (XImages.flatMap eN0)⟩, ⟨B, (t.XImages.flatMap eN0)⟩, ⟨B1, (t.ZImages.flatMap eN0)⟩]) ?_ ?_
    ·skip
     refine cq (cr ?_)
     refine sQ 89 (ym (pt (aD b2) 0) rfl (hf47.g 0 0)) <| sQ 90 (Y_nilCheck (B := aD b2) (i := 0) rfl rfl) <| sQ 91 (yd (aD b2) 0 2 K32 K10) <| sQ 92 (yd (aD b2) 0 0 K9 K1) <| sQ 93 (yl (aD b2) 1 [vi Qubits33, .slice B171 XImages33.length c171, .slice B172 ZImages33.length c172, .slice B173 out33.length c173] (.slice B171 XImages33.length c171) K6 (hS178.c 0)) <| sQ 94 (ym (vi q1) rfl (hf47.g 1 1)) ?_
     obtain ⟨x32, hx32, hz40⟩ := bI hz40
     refine sQ 95 (Y_index (B := B171) (m := XImages33.length) (c := c171) (k := .i64) (i := q1) K2 K0 rfl rfl rfl (gi_isSome eN1 rfl (hS178.rf (i := 1) rfl) hx32) (getI_nn hx32) (getI_ltI hx32 rfl)) <| sQ 96 (yd B171 (q1.toNat * 3) 0 K23 K3) <| sQ 97 (yl B171 (q1.toNat * 3 + 0) (XImages33.flatMap eN0) (vi x32.Phase) K4 (hS178.rf (i := 1) rfl) rfl rfl (gi_at eN1 hx32 rfl)) <| sQ 98 (yE x32.Phase 2) (rn ?_)
     refine cw_cond (b := (x32.Phase == 2)) rfl (fun hb56 => ?_) (fun hb56 => ?_)
     ·skip
      have hF123 := ct hz40 hb56
      refine cr ?_
      refine sQ 99 (ym (pt (aD b2) 0) rfl (hf47.g 0 0)) <| sQ 100 (ym (vi q1) rfl (hf47.g 1 1)) ?_
      obtain ⟨m32, hc81, hF123⟩ := bI hF123
      refine sc 101 rfl rfl (yC [pt (aD b2) 0, vi 4, vi q1, vi 0] K43 (c_spec_l8R_add (Tl8R.mk (TTableau.mk Qubits33 XImages33 ZImages33) out33) 4 q1 0 (aD b2) B171 c171 XImages33.length B172 c172 ZImages33.length B173 c173 out33.length _ rfl rfl rfl (hS178.inn [true, true, false, false] rfl [(true, 1), (true, 0)] rfl) hc81)) ?_
      rintro _ w_136 ⟨B243, c243, B244, c244, B245, c245, rfl, hd81⟩
      have hS238 := hS178.out [true, true, false, false] rfl hd81
      refine rn ?_
      have ho84 : Org w0 [] [⟨B, (t.XImages.flatMap eN0)⟩, ⟨B1, (t.ZImages.flatMap eN0)⟩] [⟨B243, (m32.t.XImages.flatMap eN0)⟩] := ST.orgOwn hS238 (i := 3) rfl
      have hcap30 : m32.t.XImages.length ≤ c243 := (hS238.lencap (i := 3) rfl (fm_lenn (l := m32.t.XImages) eN1 rfl) rfl rfl)
      have hS239 : ST w0 [] _ [⟨aD b, 40, [vi t.Qubits, .slice B t.XImages.length c, .slice B1 t.ZImages.length c1], 3⟩, ⟨aD b1, 28, [vi 0, .slice none 0 0], 2⟩, ⟨aD b2, 52, [vi m32.t.Qubits, .slice B243 m32.t.XImages.length c243, .slice B244 m32.t.ZImages.length c244, .slice B245 m32.out.length c245], 4⟩, ⟨B244, 71, (m32.t.ZImages.flatMap eN0), c244 * 3⟩, ⟨B245, 55, (m32.out.flatMap eN2), c245 * 3⟩] [⟨B243, (m32.t.XImages.flatMap eN0)⟩, ⟨B172, (ZImages33.flatMap eN0)⟩, ⟨B171, (XImages33.flatMap eN0)⟩, ⟨B151, (ZImages28.flatMap eN0)⟩, ⟨B150, (XImages28.flatMap eN0)⟩, ⟨B139, (ZImages27.flatMap eN0)⟩, ⟨B138, (XImages27.flatMap eN0)⟩, ⟨B106, (ZImages20.flatMap eN0)⟩, ⟨B105, (XImages20.flatMap eN0)⟩, ⟨B4, (ZImages.flatMap eN0)⟩, ⟨B3, (XImages.flatMap eN0)⟩, ⟨B, (t.XImages.flatMap eN0)⟩, ⟨B1, (t.ZImages.flatMap eN0)⟩] := hS238.freeze (i := 3) rfl
      have ho85 : Org w0 [] [⟨B, (t.XImages.flatMap eN0)⟩, ⟨B1, (t.ZImages.flatMap eN0)⟩] [⟨B244, (m32.t.ZImages.flatMap eN0)⟩] := ST.orgOwn hS239 (i := 3) rfl
      have hcap31 : m32.t.ZImages.length ≤ c244 := (hS239.lencap (i := 3) rfl (fm_lenn (l := m32.t.ZImages) eN1 rfl) rfl rfl)
      have hS240 : ST w0 [] _ [⟨aD b, 40, [vi t.Qubits, .slice B t.XImages.length c, .slice B1 t.ZImages.length c1], 3⟩, ⟨aD b1, 28, [vi 0, .slice none 0 0], 2⟩, ⟨aD b2, 52, [vi m32.t.Qubits, .slice B243 m32.t.XImages.length c243, .slice B244 m32.t.ZImages.length c244, .slice B245 m32.out.length c245], 4⟩, ⟨B245, 55, (m32.out.flatMap eN2), c245 * 3⟩] [⟨B244, (m32.t.ZImages.flatMap eN0)⟩, ⟨B243, (m32.t.XImages.flatMap eN0)⟩, ⟨B172, (ZImages33.flatMap eN0)⟩, ⟨B171, (XImages33.flatMap eN0)⟩, ⟨B151, (ZImages28.flatMap eN0)⟩, ⟨B150, (XImages28.flatMap eN0)⟩, ⟨B139, (ZImages27.flatMap eN0)⟩, ⟨B138, (XImages27.flatMap eN0)⟩, ⟨B106, (ZImages20.flatMap eN0)⟩, ⟨B105, (XImages20.flatMap eN0)⟩, ⟨B4, (ZImages.flatMap eN0)⟩, ⟨B3, (XImages.flatMap eN0)⟩, ⟨B, (t.XImages.flatMap eN0)⟩, ⟨B1, (t.ZImages.flatMap eN0)⟩] := hS239.freeze (i := 3) rfl
      exact ⟨m32.t.Qubits, m32.t.XImages, m32.t.ZImages, m32.out, B243, c243, B244, c244, B245, c245, (sI hF123), (fc (hf47.g 0 0) (fc (hf47.g 1 1) fn_)), ho84, (len_le rfl hcap30), ho85, (len_le rfl hcap31), (hS240.sel [2, 3, 0, 1] rfl rfl)⟩
     ·skip
      have hF124 := cf' hz40 hb56
      refine cw_skip ?_
      have hS241 : ST w0 [] _ [⟨aD b2, 52, [vi Qubits33, .slice B171 XImages33.length c171, .slice B172 ZImages33.length c172, .slice B173 out33.length c173], 4⟩, ⟨B173, 55, (out33.flatMap eN2), c173 * 3⟩, ⟨aD b, 40, [vi t.Qubits, .slice B t.XImages.length c, .slice B1 t.ZImages.length c1], 3⟩, ⟨aD b1, 28, [vi 0, .slice none 0 0], 2⟩] [⟨B172, (ZImages33.flatMap eN0)⟩, ⟨B171, (XImages33.flatMap eN0)⟩, ⟨B172, (ZImages33.flatMap eN0)⟩, ⟨B171, (XImages33.flatMap eN0)⟩, ⟨B151, (ZImages28.flatMap eN0)⟩, ⟨B150, (XImages28.flatMap eN0)⟩, ⟨B139, (ZImages27.flatMap eN0)⟩, ⟨B138, (XImages27.flatMap eN0)⟩, ⟨B106, (ZImages20.flatMap eN0)⟩, ⟨B105, (XImages20.flatMap eN0)⟩, ⟨B4, (ZImages.flatMap eN0)⟩, ⟨B3, (XImages.flatMap eN0)⟩, ⟨B, (t.XImages.flatMap eN0)⟩, ⟨B1, (t.ZImages.flatMap eN0)⟩] := ST.subR hS178 (sk 0 (sk 1 (sk 0 (sk 1 (sk 2 (sk 3 (sk 4 (sk 5 (sk 6 (sk 7 (sk 8 (sk 9 (sk 10 (sk 11 (fun _ h => by cases h)))))))))))))))
      exact ⟨Qubits33, XImages33, ZImages33, out33, B171, c171, B172, c172, B173, c173, (sI hF124), (fc (hf47.g 0 0) (fc (hf47.g 1 1) fn_)), ho78, (len_le rfl hq52), ho79, (len_le rfl hq53), (hS241.sel [0, 1, 2, 3] rfl rfl)⟩
    rintro f w ⟨Qubits47, XImages47, ZImages47, out47, B240, c240, B241, c241, B242, c242, rfl, hf67, ho82, hq54, ho83, hq55, hS237⟩
    refine cq (cr ?_)
    refine sQ 102 (ym (pt (aD b2) 0) rfl (hf67.g 0 0)) <| sQ 103 (Y_nilCheck (B := aD b2) (i := 0) rfl rfl) <| sQ 104 (yd (aD b2) 0 2 K32 K10) <| sQ 105 (yd (aD b2) 0 0 K11 K1) <| sQ 106 (yl (aD b2) 2 [vi Qubits47, .slice B240 XImages47.length c240, .slice B241 ZImages47.length c241, .slice B242 out47.length c242] (.slice B241 ZImages47.length c241) K6 (hS237.c 0)) <| sQ 107 (ym (vi q1) rfl (hf67.g 1 1)) ?_
    obtain ⟨x33, hx33, hF122⟩ := bI hF122
    refine sQ 108 (Y_index (B := B241) (m := ZImages47.length) (c := c241) (k := .i64) (i := q1) K2 K0 rfl rfl rfl (gi_isSome eN1 rfl (hS237.rf (i := 0) rfl) hx33) (getI_nn hx33) (getI_ltI hx33 rfl)) <| sQ 109 (yd B241 (q1.toNat * 3) 0 K23 K3) <| sQ 110 (yl B241 (q1.toNat * 3 + 0) (ZImages47.flatMap eN0) (vi x33.Phase) K4 (hS237.rf (i := 0) rfl) rfl rfl (gi_at eN1 hx33 rfl)) <| sQ 111 (yE x33.Phase 2) (rn ?_)
    refine cw_cond (b := (x33.Phase == 2)) rfl (fun hb57 => ?_) (fun hb57 => ?_)
    ·skip
     have hF125 := ct hF122 hb57
     refine cr ?_
     refine sQ 112 (ym (pt (aD b2) 0) rfl (hf67.g 0 0)) <| sQ 113 (ym (vi q1) rfl (hf67.g 1 1)) ?_
     obtain ⟨m33, hc82, hF125⟩ := bI hF125
     refine sc 114 rfl rfl (yC [pt (aD b2) 0, vi 2, vi q1, vi 0] K43 (c_spec_l8R_add (Tl8R.mk (TTableau.mk Qubits47 XImages47 ZImages47) out47) 2 q1 0 (aD b2) B240 c240 XImages47.length B241 c241 ZImages47.length B242 c242 out47.length _ rfl rfl rfl (hS237.inn [true, true, false, false] rfl [(true, 1), (true, 0)] rfl) hc82)) ?_
     rintro _ w_137 ⟨B246, c246, B247, c247, B248, c248, rfl, hd82⟩
     have hS242 := hS237.out [true, true, false, false] rfl hd82
     refine rn ?_
     have ho86 : Org w0 [] [⟨B, (t.XImages.flatMap eN0)⟩, ⟨B1, (t.ZImages.flatMap eN0)⟩] [⟨B246, (m33.t.XImages.flatMap eN0)⟩] := ST.orgOwn hS242 (i := 3) rfl
     have hcap32 : m33.t.XImages.length ≤ c246 := (hS242.lencap (i := 3) rfl (fm_lenn (l := m33.t.XImages) eN1 rfl) rfl rfl)
     have hS243 : ST w0 [] _ [⟨aD b, 40, [vi t.Qubits, .slice B t.XImages.length c, .slice B1 t.ZImages.length c1], 3⟩, ⟨aD b1, 28, [vi 0, .slice none 0 0], 2⟩, ⟨aD b2, 52, [vi m33.t.Qubits, .slice B246 m33.t.XImages.length c246, .slice B247 m33.t.ZImages.length c247, .slice B248 m33.out.length c248], 4⟩, ⟨B247, 71, (m33.t.ZImages.flatMap eN0), c247 * 3⟩, ⟨B248, 55, (m33.out.flatMap eN2), c248 * 3⟩] [⟨B246, (m33.t.XImages.flatMap eN0)⟩, ⟨B241, (ZImages47.flatMap eN0)⟩, ⟨B240, (XImages47.flatMap eN0)⟩, ⟨B172, (ZImages33.flatMap eN0)⟩, ⟨B171, (XImages33.flatMap eN0)⟩, ⟨B151, (ZImages28.flatMap eN0)⟩, ⟨B150, (XImages28.flatMap eN0)⟩, ⟨B139, (ZImages27.flatMap eN0)⟩, ⟨B138, (XImages27.flatMap eN0)⟩, ⟨B106, (ZImages20.flatMap eN0)⟩, ⟨B105, (XImages20.flatMap eN0)⟩, ⟨B4, (ZImages.flatMap eN0)⟩, ⟨B3, (XImages.flatMap eN0)⟩, ⟨B, (t.XImages.flatMap eN0)⟩, ⟨B1, (t.ZImages.flatMap eN0)⟩] := hS242.freeze (i := 3) rfl
     have ho87 : Org w0 [] [⟨B, (t.XImages.flatMap eN0)⟩, ⟨B1, (t.ZImages.flatMap eN0)⟩] [⟨B247, (m33.t.ZImages.flatMap eN0)⟩] := ST.orgOwn hS243 (i := 3) rfl
     have hcap33 : m33.t.ZImages.length ≤ c247 := (hS243.lencap (i := 3) rfl (fm_lenn (l := m33.t.ZImages) eN1 rfl) rfl rfl)
     have hS244 : ST w0 [] _ [⟨aD b, 40, [vi t.Qubits, .slice B t.XImages.length c, .slice B1 t.ZImages.length c1], 3⟩, ⟨aD b1, 28, [vi 0, .slice none 0 0], 2⟩, ⟨aD b2, 52, [vi m33.t.Qubits, .slice B246 m33.t.XImages.length c246, .slice B247 m33.t.ZImages.length c247, .slice B248 m33.out.length c248], 4⟩, ⟨B248, 55, (m33.out.flatMap eN2), c248 * 3⟩] [⟨B247, (m33.t.ZImages.flatMap eN0)⟩, ⟨B246, (m33.t.XImages.flatMap eN0)⟩, ⟨B241, (ZImages47.flatMap eN0)⟩, ⟨B240, (XImages47.flatMap eN0)⟩, ⟨B172, (ZImages33.flatMap eN0)⟩, ⟨B171, (XImages33.flatMap eN0)⟩, ⟨B151, (ZImages28.flatMap eN0)⟩, ⟨B150, (XImages28.flatMap eN0)⟩, ⟨B139, (ZImages27.flatMap eN0)⟩, ⟨B138, (XImages27.flatMap eN0)⟩, ⟨B106, (ZImages20.flatMap eN0)⟩, ⟨B105, (XImages20.flatMap eN0)⟩, ⟨B4, (ZImages.flatMap eN0)⟩, ⟨B3, (XImages.flatMap eN0)⟩, ⟨B, (t.XImages.flatMap eN0)⟩, ⟨B1, (t.ZImages.flatMap eN0)⟩] := hS243.freeze (i := 3) rfl
     have hS245 : ST w0 [] _ [⟨aD b, 40, [vi t.Qubits, .slice B t.XImages.length c, .slice B1 t.ZImages.length c1], 3⟩, ⟨aD b1, 28, [vi 0, .slice none 0 0], 2⟩, ⟨aD b2, 52, [vi m33.t.Qubits, .slice B246 m33.t.XImages.length c246, .slice B247 m33.t.ZImages.length c247, .slice B248 m33.out.length c248], 4⟩, ⟨B248, 55, (m33.out.flatMap eN2), c248 * 3⟩] [⟨B247, (m33.t.ZImages.flatMap eN0)⟩, ⟨B246, (m33.t.XImages.flatMap eN0)⟩, ⟨B4, (ZImages.flatMap eN0)⟩, ⟨B3, (XImages.flatMap eN0)⟩, ⟨B, (t.XImages.flatMap eN0)⟩, ⟨B1, (t.ZImages.flatMap eN0)⟩] := ST.subR hS244 (sk 0 (sk 1 (sk 12 (sk 13 (sk 14 (sk 15 (fun _ h => by cases h)))))))
     obtain ⟨rfl, rfl, rfl, rfl⟩ := pr4 (sI hF125)
     exact ret0 Try.results22  ⟨B246, c246, B247, c247, B248, c248, rfl, ho86, (len_le rfl hcap32), ho87, (len_le rfl hcap33), (hS245.sel [0, 1, 2, 3] rfl rfl)⟩
    ·skip
     have hF126 := cf' hF122 hb57
     refine cw_skip ?_
     have hS246 : ST w0 [] _ [⟨aD b2, 52, [vi Qubits47, .slice B240 XImages47.length c240, .slice B241 ZImages47.length c241, .slice B242 out47.length c242], 4⟩, ⟨B242, 55, (out47.flatMap eN2), c242 * 3⟩, ⟨aD b, 40, [vi t.Qubits, .slice B t.XImages.length c, .slice B1 t.ZImages.length c1], 3⟩, ⟨aD b1, 28, [vi 0, .slice none 0 0], 2⟩] [⟨B241, (ZImages47.flatMap eN0)⟩, ⟨B240, (XImages47.flatMap eN0)⟩, ⟨B4, (ZImages.flatMap eN0)⟩, ⟨B3, (XImages.flatMap eN0)⟩, ⟨B, (t.XImages.flatMap eN0)⟩, ⟨B1, (t.ZImages.flatMap eN0)⟩] := ST.subR hS237 (sk 0 (sk 1 (sk 10 (sk 11 (sk 12 (sk 13 (fun _ h => by cases h)))))))
     obtain ⟨rfl, rfl, rfl, rfl⟩ := pr4 (sI hF126)
     exact ret0 Try.results22  ⟨B240, c240, B241, c241, B242, c242, rfl, ho82, (len_le rfl hq54), ho83, (len_le rfl hq55), (hS246.sel [2, 3, 0, 1] rfl rfl)⟩
  rintro _ w_49 ⟨B6, c6, B7, c7, B8, c8, rfl, ho2, hq4, ho3, hq5, hd32⟩
  have hd32 : ST w0 [] _ [⟨aD b, 40, [vi t.Qubits, .slice B t.XImages.length c, .slice B1 t.ZImages.length c1], 3⟩, ⟨aD b1, 28, [vi 0, .slice none 0 0], 2⟩, ⟨aD b2, 52, [vi Qubits1, .slice B6 XImages1.length c6, .slice B7 ZImages1.length c7, .slice B8 out1.length c8], 4⟩, ⟨B8, 55, (out1.flatMap eN2), c8 * 3⟩] [⟨B7, (ZImages1.flatMap eN0)⟩, ⟨B6, (XImages1.flatMap eN0)⟩, ⟨B4, (ZImages.flatMap eN0)⟩, ⟨B3, (XImages.flatMap eN0)⟩, ⟨B, (t.XImages.flatMap eN0)⟩, ⟨B1, (t.ZImages.flatMap eN0)⟩] := hd32
  refine rn (cr ?_)
  refine sQ 14 (ym (vi q1) rfl (hf.g 4 3)) <| sQ 15 (yP q1 1) <| sQ 4 (yg (vi (i64.wrap (q1 + 1)))) (rn ?_)
  obtain rfl := sI hF2
  have hS247 : ST w0 [] _ [⟨aD b, 40, [vi t.Qubits, .slice B t.XImages.length c, .slice B1 t.ZImages.length c1], 3⟩, ⟨aD b1, 28, [vi 0, .slice none 0 0], 2⟩, ⟨aD b2, 52, [vi Qubits1, .slice B6 XImages1.length c6, .slice B7 ZImages1.length c7, .slice B8 out1.length c8], 4⟩, ⟨B8, 55, (out1.flatMap eN2), c8 * 3⟩] [⟨B7, (ZImages1.flatMap eN0)⟩, ⟨B6, (XImages1.flatMap eN0)⟩, ⟨B, (t.XImages.flatMap eN0)⟩, ⟨B1, (t.ZImages.flatMap eN0)⟩] := ST.subR hd32 (sk 0 (sk 1 (sk 4 (sk 5 (fun _ h => by cases h)))))
  exact ⟨K7, Nat.lt_succ_self _, Qubits1, XImages1, ZImages1, out1, (i64.wrap (q1 + 1)), B6, c6, B7, c7, B8, c8, (fc (hf.g 1 0) (fc (hf.g 2 1) (fc (hf.g 3 2) (fc rfl fn_)))), ho2, (len_le rfl hq4), ho3, (len_le rfl hq5), (hS247.sel [0, 1, 2, 3] rfl rfl), hL1⟩
 ·skip
  have hF127 := cf' hb hb1
  refine cw_exit rfl ?_
  obtain rfl := sI hF127
  obtain rfl := sI hL1
  refine cq (cr ?_)
  refine sQ 19 (yd (aD b) 0 0 K30 K3 rfl (hf.g 1 0)) <| sQ 20 (yl (aD b) 0 [vi t.Qubits, .slice B t.XImages.length c, .slice B1 t.ZImages.length c1] (vi t.Qubits) K4 (hS4.c 0)) <| sQ 21 (Y_buildS (zs := [vi 0, .slice none 0 0]) (vs := [(0, vi t.Qubits)]) (cs := [vi t.Qubits, .slice none 0 0]) K56 K34 rfl (mpc rfl mpn) rfl) ?_
  refine sS 5 (yN [vi 0, .slice none 0 0] 2 hS4 K34) ?_
  rintro _ w_138 ⟨b29, rfl, hS248⟩
  refine s0 (yT 4 2 (aD b29) 28 (.agg #[vi t.Qubits, .slice none 0 0]) [vi t.Qubits, .slice none 0 0] 0 hS248 K16) ?_
  rintro _ w_139 ⟨rfl, hS249⟩
  have hS249 : ST w0 [] _ [⟨aD b, 40, [vi t.Qubits, .slice B t.XImages.length c, .slice B1 t.ZImages.length c1], 3⟩, ⟨aD b1, 28, [vi 0, .slice none 0 0], 2⟩, ⟨aD b2, 52, [vi Qubits, .slice B3 XImages.length c3, .slice B4 ZImages.length c4, .slice B5 out.length c5], 4⟩, ⟨B5, 55, (out.flatMap eN2), c5 * 3⟩, ⟨aD b29, 28, [vi t.Qubits, .slice none 0 0], 2⟩] [⟨B4, (ZImages.flatMap eN0)⟩, ⟨B3, (XImages.flatMap eN0)⟩, ⟨B, (t.XImages.flatMap eN0)⟩, ⟨B1, (t.ZImages.flatMap eN0)⟩] := hS249
  refine rn (cq (cq (cr ?_)))
  refine sQ 22 (ym (pt (aD b2) 0) rfl (hf.g 3 2)) <| sQ 23 (Y_nilCheck (B := aD b2) (i := 0) rfl rfl) <| sQ 24 (yd (aD b2) 0 0 K49 K17) <| sQ 25 (yl (aD b2) 3 [vi Qubits, .slice B3 XImages.length c3, .slice B4 ZImages.length c4, .slice B5 out.length c5] (.slice B5 out.length c5) K22 (hS249.c 2)) <| sQ 26 (Y_len (B := B5) (m := out.length) (c := c5) K15 rfl rfl) <| sQ 27 (yM (out.length : Int) 1) ?_
  refine sQ 6 (yg (vi (i64.wrap ((out.length : Int) - 1)))) (rn ?_)
  obtain ⟨z41, hz41, hF128⟩ := bI hF1
  have hS251 := hS249.addNil 55
  refine cw_block ?_
  refine cw_loop (fun k f w => ∃ (Gates : List TGate) (K21 : Int) (B249 : Option Addr) (c249 : Nat), FF f [(2, pt (aD b1) 0), (3, pt (aD b2) 0), (5, pt (aD b29) 0), (6, vi K21)] ∧ ST w0 [] w [⟨aD b1, 28, [vi 0, .slice none 0 0], 2⟩, ⟨aD b2, 52, [vi Qubits, .slice B3 XImages.length c3, .slice B4 ZImages.length c4, .slice B5 out.length c5], 4⟩, ⟨B5, 55, (out.flatMap eN2), c5 * 3⟩, ⟨aD b29, 28, [vi t.Qubits, .slice B249 Gates.length c249], 2⟩, ⟨B249, 55, (Gates.flatMap eN2), c249 * 3⟩] [⟨B4, (ZImages.flatMap eN0)⟩, ⟨B3, (XImages.flatMap eN0)⟩, ⟨B, (t.XImages.flatMap eN0)⟩, ⟨B1, (t.ZImages.flatMap eN0)⟩] ∧ whX (F_spec_l8Synthesize_l7 out) k (Gates, K21) = some z41) fuel ⟨[], (i64.wrap ((out.length : Int) - 1)), none, 0, (fc (hf.g 2 1) (fc (hf.g 3 2) (fc rfl (fc rfl fn_)))), (hS251.sel [1, 2, 3, 4, 5] rfl rfl), hz41⟩ ?_
  rintro k_31 f w ⟨Gates, K21, B249, c249, hf68, hS250, hL30⟩
  obtain ⟨k_32, y15, rfl, hb58, hL31⟩ := whX_go hL30
  unfold F_spec_l8Synthesize_l7 at hb58
  refine cq (cq (cr ?_))
  refine sQ 28 (ym (vi K21) rfl (hf68.g 6 3)) <| sQ 29 (Y_ge (k := .i64) (a := K21) (b := 0) rfl rfl rfl) (rn ?_)
  refine cw_cond (b := (decide (0 ≤ K21))) rfl (fun hb59 => ?_) (fun hb59 => ?_)
  ·skip
   have hF129 := ct hb58 hb59
   refine cw_skip (cq ?_)
   obtain ⟨z42, hz42, hF130⟩ := bI hF129
   refine cw_mid (fun f w => ∃ (Gates1 : List TGate) (B250 : Option Addr) (c250 : Nat), Gates1 = z42 ∧ FF f [(2, pt (aD b1) 0), (3, pt (aD b2) 0), (5, pt (aD b29) 0), (6, vi K21)] ∧ ST w0 [] w [⟨aD b1, 28, [vi 0, .slice none 0 0], 2⟩, ⟨aD b2, 52, [vi Qubits, .slice B3 XImages.length c3, .slice B4 ZImages.length c4, .slice B5 out.length c5], 4⟩, ⟨B5, 55, (out.flatMap eN2), c5 * 3⟩, ⟨aD b29, 28, [vi t.Qubits, .slice B250 Gates1.length c250], 2⟩, ⟨B250, 55, (Gates1.flatMap eN2), c250 * 3⟩] [⟨B4, (ZImages.flatMap eN0)⟩, ⟨B3, (XImages.flatMap eN0)⟩, ⟨B, (t.XImages.flatMap eN0)⟩, ⟨B1, (t.ZImages.flatMap eN0)⟩]) ?_ ?_
   ·skip
    refine cw_block (cq ?_)
    obtain ⟨x34, hx34, hz42⟩ := bI hz42
    obtain ⟨hap, hz42⟩ := chk_inv hz42
    refine cw_mid (fun f w => ∃ (B252 : Option Addr) (c252 : Nat), FF f [(2, pt (aD b1) 0), (3, pt (aD b2) 0), (5, pt (aD b29) 0), (6, vi K21)] ∧ ST w0 [] w [⟨aD b1, 28, [vi 0, .slice none 0 0], 2⟩, ⟨aD b2, 52, [vi Qubits, .slice B3 XImages.length c3, .slice B4 ZImages.length c4, .slice B5 out.length c5], 4⟩, ⟨B5, 55, (out.flatMap eN2), c5 * 3⟩, ⟨aD b29, 28, [vi t.Qubits, .slice B252 ((Gates ++ [x34]).length) c252], 2⟩, ⟨B252, 55, ((Gates ++ [x34]).flatMap eN2), c252 * 3⟩] [⟨B4, (ZImages.flatMap eN0)⟩, ⟨B3, (XImages.flatMap eN0)⟩, ⟨B, (t.XImages.flatMap eN0)⟩, ⟨B1, (t.ZImages.flatMap eN0)⟩]) ?_ ?_
    ·skip
     refine ra_start (hS250.se [0, 1, 2]).fn (by kernel_rfl) ?_
     have hS254 := hS250.drew
     refine rq 0 32 (v := pt (aD b29) 1) rfl (hS254.se [0, 1, 2]) (fun w' hw' => (yd (aD b29) 0 0 K33 K17 rfl (hf68.g 5 2))) ?_
     refine rq 2 34 (v := pt (aD b2) 0) rfl (hS254.se [0, 1, 2]) (fun w' hw' => (ym (pt (aD b2) 0) rfl (hf68.g 3 1))) ?_
     refine rq 3 35 (v := pt (aD b2) 0) rfl (hS254.se [0, 1, 2]) (fun w' hw' => (Y_nilCheck (B := aD b2) (i := 0) rfl rfl)) ?_
     refine rq 4 36 (v := pt (aD b2) 3) rfl (hS254.se [0, 1, 2]) (fun w' hw' => (yd (aD b2) 0 0 K49 K17)) ?_
     refine rq 5 37 (v := .slice B5 out.length c5) rfl (hS254.se [0, 1, 2]) (fun w' hw' => (yl (aD b2) 3 [vi Qubits, .slice B3 XImages.length c3, .slice B4 ZImages.length c4, .slice B5 out.length c5] (.slice B5 out.length c5) K22 (ST.cf hw' (i := 1) rfl))) ?_
     refine rq 6 38 (v := vi K21) rfl (hS254.se [0, 1, 2]) (fun w' hw' => (ym (vi K21) rfl (hf68.g 6 3))) ?_
     refine rq 7 39 (v := pt B5 (K21.toNat * 3)) rfl (hS254.se [0, 1, 2]) (fun w' hw' => (Y_index (B := B5) (m := out.length) (c := c5) (k := .i64) (i := K21) K15 K13 rfl rfl rfl (gi_isSome eN4 rfl (ST.cf hw' (i := 2) rfl) hx34) (getI_nn hx34) (getI_ltI hx34 rfl))) ?_
     refine rq 8 40 (v := .agg #[vi x34.Kind, vi x34.A, vi x34.B]) rfl (hS254.se [0, 1, 2]) (fun w' hw' => (ya B5 (K21.toNat * 3) (out.flatMap eN2) [vi x34.Kind, vi x34.A, vi x34.B] K26 K13 (ST.cf hw' (i := 2) rfl) rfl rfl (eN4 x34) (gi_seg eN4 hx34))) ?_
     refine rA [1, 9] ?_
     refine ra_y 33 (i := 1) (v := .slice B249 Gates.length c249) rfl rfl rfl (yl (aD b29) 1 [vi t.Qubits, .slice B249 Gates.length c249] (.slice B249 Gates.length c249) K22 (hS254.c 3)) (hS254.se [0, 1, 2]) ?_ ?_
     ·skip
      refine rA [9] ?_
      refine rS 41 9 rfl (Ys_bslice (s := 3) (len := 1) (vs := [(0, .agg #[vi x34.Kind, vi x34.A, vi x34.B])]) (cs := [vi x34.Kind, vi x34.A, vi x34.B]) (zs := [vi 0, vi 0, vi 0]) (m := 3) hS254 K15 K13 K48 rfl (mpc rfl mpn) rfl rfl rfl (by kernel_rfl) (by kernel_rfl) rfl) ?_ ?_
      ·rintro _ w_140 ⟨b30, rfl, hS255⟩
       refine ⟨(hS255.se [0, 1, 2]), ?_⟩
       refine rA [10] ?_
       refine rS 42 10 rfl (Ys_append (s := 3) (by' := 24) (i := 4) (nn := Gates.length) (c := c249) (k := 1) (len := (Gates ++ [x34]).length) (B := B249) (xs := ([x34].flatMap eN2)) (cs' := ((Gates ++ [x34]).flatMap eN2)) hS255 K15 K13 K45 K28 rfl (by decide) rfl rfl rfl rfl (fm_lenn (l := Gates) eN4 rfl) rfl (hS255.c 5) (fm_lenn (l := [x34]) eN4 rfl) (fm_one' (enc := eN2) enc_Gate_one [x34]) (by have := hap; omega) (by have := hap; simp only [maxLen]; omega) (fm_app _ _) (app_len (l := Gates) (l' := [x34]) rfl rfl)) ?_ ?_
       ·rintro _ w_141 ⟨B251, c251, rfl, hS256⟩
        refine ⟨(hS256.se [0, 1, 2]), ?_⟩
        refine rq 11 43 (v := pt (aD b29) 1) rfl (hS256.se [0, 1, 2]) (fun w' hw' => (yd (aD b29) 0 0 K33 K17 rfl (hf68.g 5 2))) ?_
        refine rA [12] ?_
        refine rZ 12 rfl (yS 3 1 (aD b29) 28 (.slice B251 ((Gates ++ [x34]).length) c251) [.slice B251 ((Gates ++ [x34]).length) c251] 1 [vi t.Qubits, .slice B251 ((Gates ++ [x34]).length) c251] hS256 K17) ?_ ?_
        ·rintro _ w_142 ⟨rfl, hS257⟩
         refine ⟨(hS257.se [0, 1, 2]), ?_⟩
         refine ra_done (by kernel_rfl) ?_
         exact ⟨B251, c251, (fc (hf68.g 2 0) (fc (hf68.g 3 1) (fc (hf68.g 5 2) (fc (hf68.g 6 3) fn_)))), (hS257.sel [0, 1, 2, 3, 4] rfl rfl)⟩
        exact aN
       exact aN
      exact aN
     refine rS 41 9 rfl (Ys_bslice (s := 3) (len := 1) (vs := [(0, .agg #[vi x34.Kind, vi x34.A, vi x34.B])]) (cs := [vi x34.Kind, vi x34.A, vi x34.B]) (zs := [vi 0, vi 0, vi 0]) (m := 3) hS254 K15 K13 K48 rfl (mpc rfl mpn) rfl rfl rfl (by kernel_rfl) (by kernel_rfl) rfl) ?_ ?_
     ·rintro _ w_143 ⟨b30, rfl, hS258⟩
      have hS258 : ST w0 [] _ [⟨aD b1, 28, [vi 0, .slice none 0 0], 2⟩, ⟨aD b2, 52, [vi Qubits, .slice B3 XImages.length c3, .slice B4 ZImages.length c4, .slice B5 out.length c5], 4⟩, ⟨B5, 55, (out.flatMap eN2), c5 * 3⟩, ⟨aD b29, 28, [vi t.Qubits, .slice B249 Gates.length c249], 2⟩, ⟨B249, 55, (Gates.flatMap eN2), c249 * 3⟩, ⟨aD b30, 55, ([x34].flatMap eN2), 1 * 3⟩] [⟨B4, (ZImages.flatMap eN0)⟩, ⟨B3, (XImages.flatMap eN0)⟩, ⟨B, (t.XImages.flatMap eN0)⟩, ⟨B1, (t.ZImages.flatMap eN0)⟩] := hS258
      refine ⟨(hS258.se [0, 1, 2]), ?_⟩
      refine rA [1] ?_
      refine ra_y 33 (i := 1) (v := .slice B249 Gates.length c249) rfl rfl rfl (yl (aD b29) 1 [vi t.Qubits, .slice B249 Gates.length c249] (.slice B249 Gates.length c249) K22 (hS258.c 3)) (hS258.se [0, 1, 2]) ?_ ?_
      ·skip
       refine rA [10] ?_
       refine rS 42 10 rfl (Ys_append (s := 3) (by' := 24) (i := 4) (nn := Gates.length) (c := c249) (k := 1) (len := (Gates ++ [x34]).length) (B := B249) (xs := ([x34].flatMap eN2)) (cs' := ((Gates ++ [x34]).flatMap eN2)) hS258 K15 K13 K45 K28 rfl (by decide) rfl rfl rfl rfl (fm_lenn (l := Gates) eN4 rfl) rfl (hS258.c 5) (fm_lenn (l := [x34]) eN4 rfl) (fm_one' (enc := eN2) enc_Gate_one [x34]) (by have := hap; omega) (by have := hap; simp only [maxLen]; omega) (fm_app _ _) (app_len (l := Gates) (l' := [x34]) rfl rfl)) ?_ ?_
       ·rintro _ w_144 ⟨B251, c251, rfl, hS259⟩
        refine ⟨(hS259.se [0, 1, 2]), ?_⟩
        refine rq 11 43 (v := pt (aD b29) 1) rfl (hS259.se [0, 1, 2]) (fun w' hw' => (yd (aD b29) 0 0 K33 K17 rfl (hf68.g 5 2))) ?_
        refine rA [12] ?_
        refine rZ 12 rfl (yS 3 1 (aD b29) 28 (.slice B251 ((Gates ++ [x34]).length) c251) [.slice B251 ((Gates ++ [x34]).length) c251] 1 [vi t.Qubits, .slice B251 ((Gates ++ [x34]).length) c251] hS259 K17) ?_ ?_
        ·rintro _ w_145 ⟨rfl, hS260⟩
         refine ⟨(hS260.se [0, 1, 2]), ?_⟩
         refine ra_done (by kernel_rfl) ?_
         exact ⟨B251, c251, (fc (hf68.g 2 0) (fc (hf68.g 3 1) (fc (hf68.g 5 2) (fc (hf68.g 6 3) fn_)))), (hS260.sel [0, 1, 2, 3, 4] rfl rfl)⟩
        exact aN
       exact aN
      exact aN
     exact aN
    rintro f w ⟨B252, c252, hf70, hS253⟩
    refine cq (cr ?_)
    refine sQ 44 (ym (pt (aD b2) 0) rfl (hf70.g 3 1)) <| sQ 45 (Y_nilCheck (B := aD b2) (i := 0) rfl rfl) <| sQ 46 (yd (aD b2) 0 0 K49 K17) <| sQ 47 (yl (aD b2) 3 [vi Qubits, .slice B3 XImages.length c3, .slice B4 ZImages.length c4, .slice B5 out.length c5] (.slice B5 out.length c5) K22 (hS253.c 1)) <| sQ 48 (ym (vi K21) rfl (hf70.g 6 3)) ?_
    obtain ⟨x35, hx35, hz42⟩ := bI hz42
    refine sQ 49 (Y_index (B := B5) (m := out.length) (c := c5) (k := .i64) (i := K21) K15 K13 rfl rfl rfl (gi_isSome eN4 rfl (hS253.c 2) hx35) (getI_nn hx35) (getI_ltI hx35 rfl)) <| sQ 50 (yd B5 (K21.toNat * 3) 0 K36 K3) <| sQ 51 (yl B5 (K21.toNat * 3 + 0) (out.flatMap eN2) (vi x35.Kind) K4 (hS253.c 2) rfl rfl (gi_at eN4 hx35 rfl)) <| sQ 52 (yE x35.Kind 5) (rn ?_)
    refine cw_cond (b := (x35.Kind == 5)) rfl (fun hb60 => ?_) (fun hb60 => ?_)
    ·skip
     have hF131 := ct hz42 hb60
     obtain ⟨hap1, hF131⟩ := chk_inv hF131
     refine cw_mid (fun f w => ∃ (B254 : Option Addr) (c254 : Nat), FF f [(2, pt (aD b1) 0), (3, pt (aD b2) 0), (5, pt (aD b29) 0), (6, vi K21)] ∧ ST w0 [] w [⟨aD b1, 28, [vi 0, .slice none 0 0], 2⟩, ⟨aD b2, 52, [vi Qubits, .slice B3 XImages.length c3, .slice B4 ZImages.length c4, .slice B5 out.length c5], 4⟩, ⟨B5, 55, (out.flatMap eN2), c5 * 3⟩, ⟨aD b29, 28, [vi t.Qubits, .slice B254 (((Gates ++ [x34]) ++ [x35, x35]).length) c254], 2⟩, ⟨B254, 55, (((Gates ++ [x34]) ++ [x35, x35]).flatMap eN2), c254 * 3⟩] [⟨B4, (ZImages.flatMap eN0)⟩, ⟨B3, (XImages.flatMap eN0)⟩, ⟨B, (t.XImages.flatMap eN0)⟩, ⟨B1, (t.ZImages.flatMap eN0)⟩]) ?_ ?_
     ·skip
      refine ra_start (hS253.se [0, 1, 2]).fn (by kernel_rfl) ?_
      have hS262 := hS253.drew
      refine rq 0 53 (v := pt (aD b29) 1) rfl (hS262.se [0, 1, 2]) (fun w' hw' => (yd (aD b29) 0 0 K33 K17 rfl (hf70.g 5 2))) ?_
      refine rq 2 55 (v := pt (aD b2) 0) rfl (hS262.se [0, 1, 2]) (fun w' hw' => (ym (pt (aD b2) 0) rfl (hf70.g 3 1))) ?_
      refine rq 3 56 (v := pt (aD b2) 0) rfl (hS262.se [0, 1, 2]) (fun w' hw' => (Y_nilCheck (B := aD b2) (i := 0) rfl rfl)) ?_
      refine rq 4 57 (v := pt (aD b2) 3) rfl (hS262.se [0, 1, 2]) (fun w' hw' => (yd (aD b2) 0 0 K49 K17)) ?_
      refine rq 5 58 (v := .slice B5 out.length c5) rfl (hS262.se [0, 1, 2]) (fun w' hw' => (yl (aD b2) 3 [vi Qubits, .slice B3 XImages.length c3, .slice B4 ZImages.length c4, .slice B5 out.length c5] (.slice B5 out.length c5) K22 (ST.cf hw' (i := 1) rfl))) ?_
      refine rq 6 59 (v := vi K21) rfl (hS262.se [0, 1, 2]) (fun w' hw' => (ym (vi K21) rfl (hf70.g 6 3))) ?_
      refine rq 7 60 (v := pt B5 (K21.toNat * 3)) rfl (hS262.se [0, 1, 2]) (fun w' hw' => (Y_index (B := B5) (m := out.length) (c := c5) (k := .i64) (i := K21) K15 K13 rfl rfl rfl (gi_isSome eN4 rfl (ST.cf hw' (i := 2) rfl) hx35) (getI_nn hx35) (getI_ltI hx35 rfl))) ?_
      refine rq 8 61 (v := .agg #[vi x35.Kind, vi x35.A, vi x35.B]) rfl (hS262.se [0, 1, 2]) (fun w' hw' => (ya B5 (K21.toNat * 3) (out.flatMap eN2) [vi x35.Kind, vi x35.A, vi x35.B] K26 K13 (ST.cf hw' (i := 2) rfl) rfl rfl (eN4 x35) (gi_seg eN4 hx35))) ?_
      refine rq 9 62 (v := pt (aD b2) 0) rfl (hS262.se [0, 1, 2]) (fun w' hw' => (ym (pt (aD b2) 0) rfl (hf70.g 3 1))) ?_
      refine rq 10 63 (v := pt (aD b2) 0) rfl (hS262.se [0, 1, 2]) (fun w' hw' => (Y_nilCheck (B := aD b2) (i := 0) rfl rfl)) ?_
      refine rq 11 64 (v := pt (aD b2) 3) rfl (hS262.se [0, 1, 2]) (fun w' hw' => (yd (aD b2) 0 0 K49 K17)) ?_
      refine rq 12 65 (v := .slice B5 out.length c5) rfl (hS262.se [0, 1, 2]) (fun w' hw' => (yl (aD b2) 3 [vi Qubits, .slice B3 XImages.length c3, .slice B4 ZImages.length c4, .slice B5 out.length c5] (.slice B5 out.length c5) K22 (ST.cf hw' (i := 1) rfl))) ?_
      refine rq 13 66 (v := vi K21) rfl (hS262.se [0, 1, 2]) (fun w' hw' => (ym (vi K21) rfl (hf70.g 6 3))) ?_
      refine rq 14 67 (v := pt B5 (K21.toNat * 3)) rfl (hS262.se [0, 1, 2]) (fun w' hw' => (Y_index (B := B5) (m := out.length) (c := c5) (k := .i64) (i := K21) K15 K13 rfl rfl rfl (gi_isSome eN4 rfl (ST.cf hw' (i := 2) rfl) hx35) (getI_nn hx35) (getI_ltI hx35 rfl))) ?_
      refine rq 15 68 (v := .agg #[vi x35.Kind, vi x35.A, vi x35.B]) rfl (hS262.se [0, 1, 2]) (fun w' hw' => (ya B5 (K21.toNat * 3) (out.flatMap eN2) [vi x35.Kind, vi x35.A, vi x35.B] K26 K13 (ST.cf hw' (i := 2) rfl) rfl rfl (eN4 x35) (gi_seg eN4 hx35))) ?_
      refine rA [1, 16] ?_
      refine ra_y 54 (i := 1) (v := .slice B252 ((Gates ++ [x34]).length) c252) rfl rfl rfl (yl (aD b29) 1 [vi t.Qubits, .slice B252 ((Gates ++ [x34]).length) c252] (.slice B252 ((Gates ++ [x34]).length) c252) K22 (hS262.c 3)) (hS262.se [0, 1, 2]) ?_ ?_
      ·skip
       refine rA [16] ?_
       refine rS 69 16 rfl (Ys_bslice (s := 3) (len := 2) (vs := [(0, .agg #[vi x35.Kind, vi x35.A, vi x35.B]), (1, .agg #[vi x35.Kind, vi x35.A, vi x35.B])]) (cs := [vi x35.Kind, vi x35.A, vi x35.B, vi x35.Kind, vi x35.A, vi x35.B]) (zs := [vi 0, vi 0, vi 0, vi 0, vi 0, vi 0]) (m := 6) hS262 K15 K13 K48 rfl (mpc rfl (mpc rfl mpn)) rfl rfl rfl (by kernel_rfl) (by kernel_rfl) rfl) ?_ ?_
       ·rintro _ w_146 ⟨b31, rfl, hS263⟩
        refine ⟨(hS263.se [0, 1, 2]), ?_⟩
        refine rA [17] ?_
        refine rS 70 17 rfl (Ys_append (s := 3) (by' := 24) (i := 4) (nn := (Gates ++ [x34]).length) (c := c252) (k := 2) (len := ((Gates ++ [x34]) ++ [x35, x35]).length) (B := B252) (xs := ([x35, x35].flatMap eN2)) (cs' := (((Gates ++ [x34]) ++ [x35, x35]).flatMap eN2)) hS263 K15 K13 K45 K28 rfl (by decide) rfl rfl rfl rfl (fm_lenn (l := (Gates ++ [x34])) eN4 rfl) rfl (hS263.c 5) (fm_lenn (l := [x35, x35]) eN4 rfl) (fm_one' (enc := eN2) enc_Gate_one [x35, x35]) (by have := hap1; omega) (by have := hap1; simp only [maxLen]; omega) (fm_app _ _) (app_len (l := (Gates ++ [x34])) (l' := [x35, x35]) rfl rfl)) ?_ ?_
        ·rintro _ w_147 ⟨B253, c253, rfl, hS264⟩
         have hS264 : ST w0 [] _ [⟨aD b1, 28, [vi 0, .slice none 0 0], 2⟩, ⟨aD b2, 52, [vi Qubits, .slice B3 XImages.length c3, .slice B4 ZImages.length c4, .slice B5 out.length c5], 4⟩, ⟨B5, 55, (out.flatMap eN2), c5 * 3⟩, ⟨aD b29, 28, [vi t.Qubits, .slice B252 ((Gates ++ [x34]).length) c252], 2⟩, ⟨B253, 55, (((Gates ++ [x34]) ++ [x35, x35]).flatMap eN2), c253 * 3⟩, ⟨aD b31, 55, ([x35, x35].flatMap eN2), 2 * 3⟩] [⟨B4, (ZImages.flatMap eN0)⟩, ⟨B3, (XImages.flatMap eN0)⟩, ⟨B, (t.XImages.flatMap eN0)⟩, ⟨B1, (t.ZImages.flatMap eN0)⟩] := hS264
         refine ⟨(hS264.se [0, 1, 2]), ?_⟩
         refine rq 18 71 (v := pt (aD b29) 1) rfl (hS264.se [0, 1, 2]) (fun w' hw' => (yd (aD b29) 0 0 K33 K17 rfl (hf70.g 5 2))) ?_
         refine rA [19] ?_
         refine rZ 19 rfl (yS 3 1 (aD b29) 28 (.slice B253 (((Gates ++ [x34]) ++ [x35, x35]).length) c253) [.slice B253 (((Gates ++ [x34]) ++ [x35, x35]).length) c253] 1 [vi t.Qubits, .slice B253 (((Gates ++ [x34]) ++ [x35, x35]).length) c253] hS264 K17) ?_ ?_
         ·rintro _ w_148 ⟨rfl, hS265⟩
          refine ⟨(hS265.se [0, 1, 2]), ?_⟩
          refine ra_done (by kernel_rfl) ?_
          exact ⟨B253, c253, (fc (hf70.g 2 0) (fc (hf70.g 3 1) (fc (hf70.g 5 2) (fc (hf70.g 6 3) fn_)))), (hS265.sel [0, 1, 2, 3, 4] rfl rfl)⟩
         exact aN
        exact aN
       exact aN
      refine rS 69 16 rfl (Ys_bslice (s := 3) (len := 2) (vs := [(0, .agg #[vi x35.Kind, vi x35.A, vi x35.B]), (1, .agg #[vi x35.Kind, vi x35.A, vi x35.B])]) (cs := [vi x35.Kind, vi x35.A, vi x35.B, vi x35.Kind, vi x35.A, vi x35.B]) (zs := [vi 0, vi 0, vi 0, vi 0, vi 0, vi 0]) (m := 6) hS262 K15 K13 K48 rfl (mpc rfl (mpc rfl mpn)) rfl rfl rfl (by kernel_rfl) (by kernel_rfl) rfl) ?_ ?_
      ·rintro _ w_149 ⟨b31, rfl, hS266⟩
       refine ⟨(hS266.se [0, 1, 2]), ?_⟩
       refine rA [1] ?_
       refine ra_y 54 (i := 1) (v := .slice B252 ((Gates ++ [x34]).length) c252) rfl rfl rfl (yl (aD b29) 1 [vi t.Qubits, .slice B252 ((Gates ++ [x34]).length) c252] (.slice B252 ((Gates ++ [x34]).length) c252) K22 (hS266.c 3)) (hS266.se [0, 1, 2]) ?_ ?_
       ·skip
        refine rA [17] ?_
        refine rS 70 17 rfl (Ys_append (s := 3) (by' := 24) (i := 4) (nn := (Gates ++ [x34]).length) (c := c252) (k := 2) (len := ((Gates ++ [x34]) ++ [x35, x35]).length) (B := B252) (xs := ([x35, x35].flatMap eN2)) (cs' := (((Gates ++ [x34]) ++ [x35, x35]).flatMap eN2)) hS266 K15 K13 K45 K28 rfl (by decide) rfl rfl rfl rfl (fm_lenn (l := (Gates ++ [x34])) eN4 rfl) rfl (hS266.c 5) (fm_lenn (l := [x35, x35]) eN4 rfl) (fm_one' (enc := eN2) enc_Gate_one [x35, x35]) (by have := hap1; omega) (by have := hap1; simp only [maxLen]; omega) (fm_app _ _) (app_len (l := (Gates ++ [x34])) (l' := [x35, x35]) rfl rfl)) ?_ ?_
        ·rintro _ w_150 ⟨B253, c253, rfl, hS267⟩
         refine ⟨(hS267.se [0, 1, 2]), ?_⟩
         refine rq 18 71 (v := pt (aD b29) 1) rfl (hS267.se [0, 1, 2]) (fun w' hw' => (yd (aD b29) 0 0 K33 K17 rfl (hf70.g 5 2))) ?_
         refine rA [19] ?_
         refine rZ 19 rfl (yS 3 1 (aD b29) 28 (.slice B253 (((Gates ++ [x34]) ++ [x35, x35]).length) c253) [.slice B253 (((Gates ++ [x34]) ++ [x35, x35]).length) c253] 1 [vi t.Qubits, .slice B253 (((Gates ++ [x34]) ++ [x35, x35]).length) c253] hS267 K17) ?_ ?_
         ·rintro _ w_151 ⟨rfl, hS268⟩
          have hS268 : ST w0 [] _ [⟨aD b1, 28, [vi 0, .slice none 0 0], 2⟩, ⟨aD b2, 52, [vi Qubits, .slice B3 XImages.length c3, .slice B4 ZImages.length c4, .slice B5 out.length c5], 4⟩, ⟨B5, 55, (out.flatMap eN2), c5 * 3⟩, ⟨aD b29, 28, [vi t.Qubits, .slice B253 (((Gates ++ [x34]) ++ [x35, x35]).length) c253], 2⟩, ⟨B253, 55, (((Gates ++ [x34]) ++ [x35, x35]).flatMap eN2), c253 * 3⟩, ⟨aD b31, 55, ([x35, x35].flatMap eN2), 2 * 3⟩] [⟨B4, (ZImages.flatMap eN0)⟩, ⟨B3, (XImages.flatMap eN0)⟩, ⟨B, (t.XImages.flatMap eN0)⟩, ⟨B1, (t.ZImages.flatMap eN0)⟩] := hS268
          refine ⟨(hS268.se [0, 1, 2]), ?_⟩
          refine ra_done (by kernel_rfl) ?_
          exact ⟨B253, c253, (fc (hf70.g 2 0) (fc (hf70.g 3 1) (fc (hf70.g 5 2) (fc (hf70.g 6 3) fn_)))), (hS268.sel [0, 1, 2, 3, 4] rfl rfl)⟩
         exact aN
        exact aN
       exact aN
      exact aN
     rintro f w ⟨B254, c254, hf71, hS261⟩
     exact ⟨((Gates ++ [x34]) ++ [x35, x35]), B254, c254, (sI hF131), (fc (hf71.g 2 0) (fc (hf71.g 3 1) (fc (hf71.g 5 2) (fc (hf71.g 6 3) fn_)))), (hS261.sel [0, 1, 2, 3, 4] rfl rfl)⟩
    ·skip
     have hF132 := cf' hz42 hb60
     refine cw_skip ?_
     exact ⟨(Gates ++ [x34]), B252, c252, (sI hF132), (fc (hf70.g 2 0) (fc (hf70.g 3 1) (fc (hf70.g 5 2) (fc (hf70.g 6 3) fn_)))), (hS253.sel [0, 1, 2, 3, 4] rfl rfl)⟩
   rintro f w ⟨Gates1, B250, c250, rfl, hf69, hS252⟩
   refine cr ?_
   refine sQ 30 (ym (vi K21) rfl (hf69.g 6 3)) <| sQ 31 (yM K21 1) <| sQ 6 (yg (vi (i64.wrap (K21 - 1)))) (rn ?_)
   obtain rfl := sI hF130
   exact ⟨k_32, Nat.lt_succ_self _, Gates1, (i64.wrap (K21 - 1)), B250, c250, (fc (hf69.g 2 0) (fc (hf69.g 3 1) (fc (hf69.g 5 2) (fc rfl fn_)))), (hS252.sel [0, 1, 2, 3, 4] rfl rfl), hL31⟩
  ·skip
   have hF133 := cf' hb58 hb59
   refine cw_exit rfl ?_
   obtain rfl := sI hF133
   obtain rfl := sI hL31
   refine cq (cr ?_)
   refine sQ 72 (yb (aD b29) 0 [vi t.Qubits, .slice B249 Gates.length c249] K19 K16 (hS250.c 3) rfl (hf68.g 5 2)) ?_
   refine s0 (yT 0 2 (aD b1) 28 (.agg #[vi t.Qubits, .slice B249 Gates.length c249]) [vi t.Qubits, .slice B249 Gates.length c249] 0 hS250 K16 rfl (hf68.g 2 0)) ?_
   rintro _ w_152 ⟨rfl, hS269⟩
   refine rn (ct_ ?_)
   obtain rfl := sI hF128
   exact ret1 Try.results13 (v1 := .agg #[vi t.Qubits, .slice B249 Gates.length c249]) (resAt_cellA (B := aD b1) (i := 0) (cs := [vi t.Qubits, .slice B249 Gates.length c249]) (vs := [vi t.Qubits, .slice B249 Gates.length c249]) (hf68.g 2 0) K19 K16 (hS269.c 0) rfl rfl) ⟨B249, c249, rfl, (hS269.sN [4])⟩

theorem c_spec_l7Of (c : TCircuit) (B : Option Addr) (c1 n : Nat) (w0 : World) (hn : c.Gates.length = n) (hS : ST w0 [] w0 [] [⟨B, (c.Gates.flatMap eN2)⟩]) {r_ : TTableau} (hF : F_spec_l7Of c = some r_) :
  CV Try.prog 14 #[.agg #[vi c.Qubits, .slice B n c1]] w0 (fun v w' => ∃ (B1 : Option Addr) (c2 : Nat) (B2 : Option Addr) (c3 : Nat), v = .agg #[vi r_.Qubits, .slice B1 r_.XImages.length c2, .slice B2 r_.ZImages.length c3] ∧ ST w0 [] w' [⟨B1, 71, (r_.XImages.flatMap eN0), c2 * 3⟩, ⟨B2, 71, (r_.ZImages.flatMap eN0), c3 * 3⟩] []) := by
 subst hn
 unfold F_spec_l7Of at hF
 refine cv_of_cw 24 Try.func14 rfl Try.ntmps14 rfl ?_
 refine cq (cr ?_)
 refine sS 1 (yB 28 (.agg #[vi c.Qubits, .slice B c.Gates.length c1]) [vi c.Qubits, .slice B c.Gates.length c1] 2 hS) ?_
 rintro _ w_ ⟨b, rfl, hS1⟩
 refine sS 2 (yN [vi 0, .slice none 0 0, .slice none 0 0] 3 hS1 K31) ?_
 rintro _ w_1 ⟨b1, rfl, hS2⟩
 refine rn (cq (cr ?_))
 refine sQ 6 (yd (aD b) 0 0 K47 K3) <| sQ 7 (yl (aD b) 0 [vi c.Qubits, .slice B c.Gates.length c1] (vi c.Qubits) K4 (hS2.c 0)) ?_
 obtain ⟨r_1, hc, hF⟩ := bI hF
 refine sc 8 rfl rfl (yC [vi c.Qubits] k_call_23 (c_spec_l7Identity c.Qubits _  (hS2.inn0 [] rfl) hc)) ?_
 rintro _ w_2 ⟨B3, c4, B4, c5, rfl, hd⟩
 have hS3 := hS2.out0 hd
 refine sS 3 (yN [vi 0, .slice none 0 0, .slice none 0 0] 3 hS3 K31) ?_
 rintro _ w_3 ⟨b2, rfl, hS4⟩
 refine s0 (yT 4 3 (aD b2) 40 (.agg #[vi r_1.Qubits, .slice B3 r_1.XImages.length c4, .slice B4 r_1.ZImages.length c5]) [vi r_1.Qubits, .slice B3 r_1.XImages.length c4, .slice B4 r_1.ZImages.length c5] 0 hS4 K10) ?_
 rintro _ w_4 ⟨rfl, hS5⟩
 refine rn (cq (cq (cr ?_)))
 refine sQ 9 (yd (aD b) 0 0 K33 K17) <| sQ 10 (yl (aD b) 1 [vi c.Qubits, .slice B c.Gates.length c1] (.slice B c.Gates.length c1) K22 (hS5.c 0)) <| sQ 11 (Y_len (B := B) (m := c.Gates.length) (c := c1) K15 rfl rfl) <| sQ 12 (ym (vi 0)) (rn ?_)
 obtain ⟨hN, hF⟩ := chk_inv hF
 obtain ⟨z, hz, hF1⟩ := bI hF
 refine cw_block ?_
 refine cw_loop (fun k f w => ∃ (i : Nat) (Qubits : Int) (XImages : List TPauli) (ZImages : List TPauli) (B5 : Option Addr) (c6 : Nat) (B6 : Option Addr) (c7 : Nat), FF f [(1, pt (aD b) 0), (2, pt (aD b1) 0), (3, pt (aD b2) 0), (10, .slice B c.Gates.length c1), (11, vi (c.Gates.length : Int)), (12, vi (i : Int))] ∧ ST w0 [] w [⟨aD b, 28, [vi c.Qubits, .slice B c.Gates.length c1], 2⟩, ⟨aD b1, 40, [vi 0, .slice none 0 0, .slice none 0 0], 3⟩, ⟨aD b2, 40, [vi Qubits, .slice B5 XImages.length c6, .slice B6 ZImages.length c7], 3⟩, ⟨B5, 71, (XImages.flatMap eN0), c6 * 3⟩, ⟨B6, 71, (ZImages.flatMap eN0), c7 * 3⟩] [⟨B, (c.Gates.flatMap eN2)⟩] ∧ i + k = c.Gates.length ∧ forN (F_spec_l7Of_l1 c) k i (Qubits, XImages, ZImages) = some z) c.Gates.length ⟨0, r_1.Qubits, r_1.XImages, r_1.ZImages, B3, c4, B4, c5, (fc rfl (fc rfl (fc rfl (fc rfl (fc rfl (fc rfl fn_)))))), (hS5.sel [0, 1, 4, 2, 3] rfl rfl), Nat.zero_add _, hz⟩ ?_
 rintro k_ f w ⟨i, Qubits, XImages, ZImages, B5, c6, B6, c7, hf, hS6, hik, hL⟩
 refine cq (cr ?_)
 refine sQ 13 (yL (i : Int) (c.Gates.length : Int) rfl (hf.g 12 5) (hf.g 11 4)) (rn (cq ?_))
 refine cw_cond (b := (decide ((i : Int) < (c.Gates.length : Int)))) rfl (fun hlt => ?_) (fun hlt => ?_)
 ·skip
  have hlt1 : i < c.Gates.length := by have h := of_decide_eq_true hlt; omega
  obtain ⟨K7, rfl⟩ : ∃ k2, k_ = k2 + 1 := ⟨k_ - 1, by omega⟩
  obtain ⟨y, hb, hL1⟩ := forN_go hL
  unfold F_spec_l7Of_l1 at hb
  refine cw_skip (cq (cw_block (cq (cr ?_))))
  obtain ⟨x, hx, hb⟩ := bI hb
  refine sQ 14 (Y_index (B := B) (m := c.Gates.length) (c := c1) (k := .i64) (i := (i : Int)) K15 K13 rfl (hf.g 10 3) (hf.g 12 5) (gi_isSome eN4 rfl (hS6.rf (i := 0) rfl) hx) (getI_nn hx) (getI_ltI hx rfl)) <| sQ 15 (ya B ((i : Int).toNat * 3) (c.Gates.flatMap eN2) [vi x.Kind, vi x.A, vi x.B] K26 K13 (hS6.rf (i := 0) rfl) rfl rfl (eN4 x) (gi_seg eN4 hx)) ?_
  refine sS 5 (yN [vi 0, vi 0, vi 0] 3 hS6 K28) ?_
  rintro _ w_5 ⟨b3, rfl, hS7⟩
  refine s0 (yT 5 3 (aD b3) 55 (.agg #[vi x.Kind, vi x.A, vi x.B]) [vi x.Kind, vi x.A, vi x.B] 0 hS7 K13) ?_
  rintro _ w_6 ⟨rfl, hS8⟩
  refine rn ?_
  obtain ⟨r_2, hc1, hb⟩ := bI hb
  obtain ⟨r_3, hc2, hb⟩ := bI hb
  refine cw_mid (fun f w => ∃ (B11 : Option Addr) (c12 : Nat) (B12 : Option Addr) (c13 : Nat), FF f [(1, pt (aD b) 0), (2, pt (aD b1) 0), (3, pt (aD b2) 0), (10, .slice B c.Gates.length c1), (11, vi (c.Gates.length : Int)), (12, vi (i : Int))] ∧ ST w0 [] w [⟨aD b, 28, [vi c.Qubits, .slice B c.Gates.length c1], 2⟩, ⟨aD b1, 40, [vi 0, .slice none 0 0, .slice none 0 0], 3⟩, ⟨aD b2, 40, [vi r_3.Qubits, .slice B11 r_3.XImages.length c12, .slice B12 r_3.ZImages.length c13], 3⟩, ⟨B11, 71, (r_3.XImages.flatMap eN0), c12 * 3⟩, ⟨B12, 71, (r_3.ZImages.flatMap eN0), c13 * 3⟩] [⟨B, (c.Gates.flatMap eN2)⟩]) ?_ ?_
  ·skip
   refine ra_start (hS8.se [0, 1, 3, 4, 5]).fn (by kernel_rfl) ?_
   have hS12 := hS8.drew
   refine rq 1 17 (v := pt (aD b) 0) rfl (hS12.se [0, 1, 3, 4, 5]) (fun w' hw' => (yd (aD b) 0 0 K47 K3 rfl (hf.g 1 0))) ?_
   refine rq 2 18 (v := vi c.Qubits) rfl (hS12.se [0, 1, 3, 4, 5]) (fun w' hw' => (yl (aD b) 0 [vi c.Qubits, .slice B c.Gates.length c1] (vi c.Qubits) K4 (ST.cf hw' (i := 0) rfl))) ?_
   refine rq 3 19 (v := .agg #[vi x.Kind, vi x.A, vi x.B]) rfl (hS12.se [0, 1, 3, 4, 5]) (fun w' hw' => (yb (aD b3) 0 [vi x.Kind, vi x.A, vi x.B] K26 K13 (ST.cf hw' (i := 4) rfl))) ?_
   refine rA [0, 4] ?_
   refine ra_y 16 (i := 0) (v := .agg #[vi Qubits, .slice B5 XImages.length c6, .slice B6 ZImages.length c7]) rfl rfl rfl (yb (aD b2) 0 [vi Qubits, .slice B5 XImages.length c6, .slice B6 ZImages.length c7] K20 K10 (hS12.c 2) rfl (hf.g 3 2)) (hS12.se [0, 1, 3, 4, 5]) ?_ ?_
   ·skip
    refine rA [4] ?_
    refine rC 20 4 rfl (yC [vi c.Qubits, .agg #[vi x.Kind, vi x.A, vi x.B]] K60 (c_spec_l7Gate c.Qubits x _  (hS12.inn0 [] rfl) hc1)) ?_ ?_
    ·rintro _ w_7 ⟨B7, c8, B8, c9, rfl, hd1⟩
     have hS13 := hS12.out0 hd1
     refine ⟨(hS13.se [0, 1, 3, 4, 5]), ?_⟩
     refine rA [5] ?_
     refine rC 21 5 rfl (yC [.agg #[vi Qubits, .slice B5 XImages.length c6, .slice B6 ZImages.length c7], .agg #[vi r_2.Qubits, .slice B7 r_2.XImages.length c8, .slice B8 r_2.ZImages.length c9]] K61 (c_spec_l7Then (TTableau.mk Qubits XImages ZImages) r_2 B5 c6 XImages.length B6 c7 ZImages.length B7 c8 r_2.XImages.length B8 c9 r_2.ZImages.length _ rfl rfl rfl rfl (hS13.inn0 [(false, 3), (false, 4), (false, 6), (false, 7)] rfl) hc2)) ?_ ?_
     ·rintro _ w_8 ⟨B9, c10, B10, c11, rfl, hd2⟩
      have hS14 := hS13.out0 hd2
      refine ⟨(hS14.se [0, 1, 3, 4, 5]), ?_⟩
      refine rA [6] ?_
      refine rZ 6 rfl (yT 2 3 (aD b2) 40 (.agg #[vi r_3.Qubits, .slice B9 r_3.XImages.length c10, .slice B10 r_3.ZImages.length c11]) [vi r_3.Qubits, .slice B9 r_3.XImages.length c10, .slice B10 r_3.ZImages.length c11] 0 hS14 K10 rfl (hf.g 3 2)) ?_ ?_
      ·rintro _ w_9 ⟨rfl, hS15⟩
       refine ⟨(hS15.se [0, 1, 3, 4, 5]), ?_⟩
       refine ra_done (by kernel_rfl) ?_
       exact ⟨B9, c10, B10, c11, (fc (hf.g 1 0) (fc (hf.g 2 1) (fc (hf.g 3 2) (fc (hf.g 10 3) (fc (hf.g 11 4) (fc (hf.g 12 5) fn_)))))), (hS15.sel [0, 1, 2, 8, 9] rfl rfl)⟩
      exact aN
     exact aN
    exact aN
   refine rC 20 4 rfl (yC [vi c.Qubits, .agg #[vi x.Kind, vi x.A, vi x.B]] K60 (c_spec_l7Gate c.Qubits x _  (hS12.inn0 [] rfl) hc1)) ?_ ?_
   ·rintro _ w_10 ⟨B7, c8, B8, c9, rfl, hd3⟩
    have hS16 := hS12.out0 hd3
    refine ⟨(hS16.se [0, 1, 3, 4, 5]), ?_⟩
    refine rA [0] ?_
    refine ra_y 16 (i := 0) (v := .agg #[vi Qubits, .slice B5 XImages.length c6, .slice B6 ZImages.length c7]) rfl rfl rfl (yb (aD b2) 0 [vi Qubits, .slice B5 XImages.length c6, .slice B6 ZImages.length c7] K20 K10 (hS16.c 2) rfl (hf.g 3 2)) (hS16.se [0, 1, 3, 4, 5]) ?_ ?_
    ·skip
     refine rA [5] ?_
     refine rC 21 5 rfl (yC [.agg #[vi Qubits, .slice B5 XImages.length c6, .slice B6 ZImages.length c7], .agg #[vi r_2.Qubits, .slice B7 r_2.XImages.length c8, .slice B8 r_2.ZImages.length c9]] K61 (c_spec_l7Then (TTableau.mk Qubits XImages ZImages) r_2 B5 c6 XImages.length B6 c7 ZImages.length B7 c8 r_2.XImages.length B8 c9 r_2.ZImages.length _ rfl rfl rfl rfl (hS16.inn0 [(false, 3), (false, 4), (false, 6), (false, 7)] rfl) hc2)) ?_ ?_
     ·rintro _ w_11 ⟨B9, c10, B10, c11, rfl, hd4⟩
      have hS17 := hS16.out0 hd4
      refine ⟨(hS17.se [0, 1, 3, 4, 5]), ?_⟩
      refine rA [6] ?_
      refine rZ 6 rfl (yT 2 3 (aD b2) 40 (.agg #[vi r_3.Qubits, .slice B9 r_3.XImages.length c10, .slice B10 r_3.ZImages.length c11]) [vi r_3.Qubits, .slice B9 r_3.XImages.length c10, .slice B10 r_3.ZImages.length c11] 0 hS17 K10 rfl (hf.g 3 2)) ?_ ?_
      ·rintro _ w_12 ⟨rfl, hS18⟩
       refine ⟨(hS18.se [0, 1, 3, 4, 5]), ?_⟩
       refine ra_done (by kernel_rfl) ?_
       exact ⟨B9, c10, B10, c11, (fc (hf.g 1 0) (fc (hf.g 2 1) (fc (hf.g 3 2) (fc (hf.g 10 3) (fc (hf.g 11 4) (fc (hf.g 12 5) fn_)))))), (hS18.sel [0, 1, 2, 8, 9] rfl rfl)⟩
      exact aN
     exact aN
    exact aN
   exact aN
  rintro f w ⟨B11, c12, B12, c13, hf1, hS11⟩
  refine cr ?_
  refine sQ 22 (yP (i : Int) 1 rfl (hf1.g 12 5)) <| sQ 12 (ym (vi (i64.wrap ((i : Int) + 1)))) (rn ?_)
  obtain rfl := sI hb
  exact ⟨K7, Nat.lt_succ_self _, i + 1, r_3.Qubits, r_3.XImages, r_3.ZImages, B11, c12, B12, c13, (fc (hf1.g 1 0) (fc (hf1.g 2 1) (fc (hf1.g 3 2) (fc (hf1.g 10 3) (fc (hf1.g 11 4) (fc (congrArg (Value.int .i64) (wr_succ hlt1 hN)) fn_)))))), (hS11.sel [0, 1, 2, 3, 4] rfl rfl), (by omega), hL1⟩
 ·skip
  obtain rfl : k_ = 0 := by have h := of_decide_eq_false hlt; omega
  refine cw_exit rfl ?_
  obtain rfl := sI hL
  refine cq (cr ?_)
  refine sQ 23 (yb (aD b2) 0 [vi Qubits, .slice B5 XImages.length c6, .slice B6 ZImages.length c7] K20 K10 (hS6.c 2) rfl (hf.g 3 2)) ?_
  refine s0 (yT 1 3 (aD b1) 40 (.agg #[vi Qubits, .slice B5 XImages.length c6, .slice B6 ZImages.length c7]) [vi Qubits, .slice B5 XImages.length c6, .slice B6 ZImages.length c7] 0 hS6 K10 rfl (hf.g 2 1)) ?_
  rintro _ w_13 ⟨rfl, hS19⟩
  refine rn (ct_ ?_)
  obtain rfl := sI hF1
  exact ret1 Try.results14 (v1 := .agg #[vi Qubits, .slice B5 XImages.length c6, .slice B6 ZImages.length c7]) (resAt_cellA (B := aD b1) (i := 0) (cs := [vi Qubits, .slice B5 XImages.length c6, .slice B6 ZImages.length c7]) (vs := [vi Qubits, .slice B5 XImages.length c6, .slice B6 ZImages.length c7]) (hf.g 2 1) K20 K10 (hS19.c 1) rfl rfl) ⟨B5, c6, B6, c7, rfl, (hS19.sN [3, 4])⟩

theorem c_spec_NormalizeClifford (c : TCircuit) (B : Option Addr) (c1 n : Nat) (w0 : World) (hn : c.Gates.length = n) (hS : ST w0 [] w0 [] [⟨B, (c.Gates.flatMap eN2)⟩]) {r_ : TCircuit} {r_1 : Bool} (hF : F_spec_NormalizeClifford c = some (r_, r_1)) :
  CV Try.prog 5 #[.agg #[vi c.Qubits, .slice B n c1]] w0 (fun v w' => ∃ (B1 : Option Addr) (c2 : Nat), v = .tuple #[.agg #[vi r_.Qubits, .slice B1 r_.Gates.length c2], .bool r_1] ∧ ST w0 [] w' [⟨B1, 55, (r_.Gates.flatMap eN2), c2 * 3⟩] []) := by
 subst hn
 unfold F_spec_NormalizeClifford at hF
 refine cv_of_cw 11 Try.func5 rfl Try.ntmps5 rfl ?_
 refine cq (cr ?_)
 refine sS 1 (yB 28 (.agg #[vi c.Qubits, .slice B c.Gates.length c1]) [vi c.Qubits, .slice B c.Gates.length c1] 2 hS) ?_
 rintro _ w_ ⟨b, rfl, hS1⟩
 refine sS 2 (yN [vi 0, .slice none 0 0] 2 hS1 K34) ?_
 rintro _ w_1 ⟨b1, rfl, hS2⟩
 refine sQ 3 (yg (.bool false)) (rn (cq (cq (cr ?_))))
 refine sQ 4 (yb (aD b) 0 [vi c.Qubits, .slice B c.Gates.length c1] K19 K16 (hS2.c 0)) ?_
 obtain ⟨r_2, hc, hF⟩ := bI hF
 refine sc 5 rfl rfl (yC [.agg #[vi c.Qubits, .slice B c.Gates.length c1]] k_call_12 (c_spec_l7Clifford c B c1 c.Gates.length _ rfl (hS2.inn0 [(true, 0)] rfl) hc)) ?_
 rintro _ w_2 ⟨rfl, hd⟩
 have hS3 := hS2.out00 hd
 refine sQ 6 (Y_not (p := r_2) rfl rfl) (rn ?_)
 refine cw_cond (b := (!r_2)) rfl (fun hb => ?_) (fun hb => ?_)
 ·skip
  have hF1 := ct hF hb
  refine cq (cr ?_)
  refine sQ 7 (Y_buildS (zs := [vi 0, .slice none 0 0]) (vs := []) (cs := [vi 0, .slice none 0 0]) K56 K34 rfl mpn rfl) ?_
  refine s0 (yT 1 2 (aD b1) 28 (.agg #[vi 0, .slice none 0 0]) [vi 0, .slice none 0 0] 0 hS3 K16) ?_
  rintro _ w_3 ⟨rfl, hS4⟩
  refine sQ 3 (yg (.bool false)) (rn (ct_ ?_))
  have hS5 := hS4.addNil 55
  obtain ⟨rfl, rfl⟩ := pr2 (sI hF1)
  exact ret2 Try.results5 (v1 := .agg #[vi 0, .slice none 0 0]) (resAt_cellA (B := aD b1) (i := 0) (cs := [vi 0, .slice none 0 0]) (vs := [vi 0, .slice none 0 0]) rfl K19 K16 (hS5.c 1) rfl rfl) (v2 := .bool false) (resAt_tmp rfl) ⟨none, 0, rfl, (hS5.sN [2])⟩
 ·skip
  have hF2 := cf' hF hb
  refine cw_skip (cq (cr ?_))
  refine sQ 8 (yb (aD b) 0 [vi c.Qubits, .slice B c.Gates.length c1] K19 K16 (hS3.c 0)) ?_
  obtain ⟨r_3, hc1, hF2⟩ := bI hF2
  refine sc 9 rfl rfl (yC [.agg #[vi c.Qubits, .slice B c.Gates.length c1]] k_call_14 (c_spec_l7Of c B c1 c.Gates.length _ rfl (hS3.inn0 [(true, 0)] rfl) hc1)) ?_
  rintro _ w_4 ⟨B2, c3, B3, c4, rfl, hd1⟩
  have hS6 := hS3.out0 hd1
  obtain ⟨r_4, hc2, hF2⟩ := bI hF2
  refine sc 10 rfl rfl (yC [.agg #[vi r_3.Qubits, .slice B2 r_3.XImages.length c3, .slice B3 r_3.ZImages.length c4]] k_call_13 (c_spec_l8Synthesize r_3 B2 c3 r_3.XImages.length B3 c4 r_3.ZImages.length _ rfl (hS6.lencap (i := 2) rfl (fm_lenn (l := r_3.XImages) eN1 rfl) rfl rfl) rfl (hS6.lencap (i := 3) rfl (fm_lenn (l := r_3.ZImages) eN1 rfl) rfl rfl) (hS6.inn0 [(false, 2), (false, 3)] rfl) hc2)) ?_
  rintro _ w_5 ⟨B4, c5, rfl, hd2⟩
  have hS7 := hS6.out0 hd2
  refine s0 (yT 1 2 (aD b1) 28 (.agg #[vi r_4.Qubits, .slice B4 r_4.Gates.length c5]) [vi r_4.Qubits, .slice B4 r_4.Gates.length c5] 0 hS7 K16) ?_
  rintro _ w_6 ⟨rfl, hS8⟩
  refine sQ 3 (yg (.bool true)) (rn (ct_ ?_))
  obtain ⟨rfl, rfl⟩ := pr2 (sI hF2)
  exact ret2 Try.results5 (v1 := .agg #[vi r_4.Qubits, .slice B4 r_4.Gates.length c5]) (resAt_cellA (B := aD b1) (i := 0) (cs := [vi r_4.Qubits, .slice B4 r_4.Gates.length c5]) (vs := [vi r_4.Qubits, .slice B4 r_4.Gates.length c5]) rfl K19 K16 (hS8.c 1) rfl rfl) (v2 := .bool true) (resAt_tmp rfl) ⟨B4, c5, rfl, (hS8.sN [4])⟩

theorem c_laws_toGate (a : TGate)  (w0 : World)  (hS : ST w0 [] w0 [] []) {r_ : TGate} (hF : F_laws_toGate a = some r_) :
  CV Try.prog 26 #[.agg #[vi a.Kind, vi a.A, vi a.B]] w0 (fun v w' => v = .agg #[vi r_.Kind, vi r_.A, vi r_.B] ∧ ST w0 [] w' [] []) := by
 unfold F_laws_toGate at hF
 refine cv_of_cw 14 Try.func26 rfl Try.ntmps26 rfl ?_
 refine cq (cr ?_)
 refine sS 1 (yB 60 (.agg #[vi a.Kind, vi a.A, vi a.B]) [vi a.Kind, vi a.A, vi a.B] 3 hS) ?_
 rintro _ w_ ⟨b, rfl, hS1⟩
 refine sS 2 (yN [vi 0, vi 0, vi 0] 3 hS1 K28) ?_
 rintro _ w_1 ⟨b1, rfl, hS2⟩
 refine rn (cq (cr ?_))
 refine sS 3 (yN [vi 0, vi 0, vi 0] 3 hS2 K28) ?_
 rintro _ w_2 ⟨b2, rfl, hS3⟩
 refine rn (cq (cr ?_))
 refine sQ 4 (yd (aD b) 0 0 k_fd_60_0_0_3 K3) <| sQ 5 (yl (aD b) 0 [vi a.Kind, vi a.A, vi a.B] (vi a.Kind) K4 (hS3.c 0)) <| sQ 6 (yd (aD b2) 0 0 K36 K3) ?_
 refine s0 (yS 2 1 (aD b2) 55 (vi a.Kind) [vi a.Kind] 0 [vi a.Kind, vi 0, vi 0] hS3 K3) ?_
 rintro _ w_3 ⟨rfl, hS4⟩
 refine rn (cq (cr ?_))
 refine sQ 7 (yd (aD b) 0 0 k_fd_60_1_1_3 K3) <| sQ 8 (yl (aD b) 1 [vi a.Kind, vi a.A, vi a.B] (vi a.A) K4 (hS4.c 0)) <| sQ 9 (yd (aD b2) 0 0 K18 K3) ?_
 refine s0 (yS 2 1 (aD b2) 55 (vi a.A) [vi a.A] 1 [vi a.Kind, vi a.A, vi 0] hS4 K3) ?_
 rintro _ w_4 ⟨rfl, hS5⟩
 refine rn (cq (cr ?_))
 refine sQ 10 (yd (aD b) 0 0 k_fd_60_2_2_3 K3) <| sQ 11 (yl (aD b) 2 [vi a.Kind, vi a.A, vi a.B] (vi a.B) K4 (hS5.c 0)) <| sQ 12 (yd (aD b2) 0 0 K25 K3) ?_
 refine s0 (yS 2 1 (aD b2) 55 (vi a.B) [vi a.B] 2 [vi a.Kind, vi a.A, vi a.B] hS5 K3) ?_
 rintro _ w_5 ⟨rfl, hS6⟩
 refine rn (cq (cr ?_))
 refine sQ 13 (yb (aD b2) 0 [vi a.Kind, vi a.A, vi a.B] K26 K13 (hS6.c 2)) ?_
 refine s0 (yT 1 3 (aD b1) 55 (.agg #[vi a.Kind, vi a.A, vi a.B]) [vi a.Kind, vi a.A, vi a.B] 0 hS6 K13) ?_
 rintro _ w_6 ⟨rfl, hS7⟩
 refine rn (ct_ ?_)
 obtain rfl := sI hF
 exact ret1 Try.results26 (v1 := .agg #[vi a.Kind, vi a.A, vi a.B]) (resAt_cellA (B := aD b1) (i := 0) (cs := [vi a.Kind, vi a.A, vi a.B]) (vs := [vi a.Kind, vi a.A, vi a.B]) rfl K26 K13 (hS7.c 1) rfl rfl) ⟨rfl, (hS7.sN [])⟩

theorem c_laws_toGateS (a : List TGate) (B : Option Addr) (c n : Nat) (w0 : World) (hn : a.length = n) (hS : ST w0 [] w0 [] [⟨B, (a.flatMap eN2)⟩]) {r_ : List TGate} (hF : F_laws_toGateS a = some r_) :
  CV Try.prog 15 #[.slice B n c] w0 (fun v w' => ∃ (B1 : Option Addr) (c1 : Nat), v = .slice B1 r_.length c1 ∧ ST w0 [] w' [⟨B1, 55, (r_.flatMap eN2), c1 * 3⟩] []) := by
 subst hn
 unfold F_laws_toGateS at hF
 refine cv_of_cw 23 Try.func15 rfl Try.ntmps15 rfl ?_
 refine cq (cr ?_)
 refine sQ 2 (yg (.slice none 0 0)) (rn (cq (cr ?_)))
 refine sQ 5 (ym (.slice B a.length c)) <| sQ 6 (Y_len (B := B) (m := a.length) (c := c) K68 rfl rfl) ?_
 obtain ⟨hmk, hF⟩ := chk_inv hF
 refine sS 7 (Ys_make (s := 3) (by' := 24) (nn := a.length) (a := (a.length : Int)) (b := (a.length : Int)) (cs := ((List.replicate a.length (TGate.mk 0 0 0)).flatMap eN2)) hS K15 K13 K45 K28 rfl rfl rfl rfl hmk.1 rfl (by have := hmk; omega) (by have := hmk; omega) (by omega) (fm_rep (enc := eN2) (d := (TGate.mk 0 0 0)) rfl _)) ?_
 rintro _ w_ ⟨b, rfl, hS1⟩
 refine sQ 3 (yg (.slice (aD b) a.length a.length)) (rn (cq (cq (cr ?_))))
 refine sQ 4 (yg (vi 0)) (rn ?_)
 obtain ⟨hN, hF⟩ := chk_inv hF
 obtain ⟨z, hz, hF1⟩ := bI hF
 refine cw_block ?_
 refine cw_loop (fun k f w => ∃ (i1 : Nat) (out : List TGate), FF f [(0, .slice B a.length c), (3, .slice (aD b) a.length a.length), (4, vi (i1 : Int))] ∧ out.length = a.length ∧ ST w0 [] w [⟨aD b, 55, (out.flatMap eN2), a.length * 3⟩] [⟨B, (a.flatMap eN2)⟩] ∧ i1 + k = a.length ∧ forN (F_laws_toGateS_l1 a) k i1 out = some z) a.length ⟨0, (List.replicate a.length (TGate.mk 0 0 0)), (fc rfl (fc rfl (fc rfl fn_))), List.length_replicate, (hS1.sel [0] rfl rfl), Nat.zero_add _, hz⟩ ?_
 rintro k_ f w ⟨i1, out, hf, hl, hS2, hik, hL⟩
 refine cq (cq (cr ?_))
 refine sQ 8 (ym (vi (i1 : Int)) rfl (hf.g 4 2)) <| sQ 9 (ym (.slice B a.length c) rfl (hf.g 0 0)) <| sQ 10 (Y_len (B := B) (m := a.length) (c := c) K68 rfl rfl) <| sQ 11 (yL (i1 : Int) (a.length : Int)) (rn ?_)
 refine cw_cond (b := (decide ((i1 : Int) < (a.length : Int)))) rfl (fun hlt => ?_) (fun hlt => ?_)
 ·skip
  have hlt1 : i1 < a.length := by have h := of_decide_eq_true hlt; omega
  obtain ⟨K7, rfl⟩ : ∃ k2, k_ = k2 + 1 := ⟨k_ - 1, by omega⟩
  obtain ⟨y, hb, hL1⟩ := forN_go hL
  unfold F_laws_toGateS_l1 at hb
  refine cw_skip (cq (cw_block (cr ?_)))
  refine sQ 14 (ym (.slice (aD b) a.length a.length) rfl (hf.g 3 1)) <| sQ 15 (ym (vi (i1 : Int)) rfl (hf.g 4 2)) <| sQ 16 (ym (.slice B a.length c) rfl (hf.g 0 0)) <| sQ 17 (ym (vi (i1 : Int)) rfl (hf.g 4 2)) ?_
  obtain ⟨x, hx, hb⟩ := bI hb
  refine sQ 18 (Y_index (B := B) (m := a.length) (c := c) (k := .i64) (i := (i1 : Int)) K68 k_sz_60_3 rfl rfl rfl (gi_isSome eN4 rfl (hS2.rf (i := 0) rfl) hx) (getI_nn hx) (getI_ltI hx rfl)) <| sQ 19 (ya B ((i1 : Int).toNat * 3) (a.flatMap eN2) [vi x.Kind, vi x.A, vi x.B] k_ag_60 k_sz_60_3 (hS2.rf (i := 0) rfl) rfl rfl (eN4 x) (gi_seg eN4 hx)) ?_
  obtain ⟨r_1, hc, hb⟩ := bI hb
  refine sc 20 rfl rfl (yC [.agg #[vi x.Kind, vi x.A, vi x.B]] k_call_26 (c_laws_toGate x _  (hS2.inn0 [] rfl) hc)) ?_
  rintro _ w_1 ⟨rfl, hd⟩
  have hS3 := hS2.out00 hd
  obtain ⟨x1, hx1, hb⟩ := bI hb
  refine sQ 21 (Y_index (B := aD b) (m := a.length) (c := a.length) (k := .i64) (i := (i1 : Int)) K15 K13 rfl rfl rfl (gi_isSome eN4 rfl (hS3.c 0) hx1) (getI_nn hx1) (getI_ltI hx1 hl)) ?_
  refine s0 (yS 0 3 (aD b) 55 (.agg #[vi r_1.Kind, vi r_1.A, vi r_1.B]) [vi r_1.Kind, vi r_1.A, vi r_1.B] ((i1 : Int).toNat * 3) ((out.set (i1 : Int).toNat r_1).flatMap eN2) hS3 K13 rfl rfl rfl rfl rfl rfl rfl (gi_fit0 eN4 hx1) (gi_set eN4 hx1 r_1 rfl)) ?_
  rintro _ w_2 ⟨rfl, hS4⟩
  refine rn (cr ?_)
  refine sQ 12 (ym (vi (i1 : Int)) rfl (hf.g 4 2)) <| sQ 13 (yP (i1 : Int) 1) <| sQ 4 (yg (vi (i64.wrap ((i1 : Int) + 1)))) (rn ?_)
  obtain rfl := sI hb
  exact ⟨K7, Nat.lt_succ_self _, i1 + 1, (out.set (i1 : Int).toNat r_1), (fc (hf.g 0 0) (fc (hf.g 3 1) (fc (congrArg (Value.int .i64) (wr_succ hlt1 hN)) fn_))), (set_len _ _ _ hl), (hS4.sel [0] rfl rfl), (by omega), hL1⟩
 ·skip
  obtain rfl : k_ = 0 := by have h := of_decide_eq_false hlt; omega
  refine cw_exit rfl ?_
  obtain rfl := sI hL
  refine cq (cr ?_)
  refine sQ 22 (ym (.slice (aD b) a.length a.length) rfl (hf.g 3 1)) <| sQ 2 (yg (.slice (aD b) a.length a.length)) (rn (ct_ ?_))
  obtain rfl := sI hF1
  exact ret1 Try.results15 (v1 := .slice (aD b) a.length a.length) (resAt_tmp rfl) ⟨aD b, a.length, (sl_eqv hl), (hS2.sN [0])⟩

theorem c_laws_toCircuit (a : TCircuit) (B : Option Addr) (c n : Nat) (w0 : World) (hn : a.Gates.length = n) (hS : ST w0 [] w0 [] [⟨B, (a.Gates.flatMap eN2)⟩]) {r_ : TCircuit} (hF : F_laws_toCircuit a = some r_) :
  CV Try.prog 6 #[.agg #[vi a.Qubits, .slice B n c]] w0 (fun v w' => ∃ (B1 : Option Addr) (c1 : Nat), v = .agg #[vi r_.Qubits, .slice B1 r_.Gates.length c1] ∧ ST w0 [] w' [⟨B1, 55, (r_.Gates.flatMap eN2), c1 * 3⟩] []) := by
 subst hn
 unfold F_laws_toCircuit at hF
 refine cv_of_cw 12 Try.func6 rfl Try.ntmps6 rfl ?_
 refine cq (cr ?_)
 refine sS 1 (yB 24 (.agg #[vi a.Qubits, .slice B a.Gates.length c]) [vi a.Qubits, .slice B a.Gates.length c] 2 hS) ?_
 rintro _ w_ ⟨b, rfl, hS1⟩
 refine sS 2 (yN [vi 0, .slice none 0 0] 2 hS1 K34) ?_
 rintro _ w_1 ⟨b1, rfl, hS2⟩
 refine rn (cq (cr ?_))
 refine sS 3 (yN [vi 0, .slice none 0 0] 2 hS2 K34) ?_
 rintro _ w_2 ⟨b2, rfl, hS3⟩
 refine rn (cq (cr ?_))
 refine sQ 4 (yd (aD b) 0 0 k_fd_24_0_0_3 K3) <| sQ 5 (yl (aD b) 0 [vi a.Qubits, .slice B a.Gates.length c] (vi a.Qubits) K4 (hS3.c 0)) <| sQ 6 (yd (aD b2) 0 0 K47 K3) ?_
 refine s0 (yS 2 1 (aD b2) 28 (vi a.Qubits) [vi a.Qubits] 0 [vi a.Qubits, .slice none 0 0] hS3 K3) ?_
 rintro _ w_3 ⟨rfl, hS4⟩
 refine rn (cq (cr ?_))
 refine sQ 7 (yd (aD b) 0 0 k_fd_24_1_1_22 k_sz_22_1) <| sQ 8 (yl (aD b) 1 [vi a.Qubits, .slice B a.Gates.length c] (.slice B a.Gates.length c) k_sc_22 (hS4.c 0)) ?_
 obtain ⟨r_1, hc, hF⟩ := bI hF
 refine sc 9 rfl rfl (yC [.slice B a.Gates.length c] k_call_15 (c_laws_toGateS a.Gates B c a.Gates.length _ rfl (hS4.inn0 [(true, 0)] rfl) hc)) ?_
 rintro _ w_4 ⟨B2, c2, rfl, hd⟩
 have hS5 := hS4.out0 hd
 refine sQ 10 (yd (aD b2) 0 0 K33 K17) ?_
 refine s0 (yS 2 1 (aD b2) 28 (.slice B2 r_1.length c2) [.slice B2 r_1.length c2] 1 [vi a.Qubits, .slice B2 r_1.length c2] hS5 K17) ?_
 rintro _ w_5 ⟨rfl, hS6⟩
 refine rn (cq (cr ?_))
 refine sQ 11 (yb (aD b2) 0 [vi a.Qubits, .slice B2 r_1.length c2] K19 K16 (hS6.c 2)) ?_
 refine s0 (yT 1 2 (aD b1) 28 (.agg #[vi a.Qubits, .slice B2 r_1.length c2]) [vi a.Qubits, .slice B2 r_1.length c2] 0 hS6 K16) ?_
 rintro _ w_6 ⟨rfl, hS7⟩
 refine rn (ct_ ?_)
 obtain rfl := sI hF
 exact ret1 Try.results6 (v1 := .agg #[vi a.Qubits, .slice B2 r_1.length c2]) (resAt_cellA (B := aD b1) (i := 0) (cs := [vi a.Qubits, .slice B2 r_1.length c2]) (vs := [vi a.Qubits, .slice B2 r_1.length c2]) rfl K19 K16 (hS7.c 1) rfl rfl) ⟨B2, c2, rfl, (hS7.sN [3])⟩

theorem c_impl_within (n : Int) (low : Int) (high : Int)  (w0 : World)  (hS : ST w0 [] w0 [] []) {r_ : Bool} (hF : F_impl_within n low high = some r_) :
  CV Try.prog 46 #[vi n, vi low, vi high] w0 (fun v w' => v = .bool r_ ∧ ST w0 [] w' [] []) := by
 unfold F_impl_within at hF
 refine cv_of_cw 15 Try.func46 rfl Try.ntmps46 rfl ?_
 refine cq (cr ?_)
 refine sQ 6 (yg (.bool false)) (rn (cq (cr ?_)))
 refine sQ 7 (ym (vi low)) <| sQ 8 (ym (vi n)) <| sQ 9 (Y_le (k := .i64) (a := low) (b := n) rfl rfl rfl) <| sQ 10 (ym (.bool (decide (low ≤ n)))) ?_
 refine sgq 11 (B := (decide (low ≤ n))) (v := vi n) rfl rfl (uT_ 10) (fun hg => (ym (vi n))) ?_
 refine sgq 12 (B := (decide (low ≤ n))) (v := vi high) rfl rfl (uT_ 10) (fun hg1 => (ym (vi high))) ?_
 refine sgq 13 (B := (decide (low ≤ n))) (v := .bool (decide (n ≤ high))) rfl rfl (uT_ 10) (fun hg2 => (Y_le (k := .i64) (a := n) (b := high) rfl (gv_of (v := vi n) hg2) (gv_of (v := vi high) hg2))) ?_
 refine sQ 14 (Y_and (b := (decide (low ≤ n))) (z := (decide (n ≤ high))) rfl rfl rfl rfl) <| sQ 6 (yg (.bool ((decide (low ≤ n)) && (decide (n ≤ high))))) (rn (ct_ ?_))
 obtain rfl := sI hF
 exact ret1 Try.results46 (v1 := .bool ((decide (low ≤ n)) && (decide (n ≤ high)))) (resAt_tmp rfl) ⟨rfl, (hS.sN [])⟩

theorem c_slices_IndexFunc_impl_Gate_impl_Gate (s : List TGate) (f_ : TGate → Option (Bool)) (B : Option Addr) (c n : Nat) (kf : Nat) (caps : Array Value) (Rf : List Ro) (w0 : World) (hn : s.length = n) (hk : callB Try.prog kf = true) (hp : ∀ (w : World), ST w [] w [] Rf → ∀ (x : TGate) (y : Bool), f_ x = some y → CV Try.prog kf ((.agg #[vi x.Kind, vi x.A, vi x.B]) :: caps.toList).toArray w (fun v w' => v = .bool y ∧ ST w [] w' [] [])) (hS : ST w0 [] w0 [] (⟨B, (s.flatMap eN2)⟩ :: Rf)) {r_ : Int} (hF : F_slices_IndexFunc_impl_Gate_impl_Gate s f_ = some r_) :
  CV Try.prog 73 #[.slice B n c, .func (.func kf) #[] caps] w0 (fun v w' => v = vi r_ ∧ ST w0 [] w' [] []) := by
 subst hn
 unfold F_slices_IndexFunc_impl_Gate_impl_Gate at hF
 refine cv_of_cw 19 Try.func73 rfl Try.ntmps73 rfl ?_
 refine cq (cr ?_)
 refine sQ 4 (yg (vi 0)) (rn (cq (cq (cr ?_))))
 refine sQ 6 (ym (.slice B s.length c)) <| sQ 7 (Y_len (B := B) (m := s.length) (c := c) K15 rfl rfl) <| sQ 8 (ym (vi 0)) (rn ?_)
 obtain ⟨hN, hF⟩ := chk_inv hF
 obtain ⟨z, hz, hF1⟩ := bI hF
 refine cw_block ?_
 refine cw_loop (fun k f w => ∃ (i : Nat), FF f [(0, .slice B s.length c), (1, .func (.func kf) #[] caps), (7, vi (s.length : Int)), (8, vi (i : Int))] ∧ ST w0 [] w [] (⟨B, (s.flatMap eN2)⟩ :: Rf) ∧ i + k = s.length ∧ forX (F_slices_IndexFunc_impl_Gate_impl_Gate_l1 s f_) k i () = some z) s.length ⟨0, (fc rfl (fc rfl (fc rfl (fc rfl fn_)))), (hS.sel [] rfl rfl), Nat.zero_add _, hz⟩ ?_
 rintro k_ f w ⟨i, hf, hS1, hik, hL⟩
 refine cq (cr ?_)
 refine sQ 9 (yL (i : Int) (s.length : Int) rfl (hf.g 8 3) (hf.g 7 2)) (rn (cq ?_))
 refine cw_cond (b := (decide ((i : Int) < (s.length : Int)))) rfl (fun hlt => ?_) (fun hlt => ?_)
 ·skip
  have hlt1 : i < s.length := by have h := of_decide_eq_true hlt; omega
  obtain ⟨K7, rfl⟩ : ∃ k2, k_ = k2 + 1 := ⟨k_ - 1, by omega⟩
  obtain ⟨y1, hb, hL1⟩ := forX_go hL
  unfold F_slices_IndexFunc_impl_Gate_impl_Gate_l1 at hb
  refine cw_skip (cq (cw_block (cq (cr ?_))))
  refine sQ 10 (ym (vi (i : Int)) rfl (hf.g 8 3)) <| sQ 5 (yg (vi (i : Int))) (rn (cq (cr ?_)))
  refine sQ 11 (ym (.func (.func kf) #[] caps) rfl (hf.g 1 1)) <| sQ 12 (ym (.slice B s.length c) rfl (hf.g 0 0)) <| sQ 13 (ym (vi (i : Int))) ?_
  obtain ⟨x1, hx, hb⟩ := bI hb
  refine sQ 14 (Y_index (B := B) (m := s.length) (c := c) (k := .i64) (i := (i : Int)) K15 K13 rfl rfl rfl (gi_isSome eN4 rfl (hS1.rf (i := 0) rfl) hx) (getI_nn hx) (getI_ltI hx rfl)) <| sQ 15 (ya B ((i : Int).toNat * 3) (s.flatMap eN2) [vi x1.Kind, vi x1.A, vi x1.B] K26 K13 (hS1.rf (i := 0) rfl) rfl rfl (eN4 x1) (gi_seg eN4 hx)) ?_
  obtain ⟨r_1, hc, hb⟩ := bI hb
  refine sc 16 rfl rfl (Yc_clos (g := kf) (vs := (.agg #[vi x1.Kind, vi x1.A, vi x1.B]) :: caps.toList) hk rfl rfl (clo_args (mc rfl mn)) (hp _ (hS1.innS (fun _ h => mOd (i := 1) h)) x1 r_1 hc)) ?_
  rintro _ w_ ⟨rfl, hd⟩
  have hS2 := hS1.out00 hd
  refine rn ?_
  refine cw_cond (b := r_1) rfl (fun hb1 => ?_) (fun hb1 => ?_)
  ·skip
   have hF2 := ct hb hb1
   refine cq (cr ?_)
   refine sQ 17 (ym (vi (i : Int))) <| sQ 4 (yg (vi (i : Int))) (rn (ct_ ?_))
   obtain rfl := sI hF2
   obtain rfl := sI hL1
   obtain rfl := sI hF1
   exact ret1 Try.results73 (v1 := vi (i : Int)) (resAt_tmp rfl) ⟨rfl, (hS2.sN [])⟩
  ·skip
   have hF3 := cf' hb hb1
   refine cw_skip (cr ?_)
   refine sQ 18 (yP (i : Int) 1 rfl (hf.g 8 3)) <| sQ 8 (ym (vi (i64.wrap ((i : Int) + 1)))) (rn ?_)
   obtain rfl := sI hF3
   exact ⟨K7, Nat.lt_succ_self _, i + 1, (fc (hf.g 0 0) (fc (hf.g 1 1) (fc (hf.g 7 2) (fc (congrArg (Value.int .i64) (wr_succ hlt1 hN)) fn_)))), (hS2.sel [] rfl rfl), (by omega), hL1⟩
 ·skip
  obtain rfl : k_ = 0 := by have h := of_decide_eq_false hlt; omega
  refine cw_exit rfl ?_
  obtain rfl := sI hL
  refine cq (cr ?_)
  refine sQ 4 (yg (vi (-1))) (rn (ct_ ?_))
  obtain rfl := sI hF1
  exact ret1 Try.results73 (v1 := vi (-1)) (resAt_tmp rfl) ⟨rfl, (hS1.sN [])⟩

theorem c_slices_ContainsFunc_impl_Gate_impl_Gate (s : List TGate) (f_ : TGate → Option (Bool)) (B : Option Addr) (c n : Nat) (kf : Nat) (caps : Array Value) (Rf : List Ro) (w0 : World) (hn : s.length = n) (hk : callB Try.prog kf = true) (hp : ∀ (w : World), ST w [] w [] Rf → ∀ (x : TGate) (y : Bool), f_ x = some y → CV Try.prog kf ((.agg #[vi x.Kind, vi x.A, vi x.B]) :: caps.toList).toArray w (fun v w' => v = .bool y ∧ ST w [] w' [] [])) (hS : ST w0 [] w0 [] (⟨B, (s.flatMap eN2)⟩ :: Rf)) {r_ : Bool} (hF : F_slices_ContainsFunc_impl_Gate_impl_Gate s f_ = some r_) :
  CV Try.prog 68 #[.slice B n c, .func (.func kf) #[] caps] w0 (fun v w' => v = .bool r_ ∧ ST w0 [] w' [] []) := by
 subst hn
 unfold F_slices_ContainsFunc_impl_Gate_impl_Gate at hF
 refine cv_of_cw 9 Try.func68 rfl Try.ntmps68 rfl ?_
 refine cq (cr ?_)
 refine sQ 4 (yg (.bool false)) (rn (cq (cr ?_)))
 refine sQ 5 (ym (.slice B s.length c)) <| sQ 6 (ym (.func (.func kf) #[] caps)) ?_
 obtain ⟨r_1, hc, hF⟩ := bI hF
 refine sc 7 rfl rfl (yC [.slice B s.length c, .func (.func kf) #[] caps] k_call_73 (c_slices_IndexFunc_impl_Gate_impl_Gate s f_ B c s.length kf caps Rf _ rfl hk hp (hS.innS (sk 0 (fun _ h => mOd (i := 1) h))) hc)) ?_
 rintro _ w_ ⟨rfl, hd⟩
 have hS1 := hS.out00 hd
 refine sQ 8 (Y_ge (k := .i64) (a := r_1) (b := 0) rfl rfl rfl) <| sQ 4 (yg (.bool (decide (0 ≤ r_1)))) (rn (ct_ ?_))
 obtain rfl := sI hF
 exact ret1 Try.results68 (v1 := .bool (decide (0 ≤ r_1))) (resAt_tmp rfl) ⟨rfl, (hS1.sN [])⟩

theorem c_impl_isTwo (kind : Int)  (w0 : World)  (hS : ST w0 [] w0 [] []) {r_ : Bool} (hF : F_impl_isTwo kind = some r_) :
  CV Try.prog 74 #[vi kind] w0 (fun v w' => v = .bool r_ ∧ ST w0 [] w' [] []) := by
 unfold F_impl_isTwo at hF
 refine cv_of_cw 5 Try.func74 rfl Try.ntmps74 rfl ?_
 refine cq (cr ?_)
 refine sQ 2 (yg (.bool false)) (rn (cq (cr ?_)))
 refine sQ 3 (ym (vi kind)) ?_
 obtain ⟨r_1, hc, hF⟩ := bI hF
 refine sc 4 rfl rfl (yC [vi kind, vi 9, vi 11] K46 (c_impl_within kind 9 11 _  (hS.inn0 [] rfl) hc)) ?_
 rintro _ w_ ⟨rfl, hd⟩
 have hS1 := hS.out00 hd
 refine sQ 2 (yg (.bool r_1)) (rn (ct_ ?_))
 obtain rfl := sI hF
 exact ret1 Try.results74 (v1 := .bool r_1) (resAt_tmp rfl) ⟨rfl, (hS1.sN [])⟩

theorem c_impl_IsValidGate (n : Int) (g : TGate)  (w0 : World)  (hS : ST w0 [] w0 [] []) {r_ : Bool} (hF : F_impl_IsValidGate n g = some r_) :
  CV Try.prog 70 #[vi n, .agg #[vi g.Kind, vi g.A, vi g.B]] w0 (fun v w' => v = .bool r_ ∧ ST w0 [] w' [] []) := by
 unfold F_impl_IsValidGate at hF
 refine cv_of_cw 60 Try.func70 rfl Try.ntmps70 rfl ?_
 refine cq (cr ?_)
 refine sS 3 (yB 55 (.agg #[vi g.Kind, vi g.A, vi g.B]) [vi g.Kind, vi g.A, vi g.B] 3 hS) ?_
 rintro _ w_ ⟨b, rfl, hS1⟩
 refine sQ 4 (yg (.bool false)) (rn (cq (cw_block (cq (cr ?_)))))
 refine sQ 6 (ym (vi n)) ?_
 obtain ⟨r_1, hc, hF⟩ := bI hF
 refine sc 7 rfl rfl (yC [vi n, vi 1, vi 5] K46 (c_impl_within n 1 5 _  (hS1.inn0 [] rfl) hc)) ?_
 rintro _ w_1 ⟨rfl, hd⟩
 have hS2 := hS1.out00 hd
 refine sQ 8 (Y_not (p := r_1) rfl rfl) <| sQ 9 (ym (.bool (!r_1))) ?_
 refine sgq 10 (B := (!(!r_1))) (v := pt (aD b) 0) rfl rfl (uF_ 9) (fun hg => (yd (aD b) 0 0 K36 K3)) ?_
 refine sgq 11 (B := (!(!r_1))) (v := vi g.Kind) rfl rfl (uF_ 9) (fun hg1 => (yl (aD b) 0 [vi g.Kind, vi g.A, vi g.B] (vi g.Kind) K4 (hS2.c 0) rfl (gv_of (v := pt (aD b) 0) hg1))) ?_
 obtain ⟨r_2, hc1, hF⟩ := bI hF
 refine sgc 12 (B := (!(!r_1))) (v := .bool r_2) (F := hS2.fn) rfl rfl (uF_ 9) hS2 (fun hg2 => (yC [vi g.Kind, vi 1, vi 12] K46 (CV.mono (c_impl_within g.Kind 1 12 _  (hS2.inn0 [] rfl) (gb_inv hc1 hg2)) (by rintro _ _ ⟨rfl, h⟩; exact ⟨rfl, hS2.out00 h⟩)) rfl (mc (gv_of (v := vi g.Kind) hg2) (mc rfl (mc rfl mn))))) ?_
 rintro w_2 hS3
 refine sgq 13 (B := (!(!r_1))) (v := .bool (!r_2)) rfl rfl (uF_ 9) (fun hg3 => (Y_not (p := r_2) rfl (gv_of (v := .bool r_2) hg3))) ?_
 refine sQ 14 (Y_or (b := (!r_1)) (z := (!r_2)) rfl rfl rfl rfl) <| sQ 5 (yg (.bool ((!r_1) || (!r_2)))) (rn ?_)
 refine cw_cond (b := ((!r_1) || (!r_2))) rfl (fun hb => ?_) (fun hb => ?_)
 ·skip
  have hF1 := ct hF hb
  refine cq (cr ?_)
  refine sQ 4 (yg (.bool false)) (rn (ct_ ?_))
  obtain rfl := sI hF1
  exact ret1 Try.results70 (v1 := .bool false) (resAt_tmp rfl) ⟨rfl, (hS3.sN [])⟩
 ·skip
  have hF2 := cf' hF hb
  refine cq (cr ?_)
  refine sQ 16 (yd (aD b) 0 0 K36 K3) <| sQ 17 (yl (aD b) 0 [vi g.Kind, vi g.A, vi g.B] (vi g.Kind) K4 (hS3.c 0)) <| sQ 18 (yE g.Kind 12) <| sQ 15 (yg (.bool (g.Kind == 12))) (rn ?_)
  refine cw_cond (b := (g.Kind == 12)) rfl (fun hb1 => ?_) (fun hb1 => ?_)
  ·skip
   have hF3 := ct hF2 hb1
   refine cq (cr ?_)
   refine sQ 19 (yd (aD b) 0 0 K18 K3) <| sQ 20 (yl (aD b) 1 [vi g.Kind, vi g.A, vi g.B] (vi g.A) K4 (hS3.c 0)) <| sQ 21 (yE g.A 0) <| sQ 22 (ym (.bool (g.A == 0))) ?_
   refine sgq 23 (B := (g.A == 0)) (v := pt (aD b) 2) rfl rfl (uT_ 22) (fun hg4 => (yd (aD b) 0 0 K25 K3)) ?_
   refine sgq 24 (B := (g.A == 0)) (v := vi g.B) rfl rfl (uT_ 22) (fun hg5 => (yl (aD b) 2 [vi g.Kind, vi g.A, vi g.B] (vi g.B) K4 (hS3.c 0) rfl (gv_of (v := pt (aD b) 2) hg5))) ?_
   refine sgq 25 (B := (g.A == 0)) (v := .bool (g.B == 0)) rfl rfl (uT_ 22) (fun hg6 => (yE g.B 0 rfl (gv_of (v := vi g.B) hg6))) ?_
   refine sQ 26 (Y_and (b := (g.A == 0)) (z := (g.B == 0)) rfl rfl rfl rfl) <| sQ 4 (yg (.bool ((g.A == 0) && (g.B == 0)))) (rn (ct_ ?_))
   obtain rfl := sI hF3
   exact ret1 Try.results70 (v1 := .bool ((g.A == 0) && (g.B == 0))) (resAt_tmp rfl) ⟨rfl, (hS3.sN [])⟩
  ·skip
   have hF4 := cf' hF2 hb1
   refine cq (cr ?_)
   refine sQ 28 (yd (aD b) 0 0 K36 K3) <| sQ 29 (yl (aD b) 0 [vi g.Kind, vi g.A, vi g.B] (vi g.Kind) K4 (hS3.c 0)) ?_
   obtain ⟨r_3, hc2, hF4⟩ := bI hF4
   refine sc 30 rfl rfl (yC [vi g.Kind] k_call_74 (c_impl_isTwo g.Kind _  (hS3.inn0 [] rfl) hc2)) ?_
   rintro _ w_3 ⟨rfl, hd1⟩
   have hS4 := hS3.out00 hd1
   refine sQ 27 (yg (.bool r_3)) (rn ?_)
   refine cw_cond (b := r_3) rfl (fun hb2 => ?_) (fun hb2 => ?_)
   ·skip
    have hF5 := ct hF4 hb2
    refine cq (cr ?_)
    refine sQ 31 (yd (aD b) 0 0 K18 K3) <| sQ 32 (yl (aD b) 1 [vi g.Kind, vi g.A, vi g.B] (vi g.A) K4 (hS4.c 0)) <| sQ 33 (ym (vi n)) <| sQ 34 (yM n 1) ?_
    obtain ⟨r_4, hc3, hF5⟩ := bI hF5
    refine sc 35 rfl rfl (yC [vi g.A, vi 0, vi (i64.wrap (n - 1))] K46 (c_impl_within g.A 0 (i64.wrap (n - 1)) _  (hS4.inn0 [] rfl) hc3)) ?_
    rintro _ w_4 ⟨rfl, hd2⟩
    have hS5 := hS4.out00 hd2
    refine sQ 36 (ym (.bool r_4)) ?_
    refine sgq 37 (B := r_4) (v := pt (aD b) 2) rfl rfl (uT_ 36) (fun hg7 => (yd (aD b) 0 0 K25 K3)) ?_
    refine sgq 38 (B := r_4) (v := vi g.B) rfl rfl (uT_ 36) (fun hg8 => (yl (aD b) 2 [vi g.Kind, vi g.A, vi g.B] (vi g.B) K4 (hS5.c 0) rfl (gv_of (v := pt (aD b) 2) hg8))) ?_
    refine sgq 39 (B := r_4) (v := vi n) rfl rfl (uT_ 36) (fun hg9 => (ym (vi n))) ?_
    refine sgq 40 (B := r_4) (v := vi (i64.wrap (n - 1))) rfl rfl (uT_ 36) (fun hg10 => (yM n 1 rfl (gv_of (v := vi n) hg10))) ?_
    obtain ⟨r_5, hc4, hF5⟩ := bI hF5
    refine sgc 41 (B := r_4) (v := .bool r_5) (F := hS5.fn) rfl rfl (uT_ 36) hS5 (fun hg11 => (yC [vi g.B, vi 0, vi (i64.wrap (n - 1))] K46 (CV.mono (c_impl_within g.B 0 (i64.wrap (n - 1)) _  (hS5.inn0 [] rfl) (gb_inv hc4 hg11)) (by rintro _ _ ⟨rfl, h⟩; exact ⟨rfl, hS5.out00 h⟩)) rfl (mc (gv_of (v := vi g.B) hg11) (mc rfl (mc (gv_of (v := vi (i64.wrap (n - 1))) hg11) mn))))) ?_
    rintro w_5 hS6
    refine sQ 42 (Y_and (b := r_4) (z := r_5) rfl rfl rfl rfl) <| sQ 43 (ym (.bool (r_4 && r_5))) ?_
    refine sgq 44 (B := (r_4 && r_5)) (v := pt (aD b) 1) rfl rfl (uT_ 43) (fun hg12 => (yd (aD b) 0 0 K18 K3)) ?_
    refine sgq 45 (B := (r_4 && r_5)) (v := vi g.A) rfl rfl (uT_ 43) (fun hg13 => (yl (aD b) 1 [vi g.Kind, vi g.A, vi g.B] (vi g.A) K4 (hS6.c 0) rfl (gv_of (v := pt (aD b) 1) hg13))) ?_
    refine sgq 46 (B := (r_4 && r_5)) (v := pt (aD b) 2) rfl rfl (uT_ 43) (fun hg14 => (yd (aD b) 0 0 K25 K3)) ?_
    refine sgq 47 (B := (r_4 && r_5)) (v := vi g.B) rfl rfl (uT_ 43) (fun hg15 => (yl (aD b) 2 [vi g.Kind, vi g.A, vi g.B] (vi g.B) K4 (hS6.c 0) rfl (gv_of (v := pt (aD b) 2) hg15))) ?_
    refine sgq 48 (B := (r_4 && r_5)) (v := .bool (g.A != g.B)) rfl rfl (uT_ 43) (fun hg16 => (Y_ne (k := .i64) (a := g.A) (b := g.B) rfl (gv_of (v := vi g.A) hg16) (gv_of (v := vi g.B) hg16))) ?_
    refine sQ 49 (Y_and (b := (r_4 && r_5)) (z := (g.A != g.B)) rfl rfl rfl rfl) <| sQ 4 (yg (.bool ((r_4 && r_5) && (g.A != g.B)))) (rn (ct_ ?_))
    obtain rfl := sI hF5
    exact ret1 Try.results70 (v1 := .bool ((r_4 && r_5) && (g.A != g.B))) (resAt_tmp rfl) ⟨rfl, (hS6.sN [])⟩
   ·skip
    have hF6 := cf' hF4 hb2
    refine cw_skip (cq (cr ?_))
    refine sQ 50 (yd (aD b) 0 0 K18 K3) <| sQ 51 (yl (aD b) 1 [vi g.Kind, vi g.A, vi g.B] (vi g.A) K4 (hS4.c 0)) <| sQ 52 (ym (vi n)) <| sQ 53 (yM n 1) ?_
    obtain ⟨r_6, hc5, hF6⟩ := bI hF6
    refine sc 54 rfl rfl (yC [vi g.A, vi 0, vi (i64.wrap (n - 1))] K46 (c_impl_within g.A 0 (i64.wrap (n - 1)) _  (hS4.inn0 [] rfl) hc5)) ?_
    rintro _ w_6 ⟨rfl, hd3⟩
    have hS7 := hS4.out00 hd3
    refine sQ 55 (ym (.bool r_6)) ?_
    refine sgq 56 (B := r_6) (v := pt (aD b) 2) rfl rfl (uT_ 55) (fun hg17 => (yd (aD b) 0 0 K25 K3)) ?_
    refine sgq 57 (B := r_6) (v := vi g.B) rfl rfl (uT_ 55) (fun hg18 => (yl (aD b) 2 [vi g.Kind, vi g.A, vi g.B] (vi g.B) K4 (hS7.c 0) rfl (gv_of (v := pt (aD b) 2) hg18))) ?_
    refine sgq 58 (B := r_6) (v := .bool (g.B == 0)) rfl rfl (uT_ 55) (fun hg19 => (yE g.B 0 rfl (gv_of (v := vi g.B) hg19))) ?_
    refine sQ 59 (Y_and (b := r_6) (z := (g.B == 0)) rfl rfl rfl rfl) <| sQ 4 (yg (.bool (r_6 && (g.B == 0)))) (rn (ct_ ?_))
    obtain rfl := sI hF6
    exact ret1 Try.results70 (v1 := .bool (r_6 && (g.B == 0))) (resAt_tmp rfl) ⟨rfl, (hS7.sN [])⟩

theorem c_impl_IsValidCircuit_1 (g : TGate) (p : TCircuit) (B : Option Addr) (B1 : Option Addr) (c n : Nat) (w0 : World) (hn : p.Gates.length = n) (hS : ST w0 [] w0 [] [⟨B, [vi p.Qubits, .slice B1 n c]⟩, ⟨B1, (p.Gates.flatMap eN2)⟩]) {r_ : Bool} (hF : F_impl_IsValidCircuit_1 g p = some r_) :
  CV Try.prog 69 #[.agg #[vi g.Kind, vi g.A, vi g.B], pt B 0] w0 (fun v w' => v = .bool r_ ∧ ST w0 [] w' [] []) := by
 subst hn
 unfold F_impl_IsValidCircuit_1 at hF
 refine cv_of_cw 9 Try.func69 rfl Try.ntmps69 rfl ?_
 refine cq (cr ?_)
 refine sS 2 (yB 55 (.agg #[vi g.Kind, vi g.A, vi g.B]) [vi g.Kind, vi g.A, vi g.B] 3 hS) ?_
 rintro _ w_ ⟨b, rfl, hS1⟩
 refine sQ 3 (yg (.bool false)) (rn (cq (cr ?_)))
 refine sQ 4 (yd B 0 0 K47 K3) <| sQ 5 (yl B 0 [vi p.Qubits, .slice B1 p.Gates.length c] (vi p.Qubits) K4 (hS1.rf (i := 0) rfl)) <| sQ 6 (yb (aD b) 0 [vi g.Kind, vi g.A, vi g.B] K26 K13 (hS1.c 0)) ?_
 obtain ⟨r_1, hc, hF⟩ := bI hF
 refine sc 7 rfl rfl (yC [vi p.Qubits, .agg #[vi g.Kind, vi g.A, vi g.B]] k_call_70 (c_impl_IsValidGate p.Qubits g _  (hS1.inn0 [] rfl) hc)) ?_
 rintro _ w_1 ⟨rfl, hd⟩
 have hS2 := hS1.out00 hd
 refine sQ 8 (Y_not (p := r_1) rfl rfl) <| sQ 3 (yg (.bool (!r_1))) (rn (ct_ ?_))
 obtain rfl := sI hF
 exact ret1 Try.results69 (v1 := .bool (!r_1)) (resAt_tmp rfl) ⟨rfl, (hS2.sN [])⟩

theorem c_impl_IsValidCircuit (c : TCircuit) (B : Option Addr) (c1 n : Nat) (w0 : World) (hn : c.Gates.length = n) (hS : ST w0 [] w0 [] [⟨B, (c.Gates.flatMap eN2)⟩]) {r_ : Bool} (hF : F_impl_IsValidCircuit c = some r_) :
  CV Try.prog 58 #[.agg #[vi c.Qubits, .slice B n c1]] w0 (fun v w' => v = .bool r_ ∧ ST w0 [] w' [] []) := by
 subst hn
 unfold F_impl_IsValidCircuit at hF
 refine cv_of_cw 19 Try.func58 rfl Try.ntmps58 rfl ?_
 refine cq (cr ?_)
 refine sS 1 (yB 28 (.agg #[vi c.Qubits, .slice B c.Gates.length c1]) [vi c.Qubits, .slice B c.Gates.length c1] 2 hS) ?_
 rintro _ w_ ⟨b, rfl, hS1⟩
 refine sQ 2 (yg (.bool false)) (rn (cq (cr ?_)))
 refine sQ 3 (yd (aD b) 0 0 K47 K3) <| sQ 4 (yl (aD b) 0 [vi c.Qubits, .slice B c.Gates.length c1] (vi c.Qubits) K4 (hS1.c 0)) ?_
 obtain ⟨r_1, hc, hF⟩ := bI hF
 refine sc 5 rfl rfl (yC [vi c.Qubits, vi 1, vi 5] K46 (c_impl_within c.Qubits 1 5 _  (hS1.inn0 [] rfl) hc)) ?_
 rintro _ w_1 ⟨rfl, hd⟩
 have hS2 := hS1.out00 hd
 refine sQ 6 (ym (.bool r_1)) ?_
 refine sgq 7 (B := r_1) (v := pt (aD b) 1) rfl rfl (uT_ 6) (fun hg => (yd (aD b) 0 0 K33 K17)) ?_
 refine sgq 8 (B := r_1) (v := .slice B c.Gates.length c1) rfl rfl (uT_ 6) (fun hg1 => (yl (aD b) 1 [vi c.Qubits, .slice B c.Gates.length c1] (.slice B c.Gates.length c1) K22 (hS2.c 0) rfl (gv_of (v := pt (aD b) 1) hg1))) ?_
 refine sgq 9 (B := r_1) (v := vi (c.Gates.length : Int)) rfl rfl (uT_ 6) (fun hg2 => (Y_len (B := B) (m := c.Gates.length) (c := c1) K15 rfl (gv_of (v := .slice B c.Gates.length c1) hg2))) ?_
 refine sgq 10 (B := r_1) (v := .bool (decide ((c.Gates.length : Int) ≤ 400))) rfl rfl (uT_ 6) (fun hg3 => (Y_le (k := .i64) (a := (c.Gates.length : Int)) (b := 400) rfl (gv_of (v := vi (c.Gates.length : Int)) hg3) rfl)) ?_
 refine sQ 11 (Y_and (b := r_1) (z := (decide ((c.Gates.length : Int) ≤ 400))) rfl rfl rfl rfl) <| sQ 12 (ym (.bool (r_1 && (decide ((c.Gates.length : Int) ≤ 400))))) ?_
 refine sgq 13 (B := (r_1 && (decide ((c.Gates.length : Int) ≤ 400)))) (v := pt (aD b) 1) rfl rfl (uT_ 12) (fun hg4 => (yd (aD b) 0 0 K33 K17)) ?_
 refine sgq 14 (B := (r_1 && (decide ((c.Gates.length : Int) ≤ 400)))) (v := .slice B c.Gates.length c1) rfl rfl (uT_ 12) (fun hg5 => (yl (aD b) 1 [vi c.Qubits, .slice B c.Gates.length c1] (.slice B c.Gates.length c1) K22 (hS2.c 0) rfl (gv_of (v := pt (aD b) 1) hg5))) ?_
 refine sgq 15 (B := (r_1 && (decide ((c.Gates.length : Int) ≤ 400)))) (v := .func (.func 69) #[] #[pt (aD b) 0]) rfl rfl (uT_ 12) (fun hg6 => (Y_makeFunc (cs := [pt (aD b) 0]) rfl rfl (mc rfl mn))) ?_
 obtain ⟨r_2, hc1, hF⟩ := bI hF
 refine sgc 16 (B := (r_1 && (decide ((c.Gates.length : Int) ≤ 400)))) (v := .bool r_2) (F := hS2.fn) rfl rfl (uT_ 12) hS2 (fun hg7 => (yC [.slice B c.Gates.length c1, .func (.func 69) #[] #[pt (aD b) 0]] k_call_68 (CV.mono (c_slices_ContainsFunc_impl_Gate_impl_Gate c.Gates (fun x_0 => F_impl_IsValidCircuit_1 x_0 c) B c1 c.Gates.length 69 (#[pt (aD b) 0]) [⟨aD b, [vi c.Qubits, .slice B c.Gates.length c1]⟩, ⟨B, (c.Gates.flatMap eN2)⟩] _ rfl k_call_69 (fun w hw x_0 y_0 h_ => c_impl_IsValidCircuit_1 x_0 c (aD b) B c1 c.Gates.length w rfl hw h_) (hS2.inn0 [(true, 0), (false, 0), (true, 0)] rfl) (gb_inv hc1 hg7)) (by rintro _ _ ⟨rfl, h⟩; exact ⟨rfl, hS2.out00 h⟩)) rfl (mc (gv_of (v := .slice B c.Gates.length c1) hg7) (mc (gv_of (v := .func (.func 69) #[] #[pt (aD b) 0]) hg7) mn)))) ?_
 rintro w_2 hS3
 refine sgq 17 (B := (r_1 && (decide ((c.Gates.length : Int) ≤ 400)))) (v := .bool (!r_2)) rfl rfl (uT_ 12) (fun hg8 => (Y_not (p := r_2) rfl (gv_of (v := .bool r_2) hg8))) ?_
 refine sQ 18 (Y_and (b := (r_1 && (decide ((c.Gates.length : Int) ≤ 400)))) (z := (!r_2)) rfl rfl rfl rfl) <| sQ 2 (yg (.bool ((r_1 && (decide ((c.Gates.length : Int) ≤ 400))) && (!r_2)))) (rn (ct_ ?_))
 obtain rfl := sI hF
 exact ret1 Try.results58 (v1 := .bool ((r_1 && (decide ((c.Gates.length : Int) ≤ 400))) && (!r_2))) (resAt_tmp rfl) ⟨rfl, (hS3.sN [])⟩

theorem c_impl_counted (c : TCircuit) (is_ : Int → Option (Bool)) (B : Option Addr) (c1 n : Nat) (kf : Nat) (caps : Array Value) (Rf : List Ro) (w0 : World) (hn : c.Gates.length = n) (hk : callB Try.prog kf = true) (hp : ∀ (w : World), ST w [] w [] Rf → ∀ (x : Int) (y : Bool), is_ x = some y → CV Try.prog kf ((vi x) :: caps.toList).toArray w (fun v w' => v = .bool y ∧ ST w [] w' [] [])) (hS : ST w0 [] w0 [] (⟨B, (c.Gates.flatMap eN2)⟩ :: Rf)) {r_ : Int} {r_1 : Bool} (hF : F_impl_counted c is_ = some (r_, r_1)) :
  CV Try.prog 43 #[.agg #[vi c.Qubits, .slice B n c1], .func (.func kf) #[] caps] w0 (fun v w' => v = .tuple #[vi r_, .bool r_1] ∧ ST w0 [] w' [] []) := by
 subst hn
 unfold F_impl_counted at hF
 refine cv_of_cw 27 Try.func43 rfl Try.ntmps43 rfl ?_
 refine cq (cr ?_)
 refine sS 2 (yB 28 (.agg #[vi c.Qubits, .slice B c.Gates.length c1]) [vi c.Qubits, .slice B c.Gates.length c1] 2 hS) ?_
 rintro _ w_ ⟨b, rfl, hS1⟩
 refine sQ 4 (yg (vi 0)) <| sQ 5 (yg (.bool false)) (rn (cq (cq (cr ?_))))
 refine sQ 9 (yb (aD b) 0 [vi c.Qubits, .slice B c.Gates.length c1] K19 K16 (hS1.c 0)) ?_
 obtain ⟨r_2, hc, hF⟩ := bI hF
 refine sc 10 rfl rfl (yC [.agg #[vi c.Qubits, .slice B c.Gates.length c1]] k_call_58 (c_impl_IsValidCircuit c B c1 c.Gates.length _ rfl (hS1.inn0 [(true, 0)] rfl) hc)) ?_
 rintro _ w_1 ⟨rfl, hd⟩
 have hS2 := hS1.out00 hd
 refine sQ 11 (Y_not (p := r_2) rfl rfl) (rn ?_)
 refine cw_cond (b := (!r_2)) rfl (fun hb => ?_) (fun hb => ?_)
 ·skip
  have hF1 := ct hF hb
  refine cq (cr ?_)
  refine sQ 4 (yg (vi 0)) <| sQ 5 (yg (.bool false)) (rn (ct_ ?_))
  obtain ⟨rfl, rfl⟩ := pr2 (sI hF1)
  exact ret2 Try.results43 (v1 := vi 0) (resAt_tmp rfl) (v2 := .bool false) (resAt_tmp rfl) ⟨rfl, (hS2.sN [])⟩
 ·skip
  have hF2 := cf' hF hb
  refine cw_skip (cq (cr ?_))
  refine sQ 6 (yg (vi 0)) (rn (cq (cq (cr ?_))))
  refine sQ 12 (yd (aD b) 0 0 K33 K17) <| sQ 13 (yl (aD b) 1 [vi c.Qubits, .slice B c.Gates.length c1] (.slice B c.Gates.length c1) K22 (hS2.c 0)) <| sQ 14 (Y_len (B := B) (m := c.Gates.length) (c := c1) K15 rfl rfl) <| sQ 15 (ym (vi 0)) (rn ?_)
  obtain ⟨hN, hF2⟩ := chk_inv hF2
  obtain ⟨z, hz, hF3⟩ := bI hF2
  refine cw_block ?_
  refine cw_loop (fun k f w => ∃ (i : Nat) (count : Int), FF f [(1, .func (.func kf) #[] caps), (6, vi count), (13, .slice B c.Gates.length c1), (14, vi (c.Gates.length : Int)), (15, vi (i : Int))] ∧ ST w0 [] w [] (⟨B, (c.Gates.flatMap eN2)⟩ :: Rf) ∧ i + k = c.Gates.length ∧ forN (F_impl_counted_l1 c is_) k i count = some z) c.Gates.length ⟨0, 0, (fc rfl (fc rfl (fc rfl (fc rfl (fc rfl fn_))))), (hS2.sel [] rfl rfl), Nat.zero_add _, hz⟩ ?_
  rintro k_ f w ⟨i, count, hf, hS3, hik, hL⟩
  refine cq (cr ?_)
  refine sQ 16 (yL (i : Int) (c.Gates.length : Int) rfl (hf.g 15 4) (hf.g 14 3)) (rn (cq ?_))
  refine cw_cond (b := (decide ((i : Int) < (c.Gates.length : Int)))) rfl (fun hlt => ?_) (fun hlt => ?_)
  ·skip
   have hlt1 : i < c.Gates.length := by have h := of_decide_eq_true hlt; omega
   obtain ⟨K7, rfl⟩ : ∃ k2, k_ = k2 + 1 := ⟨k_ - 1, by omega⟩
   obtain ⟨y1, hb1, hL1⟩ := forN_go hL
   unfold F_impl_counted_l1 at hb1
   refine cw_skip (cq ?_)
   obtain ⟨z1, hz1, hF4⟩ := bI hb1
   refine cw_mid (fun f w => ∃ (count1 : Int), count1 = z1 ∧ FF f [(1, .func (.func kf) #[] caps), (6, vi count1), (13, .slice B c.Gates.length c1), (14, vi (c.Gates.length : Int)), (15, vi (i : Int))] ∧ ST w0 [] w [] (⟨B, (c.Gates.flatMap eN2)⟩ :: Rf)) ?_ ?_
   ·skip
    refine cw_block (cq (cr ?_))
    obtain ⟨x1, hx, hz1⟩ := bI hz1
    refine sQ 17 (Y_index (B := B) (m := c.Gates.length) (c := c1) (k := .i64) (i := (i : Int)) K15 K13 rfl (hf.g 13 2) (hf.g 15 4) (gi_isSome eN4 rfl (hS3.rf (i := 0) rfl) hx) (getI_nn hx) (getI_ltI hx rfl)) <| sQ 18 (ya B ((i : Int).toNat * 3) (c.Gates.flatMap eN2) [vi x1.Kind, vi x1.A, vi x1.B] K26 K13 (hS3.rf (i := 0) rfl) rfl rfl (eN4 x1) (gi_seg eN4 hx)) ?_
    refine sS 8 (yN [vi 0, vi 0, vi 0] 3 hS3 K28) ?_
    rintro _ w_2 ⟨b1, rfl, hS5⟩
    refine s0 (yT 0 3 (aD b1) 55 (.agg #[vi x1.Kind, vi x1.A, vi x1.B]) [vi x1.Kind, vi x1.A, vi x1.B] 0 hS5 K13) ?_
    rintro _ w_3 ⟨rfl, hS6⟩
    refine rn (cq (cr ?_))
    refine sQ 19 (ym (.func (.func kf) #[] caps) rfl (hf.g 1 0)) <| sQ 20 (yd (aD b1) 0 0 K36 K3) <| sQ 21 (yl (aD b1) 0 [vi x1.Kind, vi x1.A, vi x1.B] (vi x1.Kind) K4 (hS6.c 0)) ?_
    obtain ⟨r_3, hc1, hz1⟩ := bI hz1
    refine sc 22 rfl rfl (Yc_clos (g := kf) (vs := (vi x1.Kind) :: caps.toList) hk rfl rfl (clo_args (mc rfl mn)) (hp _ (hS6.innS (fun _ h => mOd (i := 1) h)) x1.Kind r_3 hc1)) ?_
    rintro _ w_4 ⟨rfl, hd1⟩
    have hS7 := hS6.out00 hd1
    refine rn ?_
    refine cw_cond (b := r_3) rfl (fun hb2 => ?_) (fun hb2 => ?_)
    ·skip
     have hF5 := ct hz1 hb2
     refine cr ?_
     refine sQ 23 (ym (vi count) rfl (hf.g 6 1)) <| sQ 24 (yP count 1) <| sQ 6 (yg (vi (i64.wrap (count + 1)))) (rn ?_)
     exact ⟨(i64.wrap (count + 1)), (sI hF5), (fc (hf.g 1 0) (fc rfl (fc (hf.g 13 2) (fc (hf.g 14 3) (fc (hf.g 15 4) fn_))))), (hS7.sel [] rfl rfl)⟩
    ·skip
     have hF6 := cf' hz1 hb2
     refine cw_skip ?_
     exact ⟨count, (sI hF6), (fc (hf.g 1 0) (fc (hf.g 6 1) (fc (hf.g 13 2) (fc (hf.g 14 3) (fc (hf.g 15 4) fn_))))), (hS7.sel [] rfl rfl)⟩
   rintro f w ⟨count1, rfl, hf1, hS4⟩
   refine cr ?_
   refine sQ 25 (yP (i : Int) 1 rfl (hf1.g 15 4)) <| sQ 15 (ym (vi (i64.wrap ((i : Int) + 1)))) (rn ?_)
   obtain rfl := sI hF4
   exact ⟨K7, Nat.lt_succ_self _, i + 1, count1, (fc (hf1.g 1 0) (fc (hf1.g 6 1) (fc (hf1.g 13 2) (fc (hf1.g 14 3) (fc (congrArg (Value.int .i64) (wr_succ hlt1 hN)) fn_))))), (hS4.sel [] rfl rfl), (by omega), hL1⟩
  ·skip
   obtain rfl : k_ = 0 := by have h := of_decide_eq_false hlt; omega
   refine cw_exit rfl ?_
   obtain rfl := sI hL
   refine cq (cr ?_)
   refine sQ 26 (ym (vi count) rfl (hf.g 6 1)) <| sQ 4 (yg (vi count)) <| sQ 5 (yg (.bool true)) (rn (ct_ ?_))
   obtain ⟨rfl, rfl⟩ := pr2 (sI hF3)
   exact ret2 Try.results43 (v1 := vi count) (resAt_tmp rfl) (v2 := .bool true) (resAt_tmp rfl) ⟨rfl, (hS3.sN [])⟩

theorem c_impl_isT (kind : Int)  (w0 : World)  (hS : ST w0 [] w0 [] []) {r_ : Bool} (hF : F_impl_isT kind = some r_) :
  CV Try.prog 44 #[vi kind] w0 (fun v w' => v = .bool r_ ∧ ST w0 [] w' [] []) := by
 unfold F_impl_isT at hF
 refine cv_of_cw 9 Try.func44 rfl Try.ntmps44 rfl ?_
 refine cq (cr ?_)
 refine sQ 2 (yg (.bool false)) (rn (cq (cr ?_)))
 refine sQ 3 (ym (vi kind)) <| sQ 4 (yE kind 7) <| sQ 5 (ym (.bool (kind == 7))) ?_
 refine sgq 6 (B := (!(kind == 7))) (v := vi kind) rfl rfl (uF_ 5) (fun hg => (ym (vi kind))) ?_
 refine sgq 7 (B := (!(kind == 7))) (v := .bool (kind == 8)) rfl rfl (uF_ 5) (fun hg1 => (yE kind 8 rfl (gv_of (v := vi kind) hg1))) ?_
 refine sQ 8 (Y_or (b := (kind == 7)) (z := (kind == 8)) rfl rfl rfl rfl) <| sQ 2 (yg (.bool ((kind == 7) || (kind == 8)))) (rn (ct_ ?_))
 obtain rfl := sI hF
 exact ret1 Try.results44 (v1 := .bool ((kind == 7) || (kind == 8))) (resAt_tmp rfl) ⟨rfl, (hS.sN [])⟩

theorem c_impl_CountT (c : TCircuit) (B : Option Addr) (c1 n : Nat) (w0 : World) (hn : c.Gates.length = n) (hS : ST w0 [] w0 [] [⟨B, (c.Gates.flatMap eN2)⟩]) {r_ : Int} {r_1 : Bool} (hF : F_impl_CountT c = some (r_, r_1)) :
  CV Try.prog 27 #[.agg #[vi c.Qubits, .slice B n c1]] w0 (fun v w' => v = .tuple #[vi r_, .bool r_1] ∧ ST w0 [] w' [] []) := by
 subst hn
 unfold F_impl_CountT at hF
 refine cv_of_cw 8 Try.func27 rfl Try.ntmps27 rfl ?_
 refine cq (cr ?_)
 refine sS 1 (yB 28 (.agg #[vi c.Qubits, .slice B c.Gates.length c1]) [vi c.Qubits, .slice B c.Gates.length c1] 2 hS) ?_
 rintro _ w_ ⟨b, rfl, hS1⟩
 refine sQ 2 (yg (vi 0)) <| sQ 3 (yg (.bool false)) (rn (cq (cr ?_)))
 refine sQ 4 (yb (aD b) 0 [vi c.Qubits, .slice B c.Gates.length c1] K19 K16 (hS1.c 0)) ?_
 obtain ⟨⟨r_2, r_3⟩, hc, hF⟩ := bI hF
 refine sc 5 rfl rfl (yC [.agg #[vi c.Qubits, .slice B c.Gates.length c1], .func (.func 44) #[] #[]] k_call_43 (c_impl_counted c F_impl_isT B c1 c.Gates.length 44 (#[]) [] _ rfl k_call_44 (fun w hw x_0 y_0 h_ => c_impl_isT x_0  w  hw h_) (hS1.inn0 [(true, 0)] rfl) hc)) ?_
 rintro _ w_1 ⟨rfl, hd⟩
 have hS2 := hS1.out00 hd
 refine sQ 6 (ye (vi r_2)) <| sQ 7 (ye (.bool r_3)) <| sQ 2 (yg (vi r_2)) <| sQ 3 (yg (.bool r_3)) (rn (ct_ ?_))
 obtain ⟨rfl, rfl⟩ := pr2 (sI hF)
 exact ret2 Try.results27 (v1 := vi r_2) (resAt_tmp rfl) (v2 := .bool r_3) (resAt_tmp rfl) ⟨rfl, (hS2.sN [])⟩
end Go.VK
