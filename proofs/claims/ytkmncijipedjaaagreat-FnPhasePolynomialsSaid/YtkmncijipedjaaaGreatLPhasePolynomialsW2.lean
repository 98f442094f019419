/- Walks: each Go function returns what its Lean function says. By program. -/
import Derived.Test.YtkmncijipedjaaaGreatLPhasePolynomialsFa
import Derived.Test.YtkmncijipedjaaaGreatLibU
import Derived.Test.YtkmncijipedjaaaGreatLPhasePolynomialsW1
set_option linter.unusedVariables false
set_option maxRecDepth 100000
set_option maxHeartbeats 4000000
namespace Go.VK
open Go.RowKit
open Go.Proofs
open Go.IntKind
attribute [local irreducible] CW RW RA CV Y Yw Yc Ys RetOf
attribute [local irreducible] F_impl_within F_impl_IsValidCircuit F_spec_l13List F_spec_l12Identity F_spec_l4Good F_spec_l12CX F_spec_l13Coef F_spec_PhasePolyOf F_laws_qInts F_laws_qTerms F_laws_qPoly F_impl_circuitIf F_impl_areTerms F_slices_IndexFunc_int_int F_slices_ContainsFunc_int_int F_impl_IsValidLinear_1 F_slices_Clone_int_int F_impl_rankOf_1 F_slices_Delete_int_int F_impl_rankOf F_impl_IsValidLinear F_impl_IsValidPhasePoly F_slices_Reverse_impl_Gate_impl_Gate F_impl_eliminated_1 F_impl_eliminated F_impl_synthesized F_math_bits_Mul64 F_math_bits_Mul F_slices_Repeat_impl_Gate_impl_Gate F_impl_phases F_math_bits_Len64 F_math_bits_Len F_impl_rotation
theorem c_spec_PhasePolyOf (c : TCircuit) (B : Option Addr) (c1 n : Nat) (w0 : World) (hn : c.Gates.length = n) (hS : ST w0 [] w0 [] [⟨B, (c.Gates.flatMap eN0)⟩]) {r_ : TPhasePoly} {r_1 : Bool} (hF : F_spec_PhasePolyOf c = some (r_, r_1)) :
  CV Tryz.prog 38 #[.agg #[vi c.Qubits, .slice B n c1]] w0 (fun v w' => ∃ (B1 : Option Addr) (c2 : Nat) (B2 : Option Addr) (c3 : Nat), v = .tuple #[.agg #[vi r_.Qubits, vi r_.Phase, .slice B1 r_.Terms.length c2, .slice B2 r_.Out.Rows.length c3], .bool r_1] ∧ ST w0 [] w' [⟨B1, 157, (r_.Terms.flatMap enc_Term), c2 * 2⟩, ⟨B2, 3, (r_.Out.Rows.flatMap encI), c3 * 1⟩] []) := by
 subst hn
 unfold F_spec_PhasePolyOf at hF
 refine cv_of_cw 134 Tryz.func38 rfl Tryz.ntmps38 rfl ?_
 refine cq (cr ?_)
 refine sS 1 (yB 28 (.agg #[vi c.Qubits, .slice B c.Gates.length c1]) [vi c.Qubits, .slice B c.Gates.length c1] 2 hS) ?_
 rintro _ w_ ⟨b, rfl, hS1⟩
 refine sS 2 (yN [vi 0, vi 0, .slice none 0 0, .slice none 0 0] 4 hS1 K32) ?_
 rintro _ w_1 ⟨b1, rfl, hS2⟩
 refine sQ 3 (yg (.bool false)) (rn (cq (cq (cr ?_))))
 refine sQ 9 (yb (aD b) 0 [vi c.Qubits, .slice B c.Gates.length c1] K22 K11 (hS2.c 0)) ?_
 obtain ⟨r_2, hc, hF⟩ := bI hF
 refine sc 10 rfl rfl (yC [.agg #[vi c.Qubits, .slice B c.Gates.length c1]] k_call_134 (c_spec_l4Good c B c1 c.Gates.length _ rfl (hS2.inn0 [(true, 0)] rfl) hc)) ?_
 rintro _ w_2 ⟨rfl, hd⟩
 have hS3 := hS2.out00 hd
 refine sQ 11 (Y_not (p := r_2) rfl rfl) (rn ?_)
 refine cw_cond (b := (!r_2)) rfl (fun hb => ?_) (fun hb => ?_)
 ·skip
  have hF1 := ct hF hb
  refine cq (cr ?_)
  refine sQ 12 (Y_buildS (zs := [vi 0, vi 0, .slice none 0 0, .slice none 0 0]) (vs := []) (cs := [vi 0, vi 0, .slice none 0 0, .slice none 0 0]) K58 K32 rfl mpn rfl) ?_
  refine s0 (yT 1 4 (aD b1) 62 (.agg #[vi 0, vi 0, .slice none 0 0, .slice none 0 0]) [vi 0, vi 0, .slice none 0 0, .slice none 0 0] 0 hS3 K20) ?_
  rintro _ w_3 ⟨rfl, hS4⟩
  refine sQ 3 (yg (.bool false)) (rn (ct_ ?_))
  have hS5 := hS4.addNil 157
  have hS6 := hS5.addNil 3
  obtain ⟨rfl, rfl⟩ := pr2 (sI hF1)
  exact ret2 Tryz.results38 (v1 := .agg #[vi 0, vi 0, .slice none 0 0, .slice none 0 0]) (resAt_cellA (B := aD b1) (i := 0) (cs := [vi 0, vi 0, .slice none 0 0, .slice none 0 0]) (vs := [vi 0, vi 0, .slice none 0 0, .slice none 0 0]) rfl K47 K20 (hS6.c 1) rfl rfl) (v2 := .bool false) (resAt_tmp rfl) ⟨none, 0, none, 0, rfl, (hS6.sN [2, 3])⟩
 ·skip
  have hF2 := cf' hF hb
  refine cw_skip (cq (cr ?_))
  refine sQ 13 (yd (aD b) 0 0 K31 K0) <| sQ 14 (yl (aD b) 0 [vi c.Qubits, .slice B c.Gates.length c1] (vi c.Qubits) K1 (hS3.c 0)) <| sQ 15 (Y_conv (k := .i64) (a := c.Qubits) (T := 3) (T' := 77) K54 K59 rfl rfl) ?_
  obtain ⟨hsh, hF2⟩ := chk_inv hF2
  refine sQ 16 (Y_shl (k := .i64) (a := 1) (k' := .u64) (b := (IntKind.u64.wrap c.Qubits)) rfl rfl rfl hsh) ?_
  obtain ⟨hmk, hF2⟩ := chk_inv hF2
  refine sS 17 (Ys_make (s := 1) (by' := 8) (nn := (shlK .i64 1 (IntKind.u64.wrap c.Qubits)).toNat) (a := (shlK .i64 1 (IntKind.u64.wrap c.Qubits))) (b := (shlK .i64 1 (IntKind.u64.wrap c.Qubits))) (cs := ((List.replicate ((shlK .i64 1 (IntKind.u64.wrap c.Qubits)).toNat) 0).flatMap encI)) hS3 K2 K0 K76 K57 rfl rfl rfl rfl hmk.1 rfl (by have := hmk; omega) (by have := hmk; omega) (by omega) (fm_rep (enc := encI) (d := 0) rfl _)) ?_
  rintro _ w_4 ⟨b2, rfl, hS7⟩
  refine sQ 4 (yg (.slice (aD b2) ((shlK .i64 1 (IntKind.u64.wrap c.Qubits)).toNat) ((shlK .i64 1 (IntKind.u64.wrap c.Qubits)).toNat))) (rn (cq (cr ?_)))
  refine sQ 18 (yd (aD b) 0 0 K31 K0) <| sQ 19 (yl (aD b) 0 [vi c.Qubits, .slice B c.Gates.length c1] (vi c.Qubits) K1 (hS7.c 0)) <| sQ 20 (Y_buildS (zs := [vi 0, vi 0, .slice none 0 0, .slice none 0 0]) (vs := [(0, vi c.Qubits)]) (cs := [vi c.Qubits, vi 0, .slice none 0 0, .slice none 0 0]) K58 K32 rfl (mpc rfl mpn) rfl) ?_
  refine sS 5 (yN [vi 0, vi 0, .slice none 0 0, .slice none 0 0] 4 hS7 K32) ?_
  rintro _ w_5 ⟨b3, rfl, hS8⟩
  refine s0 (yT 3 4 (aD b3) 62 (.agg #[vi c.Qubits, vi 0, .slice none 0 0, .slice none 0 0]) [vi c.Qubits, vi 0, .slice none 0 0, .slice none 0 0] 0 hS8 K20) ?_
  rintro _ w_6 ⟨rfl, hS9⟩
  refine rn (cq (cr ?_))
  refine sQ 21 (yd (aD b) 0 0 K31 K0) <| sQ 22 (yl (aD b) 0 [vi c.Qubits, .slice B c.Gates.length c1] (vi c.Qubits) K1 (hS9.c 0)) ?_
  obtain ⟨r_3, hc1, hF2⟩ := bI hF2
  refine sc 23 rfl rfl (yC [vi c.Qubits] k_call_121 (c_spec_l12Identity c.Qubits _  (hS9.inn0 [] rfl) hc1)) ?_
  rintro _ w_7 ⟨B3, c4, rfl, hd1⟩
  have hS10 := hS9.out0 hd1
  refine sS 6 (yN [.slice none 0 0] 1 hS10 K60) ?_
  rintro _ w_8 ⟨b4, rfl, hS11⟩
  refine s0 (yT 5 1 (aD b4) 60 (.agg #[.slice B3 r_3.Rows.length c4]) [.slice B3 r_3.Rows.length c4] 0 hS11 K19) ?_
  rintro _ w_9 ⟨rfl, hS12⟩
  refine rn (cq (cq (cr ?_)))
  refine sQ 24 (yd (aD b) 0 0 K36 K21) <| sQ 25 (yl (aD b) 1 [vi c.Qubits, .slice B c.Gates.length c1] (.slice B c.Gates.length c1) K37 (hS12.c 0)) <| sQ 26 (Y_len (B := B) (m := c.Gates.length) (c := c1) K5 rfl rfl) <| sQ 27 (ym (vi 0)) (rn ?_)
  obtain ⟨hN, hF2⟩ := chk_inv hF2
  obtain ⟨z, hz, hF3⟩ := bI hF2
  refine cw_block ?_
  refine cw_loop (fun k f w => ∃ (i : Nat) (by_ : List Int) (Phase : Int) (Rows : List Int) (B4 : Option Addr) (c5 : Nat), FF f [(2, pt (aD b1) 0), (4, .slice (aD b2) ((shlK .i64 1 (IntKind.u64.wrap c.Qubits)).toNat) ((shlK .i64 1 (IntKind.u64.wrap c.Qubits)).toNat)), (5, pt (aD b3) 0), (6, pt (aD b4) 0), (25, .slice B c.Gates.length c1), (26, vi (c.Gates.length : Int)), (27, vi (i : Int))] ∧ by_.length = (shlK .i64 1 (IntKind.u64.wrap c.Qubits)).toNat ∧ ST w0 [] w [⟨aD b1, 62, [vi 0, vi 0, .slice none 0 0, .slice none 0 0], 4⟩, ⟨aD b2, 3, (by_.flatMap encI), ((shlK .i64 1 (IntKind.u64.wrap c.Qubits)).toNat) * 1⟩, ⟨aD b3, 62, [vi c.Qubits, vi Phase, .slice none 0 0, .slice none 0 0], 4⟩, ⟨aD b4, 60, [.slice B4 Rows.length c5], 1⟩, ⟨B4, 3, (Rows.flatMap encI), c5 * 1⟩] [⟨B, (c.Gates.flatMap eN0)⟩] ∧ i + k = c.Gates.length ∧ forX (F_spec_PhasePolyOf_l1 c) k i (by_, Phase, Rows) = some z) c.Gates.length ⟨0, (List.replicate ((shlK .i64 1 (IntKind.u64.wrap c.Qubits)).toNat) 0), 0, r_3.Rows, B3, c4, (fc rfl (fc rfl (fc rfl (fc rfl (fc rfl (fc rfl (fc rfl fn_))))))), List.length_replicate, (hS12.sel [1, 2, 3, 5, 4] rfl rfl), Nat.zero_add _, hz⟩ ?_
  rintro k_ f w ⟨i, by_, Phase, Rows, B4, c5, hf, hl, hS13, hik, hL⟩
  refine cq (cr ?_)
  refine sQ 28 (yL (i : Int) (c.Gates.length : Int) rfl (hf.g 27 6) (hf.g 26 5)) (rn (cq ?_))
  refine cw_cond (b := (decide ((i : Int) < (c.Gates.length : Int)))) rfl (fun hlt => ?_) (fun hlt => ?_)
  ·skip
   have hlt1 : i < c.Gates.length := by have h := of_decide_eq_true hlt; omega
   obtain ⟨K7, rfl⟩ : ∃ k2, k_ = k2 + 1 := ⟨k_ - 1, by omega⟩
   obtain ⟨y, hb1, hL1⟩ := forX_go hL
   unfold F_spec_PhasePolyOf_l1 at hb1
   refine cw_skip (cq ?_)
   obtain ⟨z1, hz1, hF4⟩ := bI hb1
   refine cw_mid (fun f w => ∃ (by_1 : List Int) (Phase1 : Int) (Rows1 : List Int) (B5 : Option Addr) (c6 : Nat), .inl (by_1, Phase1, Rows1) = z1 ∧ FF f [(2, pt (aD b1) 0), (4, .slice (aD b2) ((shlK .i64 1 (IntKind.u64.wrap c.Qubits)).toNat) ((shlK .i64 1 (IntKind.u64.wrap c.Qubits)).toNat)), (5, pt (aD b3) 0), (6, pt (aD b4) 0), (25, .slice B c.Gates.length c1), (26, vi (c.Gates.length : Int)), (27, vi (i : Int))] ∧ by_1.length = (shlK .i64 1 (IntKind.u64.wrap c.Qubits)).toNat ∧ ST w0 [] w [⟨aD b1, 62, [vi 0, vi 0, .slice none 0 0, .slice none 0 0], 4⟩, ⟨aD b2, 3, (by_1.flatMap encI), ((shlK .i64 1 (IntKind.u64.wrap c.Qubits)).toNat) * 1⟩, ⟨aD b3, 62, [vi c.Qubits, vi Phase1, .slice none 0 0, .slice none 0 0], 4⟩, ⟨aD b4, 60, [.slice B5 Rows1.length c6], 1⟩, ⟨B5, 3, (Rows1.flatMap encI), c6 * 1⟩] [⟨B, (c.Gates.flatMap eN0)⟩]) ?_ ?_
   ·skip
    refine cw_block (cq (cr ?_))
    obtain ⟨x, hx, hz1⟩ := bI hz1
    refine sQ 29 (Y_index (B := B) (m := c.Gates.length) (c := c1) (k := .i64) (i := (i : Int)) K5 K3 rfl (hf.g 25 4) (hf.g 27 6) (gi_isSome eN1 rfl (hS13.rf (i := 0) rfl) hx) (getI_nn hx) (getI_ltI hx rfl)) <| sQ 30 (ya B ((i : Int).toNat * 3) (c.Gates.flatMap eN0) [vi x.Kind, vi x.A, vi x.B] K24 K3 (hS13.rf (i := 0) rfl) rfl rfl (eN1 x) (gi_seg eN1 hx)) ?_
    refine sS 8 (yN [vi 0, vi 0, vi 0] 3 hS13 K9) ?_
    rintro _ w_10 ⟨b5, rfl, hS15⟩
    refine s0 (yT 5 3 (aD b5) 120 (.agg #[vi x.Kind, vi x.A, vi x.B]) [vi x.Kind, vi x.A, vi x.B] 0 hS15 K3) ?_
    rintro _ w_11 ⟨rfl, hS16⟩
    refine rn (cq (cr ?_))
    refine sQ 31 (yd (aD b5) 0 0 K33 K0) <| sQ 32 (yl (aD b5) 0 [vi x.Kind, vi x.A, vi x.B] (vi x.Kind) K1 (hS16.c 5)) (rn (cw_block (cq (cr ?_))))
    refine sQ 53 (yE x.Kind 9) <| sQ 52 (yg (.bool (x.Kind == 9))) (rn ?_)
    refine cw_cond (b := (x.Kind == 9)) rfl (fun hb2 => ?_) (fun hb2 => ?_)
    ·skip
     have hF5 := ct hz1 hb2
     refine cr ?_
     refine sQ 54 (yb (aD b4) 0 [.slice B4 Rows.length c5] K51 K19 (hS16.c 3) rfl (hf.g 6 3)) <| sQ 55 (yd (aD b5) 0 0 K18 K0) <| sQ 56 (yl (aD b5) 1 [vi x.Kind, vi x.A, vi x.B] (vi x.A) K1 (hS16.c 5)) <| sQ 57 (yd (aD b5) 0 0 K26 K0) <| sQ 58 (yl (aD b5) 2 [vi x.Kind, vi x.A, vi x.B] (vi x.B) K1 (hS16.c 5)) ?_
     obtain ⟨r_4, hc2, hF5⟩ := bI hF5
     refine sc 59 rfl rfl (yC [.agg #[.slice B4 Rows.length c5], vi x.A, vi x.B] K97 (c_spec_l12CX (TLinear.mk Rows) x.A x.B B4 c5 Rows.length _ rfl (hS16.inn0 [(false, 4)] rfl) hc2)) ?_
     rintro _ w_12 ⟨B6, c7, rfl, hd2⟩
     have hS17 := hS16.out0 hd2
     refine s0 (yT 3 1 (aD b4) 60 (.agg #[.slice B6 r_4.Rows.length c7]) [.slice B6 r_4.Rows.length c7] 0 hS17 K19 rfl (hf.g 6 3)) ?_
     rintro _ w_13 ⟨rfl, hS18⟩
     refine rn ?_
     exact ⟨by_, Phase, r_4.Rows, B6, c7, (sI hF5), (fc (hf.g 2 0) (fc (hf.g 4 1) (fc (hf.g 5 2) (fc (hf.g 6 3) (fc (hf.g 25 4) (fc (hf.g 26 5) (fc (hf.g 27 6) fn_))))))), hl, (hS18.sel [0, 1, 2, 3, 6] rfl rfl)⟩
    ·skip
     have hF6 := cf' hz1 hb2
     refine cq (cr ?_)
     refine sQ 61 (yE x.Kind 11) <| sQ 60 (yg (.bool (x.Kind == 11))) (rn ?_)
     refine cw_cond (b := (x.Kind == 11)) rfl (fun hb3 => ?_) (fun hb3 => ?_)
     ·skip
      have hF7 := ct hF6 hb3
      obtain ⟨r_5, hc3, hF7⟩ := bI hF7
      obtain ⟨r_6, hc4, hF7⟩ := bI hF7
      obtain ⟨r_7, hc5, hF7⟩ := bI hF7
      refine ra_start (hS16.se [0, 1, 2, 4, 5]).fn (by kernel_rfl) ?_
      have hS22 := hS16.drew
      refine rq 1 63 (v := pt (aD b5) 1) rfl (hS22.se [0, 1, 2, 4, 5]) (fun w' hw' => (yd (aD b5) 0 0 K18 K0)) ?_
      refine rq 2 64 (v := vi x.A) rfl (hS22.se [0, 1, 2, 4, 5]) (fun w' hw' => (yl (aD b5) 1 [vi x.Kind, vi x.A, vi x.B] (vi x.A) K1 (ST.cf hw' (i := 4) rfl))) ?_
      refine rq 3 65 (v := pt (aD b5) 2) rfl (hS22.se [0, 1, 2, 4, 5]) (fun w' hw' => (yd (aD b5) 0 0 K26 K0)) ?_
      refine rq 4 66 (v := vi x.B) rfl (hS22.se [0, 1, 2, 4, 5]) (fun w' hw' => (yl (aD b5) 2 [vi x.Kind, vi x.A, vi x.B] (vi x.B) K1 (ST.cf hw' (i := 4) rfl))) ?_
      refine rq 6 68 (v := pt (aD b5) 2) rfl (hS22.se [0, 1, 2, 4, 5]) (fun w' hw' => (yd (aD b5) 0 0 K26 K0)) ?_
      refine rq 7 69 (v := vi x.B) rfl (hS22.se [0, 1, 2, 4, 5]) (fun w' hw' => (yl (aD b5) 2 [vi x.Kind, vi x.A, vi x.B] (vi x.B) K1 (ST.cf hw' (i := 4) rfl))) ?_
      refine rq 8 70 (v := pt (aD b5) 1) rfl (hS22.se [0, 1, 2, 4, 5]) (fun w' hw' => (yd (aD b5) 0 0 K18 K0)) ?_
      refine rq 9 71 (v := vi x.A) rfl (hS22.se [0, 1, 2, 4, 5]) (fun w' hw' => (yl (aD b5) 1 [vi x.Kind, vi x.A, vi x.B] (vi x.A) K1 (ST.cf hw' (i := 4) rfl))) ?_
      refine rq 11 73 (v := pt (aD b5) 1) rfl (hS22.se [0, 1, 2, 4, 5]) (fun w' hw' => (yd (aD b5) 0 0 K18 K0)) ?_
      refine rq 12 74 (v := vi x.A) rfl (hS22.se [0, 1, 2, 4, 5]) (fun w' hw' => (yl (aD b5) 1 [vi x.Kind, vi x.A, vi x.B] (vi x.A) K1 (ST.cf hw' (i := 4) rfl))) ?_
      refine rq 13 75 (v := pt (aD b5) 2) rfl (hS22.se [0, 1, 2, 4, 5]) (fun w' hw' => (yd (aD b5) 0 0 K26 K0)) ?_
      refine rq 14 76 (v := vi x.B) rfl (hS22.se [0, 1, 2, 4, 5]) (fun w' hw' => (yl (aD b5) 2 [vi x.Kind, vi x.A, vi x.B] (vi x.B) K1 (ST.cf hw' (i := 4) rfl))) ?_
      refine rA [0] ?_
      refine ra_y 62 (i := 0) (v := .agg #[.slice B4 Rows.length c5]) rfl rfl rfl (yb (aD b4) 0 [.slice B4 Rows.length c5] K51 K19 (hS22.c 3) rfl (hf.g 6 3)) (hS22.se [0, 1, 2, 4, 5]) ?_ ?_
      ·skip
       refine rA [5] ?_
       refine rC 67 5 rfl (yC [.agg #[.slice B4 Rows.length c5], vi x.A, vi x.B] K97 (c_spec_l12CX (TLinear.mk Rows) x.A x.B B4 c5 Rows.length _ rfl (hS22.inn0 [(false, 4)] rfl) hc3)) ?_ ?_
       ·rintro _ w_14 ⟨B7, c8, rfl, hd3⟩
        have hS23 := hS22.out0 hd3
        refine ⟨(hS23.se [0, 1, 2, 4, 5]), ?_⟩
        refine rA [10] ?_
        refine rC 72 10 rfl (yC [.agg #[.slice B7 r_5.Rows.length c8], vi x.B, vi x.A] K97 (c_spec_l12CX r_5 x.B x.A B7 c8 r_5.Rows.length _ rfl (hS23.inn0 [(false, 6)] rfl) hc4)) ?_ ?_
        ·rintro _ w_15 ⟨B8, c9, rfl, hd4⟩
         have hS24 := hS23.out0 hd4
         refine ⟨(hS24.se [0, 1, 2, 4, 5]), ?_⟩
         refine rA [15] ?_
         refine rC 77 15 rfl (yC [.agg #[.slice B8 r_6.Rows.length c9], vi x.A, vi x.B] K97 (c_spec_l12CX r_6 x.A x.B B8 c9 r_6.Rows.length _ rfl (hS24.inn0 [(false, 7)] rfl) hc5)) ?_ ?_
         ·rintro _ w_16 ⟨B9, c10, rfl, hd5⟩
          have hS25 := hS24.out0 hd5
          refine ⟨(hS25.se [0, 1, 2, 4, 5]), ?_⟩
          refine rA [16] ?_
          refine rZ 16 rfl (yT 3 1 (aD b4) 60 (.agg #[.slice B9 r_7.Rows.length c10]) [.slice B9 r_7.Rows.length c10] 0 hS25 K19 rfl (hf.g 6 3)) ?_ ?_
          ·rintro _ w_17 ⟨rfl, hS26⟩
           refine ⟨(hS26.se [0, 1, 2, 4, 5]), ?_⟩
           refine ra_done (by kernel_rfl) ?_
           exact ⟨by_, Phase, r_7.Rows, B9, c10, (sI hF7), (fc (hf.g 2 0) (fc (hf.g 4 1) (fc (hf.g 5 2) (fc (hf.g 6 3) (fc (hf.g 25 4) (fc (hf.g 26 5) (fc (hf.g 27 6) fn_))))))), hl, (hS26.sel [0, 1, 2, 3, 8] rfl rfl)⟩
          exact aN
         exact aN
        exact aN
       exact aN
      exact aN
     ·skip
      have hF8 := cf' hF6 hb3
      refine cq (cr ?_)
      refine sQ 79 (yE x.Kind 10) <| sQ 78 (yg (.bool (x.Kind == 10))) (rn ?_)
      refine cw_cond (b := (x.Kind == 10)) rfl (fun hb4 => ?_) (fun hb4 => ?_)
      ·skip
       have hF9 := ct hF8 hb4
       refine cq (cr ?_)
       refine sQ 80 (ym (.slice (aD b2) ((shlK .i64 1 (IntKind.u64.wrap c.Qubits)).toNat) ((shlK .i64 1 (IntKind.u64.wrap c.Qubits)).toNat)) rfl (hf.g 4 1)) <| sQ 81 (yd (aD b4) 0 0 K29 K14 rfl (hf.g 6 3)) <| sQ 82 (yl (aD b4) 0 [.slice B4 Rows.length c5] (.slice B4 Rows.length c5) K13 (hS16.c 3)) <| sQ 83 (yd (aD b5) 0 0 K18 K0) <| sQ 84 (yl (aD b5) 1 [vi x.Kind, vi x.A, vi x.B] (vi x.A) K1 (hS16.c 5)) ?_
       obtain ⟨x1, hx1, hF9⟩ := bI hF9
       refine sQ 85 (Y_index (B := B4) (m := Rows.length) (c := c5) (k := .i64) (i := x.A) K2 K0 rfl rfl rfl (gi_isSome encI_len rfl (hS16.c 4) hx1) (getI_nn hx1) (getI_ltI hx1 rfl)) <| sQ 86 (yl B4 (x.A.toNat * 1) (Rows.flatMap encI) (vi x1) K1 (hS16.c 4) rfl rfl (gi_at0 encI_len hx1 rfl)) ?_
       obtain ⟨x2, hx2, hF9⟩ := bI hF9
       refine sQ 87 (Y_index (B := aD b2) (m := (shlK .i64 1 (IntKind.u64.wrap c.Qubits)).toNat) (c := (shlK .i64 1 (IntKind.u64.wrap c.Qubits)).toNat) (k := .i64) (i := x1) K2 K0 rfl rfl rfl (gi_isSome encI_len rfl (hS16.c 1) hx2) (getI_nn hx2) (getI_ltI hx2 hl)) <| sQ 88 (yl (aD b2) (x1.toNat * 1) (by_.flatMap encI) (vi x2) K1 (hS16.c 1) rfl rfl (gi_at0 encI_len hx2 rfl)) <| sQ 89 (yP x2 2) <| sQ 90 (Y_index (B := aD b2) (m := (shlK .i64 1 (IntKind.u64.wrap c.Qubits)).toNat) (c := (shlK .i64 1 (IntKind.u64.wrap c.Qubits)).toNat) (k := .i64) (i := x1) K2 K0 rfl rfl rfl (gi_isSome encI_len rfl (hS16.c 1) hx2) (getI_nn hx2) (getI_ltI hx2 hl)) ?_
       refine s0 (yS 1 1 (aD b2) 3 (vi (i64.wrap (x2 + 2))) [vi (i64.wrap (x2 + 2))] (x1.toNat * 1) ((by_.set x1.toNat (i64.wrap (x2 + 2))).flatMap encI) hS16 K0 rfl rfl rfl rfl rfl rfl rfl (gi_fit0 encI_len hx2) (gi_set encI_len hx2 (i64.wrap (x2 + 2)) rfl)) ?_
       rintro _ w_18 ⟨rfl, hS27⟩
       refine rn (cq (cr ?_))
       refine sQ 91 (ym (.slice (aD b2) ((shlK .i64 1 (IntKind.u64.wrap c.Qubits)).toNat) ((shlK .i64 1 (IntKind.u64.wrap c.Qubits)).toNat)) rfl (hf.g 4 1)) <| sQ 92 (yd (aD b4) 0 0 K29 K14 rfl (hf.g 6 3)) <| sQ 93 (yl (aD b4) 0 [.slice B4 Rows.length c5] (.slice B4 Rows.length c5) K13 (hS27.c 3)) <| sQ 94 (yd (aD b5) 0 0 K26 K0) <| sQ 95 (yl (aD b5) 2 [vi x.Kind, vi x.A, vi x.B] (vi x.B) K1 (hS27.c 5)) ?_
       obtain ⟨x3, hx3, hF9⟩ := bI hF9
       refine sQ 96 (Y_index (B := B4) (m := Rows.length) (c := c5) (k := .i64) (i := x.B) K2 K0 rfl rfl rfl (gi_isSome encI_len rfl (hS27.c 4) hx3) (getI_nn hx3) (getI_ltI hx3 rfl)) <| sQ 97 (yl B4 (x.B.toNat * 1) (Rows.flatMap encI) (vi x3) K1 (hS27.c 4) rfl rfl (gi_at0 encI_len hx3 rfl)) ?_
       obtain ⟨x4, hx4, hF9⟩ := bI hF9
       refine sQ 98 (Y_index (B := aD b2) (m := (shlK .i64 1 (IntKind.u64.wrap c.Qubits)).toNat) (c := (shlK .i64 1 (IntKind.u64.wrap c.Qubits)).toNat) (k := .i64) (i := x3) K2 K0 rfl rfl rfl (gi_isSome encI_len rfl (hS27.c 1) hx4) (getI_nn hx4) (getI_ltI hx4 (set_len _ _ _ hl))) <| sQ 99 (yl (aD b2) (x3.toNat * 1) ((by_.set x1.toNat (i64.wrap (x2 + 2))).flatMap encI) (vi x4) K1 (hS27.c 1) rfl rfl (gi_at0 encI_len hx4 rfl)) <| sQ 100 (yP x4 2) <| sQ 101 (Y_index (B := aD b2) (m := (shlK .i64 1 (IntKind.u64.wrap c.Qubits)).toNat) (c := (shlK .i64 1 (IntKind.u64.wrap c.Qubits)).toNat) (k := .i64) (i := x3) K2 K0 rfl rfl rfl (gi_isSome encI_len rfl (hS27.c 1) hx4) (getI_nn hx4) (getI_ltI hx4 (set_len _ _ _ hl))) ?_
       refine s0 (yS 1 1 (aD b2) 3 (vi (i64.wrap (x4 + 2))) [vi (i64.wrap (x4 + 2))] (x3.toNat * 1) (((by_.set x1.toNat (i64.wrap (x2 + 2))).set x3.toNat (i64.wrap (x4 + 2))).flatMap encI) hS27 K0 rfl rfl rfl rfl rfl rfl rfl (gi_fit0 encI_len hx4) (gi_set encI_len hx4 (i64.wrap (x4 + 2)) rfl)) ?_
       rintro _ w_19 ⟨rfl, hS28⟩
       refine rn ?_
       obtain ⟨x5, hx5, hF9⟩ := bI hF9
       refine ra_start (hS28.se [0, 2, 3, 4, 5]).fn (by kernel_rfl) ?_
       have hS29 := hS28.drew
       refine rq 0 102 (v := .slice (aD b2) ((shlK .i64 1 (IntKind.u64.wrap c.Qubits)).toNat) ((shlK .i64 1 (IntKind.u64.wrap c.Qubits)).toNat)) rfl (hS29.se [0, 2, 3, 4, 5]) (fun w' hw' => (ym (.slice (aD b2) ((shlK .i64 1 (IntKind.u64.wrap c.Qubits)).toNat) ((shlK .i64 1 (IntKind.u64.wrap c.Qubits)).toNat)) rfl (hf.g 4 1))) ?_
       refine rq 1 103 (v := pt (aD b4) 0) rfl (hS29.se [0, 2, 3, 4, 5]) (fun w' hw' => (yd (aD b4) 0 0 K29 K14 rfl (hf.g 6 3))) ?_
       refine rq 2 104 (v := .slice B4 Rows.length c5) rfl (hS29.se [0, 2, 3, 4, 5]) (fun w' hw' => (yl (aD b4) 0 [.slice B4 Rows.length c5] (.slice B4 Rows.length c5) K13 (ST.cf hw' (i := 2) rfl))) ?_
       refine rq 3 105 (v := pt (aD b5) 1) rfl (hS29.se [0, 2, 3, 4, 5]) (fun w' hw' => (yd (aD b5) 0 0 K18 K0)) ?_
       refine rq 4 106 (v := vi x.A) rfl (hS29.se [0, 2, 3, 4, 5]) (fun w' hw' => (yl (aD b5) 1 [vi x.Kind, vi x.A, vi x.B] (vi x.A) K1 (ST.cf hw' (i := 4) rfl))) ?_
       refine rq 5 107 (v := pt B4 (x.A.toNat * 1)) rfl (hS29.se [0, 2, 3, 4, 5]) (fun w' hw' => (Y_index (B := B4) (m := Rows.length) (c := c5) (k := .i64) (i := x.A) K2 K0 rfl rfl rfl (gi_isSome encI_len rfl (ST.cf hw' (i := 3) rfl) hx1) (getI_nn hx1) (getI_ltI hx1 rfl))) ?_
       refine rq 6 108 (v := vi x1) rfl (hS29.se [0, 2, 3, 4, 5]) (fun w' hw' => (yl B4 (x.A.toNat * 1) (Rows.flatMap encI) (vi x1) K1 (ST.cf hw' (i := 3) rfl) rfl rfl (gi_at0 encI_len hx1 rfl))) ?_
       refine rq 7 109 (v := pt (aD b4) 0) rfl (hS29.se [0, 2, 3, 4, 5]) (fun w' hw' => (yd (aD b4) 0 0 K29 K14 rfl (hf.g 6 3))) ?_
       refine rq 8 110 (v := .slice B4 Rows.length c5) rfl (hS29.se [0, 2, 3, 4, 5]) (fun w' hw' => (yl (aD b4) 0 [.slice B4 Rows.length c5] (.slice B4 Rows.length c5) K13 (ST.cf hw' (i := 2) rfl))) ?_
       refine rq 9 111 (v := pt (aD b5) 2) rfl (hS29.se [0, 2, 3, 4, 5]) (fun w' hw' => (yd (aD b5) 0 0 K26 K0)) ?_
       refine rq 10 112 (v := vi x.B) rfl (hS29.se [0, 2, 3, 4, 5]) (fun w' hw' => (yl (aD b5) 2 [vi x.Kind, vi x.A, vi x.B] (vi x.B) K1 (ST.cf hw' (i := 4) rfl))) ?_
       refine rq 11 113 (v := pt B4 (x.B.toNat * 1)) rfl (hS29.se [0, 2, 3, 4, 5]) (fun w' hw' => (Y_index (B := B4) (m := Rows.length) (c := c5) (k := .i64) (i := x.B) K2 K0 rfl rfl rfl (gi_isSome encI_len rfl (ST.cf hw' (i := 3) rfl) hx3) (getI_nn hx3) (getI_ltI hx3 rfl))) ?_
       refine rq 12 114 (v := vi x3) rfl (hS29.se [0, 2, 3, 4, 5]) (fun w' hw' => (yl B4 (x.B.toNat * 1) (Rows.flatMap encI) (vi x3) K1 (ST.cf hw' (i := 3) rfl) rfl rfl (gi_at0 encI_len hx3 rfl))) ?_
       refine rq 13 115 (v := vi (bits .xor .i64 x1 x3)) rfl (hS29.se [0, 2, 3, 4, 5]) (fun w' hw' => (Y_bxor (k := .i64) (a := x1) (b := x3) rfl rfl rfl)) ?_
       refine rA [14] ?_
       refine ra_y 116 (i := 14) (v := pt (aD b2) ((bits .xor .i64 x1 x3).toNat * 1)) rfl rfl rfl (Y_index (B := aD b2) (m := (shlK .i64 1 (IntKind.u64.wrap c.Qubits)).toNat) (c := (shlK .i64 1 (IntKind.u64.wrap c.Qubits)).toNat) (k := .i64) (i := (bits .xor .i64 x1 x3)) K2 K0 rfl rfl rfl (gi_isSome encI_len rfl (hS29.c 1) hx5) (getI_nn hx5) (getI_ltI hx5 (set_len _ _ _ (set_len _ _ _ hl)))) (hS29.se [0, 2, 3, 4, 5]) ?_ ?_
       ·skip
        refine rA [15] ?_
        refine ra_y 117 (i := 15) (v := vi x5) rfl rfl rfl (yl (aD b2) ((bits .xor .i64 x1 x3).toNat * 1) (((by_.set x1.toNat (i64.wrap (x2 + 2))).set x3.toNat (i64.wrap (x4 + 2))).flatMap encI) (vi x5) K1 (hS29.c 1) rfl rfl (gi_at0 encI_len hx5 rfl)) (hS29.se [0, 2, 3, 4, 5]) ?_ ?_
        ·skip
         refine rq 16 118 (v := vi (i64.wrap (x5 + 6))) rfl (hS29.se [0, 2, 3, 4, 5]) (fun w' hw' => (yP x5 6)) ?_
         refine rA [17] ?_
         refine ra_y 119 (i := 17) (v := pt (aD b2) ((bits .xor .i64 x1 x3).toNat * 1)) rfl rfl rfl (Y_index (B := aD b2) (m := (shlK .i64 1 (IntKind.u64.wrap c.Qubits)).toNat) (c := (shlK .i64 1 (IntKind.u64.wrap c.Qubits)).toNat) (k := .i64) (i := (bits .xor .i64 x1 x3)) K2 K0 rfl rfl rfl (gi_isSome encI_len rfl (hS29.c 1) hx5) (getI_nn hx5) (getI_ltI hx5 (set_len _ _ _ (set_len _ _ _ hl)))) (hS29.se [0, 2, 3, 4, 5]) ?_ ?_
         ·skip
          refine rA [18] ?_
          refine rZ 18 rfl (yS 1 1 (aD b2) 3 (vi (i64.wrap (x5 + 6))) [vi (i64.wrap (x5 + 6))] ((bits .xor .i64 x1 x3).toNat * 1) ((((by_.set x1.toNat (i64.wrap (x2 + 2))).set x3.toNat (i64.wrap (x4 + 2))).set (bits .xor .i64 x1 x3).toNat (i64.wrap (x5 + 6))).flatMap encI) hS29 K0 rfl rfl rfl rfl rfl rfl rfl (gi_fit0 encI_len hx5) (gi_set encI_len hx5 (i64.wrap (x5 + 6)) rfl)) ?_ ?_
          ·rintro _ w_20 ⟨rfl, hS30⟩
           refine ⟨(hS30.se [0, 2, 3, 4, 5]), ?_⟩
           refine ra_done (by kernel_rfl) ?_
           exact ⟨(((by_.set x1.toNat (i64.wrap (x2 + 2))).set x3.toNat (i64.wrap (x4 + 2))).set (bits .xor .i64 x1 x3).toNat (i64.wrap (x5 + 6))), Phase, Rows, B4, c5, (sI hF9), (fc (hf.g 2 0) (fc (hf.g 4 1) (fc (hf.g 5 2) (fc (hf.g 6 3) (fc (hf.g 25 4) (fc (hf.g 26 5) (fc (hf.g 27 6) fn_))))))), (set_len _ _ _ (set_len _ _ _ (set_len _ _ _ hl))), (hS30.sel [0, 1, 2, 3, 4] rfl rfl)⟩
          exact aN
         exact aN
        exact aN
       exact aN
      ·skip
       have hF10 := cf' hF8 hb4
       refine cq (cr ?_)
       refine sQ 121 (yE x.Kind 12) <| sQ 120 (yg (.bool (x.Kind == 12))) (rn ?_)
       refine cw_cond (b := (x.Kind == 12)) rfl (fun hb5 => ?_) (fun hb5 => ?_)
       ·skip
        have hF11 := ct hF10 hb5
        refine cr ?_
        refine sQ 122 (yd (aD b3) 0 0 K61 K0 rfl (hf.g 5 2)) <| sQ 123 (yl (aD b3) 1 [vi c.Qubits, vi Phase, .slice none 0 0, .slice none 0 0] (vi Phase) K1 (hS16.c 2)) <| sQ 124 (yP Phase 1) <| sQ 125 (Y_rem (k := .i64) (a := (i64.wrap (Phase + 1))) (b := 8) rfl rfl rfl (by decide)) <| sQ 126 (yd (aD b3) 0 0 K61 K0 rfl (hf.g 5 2)) ?_
        refine s0 (yS 2 1 (aD b3) 62 (vi (Int.tmod (i64.wrap (Phase + 1)) 8)) [vi (Int.tmod (i64.wrap (Phase + 1)) 8)] 1 [vi c.Qubits, vi (Int.tmod (i64.wrap (Phase + 1)) 8), .slice none 0 0, .slice none 0 0] hS16 K0) ?_
        rintro _ w_21 ⟨rfl, hS31⟩
        refine rn ?_
        exact ⟨by_, (Int.tmod (i64.wrap (Phase + 1)) 8), Rows, B4, c5, (sI hF11), (fc (hf.g 2 0) (fc (hf.g 4 1) (fc (hf.g 5 2) (fc (hf.g 6 3) (fc (hf.g 25 4) (fc (hf.g 26 5) (fc (hf.g 27 6) fn_))))))), hl, (hS31.sel [0, 1, 2, 3, 4] rfl rfl)⟩
       ·skip
        have hF12 := cf' hF10 hb5
        refine cq (cq (cr ?_))
        refine sQ 33 (yd (aD b5) 0 0 K33 K0) <| sQ 34 (yl (aD b5) 0 [vi x.Kind, vi x.A, vi x.B] (vi x.Kind) K1 (hS16.c 5)) ?_
        obtain ⟨r_8, hc6, hF12⟩ := bI hF12
        refine sc 35 rfl rfl (yC [vi x.Kind] K98 (c_spec_l13Coef x.Kind _  (hS16.inn0 [] rfl) hc6)) ?_
        rintro _ w_22 ⟨rfl, hd6⟩
        have hS32 := hS16.out00 hd6
        refine sQ 36 (yE r_8 0) (rn ?_)
        refine cw_cond (b := (r_8 == 0)) rfl (fun hb6 => ?_) (fun hb6 => ?_)
        ·skip
         have hF13 := ct hF12 hb6
         refine cq (cr ?_)
         refine sQ 37 (Y_buildS (zs := [vi 0, vi 0, .slice none 0 0, .slice none 0 0]) (vs := []) (cs := [vi 0, vi 0, .slice none 0 0, .slice none 0 0]) K58 K32 rfl mpn rfl) ?_
         refine s0 (yT 0 4 (aD b1) 62 (.agg #[vi 0, vi 0, .slice none 0 0, .slice none 0 0]) [vi 0, vi 0, .slice none 0 0, .slice none 0 0] 0 hS32 K20 rfl (hf.g 2 0)) ?_
         rintro _ w_23 ⟨rfl, hS33⟩
         refine sQ 3 (yg (.bool false)) (rn (ct_ ?_))
         have hS34 := hS33.addNil 157
         have hS35 := hS34.addNil 3
         obtain rfl := sI hF13
         obtain rfl := sI hF4
         obtain rfl := sI hL1
         obtain ⟨rfl, rfl⟩ := pr2 (sI hF3)
         exact ret2 Tryz.results38 (v1 := .agg #[vi 0, vi 0, .slice none 0 0, .slice none 0 0]) (resAt_cellA (B := aD b1) (i := 0) (cs := [vi 0, vi 0, .slice none 0 0, .slice none 0 0]) (vs := [vi 0, vi 0, .slice none 0 0, .slice none 0 0]) (hf.g 2 0) K47 K20 (hS35.c 0) rfl rfl) (v2 := .bool false) (resAt_tmp rfl) ⟨none, 0, none, 0, rfl, (hS35.sN [6, 7])⟩
        ·skip
         have hF14 := cf' hF12 hb6
         refine cw_skip ?_
         obtain ⟨x6, hx6, hF14⟩ := bI hF14
         obtain ⟨x7, hx7, hF14⟩ := bI hF14
         obtain ⟨r_9, hc7, hF14⟩ := bI hF14
         refine cw_mid (fun f w => FF f [(2, pt (aD b1) 0), (4, .slice (aD b2) ((shlK .i64 1 (IntKind.u64.wrap c.Qubits)).toNat) ((shlK .i64 1 (IntKind.u64.wrap c.Qubits)).toNat)), (5, pt (aD b3) 0), (6, pt (aD b4) 0), (25, .slice B c.Gates.length c1), (26, vi (c.Gates.length : Int)), (27, vi (i : Int))] ∧ ST w0 [] w [⟨aD b1, 62, [vi 0, vi 0, .slice none 0 0, .slice none 0 0], 4⟩, ⟨aD b2, 3, ((by_.set x6.toNat (i64.wrap (x7 + r_9))).flatMap encI), ((shlK .i64 1 (IntKind.u64.wrap c.Qubits)).toNat) * 1⟩, ⟨aD b3, 62, [vi c.Qubits, vi Phase, .slice none 0 0, .slice none 0 0], 4⟩, ⟨aD b4, 60, [.slice B4 Rows.length c5], 1⟩, ⟨B4, 3, (Rows.flatMap encI), c5 * 1⟩] [⟨B, (c.Gates.flatMap eN0)⟩]) ?_ ?_
         ·skip
          refine ra_start (hS32.se [0, 2, 3, 4, 5]).fn (by kernel_rfl) ?_
          have hS38 := hS32.drew
          refine rq 0 38 (v := .slice (aD b2) ((shlK .i64 1 (IntKind.u64.wrap c.Qubits)).toNat) ((shlK .i64 1 (IntKind.u64.wrap c.Qubits)).toNat)) rfl (hS38.se [0, 2, 3, 4, 5]) (fun w' hw' => (ym (.slice (aD b2) ((shlK .i64 1 (IntKind.u64.wrap c.Qubits)).toNat) ((shlK .i64 1 (IntKind.u64.wrap c.Qubits)).toNat)) rfl (hf.g 4 1))) ?_
          refine rq 1 39 (v := pt (aD b4) 0) rfl (hS38.se [0, 2, 3, 4, 5]) (fun w' hw' => (yd (aD b4) 0 0 K29 K14 rfl (hf.g 6 3))) ?_
          refine rq 2 40 (v := .slice B4 Rows.length c5) rfl (hS38.se [0, 2, 3, 4, 5]) (fun w' hw' => (yl (aD b4) 0 [.slice B4 Rows.length c5] (.slice B4 Rows.length c5) K13 (ST.cf hw' (i := 2) rfl))) ?_
          refine rq 3 41 (v := pt (aD b5) 1) rfl (hS38.se [0, 2, 3, 4, 5]) (fun w' hw' => (yd (aD b5) 0 0 K18 K0)) ?_
          refine rq 4 42 (v := vi x.A) rfl (hS38.se [0, 2, 3, 4, 5]) (fun w' hw' => (yl (aD b5) 1 [vi x.Kind, vi x.A, vi x.B] (vi x.A) K1 (ST.cf hw' (i := 4) rfl))) ?_
          refine rq 5 43 (v := pt B4 (x.A.toNat * 1)) rfl (hS38.se [0, 2, 3, 4, 5]) (fun w' hw' => (Y_index (B := B4) (m := Rows.length) (c := c5) (k := .i64) (i := x.A) K2 K0 rfl rfl rfl (gi_isSome encI_len rfl (ST.cf hw' (i := 3) rfl) hx6) (getI_nn hx6) (getI_ltI hx6 rfl))) ?_
          refine rq 6 44 (v := vi x6) rfl (hS38.se [0, 2, 3, 4, 5]) (fun w' hw' => (yl B4 (x.A.toNat * 1) (Rows.flatMap encI) (vi x6) K1 (ST.cf hw' (i := 3) rfl) rfl rfl (gi_at0 encI_len hx6 rfl))) ?_
          refine rq 9 47 (v := pt (aD b5) 0) rfl (hS38.se [0, 2, 3, 4, 5]) (fun w' hw' => (yd (aD b5) 0 0 K33 K0)) ?_
          refine rq 10 48 (v := vi x.Kind) rfl (hS38.se [0, 2, 3, 4, 5]) (fun w' hw' => (yl (aD b5) 0 [vi x.Kind, vi x.A, vi x.B] (vi x.Kind) K1 (ST.cf hw' (i := 4) rfl))) ?_
          refine rA [7, 11] ?_
          refine ra_y 45 (i := 7) (v := pt (aD b2) (x6.toNat * 1)) rfl rfl rfl (Y_index (B := aD b2) (m := (shlK .i64 1 (IntKind.u64.wrap c.Qubits)).toNat) (c := (shlK .i64 1 (IntKind.u64.wrap c.Qubits)).toNat) (k := .i64) (i := x6) K2 K0 rfl rfl rfl (gi_isSome encI_len rfl (hS38.c 1) hx7) (getI_nn hx7) (getI_ltI hx7 hl)) (hS38.se [0, 2, 3, 4, 5]) ?_ ?_
          ·skip
           refine rA [8, 11] ?_
           refine ra_y 46 (i := 8) (v := vi x7) rfl rfl rfl (yl (aD b2) (x6.toNat * 1) (by_.flatMap encI) (vi x7) K1 (hS38.c 1) rfl rfl (gi_at0 encI_len hx7 rfl)) (hS38.se [0, 2, 3, 4, 5]) ?_ ?_
           ·skip
            refine rA [11] ?_
            refine rC 49 11 rfl (yC [vi x.Kind] K98 (c_spec_l13Coef x.Kind _  (hS38.inn0 [] rfl) hc7)) ?_ ?_
            ·rintro _ w_24 ⟨rfl, hd7⟩
             have hS39 := hS38.out00 hd7
             refine ⟨(hS39.se [0, 2, 3, 4, 5]), ?_⟩
             refine rq 12 50 (v := vi (i64.wrap (x7 + r_9))) rfl (hS39.se [0, 2, 3, 4, 5]) (fun w' hw' => (yP x7 r_9)) ?_
             refine rA [13] ?_
             refine ra_y 51 (i := 13) (v := pt (aD b2) (x6.toNat * 1)) rfl rfl rfl (Y_index (B := aD b2) (m := (shlK .i64 1 (IntKind.u64.wrap c.Qubits)).toNat) (c := (shlK .i64 1 (IntKind.u64.wrap c.Qubits)).toNat) (k := .i64) (i := x6) K2 K0 rfl rfl rfl (gi_isSome encI_len rfl (hS39.c 1) hx7) (getI_nn hx7) (getI_ltI hx7 hl)) (hS39.se [0, 2, 3, 4, 5]) ?_ ?_
             ·skip
              refine rA [14] ?_
              refine rZ 14 rfl (yS 1 1 (aD b2) 3 (vi (i64.wrap (x7 + r_9))) [vi (i64.wrap (x7 + r_9))] (x6.toNat * 1) ((by_.set x6.toNat (i64.wrap (x7 + r_9))).flatMap encI) hS39 K0 rfl rfl rfl rfl rfl rfl rfl (gi_fit0 encI_len hx7) (gi_set encI_len hx7 (i64.wrap (x7 + r_9)) rfl)) ?_ ?_
              ·rintro _ w_25 ⟨rfl, hS40⟩
               refine ⟨(hS40.se [0, 2, 3, 4, 5]), ?_⟩
               refine ra_done (by kernel_rfl) ?_
               exact ⟨(fc (hf.g 2 0) (fc (hf.g 4 1) (fc (hf.g 5 2) (fc (hf.g 6 3) (fc (hf.g 25 4) (fc (hf.g 26 5) (fc (hf.g 27 6) fn_))))))), (hS40.sel [0, 1, 2, 3, 4] rfl rfl)⟩
              exact aN
             exact aN
            exact aN
           refine rC 49 11 rfl (yC [vi x.Kind] K98 (c_spec_l13Coef x.Kind _  (hS38.inn0 [] rfl) hc7)) ?_ ?_
           ·rintro _ w_26 ⟨rfl, hd8⟩
            have hS41 := hS38.out00 hd8
            refine ⟨(hS41.se [0, 2, 3, 4, 5]), ?_⟩
            refine rA [8] ?_
            refine ra_y 46 (i := 8) (v := vi x7) rfl rfl rfl (yl (aD b2) (x6.toNat * 1) (by_.flatMap encI) (vi x7) K1 (hS41.c 1) rfl rfl (gi_at0 encI_len hx7 rfl)) (hS41.se [0, 2, 3, 4, 5]) ?_ ?_
            ·skip
             refine rq 12 50 (v := vi (i64.wrap (x7 + r_9))) rfl (hS41.se [0, 2, 3, 4, 5]) (fun w' hw' => (yP x7 r_9)) ?_
             refine rA [13] ?_
             refine ra_y 51 (i := 13) (v := pt (aD b2) (x6.toNat * 1)) rfl rfl rfl (Y_index (B := aD b2) (m := (shlK .i64 1 (IntKind.u64.wrap c.Qubits)).toNat) (c := (shlK .i64 1 (IntKind.u64.wrap c.Qubits)).toNat) (k := .i64) (i := x6) K2 K0 rfl rfl rfl (gi_isSome encI_len rfl (hS41.c 1) hx7) (getI_nn hx7) (getI_ltI hx7 hl)) (hS41.se [0, 2, 3, 4, 5]) ?_ ?_
             ·skip
              refine rA [14] ?_
              refine rZ 14 rfl (yS 1 1 (aD b2) 3 (vi (i64.wrap (x7 + r_9))) [vi (i64.wrap (x7 + r_9))] (x6.toNat * 1) ((by_.set x6.toNat (i64.wrap (x7 + r_9))).flatMap encI) hS41 K0 rfl rfl rfl rfl rfl rfl rfl (gi_fit0 encI_len hx7) (gi_set encI_len hx7 (i64.wrap (x7 + r_9)) rfl)) ?_ ?_
              ·rintro _ w_27 ⟨rfl, hS42⟩
               refine ⟨(hS42.se [0, 2, 3, 4, 5]), ?_⟩
               refine ra_done (by kernel_rfl) ?_
               exact ⟨(fc (hf.g 2 0) (fc (hf.g 4 1) (fc (hf.g 5 2) (fc (hf.g 6 3) (fc (hf.g 25 4) (fc (hf.g 26 5) (fc (hf.g 27 6) fn_))))))), (hS42.sel [0, 1, 2, 3, 4] rfl rfl)⟩
              exact aN
             exact aN
            exact aN
           exact aN
          refine rC 49 11 rfl (yC [vi x.Kind] K98 (c_spec_l13Coef x.Kind _  (hS38.inn0 [] rfl) hc7)) ?_ ?_
          ·rintro _ w_28 ⟨rfl, hd9⟩
           have hS43 := hS38.out00 hd9
           refine ⟨(hS43.se [0, 2, 3, 4, 5]), ?_⟩
           refine rA [7] ?_
           refine ra_y 45 (i := 7) (v := pt (aD b2) (x6.toNat * 1)) rfl rfl rfl (Y_index (B := aD b2) (m := (shlK .i64 1 (IntKind.u64.wrap c.Qubits)).toNat) (c := (shlK .i64 1 (IntKind.u64.wrap c.Qubits)).toNat) (k := .i64) (i := x6) K2 K0 rfl rfl rfl (gi_isSome encI_len rfl (hS43.c 1) hx7) (getI_nn hx7) (getI_ltI hx7 hl)) (hS43.se [0, 2, 3, 4, 5]) ?_ ?_
           ·skip
            refine rA [8] ?_
            refine ra_y 46 (i := 8) (v := vi x7) rfl rfl rfl (yl (aD b2) (x6.toNat * 1) (by_.flatMap encI) (vi x7) K1 (hS43.c 1) rfl rfl (gi_at0 encI_len hx7 rfl)) (hS43.se [0, 2, 3, 4, 5]) ?_ ?_
            ·skip
             refine rq 12 50 (v := vi (i64.wrap (x7 + r_9))) rfl (hS43.se [0, 2, 3, 4, 5]) (fun w' hw' => (yP x7 r_9)) ?_
             refine rA [13] ?_
             refine ra_y 51 (i := 13) (v := pt (aD b2) (x6.toNat * 1)) rfl rfl rfl (Y_index (B := aD b2) (m := (shlK .i64 1 (IntKind.u64.wrap c.Qubits)).toNat) (c := (shlK .i64 1 (IntKind.u64.wrap c.Qubits)).toNat) (k := .i64) (i := x6) K2 K0 rfl rfl rfl (gi_isSome encI_len rfl (hS43.c 1) hx7) (getI_nn hx7) (getI_ltI hx7 hl)) (hS43.se [0, 2, 3, 4, 5]) ?_ ?_
             ·skip
              refine rA [14] ?_
              refine rZ 14 rfl (yS 1 1 (aD b2) 3 (vi (i64.wrap (x7 + r_9))) [vi (i64.wrap (x7 + r_9))] (x6.toNat * 1) ((by_.set x6.toNat (i64.wrap (x7 + r_9))).flatMap encI) hS43 K0 rfl rfl rfl rfl rfl rfl rfl (gi_fit0 encI_len hx7) (gi_set encI_len hx7 (i64.wrap (x7 + r_9)) rfl)) ?_ ?_
              ·rintro _ w_29 ⟨rfl, hS44⟩
               refine ⟨(hS44.se [0, 2, 3, 4, 5]), ?_⟩
               refine ra_done (by kernel_rfl) ?_
               exact ⟨(fc (hf.g 2 0) (fc (hf.g 4 1) (fc (hf.g 5 2) (fc (hf.g 6 3) (fc (hf.g 25 4) (fc (hf.g 26 5) (fc (hf.g 27 6) fn_))))))), (hS44.sel [0, 1, 2, 3, 4] rfl rfl)⟩
              exact aN
             exact aN
            exact aN
           exact aN
          exact aN
         rintro f w ⟨hf2, hS37⟩
         exact ⟨(by_.set x6.toNat (i64.wrap (x7 + r_9))), Phase, Rows, B4, c5, (sI hF14), (fc (hf2.g 2 0) (fc (hf2.g 4 1) (fc (hf2.g 5 2) (fc (hf2.g 6 3) (fc (hf2.g 25 4) (fc (hf2.g 26 5) (fc (hf2.g 27 6) fn_))))))), (set_len _ _ _ hl), (hS37.sel [0, 1, 2, 3, 4] rfl rfl)⟩
   rintro f w ⟨by_1, Phase1, Rows1, B5, c6, rfl, hf1, hl1, hS14⟩
   refine cr ?_
   refine sQ 127 (yP (i : Int) 1 rfl (hf1.g 27 6)) <| sQ 27 (ym (vi (i64.wrap ((i : Int) + 1)))) (rn ?_)
   obtain rfl := sI hF4
   exact ⟨K7, Nat.lt_succ_self _, i + 1, by_1, Phase1, Rows1, B5, c6, (fc (hf1.g 2 0) (fc (hf1.g 4 1) (fc (hf1.g 5 2) (fc (hf1.g 6 3) (fc (hf1.g 25 4) (fc (hf1.g 26 5) (fc (congrArg (Value.int .i64) (wr_succ hlt1 hN)) fn_))))))), hl1, (hS14.sel [0, 1, 2, 3, 4] rfl rfl), (by omega), hL1⟩
  ·skip
   obtain rfl : k_ = 0 := by have h := of_decide_eq_false hlt; omega
   refine cw_exit rfl ?_
   obtain rfl := sI hL
   refine cq (cr ?_)
   refine sQ 128 (ym (.slice (aD b2) ((shlK .i64 1 (IntKind.u64.wrap c.Qubits)).toNat) ((shlK .i64 1 (IntKind.u64.wrap c.Qubits)).toNat)) rfl (hf.g 4 1)) ?_
   obtain ⟨r_10, hc8, hF3⟩ := bI hF3
   refine sc 129 rfl rfl (yC [.slice (aD b2) ((shlK .i64 1 (IntKind.u64.wrap c.Qubits)).toNat) ((shlK .i64 1 (IntKind.u64.wrap c.Qubits)).toNat)] k_call_117 (c_spec_l13List by_ (aD b2) ((shlK .i64 1 (IntKind.u64.wrap c.Qubits)).toNat) ((shlK .i64 1 (IntKind.u64.wrap c.Qubits)).toNat) _ hl (hS13.inn0 [(false, 1)] rfl) hc8)) ?_
   rintro _ w_30 ⟨B10, c11, rfl, hd10⟩
   have hS45 := hS13.out0 hd10
   have hS45 : ST w0 [] _ [⟨aD b1, 62, [vi 0, vi 0, .slice none 0 0, .slice none 0 0], 4⟩, ⟨aD b2, 3, (by_.flatMap encI), ((shlK .i64 1 (IntKind.u64.wrap c.Qubits)).toNat) * 1⟩, ⟨aD b3, 62, [vi c.Qubits, vi Phase, .slice none 0 0, .slice none 0 0], 4⟩, ⟨aD b4, 60, [.slice B4 Rows.length c5], 1⟩, ⟨B4, 3, (Rows.flatMap encI), c5 * 1⟩, ⟨B10, 157, (r_10.flatMap enc_Term), c11 * 2⟩] [⟨B, (c.Gates.flatMap eN0)⟩] := hS45
   refine sQ 130 (yd (aD b3) 0 0 K71 K62 rfl (hf.g 5 2)) ?_
   refine s0 (yS 2 1 (aD b3) 62 (.slice B10 r_10.length c11) [.slice B10 r_10.length c11] 2 [vi c.Qubits, vi Phase, .slice B10 r_10.length c11, .slice none 0 0] hS45 K62) ?_
   rintro _ w_31 ⟨rfl, hS46⟩
   refine rn (cq (cr ?_))
   refine sQ 131 (yb (aD b4) 0 [.slice B4 Rows.length c5] K51 K19 (hS46.c 3) rfl (hf.g 6 3)) <| sQ 132 (yd (aD b3) 0 0 K66 K19 rfl (hf.g 5 2)) ?_
   refine s0 (yS 2 1 (aD b3) 62 (.agg #[.slice B4 Rows.length c5]) [.slice B4 Rows.length c5] 3 [vi c.Qubits, vi Phase, .slice B10 r_10.length c11, .slice B4 Rows.length c5] hS46 K19) ?_
   rintro _ w_32 ⟨rfl, hS47⟩
   refine rn (cq (cr ?_))
   refine sQ 133 (yb (aD b3) 0 [vi c.Qubits, vi Phase, .slice B10 r_10.length c11, .slice B4 Rows.length c5] K47 K20 (hS47.c 2) rfl (hf.g 5 2)) ?_
   refine s0 (yT 0 4 (aD b1) 62 (.agg #[vi c.Qubits, vi Phase, .slice B10 r_10.length c11, .slice B4 Rows.length c5]) [vi c.Qubits, vi Phase, .slice B10 r_10.length c11, .slice B4 Rows.length c5] 0 hS47 K20 rfl (hf.g 2 0)) ?_
   rintro _ w_33 ⟨rfl, hS48⟩
   refine sQ 3 (yg (.bool true)) (rn (ct_ ?_))
   obtain ⟨rfl, rfl⟩ := pr2 (sI hF3)
   exact ret2 Tryz.results38 (v1 := .agg #[vi c.Qubits, vi Phase, .slice B10 r_10.length c11, .slice B4 Rows.length c5]) (resAt_cellA (B := aD b1) (i := 0) (cs := [vi c.Qubits, vi Phase, .slice B10 r_10.length c11, .slice B4 Rows.length c5]) (vs := [vi c.Qubits, vi Phase, .slice B10 r_10.length c11, .slice B4 Rows.length c5]) (hf.g 2 0) K47 K20 (hS48.c 0) rfl rfl) (v2 := .bool true) (resAt_tmp rfl) ⟨B10, c11, B4, c5, rfl, (hS48.sN [5, 4])⟩

theorem c_laws_qInts (a : List Int) (b : List Int) (B : Option Addr) (c n : Nat) (B1 : Option Addr) (c1 n1 : Nat) (w0 : World) (hn : a.length = n) (hn1 : b.length = n1) (hS : ST w0 [] w0 [] [⟨B, (a.flatMap encI)⟩, ⟨B1, (b.flatMap encI)⟩]) {r_ : Bool} (hF : F_laws_qInts a b = some r_) :
  CV Tryz.prog 10 #[.slice B n c, .slice B1 n1 c1] w0 (fun v w' => v = .bool r_ ∧ ST w0 [] w' [] []) := by
 subst hn
 subst hn1
 unfold F_laws_qInts at hF
 refine cv_of_cw 26 Tryz.func10 rfl Tryz.ntmps10 rfl ?_
 refine cq (cr ?_)
 refine sQ 4 (yg (.bool false)) (rn (cq (cq (cr ?_))))
 refine sQ 6 (ym (.slice B a.length c)) <| sQ 7 (Y_len (B := B) (m := a.length) (c := c) K2 rfl rfl) <| sQ 8 (ym (.slice B1 b.length c1)) <| sQ 9 (Y_len (B := B1) (m := b.length) (c := c1) K2 rfl rfl) <| sQ 10 (Y_ne (k := .i64) (a := (a.length : Int)) (b := (b.length : Int)) rfl rfl rfl) (rn ?_)
 refine cw_cond (b := ((a.length : Int) != (b.length : Int))) rfl (fun hb => ?_) (fun hb => ?_)
 ·skip
  have hF1 := ct hF hb
  refine cq (cr ?_)
  refine sQ 4 (yg (.bool false)) (rn (ct_ ?_))
  obtain rfl := sI hF1
  exact ret1 Tryz.results10 (v1 := .bool false) (resAt_tmp rfl) ⟨rfl, (hS.sN [])⟩
 ·skip
  have hF2 := cf' hF hb
  refine cw_skip (cq (cq (cr ?_)))
  refine sQ 11 (ym (.slice B a.length c)) <| sQ 12 (Y_len (B := B) (m := a.length) (c := c) K2 rfl rfl) <| sQ 13 (ym (vi 0)) (rn ?_)
  obtain ⟨hN, hF2⟩ := chk_inv hF2
  obtain ⟨z, hz, hF3⟩ := bI hF2
  refine cw_block ?_
  refine cw_loop (fun k f w => ∃ (i : Nat), FF f [(0, .slice B a.length c), (1, .slice B1 b.length c1), (12, vi (a.length : Int)), (13, vi (i : Int))] ∧ ST w0 [] w [] [⟨B, (a.flatMap encI)⟩, ⟨B1, (b.flatMap encI)⟩] ∧ i + k = a.length ∧ forX (F_laws_qInts_l1 a b) k i () = some z) a.length ⟨0, (fc rfl (fc rfl (fc rfl (fc rfl fn_)))), (hS.sel [] rfl rfl), Nat.zero_add _, hz⟩ ?_
  rintro k_ f w ⟨i, hf, hS1, hik, hL⟩
  refine cq (cr ?_)
  refine sQ 14 (yL (i : Int) (a.length : Int) rfl (hf.g 13 3) (hf.g 12 2)) (rn (cq ?_))
  refine cw_cond (b := (decide ((i : Int) < (a.length : Int)))) rfl (fun hlt => ?_) (fun hlt => ?_)
  ·skip
   have hlt1 : i < a.length := by have h := of_decide_eq_true hlt; omega
   obtain ⟨K7, rfl⟩ : ∃ k2, k_ = k2 + 1 := ⟨k_ - 1, by omega⟩
   obtain ⟨y, hb1, hL1⟩ := forX_go hL
   unfold F_laws_qInts_l1 at hb1
   refine cw_skip (cq (cw_block (cq (cr ?_))))
   refine sQ 15 (ym (vi (i : Int)) rfl (hf.g 13 3)) <| sQ 5 (yg (vi (i : Int))) (rn (cq ?_))
   obtain ⟨x, hx, hb1⟩ := bI hb1
   obtain ⟨x1, hx1, hb1⟩ := bI hb1
   refine ra_start (hS1.se []).fn (by kernel_rfl) ?_
   have hS2 := hS1.drew
   refine rq 0 16 (v := .slice B a.length c) rfl (hS2.se []) (fun w' hw' => (ym (.slice B a.length c) rfl (hf.g 0 0))) ?_
   refine rq 1 17 (v := vi (i : Int)) rfl (hS2.se []) (fun w' hw' => (ym (vi (i : Int)))) ?_
   refine rq 2 18 (v := pt B ((i : Int).toNat * 1)) rfl (hS2.se []) (fun w' hw' => (Y_index (B := B) (m := a.length) (c := c) (k := .i64) (i := (i : Int)) K2 K0 rfl rfl rfl (gi_isSome encI_len rfl (ST.rf hw' (i := 0) rfl) hx) (getI_nn hx) (getI_ltI hx rfl))) ?_
   refine rq 3 19 (v := vi x) rfl (hS2.se []) (fun w' hw' => (yl B ((i : Int).toNat * 1) (a.flatMap encI) (vi x) K1 (ST.rf hw' (i := 0) rfl) rfl rfl (gi_at0 encI_len hx rfl))) ?_
   refine rq 4 20 (v := .slice B1 b.length c1) rfl (hS2.se []) (fun w' hw' => (ym (.slice B1 b.length c1) rfl (hf.g 1 1))) ?_
   refine rq 5 21 (v := vi (i : Int)) rfl (hS2.se []) (fun w' hw' => (ym (vi (i : Int)))) ?_
   refine rq 6 22 (v := pt B1 ((i : Int).toNat * 1)) rfl (hS2.se []) (fun w' hw' => (Y_index (B := B1) (m := b.length) (c := c1) (k := .i64) (i := (i : Int)) K2 K0 rfl rfl rfl (gi_isSome encI_len rfl (ST.rf hw' (i := 1) rfl) hx1) (getI_nn hx1) (getI_ltI hx1 rfl))) ?_
   refine rq 7 23 (v := vi x1) rfl (hS2.se []) (fun w' hw' => (yl B1 ((i : Int).toNat * 1) (b.flatMap encI) (vi x1) K1 (ST.rf hw' (i := 1) rfl) rfl rfl (gi_at0 encI_len hx1 rfl))) ?_
   refine rq 8 24 (v := .bool (x != x1)) rfl (hS2.se []) (fun w' hw' => (Y_ne (k := .i64) (a := x) (b := x1) rfl rfl rfl)) ?_
   refine ra_done (by kernel_rfl) ?_
   refine cw_cond (b := (x != x1)) rfl (fun hb2 => ?_) (fun hb2 => ?_)
   ·skip
    have hF4 := ct hb1 hb2
    refine cq (cr ?_)
    refine sQ 4 (yg (.bool false)) (rn (ct_ ?_))
    obtain rfl := sI hF4
    obtain rfl := sI hL1
    obtain rfl := sI hF3
    exact ret1 Tryz.results10 (v1 := .bool false) (resAt_tmp rfl) ⟨rfl, (hS2.sN [])⟩
   ·skip
    have hF5 := cf' hb1 hb2
    refine cw_skip (cr ?_)
    refine sQ 25 (yP (i : Int) 1 rfl (hf.g 13 3)) <| sQ 13 (ym (vi (i64.wrap ((i : Int) + 1)))) (rn ?_)
    obtain rfl := sI hF5
    exact ⟨K7, Nat.lt_succ_self _, i + 1, (fc (hf.g 0 0) (fc (hf.g 1 1) (fc (hf.g 12 2) (fc (congrArg (Value.int .i64) (wr_succ hlt1 hN)) fn_)))), (hS2.sel [] rfl rfl), (by omega), hL1⟩
  ·skip
   obtain rfl : k_ = 0 := by have h := of_decide_eq_false hlt; omega
   refine cw_exit rfl ?_
   obtain rfl := sI hL
   refine cq (cr ?_)
   refine sQ 4 (yg (.bool true)) (rn (ct_ ?_))
   obtain rfl := sI hF3
   exact ret1 Tryz.results10 (v1 := .bool true) (resAt_tmp rfl) ⟨rfl, (hS1.sN [])⟩

theorem c_laws_qTerms (a : List TTerm) (b : List TTerm) (B : Option Addr) (c n : Nat) (B1 : Option Addr) (c1 n1 : Nat) (w0 : World) (hn : a.length = n) (hn1 : b.length = n1) (hS : ST w0 [] w0 [] [⟨B, (a.flatMap enc_Term)⟩, ⟨B1, (b.flatMap enc_Term)⟩]) {r_ : Bool} (hF : F_laws_qTerms a b = some r_) :
  CV Tryz.prog 33 #[.slice B n c, .slice B1 n1 c1] w0 (fun v w' => v = .bool r_ ∧ ST w0 [] w' [] []) := by
 subst hn
 subst hn1
 unfold F_laws_qTerms at hF
 refine cv_of_cw 26 Tryz.func33 rfl Tryz.ntmps33 rfl ?_
 refine cq (cr ?_)
 refine sQ 4 (yg (.bool false)) (rn (cq (cq (cr ?_))))
 refine sQ 6 (ym (.slice B a.length c)) <| sQ 7 (Y_len (B := B) (m := a.length) (c := c) K40 rfl rfl) <| sQ 8 (ym (.slice B1 b.length c1)) <| sQ 9 (Y_len (B := B1) (m := b.length) (c := c1) K40 rfl rfl) <| sQ 10 (Y_ne (k := .i64) (a := (a.length : Int)) (b := (b.length : Int)) rfl rfl rfl) (rn ?_)
 refine cw_cond (b := ((a.length : Int) != (b.length : Int))) rfl (fun hb => ?_) (fun hb => ?_)
 ·skip
  have hF1 := ct hF hb
  refine cq (cr ?_)
  refine sQ 4 (yg (.bool false)) (rn (ct_ ?_))
  obtain rfl := sI hF1
  exact ret1 Tryz.results33 (v1 := .bool false) (resAt_tmp rfl) ⟨rfl, (hS.sN [])⟩
 ·skip
  have hF2 := cf' hF hb
  refine cw_skip (cq (cq (cr ?_)))
  refine sQ 11 (ym (.slice B a.length c)) <| sQ 12 (Y_len (B := B) (m := a.length) (c := c) K40 rfl rfl) <| sQ 13 (ym (vi 0)) (rn ?_)
  obtain ⟨hN, hF2⟩ := chk_inv hF2
  obtain ⟨z, hz, hF3⟩ := bI hF2
  refine cw_block ?_
  refine cw_loop (fun k f w => ∃ (i : Nat), FF f [(0, .slice B a.length c), (1, .slice B1 b.length c1), (12, vi (a.length : Int)), (13, vi (i : Int))] ∧ ST w0 [] w [] [⟨B, (a.flatMap enc_Term)⟩, ⟨B1, (b.flatMap enc_Term)⟩] ∧ i + k = a.length ∧ forX (F_laws_qTerms_l1 a b) k i () = some z) a.length ⟨0, (fc rfl (fc rfl (fc rfl (fc rfl fn_)))), (hS.sel [] rfl rfl), Nat.zero_add _, hz⟩ ?_
  rintro k_ f w ⟨i, hf, hS1, hik, hL⟩
  refine cq (cr ?_)
  refine sQ 14 (yL (i : Int) (a.length : Int) rfl (hf.g 13 3) (hf.g 12 2)) (rn (cq ?_))
  refine cw_cond (b := (decide ((i : Int) < (a.length : Int)))) rfl (fun hlt => ?_) (fun hlt => ?_)
  ·skip
   have hlt1 : i < a.length := by have h := of_decide_eq_true hlt; omega
   obtain ⟨K7, rfl⟩ : ∃ k2, k_ = k2 + 1 := ⟨k_ - 1, by omega⟩
   obtain ⟨y, hb1, hL1⟩ := forX_go hL
   unfold F_laws_qTerms_l1 at hb1
   refine cw_skip (cq (cw_block (cq (cr ?_))))
   refine sQ 15 (ym (vi (i : Int)) rfl (hf.g 13 3)) <| sQ 5 (yg (vi (i : Int))) (rn (cq ?_))
   obtain ⟨x, hx, hb1⟩ := bI hb1
   obtain ⟨x1, hx1, hb1⟩ := bI hb1
   refine ra_start (hS1.se []).fn (by kernel_rfl) ?_
   have hS2 := hS1.drew
   refine rq 0 16 (v := .slice B a.length c) rfl (hS2.se []) (fun w' hw' => (ym (.slice B a.length c) rfl (hf.g 0 0))) ?_
   refine rq 1 17 (v := vi (i : Int)) rfl (hS2.se []) (fun w' hw' => (ym (vi (i : Int)))) ?_
   refine rq 2 18 (v := pt B ((i : Int).toNat * 2)) rfl (hS2.se []) (fun w' hw' => (Y_index (B := B) (m := a.length) (c := c) (k := .i64) (i := (i : Int)) K40 K34 rfl rfl rfl (gi_isSome enc_Term_len rfl (ST.rf hw' (i := 0) rfl) hx) (getI_nn hx) (getI_ltI hx rfl))) ?_
   refine rq 3 19 (v := .agg #[vi x.Mask, vi x.Coef]) rfl (hS2.se []) (fun w' hw' => (ya B ((i : Int).toNat * 2) (a.flatMap enc_Term) [vi x.Mask, vi x.Coef] K86 K34 (ST.rf hw' (i := 0) rfl) rfl rfl (enc_Term_len x) (gi_seg enc_Term_len hx))) ?_
   refine rq 4 20 (v := .slice B1 b.length c1) rfl (hS2.se []) (fun w' hw' => (ym (.slice B1 b.length c1) rfl (hf.g 1 1))) ?_
   refine rq 5 21 (v := vi (i : Int)) rfl (hS2.se []) (fun w' hw' => (ym (vi (i : Int)))) ?_
   refine rq 6 22 (v := pt B1 ((i : Int).toNat * 2)) rfl (hS2.se []) (fun w' hw' => (Y_index (B := B1) (m := b.length) (c := c1) (k := .i64) (i := (i : Int)) K40 K34 rfl rfl rfl (gi_isSome enc_Term_len rfl (ST.rf hw' (i := 1) rfl) hx1) (getI_nn hx1) (getI_ltI hx1 rfl))) ?_
   refine rq 7 23 (v := .agg #[vi x1.Mask, vi x1.Coef]) rfl (hS2.se []) (fun w' hw' => (ya B1 ((i : Int).toNat * 2) (b.flatMap enc_Term) [vi x1.Mask, vi x1.Coef] K86 K34 (ST.rf hw' (i := 1) rfl) rfl rfl (enc_Term_len x1) (gi_seg enc_Term_len hx1))) ?_
   refine rq 8 24 (v := .bool (!((x.Mask == x1.Mask) && ((x.Coef == x1.Coef) && true)))) rfl (hS2.se []) (fun w' hw' => (Y_neA (xs := #[vi x.Mask, vi x.Coef]) (ys := #[vi x1.Mask, vi x1.Coef]) (b := ((x.Mask == x1.Mask) && ((x.Coef == x1.Coef) && true))) k_eg_157 rfl rfl rfl (eqr_struct (xs := [vi x.Mask, vi x.Coef]) (ys := [vi x1.Mask, vi x1.Coef]) k_st_157 k_ho_157 (pts_sc K1 rfl rfl (eqr_int K28) (pts_sc K1 rfl rfl (eqr_int K28) pts_nil))))) ?_
   refine ra_done (by kernel_rfl) ?_
   refine cw_cond (b := (!((x.Mask == x1.Mask) && ((x.Coef == x1.Coef) && true)))) rfl (fun hb2 => ?_) (fun hb2 => ?_)
   ·skip
    have hF4 := ct hb1 hb2
    refine cq (cr ?_)
    refine sQ 4 (yg (.bool false)) (rn (ct_ ?_))
    obtain rfl := sI hF4
    obtain rfl := sI hL1
    obtain rfl := sI hF3
    exact ret1 Tryz.results33 (v1 := .bool false) (resAt_tmp rfl) ⟨rfl, (hS2.sN [])⟩
   ·skip
    have hF5 := cf' hb1 hb2
    refine cw_skip (cr ?_)
    refine sQ 25 (yP (i : Int) 1 rfl (hf.g 13 3)) <| sQ 13 (ym (vi (i64.wrap ((i : Int) + 1)))) (rn ?_)
    obtain rfl := sI hF5
    exact ⟨K7, Nat.lt_succ_self _, i + 1, (fc (hf.g 0 0) (fc (hf.g 1 1) (fc (hf.g 12 2) (fc (congrArg (Value.int .i64) (wr_succ hlt1 hN)) fn_)))), (hS2.sel [] rfl rfl), (by omega), hL1⟩
  ·skip
   obtain rfl : k_ = 0 := by have h := of_decide_eq_false hlt; omega
   refine cw_exit rfl ?_
   obtain rfl := sI hL
   refine cq (cr ?_)
   refine sQ 4 (yg (.bool true)) (rn (ct_ ?_))
   obtain rfl := sI hF3
   exact ret1 Tryz.results33 (v1 := .bool true) (resAt_tmp rfl) ⟨rfl, (hS1.sN [])⟩

theorem c_laws_qPoly (p : TPhasePoly) (q : TPhasePoly) (B : Option Addr) (c n : Nat) (B1 : Option Addr) (c1 n1 : Nat) (B2 : Option Addr) (c2 n2 : Nat) (B3 : Option Addr) (c3 n3 : Nat) (w0 : World) (hn : p.Terms.length = n) (hn1 : p.Out.Rows.length = n1) (hn2 : q.Terms.length = n2) (hn3 : q.Out.Rows.length = n3) (hS : ST w0 [] w0 [] [⟨B, (p.Terms.flatMap enc_Term)⟩, ⟨B1, (p.Out.Rows.flatMap encI)⟩, ⟨B2, (q.Terms.flatMap enc_Term)⟩, ⟨B3, (q.Out.Rows.flatMap encI)⟩]) {r_ : Bool} (hF : F_laws_qPoly p q = some r_) :
  CV Tryz.prog 39 #[.agg #[vi p.Qubits, vi p.Phase, .slice B n c, .slice B1 n1 c1], .agg #[vi q.Qubits, vi q.Phase, .slice B2 n2 c2, .slice B3 n3 c3]] w0 (fun v w' => v = .bool r_ ∧ ST w0 [] w' [] []) := by
 subst hn
 subst hn1
 subst hn2
 subst hn3
 unfold F_laws_qPoly at hF
 refine cv_of_cw 33 Tryz.func39 rfl Tryz.ntmps39 rfl ?_
 refine cq (cr ?_)
 refine sS 2 (yB 62 (.agg #[vi p.Qubits, vi p.Phase, .slice B p.Terms.length c, .slice B1 p.Out.Rows.length c1]) [vi p.Qubits, vi p.Phase, .slice B p.Terms.length c, .slice B1 p.Out.Rows.length c1] 4 hS) ?_
 rintro _ w_ ⟨b, rfl, hS1⟩
 refine sS 3 (yB 62 (.agg #[vi q.Qubits, vi q.Phase, .slice B2 q.Terms.length c2, .slice B3 q.Out.Rows.length c3]) [vi q.Qubits, vi q.Phase, .slice B2 q.Terms.length c2, .slice B3 q.Out.Rows.length c3] 4 hS1) ?_
 rintro _ w_1 ⟨b1, rfl, hS2⟩
 refine sQ 4 (yg (.bool false)) (rn (cq (cr ?_)))
 refine sQ 5 (yd (aD b) 0 0 K73 K0) <| sQ 6 (yl (aD b) 0 [vi p.Qubits, vi p.Phase, .slice B p.Terms.length c, .slice B1 p.Out.Rows.length c1] (vi p.Qubits) K1 (hS2.c 0)) <| sQ 7 (yd (aD b1) 0 0 K73 K0) <| sQ 8 (yl (aD b1) 0 [vi q.Qubits, vi q.Phase, .slice B2 q.Terms.length c2, .slice B3 q.Out.Rows.length c3] (vi q.Qubits) K1 (hS2.c 1)) <| sQ 9 (yE p.Qubits q.Qubits) <| sQ 10 (ym (.bool (p.Qubits == q.Qubits))) ?_
 refine sgq 11 (B := (p.Qubits == q.Qubits)) (v := pt (aD b) 1) rfl rfl (uT_ 10) (fun hg => (yd (aD b) 0 0 K61 K0)) ?_
 refine sgq 12 (B := (p.Qubits == q.Qubits)) (v := vi p.Phase) rfl rfl (uT_ 10) (fun hg1 => (yl (aD b) 1 [vi p.Qubits, vi p.Phase, .slice B p.Terms.length c, .slice B1 p.Out.Rows.length c1] (vi p.Phase) K1 (hS2.c 0) rfl (gv_of (v := pt (aD b) 1) hg1))) ?_
 refine sgq 13 (B := (p.Qubits == q.Qubits)) (v := pt (aD b1) 1) rfl rfl (uT_ 10) (fun hg2 => (yd (aD b1) 0 0 K61 K0)) ?_
 refine sgq 14 (B := (p.Qubits == q.Qubits)) (v := vi q.Phase) rfl rfl (uT_ 10) (fun hg3 => (yl (aD b1) 1 [vi q.Qubits, vi q.Phase, .slice B2 q.Terms.length c2, .slice B3 q.Out.Rows.length c3] (vi q.Phase) K1 (hS2.c 1) rfl (gv_of (v := pt (aD b1) 1) hg3))) ?_
 refine sgq 15 (B := (p.Qubits == q.Qubits)) (v := .bool (p.Phase == q.Phase)) rfl rfl (uT_ 10) (fun hg4 => (yE p.Phase q.Phase rfl (gv_of (v := vi p.Phase) hg4) (gv_of (v := vi q.Phase) hg4))) ?_
 refine sQ 16 (Y_and (b := (p.Qubits == q.Qubits)) (z := (p.Phase == q.Phase)) rfl rfl rfl rfl) <| sQ 17 (ym (.bool ((p.Qubits == q.Qubits) && (p.Phase == q.Phase)))) ?_
 refine sgq 18 (B := ((p.Qubits == q.Qubits) && (p.Phase == q.Phase))) (v := pt (aD b) 2) rfl rfl (uT_ 17) (fun hg5 => (yd (aD b) 0 0 K71 K62)) ?_
 refine sgq 19 (B := ((p.Qubits == q.Qubits) && (p.Phase == q.Phase))) (v := .slice B p.Terms.length c) rfl rfl (uT_ 17) (fun hg6 => (yl (aD b) 2 [vi p.Qubits, vi p.Phase, .slice B p.Terms.length c, .slice B1 p.Out.Rows.length c1] (.slice B p.Terms.length c) K87 (hS2.c 0) rfl (gv_of (v := pt (aD b) 2) hg6))) ?_
 refine sgq 20 (B := ((p.Qubits == q.Qubits) && (p.Phase == q.Phase))) (v := pt (aD b1) 2) rfl rfl (uT_ 17) (fun hg7 => (yd (aD b1) 0 0 K71 K62)) ?_
 refine sgq 21 (B := ((p.Qubits == q.Qubits) && (p.Phase == q.Phase))) (v := .slice B2 q.Terms.length c2) rfl rfl (uT_ 17) (fun hg8 => (yl (aD b1) 2 [vi q.Qubits, vi q.Phase, .slice B2 q.Terms.length c2, .slice B3 q.Out.Rows.length c3] (.slice B2 q.Terms.length c2) K87 (hS2.c 1) rfl (gv_of (v := pt (aD b1) 2) hg8))) ?_
 obtain ⟨r_1, hc, hF⟩ := bI hF
 refine sgc 22 (B := ((p.Qubits == q.Qubits) && (p.Phase == q.Phase))) (v := .bool r_1) (F := hS2.fn) rfl rfl (uT_ 17) hS2 (fun hg9 => (yC [.slice B p.Terms.length c, .slice B2 q.Terms.length c2] k_call_33 (CV.mono (c_laws_qTerms p.Terms q.Terms B c p.Terms.length B2 c2 q.Terms.length _ rfl rfl (hS2.inn0 [(true, 0), (true, 2)] rfl) (gb_inv hc hg9)) (by rintro _ _ ⟨rfl, h⟩; exact ⟨rfl, hS2.out00 h⟩)) rfl (mc (gv_of (v := .slice B p.Terms.length c) hg9) (mc (gv_of (v := .slice B2 q.Terms.length c2) hg9) mn)))) ?_
 rintro w_2 hS3
 refine sQ 23 (Y_and (b := ((p.Qubits == q.Qubits) && (p.Phase == q.Phase))) (z := r_1) rfl rfl rfl rfl) <| sQ 24 (ym (.bool (((p.Qubits == q.Qubits) && (p.Phase == q.Phase)) && r_1))) ?_
 refine sgq 25 (B := (((p.Qubits == q.Qubits) && (p.Phase == q.Phase)) && r_1)) (v := pt (aD b) 3) rfl rfl (uT_ 24) (fun hg10 => (yd (aD b) 0 0 K66 K19)) ?_
 refine sgq 26 (B := (((p.Qubits == q.Qubits) && (p.Phase == q.Phase)) && r_1)) (v := pt (aD b) 3) rfl rfl (uT_ 24) (fun hg11 => (yd (aD b) 3 0 K29 K14 rfl (gv_of (v := pt (aD b) 3) hg11))) ?_
 refine sgq 27 (B := (((p.Qubits == q.Qubits) && (p.Phase == q.Phase)) && r_1)) (v := .slice B1 p.Out.Rows.length c1) rfl rfl (uT_ 24) (fun hg12 => (yl (aD b) 3 [vi p.Qubits, vi p.Phase, .slice B p.Terms.length c, .slice B1 p.Out.Rows.length c1] (.slice B1 p.Out.Rows.length c1) K13 (hS3.c 0) rfl (gv_of (v := pt (aD b) 3) hg12))) ?_
 refine sgq 28 (B := (((p.Qubits == q.Qubits) && (p.Phase == q.Phase)) && r_1)) (v := pt (aD b1) 3) rfl rfl (uT_ 24) (fun hg13 => (yd (aD b1) 0 0 K66 K19)) ?_
 refine sgq 29 (B := (((p.Qubits == q.Qubits) && (p.Phase == q.Phase)) && r_1)) (v := pt (aD b1) 3) rfl rfl (uT_ 24) (fun hg14 => (yd (aD b1) 3 0 K29 K14 rfl (gv_of (v := pt (aD b1) 3) hg14))) ?_
 refine sgq 30 (B := (((p.Qubits == q.Qubits) && (p.Phase == q.Phase)) && r_1)) (v := .slice B3 q.Out.Rows.length c3) rfl rfl (uT_ 24) (fun hg15 => (yl (aD b1) 3 [vi q.Qubits, vi q.Phase, .slice B2 q.Terms.length c2, .slice B3 q.Out.Rows.length c3] (.slice B3 q.Out.Rows.length c3) K13 (hS3.c 1) rfl (gv_of (v := pt (aD b1) 3) hg15))) ?_
 obtain ⟨r_2, hc1, hF⟩ := bI hF
 refine sgc 31 (B := (((p.Qubits == q.Qubits) && (p.Phase == q.Phase)) && r_1)) (v := .bool r_2) (F := hS3.fn) rfl rfl (uT_ 24) hS3 (fun hg16 => (yC [.slice B1 p.Out.Rows.length c1, .slice B3 q.Out.Rows.length c3] k_call_10 (CV.mono (c_laws_qInts p.Out.Rows q.Out.Rows B1 c1 p.Out.Rows.length B3 c3 q.Out.Rows.length _ rfl rfl (hS3.inn0 [(true, 1), (true, 3)] rfl) (gb_inv hc1 hg16)) (by rintro _ _ ⟨rfl, h⟩; exact ⟨rfl, hS3.out00 h⟩)) rfl (mc (gv_of (v := .slice B1 p.Out.Rows.length c1) hg16) (mc (gv_of (v := .slice B3 q.Out.Rows.length c3) hg16) mn)))) ?_
 rintro w_3 hS4
 refine sQ 32 (Y_and (b := (((p.Qubits == q.Qubits) && (p.Phase == q.Phase)) && r_1)) (z := r_2) rfl rfl rfl rfl) <| sQ 4 (yg (.bool ((((p.Qubits == q.Qubits) && (p.Phase == q.Phase)) && r_1) && r_2))) (rn (ct_ ?_))
 obtain rfl := sI hF
 exact ret1 Tryz.results39 (v1 := .bool ((((p.Qubits == q.Qubits) && (p.Phase == q.Phase)) && r_1) && r_2)) (resAt_tmp rfl) ⟨rfl, (hS4.sN [])⟩

theorem c_impl_circuitIf (n : Int) (gates : List TGate) (B : Option Addr) (c n1 : Nat) (w0 : World) (hn : gates.length = n1) (hS : ST w0 [] w0 [] [⟨B, (gates.flatMap eN0)⟩]) {r_ : TCircuit} {r_1 : Bool} (hF : F_impl_circuitIf n gates = some (r_, r_1)) :
  CV Tryz.prog 84 #[vi n, .slice B n1 c] w0 (fun v w' => ∃ (B1 : Option Addr) (c1 : Nat), v = .tuple #[.agg #[vi r_.Qubits, .slice B1 r_.Gates.length c1], .bool r_1] ∧ ST w0 [] w' [⟨B1, 120, (r_.Gates.flatMap eN0), c1 * 3⟩] []) := by
 subst hn
 unfold F_impl_circuitIf at hF
 refine cv_of_cw 17 Tryz.func84 rfl Tryz.ntmps84 rfl ?_
 refine cq (cr ?_)
 refine sS 4 (yN [vi 0, .slice none 0 0] 2 hS K45) ?_
 rintro _ w_ ⟨b, rfl, hS1⟩
 refine sQ 5 (yg (.bool false)) (rn (cq (cr ?_)))
 refine sQ 7 (ym (vi n)) ?_
 refine sS 8 (Ys_bslice0 (s := 3) (e := 120) hS1 K5 K3 rfl) ?_
 rintro _ w_1 ⟨b1, rfl, hS2⟩
 refine sQ 9 (ym (.slice B gates.length c)) ?_
 obtain ⟨hap, hF⟩ := chk_inv hF
 refine sS 10 (Ys_append (s := 3) (by' := 24) (i := 1) (nn := 0) (c := 0) (k := gates.length) (len := gates.length) (B := aD b1) (xs := (gates.flatMap eN0)) (cs' := (gates.flatMap eN0)) hS2 K5 K3 K27 K9 rfl (by decide) rfl rfl rfl rfl (fm_lenn (l := []) eN1 rfl) rfl (hS2.rf (i := 0) rfl) (fm_lenn (l := gates) eN1 rfl) (fm_one' (enc := eN0) enc_Gate_one gates) (by have := hap; omega) (by have := hap; simp only [maxLen]; omega) rfl (app_len0 (l := gates) rfl)) ?_
 rintro _ w_2 ⟨B2, c2, rfl, hS3⟩
 refine sQ 11 (Y_buildS (zs := [vi 0, .slice none 0 0]) (vs := [(0, vi n), (1, .slice B2 gates.length c2)]) (cs := [vi n, .slice B2 gates.length c2]) K96 K45 rfl (mpc rfl (mpc rfl mpn)) rfl) ?_
 refine sS 6 (yN [vi 0, .slice none 0 0] 2 hS3 K45) ?_
 rintro _ w_3 ⟨b2, rfl, hS4⟩
 refine s0 (yT 2 2 (aD b2) 28 (.agg #[vi n, .slice B2 gates.length c2]) [vi n, .slice B2 gates.length c2] 0 hS4 K11) ?_
 rintro _ w_4 ⟨rfl, hS5⟩
 refine rn (cq (cq (cr ?_)))
 refine sQ 12 (yb (aD b2) 0 [vi n, .slice B2 gates.length c2] K22 K11 (hS5.c 2)) ?_
 obtain ⟨r_2, hc, hF⟩ := bI hF
 refine sc 13 rfl rfl (yC [.agg #[vi n, .slice B2 gates.length c2]] K93 (c_impl_IsValidCircuit (TCircuit.mk n gates) B2 c2 gates.length _ rfl (hS5.inn0 [(false, 1)] rfl) hc)) ?_
 rintro _ w_5 ⟨rfl, hd⟩
 have hS6 := hS5.out00 hd
 refine sQ 14 (Y_not (p := r_2) rfl rfl) (rn ?_)
 refine cw_cond (b := (!r_2)) rfl (fun hb => ?_) (fun hb => ?_)
 ·skip
  have hF1 := ct hF hb
  refine cq (cr ?_)
  refine sQ 15 (Y_buildS (zs := [vi 0, .slice none 0 0]) (vs := []) (cs := [vi 0, .slice none 0 0]) K96 K45 rfl mpn rfl) ?_
  refine s0 (yT 0 2 (aD b) 28 (.agg #[vi 0, .slice none 0 0]) [vi 0, .slice none 0 0] 0 hS6 K11) ?_
  rintro _ w_6 ⟨rfl, hS7⟩
  refine sQ 5 (yg (.bool false)) (rn (ct_ ?_))
  have hS8 := hS7.addNil 120
  obtain ⟨rfl, rfl⟩ := pr2 (sI hF1)
  exact ret2 Tryz.results84 (v1 := .agg #[vi 0, .slice none 0 0]) (resAt_cellA (B := aD b) (i := 0) (cs := [vi 0, .slice none 0 0]) (vs := [vi 0, .slice none 0 0]) rfl K22 K11 (hS8.c 0) rfl rfl) (v2 := .bool false) (resAt_tmp rfl) ⟨none, 0, rfl, (hS8.sN [3])⟩
 ·skip
  have hF2 := cf' hF hb
  refine cw_skip (cq (cr ?_))
  refine sQ 16 (yb (aD b2) 0 [vi n, .slice B2 gates.length c2] K22 K11 (hS6.c 2)) ?_
  refine s0 (yT 0 2 (aD b) 28 (.agg #[vi n, .slice B2 gates.length c2]) [vi n, .slice B2 gates.length c2] 0 hS6 K11) ?_
  rintro _ w_7 ⟨rfl, hS9⟩
  refine sQ 5 (yg (.bool true)) (rn (ct_ ?_))
  obtain ⟨rfl, rfl⟩ := pr2 (sI hF2)
  exact ret2 Tryz.results84 (v1 := .agg #[vi n, .slice B2 gates.length c2]) (resAt_cellA (B := aD b) (i := 0) (cs := [vi n, .slice B2 gates.length c2]) (vs := [vi n, .slice B2 gates.length c2]) rfl K22 K11 (hS9.c 0) rfl rfl) (v2 := .bool true) (resAt_tmp rfl) ⟨B2, c2, rfl, (hS9.sN [1])⟩

theorem c_impl_areTerms (n : Int) (terms : List TTerm) (B : Option Addr) (c n1 : Nat) (w0 : World) (hn : terms.length = n1) (hS : ST w0 [] w0 [] [⟨B, (terms.flatMap enc_Term)⟩]) {r_ : Bool} (hF : F_impl_areTerms n terms = some r_) :
  CV Tryz.prog 120 #[vi n, .slice B n1 c] w0 (fun v w' => v = .bool r_ ∧ ST w0 [] w' [] []) := by
 subst hn
 unfold F_impl_areTerms at hF
 refine cv_of_cw 43 Tryz.func120 rfl Tryz.ntmps120 rfl ?_
 refine cq (cr ?_)
 refine sQ 4 (yg (.bool false)) (rn (cq (cq (cr ?_))))
 refine sQ 7 (ym (.slice B terms.length c)) <| sQ 8 (Y_len (B := B) (m := terms.length) (c := c) K40 rfl rfl) <| sQ 9 (ym (vi 0)) (rn ?_)
 obtain ⟨hN, hF⟩ := chk_inv hF
 obtain ⟨z, hz, hF1⟩ := bI hF
 refine cw_block ?_
 refine cw_loop (fun k f w => ∃ (i : Nat), FF f [(0, vi n), (1, .slice B terms.length c), (7, .slice B terms.length c), (8, vi (terms.length : Int)), (9, vi (i : Int))] ∧ ST w0 [] w [] [⟨B, (terms.flatMap enc_Term)⟩] ∧ i + k = terms.length ∧ forX (F_impl_areTerms_l1 terms n) k i () = some z) terms.length ⟨0, (fc rfl (fc rfl (fc rfl (fc rfl (fc rfl fn_))))), (hS.sel [] rfl rfl), Nat.zero_add _, hz⟩ ?_
 rintro k_ f w ⟨i, hf, hS1, hik, hL⟩
 refine cq (cr ?_)
 refine sQ 10 (yL (i : Int) (terms.length : Int) rfl (hf.g 9 4) (hf.g 8 3)) (rn (cq ?_))
 refine cw_cond (b := (decide ((i : Int) < (terms.length : Int)))) rfl (fun hlt => ?_) (fun hlt => ?_)
 ·skip
  have hlt1 : i < terms.length := by have h := of_decide_eq_true hlt; omega
  obtain ⟨K7, rfl⟩ : ∃ k2, k_ = k2 + 1 := ⟨k_ - 1, by omega⟩
  obtain ⟨y, hb, hL1⟩ := forX_go hL
  unfold F_impl_areTerms_l1 at hb
  refine cw_skip (cq (cw_block (cq (cr ?_))))
  refine sQ 11 (ym (vi (i : Int)) rfl (hf.g 9 4)) ?_
  obtain ⟨x, hx, hb⟩ := bI hb
  refine sQ 12 (Y_index (B := B) (m := terms.length) (c := c) (k := .i64) (i := (i : Int)) K40 K34 rfl (hf.g 7 2) (hf.g 9 4) (gi_isSome enc_Term_len rfl (hS1.rf (i := 0) rfl) hx) (getI_nn hx) (getI_ltI hx rfl)) <| sQ 13 (ya B ((i : Int).toNat * 2) (terms.flatMap enc_Term) [vi x.Mask, vi x.Coef] K86 K34 (hS1.rf (i := 0) rfl) rfl rfl (enc_Term_len x) (gi_seg enc_Term_len hx)) ?_
  refine sS 6 (yN [vi 0, vi 0] 2 hS1 K70) ?_
  rintro _ w_ ⟨b, rfl, hS2⟩
  refine sQ 5 (yg (vi (i : Int))) ?_
  refine s0 (yT 0 2 (aD b) 157 (.agg #[vi x.Mask, vi x.Coef]) [vi x.Mask, vi x.Coef] 0 hS2 K34) ?_
  rintro _ w_1 ⟨rfl, hS3⟩
  refine rn (cq ?_)
  obtain ⟨hsh, hb⟩ := chk_inv hb
  obtain ⟨r_1, hc, hb⟩ := bI hb
  obtain ⟨r_2, hc1, hb⟩ := bI hb
  obtain ⟨x1, hx1, hb⟩ := bI hb
  refine ra_start (hS3.se [0]).fn (by kernel_rfl) ?_
  have hS6 := hS3.drew
  refine rq 0 14 (v := pt (aD b) 0) rfl (hS6.se [0]) (fun w' hw' => (yd (aD b) 0 0 K78 K0)) ?_
  refine rq 1 15 (v := vi x.Mask) rfl (hS6.se [0]) (fun w' hw' => (yl (aD b) 0 [vi x.Mask, vi x.Coef] (vi x.Mask) K1 (ST.cf hw' (i := 0) rfl))) ?_
  refine rq 2 16 (v := vi n) rfl (hS6.se [0]) (fun w' hw' => (ym (vi n) rfl (hf.g 0 0))) ?_
  refine rq 3 17 (v := vi (shlK .i64 1 n)) rfl (hS6.se [0]) (fun w' hw' => (Y_shl (k := .i64) (a := 1) (k' := .i64) (b := n) rfl rfl rfl hsh)) ?_
  refine rq 4 18 (v := vi (i64.wrap ((shlK .i64 1 n) - 1))) rfl (hS6.se [0]) (fun w' hw' => (yM (shlK .i64 1 n) 1)) ?_
  refine rA [5] ?_
  refine rC 19 5 rfl (yC [vi x.Mask, vi 1, vi (i64.wrap ((shlK .i64 1 n) - 1))] K30 (c_impl_within x.Mask 1 (i64.wrap ((shlK .i64 1 n) - 1)) _  (hS6.inn0 [] rfl) hc)) ?_ ?_
  ·rintro _ w_2 ⟨rfl, hd⟩
   have hS7 := hS6.out00 hd
   refine ⟨(hS7.se [0]), ?_⟩
   refine rq 6 20 (v := .bool (!r_1)) rfl (hS7.se [0]) (fun w' hw' => (Y_not (p := r_1) rfl rfl)) ?_
   refine rq 7 21 (v := .bool (!r_1)) rfl (hS7.se [0]) (fun w' hw' => (ym (.bool (!r_1)))) ?_
   refine ra_gq 8 22 (B := (!(!r_1))) (v := pt (aD b) 1) rfl rfl rfl (uF_ 21) (by kernel_rfl) (by kernel_rfl) (by kernel_rfl) (hS7.se [0]) (fun hg w' hw' => (yd (aD b) 0 0 K116 K0)) ?_
   refine ra_gq 9 23 (B := (!(!r_1))) (v := vi x.Coef) rfl rfl rfl (uF_ 21) (by kernel_rfl) (by kernel_rfl) (by kernel_rfl) (hS7.se [0]) (fun hg1 w' hw' => (yl (aD b) 1 [vi x.Mask, vi x.Coef] (vi x.Coef) K1 (ST.cf hw' (i := 0) rfl) rfl (gv_of (v := pt (aD b) 1) hg1))) ?_
   refine rA [10] ?_
   refine ra_gc 24 (i := 10) (B := (!(!r_1))) (v := .bool r_2) (F := hS7.fn) rfl rfl rfl (uF_ 21) hS7 (fun hg2 => (yC [vi x.Coef, vi 1, vi 7] K30 (CV.mono (c_impl_within x.Coef 1 7 _  (hS7.inn0 [] rfl) (gb_inv hc1 hg2)) (by rintro _ _ ⟨rfl, h⟩; exact ⟨rfl, hS7.out00 h⟩)) rfl (mc (gv_of (v := vi x.Coef) hg2) (mc rfl (mc rfl mn))))) ?_ ?_
   ·rintro w_3 hS8
    refine ⟨(hS8.se [0]), ?_⟩
    refine ra_gq 11 25 (B := (!(!r_1))) (v := .bool (!r_2)) rfl rfl rfl (uF_ 21) (by kernel_rfl) (by kernel_rfl) (by kernel_rfl) (hS8.se [0]) (fun hg3 w' hw' => (Y_not (p := r_2) rfl (gv_of (v := .bool r_2) hg3))) ?_
    refine rq 12 26 (v := .bool ((!r_1) || (!r_2))) rfl (hS8.se [0]) (fun w' hw' => (Y_or (b := (!r_1)) (z := (!r_2)) rfl rfl rfl rfl)) ?_
    refine rq 13 27 (v := .bool ((!r_1) || (!r_2))) rfl (hS8.se [0]) (fun w' hw' => (ym (.bool ((!r_1) || (!r_2))))) ?_
    refine ra_gq 14 28 (B := (!((!r_1) || (!r_2)))) (v := vi (i : Int)) rfl rfl rfl (uF_ 27) (by kernel_rfl) (by kernel_rfl) (by kernel_rfl) (hS8.se [0]) (fun hg4 w' hw' => (ym (vi (i : Int)))) ?_
    refine ra_gq 15 29 (B := (!((!r_1) || (!r_2)))) (v := .bool (decide (0 < (i : Int)))) rfl rfl rfl (uF_ 27) (by kernel_rfl) (by kernel_rfl) (by kernel_rfl) (hS8.se [0]) (fun hg5 w' hw' => (Y_gt (k := .i64) (a := (i : Int)) (b := 0) rfl (gv_of (v := vi (i : Int)) hg5) rfl)) ?_
    refine ra_gq 16 30 (B := (!((!r_1) || (!r_2)))) (v := .bool (decide (0 < (i : Int)))) rfl rfl rfl (uF_ 27) (by kernel_rfl) (by kernel_rfl) (by kernel_rfl) (hS8.se [0]) (fun hg6 w' hw' => (ym (.bool (decide (0 < (i : Int)))) rfl (gv_of (v := .bool (decide (0 < (i : Int)))) hg6))) ?_
    refine ra_gq 17 31 (B := ((!((!r_1) || (!r_2))) && (decide (0 < (i : Int))))) (v := .slice B terms.length c) rfl rfl rfl (wt_gt (gd_of (t := 30) (by kernel_rfl) rfl)) (by kernel_rfl) (by kernel_rfl) (by kernel_rfl) (hS8.se [0]) (fun hg7 w' hw' => (ym (.slice B terms.length c) rfl (hf.g 1 1))) ?_
    refine ra_gq 18 32 (B := ((!((!r_1) || (!r_2))) && (decide (0 < (i : Int))))) (v := vi (i : Int)) rfl rfl rfl (wt_gt (gd_of (t := 30) (by kernel_rfl) rfl)) (by kernel_rfl) (by kernel_rfl) (by kernel_rfl) (hS8.se [0]) (fun hg8 w' hw' => (ym (vi (i : Int)))) ?_
    refine ra_gq 19 33 (B := ((!((!r_1) || (!r_2))) && (decide (0 < (i : Int))))) (v := vi (i64.wrap ((i : Int) - 1))) rfl rfl rfl (wt_gt (gd_of (t := 30) (by kernel_rfl) rfl)) (by kernel_rfl) (by kernel_rfl) (by kernel_rfl) (hS8.se [0]) (fun hg9 w' hw' => (yM (i : Int) 1 rfl (gv_of (v := vi (i : Int)) hg9))) ?_
    refine ra_gq 20 34 (B := ((!((!r_1) || (!r_2))) && (decide (0 < (i : Int))))) (v := pt B ((i64.wrap ((i : Int) - 1)).toNat * 2)) rfl rfl rfl (wt_gt (gd_of (t := 30) (by kernel_rfl) rfl)) (by kernel_rfl) (by kernel_rfl) (by kernel_rfl) (hS8.se [0]) (fun hg10 w' hw' => (Y_index (B := B) (m := terms.length) (c := c) (k := .i64) (i := (i64.wrap ((i : Int) - 1))) K40 K34 rfl (gv_of (v := .slice B terms.length c) hg10) (gv_of (v := vi (i64.wrap ((i : Int) - 1))) hg10) (gi_isSome enc_Term_len rfl (ST.rf hw' (i := 0) rfl) (gb_inv hx1 hg10)) (getI_nn (gb_inv hx1 hg10)) (getI_ltI (gb_inv hx1 hg10) rfl))) ?_
    refine ra_gq 21 35 (B := ((!((!r_1) || (!r_2))) && (decide (0 < (i : Int))))) (v := pt B ((i64.wrap ((i : Int) - 1)).toNat * 2 + 0)) rfl rfl rfl (wt_gt (gd_of (t := 30) (by kernel_rfl) rfl)) (by kernel_rfl) (by kernel_rfl) (by kernel_rfl) (hS8.se [0]) (fun hg11 w' hw' => (yd B ((i64.wrap ((i : Int) - 1)).toNat * 2) 0 K78 K0 rfl (gv_of (v := pt B ((i64.wrap ((i : Int) - 1)).toNat * 2)) hg11))) ?_
    refine ra_gq 22 36 (B := ((!((!r_1) || (!r_2))) && (decide (0 < (i : Int))))) (v := vi x1.Mask) rfl rfl rfl (wt_gt (gd_of (t := 30) (by kernel_rfl) rfl)) (by kernel_rfl) (by kernel_rfl) (by kernel_rfl) (hS8.se [0]) (fun hg12 w' hw' => (yl B ((i64.wrap ((i : Int) - 1)).toNat * 2 + 0) (terms.flatMap enc_Term) (vi x1.Mask) K1 (ST.rf hw' (i := 0) rfl) rfl (gv_of (v := pt B ((i64.wrap ((i : Int) - 1)).toNat * 2 + 0)) hg12) (gi_at enc_Term_len (gb_inv hx1 hg12) rfl))) ?_
    refine ra_gq 23 37 (B := ((!((!r_1) || (!r_2))) && (decide (0 < (i : Int))))) (v := pt (aD b) 0) rfl rfl rfl (wt_gt (gd_of (t := 30) (by kernel_rfl) rfl)) (by kernel_rfl) (by kernel_rfl) (by kernel_rfl) (hS8.se [0]) (fun hg13 w' hw' => (yd (aD b) 0 0 K78 K0)) ?_
    refine ra_gq 24 38 (B := ((!((!r_1) || (!r_2))) && (decide (0 < (i : Int))))) (v := vi x.Mask) rfl rfl rfl (wt_gt (gd_of (t := 30) (by kernel_rfl) rfl)) (by kernel_rfl) (by kernel_rfl) (by kernel_rfl) (hS8.se [0]) (fun hg14 w' hw' => (yl (aD b) 0 [vi x.Mask, vi x.Coef] (vi x.Mask) K1 (ST.cf hw' (i := 0) rfl) rfl (gv_of (v := pt (aD b) 0) hg14))) ?_
    refine ra_gq 25 39 (B := ((!((!r_1) || (!r_2))) && (decide (0 < (i : Int))))) (v := .bool (decide (x.Mask ≤ x1.Mask))) rfl rfl rfl (wt_gt (gd_of (t := 30) (by kernel_rfl) rfl)) (by kernel_rfl) (by kernel_rfl) (by kernel_rfl) (hS8.se [0]) (fun hg15 w' hw' => (Y_ge (k := .i64) (a := x1.Mask) (b := x.Mask) rfl (gv_of (v := vi x1.Mask) hg15) (gv_of (v := vi x.Mask) hg15))) ?_
    refine ra_gq 26 40 (B := (!((!r_1) || (!r_2)))) (v := .bool ((decide (0 < (i : Int))) && (decide (x.Mask ≤ x1.Mask)))) rfl rfl rfl (uF_ 27) (by kernel_rfl) (by kernel_rfl) (by kernel_rfl) (hS8.se [0]) (fun hg16 w' hw' => (Y_and (b := (decide (0 < (i : Int)))) (z := (decide (x.Mask ≤ x1.Mask))) rfl (gv_of (v := .bool (decide (0 < (i : Int)))) hg16) (gv_and (B := (!((!r_1) || (!r_2)))) (C := (decide (0 < (i : Int)))) (v := .bool (decide (x.Mask ≤ x1.Mask))) hg16) rfl)) ?_
    refine rq 27 41 (v := .bool (((!r_1) || (!r_2)) || ((decide (0 < (i : Int))) && (decide (x.Mask ≤ x1.Mask))))) rfl (hS8.se [0]) (fun w' hw' => (Y_or (b := ((!r_1) || (!r_2))) (z := ((decide (0 < (i : Int))) && (decide (x.Mask ≤ x1.Mask)))) rfl rfl rfl rfl)) ?_
    refine ra_done (by kernel_rfl) ?_
    refine cw_cond (b := (((!r_1) || (!r_2)) || ((decide (0 < (i : Int))) && (decide (x.Mask ≤ x1.Mask))))) rfl (fun hb1 => ?_) (fun hb1 => ?_)
    ·skip
     have hF2 := ct hb hb1
     refine cq (cr ?_)
     refine sQ 4 (yg (.bool false)) (rn (ct_ ?_))
     obtain rfl := sI hF2
     obtain rfl := sI hL1
     obtain rfl := sI hF1
     exact ret1 Tryz.results120 (v1 := .bool false) (resAt_tmp rfl) ⟨rfl, (hS8.sN [])⟩
    ·skip
     have hF3 := cf' hb hb1
     refine cw_skip (cr ?_)
     refine sQ 42 (yP (i : Int) 1 rfl (hf.g 9 4)) <| sQ 9 (ym (vi (i64.wrap ((i : Int) + 1)))) (rn ?_)
     obtain rfl := sI hF3
     exact ⟨K7, Nat.lt_succ_self _, i + 1, (fc (hf.g 0 0) (fc (hf.g 1 1) (fc (hf.g 7 2) (fc (hf.g 8 3) (fc (congrArg (Value.int .i64) (wr_succ hlt1 hN)) fn_))))), (hS8.sel [] rfl rfl), (by omega), hL1⟩
   exact aN
  exact aN
 ·skip
  obtain rfl : k_ = 0 := by have h := of_decide_eq_false hlt; omega
  refine cw_exit rfl ?_
  obtain rfl := sI hL
  refine cq (cr ?_)
  refine sQ 4 (yg (.bool true)) (rn (ct_ ?_))
  obtain rfl := sI hF1
  exact ret1 Tryz.results120 (v1 := .bool true) (resAt_tmp rfl) ⟨rfl, (hS1.sN [])⟩

theorem c_slices_IndexFunc_int_int (s : List Int) (f_ : Int → Option (Bool)) (B : Option Addr) (c n : Nat) (kf : Nat) (caps : Array Value) (Rf : List Ro) (w0 : World) (hn : s.length = n) (hk : callB Tryz.prog kf = true) (hp : ∀ (w : World), ST w [] w [] Rf → ∀ (x : Int) (y : Bool), f_ x = some y → CV Tryz.prog kf ((vi x) :: caps.toList).toArray w (fun v w' => v = .bool y ∧ ST w [] w' [] [])) (hS : ST w0 [] w0 [] (⟨B, (s.flatMap encI)⟩ :: Rf)) {r_ : Int} (hF : F_slices_IndexFunc_int_int s f_ = some r_) :
  CV Tryz.prog 313 #[.slice B n c, .func (.func kf) #[] caps] w0 (fun v w' => v = vi r_ ∧ ST w0 [] w' [] []) := by
 subst hn
 unfold F_slices_IndexFunc_int_int at hF
 refine cv_of_cw 19 Tryz.func313 rfl Tryz.ntmps313 rfl ?_
 refine cq (cr ?_)
 refine sQ 4 (yg (vi 0)) (rn (cq (cq (cr ?_))))
 refine sQ 6 (ym (.slice B s.length c)) <| sQ 7 (Y_len (B := B) (m := s.length) (c := c) K2 rfl rfl) <| sQ 8 (ym (vi 0)) (rn ?_)
 obtain ⟨hN, hF⟩ := chk_inv hF
 obtain ⟨z, hz, hF1⟩ := bI hF
 refine cw_block ?_
 refine cw_loop (fun k f w => ∃ (i : Nat), FF f [(0, .slice B s.length c), (1, .func (.func kf) #[] caps), (7, vi (s.length : Int)), (8, vi (i : Int))] ∧ ST w0 [] w [] (⟨B, (s.flatMap encI)⟩ :: Rf) ∧ i + k = s.length ∧ forX (F_slices_IndexFunc_int_int_l1 s f_) k i () = some z) s.length ⟨0, (fc rfl (fc rfl (fc rfl (fc rfl fn_)))), (hS.sel [] rfl rfl), Nat.zero_add _, hz⟩ ?_
 rintro k_ f w ⟨i, hf, hS1, hik, hL⟩
 refine cq (cr ?_)
 refine sQ 9 (yL (i : Int) (s.length : Int) rfl (hf.g 8 3) (hf.g 7 2)) (rn (cq ?_))
 refine cw_cond (b := (decide ((i : Int) < (s.length : Int)))) rfl (fun hlt => ?_) (fun hlt => ?_)
 ·skip
  have hlt1 : i < s.length := by have h := of_decide_eq_true hlt; omega
  obtain ⟨K7, rfl⟩ : ∃ k2, k_ = k2 + 1 := ⟨k_ - 1, by omega⟩
  obtain ⟨y1, hb, hL1⟩ := forX_go hL
  unfold F_slices_IndexFunc_int_int_l1 at hb
  refine cw_skip (cq (cw_block (cq (cr ?_))))
  refine sQ 10 (ym (vi (i : Int)) rfl (hf.g 8 3)) <| sQ 5 (yg (vi (i : Int))) (rn (cq (cr ?_)))
  refine sQ 11 (ym (.func (.func kf) #[] caps) rfl (hf.g 1 1)) <| sQ 12 (ym (.slice B s.length c) rfl (hf.g 0 0)) <| sQ 13 (ym (vi (i : Int))) ?_
  obtain ⟨x1, hx, hb⟩ := bI hb
  refine sQ 14 (Y_index (B := B) (m := s.length) (c := c) (k := .i64) (i := (i : Int)) K2 K0 rfl rfl rfl (gi_isSome encI_len rfl (hS1.rf (i := 0) rfl) hx) (getI_nn hx) (getI_ltI hx rfl)) <| sQ 15 (yl B ((i : Int).toNat * 1) (s.flatMap encI) (vi x1) K1 (hS1.rf (i := 0) rfl) rfl rfl (gi_at0 encI_len hx rfl)) ?_
  obtain ⟨r_1, hc, hb⟩ := bI hb
  refine sc 16 rfl rfl (Yc_clos (g := kf) (vs := (vi x1) :: caps.toList) hk rfl rfl (clo_args (mc rfl mn)) (hp _ (hS1.innS (fun _ h => mOd (i := 1) h)) x1 r_1 hc)) ?_
  rintro _ w_ ⟨rfl, hd⟩
  have hS2 := hS1.out00 hd
  refine rn ?_
  refine cw_cond (b := r_1) rfl (fun hb1 => ?_) (fun hb1 => ?_)
  ·skip
   have hF2 := ct hb hb1
   refine cq (cr ?_)
   refine sQ 17 (ym (vi (i : Int))) <| sQ 4 (yg (vi (i : Int))) (rn (ct_ ?_))
   obtain rfl := sI hF2
   obtain rfl := sI hL1
   obtain rfl := sI hF1
   exact ret1 Tryz.results313 (v1 := vi (i : Int)) (resAt_tmp rfl) ⟨rfl, (hS2.sN [])⟩
  ·skip
   have hF3 := cf' hb hb1
   refine cw_skip (cr ?_)
   refine sQ 18 (yP (i : Int) 1 rfl (hf.g 8 3)) <| sQ 8 (ym (vi (i64.wrap ((i : Int) + 1)))) (rn ?_)
   obtain rfl := sI hF3
   exact ⟨K7, Nat.lt_succ_self _, i + 1, (fc (hf.g 0 0) (fc (hf.g 1 1) (fc (hf.g 7 2) (fc (congrArg (Value.int .i64) (wr_succ hlt1 hN)) fn_)))), (hS2.sel [] rfl rfl), (by omega), hL1⟩
 ·skip
  obtain rfl : k_ = 0 := by have h := of_decide_eq_false hlt; omega
  refine cw_exit rfl ?_
  obtain rfl := sI hL
  refine cq (cr ?_)
  refine sQ 4 (yg (vi (-1))) (rn (ct_ ?_))
  obtain rfl := sI hF1
  exact ret1 Tryz.results313 (v1 := vi (-1)) (resAt_tmp rfl) ⟨rfl, (hS1.sN [])⟩

theorem c_slices_ContainsFunc_int_int (s : List Int) (f_ : Int → Option (Bool)) (B : Option Addr) (c n : Nat) (kf : Nat) (caps : Array Value) (Rf : List Ro) (w0 : World) (hn : s.length = n) (hk : callB Tryz.prog kf = true) (hp : ∀ (w : World), ST w [] w [] Rf → ∀ (x : Int) (y : Bool), f_ x = some y → CV Tryz.prog kf ((vi x) :: caps.toList).toArray w (fun v w' => v = .bool y ∧ ST w [] w' [] [])) (hS : ST w0 [] w0 [] (⟨B, (s.flatMap encI)⟩ :: Rf)) {r_ : Bool} (hF : F_slices_ContainsFunc_int_int s f_ = some r_) :
  CV Tryz.prog 278 #[.slice B n c, .func (.func kf) #[] caps] w0 (fun v w' => v = .bool r_ ∧ ST w0 [] w' [] []) := by
 subst hn
 unfold F_slices_ContainsFunc_int_int at hF
 refine cv_of_cw 9 Tryz.func278 rfl Tryz.ntmps278 rfl ?_
 refine cq (cr ?_)
 refine sQ 4 (yg (.bool false)) (rn (cq (cr ?_)))
 refine sQ 5 (ym (.slice B s.length c)) <| sQ 6 (ym (.func (.func kf) #[] caps)) ?_
 obtain ⟨r_1, hc, hF⟩ := bI hF
 refine sc 7 rfl rfl (yC [.slice B s.length c, .func (.func kf) #[] caps] k_call_313 (c_slices_IndexFunc_int_int s f_ B c s.length kf caps Rf _ rfl hk hp (hS.innS (sk 0 (fun _ h => mOd (i := 1) h))) hc)) ?_
 rintro _ w_ ⟨rfl, hd⟩
 have hS1 := hS.out00 hd
 refine sQ 8 (Y_ge (k := .i64) (a := r_1) (b := 0) rfl rfl rfl) <| sQ 4 (yg (.bool (decide (0 ≤ r_1)))) (rn (ct_ ?_))
 obtain rfl := sI hF
 exact ret1 Tryz.results278 (v1 := .bool (decide (0 ≤ r_1))) (resAt_tmp rfl) ⟨rfl, (hS1.sN [])⟩

theorem c_impl_IsValidLinear_1 (row : Int) (p : Int) (B : Option Addr) (w0 : World)  (hS : ST w0 [] w0 [] [⟨B, [vi p]⟩]) {r_ : Bool} (hF : F_impl_IsValidLinear_1 row p = some r_) :
  CV Tryz.prog 279 #[vi row, pt B 0] w0 (fun v w' => v = .bool r_ ∧ ST w0 [] w' [] []) := by
 unfold F_impl_IsValidLinear_1 at hF
 refine cv_of_cw 10 Tryz.func279 rfl Tryz.ntmps279 rfl ?_
 refine cq (cr ?_)
 refine sQ 3 (yg (.bool false)) (rn (cq (cr ?_)))
 refine sQ 4 (ym (vi row)) <| sQ 5 (yl B 0 [vi p] (vi p) K1 (hS.rf (i := 0) rfl)) ?_
 obtain ⟨hsh, hF⟩ := chk_inv hF
 refine sQ 6 (Y_shl (k := .i64) (a := 1) (k' := .i64) (b := p) rfl rfl rfl hsh) <| sQ 7 (yM (shlK .i64 1 p) 1) ?_
 obtain ⟨r_1, hc, hF⟩ := bI hF
 refine sc 8 rfl rfl (yC [vi row, vi 0, vi (i64.wrap ((shlK .i64 1 p) - 1))] K30 (c_impl_within row 0 (i64.wrap ((shlK .i64 1 p) - 1)) _  (hS.inn0 [] rfl) hc)) ?_
 rintro _ w_ ⟨rfl, hd⟩
 have hS1 := hS.out00 hd
 refine sQ 9 (Y_not (p := r_1) rfl rfl) <| sQ 3 (yg (.bool (!r_1))) (rn (ct_ ?_))
 obtain rfl := sI hF
 exact ret1 Tryz.results279 (v1 := .bool (!r_1)) (resAt_tmp rfl) ⟨rfl, (hS1.sN [])⟩

theorem c_slices_Clone_int_int (s : List Int) (B : Option Addr) (c n : Nat) (w0 : World) (hn : s.length = n) (hS : ST w0 [] w0 [] [⟨B, (s.flatMap encI)⟩]) {r_ : List Int} (hF : F_slices_Clone_int_int s = some r_) :
  CV Tryz.prog 72 #[.slice B n c] w0 (fun v w' => ∃ (B1 : Option Addr) (c1 : Nat), v = .slice B1 r_.length c1 ∧ ST w0 [] w' [⟨B1, 3, (r_.flatMap encI), c1 * 1⟩] []) := by
 subst hn
 unfold F_slices_Clone_int_int at hF
 refine cv_of_cw 8 Tryz.func72 rfl Tryz.ntmps72 rfl ?_
 refine cq (cr ?_)
 refine sQ 2 (yg (.slice none 0 0)) (rn (cq (cq (cr ?_))))
 refine sQ 3 (ym (.slice B s.length c)) <| sQ 4 (Y_nileql (B := B) (m := s.length) (c := c) K2 rfl rfl rfl) (rn ?_)
 refine cw_cond (b := B.isNone) rfl (fun hb => ?_) (fun hb => ?_)
 ·skip
  have hl : s = [] := nil_cont encI_len (hS.rf (i := 0) rfl) rfl hb
  rw [hl] at hF
  have hF1 : (some ([])) = some r_ := by simpa [chk] using hF
  subst hl
  refine cq (cr ?_)
  refine sQ 2 (yg (.slice none 0 0)) (rn (ct_ ?_))
  have hS1 := hS.addNil 3
  obtain rfl := sI hF1
  exact ret1 Tryz.results72 (v1 := .slice none 0 0) (resAt_tmp rfl) ⟨none, 0, rfl, (hS1.sN [0])⟩
 ·skip
  refine cw_skip (cq (cr ?_))
  refine sS 5 (Ys_bslice0 (s := 1) (e := 3) hS K2 K0 rfl) ?_
  rintro _ w_ ⟨b, rfl, hS2⟩
  refine sQ 6 (ym (.slice B s.length c)) ?_
  obtain ⟨hap, hF⟩ := chk_inv hF
  refine sS 7 (Ys_append (s := 1) (by' := 8) (i := 0) (nn := 0) (c := 0) (k := s.length) (len := s.length) (B := aD b) (xs := (s.flatMap encI)) (cs' := (s.flatMap encI)) hS2 K2 K0 K76 K57 rfl (by decide) rfl rfl rfl rfl (fm_lenn (l := []) encI_len rfl) rfl (hS2.rf (i := 0) rfl) (fm_lenn (l := s) encI_len rfl) (fm_one' (enc := encI) encI_one s) (by have := hap; omega) (by have := hap; simp only [maxLen]; omega) rfl (app_len0 (l := s) rfl)) ?_
  rintro _ w_1 ⟨B2, c2, rfl, hS3⟩
  refine sQ 2 (yg (.slice B2 s.length c2)) (rn (ct_ ?_))
  obtain rfl := sI hF
  exact ret1 Tryz.results72 (v1 := .slice B2 s.length c2) (resAt_tmp rfl) ⟨B2, c2, rfl, (hS3.sN [0])⟩

theorem c_impl_rankOf_1 (row : Int) (p : Int) (B : Option Addr) (w0 : World)  (hS : ST w0 [] w0 [] [⟨B, [vi p]⟩]) {r_ : Bool} (hF : F_impl_rankOf_1 row p = some r_) :
  CV Tryz.prog 314 #[vi row, pt B 0] w0 (fun v w' => v = .bool r_ ∧ ST w0 [] w' [] []) := by
 unfold F_impl_rankOf_1 at hF
 refine cv_of_cw 9 Tryz.func314 rfl Tryz.ntmps314 rfl ?_
 refine cq (cr ?_)
 refine sQ 3 (yg (.bool false)) (rn (cq (cr ?_)))
 refine sQ 4 (ym (vi row)) <| sQ 5 (yl B 0 [vi p] (vi p) K1 (hS.rf (i := 0) rfl)) ?_
 obtain ⟨hsh, hF⟩ := chk_inv hF
 refine sQ 6 (Y_shr (k := .i64) (a := row) (k' := .i64) (b := p) rfl rfl rfl hsh) <| sQ 7 (Y_band (k := .i64) (a := (shrK .i64 row p)) (b := 1) rfl rfl rfl) <| sQ 8 (yE (bits .and .i64 (shrK .i64 row p) 1) 1) <| sQ 3 (yg (.bool ((bits .and .i64 (shrK .i64 row p) 1) == 1))) (rn (ct_ ?_))
 obtain rfl := sI hF
 exact ret1 Tryz.results314 (v1 := .bool ((bits .and .i64 (shrK .i64 row p) 1) == 1)) (resAt_tmp rfl) ⟨rfl, (hS.sN [])⟩

theorem c_slices_Delete_int_int (s : List Int) (i : Int) (j : Int) (B : Option Addr) (c n : Nat) (w0 : World) (hn : s.length = n) (hS : ST w0 (bl [⟨B, 3, (s.flatMap encI), c * 1⟩]) w0 [⟨B, 3, (s.flatMap encI), c * 1⟩] []) {r_ : List Int} (hF : F_slices_Delete_int_int s i j = some r_) :
  CV Tryz.prog 315 #[.slice B n c, vi i, vi j] w0 (fun v w' => ∃ (B1 : Option Addr) (c1 : Nat), v = .slice B1 r_.length c1 ∧ ST w0 (bl [⟨B, 3, (s.flatMap encI), c * 1⟩]) w' [⟨B1, 3, (r_.flatMap encI), c1 * 1⟩] []) := by
 subst hn
 unfold F_slices_Delete_int_int at hF
 refine cv_of_cw 33 Tryz.func315 rfl Tryz.ntmps315 rfl ?_
 refine cq (cr ?_)
 refine sQ 6 (yg (.slice none 0 0)) (rn (cq (cr ?_)))
 refine sQ 8 (ym (.slice B s.length c)) <| sQ 9 (ym (vi i)) <| sQ 10 (ym (vi j)) <| sQ 11 (ym (.slice B s.length c)) <| sQ 12 (Y_len (B := B) (m := s.length) (c := c) K2 rfl rfl) ?_
 obtain ⟨hsl, hF⟩ := chk_inv hF
 have hcap : s.length ≤ c := hS.lencap (i := 0) rfl (fm_lenn (l := s) encI_len rfl) rfl rfl
 refine sQ 13 (Y_slice (B := B) (m := s.length) (c := c) (l := i.toNat) (h := j.toNat) (q := s.length) (s := 1) K2 K0 rfl rfl ⟨_, _, rfl, rfl⟩ ⟨_, _, rfl, (Int.toNat_of_nonneg (by omega)).symm⟩ ⟨_, _, rfl, (Int.toNat_of_nonneg (by omega)).symm⟩ rfl (by omega) (by omega) (by omega)) (rn (cq (cq (cr ?_))))
 refine sQ 14 (ym (vi i)) <| sQ 15 (ym (vi j)) <| sQ 16 (yE i j) (rn ?_)
 refine cw_cond (b := (i == j)) rfl (fun hb => ?_) (fun hb => ?_)
 ·skip
  have hF1 := ct hF hb
  refine cq (cr ?_)
  refine sQ 17 (ym (.slice B s.length c)) <| sQ 6 (yg (.slice B s.length c)) (rn (ct_ ?_))
  obtain rfl := sI hF1
  exact ret1 Tryz.results315 (v1 := .slice B s.length c) (resAt_tmp rfl) ⟨B, c, rfl, (hS.sN [0])⟩
 ·skip
  have hF2 := cf' hF hb
  refine cw_skip (cq (cr ?_))
  refine sQ 18 (ym (.slice B s.length c)) <| sQ 19 (Y_len (B := B) (m := s.length) (c := c) K2 rfl rfl) <| sQ 7 (yg (vi (s.length : Int))) (rn (cq ?_))
  obtain ⟨hij, hF2⟩ := chk_inv hF2
  refine ra_start (hS.se []).fn (by kernel_rfl) ?_
  have hS1 := hS.drew
  refine rq 0 20 (v := .slice B s.length c) rfl (hS1.se []) (fun w' hw' => (ym (.slice B s.length c))) ?_
  refine rq 1 21 (v := vi i) rfl (hS1.se []) (fun w' hw' => (ym (vi i))) ?_
  refine rq 2 22 (v := .slice (sv B 0 c 1) (i.toNat - 0) (c - 0)) rfl (hS1.se []) (fun w' hw' => (Y_slice (B := B) (m := s.length) (c := c) (l := 0) (h := i.toNat) (q := c) (s := 1) K2 K0 rfl rfl rfl ⟨_, _, rfl, (Int.toNat_of_nonneg (by omega)).symm⟩ rfl rfl (by omega) (by omega) (by omega))) ?_
  refine rq 3 23 (v := .slice B s.length c) rfl (hS1.se []) (fun w' hw' => (ym (.slice B s.length c))) ?_
  refine rq 4 24 (v := vi j) rfl (hS1.se []) (fun w' hw' => (ym (vi j))) ?_
  refine rq 5 25 (v := .slice (sv B j.toNat c 1) (s.length - j.toNat) (c - j.toNat)) rfl (hS1.se []) (fun w' hw' => (Y_slice (B := B) (m := s.length) (c := c) (l := j.toNat) (h := s.length) (q := c) (s := 1) K2 K0 rfl rfl rfl rfl ⟨_, _, rfl, (Int.toNat_of_nonneg (by omega)).symm⟩ rfl (by omega) (by omega) (by omega))) ?_
  refine rA [6] ?_
  refine rS 26 6 rfl (Ys_cut (enc := encI) (s := 1) (k := 0) (i := i.toNat) (j := j.toNat) (m := s.length) (c := c) (B := B) (l := s) hS1 K2 K0 rfl rfl rfl rfl rfl rfl encI_len encI_one (by omega) (by omega)) ?_ ?_
  ·rintro _ w_ ⟨rfl, hS2⟩
   refine ⟨(hS2.se []), ?_⟩
   refine rq 7 0 (v := .slice B (i.toNat + (s.length - j.toNat)) c) rfl (hS2.se []) (fun w' hw' => (yg (.slice B (i.toNat + (s.length - j.toNat)) c))) ?_
   refine ra_done (by kernel_rfl) ?_
   refine cq (cr ?_)
   refine sQ 27 (ym (.slice B (i.toNat + (s.length - j.toNat)) c)) <| sQ 28 (ym (.slice B (i.toNat + (s.length - j.toNat)) c)) <| sQ 29 (Y_len (B := B) (m := (i.toNat + (s.length - j.toNat))) (c := c) K2 rfl rfl) <| sQ 30 (ym (vi (s.length : Int))) <| sQ 31 (Y_slice (B := B) (m := (i.toNat + (s.length - j.toNat))) (c := c) (l := (i.toNat + (s.length - j.toNat))) (h := s.length) (q := c) (s := 1) K2 K0 rfl rfl rfl ⟨_, _, rfl, rfl⟩ ⟨_, _, rfl, rfl⟩ rfl (by omega) (by omega) (by omega)) ?_
   refine s0 (Ys_clear (s := 1) (k := 0) (p := (i.toNat + (s.length - j.toNat))) (h := s.length) (c := c) (m := c * 1) (B := B) (cs := ((List.take i.toNat s ++ List.drop j.toNat s).flatMap encI)) (z := vi 0) hS2 K2 K0 rfl K57 rfl rfl rfl rfl rfl (fm_lenn (l := (List.take i.toNat s ++ List.drop j.toNat s)) encI_len (cut_len rfl (by omega))) rfl (by omega) (by omega)) ?_
   rintro _ w_1 ⟨rfl, hS3⟩
   refine rn (cq (cr ?_))
   refine sQ 32 (ym (.slice B (i.toNat + (s.length - j.toNat)) c)) <| sQ 6 (yg (.slice B (i.toNat + (s.length - j.toNat)) c)) (rn (ct_ ?_))
   obtain rfl := sI hF2
   exact ret1 Tryz.results315 (v1 := .slice B (i.toNat + (s.length - j.toNat)) c) (resAt_tmp rfl) ⟨B, c, (sl_eqv (cut_len rfl (by omega))), (hS3.sN [0])⟩
  exact aN

theorem c_impl_rankOf (rows : List Int) (B : Option Addr) (c n : Nat) (w0 : World) (hn : rows.length = n) (hS : ST w0 [] w0 [] [⟨B, (rows.flatMap encI)⟩]) {r_ : Int} (hF : F_impl_rankOf rows = some r_) :
  CV Tryz.prog 280 #[.slice B n c] w0 (fun v w' => v = vi r_ ∧ ST w0 [] w' [] []) := by
 subst hn
 unfold F_impl_rankOf at hF
 refine cv_of_cw 52 Tryz.func280 rfl Tryz.ntmps280 rfl ?_
 refine cq (cr ?_)
 refine sQ 2 (yg (vi 0)) (rn (cq (cr ?_)))
 refine sQ 10 (ym (.slice B rows.length c)) ?_
 obtain ⟨r_1, hc, hF⟩ := bI hF
 refine sc 11 rfl rfl (yC [.slice B rows.length c] k_call_72 (c_slices_Clone_int_int rows B c rows.length _ rfl (hS.inn0 [(true, 0)] rfl) hc)) ?_
 rintro _ w_ ⟨B1, c1, rfl, hd⟩
 have hS1 := hS.out0 hd
 refine sQ 3 (yg (.slice B1 r_1.length c1)) <| sQ 4 (yg (vi 0)) (rn (cq (cq (cr ?_))))
 refine sQ 12 (ym (vi 0)) (rn ?_)
 obtain ⟨z, hz, hF1⟩ := bI hF
 refine cw_block ?_
 refine cw_loop (fun k f w => ∃ (i : Nat) (left : List Int) (rank : Int) (B2 : Option Addr) (c2 : Nat), FF f [(3, .slice B2 left.length c2), (4, vi rank), (12, vi (i : Int))] ∧ ST w0 [] w [⟨B2, 3, (left.flatMap encI), c2 * 1⟩] [⟨B, (rows.flatMap encI)⟩] ∧ i + k = 10 ∧ forN F_impl_rankOf_l1 k i (left, rank) = some z) 10 ⟨0, r_1, 0, B1, c1, (fc rfl (fc rfl (fc rfl fn_))), (hS1.sel [0] rfl rfl), Nat.zero_add _, hz⟩ ?_
 rintro k_ f w ⟨i, left, rank, B2, c2, hf, hS2, hik, hL⟩
 refine cq (cr ?_)
 refine sQ 13 (yL (i : Int) 10 rfl (hf.g 12 2)) (rn (cq ?_))
 refine cw_cond (b := (decide ((i : Int) < 10))) rfl (fun hlt => ?_) (fun hlt => ?_)
 ·skip
  have hlt1 : i < 10 := by have h := of_decide_eq_true hlt; omega
  obtain ⟨K7, rfl⟩ : ∃ k2, k_ = k2 + 1 := ⟨k_ - 1, by omega⟩
  obtain ⟨y, hb, hL1⟩ := forN_go hL
  unfold F_impl_rankOf_l1 at hb
  refine cw_skip (cq ?_)
  obtain ⟨z1, hz1, hF2⟩ := bI hb
  refine cw_mid (fun f w => ∃ (left1 : List Int) (rank1 : Int) (B3 : Option Addr) (c3 : Nat), (left1, rank1) = z1 ∧ FF f [(3, .slice B3 left1.length c3), (4, vi rank1), (12, vi (i : Int))] ∧ ST w0 [] w [⟨B3, 3, (left1.flatMap encI), c3 * 1⟩] [⟨B, (rows.flatMap encI)⟩]) ?_ ?_
  ·skip
   refine cw_block (cq (cr ?_))
   refine sQ 14 (ym (vi (i : Int)) rfl (hf.g 12 2)) ?_
   refine sS 5 (yN [vi 0] 1 hS2 K57) ?_
   rintro _ w_1 ⟨b, rfl, hS4⟩
   refine s0 (yT 1 1 (aD b) 3 (vi (i : Int)) [vi (i : Int)] 0 hS4 K0) ?_
   rintro _ w_2 ⟨rfl, hS5⟩
   refine rn (cq (cr ?_))
   refine sQ 15 (ym (.slice B2 left.length c2) rfl (hf.g 3 0)) <| sQ 16 (Y_makeFunc (cs := [pt (aD b) 0]) rfl rfl (mc rfl mn)) ?_
   obtain ⟨r_2, hc1, hz1⟩ := bI hz1
   refine sc 17 rfl rfl (yC [.slice B2 left.length c2, .func (.func 314) #[] #[pt (aD b) 0]] k_call_313 (c_slices_IndexFunc_int_int left (fun x_0 => F_impl_rankOf_1 x_0 (i : Int)) B2 c2 left.length 314 (#[pt (aD b) 0]) [⟨aD b, [vi (i : Int)]⟩] _ rfl k_call_314 (fun w hw x_0 y_0 h_ => c_impl_rankOf_1 x_0 (i : Int) (aD b) w  hw h_) (hS5.inn0 [(false, 0), (false, 1)] rfl) hc1)) ?_
   rintro _ w_3 ⟨rfl, hd1⟩
   have hS6 := hS5.out00 hd1
   refine sQ 6 (yg (vi r_2)) (rn (cq (cq (cr ?_))))
   refine sQ 18 (ym (vi r_2)) <| sQ 19 (yL r_2 0) (rn ?_)
   refine cw_cond (b := (decide (r_2 < 0))) rfl (fun hb1 => ?_) (fun hb1 => ?_)
   ·skip
    have hF3 := ct hz1 hb1
    refine cw_exit rfl ?_
    exact ⟨left, rank, B2, c2, (sI hF3), (fc (hf.g 3 0) (fc (hf.g 4 1) (fc (hf.g 12 2) fn_))), (hS6.sel [0] rfl rfl)⟩
   ·skip
    have hF4 := cf' hz1 hb1
    refine cw_skip (cq (cr ?_))
    refine sQ 20 (ym (.slice B2 left.length c2) rfl (hf.g 3 0)) <| sQ 21 (ym (vi r_2)) ?_
    obtain ⟨x, hx, hF4⟩ := bI hF4
    refine sQ 22 (Y_index (B := B2) (m := left.length) (c := c2) (k := .i64) (i := r_2) K2 K0 rfl rfl rfl (gi_isSome encI_len rfl (hS6.c 0) hx) (getI_nn hx) (getI_ltI hx rfl)) <| sQ 23 (yl B2 (r_2.toNat * 1) (left.flatMap encI) (vi x) K1 (hS6.c 0) rfl rfl (gi_at0 encI_len hx rfl)) <| sQ 7 (yg (vi x)) (rn (cq (cr ?_)))
    refine sQ 24 (ym (.slice B2 left.length c2) rfl (hf.g 3 0)) <| sQ 25 (ym (vi r_2)) <| sQ 26 (ym (vi r_2)) <| sQ 27 (yP r_2 1) ?_
    obtain ⟨r_3, hc2, hF4⟩ := bI hF4
    refine sc 28 rfl rfl (yC [.slice B2 left.length c2, vi r_2, vi (i64.wrap (r_2 + 1))] k_call_315 (c_slices_Delete_int_int left r_2 (i64.wrap (r_2 + 1)) B2 c2 left.length _ rfl (hS6.inn [true, false] rfl [] rfl) hc2)) ?_
    rintro _ w_4 ⟨B4, c4, rfl, hd2⟩
    have hS7 := hS6.out [true, false] rfl hd2
    refine sQ 3 (yg (.slice B4 r_3.length c4)) (rn (cq (cq (cr ?_))))
    refine sQ 29 (ym (.slice B4 r_3.length c4)) <| sQ 30 (Y_len (B := B4) (m := r_3.length) (c := c4) K2 rfl rfl) <| sQ 31 (ym (vi 0)) (rn ?_)
    obtain ⟨hN, hF4⟩ := chk_inv hF4
    obtain ⟨z2, hz2, hF5⟩ := bI hF4
    refine cw_block ?_
    refine cw_loop (fun k f w => ∃ (i1 : Nat) (left2 : List Int), FF f [(3, .slice B4 r_3.length c4), (4, vi rank), (5, pt (aD b) 0), (7, vi x), (12, vi (i : Int)), (29, .slice B4 r_3.length c4), (30, vi (r_3.length : Int)), (31, vi (i1 : Int))] ∧ left2.length = r_3.length ∧ ST w0 [] w [⟨B4, 3, (left2.flatMap encI), c4 * 1⟩, ⟨aD b, 3, [vi (i : Int)], 1⟩] [⟨B, (rows.flatMap encI)⟩] ∧ i1 + k = r_3.length ∧ forN (F_impl_rankOf_l2 i x) k i1 left2 = some z2) r_3.length ⟨0, r_3, (fc rfl (fc (hf.g 4 1) (fc rfl (fc rfl (fc (hf.g 12 2) (fc rfl (fc rfl (fc rfl fn_)))))))), rfl, (hS7.sel [1, 0] rfl rfl), Nat.zero_add _, hz2⟩ ?_
    rintro K16 f w ⟨i1, left2, hf2, hl, hS8, hik1, hL2⟩
    refine cq (cr ?_)
    refine sQ 32 (yL (i1 : Int) (r_3.length : Int) rfl (hf2.g 31 7) (hf2.g 30 6)) (rn (cq ?_))
    refine cw_cond (b := (decide ((i1 : Int) < (r_3.length : Int)))) rfl (fun hlt2 => ?_) (fun hlt2 => ?_)
    ·skip
     have hlt3 : i1 < r_3.length := by have h := of_decide_eq_true hlt2; omega
     obtain ⟨K52, rfl⟩ : ∃ k2, K16 = k2 + 1 := ⟨K16 - 1, by omega⟩
     obtain ⟨y1, hb2, hL3⟩ := forN_go hL2
     unfold F_impl_rankOf_l2 at hb2
     refine cw_skip (cq ?_)
     obtain ⟨z3, hz3, hF6⟩ := bI hb2
     refine cw_mid (fun f w => ∃ (left3 : List Int), left3 = z3 ∧ FF f [(3, .slice B4 r_3.length c4), (4, vi rank), (5, pt (aD b) 0), (7, vi x), (12, vi (i : Int)), (29, .slice B4 r_3.length c4), (30, vi (r_3.length : Int)), (31, vi (i1 : Int))] ∧ left3.length = r_3.length ∧ ST w0 [] w [⟨B4, 3, (left3.flatMap encI), c4 * 1⟩, ⟨aD b, 3, [vi (i : Int)], 1⟩] [⟨B, (rows.flatMap encI)⟩]) ?_ ?_
     ·skip
      refine cw_block (cq (cr ?_))
      refine sQ 33 (ym (vi (i1 : Int)) rfl (hf2.g 31 7)) ?_
      obtain ⟨x1, hx1, hz3⟩ := bI hz3
      refine sQ 34 (Y_index (B := B4) (m := r_3.length) (c := c4) (k := .i64) (i := (i1 : Int)) K2 K0 rfl (hf2.g 29 5) (hf2.g 31 7) (gi_isSome encI_len rfl (hS8.c 0) hx1) (getI_nn hx1) (getI_ltI hx1 hl)) <| sQ 35 (yl B4 ((i1 : Int).toNat * 1) (left2.flatMap encI) (vi x1) K1 (hS8.c 0) rfl rfl (gi_at0 encI_len hx1 rfl)) <| sQ 8 (yg (vi (i1 : Int))) <| sQ 9 (yg (vi x1)) (rn (cq (cr ?_)))
      refine sQ 36 (ym (vi x1)) <| sQ 37 (yl (aD b) 0 [vi (i : Int)] (vi (i : Int)) K1 (hS8.c 1) rfl (hf2.g 5 2)) ?_
      obtain ⟨hsh, hz3⟩ := chk_inv hz3
      refine sQ 38 (Y_shr (k := .i64) (a := x1) (k' := .i64) (b := (i : Int)) rfl rfl rfl hsh) <| sQ 39 (Y_band (k := .i64) (a := (shrK .i64 x1 (i : Int))) (b := 1) rfl rfl rfl) <| sQ 40 (yE (bits .and .i64 (shrK .i64 x1 (i : Int)) 1) 1) (rn ?_)
      refine cw_cond (b := ((bits .and .i64 (shrK .i64 x1 (i : Int)) 1) == 1)) rfl (fun hb3 => ?_) (fun hb3 => ?_)
      ·skip
       have hF7 := ct hz3 hb3
       refine cr ?_
       refine sQ 41 (ym (.slice B4 r_3.length c4) rfl (hf2.g 3 0)) <| sQ 42 (ym (vi (i1 : Int))) <| sQ 43 (ym (vi x1)) <| sQ 44 (ym (vi x) rfl (hf2.g 7 3)) <| sQ 45 (Y_bxor (k := .i64) (a := x1) (b := x) rfl rfl rfl) <| sQ 46 (Y_index (B := B4) (m := r_3.length) (c := c4) (k := .i64) (i := (i1 : Int)) K2 K0 rfl rfl rfl (gi_isSome encI_len rfl (hS8.c 0) hx1) (getI_nn hx1) (getI_ltI hx1 hl)) ?_
       refine s0 (yS 0 1 B4 3 (vi (bits .xor .i64 x1 x)) [vi (bits .xor .i64 x1 x)] ((i1 : Int).toNat * 1) ((left2.set (i1 : Int).toNat (bits .xor .i64 x1 x)).flatMap encI) hS8 K0 rfl rfl rfl rfl rfl rfl rfl (gi_fit0 encI_len hx1) (gi_set encI_len hx1 (bits .xor .i64 x1 x) rfl)) ?_
       rintro _ w_5 ⟨rfl, hS10⟩
       refine rn ?_
       exact ⟨(left2.set (i1 : Int).toNat (bits .xor .i64 x1 x)), (sI hF7), (fc (hf2.g 3 0) (fc (hf2.g 4 1) (fc (hf2.g 5 2) (fc (hf2.g 7 3) (fc (hf2.g 12 4) (fc (hf2.g 29 5) (fc (hf2.g 30 6) (fc (hf2.g 31 7) fn_)))))))), (set_len _ _ _ hl), (hS10.sel [0, 1] rfl rfl)⟩
      ·skip
       have hF8 := cf' hz3 hb3
       refine cw_skip ?_
       exact ⟨left2, (sI hF8), (fc (hf2.g 3 0) (fc (hf2.g 4 1) (fc (hf2.g 5 2) (fc (hf2.g 7 3) (fc (hf2.g 12 4) (fc (hf2.g 29 5) (fc (hf2.g 30 6) (fc (hf2.g 31 7) fn_)))))))), hl, (hS8.sel [0, 1] rfl rfl)⟩
     rintro f w ⟨left3, rfl, hf3, hl1, hS9⟩
     refine cr ?_
     refine sQ 47 (yP (i1 : Int) 1 rfl (hf3.g 31 7)) <| sQ 31 (ym (vi (i64.wrap ((i1 : Int) + 1)))) (rn ?_)
     obtain rfl := sI hF6
     exact ⟨K52, Nat.lt_succ_self _, i1 + 1, left3, (fc (hf3.g 3 0) (fc (hf3.g 4 1) (fc (hf3.g 5 2) (fc (hf3.g 7 3) (fc (hf3.g 12 4) (fc (hf3.g 29 5) (fc (hf3.g 30 6) (fc (congrArg (Value.int .i64) (wr_succ hlt3 hN)) fn_)))))))), hl1, (hS9.sel [0, 1] rfl rfl), (by omega), hL3⟩
    ·skip
     obtain rfl : K16 = 0 := by have h := of_decide_eq_false hlt2; omega
     refine cw_exit rfl ?_
     obtain rfl := sI hL2
     refine cr ?_
     refine sQ 48 (ym (vi rank) rfl (hf2.g 4 1)) <| sQ 49 (yP rank 1) <| sQ 4 (yg (vi (i64.wrap (rank + 1)))) (rn ?_)
     exact ⟨left2, (i64.wrap (rank + 1)), B4, c4, (sI hF5), (fc (sl_len hl (hf2.g 3 0)) (fc rfl (fc (hf2.g 12 4) fn_))), (hS8.sel [0] rfl rfl)⟩
  rintro f w ⟨left1, rank1, B3, c3, rfl, hf1, hS3⟩
  refine cr ?_
  refine sQ 50 (yP (i : Int) 1 rfl (hf1.g 12 2)) <| sQ 12 (ym (vi (i64.wrap ((i : Int) + 1)))) (rn ?_)
  obtain rfl := sI hF2
  exact ⟨K7, Nat.lt_succ_self _, i + 1, left1, rank1, B3, c3, (fc (hf1.g 3 0) (fc (hf1.g 4 1) (fc (congrArg (Value.int .i64) (wr_succ hlt1 (show 10 ≤ 9223372036854775807 by decide))) fn_))), (hS3.sel [0] rfl rfl), (by omega), hL1⟩
 ·skip
  obtain rfl : k_ = 0 := by have h := of_decide_eq_false hlt; omega
  refine cw_exit rfl ?_
  obtain rfl := sI hL
  refine cq (cr ?_)
  refine sQ 51 (ym (vi rank) rfl (hf.g 4 1)) <| sQ 2 (yg (vi rank)) (rn (ct_ ?_))
  obtain rfl := sI hF1
  exact ret1 Tryz.results280 (v1 := vi rank) (resAt_tmp rfl) ⟨rfl, (hS2.sN [])⟩

theorem c_impl_IsValidLinear (m : TLinear) (B : Option Addr) (c n : Nat) (w0 : World) (hn : m.Rows.length = n) (hS : ST w0 [] w0 [] [⟨B, (m.Rows.flatMap encI)⟩]) {r_ : Bool} (hF : F_impl_IsValidLinear m = some r_) :
  CV Tryz.prog 194 #[.agg #[.slice B n c]] w0 (fun v w' => v = .bool r_ ∧ ST w0 [] w' [] []) := by
 subst hn
 unfold F_impl_IsValidLinear at hF
 refine cv_of_cw 23 Tryz.func194 rfl Tryz.ntmps194 rfl ?_
 refine cq (cr ?_)
 refine sS 1 (yB 60 (.agg #[.slice B m.Rows.length c]) [.slice B m.Rows.length c] 1 hS) ?_
 rintro _ w_ ⟨b, rfl, hS1⟩
 refine sQ 2 (yg (.bool false)) (rn (cq (cr ?_)))
 refine sQ 4 (yd (aD b) 0 0 K29 K14) <| sQ 5 (yl (aD b) 0 [.slice B m.Rows.length c] (.slice B m.Rows.length c) K13 (hS1.c 0)) <| sQ 6 (Y_len (B := B) (m := m.Rows.length) (c := c) K2 rfl rfl) ?_
 refine sS 3 (yN [vi 0] 1 hS1 K57) ?_
 rintro _ w_1 ⟨b1, rfl, hS2⟩
 refine s0 (yT 1 1 (aD b1) 3 (vi (m.Rows.length : Int)) [vi (m.Rows.length : Int)] 0 hS2 K0) ?_
 rintro _ w_2 ⟨rfl, hS3⟩
 refine rn (cq ?_)
 obtain ⟨r_1, hc, hF⟩ := bI hF
 obtain ⟨r_2, hc1, hF⟩ := bI hF
 obtain ⟨r_3, hc2, hF⟩ := bI hF
 refine ra_start (hS3.se [0, 1]).fn (by kernel_rfl) ?_
 have hS7 := hS3.drew
 refine rq 0 7 (v := vi (m.Rows.length : Int)) rfl (hS7.se [0, 1]) (fun w' hw' => (yl (aD b1) 0 [vi (m.Rows.length : Int)] (vi (m.Rows.length : Int)) K1 (ST.cf hw' (i := 1) rfl))) ?_
 refine rA [1] ?_
 refine rC 8 1 rfl (yC [vi (m.Rows.length : Int), vi 1, vi 5] K30 (c_impl_within (m.Rows.length : Int) 1 5 _  (hS7.inn0 [] rfl) hc)) ?_ ?_
 ·rintro _ w_3 ⟨rfl, hd⟩
  have hS8 := hS7.out00 hd
  refine ⟨(hS8.se [0, 1]), ?_⟩
  refine rq 2 9 (v := .bool r_1) rfl (hS8.se [0, 1]) (fun w' hw' => (ym (.bool r_1))) ?_
  refine ra_gq 3 10 (B := r_1) (v := pt (aD b) 0) rfl rfl rfl (uT_ 9) (by kernel_rfl) (by kernel_rfl) (by kernel_rfl) (hS8.se [0, 1]) (fun hg w' hw' => (yd (aD b) 0 0 K29 K14)) ?_
  refine ra_gq 4 11 (B := r_1) (v := .slice B m.Rows.length c) rfl rfl rfl (uT_ 9) (by kernel_rfl) (by kernel_rfl) (by kernel_rfl) (hS8.se [0, 1]) (fun hg1 w' hw' => (yl (aD b) 0 [.slice B m.Rows.length c] (.slice B m.Rows.length c) K13 (ST.cf hw' (i := 0) rfl) rfl (gv_of (v := pt (aD b) 0) hg1))) ?_
  refine ra_gq 5 12 (B := r_1) (v := .func (.func 279) #[] #[pt (aD b1) 0]) rfl rfl rfl (uT_ 9) (by kernel_rfl) (by kernel_rfl) (by kernel_rfl) (hS8.se [0, 1]) (fun hg2 w' hw' => (Y_makeFunc (cs := [pt (aD b1) 0]) rfl rfl (mc rfl mn))) ?_
  refine rA [6] ?_
  refine ra_gc 13 (i := 6) (B := r_1) (v := .bool r_2) (F := hS8.fn) rfl rfl rfl (uT_ 9) hS8 (fun hg3 => (yC [.slice B m.Rows.length c, .func (.func 279) #[] #[pt (aD b1) 0]] k_call_278 (CV.mono (c_slices_ContainsFunc_int_int m.Rows (fun x_0 => F_impl_IsValidLinear_1 x_0 (m.Rows.length : Int)) B c m.Rows.length 279 (#[pt (aD b1) 0]) [⟨aD b1, [vi (m.Rows.length : Int)]⟩] _ rfl k_call_279 (fun w hw x_0 y_0 h_ => c_impl_IsValidLinear_1 x_0 (m.Rows.length : Int) (aD b1) w  hw h_) (hS8.inn0 [(true, 0), (false, 1)] rfl) (gb_inv hc1 hg3)) (by rintro _ _ ⟨rfl, h⟩; exact ⟨rfl, hS8.out00 h⟩)) rfl (mc (gv_of (v := .slice B m.Rows.length c) hg3) (mc (gv_of (v := .func (.func 279) #[] #[pt (aD b1) 0]) hg3) mn)))) ?_ ?_
  ·rintro w_4 hS9
   refine ⟨(hS9.se [0, 1]), ?_⟩
   refine ra_gq 7 14 (B := r_1) (v := .bool (!r_2)) rfl rfl rfl (uT_ 9) (by kernel_rfl) (by kernel_rfl) (by kernel_rfl) (hS9.se [0, 1]) (fun hg4 w' hw' => (Y_not (p := r_2) rfl (gv_of (v := .bool r_2) hg4))) ?_
   refine rq 8 15 (v := .bool (r_1 && (!r_2))) rfl (hS9.se [0, 1]) (fun w' hw' => (Y_and (b := r_1) (z := (!r_2)) rfl rfl rfl rfl)) ?_
   refine rq 9 16 (v := .bool (r_1 && (!r_2))) rfl (hS9.se [0, 1]) (fun w' hw' => (ym (.bool (r_1 && (!r_2))))) ?_
   refine ra_gq 10 17 (B := (r_1 && (!r_2))) (v := pt (aD b) 0) rfl rfl rfl (uT_ 16) (by kernel_rfl) (by kernel_rfl) (by kernel_rfl) (hS9.se [0, 1]) (fun hg5 w' hw' => (yd (aD b) 0 0 K29 K14)) ?_
   refine ra_gq 11 18 (B := (r_1 && (!r_2))) (v := .slice B m.Rows.length c) rfl rfl rfl (uT_ 16) (by kernel_rfl) (by kernel_rfl) (by kernel_rfl) (hS9.se [0, 1]) (fun hg6 w' hw' => (yl (aD b) 0 [.slice B m.Rows.length c] (.slice B m.Rows.length c) K13 (ST.cf hw' (i := 0) rfl) rfl (gv_of (v := pt (aD b) 0) hg6))) ?_
   refine ra_gq 13 20 (B := (r_1 && (!r_2))) (v := vi (m.Rows.length : Int)) rfl rfl rfl (uT_ 16) (by kernel_rfl) (by kernel_rfl) (by kernel_rfl) (hS9.se [0, 1]) (fun hg8 w' hw' => (yl (aD b1) 0 [vi (m.Rows.length : Int)] (vi (m.Rows.length : Int)) K1 (ST.cf hw' (i := 1) rfl))) ?_
   refine rA [12] ?_
   refine ra_gc 19 (i := 12) (B := (r_1 && (!r_2))) (v := vi r_3) (F := hS9.fn) rfl rfl rfl (uT_ 16) hS9 (fun hg7 => (yC [.slice B m.Rows.length c] k_call_280 (CV.mono (c_impl_rankOf m.Rows B c m.Rows.length _ rfl (hS9.inn0 [(true, 0)] rfl) (gb_inv hc2 hg7)) (by rintro _ _ ⟨rfl, h⟩; exact ⟨rfl, hS9.out00 h⟩)) rfl (mc (gv_of (v := .slice B m.Rows.length c) hg7) mn))) ?_ ?_
   ·rintro w_5 hS10
    refine ⟨(hS10.se [0, 1]), ?_⟩
    refine ra_gq 14 21 (B := (r_1 && (!r_2))) (v := .bool (r_3 == (m.Rows.length : Int))) rfl rfl rfl (uT_ 16) (by kernel_rfl) (by kernel_rfl) (by kernel_rfl) (hS10.se [0, 1]) (fun hg9 w' hw' => (yE r_3 (m.Rows.length : Int) rfl (gv_of (v := vi r_3) hg9) (gv_of (v := vi (m.Rows.length : Int)) hg9))) ?_
    refine rq 15 22 (v := .bool ((r_1 && (!r_2)) && (r_3 == (m.Rows.length : Int)))) rfl (hS10.se [0, 1]) (fun w' hw' => (Y_and (b := (r_1 && (!r_2))) (z := (r_3 == (m.Rows.length : Int))) rfl rfl rfl rfl)) ?_
    refine rq 16 2 (v := .bool ((r_1 && (!r_2)) && (r_3 == (m.Rows.length : Int)))) rfl (hS10.se [0, 1]) (fun w' hw' => (yg (.bool ((r_1 && (!r_2)) && (r_3 == (m.Rows.length : Int)))))) ?_
    refine ra_done (by kernel_rfl) ?_
    refine ct_ ?_
    obtain rfl := sI hF
    exact ret1 Tryz.results194 (v1 := .bool ((r_1 && (!r_2)) && (r_3 == (m.Rows.length : Int)))) (resAt_tmp rfl) ⟨rfl, (hS10.sN [])⟩
   exact aN
  exact aN
 exact aN

theorem c_impl_IsValidPhasePoly (p : TPhasePoly) (B : Option Addr) (c n : Nat) (B1 : Option Addr) (c1 n1 : Nat) (w0 : World) (hn : p.Terms.length = n) (hn1 : p.Out.Rows.length = n1) (hS : ST w0 [] w0 [] [⟨B, (p.Terms.flatMap enc_Term)⟩, ⟨B1, (p.Out.Rows.flatMap encI)⟩]) {r_ : Bool} (hF : F_impl_IsValidPhasePoly p = some r_) :
  CV Tryz.prog 97 #[.agg #[vi p.Qubits, vi p.Phase, .slice B n c, .slice B1 n1 c1]] w0 (fun v w' => v = .bool r_ ∧ ST w0 [] w' [] []) := by
 subst hn
 subst hn1
 unfold F_impl_IsValidPhasePoly at hF
 refine cv_of_cw 32 Tryz.func97 rfl Tryz.ntmps97 rfl ?_
 refine cq (cr ?_)
 refine sS 1 (yB 62 (.agg #[vi p.Qubits, vi p.Phase, .slice B p.Terms.length c, .slice B1 p.Out.Rows.length c1]) [vi p.Qubits, vi p.Phase, .slice B p.Terms.length c, .slice B1 p.Out.Rows.length c1] 4 hS) ?_
 rintro _ w_ ⟨b, rfl, hS1⟩
 refine sQ 2 (yg (.bool false)) (rn (cq (cr ?_)))
 refine sQ 3 (yd (aD b) 0 0 K73 K0) <| sQ 4 (yl (aD b) 0 [vi p.Qubits, vi p.Phase, .slice B p.Terms.length c, .slice B1 p.Out.Rows.length c1] (vi p.Qubits) K1 (hS1.c 0)) ?_
 obtain ⟨r_1, hc, hF⟩ := bI hF
 refine sc 5 rfl rfl (yC [vi p.Qubits, vi 1, vi 5] K30 (c_impl_within p.Qubits 1 5 _  (hS1.inn0 [] rfl) hc)) ?_
 rintro _ w_1 ⟨rfl, hd⟩
 have hS2 := hS1.out00 hd
 refine sQ 6 (ym (.bool r_1)) ?_
 refine sgq 7 (B := r_1) (v := pt (aD b) 1) rfl rfl (uT_ 6) (fun hg => (yd (aD b) 0 0 K61 K0)) ?_
 refine sgq 8 (B := r_1) (v := vi p.Phase) rfl rfl (uT_ 6) (fun hg1 => (yl (aD b) 1 [vi p.Qubits, vi p.Phase, .slice B p.Terms.length c, .slice B1 p.Out.Rows.length c1] (vi p.Phase) K1 (hS2.c 0) rfl (gv_of (v := pt (aD b) 1) hg1))) ?_
 obtain ⟨r_2, hc1, hF⟩ := bI hF
 refine sgc 9 (B := r_1) (v := .bool r_2) (F := hS2.fn) rfl rfl (uT_ 6) hS2 (fun hg2 => (yC [vi p.Phase, vi 0, vi 7] K30 (CV.mono (c_impl_within p.Phase 0 7 _  (hS2.inn0 [] rfl) (gb_inv hc1 hg2)) (by rintro _ _ ⟨rfl, h⟩; exact ⟨rfl, hS2.out00 h⟩)) rfl (mc (gv_of (v := vi p.Phase) hg2) (mc rfl (mc rfl mn))))) ?_
 rintro w_2 hS3
 refine sQ 10 (Y_and (b := r_1) (z := r_2) rfl rfl rfl rfl) <| sQ 11 (ym (.bool (r_1 && r_2))) ?_
 refine sgq 12 (B := (r_1 && r_2)) (v := pt (aD b) 0) rfl rfl (uT_ 11) (fun hg3 => (yd (aD b) 0 0 K73 K0)) ?_
 refine sgq 13 (B := (r_1 && r_2)) (v := vi p.Qubits) rfl rfl (uT_ 11) (fun hg4 => (yl (aD b) 0 [vi p.Qubits, vi p.Phase, .slice B p.Terms.length c, .slice B1 p.Out.Rows.length c1] (vi p.Qubits) K1 (hS3.c 0) rfl (gv_of (v := pt (aD b) 0) hg4))) ?_
 refine sgq 14 (B := (r_1 && r_2)) (v := pt (aD b) 2) rfl rfl (uT_ 11) (fun hg5 => (yd (aD b) 0 0 K71 K62)) ?_
 refine sgq 15 (B := (r_1 && r_2)) (v := .slice B p.Terms.length c) rfl rfl (uT_ 11) (fun hg6 => (yl (aD b) 2 [vi p.Qubits, vi p.Phase, .slice B p.Terms.length c, .slice B1 p.Out.Rows.length c1] (.slice B p.Terms.length c) K87 (hS3.c 0) rfl (gv_of (v := pt (aD b) 2) hg6))) ?_
 obtain ⟨r_3, hc2, hF⟩ := bI hF
 refine sgc 16 (B := (r_1 && r_2)) (v := .bool r_3) (F := hS3.fn) rfl rfl (uT_ 11) hS3 (fun hg7 => (yC [vi p.Qubits, .slice B p.Terms.length c] k_call_120 (CV.mono (c_impl_areTerms p.Qubits p.Terms B c p.Terms.length _ rfl (hS3.inn0 [(true, 0)] rfl) (gb_inv hc2 hg7)) (by rintro _ _ ⟨rfl, h⟩; exact ⟨rfl, hS3.out00 h⟩)) rfl (mc (gv_of (v := vi p.Qubits) hg7) (mc (gv_of (v := .slice B p.Terms.length c) hg7) mn)))) ?_
 rintro w_3 hS4
 refine sQ 17 (Y_and (b := (r_1 && r_2)) (z := r_3) rfl rfl rfl rfl) <| sQ 18 (ym (.bool ((r_1 && r_2) && r_3))) ?_
 refine sgq 19 (B := ((r_1 && r_2) && r_3)) (v := pt (aD b) 3) rfl rfl (uT_ 18) (fun hg8 => (yd (aD b) 0 0 K66 K19)) ?_
 refine sgq 20 (B := ((r_1 && r_2) && r_3)) (v := pt (aD b) 3) rfl rfl (uT_ 18) (fun hg9 => (yd (aD b) 3 0 K29 K14 rfl (gv_of (v := pt (aD b) 3) hg9))) ?_
 refine sgq 21 (B := ((r_1 && r_2) && r_3)) (v := .slice B1 p.Out.Rows.length c1) rfl rfl (uT_ 18) (fun hg10 => (yl (aD b) 3 [vi p.Qubits, vi p.Phase, .slice B p.Terms.length c, .slice B1 p.Out.Rows.length c1] (.slice B1 p.Out.Rows.length c1) K13 (hS4.c 0) rfl (gv_of (v := pt (aD b) 3) hg10))) ?_
 refine sgq 22 (B := ((r_1 && r_2) && r_3)) (v := vi (p.Out.Rows.length : Int)) rfl rfl (uT_ 18) (fun hg11 => (Y_len (B := B1) (m := p.Out.Rows.length) (c := c1) K2 rfl (gv_of (v := .slice B1 p.Out.Rows.length c1) hg11))) ?_
 refine sgq 23 (B := ((r_1 && r_2) && r_3)) (v := pt (aD b) 0) rfl rfl (uT_ 18) (fun hg12 => (yd (aD b) 0 0 K73 K0)) ?_
 refine sgq 24 (B := ((r_1 && r_2) && r_3)) (v := vi p.Qubits) rfl rfl (uT_ 18) (fun hg13 => (yl (aD b) 0 [vi p.Qubits, vi p.Phase, .slice B p.Terms.length c, .slice B1 p.Out.Rows.length c1] (vi p.Qubits) K1 (hS4.c 0) rfl (gv_of (v := pt (aD b) 0) hg13))) ?_
 refine sgq 25 (B := ((r_1 && r_2) && r_3)) (v := .bool ((p.Out.Rows.length : Int) == p.Qubits)) rfl rfl (uT_ 18) (fun hg14 => (yE (p.Out.Rows.length : Int) p.Qubits rfl (gv_of (v := vi (p.Out.Rows.length : Int)) hg14) (gv_of (v := vi p.Qubits) hg14))) ?_
 refine sQ 26 (Y_and (b := ((r_1 && r_2) && r_3)) (z := ((p.Out.Rows.length : Int) == p.Qubits)) rfl rfl rfl rfl) <| sQ 27 (ym (.bool (((r_1 && r_2) && r_3) && ((p.Out.Rows.length : Int) == p.Qubits)))) ?_
 refine sgq 28 (B := (((r_1 && r_2) && r_3) && ((p.Out.Rows.length : Int) == p.Qubits))) (v := pt (aD b) 3) rfl rfl (uT_ 27) (fun hg15 => (yd (aD b) 0 0 K66 K19)) ?_
 refine sgq 29 (B := (((r_1 && r_2) && r_3) && ((p.Out.Rows.length : Int) == p.Qubits))) (v := .agg #[.slice B1 p.Out.Rows.length c1]) rfl rfl (uT_ 27) (fun hg16 => (ya (aD b) 3 [vi p.Qubits, vi p.Phase, .slice B p.Terms.length c, .slice B1 p.Out.Rows.length c1] [.slice B1 p.Out.Rows.length c1] K51 K19 (hS4.c 0) rfl (gv_of (v := pt (aD b) 3) hg16))) ?_
 obtain ⟨r_4, hc3, hF⟩ := bI hF
 refine sgc 30 (B := (((r_1 && r_2) && r_3) && ((p.Out.Rows.length : Int) == p.Qubits))) (v := .bool r_4) (F := hS4.fn) rfl rfl (uT_ 27) hS4 (fun hg17 => (yC [.agg #[.slice B1 p.Out.Rows.length c1]] k_call_194 (CV.mono (c_impl_IsValidLinear p.Out B1 c1 p.Out.Rows.length _ rfl (hS4.inn0 [(true, 1)] rfl) (gb_inv hc3 hg17)) (by rintro _ _ ⟨rfl, h⟩; exact ⟨rfl, hS4.out00 h⟩)) rfl (mc (gv_of (v := .agg #[.slice B1 p.Out.Rows.length c1]) hg17) mn))) ?_
 rintro w_4 hS5
 refine sQ 31 (Y_and (b := (((r_1 && r_2) && r_3) && ((p.Out.Rows.length : Int) == p.Qubits))) (z := r_4) rfl rfl rfl rfl) <| sQ 2 (yg (.bool ((((r_1 && r_2) && r_3) && ((p.Out.Rows.length : Int) == p.Qubits)) && r_4))) (rn (ct_ ?_))
 obtain rfl := sI hF
 exact ret1 Tryz.results97 (v1 := .bool ((((r_1 && r_2) && r_3) && ((p.Out.Rows.length : Int) == p.Qubits)) && r_4)) (resAt_tmp rfl) ⟨rfl, (hS5.sN [])⟩

theorem c_slices_Reverse_impl_Gate_impl_Gate (s : List TGate) (B : Option Addr) (c n : Nat) (w0 : World) (hn : s.length = n) (hS : ST w0 (bl [⟨B, 120, (s.flatMap eN0), c * 3⟩]) w0 [⟨B, 120, (s.flatMap eN0), c * 3⟩] []) {m : List TGate} (hF : F_slices_Reverse_impl_Gate_impl_Gate s = some m) :
  CV Tryz.prog 139 #[.slice B n c] w0 (fun v w' => v = .tuple #[] ∧ m.length = n ∧ ST w0 (bl [⟨B, 120, (s.flatMap eN0), c * 3⟩]) w' [⟨B, 120, (m.flatMap eN0), c * 3⟩] []) := by
 subst hn
 unfold F_slices_Reverse_impl_Gate_impl_Gate at hF
 refine cv_of_cw 28 Tryz.func139 rfl Tryz.ntmps139 rfl ?_
 refine cq (cr ?_)
 refine sQ 4 (ym (.slice B s.length c)) <| sQ 5 (Y_len (B := B) (m := s.length) (c := c) K5 rfl rfl) <| sQ 6 (yM (s.length : Int) 1) <| sQ 2 (yg (vi 0)) <| sQ 3 (yg (vi (i64.wrap ((s.length : Int) - 1)))) (rn ?_)
 obtain ⟨z, hz, hF1⟩ := bI hF
 refine cw_block ?_
 refine cw_loop (fun k f w => ∃ (m1 : List TGate) (i : Int) (j : Int), FF f [(0, .slice B s.length c), (2, vi i), (3, vi j)] ∧ m1.length = s.length ∧ ST w0 (bl [⟨B, 120, (s.flatMap eN0), c * 3⟩]) w [⟨B, 120, (m1.flatMap eN0), c * 3⟩] [] ∧ whX F_slices_Reverse_impl_Gate_impl_Gate_l1 k (m1, i, j) = some z) fuel ⟨s, 0, (i64.wrap ((s.length : Int) - 1)), (fc rfl (fc rfl (fc rfl fn_))), rfl, (hS.sel [0] rfl rfl), hz⟩ ?_
 rintro k_ f w ⟨m1, i, j, hf, hl, hS1, hL⟩
 obtain ⟨K7, y, rfl, hb, hL1⟩ := whX_go hL
 unfold F_slices_Reverse_impl_Gate_impl_Gate_l1 at hb
 refine cq (cq (cr ?_))
 refine sQ 7 (ym (vi i) rfl (hf.g 2 1)) <| sQ 8 (ym (vi j) rfl (hf.g 3 2)) <| sQ 9 (yL i j) (rn ?_)
 refine cw_cond (b := (decide (i < j))) rfl (fun hb1 => ?_) (fun hb1 => ?_)
 ·skip
  have hF2 := ct hb hb1
  refine cw_skip (cq (cw_block ?_))
  obtain ⟨x, hx, hF2⟩ := bI hF2
  obtain ⟨x1, hx1, hF2⟩ := bI hF2
  obtain ⟨x2, hx2, hF2⟩ := bI hF2
  refine cw_mid (fun f w => FF f [(0, .slice B s.length c), (2, vi i), (3, vi j)] ∧ ST w0 (bl [⟨B, 120, (s.flatMap eN0), c * 3⟩]) w [⟨B, 120, (((m1.set i.toNat x).set j.toNat x1).flatMap eN0), c * 3⟩] []) ?_ ?_
  ·skip
   refine ra_start (hS1.se []).fn (by kernel_rfl) ?_
   have hS3 := hS1.drew
   refine rq 0 14 (v := .slice B s.length c) rfl (hS3.se []) (fun w' hw' => (ym (.slice B s.length c) rfl (hf.g 0 0))) ?_
   refine rq 1 15 (v := vi i) rfl (hS3.se []) (fun w' hw' => (ym (vi i) rfl (hf.g 2 1))) ?_
   refine rq 2 16 (v := .slice B s.length c) rfl (hS3.se []) (fun w' hw' => (ym (.slice B s.length c) rfl (hf.g 0 0))) ?_
   refine rq 3 17 (v := vi j) rfl (hS3.se []) (fun w' hw' => (ym (vi j) rfl (hf.g 3 2))) ?_
   refine rq 4 18 (v := .slice B s.length c) rfl (hS3.se []) (fun w' hw' => (ym (.slice B s.length c) rfl (hf.g 0 0))) ?_
   refine rq 5 19 (v := vi j) rfl (hS3.se []) (fun w' hw' => (ym (vi j) rfl (hf.g 3 2))) ?_
   refine rq 8 22 (v := .slice B s.length c) rfl (hS3.se []) (fun w' hw' => (ym (.slice B s.length c) rfl (hf.g 0 0))) ?_
   refine rq 9 23 (v := vi i) rfl (hS3.se []) (fun w' hw' => (ym (vi i) rfl (hf.g 2 1))) ?_
   refine rA [6, 10] ?_
   refine ra_y 20 (i := 6) (v := pt B (j.toNat * 3)) rfl rfl rfl (Y_index (B := B) (m := s.length) (c := c) (k := .i64) (i := j) K5 K3 rfl rfl rfl (gi_isSome eN1 rfl (hS3.c 0) hx) (getI_nn hx) (getI_ltI hx hl)) (hS3.se []) ?_ ?_
   ·skip
    refine rA [7, 10] ?_
    refine ra_y 21 (i := 7) (v := .agg #[vi x.Kind, vi x.A, vi x.B]) rfl rfl rfl (ya B (j.toNat * 3) (m1.flatMap eN0) [vi x.Kind, vi x.A, vi x.B] K24 K3 (hS3.c 0) rfl rfl (eN1 x) (gi_seg eN1 hx)) (hS3.se []) ?_ ?_
    ·skip
     refine rA [10] ?_
     refine ra_y 24 (i := 10) (v := pt B (i.toNat * 3)) rfl rfl rfl (Y_index (B := B) (m := s.length) (c := c) (k := .i64) (i := i) K5 K3 rfl rfl rfl (gi_isSome eN1 rfl (hS3.c 0) hx1) (getI_nn hx1) (getI_ltI hx1 hl)) (hS3.se []) ?_ ?_
     ·skip
      refine rA [11] ?_
      refine ra_y 25 (i := 11) (v := .agg #[vi x1.Kind, vi x1.A, vi x1.B]) rfl rfl rfl (ya B (i.toNat * 3) (m1.flatMap eN0) [vi x1.Kind, vi x1.A, vi x1.B] K24 K3 (hS3.c 0) rfl rfl (eN1 x1) (gi_seg eN1 hx1)) (hS3.se []) ?_ ?_
      ·skip
       refine rA [12] ?_
       refine ra_y 26 (i := 12) (v := pt B (i.toNat * 3)) rfl rfl rfl (Y_index (B := B) (m := s.length) (c := c) (k := .i64) (i := i) K5 K3 rfl rfl rfl (gi_isSome eN1 rfl (hS3.c 0) hx1) (getI_nn hx1) (getI_ltI hx1 hl)) (hS3.se []) ?_ ?_
       ·skip
        refine rA [13] ?_
        refine rZ 13 rfl (yS 0 3 B 120 (.agg #[vi x.Kind, vi x.A, vi x.B]) [vi x.Kind, vi x.A, vi x.B] (i.toNat * 3) ((m1.set i.toNat x).flatMap eN0) hS3 K3 rfl rfl rfl rfl rfl rfl rfl (gi_fit0 eN1 hx1) (gi_set eN1 hx1 x rfl)) ?_ ?_
        ·rintro _ w_ ⟨rfl, hS4⟩
         refine ⟨(hS4.se []), ?_⟩
         refine rA [14] ?_
         refine ra_y 27 (i := 14) (v := pt B (j.toNat * 3)) rfl rfl rfl (Y_index (B := B) (m := s.length) (c := c) (k := .i64) (i := j) K5 K3 rfl rfl rfl (gi_isSome eN1 rfl (hS4.c 0) hx2) (getI_nn hx2) (getI_ltI hx2 (set_len _ _ _ hl))) (hS4.se []) ?_ ?_
         ·skip
          refine rA [15] ?_
          refine rZ 15 rfl (yS 0 3 B 120 (.agg #[vi x1.Kind, vi x1.A, vi x1.B]) [vi x1.Kind, vi x1.A, vi x1.B] (j.toNat * 3) (((m1.set i.toNat x).set j.toNat x1).flatMap eN0) hS4 K3 rfl rfl rfl rfl rfl rfl rfl (gi_fit0 eN1 hx2) (gi_set eN1 hx2 x1 rfl)) ?_ ?_
          ·rintro _ w_1 ⟨rfl, hS5⟩
           refine ⟨(hS5.se []), ?_⟩
           refine ra_done (by kernel_rfl) ?_
           exact ⟨(fc (hf.g 0 0) (fc (hf.g 2 1) (fc (hf.g 3 2) fn_))), (hS5.sel [0] rfl rfl)⟩
          exact aN
         exact aN
        exact aN
       exact aN
      exact aN
     exact aN
    refine ra_y 24 (i := 10) (v := pt B (i.toNat * 3)) rfl rfl rfl (Y_index (B := B) (m := s.length) (c := c) (k := .i64) (i := i) K5 K3 rfl rfl rfl (gi_isSome eN1 rfl (hS3.c 0) hx1) (getI_nn hx1) (getI_ltI hx1 hl)) (hS3.se []) ?_ ?_
    ·skip
     refine rA [7, 11] ?_
     refine ra_y 21 (i := 7) (v := .agg #[vi x.Kind, vi x.A, vi x.B]) rfl rfl rfl (ya B (j.toNat * 3) (m1.flatMap eN0) [vi x.Kind, vi x.A, vi x.B] K24 K3 (hS3.c 0) rfl rfl (eN1 x) (gi_seg eN1 hx)) (hS3.se []) ?_ ?_
     ·skip
      refine rA [11] ?_
      refine ra_y 25 (i := 11) (v := .agg #[vi x1.Kind, vi x1.A, vi x1.B]) rfl rfl rfl (ya B (i.toNat * 3) (m1.flatMap eN0) [vi x1.Kind, vi x1.A, vi x1.B] K24 K3 (hS3.c 0) rfl rfl (eN1 x1) (gi_seg eN1 hx1)) (hS3.se []) ?_ ?_
      ·skip
       refine rA [12] ?_
       refine ra_y 26 (i := 12) (v := pt B (i.toNat * 3)) rfl rfl rfl (Y_index (B := B) (m := s.length) (c := c) (k := .i64) (i := i) K5 K3 rfl rfl rfl (gi_isSome eN1 rfl (hS3.c 0) hx1) (getI_nn hx1) (getI_ltI hx1 hl)) (hS3.se []) ?_ ?_
       ·skip
        refine rA [13] ?_
        refine rZ 13 rfl (yS 0 3 B 120 (.agg #[vi x.Kind, vi x.A, vi x.B]) [vi x.Kind, vi x.A, vi x.B] (i.toNat * 3) ((m1.set i.toNat x).flatMap eN0) hS3 K3 rfl rfl rfl rfl rfl rfl rfl (gi_fit0 eN1 hx1) (gi_set eN1 hx1 x rfl)) ?_ ?_
        ·rintro _ w_2 ⟨rfl, hS6⟩
         refine ⟨(hS6.se []), ?_⟩
         refine rA [14] ?_
         refine ra_y 27 (i := 14) (v := pt B (j.toNat * 3)) rfl rfl rfl (Y_index (B := B) (m := s.length) (c := c) (k := .i64) (i := j) K5 K3 rfl rfl rfl (gi_isSome eN1 rfl (hS6.c 0) hx2) (getI_nn hx2) (getI_ltI hx2 (set_len _ _ _ hl))) (hS6.se []) ?_ ?_
         ·skip
          refine rA [15] ?_
          refine rZ 15 rfl (yS 0 3 B 120 (.agg #[vi x1.Kind, vi x1.A, vi x1.B]) [vi x1.Kind, vi x1.A, vi x1.B] (j.toNat * 3) (((m1.set i.toNat x).set j.toNat x1).flatMap eN0) hS6 K3 rfl rfl rfl rfl rfl rfl rfl (gi_fit0 eN1 hx2) (gi_set eN1 hx2 x1 rfl)) ?_ ?_
          ·rintro _ w_3 ⟨rfl, hS7⟩
           refine ⟨(hS7.se []), ?_⟩
           refine ra_done (by kernel_rfl) ?_
           exact ⟨(fc (hf.g 0 0) (fc (hf.g 2 1) (fc (hf.g 3 2) fn_))), (hS7.sel [0] rfl rfl)⟩
          exact aN
         exact aN
        exact aN
       exact aN
      exact aN
     refine ra_y 25 (i := 11) (v := .agg #[vi x1.Kind, vi x1.A, vi x1.B]) rfl rfl rfl (ya B (i.toNat * 3) (m1.flatMap eN0) [vi x1.Kind, vi x1.A, vi x1.B] K24 K3 (hS3.c 0) rfl rfl (eN1 x1) (gi_seg eN1 hx1)) (hS3.se []) ?_ ?_
     ·skip
      refine rA [7] ?_
      refine ra_y 21 (i := 7) (v := .agg #[vi x.Kind, vi x.A, vi x.B]) rfl rfl rfl (ya B (j.toNat * 3) (m1.flatMap eN0) [vi x.Kind, vi x.A, vi x.B] K24 K3 (hS3.c 0) rfl rfl (eN1 x) (gi_seg eN1 hx)) (hS3.se []) ?_ ?_
      ·skip
       refine rA [12] ?_
       refine ra_y 26 (i := 12) (v := pt B (i.toNat * 3)) rfl rfl rfl (Y_index (B := B) (m := s.length) (c := c) (k := .i64) (i := i) K5 K3 rfl rfl rfl (gi_isSome eN1 rfl (hS3.c 0) hx1) (getI_nn hx1) (getI_ltI hx1 hl)) (hS3.se []) ?_ ?_
       ·skip
        refine rA [13] ?_
        refine rZ 13 rfl (yS 0 3 B 120 (.agg #[vi x.Kind, vi x.A, vi x.B]) [vi x.Kind, vi x.A, vi x.B] (i.toNat * 3) ((m1.set i.toNat x).flatMap eN0) hS3 K3 rfl rfl rfl rfl rfl rfl rfl (gi_fit0 eN1 hx1) (gi_set eN1 hx1 x rfl)) ?_ ?_
        ·rintro _ w_4 ⟨rfl, hS8⟩
         refine ⟨(hS8.se []), ?_⟩
         refine rA [14] ?_
         refine ra_y 27 (i := 14) (v := pt B (j.toNat * 3)) rfl rfl rfl (Y_index (B := B) (m := s.length) (c := c) (k := .i64) (i := j) K5 K3 rfl rfl rfl (gi_isSome eN1 rfl (hS8.c 0) hx2) (getI_nn hx2) (getI_ltI hx2 (set_len _ _ _ hl))) (hS8.se []) ?_ ?_
         ·skip
          refine rA [15] ?_
          refine rZ 15 rfl (yS 0 3 B 120 (.agg #[vi x1.Kind, vi x1.A, vi x1.B]) [vi x1.Kind, vi x1.A, vi x1.B] (j.toNat * 3) (((m1.set i.toNat x).set j.toNat x1).flatMap eN0) hS8 K3 rfl rfl rfl rfl rfl rfl rfl (gi_fit0 eN1 hx2) (gi_set eN1 hx2 x1 rfl)) ?_ ?_
          ·rintro _ w_5 ⟨rfl, hS9⟩
           refine ⟨(hS9.se []), ?_⟩
           refine ra_done (by kernel_rfl) ?_
           exact ⟨(fc (hf.g 0 0) (fc (hf.g 2 1) (fc (hf.g 3 2) fn_))), (hS9.sel [0] rfl rfl)⟩
          exact aN
         exact aN
        exact aN
       exact aN
      exact aN
     exact aN
    exact aN
   refine ra_y 24 (i := 10) (v := pt B (i.toNat * 3)) rfl rfl rfl (Y_index (B := B) (m := s.length) (c := c) (k := .i64) (i := i) K5 K3 rfl rfl rfl (gi_isSome eN1 rfl (hS3.c 0) hx1) (getI_nn hx1) (getI_ltI hx1 hl)) (hS3.se []) ?_ ?_
   ·skip
    refine rA [6, 11] ?_
    refine ra_y 20 (i := 6) (v := pt B (j.toNat * 3)) rfl rfl rfl (Y_index (B := B) (m := s.length) (c := c) (k := .i64) (i := j) K5 K3 rfl rfl rfl (gi_isSome eN1 rfl (hS3.c 0) hx) (getI_nn hx) (getI_ltI hx hl)) (hS3.se []) ?_ ?_
    ·skip
     refine rA [7, 11] ?_
     refine ra_y 21 (i := 7) (v := .agg #[vi x.Kind, vi x.A, vi x.B]) rfl rfl rfl (ya B (j.toNat * 3) (m1.flatMap eN0) [vi x.Kind, vi x.A, vi x.B] K24 K3 (hS3.c 0) rfl rfl (eN1 x) (gi_seg eN1 hx)) (hS3.se []) ?_ ?_
     ·skip
      refine rA [11] ?_
      refine ra_y 25 (i := 11) (v := .agg #[vi x1.Kind, vi x1.A, vi x1.B]) rfl rfl rfl (ya B (i.toNat * 3) (m1.flatMap eN0) [vi x1.Kind, vi x1.A, vi x1.B] K24 K3 (hS3.c 0) rfl rfl (eN1 x1) (gi_seg eN1 hx1)) (hS3.se []) ?_ ?_
      ·skip
       refine rA [12] ?_
       refine ra_y 26 (i := 12) (v := pt B (i.toNat * 3)) rfl rfl rfl (Y_index (B := B) (m := s.length) (c := c) (k := .i64) (i := i) K5 K3 rfl rfl rfl (gi_isSome eN1 rfl (hS3.c 0) hx1) (getI_nn hx1) (getI_ltI hx1 hl)) (hS3.se []) ?_ ?_
       ·skip
        refine rA [13] ?_
        refine rZ 13 rfl (yS 0 3 B 120 (.agg #[vi x.Kind, vi x.A, vi x.B]) [vi x.Kind, vi x.A, vi x.B] (i.toNat * 3) ((m1.set i.toNat x).flatMap eN0) hS3 K3 rfl rfl rfl rfl rfl rfl rfl (gi_fit0 eN1 hx1) (gi_set eN1 hx1 x rfl)) ?_ ?_
        ·rintro _ w_6 ⟨rfl, hS10⟩
         refine ⟨(hS10.se []), ?_⟩
         refine rA [14] ?_
         refine ra_y 27 (i := 14) (v := pt B (j.toNat * 3)) rfl rfl rfl (Y_index (B := B) (m := s.length) (c := c) (k := .i64) (i := j) K5 K3 rfl rfl rfl (gi_isSome eN1 rfl (hS10.c 0) hx2) (getI_nn hx2) (getI_ltI hx2 (set_len _ _ _ hl))) (hS10.se []) ?_ ?_
         ·skip
          refine rA [15] ?_
          refine rZ 15 rfl (yS 0 3 B 120 (.agg #[vi x1.Kind, vi x1.A, vi x1.B]) [vi x1.Kind, vi x1.A, vi x1.B] (j.toNat * 3) (((m1.set i.toNat x).set j.toNat x1).flatMap eN0) hS10 K3 rfl rfl rfl rfl rfl rfl rfl (gi_fit0 eN1 hx2) (gi_set eN1 hx2 x1 rfl)) ?_ ?_
          ·rintro _ w_7 ⟨rfl, hS11⟩
           refine ⟨(hS11.se []), ?_⟩
           refine ra_done (by kernel_rfl) ?_
           exact ⟨(fc (hf.g 0 0) (fc (hf.g 2 1) (fc (hf.g 3 2) fn_))), (hS11.sel [0] rfl rfl)⟩
          exact aN
         exact aN
        exact aN
       exact aN
      exact aN
     refine ra_y 25 (i := 11) (v := .agg #[vi x1.Kind, vi x1.A, vi x1.B]) rfl rfl rfl (ya B (i.toNat * 3) (m1.flatMap eN0) [vi x1.Kind, vi x1.A, vi x1.B] K24 K3 (hS3.c 0) rfl rfl (eN1 x1) (gi_seg eN1 hx1)) (hS3.se []) ?_ ?_
     ·skip
      refine rA [7] ?_
      refine ra_y 21 (i := 7) (v := .agg #[vi x.Kind, vi x.A, vi x.B]) rfl rfl rfl (ya B (j.toNat * 3) (m1.flatMap eN0) [vi x.Kind, vi x.A, vi x.B] K24 K3 (hS3.c 0) rfl rfl (eN1 x) (gi_seg eN1 hx)) (hS3.se []) ?_ ?_
      ·skip
       refine rA [12] ?_
       refine ra_y 26 (i := 12) (v := pt B (i.toNat * 3)) rfl rfl rfl (Y_index (B := B) (m := s.length) (c := c) (k := .i64) (i := i) K5 K3 rfl rfl rfl (gi_isSome eN1 rfl (hS3.c 0) hx1) (getI_nn hx1) (getI_ltI hx1 hl)) (hS3.se []) ?_ ?_
       ·skip
        refine rA [13] ?_
        refine rZ 13 rfl (yS 0 3 B 120 (.agg #[vi x.Kind, vi x.A, vi x.B]) [vi x.Kind, vi x.A, vi x.B] (i.toNat * 3) ((m1.set i.toNat x).flatMap eN0) hS3 K3 rfl rfl rfl rfl rfl rfl rfl (gi_fit0 eN1 hx1) (gi_set eN1 hx1 x rfl)) ?_ ?_
        ·rintro _ w_8 ⟨rfl, hS12⟩
         refine ⟨(hS12.se []), ?_⟩
         refine rA [14] ?_
         refine ra_y 27 (i := 14) (v := pt B (j.toNat * 3)) rfl rfl rfl (Y_index (B := B) (m := s.length) (c := c) (k := .i64) (i := j) K5 K3 rfl rfl rfl (gi_isSome eN1 rfl (hS12.c 0) hx2) (getI_nn hx2) (getI_ltI hx2 (set_len _ _ _ hl))) (hS12.se []) ?_ ?_
         ·skip
          refine rA [15] ?_
          refine rZ 15 rfl (yS 0 3 B 120 (.agg #[vi x1.Kind, vi x1.A, vi x1.B]) [vi x1.Kind, vi x1.A, vi x1.B] (j.toNat * 3) (((m1.set i.toNat x).set j.toNat x1).flatMap eN0) hS12 K3 rfl rfl rfl rfl rfl rfl rfl (gi_fit0 eN1 hx2) (gi_set eN1 hx2 x1 rfl)) ?_ ?_
          ·rintro _ w_9 ⟨rfl, hS13⟩
           refine ⟨(hS13.se []), ?_⟩
           refine ra_done (by kernel_rfl) ?_
           exact ⟨(fc (hf.g 0 0) (fc (hf.g 2 1) (fc (hf.g 3 2) fn_))), (hS13.sel [0] rfl rfl)⟩
          exact aN
         exact aN
        exact aN
       exact aN
      exact aN
     exact aN
    refine ra_y 25 (i := 11) (v := .agg #[vi x1.Kind, vi x1.A, vi x1.B]) rfl rfl rfl (ya B (i.toNat * 3) (m1.flatMap eN0) [vi x1.Kind, vi x1.A, vi x1.B] K24 K3 (hS3.c 0) rfl rfl (eN1 x1) (gi_seg eN1 hx1)) (hS3.se []) ?_ ?_
    ·skip
     refine rA [6] ?_
     refine ra_y 20 (i := 6) (v := pt B (j.toNat * 3)) rfl rfl rfl (Y_index (B := B) (m := s.length) (c := c) (k := .i64) (i := j) K5 K3 rfl rfl rfl (gi_isSome eN1 rfl (hS3.c 0) hx) (getI_nn hx) (getI_ltI hx hl)) (hS3.se []) ?_ ?_
     ·skip
      refine rA [7] ?_
      refine ra_y 21 (i := 7) (v := .agg #[vi x.Kind, vi x.A, vi x.B]) rfl rfl rfl (ya B (j.toNat * 3) (m1.flatMap eN0) [vi x.Kind, vi x.A, vi x.B] K24 K3 (hS3.c 0) rfl rfl (eN1 x) (gi_seg eN1 hx)) (hS3.se []) ?_ ?_
      ·skip
       refine rA [12] ?_
       refine ra_y 26 (i := 12) (v := pt B (i.toNat * 3)) rfl rfl rfl (Y_index (B := B) (m := s.length) (c := c) (k := .i64) (i := i) K5 K3 rfl rfl rfl (gi_isSome eN1 rfl (hS3.c 0) hx1) (getI_nn hx1) (getI_ltI hx1 hl)) (hS3.se []) ?_ ?_
       ·skip
        refine rA [13] ?_
        refine rZ 13 rfl (yS 0 3 B 120 (.agg #[vi x.Kind, vi x.A, vi x.B]) [vi x.Kind, vi x.A, vi x.B] (i.toNat * 3) ((m1.set i.toNat x).flatMap eN0) hS3 K3 rfl rfl rfl rfl rfl rfl rfl (gi_fit0 eN1 hx1) (gi_set eN1 hx1 x rfl)) ?_ ?_
        ·rintro _ w_10 ⟨rfl, hS14⟩
         refine ⟨(hS14.se []), ?_⟩
         refine rA [14] ?_
         refine ra_y 27 (i := 14) (v := pt B (j.toNat * 3)) rfl rfl rfl (Y_index (B := B) (m := s.length) (c := c) (k := .i64) (i := j) K5 K3 rfl rfl rfl (gi_isSome eN1 rfl (hS14.c 0) hx2) (getI_nn hx2) (getI_ltI hx2 (set_len _ _ _ hl))) (hS14.se []) ?_ ?_
         ·skip
          refine rA [15] ?_
          refine rZ 15 rfl (yS 0 3 B 120 (.agg #[vi x1.Kind, vi x1.A, vi x1.B]) [vi x1.Kind, vi x1.A, vi x1.B] (j.toNat * 3) (((m1.set i.toNat x).set j.toNat x1).flatMap eN0) hS14 K3 rfl rfl rfl rfl rfl rfl rfl (gi_fit0 eN1 hx2) (gi_set eN1 hx2 x1 rfl)) ?_ ?_
          ·rintro _ w_11 ⟨rfl, hS15⟩
           refine ⟨(hS15.se []), ?_⟩
           refine ra_done (by kernel_rfl) ?_
           exact ⟨(fc (hf.g 0 0) (fc (hf.g 2 1) (fc (hf.g 3 2) fn_))), (hS15.sel [0] rfl rfl)⟩
          exact aN
         exact aN
        exact aN
       exact aN
      exact aN
     exact aN
    exact aN
   exact aN
  rintro f w ⟨hf1, hS2⟩
  refine cr ?_
  refine sQ 10 (ym (vi i) rfl (hf1.g 2 1)) <| sQ 11 (yP i 1) <| sQ 12 (ym (vi j) rfl (hf1.g 3 2)) <| sQ 13 (yM j 1) <| sQ 2 (yg (vi (i64.wrap (i + 1)))) <| sQ 3 (yg (vi (i64.wrap (j - 1)))) (rn ?_)
  obtain rfl := sI hF2
  exact ⟨K7, Nat.lt_succ_self _, ((m1.set i.toNat x).set j.toNat x1), (i64.wrap (i + 1)), (i64.wrap (j - 1)), (fc (hf1.g 0 0) (fc rfl (fc rfl fn_))), (set_len _ _ _ (set_len _ _ _ hl)), (hS2.sel [0] rfl rfl), hL1⟩
 ·skip
  have hF3 := cf' hb hb1
  refine cw_exit rfl ?_
  obtain rfl := sI hF3
  obtain rfl := sI hL1
  obtain rfl := sI hF1
  exact ret0 Tryz.results139  ⟨rfl, hl, (hS1.sN [0])⟩

theorem c_impl_eliminated_1 (from_ : Int) (to_ : Int) (p : List Int) (p1 : List TGate) (B : Option Addr) (B1 : Option Addr) (c n : Nat) (B2 : Option Addr) (B3 : Option Addr) (c1 n1 : Nat) (w0 : World) (hn : p.length = n) (hn1 : p1.length = n1) (hS : ST w0 (bl [⟨B1, 3, (p.flatMap encI), c * 1⟩, ⟨B2, 26, [.slice B3 n1 c1], 1⟩, ⟨B3, 120, (p1.flatMap eN0), c1 * 3⟩]) w0 [⟨B1, 3, (p.flatMap encI), c * 1⟩, ⟨B2, 26, [.slice B3 n1 c1], 1⟩, ⟨B3, 120, (p1.flatMap eN0), c1 * 3⟩] [⟨B, [.slice B1 n c]⟩]) {m : List Int} {m1 : List TGate} (hF : F_impl_eliminated_1 from_ to_ p p1 = some (m, m1)) :
  CV Tryz.prog 282 #[vi from_, vi to_, pt B 0, pt B2 0] w0 (fun v w' => ∃ (B4 : Option Addr) (c2 : Nat), v = .tuple #[] ∧ m.length = n ∧ ST w0 (bl [⟨B1, 3, (p.flatMap encI), c * 1⟩, ⟨B2, 26, [.slice B3 n1 c1], 1⟩, ⟨B3, 120, (p1.flatMap eN0), c1 * 3⟩]) w' [⟨B1, 3, (m.flatMap encI), c * 1⟩, ⟨B2, 26, [.slice B4 m1.length c2], 1⟩, ⟨B4, 120, (m1.flatMap eN0), c2 * 3⟩] []) := by
 subst hn
 subst hn1
 unfold F_impl_eliminated_1 at hF
 refine cv_of_cw 22 Tryz.func282 rfl Tryz.ntmps282 rfl ?_
 refine cq ?_
 obtain ⟨x, hx, hF⟩ := bI hF
 obtain ⟨x1, hx1, hF⟩ := bI hF
 refine cw_mid (fun f w => FF f [(0, vi from_), (1, vi to_), (3, pt B2 0)] ∧ ST w0 (bl [⟨B1, 3, (p.flatMap encI), c * 1⟩, ⟨B2, 26, [.slice B3 p1.length c1], 1⟩, ⟨B3, 120, (p1.flatMap eN0), c1 * 3⟩]) w [⟨B1, 3, ((p.set to_.toNat (bits .xor .i64 x x1)).flatMap encI), c * 1⟩, ⟨B2, 26, [.slice B3 p1.length c1], 1⟩, ⟨B3, 120, (p1.flatMap eN0), c1 * 3⟩] [⟨B, [.slice B1 p.length c]⟩]) ?_ ?_
 ·skip
  refine ra_start (hS.se [1, 2]).fn (by kernel_rfl) ?_
  have hS2 := hS.drew
  refine rq 0 6 (v := .slice B1 p.length c) rfl (hS2.se [1, 2]) (fun w' hw' => (yl B 0 [.slice B1 p.length c] (.slice B1 p.length c) K13 (ST.rf hw' (i := 0) rfl))) ?_
  refine rq 1 7 (v := vi to_) rfl (hS2.se [1, 2]) (fun w' hw' => (ym (vi to_))) ?_
  refine rq 4 10 (v := .slice B1 p.length c) rfl (hS2.se [1, 2]) (fun w' hw' => (yl B 0 [.slice B1 p.length c] (.slice B1 p.length c) K13 (ST.rf hw' (i := 0) rfl))) ?_
  refine rq 5 11 (v := vi from_) rfl (hS2.se [1, 2]) (fun w' hw' => (ym (vi from_))) ?_
  refine rA [2, 6] ?_
  refine ra_y 8 (i := 2) (v := pt B1 (to_.toNat * 1)) rfl rfl rfl (Y_index (B := B1) (m := p.length) (c := c) (k := .i64) (i := to_) K2 K0 rfl rfl rfl (gi_isSome encI_len rfl (hS2.c 0) hx) (getI_nn hx) (getI_ltI hx rfl)) (hS2.se [1, 2]) ?_ ?_
  ·skip
   refine rA [3, 6] ?_
   refine ra_y 9 (i := 3) (v := vi x) rfl rfl rfl (yl B1 (to_.toNat * 1) (p.flatMap encI) (vi x) K1 (hS2.c 0) rfl rfl (gi_at0 encI_len hx rfl)) (hS2.se [1, 2]) ?_ ?_
   ·skip
    refine rA [6] ?_
    refine ra_y 12 (i := 6) (v := pt B1 (from_.toNat * 1)) rfl rfl rfl (Y_index (B := B1) (m := p.length) (c := c) (k := .i64) (i := from_) K2 K0 rfl rfl rfl (gi_isSome encI_len rfl (hS2.c 0) hx1) (getI_nn hx1) (getI_ltI hx1 rfl)) (hS2.se [1, 2]) ?_ ?_
    ·skip
     refine rA [7] ?_
     refine ra_y 13 (i := 7) (v := vi x1) rfl rfl rfl (yl B1 (from_.toNat * 1) (p.flatMap encI) (vi x1) K1 (hS2.c 0) rfl rfl (gi_at0 encI_len hx1 rfl)) (hS2.se [1, 2]) ?_ ?_
     ·skip
      refine rq 8 14 (v := vi (bits .xor .i64 x x1)) rfl (hS2.se [1, 2]) (fun w' hw' => (Y_bxor (k := .i64) (a := x) (b := x1) rfl rfl rfl)) ?_
      refine rA [9] ?_
      refine ra_y 15 (i := 9) (v := pt B1 (to_.toNat * 1)) rfl rfl rfl (Y_index (B := B1) (m := p.length) (c := c) (k := .i64) (i := to_) K2 K0 rfl rfl rfl (gi_isSome encI_len rfl (hS2.c 0) hx) (getI_nn hx) (getI_ltI hx rfl)) (hS2.se [1, 2]) ?_ ?_
      ·skip
       refine rA [10] ?_
       refine rZ 10 rfl (yS 0 1 B1 3 (vi (bits .xor .i64 x x1)) [vi (bits .xor .i64 x x1)] (to_.toNat * 1) ((p.set to_.toNat (bits .xor .i64 x x1)).flatMap encI) hS2 K0 rfl rfl rfl rfl rfl rfl rfl (gi_fit0 encI_len hx) (gi_set encI_len hx (bits .xor .i64 x x1) rfl)) ?_ ?_
       ·rintro _ w_ ⟨rfl, hS3⟩
        refine ⟨(hS3.se [1, 2]), ?_⟩
        refine ra_done (by kernel_rfl) ?_
        exact ⟨(fc rfl (fc rfl (fc rfl fn_))), (hS3.sel [0, 1, 2] rfl rfl)⟩
       exact aN
      exact aN
     exact aN
    exact aN
   refine ra_y 12 (i := 6) (v := pt B1 (from_.toNat * 1)) rfl rfl rfl (Y_index (B := B1) (m := p.length) (c := c) (k := .i64) (i := from_) K2 K0 rfl rfl rfl (gi_isSome encI_len rfl (hS2.c 0) hx1) (getI_nn hx1) (getI_ltI hx1 rfl)) (hS2.se [1, 2]) ?_ ?_
   ·skip
    refine rA [3, 7] ?_
    refine ra_y 9 (i := 3) (v := vi x) rfl rfl rfl (yl B1 (to_.toNat * 1) (p.flatMap encI) (vi x) K1 (hS2.c 0) rfl rfl (gi_at0 encI_len hx rfl)) (hS2.se [1, 2]) ?_ ?_
    ·skip
     refine rA [7] ?_
     refine ra_y 13 (i := 7) (v := vi x1) rfl rfl rfl (yl B1 (from_.toNat * 1) (p.flatMap encI) (vi x1) K1 (hS2.c 0) rfl rfl (gi_at0 encI_len hx1 rfl)) (hS2.se [1, 2]) ?_ ?_
     ·skip
      refine rq 8 14 (v := vi (bits .xor .i64 x x1)) rfl (hS2.se [1, 2]) (fun w' hw' => (Y_bxor (k := .i64) (a := x) (b := x1) rfl rfl rfl)) ?_
      refine rA [9] ?_
      refine ra_y 15 (i := 9) (v := pt B1 (to_.toNat * 1)) rfl rfl rfl (Y_index (B := B1) (m := p.length) (c := c) (k := .i64) (i := to_) K2 K0 rfl rfl rfl (gi_isSome encI_len rfl (hS2.c 0) hx) (getI_nn hx) (getI_ltI hx rfl)) (hS2.se [1, 2]) ?_ ?_
      ·skip
       refine rA [10] ?_
       refine rZ 10 rfl (yS 0 1 B1 3 (vi (bits .xor .i64 x x1)) [vi (bits .xor .i64 x x1)] (to_.toNat * 1) ((p.set to_.toNat (bits .xor .i64 x x1)).flatMap encI) hS2 K0 rfl rfl rfl rfl rfl rfl rfl (gi_fit0 encI_len hx) (gi_set encI_len hx (bits .xor .i64 x x1) rfl)) ?_ ?_
       ·rintro _ w_1 ⟨rfl, hS4⟩
        refine ⟨(hS4.se [1, 2]), ?_⟩
        refine ra_done (by kernel_rfl) ?_
        exact ⟨(fc rfl (fc rfl (fc rfl fn_))), (hS4.sel [0, 1, 2] rfl rfl)⟩
       exact aN
      exact aN
     exact aN
    refine ra_y 13 (i := 7) (v := vi x1) rfl rfl rfl (yl B1 (from_.toNat * 1) (p.flatMap encI) (vi x1) K1 (hS2.c 0) rfl rfl (gi_at0 encI_len hx1 rfl)) (hS2.se [1, 2]) ?_ ?_
    ·skip
     refine rA [3] ?_
     refine ra_y 9 (i := 3) (v := vi x) rfl rfl rfl (yl B1 (to_.toNat * 1) (p.flatMap encI) (vi x) K1 (hS2.c 0) rfl rfl (gi_at0 encI_len hx rfl)) (hS2.se [1, 2]) ?_ ?_
     ·skip
      refine rq 8 14 (v := vi (bits .xor .i64 x x1)) rfl (hS2.se [1, 2]) (fun w' hw' => (Y_bxor (k := .i64) (a := x) (b := x1) rfl rfl rfl)) ?_
      refine rA [9] ?_
      refine ra_y 15 (i := 9) (v := pt B1 (to_.toNat * 1)) rfl rfl rfl (Y_index (B := B1) (m := p.length) (c := c) (k := .i64) (i := to_) K2 K0 rfl rfl rfl (gi_isSome encI_len rfl (hS2.c 0) hx) (getI_nn hx) (getI_ltI hx rfl)) (hS2.se [1, 2]) ?_ ?_
      ·skip
       refine rA [10] ?_
       refine rZ 10 rfl (yS 0 1 B1 3 (vi (bits .xor .i64 x x1)) [vi (bits .xor .i64 x x1)] (to_.toNat * 1) ((p.set to_.toNat (bits .xor .i64 x x1)).flatMap encI) hS2 K0 rfl rfl rfl rfl rfl rfl rfl (gi_fit0 encI_len hx) (gi_set encI_len hx (bits .xor .i64 x x1) rfl)) ?_ ?_
       ·rintro _ w_2 ⟨rfl, hS5⟩
        refine ⟨(hS5.se [1, 2]), ?_⟩
        refine ra_done (by kernel_rfl) ?_
        exact ⟨(fc rfl (fc rfl (fc rfl fn_))), (hS5.sel [0, 1, 2] rfl rfl)⟩
       exact aN
      exact aN
     exact aN
    exact aN
   exact aN
  refine ra_y 12 (i := 6) (v := pt B1 (from_.toNat * 1)) rfl rfl rfl (Y_index (B := B1) (m := p.length) (c := c) (k := .i64) (i := from_) K2 K0 rfl rfl rfl (gi_isSome encI_len rfl (hS2.c 0) hx1) (getI_nn hx1) (getI_ltI hx1 rfl)) (hS2.se [1, 2]) ?_ ?_
  ·skip
   refine rA [2, 7] ?_
   refine ra_y 8 (i := 2) (v := pt B1 (to_.toNat * 1)) rfl rfl rfl (Y_index (B := B1) (m := p.length) (c := c) (k := .i64) (i := to_) K2 K0 rfl rfl rfl (gi_isSome encI_len rfl (hS2.c 0) hx) (getI_nn hx) (getI_ltI hx rfl)) (hS2.se [1, 2]) ?_ ?_
   ·skip
    refine rA [3, 7] ?_
    refine ra_y 9 (i := 3) (v := vi x) rfl rfl rfl (yl B1 (to_.toNat * 1) (p.flatMap encI) (vi x) K1 (hS2.c 0) rfl rfl (gi_at0 encI_len hx rfl)) (hS2.se [1, 2]) ?_ ?_
    ·skip
     refine rA [7] ?_
     refine ra_y 13 (i := 7) (v := vi x1) rfl rfl rfl (yl B1 (from_.toNat * 1) (p.flatMap encI) (vi x1) K1 (hS2.c 0) rfl rfl (gi_at0 encI_len hx1 rfl)) (hS2.se [1, 2]) ?_ ?_
     ·skip
      refine rq 8 14 (v := vi (bits .xor .i64 x x1)) rfl (hS2.se [1, 2]) (fun w' hw' => (Y_bxor (k := .i64) (a := x) (b := x1) rfl rfl rfl)) ?_
      refine rA [9] ?_
      refine ra_y 15 (i := 9) (v := pt B1 (to_.toNat * 1)) rfl rfl rfl (Y_index (B := B1) (m := p.length) (c := c) (k := .i64) (i := to_) K2 K0 rfl rfl rfl (gi_isSome encI_len rfl (hS2.c 0) hx) (getI_nn hx) (getI_ltI hx rfl)) (hS2.se [1, 2]) ?_ ?_
      ·skip
       refine rA [10] ?_
       refine rZ 10 rfl (yS 0 1 B1 3 (vi (bits .xor .i64 x x1)) [vi (bits .xor .i64 x x1)] (to_.toNat * 1) ((p.set to_.toNat (bits .xor .i64 x x1)).flatMap encI) hS2 K0 rfl rfl rfl rfl rfl rfl rfl (gi_fit0 encI_len hx) (gi_set encI_len hx (bits .xor .i64 x x1) rfl)) ?_ ?_
       ·rintro _ w_3 ⟨rfl, hS6⟩
        refine ⟨(hS6.se [1, 2]), ?_⟩
        refine ra_done (by kernel_rfl) ?_
        exact ⟨(fc rfl (fc rfl (fc rfl fn_))), (hS6.sel [0, 1, 2] rfl rfl)⟩
       exact aN
      exact aN
     exact aN
    refine ra_y 13 (i := 7) (v := vi x1) rfl rfl rfl (yl B1 (from_.toNat * 1) (p.flatMap encI) (vi x1) K1 (hS2.c 0) rfl rfl (gi_at0 encI_len hx1 rfl)) (hS2.se [1, 2]) ?_ ?_
    ·skip
     refine rA [3] ?_
     refine ra_y 9 (i := 3) (v := vi x) rfl rfl rfl (yl B1 (to_.toNat * 1) (p.flatMap encI) (vi x) K1 (hS2.c 0) rfl rfl (gi_at0 encI_len hx rfl)) (hS2.se [1, 2]) ?_ ?_
     ·skip
      refine rq 8 14 (v := vi (bits .xor .i64 x x1)) rfl (hS2.se [1, 2]) (fun w' hw' => (Y_bxor (k := .i64) (a := x) (b := x1) rfl rfl rfl)) ?_
      refine rA [9] ?_
      refine ra_y 15 (i := 9) (v := pt B1 (to_.toNat * 1)) rfl rfl rfl (Y_index (B := B1) (m := p.length) (c := c) (k := .i64) (i := to_) K2 K0 rfl rfl rfl (gi_isSome encI_len rfl (hS2.c 0) hx) (getI_nn hx) (getI_ltI hx rfl)) (hS2.se [1, 2]) ?_ ?_
      ·skip
       refine rA [10] ?_
       refine rZ 10 rfl (yS 0 1 B1 3 (vi (bits .xor .i64 x x1)) [vi (bits .xor .i64 x x1)] (to_.toNat * 1) ((p.set to_.toNat (bits .xor .i64 x x1)).flatMap encI) hS2 K0 rfl rfl rfl rfl rfl rfl rfl (gi_fit0 encI_len hx) (gi_set encI_len hx (bits .xor .i64 x x1) rfl)) ?_ ?_
       ·rintro _ w_4 ⟨rfl, hS7⟩
        refine ⟨(hS7.se [1, 2]), ?_⟩
        refine ra_done (by kernel_rfl) ?_
        exact ⟨(fc rfl (fc rfl (fc rfl fn_))), (hS7.sel [0, 1, 2] rfl rfl)⟩
       exact aN
      exact aN
     exact aN
    exact aN
   refine ra_y 13 (i := 7) (v := vi x1) rfl rfl rfl (yl B1 (from_.toNat * 1) (p.flatMap encI) (vi x1) K1 (hS2.c 0) rfl rfl (gi_at0 encI_len hx1 rfl)) (hS2.se [1, 2]) ?_ ?_
   ·skip
    refine rA [2] ?_
    refine ra_y 8 (i := 2) (v := pt B1 (to_.toNat * 1)) rfl rfl rfl (Y_index (B := B1) (m := p.length) (c := c) (k := .i64) (i := to_) K2 K0 rfl rfl rfl (gi_isSome encI_len rfl (hS2.c 0) hx) (getI_nn hx) (getI_ltI hx rfl)) (hS2.se [1, 2]) ?_ ?_
    ·skip
     refine rA [3] ?_
     refine ra_y 9 (i := 3) (v := vi x) rfl rfl rfl (yl B1 (to_.toNat * 1) (p.flatMap encI) (vi x) K1 (hS2.c 0) rfl rfl (gi_at0 encI_len hx rfl)) (hS2.se [1, 2]) ?_ ?_
     ·skip
      refine rq 8 14 (v := vi (bits .xor .i64 x x1)) rfl (hS2.se [1, 2]) (fun w' hw' => (Y_bxor (k := .i64) (a := x) (b := x1) rfl rfl rfl)) ?_
      refine rA [9] ?_
      refine ra_y 15 (i := 9) (v := pt B1 (to_.toNat * 1)) rfl rfl rfl (Y_index (B := B1) (m := p.length) (c := c) (k := .i64) (i := to_) K2 K0 rfl rfl rfl (gi_isSome encI_len rfl (hS2.c 0) hx) (getI_nn hx) (getI_ltI hx rfl)) (hS2.se [1, 2]) ?_ ?_
      ·skip
       refine rA [10] ?_
       refine rZ 10 rfl (yS 0 1 B1 3 (vi (bits .xor .i64 x x1)) [vi (bits .xor .i64 x x1)] (to_.toNat * 1) ((p.set to_.toNat (bits .xor .i64 x x1)).flatMap encI) hS2 K0 rfl rfl rfl rfl rfl rfl rfl (gi_fit0 encI_len hx) (gi_set encI_len hx (bits .xor .i64 x x1) rfl)) ?_ ?_
       ·rintro _ w_5 ⟨rfl, hS8⟩
        refine ⟨(hS8.se [1, 2]), ?_⟩
        refine ra_done (by kernel_rfl) ?_
        exact ⟨(fc rfl (fc rfl (fc rfl fn_))), (hS8.sel [0, 1, 2] rfl rfl)⟩
       exact aN
      exact aN
     exact aN
    exact aN
   exact aN
  exact aN
 rintro f w ⟨hf, hS1⟩
 refine cr ?_
 refine sQ 16 (yl B2 0 [.slice B3 p1.length c1] (.slice B3 p1.length c1) K37 (hS1.c 1) rfl (hf.g 3 2)) <| sQ 17 (ym (vi from_) rfl (hf.g 0 0)) <| sQ 18 (ym (vi to_) rfl (hf.g 1 1)) <| sQ 19 (Y_buildS (zs := [vi 0, vi 0, vi 0]) (vs := [(0, vi 9), (1, vi from_), (2, vi to_)]) (cs := [vi 9, vi from_, vi to_]) K41 K9 rfl (mpc rfl (mpc rfl (mpc rfl mpn))) rfl) ?_
 refine sS 20 (Ys_bslice (s := 3) (len := 1) (vs := [(0, .agg #[vi 9, vi from_, vi to_])]) (cs := [vi 9, vi from_, vi to_]) (zs := [vi 0, vi 0, vi 0]) (m := 3) hS1 K5 K3 K35 rfl (mpc rfl mpn) rfl rfl rfl (by kernel_rfl) (by kernel_rfl) rfl) ?_
 rintro _ w_6 ⟨b, rfl, hS9⟩
 obtain ⟨hap, hF⟩ := chk_inv hF
 refine sS 21 (Ys_append (s := 3) (by' := 24) (i := 2) (nn := p1.length) (c := c1) (k := 1) (len := (p1 ++ [(TGate.mk 9 from_ to_)]).length) (B := B3) (xs := ([(TGate.mk 9 from_ to_)].flatMap eN0)) (cs' := ((p1 ++ [(TGate.mk 9 from_ to_)]).flatMap eN0)) hS9 K5 K3 K27 K9 rfl (by decide) rfl rfl rfl rfl (fm_lenn (l := p1) eN1 rfl) rfl (hS9.c 3) (fm_lenn (l := [(TGate.mk 9 from_ to_)]) eN1 rfl) (fm_one' (enc := eN0) enc_Gate_one [(TGate.mk 9 from_ to_)]) (by have := hap; omega) (by have := hap; simp only [maxLen]; omega) (fm_app _ _) (app_len (l := p1) (l' := [(TGate.mk 9 from_ to_)]) rfl rfl)) ?_
 rintro _ w_7 ⟨B5, c3, rfl, hS10⟩
 refine s0 (yT 1 1 B2 26 (.slice B5 ((p1 ++ [(TGate.mk 9 from_ to_)]).length) c3) [.slice B5 ((p1 ++ [(TGate.mk 9 from_ to_)]).length) c3] 0 hS10 K21 rfl (hf.g 3 2)) ?_
 rintro _ w_8 ⟨rfl, hS11⟩
 refine rn ?_
 obtain ⟨rfl, rfl⟩ := pr2 (sI hF)
 exact ret0 Tryz.results282  ⟨B5, c3, rfl, (set_len _ _ _ rfl), (hS11.sN [0, 1, 2])⟩

theorem c_impl_eliminated (m : TLinear) (B : Option Addr) (c n : Nat) (w0 : World) (hn : m.Rows.length = n) (hS : ST w0 [] w0 [] [⟨B, (m.Rows.flatMap encI)⟩]) {r_ : List TGate} (hF : F_impl_eliminated m = some r_) :
  CV Tryz.prog 201 #[.agg #[.slice B n c]] w0 (fun v w' => ∃ (B1 : Option Addr) (c1 : Nat), v = .slice B1 r_.length c1 ∧ ST w0 [] w' [⟨B1, 120, (r_.flatMap eN0), c1 * 3⟩] []) := by
 subst hn
 unfold F_impl_eliminated at hF
 refine cv_of_cw 74 Tryz.func201 rfl Tryz.ntmps201 rfl ?_
 refine cq (cr ?_)
 refine sS 1 (yB 60 (.agg #[.slice B m.Rows.length c]) [.slice B m.Rows.length c] 1 hS) ?_
 rintro _ w_ ⟨b, rfl, hS1⟩
 refine sQ 2 (yg (.slice none 0 0)) (rn (cq (cr ?_)))
 refine sQ 9 (yd (aD b) 0 0 K29 K14) <| sQ 10 (yl (aD b) 0 [.slice B m.Rows.length c] (.slice B m.Rows.length c) K13 (hS1.c 0)) ?_
 obtain ⟨r_1, hc, hF⟩ := bI hF
 refine sc 11 rfl rfl (yC [.slice B m.Rows.length c] k_call_72 (c_slices_Clone_int_int m.Rows B c m.Rows.length _ rfl (hS1.inn0 [(true, 0)] rfl) hc)) ?_
 rintro _ w_1 ⟨B2, c2, rfl, hd⟩
 have hS2 := hS1.out0 hd
 refine sS 12 (Ys_bslice0 (s := 3) (e := 120) hS2 K5 K3 rfl) ?_
 rintro _ w_2 ⟨b1, rfl, hS3⟩
 refine sS 3 (yN [.slice none 0 0] 1 hS3 k_zero_31) ?_
 rintro _ w_3 ⟨b2, rfl, hS4⟩
 refine sS 4 (yN [.slice none 0 0] 1 hS4 k_zero_26) ?_
 rintro _ w_4 ⟨b3, rfl, hS5⟩
 refine s0 (yT 3 1 (aD b2) 31 (.slice B2 r_1.length c2) [.slice B2 r_1.length c2] 0 hS5 K14) ?_
 rintro _ w_5 ⟨rfl, hS6⟩
 refine s0 (yT 4 1 (aD b3) 26 (.slice (aD b1) 0 0) [.slice (aD b1) 0 0] 0 hS6 K21) ?_
 rintro _ w_6 ⟨rfl, hS7⟩
 refine rn (cq (cr ?_))
 refine sQ 13 (Y_makeFunc (cs := [pt (aD b2) 0, pt (aD b3) 0]) rfl rfl (mc rfl (mc rfl mn))) <| sQ 5 (yg (.func (.func 282) #[] #[pt (aD b2) 0, pt (aD b3) 0])) (rn (cq (cq (cr ?_))))
 refine sQ 14 (yl (aD b2) 0 [.slice B2 r_1.length c2] (.slice B2 r_1.length c2) K13 (hS7.c 3)) <| sQ 15 (Y_len (B := B2) (m := r_1.length) (c := c2) K2 rfl rfl) <| sQ 16 (ym (vi 0)) (rn ?_)
 obtain ⟨hN, hF⟩ := chk_inv hF
 obtain ⟨z, hz, hF1⟩ := bI hF
 refine cw_block ?_
 refine cw_loop (fun k f w => ∃ (i : Nat) (rows : List Int) (out : List TGate) (B3 : Option Addr) (c3 : Nat), FF f [(3, pt (aD b2) 0), (4, pt (aD b3) 0), (5, .func (.func 282) #[] #[pt (aD b2) 0, pt (aD b3) 0]), (15, vi (r_1.length : Int)), (16, vi (i : Int))] ∧ rows.length = r_1.length ∧ ST w0 [] w [⟨aD b2, 31, [.slice B2 r_1.length c2], 1⟩, ⟨B2, 3, (rows.flatMap encI), c2 * 1⟩, ⟨aD b3, 26, [.slice B3 out.length c3], 1⟩, ⟨B3, 120, (out.flatMap eN0), c3 * 3⟩] [⟨B, (m.Rows.flatMap encI)⟩] ∧ i + k = r_1.length ∧ forN (F_impl_eliminated_l1 r_1) k i (rows, out) = some z) r_1.length ⟨0, r_1, [], aD b1, 0, (fc rfl (fc rfl (fc rfl (fc rfl (fc rfl fn_))))), rfl, (hS7.sel [3, 1, 4, 2] rfl rfl), Nat.zero_add _, hz⟩ ?_
 rintro k_ f w ⟨i, rows, out, B3, c3, hf, hl, hS8, hik, hL⟩
 refine cq (cr ?_)
 refine sQ 17 (yL (i : Int) (r_1.length : Int) rfl (hf.g 16 4) (hf.g 15 3)) (rn (cq ?_))
 refine cw_cond (b := (decide ((i : Int) < (r_1.length : Int)))) rfl (fun hlt => ?_) (fun hlt => ?_)
 ·skip
  have hlt1 : i < r_1.length := by have h := of_decide_eq_true hlt; omega
  obtain ⟨K7, rfl⟩ : ∃ k2, k_ = k2 + 1 := ⟨k_ - 1, by omega⟩
  obtain ⟨y, hb, hL1⟩ := forN_go hL
  unfold F_impl_eliminated_l1 at hb
  refine cw_skip (cq (cw_block (cq (cr ?_))))
  refine sQ 18 (ym (vi (i : Int)) rfl (hf.g 16 4)) <| sQ 6 (yg (vi (i : Int))) (rn (cq (cq (cr ?_))))
  refine sQ 19 (ym (vi (i : Int))) <| sQ 20 (yP (i : Int) 1) <| sQ 7 (yg (vi (i64.wrap ((i : Int) + 1)))) (rn ?_)
  obtain ⟨z1, hz1, hF2⟩ := bI hb
  refine cw_block ?_
  refine cw_loop (fun k f w => ∃ (rows1 : List Int) (out1 : List TGate) (i1 : Int) (B4 : Option Addr) (c4 : Nat), FF f [(3, pt (aD b2) 0), (4, pt (aD b3) 0), (5, .func (.func 282) #[] #[pt (aD b2) 0, pt (aD b3) 0]), (6, vi (i : Int)), (7, vi i1), (15, vi (r_1.length : Int)), (16, vi (i : Int))] ∧ rows1.length = r_1.length ∧ ST w0 [] w [⟨aD b2, 31, [.slice B2 r_1.length c2], 1⟩, ⟨B2, 3, (rows1.flatMap encI), c2 * 1⟩, ⟨aD b3, 26, [.slice B4 out1.length c4], 1⟩, ⟨B4, 120, (out1.flatMap eN0), c4 * 3⟩] [⟨B, (m.Rows.flatMap encI)⟩] ∧ whX (F_impl_eliminated_l2 r_1 i) k (rows1, out1, i1) = some z1) fuel ⟨rows, out, (i64.wrap ((i : Int) + 1)), B3, c3, (fc (hf.g 3 0) (fc (hf.g 4 1) (fc (hf.g 5 2) (fc rfl (fc rfl (fc (hf.g 15 3) (fc (hf.g 16 4) fn_))))))), hl, (hS8.sel [0, 1, 2, 3] rfl rfl), hz1⟩ ?_
  rintro K16 f w ⟨rows1, out1, i1, B4, c4, hf1, hl1, hS9, hL2⟩
  obtain ⟨K52, y1, rfl, hb1, hL3⟩ := whX_go hL2
  unfold F_impl_eliminated_l2 at hb1
  refine cq (cq (cr ?_))
  refine sQ 21 (ym (vi i1) rfl (hf1.g 7 4)) <| sQ 22 (yl (aD b2) 0 [.slice B2 r_1.length c2] (.slice B2 r_1.length c2) K13 (hS9.c 0) rfl (hf1.g 3 0)) <| sQ 23 (Y_len (B := B2) (m := r_1.length) (c := c2) K2 rfl rfl) <| sQ 24 (yL i1 (r_1.length : Int)) <| sQ 25 (ym (.bool (decide (i1 < (r_1.length : Int))))) ?_
  refine sgq 26 (B := (decide (i1 < (r_1.length : Int)))) (v := .slice B2 r_1.length c2) rfl rfl (uT_ 25) (fun hg => (yl (aD b2) 0 [.slice B2 r_1.length c2] (.slice B2 r_1.length c2) K13 (hS9.c 0) rfl (hf1.g 3 0))) ?_
  refine sgq 27 (B := (decide (i1 < (r_1.length : Int)))) (v := vi (i : Int)) rfl rfl (uT_ 25) (fun hg1 => (ym (vi (i : Int)) rfl (hf1.g 6 3))) ?_
  obtain ⟨x, hx, hb1⟩ := bI hb1
  refine sgq 28 (B := (decide (i1 < (r_1.length : Int)))) (v := pt B2 ((i : Int).toNat * 1)) rfl rfl (uT_ 25) (fun hg2 => (Y_index (B := B2) (m := r_1.length) (c := c2) (k := .i64) (i := (i : Int)) K2 K0 rfl (gv_of (v := .slice B2 r_1.length c2) hg2) (gv_of (v := vi (i : Int)) hg2) (gi_isSome encI_len rfl (hS9.c 1) (gb_inv hx hg2)) (getI_nn (gb_inv hx hg2)) (getI_ltI (gb_inv hx hg2) hl1))) ?_
  refine sgq 29 (B := (decide (i1 < (r_1.length : Int)))) (v := vi x) rfl rfl (uT_ 25) (fun hg3 => (yl B2 ((i : Int).toNat * 1) (rows1.flatMap encI) (vi x) K1 (hS9.c 1) rfl (gv_of (v := pt B2 ((i : Int).toNat * 1)) hg3) (gi_at0 encI_len (gb_inv hx hg3) rfl))) ?_
  refine sgq 30 (B := (decide (i1 < (r_1.length : Int)))) (v := vi (i : Int)) rfl rfl (uT_ 25) (fun hg4 => (ym (vi (i : Int)) rfl (hf1.g 6 3))) ?_
  obtain ⟨hsh, hb1⟩ := chk_inv hb1
  refine sgq 31 (B := (decide (i1 < (r_1.length : Int)))) (v := vi (shrK .i64 x (i : Int))) rfl rfl (uT_ 25) (fun hg5 => (Y_shr (k := .i64) (a := x) (k' := .i64) (b := (i : Int)) rfl (gv_of (v := vi x) hg5) (gv_of (v := vi (i : Int)) hg5) (hsh hg5))) ?_
  refine sgq 32 (B := (decide (i1 < (r_1.length : Int)))) (v := vi (bits .and .i64 (shrK .i64 x (i : Int)) 1)) rfl rfl (uT_ 25) (fun hg6 => (Y_band (k := .i64) (a := (shrK .i64 x (i : Int))) (b := 1) rfl (gv_of (v := vi (shrK .i64 x (i : Int))) hg6) rfl)) ?_
  refine sgq 33 (B := (decide (i1 < (r_1.length : Int)))) (v := .bool ((bits .and .i64 (shrK .i64 x (i : Int)) 1) == 0)) rfl rfl (uT_ 25) (fun hg7 => (yE (bits .and .i64 (shrK .i64 x (i : Int)) 1) 0 rfl (gv_of (v := vi (bits .and .i64 (shrK .i64 x (i : Int)) 1)) hg7))) ?_
  refine sQ 34 (Y_and (b := (decide (i1 < (r_1.length : Int)))) (z := ((bits .and .i64 (shrK .i64 x (i : Int)) 1) == 0)) rfl rfl rfl rfl) (rn ?_)
  refine cw_cond (b := ((decide (i1 < (r_1.length : Int))) && ((bits .and .i64 (shrK .i64 x (i : Int)) 1) == 0))) rfl (fun hb2 => ?_) (fun hb2 => ?_)
  ·skip
   have hF3 := ct hb1 hb2
   refine cw_skip (cq ?_)
   obtain ⟨z2, hz2, hF4⟩ := bI hF3
   refine cw_mid (fun f w => ∃ (rows2 : List Int) (out2 : List TGate) (B5 : Option Addr) (c5 : Nat), (rows2, out2) = z2 ∧ FF f [(3, pt (aD b2) 0), (4, pt (aD b3) 0), (5, .func (.func 282) #[] #[pt (aD b2) 0, pt (aD b3) 0]), (6, vi (i : Int)), (7, vi i1), (15, vi (r_1.length : Int)), (16, vi (i : Int))] ∧ rows2.length = r_1.length ∧ ST w0 [] w [⟨aD b2, 31, [.slice B2 r_1.length c2], 1⟩, ⟨B2, 3, (rows2.flatMap encI), c2 * 1⟩, ⟨aD b3, 26, [.slice B5 out2.length c5], 1⟩, ⟨B5, 120, (out2.flatMap eN0), c5 * 3⟩] [⟨B, (m.Rows.flatMap encI)⟩]) ?_ ?_
   ·skip
    refine cw_block (cq (cr ?_))
    refine sQ 37 (yl (aD b2) 0 [.slice B2 r_1.length c2] (.slice B2 r_1.length c2) K13 (hS9.c 0) rfl (hf1.g 3 0)) <| sQ 38 (ym (vi i1) rfl (hf1.g 7 4)) ?_
    obtain ⟨x1, hx1, hz2⟩ := bI hz2
    refine sQ 39 (Y_index (B := B2) (m := r_1.length) (c := c2) (k := .i64) (i := i1) K2 K0 rfl rfl rfl (gi_isSome encI_len rfl (hS9.c 1) hx1) (getI_nn hx1) (getI_ltI hx1 hl1)) <| sQ 40 (yl B2 (i1.toNat * 1) (rows1.flatMap encI) (vi x1) K1 (hS9.c 1) rfl rfl (gi_at0 encI_len hx1 rfl)) <| sQ 41 (ym (vi (i : Int)) rfl (hf1.g 6 3)) ?_
    obtain ⟨hsh1, hz2⟩ := chk_inv hz2
    refine sQ 42 (Y_shr (k := .i64) (a := x1) (k' := .i64) (b := (i : Int)) rfl rfl rfl hsh1) <| sQ 43 (Y_band (k := .i64) (a := (shrK .i64 x1 (i : Int))) (b := 1) rfl rfl rfl) <| sQ 44 (yE (bits .and .i64 (shrK .i64 x1 (i : Int)) 1) 1) (rn ?_)
    refine cw_cond (b := ((bits .and .i64 (shrK .i64 x1 (i : Int)) 1) == 1)) rfl (fun hb3 => ?_) (fun hb3 => ?_)
    ·skip
     have hF5 := ct hz2 hb3
     refine cr ?_
     refine sQ 45 (ym (.func (.func 282) #[] #[pt (aD b2) 0, pt (aD b3) 0]) rfl (hf1.g 5 2)) <| sQ 46 (ym (vi i1) rfl (hf1.g 7 4)) <| sQ 47 (ym (vi (i : Int)) rfl (hf1.g 6 3)) ?_
     obtain ⟨⟨m1, m2⟩, hc1, hF5⟩ := bI hF5
     refine sc 48 rfl rfl (Yc_clos (g := 282) (vs := [vi i1, vi (i : Int), pt (aD b2) 0, pt (aD b3) 0]) k_call_282 rfl rfl (clo_args (mc rfl (mc rfl mn))) (c_impl_eliminated_1 i1 (i : Int) rows1 out1 (aD b2) B2 c2 r_1.length (aD b3) B4 c4 out1.length _ hl1 rfl (hS9.inn [false, true, true, true] rfl [(false, 0)] rfl) hc1)) ?_
     rintro _ w_7 ⟨B6, c6, rfl, hl3, hd1⟩
     have hS11 := hS9.out [false, true, true, true] rfl hd1
     refine rn ?_
     exact ⟨m1, m2, B6, c6, (sI hF5), (fc (hf1.g 3 0) (fc (hf1.g 4 1) (fc (hf1.g 5 2) (fc (hf1.g 6 3) (fc (hf1.g 7 4) (fc (hf1.g 15 5) (fc (hf1.g 16 6) fn_))))))), hl3, (hS11.sel [0, 1, 2, 3] rfl rfl)⟩
    ·skip
     have hF6 := cf' hz2 hb3
     refine cw_skip ?_
     exact ⟨rows1, out1, B4, c4, (sI hF6), (fc (hf1.g 3 0) (fc (hf1.g 4 1) (fc (hf1.g 5 2) (fc (hf1.g 6 3) (fc (hf1.g 7 4) (fc (hf1.g 15 5) (fc (hf1.g 16 6) fn_))))))), hl1, (hS9.sel [0, 1, 2, 3] rfl rfl)⟩
   rintro f w ⟨rows2, out2, B5, c5, rfl, hf2, hl2, hS10⟩
   refine cr ?_
   refine sQ 35 (ym (vi i1) rfl (hf2.g 7 4)) <| sQ 36 (yP i1 1) <| sQ 7 (yg (vi (i64.wrap (i1 + 1)))) (rn ?_)
   obtain rfl := sI hF4
   exact ⟨K52, Nat.lt_succ_self _, rows2, out2, (i64.wrap (i1 + 1)), B5, c5, (fc (hf2.g 3 0) (fc (hf2.g 4 1) (fc (hf2.g 5 2) (fc (hf2.g 6 3) (fc rfl (fc (hf2.g 15 5) (fc (hf2.g 16 6) fn_))))))), hl2, (hS10.sel [0, 1, 2, 3] rfl rfl), hL3⟩
  ·skip
   have hF7 := cf' hb1 hb2
   refine cw_exit rfl ?_
   obtain rfl := sI hF7
   obtain rfl := sI hL3
   refine cq (cr ?_)
   refine sQ 49 (yl (aD b2) 0 [.slice B2 r_1.length c2] (.slice B2 r_1.length c2) K13 (hS9.c 0) rfl (hf1.g 3 0)) <| sQ 50 (Y_len (B := B2) (m := r_1.length) (c := c2) K2 rfl rfl) <| sQ 51 (ym (vi 0)) (rn ?_)
   obtain ⟨hN1, hF2⟩ := chk_inv hF2
   obtain ⟨z3, hz3, hF8⟩ := bI hF2
   refine cw_block ?_
   refine cw_loop (fun k f w => ∃ (i2 : Nat) (rows3 : List Int) (out3 : List TGate) (B7 : Option Addr) (c7 : Nat), FF f [(3, pt (aD b2) 0), (4, pt (aD b3) 0), (5, .func (.func 282) #[] #[pt (aD b2) 0, pt (aD b3) 0]), (6, vi (i : Int)), (15, vi (r_1.length : Int)), (16, vi (i : Int)), (50, vi (r_1.length : Int)), (51, vi (i2 : Int))] ∧ rows3.length = r_1.length ∧ ST w0 [] w [⟨aD b2, 31, [.slice B2 r_1.length c2], 1⟩, ⟨B2, 3, (rows3.flatMap encI), c2 * 1⟩, ⟨aD b3, 26, [.slice B7 out3.length c7], 1⟩, ⟨B7, 120, (out3.flatMap eN0), c7 * 3⟩] [⟨B, (m.Rows.flatMap encI)⟩] ∧ i2 + k = r_1.length ∧ forN (F_impl_eliminated_l3 i) k i2 (rows3, out3) = some z3) r_1.length ⟨0, rows1, out1, B4, c4, (fc (hf1.g 3 0) (fc (hf1.g 4 1) (fc (hf1.g 5 2) (fc (hf1.g 6 3) (fc (hf1.g 15 5) (fc (hf1.g 16 6) (fc rfl (fc rfl fn_)))))))), hl1, (hS9.sel [0, 1, 2, 3] rfl rfl), Nat.zero_add _, hz3⟩ ?_
   rintro K67 f w ⟨i2, rows3, out3, B7, c7, hf3, hl4, hS12, hik2, hL4⟩
   refine cq (cr ?_)
   refine sQ 52 (yL (i2 : Int) (r_1.length : Int) rfl (hf3.g 51 7) (hf3.g 50 6)) (rn (cq ?_))
   refine cw_cond (b := (decide ((i2 : Int) < (r_1.length : Int)))) rfl (fun hlt2 => ?_) (fun hlt2 => ?_)
   ·skip
    have hlt3 : i2 < r_1.length := by have h := of_decide_eq_true hlt2; omega
    obtain ⟨K99, rfl⟩ : ∃ k2, K67 = k2 + 1 := ⟨K67 - 1, by omega⟩
    obtain ⟨y2, hb4, hL5⟩ := forN_go hL4
    unfold F_impl_eliminated_l3 at hb4
    refine cw_skip (cq ?_)
    obtain ⟨z4, hz4, hF9⟩ := bI hb4
    refine cw_mid (fun f w => ∃ (rows4 : List Int) (out4 : List TGate) (B8 : Option Addr) (c8 : Nat), (rows4, out4) = z4 ∧ FF f [(3, pt (aD b2) 0), (4, pt (aD b3) 0), (5, .func (.func 282) #[] #[pt (aD b2) 0, pt (aD b3) 0]), (6, vi (i : Int)), (15, vi (r_1.length : Int)), (16, vi (i : Int)), (50, vi (r_1.length : Int)), (51, vi (i2 : Int))] ∧ rows4.length = r_1.length ∧ ST w0 [] w [⟨aD b2, 31, [.slice B2 r_1.length c2], 1⟩, ⟨B2, 3, (rows4.flatMap encI), c2 * 1⟩, ⟨aD b3, 26, [.slice B8 out4.length c8], 1⟩, ⟨B8, 120, (out4.flatMap eN0), c8 * 3⟩] [⟨B, (m.Rows.flatMap encI)⟩]) ?_ ?_
    ·skip
     refine cw_block (cq (cr ?_))
     refine sQ 53 (ym (vi (i2 : Int)) rfl (hf3.g 51 7)) <| sQ 8 (yg (vi (i2 : Int))) (rn (cq (cr ?_)))
     refine sQ 54 (ym (vi (i2 : Int))) <| sQ 55 (ym (vi (i : Int)) rfl (hf3.g 6 3)) <| sQ 56 (Y_ne (k := .i64) (a := (i2 : Int)) (b := (i : Int)) rfl rfl rfl) <| sQ 57 (ym (.bool ((i2 : Int) != (i : Int)))) ?_
     refine sgq 58 (B := ((i2 : Int) != (i : Int))) (v := .slice B2 r_1.length c2) rfl rfl (uT_ 57) (fun hg8 => (yl (aD b2) 0 [.slice B2 r_1.length c2] (.slice B2 r_1.length c2) K13 (hS12.c 0) rfl (hf3.g 3 0))) ?_
     refine sgq 59 (B := ((i2 : Int) != (i : Int))) (v := vi (i2 : Int)) rfl rfl (uT_ 57) (fun hg9 => (ym (vi (i2 : Int)))) ?_
     obtain ⟨x2, hx2, hz4⟩ := bI hz4
     refine sgq 60 (B := ((i2 : Int) != (i : Int))) (v := pt B2 ((i2 : Int).toNat * 1)) rfl rfl (uT_ 57) (fun hg10 => (Y_index (B := B2) (m := r_1.length) (c := c2) (k := .i64) (i := (i2 : Int)) K2 K0 rfl (gv_of (v := .slice B2 r_1.length c2) hg10) (gv_of (v := vi (i2 : Int)) hg10) (gi_isSome encI_len rfl (hS12.c 1) (gb_inv hx2 hg10)) (getI_nn (gb_inv hx2 hg10)) (getI_ltI (gb_inv hx2 hg10) hl4))) ?_
     refine sgq 61 (B := ((i2 : Int) != (i : Int))) (v := vi x2) rfl rfl (uT_ 57) (fun hg11 => (yl B2 ((i2 : Int).toNat * 1) (rows3.flatMap encI) (vi x2) K1 (hS12.c 1) rfl (gv_of (v := pt B2 ((i2 : Int).toNat * 1)) hg11) (gi_at0 encI_len (gb_inv hx2 hg11) rfl))) ?_
     refine sgq 62 (B := ((i2 : Int) != (i : Int))) (v := vi (i : Int)) rfl rfl (uT_ 57) (fun hg12 => (ym (vi (i : Int)) rfl (hf3.g 6 3))) ?_
     obtain ⟨hsh2, hz4⟩ := chk_inv hz4
     refine sgq 63 (B := ((i2 : Int) != (i : Int))) (v := vi (shrK .i64 x2 (i : Int))) rfl rfl (uT_ 57) (fun hg13 => (Y_shr (k := .i64) (a := x2) (k' := .i64) (b := (i : Int)) rfl (gv_of (v := vi x2) hg13) (gv_of (v := vi (i : Int)) hg13) (hsh2 hg13))) ?_
     refine sgq 64 (B := ((i2 : Int) != (i : Int))) (v := vi (bits .and .i64 (shrK .i64 x2 (i : Int)) 1)) rfl rfl (uT_ 57) (fun hg14 => (Y_band (k := .i64) (a := (shrK .i64 x2 (i : Int))) (b := 1) rfl (gv_of (v := vi (shrK .i64 x2 (i : Int))) hg14) rfl)) ?_
     refine sgq 65 (B := ((i2 : Int) != (i : Int))) (v := .bool ((bits .and .i64 (shrK .i64 x2 (i : Int)) 1) == 1)) rfl rfl (uT_ 57) (fun hg15 => (yE (bits .and .i64 (shrK .i64 x2 (i : Int)) 1) 1 rfl (gv_of (v := vi (bits .and .i64 (shrK .i64 x2 (i : Int)) 1)) hg15))) ?_
     refine sQ 66 (Y_and (b := ((i2 : Int) != (i : Int))) (z := ((bits .and .i64 (shrK .i64 x2 (i : Int)) 1) == 1)) rfl rfl rfl rfl) (rn ?_)
     refine cw_cond (b := (((i2 : Int) != (i : Int)) && ((bits .and .i64 (shrK .i64 x2 (i : Int)) 1) == 1))) rfl (fun hb5 => ?_) (fun hb5 => ?_)
     ·skip
      have hF10 := ct hz4 hb5
      refine cr ?_
      refine sQ 67 (ym (.func (.func 282) #[] #[pt (aD b2) 0, pt (aD b3) 0]) rfl (hf3.g 5 2)) <| sQ 68 (ym (vi (i : Int)) rfl (hf3.g 6 3)) <| sQ 69 (ym (vi (i2 : Int))) ?_
      obtain ⟨⟨m3, m4⟩, hc2, hF10⟩ := bI hF10
      refine sc 70 rfl rfl (Yc_clos (g := 282) (vs := [vi (i : Int), vi (i2 : Int), pt (aD b2) 0, pt (aD b3) 0]) k_call_282 rfl rfl (clo_args (mc rfl (mc rfl mn))) (c_impl_eliminated_1 (i : Int) (i2 : Int) rows3 out3 (aD b2) B2 c2 r_1.length (aD b3) B7 c7 out3.length _ hl4 rfl (hS12.inn [false, true, true, true] rfl [(false, 0)] rfl) hc2)) ?_
      rintro _ w_8 ⟨B9, c9, rfl, hl6, hd2⟩
      have hS14 := hS12.out [false, true, true, true] rfl hd2
      refine rn ?_
      exact ⟨m3, m4, B9, c9, (sI hF10), (fc (hf3.g 3 0) (fc (hf3.g 4 1) (fc (hf3.g 5 2) (fc (hf3.g 6 3) (fc (hf3.g 15 4) (fc (hf3.g 16 5) (fc (hf3.g 50 6) (fc (hf3.g 51 7) fn_)))))))), hl6, (hS14.sel [0, 1, 2, 3] rfl rfl)⟩
     ·skip
      have hF11 := cf' hz4 hb5
      refine cw_skip ?_
      exact ⟨rows3, out3, B7, c7, (sI hF11), (fc (hf3.g 3 0) (fc (hf3.g 4 1) (fc (hf3.g 5 2) (fc (hf3.g 6 3) (fc (hf3.g 15 4) (fc (hf3.g 16 5) (fc (hf3.g 50 6) (fc (hf3.g 51 7) fn_)))))))), hl4, (hS12.sel [0, 1, 2, 3] rfl rfl)⟩
    rintro f w ⟨rows4, out4, B8, c8, rfl, hf4, hl5, hS13⟩
    refine cr ?_
    refine sQ 71 (yP (i2 : Int) 1 rfl (hf4.g 51 7)) <| sQ 51 (ym (vi (i64.wrap ((i2 : Int) + 1)))) (rn ?_)
    obtain rfl := sI hF9
    exact ⟨K99, Nat.lt_succ_self _, i2 + 1, rows4, out4, B8, c8, (fc (hf4.g 3 0) (fc (hf4.g 4 1) (fc (hf4.g 5 2) (fc (hf4.g 6 3) (fc (hf4.g 15 4) (fc (hf4.g 16 5) (fc (hf4.g 50 6) (fc (congrArg (Value.int .i64) (wr_succ hlt3 hN1)) fn_)))))))), hl5, (hS13.sel [0, 1, 2, 3] rfl rfl), (by omega), hL5⟩
   ·skip
    obtain rfl : K67 = 0 := by have h := of_decide_eq_false hlt2; omega
    refine cw_exit rfl ?_
    obtain rfl := sI hL4
    refine cr ?_
    refine sQ 72 (yP (i : Int) 1 rfl (hf3.g 16 5)) <| sQ 16 (ym (vi (i64.wrap ((i : Int) + 1)))) (rn ?_)
    obtain rfl := sI hF8
    exact ⟨K7, Nat.lt_succ_self _, i + 1, rows3, out3, B7, c7, (fc (hf3.g 3 0) (fc (hf3.g 4 1) (fc (hf3.g 5 2) (fc (hf3.g 15 4) (fc (congrArg (Value.int .i64) (wr_succ hlt1 hN)) fn_))))), hl4, (hS12.sel [0, 1, 2, 3] rfl rfl), (by omega), hL1⟩
 ·skip
  obtain rfl : k_ = 0 := by have h := of_decide_eq_false hlt; omega
  refine cw_exit rfl ?_
  obtain rfl := sI hL
  refine cq (cr ?_)
  refine sQ 73 (yl (aD b3) 0 [.slice B3 out.length c3] (.slice B3 out.length c3) K37 (hS8.c 2) rfl (hf.g 4 1)) <| sQ 2 (yg (.slice B3 out.length c3)) (rn (ct_ ?_))
  obtain rfl := sI hF1
  exact ret1 Tryz.results201 (v1 := .slice B3 out.length c3) (resAt_tmp rfl) ⟨B3, c3, rfl, (hS8.sN [3])⟩

theorem c_impl_synthesized (m : TLinear) (B : Option Addr) (c n : Nat) (w0 : World) (hn : m.Rows.length = n) (hS : ST w0 [] w0 [] [⟨B, (m.Rows.flatMap encI)⟩]) {r_ : List TGate} (hF : F_impl_synthesized m = some r_) :
  CV Tryz.prog 104 #[.agg #[.slice B n c]] w0 (fun v w' => ∃ (B1 : Option Addr) (c1 : Nat), v = .slice B1 r_.length c1 ∧ ST w0 [] w' [⟨B1, 120, (r_.flatMap eN0), c1 * 3⟩] []) := by
 subst hn
 unfold F_impl_synthesized at hF
 refine cv_of_cw 9 Tryz.func104 rfl Tryz.ntmps104 rfl ?_
 refine cq (cr ?_)
 refine sS 1 (yB 60 (.agg #[.slice B m.Rows.length c]) [.slice B m.Rows.length c] 1 hS) ?_
 rintro _ w_ ⟨b, rfl, hS1⟩
 refine sQ 2 (yg (.slice none 0 0)) (rn (cq (cr ?_)))
 refine sQ 4 (yb (aD b) 0 [.slice B m.Rows.length c] K51 K19 (hS1.c 0)) ?_
 obtain ⟨r_1, hc, hF⟩ := bI hF
 refine sc 5 rfl rfl (yC [.agg #[.slice B m.Rows.length c]] k_call_201 (c_impl_eliminated m B c m.Rows.length _ rfl (hS1.inn0 [(true, 0)] rfl) hc)) ?_
 rintro _ w_1 ⟨B2, c2, rfl, hd⟩
 have hS2 := hS1.out0 hd
 refine sQ 3 (yg (.slice B2 r_1.length c2)) (rn (cq (cr ?_)))
 refine sQ 6 (ym (.slice B2 r_1.length c2)) ?_
 obtain ⟨m1, hc1, hF⟩ := bI hF
 refine sc 7 rfl rfl (yC [.slice B2 r_1.length c2] k_call_139 (c_slices_Reverse_impl_Gate_impl_Gate r_1 B2 c2 r_1.length _ rfl (hS2.inn [false, true] rfl [] rfl) hc1)) ?_
 rintro _ w_2 ⟨rfl, hl, hd1⟩
 have hS3 := hS2.out [false, true] rfl hd1
 refine rn (cq (cr ?_))
 refine sQ 8 (ym (.slice B2 r_1.length c2)) <| sQ 2 (yg (.slice B2 r_1.length c2)) (rn (ct_ ?_))
 obtain rfl := sI hF
 exact ret1 Tryz.results104 (v1 := .slice B2 r_1.length c2) (resAt_tmp rfl) ⟨B2, c2, (sl_eqv hl), (hS3.sN [1])⟩

theorem c_math_bits_Mul64 (x : Int) (y : Int)  (w0 : World)  (hS : ST w0 [] w0 [] []) {r_ : Int} {r_1 : Int} (hF : F_math_bits_Mul64 x y = some (r_, r_1)) :
  CV Tryz.prog 317 #[.int .u64 x, .int .u64 y] w0 (fun v w' => v = .tuple #[.int .u64 r_, .int .u64 r_1] ∧ ST w0 [] w' [] []) := by
 unfold F_math_bits_Mul64 at hF
 refine cv_of_cw 51 Tryz.func317 rfl Tryz.ntmps317 rfl ?_
 refine cq (cr ?_)
 refine sQ 4 (yg (.int .u64 0)) <| sQ 5 (yg (.int .u64 0)) (rn (cq (cr ?_)))
 refine sQ 14 (ym (.int .u64 x)) <| sQ 15 (Y_band (k := .u64) (a := x) (b := 4294967295) rfl rfl rfl) <| sQ 6 (yg (.int .u64 (bits .and .u64 x 4294967295))) (rn (cq (cr ?_)))
 refine sQ 16 (ym (.int .u64 x)) <| sQ 17 (Y_shr (k := .u64) (a := x) (k' := .u64) (b := 32) rfl rfl rfl (by decide)) <| sQ 7 (yg (.int .u64 (shrK .u64 x 32))) (rn (cq (cr ?_)))
 refine sQ 18 (ym (.int .u64 y)) <| sQ 19 (Y_band (k := .u64) (a := y) (b := 4294967295) rfl rfl rfl) <| sQ 8 (yg (.int .u64 (bits .and .u64 y 4294967295))) (rn (cq (cr ?_)))
 refine sQ 20 (ym (.int .u64 y)) <| sQ 21 (Y_shr (k := .u64) (a := y) (k' := .u64) (b := 32) rfl rfl rfl (by decide)) <| sQ 9 (yg (.int .u64 (shrK .u64 y 32))) (rn (cq (cr ?_)))
 refine sQ 22 (ym (.int .u64 (bits .and .u64 x 4294967295))) <| sQ 23 (ym (.int .u64 (bits .and .u64 y 4294967295))) <| sQ 24 (Y_mul (k := .u64) (a := (bits .and .u64 x 4294967295)) (b := (bits .and .u64 y 4294967295)) rfl rfl rfl) <| sQ 10 (yg (.int .u64 (IntKind.u64.wrap ((bits .and .u64 x 4294967295) * (bits .and .u64 y 4294967295))))) (rn (cq (cr ?_)))
 refine sQ 25 (ym (.int .u64 (shrK .u64 x 32))) <| sQ 26 (ym (.int .u64 (bits .and .u64 y 4294967295))) <| sQ 27 (Y_mul (k := .u64) (a := (shrK .u64 x 32)) (b := (bits .and .u64 y 4294967295)) rfl rfl rfl) <| sQ 28 (ym (.int .u64 (IntKind.u64.wrap ((bits .and .u64 x 4294967295) * (bits .and .u64 y 4294967295))))) <| sQ 29 (Y_shr (k := .u64) (a := (IntKind.u64.wrap ((bits .and .u64 x 4294967295) * (bits .and .u64 y 4294967295)))) (k' := .u64) (b := 32) rfl rfl rfl (by decide)) <| sQ 30 (Y_add (k := .u64) (a := (IntKind.u64.wrap ((shrK .u64 x 32) * (bits .and .u64 y 4294967295)))) (b := (shrK .u64 (IntKind.u64.wrap ((bits .and .u64 x 4294967295) * (bits .and .u64 y 4294967295))) 32)) rfl rfl rfl) ?_
 refine sQ 11 (yg (.int .u64 (IntKind.u64.wrap ((IntKind.u64.wrap ((shrK .u64 x 32) * (bits .and .u64 y 4294967295))) + (shrK .u64 (IntKind.u64.wrap ((bits .and .u64 x 4294967295) * (bits .and .u64 y 4294967295))) 32))))) (rn (cq (cr ?_)))
 refine sQ 31 (ym (.int .u64 (IntKind.u64.wrap ((IntKind.u64.wrap ((shrK .u64 x 32) * (bits .and .u64 y 4294967295))) + (shrK .u64 (IntKind.u64.wrap ((bits .and .u64 x 4294967295) * (bits .and .u64 y 4294967295))) 32))))) <| sQ 32 (Y_band (k := .u64) (a := (IntKind.u64.wrap ((IntKind.u64.wrap ((shrK .u64 x 32) * (bits .and .u64 y 4294967295))) + (shrK .u64 (IntKind.u64.wrap ((bits .and .u64 x 4294967295) * (bits .and .u64 y 4294967295))) 32)))) (b := 4294967295) rfl rfl rfl) <| sQ 12 (yg (.int .u64 (bits .and .u64 (IntKind.u64.wrap ((IntKind.u64.wrap ((shrK .u64 x 32) * (bits .and .u64 y 4294967295))) + (shrK .u64 (IntKind.u64.wrap ((bits .and .u64 x 4294967295) * (bits .and .u64 y 4294967295))) 32))) 4294967295))) (rn (cq (cr ?_)))
 refine sQ 33 (ym (.int .u64 (IntKind.u64.wrap ((IntKind.u64.wrap ((shrK .u64 x 32) * (bits .and .u64 y 4294967295))) + (shrK .u64 (IntKind.u64.wrap ((bits .and .u64 x 4294967295) * (bits .and .u64 y 4294967295))) 32))))) <| sQ 34 (Y_shr (k := .u64) (a := (IntKind.u64.wrap ((IntKind.u64.wrap ((shrK .u64 x 32) * (bits .and .u64 y 4294967295))) + (shrK .u64 (IntKind.u64.wrap ((bits .and .u64 x 4294967295) * (bits .and .u64 y 4294967295))) 32)))) (k' := .u64) (b := 32) rfl rfl rfl (by decide)) <| sQ 13 (yg (.int .u64 (shrK .u64 (IntKind.u64.wrap ((IntKind.u64.wrap ((shrK .u64 x 32) * (bits .and .u64 y 4294967295))) + (shrK .u64 (IntKind.u64.wrap ((bits .and .u64 x 4294967295) * (bits .and .u64 y 4294967295))) 32))) 32))) (rn (cq (cr ?_)))
 refine sQ 35 (ym (.int .u64 (bits .and .u64 (IntKind.u64.wrap ((IntKind.u64.wrap ((shrK .u64 x 32) * (bits .and .u64 y 4294967295))) + (shrK .u64 (IntKind.u64.wrap ((bits .and .u64 x 4294967295) * (bits .and .u64 y 4294967295))) 32))) 4294967295))) <| sQ 36 (ym (.int .u64 (bits .and .u64 x 4294967295))) <| sQ 37 (ym (.int .u64 (shrK .u64 y 32))) <| sQ 38 (Y_mul (k := .u64) (a := (bits .and .u64 x 4294967295)) (b := (shrK .u64 y 32)) rfl rfl rfl) <| sQ 39 (Y_add (k := .u64) (a := (bits .and .u64 (IntKind.u64.wrap ((IntKind.u64.wrap ((shrK .u64 x 32) * (bits .and .u64 y 4294967295))) + (shrK .u64 (IntKind.u64.wrap ((bits .and .u64 x 4294967295) * (bits .and .u64 y 4294967295))) 32))) 4294967295)) (b := (IntKind.u64.wrap ((bits .and .u64 x 4294967295) * (shrK .u64 y 32)))) rfl rfl rfl) <| sQ 12 (yg (.int .u64 (IntKind.u64.wrap ((bits .and .u64 (IntKind.u64.wrap ((IntKind.u64.wrap ((shrK .u64 x 32) * (bits .and .u64 y 4294967295))) + (shrK .u64 (IntKind.u64.wrap ((bits .and .u64 x 4294967295) * (bits .and .u64 y 4294967295))) 32))) 4294967295) + (IntKind.u64.wrap ((bits .and .u64 x 4294967295) * (shrK .u64 y 32))))))) (rn (cq (cr ?_)))
 refine sQ 40 (ym (.int .u64 (shrK .u64 x 32))) <| sQ 41 (ym (.int .u64 (shrK .u64 y 32))) <| sQ 42 (Y_mul (k := .u64) (a := (shrK .u64 x 32)) (b := (shrK .u64 y 32)) rfl rfl rfl) <| sQ 43 (ym (.int .u64 (shrK .u64 (IntKind.u64.wrap ((IntKind.u64.wrap ((shrK .u64 x 32) * (bits .and .u64 y 4294967295))) + (shrK .u64 (IntKind.u64.wrap ((bits .and .u64 x 4294967295) * (bits .and .u64 y 4294967295))) 32))) 32))) <| sQ 44 (Y_add (k := .u64) (a := (IntKind.u64.wrap ((shrK .u64 x 32) * (shrK .u64 y 32)))) (b := (shrK .u64 (IntKind.u64.wrap ((IntKind.u64.wrap ((shrK .u64 x 32) * (bits .and .u64 y 4294967295))) + (shrK .u64 (IntKind.u64.wrap ((bits .and .u64 x 4294967295) * (bits .and .u64 y 4294967295))) 32))) 32)) rfl rfl rfl) <| sQ 45 (ym (.int .u64 (IntKind.u64.wrap ((bits .and .u64 (IntKind.u64.wrap ((IntKind.u64.wrap ((shrK .u64 x 32) * (bits .and .u64 y 4294967295))) + (shrK .u64 (IntKind.u64.wrap ((bits .and .u64 x 4294967295) * (bits .and .u64 y 4294967295))) 32))) 4294967295) + (IntKind.u64.wrap ((bits .and .u64 x 4294967295) * (shrK .u64 y 32))))))) ?_
 refine sQ 46 (Y_shr (k := .u64) (a := (IntKind.u64.wrap ((bits .and .u64 (IntKind.u64.wrap ((IntKind.u64.wrap ((shrK .u64 x 32) * (bits .and .u64 y 4294967295))) + (shrK .u64 (IntKind.u64.wrap ((bits .and .u64 x 4294967295) * (bits .and .u64 y 4294967295))) 32))) 4294967295) + (IntKind.u64.wrap ((bits .and .u64 x 4294967295) * (shrK .u64 y 32)))))) (k' := .u64) (b := 32) rfl rfl rfl (by decide)) <| sQ 47 (Y_add (k := .u64) (a := (IntKind.u64.wrap ((IntKind.u64.wrap ((shrK .u64 x 32) * (shrK .u64 y 32))) + (shrK .u64 (IntKind.u64.wrap ((IntKind.u64.wrap ((shrK .u64 x 32) * (bits .and .u64 y 4294967295))) + (shrK .u64 (IntKind.u64.wrap ((bits .and .u64 x 4294967295) * (bits .and .u64 y 4294967295))) 32))) 32)))) (b := (shrK .u64 (IntKind.u64.wrap ((bits .and .u64 (IntKind.u64.wrap ((IntKind.u64.wrap ((shrK .u64 x 32) * (bits .and .u64 y 4294967295))) + (shrK .u64 (IntKind.u64.wrap ((bits .and .u64 x 4294967295) * (bits .and .u64 y 4294967295))) 32))) 4294967295) + (IntKind.u64.wrap ((bits .and .u64 x 4294967295) * (shrK .u64 y 32))))) 32)) rfl rfl rfl) <| sQ 4 (yg (.int .u64 (IntKind.u64.wrap ((IntKind.u64.wrap ((IntKind.u64.wrap ((shrK .u64 x 32) * (shrK .u64 y 32))) + (shrK .u64 (IntKind.u64.wrap ((IntKind.u64.wrap ((shrK .u64 x 32) * (bits .and .u64 y 4294967295))) + (shrK .u64 (IntKind.u64.wrap ((bits .and .u64 x 4294967295) * (bits .and .u64 y 4294967295))) 32))) 32))) + (shrK .u64 (IntKind.u64.wrap ((bits .and .u64 (IntKind.u64.wrap ((IntKind.u64.wrap ((shrK .u64 x 32) * (bits .and .u64 y 4294967295))) + (shrK .u64 (IntKind.u64.wrap ((bits .and .u64 x 4294967295) * (bits .and .u64 y 4294967295))) 32))) 4294967295) + (IntKind.u64.wrap ((bits .and .u64 x 4294967295) * (shrK .u64 y 32))))) 32))))) (rn (cq (cr ?_)))
 refine sQ 48 (ym (.int .u64 x)) <| sQ 49 (ym (.int .u64 y)) <| sQ 50 (Y_mul (k := .u64) (a := x) (b := y) rfl rfl rfl) <| sQ 5 (yg (.int .u64 (IntKind.u64.wrap (x * y)))) (rn (ct_ ?_))
 obtain ⟨rfl, rfl⟩ := pr2 (sI hF)
 exact ret2 Tryz.results317 (v1 := .int .u64 (IntKind.u64.wrap ((IntKind.u64.wrap ((IntKind.u64.wrap ((shrK .u64 x 32) * (shrK .u64 y 32))) + (shrK .u64 (IntKind.u64.wrap ((IntKind.u64.wrap ((shrK .u64 x 32) * (bits .and .u64 y 4294967295))) + (shrK .u64 (IntKind.u64.wrap ((bits .and .u64 x 4294967295) * (bits .and .u64 y 4294967295))) 32))) 32))) + (shrK .u64 (IntKind.u64.wrap ((bits .and .u64 (IntKind.u64.wrap ((IntKind.u64.wrap ((shrK .u64 x 32) * (bits .and .u64 y 4294967295))) + (shrK .u64 (IntKind.u64.wrap ((bits .and .u64 x 4294967295) * (bits .and .u64 y 4294967295))) 32))) 4294967295) + (IntKind.u64.wrap ((bits .and .u64 x 4294967295) * (shrK .u64 y 32))))) 32)))) (resAt_tmp rfl) (v2 := .int .u64 (IntKind.u64.wrap (x * y))) (resAt_tmp rfl) ⟨rfl, (hS.sN [])⟩

theorem c_math_bits_Mul (x : Int) (y : Int)  (w0 : World)  (hS : ST w0 [] w0 [] []) {r_ : Int} {r_1 : Int} (hF : F_math_bits_Mul x y = some (r_, r_1)) :
  CV Tryz.prog 283 #[.int .u64 x, .int .u64 y] w0 (fun v w' => v = .tuple #[.int .u64 r_, .int .u64 r_1] ∧ ST w0 [] w' [] []) := by
 unfold F_math_bits_Mul at hF
 refine cv_of_cw 30 Tryz.func283 rfl Tryz.ntmps283 rfl ?_
 refine cq (cr ?_)
 refine sQ 4 (yg (.int .u64 0)) <| sQ 5 (yg (.int .u64 0)) (rn (cq ?_))
 refine cw_cond (b := false) rfl (fun h => by cases h) (fun _ => ?_)
 refine cw_skip (cq (cr ?_))
 refine sQ 23 (ym (.int .u64 x)) <| sQ 24 (ym (.int .u64 y)) ?_
 obtain ⟨⟨r_2, r_3⟩, hc, hF⟩ := bI hF
 refine sc 25 rfl rfl (yC [.int .u64 x, .int .u64 y] k_call_317 (c_math_bits_Mul64 x y _  (hS.inn0 [] rfl) hc)) ?_
 rintro _ w_ ⟨rfl, hd⟩
 have hS1 := hS.out00 hd
 refine sQ 22 (ym (.tuple #[.int .u64 r_2, .int .u64 r_3])) <| sQ 26 (ye (.int .u64 r_2)) <| sQ 27 (ye (.int .u64 r_3)) <| sQ 8 (yg (.int .u64 r_2)) <| sQ 9 (yg (.int .u64 r_3)) (rn (cq (cr ?_)))
 refine sQ 28 (ym (.int .u64 r_2)) <| sQ 29 (ym (.int .u64 r_3)) <| sQ 4 (yg (.int .u64 r_2)) <| sQ 5 (yg (.int .u64 r_3)) (rn (ct_ ?_))
 obtain ⟨rfl, rfl⟩ := pr2 (sI hF)
 exact ret2 Tryz.results283 (v1 := .int .u64 r_2) (resAt_tmp rfl) (v2 := .int .u64 r_3) (resAt_tmp rfl) ⟨rfl, (hS1.sN [])⟩

theorem c_slices_Repeat_impl_Gate_impl_Gate (x : List TGate) (count : Int) (B : Option Addr) (c n : Nat) (w0 : World) (hn : x.length = n) (hS : ST w0 [] w0 [] [⟨B, (x.flatMap eN0)⟩]) {r_ : List TGate} (hF : F_slices_Repeat_impl_Gate_impl_Gate x count = some r_) :
  CV Tryz.prog 207 #[.slice B n c, vi count] w0 (fun v w' => ∃ (B1 : Option Addr) (c1 : Nat), v = .slice B1 r_.length c1 ∧ ST w0 [] w' [⟨B1, 120, (r_.flatMap eN0), c1 * 3⟩] []) := by
 subst hn
 unfold F_slices_Repeat_impl_Gate_impl_Gate at hF
 refine cv_of_cw 48 Tryz.func207 rfl Tryz.ntmps207 rfl ?_
 refine cq (cr ?_)
 refine sQ 4 (yg (.slice none 0 0)) (rn (cq (cq (cr ?_))))
 refine sQ 9 (ym (vi count)) <| sQ 10 (yL count 0) (rn ?_)
 refine cw_cond (b := (decide (count < 0))) rfl (fun hb => ?_) (fun hb => ?_)
 ·skip
  have hF1 := ct hF hb
  cases hF1
 ·skip
  have hF2 := cf' hF hb
  refine cw_skip (cq (cr ?_))
  refine sQ 13 (ym (.slice B x.length c)) <| sQ 14 (Y_len (B := B) (m := x.length) (c := c) K5 rfl rfl) <| sQ 15 (Y_conv (k := .i64) (a := (x.length : Int)) (T := 3) (T' := 77) K54 K59 rfl rfl) <| sQ 16 (ym (vi count)) <| sQ 17 (Y_conv (k := .i64) (a := count) (T := 3) (T' := 77) K54 K59 rfl rfl) ?_
  obtain ⟨⟨r_1, r_2⟩, hc, hF2⟩ := bI hF2
  refine sc 18 rfl rfl (yC [.int .u64 (IntKind.u64.wrap (x.length : Int)), .int .u64 (IntKind.u64.wrap count)] k_call_283 (c_math_bits_Mul (IntKind.u64.wrap (x.length : Int)) (IntKind.u64.wrap count) _  (hS.inn0 [] rfl) hc)) ?_
  rintro _ w_ ⟨rfl, hd⟩
  have hS1 := hS.out00 hd
  refine sQ 12 (ym (.tuple #[.int .u64 r_1, .int .u64 r_2])) <| sQ 19 (ye (.int .u64 r_1)) <| sQ 20 (ye (.int .u64 r_2)) <| sQ 5 (yg (.int .u64 r_1)) <| sQ 6 (yg (.int .u64 r_2)) (rn (cq (cq (cr ?_))))
  refine sQ 21 (ym (.int .u64 r_1)) <| sQ 22 (Y_gt (k := .u64) (a := r_1) (b := 0) rfl rfl rfl) <| sQ 23 (ym (.bool (decide (0 < r_1)))) ?_
  refine sgq 24 (B := (!(decide (0 < r_1)))) (v := .int .u64 r_2) rfl rfl (uF_ 23) (fun hg => (ym (.int .u64 r_2))) ?_
  refine sgq 25 (B := (!(decide (0 < r_1)))) (v := .bool (decide (9223372036854775807 < r_2))) rfl rfl (uF_ 23) (fun hg1 => (Y_gt (k := .u64) (a := r_2) (b := 9223372036854775807) rfl (gv_of (v := .int .u64 r_2) hg1) rfl)) ?_
  refine sQ 26 (Y_or (b := (decide (0 < r_1))) (z := (decide (9223372036854775807 < r_2))) rfl rfl rfl rfl) (rn ?_)
  refine cw_cond (b := ((decide (0 < r_1)) || (decide (9223372036854775807 < r_2)))) rfl (fun hb1 => ?_) (fun hb1 => ?_)
  ·skip
   have hF3 := ct hF2 hb1
   cases hF3
  ·skip
   have hF4 := cf' hF2 hb1
   refine cw_skip (cq (cr ?_))
   refine sQ 28 (ym (.int .u64 r_2)) <| sQ 29 (Y_conv (k := .u64) (a := r_2) (T := 77) (T' := 3) k_us_77 K28 rfl rfl) ?_
   obtain ⟨hmk, hF4⟩ := chk_inv hF4
   refine sS 30 (Ys_make (s := 3) (by' := 24) (nn := (i64.wrap r_2).toNat) (a := (i64.wrap r_2)) (b := (i64.wrap r_2)) (cs := ((List.replicate ((i64.wrap r_2).toNat) (TGate.mk 0 0 0)).flatMap eN0)) hS1 K5 K3 K27 K9 rfl rfl rfl rfl hmk.1 rfl (by have := hmk; omega) (by have := hmk; omega) (by omega) (fm_rep (enc := eN0) (d := (TGate.mk 0 0 0)) rfl _)) ?_
   rintro _ w_1 ⟨b, rfl, hS2⟩
   refine sQ 7 (yg (.slice (aD b) ((i64.wrap r_2).toNat) ((i64.wrap r_2).toNat))) (rn (cq (cr ?_)))
   refine sQ 31 (ym (.slice (aD b) ((i64.wrap r_2).toNat) ((i64.wrap r_2).toNat))) <| sQ 32 (ym (.slice B x.length c)) ?_
   refine sS 33 (Ys_copy (enc := eN0) (s := 3) (i := 0) (m := (i64.wrap r_2).toNat) (c := (i64.wrap r_2).toNat) (k := x.length) (B := aD b) (l := (List.replicate ((i64.wrap r_2).toNat) (TGate.mk 0 0 0))) (l' := x) hS2 K5 K3 rfl rfl rfl rfl rfl List.length_replicate eN1 enc_Gate_one (hS2.rf (i := 0) rfl) rfl rfl) ?_
   rintro _ w_2 ⟨rfl, hS3⟩
   refine sQ 8 (yg (vi ((min x.length ((i64.wrap r_2).toNat) : Nat) : Int))) (rn (cq ?_))
   obtain ⟨z, hz, hF5⟩ := bI hF4
   refine cw_block ?_
   refine cw_loop (fun k f w => ∃ (newslice : List TGate) (n1 : Int), FF f [(7, .slice (aD b) ((i64.wrap r_2).toNat) ((i64.wrap r_2).toNat)), (8, vi n1)] ∧ newslice.length = (i64.wrap r_2).toNat ∧ ST w0 [] w [⟨aD b, 120, (newslice.flatMap eN0), ((i64.wrap r_2).toNat) * 3⟩] [⟨B, (x.flatMap eN0)⟩] ∧ whX (F_slices_Repeat_impl_Gate_impl_Gate_l1 r_2) k (newslice, n1) = some z) fuel ⟨(List.take (min x.length ((i64.wrap r_2).toNat)) x ++ List.drop (min x.length ((i64.wrap r_2).toNat)) (List.replicate ((i64.wrap r_2).toNat) (TGate.mk 0 0 0))), ((min x.length ((i64.wrap r_2).toNat) : Nat) : Int), (fc rfl (fc rfl fn_)), (copy_len List.length_replicate rfl), (hS3.sel [0] rfl rfl), hz⟩ ?_
   rintro k_ f w ⟨newslice, n1, hf, hl, hS4, hL⟩
   obtain ⟨K7, y, rfl, hb2, hL1⟩ := whX_go hL
   unfold F_slices_Repeat_impl_Gate_impl_Gate_l1 at hb2
   refine cq (cq (cr ?_))
   refine sQ 34 (ym (vi n1) rfl (hf.g 8 1)) <| sQ 35 (ym (.slice (aD b) ((i64.wrap r_2).toNat) ((i64.wrap r_2).toNat)) rfl (hf.g 7 0)) <| sQ 36 (Y_len (B := aD b) (m := (i64.wrap r_2).toNat) (c := (i64.wrap r_2).toNat) K5 rfl rfl) <| sQ 37 (yL n1 ((i64.wrap r_2).toNat : Int)) (rn ?_)
   refine cw_cond (b := (decide (n1 < ((i64.wrap r_2).toNat : Int)))) rfl (fun hb3 => ?_) (fun hb3 => ?_)
   ·skip
    have hF6 := ct hb2 hb3
    refine cw_skip (cw_block ?_)
    obtain ⟨hsl, hF6⟩ := chk_inv hF6
    have hcap : (i64.wrap r_2).toNat ≤ (i64.wrap r_2).toNat := hS4.lencap (i := 0) rfl (fm_lenn (l := newslice) eN1 hl) rfl rfl
    obtain ⟨hsl1, hF6⟩ := chk_inv hF6
    have hcap1 : (i64.wrap r_2).toNat ≤ (i64.wrap r_2).toNat := hS4.lencap (i := 0) rfl (fm_lenn (l := newslice) eN1 hl) rfl rfl
    refine ra_start (hS4.se []).fn (by kernel_rfl) ?_
    have hS5 := hS4.drew
    refine rq 0 38 (v := vi n1) rfl (hS5.se []) (fun w' hw' => (ym (vi n1) rfl (hf.g 8 1))) ?_
    refine rq 1 39 (v := .slice (aD b) ((i64.wrap r_2).toNat) ((i64.wrap r_2).toNat)) rfl (hS5.se []) (fun w' hw' => (ym (.slice (aD b) ((i64.wrap r_2).toNat) ((i64.wrap r_2).toNat)) rfl (hf.g 7 0))) ?_
    refine rq 2 40 (v := vi n1) rfl (hS5.se []) (fun w' hw' => (ym (vi n1) rfl (hf.g 8 1))) ?_
    refine rq 3 41 (v := .slice (sv (aD b) n1.toNat ((i64.wrap r_2).toNat) 3) (((i64.wrap r_2).toNat) - n1.toNat) (((i64.wrap r_2).toNat) - n1.toNat)) rfl (hS5.se []) (fun w' hw' => (Y_slice (B := aD b) (m := (i64.wrap r_2).toNat) (c := (i64.wrap r_2).toNat) (l := n1.toNat) (h := (i64.wrap r_2).toNat) (q := (i64.wrap r_2).toNat) (s := 3) K5 K3 rfl rfl rfl rfl ⟨_, _, rfl, (Int.toNat_of_nonneg (by omega)).symm⟩ rfl (by omega) (by omega) (by omega))) ?_
    refine rq 4 42 (v := .slice (aD b) ((i64.wrap r_2).toNat) ((i64.wrap r_2).toNat)) rfl (hS5.se []) (fun w' hw' => (ym (.slice (aD b) ((i64.wrap r_2).toNat) ((i64.wrap r_2).toNat)) rfl (hf.g 7 0))) ?_
    refine rq 5 43 (v := vi n1) rfl (hS5.se []) (fun w' hw' => (ym (vi n1) rfl (hf.g 8 1))) ?_
    refine rq 6 44 (v := .slice (sv (aD b) 0 ((i64.wrap r_2).toNat) 3) (n1.toNat - 0) (((i64.wrap r_2).toNat) - 0)) rfl (hS5.se []) (fun w' hw' => (Y_slice (B := aD b) (m := (i64.wrap r_2).toNat) (c := (i64.wrap r_2).toNat) (l := 0) (h := n1.toNat) (q := (i64.wrap r_2).toNat) (s := 3) K5 K3 rfl rfl rfl ⟨_, _, rfl, (Int.toNat_of_nonneg (by omega)).symm⟩ rfl rfl (by omega) (by omega) (by omega))) ?_
    refine rA [7] ?_
    refine rS 45 7 rfl (Ys_copyAt (enc := eN0) (s := 3) (i := 0) (lo := n1.toNat) (m := (i64.wrap r_2).toNat) (c := (i64.wrap r_2).toNat) (k := (n1.toNat - 0)) (B := aD b) (l := newslice) (l' := (List.take n1.toNat newslice)) hS5 K5 K3 rfl rfl rfl rfl rfl hl eN1 enc_Gate_one (by rw [sv_zero]; exact CF.pre (hS5.c 0) (pre_take _ _)) (take_len hl (by omega)) (by omega) rfl) ?_ ?_
    ·rintro _ w_3 ⟨rfl, hS6⟩
     refine ⟨(hS6.se []), ?_⟩
     refine rq 8 46 (v := vi (i64.wrap (n1 + ((min (n1.toNat - 0) ((i64.wrap r_2).toNat - n1.toNat) : Nat) : Int)))) rfl (hS6.se []) (fun w' hw' => (yP n1 ((min (n1.toNat - 0) ((i64.wrap r_2).toNat - n1.toNat) : Nat) : Int))) ?_
     refine rq 9 8 (v := vi (i64.wrap (n1 + ((min (n1.toNat - 0) ((i64.wrap r_2).toNat - n1.toNat) : Nat) : Int)))) rfl (hS6.se []) (fun w' hw' => (yg (vi (i64.wrap (n1 + ((min (n1.toNat - 0) ((i64.wrap r_2).toNat - n1.toNat) : Nat) : Int)))))) ?_
     refine ra_done (by kernel_rfl) ?_
     obtain rfl := sI hF6
     exact ⟨K7, Nat.lt_succ_self _, (List.take n1.toNat newslice ++ List.take (min (n1.toNat - 0) ((i64.wrap r_2).toNat - n1.toNat)) (List.take n1.toNat newslice) ++ List.drop (n1.toNat + (min (n1.toNat - 0) ((i64.wrap r_2).toNat - n1.toNat))) newslice), (i64.wrap (n1 + ((min (n1.toNat - 0) ((i64.wrap r_2).toNat - n1.toNat) : Nat) : Int))), (fc (hf.g 7 0) (fc rfl fn_)), (copyAt_len hl (take_len hl (by omega)) (by omega)), (hS6.sel [0] rfl rfl), hL1⟩
    exact aN
   ·skip
    have hF7 := cf' hb2 hb3
    refine cw_exit rfl ?_
    obtain rfl := sI hF7
    obtain rfl := sI hL1
    refine cq (cr ?_)
    refine sQ 47 (ym (.slice (aD b) ((i64.wrap r_2).toNat) ((i64.wrap r_2).toNat)) rfl (hf.g 7 0)) <| sQ 4 (yg (.slice (aD b) ((i64.wrap r_2).toNat) ((i64.wrap r_2).toNat))) (rn (ct_ ?_))
    obtain rfl := sI hF5
    exact ret1 Tryz.results207 (v1 := .slice (aD b) ((i64.wrap r_2).toNat) ((i64.wrap r_2).toNat)) (resAt_tmp rfl) ⟨aD b, (i64.wrap r_2).toNat, (sl_eqv hl), (hS4.sN [0])⟩

theorem c_impl_phases (count : Int)  (w0 : World)  (hS : ST w0 [] w0 [] []) {r_ : List TGate} (hF : F_impl_phases count = some r_) :
  CV Tryz.prog 105 #[vi count] w0 (fun v w' => ∃ (B : Option Addr) (c : Nat), v = .slice B r_.length c ∧ ST w0 [] w' [⟨B, 120, (r_.flatMap eN0), c * 3⟩] []) := by
 unfold F_impl_phases at hF
 refine cv_of_cw 7 Tryz.func105 rfl Tryz.ntmps105 rfl ?_
 refine cq (cr ?_)
 refine sQ 2 (yg (.slice none 0 0)) (rn (cq (cr ?_)))
 refine sQ 3 (Y_buildS (zs := [vi 0, vi 0, vi 0]) (vs := [(0, vi 12)]) (cs := [vi 12, vi 0, vi 0]) K41 K9 rfl (mpc rfl mpn) rfl) ?_
 refine sS 4 (Ys_bslice (s := 3) (len := 1) (vs := [(0, .agg #[vi 12, vi 0, vi 0])]) (cs := [vi 12, vi 0, vi 0]) (zs := [vi 0, vi 0, vi 0]) (m := 3) hS K5 K3 K35 rfl (mpc rfl mpn) rfl rfl rfl (by kernel_rfl) (by kernel_rfl) rfl) ?_
 rintro _ w_ ⟨b, rfl, hS1⟩
 refine sQ 5 (ym (vi count)) ?_
 obtain ⟨r_1, hc, hF⟩ := bI hF
 refine sc 6 rfl rfl (yC [.slice (aD b) 1 1, vi count] k_call_207 (c_slices_Repeat_impl_Gate_impl_Gate [(TGate.mk 12 0 0)] count (aD b) 1 1 _ rfl (hS1.inn0 [(false, 0)] rfl) hc)) ?_
 rintro _ w_1 ⟨B1, c1, rfl, hd⟩
 have hS2 := hS1.out0 hd
 have hS2 : ST w0 [] _ [⟨aD b, 120, ([(TGate.mk 12 0 0)].flatMap eN0), 1 * 3⟩, ⟨B1, 120, (r_1.flatMap eN0), c1 * 3⟩] [] := hS2
 refine sQ 2 (yg (.slice B1 r_1.length c1)) (rn (ct_ ?_))
 obtain rfl := sI hF
 exact ret1 Tryz.results105 (v1 := .slice B1 r_1.length c1) (resAt_tmp rfl) ⟨B1, c1, rfl, (hS2.sN [1])⟩

theorem c_math_bits_Len64 (x : Int)  (w0 : World)  (hS : ST w0 [] w0 [] []) {r_ : Int} (hF : F_math_bits_Len64 x = some r_) :
  CV Tryz.prog 227 #[.int .u64 x] w0 (fun v w' => v = vi r_ ∧ ST w0 [] w' [] []) := by
 unfold F_math_bits_Len64 at hF
 refine cv_of_cw 25 Tryz.func227 rfl Tryz.ntmps227 rfl ?_
 refine cq (cr ?_)
 refine sQ 2 (yg (vi 0)) (rn (cq ?_))
 obtain ⟨z, hz, hF1⟩ := bI hF
 refine cw_mid (fun f w => ∃ (x1 : Int) (n : Int), (x1, n) = z ∧ FF f [(0, .int .u64 x1), (2, vi n)] ∧ ST w0 [] w [] []) ?_ ?_
 ·skip
  refine cq (cr ?_)
  refine sQ 3 (ym (.int .u64 x)) <| sQ 4 (Y_ge (k := .u64) (a := x) (b := 4294967296) rfl rfl rfl) (rn ?_)
  refine cw_cond (b := (decide (4294967296 ≤ x))) rfl (fun hb => ?_) (fun hb => ?_)
  ·skip
   have hF2 := ct hz hb
   refine cq (cr ?_)
   refine sQ 5 (ym (.int .u64 x)) <| sQ 6 (Y_shr (k := .u64) (a := x) (k' := .u64) (b := 32) rfl rfl rfl (by decide)) <| sQ 0 (yg (.int .u64 (shrK .u64 x 32))) (rn (cr ?_))
   refine sQ 2 (yg (vi 32)) (rn ?_)
   exact ⟨(shrK .u64 x 32), 32, (sI hF2), (fc rfl (fc rfl fn_)), (hS.sel [] rfl rfl)⟩
  ·skip
   have hF3 := cf' hz hb
   refine cw_skip ?_
   exact ⟨x, 0, (sI hF3), (fc rfl (fc rfl fn_)), (hS.sel [] rfl rfl)⟩
 rintro f w ⟨x1, n, rfl, hf, hS1⟩
 refine cq ?_
 obtain ⟨z1, hz1, hF4⟩ := bI hF1
 refine cw_mid (fun f w => ∃ (x2 : Int) (n1 : Int), (x2, n1) = z1 ∧ FF f [(0, .int .u64 x2), (2, vi n1)] ∧ ST w0 [] w [] []) ?_ ?_
 ·skip
  refine cq (cr ?_)
  refine sQ 7 (ym (.int .u64 x1) rfl (hf.g 0 0)) <| sQ 8 (Y_ge (k := .u64) (a := x1) (b := 65536) rfl rfl rfl) (rn ?_)
  refine cw_cond (b := (decide (65536 ≤ x1))) rfl (fun hb1 => ?_) (fun hb1 => ?_)
  ·skip
   have hF5 := ct hz1 hb1
   refine cq (cr ?_)
   refine sQ 9 (ym (.int .u64 x1) rfl (hf.g 0 0)) <| sQ 10 (Y_shr (k := .u64) (a := x1) (k' := .u64) (b := 16) rfl rfl rfl (by decide)) <| sQ 0 (yg (.int .u64 (shrK .u64 x1 16))) (rn (cr ?_))
   refine sQ 11 (ym (vi n) rfl (hf.g 2 1)) <| sQ 12 (yP n 16) <| sQ 2 (yg (vi (i64.wrap (n + 16)))) (rn ?_)
   exact ⟨(shrK .u64 x1 16), (i64.wrap (n + 16)), (sI hF5), (fc rfl (fc rfl fn_)), (hS1.sel [] rfl rfl)⟩
  ·skip
   have hF6 := cf' hz1 hb1
   refine cw_skip ?_
   exact ⟨x1, n, (sI hF6), (fc (hf.g 0 0) (fc (hf.g 2 1) fn_)), (hS1.sel [] rfl rfl)⟩
 rintro f w ⟨x2, n1, rfl, hf1, hS2⟩
 refine cq ?_
 obtain ⟨z2, hz2, hF7⟩ := bI hF4
 refine cw_mid (fun f w => ∃ (x3 : Int) (n2 : Int), (x3, n2) = z2 ∧ FF f [(0, .int .u64 x3), (2, vi n2)] ∧ ST w0 [] w [] []) ?_ ?_
 ·skip
  refine cq (cr ?_)
  refine sQ 13 (ym (.int .u64 x2) rfl (hf1.g 0 0)) <| sQ 14 (Y_ge (k := .u64) (a := x2) (b := 256) rfl rfl rfl) (rn ?_)
  refine cw_cond (b := (decide (256 ≤ x2))) rfl (fun hb2 => ?_) (fun hb2 => ?_)
  ·skip
   have hF8 := ct hz2 hb2
   refine cq (cr ?_)
   refine sQ 15 (ym (.int .u64 x2) rfl (hf1.g 0 0)) <| sQ 16 (Y_shr (k := .u64) (a := x2) (k' := .u64) (b := 8) rfl rfl rfl (by decide)) <| sQ 0 (yg (.int .u64 (shrK .u64 x2 8))) (rn (cr ?_))
   refine sQ 17 (ym (vi n1) rfl (hf1.g 2 1)) <| sQ 18 (yP n1 8) <| sQ 2 (yg (vi (i64.wrap (n1 + 8)))) (rn ?_)
   exact ⟨(shrK .u64 x2 8), (i64.wrap (n1 + 8)), (sI hF8), (fc rfl (fc rfl fn_)), (hS2.sel [] rfl rfl)⟩
  ·skip
   have hF9 := cf' hz2 hb2
   refine cw_skip ?_
   exact ⟨x2, n1, (sI hF9), (fc (hf1.g 0 0) (fc (hf1.g 2 1) fn_)), (hS2.sel [] rfl rfl)⟩
 rintro f w ⟨x3, n2, rfl, hf2, hS3⟩
 refine cq (cr ?_)
 refine sQ 19 (ym (vi n2) rfl (hf2.g 2 1)) <| sQ 20 (ym (.int .u64 x3) rfl (hf2.g 0 0)) <| sQ 21 (Y_conv (k := .u64) (a := x3) (T := 113) (T' := 5) K115 k_int_5_u8 rfl rfl) ?_
 obtain ⟨x4, hx, hF7⟩ := bI hF7
 refine sQ 22 (Y_sidx (a := ([0, 1, 2, 2, 3, 3, 3, 3, 4, 4, 4, 4, 4, 4, 4, 4, 5, 5, 5, 5, 5, 5, 5, 5, 5, 5, 5, 5, 5, 5, 5, 5, 6, 6, 6, 6, 6, 6, 6, 6, 6, 6, 6, 6, 6, 6, 6, 6, 6, 6, 6, 6, 6, 6, 6, 6, 6, 6, 6, 6, 6, 6, 6, 6, 7, 7, 7, 7, 7, 7, 7, 7, 7, 7, 7, 7, 7, 7, 7, 7, 7, 7, 7, 7, 7, 7, 7, 7, 7, 7, 7, 7, 7, 7, 7, 7, 7, 7, 7, 7, 7, 7, 7, 7, 7, 7, 7, 7, 7, 7, 7, 7, 7, 7, 7, 7, 7, 7, 7, 7, 7, 7, 7, 7, 7, 7, 7, 7, 8, 8, 8, 8, 8, 8, 8, 8, 8, 8, 8, 8, 8, 8, 8, 8, 8, 8, 8, 8, 8, 8, 8, 8, 8, 8, 8, 8, 8, 8, 8, 8, 8, 8, 8, 8, 8, 8, 8, 8, 8, 8, 8, 8, 8, 8, 8, 8, 8, 8, 8, 8, 8, 8, 8, 8, 8, 8, 8, 8, 8, 8, 8, 8, 8, 8, 8, 8, 8, 8, 8, 8, 8, 8, 8, 8, 8, 8, 8, 8, 8, 8, 8, 8, 8, 8, 8, 8, 8, 8, 8, 8, 8, 8, 8, 8, 8, 8, 8, 8, 8, 8, 8, 8, 8, 8, 8, 8, 8, 8, 8, 8, 8, 8, 8, 8, 8, 8, 8, 8, 8, 8, 8, 8, 8, 8, 8, 8] : List UInt8)) (k := .u8) (i := (IntKind.u8.wrap x3)) (b := x4) k_str_9 rfl rfl rfl hx) <| sQ 23 (Y_conv (k := .u8) (a := (x4.toNat : Int)) (T := 5) (T' := 3) k_us_5 K28 rfl rfl) <| sQ 24 (yP n2 (i64.wrap (x4.toNat : Int))) <| sQ 2 (yg (vi (i64.wrap (n2 + (i64.wrap (x4.toNat : Int)))))) (rn (ct_ ?_))
 obtain rfl := sI hF7
 exact ret1 Tryz.results227 (v1 := vi (i64.wrap (n2 + (i64.wrap (x4.toNat : Int))))) (resAt_tmp rfl) ⟨rfl, (hS3.sN [])⟩

theorem c_math_bits_Len (x : Int)  (w0 : World)  (hS : ST w0 [] w0 [] []) {r_ : Int} (hF : F_math_bits_Len x = some r_) :
  CV Tryz.prog 137 #[.int .u64 x] w0 (fun v w' => v = vi r_ ∧ ST w0 [] w' [] []) := by
 unfold F_math_bits_Len at hF
 refine cv_of_cw 8 Tryz.func137 rfl Tryz.ntmps137 rfl ?_
 refine cq (cr ?_)
 refine sQ 2 (yg (vi 0)) (rn (cq ?_))
 refine cw_cond (b := false) rfl (fun h => by cases h) (fun _ => ?_)
 refine cw_skip (cq (cr ?_))
 refine sQ 6 (ym (.int .u64 x)) ?_
 obtain ⟨r_1, hc, hF⟩ := bI hF
 refine sc 7 rfl rfl (yC [.int .u64 x] k_call_227 (c_math_bits_Len64 x _  (hS.inn0 [] rfl) hc)) ?_
 rintro _ w_ ⟨rfl, hd⟩
 have hS1 := hS.out00 hd
 refine sQ 2 (yg (vi r_1)) (rn (ct_ ?_))
 obtain rfl := sI hF
 exact ret1 Tryz.results137 (v1 := vi r_1) (resAt_tmp rfl) ⟨rfl, (hS1.sN [])⟩

theorem c_impl_rotation (q : Int) (coef : Int)  (w0 : World)  (hS : ST w0 [] w0 [] []) {r_ : List TGate} (hF : F_impl_rotation q coef = some r_) :
  CV Tryz.prog 138 #[vi q, vi coef] w0 (fun v w' => ∃ (B : Option Addr) (c : Nat), v = .slice B r_.length c ∧ ST w0 [] w' [⟨B, 120, (r_.flatMap eN0), c * 3⟩] []) := by
 unfold F_impl_rotation at hF
 refine cv_of_cw 34 Tryz.func138 rfl Tryz.ntmps138 rfl ?_
 refine cq (cr ?_)
 refine sQ 4 (yg (.slice none 0 0)) (rn (cq (cr ?_)))
 refine sS 9 (Ys_bslice (s := 1) (len := 1) (vs := [(0, vi 7)]) (cs := [vi 7]) (zs := [vi 0]) (m := 1) hS K2 K0 K46 rfl (mpc rfl mpn) rfl rfl rfl (by kernel_rfl) (by kernel_rfl) rfl) ?_
 rintro _ w_ ⟨b, rfl, hS1⟩
 refine sS 10 (Ys_bslice (s := 1) (len := 1) (vs := [(0, vi 5)]) (cs := [vi 5]) (zs := [vi 0]) (m := 1) hS1 K2 K0 K46 rfl (mpc rfl mpn) rfl rfl rfl (by kernel_rfl) (by kernel_rfl) rfl) ?_
 rintro _ w_1 ⟨b1, rfl, hS2⟩
 refine sS 11 (Ys_bslice (s := 1) (len := 2) (vs := [(0, vi 5), (1, vi 7)]) (cs := [vi 5, vi 7]) (zs := [vi 0, vi 0]) (m := 2) hS2 K2 K0 K46 rfl (mpc rfl (mpc rfl mpn)) rfl rfl rfl (by kernel_rfl) (by kernel_rfl) rfl) ?_
 rintro _ w_2 ⟨b2, rfl, hS3⟩
 refine sS 12 (Ys_bslice (s := 1) (len := 1) (vs := [(0, vi 4)]) (cs := [vi 4]) (zs := [vi 0]) (m := 1) hS3 K2 K0 K46 rfl (mpc rfl mpn) rfl rfl rfl (by kernel_rfl) (by kernel_rfl) rfl) ?_
 rintro _ w_3 ⟨b3, rfl, hS4⟩
 refine sS 13 (Ys_bslice (s := 1) (len := 2) (vs := [(0, vi 4), (1, vi 7)]) (cs := [vi 4, vi 7]) (zs := [vi 0, vi 0]) (m := 2) hS4 K2 K0 K46 rfl (mpc rfl (mpc rfl mpn)) rfl rfl rfl (by kernel_rfl) (by kernel_rfl) rfl) ?_
 rintro _ w_4 ⟨b4, rfl, hS5⟩
 refine sS 14 (Ys_bslice (s := 1) (len := 1) (vs := [(0, vi 6)]) (cs := [vi 6]) (zs := [vi 0]) (m := 1) hS5 K2 K0 K46 rfl (mpc rfl mpn) rfl rfl rfl (by kernel_rfl) (by kernel_rfl) rfl) ?_
 rintro _ w_5 ⟨b5, rfl, hS6⟩
 refine sS 15 (Ys_bslice (s := 1) (len := 1) (vs := [(0, vi 8)]) (cs := [vi 8]) (zs := [vi 0]) (m := 1) hS6 K2 K0 K46 rfl (mpc rfl mpn) rfl rfl rfl (by kernel_rfl) (by kernel_rfl) rfl) ?_
 rintro _ w_6 ⟨b6, rfl, hS7⟩
 refine sQ 16 (Y_buildA (zs := [.slice none 0 0, .slice none 0 0, .slice none 0 0, .slice none 0 0, .slice none 0 0, .slice none 0 0, .slice none 0 0, .slice none 0 0]) (vs := [(0, .slice none 0 0), (1, .slice (aD b) 1 1), (2, .slice (aD b1) 1 1), (3, .slice (aD b2) 2 2), (4, .slice (aD b3) 1 1), (5, .slice (aD b4) 2 2), (6, .slice (aD b5) 1 1), (7, .slice (aD b6) 1 1)]) (cs := [.slice none 0 0, .slice (aD b) 1 1, .slice (aD b1) 1 1, .slice (aD b2) 2 2, .slice (aD b3) 1 1, .slice (aD b4) 2 2, .slice (aD b5) 1 1, .slice (aD b6) 1 1]) K63 K14 k_zero_262 rfl (mpc rfl (mpc rfl (mpc rfl (mpc rfl (mpc rfl (mpc rfl (mpc rfl (mpc rfl mpn)))))))) (by kernel_rfl)) ?_
 refine sS 5 (yN [.slice none 0 0, .slice none 0 0, .slice none 0 0, .slice none 0 0, .slice none 0 0, .slice none 0 0, .slice none 0 0, .slice none 0 0] 8 hS7 k_zero_262) ?_
 rintro _ w_7 ⟨b7, rfl, hS8⟩
 refine s0 (yT 7 8 (aD b7) 262 (.agg #[.slice none 0 0, .slice (aD b) 1 1, .slice (aD b1) 1 1, .slice (aD b2) 2 2, .slice (aD b3) 1 1, .slice (aD b4) 2 2, .slice (aD b5) 1 1, .slice (aD b6) 1 1]) [.slice none 0 0, .slice (aD b) 1 1, .slice (aD b1) 1 1, .slice (aD b2) 2 2, .slice (aD b3) 1 1, .slice (aD b4) 2 2, .slice (aD b5) 1 1, .slice (aD b6) 1 1] 0 hS8 k_sz_262_8) ?_
 rintro _ w_8 ⟨rfl, hS9⟩
 refine rn (cq (cr ?_))
 refine sS 17 (Ys_bslice0 (s := 3) (e := 120) hS9 K5 K3 rfl) ?_
 rintro _ w_9 ⟨b8, rfl, hS10⟩
 refine sQ 6 (yg (.slice (aD b8) 0 0)) (rn (cq (cq (cr ?_))))
 refine sQ 18 (ym (vi coef)) ?_
 refine rw_split (B := (coef == 0)) (fun hb => ?_) (fun hb => ?_)
 ·skip
  have hF1 := ct hF hb
  have hS11 := hS10.addNil 3
  refine sQ 19 (Y_indexArrC (c := 0) (B := aD b7) (k := .i64) (i := coef) K63 K14 rfl rfl rfl (idx_is hb) (by decide)) <| sQ 20 (yl (aD b7) 0 [.slice none 0 0, .slice (aD b) 1 1, .slice (aD b1) 1 1, .slice (aD b2) 2 2, .slice (aD b3) 1 1, .slice (aD b4) 2 2, .slice (aD b5) 1 1, .slice (aD b6) 1 1] (.slice none 0 0) K13 (hS11.c 7)) <| sQ 21 (Y_len (B := none) (m := 0) (c := 0) K2 rfl rfl) <| sQ 22 (ym (vi 0)) (rn ?_)
  obtain ⟨z, hz, hF2⟩ := bI hF1
  refine cw_block ?_
  refine cw_loop (fun k f w => ∃ (i : Nat) (out : List TGate) (B1 : Option Addr) (c1 : Nat), FF f [(0, vi q), (6, .slice B1 out.length c1), (20, .slice none 0 0), (21, vi 0), (22, vi (i : Int))] ∧ ST w0 [] w [⟨B1, 120, (out.flatMap eN0), c1 * 3⟩, ⟨none, 3, ([].flatMap encI), 0 * 1⟩] [] ∧ i + k = 0 ∧ forN (F_impl_rotation_l1 q) k i out = some z) 0 ⟨0, [], aD b8, 0, (fc rfl (fc rfl (fc rfl (fc rfl (fc rfl fn_))))), (hS11.sel [8, 9] rfl rfl), Nat.zero_add _, hz⟩ ?_
  rintro k_ f w ⟨i, out, B1, c1, hf, hS12, hik, hL⟩
  refine cq (cr ?_)
  refine sQ 23 (yL (i : Int) 0 rfl (hf.g 22 4) (hf.g 21 3)) (rn (cq ?_))
  refine cw_cond (b := (decide ((i : Int) < 0))) rfl (fun hlt => ?_) (fun hlt => ?_)
  ·skip
   have hlt1 : i < 0 := by have h := of_decide_eq_true hlt; omega
   obtain ⟨K7, rfl⟩ : ∃ k2, k_ = k2 + 1 := ⟨k_ - 1, by omega⟩
   obtain ⟨y, hb1, hL1⟩ := forN_go hL
   unfold F_impl_rotation_l1 at hb1
   refine cw_skip (cq (cw_block (cq (cr ?_))))
   obtain ⟨x, hx, hb1⟩ := bI hb1
   refine sQ 24 (Y_index (B := none) (m := 0) (c := 0) (k := .i64) (i := (i : Int)) K2 K0 rfl (hf.g 20 2) (hf.g 22 4) (gi_isSome encI_len rfl (hS12.c 1) hx) (getI_nn hx) (getI_ltI hx rfl)) <| sQ 25 (yl none ((i : Int).toNat * 1) ([].flatMap encI) (vi x) K1 (hS12.c 1) rfl rfl (gi_at0 encI_len hx rfl)) <| sQ 8 (yg (vi x)) (rn (cr ?_))
   refine sQ 26 (ym (.slice B1 out.length c1) rfl (hf.g 6 1)) <| sQ 27 (ym (vi x)) <| sQ 28 (ym (vi q) rfl (hf.g 0 0)) <| sQ 29 (Y_buildS (zs := [vi 0, vi 0, vi 0]) (vs := [(0, vi x), (1, vi q)]) (cs := [vi x, vi q, vi 0]) K41 K9 rfl (mpc rfl (mpc rfl mpn)) rfl) ?_
   refine sS 30 (Ys_bslice (s := 3) (len := 1) (vs := [(0, .agg #[vi x, vi q, vi 0])]) (cs := [vi x, vi q, vi 0]) (zs := [vi 0, vi 0, vi 0]) (m := 3) hS12 K5 K3 K35 rfl (mpc rfl mpn) rfl rfl rfl (by kernel_rfl) (by kernel_rfl) rfl) ?_
   rintro _ w_10 ⟨b9, rfl, hS13⟩
   obtain ⟨hap, hb1⟩ := chk_inv hb1
   refine sS 31 (Ys_append (s := 3) (by' := 24) (i := 0) (nn := out.length) (c := c1) (k := 1) (len := (out ++ [(TGate.mk x q 0)]).length) (B := B1) (xs := ([(TGate.mk x q 0)].flatMap eN0)) (cs' := ((out ++ [(TGate.mk x q 0)]).flatMap eN0)) hS13 K5 K3 K27 K9 rfl (by decide) rfl rfl rfl rfl (fm_lenn (l := out) eN1 rfl) rfl (hS13.c 2) (fm_lenn (l := [(TGate.mk x q 0)]) eN1 rfl) (fm_one' (enc := eN0) enc_Gate_one [(TGate.mk x q 0)]) (by have := hap; omega) (by have := hap; simp only [maxLen]; omega) (fm_app _ _) (app_len (l := out) (l' := [(TGate.mk x q 0)]) rfl rfl)) ?_
   rintro _ w_11 ⟨B2, c2, rfl, hS14⟩
   refine sQ 6 (yg (.slice B2 ((out ++ [(TGate.mk x q 0)]).length) c2)) (rn (cr ?_))
   refine sQ 32 (yP (i : Int) 1 rfl (hf.g 22 4)) <| sQ 22 (ym (vi (i64.wrap ((i : Int) + 1)))) (rn ?_)
   obtain rfl := sI hb1
   exact ⟨K7, Nat.lt_succ_self _, i + 1, (out ++ [(TGate.mk x q 0)]), B2, c2, (fc (hf.g 0 0) (fc rfl (fc (hf.g 20 2) (fc (hf.g 21 3) (fc (congrArg (Value.int .i64) (wr_succ hlt1 (show 0 ≤ 9223372036854775807 by decide))) fn_))))), (hS14.sel [0, 1] rfl rfl), (by omega), hL1⟩
  ·skip
   obtain rfl : k_ = 0 := by have h := of_decide_eq_false hlt; omega
   refine cw_exit rfl ?_
   obtain rfl := sI hL
   refine cq (cr ?_)
   refine sQ 33 (ym (.slice B1 out.length c1) rfl (hf.g 6 1)) <| sQ 4 (yg (.slice B1 out.length c1)) (rn (ct_ ?_))
   obtain rfl := sI hF2
   exact ret1 Tryz.results138 (v1 := .slice B1 out.length c1) (resAt_tmp rfl) ⟨B1, c1, rfl, (hS12.sN [0])⟩
 ·skip
  have hF3 := cf' hF hb
  refine rw_split (B := (coef == 1)) (fun hb2 => ?_) (fun hb2 => ?_)
  ·skip
   have hF4 := ct hF3 hb2
   refine sQ 19 (Y_indexArrC (c := 1) (B := aD b7) (k := .i64) (i := coef) K63 K14 rfl rfl rfl (idx_is hb2) (by decide)) <| sQ 20 (yl (aD b7) 1 [.slice none 0 0, .slice (aD b) 1 1, .slice (aD b1) 1 1, .slice (aD b2) 2 2, .slice (aD b3) 1 1, .slice (aD b4) 2 2, .slice (aD b5) 1 1, .slice (aD b6) 1 1] (.slice (aD b) 1 1) K13 (hS10.c 7)) <| sQ 21 (Y_len (B := aD b) (m := 1) (c := 1) K2 rfl rfl) <| sQ 22 (ym (vi 0)) (rn ?_)
   obtain ⟨z1, hz1, hF5⟩ := bI hF4
   refine cw_block ?_
   refine cw_loop (fun k f w => ∃ (i1 : Nat) (out1 : List TGate) (B3 : Option Addr) (c3 : Nat), FF f [(0, vi q), (6, .slice B3 out1.length c3), (20, .slice (aD b) 1 1), (21, vi 1), (22, vi (i1 : Int))] ∧ ST w0 [] w [⟨B3, 120, (out1.flatMap eN0), c3 * 3⟩, ⟨aD b, 3, ([7].flatMap encI), 1 * 1⟩] [] ∧ i1 + k = 1 ∧ forN (F_impl_rotation_l2 q) k i1 out1 = some z1) 1 ⟨0, [], aD b8, 0, (fc rfl (fc rfl (fc rfl (fc rfl (fc rfl fn_))))), (hS10.sel [8, 0] rfl rfl), Nat.zero_add _, hz1⟩ ?_
   rintro K16 f w ⟨i1, out1, B3, c3, hf1, hS15, hik1, hL2⟩
   refine cq (cr ?_)
   refine sQ 23 (yL (i1 : Int) 1 rfl (hf1.g 22 4) (hf1.g 21 3)) (rn (cq ?_))
   refine cw_cond (b := (decide ((i1 : Int) < 1))) rfl (fun hlt2 => ?_) (fun hlt2 => ?_)
   ·skip
    have hlt3 : i1 < 1 := by have h := of_decide_eq_true hlt2; omega
    obtain ⟨K52, rfl⟩ : ∃ k2, K16 = k2 + 1 := ⟨K16 - 1, by omega⟩
    obtain ⟨y1, hb3, hL3⟩ := forN_go hL2
    unfold F_impl_rotation_l2 at hb3
    refine cw_skip (cq (cw_block (cq (cr ?_))))
    obtain ⟨x1, hx1, hb3⟩ := bI hb3
    refine sQ 24 (Y_index (B := aD b) (m := 1) (c := 1) (k := .i64) (i := (i1 : Int)) K2 K0 rfl (hf1.g 20 2) (hf1.g 22 4) (gi_isSome encI_len rfl (hS15.c 1) hx1) (getI_nn hx1) (getI_ltI hx1 rfl)) <| sQ 25 (yl (aD b) ((i1 : Int).toNat * 1) ([7].flatMap encI) (vi x1) K1 (hS15.c 1) rfl rfl (gi_at0 encI_len hx1 rfl)) <| sQ 8 (yg (vi x1)) (rn (cr ?_))
    refine sQ 26 (ym (.slice B3 out1.length c3) rfl (hf1.g 6 1)) <| sQ 27 (ym (vi x1)) <| sQ 28 (ym (vi q) rfl (hf1.g 0 0)) <| sQ 29 (Y_buildS (zs := [vi 0, vi 0, vi 0]) (vs := [(0, vi x1), (1, vi q)]) (cs := [vi x1, vi q, vi 0]) K41 K9 rfl (mpc rfl (mpc rfl mpn)) rfl) ?_
    refine sS 30 (Ys_bslice (s := 3) (len := 1) (vs := [(0, .agg #[vi x1, vi q, vi 0])]) (cs := [vi x1, vi q, vi 0]) (zs := [vi 0, vi 0, vi 0]) (m := 3) hS15 K5 K3 K35 rfl (mpc rfl mpn) rfl rfl rfl (by kernel_rfl) (by kernel_rfl) rfl) ?_
    rintro _ w_12 ⟨b10, rfl, hS16⟩
    obtain ⟨hap1, hb3⟩ := chk_inv hb3
    refine sS 31 (Ys_append (s := 3) (by' := 24) (i := 0) (nn := out1.length) (c := c3) (k := 1) (len := (out1 ++ [(TGate.mk x1 q 0)]).length) (B := B3) (xs := ([(TGate.mk x1 q 0)].flatMap eN0)) (cs' := ((out1 ++ [(TGate.mk x1 q 0)]).flatMap eN0)) hS16 K5 K3 K27 K9 rfl (by decide) rfl rfl rfl rfl (fm_lenn (l := out1) eN1 rfl) rfl (hS16.c 2) (fm_lenn (l := [(TGate.mk x1 q 0)]) eN1 rfl) (fm_one' (enc := eN0) enc_Gate_one [(TGate.mk x1 q 0)]) (by have := hap1; omega) (by have := hap1; simp only [maxLen]; omega) (fm_app _ _) (app_len (l := out1) (l' := [(TGate.mk x1 q 0)]) rfl rfl)) ?_
    rintro _ w_13 ⟨B4, c4, rfl, hS17⟩
    refine sQ 6 (yg (.slice B4 ((out1 ++ [(TGate.mk x1 q 0)]).length) c4)) (rn (cr ?_))
    refine sQ 32 (yP (i1 : Int) 1 rfl (hf1.g 22 4)) <| sQ 22 (ym (vi (i64.wrap ((i1 : Int) + 1)))) (rn ?_)
    obtain rfl := sI hb3
    exact ⟨K52, Nat.lt_succ_self _, i1 + 1, (out1 ++ [(TGate.mk x1 q 0)]), B4, c4, (fc (hf1.g 0 0) (fc rfl (fc (hf1.g 20 2) (fc (hf1.g 21 3) (fc (congrArg (Value.int .i64) (wr_succ hlt3 (show 1 ≤ 9223372036854775807 by decide))) fn_))))), (hS17.sel [0, 1] rfl rfl), (by omega), hL3⟩
   ·skip
    obtain rfl : K16 = 0 := by have h := of_decide_eq_false hlt2; omega
    refine cw_exit rfl ?_
    obtain rfl := sI hL2
    refine cq (cr ?_)
    refine sQ 33 (ym (.slice B3 out1.length c3) rfl (hf1.g 6 1)) <| sQ 4 (yg (.slice B3 out1.length c3)) (rn (ct_ ?_))
    obtain rfl := sI hF5
    exact ret1 Tryz.results138 (v1 := .slice B3 out1.length c3) (resAt_tmp rfl) ⟨B3, c3, rfl, (hS15.sN [0])⟩
  ·skip
   have hF6 := cf' hF3 hb2
   refine rw_split (B := (coef == 2)) (fun hb4 => ?_) (fun hb4 => ?_)
   ·skip
    have hF7 := ct hF6 hb4
    refine sQ 19 (Y_indexArrC (c := 2) (B := aD b7) (k := .i64) (i := coef) K63 K14 rfl rfl rfl (idx_is hb4) (by decide)) <| sQ 20 (yl (aD b7) 2 [.slice none 0 0, .slice (aD b) 1 1, .slice (aD b1) 1 1, .slice (aD b2) 2 2, .slice (aD b3) 1 1, .slice (aD b4) 2 2, .slice (aD b5) 1 1, .slice (aD b6) 1 1] (.slice (aD b1) 1 1) K13 (hS10.c 7)) <| sQ 21 (Y_len (B := aD b1) (m := 1) (c := 1) K2 rfl rfl) <| sQ 22 (ym (vi 0)) (rn ?_)
    obtain ⟨z2, hz2, hF8⟩ := bI hF7
    refine cw_block ?_
    refine cw_loop (fun k f w => ∃ (i2 : Nat) (out2 : List TGate) (B5 : Option Addr) (c5 : Nat), FF f [(0, vi q), (6, .slice B5 out2.length c5), (20, .slice (aD b1) 1 1), (21, vi 1), (22, vi (i2 : Int))] ∧ ST w0 [] w [⟨B5, 120, (out2.flatMap eN0), c5 * 3⟩, ⟨aD b1, 3, ([5].flatMap encI), 1 * 1⟩] [] ∧ i2 + k = 1 ∧ forN (F_impl_rotation_l3 q) k i2 out2 = some z2) 1 ⟨0, [], aD b8, 0, (fc rfl (fc rfl (fc rfl (fc rfl (fc rfl fn_))))), (hS10.sel [8, 1] rfl rfl), Nat.zero_add _, hz2⟩ ?_
    rintro K67 f w ⟨i2, out2, B5, c5, hf2, hS18, hik2, hL4⟩
    refine cq (cr ?_)
    refine sQ 23 (yL (i2 : Int) 1 rfl (hf2.g 22 4) (hf2.g 21 3)) (rn (cq ?_))
    refine cw_cond (b := (decide ((i2 : Int) < 1))) rfl (fun hlt4 => ?_) (fun hlt4 => ?_)
    ·skip
     have hlt5 : i2 < 1 := by have h := of_decide_eq_true hlt4; omega
     obtain ⟨K99, rfl⟩ : ∃ k2, K67 = k2 + 1 := ⟨K67 - 1, by omega⟩
     obtain ⟨y2, hb5, hL5⟩ := forN_go hL4
     unfold F_impl_rotation_l3 at hb5
     refine cw_skip (cq (cw_block (cq (cr ?_))))
     obtain ⟨x2, hx2, hb5⟩ := bI hb5
     refine sQ 24 (Y_index (B := aD b1) (m := 1) (c := 1) (k := .i64) (i := (i2 : Int)) K2 K0 rfl (hf2.g 20 2) (hf2.g 22 4) (gi_isSome encI_len rfl (hS18.c 1) hx2) (getI_nn hx2) (getI_ltI hx2 rfl)) <| sQ 25 (yl (aD b1) ((i2 : Int).toNat * 1) ([5].flatMap encI) (vi x2) K1 (hS18.c 1) rfl rfl (gi_at0 encI_len hx2 rfl)) <| sQ 8 (yg (vi x2)) (rn (cr ?_))
     refine sQ 26 (ym (.slice B5 out2.length c5) rfl (hf2.g 6 1)) <| sQ 27 (ym (vi x2)) <| sQ 28 (ym (vi q) rfl (hf2.g 0 0)) <| sQ 29 (Y_buildS (zs := [vi 0, vi 0, vi 0]) (vs := [(0, vi x2), (1, vi q)]) (cs := [vi x2, vi q, vi 0]) K41 K9 rfl (mpc rfl (mpc rfl mpn)) rfl) ?_
     refine sS 30 (Ys_bslice (s := 3) (len := 1) (vs := [(0, .agg #[vi x2, vi q, vi 0])]) (cs := [vi x2, vi q, vi 0]) (zs := [vi 0, vi 0, vi 0]) (m := 3) hS18 K5 K3 K35 rfl (mpc rfl mpn) rfl rfl rfl (by kernel_rfl) (by kernel_rfl) rfl) ?_
     rintro _ w_14 ⟨b11, rfl, hS19⟩
     obtain ⟨hap2, hb5⟩ := chk_inv hb5
     refine sS 31 (Ys_append (s := 3) (by' := 24) (i := 0) (nn := out2.length) (c := c5) (k := 1) (len := (out2 ++ [(TGate.mk x2 q 0)]).length) (B := B5) (xs := ([(TGate.mk x2 q 0)].flatMap eN0)) (cs' := ((out2 ++ [(TGate.mk x2 q 0)]).flatMap eN0)) hS19 K5 K3 K27 K9 rfl (by decide) rfl rfl rfl rfl (fm_lenn (l := out2) eN1 rfl) rfl (hS19.c 2) (fm_lenn (l := [(TGate.mk x2 q 0)]) eN1 rfl) (fm_one' (enc := eN0) enc_Gate_one [(TGate.mk x2 q 0)]) (by have := hap2; omega) (by have := hap2; simp only [maxLen]; omega) (fm_app _ _) (app_len (l := out2) (l' := [(TGate.mk x2 q 0)]) rfl rfl)) ?_
     rintro _ w_15 ⟨B6, c6, rfl, hS20⟩
     refine sQ 6 (yg (.slice B6 ((out2 ++ [(TGate.mk x2 q 0)]).length) c6)) (rn (cr ?_))
     refine sQ 32 (yP (i2 : Int) 1 rfl (hf2.g 22 4)) <| sQ 22 (ym (vi (i64.wrap ((i2 : Int) + 1)))) (rn ?_)
     obtain rfl := sI hb5
     exact ⟨K99, Nat.lt_succ_self _, i2 + 1, (out2 ++ [(TGate.mk x2 q 0)]), B6, c6, (fc (hf2.g 0 0) (fc rfl (fc (hf2.g 20 2) (fc (hf2.g 21 3) (fc (congrArg (Value.int .i64) (wr_succ hlt5 (show 1 ≤ 9223372036854775807 by decide))) fn_))))), (hS20.sel [0, 1] rfl rfl), (by omega), hL5⟩
    ·skip
     obtain rfl : K67 = 0 := by have h := of_decide_eq_false hlt4; omega
     refine cw_exit rfl ?_
     obtain rfl := sI hL4
     refine cq (cr ?_)
     refine sQ 33 (ym (.slice B5 out2.length c5) rfl (hf2.g 6 1)) <| sQ 4 (yg (.slice B5 out2.length c5)) (rn (ct_ ?_))
     obtain rfl := sI hF8
     exact ret1 Tryz.results138 (v1 := .slice B5 out2.length c5) (resAt_tmp rfl) ⟨B5, c5, rfl, (hS18.sN [0])⟩
   ·skip
    have hF9 := cf' hF6 hb4
    refine rw_split (B := (coef == 3)) (fun hb6 => ?_) (fun hb6 => ?_)
    ·skip
     have hF10 := ct hF9 hb6
     refine sQ 19 (Y_indexArrC (c := 3) (B := aD b7) (k := .i64) (i := coef) K63 K14 rfl rfl rfl (idx_is hb6) (by decide)) <| sQ 20 (yl (aD b7) 3 [.slice none 0 0, .slice (aD b) 1 1, .slice (aD b1) 1 1, .slice (aD b2) 2 2, .slice (aD b3) 1 1, .slice (aD b4) 2 2, .slice (aD b5) 1 1, .slice (aD b6) 1 1] (.slice (aD b2) 2 2) K13 (hS10.c 7)) <| sQ 21 (Y_len (B := aD b2) (m := 2) (c := 2) K2 rfl rfl) <| sQ 22 (ym (vi 0)) (rn ?_)
     obtain ⟨z3, hz3, hF11⟩ := bI hF10
     refine cw_block ?_
     refine cw_loop (fun k f w => ∃ (i3 : Nat) (out3 : List TGate) (B7 : Option Addr) (c7 : Nat), FF f [(0, vi q), (6, .slice B7 out3.length c7), (20, .slice (aD b2) 2 2), (21, vi 2), (22, vi (i3 : Int))] ∧ ST w0 [] w [⟨B7, 120, (out3.flatMap eN0), c7 * 3⟩, ⟨aD b2, 3, ([5, 7].flatMap encI), 2 * 1⟩] [] ∧ i3 + k = 2 ∧ forN (F_impl_rotation_l4 q) k i3 out3 = some z3) 2 ⟨0, [], aD b8, 0, (fc rfl (fc rfl (fc rfl (fc rfl (fc rfl fn_))))), (hS10.sel [8, 2] rfl rfl), Nat.zero_add _, hz3⟩ ?_
     rintro K100 f w ⟨i3, out3, B7, c7, hf3, hS21, hik3, hL6⟩
     refine cq (cr ?_)
     refine sQ 23 (yL (i3 : Int) 2 rfl (hf3.g 22 4) (hf3.g 21 3)) (rn (cq ?_))
     refine cw_cond (b := (decide ((i3 : Int) < 2))) rfl (fun hlt6 => ?_) (fun hlt6 => ?_)
     ·skip
      have hlt7 : i3 < 2 := by have h := of_decide_eq_true hlt6; omega
      obtain ⟨k_7, rfl⟩ : ∃ k2, K100 = k2 + 1 := ⟨K100 - 1, by omega⟩
      obtain ⟨y3, hb7, hL7⟩ := forN_go hL6
      unfold F_impl_rotation_l4 at hb7
      refine cw_skip (cq (cw_block (cq (cr ?_))))
      obtain ⟨x3, hx3, hb7⟩ := bI hb7
      refine sQ 24 (Y_index (B := aD b2) (m := 2) (c := 2) (k := .i64) (i := (i3 : Int)) K2 K0 rfl (hf3.g 20 2) (hf3.g 22 4) (gi_isSome encI_len rfl (hS21.c 1) hx3) (getI_nn hx3) (getI_ltI hx3 rfl)) <| sQ 25 (yl (aD b2) ((i3 : Int).toNat * 1) ([5, 7].flatMap encI) (vi x3) K1 (hS21.c 1) rfl rfl (gi_at0 encI_len hx3 rfl)) <| sQ 8 (yg (vi x3)) (rn (cr ?_))
      refine sQ 26 (ym (.slice B7 out3.length c7) rfl (hf3.g 6 1)) <| sQ 27 (ym (vi x3)) <| sQ 28 (ym (vi q) rfl (hf3.g 0 0)) <| sQ 29 (Y_buildS (zs := [vi 0, vi 0, vi 0]) (vs := [(0, vi x3), (1, vi q)]) (cs := [vi x3, vi q, vi 0]) K41 K9 rfl (mpc rfl (mpc rfl mpn)) rfl) ?_
      refine sS 30 (Ys_bslice (s := 3) (len := 1) (vs := [(0, .agg #[vi x3, vi q, vi 0])]) (cs := [vi x3, vi q, vi 0]) (zs := [vi 0, vi 0, vi 0]) (m := 3) hS21 K5 K3 K35 rfl (mpc rfl mpn) rfl rfl rfl (by kernel_rfl) (by kernel_rfl) rfl) ?_
      rintro _ w_16 ⟨b12, rfl, hS22⟩
      obtain ⟨hap3, hb7⟩ := chk_inv hb7
      refine sS 31 (Ys_append (s := 3) (by' := 24) (i := 0) (nn := out3.length) (c := c7) (k := 1) (len := (out3 ++ [(TGate.mk x3 q 0)]).length) (B := B7) (xs := ([(TGate.mk x3 q 0)].flatMap eN0)) (cs' := ((out3 ++ [(TGate.mk x3 q 0)]).flatMap eN0)) hS22 K5 K3 K27 K9 rfl (by decide) rfl rfl rfl rfl (fm_lenn (l := out3) eN1 rfl) rfl (hS22.c 2) (fm_lenn (l := [(TGate.mk x3 q 0)]) eN1 rfl) (fm_one' (enc := eN0) enc_Gate_one [(TGate.mk x3 q 0)]) (by have := hap3; omega) (by have := hap3; simp only [maxLen]; omega) (fm_app _ _) (app_len (l := out3) (l' := [(TGate.mk x3 q 0)]) rfl rfl)) ?_
      rintro _ w_17 ⟨B8, c8, rfl, hS23⟩
      refine sQ 6 (yg (.slice B8 ((out3 ++ [(TGate.mk x3 q 0)]).length) c8)) (rn (cr ?_))
      refine sQ 32 (yP (i3 : Int) 1 rfl (hf3.g 22 4)) <| sQ 22 (ym (vi (i64.wrap ((i3 : Int) + 1)))) (rn ?_)
      obtain rfl := sI hb7
      exact ⟨k_7, Nat.lt_succ_self _, i3 + 1, (out3 ++ [(TGate.mk x3 q 0)]), B8, c8, (fc (hf3.g 0 0) (fc rfl (fc (hf3.g 20 2) (fc (hf3.g 21 3) (fc (congrArg (Value.int .i64) (wr_succ hlt7 (show 2 ≤ 9223372036854775807 by decide))) fn_))))), (hS23.sel [0, 1] rfl rfl), (by omega), hL7⟩
     ·skip
      obtain rfl : K100 = 0 := by have h := of_decide_eq_false hlt6; omega
      refine cw_exit rfl ?_
      obtain rfl := sI hL6
      refine cq (cr ?_)
      refine sQ 33 (ym (.slice B7 out3.length c7) rfl (hf3.g 6 1)) <| sQ 4 (yg (.slice B7 out3.length c7)) (rn (ct_ ?_))
      obtain rfl := sI hF11
      exact ret1 Tryz.results138 (v1 := .slice B7 out3.length c7) (resAt_tmp rfl) ⟨B7, c7, rfl, (hS21.sN [0])⟩
    ·skip
     have hF12 := cf' hF9 hb6
     refine rw_split (B := (coef == 4)) (fun hb8 => ?_) (fun hb8 => ?_)
     ·skip
      have hF13 := ct hF12 hb8
      refine sQ 19 (Y_indexArrC (c := 4) (B := aD b7) (k := .i64) (i := coef) K63 K14 rfl rfl rfl (idx_is hb8) (by decide)) <| sQ 20 (yl (aD b7) 4 [.slice none 0 0, .slice (aD b) 1 1, .slice (aD b1) 1 1, .slice (aD b2) 2 2, .slice (aD b3) 1 1, .slice (aD b4) 2 2, .slice (aD b5) 1 1, .slice (aD b6) 1 1] (.slice (aD b3) 1 1) K13 (hS10.c 7)) <| sQ 21 (Y_len (B := aD b3) (m := 1) (c := 1) K2 rfl rfl) <| sQ 22 (ym (vi 0)) (rn ?_)
      obtain ⟨z4, hz4, hF14⟩ := bI hF13
      refine cw_block ?_
      refine cw_loop (fun k f w => ∃ (i4 : Nat) (out4 : List TGate) (B9 : Option Addr) (c9 : Nat), FF f [(0, vi q), (6, .slice B9 out4.length c9), (20, .slice (aD b3) 1 1), (21, vi 1), (22, vi (i4 : Int))] ∧ ST w0 [] w [⟨B9, 120, (out4.flatMap eN0), c9 * 3⟩, ⟨aD b3, 3, ([4].flatMap encI), 1 * 1⟩] [] ∧ i4 + k = 1 ∧ forN (F_impl_rotation_l5 q) k i4 out4 = some z4) 1 ⟨0, [], aD b8, 0, (fc rfl (fc rfl (fc rfl (fc rfl (fc rfl fn_))))), (hS10.sel [8, 3] rfl rfl), Nat.zero_add _, hz4⟩ ?_
      rintro K101 f w ⟨i4, out4, B9, c9, hf4, hS24, hik4, hL8⟩
      refine cq (cr ?_)
      refine sQ 23 (yL (i4 : Int) 1 rfl (hf4.g 22 4) (hf4.g 21 3)) (rn (cq ?_))
      refine cw_cond (b := (decide ((i4 : Int) < 1))) rfl (fun hlt8 => ?_) (fun hlt8 => ?_)
      ·skip
       have hlt9 : i4 < 1 := by have h := of_decide_eq_true hlt8; omega
       obtain ⟨k_9, rfl⟩ : ∃ k2, K101 = k2 + 1 := ⟨K101 - 1, by omega⟩
       obtain ⟨y4, hb9, hL9⟩ := forN_go hL8
       unfold F_impl_rotation_l5 at hb9
       refine cw_skip (cq (cw_block (cq (cr ?_))))
       obtain ⟨x4, hx4, hb9⟩ := bI hb9
       refine sQ 24 (Y_index (B := aD b3) (m := 1) (c := 1) (k := .i64) (i := (i4 : Int)) K2 K0 rfl (hf4.g 20 2) (hf4.g 22 4) (gi_isSome encI_len rfl (hS24.c 1) hx4) (getI_nn hx4) (getI_ltI hx4 rfl)) <| sQ 25 (yl (aD b3) ((i4 : Int).toNat * 1) ([4].flatMap encI) (vi x4) K1 (hS24.c 1) rfl rfl (gi_at0 encI_len hx4 rfl)) <| sQ 8 (yg (vi x4)) (rn (cr ?_))
       refine sQ 26 (ym (.slice B9 out4.length c9) rfl (hf4.g 6 1)) <| sQ 27 (ym (vi x4)) <| sQ 28 (ym (vi q) rfl (hf4.g 0 0)) <| sQ 29 (Y_buildS (zs := [vi 0, vi 0, vi 0]) (vs := [(0, vi x4), (1, vi q)]) (cs := [vi x4, vi q, vi 0]) K41 K9 rfl (mpc rfl (mpc rfl mpn)) rfl) ?_
       refine sS 30 (Ys_bslice (s := 3) (len := 1) (vs := [(0, .agg #[vi x4, vi q, vi 0])]) (cs := [vi x4, vi q, vi 0]) (zs := [vi 0, vi 0, vi 0]) (m := 3) hS24 K5 K3 K35 rfl (mpc rfl mpn) rfl rfl rfl (by kernel_rfl) (by kernel_rfl) rfl) ?_
       rintro _ w_18 ⟨b13, rfl, hS25⟩
       obtain ⟨hap4, hb9⟩ := chk_inv hb9
       refine sS 31 (Ys_append (s := 3) (by' := 24) (i := 0) (nn := out4.length) (c := c9) (k := 1) (len := (out4 ++ [(TGate.mk x4 q 0)]).length) (B := B9) (xs := ([(TGate.mk x4 q 0)].flatMap eN0)) (cs' := ((out4 ++ [(TGate.mk x4 q 0)]).flatMap eN0)) hS25 K5 K3 K27 K9 rfl (by decide) rfl rfl rfl rfl (fm_lenn (l := out4) eN1 rfl) rfl (hS25.c 2) (fm_lenn (l := [(TGate.mk x4 q 0)]) eN1 rfl) (fm_one' (enc := eN0) enc_Gate_one [(TGate.mk x4 q 0)]) (by have := hap4; omega) (by have := hap4; simp only [maxLen]; omega) (fm_app _ _) (app_len (l := out4) (l' := [(TGate.mk x4 q 0)]) rfl rfl)) ?_
       rintro _ w_19 ⟨B10, c10, rfl, hS26⟩
       refine sQ 6 (yg (.slice B10 ((out4 ++ [(TGate.mk x4 q 0)]).length) c10)) (rn (cr ?_))
       refine sQ 32 (yP (i4 : Int) 1 rfl (hf4.g 22 4)) <| sQ 22 (ym (vi (i64.wrap ((i4 : Int) + 1)))) (rn ?_)
       obtain rfl := sI hb9
       exact ⟨k_9, Nat.lt_succ_self _, i4 + 1, (out4 ++ [(TGate.mk x4 q 0)]), B10, c10, (fc (hf4.g 0 0) (fc rfl (fc (hf4.g 20 2) (fc (hf4.g 21 3) (fc (congrArg (Value.int .i64) (wr_succ hlt9 (show 1 ≤ 9223372036854775807 by decide))) fn_))))), (hS26.sel [0, 1] rfl rfl), (by omega), hL9⟩
      ·skip
       obtain rfl : K101 = 0 := by have h := of_decide_eq_false hlt8; omega
       refine cw_exit rfl ?_
       obtain rfl := sI hL8
       refine cq (cr ?_)
       refine sQ 33 (ym (.slice B9 out4.length c9) rfl (hf4.g 6 1)) <| sQ 4 (yg (.slice B9 out4.length c9)) (rn (ct_ ?_))
       obtain rfl := sI hF14
       exact ret1 Tryz.results138 (v1 := .slice B9 out4.length c9) (resAt_tmp rfl) ⟨B9, c9, rfl, (hS24.sN [0])⟩
     ·skip
      have hF15 := cf' hF12 hb8
      refine rw_split (B := (coef == 5)) (fun hb10 => ?_) (fun hb10 => ?_)
      ·skip
       have hF16 := ct hF15 hb10
       refine sQ 19 (Y_indexArrC (c := 5) (B := aD b7) (k := .i64) (i := coef) K63 K14 rfl rfl rfl (idx_is hb10) (by decide)) <| sQ 20 (yl (aD b7) 5 [.slice none 0 0, .slice (aD b) 1 1, .slice (aD b1) 1 1, .slice (aD b2) 2 2, .slice (aD b3) 1 1, .slice (aD b4) 2 2, .slice (aD b5) 1 1, .slice (aD b6) 1 1] (.slice (aD b4) 2 2) K13 (hS10.c 7)) <| sQ 21 (Y_len (B := aD b4) (m := 2) (c := 2) K2 rfl rfl) <| sQ 22 (ym (vi 0)) (rn ?_)
       obtain ⟨z5, hz5, hF17⟩ := bI hF16
       refine cw_block ?_
       refine cw_loop (fun k f w => ∃ (i5 : Nat) (out5 : List TGate) (B11 : Option Addr) (c11 : Nat), FF f [(0, vi q), (6, .slice B11 out5.length c11), (20, .slice (aD b4) 2 2), (21, vi 2), (22, vi (i5 : Int))] ∧ ST w0 [] w [⟨B11, 120, (out5.flatMap eN0), c11 * 3⟩, ⟨aD b4, 3, ([4, 7].flatMap encI), 2 * 1⟩] [] ∧ i5 + k = 2 ∧ forN (F_impl_rotation_l6 q) k i5 out5 = some z5) 2 ⟨0, [], aD b8, 0, (fc rfl (fc rfl (fc rfl (fc rfl (fc rfl fn_))))), (hS10.sel [8, 4] rfl rfl), Nat.zero_add _, hz5⟩ ?_
       rintro K102 f w ⟨i5, out5, B11, c11, hf5, hS27, hik5, hL10⟩
       refine cq (cr ?_)
       refine sQ 23 (yL (i5 : Int) 2 rfl (hf5.g 22 4) (hf5.g 21 3)) (rn (cq ?_))
       refine cw_cond (b := (decide ((i5 : Int) < 2))) rfl (fun hlt10 => ?_) (fun hlt10 => ?_)
       ·skip
        have hlt11 : i5 < 2 := by have h := of_decide_eq_true hlt10; omega
        obtain ⟨k_11, rfl⟩ : ∃ k2, K102 = k2 + 1 := ⟨K102 - 1, by omega⟩
        obtain ⟨y5, hb11, hL11⟩ := forN_go hL10
        unfold F_impl_rotation_l6 at hb11
        refine cw_skip (cq (cw_block (cq (cr ?_))))
        obtain ⟨x5, hx5, hb11⟩ := bI hb11
        refine sQ 24 (Y_index (B := aD b4) (m := 2) (c := 2) (k := .i64) (i := (i5 : Int)) K2 K0 rfl (hf5.g 20 2) (hf5.g 22 4) (gi_isSome encI_len rfl (hS27.c 1) hx5) (getI_nn hx5) (getI_ltI hx5 rfl)) <| sQ 25 (yl (aD b4) ((i5 : Int).toNat * 1) ([4, 7].flatMap encI) (vi x5) K1 (hS27.c 1) rfl rfl (gi_at0 encI_len hx5 rfl)) <| sQ 8 (yg (vi x5)) (rn (cr ?_))
        refine sQ 26 (ym (.slice B11 out5.length c11) rfl (hf5.g 6 1)) <| sQ 27 (ym (vi x5)) <| sQ 28 (ym (vi q) rfl (hf5.g 0 0)) <| sQ 29 (Y_buildS (zs := [vi 0, vi 0, vi 0]) (vs := [(0, vi x5), (1, vi q)]) (cs := [vi x5, vi q, vi 0]) K41 K9 rfl (mpc rfl (mpc rfl mpn)) rfl) ?_
        refine sS 30 (Ys_bslice (s := 3) (len := 1) (vs := [(0, .agg #[vi x5, vi q, vi 0])]) (cs := [vi x5, vi q, vi 0]) (zs := [vi 0, vi 0, vi 0]) (m := 3) hS27 K5 K3 K35 rfl (mpc rfl mpn) rfl rfl rfl (by kernel_rfl) (by kernel_rfl) rfl) ?_
        rintro _ w_20 ⟨b14, rfl, hS28⟩
        obtain ⟨hap5, hb11⟩ := chk_inv hb11
        refine sS 31 (Ys_append (s := 3) (by' := 24) (i := 0) (nn := out5.length) (c := c11) (k := 1) (len := (out5 ++ [(TGate.mk x5 q 0)]).length) (B := B11) (xs := ([(TGate.mk x5 q 0)].flatMap eN0)) (cs' := ((out5 ++ [(TGate.mk x5 q 0)]).flatMap eN0)) hS28 K5 K3 K27 K9 rfl (by decide) rfl rfl rfl rfl (fm_lenn (l := out5) eN1 rfl) rfl (hS28.c 2) (fm_lenn (l := [(TGate.mk x5 q 0)]) eN1 rfl) (fm_one' (enc := eN0) enc_Gate_one [(TGate.mk x5 q 0)]) (by have := hap5; omega) (by have := hap5; simp only [maxLen]; omega) (fm_app _ _) (app_len (l := out5) (l' := [(TGate.mk x5 q 0)]) rfl rfl)) ?_
        rintro _ w_21 ⟨B12, c12, rfl, hS29⟩
        refine sQ 6 (yg (.slice B12 ((out5 ++ [(TGate.mk x5 q 0)]).length) c12)) (rn (cr ?_))
        refine sQ 32 (yP (i5 : Int) 1 rfl (hf5.g 22 4)) <| sQ 22 (ym (vi (i64.wrap ((i5 : Int) + 1)))) (rn ?_)
        obtain rfl := sI hb11
        exact ⟨k_11, Nat.lt_succ_self _, i5 + 1, (out5 ++ [(TGate.mk x5 q 0)]), B12, c12, (fc (hf5.g 0 0) (fc rfl (fc (hf5.g 20 2) (fc (hf5.g 21 3) (fc (congrArg (Value.int .i64) (wr_succ hlt11 (show 2 ≤ 9223372036854775807 by decide))) fn_))))), (hS29.sel [0, 1] rfl rfl), (by omega), hL11⟩
       ·skip
        obtain rfl : K102 = 0 := by have h := of_decide_eq_false hlt10; omega
        refine cw_exit rfl ?_
        obtain rfl := sI hL10
        refine cq (cr ?_)
        refine sQ 33 (ym (.slice B11 out5.length c11) rfl (hf5.g 6 1)) <| sQ 4 (yg (.slice B11 out5.length c11)) (rn (ct_ ?_))
        obtain rfl := sI hF17
        exact ret1 Tryz.results138 (v1 := .slice B11 out5.length c11) (resAt_tmp rfl) ⟨B11, c11, rfl, (hS27.sN [0])⟩
      ·skip
       have hF18 := cf' hF15 hb10
       refine rw_split (B := (coef == 6)) (fun hb12 => ?_) (fun hb12 => ?_)
       ·skip
        have hF19 := ct hF18 hb12
        refine sQ 19 (Y_indexArrC (c := 6) (B := aD b7) (k := .i64) (i := coef) K63 K14 rfl rfl rfl (idx_is hb12) (by decide)) <| sQ 20 (yl (aD b7) 6 [.slice none 0 0, .slice (aD b) 1 1, .slice (aD b1) 1 1, .slice (aD b2) 2 2, .slice (aD b3) 1 1, .slice (aD b4) 2 2, .slice (aD b5) 1 1, .slice (aD b6) 1 1] (.slice (aD b5) 1 1) K13 (hS10.c 7)) <| sQ 21 (Y_len (B := aD b5) (m := 1) (c := 1) K2 rfl rfl) <| sQ 22 (ym (vi 0)) (rn ?_)
        obtain ⟨z6, hz6, hF20⟩ := bI hF19
        refine cw_block ?_
        refine cw_loop (fun k f w => ∃ (i6 : Nat) (out6 : List TGate) (B13 : Option Addr) (c13 : Nat), FF f [(0, vi q), (6, .slice B13 out6.length c13), (20, .slice (aD b5) 1 1), (21, vi 1), (22, vi (i6 : Int))] ∧ ST w0 [] w [⟨B13, 120, (out6.flatMap eN0), c13 * 3⟩, ⟨aD b5, 3, ([6].flatMap encI), 1 * 1⟩] [] ∧ i6 + k = 1 ∧ forN (F_impl_rotation_l7 q) k i6 out6 = some z6) 1 ⟨0, [], aD b8, 0, (fc rfl (fc rfl (fc rfl (fc rfl (fc rfl fn_))))), (hS10.sel [8, 5] rfl rfl), Nat.zero_add _, hz6⟩ ?_
        rintro K103 f w ⟨i6, out6, B13, c13, hf6, hS30, hik6, hL12⟩
        refine cq (cr ?_)
        refine sQ 23 (yL (i6 : Int) 1 rfl (hf6.g 22 4) (hf6.g 21 3)) (rn (cq ?_))
        refine cw_cond (b := (decide ((i6 : Int) < 1))) rfl (fun hlt12 => ?_) (fun hlt12 => ?_)
        ·skip
         have hlt13 : i6 < 1 := by have h := of_decide_eq_true hlt12; omega
         obtain ⟨k_13, rfl⟩ : ∃ k2, K103 = k2 + 1 := ⟨K103 - 1, by omega⟩
         obtain ⟨y6, hb13, hL13⟩ := forN_go hL12
         unfold F_impl_rotation_l7 at hb13
         refine cw_skip (cq (cw_block (cq (cr ?_))))
         obtain ⟨x6, hx6, hb13⟩ := bI hb13
         refine sQ 24 (Y_index (B := aD b5) (m := 1) (c := 1) (k := .i64) (i := (i6 : Int)) K2 K0 rfl (hf6.g 20 2) (hf6.g 22 4) (gi_isSome encI_len rfl (hS30.c 1) hx6) (getI_nn hx6) (getI_ltI hx6 rfl)) <| sQ 25 (yl (aD b5) ((i6 : Int).toNat * 1) ([6].flatMap encI) (vi x6) K1 (hS30.c 1) rfl rfl (gi_at0 encI_len hx6 rfl)) <| sQ 8 (yg (vi x6)) (rn (cr ?_))
         refine sQ 26 (ym (.slice B13 out6.length c13) rfl (hf6.g 6 1)) <| sQ 27 (ym (vi x6)) <| sQ 28 (ym (vi q) rfl (hf6.g 0 0)) <| sQ 29 (Y_buildS (zs := [vi 0, vi 0, vi 0]) (vs := [(0, vi x6), (1, vi q)]) (cs := [vi x6, vi q, vi 0]) K41 K9 rfl (mpc rfl (mpc rfl mpn)) rfl) ?_
         refine sS 30 (Ys_bslice (s := 3) (len := 1) (vs := [(0, .agg #[vi x6, vi q, vi 0])]) (cs := [vi x6, vi q, vi 0]) (zs := [vi 0, vi 0, vi 0]) (m := 3) hS30 K5 K3 K35 rfl (mpc rfl mpn) rfl rfl rfl (by kernel_rfl) (by kernel_rfl) rfl) ?_
         rintro _ w_22 ⟨b15, rfl, hS31⟩
         obtain ⟨hap6, hb13⟩ := chk_inv hb13
         refine sS 31 (Ys_append (s := 3) (by' := 24) (i := 0) (nn := out6.length) (c := c13) (k := 1) (len := (out6 ++ [(TGate.mk x6 q 0)]).length) (B := B13) (xs := ([(TGate.mk x6 q 0)].flatMap eN0)) (cs' := ((out6 ++ [(TGate.mk x6 q 0)]).flatMap eN0)) hS31 K5 K3 K27 K9 rfl (by decide) rfl rfl rfl rfl (fm_lenn (l := out6) eN1 rfl) rfl (hS31.c 2) (fm_lenn (l := [(TGate.mk x6 q 0)]) eN1 rfl) (fm_one' (enc := eN0) enc_Gate_one [(TGate.mk x6 q 0)]) (by have := hap6; omega) (by have := hap6; simp only [maxLen]; omega) (fm_app _ _) (app_len (l := out6) (l' := [(TGate.mk x6 q 0)]) rfl rfl)) ?_
         rintro _ w_23 ⟨B14, c14, rfl, hS32⟩
         refine sQ 6 (yg (.slice B14 ((out6 ++ [(TGate.mk x6 q 0)]).length) c14)) (rn (cr ?_))
         refine sQ 32 (yP (i6 : Int) 1 rfl (hf6.g 22 4)) <| sQ 22 (ym (vi (i64.wrap ((i6 : Int) + 1)))) (rn ?_)
         obtain rfl := sI hb13
         exact ⟨k_13, Nat.lt_succ_self _, i6 + 1, (out6 ++ [(TGate.mk x6 q 0)]), B14, c14, (fc (hf6.g 0 0) (fc rfl (fc (hf6.g 20 2) (fc (hf6.g 21 3) (fc (congrArg (Value.int .i64) (wr_succ hlt13 (show 1 ≤ 9223372036854775807 by decide))) fn_))))), (hS32.sel [0, 1] rfl rfl), (by omega), hL13⟩
        ·skip
         obtain rfl : K103 = 0 := by have h := of_decide_eq_false hlt12; omega
         refine cw_exit rfl ?_
         obtain rfl := sI hL12
         refine cq (cr ?_)
         refine sQ 33 (ym (.slice B13 out6.length c13) rfl (hf6.g 6 1)) <| sQ 4 (yg (.slice B13 out6.length c13)) (rn (ct_ ?_))
         obtain rfl := sI hF20
         exact ret1 Tryz.results138 (v1 := .slice B13 out6.length c13) (resAt_tmp rfl) ⟨B13, c13, rfl, (hS30.sN [0])⟩
       ·skip
        have hF21 := cf' hF18 hb12
        refine rw_split (B := (coef == 7)) (fun hb14 => ?_) (fun hb14 => ?_)
        ·skip
         have hF22 := ct hF21 hb14
         refine sQ 19 (Y_indexArrC (c := 7) (B := aD b7) (k := .i64) (i := coef) K63 K14 rfl rfl rfl (idx_is hb14) (by decide)) <| sQ 20 (yl (aD b7) 7 [.slice none 0 0, .slice (aD b) 1 1, .slice (aD b1) 1 1, .slice (aD b2) 2 2, .slice (aD b3) 1 1, .slice (aD b4) 2 2, .slice (aD b5) 1 1, .slice (aD b6) 1 1] (.slice (aD b6) 1 1) K13 (hS10.c 7)) <| sQ 21 (Y_len (B := aD b6) (m := 1) (c := 1) K2 rfl rfl) <| sQ 22 (ym (vi 0)) (rn ?_)
         obtain ⟨z7, hz7, hF23⟩ := bI hF22
         refine cw_block ?_
         refine cw_loop (fun k f w => ∃ (i7 : Nat) (out7 : List TGate) (B15 : Option Addr) (c15 : Nat), FF f [(0, vi q), (6, .slice B15 out7.length c15), (20, .slice (aD b6) 1 1), (21, vi 1), (22, vi (i7 : Int))] ∧ ST w0 [] w [⟨B15, 120, (out7.flatMap eN0), c15 * 3⟩, ⟨aD b6, 3, ([8].flatMap encI), 1 * 1⟩] [] ∧ i7 + k = 1 ∧ forN (F_impl_rotation_l8 q) k i7 out7 = some z7) 1 ⟨0, [], aD b8, 0, (fc rfl (fc rfl (fc rfl (fc rfl (fc rfl fn_))))), (hS10.sel [8, 6] rfl rfl), Nat.zero_add _, hz7⟩ ?_
         rintro K104 f w ⟨i7, out7, B15, c15, hf7, hS33, hik7, hL14⟩
         refine cq (cr ?_)
         refine sQ 23 (yL (i7 : Int) 1 rfl (hf7.g 22 4) (hf7.g 21 3)) (rn (cq ?_))
         refine cw_cond (b := (decide ((i7 : Int) < 1))) rfl (fun hlt14 => ?_) (fun hlt14 => ?_)
         ·skip
          have hlt15 : i7 < 1 := by have h := of_decide_eq_true hlt14; omega
          obtain ⟨k_15, rfl⟩ : ∃ k2, K104 = k2 + 1 := ⟨K104 - 1, by omega⟩
          obtain ⟨y7, hb15, hL15⟩ := forN_go hL14
          unfold F_impl_rotation_l8 at hb15
          refine cw_skip (cq (cw_block (cq (cr ?_))))
          obtain ⟨x7, hx7, hb15⟩ := bI hb15
          refine sQ 24 (Y_index (B := aD b6) (m := 1) (c := 1) (k := .i64) (i := (i7 : Int)) K2 K0 rfl (hf7.g 20 2) (hf7.g 22 4) (gi_isSome encI_len rfl (hS33.c 1) hx7) (getI_nn hx7) (getI_ltI hx7 rfl)) <| sQ 25 (yl (aD b6) ((i7 : Int).toNat * 1) ([8].flatMap encI) (vi x7) K1 (hS33.c 1) rfl rfl (gi_at0 encI_len hx7 rfl)) <| sQ 8 (yg (vi x7)) (rn (cr ?_))
          refine sQ 26 (ym (.slice B15 out7.length c15) rfl (hf7.g 6 1)) <| sQ 27 (ym (vi x7)) <| sQ 28 (ym (vi q) rfl (hf7.g 0 0)) <| sQ 29 (Y_buildS (zs := [vi 0, vi 0, vi 0]) (vs := [(0, vi x7), (1, vi q)]) (cs := [vi x7, vi q, vi 0]) K41 K9 rfl (mpc rfl (mpc rfl mpn)) rfl) ?_
          refine sS 30 (Ys_bslice (s := 3) (len := 1) (vs := [(0, .agg #[vi x7, vi q, vi 0])]) (cs := [vi x7, vi q, vi 0]) (zs := [vi 0, vi 0, vi 0]) (m := 3) hS33 K5 K3 K35 rfl (mpc rfl mpn) rfl rfl rfl (by kernel_rfl) (by kernel_rfl) rfl) ?_
          rintro _ w_24 ⟨b16, rfl, hS34⟩
          obtain ⟨hap7, hb15⟩ := chk_inv hb15
          refine sS 31 (Ys_append (s := 3) (by' := 24) (i := 0) (nn := out7.length) (c := c15) (k := 1) (len := (out7 ++ [(TGate.mk x7 q 0)]).length) (B := B15) (xs := ([(TGate.mk x7 q 0)].flatMap eN0)) (cs' := ((out7 ++ [(TGate.mk x7 q 0)]).flatMap eN0)) hS34 K5 K3 K27 K9 rfl (by decide) rfl rfl rfl rfl (fm_lenn (l := out7) eN1 rfl) rfl (hS34.c 2) (fm_lenn (l := [(TGate.mk x7 q 0)]) eN1 rfl) (fm_one' (enc := eN0) enc_Gate_one [(TGate.mk x7 q 0)]) (by have := hap7; omega) (by have := hap7; simp only [maxLen]; omega) (fm_app _ _) (app_len (l := out7) (l' := [(TGate.mk x7 q 0)]) rfl rfl)) ?_
          rintro _ w_25 ⟨B16, c16, rfl, hS35⟩
          refine sQ 6 (yg (.slice B16 ((out7 ++ [(TGate.mk x7 q 0)]).length) c16)) (rn (cr ?_))
          refine sQ 32 (yP (i7 : Int) 1 rfl (hf7.g 22 4)) <| sQ 22 (ym (vi (i64.wrap ((i7 : Int) + 1)))) (rn ?_)
          obtain rfl := sI hb15
          exact ⟨k_15, Nat.lt_succ_self _, i7 + 1, (out7 ++ [(TGate.mk x7 q 0)]), B16, c16, (fc (hf7.g 0 0) (fc rfl (fc (hf7.g 20 2) (fc (hf7.g 21 3) (fc (congrArg (Value.int .i64) (wr_succ hlt15 (show 1 ≤ 9223372036854775807 by decide))) fn_))))), (hS35.sel [0, 1] rfl rfl), (by omega), hL15⟩
         ·skip
          obtain rfl : K104 = 0 := by have h := of_decide_eq_false hlt14; omega
          refine cw_exit rfl ?_
          obtain rfl := sI hL14
          refine cq (cr ?_)
          refine sQ 33 (ym (.slice B15 out7.length c15) rfl (hf7.g 6 1)) <| sQ 4 (yg (.slice B15 out7.length c15)) (rn (ct_ ?_))
          obtain rfl := sI hF23
          exact ret1 Tryz.results138 (v1 := .slice B15 out7.length c15) (resAt_tmp rfl) ⟨B15, c15, rfl, (hS33.sN [0])⟩
        ·skip
         have hF24 := cf' hF21 hb14
         cases hF24
end Go.VK
