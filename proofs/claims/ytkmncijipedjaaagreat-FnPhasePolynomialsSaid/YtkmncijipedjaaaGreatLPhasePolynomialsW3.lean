/- Walks: each Go function returns what its Lean function says. By program. -/
import Derived.Test.YtkmncijipedjaaaGreatLPhasePolynomialsFa
import Derived.Test.YtkmncijipedjaaaGreatLibU
import Derived.Test.YtkmncijipedjaaaGreatLPhasePolynomialsW2
set_option linter.unusedVariables false
set_option maxRecDepth 100000
set_option maxHeartbeats 4000000
namespace Go.VK
open Go.RowKit
open Go.Proofs
open Go.IntKind
attribute [local irreducible] CW RW RA CV Y Yw Yc Ys RetOf
attribute [local irreducible] F_impl_within F_impl_isTwo F_impl_IsValidGate F_impl_IsValidCircuit F_impl_circuitIf F_impl_IsValidPhasePoly F_slices_Reverse_impl_Gate_impl_Gate F_impl_synthesized F_impl_phases F_math_bits_Len F_impl_rotation F_impl_PhaseCircuit F_impl_isDim F_impl_matrixOf F_impl_whole F_impl_IdentityMatrix_1 F_impl_IdentityMatrix F_impl_isCoef F_impl_IsValidRing F_impl_MulOmega F_impl_phase F_impl_small F_impl_bitOf F_impl_flipped F_impl_comesFrom F_impl_entry F_impl_GateMatrix_1 F_impl_GateMatrix F_slices_IndexFunc_impl_Dyadic_impl_Dyadic F_slices_ContainsFunc_impl_Dyadic_impl_Dyadic F_impl_isEven F_impl_IsValidDyadic F_impl_IsValidMatrix_1 F_impl_IsValidMatrix F_impl_Matrix_at F_impl_ringIf F_impl_MulRing F_impl_DivRootTwo F_impl_DyadicOf F_impl_MulDyadic F_impl_MulRootTwo F_impl_raised F_impl_combined F_impl_AddRing F_impl_AddDyadic F_impl_MulMatrix_1 F_impl_MulMatrix F_impl_applied F_impl_OperatorOf F_spec_EqualMatrices F_laws_qExact
theorem c_impl_PhaseCircuit (p : TPhasePoly) (B : Option Addr) (c n : Nat) (B1 : Option Addr) (c1 n1 : Nat) (w0 : World) (hn : p.Terms.length = n) (hn1 : p.Out.Rows.length = n1) (hS : ST w0 [] w0 [] [⟨B, (p.Terms.flatMap enc_Term)⟩, ⟨B1, (p.Out.Rows.flatMap encI)⟩]) {r_ : TCircuit} {r_1 : Bool} (hF : F_impl_PhaseCircuit p = some (r_, r_1)) :
  CV Tryz.prog 40 #[.agg #[vi p.Qubits, vi p.Phase, .slice B n c, .slice B1 n1 c1]] w0 (fun v w' => ∃ (B2 : Option Addr) (c2 : Nat), v = .tuple #[.agg #[vi r_.Qubits, .slice B2 r_.Gates.length c2], .bool r_1] ∧ ST w0 [] w' [⟨B2, 120, (r_.Gates.flatMap eN0), c2 * 3⟩] []) := by
 subst hn
 subst hn1
 unfold F_impl_PhaseCircuit at hF
 refine cv_of_cw 74 Tryz.func40 rfl Tryz.ntmps40 rfl ?_
 refine cq (cr ?_)
 refine sS 1 (yB 62 (.agg #[vi p.Qubits, vi p.Phase, .slice B p.Terms.length c, .slice B1 p.Out.Rows.length c1]) [vi p.Qubits, vi p.Phase, .slice B p.Terms.length c, .slice B1 p.Out.Rows.length c1] 4 hS) ?_
 rintro _ w_ ⟨b, rfl, hS1⟩
 refine sS 2 (yN [vi 0, .slice none 0 0] 2 hS1 K45) ?_
 rintro _ w_1 ⟨b1, rfl, hS2⟩
 refine sQ 3 (yg (.bool false)) (rn (cq (cq (cr ?_))))
 refine sQ 10 (yb (aD b) 0 [vi p.Qubits, vi p.Phase, .slice B p.Terms.length c, .slice B1 p.Out.Rows.length c1] K47 K20 (hS2.c 0)) ?_
 obtain ⟨r_2, hc, hF⟩ := bI hF
 refine sc 11 rfl rfl (yC [.agg #[vi p.Qubits, vi p.Phase, .slice B p.Terms.length c, .slice B1 p.Out.Rows.length c1]] k_call_97 (c_impl_IsValidPhasePoly p B c p.Terms.length B1 c1 p.Out.Rows.length _ rfl rfl (hS2.inn0 [(true, 0), (true, 1)] rfl) hc)) ?_
 rintro _ w_2 ⟨rfl, hd⟩
 have hS3 := hS2.out00 hd
 refine sQ 12 (Y_not (p := r_2) rfl rfl) (rn ?_)
 refine cw_cond (b := (!r_2)) rfl (fun hb => ?_) (fun hb => ?_)
 ·skip
  have hF1 := ct hF hb
  refine cq (cr ?_)
  refine sQ 13 (Y_buildS (zs := [vi 0, .slice none 0 0]) (vs := []) (cs := [vi 0, .slice none 0 0]) K96 K45 rfl mpn rfl) ?_
  refine s0 (yT 1 2 (aD b1) 28 (.agg #[vi 0, .slice none 0 0]) [vi 0, .slice none 0 0] 0 hS3 K11) ?_
  rintro _ w_3 ⟨rfl, hS4⟩
  refine sQ 3 (yg (.bool false)) (rn (ct_ ?_))
  have hS5 := hS4.addNil 120
  obtain ⟨rfl, rfl⟩ := pr2 (sI hF1)
  exact ret2 Tryz.results40 (v1 := .agg #[vi 0, .slice none 0 0]) (resAt_cellA (B := aD b1) (i := 0) (cs := [vi 0, .slice none 0 0]) (vs := [vi 0, .slice none 0 0]) rfl K22 K11 (hS5.c 1) rfl rfl) (v2 := .bool false) (resAt_tmp rfl) ⟨none, 0, rfl, (hS5.sN [2])⟩
 ·skip
  have hF2 := cf' hF hb
  refine cw_skip (cq (cr ?_))
  refine sS 14 (Ys_bslice0 (s := 3) (e := 120) hS3 K5 K3 rfl) ?_
  rintro _ w_4 ⟨b2, rfl, hS6⟩
  refine sQ 4 (yg (.slice (aD b2) 0 0)) (rn (cq (cq (cr ?_))))
  refine sQ 15 (yd (aD b) 0 0 K71 K62) <| sQ 16 (yl (aD b) 2 [vi p.Qubits, vi p.Phase, .slice B p.Terms.length c, .slice B1 p.Out.Rows.length c1] (.slice B p.Terms.length c) K87 (hS6.c 0)) <| sQ 17 (Y_len (B := B) (m := p.Terms.length) (c := c) K40 rfl rfl) <| sQ 18 (ym (vi 0)) (rn ?_)
  obtain ⟨hN, hF2⟩ := chk_inv hF2
  obtain ⟨z, hz, hF3⟩ := bI hF2
  refine cw_block ?_
  refine cw_loop (fun k f w => ∃ (i : Nat) (out : List TGate) (B3 : Option Addr) (c3 : Nat), FF f [(1, pt (aD b) 0), (2, pt (aD b1) 0), (4, .slice B3 out.length c3), (16, .slice B p.Terms.length c), (17, vi (p.Terms.length : Int)), (18, vi (i : Int))] ∧ ST w0 [] w [⟨aD b, 62, [vi p.Qubits, vi p.Phase, .slice B p.Terms.length c, .slice B1 p.Out.Rows.length c1], 4⟩, ⟨aD b1, 28, [vi 0, .slice none 0 0], 2⟩, ⟨B3, 120, (out.flatMap eN0), c3 * 3⟩] [⟨B, (p.Terms.flatMap enc_Term)⟩, ⟨B1, (p.Out.Rows.flatMap encI)⟩] ∧ i + k = p.Terms.length ∧ forN (F_impl_PhaseCircuit_l1 p) k i out = some z) p.Terms.length ⟨0, [], aD b2, 0, (fc rfl (fc rfl (fc rfl (fc rfl (fc rfl (fc rfl fn_)))))), (hS6.sel [0, 1, 2] rfl rfl), Nat.zero_add _, hz⟩ ?_
  rintro k_ f w ⟨i, out, B3, c3, hf, hS7, hik, hL⟩
  refine cq (cr ?_)
  refine sQ 19 (yL (i : Int) (p.Terms.length : Int) rfl (hf.g 18 5) (hf.g 17 4)) (rn (cq ?_))
  refine cw_cond (b := (decide ((i : Int) < (p.Terms.length : Int)))) rfl (fun hlt => ?_) (fun hlt => ?_)
  ·skip
   have hlt1 : i < p.Terms.length := by have h := of_decide_eq_true hlt; omega
   obtain ⟨K7, rfl⟩ : ∃ k2, k_ = k2 + 1 := ⟨k_ - 1, by omega⟩
   obtain ⟨y, hb1, hL1⟩ := forN_go hL
   unfold F_impl_PhaseCircuit_l1 at hb1
   refine cw_skip (cq (cw_block (cq (cr ?_))))
   obtain ⟨x, hx, hb1⟩ := bI hb1
   refine sQ 20 (Y_index (B := B) (m := p.Terms.length) (c := c) (k := .i64) (i := (i : Int)) K40 K34 rfl (hf.g 16 3) (hf.g 18 5) (gi_isSome enc_Term_len rfl (hS7.rf (i := 0) rfl) hx) (getI_nn hx) (getI_ltI hx rfl)) <| sQ 21 (ya B ((i : Int).toNat * 2) (p.Terms.flatMap enc_Term) [vi x.Mask, vi x.Coef] K86 K34 (hS7.rf (i := 0) rfl) rfl rfl (enc_Term_len x) (gi_seg enc_Term_len hx)) ?_
   refine sS 6 (yN [vi 0, vi 0] 2 hS7 K70) ?_
   rintro _ w_5 ⟨b3, rfl, hS8⟩
   refine s0 (yT 3 2 (aD b3) 157 (.agg #[vi x.Mask, vi x.Coef]) [vi x.Mask, vi x.Coef] 0 hS8 K34) ?_
   rintro _ w_6 ⟨rfl, hS9⟩
   refine rn (cq (cr ?_))
   refine sQ 22 (yd (aD b3) 0 0 K78 K0) <| sQ 23 (yl (aD b3) 0 [vi x.Mask, vi x.Coef] (vi x.Mask) K1 (hS9.c 3)) <| sQ 24 (Y_conv (k := .i64) (a := x.Mask) (T := 3) (T' := 77) K54 K59 rfl rfl) ?_
   obtain ⟨r_3, hc1, hb1⟩ := bI hb1
   refine sc 25 rfl rfl (yC [.int .u64 (IntKind.u64.wrap x.Mask)] k_call_137 (c_math_bits_Len (IntKind.u64.wrap x.Mask) _  (hS9.inn0 [] rfl) hc1)) ?_
   rintro _ w_7 ⟨rfl, hd1⟩
   have hS10 := hS9.out00 hd1
   refine sQ 26 (yM r_3 1) ?_
   refine sS 27 (Ys_bslice0 (s := 3) (e := 120) hS10 K5 K3 rfl) ?_
   rintro _ w_8 ⟨b4, rfl, hS11⟩
   refine sQ 7 (yg (vi (i64.wrap (r_3 - 1)))) <| sQ 8 (yg (.slice (aD b4) 0 0)) (rn (cq (cq (cr ?_))))
   refine sQ 28 (ym (vi (i64.wrap (r_3 - 1)))) <| sQ 29 (ym (vi 0)) (rn ?_)
   obtain ⟨hN1, hb1⟩ := chk_inv hb1
   obtain ⟨z1, hz1, hF4⟩ := bI hb1
   refine cw_block ?_
   refine cw_loop (fun k f w => ∃ (i1 : Nat) (nots : List TGate) (B4 : Option Addr) (c4 : Nat), FF f [(1, pt (aD b) 0), (2, pt (aD b1) 0), (4, .slice B3 out.length c3), (6, pt (aD b3) 0), (7, vi (i64.wrap (r_3 - 1))), (8, .slice B4 nots.length c4), (16, .slice B p.Terms.length c), (17, vi (p.Terms.length : Int)), (18, vi (i : Int)), (28, vi (i64.wrap (r_3 - 1))), (29, vi (i1 : Int))] ∧ ST w0 [] w [⟨aD b, 62, [vi p.Qubits, vi p.Phase, .slice B p.Terms.length c, .slice B1 p.Out.Rows.length c1], 4⟩, ⟨aD b1, 28, [vi 0, .slice none 0 0], 2⟩, ⟨B3, 120, (out.flatMap eN0), c3 * 3⟩, ⟨aD b3, 157, [vi x.Mask, vi x.Coef], 2⟩, ⟨B4, 120, (nots.flatMap eN0), c4 * 3⟩] [⟨B, (p.Terms.flatMap enc_Term)⟩, ⟨B1, (p.Out.Rows.flatMap encI)⟩] ∧ i1 + k = (i64.wrap (r_3 - 1)).toNat ∧ forN (F_impl_PhaseCircuit_l2 x r_3) k i1 nots = some z1) ((i64.wrap (r_3 - 1)).toNat) ⟨0, [], aD b4, 0, (fc (hf.g 1 0) (fc (hf.g 2 1) (fc (hf.g 4 2) (fc rfl (fc rfl (fc rfl (fc (hf.g 16 3) (fc (hf.g 17 4) (fc (hf.g 18 5) (fc rfl (fc rfl fn_))))))))))), (hS11.sel [0, 1, 2, 3, 4] rfl rfl), Nat.zero_add _, hz1⟩ ?_
   rintro K16 f w ⟨i1, nots, B4, c4, hf1, hS12, hik1, hL2⟩
   refine cq (cr ?_)
   refine sQ 30 (yL (i1 : Int) (i64.wrap (r_3 - 1)) rfl (hf1.g 29 10) (hf1.g 28 9)) (rn (cq ?_))
   refine cw_cond (b := (decide ((i1 : Int) < (i64.wrap (r_3 - 1))))) rfl (fun hlt2 => ?_) (fun hlt2 => ?_)
   ·skip
    have hlt3 : i1 < (i64.wrap (r_3 - 1)).toNat := by have h := of_decide_eq_true hlt2; omega
    obtain ⟨K52, rfl⟩ : ∃ k2, K16 = k2 + 1 := ⟨K16 - 1, by omega⟩
    obtain ⟨y1, hb2, hL3⟩ := forN_go hL2
    unfold F_impl_PhaseCircuit_l2 at hb2
    refine cw_skip (cq ?_)
    obtain ⟨z2, hz2, hF5⟩ := bI hb2
    refine cw_mid (fun f w => ∃ (nots1 : List TGate) (B5 : Option Addr) (c5 : Nat), nots1 = z2 ∧ FF f [(1, pt (aD b) 0), (2, pt (aD b1) 0), (4, .slice B3 out.length c3), (6, pt (aD b3) 0), (7, vi (i64.wrap (r_3 - 1))), (8, .slice B5 nots1.length c5), (16, .slice B p.Terms.length c), (17, vi (p.Terms.length : Int)), (18, vi (i : Int)), (28, vi (i64.wrap (r_3 - 1))), (29, vi (i1 : Int))] ∧ ST w0 [] w [⟨aD b, 62, [vi p.Qubits, vi p.Phase, .slice B p.Terms.length c, .slice B1 p.Out.Rows.length c1], 4⟩, ⟨aD b1, 28, [vi 0, .slice none 0 0], 2⟩, ⟨B3, 120, (out.flatMap eN0), c3 * 3⟩, ⟨aD b3, 157, [vi x.Mask, vi x.Coef], 2⟩, ⟨B5, 120, (nots1.flatMap eN0), c5 * 3⟩] [⟨B, (p.Terms.flatMap enc_Term)⟩, ⟨B1, (p.Out.Rows.flatMap encI)⟩]) ?_ ?_
    ·skip
     refine cw_block (cq (cr ?_))
     refine sQ 31 (ym (vi (i1 : Int)) rfl (hf1.g 29 10)) <| sQ 9 (yg (vi (i1 : Int))) (rn (cq (cr ?_)))
     refine sQ 32 (yd (aD b3) 0 0 K78 K0 rfl (hf1.g 6 3)) <| sQ 33 (yl (aD b3) 0 [vi x.Mask, vi x.Coef] (vi x.Mask) K1 (hS12.c 3)) <| sQ 34 (ym (vi (i1 : Int))) ?_
     obtain ⟨hsh, hz2⟩ := chk_inv hz2
     refine sQ 35 (Y_shr (k := .i64) (a := x.Mask) (k' := .i64) (b := (i1 : Int)) rfl rfl rfl hsh) <| sQ 36 (Y_band (k := .i64) (a := (shrK .i64 x.Mask (i1 : Int))) (b := 1) rfl rfl rfl) <| sQ 37 (yE (bits .and .i64 (shrK .i64 x.Mask (i1 : Int)) 1) 1) (rn ?_)
     refine cw_cond (b := ((bits .and .i64 (shrK .i64 x.Mask (i1 : Int)) 1) == 1)) rfl (fun hb3 => ?_) (fun hb3 => ?_)
     ·skip
      have hF6 := ct hz2 hb3
      refine cr ?_
      refine sQ 38 (ym (.slice B4 nots.length c4) rfl (hf1.g 8 5)) <| sQ 39 (ym (vi (i1 : Int))) <| sQ 40 (ym (vi (i64.wrap (r_3 - 1))) rfl (hf1.g 7 4)) <| sQ 41 (Y_buildS (zs := [vi 0, vi 0, vi 0]) (vs := [(0, vi 9), (1, vi (i1 : Int)), (2, vi (i64.wrap (r_3 - 1)))]) (cs := [vi 9, vi (i1 : Int), vi (i64.wrap (r_3 - 1))]) K41 K9 rfl (mpc rfl (mpc rfl (mpc rfl mpn))) rfl) ?_
      refine sS 42 (Ys_bslice (s := 3) (len := 1) (vs := [(0, .agg #[vi 9, vi (i1 : Int), vi (i64.wrap (r_3 - 1))])]) (cs := [vi 9, vi (i1 : Int), vi (i64.wrap (r_3 - 1))]) (zs := [vi 0, vi 0, vi 0]) (m := 3) hS12 K5 K3 K35 rfl (mpc rfl mpn) rfl rfl rfl (by kernel_rfl) (by kernel_rfl) rfl) ?_
      rintro _ w_9 ⟨b5, rfl, hS14⟩
      obtain ⟨hap, hF6⟩ := chk_inv hF6
      refine sS 43 (Ys_append (s := 3) (by' := 24) (i := 4) (nn := nots.length) (c := c4) (k := 1) (len := (nots ++ [(TGate.mk 9 (i1 : Int) (i64.wrap (r_3 - 1)))]).length) (B := B4) (xs := ([(TGate.mk 9 (i1 : Int) (i64.wrap (r_3 - 1)))].flatMap eN0)) (cs' := ((nots ++ [(TGate.mk 9 (i1 : Int) (i64.wrap (r_3 - 1)))]).flatMap eN0)) hS14 K5 K3 K27 K9 rfl (by decide) rfl rfl rfl rfl (fm_lenn (l := nots) eN1 rfl) rfl (hS14.c 5) (fm_lenn (l := [(TGate.mk 9 (i1 : Int) (i64.wrap (r_3 - 1)))]) eN1 rfl) (fm_one' (enc := eN0) enc_Gate_one [(TGate.mk 9 (i1 : Int) (i64.wrap (r_3 - 1)))]) (by have := hap; omega) (by have := hap; simp only [maxLen]; omega) (fm_app _ _) (app_len (l := nots) (l' := [(TGate.mk 9 (i1 : Int) (i64.wrap (r_3 - 1)))]) rfl rfl)) ?_
      rintro _ w_10 ⟨B6, c6, rfl, hS15⟩
      refine sQ 8 (yg (.slice B6 ((nots ++ [(TGate.mk 9 (i1 : Int) (i64.wrap (r_3 - 1)))]).length) c6)) (rn ?_)
      exact ⟨(nots ++ [(TGate.mk 9 (i1 : Int) (i64.wrap (r_3 - 1)))]), B6, c6, (sI hF6), (fc (hf1.g 1 0) (fc (hf1.g 2 1) (fc (hf1.g 4 2) (fc (hf1.g 6 3) (fc (hf1.g 7 4) (fc rfl (fc (hf1.g 16 6) (fc (hf1.g 17 7) (fc (hf1.g 18 8) (fc (hf1.g 28 9) (fc (hf1.g 29 10) fn_))))))))))), (hS15.sel [0, 1, 2, 3, 4] rfl rfl)⟩
     ·skip
      have hF7 := cf' hz2 hb3
      refine cw_skip ?_
      exact ⟨nots, B4, c4, (sI hF7), (fc (hf1.g 1 0) (fc (hf1.g 2 1) (fc (hf1.g 4 2) (fc (hf1.g 6 3) (fc (hf1.g 7 4) (fc (hf1.g 8 5) (fc (hf1.g 16 6) (fc (hf1.g 17 7) (fc (hf1.g 18 8) (fc (hf1.g 28 9) (fc (hf1.g 29 10) fn_))))))))))), (hS12.sel [0, 1, 2, 3, 4] rfl rfl)⟩
    rintro f w ⟨nots1, B5, c5, rfl, hf2, hS13⟩
    refine cr ?_
    refine sQ 44 (yP (i1 : Int) 1 rfl (hf2.g 29 10)) <| sQ 29 (ym (vi (i64.wrap ((i1 : Int) + 1)))) (rn ?_)
    obtain rfl := sI hF5
    exact ⟨K52, Nat.lt_succ_self _, i1 + 1, nots1, B5, c5, (fc (hf2.g 1 0) (fc (hf2.g 2 1) (fc (hf2.g 4 2) (fc (hf2.g 6 3) (fc (hf2.g 7 4) (fc (hf2.g 8 5) (fc (hf2.g 16 6) (fc (hf2.g 17 7) (fc (hf2.g 18 8) (fc (hf2.g 28 9) (fc (congrArg (Value.int .i64) (wr_succ hlt3 hN1)) fn_))))))))))), (hS13.sel [0, 1, 2, 3, 4] rfl rfl), (by omega), hL3⟩
   ·skip
    obtain rfl : K16 = 0 := by have h := of_decide_eq_false hlt2; omega
    refine cw_exit rfl ?_
    obtain rfl := sI hL2
    refine cq ?_
    obtain ⟨hap1, hF4⟩ := chk_inv hF4
    obtain ⟨r_4, hc2, hF4⟩ := bI hF4
    obtain ⟨hap2, hF4⟩ := chk_inv hF4
    refine ra_start (hS12.se [0, 1, 3, 4]).fn (by kernel_rfl) ?_
    have hS17 := hS12.drew
    refine rq 0 45 (v := .slice B3 out.length c3) rfl (hS17.se [0, 1, 3, 4]) (fun w' hw' => (ym (.slice B3 out.length c3) rfl (hf1.g 4 2))) ?_
    refine rq 1 46 (v := .slice B4 nots.length c4) rfl (hS17.se [0, 1, 3, 4]) (fun w' hw' => (ym (.slice B4 nots.length c4) rfl (hf1.g 8 5))) ?_
    refine rq 3 48 (v := vi (i64.wrap (r_3 - 1))) rfl (hS17.se [0, 1, 3, 4]) (fun w' hw' => (ym (vi (i64.wrap (r_3 - 1))) rfl (hf1.g 7 4))) ?_
    refine rq 4 49 (v := pt (aD b3) 1) rfl (hS17.se [0, 1, 3, 4]) (fun w' hw' => (yd (aD b3) 0 0 K116 K0 rfl (hf1.g 6 3))) ?_
    refine rq 5 50 (v := vi x.Coef) rfl (hS17.se [0, 1, 3, 4]) (fun w' hw' => (yl (aD b3) 1 [vi x.Mask, vi x.Coef] (vi x.Coef) K1 (ST.cf hw' (i := 2) rfl))) ?_
    refine rA [2] ?_
    refine rS 47 2 rfl (Ys_append (s := 3) (by' := 24) (i := 2) (nn := out.length) (c := c3) (k := nots.length) (len := (out ++ nots).length) (B := B3) (xs := (nots.flatMap eN0)) (cs' := ((out ++ nots).flatMap eN0)) hS17 K5 K3 K27 K9 rfl (by decide) rfl rfl rfl rfl (fm_lenn (l := out) eN1 rfl) rfl (hS17.c 4) (fm_lenn (l := nots) eN1 rfl) (fm_one' (enc := eN0) enc_Gate_one nots) (by have := hap1; omega) (by have := hap1; simp only [maxLen]; omega) (fm_app _ _) (app_len (l := out) (l' := nots) rfl rfl)) ?_ ?_
    ·rintro _ w_11 ⟨B7, c7, rfl, hS18⟩
     refine ⟨(hS18.se [0, 1, 3, 4]), ?_⟩
     refine rA [6] ?_
     refine rC 51 6 rfl (yC [vi (i64.wrap (r_3 - 1)), vi x.Coef] k_call_138 (c_impl_rotation (i64.wrap (r_3 - 1)) x.Coef _  (hS18.inn0 [] rfl) hc2)) ?_ ?_
     ·rintro _ w_12 ⟨B8, c8, rfl, hd2⟩
      have hS19 := hS18.out0 hd2
      refine ⟨(hS19.se [0, 1, 3, 4]), ?_⟩
      refine rA [7] ?_
      refine rS 52 7 rfl (Ys_append (s := 3) (by' := 24) (i := 2) (nn := (out ++ nots).length) (c := c7) (k := r_4.length) (len := ((out ++ nots) ++ r_4).length) (B := B7) (xs := (r_4.flatMap eN0)) (cs' := (((out ++ nots) ++ r_4).flatMap eN0)) hS19 K5 K3 K27 K9 rfl (by decide) rfl rfl rfl rfl (fm_lenn (l := (out ++ nots)) eN1 rfl) rfl (hS19.c 5) (fm_lenn (l := r_4) eN1 rfl) (fm_one' (enc := eN0) enc_Gate_one r_4) (by have := hap2; omega) (by have := hap2; simp only [maxLen]; omega) (fm_app _ _) (app_len (l := (out ++ nots)) (l' := r_4) rfl rfl)) ?_ ?_
      ·rintro _ w_13 ⟨B9, c9, rfl, hS20⟩
       refine ⟨(hS20.se [0, 1, 3, 4]), ?_⟩
       refine rq 8 4 (v := .slice B9 (((out ++ nots) ++ r_4).length) c9) rfl (hS20.se [0, 1, 3, 4]) (fun w' hw' => (yg (.slice B9 (((out ++ nots) ++ r_4).length) c9))) ?_
       refine ra_done (by kernel_rfl) ?_
       refine cq (cr ?_)
       refine sQ 53 (ym (.slice B4 nots.length c4) rfl (hf1.g 8 5)) ?_
       obtain ⟨m, hc3, hF4⟩ := bI hF4
       refine sc 54 rfl rfl (yC [.slice B4 nots.length c4] k_call_139 (c_slices_Reverse_impl_Gate_impl_Gate nots B4 c4 nots.length _ rfl (hS20.inn [false, false, false, false, true, false] rfl [] rfl) hc3)) ?_
       rintro _ w_14 ⟨rfl, hl, hd3⟩
       have hS21 := hS20.out [false, false, false, false, true, false] rfl hd3
       refine rn (cr ?_)
       refine sQ 55 (ym (.slice B9 (((out ++ nots) ++ r_4).length) c9)) <| sQ 56 (ym (.slice B4 nots.length c4) rfl (hf1.g 8 5)) ?_
       obtain ⟨hap3, hF4⟩ := chk_inv hF4
       refine sS 57 (Ys_append (s := 3) (by' := 24) (i := 2) (nn := ((out ++ nots) ++ r_4).length) (c := c9) (k := nots.length) (len := (((out ++ nots) ++ r_4) ++ m).length) (B := B9) (xs := (m.flatMap eN0)) (cs' := ((((out ++ nots) ++ r_4) ++ m).flatMap eN0)) hS21 K5 K3 K27 K9 rfl (by decide) rfl rfl rfl rfl (fm_lenn (l := ((out ++ nots) ++ r_4)) eN1 rfl) rfl (hS21.c 5) (fm_lenn (l := m) eN1 hl) (fm_one' (enc := eN0) enc_Gate_one m) (by have := hap3; omega) (by have := hap3; simp only [maxLen]; omega) (fm_app _ _) (app_len (l := ((out ++ nots) ++ r_4)) (l' := m) rfl hl)) ?_
       rintro _ w_15 ⟨B10, c10, rfl, hS22⟩
       refine sQ 4 (yg (.slice B10 ((((out ++ nots) ++ r_4) ++ m).length) c10)) (rn (cr ?_))
       refine sQ 58 (yP (i : Int) 1 rfl (hf1.g 18 8)) <| sQ 18 (ym (vi (i64.wrap ((i : Int) + 1)))) (rn ?_)
       obtain rfl := sI hF4
       exact ⟨K7, Nat.lt_succ_self _, i + 1, (((out ++ nots) ++ r_4) ++ m), B10, c10, (fc (hf1.g 1 0) (fc (hf1.g 2 1) (fc rfl (fc (hf1.g 16 6) (fc (hf1.g 17 7) (fc (congrArg (Value.int .i64) (wr_succ hlt1 hN)) fn_)))))), (hS22.sel [0, 1, 2] rfl rfl), (by omega), hL1⟩
      exact aN
     exact aN
    exact aN
  ·skip
   obtain rfl : k_ = 0 := by have h := of_decide_eq_false hlt; omega
   refine cw_exit rfl ?_
   obtain rfl := sI hL
   refine cq ?_
   obtain ⟨r_5, hc4, hF3⟩ := bI hF3
   obtain ⟨hap4, hF3⟩ := chk_inv hF3
   obtain ⟨r_6, hc5, hF3⟩ := bI hF3
   obtain ⟨hap5, hF3⟩ := chk_inv hF3
   refine ra_start (hS7.se [0, 1]).fn (by kernel_rfl) ?_
   have hS25 := hS7.drew
   refine rq 0 59 (v := .slice B3 out.length c3) rfl (hS25.se [0, 1]) (fun w' hw' => (ym (.slice B3 out.length c3) rfl (hf.g 4 2))) ?_
   refine rq 1 60 (v := pt (aD b) 3) rfl (hS25.se [0, 1]) (fun w' hw' => (yd (aD b) 0 0 K66 K19 rfl (hf.g 1 0))) ?_
   refine rq 2 61 (v := .agg #[.slice B1 p.Out.Rows.length c1]) rfl (hS25.se [0, 1]) (fun w' hw' => (ya (aD b) 3 [vi p.Qubits, vi p.Phase, .slice B p.Terms.length c, .slice B1 p.Out.Rows.length c1] [.slice B1 p.Out.Rows.length c1] K51 K19 (ST.cf hw' (i := 0) rfl))) ?_
   refine rq 5 64 (v := pt (aD b) 1) rfl (hS25.se [0, 1]) (fun w' hw' => (yd (aD b) 0 0 K61 K0 rfl (hf.g 1 0))) ?_
   refine rq 6 65 (v := vi p.Phase) rfl (hS25.se [0, 1]) (fun w' hw' => (yl (aD b) 1 [vi p.Qubits, vi p.Phase, .slice B p.Terms.length c, .slice B1 p.Out.Rows.length c1] (vi p.Phase) K1 (ST.cf hw' (i := 0) rfl))) ?_
   refine rA [3] ?_
   refine rC 62 3 rfl (yC [.agg #[.slice B1 p.Out.Rows.length c1]] k_call_104 (c_impl_synthesized p.Out B1 c1 p.Out.Rows.length _ rfl (hS25.inn0 [(true, 1)] rfl) hc4)) ?_ ?_
   ·rintro _ w_16 ⟨B11, c11, rfl, hd4⟩
    have hS26 := hS25.out0 hd4
    refine ⟨(hS26.se [0, 1]), ?_⟩
    refine rA [4] ?_
    refine rS 63 4 rfl (Ys_append (s := 3) (by' := 24) (i := 2) (nn := out.length) (c := c3) (k := r_5.length) (len := (out ++ r_5).length) (B := B3) (xs := (r_5.flatMap eN0)) (cs' := ((out ++ r_5).flatMap eN0)) hS26 K5 K3 K27 K9 rfl (by decide) rfl rfl rfl rfl (fm_lenn (l := out) eN1 rfl) rfl (hS26.c 3) (fm_lenn (l := r_5) eN1 rfl) (fm_one' (enc := eN0) enc_Gate_one r_5) (by have := hap4; omega) (by have := hap4; simp only [maxLen]; omega) (fm_app _ _) (app_len (l := out) (l' := r_5) rfl rfl)) ?_ ?_
    ·rintro _ w_17 ⟨B12, c12, rfl, hS27⟩
     refine ⟨(hS27.se [0, 1]), ?_⟩
     refine rA [7] ?_
     refine rC 66 7 rfl (yC [vi p.Phase] k_call_105 (c_impl_phases p.Phase _  (hS27.inn0 [] rfl) hc5)) ?_ ?_
     ·rintro _ w_18 ⟨B13, c13, rfl, hd5⟩
      have hS28 := hS27.out0 hd5
      refine ⟨(hS28.se [0, 1]), ?_⟩
      refine rA [8] ?_
      refine rS 67 8 rfl (Ys_append (s := 3) (by' := 24) (i := 2) (nn := (out ++ r_5).length) (c := c12) (k := r_6.length) (len := ((out ++ r_5) ++ r_6).length) (B := B12) (xs := (r_6.flatMap eN0)) (cs' := (((out ++ r_5) ++ r_6).flatMap eN0)) hS28 K5 K3 K27 K9 rfl (by decide) rfl rfl rfl rfl (fm_lenn (l := (out ++ r_5)) eN1 rfl) rfl (hS28.c 4) (fm_lenn (l := r_6) eN1 rfl) (fm_one' (enc := eN0) enc_Gate_one r_6) (by have := hap5; omega) (by have := hap5; simp only [maxLen]; omega) (fm_app _ _) (app_len (l := (out ++ r_5)) (l' := r_6) rfl rfl)) ?_ ?_
      ·rintro _ w_19 ⟨B14, c14, rfl, hS29⟩
       refine ⟨(hS29.se [0, 1]), ?_⟩
       refine rq 9 4 (v := .slice B14 (((out ++ r_5) ++ r_6).length) c14) rfl (hS29.se [0, 1]) (fun w' hw' => (yg (.slice B14 (((out ++ r_5) ++ r_6).length) c14))) ?_
       refine ra_done (by kernel_rfl) ?_
       refine cq (cr ?_)
       refine sQ 68 (yd (aD b) 0 0 K73 K0 rfl (hf.g 1 0)) <| sQ 69 (yl (aD b) 0 [vi p.Qubits, vi p.Phase, .slice B p.Terms.length c, .slice B1 p.Out.Rows.length c1] (vi p.Qubits) K1 (hS29.c 0)) <| sQ 70 (ym (.slice B14 (((out ++ r_5) ++ r_6).length) c14)) ?_
       obtain ⟨⟨r_7, r_8⟩, hc6, hF3⟩ := bI hF3
       refine sc 71 rfl rfl (yC [vi p.Qubits, .slice B14 (((out ++ r_5) ++ r_6).length) c14] k_call_84 (c_impl_circuitIf p.Qubits ((out ++ r_5) ++ r_6) B14 c14 (((out ++ r_5) ++ r_6).length) _ rfl (hS29.inn0 [(false, 2)] rfl) hc6)) ?_
       rintro _ w_20 ⟨B15, c15, rfl, hd6⟩
       have hS30 := hS29.out0 hd6
       refine sQ 72 (ye (.agg #[vi r_7.Qubits, .slice B15 r_7.Gates.length c15])) <| sQ 73 (ye (.bool r_8)) ?_
       refine s0 (yT 1 2 (aD b1) 28 (.agg #[vi r_7.Qubits, .slice B15 r_7.Gates.length c15]) [vi r_7.Qubits, .slice B15 r_7.Gates.length c15] 0 hS30 K11 rfl (hf.g 2 1)) ?_
       rintro _ w_21 ⟨rfl, hS31⟩
       refine sQ 3 (yg (.bool r_8)) (rn (ct_ ?_))
       obtain ⟨rfl, rfl⟩ := pr2 (sI hF3)
       exact ret2 Tryz.results40 (v1 := .agg #[vi r_7.Qubits, .slice B15 r_7.Gates.length c15]) (resAt_cellA (B := aD b1) (i := 0) (cs := [vi r_7.Qubits, .slice B15 r_7.Gates.length c15]) (vs := [vi r_7.Qubits, .slice B15 r_7.Gates.length c15]) (hf.g 2 1) K22 K11 (hS31.c 1) rfl rfl) (v2 := .bool r_8) (resAt_tmp rfl) ⟨B15, c15, rfl, (hS31.sN [5])⟩
      exact aN
     exact aN
    exact aN
   exact aN

theorem c_impl_isDim (n : Int)  (w0 : World)  (hS : ST w0 [] w0 [] []) {r_ : Bool} (hF : F_impl_isDim n = some r_) :
  CV Tryz.prog 268 #[vi n] w0 (fun v w' => v = .bool r_ ∧ ST w0 [] w' [] []) := by
 unfold F_impl_isDim at hF
 refine cv_of_cw 12 Tryz.func268 rfl Tryz.ntmps268 rfl ?_
 refine cq (cr ?_)
 refine sQ 2 (yg (.bool false)) (rn (cq (cr ?_)))
 refine sQ 3 (ym (vi n)) ?_
 obtain ⟨r_1, hc, hF⟩ := bI hF
 refine sc 4 rfl rfl (yC [vi n, vi 1, vi 32] K30 (c_impl_within n 1 32 _  (hS.inn0 [] rfl) hc)) ?_
 rintro _ w_ ⟨rfl, hd⟩
 have hS1 := hS.out00 hd
 refine sQ 5 (ym (.bool r_1)) ?_
 refine sgq 6 (B := r_1) (v := vi n) rfl rfl (uT_ 5) (fun hg => (ym (vi n))) ?_
 refine sgq 7 (B := r_1) (v := vi n) rfl rfl (uT_ 5) (fun hg1 => (ym (vi n))) ?_
 refine sgq 8 (B := r_1) (v := vi (i64.wrap (n - 1))) rfl rfl (uT_ 5) (fun hg2 => (yM n 1 rfl (gv_of (v := vi n) hg2))) ?_
 refine sgq 9 (B := r_1) (v := vi (bits .and .i64 n (i64.wrap (n - 1)))) rfl rfl (uT_ 5) (fun hg3 => (Y_band (k := .i64) (a := n) (b := (i64.wrap (n - 1))) rfl (gv_of (v := vi n) hg3) (gv_of (v := vi (i64.wrap (n - 1))) hg3))) ?_
 refine sgq 10 (B := r_1) (v := .bool ((bits .and .i64 n (i64.wrap (n - 1))) == 0)) rfl rfl (uT_ 5) (fun hg4 => (yE (bits .and .i64 n (i64.wrap (n - 1))) 0 rfl (gv_of (v := vi (bits .and .i64 n (i64.wrap (n - 1)))) hg4))) ?_
 refine sQ 11 (Y_and (b := r_1) (z := ((bits .and .i64 n (i64.wrap (n - 1))) == 0)) rfl rfl rfl rfl) <| sQ 2 (yg (.bool (r_1 && ((bits .and .i64 n (i64.wrap (n - 1))) == 0)))) (rn (ct_ ?_))
 obtain rfl := sI hF
 exact ret1 Tryz.results268 (v1 := .bool (r_1 && ((bits .and .i64 n (i64.wrap (n - 1))) == 0))) (resAt_tmp rfl) ⟨rfl, (hS1.sN [])⟩

theorem c_impl_matrixOf (rows : Int) (cols : Int) (cell : Int → Int → Option (TDyadic × Bool)) (kf : Nat) (caps : Array Value) (Rf : List Ro) (w0 : World) (hk : callB Tryz.prog kf = true) (hp : ∀ (w : World), ST w [] w [] Rf → ∀ (x : Int) (x1 : Int) (y1 : TDyadic) (y2 : Bool), cell x x1 = some (y1, y2) → CV Tryz.prog kf ((vi x) :: (vi x1) :: caps.toList).toArray w (fun v w' => v = .tuple #[gD_ y1, .bool y2] ∧ ST w [] w' [] [])) (hS : ST w0 [] w0 [] (Rf)) {r_ : TMatrix} {r_1 : Bool} (hF : F_impl_matrixOf rows cols cell = some (r_, r_1)) :
  CV Tryz.prog 229 #[vi rows, vi cols, .func (.func kf) #[] caps] w0 (fun v w' => ∃ (B : Option Addr) (c : Nat), v = .tuple #[gM_ r_ B c, .bool r_1] ∧ ST w0 [] w' [⟨B, 90, (r_.Cells.flatMap enc_Dyadic), c * 5⟩] []) := by
 unfold F_impl_matrixOf at hF
 refine cv_of_cw 52 Tryz.func229 rfl Tryz.ntmps229 rfl ?_
 refine cq (cr ?_)
 refine sS 6 (yN kN_ 3 hS K23) ?_
 rintro _ w_ ⟨b, rfl, hS1⟩
 refine sQ 7 (yg (.bool false)) (rn (cq (cr ?_)))
 refine sQ 13 (ym (vi rows)) <| sQ 14 (ym (vi cols)) <| sQ 15 (Y_buildS (zs := kN_) (vs := [(0, vi rows), (1, vi cols)]) (cs := [vi rows, vi cols, .slice none 0 0]) K68 K23 rfl (mpc rfl (mpc rfl mpn)) rfl) ?_
 refine sS 8 (yN kN_ 3 hS1 K23) ?_
 rintro _ w_1 ⟨b1, rfl, hS2⟩
 refine s0 (yT 1 3 (aD b1) 81 (.agg #[vi rows, vi cols, .slice none 0 0]) [vi rows, vi cols, .slice none 0 0] 0 hS2 K8) ?_
 rintro _ w_2 ⟨rfl, hS3⟩
 refine rn (cq (cq (cr ?_)))
 refine sQ 16 (ym (vi rows)) ?_
 obtain ⟨r_2, hc, hF⟩ := bI hF
 refine sc 17 rfl rfl (yC [vi rows] K105 (c_impl_isDim rows _  (hS3.inn0 [] rfl) hc)) ?_
 rintro _ w_3 ⟨rfl, hd⟩
 have hS4 := hS3.out00 hd
 refine sQ 18 (Y_not (p := r_2) rfl rfl) <| sQ 19 (ym (.bool (!r_2))) ?_
 refine sgq 20 (B := (!(!r_2))) (v := vi cols) rfl rfl (uF_ 19) (fun hg => (ym (vi cols))) ?_
 obtain ⟨r_3, hc1, hF⟩ := bI hF
 refine sgc 21 (B := (!(!r_2))) (v := .bool r_3) (F := hS4.fn) rfl rfl (uF_ 19) hS4 (fun hg1 => (yC [vi cols] K105 (CV.mono (c_impl_isDim cols _  (hS4.inn0 [] rfl) (gb_inv hc1 hg1)) (by rintro _ _ ⟨rfl, h⟩; exact ⟨rfl, hS4.out00 h⟩)) rfl (mc (gv_of (v := vi cols) hg1) mn))) ?_
 rintro w_4 hS5
 refine sgq 22 (B := (!(!r_2))) (v := .bool (!r_3)) rfl rfl (uF_ 19) (fun hg2 => (Y_not (p := r_3) rfl (gv_of (v := .bool r_3) hg2))) ?_
 refine sQ 23 (Y_or (b := (!r_2)) (z := (!r_3)) rfl rfl rfl rfl) (rn ?_)
 refine cw_cond (b := ((!r_2) || (!r_3))) rfl (fun hb => ?_) (fun hb => ?_)
 ·skip
  have hF1 := ct hF hb
  refine cq (cr ?_)
  refine sQ 24 (Y_buildS (zs := kN_) (vs := []) (cs := kN_) K68 K23 rfl mpn rfl) ?_
  refine s0 (yT 0 3 (aD b) 81 gN_ kN_ 0 hS5 K8) ?_
  rintro _ w_5 ⟨rfl, hS6⟩
  refine sQ 7 (yg (.bool false)) (rn (ct_ ?_))
  have hS7 := hS6.addNil 90
  obtain ⟨rfl, rfl⟩ := pr2 (sI hF1)
  exact ret2 Tryz.results229 (v1 := gN_) (resAt_cellA (B := aD b) (i := 0) (cs := kN_) (vs := kN_) rfl K17 K8 (hS7.c 0) rfl rfl) (v2 := .bool false) (resAt_tmp rfl) ⟨none, 0, rfl, (hS7.sN [2])⟩
 ·skip
  have hF2 := cf' hF hb
  refine cw_skip (cq (cq (cr ?_)))
  refine sQ 25 (ym (vi rows)) <| sQ 26 (ym (vi 0)) (rn ?_)
  obtain ⟨hN, hF2⟩ := chk_inv hF2
  obtain ⟨z, hz, hF3⟩ := bI hF2
  have hS9 := hS5.addNil 90
  refine cw_block ?_
  refine cw_loop (fun k f w => ∃ (i : Nat) (Cells : List TDyadic) (B1 : Option Addr) (c1 : Nat), FF f [(1, vi cols), (2, .func (.func kf) #[] caps), (6, pt (aD b) 0), (8, pt (aD b1) 0), (25, vi rows), (26, vi (i : Int))] ∧ ST w0 [] w [⟨aD b, 81, kN_, 3⟩, ⟨aD b1, 81, [vi rows, vi cols, .slice B1 Cells.length c1], 3⟩, ⟨B1, 90, (Cells.flatMap enc_Dyadic), c1 * 5⟩] (Rf) ∧ i + k = rows.toNat ∧ forX (F_impl_matrixOf_l1 cols cell) k i Cells = some z) rows.toNat ⟨0, [], none, 0, (fc rfl (fc rfl (fc rfl (fc rfl (fc rfl (fc rfl fn_)))))), (hS9.sel [0, 1, 2] rfl rfl), Nat.zero_add _, hz⟩ ?_
  rintro k_ f w ⟨i, Cells, B1, c1, hf, hS8, hik, hL⟩
  refine cq (cr ?_)
  refine sQ 27 (yL (i : Int) rows rfl (hf.g 26 5) (hf.g 25 4)) (rn (cq ?_))
  refine cw_cond (b := (decide ((i : Int) < rows))) rfl (fun hlt => ?_) (fun hlt => ?_)
  ·skip
   have hlt1 : i < rows.toNat := by have h := of_decide_eq_true hlt; omega
   obtain ⟨K7, rfl⟩ : ∃ k2, k_ = k2 + 1 := ⟨k_ - 1, by omega⟩
   obtain ⟨y3, hb1, hL1⟩ := forX_go hL
   unfold F_impl_matrixOf_l1 at hb1
   refine cw_skip (cq (cw_block (cq (cr ?_))))
   refine sQ 28 (ym (vi (i : Int)) rfl (hf.g 26 5)) <| sQ 9 (yg (vi (i : Int))) (rn (cq (cr ?_)))
   refine sQ 29 (ym (vi cols) rfl (hf.g 1 0)) <| sQ 30 (ym (vi 0)) (rn ?_)
   obtain ⟨hN1, hb1⟩ := chk_inv hb1
   obtain ⟨z1, hz1, hF4⟩ := bI hb1
   refine cw_block ?_
   refine cw_loop (fun k f w => ∃ (i1 : Nat) (Cells1 : List TDyadic) (B2 : Option Addr) (c2 : Nat), FF f [(1, vi cols), (2, .func (.func kf) #[] caps), (6, pt (aD b) 0), (8, pt (aD b1) 0), (9, vi (i : Int)), (25, vi rows), (26, vi (i : Int)), (29, vi cols), (30, vi (i1 : Int))] ∧ ST w0 [] w [⟨aD b, 81, kN_, 3⟩, ⟨aD b1, 81, [vi rows, vi cols, .slice B2 Cells1.length c2], 3⟩, ⟨B2, 90, (Cells1.flatMap enc_Dyadic), c2 * 5⟩] (Rf) ∧ i1 + k = cols.toNat ∧ forX (F_impl_matrixOf_l2 cell i) k i1 Cells1 = some z1) cols.toNat ⟨0, Cells, B1, c1, (fc (hf.g 1 0) (fc (hf.g 2 1) (fc (hf.g 6 2) (fc (hf.g 8 3) (fc rfl (fc (hf.g 25 4) (fc (hf.g 26 5) (fc rfl (fc rfl fn_))))))))), (hS8.sel [0, 1, 2] rfl rfl), Nat.zero_add _, hz1⟩ ?_
   rintro K16 f w ⟨i1, Cells1, B2, c2, hf1, hS10, hik1, hL2⟩
   refine cq (cr ?_)
   refine sQ 31 (yL (i1 : Int) cols rfl (hf1.g 30 8) (hf1.g 29 7)) (rn (cq ?_))
   refine cw_cond (b := (decide ((i1 : Int) < cols))) rfl (fun hlt2 => ?_) (fun hlt2 => ?_)
   ·skip
    have hlt3 : i1 < cols.toNat := by have h := of_decide_eq_true hlt2; omega
    obtain ⟨K52, rfl⟩ : ∃ k2, K16 = k2 + 1 := ⟨K16 - 1, by omega⟩
    obtain ⟨y4, hb2, hL3⟩ := forX_go hL2
    unfold F_impl_matrixOf_l2 at hb2
    refine cw_skip (cq (cw_block (cq (cr ?_))))
    refine sQ 32 (ym (vi (i1 : Int)) rfl (hf1.g 30 8)) <| sQ 10 (yg (vi (i1 : Int))) (rn (cq (cr ?_)))
    refine sQ 34 (ym (.func (.func kf) #[] caps) rfl (hf1.g 2 1)) <| sQ 35 (ym (vi (i : Int)) rfl (hf1.g 9 4)) <| sQ 36 (ym (vi (i1 : Int))) ?_
    obtain ⟨⟨r_4, r_5⟩, hc2, hb2⟩ := bI hb2
    refine sc 37 rfl rfl (Yc_clos (g := kf) (vs := (vi (i : Int)) :: (vi (i1 : Int)) :: caps.toList) hk rfl rfl (clo_args (mc rfl (mc rfl mn))) (hp _ (hS10.innS (fun _ h => mOd (i := 0) h)) (i : Int) (i1 : Int) r_4 r_5 hc2)) ?_
    rintro _ w_6 ⟨rfl, hd1⟩
    have hS11 := hS10.out00 hd1
    refine sQ 33 (ym (.tuple #[gD_ r_4, .bool r_5])) <| sQ 38 (ye (gD_ r_4)) <| sQ 39 (ye (.bool r_5)) ?_
    refine sS 11 (yN kZ_ 5 hS11 K15) ?_
    rintro _ w_7 ⟨b2, rfl, hS12⟩
    refine s0 (yT 3 5 (aD b2) 90 (gD_ r_4) (kD_ r_4) 0 hS12 K4) ?_
    rintro _ w_8 ⟨rfl, hS13⟩
    refine sQ 12 (yg (.bool r_5)) (rn (cq (cq (cr ?_))))
    refine sQ 40 (ym (.bool r_5)) <| sQ 41 (Y_not (p := r_5) rfl rfl) (rn ?_)
    refine cw_cond (b := (!r_5)) rfl (fun hb3 => ?_) (fun hb3 => ?_)
    ·skip
     have hF5 := ct hb2 hb3
     refine cq (cr ?_)
     refine sQ 42 (Y_buildS (zs := kN_) (vs := []) (cs := kN_) K68 K23 rfl mpn rfl) ?_
     refine s0 (yT 0 3 (aD b) 81 gN_ kN_ 0 hS13 K8 rfl (hf1.g 6 2)) ?_
     rintro _ w_9 ⟨rfl, hS14⟩
     refine sQ 7 (yg (.bool false)) (rn (ct_ ?_))
     have hS15 := hS14.addNil 90
     obtain rfl := sI hF5
     obtain rfl := sI hL3
     obtain rfl := sI hF4
     obtain rfl := sI hL1
     obtain ⟨rfl, rfl⟩ := pr2 (sI hF3)
     exact ret2 Tryz.results229 (v1 := gN_) (resAt_cellA (B := aD b) (i := 0) (cs := kN_) (vs := kN_) (hf1.g 6 2) K17 K8 (hS15.c 0) rfl rfl) (v2 := .bool false) (resAt_tmp rfl) ⟨none, 0, rfl, (hS15.sN [4])⟩
    ·skip
     have hF6 := cf' hb2 hb3
     refine cw_skip (cr ?_)
     refine sQ 43 (yd (aD b1) 0 0 K53 K48 rfl (hf1.g 8 3)) <| sQ 44 (yl (aD b1) 2 [vi rows, vi cols, .slice B2 Cells1.length c2] (.slice B2 Cells1.length c2) K55 (hS13.c 1)) <| sQ 45 (yb (aD b2) 0 (kD_ r_4) K10 K4 (hS13.c 3)) ?_
     refine sS 46 (Ys_bslice (s := 5) (len := 1) (vs := [(0, gD_ r_4)]) (cs := kD_ r_4) (zs := kZ_) (m := 5) hS13 K49 K4 k_zc_90 rfl (mpc rfl mpn) rfl rfl rfl (by kernel_rfl) (by kernel_rfl) rfl) ?_
     rintro _ w_10 ⟨b3, rfl, hS16⟩
     obtain ⟨hap, hF6⟩ := chk_inv hF6
     refine sS 47 (Ys_append (s := 5) (by' := 40) (i := 2) (nn := Cells1.length) (c := c2) (k := 1) (len := (Cells1 ++ [r_4]).length) (B := B2) (xs := ([r_4].flatMap enc_Dyadic)) (cs' := ((Cells1 ++ [r_4]).flatMap enc_Dyadic)) hS16 K49 K4 k_by_90_40 K15 rfl (by decide) rfl rfl rfl rfl (fm_lenn (l := Cells1) enc_Dyadic_len rfl) rfl (hS16.c 4) (fm_lenn (l := [r_4]) enc_Dyadic_len rfl) (fm_one' (enc := enc_Dyadic) enc_Dyadic_one [r_4]) (by have := hap; omega) (by have := hap; simp only [maxLen]; omega) (fm_app _ _) (app_len (l := Cells1) (l' := [r_4]) rfl rfl)) ?_
     rintro _ w_11 ⟨B3, c3, rfl, hS17⟩
     refine sQ 48 (yd (aD b1) 0 0 K53 K48 rfl (hf1.g 8 3)) ?_
     refine s0 (yS 1 1 (aD b1) 81 (.slice B3 ((Cells1 ++ [r_4]).length) c3) [.slice B3 ((Cells1 ++ [r_4]).length) c3] 2 [vi rows, vi cols, .slice B3 ((Cells1 ++ [r_4]).length) c3] hS17 K48) ?_
     rintro _ w_12 ⟨rfl, hS18⟩
     refine rn (cr ?_)
     refine sQ 49 (yP (i1 : Int) 1 rfl (hf1.g 30 8)) <| sQ 30 (ym (vi (i64.wrap ((i1 : Int) + 1)))) (rn ?_)
     obtain rfl := sI hF6
     exact ⟨K52, Nat.lt_succ_self _, i1 + 1, (Cells1 ++ [r_4]), B3, c3, (fc (hf1.g 1 0) (fc (hf1.g 2 1) (fc (hf1.g 6 2) (fc (hf1.g 8 3) (fc (hf1.g 9 4) (fc (hf1.g 25 5) (fc (hf1.g 26 6) (fc (hf1.g 29 7) (fc (congrArg (Value.int .i64) (wr_succ hlt3 hN1)) fn_))))))))), (hS18.sel [0, 1, 2] rfl rfl), (by omega), hL3⟩
   ·skip
    obtain rfl : K16 = 0 := by have h := of_decide_eq_false hlt2; omega
    refine cw_exit rfl ?_
    obtain rfl := sI hL2
    refine cr ?_
    refine sQ 50 (yP (i : Int) 1 rfl (hf1.g 26 6)) <| sQ 26 (ym (vi (i64.wrap ((i : Int) + 1)))) (rn ?_)
    obtain rfl := sI hF4
    exact ⟨K7, Nat.lt_succ_self _, i + 1, Cells1, B2, c2, (fc (hf1.g 1 0) (fc (hf1.g 2 1) (fc (hf1.g 6 2) (fc (hf1.g 8 3) (fc (hf1.g 25 5) (fc (congrArg (Value.int .i64) (wr_succ hlt1 hN)) fn_)))))), (hS10.sel [0, 1, 2] rfl rfl), (by omega), hL1⟩
  ·skip
   obtain rfl : k_ = 0 := by have h := of_decide_eq_false hlt; omega
   refine cw_exit rfl ?_
   obtain rfl := sI hL
   refine cq (cr ?_)
   refine sQ 51 (yb (aD b1) 0 [vi rows, vi cols, .slice B1 Cells.length c1] K17 K8 (hS8.c 1) rfl (hf.g 8 3)) ?_
   refine s0 (yT 0 3 (aD b) 81 (.agg #[vi rows, vi cols, .slice B1 Cells.length c1]) [vi rows, vi cols, .slice B1 Cells.length c1] 0 hS8 K8 rfl (hf.g 6 2)) ?_
   rintro _ w_13 ⟨rfl, hS19⟩
   refine sQ 7 (yg (.bool true)) (rn (ct_ ?_))
   obtain ⟨rfl, rfl⟩ := pr2 (sI hF3)
   exact ret2 Tryz.results229 (v1 := .agg #[vi rows, vi cols, .slice B1 Cells.length c1]) (resAt_cellA (B := aD b) (i := 0) (cs := [vi rows, vi cols, .slice B1 Cells.length c1]) (vs := [vi rows, vi cols, .slice B1 Cells.length c1]) (hf.g 6 2) K17 K8 (hS19.c 0) rfl rfl) (v2 := .bool true) (resAt_tmp rfl) ⟨B1, c1, rfl, (hS19.sN [2])⟩

theorem c_impl_whole (n : Int)  (w0 : World)  (hS : ST w0 [] w0 [] []) {r_ : TDyadic} (hF : F_impl_whole n = some r_) :
  CV Tryz.prog 231 #[vi n] w0 (fun v w' => v = (gD_ r_) ∧ ST w0 [] w' [] []) := by
 unfold F_impl_whole at hF
 refine cv_of_cw 6 Tryz.func231 rfl Tryz.ntmps231 rfl ?_
 refine cq (cr ?_)
 refine sS 2 (yN kZ_ 5 hS K15) ?_
 rintro _ w_ ⟨b, rfl, hS1⟩
 refine rn (cq (cr ?_))
 refine sQ 3 (ym (vi n)) <| sQ 4 (Y_buildS (zs := [vi 0, vi 0, vi 0, vi 0]) (vs := [(0, vi n)]) (cs := [vi n, vi 0, vi 0, vi 0]) K56 K25 rfl (mpc rfl mpn) rfl) <| sQ 5 (Y_buildS (zs := kZ_) (vs := [(0, .agg #[vi n, vi 0, vi 0, vi 0])]) (cs := [vi n, vi 0, vi 0, vi 0, vi 0]) K50 K15 rfl (mpc rfl mpn) rfl) ?_
 refine s0 (yT 0 5 (aD b) 90 (.agg #[vi n, vi 0, vi 0, vi 0, vi 0]) [vi n, vi 0, vi 0, vi 0, vi 0] 0 hS1 K4) ?_
 rintro _ w_1 ⟨rfl, hS2⟩
 refine rn (ct_ ?_)
 obtain rfl := sI hF
 exact ret1 Tryz.results231 (v1 := .agg #[vi n, vi 0, vi 0, vi 0, vi 0]) (resAt_cellA (B := aD b) (i := 0) (cs := [vi n, vi 0, vi 0, vi 0, vi 0]) (vs := [vi n, vi 0, vi 0, vi 0, vi 0]) rfl K10 K4 (hS2.c 0) rfl rfl) ⟨rfl, (hS2.sN [])⟩

theorem c_impl_IdentityMatrix_1 (i : Int) (j : Int)  (w0 : World)  (hS : ST w0 [] w0 [] []) {r_ : TDyadic} {r_1 : Bool} (hF : F_impl_IdentityMatrix_1 i j = some (r_, r_1)) :
  CV Tryz.prog 230 #[vi i, vi j] w0 (fun v w' => v = .tuple #[gD_ r_, .bool r_1] ∧ ST w0 [] w' [] []) := by
 unfold F_impl_IdentityMatrix_1 at hF
 refine cv_of_cw 11 Tryz.func230 rfl Tryz.ntmps230 rfl ?_
 refine cq (cr ?_)
 refine sS 4 (yN kZ_ 5 hS K15) ?_
 rintro _ w_ ⟨b, rfl, hS1⟩
 refine sQ 5 (yg (.bool false)) (rn (cq (cq (cr ?_))))
 refine sQ 6 (ym (vi i)) <| sQ 7 (ym (vi j)) <| sQ 8 (yE i j) (rn ?_)
 refine cw_cond (b := (i == j)) rfl (fun hb => ?_) (fun hb => ?_)
 ·skip
  have hF1 := ct hF hb
  refine cq (cr ?_)
  obtain ⟨r_2, hc, hF1⟩ := bI hF1
  refine sc 9 rfl rfl (yC [vi 1] K117 (c_impl_whole 1 _  (hS1.inn0 [] rfl) hc)) ?_
  rintro _ w_1 ⟨rfl, hd⟩
  have hS2 := hS1.out00 hd
  refine s0 (yT 0 5 (aD b) 90 (gD_ r_2) (kD_ r_2) 0 hS2 K4) ?_
  rintro _ w_2 ⟨rfl, hS3⟩
  refine sQ 5 (yg (.bool true)) (rn (ct_ ?_))
  obtain ⟨rfl, rfl⟩ := pr2 (sI hF1)
  exact ret2 Tryz.results230 (v1 := gD_ r_2) (resAt_cellA (B := aD b) (i := 0) (cs := kD_ r_2) (vs := kD_ r_2) rfl K10 K4 (hS3.c 0) rfl rfl) (v2 := .bool true) (resAt_tmp rfl) ⟨rfl, (hS3.sN [])⟩
 ·skip
  have hF2 := cf' hF hb
  refine cw_skip (cq (cr ?_))
  refine sQ 10 (Y_buildS (zs := kZ_) (vs := []) (cs := kZ_) K50 K15 rfl mpn rfl) ?_
  refine s0 (yT 0 5 (aD b) 90 gZ_ kZ_ 0 hS1 K4) ?_
  rintro _ w_3 ⟨rfl, hS4⟩
  refine sQ 5 (yg (.bool true)) (rn (ct_ ?_))
  obtain ⟨rfl, rfl⟩ := pr2 (sI hF2)
  exact ret2 Tryz.results230 (v1 := gZ_) (resAt_cellA (B := aD b) (i := 0) (cs := kZ_) (vs := kZ_) rfl K10 K4 (hS4.c 0) rfl rfl) (v2 := .bool true) (resAt_tmp rfl) ⟨rfl, (hS4.sN [])⟩

theorem c_impl_IdentityMatrix (n : Int)  (w0 : World)  (hS : ST w0 [] w0 [] []) {r_ : TMatrix} {r_1 : Bool} (hF : F_impl_IdentityMatrix n = some (r_, r_1)) :
  CV Tryz.prog 142 #[vi n] w0 (fun v w' => ∃ (B : Option Addr) (c : Nat), v = .tuple #[gM_ r_ B c, .bool r_1] ∧ ST w0 [] w' [⟨B, 90, (r_.Cells.flatMap enc_Dyadic), c * 5⟩] []) := by
 unfold F_impl_IdentityMatrix at hF
 refine cv_of_cw 9 Tryz.func142 rfl Tryz.ntmps142 rfl ?_
 refine cq (cr ?_)
 refine sS 2 (yN kN_ 3 hS K23) ?_
 rintro _ w_ ⟨b, rfl, hS1⟩
 refine sQ 3 (yg (.bool false)) (rn (cq (cr ?_)))
 refine sQ 4 (ym (vi n)) <| sQ 5 (ym (vi n)) ?_
 obtain ⟨⟨r_2, r_3⟩, hc, hF⟩ := bI hF
 refine sc 6 rfl rfl (yC [vi n, vi n, .func (.func 230) #[] #[]] K106 (c_impl_matrixOf n n F_impl_IdentityMatrix_1 230 (#[]) [] _ k_call_230 (fun w hw x_0 x_1 y_0 y_1 h_ => c_impl_IdentityMatrix_1 x_0 x_1  w  hw h_) (hS1.inn0 [] rfl) hc)) ?_
 rintro _ w_1 ⟨B1, c1, rfl, hd⟩
 have hS2 := hS1.out0 hd
 refine sQ 7 (ye (gM_ r_2 B1 c1)) <| sQ 8 (ye (.bool r_3)) ?_
 refine s0 (yT 0 3 (aD b) 81 (gM_ r_2 B1 c1) (kM_ r_2 B1 c1) 0 hS2 K8) ?_
 rintro _ w_2 ⟨rfl, hS3⟩
 refine sQ 3 (yg (.bool r_3)) (rn (ct_ ?_))
 obtain ⟨rfl, rfl⟩ := pr2 (sI hF)
 exact ret2 Tryz.results142 (v1 := gM_ r_2 B1 c1) (resAt_cellA (B := aD b) (i := 0) (cs := kM_ r_2 B1 c1) (vs := kM_ r_2 B1 c1) rfl K17 K8 (hS3.c 0) rfl rfl) (v2 := .bool r_3) (resAt_tmp rfl) ⟨B1, c1, rfl, (hS3.sN [1])⟩

theorem c_impl_isCoef (n : Int)  (w0 : World)  (hS : ST w0 [] w0 [] []) {r_ : Bool} (hF : F_impl_isCoef n = some r_) :
  CV Tryz.prog 320 #[vi n] w0 (fun v w' => v = .bool r_ ∧ ST w0 [] w' [] []) := by
 unfold F_impl_isCoef at hF
 refine cv_of_cw 5 Tryz.func320 rfl Tryz.ntmps320 rfl ?_
 refine cq (cr ?_)
 refine sQ 2 (yg (.bool false)) (rn (cq (cr ?_)))
 refine sQ 3 (ym (vi n)) ?_
 obtain ⟨r_1, hc, hF⟩ := bI hF
 refine sc 4 rfl rfl (yC [vi n, vi (-1000000000), vi 1000000000] K30 (c_impl_within n (-1000000000) 1000000000 _  (hS.inn0 [] rfl) hc)) ?_
 rintro _ w_ ⟨rfl, hd⟩
 have hS1 := hS.out00 hd
 refine sQ 2 (yg (.bool r_1)) (rn (ct_ ?_))
 obtain rfl := sI hF
 exact ret1 Tryz.results320 (v1 := .bool r_1) (resAt_tmp rfl) ⟨rfl, (hS1.sN [])⟩

theorem c_impl_IsValidRing (x : TRing)  (w0 : World)  (hS : ST w0 [] w0 [] []) {r_ : Bool} (hF : F_impl_IsValidRing x = some r_) :
  CV Tryz.prog 295 #[gR_ x] w0 (fun v w' => v = .bool r_ ∧ ST w0 [] w' [] []) := by
 unfold F_impl_IsValidRing at hF
 refine cv_of_cw 21 Tryz.func295 rfl Tryz.ntmps295 rfl ?_
 refine cq (cr ?_)
 refine sS 1 (yB 88 (gR_ x) (kR_ x) 4 hS) ?_
 rintro _ w_ ⟨b, rfl, hS1⟩
 refine sQ 2 (yg (.bool false)) (rn (cq (cr ?_)))
 refine sQ 3 (yd (aD b) 0 0 K39 K0) <| sQ 4 (yl (aD b) 0 (kR_ x) (vi x.A) K1 (hS1.c 0)) ?_
 obtain ⟨r_1, hc, hF⟩ := bI hF
 refine sc 5 rfl rfl (yC [vi x.A] K107 (c_impl_isCoef x.A _  (hS1.inn0 [] rfl) hc)) ?_
 rintro _ w_1 ⟨rfl, hd⟩
 have hS2 := hS1.out00 hd
 refine sQ 6 (ym (.bool r_1)) ?_
 refine sgq 7 (B := r_1) (v := pt (aD b) 1) rfl rfl (uT_ 6) (fun hg => (yd (aD b) 0 0 K42 K0)) ?_
 refine sgq 8 (B := r_1) (v := vi x.B) rfl rfl (uT_ 6) (fun hg1 => (yl (aD b) 1 (kR_ x) (vi x.B) K1 (hS2.c 0) rfl (gv_of (v := pt (aD b) 1) hg1))) ?_
 obtain ⟨r_2, hc1, hF⟩ := bI hF
 refine sgc 9 (B := r_1) (v := .bool r_2) (F := hS2.fn) rfl rfl (uT_ 6) hS2 (fun hg2 => (yC [vi x.B] K107 (CV.mono (c_impl_isCoef x.B _  (hS2.inn0 [] rfl) (gb_inv hc1 hg2)) (by rintro _ _ ⟨rfl, h⟩; exact ⟨rfl, hS2.out00 h⟩)) rfl (mc (gv_of (v := vi x.B) hg2) mn))) ?_
 rintro w_2 hS3
 refine sQ 10 (Y_and (b := r_1) (z := r_2) rfl rfl rfl rfl) <| sQ 11 (ym (.bool (r_1 && r_2))) ?_
 refine sgq 12 (B := (r_1 && r_2)) (v := pt (aD b) 2) rfl rfl (uT_ 11) (fun hg3 => (yd (aD b) 0 0 K43 K0)) ?_
 refine sgq 13 (B := (r_1 && r_2)) (v := vi x.C) rfl rfl (uT_ 11) (fun hg4 => (yl (aD b) 2 (kR_ x) (vi x.C) K1 (hS3.c 0) rfl (gv_of (v := pt (aD b) 2) hg4))) ?_
 obtain ⟨r_3, hc2, hF⟩ := bI hF
 refine sgc 14 (B := (r_1 && r_2)) (v := .bool r_3) (F := hS3.fn) rfl rfl (uT_ 11) hS3 (fun hg5 => (yC [vi x.C] K107 (CV.mono (c_impl_isCoef x.C _  (hS3.inn0 [] rfl) (gb_inv hc2 hg5)) (by rintro _ _ ⟨rfl, h⟩; exact ⟨rfl, hS3.out00 h⟩)) rfl (mc (gv_of (v := vi x.C) hg5) mn))) ?_
 rintro w_3 hS4
 refine sQ 15 (Y_and (b := (r_1 && r_2)) (z := r_3) rfl rfl rfl rfl) <| sQ 16 (ym (.bool ((r_1 && r_2) && r_3))) ?_
 refine sgq 17 (B := ((r_1 && r_2) && r_3)) (v := pt (aD b) 3) rfl rfl (uT_ 16) (fun hg6 => (yd (aD b) 0 0 K44 K0)) ?_
 refine sgq 18 (B := ((r_1 && r_2) && r_3)) (v := vi x.D) rfl rfl (uT_ 16) (fun hg7 => (yl (aD b) 3 (kR_ x) (vi x.D) K1 (hS4.c 0) rfl (gv_of (v := pt (aD b) 3) hg7))) ?_
 obtain ⟨r_4, hc3, hF⟩ := bI hF
 refine sgc 19 (B := ((r_1 && r_2) && r_3)) (v := .bool r_4) (F := hS4.fn) rfl rfl (uT_ 16) hS4 (fun hg8 => (yC [vi x.D] K107 (CV.mono (c_impl_isCoef x.D _  (hS4.inn0 [] rfl) (gb_inv hc3 hg8)) (by rintro _ _ ⟨rfl, h⟩; exact ⟨rfl, hS4.out00 h⟩)) rfl (mc (gv_of (v := vi x.D) hg8) mn))) ?_
 rintro w_4 hS5
 refine sQ 20 (Y_and (b := ((r_1 && r_2) && r_3)) (z := r_4) rfl rfl rfl rfl) <| sQ 2 (yg (.bool (((r_1 && r_2) && r_3) && r_4))) (rn (ct_ ?_))
 obtain rfl := sI hF
 exact ret1 Tryz.results295 (v1 := .bool (((r_1 && r_2) && r_3) && r_4)) (resAt_tmp rfl) ⟨rfl, (hS5.sN [])⟩

theorem c_impl_MulOmega (x : TRing) (k_ : Int)  (w0 : World)  (hS : ST w0 [] w0 [] []) {r_ : TRing} {r_1 : Bool} (hF : F_impl_MulOmega x k_ = some (r_, r_1)) :
  CV Tryz.prog 236 #[gR_ x, vi k_] w0 (fun v w' => v = .tuple #[gR_ r_, .bool r_1] ∧ ST w0 [] w' [] []) := by
 unfold F_impl_MulOmega at hF
 refine cv_of_cw 33 Tryz.func236 rfl Tryz.ntmps236 rfl ?_
 refine cq (cr ?_)
 refine sS 2 (yB 88 (gR_ x) (kR_ x) 4 hS) ?_
 rintro _ w_ ⟨b, rfl, hS1⟩
 refine sS 4 (yN [vi 0, vi 0, vi 0, vi 0] 4 hS1 K25) ?_
 rintro _ w_1 ⟨b1, rfl, hS2⟩
 refine sQ 5 (yg (.bool false)) (rn (cq (cq (cr ?_))))
 refine sQ 6 (ym (vi k_)) ?_
 obtain ⟨r_2, hc, hF⟩ := bI hF
 refine sc 7 rfl rfl (yC [vi k_, vi (-1000), vi 1000] K30 (c_impl_within k_ (-1000) 1000 _  (hS2.inn0 [] rfl) hc)) ?_
 rintro _ w_2 ⟨rfl, hd⟩
 have hS3 := hS2.out00 hd
 refine sQ 8 (Y_not (p := r_2) rfl rfl) <| sQ 9 (ym (.bool (!r_2))) ?_
 refine sgq 10 (B := (!(!r_2))) (v := gR_ x) rfl rfl (uF_ 9) (fun hg => (yb (aD b) 0 (kR_ x) K12 K6 (hS3.c 0))) ?_
 obtain ⟨r_3, hc1, hF⟩ := bI hF
 refine sgc 11 (B := (!(!r_2))) (v := .bool r_3) (F := hS3.fn) rfl rfl (uF_ 9) hS3 (fun hg1 => (yC [gR_ x] K88 (CV.mono (c_impl_IsValidRing x _  (hS3.inn0 [] rfl) (gb_inv hc1 hg1)) (by rintro _ _ ⟨rfl, h⟩; exact ⟨rfl, hS3.out00 h⟩)) rfl (mc (gv_of (v := gR_ x) hg1) mn))) ?_
 rintro w_3 hS4
 refine sgq 12 (B := (!(!r_2))) (v := .bool (!r_3)) rfl rfl (uF_ 9) (fun hg2 => (Y_not (p := r_3) rfl (gv_of (v := .bool r_3) hg2))) ?_
 refine sQ 13 (Y_or (b := (!r_2)) (z := (!r_3)) rfl rfl rfl rfl) (rn ?_)
 refine cw_cond (b := ((!r_2) || (!r_3))) rfl (fun hb => ?_) (fun hb => ?_)
 ·skip
  have hF1 := ct hF hb
  refine cq (cr ?_)
  refine sQ 14 (Y_buildS (zs := [vi 0, vi 0, vi 0, vi 0]) (vs := []) (cs := [vi 0, vi 0, vi 0, vi 0]) K56 K25 rfl mpn rfl) ?_
  refine s0 (yT 1 4 (aD b1) 88 (.agg #[vi 0, vi 0, vi 0, vi 0]) [vi 0, vi 0, vi 0, vi 0] 0 hS4 K6) ?_
  rintro _ w_4 ⟨rfl, hS5⟩
  refine sQ 5 (yg (.bool false)) (rn (ct_ ?_))
  obtain ⟨rfl, rfl⟩ := pr2 (sI hF1)
  exact ret2 Tryz.results236 (v1 := .agg #[vi 0, vi 0, vi 0, vi 0]) (resAt_cellA (B := aD b1) (i := 0) (cs := [vi 0, vi 0, vi 0, vi 0]) (vs := [vi 0, vi 0, vi 0, vi 0]) rfl K12 K6 (hS5.c 1) rfl rfl) (v2 := .bool false) (resAt_tmp rfl) ⟨rfl, (hS5.sN [])⟩
 ·skip
  have hF2 := cf' hF hb
  refine cw_skip (cq (cq (cr ?_)))
  refine sQ 15 (ym (vi k_)) <| sQ 16 (Y_rem (k := .i64) (a := k_) (b := 8) rfl rfl rfl (by decide)) <| sQ 17 (yP (Int.tmod k_ 8) 8) <| sQ 18 (Y_rem (k := .i64) (a := (i64.wrap ((Int.tmod k_ 8) + 8))) (b := 8) rfl rfl rfl (by decide)) <| sQ 19 (ym (vi 0)) (rn ?_)
  obtain ⟨hN, hF2⟩ := chk_inv hF2
  obtain ⟨z, hz, hF3⟩ := bI hF2
  refine cw_block ?_
  refine cw_loop (fun k f w => ∃ (i : Nat) (A : Int) (B : Int) (C : Int) (D : Int), FF f [(2, pt (aD b) 0), (4, pt (aD b1) 0), (18, vi (Int.tmod (i64.wrap ((Int.tmod k_ 8) + 8)) 8)), (19, vi (i : Int))] ∧ ST w0 [] w [⟨aD b, 88, [vi A, vi B, vi C, vi D], 4⟩, ⟨aD b1, 88, [vi 0, vi 0, vi 0, vi 0], 4⟩] [] ∧ i + k = (Int.tmod (i64.wrap ((Int.tmod k_ 8) + 8)) 8).toNat ∧ forN F_impl_MulOmega_l1 k i (A, B, C, D) = some z) ((Int.tmod (i64.wrap ((Int.tmod k_ 8) + 8)) 8).toNat) ⟨0, x.A, x.B, x.C, x.D, (fc rfl (fc rfl (fc rfl (fc rfl fn_)))), (hS4.sel [0, 1] rfl rfl), Nat.zero_add _, hz⟩ ?_
  rintro K7 f w ⟨i, A, B, C, D, hf, hS6, hik, hL⟩
  refine cq (cr ?_)
  refine sQ 20 (yL (i : Int) (Int.tmod (i64.wrap ((Int.tmod k_ 8) + 8)) 8) rfl (hf.g 19 3) (hf.g 18 2)) (rn (cq ?_))
  refine cw_cond (b := (decide ((i : Int) < (Int.tmod (i64.wrap ((Int.tmod k_ 8) + 8)) 8)))) rfl (fun hlt => ?_) (fun hlt => ?_)
  ·skip
   have hlt1 : i < (Int.tmod (i64.wrap ((Int.tmod k_ 8) + 8)) 8).toNat := by have h := of_decide_eq_true hlt; omega
   obtain ⟨K16, rfl⟩ : ∃ k2, K7 = k2 + 1 := ⟨K7 - 1, by omega⟩
   obtain ⟨y, hb1, hL1⟩ := forN_go hL
   unfold F_impl_MulOmega_l1 at hb1
   refine cw_skip (cq (cw_block (cr ?_)))
   refine sQ 21 (yd (aD b) 0 0 K44 K0 rfl (hf.g 2 0)) <| sQ 22 (yl (aD b) 3 [vi A, vi B, vi C, vi D] (vi D) K1 (hS6.c 0)) <| sQ 23 (Y_neg (k := .i64) (a := D) rfl rfl) <| sQ 24 (yd (aD b) 0 0 K39 K0 rfl (hf.g 2 0)) <| sQ 25 (yl (aD b) 0 [vi A, vi B, vi C, vi D] (vi A) K1 (hS6.c 0)) <| sQ 26 (yd (aD b) 0 0 K42 K0 rfl (hf.g 2 0)) ?_
   refine sQ 27 (yl (aD b) 1 [vi A, vi B, vi C, vi D] (vi B) K1 (hS6.c 0)) <| sQ 28 (yd (aD b) 0 0 K43 K0 rfl (hf.g 2 0)) <| sQ 29 (yl (aD b) 2 [vi A, vi B, vi C, vi D] (vi C) K1 (hS6.c 0)) <| sQ 30 (Y_buildS (zs := [vi 0, vi 0, vi 0, vi 0]) (vs := [(0, vi (i64.wrap (-D))), (1, vi A), (2, vi B), (3, vi C)]) (cs := [vi (i64.wrap (-D)), vi A, vi B, vi C]) K56 K25 rfl (mpc rfl (mpc rfl (mpc rfl (mpc rfl mpn)))) rfl) ?_
   refine s0 (yT 0 4 (aD b) 88 (.agg #[vi (i64.wrap (-D)), vi A, vi B, vi C]) [vi (i64.wrap (-D)), vi A, vi B, vi C] 0 hS6 K6 rfl (hf.g 2 0)) ?_
   rintro _ w_5 ⟨rfl, hS7⟩
   refine rn (cr ?_)
   refine sQ 31 (yP (i : Int) 1 rfl (hf.g 19 3)) <| sQ 19 (ym (vi (i64.wrap ((i : Int) + 1)))) (rn ?_)
   obtain rfl := sI hb1
   exact ⟨K16, Nat.lt_succ_self _, i + 1, (i64.wrap (-D)), A, B, C, (fc (hf.g 2 0) (fc (hf.g 4 1) (fc (hf.g 18 2) (fc (congrArg (Value.int .i64) (wr_succ hlt1 hN)) fn_)))), (hS7.sel [0, 1] rfl rfl), (by omega), hL1⟩
  ·skip
   obtain rfl : K7 = 0 := by have h := of_decide_eq_false hlt; omega
   refine cw_exit rfl ?_
   obtain rfl := sI hL
   refine cq (cr ?_)
   refine sQ 32 (yb (aD b) 0 [vi A, vi B, vi C, vi D] K12 K6 (hS6.c 0) rfl (hf.g 2 0)) ?_
   refine s0 (yT 1 4 (aD b1) 88 (.agg #[vi A, vi B, vi C, vi D]) [vi A, vi B, vi C, vi D] 0 hS6 K6 rfl (hf.g 4 1)) ?_
   rintro _ w_6 ⟨rfl, hS8⟩
   refine sQ 5 (yg (.bool true)) (rn (ct_ ?_))
   obtain ⟨rfl, rfl⟩ := pr2 (sI hF3)
   exact ret2 Tryz.results236 (v1 := .agg #[vi A, vi B, vi C, vi D]) (resAt_cellA (B := aD b1) (i := 0) (cs := [vi A, vi B, vi C, vi D]) (vs := [vi A, vi B, vi C, vi D]) (hf.g 4 1) K12 K6 (hS8.c 1) rfl rfl) (v2 := .bool true) (resAt_tmp rfl) ⟨rfl, (hS8.sN [])⟩

theorem c_impl_phase (k_ : Int)  (w0 : World)  (hS : ST w0 [] w0 [] []) {r_ : TDyadic} (hF : F_impl_phase k_ = some r_) :
  CV Tryz.prog 145 #[vi k_] w0 (fun v w' => v = (gD_ r_) ∧ ST w0 [] w' [] []) := by
 unfold F_impl_phase at hF
 refine cv_of_cw 13 Tryz.func145 rfl Tryz.ntmps145 rfl ?_
 refine cq (cr ?_)
 refine sS 2 (yN kZ_ 5 hS K15) ?_
 rintro _ w_ ⟨b, rfl, hS1⟩
 refine rn (cq (cr ?_))
 refine sQ 6 (Y_buildS (zs := [vi 0, vi 0, vi 0, vi 0]) (vs := [(0, vi 1)]) (cs := [vi 1, vi 0, vi 0, vi 0]) K56 K25 rfl (mpc rfl mpn) rfl) <| sQ 7 (ym (vi k_)) ?_
 obtain ⟨⟨r_1, r_2⟩, hc, hF⟩ := bI hF
 refine sc 8 rfl rfl (yC [.agg #[vi 1, vi 0, vi 0, vi 0], vi k_] k_call_236 (c_impl_MulOmega (TRing.mk 1 0 0 0) k_ _  (hS1.inn0 [] rfl) hc)) ?_
 rintro _ w_1 ⟨rfl, hd⟩
 have hS2 := hS1.out00 hd
 refine sQ 5 (ym (.tuple #[gR_ r_1, .bool r_2])) <| sQ 9 (ye (gR_ r_1)) <| sQ 10 (ye (.bool r_2)) ?_
 refine sS 3 (yN [vi 0, vi 0, vi 0, vi 0] 4 hS2 K25) ?_
 rintro _ w_2 ⟨b1, rfl, hS3⟩
 refine s0 (yT 1 4 (aD b1) 88 (gR_ r_1) (kR_ r_1) 0 hS3 K6) ?_
 rintro _ w_3 ⟨rfl, hS4⟩
 refine sQ 4 (yg (.bool r_2)) (rn (cq (cr ?_)))
 refine sQ 11 (yb (aD b1) 0 (kR_ r_1) K12 K6 (hS4.c 1)) <| sQ 12 (Y_buildS (zs := kZ_) (vs := [(0, gR_ r_1)]) (cs := [vi r_1.A, vi r_1.B, vi r_1.C, vi r_1.D, vi 0]) K50 K15 rfl (mpc rfl mpn) rfl) ?_
 refine s0 (yT 0 5 (aD b) 90 (.agg #[vi r_1.A, vi r_1.B, vi r_1.C, vi r_1.D, vi 0]) [vi r_1.A, vi r_1.B, vi r_1.C, vi r_1.D, vi 0] 0 hS4 K4) ?_
 rintro _ w_4 ⟨rfl, hS5⟩
 refine rn (ct_ ?_)
 obtain rfl := sI hF
 exact ret1 Tryz.results145 (v1 := .agg #[vi r_1.A, vi r_1.B, vi r_1.C, vi r_1.D, vi 0]) (resAt_cellA (B := aD b) (i := 0) (cs := [vi r_1.A, vi r_1.B, vi r_1.C, vi r_1.D, vi 0]) (vs := [vi r_1.A, vi r_1.B, vi r_1.C, vi r_1.D, vi 0]) rfl K10 K4 (hS5.c 0) rfl rfl) ⟨rfl, (hS5.sN [])⟩

theorem c_impl_small (holds : Bool)  (w0 : World)  (hS : ST w0 [] w0 [] []) {r_ : Int} (hF : F_impl_small holds = some r_) :
  CV Tryz.prog 174 #[.bool holds] w0 (fun v w' => v = vi r_ ∧ ST w0 [] w' [] []) := by
 unfold F_impl_small at hF
 refine cv_of_cw 4 Tryz.func174 rfl Tryz.ntmps174 rfl ?_
 refine cq (cr ?_)
 refine sQ 2 (yg (vi 0)) (rn (cq (cq (cr ?_))))
 refine sQ 3 (ym (.bool holds)) (rn ?_)
 refine cw_cond (b := holds) rfl (fun hb => ?_) (fun hb => ?_)
 ·skip
  have hF1 := ct hF hb
  refine cq (cr ?_)
  refine sQ 2 (yg (vi 1)) (rn (ct_ ?_))
  obtain rfl := sI hF1
  exact ret1 Tryz.results174 (v1 := vi 1) (resAt_tmp rfl) ⟨rfl, (hS.sN [])⟩
 ·skip
  have hF2 := cf' hF hb
  refine cw_skip (cq (cr ?_))
  refine sQ 2 (yg (vi 0)) (rn (ct_ ?_))
  obtain rfl := sI hF2
  exact ret1 Tryz.results174 (v1 := vi 0) (resAt_tmp rfl) ⟨rfl, (hS.sN [])⟩

theorem c_impl_bitOf (n : Int) (state : Int) (q : Int)  (w0 : World)  (hS : ST w0 [] w0 [] []) {r_ : Int} (hF : F_impl_bitOf n state q = some r_) :
  CV Tryz.prog 290 #[vi n, vi state, vi q] w0 (fun v w' => v = vi r_ ∧ ST w0 [] w' [] []) := by
 unfold F_impl_bitOf at hF
 refine cv_of_cw 14 Tryz.func290 rfl Tryz.ntmps290 rfl ?_
 refine cq (cr ?_)
 refine sQ 6 (yg (vi 0)) (rn (cq (cr ?_)))
 refine sQ 7 (ym (vi state)) <| sQ 8 (ym (vi n)) <| sQ 9 (yM n 1) <| sQ 10 (ym (vi q)) <| sQ 11 (yM (i64.wrap (n - 1)) q) ?_
 obtain ⟨hsh, hF⟩ := chk_inv hF
 refine sQ 12 (Y_shr (k := .i64) (a := state) (k' := .i64) (b := (i64.wrap ((i64.wrap (n - 1)) - q))) rfl rfl rfl hsh) <| sQ 13 (Y_band (k := .i64) (a := (shrK .i64 state (i64.wrap ((i64.wrap (n - 1)) - q)))) (b := 1) rfl rfl rfl) <| sQ 6 (yg (vi (bits .and .i64 (shrK .i64 state (i64.wrap ((i64.wrap (n - 1)) - q))) 1))) (rn (ct_ ?_))
 obtain rfl := sI hF
 exact ret1 Tryz.results290 (v1 := vi (bits .and .i64 (shrK .i64 state (i64.wrap ((i64.wrap (n - 1)) - q))) 1)) (resAt_tmp rfl) ⟨rfl, (hS.sN [])⟩

theorem c_impl_flipped (n : Int) (state : Int) (q : Int)  (w0 : World)  (hS : ST w0 [] w0 [] []) {r_ : Int} (hF : F_impl_flipped n state q = some r_) :
  CV Tryz.prog 291 #[vi n, vi state, vi q] w0 (fun v w' => v = vi r_ ∧ ST w0 [] w' [] []) := by
 unfold F_impl_flipped at hF
 refine cv_of_cw 14 Tryz.func291 rfl Tryz.ntmps291 rfl ?_
 refine cq (cr ?_)
 refine sQ 6 (yg (vi 0)) (rn (cq (cr ?_)))
 refine sQ 7 (ym (vi state)) <| sQ 8 (ym (vi n)) <| sQ 9 (yM n 1) <| sQ 10 (ym (vi q)) <| sQ 11 (yM (i64.wrap (n - 1)) q) ?_
 obtain ⟨hsh, hF⟩ := chk_inv hF
 refine sQ 12 (Y_shl (k := .i64) (a := 1) (k' := .i64) (b := (i64.wrap ((i64.wrap (n - 1)) - q))) rfl rfl rfl hsh) <| sQ 13 (Y_bxor (k := .i64) (a := state) (b := (shlK .i64 1 (i64.wrap ((i64.wrap (n - 1)) - q)))) rfl rfl rfl) <| sQ 6 (yg (vi (bits .xor .i64 state (shlK .i64 1 (i64.wrap ((i64.wrap (n - 1)) - q)))))) (rn (ct_ ?_))
 obtain rfl := sI hF
 exact ret1 Tryz.results291 (v1 := vi (bits .xor .i64 state (shlK .i64 1 (i64.wrap ((i64.wrap (n - 1)) - q))))) (resAt_tmp rfl) ⟨rfl, (hS.sN [])⟩

theorem c_impl_comesFrom (n : Int) (g : TGate) (state : Int)  (w0 : World)  (hS : ST w0 [] w0 [] []) {r_ : Int} (hF : F_impl_comesFrom n g state = some r_) :
  CV Tryz.prog 289 #[vi n, .agg #[vi g.Kind, vi g.A, vi g.B], vi state] w0 (fun v w' => v = vi r_ ∧ ST w0 [] w' [] []) := by
 unfold F_impl_comesFrom at hF
 refine cv_of_cw 51 Tryz.func289 rfl Tryz.ntmps289 rfl ?_
 refine cq (cr ?_)
 refine sS 4 (yB 120 (.agg #[vi g.Kind, vi g.A, vi g.B]) [vi g.Kind, vi g.A, vi g.B] 3 hS) ?_
 rintro _ w_ ⟨b, rfl, hS1⟩
 refine sQ 6 (yg (vi 0)) (rn (cq ?_))
 obtain ⟨r_1, hc, hF⟩ := bI hF
 obtain ⟨r_2, hc1, hF⟩ := bI hF
 refine ra_start (hS1.se [0]).fn (by kernel_rfl) ?_
 have hS4 := hS1.drew
 refine rq 0 9 (v := vi n) rfl (hS4.se [0]) (fun w' hw' => (ym (vi n))) ?_
 refine rq 1 10 (v := vi state) rfl (hS4.se [0]) (fun w' hw' => (ym (vi state))) ?_
 refine rq 2 11 (v := pt (aD b) 1) rfl (hS4.se [0]) (fun w' hw' => (yd (aD b) 0 0 K18 K0)) ?_
 refine rq 3 12 (v := vi g.A) rfl (hS4.se [0]) (fun w' hw' => (yl (aD b) 1 [vi g.Kind, vi g.A, vi g.B] (vi g.A) K1 (ST.cf hw' (i := 0) rfl))) ?_
 refine rq 5 14 (v := vi n) rfl (hS4.se [0]) (fun w' hw' => (ym (vi n))) ?_
 refine rq 6 15 (v := vi state) rfl (hS4.se [0]) (fun w' hw' => (ym (vi state))) ?_
 refine rq 7 16 (v := pt (aD b) 2) rfl (hS4.se [0]) (fun w' hw' => (yd (aD b) 0 0 K26 K0)) ?_
 refine rq 8 17 (v := vi g.B) rfl (hS4.se [0]) (fun w' hw' => (yl (aD b) 2 [vi g.Kind, vi g.A, vi g.B] (vi g.B) K1 (ST.cf hw' (i := 0) rfl))) ?_
 refine rA [4] ?_
 refine rC 13 4 rfl (yC [vi n, vi state, vi g.A] K79 (c_impl_bitOf n state g.A _  (hS4.inn0 [] rfl) hc)) ?_ ?_
 ·rintro _ w_1 ⟨rfl, hd⟩
  have hS5 := hS4.out00 hd
  refine ⟨(hS5.se [0]), ?_⟩
  refine rA [9] ?_
  refine rC 18 9 rfl (yC [vi n, vi state, vi g.B] K79 (c_impl_bitOf n state g.B _  (hS5.inn0 [] rfl) hc1)) ?_ ?_
  ·rintro _ w_2 ⟨rfl, hd1⟩
   have hS6 := hS5.out00 hd1
   refine ⟨(hS6.se [0]), ?_⟩
   refine rq 10 7 (v := vi r_1) rfl (hS6.se [0]) (fun w' hw' => (yg (vi r_1))) ?_
   refine rq 11 8 (v := vi r_2) rfl (hS6.se [0]) (fun w' hw' => (yg (vi r_2))) ?_
   refine ra_done (by kernel_rfl) ?_
   refine cq (cw_block (cq (cr ?_)))
   refine sQ 20 (yd (aD b) 0 0 K33 K0) <| sQ 21 (yl (aD b) 0 [vi g.Kind, vi g.A, vi g.B] (vi g.Kind) K1 (hS6.c 0)) <| sQ 22 (yE g.Kind 9) <| sQ 23 (ym (.bool (g.Kind == 9))) ?_
   refine sgq 24 (B := (g.Kind == 9)) (v := vi r_1) rfl rfl (uT_ 23) (fun hg => (ym (vi r_1))) ?_
   refine sgq 25 (B := (g.Kind == 9)) (v := .bool (r_1 == 1)) rfl rfl (uT_ 23) (fun hg1 => (yE r_1 1 rfl (gv_of (v := vi r_1) hg1))) ?_
   refine sQ 26 (Y_and (b := (g.Kind == 9)) (z := (r_1 == 1)) rfl rfl rfl rfl) <| sQ 19 (yg (.bool ((g.Kind == 9) && (r_1 == 1)))) (rn ?_)
   refine cw_cond (b := ((g.Kind == 9) && (r_1 == 1))) rfl (fun hb => ?_) (fun hb => ?_)
   ·skip
    have hF1 := ct hF hb
    refine cq (cr ?_)
    refine sQ 27 (ym (vi n)) <| sQ 28 (ym (vi state)) <| sQ 29 (yd (aD b) 0 0 K26 K0) <| sQ 30 (yl (aD b) 2 [vi g.Kind, vi g.A, vi g.B] (vi g.B) K1 (hS6.c 0)) ?_
    obtain ⟨r_3, hc2, hF1⟩ := bI hF1
    refine sc 31 rfl rfl (yC [vi n, vi state, vi g.B] K108 (c_impl_flipped n state g.B _  (hS6.inn0 [] rfl) hc2)) ?_
    rintro _ w_3 ⟨rfl, hd2⟩
    have hS7 := hS6.out00 hd2
    refine sQ 6 (yg (vi r_3)) (rn (ct_ ?_))
    obtain rfl := sI hF1
    exact ret1 Tryz.results289 (v1 := vi r_3) (resAt_tmp rfl) ⟨rfl, (hS7.sN [])⟩
   ·skip
    have hF2 := cf' hF hb
    refine cq (cr ?_)
    refine sQ 33 (yd (aD b) 0 0 K33 K0) <| sQ 34 (yl (aD b) 0 [vi g.Kind, vi g.A, vi g.B] (vi g.Kind) K1 (hS6.c 0)) <| sQ 35 (yE g.Kind 11) <| sQ 36 (ym (.bool (g.Kind == 11))) ?_
    refine sgq 37 (B := (g.Kind == 11)) (v := vi r_1) rfl rfl (uT_ 36) (fun hg2 => (ym (vi r_1))) ?_
    refine sgq 38 (B := (g.Kind == 11)) (v := vi r_2) rfl rfl (uT_ 36) (fun hg3 => (ym (vi r_2))) ?_
    refine sgq 39 (B := (g.Kind == 11)) (v := .bool (r_1 != r_2)) rfl rfl (uT_ 36) (fun hg4 => (Y_ne (k := .i64) (a := r_1) (b := r_2) rfl (gv_of (v := vi r_1) hg4) (gv_of (v := vi r_2) hg4))) ?_
    refine sQ 40 (Y_and (b := (g.Kind == 11)) (z := (r_1 != r_2)) rfl rfl rfl rfl) <| sQ 32 (yg (.bool ((g.Kind == 11) && (r_1 != r_2)))) (rn ?_)
    refine cw_cond (b := ((g.Kind == 11) && (r_1 != r_2))) rfl (fun hb1 => ?_) (fun hb1 => ?_)
    ·skip
     have hF3 := ct hF2 hb1
     refine cq ?_
     obtain ⟨r_4, hc3, hF3⟩ := bI hF3
     obtain ⟨r_5, hc4, hF3⟩ := bI hF3
     refine ra_start (hS6.se [0]).fn (by kernel_rfl) ?_
     have hS10 := hS6.drew
     refine rq 0 41 (v := vi n) rfl (hS10.se [0]) (fun w' hw' => (ym (vi n))) ?_
     refine rq 1 42 (v := vi n) rfl (hS10.se [0]) (fun w' hw' => (ym (vi n))) ?_
     refine rq 2 43 (v := vi state) rfl (hS10.se [0]) (fun w' hw' => (ym (vi state))) ?_
     refine rq 3 44 (v := pt (aD b) 1) rfl (hS10.se [0]) (fun w' hw' => (yd (aD b) 0 0 K18 K0)) ?_
     refine rq 4 45 (v := vi g.A) rfl (hS10.se [0]) (fun w' hw' => (yl (aD b) 1 [vi g.Kind, vi g.A, vi g.B] (vi g.A) K1 (ST.cf hw' (i := 0) rfl))) ?_
     refine rq 6 47 (v := pt (aD b) 2) rfl (hS10.se [0]) (fun w' hw' => (yd (aD b) 0 0 K26 K0)) ?_
     refine rq 7 48 (v := vi g.B) rfl (hS10.se [0]) (fun w' hw' => (yl (aD b) 2 [vi g.Kind, vi g.A, vi g.B] (vi g.B) K1 (ST.cf hw' (i := 0) rfl))) ?_
     refine rA [5] ?_
     refine rC 46 5 rfl (yC [vi n, vi state, vi g.A] K108 (c_impl_flipped n state g.A _  (hS10.inn0 [] rfl) hc3)) ?_ ?_
     ·rintro _ w_4 ⟨rfl, hd3⟩
      have hS11 := hS10.out00 hd3
      refine ⟨(hS11.se [0]), ?_⟩
      refine rA [8] ?_
      refine rC 49 8 rfl (yC [vi n, vi r_4, vi g.B] K108 (c_impl_flipped n r_4 g.B _  (hS11.inn0 [] rfl) hc4)) ?_ ?_
      ·rintro _ w_5 ⟨rfl, hd4⟩
       have hS12 := hS11.out00 hd4
       refine ⟨(hS12.se [0]), ?_⟩
       refine rq 9 6 (v := vi r_5) rfl (hS12.se [0]) (fun w' hw' => (yg (vi r_5))) ?_
       refine ra_done (by kernel_rfl) ?_
       refine ct_ ?_
       obtain rfl := sI hF3
       exact ret1 Tryz.results289 (v1 := vi r_5) (resAt_tmp rfl) ⟨rfl, (hS12.sN [])⟩
      exact aN
     exact aN
    ·skip
     have hF4 := cf' hF2 hb1
     refine cw_skip (cq (cr ?_))
     refine sQ 50 (ym (vi state)) <| sQ 6 (yg (vi state)) (rn (ct_ ?_))
     obtain rfl := sI hF4
     exact ret1 Tryz.results289 (v1 := vi state) (resAt_tmp rfl) ⟨rfl, (hS6.sN [])⟩
  exact aN
 exact aN

theorem c_impl_entry (kind : Int) (i : Int) (j : Int)  (w0 : World)  (hS : ST w0 [] w0 [] []) {r_ : TDyadic} (hF : F_impl_entry kind i j = some r_) :
  CV Tryz.prog 292 #[vi kind, vi i, vi j] w0 (fun v w' => v = (gD_ r_) ∧ ST w0 [] w' [] []) := by
 unfold F_impl_entry at hF
 refine cv_of_cw 67 Tryz.func292 rfl Tryz.ntmps292 rfl ?_
 refine cq (cr ?_)
 refine sS 6 (yN kZ_ 5 hS K15) ?_
 rintro _ w_ ⟨b, rfl, hS1⟩
 refine rn (cq (cr ?_))
 refine sQ 9 (Y_buildS (zs := [vi 0, vi 0, vi 0, vi 0]) (vs := [(0, vi 1)]) (cs := [vi 1, vi 0, vi 0, vi 0]) K56 K25 rfl (mpc rfl mpn) rfl) <| sQ 10 (Y_buildS (zs := kZ_) (vs := [(0, .agg #[vi 1, vi 0, vi 0, vi 0]), (1, vi 1)]) (cs := [vi 1, vi 0, vi 0, vi 0, vi 1]) K50 K15 rfl (mpc rfl (mpc rfl mpn)) rfl) ?_
 refine sS 7 (yN kZ_ 5 hS1 K15) ?_
 rintro _ w_1 ⟨b1, rfl, hS2⟩
 refine s0 (yT 1 5 (aD b1) 90 (.agg #[vi 1, vi 0, vi 0, vi 0, vi 1]) [vi 1, vi 0, vi 0, vi 0, vi 1] 0 hS2 K4) ?_
 rintro _ w_2 ⟨rfl, hS3⟩
 refine rn (cq (cr ?_))
 refine sS 11 (Ys_mkMap (T := 333) hS3 rfl) ?_
 rintro _ w_3 ⟨g, rfl, hS4⟩
 refine s0 (Ys_mapIns (kE := (Value.int .i64)) (vE := (Value.int .i64)) (l := ([] : List (Int × Int))) (a := 4) (b := 4) (g := g) (i := 2) hS4 (keyInt K28) K80 rfl rfl rfl rfl rfl rfl) ?_
 rintro _ w_4 ⟨rfl, hS5⟩
 refine s0 (Ys_mapIns (kE := (Value.int .i64)) (vE := (Value.int .i64)) (l := (mput ([] : List (Int × Int)) 4 4)) (a := 5) (b := 2) (g := g) (i := 2) hS5 (keyInt K28) K80 rfl rfl rfl rfl rfl rfl) ?_
 rintro _ w_5 ⟨rfl, hS6⟩
 refine s0 (Ys_mapIns (kE := (Value.int .i64)) (vE := (Value.int .i64)) (l := (mput (mput ([] : List (Int × Int)) 4 4) 5 2)) (a := 6) (b := 6) (g := g) (i := 2) hS6 (keyInt K28) K80 rfl rfl rfl rfl rfl rfl) ?_
 rintro _ w_6 ⟨rfl, hS7⟩
 refine s0 (Ys_mapIns (kE := (Value.int .i64)) (vE := (Value.int .i64)) (l := (mput (mput (mput ([] : List (Int × Int)) 4 4) 5 2) 6 6)) (a := 7) (b := 1) (g := g) (i := 2) hS7 (keyInt K28) K80 rfl rfl rfl rfl rfl rfl) ?_
 rintro _ w_7 ⟨rfl, hS8⟩
 refine s0 (Ys_mapIns (kE := (Value.int .i64)) (vE := (Value.int .i64)) (l := (mput (mput (mput (mput ([] : List (Int × Int)) 4 4) 5 2) 6 6) 7 1)) (a := 8) (b := 7) (g := g) (i := 2) hS8 (keyInt K28) K80 rfl rfl rfl rfl rfl rfl) ?_
 rintro _ w_8 ⟨rfl, hS9⟩
 refine sQ 12 (ym (.map (some g))) <| sQ 8 (yg (.map (some g))) (rn (cq (cw_block (cq (cr ?_)))))
 refine sQ 14 (ym (vi kind)) <| sQ 15 (yE kind 1) <| sQ 13 (yg (.bool (kind == 1))) (rn ?_)
 refine cw_cond (b := (kind == 1)) rfl (fun hb => ?_) (fun hb => ?_)
 ·skip
  have hF1 := ct hF hb
  refine cq ?_
  obtain ⟨z, hz, hF2⟩ := bI hF1
  refine cw_mid (fun f w => ∃ (A : Int), A = z ∧ FF f [(6, pt (aD b) 0), (7, pt (aD b1) 0)] ∧ ST w0 [] w [⟨aD b, 90, kZ_, 5⟩, ⟨aD b1, 90, [vi A, vi 0, vi 0, vi 0, vi 1], 5⟩] []) ?_ ?_
  ·skip
   refine cq (cr ?_)
   refine sQ 16 (ym (vi i)) <| sQ 17 (yE i 1) <| sQ 18 (ym (.bool (i == 1))) ?_
   refine sgq 19 (B := (i == 1)) (v := vi j) rfl rfl (uT_ 18) (fun hg => (ym (vi j))) ?_
   refine sgq 20 (B := (i == 1)) (v := .bool (j == 1)) rfl rfl (uT_ 18) (fun hg1 => (yE j 1 rfl (gv_of (v := vi j) hg1))) ?_
   refine sQ 21 (Y_and (b := (i == 1)) (z := (j == 1)) rfl rfl rfl rfl) (rn ?_)
   refine cw_cond (b := ((i == 1) && (j == 1))) rfl (fun hb1 => ?_) (fun hb1 => ?_)
   ·skip
    have hF3 := ct hz hb1
    refine cr ?_
    refine sQ 22 (yd (aD b1) 0 3 K81 K6) <| sQ 23 (yd (aD b1) 0 0 K39 K0) ?_
    refine s0 (yS 1 1 (aD b1) 90 (vi (-1)) [vi (-1)] 0 [vi (-1), vi 0, vi 0, vi 0, vi 1] hS9 K0) ?_
    rintro _ w_9 ⟨rfl, hS11⟩
    refine rn ?_
    exact ⟨(-1), (sI hF3), (fc rfl (fc rfl fn_)), (hS11.sel [0, 1] rfl rfl)⟩
   ·skip
    have hF4 := cf' hz hb1
    refine cw_skip ?_
    exact ⟨1, (sI hF4), (fc rfl (fc rfl fn_)), (hS9.sel [0, 1] rfl rfl)⟩
  rintro f w ⟨A, rfl, hf, hS10⟩
  refine cq (cr ?_)
  refine sQ 24 (yb (aD b1) 0 [vi A, vi 0, vi 0, vi 0, vi 1] K10 K4 (hS10.c 1) rfl (hf.g 7 1)) ?_
  refine s0 (yT 0 5 (aD b) 90 (.agg #[vi A, vi 0, vi 0, vi 0, vi 1]) [vi A, vi 0, vi 0, vi 0, vi 1] 0 hS10 K4 rfl (hf.g 6 0)) ?_
  rintro _ w_10 ⟨rfl, hS12⟩
  refine rn (ct_ ?_)
  obtain rfl := sI hF2
  exact ret1 Tryz.results292 (v1 := .agg #[vi A, vi 0, vi 0, vi 0, vi 1]) (resAt_cellA (B := aD b) (i := 0) (cs := [vi A, vi 0, vi 0, vi 0, vi 1]) (vs := [vi A, vi 0, vi 0, vi 0, vi 1]) (hf.g 6 0) K10 K4 (hS12.c 0) rfl rfl) ⟨rfl, (hS12.sN [])⟩
 ·skip
  have hF5 := cf' hF hb
  refine cq (cr ?_)
  refine sQ 26 (ym (vi kind)) <| sQ 27 (yE kind 2) <| sQ 28 (ym (.bool (kind == 2))) ?_
  refine sgq 29 (B := (kind == 2)) (v := vi i) rfl rfl (uT_ 28) (fun hg2 => (ym (vi i))) ?_
  refine sgq 30 (B := (kind == 2)) (v := vi j) rfl rfl (uT_ 28) (fun hg3 => (ym (vi j))) ?_
  refine sgq 31 (B := (kind == 2)) (v := .bool (i != j)) rfl rfl (uT_ 28) (fun hg4 => (Y_ne (k := .i64) (a := i) (b := j) rfl (gv_of (v := vi i) hg4) (gv_of (v := vi j) hg4))) ?_
  refine sQ 32 (Y_and (b := (kind == 2)) (z := (i != j)) rfl rfl rfl rfl) <| sQ 25 (yg (.bool ((kind == 2) && (i != j)))) (rn ?_)
  refine cw_cond (b := ((kind == 2) && (i != j))) rfl (fun hb2 => ?_) (fun hb2 => ?_)
  ·skip
   have hF6 := ct hF5 hb2
   refine cq (cr ?_)
   obtain ⟨r_1, hc, hF6⟩ := bI hF6
   refine sc 33 rfl rfl (yC [vi 1] K117 (c_impl_whole 1 _  (hS9.inn0 [] rfl) hc)) ?_
   rintro _ w_11 ⟨rfl, hd⟩
   have hS13 := hS9.out00 hd
   refine s0 (yT 0 5 (aD b) 90 (gD_ r_1) (kD_ r_1) 0 hS13 K4) ?_
   rintro _ w_12 ⟨rfl, hS14⟩
   refine rn (ct_ ?_)
   obtain rfl := sI hF6
   exact ret1 Tryz.results292 (v1 := gD_ r_1) (resAt_cellA (B := aD b) (i := 0) (cs := kD_ r_1) (vs := kD_ r_1) rfl K10 K4 (hS14.c 0) rfl rfl) ⟨rfl, (hS14.sN [])⟩
  ·skip
   have hF7 := cf' hF5 hb2
   refine cq (cr ?_)
   refine sQ 35 (ym (vi kind)) <| sQ 36 (yE kind 3) <| sQ 37 (ym (.bool (kind == 3))) ?_
   refine sgq 38 (B := (kind == 3)) (v := vi i) rfl rfl (uT_ 37) (fun hg5 => (ym (vi i))) ?_
   refine sgq 39 (B := (kind == 3)) (v := vi j) rfl rfl (uT_ 37) (fun hg6 => (ym (vi j))) ?_
   refine sgq 40 (B := (kind == 3)) (v := .bool (i != j)) rfl rfl (uT_ 37) (fun hg7 => (Y_ne (k := .i64) (a := i) (b := j) rfl (gv_of (v := vi i) hg7) (gv_of (v := vi j) hg7))) ?_
   refine sQ 41 (Y_and (b := (kind == 3)) (z := (i != j)) rfl rfl rfl rfl) <| sQ 34 (yg (.bool ((kind == 3) && (i != j)))) (rn ?_)
   refine cw_cond (b := ((kind == 3) && (i != j))) rfl (fun hb3 => ?_) (fun hb3 => ?_)
   ·skip
    have hF8 := ct hF7 hb3
    refine cq (cr ?_)
    refine sQ 42 (ym (vi j)) <| sQ 43 (yX 4 j) <| sQ 44 (yP 2 (i64.wrap (4 * j))) ?_
    obtain ⟨r_2, hc1, hF8⟩ := bI hF8
    refine sc 45 rfl rfl (yC [vi (i64.wrap (2 + (i64.wrap (4 * j))))] K89 (c_impl_phase (i64.wrap (2 + (i64.wrap (4 * j)))) _  (hS9.inn0 [] rfl) hc1)) ?_
    rintro _ w_13 ⟨rfl, hd1⟩
    have hS15 := hS9.out00 hd1
    refine s0 (yT 0 5 (aD b) 90 (gD_ r_2) (kD_ r_2) 0 hS15 K4) ?_
    rintro _ w_14 ⟨rfl, hS16⟩
    refine rn (ct_ ?_)
    obtain rfl := sI hF8
    exact ret1 Tryz.results292 (v1 := gD_ r_2) (resAt_cellA (B := aD b) (i := 0) (cs := kD_ r_2) (vs := kD_ r_2) rfl K10 K4 (hS16.c 0) rfl rfl) ⟨rfl, (hS16.sN [])⟩
   ·skip
    have hF9 := cf' hF7 hb3
    refine cq (cr ?_)
    refine sQ 47 (ym (vi kind)) <| sQ 48 (yE kind 2) <| sQ 49 (ym (.bool (kind == 2))) ?_
    refine sgq 50 (B := (!(kind == 2))) (v := vi kind) rfl rfl (uF_ 49) (fun hg8 => (ym (vi kind))) ?_
    refine sgq 51 (B := (!(kind == 2))) (v := .bool (kind == 3)) rfl rfl (uF_ 49) (fun hg9 => (yE kind 3 rfl (gv_of (v := vi kind) hg9))) ?_
    refine sQ 52 (Y_or (b := (kind == 2)) (z := (kind == 3)) rfl rfl rfl rfl) <| sQ 53 (ym (.bool ((kind == 2) || (kind == 3)))) ?_
    refine sgq 54 (B := (!((kind == 2) || (kind == 3)))) (v := vi i) rfl rfl (uF_ 53) (fun hg10 => (ym (vi i))) ?_
    refine sgq 55 (B := (!((kind == 2) || (kind == 3)))) (v := vi j) rfl rfl (uF_ 53) (fun hg11 => (ym (vi j))) ?_
    refine sgq 56 (B := (!((kind == 2) || (kind == 3)))) (v := .bool (i != j)) rfl rfl (uF_ 53) (fun hg12 => (Y_ne (k := .i64) (a := i) (b := j) rfl (gv_of (v := vi i) hg12) (gv_of (v := vi j) hg12))) ?_
    refine sQ 57 (Y_or (b := ((kind == 2) || (kind == 3))) (z := (i != j)) rfl rfl rfl rfl) <| sQ 46 (yg (.bool (((kind == 2) || (kind == 3)) || (i != j)))) (rn ?_)
    refine cw_cond (b := (((kind == 2) || (kind == 3)) || (i != j))) rfl (fun hb4 => ?_) (fun hb4 => ?_)
    ·skip
     have hF10 := ct hF9 hb4
     refine cq (cr ?_)
     refine sQ 58 (Y_buildS (zs := kZ_) (vs := []) (cs := kZ_) K50 K15 rfl mpn rfl) ?_
     refine s0 (yT 0 5 (aD b) 90 gZ_ kZ_ 0 hS9 K4) ?_
     rintro _ w_15 ⟨rfl, hS17⟩
     refine rn (ct_ ?_)
     obtain rfl := sI hF10
     exact ret1 Tryz.results292 (v1 := gZ_) (resAt_cellA (B := aD b) (i := 0) (cs := kZ_) (vs := kZ_) rfl K10 K4 (hS17.c 0) rfl rfl) ⟨rfl, (hS17.sN [])⟩
    ·skip
     have hF11 := cf' hF9 hb4
     refine cq (cr ?_)
     refine sQ 60 (ym (vi i)) <| sQ 61 (yE i 0) <| sQ 59 (yg (.bool (i == 0))) (rn ?_)
     refine cw_cond (b := (i == 0)) rfl (fun hb5 => ?_) (fun hb5 => ?_)
     ·skip
      have hF12 := ct hF11 hb5
      refine cq (cr ?_)
      obtain ⟨r_3, hc2, hF12⟩ := bI hF12
      refine sc 62 rfl rfl (yC [vi 1] K117 (c_impl_whole 1 _  (hS9.inn0 [] rfl) hc2)) ?_
      rintro _ w_16 ⟨rfl, hd2⟩
      have hS18 := hS9.out00 hd2
      refine s0 (yT 0 5 (aD b) 90 (gD_ r_3) (kD_ r_3) 0 hS18 K4) ?_
      rintro _ w_17 ⟨rfl, hS19⟩
      refine rn (ct_ ?_)
      obtain rfl := sI hF12
      exact ret1 Tryz.results292 (v1 := gD_ r_3) (resAt_cellA (B := aD b) (i := 0) (cs := kD_ r_3) (vs := kD_ r_3) rfl K10 K4 (hS19.c 0) rfl rfl) ⟨rfl, (hS19.sN [])⟩
     ·skip
      have hF13 := cf' hF11 hb5
      refine cw_skip (cq (cr ?_))
      refine sQ 63 (ym (.map (some g))) <| sQ 64 (ym (vi kind)) <| sQ 65 (Y_mapGet (kE := (Value.int .i64)) (vE := (Value.int .i64)) (l := (mput (mput (mput (mput (mput ([] : List (Int × Int)) 4 4) 5 2) 6 6) 7 1) 8 7)) (a := kind) (d := 0) (g := g) (i := 2) hS9 (keyInt K28) K80 K57 rfl rfl rfl rfl) ?_
      obtain ⟨r_4, hc3, hF13⟩ := bI hF13
      refine sc 66 rfl rfl (yC [vi (mgt (mput (mput (mput (mput (mput ([] : List (Int × Int)) 4 4) 5 2) 6 6) 7 1) 8 7) kind 0)] K89 (c_impl_phase (mgt (mput (mput (mput (mput (mput ([] : List (Int × Int)) 4 4) 5 2) 6 6) 7 1) 8 7) kind 0) _  (hS9.inn0 [] rfl) hc3)) ?_
      rintro _ w_18 ⟨rfl, hd3⟩
      have hS20 := hS9.out00 hd3
      refine s0 (yT 0 5 (aD b) 90 (gD_ r_4) (kD_ r_4) 0 hS20 K4) ?_
      rintro _ w_19 ⟨rfl, hS21⟩
      refine rn (ct_ ?_)
      obtain rfl := sI hF13
      exact ret1 Tryz.results292 (v1 := gD_ r_4) (resAt_cellA (B := aD b) (i := 0) (cs := kD_ r_4) (vs := kD_ r_4) rfl K10 K4 (hS21.c 0) rfl rfl) ⟨rfl, (hS21.sN [])⟩

theorem c_impl_GateMatrix_1 (i : Int) (j : Int) (p : TGate) (p1 : Int) (B : Option Addr) (B1 : Option Addr) (w0 : World)  (hS : ST w0 [] w0 [] [⟨B, [vi p.Kind, vi p.A, vi p.B]⟩, ⟨B1, [vi p1]⟩]) {r_ : TDyadic} {r_1 : Bool} (hF : F_impl_GateMatrix_1 i j p p1 = some (r_, r_1)) :
  CV Tryz.prog 288 #[vi i, vi j, pt B 0, pt B1 0] w0 (fun v w' => v = .tuple #[gD_ r_, .bool r_1] ∧ ST w0 [] w' [] []) := by
 unfold F_impl_GateMatrix_1 at hF
 refine cv_of_cw 75 Tryz.func288 rfl Tryz.ntmps288 rfl ?_
 refine cq (cr ?_)
 refine sS 6 (yN kZ_ 5 hS K15) ?_
 rintro _ w_ ⟨b, rfl, hS1⟩
 refine sQ 7 (yg (.bool false)) (rn (cq ?_))
 obtain ⟨z, hz, hF1⟩ := bI hF
 refine cw_mid (fun f w => .inl () = z ∧ FF f [(6, pt (aD b) 0)] ∧ ST w0 [] w [⟨aD b, 90, kZ_, 5⟩] [⟨B, [vi p.Kind, vi p.A, vi p.B]⟩, ⟨B1, [vi p1]⟩]) ?_ ?_
 ·skip
  refine cw_block (cq (cr ?_))
  refine sQ 9 (yd B 0 0 K33 K0) <| sQ 10 (yl B 0 [vi p.Kind, vi p.A, vi p.B] (vi p.Kind) K1 (hS1.rf (i := 0) rfl)) <| sQ 11 (yE p.Kind 12) <| sQ 8 (yg (.bool (p.Kind == 12))) (rn ?_)
  refine cw_cond (b := (p.Kind == 12)) rfl (fun hb => ?_) (fun hb => ?_)
  ·skip
   have hF2 := ct hz hb
   refine cq (cr ?_)
   refine sQ 12 (ym (vi i)) <| sQ 13 (ym (vi j)) <| sQ 14 (yE i j) (rn ?_)
   refine cw_cond (b := (i == j)) rfl (fun hb1 => ?_) (fun hb1 => ?_)
   ·skip
    have hF3 := ct hF2 hb1
    refine cq (cr ?_)
    obtain ⟨r_2, hc, hF3⟩ := bI hF3
    refine sc 15 rfl rfl (yC [vi 1] K89 (c_impl_phase 1 _  (hS1.inn0 [] rfl) hc)) ?_
    rintro _ w_1 ⟨rfl, hd⟩
    have hS3 := hS1.out00 hd
    refine s0 (yT 0 5 (aD b) 90 (gD_ r_2) (kD_ r_2) 0 hS3 K4) ?_
    rintro _ w_2 ⟨rfl, hS4⟩
    refine sQ 7 (yg (.bool true)) (rn (ct_ ?_))
    obtain rfl := sI hF3
    obtain ⟨rfl, rfl⟩ := pr2 (sI hF1)
    exact ret2 Tryz.results288 (v1 := gD_ r_2) (resAt_cellA (B := aD b) (i := 0) (cs := kD_ r_2) (vs := kD_ r_2) rfl K10 K4 (hS4.c 0) rfl rfl) (v2 := .bool true) (resAt_tmp rfl) ⟨rfl, (hS4.sN [])⟩
   ·skip
    have hF4 := cf' hF2 hb1
    refine cw_skip ?_
    exact ⟨(sI hF4), (fc rfl fn_), (hS1.sel [0] rfl rfl)⟩
  ·skip
   have hF5 := cf' hz hb
   refine cq (cr ?_)
   refine sQ 17 (yd B 0 0 K33 K0) <| sQ 18 (yl B 0 [vi p.Kind, vi p.A, vi p.B] (vi p.Kind) K1 (hS1.rf (i := 0) rfl)) ?_
   obtain ⟨r_3, hc1, hF5⟩ := bI hF5
   refine sc 19 rfl rfl (yC [vi p.Kind] k_call_94 (c_impl_isTwo p.Kind _  (hS1.inn0 [] rfl) hc1)) ?_
   rintro _ w_3 ⟨rfl, hd1⟩
   have hS5 := hS1.out00 hd1
   refine sQ 16 (yg (.bool r_3)) (rn ?_)
   refine cw_cond (b := r_3) rfl (fun hb2 => ?_) (fun hb2 => ?_)
   ·skip
    have hF6 := ct hF5 hb2
    refine cq (cr ?_)
    refine sQ 20 (yl B1 0 [vi p1] (vi p1) K1 (hS5.rf (i := 1) rfl)) <| sQ 21 (yb B 0 [vi p.Kind, vi p.A, vi p.B] K24 K3 (hS5.rf (i := 0) rfl)) <| sQ 22 (ym (vi i)) ?_
    obtain ⟨r_4, hc2, hF6⟩ := bI hF6
    refine sc 23 rfl rfl (yC [vi p1, .agg #[vi p.Kind, vi p.A, vi p.B], vi i] k_call_289 (c_impl_comesFrom p1 p i _  (hS5.inn0 [] rfl) hc2)) ?_
    rintro _ w_4 ⟨rfl, hd2⟩
    have hS6 := hS5.out00 hd2
    refine sQ 24 (ym (vi j)) <| sQ 25 (yE r_4 j) (rn ?_)
    refine cw_cond (b := (r_4 == j)) rfl (fun hb3 => ?_) (fun hb3 => ?_)
    ·skip
     have hF7 := ct hF6 hb3
     refine cq (cr ?_)
     refine sQ 26 (yd B 0 0 K33 K0) <| sQ 27 (yl B 0 [vi p.Kind, vi p.A, vi p.B] (vi p.Kind) K1 (hS6.rf (i := 0) rfl)) <| sQ 28 (yE p.Kind 10) <| sQ 29 (ym (.bool (p.Kind == 10))) ?_
     refine sgq 30 (B := (p.Kind == 10)) (v := vi p1) rfl rfl (uT_ 29) (fun hg => (yl B1 0 [vi p1] (vi p1) K1 (hS6.rf (i := 1) rfl))) ?_
     refine sgq 31 (B := (p.Kind == 10)) (v := vi i) rfl rfl (uT_ 29) (fun hg1 => (ym (vi i))) ?_
     refine sgq 32 (B := (p.Kind == 10)) (v := pt B 1) rfl rfl (uT_ 29) (fun hg2 => (yd B 0 0 K18 K0)) ?_
     refine sgq 33 (B := (p.Kind == 10)) (v := vi p.A) rfl rfl (uT_ 29) (fun hg3 => (yl B 1 [vi p.Kind, vi p.A, vi p.B] (vi p.A) K1 (hS6.rf (i := 0) rfl) rfl (gv_of (v := pt B 1) hg3))) ?_
     obtain ⟨r_5, hc3, hF7⟩ := bI hF7
     refine sgc 34 (B := (p.Kind == 10)) (v := vi r_5) (F := hS6.fn) rfl rfl (uT_ 29) hS6 (fun hg4 => (yC [vi p1, vi i, vi p.A] K79 (CV.mono (c_impl_bitOf p1 i p.A _  (hS6.inn0 [] rfl) (gb_inv hc3 hg4)) (by rintro _ _ ⟨rfl, h⟩; exact ⟨rfl, hS6.out00 h⟩)) rfl (mc (gv_of (v := vi p1) hg4) (mc (gv_of (v := vi i) hg4) (mc (gv_of (v := vi p.A) hg4) mn))))) ?_
     rintro w_5 hS7
     refine sgq 35 (B := (p.Kind == 10)) (v := .bool (r_5 == 1)) rfl rfl (uT_ 29) (fun hg5 => (yE r_5 1 rfl (gv_of (v := vi r_5) hg5))) ?_
     refine sQ 36 (Y_and (b := (p.Kind == 10)) (z := (r_5 == 1)) rfl rfl rfl rfl) <| sQ 37 (ym (.bool ((p.Kind == 10) && (r_5 == 1)))) ?_
     refine sgq 38 (B := ((p.Kind == 10) && (r_5 == 1))) (v := vi p1) rfl rfl (uT_ 37) (fun hg6 => (yl B1 0 [vi p1] (vi p1) K1 (hS7.rf (i := 1) rfl))) ?_
     refine sgq 39 (B := ((p.Kind == 10) && (r_5 == 1))) (v := vi i) rfl rfl (uT_ 37) (fun hg7 => (ym (vi i))) ?_
     refine sgq 40 (B := ((p.Kind == 10) && (r_5 == 1))) (v := pt B 2) rfl rfl (uT_ 37) (fun hg8 => (yd B 0 0 K26 K0)) ?_
     refine sgq 41 (B := ((p.Kind == 10) && (r_5 == 1))) (v := vi p.B) rfl rfl (uT_ 37) (fun hg9 => (yl B 2 [vi p.Kind, vi p.A, vi p.B] (vi p.B) K1 (hS7.rf (i := 0) rfl) rfl (gv_of (v := pt B 2) hg9))) ?_
     obtain ⟨r_6, hc4, hF7⟩ := bI hF7
     refine sgc 42 (B := ((p.Kind == 10) && (r_5 == 1))) (v := vi r_6) (F := hS7.fn) rfl rfl (uT_ 37) hS7 (fun hg10 => (yC [vi p1, vi i, vi p.B] K79 (CV.mono (c_impl_bitOf p1 i p.B _  (hS7.inn0 [] rfl) (gb_inv hc4 hg10)) (by rintro _ _ ⟨rfl, h⟩; exact ⟨rfl, hS7.out00 h⟩)) rfl (mc (gv_of (v := vi p1) hg10) (mc (gv_of (v := vi i) hg10) (mc (gv_of (v := vi p.B) hg10) mn))))) ?_
     rintro w_6 hS8
     refine sgq 43 (B := ((p.Kind == 10) && (r_5 == 1))) (v := .bool (r_6 == 1)) rfl rfl (uT_ 37) (fun hg11 => (yE r_6 1 rfl (gv_of (v := vi r_6) hg11))) ?_
     refine sQ 44 (Y_and (b := ((p.Kind == 10) && (r_5 == 1))) (z := (r_6 == 1)) rfl rfl rfl rfl) ?_
     obtain ⟨r_7, hc5, hF7⟩ := bI hF7
     refine sc 45 rfl rfl (yC [.bool (((p.Kind == 10) && (r_5 == 1)) && (r_6 == 1))] k_call_174 (c_impl_small (((p.Kind == 10) && (r_5 == 1)) && (r_6 == 1)) _  (hS8.inn0 [] rfl) hc5)) ?_
     rintro _ w_7 ⟨rfl, hd3⟩
     have hS9 := hS8.out00 hd3
     refine sQ 46 (yX 4 r_7) ?_
     obtain ⟨r_8, hc6, hF7⟩ := bI hF7
     refine sc 47 rfl rfl (yC [vi (i64.wrap (4 * r_7))] K89 (c_impl_phase (i64.wrap (4 * r_7)) _  (hS9.inn0 [] rfl) hc6)) ?_
     rintro _ w_8 ⟨rfl, hd4⟩
     have hS10 := hS9.out00 hd4
     refine s0 (yT 0 5 (aD b) 90 (gD_ r_8) (kD_ r_8) 0 hS10 K4) ?_
     rintro _ w_9 ⟨rfl, hS11⟩
     refine sQ 7 (yg (.bool true)) (rn (ct_ ?_))
     obtain rfl := sI hF7
     obtain ⟨rfl, rfl⟩ := pr2 (sI hF1)
     exact ret2 Tryz.results288 (v1 := gD_ r_8) (resAt_cellA (B := aD b) (i := 0) (cs := kD_ r_8) (vs := kD_ r_8) rfl K10 K4 (hS11.c 0) rfl rfl) (v2 := .bool true) (resAt_tmp rfl) ⟨rfl, (hS11.sN [])⟩
    ·skip
     have hF8 := cf' hF6 hb3
     refine cw_skip ?_
     exact ⟨(sI hF8), (fc rfl fn_), (hS6.sel [0] rfl rfl)⟩
   ·skip
    have hF9 := cf' hF5 hb2
    refine cq (cr ?_)
    refine sQ 49 (ym (vi i)) <| sQ 50 (ym (vi j)) <| sQ 51 (yE i j) <| sQ 52 (ym (.bool (i == j))) ?_
    refine sgq 53 (B := (!(i == j))) (v := vi p1) rfl rfl (uF_ 52) (fun hg12 => (yl B1 0 [vi p1] (vi p1) K1 (hS5.rf (i := 1) rfl))) ?_
    refine sgq 54 (B := (!(i == j))) (v := vi i) rfl rfl (uF_ 52) (fun hg13 => (ym (vi i))) ?_
    refine sgq 55 (B := (!(i == j))) (v := pt B 1) rfl rfl (uF_ 52) (fun hg14 => (yd B 0 0 K18 K0)) ?_
    refine sgq 56 (B := (!(i == j))) (v := vi p.A) rfl rfl (uF_ 52) (fun hg15 => (yl B 1 [vi p.Kind, vi p.A, vi p.B] (vi p.A) K1 (hS5.rf (i := 0) rfl) rfl (gv_of (v := pt B 1) hg15))) ?_
    obtain ⟨r_9, hc7, hF9⟩ := bI hF9
    refine sgc 57 (B := (!(i == j))) (v := vi r_9) (F := hS5.fn) rfl rfl (uF_ 52) hS5 (fun hg16 => (yC [vi p1, vi i, vi p.A] K108 (CV.mono (c_impl_flipped p1 i p.A _  (hS5.inn0 [] rfl) (gb_inv hc7 hg16)) (by rintro _ _ ⟨rfl, h⟩; exact ⟨rfl, hS5.out00 h⟩)) rfl (mc (gv_of (v := vi p1) hg16) (mc (gv_of (v := vi i) hg16) (mc (gv_of (v := vi p.A) hg16) mn))))) ?_
    rintro w_10 hS12
    refine sgq 58 (B := (!(i == j))) (v := vi j) rfl rfl (uF_ 52) (fun hg17 => (ym (vi j))) ?_
    refine sgq 59 (B := (!(i == j))) (v := .bool (r_9 == j)) rfl rfl (uF_ 52) (fun hg18 => (yE r_9 j rfl (gv_of (v := vi r_9) hg18) (gv_of (v := vi j) hg18))) ?_
    refine sQ 60 (Y_or (b := (i == j)) (z := (r_9 == j)) rfl rfl rfl rfl) <| sQ 48 (yg (.bool ((i == j) || (r_9 == j)))) (rn ?_)
    refine cw_cond (b := ((i == j) || (r_9 == j))) rfl (fun hb4 => ?_) (fun hb4 => ?_)
    ·skip
     have hF10 := ct hF9 hb4
     refine cq ?_
     obtain ⟨r_10, hc8, hF10⟩ := bI hF10
     obtain ⟨r_11, hc9, hF10⟩ := bI hF10
     obtain ⟨r_12, hc10, hF10⟩ := bI hF10
     refine ra_start (hS12.se []).fn (by kernel_rfl) ?_
     have hS16 := hS12.drew
     refine rq 0 61 (v := pt B 0) rfl (hS16.se []) (fun w' hw' => (yd B 0 0 K33 K0)) ?_
     refine rq 1 62 (v := vi p.Kind) rfl (hS16.se []) (fun w' hw' => (yl B 0 [vi p.Kind, vi p.A, vi p.B] (vi p.Kind) K1 (ST.rf hw' (i := 0) rfl))) ?_
     refine rq 2 63 (v := vi p1) rfl (hS16.se []) (fun w' hw' => (yl B1 0 [vi p1] (vi p1) K1 (ST.rf hw' (i := 1) rfl))) ?_
     refine rq 3 64 (v := vi i) rfl (hS16.se []) (fun w' hw' => (ym (vi i))) ?_
     refine rq 4 65 (v := pt B 1) rfl (hS16.se []) (fun w' hw' => (yd B 0 0 K18 K0)) ?_
     refine rq 5 66 (v := vi p.A) rfl (hS16.se []) (fun w' hw' => (yl B 1 [vi p.Kind, vi p.A, vi p.B] (vi p.A) K1 (ST.rf hw' (i := 0) rfl))) ?_
     refine rq 7 68 (v := vi p1) rfl (hS16.se []) (fun w' hw' => (yl B1 0 [vi p1] (vi p1) K1 (ST.rf hw' (i := 1) rfl))) ?_
     refine rq 8 69 (v := vi j) rfl (hS16.se []) (fun w' hw' => (ym (vi j))) ?_
     refine rq 9 70 (v := pt B 1) rfl (hS16.se []) (fun w' hw' => (yd B 0 0 K18 K0)) ?_
     refine rq 10 71 (v := vi p.A) rfl (hS16.se []) (fun w' hw' => (yl B 1 [vi p.Kind, vi p.A, vi p.B] (vi p.A) K1 (ST.rf hw' (i := 0) rfl))) ?_
     refine rA [6] ?_
     refine rC 67 6 rfl (yC [vi p1, vi i, vi p.A] K79 (c_impl_bitOf p1 i p.A _  (hS16.inn0 [] rfl) hc8)) ?_ ?_
     ·rintro _ w_11 ⟨rfl, hd5⟩
      have hS17 := hS16.out00 hd5
      refine ⟨(hS17.se []), ?_⟩
      refine rA [11] ?_
      refine rC 72 11 rfl (yC [vi p1, vi j, vi p.A] K79 (c_impl_bitOf p1 j p.A _  (hS17.inn0 [] rfl) hc9)) ?_ ?_
      ·rintro _ w_12 ⟨rfl, hd6⟩
       have hS18 := hS17.out00 hd6
       refine ⟨(hS18.se []), ?_⟩
       refine rA [12] ?_
       refine rC 73 12 rfl (yC [vi p.Kind, vi r_10, vi r_11] k_call_292 (c_impl_entry p.Kind r_10 r_11 _  (hS18.inn0 [] rfl) hc10)) ?_ ?_
       ·rintro _ w_13 ⟨rfl, hd7⟩
        have hS19 := hS18.out00 hd7
        refine ⟨(hS19.se []), ?_⟩
        refine rA [13] ?_
        refine rZ 13 rfl (yT 0 5 (aD b) 90 (gD_ r_12) (kD_ r_12) 0 hS19 K4) ?_ ?_
        ·rintro _ w_14 ⟨rfl, hS20⟩
         refine ⟨(hS20.se []), ?_⟩
         refine rq 14 7 (v := .bool true) rfl (hS20.se []) (fun w' hw' => (yg (.bool true))) ?_
         refine ra_done (by kernel_rfl) ?_
         refine ct_ ?_
         obtain rfl := sI hF10
         obtain ⟨rfl, rfl⟩ := pr2 (sI hF1)
         exact ret2 Tryz.results288 (v1 := gD_ r_12) (resAt_cellA (B := aD b) (i := 0) (cs := kD_ r_12) (vs := kD_ r_12) rfl K10 K4 (hS20.c 0) rfl rfl) (v2 := .bool true) (resAt_tmp rfl) ⟨rfl, (hS20.sN [])⟩
        exact aN
       exact aN
      exact aN
     exact aN
    ·skip
     have hF11 := cf' hF9 hb4
     refine cw_skip ?_
     exact ⟨(sI hF11), (fc rfl fn_), (hS12.sel [0] rfl rfl)⟩
 rintro f w ⟨rfl, hf, hS2⟩
 refine cq (cr ?_)
 refine sQ 74 (Y_buildS (zs := kZ_) (vs := []) (cs := kZ_) K50 K15 rfl mpn rfl) ?_
 refine s0 (yT 0 5 (aD b) 90 gZ_ kZ_ 0 hS2 K4 rfl (hf.g 6 0)) ?_
 rintro _ w_15 ⟨rfl, hS21⟩
 refine sQ 7 (yg (.bool true)) (rn (ct_ ?_))
 obtain ⟨rfl, rfl⟩ := pr2 (sI hF1)
 exact ret2 Tryz.results288 (v1 := gZ_) (resAt_cellA (B := aD b) (i := 0) (cs := kZ_) (vs := kZ_) (hf.g 6 0) K10 K4 (hS21.c 0) rfl rfl) (v2 := .bool true) (resAt_tmp rfl) ⟨rfl, (hS21.sN [])⟩

theorem c_impl_GateMatrix (n : Int) (g : TGate)  (w0 : World)  (hS : ST w0 [] w0 [] []) {r_ : TMatrix} {r_1 : Bool} (hF : F_impl_GateMatrix n g = some (r_, r_1)) :
  CV Tryz.prog 234 #[vi n, .agg #[vi g.Kind, vi g.A, vi g.B]] w0 (fun v w' => ∃ (B : Option Addr) (c : Nat), v = .tuple #[gM_ r_ B c, .bool r_1] ∧ ST w0 [] w' [⟨B, 90, (r_.Cells.flatMap enc_Dyadic), c * 5⟩] []) := by
 unfold F_impl_GateMatrix at hF
 refine cv_of_cw 19 Tryz.func234 rfl Tryz.ntmps234 rfl ?_
 refine cq (cr ?_)
 refine sS 2 (yB 3 (vi n) [vi n] 1 hS) ?_
 rintro _ w_ ⟨b, rfl, hS1⟩
 refine sS 3 (yB 120 (.agg #[vi g.Kind, vi g.A, vi g.B]) [vi g.Kind, vi g.A, vi g.B] 3 hS1) ?_
 rintro _ w_1 ⟨b1, rfl, hS2⟩
 refine sS 4 (yN kN_ 3 hS2 K23) ?_
 rintro _ w_2 ⟨b2, rfl, hS3⟩
 refine sQ 5 (yg (.bool false)) (rn (cq (cq (cr ?_))))
 refine sQ 6 (yl (aD b) 0 [vi n] (vi n) K1 (hS3.c 0)) <| sQ 7 (yb (aD b1) 0 [vi g.Kind, vi g.A, vi g.B] K24 K3 (hS3.c 1)) ?_
 obtain ⟨r_2, hc, hF⟩ := bI hF
 refine sc 8 rfl rfl (yC [vi n, .agg #[vi g.Kind, vi g.A, vi g.B]] k_call_186 (c_impl_IsValidGate n g _  (hS3.inn0 [] rfl) hc)) ?_
 rintro _ w_3 ⟨rfl, hd⟩
 have hS4 := hS3.out00 hd
 refine sQ 9 (Y_not (p := r_2) rfl rfl) (rn ?_)
 refine cw_cond (b := (!r_2)) rfl (fun hb => ?_) (fun hb => ?_)
 ·skip
  have hF1 := ct hF hb
  refine cq (cr ?_)
  refine sQ 10 (Y_buildS (zs := kN_) (vs := []) (cs := kN_) K68 K23 rfl mpn rfl) ?_
  refine s0 (yT 2 3 (aD b2) 81 gN_ kN_ 0 hS4 K8) ?_
  rintro _ w_4 ⟨rfl, hS5⟩
  refine sQ 5 (yg (.bool false)) (rn (ct_ ?_))
  have hS6 := hS5.addNil 90
  obtain ⟨rfl, rfl⟩ := pr2 (sI hF1)
  exact ret2 Tryz.results234 (v1 := gN_) (resAt_cellA (B := aD b2) (i := 0) (cs := kN_) (vs := kN_) rfl K17 K8 (hS6.c 2) rfl rfl) (v2 := .bool false) (resAt_tmp rfl) ⟨none, 0, rfl, (hS6.sN [3])⟩
 ·skip
  have hF2 := cf' hF hb
  refine cw_skip (cq ?_)
  obtain ⟨hsh, hF2⟩ := chk_inv hF2
  obtain ⟨hsh1, hF2⟩ := chk_inv hF2
  obtain ⟨⟨r_3, r_4⟩, hc1, hF2⟩ := bI hF2
  refine ra_start (hS4.se [0, 1]).fn (by kernel_rfl) ?_
  have hS8 := hS4.drew
  refine rq 0 11 (v := vi n) rfl (hS8.se [0, 1]) (fun w' hw' => (yl (aD b) 0 [vi n] (vi n) K1 (ST.cf hw' (i := 0) rfl))) ?_
  refine rq 1 12 (v := vi (shlK .i64 1 n)) rfl (hS8.se [0, 1]) (fun w' hw' => (Y_shl (k := .i64) (a := 1) (k' := .i64) (b := n) rfl rfl rfl hsh)) ?_
  refine rq 2 13 (v := vi n) rfl (hS8.se [0, 1]) (fun w' hw' => (yl (aD b) 0 [vi n] (vi n) K1 (ST.cf hw' (i := 0) rfl))) ?_
  refine rq 3 14 (v := vi (shlK .i64 1 n)) rfl (hS8.se [0, 1]) (fun w' hw' => (Y_shl (k := .i64) (a := 1) (k' := .i64) (b := n) rfl rfl rfl hsh1)) ?_
  refine rq 4 15 (v := .func (.func 288) #[] #[pt (aD b1) 0, pt (aD b) 0]) rfl (hS8.se [0, 1]) (fun w' hw' => (Y_makeFunc (cs := [pt (aD b1) 0, pt (aD b) 0]) rfl rfl (mc rfl (mc rfl mn)))) ?_
  refine rA [5] ?_
  refine rC 16 5 rfl (yC [vi (shlK .i64 1 n), vi (shlK .i64 1 n), .func (.func 288) #[] #[pt (aD b1) 0, pt (aD b) 0]] K106 (c_impl_matrixOf (shlK .i64 1 n) (shlK .i64 1 n) (fun x_0 x_1 => F_impl_GateMatrix_1 x_0 x_1 g n) 288 (#[pt (aD b1) 0, pt (aD b) 0]) [⟨aD b1, [vi g.Kind, vi g.A, vi g.B]⟩, ⟨aD b, [vi n]⟩] _ k_call_288 (fun w hw x_0 x_1 y_0 y_1 h_ => c_impl_GateMatrix_1 x_0 x_1 g n (aD b1) (aD b) w  hw h_) (hS8.inn0 [(false, 1), (false, 0)] rfl) hc1)) ?_ ?_
  ·rintro _ w_5 ⟨B1, c1, rfl, hd1⟩
   have hS9 := hS8.out0 hd1
   refine ⟨(hS9.se [0, 1]), ?_⟩
   refine rq 6 17 (v := gM_ r_3 B1 c1) rfl (hS9.se [0, 1]) (fun w' hw' => (ye (gM_ r_3 B1 c1))) ?_
   refine rq 7 18 (v := .bool r_4) rfl (hS9.se [0, 1]) (fun w' hw' => (ye (.bool r_4))) ?_
   refine rA [8] ?_
   refine rZ 8 rfl (yT 2 3 (aD b2) 81 (gM_ r_3 B1 c1) (kM_ r_3 B1 c1) 0 hS9 K8) ?_ ?_
   ·rintro _ w_6 ⟨rfl, hS10⟩
    refine ⟨(hS10.se [0, 1]), ?_⟩
    refine rq 9 5 (v := .bool r_4) rfl (hS10.se [0, 1]) (fun w' hw' => (yg (.bool r_4))) ?_
    refine ra_done (by kernel_rfl) ?_
    refine ct_ ?_
    obtain ⟨rfl, rfl⟩ := pr2 (sI hF2)
    exact ret2 Tryz.results234 (v1 := gM_ r_3 B1 c1) (resAt_cellA (B := aD b2) (i := 0) (cs := kM_ r_3 B1 c1) (vs := kM_ r_3 B1 c1) rfl K17 K8 (hS10.c 2) rfl rfl) (v2 := .bool r_4) (resAt_tmp rfl) ⟨B1, c1, rfl, (hS10.sN [3])⟩
   exact aN
  exact aN

theorem c_slices_IndexFunc_impl_Dyadic_impl_Dyadic (s : List TDyadic) (f_ : TDyadic → Option (Bool)) (B : Option Addr) (c n : Nat) (kf : Nat) (caps : Array Value) (Rf : List Ro) (w0 : World) (hn : s.length = n) (hk : callB Tryz.prog kf = true) (hp : ∀ (w : World), ST w [] w [] Rf → ∀ (x : TDyadic) (y : Bool), f_ x = some y → CV Tryz.prog kf ((gD_ x) :: caps.toList).toArray w (fun v w' => v = .bool y ∧ ST w [] w' [] [])) (hS : ST w0 [] w0 [] (⟨B, (s.flatMap enc_Dyadic)⟩ :: Rf)) {r_ : Int} (hF : F_slices_IndexFunc_impl_Dyadic_impl_Dyadic s f_ = some r_) :
  CV Tryz.prog 308 #[.slice B n c, .func (.func kf) #[] caps] w0 (fun v w' => v = vi r_ ∧ ST w0 [] w' [] []) := by
 subst hn
 unfold F_slices_IndexFunc_impl_Dyadic_impl_Dyadic at hF
 refine cv_of_cw 19 Tryz.func308 rfl Tryz.ntmps308 rfl ?_
 refine cq (cr ?_)
 refine sQ 4 (yg (vi 0)) (rn (cq (cq (cr ?_))))
 refine sQ 6 (ym (.slice B s.length c)) <| sQ 7 (Y_len (B := B) (m := s.length) (c := c) K49 rfl rfl) <| sQ 8 (ym (vi 0)) (rn ?_)
 obtain ⟨hN, hF⟩ := chk_inv hF
 obtain ⟨z, hz, hF1⟩ := bI hF
 refine cw_block ?_
 refine cw_loop (fun k f w => ∃ (i : Nat), FF f [(0, .slice B s.length c), (1, .func (.func kf) #[] caps), (7, vi (s.length : Int)), (8, vi (i : Int))] ∧ ST w0 [] w [] (⟨B, (s.flatMap enc_Dyadic)⟩ :: Rf) ∧ i + k = s.length ∧ forX (F_slices_IndexFunc_impl_Dyadic_impl_Dyadic_l1 s f_) k i () = some z) s.length ⟨0, (fc rfl (fc rfl (fc rfl (fc rfl fn_)))), (hS.sel [] rfl rfl), Nat.zero_add _, hz⟩ ?_
 rintro k_ f w ⟨i, hf, hS1, hik, hL⟩
 refine cq (cr ?_)
 refine sQ 9 (yL (i : Int) (s.length : Int) rfl (hf.g 8 3) (hf.g 7 2)) (rn (cq ?_))
 refine cw_cond (b := (decide ((i : Int) < (s.length : Int)))) rfl (fun hlt => ?_) (fun hlt => ?_)
 ·skip
  have hlt1 : i < s.length := by have h := of_decide_eq_true hlt; omega
  obtain ⟨K7, rfl⟩ : ∃ k2, k_ = k2 + 1 := ⟨k_ - 1, by omega⟩
  obtain ⟨y1, hb, hL1⟩ := forX_go hL
  unfold F_slices_IndexFunc_impl_Dyadic_impl_Dyadic_l1 at hb
  refine cw_skip (cq (cw_block (cq (cr ?_))))
  refine sQ 10 (ym (vi (i : Int)) rfl (hf.g 8 3)) <| sQ 5 (yg (vi (i : Int))) (rn (cq (cr ?_)))
  refine sQ 11 (ym (.func (.func kf) #[] caps) rfl (hf.g 1 1)) <| sQ 12 (ym (.slice B s.length c) rfl (hf.g 0 0)) <| sQ 13 (ym (vi (i : Int))) ?_
  obtain ⟨x1, hx, hb⟩ := bI hb
  refine sQ 14 (Y_index (B := B) (m := s.length) (c := c) (k := .i64) (i := (i : Int)) K49 K4 rfl rfl rfl (gi_isSome enc_Dyadic_len rfl (hS1.rf (i := 0) rfl) hx) (getI_nn hx) (getI_ltI hx rfl)) <| sQ 15 (ya B ((i : Int).toNat * 5) (s.flatMap enc_Dyadic) (kD_ x1) K10 K4 (hS1.rf (i := 0) rfl) rfl rfl (enc_Dyadic_len x1) (gi_seg enc_Dyadic_len hx)) ?_
  obtain ⟨r_1, hc, hb⟩ := bI hb
  refine sc 16 rfl rfl (Yc_clos (g := kf) (vs := (gD_ x1) :: caps.toList) hk rfl rfl (clo_args (mc rfl mn)) (hp _ (hS1.innS (fun _ h => mOd (i := 1) h)) x1 r_1 hc)) ?_
  rintro _ w_ ⟨rfl, hd⟩
  have hS2 := hS1.out00 hd
  refine rn ?_
  refine cw_cond (b := r_1) rfl (fun hb1 => ?_) (fun hb1 => ?_)
  ·skip
   have hF2 := ct hb hb1
   refine cq (cr ?_)
   refine sQ 17 (ym (vi (i : Int))) <| sQ 4 (yg (vi (i : Int))) (rn (ct_ ?_))
   obtain rfl := sI hF2
   obtain rfl := sI hL1
   obtain rfl := sI hF1
   exact ret1 Tryz.results308 (v1 := vi (i : Int)) (resAt_tmp rfl) ⟨rfl, (hS2.sN [])⟩
  ·skip
   have hF3 := cf' hb hb1
   refine cw_skip (cr ?_)
   refine sQ 18 (yP (i : Int) 1 rfl (hf.g 8 3)) <| sQ 8 (ym (vi (i64.wrap ((i : Int) + 1)))) (rn ?_)
   obtain rfl := sI hF3
   exact ⟨K7, Nat.lt_succ_self _, i + 1, (fc (hf.g 0 0) (fc (hf.g 1 1) (fc (hf.g 7 2) (fc (congrArg (Value.int .i64) (wr_succ hlt1 hN)) fn_)))), (hS2.sel [] rfl rfl), (by omega), hL1⟩
 ·skip
  obtain rfl : k_ = 0 := by have h := of_decide_eq_false hlt; omega
  refine cw_exit rfl ?_
  obtain rfl := sI hL
  refine cq (cr ?_)
  refine sQ 4 (yg (vi (-1))) (rn (ct_ ?_))
  obtain rfl := sI hF1
  exact ret1 Tryz.results308 (v1 := vi (-1)) (resAt_tmp rfl) ⟨rfl, (hS1.sN [])⟩

theorem c_slices_ContainsFunc_impl_Dyadic_impl_Dyadic (s : List TDyadic) (f_ : TDyadic → Option (Bool)) (B : Option Addr) (c n : Nat) (kf : Nat) (caps : Array Value) (Rf : List Ro) (w0 : World) (hn : s.length = n) (hk : callB Tryz.prog kf = true) (hp : ∀ (w : World), ST w [] w [] Rf → ∀ (x : TDyadic) (y : Bool), f_ x = some y → CV Tryz.prog kf ((gD_ x) :: caps.toList).toArray w (fun v w' => v = .bool y ∧ ST w [] w' [] [])) (hS : ST w0 [] w0 [] (⟨B, (s.flatMap enc_Dyadic)⟩ :: Rf)) {r_ : Bool} (hF : F_slices_ContainsFunc_impl_Dyadic_impl_Dyadic s f_ = some r_) :
  CV Tryz.prog 269 #[.slice B n c, .func (.func kf) #[] caps] w0 (fun v w' => v = .bool r_ ∧ ST w0 [] w' [] []) := by
 subst hn
 unfold F_slices_ContainsFunc_impl_Dyadic_impl_Dyadic at hF
 refine cv_of_cw 9 Tryz.func269 rfl Tryz.ntmps269 rfl ?_
 refine cq (cr ?_)
 refine sQ 4 (yg (.bool false)) (rn (cq (cr ?_)))
 refine sQ 5 (ym (.slice B s.length c)) <| sQ 6 (ym (.func (.func kf) #[] caps)) ?_
 obtain ⟨r_1, hc, hF⟩ := bI hF
 refine sc 7 rfl rfl (yC [.slice B s.length c, .func (.func kf) #[] caps] k_call_308 (c_slices_IndexFunc_impl_Dyadic_impl_Dyadic s f_ B c s.length kf caps Rf _ rfl hk hp (hS.innS (sk 0 (fun _ h => mOd (i := 1) h))) hc)) ?_
 rintro _ w_ ⟨rfl, hd⟩
 have hS1 := hS.out00 hd
 refine sQ 8 (Y_ge (k := .i64) (a := r_1) (b := 0) rfl rfl rfl) <| sQ 4 (yg (.bool (decide (0 ≤ r_1)))) (rn (ct_ ?_))
 obtain rfl := sI hF
 exact ret1 Tryz.results269 (v1 := .bool (decide (0 ≤ r_1))) (resAt_tmp rfl) ⟨rfl, (hS1.sN [])⟩

theorem c_impl_isEven (x : TRing)  (w0 : World)  (hS : ST w0 [] w0 [] []) {r_ : Bool} (hF : F_impl_isEven x = some r_) :
  CV Tryz.prog 309 #[gR_ x] w0 (fun v w' => v = .bool r_ ∧ ST w0 [] w' [] []) := by
 unfold F_impl_isEven at hF
 refine cv_of_cw 19 Tryz.func309 rfl Tryz.ntmps309 rfl ?_
 refine cq (cr ?_)
 refine sS 1 (yB 88 (gR_ x) (kR_ x) 4 hS) ?_
 rintro _ w_ ⟨b, rfl, hS1⟩
 refine sQ 2 (yg (.bool false)) (rn (cq (cr ?_)))
 refine sQ 3 (yd (aD b) 0 0 K39 K0) <| sQ 4 (yl (aD b) 0 (kR_ x) (vi x.A) K1 (hS1.c 0)) <| sQ 5 (yd (aD b) 0 0 K43 K0) <| sQ 6 (yl (aD b) 2 (kR_ x) (vi x.C) K1 (hS1.c 0)) <| sQ 7 (yP x.A x.C) <| sQ 8 (Y_rem (k := .i64) (a := (i64.wrap (x.A + x.C))) (b := 2) rfl rfl rfl (by decide)) ?_
 refine sQ 9 (yE (Int.tmod (i64.wrap (x.A + x.C)) 2) 0) <| sQ 10 (ym (.bool ((Int.tmod (i64.wrap (x.A + x.C)) 2) == 0))) ?_
 refine sgq 11 (B := ((Int.tmod (i64.wrap (x.A + x.C)) 2) == 0)) (v := pt (aD b) 1) rfl rfl (uT_ 10) (fun hg => (yd (aD b) 0 0 K42 K0)) ?_
 refine sgq 12 (B := ((Int.tmod (i64.wrap (x.A + x.C)) 2) == 0)) (v := vi x.B) rfl rfl (uT_ 10) (fun hg1 => (yl (aD b) 1 (kR_ x) (vi x.B) K1 (hS1.c 0) rfl (gv_of (v := pt (aD b) 1) hg1))) ?_
 refine sgq 13 (B := ((Int.tmod (i64.wrap (x.A + x.C)) 2) == 0)) (v := pt (aD b) 3) rfl rfl (uT_ 10) (fun hg2 => (yd (aD b) 0 0 K44 K0)) ?_
 refine sgq 14 (B := ((Int.tmod (i64.wrap (x.A + x.C)) 2) == 0)) (v := vi x.D) rfl rfl (uT_ 10) (fun hg3 => (yl (aD b) 3 (kR_ x) (vi x.D) K1 (hS1.c 0) rfl (gv_of (v := pt (aD b) 3) hg3))) ?_
 refine sgq 15 (B := ((Int.tmod (i64.wrap (x.A + x.C)) 2) == 0)) (v := vi (i64.wrap (x.B + x.D))) rfl rfl (uT_ 10) (fun hg4 => (yP x.B x.D rfl (gv_of (v := vi x.B) hg4) (gv_of (v := vi x.D) hg4))) ?_
 refine sgq 16 (B := ((Int.tmod (i64.wrap (x.A + x.C)) 2) == 0)) (v := vi (Int.tmod (i64.wrap (x.B + x.D)) 2)) rfl rfl (uT_ 10) (fun hg5 => (Y_rem (k := .i64) (a := (i64.wrap (x.B + x.D))) (b := 2) rfl (gv_of (v := vi (i64.wrap (x.B + x.D))) hg5) rfl (by decide))) ?_
 refine sgq 17 (B := ((Int.tmod (i64.wrap (x.A + x.C)) 2) == 0)) (v := .bool ((Int.tmod (i64.wrap (x.B + x.D)) 2) == 0)) rfl rfl (uT_ 10) (fun hg6 => (yE (Int.tmod (i64.wrap (x.B + x.D)) 2) 0 rfl (gv_of (v := vi (Int.tmod (i64.wrap (x.B + x.D)) 2)) hg6))) ?_
 refine sQ 18 (Y_and (b := ((Int.tmod (i64.wrap (x.A + x.C)) 2) == 0)) (z := ((Int.tmod (i64.wrap (x.B + x.D)) 2) == 0)) rfl rfl rfl rfl) <| sQ 2 (yg (.bool (((Int.tmod (i64.wrap (x.A + x.C)) 2) == 0) && ((Int.tmod (i64.wrap (x.B + x.D)) 2) == 0)))) (rn (ct_ ?_))
 obtain rfl := sI hF
 exact ret1 Tryz.results309 (v1 := .bool (((Int.tmod (i64.wrap (x.A + x.C)) 2) == 0) && ((Int.tmod (i64.wrap (x.B + x.D)) 2) == 0))) (resAt_tmp rfl) ⟨rfl, (hS1.sN [])⟩

theorem c_impl_IsValidDyadic (x : TDyadic)  (w0 : World)  (hS : ST w0 [] w0 [] []) {r_ : Bool} (hF : F_impl_IsValidDyadic x = some r_) :
  CV Tryz.prog 271 #[gD_ x] w0 (fun v w' => v = .bool r_ ∧ ST w0 [] w' [] []) := by
 unfold F_impl_IsValidDyadic at hF
 refine cv_of_cw 22 Tryz.func271 rfl Tryz.ntmps271 rfl ?_
 refine cq (cr ?_)
 refine sS 1 (yB 90 (gD_ x) (kD_ x) 5 hS) ?_
 rintro _ w_ ⟨b, rfl, hS1⟩
 refine sQ 2 (yg (.bool false)) (rn (cq (cr ?_)))
 refine sQ 3 (yd (aD b) 0 3 K81 K6) <| sQ 4 (ya (aD b) 0 (kD_ x) (kR_ x.Num) K12 K6 (hS1.c 0)) ?_
 obtain ⟨r_1, hc, hF⟩ := bI hF
 refine sc 5 rfl rfl (yC [gR_ x.Num] K88 (c_impl_IsValidRing x.Num _  (hS1.inn0 [] rfl) hc)) ?_
 rintro _ w_1 ⟨rfl, hd⟩
 have hS2 := hS1.out00 hd
 refine sQ 6 (ym (.bool r_1)) ?_
 refine sgq 7 (B := r_1) (v := pt (aD b) 4) rfl rfl (uT_ 6) (fun hg => (yd (aD b) 0 0 K74 K0)) ?_
 refine sgq 8 (B := r_1) (v := vi x.Exp) rfl rfl (uT_ 6) (fun hg1 => (yl (aD b) 4 (kD_ x) (vi x.Exp) K1 (hS2.c 0) rfl (gv_of (v := pt (aD b) 4) hg1))) ?_
 obtain ⟨r_2, hc1, hF⟩ := bI hF
 refine sgc 9 (B := r_1) (v := .bool r_2) (F := hS2.fn) rfl rfl (uT_ 6) hS2 (fun hg2 => (yC [vi x.Exp, vi 0, vi 60] K30 (CV.mono (c_impl_within x.Exp 0 60 _  (hS2.inn0 [] rfl) (gb_inv hc1 hg2)) (by rintro _ _ ⟨rfl, h⟩; exact ⟨rfl, hS2.out00 h⟩)) rfl (mc (gv_of (v := vi x.Exp) hg2) (mc rfl (mc rfl mn))))) ?_
 rintro w_2 hS3
 refine sQ 10 (Y_and (b := r_1) (z := r_2) rfl rfl rfl rfl) <| sQ 11 (ym (.bool (r_1 && r_2))) ?_
 refine sgq 12 (B := (r_1 && r_2)) (v := pt (aD b) 4) rfl rfl (uT_ 11) (fun hg3 => (yd (aD b) 0 0 K74 K0)) ?_
 refine sgq 13 (B := (r_1 && r_2)) (v := vi x.Exp) rfl rfl (uT_ 11) (fun hg4 => (yl (aD b) 4 (kD_ x) (vi x.Exp) K1 (hS3.c 0) rfl (gv_of (v := pt (aD b) 4) hg4))) ?_
 refine sgq 14 (B := (r_1 && r_2)) (v := .bool (x.Exp == 0)) rfl rfl (uT_ 11) (fun hg5 => (yE x.Exp 0 rfl (gv_of (v := vi x.Exp) hg5))) ?_
 refine sgq 15 (B := (r_1 && r_2)) (v := .bool (x.Exp == 0)) rfl rfl (uT_ 11) (fun hg6 => (ym (.bool (x.Exp == 0)) rfl (gv_of (v := .bool (x.Exp == 0)) hg6))) ?_
 refine sgq 16 (B := ((r_1 && r_2) && (!(x.Exp == 0)))) (v := pt (aD b) 0) rfl rfl (wt_gf (gd_of (t := 15) (by kernel_rfl) rfl)) (fun hg7 => (yd (aD b) 0 3 K81 K6)) ?_
 refine sgq 17 (B := ((r_1 && r_2) && (!(x.Exp == 0)))) (v := gR_ x.Num) rfl rfl (wt_gf (gd_of (t := 15) (by kernel_rfl) rfl)) (fun hg8 => (ya (aD b) 0 (kD_ x) (kR_ x.Num) K12 K6 (hS3.c 0) rfl (gv_of (v := pt (aD b) 0) hg8))) ?_
 obtain ⟨r_3, hc2, hF⟩ := bI hF
 refine sgc 18 (B := ((r_1 && r_2) && (!(x.Exp == 0)))) (v := .bool r_3) (F := hS3.fn) rfl rfl (wt_gf (gd_of (t := 15) (by kernel_rfl) rfl)) hS3 (fun hg9 => (yC [gR_ x.Num] K118 (CV.mono (c_impl_isEven x.Num _  (hS3.inn0 [] rfl) (gb_inv hc2 hg9)) (by rintro _ _ ⟨rfl, h⟩; exact ⟨rfl, hS3.out00 h⟩)) rfl (mc (gv_of (v := gR_ x.Num) hg9) mn))) ?_
 rintro w_3 hS4
 refine sgq 19 (B := ((r_1 && r_2) && (!(x.Exp == 0)))) (v := .bool (!r_3)) rfl rfl (wt_gf (gd_of (t := 15) (by kernel_rfl) rfl)) (fun hg10 => (Y_not (p := r_3) rfl (gv_of (v := .bool r_3) hg10))) ?_
 refine sgq 20 (B := (r_1 && r_2)) (v := .bool ((x.Exp == 0) || (!r_3))) rfl rfl (uT_ 11) (fun hg11 => (Y_or (b := (x.Exp == 0)) (z := (!r_3)) rfl (gv_of (v := .bool (x.Exp == 0)) hg11) rfl (gv_and (B := (r_1 && r_2)) (C := (!(x.Exp == 0))) (v := .bool (!r_3)) hg11))) ?_
 refine sQ 21 (Y_and (b := (r_1 && r_2)) (z := ((x.Exp == 0) || (!r_3))) rfl rfl rfl rfl) <| sQ 2 (yg (.bool ((r_1 && r_2) && ((x.Exp == 0) || (!r_3))))) (rn (ct_ ?_))
 obtain rfl := sI hF
 exact ret1 Tryz.results271 (v1 := .bool ((r_1 && r_2) && ((x.Exp == 0) || (!r_3)))) (resAt_tmp rfl) ⟨rfl, (hS4.sN [])⟩

theorem c_impl_IsValidMatrix_1 (x : TDyadic)  (w0 : World)  (hS : ST w0 [] w0 [] []) {r_ : Bool} (hF : F_impl_IsValidMatrix_1 x = some r_) :
  CV Tryz.prog 270 #[gD_ x] w0 (fun v w' => v = .bool r_ ∧ ST w0 [] w' [] []) := by
 unfold F_impl_IsValidMatrix_1 at hF
 refine cv_of_cw 6 Tryz.func270 rfl Tryz.ntmps270 rfl ?_
 refine cq (cr ?_)
 refine sS 1 (yB 90 (gD_ x) (kD_ x) 5 hS) ?_
 rintro _ w_ ⟨b, rfl, hS1⟩
 refine sQ 2 (yg (.bool false)) (rn (cq (cr ?_)))
 refine sQ 3 (yb (aD b) 0 (kD_ x) K10 K4 (hS1.c 0)) ?_
 obtain ⟨r_1, hc, hF⟩ := bI hF
 refine sc 4 rfl rfl (yC [gD_ x] K90 (c_impl_IsValidDyadic x _  (hS1.inn0 [] rfl) hc)) ?_
 rintro _ w_1 ⟨rfl, hd⟩
 have hS2 := hS1.out00 hd
 refine sQ 5 (Y_not (p := r_1) rfl rfl) <| sQ 2 (yg (.bool (!r_1))) (rn (ct_ ?_))
 obtain rfl := sI hF
 exact ret1 Tryz.results270 (v1 := .bool (!r_1)) (resAt_tmp rfl) ⟨rfl, (hS2.sN [])⟩

theorem c_impl_IsValidMatrix (m : TMatrix) (B : Option Addr) (c n : Nat) (w0 : World) (hn : m.Cells.length = n) (hS : ST w0 [] w0 [] [⟨B, (m.Cells.flatMap enc_Dyadic)⟩]) {r_ : Bool} (hF : F_impl_IsValidMatrix m = some r_) :
  CV Tryz.prog 188 #[.agg #[vi m.Rows, vi m.Cols, .slice B n c]] w0 (fun v w' => v = .bool r_ ∧ ST w0 [] w' [] []) := by
 subst hn
 unfold F_impl_IsValidMatrix at hF
 refine cv_of_cw 28 Tryz.func188 rfl Tryz.ntmps188 rfl ?_
 refine cq (cr ?_)
 refine sS 1 (yB 81 (gM_ m B c) (kM_ m B c) 3 hS) ?_
 rintro _ w_ ⟨b, rfl, hS1⟩
 refine sQ 2 (yg (.bool false)) (rn (cq (cr ?_)))
 refine sQ 3 (yd (aD b) 0 0 K75 K0) <| sQ 4 (yl (aD b) 0 (kM_ m B c) (vi m.Rows) K1 (hS1.c 0)) ?_
 obtain ⟨r_1, hc, hF⟩ := bI hF
 refine sc 5 rfl rfl (yC [vi m.Rows] K105 (c_impl_isDim m.Rows _  (hS1.inn0 [] rfl) hc)) ?_
 rintro _ w_1 ⟨rfl, hd⟩
 have hS2 := hS1.out00 hd
 refine sQ 6 (ym (.bool r_1)) ?_
 refine sgq 7 (B := r_1) (v := pt (aD b) 1) rfl rfl (uT_ 6) (fun hg => (yd (aD b) 0 0 K64 K0)) ?_
 refine sgq 8 (B := r_1) (v := vi m.Cols) rfl rfl (uT_ 6) (fun hg1 => (yl (aD b) 1 (kM_ m B c) (vi m.Cols) K1 (hS2.c 0) rfl (gv_of (v := pt (aD b) 1) hg1))) ?_
 obtain ⟨r_2, hc1, hF⟩ := bI hF
 refine sgc 9 (B := r_1) (v := .bool r_2) (F := hS2.fn) rfl rfl (uT_ 6) hS2 (fun hg2 => (yC [vi m.Cols] K105 (CV.mono (c_impl_isDim m.Cols _  (hS2.inn0 [] rfl) (gb_inv hc1 hg2)) (by rintro _ _ ⟨rfl, h⟩; exact ⟨rfl, hS2.out00 h⟩)) rfl (mc (gv_of (v := vi m.Cols) hg2) mn))) ?_
 rintro w_2 hS3
 refine sQ 10 (Y_and (b := r_1) (z := r_2) rfl rfl rfl rfl) <| sQ 11 (ym (.bool (r_1 && r_2))) ?_
 refine sgq 12 (B := (r_1 && r_2)) (v := pt (aD b) 2) rfl rfl (uT_ 11) (fun hg3 => (yd (aD b) 0 0 K53 K48)) ?_
 refine sgq 13 (B := (r_1 && r_2)) (v := .slice B m.Cells.length c) rfl rfl (uT_ 11) (fun hg4 => (yl (aD b) 2 (kM_ m B c) (.slice B m.Cells.length c) K55 (hS3.c 0) rfl (gv_of (v := pt (aD b) 2) hg4))) ?_
 refine sgq 14 (B := (r_1 && r_2)) (v := vi (m.Cells.length : Int)) rfl rfl (uT_ 11) (fun hg5 => (Y_len (B := B) (m := m.Cells.length) (c := c) K49 rfl (gv_of (v := .slice B m.Cells.length c) hg5))) ?_
 refine sgq 15 (B := (r_1 && r_2)) (v := pt (aD b) 0) rfl rfl (uT_ 11) (fun hg6 => (yd (aD b) 0 0 K75 K0)) ?_
 refine sgq 16 (B := (r_1 && r_2)) (v := vi m.Rows) rfl rfl (uT_ 11) (fun hg7 => (yl (aD b) 0 (kM_ m B c) (vi m.Rows) K1 (hS3.c 0) rfl (gv_of (v := pt (aD b) 0) hg7))) ?_
 refine sgq 17 (B := (r_1 && r_2)) (v := pt (aD b) 1) rfl rfl (uT_ 11) (fun hg8 => (yd (aD b) 0 0 K64 K0)) ?_
 refine sgq 18 (B := (r_1 && r_2)) (v := vi m.Cols) rfl rfl (uT_ 11) (fun hg9 => (yl (aD b) 1 (kM_ m B c) (vi m.Cols) K1 (hS3.c 0) rfl (gv_of (v := pt (aD b) 1) hg9))) ?_
 refine sgq 19 (B := (r_1 && r_2)) (v := vi (i64.wrap (m.Rows * m.Cols))) rfl rfl (uT_ 11) (fun hg10 => (yX m.Rows m.Cols rfl (gv_of (v := vi m.Rows) hg10) (gv_of (v := vi m.Cols) hg10))) ?_
 refine sgq 20 (B := (r_1 && r_2)) (v := .bool ((m.Cells.length : Int) == (i64.wrap (m.Rows * m.Cols)))) rfl rfl (uT_ 11) (fun hg11 => (yE (m.Cells.length : Int) (i64.wrap (m.Rows * m.Cols)) rfl (gv_of (v := vi (m.Cells.length : Int)) hg11) (gv_of (v := vi (i64.wrap (m.Rows * m.Cols))) hg11))) ?_
 refine sQ 21 (Y_and (b := (r_1 && r_2)) (z := ((m.Cells.length : Int) == (i64.wrap (m.Rows * m.Cols)))) rfl rfl rfl rfl) <| sQ 22 (ym (.bool ((r_1 && r_2) && ((m.Cells.length : Int) == (i64.wrap (m.Rows * m.Cols)))))) ?_
 refine sgq 23 (B := ((r_1 && r_2) && ((m.Cells.length : Int) == (i64.wrap (m.Rows * m.Cols))))) (v := pt (aD b) 2) rfl rfl (uT_ 22) (fun hg12 => (yd (aD b) 0 0 K53 K48)) ?_
 refine sgq 24 (B := ((r_1 && r_2) && ((m.Cells.length : Int) == (i64.wrap (m.Rows * m.Cols))))) (v := .slice B m.Cells.length c) rfl rfl (uT_ 22) (fun hg13 => (yl (aD b) 2 (kM_ m B c) (.slice B m.Cells.length c) K55 (hS3.c 0) rfl (gv_of (v := pt (aD b) 2) hg13))) ?_
 obtain ⟨r_3, hc2, hF⟩ := bI hF
 refine sgc 25 (B := ((r_1 && r_2) && ((m.Cells.length : Int) == (i64.wrap (m.Rows * m.Cols))))) (v := .bool r_3) (F := hS3.fn) rfl rfl (uT_ 22) hS3 (fun hg14 => (yC [.slice B m.Cells.length c, .func (.func 270) #[] #[]] k_call_269 (CV.mono (c_slices_ContainsFunc_impl_Dyadic_impl_Dyadic m.Cells F_impl_IsValidMatrix_1 B c m.Cells.length 270 (#[]) [] _ rfl k_call_270 (fun w hw x_0 y_0 h_ => c_impl_IsValidMatrix_1 x_0  w  hw h_) (hS3.inn0 [(true, 0)] rfl) (gb_inv hc2 hg14)) (by rintro _ _ ⟨rfl, h⟩; exact ⟨rfl, hS3.out00 h⟩)) rfl (mc (gv_of (v := .slice B m.Cells.length c) hg14) (mc rfl mn)))) ?_
 rintro w_3 hS4
 refine sgq 26 (B := ((r_1 && r_2) && ((m.Cells.length : Int) == (i64.wrap (m.Rows * m.Cols))))) (v := .bool (!r_3)) rfl rfl (uT_ 22) (fun hg15 => (Y_not (p := r_3) rfl (gv_of (v := .bool r_3) hg15))) ?_
 refine sQ 27 (Y_and (b := ((r_1 && r_2) && ((m.Cells.length : Int) == (i64.wrap (m.Rows * m.Cols))))) (z := (!r_3)) rfl rfl rfl rfl) <| sQ 2 (yg (.bool (((r_1 && r_2) && ((m.Cells.length : Int) == (i64.wrap (m.Rows * m.Cols)))) && (!r_3)))) (rn (ct_ ?_))
 obtain rfl := sI hF
 exact ret1 Tryz.results188 (v1 := .bool (((r_1 && r_2) && ((m.Cells.length : Int) == (i64.wrap (m.Rows * m.Cols)))) && (!r_3))) (resAt_tmp rfl) ⟨rfl, (hS4.sN [])⟩

theorem c_impl_Matrix_at (m : TMatrix) (i : Int) (j : Int) (B : Option Addr) (c n : Nat) (w0 : World) (hn : m.Cells.length = n) (hS : ST w0 [] w0 [] [⟨B, (m.Cells.flatMap enc_Dyadic)⟩]) {r_ : TDyadic} (hF : F_impl_Matrix_at m i j = some r_) :
  CV Tryz.prog 233 #[.agg #[vi m.Rows, vi m.Cols, .slice B n c], vi i, vi j] w0 (fun v w' => v = (gD_ r_) ∧ ST w0 [] w' [] []) := by
 subst hn
 unfold F_impl_Matrix_at at hF
 refine cv_of_cw 17 Tryz.func233 rfl Tryz.ntmps233 rfl ?_
 refine cq (cr ?_)
 refine sS 3 (yB 81 (gM_ m B c) (kM_ m B c) 3 hS) ?_
 rintro _ w_ ⟨b, rfl, hS1⟩
 refine sS 6 (yN kZ_ 5 hS1 K15) ?_
 rintro _ w_1 ⟨b1, rfl, hS2⟩
 refine rn (cq (cr ?_))
 refine sQ 7 (yd (aD b) 0 0 K53 K48) <| sQ 8 (yl (aD b) 2 (kM_ m B c) (.slice B m.Cells.length c) K55 (hS2.c 0)) <| sQ 9 (ym (vi i)) <| sQ 10 (yd (aD b) 0 0 K64 K0) <| sQ 11 (yl (aD b) 1 (kM_ m B c) (vi m.Cols) K1 (hS2.c 0)) <| sQ 12 (yX i m.Cols) ?_
 refine sQ 13 (ym (vi j)) <| sQ 14 (yP (i64.wrap (i * m.Cols)) j) ?_
 obtain ⟨x, hx, hF⟩ := bI hF
 refine sQ 15 (Y_index (B := B) (m := m.Cells.length) (c := c) (k := .i64) (i := (i64.wrap ((i64.wrap (i * m.Cols)) + j))) K49 K4 rfl rfl rfl (gi_isSome enc_Dyadic_len rfl (hS2.rf (i := 0) rfl) hx) (getI_nn hx) (getI_ltI hx rfl)) <| sQ 16 (ya B ((i64.wrap ((i64.wrap (i * m.Cols)) + j)).toNat * 5) (m.Cells.flatMap enc_Dyadic) (kD_ x) K10 K4 (hS2.rf (i := 0) rfl) rfl rfl (enc_Dyadic_len x) (gi_seg enc_Dyadic_len hx)) ?_
 refine s0 (yT 1 5 (aD b1) 90 (gD_ x) (kD_ x) 0 hS2 K4) ?_
 rintro _ w_2 ⟨rfl, hS3⟩
 refine rn (ct_ ?_)
 obtain rfl := sI hF
 exact ret1 Tryz.results233 (v1 := gD_ x) (resAt_cellA (B := aD b1) (i := 0) (cs := kD_ x) (vs := kD_ x) rfl K10 K4 (hS3.c 1) rfl rfl) ⟨rfl, (hS3.sN [])⟩

theorem c_impl_ringIf (out : TRing) (args : List TRing) (B : Option Addr) (c n : Nat) (w0 : World) (hn : args.length = n) (hS : ST w0 (bl [⟨B, 88, (args.flatMap enc_Ring), c * 4⟩]) w0 [⟨B, 88, (args.flatMap enc_Ring), c * 4⟩] []) {r_ : TRing} {r_1 : Bool} (hF : F_impl_ringIf out args = some (r_, r_1)) :
  CV Tryz.prog 323 #[gR_ out, .slice B n c] w0 (fun v w' => v = .tuple #[gR_ r_, .bool r_1] ∧ ST w0 (bl [⟨B, 88, (args.flatMap enc_Ring), c * 4⟩]) w' [] []) := by
 subst hn
 unfold F_impl_ringIf at hF
 refine cv_of_cw 23 Tryz.func323 rfl Tryz.ntmps323 rfl ?_
 refine cq (cr ?_)
 refine sS 2 (yB 88 (gR_ out) (kR_ out) 4 hS) ?_
 rintro _ w_ ⟨b, rfl, hS1⟩
 refine sS 4 (yN [vi 0, vi 0, vi 0, vi 0] 4 hS1 K25) ?_
 rintro _ w_1 ⟨b1, rfl, hS2⟩
 refine sQ 5 (yg (.bool false)) (rn (cq (cq (cr ?_))))
 refine sQ 8 (ym (.slice B args.length c)) <| sQ 9 (yb (aD b) 0 (kR_ out) K12 K6 (hS2.c 1)) ?_
 refine sS 10 (Ys_bslice (s := 4) (len := 1) (vs := [(0, gR_ out)]) (cs := kR_ out) (zs := [vi 0, vi 0, vi 0, vi 0]) (m := 4) hS2 K69 K6 K91 rfl (mpc rfl mpn) rfl rfl rfl (by kernel_rfl) (by kernel_rfl) rfl) ?_
 rintro _ w_2 ⟨b2, rfl, hS3⟩
 obtain ⟨hap, hF⟩ := chk_inv hF
 refine sS 11 (Ys_append (s := 4) (by' := 32) (i := 0) (nn := args.length) (c := c) (k := 1) (len := (args ++ [out]).length) (B := B) (xs := ([out].flatMap enc_Ring)) (cs' := ((args ++ [out]).flatMap enc_Ring)) hS3 K69 K6 k_by_88_32 K25 rfl (by decide) rfl rfl rfl rfl (fm_lenn (l := args) enc_Ring_len rfl) rfl (hS3.c 3) (fm_lenn (l := [out]) enc_Ring_len rfl) (fm_one' (enc := enc_Ring) enc_Ring_one [out]) (by have := hap; omega) (by have := hap; simp only [maxLen]; omega) (fm_app _ _) (app_len (l := args) (l' := [out]) rfl rfl)) ?_
 rintro _ w_3 ⟨B1, c1, rfl, hS4⟩
 refine sQ 12 (Y_len (B := B1) (m := (args ++ [out]).length) (c := c1) K69 rfl rfl) <| sQ 13 (ym (vi 0)) (rn ?_)
 obtain ⟨hN, hF⟩ := chk_inv hF
 obtain ⟨z, hz, hF1⟩ := bI hF
 refine cw_block ?_
 refine cw_loop (fun k f w => ∃ (i : Nat), FF f [(2, pt (aD b) 0), (4, pt (aD b1) 0), (11, .slice B1 ((args ++ [out]).length) c1), (12, vi ((args ++ [out]).length : Int)), (13, vi (i : Int))] ∧ ST w0 (bl [⟨B, 88, (args.flatMap enc_Ring), c * 4⟩]) w [⟨aD b, 88, kR_ out, 4⟩, ⟨aD b1, 88, [vi 0, vi 0, vi 0, vi 0], 4⟩, ⟨B1, 88, ((args ++ [out]).flatMap enc_Ring), c1 * 4⟩] [] ∧ i + k = (args ++ [out]).length ∧ forX (F_impl_ringIf_l1 args out) k i () = some z) ((args ++ [out]).length) ⟨0, (fc rfl (fc rfl (fc rfl (fc rfl (fc rfl fn_))))), (hS4.sel [1, 2, 0] rfl rfl), Nat.zero_add _, hz⟩ ?_
 rintro k_ f w ⟨i, hf, hS5, hik, hL⟩
 refine cq (cr ?_)
 refine sQ 14 (yL (i : Int) ((args ++ [out]).length : Int) rfl (hf.g 13 4) (hf.g 12 3)) (rn (cq ?_))
 refine cw_cond (b := (decide ((i : Int) < ((args ++ [out]).length : Int)))) rfl (fun hlt => ?_) (fun hlt => ?_)
 ·skip
  have hlt1 : i < (args ++ [out]).length := by have h := of_decide_eq_true hlt; omega
  obtain ⟨K7, rfl⟩ : ∃ k2, k_ = k2 + 1 := ⟨k_ - 1, by omega⟩
  obtain ⟨y, hb, hL1⟩ := forX_go hL
  unfold F_impl_ringIf_l1 at hb
  refine cw_skip (cq (cw_block (cq (cr ?_))))
  obtain ⟨x, hx, hb⟩ := bI hb
  refine sQ 15 (Y_index (B := B1) (m := (args ++ [out]).length) (c := c1) (k := .i64) (i := (i : Int)) K69 K6 rfl (hf.g 11 2) (hf.g 13 4) (gi_isSome enc_Ring_len rfl (hS5.c 2) hx) (getI_nn hx) (getI_ltI hx rfl)) <| sQ 16 (ya B1 ((i : Int).toNat * 4) ((args ++ [out]).flatMap enc_Ring) (kR_ x) K12 K6 (hS5.c 2) rfl rfl (enc_Ring_len x) (gi_seg enc_Ring_len hx)) ?_
  refine sS 7 (yN [vi 0, vi 0, vi 0, vi 0] 4 hS5 K25) ?_
  rintro _ w_4 ⟨b3, rfl, hS6⟩
  refine s0 (yT 3 4 (aD b3) 88 (gR_ x) (kR_ x) 0 hS6 K6) ?_
  rintro _ w_5 ⟨rfl, hS7⟩
  refine rn (cq (cr ?_))
  refine sQ 17 (yb (aD b3) 0 (kR_ x) K12 K6 (hS7.c 3)) ?_
  obtain ⟨r_2, hc, hb⟩ := bI hb
  refine sc 18 rfl rfl (yC [gR_ x] K88 (c_impl_IsValidRing x _  (hS7.inn0 [] rfl) hc)) ?_
  rintro _ w_6 ⟨rfl, hd⟩
  have hS8 := hS7.out00 hd
  refine sQ 19 (Y_not (p := r_2) rfl rfl) (rn ?_)
  refine cw_cond (b := (!r_2)) rfl (fun hb1 => ?_) (fun hb1 => ?_)
  ·skip
   have hF2 := ct hb hb1
   refine cq (cr ?_)
   refine sQ 20 (Y_buildS (zs := [vi 0, vi 0, vi 0, vi 0]) (vs := []) (cs := [vi 0, vi 0, vi 0, vi 0]) K56 K25 rfl mpn rfl) ?_
   refine s0 (yT 1 4 (aD b1) 88 (.agg #[vi 0, vi 0, vi 0, vi 0]) [vi 0, vi 0, vi 0, vi 0] 0 hS8 K6 rfl (hf.g 4 1)) ?_
   rintro _ w_7 ⟨rfl, hS9⟩
   refine sQ 5 (yg (.bool false)) (rn (ct_ ?_))
   obtain rfl := sI hF2
   obtain rfl := sI hL1
   obtain ⟨rfl, rfl⟩ := pr2 (sI hF1)
   exact ret2 Tryz.results323 (v1 := .agg #[vi 0, vi 0, vi 0, vi 0]) (resAt_cellA (B := aD b1) (i := 0) (cs := [vi 0, vi 0, vi 0, vi 0]) (vs := [vi 0, vi 0, vi 0, vi 0]) (hf.g 4 1) K12 K6 (hS9.c 1) rfl rfl) (v2 := .bool false) (resAt_tmp rfl) ⟨rfl, (hS9.sN [])⟩
  ·skip
   have hF3 := cf' hb hb1
   refine cw_skip (cr ?_)
   refine sQ 21 (yP (i : Int) 1 rfl (hf.g 13 4)) <| sQ 13 (ym (vi (i64.wrap ((i : Int) + 1)))) (rn ?_)
   obtain rfl := sI hF3
   exact ⟨K7, Nat.lt_succ_self _, i + 1, (fc (hf.g 2 0) (fc (hf.g 4 1) (fc (hf.g 11 2) (fc (hf.g 12 3) (fc (congrArg (Value.int .i64) (wr_succ hlt1 hN)) fn_))))), (hS8.sel [0, 1, 2] rfl rfl), (by omega), hL1⟩
 ·skip
  obtain rfl : k_ = 0 := by have h := of_decide_eq_false hlt; omega
  refine cw_exit rfl ?_
  obtain rfl := sI hL
  refine cq (cr ?_)
  refine sQ 22 (yb (aD b) 0 (kR_ out) K12 K6 (hS5.c 0) rfl (hf.g 2 0)) ?_
  refine s0 (yT 1 4 (aD b1) 88 (gR_ out) (kR_ out) 0 hS5 K6 rfl (hf.g 4 1)) ?_
  rintro _ w_8 ⟨rfl, hS10⟩
  refine sQ 5 (yg (.bool true)) (rn (ct_ ?_))
  obtain ⟨rfl, rfl⟩ := pr2 (sI hF1)
  exact ret2 Tryz.results323 (v1 := gR_ out) (resAt_cellA (B := aD b1) (i := 0) (cs := kR_ out) (vs := kR_ out) (hf.g 4 1) K12 K6 (hS10.c 1) rfl rfl) (v2 := .bool true) (resAt_tmp rfl) ⟨rfl, (hS10.sN [])⟩

theorem c_impl_MulRing (x : TRing) (y : TRing)  (w0 : World)  (hS : ST w0 [] w0 [] []) {r_ : TRing} {r_1 : Bool} (hF : F_impl_MulRing x y = some (r_, r_1)) :
  CV Tryz.prog 310 #[gR_ x, gR_ y] w0 (fun v w' => v = .tuple #[gR_ r_, .bool r_1] ∧ ST w0 [] w' [] []) := by
 unfold F_impl_MulRing at hF
 refine cv_of_cw 105 Tryz.func310 rfl Tryz.ntmps310 rfl ?_
 refine cq (cr ?_)
 refine sS 2 (yB 88 (gR_ x) (kR_ x) 4 hS) ?_
 rintro _ w_ ⟨b, rfl, hS1⟩
 refine sS 3 (yB 88 (gR_ y) (kR_ y) 4 hS1) ?_
 rintro _ w_1 ⟨b1, rfl, hS2⟩
 refine sS 4 (yN [vi 0, vi 0, vi 0, vi 0] 4 hS2 K25) ?_
 rintro _ w_2 ⟨b2, rfl, hS3⟩
 refine sQ 5 (yg (.bool false)) (rn (cq (cr ?_)))
 refine sQ 6 (yd (aD b) 0 0 K39 K0) <| sQ 7 (yl (aD b) 0 (kR_ x) (vi x.A) K1 (hS3.c 0)) <| sQ 8 (yd (aD b1) 0 0 K39 K0) <| sQ 9 (yl (aD b1) 0 (kR_ y) (vi y.A) K1 (hS3.c 1)) <| sQ 10 (yX x.A y.A) <| sQ 11 (yd (aD b) 0 0 K42 K0) ?_
 refine sQ 12 (yl (aD b) 1 (kR_ x) (vi x.B) K1 (hS3.c 0)) <| sQ 13 (yd (aD b1) 0 0 K44 K0) <| sQ 14 (yl (aD b1) 3 (kR_ y) (vi y.D) K1 (hS3.c 1)) <| sQ 15 (yX x.B y.D) <| sQ 16 (yM (i64.wrap (x.A * y.A)) (i64.wrap (x.B * y.D))) <| sQ 17 (yd (aD b) 0 0 K43 K0) ?_
 refine sQ 18 (yl (aD b) 2 (kR_ x) (vi x.C) K1 (hS3.c 0)) <| sQ 19 (yd (aD b1) 0 0 K43 K0) <| sQ 20 (yl (aD b1) 2 (kR_ y) (vi y.C) K1 (hS3.c 1)) <| sQ 21 (yX x.C y.C) <| sQ 22 (yM (i64.wrap ((i64.wrap (x.A * y.A)) - (i64.wrap (x.B * y.D)))) (i64.wrap (x.C * y.C))) <| sQ 23 (yd (aD b) 0 0 K44 K0) ?_
 refine sQ 24 (yl (aD b) 3 (kR_ x) (vi x.D) K1 (hS3.c 0)) <| sQ 25 (yd (aD b1) 0 0 K42 K0) <| sQ 26 (yl (aD b1) 1 (kR_ y) (vi y.B) K1 (hS3.c 1)) <| sQ 27 (yX x.D y.B) <| sQ 28 (yM (i64.wrap ((i64.wrap ((i64.wrap (x.A * y.A)) - (i64.wrap (x.B * y.D)))) - (i64.wrap (x.C * y.C)))) (i64.wrap (x.D * y.B))) <| sQ 29 (yd (aD b) 0 0 K39 K0) ?_
 refine sQ 30 (yl (aD b) 0 (kR_ x) (vi x.A) K1 (hS3.c 0)) <| sQ 31 (yd (aD b1) 0 0 K42 K0) <| sQ 32 (yl (aD b1) 1 (kR_ y) (vi y.B) K1 (hS3.c 1)) <| sQ 33 (yX x.A y.B) <| sQ 34 (yd (aD b) 0 0 K42 K0) <| sQ 35 (yl (aD b) 1 (kR_ x) (vi x.B) K1 (hS3.c 0)) ?_
 refine sQ 36 (yd (aD b1) 0 0 K39 K0) <| sQ 37 (yl (aD b1) 0 (kR_ y) (vi y.A) K1 (hS3.c 1)) <| sQ 38 (yX x.B y.A) <| sQ 39 (yP (i64.wrap (x.A * y.B)) (i64.wrap (x.B * y.A))) <| sQ 40 (yd (aD b) 0 0 K43 K0) <| sQ 41 (yl (aD b) 2 (kR_ x) (vi x.C) K1 (hS3.c 0)) ?_
 refine sQ 42 (yd (aD b1) 0 0 K44 K0) <| sQ 43 (yl (aD b1) 3 (kR_ y) (vi y.D) K1 (hS3.c 1)) <| sQ 44 (yX x.C y.D) <| sQ 45 (yM (i64.wrap ((i64.wrap (x.A * y.B)) + (i64.wrap (x.B * y.A)))) (i64.wrap (x.C * y.D))) <| sQ 46 (yd (aD b) 0 0 K44 K0) <| sQ 47 (yl (aD b) 3 (kR_ x) (vi x.D) K1 (hS3.c 0)) ?_
 refine sQ 48 (yd (aD b1) 0 0 K43 K0) <| sQ 49 (yl (aD b1) 2 (kR_ y) (vi y.C) K1 (hS3.c 1)) <| sQ 50 (yX x.D y.C) <| sQ 51 (yM (i64.wrap ((i64.wrap ((i64.wrap (x.A * y.B)) + (i64.wrap (x.B * y.A)))) - (i64.wrap (x.C * y.D)))) (i64.wrap (x.D * y.C))) <| sQ 52 (yd (aD b) 0 0 K39 K0) <| sQ 53 (yl (aD b) 0 (kR_ x) (vi x.A) K1 (hS3.c 0)) ?_
 refine sQ 54 (yd (aD b1) 0 0 K43 K0) <| sQ 55 (yl (aD b1) 2 (kR_ y) (vi y.C) K1 (hS3.c 1)) <| sQ 56 (yX x.A y.C) <| sQ 57 (yd (aD b) 0 0 K42 K0) <| sQ 58 (yl (aD b) 1 (kR_ x) (vi x.B) K1 (hS3.c 0)) <| sQ 59 (yd (aD b1) 0 0 K42 K0) ?_
 refine sQ 60 (yl (aD b1) 1 (kR_ y) (vi y.B) K1 (hS3.c 1)) <| sQ 61 (yX x.B y.B) <| sQ 62 (yP (i64.wrap (x.A * y.C)) (i64.wrap (x.B * y.B))) <| sQ 63 (yd (aD b) 0 0 K43 K0) <| sQ 64 (yl (aD b) 2 (kR_ x) (vi x.C) K1 (hS3.c 0)) <| sQ 65 (yd (aD b1) 0 0 K39 K0) ?_
 refine sQ 66 (yl (aD b1) 0 (kR_ y) (vi y.A) K1 (hS3.c 1)) <| sQ 67 (yX x.C y.A) <| sQ 68 (yP (i64.wrap ((i64.wrap (x.A * y.C)) + (i64.wrap (x.B * y.B)))) (i64.wrap (x.C * y.A))) <| sQ 69 (yd (aD b) 0 0 K44 K0) <| sQ 70 (yl (aD b) 3 (kR_ x) (vi x.D) K1 (hS3.c 0)) <| sQ 71 (yd (aD b1) 0 0 K44 K0) ?_
 refine sQ 72 (yl (aD b1) 3 (kR_ y) (vi y.D) K1 (hS3.c 1)) <| sQ 73 (yX x.D y.D) <| sQ 74 (yM (i64.wrap ((i64.wrap ((i64.wrap (x.A * y.C)) + (i64.wrap (x.B * y.B)))) + (i64.wrap (x.C * y.A)))) (i64.wrap (x.D * y.D))) <| sQ 75 (yd (aD b) 0 0 K39 K0) <| sQ 76 (yl (aD b) 0 (kR_ x) (vi x.A) K1 (hS3.c 0)) <| sQ 77 (yd (aD b1) 0 0 K44 K0) ?_
 refine sQ 78 (yl (aD b1) 3 (kR_ y) (vi y.D) K1 (hS3.c 1)) <| sQ 79 (yX x.A y.D) <| sQ 80 (yd (aD b) 0 0 K42 K0) <| sQ 81 (yl (aD b) 1 (kR_ x) (vi x.B) K1 (hS3.c 0)) <| sQ 82 (yd (aD b1) 0 0 K43 K0) <| sQ 83 (yl (aD b1) 2 (kR_ y) (vi y.C) K1 (hS3.c 1)) ?_
 refine sQ 84 (yX x.B y.C) <| sQ 85 (yP (i64.wrap (x.A * y.D)) (i64.wrap (x.B * y.C))) <| sQ 86 (yd (aD b) 0 0 K43 K0) <| sQ 87 (yl (aD b) 2 (kR_ x) (vi x.C) K1 (hS3.c 0)) <| sQ 88 (yd (aD b1) 0 0 K42 K0) <| sQ 89 (yl (aD b1) 1 (kR_ y) (vi y.B) K1 (hS3.c 1)) ?_
 refine sQ 90 (yX x.C y.B) <| sQ 91 (yP (i64.wrap ((i64.wrap (x.A * y.D)) + (i64.wrap (x.B * y.C)))) (i64.wrap (x.C * y.B))) <| sQ 92 (yd (aD b) 0 0 K44 K0) <| sQ 93 (yl (aD b) 3 (kR_ x) (vi x.D) K1 (hS3.c 0)) <| sQ 94 (yd (aD b1) 0 0 K39 K0) <| sQ 95 (yl (aD b1) 0 (kR_ y) (vi y.A) K1 (hS3.c 1)) ?_
 refine sQ 96 (yX x.D y.A) <| sQ 97 (yP (i64.wrap ((i64.wrap ((i64.wrap (x.A * y.D)) + (i64.wrap (x.B * y.C)))) + (i64.wrap (x.C * y.B)))) (i64.wrap (x.D * y.A))) <| sQ 98 (Y_buildS (zs := [vi 0, vi 0, vi 0, vi 0]) (vs := [(0, vi (i64.wrap ((i64.wrap ((i64.wrap ((i64.wrap (x.A * y.A)) - (i64.wrap (x.B * y.D)))) - (i64.wrap (x.C * y.C)))) - (i64.wrap (x.D * y.B))))), (1, vi (i64.wrap ((i64.wrap ((i64.wrap ((i64.wrap (x.A * y.B)) + (i64.wrap (x.B * y.A)))) - (i64.wrap (x.C * y.D)))) - (i64.wrap (x.D * y.C))))), (2, vi (i64.wrap ((i64.wrap ((i64.wrap ((i64.wrap (x.A * y.C)) + (i64.wrap (x.B * y.B)))) + (i64.wrap (x.C * y.A)))) - (i64.wrap (x.D * y.D))))), (3, vi (i64.wrap ((i64.wrap ((i64.wrap ((i64.wrap (x.A * y.D)) + (i64.wrap (x.B * y.C)))) + (i64.wrap (x.C * y.B)))) + (i64.wrap (x.D * y.A)))))]) (cs := [vi (i64.wrap ((i64.wrap ((i64.wrap ((i64.wrap (x.A * y.A)) - (i64.wrap (x.B * y.D)))) - (i64.wrap (x.C * y.C)))) - (i64.wrap (x.D * y.B)))), vi (i64.wrap ((i64.wrap ((i64.wrap ((i64.wrap (x.A * y.B)) + (i64.wrap (x.B * y.A)))) - (i64.wrap (x.C * y.D)))) - (i64.wrap (x.D * y.C)))), vi (i64.wrap ((i64.wrap ((i64.wrap ((i64.wrap (x.A * y.C)) + (i64.wrap (x.B * y.B)))) + (i64.wrap (x.C * y.A)))) - (i64.wrap (x.D * y.D)))), vi (i64.wrap ((i64.wrap ((i64.wrap ((i64.wrap (x.A * y.D)) + (i64.wrap (x.B * y.C)))) + (i64.wrap (x.C * y.B)))) + (i64.wrap (x.D * y.A))))]) K56 K25 rfl (mpc rfl (mpc rfl (mpc rfl (mpc rfl mpn)))) rfl) <| sQ 99 (yb (aD b) 0 (kR_ x) K12 K6 (hS3.c 0)) <| sQ 100 (yb (aD b1) 0 (kR_ y) K12 K6 (hS3.c 1)) ?_
 refine sS 101 (Ys_bslice (s := 4) (len := 2) (vs := [(0, gR_ x), (1, gR_ y)]) (cs := [vi x.A, vi x.B, vi x.C, vi x.D, vi y.A, vi y.B, vi y.C, vi y.D]) (zs := [vi 0, vi 0, vi 0, vi 0, vi 0, vi 0, vi 0, vi 0]) (m := 8) hS3 K69 K6 K91 rfl (mpc rfl (mpc rfl mpn)) rfl rfl rfl (by kernel_rfl) (by kernel_rfl) rfl) ?_
 rintro _ w_3 ⟨b3, rfl, hS4⟩
 obtain ⟨⟨r_2, r_3⟩, hc, hF⟩ := bI hF
 refine sc 102 rfl rfl (yC [.agg #[vi (i64.wrap ((i64.wrap ((i64.wrap ((i64.wrap (x.A * y.A)) - (i64.wrap (x.B * y.D)))) - (i64.wrap (x.C * y.C)))) - (i64.wrap (x.D * y.B)))), vi (i64.wrap ((i64.wrap ((i64.wrap ((i64.wrap (x.A * y.B)) + (i64.wrap (x.B * y.A)))) - (i64.wrap (x.C * y.D)))) - (i64.wrap (x.D * y.C)))), vi (i64.wrap ((i64.wrap ((i64.wrap ((i64.wrap (x.A * y.C)) + (i64.wrap (x.B * y.B)))) + (i64.wrap (x.C * y.A)))) - (i64.wrap (x.D * y.D)))), vi (i64.wrap ((i64.wrap ((i64.wrap ((i64.wrap (x.A * y.D)) + (i64.wrap (x.B * y.C)))) + (i64.wrap (x.C * y.B)))) + (i64.wrap (x.D * y.A))))], .slice (aD b3) 2 2] K109 (c_impl_ringIf (TRing.mk (i64.wrap ((i64.wrap ((i64.wrap ((i64.wrap (x.A * y.A)) - (i64.wrap (x.B * y.D)))) - (i64.wrap (x.C * y.C)))) - (i64.wrap (x.D * y.B)))) (i64.wrap ((i64.wrap ((i64.wrap ((i64.wrap (x.A * y.B)) + (i64.wrap (x.B * y.A)))) - (i64.wrap (x.C * y.D)))) - (i64.wrap (x.D * y.C)))) (i64.wrap ((i64.wrap ((i64.wrap ((i64.wrap (x.A * y.C)) + (i64.wrap (x.B * y.B)))) + (i64.wrap (x.C * y.A)))) - (i64.wrap (x.D * y.D)))) (i64.wrap ((i64.wrap ((i64.wrap ((i64.wrap (x.A * y.D)) + (i64.wrap (x.B * y.C)))) + (i64.wrap (x.C * y.B)))) + (i64.wrap (x.D * y.A))))) [x, y] (aD b3) 2 2 _ rfl (hS4.inn [false, false, false, true] rfl [] rfl) hc)) ?_
 rintro _ w_4 ⟨rfl, hd⟩
 have hS5 := hS4.out [false, false, false, true] rfl hd
 refine sQ 103 (ye (gR_ r_2)) <| sQ 104 (ye (.bool r_3)) ?_
 refine s0 (yT 2 4 (aD b2) 88 (gR_ r_2) (kR_ r_2) 0 hS5 K6) ?_
 rintro _ w_5 ⟨rfl, hS6⟩
 refine sQ 5 (yg (.bool r_3)) (rn (ct_ ?_))
 obtain ⟨rfl, rfl⟩ := pr2 (sI hF)
 exact ret2 Tryz.results310 (v1 := gR_ r_2) (resAt_cellA (B := aD b2) (i := 0) (cs := kR_ r_2) (vs := kR_ r_2) rfl K12 K6 (hS6.c 2) rfl rfl) (v2 := .bool r_3) (resAt_tmp rfl) ⟨rfl, (hS6.sN [])⟩

theorem c_impl_DivRootTwo (x : TRing)  (w0 : World)  (hS : ST w0 [] w0 [] []) {r_ : TRing} {r_1 : Bool} (hF : F_impl_DivRootTwo x = some (r_, r_1)) :
  CV Tryz.prog 324 #[gR_ x] w0 (fun v w' => v = .tuple #[gR_ r_, .bool r_1] ∧ ST w0 [] w' [] []) := by
 unfold F_impl_DivRootTwo at hF
 refine cv_of_cw 43 Tryz.func324 rfl Tryz.ntmps324 rfl ?_
 refine cq (cr ?_)
 refine sS 1 (yB 88 (gR_ x) (kR_ x) 4 hS) ?_
 rintro _ w_ ⟨b, rfl, hS1⟩
 refine sS 2 (yN [vi 0, vi 0, vi 0, vi 0] 4 hS1 K25) ?_
 rintro _ w_1 ⟨b1, rfl, hS2⟩
 refine sQ 3 (yg (.bool false)) (rn (cq (cq (cr ?_))))
 refine sQ 4 (yb (aD b) 0 (kR_ x) K12 K6 (hS2.c 0)) ?_
 obtain ⟨r_2, hc, hF⟩ := bI hF
 refine sc 5 rfl rfl (yC [gR_ x] K88 (c_impl_IsValidRing x _  (hS2.inn0 [] rfl) hc)) ?_
 rintro _ w_2 ⟨rfl, hd⟩
 have hS3 := hS2.out00 hd
 refine sQ 6 (Y_not (p := r_2) rfl rfl) <| sQ 7 (ym (.bool (!r_2))) ?_
 refine sgq 8 (B := (!(!r_2))) (v := gR_ x) rfl rfl (uF_ 7) (fun hg => (yb (aD b) 0 (kR_ x) K12 K6 (hS3.c 0))) ?_
 obtain ⟨r_3, hc1, hF⟩ := bI hF
 refine sgc 9 (B := (!(!r_2))) (v := .bool r_3) (F := hS3.fn) rfl rfl (uF_ 7) hS3 (fun hg1 => (yC [gR_ x] K118 (CV.mono (c_impl_isEven x _  (hS3.inn0 [] rfl) (gb_inv hc1 hg1)) (by rintro _ _ ⟨rfl, h⟩; exact ⟨rfl, hS3.out00 h⟩)) rfl (mc (gv_of (v := gR_ x) hg1) mn))) ?_
 rintro w_3 hS4
 refine sgq 10 (B := (!(!r_2))) (v := .bool (!r_3)) rfl rfl (uF_ 7) (fun hg2 => (Y_not (p := r_3) rfl (gv_of (v := .bool r_3) hg2))) ?_
 refine sQ 11 (Y_or (b := (!r_2)) (z := (!r_3)) rfl rfl rfl rfl) (rn ?_)
 refine cw_cond (b := ((!r_2) || (!r_3))) rfl (fun hb => ?_) (fun hb => ?_)
 ·skip
  have hF1 := ct hF hb
  refine cq (cr ?_)
  refine sQ 12 (Y_buildS (zs := [vi 0, vi 0, vi 0, vi 0]) (vs := []) (cs := [vi 0, vi 0, vi 0, vi 0]) K56 K25 rfl mpn rfl) ?_
  refine s0 (yT 1 4 (aD b1) 88 (.agg #[vi 0, vi 0, vi 0, vi 0]) [vi 0, vi 0, vi 0, vi 0] 0 hS4 K6) ?_
  rintro _ w_4 ⟨rfl, hS5⟩
  refine sQ 3 (yg (.bool false)) (rn (ct_ ?_))
  obtain ⟨rfl, rfl⟩ := pr2 (sI hF1)
  exact ret2 Tryz.results324 (v1 := .agg #[vi 0, vi 0, vi 0, vi 0]) (resAt_cellA (B := aD b1) (i := 0) (cs := [vi 0, vi 0, vi 0, vi 0]) (vs := [vi 0, vi 0, vi 0, vi 0]) rfl K12 K6 (hS5.c 1) rfl rfl) (v2 := .bool false) (resAt_tmp rfl) ⟨rfl, (hS5.sN [])⟩
 ·skip
  have hF2 := cf' hF hb
  refine cw_skip (cq (cr ?_))
  refine sQ 13 (yd (aD b) 0 0 K42 K0) <| sQ 14 (yl (aD b) 1 (kR_ x) (vi x.B) K1 (hS4.c 0)) <| sQ 15 (yd (aD b) 0 0 K44 K0) <| sQ 16 (yl (aD b) 3 (kR_ x) (vi x.D) K1 (hS4.c 0)) <| sQ 17 (yM x.B x.D) <| sQ 18 (Y_quo (k := .i64) (a := (i64.wrap (x.B - x.D))) (b := 2) rfl rfl rfl (by decide)) ?_
  refine sQ 19 (yd (aD b) 0 0 K39 K0) <| sQ 20 (yl (aD b) 0 (kR_ x) (vi x.A) K1 (hS4.c 0)) <| sQ 21 (yd (aD b) 0 0 K43 K0) <| sQ 22 (yl (aD b) 2 (kR_ x) (vi x.C) K1 (hS4.c 0)) <| sQ 23 (yP x.A x.C) <| sQ 24 (Y_quo (k := .i64) (a := (i64.wrap (x.A + x.C))) (b := 2) rfl rfl rfl (by decide)) ?_
  refine sQ 25 (yd (aD b) 0 0 K42 K0) <| sQ 26 (yl (aD b) 1 (kR_ x) (vi x.B) K1 (hS4.c 0)) <| sQ 27 (yd (aD b) 0 0 K44 K0) <| sQ 28 (yl (aD b) 3 (kR_ x) (vi x.D) K1 (hS4.c 0)) <| sQ 29 (yP x.B x.D) <| sQ 30 (Y_quo (k := .i64) (a := (i64.wrap (x.B + x.D))) (b := 2) rfl rfl rfl (by decide)) ?_
  refine sQ 31 (yd (aD b) 0 0 K43 K0) <| sQ 32 (yl (aD b) 2 (kR_ x) (vi x.C) K1 (hS4.c 0)) <| sQ 33 (yd (aD b) 0 0 K39 K0) <| sQ 34 (yl (aD b) 0 (kR_ x) (vi x.A) K1 (hS4.c 0)) <| sQ 35 (yM x.C x.A) <| sQ 36 (Y_quo (k := .i64) (a := (i64.wrap (x.C - x.A))) (b := 2) rfl rfl rfl (by decide)) ?_
  refine sQ 37 (Y_buildS (zs := [vi 0, vi 0, vi 0, vi 0]) (vs := [(0, vi (i64.wrap (Int.tdiv (i64.wrap (x.B - x.D)) 2))), (1, vi (i64.wrap (Int.tdiv (i64.wrap (x.A + x.C)) 2))), (2, vi (i64.wrap (Int.tdiv (i64.wrap (x.B + x.D)) 2))), (3, vi (i64.wrap (Int.tdiv (i64.wrap (x.C - x.A)) 2)))]) (cs := [vi (i64.wrap (Int.tdiv (i64.wrap (x.B - x.D)) 2)), vi (i64.wrap (Int.tdiv (i64.wrap (x.A + x.C)) 2)), vi (i64.wrap (Int.tdiv (i64.wrap (x.B + x.D)) 2)), vi (i64.wrap (Int.tdiv (i64.wrap (x.C - x.A)) 2))]) K56 K25 rfl (mpc rfl (mpc rfl (mpc rfl (mpc rfl mpn)))) rfl) <| sQ 38 (yb (aD b) 0 (kR_ x) K12 K6 (hS4.c 0)) ?_
  refine sS 39 (Ys_bslice (s := 4) (len := 1) (vs := [(0, gR_ x)]) (cs := kR_ x) (zs := [vi 0, vi 0, vi 0, vi 0]) (m := 4) hS4 K69 K6 K91 rfl (mpc rfl mpn) rfl rfl rfl (by kernel_rfl) (by kernel_rfl) rfl) ?_
  rintro _ w_5 ⟨b2, rfl, hS6⟩
  obtain ⟨⟨r_4, r_5⟩, hc2, hF2⟩ := bI hF2
  refine sc 40 rfl rfl (yC [.agg #[vi (i64.wrap (Int.tdiv (i64.wrap (x.B - x.D)) 2)), vi (i64.wrap (Int.tdiv (i64.wrap (x.A + x.C)) 2)), vi (i64.wrap (Int.tdiv (i64.wrap (x.B + x.D)) 2)), vi (i64.wrap (Int.tdiv (i64.wrap (x.C - x.A)) 2))], .slice (aD b2) 1 1] K109 (c_impl_ringIf (TRing.mk (i64.wrap (Int.tdiv (i64.wrap (x.B - x.D)) 2)) (i64.wrap (Int.tdiv (i64.wrap (x.A + x.C)) 2)) (i64.wrap (Int.tdiv (i64.wrap (x.B + x.D)) 2)) (i64.wrap (Int.tdiv (i64.wrap (x.C - x.A)) 2))) [x] (aD b2) 1 1 _ rfl (hS6.inn [false, false, true] rfl [] rfl) hc2)) ?_
  rintro _ w_6 ⟨rfl, hd1⟩
  have hS7 := hS6.out [false, false, true] rfl hd1
  refine sQ 41 (ye (gR_ r_4)) <| sQ 42 (ye (.bool r_5)) ?_
  refine s0 (yT 1 4 (aD b1) 88 (gR_ r_4) (kR_ r_4) 0 hS7 K6) ?_
  rintro _ w_7 ⟨rfl, hS8⟩
  refine sQ 3 (yg (.bool r_5)) (rn (ct_ ?_))
  obtain ⟨rfl, rfl⟩ := pr2 (sI hF2)
  exact ret2 Tryz.results324 (v1 := gR_ r_4) (resAt_cellA (B := aD b1) (i := 0) (cs := kR_ r_4) (vs := kR_ r_4) rfl K12 K6 (hS8.c 1) rfl rfl) (v2 := .bool r_5) (resAt_tmp rfl) ⟨rfl, (hS8.sN [])⟩

theorem c_impl_DyadicOf (num : TRing) (exp : Int)  (w0 : World)  (hS : ST w0 [] w0 [] []) {r_ : TDyadic} {r_1 : Bool} (hF : F_impl_DyadicOf num exp = some (r_, r_1)) :
  CV Tryz.prog 311 #[gR_ num, vi exp] w0 (fun v w' => v = .tuple #[gD_ r_, .bool r_1] ∧ ST w0 [] w' [] []) := by
 unfold F_impl_DyadicOf at hF
 refine cv_of_cw 31 Tryz.func311 rfl Tryz.ntmps311 rfl ?_
 refine cq (cr ?_)
 refine sS 2 (yB 88 (gR_ num) (kR_ num) 4 hS) ?_
 rintro _ w_ ⟨b, rfl, hS1⟩
 refine sS 4 (yN kZ_ 5 hS1 K15) ?_
 rintro _ w_1 ⟨b1, rfl, hS2⟩
 refine sQ 5 (yg (.bool false)) (rn (cq (cq (cr ?_))))
 refine sQ 6 (yb (aD b) 0 (kR_ num) K12 K6 (hS2.c 0)) ?_
 obtain ⟨r_2, hc, hF⟩ := bI hF
 refine sc 7 rfl rfl (yC [gR_ num] K88 (c_impl_IsValidRing num _  (hS2.inn0 [] rfl) hc)) ?_
 rintro _ w_2 ⟨rfl, hd⟩
 have hS3 := hS2.out00 hd
 refine sQ 8 (Y_not (p := r_2) rfl rfl) <| sQ 9 (ym (.bool (!r_2))) ?_
 refine sgq 10 (B := (!(!r_2))) (v := vi exp) rfl rfl (uF_ 9) (fun hg => (ym (vi exp))) ?_
 obtain ⟨r_3, hc1, hF⟩ := bI hF
 refine sgc 11 (B := (!(!r_2))) (v := .bool r_3) (F := hS3.fn) rfl rfl (uF_ 9) hS3 (fun hg1 => (yC [vi exp, vi 0, vi 60] K30 (CV.mono (c_impl_within exp 0 60 _  (hS3.inn0 [] rfl) (gb_inv hc1 hg1)) (by rintro _ _ ⟨rfl, h⟩; exact ⟨rfl, hS3.out00 h⟩)) rfl (mc (gv_of (v := vi exp) hg1) (mc rfl (mc rfl mn))))) ?_
 rintro w_3 hS4
 refine sgq 12 (B := (!(!r_2))) (v := .bool (!r_3)) rfl rfl (uF_ 9) (fun hg2 => (Y_not (p := r_3) rfl (gv_of (v := .bool r_3) hg2))) ?_
 refine sQ 13 (Y_or (b := (!r_2)) (z := (!r_3)) rfl rfl rfl rfl) (rn ?_)
 refine cw_cond (b := ((!r_2) || (!r_3))) rfl (fun hb => ?_) (fun hb => ?_)
 ·skip
  have hF1 := ct hF hb
  refine cq (cr ?_)
  refine sQ 14 (Y_buildS (zs := kZ_) (vs := []) (cs := kZ_) K50 K15 rfl mpn rfl) ?_
  refine s0 (yT 1 5 (aD b1) 90 gZ_ kZ_ 0 hS4 K4) ?_
  rintro _ w_4 ⟨rfl, hS5⟩
  refine sQ 5 (yg (.bool false)) (rn (ct_ ?_))
  obtain ⟨rfl, rfl⟩ := pr2 (sI hF1)
  exact ret2 Tryz.results311 (v1 := gZ_) (resAt_cellA (B := aD b1) (i := 0) (cs := kZ_) (vs := kZ_) rfl K10 K4 (hS5.c 1) rfl rfl) (v2 := .bool false) (resAt_tmp rfl) ⟨rfl, (hS5.sN [])⟩
 ·skip
  have hF2 := cf' hF hb
  refine cw_skip (cq ?_)
  obtain ⟨z, hz, hF3⟩ := bI hF2
  refine cw_block ?_
  refine cw_loop (fun k f w => ∃ (exp1 : Int) (A : Int) (B : Int) (C : Int) (D : Int), FF f [(1, vi exp1), (2, pt (aD b) 0), (4, pt (aD b1) 0)] ∧ ST w0 [] w [⟨aD b, 88, [vi A, vi B, vi C, vi D], 4⟩, ⟨aD b1, 90, kZ_, 5⟩] [] ∧ whX F_impl_DyadicOf_l1 k (exp1, A, B, C, D) = some z) fuel ⟨exp, num.A, num.B, num.C, num.D, (fc rfl (fc rfl (fc rfl fn_))), (hS4.sel [0, 1] rfl rfl), hz⟩ ?_
  rintro k_ f w ⟨exp1, A, B, C, D, hf, hS6, hL⟩
  obtain ⟨K7, y, rfl, hb1, hL1⟩ := whX_go hL
  unfold F_impl_DyadicOf_l1 at hb1
  refine cq (cq (cr ?_))
  refine sQ 15 (ym (vi exp1) rfl (hf.g 1 0)) <| sQ 16 (Y_gt (k := .i64) (a := exp1) (b := 0) rfl rfl rfl) <| sQ 17 (ym (.bool (decide (0 < exp1)))) ?_
  refine sgq 18 (B := (decide (0 < exp1))) (v := .agg #[vi A, vi B, vi C, vi D]) rfl rfl (uT_ 17) (fun hg3 => (yb (aD b) 0 [vi A, vi B, vi C, vi D] K12 K6 (hS6.c 0) rfl (hf.g 2 1))) ?_
  obtain ⟨r_4, hc2, hb1⟩ := bI hb1
  refine sgc 19 (B := (decide (0 < exp1))) (v := .bool r_4) (F := hS6.fn) rfl rfl (uT_ 17) hS6 (fun hg4 => (yC [.agg #[vi A, vi B, vi C, vi D]] K118 (CV.mono (c_impl_isEven (TRing.mk A B C D) _  (hS6.inn0 [] rfl) (gb_inv hc2 hg4)) (by rintro _ _ ⟨rfl, h⟩; exact ⟨rfl, hS6.out00 h⟩)) rfl (mc (gv_of (v := .agg #[vi A, vi B, vi C, vi D]) hg4) mn))) ?_
  rintro w_5 hS7
  refine sQ 20 (Y_and (b := (decide (0 < exp1))) (z := r_4) rfl rfl rfl rfl) (rn ?_)
  refine cw_cond (b := ((decide (0 < exp1)) && r_4)) rfl (fun hb2 => ?_) (fun hb2 => ?_)
  ·skip
   have hF4 := ct hb1 hb2
   refine cw_skip (cw_block (cq (cr ?_)))
   refine sQ 22 (yb (aD b) 0 [vi A, vi B, vi C, vi D] K12 K6 (hS7.c 0) rfl (hf.g 2 1)) ?_
   obtain ⟨⟨r_5, r_6⟩, hc3, hF4⟩ := bI hF4
   refine sc 23 rfl rfl (yC [.agg #[vi A, vi B, vi C, vi D]] k_call_324 (c_impl_DivRootTwo (TRing.mk A B C D) _  (hS7.inn0 [] rfl) hc3)) ?_
   rintro _ w_6 ⟨rfl, hd1⟩
   have hS8 := hS7.out00 hd1
   refine sQ 21 (ym (.tuple #[gR_ r_5, .bool r_6])) <| sQ 24 (ye (gR_ r_5)) <| sQ 25 (ye (.bool r_6)) ?_
   refine s0 (yT 0 4 (aD b) 88 (gR_ r_5) (kR_ r_5) 0 hS8 K6 rfl (hf.g 2 1)) ?_
   rintro _ w_7 ⟨rfl, hS9⟩
   refine rn (cr ?_)
   refine sQ 26 (ym (vi exp1) rfl (hf.g 1 0)) <| sQ 27 (yM exp1 1) <| sQ 1 (yg (vi (i64.wrap (exp1 - 1)))) (rn ?_)
   obtain rfl := sI hF4
   exact ⟨K7, Nat.lt_succ_self _, (i64.wrap (exp1 - 1)), r_5.A, r_5.B, r_5.C, r_5.D, (fc rfl (fc (hf.g 2 1) (fc (hf.g 4 2) fn_))), (hS9.sel [0, 1] rfl rfl), hL1⟩
  ·skip
   have hF5 := cf' hb1 hb2
   refine cw_exit rfl ?_
   obtain rfl := sI hF5
   obtain rfl := sI hL1
   refine cq (cr ?_)
   refine sQ 28 (yb (aD b) 0 [vi A, vi B, vi C, vi D] K12 K6 (hS7.c 0) rfl (hf.g 2 1)) <| sQ 29 (ym (vi exp1) rfl (hf.g 1 0)) <| sQ 30 (Y_buildS (zs := kZ_) (vs := [(0, .agg #[vi A, vi B, vi C, vi D]), (1, vi exp1)]) (cs := [vi A, vi B, vi C, vi D, vi exp1]) K50 K15 rfl (mpc rfl (mpc rfl mpn)) rfl) ?_
   refine s0 (yT 1 5 (aD b1) 90 (.agg #[vi A, vi B, vi C, vi D, vi exp1]) [vi A, vi B, vi C, vi D, vi exp1] 0 hS7 K4 rfl (hf.g 4 2)) ?_
   rintro _ w_8 ⟨rfl, hS10⟩
   refine sQ 5 (yg (.bool true)) (rn (ct_ ?_))
   obtain ⟨rfl, rfl⟩ := pr2 (sI hF3)
   exact ret2 Tryz.results311 (v1 := .agg #[vi A, vi B, vi C, vi D, vi exp1]) (resAt_cellA (B := aD b1) (i := 0) (cs := [vi A, vi B, vi C, vi D, vi exp1]) (vs := [vi A, vi B, vi C, vi D, vi exp1]) (hf.g 4 2) K10 K4 (hS10.c 1) rfl rfl) (v2 := .bool true) (resAt_tmp rfl) ⟨rfl, (hS10.sN [])⟩

theorem c_impl_MulDyadic (x : TDyadic) (y : TDyadic)  (w0 : World)  (hS : ST w0 [] w0 [] []) {r_ : TDyadic} {r_1 : Bool} (hF : F_impl_MulDyadic x y = some (r_, r_1)) :
  CV Tryz.prog 273 #[gD_ x, gD_ y] w0 (fun v w' => v = .tuple #[gD_ r_, .bool r_1] ∧ ST w0 [] w' [] []) := by
 unfold F_impl_MulDyadic at hF
 refine cv_of_cw 38 Tryz.func273 rfl Tryz.ntmps273 rfl ?_
 refine cq (cr ?_)
 refine sS 2 (yB 90 (gD_ x) (kD_ x) 5 hS) ?_
 rintro _ w_ ⟨b, rfl, hS1⟩
 refine sS 3 (yB 90 (gD_ y) (kD_ y) 5 hS1) ?_
 rintro _ w_1 ⟨b1, rfl, hS2⟩
 refine sS 4 (yN kZ_ 5 hS2 K15) ?_
 rintro _ w_2 ⟨b2, rfl, hS3⟩
 refine sQ 5 (yg (.bool false)) (rn (cq (cr ?_)))
 refine sQ 9 (yd (aD b) 0 3 K81 K6) <| sQ 10 (ya (aD b) 0 (kD_ x) (kR_ x.Num) K12 K6 (hS3.c 0)) <| sQ 11 (yd (aD b1) 0 3 K81 K6) <| sQ 12 (ya (aD b1) 0 (kD_ y) (kR_ y.Num) K12 K6 (hS3.c 1)) ?_
 obtain ⟨⟨r_2, r_3⟩, hc, hF⟩ := bI hF
 refine sc 13 rfl rfl (yC [gR_ x.Num, gR_ y.Num] k_call_310 (c_impl_MulRing x.Num y.Num _  (hS3.inn0 [] rfl) hc)) ?_
 rintro _ w_3 ⟨rfl, hd⟩
 have hS4 := hS3.out00 hd
 refine sQ 8 (ym (.tuple #[gR_ r_2, .bool r_3])) <| sQ 14 (ye (gR_ r_2)) <| sQ 15 (ye (.bool r_3)) ?_
 refine sS 6 (yN [vi 0, vi 0, vi 0, vi 0] 4 hS4 K25) ?_
 rintro _ w_4 ⟨b3, rfl, hS5⟩
 refine s0 (yT 3 4 (aD b3) 88 (gR_ r_2) (kR_ r_2) 0 hS5 K6) ?_
 rintro _ w_5 ⟨rfl, hS6⟩
 refine sQ 7 (yg (.bool r_3)) (rn (cq (cq (cr ?_))))
 refine sQ 16 (yb (aD b) 0 (kD_ x) K10 K4 (hS6.c 0)) ?_
 obtain ⟨r_4, hc1, hF⟩ := bI hF
 refine sc 17 rfl rfl (yC [gD_ x] K90 (c_impl_IsValidDyadic x _  (hS6.inn0 [] rfl) hc1)) ?_
 rintro _ w_6 ⟨rfl, hd1⟩
 have hS7 := hS6.out00 hd1
 refine sQ 18 (Y_not (p := r_4) rfl rfl) <| sQ 19 (ym (.bool (!r_4))) ?_
 refine sgq 20 (B := (!(!r_4))) (v := gD_ y) rfl rfl (uF_ 19) (fun hg => (yb (aD b1) 0 (kD_ y) K10 K4 (hS7.c 1))) ?_
 obtain ⟨r_5, hc2, hF⟩ := bI hF
 refine sgc 21 (B := (!(!r_4))) (v := .bool r_5) (F := hS7.fn) rfl rfl (uF_ 19) hS7 (fun hg1 => (yC [gD_ y] K90 (CV.mono (c_impl_IsValidDyadic y _  (hS7.inn0 [] rfl) (gb_inv hc2 hg1)) (by rintro _ _ ⟨rfl, h⟩; exact ⟨rfl, hS7.out00 h⟩)) rfl (mc (gv_of (v := gD_ y) hg1) mn))) ?_
 rintro w_7 hS8
 refine sgq 22 (B := (!(!r_4))) (v := .bool (!r_5)) rfl rfl (uF_ 19) (fun hg2 => (Y_not (p := r_5) rfl (gv_of (v := .bool r_5) hg2))) ?_
 refine sQ 23 (Y_or (b := (!r_4)) (z := (!r_5)) rfl rfl rfl rfl) <| sQ 24 (ym (.bool ((!r_4) || (!r_5)))) ?_
 refine sgq 25 (B := (!((!r_4) || (!r_5)))) (v := .bool r_3) rfl rfl (uF_ 24) (fun hg3 => (ym (.bool r_3))) ?_
 refine sgq 26 (B := (!((!r_4) || (!r_5)))) (v := .bool (!r_3)) rfl rfl (uF_ 24) (fun hg4 => (Y_not (p := r_3) rfl (gv_of (v := .bool r_3) hg4))) ?_
 refine sQ 27 (Y_or (b := ((!r_4) || (!r_5))) (z := (!r_3)) rfl rfl rfl rfl) (rn ?_)
 refine cw_cond (b := (((!r_4) || (!r_5)) || (!r_3))) rfl (fun hb => ?_) (fun hb => ?_)
 ·skip
  have hF1 := ct hF hb
  refine cq (cr ?_)
  refine sQ 28 (Y_buildS (zs := kZ_) (vs := []) (cs := kZ_) K50 K15 rfl mpn rfl) ?_
  refine s0 (yT 2 5 (aD b2) 90 gZ_ kZ_ 0 hS8 K4) ?_
  rintro _ w_8 ⟨rfl, hS9⟩
  refine sQ 5 (yg (.bool false)) (rn (ct_ ?_))
  obtain ⟨rfl, rfl⟩ := pr2 (sI hF1)
  exact ret2 Tryz.results273 (v1 := gZ_) (resAt_cellA (B := aD b2) (i := 0) (cs := kZ_) (vs := kZ_) rfl K10 K4 (hS9.c 2) rfl rfl) (v2 := .bool false) (resAt_tmp rfl) ⟨rfl, (hS9.sN [])⟩
 ·skip
  have hF2 := cf' hF hb
  refine cw_skip (cq (cr ?_))
  refine sQ 29 (yb (aD b3) 0 (kR_ r_2) K12 K6 (hS8.c 3)) <| sQ 30 (yd (aD b) 0 0 K74 K0) <| sQ 31 (yl (aD b) 4 (kD_ x) (vi x.Exp) K1 (hS8.c 0)) <| sQ 32 (yd (aD b1) 0 0 K74 K0) <| sQ 33 (yl (aD b1) 4 (kD_ y) (vi y.Exp) K1 (hS8.c 1)) <| sQ 34 (yP x.Exp y.Exp) ?_
  obtain ⟨⟨r_6, r_7⟩, hc3, hF2⟩ := bI hF2
  refine sc 35 rfl rfl (yC [gR_ r_2, vi (i64.wrap (x.Exp + y.Exp))] k_call_311 (c_impl_DyadicOf r_2 (i64.wrap (x.Exp + y.Exp)) _  (hS8.inn0 [] rfl) hc3)) ?_
  rintro _ w_9 ⟨rfl, hd2⟩
  have hS10 := hS8.out00 hd2
  refine sQ 36 (ye (gD_ r_6)) <| sQ 37 (ye (.bool r_7)) ?_
  refine s0 (yT 2 5 (aD b2) 90 (gD_ r_6) (kD_ r_6) 0 hS10 K4) ?_
  rintro _ w_10 ⟨rfl, hS11⟩
  refine sQ 5 (yg (.bool r_7)) (rn (ct_ ?_))
  obtain ⟨rfl, rfl⟩ := pr2 (sI hF2)
  exact ret2 Tryz.results273 (v1 := gD_ r_6) (resAt_cellA (B := aD b2) (i := 0) (cs := kD_ r_6) (vs := kD_ r_6) rfl K10 K4 (hS11.c 2) rfl rfl) (v2 := .bool r_7) (resAt_tmp rfl) ⟨rfl, (hS11.sN [])⟩

theorem c_impl_MulRootTwo (x : TRing)  (w0 : World)  (hS : ST w0 [] w0 [] []) {r_ : TRing} {r_1 : Bool} (hF : F_impl_MulRootTwo x = some (r_, r_1)) :
  CV Tryz.prog 326 #[gR_ x] w0 (fun v w' => v = .tuple #[gR_ r_, .bool r_1] ∧ ST w0 [] w' [] []) := by
 unfold F_impl_MulRootTwo at hF
 refine cv_of_cw 30 Tryz.func326 rfl Tryz.ntmps326 rfl ?_
 refine cq (cr ?_)
 refine sS 1 (yB 88 (gR_ x) (kR_ x) 4 hS) ?_
 rintro _ w_ ⟨b, rfl, hS1⟩
 refine sS 2 (yN [vi 0, vi 0, vi 0, vi 0] 4 hS1 K25) ?_
 rintro _ w_1 ⟨b1, rfl, hS2⟩
 refine sQ 3 (yg (.bool false)) (rn (cq (cr ?_)))
 refine sQ 4 (yd (aD b) 0 0 K42 K0) <| sQ 5 (yl (aD b) 1 (kR_ x) (vi x.B) K1 (hS2.c 0)) <| sQ 6 (yd (aD b) 0 0 K44 K0) <| sQ 7 (yl (aD b) 3 (kR_ x) (vi x.D) K1 (hS2.c 0)) <| sQ 8 (yM x.B x.D) <| sQ 9 (yd (aD b) 0 0 K39 K0) ?_
 refine sQ 10 (yl (aD b) 0 (kR_ x) (vi x.A) K1 (hS2.c 0)) <| sQ 11 (yd (aD b) 0 0 K43 K0) <| sQ 12 (yl (aD b) 2 (kR_ x) (vi x.C) K1 (hS2.c 0)) <| sQ 13 (yP x.A x.C) <| sQ 14 (yd (aD b) 0 0 K42 K0) <| sQ 15 (yl (aD b) 1 (kR_ x) (vi x.B) K1 (hS2.c 0)) ?_
 refine sQ 16 (yd (aD b) 0 0 K44 K0) <| sQ 17 (yl (aD b) 3 (kR_ x) (vi x.D) K1 (hS2.c 0)) <| sQ 18 (yP x.B x.D) <| sQ 19 (yd (aD b) 0 0 K43 K0) <| sQ 20 (yl (aD b) 2 (kR_ x) (vi x.C) K1 (hS2.c 0)) <| sQ 21 (yd (aD b) 0 0 K39 K0) ?_
 refine sQ 22 (yl (aD b) 0 (kR_ x) (vi x.A) K1 (hS2.c 0)) <| sQ 23 (yM x.C x.A) <| sQ 24 (Y_buildS (zs := [vi 0, vi 0, vi 0, vi 0]) (vs := [(0, vi (i64.wrap (x.B - x.D))), (1, vi (i64.wrap (x.A + x.C))), (2, vi (i64.wrap (x.B + x.D))), (3, vi (i64.wrap (x.C - x.A)))]) (cs := [vi (i64.wrap (x.B - x.D)), vi (i64.wrap (x.A + x.C)), vi (i64.wrap (x.B + x.D)), vi (i64.wrap (x.C - x.A))]) K56 K25 rfl (mpc rfl (mpc rfl (mpc rfl (mpc rfl mpn)))) rfl) <| sQ 25 (yb (aD b) 0 (kR_ x) K12 K6 (hS2.c 0)) ?_
 refine sS 26 (Ys_bslice (s := 4) (len := 1) (vs := [(0, gR_ x)]) (cs := kR_ x) (zs := [vi 0, vi 0, vi 0, vi 0]) (m := 4) hS2 K69 K6 K91 rfl (mpc rfl mpn) rfl rfl rfl (by kernel_rfl) (by kernel_rfl) rfl) ?_
 rintro _ w_2 ⟨b2, rfl, hS3⟩
 obtain ⟨⟨r_2, r_3⟩, hc, hF⟩ := bI hF
 refine sc 27 rfl rfl (yC [.agg #[vi (i64.wrap (x.B - x.D)), vi (i64.wrap (x.A + x.C)), vi (i64.wrap (x.B + x.D)), vi (i64.wrap (x.C - x.A))], .slice (aD b2) 1 1] K109 (c_impl_ringIf (TRing.mk (i64.wrap (x.B - x.D)) (i64.wrap (x.A + x.C)) (i64.wrap (x.B + x.D)) (i64.wrap (x.C - x.A))) [x] (aD b2) 1 1 _ rfl (hS3.inn [false, false, true] rfl [] rfl) hc)) ?_
 rintro _ w_3 ⟨rfl, hd⟩
 have hS4 := hS3.out [false, false, true] rfl hd
 refine sQ 28 (ye (gR_ r_2)) <| sQ 29 (ye (.bool r_3)) ?_
 refine s0 (yT 1 4 (aD b1) 88 (gR_ r_2) (kR_ r_2) 0 hS4 K6) ?_
 rintro _ w_4 ⟨rfl, hS5⟩
 refine sQ 3 (yg (.bool r_3)) (rn (ct_ ?_))
 obtain ⟨rfl, rfl⟩ := pr2 (sI hF)
 exact ret2 Tryz.results326 (v1 := gR_ r_2) (resAt_cellA (B := aD b1) (i := 0) (cs := kR_ r_2) (vs := kR_ r_2) rfl K12 K6 (hS5.c 1) rfl rfl) (v2 := .bool r_3) (resAt_tmp rfl) ⟨rfl, (hS5.sN [])⟩

theorem c_impl_raised (x : TDyadic) (exp : Int)  (w0 : World)  (hS : ST w0 [] w0 [] []) {r_ : TRing} {r_1 : Bool} (hF : F_impl_raised x exp = some (r_, r_1)) :
  CV Tryz.prog 325 #[gD_ x, vi exp] w0 (fun v w' => v = .tuple #[gR_ r_, .bool r_1] ∧ ST w0 [] w' [] []) := by
 unfold F_impl_raised at hF
 refine cv_of_cw 28 Tryz.func325 rfl Tryz.ntmps325 rfl ?_
 refine cq (cr ?_)
 refine sS 2 (yB 90 (gD_ x) (kD_ x) 5 hS) ?_
 rintro _ w_ ⟨b, rfl, hS1⟩
 refine sS 4 (yN [vi 0, vi 0, vi 0, vi 0] 4 hS1 K25) ?_
 rintro _ w_1 ⟨b1, rfl, hS2⟩
 refine sQ 5 (yg (.bool false)) (rn (cq (cr ?_)))
 refine sQ 9 (yd (aD b) 0 3 K81 K6) <| sQ 10 (ya (aD b) 0 (kD_ x) (kR_ x.Num) K12 K6 (hS2.c 0)) ?_
 refine sS 6 (yN [vi 0, vi 0, vi 0, vi 0] 4 hS2 K25) ?_
 rintro _ w_2 ⟨b2, rfl, hS3⟩
 refine s0 (yT 2 4 (aD b2) 88 (gR_ x.Num) (kR_ x.Num) 0 hS3 K6) ?_
 rintro _ w_3 ⟨rfl, hS4⟩
 refine sQ 7 (yg (.bool true)) (rn (cq (cq (cr ?_))))
 refine sQ 11 (yd (aD b) 0 0 K74 K0) <| sQ 12 (yl (aD b) 4 (kD_ x) (vi x.Exp) K1 (hS4.c 0)) <| sQ 8 (yg (vi x.Exp)) (rn ?_)
 obtain ⟨z, hz, hF1⟩ := bI hF
 refine cw_block ?_
 refine cw_loop (fun k f w => ∃ (A : Int) (B : Int) (C : Int) (D : Int) (ok : Bool) (k_ : Int), FF f [(1, vi exp), (4, pt (aD b1) 0), (6, pt (aD b2) 0), (7, .bool ok), (8, vi k_)] ∧ ST w0 [] w [⟨aD b1, 88, [vi 0, vi 0, vi 0, vi 0], 4⟩, ⟨aD b2, 88, [vi A, vi B, vi C, vi D], 4⟩] [] ∧ whX (F_impl_raised_l1 exp) k (A, B, C, D, ok, k_) = some z) fuel ⟨x.Num.A, x.Num.B, x.Num.C, x.Num.D, true, x.Exp, (fc rfl (fc rfl (fc rfl (fc rfl (fc rfl fn_))))), (hS4.sel [1, 2] rfl rfl), hz⟩ ?_
 rintro K7 f w ⟨A, B, C, D, ok, k_, hf, hS5, hL⟩
 obtain ⟨K16, y, rfl, hb, hL1⟩ := whX_go hL
 unfold F_impl_raised_l1 at hb
 refine cq (cq (cr ?_))
 refine sQ 13 (ym (vi k_) rfl (hf.g 8 4)) <| sQ 14 (ym (vi exp) rfl (hf.g 1 0)) <| sQ 15 (yL k_ exp) <| sQ 16 (ym (.bool (decide (k_ < exp)))) ?_
 refine sgq 17 (B := (decide (k_ < exp))) (v := .bool ok) rfl rfl (uT_ 16) (fun hg => (ym (.bool ok) rfl (hf.g 7 3))) ?_
 refine sQ 18 (Y_and (b := (decide (k_ < exp))) (z := ok) rfl rfl rfl rfl) (rn ?_)
 refine cw_cond (b := ((decide (k_ < exp)) && ok)) rfl (fun hb1 => ?_) (fun hb1 => ?_)
 ·skip
  have hF2 := ct hb hb1
  refine cw_skip (cq (cw_block (cr ?_)))
  refine sQ 22 (yb (aD b2) 0 [vi A, vi B, vi C, vi D] K12 K6 (hS5.c 1) rfl (hf.g 6 2)) ?_
  obtain ⟨⟨r_2, r_3⟩, hc, hF2⟩ := bI hF2
  refine sc 23 rfl rfl (yC [.agg #[vi A, vi B, vi C, vi D]] k_call_326 (c_impl_MulRootTwo (TRing.mk A B C D) _  (hS5.inn0 [] rfl) hc)) ?_
  rintro _ w_4 ⟨rfl, hd⟩
  have hS6 := hS5.out00 hd
  refine sQ 21 (ym (.tuple #[gR_ r_2, .bool r_3])) <| sQ 24 (ye (gR_ r_2)) <| sQ 25 (ye (.bool r_3)) ?_
  refine s0 (yT 1 4 (aD b2) 88 (gR_ r_2) (kR_ r_2) 0 hS6 K6 rfl (hf.g 6 2)) ?_
  rintro _ w_5 ⟨rfl, hS7⟩
  refine sQ 7 (yg (.bool r_3)) (rn (cr ?_))
  refine sQ 19 (ym (vi k_) rfl (hf.g 8 4)) <| sQ 20 (yP k_ 1) <| sQ 8 (yg (vi (i64.wrap (k_ + 1)))) (rn ?_)
  obtain rfl := sI hF2
  exact ⟨K16, Nat.lt_succ_self _, r_2.A, r_2.B, r_2.C, r_2.D, r_3, (i64.wrap (k_ + 1)), (fc (hf.g 1 0) (fc (hf.g 4 1) (fc (hf.g 6 2) (fc rfl (fc rfl fn_))))), (hS7.sel [0, 1] rfl rfl), hL1⟩
 ·skip
  have hF3 := cf' hb hb1
  refine cw_exit rfl ?_
  obtain rfl := sI hF3
  obtain rfl := sI hL1
  refine cq (cr ?_)
  refine sQ 26 (yb (aD b2) 0 [vi A, vi B, vi C, vi D] K12 K6 (hS5.c 1) rfl (hf.g 6 2)) <| sQ 27 (ym (.bool ok) rfl (hf.g 7 3)) ?_
  refine s0 (yT 0 4 (aD b1) 88 (.agg #[vi A, vi B, vi C, vi D]) [vi A, vi B, vi C, vi D] 0 hS5 K6 rfl (hf.g 4 1)) ?_
  rintro _ w_6 ⟨rfl, hS8⟩
  refine sQ 5 (yg (.bool ok)) (rn (ct_ ?_))
  obtain ⟨rfl, rfl⟩ := pr2 (sI hF1)
  exact ret2 Tryz.results325 (v1 := .agg #[vi A, vi B, vi C, vi D]) (resAt_cellA (B := aD b1) (i := 0) (cs := [vi A, vi B, vi C, vi D]) (vs := [vi A, vi B, vi C, vi D]) (hf.g 4 1) K12 K6 (hS8.c 0) rfl rfl) (v2 := .bool ok) (resAt_tmp rfl) ⟨rfl, (hS8.sN [])⟩

theorem c_impl_combined (x : TDyadic) (y : TDyadic) (operation : TRing → TRing → Option (TRing × Bool)) (kf : Nat) (caps : Array Value) (Rf : List Ro) (w0 : World) (hk : callB Tryz.prog kf = true) (hp : ∀ (w : World), ST w [] w [] Rf → ∀ (x1 : TRing) (x2 : TRing) (y2 : TRing) (y3 : Bool), operation x1 x2 = some (y2, y3) → CV Tryz.prog kf ((gR_ x1) :: (gR_ x2) :: caps.toList).toArray w (fun v w' => v = .tuple #[gR_ y2, .bool y3] ∧ ST w [] w' [] [])) (hS : ST w0 [] w0 [] (Rf)) {r_ : TDyadic} {r_1 : Bool} (hF : F_impl_combined x y operation = some (r_, r_1)) :
  CV Tryz.prog 318 #[gD_ x, gD_ y, .func (.func kf) #[] caps] w0 (fun v w' => v = .tuple #[gD_ r_, .bool r_1] ∧ ST w0 [] w' [] []) := by
 unfold F_impl_combined at hF
 refine cv_of_cw 64 Tryz.func318 rfl Tryz.ntmps318 rfl ?_
 refine cq (cr ?_)
 refine sS 3 (yB 90 (gD_ x) (kD_ x) 5 hS) ?_
 rintro _ w_ ⟨b, rfl, hS1⟩
 refine sS 4 (yB 90 (gD_ y) (kD_ y) 5 hS1) ?_
 rintro _ w_1 ⟨b1, rfl, hS2⟩
 refine sS 6 (yN kZ_ 5 hS2 K15) ?_
 rintro _ w_2 ⟨b2, rfl, hS3⟩
 refine sQ 7 (yg (.bool false)) (rn (cq (cq (cr ?_))))
 refine sQ 15 (yb (aD b) 0 (kD_ x) K10 K4 (hS3.c 0)) ?_
 obtain ⟨r_2, hc, hF⟩ := bI hF
 refine sc 16 rfl rfl (yC [gD_ x] K90 (c_impl_IsValidDyadic x _  (hS3.inn0 [] rfl) hc)) ?_
 rintro _ w_3 ⟨rfl, hd⟩
 have hS4 := hS3.out00 hd
 refine sQ 17 (Y_not (p := r_2) rfl rfl) <| sQ 18 (ym (.bool (!r_2))) ?_
 refine sgq 19 (B := (!(!r_2))) (v := gD_ y) rfl rfl (uF_ 18) (fun hg => (yb (aD b1) 0 (kD_ y) K10 K4 (hS4.c 1))) ?_
 obtain ⟨r_3, hc1, hF⟩ := bI hF
 refine sgc 20 (B := (!(!r_2))) (v := .bool r_3) (F := hS4.fn) rfl rfl (uF_ 18) hS4 (fun hg1 => (yC [gD_ y] K90 (CV.mono (c_impl_IsValidDyadic y _  (hS4.inn0 [] rfl) (gb_inv hc1 hg1)) (by rintro _ _ ⟨rfl, h⟩; exact ⟨rfl, hS4.out00 h⟩)) rfl (mc (gv_of (v := gD_ y) hg1) mn))) ?_
 rintro w_4 hS5
 refine sgq 21 (B := (!(!r_2))) (v := .bool (!r_3)) rfl rfl (uF_ 18) (fun hg2 => (Y_not (p := r_3) rfl (gv_of (v := .bool r_3) hg2))) ?_
 refine sQ 22 (Y_or (b := (!r_2)) (z := (!r_3)) rfl rfl rfl rfl) (rn ?_)
 refine cw_cond (b := ((!r_2) || (!r_3))) rfl (fun hb => ?_) (fun hb => ?_)
 ·skip
  have hF1 := ct hF hb
  refine cq (cr ?_)
  refine sQ 23 (Y_buildS (zs := kZ_) (vs := []) (cs := kZ_) K50 K15 rfl mpn rfl) ?_
  refine s0 (yT 2 5 (aD b2) 90 gZ_ kZ_ 0 hS5 K4) ?_
  rintro _ w_5 ⟨rfl, hS6⟩
  refine sQ 7 (yg (.bool false)) (rn (ct_ ?_))
  obtain ⟨rfl, rfl⟩ := pr2 (sI hF1)
  exact ret2 Tryz.results318 (v1 := gZ_) (resAt_cellA (B := aD b2) (i := 0) (cs := kZ_) (vs := kZ_) rfl K10 K4 (hS6.c 2) rfl rfl) (v2 := .bool false) (resAt_tmp rfl) ⟨rfl, (hS6.sN [])⟩
 ·skip
  have hF2 := cf' hF hb
  refine cw_skip (cq (cr ?_))
  refine sQ 24 (yd (aD b) 0 0 K74 K0) <| sQ 25 (yl (aD b) 4 (kD_ x) (vi x.Exp) K1 (hS5.c 0)) <| sQ 26 (yd (aD b1) 0 0 K74 K0) <| sQ 27 (yl (aD b1) 4 (kD_ y) (vi y.Exp) K1 (hS5.c 1)) <| sQ 28 (Y_max2 (k := .i64) (a := x.Exp) (b := y.Exp) rfl rfl rfl) <| sQ 8 (yg (vi (if x.Exp < y.Exp then y.Exp else x.Exp))) (rn (cq (cr ?_)))
  refine sQ 30 (yb (aD b) 0 (kD_ x) K10 K4 (hS5.c 0)) <| sQ 31 (ym (vi (if x.Exp < y.Exp then y.Exp else x.Exp))) ?_
  obtain ⟨⟨r_4, r_5⟩, hc2, hF2⟩ := bI hF2
  refine sc 32 rfl rfl (yC [gD_ x, vi (if x.Exp < y.Exp then y.Exp else x.Exp)] k_call_325 (c_impl_raised x (if x.Exp < y.Exp then y.Exp else x.Exp) _  (hS5.inn0 [] rfl) hc2)) ?_
  rintro _ w_6 ⟨rfl, hd1⟩
  have hS7 := hS5.out00 hd1
  refine sQ 29 (ym (.tuple #[gR_ r_4, .bool r_5])) <| sQ 33 (ye (gR_ r_4)) <| sQ 34 (ye (.bool r_5)) ?_
  refine sS 9 (yN [vi 0, vi 0, vi 0, vi 0] 4 hS7 K25) ?_
  rintro _ w_7 ⟨b3, rfl, hS8⟩
  refine s0 (yT 3 4 (aD b3) 88 (gR_ r_4) (kR_ r_4) 0 hS8 K6) ?_
  rintro _ w_8 ⟨rfl, hS9⟩
  refine sQ 10 (yg (.bool r_5)) (rn (cq (cr ?_)))
  refine sQ 36 (yb (aD b1) 0 (kD_ y) K10 K4 (hS9.c 1)) <| sQ 37 (ym (vi (if x.Exp < y.Exp then y.Exp else x.Exp))) ?_
  obtain ⟨⟨r_6, r_7⟩, hc3, hF2⟩ := bI hF2
  refine sc 38 rfl rfl (yC [gD_ y, vi (if x.Exp < y.Exp then y.Exp else x.Exp)] k_call_325 (c_impl_raised y (if x.Exp < y.Exp then y.Exp else x.Exp) _  (hS9.inn0 [] rfl) hc3)) ?_
  rintro _ w_9 ⟨rfl, hd2⟩
  have hS10 := hS9.out00 hd2
  refine sQ 35 (ym (.tuple #[gR_ r_6, .bool r_7])) <| sQ 39 (ye (gR_ r_6)) <| sQ 40 (ye (.bool r_7)) ?_
  refine sS 11 (yN [vi 0, vi 0, vi 0, vi 0] 4 hS10 K25) ?_
  rintro _ w_10 ⟨b4, rfl, hS11⟩
  refine s0 (yT 4 4 (aD b4) 88 (gR_ r_6) (kR_ r_6) 0 hS11 K6) ?_
  rintro _ w_11 ⟨rfl, hS12⟩
  refine sQ 12 (yg (.bool r_7)) (rn (cq (cr ?_)))
  refine sQ 42 (ym (.func (.func kf) #[] caps)) <| sQ 43 (yb (aD b3) 0 (kR_ r_4) K12 K6 (hS12.c 3)) <| sQ 44 (yb (aD b4) 0 (kR_ r_6) K12 K6 (hS12.c 4)) ?_
  obtain ⟨⟨r_8, r_9⟩, hc4, hF2⟩ := bI hF2
  refine sc 45 rfl rfl (Yc_clos (g := kf) (vs := (gR_ r_4) :: (gR_ r_6) :: caps.toList) hk rfl rfl (clo_args (mc rfl (mc rfl mn))) (hp _ (hS12.innS (fun _ h => mOd (i := 0) h)) r_4 r_6 r_8 r_9 hc4)) ?_
  rintro _ w_12 ⟨rfl, hd3⟩
  have hS13 := hS12.out00 hd3
  refine sQ 41 (ym (.tuple #[gR_ r_8, .bool r_9])) <| sQ 46 (ye (gR_ r_8)) <| sQ 47 (ye (.bool r_9)) ?_
  refine sS 13 (yN [vi 0, vi 0, vi 0, vi 0] 4 hS13 K25) ?_
  rintro _ w_13 ⟨b5, rfl, hS14⟩
  refine s0 (yT 5 4 (aD b5) 88 (gR_ r_8) (kR_ r_8) 0 hS14 K6) ?_
  rintro _ w_14 ⟨rfl, hS15⟩
  refine sQ 14 (yg (.bool r_9)) (rn (cq (cq (cr ?_))))
  refine sQ 48 (ym (.bool r_5)) <| sQ 49 (Y_not (p := r_5) rfl rfl) <| sQ 50 (ym (.bool (!r_5))) ?_
  refine sgq 51 (B := (!(!r_5))) (v := .bool r_7) rfl rfl (uF_ 50) (fun hg3 => (ym (.bool r_7))) ?_
  refine sgq 52 (B := (!(!r_5))) (v := .bool (!r_7)) rfl rfl (uF_ 50) (fun hg4 => (Y_not (p := r_7) rfl (gv_of (v := .bool r_7) hg4))) ?_
  refine sQ 53 (Y_or (b := (!r_5)) (z := (!r_7)) rfl rfl rfl rfl) <| sQ 54 (ym (.bool ((!r_5) || (!r_7)))) ?_
  refine sgq 55 (B := (!((!r_5) || (!r_7)))) (v := .bool r_9) rfl rfl (uF_ 54) (fun hg5 => (ym (.bool r_9))) ?_
  refine sgq 56 (B := (!((!r_5) || (!r_7)))) (v := .bool (!r_9)) rfl rfl (uF_ 54) (fun hg6 => (Y_not (p := r_9) rfl (gv_of (v := .bool r_9) hg6))) ?_
  refine sQ 57 (Y_or (b := ((!r_5) || (!r_7))) (z := (!r_9)) rfl rfl rfl rfl) (rn ?_)
  refine cw_cond (b := (((!r_5) || (!r_7)) || (!r_9))) rfl (fun hb1 => ?_) (fun hb1 => ?_)
  ·skip
   have hF3 := ct hF2 hb1
   refine cq (cr ?_)
   refine sQ 58 (Y_buildS (zs := kZ_) (vs := []) (cs := kZ_) K50 K15 rfl mpn rfl) ?_
   refine s0 (yT 2 5 (aD b2) 90 gZ_ kZ_ 0 hS15 K4) ?_
   rintro _ w_15 ⟨rfl, hS16⟩
   refine sQ 7 (yg (.bool false)) (rn (ct_ ?_))
   obtain ⟨rfl, rfl⟩ := pr2 (sI hF3)
   exact ret2 Tryz.results318 (v1 := gZ_) (resAt_cellA (B := aD b2) (i := 0) (cs := kZ_) (vs := kZ_) rfl K10 K4 (hS16.c 2) rfl rfl) (v2 := .bool false) (resAt_tmp rfl) ⟨rfl, (hS16.sN [])⟩
  ·skip
   have hF4 := cf' hF2 hb1
   refine cw_skip (cq (cr ?_))
   refine sQ 59 (yb (aD b5) 0 (kR_ r_8) K12 K6 (hS15.c 5)) <| sQ 60 (ym (vi (if x.Exp < y.Exp then y.Exp else x.Exp))) ?_
   obtain ⟨⟨r_10, r_11⟩, hc5, hF4⟩ := bI hF4
   refine sc 61 rfl rfl (yC [gR_ r_8, vi (if x.Exp < y.Exp then y.Exp else x.Exp)] k_call_311 (c_impl_DyadicOf r_8 (if x.Exp < y.Exp then y.Exp else x.Exp) _  (hS15.inn0 [] rfl) hc5)) ?_
   rintro _ w_16 ⟨rfl, hd4⟩
   have hS17 := hS15.out00 hd4
   refine sQ 62 (ye (gD_ r_10)) <| sQ 63 (ye (.bool r_11)) ?_
   refine s0 (yT 2 5 (aD b2) 90 (gD_ r_10) (kD_ r_10) 0 hS17 K4) ?_
   rintro _ w_17 ⟨rfl, hS18⟩
   refine sQ 7 (yg (.bool r_11)) (rn (ct_ ?_))
   obtain ⟨rfl, rfl⟩ := pr2 (sI hF4)
   exact ret2 Tryz.results318 (v1 := gD_ r_10) (resAt_cellA (B := aD b2) (i := 0) (cs := kD_ r_10) (vs := kD_ r_10) rfl K10 K4 (hS18.c 2) rfl rfl) (v2 := .bool r_11) (resAt_tmp rfl) ⟨rfl, (hS18.sN [])⟩

theorem c_impl_AddRing (x : TRing) (y : TRing)  (w0 : World)  (hS : ST w0 [] w0 [] []) {r_ : TRing} {r_1 : Bool} (hF : F_impl_AddRing x y = some (r_, r_1)) :
  CV Tryz.prog 319 #[gR_ x, gR_ y] w0 (fun v w' => v = .tuple #[gR_ r_, .bool r_1] ∧ ST w0 [] w' [] []) := by
 unfold F_impl_AddRing at hF
 refine cv_of_cw 33 Tryz.func319 rfl Tryz.ntmps319 rfl ?_
 refine cq (cr ?_)
 refine sS 2 (yB 88 (gR_ x) (kR_ x) 4 hS) ?_
 rintro _ w_ ⟨b, rfl, hS1⟩
 refine sS 3 (yB 88 (gR_ y) (kR_ y) 4 hS1) ?_
 rintro _ w_1 ⟨b1, rfl, hS2⟩
 refine sS 4 (yN [vi 0, vi 0, vi 0, vi 0] 4 hS2 K25) ?_
 rintro _ w_2 ⟨b2, rfl, hS3⟩
 refine sQ 5 (yg (.bool false)) (rn (cq (cr ?_)))
 refine sQ 6 (yd (aD b) 0 0 K39 K0) <| sQ 7 (yl (aD b) 0 (kR_ x) (vi x.A) K1 (hS3.c 0)) <| sQ 8 (yd (aD b1) 0 0 K39 K0) <| sQ 9 (yl (aD b1) 0 (kR_ y) (vi y.A) K1 (hS3.c 1)) <| sQ 10 (yP x.A y.A) <| sQ 11 (yd (aD b) 0 0 K42 K0) ?_
 refine sQ 12 (yl (aD b) 1 (kR_ x) (vi x.B) K1 (hS3.c 0)) <| sQ 13 (yd (aD b1) 0 0 K42 K0) <| sQ 14 (yl (aD b1) 1 (kR_ y) (vi y.B) K1 (hS3.c 1)) <| sQ 15 (yP x.B y.B) <| sQ 16 (yd (aD b) 0 0 K43 K0) <| sQ 17 (yl (aD b) 2 (kR_ x) (vi x.C) K1 (hS3.c 0)) ?_
 refine sQ 18 (yd (aD b1) 0 0 K43 K0) <| sQ 19 (yl (aD b1) 2 (kR_ y) (vi y.C) K1 (hS3.c 1)) <| sQ 20 (yP x.C y.C) <| sQ 21 (yd (aD b) 0 0 K44 K0) <| sQ 22 (yl (aD b) 3 (kR_ x) (vi x.D) K1 (hS3.c 0)) <| sQ 23 (yd (aD b1) 0 0 K44 K0) ?_
 refine sQ 24 (yl (aD b1) 3 (kR_ y) (vi y.D) K1 (hS3.c 1)) <| sQ 25 (yP x.D y.D) <| sQ 26 (Y_buildS (zs := [vi 0, vi 0, vi 0, vi 0]) (vs := [(0, vi (i64.wrap (x.A + y.A))), (1, vi (i64.wrap (x.B + y.B))), (2, vi (i64.wrap (x.C + y.C))), (3, vi (i64.wrap (x.D + y.D)))]) (cs := [vi (i64.wrap (x.A + y.A)), vi (i64.wrap (x.B + y.B)), vi (i64.wrap (x.C + y.C)), vi (i64.wrap (x.D + y.D))]) K56 K25 rfl (mpc rfl (mpc rfl (mpc rfl (mpc rfl mpn)))) rfl) <| sQ 27 (yb (aD b) 0 (kR_ x) K12 K6 (hS3.c 0)) <| sQ 28 (yb (aD b1) 0 (kR_ y) K12 K6 (hS3.c 1)) ?_
 refine sS 29 (Ys_bslice (s := 4) (len := 2) (vs := [(0, gR_ x), (1, gR_ y)]) (cs := [vi x.A, vi x.B, vi x.C, vi x.D, vi y.A, vi y.B, vi y.C, vi y.D]) (zs := [vi 0, vi 0, vi 0, vi 0, vi 0, vi 0, vi 0, vi 0]) (m := 8) hS3 K69 K6 K91 rfl (mpc rfl (mpc rfl mpn)) rfl rfl rfl (by kernel_rfl) (by kernel_rfl) rfl) ?_
 rintro _ w_3 ⟨b3, rfl, hS4⟩
 obtain ⟨⟨r_2, r_3⟩, hc, hF⟩ := bI hF
 refine sc 30 rfl rfl (yC [.agg #[vi (i64.wrap (x.A + y.A)), vi (i64.wrap (x.B + y.B)), vi (i64.wrap (x.C + y.C)), vi (i64.wrap (x.D + y.D))], .slice (aD b3) 2 2] K109 (c_impl_ringIf (TRing.mk (i64.wrap (x.A + y.A)) (i64.wrap (x.B + y.B)) (i64.wrap (x.C + y.C)) (i64.wrap (x.D + y.D))) [x, y] (aD b3) 2 2 _ rfl (hS4.inn [false, false, false, true] rfl [] rfl) hc)) ?_
 rintro _ w_4 ⟨rfl, hd⟩
 have hS5 := hS4.out [false, false, false, true] rfl hd
 refine sQ 31 (ye (gR_ r_2)) <| sQ 32 (ye (.bool r_3)) ?_
 refine s0 (yT 2 4 (aD b2) 88 (gR_ r_2) (kR_ r_2) 0 hS5 K6) ?_
 rintro _ w_5 ⟨rfl, hS6⟩
 refine sQ 5 (yg (.bool r_3)) (rn (ct_ ?_))
 obtain ⟨rfl, rfl⟩ := pr2 (sI hF)
 exact ret2 Tryz.results319 (v1 := gR_ r_2) (resAt_cellA (B := aD b2) (i := 0) (cs := kR_ r_2) (vs := kR_ r_2) rfl K12 K6 (hS6.c 2) rfl rfl) (v2 := .bool r_3) (resAt_tmp rfl) ⟨rfl, (hS6.sN [])⟩

theorem c_impl_AddDyadic (x : TDyadic) (y : TDyadic)  (w0 : World)  (hS : ST w0 [] w0 [] []) {r_ : TDyadic} {r_1 : Bool} (hF : F_impl_AddDyadic x y = some (r_, r_1)) :
  CV Tryz.prog 294 #[gD_ x, gD_ y] w0 (fun v w' => v = .tuple #[gD_ r_, .bool r_1] ∧ ST w0 [] w' [] []) := by
 unfold F_impl_AddDyadic at hF
 refine cv_of_cw 11 Tryz.func294 rfl Tryz.ntmps294 rfl ?_
 refine cq (cr ?_)
 refine sS 2 (yB 90 (gD_ x) (kD_ x) 5 hS) ?_
 rintro _ w_ ⟨b, rfl, hS1⟩
 refine sS 3 (yB 90 (gD_ y) (kD_ y) 5 hS1) ?_
 rintro _ w_1 ⟨b1, rfl, hS2⟩
 refine sS 4 (yN kZ_ 5 hS2 K15) ?_
 rintro _ w_2 ⟨b2, rfl, hS3⟩
 refine sQ 5 (yg (.bool false)) (rn (cq (cr ?_)))
 refine sQ 6 (yb (aD b) 0 (kD_ x) K10 K4 (hS3.c 0)) <| sQ 7 (yb (aD b1) 0 (kD_ y) K10 K4 (hS3.c 1)) ?_
 obtain ⟨⟨r_2, r_3⟩, hc, hF⟩ := bI hF
 refine sc 8 rfl rfl (yC [gD_ x, gD_ y, .func (.func 319) #[] #[]] k_call_318 (c_impl_combined x y F_impl_AddRing 319 (#[]) [] _ k_call_319 (fun w hw x_0 x_1 y_0 y_1 h_ => c_impl_AddRing x_0 x_1  w  hw h_) (hS3.inn0 [] rfl) hc)) ?_
 rintro _ w_3 ⟨rfl, hd⟩
 have hS4 := hS3.out00 hd
 refine sQ 9 (ye (gD_ r_2)) <| sQ 10 (ye (.bool r_3)) ?_
 refine s0 (yT 2 5 (aD b2) 90 (gD_ r_2) (kD_ r_2) 0 hS4 K4) ?_
 rintro _ w_4 ⟨rfl, hS5⟩
 refine sQ 5 (yg (.bool r_3)) (rn (ct_ ?_))
 obtain ⟨rfl, rfl⟩ := pr2 (sI hF)
 exact ret2 Tryz.results294 (v1 := gD_ r_2) (resAt_cellA (B := aD b2) (i := 0) (cs := kD_ r_2) (vs := kD_ r_2) rfl K10 K4 (hS5.c 2) rfl rfl) (v2 := .bool r_3) (resAt_tmp rfl) ⟨rfl, (hS5.sN [])⟩

theorem c_impl_MulMatrix_1 (i : Int) (j : Int) (p : TMatrix) (p1 : TMatrix) (B : Option Addr) (B1 : Option Addr) (c n : Nat) (B2 : Option Addr) (B3 : Option Addr) (c1 n1 : Nat) (w0 : World) (hn : p.Cells.length = n) (hn1 : p1.Cells.length = n1) (hS : ST w0 [] w0 [] [⟨B, [vi p.Rows, vi p.Cols, .slice B1 n c]⟩, ⟨B1, (p.Cells.flatMap enc_Dyadic)⟩, ⟨B2, [vi p1.Rows, vi p1.Cols, .slice B3 n1 c1]⟩, ⟨B3, (p1.Cells.flatMap enc_Dyadic)⟩]) {r_ : TDyadic} {r_1 : Bool} (hF : F_impl_MulMatrix_1 i j p p1 = some (r_, r_1)) :
  CV Tryz.prog 293 #[vi i, vi j, pt B 0, pt B2 0] w0 (fun v w' => v = .tuple #[gD_ r_, .bool r_1] ∧ ST w0 [] w' [] []) := by
 subst hn
 subst hn1
 unfold F_impl_MulMatrix_1 at hF
 refine cv_of_cw 48 Tryz.func293 rfl Tryz.ntmps293 rfl ?_
 refine cq (cr ?_)
 refine sS 6 (yN kZ_ 5 hS K15) ?_
 rintro _ w_ ⟨b, rfl, hS1⟩
 refine sQ 7 (yg (.bool false)) (rn (cq (cr ?_)))
 refine sQ 14 (Y_buildS (zs := kZ_) (vs := []) (cs := kZ_) K50 K15 rfl mpn rfl) ?_
 refine sS 8 (yN kZ_ 5 hS1 K15) ?_
 rintro _ w_1 ⟨b1, rfl, hS2⟩
 refine s0 (yT 1 5 (aD b1) 90 gZ_ kZ_ 0 hS2 K4) ?_
 rintro _ w_2 ⟨rfl, hS3⟩
 refine rn (cq (cq (cr ?_)))
 refine sQ 15 (yd B 0 0 K64 K0) <| sQ 16 (yl B 1 (kM_ p B1 c) (vi p.Cols) K1 (hS3.rf (i := 0) rfl)) <| sQ 17 (ym (vi 0)) (rn ?_)
 obtain ⟨hN, hF⟩ := chk_inv hF
 obtain ⟨z, hz, hF1⟩ := bI hF
 refine cw_block ?_
 refine cw_loop (fun k f w => ∃ (i1 : Nat) (A : Int) (B4 : Int) (C : Int) (D : Int) (Exp : Int), FF f [(0, vi i), (1, vi j), (2, pt B 0), (3, pt B2 0), (6, pt (aD b) 0), (8, pt (aD b1) 0), (16, vi p.Cols), (17, vi (i1 : Int))] ∧ ST w0 [] w [⟨aD b, 90, kZ_, 5⟩, ⟨aD b1, 90, [vi A, vi B4, vi C, vi D, vi Exp], 5⟩] [⟨B, kM_ p B1 c⟩, ⟨B1, (p.Cells.flatMap enc_Dyadic)⟩, ⟨B2, kM_ p1 B3 c1⟩, ⟨B3, (p1.Cells.flatMap enc_Dyadic)⟩] ∧ i1 + k = p.Cols.toNat ∧ forX (F_impl_MulMatrix_1_l1 p i p1 j) k i1 (A, B4, C, D, Exp) = some z) p.Cols.toNat ⟨0, 0, 0, 0, 0, 0, (fc rfl (fc rfl (fc rfl (fc rfl (fc rfl (fc rfl (fc rfl (fc rfl fn_)))))))), (hS3.sel [0, 1] rfl rfl), Nat.zero_add _, hz⟩ ?_
 rintro k_ f w ⟨i1, A, B4, C, D, Exp, hf, hS4, hik, hL⟩
 refine cq (cr ?_)
 refine sQ 18 (yL (i1 : Int) p.Cols rfl (hf.g 17 7) (hf.g 16 6)) (rn (cq ?_))
 refine cw_cond (b := (decide ((i1 : Int) < p.Cols))) rfl (fun hlt => ?_) (fun hlt => ?_)
 ·skip
  have hlt1 : i1 < p.Cols.toNat := by have h := of_decide_eq_true hlt; omega
  obtain ⟨K7, rfl⟩ : ∃ k2, k_ = k2 + 1 := ⟨k_ - 1, by omega⟩
  obtain ⟨y, hb, hL1⟩ := forX_go hL
  unfold F_impl_MulMatrix_1_l1 at hb
  refine cw_skip (cq (cw_block (cq (cr ?_))))
  refine sQ 19 (ym (vi (i1 : Int)) rfl (hf.g 17 7)) <| sQ 9 (yg (vi (i1 : Int))) (rn (cq ?_))
  obtain ⟨r_2, hc, hb⟩ := bI hb
  obtain ⟨r_3, hc1, hb⟩ := bI hb
  obtain ⟨⟨r_4, r_5⟩, hc2, hb⟩ := bI hb
  refine cw_mid (fun f w => ∃ (B5 : Option Addr), FF f [(0, vi i), (1, vi j), (2, pt B 0), (3, pt B2 0), (6, pt (aD b) 0), (8, pt (aD b1) 0), (10, pt B5 0), (11, .bool r_5), (16, vi p.Cols), (17, vi (i1 : Int))] ∧ ST w0 [] w [⟨aD b, 90, kZ_, 5⟩, ⟨aD b1, 90, [vi A, vi B4, vi C, vi D, vi Exp], 5⟩, ⟨B5, 90, kD_ r_4, 5⟩] [⟨B, kM_ p B1 c⟩, ⟨B1, (p.Cells.flatMap enc_Dyadic)⟩, ⟨B2, kM_ p1 B3 c1⟩, ⟨B3, (p1.Cells.flatMap enc_Dyadic)⟩]) ?_ ?_
  ·skip
   refine ra_start (hS4.se [0, 1]).fn (by kernel_rfl) ?_
   have hS9 := hS4.drew
   refine rq 0 21 (v := gM_ p B1 c) rfl (hS9.se [0, 1]) (fun w' hw' => (yb B 0 (kM_ p B1 c) K17 K8 (ST.rf hw' (i := 0) rfl) rfl (hf.g 2 2))) ?_
   refine rq 1 22 (v := vi i) rfl (hS9.se [0, 1]) (fun w' hw' => (ym (vi i) rfl (hf.g 0 0))) ?_
   refine rq 2 23 (v := vi (i1 : Int)) rfl (hS9.se [0, 1]) (fun w' hw' => (ym (vi (i1 : Int)))) ?_
   refine rq 4 25 (v := gM_ p1 B3 c1) rfl (hS9.se [0, 1]) (fun w' hw' => (yb B2 0 (kM_ p1 B3 c1) K17 K8 (ST.rf hw' (i := 2) rfl) rfl (hf.g 3 3))) ?_
   refine rq 5 26 (v := vi (i1 : Int)) rfl (hS9.se [0, 1]) (fun w' hw' => (ym (vi (i1 : Int)))) ?_
   refine rq 6 27 (v := vi j) rfl (hS9.se [0, 1]) (fun w' hw' => (ym (vi j) rfl (hf.g 1 1))) ?_
   refine rA [3, 12] ?_
   refine rC 24 3 rfl (yC [gM_ p B1 c, vi i, vi (i1 : Int)] K82 (c_impl_Matrix_at p i (i1 : Int) B1 c p.Cells.length _ rfl (hS9.inn0 [(true, 1)] rfl) hc)) ?_ ?_
   ·rintro _ w_3 ⟨rfl, hd⟩
    have hS10 := hS9.out00 hd
    refine ⟨(hS10.se [0, 1]), ?_⟩
    refine rA [7, 12] ?_
    refine rC 28 7 rfl (yC [gM_ p1 B3 c1, vi (i1 : Int), vi j] K82 (c_impl_Matrix_at p1 (i1 : Int) j B3 c1 p1.Cells.length _ rfl (hS10.inn0 [(true, 3)] rfl) hc1)) ?_ ?_
    ·rintro _ w_4 ⟨rfl, hd1⟩
     have hS11 := hS10.out00 hd1
     refine ⟨(hS11.se [0, 1]), ?_⟩
     refine rA [8, 12] ?_
     refine rC 29 8 rfl (yC [gD_ r_2, gD_ r_3] K110 (c_impl_MulDyadic r_2 r_3 _  (hS11.inn0 [] rfl) hc2)) ?_ ?_
     ·rintro _ w_5 ⟨rfl, hd2⟩
      have hS12 := hS11.out00 hd2
      refine ⟨(hS12.se [0, 1]), ?_⟩
      refine rq 9 20 (v := .tuple #[gD_ r_4, .bool r_5]) rfl (hS12.se [0, 1]) (fun w' hw' => (ym (.tuple #[gD_ r_4, .bool r_5]))) ?_
      refine rq 10 30 (v := gD_ r_4) rfl (hS12.se [0, 1]) (fun w' hw' => (ye (gD_ r_4))) ?_
      refine rq 11 31 (v := .bool r_5) rfl (hS12.se [0, 1]) (fun w' hw' => (ye (.bool r_5))) ?_
      refine rA [12] ?_
      refine rS 10 12 rfl (yN kZ_ 5 hS12 K15) ?_ ?_
      ·rintro _ w_6 ⟨b2, rfl, hS13⟩
       refine ⟨(hS13.se [0, 1]), ?_⟩
       refine rA [13] ?_
       refine rZ 13 rfl (yT 2 5 (aD b2) 90 (gD_ r_4) (kD_ r_4) 0 hS13 K4) ?_ ?_
       ·rintro _ w_7 ⟨rfl, hS14⟩
        refine ⟨(hS14.se [0, 1]), ?_⟩
        refine rq 14 11 (v := .bool r_5) rfl (hS14.se [0, 1]) (fun w' hw' => (yg (.bool r_5))) ?_
        refine ra_done (by kernel_rfl) ?_
        exact ⟨aD b2, (fc (hf.g 0 0) (fc (hf.g 1 1) (fc (hf.g 2 2) (fc (hf.g 3 3) (fc (hf.g 6 4) (fc (hf.g 8 5) (fc rfl (fc rfl (fc (hf.g 16 6) (fc (hf.g 17 7) fn_)))))))))), (hS14.sel [0, 1, 2] rfl rfl)⟩
       exact aN
      exact aN
     refine rS 10 12 rfl (yN kZ_ 5 hS11 K15) ?_ ?_
     ·rintro _ w_8 ⟨b2, rfl, hS15⟩
      refine ⟨(hS15.se [0, 1]), ?_⟩
      refine rA [8] ?_
      refine rC 29 8 rfl (yC [gD_ r_2, gD_ r_3] K110 (c_impl_MulDyadic r_2 r_3 _  (hS15.inn0 [] rfl) hc2)) ?_ ?_
      ·rintro _ w_9 ⟨rfl, hd3⟩
       have hS16 := hS15.out00 hd3
       refine ⟨(hS16.se [0, 1]), ?_⟩
       refine rq 9 20 (v := .tuple #[gD_ r_4, .bool r_5]) rfl (hS16.se [0, 1]) (fun w' hw' => (ym (.tuple #[gD_ r_4, .bool r_5]))) ?_
       refine rq 10 30 (v := gD_ r_4) rfl (hS16.se [0, 1]) (fun w' hw' => (ye (gD_ r_4))) ?_
       refine rq 11 31 (v := .bool r_5) rfl (hS16.se [0, 1]) (fun w' hw' => (ye (.bool r_5))) ?_
       refine rA [13] ?_
       refine rZ 13 rfl (yT 2 5 (aD b2) 90 (gD_ r_4) (kD_ r_4) 0 hS16 K4) ?_ ?_
       ·rintro _ w_10 ⟨rfl, hS17⟩
        refine ⟨(hS17.se [0, 1]), ?_⟩
        refine rq 14 11 (v := .bool r_5) rfl (hS17.se [0, 1]) (fun w' hw' => (yg (.bool r_5))) ?_
        refine ra_done (by kernel_rfl) ?_
        exact ⟨aD b2, (fc (hf.g 0 0) (fc (hf.g 1 1) (fc (hf.g 2 2) (fc (hf.g 3 3) (fc (hf.g 6 4) (fc (hf.g 8 5) (fc rfl (fc rfl (fc (hf.g 16 6) (fc (hf.g 17 7) fn_)))))))))), (hS17.sel [0, 1, 2] rfl rfl)⟩
       exact aN
      exact aN
     exact aN
    refine rS 10 12 rfl (yN kZ_ 5 hS10 K15) ?_ ?_
    ·rintro _ w_11 ⟨b2, rfl, hS18⟩
     refine ⟨(hS18.se [0, 1]), ?_⟩
     refine rA [7] ?_
     refine rC 28 7 rfl (yC [gM_ p1 B3 c1, vi (i1 : Int), vi j] K82 (c_impl_Matrix_at p1 (i1 : Int) j B3 c1 p1.Cells.length _ rfl (hS18.inn0 [(true, 3)] rfl) hc1)) ?_ ?_
     ·rintro _ w_12 ⟨rfl, hd4⟩
      have hS19 := hS18.out00 hd4
      refine ⟨(hS19.se [0, 1]), ?_⟩
      refine rA [8] ?_
      refine rC 29 8 rfl (yC [gD_ r_2, gD_ r_3] K110 (c_impl_MulDyadic r_2 r_3 _  (hS19.inn0 [] rfl) hc2)) ?_ ?_
      ·rintro _ w_13 ⟨rfl, hd5⟩
       have hS20 := hS19.out00 hd5
       refine ⟨(hS20.se [0, 1]), ?_⟩
       refine rq 9 20 (v := .tuple #[gD_ r_4, .bool r_5]) rfl (hS20.se [0, 1]) (fun w' hw' => (ym (.tuple #[gD_ r_4, .bool r_5]))) ?_
       refine rq 10 30 (v := gD_ r_4) rfl (hS20.se [0, 1]) (fun w' hw' => (ye (gD_ r_4))) ?_
       refine rq 11 31 (v := .bool r_5) rfl (hS20.se [0, 1]) (fun w' hw' => (ye (.bool r_5))) ?_
       refine rA [13] ?_
       refine rZ 13 rfl (yT 2 5 (aD b2) 90 (gD_ r_4) (kD_ r_4) 0 hS20 K4) ?_ ?_
       ·rintro _ w_14 ⟨rfl, hS21⟩
        refine ⟨(hS21.se [0, 1]), ?_⟩
        refine rq 14 11 (v := .bool r_5) rfl (hS21.se [0, 1]) (fun w' hw' => (yg (.bool r_5))) ?_
        refine ra_done (by kernel_rfl) ?_
        exact ⟨aD b2, (fc (hf.g 0 0) (fc (hf.g 1 1) (fc (hf.g 2 2) (fc (hf.g 3 3) (fc (hf.g 6 4) (fc (hf.g 8 5) (fc rfl (fc rfl (fc (hf.g 16 6) (fc (hf.g 17 7) fn_)))))))))), (hS21.sel [0, 1, 2] rfl rfl)⟩
       exact aN
      exact aN
     exact aN
    exact aN
   refine rS 10 12 rfl (yN kZ_ 5 hS9 K15) ?_ ?_
   ·rintro _ w_15 ⟨b2, rfl, hS22⟩
    refine ⟨(hS22.se [0, 1]), ?_⟩
    refine rA [3] ?_
    refine rC 24 3 rfl (yC [gM_ p B1 c, vi i, vi (i1 : Int)] K82 (c_impl_Matrix_at p i (i1 : Int) B1 c p.Cells.length _ rfl (hS22.inn0 [(true, 1)] rfl) hc)) ?_ ?_
    ·rintro _ w_16 ⟨rfl, hd6⟩
     have hS23 := hS22.out00 hd6
     refine ⟨(hS23.se [0, 1]), ?_⟩
     refine rA [7] ?_
     refine rC 28 7 rfl (yC [gM_ p1 B3 c1, vi (i1 : Int), vi j] K82 (c_impl_Matrix_at p1 (i1 : Int) j B3 c1 p1.Cells.length _ rfl (hS23.inn0 [(true, 3)] rfl) hc1)) ?_ ?_
     ·rintro _ w_17 ⟨rfl, hd7⟩
      have hS24 := hS23.out00 hd7
      refine ⟨(hS24.se [0, 1]), ?_⟩
      refine rA [8] ?_
      refine rC 29 8 rfl (yC [gD_ r_2, gD_ r_3] K110 (c_impl_MulDyadic r_2 r_3 _  (hS24.inn0 [] rfl) hc2)) ?_ ?_
      ·rintro _ w_18 ⟨rfl, hd8⟩
       have hS25 := hS24.out00 hd8
       refine ⟨(hS25.se [0, 1]), ?_⟩
       refine rq 9 20 (v := .tuple #[gD_ r_4, .bool r_5]) rfl (hS25.se [0, 1]) (fun w' hw' => (ym (.tuple #[gD_ r_4, .bool r_5]))) ?_
       refine rq 10 30 (v := gD_ r_4) rfl (hS25.se [0, 1]) (fun w' hw' => (ye (gD_ r_4))) ?_
       refine rq 11 31 (v := .bool r_5) rfl (hS25.se [0, 1]) (fun w' hw' => (ye (.bool r_5))) ?_
       refine rA [13] ?_
       refine rZ 13 rfl (yT 2 5 (aD b2) 90 (gD_ r_4) (kD_ r_4) 0 hS25 K4) ?_ ?_
       ·rintro _ w_19 ⟨rfl, hS26⟩
        refine ⟨(hS26.se [0, 1]), ?_⟩
        refine rq 14 11 (v := .bool r_5) rfl (hS26.se [0, 1]) (fun w' hw' => (yg (.bool r_5))) ?_
        refine ra_done (by kernel_rfl) ?_
        exact ⟨aD b2, (fc (hf.g 0 0) (fc (hf.g 1 1) (fc (hf.g 2 2) (fc (hf.g 3 3) (fc (hf.g 6 4) (fc (hf.g 8 5) (fc rfl (fc rfl (fc (hf.g 16 6) (fc (hf.g 17 7) fn_)))))))))), (hS26.sel [0, 1, 2] rfl rfl)⟩
       exact aN
      exact aN
     exact aN
    exact aN
   exact aN
  rintro f w ⟨B5, hf1, hS8⟩
  refine cq (cr ?_)
  refine sQ 33 (yb (aD b1) 0 [vi A, vi B4, vi C, vi D, vi Exp] K10 K4 (hS8.c 1) rfl (hf1.g 8 5)) <| sQ 34 (yb B5 0 (kD_ r_4) K10 K4 (hS8.c 2) rfl (hf1.g 10 6)) ?_
  obtain ⟨⟨r_6, r_7⟩, hc3, hb⟩ := bI hb
  refine sc 35 rfl rfl (yC [.agg #[vi A, vi B4, vi C, vi D, vi Exp], gD_ r_4] k_call_294 (c_impl_AddDyadic (TDyadic.mk (TRing.mk A B4 C D) Exp) r_4 _  (hS8.inn0 [] rfl) hc3)) ?_
  rintro _ w_20 ⟨rfl, hd9⟩
  have hS27 := hS8.out00 hd9
  refine sQ 32 (ym (.tuple #[gD_ r_6, .bool r_7])) <| sQ 36 (ye (gD_ r_6)) <| sQ 37 (ye (.bool r_7)) ?_
  refine sS 12 (yN kZ_ 5 hS27 K15) ?_
  rintro _ w_21 ⟨b3, rfl, hS28⟩
  refine s0 (yT 3 5 (aD b3) 90 (gD_ r_6) (kD_ r_6) 0 hS28 K4) ?_
  rintro _ w_22 ⟨rfl, hS29⟩
  refine sQ 13 (yg (.bool r_7)) (rn (cq (cq (cr ?_))))
  refine sQ 38 (ym (.bool r_5) rfl (hf1.g 11 7)) <| sQ 39 (Y_not (p := r_5) rfl rfl) <| sQ 40 (ym (.bool (!r_5))) ?_
  refine sgq 41 (B := (!(!r_5))) (v := .bool r_7) rfl rfl (uF_ 40) (fun hg => (ym (.bool r_7))) ?_
  refine sgq 42 (B := (!(!r_5))) (v := .bool (!r_7)) rfl rfl (uF_ 40) (fun hg1 => (Y_not (p := r_7) rfl (gv_of (v := .bool r_7) hg1))) ?_
  refine sQ 43 (Y_or (b := (!r_5)) (z := (!r_7)) rfl rfl rfl rfl) (rn ?_)
  refine cw_cond (b := ((!r_5) || (!r_7))) rfl (fun hb1 => ?_) (fun hb1 => ?_)
  ·skip
   have hF2 := ct hb hb1
   refine cq (cr ?_)
   refine sQ 44 (Y_buildS (zs := kZ_) (vs := []) (cs := kZ_) K50 K15 rfl mpn rfl) ?_
   refine s0 (yT 0 5 (aD b) 90 gZ_ kZ_ 0 hS29 K4 rfl (hf1.g 6 4)) ?_
   rintro _ w_23 ⟨rfl, hS30⟩
   refine sQ 7 (yg (.bool false)) (rn (ct_ ?_))
   obtain rfl := sI hF2
   obtain rfl := sI hL1
   obtain ⟨rfl, rfl⟩ := pr2 (sI hF1)
   exact ret2 Tryz.results293 (v1 := gZ_) (resAt_cellA (B := aD b) (i := 0) (cs := kZ_) (vs := kZ_) (hf1.g 6 4) K10 K4 (hS30.c 0) rfl rfl) (v2 := .bool false) (resAt_tmp rfl) ⟨rfl, (hS30.sN [])⟩
  ·skip
   have hF3 := cf' hb hb1
   refine cw_skip (cr ?_)
   refine sQ 45 (yb (aD b3) 0 (kD_ r_6) K10 K4 (hS29.c 3)) ?_
   refine s0 (yT 1 5 (aD b1) 90 (gD_ r_6) (kD_ r_6) 0 hS29 K4 rfl (hf1.g 8 5)) ?_
   rintro _ w_24 ⟨rfl, hS31⟩
   refine rn (cr ?_)
   refine sQ 46 (yP (i1 : Int) 1 rfl (hf1.g 17 9)) <| sQ 17 (ym (vi (i64.wrap ((i1 : Int) + 1)))) (rn ?_)
   obtain rfl := sI hF3
   exact ⟨K7, Nat.lt_succ_self _, i1 + 1, r_6.Num.A, r_6.Num.B, r_6.Num.C, r_6.Num.D, r_6.Exp, (fc (hf1.g 0 0) (fc (hf1.g 1 1) (fc (hf1.g 2 2) (fc (hf1.g 3 3) (fc (hf1.g 6 4) (fc (hf1.g 8 5) (fc (hf1.g 16 8) (fc (congrArg (Value.int .i64) (wr_succ hlt1 hN)) fn_)))))))), (hS31.sel [0, 1] rfl rfl), (by omega), hL1⟩
 ·skip
  obtain rfl : k_ = 0 := by have h := of_decide_eq_false hlt; omega
  refine cw_exit rfl ?_
  obtain rfl := sI hL
  refine cq (cr ?_)
  refine sQ 47 (yb (aD b1) 0 [vi A, vi B4, vi C, vi D, vi Exp] K10 K4 (hS4.c 1) rfl (hf.g 8 5)) ?_
  refine s0 (yT 0 5 (aD b) 90 (.agg #[vi A, vi B4, vi C, vi D, vi Exp]) [vi A, vi B4, vi C, vi D, vi Exp] 0 hS4 K4 rfl (hf.g 6 4)) ?_
  rintro _ w_25 ⟨rfl, hS32⟩
  refine sQ 7 (yg (.bool true)) (rn (ct_ ?_))
  obtain ⟨rfl, rfl⟩ := pr2 (sI hF1)
  exact ret2 Tryz.results293 (v1 := .agg #[vi A, vi B4, vi C, vi D, vi Exp]) (resAt_cellA (B := aD b) (i := 0) (cs := [vi A, vi B4, vi C, vi D, vi Exp]) (vs := [vi A, vi B4, vi C, vi D, vi Exp]) (hf.g 6 4) K10 K4 (hS32.c 0) rfl rfl) (v2 := .bool true) (resAt_tmp rfl) ⟨rfl, (hS32.sN [])⟩

theorem c_impl_MulMatrix (a : TMatrix) (b : TMatrix) (B : Option Addr) (c n : Nat) (B1 : Option Addr) (c1 n1 : Nat) (w0 : World) (hn : a.Cells.length = n) (hn1 : b.Cells.length = n1) (hS : ST w0 [] w0 [] [⟨B, (a.Cells.flatMap enc_Dyadic)⟩, ⟨B1, (b.Cells.flatMap enc_Dyadic)⟩]) {r_ : TMatrix} {r_1 : Bool} (hF : F_impl_MulMatrix a b = some (r_, r_1)) :
  CV Tryz.prog 235 #[.agg #[vi a.Rows, vi a.Cols, .slice B n c], .agg #[vi b.Rows, vi b.Cols, .slice B1 n1 c1]] w0 (fun v w' => ∃ (B2 : Option Addr) (c2 : Nat), v = .tuple #[gM_ r_ B2 c2, .bool r_1] ∧ ST w0 [] w' [⟨B2, 90, (r_.Cells.flatMap enc_Dyadic), c2 * 5⟩] []) := by
 subst hn
 subst hn1
 unfold F_impl_MulMatrix at hF
 refine cv_of_cw 30 Tryz.func235 rfl Tryz.ntmps235 rfl ?_
 refine cq (cr ?_)
 refine sS 2 (yB 81 (gM_ a B c) (kM_ a B c) 3 hS) ?_
 rintro _ w_ ⟨b1, rfl, hS1⟩
 refine sS 3 (yB 81 (gM_ b B1 c1) (kM_ b B1 c1) 3 hS1) ?_
 rintro _ w_1 ⟨b2, rfl, hS2⟩
 refine sS 4 (yN kN_ 3 hS2 K23) ?_
 rintro _ w_2 ⟨b3, rfl, hS3⟩
 refine sQ 5 (yg (.bool false)) (rn (cq (cq (cr ?_))))
 refine sQ 6 (yb (aD b1) 0 (kM_ a B c) K17 K8 (hS3.c 0)) ?_
 obtain ⟨r_2, hc, hF⟩ := bI hF
 refine sc 7 rfl rfl (yC [gM_ a B c] K119 (c_impl_IsValidMatrix a B c a.Cells.length _ rfl (hS3.inn0 [(true, 0)] rfl) hc)) ?_
 rintro _ w_3 ⟨rfl, hd⟩
 have hS4 := hS3.out00 hd
 refine sQ 8 (Y_not (p := r_2) rfl rfl) <| sQ 9 (ym (.bool (!r_2))) ?_
 refine sgq 10 (B := (!(!r_2))) (v := gM_ b B1 c1) rfl rfl (uF_ 9) (fun hg => (yb (aD b2) 0 (kM_ b B1 c1) K17 K8 (hS4.c 1))) ?_
 obtain ⟨r_3, hc1, hF⟩ := bI hF
 refine sgc 11 (B := (!(!r_2))) (v := .bool r_3) (F := hS4.fn) rfl rfl (uF_ 9) hS4 (fun hg1 => (yC [gM_ b B1 c1] K119 (CV.mono (c_impl_IsValidMatrix b B1 c1 b.Cells.length _ rfl (hS4.inn0 [(true, 1)] rfl) (gb_inv hc1 hg1)) (by rintro _ _ ⟨rfl, h⟩; exact ⟨rfl, hS4.out00 h⟩)) rfl (mc (gv_of (v := gM_ b B1 c1) hg1) mn))) ?_
 rintro w_4 hS5
 refine sgq 12 (B := (!(!r_2))) (v := .bool (!r_3)) rfl rfl (uF_ 9) (fun hg2 => (Y_not (p := r_3) rfl (gv_of (v := .bool r_3) hg2))) ?_
 refine sQ 13 (Y_or (b := (!r_2)) (z := (!r_3)) rfl rfl rfl rfl) <| sQ 14 (ym (.bool ((!r_2) || (!r_3)))) ?_
 refine sgq 15 (B := (!((!r_2) || (!r_3)))) (v := pt (aD b1) 1) rfl rfl (uF_ 14) (fun hg3 => (yd (aD b1) 0 0 K64 K0)) ?_
 refine sgq 16 (B := (!((!r_2) || (!r_3)))) (v := vi a.Cols) rfl rfl (uF_ 14) (fun hg4 => (yl (aD b1) 1 (kM_ a B c) (vi a.Cols) K1 (hS5.c 0) rfl (gv_of (v := pt (aD b1) 1) hg4))) ?_
 refine sgq 17 (B := (!((!r_2) || (!r_3)))) (v := pt (aD b2) 0) rfl rfl (uF_ 14) (fun hg5 => (yd (aD b2) 0 0 K75 K0)) ?_
 refine sgq 18 (B := (!((!r_2) || (!r_3)))) (v := vi b.Rows) rfl rfl (uF_ 14) (fun hg6 => (yl (aD b2) 0 (kM_ b B1 c1) (vi b.Rows) K1 (hS5.c 1) rfl (gv_of (v := pt (aD b2) 0) hg6))) ?_
 refine sgq 19 (B := (!((!r_2) || (!r_3)))) (v := .bool (a.Cols != b.Rows)) rfl rfl (uF_ 14) (fun hg7 => (Y_ne (k := .i64) (a := a.Cols) (b := b.Rows) rfl (gv_of (v := vi a.Cols) hg7) (gv_of (v := vi b.Rows) hg7))) ?_
 refine sQ 20 (Y_or (b := ((!r_2) || (!r_3))) (z := (a.Cols != b.Rows)) rfl rfl rfl rfl) (rn ?_)
 refine cw_cond (b := (((!r_2) || (!r_3)) || (a.Cols != b.Rows))) rfl (fun hb => ?_) (fun hb => ?_)
 ·skip
  have hF1 := ct hF hb
  refine cq (cr ?_)
  refine sQ 21 (Y_buildS (zs := kN_) (vs := []) (cs := kN_) K68 K23 rfl mpn rfl) ?_
  refine s0 (yT 2 3 (aD b3) 81 gN_ kN_ 0 hS5 K8) ?_
  rintro _ w_5 ⟨rfl, hS6⟩
  refine sQ 5 (yg (.bool false)) (rn (ct_ ?_))
  have hS7 := hS6.addNil 90
  obtain ⟨rfl, rfl⟩ := pr2 (sI hF1)
  exact ret2 Tryz.results235 (v1 := gN_) (resAt_cellA (B := aD b3) (i := 0) (cs := kN_) (vs := kN_) rfl K17 K8 (hS7.c 2) rfl rfl) (v2 := .bool false) (resAt_tmp rfl) ⟨none, 0, rfl, (hS7.sN [3])⟩
 ·skip
  have hF2 := cf' hF hb
  refine cw_skip (cq (cr ?_))
  refine sQ 22 (yd (aD b1) 0 0 K75 K0) <| sQ 23 (yl (aD b1) 0 (kM_ a B c) (vi a.Rows) K1 (hS5.c 0)) <| sQ 24 (yd (aD b2) 0 0 K64 K0) <| sQ 25 (yl (aD b2) 1 (kM_ b B1 c1) (vi b.Cols) K1 (hS5.c 1)) <| sQ 26 (Y_makeFunc (cs := [pt (aD b1) 0, pt (aD b2) 0]) rfl rfl (mc rfl (mc rfl mn))) ?_
  obtain ⟨⟨r_4, r_5⟩, hc2, hF2⟩ := bI hF2
  refine sc 27 rfl rfl (yC [vi a.Rows, vi b.Cols, .func (.func 293) #[] #[pt (aD b1) 0, pt (aD b2) 0]] K106 (c_impl_matrixOf a.Rows b.Cols (fun x_0 x_1 => F_impl_MulMatrix_1 x_0 x_1 a b) 293 (#[pt (aD b1) 0, pt (aD b2) 0]) [⟨aD b1, kM_ a B c⟩, ⟨B, (a.Cells.flatMap enc_Dyadic)⟩, ⟨aD b2, kM_ b B1 c1⟩, ⟨B1, (b.Cells.flatMap enc_Dyadic)⟩] _ k_call_293 (fun w hw x_0 x_1 y_0 y_1 h_ => c_impl_MulMatrix_1 x_0 x_1 a b (aD b1) B c a.Cells.length (aD b2) B1 c1 b.Cells.length w rfl rfl hw h_) (hS5.inn0 [(false, 0), (true, 0), (false, 1), (true, 1)] rfl) hc2)) ?_
  rintro _ w_6 ⟨B3, c3, rfl, hd1⟩
  have hS8 := hS5.out0 hd1
  refine sQ 28 (ye (gM_ r_4 B3 c3)) <| sQ 29 (ye (.bool r_5)) ?_
  refine s0 (yT 2 3 (aD b3) 81 (gM_ r_4 B3 c3) (kM_ r_4 B3 c3) 0 hS8 K8) ?_
  rintro _ w_7 ⟨rfl, hS9⟩
  refine sQ 5 (yg (.bool r_5)) (rn (ct_ ?_))
  obtain ⟨rfl, rfl⟩ := pr2 (sI hF2)
  exact ret2 Tryz.results235 (v1 := gM_ r_4 B3 c3) (resAt_cellA (B := aD b3) (i := 0) (cs := kM_ r_4 B3 c3) (vs := kM_ r_4 B3 c3) rfl K17 K8 (hS9.c 2) rfl rfl) (v2 := .bool r_5) (resAt_tmp rfl) ⟨B3, c3, rfl, (hS9.sN [3])⟩

theorem c_impl_applied (c : TCircuit) (m : TMatrix) (ok : Bool) (B : Option Addr) (c1 n : Nat) (B1 : Option Addr) (c2 n1 : Nat) (w0 : World) (hn : c.Gates.length = n) (hn1 : m.Cells.length = n1) (hS : ST w0 (bl [⟨B1, 90, (m.Cells.flatMap enc_Dyadic), c2 * 5⟩]) w0 [⟨B1, 90, (m.Cells.flatMap enc_Dyadic), c2 * 5⟩] [⟨B, (c.Gates.flatMap eN0)⟩]) {r_ : TMatrix} {r_1 : Bool} (hF : F_impl_applied c m ok = some (r_, r_1)) :
  CV Tryz.prog 144 #[.agg #[vi c.Qubits, .slice B n c1], .agg #[vi m.Rows, vi m.Cols, .slice B1 n1 c2], .bool ok] w0 (fun v w' => ∃ (B2 : Option Addr) (c3 : Nat), v = .tuple #[gM_ r_ B2 c3, .bool r_1] ∧ ST w0 (bl [⟨B1, 90, (m.Cells.flatMap enc_Dyadic), c2 * 5⟩]) w' [⟨B2, 90, (r_.Cells.flatMap enc_Dyadic), c3 * 5⟩] []) := by
 subst hn
 subst hn1
 unfold F_impl_applied at hF
 refine cv_of_cw 40 Tryz.func144 rfl Tryz.ntmps144 rfl ?_
 refine cq (cr ?_)
 refine sS 3 (yB 28 (.agg #[vi c.Qubits, .slice B c.Gates.length c1]) [vi c.Qubits, .slice B c.Gates.length c1] 2 hS) ?_
 rintro _ w_ ⟨b, rfl, hS1⟩
 refine sS 4 (yB 81 (gM_ m B1 c2) (kM_ m B1 c2) 3 hS1) ?_
 rintro _ w_1 ⟨b1, rfl, hS2⟩
 refine sS 6 (yN kN_ 3 hS2 K23) ?_
 rintro _ w_2 ⟨b2, rfl, hS3⟩
 refine sQ 7 (yg (.bool false)) (rn (cq (cq (cr ?_))))
 refine sQ 8 (yg (vi 0)) (rn ?_)
 obtain ⟨z, hz, hF1⟩ := bI hF
 refine cw_block ?_
 refine cw_loop (fun k f w => ∃ (ok1 : Bool) (Rows : Int) (Cols : Int) (Cells : List TDyadic) (i : Int) (B3 : Option Addr) (c4 : Nat), FF f [(2, .bool ok1), (3, pt (aD b) 0), (4, pt (aD b1) 0), (6, pt (aD b2) 0), (8, vi i)] ∧ ST w0 (bl [⟨B1, 90, (m.Cells.flatMap enc_Dyadic), c2 * 5⟩]) w [⟨aD b, 28, [vi c.Qubits, .slice B c.Gates.length c1], 2⟩, ⟨aD b1, 81, [vi Rows, vi Cols, .slice B3 Cells.length c4], 3⟩, ⟨B3, 90, (Cells.flatMap enc_Dyadic), c4 * 5⟩, ⟨aD b2, 81, kN_, 3⟩] [⟨B, (c.Gates.flatMap eN0)⟩] ∧ whX (F_impl_applied_l1 c) k (ok1, Rows, Cols, Cells, i) = some z) fuel ⟨ok, m.Rows, m.Cols, m.Cells, 0, B1, c2, (fc rfl (fc rfl (fc rfl (fc rfl (fc rfl fn_))))), (hS3.sel [1, 2, 0, 3] rfl rfl), hz⟩ ?_
 rintro k_ f w ⟨ok1, Rows, Cols, Cells, i, B3, c4, hf, hS4, hL⟩
 obtain ⟨K7, y, rfl, hb, hL1⟩ := whX_go hL
 unfold F_impl_applied_l1 at hb
 refine cq (cq (cr ?_))
 refine sQ 11 (ym (vi i) rfl (hf.g 8 4)) <| sQ 12 (yd (aD b) 0 0 K36 K21 rfl (hf.g 3 1)) <| sQ 13 (yl (aD b) 1 [vi c.Qubits, .slice B c.Gates.length c1] (.slice B c.Gates.length c1) K37 (hS4.c 0)) <| sQ 14 (Y_len (B := B) (m := c.Gates.length) (c := c1) K5 rfl rfl) <| sQ 15 (yL i (c.Gates.length : Int)) <| sQ 16 (ym (.bool (decide (i < (c.Gates.length : Int))))) ?_
 refine sgq 17 (B := (decide (i < (c.Gates.length : Int)))) (v := .bool ok1) rfl rfl (uT_ 16) (fun hg => (ym (.bool ok1) rfl (hf.g 2 0))) ?_
 refine sQ 18 (Y_and (b := (decide (i < (c.Gates.length : Int)))) (z := ok1) rfl rfl rfl rfl) (rn ?_)
 refine cw_cond (b := ((decide (i < (c.Gates.length : Int))) && ok1)) rfl (fun hb1 => ?_) (fun hb1 => ?_)
 ·skip
  have hF2 := ct hb hb1
  refine cw_skip (cq (cw_block (cq ?_)))
  obtain ⟨x, hx, hF2⟩ := bI hF2
  obtain ⟨⟨r_2, r_3⟩, hc, hF2⟩ := bI hF2
  refine cw_mid (fun f w => ∃ (B5 : Option Addr) (B6 : Option Addr) (c6 : Nat), FF f [(3, pt (aD b) 0), (4, pt (aD b1) 0), (6, pt (aD b2) 0), (8, vi i), (9, pt B5 0)] ∧ ST w0 (bl [⟨B1, 90, (m.Cells.flatMap enc_Dyadic), c2 * 5⟩]) w [⟨aD b, 28, [vi c.Qubits, .slice B c.Gates.length c1], 2⟩, ⟨aD b1, 81, [vi Rows, vi Cols, .slice B3 Cells.length c4], 3⟩, ⟨B3, 90, (Cells.flatMap enc_Dyadic), c4 * 5⟩, ⟨aD b2, 81, kN_, 3⟩, ⟨B5, 81, kM_ r_2 B6 c6, 3⟩, ⟨B6, 90, (r_2.Cells.flatMap enc_Dyadic), c6 * 5⟩] [⟨B, (c.Gates.flatMap eN0)⟩]) ?_ ?_
  ·skip
   refine ra_start (hS4.se [0, 1, 2, 3]).fn (by kernel_rfl) ?_
   have hS7 := hS4.drew
   refine rq 0 22 (v := pt (aD b) 0) rfl (hS7.se [0, 1, 2, 3]) (fun w' hw' => (yd (aD b) 0 0 K31 K0 rfl (hf.g 3 1))) ?_
   refine rq 1 23 (v := vi c.Qubits) rfl (hS7.se [0, 1, 2, 3]) (fun w' hw' => (yl (aD b) 0 [vi c.Qubits, .slice B c.Gates.length c1] (vi c.Qubits) K1 (ST.cf hw' (i := 0) rfl))) ?_
   refine rq 2 24 (v := pt (aD b) 1) rfl (hS7.se [0, 1, 2, 3]) (fun w' hw' => (yd (aD b) 0 0 K36 K21 rfl (hf.g 3 1))) ?_
   refine rq 3 25 (v := .slice B c.Gates.length c1) rfl (hS7.se [0, 1, 2, 3]) (fun w' hw' => (yl (aD b) 1 [vi c.Qubits, .slice B c.Gates.length c1] (.slice B c.Gates.length c1) K37 (ST.cf hw' (i := 0) rfl))) ?_
   refine rq 4 26 (v := vi i) rfl (hS7.se [0, 1, 2, 3]) (fun w' hw' => (ym (vi i) rfl (hf.g 8 4))) ?_
   refine rq 5 27 (v := pt B (i.toNat * 3)) rfl (hS7.se [0, 1, 2, 3]) (fun w' hw' => (Y_index (B := B) (m := c.Gates.length) (c := c1) (k := .i64) (i := i) K5 K3 rfl rfl rfl (gi_isSome eN1 rfl (ST.rf hw' (i := 0) rfl) hx) (getI_nn hx) (getI_ltI hx rfl))) ?_
   refine rq 6 28 (v := .agg #[vi x.Kind, vi x.A, vi x.B]) rfl (hS7.se [0, 1, 2, 3]) (fun w' hw' => (ya B (i.toNat * 3) (c.Gates.flatMap eN0) [vi x.Kind, vi x.A, vi x.B] K24 K3 (ST.rf hw' (i := 0) rfl) rfl rfl (eN1 x) (gi_seg eN1 hx))) ?_
   refine rA [7, 11] ?_
   refine rC 29 7 rfl (yC [vi c.Qubits, .agg #[vi x.Kind, vi x.A, vi x.B]] k_call_234 (c_impl_GateMatrix c.Qubits x _  (hS7.inn0 [] rfl) hc)) ?_ ?_
   ·rintro _ w_3 ⟨B4, c5, rfl, hd⟩
    have hS8 := hS7.out0 hd
    refine ⟨(hS8.se [0, 1, 2, 3]), ?_⟩
    refine rq 8 21 (v := .tuple #[gM_ r_2 B4 c5, .bool r_3]) rfl (hS8.se [0, 1, 2, 3]) (fun w' hw' => (ym (.tuple #[gM_ r_2 B4 c5, .bool r_3]))) ?_
    refine rq 9 30 (v := gM_ r_2 B4 c5) rfl (hS8.se [0, 1, 2, 3]) (fun w' hw' => (ye (gM_ r_2 B4 c5))) ?_
    refine rq 10 31 (v := .bool r_3) rfl (hS8.se [0, 1, 2, 3]) (fun w' hw' => (ye (.bool r_3))) ?_
    refine rA [11] ?_
    refine rS 9 11 rfl (yN kN_ 3 hS8 K23) ?_ ?_
    ·rintro _ w_4 ⟨b3, rfl, hS9⟩
     refine ⟨(hS9.se [0, 1, 2, 3]), ?_⟩
     refine rA [12] ?_
     refine rZ 12 rfl (yT 5 3 (aD b3) 81 (gM_ r_2 B4 c5) (kM_ r_2 B4 c5) 0 hS9 K8) ?_ ?_
     ·rintro _ w_5 ⟨rfl, hS10⟩
      refine ⟨(hS10.se [0, 1, 2, 3]), ?_⟩
      refine rq 13 10 (v := .bool r_3) rfl (hS10.se [0, 1, 2, 3]) (fun w' hw' => (yg (.bool r_3))) ?_
      refine ra_done (by kernel_rfl) ?_
      exact ⟨aD b3, B4, c5, (fc (hf.g 3 1) (fc (hf.g 4 2) (fc (hf.g 6 3) (fc (hf.g 8 4) (fc rfl fn_))))), (hS10.sel [0, 1, 2, 3, 5, 4] rfl rfl)⟩
     exact aN
    exact aN
   refine rS 9 11 rfl (yN kN_ 3 hS7 K23) ?_ ?_
   ·rintro _ w_6 ⟨b3, rfl, hS11⟩
    refine ⟨(hS11.se [0, 1, 2, 3]), ?_⟩
    refine rA [7] ?_
    refine rC 29 7 rfl (yC [vi c.Qubits, .agg #[vi x.Kind, vi x.A, vi x.B]] k_call_234 (c_impl_GateMatrix c.Qubits x _  (hS11.inn0 [] rfl) hc)) ?_ ?_
    ·rintro _ w_7 ⟨B4, c5, rfl, hd1⟩
     have hS12 := hS11.out0 hd1
     refine ⟨(hS12.se [0, 1, 2, 3]), ?_⟩
     refine rq 8 21 (v := .tuple #[gM_ r_2 B4 c5, .bool r_3]) rfl (hS12.se [0, 1, 2, 3]) (fun w' hw' => (ym (.tuple #[gM_ r_2 B4 c5, .bool r_3]))) ?_
     refine rq 9 30 (v := gM_ r_2 B4 c5) rfl (hS12.se [0, 1, 2, 3]) (fun w' hw' => (ye (gM_ r_2 B4 c5))) ?_
     refine rq 10 31 (v := .bool r_3) rfl (hS12.se [0, 1, 2, 3]) (fun w' hw' => (ye (.bool r_3))) ?_
     refine rA [12] ?_
     refine rZ 12 rfl (yT 4 3 (aD b3) 81 (gM_ r_2 B4 c5) (kM_ r_2 B4 c5) 0 hS12 K8) ?_ ?_
     ·rintro _ w_8 ⟨rfl, hS13⟩
      refine ⟨(hS13.se [0, 1, 2, 3]), ?_⟩
      refine rq 13 10 (v := .bool r_3) rfl (hS13.se [0, 1, 2, 3]) (fun w' hw' => (yg (.bool r_3))) ?_
      refine ra_done (by kernel_rfl) ?_
      exact ⟨aD b3, B4, c5, (fc (hf.g 3 1) (fc (hf.g 4 2) (fc (hf.g 6 3) (fc (hf.g 8 4) (fc rfl fn_))))), (hS13.sel [0, 1, 2, 3, 4, 5] rfl rfl)⟩
     exact aN
    exact aN
   exact aN
  rintro f w ⟨B5, B6, c6, hf1, hS6⟩
  refine cr ?_
  refine sQ 33 (yb B5 0 (kM_ r_2 B6 c6) K17 K8 (hS6.c 4) rfl (hf1.g 9 4)) <| sQ 34 (yb (aD b1) 0 [vi Rows, vi Cols, .slice B3 Cells.length c4] K17 K8 (hS6.c 1) rfl (hf1.g 4 1)) ?_
  obtain ⟨⟨r_4, r_5⟩, hc1, hF2⟩ := bI hF2
  refine sc 35 rfl rfl (yC [gM_ r_2 B6 c6, .agg #[vi Rows, vi Cols, .slice B3 Cells.length c4]] k_call_235 (c_impl_MulMatrix r_2 (TMatrix.mk Rows Cols Cells) B6 c6 r_2.Cells.length B3 c4 Cells.length _ rfl rfl (hS6.inn0 [(false, 5), (false, 2)] rfl) hc1)) ?_
  rintro _ w_9 ⟨B7, c7, rfl, hd2⟩
  have hS14 := hS6.out0 hd2
  refine sQ 32 (ym (.tuple #[gM_ r_4 B7 c7, .bool r_5])) <| sQ 36 (ye (gM_ r_4 B7 c7)) <| sQ 37 (ye (.bool r_5)) ?_
  refine s0 (yT 1 3 (aD b1) 81 (gM_ r_4 B7 c7) (kM_ r_4 B7 c7) 0 hS14 K8 rfl (hf1.g 4 1)) ?_
  rintro _ w_10 ⟨rfl, hS15⟩
  refine sQ 2 (yg (.bool r_5)) (rn (cr ?_))
  refine sQ 19 (ym (vi i) rfl (hf1.g 8 3)) <| sQ 20 (yP i 1) <| sQ 8 (yg (vi (i64.wrap (i + 1)))) (rn ?_)
  obtain rfl := sI hF2
  exact ⟨K7, Nat.lt_succ_self _, r_5, r_4.Rows, r_4.Cols, r_4.Cells, (i64.wrap (i + 1)), B7, c7, (fc rfl (fc (hf1.g 3 0) (fc (hf1.g 4 1) (fc (hf1.g 6 2) (fc rfl fn_))))), (hS15.sel [0, 1, 6, 3] rfl rfl), hL1⟩
 ·skip
  have hF3 := cf' hb hb1
  refine cw_exit rfl ?_
  obtain rfl := sI hF3
  obtain rfl := sI hL1
  refine cq (cr ?_)
  refine sQ 38 (yb (aD b1) 0 [vi Rows, vi Cols, .slice B3 Cells.length c4] K17 K8 (hS4.c 1) rfl (hf.g 4 2)) <| sQ 39 (ym (.bool ok1) rfl (hf.g 2 0)) ?_
  refine s0 (yT 3 3 (aD b2) 81 (.agg #[vi Rows, vi Cols, .slice B3 Cells.length c4]) [vi Rows, vi Cols, .slice B3 Cells.length c4] 0 hS4 K8 rfl (hf.g 6 3)) ?_
  rintro _ w_11 ⟨rfl, hS16⟩
  refine sQ 7 (yg (.bool ok1)) (rn (ct_ ?_))
  obtain ⟨rfl, rfl⟩ := pr2 (sI hF1)
  exact ret2 Tryz.results144 (v1 := .agg #[vi Rows, vi Cols, .slice B3 Cells.length c4]) (resAt_cellA (B := aD b2) (i := 0) (cs := [vi Rows, vi Cols, .slice B3 Cells.length c4]) (vs := [vi Rows, vi Cols, .slice B3 Cells.length c4]) (hf.g 6 3) K17 K8 (hS16.c 3) rfl rfl) (v2 := .bool ok1) (resAt_tmp rfl) ⟨B3, c4, rfl, (hS16.sN [2])⟩

theorem c_impl_OperatorOf (c : TCircuit) (B : Option Addr) (c1 n : Nat) (w0 : World) (hn : c.Gates.length = n) (hS : ST w0 [] w0 [] [⟨B, (c.Gates.flatMap eN0)⟩]) {r_ : TMatrix} {r_1 : Bool} (hF : F_impl_OperatorOf c = some (r_, r_1)) :
  CV Tryz.prog 90 #[.agg #[vi c.Qubits, .slice B n c1]] w0 (fun v w' => ∃ (B1 : Option Addr) (c2 : Nat), v = .tuple #[gM_ r_ B1 c2, .bool r_1] ∧ ST w0 [] w' [⟨B1, 90, (r_.Cells.flatMap enc_Dyadic), c2 * 5⟩] []) := by
 subst hn
 unfold F_impl_OperatorOf at hF
 refine cv_of_cw 23 Tryz.func90 rfl Tryz.ntmps90 rfl ?_
 refine cq (cr ?_)
 refine sS 1 (yB 28 (.agg #[vi c.Qubits, .slice B c.Gates.length c1]) [vi c.Qubits, .slice B c.Gates.length c1] 2 hS) ?_
 rintro _ w_ ⟨b, rfl, hS1⟩
 refine sS 2 (yN kN_ 3 hS1 K23) ?_
 rintro _ w_1 ⟨b1, rfl, hS2⟩
 refine sQ 3 (yg (.bool false)) (rn (cq (cq (cr ?_))))
 refine sQ 6 (yb (aD b) 0 [vi c.Qubits, .slice B c.Gates.length c1] K22 K11 (hS2.c 0)) ?_
 obtain ⟨r_2, hc, hF⟩ := bI hF
 refine sc 7 rfl rfl (yC [.agg #[vi c.Qubits, .slice B c.Gates.length c1]] K93 (c_impl_IsValidCircuit c B c1 c.Gates.length _ rfl (hS2.inn0 [(true, 0)] rfl) hc)) ?_
 rintro _ w_2 ⟨rfl, hd⟩
 have hS3 := hS2.out00 hd
 refine sQ 8 (Y_not (p := r_2) rfl rfl) (rn ?_)
 refine cw_cond (b := (!r_2)) rfl (fun hb => ?_) (fun hb => ?_)
 ·skip
  have hF1 := ct hF hb
  refine cq (cr ?_)
  refine sQ 9 (Y_buildS (zs := kN_) (vs := []) (cs := kN_) K68 K23 rfl mpn rfl) ?_
  refine s0 (yT 1 3 (aD b1) 81 gN_ kN_ 0 hS3 K8) ?_
  rintro _ w_3 ⟨rfl, hS4⟩
  refine sQ 3 (yg (.bool false)) (rn (ct_ ?_))
  have hS5 := hS4.addNil 90
  obtain ⟨rfl, rfl⟩ := pr2 (sI hF1)
  exact ret2 Tryz.results90 (v1 := gN_) (resAt_cellA (B := aD b1) (i := 0) (cs := kN_) (vs := kN_) rfl K17 K8 (hS5.c 1) rfl rfl) (v2 := .bool false) (resAt_tmp rfl) ⟨none, 0, rfl, (hS5.sN [2])⟩
 ·skip
  have hF2 := cf' hF hb
  refine cw_skip (cq (cr ?_))
  refine sQ 11 (yd (aD b) 0 0 K31 K0) <| sQ 12 (yl (aD b) 0 [vi c.Qubits, .slice B c.Gates.length c1] (vi c.Qubits) K1 (hS3.c 0)) ?_
  obtain ⟨hsh, hF2⟩ := chk_inv hF2
  refine sQ 13 (Y_shl (k := .i64) (a := 1) (k' := .i64) (b := c.Qubits) rfl rfl rfl hsh) ?_
  obtain ⟨⟨r_3, r_4⟩, hc1, hF2⟩ := bI hF2
  refine sc 14 rfl rfl (yC [vi (shlK .i64 1 c.Qubits)] k_call_142 (c_impl_IdentityMatrix (shlK .i64 1 c.Qubits) _  (hS3.inn0 [] rfl) hc1)) ?_
  rintro _ w_4 ⟨B2, c3, rfl, hd1⟩
  have hS6 := hS3.out0 hd1
  refine sQ 10 (ym (.tuple #[gM_ r_3 B2 c3, .bool r_4])) <| sQ 15 (ye (gM_ r_3 B2 c3)) <| sQ 16 (ye (.bool r_4)) ?_
  refine sS 4 (yN kN_ 3 hS6 K23) ?_
  rintro _ w_5 ⟨b2, rfl, hS7⟩
  refine s0 (yT 3 3 (aD b2) 81 (gM_ r_3 B2 c3) (kM_ r_3 B2 c3) 0 hS7 K8) ?_
  rintro _ w_6 ⟨rfl, hS8⟩
  refine sQ 5 (yg (.bool r_4)) (rn (cq (cr ?_)))
  refine sQ 17 (yb (aD b) 0 [vi c.Qubits, .slice B c.Gates.length c1] K22 K11 (hS8.c 0)) <| sQ 18 (yb (aD b2) 0 (kM_ r_3 B2 c3) K17 K8 (hS8.c 3)) <| sQ 19 (ym (.bool r_4)) ?_
  obtain ⟨⟨r_5, r_6⟩, hc2, hF2⟩ := bI hF2
  refine sc 20 rfl rfl (yC [.agg #[vi c.Qubits, .slice B c.Gates.length c1], gM_ r_3 B2 c3, .bool r_4] k_call_144 (c_impl_applied c r_3 r_4 B c1 c.Gates.length B2 c3 r_3.Cells.length _ rfl rfl (hS8.inn [false, false, true, false] rfl [(true, 0)] rfl) hc2)) ?_
  rintro _ w_7 ⟨B3, c4, rfl, hd2⟩
  have hS9 := hS8.out [false, false, true, false] rfl hd2
  refine sQ 21 (ye (gM_ r_5 B3 c4)) <| sQ 22 (ye (.bool r_6)) ?_
  refine s0 (yT 1 3 (aD b1) 81 (gM_ r_5 B3 c4) (kM_ r_5 B3 c4) 0 hS9 K8) ?_
  rintro _ w_8 ⟨rfl, hS10⟩
  refine sQ 3 (yg (.bool r_6)) (rn (ct_ ?_))
  obtain ⟨rfl, rfl⟩ := pr2 (sI hF2)
  exact ret2 Tryz.results90 (v1 := gM_ r_5 B3 c4) (resAt_cellA (B := aD b1) (i := 0) (cs := kM_ r_5 B3 c4) (vs := kM_ r_5 B3 c4) rfl K17 K8 (hS10.c 1) rfl rfl) (v2 := .bool r_6) (resAt_tmp rfl) ⟨B3, c4, rfl, (hS10.sN [3])⟩

theorem c_spec_EqualMatrices (a : TMatrix) (b : TMatrix) (B : Option Addr) (c n : Nat) (B1 : Option Addr) (c1 n1 : Nat) (w0 : World) (hn : a.Cells.length = n) (hn1 : b.Cells.length = n1) (hS : ST w0 [] w0 [] [⟨B, (a.Cells.flatMap enc_Dyadic)⟩, ⟨B1, (b.Cells.flatMap enc_Dyadic)⟩]) {r_ : Bool} (hF : F_spec_EqualMatrices a b = some r_) :
  CV Tryz.prog 140 #[.agg #[vi a.Rows, vi a.Cols, .slice B n c], .agg #[vi b.Rows, vi b.Cols, .slice B1 n1 c1]] w0 (fun v w' => v = .bool r_ ∧ ST w0 [] w' [] []) := by
 subst hn
 subst hn1
 unfold F_spec_EqualMatrices at hF
 refine cv_of_cw 45 Tryz.func140 rfl Tryz.ntmps140 rfl ?_
 refine cq (cr ?_)
 refine sS 2 (yB 81 (gM_ a B c) (kM_ a B c) 3 hS) ?_
 rintro _ w_ ⟨b1, rfl, hS1⟩
 refine sS 3 (yB 81 (gM_ b B1 c1) (kM_ b B1 c1) 3 hS1) ?_
 rintro _ w_1 ⟨b2, rfl, hS2⟩
 refine sQ 4 (yg (.bool false)) (rn (cq (cq (cr ?_))))
 refine sQ 6 (yd (aD b1) 0 0 K75 K0) <| sQ 7 (yl (aD b1) 0 (kM_ a B c) (vi a.Rows) K1 (hS2.c 0)) <| sQ 8 (yd (aD b2) 0 0 K75 K0) <| sQ 9 (yl (aD b2) 0 (kM_ b B1 c1) (vi b.Rows) K1 (hS2.c 1)) <| sQ 10 (Y_ne (k := .i64) (a := a.Rows) (b := b.Rows) rfl rfl rfl) <| sQ 11 (ym (.bool (a.Rows != b.Rows))) ?_
 refine sgq 12 (B := (!(a.Rows != b.Rows))) (v := pt (aD b1) 1) rfl rfl (uF_ 11) (fun hg => (yd (aD b1) 0 0 K64 K0)) ?_
 refine sgq 13 (B := (!(a.Rows != b.Rows))) (v := vi a.Cols) rfl rfl (uF_ 11) (fun hg1 => (yl (aD b1) 1 (kM_ a B c) (vi a.Cols) K1 (hS2.c 0) rfl (gv_of (v := pt (aD b1) 1) hg1))) ?_
 refine sgq 14 (B := (!(a.Rows != b.Rows))) (v := pt (aD b2) 1) rfl rfl (uF_ 11) (fun hg2 => (yd (aD b2) 0 0 K64 K0)) ?_
 refine sgq 15 (B := (!(a.Rows != b.Rows))) (v := vi b.Cols) rfl rfl (uF_ 11) (fun hg3 => (yl (aD b2) 1 (kM_ b B1 c1) (vi b.Cols) K1 (hS2.c 1) rfl (gv_of (v := pt (aD b2) 1) hg3))) ?_
 refine sgq 16 (B := (!(a.Rows != b.Rows))) (v := .bool (a.Cols != b.Cols)) rfl rfl (uF_ 11) (fun hg4 => (Y_ne (k := .i64) (a := a.Cols) (b := b.Cols) rfl (gv_of (v := vi a.Cols) hg4) (gv_of (v := vi b.Cols) hg4))) ?_
 refine sQ 17 (Y_or (b := (a.Rows != b.Rows)) (z := (a.Cols != b.Cols)) rfl rfl rfl rfl) <| sQ 18 (ym (.bool ((a.Rows != b.Rows) || (a.Cols != b.Cols)))) ?_
 refine sgq 19 (B := (!((a.Rows != b.Rows) || (a.Cols != b.Cols)))) (v := pt (aD b1) 2) rfl rfl (uF_ 18) (fun hg5 => (yd (aD b1) 0 0 K53 K48)) ?_
 refine sgq 20 (B := (!((a.Rows != b.Rows) || (a.Cols != b.Cols)))) (v := .slice B a.Cells.length c) rfl rfl (uF_ 18) (fun hg6 => (yl (aD b1) 2 (kM_ a B c) (.slice B a.Cells.length c) K55 (hS2.c 0) rfl (gv_of (v := pt (aD b1) 2) hg6))) ?_
 refine sgq 21 (B := (!((a.Rows != b.Rows) || (a.Cols != b.Cols)))) (v := vi (a.Cells.length : Int)) rfl rfl (uF_ 18) (fun hg7 => (Y_len (B := B) (m := a.Cells.length) (c := c) K49 rfl (gv_of (v := .slice B a.Cells.length c) hg7))) ?_
 refine sgq 22 (B := (!((a.Rows != b.Rows) || (a.Cols != b.Cols)))) (v := pt (aD b2) 2) rfl rfl (uF_ 18) (fun hg8 => (yd (aD b2) 0 0 K53 K48)) ?_
 refine sgq 23 (B := (!((a.Rows != b.Rows) || (a.Cols != b.Cols)))) (v := .slice B1 b.Cells.length c1) rfl rfl (uF_ 18) (fun hg9 => (yl (aD b2) 2 (kM_ b B1 c1) (.slice B1 b.Cells.length c1) K55 (hS2.c 1) rfl (gv_of (v := pt (aD b2) 2) hg9))) ?_
 refine sgq 24 (B := (!((a.Rows != b.Rows) || (a.Cols != b.Cols)))) (v := vi (b.Cells.length : Int)) rfl rfl (uF_ 18) (fun hg10 => (Y_len (B := B1) (m := b.Cells.length) (c := c1) K49 rfl (gv_of (v := .slice B1 b.Cells.length c1) hg10))) ?_
 refine sgq 25 (B := (!((a.Rows != b.Rows) || (a.Cols != b.Cols)))) (v := .bool ((a.Cells.length : Int) != (b.Cells.length : Int))) rfl rfl (uF_ 18) (fun hg11 => (Y_ne (k := .i64) (a := (a.Cells.length : Int)) (b := (b.Cells.length : Int)) rfl (gv_of (v := vi (a.Cells.length : Int)) hg11) (gv_of (v := vi (b.Cells.length : Int)) hg11))) ?_
 refine sQ 26 (Y_or (b := ((a.Rows != b.Rows) || (a.Cols != b.Cols))) (z := ((a.Cells.length : Int) != (b.Cells.length : Int))) rfl rfl rfl rfl) (rn ?_)
 refine cw_cond (b := (((a.Rows != b.Rows) || (a.Cols != b.Cols)) || ((a.Cells.length : Int) != (b.Cells.length : Int)))) rfl (fun hb => ?_) (fun hb => ?_)
 ·skip
  have hF1 := ct hF hb
  refine cq (cr ?_)
  refine sQ 4 (yg (.bool false)) (rn (ct_ ?_))
  obtain rfl := sI hF1
  exact ret1 Tryz.results140 (v1 := .bool false) (resAt_tmp rfl) ⟨rfl, (hS2.sN [])⟩
 ·skip
  have hF2 := cf' hF hb
  refine cw_skip (cq (cq (cr ?_)))
  refine sQ 27 (yd (aD b1) 0 0 K53 K48) <| sQ 28 (yl (aD b1) 2 (kM_ a B c) (.slice B a.Cells.length c) K55 (hS2.c 0)) <| sQ 29 (Y_len (B := B) (m := a.Cells.length) (c := c) K49 rfl rfl) <| sQ 30 (ym (vi 0)) (rn ?_)
  obtain ⟨hN, hF2⟩ := chk_inv hF2
  obtain ⟨z, hz, hF3⟩ := bI hF2
  refine cw_block ?_
  refine cw_loop (fun k f w => ∃ (i : Nat), FF f [(2, pt (aD b1) 0), (3, pt (aD b2) 0), (29, vi (a.Cells.length : Int)), (30, vi (i : Int))] ∧ ST w0 [] w [⟨aD b1, 81, kM_ a B c, 3⟩, ⟨aD b2, 81, kM_ b B1 c1, 3⟩] [⟨B, (a.Cells.flatMap enc_Dyadic)⟩, ⟨B1, (b.Cells.flatMap enc_Dyadic)⟩] ∧ i + k = a.Cells.length ∧ forX (F_spec_EqualMatrices_l1 a b) k i () = some z) a.Cells.length ⟨0, (fc rfl (fc rfl (fc rfl (fc rfl fn_)))), (hS2.sel [0, 1] rfl rfl), Nat.zero_add _, hz⟩ ?_
  rintro k_ f w ⟨i, hf, hS3, hik, hL⟩
  refine cq (cr ?_)
  refine sQ 31 (yL (i : Int) (a.Cells.length : Int) rfl (hf.g 30 3) (hf.g 29 2)) (rn (cq ?_))
  refine cw_cond (b := (decide ((i : Int) < (a.Cells.length : Int)))) rfl (fun hlt => ?_) (fun hlt => ?_)
  ·skip
   have hlt1 : i < a.Cells.length := by have h := of_decide_eq_true hlt; omega
   obtain ⟨K7, rfl⟩ : ∃ k2, k_ = k2 + 1 := ⟨k_ - 1, by omega⟩
   obtain ⟨y, hb1, hL1⟩ := forX_go hL
   unfold F_spec_EqualMatrices_l1 at hb1
   refine cw_skip (cq (cw_block (cq (cr ?_))))
   refine sQ 32 (ym (vi (i : Int)) rfl (hf.g 30 3)) <| sQ 5 (yg (vi (i : Int))) (rn (cq ?_))
   obtain ⟨x, hx, hb1⟩ := bI hb1
   obtain ⟨x1, hx1, hb1⟩ := bI hb1
   refine ra_start (hS3.se [0, 1]).fn (by kernel_rfl) ?_
   have hS4 := hS3.drew
   refine rq 0 33 (v := pt (aD b1) 2) rfl (hS4.se [0, 1]) (fun w' hw' => (yd (aD b1) 0 0 K53 K48 rfl (hf.g 2 0))) ?_
   refine rq 1 34 (v := .slice B a.Cells.length c) rfl (hS4.se [0, 1]) (fun w' hw' => (yl (aD b1) 2 (kM_ a B c) (.slice B a.Cells.length c) K55 (ST.cf hw' (i := 0) rfl))) ?_
   refine rq 2 35 (v := vi (i : Int)) rfl (hS4.se [0, 1]) (fun w' hw' => (ym (vi (i : Int)))) ?_
   refine rq 3 36 (v := pt B ((i : Int).toNat * 5)) rfl (hS4.se [0, 1]) (fun w' hw' => (Y_index (B := B) (m := a.Cells.length) (c := c) (k := .i64) (i := (i : Int)) K49 K4 rfl rfl rfl (gi_isSome enc_Dyadic_len rfl (ST.rf hw' (i := 0) rfl) hx) (getI_nn hx) (getI_ltI hx rfl))) ?_
   refine rq 4 37 (v := gD_ x) rfl (hS4.se [0, 1]) (fun w' hw' => (ya B ((i : Int).toNat * 5) (a.Cells.flatMap enc_Dyadic) (kD_ x) K10 K4 (ST.rf hw' (i := 0) rfl) rfl rfl (enc_Dyadic_len x) (gi_seg enc_Dyadic_len hx))) ?_
   refine rq 5 38 (v := pt (aD b2) 2) rfl (hS4.se [0, 1]) (fun w' hw' => (yd (aD b2) 0 0 K53 K48 rfl (hf.g 3 1))) ?_
   refine rq 6 39 (v := .slice B1 b.Cells.length c1) rfl (hS4.se [0, 1]) (fun w' hw' => (yl (aD b2) 2 (kM_ b B1 c1) (.slice B1 b.Cells.length c1) K55 (ST.cf hw' (i := 1) rfl))) ?_
   refine rq 7 40 (v := vi (i : Int)) rfl (hS4.se [0, 1]) (fun w' hw' => (ym (vi (i : Int)))) ?_
   refine rq 8 41 (v := pt B1 ((i : Int).toNat * 5)) rfl (hS4.se [0, 1]) (fun w' hw' => (Y_index (B := B1) (m := b.Cells.length) (c := c1) (k := .i64) (i := (i : Int)) K49 K4 rfl rfl rfl (gi_isSome enc_Dyadic_len rfl (ST.rf hw' (i := 1) rfl) hx1) (getI_nn hx1) (getI_ltI hx1 rfl))) ?_
   refine rq 9 42 (v := gD_ x1) rfl (hS4.se [0, 1]) (fun w' hw' => (ya B1 ((i : Int).toNat * 5) (b.Cells.flatMap enc_Dyadic) (kD_ x1) K10 K4 (ST.rf hw' (i := 1) rfl) rfl rfl (enc_Dyadic_len x1) (gi_seg enc_Dyadic_len hx1))) ?_
   refine ra_q 10 43 (v := .bool (!(((x.Num.A == x1.Num.A) && ((x.Num.B == x1.Num.B) && ((x.Num.C == x1.Num.C) && ((x.Num.D == x1.Num.D) && true)))) && ((x.Exp == x1.Exp) && true)))) rfl rfl rfl (by kernel_rfl) (by kernel_rfl) (by kernel_rfl) (hS4.se [0, 1]) (fun w' hw' => (Y_neA (xs := #[vi x.Num.A, vi x.Num.B, vi x.Num.C, vi x.Num.D, vi x.Exp]) (ys := #[vi x1.Num.A, vi x1.Num.B, vi x1.Num.C, vi x1.Num.D, vi x1.Exp]) (b := (((x.Num.A == x1.Num.A) && ((x.Num.B == x1.Num.B) && ((x.Num.C == x1.Num.C) && ((x.Num.D == x1.Num.D) && true)))) && ((x.Exp == x1.Exp) && true))) k_eg_90 rfl rfl rfl (eqr_struct (xs := kD_ x) (ys := kD_ x1) k_st_90 k_ho_90 (pts_ag (us := kR_ x.Num) (vs := kR_ x1.Num) K12 K6 rfl rfl (eqr_struct (xs := kR_ x.Num) (ys := kR_ x1.Num) k_st_88 k_ho_88 (pts_sc K1 rfl rfl (eqr_int K28) (pts_sc K1 rfl rfl (eqr_int K28) (pts_sc K1 rfl rfl (eqr_int K28) (pts_sc K1 rfl rfl (eqr_int K28) pts_nil))))) (pts_sc K1 rfl rfl (eqr_int K28) pts_nil))))) ?_
   refine ra_done (by kernel_rfl) ?_
   refine cw_cond (b := (!(((x.Num.A == x1.Num.A) && ((x.Num.B == x1.Num.B) && ((x.Num.C == x1.Num.C) && ((x.Num.D == x1.Num.D) && true)))) && ((x.Exp == x1.Exp) && true)))) rfl (fun hb2 => ?_) (fun hb2 => ?_)
   ·skip
    have hF4 := ct hb1 hb2
    refine cq (cr ?_)
    refine sQ 4 (yg (.bool false)) (rn (ct_ ?_))
    obtain rfl := sI hF4
    obtain rfl := sI hL1
    obtain rfl := sI hF3
    exact ret1 Tryz.results140 (v1 := .bool false) (resAt_tmp rfl) ⟨rfl, (hS4.sN [])⟩
   ·skip
    have hF5 := cf' hb1 hb2
    refine cw_skip (cr ?_)
    refine sQ 44 (yP (i : Int) 1 rfl (hf.g 30 3)) <| sQ 30 (ym (vi (i64.wrap ((i : Int) + 1)))) (rn ?_)
    obtain rfl := sI hF5
    exact ⟨K7, Nat.lt_succ_self _, i + 1, (fc (hf.g 2 0) (fc (hf.g 3 1) (fc (hf.g 29 2) (fc (congrArg (Value.int .i64) (wr_succ hlt1 hN)) fn_)))), (hS4.sel [0, 1] rfl rfl), (by omega), hL1⟩
  ·skip
   obtain rfl : k_ = 0 := by have h := of_decide_eq_false hlt; omega
   refine cw_exit rfl ?_
   obtain rfl := sI hL
   refine cq (cr ?_)
   refine sQ 4 (yg (.bool true)) (rn (ct_ ?_))
   obtain rfl := sI hF3
   exact ret1 Tryz.results140 (v1 := .bool true) (resAt_tmp rfl) ⟨rfl, (hS3.sN [])⟩

theorem c_laws_qExact (a : TCircuit) (b : TCircuit) (B : Option Addr) (c n : Nat) (B1 : Option Addr) (c1 n1 : Nat) (w0 : World) (hn : a.Gates.length = n) (hn1 : b.Gates.length = n1) (hS : ST w0 [] w0 [] [⟨B, (a.Gates.flatMap eN0)⟩, ⟨B1, (b.Gates.flatMap eN0)⟩]) {r_ : Bool} (hF : F_laws_qExact a b = some r_) :
  CV Tryz.prog 41 #[.agg #[vi a.Qubits, .slice B n c], .agg #[vi b.Qubits, .slice B1 n1 c1]] w0 (fun v w' => v = .bool r_ ∧ ST w0 [] w' [] []) := by
 subst hn
 subst hn1
 unfold F_laws_qExact at hF
 refine cv_of_cw 31 Tryz.func41 rfl Tryz.ntmps41 rfl ?_
 refine cq (cr ?_)
 refine sS 2 (yB 28 (.agg #[vi a.Qubits, .slice B a.Gates.length c]) [vi a.Qubits, .slice B a.Gates.length c] 2 hS) ?_
 rintro _ w_ ⟨b1, rfl, hS1⟩
 refine sS 3 (yB 28 (.agg #[vi b.Qubits, .slice B1 b.Gates.length c1]) [vi b.Qubits, .slice B1 b.Gates.length c1] 2 hS1) ?_
 rintro _ w_1 ⟨b2, rfl, hS2⟩
 refine sQ 4 (yg (.bool false)) (rn (cq (cq (cr ?_))))
 refine sQ 9 (yd (aD b1) 0 0 K31 K0) <| sQ 10 (yl (aD b1) 0 [vi a.Qubits, .slice B a.Gates.length c] (vi a.Qubits) K1 (hS2.c 0)) <| sQ 11 (Y_gt (k := .i64) (a := a.Qubits) (b := 3) rfl rfl rfl) (rn ?_)
 refine cw_cond (b := (decide (3 < a.Qubits))) rfl (fun hb => ?_) (fun hb => ?_)
 ·skip
  have hF1 := ct hF hb
  refine cq (cr ?_)
  refine sQ 4 (yg (.bool true)) (rn (ct_ ?_))
  obtain rfl := sI hF1
  exact ret1 Tryz.results41 (v1 := .bool true) (resAt_tmp rfl) ⟨rfl, (hS2.sN [])⟩
 ·skip
  have hF2 := cf' hF hb
  refine cw_skip (cq (cr ?_))
  refine sQ 13 (yb (aD b1) 0 [vi a.Qubits, .slice B a.Gates.length c] K22 K11 (hS2.c 0)) ?_
  obtain ⟨⟨r_1, r_2⟩, hc, hF2⟩ := bI hF2
  refine sc 14 rfl rfl (yC [.agg #[vi a.Qubits, .slice B a.Gates.length c]] k_call_90 (c_impl_OperatorOf a B c a.Gates.length _ rfl (hS2.inn0 [(true, 0)] rfl) hc)) ?_
  rintro _ w_2 ⟨B2, c2, rfl, hd⟩
  have hS3 := hS2.out0 hd
  refine sQ 12 (ym (.tuple #[gM_ r_1 B2 c2, .bool r_2])) <| sQ 15 (ye (gM_ r_1 B2 c2)) <| sQ 16 (ye (.bool r_2)) ?_
  refine sS 5 (yN kN_ 3 hS3 K23) ?_
  rintro _ w_3 ⟨b3, rfl, hS4⟩
  refine s0 (yT 3 3 (aD b3) 81 (gM_ r_1 B2 c2) (kM_ r_1 B2 c2) 0 hS4 K8) ?_
  rintro _ w_4 ⟨rfl, hS5⟩
  refine sQ 6 (yg (.bool r_2)) (rn (cq (cr ?_)))
  refine sQ 18 (yb (aD b2) 0 [vi b.Qubits, .slice B1 b.Gates.length c1] K22 K11 (hS5.c 1)) ?_
  obtain ⟨⟨r_3, r_4⟩, hc1, hF2⟩ := bI hF2
  refine sc 19 rfl rfl (yC [.agg #[vi b.Qubits, .slice B1 b.Gates.length c1]] k_call_90 (c_impl_OperatorOf b B1 c1 b.Gates.length _ rfl (hS5.inn0 [(true, 1)] rfl) hc1)) ?_
  rintro _ w_5 ⟨B3, c3, rfl, hd1⟩
  have hS6 := hS5.out0 hd1
  refine sQ 17 (ym (.tuple #[gM_ r_3 B3 c3, .bool r_4])) <| sQ 20 (ye (gM_ r_3 B3 c3)) <| sQ 21 (ye (.bool r_4)) ?_
  refine sS 7 (yN kN_ 3 hS6 K23) ?_
  rintro _ w_6 ⟨b4, rfl, hS7⟩
  refine s0 (yT 5 3 (aD b4) 81 (gM_ r_3 B3 c3) (kM_ r_3 B3 c3) 0 hS7 K8) ?_
  rintro _ w_7 ⟨rfl, hS8⟩
  refine sQ 8 (yg (.bool r_4)) (rn (cq (cr ?_)))
  refine sQ 22 (ym (.bool r_2)) <| sQ 23 (ym (.bool r_2)) ?_
  refine sgq 24 (B := r_2) (v := .bool r_4) rfl rfl (uT_ 23) (fun hg => (ym (.bool r_4))) ?_
  refine sQ 25 (Y_and (b := r_2) (z := r_4) rfl rfl rfl rfl) <| sQ 26 (ym (.bool (r_2 && r_4))) ?_
  refine sgq 27 (B := (r_2 && r_4)) (v := gM_ r_1 B2 c2) rfl rfl (uT_ 26) (fun hg1 => (yb (aD b3) 0 (kM_ r_1 B2 c2) K17 K8 (hS8.c 3))) ?_
  refine sgq 28 (B := (r_2 && r_4)) (v := gM_ r_3 B3 c3) rfl rfl (uT_ 26) (fun hg2 => (yb (aD b4) 0 (kM_ r_3 B3 c3) K17 K8 (hS8.c 5))) ?_
  obtain ⟨r_5, hc2, hF2⟩ := bI hF2
  refine sgc 29 (B := (r_2 && r_4)) (v := .bool r_5) (F := hS8.fn) rfl rfl (uT_ 26) hS8 (fun hg3 => (yC [gM_ r_1 B2 c2, gM_ r_3 B3 c3] k_call_140 (CV.mono (c_spec_EqualMatrices r_1 r_3 B2 c2 r_1.Cells.length B3 c3 r_3.Cells.length _ rfl rfl (hS8.inn0 [(false, 2), (false, 4)] rfl) (gb_inv hc2 hg3)) (by rintro _ _ ⟨rfl, h⟩; exact ⟨rfl, hS8.out00 h⟩)) rfl (mc (gv_of (v := gM_ r_1 B2 c2) hg3) (mc (gv_of (v := gM_ r_3 B3 c3) hg3) mn)))) ?_
  rintro w_8 hS9
  refine sQ 30 (Y_and (b := (r_2 && r_4)) (z := r_5) rfl rfl rfl rfl) <| sQ 4 (yg (.bool ((r_2 && r_4) && r_5))) (rn (ct_ ?_))
  obtain rfl := sI hF2
  exact ret1 Tryz.results41 (v1 := .bool ((r_2 && r_4) && r_5)) (resAt_tmp rfl) ⟨rfl, (hS9.sN [])⟩
end Go.VK
