/- Walks: each Go function returns what its Lean function says. By program. -/
import Derived.Test.YtkmncijipedjaaaGreatDoorIsShortestFa
import Derived.Test.YtkmncijipedjaaaGreatDoorIsShortestShelf
import Derived.Test.YtkmncijipedjaaaGreatDoorLibU
import Derived.Test.YtkmncijipedjaaaGreatDoorIsShortestW1
set_option linter.unusedVariables false
set_option maxRecDepth 100000
set_option maxHeartbeats 4000000
namespace Go.VK
open Go.RowKit
open Go.Proofs
open Go.IntKind
attribute [local irreducible] CW RW RA CV Y Yw Yc Ys RetOf
attribute [local irreducible] F_spec_OperatorOf F_spec_ShortestWord F_spec_ShortestLength F_spec_IsShortest F_laws_toGate F_laws_toGateS F_laws_toCircuit F_impl_within F_impl_isDim F_impl_matrixOf F_impl_whole F_impl_IdentityMatrix_1 F_impl_IdentityMatrix F_slices_IndexFunc_impl_Gate_impl_Gate F_slices_ContainsFunc_impl_Gate_impl_Gate F_impl_isTwo F_impl_IsValidGate F_impl_IsValidCircuit_1 F_impl_IsValidCircuit F_impl_isCoef F_impl_IsValidRing F_impl_MulOmega F_impl_phase F_impl_bitOf F_impl_flipped F_impl_comesFrom F_impl_small F_impl_entry F_impl_GateMatrix_1 F_impl_GateMatrix F_slices_IndexFunc_impl_Dyadic_impl_Dyadic F_slices_ContainsFunc_impl_Dyadic_impl_Dyadic F_impl_isEven F_impl_IsValidDyadic F_impl_IsValidMatrix_1 F_impl_IsValidMatrix F_impl_ringIf F_impl_MulRing F_impl_DivRootTwo F_impl_DyadicOf F_impl_MulDyadic F_impl_Matrix_at F_impl_MulRootTwo F_impl_raised F_impl_combined F_impl_AddRing F_impl_AddDyadic F_impl_MulMatrix_1 F_impl_MulMatrix F_impl_applied F_impl_OperatorOf F_impl_CanonicalPhase_1 F_cmp_isNaN_int F_cmp_Compare_int F_slices_Compare_int_int F_impl_compareRings F_impl_ScaleMatrix_1 F_impl_ScaleMatrix
theorem c_spec_ShortestLength (c : TCircuit) (B : Option Addr) (c1 n : Nat) (w0 : World) (hn : c.Gates.length = n) (hS : ST w0 [] w0 [] [⟨B, (c.Gates.flatMap eN0)⟩]) {r_ : Int} {r_1 : Bool} (hF : F_spec_ShortestLength c = some (r_, r_1)) :
  CV Tryz.prog 13 #[.agg #[vi c.Qubits, .slice B n c1]] w0 (fun v w' => v = .tuple #[vi r_, .bool r_1] ∧ ST w0 [] w' [] []) := by
 subst hn
 unfold F_spec_ShortestLength at hF
 refine cv_of_cw 25 Tryz.func13 rfl Tryz.ntmps13 rfl ?_
 refine cq (cr ?_)
 refine sS 1 (yB 30 (.agg #[vi c.Qubits, .slice B c.Gates.length c1]) [vi c.Qubits, .slice B c.Gates.length c1] 2 hS) ?_
 rintro _ w_ ⟨b, rfl, hS1⟩
 refine sQ 2 (yg (vi 0)) <| sQ 3 (yg (.bool false)) (rn (cq (cr ?_)))
 refine sQ 9 (yb (aD b) 0 [vi c.Qubits, .slice B c.Gates.length c1] K27 K18 (hS1.c 0)) ?_
 obtain ⟨⟨r_2, r_3⟩, hc, hF⟩ := bI hF
 refine sc 10 rfl rfl (yC [.agg #[vi c.Qubits, .slice B c.Gates.length c1]] k_call_22 (c_spec_OperatorOf c B c1 c.Gates.length _ rfl (hS1.inn0 [(true, 0)] rfl) hc)) ?_
 rintro _ w_1 ⟨B1, c2, rfl, hd⟩
 have hS2 := hS1.out0 hd
 refine sQ 8 (ym (.tuple #[gM_ r_2 B1 c2, .bool r_3])) <| sQ 11 (ye (gM_ r_2 B1 c2)) <| sQ 12 (ye (.bool r_3)) ?_
 refine sS 4 (yN kN_ 3 hS2 K13) ?_
 rintro _ w_2 ⟨b1, rfl, hS3⟩
 refine s0 (yT 2 3 (aD b1) 50 (gM_ r_2 B1 c2) (kM_ r_2 B1 c2) 0 hS3 K4) ?_
 rintro _ w_3 ⟨rfl, hS4⟩
 refine sQ 5 (yg (.bool r_3)) (rn (cq (cq (cr ?_))))
 refine sQ 13 (ym (.bool r_3)) <| sQ 14 (Y_not (p := r_3) rfl rfl) (rn ?_)
 refine cw_cond (b := (!r_3)) rfl (fun hb => ?_) (fun hb => ?_)
 ·skip
  have hF1 := ct hF hb
  refine cq (cr ?_)
  refine sQ 2 (yg (vi 0)) <| sQ 3 (yg (.bool false)) (rn (ct_ ?_))
  obtain ⟨rfl, rfl⟩ := pr2 (sI hF1)
  exact ret2 Tryz.results13 (v1 := vi 0) (resAt_tmp rfl) (v2 := .bool false) (resAt_tmp rfl) ⟨rfl, (hS4.sN [])⟩
 ·skip
  have hF2 := cf' hF hb
  refine cw_skip (cq (cr ?_))
  refine sQ 16 (yb (aD b1) 0 (kM_ r_2 B1 c2) K9 K4 (hS4.c 2)) ?_
  obtain ⟨⟨r_4, r_5⟩, hc1, hF2⟩ := bI hF2
  refine sc 17 rfl rfl (yC [gM_ r_2 B1 c2] k_call_23 (c_spec_ShortestWord r_2 B1 c2 r_2.Cells.length _ rfl (hS4.inn0 [(false, 1)] rfl) hc1)) ?_
  rintro _ w_4 ⟨B2, c3, rfl, hd1⟩
  have hS5 := hS4.out0 hd1
  refine sQ 15 (ym (.tuple #[.agg #[vi r_4.Qubits, .slice B2 r_4.Gates.length c3], .bool r_5])) <| sQ 18 (ye (.agg #[vi r_4.Qubits, .slice B2 r_4.Gates.length c3])) <| sQ 19 (ye (.bool r_5)) ?_
  refine sS 6 (yN [vi 0, .slice none 0 0] 2 hS5 K40) ?_
  rintro _ w_5 ⟨b2, rfl, hS6⟩
  refine s0 (yT 4 2 (aD b2) 30 (.agg #[vi r_4.Qubits, .slice B2 r_4.Gates.length c3]) [vi r_4.Qubits, .slice B2 r_4.Gates.length c3] 0 hS6 K18) ?_
  rintro _ w_6 ⟨rfl, hS7⟩
  refine sQ 7 (yg (.bool r_5)) (rn (cq (cq (cr ?_))))
  refine sQ 20 (ym (.bool r_5)) <| sQ 21 (Y_not (p := r_5) rfl rfl) (rn ?_)
  refine cw_cond (b := (!r_5)) rfl (fun hb1 => ?_) (fun hb1 => ?_)
  ·skip
   have hF3 := ct hF2 hb1
   refine cq (cr ?_)
   refine sQ 2 (yg (vi 0)) <| sQ 3 (yg (.bool false)) (rn (ct_ ?_))
   obtain ⟨rfl, rfl⟩ := pr2 (sI hF3)
   exact ret2 Tryz.results13 (v1 := vi 0) (resAt_tmp rfl) (v2 := .bool false) (resAt_tmp rfl) ⟨rfl, (hS7.sN [])⟩
  ·skip
   have hF4 := cf' hF2 hb1
   refine cw_skip (cq (cr ?_))
   refine sQ 22 (yd (aD b2) 0 0 K44 K39) <| sQ 23 (yl (aD b2) 1 [vi r_4.Qubits, .slice B2 r_4.Gates.length c3] (.slice B2 r_4.Gates.length c3) K43 (hS7.c 4)) <| sQ 24 (Y_len (B := B2) (m := r_4.Gates.length) (c := c3) K11 rfl rfl) <| sQ 2 (yg (vi (r_4.Gates.length : Int))) <| sQ 3 (yg (.bool true)) (rn (ct_ ?_))
   obtain ⟨rfl, rfl⟩ := pr2 (sI hF4)
   exact ret2 Tryz.results13 (v1 := vi (r_4.Gates.length : Int)) (resAt_tmp rfl) (v2 := .bool true) (resAt_tmp rfl) ⟨rfl, (hS7.sN [])⟩

theorem c_spec_IsShortest (c : TCircuit) (B : Option Addr) (c1 n : Nat) (w0 : World) (hn : c.Gates.length = n) (hS : ST w0 [] w0 [] [⟨B, (c.Gates.flatMap eN0)⟩]) {r_ : Bool} {r_1 : Bool} (hF : F_spec_IsShortest c = some (r_, r_1)) :
  CV Tryz.prog 7 #[.agg #[vi c.Qubits, .slice B n c1]] w0 (fun v w' => v = .tuple #[.bool r_, .bool r_1] ∧ ST w0 [] w' [] []) := by
 subst hn
 unfold F_spec_IsShortest at hF
 refine cv_of_cw 18 Tryz.func7 rfl Tryz.ntmps7 rfl ?_
 refine cq (cr ?_)
 refine sS 1 (yB 30 (.agg #[vi c.Qubits, .slice B c.Gates.length c1]) [vi c.Qubits, .slice B c.Gates.length c1] 2 hS) ?_
 rintro _ w_ ⟨b, rfl, hS1⟩
 refine sQ 2 (yg (.bool false)) <| sQ 3 (yg (.bool false)) (rn (cq (cr ?_)))
 refine sQ 7 (yb (aD b) 0 [vi c.Qubits, .slice B c.Gates.length c1] K27 K18 (hS1.c 0)) ?_
 obtain ⟨⟨r_2, r_3⟩, hc, hF⟩ := bI hF
 refine sc 8 rfl rfl (yC [.agg #[vi c.Qubits, .slice B c.Gates.length c1]] k_call_13 (c_spec_ShortestLength c B c1 c.Gates.length _ rfl (hS1.inn0 [(true, 0)] rfl) hc)) ?_
 rintro _ w_1 ⟨rfl, hd⟩
 have hS2 := hS1.out00 hd
 refine sQ 6 (ym (.tuple #[vi r_2, .bool r_3])) <| sQ 9 (ye (vi r_2)) <| sQ 10 (ye (.bool r_3)) <| sQ 4 (yg (vi r_2)) <| sQ 5 (yg (.bool r_3)) (rn (cq (cq (cr ?_))))
 refine sQ 11 (ym (.bool r_3)) <| sQ 12 (Y_not (p := r_3) rfl rfl) (rn ?_)
 refine cw_cond (b := (!r_3)) rfl (fun hb => ?_) (fun hb => ?_)
 ·skip
  have hF1 := ct hF hb
  refine cq (cr ?_)
  refine sQ 2 (yg (.bool false)) <| sQ 3 (yg (.bool false)) (rn (ct_ ?_))
  obtain ⟨rfl, rfl⟩ := pr2 (sI hF1)
  exact ret2 Tryz.results7 (v1 := .bool false) (resAt_tmp rfl) (v2 := .bool false) (resAt_tmp rfl) ⟨rfl, (hS2.sN [])⟩
 ·skip
  have hF2 := cf' hF hb
  refine cw_skip (cq (cr ?_))
  refine sQ 13 (ym (vi r_2)) <| sQ 14 (yd (aD b) 0 0 K44 K39) <| sQ 15 (yl (aD b) 1 [vi c.Qubits, .slice B c.Gates.length c1] (.slice B c.Gates.length c1) K43 (hS2.c 0)) <| sQ 16 (Y_len (B := B) (m := c.Gates.length) (c := c1) K11 rfl rfl) <| sQ 17 (yE r_2 (c.Gates.length : Int)) <| sQ 2 (yg (.bool (r_2 == (c.Gates.length : Int)))) ?_
  refine sQ 3 (yg (.bool true)) (rn (ct_ ?_))
  obtain ⟨rfl, rfl⟩ := pr2 (sI hF2)
  exact ret2 Tryz.results7 (v1 := .bool (r_2 == (c.Gates.length : Int))) (resAt_tmp rfl) (v2 := .bool true) (resAt_tmp rfl) ⟨rfl, (hS2.sN [])⟩

theorem c_laws_toGate (a : TGate)  (w0 : World)  (hS : ST w0 [] w0 [] []) {r_ : TGate} (hF : F_laws_toGate a = some r_) :
  CV Tryz.prog 26 #[.agg #[vi a.Kind, vi a.A, vi a.B]] w0 (fun v w' => v = .agg #[vi r_.Kind, vi r_.A, vi r_.B] ∧ ST w0 [] w' [] []) := by
 unfold F_laws_toGate at hF
 refine cv_of_cw 14 Tryz.func26 rfl Tryz.ntmps26 rfl ?_
 refine cq (cr ?_)
 refine sS 1 (yB 58 (.agg #[vi a.Kind, vi a.A, vi a.B]) [vi a.Kind, vi a.A, vi a.B] 3 hS) ?_
 rintro _ w_ ⟨b, rfl, hS1⟩
 refine sS 2 (yN [vi 0, vi 0, vi 0] 3 hS1 K20) ?_
 rintro _ w_1 ⟨b1, rfl, hS2⟩
 refine rn (cq (cr ?_))
 refine sS 3 (yN [vi 0, vi 0, vi 0] 3 hS2 K20) ?_
 rintro _ w_2 ⟨b2, rfl, hS3⟩
 refine rn (cq (cr ?_))
 refine sQ 4 (yd (aD b) 0 0 k_fd_58_0_0_3 K1) <| sQ 5 (yl (aD b) 0 [vi a.Kind, vi a.A, vi a.B] (vi a.Kind) K0 (hS3.c 0)) <| sQ 6 (yd (aD b2) 0 0 K38 K1) ?_
 refine s0 (yS 2 1 (aD b2) 56 (vi a.Kind) [vi a.Kind] 0 [vi a.Kind, vi 0, vi 0] hS3 K1) ?_
 rintro _ w_3 ⟨rfl, hS4⟩
 refine rn (cq (cr ?_))
 refine sQ 7 (yd (aD b) 0 0 k_fd_58_1_1_3 K1) <| sQ 8 (yl (aD b) 1 [vi a.Kind, vi a.A, vi a.B] (vi a.A) K0 (hS4.c 0)) <| sQ 9 (yd (aD b2) 0 0 K26 K1) ?_
 refine s0 (yS 2 1 (aD b2) 56 (vi a.A) [vi a.A] 1 [vi a.Kind, vi a.A, vi 0] hS4 K1) ?_
 rintro _ w_4 ⟨rfl, hS5⟩
 refine rn (cq (cr ?_))
 refine sQ 10 (yd (aD b) 0 0 k_fd_58_2_2_3 K1) <| sQ 11 (yl (aD b) 2 [vi a.Kind, vi a.A, vi a.B] (vi a.B) K0 (hS5.c 0)) <| sQ 12 (yd (aD b2) 0 0 K35 K1) ?_
 refine s0 (yS 2 1 (aD b2) 56 (vi a.B) [vi a.B] 2 [vi a.Kind, vi a.A, vi a.B] hS5 K1) ?_
 rintro _ w_5 ⟨rfl, hS6⟩
 refine rn (cq (cr ?_))
 refine sQ 13 (yb (aD b2) 0 [vi a.Kind, vi a.A, vi a.B] K31 K10 (hS6.c 2)) ?_
 refine s0 (yT 1 3 (aD b1) 56 (.agg #[vi a.Kind, vi a.A, vi a.B]) [vi a.Kind, vi a.A, vi a.B] 0 hS6 K10) ?_
 rintro _ w_6 ⟨rfl, hS7⟩
 refine rn (ct_ ?_)
 obtain rfl := sI hF
 exact ret1 Tryz.results26 (v1 := .agg #[vi a.Kind, vi a.A, vi a.B]) (resAt_cellA (B := aD b1) (i := 0) (cs := [vi a.Kind, vi a.A, vi a.B]) (vs := [vi a.Kind, vi a.A, vi a.B]) rfl K31 K10 (hS7.c 1) rfl rfl) ⟨rfl, (hS7.sN [])⟩

theorem c_laws_toGateS (a : List TGate) (B : Option Addr) (c n : Nat) (w0 : World) (hn : a.length = n) (hS : ST w0 [] w0 [] [⟨B, (a.flatMap eN0)⟩]) {r_ : List TGate} (hF : F_laws_toGateS a = some r_) :
  CV Tryz.prog 16 #[.slice B n c] w0 (fun v w' => ∃ (B1 : Option Addr) (c1 : Nat), v = .slice B1 r_.length c1 ∧ ST w0 [] w' [⟨B1, 56, (r_.flatMap eN0), c1 * 3⟩] []) := by
 subst hn
 unfold F_laws_toGateS at hF
 refine cv_of_cw 23 Tryz.func16 rfl Tryz.ntmps16 rfl ?_
 refine cq (cr ?_)
 refine sQ 2 (yg (.slice none 0 0)) (rn (cq (cr ?_)))
 refine sQ 5 (ym (.slice B a.length c)) <| sQ 6 (Y_len (B := B) (m := a.length) (c := c) K80 rfl rfl) ?_
 obtain ⟨hmk, hF⟩ := chk_inv hF
 refine sS 7 (Ys_make (s := 3) (by' := 24) (nn := a.length) (a := (a.length : Int)) (b := (a.length : Int)) (cs := ((List.replicate a.length (TGate.mk 0 0 0)).flatMap eN0)) hS K11 K10 K46 K20 rfl rfl rfl rfl hmk.1 rfl (by have := hmk; omega) (by have := hmk; omega) (by omega) (fm_rep (enc := eN0) (d := (TGate.mk 0 0 0)) rfl _)) ?_
 rintro _ w_ ⟨b, rfl, hS1⟩
 refine sQ 3 (yg (.slice (aD b) a.length a.length)) (rn (cq (cq (cr ?_))))
 refine sQ 4 (yg (vi 0)) (rn ?_)
 obtain ⟨hN, hF⟩ := chk_inv hF
 obtain ⟨z, hz, hF1⟩ := bI hF
 refine cw_block ?_
 refine cw_loop (fun k f w => ∃ (i1 : Nat) (out : List TGate), FF f [(0, .slice B a.length c), (3, .slice (aD b) a.length a.length), (4, vi (i1 : Int))] ∧ out.length = a.length ∧ ST w0 [] w [⟨aD b, 56, (out.flatMap eN0), a.length * 3⟩] [⟨B, (a.flatMap eN0)⟩] ∧ i1 + k = a.length ∧ forN (F_laws_toGateS_l1 a) k i1 out = some z) a.length ⟨0, (List.replicate a.length (TGate.mk 0 0 0)), (fc rfl (fc rfl (fc rfl fn_))), List.length_replicate, (hS1.sel [0] rfl rfl), Nat.zero_add _, hz⟩ ?_
 rintro k_ f w ⟨i1, out, hf, hl, hS2, hik, hL⟩
 refine cq (cq (cr ?_))
 refine sQ 8 (ym (vi (i1 : Int)) rfl (hf.g 4 2)) <| sQ 9 (ym (.slice B a.length c) rfl (hf.g 0 0)) <| sQ 10 (Y_len (B := B) (m := a.length) (c := c) K80 rfl rfl) <| sQ 11 (yL (i1 : Int) (a.length : Int)) (rn ?_)
 refine cw_cond (b := (decide ((i1 : Int) < (a.length : Int)))) rfl (fun hlt => ?_) (fun hlt => ?_)
 ·skip
  have hlt1 : i1 < a.length := by have h := of_decide_eq_true hlt; omega
  obtain ⟨K7, rfl⟩ : ∃ k2, k_ = k2 + 1 := ⟨k_ - 1, by omega⟩
  obtain ⟨y, hb, hL1⟩ := forN_go hL
  unfold F_laws_toGateS_l1 at hb
  refine cw_skip (cq (cw_block (cr ?_)))
  refine sQ 14 (ym (.slice (aD b) a.length a.length) rfl (hf.g 3 1)) <| sQ 15 (ym (vi (i1 : Int)) rfl (hf.g 4 2)) <| sQ 16 (ym (.slice B a.length c) rfl (hf.g 0 0)) <| sQ 17 (ym (vi (i1 : Int)) rfl (hf.g 4 2)) ?_
  obtain ⟨x, hx, hb⟩ := bI hb
  refine sQ 18 (Y_index (B := B) (m := a.length) (c := c) (k := .i64) (i := (i1 : Int)) K80 k_sz_58_3 rfl rfl rfl (gi_isSome enc_Gate_len rfl (hS2.rf (i := 0) rfl) hx) (getI_nn hx) (getI_ltI hx rfl)) <| sQ 19 (ya B ((i1 : Int).toNat * 3) (a.flatMap eN0) [vi x.Kind, vi x.A, vi x.B] k_ag_58 k_sz_58_3 (hS2.rf (i := 0) rfl) rfl rfl (enc_Gate_len x) (gi_seg enc_Gate_len hx)) ?_
  obtain ⟨r_1, hc, hb⟩ := bI hb
  refine sc 20 rfl rfl (yC [.agg #[vi x.Kind, vi x.A, vi x.B]] k_call_26 (c_laws_toGate x _  (hS2.inn0 [] rfl) hc)) ?_
  rintro _ w_1 ⟨rfl, hd⟩
  have hS3 := hS2.out00 hd
  obtain ⟨x1, hx1, hb⟩ := bI hb
  refine sQ 21 (Y_index (B := aD b) (m := a.length) (c := a.length) (k := .i64) (i := (i1 : Int)) K11 K10 rfl rfl rfl (gi_isSome enc_Gate_len rfl (hS3.c 0) hx1) (getI_nn hx1) (getI_ltI hx1 hl)) ?_
  refine s0 (yS 0 3 (aD b) 56 (.agg #[vi r_1.Kind, vi r_1.A, vi r_1.B]) [vi r_1.Kind, vi r_1.A, vi r_1.B] ((i1 : Int).toNat * 3) ((out.set (i1 : Int).toNat r_1).flatMap eN0) hS3 K10 rfl rfl rfl rfl rfl rfl rfl (gi_fit0 enc_Gate_len hx1) (gi_set enc_Gate_len hx1 r_1 rfl)) ?_
  rintro _ w_2 ⟨rfl, hS4⟩
  refine rn (cr ?_)
  refine sQ 12 (ym (vi (i1 : Int)) rfl (hf.g 4 2)) <| sQ 13 (yP (i1 : Int) 1) <| sQ 4 (yg (vi (i64.wrap ((i1 : Int) + 1)))) (rn ?_)
  obtain rfl := sI hb
  exact ⟨K7, Nat.lt_succ_self _, i1 + 1, (out.set (i1 : Int).toNat r_1), (fc (hf.g 0 0) (fc (hf.g 3 1) (fc (congrArg (Value.int .i64) (wr_succ hlt1 hN)) fn_))), (set_len _ _ _ hl), (hS4.sel [0] rfl rfl), (by omega), hL1⟩
 ·skip
  obtain rfl : k_ = 0 := by have h := of_decide_eq_false hlt; omega
  refine cw_exit rfl ?_
  obtain rfl := sI hL
  refine cq (cr ?_)
  refine sQ 22 (ym (.slice (aD b) a.length a.length) rfl (hf.g 3 1)) <| sQ 2 (yg (.slice (aD b) a.length a.length)) (rn (ct_ ?_))
  obtain rfl := sI hF1
  exact ret1 Tryz.results16 (v1 := .slice (aD b) a.length a.length) (resAt_tmp rfl) ⟨aD b, a.length, (sl_eqv hl), (hS2.sN [0])⟩

theorem c_laws_toCircuit (a : TCircuit) (B : Option Addr) (c n : Nat) (w0 : World) (hn : a.Gates.length = n) (hS : ST w0 [] w0 [] [⟨B, (a.Gates.flatMap eN0)⟩]) {r_ : TCircuit} (hF : F_laws_toCircuit a = some r_) :
  CV Tryz.prog 8 #[.agg #[vi a.Qubits, .slice B n c]] w0 (fun v w' => ∃ (B1 : Option Addr) (c1 : Nat), v = .agg #[vi r_.Qubits, .slice B1 r_.Gates.length c1] ∧ ST w0 [] w' [⟨B1, 56, (r_.Gates.flatMap eN0), c1 * 3⟩] []) := by
 subst hn
 unfold F_laws_toCircuit at hF
 refine cv_of_cw 12 Tryz.func8 rfl Tryz.ntmps8 rfl ?_
 refine cq (cr ?_)
 refine sS 1 (yB 24 (.agg #[vi a.Qubits, .slice B a.Gates.length c]) [vi a.Qubits, .slice B a.Gates.length c] 2 hS) ?_
 rintro _ w_ ⟨b, rfl, hS1⟩
 refine sS 2 (yN [vi 0, .slice none 0 0] 2 hS1 K40) ?_
 rintro _ w_1 ⟨b1, rfl, hS2⟩
 refine rn (cq (cr ?_))
 refine sS 3 (yN [vi 0, .slice none 0 0] 2 hS2 K40) ?_
 rintro _ w_2 ⟨b2, rfl, hS3⟩
 refine rn (cq (cr ?_))
 refine sQ 4 (yd (aD b) 0 0 k_fd_24_0_0_3 K1) <| sQ 5 (yl (aD b) 0 [vi a.Qubits, .slice B a.Gates.length c] (vi a.Qubits) K0 (hS3.c 0)) <| sQ 6 (yd (aD b2) 0 0 K49 K1) ?_
 refine s0 (yS 2 1 (aD b2) 30 (vi a.Qubits) [vi a.Qubits] 0 [vi a.Qubits, .slice none 0 0] hS3 K1) ?_
 rintro _ w_3 ⟨rfl, hS4⟩
 refine rn (cq (cr ?_))
 refine sQ 7 (yd (aD b) 0 0 k_fd_24_1_1_22 k_sz_22_1) <| sQ 8 (yl (aD b) 1 [vi a.Qubits, .slice B a.Gates.length c] (.slice B a.Gates.length c) k_sc_22 (hS4.c 0)) ?_
 obtain ⟨r_1, hc, hF⟩ := bI hF
 refine sc 9 rfl rfl (yC [.slice B a.Gates.length c] k_call_16 (c_laws_toGateS a.Gates B c a.Gates.length _ rfl (hS4.inn0 [(true, 0)] rfl) hc)) ?_
 rintro _ w_4 ⟨B2, c2, rfl, hd⟩
 have hS5 := hS4.out0 hd
 refine sQ 10 (yd (aD b2) 0 0 K44 K39) ?_
 refine s0 (yS 2 1 (aD b2) 30 (.slice B2 r_1.length c2) [.slice B2 r_1.length c2] 1 [vi a.Qubits, .slice B2 r_1.length c2] hS5 K39) ?_
 rintro _ w_5 ⟨rfl, hS6⟩
 refine rn (cq (cr ?_))
 refine sQ 11 (yb (aD b2) 0 [vi a.Qubits, .slice B2 r_1.length c2] K27 K18 (hS6.c 2)) ?_
 refine s0 (yT 1 2 (aD b1) 30 (.agg #[vi a.Qubits, .slice B2 r_1.length c2]) [vi a.Qubits, .slice B2 r_1.length c2] 0 hS6 K18) ?_
 rintro _ w_6 ⟨rfl, hS7⟩
 refine rn (ct_ ?_)
 obtain rfl := sI hF
 exact ret1 Tryz.results8 (v1 := .agg #[vi a.Qubits, .slice B2 r_1.length c2]) (resAt_cellA (B := aD b1) (i := 0) (cs := [vi a.Qubits, .slice B2 r_1.length c2]) (vs := [vi a.Qubits, .slice B2 r_1.length c2]) rfl K27 K18 (hS7.c 1) rfl rfl) ⟨B2, c2, rfl, (hS7.sN [3])⟩

theorem c_impl_within (n : Int) (low : Int) (high : Int)  (w0 : World)  (hS : ST w0 [] w0 [] []) {r_ : Bool} (hF : F_impl_within n low high = some r_) :
  CV Tryz.prog 20 #[vi n, vi low, vi high] w0 (fun v w' => v = .bool r_ ∧ ST w0 [] w' [] []) := by
 unfold F_impl_within at hF
 refine cv_of_cw 15 Tryz.func20 rfl Tryz.ntmps20 rfl ?_
 refine cq (cr ?_)
 refine sQ 6 (yg (.bool false)) (rn (cq (cr ?_)))
 refine sQ 7 (ym (vi low)) <| sQ 8 (ym (vi n)) <| sQ 9 (Y_le (k := .i64) (a := low) (b := n) rfl rfl rfl) <| sQ 10 (ym (.bool (decide (low ≤ n)))) ?_
 refine sgq 11 (B := (decide (low ≤ n))) (v := vi n) rfl rfl (uT_ 10) (fun hg => (ym (vi n))) ?_
 refine sgq 12 (B := (decide (low ≤ n))) (v := vi high) rfl rfl (uT_ 10) (fun hg1 => (ym (vi high))) ?_
 refine sgq 13 (B := (decide (low ≤ n))) (v := .bool (decide (n ≤ high))) rfl rfl (uT_ 10) (fun hg2 => (Y_le (k := .i64) (a := n) (b := high) rfl (gv_of (v := vi n) hg2) (gv_of (v := vi high) hg2))) ?_
 refine sQ 14 (Y_and (b := (decide (low ≤ n))) (z := (decide (n ≤ high))) rfl rfl rfl rfl) <| sQ 6 (yg (.bool ((decide (low ≤ n)) && (decide (n ≤ high))))) (rn (ct_ ?_))
 obtain rfl := sI hF
 exact ret1 Tryz.results20 (v1 := .bool ((decide (low ≤ n)) && (decide (n ≤ high)))) (resAt_tmp rfl) ⟨rfl, (hS.sN [])⟩

theorem c_impl_isDim (n : Int)  (w0 : World)  (hS : ST w0 [] w0 [] []) {r_ : Bool} (hF : F_impl_isDim n = some r_) :
  CV Tryz.prog 88 #[vi n] w0 (fun v w' => v = .bool r_ ∧ ST w0 [] w' [] []) := by
 unfold F_impl_isDim at hF
 refine cv_of_cw 12 Tryz.func88 rfl Tryz.ntmps88 rfl ?_
 refine cq (cr ?_)
 refine sQ 2 (yg (.bool false)) (rn (cq (cr ?_)))
 refine sQ 3 (ym (vi n)) ?_
 obtain ⟨r_1, hc, hF⟩ := bI hF
 refine sc 4 rfl rfl (yC [vi n, vi 1, vi 32] K50 (c_impl_within n 1 32 _  (hS.inn0 [] rfl) hc)) ?_
 rintro _ w_ ⟨rfl, hd⟩
 have hS1 := hS.out00 hd
 refine sQ 5 (ym (.bool r_1)) ?_
 refine sgq 6 (B := r_1) (v := vi n) rfl rfl (uT_ 5) (fun hg => (ym (vi n))) ?_
 refine sgq 7 (B := r_1) (v := vi n) rfl rfl (uT_ 5) (fun hg1 => (ym (vi n))) ?_
 refine sgq 8 (B := r_1) (v := vi (i64.wrap (n - 1))) rfl rfl (uT_ 5) (fun hg2 => (yM n 1 rfl (gv_of (v := vi n) hg2))) ?_
 refine sgq 9 (B := r_1) (v := vi (bits .and .i64 n (i64.wrap (n - 1)))) rfl rfl (uT_ 5) (fun hg3 => (Y_band (k := .i64) (a := n) (b := (i64.wrap (n - 1))) rfl (gv_of (v := vi n) hg3) (gv_of (v := vi (i64.wrap (n - 1))) hg3))) ?_
 refine sgq 10 (B := r_1) (v := .bool ((bits .and .i64 n (i64.wrap (n - 1))) == 0)) rfl rfl (uT_ 5) (fun hg4 => (yE (bits .and .i64 n (i64.wrap (n - 1))) 0 rfl (gv_of (v := vi (bits .and .i64 n (i64.wrap (n - 1)))) hg4))) ?_
 refine sQ 11 (Y_and (b := r_1) (z := ((bits .and .i64 n (i64.wrap (n - 1))) == 0)) rfl rfl rfl rfl) <| sQ 2 (yg (.bool (r_1 && ((bits .and .i64 n (i64.wrap (n - 1))) == 0)))) (rn (ct_ ?_))
 obtain rfl := sI hF
 exact ret1 Tryz.results88 (v1 := .bool (r_1 && ((bits .and .i64 n (i64.wrap (n - 1))) == 0))) (resAt_tmp rfl) ⟨rfl, (hS1.sN [])⟩

theorem c_impl_matrixOf (rows : Int) (cols : Int) (cell : Int → Int → Option (TDyadic × Bool)) (kf : Nat) (caps : Array Value) (Rf : List Ro) (w0 : World) (hk : callB Tryz.prog kf = true) (hp : ∀ (w : World), ST w [] w [] Rf → ∀ (x : Int) (x1 : Int) (y1 : TDyadic) (y2 : Bool), cell x x1 = some (y1, y2) → CV Tryz.prog kf ((vi x) :: (vi x1) :: caps.toList).toArray w (fun v w' => v = .tuple #[gD_ y1, .bool y2] ∧ ST w [] w' [] [])) (hS : ST w0 [] w0 [] (Rf)) {r_ : TMatrix} {r_1 : Bool} (hF : F_impl_matrixOf rows cols cell = some (r_, r_1)) :
  CV Tryz.prog 54 #[vi rows, vi cols, .func (.func kf) #[] caps] w0 (fun v w' => ∃ (B : Option Addr) (c : Nat), v = .tuple #[gM_ r_ B c, .bool r_1] ∧ ST w0 [] w' [⟨B, 91, (r_.Cells.flatMap eN1), c * 5⟩] []) := by
 unfold F_impl_matrixOf at hF
 refine cv_of_cw 52 Tryz.func54 rfl Tryz.ntmps54 rfl ?_
 refine cq (cr ?_)
 refine sS 6 (yN kN_ 3 hS K13) ?_
 rintro _ w_ ⟨b, rfl, hS1⟩
 refine sQ 7 (yg (.bool false)) (rn (cq (cr ?_)))
 refine sQ 13 (ym (vi rows)) <| sQ 14 (ym (vi cols)) <| sQ 15 (Y_buildS (zs := kN_) (vs := [(0, vi rows), (1, vi cols)]) (cs := [vi rows, vi cols, .slice none 0 0]) K47 K13 rfl (mpc rfl (mpc rfl mpn)) rfl) ?_
 refine sS 8 (yN kN_ 3 hS1 K13) ?_
 rintro _ w_1 ⟨b1, rfl, hS2⟩
 refine s0 (yT 1 3 (aD b1) 50 (.agg #[vi rows, vi cols, .slice none 0 0]) [vi rows, vi cols, .slice none 0 0] 0 hS2 K4) ?_
 rintro _ w_2 ⟨rfl, hS3⟩
 refine rn (cq (cq (cr ?_)))
 refine sQ 16 (ym (vi rows)) ?_
 obtain ⟨r_2, hc, hF⟩ := bI hF
 refine sc 17 rfl rfl (yC [vi rows] K81 (c_impl_isDim rows _  (hS3.inn0 [] rfl) hc)) ?_
 rintro _ w_3 ⟨rfl, hd⟩
 have hS4 := hS3.out00 hd
 refine sQ 18 (Y_not (p := r_2) rfl rfl) <| sQ 19 (ym (.bool (!r_2))) ?_
 refine sgq 20 (B := (!(!r_2))) (v := vi cols) rfl rfl (uF_ 19) (fun hg => (ym (vi cols))) ?_
 obtain ⟨r_3, hc1, hF⟩ := bI hF
 refine sgc 21 (B := (!(!r_2))) (v := .bool r_3) (F := hS4.fn) rfl rfl (uF_ 19) hS4 (fun hg1 => (yC [vi cols] K81 (CV.mono (c_impl_isDim cols _  (hS4.inn0 [] rfl) (gb_inv hc1 hg1)) (by rintro _ _ ⟨rfl, h⟩; exact ⟨rfl, hS4.out00 h⟩)) rfl (mc (gv_of (v := vi cols) hg1) mn))) ?_
 rintro w_4 hS5
 refine sgq 22 (B := (!(!r_2))) (v := .bool (!r_3)) rfl rfl (uF_ 19) (fun hg2 => (Y_not (p := r_3) rfl (gv_of (v := .bool r_3) hg2))) ?_
 refine sQ 23 (Y_or (b := (!r_2)) (z := (!r_3)) rfl rfl rfl rfl) (rn ?_)
 refine cw_cond (b := ((!r_2) || (!r_3))) rfl (fun hb => ?_) (fun hb => ?_)
 ·skip
  have hF1 := ct hF hb
  refine cq (cr ?_)
  refine sQ 24 (Y_buildS (zs := kN_) (vs := []) (cs := kN_) K47 K13 rfl mpn rfl) ?_
  refine s0 (yT 0 3 (aD b) 50 gN_ kN_ 0 hS5 K4) ?_
  rintro _ w_5 ⟨rfl, hS6⟩
  refine sQ 7 (yg (.bool false)) (rn (ct_ ?_))
  have hS7 := hS6.addNil 91
  obtain ⟨rfl, rfl⟩ := pr2 (sI hF1)
  exact ret2 Tryz.results54 (v1 := gN_) (resAt_cellA (B := aD b) (i := 0) (cs := kN_) (vs := kN_) rfl K9 K4 (hS7.c 0) rfl rfl) (v2 := .bool false) (resAt_tmp rfl) ⟨none, 0, rfl, (hS7.sN [2])⟩
 ·skip
  have hF2 := cf' hF hb
  refine cw_skip (cq (cq (cr ?_)))
  refine sQ 25 (ym (vi rows)) <| sQ 26 (ym (vi 0)) (rn ?_)
  obtain ⟨hN, hF2⟩ := chk_inv hF2
  obtain ⟨z, hz, hF3⟩ := bI hF2
  have hS9 := hS5.addNil 91
  refine cw_block ?_
  refine cw_loop (fun k f w => ∃ (i : Nat) (Cells : List TDyadic) (B1 : Option Addr) (c1 : Nat), FF f [(1, vi cols), (2, .func (.func kf) #[] caps), (6, pt (aD b) 0), (8, pt (aD b1) 0), (25, vi rows), (26, vi (i : Int))] ∧ ST w0 [] w [⟨aD b, 50, kN_, 3⟩, ⟨aD b1, 50, [vi rows, vi cols, .slice B1 Cells.length c1], 3⟩, ⟨B1, 91, (Cells.flatMap eN1), c1 * 5⟩] (Rf) ∧ i + k = rows.toNat ∧ forX (F_impl_matrixOf_l1 cols cell) k i Cells = some z) rows.toNat ⟨0, [], none, 0, (fc rfl (fc rfl (fc rfl (fc rfl (fc rfl (fc rfl fn_)))))), (hS9.sel [0, 1, 2] rfl rfl), Nat.zero_add _, hz⟩ ?_
  rintro k_ f w ⟨i, Cells, B1, c1, hf, hS8, hik, hL⟩
  refine cq (cr ?_)
  refine sQ 27 (yL (i : Int) rows rfl (hf.g 26 5) (hf.g 25 4)) (rn (cq ?_))
  refine cw_cond (b := (decide ((i : Int) < rows))) rfl (fun hlt => ?_) (fun hlt => ?_)
  ·skip
   have hlt1 : i < rows.toNat := by have h := of_decide_eq_true hlt; omega
   obtain ⟨K7, rfl⟩ : ∃ k2, k_ = k2 + 1 := ⟨k_ - 1, by omega⟩
   obtain ⟨y3, hb1, hL1⟩ := forX_go hL
   unfold F_impl_matrixOf_l1 at hb1
   refine cw_skip (cq (cw_block (cq (cr ?_))))
   refine sQ 28 (ym (vi (i : Int)) rfl (hf.g 26 5)) <| sQ 9 (yg (vi (i : Int))) (rn (cq (cr ?_)))
   refine sQ 29 (ym (vi cols) rfl (hf.g 1 0)) <| sQ 30 (ym (vi 0)) (rn ?_)
   obtain ⟨hN1, hb1⟩ := chk_inv hb1
   obtain ⟨z1, hz1, hF4⟩ := bI hb1
   refine cw_block ?_
   refine cw_loop (fun k f w => ∃ (i1 : Nat) (Cells1 : List TDyadic) (B2 : Option Addr) (c2 : Nat), FF f [(1, vi cols), (2, .func (.func kf) #[] caps), (6, pt (aD b) 0), (8, pt (aD b1) 0), (9, vi (i : Int)), (25, vi rows), (26, vi (i : Int)), (29, vi cols), (30, vi (i1 : Int))] ∧ ST w0 [] w [⟨aD b, 50, kN_, 3⟩, ⟨aD b1, 50, [vi rows, vi cols, .slice B2 Cells1.length c2], 3⟩, ⟨B2, 91, (Cells1.flatMap eN1), c2 * 5⟩] (Rf) ∧ i1 + k = cols.toNat ∧ forX (F_impl_matrixOf_l2 cell i) k i1 Cells1 = some z1) cols.toNat ⟨0, Cells, B1, c1, (fc (hf.g 1 0) (fc (hf.g 2 1) (fc (hf.g 6 2) (fc (hf.g 8 3) (fc rfl (fc (hf.g 25 4) (fc (hf.g 26 5) (fc rfl (fc rfl fn_))))))))), (hS8.sel [0, 1, 2] rfl rfl), Nat.zero_add _, hz1⟩ ?_
   rintro K23 f w ⟨i1, Cells1, B2, c2, hf1, hS10, hik1, hL2⟩
   refine cq (cr ?_)
   refine sQ 31 (yL (i1 : Int) cols rfl (hf1.g 30 8) (hf1.g 29 7)) (rn (cq ?_))
   refine cw_cond (b := (decide ((i1 : Int) < cols))) rfl (fun hlt2 => ?_) (fun hlt2 => ?_)
   ·skip
    have hlt3 : i1 < cols.toNat := by have h := of_decide_eq_true hlt2; omega
    obtain ⟨K48, rfl⟩ : ∃ k2, K23 = k2 + 1 := ⟨K23 - 1, by omega⟩
    obtain ⟨y4, hb2, hL3⟩ := forX_go hL2
    unfold F_impl_matrixOf_l2 at hb2
    refine cw_skip (cq (cw_block (cq (cr ?_))))
    refine sQ 32 (ym (vi (i1 : Int)) rfl (hf1.g 30 8)) <| sQ 10 (yg (vi (i1 : Int))) (rn (cq (cr ?_)))
    refine sQ 34 (ym (.func (.func kf) #[] caps) rfl (hf1.g 2 1)) <| sQ 35 (ym (vi (i : Int)) rfl (hf1.g 9 4)) <| sQ 36 (ym (vi (i1 : Int))) ?_
    obtain ⟨⟨r_4, r_5⟩, hc2, hb2⟩ := bI hb2
    refine sc 37 rfl rfl (Yc_clos (g := kf) (vs := (vi (i : Int)) :: (vi (i1 : Int)) :: caps.toList) hk rfl rfl (clo_args (mc rfl (mc rfl mn))) (hp _ (hS10.innS (fun _ h => mOd (i := 0) h)) (i : Int) (i1 : Int) r_4 r_5 hc2)) ?_
    rintro _ w_6 ⟨rfl, hd1⟩
    have hS11 := hS10.out00 hd1
    refine sQ 33 (ym (.tuple #[gD_ r_4, .bool r_5])) <| sQ 38 (ye (gD_ r_4)) <| sQ 39 (ye (.bool r_5)) ?_
    refine sS 11 (yN kZ_ 5 hS11 K8) ?_
    rintro _ w_7 ⟨b2, rfl, hS12⟩
    refine s0 (yT 3 5 (aD b2) 91 (gD_ r_4) (kD_ r_4) 0 hS12 K2) ?_
    rintro _ w_8 ⟨rfl, hS13⟩
    refine sQ 12 (yg (.bool r_5)) (rn (cq (cq (cr ?_))))
    refine sQ 40 (ym (.bool r_5)) <| sQ 41 (Y_not (p := r_5) rfl rfl) (rn ?_)
    refine cw_cond (b := (!r_5)) rfl (fun hb3 => ?_) (fun hb3 => ?_)
    ·skip
     have hF5 := ct hb2 hb3
     refine cq (cr ?_)
     refine sQ 42 (Y_buildS (zs := kN_) (vs := []) (cs := kN_) K47 K13 rfl mpn rfl) ?_
     refine s0 (yT 0 3 (aD b) 50 gN_ kN_ 0 hS13 K4 rfl (hf1.g 6 2)) ?_
     rintro _ w_9 ⟨rfl, hS14⟩
     refine sQ 7 (yg (.bool false)) (rn (ct_ ?_))
     have hS15 := hS14.addNil 91
     obtain rfl := sI hF5
     obtain rfl := sI hL3
     obtain rfl := sI hF4
     obtain rfl := sI hL1
     obtain ⟨rfl, rfl⟩ := pr2 (sI hF3)
     exact ret2 Tryz.results54 (v1 := gN_) (resAt_cellA (B := aD b) (i := 0) (cs := kN_) (vs := kN_) (hf1.g 6 2) K9 K4 (hS15.c 0) rfl rfl) (v2 := .bool false) (resAt_tmp rfl) ⟨none, 0, rfl, (hS15.sN [4])⟩
    ·skip
     have hF6 := cf' hb2 hb3
     refine cw_skip (cr ?_)
     refine sQ 43 (yd (aD b1) 0 0 K28 K24 rfl (hf1.g 8 3)) <| sQ 44 (yl (aD b1) 2 [vi rows, vi cols, .slice B2 Cells1.length c2] (.slice B2 Cells1.length c2) K34 (hS13.c 1)) <| sQ 45 (yb (aD b2) 0 (kD_ r_4) K5 K2 (hS13.c 3)) ?_
     refine sS 46 (Ys_bslice (s := 5) (len := 1) (vs := [(0, gD_ r_4)]) (cs := kD_ r_4) (zs := kZ_) (m := 5) hS13 K21 K2 K54 rfl (mpc rfl mpn) rfl rfl rfl (by kernel_rfl) (by kernel_rfl) rfl) ?_
     rintro _ w_10 ⟨b3, rfl, hS16⟩
     obtain ⟨hap, hF6⟩ := chk_inv hF6
     refine sS 47 (Ys_append (s := 5) (by' := 40) (i := 2) (nn := Cells1.length) (c := c2) (k := 1) (len := (Cells1 ++ [r_4]).length) (B := B2) (xs := ([r_4].flatMap eN1)) (cs' := ((Cells1 ++ [r_4]).flatMap eN1)) hS16 K21 K2 K67 K8 rfl (by decide) rfl rfl rfl rfl (fm_lenn (l := Cells1) enc_Dyadic_len rfl) rfl (hS16.c 4) (fm_lenn (l := [r_4]) enc_Dyadic_len rfl) (fm_one' (enc := eN1) enc_Dyadic_one [r_4]) (by have := hap; omega) (by have := hap; simp only [maxLen]; omega) (fm_app _ _) (app_len (l := Cells1) (l' := [r_4]) rfl rfl)) ?_
     rintro _ w_11 ⟨B3, c3, rfl, hS17⟩
     refine sQ 48 (yd (aD b1) 0 0 K28 K24 rfl (hf1.g 8 3)) ?_
     refine s0 (yS 1 1 (aD b1) 50 (.slice B3 ((Cells1 ++ [r_4]).length) c3) [.slice B3 ((Cells1 ++ [r_4]).length) c3] 2 [vi rows, vi cols, .slice B3 ((Cells1 ++ [r_4]).length) c3] hS17 K24) ?_
     rintro _ w_12 ⟨rfl, hS18⟩
     refine rn (cr ?_)
     refine sQ 49 (yP (i1 : Int) 1 rfl (hf1.g 30 8)) <| sQ 30 (ym (vi (i64.wrap ((i1 : Int) + 1)))) (rn ?_)
     obtain rfl := sI hF6
     exact ⟨K48, Nat.lt_succ_self _, i1 + 1, (Cells1 ++ [r_4]), B3, c3, (fc (hf1.g 1 0) (fc (hf1.g 2 1) (fc (hf1.g 6 2) (fc (hf1.g 8 3) (fc (hf1.g 9 4) (fc (hf1.g 25 5) (fc (hf1.g 26 6) (fc (hf1.g 29 7) (fc (congrArg (Value.int .i64) (wr_succ hlt3 hN1)) fn_))))))))), (hS18.sel [0, 1, 2] rfl rfl), (by omega), hL3⟩
   ·skip
    obtain rfl : K23 = 0 := by have h := of_decide_eq_false hlt2; omega
    refine cw_exit rfl ?_
    obtain rfl := sI hL2
    refine cr ?_
    refine sQ 50 (yP (i : Int) 1 rfl (hf1.g 26 6)) <| sQ 26 (ym (vi (i64.wrap ((i : Int) + 1)))) (rn ?_)
    obtain rfl := sI hF4
    exact ⟨K7, Nat.lt_succ_self _, i + 1, Cells1, B2, c2, (fc (hf1.g 1 0) (fc (hf1.g 2 1) (fc (hf1.g 6 2) (fc (hf1.g 8 3) (fc (hf1.g 25 5) (fc (congrArg (Value.int .i64) (wr_succ hlt1 hN)) fn_)))))), (hS10.sel [0, 1, 2] rfl rfl), (by omega), hL1⟩
  ·skip
   obtain rfl : k_ = 0 := by have h := of_decide_eq_false hlt; omega
   refine cw_exit rfl ?_
   obtain rfl := sI hL
   refine cq (cr ?_)
   refine sQ 51 (yb (aD b1) 0 [vi rows, vi cols, .slice B1 Cells.length c1] K9 K4 (hS8.c 1) rfl (hf.g 8 3)) ?_
   refine s0 (yT 0 3 (aD b) 50 (.agg #[vi rows, vi cols, .slice B1 Cells.length c1]) [vi rows, vi cols, .slice B1 Cells.length c1] 0 hS8 K4 rfl (hf.g 6 2)) ?_
   rintro _ w_13 ⟨rfl, hS19⟩
   refine sQ 7 (yg (.bool true)) (rn (ct_ ?_))
   obtain ⟨rfl, rfl⟩ := pr2 (sI hF3)
   exact ret2 Tryz.results54 (v1 := .agg #[vi rows, vi cols, .slice B1 Cells.length c1]) (resAt_cellA (B := aD b) (i := 0) (cs := [vi rows, vi cols, .slice B1 Cells.length c1]) (vs := [vi rows, vi cols, .slice B1 Cells.length c1]) (hf.g 6 2) K9 K4 (hS19.c 0) rfl rfl) (v2 := .bool true) (resAt_tmp rfl) ⟨B1, c1, rfl, (hS19.sN [2])⟩

theorem c_impl_whole (n : Int)  (w0 : World)  (hS : ST w0 [] w0 [] []) {r_ : TDyadic} (hF : F_impl_whole n = some r_) :
  CV Tryz.prog 56 #[vi n] w0 (fun v w' => v = (gD_ r_) ∧ ST w0 [] w' [] []) := by
 unfold F_impl_whole at hF
 refine cv_of_cw 6 Tryz.func56 rfl Tryz.ntmps56 rfl ?_
 refine cq (cr ?_)
 refine sS 2 (yN kZ_ 5 hS K8) ?_
 rintro _ w_ ⟨b, rfl, hS1⟩
 refine rn (cq (cr ?_))
 refine sQ 3 (ym (vi n)) <| sQ 4 (Y_buildS (zs := [vi 0, vi 0, vi 0, vi 0]) (vs := [(0, vi n)]) (cs := [vi n, vi 0, vi 0, vi 0]) K30 K12 rfl (mpc rfl mpn) rfl) <| sQ 5 (Y_buildS (zs := kZ_) (vs := [(0, .agg #[vi n, vi 0, vi 0, vi 0])]) (cs := [vi n, vi 0, vi 0, vi 0, vi 0]) K22 K8 rfl (mpc rfl mpn) rfl) ?_
 refine s0 (yT 0 5 (aD b) 91 (.agg #[vi n, vi 0, vi 0, vi 0, vi 0]) [vi n, vi 0, vi 0, vi 0, vi 0] 0 hS1 K2) ?_
 rintro _ w_1 ⟨rfl, hS2⟩
 refine rn (ct_ ?_)
 obtain rfl := sI hF
 exact ret1 Tryz.results56 (v1 := .agg #[vi n, vi 0, vi 0, vi 0, vi 0]) (resAt_cellA (B := aD b) (i := 0) (cs := [vi n, vi 0, vi 0, vi 0, vi 0]) (vs := [vi n, vi 0, vi 0, vi 0, vi 0]) rfl K5 K2 (hS2.c 0) rfl rfl) ⟨rfl, (hS2.sN [])⟩

theorem c_impl_IdentityMatrix_1 (i : Int) (j : Int)  (w0 : World)  (hS : ST w0 [] w0 [] []) {r_ : TDyadic} {r_1 : Bool} (hF : F_impl_IdentityMatrix_1 i j = some (r_, r_1)) :
  CV Tryz.prog 55 #[vi i, vi j] w0 (fun v w' => v = .tuple #[gD_ r_, .bool r_1] ∧ ST w0 [] w' [] []) := by
 unfold F_impl_IdentityMatrix_1 at hF
 refine cv_of_cw 11 Tryz.func55 rfl Tryz.ntmps55 rfl ?_
 refine cq (cr ?_)
 refine sS 4 (yN kZ_ 5 hS K8) ?_
 rintro _ w_ ⟨b, rfl, hS1⟩
 refine sQ 5 (yg (.bool false)) (rn (cq (cq (cr ?_))))
 refine sQ 6 (ym (vi i)) <| sQ 7 (ym (vi j)) <| sQ 8 (yE i j) (rn ?_)
 refine cw_cond (b := (i == j)) rfl (fun hb => ?_) (fun hb => ?_)
 ·skip
  have hF1 := ct hF hb
  refine cq (cr ?_)
  obtain ⟨r_2, hc, hF1⟩ := bI hF1
  refine sc 9 rfl rfl (yC [vi 1] K97 (c_impl_whole 1 _  (hS1.inn0 [] rfl) hc)) ?_
  rintro _ w_1 ⟨rfl, hd⟩
  have hS2 := hS1.out00 hd
  refine s0 (yT 0 5 (aD b) 91 (gD_ r_2) (kD_ r_2) 0 hS2 K2) ?_
  rintro _ w_2 ⟨rfl, hS3⟩
  refine sQ 5 (yg (.bool true)) (rn (ct_ ?_))
  obtain ⟨rfl, rfl⟩ := pr2 (sI hF1)
  exact ret2 Tryz.results55 (v1 := gD_ r_2) (resAt_cellA (B := aD b) (i := 0) (cs := kD_ r_2) (vs := kD_ r_2) rfl K5 K2 (hS3.c 0) rfl rfl) (v2 := .bool true) (resAt_tmp rfl) ⟨rfl, (hS3.sN [])⟩
 ·skip
  have hF2 := cf' hF hb
  refine cw_skip (cq (cr ?_))
  refine sQ 10 (Y_buildS (zs := kZ_) (vs := []) (cs := kZ_) K22 K8 rfl mpn rfl) ?_
  refine s0 (yT 0 5 (aD b) 91 gZ_ kZ_ 0 hS1 K2) ?_
  rintro _ w_3 ⟨rfl, hS4⟩
  refine sQ 5 (yg (.bool true)) (rn (ct_ ?_))
  obtain ⟨rfl, rfl⟩ := pr2 (sI hF2)
  exact ret2 Tryz.results55 (v1 := gZ_) (resAt_cellA (B := aD b) (i := 0) (cs := kZ_) (vs := kZ_) rfl K5 K2 (hS4.c 0) rfl rfl) (v2 := .bool true) (resAt_tmp rfl) ⟨rfl, (hS4.sN [])⟩

theorem c_impl_IdentityMatrix (n : Int)  (w0 : World)  (hS : ST w0 [] w0 [] []) {r_ : TMatrix} {r_1 : Bool} (hF : F_impl_IdentityMatrix n = some (r_, r_1)) :
  CV Tryz.prog 34 #[vi n] w0 (fun v w' => ∃ (B : Option Addr) (c : Nat), v = .tuple #[gM_ r_ B c, .bool r_1] ∧ ST w0 [] w' [⟨B, 91, (r_.Cells.flatMap eN1), c * 5⟩] []) := by
 unfold F_impl_IdentityMatrix at hF
 refine cv_of_cw 9 Tryz.func34 rfl Tryz.ntmps34 rfl ?_
 refine cq (cr ?_)
 refine sS 2 (yN kN_ 3 hS K13) ?_
 rintro _ w_ ⟨b, rfl, hS1⟩
 refine sQ 3 (yg (.bool false)) (rn (cq (cr ?_)))
 refine sQ 4 (ym (vi n)) <| sQ 5 (ym (vi n)) ?_
 obtain ⟨⟨r_2, r_3⟩, hc, hF⟩ := bI hF
 refine sc 6 rfl rfl (yC [vi n, vi n, .func (.func 55) #[] #[]] K82 (c_impl_matrixOf n n F_impl_IdentityMatrix_1 55 (#[]) [] _ k_call_55 (fun w hw x_0 x_1 y_0 y_1 h_ => c_impl_IdentityMatrix_1 x_0 x_1  w  hw h_) (hS1.inn0 [] rfl) hc)) ?_
 rintro _ w_1 ⟨B1, c1, rfl, hd⟩
 have hS2 := hS1.out0 hd
 refine sQ 7 (ye (gM_ r_2 B1 c1)) <| sQ 8 (ye (.bool r_3)) ?_
 refine s0 (yT 0 3 (aD b) 50 (gM_ r_2 B1 c1) (kM_ r_2 B1 c1) 0 hS2 K4) ?_
 rintro _ w_2 ⟨rfl, hS3⟩
 refine sQ 3 (yg (.bool r_3)) (rn (ct_ ?_))
 obtain ⟨rfl, rfl⟩ := pr2 (sI hF)
 exact ret2 Tryz.results34 (v1 := gM_ r_2 B1 c1) (resAt_cellA (B := aD b) (i := 0) (cs := kM_ r_2 B1 c1) (vs := kM_ r_2 B1 c1) rfl K9 K4 (hS3.c 0) rfl rfl) (v2 := .bool r_3) (resAt_tmp rfl) ⟨B1, c1, rfl, (hS3.sN [1])⟩

theorem c_slices_IndexFunc_impl_Gate_impl_Gate (s : List TGate) (f_ : TGate → Option (Bool)) (B : Option Addr) (c n : Nat) (kf : Nat) (caps : Array Value) (Rf : List Ro) (w0 : World) (hn : s.length = n) (hk : callB Tryz.prog kf = true) (hp : ∀ (w : World), ST w [] w [] Rf → ∀ (x : TGate) (y : Bool), f_ x = some y → CV Tryz.prog kf ((.agg #[vi x.Kind, vi x.A, vi x.B]) :: caps.toList).toArray w (fun v w' => v = .bool y ∧ ST w [] w' [] [])) (hS : ST w0 [] w0 [] (⟨B, (s.flatMap eN0)⟩ :: Rf)) {r_ : Int} (hF : F_slices_IndexFunc_impl_Gate_impl_Gate s f_ = some r_) :
  CV Tryz.prog 110 #[.slice B n c, .func (.func kf) #[] caps] w0 (fun v w' => v = vi r_ ∧ ST w0 [] w' [] []) := by
 subst hn
 unfold F_slices_IndexFunc_impl_Gate_impl_Gate at hF
 refine cv_of_cw 19 Tryz.func110 rfl Tryz.ntmps110 rfl ?_
 refine cq (cr ?_)
 refine sQ 4 (yg (vi 0)) (rn (cq (cq (cr ?_))))
 refine sQ 6 (ym (.slice B s.length c)) <| sQ 7 (Y_len (B := B) (m := s.length) (c := c) K11 rfl rfl) <| sQ 8 (ym (vi 0)) (rn ?_)
 obtain ⟨hN, hF⟩ := chk_inv hF
 obtain ⟨z, hz, hF1⟩ := bI hF
 refine cw_block ?_
 refine cw_loop (fun k f w => ∃ (i : Nat), FF f [(0, .slice B s.length c), (1, .func (.func kf) #[] caps), (7, vi (s.length : Int)), (8, vi (i : Int))] ∧ ST w0 [] w [] (⟨B, (s.flatMap eN0)⟩ :: Rf) ∧ i + k = s.length ∧ forX (F_slices_IndexFunc_impl_Gate_impl_Gate_l1 s f_) k i () = some z) s.length ⟨0, (fc rfl (fc rfl (fc rfl (fc rfl fn_)))), (hS.sel [] rfl rfl), Nat.zero_add _, hz⟩ ?_
 rintro k_ f w ⟨i, hf, hS1, hik, hL⟩
 refine cq (cr ?_)
 refine sQ 9 (yL (i : Int) (s.length : Int) rfl (hf.g 8 3) (hf.g 7 2)) (rn (cq ?_))
 refine cw_cond (b := (decide ((i : Int) < (s.length : Int)))) rfl (fun hlt => ?_) (fun hlt => ?_)
 ·skip
  have hlt1 : i < s.length := by have h := of_decide_eq_true hlt; omega
  obtain ⟨K7, rfl⟩ : ∃ k2, k_ = k2 + 1 := ⟨k_ - 1, by omega⟩
  obtain ⟨y1, hb, hL1⟩ := forX_go hL
  unfold F_slices_IndexFunc_impl_Gate_impl_Gate_l1 at hb
  refine cw_skip (cq (cw_block (cq (cr ?_))))
  refine sQ 10 (ym (vi (i : Int)) rfl (hf.g 8 3)) <| sQ 5 (yg (vi (i : Int))) (rn (cq (cr ?_)))
  refine sQ 11 (ym (.func (.func kf) #[] caps) rfl (hf.g 1 1)) <| sQ 12 (ym (.slice B s.length c) rfl (hf.g 0 0)) <| sQ 13 (ym (vi (i : Int))) ?_
  obtain ⟨x1, hx, hb⟩ := bI hb
  refine sQ 14 (Y_index (B := B) (m := s.length) (c := c) (k := .i64) (i := (i : Int)) K11 K10 rfl rfl rfl (gi_isSome enc_Gate_len rfl (hS1.rf (i := 0) rfl) hx) (getI_nn hx) (getI_ltI hx rfl)) <| sQ 15 (ya B ((i : Int).toNat * 3) (s.flatMap eN0) [vi x1.Kind, vi x1.A, vi x1.B] K31 K10 (hS1.rf (i := 0) rfl) rfl rfl (enc_Gate_len x1) (gi_seg enc_Gate_len hx)) ?_
  obtain ⟨r_1, hc, hb⟩ := bI hb
  refine sc 16 rfl rfl (Yc_clos (g := kf) (vs := (.agg #[vi x1.Kind, vi x1.A, vi x1.B]) :: caps.toList) hk rfl rfl (clo_args (mc rfl mn)) (hp _ (hS1.innS (fun _ h => mOd (i := 1) h)) x1 r_1 hc)) ?_
  rintro _ w_ ⟨rfl, hd⟩
  have hS2 := hS1.out00 hd
  refine rn ?_
  refine cw_cond (b := r_1) rfl (fun hb1 => ?_) (fun hb1 => ?_)
  ·skip
   have hF2 := ct hb hb1
   refine cq (cr ?_)
   refine sQ 17 (ym (vi (i : Int))) <| sQ 4 (yg (vi (i : Int))) (rn (ct_ ?_))
   obtain rfl := sI hF2
   obtain rfl := sI hL1
   obtain rfl := sI hF1
   exact ret1 Tryz.results110 (v1 := vi (i : Int)) (resAt_tmp rfl) ⟨rfl, (hS2.sN [])⟩
  ·skip
   have hF3 := cf' hb hb1
   refine cw_skip (cr ?_)
   refine sQ 18 (yP (i : Int) 1 rfl (hf.g 8 3)) <| sQ 8 (ym (vi (i64.wrap ((i : Int) + 1)))) (rn ?_)
   obtain rfl := sI hF3
   exact ⟨K7, Nat.lt_succ_self _, i + 1, (fc (hf.g 0 0) (fc (hf.g 1 1) (fc (hf.g 7 2) (fc (congrArg (Value.int .i64) (wr_succ hlt1 hN)) fn_)))), (hS2.sel [] rfl rfl), (by omega), hL1⟩
 ·skip
  obtain rfl : k_ = 0 := by have h := of_decide_eq_false hlt; omega
  refine cw_exit rfl ?_
  obtain rfl := sI hL
  refine cq (cr ?_)
  refine sQ 4 (yg (vi (-1))) (rn (ct_ ?_))
  obtain rfl := sI hF1
  exact ret1 Tryz.results110 (v1 := vi (-1)) (resAt_tmp rfl) ⟨rfl, (hS1.sN [])⟩

theorem c_slices_ContainsFunc_impl_Gate_impl_Gate (s : List TGate) (f_ : TGate → Option (Bool)) (B : Option Addr) (c n : Nat) (kf : Nat) (caps : Array Value) (Rf : List Ro) (w0 : World) (hn : s.length = n) (hk : callB Tryz.prog kf = true) (hp : ∀ (w : World), ST w [] w [] Rf → ∀ (x : TGate) (y : Bool), f_ x = some y → CV Tryz.prog kf ((.agg #[vi x.Kind, vi x.A, vi x.B]) :: caps.toList).toArray w (fun v w' => v = .bool y ∧ ST w [] w' [] [])) (hS : ST w0 [] w0 [] (⟨B, (s.flatMap eN0)⟩ :: Rf)) {r_ : Bool} (hF : F_slices_ContainsFunc_impl_Gate_impl_Gate s f_ = some r_) :
  CV Tryz.prog 78 #[.slice B n c, .func (.func kf) #[] caps] w0 (fun v w' => v = .bool r_ ∧ ST w0 [] w' [] []) := by
 subst hn
 unfold F_slices_ContainsFunc_impl_Gate_impl_Gate at hF
 refine cv_of_cw 9 Tryz.func78 rfl Tryz.ntmps78 rfl ?_
 refine cq (cr ?_)
 refine sQ 4 (yg (.bool false)) (rn (cq (cr ?_)))
 refine sQ 5 (ym (.slice B s.length c)) <| sQ 6 (ym (.func (.func kf) #[] caps)) ?_
 obtain ⟨r_1, hc, hF⟩ := bI hF
 refine sc 7 rfl rfl (yC [.slice B s.length c, .func (.func kf) #[] caps] k_call_110 (c_slices_IndexFunc_impl_Gate_impl_Gate s f_ B c s.length kf caps Rf _ rfl hk hp (hS.innS (sk 0 (fun _ h => mOd (i := 1) h))) hc)) ?_
 rintro _ w_ ⟨rfl, hd⟩
 have hS1 := hS.out00 hd
 refine sQ 8 (Y_ge (k := .i64) (a := r_1) (b := 0) rfl rfl rfl) <| sQ 4 (yg (.bool (decide (0 ≤ r_1)))) (rn (ct_ ?_))
 obtain rfl := sI hF
 exact ret1 Tryz.results78 (v1 := .bool (decide (0 ≤ r_1))) (resAt_tmp rfl) ⟨rfl, (hS1.sN [])⟩

theorem c_impl_isTwo (kind : Int)  (w0 : World)  (hS : ST w0 [] w0 [] []) {r_ : Bool} (hF : F_impl_isTwo kind = some r_) :
  CV Tryz.prog 63 #[vi kind] w0 (fun v w' => v = .bool r_ ∧ ST w0 [] w' [] []) := by
 unfold F_impl_isTwo at hF
 refine cv_of_cw 5 Tryz.func63 rfl Tryz.ntmps63 rfl ?_
 refine cq (cr ?_)
 refine sQ 2 (yg (.bool false)) (rn (cq (cr ?_)))
 refine sQ 3 (ym (vi kind)) ?_
 obtain ⟨r_1, hc, hF⟩ := bI hF
 refine sc 4 rfl rfl (yC [vi kind, vi 9, vi 11] K50 (c_impl_within kind 9 11 _  (hS.inn0 [] rfl) hc)) ?_
 rintro _ w_ ⟨rfl, hd⟩
 have hS1 := hS.out00 hd
 refine sQ 2 (yg (.bool r_1)) (rn (ct_ ?_))
 obtain rfl := sI hF
 exact ret1 Tryz.results63 (v1 := .bool r_1) (resAt_tmp rfl) ⟨rfl, (hS1.sN [])⟩

theorem c_impl_IsValidGate (n : Int) (g : TGate)  (w0 : World)  (hS : ST w0 [] w0 [] []) {r_ : Bool} (hF : F_impl_IsValidGate n g = some r_) :
  CV Tryz.prog 60 #[vi n, .agg #[vi g.Kind, vi g.A, vi g.B]] w0 (fun v w' => v = .bool r_ ∧ ST w0 [] w' [] []) := by
 unfold F_impl_IsValidGate at hF
 refine cv_of_cw 60 Tryz.func60 rfl Tryz.ntmps60 rfl ?_
 refine cq (cr ?_)
 refine sS 3 (yB 56 (.agg #[vi g.Kind, vi g.A, vi g.B]) [vi g.Kind, vi g.A, vi g.B] 3 hS) ?_
 rintro _ w_ ⟨b, rfl, hS1⟩
 refine sQ 4 (yg (.bool false)) (rn (cq (cw_block (cq (cr ?_)))))
 refine sQ 6 (ym (vi n)) ?_
 obtain ⟨r_1, hc, hF⟩ := bI hF
 refine sc 7 rfl rfl (yC [vi n, vi 1, vi 5] K50 (c_impl_within n 1 5 _  (hS1.inn0 [] rfl) hc)) ?_
 rintro _ w_1 ⟨rfl, hd⟩
 have hS2 := hS1.out00 hd
 refine sQ 8 (Y_not (p := r_1) rfl rfl) <| sQ 9 (ym (.bool (!r_1))) ?_
 refine sgq 10 (B := (!(!r_1))) (v := pt (aD b) 0) rfl rfl (uF_ 9) (fun hg => (yd (aD b) 0 0 K38 K1)) ?_
 refine sgq 11 (B := (!(!r_1))) (v := vi g.Kind) rfl rfl (uF_ 9) (fun hg1 => (yl (aD b) 0 [vi g.Kind, vi g.A, vi g.B] (vi g.Kind) K0 (hS2.c 0) rfl (gv_of (v := pt (aD b) 0) hg1))) ?_
 obtain ⟨r_2, hc1, hF⟩ := bI hF
 refine sgc 12 (B := (!(!r_1))) (v := .bool r_2) (F := hS2.fn) rfl rfl (uF_ 9) hS2 (fun hg2 => (yC [vi g.Kind, vi 1, vi 12] K50 (CV.mono (c_impl_within g.Kind 1 12 _  (hS2.inn0 [] rfl) (gb_inv hc1 hg2)) (by rintro _ _ ⟨rfl, h⟩; exact ⟨rfl, hS2.out00 h⟩)) rfl (mc (gv_of (v := vi g.Kind) hg2) (mc rfl (mc rfl mn))))) ?_
 rintro w_2 hS3
 refine sgq 13 (B := (!(!r_1))) (v := .bool (!r_2)) rfl rfl (uF_ 9) (fun hg3 => (Y_not (p := r_2) rfl (gv_of (v := .bool r_2) hg3))) ?_
 refine sQ 14 (Y_or (b := (!r_1)) (z := (!r_2)) rfl rfl rfl rfl) <| sQ 5 (yg (.bool ((!r_1) || (!r_2)))) (rn ?_)
 refine cw_cond (b := ((!r_1) || (!r_2))) rfl (fun hb => ?_) (fun hb => ?_)
 ·skip
  have hF1 := ct hF hb
  refine cq (cr ?_)
  refine sQ 4 (yg (.bool false)) (rn (ct_ ?_))
  obtain rfl := sI hF1
  exact ret1 Tryz.results60 (v1 := .bool false) (resAt_tmp rfl) ⟨rfl, (hS3.sN [])⟩
 ·skip
  have hF2 := cf' hF hb
  refine cq (cr ?_)
  refine sQ 16 (yd (aD b) 0 0 K38 K1) <| sQ 17 (yl (aD b) 0 [vi g.Kind, vi g.A, vi g.B] (vi g.Kind) K0 (hS3.c 0)) <| sQ 18 (yE g.Kind 12) <| sQ 15 (yg (.bool (g.Kind == 12))) (rn ?_)
  refine cw_cond (b := (g.Kind == 12)) rfl (fun hb1 => ?_) (fun hb1 => ?_)
  ·skip
   have hF3 := ct hF2 hb1
   refine cq (cr ?_)
   refine sQ 19 (yd (aD b) 0 0 K26 K1) <| sQ 20 (yl (aD b) 1 [vi g.Kind, vi g.A, vi g.B] (vi g.A) K0 (hS3.c 0)) <| sQ 21 (yE g.A 0) <| sQ 22 (ym (.bool (g.A == 0))) ?_
   refine sgq 23 (B := (g.A == 0)) (v := pt (aD b) 2) rfl rfl (uT_ 22) (fun hg4 => (yd (aD b) 0 0 K35 K1)) ?_
   refine sgq 24 (B := (g.A == 0)) (v := vi g.B) rfl rfl (uT_ 22) (fun hg5 => (yl (aD b) 2 [vi g.Kind, vi g.A, vi g.B] (vi g.B) K0 (hS3.c 0) rfl (gv_of (v := pt (aD b) 2) hg5))) ?_
   refine sgq 25 (B := (g.A == 0)) (v := .bool (g.B == 0)) rfl rfl (uT_ 22) (fun hg6 => (yE g.B 0 rfl (gv_of (v := vi g.B) hg6))) ?_
   refine sQ 26 (Y_and (b := (g.A == 0)) (z := (g.B == 0)) rfl rfl rfl rfl) <| sQ 4 (yg (.bool ((g.A == 0) && (g.B == 0)))) (rn (ct_ ?_))
   obtain rfl := sI hF3
   exact ret1 Tryz.results60 (v1 := .bool ((g.A == 0) && (g.B == 0))) (resAt_tmp rfl) ⟨rfl, (hS3.sN [])⟩
  ·skip
   have hF4 := cf' hF2 hb1
   refine cq (cr ?_)
   refine sQ 28 (yd (aD b) 0 0 K38 K1) <| sQ 29 (yl (aD b) 0 [vi g.Kind, vi g.A, vi g.B] (vi g.Kind) K0 (hS3.c 0)) ?_
   obtain ⟨r_3, hc2, hF4⟩ := bI hF4
   refine sc 30 rfl rfl (yC [vi g.Kind] k_call_63 (c_impl_isTwo g.Kind _  (hS3.inn0 [] rfl) hc2)) ?_
   rintro _ w_3 ⟨rfl, hd1⟩
   have hS4 := hS3.out00 hd1
   refine sQ 27 (yg (.bool r_3)) (rn ?_)
   refine cw_cond (b := r_3) rfl (fun hb2 => ?_) (fun hb2 => ?_)
   ·skip
    have hF5 := ct hF4 hb2
    refine cq (cr ?_)
    refine sQ 31 (yd (aD b) 0 0 K26 K1) <| sQ 32 (yl (aD b) 1 [vi g.Kind, vi g.A, vi g.B] (vi g.A) K0 (hS4.c 0)) <| sQ 33 (ym (vi n)) <| sQ 34 (yM n 1) ?_
    obtain ⟨r_4, hc3, hF5⟩ := bI hF5
    refine sc 35 rfl rfl (yC [vi g.A, vi 0, vi (i64.wrap (n - 1))] K50 (c_impl_within g.A 0 (i64.wrap (n - 1)) _  (hS4.inn0 [] rfl) hc3)) ?_
    rintro _ w_4 ⟨rfl, hd2⟩
    have hS5 := hS4.out00 hd2
    refine sQ 36 (ym (.bool r_4)) ?_
    refine sgq 37 (B := r_4) (v := pt (aD b) 2) rfl rfl (uT_ 36) (fun hg7 => (yd (aD b) 0 0 K35 K1)) ?_
    refine sgq 38 (B := r_4) (v := vi g.B) rfl rfl (uT_ 36) (fun hg8 => (yl (aD b) 2 [vi g.Kind, vi g.A, vi g.B] (vi g.B) K0 (hS5.c 0) rfl (gv_of (v := pt (aD b) 2) hg8))) ?_
    refine sgq 39 (B := r_4) (v := vi n) rfl rfl (uT_ 36) (fun hg9 => (ym (vi n))) ?_
    refine sgq 40 (B := r_4) (v := vi (i64.wrap (n - 1))) rfl rfl (uT_ 36) (fun hg10 => (yM n 1 rfl (gv_of (v := vi n) hg10))) ?_
    obtain ⟨r_5, hc4, hF5⟩ := bI hF5
    refine sgc 41 (B := r_4) (v := .bool r_5) (F := hS5.fn) rfl rfl (uT_ 36) hS5 (fun hg11 => (yC [vi g.B, vi 0, vi (i64.wrap (n - 1))] K50 (CV.mono (c_impl_within g.B 0 (i64.wrap (n - 1)) _  (hS5.inn0 [] rfl) (gb_inv hc4 hg11)) (by rintro _ _ ⟨rfl, h⟩; exact ⟨rfl, hS5.out00 h⟩)) rfl (mc (gv_of (v := vi g.B) hg11) (mc rfl (mc (gv_of (v := vi (i64.wrap (n - 1))) hg11) mn))))) ?_
    rintro w_5 hS6
    refine sQ 42 (Y_and (b := r_4) (z := r_5) rfl rfl rfl rfl) <| sQ 43 (ym (.bool (r_4 && r_5))) ?_
    refine sgq 44 (B := (r_4 && r_5)) (v := pt (aD b) 1) rfl rfl (uT_ 43) (fun hg12 => (yd (aD b) 0 0 K26 K1)) ?_
    refine sgq 45 (B := (r_4 && r_5)) (v := vi g.A) rfl rfl (uT_ 43) (fun hg13 => (yl (aD b) 1 [vi g.Kind, vi g.A, vi g.B] (vi g.A) K0 (hS6.c 0) rfl (gv_of (v := pt (aD b) 1) hg13))) ?_
    refine sgq 46 (B := (r_4 && r_5)) (v := pt (aD b) 2) rfl rfl (uT_ 43) (fun hg14 => (yd (aD b) 0 0 K35 K1)) ?_
    refine sgq 47 (B := (r_4 && r_5)) (v := vi g.B) rfl rfl (uT_ 43) (fun hg15 => (yl (aD b) 2 [vi g.Kind, vi g.A, vi g.B] (vi g.B) K0 (hS6.c 0) rfl (gv_of (v := pt (aD b) 2) hg15))) ?_
    refine sgq 48 (B := (r_4 && r_5)) (v := .bool (g.A != g.B)) rfl rfl (uT_ 43) (fun hg16 => (Y_ne (k := .i64) (a := g.A) (b := g.B) rfl (gv_of (v := vi g.A) hg16) (gv_of (v := vi g.B) hg16))) ?_
    refine sQ 49 (Y_and (b := (r_4 && r_5)) (z := (g.A != g.B)) rfl rfl rfl rfl) <| sQ 4 (yg (.bool ((r_4 && r_5) && (g.A != g.B)))) (rn (ct_ ?_))
    obtain rfl := sI hF5
    exact ret1 Tryz.results60 (v1 := .bool ((r_4 && r_5) && (g.A != g.B))) (resAt_tmp rfl) ⟨rfl, (hS6.sN [])⟩
   ·skip
    have hF6 := cf' hF4 hb2
    refine cw_skip (cq (cr ?_))
    refine sQ 50 (yd (aD b) 0 0 K26 K1) <| sQ 51 (yl (aD b) 1 [vi g.Kind, vi g.A, vi g.B] (vi g.A) K0 (hS4.c 0)) <| sQ 52 (ym (vi n)) <| sQ 53 (yM n 1) ?_
    obtain ⟨r_6, hc5, hF6⟩ := bI hF6
    refine sc 54 rfl rfl (yC [vi g.A, vi 0, vi (i64.wrap (n - 1))] K50 (c_impl_within g.A 0 (i64.wrap (n - 1)) _  (hS4.inn0 [] rfl) hc5)) ?_
    rintro _ w_6 ⟨rfl, hd3⟩
    have hS7 := hS4.out00 hd3
    refine sQ 55 (ym (.bool r_6)) ?_
    refine sgq 56 (B := r_6) (v := pt (aD b) 2) rfl rfl (uT_ 55) (fun hg17 => (yd (aD b) 0 0 K35 K1)) ?_
    refine sgq 57 (B := r_6) (v := vi g.B) rfl rfl (uT_ 55) (fun hg18 => (yl (aD b) 2 [vi g.Kind, vi g.A, vi g.B] (vi g.B) K0 (hS7.c 0) rfl (gv_of (v := pt (aD b) 2) hg18))) ?_
    refine sgq 58 (B := r_6) (v := .bool (g.B == 0)) rfl rfl (uT_ 55) (fun hg19 => (yE g.B 0 rfl (gv_of (v := vi g.B) hg19))) ?_
    refine sQ 59 (Y_and (b := r_6) (z := (g.B == 0)) rfl rfl rfl rfl) <| sQ 4 (yg (.bool (r_6 && (g.B == 0)))) (rn (ct_ ?_))
    obtain rfl := sI hF6
    exact ret1 Tryz.results60 (v1 := .bool (r_6 && (g.B == 0))) (resAt_tmp rfl) ⟨rfl, (hS7.sN [])⟩

theorem c_impl_IsValidCircuit_1 (g : TGate) (p : TCircuit) (B : Option Addr) (B1 : Option Addr) (c n : Nat) (w0 : World) (hn : p.Gates.length = n) (hS : ST w0 [] w0 [] [⟨B, [vi p.Qubits, .slice B1 n c]⟩, ⟨B1, (p.Gates.flatMap eN0)⟩]) {r_ : Bool} (hF : F_impl_IsValidCircuit_1 g p = some r_) :
  CV Tryz.prog 79 #[.agg #[vi g.Kind, vi g.A, vi g.B], pt B 0] w0 (fun v w' => v = .bool r_ ∧ ST w0 [] w' [] []) := by
 subst hn
 unfold F_impl_IsValidCircuit_1 at hF
 refine cv_of_cw 9 Tryz.func79 rfl Tryz.ntmps79 rfl ?_
 refine cq (cr ?_)
 refine sS 2 (yB 56 (.agg #[vi g.Kind, vi g.A, vi g.B]) [vi g.Kind, vi g.A, vi g.B] 3 hS) ?_
 rintro _ w_ ⟨b, rfl, hS1⟩
 refine sQ 3 (yg (.bool false)) (rn (cq (cr ?_)))
 refine sQ 4 (yd B 0 0 K49 K1) <| sQ 5 (yl B 0 [vi p.Qubits, .slice B1 p.Gates.length c] (vi p.Qubits) K0 (hS1.rf (i := 0) rfl)) <| sQ 6 (yb (aD b) 0 [vi g.Kind, vi g.A, vi g.B] K31 K10 (hS1.c 0)) ?_
 obtain ⟨r_1, hc, hF⟩ := bI hF
 refine sc 7 rfl rfl (yC [vi p.Qubits, .agg #[vi g.Kind, vi g.A, vi g.B]] k_call_60 (c_impl_IsValidGate p.Qubits g _  (hS1.inn0 [] rfl) hc)) ?_
 rintro _ w_1 ⟨rfl, hd⟩
 have hS2 := hS1.out00 hd
 refine sQ 8 (Y_not (p := r_1) rfl rfl) <| sQ 3 (yg (.bool (!r_1))) (rn (ct_ ?_))
 obtain rfl := sI hF
 exact ret1 Tryz.results79 (v1 := .bool (!r_1)) (resAt_tmp rfl) ⟨rfl, (hS2.sN [])⟩

theorem c_impl_IsValidCircuit (c : TCircuit) (B : Option Addr) (c1 n : Nat) (w0 : World) (hn : c.Gates.length = n) (hS : ST w0 [] w0 [] [⟨B, (c.Gates.flatMap eN0)⟩]) {r_ : Bool} (hF : F_impl_IsValidCircuit c = some r_) :
  CV Tryz.prog 45 #[.agg #[vi c.Qubits, .slice B n c1]] w0 (fun v w' => v = .bool r_ ∧ ST w0 [] w' [] []) := by
 subst hn
 unfold F_impl_IsValidCircuit at hF
 refine cv_of_cw 19 Tryz.func45 rfl Tryz.ntmps45 rfl ?_
 refine cq (cr ?_)
 refine sS 1 (yB 30 (.agg #[vi c.Qubits, .slice B c.Gates.length c1]) [vi c.Qubits, .slice B c.Gates.length c1] 2 hS) ?_
 rintro _ w_ ⟨b, rfl, hS1⟩
 refine sQ 2 (yg (.bool false)) (rn (cq (cr ?_)))
 refine sQ 3 (yd (aD b) 0 0 K49 K1) <| sQ 4 (yl (aD b) 0 [vi c.Qubits, .slice B c.Gates.length c1] (vi c.Qubits) K0 (hS1.c 0)) ?_
 obtain ⟨r_1, hc, hF⟩ := bI hF
 refine sc 5 rfl rfl (yC [vi c.Qubits, vi 1, vi 5] K50 (c_impl_within c.Qubits 1 5 _  (hS1.inn0 [] rfl) hc)) ?_
 rintro _ w_1 ⟨rfl, hd⟩
 have hS2 := hS1.out00 hd
 refine sQ 6 (ym (.bool r_1)) ?_
 refine sgq 7 (B := r_1) (v := pt (aD b) 1) rfl rfl (uT_ 6) (fun hg => (yd (aD b) 0 0 K44 K39)) ?_
 refine sgq 8 (B := r_1) (v := .slice B c.Gates.length c1) rfl rfl (uT_ 6) (fun hg1 => (yl (aD b) 1 [vi c.Qubits, .slice B c.Gates.length c1] (.slice B c.Gates.length c1) K43 (hS2.c 0) rfl (gv_of (v := pt (aD b) 1) hg1))) ?_
 refine sgq 9 (B := r_1) (v := vi (c.Gates.length : Int)) rfl rfl (uT_ 6) (fun hg2 => (Y_len (B := B) (m := c.Gates.length) (c := c1) K11 rfl (gv_of (v := .slice B c.Gates.length c1) hg2))) ?_
 refine sgq 10 (B := r_1) (v := .bool (decide ((c.Gates.length : Int) ≤ 400))) rfl rfl (uT_ 6) (fun hg3 => (Y_le (k := .i64) (a := (c.Gates.length : Int)) (b := 400) rfl (gv_of (v := vi (c.Gates.length : Int)) hg3) rfl)) ?_
 refine sQ 11 (Y_and (b := r_1) (z := (decide ((c.Gates.length : Int) ≤ 400))) rfl rfl rfl rfl) <| sQ 12 (ym (.bool (r_1 && (decide ((c.Gates.length : Int) ≤ 400))))) ?_
 refine sgq 13 (B := (r_1 && (decide ((c.Gates.length : Int) ≤ 400)))) (v := pt (aD b) 1) rfl rfl (uT_ 12) (fun hg4 => (yd (aD b) 0 0 K44 K39)) ?_
 refine sgq 14 (B := (r_1 && (decide ((c.Gates.length : Int) ≤ 400)))) (v := .slice B c.Gates.length c1) rfl rfl (uT_ 12) (fun hg5 => (yl (aD b) 1 [vi c.Qubits, .slice B c.Gates.length c1] (.slice B c.Gates.length c1) K43 (hS2.c 0) rfl (gv_of (v := pt (aD b) 1) hg5))) ?_
 refine sgq 15 (B := (r_1 && (decide ((c.Gates.length : Int) ≤ 400)))) (v := .func (.func 79) #[] #[pt (aD b) 0]) rfl rfl (uT_ 12) (fun hg6 => (Y_makeFunc (cs := [pt (aD b) 0]) rfl rfl (mc rfl mn))) ?_
 obtain ⟨r_2, hc1, hF⟩ := bI hF
 refine sgc 16 (B := (r_1 && (decide ((c.Gates.length : Int) ≤ 400)))) (v := .bool r_2) (F := hS2.fn) rfl rfl (uT_ 12) hS2 (fun hg7 => (yC [.slice B c.Gates.length c1, .func (.func 79) #[] #[pt (aD b) 0]] k_call_78 (CV.mono (c_slices_ContainsFunc_impl_Gate_impl_Gate c.Gates (fun x_0 => F_impl_IsValidCircuit_1 x_0 c) B c1 c.Gates.length 79 (#[pt (aD b) 0]) [⟨aD b, [vi c.Qubits, .slice B c.Gates.length c1]⟩, ⟨B, (c.Gates.flatMap eN0)⟩] _ rfl k_call_79 (fun w hw x_0 y_0 h_ => c_impl_IsValidCircuit_1 x_0 c (aD b) B c1 c.Gates.length w rfl hw h_) (hS2.inn0 [(true, 0), (false, 0), (true, 0)] rfl) (gb_inv hc1 hg7)) (by rintro _ _ ⟨rfl, h⟩; exact ⟨rfl, hS2.out00 h⟩)) rfl (mc (gv_of (v := .slice B c.Gates.length c1) hg7) (mc (gv_of (v := .func (.func 79) #[] #[pt (aD b) 0]) hg7) mn)))) ?_
 rintro w_2 hS3
 refine sgq 17 (B := (r_1 && (decide ((c.Gates.length : Int) ≤ 400)))) (v := .bool (!r_2)) rfl rfl (uT_ 12) (fun hg8 => (Y_not (p := r_2) rfl (gv_of (v := .bool r_2) hg8))) ?_
 refine sQ 18 (Y_and (b := (r_1 && (decide ((c.Gates.length : Int) ≤ 400)))) (z := (!r_2)) rfl rfl rfl rfl) <| sQ 2 (yg (.bool ((r_1 && (decide ((c.Gates.length : Int) ≤ 400))) && (!r_2)))) (rn (ct_ ?_))
 obtain rfl := sI hF
 exact ret1 Tryz.results45 (v1 := .bool ((r_1 && (decide ((c.Gates.length : Int) ≤ 400))) && (!r_2))) (resAt_tmp rfl) ⟨rfl, (hS3.sN [])⟩

theorem c_impl_isCoef (n : Int)  (w0 : World)  (hS : ST w0 [] w0 [] []) {r_ : Bool} (hF : F_impl_isCoef n = some r_) :
  CV Tryz.prog 127 #[vi n] w0 (fun v w' => v = .bool r_ ∧ ST w0 [] w' [] []) := by
 unfold F_impl_isCoef at hF
 refine cv_of_cw 5 Tryz.func127 rfl Tryz.ntmps127 rfl ?_
 refine cq (cr ?_)
 refine sQ 2 (yg (.bool false)) (rn (cq (cr ?_)))
 refine sQ 3 (ym (vi n)) ?_
 obtain ⟨r_1, hc, hF⟩ := bI hF
 refine sc 4 rfl rfl (yC [vi n, vi (-1000000000), vi 1000000000] K50 (c_impl_within n (-1000000000) 1000000000 _  (hS.inn0 [] rfl) hc)) ?_
 rintro _ w_ ⟨rfl, hd⟩
 have hS1 := hS.out00 hd
 refine sQ 2 (yg (.bool r_1)) (rn (ct_ ?_))
 obtain rfl := sI hF
 exact ret1 Tryz.results127 (v1 := .bool r_1) (resAt_tmp rfl) ⟨rfl, (hS1.sN [])⟩

theorem c_impl_IsValidRing (x : TRing)  (w0 : World)  (hS : ST w0 [] w0 [] []) {r_ : Bool} (hF : F_impl_IsValidRing x = some r_) :
  CV Tryz.prog 113 #[gR_ x] w0 (fun v w' => v = .bool r_ ∧ ST w0 [] w' [] []) := by
 unfold F_impl_IsValidRing at hF
 refine cv_of_cw 21 Tryz.func113 rfl Tryz.ntmps113 rfl ?_
 refine cq (cr ?_)
 refine sS 1 (yB 89 (gR_ x) (kR_ x) 4 hS) ?_
 rintro _ w_ ⟨b, rfl, hS1⟩
 refine sQ 2 (yg (.bool false)) (rn (cq (cr ?_)))
 refine sQ 3 (yd (aD b) 0 0 K14 K1) <| sQ 4 (yl (aD b) 0 (kR_ x) (vi x.A) K0 (hS1.c 0)) ?_
 obtain ⟨r_1, hc, hF⟩ := bI hF
 refine sc 5 rfl rfl (yC [vi x.A] K83 (c_impl_isCoef x.A _  (hS1.inn0 [] rfl) hc)) ?_
 rintro _ w_1 ⟨rfl, hd⟩
 have hS2 := hS1.out00 hd
 refine sQ 6 (ym (.bool r_1)) ?_
 refine sgq 7 (B := r_1) (v := pt (aD b) 1) rfl rfl (uT_ 6) (fun hg => (yd (aD b) 0 0 K16 K1)) ?_
 refine sgq 8 (B := r_1) (v := vi x.B) rfl rfl (uT_ 6) (fun hg1 => (yl (aD b) 1 (kR_ x) (vi x.B) K0 (hS2.c 0) rfl (gv_of (v := pt (aD b) 1) hg1))) ?_
 obtain ⟨r_2, hc1, hF⟩ := bI hF
 refine sgc 9 (B := r_1) (v := .bool r_2) (F := hS2.fn) rfl rfl (uT_ 6) hS2 (fun hg2 => (yC [vi x.B] K83 (CV.mono (c_impl_isCoef x.B _  (hS2.inn0 [] rfl) (gb_inv hc1 hg2)) (by rintro _ _ ⟨rfl, h⟩; exact ⟨rfl, hS2.out00 h⟩)) rfl (mc (gv_of (v := vi x.B) hg2) mn))) ?_
 rintro w_2 hS3
 refine sQ 10 (Y_and (b := r_1) (z := r_2) rfl rfl rfl rfl) <| sQ 11 (ym (.bool (r_1 && r_2))) ?_
 refine sgq 12 (B := (r_1 && r_2)) (v := pt (aD b) 2) rfl rfl (uT_ 11) (fun hg3 => (yd (aD b) 0 0 K17 K1)) ?_
 refine sgq 13 (B := (r_1 && r_2)) (v := vi x.C) rfl rfl (uT_ 11) (fun hg4 => (yl (aD b) 2 (kR_ x) (vi x.C) K0 (hS3.c 0) rfl (gv_of (v := pt (aD b) 2) hg4))) ?_
 obtain ⟨r_3, hc2, hF⟩ := bI hF
 refine sgc 14 (B := (r_1 && r_2)) (v := .bool r_3) (F := hS3.fn) rfl rfl (uT_ 11) hS3 (fun hg5 => (yC [vi x.C] K83 (CV.mono (c_impl_isCoef x.C _  (hS3.inn0 [] rfl) (gb_inv hc2 hg5)) (by rintro _ _ ⟨rfl, h⟩; exact ⟨rfl, hS3.out00 h⟩)) rfl (mc (gv_of (v := vi x.C) hg5) mn))) ?_
 rintro w_3 hS4
 refine sQ 15 (Y_and (b := (r_1 && r_2)) (z := r_3) rfl rfl rfl rfl) <| sQ 16 (ym (.bool ((r_1 && r_2) && r_3))) ?_
 refine sgq 17 (B := ((r_1 && r_2) && r_3)) (v := pt (aD b) 3) rfl rfl (uT_ 16) (fun hg6 => (yd (aD b) 0 0 K15 K1)) ?_
 refine sgq 18 (B := ((r_1 && r_2) && r_3)) (v := vi x.D) rfl rfl (uT_ 16) (fun hg7 => (yl (aD b) 3 (kR_ x) (vi x.D) K0 (hS4.c 0) rfl (gv_of (v := pt (aD b) 3) hg7))) ?_
 obtain ⟨r_4, hc3, hF⟩ := bI hF
 refine sgc 19 (B := ((r_1 && r_2) && r_3)) (v := .bool r_4) (F := hS4.fn) rfl rfl (uT_ 16) hS4 (fun hg8 => (yC [vi x.D] K83 (CV.mono (c_impl_isCoef x.D _  (hS4.inn0 [] rfl) (gb_inv hc3 hg8)) (by rintro _ _ ⟨rfl, h⟩; exact ⟨rfl, hS4.out00 h⟩)) rfl (mc (gv_of (v := vi x.D) hg8) mn))) ?_
 rintro w_4 hS5
 refine sQ 20 (Y_and (b := ((r_1 && r_2) && r_3)) (z := r_4) rfl rfl rfl rfl) <| sQ 2 (yg (.bool (((r_1 && r_2) && r_3) && r_4))) (rn (ct_ ?_))
 obtain rfl := sI hF
 exact ret1 Tryz.results113 (v1 := .bool (((r_1 && r_2) && r_3) && r_4)) (resAt_tmp rfl) ⟨rfl, (hS5.sN [])⟩

theorem c_impl_MulOmega (x : TRing) (k_ : Int)  (w0 : World)  (hS : ST w0 [] w0 [] []) {r_ : TRing} {r_1 : Bool} (hF : F_impl_MulOmega x k_ = some (r_, r_1)) :
  CV Tryz.prog 91 #[gR_ x, vi k_] w0 (fun v w' => v = .tuple #[gR_ r_, .bool r_1] ∧ ST w0 [] w' [] []) := by
 unfold F_impl_MulOmega at hF
 refine cv_of_cw 33 Tryz.func91 rfl Tryz.ntmps91 rfl ?_
 refine cq (cr ?_)
 refine sS 2 (yB 89 (gR_ x) (kR_ x) 4 hS) ?_
 rintro _ w_ ⟨b, rfl, hS1⟩
 refine sS 4 (yN [vi 0, vi 0, vi 0, vi 0] 4 hS1 K12) ?_
 rintro _ w_1 ⟨b1, rfl, hS2⟩
 refine sQ 5 (yg (.bool false)) (rn (cq (cq (cr ?_))))
 refine sQ 6 (ym (vi k_)) ?_
 obtain ⟨r_2, hc, hF⟩ := bI hF
 refine sc 7 rfl rfl (yC [vi k_, vi (-1000), vi 1000] K50 (c_impl_within k_ (-1000) 1000 _  (hS2.inn0 [] rfl) hc)) ?_
 rintro _ w_2 ⟨rfl, hd⟩
 have hS3 := hS2.out00 hd
 refine sQ 8 (Y_not (p := r_2) rfl rfl) <| sQ 9 (ym (.bool (!r_2))) ?_
 refine sgq 10 (B := (!(!r_2))) (v := gR_ x) rfl rfl (uF_ 9) (fun hg => (yb (aD b) 0 (kR_ x) K6 K3 (hS3.c 0))) ?_
 obtain ⟨r_3, hc1, hF⟩ := bI hF
 refine sgc 11 (B := (!(!r_2))) (v := .bool r_3) (F := hS3.fn) rfl rfl (uF_ 9) hS3 (fun hg1 => (yC [gR_ x] K69 (CV.mono (c_impl_IsValidRing x _  (hS3.inn0 [] rfl) (gb_inv hc1 hg1)) (by rintro _ _ ⟨rfl, h⟩; exact ⟨rfl, hS3.out00 h⟩)) rfl (mc (gv_of (v := gR_ x) hg1) mn))) ?_
 rintro w_3 hS4
 refine sgq 12 (B := (!(!r_2))) (v := .bool (!r_3)) rfl rfl (uF_ 9) (fun hg2 => (Y_not (p := r_3) rfl (gv_of (v := .bool r_3) hg2))) ?_
 refine sQ 13 (Y_or (b := (!r_2)) (z := (!r_3)) rfl rfl rfl rfl) (rn ?_)
 refine cw_cond (b := ((!r_2) || (!r_3))) rfl (fun hb => ?_) (fun hb => ?_)
 ·skip
  have hF1 := ct hF hb
  refine cq (cr ?_)
  refine sQ 14 (Y_buildS (zs := [vi 0, vi 0, vi 0, vi 0]) (vs := []) (cs := [vi 0, vi 0, vi 0, vi 0]) K30 K12 rfl mpn rfl) ?_
  refine s0 (yT 1 4 (aD b1) 89 (.agg #[vi 0, vi 0, vi 0, vi 0]) [vi 0, vi 0, vi 0, vi 0] 0 hS4 K3) ?_
  rintro _ w_4 ⟨rfl, hS5⟩
  refine sQ 5 (yg (.bool false)) (rn (ct_ ?_))
  obtain ⟨rfl, rfl⟩ := pr2 (sI hF1)
  exact ret2 Tryz.results91 (v1 := .agg #[vi 0, vi 0, vi 0, vi 0]) (resAt_cellA (B := aD b1) (i := 0) (cs := [vi 0, vi 0, vi 0, vi 0]) (vs := [vi 0, vi 0, vi 0, vi 0]) rfl K6 K3 (hS5.c 1) rfl rfl) (v2 := .bool false) (resAt_tmp rfl) ⟨rfl, (hS5.sN [])⟩
 ·skip
  have hF2 := cf' hF hb
  refine cw_skip (cq (cq (cr ?_)))
  refine sQ 15 (ym (vi k_)) <| sQ 16 (Y_rem (k := .i64) (a := k_) (b := 8) rfl rfl rfl (by decide)) <| sQ 17 (yP (Int.tmod k_ 8) 8) <| sQ 18 (Y_rem (k := .i64) (a := (i64.wrap ((Int.tmod k_ 8) + 8))) (b := 8) rfl rfl rfl (by decide)) <| sQ 19 (ym (vi 0)) (rn ?_)
  obtain ⟨hN, hF2⟩ := chk_inv hF2
  obtain ⟨z, hz, hF3⟩ := bI hF2
  refine cw_block ?_
  refine cw_loop (fun k f w => ∃ (i : Nat) (A : Int) (B : Int) (C : Int) (D : Int), FF f [(2, pt (aD b) 0), (4, pt (aD b1) 0), (18, vi (Int.tmod (i64.wrap ((Int.tmod k_ 8) + 8)) 8)), (19, vi (i : Int))] ∧ ST w0 [] w [⟨aD b, 89, [vi A, vi B, vi C, vi D], 4⟩, ⟨aD b1, 89, [vi 0, vi 0, vi 0, vi 0], 4⟩] [] ∧ i + k = (Int.tmod (i64.wrap ((Int.tmod k_ 8) + 8)) 8).toNat ∧ forN F_impl_MulOmega_l1 k i (A, B, C, D) = some z) ((Int.tmod (i64.wrap ((Int.tmod k_ 8) + 8)) 8).toNat) ⟨0, x.A, x.B, x.C, x.D, (fc rfl (fc rfl (fc rfl (fc rfl fn_)))), (hS4.sel [0, 1] rfl rfl), Nat.zero_add _, hz⟩ ?_
  rintro K7 f w ⟨i, A, B, C, D, hf, hS6, hik, hL⟩
  refine cq (cr ?_)
  refine sQ 20 (yL (i : Int) (Int.tmod (i64.wrap ((Int.tmod k_ 8) + 8)) 8) rfl (hf.g 19 3) (hf.g 18 2)) (rn (cq ?_))
  refine cw_cond (b := (decide ((i : Int) < (Int.tmod (i64.wrap ((Int.tmod k_ 8) + 8)) 8)))) rfl (fun hlt => ?_) (fun hlt => ?_)
  ·skip
   have hlt1 : i < (Int.tmod (i64.wrap ((Int.tmod k_ 8) + 8)) 8).toNat := by have h := of_decide_eq_true hlt; omega
   obtain ⟨K23, rfl⟩ : ∃ k2, K7 = k2 + 1 := ⟨K7 - 1, by omega⟩
   obtain ⟨y, hb1, hL1⟩ := forN_go hL
   unfold F_impl_MulOmega_l1 at hb1
   refine cw_skip (cq (cw_block (cr ?_)))
   refine sQ 21 (yd (aD b) 0 0 K15 K1 rfl (hf.g 2 0)) <| sQ 22 (yl (aD b) 3 [vi A, vi B, vi C, vi D] (vi D) K0 (hS6.c 0)) <| sQ 23 (Y_neg (k := .i64) (a := D) rfl rfl) <| sQ 24 (yd (aD b) 0 0 K14 K1 rfl (hf.g 2 0)) <| sQ 25 (yl (aD b) 0 [vi A, vi B, vi C, vi D] (vi A) K0 (hS6.c 0)) <| sQ 26 (yd (aD b) 0 0 K16 K1 rfl (hf.g 2 0)) ?_
   refine sQ 27 (yl (aD b) 1 [vi A, vi B, vi C, vi D] (vi B) K0 (hS6.c 0)) <| sQ 28 (yd (aD b) 0 0 K17 K1 rfl (hf.g 2 0)) <| sQ 29 (yl (aD b) 2 [vi A, vi B, vi C, vi D] (vi C) K0 (hS6.c 0)) <| sQ 30 (Y_buildS (zs := [vi 0, vi 0, vi 0, vi 0]) (vs := [(0, vi (i64.wrap (-D))), (1, vi A), (2, vi B), (3, vi C)]) (cs := [vi (i64.wrap (-D)), vi A, vi B, vi C]) K30 K12 rfl (mpc rfl (mpc rfl (mpc rfl (mpc rfl mpn)))) rfl) ?_
   refine s0 (yT 0 4 (aD b) 89 (.agg #[vi (i64.wrap (-D)), vi A, vi B, vi C]) [vi (i64.wrap (-D)), vi A, vi B, vi C] 0 hS6 K3 rfl (hf.g 2 0)) ?_
   rintro _ w_5 ⟨rfl, hS7⟩
   refine rn (cr ?_)
   refine sQ 31 (yP (i : Int) 1 rfl (hf.g 19 3)) <| sQ 19 (ym (vi (i64.wrap ((i : Int) + 1)))) (rn ?_)
   obtain rfl := sI hb1
   exact ⟨K23, Nat.lt_succ_self _, i + 1, (i64.wrap (-D)), A, B, C, (fc (hf.g 2 0) (fc (hf.g 4 1) (fc (hf.g 18 2) (fc (congrArg (Value.int .i64) (wr_succ hlt1 hN)) fn_)))), (hS7.sel [0, 1] rfl rfl), (by omega), hL1⟩
  ·skip
   obtain rfl : K7 = 0 := by have h := of_decide_eq_false hlt; omega
   refine cw_exit rfl ?_
   obtain rfl := sI hL
   refine cq (cr ?_)
   refine sQ 32 (yb (aD b) 0 [vi A, vi B, vi C, vi D] K6 K3 (hS6.c 0) rfl (hf.g 2 0)) ?_
   refine s0 (yT 1 4 (aD b1) 89 (.agg #[vi A, vi B, vi C, vi D]) [vi A, vi B, vi C, vi D] 0 hS6 K3 rfl (hf.g 4 1)) ?_
   rintro _ w_6 ⟨rfl, hS8⟩
   refine sQ 5 (yg (.bool true)) (rn (ct_ ?_))
   obtain ⟨rfl, rfl⟩ := pr2 (sI hF3)
   exact ret2 Tryz.results91 (v1 := .agg #[vi A, vi B, vi C, vi D]) (resAt_cellA (B := aD b1) (i := 0) (cs := [vi A, vi B, vi C, vi D]) (vs := [vi A, vi B, vi C, vi D]) (hf.g 4 1) K6 K3 (hS8.c 1) rfl rfl) (v2 := .bool true) (resAt_tmp rfl) ⟨rfl, (hS8.sN [])⟩

theorem c_impl_phase (k_ : Int)  (w0 : World)  (hS : ST w0 [] w0 [] []) {r_ : TDyadic} (hF : F_impl_phase k_ = some r_) :
  CV Tryz.prog 62 #[vi k_] w0 (fun v w' => v = (gD_ r_) ∧ ST w0 [] w' [] []) := by
 unfold F_impl_phase at hF
 refine cv_of_cw 13 Tryz.func62 rfl Tryz.ntmps62 rfl ?_
 refine cq (cr ?_)
 refine sS 2 (yN kZ_ 5 hS K8) ?_
 rintro _ w_ ⟨b, rfl, hS1⟩
 refine rn (cq (cr ?_))
 refine sQ 6 (Y_buildS (zs := [vi 0, vi 0, vi 0, vi 0]) (vs := [(0, vi 1)]) (cs := [vi 1, vi 0, vi 0, vi 0]) K30 K12 rfl (mpc rfl mpn) rfl) <| sQ 7 (ym (vi k_)) ?_
 obtain ⟨⟨r_1, r_2⟩, hc, hF⟩ := bI hF
 refine sc 8 rfl rfl (yC [.agg #[vi 1, vi 0, vi 0, vi 0], vi k_] k_call_91 (c_impl_MulOmega (TRing.mk 1 0 0 0) k_ _  (hS1.inn0 [] rfl) hc)) ?_
 rintro _ w_1 ⟨rfl, hd⟩
 have hS2 := hS1.out00 hd
 refine sQ 5 (ym (.tuple #[gR_ r_1, .bool r_2])) <| sQ 9 (ye (gR_ r_1)) <| sQ 10 (ye (.bool r_2)) ?_
 refine sS 3 (yN [vi 0, vi 0, vi 0, vi 0] 4 hS2 K12) ?_
 rintro _ w_2 ⟨b1, rfl, hS3⟩
 refine s0 (yT 1 4 (aD b1) 89 (gR_ r_1) (kR_ r_1) 0 hS3 K3) ?_
 rintro _ w_3 ⟨rfl, hS4⟩
 refine sQ 4 (yg (.bool r_2)) (rn (cq (cr ?_)))
 refine sQ 11 (yb (aD b1) 0 (kR_ r_1) K6 K3 (hS4.c 1)) <| sQ 12 (Y_buildS (zs := kZ_) (vs := [(0, gR_ r_1)]) (cs := [vi r_1.A, vi r_1.B, vi r_1.C, vi r_1.D, vi 0]) K22 K8 rfl (mpc rfl mpn) rfl) ?_
 refine s0 (yT 0 5 (aD b) 91 (.agg #[vi r_1.A, vi r_1.B, vi r_1.C, vi r_1.D, vi 0]) [vi r_1.A, vi r_1.B, vi r_1.C, vi r_1.D, vi 0] 0 hS4 K2) ?_
 rintro _ w_4 ⟨rfl, hS5⟩
 refine rn (ct_ ?_)
 obtain rfl := sI hF
 exact ret1 Tryz.results62 (v1 := .agg #[vi r_1.A, vi r_1.B, vi r_1.C, vi r_1.D, vi 0]) (resAt_cellA (B := aD b) (i := 0) (cs := [vi r_1.A, vi r_1.B, vi r_1.C, vi r_1.D, vi 0]) (vs := [vi r_1.A, vi r_1.B, vi r_1.C, vi r_1.D, vi 0]) rfl K5 K2 (hS5.c 0) rfl rfl) ⟨rfl, (hS5.sN [])⟩

theorem c_impl_bitOf (n : Int) (state : Int) (q : Int)  (w0 : World)  (hS : ST w0 [] w0 [] []) {r_ : Int} (hF : F_impl_bitOf n state q = some r_) :
  CV Tryz.prog 66 #[vi n, vi state, vi q] w0 (fun v w' => v = vi r_ ∧ ST w0 [] w' [] []) := by
 unfold F_impl_bitOf at hF
 refine cv_of_cw 14 Tryz.func66 rfl Tryz.ntmps66 rfl ?_
 refine cq (cr ?_)
 refine sQ 6 (yg (vi 0)) (rn (cq (cr ?_)))
 refine sQ 7 (ym (vi state)) <| sQ 8 (ym (vi n)) <| sQ 9 (yM n 1) <| sQ 10 (ym (vi q)) <| sQ 11 (yM (i64.wrap (n - 1)) q) ?_
 obtain ⟨hsh, hF⟩ := chk_inv hF
 refine sQ 12 (Y_shr (k := .i64) (a := state) (k' := .i64) (b := (i64.wrap ((i64.wrap (n - 1)) - q))) rfl rfl rfl hsh) <| sQ 13 (Y_band (k := .i64) (a := (shrK .i64 state (i64.wrap ((i64.wrap (n - 1)) - q)))) (b := 1) rfl rfl rfl) <| sQ 6 (yg (vi (bits .and .i64 (shrK .i64 state (i64.wrap ((i64.wrap (n - 1)) - q))) 1))) (rn (ct_ ?_))
 obtain rfl := sI hF
 exact ret1 Tryz.results66 (v1 := vi (bits .and .i64 (shrK .i64 state (i64.wrap ((i64.wrap (n - 1)) - q))) 1)) (resAt_tmp rfl) ⟨rfl, (hS.sN [])⟩

theorem c_impl_flipped (n : Int) (state : Int) (q : Int)  (w0 : World)  (hS : ST w0 [] w0 [] []) {r_ : Int} (hF : F_impl_flipped n state q = some r_) :
  CV Tryz.prog 67 #[vi n, vi state, vi q] w0 (fun v w' => v = vi r_ ∧ ST w0 [] w' [] []) := by
 unfold F_impl_flipped at hF
 refine cv_of_cw 14 Tryz.func67 rfl Tryz.ntmps67 rfl ?_
 refine cq (cr ?_)
 refine sQ 6 (yg (vi 0)) (rn (cq (cr ?_)))
 refine sQ 7 (ym (vi state)) <| sQ 8 (ym (vi n)) <| sQ 9 (yM n 1) <| sQ 10 (ym (vi q)) <| sQ 11 (yM (i64.wrap (n - 1)) q) ?_
 obtain ⟨hsh, hF⟩ := chk_inv hF
 refine sQ 12 (Y_shl (k := .i64) (a := 1) (k' := .i64) (b := (i64.wrap ((i64.wrap (n - 1)) - q))) rfl rfl rfl hsh) <| sQ 13 (Y_bxor (k := .i64) (a := state) (b := (shlK .i64 1 (i64.wrap ((i64.wrap (n - 1)) - q)))) rfl rfl rfl) <| sQ 6 (yg (vi (bits .xor .i64 state (shlK .i64 1 (i64.wrap ((i64.wrap (n - 1)) - q)))))) (rn (ct_ ?_))
 obtain rfl := sI hF
 exact ret1 Tryz.results67 (v1 := vi (bits .xor .i64 state (shlK .i64 1 (i64.wrap ((i64.wrap (n - 1)) - q))))) (resAt_tmp rfl) ⟨rfl, (hS.sN [])⟩

theorem c_impl_comesFrom (n : Int) (g : TGate) (state : Int)  (w0 : World)  (hS : ST w0 [] w0 [] []) {r_ : Int} (hF : F_impl_comesFrom n g state = some r_) :
  CV Tryz.prog 64 #[vi n, .agg #[vi g.Kind, vi g.A, vi g.B], vi state] w0 (fun v w' => v = vi r_ ∧ ST w0 [] w' [] []) := by
 unfold F_impl_comesFrom at hF
 refine cv_of_cw 51 Tryz.func64 rfl Tryz.ntmps64 rfl ?_
 refine cq (cr ?_)
 refine sS 4 (yB 56 (.agg #[vi g.Kind, vi g.A, vi g.B]) [vi g.Kind, vi g.A, vi g.B] 3 hS) ?_
 rintro _ w_ ⟨b, rfl, hS1⟩
 refine sQ 6 (yg (vi 0)) (rn (cq ?_))
 obtain ⟨r_1, hc, hF⟩ := bI hF
 obtain ⟨r_2, hc1, hF⟩ := bI hF
 refine ra_start (hS1.se [0]).fn (by kernel_rfl) ?_
 have hS4 := hS1.drew
 refine rq 0 9 (v := vi n) rfl (hS4.se [0]) (fun w' hw' => (ym (vi n))) ?_
 refine rq 1 10 (v := vi state) rfl (hS4.se [0]) (fun w' hw' => (ym (vi state))) ?_
 refine rq 2 11 (v := pt (aD b) 1) rfl (hS4.se [0]) (fun w' hw' => (yd (aD b) 0 0 K26 K1)) ?_
 refine rq 3 12 (v := vi g.A) rfl (hS4.se [0]) (fun w' hw' => (yl (aD b) 1 [vi g.Kind, vi g.A, vi g.B] (vi g.A) K0 (ST.cf hw' (i := 0) rfl))) ?_
 refine rq 5 14 (v := vi n) rfl (hS4.se [0]) (fun w' hw' => (ym (vi n))) ?_
 refine rq 6 15 (v := vi state) rfl (hS4.se [0]) (fun w' hw' => (ym (vi state))) ?_
 refine rq 7 16 (v := pt (aD b) 2) rfl (hS4.se [0]) (fun w' hw' => (yd (aD b) 0 0 K35 K1)) ?_
 refine rq 8 17 (v := vi g.B) rfl (hS4.se [0]) (fun w' hw' => (yl (aD b) 2 [vi g.Kind, vi g.A, vi g.B] (vi g.B) K0 (ST.cf hw' (i := 0) rfl))) ?_
 refine rA [4] ?_
 refine rC 13 4 rfl (yC [vi n, vi state, vi g.A] K70 (c_impl_bitOf n state g.A _  (hS4.inn0 [] rfl) hc)) ?_ ?_
 ·rintro _ w_1 ⟨rfl, hd⟩
  have hS5 := hS4.out00 hd
  refine ⟨(hS5.se [0]), ?_⟩
  refine rA [9] ?_
  refine rC 18 9 rfl (yC [vi n, vi state, vi g.B] K70 (c_impl_bitOf n state g.B _  (hS5.inn0 [] rfl) hc1)) ?_ ?_
  ·rintro _ w_2 ⟨rfl, hd1⟩
   have hS6 := hS5.out00 hd1
   refine ⟨(hS6.se [0]), ?_⟩
   refine rq 10 7 (v := vi r_1) rfl (hS6.se [0]) (fun w' hw' => (yg (vi r_1))) ?_
   refine rq 11 8 (v := vi r_2) rfl (hS6.se [0]) (fun w' hw' => (yg (vi r_2))) ?_
   refine ra_done (by kernel_rfl) ?_
   refine cq (cw_block (cq (cr ?_)))
   refine sQ 20 (yd (aD b) 0 0 K38 K1) <| sQ 21 (yl (aD b) 0 [vi g.Kind, vi g.A, vi g.B] (vi g.Kind) K0 (hS6.c 0)) <| sQ 22 (yE g.Kind 9) <| sQ 23 (ym (.bool (g.Kind == 9))) ?_
   refine sgq 24 (B := (g.Kind == 9)) (v := vi r_1) rfl rfl (uT_ 23) (fun hg => (ym (vi r_1))) ?_
   refine sgq 25 (B := (g.Kind == 9)) (v := .bool (r_1 == 1)) rfl rfl (uT_ 23) (fun hg1 => (yE r_1 1 rfl (gv_of (v := vi r_1) hg1))) ?_
   refine sQ 26 (Y_and (b := (g.Kind == 9)) (z := (r_1 == 1)) rfl rfl rfl rfl) <| sQ 19 (yg (.bool ((g.Kind == 9) && (r_1 == 1)))) (rn ?_)
   refine cw_cond (b := ((g.Kind == 9) && (r_1 == 1))) rfl (fun hb => ?_) (fun hb => ?_)
   ·skip
    have hF1 := ct hF hb
    refine cq (cr ?_)
    refine sQ 27 (ym (vi n)) <| sQ 28 (ym (vi state)) <| sQ 29 (yd (aD b) 0 0 K35 K1) <| sQ 30 (yl (aD b) 2 [vi g.Kind, vi g.A, vi g.B] (vi g.B) K0 (hS6.c 0)) ?_
    obtain ⟨r_3, hc2, hF1⟩ := bI hF1
    refine sc 31 rfl rfl (yC [vi n, vi state, vi g.B] K84 (c_impl_flipped n state g.B _  (hS6.inn0 [] rfl) hc2)) ?_
    rintro _ w_3 ⟨rfl, hd2⟩
    have hS7 := hS6.out00 hd2
    refine sQ 6 (yg (vi r_3)) (rn (ct_ ?_))
    obtain rfl := sI hF1
    exact ret1 Tryz.results64 (v1 := vi r_3) (resAt_tmp rfl) ⟨rfl, (hS7.sN [])⟩
   ·skip
    have hF2 := cf' hF hb
    refine cq (cr ?_)
    refine sQ 33 (yd (aD b) 0 0 K38 K1) <| sQ 34 (yl (aD b) 0 [vi g.Kind, vi g.A, vi g.B] (vi g.Kind) K0 (hS6.c 0)) <| sQ 35 (yE g.Kind 11) <| sQ 36 (ym (.bool (g.Kind == 11))) ?_
    refine sgq 37 (B := (g.Kind == 11)) (v := vi r_1) rfl rfl (uT_ 36) (fun hg2 => (ym (vi r_1))) ?_
    refine sgq 38 (B := (g.Kind == 11)) (v := vi r_2) rfl rfl (uT_ 36) (fun hg3 => (ym (vi r_2))) ?_
    refine sgq 39 (B := (g.Kind == 11)) (v := .bool (r_1 != r_2)) rfl rfl (uT_ 36) (fun hg4 => (Y_ne (k := .i64) (a := r_1) (b := r_2) rfl (gv_of (v := vi r_1) hg4) (gv_of (v := vi r_2) hg4))) ?_
    refine sQ 40 (Y_and (b := (g.Kind == 11)) (z := (r_1 != r_2)) rfl rfl rfl rfl) <| sQ 32 (yg (.bool ((g.Kind == 11) && (r_1 != r_2)))) (rn ?_)
    refine cw_cond (b := ((g.Kind == 11) && (r_1 != r_2))) rfl (fun hb1 => ?_) (fun hb1 => ?_)
    ·skip
     have hF3 := ct hF2 hb1
     refine cq ?_
     obtain ⟨r_4, hc3, hF3⟩ := bI hF3
     obtain ⟨r_5, hc4, hF3⟩ := bI hF3
     refine ra_start (hS6.se [0]).fn (by kernel_rfl) ?_
     have hS10 := hS6.drew
     refine rq 0 41 (v := vi n) rfl (hS10.se [0]) (fun w' hw' => (ym (vi n))) ?_
     refine rq 1 42 (v := vi n) rfl (hS10.se [0]) (fun w' hw' => (ym (vi n))) ?_
     refine rq 2 43 (v := vi state) rfl (hS10.se [0]) (fun w' hw' => (ym (vi state))) ?_
     refine rq 3 44 (v := pt (aD b) 1) rfl (hS10.se [0]) (fun w' hw' => (yd (aD b) 0 0 K26 K1)) ?_
     refine rq 4 45 (v := vi g.A) rfl (hS10.se [0]) (fun w' hw' => (yl (aD b) 1 [vi g.Kind, vi g.A, vi g.B] (vi g.A) K0 (ST.cf hw' (i := 0) rfl))) ?_
     refine rq 6 47 (v := pt (aD b) 2) rfl (hS10.se [0]) (fun w' hw' => (yd (aD b) 0 0 K35 K1)) ?_
     refine rq 7 48 (v := vi g.B) rfl (hS10.se [0]) (fun w' hw' => (yl (aD b) 2 [vi g.Kind, vi g.A, vi g.B] (vi g.B) K0 (ST.cf hw' (i := 0) rfl))) ?_
     refine rA [5] ?_
     refine rC 46 5 rfl (yC [vi n, vi state, vi g.A] K84 (c_impl_flipped n state g.A _  (hS10.inn0 [] rfl) hc3)) ?_ ?_
     ·rintro _ w_4 ⟨rfl, hd3⟩
      have hS11 := hS10.out00 hd3
      refine ⟨(hS11.se [0]), ?_⟩
      refine rA [8] ?_
      refine rC 49 8 rfl (yC [vi n, vi r_4, vi g.B] K84 (c_impl_flipped n r_4 g.B _  (hS11.inn0 [] rfl) hc4)) ?_ ?_
      ·rintro _ w_5 ⟨rfl, hd4⟩
       have hS12 := hS11.out00 hd4
       refine ⟨(hS12.se [0]), ?_⟩
       refine rq 9 6 (v := vi r_5) rfl (hS12.se [0]) (fun w' hw' => (yg (vi r_5))) ?_
       refine ra_done (by kernel_rfl) ?_
       refine ct_ ?_
       obtain rfl := sI hF3
       exact ret1 Tryz.results64 (v1 := vi r_5) (resAt_tmp rfl) ⟨rfl, (hS12.sN [])⟩
      exact aN
     exact aN
    ·skip
     have hF4 := cf' hF2 hb1
     refine cw_skip (cq (cr ?_))
     refine sQ 50 (ym (vi state)) <| sQ 6 (yg (vi state)) (rn (ct_ ?_))
     obtain rfl := sI hF4
     exact ret1 Tryz.results64 (v1 := vi state) (resAt_tmp rfl) ⟨rfl, (hS6.sN [])⟩
  exact aN
 exact aN

theorem c_impl_small (holds : Bool)  (w0 : World)  (hS : ST w0 [] w0 [] []) {r_ : Int} (hF : F_impl_small holds = some r_) :
  CV Tryz.prog 65 #[.bool holds] w0 (fun v w' => v = vi r_ ∧ ST w0 [] w' [] []) := by
 unfold F_impl_small at hF
 refine cv_of_cw 4 Tryz.func65 rfl Tryz.ntmps65 rfl ?_
 refine cq (cr ?_)
 refine sQ 2 (yg (vi 0)) (rn (cq (cq (cr ?_))))
 refine sQ 3 (ym (.bool holds)) (rn ?_)
 refine cw_cond (b := holds) rfl (fun hb => ?_) (fun hb => ?_)
 ·skip
  have hF1 := ct hF hb
  refine cq (cr ?_)
  refine sQ 2 (yg (vi 1)) (rn (ct_ ?_))
  obtain rfl := sI hF1
  exact ret1 Tryz.results65 (v1 := vi 1) (resAt_tmp rfl) ⟨rfl, (hS.sN [])⟩
 ·skip
  have hF2 := cf' hF hb
  refine cw_skip (cq (cr ?_))
  refine sQ 2 (yg (vi 0)) (rn (ct_ ?_))
  obtain rfl := sI hF2
  exact ret1 Tryz.results65 (v1 := vi 0) (resAt_tmp rfl) ⟨rfl, (hS.sN [])⟩

theorem c_impl_entry (kind : Int) (i : Int) (j : Int)  (w0 : World)  (hS : ST w0 [] w0 [] []) {r_ : TDyadic} (hF : F_impl_entry kind i j = some r_) :
  CV Tryz.prog 68 #[vi kind, vi i, vi j] w0 (fun v w' => v = (gD_ r_) ∧ ST w0 [] w' [] []) := by
 unfold F_impl_entry at hF
 refine cv_of_cw 67 Tryz.func68 rfl Tryz.ntmps68 rfl ?_
 refine cq (cr ?_)
 refine sS 6 (yN kZ_ 5 hS K8) ?_
 rintro _ w_ ⟨b, rfl, hS1⟩
 refine rn (cq (cr ?_))
 refine sQ 9 (Y_buildS (zs := [vi 0, vi 0, vi 0, vi 0]) (vs := [(0, vi 1)]) (cs := [vi 1, vi 0, vi 0, vi 0]) K30 K12 rfl (mpc rfl mpn) rfl) <| sQ 10 (Y_buildS (zs := kZ_) (vs := [(0, .agg #[vi 1, vi 0, vi 0, vi 0]), (1, vi 1)]) (cs := [vi 1, vi 0, vi 0, vi 0, vi 1]) K22 K8 rfl (mpc rfl (mpc rfl mpn)) rfl) ?_
 refine sS 7 (yN kZ_ 5 hS1 K8) ?_
 rintro _ w_1 ⟨b1, rfl, hS2⟩
 refine s0 (yT 1 5 (aD b1) 91 (.agg #[vi 1, vi 0, vi 0, vi 0, vi 1]) [vi 1, vi 0, vi 0, vi 0, vi 1] 0 hS2 K2) ?_
 rintro _ w_2 ⟨rfl, hS3⟩
 refine rn (cq (cr ?_))
 refine sS 11 (Ys_mkMap (T := 137) hS3 rfl) ?_
 rintro _ w_3 ⟨g, rfl, hS4⟩
 refine s0 (Ys_mapIns (kE := (Value.int .i64)) (vE := (Value.int .i64)) (l := ([] : List (Int × Int))) (a := 4) (b := 4) (g := g) (i := 2) hS4 (keyInt K41) K71 rfl rfl rfl rfl rfl rfl) ?_
 rintro _ w_4 ⟨rfl, hS5⟩
 refine s0 (Ys_mapIns (kE := (Value.int .i64)) (vE := (Value.int .i64)) (l := (mput ([] : List (Int × Int)) 4 4)) (a := 5) (b := 2) (g := g) (i := 2) hS5 (keyInt K41) K71 rfl rfl rfl rfl rfl rfl) ?_
 rintro _ w_5 ⟨rfl, hS6⟩
 refine s0 (Ys_mapIns (kE := (Value.int .i64)) (vE := (Value.int .i64)) (l := (mput (mput ([] : List (Int × Int)) 4 4) 5 2)) (a := 6) (b := 6) (g := g) (i := 2) hS6 (keyInt K41) K71 rfl rfl rfl rfl rfl rfl) ?_
 rintro _ w_6 ⟨rfl, hS7⟩
 refine s0 (Ys_mapIns (kE := (Value.int .i64)) (vE := (Value.int .i64)) (l := (mput (mput (mput ([] : List (Int × Int)) 4 4) 5 2) 6 6)) (a := 7) (b := 1) (g := g) (i := 2) hS7 (keyInt K41) K71 rfl rfl rfl rfl rfl rfl) ?_
 rintro _ w_7 ⟨rfl, hS8⟩
 refine s0 (Ys_mapIns (kE := (Value.int .i64)) (vE := (Value.int .i64)) (l := (mput (mput (mput (mput ([] : List (Int × Int)) 4 4) 5 2) 6 6) 7 1)) (a := 8) (b := 7) (g := g) (i := 2) hS8 (keyInt K41) K71 rfl rfl rfl rfl rfl rfl) ?_
 rintro _ w_8 ⟨rfl, hS9⟩
 refine sQ 12 (ym (.map (some g))) <| sQ 8 (yg (.map (some g))) (rn (cq (cw_block (cq (cr ?_)))))
 refine sQ 14 (ym (vi kind)) <| sQ 15 (yE kind 1) <| sQ 13 (yg (.bool (kind == 1))) (rn ?_)
 refine cw_cond (b := (kind == 1)) rfl (fun hb => ?_) (fun hb => ?_)
 ·skip
  have hF1 := ct hF hb
  refine cq ?_
  obtain ⟨z, hz, hF2⟩ := bI hF1
  refine cw_mid (fun f w => ∃ (A : Int), A = z ∧ FF f [(6, pt (aD b) 0), (7, pt (aD b1) 0)] ∧ ST w0 [] w [⟨aD b, 91, kZ_, 5⟩, ⟨aD b1, 91, [vi A, vi 0, vi 0, vi 0, vi 1], 5⟩] []) ?_ ?_
  ·skip
   refine cq (cr ?_)
   refine sQ 16 (ym (vi i)) <| sQ 17 (yE i 1) <| sQ 18 (ym (.bool (i == 1))) ?_
   refine sgq 19 (B := (i == 1)) (v := vi j) rfl rfl (uT_ 18) (fun hg => (ym (vi j))) ?_
   refine sgq 20 (B := (i == 1)) (v := .bool (j == 1)) rfl rfl (uT_ 18) (fun hg1 => (yE j 1 rfl (gv_of (v := vi j) hg1))) ?_
   refine sQ 21 (Y_and (b := (i == 1)) (z := (j == 1)) rfl rfl rfl rfl) (rn ?_)
   refine cw_cond (b := ((i == 1) && (j == 1))) rfl (fun hb1 => ?_) (fun hb1 => ?_)
   ·skip
    have hF3 := ct hz hb1
    refine cr ?_
    refine sQ 22 (yd (aD b1) 0 3 K32 K3) <| sQ 23 (yd (aD b1) 0 0 K14 K1) ?_
    refine s0 (yS 1 1 (aD b1) 91 (vi (-1)) [vi (-1)] 0 [vi (-1), vi 0, vi 0, vi 0, vi 1] hS9 K1) ?_
    rintro _ w_9 ⟨rfl, hS11⟩
    refine rn ?_
    exact ⟨(-1), (sI hF3), (fc rfl (fc rfl fn_)), (hS11.sel [0, 1] rfl rfl)⟩
   ·skip
    have hF4 := cf' hz hb1
    refine cw_skip ?_
    exact ⟨1, (sI hF4), (fc rfl (fc rfl fn_)), (hS9.sel [0, 1] rfl rfl)⟩
  rintro f w ⟨A, rfl, hf, hS10⟩
  refine cq (cr ?_)
  refine sQ 24 (yb (aD b1) 0 [vi A, vi 0, vi 0, vi 0, vi 1] K5 K2 (hS10.c 1) rfl (hf.g 7 1)) ?_
  refine s0 (yT 0 5 (aD b) 91 (.agg #[vi A, vi 0, vi 0, vi 0, vi 1]) [vi A, vi 0, vi 0, vi 0, vi 1] 0 hS10 K2 rfl (hf.g 6 0)) ?_
  rintro _ w_10 ⟨rfl, hS12⟩
  refine rn (ct_ ?_)
  obtain rfl := sI hF2
  exact ret1 Tryz.results68 (v1 := .agg #[vi A, vi 0, vi 0, vi 0, vi 1]) (resAt_cellA (B := aD b) (i := 0) (cs := [vi A, vi 0, vi 0, vi 0, vi 1]) (vs := [vi A, vi 0, vi 0, vi 0, vi 1]) (hf.g 6 0) K5 K2 (hS12.c 0) rfl rfl) ⟨rfl, (hS12.sN [])⟩
 ·skip
  have hF5 := cf' hF hb
  refine cq (cr ?_)
  refine sQ 26 (ym (vi kind)) <| sQ 27 (yE kind 2) <| sQ 28 (ym (.bool (kind == 2))) ?_
  refine sgq 29 (B := (kind == 2)) (v := vi i) rfl rfl (uT_ 28) (fun hg2 => (ym (vi i))) ?_
  refine sgq 30 (B := (kind == 2)) (v := vi j) rfl rfl (uT_ 28) (fun hg3 => (ym (vi j))) ?_
  refine sgq 31 (B := (kind == 2)) (v := .bool (i != j)) rfl rfl (uT_ 28) (fun hg4 => (Y_ne (k := .i64) (a := i) (b := j) rfl (gv_of (v := vi i) hg4) (gv_of (v := vi j) hg4))) ?_
  refine sQ 32 (Y_and (b := (kind == 2)) (z := (i != j)) rfl rfl rfl rfl) <| sQ 25 (yg (.bool ((kind == 2) && (i != j)))) (rn ?_)
  refine cw_cond (b := ((kind == 2) && (i != j))) rfl (fun hb2 => ?_) (fun hb2 => ?_)
  ·skip
   have hF6 := ct hF5 hb2
   refine cq (cr ?_)
   obtain ⟨r_1, hc, hF6⟩ := bI hF6
   refine sc 33 rfl rfl (yC [vi 1] K97 (c_impl_whole 1 _  (hS9.inn0 [] rfl) hc)) ?_
   rintro _ w_11 ⟨rfl, hd⟩
   have hS13 := hS9.out00 hd
   refine s0 (yT 0 5 (aD b) 91 (gD_ r_1) (kD_ r_1) 0 hS13 K2) ?_
   rintro _ w_12 ⟨rfl, hS14⟩
   refine rn (ct_ ?_)
   obtain rfl := sI hF6
   exact ret1 Tryz.results68 (v1 := gD_ r_1) (resAt_cellA (B := aD b) (i := 0) (cs := kD_ r_1) (vs := kD_ r_1) rfl K5 K2 (hS14.c 0) rfl rfl) ⟨rfl, (hS14.sN [])⟩
  ·skip
   have hF7 := cf' hF5 hb2
   refine cq (cr ?_)
   refine sQ 35 (ym (vi kind)) <| sQ 36 (yE kind 3) <| sQ 37 (ym (.bool (kind == 3))) ?_
   refine sgq 38 (B := (kind == 3)) (v := vi i) rfl rfl (uT_ 37) (fun hg5 => (ym (vi i))) ?_
   refine sgq 39 (B := (kind == 3)) (v := vi j) rfl rfl (uT_ 37) (fun hg6 => (ym (vi j))) ?_
   refine sgq 40 (B := (kind == 3)) (v := .bool (i != j)) rfl rfl (uT_ 37) (fun hg7 => (Y_ne (k := .i64) (a := i) (b := j) rfl (gv_of (v := vi i) hg7) (gv_of (v := vi j) hg7))) ?_
   refine sQ 41 (Y_and (b := (kind == 3)) (z := (i != j)) rfl rfl rfl rfl) <| sQ 34 (yg (.bool ((kind == 3) && (i != j)))) (rn ?_)
   refine cw_cond (b := ((kind == 3) && (i != j))) rfl (fun hb3 => ?_) (fun hb3 => ?_)
   ·skip
    have hF8 := ct hF7 hb3
    refine cq (cr ?_)
    refine sQ 42 (ym (vi j)) <| sQ 43 (yX 4 j) <| sQ 44 (yP 2 (i64.wrap (4 * j))) ?_
    obtain ⟨r_2, hc1, hF8⟩ := bI hF8
    refine sc 45 rfl rfl (yC [vi (i64.wrap (2 + (i64.wrap (4 * j))))] K72 (c_impl_phase (i64.wrap (2 + (i64.wrap (4 * j)))) _  (hS9.inn0 [] rfl) hc1)) ?_
    rintro _ w_13 ⟨rfl, hd1⟩
    have hS15 := hS9.out00 hd1
    refine s0 (yT 0 5 (aD b) 91 (gD_ r_2) (kD_ r_2) 0 hS15 K2) ?_
    rintro _ w_14 ⟨rfl, hS16⟩
    refine rn (ct_ ?_)
    obtain rfl := sI hF8
    exact ret1 Tryz.results68 (v1 := gD_ r_2) (resAt_cellA (B := aD b) (i := 0) (cs := kD_ r_2) (vs := kD_ r_2) rfl K5 K2 (hS16.c 0) rfl rfl) ⟨rfl, (hS16.sN [])⟩
   ·skip
    have hF9 := cf' hF7 hb3
    refine cq (cr ?_)
    refine sQ 47 (ym (vi kind)) <| sQ 48 (yE kind 2) <| sQ 49 (ym (.bool (kind == 2))) ?_
    refine sgq 50 (B := (!(kind == 2))) (v := vi kind) rfl rfl (uF_ 49) (fun hg8 => (ym (vi kind))) ?_
    refine sgq 51 (B := (!(kind == 2))) (v := .bool (kind == 3)) rfl rfl (uF_ 49) (fun hg9 => (yE kind 3 rfl (gv_of (v := vi kind) hg9))) ?_
    refine sQ 52 (Y_or (b := (kind == 2)) (z := (kind == 3)) rfl rfl rfl rfl) <| sQ 53 (ym (.bool ((kind == 2) || (kind == 3)))) ?_
    refine sgq 54 (B := (!((kind == 2) || (kind == 3)))) (v := vi i) rfl rfl (uF_ 53) (fun hg10 => (ym (vi i))) ?_
    refine sgq 55 (B := (!((kind == 2) || (kind == 3)))) (v := vi j) rfl rfl (uF_ 53) (fun hg11 => (ym (vi j))) ?_
    refine sgq 56 (B := (!((kind == 2) || (kind == 3)))) (v := .bool (i != j)) rfl rfl (uF_ 53) (fun hg12 => (Y_ne (k := .i64) (a := i) (b := j) rfl (gv_of (v := vi i) hg12) (gv_of (v := vi j) hg12))) ?_
    refine sQ 57 (Y_or (b := ((kind == 2) || (kind == 3))) (z := (i != j)) rfl rfl rfl rfl) <| sQ 46 (yg (.bool (((kind == 2) || (kind == 3)) || (i != j)))) (rn ?_)
    refine cw_cond (b := (((kind == 2) || (kind == 3)) || (i != j))) rfl (fun hb4 => ?_) (fun hb4 => ?_)
    ·skip
     have hF10 := ct hF9 hb4
     refine cq (cr ?_)
     refine sQ 58 (Y_buildS (zs := kZ_) (vs := []) (cs := kZ_) K22 K8 rfl mpn rfl) ?_
     refine s0 (yT 0 5 (aD b) 91 gZ_ kZ_ 0 hS9 K2) ?_
     rintro _ w_15 ⟨rfl, hS17⟩
     refine rn (ct_ ?_)
     obtain rfl := sI hF10
     exact ret1 Tryz.results68 (v1 := gZ_) (resAt_cellA (B := aD b) (i := 0) (cs := kZ_) (vs := kZ_) rfl K5 K2 (hS17.c 0) rfl rfl) ⟨rfl, (hS17.sN [])⟩
    ·skip
     have hF11 := cf' hF9 hb4
     refine cq (cr ?_)
     refine sQ 60 (ym (vi i)) <| sQ 61 (yE i 0) <| sQ 59 (yg (.bool (i == 0))) (rn ?_)
     refine cw_cond (b := (i == 0)) rfl (fun hb5 => ?_) (fun hb5 => ?_)
     ·skip
      have hF12 := ct hF11 hb5
      refine cq (cr ?_)
      obtain ⟨r_3, hc2, hF12⟩ := bI hF12
      refine sc 62 rfl rfl (yC [vi 1] K97 (c_impl_whole 1 _  (hS9.inn0 [] rfl) hc2)) ?_
      rintro _ w_16 ⟨rfl, hd2⟩
      have hS18 := hS9.out00 hd2
      refine s0 (yT 0 5 (aD b) 91 (gD_ r_3) (kD_ r_3) 0 hS18 K2) ?_
      rintro _ w_17 ⟨rfl, hS19⟩
      refine rn (ct_ ?_)
      obtain rfl := sI hF12
      exact ret1 Tryz.results68 (v1 := gD_ r_3) (resAt_cellA (B := aD b) (i := 0) (cs := kD_ r_3) (vs := kD_ r_3) rfl K5 K2 (hS19.c 0) rfl rfl) ⟨rfl, (hS19.sN [])⟩
     ·skip
      have hF13 := cf' hF11 hb5
      refine cw_skip (cq (cr ?_))
      refine sQ 63 (ym (.map (some g))) <| sQ 64 (ym (vi kind)) <| sQ 65 (Y_mapGet (kE := (Value.int .i64)) (vE := (Value.int .i64)) (l := (mput (mput (mput (mput (mput ([] : List (Int × Int)) 4 4) 5 2) 6 6) 7 1) 8 7)) (a := kind) (d := 0) (g := g) (i := 2) hS9 (keyInt K41) K71 k_zero_3 rfl rfl rfl rfl) ?_
      obtain ⟨r_4, hc3, hF13⟩ := bI hF13
      refine sc 66 rfl rfl (yC [vi (mgt (mput (mput (mput (mput (mput ([] : List (Int × Int)) 4 4) 5 2) 6 6) 7 1) 8 7) kind 0)] K72 (c_impl_phase (mgt (mput (mput (mput (mput (mput ([] : List (Int × Int)) 4 4) 5 2) 6 6) 7 1) 8 7) kind 0) _  (hS9.inn0 [] rfl) hc3)) ?_
      rintro _ w_18 ⟨rfl, hd3⟩
      have hS20 := hS9.out00 hd3
      refine s0 (yT 0 5 (aD b) 91 (gD_ r_4) (kD_ r_4) 0 hS20 K2) ?_
      rintro _ w_19 ⟨rfl, hS21⟩
      refine rn (ct_ ?_)
      obtain rfl := sI hF13
      exact ret1 Tryz.results68 (v1 := gD_ r_4) (resAt_cellA (B := aD b) (i := 0) (cs := kD_ r_4) (vs := kD_ r_4) rfl K5 K2 (hS21.c 0) rfl rfl) ⟨rfl, (hS21.sN [])⟩

theorem c_impl_GateMatrix_1 (i : Int) (j : Int) (p : TGate) (p1 : Int) (B : Option Addr) (B1 : Option Addr) (w0 : World)  (hS : ST w0 [] w0 [] [⟨B, [vi p.Kind, vi p.A, vi p.B]⟩, ⟨B1, [vi p1]⟩]) {r_ : TDyadic} {r_1 : Bool} (hF : F_impl_GateMatrix_1 i j p p1 = some (r_, r_1)) :
  CV Tryz.prog 61 #[vi i, vi j, pt B 0, pt B1 0] w0 (fun v w' => v = .tuple #[gD_ r_, .bool r_1] ∧ ST w0 [] w' [] []) := by
 unfold F_impl_GateMatrix_1 at hF
 refine cv_of_cw 75 Tryz.func61 rfl Tryz.ntmps61 rfl ?_
 refine cq (cr ?_)
 refine sS 6 (yN kZ_ 5 hS K8) ?_
 rintro _ w_ ⟨b, rfl, hS1⟩
 refine sQ 7 (yg (.bool false)) (rn (cq ?_))
 obtain ⟨z, hz, hF1⟩ := bI hF
 refine cw_mid (fun f w => .inl () = z ∧ FF f [(6, pt (aD b) 0)] ∧ ST w0 [] w [⟨aD b, 91, kZ_, 5⟩] [⟨B, [vi p.Kind, vi p.A, vi p.B]⟩, ⟨B1, [vi p1]⟩]) ?_ ?_
 ·skip
  refine cw_block (cq (cr ?_))
  refine sQ 9 (yd B 0 0 K38 K1) <| sQ 10 (yl B 0 [vi p.Kind, vi p.A, vi p.B] (vi p.Kind) K0 (hS1.rf (i := 0) rfl)) <| sQ 11 (yE p.Kind 12) <| sQ 8 (yg (.bool (p.Kind == 12))) (rn ?_)
  refine cw_cond (b := (p.Kind == 12)) rfl (fun hb => ?_) (fun hb => ?_)
  ·skip
   have hF2 := ct hz hb
   refine cq (cr ?_)
   refine sQ 12 (ym (vi i)) <| sQ 13 (ym (vi j)) <| sQ 14 (yE i j) (rn ?_)
   refine cw_cond (b := (i == j)) rfl (fun hb1 => ?_) (fun hb1 => ?_)
   ·skip
    have hF3 := ct hF2 hb1
    refine cq (cr ?_)
    obtain ⟨r_2, hc, hF3⟩ := bI hF3
    refine sc 15 rfl rfl (yC [vi 1] K72 (c_impl_phase 1 _  (hS1.inn0 [] rfl) hc)) ?_
    rintro _ w_1 ⟨rfl, hd⟩
    have hS3 := hS1.out00 hd
    refine s0 (yT 0 5 (aD b) 91 (gD_ r_2) (kD_ r_2) 0 hS3 K2) ?_
    rintro _ w_2 ⟨rfl, hS4⟩
    refine sQ 7 (yg (.bool true)) (rn (ct_ ?_))
    obtain rfl := sI hF3
    obtain ⟨rfl, rfl⟩ := pr2 (sI hF1)
    exact ret2 Tryz.results61 (v1 := gD_ r_2) (resAt_cellA (B := aD b) (i := 0) (cs := kD_ r_2) (vs := kD_ r_2) rfl K5 K2 (hS4.c 0) rfl rfl) (v2 := .bool true) (resAt_tmp rfl) ⟨rfl, (hS4.sN [])⟩
   ·skip
    have hF4 := cf' hF2 hb1
    refine cw_skip ?_
    exact ⟨(sI hF4), (fc rfl fn_), (hS1.sel [0] rfl rfl)⟩
  ·skip
   have hF5 := cf' hz hb
   refine cq (cr ?_)
   refine sQ 17 (yd B 0 0 K38 K1) <| sQ 18 (yl B 0 [vi p.Kind, vi p.A, vi p.B] (vi p.Kind) K0 (hS1.rf (i := 0) rfl)) ?_
   obtain ⟨r_3, hc1, hF5⟩ := bI hF5
   refine sc 19 rfl rfl (yC [vi p.Kind] k_call_63 (c_impl_isTwo p.Kind _  (hS1.inn0 [] rfl) hc1)) ?_
   rintro _ w_3 ⟨rfl, hd1⟩
   have hS5 := hS1.out00 hd1
   refine sQ 16 (yg (.bool r_3)) (rn ?_)
   refine cw_cond (b := r_3) rfl (fun hb2 => ?_) (fun hb2 => ?_)
   ·skip
    have hF6 := ct hF5 hb2
    refine cq (cr ?_)
    refine sQ 20 (yl B1 0 [vi p1] (vi p1) K0 (hS5.rf (i := 1) rfl)) <| sQ 21 (yb B 0 [vi p.Kind, vi p.A, vi p.B] K31 K10 (hS5.rf (i := 0) rfl)) <| sQ 22 (ym (vi i)) ?_
    obtain ⟨r_4, hc2, hF6⟩ := bI hF6
    refine sc 23 rfl rfl (yC [vi p1, .agg #[vi p.Kind, vi p.A, vi p.B], vi i] k_call_64 (c_impl_comesFrom p1 p i _  (hS5.inn0 [] rfl) hc2)) ?_
    rintro _ w_4 ⟨rfl, hd2⟩
    have hS6 := hS5.out00 hd2
    refine sQ 24 (ym (vi j)) <| sQ 25 (yE r_4 j) (rn ?_)
    refine cw_cond (b := (r_4 == j)) rfl (fun hb3 => ?_) (fun hb3 => ?_)
    ·skip
     have hF7 := ct hF6 hb3
     refine cq (cr ?_)
     refine sQ 26 (yd B 0 0 K38 K1) <| sQ 27 (yl B 0 [vi p.Kind, vi p.A, vi p.B] (vi p.Kind) K0 (hS6.rf (i := 0) rfl)) <| sQ 28 (yE p.Kind 10) <| sQ 29 (ym (.bool (p.Kind == 10))) ?_
     refine sgq 30 (B := (p.Kind == 10)) (v := vi p1) rfl rfl (uT_ 29) (fun hg => (yl B1 0 [vi p1] (vi p1) K0 (hS6.rf (i := 1) rfl))) ?_
     refine sgq 31 (B := (p.Kind == 10)) (v := vi i) rfl rfl (uT_ 29) (fun hg1 => (ym (vi i))) ?_
     refine sgq 32 (B := (p.Kind == 10)) (v := pt B 1) rfl rfl (uT_ 29) (fun hg2 => (yd B 0 0 K26 K1)) ?_
     refine sgq 33 (B := (p.Kind == 10)) (v := vi p.A) rfl rfl (uT_ 29) (fun hg3 => (yl B 1 [vi p.Kind, vi p.A, vi p.B] (vi p.A) K0 (hS6.rf (i := 0) rfl) rfl (gv_of (v := pt B 1) hg3))) ?_
     obtain ⟨r_5, hc3, hF7⟩ := bI hF7
     refine sgc 34 (B := (p.Kind == 10)) (v := vi r_5) (F := hS6.fn) rfl rfl (uT_ 29) hS6 (fun hg4 => (yC [vi p1, vi i, vi p.A] K70 (CV.mono (c_impl_bitOf p1 i p.A _  (hS6.inn0 [] rfl) (gb_inv hc3 hg4)) (by rintro _ _ ⟨rfl, h⟩; exact ⟨rfl, hS6.out00 h⟩)) rfl (mc (gv_of (v := vi p1) hg4) (mc (gv_of (v := vi i) hg4) (mc (gv_of (v := vi p.A) hg4) mn))))) ?_
     rintro w_5 hS7
     refine sgq 35 (B := (p.Kind == 10)) (v := .bool (r_5 == 1)) rfl rfl (uT_ 29) (fun hg5 => (yE r_5 1 rfl (gv_of (v := vi r_5) hg5))) ?_
     refine sQ 36 (Y_and (b := (p.Kind == 10)) (z := (r_5 == 1)) rfl rfl rfl rfl) <| sQ 37 (ym (.bool ((p.Kind == 10) && (r_5 == 1)))) ?_
     refine sgq 38 (B := ((p.Kind == 10) && (r_5 == 1))) (v := vi p1) rfl rfl (uT_ 37) (fun hg6 => (yl B1 0 [vi p1] (vi p1) K0 (hS7.rf (i := 1) rfl))) ?_
     refine sgq 39 (B := ((p.Kind == 10) && (r_5 == 1))) (v := vi i) rfl rfl (uT_ 37) (fun hg7 => (ym (vi i))) ?_
     refine sgq 40 (B := ((p.Kind == 10) && (r_5 == 1))) (v := pt B 2) rfl rfl (uT_ 37) (fun hg8 => (yd B 0 0 K35 K1)) ?_
     refine sgq 41 (B := ((p.Kind == 10) && (r_5 == 1))) (v := vi p.B) rfl rfl (uT_ 37) (fun hg9 => (yl B 2 [vi p.Kind, vi p.A, vi p.B] (vi p.B) K0 (hS7.rf (i := 0) rfl) rfl (gv_of (v := pt B 2) hg9))) ?_
     obtain ⟨r_6, hc4, hF7⟩ := bI hF7
     refine sgc 42 (B := ((p.Kind == 10) && (r_5 == 1))) (v := vi r_6) (F := hS7.fn) rfl rfl (uT_ 37) hS7 (fun hg10 => (yC [vi p1, vi i, vi p.B] K70 (CV.mono (c_impl_bitOf p1 i p.B _  (hS7.inn0 [] rfl) (gb_inv hc4 hg10)) (by rintro _ _ ⟨rfl, h⟩; exact ⟨rfl, hS7.out00 h⟩)) rfl (mc (gv_of (v := vi p1) hg10) (mc (gv_of (v := vi i) hg10) (mc (gv_of (v := vi p.B) hg10) mn))))) ?_
     rintro w_6 hS8
     refine sgq 43 (B := ((p.Kind == 10) && (r_5 == 1))) (v := .bool (r_6 == 1)) rfl rfl (uT_ 37) (fun hg11 => (yE r_6 1 rfl (gv_of (v := vi r_6) hg11))) ?_
     refine sQ 44 (Y_and (b := ((p.Kind == 10) && (r_5 == 1))) (z := (r_6 == 1)) rfl rfl rfl rfl) ?_
     obtain ⟨r_7, hc5, hF7⟩ := bI hF7
     refine sc 45 rfl rfl (yC [.bool (((p.Kind == 10) && (r_5 == 1)) && (r_6 == 1))] k_call_65 (c_impl_small (((p.Kind == 10) && (r_5 == 1)) && (r_6 == 1)) _  (hS8.inn0 [] rfl) hc5)) ?_
     rintro _ w_7 ⟨rfl, hd3⟩
     have hS9 := hS8.out00 hd3
     refine sQ 46 (yX 4 r_7) ?_
     obtain ⟨r_8, hc6, hF7⟩ := bI hF7
     refine sc 47 rfl rfl (yC [vi (i64.wrap (4 * r_7))] K72 (c_impl_phase (i64.wrap (4 * r_7)) _  (hS9.inn0 [] rfl) hc6)) ?_
     rintro _ w_8 ⟨rfl, hd4⟩
     have hS10 := hS9.out00 hd4
     refine s0 (yT 0 5 (aD b) 91 (gD_ r_8) (kD_ r_8) 0 hS10 K2) ?_
     rintro _ w_9 ⟨rfl, hS11⟩
     refine sQ 7 (yg (.bool true)) (rn (ct_ ?_))
     obtain rfl := sI hF7
     obtain ⟨rfl, rfl⟩ := pr2 (sI hF1)
     exact ret2 Tryz.results61 (v1 := gD_ r_8) (resAt_cellA (B := aD b) (i := 0) (cs := kD_ r_8) (vs := kD_ r_8) rfl K5 K2 (hS11.c 0) rfl rfl) (v2 := .bool true) (resAt_tmp rfl) ⟨rfl, (hS11.sN [])⟩
    ·skip
     have hF8 := cf' hF6 hb3
     refine cw_skip ?_
     exact ⟨(sI hF8), (fc rfl fn_), (hS6.sel [0] rfl rfl)⟩
   ·skip
    have hF9 := cf' hF5 hb2
    refine cq (cr ?_)
    refine sQ 49 (ym (vi i)) <| sQ 50 (ym (vi j)) <| sQ 51 (yE i j) <| sQ 52 (ym (.bool (i == j))) ?_
    refine sgq 53 (B := (!(i == j))) (v := vi p1) rfl rfl (uF_ 52) (fun hg12 => (yl B1 0 [vi p1] (vi p1) K0 (hS5.rf (i := 1) rfl))) ?_
    refine sgq 54 (B := (!(i == j))) (v := vi i) rfl rfl (uF_ 52) (fun hg13 => (ym (vi i))) ?_
    refine sgq 55 (B := (!(i == j))) (v := pt B 1) rfl rfl (uF_ 52) (fun hg14 => (yd B 0 0 K26 K1)) ?_
    refine sgq 56 (B := (!(i == j))) (v := vi p.A) rfl rfl (uF_ 52) (fun hg15 => (yl B 1 [vi p.Kind, vi p.A, vi p.B] (vi p.A) K0 (hS5.rf (i := 0) rfl) rfl (gv_of (v := pt B 1) hg15))) ?_
    obtain ⟨r_9, hc7, hF9⟩ := bI hF9
    refine sgc 57 (B := (!(i == j))) (v := vi r_9) (F := hS5.fn) rfl rfl (uF_ 52) hS5 (fun hg16 => (yC [vi p1, vi i, vi p.A] K84 (CV.mono (c_impl_flipped p1 i p.A _  (hS5.inn0 [] rfl) (gb_inv hc7 hg16)) (by rintro _ _ ⟨rfl, h⟩; exact ⟨rfl, hS5.out00 h⟩)) rfl (mc (gv_of (v := vi p1) hg16) (mc (gv_of (v := vi i) hg16) (mc (gv_of (v := vi p.A) hg16) mn))))) ?_
    rintro w_10 hS12
    refine sgq 58 (B := (!(i == j))) (v := vi j) rfl rfl (uF_ 52) (fun hg17 => (ym (vi j))) ?_
    refine sgq 59 (B := (!(i == j))) (v := .bool (r_9 == j)) rfl rfl (uF_ 52) (fun hg18 => (yE r_9 j rfl (gv_of (v := vi r_9) hg18) (gv_of (v := vi j) hg18))) ?_
    refine sQ 60 (Y_or (b := (i == j)) (z := (r_9 == j)) rfl rfl rfl rfl) <| sQ 48 (yg (.bool ((i == j) || (r_9 == j)))) (rn ?_)
    refine cw_cond (b := ((i == j) || (r_9 == j))) rfl (fun hb4 => ?_) (fun hb4 => ?_)
    ·skip
     have hF10 := ct hF9 hb4
     refine cq ?_
     obtain ⟨r_10, hc8, hF10⟩ := bI hF10
     obtain ⟨r_11, hc9, hF10⟩ := bI hF10
     obtain ⟨r_12, hc10, hF10⟩ := bI hF10
     refine ra_start (hS12.se []).fn (by kernel_rfl) ?_
     have hS16 := hS12.drew
     refine rq 0 61 (v := pt B 0) rfl (hS16.se []) (fun w' hw' => (yd B 0 0 K38 K1)) ?_
     refine rq 1 62 (v := vi p.Kind) rfl (hS16.se []) (fun w' hw' => (yl B 0 [vi p.Kind, vi p.A, vi p.B] (vi p.Kind) K0 (ST.rf hw' (i := 0) rfl))) ?_
     refine rq 2 63 (v := vi p1) rfl (hS16.se []) (fun w' hw' => (yl B1 0 [vi p1] (vi p1) K0 (ST.rf hw' (i := 1) rfl))) ?_
     refine rq 3 64 (v := vi i) rfl (hS16.se []) (fun w' hw' => (ym (vi i))) ?_
     refine rq 4 65 (v := pt B 1) rfl (hS16.se []) (fun w' hw' => (yd B 0 0 K26 K1)) ?_
     refine rq 5 66 (v := vi p.A) rfl (hS16.se []) (fun w' hw' => (yl B 1 [vi p.Kind, vi p.A, vi p.B] (vi p.A) K0 (ST.rf hw' (i := 0) rfl))) ?_
     refine rq 7 68 (v := vi p1) rfl (hS16.se []) (fun w' hw' => (yl B1 0 [vi p1] (vi p1) K0 (ST.rf hw' (i := 1) rfl))) ?_
     refine rq 8 69 (v := vi j) rfl (hS16.se []) (fun w' hw' => (ym (vi j))) ?_
     refine rq 9 70 (v := pt B 1) rfl (hS16.se []) (fun w' hw' => (yd B 0 0 K26 K1)) ?_
     refine rq 10 71 (v := vi p.A) rfl (hS16.se []) (fun w' hw' => (yl B 1 [vi p.Kind, vi p.A, vi p.B] (vi p.A) K0 (ST.rf hw' (i := 0) rfl))) ?_
     refine rA [6] ?_
     refine rC 67 6 rfl (yC [vi p1, vi i, vi p.A] K70 (c_impl_bitOf p1 i p.A _  (hS16.inn0 [] rfl) hc8)) ?_ ?_
     ·rintro _ w_11 ⟨rfl, hd5⟩
      have hS17 := hS16.out00 hd5
      refine ⟨(hS17.se []), ?_⟩
      refine rA [11] ?_
      refine rC 72 11 rfl (yC [vi p1, vi j, vi p.A] K70 (c_impl_bitOf p1 j p.A _  (hS17.inn0 [] rfl) hc9)) ?_ ?_
      ·rintro _ w_12 ⟨rfl, hd6⟩
       have hS18 := hS17.out00 hd6
       refine ⟨(hS18.se []), ?_⟩
       refine rA [12] ?_
       refine rC 73 12 rfl (yC [vi p.Kind, vi r_10, vi r_11] k_call_68 (c_impl_entry p.Kind r_10 r_11 _  (hS18.inn0 [] rfl) hc10)) ?_ ?_
       ·rintro _ w_13 ⟨rfl, hd7⟩
        have hS19 := hS18.out00 hd7
        refine ⟨(hS19.se []), ?_⟩
        refine rA [13] ?_
        refine rZ 13 rfl (yT 0 5 (aD b) 91 (gD_ r_12) (kD_ r_12) 0 hS19 K2) ?_ ?_
        ·rintro _ w_14 ⟨rfl, hS20⟩
         refine ⟨(hS20.se []), ?_⟩
         refine rq 14 7 (v := .bool true) rfl (hS20.se []) (fun w' hw' => (yg (.bool true))) ?_
         refine ra_done (by kernel_rfl) ?_
         refine ct_ ?_
         obtain rfl := sI hF10
         obtain ⟨rfl, rfl⟩ := pr2 (sI hF1)
         exact ret2 Tryz.results61 (v1 := gD_ r_12) (resAt_cellA (B := aD b) (i := 0) (cs := kD_ r_12) (vs := kD_ r_12) rfl K5 K2 (hS20.c 0) rfl rfl) (v2 := .bool true) (resAt_tmp rfl) ⟨rfl, (hS20.sN [])⟩
        exact aN
       exact aN
      exact aN
     exact aN
    ·skip
     have hF11 := cf' hF9 hb4
     refine cw_skip ?_
     exact ⟨(sI hF11), (fc rfl fn_), (hS12.sel [0] rfl rfl)⟩
 rintro f w ⟨rfl, hf, hS2⟩
 refine cq (cr ?_)
 refine sQ 74 (Y_buildS (zs := kZ_) (vs := []) (cs := kZ_) K22 K8 rfl mpn rfl) ?_
 refine s0 (yT 0 5 (aD b) 91 gZ_ kZ_ 0 hS2 K2 rfl (hf.g 6 0)) ?_
 rintro _ w_15 ⟨rfl, hS21⟩
 refine sQ 7 (yg (.bool true)) (rn (ct_ ?_))
 obtain ⟨rfl, rfl⟩ := pr2 (sI hF1)
 exact ret2 Tryz.results61 (v1 := gZ_) (resAt_cellA (B := aD b) (i := 0) (cs := kZ_) (vs := kZ_) (hf.g 6 0) K5 K2 (hS21.c 0) rfl rfl) (v2 := .bool true) (resAt_tmp rfl) ⟨rfl, (hS21.sN [])⟩

theorem c_impl_GateMatrix (n : Int) (g : TGate)  (w0 : World)  (hS : ST w0 [] w0 [] []) {r_ : TMatrix} {r_1 : Bool} (hF : F_impl_GateMatrix n g = some (r_, r_1)) :
  CV Tryz.prog 37 #[vi n, .agg #[vi g.Kind, vi g.A, vi g.B]] w0 (fun v w' => ∃ (B : Option Addr) (c : Nat), v = .tuple #[gM_ r_ B c, .bool r_1] ∧ ST w0 [] w' [⟨B, 91, (r_.Cells.flatMap eN1), c * 5⟩] []) := by
 unfold F_impl_GateMatrix at hF
 refine cv_of_cw 19 Tryz.func37 rfl Tryz.ntmps37 rfl ?_
 refine cq (cr ?_)
 refine sS 2 (yB 3 (vi n) [vi n] 1 hS) ?_
 rintro _ w_ ⟨b, rfl, hS1⟩
 refine sS 3 (yB 56 (.agg #[vi g.Kind, vi g.A, vi g.B]) [vi g.Kind, vi g.A, vi g.B] 3 hS1) ?_
 rintro _ w_1 ⟨b1, rfl, hS2⟩
 refine sS 4 (yN kN_ 3 hS2 K13) ?_
 rintro _ w_2 ⟨b2, rfl, hS3⟩
 refine sQ 5 (yg (.bool false)) (rn (cq (cq (cr ?_))))
 refine sQ 6 (yl (aD b) 0 [vi n] (vi n) K0 (hS3.c 0)) <| sQ 7 (yb (aD b1) 0 [vi g.Kind, vi g.A, vi g.B] K31 K10 (hS3.c 1)) ?_
 obtain ⟨r_2, hc, hF⟩ := bI hF
 refine sc 8 rfl rfl (yC [vi n, .agg #[vi g.Kind, vi g.A, vi g.B]] k_call_60 (c_impl_IsValidGate n g _  (hS3.inn0 [] rfl) hc)) ?_
 rintro _ w_3 ⟨rfl, hd⟩
 have hS4 := hS3.out00 hd
 refine sQ 9 (Y_not (p := r_2) rfl rfl) (rn ?_)
 refine cw_cond (b := (!r_2)) rfl (fun hb => ?_) (fun hb => ?_)
 ·skip
  have hF1 := ct hF hb
  refine cq (cr ?_)
  refine sQ 10 (Y_buildS (zs := kN_) (vs := []) (cs := kN_) K47 K13 rfl mpn rfl) ?_
  refine s0 (yT 2 3 (aD b2) 50 gN_ kN_ 0 hS4 K4) ?_
  rintro _ w_4 ⟨rfl, hS5⟩
  refine sQ 5 (yg (.bool false)) (rn (ct_ ?_))
  have hS6 := hS5.addNil 91
  obtain ⟨rfl, rfl⟩ := pr2 (sI hF1)
  exact ret2 Tryz.results37 (v1 := gN_) (resAt_cellA (B := aD b2) (i := 0) (cs := kN_) (vs := kN_) rfl K9 K4 (hS6.c 2) rfl rfl) (v2 := .bool false) (resAt_tmp rfl) ⟨none, 0, rfl, (hS6.sN [3])⟩
 ·skip
  have hF2 := cf' hF hb
  refine cw_skip (cq ?_)
  obtain ⟨hsh, hF2⟩ := chk_inv hF2
  obtain ⟨hsh1, hF2⟩ := chk_inv hF2
  obtain ⟨⟨r_3, r_4⟩, hc1, hF2⟩ := bI hF2
  refine ra_start (hS4.se [0, 1]).fn (by kernel_rfl) ?_
  have hS8 := hS4.drew
  refine rq 0 11 (v := vi n) rfl (hS8.se [0, 1]) (fun w' hw' => (yl (aD b) 0 [vi n] (vi n) K0 (ST.cf hw' (i := 0) rfl))) ?_
  refine rq 1 12 (v := vi (shlK .i64 1 n)) rfl (hS8.se [0, 1]) (fun w' hw' => (Y_shl (k := .i64) (a := 1) (k' := .i64) (b := n) rfl rfl rfl hsh)) ?_
  refine rq 2 13 (v := vi n) rfl (hS8.se [0, 1]) (fun w' hw' => (yl (aD b) 0 [vi n] (vi n) K0 (ST.cf hw' (i := 0) rfl))) ?_
  refine rq 3 14 (v := vi (shlK .i64 1 n)) rfl (hS8.se [0, 1]) (fun w' hw' => (Y_shl (k := .i64) (a := 1) (k' := .i64) (b := n) rfl rfl rfl hsh1)) ?_
  refine rq 4 15 (v := .func (.func 61) #[] #[pt (aD b1) 0, pt (aD b) 0]) rfl (hS8.se [0, 1]) (fun w' hw' => (Y_makeFunc (cs := [pt (aD b1) 0, pt (aD b) 0]) rfl rfl (mc rfl (mc rfl mn)))) ?_
  refine rA [5] ?_
  refine rC 16 5 rfl (yC [vi (shlK .i64 1 n), vi (shlK .i64 1 n), .func (.func 61) #[] #[pt (aD b1) 0, pt (aD b) 0]] K82 (c_impl_matrixOf (shlK .i64 1 n) (shlK .i64 1 n) (fun x_0 x_1 => F_impl_GateMatrix_1 x_0 x_1 g n) 61 (#[pt (aD b1) 0, pt (aD b) 0]) [⟨aD b1, [vi g.Kind, vi g.A, vi g.B]⟩, ⟨aD b, [vi n]⟩] _ k_call_61 (fun w hw x_0 x_1 y_0 y_1 h_ => c_impl_GateMatrix_1 x_0 x_1 g n (aD b1) (aD b) w  hw h_) (hS8.inn0 [(false, 1), (false, 0)] rfl) hc1)) ?_ ?_
  ·rintro _ w_5 ⟨B1, c1, rfl, hd1⟩
   have hS9 := hS8.out0 hd1
   refine ⟨(hS9.se [0, 1]), ?_⟩
   refine rq 6 17 (v := gM_ r_3 B1 c1) rfl (hS9.se [0, 1]) (fun w' hw' => (ye (gM_ r_3 B1 c1))) ?_
   refine rq 7 18 (v := .bool r_4) rfl (hS9.se [0, 1]) (fun w' hw' => (ye (.bool r_4))) ?_
   refine rA [8] ?_
   refine rZ 8 rfl (yT 2 3 (aD b2) 50 (gM_ r_3 B1 c1) (kM_ r_3 B1 c1) 0 hS9 K4) ?_ ?_
   ·rintro _ w_6 ⟨rfl, hS10⟩
    refine ⟨(hS10.se [0, 1]), ?_⟩
    refine rq 9 5 (v := .bool r_4) rfl (hS10.se [0, 1]) (fun w' hw' => (yg (.bool r_4))) ?_
    refine ra_done (by kernel_rfl) ?_
    refine ct_ ?_
    obtain ⟨rfl, rfl⟩ := pr2 (sI hF2)
    exact ret2 Tryz.results37 (v1 := gM_ r_3 B1 c1) (resAt_cellA (B := aD b2) (i := 0) (cs := kM_ r_3 B1 c1) (vs := kM_ r_3 B1 c1) rfl K9 K4 (hS10.c 2) rfl rfl) (v2 := .bool r_4) (resAt_tmp rfl) ⟨B1, c1, rfl, (hS10.sN [3])⟩
   exact aN
  exact aN

theorem c_slices_IndexFunc_impl_Dyadic_impl_Dyadic (s : List TDyadic) (f_ : TDyadic → Option (Bool)) (B : Option Addr) (c n : Nat) (kf : Nat) (caps : Array Value) (Rf : List Ro) (w0 : World) (hn : s.length = n) (hk : callB Tryz.prog kf = true) (hp : ∀ (w : World), ST w [] w [] Rf → ∀ (x : TDyadic) (y : Bool), f_ x = some y → CV Tryz.prog kf ((gD_ x) :: caps.toList).toArray w (fun v w' => v = .bool y ∧ ST w [] w' [] [])) (hS : ST w0 [] w0 [] (⟨B, (s.flatMap eN1)⟩ :: Rf)) {r_ : Int} (hF : F_slices_IndexFunc_impl_Dyadic_impl_Dyadic s f_ = some r_) :
  CV Tryz.prog 89 #[.slice B n c, .func (.func kf) #[] caps] w0 (fun v w' => v = vi r_ ∧ ST w0 [] w' [] []) := by
 subst hn
 unfold F_slices_IndexFunc_impl_Dyadic_impl_Dyadic at hF
 refine cv_of_cw 19 Tryz.func89 rfl Tryz.ntmps89 rfl ?_
 refine cq (cr ?_)
 refine sQ 4 (yg (vi 0)) (rn (cq (cq (cr ?_))))
 refine sQ 6 (ym (.slice B s.length c)) <| sQ 7 (Y_len (B := B) (m := s.length) (c := c) K21 rfl rfl) <| sQ 8 (ym (vi 0)) (rn ?_)
 obtain ⟨hN, hF⟩ := chk_inv hF
 obtain ⟨z, hz, hF1⟩ := bI hF
 refine cw_block ?_
 refine cw_loop (fun k f w => ∃ (i : Nat), FF f [(0, .slice B s.length c), (1, .func (.func kf) #[] caps), (7, vi (s.length : Int)), (8, vi (i : Int))] ∧ ST w0 [] w [] (⟨B, (s.flatMap eN1)⟩ :: Rf) ∧ i + k = s.length ∧ forX (F_slices_IndexFunc_impl_Dyadic_impl_Dyadic_l1 s f_) k i () = some z) s.length ⟨0, (fc rfl (fc rfl (fc rfl (fc rfl fn_)))), (hS.sel [] rfl rfl), Nat.zero_add _, hz⟩ ?_
 rintro k_ f w ⟨i, hf, hS1, hik, hL⟩
 refine cq (cr ?_)
 refine sQ 9 (yL (i : Int) (s.length : Int) rfl (hf.g 8 3) (hf.g 7 2)) (rn (cq ?_))
 refine cw_cond (b := (decide ((i : Int) < (s.length : Int)))) rfl (fun hlt => ?_) (fun hlt => ?_)
 ·skip
  have hlt1 : i < s.length := by have h := of_decide_eq_true hlt; omega
  obtain ⟨K7, rfl⟩ : ∃ k2, k_ = k2 + 1 := ⟨k_ - 1, by omega⟩
  obtain ⟨y1, hb, hL1⟩ := forX_go hL
  unfold F_slices_IndexFunc_impl_Dyadic_impl_Dyadic_l1 at hb
  refine cw_skip (cq (cw_block (cq (cr ?_))))
  refine sQ 10 (ym (vi (i : Int)) rfl (hf.g 8 3)) <| sQ 5 (yg (vi (i : Int))) (rn (cq (cr ?_)))
  refine sQ 11 (ym (.func (.func kf) #[] caps) rfl (hf.g 1 1)) <| sQ 12 (ym (.slice B s.length c) rfl (hf.g 0 0)) <| sQ 13 (ym (vi (i : Int))) ?_
  obtain ⟨x1, hx, hb⟩ := bI hb
  refine sQ 14 (Y_index (B := B) (m := s.length) (c := c) (k := .i64) (i := (i : Int)) K21 K2 rfl rfl rfl (gi_isSome enc_Dyadic_len rfl (hS1.rf (i := 0) rfl) hx) (getI_nn hx) (getI_ltI hx rfl)) <| sQ 15 (ya B ((i : Int).toNat * 5) (s.flatMap eN1) (kD_ x1) K5 K2 (hS1.rf (i := 0) rfl) rfl rfl (enc_Dyadic_len x1) (gi_seg enc_Dyadic_len hx)) ?_
  obtain ⟨r_1, hc, hb⟩ := bI hb
  refine sc 16 rfl rfl (Yc_clos (g := kf) (vs := (gD_ x1) :: caps.toList) hk rfl rfl (clo_args (mc rfl mn)) (hp _ (hS1.innS (fun _ h => mOd (i := 1) h)) x1 r_1 hc)) ?_
  rintro _ w_ ⟨rfl, hd⟩
  have hS2 := hS1.out00 hd
  refine rn ?_
  refine cw_cond (b := r_1) rfl (fun hb1 => ?_) (fun hb1 => ?_)
  ·skip
   have hF2 := ct hb hb1
   refine cq (cr ?_)
   refine sQ 17 (ym (vi (i : Int))) <| sQ 4 (yg (vi (i : Int))) (rn (ct_ ?_))
   obtain rfl := sI hF2
   obtain rfl := sI hL1
   obtain rfl := sI hF1
   exact ret1 Tryz.results89 (v1 := vi (i : Int)) (resAt_tmp rfl) ⟨rfl, (hS2.sN [])⟩
  ·skip
   have hF3 := cf' hb hb1
   refine cw_skip (cr ?_)
   refine sQ 18 (yP (i : Int) 1 rfl (hf.g 8 3)) <| sQ 8 (ym (vi (i64.wrap ((i : Int) + 1)))) (rn ?_)
   obtain rfl := sI hF3
   exact ⟨K7, Nat.lt_succ_self _, i + 1, (fc (hf.g 0 0) (fc (hf.g 1 1) (fc (hf.g 7 2) (fc (congrArg (Value.int .i64) (wr_succ hlt1 hN)) fn_)))), (hS2.sel [] rfl rfl), (by omega), hL1⟩
 ·skip
  obtain rfl : k_ = 0 := by have h := of_decide_eq_false hlt; omega
  refine cw_exit rfl ?_
  obtain rfl := sI hL
  refine cq (cr ?_)
  refine sQ 4 (yg (vi (-1))) (rn (ct_ ?_))
  obtain rfl := sI hF1
  exact ret1 Tryz.results89 (v1 := vi (-1)) (resAt_tmp rfl) ⟨rfl, (hS1.sN [])⟩

theorem c_slices_ContainsFunc_impl_Dyadic_impl_Dyadic (s : List TDyadic) (f_ : TDyadic → Option (Bool)) (B : Option Addr) (c n : Nat) (kf : Nat) (caps : Array Value) (Rf : List Ro) (w0 : World) (hn : s.length = n) (hk : callB Tryz.prog kf = true) (hp : ∀ (w : World), ST w [] w [] Rf → ∀ (x : TDyadic) (y : Bool), f_ x = some y → CV Tryz.prog kf ((gD_ x) :: caps.toList).toArray w (fun v w' => v = .bool y ∧ ST w [] w' [] [])) (hS : ST w0 [] w0 [] (⟨B, (s.flatMap eN1)⟩ :: Rf)) {r_ : Bool} (hF : F_slices_ContainsFunc_impl_Dyadic_impl_Dyadic s f_ = some r_) :
  CV Tryz.prog 100 #[.slice B n c, .func (.func kf) #[] caps] w0 (fun v w' => v = .bool r_ ∧ ST w0 [] w' [] []) := by
 subst hn
 unfold F_slices_ContainsFunc_impl_Dyadic_impl_Dyadic at hF
 refine cv_of_cw 9 Tryz.func100 rfl Tryz.ntmps100 rfl ?_
 refine cq (cr ?_)
 refine sQ 4 (yg (.bool false)) (rn (cq (cr ?_)))
 refine sQ 5 (ym (.slice B s.length c)) <| sQ 6 (ym (.func (.func kf) #[] caps)) ?_
 obtain ⟨r_1, hc, hF⟩ := bI hF
 refine sc 7 rfl rfl (yC [.slice B s.length c, .func (.func kf) #[] caps] k_call_89 (c_slices_IndexFunc_impl_Dyadic_impl_Dyadic s f_ B c s.length kf caps Rf _ rfl hk hp (hS.innS (sk 0 (fun _ h => mOd (i := 1) h))) hc)) ?_
 rintro _ w_ ⟨rfl, hd⟩
 have hS1 := hS.out00 hd
 refine sQ 8 (Y_ge (k := .i64) (a := r_1) (b := 0) rfl rfl rfl) <| sQ 4 (yg (.bool (decide (0 ≤ r_1)))) (rn (ct_ ?_))
 obtain rfl := sI hF
 exact ret1 Tryz.results100 (v1 := .bool (decide (0 ≤ r_1))) (resAt_tmp rfl) ⟨rfl, (hS1.sN [])⟩

theorem c_impl_isEven (x : TRing)  (w0 : World)  (hS : ST w0 [] w0 [] []) {r_ : Bool} (hF : F_impl_isEven x = some r_) :
  CV Tryz.prog 116 #[gR_ x] w0 (fun v w' => v = .bool r_ ∧ ST w0 [] w' [] []) := by
 unfold F_impl_isEven at hF
 refine cv_of_cw 19 Tryz.func116 rfl Tryz.ntmps116 rfl ?_
 refine cq (cr ?_)
 refine sS 1 (yB 89 (gR_ x) (kR_ x) 4 hS) ?_
 rintro _ w_ ⟨b, rfl, hS1⟩
 refine sQ 2 (yg (.bool false)) (rn (cq (cr ?_)))
 refine sQ 3 (yd (aD b) 0 0 K14 K1) <| sQ 4 (yl (aD b) 0 (kR_ x) (vi x.A) K0 (hS1.c 0)) <| sQ 5 (yd (aD b) 0 0 K17 K1) <| sQ 6 (yl (aD b) 2 (kR_ x) (vi x.C) K0 (hS1.c 0)) <| sQ 7 (yP x.A x.C) <| sQ 8 (Y_rem (k := .i64) (a := (i64.wrap (x.A + x.C))) (b := 2) rfl rfl rfl (by decide)) ?_
 refine sQ 9 (yE (Int.tmod (i64.wrap (x.A + x.C)) 2) 0) <| sQ 10 (ym (.bool ((Int.tmod (i64.wrap (x.A + x.C)) 2) == 0))) ?_
 refine sgq 11 (B := ((Int.tmod (i64.wrap (x.A + x.C)) 2) == 0)) (v := pt (aD b) 1) rfl rfl (uT_ 10) (fun hg => (yd (aD b) 0 0 K16 K1)) ?_
 refine sgq 12 (B := ((Int.tmod (i64.wrap (x.A + x.C)) 2) == 0)) (v := vi x.B) rfl rfl (uT_ 10) (fun hg1 => (yl (aD b) 1 (kR_ x) (vi x.B) K0 (hS1.c 0) rfl (gv_of (v := pt (aD b) 1) hg1))) ?_
 refine sgq 13 (B := ((Int.tmod (i64.wrap (x.A + x.C)) 2) == 0)) (v := pt (aD b) 3) rfl rfl (uT_ 10) (fun hg2 => (yd (aD b) 0 0 K15 K1)) ?_
 refine sgq 14 (B := ((Int.tmod (i64.wrap (x.A + x.C)) 2) == 0)) (v := vi x.D) rfl rfl (uT_ 10) (fun hg3 => (yl (aD b) 3 (kR_ x) (vi x.D) K0 (hS1.c 0) rfl (gv_of (v := pt (aD b) 3) hg3))) ?_
 refine sgq 15 (B := ((Int.tmod (i64.wrap (x.A + x.C)) 2) == 0)) (v := vi (i64.wrap (x.B + x.D))) rfl rfl (uT_ 10) (fun hg4 => (yP x.B x.D rfl (gv_of (v := vi x.B) hg4) (gv_of (v := vi x.D) hg4))) ?_
 refine sgq 16 (B := ((Int.tmod (i64.wrap (x.A + x.C)) 2) == 0)) (v := vi (Int.tmod (i64.wrap (x.B + x.D)) 2)) rfl rfl (uT_ 10) (fun hg5 => (Y_rem (k := .i64) (a := (i64.wrap (x.B + x.D))) (b := 2) rfl (gv_of (v := vi (i64.wrap (x.B + x.D))) hg5) rfl (by decide))) ?_
 refine sgq 17 (B := ((Int.tmod (i64.wrap (x.A + x.C)) 2) == 0)) (v := .bool ((Int.tmod (i64.wrap (x.B + x.D)) 2) == 0)) rfl rfl (uT_ 10) (fun hg6 => (yE (Int.tmod (i64.wrap (x.B + x.D)) 2) 0 rfl (gv_of (v := vi (Int.tmod (i64.wrap (x.B + x.D)) 2)) hg6))) ?_
 refine sQ 18 (Y_and (b := ((Int.tmod (i64.wrap (x.A + x.C)) 2) == 0)) (z := ((Int.tmod (i64.wrap (x.B + x.D)) 2) == 0)) rfl rfl rfl rfl) <| sQ 2 (yg (.bool (((Int.tmod (i64.wrap (x.A + x.C)) 2) == 0) && ((Int.tmod (i64.wrap (x.B + x.D)) 2) == 0)))) (rn (ct_ ?_))
 obtain rfl := sI hF
 exact ret1 Tryz.results116 (v1 := .bool (((Int.tmod (i64.wrap (x.A + x.C)) 2) == 0) && ((Int.tmod (i64.wrap (x.B + x.D)) 2) == 0))) (resAt_tmp rfl) ⟨rfl, (hS1.sN [])⟩

theorem c_impl_IsValidDyadic (x : TDyadic)  (w0 : World)  (hS : ST w0 [] w0 [] []) {r_ : Bool} (hF : F_impl_IsValidDyadic x = some r_) :
  CV Tryz.prog 94 #[gD_ x] w0 (fun v w' => v = .bool r_ ∧ ST w0 [] w' [] []) := by
 unfold F_impl_IsValidDyadic at hF
 refine cv_of_cw 22 Tryz.func94 rfl Tryz.ntmps94 rfl ?_
 refine cq (cr ?_)
 refine sS 1 (yB 91 (gD_ x) (kD_ x) 5 hS) ?_
 rintro _ w_ ⟨b, rfl, hS1⟩
 refine sQ 2 (yg (.bool false)) (rn (cq (cr ?_)))
 refine sQ 3 (yd (aD b) 0 3 K32 K3) <| sQ 4 (ya (aD b) 0 (kD_ x) (kR_ x.Num) K6 K3 (hS1.c 0)) ?_
 obtain ⟨r_1, hc, hF⟩ := bI hF
 refine sc 5 rfl rfl (yC [gR_ x.Num] K69 (c_impl_IsValidRing x.Num _  (hS1.inn0 [] rfl) hc)) ?_
 rintro _ w_1 ⟨rfl, hd⟩
 have hS2 := hS1.out00 hd
 refine sQ 6 (ym (.bool r_1)) ?_
 refine sgq 7 (B := r_1) (v := pt (aD b) 4) rfl rfl (uT_ 6) (fun hg => (yd (aD b) 0 0 K29 K1)) ?_
 refine sgq 8 (B := r_1) (v := vi x.Exp) rfl rfl (uT_ 6) (fun hg1 => (yl (aD b) 4 (kD_ x) (vi x.Exp) K0 (hS2.c 0) rfl (gv_of (v := pt (aD b) 4) hg1))) ?_
 obtain ⟨r_2, hc1, hF⟩ := bI hF
 refine sgc 9 (B := r_1) (v := .bool r_2) (F := hS2.fn) rfl rfl (uT_ 6) hS2 (fun hg2 => (yC [vi x.Exp, vi 0, vi 60] K50 (CV.mono (c_impl_within x.Exp 0 60 _  (hS2.inn0 [] rfl) (gb_inv hc1 hg2)) (by rintro _ _ ⟨rfl, h⟩; exact ⟨rfl, hS2.out00 h⟩)) rfl (mc (gv_of (v := vi x.Exp) hg2) (mc rfl (mc rfl mn))))) ?_
 rintro w_2 hS3
 refine sQ 10 (Y_and (b := r_1) (z := r_2) rfl rfl rfl rfl) <| sQ 11 (ym (.bool (r_1 && r_2))) ?_
 refine sgq 12 (B := (r_1 && r_2)) (v := pt (aD b) 4) rfl rfl (uT_ 11) (fun hg3 => (yd (aD b) 0 0 K29 K1)) ?_
 refine sgq 13 (B := (r_1 && r_2)) (v := vi x.Exp) rfl rfl (uT_ 11) (fun hg4 => (yl (aD b) 4 (kD_ x) (vi x.Exp) K0 (hS3.c 0) rfl (gv_of (v := pt (aD b) 4) hg4))) ?_
 refine sgq 14 (B := (r_1 && r_2)) (v := .bool (x.Exp == 0)) rfl rfl (uT_ 11) (fun hg5 => (yE x.Exp 0 rfl (gv_of (v := vi x.Exp) hg5))) ?_
 refine sgq 15 (B := (r_1 && r_2)) (v := .bool (x.Exp == 0)) rfl rfl (uT_ 11) (fun hg6 => (ym (.bool (x.Exp == 0)) rfl (gv_of (v := .bool (x.Exp == 0)) hg6))) ?_
 refine sgq 16 (B := ((r_1 && r_2) && (!(x.Exp == 0)))) (v := pt (aD b) 0) rfl rfl (wt_gf (gd_of (t := 15) (by kernel_rfl) rfl)) (fun hg7 => (yd (aD b) 0 3 K32 K3)) ?_
 refine sgq 17 (B := ((r_1 && r_2) && (!(x.Exp == 0)))) (v := gR_ x.Num) rfl rfl (wt_gf (gd_of (t := 15) (by kernel_rfl) rfl)) (fun hg8 => (ya (aD b) 0 (kD_ x) (kR_ x.Num) K6 K3 (hS3.c 0) rfl (gv_of (v := pt (aD b) 0) hg8))) ?_
 obtain ⟨r_3, hc2, hF⟩ := bI hF
 refine sgc 18 (B := ((r_1 && r_2) && (!(x.Exp == 0)))) (v := .bool r_3) (F := hS3.fn) rfl rfl (wt_gf (gd_of (t := 15) (by kernel_rfl) rfl)) hS3 (fun hg9 => (yC [gR_ x.Num] K98 (CV.mono (c_impl_isEven x.Num _  (hS3.inn0 [] rfl) (gb_inv hc2 hg9)) (by rintro _ _ ⟨rfl, h⟩; exact ⟨rfl, hS3.out00 h⟩)) rfl (mc (gv_of (v := gR_ x.Num) hg9) mn))) ?_
 rintro w_3 hS4
 refine sgq 19 (B := ((r_1 && r_2) && (!(x.Exp == 0)))) (v := .bool (!r_3)) rfl rfl (wt_gf (gd_of (t := 15) (by kernel_rfl) rfl)) (fun hg10 => (Y_not (p := r_3) rfl (gv_of (v := .bool r_3) hg10))) ?_
 refine sgq 20 (B := (r_1 && r_2)) (v := .bool ((x.Exp == 0) || (!r_3))) rfl rfl (uT_ 11) (fun hg11 => (Y_or (b := (x.Exp == 0)) (z := (!r_3)) rfl (gv_of (v := .bool (x.Exp == 0)) hg11) rfl (gv_and (B := (r_1 && r_2)) (C := (!(x.Exp == 0))) (v := .bool (!r_3)) hg11))) ?_
 refine sQ 21 (Y_and (b := (r_1 && r_2)) (z := ((x.Exp == 0) || (!r_3))) rfl rfl rfl rfl) <| sQ 2 (yg (.bool ((r_1 && r_2) && ((x.Exp == 0) || (!r_3))))) (rn (ct_ ?_))
 obtain rfl := sI hF
 exact ret1 Tryz.results94 (v1 := .bool ((r_1 && r_2) && ((x.Exp == 0) || (!r_3)))) (resAt_tmp rfl) ⟨rfl, (hS4.sN [])⟩

theorem c_impl_IsValidMatrix_1 (x : TDyadic)  (w0 : World)  (hS : ST w0 [] w0 [] []) {r_ : Bool} (hF : F_impl_IsValidMatrix_1 x = some r_) :
  CV Tryz.prog 101 #[gD_ x] w0 (fun v w' => v = .bool r_ ∧ ST w0 [] w' [] []) := by
 unfold F_impl_IsValidMatrix_1 at hF
 refine cv_of_cw 6 Tryz.func101 rfl Tryz.ntmps101 rfl ?_
 refine cq (cr ?_)
 refine sS 1 (yB 91 (gD_ x) (kD_ x) 5 hS) ?_
 rintro _ w_ ⟨b, rfl, hS1⟩
 refine sQ 2 (yg (.bool false)) (rn (cq (cr ?_)))
 refine sQ 3 (yb (aD b) 0 (kD_ x) K5 K2 (hS1.c 0)) ?_
 obtain ⟨r_1, hc, hF⟩ := bI hF
 refine sc 4 rfl rfl (yC [gD_ x] K65 (c_impl_IsValidDyadic x _  (hS1.inn0 [] rfl) hc)) ?_
 rintro _ w_1 ⟨rfl, hd⟩
 have hS2 := hS1.out00 hd
 refine sQ 5 (Y_not (p := r_1) rfl rfl) <| sQ 2 (yg (.bool (!r_1))) (rn (ct_ ?_))
 obtain rfl := sI hF
 exact ret1 Tryz.results101 (v1 := .bool (!r_1)) (resAt_tmp rfl) ⟨rfl, (hS2.sN [])⟩

theorem c_impl_IsValidMatrix (m : TMatrix) (B : Option Addr) (c n : Nat) (w0 : World) (hn : m.Cells.length = n) (hS : ST w0 [] w0 [] [⟨B, (m.Cells.flatMap eN1)⟩]) {r_ : Bool} (hF : F_impl_IsValidMatrix m = some r_) :
  CV Tryz.prog 69 #[.agg #[vi m.Rows, vi m.Cols, .slice B n c]] w0 (fun v w' => v = .bool r_ ∧ ST w0 [] w' [] []) := by
 subst hn
 unfold F_impl_IsValidMatrix at hF
 refine cv_of_cw 28 Tryz.func69 rfl Tryz.ntmps69 rfl ?_
 refine cq (cr ?_)
 refine sS 1 (yB 50 (gM_ m B c) (kM_ m B c) 3 hS) ?_
 rintro _ w_ ⟨b, rfl, hS1⟩
 refine sQ 2 (yg (.bool false)) (rn (cq (cr ?_)))
 refine sQ 3 (yd (aD b) 0 0 K33 K1) <| sQ 4 (yl (aD b) 0 (kM_ m B c) (vi m.Rows) K0 (hS1.c 0)) ?_
 obtain ⟨r_1, hc, hF⟩ := bI hF
 refine sc 5 rfl rfl (yC [vi m.Rows] K81 (c_impl_isDim m.Rows _  (hS1.inn0 [] rfl) hc)) ?_
 rintro _ w_1 ⟨rfl, hd⟩
 have hS2 := hS1.out00 hd
 refine sQ 6 (ym (.bool r_1)) ?_
 refine sgq 7 (B := r_1) (v := pt (aD b) 1) rfl rfl (uT_ 6) (fun hg => (yd (aD b) 0 0 K36 K1)) ?_
 refine sgq 8 (B := r_1) (v := vi m.Cols) rfl rfl (uT_ 6) (fun hg1 => (yl (aD b) 1 (kM_ m B c) (vi m.Cols) K0 (hS2.c 0) rfl (gv_of (v := pt (aD b) 1) hg1))) ?_
 obtain ⟨r_2, hc1, hF⟩ := bI hF
 refine sgc 9 (B := r_1) (v := .bool r_2) (F := hS2.fn) rfl rfl (uT_ 6) hS2 (fun hg2 => (yC [vi m.Cols] K81 (CV.mono (c_impl_isDim m.Cols _  (hS2.inn0 [] rfl) (gb_inv hc1 hg2)) (by rintro _ _ ⟨rfl, h⟩; exact ⟨rfl, hS2.out00 h⟩)) rfl (mc (gv_of (v := vi m.Cols) hg2) mn))) ?_
 rintro w_2 hS3
 refine sQ 10 (Y_and (b := r_1) (z := r_2) rfl rfl rfl rfl) <| sQ 11 (ym (.bool (r_1 && r_2))) ?_
 refine sgq 12 (B := (r_1 && r_2)) (v := pt (aD b) 2) rfl rfl (uT_ 11) (fun hg3 => (yd (aD b) 0 0 K28 K24)) ?_
 refine sgq 13 (B := (r_1 && r_2)) (v := .slice B m.Cells.length c) rfl rfl (uT_ 11) (fun hg4 => (yl (aD b) 2 (kM_ m B c) (.slice B m.Cells.length c) K34 (hS3.c 0) rfl (gv_of (v := pt (aD b) 2) hg4))) ?_
 refine sgq 14 (B := (r_1 && r_2)) (v := vi (m.Cells.length : Int)) rfl rfl (uT_ 11) (fun hg5 => (Y_len (B := B) (m := m.Cells.length) (c := c) K21 rfl (gv_of (v := .slice B m.Cells.length c) hg5))) ?_
 refine sgq 15 (B := (r_1 && r_2)) (v := pt (aD b) 0) rfl rfl (uT_ 11) (fun hg6 => (yd (aD b) 0 0 K33 K1)) ?_
 refine sgq 16 (B := (r_1 && r_2)) (v := vi m.Rows) rfl rfl (uT_ 11) (fun hg7 => (yl (aD b) 0 (kM_ m B c) (vi m.Rows) K0 (hS3.c 0) rfl (gv_of (v := pt (aD b) 0) hg7))) ?_
 refine sgq 17 (B := (r_1 && r_2)) (v := pt (aD b) 1) rfl rfl (uT_ 11) (fun hg8 => (yd (aD b) 0 0 K36 K1)) ?_
 refine sgq 18 (B := (r_1 && r_2)) (v := vi m.Cols) rfl rfl (uT_ 11) (fun hg9 => (yl (aD b) 1 (kM_ m B c) (vi m.Cols) K0 (hS3.c 0) rfl (gv_of (v := pt (aD b) 1) hg9))) ?_
 refine sgq 19 (B := (r_1 && r_2)) (v := vi (i64.wrap (m.Rows * m.Cols))) rfl rfl (uT_ 11) (fun hg10 => (yX m.Rows m.Cols rfl (gv_of (v := vi m.Rows) hg10) (gv_of (v := vi m.Cols) hg10))) ?_
 refine sgq 20 (B := (r_1 && r_2)) (v := .bool ((m.Cells.length : Int) == (i64.wrap (m.Rows * m.Cols)))) rfl rfl (uT_ 11) (fun hg11 => (yE (m.Cells.length : Int) (i64.wrap (m.Rows * m.Cols)) rfl (gv_of (v := vi (m.Cells.length : Int)) hg11) (gv_of (v := vi (i64.wrap (m.Rows * m.Cols))) hg11))) ?_
 refine sQ 21 (Y_and (b := (r_1 && r_2)) (z := ((m.Cells.length : Int) == (i64.wrap (m.Rows * m.Cols)))) rfl rfl rfl rfl) <| sQ 22 (ym (.bool ((r_1 && r_2) && ((m.Cells.length : Int) == (i64.wrap (m.Rows * m.Cols)))))) ?_
 refine sgq 23 (B := ((r_1 && r_2) && ((m.Cells.length : Int) == (i64.wrap (m.Rows * m.Cols))))) (v := pt (aD b) 2) rfl rfl (uT_ 22) (fun hg12 => (yd (aD b) 0 0 K28 K24)) ?_
 refine sgq 24 (B := ((r_1 && r_2) && ((m.Cells.length : Int) == (i64.wrap (m.Rows * m.Cols))))) (v := .slice B m.Cells.length c) rfl rfl (uT_ 22) (fun hg13 => (yl (aD b) 2 (kM_ m B c) (.slice B m.Cells.length c) K34 (hS3.c 0) rfl (gv_of (v := pt (aD b) 2) hg13))) ?_
 obtain ⟨r_3, hc2, hF⟩ := bI hF
 refine sgc 25 (B := ((r_1 && r_2) && ((m.Cells.length : Int) == (i64.wrap (m.Rows * m.Cols))))) (v := .bool r_3) (F := hS3.fn) rfl rfl (uT_ 22) hS3 (fun hg14 => (yC [.slice B m.Cells.length c, .func (.func 101) #[] #[]] k_call_100 (CV.mono (c_slices_ContainsFunc_impl_Dyadic_impl_Dyadic m.Cells F_impl_IsValidMatrix_1 B c m.Cells.length 101 (#[]) [] _ rfl k_call_101 (fun w hw x_0 y_0 h_ => c_impl_IsValidMatrix_1 x_0  w  hw h_) (hS3.inn0 [(true, 0)] rfl) (gb_inv hc2 hg14)) (by rintro _ _ ⟨rfl, h⟩; exact ⟨rfl, hS3.out00 h⟩)) rfl (mc (gv_of (v := .slice B m.Cells.length c) hg14) (mc rfl mn)))) ?_
 rintro w_3 hS4
 refine sgq 26 (B := ((r_1 && r_2) && ((m.Cells.length : Int) == (i64.wrap (m.Rows * m.Cols))))) (v := .bool (!r_3)) rfl rfl (uT_ 22) (fun hg15 => (Y_not (p := r_3) rfl (gv_of (v := .bool r_3) hg15))) ?_
 refine sQ 27 (Y_and (b := ((r_1 && r_2) && ((m.Cells.length : Int) == (i64.wrap (m.Rows * m.Cols))))) (z := (!r_3)) rfl rfl rfl rfl) <| sQ 2 (yg (.bool (((r_1 && r_2) && ((m.Cells.length : Int) == (i64.wrap (m.Rows * m.Cols)))) && (!r_3)))) (rn (ct_ ?_))
 obtain rfl := sI hF
 exact ret1 Tryz.results69 (v1 := .bool (((r_1 && r_2) && ((m.Cells.length : Int) == (i64.wrap (m.Rows * m.Cols)))) && (!r_3))) (resAt_tmp rfl) ⟨rfl, (hS4.sN [])⟩

theorem c_impl_ringIf (out : TRing) (args : List TRing) (B : Option Addr) (c n : Nat) (w0 : World) (hn : args.length = n) (hS : ST w0 (bl [⟨B, 89, (args.flatMap enc_Ring), c * 4⟩]) w0 [⟨B, 89, (args.flatMap enc_Ring), c * 4⟩] []) {r_ : TRing} {r_1 : Bool} (hF : F_impl_ringIf out args = some (r_, r_1)) :
  CV Tryz.prog 121 #[gR_ out, .slice B n c] w0 (fun v w' => v = .tuple #[gR_ r_, .bool r_1] ∧ ST w0 (bl [⟨B, 89, (args.flatMap enc_Ring), c * 4⟩]) w' [] []) := by
 subst hn
 unfold F_impl_ringIf at hF
 refine cv_of_cw 23 Tryz.func121 rfl Tryz.ntmps121 rfl ?_
 refine cq (cr ?_)
 refine sS 2 (yB 89 (gR_ out) (kR_ out) 4 hS) ?_
 rintro _ w_ ⟨b, rfl, hS1⟩
 refine sS 4 (yN [vi 0, vi 0, vi 0, vi 0] 4 hS1 K12) ?_
 rintro _ w_1 ⟨b1, rfl, hS2⟩
 refine sQ 5 (yg (.bool false)) (rn (cq (cq (cr ?_))))
 refine sQ 8 (ym (.slice B args.length c)) <| sQ 9 (yb (aD b) 0 (kR_ out) K6 K3 (hS2.c 1)) ?_
 refine sS 10 (Ys_bslice (s := 4) (len := 1) (vs := [(0, gR_ out)]) (cs := kR_ out) (zs := [vi 0, vi 0, vi 0, vi 0]) (m := 4) hS2 K58 K3 K77 rfl (mpc rfl mpn) rfl rfl rfl (by kernel_rfl) (by kernel_rfl) rfl) ?_
 rintro _ w_2 ⟨b2, rfl, hS3⟩
 obtain ⟨hap, hF⟩ := chk_inv hF
 refine sS 11 (Ys_append (s := 4) (by' := 32) (i := 0) (nn := args.length) (c := c) (k := 1) (len := (args ++ [out]).length) (B := B) (xs := ([out].flatMap enc_Ring)) (cs' := ((args ++ [out]).flatMap enc_Ring)) hS3 K58 K3 k_by_89_32 K12 rfl (by decide) rfl rfl rfl rfl (fm_lenn (l := args) enc_Ring_len rfl) rfl (hS3.c 3) (fm_lenn (l := [out]) enc_Ring_len rfl) (fm_one' (enc := enc_Ring) enc_Ring_one [out]) (by have := hap; omega) (by have := hap; simp only [maxLen]; omega) (fm_app _ _) (app_len (l := args) (l' := [out]) rfl rfl)) ?_
 rintro _ w_3 ⟨B1, c1, rfl, hS4⟩
 refine sQ 12 (Y_len (B := B1) (m := (args ++ [out]).length) (c := c1) K58 rfl rfl) <| sQ 13 (ym (vi 0)) (rn ?_)
 obtain ⟨hN, hF⟩ := chk_inv hF
 obtain ⟨z, hz, hF1⟩ := bI hF
 refine cw_block ?_
 refine cw_loop (fun k f w => ∃ (i : Nat), FF f [(2, pt (aD b) 0), (4, pt (aD b1) 0), (11, .slice B1 ((args ++ [out]).length) c1), (12, vi ((args ++ [out]).length : Int)), (13, vi (i : Int))] ∧ ST w0 (bl [⟨B, 89, (args.flatMap enc_Ring), c * 4⟩]) w [⟨aD b, 89, kR_ out, 4⟩, ⟨aD b1, 89, [vi 0, vi 0, vi 0, vi 0], 4⟩, ⟨B1, 89, ((args ++ [out]).flatMap enc_Ring), c1 * 4⟩] [] ∧ i + k = (args ++ [out]).length ∧ forX (F_impl_ringIf_l1 args out) k i () = some z) ((args ++ [out]).length) ⟨0, (fc rfl (fc rfl (fc rfl (fc rfl (fc rfl fn_))))), (hS4.sel [1, 2, 0] rfl rfl), Nat.zero_add _, hz⟩ ?_
 rintro k_ f w ⟨i, hf, hS5, hik, hL⟩
 refine cq (cr ?_)
 refine sQ 14 (yL (i : Int) ((args ++ [out]).length : Int) rfl (hf.g 13 4) (hf.g 12 3)) (rn (cq ?_))
 refine cw_cond (b := (decide ((i : Int) < ((args ++ [out]).length : Int)))) rfl (fun hlt => ?_) (fun hlt => ?_)
 ·skip
  have hlt1 : i < (args ++ [out]).length := by have h := of_decide_eq_true hlt; omega
  obtain ⟨K7, rfl⟩ : ∃ k2, k_ = k2 + 1 := ⟨k_ - 1, by omega⟩
  obtain ⟨y, hb, hL1⟩ := forX_go hL
  unfold F_impl_ringIf_l1 at hb
  refine cw_skip (cq (cw_block (cq (cr ?_))))
  obtain ⟨x, hx, hb⟩ := bI hb
  refine sQ 15 (Y_index (B := B1) (m := (args ++ [out]).length) (c := c1) (k := .i64) (i := (i : Int)) K58 K3 rfl (hf.g 11 2) (hf.g 13 4) (gi_isSome enc_Ring_len rfl (hS5.c 2) hx) (getI_nn hx) (getI_ltI hx rfl)) <| sQ 16 (ya B1 ((i : Int).toNat * 4) ((args ++ [out]).flatMap enc_Ring) (kR_ x) K6 K3 (hS5.c 2) rfl rfl (enc_Ring_len x) (gi_seg enc_Ring_len hx)) ?_
  refine sS 7 (yN [vi 0, vi 0, vi 0, vi 0] 4 hS5 K12) ?_
  rintro _ w_4 ⟨b3, rfl, hS6⟩
  refine s0 (yT 3 4 (aD b3) 89 (gR_ x) (kR_ x) 0 hS6 K3) ?_
  rintro _ w_5 ⟨rfl, hS7⟩
  refine rn (cq (cr ?_))
  refine sQ 17 (yb (aD b3) 0 (kR_ x) K6 K3 (hS7.c 3)) ?_
  obtain ⟨r_2, hc, hb⟩ := bI hb
  refine sc 18 rfl rfl (yC [gR_ x] K69 (c_impl_IsValidRing x _  (hS7.inn0 [] rfl) hc)) ?_
  rintro _ w_6 ⟨rfl, hd⟩
  have hS8 := hS7.out00 hd
  refine sQ 19 (Y_not (p := r_2) rfl rfl) (rn ?_)
  refine cw_cond (b := (!r_2)) rfl (fun hb1 => ?_) (fun hb1 => ?_)
  ·skip
   have hF2 := ct hb hb1
   refine cq (cr ?_)
   refine sQ 20 (Y_buildS (zs := [vi 0, vi 0, vi 0, vi 0]) (vs := []) (cs := [vi 0, vi 0, vi 0, vi 0]) K30 K12 rfl mpn rfl) ?_
   refine s0 (yT 1 4 (aD b1) 89 (.agg #[vi 0, vi 0, vi 0, vi 0]) [vi 0, vi 0, vi 0, vi 0] 0 hS8 K3 rfl (hf.g 4 1)) ?_
   rintro _ w_7 ⟨rfl, hS9⟩
   refine sQ 5 (yg (.bool false)) (rn (ct_ ?_))
   obtain rfl := sI hF2
   obtain rfl := sI hL1
   obtain ⟨rfl, rfl⟩ := pr2 (sI hF1)
   exact ret2 Tryz.results121 (v1 := .agg #[vi 0, vi 0, vi 0, vi 0]) (resAt_cellA (B := aD b1) (i := 0) (cs := [vi 0, vi 0, vi 0, vi 0]) (vs := [vi 0, vi 0, vi 0, vi 0]) (hf.g 4 1) K6 K3 (hS9.c 1) rfl rfl) (v2 := .bool false) (resAt_tmp rfl) ⟨rfl, (hS9.sN [])⟩
  ·skip
   have hF3 := cf' hb hb1
   refine cw_skip (cr ?_)
   refine sQ 21 (yP (i : Int) 1 rfl (hf.g 13 4)) <| sQ 13 (ym (vi (i64.wrap ((i : Int) + 1)))) (rn ?_)
   obtain rfl := sI hF3
   exact ⟨K7, Nat.lt_succ_self _, i + 1, (fc (hf.g 2 0) (fc (hf.g 4 1) (fc (hf.g 11 2) (fc (hf.g 12 3) (fc (congrArg (Value.int .i64) (wr_succ hlt1 hN)) fn_))))), (hS8.sel [0, 1, 2] rfl rfl), (by omega), hL1⟩
 ·skip
  obtain rfl : k_ = 0 := by have h := of_decide_eq_false hlt; omega
  refine cw_exit rfl ?_
  obtain rfl := sI hL
  refine cq (cr ?_)
  refine sQ 22 (yb (aD b) 0 (kR_ out) K6 K3 (hS5.c 0) rfl (hf.g 2 0)) ?_
  refine s0 (yT 1 4 (aD b1) 89 (gR_ out) (kR_ out) 0 hS5 K3 rfl (hf.g 4 1)) ?_
  rintro _ w_8 ⟨rfl, hS10⟩
  refine sQ 5 (yg (.bool true)) (rn (ct_ ?_))
  obtain ⟨rfl, rfl⟩ := pr2 (sI hF1)
  exact ret2 Tryz.results121 (v1 := gR_ out) (resAt_cellA (B := aD b1) (i := 0) (cs := kR_ out) (vs := kR_ out) (hf.g 4 1) K6 K3 (hS10.c 1) rfl rfl) (v2 := .bool true) (resAt_tmp rfl) ⟨rfl, (hS10.sN [])⟩

theorem c_impl_MulRing (x : TRing) (y : TRing)  (w0 : World)  (hS : ST w0 [] w0 [] []) {r_ : TRing} {r_1 : Bool} (hF : F_impl_MulRing x y = some (r_, r_1)) :
  CV Tryz.prog 102 #[gR_ x, gR_ y] w0 (fun v w' => v = .tuple #[gR_ r_, .bool r_1] ∧ ST w0 [] w' [] []) := by
 unfold F_impl_MulRing at hF
 refine cv_of_cw 105 Tryz.func102 rfl Tryz.ntmps102 rfl ?_
 refine cq (cr ?_)
 refine sS 2 (yB 89 (gR_ x) (kR_ x) 4 hS) ?_
 rintro _ w_ ⟨b, rfl, hS1⟩
 refine sS 3 (yB 89 (gR_ y) (kR_ y) 4 hS1) ?_
 rintro _ w_1 ⟨b1, rfl, hS2⟩
 refine sS 4 (yN [vi 0, vi 0, vi 0, vi 0] 4 hS2 K12) ?_
 rintro _ w_2 ⟨b2, rfl, hS3⟩
 refine sQ 5 (yg (.bool false)) (rn (cq (cr ?_)))
 refine sQ 6 (yd (aD b) 0 0 K14 K1) <| sQ 7 (yl (aD b) 0 (kR_ x) (vi x.A) K0 (hS3.c 0)) <| sQ 8 (yd (aD b1) 0 0 K14 K1) <| sQ 9 (yl (aD b1) 0 (kR_ y) (vi y.A) K0 (hS3.c 1)) <| sQ 10 (yX x.A y.A) <| sQ 11 (yd (aD b) 0 0 K16 K1) ?_
 refine sQ 12 (yl (aD b) 1 (kR_ x) (vi x.B) K0 (hS3.c 0)) <| sQ 13 (yd (aD b1) 0 0 K15 K1) <| sQ 14 (yl (aD b1) 3 (kR_ y) (vi y.D) K0 (hS3.c 1)) <| sQ 15 (yX x.B y.D) <| sQ 16 (yM (i64.wrap (x.A * y.A)) (i64.wrap (x.B * y.D))) <| sQ 17 (yd (aD b) 0 0 K17 K1) ?_
 refine sQ 18 (yl (aD b) 2 (kR_ x) (vi x.C) K0 (hS3.c 0)) <| sQ 19 (yd (aD b1) 0 0 K17 K1) <| sQ 20 (yl (aD b1) 2 (kR_ y) (vi y.C) K0 (hS3.c 1)) <| sQ 21 (yX x.C y.C) <| sQ 22 (yM (i64.wrap ((i64.wrap (x.A * y.A)) - (i64.wrap (x.B * y.D)))) (i64.wrap (x.C * y.C))) <| sQ 23 (yd (aD b) 0 0 K15 K1) ?_
 refine sQ 24 (yl (aD b) 3 (kR_ x) (vi x.D) K0 (hS3.c 0)) <| sQ 25 (yd (aD b1) 0 0 K16 K1) <| sQ 26 (yl (aD b1) 1 (kR_ y) (vi y.B) K0 (hS3.c 1)) <| sQ 27 (yX x.D y.B) <| sQ 28 (yM (i64.wrap ((i64.wrap ((i64.wrap (x.A * y.A)) - (i64.wrap (x.B * y.D)))) - (i64.wrap (x.C * y.C)))) (i64.wrap (x.D * y.B))) <| sQ 29 (yd (aD b) 0 0 K14 K1) ?_
 refine sQ 30 (yl (aD b) 0 (kR_ x) (vi x.A) K0 (hS3.c 0)) <| sQ 31 (yd (aD b1) 0 0 K16 K1) <| sQ 32 (yl (aD b1) 1 (kR_ y) (vi y.B) K0 (hS3.c 1)) <| sQ 33 (yX x.A y.B) <| sQ 34 (yd (aD b) 0 0 K16 K1) <| sQ 35 (yl (aD b) 1 (kR_ x) (vi x.B) K0 (hS3.c 0)) ?_
 refine sQ 36 (yd (aD b1) 0 0 K14 K1) <| sQ 37 (yl (aD b1) 0 (kR_ y) (vi y.A) K0 (hS3.c 1)) <| sQ 38 (yX x.B y.A) <| sQ 39 (yP (i64.wrap (x.A * y.B)) (i64.wrap (x.B * y.A))) <| sQ 40 (yd (aD b) 0 0 K17 K1) <| sQ 41 (yl (aD b) 2 (kR_ x) (vi x.C) K0 (hS3.c 0)) ?_
 refine sQ 42 (yd (aD b1) 0 0 K15 K1) <| sQ 43 (yl (aD b1) 3 (kR_ y) (vi y.D) K0 (hS3.c 1)) <| sQ 44 (yX x.C y.D) <| sQ 45 (yM (i64.wrap ((i64.wrap (x.A * y.B)) + (i64.wrap (x.B * y.A)))) (i64.wrap (x.C * y.D))) <| sQ 46 (yd (aD b) 0 0 K15 K1) <| sQ 47 (yl (aD b) 3 (kR_ x) (vi x.D) K0 (hS3.c 0)) ?_
 refine sQ 48 (yd (aD b1) 0 0 K17 K1) <| sQ 49 (yl (aD b1) 2 (kR_ y) (vi y.C) K0 (hS3.c 1)) <| sQ 50 (yX x.D y.C) <| sQ 51 (yM (i64.wrap ((i64.wrap ((i64.wrap (x.A * y.B)) + (i64.wrap (x.B * y.A)))) - (i64.wrap (x.C * y.D)))) (i64.wrap (x.D * y.C))) <| sQ 52 (yd (aD b) 0 0 K14 K1) <| sQ 53 (yl (aD b) 0 (kR_ x) (vi x.A) K0 (hS3.c 0)) ?_
 refine sQ 54 (yd (aD b1) 0 0 K17 K1) <| sQ 55 (yl (aD b1) 2 (kR_ y) (vi y.C) K0 (hS3.c 1)) <| sQ 56 (yX x.A y.C) <| sQ 57 (yd (aD b) 0 0 K16 K1) <| sQ 58 (yl (aD b) 1 (kR_ x) (vi x.B) K0 (hS3.c 0)) <| sQ 59 (yd (aD b1) 0 0 K16 K1) ?_
 refine sQ 60 (yl (aD b1) 1 (kR_ y) (vi y.B) K0 (hS3.c 1)) <| sQ 61 (yX x.B y.B) <| sQ 62 (yP (i64.wrap (x.A * y.C)) (i64.wrap (x.B * y.B))) <| sQ 63 (yd (aD b) 0 0 K17 K1) <| sQ 64 (yl (aD b) 2 (kR_ x) (vi x.C) K0 (hS3.c 0)) <| sQ 65 (yd (aD b1) 0 0 K14 K1) ?_
 refine sQ 66 (yl (aD b1) 0 (kR_ y) (vi y.A) K0 (hS3.c 1)) <| sQ 67 (yX x.C y.A) <| sQ 68 (yP (i64.wrap ((i64.wrap (x.A * y.C)) + (i64.wrap (x.B * y.B)))) (i64.wrap (x.C * y.A))) <| sQ 69 (yd (aD b) 0 0 K15 K1) <| sQ 70 (yl (aD b) 3 (kR_ x) (vi x.D) K0 (hS3.c 0)) <| sQ 71 (yd (aD b1) 0 0 K15 K1) ?_
 refine sQ 72 (yl (aD b1) 3 (kR_ y) (vi y.D) K0 (hS3.c 1)) <| sQ 73 (yX x.D y.D) <| sQ 74 (yM (i64.wrap ((i64.wrap ((i64.wrap (x.A * y.C)) + (i64.wrap (x.B * y.B)))) + (i64.wrap (x.C * y.A)))) (i64.wrap (x.D * y.D))) <| sQ 75 (yd (aD b) 0 0 K14 K1) <| sQ 76 (yl (aD b) 0 (kR_ x) (vi x.A) K0 (hS3.c 0)) <| sQ 77 (yd (aD b1) 0 0 K15 K1) ?_
 refine sQ 78 (yl (aD b1) 3 (kR_ y) (vi y.D) K0 (hS3.c 1)) <| sQ 79 (yX x.A y.D) <| sQ 80 (yd (aD b) 0 0 K16 K1) <| sQ 81 (yl (aD b) 1 (kR_ x) (vi x.B) K0 (hS3.c 0)) <| sQ 82 (yd (aD b1) 0 0 K17 K1) <| sQ 83 (yl (aD b1) 2 (kR_ y) (vi y.C) K0 (hS3.c 1)) ?_
 refine sQ 84 (yX x.B y.C) <| sQ 85 (yP (i64.wrap (x.A * y.D)) (i64.wrap (x.B * y.C))) <| sQ 86 (yd (aD b) 0 0 K17 K1) <| sQ 87 (yl (aD b) 2 (kR_ x) (vi x.C) K0 (hS3.c 0)) <| sQ 88 (yd (aD b1) 0 0 K16 K1) <| sQ 89 (yl (aD b1) 1 (kR_ y) (vi y.B) K0 (hS3.c 1)) ?_
 refine sQ 90 (yX x.C y.B) <| sQ 91 (yP (i64.wrap ((i64.wrap (x.A * y.D)) + (i64.wrap (x.B * y.C)))) (i64.wrap (x.C * y.B))) <| sQ 92 (yd (aD b) 0 0 K15 K1) <| sQ 93 (yl (aD b) 3 (kR_ x) (vi x.D) K0 (hS3.c 0)) <| sQ 94 (yd (aD b1) 0 0 K14 K1) <| sQ 95 (yl (aD b1) 0 (kR_ y) (vi y.A) K0 (hS3.c 1)) ?_
 refine sQ 96 (yX x.D y.A) <| sQ 97 (yP (i64.wrap ((i64.wrap ((i64.wrap (x.A * y.D)) + (i64.wrap (x.B * y.C)))) + (i64.wrap (x.C * y.B)))) (i64.wrap (x.D * y.A))) <| sQ 98 (Y_buildS (zs := [vi 0, vi 0, vi 0, vi 0]) (vs := [(0, vi (i64.wrap ((i64.wrap ((i64.wrap ((i64.wrap (x.A * y.A)) - (i64.wrap (x.B * y.D)))) - (i64.wrap (x.C * y.C)))) - (i64.wrap (x.D * y.B))))), (1, vi (i64.wrap ((i64.wrap ((i64.wrap ((i64.wrap (x.A * y.B)) + (i64.wrap (x.B * y.A)))) - (i64.wrap (x.C * y.D)))) - (i64.wrap (x.D * y.C))))), (2, vi (i64.wrap ((i64.wrap ((i64.wrap ((i64.wrap (x.A * y.C)) + (i64.wrap (x.B * y.B)))) + (i64.wrap (x.C * y.A)))) - (i64.wrap (x.D * y.D))))), (3, vi (i64.wrap ((i64.wrap ((i64.wrap ((i64.wrap (x.A * y.D)) + (i64.wrap (x.B * y.C)))) + (i64.wrap (x.C * y.B)))) + (i64.wrap (x.D * y.A)))))]) (cs := [vi (i64.wrap ((i64.wrap ((i64.wrap ((i64.wrap (x.A * y.A)) - (i64.wrap (x.B * y.D)))) - (i64.wrap (x.C * y.C)))) - (i64.wrap (x.D * y.B)))), vi (i64.wrap ((i64.wrap ((i64.wrap ((i64.wrap (x.A * y.B)) + (i64.wrap (x.B * y.A)))) - (i64.wrap (x.C * y.D)))) - (i64.wrap (x.D * y.C)))), vi (i64.wrap ((i64.wrap ((i64.wrap ((i64.wrap (x.A * y.C)) + (i64.wrap (x.B * y.B)))) + (i64.wrap (x.C * y.A)))) - (i64.wrap (x.D * y.D)))), vi (i64.wrap ((i64.wrap ((i64.wrap ((i64.wrap (x.A * y.D)) + (i64.wrap (x.B * y.C)))) + (i64.wrap (x.C * y.B)))) + (i64.wrap (x.D * y.A))))]) K30 K12 rfl (mpc rfl (mpc rfl (mpc rfl (mpc rfl mpn)))) rfl) <| sQ 99 (yb (aD b) 0 (kR_ x) K6 K3 (hS3.c 0)) <| sQ 100 (yb (aD b1) 0 (kR_ y) K6 K3 (hS3.c 1)) ?_
 refine sS 101 (Ys_bslice (s := 4) (len := 2) (vs := [(0, gR_ x), (1, gR_ y)]) (cs := [vi x.A, vi x.B, vi x.C, vi x.D, vi y.A, vi y.B, vi y.C, vi y.D]) (zs := [vi 0, vi 0, vi 0, vi 0, vi 0, vi 0, vi 0, vi 0]) (m := 8) hS3 K58 K3 K77 rfl (mpc rfl (mpc rfl mpn)) rfl rfl rfl (by kernel_rfl) (by kernel_rfl) rfl) ?_
 rintro _ w_3 ⟨b3, rfl, hS4⟩
 obtain ⟨⟨r_2, r_3⟩, hc, hF⟩ := bI hF
 refine sc 102 rfl rfl (yC [.agg #[vi (i64.wrap ((i64.wrap ((i64.wrap ((i64.wrap (x.A * y.A)) - (i64.wrap (x.B * y.D)))) - (i64.wrap (x.C * y.C)))) - (i64.wrap (x.D * y.B)))), vi (i64.wrap ((i64.wrap ((i64.wrap ((i64.wrap (x.A * y.B)) + (i64.wrap (x.B * y.A)))) - (i64.wrap (x.C * y.D)))) - (i64.wrap (x.D * y.C)))), vi (i64.wrap ((i64.wrap ((i64.wrap ((i64.wrap (x.A * y.C)) + (i64.wrap (x.B * y.B)))) + (i64.wrap (x.C * y.A)))) - (i64.wrap (x.D * y.D)))), vi (i64.wrap ((i64.wrap ((i64.wrap ((i64.wrap (x.A * y.D)) + (i64.wrap (x.B * y.C)))) + (i64.wrap (x.C * y.B)))) + (i64.wrap (x.D * y.A))))], .slice (aD b3) 2 2] K85 (c_impl_ringIf (TRing.mk (i64.wrap ((i64.wrap ((i64.wrap ((i64.wrap (x.A * y.A)) - (i64.wrap (x.B * y.D)))) - (i64.wrap (x.C * y.C)))) - (i64.wrap (x.D * y.B)))) (i64.wrap ((i64.wrap ((i64.wrap ((i64.wrap (x.A * y.B)) + (i64.wrap (x.B * y.A)))) - (i64.wrap (x.C * y.D)))) - (i64.wrap (x.D * y.C)))) (i64.wrap ((i64.wrap ((i64.wrap ((i64.wrap (x.A * y.C)) + (i64.wrap (x.B * y.B)))) + (i64.wrap (x.C * y.A)))) - (i64.wrap (x.D * y.D)))) (i64.wrap ((i64.wrap ((i64.wrap ((i64.wrap (x.A * y.D)) + (i64.wrap (x.B * y.C)))) + (i64.wrap (x.C * y.B)))) + (i64.wrap (x.D * y.A))))) [x, y] (aD b3) 2 2 _ rfl (hS4.inn [false, false, false, true] rfl [] rfl) hc)) ?_
 rintro _ w_4 ⟨rfl, hd⟩
 have hS5 := hS4.out [false, false, false, true] rfl hd
 refine sQ 103 (ye (gR_ r_2)) <| sQ 104 (ye (.bool r_3)) ?_
 refine s0 (yT 2 4 (aD b2) 89 (gR_ r_2) (kR_ r_2) 0 hS5 K3) ?_
 rintro _ w_5 ⟨rfl, hS6⟩
 refine sQ 5 (yg (.bool r_3)) (rn (ct_ ?_))
 obtain ⟨rfl, rfl⟩ := pr2 (sI hF)
 exact ret2 Tryz.results102 (v1 := gR_ r_2) (resAt_cellA (B := aD b2) (i := 0) (cs := kR_ r_2) (vs := kR_ r_2) rfl K6 K3 (hS6.c 2) rfl rfl) (v2 := .bool r_3) (resAt_tmp rfl) ⟨rfl, (hS6.sN [])⟩

theorem c_impl_DivRootTwo (x : TRing)  (w0 : World)  (hS : ST w0 [] w0 [] []) {r_ : TRing} {r_1 : Bool} (hF : F_impl_DivRootTwo x = some (r_, r_1)) :
  CV Tryz.prog 122 #[gR_ x] w0 (fun v w' => v = .tuple #[gR_ r_, .bool r_1] ∧ ST w0 [] w' [] []) := by
 unfold F_impl_DivRootTwo at hF
 refine cv_of_cw 43 Tryz.func122 rfl Tryz.ntmps122 rfl ?_
 refine cq (cr ?_)
 refine sS 1 (yB 89 (gR_ x) (kR_ x) 4 hS) ?_
 rintro _ w_ ⟨b, rfl, hS1⟩
 refine sS 2 (yN [vi 0, vi 0, vi 0, vi 0] 4 hS1 K12) ?_
 rintro _ w_1 ⟨b1, rfl, hS2⟩
 refine sQ 3 (yg (.bool false)) (rn (cq (cq (cr ?_))))
 refine sQ 4 (yb (aD b) 0 (kR_ x) K6 K3 (hS2.c 0)) ?_
 obtain ⟨r_2, hc, hF⟩ := bI hF
 refine sc 5 rfl rfl (yC [gR_ x] K69 (c_impl_IsValidRing x _  (hS2.inn0 [] rfl) hc)) ?_
 rintro _ w_2 ⟨rfl, hd⟩
 have hS3 := hS2.out00 hd
 refine sQ 6 (Y_not (p := r_2) rfl rfl) <| sQ 7 (ym (.bool (!r_2))) ?_
 refine sgq 8 (B := (!(!r_2))) (v := gR_ x) rfl rfl (uF_ 7) (fun hg => (yb (aD b) 0 (kR_ x) K6 K3 (hS3.c 0))) ?_
 obtain ⟨r_3, hc1, hF⟩ := bI hF
 refine sgc 9 (B := (!(!r_2))) (v := .bool r_3) (F := hS3.fn) rfl rfl (uF_ 7) hS3 (fun hg1 => (yC [gR_ x] K98 (CV.mono (c_impl_isEven x _  (hS3.inn0 [] rfl) (gb_inv hc1 hg1)) (by rintro _ _ ⟨rfl, h⟩; exact ⟨rfl, hS3.out00 h⟩)) rfl (mc (gv_of (v := gR_ x) hg1) mn))) ?_
 rintro w_3 hS4
 refine sgq 10 (B := (!(!r_2))) (v := .bool (!r_3)) rfl rfl (uF_ 7) (fun hg2 => (Y_not (p := r_3) rfl (gv_of (v := .bool r_3) hg2))) ?_
 refine sQ 11 (Y_or (b := (!r_2)) (z := (!r_3)) rfl rfl rfl rfl) (rn ?_)
 refine cw_cond (b := ((!r_2) || (!r_3))) rfl (fun hb => ?_) (fun hb => ?_)
 ·skip
  have hF1 := ct hF hb
  refine cq (cr ?_)
  refine sQ 12 (Y_buildS (zs := [vi 0, vi 0, vi 0, vi 0]) (vs := []) (cs := [vi 0, vi 0, vi 0, vi 0]) K30 K12 rfl mpn rfl) ?_
  refine s0 (yT 1 4 (aD b1) 89 (.agg #[vi 0, vi 0, vi 0, vi 0]) [vi 0, vi 0, vi 0, vi 0] 0 hS4 K3) ?_
  rintro _ w_4 ⟨rfl, hS5⟩
  refine sQ 3 (yg (.bool false)) (rn (ct_ ?_))
  obtain ⟨rfl, rfl⟩ := pr2 (sI hF1)
  exact ret2 Tryz.results122 (v1 := .agg #[vi 0, vi 0, vi 0, vi 0]) (resAt_cellA (B := aD b1) (i := 0) (cs := [vi 0, vi 0, vi 0, vi 0]) (vs := [vi 0, vi 0, vi 0, vi 0]) rfl K6 K3 (hS5.c 1) rfl rfl) (v2 := .bool false) (resAt_tmp rfl) ⟨rfl, (hS5.sN [])⟩
 ·skip
  have hF2 := cf' hF hb
  refine cw_skip (cq (cr ?_))
  refine sQ 13 (yd (aD b) 0 0 K16 K1) <| sQ 14 (yl (aD b) 1 (kR_ x) (vi x.B) K0 (hS4.c 0)) <| sQ 15 (yd (aD b) 0 0 K15 K1) <| sQ 16 (yl (aD b) 3 (kR_ x) (vi x.D) K0 (hS4.c 0)) <| sQ 17 (yM x.B x.D) <| sQ 18 (Y_quo (k := .i64) (a := (i64.wrap (x.B - x.D))) (b := 2) rfl rfl rfl (by decide)) ?_
  refine sQ 19 (yd (aD b) 0 0 K14 K1) <| sQ 20 (yl (aD b) 0 (kR_ x) (vi x.A) K0 (hS4.c 0)) <| sQ 21 (yd (aD b) 0 0 K17 K1) <| sQ 22 (yl (aD b) 2 (kR_ x) (vi x.C) K0 (hS4.c 0)) <| sQ 23 (yP x.A x.C) <| sQ 24 (Y_quo (k := .i64) (a := (i64.wrap (x.A + x.C))) (b := 2) rfl rfl rfl (by decide)) ?_
  refine sQ 25 (yd (aD b) 0 0 K16 K1) <| sQ 26 (yl (aD b) 1 (kR_ x) (vi x.B) K0 (hS4.c 0)) <| sQ 27 (yd (aD b) 0 0 K15 K1) <| sQ 28 (yl (aD b) 3 (kR_ x) (vi x.D) K0 (hS4.c 0)) <| sQ 29 (yP x.B x.D) <| sQ 30 (Y_quo (k := .i64) (a := (i64.wrap (x.B + x.D))) (b := 2) rfl rfl rfl (by decide)) ?_
  refine sQ 31 (yd (aD b) 0 0 K17 K1) <| sQ 32 (yl (aD b) 2 (kR_ x) (vi x.C) K0 (hS4.c 0)) <| sQ 33 (yd (aD b) 0 0 K14 K1) <| sQ 34 (yl (aD b) 0 (kR_ x) (vi x.A) K0 (hS4.c 0)) <| sQ 35 (yM x.C x.A) <| sQ 36 (Y_quo (k := .i64) (a := (i64.wrap (x.C - x.A))) (b := 2) rfl rfl rfl (by decide)) ?_
  refine sQ 37 (Y_buildS (zs := [vi 0, vi 0, vi 0, vi 0]) (vs := [(0, vi (i64.wrap (Int.tdiv (i64.wrap (x.B - x.D)) 2))), (1, vi (i64.wrap (Int.tdiv (i64.wrap (x.A + x.C)) 2))), (2, vi (i64.wrap (Int.tdiv (i64.wrap (x.B + x.D)) 2))), (3, vi (i64.wrap (Int.tdiv (i64.wrap (x.C - x.A)) 2)))]) (cs := [vi (i64.wrap (Int.tdiv (i64.wrap (x.B - x.D)) 2)), vi (i64.wrap (Int.tdiv (i64.wrap (x.A + x.C)) 2)), vi (i64.wrap (Int.tdiv (i64.wrap (x.B + x.D)) 2)), vi (i64.wrap (Int.tdiv (i64.wrap (x.C - x.A)) 2))]) K30 K12 rfl (mpc rfl (mpc rfl (mpc rfl (mpc rfl mpn)))) rfl) <| sQ 38 (yb (aD b) 0 (kR_ x) K6 K3 (hS4.c 0)) ?_
  refine sS 39 (Ys_bslice (s := 4) (len := 1) (vs := [(0, gR_ x)]) (cs := kR_ x) (zs := [vi 0, vi 0, vi 0, vi 0]) (m := 4) hS4 K58 K3 K77 rfl (mpc rfl mpn) rfl rfl rfl (by kernel_rfl) (by kernel_rfl) rfl) ?_
  rintro _ w_5 ⟨b2, rfl, hS6⟩
  obtain ⟨⟨r_4, r_5⟩, hc2, hF2⟩ := bI hF2
  refine sc 40 rfl rfl (yC [.agg #[vi (i64.wrap (Int.tdiv (i64.wrap (x.B - x.D)) 2)), vi (i64.wrap (Int.tdiv (i64.wrap (x.A + x.C)) 2)), vi (i64.wrap (Int.tdiv (i64.wrap (x.B + x.D)) 2)), vi (i64.wrap (Int.tdiv (i64.wrap (x.C - x.A)) 2))], .slice (aD b2) 1 1] K85 (c_impl_ringIf (TRing.mk (i64.wrap (Int.tdiv (i64.wrap (x.B - x.D)) 2)) (i64.wrap (Int.tdiv (i64.wrap (x.A + x.C)) 2)) (i64.wrap (Int.tdiv (i64.wrap (x.B + x.D)) 2)) (i64.wrap (Int.tdiv (i64.wrap (x.C - x.A)) 2))) [x] (aD b2) 1 1 _ rfl (hS6.inn [false, false, true] rfl [] rfl) hc2)) ?_
  rintro _ w_6 ⟨rfl, hd1⟩
  have hS7 := hS6.out [false, false, true] rfl hd1
  refine sQ 41 (ye (gR_ r_4)) <| sQ 42 (ye (.bool r_5)) ?_
  refine s0 (yT 1 4 (aD b1) 89 (gR_ r_4) (kR_ r_4) 0 hS7 K3) ?_
  rintro _ w_7 ⟨rfl, hS8⟩
  refine sQ 3 (yg (.bool r_5)) (rn (ct_ ?_))
  obtain ⟨rfl, rfl⟩ := pr2 (sI hF2)
  exact ret2 Tryz.results122 (v1 := gR_ r_4) (resAt_cellA (B := aD b1) (i := 0) (cs := kR_ r_4) (vs := kR_ r_4) rfl K6 K3 (hS8.c 1) rfl rfl) (v2 := .bool r_5) (resAt_tmp rfl) ⟨rfl, (hS8.sN [])⟩

theorem c_impl_DyadicOf (num : TRing) (exp : Int)  (w0 : World)  (hS : ST w0 [] w0 [] []) {r_ : TDyadic} {r_1 : Bool} (hF : F_impl_DyadicOf num exp = some (r_, r_1)) :
  CV Tryz.prog 103 #[gR_ num, vi exp] w0 (fun v w' => v = .tuple #[gD_ r_, .bool r_1] ∧ ST w0 [] w' [] []) := by
 unfold F_impl_DyadicOf at hF
 refine cv_of_cw 31 Tryz.func103 rfl Tryz.ntmps103 rfl ?_
 refine cq (cr ?_)
 refine sS 2 (yB 89 (gR_ num) (kR_ num) 4 hS) ?_
 rintro _ w_ ⟨b, rfl, hS1⟩
 refine sS 4 (yN kZ_ 5 hS1 K8) ?_
 rintro _ w_1 ⟨b1, rfl, hS2⟩
 refine sQ 5 (yg (.bool false)) (rn (cq (cq (cr ?_))))
 refine sQ 6 (yb (aD b) 0 (kR_ num) K6 K3 (hS2.c 0)) ?_
 obtain ⟨r_2, hc, hF⟩ := bI hF
 refine sc 7 rfl rfl (yC [gR_ num] K69 (c_impl_IsValidRing num _  (hS2.inn0 [] rfl) hc)) ?_
 rintro _ w_2 ⟨rfl, hd⟩
 have hS3 := hS2.out00 hd
 refine sQ 8 (Y_not (p := r_2) rfl rfl) <| sQ 9 (ym (.bool (!r_2))) ?_
 refine sgq 10 (B := (!(!r_2))) (v := vi exp) rfl rfl (uF_ 9) (fun hg => (ym (vi exp))) ?_
 obtain ⟨r_3, hc1, hF⟩ := bI hF
 refine sgc 11 (B := (!(!r_2))) (v := .bool r_3) (F := hS3.fn) rfl rfl (uF_ 9) hS3 (fun hg1 => (yC [vi exp, vi 0, vi 60] K50 (CV.mono (c_impl_within exp 0 60 _  (hS3.inn0 [] rfl) (gb_inv hc1 hg1)) (by rintro _ _ ⟨rfl, h⟩; exact ⟨rfl, hS3.out00 h⟩)) rfl (mc (gv_of (v := vi exp) hg1) (mc rfl (mc rfl mn))))) ?_
 rintro w_3 hS4
 refine sgq 12 (B := (!(!r_2))) (v := .bool (!r_3)) rfl rfl (uF_ 9) (fun hg2 => (Y_not (p := r_3) rfl (gv_of (v := .bool r_3) hg2))) ?_
 refine sQ 13 (Y_or (b := (!r_2)) (z := (!r_3)) rfl rfl rfl rfl) (rn ?_)
 refine cw_cond (b := ((!r_2) || (!r_3))) rfl (fun hb => ?_) (fun hb => ?_)
 ·skip
  have hF1 := ct hF hb
  refine cq (cr ?_)
  refine sQ 14 (Y_buildS (zs := kZ_) (vs := []) (cs := kZ_) K22 K8 rfl mpn rfl) ?_
  refine s0 (yT 1 5 (aD b1) 91 gZ_ kZ_ 0 hS4 K2) ?_
  rintro _ w_4 ⟨rfl, hS5⟩
  refine sQ 5 (yg (.bool false)) (rn (ct_ ?_))
  obtain ⟨rfl, rfl⟩ := pr2 (sI hF1)
  exact ret2 Tryz.results103 (v1 := gZ_) (resAt_cellA (B := aD b1) (i := 0) (cs := kZ_) (vs := kZ_) rfl K5 K2 (hS5.c 1) rfl rfl) (v2 := .bool false) (resAt_tmp rfl) ⟨rfl, (hS5.sN [])⟩
 ·skip
  have hF2 := cf' hF hb
  refine cw_skip (cq ?_)
  obtain ⟨z, hz, hF3⟩ := bI hF2
  refine cw_block ?_
  refine cw_loop (fun k f w => ∃ (exp1 : Int) (A : Int) (B : Int) (C : Int) (D : Int), FF f [(1, vi exp1), (2, pt (aD b) 0), (4, pt (aD b1) 0)] ∧ ST w0 [] w [⟨aD b, 89, [vi A, vi B, vi C, vi D], 4⟩, ⟨aD b1, 91, kZ_, 5⟩] [] ∧ whX F_impl_DyadicOf_l1 k (exp1, A, B, C, D) = some z) fuel ⟨exp, num.A, num.B, num.C, num.D, (fc rfl (fc rfl (fc rfl fn_))), (hS4.sel [0, 1] rfl rfl), hz⟩ ?_
  rintro k_ f w ⟨exp1, A, B, C, D, hf, hS6, hL⟩
  obtain ⟨K7, y, rfl, hb1, hL1⟩ := whX_go hL
  unfold F_impl_DyadicOf_l1 at hb1
  refine cq (cq (cr ?_))
  refine sQ 15 (ym (vi exp1) rfl (hf.g 1 0)) <| sQ 16 (Y_gt (k := .i64) (a := exp1) (b := 0) rfl rfl rfl) <| sQ 17 (ym (.bool (decide (0 < exp1)))) ?_
  refine sgq 18 (B := (decide (0 < exp1))) (v := .agg #[vi A, vi B, vi C, vi D]) rfl rfl (uT_ 17) (fun hg3 => (yb (aD b) 0 [vi A, vi B, vi C, vi D] K6 K3 (hS6.c 0) rfl (hf.g 2 1))) ?_
  obtain ⟨r_4, hc2, hb1⟩ := bI hb1
  refine sgc 19 (B := (decide (0 < exp1))) (v := .bool r_4) (F := hS6.fn) rfl rfl (uT_ 17) hS6 (fun hg4 => (yC [.agg #[vi A, vi B, vi C, vi D]] K98 (CV.mono (c_impl_isEven (TRing.mk A B C D) _  (hS6.inn0 [] rfl) (gb_inv hc2 hg4)) (by rintro _ _ ⟨rfl, h⟩; exact ⟨rfl, hS6.out00 h⟩)) rfl (mc (gv_of (v := .agg #[vi A, vi B, vi C, vi D]) hg4) mn))) ?_
  rintro w_5 hS7
  refine sQ 20 (Y_and (b := (decide (0 < exp1))) (z := r_4) rfl rfl rfl rfl) (rn ?_)
  refine cw_cond (b := ((decide (0 < exp1)) && r_4)) rfl (fun hb2 => ?_) (fun hb2 => ?_)
  ·skip
   have hF4 := ct hb1 hb2
   refine cw_skip (cw_block (cq (cr ?_)))
   refine sQ 22 (yb (aD b) 0 [vi A, vi B, vi C, vi D] K6 K3 (hS7.c 0) rfl (hf.g 2 1)) ?_
   obtain ⟨⟨r_5, r_6⟩, hc3, hF4⟩ := bI hF4
   refine sc 23 rfl rfl (yC [.agg #[vi A, vi B, vi C, vi D]] k_call_122 (c_impl_DivRootTwo (TRing.mk A B C D) _  (hS7.inn0 [] rfl) hc3)) ?_
   rintro _ w_6 ⟨rfl, hd1⟩
   have hS8 := hS7.out00 hd1
   refine sQ 21 (ym (.tuple #[gR_ r_5, .bool r_6])) <| sQ 24 (ye (gR_ r_5)) <| sQ 25 (ye (.bool r_6)) ?_
   refine s0 (yT 0 4 (aD b) 89 (gR_ r_5) (kR_ r_5) 0 hS8 K3 rfl (hf.g 2 1)) ?_
   rintro _ w_7 ⟨rfl, hS9⟩
   refine rn (cr ?_)
   refine sQ 26 (ym (vi exp1) rfl (hf.g 1 0)) <| sQ 27 (yM exp1 1) <| sQ 1 (yg (vi (i64.wrap (exp1 - 1)))) (rn ?_)
   obtain rfl := sI hF4
   exact ⟨K7, Nat.lt_succ_self _, (i64.wrap (exp1 - 1)), r_5.A, r_5.B, r_5.C, r_5.D, (fc rfl (fc (hf.g 2 1) (fc (hf.g 4 2) fn_))), (hS9.sel [0, 1] rfl rfl), hL1⟩
  ·skip
   have hF5 := cf' hb1 hb2
   refine cw_exit rfl ?_
   obtain rfl := sI hF5
   obtain rfl := sI hL1
   refine cq (cr ?_)
   refine sQ 28 (yb (aD b) 0 [vi A, vi B, vi C, vi D] K6 K3 (hS7.c 0) rfl (hf.g 2 1)) <| sQ 29 (ym (vi exp1) rfl (hf.g 1 0)) <| sQ 30 (Y_buildS (zs := kZ_) (vs := [(0, .agg #[vi A, vi B, vi C, vi D]), (1, vi exp1)]) (cs := [vi A, vi B, vi C, vi D, vi exp1]) K22 K8 rfl (mpc rfl (mpc rfl mpn)) rfl) ?_
   refine s0 (yT 1 5 (aD b1) 91 (.agg #[vi A, vi B, vi C, vi D, vi exp1]) [vi A, vi B, vi C, vi D, vi exp1] 0 hS7 K2 rfl (hf.g 4 2)) ?_
   rintro _ w_8 ⟨rfl, hS10⟩
   refine sQ 5 (yg (.bool true)) (rn (ct_ ?_))
   obtain ⟨rfl, rfl⟩ := pr2 (sI hF3)
   exact ret2 Tryz.results103 (v1 := .agg #[vi A, vi B, vi C, vi D, vi exp1]) (resAt_cellA (B := aD b1) (i := 0) (cs := [vi A, vi B, vi C, vi D, vi exp1]) (vs := [vi A, vi B, vi C, vi D, vi exp1]) (hf.g 4 2) K5 K2 (hS10.c 1) rfl rfl) (v2 := .bool true) (resAt_tmp rfl) ⟨rfl, (hS10.sN [])⟩

theorem c_impl_MulDyadic (x : TDyadic) (y : TDyadic)  (w0 : World)  (hS : ST w0 [] w0 [] []) {r_ : TDyadic} {r_1 : Bool} (hF : F_impl_MulDyadic x y = some (r_, r_1)) :
  CV Tryz.prog 71 #[gD_ x, gD_ y] w0 (fun v w' => v = .tuple #[gD_ r_, .bool r_1] ∧ ST w0 [] w' [] []) := by
 unfold F_impl_MulDyadic at hF
 refine cv_of_cw 38 Tryz.func71 rfl Tryz.ntmps71 rfl ?_
 refine cq (cr ?_)
 refine sS 2 (yB 91 (gD_ x) (kD_ x) 5 hS) ?_
 rintro _ w_ ⟨b, rfl, hS1⟩
 refine sS 3 (yB 91 (gD_ y) (kD_ y) 5 hS1) ?_
 rintro _ w_1 ⟨b1, rfl, hS2⟩
 refine sS 4 (yN kZ_ 5 hS2 K8) ?_
 rintro _ w_2 ⟨b2, rfl, hS3⟩
 refine sQ 5 (yg (.bool false)) (rn (cq (cr ?_)))
 refine sQ 9 (yd (aD b) 0 3 K32 K3) <| sQ 10 (ya (aD b) 0 (kD_ x) (kR_ x.Num) K6 K3 (hS3.c 0)) <| sQ 11 (yd (aD b1) 0 3 K32 K3) <| sQ 12 (ya (aD b1) 0 (kD_ y) (kR_ y.Num) K6 K3 (hS3.c 1)) ?_
 obtain ⟨⟨r_2, r_3⟩, hc, hF⟩ := bI hF
 refine sc 13 rfl rfl (yC [gR_ x.Num, gR_ y.Num] k_call_102 (c_impl_MulRing x.Num y.Num _  (hS3.inn0 [] rfl) hc)) ?_
 rintro _ w_3 ⟨rfl, hd⟩
 have hS4 := hS3.out00 hd
 refine sQ 8 (ym (.tuple #[gR_ r_2, .bool r_3])) <| sQ 14 (ye (gR_ r_2)) <| sQ 15 (ye (.bool r_3)) ?_
 refine sS 6 (yN [vi 0, vi 0, vi 0, vi 0] 4 hS4 K12) ?_
 rintro _ w_4 ⟨b3, rfl, hS5⟩
 refine s0 (yT 3 4 (aD b3) 89 (gR_ r_2) (kR_ r_2) 0 hS5 K3) ?_
 rintro _ w_5 ⟨rfl, hS6⟩
 refine sQ 7 (yg (.bool r_3)) (rn (cq (cq (cr ?_))))
 refine sQ 16 (yb (aD b) 0 (kD_ x) K5 K2 (hS6.c 0)) ?_
 obtain ⟨r_4, hc1, hF⟩ := bI hF
 refine sc 17 rfl rfl (yC [gD_ x] K65 (c_impl_IsValidDyadic x _  (hS6.inn0 [] rfl) hc1)) ?_
 rintro _ w_6 ⟨rfl, hd1⟩
 have hS7 := hS6.out00 hd1
 refine sQ 18 (Y_not (p := r_4) rfl rfl) <| sQ 19 (ym (.bool (!r_4))) ?_
 refine sgq 20 (B := (!(!r_4))) (v := gD_ y) rfl rfl (uF_ 19) (fun hg => (yb (aD b1) 0 (kD_ y) K5 K2 (hS7.c 1))) ?_
 obtain ⟨r_5, hc2, hF⟩ := bI hF
 refine sgc 21 (B := (!(!r_4))) (v := .bool r_5) (F := hS7.fn) rfl rfl (uF_ 19) hS7 (fun hg1 => (yC [gD_ y] K65 (CV.mono (c_impl_IsValidDyadic y _  (hS7.inn0 [] rfl) (gb_inv hc2 hg1)) (by rintro _ _ ⟨rfl, h⟩; exact ⟨rfl, hS7.out00 h⟩)) rfl (mc (gv_of (v := gD_ y) hg1) mn))) ?_
 rintro w_7 hS8
 refine sgq 22 (B := (!(!r_4))) (v := .bool (!r_5)) rfl rfl (uF_ 19) (fun hg2 => (Y_not (p := r_5) rfl (gv_of (v := .bool r_5) hg2))) ?_
 refine sQ 23 (Y_or (b := (!r_4)) (z := (!r_5)) rfl rfl rfl rfl) <| sQ 24 (ym (.bool ((!r_4) || (!r_5)))) ?_
 refine sgq 25 (B := (!((!r_4) || (!r_5)))) (v := .bool r_3) rfl rfl (uF_ 24) (fun hg3 => (ym (.bool r_3))) ?_
 refine sgq 26 (B := (!((!r_4) || (!r_5)))) (v := .bool (!r_3)) rfl rfl (uF_ 24) (fun hg4 => (Y_not (p := r_3) rfl (gv_of (v := .bool r_3) hg4))) ?_
 refine sQ 27 (Y_or (b := ((!r_4) || (!r_5))) (z := (!r_3)) rfl rfl rfl rfl) (rn ?_)
 refine cw_cond (b := (((!r_4) || (!r_5)) || (!r_3))) rfl (fun hb => ?_) (fun hb => ?_)
 ·skip
  have hF1 := ct hF hb
  refine cq (cr ?_)
  refine sQ 28 (Y_buildS (zs := kZ_) (vs := []) (cs := kZ_) K22 K8 rfl mpn rfl) ?_
  refine s0 (yT 2 5 (aD b2) 91 gZ_ kZ_ 0 hS8 K2) ?_
  rintro _ w_8 ⟨rfl, hS9⟩
  refine sQ 5 (yg (.bool false)) (rn (ct_ ?_))
  obtain ⟨rfl, rfl⟩ := pr2 (sI hF1)
  exact ret2 Tryz.results71 (v1 := gZ_) (resAt_cellA (B := aD b2) (i := 0) (cs := kZ_) (vs := kZ_) rfl K5 K2 (hS9.c 2) rfl rfl) (v2 := .bool false) (resAt_tmp rfl) ⟨rfl, (hS9.sN [])⟩
 ·skip
  have hF2 := cf' hF hb
  refine cw_skip (cq (cr ?_))
  refine sQ 29 (yb (aD b3) 0 (kR_ r_2) K6 K3 (hS8.c 3)) <| sQ 30 (yd (aD b) 0 0 K29 K1) <| sQ 31 (yl (aD b) 4 (kD_ x) (vi x.Exp) K0 (hS8.c 0)) <| sQ 32 (yd (aD b1) 0 0 K29 K1) <| sQ 33 (yl (aD b1) 4 (kD_ y) (vi y.Exp) K0 (hS8.c 1)) <| sQ 34 (yP x.Exp y.Exp) ?_
  obtain ⟨⟨r_6, r_7⟩, hc3, hF2⟩ := bI hF2
  refine sc 35 rfl rfl (yC [gR_ r_2, vi (i64.wrap (x.Exp + y.Exp))] k_call_103 (c_impl_DyadicOf r_2 (i64.wrap (x.Exp + y.Exp)) _  (hS8.inn0 [] rfl) hc3)) ?_
  rintro _ w_9 ⟨rfl, hd2⟩
  have hS10 := hS8.out00 hd2
  refine sQ 36 (ye (gD_ r_6)) <| sQ 37 (ye (.bool r_7)) ?_
  refine s0 (yT 2 5 (aD b2) 91 (gD_ r_6) (kD_ r_6) 0 hS10 K2) ?_
  rintro _ w_10 ⟨rfl, hS11⟩
  refine sQ 5 (yg (.bool r_7)) (rn (ct_ ?_))
  obtain ⟨rfl, rfl⟩ := pr2 (sI hF2)
  exact ret2 Tryz.results71 (v1 := gD_ r_6) (resAt_cellA (B := aD b2) (i := 0) (cs := kD_ r_6) (vs := kD_ r_6) rfl K5 K2 (hS11.c 2) rfl rfl) (v2 := .bool r_7) (resAt_tmp rfl) ⟨rfl, (hS11.sN [])⟩

theorem c_impl_Matrix_at (m : TMatrix) (i : Int) (j : Int) (B : Option Addr) (c n : Nat) (w0 : World) (hn : m.Cells.length = n) (hS : ST w0 [] w0 [] [⟨B, (m.Cells.flatMap eN1)⟩]) {r_ : TDyadic} (hF : F_impl_Matrix_at m i j = some r_) :
  CV Tryz.prog 72 #[.agg #[vi m.Rows, vi m.Cols, .slice B n c], vi i, vi j] w0 (fun v w' => v = (gD_ r_) ∧ ST w0 [] w' [] []) := by
 subst hn
 unfold F_impl_Matrix_at at hF
 refine cv_of_cw 17 Tryz.func72 rfl Tryz.ntmps72 rfl ?_
 refine cq (cr ?_)
 refine sS 3 (yB 50 (gM_ m B c) (kM_ m B c) 3 hS) ?_
 rintro _ w_ ⟨b, rfl, hS1⟩
 refine sS 6 (yN kZ_ 5 hS1 K8) ?_
 rintro _ w_1 ⟨b1, rfl, hS2⟩
 refine rn (cq (cr ?_))
 refine sQ 7 (yd (aD b) 0 0 K28 K24) <| sQ 8 (yl (aD b) 2 (kM_ m B c) (.slice B m.Cells.length c) K34 (hS2.c 0)) <| sQ 9 (ym (vi i)) <| sQ 10 (yd (aD b) 0 0 K36 K1) <| sQ 11 (yl (aD b) 1 (kM_ m B c) (vi m.Cols) K0 (hS2.c 0)) <| sQ 12 (yX i m.Cols) ?_
 refine sQ 13 (ym (vi j)) <| sQ 14 (yP (i64.wrap (i * m.Cols)) j) ?_
 obtain ⟨x, hx, hF⟩ := bI hF
 refine sQ 15 (Y_index (B := B) (m := m.Cells.length) (c := c) (k := .i64) (i := (i64.wrap ((i64.wrap (i * m.Cols)) + j))) K21 K2 rfl rfl rfl (gi_isSome enc_Dyadic_len rfl (hS2.rf (i := 0) rfl) hx) (getI_nn hx) (getI_ltI hx rfl)) <| sQ 16 (ya B ((i64.wrap ((i64.wrap (i * m.Cols)) + j)).toNat * 5) (m.Cells.flatMap eN1) (kD_ x) K5 K2 (hS2.rf (i := 0) rfl) rfl rfl (enc_Dyadic_len x) (gi_seg enc_Dyadic_len hx)) ?_
 refine s0 (yT 1 5 (aD b1) 91 (gD_ x) (kD_ x) 0 hS2 K2) ?_
 rintro _ w_2 ⟨rfl, hS3⟩
 refine rn (ct_ ?_)
 obtain rfl := sI hF
 exact ret1 Tryz.results72 (v1 := gD_ x) (resAt_cellA (B := aD b1) (i := 0) (cs := kD_ x) (vs := kD_ x) rfl K5 K2 (hS3.c 1) rfl rfl) ⟨rfl, (hS3.sN [])⟩

theorem c_impl_MulRootTwo (x : TRing)  (w0 : World)  (hS : ST w0 [] w0 [] []) {r_ : TRing} {r_1 : Bool} (hF : F_impl_MulRootTwo x = some (r_, r_1)) :
  CV Tryz.prog 132 #[gR_ x] w0 (fun v w' => v = .tuple #[gR_ r_, .bool r_1] ∧ ST w0 [] w' [] []) := by
 unfold F_impl_MulRootTwo at hF
 refine cv_of_cw 30 Tryz.func132 rfl Tryz.ntmps132 rfl ?_
 refine cq (cr ?_)
 refine sS 1 (yB 89 (gR_ x) (kR_ x) 4 hS) ?_
 rintro _ w_ ⟨b, rfl, hS1⟩
 refine sS 2 (yN [vi 0, vi 0, vi 0, vi 0] 4 hS1 K12) ?_
 rintro _ w_1 ⟨b1, rfl, hS2⟩
 refine sQ 3 (yg (.bool false)) (rn (cq (cr ?_)))
 refine sQ 4 (yd (aD b) 0 0 K16 K1) <| sQ 5 (yl (aD b) 1 (kR_ x) (vi x.B) K0 (hS2.c 0)) <| sQ 6 (yd (aD b) 0 0 K15 K1) <| sQ 7 (yl (aD b) 3 (kR_ x) (vi x.D) K0 (hS2.c 0)) <| sQ 8 (yM x.B x.D) <| sQ 9 (yd (aD b) 0 0 K14 K1) ?_
 refine sQ 10 (yl (aD b) 0 (kR_ x) (vi x.A) K0 (hS2.c 0)) <| sQ 11 (yd (aD b) 0 0 K17 K1) <| sQ 12 (yl (aD b) 2 (kR_ x) (vi x.C) K0 (hS2.c 0)) <| sQ 13 (yP x.A x.C) <| sQ 14 (yd (aD b) 0 0 K16 K1) <| sQ 15 (yl (aD b) 1 (kR_ x) (vi x.B) K0 (hS2.c 0)) ?_
 refine sQ 16 (yd (aD b) 0 0 K15 K1) <| sQ 17 (yl (aD b) 3 (kR_ x) (vi x.D) K0 (hS2.c 0)) <| sQ 18 (yP x.B x.D) <| sQ 19 (yd (aD b) 0 0 K17 K1) <| sQ 20 (yl (aD b) 2 (kR_ x) (vi x.C) K0 (hS2.c 0)) <| sQ 21 (yd (aD b) 0 0 K14 K1) ?_
 refine sQ 22 (yl (aD b) 0 (kR_ x) (vi x.A) K0 (hS2.c 0)) <| sQ 23 (yM x.C x.A) <| sQ 24 (Y_buildS (zs := [vi 0, vi 0, vi 0, vi 0]) (vs := [(0, vi (i64.wrap (x.B - x.D))), (1, vi (i64.wrap (x.A + x.C))), (2, vi (i64.wrap (x.B + x.D))), (3, vi (i64.wrap (x.C - x.A)))]) (cs := [vi (i64.wrap (x.B - x.D)), vi (i64.wrap (x.A + x.C)), vi (i64.wrap (x.B + x.D)), vi (i64.wrap (x.C - x.A))]) K30 K12 rfl (mpc rfl (mpc rfl (mpc rfl (mpc rfl mpn)))) rfl) <| sQ 25 (yb (aD b) 0 (kR_ x) K6 K3 (hS2.c 0)) ?_
 refine sS 26 (Ys_bslice (s := 4) (len := 1) (vs := [(0, gR_ x)]) (cs := kR_ x) (zs := [vi 0, vi 0, vi 0, vi 0]) (m := 4) hS2 K58 K3 K77 rfl (mpc rfl mpn) rfl rfl rfl (by kernel_rfl) (by kernel_rfl) rfl) ?_
 rintro _ w_2 ⟨b2, rfl, hS3⟩
 obtain ⟨⟨r_2, r_3⟩, hc, hF⟩ := bI hF
 refine sc 27 rfl rfl (yC [.agg #[vi (i64.wrap (x.B - x.D)), vi (i64.wrap (x.A + x.C)), vi (i64.wrap (x.B + x.D)), vi (i64.wrap (x.C - x.A))], .slice (aD b2) 1 1] K85 (c_impl_ringIf (TRing.mk (i64.wrap (x.B - x.D)) (i64.wrap (x.A + x.C)) (i64.wrap (x.B + x.D)) (i64.wrap (x.C - x.A))) [x] (aD b2) 1 1 _ rfl (hS3.inn [false, false, true] rfl [] rfl) hc)) ?_
 rintro _ w_3 ⟨rfl, hd⟩
 have hS4 := hS3.out [false, false, true] rfl hd
 refine sQ 28 (ye (gR_ r_2)) <| sQ 29 (ye (.bool r_3)) ?_
 refine s0 (yT 1 4 (aD b1) 89 (gR_ r_2) (kR_ r_2) 0 hS4 K3) ?_
 rintro _ w_4 ⟨rfl, hS5⟩
 refine sQ 3 (yg (.bool r_3)) (rn (ct_ ?_))
 obtain ⟨rfl, rfl⟩ := pr2 (sI hF)
 exact ret2 Tryz.results132 (v1 := gR_ r_2) (resAt_cellA (B := aD b1) (i := 0) (cs := kR_ r_2) (vs := kR_ r_2) rfl K6 K3 (hS5.c 1) rfl rfl) (v2 := .bool r_3) (resAt_tmp rfl) ⟨rfl, (hS5.sN [])⟩

theorem c_impl_raised (x : TDyadic) (exp : Int)  (w0 : World)  (hS : ST w0 [] w0 [] []) {r_ : TRing} {r_1 : Bool} (hF : F_impl_raised x exp = some (r_, r_1)) :
  CV Tryz.prog 123 #[gD_ x, vi exp] w0 (fun v w' => v = .tuple #[gR_ r_, .bool r_1] ∧ ST w0 [] w' [] []) := by
 unfold F_impl_raised at hF
 refine cv_of_cw 28 Tryz.func123 rfl Tryz.ntmps123 rfl ?_
 refine cq (cr ?_)
 refine sS 2 (yB 91 (gD_ x) (kD_ x) 5 hS) ?_
 rintro _ w_ ⟨b, rfl, hS1⟩
 refine sS 4 (yN [vi 0, vi 0, vi 0, vi 0] 4 hS1 K12) ?_
 rintro _ w_1 ⟨b1, rfl, hS2⟩
 refine sQ 5 (yg (.bool false)) (rn (cq (cr ?_)))
 refine sQ 9 (yd (aD b) 0 3 K32 K3) <| sQ 10 (ya (aD b) 0 (kD_ x) (kR_ x.Num) K6 K3 (hS2.c 0)) ?_
 refine sS 6 (yN [vi 0, vi 0, vi 0, vi 0] 4 hS2 K12) ?_
 rintro _ w_2 ⟨b2, rfl, hS3⟩
 refine s0 (yT 2 4 (aD b2) 89 (gR_ x.Num) (kR_ x.Num) 0 hS3 K3) ?_
 rintro _ w_3 ⟨rfl, hS4⟩
 refine sQ 7 (yg (.bool true)) (rn (cq (cq (cr ?_))))
 refine sQ 11 (yd (aD b) 0 0 K29 K1) <| sQ 12 (yl (aD b) 4 (kD_ x) (vi x.Exp) K0 (hS4.c 0)) <| sQ 8 (yg (vi x.Exp)) (rn ?_)
 obtain ⟨z, hz, hF1⟩ := bI hF
 refine cw_block ?_
 refine cw_loop (fun k f w => ∃ (A : Int) (B : Int) (C : Int) (D : Int) (ok : Bool) (k_ : Int), FF f [(1, vi exp), (4, pt (aD b1) 0), (6, pt (aD b2) 0), (7, .bool ok), (8, vi k_)] ∧ ST w0 [] w [⟨aD b1, 89, [vi 0, vi 0, vi 0, vi 0], 4⟩, ⟨aD b2, 89, [vi A, vi B, vi C, vi D], 4⟩] [] ∧ whX (F_impl_raised_l1 exp) k (A, B, C, D, ok, k_) = some z) fuel ⟨x.Num.A, x.Num.B, x.Num.C, x.Num.D, true, x.Exp, (fc rfl (fc rfl (fc rfl (fc rfl (fc rfl fn_))))), (hS4.sel [1, 2] rfl rfl), hz⟩ ?_
 rintro K7 f w ⟨A, B, C, D, ok, k_, hf, hS5, hL⟩
 obtain ⟨K23, y, rfl, hb, hL1⟩ := whX_go hL
 unfold F_impl_raised_l1 at hb
 refine cq (cq (cr ?_))
 refine sQ 13 (ym (vi k_) rfl (hf.g 8 4)) <| sQ 14 (ym (vi exp) rfl (hf.g 1 0)) <| sQ 15 (yL k_ exp) <| sQ 16 (ym (.bool (decide (k_ < exp)))) ?_
 refine sgq 17 (B := (decide (k_ < exp))) (v := .bool ok) rfl rfl (uT_ 16) (fun hg => (ym (.bool ok) rfl (hf.g 7 3))) ?_
 refine sQ 18 (Y_and (b := (decide (k_ < exp))) (z := ok) rfl rfl rfl rfl) (rn ?_)
 refine cw_cond (b := ((decide (k_ < exp)) && ok)) rfl (fun hb1 => ?_) (fun hb1 => ?_)
 ·skip
  have hF2 := ct hb hb1
  refine cw_skip (cq (cw_block (cr ?_)))
  refine sQ 22 (yb (aD b2) 0 [vi A, vi B, vi C, vi D] K6 K3 (hS5.c 1) rfl (hf.g 6 2)) ?_
  obtain ⟨⟨r_2, r_3⟩, hc, hF2⟩ := bI hF2
  refine sc 23 rfl rfl (yC [.agg #[vi A, vi B, vi C, vi D]] k_call_132 (c_impl_MulRootTwo (TRing.mk A B C D) _  (hS5.inn0 [] rfl) hc)) ?_
  rintro _ w_4 ⟨rfl, hd⟩
  have hS6 := hS5.out00 hd
  refine sQ 21 (ym (.tuple #[gR_ r_2, .bool r_3])) <| sQ 24 (ye (gR_ r_2)) <| sQ 25 (ye (.bool r_3)) ?_
  refine s0 (yT 1 4 (aD b2) 89 (gR_ r_2) (kR_ r_2) 0 hS6 K3 rfl (hf.g 6 2)) ?_
  rintro _ w_5 ⟨rfl, hS7⟩
  refine sQ 7 (yg (.bool r_3)) (rn (cr ?_))
  refine sQ 19 (ym (vi k_) rfl (hf.g 8 4)) <| sQ 20 (yP k_ 1) <| sQ 8 (yg (vi (i64.wrap (k_ + 1)))) (rn ?_)
  obtain rfl := sI hF2
  exact ⟨K23, Nat.lt_succ_self _, r_2.A, r_2.B, r_2.C, r_2.D, r_3, (i64.wrap (k_ + 1)), (fc (hf.g 1 0) (fc (hf.g 4 1) (fc (hf.g 6 2) (fc rfl (fc rfl fn_))))), (hS7.sel [0, 1] rfl rfl), hL1⟩
 ·skip
  have hF3 := cf' hb hb1
  refine cw_exit rfl ?_
  obtain rfl := sI hF3
  obtain rfl := sI hL1
  refine cq (cr ?_)
  refine sQ 26 (yb (aD b2) 0 [vi A, vi B, vi C, vi D] K6 K3 (hS5.c 1) rfl (hf.g 6 2)) <| sQ 27 (ym (.bool ok) rfl (hf.g 7 3)) ?_
  refine s0 (yT 0 4 (aD b1) 89 (.agg #[vi A, vi B, vi C, vi D]) [vi A, vi B, vi C, vi D] 0 hS5 K3 rfl (hf.g 4 1)) ?_
  rintro _ w_6 ⟨rfl, hS8⟩
  refine sQ 5 (yg (.bool ok)) (rn (ct_ ?_))
  obtain ⟨rfl, rfl⟩ := pr2 (sI hF1)
  exact ret2 Tryz.results123 (v1 := .agg #[vi A, vi B, vi C, vi D]) (resAt_cellA (B := aD b1) (i := 0) (cs := [vi A, vi B, vi C, vi D]) (vs := [vi A, vi B, vi C, vi D]) (hf.g 4 1) K6 K3 (hS8.c 0) rfl rfl) (v2 := .bool ok) (resAt_tmp rfl) ⟨rfl, (hS8.sN [])⟩

theorem c_impl_combined (x : TDyadic) (y : TDyadic) (operation : TRing → TRing → Option (TRing × Bool)) (kf : Nat) (caps : Array Value) (Rf : List Ro) (w0 : World) (hk : callB Tryz.prog kf = true) (hp : ∀ (w : World), ST w [] w [] Rf → ∀ (x1 : TRing) (x2 : TRing) (y2 : TRing) (y3 : Bool), operation x1 x2 = some (y2, y3) → CV Tryz.prog kf ((gR_ x1) :: (gR_ x2) :: caps.toList).toArray w (fun v w' => v = .tuple #[gR_ y2, .bool y3] ∧ ST w [] w' [] [])) (hS : ST w0 [] w0 [] (Rf)) {r_ : TDyadic} {r_1 : Bool} (hF : F_impl_combined x y operation = some (r_, r_1)) :
  CV Tryz.prog 104 #[gD_ x, gD_ y, .func (.func kf) #[] caps] w0 (fun v w' => v = .tuple #[gD_ r_, .bool r_1] ∧ ST w0 [] w' [] []) := by
 unfold F_impl_combined at hF
 refine cv_of_cw 64 Tryz.func104 rfl Tryz.ntmps104 rfl ?_
 refine cq (cr ?_)
 refine sS 3 (yB 91 (gD_ x) (kD_ x) 5 hS) ?_
 rintro _ w_ ⟨b, rfl, hS1⟩
 refine sS 4 (yB 91 (gD_ y) (kD_ y) 5 hS1) ?_
 rintro _ w_1 ⟨b1, rfl, hS2⟩
 refine sS 6 (yN kZ_ 5 hS2 K8) ?_
 rintro _ w_2 ⟨b2, rfl, hS3⟩
 refine sQ 7 (yg (.bool false)) (rn (cq (cq (cr ?_))))
 refine sQ 15 (yb (aD b) 0 (kD_ x) K5 K2 (hS3.c 0)) ?_
 obtain ⟨r_2, hc, hF⟩ := bI hF
 refine sc 16 rfl rfl (yC [gD_ x] K65 (c_impl_IsValidDyadic x _  (hS3.inn0 [] rfl) hc)) ?_
 rintro _ w_3 ⟨rfl, hd⟩
 have hS4 := hS3.out00 hd
 refine sQ 17 (Y_not (p := r_2) rfl rfl) <| sQ 18 (ym (.bool (!r_2))) ?_
 refine sgq 19 (B := (!(!r_2))) (v := gD_ y) rfl rfl (uF_ 18) (fun hg => (yb (aD b1) 0 (kD_ y) K5 K2 (hS4.c 1))) ?_
 obtain ⟨r_3, hc1, hF⟩ := bI hF
 refine sgc 20 (B := (!(!r_2))) (v := .bool r_3) (F := hS4.fn) rfl rfl (uF_ 18) hS4 (fun hg1 => (yC [gD_ y] K65 (CV.mono (c_impl_IsValidDyadic y _  (hS4.inn0 [] rfl) (gb_inv hc1 hg1)) (by rintro _ _ ⟨rfl, h⟩; exact ⟨rfl, hS4.out00 h⟩)) rfl (mc (gv_of (v := gD_ y) hg1) mn))) ?_
 rintro w_4 hS5
 refine sgq 21 (B := (!(!r_2))) (v := .bool (!r_3)) rfl rfl (uF_ 18) (fun hg2 => (Y_not (p := r_3) rfl (gv_of (v := .bool r_3) hg2))) ?_
 refine sQ 22 (Y_or (b := (!r_2)) (z := (!r_3)) rfl rfl rfl rfl) (rn ?_)
 refine cw_cond (b := ((!r_2) || (!r_3))) rfl (fun hb => ?_) (fun hb => ?_)
 ·skip
  have hF1 := ct hF hb
  refine cq (cr ?_)
  refine sQ 23 (Y_buildS (zs := kZ_) (vs := []) (cs := kZ_) K22 K8 rfl mpn rfl) ?_
  refine s0 (yT 2 5 (aD b2) 91 gZ_ kZ_ 0 hS5 K2) ?_
  rintro _ w_5 ⟨rfl, hS6⟩
  refine sQ 7 (yg (.bool false)) (rn (ct_ ?_))
  obtain ⟨rfl, rfl⟩ := pr2 (sI hF1)
  exact ret2 Tryz.results104 (v1 := gZ_) (resAt_cellA (B := aD b2) (i := 0) (cs := kZ_) (vs := kZ_) rfl K5 K2 (hS6.c 2) rfl rfl) (v2 := .bool false) (resAt_tmp rfl) ⟨rfl, (hS6.sN [])⟩
 ·skip
  have hF2 := cf' hF hb
  refine cw_skip (cq (cr ?_))
  refine sQ 24 (yd (aD b) 0 0 K29 K1) <| sQ 25 (yl (aD b) 4 (kD_ x) (vi x.Exp) K0 (hS5.c 0)) <| sQ 26 (yd (aD b1) 0 0 K29 K1) <| sQ 27 (yl (aD b1) 4 (kD_ y) (vi y.Exp) K0 (hS5.c 1)) <| sQ 28 (Y_max2 (k := .i64) (a := x.Exp) (b := y.Exp) rfl rfl rfl) <| sQ 8 (yg (vi (if x.Exp < y.Exp then y.Exp else x.Exp))) (rn (cq (cr ?_)))
  refine sQ 30 (yb (aD b) 0 (kD_ x) K5 K2 (hS5.c 0)) <| sQ 31 (ym (vi (if x.Exp < y.Exp then y.Exp else x.Exp))) ?_
  obtain ⟨⟨r_4, r_5⟩, hc2, hF2⟩ := bI hF2
  refine sc 32 rfl rfl (yC [gD_ x, vi (if x.Exp < y.Exp then y.Exp else x.Exp)] k_call_123 (c_impl_raised x (if x.Exp < y.Exp then y.Exp else x.Exp) _  (hS5.inn0 [] rfl) hc2)) ?_
  rintro _ w_6 ⟨rfl, hd1⟩
  have hS7 := hS5.out00 hd1
  refine sQ 29 (ym (.tuple #[gR_ r_4, .bool r_5])) <| sQ 33 (ye (gR_ r_4)) <| sQ 34 (ye (.bool r_5)) ?_
  refine sS 9 (yN [vi 0, vi 0, vi 0, vi 0] 4 hS7 K12) ?_
  rintro _ w_7 ⟨b3, rfl, hS8⟩
  refine s0 (yT 3 4 (aD b3) 89 (gR_ r_4) (kR_ r_4) 0 hS8 K3) ?_
  rintro _ w_8 ⟨rfl, hS9⟩
  refine sQ 10 (yg (.bool r_5)) (rn (cq (cr ?_)))
  refine sQ 36 (yb (aD b1) 0 (kD_ y) K5 K2 (hS9.c 1)) <| sQ 37 (ym (vi (if x.Exp < y.Exp then y.Exp else x.Exp))) ?_
  obtain ⟨⟨r_6, r_7⟩, hc3, hF2⟩ := bI hF2
  refine sc 38 rfl rfl (yC [gD_ y, vi (if x.Exp < y.Exp then y.Exp else x.Exp)] k_call_123 (c_impl_raised y (if x.Exp < y.Exp then y.Exp else x.Exp) _  (hS9.inn0 [] rfl) hc3)) ?_
  rintro _ w_9 ⟨rfl, hd2⟩
  have hS10 := hS9.out00 hd2
  refine sQ 35 (ym (.tuple #[gR_ r_6, .bool r_7])) <| sQ 39 (ye (gR_ r_6)) <| sQ 40 (ye (.bool r_7)) ?_
  refine sS 11 (yN [vi 0, vi 0, vi 0, vi 0] 4 hS10 K12) ?_
  rintro _ w_10 ⟨b4, rfl, hS11⟩
  refine s0 (yT 4 4 (aD b4) 89 (gR_ r_6) (kR_ r_6) 0 hS11 K3) ?_
  rintro _ w_11 ⟨rfl, hS12⟩
  refine sQ 12 (yg (.bool r_7)) (rn (cq (cr ?_)))
  refine sQ 42 (ym (.func (.func kf) #[] caps)) <| sQ 43 (yb (aD b3) 0 (kR_ r_4) K6 K3 (hS12.c 3)) <| sQ 44 (yb (aD b4) 0 (kR_ r_6) K6 K3 (hS12.c 4)) ?_
  obtain ⟨⟨r_8, r_9⟩, hc4, hF2⟩ := bI hF2
  refine sc 45 rfl rfl (Yc_clos (g := kf) (vs := (gR_ r_4) :: (gR_ r_6) :: caps.toList) hk rfl rfl (clo_args (mc rfl (mc rfl mn))) (hp _ (hS12.innS (fun _ h => mOd (i := 0) h)) r_4 r_6 r_8 r_9 hc4)) ?_
  rintro _ w_12 ⟨rfl, hd3⟩
  have hS13 := hS12.out00 hd3
  refine sQ 41 (ym (.tuple #[gR_ r_8, .bool r_9])) <| sQ 46 (ye (gR_ r_8)) <| sQ 47 (ye (.bool r_9)) ?_
  refine sS 13 (yN [vi 0, vi 0, vi 0, vi 0] 4 hS13 K12) ?_
  rintro _ w_13 ⟨b5, rfl, hS14⟩
  refine s0 (yT 5 4 (aD b5) 89 (gR_ r_8) (kR_ r_8) 0 hS14 K3) ?_
  rintro _ w_14 ⟨rfl, hS15⟩
  refine sQ 14 (yg (.bool r_9)) (rn (cq (cq (cr ?_))))
  refine sQ 48 (ym (.bool r_5)) <| sQ 49 (Y_not (p := r_5) rfl rfl) <| sQ 50 (ym (.bool (!r_5))) ?_
  refine sgq 51 (B := (!(!r_5))) (v := .bool r_7) rfl rfl (uF_ 50) (fun hg3 => (ym (.bool r_7))) ?_
  refine sgq 52 (B := (!(!r_5))) (v := .bool (!r_7)) rfl rfl (uF_ 50) (fun hg4 => (Y_not (p := r_7) rfl (gv_of (v := .bool r_7) hg4))) ?_
  refine sQ 53 (Y_or (b := (!r_5)) (z := (!r_7)) rfl rfl rfl rfl) <| sQ 54 (ym (.bool ((!r_5) || (!r_7)))) ?_
  refine sgq 55 (B := (!((!r_5) || (!r_7)))) (v := .bool r_9) rfl rfl (uF_ 54) (fun hg5 => (ym (.bool r_9))) ?_
  refine sgq 56 (B := (!((!r_5) || (!r_7)))) (v := .bool (!r_9)) rfl rfl (uF_ 54) (fun hg6 => (Y_not (p := r_9) rfl (gv_of (v := .bool r_9) hg6))) ?_
  refine sQ 57 (Y_or (b := ((!r_5) || (!r_7))) (z := (!r_9)) rfl rfl rfl rfl) (rn ?_)
  refine cw_cond (b := (((!r_5) || (!r_7)) || (!r_9))) rfl (fun hb1 => ?_) (fun hb1 => ?_)
  ·skip
   have hF3 := ct hF2 hb1
   refine cq (cr ?_)
   refine sQ 58 (Y_buildS (zs := kZ_) (vs := []) (cs := kZ_) K22 K8 rfl mpn rfl) ?_
   refine s0 (yT 2 5 (aD b2) 91 gZ_ kZ_ 0 hS15 K2) ?_
   rintro _ w_15 ⟨rfl, hS16⟩
   refine sQ 7 (yg (.bool false)) (rn (ct_ ?_))
   obtain ⟨rfl, rfl⟩ := pr2 (sI hF3)
   exact ret2 Tryz.results104 (v1 := gZ_) (resAt_cellA (B := aD b2) (i := 0) (cs := kZ_) (vs := kZ_) rfl K5 K2 (hS16.c 2) rfl rfl) (v2 := .bool false) (resAt_tmp rfl) ⟨rfl, (hS16.sN [])⟩
  ·skip
   have hF4 := cf' hF2 hb1
   refine cw_skip (cq (cr ?_))
   refine sQ 59 (yb (aD b5) 0 (kR_ r_8) K6 K3 (hS15.c 5)) <| sQ 60 (ym (vi (if x.Exp < y.Exp then y.Exp else x.Exp))) ?_
   obtain ⟨⟨r_10, r_11⟩, hc5, hF4⟩ := bI hF4
   refine sc 61 rfl rfl (yC [gR_ r_8, vi (if x.Exp < y.Exp then y.Exp else x.Exp)] k_call_103 (c_impl_DyadicOf r_8 (if x.Exp < y.Exp then y.Exp else x.Exp) _  (hS15.inn0 [] rfl) hc5)) ?_
   rintro _ w_16 ⟨rfl, hd4⟩
   have hS17 := hS15.out00 hd4
   refine sQ 62 (ye (gD_ r_10)) <| sQ 63 (ye (.bool r_11)) ?_
   refine s0 (yT 2 5 (aD b2) 91 (gD_ r_10) (kD_ r_10) 0 hS17 K2) ?_
   rintro _ w_17 ⟨rfl, hS18⟩
   refine sQ 7 (yg (.bool r_11)) (rn (ct_ ?_))
   obtain ⟨rfl, rfl⟩ := pr2 (sI hF4)
   exact ret2 Tryz.results104 (v1 := gD_ r_10) (resAt_cellA (B := aD b2) (i := 0) (cs := kD_ r_10) (vs := kD_ r_10) rfl K5 K2 (hS18.c 2) rfl rfl) (v2 := .bool r_11) (resAt_tmp rfl) ⟨rfl, (hS18.sN [])⟩

theorem c_impl_AddRing (x : TRing) (y : TRing)  (w0 : World)  (hS : ST w0 [] w0 [] []) {r_ : TRing} {r_1 : Bool} (hF : F_impl_AddRing x y = some (r_, r_1)) :
  CV Tryz.prog 105 #[gR_ x, gR_ y] w0 (fun v w' => v = .tuple #[gR_ r_, .bool r_1] ∧ ST w0 [] w' [] []) := by
 unfold F_impl_AddRing at hF
 refine cv_of_cw 33 Tryz.func105 rfl Tryz.ntmps105 rfl ?_
 refine cq (cr ?_)
 refine sS 2 (yB 89 (gR_ x) (kR_ x) 4 hS) ?_
 rintro _ w_ ⟨b, rfl, hS1⟩
 refine sS 3 (yB 89 (gR_ y) (kR_ y) 4 hS1) ?_
 rintro _ w_1 ⟨b1, rfl, hS2⟩
 refine sS 4 (yN [vi 0, vi 0, vi 0, vi 0] 4 hS2 K12) ?_
 rintro _ w_2 ⟨b2, rfl, hS3⟩
 refine sQ 5 (yg (.bool false)) (rn (cq (cr ?_)))
 refine sQ 6 (yd (aD b) 0 0 K14 K1) <| sQ 7 (yl (aD b) 0 (kR_ x) (vi x.A) K0 (hS3.c 0)) <| sQ 8 (yd (aD b1) 0 0 K14 K1) <| sQ 9 (yl (aD b1) 0 (kR_ y) (vi y.A) K0 (hS3.c 1)) <| sQ 10 (yP x.A y.A) <| sQ 11 (yd (aD b) 0 0 K16 K1) ?_
 refine sQ 12 (yl (aD b) 1 (kR_ x) (vi x.B) K0 (hS3.c 0)) <| sQ 13 (yd (aD b1) 0 0 K16 K1) <| sQ 14 (yl (aD b1) 1 (kR_ y) (vi y.B) K0 (hS3.c 1)) <| sQ 15 (yP x.B y.B) <| sQ 16 (yd (aD b) 0 0 K17 K1) <| sQ 17 (yl (aD b) 2 (kR_ x) (vi x.C) K0 (hS3.c 0)) ?_
 refine sQ 18 (yd (aD b1) 0 0 K17 K1) <| sQ 19 (yl (aD b1) 2 (kR_ y) (vi y.C) K0 (hS3.c 1)) <| sQ 20 (yP x.C y.C) <| sQ 21 (yd (aD b) 0 0 K15 K1) <| sQ 22 (yl (aD b) 3 (kR_ x) (vi x.D) K0 (hS3.c 0)) <| sQ 23 (yd (aD b1) 0 0 K15 K1) ?_
 refine sQ 24 (yl (aD b1) 3 (kR_ y) (vi y.D) K0 (hS3.c 1)) <| sQ 25 (yP x.D y.D) <| sQ 26 (Y_buildS (zs := [vi 0, vi 0, vi 0, vi 0]) (vs := [(0, vi (i64.wrap (x.A + y.A))), (1, vi (i64.wrap (x.B + y.B))), (2, vi (i64.wrap (x.C + y.C))), (3, vi (i64.wrap (x.D + y.D)))]) (cs := [vi (i64.wrap (x.A + y.A)), vi (i64.wrap (x.B + y.B)), vi (i64.wrap (x.C + y.C)), vi (i64.wrap (x.D + y.D))]) K30 K12 rfl (mpc rfl (mpc rfl (mpc rfl (mpc rfl mpn)))) rfl) <| sQ 27 (yb (aD b) 0 (kR_ x) K6 K3 (hS3.c 0)) <| sQ 28 (yb (aD b1) 0 (kR_ y) K6 K3 (hS3.c 1)) ?_
 refine sS 29 (Ys_bslice (s := 4) (len := 2) (vs := [(0, gR_ x), (1, gR_ y)]) (cs := [vi x.A, vi x.B, vi x.C, vi x.D, vi y.A, vi y.B, vi y.C, vi y.D]) (zs := [vi 0, vi 0, vi 0, vi 0, vi 0, vi 0, vi 0, vi 0]) (m := 8) hS3 K58 K3 K77 rfl (mpc rfl (mpc rfl mpn)) rfl rfl rfl (by kernel_rfl) (by kernel_rfl) rfl) ?_
 rintro _ w_3 ⟨b3, rfl, hS4⟩
 obtain ⟨⟨r_2, r_3⟩, hc, hF⟩ := bI hF
 refine sc 30 rfl rfl (yC [.agg #[vi (i64.wrap (x.A + y.A)), vi (i64.wrap (x.B + y.B)), vi (i64.wrap (x.C + y.C)), vi (i64.wrap (x.D + y.D))], .slice (aD b3) 2 2] K85 (c_impl_ringIf (TRing.mk (i64.wrap (x.A + y.A)) (i64.wrap (x.B + y.B)) (i64.wrap (x.C + y.C)) (i64.wrap (x.D + y.D))) [x, y] (aD b3) 2 2 _ rfl (hS4.inn [false, false, false, true] rfl [] rfl) hc)) ?_
 rintro _ w_4 ⟨rfl, hd⟩
 have hS5 := hS4.out [false, false, false, true] rfl hd
 refine sQ 31 (ye (gR_ r_2)) <| sQ 32 (ye (.bool r_3)) ?_
 refine s0 (yT 2 4 (aD b2) 89 (gR_ r_2) (kR_ r_2) 0 hS5 K3) ?_
 rintro _ w_5 ⟨rfl, hS6⟩
 refine sQ 5 (yg (.bool r_3)) (rn (ct_ ?_))
 obtain ⟨rfl, rfl⟩ := pr2 (sI hF)
 exact ret2 Tryz.results105 (v1 := gR_ r_2) (resAt_cellA (B := aD b2) (i := 0) (cs := kR_ r_2) (vs := kR_ r_2) rfl K6 K3 (hS6.c 2) rfl rfl) (v2 := .bool r_3) (resAt_tmp rfl) ⟨rfl, (hS6.sN [])⟩

theorem c_impl_AddDyadic (x : TDyadic) (y : TDyadic)  (w0 : World)  (hS : ST w0 [] w0 [] []) {r_ : TDyadic} {r_1 : Bool} (hF : F_impl_AddDyadic x y = some (r_, r_1)) :
  CV Tryz.prog 73 #[gD_ x, gD_ y] w0 (fun v w' => v = .tuple #[gD_ r_, .bool r_1] ∧ ST w0 [] w' [] []) := by
 unfold F_impl_AddDyadic at hF
 refine cv_of_cw 11 Tryz.func73 rfl Tryz.ntmps73 rfl ?_
 refine cq (cr ?_)
 refine sS 2 (yB 91 (gD_ x) (kD_ x) 5 hS) ?_
 rintro _ w_ ⟨b, rfl, hS1⟩
 refine sS 3 (yB 91 (gD_ y) (kD_ y) 5 hS1) ?_
 rintro _ w_1 ⟨b1, rfl, hS2⟩
 refine sS 4 (yN kZ_ 5 hS2 K8) ?_
 rintro _ w_2 ⟨b2, rfl, hS3⟩
 refine sQ 5 (yg (.bool false)) (rn (cq (cr ?_)))
 refine sQ 6 (yb (aD b) 0 (kD_ x) K5 K2 (hS3.c 0)) <| sQ 7 (yb (aD b1) 0 (kD_ y) K5 K2 (hS3.c 1)) ?_
 obtain ⟨⟨r_2, r_3⟩, hc, hF⟩ := bI hF
 refine sc 8 rfl rfl (yC [gD_ x, gD_ y, .func (.func 105) #[] #[]] k_call_104 (c_impl_combined x y F_impl_AddRing 105 (#[]) [] _ k_call_105 (fun w hw x_0 x_1 y_0 y_1 h_ => c_impl_AddRing x_0 x_1  w  hw h_) (hS3.inn0 [] rfl) hc)) ?_
 rintro _ w_3 ⟨rfl, hd⟩
 have hS4 := hS3.out00 hd
 refine sQ 9 (ye (gD_ r_2)) <| sQ 10 (ye (.bool r_3)) ?_
 refine s0 (yT 2 5 (aD b2) 91 (gD_ r_2) (kD_ r_2) 0 hS4 K2) ?_
 rintro _ w_4 ⟨rfl, hS5⟩
 refine sQ 5 (yg (.bool r_3)) (rn (ct_ ?_))
 obtain ⟨rfl, rfl⟩ := pr2 (sI hF)
 exact ret2 Tryz.results73 (v1 := gD_ r_2) (resAt_cellA (B := aD b2) (i := 0) (cs := kD_ r_2) (vs := kD_ r_2) rfl K5 K2 (hS5.c 2) rfl rfl) (v2 := .bool r_3) (resAt_tmp rfl) ⟨rfl, (hS5.sN [])⟩

theorem c_impl_MulMatrix_1 (i : Int) (j : Int) (p : TMatrix) (p1 : TMatrix) (B : Option Addr) (B1 : Option Addr) (c n : Nat) (B2 : Option Addr) (B3 : Option Addr) (c1 n1 : Nat) (w0 : World) (hn : p.Cells.length = n) (hn1 : p1.Cells.length = n1) (hS : ST w0 [] w0 [] [⟨B, [vi p.Rows, vi p.Cols, .slice B1 n c]⟩, ⟨B1, (p.Cells.flatMap eN1)⟩, ⟨B2, [vi p1.Rows, vi p1.Cols, .slice B3 n1 c1]⟩, ⟨B3, (p1.Cells.flatMap eN1)⟩]) {r_ : TDyadic} {r_1 : Bool} (hF : F_impl_MulMatrix_1 i j p p1 = some (r_, r_1)) :
  CV Tryz.prog 70 #[vi i, vi j, pt B 0, pt B2 0] w0 (fun v w' => v = .tuple #[gD_ r_, .bool r_1] ∧ ST w0 [] w' [] []) := by
 subst hn
 subst hn1
 unfold F_impl_MulMatrix_1 at hF
 refine cv_of_cw 48 Tryz.func70 rfl Tryz.ntmps70 rfl ?_
 refine cq (cr ?_)
 refine sS 6 (yN kZ_ 5 hS K8) ?_
 rintro _ w_ ⟨b, rfl, hS1⟩
 refine sQ 7 (yg (.bool false)) (rn (cq (cr ?_)))
 refine sQ 14 (Y_buildS (zs := kZ_) (vs := []) (cs := kZ_) K22 K8 rfl mpn rfl) ?_
 refine sS 8 (yN kZ_ 5 hS1 K8) ?_
 rintro _ w_1 ⟨b1, rfl, hS2⟩
 refine s0 (yT 1 5 (aD b1) 91 gZ_ kZ_ 0 hS2 K2) ?_
 rintro _ w_2 ⟨rfl, hS3⟩
 refine rn (cq (cq (cr ?_)))
 refine sQ 15 (yd B 0 0 K36 K1) <| sQ 16 (yl B 1 (kM_ p B1 c) (vi p.Cols) K0 (hS3.rf (i := 0) rfl)) <| sQ 17 (ym (vi 0)) (rn ?_)
 obtain ⟨hN, hF⟩ := chk_inv hF
 obtain ⟨z, hz, hF1⟩ := bI hF
 refine cw_block ?_
 refine cw_loop (fun k f w => ∃ (i1 : Nat) (A : Int) (B4 : Int) (C : Int) (D : Int) (Exp : Int), FF f [(0, vi i), (1, vi j), (2, pt B 0), (3, pt B2 0), (6, pt (aD b) 0), (8, pt (aD b1) 0), (16, vi p.Cols), (17, vi (i1 : Int))] ∧ ST w0 [] w [⟨aD b, 91, kZ_, 5⟩, ⟨aD b1, 91, [vi A, vi B4, vi C, vi D, vi Exp], 5⟩] [⟨B, kM_ p B1 c⟩, ⟨B1, (p.Cells.flatMap eN1)⟩, ⟨B2, kM_ p1 B3 c1⟩, ⟨B3, (p1.Cells.flatMap eN1)⟩] ∧ i1 + k = p.Cols.toNat ∧ forX (F_impl_MulMatrix_1_l1 p i p1 j) k i1 (A, B4, C, D, Exp) = some z) p.Cols.toNat ⟨0, 0, 0, 0, 0, 0, (fc rfl (fc rfl (fc rfl (fc rfl (fc rfl (fc rfl (fc rfl (fc rfl fn_)))))))), (hS3.sel [0, 1] rfl rfl), Nat.zero_add _, hz⟩ ?_
 rintro k_ f w ⟨i1, A, B4, C, D, Exp, hf, hS4, hik, hL⟩
 refine cq (cr ?_)
 refine sQ 18 (yL (i1 : Int) p.Cols rfl (hf.g 17 7) (hf.g 16 6)) (rn (cq ?_))
 refine cw_cond (b := (decide ((i1 : Int) < p.Cols))) rfl (fun hlt => ?_) (fun hlt => ?_)
 ·skip
  have hlt1 : i1 < p.Cols.toNat := by have h := of_decide_eq_true hlt; omega
  obtain ⟨K7, rfl⟩ : ∃ k2, k_ = k2 + 1 := ⟨k_ - 1, by omega⟩
  obtain ⟨y, hb, hL1⟩ := forX_go hL
  unfold F_impl_MulMatrix_1_l1 at hb
  refine cw_skip (cq (cw_block (cq (cr ?_))))
  refine sQ 19 (ym (vi (i1 : Int)) rfl (hf.g 17 7)) <| sQ 9 (yg (vi (i1 : Int))) (rn (cq ?_))
  obtain ⟨r_2, hc, hb⟩ := bI hb
  obtain ⟨r_3, hc1, hb⟩ := bI hb
  obtain ⟨⟨r_4, r_5⟩, hc2, hb⟩ := bI hb
  refine cw_mid (fun f w => ∃ (B5 : Option Addr), FF f [(0, vi i), (1, vi j), (2, pt B 0), (3, pt B2 0), (6, pt (aD b) 0), (8, pt (aD b1) 0), (10, pt B5 0), (11, .bool r_5), (16, vi p.Cols), (17, vi (i1 : Int))] ∧ ST w0 [] w [⟨aD b, 91, kZ_, 5⟩, ⟨aD b1, 91, [vi A, vi B4, vi C, vi D, vi Exp], 5⟩, ⟨B5, 91, kD_ r_4, 5⟩] [⟨B, kM_ p B1 c⟩, ⟨B1, (p.Cells.flatMap eN1)⟩, ⟨B2, kM_ p1 B3 c1⟩, ⟨B3, (p1.Cells.flatMap eN1)⟩]) ?_ ?_
  ·skip
   refine ra_start (hS4.se [0, 1]).fn (by kernel_rfl) ?_
   have hS9 := hS4.drew
   refine rq 0 21 (v := gM_ p B1 c) rfl (hS9.se [0, 1]) (fun w' hw' => (yb B 0 (kM_ p B1 c) K9 K4 (ST.rf hw' (i := 0) rfl) rfl (hf.g 2 2))) ?_
   refine rq 1 22 (v := vi i) rfl (hS9.se [0, 1]) (fun w' hw' => (ym (vi i) rfl (hf.g 0 0))) ?_
   refine rq 2 23 (v := vi (i1 : Int)) rfl (hS9.se [0, 1]) (fun w' hw' => (ym (vi (i1 : Int)))) ?_
   refine rq 4 25 (v := gM_ p1 B3 c1) rfl (hS9.se [0, 1]) (fun w' hw' => (yb B2 0 (kM_ p1 B3 c1) K9 K4 (ST.rf hw' (i := 2) rfl) rfl (hf.g 3 3))) ?_
   refine rq 5 26 (v := vi (i1 : Int)) rfl (hS9.se [0, 1]) (fun w' hw' => (ym (vi (i1 : Int)))) ?_
   refine rq 6 27 (v := vi j) rfl (hS9.se [0, 1]) (fun w' hw' => (ym (vi j) rfl (hf.g 1 1))) ?_
   refine rA [3, 12] ?_
   refine rC 24 3 rfl (yC [gM_ p B1 c, vi i, vi (i1 : Int)] K73 (c_impl_Matrix_at p i (i1 : Int) B1 c p.Cells.length _ rfl (hS9.inn0 [(true, 1)] rfl) hc)) ?_ ?_
   ·rintro _ w_3 ⟨rfl, hd⟩
    have hS10 := hS9.out00 hd
    refine ⟨(hS10.se [0, 1]), ?_⟩
    refine rA [7, 12] ?_
    refine rC 28 7 rfl (yC [gM_ p1 B3 c1, vi (i1 : Int), vi j] K73 (c_impl_Matrix_at p1 (i1 : Int) j B3 c1 p1.Cells.length _ rfl (hS10.inn0 [(true, 3)] rfl) hc1)) ?_ ?_
    ·rintro _ w_4 ⟨rfl, hd1⟩
     have hS11 := hS10.out00 hd1
     refine ⟨(hS11.se [0, 1]), ?_⟩
     refine rA [8, 12] ?_
     refine rC 29 8 rfl (yC [gD_ r_2, gD_ r_3] K78 (c_impl_MulDyadic r_2 r_3 _  (hS11.inn0 [] rfl) hc2)) ?_ ?_
     ·rintro _ w_5 ⟨rfl, hd2⟩
      have hS12 := hS11.out00 hd2
      refine ⟨(hS12.se [0, 1]), ?_⟩
      refine rq 9 20 (v := .tuple #[gD_ r_4, .bool r_5]) rfl (hS12.se [0, 1]) (fun w' hw' => (ym (.tuple #[gD_ r_4, .bool r_5]))) ?_
      refine rq 10 30 (v := gD_ r_4) rfl (hS12.se [0, 1]) (fun w' hw' => (ye (gD_ r_4))) ?_
      refine rq 11 31 (v := .bool r_5) rfl (hS12.se [0, 1]) (fun w' hw' => (ye (.bool r_5))) ?_
      refine rA [12] ?_
      refine rS 10 12 rfl (yN kZ_ 5 hS12 K8) ?_ ?_
      ·rintro _ w_6 ⟨b2, rfl, hS13⟩
       refine ⟨(hS13.se [0, 1]), ?_⟩
       refine rA [13] ?_
       refine rZ 13 rfl (yT 2 5 (aD b2) 91 (gD_ r_4) (kD_ r_4) 0 hS13 K2) ?_ ?_
       ·rintro _ w_7 ⟨rfl, hS14⟩
        refine ⟨(hS14.se [0, 1]), ?_⟩
        refine rq 14 11 (v := .bool r_5) rfl (hS14.se [0, 1]) (fun w' hw' => (yg (.bool r_5))) ?_
        refine ra_done (by kernel_rfl) ?_
        exact ⟨aD b2, (fc (hf.g 0 0) (fc (hf.g 1 1) (fc (hf.g 2 2) (fc (hf.g 3 3) (fc (hf.g 6 4) (fc (hf.g 8 5) (fc rfl (fc rfl (fc (hf.g 16 6) (fc (hf.g 17 7) fn_)))))))))), (hS14.sel [0, 1, 2] rfl rfl)⟩
       exact aN
      exact aN
     refine rS 10 12 rfl (yN kZ_ 5 hS11 K8) ?_ ?_
     ·rintro _ w_8 ⟨b2, rfl, hS15⟩
      refine ⟨(hS15.se [0, 1]), ?_⟩
      refine rA [8] ?_
      refine rC 29 8 rfl (yC [gD_ r_2, gD_ r_3] K78 (c_impl_MulDyadic r_2 r_3 _  (hS15.inn0 [] rfl) hc2)) ?_ ?_
      ·rintro _ w_9 ⟨rfl, hd3⟩
       have hS16 := hS15.out00 hd3
       refine ⟨(hS16.se [0, 1]), ?_⟩
       refine rq 9 20 (v := .tuple #[gD_ r_4, .bool r_5]) rfl (hS16.se [0, 1]) (fun w' hw' => (ym (.tuple #[gD_ r_4, .bool r_5]))) ?_
       refine rq 10 30 (v := gD_ r_4) rfl (hS16.se [0, 1]) (fun w' hw' => (ye (gD_ r_4))) ?_
       refine rq 11 31 (v := .bool r_5) rfl (hS16.se [0, 1]) (fun w' hw' => (ye (.bool r_5))) ?_
       refine rA [13] ?_
       refine rZ 13 rfl (yT 2 5 (aD b2) 91 (gD_ r_4) (kD_ r_4) 0 hS16 K2) ?_ ?_
       ·rintro _ w_10 ⟨rfl, hS17⟩
        refine ⟨(hS17.se [0, 1]), ?_⟩
        refine rq 14 11 (v := .bool r_5) rfl (hS17.se [0, 1]) (fun w' hw' => (yg (.bool r_5))) ?_
        refine ra_done (by kernel_rfl) ?_
        exact ⟨aD b2, (fc (hf.g 0 0) (fc (hf.g 1 1) (fc (hf.g 2 2) (fc (hf.g 3 3) (fc (hf.g 6 4) (fc (hf.g 8 5) (fc rfl (fc rfl (fc (hf.g 16 6) (fc (hf.g 17 7) fn_)))))))))), (hS17.sel [0, 1, 2] rfl rfl)⟩
       exact aN
      exact aN
     exact aN
    refine rS 10 12 rfl (yN kZ_ 5 hS10 K8) ?_ ?_
    ·rintro _ w_11 ⟨b2, rfl, hS18⟩
     refine ⟨(hS18.se [0, 1]), ?_⟩
     refine rA [7] ?_
     refine rC 28 7 rfl (yC [gM_ p1 B3 c1, vi (i1 : Int), vi j] K73 (c_impl_Matrix_at p1 (i1 : Int) j B3 c1 p1.Cells.length _ rfl (hS18.inn0 [(true, 3)] rfl) hc1)) ?_ ?_
     ·rintro _ w_12 ⟨rfl, hd4⟩
      have hS19 := hS18.out00 hd4
      refine ⟨(hS19.se [0, 1]), ?_⟩
      refine rA [8] ?_
      refine rC 29 8 rfl (yC [gD_ r_2, gD_ r_3] K78 (c_impl_MulDyadic r_2 r_3 _  (hS19.inn0 [] rfl) hc2)) ?_ ?_
      ·rintro _ w_13 ⟨rfl, hd5⟩
       have hS20 := hS19.out00 hd5
       refine ⟨(hS20.se [0, 1]), ?_⟩
       refine rq 9 20 (v := .tuple #[gD_ r_4, .bool r_5]) rfl (hS20.se [0, 1]) (fun w' hw' => (ym (.tuple #[gD_ r_4, .bool r_5]))) ?_
       refine rq 10 30 (v := gD_ r_4) rfl (hS20.se [0, 1]) (fun w' hw' => (ye (gD_ r_4))) ?_
       refine rq 11 31 (v := .bool r_5) rfl (hS20.se [0, 1]) (fun w' hw' => (ye (.bool r_5))) ?_
       refine rA [13] ?_
       refine rZ 13 rfl (yT 2 5 (aD b2) 91 (gD_ r_4) (kD_ r_4) 0 hS20 K2) ?_ ?_
       ·rintro _ w_14 ⟨rfl, hS21⟩
        refine ⟨(hS21.se [0, 1]), ?_⟩
        refine rq 14 11 (v := .bool r_5) rfl (hS21.se [0, 1]) (fun w' hw' => (yg (.bool r_5))) ?_
        refine ra_done (by kernel_rfl) ?_
        exact ⟨aD b2, (fc (hf.g 0 0) (fc (hf.g 1 1) (fc (hf.g 2 2) (fc (hf.g 3 3) (fc (hf.g 6 4) (fc (hf.g 8 5) (fc rfl (fc rfl (fc (hf.g 16 6) (fc (hf.g 17 7) fn_)))))))))), (hS21.sel [0, 1, 2] rfl rfl)⟩
       exact aN
      exact aN
     exact aN
    exact aN
   refine rS 10 12 rfl (yN kZ_ 5 hS9 K8) ?_ ?_
   ·rintro _ w_15 ⟨b2, rfl, hS22⟩
    refine ⟨(hS22.se [0, 1]), ?_⟩
    refine rA [3] ?_
    refine rC 24 3 rfl (yC [gM_ p B1 c, vi i, vi (i1 : Int)] K73 (c_impl_Matrix_at p i (i1 : Int) B1 c p.Cells.length _ rfl (hS22.inn0 [(true, 1)] rfl) hc)) ?_ ?_
    ·rintro _ w_16 ⟨rfl, hd6⟩
     have hS23 := hS22.out00 hd6
     refine ⟨(hS23.se [0, 1]), ?_⟩
     refine rA [7] ?_
     refine rC 28 7 rfl (yC [gM_ p1 B3 c1, vi (i1 : Int), vi j] K73 (c_impl_Matrix_at p1 (i1 : Int) j B3 c1 p1.Cells.length _ rfl (hS23.inn0 [(true, 3)] rfl) hc1)) ?_ ?_
     ·rintro _ w_17 ⟨rfl, hd7⟩
      have hS24 := hS23.out00 hd7
      refine ⟨(hS24.se [0, 1]), ?_⟩
      refine rA [8] ?_
      refine rC 29 8 rfl (yC [gD_ r_2, gD_ r_3] K78 (c_impl_MulDyadic r_2 r_3 _  (hS24.inn0 [] rfl) hc2)) ?_ ?_
      ·rintro _ w_18 ⟨rfl, hd8⟩
       have hS25 := hS24.out00 hd8
       refine ⟨(hS25.se [0, 1]), ?_⟩
       refine rq 9 20 (v := .tuple #[gD_ r_4, .bool r_5]) rfl (hS25.se [0, 1]) (fun w' hw' => (ym (.tuple #[gD_ r_4, .bool r_5]))) ?_
       refine rq 10 30 (v := gD_ r_4) rfl (hS25.se [0, 1]) (fun w' hw' => (ye (gD_ r_4))) ?_
       refine rq 11 31 (v := .bool r_5) rfl (hS25.se [0, 1]) (fun w' hw' => (ye (.bool r_5))) ?_
       refine rA [13] ?_
       refine rZ 13 rfl (yT 2 5 (aD b2) 91 (gD_ r_4) (kD_ r_4) 0 hS25 K2) ?_ ?_
       ·rintro _ w_19 ⟨rfl, hS26⟩
        refine ⟨(hS26.se [0, 1]), ?_⟩
        refine rq 14 11 (v := .bool r_5) rfl (hS26.se [0, 1]) (fun w' hw' => (yg (.bool r_5))) ?_
        refine ra_done (by kernel_rfl) ?_
        exact ⟨aD b2, (fc (hf.g 0 0) (fc (hf.g 1 1) (fc (hf.g 2 2) (fc (hf.g 3 3) (fc (hf.g 6 4) (fc (hf.g 8 5) (fc rfl (fc rfl (fc (hf.g 16 6) (fc (hf.g 17 7) fn_)))))))))), (hS26.sel [0, 1, 2] rfl rfl)⟩
       exact aN
      exact aN
     exact aN
    exact aN
   exact aN
  rintro f w ⟨B5, hf1, hS8⟩
  refine cq (cr ?_)
  refine sQ 33 (yb (aD b1) 0 [vi A, vi B4, vi C, vi D, vi Exp] K5 K2 (hS8.c 1) rfl (hf1.g 8 5)) <| sQ 34 (yb B5 0 (kD_ r_4) K5 K2 (hS8.c 2) rfl (hf1.g 10 6)) ?_
  obtain ⟨⟨r_6, r_7⟩, hc3, hb⟩ := bI hb
  refine sc 35 rfl rfl (yC [.agg #[vi A, vi B4, vi C, vi D, vi Exp], gD_ r_4] k_call_73 (c_impl_AddDyadic (TDyadic.mk (TRing.mk A B4 C D) Exp) r_4 _  (hS8.inn0 [] rfl) hc3)) ?_
  rintro _ w_20 ⟨rfl, hd9⟩
  have hS27 := hS8.out00 hd9
  refine sQ 32 (ym (.tuple #[gD_ r_6, .bool r_7])) <| sQ 36 (ye (gD_ r_6)) <| sQ 37 (ye (.bool r_7)) ?_
  refine sS 12 (yN kZ_ 5 hS27 K8) ?_
  rintro _ w_21 ⟨b3, rfl, hS28⟩
  refine s0 (yT 3 5 (aD b3) 91 (gD_ r_6) (kD_ r_6) 0 hS28 K2) ?_
  rintro _ w_22 ⟨rfl, hS29⟩
  refine sQ 13 (yg (.bool r_7)) (rn (cq (cq (cr ?_))))
  refine sQ 38 (ym (.bool r_5) rfl (hf1.g 11 7)) <| sQ 39 (Y_not (p := r_5) rfl rfl) <| sQ 40 (ym (.bool (!r_5))) ?_
  refine sgq 41 (B := (!(!r_5))) (v := .bool r_7) rfl rfl (uF_ 40) (fun hg => (ym (.bool r_7))) ?_
  refine sgq 42 (B := (!(!r_5))) (v := .bool (!r_7)) rfl rfl (uF_ 40) (fun hg1 => (Y_not (p := r_7) rfl (gv_of (v := .bool r_7) hg1))) ?_
  refine sQ 43 (Y_or (b := (!r_5)) (z := (!r_7)) rfl rfl rfl rfl) (rn ?_)
  refine cw_cond (b := ((!r_5) || (!r_7))) rfl (fun hb1 => ?_) (fun hb1 => ?_)
  ·skip
   have hF2 := ct hb hb1
   refine cq (cr ?_)
   refine sQ 44 (Y_buildS (zs := kZ_) (vs := []) (cs := kZ_) K22 K8 rfl mpn rfl) ?_
   refine s0 (yT 0 5 (aD b) 91 gZ_ kZ_ 0 hS29 K2 rfl (hf1.g 6 4)) ?_
   rintro _ w_23 ⟨rfl, hS30⟩
   refine sQ 7 (yg (.bool false)) (rn (ct_ ?_))
   obtain rfl := sI hF2
   obtain rfl := sI hL1
   obtain ⟨rfl, rfl⟩ := pr2 (sI hF1)
   exact ret2 Tryz.results70 (v1 := gZ_) (resAt_cellA (B := aD b) (i := 0) (cs := kZ_) (vs := kZ_) (hf1.g 6 4) K5 K2 (hS30.c 0) rfl rfl) (v2 := .bool false) (resAt_tmp rfl) ⟨rfl, (hS30.sN [])⟩
  ·skip
   have hF3 := cf' hb hb1
   refine cw_skip (cr ?_)
   refine sQ 45 (yb (aD b3) 0 (kD_ r_6) K5 K2 (hS29.c 3)) ?_
   refine s0 (yT 1 5 (aD b1) 91 (gD_ r_6) (kD_ r_6) 0 hS29 K2 rfl (hf1.g 8 5)) ?_
   rintro _ w_24 ⟨rfl, hS31⟩
   refine rn (cr ?_)
   refine sQ 46 (yP (i1 : Int) 1 rfl (hf1.g 17 9)) <| sQ 17 (ym (vi (i64.wrap ((i1 : Int) + 1)))) (rn ?_)
   obtain rfl := sI hF3
   exact ⟨K7, Nat.lt_succ_self _, i1 + 1, r_6.Num.A, r_6.Num.B, r_6.Num.C, r_6.Num.D, r_6.Exp, (fc (hf1.g 0 0) (fc (hf1.g 1 1) (fc (hf1.g 2 2) (fc (hf1.g 3 3) (fc (hf1.g 6 4) (fc (hf1.g 8 5) (fc (hf1.g 16 8) (fc (congrArg (Value.int .i64) (wr_succ hlt1 hN)) fn_)))))))), (hS31.sel [0, 1] rfl rfl), (by omega), hL1⟩
 ·skip
  obtain rfl : k_ = 0 := by have h := of_decide_eq_false hlt; omega
  refine cw_exit rfl ?_
  obtain rfl := sI hL
  refine cq (cr ?_)
  refine sQ 47 (yb (aD b1) 0 [vi A, vi B4, vi C, vi D, vi Exp] K5 K2 (hS4.c 1) rfl (hf.g 8 5)) ?_
  refine s0 (yT 0 5 (aD b) 91 (.agg #[vi A, vi B4, vi C, vi D, vi Exp]) [vi A, vi B4, vi C, vi D, vi Exp] 0 hS4 K2 rfl (hf.g 6 4)) ?_
  rintro _ w_25 ⟨rfl, hS32⟩
  refine sQ 7 (yg (.bool true)) (rn (ct_ ?_))
  obtain ⟨rfl, rfl⟩ := pr2 (sI hF1)
  exact ret2 Tryz.results70 (v1 := .agg #[vi A, vi B4, vi C, vi D, vi Exp]) (resAt_cellA (B := aD b) (i := 0) (cs := [vi A, vi B4, vi C, vi D, vi Exp]) (vs := [vi A, vi B4, vi C, vi D, vi Exp]) (hf.g 6 4) K5 K2 (hS32.c 0) rfl rfl) (v2 := .bool true) (resAt_tmp rfl) ⟨rfl, (hS32.sN [])⟩

theorem c_impl_MulMatrix (a : TMatrix) (b : TMatrix) (B : Option Addr) (c n : Nat) (B1 : Option Addr) (c1 n1 : Nat) (w0 : World) (hn : a.Cells.length = n) (hn1 : b.Cells.length = n1) (hS : ST w0 [] w0 [] [⟨B, (a.Cells.flatMap eN1)⟩, ⟨B1, (b.Cells.flatMap eN1)⟩]) {r_ : TMatrix} {r_1 : Bool} (hF : F_impl_MulMatrix a b = some (r_, r_1)) :
  CV Tryz.prog 38 #[.agg #[vi a.Rows, vi a.Cols, .slice B n c], .agg #[vi b.Rows, vi b.Cols, .slice B1 n1 c1]] w0 (fun v w' => ∃ (B2 : Option Addr) (c2 : Nat), v = .tuple #[gM_ r_ B2 c2, .bool r_1] ∧ ST w0 [] w' [⟨B2, 91, (r_.Cells.flatMap eN1), c2 * 5⟩] []) := by
 subst hn
 subst hn1
 unfold F_impl_MulMatrix at hF
 refine cv_of_cw 30 Tryz.func38 rfl Tryz.ntmps38 rfl ?_
 refine cq (cr ?_)
 refine sS 2 (yB 50 (gM_ a B c) (kM_ a B c) 3 hS) ?_
 rintro _ w_ ⟨b1, rfl, hS1⟩
 refine sS 3 (yB 50 (gM_ b B1 c1) (kM_ b B1 c1) 3 hS1) ?_
 rintro _ w_1 ⟨b2, rfl, hS2⟩
 refine sS 4 (yN kN_ 3 hS2 K13) ?_
 rintro _ w_2 ⟨b3, rfl, hS3⟩
 refine sQ 5 (yg (.bool false)) (rn (cq (cq (cr ?_))))
 refine sQ 6 (yb (aD b1) 0 (kM_ a B c) K9 K4 (hS3.c 0)) ?_
 obtain ⟨r_2, hc, hF⟩ := bI hF
 refine sc 7 rfl rfl (yC [gM_ a B c] K86 (c_impl_IsValidMatrix a B c a.Cells.length _ rfl (hS3.inn0 [(true, 0)] rfl) hc)) ?_
 rintro _ w_3 ⟨rfl, hd⟩
 have hS4 := hS3.out00 hd
 refine sQ 8 (Y_not (p := r_2) rfl rfl) <| sQ 9 (ym (.bool (!r_2))) ?_
 refine sgq 10 (B := (!(!r_2))) (v := gM_ b B1 c1) rfl rfl (uF_ 9) (fun hg => (yb (aD b2) 0 (kM_ b B1 c1) K9 K4 (hS4.c 1))) ?_
 obtain ⟨r_3, hc1, hF⟩ := bI hF
 refine sgc 11 (B := (!(!r_2))) (v := .bool r_3) (F := hS4.fn) rfl rfl (uF_ 9) hS4 (fun hg1 => (yC [gM_ b B1 c1] K86 (CV.mono (c_impl_IsValidMatrix b B1 c1 b.Cells.length _ rfl (hS4.inn0 [(true, 1)] rfl) (gb_inv hc1 hg1)) (by rintro _ _ ⟨rfl, h⟩; exact ⟨rfl, hS4.out00 h⟩)) rfl (mc (gv_of (v := gM_ b B1 c1) hg1) mn))) ?_
 rintro w_4 hS5
 refine sgq 12 (B := (!(!r_2))) (v := .bool (!r_3)) rfl rfl (uF_ 9) (fun hg2 => (Y_not (p := r_3) rfl (gv_of (v := .bool r_3) hg2))) ?_
 refine sQ 13 (Y_or (b := (!r_2)) (z := (!r_3)) rfl rfl rfl rfl) <| sQ 14 (ym (.bool ((!r_2) || (!r_3)))) ?_
 refine sgq 15 (B := (!((!r_2) || (!r_3)))) (v := pt (aD b1) 1) rfl rfl (uF_ 14) (fun hg3 => (yd (aD b1) 0 0 K36 K1)) ?_
 refine sgq 16 (B := (!((!r_2) || (!r_3)))) (v := vi a.Cols) rfl rfl (uF_ 14) (fun hg4 => (yl (aD b1) 1 (kM_ a B c) (vi a.Cols) K0 (hS5.c 0) rfl (gv_of (v := pt (aD b1) 1) hg4))) ?_
 refine sgq 17 (B := (!((!r_2) || (!r_3)))) (v := pt (aD b2) 0) rfl rfl (uF_ 14) (fun hg5 => (yd (aD b2) 0 0 K33 K1)) ?_
 refine sgq 18 (B := (!((!r_2) || (!r_3)))) (v := vi b.Rows) rfl rfl (uF_ 14) (fun hg6 => (yl (aD b2) 0 (kM_ b B1 c1) (vi b.Rows) K0 (hS5.c 1) rfl (gv_of (v := pt (aD b2) 0) hg6))) ?_
 refine sgq 19 (B := (!((!r_2) || (!r_3)))) (v := .bool (a.Cols != b.Rows)) rfl rfl (uF_ 14) (fun hg7 => (Y_ne (k := .i64) (a := a.Cols) (b := b.Rows) rfl (gv_of (v := vi a.Cols) hg7) (gv_of (v := vi b.Rows) hg7))) ?_
 refine sQ 20 (Y_or (b := ((!r_2) || (!r_3))) (z := (a.Cols != b.Rows)) rfl rfl rfl rfl) (rn ?_)
 refine cw_cond (b := (((!r_2) || (!r_3)) || (a.Cols != b.Rows))) rfl (fun hb => ?_) (fun hb => ?_)
 ·skip
  have hF1 := ct hF hb
  refine cq (cr ?_)
  refine sQ 21 (Y_buildS (zs := kN_) (vs := []) (cs := kN_) K47 K13 rfl mpn rfl) ?_
  refine s0 (yT 2 3 (aD b3) 50 gN_ kN_ 0 hS5 K4) ?_
  rintro _ w_5 ⟨rfl, hS6⟩
  refine sQ 5 (yg (.bool false)) (rn (ct_ ?_))
  have hS7 := hS6.addNil 91
  obtain ⟨rfl, rfl⟩ := pr2 (sI hF1)
  exact ret2 Tryz.results38 (v1 := gN_) (resAt_cellA (B := aD b3) (i := 0) (cs := kN_) (vs := kN_) rfl K9 K4 (hS7.c 2) rfl rfl) (v2 := .bool false) (resAt_tmp rfl) ⟨none, 0, rfl, (hS7.sN [3])⟩
 ·skip
  have hF2 := cf' hF hb
  refine cw_skip (cq (cr ?_))
  refine sQ 22 (yd (aD b1) 0 0 K33 K1) <| sQ 23 (yl (aD b1) 0 (kM_ a B c) (vi a.Rows) K0 (hS5.c 0)) <| sQ 24 (yd (aD b2) 0 0 K36 K1) <| sQ 25 (yl (aD b2) 1 (kM_ b B1 c1) (vi b.Cols) K0 (hS5.c 1)) <| sQ 26 (Y_makeFunc (cs := [pt (aD b1) 0, pt (aD b2) 0]) rfl rfl (mc rfl (mc rfl mn))) ?_
  obtain ⟨⟨r_4, r_5⟩, hc2, hF2⟩ := bI hF2
  refine sc 27 rfl rfl (yC [vi a.Rows, vi b.Cols, .func (.func 70) #[] #[pt (aD b1) 0, pt (aD b2) 0]] K82 (c_impl_matrixOf a.Rows b.Cols (fun x_0 x_1 => F_impl_MulMatrix_1 x_0 x_1 a b) 70 (#[pt (aD b1) 0, pt (aD b2) 0]) [⟨aD b1, kM_ a B c⟩, ⟨B, (a.Cells.flatMap eN1)⟩, ⟨aD b2, kM_ b B1 c1⟩, ⟨B1, (b.Cells.flatMap eN1)⟩] _ k_call_70 (fun w hw x_0 x_1 y_0 y_1 h_ => c_impl_MulMatrix_1 x_0 x_1 a b (aD b1) B c a.Cells.length (aD b2) B1 c1 b.Cells.length w rfl rfl hw h_) (hS5.inn0 [(false, 0), (true, 0), (false, 1), (true, 1)] rfl) hc2)) ?_
  rintro _ w_6 ⟨B3, c3, rfl, hd1⟩
  have hS8 := hS5.out0 hd1
  refine sQ 28 (ye (gM_ r_4 B3 c3)) <| sQ 29 (ye (.bool r_5)) ?_
  refine s0 (yT 2 3 (aD b3) 50 (gM_ r_4 B3 c3) (kM_ r_4 B3 c3) 0 hS8 K4) ?_
  rintro _ w_7 ⟨rfl, hS9⟩
  refine sQ 5 (yg (.bool r_5)) (rn (ct_ ?_))
  obtain ⟨rfl, rfl⟩ := pr2 (sI hF2)
  exact ret2 Tryz.results38 (v1 := gM_ r_4 B3 c3) (resAt_cellA (B := aD b3) (i := 0) (cs := kM_ r_4 B3 c3) (vs := kM_ r_4 B3 c3) rfl K9 K4 (hS9.c 2) rfl rfl) (v2 := .bool r_5) (resAt_tmp rfl) ⟨B3, c3, rfl, (hS9.sN [3])⟩

theorem c_impl_applied (c : TCircuit) (m : TMatrix) (ok : Bool) (B : Option Addr) (c1 n : Nat) (B1 : Option Addr) (c2 n1 : Nat) (w0 : World) (hn : c.Gates.length = n) (hn1 : m.Cells.length = n1) (hS : ST w0 (bl [⟨B1, 91, (m.Cells.flatMap eN1), c2 * 5⟩]) w0 [⟨B1, 91, (m.Cells.flatMap eN1), c2 * 5⟩] [⟨B, (c.Gates.flatMap eN0)⟩]) {r_ : TMatrix} {r_1 : Bool} (hF : F_impl_applied c m ok = some (r_, r_1)) :
  CV Tryz.prog 46 #[.agg #[vi c.Qubits, .slice B n c1], .agg #[vi m.Rows, vi m.Cols, .slice B1 n1 c2], .bool ok] w0 (fun v w' => ∃ (B2 : Option Addr) (c3 : Nat), v = .tuple #[gM_ r_ B2 c3, .bool r_1] ∧ ST w0 (bl [⟨B1, 91, (m.Cells.flatMap eN1), c2 * 5⟩]) w' [⟨B2, 91, (r_.Cells.flatMap eN1), c3 * 5⟩] []) := by
 subst hn
 subst hn1
 unfold F_impl_applied at hF
 refine cv_of_cw 40 Tryz.func46 rfl Tryz.ntmps46 rfl ?_
 refine cq (cr ?_)
 refine sS 3 (yB 30 (.agg #[vi c.Qubits, .slice B c.Gates.length c1]) [vi c.Qubits, .slice B c.Gates.length c1] 2 hS) ?_
 rintro _ w_ ⟨b, rfl, hS1⟩
 refine sS 4 (yB 50 (gM_ m B1 c2) (kM_ m B1 c2) 3 hS1) ?_
 rintro _ w_1 ⟨b1, rfl, hS2⟩
 refine sS 6 (yN kN_ 3 hS2 K13) ?_
 rintro _ w_2 ⟨b2, rfl, hS3⟩
 refine sQ 7 (yg (.bool false)) (rn (cq (cq (cr ?_))))
 refine sQ 8 (yg (vi 0)) (rn ?_)
 obtain ⟨z, hz, hF1⟩ := bI hF
 refine cw_block ?_
 refine cw_loop (fun k f w => ∃ (ok1 : Bool) (Rows : Int) (Cols : Int) (Cells : List TDyadic) (i : Int) (B3 : Option Addr) (c4 : Nat), FF f [(2, .bool ok1), (3, pt (aD b) 0), (4, pt (aD b1) 0), (6, pt (aD b2) 0), (8, vi i)] ∧ ST w0 (bl [⟨B1, 91, (m.Cells.flatMap eN1), c2 * 5⟩]) w [⟨aD b, 30, [vi c.Qubits, .slice B c.Gates.length c1], 2⟩, ⟨aD b1, 50, [vi Rows, vi Cols, .slice B3 Cells.length c4], 3⟩, ⟨B3, 91, (Cells.flatMap eN1), c4 * 5⟩, ⟨aD b2, 50, kN_, 3⟩] [⟨B, (c.Gates.flatMap eN0)⟩] ∧ whX (F_impl_applied_l1 c) k (ok1, Rows, Cols, Cells, i) = some z) fuel ⟨ok, m.Rows, m.Cols, m.Cells, 0, B1, c2, (fc rfl (fc rfl (fc rfl (fc rfl (fc rfl fn_))))), (hS3.sel [1, 2, 0, 3] rfl rfl), hz⟩ ?_
 rintro k_ f w ⟨ok1, Rows, Cols, Cells, i, B3, c4, hf, hS4, hL⟩
 obtain ⟨K7, y, rfl, hb, hL1⟩ := whX_go hL
 unfold F_impl_applied_l1 at hb
 refine cq (cq (cr ?_))
 refine sQ 11 (ym (vi i) rfl (hf.g 8 4)) <| sQ 12 (yd (aD b) 0 0 K44 K39 rfl (hf.g 3 1)) <| sQ 13 (yl (aD b) 1 [vi c.Qubits, .slice B c.Gates.length c1] (.slice B c.Gates.length c1) K43 (hS4.c 0)) <| sQ 14 (Y_len (B := B) (m := c.Gates.length) (c := c1) K11 rfl rfl) <| sQ 15 (yL i (c.Gates.length : Int)) <| sQ 16 (ym (.bool (decide (i < (c.Gates.length : Int))))) ?_
 refine sgq 17 (B := (decide (i < (c.Gates.length : Int)))) (v := .bool ok1) rfl rfl (uT_ 16) (fun hg => (ym (.bool ok1) rfl (hf.g 2 0))) ?_
 refine sQ 18 (Y_and (b := (decide (i < (c.Gates.length : Int)))) (z := ok1) rfl rfl rfl rfl) (rn ?_)
 refine cw_cond (b := ((decide (i < (c.Gates.length : Int))) && ok1)) rfl (fun hb1 => ?_) (fun hb1 => ?_)
 ·skip
  have hF2 := ct hb hb1
  refine cw_skip (cq (cw_block (cq ?_)))
  obtain ⟨x, hx, hF2⟩ := bI hF2
  obtain ⟨⟨r_2, r_3⟩, hc, hF2⟩ := bI hF2
  refine cw_mid (fun f w => ∃ (B5 : Option Addr) (B6 : Option Addr) (c6 : Nat), FF f [(3, pt (aD b) 0), (4, pt (aD b1) 0), (6, pt (aD b2) 0), (8, vi i), (9, pt B5 0)] ∧ ST w0 (bl [⟨B1, 91, (m.Cells.flatMap eN1), c2 * 5⟩]) w [⟨aD b, 30, [vi c.Qubits, .slice B c.Gates.length c1], 2⟩, ⟨aD b1, 50, [vi Rows, vi Cols, .slice B3 Cells.length c4], 3⟩, ⟨B3, 91, (Cells.flatMap eN1), c4 * 5⟩, ⟨aD b2, 50, kN_, 3⟩, ⟨B5, 50, kM_ r_2 B6 c6, 3⟩, ⟨B6, 91, (r_2.Cells.flatMap eN1), c6 * 5⟩] [⟨B, (c.Gates.flatMap eN0)⟩]) ?_ ?_
  ·skip
   refine ra_start (hS4.se [0, 1, 2, 3]).fn (by kernel_rfl) ?_
   have hS7 := hS4.drew
   refine rq 0 22 (v := pt (aD b) 0) rfl (hS7.se [0, 1, 2, 3]) (fun w' hw' => (yd (aD b) 0 0 K49 K1 rfl (hf.g 3 1))) ?_
   refine rq 1 23 (v := vi c.Qubits) rfl (hS7.se [0, 1, 2, 3]) (fun w' hw' => (yl (aD b) 0 [vi c.Qubits, .slice B c.Gates.length c1] (vi c.Qubits) K0 (ST.cf hw' (i := 0) rfl))) ?_
   refine rq 2 24 (v := pt (aD b) 1) rfl (hS7.se [0, 1, 2, 3]) (fun w' hw' => (yd (aD b) 0 0 K44 K39 rfl (hf.g 3 1))) ?_
   refine rq 3 25 (v := .slice B c.Gates.length c1) rfl (hS7.se [0, 1, 2, 3]) (fun w' hw' => (yl (aD b) 1 [vi c.Qubits, .slice B c.Gates.length c1] (.slice B c.Gates.length c1) K43 (ST.cf hw' (i := 0) rfl))) ?_
   refine rq 4 26 (v := vi i) rfl (hS7.se [0, 1, 2, 3]) (fun w' hw' => (ym (vi i) rfl (hf.g 8 4))) ?_
   refine rq 5 27 (v := pt B (i.toNat * 3)) rfl (hS7.se [0, 1, 2, 3]) (fun w' hw' => (Y_index (B := B) (m := c.Gates.length) (c := c1) (k := .i64) (i := i) K11 K10 rfl rfl rfl (gi_isSome enc_Gate_len rfl (ST.rf hw' (i := 0) rfl) hx) (getI_nn hx) (getI_ltI hx rfl))) ?_
   refine rq 6 28 (v := .agg #[vi x.Kind, vi x.A, vi x.B]) rfl (hS7.se [0, 1, 2, 3]) (fun w' hw' => (ya B (i.toNat * 3) (c.Gates.flatMap eN0) [vi x.Kind, vi x.A, vi x.B] K31 K10 (ST.rf hw' (i := 0) rfl) rfl rfl (enc_Gate_len x) (gi_seg enc_Gate_len hx))) ?_
   refine rA [7, 11] ?_
   refine rC 29 7 rfl (yC [vi c.Qubits, .agg #[vi x.Kind, vi x.A, vi x.B]] K99 (c_impl_GateMatrix c.Qubits x _  (hS7.inn0 [] rfl) hc)) ?_ ?_
   ·rintro _ w_3 ⟨B4, c5, rfl, hd⟩
    have hS8 := hS7.out0 hd
    refine ⟨(hS8.se [0, 1, 2, 3]), ?_⟩
    refine rq 8 21 (v := .tuple #[gM_ r_2 B4 c5, .bool r_3]) rfl (hS8.se [0, 1, 2, 3]) (fun w' hw' => (ym (.tuple #[gM_ r_2 B4 c5, .bool r_3]))) ?_
    refine rq 9 30 (v := gM_ r_2 B4 c5) rfl (hS8.se [0, 1, 2, 3]) (fun w' hw' => (ye (gM_ r_2 B4 c5))) ?_
    refine rq 10 31 (v := .bool r_3) rfl (hS8.se [0, 1, 2, 3]) (fun w' hw' => (ye (.bool r_3))) ?_
    refine rA [11] ?_
    refine rS 9 11 rfl (yN kN_ 3 hS8 K13) ?_ ?_
    ·rintro _ w_4 ⟨b3, rfl, hS9⟩
     refine ⟨(hS9.se [0, 1, 2, 3]), ?_⟩
     refine rA [12] ?_
     refine rZ 12 rfl (yT 5 3 (aD b3) 50 (gM_ r_2 B4 c5) (kM_ r_2 B4 c5) 0 hS9 K4) ?_ ?_
     ·rintro _ w_5 ⟨rfl, hS10⟩
      refine ⟨(hS10.se [0, 1, 2, 3]), ?_⟩
      refine rq 13 10 (v := .bool r_3) rfl (hS10.se [0, 1, 2, 3]) (fun w' hw' => (yg (.bool r_3))) ?_
      refine ra_done (by kernel_rfl) ?_
      exact ⟨aD b3, B4, c5, (fc (hf.g 3 1) (fc (hf.g 4 2) (fc (hf.g 6 3) (fc (hf.g 8 4) (fc rfl fn_))))), (hS10.sel [0, 1, 2, 3, 5, 4] rfl rfl)⟩
     exact aN
    exact aN
   refine rS 9 11 rfl (yN kN_ 3 hS7 K13) ?_ ?_
   ·rintro _ w_6 ⟨b3, rfl, hS11⟩
    refine ⟨(hS11.se [0, 1, 2, 3]), ?_⟩
    refine rA [7] ?_
    refine rC 29 7 rfl (yC [vi c.Qubits, .agg #[vi x.Kind, vi x.A, vi x.B]] K99 (c_impl_GateMatrix c.Qubits x _  (hS11.inn0 [] rfl) hc)) ?_ ?_
    ·rintro _ w_7 ⟨B4, c5, rfl, hd1⟩
     have hS12 := hS11.out0 hd1
     refine ⟨(hS12.se [0, 1, 2, 3]), ?_⟩
     refine rq 8 21 (v := .tuple #[gM_ r_2 B4 c5, .bool r_3]) rfl (hS12.se [0, 1, 2, 3]) (fun w' hw' => (ym (.tuple #[gM_ r_2 B4 c5, .bool r_3]))) ?_
     refine rq 9 30 (v := gM_ r_2 B4 c5) rfl (hS12.se [0, 1, 2, 3]) (fun w' hw' => (ye (gM_ r_2 B4 c5))) ?_
     refine rq 10 31 (v := .bool r_3) rfl (hS12.se [0, 1, 2, 3]) (fun w' hw' => (ye (.bool r_3))) ?_
     refine rA [12] ?_
     refine rZ 12 rfl (yT 4 3 (aD b3) 50 (gM_ r_2 B4 c5) (kM_ r_2 B4 c5) 0 hS12 K4) ?_ ?_
     ·rintro _ w_8 ⟨rfl, hS13⟩
      refine ⟨(hS13.se [0, 1, 2, 3]), ?_⟩
      refine rq 13 10 (v := .bool r_3) rfl (hS13.se [0, 1, 2, 3]) (fun w' hw' => (yg (.bool r_3))) ?_
      refine ra_done (by kernel_rfl) ?_
      exact ⟨aD b3, B4, c5, (fc (hf.g 3 1) (fc (hf.g 4 2) (fc (hf.g 6 3) (fc (hf.g 8 4) (fc rfl fn_))))), (hS13.sel [0, 1, 2, 3, 4, 5] rfl rfl)⟩
     exact aN
    exact aN
   exact aN
  rintro f w ⟨B5, B6, c6, hf1, hS6⟩
  refine cr ?_
  refine sQ 33 (yb B5 0 (kM_ r_2 B6 c6) K9 K4 (hS6.c 4) rfl (hf1.g 9 4)) <| sQ 34 (yb (aD b1) 0 [vi Rows, vi Cols, .slice B3 Cells.length c4] K9 K4 (hS6.c 1) rfl (hf1.g 4 1)) ?_
  obtain ⟨⟨r_4, r_5⟩, hc1, hF2⟩ := bI hF2
  refine sc 35 rfl rfl (yC [gM_ r_2 B6 c6, .agg #[vi Rows, vi Cols, .slice B3 Cells.length c4]] k_call_38 (c_impl_MulMatrix r_2 (TMatrix.mk Rows Cols Cells) B6 c6 r_2.Cells.length B3 c4 Cells.length _ rfl rfl (hS6.inn0 [(false, 5), (false, 2)] rfl) hc1)) ?_
  rintro _ w_9 ⟨B7, c7, rfl, hd2⟩
  have hS14 := hS6.out0 hd2
  refine sQ 32 (ym (.tuple #[gM_ r_4 B7 c7, .bool r_5])) <| sQ 36 (ye (gM_ r_4 B7 c7)) <| sQ 37 (ye (.bool r_5)) ?_
  refine s0 (yT 1 3 (aD b1) 50 (gM_ r_4 B7 c7) (kM_ r_4 B7 c7) 0 hS14 K4 rfl (hf1.g 4 1)) ?_
  rintro _ w_10 ⟨rfl, hS15⟩
  refine sQ 2 (yg (.bool r_5)) (rn (cr ?_))
  refine sQ 19 (ym (vi i) rfl (hf1.g 8 3)) <| sQ 20 (yP i 1) <| sQ 8 (yg (vi (i64.wrap (i + 1)))) (rn ?_)
  obtain rfl := sI hF2
  exact ⟨K7, Nat.lt_succ_self _, r_5, r_4.Rows, r_4.Cols, r_4.Cells, (i64.wrap (i + 1)), B7, c7, (fc rfl (fc (hf1.g 3 0) (fc (hf1.g 4 1) (fc (hf1.g 6 2) (fc rfl fn_))))), (hS15.sel [0, 1, 6, 3] rfl rfl), hL1⟩
 ·skip
  have hF3 := cf' hb hb1
  refine cw_exit rfl ?_
  obtain rfl := sI hF3
  obtain rfl := sI hL1
  refine cq (cr ?_)
  refine sQ 38 (yb (aD b1) 0 [vi Rows, vi Cols, .slice B3 Cells.length c4] K9 K4 (hS4.c 1) rfl (hf.g 4 2)) <| sQ 39 (ym (.bool ok1) rfl (hf.g 2 0)) ?_
  refine s0 (yT 3 3 (aD b2) 50 (.agg #[vi Rows, vi Cols, .slice B3 Cells.length c4]) [vi Rows, vi Cols, .slice B3 Cells.length c4] 0 hS4 K4 rfl (hf.g 6 3)) ?_
  rintro _ w_11 ⟨rfl, hS16⟩
  refine sQ 7 (yg (.bool ok1)) (rn (ct_ ?_))
  obtain ⟨rfl, rfl⟩ := pr2 (sI hF1)
  exact ret2 Tryz.results46 (v1 := .agg #[vi Rows, vi Cols, .slice B3 Cells.length c4]) (resAt_cellA (B := aD b2) (i := 0) (cs := [vi Rows, vi Cols, .slice B3 Cells.length c4]) (vs := [vi Rows, vi Cols, .slice B3 Cells.length c4]) (hf.g 6 3) K9 K4 (hS16.c 3) rfl rfl) (v2 := .bool ok1) (resAt_tmp rfl) ⟨B3, c4, rfl, (hS16.sN [2])⟩

theorem c_impl_OperatorOf (c : TCircuit) (B : Option Addr) (c1 n : Nat) (w0 : World) (hn : c.Gates.length = n) (hS : ST w0 [] w0 [] [⟨B, (c.Gates.flatMap eN0)⟩]) {r_ : TMatrix} {r_1 : Bool} (hF : F_impl_OperatorOf c = some (r_, r_1)) :
  CV Tryz.prog 24 #[.agg #[vi c.Qubits, .slice B n c1]] w0 (fun v w' => ∃ (B1 : Option Addr) (c2 : Nat), v = .tuple #[gM_ r_ B1 c2, .bool r_1] ∧ ST w0 [] w' [⟨B1, 91, (r_.Cells.flatMap eN1), c2 * 5⟩] []) := by
 subst hn
 unfold F_impl_OperatorOf at hF
 refine cv_of_cw 23 Tryz.func24 rfl Tryz.ntmps24 rfl ?_
 refine cq (cr ?_)
 refine sS 1 (yB 30 (.agg #[vi c.Qubits, .slice B c.Gates.length c1]) [vi c.Qubits, .slice B c.Gates.length c1] 2 hS) ?_
 rintro _ w_ ⟨b, rfl, hS1⟩
 refine sS 2 (yN kN_ 3 hS1 K13) ?_
 rintro _ w_1 ⟨b1, rfl, hS2⟩
 refine sQ 3 (yg (.bool false)) (rn (cq (cq (cr ?_))))
 refine sQ 6 (yb (aD b) 0 [vi c.Qubits, .slice B c.Gates.length c1] K27 K18 (hS2.c 0)) ?_
 obtain ⟨r_2, hc, hF⟩ := bI hF
 refine sc 7 rfl rfl (yC [.agg #[vi c.Qubits, .slice B c.Gates.length c1]] k_call_45 (c_impl_IsValidCircuit c B c1 c.Gates.length _ rfl (hS2.inn0 [(true, 0)] rfl) hc)) ?_
 rintro _ w_2 ⟨rfl, hd⟩
 have hS3 := hS2.out00 hd
 refine sQ 8 (Y_not (p := r_2) rfl rfl) (rn ?_)
 refine cw_cond (b := (!r_2)) rfl (fun hb => ?_) (fun hb => ?_)
 ·skip
  have hF1 := ct hF hb
  refine cq (cr ?_)
  refine sQ 9 (Y_buildS (zs := kN_) (vs := []) (cs := kN_) K47 K13 rfl mpn rfl) ?_
  refine s0 (yT 1 3 (aD b1) 50 gN_ kN_ 0 hS3 K4) ?_
  rintro _ w_3 ⟨rfl, hS4⟩
  refine sQ 3 (yg (.bool false)) (rn (ct_ ?_))
  have hS5 := hS4.addNil 91
  obtain ⟨rfl, rfl⟩ := pr2 (sI hF1)
  exact ret2 Tryz.results24 (v1 := gN_) (resAt_cellA (B := aD b1) (i := 0) (cs := kN_) (vs := kN_) rfl K9 K4 (hS5.c 1) rfl rfl) (v2 := .bool false) (resAt_tmp rfl) ⟨none, 0, rfl, (hS5.sN [2])⟩
 ·skip
  have hF2 := cf' hF hb
  refine cw_skip (cq (cr ?_))
  refine sQ 11 (yd (aD b) 0 0 K49 K1) <| sQ 12 (yl (aD b) 0 [vi c.Qubits, .slice B c.Gates.length c1] (vi c.Qubits) K0 (hS3.c 0)) ?_
  obtain ⟨hsh, hF2⟩ := chk_inv hF2
  refine sQ 13 (Y_shl (k := .i64) (a := 1) (k' := .i64) (b := c.Qubits) rfl rfl rfl hsh) ?_
  obtain ⟨⟨r_3, r_4⟩, hc1, hF2⟩ := bI hF2
  refine sc 14 rfl rfl (yC [vi (shlK .i64 1 c.Qubits)] k_call_34 (c_impl_IdentityMatrix (shlK .i64 1 c.Qubits) _  (hS3.inn0 [] rfl) hc1)) ?_
  rintro _ w_4 ⟨B2, c3, rfl, hd1⟩
  have hS6 := hS3.out0 hd1
  refine sQ 10 (ym (.tuple #[gM_ r_3 B2 c3, .bool r_4])) <| sQ 15 (ye (gM_ r_3 B2 c3)) <| sQ 16 (ye (.bool r_4)) ?_
  refine sS 4 (yN kN_ 3 hS6 K13) ?_
  rintro _ w_5 ⟨b2, rfl, hS7⟩
  refine s0 (yT 3 3 (aD b2) 50 (gM_ r_3 B2 c3) (kM_ r_3 B2 c3) 0 hS7 K4) ?_
  rintro _ w_6 ⟨rfl, hS8⟩
  refine sQ 5 (yg (.bool r_4)) (rn (cq (cr ?_)))
  refine sQ 17 (yb (aD b) 0 [vi c.Qubits, .slice B c.Gates.length c1] K27 K18 (hS8.c 0)) <| sQ 18 (yb (aD b2) 0 (kM_ r_3 B2 c3) K9 K4 (hS8.c 3)) <| sQ 19 (ym (.bool r_4)) ?_
  obtain ⟨⟨r_5, r_6⟩, hc2, hF2⟩ := bI hF2
  refine sc 20 rfl rfl (yC [.agg #[vi c.Qubits, .slice B c.Gates.length c1], gM_ r_3 B2 c3, .bool r_4] k_call_46 (c_impl_applied c r_3 r_4 B c1 c.Gates.length B2 c3 r_3.Cells.length _ rfl rfl (hS8.inn [false, false, true, false] rfl [(true, 0)] rfl) hc2)) ?_
  rintro _ w_7 ⟨B3, c4, rfl, hd2⟩
  have hS9 := hS8.out [false, false, true, false] rfl hd2
  refine sQ 21 (ye (gM_ r_5 B3 c4)) <| sQ 22 (ye (.bool r_6)) ?_
  refine s0 (yT 1 3 (aD b1) 50 (gM_ r_5 B3 c4) (kM_ r_5 B3 c4) 0 hS9 K4) ?_
  rintro _ w_8 ⟨rfl, hS10⟩
  refine sQ 3 (yg (.bool r_6)) (rn (ct_ ?_))
  obtain ⟨rfl, rfl⟩ := pr2 (sI hF2)
  exact ret2 Tryz.results24 (v1 := gM_ r_5 B3 c4) (resAt_cellA (B := aD b1) (i := 0) (cs := kM_ r_5 B3 c4) (vs := kM_ r_5 B3 c4) rfl K9 K4 (hS10.c 1) rfl rfl) (v2 := .bool r_6) (resAt_tmp rfl) ⟨B3, c4, rfl, (hS10.sN [3])⟩

theorem c_impl_CanonicalPhase_1 (x : TDyadic)  (w0 : World)  (hS : ST w0 [] w0 [] []) {r_ : Bool} (hF : F_impl_CanonicalPhase_1 x = some r_) :
  CV Tryz.prog 90 #[gD_ x] w0 (fun v w' => v = .bool r_ ∧ ST w0 [] w' [] []) := by
 unfold F_impl_CanonicalPhase_1 at hF
 refine cv_of_cw 6 Tryz.func90 rfl Tryz.ntmps90 rfl ?_
 refine cq (cr ?_)
 refine sS 1 (yB 91 (gD_ x) (kD_ x) 5 hS) ?_
 rintro _ w_ ⟨b, rfl, hS1⟩
 refine sQ 2 (yg (.bool false)) (rn (cq (cr ?_)))
 refine sQ 3 (yb (aD b) 0 (kD_ x) K5 K2 (hS1.c 0)) <| sQ 4 (Y_buildS (zs := kZ_) (vs := []) (cs := kZ_) K22 K8 rfl mpn rfl) <| sQ 5 (Y_neA (xs := #[vi x.Num.A, vi x.Num.B, vi x.Num.C, vi x.Num.D, vi x.Exp]) (ys := #[vi 0, vi 0, vi 0, vi 0, vi 0]) (b := (((x.Num.A == 0) && ((x.Num.B == 0) && ((x.Num.C == 0) && ((x.Num.D == 0) && true)))) && ((x.Exp == 0) && true))) k_eg_91 rfl rfl rfl (eqr_struct (xs := kD_ x) (ys := kZ_) k_st_91 k_ho_91 (pts_ag (us := kR_ x.Num) (vs := [vi 0, vi 0, vi 0, vi 0]) K6 K3 rfl rfl (eqr_struct (xs := kR_ x.Num) (ys := [vi 0, vi 0, vi 0, vi 0]) k_st_89 k_ho_89 (pts_sc K0 rfl rfl (eqr_int K41) (pts_sc K0 rfl rfl (eqr_int K41) (pts_sc K0 rfl rfl (eqr_int K41) (pts_sc K0 rfl rfl (eqr_int K41) pts_nil))))) (pts_sc K0 rfl rfl (eqr_int K41) pts_nil)))) <| sQ 2 (yg (.bool (!(((x.Num.A == 0) && ((x.Num.B == 0) && ((x.Num.C == 0) && ((x.Num.D == 0) && true)))) && ((x.Exp == 0) && true))))) (rn (ct_ ?_))
 obtain rfl := sI hF
 exact ret1 Tryz.results90 (v1 := .bool (!(((x.Num.A == 0) && ((x.Num.B == 0) && ((x.Num.C == 0) && ((x.Num.D == 0) && true)))) && ((x.Exp == 0) && true)))) (resAt_tmp rfl) ⟨rfl, (hS1.sN [])⟩

theorem c_cmp_isNaN_int (x : Int)  (w0 : World)  (hS : ST w0 [] w0 [] []) {r_ : Bool} (hF : F_cmp_isNaN_int x = some r_) :
  CV Tryz.prog 133 #[vi x] w0 (fun v w' => v = .bool r_ ∧ ST w0 [] w' [] []) := by
 unfold F_cmp_isNaN_int at hF
 refine cv_of_cw 6 Tryz.func133 rfl Tryz.ntmps133 rfl ?_
 refine cq (cr ?_)
 refine sQ 2 (yg (.bool false)) (rn (cq (cr ?_)))
 refine sQ 3 (ym (vi x)) <| sQ 4 (ym (vi x)) <| sQ 5 (Y_ne (k := .i64) (a := x) (b := x) rfl rfl rfl) <| sQ 2 (yg (.bool (x != x))) (rn (ct_ ?_))
 obtain rfl := sI hF
 exact ret1 Tryz.results133 (v1 := .bool (x != x)) (resAt_tmp rfl) ⟨rfl, (hS.sN [])⟩

theorem c_cmp_Compare_int (x : Int) (y : Int)  (w0 : World)  (hS : ST w0 [] w0 [] []) {r_ : Int} (hF : F_cmp_Compare_int x y = some r_) :
  CV Tryz.prog 128 #[vi x, vi y] w0 (fun v w' => v = vi r_ ∧ ST w0 [] w' [] []) := by
 unfold F_cmp_Compare_int at hF
 refine cv_of_cw 20 Tryz.func128 rfl Tryz.ntmps128 rfl ?_
 refine cq (cr ?_)
 refine sQ 4 (yg (vi 0)) (rn (cq (cr ?_)))
 refine sQ 7 (ym (vi x)) ?_
 obtain ⟨r_1, hc, hF⟩ := bI hF
 refine sc 8 rfl rfl (yC [vi x] k_call_133 (c_cmp_isNaN_int x _  (hS.inn0 [] rfl) hc)) ?_
 rintro _ w_ ⟨rfl, hd⟩
 have hS1 := hS.out00 hd
 refine sQ 5 (yg (.bool r_1)) (rn (cq (cr ?_)))
 refine sQ 9 (ym (vi y)) ?_
 obtain ⟨r_2, hc1, hF⟩ := bI hF
 refine sc 10 rfl rfl (yC [vi y] k_call_133 (c_cmp_isNaN_int y _  (hS1.inn0 [] rfl) hc1)) ?_
 rintro _ w_1 ⟨rfl, hd1⟩
 have hS2 := hS1.out00 hd1
 refine sQ 6 (yg (.bool r_2)) (rn (cq (cq (cr ?_))))
 refine sQ 11 (ym (.bool r_1)) (rn ?_)
 refine cw_cond (b := r_1) rfl (fun hb => ?_) (fun hb => ?_)
 ·skip
  have hF1 := ct hF hb
  refine cq (cq (cr ?_))
  refine sQ 12 (ym (.bool r_2)) (rn ?_)
  refine cw_cond (b := r_2) rfl (fun hb1 => ?_) (fun hb1 => ?_)
  ·skip
   have hF2 := ct hF1 hb1
   refine cq (cr ?_)
   refine sQ 4 (yg (vi 0)) (rn (ct_ ?_))
   obtain rfl := sI hF2
   exact ret1 Tryz.results128 (v1 := vi 0) (resAt_tmp rfl) ⟨rfl, (hS2.sN [])⟩
  ·skip
   have hF3 := cf' hF1 hb1
   refine cw_skip (cq (cr ?_))
   refine sQ 4 (yg (vi (-1))) (rn (ct_ ?_))
   obtain rfl := sI hF3
   exact ret1 Tryz.results128 (v1 := vi (-1)) (resAt_tmp rfl) ⟨rfl, (hS2.sN [])⟩
 ·skip
  have hF4 := cf' hF hb
  refine cw_skip (cq (cq (cr ?_)))
  refine sQ 13 (ym (.bool r_2)) (rn ?_)
  refine cw_cond (b := r_2) rfl (fun hb2 => ?_) (fun hb2 => ?_)
  ·skip
   have hF5 := ct hF4 hb2
   refine cq (cr ?_)
   refine sQ 4 (yg (vi 1)) (rn (ct_ ?_))
   obtain rfl := sI hF5
   exact ret1 Tryz.results128 (v1 := vi 1) (resAt_tmp rfl) ⟨rfl, (hS2.sN [])⟩
  ·skip
   have hF6 := cf' hF4 hb2
   refine cw_skip (cq (cq (cr ?_)))
   refine sQ 14 (ym (vi x)) <| sQ 15 (ym (vi y)) <| sQ 16 (yL x y) (rn ?_)
   refine cw_cond (b := (decide (x < y))) rfl (fun hb3 => ?_) (fun hb3 => ?_)
   ·skip
    have hF7 := ct hF6 hb3
    refine cq (cr ?_)
    refine sQ 4 (yg (vi (-1))) (rn (ct_ ?_))
    obtain rfl := sI hF7
    exact ret1 Tryz.results128 (v1 := vi (-1)) (resAt_tmp rfl) ⟨rfl, (hS2.sN [])⟩
   ·skip
    have hF8 := cf' hF6 hb3
    refine cw_skip (cq (cq (cr ?_)))
    refine sQ 17 (ym (vi x)) <| sQ 18 (ym (vi y)) <| sQ 19 (Y_gt (k := .i64) (a := x) (b := y) rfl rfl rfl) (rn ?_)
    refine cw_cond (b := (decide (y < x))) rfl (fun hb4 => ?_) (fun hb4 => ?_)
    ·skip
     have hF9 := ct hF8 hb4
     refine cq (cr ?_)
     refine sQ 4 (yg (vi 1)) (rn (ct_ ?_))
     obtain rfl := sI hF9
     exact ret1 Tryz.results128 (v1 := vi 1) (resAt_tmp rfl) ⟨rfl, (hS2.sN [])⟩
    ·skip
     have hF10 := cf' hF8 hb4
     refine cw_skip (cq (cr ?_))
     refine sQ 4 (yg (vi 0)) (rn (ct_ ?_))
     obtain rfl := sI hF10
     exact ret1 Tryz.results128 (v1 := vi 0) (resAt_tmp rfl) ⟨rfl, (hS2.sN [])⟩

theorem c_slices_Compare_int_int (s1 : List Int) (s2 : List Int) (B : Option Addr) (c n : Nat) (B1 : Option Addr) (c1 n1 : Nat) (w0 : World) (hn : s1.length = n) (hn1 : s2.length = n1) (hS : ST w0 [] w0 [] [⟨B, (s1.flatMap encI)⟩, ⟨B1, (s2.flatMap encI)⟩]) {r_ : Int} (hF : F_slices_Compare_int_int s1 s2 = some r_) :
  CV Tryz.prog 114 #[.slice B n c, .slice B1 n1 c1] w0 (fun v w' => v = vi r_ ∧ ST w0 [] w' [] []) := by
 subst hn
 subst hn1
 unfold F_slices_Compare_int_int at hF
 refine cv_of_cw 36 Tryz.func114 rfl Tryz.ntmps114 rfl ?_
 refine cq (cr ?_)
 refine sQ 4 (yg (vi 0)) (rn (cq (cq (cr ?_))))
 refine sQ 9 (ym (.slice B s1.length c)) <| sQ 10 (Y_len (B := B) (m := s1.length) (c := c) K25 rfl rfl) <| sQ 11 (ym (vi 0)) (rn ?_)
 obtain ⟨hN, hF⟩ := chk_inv hF
 obtain ⟨z, hz, hF1⟩ := bI hF
 refine cw_block ?_
 refine cw_loop (fun k f w => ∃ (i : Nat), FF f [(0, .slice B s1.length c), (1, .slice B1 s2.length c1), (9, .slice B s1.length c), (10, vi (s1.length : Int)), (11, vi (i : Int))] ∧ ST w0 [] w [] [⟨B, (s1.flatMap encI)⟩, ⟨B1, (s2.flatMap encI)⟩] ∧ i + k = s1.length ∧ forX (F_slices_Compare_int_int_l1 s1 s2) k i () = some z) s1.length ⟨0, (fc rfl (fc rfl (fc rfl (fc rfl (fc rfl fn_))))), (hS.sel [] rfl rfl), Nat.zero_add _, hz⟩ ?_
 rintro k_ f w ⟨i, hf, hS1, hik, hL⟩
 refine cq (cr ?_)
 refine sQ 12 (yL (i : Int) (s1.length : Int) rfl (hf.g 11 4) (hf.g 10 3)) (rn (cq ?_))
 refine cw_cond (b := (decide ((i : Int) < (s1.length : Int)))) rfl (fun hlt => ?_) (fun hlt => ?_)
 ·skip
  have hlt1 : i < s1.length := by have h := of_decide_eq_true hlt; omega
  obtain ⟨K7, rfl⟩ : ∃ k2, k_ = k2 + 1 := ⟨k_ - 1, by omega⟩
  obtain ⟨y, hb, hL1⟩ := forX_go hL
  unfold F_slices_Compare_int_int_l1 at hb
  refine cw_skip (cq (cw_block (cq (cr ?_))))
  refine sQ 13 (ym (vi (i : Int)) rfl (hf.g 11 4)) ?_
  obtain ⟨x, hx, hb⟩ := bI hb
  refine sQ 14 (Y_index (B := B) (m := s1.length) (c := c) (k := .i64) (i := (i : Int)) K25 K1 rfl (hf.g 9 2) (hf.g 11 4) (gi_isSome encI_len rfl (hS1.rf (i := 0) rfl) hx) (getI_nn hx) (getI_ltI hx rfl)) <| sQ 15 (yl B ((i : Int).toNat * 1) (s1.flatMap encI) (vi x) K0 (hS1.rf (i := 0) rfl) rfl rfl (gi_at0 encI_len hx rfl)) <| sQ 5 (yg (vi (i : Int))) <| sQ 6 (yg (vi x)) (rn (cq (cq (cr ?_))))
  refine sQ 16 (ym (vi (i : Int))) <| sQ 17 (ym (.slice B1 s2.length c1) rfl (hf.g 1 1)) <| sQ 18 (Y_len (B := B1) (m := s2.length) (c := c1) K25 rfl rfl) <| sQ 19 (Y_ge (k := .i64) (a := (i : Int)) (b := (s2.length : Int)) rfl rfl rfl) (rn ?_)
  refine cw_cond (b := (decide ((s2.length : Int) ≤ (i : Int)))) rfl (fun hb1 => ?_) (fun hb1 => ?_)
  ·skip
   have hF2 := ct hb hb1
   refine cq (cr ?_)
   refine sQ 4 (yg (vi 1)) (rn (ct_ ?_))
   obtain rfl := sI hF2
   obtain rfl := sI hL1
   obtain rfl := sI hF1
   exact ret1 Tryz.results114 (v1 := vi 1) (resAt_tmp rfl) ⟨rfl, (hS1.sN [])⟩
  ·skip
   have hF3 := cf' hb hb1
   refine cw_skip (cq (cr ?_))
   refine sQ 20 (ym (.slice B1 s2.length c1) rfl (hf.g 1 1)) <| sQ 21 (ym (vi (i : Int))) ?_
   obtain ⟨x1, hx1, hF3⟩ := bI hF3
   refine sQ 22 (Y_index (B := B1) (m := s2.length) (c := c1) (k := .i64) (i := (i : Int)) K25 K1 rfl rfl rfl (gi_isSome encI_len rfl (hS1.rf (i := 1) rfl) hx1) (getI_nn hx1) (getI_ltI hx1 rfl)) <| sQ 23 (yl B1 ((i : Int).toNat * 1) (s2.flatMap encI) (vi x1) K0 (hS1.rf (i := 1) rfl) rfl rfl (gi_at0 encI_len hx1 rfl)) <| sQ 7 (yg (vi x1)) (rn (cq (cr ?_)))
   refine sQ 24 (ym (vi x)) <| sQ 25 (ym (vi x1)) ?_
   obtain ⟨r_1, hc, hF3⟩ := bI hF3
   refine sc 26 rfl rfl (yC [vi x, vi x1] k_call_128 (c_cmp_Compare_int x x1 _  (hS1.inn0 [] rfl) hc)) ?_
   rintro _ w_ ⟨rfl, hd⟩
   have hS2 := hS1.out00 hd
   refine sQ 8 (yg (vi r_1)) (rn (cq (cr ?_)))
   refine sQ 27 (ym (vi r_1)) <| sQ 28 (Y_ne (k := .i64) (a := r_1) (b := 0) rfl rfl rfl) (rn ?_)
   refine cw_cond (b := (r_1 != 0)) rfl (fun hb2 => ?_) (fun hb2 => ?_)
   ·skip
    have hF4 := ct hF3 hb2
    refine cq (cr ?_)
    refine sQ 29 (ym (vi r_1)) <| sQ 4 (yg (vi r_1)) (rn (ct_ ?_))
    obtain rfl := sI hF4
    obtain rfl := sI hL1
    obtain rfl := sI hF1
    exact ret1 Tryz.results114 (v1 := vi r_1) (resAt_tmp rfl) ⟨rfl, (hS2.sN [])⟩
   ·skip
    have hF5 := cf' hF3 hb2
    refine cw_skip (cr ?_)
    refine sQ 30 (yP (i : Int) 1 rfl (hf.g 11 4)) <| sQ 11 (ym (vi (i64.wrap ((i : Int) + 1)))) (rn ?_)
    obtain rfl := sI hF5
    exact ⟨K7, Nat.lt_succ_self _, i + 1, (fc (hf.g 0 0) (fc (hf.g 1 1) (fc (hf.g 9 2) (fc (hf.g 10 3) (fc (congrArg (Value.int .i64) (wr_succ hlt1 hN)) fn_))))), (hS2.sel [] rfl rfl), (by omega), hL1⟩
 ·skip
  obtain rfl : k_ = 0 := by have h := of_decide_eq_false hlt; omega
  refine cw_exit rfl ?_
  obtain rfl := sI hL
  refine cq (cq (cr ?_))
  refine sQ 31 (ym (.slice B s1.length c) rfl (hf.g 0 0)) <| sQ 32 (Y_len (B := B) (m := s1.length) (c := c) K25 rfl rfl) <| sQ 33 (ym (.slice B1 s2.length c1) rfl (hf.g 1 1)) <| sQ 34 (Y_len (B := B1) (m := s2.length) (c := c1) K25 rfl rfl) <| sQ 35 (yL (s1.length : Int) (s2.length : Int)) (rn ?_)
  refine cw_cond (b := (decide ((s1.length : Int) < (s2.length : Int)))) rfl (fun hb3 => ?_) (fun hb3 => ?_)
  ·skip
   have hF6 := ct hF1 hb3
   refine cq (cr ?_)
   refine sQ 4 (yg (vi (-1))) (rn (ct_ ?_))
   obtain rfl := sI hF6
   exact ret1 Tryz.results114 (v1 := vi (-1)) (resAt_tmp rfl) ⟨rfl, (hS1.sN [])⟩
  ·skip
   have hF7 := cf' hF1 hb3
   refine cw_skip (cq (cr ?_))
   refine sQ 4 (yg (vi 0)) (rn (ct_ ?_))
   obtain rfl := sI hF7
   exact ret1 Tryz.results114 (v1 := vi 0) (resAt_tmp rfl) ⟨rfl, (hS1.sN [])⟩

theorem c_impl_compareRings (x : TRing) (y : TRing)  (w0 : World)  (hS : ST w0 [] w0 [] []) {r_ : Int} (hF : F_impl_compareRings x y = some r_) :
  CV Tryz.prog 92 #[gR_ x, gR_ y] w0 (fun v w' => v = vi r_ ∧ ST w0 [] w' [] []) := by
 unfold F_impl_compareRings at hF
 refine cv_of_cw 24 Tryz.func92 rfl Tryz.ntmps92 rfl ?_
 refine cq (cr ?_)
 refine sS 2 (yB 89 (gR_ x) (kR_ x) 4 hS) ?_
 rintro _ w_ ⟨b, rfl, hS1⟩
 refine sS 3 (yB 89 (gR_ y) (kR_ y) 4 hS1) ?_
 rintro _ w_1 ⟨b1, rfl, hS2⟩
 refine sQ 4 (yg (vi 0)) (rn (cq (cr ?_)))
 refine sQ 5 (yd (aD b) 0 0 K14 K1) <| sQ 6 (yl (aD b) 0 (kR_ x) (vi x.A) K0 (hS2.c 0)) <| sQ 7 (yd (aD b) 0 0 K16 K1) <| sQ 8 (yl (aD b) 1 (kR_ x) (vi x.B) K0 (hS2.c 0)) <| sQ 9 (yd (aD b) 0 0 K17 K1) <| sQ 10 (yl (aD b) 2 (kR_ x) (vi x.C) K0 (hS2.c 0)) ?_
 refine sQ 11 (yd (aD b) 0 0 K15 K1) <| sQ 12 (yl (aD b) 3 (kR_ x) (vi x.D) K0 (hS2.c 0)) ?_
 refine sS 13 (Ys_bslice (s := 1) (len := 4) (vs := [(0, vi x.A), (1, vi x.B), (2, vi x.C), (3, vi x.D)]) (cs := kR_ x) (zs := [vi 0, vi 0, vi 0, vi 0]) (m := 4) hS2 K25 K1 K53 rfl (mpc rfl (mpc rfl (mpc rfl (mpc rfl mpn)))) rfl rfl rfl (by kernel_rfl) (by kernel_rfl) rfl) ?_
 rintro _ w_2 ⟨b2, rfl, hS3⟩
 refine sQ 14 (yd (aD b1) 0 0 K14 K1) <| sQ 15 (yl (aD b1) 0 (kR_ y) (vi y.A) K0 (hS3.c 1)) <| sQ 16 (yd (aD b1) 0 0 K16 K1) <| sQ 17 (yl (aD b1) 1 (kR_ y) (vi y.B) K0 (hS3.c 1)) <| sQ 18 (yd (aD b1) 0 0 K17 K1) <| sQ 19 (yl (aD b1) 2 (kR_ y) (vi y.C) K0 (hS3.c 1)) ?_
 refine sQ 20 (yd (aD b1) 0 0 K15 K1) <| sQ 21 (yl (aD b1) 3 (kR_ y) (vi y.D) K0 (hS3.c 1)) ?_
 refine sS 22 (Ys_bslice (s := 1) (len := 4) (vs := [(0, vi y.A), (1, vi y.B), (2, vi y.C), (3, vi y.D)]) (cs := kR_ y) (zs := [vi 0, vi 0, vi 0, vi 0]) (m := 4) hS3 K25 K1 K53 rfl (mpc rfl (mpc rfl (mpc rfl (mpc rfl mpn)))) rfl rfl rfl (by kernel_rfl) (by kernel_rfl) rfl) ?_
 rintro _ w_3 ⟨b3, rfl, hS4⟩
 obtain ⟨r_1, hc, hF⟩ := bI hF
 refine sc 23 rfl rfl (yC [.slice (aD b2) 4 4, .slice (aD b3) 4 4] k_call_114 (c_slices_Compare_int_int [x.A, x.B, x.C, x.D] [y.A, y.B, y.C, y.D] (aD b2) 4 4 (aD b3) 4 4 _ rfl rfl (hS4.inn0 [(false, 2), (false, 3)] rfl) hc)) ?_
 rintro _ w_4 ⟨rfl, hd⟩
 have hS5 := hS4.out00 hd
 refine sQ 4 (yg (vi r_1)) (rn (ct_ ?_))
 obtain rfl := sI hF
 exact ret1 Tryz.results92 (v1 := vi r_1) (resAt_tmp rfl) ⟨rfl, (hS5.sN [])⟩

theorem c_impl_ScaleMatrix_1 (i : Int) (j : Int) (p : TMatrix) (p1 : TDyadic) (B : Option Addr) (B1 : Option Addr) (c n : Nat) (B2 : Option Addr) (w0 : World) (hn : p.Cells.length = n) (hS : ST w0 [] w0 [] [⟨B, [vi p.Rows, vi p.Cols, .slice B1 n c]⟩, ⟨B1, (p.Cells.flatMap eN1)⟩, ⟨B2, kD_ p1⟩]) {r_ : TDyadic} {r_1 : Bool} (hF : F_impl_ScaleMatrix_1 i j p p1 = some (r_, r_1)) :
  CV Tryz.prog 115 #[vi i, vi j, pt B 0, pt B2 0] w0 (fun v w' => v = .tuple #[gD_ r_, .bool r_1] ∧ ST w0 [] w' [] []) := by
 subst hn
 unfold F_impl_ScaleMatrix_1 at hF
 refine cv_of_cw 16 Tryz.func115 rfl Tryz.ntmps115 rfl ?_
 refine cq (cr ?_)
 refine sS 6 (yN kZ_ 5 hS K8) ?_
 rintro _ w_ ⟨b, rfl, hS1⟩
 refine sQ 7 (yg (.bool false)) (rn (cq ?_))
 obtain ⟨r_2, hc, hF⟩ := bI hF
 obtain ⟨⟨r_3, r_4⟩, hc1, hF⟩ := bI hF
 refine ra_start (hS1.se []).fn (by kernel_rfl) ?_
 have hS4 := hS1.drew
 refine rq 0 8 (v := gM_ p B1 c) rfl (hS4.se []) (fun w' hw' => (yb B 0 (kM_ p B1 c) K9 K4 (ST.rf hw' (i := 0) rfl))) ?_
 refine rq 1 9 (v := vi i) rfl (hS4.se []) (fun w' hw' => (ym (vi i))) ?_
 refine rq 2 10 (v := vi j) rfl (hS4.se []) (fun w' hw' => (ym (vi j))) ?_
 refine rq 4 12 (v := gD_ p1) rfl (hS4.se []) (fun w' hw' => (yb B2 0 (kD_ p1) K5 K2 (ST.rf hw' (i := 2) rfl))) ?_
 refine rA [3] ?_
 refine rC 11 3 rfl (yC [gM_ p B1 c, vi i, vi j] K73 (c_impl_Matrix_at p i j B1 c p.Cells.length _ rfl (hS4.inn0 [(true, 1)] rfl) hc)) ?_ ?_
 ·rintro _ w_1 ⟨rfl, hd⟩
  have hS5 := hS4.out00 hd
  refine ⟨(hS5.se []), ?_⟩
  refine rA [5] ?_
  refine rC 13 5 rfl (yC [gD_ r_2, gD_ p1] K78 (c_impl_MulDyadic r_2 p1 _  (hS5.inn0 [] rfl) hc1)) ?_ ?_
  ·rintro _ w_2 ⟨rfl, hd1⟩
   have hS6 := hS5.out00 hd1
   refine ⟨(hS6.se []), ?_⟩
   refine rq 6 14 (v := gD_ r_3) rfl (hS6.se []) (fun w' hw' => (ye (gD_ r_3))) ?_
   refine rq 7 15 (v := .bool r_4) rfl (hS6.se []) (fun w' hw' => (ye (.bool r_4))) ?_
   refine rA [8] ?_
   refine rZ 8 rfl (yT 0 5 (aD b) 91 (gD_ r_3) (kD_ r_3) 0 hS6 K2) ?_ ?_
   ·rintro _ w_3 ⟨rfl, hS7⟩
    refine ⟨(hS7.se []), ?_⟩
    refine rq 9 7 (v := .bool r_4) rfl (hS7.se []) (fun w' hw' => (yg (.bool r_4))) ?_
    refine ra_done (by kernel_rfl) ?_
    refine ct_ ?_
    obtain ⟨rfl, rfl⟩ := pr2 (sI hF)
    exact ret2 Tryz.results115 (v1 := gD_ r_3) (resAt_cellA (B := aD b) (i := 0) (cs := kD_ r_3) (vs := kD_ r_3) rfl K5 K2 (hS7.c 0) rfl rfl) (v2 := .bool r_4) (resAt_tmp rfl) ⟨rfl, (hS7.sN [])⟩
   exact aN
  exact aN
 exact aN

theorem c_impl_ScaleMatrix (m : TMatrix) (x : TDyadic) (B : Option Addr) (c n : Nat) (w0 : World) (hn : m.Cells.length = n) (hS : ST w0 [] w0 [] [⟨B, (m.Cells.flatMap eN1)⟩]) {r_ : TMatrix} {r_1 : Bool} (hF : F_impl_ScaleMatrix m x = some (r_, r_1)) :
  CV Tryz.prog 93 #[.agg #[vi m.Rows, vi m.Cols, .slice B n c], gD_ x] w0 (fun v w' => ∃ (B1 : Option Addr) (c1 : Nat), v = .tuple #[gM_ r_ B1 c1, .bool r_1] ∧ ST w0 [] w' [⟨B1, 91, (r_.Cells.flatMap eN1), c1 * 5⟩] []) := by
 subst hn
 unfold F_impl_ScaleMatrix at hF
 refine cv_of_cw 23 Tryz.func93 rfl Tryz.ntmps93 rfl ?_
 refine cq (cr ?_)
 refine sS 2 (yB 50 (gM_ m B c) (kM_ m B c) 3 hS) ?_
 rintro _ w_ ⟨b, rfl, hS1⟩
 refine sS 3 (yB 91 (gD_ x) (kD_ x) 5 hS1) ?_
 rintro _ w_1 ⟨b1, rfl, hS2⟩
 refine sS 4 (yN kN_ 3 hS2 K13) ?_
 rintro _ w_2 ⟨b2, rfl, hS3⟩
 refine sQ 5 (yg (.bool false)) (rn (cq (cq (cr ?_))))
 refine sQ 6 (yb (aD b) 0 (kM_ m B c) K9 K4 (hS3.c 0)) ?_
 obtain ⟨r_2, hc, hF⟩ := bI hF
 refine sc 7 rfl rfl (yC [gM_ m B c] K86 (c_impl_IsValidMatrix m B c m.Cells.length _ rfl (hS3.inn0 [(true, 0)] rfl) hc)) ?_
 rintro _ w_3 ⟨rfl, hd⟩
 have hS4 := hS3.out00 hd
 refine sQ 8 (Y_not (p := r_2) rfl rfl) <| sQ 9 (ym (.bool (!r_2))) ?_
 refine sgq 10 (B := (!(!r_2))) (v := gD_ x) rfl rfl (uF_ 9) (fun hg => (yb (aD b1) 0 (kD_ x) K5 K2 (hS4.c 1))) ?_
 obtain ⟨r_3, hc1, hF⟩ := bI hF
 refine sgc 11 (B := (!(!r_2))) (v := .bool r_3) (F := hS4.fn) rfl rfl (uF_ 9) hS4 (fun hg1 => (yC [gD_ x] K65 (CV.mono (c_impl_IsValidDyadic x _  (hS4.inn0 [] rfl) (gb_inv hc1 hg1)) (by rintro _ _ ⟨rfl, h⟩; exact ⟨rfl, hS4.out00 h⟩)) rfl (mc (gv_of (v := gD_ x) hg1) mn))) ?_
 rintro w_4 hS5
 refine sgq 12 (B := (!(!r_2))) (v := .bool (!r_3)) rfl rfl (uF_ 9) (fun hg2 => (Y_not (p := r_3) rfl (gv_of (v := .bool r_3) hg2))) ?_
 refine sQ 13 (Y_or (b := (!r_2)) (z := (!r_3)) rfl rfl rfl rfl) (rn ?_)
 refine cw_cond (b := ((!r_2) || (!r_3))) rfl (fun hb => ?_) (fun hb => ?_)
 ·skip
  have hF1 := ct hF hb
  refine cq (cr ?_)
  refine sQ 14 (Y_buildS (zs := kN_) (vs := []) (cs := kN_) K47 K13 rfl mpn rfl) ?_
  refine s0 (yT 2 3 (aD b2) 50 gN_ kN_ 0 hS5 K4) ?_
  rintro _ w_5 ⟨rfl, hS6⟩
  refine sQ 5 (yg (.bool false)) (rn (ct_ ?_))
  have hS7 := hS6.addNil 91
  obtain ⟨rfl, rfl⟩ := pr2 (sI hF1)
  exact ret2 Tryz.results93 (v1 := gN_) (resAt_cellA (B := aD b2) (i := 0) (cs := kN_) (vs := kN_) rfl K9 K4 (hS7.c 2) rfl rfl) (v2 := .bool false) (resAt_tmp rfl) ⟨none, 0, rfl, (hS7.sN [3])⟩
 ·skip
  have hF2 := cf' hF hb
  refine cw_skip (cq (cr ?_))
  refine sQ 15 (yd (aD b) 0 0 K33 K1) <| sQ 16 (yl (aD b) 0 (kM_ m B c) (vi m.Rows) K0 (hS5.c 0)) <| sQ 17 (yd (aD b) 0 0 K36 K1) <| sQ 18 (yl (aD b) 1 (kM_ m B c) (vi m.Cols) K0 (hS5.c 0)) <| sQ 19 (Y_makeFunc (cs := [pt (aD b) 0, pt (aD b1) 0]) rfl rfl (mc rfl (mc rfl mn))) ?_
  obtain ⟨⟨r_4, r_5⟩, hc2, hF2⟩ := bI hF2
  refine sc 20 rfl rfl (yC [vi m.Rows, vi m.Cols, .func (.func 115) #[] #[pt (aD b) 0, pt (aD b1) 0]] K82 (c_impl_matrixOf m.Rows m.Cols (fun x_0 x_1 => F_impl_ScaleMatrix_1 x_0 x_1 m x) 115 (#[pt (aD b) 0, pt (aD b1) 0]) [⟨aD b, kM_ m B c⟩, ⟨B, (m.Cells.flatMap eN1)⟩, ⟨aD b1, kD_ x⟩] _ k_call_115 (fun w hw x_0 x_1 y_0 y_1 h_ => c_impl_ScaleMatrix_1 x_0 x_1 m x (aD b) B c m.Cells.length (aD b1) w rfl hw h_) (hS5.inn0 [(false, 0), (true, 0), (false, 1)] rfl) hc2)) ?_
  rintro _ w_6 ⟨B2, c2, rfl, hd1⟩
  have hS8 := hS5.out0 hd1
  refine sQ 21 (ye (gM_ r_4 B2 c2)) <| sQ 22 (ye (.bool r_5)) ?_
  refine s0 (yT 2 3 (aD b2) 50 (gM_ r_4 B2 c2) (kM_ r_4 B2 c2) 0 hS8 K4) ?_
  rintro _ w_7 ⟨rfl, hS9⟩
  refine sQ 5 (yg (.bool r_5)) (rn (ct_ ?_))
  obtain ⟨rfl, rfl⟩ := pr2 (sI hF2)
  exact ret2 Tryz.results93 (v1 := gM_ r_4 B2 c2) (resAt_cellA (B := aD b2) (i := 0) (cs := kM_ r_4 B2 c2) (vs := kM_ r_4 B2 c2) rfl K9 K4 (hS9.c 2) rfl rfl) (v2 := .bool r_5) (resAt_tmp rfl) ⟨B2, c2, rfl, (hS9.sN [3])⟩
end Go.VK
