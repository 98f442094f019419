/- Walks: each Go function returns what its Lean function says. By program. -/
import Derived.Test.YtgacclcoghlhmaaNormalizeCliffordFa
import Derived.Test.YtgacclcoghlhmaaNormalizeCliffordShelf
import Derived.Test.YtgacclcoghlhmaaLibQ
import Derived.Test.YtgacclcoghlhmaaNormalizeCliffordW4
set_option linter.unusedVariables false
set_option maxRecDepth 100000
set_option maxHeartbeats 4000000
namespace Go.VK
open Go.RowKit
open Go.Proofs
open Go.IntKind
attribute [local irreducible] CW RW RA CV Y Yw Yc Ys RetOf
attribute [local irreducible] F_impl_within F_impl_IsValidCircuit F_impl_CountT F_impl_identity F_math_bits_OnesCount F_impl_compose F_impl_gateTableau F_impl_TableauOf F_slices_Concat_impl_Pauli_impl_Pauli F_slices_IndexFunc_impl_Pauli_impl_Pauli F_slices_ContainsFunc_impl_Pauli_impl_Pauli F_impl_IsValidPauli F_impl_isImage F_impl_IsValidTableau_1 F_impl_commute F_impl_IsValidTableau F_impl_circuitIf F_impl_letterOf F_impl_reducer_add
theorem c_impl_gateTableau (n : Int) (g : TGate)  (w0 : World)  (hS : ST w0 [] w0 [] []) {r_ : TTableau} (hF : F_impl_gateTableau n g = some r_) :
  CV Try.prog 30 #[vi n, .agg #[vi g.Kind, vi g.A, vi g.B]] w0 (fun v w' => ∃ (B : Option Addr) (c : Nat) (B1 : Option Addr) (c1 : Nat), v = .agg #[vi r_.Qubits, .slice B r_.XImages.length c, .slice B1 r_.ZImages.length c1] ∧ ST w0 [] w' [⟨B, 71, (r_.XImages.flatMap eN0), c * 3⟩, ⟨B1, 71, (r_.ZImages.flatMap eN0), c1 * 3⟩] []) := by
 unfold F_impl_gateTableau at hF
 refine cv_of_cw 153 Try.func30 rfl Try.ntmps30 rfl ?_
 refine cq (cr ?_)
 refine sS 3 (yB 55 (.agg #[vi g.Kind, vi g.A, vi g.B]) [vi g.Kind, vi g.A, vi g.B] 3 hS) ?_
 rintro _ w_ ⟨b, rfl, hS1⟩
 refine sS 4 (yN [vi 0, .slice none 0 0, .slice none 0 0] 3 hS1 K31) ?_
 rintro _ w_1 ⟨b1, rfl, hS2⟩
 refine rn (cq (cr ?_))
 refine sQ 8 (ym (vi n)) ?_
 obtain ⟨r_1, hc, hF⟩ := bI hF
 refine sc 9 rfl rfl (yC [vi n] k_call_28 (c_impl_identity n _  (hS2.inn0 [] rfl) hc)) ?_
 rintro _ w_2 ⟨B2, c2, B3, c3, rfl, hd⟩
 have hS3 := hS2.out0 hd
 refine sS 5 (yN [vi 0, .slice none 0 0, .slice none 0 0] 3 hS3 K31) ?_
 rintro _ w_3 ⟨b2, rfl, hS4⟩
 refine s0 (yT 4 3 (aD b2) 40 (.agg #[vi r_1.Qubits, .slice B2 r_1.XImages.length c2, .slice B3 r_1.ZImages.length c3]) [vi r_1.Qubits, .slice B2 r_1.XImages.length c2, .slice B3 r_1.ZImages.length c3] 0 hS4 K10) ?_
 rintro _ w_4 ⟨rfl, hS5⟩
 refine rn (cq ?_)
 obtain ⟨hsh, hF⟩ := chk_inv hF
 obtain ⟨hsh1, hF⟩ := chk_inv hF
 refine ra_start (hS5.se [0, 1, 2, 3, 4]).fn (by kernel_rfl) ?_
 have hS6 := hS5.drew
 refine rq 0 10 (v := pt (aD b) 1) rfl (hS6.se [0, 1, 2, 3, 4]) (fun w' hw' => (yd (aD b) 0 0 K18 K3)) ?_
 refine rq 1 11 (v := vi g.A) rfl (hS6.se [0, 1, 2, 3, 4]) (fun w' hw' => (yl (aD b) 1 [vi g.Kind, vi g.A, vi g.B] (vi g.A) K4 (ST.cf hw' (i := 0) rfl))) ?_
 refine rq 2 12 (v := vi (shlK .i64 1 g.A)) rfl (hS6.se [0, 1, 2, 3, 4]) (fun w' hw' => (Y_shl (k := .i64) (a := 1) (k' := .i64) (b := g.A) rfl rfl rfl hsh)) ?_
 refine rq 3 13 (v := pt (aD b) 2) rfl (hS6.se [0, 1, 2, 3, 4]) (fun w' hw' => (yd (aD b) 0 0 K25 K3)) ?_
 refine rq 4 14 (v := vi g.B) rfl (hS6.se [0, 1, 2, 3, 4]) (fun w' hw' => (yl (aD b) 2 [vi g.Kind, vi g.A, vi g.B] (vi g.B) K4 (ST.cf hw' (i := 0) rfl))) ?_
 refine rq 5 15 (v := vi (shlK .i64 1 g.B)) rfl (hS6.se [0, 1, 2, 3, 4]) (fun w' hw' => (Y_shl (k := .i64) (a := 1) (k' := .i64) (b := g.B) rfl rfl rfl hsh1)) ?_
 refine rq 6 6 (v := vi (shlK .i64 1 g.A)) rfl (hS6.se [0, 1, 2, 3, 4]) (fun w' hw' => (yg (vi (shlK .i64 1 g.A)))) ?_
 refine rq 7 7 (v := vi (shlK .i64 1 g.B)) rfl (hS6.se [0, 1, 2, 3, 4]) (fun w' hw' => (yg (vi (shlK .i64 1 g.B)))) ?_
 refine ra_done (by kernel_rfl) ?_
 refine cq ?_
 obtain ⟨z, hz, hF1⟩ := bI hF
 refine cw_mid (fun f w => ∃ (XImages : List TPauli) (ZImages : List TPauli), (XImages, ZImages) = z ∧ FF f [(4, pt (aD b1) 0), (5, pt (aD b2) 0)] ∧ XImages.length = r_1.XImages.length ∧ ZImages.length = r_1.ZImages.length ∧ ST w0 [] w [⟨aD b1, 40, [vi 0, .slice none 0 0, .slice none 0 0], 3⟩, ⟨aD b2, 40, [vi r_1.Qubits, .slice B2 r_1.XImages.length c2, .slice B3 r_1.ZImages.length c3], 3⟩, ⟨B2, 71, (XImages.flatMap eN0), c2 * 3⟩, ⟨B3, 71, (ZImages.flatMap eN0), c3 * 3⟩] []) ?_ ?_
 ·skip
  refine cq (cr ?_)
  refine sQ 16 (yd (aD b) 0 0 K36 K3) <| sQ 17 (yl (aD b) 0 [vi g.Kind, vi g.A, vi g.B] (vi g.Kind) K4 (hS6.c 0)) (rn (cw_block (cq (cr ?_))))
  refine sQ 19 (yE g.Kind 1) <| sQ 18 (yg (.bool (g.Kind == 1))) (rn ?_)
  refine cw_cond (b := (g.Kind == 1)) rfl (fun hb => ?_) (fun hb => ?_)
  ·skip
   have hF2 := ct hz hb
   obtain ⟨x, hx, hF2⟩ := bI hF2
   obtain ⟨x1, hx1, hF2⟩ := bI hF2
   refine ra_start (hS6.se [0, 1, 4]).fn (by kernel_rfl) ?_
   have hS8 := hS6.drew
   refine rq 0 20 (v := pt (aD b2) 1) rfl (hS8.se [0, 1, 4]) (fun w' hw' => (yd (aD b2) 0 0 K9 K1)) ?_
   refine rq 1 21 (v := .slice B2 r_1.XImages.length c2) rfl (hS8.se [0, 1, 4]) (fun w' hw' => (yl (aD b2) 1 [vi r_1.Qubits, .slice B2 r_1.XImages.length c2, .slice B3 r_1.ZImages.length c3] (.slice B2 r_1.XImages.length c2) K6 (ST.cf hw' (i := 2) rfl))) ?_
   refine rq 2 22 (v := pt (aD b) 1) rfl (hS8.se [0, 1, 4]) (fun w' hw' => (yd (aD b) 0 0 K18 K3)) ?_
   refine rq 3 23 (v := vi g.A) rfl (hS8.se [0, 1, 4]) (fun w' hw' => (yl (aD b) 1 [vi g.Kind, vi g.A, vi g.B] (vi g.A) K4 (ST.cf hw' (i := 0) rfl))) ?_
   refine rq 4 24 (v := pt (aD b2) 2) rfl (hS8.se [0, 1, 4]) (fun w' hw' => (yd (aD b2) 0 0 K11 K1)) ?_
   refine rq 5 25 (v := .slice B3 r_1.ZImages.length c3) rfl (hS8.se [0, 1, 4]) (fun w' hw' => (yl (aD b2) 2 [vi r_1.Qubits, .slice B2 r_1.XImages.length c2, .slice B3 r_1.ZImages.length c3] (.slice B3 r_1.ZImages.length c3) K6 (ST.cf hw' (i := 2) rfl))) ?_
   refine rq 6 26 (v := pt (aD b) 1) rfl (hS8.se [0, 1, 4]) (fun w' hw' => (yd (aD b) 0 0 K18 K3)) ?_
   refine rq 7 27 (v := vi g.A) rfl (hS8.se [0, 1, 4]) (fun w' hw' => (yl (aD b) 1 [vi g.Kind, vi g.A, vi g.B] (vi g.A) K4 (ST.cf hw' (i := 0) rfl))) ?_
   refine rq 8 28 (v := vi (shlK .i64 1 g.A)) rfl (hS8.se [0, 1, 4]) (fun w' hw' => (ym (vi (shlK .i64 1 g.A)))) ?_
   refine rq 9 29 (v := .agg #[vi 0, vi 0, vi (shlK .i64 1 g.A)]) rfl (hS8.se [0, 1, 4]) (fun w' hw' => (Y_buildS (zs := [vi 0, vi 0, vi 0]) (vs := [(2, vi (shlK .i64 1 g.A))]) (cs := [vi 0, vi 0, vi (shlK .i64 1 g.A)]) K24 K5 rfl (mpc rfl mpn) rfl)) ?_
   refine rq 10 30 (v := vi (shlK .i64 1 g.A)) rfl (hS8.se [0, 1, 4]) (fun w' hw' => (ym (vi (shlK .i64 1 g.A)))) ?_
   refine rq 11 31 (v := .agg #[vi 0, vi (shlK .i64 1 g.A), vi 0]) rfl (hS8.se [0, 1, 4]) (fun w' hw' => (Y_buildS (zs := [vi 0, vi 0, vi 0]) (vs := [(1, vi (shlK .i64 1 g.A))]) (cs := [vi 0, vi (shlK .i64 1 g.A), vi 0]) K24 K5 rfl (mpc rfl mpn) rfl)) ?_
   refine rA [12] ?_
   refine ra_y 32 (i := 12) (v := pt B2 (g.A.toNat * 3)) rfl rfl rfl (Y_index (B := B2) (m := r_1.XImages.length) (c := c2) (k := .i64) (i := g.A) K2 K0 rfl rfl rfl (gi_isSome eN1 rfl (hS8.c 2) hx) (getI_nn hx) (getI_ltI hx rfl)) (hS8.se [0, 1, 4]) ?_ ?_
   ·skip
    refine rA [13] ?_
    refine rZ 13 rfl (yS 2 3 B2 71 (.agg #[vi 0, vi 0, vi (shlK .i64 1 g.A)]) [vi 0, vi 0, vi (shlK .i64 1 g.A)] (g.A.toNat * 3) ((r_1.XImages.set g.A.toNat (TPauli.mk 0 0 (shlK .i64 1 g.A))).flatMap eN0) hS8 K0 rfl rfl rfl rfl rfl rfl rfl (gi_fit0 eN1 hx) (gi_set eN1 hx (TPauli.mk 0 0 (shlK .i64 1 g.A)) rfl)) ?_ ?_
    ·rintro _ w_5 ⟨rfl, hS9⟩
     refine ⟨(hS9.se [0, 1, 4]), ?_⟩
     refine rA [14] ?_
     refine ra_y 33 (i := 14) (v := pt B3 (g.A.toNat * 3)) rfl rfl rfl (Y_index (B := B3) (m := r_1.ZImages.length) (c := c3) (k := .i64) (i := g.A) K2 K0 rfl rfl rfl (gi_isSome eN1 rfl (hS9.c 3) hx1) (getI_nn hx1) (getI_ltI hx1 rfl)) (hS9.se [0, 1, 4]) ?_ ?_
     ·skip
      refine rA [15] ?_
      refine rZ 15 rfl (yS 3 3 B3 71 (.agg #[vi 0, vi (shlK .i64 1 g.A), vi 0]) [vi 0, vi (shlK .i64 1 g.A), vi 0] (g.A.toNat * 3) ((r_1.ZImages.set g.A.toNat (TPauli.mk 0 (shlK .i64 1 g.A) 0)).flatMap eN0) hS9 K0 rfl rfl rfl rfl rfl rfl rfl (gi_fit0 eN1 hx1) (gi_set eN1 hx1 (TPauli.mk 0 (shlK .i64 1 g.A) 0) rfl)) ?_ ?_
      ·rintro _ w_6 ⟨rfl, hS10⟩
       refine ⟨(hS10.se [0, 1, 4]), ?_⟩
       refine ra_done (by kernel_rfl) ?_
       exact ⟨(r_1.XImages.set g.A.toNat (TPauli.mk 0 0 (shlK .i64 1 g.A))), (r_1.ZImages.set g.A.toNat (TPauli.mk 0 (shlK .i64 1 g.A) 0)), (sI hF2), (fc rfl (fc rfl fn_)), (set_len _ _ _ rfl), (set_len _ _ _ rfl), (hS10.sel [1, 4, 2, 3] rfl rfl)⟩
      exact aN
     exact aN
    exact aN
   exact aN
  ·skip
   have hF3 := cf' hz hb
   refine cq (cr ?_)
   refine sQ 35 (yE g.Kind 2) <| sQ 34 (yg (.bool (g.Kind == 2))) (rn ?_)
   refine cw_cond (b := (g.Kind == 2)) rfl (fun hb1 => ?_) (fun hb1 => ?_)
   ·skip
    have hF4 := ct hF3 hb1
    refine cr ?_
    refine sQ 36 (yd (aD b2) 0 0 K11 K1) <| sQ 37 (yl (aD b2) 2 [vi r_1.Qubits, .slice B2 r_1.XImages.length c2, .slice B3 r_1.ZImages.length c3] (.slice B3 r_1.ZImages.length c3) K6 (hS6.c 4)) <| sQ 38 (yd (aD b) 0 0 K18 K3) <| sQ 39 (yl (aD b) 1 [vi g.Kind, vi g.A, vi g.B] (vi g.A) K4 (hS6.c 0)) ?_
    obtain ⟨x2, hx2, hF4⟩ := bI hF4
    refine sQ 40 (Y_index (B := B3) (m := r_1.ZImages.length) (c := c3) (k := .i64) (i := g.A) K2 K0 rfl rfl rfl (gi_isSome eN1 rfl (hS6.c 3) hx2) (getI_nn hx2) (getI_ltI hx2 rfl)) <| sQ 41 (yd B3 (g.A.toNat * 3) 0 K23 K3) ?_
    refine s0 (yS 3 1 B3 71 (vi 2) [vi 2] (g.A.toNat * 3 + 0) ((r_1.ZImages.set g.A.toNat (TPauli.mk 2 x2.X x2.Z)).flatMap eN0) hS6 K3 rfl rfl rfl rfl rfl rfl rfl (gi_fit eN1 hx2 (j := 0) (k := 1) (by decide)) (gi_setf eN1 hx2 (TPauli.mk 2 x2.X x2.Z) rfl (lB rfl))) ?_
    rintro _ w_7 ⟨rfl, hS11⟩
    refine rn ?_
    exact ⟨r_1.XImages, (r_1.ZImages.set g.A.toNat (TPauli.mk 2 x2.X x2.Z)), (sI hF4), (fc rfl (fc rfl fn_)), rfl, (set_len _ _ _ rfl), (hS11.sel [1, 4, 2, 3] rfl rfl)⟩
   ·skip
    have hF5 := cf' hF3 hb1
    refine cq (cr ?_)
    refine sQ 43 (yE g.Kind 3) <| sQ 42 (yg (.bool (g.Kind == 3))) (rn ?_)
    refine cw_cond (b := (g.Kind == 3)) rfl (fun hb2 => ?_) (fun hb2 => ?_)
    ·skip
     have hF6 := ct hF5 hb2
     obtain ⟨x3, hx3, hF6⟩ := bI hF6
     obtain ⟨x4, hx4, hF6⟩ := bI hF6
     refine ra_start (hS6.se [0, 1, 4]).fn (by kernel_rfl) ?_
     have hS12 := hS6.drew
     refine rq 0 44 (v := pt (aD b2) 1) rfl (hS12.se [0, 1, 4]) (fun w' hw' => (yd (aD b2) 0 0 K9 K1)) ?_
     refine rq 1 45 (v := .slice B2 r_1.XImages.length c2) rfl (hS12.se [0, 1, 4]) (fun w' hw' => (yl (aD b2) 1 [vi r_1.Qubits, .slice B2 r_1.XImages.length c2, .slice B3 r_1.ZImages.length c3] (.slice B2 r_1.XImages.length c2) K6 (ST.cf hw' (i := 2) rfl))) ?_
     refine rq 2 46 (v := pt (aD b) 1) rfl (hS12.se [0, 1, 4]) (fun w' hw' => (yd (aD b) 0 0 K18 K3)) ?_
     refine rq 3 47 (v := vi g.A) rfl (hS12.se [0, 1, 4]) (fun w' hw' => (yl (aD b) 1 [vi g.Kind, vi g.A, vi g.B] (vi g.A) K4 (ST.cf hw' (i := 0) rfl))) ?_
     refine rq 4 48 (v := pt (aD b2) 2) rfl (hS12.se [0, 1, 4]) (fun w' hw' => (yd (aD b2) 0 0 K11 K1)) ?_
     refine rq 5 49 (v := .slice B3 r_1.ZImages.length c3) rfl (hS12.se [0, 1, 4]) (fun w' hw' => (yl (aD b2) 2 [vi r_1.Qubits, .slice B2 r_1.XImages.length c2, .slice B3 r_1.ZImages.length c3] (.slice B3 r_1.ZImages.length c3) K6 (ST.cf hw' (i := 2) rfl))) ?_
     refine rq 6 50 (v := pt (aD b) 1) rfl (hS12.se [0, 1, 4]) (fun w' hw' => (yd (aD b) 0 0 K18 K3)) ?_
     refine rq 7 51 (v := vi g.A) rfl (hS12.se [0, 1, 4]) (fun w' hw' => (yl (aD b) 1 [vi g.Kind, vi g.A, vi g.B] (vi g.A) K4 (ST.cf hw' (i := 0) rfl))) ?_
     refine rA [8] ?_
     refine ra_y 52 (i := 8) (v := pt B2 (g.A.toNat * 3)) rfl rfl rfl (Y_index (B := B2) (m := r_1.XImages.length) (c := c2) (k := .i64) (i := g.A) K2 K0 rfl rfl rfl (gi_isSome eN1 rfl (hS12.c 2) hx3) (getI_nn hx3) (getI_ltI hx3 rfl)) (hS12.se [0, 1, 4]) ?_ ?_
     ·skip
      refine rq 9 53 (v := pt B2 (g.A.toNat * 3 + 0)) rfl (hS12.se [0, 1, 4]) (fun w' hw' => (yd B2 (g.A.toNat * 3) 0 K23 K3)) ?_
      refine rA [10] ?_
      refine rZ 10 rfl (yS 2 1 B2 71 (vi 2) [vi 2] (g.A.toNat * 3 + 0) ((r_1.XImages.set g.A.toNat (TPauli.mk 2 x3.X x3.Z)).flatMap eN0) hS12 K3 rfl rfl rfl rfl rfl rfl rfl (gi_fit eN1 hx3 (j := 0) (k := 1) (by decide)) (gi_setf eN1 hx3 (TPauli.mk 2 x3.X x3.Z) rfl (lB rfl))) ?_ ?_
      ·rintro _ w_8 ⟨rfl, hS13⟩
       refine ⟨(hS13.se [0, 1, 4]), ?_⟩
       refine rA [11] ?_
       refine ra_y 54 (i := 11) (v := pt B3 (g.A.toNat * 3)) rfl rfl rfl (Y_index (B := B3) (m := r_1.ZImages.length) (c := c3) (k := .i64) (i := g.A) K2 K0 rfl rfl rfl (gi_isSome eN1 rfl (hS13.c 3) hx4) (getI_nn hx4) (getI_ltI hx4 rfl)) (hS13.se [0, 1, 4]) ?_ ?_
       ·skip
        refine rq 12 55 (v := pt B3 (g.A.toNat * 3 + 0)) rfl (hS13.se [0, 1, 4]) (fun w' hw' => (yd B3 (g.A.toNat * 3) 0 K23 K3)) ?_
        refine rA [13] ?_
        refine rZ 13 rfl (yS 3 1 B3 71 (vi 2) [vi 2] (g.A.toNat * 3 + 0) ((r_1.ZImages.set g.A.toNat (TPauli.mk 2 x4.X x4.Z)).flatMap eN0) hS13 K3 rfl rfl rfl rfl rfl rfl rfl (gi_fit eN1 hx4 (j := 0) (k := 1) (by decide)) (gi_setf eN1 hx4 (TPauli.mk 2 x4.X x4.Z) rfl (lB rfl))) ?_ ?_
        ·rintro _ w_9 ⟨rfl, hS14⟩
         refine ⟨(hS14.se [0, 1, 4]), ?_⟩
         refine ra_done (by kernel_rfl) ?_
         exact ⟨(r_1.XImages.set g.A.toNat (TPauli.mk 2 x3.X x3.Z)), (r_1.ZImages.set g.A.toNat (TPauli.mk 2 x4.X x4.Z)), (sI hF6), (fc rfl (fc rfl fn_)), (set_len _ _ _ rfl), (set_len _ _ _ rfl), (hS14.sel [1, 4, 2, 3] rfl rfl)⟩
        exact aN
       exact aN
      exact aN
     exact aN
    ·skip
     have hF7 := cf' hF5 hb2
     refine cq (cr ?_)
     refine sQ 57 (yE g.Kind 4) <| sQ 56 (yg (.bool (g.Kind == 4))) (rn ?_)
     refine cw_cond (b := (g.Kind == 4)) rfl (fun hb3 => ?_) (fun hb3 => ?_)
     ·skip
      have hF8 := ct hF7 hb3
      refine cr ?_
      refine sQ 58 (yd (aD b2) 0 0 K9 K1) <| sQ 59 (yl (aD b2) 1 [vi r_1.Qubits, .slice B2 r_1.XImages.length c2, .slice B3 r_1.ZImages.length c3] (.slice B2 r_1.XImages.length c2) K6 (hS6.c 4)) <| sQ 60 (yd (aD b) 0 0 K18 K3) <| sQ 61 (yl (aD b) 1 [vi g.Kind, vi g.A, vi g.B] (vi g.A) K4 (hS6.c 0)) ?_
      obtain ⟨x5, hx5, hF8⟩ := bI hF8
      refine sQ 62 (Y_index (B := B2) (m := r_1.XImages.length) (c := c2) (k := .i64) (i := g.A) K2 K0 rfl rfl rfl (gi_isSome eN1 rfl (hS6.c 2) hx5) (getI_nn hx5) (getI_ltI hx5 rfl)) <| sQ 63 (yd B2 (g.A.toNat * 3) 0 K23 K3) ?_
      refine s0 (yS 2 1 B2 71 (vi 2) [vi 2] (g.A.toNat * 3 + 0) ((r_1.XImages.set g.A.toNat (TPauli.mk 2 x5.X x5.Z)).flatMap eN0) hS6 K3 rfl rfl rfl rfl rfl rfl rfl (gi_fit eN1 hx5 (j := 0) (k := 1) (by decide)) (gi_setf eN1 hx5 (TPauli.mk 2 x5.X x5.Z) rfl (lB rfl))) ?_
      rintro _ w_10 ⟨rfl, hS15⟩
      refine rn ?_
      exact ⟨(r_1.XImages.set g.A.toNat (TPauli.mk 2 x5.X x5.Z)), r_1.ZImages, (sI hF8), (fc rfl (fc rfl fn_)), (set_len _ _ _ rfl), rfl, (hS15.sel [1, 4, 2, 3] rfl rfl)⟩
     ·skip
      have hF9 := cf' hF7 hb3
      refine cq (cr ?_)
      refine sQ 65 (yE g.Kind 5) <| sQ 64 (yg (.bool (g.Kind == 5))) (rn ?_)
      refine cw_cond (b := (g.Kind == 5)) rfl (fun hb4 => ?_) (fun hb4 => ?_)
      ·skip
       have hF10 := ct hF9 hb4
       refine cr ?_
       refine sQ 66 (yd (aD b2) 0 0 K9 K1) <| sQ 67 (yl (aD b2) 1 [vi r_1.Qubits, .slice B2 r_1.XImages.length c2, .slice B3 r_1.ZImages.length c3] (.slice B2 r_1.XImages.length c2) K6 (hS6.c 4)) <| sQ 68 (yd (aD b) 0 0 K18 K3) <| sQ 69 (yl (aD b) 1 [vi g.Kind, vi g.A, vi g.B] (vi g.A) K4 (hS6.c 0)) <| sQ 70 (ym (vi (shlK .i64 1 g.A))) <| sQ 71 (ym (vi (shlK .i64 1 g.A))) ?_
       refine sQ 72 (Y_buildS (zs := [vi 0, vi 0, vi 0]) (vs := [(1, vi (shlK .i64 1 g.A)), (2, vi (shlK .i64 1 g.A))]) (cs := [vi 0, vi (shlK .i64 1 g.A), vi (shlK .i64 1 g.A)]) K24 K5 rfl (mpc rfl (mpc rfl mpn)) rfl) ?_
       obtain ⟨x6, hx6, hF10⟩ := bI hF10
       refine sQ 73 (Y_index (B := B2) (m := r_1.XImages.length) (c := c2) (k := .i64) (i := g.A) K2 K0 rfl rfl rfl (gi_isSome eN1 rfl (hS6.c 2) hx6) (getI_nn hx6) (getI_ltI hx6 rfl)) ?_
       refine s0 (yS 2 3 B2 71 (.agg #[vi 0, vi (shlK .i64 1 g.A), vi (shlK .i64 1 g.A)]) [vi 0, vi (shlK .i64 1 g.A), vi (shlK .i64 1 g.A)] (g.A.toNat * 3) ((r_1.XImages.set g.A.toNat (TPauli.mk 0 (shlK .i64 1 g.A) (shlK .i64 1 g.A))).flatMap eN0) hS6 K0 rfl rfl rfl rfl rfl rfl rfl (gi_fit0 eN1 hx6) (gi_set eN1 hx6 (TPauli.mk 0 (shlK .i64 1 g.A) (shlK .i64 1 g.A)) rfl)) ?_
       rintro _ w_11 ⟨rfl, hS16⟩
       refine rn ?_
       exact ⟨(r_1.XImages.set g.A.toNat (TPauli.mk 0 (shlK .i64 1 g.A) (shlK .i64 1 g.A))), r_1.ZImages, (sI hF10), (fc rfl (fc rfl fn_)), (set_len _ _ _ rfl), rfl, (hS16.sel [1, 4, 2, 3] rfl rfl)⟩
      ·skip
       have hF11 := cf' hF9 hb4
       refine cq (cr ?_)
       refine sQ 75 (yE g.Kind 6) <| sQ 74 (yg (.bool (g.Kind == 6))) (rn ?_)
       refine cw_cond (b := (g.Kind == 6)) rfl (fun hb5 => ?_) (fun hb5 => ?_)
       ·skip
        have hF12 := ct hF11 hb5
        refine cr ?_
        refine sQ 76 (yd (aD b2) 0 0 K9 K1) <| sQ 77 (yl (aD b2) 1 [vi r_1.Qubits, .slice B2 r_1.XImages.length c2, .slice B3 r_1.ZImages.length c3] (.slice B2 r_1.XImages.length c2) K6 (hS6.c 4)) <| sQ 78 (yd (aD b) 0 0 K18 K3) <| sQ 79 (yl (aD b) 1 [vi g.Kind, vi g.A, vi g.B] (vi g.A) K4 (hS6.c 0)) <| sQ 80 (ym (vi (shlK .i64 1 g.A))) <| sQ 81 (ym (vi (shlK .i64 1 g.A))) ?_
        refine sQ 82 (Y_buildS (zs := [vi 0, vi 0, vi 0]) (vs := [(0, vi 2), (1, vi (shlK .i64 1 g.A)), (2, vi (shlK .i64 1 g.A))]) (cs := [vi 2, vi (shlK .i64 1 g.A), vi (shlK .i64 1 g.A)]) K24 K5 rfl (mpc rfl (mpc rfl (mpc rfl mpn))) rfl) ?_
        obtain ⟨x7, hx7, hF12⟩ := bI hF12
        refine sQ 83 (Y_index (B := B2) (m := r_1.XImages.length) (c := c2) (k := .i64) (i := g.A) K2 K0 rfl rfl rfl (gi_isSome eN1 rfl (hS6.c 2) hx7) (getI_nn hx7) (getI_ltI hx7 rfl)) ?_
        refine s0 (yS 2 3 B2 71 (.agg #[vi 2, vi (shlK .i64 1 g.A), vi (shlK .i64 1 g.A)]) [vi 2, vi (shlK .i64 1 g.A), vi (shlK .i64 1 g.A)] (g.A.toNat * 3) ((r_1.XImages.set g.A.toNat (TPauli.mk 2 (shlK .i64 1 g.A) (shlK .i64 1 g.A))).flatMap eN0) hS6 K0 rfl rfl rfl rfl rfl rfl rfl (gi_fit0 eN1 hx7) (gi_set eN1 hx7 (TPauli.mk 2 (shlK .i64 1 g.A) (shlK .i64 1 g.A)) rfl)) ?_
        rintro _ w_12 ⟨rfl, hS17⟩
        refine rn ?_
        exact ⟨(r_1.XImages.set g.A.toNat (TPauli.mk 2 (shlK .i64 1 g.A) (shlK .i64 1 g.A))), r_1.ZImages, (sI hF12), (fc rfl (fc rfl fn_)), (set_len _ _ _ rfl), rfl, (hS17.sel [1, 4, 2, 3] rfl rfl)⟩
       ·skip
        have hF13 := cf' hF11 hb5
        refine cq (cr ?_)
        refine sQ 85 (yE g.Kind 9) <| sQ 84 (yg (.bool (g.Kind == 9))) (rn ?_)
        refine cw_cond (b := (g.Kind == 9)) rfl (fun hb6 => ?_) (fun hb6 => ?_)
        ·skip
         have hF14 := ct hF13 hb6
         obtain ⟨x8, hx8, hF14⟩ := bI hF14
         obtain ⟨x9, hx9, hF14⟩ := bI hF14
         refine ra_start (hS6.se [0, 1, 4]).fn (by kernel_rfl) ?_
         have hS18 := hS6.drew
         refine rq 0 86 (v := pt (aD b2) 1) rfl (hS18.se [0, 1, 4]) (fun w' hw' => (yd (aD b2) 0 0 K9 K1)) ?_
         refine rq 1 87 (v := .slice B2 r_1.XImages.length c2) rfl (hS18.se [0, 1, 4]) (fun w' hw' => (yl (aD b2) 1 [vi r_1.Qubits, .slice B2 r_1.XImages.length c2, .slice B3 r_1.ZImages.length c3] (.slice B2 r_1.XImages.length c2) K6 (ST.cf hw' (i := 2) rfl))) ?_
         refine rq 2 88 (v := pt (aD b) 1) rfl (hS18.se [0, 1, 4]) (fun w' hw' => (yd (aD b) 0 0 K18 K3)) ?_
         refine rq 3 89 (v := vi g.A) rfl (hS18.se [0, 1, 4]) (fun w' hw' => (yl (aD b) 1 [vi g.Kind, vi g.A, vi g.B] (vi g.A) K4 (ST.cf hw' (i := 0) rfl))) ?_
         refine rq 4 90 (v := pt (aD b2) 2) rfl (hS18.se [0, 1, 4]) (fun w' hw' => (yd (aD b2) 0 0 K11 K1)) ?_
         refine rq 5 91 (v := .slice B3 r_1.ZImages.length c3) rfl (hS18.se [0, 1, 4]) (fun w' hw' => (yl (aD b2) 2 [vi r_1.Qubits, .slice B2 r_1.XImages.length c2, .slice B3 r_1.ZImages.length c3] (.slice B3 r_1.ZImages.length c3) K6 (ST.cf hw' (i := 2) rfl))) ?_
         refine rq 6 92 (v := pt (aD b) 2) rfl (hS18.se [0, 1, 4]) (fun w' hw' => (yd (aD b) 0 0 K25 K3)) ?_
         refine rq 7 93 (v := vi g.B) rfl (hS18.se [0, 1, 4]) (fun w' hw' => (yl (aD b) 2 [vi g.Kind, vi g.A, vi g.B] (vi g.B) K4 (ST.cf hw' (i := 0) rfl))) ?_
         refine rq 8 94 (v := vi (shlK .i64 1 g.A)) rfl (hS18.se [0, 1, 4]) (fun w' hw' => (ym (vi (shlK .i64 1 g.A)))) ?_
         refine rq 9 95 (v := vi (shlK .i64 1 g.B)) rfl (hS18.se [0, 1, 4]) (fun w' hw' => (ym (vi (shlK .i64 1 g.B)))) ?_
         refine rq 10 96 (v := vi (bits .or .i64 (shlK .i64 1 g.A) (shlK .i64 1 g.B))) rfl (hS18.se [0, 1, 4]) (fun w' hw' => (Y_bor (k := .i64) (a := (shlK .i64 1 g.A)) (b := (shlK .i64 1 g.B)) rfl rfl rfl)) ?_
         refine rq 11 97 (v := .agg #[vi 0, vi (bits .or .i64 (shlK .i64 1 g.A) (shlK .i64 1 g.B)), vi 0]) rfl (hS18.se [0, 1, 4]) (fun w' hw' => (Y_buildS (zs := [vi 0, vi 0, vi 0]) (vs := [(1, vi (bits .or .i64 (shlK .i64 1 g.A) (shlK .i64 1 g.B)))]) (cs := [vi 0, vi (bits .or .i64 (shlK .i64 1 g.A) (shlK .i64 1 g.B)), vi 0]) K24 K5 rfl (mpc rfl mpn) rfl)) ?_
         refine rq 12 98 (v := vi (shlK .i64 1 g.A)) rfl (hS18.se [0, 1, 4]) (fun w' hw' => (ym (vi (shlK .i64 1 g.A)))) ?_
         refine rq 13 99 (v := vi (shlK .i64 1 g.B)) rfl (hS18.se [0, 1, 4]) (fun w' hw' => (ym (vi (shlK .i64 1 g.B)))) ?_
         refine rq 14 100 (v := vi (bits .or .i64 (shlK .i64 1 g.A) (shlK .i64 1 g.B))) rfl (hS18.se [0, 1, 4]) (fun w' hw' => (Y_bor (k := .i64) (a := (shlK .i64 1 g.A)) (b := (shlK .i64 1 g.B)) rfl rfl rfl)) ?_
         refine rq 15 101 (v := .agg #[vi 0, vi 0, vi (bits .or .i64 (shlK .i64 1 g.A) (shlK .i64 1 g.B))]) rfl (hS18.se [0, 1, 4]) (fun w' hw' => (Y_buildS (zs := [vi 0, vi 0, vi 0]) (vs := [(2, vi (bits .or .i64 (shlK .i64 1 g.A) (shlK .i64 1 g.B)))]) (cs := [vi 0, vi 0, vi (bits .or .i64 (shlK .i64 1 g.A) (shlK .i64 1 g.B))]) K24 K5 rfl (mpc rfl mpn) rfl)) ?_
         refine rA [16] ?_
         refine ra_y 102 (i := 16) (v := pt B2 (g.A.toNat * 3)) rfl rfl rfl (Y_index (B := B2) (m := r_1.XImages.length) (c := c2) (k := .i64) (i := g.A) K2 K0 rfl rfl rfl (gi_isSome eN1 rfl (hS18.c 2) hx8) (getI_nn hx8) (getI_ltI hx8 rfl)) (hS18.se [0, 1, 4]) ?_ ?_
         ·skip
          refine rA [17] ?_
          refine rZ 17 rfl (yS 2 3 B2 71 (.agg #[vi 0, vi (bits .or .i64 (shlK .i64 1 g.A) (shlK .i64 1 g.B)), vi 0]) [vi 0, vi (bits .or .i64 (shlK .i64 1 g.A) (shlK .i64 1 g.B)), vi 0] (g.A.toNat * 3) ((r_1.XImages.set g.A.toNat (TPauli.mk 0 (bits .or .i64 (shlK .i64 1 g.A) (shlK .i64 1 g.B)) 0)).flatMap eN0) hS18 K0 rfl rfl rfl rfl rfl rfl rfl (gi_fit0 eN1 hx8) (gi_set eN1 hx8 (TPauli.mk 0 (bits .or .i64 (shlK .i64 1 g.A) (shlK .i64 1 g.B)) 0) rfl)) ?_ ?_
          ·rintro _ w_13 ⟨rfl, hS19⟩
           refine ⟨(hS19.se [0, 1, 4]), ?_⟩
           refine rA [18] ?_
           refine ra_y 103 (i := 18) (v := pt B3 (g.B.toNat * 3)) rfl rfl rfl (Y_index (B := B3) (m := r_1.ZImages.length) (c := c3) (k := .i64) (i := g.B) K2 K0 rfl rfl rfl (gi_isSome eN1 rfl (hS19.c 3) hx9) (getI_nn hx9) (getI_ltI hx9 rfl)) (hS19.se [0, 1, 4]) ?_ ?_
           ·skip
            refine rA [19] ?_
            refine rZ 19 rfl (yS 3 3 B3 71 (.agg #[vi 0, vi 0, vi (bits .or .i64 (shlK .i64 1 g.A) (shlK .i64 1 g.B))]) [vi 0, vi 0, vi (bits .or .i64 (shlK .i64 1 g.A) (shlK .i64 1 g.B))] (g.B.toNat * 3) ((r_1.ZImages.set g.B.toNat (TPauli.mk 0 0 (bits .or .i64 (shlK .i64 1 g.A) (shlK .i64 1 g.B)))).flatMap eN0) hS19 K0 rfl rfl rfl rfl rfl rfl rfl (gi_fit0 eN1 hx9) (gi_set eN1 hx9 (TPauli.mk 0 0 (bits .or .i64 (shlK .i64 1 g.A) (shlK .i64 1 g.B))) rfl)) ?_ ?_
            ·rintro _ w_14 ⟨rfl, hS20⟩
             refine ⟨(hS20.se [0, 1, 4]), ?_⟩
             refine ra_done (by kernel_rfl) ?_
             exact ⟨(r_1.XImages.set g.A.toNat (TPauli.mk 0 (bits .or .i64 (shlK .i64 1 g.A) (shlK .i64 1 g.B)) 0)), (r_1.ZImages.set g.B.toNat (TPauli.mk 0 0 (bits .or .i64 (shlK .i64 1 g.A) (shlK .i64 1 g.B)))), (sI hF14), (fc rfl (fc rfl fn_)), (set_len _ _ _ rfl), (set_len _ _ _ rfl), (hS20.sel [1, 4, 2, 3] rfl rfl)⟩
            exact aN
           exact aN
          exact aN
         exact aN
        ·skip
         have hF15 := cf' hF13 hb6
         refine cq (cr ?_)
         refine sQ 105 (yE g.Kind 10) <| sQ 104 (yg (.bool (g.Kind == 10))) (rn ?_)
         refine cw_cond (b := (g.Kind == 10)) rfl (fun hb7 => ?_) (fun hb7 => ?_)
         ·skip
          have hF16 := ct hF15 hb7
          obtain ⟨x10, hx10, hF16⟩ := bI hF16
          obtain ⟨x11, hx11, hF16⟩ := bI hF16
          refine ra_start (hS6.se [0, 1, 3, 4]).fn (by kernel_rfl) ?_
          have hS21 := hS6.drew
          refine rq 0 106 (v := pt (aD b2) 1) rfl (hS21.se [0, 1, 3, 4]) (fun w' hw' => (yd (aD b2) 0 0 K9 K1)) ?_
          refine rq 1 107 (v := .slice B2 r_1.XImages.length c2) rfl (hS21.se [0, 1, 3, 4]) (fun w' hw' => (yl (aD b2) 1 [vi r_1.Qubits, .slice B2 r_1.XImages.length c2, .slice B3 r_1.ZImages.length c3] (.slice B2 r_1.XImages.length c2) K6 (ST.cf hw' (i := 3) rfl))) ?_
          refine rq 2 108 (v := pt (aD b) 1) rfl (hS21.se [0, 1, 3, 4]) (fun w' hw' => (yd (aD b) 0 0 K18 K3)) ?_
          refine rq 3 109 (v := vi g.A) rfl (hS21.se [0, 1, 3, 4]) (fun w' hw' => (yl (aD b) 1 [vi g.Kind, vi g.A, vi g.B] (vi g.A) K4 (ST.cf hw' (i := 0) rfl))) ?_
          refine rq 4 110 (v := pt (aD b2) 1) rfl (hS21.se [0, 1, 3, 4]) (fun w' hw' => (yd (aD b2) 0 0 K9 K1)) ?_
          refine rq 5 111 (v := .slice B2 r_1.XImages.length c2) rfl (hS21.se [0, 1, 3, 4]) (fun w' hw' => (yl (aD b2) 1 [vi r_1.Qubits, .slice B2 r_1.XImages.length c2, .slice B3 r_1.ZImages.length c3] (.slice B2 r_1.XImages.length c2) K6 (ST.cf hw' (i := 3) rfl))) ?_
          refine rq 6 112 (v := pt (aD b) 2) rfl (hS21.se [0, 1, 3, 4]) (fun w' hw' => (yd (aD b) 0 0 K25 K3)) ?_
          refine rq 7 113 (v := vi g.B) rfl (hS21.se [0, 1, 3, 4]) (fun w' hw' => (yl (aD b) 2 [vi g.Kind, vi g.A, vi g.B] (vi g.B) K4 (ST.cf hw' (i := 0) rfl))) ?_
          refine rq 8 114 (v := vi (shlK .i64 1 g.A)) rfl (hS21.se [0, 1, 3, 4]) (fun w' hw' => (ym (vi (shlK .i64 1 g.A)))) ?_
          refine rq 9 115 (v := vi (shlK .i64 1 g.B)) rfl (hS21.se [0, 1, 3, 4]) (fun w' hw' => (ym (vi (shlK .i64 1 g.B)))) ?_
          refine rq 10 116 (v := .agg #[vi 0, vi (shlK .i64 1 g.A), vi (shlK .i64 1 g.B)]) rfl (hS21.se [0, 1, 3, 4]) (fun w' hw' => (Y_buildS (zs := [vi 0, vi 0, vi 0]) (vs := [(1, vi (shlK .i64 1 g.A)), (2, vi (shlK .i64 1 g.B))]) (cs := [vi 0, vi (shlK .i64 1 g.A), vi (shlK .i64 1 g.B)]) K24 K5 rfl (mpc rfl (mpc rfl mpn)) rfl)) ?_
          refine rq 11 117 (v := vi (shlK .i64 1 g.B)) rfl (hS21.se [0, 1, 3, 4]) (fun w' hw' => (ym (vi (shlK .i64 1 g.B)))) ?_
          refine rq 12 118 (v := vi (shlK .i64 1 g.A)) rfl (hS21.se [0, 1, 3, 4]) (fun w' hw' => (ym (vi (shlK .i64 1 g.A)))) ?_
          refine rq 13 119 (v := .agg #[vi 0, vi (shlK .i64 1 g.B), vi (shlK .i64 1 g.A)]) rfl (hS21.se [0, 1, 3, 4]) (fun w' hw' => (Y_buildS (zs := [vi 0, vi 0, vi 0]) (vs := [(1, vi (shlK .i64 1 g.B)), (2, vi (shlK .i64 1 g.A))]) (cs := [vi 0, vi (shlK .i64 1 g.B), vi (shlK .i64 1 g.A)]) K24 K5 rfl (mpc rfl (mpc rfl mpn)) rfl)) ?_
          refine rA [14] ?_
          refine ra_y 120 (i := 14) (v := pt B2 (g.A.toNat * 3)) rfl rfl rfl (Y_index (B := B2) (m := r_1.XImages.length) (c := c2) (k := .i64) (i := g.A) K2 K0 rfl rfl rfl (gi_isSome eN1 rfl (hS21.c 2) hx10) (getI_nn hx10) (getI_ltI hx10 rfl)) (hS21.se [0, 1, 3, 4]) ?_ ?_
          ·skip
           refine rA [15] ?_
           refine rZ 15 rfl (yS 2 3 B2 71 (.agg #[vi 0, vi (shlK .i64 1 g.A), vi (shlK .i64 1 g.B)]) [vi 0, vi (shlK .i64 1 g.A), vi (shlK .i64 1 g.B)] (g.A.toNat * 3) ((r_1.XImages.set g.A.toNat (TPauli.mk 0 (shlK .i64 1 g.A) (shlK .i64 1 g.B))).flatMap eN0) hS21 K0 rfl rfl rfl rfl rfl rfl rfl (gi_fit0 eN1 hx10) (gi_set eN1 hx10 (TPauli.mk 0 (shlK .i64 1 g.A) (shlK .i64 1 g.B)) rfl)) ?_ ?_
           ·rintro _ w_15 ⟨rfl, hS22⟩
            refine ⟨(hS22.se [0, 1, 3, 4]), ?_⟩
            refine rA [16] ?_
            refine ra_y 121 (i := 16) (v := pt B2 (g.B.toNat * 3)) rfl rfl rfl (Y_index (B := B2) (m := r_1.XImages.length) (c := c2) (k := .i64) (i := g.B) K2 K0 rfl rfl rfl (gi_isSome eN1 rfl (hS22.c 2) hx11) (getI_nn hx11) (getI_ltI hx11 (set_len _ _ _ rfl))) (hS22.se [0, 1, 3, 4]) ?_ ?_
            ·skip
             refine rA [17] ?_
             refine rZ 17 rfl (yS 2 3 B2 71 (.agg #[vi 0, vi (shlK .i64 1 g.B), vi (shlK .i64 1 g.A)]) [vi 0, vi (shlK .i64 1 g.B), vi (shlK .i64 1 g.A)] (g.B.toNat * 3) (((r_1.XImages.set g.A.toNat (TPauli.mk 0 (shlK .i64 1 g.A) (shlK .i64 1 g.B))).set g.B.toNat (TPauli.mk 0 (shlK .i64 1 g.B) (shlK .i64 1 g.A))).flatMap eN0) hS22 K0 rfl rfl rfl rfl rfl rfl rfl (gi_fit0 eN1 hx11) (gi_set eN1 hx11 (TPauli.mk 0 (shlK .i64 1 g.B) (shlK .i64 1 g.A)) rfl)) ?_ ?_
             ·rintro _ w_16 ⟨rfl, hS23⟩
              refine ⟨(hS23.se [0, 1, 3, 4]), ?_⟩
              refine ra_done (by kernel_rfl) ?_
              exact ⟨((r_1.XImages.set g.A.toNat (TPauli.mk 0 (shlK .i64 1 g.A) (shlK .i64 1 g.B))).set g.B.toNat (TPauli.mk 0 (shlK .i64 1 g.B) (shlK .i64 1 g.A))), r_1.ZImages, (sI hF16), (fc rfl (fc rfl fn_)), (set_len _ _ _ (set_len _ _ _ rfl)), rfl, (hS23.sel [1, 4, 2, 3] rfl rfl)⟩
             exact aN
            exact aN
           exact aN
          exact aN
         ·skip
          have hF17 := cf' hF15 hb7
          refine cq (cr ?_)
          refine sQ 123 (yE g.Kind 11) <| sQ 122 (yg (.bool (g.Kind == 11))) (rn ?_)
          refine cw_cond (b := (g.Kind == 11)) rfl (fun hb8 => ?_) (fun hb8 => ?_)
          ·skip
           have hF18 := ct hF17 hb8
           refine cq ?_
           obtain ⟨x12, hx12, hF18⟩ := bI hF18
           obtain ⟨x13, hx13, hF18⟩ := bI hF18
           refine ra_start (hS6.se [0, 1, 3, 4]).fn (by kernel_rfl) ?_
           have hS24 := hS6.drew
           refine rq 0 124 (v := pt (aD b2) 1) rfl (hS24.se [0, 1, 3, 4]) (fun w' hw' => (yd (aD b2) 0 0 K9 K1)) ?_
           refine rq 1 125 (v := .slice B2 r_1.XImages.length c2) rfl (hS24.se [0, 1, 3, 4]) (fun w' hw' => (yl (aD b2) 1 [vi r_1.Qubits, .slice B2 r_1.XImages.length c2, .slice B3 r_1.ZImages.length c3] (.slice B2 r_1.XImages.length c2) K6 (ST.cf hw' (i := 3) rfl))) ?_
           refine rq 2 126 (v := pt (aD b) 1) rfl (hS24.se [0, 1, 3, 4]) (fun w' hw' => (yd (aD b) 0 0 K18 K3)) ?_
           refine rq 3 127 (v := vi g.A) rfl (hS24.se [0, 1, 3, 4]) (fun w' hw' => (yl (aD b) 1 [vi g.Kind, vi g.A, vi g.B] (vi g.A) K4 (ST.cf hw' (i := 0) rfl))) ?_
           refine rq 4 128 (v := pt (aD b2) 1) rfl (hS24.se [0, 1, 3, 4]) (fun w' hw' => (yd (aD b2) 0 0 K9 K1)) ?_
           refine rq 5 129 (v := .slice B2 r_1.XImages.length c2) rfl (hS24.se [0, 1, 3, 4]) (fun w' hw' => (yl (aD b2) 1 [vi r_1.Qubits, .slice B2 r_1.XImages.length c2, .slice B3 r_1.ZImages.length c3] (.slice B2 r_1.XImages.length c2) K6 (ST.cf hw' (i := 3) rfl))) ?_
           refine rq 6 130 (v := pt (aD b) 2) rfl (hS24.se [0, 1, 3, 4]) (fun w' hw' => (yd (aD b) 0 0 K25 K3)) ?_
           refine rq 7 131 (v := vi g.B) rfl (hS24.se [0, 1, 3, 4]) (fun w' hw' => (yl (aD b) 2 [vi g.Kind, vi g.A, vi g.B] (vi g.B) K4 (ST.cf hw' (i := 0) rfl))) ?_
           refine rq 8 132 (v := vi (shlK .i64 1 g.B)) rfl (hS24.se [0, 1, 3, 4]) (fun w' hw' => (ym (vi (shlK .i64 1 g.B)))) ?_
           refine rq 9 133 (v := .agg #[vi 0, vi (shlK .i64 1 g.B), vi 0]) rfl (hS24.se [0, 1, 3, 4]) (fun w' hw' => (Y_buildS (zs := [vi 0, vi 0, vi 0]) (vs := [(1, vi (shlK .i64 1 g.B))]) (cs := [vi 0, vi (shlK .i64 1 g.B), vi 0]) K24 K5 rfl (mpc rfl mpn) rfl)) ?_
           refine rq 10 134 (v := vi (shlK .i64 1 g.A)) rfl (hS24.se [0, 1, 3, 4]) (fun w' hw' => (ym (vi (shlK .i64 1 g.A)))) ?_
           refine rq 11 135 (v := .agg #[vi 0, vi (shlK .i64 1 g.A), vi 0]) rfl (hS24.se [0, 1, 3, 4]) (fun w' hw' => (Y_buildS (zs := [vi 0, vi 0, vi 0]) (vs := [(1, vi (shlK .i64 1 g.A))]) (cs := [vi 0, vi (shlK .i64 1 g.A), vi 0]) K24 K5 rfl (mpc rfl mpn) rfl)) ?_
           refine rA [12] ?_
           refine ra_y 136 (i := 12) (v := pt B2 (g.A.toNat * 3)) rfl rfl rfl (Y_index (B := B2) (m := r_1.XImages.length) (c := c2) (k := .i64) (i := g.A) K2 K0 rfl rfl rfl (gi_isSome eN1 rfl (hS24.c 2) hx12) (getI_nn hx12) (getI_ltI hx12 rfl)) (hS24.se [0, 1, 3, 4]) ?_ ?_
           ·skip
            refine rA [13] ?_
            refine rZ 13 rfl (yS 2 3 B2 71 (.agg #[vi 0, vi (shlK .i64 1 g.B), vi 0]) [vi 0, vi (shlK .i64 1 g.B), vi 0] (g.A.toNat * 3) ((r_1.XImages.set g.A.toNat (TPauli.mk 0 (shlK .i64 1 g.B) 0)).flatMap eN0) hS24 K0 rfl rfl rfl rfl rfl rfl rfl (gi_fit0 eN1 hx12) (gi_set eN1 hx12 (TPauli.mk 0 (shlK .i64 1 g.B) 0) rfl)) ?_ ?_
            ·rintro _ w_17 ⟨rfl, hS25⟩
             refine ⟨(hS25.se [0, 1, 3, 4]), ?_⟩
             refine rA [14] ?_
             refine ra_y 137 (i := 14) (v := pt B2 (g.B.toNat * 3)) rfl rfl rfl (Y_index (B := B2) (m := r_1.XImages.length) (c := c2) (k := .i64) (i := g.B) K2 K0 rfl rfl rfl (gi_isSome eN1 rfl (hS25.c 2) hx13) (getI_nn hx13) (getI_ltI hx13 (set_len _ _ _ rfl))) (hS25.se [0, 1, 3, 4]) ?_ ?_
             ·skip
              refine rA [15] ?_
              refine rZ 15 rfl (yS 2 3 B2 71 (.agg #[vi 0, vi (shlK .i64 1 g.A), vi 0]) [vi 0, vi (shlK .i64 1 g.A), vi 0] (g.B.toNat * 3) (((r_1.XImages.set g.A.toNat (TPauli.mk 0 (shlK .i64 1 g.B) 0)).set g.B.toNat (TPauli.mk 0 (shlK .i64 1 g.A) 0)).flatMap eN0) hS25 K0 rfl rfl rfl rfl rfl rfl rfl (gi_fit0 eN1 hx13) (gi_set eN1 hx13 (TPauli.mk 0 (shlK .i64 1 g.A) 0) rfl)) ?_ ?_
              ·rintro _ w_18 ⟨rfl, hS26⟩
               refine ⟨(hS26.se [0, 1, 3, 4]), ?_⟩
               refine ra_done (by kernel_rfl) ?_
               obtain ⟨x14, hx14, hF18⟩ := bI hF18
               obtain ⟨x15, hx15, hF18⟩ := bI hF18
               refine ra_start (hS26.se [0, 1, 2, 4]).fn (by kernel_rfl) ?_
               have hS27 := hS26.drew
               refine rq 0 138 (v := pt (aD b2) 2) rfl (hS27.se [0, 1, 2, 4]) (fun w' hw' => (yd (aD b2) 0 0 K11 K1)) ?_
               refine rq 1 139 (v := .slice B3 r_1.ZImages.length c3) rfl (hS27.se [0, 1, 2, 4]) (fun w' hw' => (yl (aD b2) 2 [vi r_1.Qubits, .slice B2 r_1.XImages.length c2, .slice B3 r_1.ZImages.length c3] (.slice B3 r_1.ZImages.length c3) K6 (ST.cf hw' (i := 3) rfl))) ?_
               refine rq 2 140 (v := pt (aD b) 1) rfl (hS27.se [0, 1, 2, 4]) (fun w' hw' => (yd (aD b) 0 0 K18 K3)) ?_
               refine rq 3 141 (v := vi g.A) rfl (hS27.se [0, 1, 2, 4]) (fun w' hw' => (yl (aD b) 1 [vi g.Kind, vi g.A, vi g.B] (vi g.A) K4 (ST.cf hw' (i := 0) rfl))) ?_
               refine rq 4 142 (v := pt (aD b2) 2) rfl (hS27.se [0, 1, 2, 4]) (fun w' hw' => (yd (aD b2) 0 0 K11 K1)) ?_
               refine rq 5 143 (v := .slice B3 r_1.ZImages.length c3) rfl (hS27.se [0, 1, 2, 4]) (fun w' hw' => (yl (aD b2) 2 [vi r_1.Qubits, .slice B2 r_1.XImages.length c2, .slice B3 r_1.ZImages.length c3] (.slice B3 r_1.ZImages.length c3) K6 (ST.cf hw' (i := 3) rfl))) ?_
               refine rq 6 144 (v := pt (aD b) 2) rfl (hS27.se [0, 1, 2, 4]) (fun w' hw' => (yd (aD b) 0 0 K25 K3)) ?_
               refine rq 7 145 (v := vi g.B) rfl (hS27.se [0, 1, 2, 4]) (fun w' hw' => (yl (aD b) 2 [vi g.Kind, vi g.A, vi g.B] (vi g.B) K4 (ST.cf hw' (i := 0) rfl))) ?_
               refine rq 8 146 (v := vi (shlK .i64 1 g.B)) rfl (hS27.se [0, 1, 2, 4]) (fun w' hw' => (ym (vi (shlK .i64 1 g.B)))) ?_
               refine rq 9 147 (v := .agg #[vi 0, vi 0, vi (shlK .i64 1 g.B)]) rfl (hS27.se [0, 1, 2, 4]) (fun w' hw' => (Y_buildS (zs := [vi 0, vi 0, vi 0]) (vs := [(2, vi (shlK .i64 1 g.B))]) (cs := [vi 0, vi 0, vi (shlK .i64 1 g.B)]) K24 K5 rfl (mpc rfl mpn) rfl)) ?_
               refine rq 10 148 (v := vi (shlK .i64 1 g.A)) rfl (hS27.se [0, 1, 2, 4]) (fun w' hw' => (ym (vi (shlK .i64 1 g.A)))) ?_
               refine rq 11 149 (v := .agg #[vi 0, vi 0, vi (shlK .i64 1 g.A)]) rfl (hS27.se [0, 1, 2, 4]) (fun w' hw' => (Y_buildS (zs := [vi 0, vi 0, vi 0]) (vs := [(2, vi (shlK .i64 1 g.A))]) (cs := [vi 0, vi 0, vi (shlK .i64 1 g.A)]) K24 K5 rfl (mpc rfl mpn) rfl)) ?_
               refine rA [12] ?_
               refine ra_y 150 (i := 12) (v := pt B3 (g.A.toNat * 3)) rfl rfl rfl (Y_index (B := B3) (m := r_1.ZImages.length) (c := c3) (k := .i64) (i := g.A) K2 K0 rfl rfl rfl (gi_isSome eN1 rfl (hS27.c 3) hx14) (getI_nn hx14) (getI_ltI hx14 rfl)) (hS27.se [0, 1, 2, 4]) ?_ ?_
               ·skip
                refine rA [13] ?_
                refine rZ 13 rfl (yS 3 3 B3 71 (.agg #[vi 0, vi 0, vi (shlK .i64 1 g.B)]) [vi 0, vi 0, vi (shlK .i64 1 g.B)] (g.A.toNat * 3) ((r_1.ZImages.set g.A.toNat (TPauli.mk 0 0 (shlK .i64 1 g.B))).flatMap eN0) hS27 K0 rfl rfl rfl rfl rfl rfl rfl (gi_fit0 eN1 hx14) (gi_set eN1 hx14 (TPauli.mk 0 0 (shlK .i64 1 g.B)) rfl)) ?_ ?_
                ·rintro _ w_19 ⟨rfl, hS28⟩
                 refine ⟨(hS28.se [0, 1, 2, 4]), ?_⟩
                 refine rA [14] ?_
                 refine ra_y 151 (i := 14) (v := pt B3 (g.B.toNat * 3)) rfl rfl rfl (Y_index (B := B3) (m := r_1.ZImages.length) (c := c3) (k := .i64) (i := g.B) K2 K0 rfl rfl rfl (gi_isSome eN1 rfl (hS28.c 3) hx15) (getI_nn hx15) (getI_ltI hx15 (set_len _ _ _ rfl))) (hS28.se [0, 1, 2, 4]) ?_ ?_
                 ·skip
                  refine rA [15] ?_
                  refine rZ 15 rfl (yS 3 3 B3 71 (.agg #[vi 0, vi 0, vi (shlK .i64 1 g.A)]) [vi 0, vi 0, vi (shlK .i64 1 g.A)] (g.B.toNat * 3) (((r_1.ZImages.set g.A.toNat (TPauli.mk 0 0 (shlK .i64 1 g.B))).set g.B.toNat (TPauli.mk 0 0 (shlK .i64 1 g.A))).flatMap eN0) hS28 K0 rfl rfl rfl rfl rfl rfl rfl (gi_fit0 eN1 hx15) (gi_set eN1 hx15 (TPauli.mk 0 0 (shlK .i64 1 g.A)) rfl)) ?_ ?_
                  ·rintro _ w_20 ⟨rfl, hS29⟩
                   refine ⟨(hS29.se [0, 1, 2, 4]), ?_⟩
                   refine ra_done (by kernel_rfl) ?_
                   exact ⟨((r_1.XImages.set g.A.toNat (TPauli.mk 0 (shlK .i64 1 g.B) 0)).set g.B.toNat (TPauli.mk 0 (shlK .i64 1 g.A) 0)), ((r_1.ZImages.set g.A.toNat (TPauli.mk 0 0 (shlK .i64 1 g.B))).set g.B.toNat (TPauli.mk 0 0 (shlK .i64 1 g.A))), (sI hF18), (fc rfl (fc rfl fn_)), (set_len _ _ _ (set_len _ _ _ rfl)), (set_len _ _ _ (set_len _ _ _ rfl)), (hS29.sel [1, 4, 2, 3] rfl rfl)⟩
                  exact aN
                 exact aN
                exact aN
               exact aN
              exact aN
             exact aN
            exact aN
           exact aN
          ·skip
           have hF19 := cf' hF17 hb8
           refine cw_skip ?_
           exact ⟨r_1.XImages, r_1.ZImages, (sI hF19), (fc rfl (fc rfl fn_)), rfl, rfl, (hS6.sel [1, 4, 2, 3] rfl rfl)⟩
 rintro f w ⟨XImages, ZImages, rfl, hf, hl, hl1, hS7⟩
 refine cq (cr ?_)
 refine sQ 152 (yb (aD b2) 0 [vi r_1.Qubits, .slice B2 r_1.XImages.length c2, .slice B3 r_1.ZImages.length c3] K20 K10 (hS7.c 1) rfl (hf.g 5 1)) ?_
 refine s0 (yT 0 3 (aD b1) 40 (.agg #[vi r_1.Qubits, .slice B2 r_1.XImages.length c2, .slice B3 r_1.ZImages.length c3]) [vi r_1.Qubits, .slice B2 r_1.XImages.length c2, .slice B3 r_1.ZImages.length c3] 0 hS7 K10 rfl (hf.g 4 0)) ?_
 rintro _ w_21 ⟨rfl, hS30⟩
 refine rn (ct_ ?_)
 obtain rfl := sI hF1
 exact ret1 Try.results30 (v1 := .agg #[vi r_1.Qubits, .slice B2 r_1.XImages.length c2, .slice B3 r_1.ZImages.length c3]) (resAt_cellA (B := aD b1) (i := 0) (cs := [vi r_1.Qubits, .slice B2 r_1.XImages.length c2, .slice B3 r_1.ZImages.length c3]) (vs := [vi r_1.Qubits, .slice B2 r_1.XImages.length c2, .slice B3 r_1.ZImages.length c3]) (hf.g 4 0) K20 K10 (hS30.c 0) rfl rfl) ⟨B2, c2, B3, c3, (by simp [hl, hl1]), (hS30.sN [2, 3])⟩

theorem c_impl_TableauOf (c : TCircuit) (B : Option Addr) (c1 n : Nat) (w0 : World) (hn : c.Gates.length = n) (hS : ST w0 [] w0 [] [⟨B, (c.Gates.flatMap eN2)⟩]) {r_ : TTableau} {r_1 : Bool} (hF : F_impl_TableauOf c = some (r_, r_1)) :
  CV Try.prog 16 #[.agg #[vi c.Qubits, .slice B n c1]] w0 (fun v w' => ∃ (B1 : Option Addr) (c2 : Nat) (B2 : Option Addr) (c3 : Nat), v = .tuple #[.agg #[vi r_.Qubits, .slice B1 r_.XImages.length c2, .slice B2 r_.ZImages.length c3], .bool r_1] ∧ ST w0 [] w' [⟨B1, 71, (r_.XImages.flatMap eN0), c2 * 3⟩, ⟨B2, 71, (r_.ZImages.flatMap eN0), c3 * 3⟩] []) := by
 subst hn
 unfold F_impl_TableauOf at hF
 refine cv_of_cw 39 Try.func16 rfl Try.ntmps16 rfl ?_
 refine cq (cr ?_)
 refine sS 1 (yB 28 (.agg #[vi c.Qubits, .slice B c.Gates.length c1]) [vi c.Qubits, .slice B c.Gates.length c1] 2 hS) ?_
 rintro _ w_ ⟨b, rfl, hS1⟩
 refine sS 2 (yN [vi 0, .slice none 0 0, .slice none 0 0] 3 hS1 K31) ?_
 rintro _ w_1 ⟨b1, rfl, hS2⟩
 refine sQ 3 (yg (.bool false)) (rn (cq (cq (cr ?_))))
 refine sQ 10 (yb (aD b) 0 [vi c.Qubits, .slice B c.Gates.length c1] K19 K16 (hS2.c 0)) ?_
 obtain ⟨⟨r_2, r_3⟩, hc, hF⟩ := bI hF
 refine sc 11 rfl rfl (yC [.agg #[vi c.Qubits, .slice B c.Gates.length c1]] k_call_27 (c_impl_CountT c B c1 c.Gates.length _ rfl (hS2.inn0 [(true, 0)] rfl) hc)) ?_
 rintro _ w_2 ⟨rfl, hd⟩
 have hS3 := hS2.out00 hd
 refine sQ 9 (ym (.tuple #[vi r_2, .bool r_3])) <| sQ 12 (ye (vi r_2)) <| sQ 13 (ye (.bool r_3)) <| sQ 4 (yg (vi r_2)) <| sQ 5 (yg (.bool r_3)) (rn (cq (cr ?_)))
 refine sQ 14 (ym (.bool r_3)) <| sQ 15 (Y_not (p := r_3) rfl rfl) <| sQ 16 (ym (.bool (!r_3))) ?_
 refine sgq 17 (B := (!(!r_3))) (v := vi r_2) rfl rfl (uF_ 16) (fun hg => (ym (vi r_2))) ?_
 refine sgq 18 (B := (!(!r_3))) (v := .bool (decide (0 < r_2))) rfl rfl (uF_ 16) (fun hg1 => (Y_gt (k := .i64) (a := r_2) (b := 0) rfl (gv_of (v := vi r_2) hg1) rfl)) ?_
 refine sQ 19 (Y_or (b := (!r_3)) (z := (decide (0 < r_2))) rfl rfl rfl rfl) (rn ?_)
 refine cw_cond (b := ((!r_3) || (decide (0 < r_2)))) rfl (fun hb => ?_) (fun hb => ?_)
 ·skip
  have hF1 := ct hF hb
  refine cq (cr ?_)
  refine sQ 20 (Y_buildS (zs := [vi 0, .slice none 0 0, .slice none 0 0]) (vs := []) (cs := [vi 0, .slice none 0 0, .slice none 0 0]) K59 K31 rfl mpn rfl) ?_
  refine s0 (yT 1 3 (aD b1) 40 (.agg #[vi 0, .slice none 0 0, .slice none 0 0]) [vi 0, .slice none 0 0, .slice none 0 0] 0 hS3 K10) ?_
  rintro _ w_3 ⟨rfl, hS4⟩
  refine sQ 3 (yg (.bool false)) (rn (ct_ ?_))
  have hS5 := hS4.addNil 71
  have hS6 := hS5.addNil 71
  obtain ⟨rfl, rfl⟩ := pr2 (sI hF1)
  exact ret2 Try.results16 (v1 := .agg #[vi 0, .slice none 0 0, .slice none 0 0]) (resAt_cellA (B := aD b1) (i := 0) (cs := [vi 0, .slice none 0 0, .slice none 0 0]) (vs := [vi 0, .slice none 0 0, .slice none 0 0]) rfl K20 K10 (hS6.c 1) rfl rfl) (v2 := .bool false) (resAt_tmp rfl) ⟨none, 0, none, 0, rfl, (hS6.sN [2, 3])⟩
 ·skip
  have hF2 := cf' hF hb
  refine cw_skip (cq (cr ?_))
  refine sQ 21 (yd (aD b) 0 0 K47 K3) <| sQ 22 (yl (aD b) 0 [vi c.Qubits, .slice B c.Gates.length c1] (vi c.Qubits) K4 (hS3.c 0)) ?_
  obtain ⟨r_4, hc1, hF2⟩ := bI hF2
  refine sc 23 rfl rfl (yC [vi c.Qubits] k_call_28 (c_impl_identity c.Qubits _  (hS3.inn0 [] rfl) hc1)) ?_
  rintro _ w_4 ⟨B3, c4, B4, c5, rfl, hd1⟩
  have hS7 := hS3.out0 hd1
  refine sS 6 (yN [vi 0, .slice none 0 0, .slice none 0 0] 3 hS7 K31) ?_
  rintro _ w_5 ⟨b2, rfl, hS8⟩
  refine s0 (yT 4 3 (aD b2) 40 (.agg #[vi r_4.Qubits, .slice B3 r_4.XImages.length c4, .slice B4 r_4.ZImages.length c5]) [vi r_4.Qubits, .slice B3 r_4.XImages.length c4, .slice B4 r_4.ZImages.length c5] 0 hS8 K10) ?_
  rintro _ w_6 ⟨rfl, hS9⟩
  refine rn (cq (cq (cr ?_)))
  refine sQ 24 (yd (aD b) 0 0 K33 K17) <| sQ 25 (yl (aD b) 1 [vi c.Qubits, .slice B c.Gates.length c1] (.slice B c.Gates.length c1) K22 (hS9.c 0)) <| sQ 26 (Y_len (B := B) (m := c.Gates.length) (c := c1) K15 rfl rfl) <| sQ 27 (ym (vi 0)) (rn ?_)
  obtain ⟨hN, hF2⟩ := chk_inv hF2
  obtain ⟨z, hz, hF3⟩ := bI hF2
  refine cw_block ?_
  refine cw_loop (fun k f w => ∃ (i : Nat) (Qubits : Int) (XImages : List TPauli) (ZImages : List TPauli) (B5 : Option Addr) (c6 : Nat) (B6 : Option Addr) (c7 : Nat), FF f [(1, pt (aD b) 0), (2, pt (aD b1) 0), (6, pt (aD b2) 0), (25, .slice B c.Gates.length c1), (26, vi (c.Gates.length : Int)), (27, vi (i : Int))] ∧ ST w0 [] w [⟨aD b, 28, [vi c.Qubits, .slice B c.Gates.length c1], 2⟩, ⟨aD b1, 40, [vi 0, .slice none 0 0, .slice none 0 0], 3⟩, ⟨aD b2, 40, [vi Qubits, .slice B5 XImages.length c6, .slice B6 ZImages.length c7], 3⟩, ⟨B5, 71, (XImages.flatMap eN0), c6 * 3⟩, ⟨B6, 71, (ZImages.flatMap eN0), c7 * 3⟩] [⟨B, (c.Gates.flatMap eN2)⟩] ∧ i + k = c.Gates.length ∧ forN (F_impl_TableauOf_l1 c) k i (Qubits, XImages, ZImages) = some z) c.Gates.length ⟨0, r_4.Qubits, r_4.XImages, r_4.ZImages, B3, c4, B4, c5, (fc rfl (fc rfl (fc rfl (fc rfl (fc rfl (fc rfl fn_)))))), (hS9.sel [0, 1, 4, 2, 3] rfl rfl), Nat.zero_add _, hz⟩ ?_
  rintro k_ f w ⟨i, Qubits, XImages, ZImages, B5, c6, B6, c7, hf, hS10, hik, hL⟩
  refine cq (cr ?_)
  refine sQ 28 (yL (i : Int) (c.Gates.length : Int) rfl (hf.g 27 5) (hf.g 26 4)) (rn (cq ?_))
  refine cw_cond (b := (decide ((i : Int) < (c.Gates.length : Int)))) rfl (fun hlt => ?_) (fun hlt => ?_)
  ·skip
   have hlt1 : i < c.Gates.length := by have h := of_decide_eq_true hlt; omega
   obtain ⟨K7, rfl⟩ : ∃ k2, k_ = k2 + 1 := ⟨k_ - 1, by omega⟩
   obtain ⟨y, hb1, hL1⟩ := forN_go hL
   unfold F_impl_TableauOf_l1 at hb1
   refine cw_skip (cq (cw_block (cq (cr ?_))))
   obtain ⟨x, hx, hb1⟩ := bI hb1
   refine sQ 29 (Y_index (B := B) (m := c.Gates.length) (c := c1) (k := .i64) (i := (i : Int)) K15 K13 rfl (hf.g 25 3) (hf.g 27 5) (gi_isSome eN4 rfl (hS10.rf (i := 0) rfl) hx) (getI_nn hx) (getI_ltI hx rfl)) <| sQ 30 (ya B ((i : Int).toNat * 3) (c.Gates.flatMap eN2) [vi x.Kind, vi x.A, vi x.B] K26 K13 (hS10.rf (i := 0) rfl) rfl rfl (eN4 x) (gi_seg eN4 hx)) ?_
   refine sS 8 (yN [vi 0, vi 0, vi 0] 3 hS10 K28) ?_
   rintro _ w_7 ⟨b3, rfl, hS11⟩
   refine s0 (yT 5 3 (aD b3) 55 (.agg #[vi x.Kind, vi x.A, vi x.B]) [vi x.Kind, vi x.A, vi x.B] 0 hS11 K13) ?_
   rintro _ w_8 ⟨rfl, hS12⟩
   refine rn ?_
   obtain ⟨r_5, hc2, hb1⟩ := bI hb1
   obtain ⟨r_6, hc3, hb1⟩ := bI hb1
   refine cw_mid (fun f w => ∃ (B11 : Option Addr) (c12 : Nat) (B12 : Option Addr) (c13 : Nat), FF f [(1, pt (aD b) 0), (2, pt (aD b1) 0), (6, pt (aD b2) 0), (25, .slice B c.Gates.length c1), (26, vi (c.Gates.length : Int)), (27, vi (i : Int))] ∧ ST w0 [] w [⟨aD b, 28, [vi c.Qubits, .slice B c.Gates.length c1], 2⟩, ⟨aD b1, 40, [vi 0, .slice none 0 0, .slice none 0 0], 3⟩, ⟨aD b2, 40, [vi r_6.Qubits, .slice B11 r_6.XImages.length c12, .slice B12 r_6.ZImages.length c13], 3⟩, ⟨B11, 71, (r_6.XImages.flatMap eN0), c12 * 3⟩, ⟨B12, 71, (r_6.ZImages.flatMap eN0), c13 * 3⟩] [⟨B, (c.Gates.flatMap eN2)⟩]) ?_ ?_
   ·skip
    refine ra_start (hS12.se [0, 1, 3, 4, 5]).fn (by kernel_rfl) ?_
    have hS16 := hS12.drew
    refine rq 1 32 (v := pt (aD b) 0) rfl (hS16.se [0, 1, 3, 4, 5]) (fun w' hw' => (yd (aD b) 0 0 K47 K3 rfl (hf.g 1 0))) ?_
    refine rq 2 33 (v := vi c.Qubits) rfl (hS16.se [0, 1, 3, 4, 5]) (fun w' hw' => (yl (aD b) 0 [vi c.Qubits, .slice B c.Gates.length c1] (vi c.Qubits) K4 (ST.cf hw' (i := 0) rfl))) ?_
    refine rq 3 34 (v := .agg #[vi x.Kind, vi x.A, vi x.B]) rfl (hS16.se [0, 1, 3, 4, 5]) (fun w' hw' => (yb (aD b3) 0 [vi x.Kind, vi x.A, vi x.B] K26 K13 (ST.cf hw' (i := 4) rfl))) ?_
    refine rA [0, 4] ?_
    refine ra_y 31 (i := 0) (v := .agg #[vi Qubits, .slice B5 XImages.length c6, .slice B6 ZImages.length c7]) rfl rfl rfl (yb (aD b2) 0 [vi Qubits, .slice B5 XImages.length c6, .slice B6 ZImages.length c7] K20 K10 (hS16.c 2) rfl (hf.g 6 2)) (hS16.se [0, 1, 3, 4, 5]) ?_ ?_
    ·skip
     refine rA [4] ?_
     refine rC 35 4 rfl (yC [vi c.Qubits, .agg #[vi x.Kind, vi x.A, vi x.B]] K62 (c_impl_gateTableau c.Qubits x _  (hS16.inn0 [] rfl) hc2)) ?_ ?_
     ·rintro _ w_9 ⟨B7, c8, B8, c9, rfl, hd2⟩
      have hS17 := hS16.out0 hd2
      refine ⟨(hS17.se [0, 1, 3, 4, 5]), ?_⟩
      refine rA [5] ?_
      refine rC 36 5 rfl (yC [.agg #[vi Qubits, .slice B5 XImages.length c6, .slice B6 ZImages.length c7], .agg #[vi r_5.Qubits, .slice B7 r_5.XImages.length c8, .slice B8 r_5.ZImages.length c9]] K63 (c_impl_compose (TTableau.mk Qubits XImages ZImages) r_5 B5 c6 XImages.length B6 c7 ZImages.length B7 c8 r_5.XImages.length B8 c9 r_5.ZImages.length _ rfl rfl rfl rfl (hS17.inn0 [(false, 3), (false, 4), (false, 6), (false, 7)] rfl) hc3)) ?_ ?_
      ·rintro _ w_10 ⟨B9, c10, B10, c11, rfl, hd3⟩
       have hS18 := hS17.out0 hd3
       refine ⟨(hS18.se [0, 1, 3, 4, 5]), ?_⟩
       refine rA [6] ?_
       refine rZ 6 rfl (yT 2 3 (aD b2) 40 (.agg #[vi r_6.Qubits, .slice B9 r_6.XImages.length c10, .slice B10 r_6.ZImages.length c11]) [vi r_6.Qubits, .slice B9 r_6.XImages.length c10, .slice B10 r_6.ZImages.length c11] 0 hS18 K10 rfl (hf.g 6 2)) ?_ ?_
       ·rintro _ w_11 ⟨rfl, hS19⟩
        refine ⟨(hS19.se [0, 1, 3, 4, 5]), ?_⟩
        refine ra_done (by kernel_rfl) ?_
        exact ⟨B9, c10, B10, c11, (fc (hf.g 1 0) (fc (hf.g 2 1) (fc (hf.g 6 2) (fc (hf.g 25 3) (fc (hf.g 26 4) (fc (hf.g 27 5) fn_)))))), (hS19.sel [0, 1, 2, 8, 9] rfl rfl)⟩
       exact aN
      exact aN
     exact aN
    refine rC 35 4 rfl (yC [vi c.Qubits, .agg #[vi x.Kind, vi x.A, vi x.B]] K62 (c_impl_gateTableau c.Qubits x _  (hS16.inn0 [] rfl) hc2)) ?_ ?_
    ·rintro _ w_12 ⟨B7, c8, B8, c9, rfl, hd4⟩
     have hS20 := hS16.out0 hd4
     refine ⟨(hS20.se [0, 1, 3, 4, 5]), ?_⟩
     refine rA [0] ?_
     refine ra_y 31 (i := 0) (v := .agg #[vi Qubits, .slice B5 XImages.length c6, .slice B6 ZImages.length c7]) rfl rfl rfl (yb (aD b2) 0 [vi Qubits, .slice B5 XImages.length c6, .slice B6 ZImages.length c7] K20 K10 (hS20.c 2) rfl (hf.g 6 2)) (hS20.se [0, 1, 3, 4, 5]) ?_ ?_
     ·skip
      refine rA [5] ?_
      refine rC 36 5 rfl (yC [.agg #[vi Qubits, .slice B5 XImages.length c6, .slice B6 ZImages.length c7], .agg #[vi r_5.Qubits, .slice B7 r_5.XImages.length c8, .slice B8 r_5.ZImages.length c9]] K63 (c_impl_compose (TTableau.mk Qubits XImages ZImages) r_5 B5 c6 XImages.length B6 c7 ZImages.length B7 c8 r_5.XImages.length B8 c9 r_5.ZImages.length _ rfl rfl rfl rfl (hS20.inn0 [(false, 3), (false, 4), (false, 6), (false, 7)] rfl) hc3)) ?_ ?_
      ·rintro _ w_13 ⟨B9, c10, B10, c11, rfl, hd5⟩
       have hS21 := hS20.out0 hd5
       refine ⟨(hS21.se [0, 1, 3, 4, 5]), ?_⟩
       refine rA [6] ?_
       refine rZ 6 rfl (yT 2 3 (aD b2) 40 (.agg #[vi r_6.Qubits, .slice B9 r_6.XImages.length c10, .slice B10 r_6.ZImages.length c11]) [vi r_6.Qubits, .slice B9 r_6.XImages.length c10, .slice B10 r_6.ZImages.length c11] 0 hS21 K10 rfl (hf.g 6 2)) ?_ ?_
       ·rintro _ w_14 ⟨rfl, hS22⟩
        refine ⟨(hS22.se [0, 1, 3, 4, 5]), ?_⟩
        refine ra_done (by kernel_rfl) ?_
        exact ⟨B9, c10, B10, c11, (fc (hf.g 1 0) (fc (hf.g 2 1) (fc (hf.g 6 2) (fc (hf.g 25 3) (fc (hf.g 26 4) (fc (hf.g 27 5) fn_)))))), (hS22.sel [0, 1, 2, 8, 9] rfl rfl)⟩
       exact aN
      exact aN
     exact aN
    exact aN
   rintro f w ⟨B11, c12, B12, c13, hf1, hS15⟩
   refine cr ?_
   refine sQ 37 (yP (i : Int) 1 rfl (hf1.g 27 5)) <| sQ 27 (ym (vi (i64.wrap ((i : Int) + 1)))) (rn ?_)
   obtain rfl := sI hb1
   exact ⟨K7, Nat.lt_succ_self _, i + 1, r_6.Qubits, r_6.XImages, r_6.ZImages, B11, c12, B12, c13, (fc (hf1.g 1 0) (fc (hf1.g 2 1) (fc (hf1.g 6 2) (fc (hf1.g 25 3) (fc (hf1.g 26 4) (fc (congrArg (Value.int .i64) (wr_succ hlt1 hN)) fn_)))))), (hS15.sel [0, 1, 2, 3, 4] rfl rfl), (by omega), hL1⟩
  ·skip
   obtain rfl : k_ = 0 := by have h := of_decide_eq_false hlt; omega
   refine cw_exit rfl ?_
   obtain rfl := sI hL
   refine cq (cr ?_)
   refine sQ 38 (yb (aD b2) 0 [vi Qubits, .slice B5 XImages.length c6, .slice B6 ZImages.length c7] K20 K10 (hS10.c 2) rfl (hf.g 6 2)) ?_
   refine s0 (yT 1 3 (aD b1) 40 (.agg #[vi Qubits, .slice B5 XImages.length c6, .slice B6 ZImages.length c7]) [vi Qubits, .slice B5 XImages.length c6, .slice B6 ZImages.length c7] 0 hS10 K10 rfl (hf.g 2 1)) ?_
   rintro _ w_15 ⟨rfl, hS23⟩
   refine sQ 3 (yg (.bool true)) (rn (ct_ ?_))
   obtain ⟨rfl, rfl⟩ := pr2 (sI hF3)
   exact ret2 Try.results16 (v1 := .agg #[vi Qubits, .slice B5 XImages.length c6, .slice B6 ZImages.length c7]) (resAt_cellA (B := aD b1) (i := 0) (cs := [vi Qubits, .slice B5 XImages.length c6, .slice B6 ZImages.length c7]) (vs := [vi Qubits, .slice B5 XImages.length c6, .slice B6 ZImages.length c7]) (hf.g 2 1) K20 K10 (hS23.c 1) rfl rfl) (v2 := .bool true) (resAt_tmp rfl) ⟨B5, c6, B6, c7, rfl, (hS23.sN [3, 4])⟩

theorem c_slices_Concat_impl_Pauli_impl_Pauli (slices : List (List TPauli)) (B : Option Addr) (c n : Nat) (D : List (Hd × (List TPauli))) (w0 : World) (hn : slices.length = n) (hD : D.map Prod.snd = slices) (hS : ST w0 [] w0 [] (⟨B, (D.flatMap encD_SPauli)⟩ :: ((D.flatMap rowD_SPauli) ++ []))) {r_ : List TPauli} (hF : F_slices_Concat_impl_Pauli_impl_Pauli slices = some r_) :
  CV Try.prog 47 #[.slice B n c] w0 (fun v w' => ∃ (B1 : Option Addr) (c1 : Nat), v = .slice B1 r_.length c1 ∧ ST w0 [] w' [⟨B1, 71, (r_.flatMap eN0), c1 * 3⟩] []) := by
 subst hn
 unfold F_slices_Concat_impl_Pauli_impl_Pauli at hF
 refine cv_of_cw 36 Try.func47 rfl Try.ntmps47 rfl ?_
 refine cq (cr ?_)
 refine sQ 2 (yg (.slice none 0 0)) (rn (cq (cr ?_)))
 refine sQ 3 (yg (vi 0)) (rn (cq (cq (cr ?_))))
 refine sQ 9 (ym (.slice B slices.length c)) <| sQ 10 (Y_len (B := B) (m := slices.length) (c := c) K64 rfl rfl) <| sQ 11 (ym (vi 0)) (rn ?_)
 obtain ⟨hN, hF⟩ := chk_inv hF
 obtain ⟨z, hz, hF1⟩ := bI hF
 refine cw_block ?_
 refine cw_loop (fun k f w => ∃ (i : Nat) (size : Int), FF f [(0, .slice B slices.length c), (3, vi size), (9, .slice B slices.length c), (10, vi (slices.length : Int)), (11, vi (i : Int))] ∧ ST w0 [] w [] (⟨B, (D.flatMap encD_SPauli)⟩ :: ((D.flatMap rowD_SPauli) ++ [])) ∧ i + k = slices.length ∧ forN (F_slices_Concat_impl_Pauli_impl_Pauli_l1 slices) k i size = some z) slices.length ⟨0, 0, (fc rfl (fc rfl (fc rfl (fc rfl (fc rfl fn_))))), (hS.sel [] rfl rfl), Nat.zero_add _, hz⟩ ?_
 rintro k_ f w ⟨i, size, hf, hS1, hik, hL⟩
 refine cq (cr ?_)
 refine sQ 12 (yL (i : Int) (slices.length : Int) rfl (hf.g 11 4) (hf.g 10 3)) (rn (cq ?_))
 refine cw_cond (b := (decide ((i : Int) < (slices.length : Int)))) rfl (fun hlt => ?_) (fun hlt => ?_)
 ·skip
  have hlt1 : i < slices.length := by have h := of_decide_eq_true hlt; omega
  obtain ⟨K7, rfl⟩ : ∃ k2, k_ = k2 + 1 := ⟨k_ - 1, by omega⟩
  obtain ⟨y, hb, hL1⟩ := forN_go hL
  unfold F_slices_Concat_impl_Pauli_impl_Pauli_l1 at hb
  refine cw_skip (cq (cw_block (cq (cr ?_))))
  obtain ⟨x, hx, hb⟩ := bI hb
  obtain ⟨⟨B2, c2⟩, hp⟩ := getI_snd hD hx
  refine sQ 13 (Y_index (B := B) (m := slices.length) (c := c) (k := .i64) (i := (i : Int)) K64 K1 rfl (hf.g 9 2) (hf.g 11 4) (gi_isSome encD_SPauli_len rfl (hS1.rf (i := 0) rfl) hp) (getI_nn hp) (getI_ltI hp (dl_len hD))) ?_
  have hm : (⟨B2, (x.flatMap eN0)⟩ : Ro) ∈ ((⟨B, (D.flatMap encD_SPauli)⟩ :: ((D.flatMap rowD_SPauli) ++ [])) : List Ro) := app_mem (fun r_ (h : r_ ∈ ((D.flatMap rowD_SPauli) : List Ro)) => mOd (i := 1) (show r_ ∈ ((((D.flatMap rowD_SPauli) ++ [])) : List Ro) from mAl _ h)) (row_mem (rw_ := rowD_SPauli) hp _ (mt 0))
  have hS2 : ST w0 [] _ [] (⟨B2, (x.flatMap eN0)⟩ :: ⟨B, (D.flatMap encD_SPauli)⟩ :: ((D.flatMap rowD_SPauli) ++ [])) := ST.subR hS1 (subc hm (fun _ h => h))
  refine sQ 14 (yl B ((i : Int).toNat * 1) (D.flatMap encD_SPauli) (.slice B2 x.length c2) K6 (hS2.rf (i := 1) rfl) rfl rfl (gi_at0 encD_SPauli_len hp rfl)) <| sQ 5 (yg (.slice B2 x.length c2)) (rn (cq (cr ?_)))
  refine sQ 15 (ym (vi size) rfl (hf.g 3 1)) <| sQ 16 (ym (.slice B2 x.length c2)) <| sQ 17 (Y_len (B := B2) (m := x.length) (c := c2) K2 rfl rfl) <| sQ 18 (yP size (x.length : Int)) <| sQ 3 (yg (vi (i64.wrap (size + (x.length : Int))))) (rn (cq (cr ?_)))
  refine sQ 19 (ym (vi (i64.wrap (size + (x.length : Int))))) <| sQ 20 (yL (i64.wrap (size + (x.length : Int))) 0) (rn ?_)
  refine cw_cond (b := (decide ((i64.wrap (size + (x.length : Int))) < 0))) rfl (fun hb1 => ?_) (fun hb1 => ?_)
  ·skip
   have hF2 := ct hb hb1
   cases hF2
  ·skip
   have hF3 := cf' hb hb1
   refine cw_skip (cr ?_)
   refine sQ 22 (yP (i : Int) 1 rfl (hf.g 11 4)) <| sQ 11 (ym (vi (i64.wrap ((i : Int) + 1)))) (rn ?_)
   obtain rfl := sI hF3
   have hS3 : ST w0 [] _ [] (⟨B, (D.flatMap encD_SPauli)⟩ :: ((D.flatMap rowD_SPauli) ++ [])) := ST.subR hS2 (sk 1 (suba (fun r_ (h : r_ ∈ ((D.flatMap rowD_SPauli) : List Ro)) => mOd (i := 2) (show r_ ∈ ((((D.flatMap rowD_SPauli) ++ [])) : List Ro) from mAl _ h)) (fun _ h => by cases h)))
   exact ⟨K7, Nat.lt_succ_self _, i + 1, (i64.wrap (size + (x.length : Int))), (fc (hf.g 0 0) (fc rfl (fc (hf.g 9 2) (fc (hf.g 10 3) (fc (congrArg (Value.int .i64) (wr_succ hlt1 hN)) fn_))))), (hS3.sel [] rfl rfl), (by omega), hL1⟩
 ·skip
  obtain rfl : k_ = 0 := by have h := of_decide_eq_false hlt; omega
  refine cw_exit rfl ?_
  obtain rfl := sI hL
  refine cq (cr ?_)
  refine sQ 23 (ym (vi size) rfl (hf.g 3 1)) ?_
  obtain ⟨hmk, hF1⟩ := chk_inv hF1
  refine sc 24 rfl rfl (yC [.slice none 0 0, vi size] k_call_65 (grow_c Try.grow65 65 71 rfl rfl size K0 K8 K5 rfl (by decide) (by decide) hmk hS1)) ?_
  rintro _ w_ ⟨B3, c3, rfl, hd⟩
  refine sQ 6 (yg (.slice B3 0 c3)) (rn (cq (cq (cr ?_))))
  refine sQ 25 (ym (.slice B slices.length c) rfl (hf.g 0 0)) <| sQ 26 (Y_len (B := B) (m := slices.length) (c := c) K64 rfl rfl) <| sQ 27 (ym (vi 0)) (rn ?_)
  obtain ⟨hN1, hF1⟩ := chk_inv hF1
  obtain ⟨z1, hz1, hF4⟩ := bI hF1
  refine cw_block ?_
  refine cw_loop (fun k f w => ∃ (i1 : Nat) (newslice : List TPauli) (B4 : Option Addr) (c4 : Nat), FF f [(6, .slice B4 newslice.length c4), (25, .slice B slices.length c), (26, vi (slices.length : Int)), (27, vi (i1 : Int))] ∧ ST w0 [] w [⟨B4, 71, (newslice.flatMap eN0), c4 * 3⟩] (⟨B, (D.flatMap encD_SPauli)⟩ :: ((D.flatMap rowD_SPauli) ++ [])) ∧ i1 + k = slices.length ∧ forN (F_slices_Concat_impl_Pauli_impl_Pauli_l2 slices) k i1 newslice = some z1) slices.length ⟨0, ([] : List TPauli), B3, c3, (fc rfl (fc rfl (fc rfl (fc rfl fn_)))), (hd.sel [0] rfl rfl), Nat.zero_add _, hz1⟩ ?_
  rintro K41 f w ⟨i1, newslice, B4, c4, hf1, hS4, hik1, hL2⟩
  refine cq (cr ?_)
  refine sQ 28 (yL (i1 : Int) (slices.length : Int) rfl (hf1.g 27 3) (hf1.g 26 2)) (rn (cq ?_))
  refine cw_cond (b := (decide ((i1 : Int) < (slices.length : Int)))) rfl (fun hlt2 => ?_) (fun hlt2 => ?_)
  ·skip
   have hlt3 : i1 < slices.length := by have h := of_decide_eq_true hlt2; omega
   obtain ⟨K51, rfl⟩ : ∃ k2, K41 = k2 + 1 := ⟨K41 - 1, by omega⟩
   obtain ⟨y1, hb2, hL3⟩ := forN_go hL2
   unfold F_slices_Concat_impl_Pauli_impl_Pauli_l2 at hb2
   refine cw_skip (cq (cw_block (cq (cr ?_))))
   obtain ⟨x1, hx1, hb2⟩ := bI hb2
   obtain ⟨⟨B5, c5⟩, hp1⟩ := getI_snd hD hx1
   refine sQ 29 (Y_index (B := B) (m := slices.length) (c := c) (k := .i64) (i := (i1 : Int)) K64 K1 rfl (hf1.g 25 1) (hf1.g 27 3) (gi_isSome encD_SPauli_len rfl (hS4.rf (i := 0) rfl) hp1) (getI_nn hp1) (getI_ltI hp1 (dl_len hD))) ?_
   have hm1 : (⟨B5, (x1.flatMap eN0)⟩ : Ro) ∈ ((⟨B, (D.flatMap encD_SPauli)⟩ :: ((D.flatMap rowD_SPauli) ++ [])) : List Ro) := app_mem (fun r_ (h : r_ ∈ ((D.flatMap rowD_SPauli) : List Ro)) => mOd (i := 1) (show r_ ∈ ((((D.flatMap rowD_SPauli) ++ [])) : List Ro) from mAl _ h)) (row_mem (rw_ := rowD_SPauli) hp1 _ (mt 0))
   have hS5 : ST w0 [] _ [⟨B4, 71, (newslice.flatMap eN0), c4 * 3⟩] (⟨B5, (x1.flatMap eN0)⟩ :: ⟨B, (D.flatMap encD_SPauli)⟩ :: ((D.flatMap rowD_SPauli) ++ [])) := ST.subR hS4 (subc hm1 (fun _ h => h))
   refine sQ 30 (yl B ((i1 : Int).toNat * 1) (D.flatMap encD_SPauli) (.slice B5 x1.length c5) K6 (hS5.rf (i := 1) rfl) rfl rfl (gi_at0 encD_SPauli_len hp1 rfl)) <| sQ 8 (yg (.slice B5 x1.length c5)) (rn (cr ?_))
   refine sQ 31 (ym (.slice B4 newslice.length c4) rfl (hf1.g 6 0)) <| sQ 32 (ym (.slice B5 x1.length c5)) ?_
   obtain ⟨hap, hb2⟩ := chk_inv hb2
   refine sS 33 (Ys_append (s := 3) (by' := 24) (i := 0) (nn := newslice.length) (c := c4) (k := x1.length) (len := (newslice ++ x1).length) (B := B4) (xs := (x1.flatMap eN0)) (cs' := ((newslice ++ x1).flatMap eN0)) hS5 K2 K0 K8 K5 rfl (by decide) rfl rfl rfl rfl (fm_lenn (l := newslice) eN1 rfl) rfl (hS5.rf (i := 0) rfl) (fm_lenn (l := x1) eN1 rfl) (fm_one' (enc := eN0) eN3 x1) (by have := hap; omega) (by have := hap; simp only [maxLen]; omega) (fm_app _ _) (app_len (l := newslice) (l' := x1) rfl rfl)) ?_
   rintro _ w_1 ⟨B6, c6, rfl, hS6⟩
   refine sQ 6 (yg (.slice B6 ((newslice ++ x1).length) c6)) (rn (cr ?_))
   refine sQ 34 (yP (i1 : Int) 1 rfl (hf1.g 27 3)) <| sQ 27 (ym (vi (i64.wrap ((i1 : Int) + 1)))) (rn ?_)
   obtain rfl := sI hb2
   have hS7 : ST w0 [] _ [⟨B6, 71, ((newslice ++ x1).flatMap eN0), c6 * 3⟩] (⟨B, (D.flatMap encD_SPauli)⟩ :: ((D.flatMap rowD_SPauli) ++ [])) := ST.subR hS6 (sk 1 (suba (fun r_ (h : r_ ∈ ((D.flatMap rowD_SPauli) : List Ro)) => mOd (i := 2) (show r_ ∈ ((((D.flatMap rowD_SPauli) ++ [])) : List Ro) from mAl _ h)) (fun _ h => by cases h)))
   exact ⟨K51, Nat.lt_succ_self _, i1 + 1, (newslice ++ x1), B6, c6, (fc rfl (fc (hf1.g 25 1) (fc (hf1.g 26 2) (fc (congrArg (Value.int .i64) (wr_succ hlt3 hN1)) fn_)))), (hS7.sel [0] rfl rfl), (by omega), hL3⟩
  ·skip
   obtain rfl : K41 = 0 := by have h := of_decide_eq_false hlt2; omega
   refine cw_exit rfl ?_
   obtain rfl := sI hL2
   refine cq (cr ?_)
   refine sQ 35 (ym (.slice B4 newslice.length c4) rfl (hf1.g 6 0)) <| sQ 2 (yg (.slice B4 newslice.length c4)) (rn (ct_ ?_))
   obtain rfl := sI hF4
   exact ret1 Try.results47 (v1 := .slice B4 newslice.length c4) (resAt_tmp rfl) ⟨B4, c4, rfl, (hS4.sN [0])⟩

theorem c_slices_IndexFunc_impl_Pauli_impl_Pauli (s : List TPauli) (f_ : TPauli → Option (Bool)) (B : Option Addr) (c n : Nat) (kf : Nat) (caps : Array Value) (Rf : List Ro) (w0 : World) (hn : s.length = n) (hk : callB Try.prog kf = true) (hp : ∀ (w : World), ST w [] w [] Rf → ∀ (x : TPauli) (y : Bool), f_ x = some y → CV Try.prog kf ((.agg #[vi x.Phase, vi x.X, vi x.Z]) :: caps.toList).toArray w (fun v w' => v = .bool y ∧ ST w [] w' [] [])) (hS : ST w0 [] w0 [] (⟨B, (s.flatMap eN0)⟩ :: Rf)) {r_ : Int} (hF : F_slices_IndexFunc_impl_Pauli_impl_Pauli s f_ = some r_) :
  CV Try.prog 66 #[.slice B n c, .func (.func kf) #[] caps] w0 (fun v w' => v = vi r_ ∧ ST w0 [] w' [] []) := by
 subst hn
 unfold F_slices_IndexFunc_impl_Pauli_impl_Pauli at hF
 refine cv_of_cw 19 Try.func66 rfl Try.ntmps66 rfl ?_
 refine cq (cr ?_)
 refine sQ 4 (yg (vi 0)) (rn (cq (cq (cr ?_))))
 refine sQ 6 (ym (.slice B s.length c)) <| sQ 7 (Y_len (B := B) (m := s.length) (c := c) K2 rfl rfl) <| sQ 8 (ym (vi 0)) (rn ?_)
 obtain ⟨hN, hF⟩ := chk_inv hF
 obtain ⟨z, hz, hF1⟩ := bI hF
 refine cw_block ?_
 refine cw_loop (fun k f w => ∃ (i : Nat), FF f [(0, .slice B s.length c), (1, .func (.func kf) #[] caps), (7, vi (s.length : Int)), (8, vi (i : Int))] ∧ ST w0 [] w [] (⟨B, (s.flatMap eN0)⟩ :: Rf) ∧ i + k = s.length ∧ forX (F_slices_IndexFunc_impl_Pauli_impl_Pauli_l1 s f_) k i () = some z) s.length ⟨0, (fc rfl (fc rfl (fc rfl (fc rfl fn_)))), (hS.sel [] rfl rfl), Nat.zero_add _, hz⟩ ?_
 rintro k_ f w ⟨i, hf, hS1, hik, hL⟩
 refine cq (cr ?_)
 refine sQ 9 (yL (i : Int) (s.length : Int) rfl (hf.g 8 3) (hf.g 7 2)) (rn (cq ?_))
 refine cw_cond (b := (decide ((i : Int) < (s.length : Int)))) rfl (fun hlt => ?_) (fun hlt => ?_)
 ·skip
  have hlt1 : i < s.length := by have h := of_decide_eq_true hlt; omega
  obtain ⟨K7, rfl⟩ : ∃ k2, k_ = k2 + 1 := ⟨k_ - 1, by omega⟩
  obtain ⟨y1, hb, hL1⟩ := forX_go hL
  unfold F_slices_IndexFunc_impl_Pauli_impl_Pauli_l1 at hb
  refine cw_skip (cq (cw_block (cq (cr ?_))))
  refine sQ 10 (ym (vi (i : Int)) rfl (hf.g 8 3)) <| sQ 5 (yg (vi (i : Int))) (rn (cq (cr ?_)))
  refine sQ 11 (ym (.func (.func kf) #[] caps) rfl (hf.g 1 1)) <| sQ 12 (ym (.slice B s.length c) rfl (hf.g 0 0)) <| sQ 13 (ym (vi (i : Int))) ?_
  obtain ⟨x1, hx, hb⟩ := bI hb
  refine sQ 14 (Y_index (B := B) (m := s.length) (c := c) (k := .i64) (i := (i : Int)) K2 K0 rfl rfl rfl (gi_isSome eN1 rfl (hS1.rf (i := 0) rfl) hx) (getI_nn hx) (getI_ltI hx rfl)) <| sQ 15 (ya B ((i : Int).toNat * 3) (s.flatMap eN0) [vi x1.Phase, vi x1.X, vi x1.Z] K14 K0 (hS1.rf (i := 0) rfl) rfl rfl (eN1 x1) (gi_seg eN1 hx)) ?_
  obtain ⟨r_1, hc, hb⟩ := bI hb
  refine sc 16 rfl rfl (Yc_clos (g := kf) (vs := (.agg #[vi x1.Phase, vi x1.X, vi x1.Z]) :: caps.toList) hk rfl rfl (clo_args (mc rfl mn)) (hp _ (hS1.innS (fun _ h => mOd (i := 1) h)) x1 r_1 hc)) ?_
  rintro _ w_ ⟨rfl, hd⟩
  have hS2 := hS1.out00 hd
  refine rn ?_
  refine cw_cond (b := r_1) rfl (fun hb1 => ?_) (fun hb1 => ?_)
  ·skip
   have hF2 := ct hb hb1
   refine cq (cr ?_)
   refine sQ 17 (ym (vi (i : Int))) <| sQ 4 (yg (vi (i : Int))) (rn (ct_ ?_))
   obtain rfl := sI hF2
   obtain rfl := sI hL1
   obtain rfl := sI hF1
   exact ret1 Try.results66 (v1 := vi (i : Int)) (resAt_tmp rfl) ⟨rfl, (hS2.sN [])⟩
  ·skip
   have hF3 := cf' hb hb1
   refine cw_skip (cr ?_)
   refine sQ 18 (yP (i : Int) 1 rfl (hf.g 8 3)) <| sQ 8 (ym (vi (i64.wrap ((i : Int) + 1)))) (rn ?_)
   obtain rfl := sI hF3
   exact ⟨K7, Nat.lt_succ_self _, i + 1, (fc (hf.g 0 0) (fc (hf.g 1 1) (fc (hf.g 7 2) (fc (congrArg (Value.int .i64) (wr_succ hlt1 hN)) fn_)))), (hS2.sel [] rfl rfl), (by omega), hL1⟩
 ·skip
  obtain rfl : k_ = 0 := by have h := of_decide_eq_false hlt; omega
  refine cw_exit rfl ?_
  obtain rfl := sI hL
  refine cq (cr ?_)
  refine sQ 4 (yg (vi (-1))) (rn (ct_ ?_))
  obtain rfl := sI hF1
  exact ret1 Try.results66 (v1 := vi (-1)) (resAt_tmp rfl) ⟨rfl, (hS1.sN [])⟩

theorem c_slices_ContainsFunc_impl_Pauli_impl_Pauli (s : List TPauli) (f_ : TPauli → Option (Bool)) (B : Option Addr) (c n : Nat) (kf : Nat) (caps : Array Value) (Rf : List Ro) (w0 : World) (hn : s.length = n) (hk : callB Try.prog kf = true) (hp : ∀ (w : World), ST w [] w [] Rf → ∀ (x : TPauli) (y : Bool), f_ x = some y → CV Try.prog kf ((.agg #[vi x.Phase, vi x.X, vi x.Z]) :: caps.toList).toArray w (fun v w' => v = .bool y ∧ ST w [] w' [] [])) (hS : ST w0 [] w0 [] (⟨B, (s.flatMap eN0)⟩ :: Rf)) {r_ : Bool} (hF : F_slices_ContainsFunc_impl_Pauli_impl_Pauli s f_ = some r_) :
  CV Try.prog 48 #[.slice B n c, .func (.func kf) #[] caps] w0 (fun v w' => v = .bool r_ ∧ ST w0 [] w' [] []) := by
 subst hn
 unfold F_slices_ContainsFunc_impl_Pauli_impl_Pauli at hF
 refine cv_of_cw 9 Try.func48 rfl Try.ntmps48 rfl ?_
 refine cq (cr ?_)
 refine sQ 4 (yg (.bool false)) (rn (cq (cr ?_)))
 refine sQ 5 (ym (.slice B s.length c)) <| sQ 6 (ym (.func (.func kf) #[] caps)) ?_
 obtain ⟨r_1, hc, hF⟩ := bI hF
 refine sc 7 rfl rfl (yC [.slice B s.length c, .func (.func kf) #[] caps] k_call_66 (c_slices_IndexFunc_impl_Pauli_impl_Pauli s f_ B c s.length kf caps Rf _ rfl hk hp (hS.innS (sk 0 (fun _ h => mOd (i := 1) h))) hc)) ?_
 rintro _ w_ ⟨rfl, hd⟩
 have hS1 := hS.out00 hd
 refine sQ 8 (Y_ge (k := .i64) (a := r_1) (b := 0) rfl rfl rfl) <| sQ 4 (yg (.bool (decide (0 ≤ r_1)))) (rn (ct_ ?_))
 obtain rfl := sI hF
 exact ret1 Try.results48 (v1 := .bool (decide (0 ≤ r_1))) (resAt_tmp rfl) ⟨rfl, (hS1.sN [])⟩

theorem c_impl_IsValidPauli (n : Int) (p : TPauli)  (w0 : World)  (hS : ST w0 [] w0 [] []) {r_ : Bool} (hF : F_impl_IsValidPauli n p = some r_) :
  CV Try.prog 67 #[vi n, .agg #[vi p.Phase, vi p.X, vi p.Z]] w0 (fun v w' => v = .bool r_ ∧ ST w0 [] w' [] []) := by
 unfold F_impl_IsValidPauli at hF
 refine cv_of_cw 28 Try.func67 rfl Try.ntmps67 rfl ?_
 refine cq (cr ?_)
 refine sS 3 (yB 71 (.agg #[vi p.Phase, vi p.X, vi p.Z]) [vi p.Phase, vi p.X, vi p.Z] 3 hS) ?_
 rintro _ w_ ⟨b, rfl, hS1⟩
 refine sQ 4 (yg (.bool false)) (rn (cq ?_))
 obtain ⟨r_1, hc, hF⟩ := bI hF
 obtain ⟨r_2, hc1, hF⟩ := bI hF
 obtain ⟨hsh, hF⟩ := chk_inv hF
 obtain ⟨r_3, hc2, hF⟩ := bI hF
 obtain ⟨hsh1, hF⟩ := chk_inv hF
 obtain ⟨r_4, hc3, hF⟩ := bI hF
 refine ra_start (hS1.se [0]).fn (by kernel_rfl) ?_
 have hS6 := hS1.drew
 refine rq 0 5 (v := vi n) rfl (hS6.se [0]) (fun w' hw' => (ym (vi n))) ?_
 refine rA [1] ?_
 refine rC 6 1 rfl (yC [vi n, vi 1, vi 5] K46 (c_impl_within n 1 5 _  (hS6.inn0 [] rfl) hc)) ?_ ?_
 ·rintro _ w_1 ⟨rfl, hd⟩
  have hS7 := hS6.out00 hd
  refine ⟨(hS7.se [0]), ?_⟩
  refine rq 2 7 (v := .bool r_1) rfl (hS7.se [0]) (fun w' hw' => (ym (.bool r_1))) ?_
  refine ra_gq 3 8 (B := r_1) (v := pt (aD b) 0) rfl rfl rfl (uT_ 7) (by kernel_rfl) (by kernel_rfl) (by kernel_rfl) (hS7.se [0]) (fun hg w' hw' => (yd (aD b) 0 0 K23 K3)) ?_
  refine ra_gq 4 9 (B := r_1) (v := vi p.Phase) rfl rfl rfl (uT_ 7) (by kernel_rfl) (by kernel_rfl) (by kernel_rfl) (hS7.se [0]) (fun hg1 w' hw' => (yl (aD b) 0 [vi p.Phase, vi p.X, vi p.Z] (vi p.Phase) K4 (ST.cf hw' (i := 0) rfl) rfl (gv_of (v := pt (aD b) 0) hg1))) ?_
  refine rA [5] ?_
  refine ra_gc 10 (i := 5) (B := r_1) (v := .bool r_2) (F := hS7.fn) rfl rfl rfl (uT_ 7) hS7 (fun hg2 => (yC [vi p.Phase, vi 0, vi 3] K46 (CV.mono (c_impl_within p.Phase 0 3 _  (hS7.inn0 [] rfl) (gb_inv hc1 hg2)) (by rintro _ _ ⟨rfl, h⟩; exact ⟨rfl, hS7.out00 h⟩)) rfl (mc (gv_of (v := vi p.Phase) hg2) (mc rfl (mc rfl mn))))) ?_ ?_
  ·rintro w_2 hS8
   refine ⟨(hS8.se [0]), ?_⟩
   refine rq 6 11 (v := .bool (r_1 && r_2)) rfl (hS8.se [0]) (fun w' hw' => (Y_and (b := r_1) (z := r_2) rfl rfl rfl rfl)) ?_
   refine rq 7 12 (v := .bool (r_1 && r_2)) rfl (hS8.se [0]) (fun w' hw' => (ym (.bool (r_1 && r_2)))) ?_
   refine ra_gq 8 13 (B := (r_1 && r_2)) (v := pt (aD b) 1) rfl rfl rfl (uT_ 12) (by kernel_rfl) (by kernel_rfl) (by kernel_rfl) (hS8.se [0]) (fun hg3 w' hw' => (yd (aD b) 0 0 K37 K3)) ?_
   refine ra_gq 9 14 (B := (r_1 && r_2)) (v := vi p.X) rfl rfl rfl (uT_ 12) (by kernel_rfl) (by kernel_rfl) (by kernel_rfl) (hS8.se [0]) (fun hg4 w' hw' => (yl (aD b) 1 [vi p.Phase, vi p.X, vi p.Z] (vi p.X) K4 (ST.cf hw' (i := 0) rfl) rfl (gv_of (v := pt (aD b) 1) hg4))) ?_
   refine ra_gq 10 15 (B := (r_1 && r_2)) (v := vi n) rfl rfl rfl (uT_ 12) (by kernel_rfl) (by kernel_rfl) (by kernel_rfl) (hS8.se [0]) (fun hg5 w' hw' => (ym (vi n))) ?_
   refine ra_gq 11 16 (B := (r_1 && r_2)) (v := vi (shlK .i64 1 n)) rfl rfl rfl (uT_ 12) (by kernel_rfl) (by kernel_rfl) (by kernel_rfl) (hS8.se [0]) (fun hg6 w' hw' => (Y_shl (k := .i64) (a := 1) (k' := .i64) (b := n) rfl rfl (gv_of (v := vi n) hg6) (hsh hg6))) ?_
   refine ra_gq 12 17 (B := (r_1 && r_2)) (v := vi (i64.wrap ((shlK .i64 1 n) - 1))) rfl rfl rfl (uT_ 12) (by kernel_rfl) (by kernel_rfl) (by kernel_rfl) (hS8.se [0]) (fun hg7 w' hw' => (yM (shlK .i64 1 n) 1 rfl (gv_of (v := vi (shlK .i64 1 n)) hg7))) ?_
   refine rA [13] ?_
   refine ra_gc 18 (i := 13) (B := (r_1 && r_2)) (v := .bool r_3) (F := hS8.fn) rfl rfl rfl (uT_ 12) hS8 (fun hg8 => (yC [vi p.X, vi 0, vi (i64.wrap ((shlK .i64 1 n) - 1))] K46 (CV.mono (c_impl_within p.X 0 (i64.wrap ((shlK .i64 1 n) - 1)) _  (hS8.inn0 [] rfl) (gb_inv hc2 hg8)) (by rintro _ _ ⟨rfl, h⟩; exact ⟨rfl, hS8.out00 h⟩)) rfl (mc (gv_of (v := vi p.X) hg8) (mc rfl (mc (gv_of (v := vi (i64.wrap ((shlK .i64 1 n) - 1))) hg8) mn))))) ?_ ?_
   ·rintro w_3 hS9
    refine ⟨(hS9.se [0]), ?_⟩
    refine rq 14 19 (v := .bool ((r_1 && r_2) && r_3)) rfl (hS9.se [0]) (fun w' hw' => (Y_and (b := (r_1 && r_2)) (z := r_3) rfl rfl rfl rfl)) ?_
    refine rq 15 20 (v := .bool ((r_1 && r_2) && r_3)) rfl (hS9.se [0]) (fun w' hw' => (ym (.bool ((r_1 && r_2) && r_3)))) ?_
    refine ra_gq 16 21 (B := ((r_1 && r_2) && r_3)) (v := pt (aD b) 2) rfl rfl rfl (uT_ 20) (by kernel_rfl) (by kernel_rfl) (by kernel_rfl) (hS9.se [0]) (fun hg9 w' hw' => (yd (aD b) 0 0 K38 K3)) ?_
    refine ra_gq 17 22 (B := ((r_1 && r_2) && r_3)) (v := vi p.Z) rfl rfl rfl (uT_ 20) (by kernel_rfl) (by kernel_rfl) (by kernel_rfl) (hS9.se [0]) (fun hg10 w' hw' => (yl (aD b) 2 [vi p.Phase, vi p.X, vi p.Z] (vi p.Z) K4 (ST.cf hw' (i := 0) rfl) rfl (gv_of (v := pt (aD b) 2) hg10))) ?_
    refine ra_gq 18 23 (B := ((r_1 && r_2) && r_3)) (v := vi n) rfl rfl rfl (uT_ 20) (by kernel_rfl) (by kernel_rfl) (by kernel_rfl) (hS9.se [0]) (fun hg11 w' hw' => (ym (vi n))) ?_
    refine ra_gq 19 24 (B := ((r_1 && r_2) && r_3)) (v := vi (shlK .i64 1 n)) rfl rfl rfl (uT_ 20) (by kernel_rfl) (by kernel_rfl) (by kernel_rfl) (hS9.se [0]) (fun hg12 w' hw' => (Y_shl (k := .i64) (a := 1) (k' := .i64) (b := n) rfl rfl (gv_of (v := vi n) hg12) (hsh1 hg12))) ?_
    refine ra_gq 20 25 (B := ((r_1 && r_2) && r_3)) (v := vi (i64.wrap ((shlK .i64 1 n) - 1))) rfl rfl rfl (uT_ 20) (by kernel_rfl) (by kernel_rfl) (by kernel_rfl) (hS9.se [0]) (fun hg13 w' hw' => (yM (shlK .i64 1 n) 1 rfl (gv_of (v := vi (shlK .i64 1 n)) hg13))) ?_
    refine rA [21] ?_
    refine ra_gc 26 (i := 21) (B := ((r_1 && r_2) && r_3)) (v := .bool r_4) (F := hS9.fn) rfl rfl rfl (uT_ 20) hS9 (fun hg14 => (yC [vi p.Z, vi 0, vi (i64.wrap ((shlK .i64 1 n) - 1))] K46 (CV.mono (c_impl_within p.Z 0 (i64.wrap ((shlK .i64 1 n) - 1)) _  (hS9.inn0 [] rfl) (gb_inv hc3 hg14)) (by rintro _ _ ⟨rfl, h⟩; exact ⟨rfl, hS9.out00 h⟩)) rfl (mc (gv_of (v := vi p.Z) hg14) (mc rfl (mc (gv_of (v := vi (i64.wrap ((shlK .i64 1 n) - 1))) hg14) mn))))) ?_ ?_
    ·rintro w_4 hS10
     refine ⟨(hS10.se [0]), ?_⟩
     refine rq 22 27 (v := .bool (((r_1 && r_2) && r_3) && r_4)) rfl (hS10.se [0]) (fun w' hw' => (Y_and (b := ((r_1 && r_2) && r_3)) (z := r_4) rfl rfl rfl rfl)) ?_
     refine rq 23 4 (v := .bool (((r_1 && r_2) && r_3) && r_4)) rfl (hS10.se [0]) (fun w' hw' => (yg (.bool (((r_1 && r_2) && r_3) && r_4)))) ?_
     refine ra_done (by kernel_rfl) ?_
     refine ct_ ?_
     obtain rfl := sI hF
     exact ret1 Try.results67 (v1 := .bool (((r_1 && r_2) && r_3) && r_4)) (resAt_tmp rfl) ⟨rfl, (hS10.sN [])⟩
    exact aN
   exact aN
  exact aN
 exact aN

theorem c_impl_isImage (n : Int) (p : TPauli)  (w0 : World)  (hS : ST w0 [] w0 [] []) {r_ : Bool} (hF : F_impl_isImage n p = some r_) :
  CV Try.prog 50 #[vi n, .agg #[vi p.Phase, vi p.X, vi p.Z]] w0 (fun v w' => v = .bool r_ ∧ ST w0 [] w' [] []) := by
 unfold F_impl_isImage at hF
 refine cv_of_cw 14 Try.func50 rfl Try.ntmps50 rfl ?_
 refine cq (cr ?_)
 refine sS 3 (yB 71 (.agg #[vi p.Phase, vi p.X, vi p.Z]) [vi p.Phase, vi p.X, vi p.Z] 3 hS) ?_
 rintro _ w_ ⟨b, rfl, hS1⟩
 refine sQ 4 (yg (.bool false)) (rn (cq (cr ?_)))
 refine sQ 5 (ym (vi n)) <| sQ 6 (yb (aD b) 0 [vi p.Phase, vi p.X, vi p.Z] K14 K0 (hS1.c 0)) ?_
 obtain ⟨r_1, hc, hF⟩ := bI hF
 refine sc 7 rfl rfl (yC [vi n, .agg #[vi p.Phase, vi p.X, vi p.Z]] k_call_67 (c_impl_IsValidPauli n p _  (hS1.inn0 [] rfl) hc)) ?_
 rintro _ w_1 ⟨rfl, hd⟩
 have hS2 := hS1.out00 hd
 refine sQ 8 (ym (.bool r_1)) ?_
 refine sgq 9 (B := r_1) (v := pt (aD b) 0) rfl rfl (uT_ 8) (fun hg => (yd (aD b) 0 0 K23 K3)) ?_
 refine sgq 10 (B := r_1) (v := vi p.Phase) rfl rfl (uT_ 8) (fun hg1 => (yl (aD b) 0 [vi p.Phase, vi p.X, vi p.Z] (vi p.Phase) K4 (hS2.c 0) rfl (gv_of (v := pt (aD b) 0) hg1))) ?_
 refine sgq 11 (B := r_1) (v := vi (Int.tmod p.Phase 2)) rfl rfl (uT_ 8) (fun hg2 => (Y_rem (k := .i64) (a := p.Phase) (b := 2) rfl (gv_of (v := vi p.Phase) hg2) rfl (by decide))) ?_
 refine sgq 12 (B := r_1) (v := .bool ((Int.tmod p.Phase 2) == 0)) rfl rfl (uT_ 8) (fun hg3 => (yE (Int.tmod p.Phase 2) 0 rfl (gv_of (v := vi (Int.tmod p.Phase 2)) hg3))) ?_
 refine sQ 13 (Y_and (b := r_1) (z := ((Int.tmod p.Phase 2) == 0)) rfl rfl rfl rfl) <| sQ 4 (yg (.bool (r_1 && ((Int.tmod p.Phase 2) == 0)))) (rn (ct_ ?_))
 obtain rfl := sI hF
 exact ret1 Try.results50 (v1 := .bool (r_1 && ((Int.tmod p.Phase 2) == 0))) (resAt_tmp rfl) ⟨rfl, (hS2.sN [])⟩

theorem c_impl_IsValidTableau_1 (p : TPauli) (p1 : Int) (B : Option Addr) (w0 : World)  (hS : ST w0 [] w0 [] [⟨B, [vi p1]⟩]) {r_ : Bool} (hF : F_impl_IsValidTableau_1 p p1 = some r_) :
  CV Try.prog 49 #[.agg #[vi p.Phase, vi p.X, vi p.Z], pt B 0] w0 (fun v w' => v = .bool r_ ∧ ST w0 [] w' [] []) := by
 unfold F_impl_IsValidTableau_1 at hF
 refine cv_of_cw 8 Try.func49 rfl Try.ntmps49 rfl ?_
 refine cq (cr ?_)
 refine sS 2 (yB 71 (.agg #[vi p.Phase, vi p.X, vi p.Z]) [vi p.Phase, vi p.X, vi p.Z] 3 hS) ?_
 rintro _ w_ ⟨b, rfl, hS1⟩
 refine sQ 3 (yg (.bool false)) (rn (cq (cr ?_)))
 refine sQ 4 (yl B 0 [vi p1] (vi p1) K4 (hS1.rf (i := 0) rfl)) <| sQ 5 (yb (aD b) 0 [vi p.Phase, vi p.X, vi p.Z] K14 K0 (hS1.c 0)) ?_
 obtain ⟨r_1, hc, hF⟩ := bI hF
 refine sc 6 rfl rfl (yC [vi p1, .agg #[vi p.Phase, vi p.X, vi p.Z]] k_call_50 (c_impl_isImage p1 p _  (hS1.inn0 [] rfl) hc)) ?_
 rintro _ w_1 ⟨rfl, hd⟩
 have hS2 := hS1.out00 hd
 refine sQ 7 (Y_not (p := r_1) rfl rfl) <| sQ 3 (yg (.bool (!r_1))) (rn (ct_ ?_))
 obtain rfl := sI hF
 exact ret1 Try.results49 (v1 := .bool (!r_1)) (resAt_tmp rfl) ⟨rfl, (hS2.sN [])⟩

theorem c_impl_commute (a : TPauli) (b : TPauli)  (w0 : World)  (hS : ST w0 [] w0 [] []) {r_ : Bool} (hF : F_impl_commute a b = some r_) :
  CV Try.prog 51 #[.agg #[vi a.Phase, vi a.X, vi a.Z], .agg #[vi b.Phase, vi b.X, vi b.Z]] w0 (fun v w' => v = .bool r_ ∧ ST w0 [] w' [] []) := by
 unfold F_impl_commute at hF
 refine cv_of_cw 22 Try.func51 rfl Try.ntmps51 rfl ?_
 refine cq (cr ?_)
 refine sS 2 (yB 71 (.agg #[vi a.Phase, vi a.X, vi a.Z]) [vi a.Phase, vi a.X, vi a.Z] 3 hS) ?_
 rintro _ w_ ⟨b1, rfl, hS1⟩
 refine sS 3 (yB 71 (.agg #[vi b.Phase, vi b.X, vi b.Z]) [vi b.Phase, vi b.X, vi b.Z] 3 hS1) ?_
 rintro _ w_1 ⟨b2, rfl, hS2⟩
 refine sQ 4 (yg (.bool false)) (rn (cq ?_))
 obtain ⟨r_1, hc, hF⟩ := bI hF
 obtain ⟨r_2, hc1, hF⟩ := bI hF
 refine ra_start (hS2.se [0, 1]).fn (by kernel_rfl) ?_
 have hS5 := hS2.drew
 refine rq 0 5 (v := pt (aD b1) 1) rfl (hS5.se [0, 1]) (fun w' hw' => (yd (aD b1) 0 0 K37 K3)) ?_
 refine rq 1 6 (v := vi a.X) rfl (hS5.se [0, 1]) (fun w' hw' => (yl (aD b1) 1 [vi a.Phase, vi a.X, vi a.Z] (vi a.X) K4 (ST.cf hw' (i := 0) rfl))) ?_
 refine rq 2 7 (v := pt (aD b2) 2) rfl (hS5.se [0, 1]) (fun w' hw' => (yd (aD b2) 0 0 K38 K3)) ?_
 refine rq 3 8 (v := vi b.Z) rfl (hS5.se [0, 1]) (fun w' hw' => (yl (aD b2) 2 [vi b.Phase, vi b.X, vi b.Z] (vi b.Z) K4 (ST.cf hw' (i := 1) rfl))) ?_
 refine rq 4 9 (v := vi (bits .and .i64 a.X b.Z)) rfl (hS5.se [0, 1]) (fun w' hw' => (Y_band (k := .i64) (a := a.X) (b := b.Z) rfl rfl rfl)) ?_
 refine rq 5 10 (v := .int .u64 (IntKind.u64.wrap (bits .and .i64 a.X b.Z))) rfl (hS5.se [0, 1]) (fun w' hw' => (Y_conv (k := .i64) (a := (bits .and .i64 a.X b.Z)) (T := 3) (T' := 74) K39 K40 rfl rfl)) ?_
 refine rq 7 12 (v := pt (aD b1) 2) rfl (hS5.se [0, 1]) (fun w' hw' => (yd (aD b1) 0 0 K38 K3)) ?_
 refine rq 8 13 (v := vi a.Z) rfl (hS5.se [0, 1]) (fun w' hw' => (yl (aD b1) 2 [vi a.Phase, vi a.X, vi a.Z] (vi a.Z) K4 (ST.cf hw' (i := 0) rfl))) ?_
 refine rq 9 14 (v := pt (aD b2) 1) rfl (hS5.se [0, 1]) (fun w' hw' => (yd (aD b2) 0 0 K37 K3)) ?_
 refine rq 10 15 (v := vi b.X) rfl (hS5.se [0, 1]) (fun w' hw' => (yl (aD b2) 1 [vi b.Phase, vi b.X, vi b.Z] (vi b.X) K4 (ST.cf hw' (i := 1) rfl))) ?_
 refine rq 11 16 (v := vi (bits .and .i64 a.Z b.X)) rfl (hS5.se [0, 1]) (fun w' hw' => (Y_band (k := .i64) (a := a.Z) (b := b.X) rfl rfl rfl)) ?_
 refine rq 12 17 (v := .int .u64 (IntKind.u64.wrap (bits .and .i64 a.Z b.X))) rfl (hS5.se [0, 1]) (fun w' hw' => (Y_conv (k := .i64) (a := (bits .and .i64 a.Z b.X)) (T := 3) (T' := 74) K39 K40 rfl rfl)) ?_
 refine rA [6] ?_
 refine rC 11 6 rfl (yC [.int .u64 (IntKind.u64.wrap (bits .and .i64 a.X b.Z))] K50 (c_math_bits_OnesCount (IntKind.u64.wrap (bits .and .i64 a.X b.Z)) _  (hS5.inn0 [] rfl) hc)) ?_ ?_
 ·rintro _ w_2 ⟨rfl, hd⟩
  have hS6 := hS5.out00 hd
  refine ⟨(hS6.se [0, 1]), ?_⟩
  refine rA [13] ?_
  refine rC 18 13 rfl (yC [.int .u64 (IntKind.u64.wrap (bits .and .i64 a.Z b.X))] K50 (c_math_bits_OnesCount (IntKind.u64.wrap (bits .and .i64 a.Z b.X)) _  (hS6.inn0 [] rfl) hc1)) ?_ ?_
  ·rintro _ w_3 ⟨rfl, hd1⟩
   have hS7 := hS6.out00 hd1
   refine ⟨(hS7.se [0, 1]), ?_⟩
   refine rq 14 19 (v := vi (i64.wrap (r_1 + r_2))) rfl (hS7.se [0, 1]) (fun w' hw' => (yP r_1 r_2)) ?_
   refine rq 15 20 (v := vi (Int.tmod (i64.wrap (r_1 + r_2)) 2)) rfl (hS7.se [0, 1]) (fun w' hw' => (Y_rem (k := .i64) (a := (i64.wrap (r_1 + r_2))) (b := 2) rfl rfl rfl (by decide))) ?_
   refine rq 16 21 (v := .bool ((Int.tmod (i64.wrap (r_1 + r_2)) 2) == 0)) rfl (hS7.se [0, 1]) (fun w' hw' => (yE (Int.tmod (i64.wrap (r_1 + r_2)) 2) 0)) ?_
   refine rq 17 4 (v := .bool ((Int.tmod (i64.wrap (r_1 + r_2)) 2) == 0)) rfl (hS7.se [0, 1]) (fun w' hw' => (yg (.bool ((Int.tmod (i64.wrap (r_1 + r_2)) 2) == 0)))) ?_
   refine ra_done (by kernel_rfl) ?_
   refine ct_ ?_
   obtain rfl := sI hF
   exact ret1 Try.results51 (v1 := .bool ((Int.tmod (i64.wrap (r_1 + r_2)) 2) == 0)) (resAt_tmp rfl) ⟨rfl, (hS7.sN [])⟩
  exact aN
 exact aN

theorem c_impl_IsValidTableau (t : TTableau) (B : Option Addr) (c n : Nat) (B1 : Option Addr) (c1 n1 : Nat) (w0 : World) (hn : t.XImages.length = n) (hn1 : t.ZImages.length = n1) (hS : ST w0 [] w0 [] [⟨B, (t.XImages.flatMap eN0)⟩, ⟨B1, (t.ZImages.flatMap eN0)⟩]) {r_ : Bool} (hF : F_impl_IsValidTableau t = some r_) :
  CV Try.prog 31 #[.agg #[vi t.Qubits, .slice B n c, .slice B1 n1 c1]] w0 (fun v w' => v = .bool r_ ∧ ST w0 [] w' [] []) := by
 subst hn
 subst hn1
 unfold F_impl_IsValidTableau at hF
 refine cv_of_cw 61 Try.func31 rfl Try.ntmps31 rfl ?_
 refine cq (cr ?_)
 refine sS 1 (yB 40 (.agg #[vi t.Qubits, .slice B t.XImages.length c, .slice B1 t.ZImages.length c1]) [vi t.Qubits, .slice B t.XImages.length c, .slice B1 t.ZImages.length c1] 3 hS) ?_
 rintro _ w_ ⟨b, rfl, hS1⟩
 refine sQ 2 (yg (.bool false)) (rn (cq (cr ?_)))
 refine sQ 7 (yd (aD b) 0 0 K30 K3) <| sQ 8 (yl (aD b) 0 [vi t.Qubits, .slice B t.XImages.length c, .slice B1 t.ZImages.length c1] (vi t.Qubits) K4 (hS1.c 0)) ?_
 refine sS 3 (yN [vi 0] 1 hS1 k_zero_3) ?_
 rintro _ w_1 ⟨b1, rfl, hS2⟩
 refine s0 (yT 1 1 (aD b1) 3 (vi t.Qubits) [vi t.Qubits] 0 hS2 K3) ?_
 rintro _ w_2 ⟨rfl, hS3⟩
 refine rn (cq (cq (cr ?_)))
 refine sQ 9 (yl (aD b1) 0 [vi t.Qubits] (vi t.Qubits) K4 (hS3.c 1)) ?_
 obtain ⟨r_1, hc, hF⟩ := bI hF
 refine sc 10 rfl rfl (yC [vi t.Qubits, vi 1, vi 5] K46 (c_impl_within t.Qubits 1 5 _  (hS3.inn0 [] rfl) hc)) ?_
 rintro _ w_3 ⟨rfl, hd⟩
 have hS4 := hS3.out00 hd
 refine sQ 11 (Y_not (p := r_1) rfl rfl) <| sQ 12 (ym (.bool (!r_1))) ?_
 refine sgq 13 (B := (!(!r_1))) (v := pt (aD b) 1) rfl rfl (uF_ 12) (fun hg => (yd (aD b) 0 0 K9 K1)) ?_
 refine sgq 14 (B := (!(!r_1))) (v := .slice B t.XImages.length c) rfl rfl (uF_ 12) (fun hg1 => (yl (aD b) 1 [vi t.Qubits, .slice B t.XImages.length c, .slice B1 t.ZImages.length c1] (.slice B t.XImages.length c) K6 (hS4.c 0) rfl (gv_of (v := pt (aD b) 1) hg1))) ?_
 refine sgq 15 (B := (!(!r_1))) (v := vi (t.XImages.length : Int)) rfl rfl (uF_ 12) (fun hg2 => (Y_len (B := B) (m := t.XImages.length) (c := c) K2 rfl (gv_of (v := .slice B t.XImages.length c) hg2))) ?_
 refine sgq 16 (B := (!(!r_1))) (v := vi t.Qubits) rfl rfl (uF_ 12) (fun hg3 => (yl (aD b1) 0 [vi t.Qubits] (vi t.Qubits) K4 (hS4.c 1))) ?_
 refine sgq 17 (B := (!(!r_1))) (v := .bool ((t.XImages.length : Int) != t.Qubits)) rfl rfl (uF_ 12) (fun hg4 => (Y_ne (k := .i64) (a := (t.XImages.length : Int)) (b := t.Qubits) rfl (gv_of (v := vi (t.XImages.length : Int)) hg4) (gv_of (v := vi t.Qubits) hg4))) ?_
 refine sQ 18 (Y_or (b := (!r_1)) (z := ((t.XImages.length : Int) != t.Qubits)) rfl rfl rfl rfl) <| sQ 19 (ym (.bool ((!r_1) || ((t.XImages.length : Int) != t.Qubits)))) ?_
 refine sgq 20 (B := (!((!r_1) || ((t.XImages.length : Int) != t.Qubits)))) (v := pt (aD b) 2) rfl rfl (uF_ 19) (fun hg5 => (yd (aD b) 0 0 K11 K1)) ?_
 refine sgq 21 (B := (!((!r_1) || ((t.XImages.length : Int) != t.Qubits)))) (v := .slice B1 t.ZImages.length c1) rfl rfl (uF_ 19) (fun hg6 => (yl (aD b) 2 [vi t.Qubits, .slice B t.XImages.length c, .slice B1 t.ZImages.length c1] (.slice B1 t.ZImages.length c1) K6 (hS4.c 0) rfl (gv_of (v := pt (aD b) 2) hg6))) ?_
 refine sgq 22 (B := (!((!r_1) || ((t.XImages.length : Int) != t.Qubits)))) (v := vi (t.ZImages.length : Int)) rfl rfl (uF_ 19) (fun hg7 => (Y_len (B := B1) (m := t.ZImages.length) (c := c1) K2 rfl (gv_of (v := .slice B1 t.ZImages.length c1) hg7))) ?_
 refine sgq 23 (B := (!((!r_1) || ((t.XImages.length : Int) != t.Qubits)))) (v := vi t.Qubits) rfl rfl (uF_ 19) (fun hg8 => (yl (aD b1) 0 [vi t.Qubits] (vi t.Qubits) K4 (hS4.c 1))) ?_
 refine sgq 24 (B := (!((!r_1) || ((t.XImages.length : Int) != t.Qubits)))) (v := .bool ((t.ZImages.length : Int) != t.Qubits)) rfl rfl (uF_ 19) (fun hg9 => (Y_ne (k := .i64) (a := (t.ZImages.length : Int)) (b := t.Qubits) rfl (gv_of (v := vi (t.ZImages.length : Int)) hg9) (gv_of (v := vi t.Qubits) hg9))) ?_
 refine sQ 25 (Y_or (b := ((!r_1) || ((t.XImages.length : Int) != t.Qubits))) (z := ((t.ZImages.length : Int) != t.Qubits)) rfl rfl rfl rfl) (rn ?_)
 refine cw_cond (b := (((!r_1) || ((t.XImages.length : Int) != t.Qubits)) || ((t.ZImages.length : Int) != t.Qubits))) rfl (fun hb => ?_) (fun hb => ?_)
 ·skip
  have hF1 := ct hF hb
  refine cq (cr ?_)
  refine sQ 2 (yg (.bool false)) (rn (ct_ ?_))
  obtain rfl := sI hF1
  exact ret1 Try.results31 (v1 := .bool false) (resAt_tmp rfl) ⟨rfl, (hS4.sN [])⟩
 ·skip
  have hF2 := cf' hF hb
  refine cw_skip (cq (cr ?_))
  refine sQ 26 (yd (aD b) 0 0 K9 K1) <| sQ 27 (yl (aD b) 1 [vi t.Qubits, .slice B t.XImages.length c, .slice B1 t.ZImages.length c1] (.slice B t.XImages.length c) K6 (hS4.c 0)) <| sQ 28 (yd (aD b) 0 0 K11 K1) <| sQ 29 (yl (aD b) 2 [vi t.Qubits, .slice B t.XImages.length c, .slice B1 t.ZImages.length c1] (.slice B1 t.ZImages.length c1) K6 (hS4.c 0)) ?_
  refine sS 30 (Ys_bslice (s := 1) (len := 2) (vs := [(0, .slice B t.XImages.length c), (1, .slice B1 t.ZImages.length c1)]) (cs := [.slice B t.XImages.length c, .slice B1 t.ZImages.length c1]) (zs := [.slice none 0 0, .slice none 0 0]) (m := 2) hS4 K64 K1 k_zc_38 rfl (mpc rfl (mpc rfl mpn)) rfl rfl rfl (by kernel_rfl) (by kernel_rfl) rfl) ?_
  rintro _ w_4 ⟨b2, rfl, hS5⟩
  have hm : ∀ r ∈ (([((B, c), t.XImages), ((B1, c1), t.ZImages)] : List (Hd × (List TPauli))).flatMap rowD_SPauli), r ∈ ([⟨B, (t.XImages.flatMap eN0)⟩, ⟨B1, (t.ZImages.flatMap eN0)⟩] : List Ro) := (fsub_cons (sk 0 (fun _ h => by cases h)) (fsub_cons (sk 1 (fun _ h => by cases h)) fsub_nil))
  have ho : Org w0 [] [⟨B, (t.XImages.flatMap eN0)⟩, ⟨B1, (t.ZImages.flatMap eN0)⟩] (([((B, c), t.XImages), ((B1, c1), t.ZImages)] : List (Hd × (List TPauli))).flatMap rowD_SPauli) := (forg_cons (org_cons (org_mem (i := 0) rfl) org_nil) (forg_cons (org_cons (org_mem (i := 1) rfl) org_nil) forg_nil))
  have hS6 : ST w0 [] _ [⟨aD b, 40, [vi t.Qubits, .slice B t.XImages.length c, .slice B1 t.ZImages.length c1], 3⟩, ⟨aD b1, 3, [vi t.Qubits], 1⟩, ⟨aD b2, 38, (([((B, c), t.XImages), ((B1, c1), t.ZImages)] : List (Hd × (List TPauli))).flatMap encD_SPauli), 2 * 1⟩] (⟨B, (t.XImages.flatMap eN0)⟩ :: ⟨B1, (t.ZImages.flatMap eN0)⟩ :: ((([((B, c), t.XImages), ((B1, c1), t.ZImages)] : List (Hd × (List TPauli))).flatMap rowD_SPauli) ++ [])) := ST.subR hS5 (sk 0 (sk 1 (suba hm (fun _ h => by cases h))))
  obtain ⟨r_2, hc1, hF2⟩ := bI hF2
  refine sc 31 rfl rfl (yC [.slice (aD b2) 2 2] k_call_47 (c_slices_Concat_impl_Pauli_impl_Pauli ([t.XImages, t.ZImages] : List (List TPauli)) (aD b2) 2 2 ([((B, c), t.XImages), ((B1, c1), t.ZImages)] : List (Hd × (List TPauli))) _ (dl_fl (show List.map Prod.snd ([((B, c), t.XImages), ((B1, c1), t.ZImages)] : List (Hd × (List TPauli))) = ([t.XImages, t.ZImages] : List (List TPauli)) from rfl) rfl) (show List.map Prod.snd ([((B, c), t.XImages), ((B1, c1), t.ZImages)] : List (Hd × (List TPauli))) = ([t.XImages, t.ZImages] : List (List TPauli)) from rfl) (hS6.innR0 (srcO (i := 2) rfl (srcG (fun r_ (h : r_ ∈ ((([((B, c), t.XImages), ((B1, c1), t.ZImages)] : List (Hd × (List TPauli))).flatMap rowD_SPauli) : List Ro)) => mOd (i := 2) (show r_ ∈ ((((([((B, c), t.XImages), ((B1, c1), t.ZImages)] : List (Hd × (List TPauli))).flatMap rowD_SPauli) ++ [])) : List Ro) from mAl _ h)) (fun _ h => by cases h)))) hc1)) ?_
  rintro _ w_5 ⟨B2, c2, rfl, hd1⟩
  have hS7 := hS6.out0 hd1
  refine sQ 4 (yg (.slice B2 r_2.length c2)) (rn (cq (cq (cr ?_))))
  refine sQ 32 (ym (.slice B2 r_2.length c2)) <| sQ 33 (Y_makeFunc (cs := [pt (aD b1) 0]) rfl rfl (mc rfl mn)) ?_
  obtain ⟨r_3, hc2, hF2⟩ := bI hF2
  refine sc 34 rfl rfl (yC [.slice B2 r_2.length c2, .func (.func 49) #[] #[pt (aD b1) 0]] k_call_48 (c_slices_ContainsFunc_impl_Pauli_impl_Pauli r_2 (fun x_0 => F_impl_IsValidTableau_1 x_0 t.Qubits) B2 c2 r_2.length 49 (#[pt (aD b1) 0]) [⟨aD b1, [vi t.Qubits]⟩] _ rfl k_call_49 (fun w hw x_0 y_0 h_ => c_impl_IsValidTableau_1 x_0 t.Qubits (aD b1) w  hw h_) (hS7.inn0 [(false, 3), (false, 1)] rfl) hc2)) ?_
  rintro _ w_6 ⟨rfl, hd2⟩
  have hS8 := hS7.out00 hd2
  refine rn ?_
  refine cw_cond (b := r_3) rfl (fun hb1 => ?_) (fun hb1 => ?_)
  ·skip
   have hF3 := ct hF2 hb1
   refine cq (cr ?_)
   refine sQ 2 (yg (.bool false)) (rn (ct_ ?_))
   obtain rfl := sI hF3
   exact ret1 Try.results31 (v1 := .bool false) (resAt_tmp rfl) ⟨rfl, (hS8.sN [])⟩
  ·skip
   have hF4 := cf' hF2 hb1
   refine cw_skip (cq (cq (cr ?_)))
   refine sQ 35 (ym (.slice B2 r_2.length c2)) <| sQ 36 (Y_len (B := B2) (m := r_2.length) (c := c2) K2 rfl rfl) <| sQ 37 (ym (vi 0)) (rn ?_)
   obtain ⟨hN, hF4⟩ := chk_inv hF4
   obtain ⟨z, hz, hF5⟩ := bI hF4
   have hS10 : ST w0 [] _ [⟨aD b, 40, [vi t.Qubits, .slice B t.XImages.length c, .slice B1 t.ZImages.length c1], 3⟩, ⟨aD b1, 3, [vi t.Qubits], 1⟩, ⟨aD b2, 38, (([((B, c), t.XImages), ((B1, c1), t.ZImages)] : List (Hd × (List TPauli))).flatMap encD_SPauli), 2 * 1⟩, ⟨B2, 71, (r_2.flatMap eN0), c2 * 3⟩] [⟨B, (t.XImages.flatMap eN0)⟩, ⟨B1, (t.ZImages.flatMap eN0)⟩] := ST.subR hS8 (sk 0 (sk 1 (fun _ h => by cases h)))
   refine cw_block ?_
   refine cw_loop (fun k f w => ∃ (i : Nat), FF f [(3, pt (aD b1) 0), (4, .slice B2 r_2.length c2), (36, vi (r_2.length : Int)), (37, vi (i : Int))] ∧ ST w0 [] w [⟨aD b1, 3, [vi t.Qubits], 1⟩, ⟨B2, 71, (r_2.flatMap eN0), c2 * 3⟩] [⟨B, (t.XImages.flatMap eN0)⟩, ⟨B1, (t.ZImages.flatMap eN0)⟩] ∧ i + k = r_2.length ∧ forX (F_impl_IsValidTableau_l1 r_2 t) k i () = some z) r_2.length ⟨0, (fc rfl (fc rfl (fc rfl (fc rfl fn_)))), (hS10.sel [1, 3] rfl rfl), Nat.zero_add _, hz⟩ ?_
   rintro k_ f w ⟨i, hf, hS9, hik, hL⟩
   refine cq (cr ?_)
   refine sQ 38 (yL (i : Int) (r_2.length : Int) rfl (hf.g 37 3) (hf.g 36 2)) (rn (cq ?_))
   refine cw_cond (b := (decide ((i : Int) < (r_2.length : Int)))) rfl (fun hlt => ?_) (fun hlt => ?_)
   ·skip
    have hlt1 : i < r_2.length := by have h := of_decide_eq_true hlt; omega
    obtain ⟨K7, rfl⟩ : ∃ k2, k_ = k2 + 1 := ⟨k_ - 1, by omega⟩
    obtain ⟨y, hb2, hL1⟩ := forX_go hL
    unfold F_impl_IsValidTableau_l1 at hb2
    refine cw_skip (cq (cw_block (cq (cr ?_))))
    refine sQ 39 (ym (vi (i : Int)) rfl (hf.g 37 3)) <| sQ 5 (yg (vi (i : Int))) (rn (cq (cr ?_)))
    refine sQ 40 (ym (vi (i : Int))) <| sQ 41 (ym (vi 0)) (rn ?_)
    obtain ⟨hN1, hb2⟩ := chk_inv hb2
    obtain ⟨z1, hz1, hF6⟩ := bI hb2
    refine cw_block ?_
    refine cw_loop (fun k f w => ∃ (i1 : Nat), FF f [(3, pt (aD b1) 0), (4, .slice B2 r_2.length c2), (5, vi (i : Int)), (36, vi (r_2.length : Int)), (37, vi (i : Int)), (40, vi (i : Int)), (41, vi (i1 : Int))] ∧ ST w0 [] w [⟨aD b1, 3, [vi t.Qubits], 1⟩, ⟨B2, 71, (r_2.flatMap eN0), c2 * 3⟩] [⟨B, (t.XImages.flatMap eN0)⟩, ⟨B1, (t.ZImages.flatMap eN0)⟩] ∧ i1 + k = i ∧ forX (F_impl_IsValidTableau_l2 r_2 i t) k i1 () = some z1) i ⟨0, (fc (hf.g 3 0) (fc (hf.g 4 1) (fc rfl (fc (hf.g 36 2) (fc (hf.g 37 3) (fc rfl (fc rfl fn_))))))), (hS9.sel [0, 1] rfl rfl), Nat.zero_add _, hz1⟩ ?_
    rintro K41 f w ⟨i1, hf1, hS11, hik1, hL2⟩
    refine cq (cr ?_)
    refine sQ 42 (yL (i1 : Int) (i : Int) rfl (hf1.g 41 6) (hf1.g 40 5)) (rn (cq ?_))
    refine cw_cond (b := (decide ((i1 : Int) < (i : Int)))) rfl (fun hlt2 => ?_) (fun hlt2 => ?_)
    ·skip
     have hlt3 : i1 < i := by have h := of_decide_eq_true hlt2; omega
     obtain ⟨K51, rfl⟩ : ∃ k2, K41 = k2 + 1 := ⟨K41 - 1, by omega⟩
     obtain ⟨y1, hb3, hL3⟩ := forX_go hL2
     unfold F_impl_IsValidTableau_l2 at hb3
     refine cw_skip (cq (cw_block (cq (cr ?_))))
     refine sQ 43 (ym (vi (i1 : Int)) rfl (hf1.g 41 6)) <| sQ 6 (yg (vi (i1 : Int))) (rn (cq ?_))
     obtain ⟨x, hx, hb3⟩ := bI hb3
     obtain ⟨x1, hx1, hb3⟩ := bI hb3
     obtain ⟨r_4, hc3, hb3⟩ := bI hb3
     refine ra_start (hS11.se [0, 1]).fn (by kernel_rfl) ?_
     have hS13 := hS11.drew
     refine rq 0 44 (v := .slice B2 r_2.length c2) rfl (hS13.se [0, 1]) (fun w' hw' => (ym (.slice B2 r_2.length c2) rfl (hf1.g 4 1))) ?_
     refine rq 1 45 (v := vi (i : Int)) rfl (hS13.se [0, 1]) (fun w' hw' => (ym (vi (i : Int)) rfl (hf1.g 5 2))) ?_
     refine rq 2 46 (v := pt B2 ((i : Int).toNat * 3)) rfl (hS13.se [0, 1]) (fun w' hw' => (Y_index (B := B2) (m := r_2.length) (c := c2) (k := .i64) (i := (i : Int)) K2 K0 rfl rfl rfl (gi_isSome eN1 rfl (ST.cf hw' (i := 1) rfl) hx) (getI_nn hx) (getI_ltI hx rfl))) ?_
     refine rq 3 47 (v := .agg #[vi x.Phase, vi x.X, vi x.Z]) rfl (hS13.se [0, 1]) (fun w' hw' => (ya B2 ((i : Int).toNat * 3) (r_2.flatMap eN0) [vi x.Phase, vi x.X, vi x.Z] K14 K0 (ST.cf hw' (i := 1) rfl) rfl rfl (eN1 x) (gi_seg eN1 hx))) ?_
     refine rq 4 48 (v := .slice B2 r_2.length c2) rfl (hS13.se [0, 1]) (fun w' hw' => (ym (.slice B2 r_2.length c2) rfl (hf1.g 4 1))) ?_
     refine rq 5 49 (v := vi (i1 : Int)) rfl (hS13.se [0, 1]) (fun w' hw' => (ym (vi (i1 : Int)))) ?_
     refine rq 6 50 (v := pt B2 ((i1 : Int).toNat * 3)) rfl (hS13.se [0, 1]) (fun w' hw' => (Y_index (B := B2) (m := r_2.length) (c := c2) (k := .i64) (i := (i1 : Int)) K2 K0 rfl rfl rfl (gi_isSome eN1 rfl (ST.cf hw' (i := 1) rfl) hx1) (getI_nn hx1) (getI_ltI hx1 rfl))) ?_
     refine rq 7 51 (v := .agg #[vi x1.Phase, vi x1.X, vi x1.Z]) rfl (hS13.se [0, 1]) (fun w' hw' => (ya B2 ((i1 : Int).toNat * 3) (r_2.flatMap eN0) [vi x1.Phase, vi x1.X, vi x1.Z] K14 K0 (ST.cf hw' (i := 1) rfl) rfl rfl (eN1 x1) (gi_seg eN1 hx1))) ?_
     refine rq 9 53 (v := vi (i : Int)) rfl (hS13.se [0, 1]) (fun w' hw' => (ym (vi (i : Int)) rfl (hf1.g 5 2))) ?_
     refine rq 10 54 (v := vi (i1 : Int)) rfl (hS13.se [0, 1]) (fun w' hw' => (ym (vi (i1 : Int)))) ?_
     refine rq 11 55 (v := vi (i64.wrap ((i : Int) - (i1 : Int)))) rfl (hS13.se [0, 1]) (fun w' hw' => (yM (i : Int) (i1 : Int))) ?_
     refine rq 12 56 (v := vi t.Qubits) rfl (hS13.se [0, 1]) (fun w' hw' => (yl (aD b1) 0 [vi t.Qubits] (vi t.Qubits) K4 (ST.cf hw' (i := 0) rfl) rfl (hf1.g 3 0))) ?_
     refine rq 13 57 (v := .bool ((i64.wrap ((i : Int) - (i1 : Int))) == t.Qubits)) rfl (hS13.se [0, 1]) (fun w' hw' => (yE (i64.wrap ((i : Int) - (i1 : Int))) t.Qubits)) ?_
     refine rA [8] ?_
     refine rC 52 8 rfl (yC [.agg #[vi x.Phase, vi x.X, vi x.Z], .agg #[vi x1.Phase, vi x1.X, vi x1.Z]] k_call_51 (c_impl_commute x x1 _  (hS13.inn0 [] rfl) hc3)) ?_ ?_
     ·rintro _ w_7 ⟨rfl, hd3⟩
      have hS14 := hS13.out00 hd3
      refine ⟨(hS14.se [0, 1]), ?_⟩
      refine rq 14 58 (v := .bool (r_4 == ((i64.wrap ((i : Int) - (i1 : Int))) == t.Qubits))) rfl (hS14.se [0, 1]) (fun w' hw' => (Y_beq (p := r_4) (q := ((i64.wrap ((i : Int) - (i1 : Int))) == t.Qubits)) K75 rfl rfl rfl)) ?_
      refine ra_done (by kernel_rfl) ?_
      refine cw_cond (b := (r_4 == ((i64.wrap ((i : Int) - (i1 : Int))) == t.Qubits))) rfl (fun hb4 => ?_) (fun hb4 => ?_)
      ·skip
       have hF7 := ct hb3 hb4
       refine cq (cr ?_)
       refine sQ 2 (yg (.bool false)) (rn (ct_ ?_))
       obtain rfl := sI hF7
       obtain rfl := sI hL3
       obtain rfl := sI hF6
       obtain rfl := sI hL1
       obtain rfl := sI hF5
       exact ret1 Try.results31 (v1 := .bool false) (resAt_tmp rfl) ⟨rfl, (hS14.sN [])⟩
      ·skip
       have hF8 := cf' hb3 hb4
       refine cw_skip (cr ?_)
       refine sQ 59 (yP (i1 : Int) 1 rfl (hf1.g 41 6)) <| sQ 41 (ym (vi (i64.wrap ((i1 : Int) + 1)))) (rn ?_)
       obtain rfl := sI hF8
       exact ⟨K51, Nat.lt_succ_self _, i1 + 1, (fc (hf1.g 3 0) (fc (hf1.g 4 1) (fc (hf1.g 5 2) (fc (hf1.g 36 3) (fc (hf1.g 37 4) (fc (hf1.g 40 5) (fc (congrArg (Value.int .i64) (wr_succ hlt3 hN1)) fn_))))))), (hS14.sel [0, 1] rfl rfl), (by omega), hL3⟩
     exact aN
    ·skip
     obtain rfl : K41 = 0 := by have h := of_decide_eq_false hlt2; omega
     refine cw_exit rfl ?_
     obtain rfl := sI hL2
     refine cr ?_
     refine sQ 60 (yP (i : Int) 1 rfl (hf1.g 37 4)) <| sQ 37 (ym (vi (i64.wrap ((i : Int) + 1)))) (rn ?_)
     obtain rfl := sI hF6
     exact ⟨K7, Nat.lt_succ_self _, i + 1, (fc (hf1.g 3 0) (fc (hf1.g 4 1) (fc (hf1.g 36 3) (fc (congrArg (Value.int .i64) (wr_succ hlt1 hN)) fn_)))), (hS11.sel [0, 1] rfl rfl), (by omega), hL1⟩
   ·skip
    obtain rfl : k_ = 0 := by have h := of_decide_eq_false hlt; omega
    refine cw_exit rfl ?_
    obtain rfl := sI hL
    refine cq (cr ?_)
    refine sQ 2 (yg (.bool true)) (rn (ct_ ?_))
    obtain rfl := sI hF5
    exact ret1 Try.results31 (v1 := .bool true) (resAt_tmp rfl) ⟨rfl, (hS9.sN [])⟩

theorem c_impl_circuitIf (n : Int) (gates : List TGate) (B : Option Addr) (c n1 : Nat) (w0 : World) (hn : gates.length = n1) (hS : ST w0 [] w0 [] [⟨B, (gates.flatMap eN2)⟩]) {r_ : TCircuit} {r_1 : Bool} (hF : F_impl_circuitIf n gates = some (r_, r_1)) :
  CV Try.prog 33 #[vi n, .slice B n1 c] w0 (fun v w' => ∃ (B1 : Option Addr) (c1 : Nat), v = .tuple #[.agg #[vi r_.Qubits, .slice B1 r_.Gates.length c1], .bool r_1] ∧ ST w0 [] w' [⟨B1, 55, (r_.Gates.flatMap eN2), c1 * 3⟩] []) := by
 subst hn
 unfold F_impl_circuitIf at hF
 refine cv_of_cw 17 Try.func33 rfl Try.ntmps33 rfl ?_
 refine cq (cr ?_)
 refine sS 4 (yN [vi 0, .slice none 0 0] 2 hS K34) ?_
 rintro _ w_ ⟨b, rfl, hS1⟩
 refine sQ 5 (yg (.bool false)) (rn (cq (cr ?_)))
 refine sQ 7 (ym (vi n)) ?_
 refine sS 8 (Ys_bslice0 (s := 3) (e := 55) hS1 K15 K13 rfl) ?_
 rintro _ w_1 ⟨b1, rfl, hS2⟩
 refine sQ 9 (ym (.slice B gates.length c)) ?_
 obtain ⟨hap, hF⟩ := chk_inv hF
 refine sS 10 (Ys_append (s := 3) (by' := 24) (i := 1) (nn := 0) (c := 0) (k := gates.length) (len := gates.length) (B := aD b1) (xs := (gates.flatMap eN2)) (cs' := (gates.flatMap eN2)) hS2 K15 K13 K45 K28 rfl (by decide) rfl rfl rfl rfl (fm_lenn (l := []) eN4 rfl) rfl (hS2.rf (i := 0) rfl) (fm_lenn (l := gates) eN4 rfl) (fm_one' (enc := eN2) enc_Gate_one gates) (by have := hap; omega) (by have := hap; simp only [maxLen]; omega) rfl (app_len0 (l := gates) rfl)) ?_
 rintro _ w_2 ⟨B2, c2, rfl, hS3⟩
 refine sQ 11 (Y_buildS (zs := [vi 0, .slice none 0 0]) (vs := [(0, vi n), (1, .slice B2 gates.length c2)]) (cs := [vi n, .slice B2 gates.length c2]) K56 K34 rfl (mpc rfl (mpc rfl mpn)) rfl) ?_
 refine sS 6 (yN [vi 0, .slice none 0 0] 2 hS3 K34) ?_
 rintro _ w_3 ⟨b2, rfl, hS4⟩
 refine s0 (yT 2 2 (aD b2) 28 (.agg #[vi n, .slice B2 gates.length c2]) [vi n, .slice B2 gates.length c2] 0 hS4 K16) ?_
 rintro _ w_4 ⟨rfl, hS5⟩
 refine rn (cq (cq (cr ?_)))
 refine sQ 12 (yb (aD b2) 0 [vi n, .slice B2 gates.length c2] K19 K16 (hS5.c 2)) ?_
 obtain ⟨r_2, hc, hF⟩ := bI hF
 refine sc 13 rfl rfl (yC [.agg #[vi n, .slice B2 gates.length c2]] k_call_58 (c_impl_IsValidCircuit (TCircuit.mk n gates) B2 c2 gates.length _ rfl (hS5.inn0 [(false, 1)] rfl) hc)) ?_
 rintro _ w_5 ⟨rfl, hd⟩
 have hS6 := hS5.out00 hd
 refine sQ 14 (Y_not (p := r_2) rfl rfl) (rn ?_)
 refine cw_cond (b := (!r_2)) rfl (fun hb => ?_) (fun hb => ?_)
 ·skip
  have hF1 := ct hF hb
  refine cq (cr ?_)
  refine sQ 15 (Y_buildS (zs := [vi 0, .slice none 0 0]) (vs := []) (cs := [vi 0, .slice none 0 0]) K56 K34 rfl mpn rfl) ?_
  refine s0 (yT 0 2 (aD b) 28 (.agg #[vi 0, .slice none 0 0]) [vi 0, .slice none 0 0] 0 hS6 K16) ?_
  rintro _ w_6 ⟨rfl, hS7⟩
  refine sQ 5 (yg (.bool false)) (rn (ct_ ?_))
  have hS8 := hS7.addNil 55
  obtain ⟨rfl, rfl⟩ := pr2 (sI hF1)
  exact ret2 Try.results33 (v1 := .agg #[vi 0, .slice none 0 0]) (resAt_cellA (B := aD b) (i := 0) (cs := [vi 0, .slice none 0 0]) (vs := [vi 0, .slice none 0 0]) rfl K19 K16 (hS8.c 0) rfl rfl) (v2 := .bool false) (resAt_tmp rfl) ⟨none, 0, rfl, (hS8.sN [3])⟩
 ·skip
  have hF2 := cf' hF hb
  refine cw_skip (cq (cr ?_))
  refine sQ 16 (yb (aD b2) 0 [vi n, .slice B2 gates.length c2] K19 K16 (hS6.c 2)) ?_
  refine s0 (yT 0 2 (aD b) 28 (.agg #[vi n, .slice B2 gates.length c2]) [vi n, .slice B2 gates.length c2] 0 hS6 K16) ?_
  rintro _ w_7 ⟨rfl, hS9⟩
  refine sQ 5 (yg (.bool true)) (rn (ct_ ?_))
  obtain ⟨rfl, rfl⟩ := pr2 (sI hF2)
  exact ret2 Try.results33 (v1 := .agg #[vi n, .slice B2 gates.length c2]) (resAt_cellA (B := aD b) (i := 0) (cs := [vi n, .slice B2 gates.length c2]) (vs := [vi n, .slice B2 gates.length c2]) rfl K19 K16 (hS9.c 0) rfl rfl) (v2 := .bool true) (resAt_tmp rfl) ⟨B2, c2, rfl, (hS9.sN [1])⟩

theorem c_impl_letterOf (p : TPauli) (q : Int)  (w0 : World)  (hS : ST w0 [] w0 [] []) {r_ : Int} (hF : F_impl_letterOf p q = some r_) :
  CV Try.prog 55 #[.agg #[vi p.Phase, vi p.X, vi p.Z], vi q] w0 (fun v w' => v = .int .u8 r_ ∧ ST w0 [] w' [] []) := by
 unfold F_impl_letterOf at hF
 refine cv_of_cw 18 Try.func55 rfl Try.ntmps55 rfl ?_
 refine cq (cr ?_)
 refine sS 2 (yB 71 (.agg #[vi p.Phase, vi p.X, vi p.Z]) [vi p.Phase, vi p.X, vi p.Z] 3 hS) ?_
 rintro _ w_ ⟨b, rfl, hS1⟩
 refine sQ 4 (yg (.int .u8 0)) (rn (cq ?_))
 obtain ⟨hsh, hF⟩ := chk_inv hF
 obtain ⟨hsh1, hF⟩ := chk_inv hF
 obtain ⟨x, hx, hF⟩ := bI hF
 refine ra_start (hS1.se [0]).fn (by kernel_rfl) ?_
 have hS2 := hS1.drew
 refine rq 0 5 (v := pt (aD b) 1) rfl (hS2.se [0]) (fun w' hw' => (yd (aD b) 0 0 K37 K3)) ?_
 refine rq 1 6 (v := vi p.X) rfl (hS2.se [0]) (fun w' hw' => (yl (aD b) 1 [vi p.Phase, vi p.X, vi p.Z] (vi p.X) K4 (ST.cf hw' (i := 0) rfl))) ?_
 refine rq 2 7 (v := vi q) rfl (hS2.se [0]) (fun w' hw' => (ym (vi q))) ?_
 refine rq 3 8 (v := vi (shrK .i64 p.X q)) rfl (hS2.se [0]) (fun w' hw' => (Y_shr (k := .i64) (a := p.X) (k' := .i64) (b := q) rfl rfl rfl hsh)) ?_
 refine rq 4 9 (v := vi (bits .and .i64 (shrK .i64 p.X q) 1)) rfl (hS2.se [0]) (fun w' hw' => (Y_band (k := .i64) (a := (shrK .i64 p.X q)) (b := 1) rfl rfl rfl)) ?_
 refine rq 5 10 (v := pt (aD b) 2) rfl (hS2.se [0]) (fun w' hw' => (yd (aD b) 0 0 K38 K3)) ?_
 refine rq 6 11 (v := vi p.Z) rfl (hS2.se [0]) (fun w' hw' => (yl (aD b) 2 [vi p.Phase, vi p.X, vi p.Z] (vi p.Z) K4 (ST.cf hw' (i := 0) rfl))) ?_
 refine rq 7 12 (v := vi q) rfl (hS2.se [0]) (fun w' hw' => (ym (vi q))) ?_
 refine rq 8 13 (v := vi (shrK .i64 p.Z q)) rfl (hS2.se [0]) (fun w' hw' => (Y_shr (k := .i64) (a := p.Z) (k' := .i64) (b := q) rfl rfl rfl hsh1)) ?_
 refine rq 9 14 (v := vi (bits .and .i64 (shrK .i64 p.Z q) 1)) rfl (hS2.se [0]) (fun w' hw' => (Y_band (k := .i64) (a := (shrK .i64 p.Z q)) (b := 1) rfl rfl rfl)) ?_
 refine rq 10 15 (v := vi (i64.wrap (2 * (bits .and .i64 (shrK .i64 p.Z q) 1)))) rfl (hS2.se [0]) (fun w' hw' => (yX 2 (bits .and .i64 (shrK .i64 p.Z q) 1))) ?_
 refine rq 11 16 (v := vi (i64.wrap ((bits .and .i64 (shrK .i64 p.X q) 1) + (i64.wrap (2 * (bits .and .i64 (shrK .i64 p.Z q) 1)))))) rfl (hS2.se [0]) (fun w' hw' => (yP (bits .and .i64 (shrK .i64 p.X q) 1) (i64.wrap (2 * (bits .and .i64 (shrK .i64 p.Z q) 1))))) ?_
 refine rq 12 17 (v := .int .u8 (x.toNat : Int)) rfl (hS2.se [0]) (fun w' hw' => (Y_sidx (a := ([73, 88, 90, 89] : List UInt8)) (k := .i64) (i := (i64.wrap ((bits .and .i64 (shrK .i64 p.X q) 1) + (i64.wrap (2 * (bits .and .i64 (shrK .i64 p.Z q) 1)))))) (b := x) k_str_9 rfl rfl rfl hx)) ?_
 refine rq 13 4 (v := .int .u8 (x.toNat : Int)) rfl (hS2.se [0]) (fun w' hw' => (yg (.int .u8 (x.toNat : Int)))) ?_
 refine ra_done (by kernel_rfl) ?_
 refine ct_ ?_
 obtain rfl := sI hF
 exact ret1 Try.results55 (v1 := .int .u8 (x.toNat : Int)) (resAt_tmp rfl) ⟨rfl, (hS2.sN [])⟩

theorem c_impl_reducer_add (r_ : Treducer) (kind : Int) (a : Int) (b : Int) (B : Option Addr) (B1 : Option Addr) (c n : Nat) (B2 : Option Addr) (c1 n1 : Nat) (B3 : Option Addr) (c2 n2 : Nat) (w0 : World) (hn : r_.t.XImages.length = n) (hn1 : r_.t.ZImages.length = n1) (hn2 : r_.gates.length = n2) (hS : ST w0 (bl [⟨B, 64, [vi r_.t.Qubits, .slice B1 n c, .slice B2 n1 c1, .slice B3 n2 c2], 4⟩, ⟨B3, 55, (r_.gates.flatMap eN2), c2 * 3⟩]) w0 [⟨B, 64, [vi r_.t.Qubits, .slice B1 n c, .slice B2 n1 c1, .slice B3 n2 c2], 4⟩, ⟨B3, 55, (r_.gates.flatMap eN2), c2 * 3⟩] [⟨B1, (r_.t.XImages.flatMap eN0)⟩, ⟨B2, (r_.t.ZImages.flatMap eN0)⟩]) {m : Treducer} (hF : F_impl_reducer_add r_ kind a b = some m) :
  CV Try.prog 56 #[pt B 0, vi kind, vi a, vi b] w0 (fun v w' => ∃ (B4 : Option Addr) (c3 : Nat) (B5 : Option Addr) (c4 : Nat) (B6 : Option Addr) (c5 : Nat), v = .tuple #[] ∧ ST w0 (bl [⟨B, 64, [vi r_.t.Qubits, .slice B1 n c, .slice B2 n1 c1, .slice B3 n2 c2], 4⟩, ⟨B3, 55, (r_.gates.flatMap eN2), c2 * 3⟩]) w' [⟨B, 64, [vi m.t.Qubits, .slice B4 m.t.XImages.length c3, .slice B5 m.t.ZImages.length c4, .slice B6 m.gates.length c5], 4⟩, ⟨B4, 71, (m.t.XImages.flatMap eN0), c3 * 3⟩, ⟨B5, 71, (m.t.ZImages.flatMap eN0), c4 * 3⟩, ⟨B6, 55, (m.gates.flatMap eN2), c5 * 3⟩] []) := by
 subst hn
 subst hn1
 subst hn2
 unfold F_impl_reducer_add at hF
 refine cv_of_cw 38 Try.func56 rfl Try.ntmps56 rfl ?_
 refine cq (cr ?_)
 refine sQ 9 (ym (vi kind)) <| sQ 10 (ym (vi a)) <| sQ 11 (ym (vi b)) <| sQ 12 (Y_buildS (zs := [vi 0, vi 0, vi 0]) (vs := [(0, vi kind), (1, vi a), (2, vi b)]) (cs := [vi kind, vi a, vi b]) k_pl_55 K28 rfl (mpc rfl (mpc rfl (mpc rfl mpn))) rfl) ?_
 refine sS 8 (yN [vi 0, vi 0, vi 0] 3 hS K28) ?_
 rintro _ w_ ⟨b1, rfl, hS1⟩
 refine s0 (yT 2 3 (aD b1) 55 (.agg #[vi kind, vi a, vi b]) [vi kind, vi a, vi b] 0 hS1 K13) ?_
 rintro _ w_1 ⟨rfl, hS2⟩
 refine rn (cq ?_)
 obtain ⟨r_1, hc, hF⟩ := bI hF
 obtain ⟨r_2, hc1, hF⟩ := bI hF
 refine cw_mid (fun f w => ∃ (B11 : Option Addr) (c10 : Nat) (B12 : Option Addr) (c11 : Nat), FF f [(0, pt B 0), (8, pt (aD b1) 0)] ∧ ST w0 (bl [⟨B, 64, [vi r_.t.Qubits, .slice B1 r_.t.XImages.length c, .slice B2 r_.t.ZImages.length c1, .slice B3 r_.gates.length c2], 4⟩, ⟨B3, 55, (r_.gates.flatMap eN2), c2 * 3⟩]) w [⟨B, 64, [vi r_2.Qubits, .slice B11 r_2.XImages.length c10, .slice B12 r_2.ZImages.length c11, .slice B3 r_.gates.length c2], 4⟩, ⟨B11, 71, (r_2.XImages.flatMap eN0), c10 * 3⟩, ⟨B12, 71, (r_2.ZImages.flatMap eN0), c11 * 3⟩, ⟨B3, 55, (r_.gates.flatMap eN2), c2 * 3⟩, ⟨aD b1, 55, [vi kind, vi a, vi b], 3⟩] [⟨B1, (r_.t.XImages.flatMap eN0)⟩, ⟨B2, (r_.t.ZImages.flatMap eN0)⟩]) ?_ ?_
 ·skip
  refine ra_start (hS2.se [1, 2]).fn (by kernel_rfl) ?_
  have hS6 := hS2.drew
  refine rq 0 13 (v := pt B 0) rfl (hS6.se [1, 2]) (fun w' hw' => (ym (pt B 0))) ?_
  refine rq 1 14 (v := pt B 0) rfl (hS6.se [1, 2]) (fun w' hw' => (ym (pt B 0))) ?_
  refine rq 2 15 (v := pt B 0) rfl (hS6.se [1, 2]) (fun w' hw' => (Y_nilCheck (B := B) (i := 0) rfl rfl)) ?_
  refine rq 3 16 (v := pt B 0) rfl (hS6.se [1, 2]) (fun w' hw' => (yd B 0 2 K35 K10)) ?_
  refine rq 5 18 (v := pt B 0) rfl (hS6.se [1, 2]) (fun w' hw' => (ym (pt B 0))) ?_
  refine rq 6 19 (v := pt B 0) rfl (hS6.se [1, 2]) (fun w' hw' => (Y_nilCheck (B := B) (i := 0) rfl rfl)) ?_
  refine rq 7 20 (v := pt B 0) rfl (hS6.se [1, 2]) (fun w' hw' => (yd B 0 2 K35 K10)) ?_
  refine rq 8 21 (v := pt B 0) rfl (hS6.se [1, 2]) (fun w' hw' => (yd B 0 0 K30 K3)) ?_
  refine rq 10 23 (v := .agg #[vi kind, vi a, vi b]) rfl (hS6.se [1, 2]) (fun w' hw' => (yb (aD b1) 0 [vi kind, vi a, vi b] K26 K13 (ST.cf hw' (i := 1) rfl))) ?_
  refine rA [4, 9] ?_
  refine ra_y 17 (i := 4) (v := .agg #[vi r_.t.Qubits, .slice B1 r_.t.XImages.length c, .slice B2 r_.t.ZImages.length c1]) rfl rfl rfl (ya B 0 [vi r_.t.Qubits, .slice B1 r_.t.XImages.length c, .slice B2 r_.t.ZImages.length c1, .slice B3 r_.gates.length c2] [vi r_.t.Qubits, .slice B1 r_.t.XImages.length c, .slice B2 r_.t.ZImages.length c1] K20 K10 (hS6.c 0)) (hS6.se [1, 2]) ?_ ?_
  ·skip
   refine rA [9] ?_
   refine ra_y 22 (i := 9) (v := vi r_.t.Qubits) rfl rfl rfl (yl B 0 [vi r_.t.Qubits, .slice B1 r_.t.XImages.length c, .slice B2 r_.t.ZImages.length c1, .slice B3 r_.gates.length c2] (vi r_.t.Qubits) K4 (hS6.c 0)) (hS6.se [1, 2]) ?_ ?_
   ·skip
    refine rA [11] ?_
    refine rC 24 11 rfl (yC [vi r_.t.Qubits, .agg #[vi kind, vi a, vi b]] K62 (c_impl_gateTableau r_.t.Qubits (TGate.mk kind a b) _  (hS6.inn0 [] rfl) hc)) ?_ ?_
    ·rintro _ w_2 ⟨B7, c6, B8, c7, rfl, hd⟩
     have hS7 := hS6.out0 hd
     refine ⟨(hS7.se [1, 2]), ?_⟩
     refine rA [12] ?_
     refine rC 25 12 rfl (yC [.agg #[vi r_.t.Qubits, .slice B1 r_.t.XImages.length c, .slice B2 r_.t.ZImages.length c1], .agg #[vi r_1.Qubits, .slice B7 r_1.XImages.length c6, .slice B8 r_1.ZImages.length c7]] K63 (c_impl_compose r_.t r_1 B1 c r_.t.XImages.length B2 c1 r_.t.ZImages.length B7 c6 r_1.XImages.length B8 c7 r_1.ZImages.length _ rfl rfl rfl rfl (hS7.inn0 [(true, 0), (true, 1), (false, 3), (false, 4)] rfl) hc1)) ?_ ?_
     ·rintro _ w_3 ⟨B9, c8, B10, c9, rfl, hd1⟩
      have hS8 := hS7.out0 hd1
      refine ⟨(hS8.se [1, 2]), ?_⟩
      refine rq 13 26 (v := pt B 0) rfl (hS8.se [1, 2]) (fun w' hw' => (Y_nilCheck (B := B) (i := 0) rfl rfl)) ?_
      refine rq 14 27 (v := pt B 0) rfl (hS8.se [1, 2]) (fun w' hw' => (yd B 0 2 K35 K10)) ?_
      refine rA [15] ?_
      refine rZ 15 rfl (yS 0 3 B 64 (.agg #[vi r_2.Qubits, .slice B9 r_2.XImages.length c8, .slice B10 r_2.ZImages.length c9]) [vi r_2.Qubits, .slice B9 r_2.XImages.length c8, .slice B10 r_2.ZImages.length c9] 0 [vi r_2.Qubits, .slice B9 r_2.XImages.length c8, .slice B10 r_2.ZImages.length c9, .slice B3 r_.gates.length c2] hS8 K10) ?_ ?_
      ·rintro _ w_4 ⟨rfl, hS9⟩
       refine ⟨(hS9.se [1, 2]), ?_⟩
       refine ra_done (by kernel_rfl) ?_
       exact ⟨B9, c8, B10, c9, (fc rfl (fc rfl fn_)), (hS9.sel [0, 5, 6, 1, 2] rfl rfl)⟩
      exact aN
     exact aN
    exact aN
   exact aN
  refine ra_y 22 (i := 9) (v := vi r_.t.Qubits) rfl rfl rfl (yl B 0 [vi r_.t.Qubits, .slice B1 r_.t.XImages.length c, .slice B2 r_.t.ZImages.length c1, .slice B3 r_.gates.length c2] (vi r_.t.Qubits) K4 (hS6.c 0)) (hS6.se [1, 2]) ?_ ?_
  ·skip
   refine rA [4, 11] ?_
   refine ra_y 17 (i := 4) (v := .agg #[vi r_.t.Qubits, .slice B1 r_.t.XImages.length c, .slice B2 r_.t.ZImages.length c1]) rfl rfl rfl (ya B 0 [vi r_.t.Qubits, .slice B1 r_.t.XImages.length c, .slice B2 r_.t.ZImages.length c1, .slice B3 r_.gates.length c2] [vi r_.t.Qubits, .slice B1 r_.t.XImages.length c, .slice B2 r_.t.ZImages.length c1] K20 K10 (hS6.c 0)) (hS6.se [1, 2]) ?_ ?_
   ·skip
    refine rA [11] ?_
    refine rC 24 11 rfl (yC [vi r_.t.Qubits, .agg #[vi kind, vi a, vi b]] K62 (c_impl_gateTableau r_.t.Qubits (TGate.mk kind a b) _  (hS6.inn0 [] rfl) hc)) ?_ ?_
    ·rintro _ w_5 ⟨B7, c6, B8, c7, rfl, hd2⟩
     have hS10 := hS6.out0 hd2
     refine ⟨(hS10.se [1, 2]), ?_⟩
     refine rA [12] ?_
     refine rC 25 12 rfl (yC [.agg #[vi r_.t.Qubits, .slice B1 r_.t.XImages.length c, .slice B2 r_.t.ZImages.length c1], .agg #[vi r_1.Qubits, .slice B7 r_1.XImages.length c6, .slice B8 r_1.ZImages.length c7]] K63 (c_impl_compose r_.t r_1 B1 c r_.t.XImages.length B2 c1 r_.t.ZImages.length B7 c6 r_1.XImages.length B8 c7 r_1.ZImages.length _ rfl rfl rfl rfl (hS10.inn0 [(true, 0), (true, 1), (false, 3), (false, 4)] rfl) hc1)) ?_ ?_
     ·rintro _ w_6 ⟨B9, c8, B10, c9, rfl, hd3⟩
      have hS11 := hS10.out0 hd3
      refine ⟨(hS11.se [1, 2]), ?_⟩
      refine rq 13 26 (v := pt B 0) rfl (hS11.se [1, 2]) (fun w' hw' => (Y_nilCheck (B := B) (i := 0) rfl rfl)) ?_
      refine rq 14 27 (v := pt B 0) rfl (hS11.se [1, 2]) (fun w' hw' => (yd B 0 2 K35 K10)) ?_
      refine rA [15] ?_
      refine rZ 15 rfl (yS 0 3 B 64 (.agg #[vi r_2.Qubits, .slice B9 r_2.XImages.length c8, .slice B10 r_2.ZImages.length c9]) [vi r_2.Qubits, .slice B9 r_2.XImages.length c8, .slice B10 r_2.ZImages.length c9] 0 [vi r_2.Qubits, .slice B9 r_2.XImages.length c8, .slice B10 r_2.ZImages.length c9, .slice B3 r_.gates.length c2] hS11 K10) ?_ ?_
      ·rintro _ w_7 ⟨rfl, hS12⟩
       refine ⟨(hS12.se [1, 2]), ?_⟩
       refine ra_done (by kernel_rfl) ?_
       exact ⟨B9, c8, B10, c9, (fc rfl (fc rfl fn_)), (hS12.sel [0, 5, 6, 1, 2] rfl rfl)⟩
      exact aN
     exact aN
    exact aN
   refine rC 24 11 rfl (yC [vi r_.t.Qubits, .agg #[vi kind, vi a, vi b]] K62 (c_impl_gateTableau r_.t.Qubits (TGate.mk kind a b) _  (hS6.inn0 [] rfl) hc)) ?_ ?_
   ·rintro _ w_8 ⟨B7, c6, B8, c7, rfl, hd4⟩
    have hS13 := hS6.out0 hd4
    refine ⟨(hS13.se [1, 2]), ?_⟩
    refine rA [4] ?_
    refine ra_y 17 (i := 4) (v := .agg #[vi r_.t.Qubits, .slice B1 r_.t.XImages.length c, .slice B2 r_.t.ZImages.length c1]) rfl rfl rfl (ya B 0 [vi r_.t.Qubits, .slice B1 r_.t.XImages.length c, .slice B2 r_.t.ZImages.length c1, .slice B3 r_.gates.length c2] [vi r_.t.Qubits, .slice B1 r_.t.XImages.length c, .slice B2 r_.t.ZImages.length c1] K20 K10 (hS13.c 0)) (hS13.se [1, 2]) ?_ ?_
    ·skip
     refine rA [12] ?_
     refine rC 25 12 rfl (yC [.agg #[vi r_.t.Qubits, .slice B1 r_.t.XImages.length c, .slice B2 r_.t.ZImages.length c1], .agg #[vi r_1.Qubits, .slice B7 r_1.XImages.length c6, .slice B8 r_1.ZImages.length c7]] K63 (c_impl_compose r_.t r_1 B1 c r_.t.XImages.length B2 c1 r_.t.ZImages.length B7 c6 r_1.XImages.length B8 c7 r_1.ZImages.length _ rfl rfl rfl rfl (hS13.inn0 [(true, 0), (true, 1), (false, 3), (false, 4)] rfl) hc1)) ?_ ?_
     ·rintro _ w_9 ⟨B9, c8, B10, c9, rfl, hd5⟩
      have hS14 := hS13.out0 hd5
      refine ⟨(hS14.se [1, 2]), ?_⟩
      refine rq 13 26 (v := pt B 0) rfl (hS14.se [1, 2]) (fun w' hw' => (Y_nilCheck (B := B) (i := 0) rfl rfl)) ?_
      refine rq 14 27 (v := pt B 0) rfl (hS14.se [1, 2]) (fun w' hw' => (yd B 0 2 K35 K10)) ?_
      refine rA [15] ?_
      refine rZ 15 rfl (yS 0 3 B 64 (.agg #[vi r_2.Qubits, .slice B9 r_2.XImages.length c8, .slice B10 r_2.ZImages.length c9]) [vi r_2.Qubits, .slice B9 r_2.XImages.length c8, .slice B10 r_2.ZImages.length c9] 0 [vi r_2.Qubits, .slice B9 r_2.XImages.length c8, .slice B10 r_2.ZImages.length c9, .slice B3 r_.gates.length c2] hS14 K10) ?_ ?_
      ·rintro _ w_10 ⟨rfl, hS15⟩
       refine ⟨(hS15.se [1, 2]), ?_⟩
       refine ra_done (by kernel_rfl) ?_
       exact ⟨B9, c8, B10, c9, (fc rfl (fc rfl fn_)), (hS15.sel [0, 5, 6, 1, 2] rfl rfl)⟩
      exact aN
     exact aN
    exact aN
   exact aN
  exact aN
 rintro f w ⟨B11, c10, B12, c11, hf, hS5⟩
 obtain ⟨hap, hF⟩ := chk_inv hF
 refine cw_mid (fun f w => ∃ (B14 : Option Addr) (c13 : Nat), FF f [] ∧ ST w0 (bl [⟨B, 64, [vi r_.t.Qubits, .slice B1 r_.t.XImages.length c, .slice B2 r_.t.ZImages.length c1, .slice B3 r_.gates.length c2], 4⟩, ⟨B3, 55, (r_.gates.flatMap eN2), c2 * 3⟩]) w [⟨B, 64, [vi r_2.Qubits, .slice B11 r_2.XImages.length c10, .slice B12 r_2.ZImages.length c11, .slice B14 ((r_.gates ++ [(TGate.mk kind a b)]).length) c13], 4⟩, ⟨B11, 71, (r_2.XImages.flatMap eN0), c10 * 3⟩, ⟨B12, 71, (r_2.ZImages.flatMap eN0), c11 * 3⟩, ⟨B14, 55, ((r_.gates ++ [(TGate.mk kind a b)]).flatMap eN2), c13 * 3⟩] [⟨B1, (r_.t.XImages.flatMap eN0)⟩, ⟨B2, (r_.t.ZImages.flatMap eN0)⟩]) ?_ ?_
 ·skip
  refine ra_start (hS5.se [1, 2, 4]).fn (by kernel_rfl) ?_
  have hS17 := hS5.drew
  refine rq 0 28 (v := pt B 0) rfl (hS17.se [1, 2, 4]) (fun w' hw' => (ym (pt B 0) rfl (hf.g 0 0))) ?_
  refine rq 1 29 (v := pt B 0) rfl (hS17.se [1, 2, 4]) (fun w' hw' => (ym (pt B 0) rfl (hf.g 0 0))) ?_
  refine rq 2 30 (v := pt B 0) rfl (hS17.se [1, 2, 4]) (fun w' hw' => (Y_nilCheck (B := B) (i := 0) rfl rfl)) ?_
  refine rq 3 31 (v := pt B 3) rfl (hS17.se [1, 2, 4]) (fun w' hw' => (yd B 0 0 K52 K17)) ?_
  refine rq 5 33 (v := .agg #[vi kind, vi a, vi b]) rfl (hS17.se [1, 2, 4]) (fun w' hw' => (yb (aD b1) 0 [vi kind, vi a, vi b] K26 K13 (ST.cf hw' (i := 2) rfl) rfl (hf.g 8 1))) ?_
  refine rA [4, 6] ?_
  refine ra_y 32 (i := 4) (v := .slice B3 r_.gates.length c2) rfl rfl rfl (yl B 3 [vi r_2.Qubits, .slice B11 r_2.XImages.length c10, .slice B12 r_2.ZImages.length c11, .slice B3 r_.gates.length c2] (.slice B3 r_.gates.length c2) K22 (hS17.c 0)) (hS17.se [1, 2, 4]) ?_ ?_
  ·skip
   refine rA [6] ?_
   refine rS 34 6 rfl (Ys_bslice (s := 3) (len := 1) (vs := [(0, .agg #[vi kind, vi a, vi b])]) (cs := [vi kind, vi a, vi b]) (zs := [vi 0, vi 0, vi 0]) (m := 3) hS17 K15 K13 K48 rfl (mpc rfl mpn) rfl rfl rfl (by kernel_rfl) (by kernel_rfl) rfl) ?_ ?_
   ·rintro _ w_11 ⟨b2, rfl, hS18⟩
    refine ⟨(hS18.se [1, 2, 4]), ?_⟩
    refine rA [7] ?_
    refine rS 35 7 rfl (Ys_append (s := 3) (by' := 24) (i := 3) (nn := r_.gates.length) (c := c2) (k := 1) (len := (r_.gates ++ [(TGate.mk kind a b)]).length) (B := B3) (xs := ([(TGate.mk kind a b)].flatMap eN2)) (cs' := ((r_.gates ++ [(TGate.mk kind a b)]).flatMap eN2)) hS18 K15 K13 K45 K28 rfl (by decide) rfl rfl rfl rfl (fm_lenn (l := r_.gates) eN4 rfl) rfl (hS18.c 5) (fm_lenn (l := [(TGate.mk kind a b)]) eN4 rfl) (fm_one' (enc := eN2) enc_Gate_one [(TGate.mk kind a b)]) (by have := hap; omega) (by have := hap; simp only [maxLen]; omega) (fm_app _ _) (app_len (l := r_.gates) (l' := [(TGate.mk kind a b)]) rfl rfl)) ?_ ?_
    ·rintro _ w_12 ⟨B13, c12, rfl, hS19⟩
     refine ⟨(hS19.se [1, 2, 4]), ?_⟩
     refine rq 8 36 (v := pt B 0) rfl (hS19.se [1, 2, 4]) (fun w' hw' => (Y_nilCheck (B := B) (i := 0) rfl rfl)) ?_
     refine rq 9 37 (v := pt B 3) rfl (hS19.se [1, 2, 4]) (fun w' hw' => (yd B 0 0 K52 K17)) ?_
     refine rA [10] ?_
     refine rZ 10 rfl (yS 0 1 B 64 (.slice B13 ((r_.gates ++ [(TGate.mk kind a b)]).length) c12) [.slice B13 ((r_.gates ++ [(TGate.mk kind a b)]).length) c12] 3 [vi r_2.Qubits, .slice B11 r_2.XImages.length c10, .slice B12 r_2.ZImages.length c11, .slice B13 ((r_.gates ++ [(TGate.mk kind a b)]).length) c12] hS19 K17) ?_ ?_
     ·rintro _ w_13 ⟨rfl, hS20⟩
      refine ⟨(hS20.se [1, 2, 4]), ?_⟩
      refine ra_done (by kernel_rfl) ?_
      exact ⟨B13, c12, fn_, (hS20.sel [0, 1, 2, 3] rfl rfl)⟩
     exact aN
    exact aN
   exact aN
  refine rS 34 6 rfl (Ys_bslice (s := 3) (len := 1) (vs := [(0, .agg #[vi kind, vi a, vi b])]) (cs := [vi kind, vi a, vi b]) (zs := [vi 0, vi 0, vi 0]) (m := 3) hS17 K15 K13 K48 rfl (mpc rfl mpn) rfl rfl rfl (by kernel_rfl) (by kernel_rfl) rfl) ?_ ?_
  ·rintro _ w_14 ⟨b2, rfl, hS21⟩
   refine ⟨(hS21.se [1, 2, 4]), ?_⟩
   refine rA [4] ?_
   refine ra_y 32 (i := 4) (v := .slice B3 r_.gates.length c2) rfl rfl rfl (yl B 3 [vi r_2.Qubits, .slice B11 r_2.XImages.length c10, .slice B12 r_2.ZImages.length c11, .slice B3 r_.gates.length c2] (.slice B3 r_.gates.length c2) K22 (hS21.c 0)) (hS21.se [1, 2, 4]) ?_ ?_
   ·skip
    refine rA [7] ?_
    refine rS 35 7 rfl (Ys_append (s := 3) (by' := 24) (i := 3) (nn := r_.gates.length) (c := c2) (k := 1) (len := (r_.gates ++ [(TGate.mk kind a b)]).length) (B := B3) (xs := ([(TGate.mk kind a b)].flatMap eN2)) (cs' := ((r_.gates ++ [(TGate.mk kind a b)]).flatMap eN2)) hS21 K15 K13 K45 K28 rfl (by decide) rfl rfl rfl rfl (fm_lenn (l := r_.gates) eN4 rfl) rfl (hS21.c 5) (fm_lenn (l := [(TGate.mk kind a b)]) eN4 rfl) (fm_one' (enc := eN2) enc_Gate_one [(TGate.mk kind a b)]) (by have := hap; omega) (by have := hap; simp only [maxLen]; omega) (fm_app _ _) (app_len (l := r_.gates) (l' := [(TGate.mk kind a b)]) rfl rfl)) ?_ ?_
    ·rintro _ w_15 ⟨B13, c12, rfl, hS22⟩
     refine ⟨(hS22.se [1, 2, 4]), ?_⟩
     refine rq 8 36 (v := pt B 0) rfl (hS22.se [1, 2, 4]) (fun w' hw' => (Y_nilCheck (B := B) (i := 0) rfl rfl)) ?_
     refine rq 9 37 (v := pt B 3) rfl (hS22.se [1, 2, 4]) (fun w' hw' => (yd B 0 0 K52 K17)) ?_
     refine rA [10] ?_
     refine rZ 10 rfl (yS 0 1 B 64 (.slice B13 ((r_.gates ++ [(TGate.mk kind a b)]).length) c12) [.slice B13 ((r_.gates ++ [(TGate.mk kind a b)]).length) c12] 3 [vi r_2.Qubits, .slice B11 r_2.XImages.length c10, .slice B12 r_2.ZImages.length c11, .slice B13 ((r_.gates ++ [(TGate.mk kind a b)]).length) c12] hS22 K17) ?_ ?_
     ·rintro _ w_16 ⟨rfl, hS23⟩
      refine ⟨(hS23.se [1, 2, 4]), ?_⟩
      refine ra_done (by kernel_rfl) ?_
      exact ⟨B13, c12, fn_, (hS23.sel [0, 1, 2, 3] rfl rfl)⟩
     exact aN
    exact aN
   exact aN
  exact aN
 rintro f w ⟨B14, c13, hf1, hS16⟩
 obtain rfl := sI hF
 exact ret0 Try.results56  ⟨B11, c10, B12, c11, B14, c13, rfl, (hS16.sN [0, 1, 2, 3])⟩
end Go.VK
