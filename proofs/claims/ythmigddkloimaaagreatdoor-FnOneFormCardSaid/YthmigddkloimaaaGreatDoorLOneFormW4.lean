/- Walks: each Go function returns what its Lean function says. By program. -/
import Derived.Test.YthmigddkloimaaaGreatDoorLOneFormFa
import Derived.Test.YthmigddkloimaaaGreatDoorLOneFormW3
set_option linter.unusedVariables false
set_option maxRecDepth 100000
set_option maxHeartbeats 4000000
namespace Go.VK
open Go.RowKit
open Go.Proofs
open Go.IntKind
attribute [local irreducible] CW RW RA CV Y Yw Yc Ys RetOf
attribute [local irreducible] F_impl_IsValidForm F_impl_IsValidCircuit F_impl_whole F_impl_phase F_impl_small F_slices_ContainsFunc_impl_Dyadic_impl_Dyadic F_impl_IsValidDyadic F_impl_IsValidMatrix F_impl_ringIf F_impl_MulDyadic F_impl_combined F_impl_AddDyadic F_impl_OperatorOf F_impl_mulBloch F_slices_Equal_impl_Dyadic_impl_Dyadic F_impl_EqualMatrices F_impl_BlochOf F_impl_cliffordList F_impl_syllableGates F_impl_formGates F_impl_ScaleMatrix F_impl_MatrixOfForm F_spec_l10Valid F_spec_l6Op F_spec_l9Words F_spec_l10Gates F_spec_l10Circuit F_spec_MatrixOfForm F_spec_EqualMatrices F_impl_blochExp F_impl_transposed F_impl_blochOfGates F_impl_stripped F_impl_isReal F_impl_IsValidBloch_1 F_impl_SubRing F_impl_SubDyadic F_impl_minor F_impl_determinant F_impl_IsValidBloch F_impl_CliffordIndex F_impl_EqualUpToPhase F_impl_NormalFormOf F_impl_LeastTCount F_impl_circuitIf F_impl_CircuitOfForm F_impl_counted F_impl_isT F_impl_CountT F_laws_FnOneForm
theorem c_spec_l10Gates (b : Int)  (w0 : World)  (hS : ST w0 [] w0 [] []) {r_ : List TGate} (hF : F_spec_l10Gates b = some r_) :
  CV Tryz.prog 44 #[.int .u8 b] w0 (fun v w' => ∃ (B : Option Addr) (c : Nat), v = .slice B r_.length c ∧ ST w0 [] w' [⟨B, 64, (r_.flatMap eN4), c * 3⟩] []) := by
 unfold F_spec_l10Gates at hF
 refine cv_of_cw 19 Tryz.func44 rfl Tryz.ntmps44 rfl ?_
 refine cq (cr ?_)
 refine sQ 2 (yg (.slice none 0 0)) (rn (cq (cr ?_)))
 refine sQ 4 (Y_buildS (zs := [vi 0, vi 0, vi 0]) (vs := [(0, vi 7)]) (cs := [vi 7, vi 0, vi 0]) K48 K27 rfl (mpc rfl mpn) rfl) ?_
 refine sS 5 (Ys_bslice (s := 3) (len := 1) (vs := [(0, .agg #[vi 7, vi 0, vi 0])]) (cs := [vi 7, vi 0, vi 0]) (zs := [vi 0, vi 0, vi 0]) (m := 3) hS K25 K17 K61 rfl (mpc rfl mpn) rfl rfl rfl (by kernel_rfl) (by kernel_rfl) rfl) ?_
 rintro _ w_ ⟨b1, rfl, hS1⟩
 refine sQ 3 (yg (.slice (aD b1) 1 1)) (rn (cq ?_))
 obtain ⟨z, hz, hF1⟩ := bI hF
 refine cw_mid (fun f w => ∃ (l : List TGate) (B1 : Option Addr) (c1 : Nat), l = z ∧ FF f [(0, .int .u8 b), (3, .slice B1 l.length c1)] ∧ ST w0 [] w [⟨B1, 64, (l.flatMap eN4), c1 * 3⟩] []) ?_ ?_
 ·skip
  refine cq (cr ?_)
  refine sQ 6 (ym (.int .u8 b)) <| sQ 7 (Y_ne (k := .u8) (a := b) (b := 84) rfl rfl rfl) (rn ?_)
  refine cw_cond (b := (b != 84)) rfl (fun hb => ?_) (fun hb => ?_)
  ·skip
   have hF2 := ct hz hb
   refine cr ?_
   refine sQ 8 (ym (.slice (aD b1) 1 1)) <| sQ 9 (Y_buildS (zs := [vi 0, vi 0, vi 0]) (vs := [(0, vi 1)]) (cs := [vi 1, vi 0, vi 0]) K48 K27 rfl (mpc rfl mpn) rfl) ?_
   refine sS 10 (Ys_bslice (s := 3) (len := 1) (vs := [(0, .agg #[vi 1, vi 0, vi 0])]) (cs := [vi 1, vi 0, vi 0]) (zs := [vi 0, vi 0, vi 0]) (m := 3) hS1 K25 K17 K61 rfl (mpc rfl mpn) rfl rfl rfl (by kernel_rfl) (by kernel_rfl) rfl) ?_
   rintro _ w_1 ⟨b2, rfl, hS3⟩
   have hS3 : ST w0 [] _ [⟨aD b1, 64, ([(TGate.mk 7 0 0)].flatMap eN4), 1 * 3⟩, ⟨aD b2, 64, ([(TGate.mk 1 0 0)].flatMap eN4), 1 * 3⟩] [] := hS3
   refine sS 11 (Ys_append (s := 3) (by' := 24) (i := 0) (nn := 1) (c := 1) (k := 1) (len := 2) (B := aD b1) (xs := ([(TGate.mk 1 0 0)].flatMap eN4)) (cs' := (([(TGate.mk 7 0 0)] ++ [(TGate.mk 1 0 0)]).flatMap eN4)) hS3 K25 K17 K62 K27 rfl (by decide) rfl rfl rfl rfl (fm_lenn (l := [(TGate.mk 7 0 0)]) enc_Gate_len rfl) rfl (hS3.c 1) (fm_lenn (l := [(TGate.mk 1 0 0)]) enc_Gate_len rfl) (fm_one' (enc := eN4) enc_Gate_one [(TGate.mk 1 0 0)]) (by have := (show 1 + 1 ≤ 1099511627776 by decide); omega) (by have := (show 1 + 1 ≤ 1099511627776 by decide); simp only [maxLen]; omega) (fm_app _ _) rfl) ?_
   rintro _ w_2 ⟨B2, c2, rfl, hS4⟩
   have hS4 : ST w0 [] _ [⟨B2, 64, (([(TGate.mk 7 0 0)] ++ [(TGate.mk 1 0 0)]).flatMap eN4), c2 * 3⟩, ⟨aD b2, 64, ([(TGate.mk 1 0 0)].flatMap eN4), 1 * 3⟩] [] := hS4
   refine sQ 3 (yg (.slice B2 2 c2)) (rn ?_)
   exact ⟨([(TGate.mk 7 0 0)] ++ [(TGate.mk 1 0 0)]), B2, c2, (sI hF2), (fc rfl (fc (sl_len (by simp) rfl) fn_)), (hS4.sel [0] rfl rfl)⟩
  ·skip
   have hF3 := cf' hz hb
   refine cw_skip ?_
   exact ⟨[(TGate.mk 7 0 0)], aD b1, 1, (sI hF3), (fc rfl (fc rfl fn_)), (hS1.sel [0] rfl rfl)⟩
 rintro f w ⟨l, B1, c1, rfl, hf, hS2⟩
 refine cq ?_
 obtain ⟨z1, hz1, hF4⟩ := bI hF1
 refine cw_mid (fun f w => ∃ (l1 : List TGate) (B3 : Option Addr) (c3 : Nat), l1 = z1 ∧ FF f [(3, .slice B3 l1.length c3)] ∧ ST w0 [] w [⟨B3, 64, (l1.flatMap eN4), c3 * 3⟩] []) ?_ ?_
 ·skip
  refine cq (cr ?_)
  refine sQ 12 (ym (.int .u8 b) rfl (hf.g 0 0)) <| sQ 13 (Y_eq (k := .u8) (a := b) (b := 83) rfl rfl rfl) (rn ?_)
  refine cw_cond (b := (b == 83)) rfl (fun hb1 => ?_) (fun hb1 => ?_)
  ·skip
   have hF5 := ct hz1 hb1
   refine cr ?_
   refine sQ 14 (ym (.slice B1 l.length c1) rfl (hf.g 3 1)) <| sQ 15 (Y_buildS (zs := [vi 0, vi 0, vi 0]) (vs := [(0, vi 5)]) (cs := [vi 5, vi 0, vi 0]) K48 K27 rfl (mpc rfl mpn) rfl) ?_
   refine sS 16 (Ys_bslice (s := 3) (len := 1) (vs := [(0, .agg #[vi 5, vi 0, vi 0])]) (cs := [vi 5, vi 0, vi 0]) (zs := [vi 0, vi 0, vi 0]) (m := 3) hS2 K25 K17 K61 rfl (mpc rfl mpn) rfl rfl rfl (by kernel_rfl) (by kernel_rfl) rfl) ?_
   rintro _ w_3 ⟨b3, rfl, hS6⟩
   have hS6 : ST w0 [] _ [⟨B1, 64, (l.flatMap eN4), c1 * 3⟩, ⟨aD b3, 64, ([(TGate.mk 5 0 0)].flatMap eN4), 1 * 3⟩] [] := hS6
   obtain ⟨hap, hF5⟩ := chk_inv hF5
   refine sS 17 (Ys_append (s := 3) (by' := 24) (i := 0) (nn := l.length) (c := c1) (k := 1) (len := (l ++ [(TGate.mk 5 0 0)]).length) (B := B1) (xs := ([(TGate.mk 5 0 0)].flatMap eN4)) (cs' := ((l ++ [(TGate.mk 5 0 0)]).flatMap eN4)) hS6 K25 K17 K62 K27 rfl (by decide) rfl rfl rfl rfl (fm_lenn (l := l) enc_Gate_len rfl) rfl (hS6.c 1) (fm_lenn (l := [(TGate.mk 5 0 0)]) enc_Gate_len rfl) (fm_one' (enc := eN4) enc_Gate_one [(TGate.mk 5 0 0)]) (by have := hap; omega) (by have := hap; simp only [maxLen]; omega) (fm_app _ _) (app_len (l := l) (l' := [(TGate.mk 5 0 0)]) rfl rfl)) ?_
   rintro _ w_4 ⟨B4, c4, rfl, hS7⟩
   have hS7 : ST w0 [] _ [⟨B4, 64, ((l ++ [(TGate.mk 5 0 0)]).flatMap eN4), c4 * 3⟩, ⟨aD b3, 64, ([(TGate.mk 5 0 0)].flatMap eN4), 1 * 3⟩] [] := hS7
   refine sQ 3 (yg (.slice B4 ((l ++ [(TGate.mk 5 0 0)]).length) c4)) (rn ?_)
   exact ⟨(l ++ [(TGate.mk 5 0 0)]), B4, c4, (sI hF5), (fc rfl fn_), (hS7.sel [0] rfl rfl)⟩
  ·skip
   have hF6 := cf' hz1 hb1
   refine cw_skip ?_
   exact ⟨l, B1, c1, (sI hF6), (fc (hf.g 3 1) fn_), (hS2.sel [0] rfl rfl)⟩
 rintro f w ⟨l1, B3, c3, rfl, hf1, hS5⟩
 refine cq (cr ?_)
 refine sQ 18 (ym (.slice B3 l1.length c3) rfl (hf1.g 3 0)) <| sQ 2 (yg (.slice B3 l1.length c3)) (rn (ct_ ?_))
 obtain rfl := sI hF4
 exact ret1 Tryz.results44 (v1 := .slice B3 l1.length c3) (resAt_tmp rfl) ⟨B3, c3, rfl, (hS5.sN [0])⟩

theorem c_spec_l10Circuit (f_ : TNormalForm)  (w0 : World)  (hS : ST w0 [] w0 [] []) {r_ : TCircuit} (hF : F_spec_l10Circuit f_ = some r_) :
  CV Tryz.prog 18 #[.agg #[.string (bstr f_.Syllables), vi f_.Clifford, vi f_.Phase]] w0 (fun v w' => ∃ (B : Option Addr) (c : Nat), v = .agg #[vi r_.Qubits, .slice B r_.Gates.length c] ∧ ST w0 [] w' [⟨B, 64, (r_.Gates.flatMap eN4), c * 3⟩] []) := by
 unfold F_spec_l10Circuit at hF
 refine cv_of_cw 62 Tryz.func18 rfl Tryz.ntmps18 rfl ?_
 refine cq (cr ?_)
 refine sS 1 (yB 23 (.agg #[.string (bstr f_.Syllables), vi f_.Clifford, vi f_.Phase]) [.string (bstr f_.Syllables), vi f_.Clifford, vi f_.Phase] 3 hS) ?_
 rintro _ w_ ⟨b, rfl, hS1⟩
 refine sS 2 (yN [vi 0, .slice none 0 0] 2 hS1 K55) ?_
 rintro _ w_1 ⟨b1, rfl, hS2⟩
 refine rn (cq (cr ?_))
 refine sQ 9 (Y_buildS (zs := [vi 0, .slice none 0 0]) (vs := [(0, vi 1)]) (cs := [vi 1, .slice none 0 0]) K78 K55 rfl (mpc rfl mpn) rfl) ?_
 refine sS 3 (yN [vi 0, .slice none 0 0] 2 hS2 K55) ?_
 rintro _ w_2 ⟨b2, rfl, hS3⟩
 refine s0 (yT 2 2 (aD b2) 37 (.agg #[vi 1, .slice none 0 0]) [vi 1, .slice none 0 0] 0 hS3 K32) ?_
 rintro _ w_3 ⟨rfl, hS4⟩
 refine rn (cq ?_)
 obtain ⟨r_1, hc, hF⟩ := bI hF
 obtain ⟨x, hx, hF⟩ := bI hF
 refine ra_start (hS4.se [0, 1, 2]).fn (by kernel_rfl) ?_
 have hS6 := hS4.drew
 refine rq 1 11 (v := pt (aD b) 1) rfl (hS6.se [0, 1, 2]) (fun w' hw' => (yd (aD b) 0 0 K94 K2)) ?_
 refine rq 2 12 (v := vi f_.Clifford) rfl (hS6.se [0, 1, 2]) (fun w' hw' => (yl (aD b) 1 [.string (bstr f_.Syllables), vi f_.Clifford, vi f_.Phase] (vi f_.Clifford) K0 (ST.cf hw' (i := 0) rfl))) ?_
 refine rA [0] ?_
 refine rC 10 0 rfl (yC [] k_call_43 (c_spec_l9Words  _  (hS6.inn0 [] rfl) hc)) ?_ ?_
 ·rintro _ w_4 ⟨B1, c1, rfl, hd⟩
  have hS7 := hS6.out0 hd
  refine ⟨(hS7.se [0, 1, 2]), ?_⟩
  refine rA [3] ?_
  refine ra_y 13 (i := 3) (v := pt B1 (f_.Clifford.toNat * 1)) rfl rfl rfl (Y_index (B := B1) (m := r_1.length) (c := c1) (k := .i64) (i := f_.Clifford) K33 K24 rfl rfl rfl (gi_isSome encS_len rfl (hS7.c 3) hx) (getI_nn hx) (getI_ltI hx rfl)) (hS7.se [0, 1, 2]) ?_ ?_
  ·skip
   refine rA [4] ?_
   refine ra_y 14 (i := 4) (v := .string (bstr x)) rfl rfl rfl (yl B1 (f_.Clifford.toNat * 1) (r_1.flatMap encS) (.string (bstr x)) K41 (hS7.c 3) rfl rfl (gi_at0 encS_len hx rfl)) (hS7.se [0, 1, 2]) ?_ ?_
   ·skip
    refine rq 5 4 (v := .string (bstr x)) rfl (hS7.se [0, 1, 2]) (fun w' hw' => (yg (.string (bstr x)))) ?_
    refine ra_done (by kernel_rfl) ?_
    refine cq (cq (cr ?_))
    refine sQ 5 (yg (vi 0)) (rn ?_)
    obtain ⟨hN, hF⟩ := chk_inv hF
    obtain ⟨z, hz, hF1⟩ := bI hF
    have hS9 := hS7.addNil 64
    refine cw_block ?_
    refine cw_loop (fun k f w => ∃ (i1 : Nat) (Gates : List TGate) (B2 : Option Addr) (c2 : Nat), FF f [(1, pt (aD b) 0), (2, pt (aD b1) 0), (3, pt (aD b2) 0), (4, .string (bstr x)), (5, vi (i1 : Int))] ∧ ST w0 [] w [⟨aD b, 23, [.string (bstr f_.Syllables), vi f_.Clifford, vi f_.Phase], 3⟩, ⟨aD b1, 37, [vi 0, .slice none 0 0], 2⟩, ⟨aD b2, 37, [vi 1, .slice B2 Gates.length c2], 2⟩, ⟨B2, 64, (Gates.flatMap eN4), c2 * 3⟩] [] ∧ i1 + k = x.length ∧ forN (F_spec_l10Circuit_l1 x) k i1 Gates = some z) x.length ⟨0, [], none, 0, (fc rfl (fc rfl (fc rfl (fc rfl (fc rfl fn_))))), (hS9.sel [0, 1, 2, 4] rfl rfl), Nat.zero_add _, hz⟩ ?_
    rintro k_ f w ⟨i1, Gates, B2, c2, hf, hS8, hik, hL⟩
    refine cq (cq (cr ?_))
    refine sQ 15 (ym (vi (i1 : Int)) rfl (hf.g 5 4)) <| sQ 16 (ym (.string (bstr x)) rfl (hf.g 4 3)) <| sQ 17 (Y_slen (a := x) K42 rfl rfl) <| sQ 18 (yL (i1 : Int) (x.length : Int)) (rn ?_)
    refine cw_cond (b := (decide ((i1 : Int) < (x.length : Int)))) rfl (fun hlt => ?_) (fun hlt => ?_)
    ·skip
     have hlt1 : i1 < x.length := by have h := of_decide_eq_true hlt; omega
     obtain ⟨K7, rfl⟩ : ∃ k2, k_ = k2 + 1 := ⟨k_ - 1, by omega⟩
     obtain ⟨y, hb, hL1⟩ := forN_go hL
     unfold F_spec_l10Circuit_l1 at hb
     refine cw_skip (cq (cw_block (cq (cr ?_))))
     refine sQ 6 (yg (vi 1)) (rn (cq ?_))
     obtain ⟨z1, hz1, hF2⟩ := bI hb
     refine cw_mid (fun f w => ∃ (kind : Int), kind = z1 ∧ FF f [(1, pt (aD b) 0), (2, pt (aD b1) 0), (3, pt (aD b2) 0), (4, .string (bstr x)), (5, vi (i1 : Int)), (6, vi kind)] ∧ ST w0 [] w [⟨aD b, 23, [.string (bstr f_.Syllables), vi f_.Clifford, vi f_.Phase], 3⟩, ⟨aD b1, 37, [vi 0, .slice none 0 0], 2⟩, ⟨aD b2, 37, [vi 1, .slice B2 Gates.length c2], 2⟩, ⟨B2, 64, (Gates.flatMap eN4), c2 * 3⟩] []) ?_ ?_
     ·skip
      refine cq (cr ?_)
      refine sQ 21 (ym (.string (bstr x)) rfl (hf.g 4 3)) <| sQ 22 (ym (vi (i1 : Int)) rfl (hf.g 5 4)) ?_
      obtain ⟨x1, hx1, hz1⟩ := bI hz1
      refine sQ 23 (Y_sidx (a := x) (k := .i64) (i := (i1 : Int)) (b := x1) K42 rfl rfl rfl hx1) <| sQ 24 (Y_eq (k := .u8) (a := (x1.toNat : Int)) (b := 83) rfl rfl rfl) (rn ?_)
      refine cw_cond (b := ((x1.toNat : Int) == 83)) rfl (fun hb1 => ?_) (fun hb1 => ?_)
      ·skip
       have hF3 := ct hz1 hb1
       refine cr ?_
       refine sQ 6 (yg (vi 5)) (rn ?_)
       exact ⟨5, (sI hF3), (fc (hf.g 1 0) (fc (hf.g 2 1) (fc (hf.g 3 2) (fc (hf.g 4 3) (fc (hf.g 5 4) (fc rfl fn_)))))), (hS8.sel [0, 1, 2, 3] rfl rfl)⟩
      ·skip
       have hF4 := cf' hz1 hb1
       refine cw_skip ?_
       exact ⟨1, (sI hF4), (fc (hf.g 1 0) (fc (hf.g 2 1) (fc (hf.g 3 2) (fc (hf.g 4 3) (fc (hf.g 5 4) (fc rfl fn_)))))), (hS8.sel [0, 1, 2, 3] rfl rfl)⟩
     rintro f w ⟨kind, rfl, hf1, hS10⟩
     refine cr ?_
     refine sQ 25 (yd (aD b2) 0 0 K53 K37 rfl (hf1.g 3 2)) <| sQ 26 (yl (aD b2) 1 [vi 1, .slice B2 Gates.length c2] (.slice B2 Gates.length c2) K60 (hS10.c 2)) <| sQ 27 (ym (vi kind) rfl (hf1.g 6 5)) <| sQ 28 (Y_buildS (zs := [vi 0, vi 0, vi 0]) (vs := [(0, vi kind)]) (cs := [vi kind, vi 0, vi 0]) K48 K27 rfl (mpc rfl mpn) rfl) ?_
     refine sS 29 (Ys_bslice (s := 3) (len := 1) (vs := [(0, .agg #[vi kind, vi 0, vi 0])]) (cs := [vi kind, vi 0, vi 0]) (zs := [vi 0, vi 0, vi 0]) (m := 3) hS10 K25 K17 K61 rfl (mpc rfl mpn) rfl rfl rfl (by kernel_rfl) (by kernel_rfl) rfl) ?_
     rintro _ w_5 ⟨b3, rfl, hS11⟩
     obtain ⟨hap, hF2⟩ := chk_inv hF2
     refine sS 30 (Ys_append (s := 3) (by' := 24) (i := 3) (nn := Gates.length) (c := c2) (k := 1) (len := (Gates ++ [(TGate.mk kind 0 0)]).length) (B := B2) (xs := ([(TGate.mk kind 0 0)].flatMap eN4)) (cs' := ((Gates ++ [(TGate.mk kind 0 0)]).flatMap eN4)) hS11 K25 K17 K62 K27 rfl (by decide) rfl rfl rfl rfl (fm_lenn (l := Gates) enc_Gate_len rfl) rfl (hS11.c 4) (fm_lenn (l := [(TGate.mk kind 0 0)]) enc_Gate_len rfl) (fm_one' (enc := eN4) enc_Gate_one [(TGate.mk kind 0 0)]) (by have := hap; omega) (by have := hap; simp only [maxLen]; omega) (fm_app _ _) (app_len (l := Gates) (l' := [(TGate.mk kind 0 0)]) rfl rfl)) ?_
     rintro _ w_6 ⟨B3, c3, rfl, hS12⟩
     refine sQ 31 (yd (aD b2) 0 0 K53 K37 rfl (hf1.g 3 2)) ?_
     refine s0 (yS 2 1 (aD b2) 37 (.slice B3 ((Gates ++ [(TGate.mk kind 0 0)]).length) c3) [.slice B3 ((Gates ++ [(TGate.mk kind 0 0)]).length) c3] 1 [vi 1, .slice B3 ((Gates ++ [(TGate.mk kind 0 0)]).length) c3] hS12 K37) ?_
     rintro _ w_7 ⟨rfl, hS13⟩
     refine rn (cr ?_)
     refine sQ 19 (ym (vi (i1 : Int)) rfl (hf1.g 5 4)) <| sQ 20 (yP (i1 : Int) 1) <| sQ 5 (yg (vi (i64.wrap ((i1 : Int) + 1)))) (rn ?_)
     obtain rfl := sI hF2
     exact ⟨K7, Nat.lt_succ_self _, i1 + 1, (Gates ++ [(TGate.mk kind 0 0)]), B3, c3, (fc (hf1.g 1 0) (fc (hf1.g 2 1) (fc (hf1.g 3 2) (fc (hf1.g 4 3) (fc (congrArg (Value.int .i64) (wr_succ hlt1 hN)) fn_))))), (hS13.sel [0, 1, 2, 3] rfl rfl), (by omega), hL1⟩
    ·skip
     obtain rfl : k_ = 0 := by have h := of_decide_eq_false hlt; omega
     refine cw_exit rfl ?_
     obtain rfl := sI hL
     refine cq (cq (cr ?_))
     refine sQ 32 (yd (aD b) 0 0 K56 K24 rfl (hf.g 1 0)) <| sQ 33 (yl (aD b) 0 [.string (bstr f_.Syllables), vi f_.Clifford, vi f_.Phase] (.string (bstr f_.Syllables)) K41 (hS8.c 0)) <| sQ 34 (Y_slen (a := f_.Syllables) K42 rfl rfl) <| sQ 35 (yM (f_.Syllables.length : Int) 1) <| sQ 7 (yg (vi (i64.wrap ((f_.Syllables.length : Int) - 1)))) (rn ?_)
     obtain ⟨z2, hz2, hF5⟩ := bI hF1
     refine cw_block ?_
     refine cw_loop (fun k f w => ∃ (Gates1 : List TGate) (i2 : Int) (B4 : Option Addr) (c4 : Nat), FF f [(1, pt (aD b) 0), (2, pt (aD b1) 0), (3, pt (aD b2) 0), (7, vi i2)] ∧ ST w0 [] w [⟨aD b, 23, [.string (bstr f_.Syllables), vi f_.Clifford, vi f_.Phase], 3⟩, ⟨aD b1, 37, [vi 0, .slice none 0 0], 2⟩, ⟨aD b2, 37, [vi 1, .slice B4 Gates1.length c4], 2⟩, ⟨B4, 64, (Gates1.flatMap eN4), c4 * 3⟩] [] ∧ whX (F_spec_l10Circuit_l2 f_) k (Gates1, i2) = some z2) fuel ⟨Gates, (i64.wrap ((f_.Syllables.length : Int) - 1)), B2, c2, (fc (hf.g 1 0) (fc (hf.g 2 1) (fc (hf.g 3 2) (fc rfl fn_)))), (hS8.sel [0, 1, 2, 3] rfl rfl), hz2⟩ ?_
     rintro K15 f w ⟨Gates1, i2, B4, c4, hf2, hS14, hL2⟩
     obtain ⟨K28, y1, rfl, hb2, hL3⟩ := whX_go hL2
     unfold F_spec_l10Circuit_l2 at hb2
     refine cq (cq (cr ?_))
     refine sQ 36 (ym (vi i2) rfl (hf2.g 7 3)) <| sQ 37 (Y_ge (k := .i64) (a := i2) (b := 0) rfl rfl rfl) (rn ?_)
     refine cw_cond (b := (decide (0 ≤ i2))) rfl (fun hb3 => ?_) (fun hb3 => ?_)
     ·skip
      have hF6 := ct hb2 hb3
      refine cw_skip (cq (cw_block ?_))
      obtain ⟨x2, hx2, hF6⟩ := bI hF6
      obtain ⟨r_2, hc1, hF6⟩ := bI hF6
      obtain ⟨hap1, hF6⟩ := chk_inv hF6
      refine cw_mid (fun f w => ∃ (B7 : Option Addr) (c7 : Nat), FF f [(1, pt (aD b) 0), (2, pt (aD b1) 0), (3, pt (aD b2) 0), (7, vi i2)] ∧ ST w0 [] w [⟨aD b, 23, [.string (bstr f_.Syllables), vi f_.Clifford, vi f_.Phase], 3⟩, ⟨aD b1, 37, [vi 0, .slice none 0 0], 2⟩, ⟨aD b2, 37, [vi 1, .slice B7 ((Gates1 ++ r_2).length) c7], 2⟩, ⟨B7, 64, ((Gates1 ++ r_2).flatMap eN4), c7 * 3⟩] []) ?_ ?_
      ·skip
       refine ra_start (hS14.se [0, 1]).fn (by kernel_rfl) ?_
       have hS17 := hS14.drew
       refine rq 0 40 (v := pt (aD b2) 1) rfl (hS17.se [0, 1]) (fun w' hw' => (yd (aD b2) 0 0 K53 K37 rfl (hf2.g 3 2))) ?_
       refine rq 2 42 (v := pt (aD b) 0) rfl (hS17.se [0, 1]) (fun w' hw' => (yd (aD b) 0 0 K56 K24 rfl (hf2.g 1 0))) ?_
       refine rq 3 43 (v := .string (bstr f_.Syllables)) rfl (hS17.se [0, 1]) (fun w' hw' => (yl (aD b) 0 [.string (bstr f_.Syllables), vi f_.Clifford, vi f_.Phase] (.string (bstr f_.Syllables)) K41 (ST.cf hw' (i := 0) rfl))) ?_
       refine rq 4 44 (v := vi i2) rfl (hS17.se [0, 1]) (fun w' hw' => (ym (vi i2) rfl (hf2.g 7 3))) ?_
       refine rq 5 45 (v := .int .u8 (x2.toNat : Int)) rfl (hS17.se [0, 1]) (fun w' hw' => (Y_sidx (a := f_.Syllables) (k := .i64) (i := i2) (b := x2) K42 rfl rfl rfl hx2)) ?_
       refine rA [1, 6] ?_
       refine ra_y 41 (i := 1) (v := .slice B4 Gates1.length c4) rfl rfl rfl (yl (aD b2) 1 [vi 1, .slice B4 Gates1.length c4] (.slice B4 Gates1.length c4) K60 (hS17.c 2)) (hS17.se [0, 1]) ?_ ?_
       ·skip
        refine rA [6] ?_
        refine rC 46 6 rfl (yC [.int .u8 (x2.toNat : Int)] k_call_44 (c_spec_l10Gates (x2.toNat : Int) _  (hS17.inn0 [] rfl) hc1)) ?_ ?_
        ·rintro _ w_8 ⟨B5, c5, rfl, hd1⟩
         have hS18 := hS17.out0 hd1
         refine ⟨(hS18.se [0, 1]), ?_⟩
         refine rA [7] ?_
         refine rS 47 7 rfl (Ys_append (s := 3) (by' := 24) (i := 3) (nn := Gates1.length) (c := c4) (k := r_2.length) (len := (Gates1 ++ r_2).length) (B := B4) (xs := (r_2.flatMap eN4)) (cs' := ((Gates1 ++ r_2).flatMap eN4)) hS18 K25 K17 K62 K27 rfl (by decide) rfl rfl rfl rfl (fm_lenn (l := Gates1) enc_Gate_len rfl) rfl (hS18.c 4) (fm_lenn (l := r_2) enc_Gate_len rfl) (fm_one' (enc := eN4) enc_Gate_one r_2) (by have := hap1; omega) (by have := hap1; simp only [maxLen]; omega) (fm_app _ _) (app_len (l := Gates1) (l' := r_2) rfl rfl)) ?_ ?_
         ·rintro _ w_9 ⟨B6, c6, rfl, hS19⟩
          refine ⟨(hS19.se [0, 1]), ?_⟩
          refine rq 8 48 (v := pt (aD b2) 1) rfl (hS19.se [0, 1]) (fun w' hw' => (yd (aD b2) 0 0 K53 K37 rfl (hf2.g 3 2))) ?_
          refine rA [9] ?_
          refine rZ 9 rfl (yS 2 1 (aD b2) 37 (.slice B6 ((Gates1 ++ r_2).length) c6) [.slice B6 ((Gates1 ++ r_2).length) c6] 1 [vi 1, .slice B6 ((Gates1 ++ r_2).length) c6] hS19 K37) ?_ ?_
          ·rintro _ w_10 ⟨rfl, hS20⟩
           refine ⟨(hS20.se [0, 1]), ?_⟩
           refine ra_done (by kernel_rfl) ?_
           exact ⟨B6, c6, (fc (hf2.g 1 0) (fc (hf2.g 2 1) (fc (hf2.g 3 2) (fc (hf2.g 7 3) fn_)))), (hS20.sel [0, 1, 2, 3] rfl rfl)⟩
          exact aN
         exact aN
        exact aN
       refine rC 46 6 rfl (yC [.int .u8 (x2.toNat : Int)] k_call_44 (c_spec_l10Gates (x2.toNat : Int) _  (hS17.inn0 [] rfl) hc1)) ?_ ?_
       ·rintro _ w_11 ⟨B5, c5, rfl, hd2⟩
        have hS21 := hS17.out0 hd2
        refine ⟨(hS21.se [0, 1]), ?_⟩
        refine rA [1] ?_
        refine ra_y 41 (i := 1) (v := .slice B4 Gates1.length c4) rfl rfl rfl (yl (aD b2) 1 [vi 1, .slice B4 Gates1.length c4] (.slice B4 Gates1.length c4) K60 (hS21.c 2)) (hS21.se [0, 1]) ?_ ?_
        ·skip
         refine rA [7] ?_
         refine rS 47 7 rfl (Ys_append (s := 3) (by' := 24) (i := 3) (nn := Gates1.length) (c := c4) (k := r_2.length) (len := (Gates1 ++ r_2).length) (B := B4) (xs := (r_2.flatMap eN4)) (cs' := ((Gates1 ++ r_2).flatMap eN4)) hS21 K25 K17 K62 K27 rfl (by decide) rfl rfl rfl rfl (fm_lenn (l := Gates1) enc_Gate_len rfl) rfl (hS21.c 4) (fm_lenn (l := r_2) enc_Gate_len rfl) (fm_one' (enc := eN4) enc_Gate_one r_2) (by have := hap1; omega) (by have := hap1; simp only [maxLen]; omega) (fm_app _ _) (app_len (l := Gates1) (l' := r_2) rfl rfl)) ?_ ?_
         ·rintro _ w_12 ⟨B6, c6, rfl, hS22⟩
          refine ⟨(hS22.se [0, 1]), ?_⟩
          refine rq 8 48 (v := pt (aD b2) 1) rfl (hS22.se [0, 1]) (fun w' hw' => (yd (aD b2) 0 0 K53 K37 rfl (hf2.g 3 2))) ?_
          refine rA [9] ?_
          refine rZ 9 rfl (yS 2 1 (aD b2) 37 (.slice B6 ((Gates1 ++ r_2).length) c6) [.slice B6 ((Gates1 ++ r_2).length) c6] 1 [vi 1, .slice B6 ((Gates1 ++ r_2).length) c6] hS22 K37) ?_ ?_
          ·rintro _ w_13 ⟨rfl, hS23⟩
           refine ⟨(hS23.se [0, 1]), ?_⟩
           refine ra_done (by kernel_rfl) ?_
           exact ⟨B6, c6, (fc (hf2.g 1 0) (fc (hf2.g 2 1) (fc (hf2.g 3 2) (fc (hf2.g 7 3) fn_)))), (hS23.sel [0, 1, 2, 3] rfl rfl)⟩
          exact aN
         exact aN
        exact aN
       exact aN
      rintro f w ⟨B7, c7, hf3, hS16⟩
      refine cr ?_
      refine sQ 38 (ym (vi i2) rfl (hf3.g 7 3)) <| sQ 39 (yM i2 1) <| sQ 7 (yg (vi (i64.wrap (i2 - 1)))) (rn ?_)
      obtain rfl := sI hF6
      exact ⟨K28, Nat.lt_succ_self _, (Gates1 ++ r_2), (i64.wrap (i2 - 1)), B7, c7, (fc (hf3.g 1 0) (fc (hf3.g 2 1) (fc (hf3.g 3 2) (fc rfl fn_)))), (hS16.sel [0, 1, 2, 3] rfl rfl), hL3⟩
     ·skip
      have hF7 := cf' hb2 hb3
      refine cw_exit rfl ?_
      obtain rfl := sI hF7
      obtain rfl := sI hL3
      refine cq (cq (cr ?_))
      refine sQ 8 (yg (vi 0)) (rn ?_)
      obtain ⟨hN1, hF5⟩ := chk_inv hF5
      obtain ⟨z3, hz3, hF8⟩ := bI hF5
      refine cw_block ?_
      refine cw_loop (fun k f w => ∃ (i4 : Nat) (Gates2 : List TGate) (B8 : Option Addr) (c8 : Nat), FF f [(1, pt (aD b) 0), (2, pt (aD b1) 0), (3, pt (aD b2) 0), (8, vi (i4 : Int))] ∧ ST w0 [] w [⟨aD b, 23, [.string (bstr f_.Syllables), vi f_.Clifford, vi f_.Phase], 3⟩, ⟨aD b1, 37, [vi 0, .slice none 0 0], 2⟩, ⟨aD b2, 37, [vi 1, .slice B8 Gates2.length c8], 2⟩, ⟨B8, 64, (Gates2.flatMap eN4), c8 * 3⟩] [] ∧ i4 + k = f_.Phase.toNat ∧ forN F_spec_l10Circuit_l3 k i4 Gates2 = some z3) f_.Phase.toNat ⟨0, Gates1, B4, c4, (fc (hf2.g 1 0) (fc (hf2.g 2 1) (fc (hf2.g 3 2) (fc rfl fn_)))), (hS14.sel [0, 1, 2, 3] rfl rfl), Nat.zero_add _, hz3⟩ ?_
      rintro K14 f w ⟨i4, Gates2, B8, c8, hf4, hS24, hik2, hL4⟩
      refine cq (cq (cr ?_))
      refine sQ 49 (ym (vi (i4 : Int)) rfl (hf4.g 8 3)) <| sQ 50 (yd (aD b) 0 0 K85 K2 rfl (hf4.g 1 0)) <| sQ 51 (yl (aD b) 2 [.string (bstr f_.Syllables), vi f_.Clifford, vi f_.Phase] (vi f_.Phase) K0 (hS24.c 0)) <| sQ 52 (yL (i4 : Int) f_.Phase) (rn ?_)
      refine cw_cond (b := (decide ((i4 : Int) < f_.Phase))) rfl (fun hlt2 => ?_) (fun hlt2 => ?_)
      ·skip
       have hlt3 : i4 < f_.Phase.toNat := by have h := of_decide_eq_true hlt2; omega
       obtain ⟨K68, rfl⟩ : ∃ k2, K14 = k2 + 1 := ⟨K14 - 1, by omega⟩
       obtain ⟨y2, hb4, hL5⟩ := forN_go hL4
       unfold F_spec_l10Circuit_l3 at hb4
       refine cw_skip (cq (cw_block (cr ?_)))
       refine sQ 55 (yd (aD b2) 0 0 K53 K37 rfl (hf4.g 3 2)) <| sQ 56 (yl (aD b2) 1 [vi 1, .slice B8 Gates2.length c8] (.slice B8 Gates2.length c8) K60 (hS24.c 2)) <| sQ 57 (Y_buildS (zs := [vi 0, vi 0, vi 0]) (vs := [(0, vi 12)]) (cs := [vi 12, vi 0, vi 0]) K48 K27 rfl (mpc rfl mpn) rfl) ?_
       refine sS 58 (Ys_bslice (s := 3) (len := 1) (vs := [(0, .agg #[vi 12, vi 0, vi 0])]) (cs := [vi 12, vi 0, vi 0]) (zs := [vi 0, vi 0, vi 0]) (m := 3) hS24 K25 K17 K61 rfl (mpc rfl mpn) rfl rfl rfl (by kernel_rfl) (by kernel_rfl) rfl) ?_
       rintro _ w_14 ⟨b4, rfl, hS25⟩
       have hS25 : ST w0 [] _ [⟨aD b, 23, [.string (bstr f_.Syllables), vi f_.Clifford, vi f_.Phase], 3⟩, ⟨aD b1, 37, [vi 0, .slice none 0 0], 2⟩, ⟨aD b2, 37, [vi 1, .slice B8 Gates2.length c8], 2⟩, ⟨B8, 64, (Gates2.flatMap eN4), c8 * 3⟩, ⟨aD b4, 64, ([(TGate.mk 12 0 0)].flatMap eN4), 1 * 3⟩] [] := hS25
       obtain ⟨hap2, hb4⟩ := chk_inv hb4
       refine sS 59 (Ys_append (s := 3) (by' := 24) (i := 3) (nn := Gates2.length) (c := c8) (k := 1) (len := (Gates2 ++ [(TGate.mk 12 0 0)]).length) (B := B8) (xs := ([(TGate.mk 12 0 0)].flatMap eN4)) (cs' := ((Gates2 ++ [(TGate.mk 12 0 0)]).flatMap eN4)) hS25 K25 K17 K62 K27 rfl (by decide) rfl rfl rfl rfl (fm_lenn (l := Gates2) enc_Gate_len rfl) rfl (hS25.c 4) (fm_lenn (l := [(TGate.mk 12 0 0)]) enc_Gate_len rfl) (fm_one' (enc := eN4) enc_Gate_one [(TGate.mk 12 0 0)]) (by have := hap2; omega) (by have := hap2; simp only [maxLen]; omega) (fm_app _ _) (app_len (l := Gates2) (l' := [(TGate.mk 12 0 0)]) rfl rfl)) ?_
       rintro _ w_15 ⟨B9, c9, rfl, hS26⟩
       have hS26 : ST w0 [] _ [⟨aD b, 23, [.string (bstr f_.Syllables), vi f_.Clifford, vi f_.Phase], 3⟩, ⟨aD b1, 37, [vi 0, .slice none 0 0], 2⟩, ⟨aD b2, 37, [vi 1, .slice B8 Gates2.length c8], 2⟩, ⟨B9, 64, ((Gates2 ++ [(TGate.mk 12 0 0)]).flatMap eN4), c9 * 3⟩, ⟨aD b4, 64, ([(TGate.mk 12 0 0)].flatMap eN4), 1 * 3⟩] [] := hS26
       refine sQ 60 (yd (aD b2) 0 0 K53 K37 rfl (hf4.g 3 2)) ?_
       refine s0 (yS 2 1 (aD b2) 37 (.slice B9 ((Gates2 ++ [(TGate.mk 12 0 0)]).length) c9) [.slice B9 ((Gates2 ++ [(TGate.mk 12 0 0)]).length) c9] 1 [vi 1, .slice B9 ((Gates2 ++ [(TGate.mk 12 0 0)]).length) c9] hS26 K37) ?_
       rintro _ w_16 ⟨rfl, hS27⟩
       have hS27 : ST w0 [] _ [⟨aD b, 23, [.string (bstr f_.Syllables), vi f_.Clifford, vi f_.Phase], 3⟩, ⟨aD b1, 37, [vi 0, .slice none 0 0], 2⟩, ⟨aD b2, 37, [vi 1, .slice B9 ((Gates2 ++ [(TGate.mk 12 0 0)]).length) c9], 2⟩, ⟨B9, 64, ((Gates2 ++ [(TGate.mk 12 0 0)]).flatMap eN4), c9 * 3⟩, ⟨aD b4, 64, ([(TGate.mk 12 0 0)].flatMap eN4), 1 * 3⟩] [] := hS27
       refine rn (cr ?_)
       refine sQ 53 (ym (vi (i4 : Int)) rfl (hf4.g 8 3)) <| sQ 54 (yP (i4 : Int) 1) <| sQ 8 (yg (vi (i64.wrap ((i4 : Int) + 1)))) (rn ?_)
       obtain rfl := sI hb4
       exact ⟨K68, Nat.lt_succ_self _, i4 + 1, (Gates2 ++ [(TGate.mk 12 0 0)]), B9, c9, (fc (hf4.g 1 0) (fc (hf4.g 2 1) (fc (hf4.g 3 2) (fc (congrArg (Value.int .i64) (wr_succ hlt3 hN1)) fn_)))), (hS27.sel [0, 1, 2, 3] rfl rfl), (by omega), hL5⟩
      ·skip
       obtain rfl : K14 = 0 := by have h := of_decide_eq_false hlt2; omega
       refine cw_exit rfl ?_
       obtain rfl := sI hL4
       refine cq (cr ?_)
       refine sQ 61 (yb (aD b2) 0 [vi 1, .slice B8 Gates2.length c8] K54 K32 (hS24.c 2) rfl (hf4.g 3 2)) ?_
       refine s0 (yT 1 2 (aD b1) 37 (.agg #[vi 1, .slice B8 Gates2.length c8]) [vi 1, .slice B8 Gates2.length c8] 0 hS24 K32 rfl (hf4.g 2 1)) ?_
       rintro _ w_17 ⟨rfl, hS28⟩
       refine rn (ct_ ?_)
       obtain rfl := sI hF8
       exact ret1 Tryz.results18 (v1 := .agg #[vi 1, .slice B8 Gates2.length c8]) (resAt_cellA (B := aD b1) (i := 0) (cs := [vi 1, .slice B8 Gates2.length c8]) (vs := [vi 1, .slice B8 Gates2.length c8]) (hf4.g 2 1) K54 K32 (hS28.c 1) rfl rfl) ⟨B8, c8, rfl, (hS28.sN [3])⟩
   exact aN
  exact aN
 exact aN

theorem c_spec_MatrixOfForm (f_ : TNormalForm)  (w0 : World)  (hS : ST w0 [] w0 [] []) {r_ : TMatrix} {r_1 : Bool} (hF : F_spec_MatrixOfForm f_ = some (r_, r_1)) :
  CV Tryz.prog 5 #[.agg #[.string (bstr f_.Syllables), vi f_.Clifford, vi f_.Phase]] w0 (fun v w' => ∃ (B : Option Addr) (c : Nat), v = .tuple #[gM_ r_ B c, .bool r_1] ∧ ST w0 [] w' [⟨B, 48, (r_.Cells.flatMap eN0), c * 5⟩] []) := by
 unfold F_spec_MatrixOfForm at hF
 refine cv_of_cw 11 Tryz.func5 rfl Tryz.ntmps5 rfl ?_
 refine cq (cr ?_)
 refine sS 1 (yB 23 (.agg #[.string (bstr f_.Syllables), vi f_.Clifford, vi f_.Phase]) [.string (bstr f_.Syllables), vi f_.Clifford, vi f_.Phase] 3 hS) ?_
 rintro _ w_ ⟨b, rfl, hS1⟩
 refine sS 2 (yN kN_ 3 hS1 K12) ?_
 rintro _ w_1 ⟨b1, rfl, hS2⟩
 refine sQ 3 (yg (.bool false)) (rn (cq (cq (cr ?_))))
 refine sQ 4 (yb (aD b) 0 [.string (bstr f_.Syllables), vi f_.Clifford, vi f_.Phase] K36 K30 (hS2.c 0)) ?_
 obtain ⟨r_2, hc, hF⟩ := bI hF
 refine sc 5 rfl rfl (yC [.agg #[.string (bstr f_.Syllables), vi f_.Clifford, vi f_.Phase]] k_call_16 (c_spec_l10Valid f_ _  (hS2.inn0 [] rfl) hc)) ?_
 rintro _ w_2 ⟨rfl, hd⟩
 have hS3 := hS2.out00 hd
 refine sQ 6 (Y_not (p := r_2) rfl rfl) (rn ?_)
 refine cw_cond (b := (!r_2)) rfl (fun hb => ?_) (fun hb => ?_)
 ·skip
  have hF1 := ct hF hb
  refine cq (cr ?_)
  refine sQ 7 (Y_buildS (zs := kN_) (vs := []) (cs := kN_) K50 K12 rfl mpn rfl) ?_
  refine s0 (yT 1 3 (aD b1) 26 gN_ kN_ 0 hS3 K3) ?_
  rintro _ w_3 ⟨rfl, hS4⟩
  refine sQ 3 (yg (.bool false)) (rn (ct_ ?_))
  have hS5 := hS4.addNil 48
  obtain ⟨rfl, rfl⟩ := pr2 (sI hF1)
  exact ret2 Tryz.results5 (v1 := gN_) (resAt_cellA (B := aD b1) (i := 0) (cs := kN_) (vs := kN_) rfl K8 K3 (hS5.c 1) rfl rfl) (v2 := .bool false) (resAt_tmp rfl) ⟨none, 0, rfl, (hS5.sN [2])⟩
 ·skip
  have hF2 := cf' hF hb
  refine cw_skip (cq (cr ?_))
  refine sQ 8 (yb (aD b) 0 [.string (bstr f_.Syllables), vi f_.Clifford, vi f_.Phase] K36 K30 (hS3.c 0)) ?_
  obtain ⟨r_3, hc1, hF2⟩ := bI hF2
  refine sc 9 rfl rfl (yC [.agg #[.string (bstr f_.Syllables), vi f_.Clifford, vi f_.Phase]] k_call_18 (c_spec_l10Circuit f_ _  (hS3.inn0 [] rfl) hc1)) ?_
  rintro _ w_4 ⟨B1, c1, rfl, hd1⟩
  have hS6 := hS3.out0 hd1
  obtain ⟨r_4, hc2, hF2⟩ := bI hF2
  refine sc 10 rfl rfl (yC [.agg #[vi r_3.Qubits, .slice B1 r_3.Gates.length c1]] k_call_17 (c_spec_l6Op r_3 B1 c1 r_3.Gates.length _ rfl (hS6.inn0 [(false, 2)] rfl) hc2)) ?_
  rintro _ w_5 ⟨B2, c2, rfl, hd2⟩
  have hS7 := hS6.out0 hd2
  refine s0 (yT 1 3 (aD b1) 26 (gM_ r_4 B2 c2) (kM_ r_4 B2 c2) 0 hS7 K3) ?_
  rintro _ w_6 ⟨rfl, hS8⟩
  refine sQ 3 (yg (.bool true)) (rn (ct_ ?_))
  obtain ⟨rfl, rfl⟩ := pr2 (sI hF2)
  exact ret2 Tryz.results5 (v1 := gM_ r_4 B2 c2) (resAt_cellA (B := aD b1) (i := 0) (cs := kM_ r_4 B2 c2) (vs := kM_ r_4 B2 c2) rfl K8 K3 (hS8.c 1) rfl rfl) (v2 := .bool true) (resAt_tmp rfl) ⟨B2, c2, rfl, (hS8.sN [3])⟩

theorem c_spec_EqualMatrices (a : TMatrix) (b : TMatrix) (B : Option Addr) (c n : Nat) (B1 : Option Addr) (c1 n1 : Nat) (w0 : World) (hn : a.Cells.length = n) (hn1 : b.Cells.length = n1) (hS : ST w0 [] w0 [] [⟨B, (a.Cells.flatMap eN0)⟩, ⟨B1, (b.Cells.flatMap eN0)⟩]) {r_ : Bool} (hF : F_spec_EqualMatrices a b = some r_) :
  CV Tryz.prog 7 #[.agg #[vi a.Rows, vi a.Cols, .slice B n c], .agg #[vi b.Rows, vi b.Cols, .slice B1 n1 c1]] w0 (fun v w' => v = .bool r_ ∧ ST w0 [] w' [] []) := by
 subst hn
 subst hn1
 unfold F_spec_EqualMatrices at hF
 refine cv_of_cw 45 Tryz.func7 rfl Tryz.ntmps7 rfl ?_
 refine cq (cr ?_)
 refine sS 2 (yB 26 (gM_ a B c) (kM_ a B c) 3 hS) ?_
 rintro _ w_ ⟨b1, rfl, hS1⟩
 refine sS 3 (yB 26 (gM_ b B1 c1) (kM_ b B1 c1) 3 hS1) ?_
 rintro _ w_1 ⟨b2, rfl, hS2⟩
 refine sQ 4 (yg (.bool false)) (rn (cq (cq (cr ?_))))
 refine sQ 6 (yd (aD b1) 0 0 K43 K2) <| sQ 7 (yl (aD b1) 0 (kM_ a B c) (vi a.Rows) K0 (hS2.c 0)) <| sQ 8 (yd (aD b2) 0 0 K43 K2) <| sQ 9 (yl (aD b2) 0 (kM_ b B1 c1) (vi b.Rows) K0 (hS2.c 1)) <| sQ 10 (Y_ne (k := .i64) (a := a.Rows) (b := b.Rows) rfl rfl rfl) <| sQ 11 (ym (.bool (a.Rows != b.Rows))) ?_
 refine sgq 12 (B := (!(a.Rows != b.Rows))) (v := pt (aD b1) 1) rfl rfl (uF_ 11) (fun hg => (yd (aD b1) 0 0 K34 K2)) ?_
 refine sgq 13 (B := (!(a.Rows != b.Rows))) (v := vi a.Cols) rfl rfl (uF_ 11) (fun hg1 => (yl (aD b1) 1 (kM_ a B c) (vi a.Cols) K0 (hS2.c 0) rfl (gv_of (v := pt (aD b1) 1) hg1))) ?_
 refine sgq 14 (B := (!(a.Rows != b.Rows))) (v := pt (aD b2) 1) rfl rfl (uF_ 11) (fun hg2 => (yd (aD b2) 0 0 K34 K2)) ?_
 refine sgq 15 (B := (!(a.Rows != b.Rows))) (v := vi b.Cols) rfl rfl (uF_ 11) (fun hg3 => (yl (aD b2) 1 (kM_ b B1 c1) (vi b.Cols) K0 (hS2.c 1) rfl (gv_of (v := pt (aD b2) 1) hg3))) ?_
 refine sgq 16 (B := (!(a.Rows != b.Rows))) (v := .bool (a.Cols != b.Cols)) rfl rfl (uF_ 11) (fun hg4 => (Y_ne (k := .i64) (a := a.Cols) (b := b.Cols) rfl (gv_of (v := vi a.Cols) hg4) (gv_of (v := vi b.Cols) hg4))) ?_
 refine sQ 17 (Y_or (b := (a.Rows != b.Rows)) (z := (a.Cols != b.Cols)) rfl rfl rfl rfl) <| sQ 18 (ym (.bool ((a.Rows != b.Rows) || (a.Cols != b.Cols)))) ?_
 refine sgq 19 (B := (!((a.Rows != b.Rows) || (a.Cols != b.Cols)))) (v := pt (aD b1) 2) rfl rfl (uF_ 18) (fun hg5 => (yd (aD b1) 0 0 K29 K11)) ?_
 refine sgq 20 (B := (!((a.Rows != b.Rows) || (a.Cols != b.Cols)))) (v := .slice B a.Cells.length c) rfl rfl (uF_ 18) (fun hg6 => (yl (aD b1) 2 (kM_ a B c) (.slice B a.Cells.length c) K16 (hS2.c 0) rfl (gv_of (v := pt (aD b1) 2) hg6))) ?_
 refine sgq 21 (B := (!((a.Rows != b.Rows) || (a.Cols != b.Cols)))) (v := vi (a.Cells.length : Int)) rfl rfl (uF_ 18) (fun hg7 => (Y_len (B := B) (m := a.Cells.length) (c := c) K9 rfl (gv_of (v := .slice B a.Cells.length c) hg7))) ?_
 refine sgq 22 (B := (!((a.Rows != b.Rows) || (a.Cols != b.Cols)))) (v := pt (aD b2) 2) rfl rfl (uF_ 18) (fun hg8 => (yd (aD b2) 0 0 K29 K11)) ?_
 refine sgq 23 (B := (!((a.Rows != b.Rows) || (a.Cols != b.Cols)))) (v := .slice B1 b.Cells.length c1) rfl rfl (uF_ 18) (fun hg9 => (yl (aD b2) 2 (kM_ b B1 c1) (.slice B1 b.Cells.length c1) K16 (hS2.c 1) rfl (gv_of (v := pt (aD b2) 2) hg9))) ?_
 refine sgq 24 (B := (!((a.Rows != b.Rows) || (a.Cols != b.Cols)))) (v := vi (b.Cells.length : Int)) rfl rfl (uF_ 18) (fun hg10 => (Y_len (B := B1) (m := b.Cells.length) (c := c1) K9 rfl (gv_of (v := .slice B1 b.Cells.length c1) hg10))) ?_
 refine sgq 25 (B := (!((a.Rows != b.Rows) || (a.Cols != b.Cols)))) (v := .bool ((a.Cells.length : Int) != (b.Cells.length : Int))) rfl rfl (uF_ 18) (fun hg11 => (Y_ne (k := .i64) (a := (a.Cells.length : Int)) (b := (b.Cells.length : Int)) rfl (gv_of (v := vi (a.Cells.length : Int)) hg11) (gv_of (v := vi (b.Cells.length : Int)) hg11))) ?_
 refine sQ 26 (Y_or (b := ((a.Rows != b.Rows) || (a.Cols != b.Cols))) (z := ((a.Cells.length : Int) != (b.Cells.length : Int))) rfl rfl rfl rfl) (rn ?_)
 refine cw_cond (b := (((a.Rows != b.Rows) || (a.Cols != b.Cols)) || ((a.Cells.length : Int) != (b.Cells.length : Int)))) rfl (fun hb => ?_) (fun hb => ?_)
 ·skip
  have hF1 := ct hF hb
  refine cq (cr ?_)
  refine sQ 4 (yg (.bool false)) (rn (ct_ ?_))
  obtain rfl := sI hF1
  exact ret1 Tryz.results7 (v1 := .bool false) (resAt_tmp rfl) ⟨rfl, (hS2.sN [])⟩
 ·skip
  have hF2 := cf' hF hb
  refine cw_skip (cq (cq (cr ?_)))
  refine sQ 27 (yd (aD b1) 0 0 K29 K11) <| sQ 28 (yl (aD b1) 2 (kM_ a B c) (.slice B a.Cells.length c) K16 (hS2.c 0)) <| sQ 29 (Y_len (B := B) (m := a.Cells.length) (c := c) K9 rfl rfl) <| sQ 30 (ym (vi 0)) (rn ?_)
  obtain ⟨hN, hF2⟩ := chk_inv hF2
  obtain ⟨z, hz, hF3⟩ := bI hF2
  refine cw_block ?_
  refine cw_loop (fun k f w => ∃ (i : Nat), FF f [(2, pt (aD b1) 0), (3, pt (aD b2) 0), (29, vi (a.Cells.length : Int)), (30, vi (i : Int))] ∧ ST w0 [] w [⟨aD b1, 26, kM_ a B c, 3⟩, ⟨aD b2, 26, kM_ b B1 c1, 3⟩] [⟨B, (a.Cells.flatMap eN0)⟩, ⟨B1, (b.Cells.flatMap eN0)⟩] ∧ i + k = a.Cells.length ∧ forX (F_spec_EqualMatrices_l1 a b) k i () = some z) a.Cells.length ⟨0, (fc rfl (fc rfl (fc rfl (fc rfl fn_)))), (hS2.sel [0, 1] rfl rfl), Nat.zero_add _, hz⟩ ?_
  rintro k_ f w ⟨i, hf, hS3, hik, hL⟩
  refine cq (cr ?_)
  refine sQ 31 (yL (i : Int) (a.Cells.length : Int) rfl (hf.g 30 3) (hf.g 29 2)) (rn (cq ?_))
  refine cw_cond (b := (decide ((i : Int) < (a.Cells.length : Int)))) rfl (fun hlt => ?_) (fun hlt => ?_)
  ·skip
   have hlt1 : i < a.Cells.length := by have h := of_decide_eq_true hlt; omega
   obtain ⟨K7, rfl⟩ : ∃ k2, k_ = k2 + 1 := ⟨k_ - 1, by omega⟩
   obtain ⟨y, hb1, hL1⟩ := forX_go hL
   unfold F_spec_EqualMatrices_l1 at hb1
   refine cw_skip (cq (cw_block (cq (cr ?_))))
   refine sQ 32 (ym (vi (i : Int)) rfl (hf.g 30 3)) <| sQ 5 (yg (vi (i : Int))) (rn (cq ?_))
   obtain ⟨x, hx, hb1⟩ := bI hb1
   obtain ⟨x1, hx1, hb1⟩ := bI hb1
   refine ra_start (hS3.se [0, 1]).fn (by kernel_rfl) ?_
   have hS4 := hS3.drew
   refine rq 0 33 (v := pt (aD b1) 2) rfl (hS4.se [0, 1]) (fun w' hw' => (yd (aD b1) 0 0 K29 K11 rfl (hf.g 2 0))) ?_
   refine rq 1 34 (v := .slice B a.Cells.length c) rfl (hS4.se [0, 1]) (fun w' hw' => (yl (aD b1) 2 (kM_ a B c) (.slice B a.Cells.length c) K16 (ST.cf hw' (i := 0) rfl))) ?_
   refine rq 2 35 (v := vi (i : Int)) rfl (hS4.se [0, 1]) (fun w' hw' => (ym (vi (i : Int)))) ?_
   refine rq 3 36 (v := pt B ((i : Int).toNat * 5)) rfl (hS4.se [0, 1]) (fun w' hw' => (Y_index (B := B) (m := a.Cells.length) (c := c) (k := .i64) (i := (i : Int)) K9 K1 rfl rfl rfl (gi_isSome eN2 rfl (ST.rf hw' (i := 0) rfl) hx) (getI_nn hx) (getI_ltI hx rfl))) ?_
   refine rq 4 37 (v := gD_ x) rfl (hS4.se [0, 1]) (fun w' hw' => (ya B ((i : Int).toNat * 5) (a.Cells.flatMap eN0) (kD_ x) K4 K1 (ST.rf hw' (i := 0) rfl) rfl rfl (eN2 x) (gi_seg eN2 hx))) ?_
   refine rq 5 38 (v := pt (aD b2) 2) rfl (hS4.se [0, 1]) (fun w' hw' => (yd (aD b2) 0 0 K29 K11 rfl (hf.g 3 1))) ?_
   refine rq 6 39 (v := .slice B1 b.Cells.length c1) rfl (hS4.se [0, 1]) (fun w' hw' => (yl (aD b2) 2 (kM_ b B1 c1) (.slice B1 b.Cells.length c1) K16 (ST.cf hw' (i := 1) rfl))) ?_
   refine rq 7 40 (v := vi (i : Int)) rfl (hS4.se [0, 1]) (fun w' hw' => (ym (vi (i : Int)))) ?_
   refine rq 8 41 (v := pt B1 ((i : Int).toNat * 5)) rfl (hS4.se [0, 1]) (fun w' hw' => (Y_index (B := B1) (m := b.Cells.length) (c := c1) (k := .i64) (i := (i : Int)) K9 K1 rfl rfl rfl (gi_isSome eN2 rfl (ST.rf hw' (i := 1) rfl) hx1) (getI_nn hx1) (getI_ltI hx1 rfl))) ?_
   refine rq 9 42 (v := gD_ x1) rfl (hS4.se [0, 1]) (fun w' hw' => (ya B1 ((i : Int).toNat * 5) (b.Cells.flatMap eN0) (kD_ x1) K4 K1 (ST.rf hw' (i := 1) rfl) rfl rfl (eN2 x1) (gi_seg eN2 hx1))) ?_
   refine ra_q 10 43 (v := .bool (!(((x.Num.A == x1.Num.A) && ((x.Num.B == x1.Num.B) && ((x.Num.C == x1.Num.C) && ((x.Num.D == x1.Num.D) && true)))) && ((x.Exp == x1.Exp) && true)))) rfl rfl rfl (by kernel_rfl) (by kernel_rfl) (by kernel_rfl) (hS4.se [0, 1]) (fun w' hw' => (Y_neA (xs := #[vi x.Num.A, vi x.Num.B, vi x.Num.C, vi x.Num.D, vi x.Exp]) (ys := #[vi x1.Num.A, vi x1.Num.B, vi x1.Num.C, vi x1.Num.D, vi x1.Exp]) (b := (((x.Num.A == x1.Num.A) && ((x.Num.B == x1.Num.B) && ((x.Num.C == x1.Num.C) && ((x.Num.D == x1.Num.D) && true)))) && ((x.Exp == x1.Exp) && true))) K100 rfl rfl rfl (eqr_struct (xs := kD_ x) (ys := kD_ x1) K101 K102 (pts_ag (us := kR_ x.Num) (vs := kR_ x1.Num) K10 K5 rfl rfl (eqr_struct (xs := kR_ x.Num) (ys := kR_ x1.Num) K103 K104 (pts_sc K0 rfl rfl (eqr_int K23) (pts_sc K0 rfl rfl (eqr_int K23) (pts_sc K0 rfl rfl (eqr_int K23) (pts_sc K0 rfl rfl (eqr_int K23) pts_nil))))) (pts_sc K0 rfl rfl (eqr_int K23) pts_nil))))) ?_
   refine ra_done (by kernel_rfl) ?_
   refine cw_cond (b := (!(((x.Num.A == x1.Num.A) && ((x.Num.B == x1.Num.B) && ((x.Num.C == x1.Num.C) && ((x.Num.D == x1.Num.D) && true)))) && ((x.Exp == x1.Exp) && true)))) rfl (fun hb2 => ?_) (fun hb2 => ?_)
   ·skip
    have hF4 := ct hb1 hb2
    refine cq (cr ?_)
    refine sQ 4 (yg (.bool false)) (rn (ct_ ?_))
    obtain rfl := sI hF4
    obtain rfl := sI hL1
    obtain rfl := sI hF3
    exact ret1 Tryz.results7 (v1 := .bool false) (resAt_tmp rfl) ⟨rfl, (hS4.sN [])⟩
   ·skip
    have hF5 := cf' hb1 hb2
    refine cw_skip (cr ?_)
    refine sQ 44 (yP (i : Int) 1 rfl (hf.g 30 3)) <| sQ 30 (ym (vi (i64.wrap ((i : Int) + 1)))) (rn ?_)
    obtain rfl := sI hF5
    exact ⟨K7, Nat.lt_succ_self _, i + 1, (fc (hf.g 2 0) (fc (hf.g 3 1) (fc (hf.g 29 2) (fc (congrArg (Value.int .i64) (wr_succ hlt1 hN)) fn_)))), (hS4.sel [0, 1] rfl rfl), (by omega), hL1⟩
  ·skip
   obtain rfl : k_ = 0 := by have h := of_decide_eq_false hlt; omega
   refine cw_exit rfl ?_
   obtain rfl := sI hL
   refine cq (cr ?_)
   refine sQ 4 (yg (.bool true)) (rn (ct_ ?_))
   obtain rfl := sI hF3
   exact ret1 Tryz.results7 (v1 := .bool true) (resAt_tmp rfl) ⟨rfl, (hS3.sN [])⟩

theorem c_impl_blochExp (b : TBloch) (B : Option Addr) (c n : Nat) (w0 : World) (hn : b.Cells.length = n) (hS : ST w0 [] w0 [] [⟨B, (b.Cells.flatMap eN0)⟩]) {r_ : Int} (hF : F_impl_blochExp b = some r_) :
  CV Tryz.prog 21 #[.agg #[.slice B n c]] w0 (fun v w' => v = vi r_ ∧ ST w0 [] w' [] []) := by
 subst hn
 unfold F_impl_blochExp at hF
 refine cv_of_cw 19 Tryz.func21 rfl Tryz.ntmps21 rfl ?_
 refine cq (cr ?_)
 refine sS 1 (yB 54 (gB_ b B c) (kB_ b B c) 1 hS) ?_
 rintro _ w_ ⟨b1, rfl, hS1⟩
 refine sQ 2 (yg (vi 0)) (rn (cq (cr ?_)))
 refine sQ 3 (yg (vi 0)) (rn (cq (cq (cr ?_))))
 refine sQ 6 (yd (aD b1) 0 0 K40 K11) <| sQ 7 (yl (aD b1) 0 (kB_ b B c) (.slice B b.Cells.length c) K16 (hS1.c 0)) <| sQ 8 (Y_len (B := B) (m := b.Cells.length) (c := c) K9 rfl rfl) <| sQ 9 (ym (vi 0)) (rn ?_)
 obtain ⟨hN, hF⟩ := chk_inv hF
 obtain ⟨z, hz, hF1⟩ := bI hF
 refine cw_block ?_
 refine cw_loop (fun k f w => ∃ (i : Nat) (most : Int), FF f [(3, vi most), (7, .slice B b.Cells.length c), (8, vi (b.Cells.length : Int)), (9, vi (i : Int))] ∧ ST w0 [] w [] [⟨B, (b.Cells.flatMap eN0)⟩] ∧ i + k = b.Cells.length ∧ forN (F_impl_blochExp_l1 b) k i most = some z) b.Cells.length ⟨0, 0, (fc rfl (fc rfl (fc rfl (fc rfl fn_)))), (hS1.sel [] rfl rfl), Nat.zero_add _, hz⟩ ?_
 rintro k_ f w ⟨i, most, hf, hS2, hik, hL⟩
 refine cq (cr ?_)
 refine sQ 10 (yL (i : Int) (b.Cells.length : Int) rfl (hf.g 9 3) (hf.g 8 2)) (rn (cq ?_))
 refine cw_cond (b := (decide ((i : Int) < (b.Cells.length : Int)))) rfl (fun hlt => ?_) (fun hlt => ?_)
 ·skip
  have hlt1 : i < b.Cells.length := by have h := of_decide_eq_true hlt; omega
  obtain ⟨K7, rfl⟩ : ∃ k2, k_ = k2 + 1 := ⟨k_ - 1, by omega⟩
  obtain ⟨y, hb, hL1⟩ := forN_go hL
  unfold F_impl_blochExp_l1 at hb
  refine cw_skip (cq (cw_block (cq (cr ?_))))
  obtain ⟨x, hx, hb⟩ := bI hb
  refine sQ 11 (Y_index (B := B) (m := b.Cells.length) (c := c) (k := .i64) (i := (i : Int)) K9 K1 rfl (hf.g 7 1) (hf.g 9 3) (gi_isSome eN2 rfl (hS2.rf (i := 0) rfl) hx) (getI_nn hx) (getI_ltI hx rfl)) <| sQ 12 (ya B ((i : Int).toNat * 5) (b.Cells.flatMap eN0) (kD_ x) K4 K1 (hS2.rf (i := 0) rfl) rfl rfl (eN2 x) (gi_seg eN2 hx)) ?_
  refine sS 5 (yN kZ_ 5 hS2 K6) ?_
  rintro _ w_1 ⟨b2, rfl, hS3⟩
  refine s0 (yT 0 5 (aD b2) 48 (gD_ x) (kD_ x) 0 hS3 K1) ?_
  rintro _ w_2 ⟨rfl, hS4⟩
  refine rn (cr ?_)
  refine sQ 13 (ym (vi most) rfl (hf.g 3 0)) <| sQ 14 (yd (aD b2) 0 0 K35 K2) <| sQ 15 (yl (aD b2) 4 (kD_ x) (vi x.Exp) K0 (hS4.c 0)) <| sQ 16 (Y_max2 (k := .i64) (a := most) (b := x.Exp) rfl rfl rfl) <| sQ 3 (yg (vi (if most < x.Exp then x.Exp else most))) (rn (cr ?_))
  refine sQ 17 (yP (i : Int) 1 rfl (hf.g 9 3)) <| sQ 9 (ym (vi (i64.wrap ((i : Int) + 1)))) (rn ?_)
  obtain rfl := sI hb
  exact ⟨K7, Nat.lt_succ_self _, i + 1, (if most < x.Exp then x.Exp else most), (fc rfl (fc (hf.g 7 1) (fc (hf.g 8 2) (fc (congrArg (Value.int .i64) (wr_succ hlt1 hN)) fn_)))), (hS4.sel [] rfl rfl), (by omega), hL1⟩
 ·skip
  obtain rfl : k_ = 0 := by have h := of_decide_eq_false hlt; omega
  refine cw_exit rfl ?_
  obtain rfl := sI hL
  refine cq (cr ?_)
  refine sQ 18 (ym (vi most) rfl (hf.g 3 0)) <| sQ 2 (yg (vi most)) (rn (ct_ ?_))
  obtain rfl := sI hF1
  exact ret1 Tryz.results21 (v1 := vi most) (resAt_tmp rfl) ⟨rfl, (hS2.sN [])⟩

theorem c_impl_transposed (a : List TDyadic) (B : Option Addr) (c n : Nat) (w0 : World) (hn : a.length = n) (hS : ST w0 [] w0 [] [⟨B, (a.flatMap eN0)⟩]) {r_ : List TDyadic} (hF : F_impl_transposed a = some r_) :
  CV Tryz.prog 49 #[.slice B n c] w0 (fun v w' => ∃ (B1 : Option Addr) (c1 : Nat), v = .slice B1 r_.length c1 ∧ ST w0 [] w' [⟨B1, 48, (r_.flatMap eN0), c1 * 5⟩] []) := by
 subst hn
 unfold F_impl_transposed at hF
 refine cv_of_cw 26 Tryz.func49 rfl Tryz.ntmps49 rfl ?_
 refine cq (cr ?_)
 refine sQ 2 (yg (.slice none 0 0)) (rn (cq (cr ?_)))
 refine sS 6 (Ys_bslice0 (s := 5) (e := 48) hS K9 K1 rfl) ?_
 rintro _ w_ ⟨b, rfl, hS1⟩
 refine sQ 3 (yg (.slice (aD b) 0 0)) (rn (cq (cq (cr ?_))))
 refine sQ 7 (ym (vi 0)) (rn ?_)
 obtain ⟨z, hz, hF1⟩ := bI hF
 refine cw_block ?_
 refine cw_loop (fun k f w => ∃ (i : Nat) (out : List TDyadic) (B2 : Option Addr) (c2 : Nat), FF f [(0, .slice B a.length c), (3, .slice B2 out.length c2), (7, vi (i : Int))] ∧ ST w0 [] w [⟨B2, 48, (out.flatMap eN0), c2 * 5⟩] [⟨B, (a.flatMap eN0)⟩] ∧ i + k = 3 ∧ forN (F_impl_transposed_l1 a) k i out = some z) 3 ⟨0, [], aD b, 0, (fc rfl (fc rfl (fc rfl fn_))), (hS1.sel [0] rfl rfl), Nat.zero_add _, hz⟩ ?_
 rintro k_ f w ⟨i, out, B2, c2, hf, hS2, hik, hL⟩
 refine cq (cr ?_)
 refine sQ 8 (yL (i : Int) 3 rfl (hf.g 7 2)) (rn (cq ?_))
 refine cw_cond (b := (decide ((i : Int) < 3))) rfl (fun hlt => ?_) (fun hlt => ?_)
 ·skip
  have hlt1 : i < 3 := by have h := of_decide_eq_true hlt; omega
  obtain ⟨K7, rfl⟩ : ∃ k2, k_ = k2 + 1 := ⟨k_ - 1, by omega⟩
  obtain ⟨y, hb, hL1⟩ := forN_go hL
  unfold F_impl_transposed_l1 at hb
  refine cw_skip (cq (cw_block (cq (cr ?_))))
  refine sQ 9 (ym (vi (i : Int)) rfl (hf.g 7 2)) <| sQ 4 (yg (vi (i : Int))) (rn (cq (cr ?_)))
  refine sQ 10 (ym (vi 0)) (rn ?_)
  obtain ⟨z1, hz1, hF2⟩ := bI hb
  refine cw_block ?_
  refine cw_loop (fun k f w => ∃ (i1 : Nat) (out1 : List TDyadic) (B3 : Option Addr) (c3 : Nat), FF f [(0, .slice B a.length c), (3, .slice B3 out1.length c3), (4, vi (i : Int)), (7, vi (i : Int)), (10, vi (i1 : Int))] ∧ ST w0 [] w [⟨B3, 48, (out1.flatMap eN0), c3 * 5⟩] [⟨B, (a.flatMap eN0)⟩] ∧ i1 + k = 3 ∧ forN (F_impl_transposed_l2 a i) k i1 out1 = some z1) 3 ⟨0, out, B2, c2, (fc (hf.g 0 0) (fc (hf.g 3 1) (fc rfl (fc (hf.g 7 2) (fc rfl fn_))))), (hS2.sel [0] rfl rfl), Nat.zero_add _, hz1⟩ ?_
  rintro K15 f w ⟨i1, out1, B3, c3, hf1, hS3, hik1, hL2⟩
  refine cq (cr ?_)
  refine sQ 11 (yL (i1 : Int) 3 rfl (hf1.g 10 4)) (rn (cq ?_))
  refine cw_cond (b := (decide ((i1 : Int) < 3))) rfl (fun hlt2 => ?_) (fun hlt2 => ?_)
  ·skip
   have hlt3 : i1 < 3 := by have h := of_decide_eq_true hlt2; omega
   obtain ⟨K28, rfl⟩ : ∃ k2, K15 = k2 + 1 := ⟨K15 - 1, by omega⟩
   obtain ⟨y1, hb1, hL3⟩ := forN_go hL2
   unfold F_impl_transposed_l2 at hb1
   refine cw_skip (cq (cw_block (cq (cr ?_))))
   refine sQ 12 (ym (vi (i1 : Int)) rfl (hf1.g 10 4)) <| sQ 5 (yg (vi (i1 : Int))) (rn (cr ?_))
   refine sQ 13 (ym (.slice B3 out1.length c3) rfl (hf1.g 3 1)) <| sQ 14 (ym (.slice B a.length c) rfl (hf1.g 0 0)) <| sQ 15 (ym (vi (i1 : Int))) <| sQ 16 (yX 3 (i1 : Int)) <| sQ 17 (ym (vi (i : Int)) rfl (hf1.g 4 2)) <| sQ 18 (yP (i64.wrap (3 * (i1 : Int))) (i : Int)) ?_
   obtain ⟨x, hx, hb1⟩ := bI hb1
   refine sQ 19 (Y_index (B := B) (m := a.length) (c := c) (k := .i64) (i := (i64.wrap ((i64.wrap (3 * (i1 : Int))) + (i : Int)))) K9 K1 rfl rfl rfl (gi_isSome eN2 rfl (hS3.rf (i := 0) rfl) hx) (getI_nn hx) (getI_ltI hx rfl)) <| sQ 20 (ya B ((i64.wrap ((i64.wrap (3 * (i1 : Int))) + (i : Int))).toNat * 5) (a.flatMap eN0) (kD_ x) K4 K1 (hS3.rf (i := 0) rfl) rfl rfl (eN2 x) (gi_seg eN2 hx)) ?_
   refine sS 21 (Ys_bslice (s := 5) (len := 1) (vs := [(0, gD_ x)]) (cs := kD_ x) (zs := kZ_) (m := 5) hS3 K9 K1 K38 rfl (mpc rfl mpn) rfl rfl rfl (by kernel_rfl) (by kernel_rfl) rfl) ?_
   rintro _ w_1 ⟨b1, rfl, hS4⟩
   obtain ⟨hap, hb1⟩ := chk_inv hb1
   refine sS 22 (Ys_append (s := 5) (by' := 40) (i := 0) (nn := out1.length) (c := c3) (k := 1) (len := (out1 ++ [x]).length) (B := B3) (xs := ([x].flatMap eN0)) (cs' := ((out1 ++ [x]).flatMap eN0)) hS4 K9 K1 K47 K6 rfl (by decide) rfl rfl rfl rfl (fm_lenn (l := out1) eN2 rfl) rfl (hS4.c 1) (fm_lenn (l := [x]) eN2 rfl) (fm_one' (enc := eN0) enc_Dyadic_one [x]) (by have := hap; omega) (by have := hap; simp only [maxLen]; omega) (fm_app _ _) (app_len (l := out1) (l' := [x]) rfl rfl)) ?_
   rintro _ w_2 ⟨B4, c4, rfl, hS5⟩
   refine sQ 3 (yg (.slice B4 ((out1 ++ [x]).length) c4)) (rn (cr ?_))
   refine sQ 23 (yP (i1 : Int) 1 rfl (hf1.g 10 4)) <| sQ 10 (ym (vi (i64.wrap ((i1 : Int) + 1)))) (rn ?_)
   obtain rfl := sI hb1
   exact ⟨K28, Nat.lt_succ_self _, i1 + 1, (out1 ++ [x]), B4, c4, (fc (hf1.g 0 0) (fc rfl (fc (hf1.g 4 2) (fc (hf1.g 7 3) (fc (congrArg (Value.int .i64) (wr_succ hlt3 (show 3 ≤ 9223372036854775807 by decide))) fn_))))), (hS5.sel [0] rfl rfl), (by omega), hL3⟩
  ·skip
   obtain rfl : K15 = 0 := by have h := of_decide_eq_false hlt2; omega
   refine cw_exit rfl ?_
   obtain rfl := sI hL2
   refine cr ?_
   refine sQ 24 (yP (i : Int) 1 rfl (hf1.g 7 3)) <| sQ 7 (ym (vi (i64.wrap ((i : Int) + 1)))) (rn ?_)
   obtain rfl := sI hF2
   exact ⟨K7, Nat.lt_succ_self _, i + 1, out1, B3, c3, (fc (hf1.g 0 0) (fc (hf1.g 3 1) (fc (congrArg (Value.int .i64) (wr_succ hlt1 (show 3 ≤ 9223372036854775807 by decide))) fn_))), (hS3.sel [0] rfl rfl), (by omega), hL1⟩
 ·skip
  obtain rfl : k_ = 0 := by have h := of_decide_eq_false hlt; omega
  refine cw_exit rfl ?_
  obtain rfl := sI hL
  refine cq (cr ?_)
  refine sQ 25 (ym (.slice B2 out.length c2) rfl (hf.g 3 1)) <| sQ 2 (yg (.slice B2 out.length c2)) (rn (ct_ ?_))
  obtain rfl := sI hF1
  exact ret1 Tryz.results49 (v1 := .slice B2 out.length c2) (resAt_tmp rfl) ⟨B2, c2, rfl, (hS2.sN [0])⟩

theorem c_impl_blochOfGates (gates : List TGate) (B : Option Addr) (c n : Nat) (w0 : World) (hn : gates.length = n) (hS : ST w0 [] w0 [] [⟨B, (gates.flatMap eN4)⟩, ⟨(aD 0), [vi 1, vi 0, vi 0, vi 0, vi 2]⟩]) {r_ : List TDyadic} (hF : F_impl_blochOfGates gates = some r_) :
  CV Tryz.prog 50 #[.slice B n c] w0 (fun v w' => ∃ (B1 : Option Addr) (c1 : Nat), v = .slice B1 r_.length c1 ∧ ST w0 [] w' [⟨B1, 48, (r_.flatMap eN0), c1 * 5⟩] []) := by
 subst hn
 unfold F_impl_blochOfGates at hF
 refine cv_of_cw 20 Tryz.func50 rfl Tryz.ntmps50 rfl ?_
 refine cq (cr ?_)
 refine sQ 2 (yg (.slice none 0 0)) (rn (cq (cr ?_)))
 refine sQ 8 (ym (.slice B gates.length c)) <| sQ 9 (Y_buildS (zs := [vi 0, .slice none 0 0]) (vs := [(0, vi 1), (1, .slice B gates.length c)]) (cs := [vi 1, .slice B gates.length c]) K78 K55 rfl (mpc rfl (mpc rfl mpn)) rfl) ?_
 obtain ⟨⟨r_1, r_2⟩, hc, hF⟩ := bI hF
 refine sc 10 rfl rfl (yC [.agg #[vi 1, .slice B gates.length c]] k_call_12 (c_impl_OperatorOf (TCircuit.mk 1 gates) B c gates.length _ rfl (hS.inn0 [(true, 0)] rfl) hc)) ?_
 rintro _ w_ ⟨B2, c2, rfl, hd⟩
 have hS1 := hS.out0 hd
 refine sQ 7 (ym (.tuple #[gM_ r_1 B2 c2, .bool r_2])) <| sQ 11 (ye (gM_ r_1 B2 c2)) <| sQ 12 (ye (.bool r_2)) ?_
 refine sS 3 (yN kN_ 3 hS1 K12) ?_
 rintro _ w_1 ⟨b, rfl, hS2⟩
 refine s0 (yT 1 3 (aD b) 26 (gM_ r_1 B2 c2) (kM_ r_1 B2 c2) 0 hS2 K3) ?_
 rintro _ w_2 ⟨rfl, hS3⟩
 refine sQ 4 (yg (.bool r_2)) (rn (cq (cr ?_)))
 refine sQ 14 (yb (aD b) 0 (kM_ r_1 B2 c2) K8 K3 (hS3.c 1)) ?_
 obtain ⟨⟨r_3, r_4⟩, hc1, hF⟩ := bI hF
 refine sc 15 rfl rfl (yC [gM_ r_1 B2 c2] K112 (c_impl_BlochOf r_1 B2 c2 r_1.Cells.length _ rfl (hS3.inn0 [(false, 0), (true, 1)] rfl) hc1)) ?_
 rintro _ w_3 ⟨B3, c3, rfl, hd1⟩
 have hS4 := hS3.out0 hd1
 refine sQ 13 (ym (.tuple #[gB_ r_3 B3 c3, .bool r_4])) <| sQ 16 (ye (gB_ r_3 B3 c3)) <| sQ 17 (ye (.bool r_4)) ?_
 refine sS 5 (yN [.slice none 0 0] 1 hS4 K39) ?_
 rintro _ w_4 ⟨b1, rfl, hS5⟩
 refine s0 (yT 3 1 (aD b1) 54 (gB_ r_3 B3 c3) (kB_ r_3 B3 c3) 0 hS5 K26) ?_
 rintro _ w_5 ⟨rfl, hS6⟩
 refine sQ 6 (yg (.bool r_4)) (rn (cq (cr ?_)))
 refine sQ 18 (yd (aD b1) 0 0 K40 K11) <| sQ 19 (yl (aD b1) 0 (kB_ r_3 B3 c3) (.slice B3 r_3.Cells.length c3) K16 (hS6.c 3)) <| sQ 2 (yg (.slice B3 r_3.Cells.length c3)) (rn (ct_ ?_))
 obtain rfl := sI hF
 exact ret1 Tryz.results50 (v1 := .slice B3 r_3.Cells.length c3) (resAt_tmp rfl) ⟨B3, c3, rfl, (hS6.sN [2])⟩

theorem c_impl_stripped (cells : List TDyadic) (B : Option Addr) (c n : Nat) (w0 : World) (hn : cells.length = n) (hS : ST w0 [] w0 [] [⟨B, (cells.flatMap eN0)⟩, ⟨(aD 0), [vi 1, vi 0, vi 0, vi 0, vi 2]⟩]) {r_ : List UInt8} {r_1 : List TDyadic} {r_2 : Bool} (hF : F_impl_stripped cells = some (r_, r_1, r_2)) :
  CV Tryz.prog 22 #[.slice B n c] w0 (fun v w' => ∃ (B1 : Option Addr) (c1 : Nat), v = .tuple #[.string (bstr r_), .slice B1 r_1.length c1, .bool r_2] ∧ ST w0 [] w' [⟨B1, 48, (r_1.flatMap eN0), c1 * 5⟩] []) := by
 subst hn
 unfold F_impl_stripped at hF
 refine cv_of_cw 40 Tryz.func22 rfl Tryz.ntmps22 rfl ?_
 refine cq (cr ?_)
 refine sQ 2 (yg (.string (bstr ([] : List UInt8)))) <| sQ 3 (yg (.slice none 0 0)) <| sQ 4 (yg (.bool false)) (rn (cq (cq (cr ?_))))
 refine sQ 9 (ym (vi 0)) (rn ?_)
 obtain ⟨z, hz, hF1⟩ := bI hF
 refine cw_block ?_
 refine cw_loop (fun k f w => ∃ (i : Nat), FF f [(0, .slice B cells.length c), (9, vi (i : Int))] ∧ ST w0 [] w [] [⟨B, (cells.flatMap eN0)⟩, ⟨(aD 0), [vi 1, vi 0, vi 0, vi 0, vi 2]⟩] ∧ i + k = 3 ∧ forX (F_impl_stripped_l1 cells) k i () = some z) 3 ⟨0, (fc rfl (fc rfl fn_)), (hS.sel [] rfl rfl), Nat.zero_add _, hz⟩ ?_
 rintro k_ f w ⟨i, hf, hS1, hik, hL⟩
 refine cq (cr ?_)
 refine sQ 10 (yL (i : Int) 3 rfl (hf.g 9 1)) (rn (cq ?_))
 refine cw_cond (b := (decide ((i : Int) < 3))) rfl (fun hlt => ?_) (fun hlt => ?_)
 ·skip
  have hlt1 : i < 3 := by have h := of_decide_eq_true hlt; omega
  obtain ⟨K7, rfl⟩ : ∃ k2, k_ = k2 + 1 := ⟨k_ - 1, by omega⟩
  obtain ⟨y, hb, hL1⟩ := forX_go hL
  unfold F_impl_stripped_l1 at hb
  refine cw_skip (cq (cw_block (cq (cr ?_))))
  refine sQ 11 (ym (vi (i : Int)) rfl (hf.g 9 1)) <| sQ 5 (yg (vi (i : Int))) (rn (cq (cr ?_)))
  refine sQ 12 (ym (vi (i : Int))) <| sQ 13 (ym (vi (i : Int))) <| sQ 14 (yP (i : Int) 1) ?_
  obtain ⟨hss, hb⟩ := chk_inv hb
  refine sQ 15 (Y_sslice (a := ([84, 72, 83] : List UInt8)) (k := .i64) (k' := .i64) (l := (i : Int)) (h := (i64.wrap ((i : Int) + 1))) K42 rfl rfl rfl rfl hss) <| sQ 6 (yg (.string (bstr (List.drop (i : Int).toNat (List.take (i64.wrap ((i : Int) + 1)).toNat ([84, 72, 83] : List UInt8)))))) (rn (cq (cr ?_)))
  refine sQ 17 (ym (.string (bstr (List.drop (i : Int).toNat (List.take (i64.wrap ((i : Int) + 1)).toNat ([84, 72, 83] : List UInt8)))))) ?_
  obtain ⟨x, hx, hb⟩ := bI hb
  refine sQ 18 (Y_sidx (a := (List.drop (i : Int).toNat (List.take (i64.wrap ((i : Int) + 1)).toNat ([84, 72, 83] : List UInt8)))) (k := .i64) (i := 0) (b := x) K42 rfl rfl rfl hx) ?_
  obtain ⟨r_3, hc, hb⟩ := bI hb
  refine sc 19 rfl rfl (yC [.int .u8 (x.toNat : Int)] k_call_32 (c_impl_syllableGates (x.toNat : Int) _  (hS1.inn0 [] rfl) hc)) ?_
  rintro _ w_ ⟨B2, c2, rfl, hd⟩
  have hS2 := hS1.out0 hd
  obtain ⟨r_4, hc1, hb⟩ := bI hb
  refine sc 20 rfl rfl (yC [.slice B2 r_3.length c2] k_call_50 (c_impl_blochOfGates r_3 B2 c2 r_3.length _ rfl (hS2.inn0 [(false, 0), (true, 1)] rfl) hc1)) ?_
  rintro _ w_1 ⟨B3, c3, rfl, hd1⟩
  have hS3 := hS2.out0 hd1
  obtain ⟨r_5, hc2, hb⟩ := bI hb
  refine sc 21 rfl rfl (yC [.slice B3 r_4.length c3] k_call_49 (c_impl_transposed r_4 B3 c3 r_4.length _ rfl (hS3.inn0 [(false, 1)] rfl) hc2)) ?_
  rintro _ w_2 ⟨B4, c4, rfl, hd2⟩
  have hS4 := hS3.out0 hd2
  refine sQ 22 (ym (.slice B cells.length c) rfl (hf.g 0 0)) ?_
  obtain ⟨⟨r_6, r_7⟩, hc3, hb⟩ := bI hb
  refine sc 23 rfl rfl (yC [.slice B4 r_5.length c4, .slice B cells.length c] K124 (c_impl_mulBloch r_5 cells B4 c4 r_5.length B c cells.length _ rfl rfl (hS4.inn0 [(false, 2), (true, 0)] rfl) hc3)) ?_
  rintro _ w_3 ⟨B5, c5, rfl, hd3⟩
  have hS5 := hS4.out0 hd3
  refine sQ 16 (ym (.tuple #[.slice B5 r_6.length c5, .bool r_7])) <| sQ 24 (ye (.slice B5 r_6.length c5)) <| sQ 25 (ye (.bool r_7)) <| sQ 7 (yg (.slice B5 r_6.length c5)) <| sQ 8 (yg (.bool r_7)) (rn (cq (cr ?_)))
  refine sQ 26 (ym (.bool r_7)) <| sQ 27 (ym (.bool r_7)) ?_
  refine sgq 28 (B := r_7) (v := .slice B5 r_6.length c5) rfl rfl (uT_ 27) (fun hg => (ym (.slice B5 r_6.length c5))) ?_
  refine sgq 29 (B := r_7) (v := .agg #[.slice B5 r_6.length c5]) rfl rfl (uT_ 27) (fun hg1 => (Y_buildS (zs := [.slice none 0 0]) (vs := [(0, .slice B5 r_6.length c5)]) (cs := [.slice B5 r_6.length c5]) K70 K39 rfl (mpc (gv_of (v := .slice B5 r_6.length c5) hg1) mpn) rfl)) ?_
  obtain ⟨r_8, hc4, hb⟩ := bI hb
  refine sgc 30 (B := r_7) (v := vi r_8) (F := hS5.fn) rfl rfl (uT_ 27) hS5 (fun hg2 => (yC [.agg #[.slice B5 r_6.length c5]] K108 (CV.mono (c_impl_blochExp (TBloch.mk r_6) B5 c5 r_6.length _ rfl (hS5.inn0 [(false, 3)] rfl) (gb_inv hc4 hg2)) (by rintro _ _ ⟨rfl, h⟩; exact ⟨rfl, hS5.out00 h⟩)) rfl (mc (gv_of (v := .agg #[.slice B5 r_6.length c5]) hg2) mn))) ?_
  rintro w_4 hS6
  refine sgq 31 (B := r_7) (v := .slice B cells.length c) rfl rfl (uT_ 27) (fun hg3 => (ym (.slice B cells.length c) rfl (hf.g 0 0))) ?_
  refine sgq 32 (B := r_7) (v := .agg #[.slice B cells.length c]) rfl rfl (uT_ 27) (fun hg4 => (Y_buildS (zs := [.slice none 0 0]) (vs := [(0, .slice B cells.length c)]) (cs := [.slice B cells.length c]) K70 K39 rfl (mpc (gv_of (v := .slice B cells.length c) hg4) mpn) rfl)) ?_
  obtain ⟨r_9, hc5, hb⟩ := bI hb
  refine sgc 33 (B := r_7) (v := vi r_9) (F := hS6.fn) rfl rfl (uT_ 27) hS6 (fun hg5 => (yC [.agg #[.slice B cells.length c]] K108 (CV.mono (c_impl_blochExp (TBloch.mk cells) B c cells.length _ rfl (hS6.inn0 [(true, 0)] rfl) (gb_inv hc5 hg5)) (by rintro _ _ ⟨rfl, h⟩; exact ⟨rfl, hS6.out00 h⟩)) rfl (mc (gv_of (v := .agg #[.slice B cells.length c]) hg5) mn))) ?_
  rintro w_5 hS7
  refine sgq 34 (B := r_7) (v := vi (i64.wrap (r_9 - 1))) rfl rfl (uT_ 27) (fun hg6 => (yM r_9 1 rfl (gv_of (v := vi r_9) hg6))) ?_
  refine sgq 35 (B := r_7) (v := .bool (r_8 == (i64.wrap (r_9 - 1)))) rfl rfl (uT_ 27) (fun hg7 => (yE r_8 (i64.wrap (r_9 - 1)) rfl (gv_of (v := vi r_8) hg7) (gv_of (v := vi (i64.wrap (r_9 - 1))) hg7))) ?_
  refine sQ 36 (Y_and (b := r_7) (z := (r_8 == (i64.wrap (r_9 - 1)))) rfl rfl rfl rfl) (rn ?_)
  refine cw_cond (b := (r_7 && (r_8 == (i64.wrap (r_9 - 1))))) rfl (fun hb1 => ?_) (fun hb1 => ?_)
  ·skip
   have hF2 := ct hb hb1
   refine cq (cr ?_)
   refine sQ 37 (ym (.string (bstr (List.drop (i : Int).toNat (List.take (i64.wrap ((i : Int) + 1)).toNat ([84, 72, 83] : List UInt8)))))) <| sQ 38 (ym (.slice B5 r_6.length c5)) <| sQ 2 (yg (.string (bstr (List.drop (i : Int).toNat (List.take (i64.wrap ((i : Int) + 1)).toNat ([84, 72, 83] : List UInt8)))))) <| sQ 3 (yg (.slice B5 r_6.length c5)) <| sQ 4 (yg (.bool true)) (rn (ct_ ?_))
   obtain rfl := sI hF2
   obtain rfl := sI hL1
   obtain ⟨rfl, rfl, rfl⟩ := pr3 (sI hF1)
   exact ret3 Tryz.results22 (v1 := .string (bstr (List.drop (i : Int).toNat (List.take (i64.wrap ((i : Int) + 1)).toNat ([84, 72, 83] : List UInt8))))) (resAt_tmp rfl) (v2 := .slice B5 r_6.length c5) (resAt_tmp rfl) (v3 := .bool true) (resAt_tmp rfl) ⟨B5, c5, rfl, (hS7.sN [3])⟩
  ·skip
   have hF3 := cf' hb hb1
   refine cw_skip (cr ?_)
   refine sQ 39 (yP (i : Int) 1 rfl (hf.g 9 1)) <| sQ 9 (ym (vi (i64.wrap ((i : Int) + 1)))) (rn ?_)
   obtain rfl := sI hF3
   exact ⟨K7, Nat.lt_succ_self _, i + 1, (fc (hf.g 0 0) (fc (congrArg (Value.int .i64) (wr_succ hlt1 (show 3 ≤ 9223372036854775807 by decide))) fn_)), (hS7.sel [] rfl rfl), (by omega), hL1⟩
 ·skip
  obtain rfl : k_ = 0 := by have h := of_decide_eq_false hlt; omega
  refine cw_exit rfl ?_
  obtain rfl := sI hL
  refine cq (cr ?_)
  refine sQ 2 (yg (.string (bstr ([] : List UInt8)))) <| sQ 3 (yg (.slice none 0 0)) <| sQ 4 (yg (.bool false)) (rn (ct_ ?_))
  have hS8 := hS1.addNil 48
  obtain ⟨rfl, rfl, rfl⟩ := pr3 (sI hF1)
  exact ret3 Tryz.results22 (v1 := .string (bstr ([] : List UInt8))) (resAt_tmp rfl) (v2 := .slice none 0 0) (resAt_tmp rfl) (v3 := .bool false) (resAt_tmp rfl) ⟨none, 0, rfl, (hS8.sN [0])⟩

theorem c_impl_isReal (x : TDyadic)  (w0 : World)  (hS : ST w0 [] w0 [] []) {r_ : Bool} (hF : F_impl_isReal x = some r_) :
  CV Tryz.prog 82 #[gD_ x] w0 (fun v w' => v = .bool r_ ∧ ST w0 [] w' [] []) := by
 unfold F_impl_isReal at hF
 refine cv_of_cw 21 Tryz.func82 rfl Tryz.ntmps82 rfl ?_
 refine cq (cr ?_)
 refine sS 1 (yB 48 (gD_ x) (kD_ x) 5 hS) ?_
 rintro _ w_ ⟨b, rfl, hS1⟩
 refine sQ 2 (yg (.bool false)) (rn (cq (cr ?_)))
 refine sQ 3 (yb (aD b) 0 (kD_ x) K4 K1 (hS1.c 0)) ?_
 obtain ⟨r_1, hc, hF⟩ := bI hF
 refine sc 4 rfl rfl (yC [gD_ x] K69 (c_impl_IsValidDyadic x _  (hS1.inn0 [] rfl) hc)) ?_
 rintro _ w_1 ⟨rfl, hd⟩
 have hS2 := hS1.out00 hd
 refine sQ 5 (ym (.bool r_1)) ?_
 refine sgq 6 (B := r_1) (v := pt (aD b) 0) rfl rfl (uT_ 5) (fun hg => (yd (aD b) 0 3 K45 K5)) ?_
 refine sgq 7 (B := r_1) (v := pt (aD b) 2) rfl rfl (uT_ 5) (fun hg1 => (yd (aD b) 0 0 K21 K2 rfl (gv_of (v := pt (aD b) 0) hg1))) ?_
 refine sgq 8 (B := r_1) (v := vi x.Num.C) rfl rfl (uT_ 5) (fun hg2 => (yl (aD b) 2 (kD_ x) (vi x.Num.C) K0 (hS2.c 0) rfl (gv_of (v := pt (aD b) 2) hg2))) ?_
 refine sgq 9 (B := r_1) (v := .bool (x.Num.C == 0)) rfl rfl (uT_ 5) (fun hg3 => (yE x.Num.C 0 rfl (gv_of (v := vi x.Num.C) hg3))) ?_
 refine sQ 10 (Y_and (b := r_1) (z := (x.Num.C == 0)) rfl rfl rfl rfl) <| sQ 11 (ym (.bool (r_1 && (x.Num.C == 0)))) ?_
 refine sgq 12 (B := (r_1 && (x.Num.C == 0))) (v := pt (aD b) 0) rfl rfl (uT_ 11) (fun hg4 => (yd (aD b) 0 3 K45 K5)) ?_
 refine sgq 13 (B := (r_1 && (x.Num.C == 0))) (v := pt (aD b) 3) rfl rfl (uT_ 11) (fun hg5 => (yd (aD b) 0 0 K22 K2 rfl (gv_of (v := pt (aD b) 0) hg5))) ?_
 refine sgq 14 (B := (r_1 && (x.Num.C == 0))) (v := vi x.Num.D) rfl rfl (uT_ 11) (fun hg6 => (yl (aD b) 3 (kD_ x) (vi x.Num.D) K0 (hS2.c 0) rfl (gv_of (v := pt (aD b) 3) hg6))) ?_
 refine sgq 15 (B := (r_1 && (x.Num.C == 0))) (v := pt (aD b) 0) rfl rfl (uT_ 11) (fun hg7 => (yd (aD b) 0 3 K45 K5)) ?_
 refine sgq 16 (B := (r_1 && (x.Num.C == 0))) (v := pt (aD b) 1) rfl rfl (uT_ 11) (fun hg8 => (yd (aD b) 0 0 K20 K2 rfl (gv_of (v := pt (aD b) 0) hg8))) ?_
 refine sgq 17 (B := (r_1 && (x.Num.C == 0))) (v := vi x.Num.B) rfl rfl (uT_ 11) (fun hg9 => (yl (aD b) 1 (kD_ x) (vi x.Num.B) K0 (hS2.c 0) rfl (gv_of (v := pt (aD b) 1) hg9))) ?_
 refine sgq 18 (B := (r_1 && (x.Num.C == 0))) (v := vi (i64.wrap (-x.Num.B))) rfl rfl (uT_ 11) (fun hg10 => (Y_neg (k := .i64) (a := x.Num.B) rfl (gv_of (v := vi x.Num.B) hg10))) ?_
 refine sgq 19 (B := (r_1 && (x.Num.C == 0))) (v := .bool (x.Num.D == (i64.wrap (-x.Num.B)))) rfl rfl (uT_ 11) (fun hg11 => (yE x.Num.D (i64.wrap (-x.Num.B)) rfl (gv_of (v := vi x.Num.D) hg11) (gv_of (v := vi (i64.wrap (-x.Num.B))) hg11))) ?_
 refine sQ 20 (Y_and (b := (r_1 && (x.Num.C == 0))) (z := (x.Num.D == (i64.wrap (-x.Num.B)))) rfl rfl rfl rfl) <| sQ 2 (yg (.bool ((r_1 && (x.Num.C == 0)) && (x.Num.D == (i64.wrap (-x.Num.B)))))) (rn (ct_ ?_))
 obtain rfl := sI hF
 exact ret1 Tryz.results82 (v1 := .bool ((r_1 && (x.Num.C == 0)) && (x.Num.D == (i64.wrap (-x.Num.B))))) (resAt_tmp rfl) ⟨rfl, (hS2.sN [])⟩

theorem c_impl_IsValidBloch_1 (x : TDyadic)  (w0 : World)  (hS : ST w0 [] w0 [] []) {r_ : Bool} (hF : F_impl_IsValidBloch_1 x = some r_) :
  CV Tryz.prog 81 #[gD_ x] w0 (fun v w' => v = .bool r_ ∧ ST w0 [] w' [] []) := by
 unfold F_impl_IsValidBloch_1 at hF
 refine cv_of_cw 6 Tryz.func81 rfl Tryz.ntmps81 rfl ?_
 refine cq (cr ?_)
 refine sS 1 (yB 48 (gD_ x) (kD_ x) 5 hS) ?_
 rintro _ w_ ⟨b, rfl, hS1⟩
 refine sQ 2 (yg (.bool false)) (rn (cq (cr ?_)))
 refine sQ 3 (yb (aD b) 0 (kD_ x) K4 K1 (hS1.c 0)) ?_
 obtain ⟨r_1, hc, hF⟩ := bI hF
 refine sc 4 rfl rfl (yC [gD_ x] k_call_82 (c_impl_isReal x _  (hS1.inn0 [] rfl) hc)) ?_
 rintro _ w_1 ⟨rfl, hd⟩
 have hS2 := hS1.out00 hd
 refine sQ 5 (Y_not (p := r_1) rfl rfl) <| sQ 2 (yg (.bool (!r_1))) (rn (ct_ ?_))
 obtain rfl := sI hF
 exact ret1 Tryz.results81 (v1 := .bool (!r_1)) (resAt_tmp rfl) ⟨rfl, (hS2.sN [])⟩

theorem c_impl_SubRing (x : TRing) (y : TRing)  (w0 : World)  (hS : ST w0 [] w0 [] []) {r_ : TRing} {r_1 : Bool} (hF : F_impl_SubRing x y = some (r_, r_1)) :
  CV Tryz.prog 121 #[gR_ x, gR_ y] w0 (fun v w' => v = .tuple #[gR_ r_, .bool r_1] ∧ ST w0 [] w' [] []) := by
 unfold F_impl_SubRing at hF
 refine cv_of_cw 33 Tryz.func121 rfl Tryz.ntmps121 rfl ?_
 refine cq (cr ?_)
 refine sS 2 (yB 46 (gR_ x) (kR_ x) 4 hS) ?_
 rintro _ w_ ⟨b, rfl, hS1⟩
 refine sS 3 (yB 46 (gR_ y) (kR_ y) 4 hS1) ?_
 rintro _ w_1 ⟨b1, rfl, hS2⟩
 refine sS 4 (yN [vi 0, vi 0, vi 0, vi 0] 4 hS2 K13) ?_
 rintro _ w_2 ⟨b2, rfl, hS3⟩
 refine sQ 5 (yg (.bool false)) (rn (cq (cr ?_)))
 refine sQ 6 (yd (aD b) 0 0 K19 K2) <| sQ 7 (yl (aD b) 0 (kR_ x) (vi x.A) K0 (hS3.c 0)) <| sQ 8 (yd (aD b1) 0 0 K19 K2) <| sQ 9 (yl (aD b1) 0 (kR_ y) (vi y.A) K0 (hS3.c 1)) <| sQ 10 (yM x.A y.A) <| sQ 11 (yd (aD b) 0 0 K20 K2) ?_
 refine sQ 12 (yl (aD b) 1 (kR_ x) (vi x.B) K0 (hS3.c 0)) <| sQ 13 (yd (aD b1) 0 0 K20 K2) <| sQ 14 (yl (aD b1) 1 (kR_ y) (vi y.B) K0 (hS3.c 1)) <| sQ 15 (yM x.B y.B) <| sQ 16 (yd (aD b) 0 0 K21 K2) <| sQ 17 (yl (aD b) 2 (kR_ x) (vi x.C) K0 (hS3.c 0)) ?_
 refine sQ 18 (yd (aD b1) 0 0 K21 K2) <| sQ 19 (yl (aD b1) 2 (kR_ y) (vi y.C) K0 (hS3.c 1)) <| sQ 20 (yM x.C y.C) <| sQ 21 (yd (aD b) 0 0 K22 K2) <| sQ 22 (yl (aD b) 3 (kR_ x) (vi x.D) K0 (hS3.c 0)) <| sQ 23 (yd (aD b1) 0 0 K22 K2) ?_
 refine sQ 24 (yl (aD b1) 3 (kR_ y) (vi y.D) K0 (hS3.c 1)) <| sQ 25 (yM x.D y.D) <| sQ 26 (Y_buildS (zs := [vi 0, vi 0, vi 0, vi 0]) (vs := [(0, vi (i64.wrap (x.A - y.A))), (1, vi (i64.wrap (x.B - y.B))), (2, vi (i64.wrap (x.C - y.C))), (3, vi (i64.wrap (x.D - y.D)))]) (cs := [vi (i64.wrap (x.A - y.A)), vi (i64.wrap (x.B - y.B)), vi (i64.wrap (x.C - y.C)), vi (i64.wrap (x.D - y.D))]) K31 K13 rfl (mpc rfl (mpc rfl (mpc rfl (mpc rfl mpn)))) rfl) <| sQ 27 (yb (aD b) 0 (kR_ x) K10 K5 (hS3.c 0)) <| sQ 28 (yb (aD b1) 0 (kR_ y) K10 K5 (hS3.c 1)) ?_
 refine sS 29 (Ys_bslice (s := 4) (len := 2) (vs := [(0, gR_ x), (1, gR_ y)]) (cs := [vi x.A, vi x.B, vi x.C, vi x.D, vi y.A, vi y.B, vi y.C, vi y.D]) (zs := [vi 0, vi 0, vi 0, vi 0, vi 0, vi 0, vi 0, vi 0]) (m := 8) hS3 K63 K5 K74 rfl (mpc rfl (mpc rfl mpn)) rfl rfl rfl (by kernel_rfl) (by kernel_rfl) rfl) ?_
 rintro _ w_3 ⟨b3, rfl, hS4⟩
 obtain ⟨⟨r_2, r_3⟩, hc, hF⟩ := bI hF
 refine sc 30 rfl rfl (yC [.agg #[vi (i64.wrap (x.A - y.A)), vi (i64.wrap (x.B - y.B)), vi (i64.wrap (x.C - y.C)), vi (i64.wrap (x.D - y.D))], .slice (aD b3) 2 2] K90 (c_impl_ringIf (TRing.mk (i64.wrap (x.A - y.A)) (i64.wrap (x.B - y.B)) (i64.wrap (x.C - y.C)) (i64.wrap (x.D - y.D))) [x, y] (aD b3) 2 2 _ rfl (hS4.inn [false, false, false, true] rfl [] rfl) hc)) ?_
 rintro _ w_4 ⟨rfl, hd⟩
 have hS5 := hS4.out [false, false, false, true] rfl hd
 refine sQ 31 (ye (gR_ r_2)) <| sQ 32 (ye (.bool r_3)) ?_
 refine s0 (yT 2 4 (aD b2) 46 (gR_ r_2) (kR_ r_2) 0 hS5 K5) ?_
 rintro _ w_5 ⟨rfl, hS6⟩
 refine sQ 5 (yg (.bool r_3)) (rn (ct_ ?_))
 obtain ⟨rfl, rfl⟩ := pr2 (sI hF)
 exact ret2 Tryz.results121 (v1 := gR_ r_2) (resAt_cellA (B := aD b2) (i := 0) (cs := kR_ r_2) (vs := kR_ r_2) rfl K10 K5 (hS6.c 2) rfl rfl) (v2 := .bool r_3) (resAt_tmp rfl) ⟨rfl, (hS6.sN [])⟩

theorem c_impl_SubDyadic (x : TDyadic) (y : TDyadic)  (w0 : World)  (hS : ST w0 [] w0 [] []) {r_ : TDyadic} {r_1 : Bool} (hF : F_impl_SubDyadic x y = some (r_, r_1)) :
  CV Tryz.prog 110 #[gD_ x, gD_ y] w0 (fun v w' => v = .tuple #[gD_ r_, .bool r_1] ∧ ST w0 [] w' [] []) := by
 unfold F_impl_SubDyadic at hF
 refine cv_of_cw 11 Tryz.func110 rfl Tryz.ntmps110 rfl ?_
 refine cq (cr ?_)
 refine sS 2 (yB 48 (gD_ x) (kD_ x) 5 hS) ?_
 rintro _ w_ ⟨b, rfl, hS1⟩
 refine sS 3 (yB 48 (gD_ y) (kD_ y) 5 hS1) ?_
 rintro _ w_1 ⟨b1, rfl, hS2⟩
 refine sS 4 (yN kZ_ 5 hS2 K6) ?_
 rintro _ w_2 ⟨b2, rfl, hS3⟩
 refine sQ 5 (yg (.bool false)) (rn (cq (cr ?_)))
 refine sQ 6 (yb (aD b) 0 (kD_ x) K4 K1 (hS3.c 0)) <| sQ 7 (yb (aD b1) 0 (kD_ y) K4 K1 (hS3.c 1)) ?_
 obtain ⟨⟨r_2, r_3⟩, hc, hF⟩ := bI hF
 refine sc 8 rfl rfl (yC [gD_ x, gD_ y, .func (.func 121) #[] #[]] k_call_107 (c_impl_combined x y F_impl_SubRing 121 (#[]) [] _ k_call_121 (fun w hw x_0 x_1 y_0 y_1 h_ => c_impl_SubRing x_0 x_1  w  hw h_) (hS3.inn0 [] rfl) hc)) ?_
 rintro _ w_3 ⟨rfl, hd⟩
 have hS4 := hS3.out00 hd
 refine sQ 9 (ye (gD_ r_2)) <| sQ 10 (ye (.bool r_3)) ?_
 refine s0 (yT 2 5 (aD b2) 48 (gD_ r_2) (kD_ r_2) 0 hS4 K1) ?_
 rintro _ w_4 ⟨rfl, hS5⟩
 refine sQ 5 (yg (.bool r_3)) (rn (ct_ ?_))
 obtain ⟨rfl, rfl⟩ := pr2 (sI hF)
 exact ret2 Tryz.results110 (v1 := gD_ r_2) (resAt_cellA (B := aD b2) (i := 0) (cs := kD_ r_2) (vs := kD_ r_2) rfl K4 K1 (hS5.c 2) rfl rfl) (v2 := .bool r_3) (resAt_tmp rfl) ⟨rfl, (hS5.sN [])⟩

theorem c_impl_minor (a : TDyadic) (b : TDyadic) (c : TDyadic) (d : TDyadic)  (w0 : World)  (hS : ST w0 [] w0 [] []) {r_ : TDyadic} {r_1 : Bool} (hF : F_impl_minor a b c d = some (r_, r_1)) :
  CV Tryz.prog 109 #[gD_ a, gD_ b, gD_ c, gD_ d] w0 (fun v w' => v = .tuple #[gD_ r_, .bool r_1] ∧ ST w0 [] w' [] []) := by
 unfold F_impl_minor at hF
 refine cv_of_cw 42 Tryz.func109 rfl Tryz.ntmps109 rfl ?_
 refine cq (cr ?_)
 refine sS 4 (yB 48 (gD_ a) (kD_ a) 5 hS) ?_
 rintro _ w_ ⟨b1, rfl, hS1⟩
 refine sS 5 (yB 48 (gD_ b) (kD_ b) 5 hS1) ?_
 rintro _ w_1 ⟨b2, rfl, hS2⟩
 refine sS 6 (yB 48 (gD_ c) (kD_ c) 5 hS2) ?_
 rintro _ w_2 ⟨b3, rfl, hS3⟩
 refine sS 7 (yB 48 (gD_ d) (kD_ d) 5 hS3) ?_
 rintro _ w_3 ⟨b4, rfl, hS4⟩
 refine sS 8 (yN kZ_ 5 hS4 K6) ?_
 rintro _ w_4 ⟨b5, rfl, hS5⟩
 refine sQ 9 (yg (.bool false)) (rn (cq (cr ?_)))
 refine sQ 17 (yb (aD b1) 0 (kD_ a) K4 K1 (hS5.c 0)) <| sQ 18 (yb (aD b4) 0 (kD_ d) K4 K1 (hS5.c 3)) ?_
 obtain ⟨⟨r_2, r_3⟩, hc, hF⟩ := bI hF
 refine sc 19 rfl rfl (yC [gD_ a, gD_ d] K59 (c_impl_MulDyadic a d _  (hS5.inn0 [] rfl) hc)) ?_
 rintro _ w_5 ⟨rfl, hd⟩
 have hS6 := hS5.out00 hd
 refine sQ 16 (ym (.tuple #[gD_ r_2, .bool r_3])) <| sQ 20 (ye (gD_ r_2)) <| sQ 21 (ye (.bool r_3)) ?_
 refine sS 10 (yN kZ_ 5 hS6 K6) ?_
 rintro _ w_6 ⟨b6, rfl, hS7⟩
 refine s0 (yT 5 5 (aD b6) 48 (gD_ r_2) (kD_ r_2) 0 hS7 K1) ?_
 rintro _ w_7 ⟨rfl, hS8⟩
 refine sQ 11 (yg (.bool r_3)) (rn (cq (cr ?_)))
 refine sQ 23 (yb (aD b2) 0 (kD_ b) K4 K1 (hS8.c 1)) <| sQ 24 (yb (aD b3) 0 (kD_ c) K4 K1 (hS8.c 2)) ?_
 obtain ⟨⟨r_4, r_5⟩, hc1, hF⟩ := bI hF
 refine sc 25 rfl rfl (yC [gD_ b, gD_ c] K59 (c_impl_MulDyadic b c _  (hS8.inn0 [] rfl) hc1)) ?_
 rintro _ w_8 ⟨rfl, hd1⟩
 have hS9 := hS8.out00 hd1
 refine sQ 22 (ym (.tuple #[gD_ r_4, .bool r_5])) <| sQ 26 (ye (gD_ r_4)) <| sQ 27 (ye (.bool r_5)) ?_
 refine sS 12 (yN kZ_ 5 hS9 K6) ?_
 rintro _ w_9 ⟨b7, rfl, hS10⟩
 refine s0 (yT 6 5 (aD b7) 48 (gD_ r_4) (kD_ r_4) 0 hS10 K1) ?_
 rintro _ w_10 ⟨rfl, hS11⟩
 refine sQ 13 (yg (.bool r_5)) (rn (cq (cr ?_)))
 refine sQ 29 (yb (aD b6) 0 (kD_ r_2) K4 K1 (hS11.c 5)) <| sQ 30 (yb (aD b7) 0 (kD_ r_4) K4 K1 (hS11.c 6)) ?_
 obtain ⟨⟨r_6, r_7⟩, hc2, hF⟩ := bI hF
 refine sc 31 rfl rfl (yC [gD_ r_2, gD_ r_4] k_call_110 (c_impl_SubDyadic r_2 r_4 _  (hS11.inn0 [] rfl) hc2)) ?_
 rintro _ w_11 ⟨rfl, hd2⟩
 have hS12 := hS11.out00 hd2
 refine sQ 28 (ym (.tuple #[gD_ r_6, .bool r_7])) <| sQ 32 (ye (gD_ r_6)) <| sQ 33 (ye (.bool r_7)) ?_
 refine sS 14 (yN kZ_ 5 hS12 K6) ?_
 rintro _ w_12 ⟨b8, rfl, hS13⟩
 refine s0 (yT 7 5 (aD b8) 48 (gD_ r_6) (kD_ r_6) 0 hS13 K1) ?_
 rintro _ w_13 ⟨rfl, hS14⟩
 refine sQ 15 (yg (.bool r_7)) (rn (cq (cr ?_)))
 refine sQ 34 (yb (aD b8) 0 (kD_ r_6) K4 K1 (hS14.c 7)) <| sQ 35 (ym (.bool r_3)) <| sQ 36 (ym (.bool r_3)) ?_
 refine sgq 37 (B := r_3) (v := .bool r_5) rfl rfl (uT_ 36) (fun hg => (ym (.bool r_5))) ?_
 refine sQ 38 (Y_and (b := r_3) (z := r_5) rfl rfl rfl rfl) <| sQ 39 (ym (.bool (r_3 && r_5))) ?_
 refine sgq 40 (B := (r_3 && r_5)) (v := .bool r_7) rfl rfl (uT_ 39) (fun hg1 => (ym (.bool r_7))) ?_
 refine sQ 41 (Y_and (b := (r_3 && r_5)) (z := r_7) rfl rfl rfl rfl) ?_
 refine s0 (yT 4 5 (aD b5) 48 (gD_ r_6) (kD_ r_6) 0 hS14 K1) ?_
 rintro _ w_14 ⟨rfl, hS15⟩
 refine sQ 9 (yg (.bool ((r_3 && r_5) && r_7))) (rn (ct_ ?_))
 obtain ⟨rfl, rfl⟩ := pr2 (sI hF)
 exact ret2 Tryz.results109 (v1 := gD_ r_6) (resAt_cellA (B := aD b5) (i := 0) (cs := kD_ r_6) (vs := kD_ r_6) rfl K4 K1 (hS15.c 4) rfl rfl) (v2 := .bool ((r_3 && r_5) && r_7)) (resAt_tmp rfl) ⟨rfl, (hS15.sN [])⟩

theorem c_impl_determinant (a : List TDyadic) (B : Option Addr) (c n : Nat) (w0 : World) (hn : a.length = n) (hS : ST w0 [] w0 [] [⟨B, (a.flatMap eN0)⟩]) {r_ : TDyadic} {r_1 : Bool} (hF : F_impl_determinant a = some (r_, r_1)) :
  CV Tryz.prog 83 #[.slice B n c] w0 (fun v w' => v = .tuple #[gD_ r_, .bool r_1] ∧ ST w0 [] w' [] []) := by
 subst hn
 unfold F_impl_determinant at hF
 refine cv_of_cw 88 Tryz.func83 rfl Tryz.ntmps83 rfl ?_
 refine cq (cr ?_)
 refine sS 2 (yN kZ_ 5 hS K6) ?_
 rintro _ w_ ⟨b, rfl, hS1⟩
 refine sQ 3 (yg (.bool false)) (rn (cq (cr ?_)))
 refine sQ 15 (Y_buildS (zs := kZ_) (vs := []) (cs := kZ_) K18 K6 rfl mpn rfl) ?_
 refine sS 4 (yN kZ_ 5 hS1 K6) ?_
 rintro _ w_1 ⟨b1, rfl, hS2⟩
 refine s0 (yT 1 5 (aD b1) 48 gZ_ kZ_ 0 hS2 K1) ?_
 rintro _ w_2 ⟨rfl, hS3⟩
 refine rn (cq (cq (cr ?_)))
 refine sQ 16 (ym (vi 0)) (rn ?_)
 obtain ⟨z, hz, hF1⟩ := bI hF
 refine cw_block ?_
 refine cw_loop (fun k f w => ∃ (i : Nat) (A : Int) (B1 : Int) (C : Int) (D : Int) (Exp : Int), FF f [(0, .slice B a.length c), (2, pt (aD b) 0), (4, pt (aD b1) 0), (16, vi (i : Int))] ∧ ST w0 [] w [⟨aD b, 48, kZ_, 5⟩, ⟨aD b1, 48, [vi A, vi B1, vi C, vi D, vi Exp], 5⟩] [⟨B, (a.flatMap eN0)⟩] ∧ i + k = 3 ∧ forX (F_impl_determinant_l1 a) k i (A, B1, C, D, Exp) = some z) 3 ⟨0, 0, 0, 0, 0, 0, (fc rfl (fc rfl (fc rfl (fc rfl fn_)))), (hS3.sel [0, 1] rfl rfl), Nat.zero_add _, hz⟩ ?_
 rintro k_ f w ⟨i, A, B1, C, D, Exp, hf, hS4, hik, hL⟩
 refine cq (cr ?_)
 refine sQ 17 (yL (i : Int) 3 rfl (hf.g 16 3)) (rn (cq ?_))
 refine cw_cond (b := (decide ((i : Int) < 3))) rfl (fun hlt => ?_) (fun hlt => ?_)
 ·skip
  have hlt1 : i < 3 := by have h := of_decide_eq_true hlt; omega
  obtain ⟨K7, rfl⟩ : ∃ k2, k_ = k2 + 1 := ⟨k_ - 1, by omega⟩
  obtain ⟨y, hb, hL1⟩ := forX_go hL
  unfold F_impl_determinant_l1 at hb
  refine cw_skip (cq (cw_block (cq (cr ?_))))
  refine sQ 18 (ym (vi (i : Int)) rfl (hf.g 16 3)) <| sQ 5 (yg (vi (i : Int))) (rn (cq (cr ?_)))
  refine sS 19 (Ys_bslice0 (s := 5) (e := 48) hS4 K9 K1 rfl) ?_
  rintro _ w_3 ⟨b2, rfl, hS5⟩
  refine sQ 6 (yg (.slice (aD b2) 0 0)) (rn (cq (cq (cr ?_))))
  refine sQ 20 (ym (vi 0)) (rn ?_)
  obtain ⟨z1, hz1, hF2⟩ := bI hb
  refine cw_block ?_
  refine cw_loop (fun k f w => ∃ (i1 : Nat) (rest_ : List TDyadic) (B2 : Option Addr) (c1 : Nat), FF f [(0, .slice B a.length c), (2, pt (aD b) 0), (4, pt (aD b1) 0), (5, vi (i : Int)), (6, .slice B2 rest_.length c1), (16, vi (i : Int)), (20, vi (i1 : Int))] ∧ ST w0 [] w [⟨aD b, 48, kZ_, 5⟩, ⟨aD b1, 48, [vi A, vi B1, vi C, vi D, vi Exp], 5⟩, ⟨B2, 48, (rest_.flatMap eN0), c1 * 5⟩] [⟨B, (a.flatMap eN0)⟩] ∧ i1 + k = 3 ∧ forN (F_impl_determinant_l2 i a) k i1 rest_ = some z1) 3 ⟨0, [], aD b2, 0, (fc (hf.g 0 0) (fc (hf.g 2 1) (fc (hf.g 4 2) (fc rfl (fc rfl (fc (hf.g 16 3) (fc rfl fn_))))))), (hS5.sel [0, 1, 2] rfl rfl), Nat.zero_add _, hz1⟩ ?_
  rintro K15 f w ⟨i1, rest_, B2, c1, hf1, hS6, hik1, hL2⟩
  refine cq (cr ?_)
  refine sQ 21 (yL (i1 : Int) 3 rfl (hf1.g 20 6)) (rn (cq ?_))
  refine cw_cond (b := (decide ((i1 : Int) < 3))) rfl (fun hlt2 => ?_) (fun hlt2 => ?_)
  ·skip
   have hlt3 : i1 < 3 := by have h := of_decide_eq_true hlt2; omega
   obtain ⟨K28, rfl⟩ : ∃ k2, K15 = k2 + 1 := ⟨K15 - 1, by omega⟩
   obtain ⟨y1, hb1, hL3⟩ := forN_go hL2
   unfold F_impl_determinant_l2 at hb1
   refine cw_skip (cq ?_)
   obtain ⟨z2, hz2, hF3⟩ := bI hb1
   refine cw_mid (fun f w => ∃ (rest_1 : List TDyadic) (B3 : Option Addr) (c2 : Nat), rest_1 = z2 ∧ FF f [(0, .slice B a.length c), (2, pt (aD b) 0), (4, pt (aD b1) 0), (5, vi (i : Int)), (6, .slice B3 rest_1.length c2), (16, vi (i : Int)), (20, vi (i1 : Int))] ∧ ST w0 [] w [⟨aD b, 48, kZ_, 5⟩, ⟨aD b1, 48, [vi A, vi B1, vi C, vi D, vi Exp], 5⟩, ⟨B3, 48, (rest_1.flatMap eN0), c2 * 5⟩] [⟨B, (a.flatMap eN0)⟩]) ?_ ?_
   ·skip
    refine cw_block (cq (cr ?_))
    refine sQ 22 (ym (vi (i1 : Int)) rfl (hf1.g 20 6)) <| sQ 7 (yg (vi (i1 : Int))) (rn (cq (cr ?_)))
    refine sQ 23 (ym (vi (i1 : Int))) <| sQ 24 (ym (vi (i : Int)) rfl (hf1.g 5 3)) <| sQ 25 (Y_ne (k := .i64) (a := (i1 : Int)) (b := (i : Int)) rfl rfl rfl) (rn ?_)
    refine cw_cond (b := ((i1 : Int) != (i : Int))) rfl (fun hb2 => ?_) (fun hb2 => ?_)
    ·skip
     have hF4 := ct hz2 hb2
     obtain ⟨x, hx, hF4⟩ := bI hF4
     obtain ⟨x1, hx1, hF4⟩ := bI hF4
     obtain ⟨hap, hF4⟩ := chk_inv hF4
     refine ra_start (hS6.se [0, 1]).fn (by kernel_rfl) ?_
     have hS8 := hS6.drew
     refine rq 0 26 (v := .slice B2 rest_.length c1) rfl (hS8.se [0, 1]) (fun w' hw' => (ym (.slice B2 rest_.length c1) rfl (hf1.g 6 4))) ?_
     refine rq 1 27 (v := .slice B a.length c) rfl (hS8.se [0, 1]) (fun w' hw' => (ym (.slice B a.length c) rfl (hf1.g 0 0))) ?_
     refine rq 2 28 (v := vi (i1 : Int)) rfl (hS8.se [0, 1]) (fun w' hw' => (ym (vi (i1 : Int)))) ?_
     refine rq 3 29 (v := vi (i64.wrap (3 + (i1 : Int)))) rfl (hS8.se [0, 1]) (fun w' hw' => (yP 3 (i1 : Int))) ?_
     refine rq 4 30 (v := pt B ((i64.wrap (3 + (i1 : Int))).toNat * 5)) rfl (hS8.se [0, 1]) (fun w' hw' => (Y_index (B := B) (m := a.length) (c := c) (k := .i64) (i := (i64.wrap (3 + (i1 : Int)))) K9 K1 rfl rfl rfl (gi_isSome eN2 rfl (ST.rf hw' (i := 0) rfl) hx) (getI_nn hx) (getI_ltI hx rfl))) ?_
     refine rq 5 31 (v := gD_ x) rfl (hS8.se [0, 1]) (fun w' hw' => (ya B ((i64.wrap (3 + (i1 : Int))).toNat * 5) (a.flatMap eN0) (kD_ x) K4 K1 (ST.rf hw' (i := 0) rfl) rfl rfl (eN2 x) (gi_seg eN2 hx))) ?_
     refine rq 6 32 (v := .slice B a.length c) rfl (hS8.se [0, 1]) (fun w' hw' => (ym (.slice B a.length c) rfl (hf1.g 0 0))) ?_
     refine rq 7 33 (v := vi (i1 : Int)) rfl (hS8.se [0, 1]) (fun w' hw' => (ym (vi (i1 : Int)))) ?_
     refine rq 8 34 (v := vi (i64.wrap (6 + (i1 : Int)))) rfl (hS8.se [0, 1]) (fun w' hw' => (yP 6 (i1 : Int))) ?_
     refine rq 9 35 (v := pt B ((i64.wrap (6 + (i1 : Int))).toNat * 5)) rfl (hS8.se [0, 1]) (fun w' hw' => (Y_index (B := B) (m := a.length) (c := c) (k := .i64) (i := (i64.wrap (6 + (i1 : Int)))) K9 K1 rfl rfl rfl (gi_isSome eN2 rfl (ST.rf hw' (i := 0) rfl) hx1) (getI_nn hx1) (getI_ltI hx1 rfl))) ?_
     refine rq 10 36 (v := gD_ x1) rfl (hS8.se [0, 1]) (fun w' hw' => (ya B ((i64.wrap (6 + (i1 : Int))).toNat * 5) (a.flatMap eN0) (kD_ x1) K4 K1 (ST.rf hw' (i := 0) rfl) rfl rfl (eN2 x1) (gi_seg eN2 hx1))) ?_
     refine rA [11] ?_
     refine rS 37 11 rfl (Ys_bslice (s := 5) (len := 2) (vs := [(0, gD_ x), (1, gD_ x1)]) (cs := [vi x.Num.A, vi x.Num.B, vi x.Num.C, vi x.Num.D, vi x.Exp, vi x1.Num.A, vi x1.Num.B, vi x1.Num.C, vi x1.Num.D, vi x1.Exp]) (zs := [vi 0, vi 0, vi 0, vi 0, vi 0, vi 0, vi 0, vi 0, vi 0, vi 0]) (m := 10) hS8 K9 K1 K38 rfl (mpc rfl (mpc rfl mpn)) rfl rfl rfl (by kernel_rfl) (by kernel_rfl) rfl) ?_ ?_
     ·rintro _ w_4 ⟨b3, rfl, hS9⟩
      refine ⟨(hS9.se [0, 1]), ?_⟩
      refine rA [12] ?_
      refine rS 38 12 rfl (Ys_append (s := 5) (by' := 40) (i := 2) (nn := rest_.length) (c := c1) (k := 2) (len := (rest_ ++ [x, x1]).length) (B := B2) (xs := ([x, x1].flatMap eN0)) (cs' := ((rest_ ++ [x, x1]).flatMap eN0)) hS9 K9 K1 K47 K6 rfl (by decide) rfl rfl rfl rfl (fm_lenn (l := rest_) eN2 rfl) rfl (hS9.c 3) (fm_lenn (l := [x, x1]) eN2 rfl) (fm_one' (enc := eN0) enc_Dyadic_one [x, x1]) (by have := hap; omega) (by have := hap; simp only [maxLen]; omega) (fm_app _ _) (app_len (l := rest_) (l' := [x, x1]) rfl rfl)) ?_ ?_
      ·rintro _ w_5 ⟨B4, c3, rfl, hS10⟩
       refine ⟨(hS10.se [0, 1]), ?_⟩
       refine rq 13 6 (v := .slice B4 ((rest_ ++ [x, x1]).length) c3) rfl (hS10.se [0, 1]) (fun w' hw' => (yg (.slice B4 ((rest_ ++ [x, x1]).length) c3))) ?_
       refine ra_done (by kernel_rfl) ?_
       exact ⟨(rest_ ++ [x, x1]), B4, c3, (sI hF4), (fc (hf1.g 0 0) (fc (hf1.g 2 1) (fc (hf1.g 4 2) (fc (hf1.g 5 3) (fc rfl (fc (hf1.g 16 5) (fc (hf1.g 20 6) fn_))))))), (hS10.sel [0, 1, 2] rfl rfl)⟩
      exact aN
     exact aN
    ·skip
     have hF5 := cf' hz2 hb2
     refine cw_skip ?_
     exact ⟨rest_, B2, c1, (sI hF5), (fc (hf1.g 0 0) (fc (hf1.g 2 1) (fc (hf1.g 4 2) (fc (hf1.g 5 3) (fc (hf1.g 6 4) (fc (hf1.g 16 5) (fc (hf1.g 20 6) fn_))))))), (hS6.sel [0, 1, 2] rfl rfl)⟩
   rintro f w ⟨rest_1, B3, c2, rfl, hf2, hS7⟩
   refine cr ?_
   refine sQ 39 (yP (i1 : Int) 1 rfl (hf2.g 20 6)) <| sQ 20 (ym (vi (i64.wrap ((i1 : Int) + 1)))) (rn ?_)
   obtain rfl := sI hF3
   exact ⟨K28, Nat.lt_succ_self _, i1 + 1, rest_1, B3, c2, (fc (hf2.g 0 0) (fc (hf2.g 2 1) (fc (hf2.g 4 2) (fc (hf2.g 5 3) (fc (hf2.g 6 4) (fc (hf2.g 16 5) (fc (congrArg (Value.int .i64) (wr_succ hlt3 (show 3 ≤ 9223372036854775807 by decide))) fn_))))))), (hS7.sel [0, 1, 2] rfl rfl), (by omega), hL3⟩
  ·skip
   obtain rfl : K15 = 0 := by have h := of_decide_eq_false hlt2; omega
   refine cw_exit rfl ?_
   obtain rfl := sI hL2
   refine cq ?_
   obtain ⟨x2, hx2, hF2⟩ := bI hF2
   obtain ⟨x3, hx3, hF2⟩ := bI hF2
   obtain ⟨x4, hx4, hF2⟩ := bI hF2
   obtain ⟨x5, hx5, hF2⟩ := bI hF2
   obtain ⟨⟨r_2, r_3⟩, hc, hF2⟩ := bI hF2
   refine cw_mid (fun f w => ∃ (B5 : Option Addr), FF f [(0, .slice B a.length c), (2, pt (aD b) 0), (4, pt (aD b1) 0), (5, vi (i : Int)), (8, pt B5 0), (9, .bool r_3), (16, vi (i : Int))] ∧ ST w0 [] w [⟨aD b, 48, kZ_, 5⟩, ⟨aD b1, 48, [vi A, vi B1, vi C, vi D, vi Exp], 5⟩, ⟨B5, 48, kD_ r_2, 5⟩] [⟨B, (a.flatMap eN0)⟩]) ?_ ?_
   ·skip
    refine ra_start (hS6.se [0, 1, 2]).fn (by kernel_rfl) ?_
    have hS13 := hS6.drew
    refine rq 0 41 (v := .slice B2 rest_.length c1) rfl (hS13.se [0, 1, 2]) (fun w' hw' => (ym (.slice B2 rest_.length c1) rfl (hf1.g 6 4))) ?_
    refine rq 1 42 (v := pt B2 ((0 : Int).toNat * 5)) rfl (hS13.se [0, 1, 2]) (fun w' hw' => (Y_index (B := B2) (m := rest_.length) (c := c1) (k := .i64) (i := 0) K9 K1 rfl rfl rfl (gi_isSome eN2 rfl (ST.cf hw' (i := 2) rfl) hx2) (getI_nn hx2) (getI_ltI hx2 rfl))) ?_
    refine rq 2 43 (v := gD_ x2) rfl (hS13.se [0, 1, 2]) (fun w' hw' => (ya B2 ((0 : Int).toNat * 5) (rest_.flatMap eN0) (kD_ x2) K4 K1 (ST.cf hw' (i := 2) rfl) rfl rfl (eN2 x2) (gi_seg eN2 hx2))) ?_
    refine rq 3 44 (v := .slice B2 rest_.length c1) rfl (hS13.se [0, 1, 2]) (fun w' hw' => (ym (.slice B2 rest_.length c1) rfl (hf1.g 6 4))) ?_
    refine rq 4 45 (v := pt B2 ((2 : Int).toNat * 5)) rfl (hS13.se [0, 1, 2]) (fun w' hw' => (Y_index (B := B2) (m := rest_.length) (c := c1) (k := .i64) (i := 2) K9 K1 rfl rfl rfl (gi_isSome eN2 rfl (ST.cf hw' (i := 2) rfl) hx3) (getI_nn hx3) (getI_ltI hx3 rfl))) ?_
    refine rq 5 46 (v := gD_ x3) rfl (hS13.se [0, 1, 2]) (fun w' hw' => (ya B2 ((2 : Int).toNat * 5) (rest_.flatMap eN0) (kD_ x3) K4 K1 (ST.cf hw' (i := 2) rfl) rfl rfl (eN2 x3) (gi_seg eN2 hx3))) ?_
    refine rq 6 47 (v := .slice B2 rest_.length c1) rfl (hS13.se [0, 1, 2]) (fun w' hw' => (ym (.slice B2 rest_.length c1) rfl (hf1.g 6 4))) ?_
    refine rq 7 48 (v := pt B2 ((1 : Int).toNat * 5)) rfl (hS13.se [0, 1, 2]) (fun w' hw' => (Y_index (B := B2) (m := rest_.length) (c := c1) (k := .i64) (i := 1) K9 K1 rfl rfl rfl (gi_isSome eN2 rfl (ST.cf hw' (i := 2) rfl) hx4) (getI_nn hx4) (getI_ltI hx4 rfl))) ?_
    refine rq 8 49 (v := gD_ x4) rfl (hS13.se [0, 1, 2]) (fun w' hw' => (ya B2 ((1 : Int).toNat * 5) (rest_.flatMap eN0) (kD_ x4) K4 K1 (ST.cf hw' (i := 2) rfl) rfl rfl (eN2 x4) (gi_seg eN2 hx4))) ?_
    refine rq 9 50 (v := .slice B2 rest_.length c1) rfl (hS13.se [0, 1, 2]) (fun w' hw' => (ym (.slice B2 rest_.length c1) rfl (hf1.g 6 4))) ?_
    refine rq 10 51 (v := pt B2 ((3 : Int).toNat * 5)) rfl (hS13.se [0, 1, 2]) (fun w' hw' => (Y_index (B := B2) (m := rest_.length) (c := c1) (k := .i64) (i := 3) K9 K1 rfl rfl rfl (gi_isSome eN2 rfl (ST.cf hw' (i := 2) rfl) hx5) (getI_nn hx5) (getI_ltI hx5 rfl))) ?_
    refine rq 11 52 (v := gD_ x5) rfl (hS13.se [0, 1, 2]) (fun w' hw' => (ya B2 ((3 : Int).toNat * 5) (rest_.flatMap eN0) (kD_ x5) K4 K1 (ST.cf hw' (i := 2) rfl) rfl rfl (eN2 x5) (gi_seg eN2 hx5))) ?_
    refine rA [12, 16] ?_
    refine rC 53 12 rfl (yC [gD_ x2, gD_ x3, gD_ x4, gD_ x5] k_call_109 (c_impl_minor x2 x3 x4 x5 _  (hS13.inn0 [] rfl) hc)) ?_ ?_
    ·rintro _ w_6 ⟨rfl, hd⟩
     have hS14 := hS13.out00 hd
     refine ⟨(hS14.se [0, 1, 2]), ?_⟩
     refine rq 13 40 (v := .tuple #[gD_ r_2, .bool r_3]) rfl (hS14.se [0, 1, 2]) (fun w' hw' => (ym (.tuple #[gD_ r_2, .bool r_3]))) ?_
     refine rq 14 54 (v := gD_ r_2) rfl (hS14.se [0, 1, 2]) (fun w' hw' => (ye (gD_ r_2))) ?_
     refine rq 15 55 (v := .bool r_3) rfl (hS14.se [0, 1, 2]) (fun w' hw' => (ye (.bool r_3))) ?_
     refine rA [16] ?_
     refine rS 8 16 rfl (yN kZ_ 5 hS14 K6) ?_ ?_
     ·rintro _ w_7 ⟨b4, rfl, hS15⟩
      refine ⟨(hS15.se [0, 1, 2]), ?_⟩
      refine rA [17] ?_
      refine rZ 17 rfl (yT 3 5 (aD b4) 48 (gD_ r_2) (kD_ r_2) 0 hS15 K1) ?_ ?_
      ·rintro _ w_8 ⟨rfl, hS16⟩
       refine ⟨(hS16.se [0, 1, 2]), ?_⟩
       refine rq 18 9 (v := .bool r_3) rfl (hS16.se [0, 1, 2]) (fun w' hw' => (yg (.bool r_3))) ?_
       refine ra_done (by kernel_rfl) ?_
       exact ⟨aD b4, (fc (hf1.g 0 0) (fc (hf1.g 2 1) (fc (hf1.g 4 2) (fc (hf1.g 5 3) (fc rfl (fc rfl (fc (hf1.g 16 5) fn_))))))), (hS16.sel [0, 1, 3] rfl rfl)⟩
      exact aN
     exact aN
    refine rS 8 16 rfl (yN kZ_ 5 hS13 K6) ?_ ?_
    ·rintro _ w_9 ⟨b4, rfl, hS17⟩
     refine ⟨(hS17.se [0, 1, 2]), ?_⟩
     refine rA [12] ?_
     refine rC 53 12 rfl (yC [gD_ x2, gD_ x3, gD_ x4, gD_ x5] k_call_109 (c_impl_minor x2 x3 x4 x5 _  (hS17.inn0 [] rfl) hc)) ?_ ?_
     ·rintro _ w_10 ⟨rfl, hd1⟩
      have hS18 := hS17.out00 hd1
      refine ⟨(hS18.se [0, 1, 2]), ?_⟩
      refine rq 13 40 (v := .tuple #[gD_ r_2, .bool r_3]) rfl (hS18.se [0, 1, 2]) (fun w' hw' => (ym (.tuple #[gD_ r_2, .bool r_3]))) ?_
      refine rq 14 54 (v := gD_ r_2) rfl (hS18.se [0, 1, 2]) (fun w' hw' => (ye (gD_ r_2))) ?_
      refine rq 15 55 (v := .bool r_3) rfl (hS18.se [0, 1, 2]) (fun w' hw' => (ye (.bool r_3))) ?_
      refine rA [17] ?_
      refine rZ 17 rfl (yT 3 5 (aD b4) 48 (gD_ r_2) (kD_ r_2) 0 hS18 K1) ?_ ?_
      ·rintro _ w_11 ⟨rfl, hS19⟩
       refine ⟨(hS19.se [0, 1, 2]), ?_⟩
       refine rq 18 9 (v := .bool r_3) rfl (hS19.se [0, 1, 2]) (fun w' hw' => (yg (.bool r_3))) ?_
       refine ra_done (by kernel_rfl) ?_
       exact ⟨aD b4, (fc (hf1.g 0 0) (fc (hf1.g 2 1) (fc (hf1.g 4 2) (fc (hf1.g 5 3) (fc rfl (fc rfl (fc (hf1.g 16 5) fn_))))))), (hS19.sel [0, 1, 3] rfl rfl)⟩
      exact aN
     exact aN
    exact aN
   rintro f w ⟨B5, hf3, hS12⟩
   refine cq ?_
   obtain ⟨x6, hx6, hF2⟩ := bI hF2
   obtain ⟨⟨r_4, r_5⟩, hc1, hF2⟩ := bI hF2
   refine cw_mid (fun f w => ∃ (B6 : Option Addr), FF f [(0, .slice B a.length c), (2, pt (aD b) 0), (4, pt (aD b1) 0), (5, vi (i : Int)), (9, .bool r_3), (10, pt B6 0), (11, .bool r_5), (16, vi (i : Int))] ∧ ST w0 [] w [⟨aD b, 48, kZ_, 5⟩, ⟨aD b1, 48, [vi A, vi B1, vi C, vi D, vi Exp], 5⟩, ⟨B6, 48, kD_ r_4, 5⟩] [⟨B, (a.flatMap eN0)⟩]) ?_ ?_
   ·skip
    refine ra_start (hS12.se [0, 1, 2]).fn (by kernel_rfl) ?_
    have hS22 := hS12.drew
    refine rq 0 57 (v := .slice B a.length c) rfl (hS22.se [0, 1, 2]) (fun w' hw' => (ym (.slice B a.length c) rfl (hf3.g 0 0))) ?_
    refine rq 1 58 (v := vi (i : Int)) rfl (hS22.se [0, 1, 2]) (fun w' hw' => (ym (vi (i : Int)) rfl (hf3.g 5 3))) ?_
    refine rq 2 59 (v := pt B ((i : Int).toNat * 5)) rfl (hS22.se [0, 1, 2]) (fun w' hw' => (Y_index (B := B) (m := a.length) (c := c) (k := .i64) (i := (i : Int)) K9 K1 rfl rfl rfl (gi_isSome eN2 rfl (ST.rf hw' (i := 0) rfl) hx6) (getI_nn hx6) (getI_ltI hx6 rfl))) ?_
    refine rq 3 60 (v := gD_ x6) rfl (hS22.se [0, 1, 2]) (fun w' hw' => (ya B ((i : Int).toNat * 5) (a.flatMap eN0) (kD_ x6) K4 K1 (ST.rf hw' (i := 0) rfl) rfl rfl (eN2 x6) (gi_seg eN2 hx6))) ?_
    refine rq 4 61 (v := gD_ r_2) rfl (hS22.se [0, 1, 2]) (fun w' hw' => (yb B5 0 (kD_ r_2) K4 K1 (ST.cf hw' (i := 2) rfl) rfl (hf3.g 8 4))) ?_
    refine rA [5, 9] ?_
    refine rC 62 5 rfl (yC [gD_ x6, gD_ r_2] K59 (c_impl_MulDyadic x6 r_2 _  (hS22.inn0 [] rfl) hc1)) ?_ ?_
    ·rintro _ w_12 ⟨rfl, hd2⟩
     have hS23 := hS22.out00 hd2
     refine ⟨(hS23.se [0, 1, 2]), ?_⟩
     refine rq 6 56 (v := .tuple #[gD_ r_4, .bool r_5]) rfl (hS23.se [0, 1, 2]) (fun w' hw' => (ym (.tuple #[gD_ r_4, .bool r_5]))) ?_
     refine rq 7 63 (v := gD_ r_4) rfl (hS23.se [0, 1, 2]) (fun w' hw' => (ye (gD_ r_4))) ?_
     refine rq 8 64 (v := .bool r_5) rfl (hS23.se [0, 1, 2]) (fun w' hw' => (ye (.bool r_5))) ?_
     refine rA [9] ?_
     refine rS 10 9 rfl (yN kZ_ 5 hS23 K6) ?_ ?_
     ·rintro _ w_13 ⟨b5, rfl, hS24⟩
      refine ⟨(hS24.se [0, 1, 2]), ?_⟩
      refine rA [10] ?_
      refine rZ 10 rfl (yT 3 5 (aD b5) 48 (gD_ r_4) (kD_ r_4) 0 hS24 K1) ?_ ?_
      ·rintro _ w_14 ⟨rfl, hS25⟩
       refine ⟨(hS25.se [0, 1, 2]), ?_⟩
       refine rq 11 11 (v := .bool r_5) rfl (hS25.se [0, 1, 2]) (fun w' hw' => (yg (.bool r_5))) ?_
       refine ra_done (by kernel_rfl) ?_
       exact ⟨aD b5, (fc (hf3.g 0 0) (fc (hf3.g 2 1) (fc (hf3.g 4 2) (fc (hf3.g 5 3) (fc (hf3.g 9 5) (fc rfl (fc rfl (fc (hf3.g 16 6) fn_)))))))), (hS25.sel [0, 1, 3] rfl rfl)⟩
      exact aN
     exact aN
    refine rS 10 9 rfl (yN kZ_ 5 hS22 K6) ?_ ?_
    ·rintro _ w_15 ⟨b5, rfl, hS26⟩
     refine ⟨(hS26.se [0, 1, 2]), ?_⟩
     refine rA [5] ?_
     refine rC 62 5 rfl (yC [gD_ x6, gD_ r_2] K59 (c_impl_MulDyadic x6 r_2 _  (hS26.inn0 [] rfl) hc1)) ?_ ?_
     ·rintro _ w_16 ⟨rfl, hd3⟩
      have hS27 := hS26.out00 hd3
      refine ⟨(hS27.se [0, 1, 2]), ?_⟩
      refine rq 6 56 (v := .tuple #[gD_ r_4, .bool r_5]) rfl (hS27.se [0, 1, 2]) (fun w' hw' => (ym (.tuple #[gD_ r_4, .bool r_5]))) ?_
      refine rq 7 63 (v := gD_ r_4) rfl (hS27.se [0, 1, 2]) (fun w' hw' => (ye (gD_ r_4))) ?_
      refine rq 8 64 (v := .bool r_5) rfl (hS27.se [0, 1, 2]) (fun w' hw' => (ye (.bool r_5))) ?_
      refine rA [10] ?_
      refine rZ 10 rfl (yT 3 5 (aD b5) 48 (gD_ r_4) (kD_ r_4) 0 hS27 K1) ?_ ?_
      ·rintro _ w_17 ⟨rfl, hS28⟩
       refine ⟨(hS28.se [0, 1, 2]), ?_⟩
       refine rq 11 11 (v := .bool r_5) rfl (hS28.se [0, 1, 2]) (fun w' hw' => (yg (.bool r_5))) ?_
       refine ra_done (by kernel_rfl) ?_
       exact ⟨aD b5, (fc (hf3.g 0 0) (fc (hf3.g 2 1) (fc (hf3.g 4 2) (fc (hf3.g 5 3) (fc (hf3.g 9 5) (fc rfl (fc rfl (fc (hf3.g 16 6) fn_)))))))), (hS28.sel [0, 1, 3] rfl rfl)⟩
      exact aN
     exact aN
    exact aN
   rintro f w ⟨B6, hf4, hS21⟩
   refine cq (cr ?_)
   refine sQ 12 (yg (.func (.func 80) #[] #[])) (rn (cq (cq (cr ?_))))
   refine sQ 65 (ym (vi (i : Int)) rfl (hf4.g 5 3)) <| sQ 66 (yE (i : Int) 1) (rn ?_)
   refine cw_cond (b := ((i : Int) == 1)) rfl (fun hb3 => ?_) (fun hb3 => ?_)
   ·skip
    have hF6 := ct hF2 hb3
    refine cr ?_
    refine sQ 12 (yg (.func (.func 110) #[] #[])) (rn (cq (cr ?_)))
    refine sQ 68 (ym (.func (.func 110) #[] #[])) <| sQ 69 (yb (aD b1) 0 [vi A, vi B1, vi C, vi D, vi Exp] K4 K1 (hS21.c 1) rfl (hf4.g 4 2)) <| sQ 70 (yb B6 0 (kD_ r_4) K4 K1 (hS21.c 2) rfl (hf4.g 10 5)) ?_
    obtain ⟨⟨r_6, r_7⟩, hc2, hF6⟩ := bI hF6
    refine sc 71 rfl rfl (Yc_clos (g := 110) (vs := [.agg #[vi A, vi B1, vi C, vi D, vi Exp], gD_ r_4]) k_call_110 rfl rfl (clo_args (mc rfl (mc rfl mn))) (c_impl_SubDyadic (TDyadic.mk (TRing.mk A B1 C D) Exp) r_4 _  (hS21.inn0 [] rfl) hc2)) ?_
    rintro _ w_18 ⟨rfl, hd4⟩
    have hS29 := hS21.out00 hd4
    refine sQ 67 (ym (.tuple #[gD_ r_6, .bool r_7])) <| sQ 72 (ye (gD_ r_6)) <| sQ 73 (ye (.bool r_7)) ?_
    refine sS 13 (yN kZ_ 5 hS29 K6) ?_
    rintro _ w_19 ⟨b6, rfl, hS30⟩
    refine s0 (yT 3 5 (aD b6) 48 (gD_ r_6) (kD_ r_6) 0 hS30 K1) ?_
    rintro _ w_20 ⟨rfl, hS31⟩
    refine sQ 14 (yg (.bool r_7)) (rn (cq (cq (cr ?_))))
    refine sQ 74 (ym (.bool r_3) rfl (hf4.g 9 4)) <| sQ 75 (Y_not (p := r_3) rfl rfl) <| sQ 76 (ym (.bool (!r_3))) ?_
    refine sgq 77 (B := (!(!r_3))) (v := .bool r_5) rfl rfl (uF_ 76) (fun hg => (ym (.bool r_5) rfl (hf4.g 11 6))) ?_
    refine sgq 78 (B := (!(!r_3))) (v := .bool (!r_5)) rfl rfl (uF_ 76) (fun hg1 => (Y_not (p := r_5) rfl (gv_of (v := .bool r_5) hg1))) ?_
    refine sQ 79 (Y_or (b := (!r_3)) (z := (!r_5)) rfl rfl rfl rfl) <| sQ 80 (ym (.bool ((!r_3) || (!r_5)))) ?_
    refine sgq 81 (B := (!((!r_3) || (!r_5)))) (v := .bool r_7) rfl rfl (uF_ 80) (fun hg2 => (ym (.bool r_7))) ?_
    refine sgq 82 (B := (!((!r_3) || (!r_5)))) (v := .bool (!r_7)) rfl rfl (uF_ 80) (fun hg3 => (Y_not (p := r_7) rfl (gv_of (v := .bool r_7) hg3))) ?_
    refine sQ 83 (Y_or (b := ((!r_3) || (!r_5))) (z := (!r_7)) rfl rfl rfl rfl) (rn ?_)
    refine cw_cond (b := (((!r_3) || (!r_5)) || (!r_7))) rfl (fun hb4 => ?_) (fun hb4 => ?_)
    ·skip
     have hF7 := ct hF6 hb4
     refine cq (cr ?_)
     refine sQ 84 (Y_buildS (zs := kZ_) (vs := []) (cs := kZ_) K18 K6 rfl mpn rfl) ?_
     refine s0 (yT 0 5 (aD b) 48 gZ_ kZ_ 0 hS31 K1 rfl (hf4.g 2 1)) ?_
     rintro _ w_21 ⟨rfl, hS32⟩
     refine sQ 3 (yg (.bool false)) (rn (ct_ ?_))
     obtain rfl := sI hF7
     obtain rfl := sI hL1
     obtain ⟨rfl, rfl⟩ := pr2 (sI hF1)
     exact ret2 Tryz.results83 (v1 := gZ_) (resAt_cellA (B := aD b) (i := 0) (cs := kZ_) (vs := kZ_) (hf4.g 2 1) K4 K1 (hS32.c 0) rfl rfl) (v2 := .bool false) (resAt_tmp rfl) ⟨rfl, (hS32.sN [])⟩
    ·skip
     have hF8 := cf' hF6 hb4
     refine cw_skip (cr ?_)
     refine sQ 85 (yb (aD b6) 0 (kD_ r_6) K4 K1 (hS31.c 3)) ?_
     refine s0 (yT 1 5 (aD b1) 48 (gD_ r_6) (kD_ r_6) 0 hS31 K1 rfl (hf4.g 4 2)) ?_
     rintro _ w_22 ⟨rfl, hS33⟩
     refine rn (cr ?_)
     refine sQ 86 (yP (i : Int) 1 rfl (hf4.g 16 7)) <| sQ 16 (ym (vi (i64.wrap ((i : Int) + 1)))) (rn ?_)
     obtain rfl := sI hF8
     exact ⟨K7, Nat.lt_succ_self _, i + 1, r_6.Num.A, r_6.Num.B, r_6.Num.C, r_6.Num.D, r_6.Exp, (fc (hf4.g 0 0) (fc (hf4.g 2 1) (fc (hf4.g 4 2) (fc (congrArg (Value.int .i64) (wr_succ hlt1 (show 3 ≤ 9223372036854775807 by decide))) fn_)))), (hS33.sel [0, 1] rfl rfl), (by omega), hL1⟩
   ·skip
    have hF9 := cf' hF2 hb3
    refine cw_skip (cq (cr ?_))
    refine sQ 68 (ym (.func (.func 80) #[] #[])) <| sQ 69 (yb (aD b1) 0 [vi A, vi B1, vi C, vi D, vi Exp] K4 K1 (hS21.c 1) rfl (hf4.g 4 2)) <| sQ 70 (yb B6 0 (kD_ r_4) K4 K1 (hS21.c 2) rfl (hf4.g 10 5)) ?_
    obtain ⟨⟨r_8, r_9⟩, hc3, hF9⟩ := bI hF9
    refine sc 71 rfl rfl (Yc_clos (g := 80) (vs := [.agg #[vi A, vi B1, vi C, vi D, vi Exp], gD_ r_4]) K97 rfl rfl (clo_args (mc rfl (mc rfl mn))) (c_impl_AddDyadic (TDyadic.mk (TRing.mk A B1 C D) Exp) r_4 _  (hS21.inn0 [] rfl) hc3)) ?_
    rintro _ w_23 ⟨rfl, hd5⟩
    have hS34 := hS21.out00 hd5
    refine sQ 67 (ym (.tuple #[gD_ r_8, .bool r_9])) <| sQ 72 (ye (gD_ r_8)) <| sQ 73 (ye (.bool r_9)) ?_
    refine sS 13 (yN kZ_ 5 hS34 K6) ?_
    rintro _ w_24 ⟨b7, rfl, hS35⟩
    refine s0 (yT 3 5 (aD b7) 48 (gD_ r_8) (kD_ r_8) 0 hS35 K1) ?_
    rintro _ w_25 ⟨rfl, hS36⟩
    refine sQ 14 (yg (.bool r_9)) (rn (cq (cq (cr ?_))))
    refine sQ 74 (ym (.bool r_3) rfl (hf4.g 9 4)) <| sQ 75 (Y_not (p := r_3) rfl rfl) <| sQ 76 (ym (.bool (!r_3))) ?_
    refine sgq 77 (B := (!(!r_3))) (v := .bool r_5) rfl rfl (uF_ 76) (fun hg4 => (ym (.bool r_5) rfl (hf4.g 11 6))) ?_
    refine sgq 78 (B := (!(!r_3))) (v := .bool (!r_5)) rfl rfl (uF_ 76) (fun hg5 => (Y_not (p := r_5) rfl (gv_of (v := .bool r_5) hg5))) ?_
    refine sQ 79 (Y_or (b := (!r_3)) (z := (!r_5)) rfl rfl rfl rfl) <| sQ 80 (ym (.bool ((!r_3) || (!r_5)))) ?_
    refine sgq 81 (B := (!((!r_3) || (!r_5)))) (v := .bool r_9) rfl rfl (uF_ 80) (fun hg6 => (ym (.bool r_9))) ?_
    refine sgq 82 (B := (!((!r_3) || (!r_5)))) (v := .bool (!r_9)) rfl rfl (uF_ 80) (fun hg7 => (Y_not (p := r_9) rfl (gv_of (v := .bool r_9) hg7))) ?_
    refine sQ 83 (Y_or (b := ((!r_3) || (!r_5))) (z := (!r_9)) rfl rfl rfl rfl) (rn ?_)
    refine cw_cond (b := (((!r_3) || (!r_5)) || (!r_9))) rfl (fun hb5 => ?_) (fun hb5 => ?_)
    ·skip
     have hF10 := ct hF9 hb5
     refine cq (cr ?_)
     refine sQ 84 (Y_buildS (zs := kZ_) (vs := []) (cs := kZ_) K18 K6 rfl mpn rfl) ?_
     refine s0 (yT 0 5 (aD b) 48 gZ_ kZ_ 0 hS36 K1 rfl (hf4.g 2 1)) ?_
     rintro _ w_26 ⟨rfl, hS37⟩
     refine sQ 3 (yg (.bool false)) (rn (ct_ ?_))
     obtain rfl := sI hF10
     obtain rfl := sI hL1
     obtain ⟨rfl, rfl⟩ := pr2 (sI hF1)
     exact ret2 Tryz.results83 (v1 := gZ_) (resAt_cellA (B := aD b) (i := 0) (cs := kZ_) (vs := kZ_) (hf4.g 2 1) K4 K1 (hS37.c 0) rfl rfl) (v2 := .bool false) (resAt_tmp rfl) ⟨rfl, (hS37.sN [])⟩
    ·skip
     have hF11 := cf' hF9 hb5
     refine cw_skip (cr ?_)
     refine sQ 85 (yb (aD b7) 0 (kD_ r_8) K4 K1 (hS36.c 3)) ?_
     refine s0 (yT 1 5 (aD b1) 48 (gD_ r_8) (kD_ r_8) 0 hS36 K1 rfl (hf4.g 4 2)) ?_
     rintro _ w_27 ⟨rfl, hS38⟩
     refine rn (cr ?_)
     refine sQ 86 (yP (i : Int) 1 rfl (hf4.g 16 7)) <| sQ 16 (ym (vi (i64.wrap ((i : Int) + 1)))) (rn ?_)
     obtain rfl := sI hF11
     exact ⟨K7, Nat.lt_succ_self _, i + 1, r_8.Num.A, r_8.Num.B, r_8.Num.C, r_8.Num.D, r_8.Exp, (fc (hf4.g 0 0) (fc (hf4.g 2 1) (fc (hf4.g 4 2) (fc (congrArg (Value.int .i64) (wr_succ hlt1 (show 3 ≤ 9223372036854775807 by decide))) fn_)))), (hS38.sel [0, 1] rfl rfl), (by omega), hL1⟩
 ·skip
  obtain rfl : k_ = 0 := by have h := of_decide_eq_false hlt; omega
  refine cw_exit rfl ?_
  obtain rfl := sI hL
  refine cq (cr ?_)
  refine sQ 87 (yb (aD b1) 0 [vi A, vi B1, vi C, vi D, vi Exp] K4 K1 (hS4.c 1) rfl (hf.g 4 2)) ?_
  refine s0 (yT 0 5 (aD b) 48 (.agg #[vi A, vi B1, vi C, vi D, vi Exp]) [vi A, vi B1, vi C, vi D, vi Exp] 0 hS4 K1 rfl (hf.g 2 1)) ?_
  rintro _ w_28 ⟨rfl, hS39⟩
  refine sQ 3 (yg (.bool true)) (rn (ct_ ?_))
  obtain ⟨rfl, rfl⟩ := pr2 (sI hF1)
  exact ret2 Tryz.results83 (v1 := .agg #[vi A, vi B1, vi C, vi D, vi Exp]) (resAt_cellA (B := aD b) (i := 0) (cs := [vi A, vi B1, vi C, vi D, vi Exp]) (vs := [vi A, vi B1, vi C, vi D, vi Exp]) (hf.g 2 1) K4 K1 (hS39.c 0) rfl rfl) (v2 := .bool true) (resAt_tmp rfl) ⟨rfl, (hS39.sN [])⟩

theorem c_impl_IsValidBloch (b : TBloch) (B : Option Addr) (c n : Nat) (w0 : World) (hn : b.Cells.length = n) (hS : ST w0 [] w0 [] [⟨B, (b.Cells.flatMap eN0)⟩]) {r_ : Bool} (hF : F_impl_IsValidBloch b = some r_) :
  CV Tryz.prog 51 #[.agg #[.slice B n c]] w0 (fun v w' => v = .bool r_ ∧ ST w0 [] w' [] []) := by
 subst hn
 unfold F_impl_IsValidBloch at hF
 refine cv_of_cw 59 Tryz.func51 rfl Tryz.ntmps51 rfl ?_
 refine cq (cr ?_)
 refine sS 1 (yB 54 (gB_ b B c) (kB_ b B c) 1 hS) ?_
 rintro _ w_ ⟨b1, rfl, hS1⟩
 refine sQ 2 (yg (.bool false)) (rn (cq (cq (cr ?_))))
 refine sQ 9 (yd (aD b1) 0 0 K40 K11) <| sQ 10 (yl (aD b1) 0 (kB_ b B c) (.slice B b.Cells.length c) K16 (hS1.c 0)) <| sQ 11 (Y_len (B := B) (m := b.Cells.length) (c := c) K9 rfl rfl) <| sQ 12 (Y_ne (k := .i64) (a := (b.Cells.length : Int)) (b := 9) rfl rfl rfl) <| sQ 13 (ym (.bool ((b.Cells.length : Int) != 9))) ?_
 refine sgq 14 (B := (!((b.Cells.length : Int) != 9))) (v := pt (aD b1) 0) rfl rfl (uF_ 13) (fun hg => (yd (aD b1) 0 0 K40 K11)) ?_
 refine sgq 15 (B := (!((b.Cells.length : Int) != 9))) (v := .slice B b.Cells.length c) rfl rfl (uF_ 13) (fun hg1 => (yl (aD b1) 0 (kB_ b B c) (.slice B b.Cells.length c) K16 (hS1.c 0) rfl (gv_of (v := pt (aD b1) 0) hg1))) ?_
 obtain ⟨r_1, hc, hF⟩ := bI hF
 refine sgc 16 (B := (!((b.Cells.length : Int) != 9))) (v := .bool r_1) (F := hS1.fn) rfl rfl (uF_ 13) hS1 (fun hg2 => (yC [.slice B b.Cells.length c, .func (.func 81) #[] #[]] k_call_64 (CV.mono (c_slices_ContainsFunc_impl_Dyadic_impl_Dyadic b.Cells F_impl_IsValidBloch_1 B c b.Cells.length 81 (#[]) [] _ rfl k_call_81 (fun w hw x_0 y_0 h_ => c_impl_IsValidBloch_1 x_0  w  hw h_) (hS1.inn0 [(true, 0)] rfl) (gb_inv hc hg2)) (by rintro _ _ ⟨rfl, h⟩; exact ⟨rfl, hS1.out00 h⟩)) rfl (mc (gv_of (v := .slice B b.Cells.length c) hg2) (mc rfl mn)))) ?_
 rintro w_1 hS2
 refine sQ 17 (Y_or (b := ((b.Cells.length : Int) != 9)) (z := r_1) rfl rfl rfl rfl) (rn ?_)
 refine cw_cond (b := (((b.Cells.length : Int) != 9) || r_1)) rfl (fun hb => ?_) (fun hb => ?_)
 ·skip
  have hF1 := ct hF hb
  refine cq (cr ?_)
  refine sQ 2 (yg (.bool false)) (rn (ct_ ?_))
  obtain rfl := sI hF1
  exact ret1 Tryz.results51 (v1 := .bool false) (resAt_tmp rfl) ⟨rfl, (hS2.sN [])⟩
 ·skip
  have hF2 := cf' hF hb
  refine cw_skip (cq ?_)
  obtain ⟨r_2, hc1, hF2⟩ := bI hF2
  obtain ⟨⟨r_3, r_4⟩, hc2, hF2⟩ := bI hF2
  refine ra_start (hS2.se [0]).fn (by kernel_rfl) ?_
  have hS5 := hS2.drew
  refine rq 0 19 (v := pt (aD b1) 0) rfl (hS5.se [0]) (fun w' hw' => (yd (aD b1) 0 0 K40 K11)) ?_
  refine rq 1 20 (v := .slice B b.Cells.length c) rfl (hS5.se [0]) (fun w' hw' => (yl (aD b1) 0 (kB_ b B c) (.slice B b.Cells.length c) K16 (ST.cf hw' (i := 0) rfl))) ?_
  refine rq 2 21 (v := pt (aD b1) 0) rfl (hS5.se [0]) (fun w' hw' => (yd (aD b1) 0 0 K40 K11)) ?_
  refine rq 3 22 (v := .slice B b.Cells.length c) rfl (hS5.se [0]) (fun w' hw' => (yl (aD b1) 0 (kB_ b B c) (.slice B b.Cells.length c) K16 (ST.cf hw' (i := 0) rfl))) ?_
  refine rA [4] ?_
  refine rC 23 4 rfl (yC (kB_ b B c) k_call_49 (c_impl_transposed b.Cells B c b.Cells.length _ rfl (hS5.inn0 [(true, 0)] rfl) hc1)) ?_ ?_
  ·rintro _ w_2 ⟨B1, c1, rfl, hd⟩
   have hS6 := hS5.out0 hd
   refine ⟨(hS6.se [0]), ?_⟩
   refine rA [5] ?_
   refine rC 24 5 rfl (yC [.slice B b.Cells.length c, .slice B1 r_2.length c1] K124 (c_impl_mulBloch b.Cells r_2 B c b.Cells.length B1 c1 r_2.length _ rfl rfl (hS6.inn0 [(true, 0), (false, 1)] rfl) hc2)) ?_ ?_
   ·rintro _ w_3 ⟨B2, c2, rfl, hd1⟩
    have hS7 := hS6.out0 hd1
    refine ⟨(hS7.se [0]), ?_⟩
    refine rq 6 18 (v := .tuple #[.slice B2 r_3.length c2, .bool r_4]) rfl (hS7.se [0]) (fun w' hw' => (ym (.tuple #[.slice B2 r_3.length c2, .bool r_4]))) ?_
    refine rq 7 25 (v := .slice B2 r_3.length c2) rfl (hS7.se [0]) (fun w' hw' => (ye (.slice B2 r_3.length c2))) ?_
    refine rq 8 26 (v := .bool r_4) rfl (hS7.se [0]) (fun w' hw' => (ye (.bool r_4))) ?_
    refine rq 9 3 (v := .slice B2 r_3.length c2) rfl (hS7.se [0]) (fun w' hw' => (yg (.slice B2 r_3.length c2))) ?_
    refine rq 10 4 (v := .bool r_4) rfl (hS7.se [0]) (fun w' hw' => (yg (.bool r_4))) ?_
    refine ra_done (by kernel_rfl) ?_
    refine cq (cr ?_)
    refine sQ 28 (yd (aD b1) 0 0 K40 K11) <| sQ 29 (yl (aD b1) 0 (kB_ b B c) (.slice B b.Cells.length c) K16 (hS7.c 0)) ?_
    obtain ⟨⟨r_5, r_6⟩, hc3, hF2⟩ := bI hF2
    refine sc 30 rfl rfl (yC (kB_ b B c) k_call_83 (c_impl_determinant b.Cells B c b.Cells.length _ rfl (hS7.inn0 [(true, 0)] rfl) hc3)) ?_
    rintro _ w_4 ⟨rfl, hd2⟩
    have hS8 := hS7.out00 hd2
    refine sQ 27 (ym (.tuple #[gD_ r_5, .bool r_6])) <| sQ 31 (ye (gD_ r_5)) <| sQ 32 (ye (.bool r_6)) ?_
    refine sS 5 (yN kZ_ 5 hS8 K6) ?_
    rintro _ w_5 ⟨b2, rfl, hS9⟩
    refine s0 (yT 3 5 (aD b2) 48 (gD_ r_5) (kD_ r_5) 0 hS9 K1) ?_
    rintro _ w_6 ⟨rfl, hS10⟩
    refine sQ 6 (yg (.bool r_6)) (rn (cq (cq ?_)))
    obtain ⟨r_7, hc4, hF2⟩ := bI hF2
    refine ra_start (hS10.se [0, 1, 2, 3]).fn (by kernel_rfl) ?_
    have hS12 := hS10.drew
    refine rq 0 33 (v := .bool r_4) rfl (hS12.se [0, 1, 2, 3]) (fun w' hw' => (ym (.bool r_4))) ?_
    refine rq 1 34 (v := .bool (!r_4)) rfl (hS12.se [0, 1, 2, 3]) (fun w' hw' => (Y_not (p := r_4) rfl rfl)) ?_
    refine rq 2 35 (v := .bool (!r_4)) rfl (hS12.se [0, 1, 2, 3]) (fun w' hw' => (ym (.bool (!r_4)))) ?_
    refine ra_gq 3 36 (B := (!(!r_4))) (v := .bool r_6) rfl rfl rfl (uF_ 35) (by kernel_rfl) (by kernel_rfl) (by kernel_rfl) (hS12.se [0, 1, 2, 3]) (fun hg3 w' hw' => (ym (.bool r_6))) ?_
    refine ra_gq 4 37 (B := (!(!r_4))) (v := .bool (!r_6)) rfl rfl rfl (uF_ 35) (by kernel_rfl) (by kernel_rfl) (by kernel_rfl) (hS12.se [0, 1, 2, 3]) (fun hg4 w' hw' => (Y_not (p := r_6) rfl (gv_of (v := .bool r_6) hg4))) ?_
    refine rq 5 38 (v := .bool ((!r_4) || (!r_6))) rfl (hS12.se [0, 1, 2, 3]) (fun w' hw' => (Y_or (b := (!r_4)) (z := (!r_6)) rfl rfl rfl rfl)) ?_
    refine rq 6 39 (v := .bool ((!r_4) || (!r_6))) rfl (hS12.se [0, 1, 2, 3]) (fun w' hw' => (ym (.bool ((!r_4) || (!r_6))))) ?_
    refine ra_gq 7 40 (B := (!((!r_4) || (!r_6)))) (v := gD_ r_5) rfl rfl rfl (uF_ 39) (by kernel_rfl) (by kernel_rfl) (by kernel_rfl) (hS12.se [0, 1, 2, 3]) (fun hg5 w' hw' => (yb (aD b2) 0 (kD_ r_5) K4 K1 (ST.cf hw' (i := 3) rfl))) ?_
    refine rA [8] ?_
    refine ra_gc 41 (i := 8) (B := (!((!r_4) || (!r_6)))) (v := gD_ r_7) (F := hS12.fn) rfl rfl rfl (uF_ 39) hS12 (fun hg6 => (yC [vi 1] K87 (CV.mono (c_impl_whole 1 _  (hS12.inn0 [] rfl) (gb_inv hc4 hg6)) (by rintro _ _ ⟨rfl, h⟩; exact ⟨rfl, hS12.out00 h⟩)))) ?_ ?_
    ·rintro w_7 hS13
     refine ⟨(hS13.se [0, 1, 2, 3]), ?_⟩
     refine ra_gq 9 42 (B := (!((!r_4) || (!r_6)))) (v := .bool (!(((r_5.Num.A == r_7.Num.A) && ((r_5.Num.B == r_7.Num.B) && ((r_5.Num.C == r_7.Num.C) && ((r_5.Num.D == r_7.Num.D) && true)))) && ((r_5.Exp == r_7.Exp) && true)))) rfl rfl rfl (uF_ 39) (by kernel_rfl) (by kernel_rfl) (by kernel_rfl) (hS13.se [0, 1, 2, 3]) (fun hg7 w' hw' => (Y_neA (xs := #[vi r_5.Num.A, vi r_5.Num.B, vi r_5.Num.C, vi r_5.Num.D, vi r_5.Exp]) (ys := #[vi r_7.Num.A, vi r_7.Num.B, vi r_7.Num.C, vi r_7.Num.D, vi r_7.Exp]) (b := (((r_5.Num.A == r_7.Num.A) && ((r_5.Num.B == r_7.Num.B) && ((r_5.Num.C == r_7.Num.C) && ((r_5.Num.D == r_7.Num.D) && true)))) && ((r_5.Exp == r_7.Exp) && true))) K100 rfl (gv_of (v := gD_ r_5) hg7) (gv_of (v := gD_ r_7) hg7) (eqr_struct (xs := kD_ r_5) (ys := kD_ r_7) K101 K102 (pts_ag (us := kR_ r_5.Num) (vs := kR_ r_7.Num) K10 K5 rfl rfl (eqr_struct (xs := kR_ r_5.Num) (ys := kR_ r_7.Num) K103 K104 (pts_sc K0 rfl rfl (eqr_int K23) (pts_sc K0 rfl rfl (eqr_int K23) (pts_sc K0 rfl rfl (eqr_int K23) (pts_sc K0 rfl rfl (eqr_int K23) pts_nil))))) (pts_sc K0 rfl rfl (eqr_int K23) pts_nil))))) ?_
     refine ra_q 10 43 (v := .bool (((!r_4) || (!r_6)) || (!(((r_5.Num.A == r_7.Num.A) && ((r_5.Num.B == r_7.Num.B) && ((r_5.Num.C == r_7.Num.C) && ((r_5.Num.D == r_7.Num.D) && true)))) && ((r_5.Exp == r_7.Exp) && true))))) rfl rfl rfl (by kernel_rfl) (by kernel_rfl) (by kernel_rfl) (hS13.se [0, 1, 2, 3]) (fun w' hw' => (Y_or (b := ((!r_4) || (!r_6))) (z := (!(((r_5.Num.A == r_7.Num.A) && ((r_5.Num.B == r_7.Num.B) && ((r_5.Num.C == r_7.Num.C) && ((r_5.Num.D == r_7.Num.D) && true)))) && ((r_5.Exp == r_7.Exp) && true)))) rfl rfl rfl rfl)) ?_
     refine ra_done (by kernel_rfl) ?_
     refine cw_cond (b := (((!r_4) || (!r_6)) || (!(((r_5.Num.A == r_7.Num.A) && ((r_5.Num.B == r_7.Num.B) && ((r_5.Num.C == r_7.Num.C) && ((r_5.Num.D == r_7.Num.D) && true)))) && ((r_5.Exp == r_7.Exp) && true))))) rfl (fun hb1 => ?_) (fun hb1 => ?_)
     ·skip
      have hF3 := ct hF2 hb1
      refine cq (cr ?_)
      refine sQ 2 (yg (.bool false)) (rn (ct_ ?_))
      obtain rfl := sI hF3
      exact ret1 Tryz.results51 (v1 := .bool false) (resAt_tmp rfl) ⟨rfl, (hS13.sN [])⟩
     ·skip
      have hF4 := cf' hF2 hb1
      refine cw_skip (cq (cq (cr ?_)))
      refine sQ 44 (ym (.slice B2 r_3.length c2)) <| sQ 45 (Y_len (B := B2) (m := r_3.length) (c := c2) K9 rfl rfl) <| sQ 46 (ym (vi 0)) (rn ?_)
      obtain ⟨hN, hF4⟩ := chk_inv hF4
      obtain ⟨z, hz, hF5⟩ := bI hF4
      refine cw_block ?_
      refine cw_loop (fun k f w => ∃ (i : Nat), FF f [(44, .slice B2 r_3.length c2), (45, vi (r_3.length : Int)), (46, vi (i : Int))] ∧ ST w0 [] w [⟨B2, 48, (r_3.flatMap eN0), c2 * 5⟩] [⟨B, (b.Cells.flatMap eN0)⟩] ∧ i + k = r_3.length ∧ forX (F_impl_IsValidBloch_l1 r_3) k i () = some z) r_3.length ⟨0, (fc rfl (fc rfl (fc rfl fn_))), (hS13.sel [2] rfl rfl), Nat.zero_add _, hz⟩ ?_
      rintro k_ f w ⟨i, hf, hS14, hik, hL⟩
      refine cq (cr ?_)
      refine sQ 47 (yL (i : Int) (r_3.length : Int) rfl (hf.g 46 2) (hf.g 45 1)) (rn (cq ?_))
      refine cw_cond (b := (decide ((i : Int) < (r_3.length : Int)))) rfl (fun hlt => ?_) (fun hlt => ?_)
      ·skip
       have hlt1 : i < r_3.length := by have h := of_decide_eq_true hlt; omega
       obtain ⟨K7, rfl⟩ : ∃ k2, k_ = k2 + 1 := ⟨k_ - 1, by omega⟩
       obtain ⟨y, hb2, hL1⟩ := forX_go hL
       unfold F_impl_IsValidBloch_l1 at hb2
       refine cw_skip (cq (cw_block (cq (cr ?_))))
       refine sQ 48 (ym (vi (i : Int)) rfl (hf.g 46 2)) ?_
       obtain ⟨x, hx, hb2⟩ := bI hb2
       refine sQ 49 (Y_index (B := B2) (m := r_3.length) (c := c2) (k := .i64) (i := (i : Int)) K9 K1 rfl (hf.g 44 0) (hf.g 46 2) (gi_isSome eN2 rfl (hS14.c 0) hx) (getI_nn hx) (getI_ltI hx rfl)) <| sQ 50 (ya B2 ((i : Int).toNat * 5) (r_3.flatMap eN0) (kD_ x) K4 K1 (hS14.c 0) rfl rfl (eN2 x) (gi_seg eN2 hx)) ?_
       refine sS 8 (yN kZ_ 5 hS14 K6) ?_
       rintro _ w_8 ⟨b3, rfl, hS15⟩
       refine sQ 7 (yg (vi (i : Int))) ?_
       refine s0 (yT 1 5 (aD b3) 48 (gD_ x) (kD_ x) 0 hS15 K1) ?_
       rintro _ w_9 ⟨rfl, hS16⟩
       refine rn (cq ?_)
       obtain ⟨r_8, hc5, hb2⟩ := bI hb2
       obtain ⟨r_9, hc6, hb2⟩ := bI hb2
       refine ra_start (hS16.se [0, 1]).fn (by kernel_rfl) ?_
       have hS19 := hS16.drew
       refine rq 0 51 (v := gD_ x) rfl (hS19.se [0, 1]) (fun w' hw' => (yb (aD b3) 0 (kD_ x) K4 K1 (ST.cf hw' (i := 1) rfl))) ?_
       refine rq 1 52 (v := vi (i : Int)) rfl (hS19.se [0, 1]) (fun w' hw' => (ym (vi (i : Int)))) ?_
       refine rq 2 53 (v := vi (Int.tmod (i : Int) 4)) rfl (hS19.se [0, 1]) (fun w' hw' => (Y_rem (k := .i64) (a := (i : Int)) (b := 4) rfl rfl rfl (by decide))) ?_
       refine rq 3 54 (v := .bool ((Int.tmod (i : Int) 4) == 0)) rfl (hS19.se [0, 1]) (fun w' hw' => (yE (Int.tmod (i : Int) 4) 0)) ?_
       refine rA [4] ?_
       refine rC 55 4 rfl (yC [.bool ((Int.tmod (i : Int) 4) == 0)] K119 (c_impl_small ((Int.tmod (i : Int) 4) == 0) _  (hS19.inn0 [] rfl) hc5)) ?_ ?_
       ·rintro _ w_10 ⟨rfl, hd3⟩
        have hS20 := hS19.out00 hd3
        refine ⟨(hS20.se [0, 1]), ?_⟩
        refine rA [5] ?_
        refine rC 56 5 rfl (yC [vi r_8] K87 (c_impl_whole r_8 _  (hS20.inn0 [] rfl) hc6)) ?_ ?_
        ·rintro _ w_11 ⟨rfl, hd4⟩
         have hS21 := hS20.out00 hd4
         refine ⟨(hS21.se [0, 1]), ?_⟩
         refine ra_q 6 57 (v := .bool (!(((x.Num.A == r_9.Num.A) && ((x.Num.B == r_9.Num.B) && ((x.Num.C == r_9.Num.C) && ((x.Num.D == r_9.Num.D) && true)))) && ((x.Exp == r_9.Exp) && true)))) rfl rfl rfl (by kernel_rfl) (by kernel_rfl) (by kernel_rfl) (hS21.se [0, 1]) (fun w' hw' => (Y_neA (xs := #[vi x.Num.A, vi x.Num.B, vi x.Num.C, vi x.Num.D, vi x.Exp]) (ys := #[vi r_9.Num.A, vi r_9.Num.B, vi r_9.Num.C, vi r_9.Num.D, vi r_9.Exp]) (b := (((x.Num.A == r_9.Num.A) && ((x.Num.B == r_9.Num.B) && ((x.Num.C == r_9.Num.C) && ((x.Num.D == r_9.Num.D) && true)))) && ((x.Exp == r_9.Exp) && true))) K100 rfl rfl rfl (eqr_struct (xs := kD_ x) (ys := kD_ r_9) K101 K102 (pts_ag (us := kR_ x.Num) (vs := kR_ r_9.Num) K10 K5 rfl rfl (eqr_struct (xs := kR_ x.Num) (ys := kR_ r_9.Num) K103 K104 (pts_sc K0 rfl rfl (eqr_int K23) (pts_sc K0 rfl rfl (eqr_int K23) (pts_sc K0 rfl rfl (eqr_int K23) (pts_sc K0 rfl rfl (eqr_int K23) pts_nil))))) (pts_sc K0 rfl rfl (eqr_int K23) pts_nil))))) ?_
         refine ra_done (by kernel_rfl) ?_
         refine cw_cond (b := (!(((x.Num.A == r_9.Num.A) && ((x.Num.B == r_9.Num.B) && ((x.Num.C == r_9.Num.C) && ((x.Num.D == r_9.Num.D) && true)))) && ((x.Exp == r_9.Exp) && true)))) rfl (fun hb3 => ?_) (fun hb3 => ?_)
         ·skip
          have hF6 := ct hb2 hb3
          refine cq (cr ?_)
          refine sQ 2 (yg (.bool false)) (rn (ct_ ?_))
          obtain rfl := sI hF6
          obtain rfl := sI hL1
          obtain rfl := sI hF5
          exact ret1 Tryz.results51 (v1 := .bool false) (resAt_tmp rfl) ⟨rfl, (hS21.sN [])⟩
         ·skip
          have hF7 := cf' hb2 hb3
          refine cw_skip (cr ?_)
          refine sQ 58 (yP (i : Int) 1 rfl (hf.g 46 2)) <| sQ 46 (ym (vi (i64.wrap ((i : Int) + 1)))) (rn ?_)
          obtain rfl := sI hF7
          exact ⟨K7, Nat.lt_succ_self _, i + 1, (fc (hf.g 44 0) (fc (hf.g 45 1) (fc (congrArg (Value.int .i64) (wr_succ hlt1 hN)) fn_))), (hS21.sel [0] rfl rfl), (by omega), hL1⟩
        exact aN
       exact aN
      ·skip
       obtain rfl : k_ = 0 := by have h := of_decide_eq_false hlt; omega
       refine cw_exit rfl ?_
       obtain rfl := sI hL
       refine cq (cr ?_)
       refine sQ 2 (yg (.bool true)) (rn (ct_ ?_))
       obtain rfl := sI hF5
       exact ret1 Tryz.results51 (v1 := .bool true) (resAt_tmp rfl) ⟨rfl, (hS14.sN [])⟩
    exact aN
   exact aN
  exact aN

theorem c_impl_CliffordIndex (b : TBloch) (B : Option Addr) (c n : Nat) (w0 : World) (hn : b.Cells.length = n) (hS : ST w0 [] w0 [] [⟨B, (b.Cells.flatMap eN0)⟩, ⟨(aD 0), [vi 1, vi 0, vi 0, vi 0, vi 2]⟩]) {r_ : Int} {r_1 : Bool} (hF : F_impl_CliffordIndex b = some (r_, r_1)) :
  CV Tryz.prog 23 #[.agg #[.slice B n c]] w0 (fun v w' => v = .tuple #[vi r_, .bool r_1] ∧ ST w0 [] w' [] []) := by
 subst hn
 unfold F_impl_CliffordIndex at hF
 refine cv_of_cw 28 Tryz.func23 rfl Tryz.ntmps23 rfl ?_
 refine cq (cr ?_)
 refine sS 1 (yB 54 (gB_ b B c) (kB_ b B c) 1 hS) ?_
 rintro _ w_ ⟨b1, rfl, hS1⟩
 refine sQ 2 (yg (vi 0)) <| sQ 3 (yg (.bool false)) (rn (cq (cq (cr ?_))))
 refine sQ 8 (yb (aD b1) 0 (kB_ b B c) K51 K26 (hS1.c 0)) ?_
 obtain ⟨r_2, hc, hF⟩ := bI hF
 refine sc 9 rfl rfl (yC [gB_ b B c] k_call_51 (c_impl_IsValidBloch b B c b.Cells.length _ rfl (hS1.inn0 [(true, 0)] rfl) hc)) ?_
 rintro _ w_1 ⟨rfl, hd⟩
 have hS2 := hS1.out00 hd
 refine sQ 10 (Y_not (p := r_2) rfl rfl) (rn ?_)
 refine cw_cond (b := (!r_2)) rfl (fun hb => ?_) (fun hb => ?_)
 ·skip
  have hF1 := ct hF hb
  refine cq (cr ?_)
  refine sQ 2 (yg (vi 0)) <| sQ 3 (yg (.bool false)) (rn (ct_ ?_))
  obtain ⟨rfl, rfl⟩ := pr2 (sI hF1)
  exact ret2 Tryz.results23 (v1 := vi 0) (resAt_tmp rfl) (v2 := .bool false) (resAt_tmp rfl) ⟨rfl, (hS2.sN [])⟩
 ·skip
  have hF2 := cf' hF hb
  refine cw_skip (cq (cr ?_))
  obtain ⟨⟨r_3, r_4⟩, hc1, hF2⟩ := bI hF2
  refine sc 12 rfl rfl (yC [] k_call_52 (c_impl_cliffordList  _  (hS2.inn0 [(true, 1)] rfl) hc1)) ?_
  rintro _ w_2 ⟨B1, c1, B2, c2, D, rfl, hD, ho, hd1⟩
  have hS3 := ST.outR0 hS2 hd1 ho (sk 1 (fun _ h => by cases h))
  have ho1 : Org w0 [] [⟨B, (b.Cells.flatMap eN0)⟩, ⟨(aD 0), [vi 1, vi 0, vi 0, vi 0, vi 2]⟩] (((D.flatMap eN1) ++ [])) := org_trans0 hS2 ho (org_cons (org_mem (i := 1) rfl) org_nil)
  have hS4 : ST w0 [] _ [⟨aD b1, 54, kB_ b B c, 1⟩, ⟨B1, 9, (r_3.flatMap encS), c1 * 1⟩, ⟨B2, 24, (D.flatMap eN3), c2 * 1⟩] (⟨B, (b.Cells.flatMap eN0)⟩ :: ⟨(aD 0), [vi 1, vi 0, vi 0, vi 0, vi 2]⟩ :: ((D.flatMap eN1) ++ [])) := ST.subR hS3 (subc (mAr _ (mt 0)) (subc (mAr _ (mt 1)) (suba (fun r h => mAl _ (app_mem (fun _ h => mOd (i := 0) (mAl _ h)) h)) (fun _ h => by cases h))))
  refine sQ 11 (ym (.tuple #[.slice B1 r_3.length c1, .slice B2 r_4.length c2])) <| sQ 13 (ye (.slice B1 r_3.length c1)) <| sQ 14 (ye (.slice B2 r_4.length c2)) <| sQ 4 (yg (.slice B1 r_3.length c1)) <| sQ 5 (yg (.slice B2 r_4.length c2)) (rn (cq (cq (cr ?_))))
  refine sQ 15 (ym (.slice B2 r_4.length c2)) <| sQ 16 (Y_len (B := B2) (m := r_4.length) (c := c2) K44 rfl rfl) <| sQ 17 (ym (vi 0)) (rn ?_)
  obtain ⟨hN, hF2⟩ := chk_inv hF2
  obtain ⟨z, hz, hF3⟩ := bI hF2
  refine cw_block ?_
  refine cw_loop (fun k f w => ∃ (i : Nat) (D1 : List (Hd × (List TDyadic))), FF f [(1, pt (aD b1) 0), (15, .slice B2 r_4.length c2), (16, vi (r_4.length : Int)), (17, vi (i : Int))] ∧ D1.map Prod.snd = r_4 ∧ Org w0 [] [⟨B, (b.Cells.flatMap eN0)⟩, ⟨(aD 0), [vi 1, vi 0, vi 0, vi 0, vi 2]⟩] (D1.flatMap eN1) ∧ ST w0 [] w [⟨aD b1, 54, kB_ b B c, 1⟩, ⟨B2, 24, (D1.flatMap eN3), c2 * 1⟩] (⟨B, (b.Cells.flatMap eN0)⟩ :: ⟨(aD 0), [vi 1, vi 0, vi 0, vi 0, vi 2]⟩ :: ((D1.flatMap eN1) ++ [])) ∧ i + k = r_4.length ∧ forX (F_impl_CliffordIndex_l1 r_4 b) k i () = some z) r_4.length ⟨0, D, (fc rfl (fc rfl (fc rfl (fc rfl fn_)))), hD, (org_sub ho1 (fun _ h => mOd (i := 0) (mAl _ h))), (hS4.sel [0, 2] rfl rfl), Nat.zero_add _, hz⟩ ?_
  rintro k_ f w ⟨i, D1, hf, hD1, ho2, hS5, hik, hL⟩
  refine cq (cr ?_)
  refine sQ 18 (yL (i : Int) (r_4.length : Int) rfl (hf.g 17 3) (hf.g 16 2)) (rn (cq ?_))
  refine cw_cond (b := (decide ((i : Int) < (r_4.length : Int)))) rfl (fun hlt => ?_) (fun hlt => ?_)
  ·skip
   have hlt1 : i < r_4.length := by have h := of_decide_eq_true hlt; omega
   obtain ⟨K7, rfl⟩ : ∃ k2, k_ = k2 + 1 := ⟨k_ - 1, by omega⟩
   obtain ⟨y, hb1, hL1⟩ := forX_go hL
   unfold F_impl_CliffordIndex_l1 at hb1
   refine cw_skip (cq (cw_block (cq (cr ?_))))
   refine sQ 19 (ym (vi (i : Int)) rfl (hf.g 17 3)) ?_
   obtain ⟨x, hx, hb1⟩ := bI hb1
   obtain ⟨⟨B3, c3⟩, hp⟩ := getI_snd hD1 hx
   refine sQ 20 (Y_index (B := B2) (m := r_4.length) (c := c2) (k := .i64) (i := (i : Int)) K44 K11 rfl (hf.g 15 1) (hf.g 17 3) (gi_isSome encD_SDyadic_len rfl (hS5.c 1) hp) (getI_nn hp) (getI_ltI hp (dl_len hD1))) ?_
   have hm : (⟨B3, (x.flatMap eN0)⟩ : Ro) ∈ ((⟨B, (b.Cells.flatMap eN0)⟩ :: ⟨(aD 0), [vi 1, vi 0, vi 0, vi 0, vi 2]⟩ :: ((D1.flatMap eN1) ++ [])) : List Ro) := app_mem (fun r_ (h : r_ ∈ ((D1.flatMap eN1) : List Ro)) => mOd (i := 2) (show r_ ∈ ((((D1.flatMap eN1) ++ [])) : List Ro) from mAl _ h)) (row_mem (rw_ := eN1) hp _ (mt 0))
   have hS6 : ST w0 [] _ [⟨aD b1, 54, kB_ b B c, 1⟩, ⟨B2, 24, (D1.flatMap eN3), c2 * 1⟩] (⟨B3, (x.flatMap eN0)⟩ :: ⟨B, (b.Cells.flatMap eN0)⟩ :: ⟨(aD 0), [vi 1, vi 0, vi 0, vi 0, vi 2]⟩ :: ((D1.flatMap eN1) ++ [])) := ST.subR hS5 (subc hm (fun _ h => h))
   refine sQ 21 (yl B2 ((i : Int).toNat * 1) (D1.flatMap eN3) (.slice B3 x.length c3) K16 (hS6.c 1) rfl rfl (gi_at0 encD_SDyadic_len hp rfl)) <| sQ 6 (yg (vi (i : Int))) <| sQ 7 (yg (.slice B3 x.length c3)) (rn (cq (cr ?_)))
   refine sQ 22 (ym (.slice B3 x.length c3)) <| sQ 23 (yd (aD b1) 0 0 K40 K11 rfl (hf.g 1 0)) <| sQ 24 (yl (aD b1) 0 (kB_ b B c) (.slice B b.Cells.length c) K16 (hS6.c 0)) ?_
   obtain ⟨r_5, hc2, hb1⟩ := bI hb1
   refine sc 25 rfl rfl (yC [.slice B3 x.length c3, .slice B b.Cells.length c] K122 (c_slices_Equal_impl_Dyadic_impl_Dyadic x b.Cells B3 c3 x.length B c b.Cells.length _ rfl rfl (hS6.inn0 [(true, 0), (true, 1)] rfl) hc2)) ?_
   rintro _ w_3 ⟨rfl, hd2⟩
   have hS7 := hS6.out00 hd2
   refine rn ?_
   refine cw_cond (b := r_5) rfl (fun hb2 => ?_) (fun hb2 => ?_)
   ·skip
    have hF4 := ct hb1 hb2
    refine cq (cr ?_)
    refine sQ 26 (ym (vi (i : Int))) <| sQ 2 (yg (vi (i : Int))) <| sQ 3 (yg (.bool true)) (rn (ct_ ?_))
    obtain rfl := sI hF4
    obtain rfl := sI hL1
    obtain ⟨rfl, rfl⟩ := pr2 (sI hF3)
    exact ret2 Tryz.results23 (v1 := vi (i : Int)) (resAt_tmp rfl) (v2 := .bool true) (resAt_tmp rfl) ⟨rfl, (hS7.sN [])⟩
   ·skip
    have hF5 := cf' hb1 hb2
    refine cw_skip (cr ?_)
    refine sQ 27 (yP (i : Int) 1 rfl (hf.g 17 3)) <| sQ 17 (ym (vi (i64.wrap ((i : Int) + 1)))) (rn ?_)
    obtain rfl := sI hF5
    have hS8 : ST w0 [] _ [⟨aD b1, 54, kB_ b B c, 1⟩, ⟨B2, 24, (D1.flatMap eN3), c2 * 1⟩] (⟨B, (b.Cells.flatMap eN0)⟩ :: ⟨(aD 0), [vi 1, vi 0, vi 0, vi 0, vi 2]⟩ :: ((D1.flatMap eN1) ++ [])) := ST.subR hS7 (sk 1 (sk 2 (suba (fun r_ (h : r_ ∈ ((D1.flatMap eN1) : List Ro)) => mOd (i := 3) (show r_ ∈ ((((D1.flatMap eN1) ++ [])) : List Ro) from mAl _ h)) (fun _ h => by cases h))))
    exact ⟨K7, Nat.lt_succ_self _, i + 1, D1, (fc (hf.g 1 0) (fc (hf.g 15 1) (fc (hf.g 16 2) (fc (congrArg (Value.int .i64) (wr_succ hlt1 hN)) fn_)))), hD1, ho2, (hS8.sel [0, 1] rfl rfl), (by omega), hL1⟩
  ·skip
   obtain rfl : k_ = 0 := by have h := of_decide_eq_false hlt; omega
   refine cw_exit rfl ?_
   obtain rfl := sI hL
   refine cq (cr ?_)
   refine sQ 2 (yg (vi 0)) <| sQ 3 (yg (.bool false)) (rn (ct_ ?_))
   obtain ⟨rfl, rfl⟩ := pr2 (sI hF3)
   exact ret2 Tryz.results23 (v1 := vi 0) (resAt_tmp rfl) (v2 := .bool false) (resAt_tmp rfl) ⟨rfl, (hS5.sN [])⟩

theorem c_impl_EqualUpToPhase (a : TMatrix) (b : TMatrix) (B : Option Addr) (c n : Nat) (B1 : Option Addr) (c1 n1 : Nat) (w0 : World) (hn : a.Cells.length = n) (hn1 : b.Cells.length = n1) (hS : ST w0 [] w0 [] [⟨B, (a.Cells.flatMap eN0)⟩, ⟨B1, (b.Cells.flatMap eN0)⟩]) {r_ : Int} {r_1 : Bool} {r_2 : Bool} (hF : F_impl_EqualUpToPhase a b = some (r_, r_1, r_2)) :
  CV Tryz.prog 24 #[.agg #[vi a.Rows, vi a.Cols, .slice B n c], .agg #[vi b.Rows, vi b.Cols, .slice B1 n1 c1]] w0 (fun v w' => v = .tuple #[vi r_, .bool r_1, .bool r_2] ∧ ST w0 [] w' [] []) := by
 subst hn
 subst hn1
 unfold F_impl_EqualUpToPhase at hF
 refine cv_of_cw 36 Tryz.func24 rfl Tryz.ntmps24 rfl ?_
 refine cq (cr ?_)
 refine sS 2 (yB 26 (gM_ a B c) (kM_ a B c) 3 hS) ?_
 rintro _ w_ ⟨b1, rfl, hS1⟩
 refine sS 3 (yB 26 (gM_ b B1 c1) (kM_ b B1 c1) 3 hS1) ?_
 rintro _ w_1 ⟨b2, rfl, hS2⟩
 refine sQ 4 (yg (vi 0)) <| sQ 5 (yg (.bool false)) <| sQ 6 (yg (.bool false)) (rn (cq (cq (cr ?_))))
 refine sQ 10 (yb (aD b1) 0 (kM_ a B c) K8 K3 (hS2.c 0)) ?_
 obtain ⟨r_3, hc, hF⟩ := bI hF
 refine sc 11 rfl rfl (yC [gM_ a B c] K67 (c_impl_IsValidMatrix a B c a.Cells.length _ rfl (hS2.inn0 [(true, 0)] rfl) hc)) ?_
 rintro _ w_2 ⟨rfl, hd⟩
 have hS3 := hS2.out00 hd
 refine sQ 12 (Y_not (p := r_3) rfl rfl) <| sQ 13 (ym (.bool (!r_3))) ?_
 refine sgq 14 (B := (!(!r_3))) (v := gM_ b B1 c1) rfl rfl (uF_ 13) (fun hg => (yb (aD b2) 0 (kM_ b B1 c1) K8 K3 (hS3.c 1))) ?_
 obtain ⟨r_4, hc1, hF⟩ := bI hF
 refine sgc 15 (B := (!(!r_3))) (v := .bool r_4) (F := hS3.fn) rfl rfl (uF_ 13) hS3 (fun hg1 => (yC [gM_ b B1 c1] K67 (CV.mono (c_impl_IsValidMatrix b B1 c1 b.Cells.length _ rfl (hS3.inn0 [(true, 1)] rfl) (gb_inv hc1 hg1)) (by rintro _ _ ⟨rfl, h⟩; exact ⟨rfl, hS3.out00 h⟩)) rfl (mc (gv_of (v := gM_ b B1 c1) hg1) mn))) ?_
 rintro w_3 hS4
 refine sgq 16 (B := (!(!r_3))) (v := .bool (!r_4)) rfl rfl (uF_ 13) (fun hg2 => (Y_not (p := r_4) rfl (gv_of (v := .bool r_4) hg2))) ?_
 refine sQ 17 (Y_or (b := (!r_3)) (z := (!r_4)) rfl rfl rfl rfl) (rn ?_)
 refine cw_cond (b := ((!r_3) || (!r_4))) rfl (fun hb => ?_) (fun hb => ?_)
 ·skip
  have hF1 := ct hF hb
  refine cq (cr ?_)
  refine sQ 4 (yg (vi 0)) <| sQ 5 (yg (.bool false)) <| sQ 6 (yg (.bool false)) (rn (ct_ ?_))
  obtain ⟨rfl, rfl, rfl⟩ := pr3 (sI hF1)
  exact ret3 Tryz.results24 (v1 := vi 0) (resAt_tmp rfl) (v2 := .bool false) (resAt_tmp rfl) (v3 := .bool false) (resAt_tmp rfl) ⟨rfl, (hS4.sN [])⟩
 ·skip
  have hF2 := cf' hF hb
  refine cw_skip (cq (cq (cr ?_)))
  refine sQ 18 (ym (vi 0)) (rn ?_)
  obtain ⟨z, hz, hF3⟩ := bI hF2
  refine cw_block ?_
  refine cw_loop (fun k f w => ∃ (i : Nat), FF f [(2, pt (aD b1) 0), (3, pt (aD b2) 0), (18, vi (i : Int))] ∧ ST w0 [] w [⟨aD b1, 26, kM_ a B c, 3⟩, ⟨aD b2, 26, kM_ b B1 c1, 3⟩] [⟨B, (a.Cells.flatMap eN0)⟩, ⟨B1, (b.Cells.flatMap eN0)⟩] ∧ i + k = 8 ∧ forX (F_impl_EqualUpToPhase_l1 b a) k i () = some z) 8 ⟨0, (fc rfl (fc rfl (fc rfl fn_))), (hS4.sel [0, 1] rfl rfl), Nat.zero_add _, hz⟩ ?_
  rintro k_ f w ⟨i, hf, hS5, hik, hL⟩
  refine cq (cr ?_)
  refine sQ 19 (yL (i : Int) 8 rfl (hf.g 18 2)) (rn (cq ?_))
  refine cw_cond (b := (decide ((i : Int) < 8))) rfl (fun hlt => ?_) (fun hlt => ?_)
  ·skip
   have hlt1 : i < 8 := by have h := of_decide_eq_true hlt; omega
   obtain ⟨K7, rfl⟩ : ∃ k2, k_ = k2 + 1 := ⟨k_ - 1, by omega⟩
   obtain ⟨y, hb1, hL1⟩ := forX_go hL
   unfold F_impl_EqualUpToPhase_l1 at hb1
   refine cw_skip (cq (cw_block (cq (cr ?_))))
   refine sQ 20 (ym (vi (i : Int)) rfl (hf.g 18 2)) <| sQ 7 (yg (vi (i : Int))) (rn (cq ?_))
   obtain ⟨r_5, hc2, hb1⟩ := bI hb1
   obtain ⟨⟨r_6, r_7⟩, hc3, hb1⟩ := bI hb1
   refine cw_mid (fun f w => ∃ (B3 : Option Addr) (B4 : Option Addr) (c3 : Nat), FF f [(2, pt (aD b1) 0), (3, pt (aD b2) 0), (7, vi (i : Int)), (8, pt B3 0), (9, .bool r_7), (18, vi (i : Int))] ∧ ST w0 [] w [⟨aD b1, 26, kM_ a B c, 3⟩, ⟨aD b2, 26, kM_ b B1 c1, 3⟩, ⟨B3, 26, kM_ r_6 B4 c3, 3⟩, ⟨B4, 48, (r_6.Cells.flatMap eN0), c3 * 5⟩] [⟨B, (a.Cells.flatMap eN0)⟩, ⟨B1, (b.Cells.flatMap eN0)⟩]) ?_ ?_
   ·skip
    refine ra_start (hS5.se [0, 1]).fn (by kernel_rfl) ?_
    have hS9 := hS5.drew
    refine rq 0 22 (v := gM_ b B1 c1) rfl (hS9.se [0, 1]) (fun w' hw' => (yb (aD b2) 0 (kM_ b B1 c1) K8 K3 (ST.cf hw' (i := 1) rfl) rfl (hf.g 3 1))) ?_
    refine rq 1 23 (v := vi (i : Int)) rfl (hS9.se [0, 1]) (fun w' hw' => (ym (vi (i : Int)))) ?_
    refine rA [2, 7] ?_
    refine rC 24 2 rfl (yC [vi (i : Int)] K73 (c_impl_phase (i : Int) _  (hS9.inn0 [] rfl) hc2)) ?_ ?_
    ·rintro _ w_4 ⟨rfl, hd1⟩
     have hS10 := hS9.out00 hd1
     refine ⟨(hS10.se [0, 1]), ?_⟩
     refine rA [3, 7] ?_
     refine rC 25 3 rfl (yC [gM_ b B1 c1, gD_ r_5] K114 (c_impl_ScaleMatrix b r_5 B1 c1 b.Cells.length _ rfl (hS10.inn0 [(true, 1)] rfl) hc3)) ?_ ?_
     ·rintro _ w_5 ⟨B2, c2, rfl, hd2⟩
      have hS11 := hS10.out0 hd2
      refine ⟨(hS11.se [0, 1]), ?_⟩
      refine rq 4 21 (v := .tuple #[gM_ r_6 B2 c2, .bool r_7]) rfl (hS11.se [0, 1]) (fun w' hw' => (ym (.tuple #[gM_ r_6 B2 c2, .bool r_7]))) ?_
      refine rq 5 26 (v := gM_ r_6 B2 c2) rfl (hS11.se [0, 1]) (fun w' hw' => (ye (gM_ r_6 B2 c2))) ?_
      refine rq 6 27 (v := .bool r_7) rfl (hS11.se [0, 1]) (fun w' hw' => (ye (.bool r_7))) ?_
      refine rA [7] ?_
      refine rS 8 7 rfl (yN kN_ 3 hS11 K12) ?_ ?_
      ·rintro _ w_6 ⟨b3, rfl, hS12⟩
       refine ⟨(hS12.se [0, 1]), ?_⟩
       refine rA [8] ?_
       refine rZ 8 rfl (yT 3 3 (aD b3) 26 (gM_ r_6 B2 c2) (kM_ r_6 B2 c2) 0 hS12 K3) ?_ ?_
       ·rintro _ w_7 ⟨rfl, hS13⟩
        refine ⟨(hS13.se [0, 1]), ?_⟩
        refine rq 9 9 (v := .bool r_7) rfl (hS13.se [0, 1]) (fun w' hw' => (yg (.bool r_7))) ?_
        refine ra_done (by kernel_rfl) ?_
        exact ⟨aD b3, B2, c2, (fc (hf.g 2 0) (fc (hf.g 3 1) (fc rfl (fc rfl (fc rfl (fc (hf.g 18 2) fn_)))))), (hS13.sel [0, 1, 3, 2] rfl rfl)⟩
       exact aN
      exact aN
     refine rS 8 7 rfl (yN kN_ 3 hS10 K12) ?_ ?_
     ·rintro _ w_8 ⟨b3, rfl, hS14⟩
      refine ⟨(hS14.se [0, 1]), ?_⟩
      refine rA [3] ?_
      refine rC 25 3 rfl (yC [gM_ b B1 c1, gD_ r_5] K114 (c_impl_ScaleMatrix b r_5 B1 c1 b.Cells.length _ rfl (hS14.inn0 [(true, 1)] rfl) hc3)) ?_ ?_
      ·rintro _ w_9 ⟨B2, c2, rfl, hd3⟩
       have hS15 := hS14.out0 hd3
       refine ⟨(hS15.se [0, 1]), ?_⟩
       refine rq 4 21 (v := .tuple #[gM_ r_6 B2 c2, .bool r_7]) rfl (hS15.se [0, 1]) (fun w' hw' => (ym (.tuple #[gM_ r_6 B2 c2, .bool r_7]))) ?_
       refine rq 5 26 (v := gM_ r_6 B2 c2) rfl (hS15.se [0, 1]) (fun w' hw' => (ye (gM_ r_6 B2 c2))) ?_
       refine rq 6 27 (v := .bool r_7) rfl (hS15.se [0, 1]) (fun w' hw' => (ye (.bool r_7))) ?_
       refine rA [8] ?_
       refine rZ 8 rfl (yT 2 3 (aD b3) 26 (gM_ r_6 B2 c2) (kM_ r_6 B2 c2) 0 hS15 K3) ?_ ?_
       ·rintro _ w_10 ⟨rfl, hS16⟩
        refine ⟨(hS16.se [0, 1]), ?_⟩
        refine rq 9 9 (v := .bool r_7) rfl (hS16.se [0, 1]) (fun w' hw' => (yg (.bool r_7))) ?_
        refine ra_done (by kernel_rfl) ?_
        exact ⟨aD b3, B2, c2, (fc (hf.g 2 0) (fc (hf.g 3 1) (fc rfl (fc rfl (fc rfl (fc (hf.g 18 2) fn_)))))), (hS16.sel [0, 1, 2, 3] rfl rfl)⟩
       exact aN
      exact aN
     exact aN
    refine rS 8 7 rfl (yN kN_ 3 hS9 K12) ?_ ?_
    ·rintro _ w_11 ⟨b3, rfl, hS17⟩
     refine ⟨(hS17.se [0, 1]), ?_⟩
     refine rA [2] ?_
     refine rC 24 2 rfl (yC [vi (i : Int)] K73 (c_impl_phase (i : Int) _  (hS17.inn0 [] rfl) hc2)) ?_ ?_
     ·rintro _ w_12 ⟨rfl, hd4⟩
      have hS18 := hS17.out00 hd4
      refine ⟨(hS18.se [0, 1]), ?_⟩
      refine rA [3] ?_
      refine rC 25 3 rfl (yC [gM_ b B1 c1, gD_ r_5] K114 (c_impl_ScaleMatrix b r_5 B1 c1 b.Cells.length _ rfl (hS18.inn0 [(true, 1)] rfl) hc3)) ?_ ?_
      ·rintro _ w_13 ⟨B2, c2, rfl, hd5⟩
       have hS19 := hS18.out0 hd5
       refine ⟨(hS19.se [0, 1]), ?_⟩
       refine rq 4 21 (v := .tuple #[gM_ r_6 B2 c2, .bool r_7]) rfl (hS19.se [0, 1]) (fun w' hw' => (ym (.tuple #[gM_ r_6 B2 c2, .bool r_7]))) ?_
       refine rq 5 26 (v := gM_ r_6 B2 c2) rfl (hS19.se [0, 1]) (fun w' hw' => (ye (gM_ r_6 B2 c2))) ?_
       refine rq 6 27 (v := .bool r_7) rfl (hS19.se [0, 1]) (fun w' hw' => (ye (.bool r_7))) ?_
       refine rA [8] ?_
       refine rZ 8 rfl (yT 2 3 (aD b3) 26 (gM_ r_6 B2 c2) (kM_ r_6 B2 c2) 0 hS19 K3) ?_ ?_
       ·rintro _ w_14 ⟨rfl, hS20⟩
        refine ⟨(hS20.se [0, 1]), ?_⟩
        refine rq 9 9 (v := .bool r_7) rfl (hS20.se [0, 1]) (fun w' hw' => (yg (.bool r_7))) ?_
        refine ra_done (by kernel_rfl) ?_
        exact ⟨aD b3, B2, c2, (fc (hf.g 2 0) (fc (hf.g 3 1) (fc rfl (fc rfl (fc rfl (fc (hf.g 18 2) fn_)))))), (hS20.sel [0, 1, 2, 3] rfl rfl)⟩
       exact aN
      exact aN
     exact aN
    exact aN
   rintro f w ⟨B3, B4, c3, hf1, hS8⟩
   refine cq (cr ?_)
   refine sQ 28 (ym (.bool r_7) rfl (hf1.g 9 4)) <| sQ 29 (ym (.bool r_7)) ?_
   refine sgq 30 (B := r_7) (v := gM_ a B c) rfl rfl (uT_ 29) (fun hg3 => (yb (aD b1) 0 (kM_ a B c) K8 K3 (hS8.c 0) rfl (hf1.g 2 0))) ?_
   refine sgq 31 (B := r_7) (v := gM_ r_6 B4 c3) rfl rfl (uT_ 29) (fun hg4 => (yb B3 0 (kM_ r_6 B4 c3) K8 K3 (hS8.c 2) rfl (hf1.g 8 3))) ?_
   obtain ⟨r_8, hc4, hb1⟩ := bI hb1
   refine sgc 32 (B := r_7) (v := .bool r_8) (F := hS8.fn) rfl rfl (uT_ 29) hS8 (fun hg5 => (yC [gM_ a B c, gM_ r_6 B4 c3] k_call_54 (CV.mono (c_impl_EqualMatrices a r_6 B c a.Cells.length B4 c3 r_6.Cells.length _ rfl rfl (hS8.inn0 [(true, 0), (false, 3)] rfl) (gb_inv hc4 hg5)) (by rintro _ _ ⟨rfl, h⟩; exact ⟨rfl, hS8.out00 h⟩)) rfl (mc (gv_of (v := gM_ a B c) hg5) (mc (gv_of (v := gM_ r_6 B4 c3) hg5) mn)))) ?_
   rintro w_15 hS21
   refine sQ 33 (Y_and (b := r_7) (z := r_8) rfl rfl rfl rfl) (rn ?_)
   refine cw_cond (b := (r_7 && r_8)) rfl (fun hb2 => ?_) (fun hb2 => ?_)
   ·skip
    have hF4 := ct hb1 hb2
    refine cq (cr ?_)
    refine sQ 34 (ym (vi (i : Int)) rfl (hf1.g 7 2)) <| sQ 4 (yg (vi (i : Int))) <| sQ 5 (yg (.bool true)) <| sQ 6 (yg (.bool true)) (rn (ct_ ?_))
    obtain rfl := sI hF4
    obtain rfl := sI hL1
    obtain ⟨rfl, rfl, rfl⟩ := pr3 (sI hF3)
    exact ret3 Tryz.results24 (v1 := vi (i : Int)) (resAt_tmp rfl) (v2 := .bool true) (resAt_tmp rfl) (v3 := .bool true) (resAt_tmp rfl) ⟨rfl, (hS21.sN [])⟩
   ·skip
    have hF5 := cf' hb1 hb2
    refine cw_skip (cr ?_)
    refine sQ 35 (yP (i : Int) 1 rfl (hf1.g 18 5)) <| sQ 18 (ym (vi (i64.wrap ((i : Int) + 1)))) (rn ?_)
    obtain rfl := sI hF5
    exact ⟨K7, Nat.lt_succ_self _, i + 1, (fc (hf1.g 2 0) (fc (hf1.g 3 1) (fc (congrArg (Value.int .i64) (wr_succ hlt1 (show 8 ≤ 9223372036854775807 by decide))) fn_))), (hS21.sel [0, 1] rfl rfl), (by omega), hL1⟩
  ·skip
   obtain rfl : k_ = 0 := by have h := of_decide_eq_false hlt; omega
   refine cw_exit rfl ?_
   obtain rfl := sI hL
   refine cq (cr ?_)
   refine sQ 4 (yg (vi 0)) <| sQ 5 (yg (.bool false)) <| sQ 6 (yg (.bool true)) (rn (ct_ ?_))
   obtain ⟨rfl, rfl, rfl⟩ := pr3 (sI hF3)
   exact ret3 Tryz.results24 (v1 := vi 0) (resAt_tmp rfl) (v2 := .bool false) (resAt_tmp rfl) (v3 := .bool true) (resAt_tmp rfl) ⟨rfl, (hS5.sN [])⟩

theorem c_impl_NormalFormOf (m : TMatrix) (B : Option Addr) (c n : Nat) (w0 : World) (hn : m.Cells.length = n) (hS : ST w0 [] w0 [] [⟨B, (m.Cells.flatMap eN0)⟩, ⟨(aD 0), [vi 1, vi 0, vi 0, vi 0, vi 2]⟩]) {r_ : TNormalForm} {r_1 : Bool} (hF : F_impl_NormalFormOf m = some (r_, r_1)) :
  CV Tryz.prog 8 #[.agg #[vi m.Rows, vi m.Cols, .slice B n c]] w0 (fun v w' => v = .tuple #[.agg #[.string (bstr r_.Syllables), vi r_.Clifford, vi r_.Phase], .bool r_1] ∧ ST w0 [] w' [] []) := by
 subst hn
 unfold F_impl_NormalFormOf at hF
 refine cv_of_cw 93 Tryz.func8 rfl Tryz.ntmps8 rfl ?_
 refine cq (cr ?_)
 refine sS 1 (yB 26 (gM_ m B c) (kM_ m B c) 3 hS) ?_
 rintro _ w_ ⟨b, rfl, hS1⟩
 refine sS 2 (yN [.string (bstr ([] : List UInt8)), vi 0, vi 0] 3 hS1 K84) ?_
 rintro _ w_1 ⟨b1, rfl, hS2⟩
 refine sQ 3 (yg (.bool false)) (rn (cq (cr ?_)))
 refine sQ 17 (yb (aD b) 0 (kM_ m B c) K8 K3 (hS2.c 0)) ?_
 obtain ⟨⟨r_2, r_3⟩, hc, hF⟩ := bI hF
 refine sc 18 rfl rfl (yC [gM_ m B c] K112 (c_impl_BlochOf m B c m.Cells.length _ rfl (hS2.inn0 [(true, 0), (true, 1)] rfl) hc)) ?_
 rintro _ w_2 ⟨B1, c1, rfl, hd⟩
 have hS3 := hS2.out0 hd
 refine sQ 16 (ym (.tuple #[gB_ r_2 B1 c1, .bool r_3])) <| sQ 19 (ye (gB_ r_2 B1 c1)) <| sQ 20 (ye (.bool r_3)) ?_
 refine sS 4 (yN [.slice none 0 0] 1 hS3 K39) ?_
 rintro _ w_3 ⟨b2, rfl, hS4⟩
 refine s0 (yT 3 1 (aD b2) 54 (gB_ r_2 B1 c1) (kB_ r_2 B1 c1) 0 hS4 K26) ?_
 rintro _ w_4 ⟨rfl, hS5⟩
 refine sQ 5 (yg (.bool r_3)) (rn (cq (cq (cr ?_))))
 refine sQ 21 (ym (.bool r_3)) <| sQ 22 (Y_not (p := r_3) rfl rfl) <| sQ 23 (ym (.bool (!r_3))) ?_
 refine sgq 24 (B := (!(!r_3))) (v := gB_ r_2 B1 c1) rfl rfl (uF_ 23) (fun hg => (yb (aD b2) 0 (kB_ r_2 B1 c1) K51 K26 (hS5.c 3))) ?_
 obtain ⟨r_4, hc1, hF⟩ := bI hF
 refine sgc 25 (B := (!(!r_3))) (v := vi r_4) (F := hS5.fn) rfl rfl (uF_ 23) hS5 (fun hg1 => (yC [gB_ r_2 B1 c1] K108 (CV.mono (c_impl_blochExp r_2 B1 c1 r_2.Cells.length _ rfl (hS5.inn0 [(false, 2)] rfl) (gb_inv hc1 hg1)) (by rintro _ _ ⟨rfl, h⟩; exact ⟨rfl, hS5.out00 h⟩)) rfl (mc (gv_of (v := gB_ r_2 B1 c1) hg1) mn))) ?_
 rintro w_5 hS6
 refine sgq 26 (B := (!(!r_3))) (v := .bool (decide (40 < r_4))) rfl rfl (uF_ 23) (fun hg2 => (Y_gt (k := .i64) (a := r_4) (b := 40) rfl (gv_of (v := vi r_4) hg2) rfl)) ?_
 refine sQ 27 (Y_or (b := (!r_3)) (z := (decide (40 < r_4))) rfl rfl rfl rfl) (rn ?_)
 refine cw_cond (b := ((!r_3) || (decide (40 < r_4)))) rfl (fun hb => ?_) (fun hb => ?_)
 ·skip
  have hF1 := ct hF hb
  refine cq (cr ?_)
  refine sQ 28 (Y_buildS (zs := [.string (bstr ([] : List UInt8)), vi 0, vi 0]) (vs := []) (cs := [.string (bstr ([] : List UInt8)), vi 0, vi 0]) K118 K84 rfl mpn rfl) ?_
  refine s0 (yT 1 3 (aD b1) 23 (.agg #[.string (bstr ([] : List UInt8)), vi 0, vi 0]) [.string (bstr ([] : List UInt8)), vi 0, vi 0] 0 hS6 K30) ?_
  rintro _ w_6 ⟨rfl, hS7⟩
  refine sQ 3 (yg (.bool false)) (rn (ct_ ?_))
  obtain ⟨rfl, rfl⟩ := pr2 (sI hF1)
  exact ret2 Tryz.results8 (v1 := .agg #[.string (bstr ([] : List UInt8)), vi 0, vi 0]) (resAt_cellA (B := aD b1) (i := 0) (cs := [.string (bstr ([] : List UInt8)), vi 0, vi 0]) (vs := [.string (bstr ([] : List UInt8)), vi 0, vi 0]) rfl K36 K30 (hS7.c 1) rfl rfl) (v2 := .bool false) (resAt_tmp rfl) ⟨rfl, (hS7.sN [])⟩
 ·skip
  have hF2 := cf' hF hb
  refine cw_skip (cq ?_)
  refine ra_start (hS6.se [0, 1, 2, 3]).fn (by kernel_rfl) ?_
  have hS8 := hS6.drew
  refine rq 0 29 (v := .agg #[.string (bstr ([] : List UInt8)), vi 0, vi 0]) rfl (hS8.se [0, 1, 2, 3]) (fun w' hw' => (Y_buildS (zs := [.string (bstr ([] : List UInt8)), vi 0, vi 0]) (vs := []) (cs := [.string (bstr ([] : List UInt8)), vi 0, vi 0]) K118 K84 rfl mpn rfl)) ?_
  refine rq 1 30 (v := pt (aD b2) 0) rfl (hS8.se [0, 1, 2, 3]) (fun w' hw' => (yd (aD b2) 0 0 K40 K11)) ?_
  refine rq 2 31 (v := .slice B1 r_2.Cells.length c1) rfl (hS8.se [0, 1, 2, 3]) (fun w' hw' => (yl (aD b2) 0 (kB_ r_2 B1 c1) (.slice B1 r_2.Cells.length c1) K16 (ST.cf hw' (i := 3) rfl))) ?_
  refine rA [3] ?_
  refine rS 6 3 rfl (yN [.string (bstr ([] : List UInt8)), vi 0, vi 0] 3 hS8 K84) ?_ ?_
  ·rintro _ w_7 ⟨b3, rfl, hS9⟩
   refine ⟨(hS9.se [0, 1, 2, 3]), ?_⟩
   refine rA [4] ?_
   refine rZ 4 rfl (yT 4 3 (aD b3) 23 (.agg #[.string (bstr ([] : List UInt8)), vi 0, vi 0]) [.string (bstr ([] : List UInt8)), vi 0, vi 0] 0 hS9 K30) ?_ ?_
   ·rintro _ w_8 ⟨rfl, hS10⟩
    refine ⟨(hS10.se [0, 1, 2, 3]), ?_⟩
    refine rq 5 7 (v := .slice B1 r_2.Cells.length c1) rfl (hS10.se [0, 1, 2, 3]) (fun w' hw' => (yg (.slice B1 r_2.Cells.length c1))) ?_
    refine ra_done (by kernel_rfl) ?_
    refine cq ?_
    obtain ⟨z, hz, hF3⟩ := bI hF2
    refine cw_block ?_
    refine cw_loop (fun k f w => ∃ (Syllables : List UInt8) (cells : List TDyadic) (B2 : Option Addr) (c2 : Nat), FF f [(1, pt (aD b) 0), (2, pt (aD b1) 0), (6, pt (aD b3) 0), (7, .slice B2 cells.length c2)] ∧ ST w0 [] w [⟨aD b, 26, kM_ m B c, 3⟩, ⟨aD b1, 23, [.string (bstr ([] : List UInt8)), vi 0, vi 0], 3⟩, ⟨aD b3, 23, [.string (bstr Syllables), vi 0, vi 0], 3⟩, ⟨B2, 48, (cells.flatMap eN0), c2 * 5⟩] [⟨B, (m.Cells.flatMap eN0)⟩, ⟨(aD 0), [vi 1, vi 0, vi 0, vi 0, vi 2]⟩] ∧ whX F_impl_NormalFormOf_l1 k (Syllables, cells) = some z) fuel ⟨([] : List UInt8), r_2.Cells, B1, c1, (fc rfl (fc rfl (fc rfl (fc rfl fn_)))), (hS10.sel [0, 1, 4, 2] rfl rfl), hz⟩ ?_
    rintro k_ f w ⟨Syllables, cells, B2, c2, hf, hS11, hL⟩
    obtain ⟨K7, y, rfl, hb1, hL1⟩ := whX_go hL
    unfold F_impl_NormalFormOf_l1 at hb1
    refine cq (cq (cr ?_))
    refine sQ 32 (ym (.slice B2 cells.length c2) rfl (hf.g 7 3)) <| sQ 33 (Y_buildS (zs := [.slice none 0 0]) (vs := [(0, .slice B2 cells.length c2)]) (cs := [.slice B2 cells.length c2]) K70 K39 rfl (mpc rfl mpn) rfl) ?_
    obtain ⟨r_5, hc2, hb1⟩ := bI hb1
    refine sc 34 rfl rfl (yC [.agg #[.slice B2 cells.length c2]] K108 (c_impl_blochExp (TBloch.mk cells) B2 c2 cells.length _ rfl (hS11.inn0 [(false, 3)] rfl) hc2)) ?_
    rintro _ w_9 ⟨rfl, hd1⟩
    have hS12 := hS11.out00 hd1
    refine sQ 35 (Y_gt (k := .i64) (a := r_5) (b := 0) rfl rfl rfl) (rn ?_)
    refine cw_cond (b := (decide (0 < r_5))) rfl (fun hb2 => ?_) (fun hb2 => ?_)
    ·skip
     have hF4 := ct hb1 hb2
     refine cw_skip (cw_block (cq (cr ?_)))
     refine sQ 37 (ym (.slice B2 cells.length c2) rfl (hf.g 7 3)) ?_
     obtain ⟨⟨r_6, r_7, r_8⟩, hc3, hF4⟩ := bI hF4
     refine sc 38 rfl rfl (yC [.slice B2 cells.length c2] k_call_22 (c_impl_stripped cells B2 c2 cells.length _ rfl (hS12.inn0 [(false, 3), (true, 1)] rfl) hc3)) ?_
     rintro _ w_10 ⟨B3, c3, rfl, hd2⟩
     have hS13 := hS12.out0 hd2
     refine sQ 36 (ym (.tuple #[.string (bstr r_6), .slice B3 r_7.length c3, .bool r_8])) <| sQ 39 (ye (.string (bstr r_6))) <| sQ 40 (ye (.slice B3 r_7.length c3)) <| sQ 41 (ye (.bool r_8)) <| sQ 8 (yg (.string (bstr r_6))) <| sQ 9 (yg (.slice B3 r_7.length c3)) ?_
     refine sQ 10 (yg (.bool r_8)) (rn (cq (cq (cr ?_))))
     refine sQ 42 (ym (.bool r_8)) <| sQ 43 (Y_not (p := r_8) rfl rfl) (rn ?_)
     refine cw_cond (b := (!r_8)) rfl (fun hb3 => ?_) (fun hb3 => ?_)
     ·skip
      have hF5 := ct hF4 hb3
      refine cq (cr ?_)
      refine sQ 44 (Y_buildS (zs := [.string (bstr ([] : List UInt8)), vi 0, vi 0]) (vs := []) (cs := [.string (bstr ([] : List UInt8)), vi 0, vi 0]) K118 K84 rfl mpn rfl) ?_
      refine s0 (yT 1 3 (aD b1) 23 (.agg #[.string (bstr ([] : List UInt8)), vi 0, vi 0]) [.string (bstr ([] : List UInt8)), vi 0, vi 0] 0 hS13 K30 rfl (hf.g 2 1)) ?_
      rintro _ w_11 ⟨rfl, hS14⟩
      refine sQ 3 (yg (.bool false)) (rn (ct_ ?_))
      obtain rfl := sI hF5
      obtain rfl := sI hL1
      obtain ⟨rfl, rfl⟩ := pr2 (sI hF3)
      exact ret2 Tryz.results8 (v1 := .agg #[.string (bstr ([] : List UInt8)), vi 0, vi 0]) (resAt_cellA (B := aD b1) (i := 0) (cs := [.string (bstr ([] : List UInt8)), vi 0, vi 0]) (vs := [.string (bstr ([] : List UInt8)), vi 0, vi 0]) (hf.g 2 1) K36 K30 (hS14.c 1) rfl rfl) (v2 := .bool false) (resAt_tmp rfl) ⟨rfl, (hS14.sN [])⟩
     ·skip
      have hF6 := cf' hF4 hb3
      refine cw_skip (cq (cr ?_))
      refine sQ 45 (yd (aD b3) 0 0 K56 K24 rfl (hf.g 6 2)) <| sQ 46 (yl (aD b3) 0 [.string (bstr Syllables), vi 0, vi 0] (.string (bstr Syllables)) K41 (hS13.c 2)) <| sQ 47 (ym (.string (bstr r_6))) ?_
      obtain ⟨hsa, hF6⟩ := chk_inv hF6
      refine sQ 48 (Y_sadd (a := Syllables) (b := r_6) rfl rfl rfl hsa) <| sQ 49 (yd (aD b3) 0 0 K56 K24 rfl (hf.g 6 2)) ?_
      refine s0 (yS 2 1 (aD b3) 23 (.string (bstr (Syllables ++ r_6))) [.string (bstr (Syllables ++ r_6))] 0 [.string (bstr (Syllables ++ r_6)), vi 0, vi 0] hS13 K24) ?_
      rintro _ w_12 ⟨rfl, hS15⟩
      refine rn (cr ?_)
      refine sQ 50 (ym (.slice B3 r_7.length c3)) <| sQ 7 (yg (.slice B3 r_7.length c3)) (rn ?_)
      obtain rfl := sI hF6
      exact ⟨K7, Nat.lt_succ_self _, (Syllables ++ r_6), r_7, B3, c3, (fc (hf.g 1 0) (fc (hf.g 2 1) (fc (hf.g 6 2) (fc rfl fn_)))), (hS15.sel [0, 1, 2, 4] rfl rfl), hL1⟩
    ·skip
     have hF7 := cf' hb1 hb2
     refine cw_exit rfl ?_
     obtain rfl := sI hF7
     obtain rfl := sI hL1
     refine cq (cr ?_)
     refine sQ 52 (ym (.slice B2 cells.length c2) rfl (hf.g 7 3)) <| sQ 53 (Y_buildS (zs := [.slice none 0 0]) (vs := [(0, .slice B2 cells.length c2)]) (cs := [.slice B2 cells.length c2]) K70 K39 rfl (mpc rfl mpn) rfl) ?_
     obtain ⟨⟨r_9, r_10⟩, hc4, hF3⟩ := bI hF3
     refine sc 54 rfl rfl (yC [.agg #[.slice B2 cells.length c2]] k_call_23 (c_impl_CliffordIndex (TBloch.mk cells) B2 c2 cells.length _ rfl (hS12.inn0 [(false, 3), (true, 1)] rfl) hc4)) ?_
     rintro _ w_13 ⟨rfl, hd3⟩
     have hS16 := hS12.out00 hd3
     refine sQ 51 (ym (.tuple #[vi r_9, .bool r_10])) <| sQ 55 (ye (vi r_9)) <| sQ 56 (ye (.bool r_10)) <| sQ 57 (yd (aD b3) 0 0 K94 K2 rfl (hf.g 6 2)) ?_
     refine s0 (yS 2 1 (aD b3) 23 (vi r_9) [vi r_9] 1 [.string (bstr Syllables), vi r_9, vi 0] hS16 K2) ?_
     rintro _ w_14 ⟨rfl, hS17⟩
     refine sQ 5 (yg (.bool r_10)) (rn (cq (cr ?_)))
     refine sQ 59 (yb (aD b3) 0 [.string (bstr Syllables), vi r_9, vi 0] K36 K30 (hS17.c 2) rfl (hf.g 6 2)) ?_
     obtain ⟨⟨r_11, r_12⟩, hc5, hF3⟩ := bI hF3
     refine sc 60 rfl rfl (yC [.agg #[.string (bstr Syllables), vi r_9, vi 0]] K127 (c_impl_MatrixOfForm (TNormalForm.mk Syllables r_9 0) _  (hS17.inn0 [(true, 1)] rfl) hc5)) ?_
     rintro _ w_15 ⟨B4, c4, rfl, hd4⟩
     have hS18 := hS17.out0 hd4
     refine sQ 58 (ym (.tuple #[gM_ r_11 B4 c4, .bool r_12])) <| sQ 61 (ye (gM_ r_11 B4 c4)) <| sQ 62 (ye (.bool r_12)) ?_
     refine sS 11 (yN kN_ 3 hS18 K12) ?_
     rintro _ w_16 ⟨b4, rfl, hS19⟩
     refine s0 (yT 5 3 (aD b4) 26 (gM_ r_11 B4 c4) (kM_ r_11 B4 c4) 0 hS19 K3) ?_
     rintro _ w_17 ⟨rfl, hS20⟩
     refine sQ 12 (yg (.bool r_12)) (rn (cq (cr ?_)))
     refine sQ 64 (yb (aD b) 0 (kM_ m B c) K8 K3 (hS20.c 0) rfl (hf.g 1 0)) <| sQ 65 (yb (aD b4) 0 (kM_ r_11 B4 c4) K8 K3 (hS20.c 5)) ?_
     obtain ⟨⟨r_13, r_14, r_15⟩, hc6, hF3⟩ := bI hF3
     refine sc 66 rfl rfl (yC [gM_ m B c, gM_ r_11 B4 c4] k_call_24 (c_impl_EqualUpToPhase m r_11 B c m.Cells.length B4 c4 r_11.Cells.length _ rfl rfl (hS20.inn0 [(true, 0), (false, 4)] rfl) hc6)) ?_
     rintro _ w_18 ⟨rfl, hd5⟩
     have hS21 := hS20.out00 hd5
     refine sQ 63 (ym (.tuple #[vi r_13, .bool r_14, .bool r_15])) <| sQ 67 (ye (vi r_13)) <| sQ 68 (ye (.bool r_14)) <| sQ 69 (ye (.bool r_15)) <| sQ 13 (yg (vi r_13)) <| sQ 14 (yg (.bool r_14)) ?_
     refine sQ 15 (yg (.bool r_15)) (rn (cq (cr ?_)))
     refine sQ 70 (ym (vi r_13)) <| sQ 71 (yd (aD b3) 0 0 K85 K2 rfl (hf.g 6 2)) ?_
     refine s0 (yS 2 1 (aD b3) 23 (vi r_13) [vi r_13] 2 [.string (bstr Syllables), vi r_9, vi r_13] hS21 K2) ?_
     rintro _ w_19 ⟨rfl, hS22⟩
     refine rn (cq (cq (cr ?_)))
     refine sQ 72 (ym (.bool r_10)) <| sQ 73 (Y_not (p := r_10) rfl rfl) <| sQ 74 (ym (.bool (!r_10))) ?_
     refine sgq 75 (B := (!(!r_10))) (v := .bool r_12) rfl rfl (uF_ 74) (fun hg3 => (ym (.bool r_12))) ?_
     refine sgq 76 (B := (!(!r_10))) (v := .bool (!r_12)) rfl rfl (uF_ 74) (fun hg4 => (Y_not (p := r_12) rfl (gv_of (v := .bool r_12) hg4))) ?_
     refine sQ 77 (Y_or (b := (!r_10)) (z := (!r_12)) rfl rfl rfl rfl) <| sQ 78 (ym (.bool ((!r_10) || (!r_12)))) ?_
     refine sgq 79 (B := (!((!r_10) || (!r_12)))) (v := .bool r_15) rfl rfl (uF_ 78) (fun hg5 => (ym (.bool r_15))) ?_
     refine sgq 80 (B := (!((!r_10) || (!r_12)))) (v := .bool (!r_15)) rfl rfl (uF_ 78) (fun hg6 => (Y_not (p := r_15) rfl (gv_of (v := .bool r_15) hg6))) ?_
     refine sQ 81 (Y_or (b := ((!r_10) || (!r_12))) (z := (!r_15)) rfl rfl rfl rfl) <| sQ 82 (ym (.bool (((!r_10) || (!r_12)) || (!r_15)))) ?_
     refine sgq 83 (B := (!(((!r_10) || (!r_12)) || (!r_15)))) (v := .bool r_14) rfl rfl (uF_ 82) (fun hg7 => (ym (.bool r_14))) ?_
     refine sgq 84 (B := (!(((!r_10) || (!r_12)) || (!r_15)))) (v := .bool (!r_14)) rfl rfl (uF_ 82) (fun hg8 => (Y_not (p := r_14) rfl (gv_of (v := .bool r_14) hg8))) ?_
     refine sQ 85 (Y_or (b := (((!r_10) || (!r_12)) || (!r_15))) (z := (!r_14)) rfl rfl rfl rfl) <| sQ 86 (ym (.bool ((((!r_10) || (!r_12)) || (!r_15)) || (!r_14)))) ?_
     refine sgq 87 (B := (!((((!r_10) || (!r_12)) || (!r_15)) || (!r_14)))) (v := .agg #[.string (bstr Syllables), vi r_9, vi r_13]) rfl rfl (uF_ 86) (fun hg9 => (yb (aD b3) 0 [.string (bstr Syllables), vi r_9, vi r_13] K36 K30 (hS22.c 2) rfl (hf.g 6 2))) ?_
     obtain ⟨r_16, hc7, hF3⟩ := bI hF3
     refine sgc 88 (B := (!((((!r_10) || (!r_12)) || (!r_15)) || (!r_14)))) (v := .bool r_16) (F := hS22.fn) rfl rfl (uF_ 86) hS22 (fun hg10 => (yC [.agg #[.string (bstr Syllables), vi r_9, vi r_13]] K113 (CV.mono (c_impl_IsValidForm (TNormalForm.mk Syllables r_9 r_13) _  (hS22.inn0 [] rfl) (gb_inv hc7 hg10)) (by rintro _ _ ⟨rfl, h⟩; exact ⟨rfl, hS22.out00 h⟩)) rfl (mc (gv_of (v := .agg #[.string (bstr Syllables), vi r_9, vi r_13]) hg10) mn))) ?_
     rintro w_20 hS23
     refine sgq 89 (B := (!((((!r_10) || (!r_12)) || (!r_15)) || (!r_14)))) (v := .bool (!r_16)) rfl rfl (uF_ 86) (fun hg11 => (Y_not (p := r_16) rfl (gv_of (v := .bool r_16) hg11))) ?_
     refine sQ 90 (Y_or (b := ((((!r_10) || (!r_12)) || (!r_15)) || (!r_14))) (z := (!r_16)) rfl rfl rfl rfl) (rn ?_)
     refine cw_cond (b := (((((!r_10) || (!r_12)) || (!r_15)) || (!r_14)) || (!r_16))) rfl (fun hb4 => ?_) (fun hb4 => ?_)
     ·skip
      have hF8 := ct hF3 hb4
      refine cq (cr ?_)
      refine sQ 91 (Y_buildS (zs := [.string (bstr ([] : List UInt8)), vi 0, vi 0]) (vs := []) (cs := [.string (bstr ([] : List UInt8)), vi 0, vi 0]) K118 K84 rfl mpn rfl) ?_
      refine s0 (yT 1 3 (aD b1) 23 (.agg #[.string (bstr ([] : List UInt8)), vi 0, vi 0]) [.string (bstr ([] : List UInt8)), vi 0, vi 0] 0 hS23 K30 rfl (hf.g 2 1)) ?_
      rintro _ w_21 ⟨rfl, hS24⟩
      refine sQ 3 (yg (.bool false)) (rn (ct_ ?_))
      obtain ⟨rfl, rfl⟩ := pr2 (sI hF8)
      exact ret2 Tryz.results8 (v1 := .agg #[.string (bstr ([] : List UInt8)), vi 0, vi 0]) (resAt_cellA (B := aD b1) (i := 0) (cs := [.string (bstr ([] : List UInt8)), vi 0, vi 0]) (vs := [.string (bstr ([] : List UInt8)), vi 0, vi 0]) (hf.g 2 1) K36 K30 (hS24.c 1) rfl rfl) (v2 := .bool false) (resAt_tmp rfl) ⟨rfl, (hS24.sN [])⟩
     ·skip
      have hF9 := cf' hF3 hb4
      refine cw_skip (cq (cr ?_))
      refine sQ 92 (yb (aD b3) 0 [.string (bstr Syllables), vi r_9, vi r_13] K36 K30 (hS23.c 2) rfl (hf.g 6 2)) ?_
      refine s0 (yT 1 3 (aD b1) 23 (.agg #[.string (bstr Syllables), vi r_9, vi r_13]) [.string (bstr Syllables), vi r_9, vi r_13] 0 hS23 K30 rfl (hf.g 2 1)) ?_
      rintro _ w_22 ⟨rfl, hS25⟩
      refine sQ 3 (yg (.bool true)) (rn (ct_ ?_))
      obtain ⟨rfl, rfl⟩ := pr2 (sI hF9)
      exact ret2 Tryz.results8 (v1 := .agg #[.string (bstr Syllables), vi r_9, vi r_13]) (resAt_cellA (B := aD b1) (i := 0) (cs := [.string (bstr Syllables), vi r_9, vi r_13]) (vs := [.string (bstr Syllables), vi r_9, vi r_13]) (hf.g 2 1) K36 K30 (hS25.c 1) rfl rfl) (v2 := .bool true) (resAt_tmp rfl) ⟨rfl, (hS25.sN [])⟩
   exact aN
  exact aN

theorem c_impl_LeastTCount (m : TMatrix) (B : Option Addr) (c n : Nat) (w0 : World) (hn : m.Cells.length = n) (hS : ST w0 [] w0 [] [⟨B, (m.Cells.flatMap eN0)⟩, ⟨(aD 0), [vi 1, vi 0, vi 0, vi 0, vi 2]⟩]) {r_ : Int} {r_1 : Bool} (hF : F_impl_LeastTCount m = some (r_, r_1)) :
  CV Tryz.prog 9 #[.agg #[vi m.Rows, vi m.Cols, .slice B n c]] w0 (fun v w' => v = .tuple #[vi r_, .bool r_1] ∧ ST w0 [] w' [] []) := by
 subst hn
 unfold F_impl_LeastTCount at hF
 refine cv_of_cw 15 Tryz.func9 rfl Tryz.ntmps9 rfl ?_
 refine cq (cr ?_)
 refine sS 1 (yB 26 (gM_ m B c) (kM_ m B c) 3 hS) ?_
 rintro _ w_ ⟨b, rfl, hS1⟩
 refine sQ 2 (yg (vi 0)) <| sQ 3 (yg (.bool false)) (rn (cq (cr ?_)))
 refine sQ 7 (yb (aD b) 0 (kM_ m B c) K8 K3 (hS1.c 0)) ?_
 obtain ⟨⟨r_2, r_3⟩, hc, hF⟩ := bI hF
 refine sc 8 rfl rfl (yC [gM_ m B c] K112 (c_impl_BlochOf m B c m.Cells.length _ rfl (hS1.inn0 [(true, 0), (true, 1)] rfl) hc)) ?_
 rintro _ w_1 ⟨B1, c1, rfl, hd⟩
 have hS2 := hS1.out0 hd
 refine sQ 6 (ym (.tuple #[gB_ r_2 B1 c1, .bool r_3])) <| sQ 9 (ye (gB_ r_2 B1 c1)) <| sQ 10 (ye (.bool r_3)) ?_
 refine sS 4 (yN [.slice none 0 0] 1 hS2 K39) ?_
 rintro _ w_2 ⟨b1, rfl, hS3⟩
 refine s0 (yT 2 1 (aD b1) 54 (gB_ r_2 B1 c1) (kB_ r_2 B1 c1) 0 hS3 K26) ?_
 rintro _ w_3 ⟨rfl, hS4⟩
 refine sQ 5 (yg (.bool r_3)) (rn (cq (cq (cr ?_))))
 refine sQ 11 (ym (.bool r_3)) <| sQ 12 (Y_not (p := r_3) rfl rfl) (rn ?_)
 refine cw_cond (b := (!r_3)) rfl (fun hb => ?_) (fun hb => ?_)
 ·skip
  have hF1 := ct hF hb
  refine cq (cr ?_)
  refine sQ 2 (yg (vi 0)) <| sQ 3 (yg (.bool false)) (rn (ct_ ?_))
  obtain ⟨rfl, rfl⟩ := pr2 (sI hF1)
  exact ret2 Tryz.results9 (v1 := vi 0) (resAt_tmp rfl) (v2 := .bool false) (resAt_tmp rfl) ⟨rfl, (hS4.sN [])⟩
 ·skip
  have hF2 := cf' hF hb
  refine cw_skip (cq (cr ?_))
  refine sQ 13 (yb (aD b1) 0 (kB_ r_2 B1 c1) K51 K26 (hS4.c 2)) ?_
  obtain ⟨r_4, hc1, hF2⟩ := bI hF2
  refine sc 14 rfl rfl (yC [gB_ r_2 B1 c1] K108 (c_impl_blochExp r_2 B1 c1 r_2.Cells.length _ rfl (hS4.inn0 [(false, 1)] rfl) hc1)) ?_
  rintro _ w_4 ⟨rfl, hd1⟩
  have hS5 := hS4.out00 hd1
  refine sQ 2 (yg (vi r_4)) <| sQ 3 (yg (.bool true)) (rn (ct_ ?_))
  obtain ⟨rfl, rfl⟩ := pr2 (sI hF2)
  exact ret2 Tryz.results9 (v1 := vi r_4) (resAt_tmp rfl) (v2 := .bool true) (resAt_tmp rfl) ⟨rfl, (hS5.sN [])⟩

theorem c_impl_circuitIf (n : Int) (gates : List TGate) (B : Option Addr) (c n1 : Nat) (w0 : World) (hn : gates.length = n1) (hS : ST w0 [] w0 [] [⟨B, (gates.flatMap eN4)⟩]) {r_ : TCircuit} {r_1 : Bool} (hF : F_impl_circuitIf n gates = some (r_, r_1)) :
  CV Tryz.prog 25 #[vi n, .slice B n1 c] w0 (fun v w' => ∃ (B1 : Option Addr) (c1 : Nat), v = .tuple #[.agg #[vi r_.Qubits, .slice B1 r_.Gates.length c1], .bool r_1] ∧ ST w0 [] w' [⟨B1, 64, (r_.Gates.flatMap eN4), c1 * 3⟩] []) := by
 subst hn
 unfold F_impl_circuitIf at hF
 refine cv_of_cw 17 Tryz.func25 rfl Tryz.ntmps25 rfl ?_
 refine cq (cr ?_)
 refine sS 4 (yN [vi 0, .slice none 0 0] 2 hS K55) ?_
 rintro _ w_ ⟨b, rfl, hS1⟩
 refine sQ 5 (yg (.bool false)) (rn (cq (cr ?_)))
 refine sQ 7 (ym (vi n)) ?_
 refine sS 8 (Ys_bslice0 (s := 3) (e := 64) hS1 K25 K17 rfl) ?_
 rintro _ w_1 ⟨b1, rfl, hS2⟩
 refine sQ 9 (ym (.slice B gates.length c)) ?_
 obtain ⟨hap, hF⟩ := chk_inv hF
 refine sS 10 (Ys_append (s := 3) (by' := 24) (i := 1) (nn := 0) (c := 0) (k := gates.length) (len := gates.length) (B := aD b1) (xs := (gates.flatMap eN4)) (cs' := (gates.flatMap eN4)) hS2 K25 K17 K62 K27 rfl (by decide) rfl rfl rfl rfl (fm_lenn (l := []) enc_Gate_len rfl) rfl (hS2.rf (i := 0) rfl) (fm_lenn (l := gates) enc_Gate_len rfl) (fm_one' (enc := eN4) enc_Gate_one gates) (by have := hap; omega) (by have := hap; simp only [maxLen]; omega) rfl (app_len0 (l := gates) rfl)) ?_
 rintro _ w_2 ⟨B2, c2, rfl, hS3⟩
 refine sQ 11 (Y_buildS (zs := [vi 0, .slice none 0 0]) (vs := [(0, vi n), (1, .slice B2 gates.length c2)]) (cs := [vi n, .slice B2 gates.length c2]) K78 K55 rfl (mpc rfl (mpc rfl mpn)) rfl) ?_
 refine sS 6 (yN [vi 0, .slice none 0 0] 2 hS3 K55) ?_
 rintro _ w_3 ⟨b2, rfl, hS4⟩
 refine s0 (yT 2 2 (aD b2) 37 (.agg #[vi n, .slice B2 gates.length c2]) [vi n, .slice B2 gates.length c2] 0 hS4 K32) ?_
 rintro _ w_4 ⟨rfl, hS5⟩
 refine rn (cq (cq (cr ?_)))
 refine sQ 12 (yb (aD b2) 0 [vi n, .slice B2 gates.length c2] K54 K32 (hS5.c 2)) ?_
 obtain ⟨r_2, hc, hF⟩ := bI hF
 refine sc 13 rfl rfl (yC [.agg #[vi n, .slice B2 gates.length c2]] K121 (c_impl_IsValidCircuit (TCircuit.mk n gates) B2 c2 gates.length _ rfl (hS5.inn0 [(false, 1)] rfl) hc)) ?_
 rintro _ w_5 ⟨rfl, hd⟩
 have hS6 := hS5.out00 hd
 refine sQ 14 (Y_not (p := r_2) rfl rfl) (rn ?_)
 refine cw_cond (b := (!r_2)) rfl (fun hb => ?_) (fun hb => ?_)
 ·skip
  have hF1 := ct hF hb
  refine cq (cr ?_)
  refine sQ 15 (Y_buildS (zs := [vi 0, .slice none 0 0]) (vs := []) (cs := [vi 0, .slice none 0 0]) K78 K55 rfl mpn rfl) ?_
  refine s0 (yT 0 2 (aD b) 37 (.agg #[vi 0, .slice none 0 0]) [vi 0, .slice none 0 0] 0 hS6 K32) ?_
  rintro _ w_6 ⟨rfl, hS7⟩
  refine sQ 5 (yg (.bool false)) (rn (ct_ ?_))
  have hS8 := hS7.addNil 64
  obtain ⟨rfl, rfl⟩ := pr2 (sI hF1)
  exact ret2 Tryz.results25 (v1 := .agg #[vi 0, .slice none 0 0]) (resAt_cellA (B := aD b) (i := 0) (cs := [vi 0, .slice none 0 0]) (vs := [vi 0, .slice none 0 0]) rfl K54 K32 (hS8.c 0) rfl rfl) (v2 := .bool false) (resAt_tmp rfl) ⟨none, 0, rfl, (hS8.sN [3])⟩
 ·skip
  have hF2 := cf' hF hb
  refine cw_skip (cq (cr ?_))
  refine sQ 16 (yb (aD b2) 0 [vi n, .slice B2 gates.length c2] K54 K32 (hS6.c 2)) ?_
  refine s0 (yT 0 2 (aD b) 37 (.agg #[vi n, .slice B2 gates.length c2]) [vi n, .slice B2 gates.length c2] 0 hS6 K32) ?_
  rintro _ w_7 ⟨rfl, hS9⟩
  refine sQ 5 (yg (.bool true)) (rn (ct_ ?_))
  obtain ⟨rfl, rfl⟩ := pr2 (sI hF2)
  exact ret2 Tryz.results25 (v1 := .agg #[vi n, .slice B2 gates.length c2]) (resAt_cellA (B := aD b) (i := 0) (cs := [vi n, .slice B2 gates.length c2]) (vs := [vi n, .slice B2 gates.length c2]) rfl K54 K32 (hS9.c 0) rfl rfl) (v2 := .bool true) (resAt_tmp rfl) ⟨B2, c2, rfl, (hS9.sN [1])⟩

theorem c_impl_CircuitOfForm (f_ : TNormalForm)  (w0 : World)  (hS : ST w0 [] w0 [] [⟨(aD 0), [vi 1, vi 0, vi 0, vi 0, vi 2]⟩]) {r_ : TCircuit} {r_1 : Bool} (hF : F_impl_CircuitOfForm f_ = some (r_, r_1)) :
  CV Tryz.prog 10 #[.agg #[.string (bstr f_.Syllables), vi f_.Clifford, vi f_.Phase]] w0 (fun v w' => ∃ (B : Option Addr) (c : Nat), v = .tuple #[.agg #[vi r_.Qubits, .slice B r_.Gates.length c], .bool r_1] ∧ ST w0 [] w' [⟨B, 64, (r_.Gates.flatMap eN4), c * 3⟩] []) := by
 unfold F_impl_CircuitOfForm at hF
 refine cv_of_cw 24 Tryz.func10 rfl Tryz.ntmps10 rfl ?_
 refine cq (cr ?_)
 refine sS 1 (yB 23 (.agg #[.string (bstr f_.Syllables), vi f_.Clifford, vi f_.Phase]) [.string (bstr f_.Syllables), vi f_.Clifford, vi f_.Phase] 3 hS) ?_
 rintro _ w_ ⟨b, rfl, hS1⟩
 refine sS 2 (yN [vi 0, .slice none 0 0] 2 hS1 K55) ?_
 rintro _ w_1 ⟨b1, rfl, hS2⟩
 refine sQ 3 (yg (.bool false)) (rn (cq (cq (cr ?_))))
 refine sQ 5 (yb (aD b) 0 [.string (bstr f_.Syllables), vi f_.Clifford, vi f_.Phase] K36 K30 (hS2.c 0)) ?_
 obtain ⟨r_2, hc, hF⟩ := bI hF
 refine sc 6 rfl rfl (yC [.agg #[.string (bstr f_.Syllables), vi f_.Clifford, vi f_.Phase]] K113 (c_impl_IsValidForm f_ _  (hS2.inn0 [] rfl) hc)) ?_
 rintro _ w_2 ⟨rfl, hd⟩
 have hS3 := hS2.out00 hd
 refine sQ 7 (Y_not (p := r_2) rfl rfl) (rn ?_)
 refine cw_cond (b := (!r_2)) rfl (fun hb => ?_) (fun hb => ?_)
 ·skip
  have hF1 := ct hF hb
  refine cq (cr ?_)
  refine sQ 8 (Y_buildS (zs := [vi 0, .slice none 0 0]) (vs := []) (cs := [vi 0, .slice none 0 0]) K78 K55 rfl mpn rfl) ?_
  refine s0 (yT 1 2 (aD b1) 37 (.agg #[vi 0, .slice none 0 0]) [vi 0, .slice none 0 0] 0 hS3 K32) ?_
  rintro _ w_3 ⟨rfl, hS4⟩
  refine sQ 3 (yg (.bool false)) (rn (ct_ ?_))
  have hS5 := hS4.addNil 64
  obtain ⟨rfl, rfl⟩ := pr2 (sI hF1)
  exact ret2 Tryz.results10 (v1 := .agg #[vi 0, .slice none 0 0]) (resAt_cellA (B := aD b1) (i := 0) (cs := [vi 0, .slice none 0 0]) (vs := [vi 0, .slice none 0 0]) rfl K54 K32 (hS5.c 1) rfl rfl) (v2 := .bool false) (resAt_tmp rfl) ⟨none, 0, rfl, (hS5.sN [2])⟩
 ·skip
  have hF2 := cf' hF hb
  refine cw_skip (cq (cr ?_))
  refine sQ 9 (yb (aD b) 0 [.string (bstr f_.Syllables), vi f_.Clifford, vi f_.Phase] K36 K30 (hS3.c 0)) ?_
  obtain ⟨r_3, hc1, hF2⟩ := bI hF2
  refine sc 10 rfl rfl (yC [.agg #[.string (bstr f_.Syllables), vi f_.Clifford, vi f_.Phase]] k_call_13 (c_impl_formGates f_ _  (hS3.inn0 [(true, 0)] rfl) hc1)) ?_
  rintro _ w_4 ⟨B1, c1, rfl, hd1⟩
  have hS6 := hS3.out0 hd1
  refine sQ 4 (yg (.slice B1 r_3.length c1)) (rn (cq (cq (cr ?_))))
  refine sQ 11 (yd (aD b) 0 0 K85 K2) <| sQ 12 (yl (aD b) 2 [.string (bstr f_.Syllables), vi f_.Clifford, vi f_.Phase] (vi f_.Phase) K0 (hS6.c 0)) <| sQ 13 (ym (vi 0)) (rn ?_)
  obtain ⟨hN, hF2⟩ := chk_inv hF2
  obtain ⟨z, hz, hF3⟩ := bI hF2
  refine cw_block ?_
  refine cw_loop (fun k f w => ∃ (i : Nat) (out : List TGate) (B2 : Option Addr) (c2 : Nat), FF f [(2, pt (aD b1) 0), (4, .slice B2 out.length c2), (12, vi f_.Phase), (13, vi (i : Int))] ∧ ST w0 [] w [⟨aD b1, 37, [vi 0, .slice none 0 0], 2⟩, ⟨B2, 64, (out.flatMap eN4), c2 * 3⟩] [⟨(aD 0), [vi 1, vi 0, vi 0, vi 0, vi 2]⟩] ∧ i + k = f_.Phase.toNat ∧ forN F_impl_CircuitOfForm_l1 k i out = some z) f_.Phase.toNat ⟨0, r_3, B1, c1, (fc rfl (fc rfl (fc rfl (fc rfl fn_)))), (hS6.sel [1, 2] rfl rfl), Nat.zero_add _, hz⟩ ?_
  rintro k_ f w ⟨i, out, B2, c2, hf, hS7, hik, hL⟩
  refine cq (cr ?_)
  refine sQ 14 (yL (i : Int) f_.Phase rfl (hf.g 13 3) (hf.g 12 2)) (rn (cq ?_))
  refine cw_cond (b := (decide ((i : Int) < f_.Phase))) rfl (fun hlt => ?_) (fun hlt => ?_)
  ·skip
   have hlt1 : i < f_.Phase.toNat := by have h := of_decide_eq_true hlt; omega
   obtain ⟨K7, rfl⟩ : ∃ k2, k_ = k2 + 1 := ⟨k_ - 1, by omega⟩
   obtain ⟨y, hb1, hL1⟩ := forN_go hL
   unfold F_impl_CircuitOfForm_l1 at hb1
   refine cw_skip (cq (cw_block (cr ?_)))
   refine sQ 15 (ym (.slice B2 out.length c2) rfl (hf.g 4 1)) <| sQ 16 (Y_buildS (zs := [vi 0, vi 0, vi 0]) (vs := [(0, vi 12)]) (cs := [vi 12, vi 0, vi 0]) K48 K27 rfl (mpc rfl mpn) rfl) ?_
   refine sS 17 (Ys_bslice (s := 3) (len := 1) (vs := [(0, .agg #[vi 12, vi 0, vi 0])]) (cs := [vi 12, vi 0, vi 0]) (zs := [vi 0, vi 0, vi 0]) (m := 3) hS7 K25 K17 K61 rfl (mpc rfl mpn) rfl rfl rfl (by kernel_rfl) (by kernel_rfl) rfl) ?_
   rintro _ w_5 ⟨b2, rfl, hS8⟩
   have hS8 : ST w0 [] _ [⟨aD b1, 37, [vi 0, .slice none 0 0], 2⟩, ⟨B2, 64, (out.flatMap eN4), c2 * 3⟩, ⟨aD b2, 64, ([(TGate.mk 12 0 0)].flatMap eN4), 1 * 3⟩] [⟨(aD 0), [vi 1, vi 0, vi 0, vi 0, vi 2]⟩] := hS8
   obtain ⟨hap, hb1⟩ := chk_inv hb1
   refine sS 18 (Ys_append (s := 3) (by' := 24) (i := 1) (nn := out.length) (c := c2) (k := 1) (len := (out ++ [(TGate.mk 12 0 0)]).length) (B := B2) (xs := ([(TGate.mk 12 0 0)].flatMap eN4)) (cs' := ((out ++ [(TGate.mk 12 0 0)]).flatMap eN4)) hS8 K25 K17 K62 K27 rfl (by decide) rfl rfl rfl rfl (fm_lenn (l := out) enc_Gate_len rfl) rfl (hS8.c 2) (fm_lenn (l := [(TGate.mk 12 0 0)]) enc_Gate_len rfl) (fm_one' (enc := eN4) enc_Gate_one [(TGate.mk 12 0 0)]) (by have := hap; omega) (by have := hap; simp only [maxLen]; omega) (fm_app _ _) (app_len (l := out) (l' := [(TGate.mk 12 0 0)]) rfl rfl)) ?_
   rintro _ w_6 ⟨B3, c3, rfl, hS9⟩
   have hS9 : ST w0 [] _ [⟨aD b1, 37, [vi 0, .slice none 0 0], 2⟩, ⟨B3, 64, ((out ++ [(TGate.mk 12 0 0)]).flatMap eN4), c3 * 3⟩, ⟨aD b2, 64, ([(TGate.mk 12 0 0)].flatMap eN4), 1 * 3⟩] [⟨(aD 0), [vi 1, vi 0, vi 0, vi 0, vi 2]⟩] := hS9
   refine sQ 4 (yg (.slice B3 ((out ++ [(TGate.mk 12 0 0)]).length) c3)) (rn (cr ?_))
   refine sQ 19 (yP (i : Int) 1 rfl (hf.g 13 3)) <| sQ 13 (ym (vi (i64.wrap ((i : Int) + 1)))) (rn ?_)
   obtain rfl := sI hb1
   exact ⟨K7, Nat.lt_succ_self _, i + 1, (out ++ [(TGate.mk 12 0 0)]), B3, c3, (fc (hf.g 2 0) (fc rfl (fc (hf.g 12 2) (fc (congrArg (Value.int .i64) (wr_succ hlt1 hN)) fn_)))), (hS9.sel [0, 1] rfl rfl), (by omega), hL1⟩
  ·skip
   obtain rfl : k_ = 0 := by have h := of_decide_eq_false hlt; omega
   refine cw_exit rfl ?_
   obtain rfl := sI hL
   refine cq (cr ?_)
   refine sQ 20 (ym (.slice B2 out.length c2) rfl (hf.g 4 1)) ?_
   obtain ⟨⟨r_4, r_5⟩, hc2, hF3⟩ := bI hF3
   refine sc 21 rfl rfl (yC [vi 1, .slice B2 out.length c2] k_call_25 (c_impl_circuitIf 1 out B2 c2 out.length _ rfl (hS7.inn0 [(false, 1)] rfl) hc2)) ?_
   rintro _ w_7 ⟨B4, c4, rfl, hd2⟩
   have hS10 := hS7.out0 hd2
   refine sQ 22 (ye (.agg #[vi r_4.Qubits, .slice B4 r_4.Gates.length c4])) <| sQ 23 (ye (.bool r_5)) ?_
   refine s0 (yT 0 2 (aD b1) 37 (.agg #[vi r_4.Qubits, .slice B4 r_4.Gates.length c4]) [vi r_4.Qubits, .slice B4 r_4.Gates.length c4] 0 hS10 K32 rfl (hf.g 2 0)) ?_
   rintro _ w_8 ⟨rfl, hS11⟩
   refine sQ 3 (yg (.bool r_5)) (rn (ct_ ?_))
   obtain ⟨rfl, rfl⟩ := pr2 (sI hF3)
   exact ret2 Tryz.results10 (v1 := .agg #[vi r_4.Qubits, .slice B4 r_4.Gates.length c4]) (resAt_cellA (B := aD b1) (i := 0) (cs := [vi r_4.Qubits, .slice B4 r_4.Gates.length c4]) (vs := [vi r_4.Qubits, .slice B4 r_4.Gates.length c4]) (hf.g 2 0) K54 K32 (hS11.c 0) rfl rfl) (v2 := .bool r_5) (resAt_tmp rfl) ⟨B4, c4, rfl, (hS11.sN [2])⟩

theorem c_impl_counted (c : TCircuit) (is_ : Int → Option (Bool)) (B : Option Addr) (c1 n : Nat) (kf : Nat) (caps : Array Value) (Rf : List Ro) (w0 : World) (hn : c.Gates.length = n) (hk : callB Tryz.prog kf = true) (hp : ∀ (w : World), ST w [] w [] Rf → ∀ (x : Int) (y : Bool), is_ x = some y → CV Tryz.prog kf ((vi x) :: caps.toList).toArray w (fun v w' => v = .bool y ∧ ST w [] w' [] [])) (hS : ST w0 [] w0 [] (⟨B, (c.Gates.flatMap eN4)⟩ :: Rf)) {r_ : Int} {r_1 : Bool} (hF : F_impl_counted c is_ = some (r_, r_1)) :
  CV Tryz.prog 26 #[.agg #[vi c.Qubits, .slice B n c1], .func (.func kf) #[] caps] w0 (fun v w' => v = .tuple #[vi r_, .bool r_1] ∧ ST w0 [] w' [] []) := by
 subst hn
 unfold F_impl_counted at hF
 refine cv_of_cw 27 Tryz.func26 rfl Tryz.ntmps26 rfl ?_
 refine cq (cr ?_)
 refine sS 2 (yB 37 (.agg #[vi c.Qubits, .slice B c.Gates.length c1]) [vi c.Qubits, .slice B c.Gates.length c1] 2 hS) ?_
 rintro _ w_ ⟨b, rfl, hS1⟩
 refine sQ 4 (yg (vi 0)) <| sQ 5 (yg (.bool false)) (rn (cq (cq (cr ?_))))
 refine sQ 9 (yb (aD b) 0 [vi c.Qubits, .slice B c.Gates.length c1] K54 K32 (hS1.c 0)) ?_
 obtain ⟨r_2, hc, hF⟩ := bI hF
 refine sc 10 rfl rfl (yC [.agg #[vi c.Qubits, .slice B c.Gates.length c1]] K121 (c_impl_IsValidCircuit c B c1 c.Gates.length _ rfl (hS1.inn0 [(true, 0)] rfl) hc)) ?_
 rintro _ w_1 ⟨rfl, hd⟩
 have hS2 := hS1.out00 hd
 refine sQ 11 (Y_not (p := r_2) rfl rfl) (rn ?_)
 refine cw_cond (b := (!r_2)) rfl (fun hb => ?_) (fun hb => ?_)
 ·skip
  have hF1 := ct hF hb
  refine cq (cr ?_)
  refine sQ 4 (yg (vi 0)) <| sQ 5 (yg (.bool false)) (rn (ct_ ?_))
  obtain ⟨rfl, rfl⟩ := pr2 (sI hF1)
  exact ret2 Tryz.results26 (v1 := vi 0) (resAt_tmp rfl) (v2 := .bool false) (resAt_tmp rfl) ⟨rfl, (hS2.sN [])⟩
 ·skip
  have hF2 := cf' hF hb
  refine cw_skip (cq (cr ?_))
  refine sQ 6 (yg (vi 0)) (rn (cq (cq (cr ?_))))
  refine sQ 12 (yd (aD b) 0 0 K53 K37) <| sQ 13 (yl (aD b) 1 [vi c.Qubits, .slice B c.Gates.length c1] (.slice B c.Gates.length c1) K60 (hS2.c 0)) <| sQ 14 (Y_len (B := B) (m := c.Gates.length) (c := c1) K25 rfl rfl) <| sQ 15 (ym (vi 0)) (rn ?_)
  obtain ⟨hN, hF2⟩ := chk_inv hF2
  obtain ⟨z, hz, hF3⟩ := bI hF2
  refine cw_block ?_
  refine cw_loop (fun k f w => ∃ (i : Nat) (count : Int), FF f [(1, .func (.func kf) #[] caps), (6, vi count), (13, .slice B c.Gates.length c1), (14, vi (c.Gates.length : Int)), (15, vi (i : Int))] ∧ ST w0 [] w [] (⟨B, (c.Gates.flatMap eN4)⟩ :: Rf) ∧ i + k = c.Gates.length ∧ forN (F_impl_counted_l1 c is_) k i count = some z) c.Gates.length ⟨0, 0, (fc rfl (fc rfl (fc rfl (fc rfl (fc rfl fn_))))), (hS2.sel [] rfl rfl), Nat.zero_add _, hz⟩ ?_
  rintro k_ f w ⟨i, count, hf, hS3, hik, hL⟩
  refine cq (cr ?_)
  refine sQ 16 (yL (i : Int) (c.Gates.length : Int) rfl (hf.g 15 4) (hf.g 14 3)) (rn (cq ?_))
  refine cw_cond (b := (decide ((i : Int) < (c.Gates.length : Int)))) rfl (fun hlt => ?_) (fun hlt => ?_)
  ·skip
   have hlt1 : i < c.Gates.length := by have h := of_decide_eq_true hlt; omega
   obtain ⟨K7, rfl⟩ : ∃ k2, k_ = k2 + 1 := ⟨k_ - 1, by omega⟩
   obtain ⟨y1, hb1, hL1⟩ := forN_go hL
   unfold F_impl_counted_l1 at hb1
   refine cw_skip (cq ?_)
   obtain ⟨z1, hz1, hF4⟩ := bI hb1
   refine cw_mid (fun f w => ∃ (count1 : Int), count1 = z1 ∧ FF f [(1, .func (.func kf) #[] caps), (6, vi count1), (13, .slice B c.Gates.length c1), (14, vi (c.Gates.length : Int)), (15, vi (i : Int))] ∧ ST w0 [] w [] (⟨B, (c.Gates.flatMap eN4)⟩ :: Rf)) ?_ ?_
   ·skip
    refine cw_block (cq (cr ?_))
    obtain ⟨x1, hx, hz1⟩ := bI hz1
    refine sQ 17 (Y_index (B := B) (m := c.Gates.length) (c := c1) (k := .i64) (i := (i : Int)) K25 K17 rfl (hf.g 13 2) (hf.g 15 4) (gi_isSome enc_Gate_len rfl (hS3.rf (i := 0) rfl) hx) (getI_nn hx) (getI_ltI hx rfl)) <| sQ 18 (ya B ((i : Int).toNat * 3) (c.Gates.flatMap eN4) [vi x1.Kind, vi x1.A, vi x1.B] K65 K17 (hS3.rf (i := 0) rfl) rfl rfl (enc_Gate_len x1) (gi_seg enc_Gate_len hx)) ?_
    refine sS 8 (yN [vi 0, vi 0, vi 0] 3 hS3 K27) ?_
    rintro _ w_2 ⟨b1, rfl, hS5⟩
    refine s0 (yT 0 3 (aD b1) 64 (.agg #[vi x1.Kind, vi x1.A, vi x1.B]) [vi x1.Kind, vi x1.A, vi x1.B] 0 hS5 K17) ?_
    rintro _ w_3 ⟨rfl, hS6⟩
    refine rn (cq (cr ?_))
    refine sQ 19 (ym (.func (.func kf) #[] caps) rfl (hf.g 1 0)) <| sQ 20 (yd (aD b1) 0 0 K57 K2) <| sQ 21 (yl (aD b1) 0 [vi x1.Kind, vi x1.A, vi x1.B] (vi x1.Kind) K0 (hS6.c 0)) ?_
    obtain ⟨r_3, hc1, hz1⟩ := bI hz1
    refine sc 22 rfl rfl (Yc_clos (g := kf) (vs := (vi x1.Kind) :: caps.toList) hk rfl rfl (clo_args (mc rfl mn)) (hp _ (hS6.innS (fun _ h => mOd (i := 1) h)) x1.Kind r_3 hc1)) ?_
    rintro _ w_4 ⟨rfl, hd1⟩
    have hS7 := hS6.out00 hd1
    refine rn ?_
    refine cw_cond (b := r_3) rfl (fun hb2 => ?_) (fun hb2 => ?_)
    ·skip
     have hF5 := ct hz1 hb2
     refine cr ?_
     refine sQ 23 (ym (vi count) rfl (hf.g 6 1)) <| sQ 24 (yP count 1) <| sQ 6 (yg (vi (i64.wrap (count + 1)))) (rn ?_)
     exact ⟨(i64.wrap (count + 1)), (sI hF5), (fc (hf.g 1 0) (fc rfl (fc (hf.g 13 2) (fc (hf.g 14 3) (fc (hf.g 15 4) fn_))))), (hS7.sel [] rfl rfl)⟩
    ·skip
     have hF6 := cf' hz1 hb2
     refine cw_skip ?_
     exact ⟨count, (sI hF6), (fc (hf.g 1 0) (fc (hf.g 6 1) (fc (hf.g 13 2) (fc (hf.g 14 3) (fc (hf.g 15 4) fn_))))), (hS7.sel [] rfl rfl)⟩
   rintro f w ⟨count1, rfl, hf1, hS4⟩
   refine cr ?_
   refine sQ 25 (yP (i : Int) 1 rfl (hf1.g 15 4)) <| sQ 15 (ym (vi (i64.wrap ((i : Int) + 1)))) (rn ?_)
   obtain rfl := sI hF4
   exact ⟨K7, Nat.lt_succ_self _, i + 1, count1, (fc (hf1.g 1 0) (fc (hf1.g 6 1) (fc (hf1.g 13 2) (fc (hf1.g 14 3) (fc (congrArg (Value.int .i64) (wr_succ hlt1 hN)) fn_))))), (hS4.sel [] rfl rfl), (by omega), hL1⟩
  ·skip
   obtain rfl : k_ = 0 := by have h := of_decide_eq_false hlt; omega
   refine cw_exit rfl ?_
   obtain rfl := sI hL
   refine cq (cr ?_)
   refine sQ 26 (ym (vi count) rfl (hf.g 6 1)) <| sQ 4 (yg (vi count)) <| sQ 5 (yg (.bool true)) (rn (ct_ ?_))
   obtain ⟨rfl, rfl⟩ := pr2 (sI hF3)
   exact ret2 Tryz.results26 (v1 := vi count) (resAt_tmp rfl) (v2 := .bool true) (resAt_tmp rfl) ⟨rfl, (hS3.sN [])⟩

theorem c_impl_isT (kind : Int)  (w0 : World)  (hS : ST w0 [] w0 [] []) {r_ : Bool} (hF : F_impl_isT kind = some r_) :
  CV Tryz.prog 27 #[vi kind] w0 (fun v w' => v = .bool r_ ∧ ST w0 [] w' [] []) := by
 unfold F_impl_isT at hF
 refine cv_of_cw 9 Tryz.func27 rfl Tryz.ntmps27 rfl ?_
 refine cq (cr ?_)
 refine sQ 2 (yg (.bool false)) (rn (cq (cr ?_)))
 refine sQ 3 (ym (vi kind)) <| sQ 4 (yE kind 7) <| sQ 5 (ym (.bool (kind == 7))) ?_
 refine sgq 6 (B := (!(kind == 7))) (v := vi kind) rfl rfl (uF_ 5) (fun hg => (ym (vi kind))) ?_
 refine sgq 7 (B := (!(kind == 7))) (v := .bool (kind == 8)) rfl rfl (uF_ 5) (fun hg1 => (yE kind 8 rfl (gv_of (v := vi kind) hg1))) ?_
 refine sQ 8 (Y_or (b := (kind == 7)) (z := (kind == 8)) rfl rfl rfl rfl) <| sQ 2 (yg (.bool ((kind == 7) || (kind == 8)))) (rn (ct_ ?_))
 obtain rfl := sI hF
 exact ret1 Tryz.results27 (v1 := .bool ((kind == 7) || (kind == 8))) (resAt_tmp rfl) ⟨rfl, (hS.sN [])⟩

theorem c_impl_CountT (c : TCircuit) (B : Option Addr) (c1 n : Nat) (w0 : World) (hn : c.Gates.length = n) (hS : ST w0 [] w0 [] [⟨B, (c.Gates.flatMap eN4)⟩]) {r_ : Int} {r_1 : Bool} (hF : F_impl_CountT c = some (r_, r_1)) :
  CV Tryz.prog 11 #[.agg #[vi c.Qubits, .slice B n c1]] w0 (fun v w' => v = .tuple #[vi r_, .bool r_1] ∧ ST w0 [] w' [] []) := by
 subst hn
 unfold F_impl_CountT at hF
 refine cv_of_cw 8 Tryz.func11 rfl Tryz.ntmps11 rfl ?_
 refine cq (cr ?_)
 refine sS 1 (yB 37 (.agg #[vi c.Qubits, .slice B c.Gates.length c1]) [vi c.Qubits, .slice B c.Gates.length c1] 2 hS) ?_
 rintro _ w_ ⟨b, rfl, hS1⟩
 refine sQ 2 (yg (vi 0)) <| sQ 3 (yg (.bool false)) (rn (cq (cr ?_)))
 refine sQ 4 (yb (aD b) 0 [vi c.Qubits, .slice B c.Gates.length c1] K54 K32 (hS1.c 0)) ?_
 obtain ⟨⟨r_2, r_3⟩, hc, hF⟩ := bI hF
 refine sc 5 rfl rfl (yC [.agg #[vi c.Qubits, .slice B c.Gates.length c1], .func (.func 27) #[] #[]] k_call_26 (c_impl_counted c F_impl_isT B c1 c.Gates.length 27 (#[]) [] _ rfl k_call_27 (fun w hw x_0 y_0 h_ => c_impl_isT x_0  w  hw h_) (hS1.inn0 [(true, 0)] rfl) hc)) ?_
 rintro _ w_1 ⟨rfl, hd⟩
 have hS2 := hS1.out00 hd
 refine sQ 6 (ye (vi r_2)) <| sQ 7 (ye (.bool r_3)) <| sQ 2 (yg (vi r_2)) <| sQ 3 (yg (.bool r_3)) (rn (ct_ ?_))
 obtain ⟨rfl, rfl⟩ := pr2 (sI hF)
 exact ret2 Tryz.results11 (v1 := vi r_2) (resAt_tmp rfl) (v2 := .bool r_3) (resAt_tmp rfl) ⟨rfl, (hS2.sN [])⟩

theorem c_laws_FnOneForm (f_ : TNormalForm) (g : TNormalForm)  (w0 : World)  (hS : ST w0 [] w0 [] [⟨(aD 0), [vi 1, vi 0, vi 0, vi 0, vi 2]⟩]) {r_ : Bool} (hF : F_laws_FnOneForm f_ g = some r_) :
  CV Tryz.prog 3 #[.agg #[.string (bstr f_.Syllables), vi f_.Clifford, vi f_.Phase], .agg #[.string (bstr g.Syllables), vi g.Clifford, vi g.Phase]] w0 (fun v w' => v = .bool r_ ∧ ST w0 [] w' [] []) := by
 unfold F_laws_FnOneForm at hF
 refine cv_of_cw 104 Tryz.func3 rfl Tryz.ntmps3 rfl ?_
 refine cq (cr ?_)
 refine sS 2 (yB 23 (.agg #[.string (bstr f_.Syllables), vi f_.Clifford, vi f_.Phase]) [.string (bstr f_.Syllables), vi f_.Clifford, vi f_.Phase] 3 hS) ?_
 rintro _ w_ ⟨b, rfl, hS1⟩
 refine sS 3 (yB 23 (.agg #[.string (bstr g.Syllables), vi g.Clifford, vi g.Phase]) [.string (bstr g.Syllables), vi g.Clifford, vi g.Phase] 3 hS1) ?_
 rintro _ w_1 ⟨b1, rfl, hS2⟩
 refine sQ 4 (yg (.bool false)) (rn (cq (cr ?_)))
 refine sQ 20 (yb (aD b) 0 [.string (bstr f_.Syllables), vi f_.Clifford, vi f_.Phase] K36 K30 (hS2.c 0)) ?_
 obtain ⟨⟨r_1, r_2⟩, hc, hF⟩ := bI hF
 refine sc 21 rfl rfl (yC [.agg #[.string (bstr f_.Syllables), vi f_.Clifford, vi f_.Phase]] K127 (c_impl_MatrixOfForm f_ _  (hS2.inn0 [(true, 0)] rfl) hc)) ?_
 rintro _ w_2 ⟨B, c, rfl, hd⟩
 have hS3 := hS2.out0 hd
 refine sQ 19 (ym (.tuple #[gM_ r_1 B c, .bool r_2])) <| sQ 22 (ye (gM_ r_1 B c)) <| sQ 23 (ye (.bool r_2)) ?_
 refine sS 5 (yN kN_ 3 hS3 K12) ?_
 rintro _ w_3 ⟨b2, rfl, hS4⟩
 refine s0 (yT 3 3 (aD b2) 26 (gM_ r_1 B c) (kM_ r_1 B c) 0 hS4 K3) ?_
 rintro _ w_4 ⟨rfl, hS5⟩
 refine sQ 6 (yg (.bool r_2)) (rn (cq (cr ?_)))
 refine sQ 25 (yb (aD b) 0 [.string (bstr f_.Syllables), vi f_.Clifford, vi f_.Phase] K36 K30 (hS5.c 0)) ?_
 obtain ⟨⟨r_3, r_4⟩, hc1, hF⟩ := bI hF
 refine sc 26 rfl rfl (yC [.agg #[.string (bstr f_.Syllables), vi f_.Clifford, vi f_.Phase]] k_call_5 (c_spec_MatrixOfForm f_ _  (hS5.inn0 [] rfl) hc1)) ?_
 rintro _ w_5 ⟨B1, c1, rfl, hd1⟩
 have hS6 := hS5.out0 hd1
 refine sQ 24 (ym (.tuple #[gM_ r_3 B1 c1, .bool r_4])) <| sQ 27 (ye (gM_ r_3 B1 c1)) <| sQ 28 (ye (.bool r_4)) ?_
 refine sS 7 (yN kN_ 3 hS6 K12) ?_
 rintro _ w_6 ⟨b3, rfl, hS7⟩
 have hS7 : ST w0 [] _ [⟨aD b, 23, [.string (bstr f_.Syllables), vi f_.Clifford, vi f_.Phase], 3⟩, ⟨aD b1, 23, [.string (bstr g.Syllables), vi g.Clifford, vi g.Phase], 3⟩, ⟨B, 48, (r_1.Cells.flatMap eN0), c * 5⟩, ⟨aD b2, 26, kM_ r_1 B c, 3⟩, ⟨B1, 48, (r_3.Cells.flatMap eN0), c1 * 5⟩, ⟨aD b3, 26, kN_, 3⟩] [⟨(aD 0), [vi 1, vi 0, vi 0, vi 0, vi 2]⟩] := hS7
 refine s0 (yT 5 3 (aD b3) 26 (gM_ r_3 B1 c1) (kM_ r_3 B1 c1) 0 hS7 K3) ?_
 rintro _ w_7 ⟨rfl, hS8⟩
 refine sQ 8 (yg (.bool r_4)) (rn (cq (cq (cr ?_))))
 refine sQ 29 (ym (.bool r_2)) <| sQ 30 (ym (.bool r_4)) <| sQ 31 (Y_bne (p := r_2) (q := r_4) K128 rfl rfl rfl) <| sQ 32 (ym (.bool (!(r_2 == r_4)))) ?_
 refine sgq 33 (B := (!(!(r_2 == r_4)))) (v := .bool r_2) rfl rfl (uF_ 32) (fun hg => (ym (.bool r_2))) ?_
 refine sgq 34 (B := (!(!(r_2 == r_4)))) (v := .agg #[.string (bstr f_.Syllables), vi f_.Clifford, vi f_.Phase]) rfl rfl (uF_ 32) (fun hg1 => (yb (aD b) 0 [.string (bstr f_.Syllables), vi f_.Clifford, vi f_.Phase] K36 K30 (hS8.c 0))) ?_
 obtain ⟨r_5, hc2, hF⟩ := bI hF
 refine sgc 35 (B := (!(!(r_2 == r_4)))) (v := .bool r_5) (F := hS8.fn) rfl rfl (uF_ 32) hS8 (fun hg2 => (yC [.agg #[.string (bstr f_.Syllables), vi f_.Clifford, vi f_.Phase]] K113 (CV.mono (c_impl_IsValidForm f_ _  (hS8.inn0 [] rfl) (gb_inv hc2 hg2)) (by rintro _ _ ⟨rfl, h⟩; exact ⟨rfl, hS8.out00 h⟩)) rfl (mc (gv_of (v := .agg #[.string (bstr f_.Syllables), vi f_.Clifford, vi f_.Phase]) hg2) mn))) ?_
 rintro w_8 hS9
 refine sgq 36 (B := (!(!(r_2 == r_4)))) (v := .bool (!(r_2 == r_5))) rfl rfl (uF_ 32) (fun hg3 => (Y_bne (p := r_2) (q := r_5) K128 rfl (gv_of (v := .bool r_2) hg3) (gv_of (v := .bool r_5) hg3))) ?_
 refine sQ 37 (Y_or (b := (!(r_2 == r_4))) (z := (!(r_2 == r_5))) rfl rfl rfl rfl) <| sQ 38 (ym (.bool ((!(r_2 == r_4)) || (!(r_2 == r_5))))) ?_
 refine sgq 39 (B := (!((!(r_2 == r_4)) || (!(r_2 == r_5))))) (v := gM_ r_1 B c) rfl rfl (uF_ 38) (fun hg4 => (yb (aD b2) 0 (kM_ r_1 B c) K8 K3 (hS9.c 3))) ?_
 refine sgq 40 (B := (!((!(r_2 == r_4)) || (!(r_2 == r_5))))) (v := gM_ r_3 B1 c1) rfl rfl (uF_ 38) (fun hg5 => (yb (aD b3) 0 (kM_ r_3 B1 c1) K8 K3 (hS9.c 5))) ?_
 obtain ⟨r_6, hc3, hF⟩ := bI hF
 refine sgc 41 (B := (!((!(r_2 == r_4)) || (!(r_2 == r_5))))) (v := .bool r_6) (F := hS9.fn) rfl rfl (uF_ 38) hS9 (fun hg6 => (yC [gM_ r_1 B c, gM_ r_3 B1 c1] k_call_7 (CV.mono (c_spec_EqualMatrices r_1 r_3 B c r_1.Cells.length B1 c1 r_3.Cells.length _ rfl rfl (hS9.inn0 [(false, 2), (false, 4)] rfl) (gb_inv hc3 hg6)) (by rintro _ _ ⟨rfl, h⟩; exact ⟨rfl, hS9.out00 h⟩)) rfl (mc (gv_of (v := gM_ r_1 B c) hg6) (mc (gv_of (v := gM_ r_3 B1 c1) hg6) mn)))) ?_
 rintro w_9 hS10
 refine sgq 42 (B := (!((!(r_2 == r_4)) || (!(r_2 == r_5))))) (v := .bool (!r_6)) rfl rfl (uF_ 38) (fun hg7 => (Y_not (p := r_6) rfl (gv_of (v := .bool r_6) hg7))) ?_
 refine sQ 43 (Y_or (b := ((!(r_2 == r_4)) || (!(r_2 == r_5)))) (z := (!r_6)) rfl rfl rfl rfl) (rn ?_)
 refine cw_cond (b := (((!(r_2 == r_4)) || (!(r_2 == r_5))) || (!r_6))) rfl (fun hb => ?_) (fun hb => ?_)
 ·skip
  have hF1 := ct hF hb
  refine cq (cr ?_)
  refine sQ 4 (yg (.bool false)) (rn (ct_ ?_))
  obtain rfl := sI hF1
  exact ret1 Tryz.results3 (v1 := .bool false) (resAt_tmp rfl) ⟨rfl, (hS10.sN [])⟩
 ·skip
  have hF2 := cf' hF hb
  refine cw_skip (cq (cq (cr ?_)))
  refine sQ 44 (ym (.bool r_2)) <| sQ 45 (Y_not (p := r_2) rfl rfl) (rn ?_)
  refine cw_cond (b := (!r_2)) rfl (fun hb1 => ?_) (fun hb1 => ?_)
  ·skip
   have hF3 := ct hF2 hb1
   refine cq (cr ?_)
   refine sQ 4 (yg (.bool true)) (rn (ct_ ?_))
   obtain rfl := sI hF3
   exact ret1 Tryz.results3 (v1 := .bool true) (resAt_tmp rfl) ⟨rfl, (hS10.sN [])⟩
  ·skip
   have hF4 := cf' hF2 hb1
   refine cw_skip (cq (cr ?_))
   refine sQ 47 (yb (aD b2) 0 (kM_ r_1 B c) K8 K3 (hS10.c 3)) ?_
   obtain ⟨⟨r_7, r_8⟩, hc4, hF4⟩ := bI hF4
   refine sc 48 rfl rfl (yC [gM_ r_1 B c] k_call_8 (c_impl_NormalFormOf r_1 B c r_1.Cells.length _ rfl (hS10.inn0 [(false, 2), (true, 0)] rfl) hc4)) ?_
   rintro _ w_10 ⟨rfl, hd2⟩
   have hS11 := hS10.out00 hd2
   refine sQ 46 (ym (.tuple #[.agg #[.string (bstr r_7.Syllables), vi r_7.Clifford, vi r_7.Phase], .bool r_8])) <| sQ 49 (ye (.agg #[.string (bstr r_7.Syllables), vi r_7.Clifford, vi r_7.Phase])) <| sQ 50 (ye (.bool r_8)) ?_
   refine sS 9 (yN [.string (bstr ([] : List UInt8)), vi 0, vi 0] 3 hS11 K84) ?_
   rintro _ w_11 ⟨b4, rfl, hS12⟩
   refine s0 (yT 6 3 (aD b4) 23 (.agg #[.string (bstr r_7.Syllables), vi r_7.Clifford, vi r_7.Phase]) [.string (bstr r_7.Syllables), vi r_7.Clifford, vi r_7.Phase] 0 hS12 K30) ?_
   rintro _ w_12 ⟨rfl, hS13⟩
   have hS13 : ST w0 [] _ [⟨aD b, 23, [.string (bstr f_.Syllables), vi f_.Clifford, vi f_.Phase], 3⟩, ⟨aD b1, 23, [.string (bstr g.Syllables), vi g.Clifford, vi g.Phase], 3⟩, ⟨B, 48, (r_1.Cells.flatMap eN0), c * 5⟩, ⟨aD b2, 26, kM_ r_1 B c, 3⟩, ⟨B1, 48, (r_3.Cells.flatMap eN0), c1 * 5⟩, ⟨aD b3, 26, kM_ r_3 B1 c1, 3⟩, ⟨aD b4, 23, [.string (bstr r_7.Syllables), vi r_7.Clifford, vi r_7.Phase], 3⟩] [⟨(aD 0), [vi 1, vi 0, vi 0, vi 0, vi 2]⟩] := hS13
   refine sQ 10 (yg (.bool r_8)) (rn (cq (cr ?_)))
   refine sQ 52 (yb (aD b2) 0 (kM_ r_1 B c) K8 K3 (hS13.c 3)) ?_
   obtain ⟨⟨r_9, r_10⟩, hc5, hF4⟩ := bI hF4
   refine sc 53 rfl rfl (yC [gM_ r_1 B c] k_call_9 (c_impl_LeastTCount r_1 B c r_1.Cells.length _ rfl (hS13.inn0 [(false, 2), (true, 0)] rfl) hc5)) ?_
   rintro _ w_13 ⟨rfl, hd3⟩
   have hS14 := hS13.out00 hd3
   refine sQ 51 (ym (.tuple #[vi r_9, .bool r_10])) <| sQ 54 (ye (vi r_9)) <| sQ 55 (ye (.bool r_10)) <| sQ 11 (yg (vi r_9)) <| sQ 12 (yg (.bool r_10)) (rn (cq (cq (cr ?_))))
   refine sQ 56 (ym (.bool r_8)) <| sQ 57 (Y_not (p := r_8) rfl rfl) <| sQ 58 (ym (.bool (!r_8))) ?_
   refine sgq 59 (B := (!(!r_8))) (v := .agg #[.string (bstr r_7.Syllables), vi r_7.Clifford, vi r_7.Phase]) rfl rfl (uF_ 58) (fun hg8 => (yb (aD b4) 0 [.string (bstr r_7.Syllables), vi r_7.Clifford, vi r_7.Phase] K36 K30 (hS14.c 6))) ?_
   refine sgq 60 (B := (!(!r_8))) (v := .agg #[.string (bstr f_.Syllables), vi f_.Clifford, vi f_.Phase]) rfl rfl (uF_ 58) (fun hg9 => (yb (aD b) 0 [.string (bstr f_.Syllables), vi f_.Clifford, vi f_.Phase] K36 K30 (hS14.c 0))) ?_
   refine sgq 61 (B := (!(!r_8))) (v := .bool (!((r_7.Syllables == f_.Syllables) && ((r_7.Clifford == f_.Clifford) && ((r_7.Phase == f_.Phase) && true))))) rfl rfl (uF_ 58) (fun hg10 => (Y_neA (xs := #[.string (bstr r_7.Syllables), vi r_7.Clifford, vi r_7.Phase]) (ys := #[.string (bstr f_.Syllables), vi f_.Clifford, vi f_.Phase]) (b := ((r_7.Syllables == f_.Syllables) && ((r_7.Clifford == f_.Clifford) && ((r_7.Phase == f_.Phase) && true)))) k_eg_23 rfl (gv_of (v := .agg #[.string (bstr r_7.Syllables), vi r_7.Clifford, vi r_7.Phase]) hg10) (gv_of (v := .agg #[.string (bstr f_.Syllables), vi f_.Clifford, vi f_.Phase]) hg10) (eqr_struct (xs := [.string (bstr r_7.Syllables), vi r_7.Clifford, vi r_7.Phase]) (ys := [.string (bstr f_.Syllables), vi f_.Clifford, vi f_.Phase]) k_st_23 k_ho_23 (pts_sc K41 rfl rfl (eqr_string k_und_9) (pts_sc K0 rfl rfl (eqr_int K23) (pts_sc K0 rfl rfl (eqr_int K23) pts_nil)))))) ?_
   refine sQ 62 (Y_or (b := (!r_8)) (z := (!((r_7.Syllables == f_.Syllables) && ((r_7.Clifford == f_.Clifford) && ((r_7.Phase == f_.Phase) && true))))) rfl rfl rfl rfl) <| sQ 63 (ym (.bool ((!r_8) || (!((r_7.Syllables == f_.Syllables) && ((r_7.Clifford == f_.Clifford) && ((r_7.Phase == f_.Phase) && true))))))) ?_
   refine sgq 64 (B := (!((!r_8) || (!((r_7.Syllables == f_.Syllables) && ((r_7.Clifford == f_.Clifford) && ((r_7.Phase == f_.Phase) && true))))))) (v := .bool r_10) rfl rfl (uF_ 63) (fun hg11 => (ym (.bool r_10))) ?_
   refine sgq 65 (B := (!((!r_8) || (!((r_7.Syllables == f_.Syllables) && ((r_7.Clifford == f_.Clifford) && ((r_7.Phase == f_.Phase) && true))))))) (v := .bool (!r_10)) rfl rfl (uF_ 63) (fun hg12 => (Y_not (p := r_10) rfl (gv_of (v := .bool r_10) hg12))) ?_
   refine sQ 66 (Y_or (b := ((!r_8) || (!((r_7.Syllables == f_.Syllables) && ((r_7.Clifford == f_.Clifford) && ((r_7.Phase == f_.Phase) && true)))))) (z := (!r_10)) rfl rfl rfl rfl) (rn ?_)
   refine cw_cond (b := (((!r_8) || (!((r_7.Syllables == f_.Syllables) && ((r_7.Clifford == f_.Clifford) && ((r_7.Phase == f_.Phase) && true))))) || (!r_10))) rfl (fun hb2 => ?_) (fun hb2 => ?_)
   ·skip
    have hF5 := ct hF4 hb2
    refine cq (cr ?_)
    refine sQ 4 (yg (.bool false)) (rn (ct_ ?_))
    obtain rfl := sI hF5
    exact ret1 Tryz.results3 (v1 := .bool false) (resAt_tmp rfl) ⟨rfl, (hS14.sN [])⟩
   ·skip
    have hF6 := cf' hF4 hb2
    refine cw_skip (cq (cr ?_))
    refine sQ 68 (yb (aD b) 0 [.string (bstr f_.Syllables), vi f_.Clifford, vi f_.Phase] K36 K30 (hS14.c 0)) ?_
    obtain ⟨⟨r_11, r_12⟩, hc6, hF6⟩ := bI hF6
    refine sc 69 rfl rfl (yC [.agg #[.string (bstr f_.Syllables), vi f_.Clifford, vi f_.Phase]] k_call_10 (c_impl_CircuitOfForm f_ _  (hS14.inn0 [(true, 0)] rfl) hc6)) ?_
    rintro _ w_14 ⟨B2, c2, rfl, hd4⟩
    have hS15 := hS14.out0 hd4
    refine sQ 67 (ym (.tuple #[.agg #[vi r_11.Qubits, .slice B2 r_11.Gates.length c2], .bool r_12])) <| sQ 70 (ye (.agg #[vi r_11.Qubits, .slice B2 r_11.Gates.length c2])) <| sQ 71 (ye (.bool r_12)) ?_
    refine sS 13 (yN [vi 0, .slice none 0 0] 2 hS15 K55) ?_
    rintro _ w_15 ⟨b5, rfl, hS16⟩
    refine s0 (yT 8 2 (aD b5) 37 (.agg #[vi r_11.Qubits, .slice B2 r_11.Gates.length c2]) [vi r_11.Qubits, .slice B2 r_11.Gates.length c2] 0 hS16 K32) ?_
    rintro _ w_16 ⟨rfl, hS17⟩
    refine sQ 14 (yg (.bool r_12)) (rn (cq (cr ?_)))
    refine sQ 73 (yb (aD b5) 0 [vi r_11.Qubits, .slice B2 r_11.Gates.length c2] K54 K32 (hS17.c 8)) ?_
    obtain ⟨⟨r_13, r_14⟩, hc7, hF6⟩ := bI hF6
    refine sc 74 rfl rfl (yC [.agg #[vi r_11.Qubits, .slice B2 r_11.Gates.length c2]] k_call_11 (c_impl_CountT r_11 B2 c2 r_11.Gates.length _ rfl (hS17.inn0 [(false, 7)] rfl) hc7)) ?_
    rintro _ w_17 ⟨rfl, hd5⟩
    have hS18 := hS17.out00 hd5
    refine sQ 72 (ym (.tuple #[vi r_13, .bool r_14])) <| sQ 75 (ye (vi r_13)) <| sQ 76 (ye (.bool r_14)) <| sQ 15 (yg (vi r_13)) <| sQ 16 (yg (.bool r_14)) (rn (cq (cq (cr ?_))))
    refine sQ 77 (ym (.bool r_12)) <| sQ 78 (Y_not (p := r_12) rfl rfl) <| sQ 79 (ym (.bool (!r_12))) ?_
    refine sgq 80 (B := (!(!r_12))) (v := .bool r_14) rfl rfl (uF_ 79) (fun hg13 => (ym (.bool r_14))) ?_
    refine sgq 81 (B := (!(!r_12))) (v := .bool (!r_14)) rfl rfl (uF_ 79) (fun hg14 => (Y_not (p := r_14) rfl (gv_of (v := .bool r_14) hg14))) ?_
    refine sQ 82 (Y_or (b := (!r_12)) (z := (!r_14)) rfl rfl rfl rfl) <| sQ 83 (ym (.bool ((!r_12) || (!r_14)))) ?_
    refine sgq 84 (B := (!((!r_12) || (!r_14)))) (v := vi r_13) rfl rfl (uF_ 83) (fun hg15 => (ym (vi r_13))) ?_
    refine sgq 85 (B := (!((!r_12) || (!r_14)))) (v := vi r_9) rfl rfl (uF_ 83) (fun hg16 => (ym (vi r_9))) ?_
    refine sgq 86 (B := (!((!r_12) || (!r_14)))) (v := .bool (r_13 != r_9)) rfl rfl (uF_ 83) (fun hg17 => (Y_ne (k := .i64) (a := r_13) (b := r_9) rfl (gv_of (v := vi r_13) hg17) (gv_of (v := vi r_9) hg17))) ?_
    refine sQ 87 (Y_or (b := ((!r_12) || (!r_14))) (z := (r_13 != r_9)) rfl rfl rfl rfl) (rn ?_)
    refine cw_cond (b := (((!r_12) || (!r_14)) || (r_13 != r_9))) rfl (fun hb3 => ?_) (fun hb3 => ?_)
    ·skip
     have hF7 := ct hF6 hb3
     refine cq (cr ?_)
     refine sQ 4 (yg (.bool false)) (rn (ct_ ?_))
     obtain rfl := sI hF7
     exact ret1 Tryz.results3 (v1 := .bool false) (resAt_tmp rfl) ⟨rfl, (hS18.sN [])⟩
    ·skip
     have hF8 := cf' hF6 hb3
     refine cw_skip (cq (cr ?_))
     refine sQ 89 (yb (aD b1) 0 [.string (bstr g.Syllables), vi g.Clifford, vi g.Phase] K36 K30 (hS18.c 1)) ?_
     obtain ⟨⟨r_15, r_16⟩, hc8, hF8⟩ := bI hF8
     refine sc 90 rfl rfl (yC [.agg #[.string (bstr g.Syllables), vi g.Clifford, vi g.Phase]] K127 (c_impl_MatrixOfForm g _  (hS18.inn0 [(true, 0)] rfl) hc8)) ?_
     rintro _ w_18 ⟨B3, c3, rfl, hd6⟩
     have hS19 := hS18.out0 hd6
     have hS19 : ST w0 [] _ [⟨aD b, 23, [.string (bstr f_.Syllables), vi f_.Clifford, vi f_.Phase], 3⟩, ⟨aD b1, 23, [.string (bstr g.Syllables), vi g.Clifford, vi g.Phase], 3⟩, ⟨B, 48, (r_1.Cells.flatMap eN0), c * 5⟩, ⟨aD b2, 26, kM_ r_1 B c, 3⟩, ⟨B1, 48, (r_3.Cells.flatMap eN0), c1 * 5⟩, ⟨aD b3, 26, kM_ r_3 B1 c1, 3⟩, ⟨aD b4, 23, [.string (bstr r_7.Syllables), vi r_7.Clifford, vi r_7.Phase], 3⟩, ⟨B2, 64, (r_11.Gates.flatMap eN4), c2 * 3⟩, ⟨aD b5, 37, [vi r_11.Qubits, .slice B2 r_11.Gates.length c2], 2⟩, ⟨B3, 48, (r_15.Cells.flatMap eN0), c3 * 5⟩] [⟨(aD 0), [vi 1, vi 0, vi 0, vi 0, vi 2]⟩] := hS19
     refine sQ 88 (ym (.tuple #[gM_ r_15 B3 c3, .bool r_16])) <| sQ 91 (ye (gM_ r_15 B3 c3)) <| sQ 92 (ye (.bool r_16)) ?_
     refine sS 17 (yN kN_ 3 hS19 K12) ?_
     rintro _ w_19 ⟨b6, rfl, hS20⟩
     refine s0 (yT 10 3 (aD b6) 26 (gM_ r_15 B3 c3) (kM_ r_15 B3 c3) 0 hS20 K3) ?_
     rintro _ w_20 ⟨rfl, hS21⟩
     refine sQ 18 (yg (.bool r_16)) (rn (cq ?_))
     obtain ⟨r_17, hc9, hF8⟩ := bI hF8
     refine ra_start (hS21.se [0, 1, 2, 3, 4, 5, 6, 7, 8, 9, 10]).fn (by kernel_rfl) ?_
     have hS23 := hS21.drew
     refine rq 0 93 (v := .bool r_16) rfl (hS23.se [0, 1, 2, 3, 4, 5, 6, 7, 8, 9, 10]) (fun w' hw' => (ym (.bool r_16))) ?_
     refine rq 1 94 (v := .bool (!r_16)) rfl (hS23.se [0, 1, 2, 3, 4, 5, 6, 7, 8, 9, 10]) (fun w' hw' => (Y_not (p := r_16) rfl rfl)) ?_
     refine rq 2 95 (v := .bool (!r_16)) rfl (hS23.se [0, 1, 2, 3, 4, 5, 6, 7, 8, 9, 10]) (fun w' hw' => (ym (.bool (!r_16)))) ?_
     refine ra_gq 3 96 (B := (!(!r_16))) (v := gM_ r_1 B c) rfl rfl rfl (uF_ 95) (by kernel_rfl) (by kernel_rfl) (by kernel_rfl) (hS23.se [0, 1, 2, 3, 4, 5, 6, 7, 8, 9, 10]) (fun hg18 w' hw' => (yb (aD b2) 0 (kM_ r_1 B c) K8 K3 (ST.cf hw' (i := 3) rfl))) ?_
     refine ra_gq 4 97 (B := (!(!r_16))) (v := gM_ r_15 B3 c3) rfl rfl rfl (uF_ 95) (by kernel_rfl) (by kernel_rfl) (by kernel_rfl) (hS23.se [0, 1, 2, 3, 4, 5, 6, 7, 8, 9, 10]) (fun hg19 w' hw' => (yb (aD b6) 0 (kM_ r_15 B3 c3) K8 K3 (ST.cf hw' (i := 10) rfl))) ?_
     refine ra_gq 6 99 (B := (!(!r_16))) (v := .agg #[.string (bstr f_.Syllables), vi f_.Clifford, vi f_.Phase]) rfl rfl rfl (uF_ 95) (by kernel_rfl) (by kernel_rfl) (by kernel_rfl) (hS23.se [0, 1, 2, 3, 4, 5, 6, 7, 8, 9, 10]) (fun hg21 w' hw' => (yb (aD b) 0 [.string (bstr f_.Syllables), vi f_.Clifford, vi f_.Phase] K36 K30 (ST.cf hw' (i := 0) rfl))) ?_
     refine ra_gq 7 100 (B := (!(!r_16))) (v := .agg #[.string (bstr g.Syllables), vi g.Clifford, vi g.Phase]) rfl rfl rfl (uF_ 95) (by kernel_rfl) (by kernel_rfl) (by kernel_rfl) (hS23.se [0, 1, 2, 3, 4, 5, 6, 7, 8, 9, 10]) (fun hg22 w' hw' => (yb (aD b1) 0 [.string (bstr g.Syllables), vi g.Clifford, vi g.Phase] K36 K30 (ST.cf hw' (i := 1) rfl))) ?_
     refine ra_gq 8 101 (B := (!(!r_16))) (v := .bool ((f_.Syllables == g.Syllables) && ((f_.Clifford == g.Clifford) && ((f_.Phase == g.Phase) && true)))) rfl rfl rfl (uF_ 95) (by kernel_rfl) (by kernel_rfl) (by kernel_rfl) (hS23.se [0, 1, 2, 3, 4, 5, 6, 7, 8, 9, 10]) (fun hg23 w' hw' => (Y_eqA (xs := #[.string (bstr f_.Syllables), vi f_.Clifford, vi f_.Phase]) (ys := #[.string (bstr g.Syllables), vi g.Clifford, vi g.Phase]) (b := ((f_.Syllables == g.Syllables) && ((f_.Clifford == g.Clifford) && ((f_.Phase == g.Phase) && true)))) k_eg_23 rfl (gv_of (v := .agg #[.string (bstr f_.Syllables), vi f_.Clifford, vi f_.Phase]) hg23) (gv_of (v := .agg #[.string (bstr g.Syllables), vi g.Clifford, vi g.Phase]) hg23) (eqr_struct (xs := [.string (bstr f_.Syllables), vi f_.Clifford, vi f_.Phase]) (ys := [.string (bstr g.Syllables), vi g.Clifford, vi g.Phase]) k_st_23 k_ho_23 (pts_sc K41 rfl rfl (eqr_string k_und_9) (pts_sc K0 rfl rfl (eqr_int K23) (pts_sc K0 rfl rfl (eqr_int K23) pts_nil)))))) ?_
     refine rA [5] ?_
     refine ra_gc 98 (i := 5) (B := (!(!r_16))) (v := .bool r_17) (F := hS23.fn) rfl rfl rfl (uF_ 95) hS23 (fun hg20 => (yC [gM_ r_1 B c, gM_ r_15 B3 c3] k_call_7 (CV.mono (c_spec_EqualMatrices r_1 r_15 B c r_1.Cells.length B3 c3 r_15.Cells.length _ rfl rfl (hS23.inn0 [(false, 2), (false, 9)] rfl) (gb_inv hc9 hg20)) (by rintro _ _ ⟨rfl, h⟩; exact ⟨rfl, hS23.out00 h⟩)) rfl (mc (gv_of (v := gM_ r_1 B c) hg20) (mc (gv_of (v := gM_ r_15 B3 c3) hg20) mn)))) ?_ ?_
     ·rintro w_21 hS24
      refine ⟨(hS24.se [0, 1, 2, 3, 4, 5, 6, 7, 8, 9, 10]), ?_⟩
      refine ra_gq 9 102 (B := (!(!r_16))) (v := .bool (r_17 == ((f_.Syllables == g.Syllables) && ((f_.Clifford == g.Clifford) && ((f_.Phase == g.Phase) && true))))) rfl rfl rfl (uF_ 95) (by kernel_rfl) (by kernel_rfl) (by kernel_rfl) (hS24.se [0, 1, 2, 3, 4, 5, 6, 7, 8, 9, 10]) (fun hg24 w' hw' => (Y_beq (p := r_17) (q := ((f_.Syllables == g.Syllables) && ((f_.Clifford == g.Clifford) && ((f_.Phase == g.Phase) && true)))) K128 rfl (gv_of (v := .bool r_17) hg24) (gv_of (v := .bool ((f_.Syllables == g.Syllables) && ((f_.Clifford == g.Clifford) && ((f_.Phase == g.Phase) && true)))) hg24))) ?_
      refine rq 10 103 (v := .bool ((!r_16) || (r_17 == ((f_.Syllables == g.Syllables) && ((f_.Clifford == g.Clifford) && ((f_.Phase == g.Phase) && true)))))) rfl (hS24.se [0, 1, 2, 3, 4, 5, 6, 7, 8, 9, 10]) (fun w' hw' => (Y_or (b := (!r_16)) (z := (r_17 == ((f_.Syllables == g.Syllables) && ((f_.Clifford == g.Clifford) && ((f_.Phase == g.Phase) && true))))) rfl rfl rfl rfl)) ?_
      refine rq 11 4 (v := .bool ((!r_16) || (r_17 == ((f_.Syllables == g.Syllables) && ((f_.Clifford == g.Clifford) && ((f_.Phase == g.Phase) && true)))))) rfl (hS24.se [0, 1, 2, 3, 4, 5, 6, 7, 8, 9, 10]) (fun w' hw' => (yg (.bool ((!r_16) || (r_17 == ((f_.Syllables == g.Syllables) && ((f_.Clifford == g.Clifford) && ((f_.Phase == g.Phase) && true)))))))) ?_
      refine ra_done (by kernel_rfl) ?_
      refine ct_ ?_
      obtain rfl := sI hF8
      exact ret1 Tryz.results3 (v1 := .bool ((!r_16) || (r_17 == ((f_.Syllables == g.Syllables) && ((f_.Clifford == g.Clifford) && ((f_.Phase == g.Phase) && true)))))) (resAt_tmp rfl) ⟨rfl, (hS24.sN [])⟩
     exact aN
end Go.VK
