/- Walks: each Go function returns what its Lean function says. By program. -/
import Derived.Test.YtkmncijipedjaaaGreatDoorTableSizeFa
import Derived.Test.YtkmncijipedjaaaGreatDoorTableSizeShelf
import Derived.Test.YtkmncijipedjaaaGreatDoorLibU
import Derived.Test.YtkmncijipedjaaaGreatDoorTableSizeW1
set_option linter.unusedVariables false
set_option maxRecDepth 100000
set_option maxHeartbeats 4000000
namespace Go.VK
open Go.RowKit
open Go.Proofs
open Go.IntKind
attribute [local irreducible] CW RW RA CV Y Yw Yc Ys RetOf
attribute [local irreducible] F_spec_l1In F_spec_l3Unit F_spec_l28Gates F_spec_l28Canonical F_spec_l2C_times F_spec_l6Gate F_spec_EqualMatrices F_spec_l28Size F_spec_TableSize F_impl_within F_impl_isDim F_impl_matrixOf F_impl_whole F_impl_IdentityMatrix_1 F_impl_IdentityMatrix F_impl_isCoef F_impl_IsValidRing F_impl_MulOmega F_impl_phase F_slices_IndexFunc_impl_Dyadic_impl_Dyadic F_slices_ContainsFunc_impl_Dyadic_impl_Dyadic F_impl_isEven F_impl_IsValidDyadic F_impl_IsValidMatrix_1 F_impl_IsValidMatrix F_impl_CanonicalPhase_1 F_cmp_isNaN_int F_cmp_Compare_int F_slices_Compare_int_int F_impl_compareRings F_impl_ringIf F_impl_MulRing F_impl_DivRootTwo F_impl_DyadicOf F_impl_MulDyadic F_impl_Matrix_at F_impl_ScaleMatrix_1 F_impl_ScaleMatrix F_impl_CanonicalPhase F_strings_Join F_strconv_Itoa F_impl_joinInts F_impl_FormatRing F_impl_FormatDyadic F_impl_OperatorKey F_impl_tableGates F_impl_isTwo F_impl_IsValidGate F_impl_bitOf F_impl_flipped F_impl_comesFrom F_impl_small
theorem c_spec_l28Size (n : Int) (length : Int)  (w0 : World)  (hS : ST w0 [] w0 [] []) {r_ : Int} (hF : F_spec_l28Size n length = some r_) :
  CV Tryz.prog 19 #[vi n, vi length] w0 (fun v w' => v = vi r_ ∧ ST w0 [] w' [] []) := by
 unfold F_spec_l28Size at hF
 refine cv_of_cw 89 Tryz.func19 rfl Tryz.ntmps19 rfl ?_
 refine cq (cr ?_)
 refine sQ 4 (yg (vi 0)) (rn (cq (cr ?_)))
 refine sQ 5 (yg (.slice none 0 0)) (rn (cq (cr ?_)))
 refine sQ 20 (ym (vi n)) <| sQ 21 (yX 2 n) ?_
 obtain ⟨r_1, hc, hF⟩ := bI hF
 refine sc 22 rfl rfl (yC [vi (i64.wrap (2 * n))] k_call_28 (c_spec_l3Unit (i64.wrap (2 * n)) _  (hS.inn0 [] rfl) hc)) ?_
 rintro _ w_ ⟨B, c, rfl, hd⟩
 have hS1 := hS.out0 hd
 have ho : Org w0 [] [] [⟨B, (r_1.Cells.flatMap eN1)⟩] := ST.orgOwn hS1 (i := 0) rfl
 have hcap : r_1.Cells.length ≤ c := (hS1.lencap (i := 0) rfl (fm_lenn (l := r_1.Cells) enc_Dyadic_len rfl) rfl rfl)
 have hS2 : ST w0 [] _ [] [⟨B, (r_1.Cells.flatMap eN1)⟩] := hS1.freeze (i := 0) rfl
 refine sS 23 (Ys_bslice (s := 3) (len := 1) (vs := [(0, gM_ r_1 B c)]) (cs := kM_ r_1 B c) (zs := kN_) (m := 3) hS2 K37 K4 K75 rfl (mpc rfl mpn) rfl rfl rfl (by kernel_rfl) (by kernel_rfl) rfl) ?_
 rintro _ w_1 ⟨b, rfl, hS3⟩
 have hm : ∀ r ∈ (([((B, c), r_1)] : List (Hd × TMatrix)).flatMap eN2), r ∈ ([⟨B, (r_1.Cells.flatMap eN1)⟩] : List Ro) := (fsub_cons (sk 0 (fun _ h => by cases h)) fsub_nil)
 have ho1 : Org w0 [] [] (([((B, c), r_1)] : List (Hd × TMatrix)).flatMap eN2) := (forg_cons (org_cons ho org_nil) forg_nil)
 have hS4 : ST w0 [] _ [⟨aD b, 50, (([((B, c), r_1)] : List (Hd × TMatrix)).flatMap eN4), 1 * 3⟩] (⟨B, (r_1.Cells.flatMap eN1)⟩ :: ((([((B, c), r_1)] : List (Hd × TMatrix)).flatMap eN2) ++ [])) := ST.subR hS3 (sk 0 (suba hm (fun _ h => by cases h)))
 refine sQ 6 (yg (.slice (aD b) 1 1)) (rn (cq (cr ?_)))
 refine sQ 24 (ym (.slice none 0 0)) <| sQ 25 (ym (.slice (aD b) 1 1)) ?_
 obtain ⟨x, hx, hF⟩ := bI hF
 obtain ⟨⟨B1, c1⟩, hp⟩ := getI_snd (show List.map Prod.snd ([((B, c), r_1)] : List (Hd × TMatrix)) = ([r_1] : List TMatrix) from rfl) hx
 refine sQ 26 (Y_index (B := aD b) (m := 1) (c := 1) (k := .i64) (i := 0) K37 K4 rfl rfl rfl (gi_isSome encD_Matrix_len rfl (hS4.c 0) hp) (getI_nn hp) (getI_ltI hp rfl)) ?_
 have hm1 : (⟨B1, (x.Cells.flatMap eN1)⟩ : Ro) ∈ ((⟨B, (r_1.Cells.flatMap eN1)⟩ :: ((([((B, c), r_1)] : List (Hd × TMatrix)).flatMap eN2) ++ [])) : List Ro) := app_mem (fun r_ (h : r_ ∈ ((([((B, c), r_1)] : List (Hd × TMatrix)).flatMap eN2) : List Ro)) => mOd (i := 1) (show r_ ∈ ((((([((B, c), r_1)] : List (Hd × TMatrix)).flatMap eN2) ++ [])) : List Ro) from mAl _ h)) (row_mem (rw_ := eN2) hp _ (mt 0))
 have hS5 : ST w0 [] _ [⟨aD b, 50, (([((B, c), r_1)] : List (Hd × TMatrix)).flatMap eN4), 1 * 3⟩] (⟨B1, (x.Cells.flatMap eN1)⟩ :: ⟨B, (r_1.Cells.flatMap eN1)⟩ :: ((([((B, c), r_1)] : List (Hd × TMatrix)).flatMap eN2) ++ [])) := ST.subR hS4 (subc hm1 (fun _ h => h))
 refine sQ 27 (ya (aD b) ((0 : Int).toNat * 3) (([((B, c), r_1)] : List (Hd × TMatrix)).flatMap eN4) (kM_ x B1 c1) K9 K4 (hS5.c 0) rfl rfl (encD_Matrix_len ((B1, c1), x)) (gi_seg encD_Matrix_len hp)) ?_
 refine sS 28 (Ys_bslice (s := 3) (len := 1) (vs := [(0, gM_ x B1 c1)]) (cs := kM_ x B1 c1) (zs := kN_) (m := 3) hS5 K37 K4 K75 rfl (mpc rfl mpn) rfl rfl rfl (by kernel_rfl) (by kernel_rfl) rfl) ?_
 rintro _ w_2 ⟨b1, rfl, hS6⟩
 have hm2 : ∀ r ∈ (([((B1, c1), x)] : List (Hd × TMatrix)).flatMap eN2), r ∈ ((⟨B1, (x.Cells.flatMap eN1)⟩ :: ⟨B, (r_1.Cells.flatMap eN1)⟩ :: ((([((B, c), r_1)] : List (Hd × TMatrix)).flatMap eN2) ++ [])) : List Ro) := (fsub_cons (sk 0 (fun _ h => by cases h)) fsub_nil)
 have ho2 : Org w0 [] [] (([((B1, c1), x)] : List (Hd × TMatrix)).flatMap eN2) := (forg_cons (org_cons (org_sub ho1 (subc (row_mem (rw_ := eN2) hp _ (mt 0)) (fun _ h => by cases h))) org_nil) forg_nil)
 have hS7 : ST w0 [] _ [⟨aD b, 50, (([((B, c), r_1)] : List (Hd × TMatrix)).flatMap eN4), 1 * 3⟩, ⟨aD b1, 50, (([((B1, c1), x)] : List (Hd × TMatrix)).flatMap eN4), 1 * 3⟩] (⟨B1, (x.Cells.flatMap eN1)⟩ :: ⟨B, (r_1.Cells.flatMap eN1)⟩ :: ((([((B1, c1), x)] : List (Hd × TMatrix)).flatMap eN2) ++ ((([((B, c), r_1)] : List (Hd × TMatrix)).flatMap eN2) ++ []))) := ST.subR hS6 (sk 0 (sk 1 (suba hm2 (suba (fun r_ (h : r_ ∈ ((([((B, c), r_1)] : List (Hd × TMatrix)).flatMap eN2) : List Ro)) => mOd (i := 2) (show r_ ∈ ((((([((B, c), r_1)] : List (Hd × TMatrix)).flatMap eN2) ++ [])) : List Ro) from mAl _ h)) (fun _ h => by cases h)))))
 have hS8 := hS7.addNil 50
 refine sS 29 (Ys_append (s := 3) (by' := 40) (i := 2) (nn := 0) (c := 0) (k := 1) (len := ([x] : List TMatrix).length) (B := none) (xs := (([((B1, c1), x)] : List (Hd × TMatrix)).flatMap eN4)) (cs' := (([((B1, c1), x)] : List (Hd × TMatrix)).flatMap eN4)) hS8 K37 K4 K92 K11 rfl (by decide) rfl rfl rfl rfl rfl rfl (hS8.c 1) (fm_lenn (l := ([((B1, c1), x)] : List (Hd × TMatrix))) encD_Matrix_len rfl) (fm_one' (enc := eN4) encD_Matrix_one ([((B1, c1), x)] : List (Hd × TMatrix))) (by have := (show 0 + 1 ≤ 1099511627776 by decide); omega) (by have := (show 0 + 1 ≤ 1099511627776 by decide); simp only [maxLen]; omega) rfl (dl_sum0 rfl (show List.map Prod.snd ([((B1, c1), x)] : List (Hd × TMatrix)) = ([x] : List TMatrix) from rfl))) ?_
 rintro _ w_3 ⟨B2, c2, rfl, hS9⟩
 have ho3 : Org w0 [] [] (([((B1, c1), x)] : List (Hd × TMatrix)).flatMap eN2) := ho2
 have hS10 : ST w0 [] _ [⟨aD b, 50, (([((B, c), r_1)] : List (Hd × TMatrix)).flatMap eN4), 1 * 3⟩, ⟨aD b1, 50, (([((B1, c1), x)] : List (Hd × TMatrix)).flatMap eN4), 1 * 3⟩, ⟨B2, 50, (([((B1, c1), x)] : List (Hd × TMatrix)).flatMap eN4), c2 * 3⟩] (⟨B1, (x.Cells.flatMap eN1)⟩ :: ⟨B, (r_1.Cells.flatMap eN1)⟩ :: ((([((B1, c1), x)] : List (Hd × TMatrix)).flatMap eN2) ++ ((([((B1, c1), x)] : List (Hd × TMatrix)).flatMap eN2) ++ ((([((B, c), r_1)] : List (Hd × TMatrix)).flatMap eN2) ++ [])))) := ST.subR hS9 (sk 0 (sk 1 (suba (fun r_ (h : r_ ∈ ((([((B1, c1), x)] : List (Hd × TMatrix)).flatMap eN2) : List Ro)) => mOd (i := 2) (show r_ ∈ ((((([((B1, c1), x)] : List (Hd × TMatrix)).flatMap eN2) ++ ((([((B, c), r_1)] : List (Hd × TMatrix)).flatMap eN2) ++ []))) : List Ro) from mAl _ h)) (suba (fun r_ (h : r_ ∈ ((([((B1, c1), x)] : List (Hd × TMatrix)).flatMap eN2) : List Ro)) => mOd (i := 2) (show r_ ∈ ((((([((B1, c1), x)] : List (Hd × TMatrix)).flatMap eN2) ++ ((([((B, c), r_1)] : List (Hd × TMatrix)).flatMap eN2) ++ []))) : List Ro) from mAl _ h)) (suba (fun r_ (h : r_ ∈ ((([((B, c), r_1)] : List (Hd × TMatrix)).flatMap eN2) : List Ro)) => mOd (i := 2) (show r_ ∈ ((((([((B1, c1), x)] : List (Hd × TMatrix)).flatMap eN2) ++ ((([((B, c), r_1)] : List (Hd × TMatrix)).flatMap eN2) ++ []))) : List Ro) from mAr _ (mAl _ h))) (fun _ h => by cases h))))))
 refine sQ 5 (yg (.slice B2 (([x] : List TMatrix).length) c2)) (rn (cq (cq (cr ?_))))
 refine sQ 7 (yg (vi 0)) (rn ?_)
 obtain ⟨hN, hF⟩ := chk_inv hF
 obtain ⟨z, hz, hF1⟩ := bI hF
 have hS12 : ST w0 [] _ [⟨aD b, 50, (([((B, c), r_1)] : List (Hd × TMatrix)).flatMap eN4), 1 * 3⟩, ⟨aD b1, 50, (([((B1, c1), x)] : List (Hd × TMatrix)).flatMap eN4), 1 * 3⟩, ⟨B2, 50, (([((B1, c1), x)] : List (Hd × TMatrix)).flatMap eN4), c2 * 3⟩] (⟨B1, (x.Cells.flatMap eN1)⟩ :: ⟨B, (r_1.Cells.flatMap eN1)⟩ :: ((([((B1, c1), x)] : List (Hd × TMatrix)).flatMap eN2) ++ ((([((B, c), r_1)] : List (Hd × TMatrix)).flatMap eN2) ++ []))) := ST.subR hS10 (sk 0 (sk 1 (suba (fun r_ (h : r_ ∈ ((([((B1, c1), x)] : List (Hd × TMatrix)).flatMap eN2) : List Ro)) => mOd (i := 2) (show r_ ∈ ((((([((B1, c1), x)] : List (Hd × TMatrix)).flatMap eN2) ++ ((([((B1, c1), x)] : List (Hd × TMatrix)).flatMap eN2) ++ ((([((B, c), r_1)] : List (Hd × TMatrix)).flatMap eN2) ++ [])))) : List Ro) from mAl _ h)) (suba (fun r_ (h : r_ ∈ ((([((B, c), r_1)] : List (Hd × TMatrix)).flatMap eN2) : List Ro)) => mOd (i := 2) (show r_ ∈ ((((([((B1, c1), x)] : List (Hd × TMatrix)).flatMap eN2) ++ ((([((B1, c1), x)] : List (Hd × TMatrix)).flatMap eN2) ++ ((([((B, c), r_1)] : List (Hd × TMatrix)).flatMap eN2) ++ [])))) : List Ro) from mAr _ (mAr _ (mAl _ h)))) (fun _ h => by cases h)))))
 refine cw_block ?_
 refine cw_loop (fun k f w => ∃ (k_ : Nat) (seen : List TMatrix) (level : List TMatrix) (B3 : Option Addr) (c3 : Nat) (D : List (Hd × TMatrix)) (B4 : Option Addr) (c4 : Nat) (D1 : List (Hd × TMatrix)), FF f [(0, vi n), (1, vi length), (5, .slice B3 seen.length c3), (6, .slice B4 level.length c4), (7, vi (k_ : Int))] ∧ D.map Prod.snd = seen ∧ Org w0 [] [] (D.flatMap eN2) ∧ D1.map Prod.snd = level ∧ Org w0 [] [] (D1.flatMap eN2) ∧ ST w0 [] w [⟨B3, 50, (D.flatMap eN4), c3 * 3⟩, ⟨B4, 50, (D1.flatMap eN4), c4 * 3⟩] (⟨B1, (x.Cells.flatMap eN1)⟩ :: ⟨B, (r_1.Cells.flatMap eN1)⟩ :: ((D.flatMap eN2) ++ ((D1.flatMap eN2) ++ []))) ∧ k_ + k = length.toNat ∧ forN (F_spec_l28Size_l1 n) k k_ (seen, level) = some z) length.toNat ⟨0, ([x] : List TMatrix), ([r_1] : List TMatrix), B2, c2, ([((B1, c1), x)] : List (Hd × TMatrix)), aD b, 1, ([((B, c), r_1)] : List (Hd × TMatrix)), (fc rfl (fc rfl (fc rfl (fc rfl (fc rfl fn_))))), (show List.map Prod.snd ([((B1, c1), x)] : List (Hd × TMatrix)) = ([x] : List TMatrix) from rfl), ho3, (show List.map Prod.snd ([((B, c), r_1)] : List (Hd × TMatrix)) = ([r_1] : List TMatrix) from rfl), ho1, (hS12.sel [2, 0] rfl rfl), Nat.zero_add _, hz⟩ ?_
 rintro K8 f w ⟨k_, seen, level, B3, c3, D, B4, c4, D1, hf, hD, ho4, hD1, ho5, hS11, hik, hL⟩
 refine cq (cq (cr ?_))
 refine sQ 30 (ym (vi (k_ : Int)) rfl (hf.g 7 4)) <| sQ 31 (ym (vi length) rfl (hf.g 1 1)) <| sQ 32 (yL (k_ : Int) length) (rn ?_)
 refine cw_cond (b := (decide ((k_ : Int) < length))) rfl (fun hlt => ?_) (fun hlt => ?_)
 ·skip
  have hlt1 : k_ < length.toNat := by have h := of_decide_eq_true hlt; omega
  obtain ⟨K21, rfl⟩ : ∃ k2, K8 = k2 + 1 := ⟨K8 - 1, by omega⟩
  obtain ⟨y, hb, hL1⟩ := forN_go hL
  unfold F_spec_l28Size_l1 at hb
  refine cw_skip (cq (cw_block (cq (cr ?_))))
  refine sQ 8 (yg (.slice none 0 0)) (rn (cq (cq (cr ?_))))
  refine sQ 35 (ym (.slice B4 level.length c4) rfl (hf.g 6 3)) <| sQ 36 (Y_len (B := B4) (m := level.length) (c := c4) K37 rfl rfl) <| sQ 37 (ym (vi 0)) (rn ?_)
  obtain ⟨hN1, hb⟩ := chk_inv hb
  obtain ⟨z1, hz1, hF2⟩ := bI hb
  have hS14 := hS11.addNil 50
  have hS15 : ST w0 [] _ [⟨B3, 50, (D.flatMap eN4), c3 * 3⟩, ⟨B4, 50, (D1.flatMap eN4), c4 * 3⟩, ⟨none, 50, (([] : List (Hd × TMatrix)).flatMap eN4), 0 * 3⟩] (⟨B1, (x.Cells.flatMap eN1)⟩ :: ⟨B, (r_1.Cells.flatMap eN1)⟩ :: ((D.flatMap eN2) ++ ((([] : List (Hd × TMatrix)).flatMap eN2) ++ ((D1.flatMap eN2) ++ [])))) := ST.subR hS14 (sk 0 (sk 1 (suba (fun r_ (h : r_ ∈ ((D.flatMap eN2) : List Ro)) => mOd (i := 2) (show r_ ∈ ((((D.flatMap eN2) ++ ((D1.flatMap eN2) ++ []))) : List Ro) from mAl _ h)) (suba fsub_nil (suba (fun r_ (h : r_ ∈ ((D1.flatMap eN2) : List Ro)) => mOd (i := 2) (show r_ ∈ ((((D.flatMap eN2) ++ ((D1.flatMap eN2) ++ []))) : List Ro) from mAr _ (mAl _ h))) (fun _ h => by cases h))))))
  refine cw_block ?_
  refine cw_loop (fun k f w => ∃ (i1 : Nat) (seen1 : List TMatrix) (next_ : List TMatrix) (B5 : Option Addr) (c5 : Nat) (D2 : List (Hd × TMatrix)) (B6 : Option Addr) (c6 : Nat) (D3 : List (Hd × TMatrix)) (D4 : List (Hd × TMatrix)), FF f [(0, vi n), (1, vi length), (5, .slice B5 seen1.length c5), (7, vi (k_ : Int)), (8, .slice B6 next_.length c6), (35, .slice B4 level.length c4), (36, vi (level.length : Int)), (37, vi (i1 : Int))] ∧ D2.map Prod.snd = seen1 ∧ Org w0 [] [] (D2.flatMap eN2) ∧ D3.map Prod.snd = next_ ∧ Org w0 [] [] (D3.flatMap eN2) ∧ D4.map Prod.snd = level ∧ Org w0 [] [] (D4.flatMap eN2) ∧ ST w0 [] w [⟨B5, 50, (D2.flatMap eN4), c5 * 3⟩, ⟨B6, 50, (D3.flatMap eN4), c6 * 3⟩, ⟨B4, 50, (D4.flatMap eN4), c4 * 3⟩] (⟨B1, (x.Cells.flatMap eN1)⟩ :: ⟨B, (r_1.Cells.flatMap eN1)⟩ :: ((D2.flatMap eN2) ++ ((D3.flatMap eN2) ++ ((D4.flatMap eN2) ++ [])))) ∧ i1 + k = level.length ∧ forN (F_spec_l28Size_l2 level n) k i1 (seen1, next_) = some z1) level.length ⟨0, seen, ([] : List TMatrix), B3, c3, D, none, 0, ([] : List (Hd × TMatrix)), D1, (fc (hf.g 0 0) (fc (hf.g 1 1) (fc (hf.g 5 2) (fc (hf.g 7 4) (fc rfl (fc rfl (fc rfl (fc rfl fn_)))))))), hD, ho4, rfl, forg_nil, hD1, ho5, (hS15.sel [0, 2, 1] rfl rfl), Nat.zero_add _, hz1⟩ ?_
  rintro K30 f w ⟨i1, seen1, next_, B5, c5, D2, B6, c6, D3, D4, hf1, hD2, ho6, hD3, ho7, hD4, ho8, hS13, hik1, hL2⟩
  refine cq (cr ?_)
  refine sQ 38 (yL (i1 : Int) (level.length : Int) rfl (hf1.g 37 7) (hf1.g 36 6)) (rn (cq ?_))
  refine cw_cond (b := (decide ((i1 : Int) < (level.length : Int)))) rfl (fun hlt2 => ?_) (fun hlt2 => ?_)
  ·skip
   have hlt3 : i1 < level.length := by have h := of_decide_eq_true hlt2; omega
   obtain ⟨K18, rfl⟩ : ∃ k2, K30 = k2 + 1 := ⟨K30 - 1, by omega⟩
   obtain ⟨y1, hb1, hL3⟩ := forN_go hL2
   unfold F_spec_l28Size_l2 at hb1
   refine cw_skip (cq (cw_block (cq (cr ?_))))
   obtain ⟨x1, hx1, hb1⟩ := bI hb1
   obtain ⟨⟨B7, c7⟩, hp1⟩ := getI_snd hD4 hx1
   refine sQ 39 (Y_index (B := B4) (m := level.length) (c := c4) (k := .i64) (i := (i1 : Int)) K37 K4 rfl (hf1.g 35 5) (hf1.g 37 7) (gi_isSome encD_Matrix_len rfl (hS13.c 2) hp1) (getI_nn hp1) (getI_ltI hp1 (dl_len hD4))) ?_
   have hm3 : (⟨B7, (x1.Cells.flatMap eN1)⟩ : Ro) ∈ ((⟨B1, (x.Cells.flatMap eN1)⟩ :: ⟨B, (r_1.Cells.flatMap eN1)⟩ :: ((D2.flatMap eN2) ++ ((D3.flatMap eN2) ++ ((D4.flatMap eN2) ++ [])))) : List Ro) := app_mem (fun r_ (h : r_ ∈ ((D4.flatMap eN2) : List Ro)) => mOd (i := 2) (show r_ ∈ ((((D2.flatMap eN2) ++ ((D3.flatMap eN2) ++ ((D4.flatMap eN2) ++ [])))) : List Ro) from mAr _ (mAr _ (mAl _ h)))) (row_mem (rw_ := eN2) hp1 _ (mt 0))
   have hS16 : ST w0 [] _ [⟨B5, 50, (D2.flatMap eN4), c5 * 3⟩, ⟨B6, 50, (D3.flatMap eN4), c6 * 3⟩, ⟨B4, 50, (D4.flatMap eN4), c4 * 3⟩] (⟨B7, (x1.Cells.flatMap eN1)⟩ :: ⟨B1, (x.Cells.flatMap eN1)⟩ :: ⟨B, (r_1.Cells.flatMap eN1)⟩ :: ((D2.flatMap eN2) ++ ((D3.flatMap eN2) ++ ((D4.flatMap eN2) ++ [])))) := ST.subR hS13 (subc hm3 (fun _ h => h))
   refine sQ 40 (ya B4 ((i1 : Int).toNat * 3) (D4.flatMap eN4) (kM_ x1 B7 c7) K9 K4 (hS16.c 2) rfl rfl (encD_Matrix_len ((B7, c7), x1)) (gi_seg encD_Matrix_len hp1)) ?_
   refine sS 10 (yN kN_ 3 hS16 K11) ?_
   rintro _ w_4 ⟨b2, rfl, hS17⟩
   refine s0 (yT 3 3 (aD b2) 50 (gM_ x1 B7 c7) (kM_ x1 B7 c7) 0 hS17 K4) ?_
   rintro _ w_5 ⟨rfl, hS18⟩
   refine rn (cq (cr ?_))
   refine sQ 41 (ym (vi n) rfl (hf1.g 0 0)) ?_
   obtain ⟨r_2, hc1, hb1⟩ := bI hb1
   refine sc 42 rfl rfl (yC [vi n] k_call_29 (c_spec_l28Gates n _  (hS18.inn0 [] rfl) hc1)) ?_
   rintro _ w_6 ⟨B8, c8, rfl, hd1⟩
   have hS19 := hS18.out0 hd1
   refine sQ 43 (Y_len (B := B8) (m := r_2.length) (c := c8) K23 rfl rfl) <| sQ 44 (ym (vi 0)) (rn ?_)
   obtain ⟨hN2, hb1⟩ := chk_inv hb1
   obtain ⟨z2, hz2, hF3⟩ := bI hb1
   refine cw_block ?_
   refine cw_loop (fun k f w => ∃ (i2 : Nat) (seen2 : List TMatrix) (next_1 : List TMatrix) (B9 : Option Addr) (c9 : Nat) (D5 : List (Hd × TMatrix)) (B10 : Option Addr) (c10 : Nat) (D6 : List (Hd × TMatrix)) (D7 : List (Hd × TMatrix)), FF f [(0, vi n), (1, vi length), (5, .slice B9 seen2.length c9), (7, vi (k_ : Int)), (8, .slice B10 next_1.length c10), (10, pt (aD b2) 0), (35, .slice B4 level.length c4), (36, vi (level.length : Int)), (37, vi (i1 : Int)), (42, .slice B8 r_2.length c8), (43, vi (r_2.length : Int)), (44, vi (i2 : Int))] ∧ D5.map Prod.snd = seen2 ∧ Org w0 [] [] (D5.flatMap eN2) ∧ D6.map Prod.snd = next_1 ∧ Org w0 [] [] (D6.flatMap eN2) ∧ D7.map Prod.snd = level ∧ Org w0 [] [] (D7.flatMap eN2) ∧ ST w0 [] w [⟨B9, 50, (D5.flatMap eN4), c9 * 3⟩, ⟨B10, 50, (D6.flatMap eN4), c10 * 3⟩, ⟨aD b2, 50, kM_ x1 B7 c7, 3⟩, ⟨B4, 50, (D7.flatMap eN4), c4 * 3⟩, ⟨B8, 56, (r_2.flatMap eN0), c8 * 3⟩] (⟨B7, (x1.Cells.flatMap eN1)⟩ :: ⟨B1, (x.Cells.flatMap eN1)⟩ :: ⟨B, (r_1.Cells.flatMap eN1)⟩ :: ((D5.flatMap eN2) ++ ((D6.flatMap eN2) ++ ((D7.flatMap eN2) ++ [])))) ∧ i2 + k = r_2.length ∧ forN (F_spec_l28Size_l3 r_2 n x1) k i2 (seen2, next_1) = some z2) r_2.length ⟨0, seen1, next_, B5, c5, D2, B6, c6, D3, D4, (fc (hf1.g 0 0) (fc (hf1.g 1 1) (fc (hf1.g 5 2) (fc (hf1.g 7 3) (fc (hf1.g 8 4) (fc rfl (fc (hf1.g 35 5) (fc (hf1.g 36 6) (fc (hf1.g 37 7) (fc rfl (fc rfl (fc rfl fn_)))))))))))), hD2, ho6, hD3, ho7, hD4, ho8, (hS19.sel [0, 1, 3, 2, 4] rfl rfl), Nat.zero_add _, hz2⟩ ?_
   rintro K71 f w ⟨i2, seen2, next_1, B9, c9, D5, B10, c10, D6, D7, hf2, hD5, ho9, hD6, ho10, hD7, ho11, hS20, hik2, hL4⟩
   refine cq (cr ?_)
   refine sQ 45 (yL (i2 : Int) (r_2.length : Int) rfl (hf2.g 44 11) (hf2.g 43 10)) (rn (cq ?_))
   refine cw_cond (b := (decide ((i2 : Int) < (r_2.length : Int)))) rfl (fun hlt4 => ?_) (fun hlt4 => ?_)
   ·skip
    have hlt5 : i2 < r_2.length := by have h := of_decide_eq_true hlt4; omega
    obtain ⟨K51, rfl⟩ : ∃ k2, K71 = k2 + 1 := ⟨K71 - 1, by omega⟩
    obtain ⟨y2, hb2, hL5⟩ := forN_go hL4
    unfold F_spec_l28Size_l3 at hb2
    refine cw_skip (cq ?_)
    obtain ⟨z3, hz3, hF4⟩ := bI hb2
    refine cw_mid (fun f w => ∃ (seen3 : List TMatrix) (next_2 : List TMatrix) (B11 : Option Addr) (c11 : Nat) (D8 : List (Hd × TMatrix)) (B12 : Option Addr) (c12 : Nat) (D9 : List (Hd × TMatrix)) (D10 : List (Hd × TMatrix)), (seen3, next_2) = z3 ∧ FF f [(0, vi n), (1, vi length), (5, .slice B11 seen3.length c11), (7, vi (k_ : Int)), (8, .slice B12 next_2.length c12), (10, pt (aD b2) 0), (35, .slice B4 level.length c4), (36, vi (level.length : Int)), (37, vi (i1 : Int)), (42, .slice B8 r_2.length c8), (43, vi (r_2.length : Int)), (44, vi (i2 : Int))] ∧ D8.map Prod.snd = seen3 ∧ Org w0 [] [] (D8.flatMap eN2) ∧ D9.map Prod.snd = next_2 ∧ Org w0 [] [] (D9.flatMap eN2) ∧ D10.map Prod.snd = level ∧ Org w0 [] [] (D10.flatMap eN2) ∧ ST w0 [] w [⟨B11, 50, (D8.flatMap eN4), c11 * 3⟩, ⟨B12, 50, (D9.flatMap eN4), c12 * 3⟩, ⟨aD b2, 50, kM_ x1 B7 c7, 3⟩, ⟨B4, 50, (D10.flatMap eN4), c4 * 3⟩, ⟨B8, 56, (r_2.flatMap eN0), c8 * 3⟩] (⟨B7, (x1.Cells.flatMap eN1)⟩ :: ⟨B1, (x.Cells.flatMap eN1)⟩ :: ⟨B, (r_1.Cells.flatMap eN1)⟩ :: ((D8.flatMap eN2) ++ ((D9.flatMap eN2) ++ ((D10.flatMap eN2) ++ []))))) ?_ ?_
    ·skip
     refine cw_block (cq (cr ?_))
     obtain ⟨x2, hx2, hz3⟩ := bI hz3
     refine sQ 46 (Y_index (B := B8) (m := r_2.length) (c := c8) (k := .i64) (i := (i2 : Int)) K23 K19 rfl (hf2.g 42 9) (hf2.g 44 11) (gi_isSome enc_Gate_len rfl (hS20.c 4) hx2) (getI_nn hx2) (getI_ltI hx2 rfl)) <| sQ 47 (ya B8 ((i2 : Int).toNat * 3) (r_2.flatMap eN0) [vi x2.Kind, vi x2.A, vi x2.B] K52 K19 (hS20.c 4) rfl rfl (enc_Gate_len x2) (gi_seg enc_Gate_len hx2)) ?_
     refine sS 12 (yN [vi 0, vi 0, vi 0] 3 hS20 K24) ?_
     rintro _ w_7 ⟨b3, rfl, hS22⟩
     refine s0 (yT 5 3 (aD b3) 56 (.agg #[vi x2.Kind, vi x2.A, vi x2.B]) [vi x2.Kind, vi x2.A, vi x2.B] 0 hS22 K19) ?_
     rintro _ w_8 ⟨rfl, hS23⟩
     refine rn (cq (cr ?_))
     refine sQ 48 (Y_buildS (zs := [.bool false]) (vs := []) (cs := [.bool false]) k_pl_65 k_zero_65 rfl mpn rfl) ?_
     refine sS 49 (yB 65 (.agg #[.bool false]) [.bool false] 1 hS23) ?_
     rintro _ w_9 ⟨b4, rfl, hS24⟩
     refine sQ 13 (yg (pt (aD b4) 0)) (rn (cq ?_))
     obtain ⟨r_3, hc2, hz3⟩ := bI hz3
     obtain ⟨⟨r_4, m⟩, hc3, hz3⟩ := bI hz3
     obtain ⟨⟨r_5, r_6, r_7⟩, hc4, hz3⟩ := bI hz3
     refine cw_mid (fun f w => ∃ (B16 : Option Addr) (B17 : Option Addr) (c16 : Nat), FF f [(0, vi n), (1, vi length), (5, .slice B9 seen2.length c9), (7, vi (k_ : Int)), (8, .slice B10 next_1.length c10), (10, pt (aD b2) 0), (14, pt B16 0), (35, .slice B4 level.length c4), (36, vi (level.length : Int)), (37, vi (i1 : Int)), (42, .slice B8 r_2.length c8), (43, vi (r_2.length : Int)), (44, vi (i2 : Int))] ∧ ST w0 [] w [⟨B9, 50, (D5.flatMap eN4), c9 * 3⟩, ⟨B10, 50, (D6.flatMap eN4), c10 * 3⟩, ⟨aD b2, 50, kM_ x1 B7 c7, 3⟩, ⟨B16, 50, kM_ r_5 B17 c16, 3⟩, ⟨B17, 91, (r_5.Cells.flatMap eN1), c16 * 5⟩, ⟨B4, 50, (D7.flatMap eN4), c4 * 3⟩, ⟨B8, 56, (r_2.flatMap eN0), c8 * 3⟩] (⟨B7, (x1.Cells.flatMap eN1)⟩ :: ⟨B1, (x.Cells.flatMap eN1)⟩ :: ⟨B, (r_1.Cells.flatMap eN1)⟩ :: ((D5.flatMap eN2) ++ ((D6.flatMap eN2) ++ ((D7.flatMap eN2) ++ []))))) ?_ ?_
     ·skip
      refine ra_start (hS24.se [0, 1, 2, 3, 4, 5]).fn (by kernel_rfl) ?_
      have hS29 := hS24.drew
      refine rq 0 51 (v := pt (aD b4) 0) rfl (hS29.se [0, 1, 2, 3, 4, 5]) (fun w' hw' => (ym (pt (aD b4) 0))) ?_
      refine rq 1 52 (v := vi n) rfl (hS29.se [0, 1, 2, 3, 4, 5]) (fun w' hw' => (ym (vi n) rfl (hf2.g 0 0))) ?_
      refine rq 2 53 (v := .agg #[vi x2.Kind, vi x2.A, vi x2.B]) rfl (hS29.se [0, 1, 2, 3, 4, 5]) (fun w' hw' => (yb (aD b3) 0 [vi x2.Kind, vi x2.A, vi x2.B] K52 K19 (ST.cf hw' (i := 5) rfl))) ?_
      refine rq 4 55 (v := gM_ x1 B7 c7) rfl (hS29.se [0, 1, 2, 3, 4, 5]) (fun w' hw' => (yb (aD b2) 0 (kM_ x1 B7 c7) K9 K4 (ST.cf hw' (i := 2) rfl) rfl (hf2.g 10 5))) ?_
      refine rA [3, 11] ?_
      refine rC 54 3 rfl (yC [vi n, .agg #[vi x2.Kind, vi x2.A, vi x2.B]] k_call_32 (c_spec_l6Gate n x2 _  (hS29.inn0 [] rfl) hc2)) ?_ ?_
      ·rintro _ w_10 ⟨B13, c13, rfl, hd2⟩
       have hS30 := hS29.out0 hd2
       refine ⟨(hS30.se [0, 1, 2, 3, 4, 5]), ?_⟩
       refine rA [5, 11] ?_
       refine rC 56 5 rfl (yC [pt (aD b4) 0, gM_ r_3 B13 c13, gM_ x1 B7 c7] K93 (c_spec_l2C_times (Tl2C.mk false) r_3 x1 (aD b4) B13 c13 r_3.Cells.length B7 c7 x1.Cells.length _ rfl rfl (hS30.inn [false, false, false, false, false, false, true, false] rfl [(false, 6), (true, 0)] rfl) hc3)) ?_ ?_
       ·rintro _ w_11 ⟨B14, c14, rfl, hd3⟩
        have hS31 := hS30.out [false, false, false, false, false, false, true, false] rfl hd3
        refine ⟨(hS31.se [0, 1, 2, 3, 4, 5]), ?_⟩
        refine rA [6, 11] ?_
        refine rC 57 6 rfl (yC [gM_ r_4 B14 c14] K76 (c_spec_l28Canonical r_4 B14 c14 r_4.Cells.length _ rfl (hS31.inn0 [(false, 8)] rfl) hc4)) ?_ ?_
        ·rintro _ w_12 ⟨B15, c15, rfl, hd4⟩
         have hS32 := hS31.out0 hd4
         refine ⟨(hS32.se [0, 1, 2, 3, 4, 5]), ?_⟩
         refine rq 7 50 (v := .tuple #[gM_ r_5 B15 c15, vi r_6, .bool r_7]) rfl (hS32.se [0, 1, 2, 3, 4, 5]) (fun w' hw' => (ym (.tuple #[gM_ r_5 B15 c15, vi r_6, .bool r_7]))) ?_
         refine rq 8 58 (v := gM_ r_5 B15 c15) rfl (hS32.se [0, 1, 2, 3, 4, 5]) (fun w' hw' => (ye (gM_ r_5 B15 c15))) ?_
         refine rq 9 59 (v := vi r_6) rfl (hS32.se [0, 1, 2, 3, 4, 5]) (fun w' hw' => (ye (vi r_6))) ?_
         refine rq 10 60 (v := .bool r_7) rfl (hS32.se [0, 1, 2, 3, 4, 5]) (fun w' hw' => (ye (.bool r_7))) ?_
         refine rA [11] ?_
         refine rS 14 11 rfl (yN kN_ 3 hS32 K11) ?_ ?_
         ·rintro _ w_13 ⟨b5, rfl, hS33⟩
          refine ⟨(hS33.se [0, 1, 2, 3, 4, 5]), ?_⟩
          refine rA [12] ?_
          refine rZ 12 rfl (yT 10 3 (aD b5) 50 (gM_ r_5 B15 c15) (kM_ r_5 B15 c15) 0 hS33 K4) ?_ ?_
          ·rintro _ w_14 ⟨rfl, hS34⟩
           refine ⟨(hS34.se [0, 1, 2, 3, 4, 5]), ?_⟩
           refine rq 13 15 (v := vi r_6) rfl (hS34.se [0, 1, 2, 3, 4, 5]) (fun w' hw' => (yg (vi r_6))) ?_
           refine rq 14 16 (v := .bool r_7) rfl (hS34.se [0, 1, 2, 3, 4, 5]) (fun w' hw' => (yg (.bool r_7))) ?_
           refine ra_done (by kernel_rfl) ?_
           exact ⟨aD b5, B15, c15, (fc (hf2.g 0 0) (fc (hf2.g 1 1) (fc (hf2.g 5 2) (fc (hf2.g 7 3) (fc (hf2.g 8 4) (fc (hf2.g 10 5) (fc rfl (fc (hf2.g 35 6) (fc (hf2.g 36 7) (fc (hf2.g 37 8) (fc (hf2.g 42 9) (fc (hf2.g 43 10) (fc (hf2.g 44 11) fn_))))))))))))), (hS34.sel [0, 1, 2, 10, 9, 3, 4] rfl rfl)⟩
          exact aN
         exact aN
        refine rS 14 11 rfl (yN kN_ 3 hS31 K11) ?_ ?_
        ·rintro _ w_15 ⟨b5, rfl, hS35⟩
         refine ⟨(hS35.se [0, 1, 2, 3, 4, 5]), ?_⟩
         refine rA [6] ?_
         refine rC 57 6 rfl (yC [gM_ r_4 B14 c14] K76 (c_spec_l28Canonical r_4 B14 c14 r_4.Cells.length _ rfl (hS35.inn0 [(false, 8)] rfl) hc4)) ?_ ?_
         ·rintro _ w_16 ⟨B15, c15, rfl, hd5⟩
          have hS36 := hS35.out0 hd5
          refine ⟨(hS36.se [0, 1, 2, 3, 4, 5]), ?_⟩
          refine rq 7 50 (v := .tuple #[gM_ r_5 B15 c15, vi r_6, .bool r_7]) rfl (hS36.se [0, 1, 2, 3, 4, 5]) (fun w' hw' => (ym (.tuple #[gM_ r_5 B15 c15, vi r_6, .bool r_7]))) ?_
          refine rq 8 58 (v := gM_ r_5 B15 c15) rfl (hS36.se [0, 1, 2, 3, 4, 5]) (fun w' hw' => (ye (gM_ r_5 B15 c15))) ?_
          refine rq 9 59 (v := vi r_6) rfl (hS36.se [0, 1, 2, 3, 4, 5]) (fun w' hw' => (ye (vi r_6))) ?_
          refine rq 10 60 (v := .bool r_7) rfl (hS36.se [0, 1, 2, 3, 4, 5]) (fun w' hw' => (ye (.bool r_7))) ?_
          refine rA [12] ?_
          refine rZ 12 rfl (yT 9 3 (aD b5) 50 (gM_ r_5 B15 c15) (kM_ r_5 B15 c15) 0 hS36 K4) ?_ ?_
          ·rintro _ w_17 ⟨rfl, hS37⟩
           refine ⟨(hS37.se [0, 1, 2, 3, 4, 5]), ?_⟩
           refine rq 13 15 (v := vi r_6) rfl (hS37.se [0, 1, 2, 3, 4, 5]) (fun w' hw' => (yg (vi r_6))) ?_
           refine rq 14 16 (v := .bool r_7) rfl (hS37.se [0, 1, 2, 3, 4, 5]) (fun w' hw' => (yg (.bool r_7))) ?_
           refine ra_done (by kernel_rfl) ?_
           exact ⟨aD b5, B15, c15, (fc (hf2.g 0 0) (fc (hf2.g 1 1) (fc (hf2.g 5 2) (fc (hf2.g 7 3) (fc (hf2.g 8 4) (fc (hf2.g 10 5) (fc rfl (fc (hf2.g 35 6) (fc (hf2.g 36 7) (fc (hf2.g 37 8) (fc (hf2.g 42 9) (fc (hf2.g 43 10) (fc (hf2.g 44 11) fn_))))))))))))), (hS37.sel [0, 1, 2, 9, 10, 3, 4] rfl rfl)⟩
          exact aN
         exact aN
        exact aN
       refine rS 14 11 rfl (yN kN_ 3 hS30 K11) ?_ ?_
       ·rintro _ w_18 ⟨b5, rfl, hS38⟩
        refine ⟨(hS38.se [0, 1, 2, 3, 4, 5]), ?_⟩
        refine rA [5] ?_
        refine rC 56 5 rfl (yC [pt (aD b4) 0, gM_ r_3 B13 c13, gM_ x1 B7 c7] K93 (c_spec_l2C_times (Tl2C.mk false) r_3 x1 (aD b4) B13 c13 r_3.Cells.length B7 c7 x1.Cells.length _ rfl rfl (hS38.inn [false, false, false, false, false, false, true, false, false] rfl [(false, 6), (true, 0)] rfl) hc3)) ?_ ?_
        ·rintro _ w_19 ⟨B14, c14, rfl, hd6⟩
         have hS39 := hS38.out [false, false, false, false, false, false, true, false, false] rfl hd6
         refine ⟨(hS39.se [0, 1, 2, 3, 4, 5]), ?_⟩
         refine rA [6] ?_
         refine rC 57 6 rfl (yC [gM_ r_4 B14 c14] K76 (c_spec_l28Canonical r_4 B14 c14 r_4.Cells.length _ rfl (hS39.inn0 [(false, 9)] rfl) hc4)) ?_ ?_
         ·rintro _ w_20 ⟨B15, c15, rfl, hd7⟩
          have hS40 := hS39.out0 hd7
          refine ⟨(hS40.se [0, 1, 2, 3, 4, 5]), ?_⟩
          refine rq 7 50 (v := .tuple #[gM_ r_5 B15 c15, vi r_6, .bool r_7]) rfl (hS40.se [0, 1, 2, 3, 4, 5]) (fun w' hw' => (ym (.tuple #[gM_ r_5 B15 c15, vi r_6, .bool r_7]))) ?_
          refine rq 8 58 (v := gM_ r_5 B15 c15) rfl (hS40.se [0, 1, 2, 3, 4, 5]) (fun w' hw' => (ye (gM_ r_5 B15 c15))) ?_
          refine rq 9 59 (v := vi r_6) rfl (hS40.se [0, 1, 2, 3, 4, 5]) (fun w' hw' => (ye (vi r_6))) ?_
          refine rq 10 60 (v := .bool r_7) rfl (hS40.se [0, 1, 2, 3, 4, 5]) (fun w' hw' => (ye (.bool r_7))) ?_
          refine rA [12] ?_
          refine rZ 12 rfl (yT 7 3 (aD b5) 50 (gM_ r_5 B15 c15) (kM_ r_5 B15 c15) 0 hS40 K4) ?_ ?_
          ·rintro _ w_21 ⟨rfl, hS41⟩
           refine ⟨(hS41.se [0, 1, 2, 3, 4, 5]), ?_⟩
           refine rq 13 15 (v := vi r_6) rfl (hS41.se [0, 1, 2, 3, 4, 5]) (fun w' hw' => (yg (vi r_6))) ?_
           refine rq 14 16 (v := .bool r_7) rfl (hS41.se [0, 1, 2, 3, 4, 5]) (fun w' hw' => (yg (.bool r_7))) ?_
           refine ra_done (by kernel_rfl) ?_
           exact ⟨aD b5, B15, c15, (fc (hf2.g 0 0) (fc (hf2.g 1 1) (fc (hf2.g 5 2) (fc (hf2.g 7 3) (fc (hf2.g 8 4) (fc (hf2.g 10 5) (fc rfl (fc (hf2.g 35 6) (fc (hf2.g 36 7) (fc (hf2.g 37 8) (fc (hf2.g 42 9) (fc (hf2.g 43 10) (fc (hf2.g 44 11) fn_))))))))))))), (hS41.sel [0, 1, 2, 7, 10, 3, 4] rfl rfl)⟩
          exact aN
         exact aN
        exact aN
       exact aN
      refine rS 14 11 rfl (yN kN_ 3 hS29 K11) ?_ ?_
      ·rintro _ w_22 ⟨b5, rfl, hS42⟩
       refine ⟨(hS42.se [0, 1, 2, 3, 4, 5]), ?_⟩
       refine rA [3] ?_
       refine rC 54 3 rfl (yC [vi n, .agg #[vi x2.Kind, vi x2.A, vi x2.B]] k_call_32 (c_spec_l6Gate n x2 _  (hS42.inn0 [] rfl) hc2)) ?_ ?_
       ·rintro _ w_23 ⟨B13, c13, rfl, hd8⟩
        have hS43 := hS42.out0 hd8
        refine ⟨(hS43.se [0, 1, 2, 3, 4, 5]), ?_⟩
        refine rA [5] ?_
        refine rC 56 5 rfl (yC [pt (aD b4) 0, gM_ r_3 B13 c13, gM_ x1 B7 c7] K93 (c_spec_l2C_times (Tl2C.mk false) r_3 x1 (aD b4) B13 c13 r_3.Cells.length B7 c7 x1.Cells.length _ rfl rfl (hS43.inn [false, false, false, false, false, false, true, false, false] rfl [(false, 7), (true, 0)] rfl) hc3)) ?_ ?_
        ·rintro _ w_24 ⟨B14, c14, rfl, hd9⟩
         have hS44 := hS43.out [false, false, false, false, false, false, true, false, false] rfl hd9
         refine ⟨(hS44.se [0, 1, 2, 3, 4, 5]), ?_⟩
         refine rA [6] ?_
         refine rC 57 6 rfl (yC [gM_ r_4 B14 c14] K76 (c_spec_l28Canonical r_4 B14 c14 r_4.Cells.length _ rfl (hS44.inn0 [(false, 9)] rfl) hc4)) ?_ ?_
         ·rintro _ w_25 ⟨B15, c15, rfl, hd10⟩
          have hS45 := hS44.out0 hd10
          refine ⟨(hS45.se [0, 1, 2, 3, 4, 5]), ?_⟩
          refine rq 7 50 (v := .tuple #[gM_ r_5 B15 c15, vi r_6, .bool r_7]) rfl (hS45.se [0, 1, 2, 3, 4, 5]) (fun w' hw' => (ym (.tuple #[gM_ r_5 B15 c15, vi r_6, .bool r_7]))) ?_
          refine rq 8 58 (v := gM_ r_5 B15 c15) rfl (hS45.se [0, 1, 2, 3, 4, 5]) (fun w' hw' => (ye (gM_ r_5 B15 c15))) ?_
          refine rq 9 59 (v := vi r_6) rfl (hS45.se [0, 1, 2, 3, 4, 5]) (fun w' hw' => (ye (vi r_6))) ?_
          refine rq 10 60 (v := .bool r_7) rfl (hS45.se [0, 1, 2, 3, 4, 5]) (fun w' hw' => (ye (.bool r_7))) ?_
          refine rA [12] ?_
          refine rZ 12 rfl (yT 6 3 (aD b5) 50 (gM_ r_5 B15 c15) (kM_ r_5 B15 c15) 0 hS45 K4) ?_ ?_
          ·rintro _ w_26 ⟨rfl, hS46⟩
           refine ⟨(hS46.se [0, 1, 2, 3, 4, 5]), ?_⟩
           refine rq 13 15 (v := vi r_6) rfl (hS46.se [0, 1, 2, 3, 4, 5]) (fun w' hw' => (yg (vi r_6))) ?_
           refine rq 14 16 (v := .bool r_7) rfl (hS46.se [0, 1, 2, 3, 4, 5]) (fun w' hw' => (yg (.bool r_7))) ?_
           refine ra_done (by kernel_rfl) ?_
           exact ⟨aD b5, B15, c15, (fc (hf2.g 0 0) (fc (hf2.g 1 1) (fc (hf2.g 5 2) (fc (hf2.g 7 3) (fc (hf2.g 8 4) (fc (hf2.g 10 5) (fc rfl (fc (hf2.g 35 6) (fc (hf2.g 36 7) (fc (hf2.g 37 8) (fc (hf2.g 42 9) (fc (hf2.g 43 10) (fc (hf2.g 44 11) fn_))))))))))))), (hS46.sel [0, 1, 2, 6, 10, 3, 4] rfl rfl)⟩
          exact aN
         exact aN
        exact aN
       exact aN
      exact aN
     rintro f w ⟨B16, B17, c16, hf4, hS28⟩
     refine cq (cr ?_)
     refine sQ 17 (yg (.bool false)) (rn (cq (cq (cr ?_))))
     refine sQ 61 (ym (.slice B9 seen2.length c9) rfl (hf4.g 5 2)) <| sQ 62 (Y_len (B := B9) (m := seen2.length) (c := c9) K37 rfl rfl) <| sQ 63 (ym (vi 0)) (rn ?_)
     obtain ⟨hN3, hz3⟩ := chk_inv hz3
     obtain ⟨z4, hz4, hF5⟩ := bI hz3
     refine cw_block ?_
     refine cw_loop (fun k f w => ∃ (i3 : Nat) (known : Bool) (D11 : List (Hd × TMatrix)) (D12 : List (Hd × TMatrix)) (D13 : List (Hd × TMatrix)), FF f [(0, vi n), (1, vi length), (5, .slice B9 seen2.length c9), (7, vi (k_ : Int)), (8, .slice B10 next_1.length c10), (10, pt (aD b2) 0), (14, pt B16 0), (17, .bool known), (35, .slice B4 level.length c4), (36, vi (level.length : Int)), (37, vi (i1 : Int)), (42, .slice B8 r_2.length c8), (43, vi (r_2.length : Int)), (44, vi (i2 : Int)), (61, .slice B9 seen2.length c9), (62, vi (seen2.length : Int)), (63, vi (i3 : Int))] ∧ D11.map Prod.snd = seen2 ∧ Org w0 [] [] (D11.flatMap eN2) ∧ D12.map Prod.snd = next_1 ∧ Org w0 [] [] (D12.flatMap eN2) ∧ D13.map Prod.snd = level ∧ Org w0 [] [] (D13.flatMap eN2) ∧ ST w0 [] w [⟨B9, 50, (D11.flatMap eN4), c9 * 3⟩, ⟨B10, 50, (D12.flatMap eN4), c10 * 3⟩, ⟨aD b2, 50, kM_ x1 B7 c7, 3⟩, ⟨B16, 50, kM_ r_5 B17 c16, 3⟩, ⟨B17, 91, (r_5.Cells.flatMap eN1), c16 * 5⟩, ⟨B4, 50, (D13.flatMap eN4), c4 * 3⟩, ⟨B8, 56, (r_2.flatMap eN0), c8 * 3⟩] (⟨B7, (x1.Cells.flatMap eN1)⟩ :: ⟨B1, (x.Cells.flatMap eN1)⟩ :: ⟨B, (r_1.Cells.flatMap eN1)⟩ :: ((D11.flatMap eN2) ++ ((D12.flatMap eN2) ++ ((D13.flatMap eN2) ++ [])))) ∧ i3 + k = seen2.length ∧ forN (F_spec_l28Size_l4 seen2 r_5) k i3 known = some z4) seen2.length ⟨0, false, D5, D6, D7, (fc (hf4.g 0 0) (fc (hf4.g 1 1) (fc (hf4.g 5 2) (fc (hf4.g 7 3) (fc (hf4.g 8 4) (fc (hf4.g 10 5) (fc (hf4.g 14 6) (fc rfl (fc (hf4.g 35 7) (fc (hf4.g 36 8) (fc (hf4.g 37 9) (fc (hf4.g 42 10) (fc (hf4.g 43 11) (fc (hf4.g 44 12) (fc rfl (fc rfl (fc rfl fn_))))))))))))))))), hD5, ho9, hD6, ho10, hD7, ho11, (hS28.sel [0, 1, 2, 3, 4, 5, 6] rfl rfl), Nat.zero_add _, hz4⟩ ?_
     rintro K60 f w ⟨i3, known, D11, D12, D13, hf5, hD11, ho15, hD12, ho16, hD13, ho17, hS47, hik3, hL6⟩
     refine cq (cr ?_)
     refine sQ 64 (yL (i3 : Int) (seen2.length : Int) rfl (hf5.g 63 16) (hf5.g 62 15)) (rn (cq ?_))
     refine cw_cond (b := (decide ((i3 : Int) < (seen2.length : Int)))) rfl (fun hlt6 => ?_) (fun hlt6 => ?_)
     ·skip
      have hlt7 : i3 < seen2.length := by have h := of_decide_eq_true hlt6; omega
      obtain ⟨K61, rfl⟩ : ∃ k2, K60 = k2 + 1 := ⟨K60 - 1, by omega⟩
      obtain ⟨y3, hb3, hL7⟩ := forN_go hL6
      unfold F_spec_l28Size_l4 at hb3
      refine cw_skip (cq (cw_block (cq (cr ?_))))
      obtain ⟨x3, hx3, hb3⟩ := bI hb3
      obtain ⟨⟨B18, c17⟩, hp2⟩ := getI_snd hD11 hx3
      refine sQ 65 (Y_index (B := B9) (m := seen2.length) (c := c9) (k := .i64) (i := (i3 : Int)) K37 K4 rfl (hf5.g 61 14) (hf5.g 63 16) (gi_isSome encD_Matrix_len rfl (hS47.c 0) hp2) (getI_nn hp2) (getI_ltI hp2 (dl_len hD11))) ?_
      have hm4 : (⟨B18, (x3.Cells.flatMap eN1)⟩ : Ro) ∈ ((⟨B7, (x1.Cells.flatMap eN1)⟩ :: ⟨B1, (x.Cells.flatMap eN1)⟩ :: ⟨B, (r_1.Cells.flatMap eN1)⟩ :: ((D11.flatMap eN2) ++ ((D12.flatMap eN2) ++ ((D13.flatMap eN2) ++ [])))) : List Ro) := app_mem (fun r_ (h : r_ ∈ ((D11.flatMap eN2) : List Ro)) => mOd (i := 3) (show r_ ∈ ((((D11.flatMap eN2) ++ ((D12.flatMap eN2) ++ ((D13.flatMap eN2) ++ [])))) : List Ro) from mAl _ h)) (row_mem (rw_ := eN2) hp2 _ (mt 0))
      have hS48 : ST w0 [] _ [⟨B9, 50, (D11.flatMap eN4), c9 * 3⟩, ⟨B10, 50, (D12.flatMap eN4), c10 * 3⟩, ⟨aD b2, 50, kM_ x1 B7 c7, 3⟩, ⟨B16, 50, kM_ r_5 B17 c16, 3⟩, ⟨B17, 91, (r_5.Cells.flatMap eN1), c16 * 5⟩, ⟨B4, 50, (D13.flatMap eN4), c4 * 3⟩, ⟨B8, 56, (r_2.flatMap eN0), c8 * 3⟩] (⟨B18, (x3.Cells.flatMap eN1)⟩ :: ⟨B7, (x1.Cells.flatMap eN1)⟩ :: ⟨B1, (x.Cells.flatMap eN1)⟩ :: ⟨B, (r_1.Cells.flatMap eN1)⟩ :: ((D11.flatMap eN2) ++ ((D12.flatMap eN2) ++ ((D13.flatMap eN2) ++ [])))) := ST.subR hS47 (subc hm4 (fun _ h => h))
      refine sQ 66 (ya B9 ((i3 : Int).toNat * 3) (D11.flatMap eN4) (kM_ x3 B18 c17) K9 K4 (hS48.c 0) rfl rfl (encD_Matrix_len ((B18, c17), x3)) (gi_seg encD_Matrix_len hp2)) ?_
      refine sS 19 (yN kN_ 3 hS48 K11) ?_
      rintro _ w_27 ⟨b6, rfl, hS49⟩
      refine s0 (yT 7 3 (aD b6) 50 (gM_ x3 B18 c17) (kM_ x3 B18 c17) 0 hS49 K4) ?_
      rintro _ w_28 ⟨rfl, hS50⟩
      refine rn (cr ?_)
      refine sQ 67 (ym (.bool known) rfl (hf5.g 17 7)) <| sQ 68 (ym (.bool known)) ?_
      refine sgq 69 (B := (!known)) (v := gM_ r_5 B17 c16) rfl rfl (uF_ 68) (fun hg => (yb B16 0 (kM_ r_5 B17 c16) K9 K4 (hS50.c 3) rfl (hf5.g 14 6))) ?_
      refine sgq 70 (B := (!known)) (v := gM_ x3 B18 c17) rfl rfl (uF_ 68) (fun hg1 => (yb (aD b6) 0 (kM_ x3 B18 c17) K9 K4 (hS50.c 7))) ?_
      obtain ⟨r_8, hc5, hb3⟩ := bI hb3
      refine sgc 71 (B := (!known)) (v := .bool r_8) (F := hS50.fn) rfl rfl (uF_ 68) hS50 (fun hg2 => (yC [gM_ r_5 B17 c16, gM_ x3 B18 c17] k_call_33 (CV.mono (c_spec_EqualMatrices r_5 x3 B17 c16 r_5.Cells.length B18 c17 x3.Cells.length _ rfl rfl (hS50.inn0 [(false, 4), (true, 0)] rfl) (gb_inv hc5 hg2)) (by rintro _ _ ⟨rfl, h⟩; exact ⟨rfl, hS50.out00 h⟩)) rfl (mc (gv_of (v := gM_ r_5 B17 c16) hg2) (mc (gv_of (v := gM_ x3 B18 c17) hg2) mn)))) ?_
      rintro w_29 hS51
      refine sQ 72 (Y_or (b := known) (z := r_8) rfl rfl rfl rfl) <| sQ 17 (yg (.bool (known || r_8))) (rn (cr ?_))
      refine sQ 73 (yP (i3 : Int) 1 rfl (hf5.g 63 16)) <| sQ 63 (ym (vi (i64.wrap ((i3 : Int) + 1)))) (rn ?_)
      obtain rfl := sI hb3
      have hS52 : ST w0 [] _ [⟨B9, 50, (D11.flatMap eN4), c9 * 3⟩, ⟨B10, 50, (D12.flatMap eN4), c10 * 3⟩, ⟨aD b2, 50, kM_ x1 B7 c7, 3⟩, ⟨B16, 50, kM_ r_5 B17 c16, 3⟩, ⟨B17, 91, (r_5.Cells.flatMap eN1), c16 * 5⟩, ⟨B4, 50, (D13.flatMap eN4), c4 * 3⟩, ⟨B8, 56, (r_2.flatMap eN0), c8 * 3⟩, ⟨aD b6, 50, kM_ x3 B18 c17, 3⟩] (⟨B7, (x1.Cells.flatMap eN1)⟩ :: ⟨B1, (x.Cells.flatMap eN1)⟩ :: ⟨B, (r_1.Cells.flatMap eN1)⟩ :: ((D11.flatMap eN2) ++ ((D12.flatMap eN2) ++ ((D13.flatMap eN2) ++ [])))) := ST.subR hS51 (sk 1 (sk 2 (sk 3 (suba (fun r_ (h : r_ ∈ ((D11.flatMap eN2) : List Ro)) => mOd (i := 4) (show r_ ∈ ((((D11.flatMap eN2) ++ ((D12.flatMap eN2) ++ ((D13.flatMap eN2) ++ [])))) : List Ro) from mAl _ h)) (suba (fun r_ (h : r_ ∈ ((D12.flatMap eN2) : List Ro)) => mOd (i := 4) (show r_ ∈ ((((D11.flatMap eN2) ++ ((D12.flatMap eN2) ++ ((D13.flatMap eN2) ++ [])))) : List Ro) from mAr _ (mAl _ h))) (suba (fun r_ (h : r_ ∈ ((D13.flatMap eN2) : List Ro)) => mOd (i := 4) (show r_ ∈ ((((D11.flatMap eN2) ++ ((D12.flatMap eN2) ++ ((D13.flatMap eN2) ++ [])))) : List Ro) from mAr _ (mAr _ (mAl _ h)))) (fun _ h => by cases h)))))))
      exact ⟨K61, Nat.lt_succ_self _, i3 + 1, (known || r_8), D11, D12, D13, (fc (hf5.g 0 0) (fc (hf5.g 1 1) (fc (hf5.g 5 2) (fc (hf5.g 7 3) (fc (hf5.g 8 4) (fc (hf5.g 10 5) (fc (hf5.g 14 6) (fc rfl (fc (hf5.g 35 8) (fc (hf5.g 36 9) (fc (hf5.g 37 10) (fc (hf5.g 42 11) (fc (hf5.g 43 12) (fc (hf5.g 44 13) (fc (hf5.g 61 14) (fc (hf5.g 62 15) (fc (congrArg (Value.int .i64) (wr_succ hlt7 hN3)) fn_))))))))))))))))), hD11, ho15, hD12, ho16, hD13, ho17, (hS52.sel [0, 1, 2, 3, 4, 5, 6] rfl rfl), (by omega), hL7⟩
     ·skip
      obtain rfl : K60 = 0 := by have h := of_decide_eq_false hlt6; omega
      refine cw_exit rfl ?_
      obtain rfl := sI hL6
      refine cq (cr ?_)
      refine sQ 74 (ym (.bool known) rfl (hf5.g 17 7)) <| sQ 75 (Y_not (p := known) rfl rfl) (rn ?_)
      refine cw_cond (b := (!known)) rfl (fun hb4 => ?_) (fun hb4 => ?_)
      ·skip
       have hF6 := ct hF5 hb4
       refine cq (cr ?_)
       refine sQ 76 (ym (.slice B9 seen2.length c9) rfl (hf5.g 5 2)) <| sQ 77 (yb B16 0 (kM_ r_5 B17 c16) K9 K4 (hS47.c 3) rfl (hf5.g 14 6)) ?_
       have ho18 : Org w0 [] [] [⟨B17, (r_5.Cells.flatMap eN1)⟩] := ST.orgOwn hS47 (i := 4) rfl
       have hcap1 : r_5.Cells.length ≤ c16 := (hS47.lencap (i := 4) rfl (fm_lenn (l := r_5.Cells) enc_Dyadic_len rfl) rfl rfl)
       have hS53 : ST w0 [] _ [⟨B9, 50, (D11.flatMap eN4), c9 * 3⟩, ⟨B10, 50, (D12.flatMap eN4), c10 * 3⟩, ⟨aD b2, 50, kM_ x1 B7 c7, 3⟩, ⟨B16, 50, kM_ r_5 B17 c16, 3⟩, ⟨B4, 50, (D13.flatMap eN4), c4 * 3⟩, ⟨B8, 56, (r_2.flatMap eN0), c8 * 3⟩] (⟨B17, (r_5.Cells.flatMap eN1)⟩ :: ⟨B7, (x1.Cells.flatMap eN1)⟩ :: ⟨B1, (x.Cells.flatMap eN1)⟩ :: ⟨B, (r_1.Cells.flatMap eN1)⟩ :: ((D11.flatMap eN2) ++ ((D12.flatMap eN2) ++ ((D13.flatMap eN2) ++ [])))) := hS47.freeze (i := 4) rfl
       refine sS 78 (Ys_bslice (s := 3) (len := 1) (vs := [(0, gM_ r_5 B17 c16)]) (cs := kM_ r_5 B17 c16) (zs := kN_) (m := 3) hS53 K37 K4 K75 rfl (mpc rfl mpn) rfl rfl rfl (by kernel_rfl) (by kernel_rfl) rfl) ?_
       rintro _ w_30 ⟨b7, rfl, hS54⟩
       have hm5 : ∀ r ∈ (([((B17, c16), r_5)] : List (Hd × TMatrix)).flatMap eN2), r ∈ ((⟨B17, (r_5.Cells.flatMap eN1)⟩ :: ⟨B7, (x1.Cells.flatMap eN1)⟩ :: ⟨B1, (x.Cells.flatMap eN1)⟩ :: ⟨B, (r_1.Cells.flatMap eN1)⟩ :: ((D11.flatMap eN2) ++ ((D12.flatMap eN2) ++ ((D13.flatMap eN2) ++ [])))) : List Ro) := (fsub_cons (sk 0 (fun _ h => by cases h)) fsub_nil)
       have ho19 : Org w0 [] [] (([((B17, c16), r_5)] : List (Hd × TMatrix)).flatMap eN2) := (forg_cons (org_cons ho18 org_nil) forg_nil)
       have hS55 : ST w0 [] _ [⟨B9, 50, (D11.flatMap eN4), c9 * 3⟩, ⟨B10, 50, (D12.flatMap eN4), c10 * 3⟩, ⟨aD b2, 50, kM_ x1 B7 c7, 3⟩, ⟨B16, 50, kM_ r_5 B17 c16, 3⟩, ⟨B4, 50, (D13.flatMap eN4), c4 * 3⟩, ⟨B8, 56, (r_2.flatMap eN0), c8 * 3⟩, ⟨aD b7, 50, (([((B17, c16), r_5)] : List (Hd × TMatrix)).flatMap eN4), 1 * 3⟩] (⟨B17, (r_5.Cells.flatMap eN1)⟩ :: ⟨B7, (x1.Cells.flatMap eN1)⟩ :: ⟨B1, (x.Cells.flatMap eN1)⟩ :: ⟨B, (r_1.Cells.flatMap eN1)⟩ :: ((([((B17, c16), r_5)] : List (Hd × TMatrix)).flatMap eN2) ++ ((D11.flatMap eN2) ++ ((D12.flatMap eN2) ++ ((D13.flatMap eN2) ++ []))))) := ST.subR hS54 (sk 0 (sk 1 (sk 2 (sk 3 (suba hm5 (suba (fun r_ (h : r_ ∈ ((D11.flatMap eN2) : List Ro)) => mOd (i := 4) (show r_ ∈ ((((D11.flatMap eN2) ++ ((D12.flatMap eN2) ++ ((D13.flatMap eN2) ++ [])))) : List Ro) from mAl _ h)) (suba (fun r_ (h : r_ ∈ ((D12.flatMap eN2) : List Ro)) => mOd (i := 4) (show r_ ∈ ((((D11.flatMap eN2) ++ ((D12.flatMap eN2) ++ ((D13.flatMap eN2) ++ [])))) : List Ro) from mAr _ (mAl _ h))) (suba (fun r_ (h : r_ ∈ ((D13.flatMap eN2) : List Ro)) => mOd (i := 4) (show r_ ∈ ((((D11.flatMap eN2) ++ ((D12.flatMap eN2) ++ ((D13.flatMap eN2) ++ [])))) : List Ro) from mAr _ (mAr _ (mAl _ h)))) (fun _ h => by cases h)))))))))
       obtain ⟨hap, hF6⟩ := chk_inv hF6
       refine sS 79 (Ys_append (s := 3) (by' := 40) (i := 0) (nn := seen2.length) (c := c9) (k := 1) (len := (seen2 ++ ([r_5] : List TMatrix)).length) (B := B9) (xs := (([((B17, c16), r_5)] : List (Hd × TMatrix)).flatMap eN4)) (cs' := ((D11 ++ ([((B17, c16), r_5)] : List (Hd × TMatrix))).flatMap eN4)) hS55 K37 K4 K92 K11 rfl (by decide) rfl rfl rfl rfl (fm_lenn (l := D11) encD_Matrix_len (dl_len hD11)) rfl (hS55.c 6) (fm_lenn (l := ([((B17, c16), r_5)] : List (Hd × TMatrix))) encD_Matrix_len rfl) (fm_one' (enc := eN4) encD_Matrix_one ([((B17, c16), r_5)] : List (Hd × TMatrix))) (by have := hap; omega) (by have := hap; simp only [maxLen]; omega) (fm_app _ _) (dl_sum (dl_len hD11) rfl (dl_app hD11 (show List.map Prod.snd ([((B17, c16), r_5)] : List (Hd × TMatrix)) = ([r_5] : List TMatrix) from rfl)))) ?_
       rintro _ w_31 ⟨B19, c18, rfl, hS56⟩
       have ho20 : Org w0 [] [] ((D11 ++ ([((B17, c16), r_5)] : List (Hd × TMatrix))).flatMap eN2) := (forg_app ho15 ho19)
       have hS57 : ST w0 [] _ [⟨B19, 50, ((D11 ++ ([((B17, c16), r_5)] : List (Hd × TMatrix))).flatMap eN4), c18 * 3⟩, ⟨B10, 50, (D12.flatMap eN4), c10 * 3⟩, ⟨aD b2, 50, kM_ x1 B7 c7, 3⟩, ⟨B16, 50, kM_ r_5 B17 c16, 3⟩, ⟨B4, 50, (D13.flatMap eN4), c4 * 3⟩, ⟨B8, 56, (r_2.flatMap eN0), c8 * 3⟩, ⟨aD b7, 50, (([((B17, c16), r_5)] : List (Hd × TMatrix)).flatMap eN4), 1 * 3⟩] (⟨B17, (r_5.Cells.flatMap eN1)⟩ :: ⟨B7, (x1.Cells.flatMap eN1)⟩ :: ⟨B1, (x.Cells.flatMap eN1)⟩ :: ⟨B, (r_1.Cells.flatMap eN1)⟩ :: (((D11 ++ ([((B17, c16), r_5)] : List (Hd × TMatrix))).flatMap eN2) ++ ((([((B17, c16), r_5)] : List (Hd × TMatrix)).flatMap eN2) ++ ((D12.flatMap eN2) ++ ((D13.flatMap eN2) ++ []))))) := ST.subR hS56 (sk 0 (sk 1 (sk 2 (sk 3 (suba (fsub_app (fun r_ (h : r_ ∈ ((D11.flatMap eN2) : List Ro)) => mOd (i := 4) (show r_ ∈ ((((([((B17, c16), r_5)] : List (Hd × TMatrix)).flatMap eN2) ++ ((D11.flatMap eN2) ++ ((D12.flatMap eN2) ++ ((D13.flatMap eN2) ++ []))))) : List Ro) from mAr _ (mAl _ h))) (fun r_ (h : r_ ∈ ((([((B17, c16), r_5)] : List (Hd × TMatrix)).flatMap eN2) : List Ro)) => mOd (i := 4) (show r_ ∈ ((((([((B17, c16), r_5)] : List (Hd × TMatrix)).flatMap eN2) ++ ((D11.flatMap eN2) ++ ((D12.flatMap eN2) ++ ((D13.flatMap eN2) ++ []))))) : List Ro) from mAl _ h))) (suba (fun r_ (h : r_ ∈ ((([((B17, c16), r_5)] : List (Hd × TMatrix)).flatMap eN2) : List Ro)) => mOd (i := 4) (show r_ ∈ ((((([((B17, c16), r_5)] : List (Hd × TMatrix)).flatMap eN2) ++ ((D11.flatMap eN2) ++ ((D12.flatMap eN2) ++ ((D13.flatMap eN2) ++ []))))) : List Ro) from mAl _ h)) (suba (fun r_ (h : r_ ∈ ((D12.flatMap eN2) : List Ro)) => mOd (i := 4) (show r_ ∈ ((((([((B17, c16), r_5)] : List (Hd × TMatrix)).flatMap eN2) ++ ((D11.flatMap eN2) ++ ((D12.flatMap eN2) ++ ((D13.flatMap eN2) ++ []))))) : List Ro) from mAr _ (mAr _ (mAl _ h)))) (suba (fun r_ (h : r_ ∈ ((D13.flatMap eN2) : List Ro)) => mOd (i := 4) (show r_ ∈ ((((([((B17, c16), r_5)] : List (Hd × TMatrix)).flatMap eN2) ++ ((D11.flatMap eN2) ++ ((D12.flatMap eN2) ++ ((D13.flatMap eN2) ++ []))))) : List Ro) from mAr _ (mAr _ (mAr _ (mAl _ h))))) (fun _ h => by cases h)))))))))
       have hS57 : ST w0 [] _ [⟨B19, 50, ((D11 ++ ([((B17, c16), r_5)] : List (Hd × TMatrix))).flatMap eN4), c18 * 3⟩, ⟨B10, 50, (D12.flatMap eN4), c10 * 3⟩, ⟨aD b2, 50, kM_ x1 B7 c7, 3⟩, ⟨B16, 50, kM_ r_5 B17 c16, 3⟩, ⟨B4, 50, (D13.flatMap eN4), c4 * 3⟩, ⟨B8, 56, (r_2.flatMap eN0), c8 * 3⟩, ⟨aD b7, 50, (([((B17, c16), r_5)] : List (Hd × TMatrix)).flatMap eN4), 1 * 3⟩] (⟨B17, (r_5.Cells.flatMap eN1)⟩ :: ⟨B7, (x1.Cells.flatMap eN1)⟩ :: ⟨B1, (x.Cells.flatMap eN1)⟩ :: ⟨B, (r_1.Cells.flatMap eN1)⟩ :: (((D11 ++ ([((B17, c16), r_5)] : List (Hd × TMatrix))).flatMap eN2) ++ ((([((B17, c16), r_5)] : List (Hd × TMatrix)).flatMap eN2) ++ ((D12.flatMap eN2) ++ ((D13.flatMap eN2) ++ []))))) := hS57
       refine sQ 5 (yg (.slice B19 ((seen2 ++ ([r_5] : List TMatrix)).length) c18)) (rn (cr ?_))
       refine sQ 80 (ym (.slice B10 next_1.length c10) rfl (hf5.g 8 4)) <| sQ 81 (yb B16 0 (kM_ r_5 B17 c16) K9 K4 (hS57.c 3) rfl (hf5.g 14 6)) ?_
       refine sS 82 (Ys_bslice (s := 3) (len := 1) (vs := [(0, gM_ r_5 B17 c16)]) (cs := kM_ r_5 B17 c16) (zs := kN_) (m := 3) hS57 K37 K4 K75 rfl (mpc rfl mpn) rfl rfl rfl (by kernel_rfl) (by kernel_rfl) rfl) ?_
       rintro _ w_32 ⟨b8, rfl, hS58⟩
       have hm6 : ∀ r ∈ (([((B17, c16), r_5)] : List (Hd × TMatrix)).flatMap eN2), r ∈ ((⟨B17, (r_5.Cells.flatMap eN1)⟩ :: ⟨B7, (x1.Cells.flatMap eN1)⟩ :: ⟨B1, (x.Cells.flatMap eN1)⟩ :: ⟨B, (r_1.Cells.flatMap eN1)⟩ :: (((D11 ++ ([((B17, c16), r_5)] : List (Hd × TMatrix))).flatMap eN2) ++ ((([((B17, c16), r_5)] : List (Hd × TMatrix)).flatMap eN2) ++ ((D12.flatMap eN2) ++ ((D13.flatMap eN2) ++ []))))) : List Ro) := (fsub_cons (sk 0 (fun _ h => by cases h)) fsub_nil)
       have ho21 : Org w0 [] [] (([((B17, c16), r_5)] : List (Hd × TMatrix)).flatMap eN2) := (forg_cons (org_cons ho18 org_nil) forg_nil)
       have hS59 : ST w0 [] _ [⟨B19, 50, ((D11 ++ ([((B17, c16), r_5)] : List (Hd × TMatrix))).flatMap eN4), c18 * 3⟩, ⟨B10, 50, (D12.flatMap eN4), c10 * 3⟩, ⟨aD b2, 50, kM_ x1 B7 c7, 3⟩, ⟨B16, 50, kM_ r_5 B17 c16, 3⟩, ⟨B4, 50, (D13.flatMap eN4), c4 * 3⟩, ⟨B8, 56, (r_2.flatMap eN0), c8 * 3⟩, ⟨aD b7, 50, (([((B17, c16), r_5)] : List (Hd × TMatrix)).flatMap eN4), 1 * 3⟩, ⟨aD b8, 50, (([((B17, c16), r_5)] : List (Hd × TMatrix)).flatMap eN4), 1 * 3⟩] (⟨B17, (r_5.Cells.flatMap eN1)⟩ :: ⟨B7, (x1.Cells.flatMap eN1)⟩ :: ⟨B1, (x.Cells.flatMap eN1)⟩ :: ⟨B, (r_1.Cells.flatMap eN1)⟩ :: ((([((B17, c16), r_5)] : List (Hd × TMatrix)).flatMap eN2) ++ (((D11 ++ ([((B17, c16), r_5)] : List (Hd × TMatrix))).flatMap eN2) ++ ((([((B17, c16), r_5)] : List (Hd × TMatrix)).flatMap eN2) ++ ((D12.flatMap eN2) ++ ((D13.flatMap eN2) ++ [])))))) := ST.subR hS58 (sk 0 (sk 1 (sk 2 (sk 3 (suba hm6 (suba (fun r_ (h : r_ ∈ (((D11 ++ ([((B17, c16), r_5)] : List (Hd × TMatrix))).flatMap eN2) : List Ro)) => mOd (i := 4) (show r_ ∈ (((((D11 ++ ([((B17, c16), r_5)] : List (Hd × TMatrix))).flatMap eN2) ++ ((([((B17, c16), r_5)] : List (Hd × TMatrix)).flatMap eN2) ++ ((D12.flatMap eN2) ++ ((D13.flatMap eN2) ++ []))))) : List Ro) from mAl _ h)) (suba (fun r_ (h : r_ ∈ ((([((B17, c16), r_5)] : List (Hd × TMatrix)).flatMap eN2) : List Ro)) => mOd (i := 4) (show r_ ∈ (((((D11 ++ ([((B17, c16), r_5)] : List (Hd × TMatrix))).flatMap eN2) ++ ((([((B17, c16), r_5)] : List (Hd × TMatrix)).flatMap eN2) ++ ((D12.flatMap eN2) ++ ((D13.flatMap eN2) ++ []))))) : List Ro) from mAr _ (mAl _ h))) (suba (fun r_ (h : r_ ∈ ((D12.flatMap eN2) : List Ro)) => mOd (i := 4) (show r_ ∈ (((((D11 ++ ([((B17, c16), r_5)] : List (Hd × TMatrix))).flatMap eN2) ++ ((([((B17, c16), r_5)] : List (Hd × TMatrix)).flatMap eN2) ++ ((D12.flatMap eN2) ++ ((D13.flatMap eN2) ++ []))))) : List Ro) from mAr _ (mAr _ (mAl _ h)))) (suba (fun r_ (h : r_ ∈ ((D13.flatMap eN2) : List Ro)) => mOd (i := 4) (show r_ ∈ (((((D11 ++ ([((B17, c16), r_5)] : List (Hd × TMatrix))).flatMap eN2) ++ ((([((B17, c16), r_5)] : List (Hd × TMatrix)).flatMap eN2) ++ ((D12.flatMap eN2) ++ ((D13.flatMap eN2) ++ []))))) : List Ro) from mAr _ (mAr _ (mAr _ (mAl _ h))))) (fun _ h => by cases h))))))))))
       obtain ⟨hap1, hF6⟩ := chk_inv hF6
       refine sS 83 (Ys_append (s := 3) (by' := 40) (i := 1) (nn := next_1.length) (c := c10) (k := 1) (len := (next_1 ++ ([r_5] : List TMatrix)).length) (B := B10) (xs := (([((B17, c16), r_5)] : List (Hd × TMatrix)).flatMap eN4)) (cs' := ((D12 ++ ([((B17, c16), r_5)] : List (Hd × TMatrix))).flatMap eN4)) hS59 K37 K4 K92 K11 rfl (by decide) rfl rfl rfl rfl (fm_lenn (l := D12) encD_Matrix_len (dl_len hD12)) rfl (hS59.c 7) (fm_lenn (l := ([((B17, c16), r_5)] : List (Hd × TMatrix))) encD_Matrix_len rfl) (fm_one' (enc := eN4) encD_Matrix_one ([((B17, c16), r_5)] : List (Hd × TMatrix))) (by have := hap1; omega) (by have := hap1; simp only [maxLen]; omega) (fm_app _ _) (dl_sum (dl_len hD12) rfl (dl_app hD12 (show List.map Prod.snd ([((B17, c16), r_5)] : List (Hd × TMatrix)) = ([r_5] : List TMatrix) from rfl)))) ?_
       rintro _ w_33 ⟨B20, c19, rfl, hS60⟩
       have ho22 : Org w0 [] [] ((D12 ++ ([((B17, c16), r_5)] : List (Hd × TMatrix))).flatMap eN2) := (forg_app ho16 ho21)
       have hS61 : ST w0 [] _ [⟨B19, 50, ((D11 ++ ([((B17, c16), r_5)] : List (Hd × TMatrix))).flatMap eN4), c18 * 3⟩, ⟨B20, 50, ((D12 ++ ([((B17, c16), r_5)] : List (Hd × TMatrix))).flatMap eN4), c19 * 3⟩, ⟨aD b2, 50, kM_ x1 B7 c7, 3⟩, ⟨B16, 50, kM_ r_5 B17 c16, 3⟩, ⟨B4, 50, (D13.flatMap eN4), c4 * 3⟩, ⟨B8, 56, (r_2.flatMap eN0), c8 * 3⟩, ⟨aD b7, 50, (([((B17, c16), r_5)] : List (Hd × TMatrix)).flatMap eN4), 1 * 3⟩, ⟨aD b8, 50, (([((B17, c16), r_5)] : List (Hd × TMatrix)).flatMap eN4), 1 * 3⟩] (⟨B17, (r_5.Cells.flatMap eN1)⟩ :: ⟨B7, (x1.Cells.flatMap eN1)⟩ :: ⟨B1, (x.Cells.flatMap eN1)⟩ :: ⟨B, (r_1.Cells.flatMap eN1)⟩ :: (((D12 ++ ([((B17, c16), r_5)] : List (Hd × TMatrix))).flatMap eN2) ++ ((([((B17, c16), r_5)] : List (Hd × TMatrix)).flatMap eN2) ++ (((D11 ++ ([((B17, c16), r_5)] : List (Hd × TMatrix))).flatMap eN2) ++ ((([((B17, c16), r_5)] : List (Hd × TMatrix)).flatMap eN2) ++ ((D13.flatMap eN2) ++ [])))))) := ST.subR hS60 (sk 0 (sk 1 (sk 2 (sk 3 (suba (fsub_app (fun r_ (h : r_ ∈ ((D12.flatMap eN2) : List Ro)) => mOd (i := 4) (show r_ ∈ ((((([((B17, c16), r_5)] : List (Hd × TMatrix)).flatMap eN2) ++ (((D11 ++ ([((B17, c16), r_5)] : List (Hd × TMatrix))).flatMap eN2) ++ ((([((B17, c16), r_5)] : List (Hd × TMatrix)).flatMap eN2) ++ ((D12.flatMap eN2) ++ ((D13.flatMap eN2) ++ [])))))) : List Ro) from mAr _ (mAr _ (mAr _ (mAl _ h))))) (fun r_ (h : r_ ∈ ((([((B17, c16), r_5)] : List (Hd × TMatrix)).flatMap eN2) : List Ro)) => mOd (i := 4) (show r_ ∈ ((((([((B17, c16), r_5)] : List (Hd × TMatrix)).flatMap eN2) ++ (((D11 ++ ([((B17, c16), r_5)] : List (Hd × TMatrix))).flatMap eN2) ++ ((([((B17, c16), r_5)] : List (Hd × TMatrix)).flatMap eN2) ++ ((D12.flatMap eN2) ++ ((D13.flatMap eN2) ++ [])))))) : List Ro) from mAl _ h))) (suba (fun r_ (h : r_ ∈ ((([((B17, c16), r_5)] : List (Hd × TMatrix)).flatMap eN2) : List Ro)) => mOd (i := 4) (show r_ ∈ ((((([((B17, c16), r_5)] : List (Hd × TMatrix)).flatMap eN2) ++ (((D11 ++ ([((B17, c16), r_5)] : List (Hd × TMatrix))).flatMap eN2) ++ ((([((B17, c16), r_5)] : List (Hd × TMatrix)).flatMap eN2) ++ ((D12.flatMap eN2) ++ ((D13.flatMap eN2) ++ [])))))) : List Ro) from mAl _ h)) (suba (fun r_ (h : r_ ∈ (((D11 ++ ([((B17, c16), r_5)] : List (Hd × TMatrix))).flatMap eN2) : List Ro)) => mOd (i := 4) (show r_ ∈ ((((([((B17, c16), r_5)] : List (Hd × TMatrix)).flatMap eN2) ++ (((D11 ++ ([((B17, c16), r_5)] : List (Hd × TMatrix))).flatMap eN2) ++ ((([((B17, c16), r_5)] : List (Hd × TMatrix)).flatMap eN2) ++ ((D12.flatMap eN2) ++ ((D13.flatMap eN2) ++ [])))))) : List Ro) from mAr _ (mAl _ h))) (suba (fun r_ (h : r_ ∈ ((([((B17, c16), r_5)] : List (Hd × TMatrix)).flatMap eN2) : List Ro)) => mOd (i := 4) (show r_ ∈ ((((([((B17, c16), r_5)] : List (Hd × TMatrix)).flatMap eN2) ++ (((D11 ++ ([((B17, c16), r_5)] : List (Hd × TMatrix))).flatMap eN2) ++ ((([((B17, c16), r_5)] : List (Hd × TMatrix)).flatMap eN2) ++ ((D12.flatMap eN2) ++ ((D13.flatMap eN2) ++ [])))))) : List Ro) from mAr _ (mAr _ (mAl _ h)))) (suba (fun r_ (h : r_ ∈ ((D13.flatMap eN2) : List Ro)) => mOd (i := 4) (show r_ ∈ ((((([((B17, c16), r_5)] : List (Hd × TMatrix)).flatMap eN2) ++ (((D11 ++ ([((B17, c16), r_5)] : List (Hd × TMatrix))).flatMap eN2) ++ ((([((B17, c16), r_5)] : List (Hd × TMatrix)).flatMap eN2) ++ ((D12.flatMap eN2) ++ ((D13.flatMap eN2) ++ [])))))) : List Ro) from mAr _ (mAr _ (mAr _ (mAr _ (mAl _ h)))))) (fun _ h => by cases h))))))))))
       refine sQ 8 (yg (.slice B20 ((next_1 ++ ([r_5] : List TMatrix)).length) c19)) (rn ?_)
       have hS62 : ST w0 [] _ [⟨B19, 50, ((D11 ++ ([((B17, c16), r_5)] : List (Hd × TMatrix))).flatMap eN4), c18 * 3⟩, ⟨B20, 50, ((D12 ++ ([((B17, c16), r_5)] : List (Hd × TMatrix))).flatMap eN4), c19 * 3⟩, ⟨aD b2, 50, kM_ x1 B7 c7, 3⟩, ⟨B16, 50, kM_ r_5 B17 c16, 3⟩, ⟨B4, 50, (D13.flatMap eN4), c4 * 3⟩, ⟨B8, 56, (r_2.flatMap eN0), c8 * 3⟩, ⟨aD b7, 50, (([((B17, c16), r_5)] : List (Hd × TMatrix)).flatMap eN4), 1 * 3⟩, ⟨aD b8, 50, (([((B17, c16), r_5)] : List (Hd × TMatrix)).flatMap eN4), 1 * 3⟩] (⟨B7, (x1.Cells.flatMap eN1)⟩ :: ⟨B1, (x.Cells.flatMap eN1)⟩ :: ⟨B, (r_1.Cells.flatMap eN1)⟩ :: (((D11 ++ ([((B17, c16), r_5)] : List (Hd × TMatrix))).flatMap eN2) ++ (((D12 ++ ([((B17, c16), r_5)] : List (Hd × TMatrix))).flatMap eN2) ++ ((D13.flatMap eN2) ++ [])))) := ST.subR hS61 (sk 1 (sk 2 (sk 3 (suba (fun r_ (h : r_ ∈ (((D11 ++ ([((B17, c16), r_5)] : List (Hd × TMatrix))).flatMap eN2) : List Ro)) => mOd (i := 4) (show r_ ∈ (((((D12 ++ ([((B17, c16), r_5)] : List (Hd × TMatrix))).flatMap eN2) ++ ((([((B17, c16), r_5)] : List (Hd × TMatrix)).flatMap eN2) ++ (((D11 ++ ([((B17, c16), r_5)] : List (Hd × TMatrix))).flatMap eN2) ++ ((([((B17, c16), r_5)] : List (Hd × TMatrix)).flatMap eN2) ++ ((D13.flatMap eN2) ++ [])))))) : List Ro) from mAr _ (mAr _ (mAl _ h)))) (suba (fun r_ (h : r_ ∈ (((D12 ++ ([((B17, c16), r_5)] : List (Hd × TMatrix))).flatMap eN2) : List Ro)) => mOd (i := 4) (show r_ ∈ (((((D12 ++ ([((B17, c16), r_5)] : List (Hd × TMatrix))).flatMap eN2) ++ ((([((B17, c16), r_5)] : List (Hd × TMatrix)).flatMap eN2) ++ (((D11 ++ ([((B17, c16), r_5)] : List (Hd × TMatrix))).flatMap eN2) ++ ((([((B17, c16), r_5)] : List (Hd × TMatrix)).flatMap eN2) ++ ((D13.flatMap eN2) ++ [])))))) : List Ro) from mAl _ h)) (suba (fun r_ (h : r_ ∈ ((D13.flatMap eN2) : List Ro)) => mOd (i := 4) (show r_ ∈ (((((D12 ++ ([((B17, c16), r_5)] : List (Hd × TMatrix))).flatMap eN2) ++ ((([((B17, c16), r_5)] : List (Hd × TMatrix)).flatMap eN2) ++ (((D11 ++ ([((B17, c16), r_5)] : List (Hd × TMatrix))).flatMap eN2) ++ ((([((B17, c16), r_5)] : List (Hd × TMatrix)).flatMap eN2) ++ ((D13.flatMap eN2) ++ [])))))) : List Ro) from mAr _ (mAr _ (mAr _ (mAr _ (mAl _ h)))))) (fun _ h => by cases h)))))))
       exact ⟨(seen2 ++ ([r_5] : List TMatrix)), (next_1 ++ ([r_5] : List TMatrix)), B19, c18, (D11 ++ ([((B17, c16), r_5)] : List (Hd × TMatrix))), B20, c19, (D12 ++ ([((B17, c16), r_5)] : List (Hd × TMatrix))), D13, (sI hF6), (fc (hf5.g 0 0) (fc (hf5.g 1 1) (fc rfl (fc (hf5.g 7 3) (fc rfl (fc (hf5.g 10 5) (fc (hf5.g 35 8) (fc (hf5.g 36 9) (fc (hf5.g 37 10) (fc (hf5.g 42 11) (fc (hf5.g 43 12) (fc (hf5.g 44 13) fn_)))))))))))), (dl_app hD11 (show List.map Prod.snd ([((B17, c16), r_5)] : List (Hd × TMatrix)) = ([r_5] : List TMatrix) from rfl)), ho20, (dl_app hD12 (show List.map Prod.snd ([((B17, c16), r_5)] : List (Hd × TMatrix)) = ([r_5] : List TMatrix) from rfl)), ho22, hD13, ho17, (hS62.sel [0, 1, 2, 4, 5] rfl rfl)⟩
      ·skip
       have hF7 := cf' hF5 hb4
       refine cw_skip ?_
       exact ⟨seen2, next_1, B9, c9, D11, B10, c10, D12, D13, (sI hF7), (fc (hf5.g 0 0) (fc (hf5.g 1 1) (fc (hf5.g 5 2) (fc (hf5.g 7 3) (fc (hf5.g 8 4) (fc (hf5.g 10 5) (fc (hf5.g 35 8) (fc (hf5.g 36 9) (fc (hf5.g 37 10) (fc (hf5.g 42 11) (fc (hf5.g 43 12) (fc (hf5.g 44 13) fn_)))))))))))), hD11, ho15, hD12, ho16, hD13, ho17, (hS47.sel [0, 1, 2, 5, 6] rfl rfl)⟩
    rintro f w ⟨seen3, next_2, B11, c11, D8, B12, c12, D9, D10, rfl, hf3, hD8, ho12, hD9, ho13, hD10, ho14, hS21⟩
    refine cr ?_
    refine sQ 84 (yP (i2 : Int) 1 rfl (hf3.g 44 11)) <| sQ 44 (ym (vi (i64.wrap ((i2 : Int) + 1)))) (rn ?_)
    obtain rfl := sI hF4
    exact ⟨K51, Nat.lt_succ_self _, i2 + 1, seen3, next_2, B11, c11, D8, B12, c12, D9, D10, (fc (hf3.g 0 0) (fc (hf3.g 1 1) (fc (hf3.g 5 2) (fc (hf3.g 7 3) (fc (hf3.g 8 4) (fc (hf3.g 10 5) (fc (hf3.g 35 6) (fc (hf3.g 36 7) (fc (hf3.g 37 8) (fc (hf3.g 42 9) (fc (hf3.g 43 10) (fc (congrArg (Value.int .i64) (wr_succ hlt5 hN2)) fn_)))))))))))), hD8, ho12, hD9, ho13, hD10, ho14, (hS21.sel [0, 1, 2, 3, 4] rfl rfl), (by omega), hL5⟩
   ·skip
    obtain rfl : K71 = 0 := by have h := of_decide_eq_false hlt4; omega
    refine cw_exit rfl ?_
    obtain rfl := sI hL4
    refine cr ?_
    refine sQ 85 (yP (i1 : Int) 1 rfl (hf2.g 37 8)) <| sQ 37 (ym (vi (i64.wrap ((i1 : Int) + 1)))) (rn ?_)
    obtain rfl := sI hF3
    have hS63 : ST w0 [] _ [⟨B9, 50, (D5.flatMap eN4), c9 * 3⟩, ⟨B10, 50, (D6.flatMap eN4), c10 * 3⟩, ⟨aD b2, 50, kM_ x1 B7 c7, 3⟩, ⟨B4, 50, (D7.flatMap eN4), c4 * 3⟩, ⟨B8, 56, (r_2.flatMap eN0), c8 * 3⟩] (⟨B1, (x.Cells.flatMap eN1)⟩ :: ⟨B, (r_1.Cells.flatMap eN1)⟩ :: ((D5.flatMap eN2) ++ ((D6.flatMap eN2) ++ ((D7.flatMap eN2) ++ [])))) := ST.subR hS20 (sk 1 (sk 2 (suba (fun r_ (h : r_ ∈ ((D5.flatMap eN2) : List Ro)) => mOd (i := 3) (show r_ ∈ ((((D5.flatMap eN2) ++ ((D6.flatMap eN2) ++ ((D7.flatMap eN2) ++ [])))) : List Ro) from mAl _ h)) (suba (fun r_ (h : r_ ∈ ((D6.flatMap eN2) : List Ro)) => mOd (i := 3) (show r_ ∈ ((((D5.flatMap eN2) ++ ((D6.flatMap eN2) ++ ((D7.flatMap eN2) ++ [])))) : List Ro) from mAr _ (mAl _ h))) (suba (fun r_ (h : r_ ∈ ((D7.flatMap eN2) : List Ro)) => mOd (i := 3) (show r_ ∈ ((((D5.flatMap eN2) ++ ((D6.flatMap eN2) ++ ((D7.flatMap eN2) ++ [])))) : List Ro) from mAr _ (mAr _ (mAl _ h)))) (fun _ h => by cases h))))))
    exact ⟨K18, Nat.lt_succ_self _, i1 + 1, seen2, next_1, B9, c9, D5, B10, c10, D6, D7, (fc (hf2.g 0 0) (fc (hf2.g 1 1) (fc (hf2.g 5 2) (fc (hf2.g 7 3) (fc (hf2.g 8 4) (fc (hf2.g 35 6) (fc (hf2.g 36 7) (fc (congrArg (Value.int .i64) (wr_succ hlt3 hN1)) fn_)))))))), hD5, ho9, hD6, ho10, hD7, ho11, (hS63.sel [0, 1, 3] rfl rfl), (by omega), hL3⟩
  ·skip
   obtain rfl : K30 = 0 := by have h := of_decide_eq_false hlt2; omega
   refine cw_exit rfl ?_
   obtain rfl := sI hL2
   refine cr ?_
   refine sQ 86 (ym (.slice B6 next_.length c6) rfl (hf1.g 8 4)) <| sQ 6 (yg (.slice B6 next_.length c6)) (rn (cr ?_))
   refine sQ 33 (ym (vi (k_ : Int)) rfl (hf1.g 7 3)) <| sQ 34 (yP (k_ : Int) 1) <| sQ 7 (yg (vi (i64.wrap ((k_ : Int) + 1)))) (rn ?_)
   obtain rfl := sI hF2
   have hS64 : ST w0 [] _ [⟨B5, 50, (D2.flatMap eN4), c5 * 3⟩, ⟨B6, 50, (D3.flatMap eN4), c6 * 3⟩, ⟨B4, 50, (D4.flatMap eN4), c4 * 3⟩] (⟨B1, (x.Cells.flatMap eN1)⟩ :: ⟨B, (r_1.Cells.flatMap eN1)⟩ :: ((D2.flatMap eN2) ++ ((D3.flatMap eN2) ++ []))) := ST.subR hS13 (sk 0 (sk 1 (suba (fun r_ (h : r_ ∈ ((D2.flatMap eN2) : List Ro)) => mOd (i := 2) (show r_ ∈ ((((D2.flatMap eN2) ++ ((D3.flatMap eN2) ++ ((D4.flatMap eN2) ++ [])))) : List Ro) from mAl _ h)) (suba (fun r_ (h : r_ ∈ ((D3.flatMap eN2) : List Ro)) => mOd (i := 2) (show r_ ∈ ((((D2.flatMap eN2) ++ ((D3.flatMap eN2) ++ ((D4.flatMap eN2) ++ [])))) : List Ro) from mAr _ (mAl _ h))) (fun _ h => by cases h)))))
   exact ⟨K21, Nat.lt_succ_self _, k_ + 1, seen1, next_, B5, c5, D2, B6, c6, D3, (fc (hf1.g 0 0) (fc (hf1.g 1 1) (fc (hf1.g 5 2) (fc rfl (fc (congrArg (Value.int .i64) (wr_succ hlt1 hN)) fn_))))), hD2, ho6, hD3, ho7, (hS64.sel [0, 1] rfl rfl), (by omega), hL1⟩
 ·skip
  obtain rfl : K8 = 0 := by have h := of_decide_eq_false hlt; omega
  refine cw_exit rfl ?_
  obtain rfl := sI hL
  refine cq (cr ?_)
  refine sQ 87 (ym (.slice B4 level.length c4) rfl (hf.g 6 3)) <| sQ 88 (Y_len (B := B4) (m := level.length) (c := c4) K37 rfl rfl) <| sQ 4 (yg (vi (level.length : Int))) (rn (ct_ ?_))
  obtain rfl := sI hF1
  exact ret1 Tryz.results19 (v1 := vi (level.length : Int)) (resAt_tmp rfl) ⟨rfl, (hS11.sN [])⟩

theorem c_spec_TableSize (n : Int) (length : Int)  (w0 : World)  (hS : ST w0 [] w0 [] []) {r_ : Int} {r_1 : Bool} (hF : F_spec_TableSize n length = some (r_, r_1)) :
  CV Tryz.prog 11 #[vi n, vi length] w0 (fun v w' => v = .tuple #[vi r_, .bool r_1] ∧ ST w0 [] w' [] []) := by
 unfold F_spec_TableSize at hF
 refine cv_of_cw 20 Tryz.func11 rfl Tryz.ntmps11 rfl ?_
 refine cq (cr ?_)
 refine sQ 4 (yg (vi 0)) <| sQ 5 (yg (.bool false)) (rn (cq (cq (cr ?_))))
 refine sQ 6 (ym (vi n)) ?_
 obtain ⟨r_2, hc, hF⟩ := bI hF
 refine sc 7 rfl rfl (yC [vi n, vi 1, vi 2] K90 (c_spec_l1In n 1 2 _  (hS.inn0 [] rfl) hc)) ?_
 rintro _ w_ ⟨rfl, hd⟩
 have hS1 := hS.out00 hd
 refine sQ 8 (Y_not (p := r_2) rfl rfl) <| sQ 9 (ym (.bool (!r_2))) ?_
 refine sgq 10 (B := (!(!r_2))) (v := vi length) rfl rfl (uF_ 9) (fun hg => (ym (vi length))) ?_
 refine sgq 11 (B := (!(!r_2))) (v := vi n) rfl rfl (uF_ 9) (fun hg1 => (ym (vi n))) ?_
 refine sgq 12 (B := (!(!r_2))) (v := vi (i64.wrap (3 * n))) rfl rfl (uF_ 9) (fun hg2 => (yX 3 n rfl rfl (gv_of (v := vi n) hg2))) ?_
 refine sgq 13 (B := (!(!r_2))) (v := vi (i64.wrap (9 - (i64.wrap (3 * n))))) rfl rfl (uF_ 9) (fun hg3 => (yM 9 (i64.wrap (3 * n)) rfl rfl (gv_of (v := vi (i64.wrap (3 * n))) hg3))) ?_
 obtain ⟨r_3, hc1, hF⟩ := bI hF
 refine sgc 14 (B := (!(!r_2))) (v := .bool r_3) (F := hS1.fn) rfl rfl (uF_ 9) hS1 (fun hg4 => (yC [vi length, vi 0, vi (i64.wrap (9 - (i64.wrap (3 * n))))] K90 (CV.mono (c_spec_l1In length 0 (i64.wrap (9 - (i64.wrap (3 * n)))) _  (hS1.inn0 [] rfl) (gb_inv hc1 hg4)) (by rintro _ _ ⟨rfl, h⟩; exact ⟨rfl, hS1.out00 h⟩)) rfl (mc (gv_of (v := vi length) hg4) (mc rfl (mc (gv_of (v := vi (i64.wrap (9 - (i64.wrap (3 * n))))) hg4) mn))))) ?_
 rintro w_1 hS2
 refine sgq 15 (B := (!(!r_2))) (v := .bool (!r_3)) rfl rfl (uF_ 9) (fun hg5 => (Y_not (p := r_3) rfl (gv_of (v := .bool r_3) hg5))) ?_
 refine sQ 16 (Y_or (b := (!r_2)) (z := (!r_3)) rfl rfl rfl rfl) (rn ?_)
 refine cw_cond (b := ((!r_2) || (!r_3))) rfl (fun hb => ?_) (fun hb => ?_)
 ·skip
  have hF1 := ct hF hb
  refine cq (cr ?_)
  refine sQ 4 (yg (vi 0)) <| sQ 5 (yg (.bool false)) (rn (ct_ ?_))
  obtain ⟨rfl, rfl⟩ := pr2 (sI hF1)
  exact ret2 Tryz.results11 (v1 := vi 0) (resAt_tmp rfl) (v2 := .bool false) (resAt_tmp rfl) ⟨rfl, (hS2.sN [])⟩
 ·skip
  have hF2 := cf' hF hb
  refine cw_skip (cq (cr ?_))
  refine sQ 17 (ym (vi n)) <| sQ 18 (ym (vi length)) ?_
  obtain ⟨r_4, hc2, hF2⟩ := bI hF2
  refine sc 19 rfl rfl (yC [vi n, vi length] k_call_19 (c_spec_l28Size n length _  (hS2.inn0 [] rfl) hc2)) ?_
  rintro _ w_2 ⟨rfl, hd1⟩
  have hS3 := hS2.out00 hd1
  refine sQ 4 (yg (vi r_4)) <| sQ 5 (yg (.bool true)) (rn (ct_ ?_))
  obtain ⟨rfl, rfl⟩ := pr2 (sI hF2)
  exact ret2 Tryz.results11 (v1 := vi r_4) (resAt_tmp rfl) (v2 := .bool true) (resAt_tmp rfl) ⟨rfl, (hS3.sN [])⟩

theorem c_impl_within (n : Int) (low : Int) (high : Int)  (w0 : World)  (hS : ST w0 [] w0 [] []) {r_ : Bool} (hF : F_impl_within n low high = some r_) :
  CV Tryz.prog 20 #[vi n, vi low, vi high] w0 (fun v w' => v = .bool r_ ∧ ST w0 [] w' [] []) := by
 unfold F_impl_within at hF
 refine cv_of_cw 15 Tryz.func20 rfl Tryz.ntmps20 rfl ?_
 refine cq (cr ?_)
 refine sQ 6 (yg (.bool false)) (rn (cq (cr ?_)))
 refine sQ 7 (ym (vi low)) <| sQ 8 (ym (vi n)) <| sQ 9 (Y_le (k := .i64) (a := low) (b := n) rfl rfl rfl) <| sQ 10 (ym (.bool (decide (low ≤ n)))) ?_
 refine sgq 11 (B := (decide (low ≤ n))) (v := vi n) rfl rfl (uT_ 10) (fun hg => (ym (vi n))) ?_
 refine sgq 12 (B := (decide (low ≤ n))) (v := vi high) rfl rfl (uT_ 10) (fun hg1 => (ym (vi high))) ?_
 refine sgq 13 (B := (decide (low ≤ n))) (v := .bool (decide (n ≤ high))) rfl rfl (uT_ 10) (fun hg2 => (Y_le (k := .i64) (a := n) (b := high) rfl (gv_of (v := vi n) hg2) (gv_of (v := vi high) hg2))) ?_
 refine sQ 14 (Y_and (b := (decide (low ≤ n))) (z := (decide (n ≤ high))) rfl rfl rfl rfl) <| sQ 6 (yg (.bool ((decide (low ≤ n)) && (decide (n ≤ high))))) (rn (ct_ ?_))
 obtain rfl := sI hF
 exact ret1 Tryz.results20 (v1 := .bool ((decide (low ≤ n)) && (decide (n ≤ high)))) (resAt_tmp rfl) ⟨rfl, (hS.sN [])⟩

theorem c_impl_isDim (n : Int)  (w0 : World)  (hS : ST w0 [] w0 [] []) {r_ : Bool} (hF : F_impl_isDim n = some r_) :
  CV Tryz.prog 88 #[vi n] w0 (fun v w' => v = .bool r_ ∧ ST w0 [] w' [] []) := by
 unfold F_impl_isDim at hF
 refine cv_of_cw 12 Tryz.func88 rfl Tryz.ntmps88 rfl ?_
 refine cq (cr ?_)
 refine sQ 2 (yg (.bool false)) (rn (cq (cr ?_)))
 refine sQ 3 (ym (vi n)) ?_
 obtain ⟨r_1, hc, hF⟩ := bI hF
 refine sc 4 rfl rfl (yC [vi n, vi 1, vi 32] K38 (c_impl_within n 1 32 _  (hS.inn0 [] rfl) hc)) ?_
 rintro _ w_ ⟨rfl, hd⟩
 have hS1 := hS.out00 hd
 refine sQ 5 (ym (.bool r_1)) ?_
 refine sgq 6 (B := r_1) (v := vi n) rfl rfl (uT_ 5) (fun hg => (ym (vi n))) ?_
 refine sgq 7 (B := r_1) (v := vi n) rfl rfl (uT_ 5) (fun hg1 => (ym (vi n))) ?_
 refine sgq 8 (B := r_1) (v := vi (i64.wrap (n - 1))) rfl rfl (uT_ 5) (fun hg2 => (yM n 1 rfl (gv_of (v := vi n) hg2))) ?_
 refine sgq 9 (B := r_1) (v := vi (bits .and .i64 n (i64.wrap (n - 1)))) rfl rfl (uT_ 5) (fun hg3 => (Y_band (k := .i64) (a := n) (b := (i64.wrap (n - 1))) rfl (gv_of (v := vi n) hg3) (gv_of (v := vi (i64.wrap (n - 1))) hg3))) ?_
 refine sgq 10 (B := r_1) (v := .bool ((bits .and .i64 n (i64.wrap (n - 1))) == 0)) rfl rfl (uT_ 5) (fun hg4 => (yE (bits .and .i64 n (i64.wrap (n - 1))) 0 rfl (gv_of (v := vi (bits .and .i64 n (i64.wrap (n - 1)))) hg4))) ?_
 refine sQ 11 (Y_and (b := r_1) (z := ((bits .and .i64 n (i64.wrap (n - 1))) == 0)) rfl rfl rfl rfl) <| sQ 2 (yg (.bool (r_1 && ((bits .and .i64 n (i64.wrap (n - 1))) == 0)))) (rn (ct_ ?_))
 obtain rfl := sI hF
 exact ret1 Tryz.results88 (v1 := .bool (r_1 && ((bits .and .i64 n (i64.wrap (n - 1))) == 0))) (resAt_tmp rfl) ⟨rfl, (hS1.sN [])⟩

theorem c_impl_matrixOf (rows : Int) (cols : Int) (cell : Int → Int → Option (TDyadic × Bool)) (kf : Nat) (caps : Array Value) (Rf : List Ro) (w0 : World) (hk : callB Tryz.prog kf = true) (hp : ∀ (w : World), ST w [] w [] Rf → ∀ (x : Int) (x1 : Int) (y1 : TDyadic) (y2 : Bool), cell x x1 = some (y1, y2) → CV Tryz.prog kf ((vi x) :: (vi x1) :: caps.toList).toArray w (fun v w' => v = .tuple #[gD_ y1, .bool y2] ∧ ST w [] w' [] [])) (hS : ST w0 [] w0 [] (Rf)) {r_ : TMatrix} {r_1 : Bool} (hF : F_impl_matrixOf rows cols cell = some (r_, r_1)) :
  CV Tryz.prog 54 #[vi rows, vi cols, .func (.func kf) #[] caps] w0 (fun v w' => ∃ (B : Option Addr) (c : Nat), v = .tuple #[gM_ r_ B c, .bool r_1] ∧ ST w0 [] w' [⟨B, 91, (r_.Cells.flatMap eN1), c * 5⟩] []) := by
 unfold F_impl_matrixOf at hF
 refine cv_of_cw 52 Tryz.func54 rfl Tryz.ntmps54 rfl ?_
 refine cq (cr ?_)
 refine sS 6 (yN kN_ 3 hS K11) ?_
 rintro _ w_ ⟨b, rfl, hS1⟩
 refine sQ 7 (yg (.bool false)) (rn (cq (cr ?_)))
 refine sQ 13 (ym (vi rows)) <| sQ 14 (ym (vi cols)) <| sQ 15 (Y_buildS (zs := kN_) (vs := [(0, vi rows), (1, vi cols)]) (cs := [vi rows, vi cols, .slice none 0 0]) K39 K11 rfl (mpc rfl (mpc rfl mpn)) rfl) ?_
 refine sS 8 (yN kN_ 3 hS1 K11) ?_
 rintro _ w_1 ⟨b1, rfl, hS2⟩
 refine s0 (yT 1 3 (aD b1) 50 (.agg #[vi rows, vi cols, .slice none 0 0]) [vi rows, vi cols, .slice none 0 0] 0 hS2 K4) ?_
 rintro _ w_2 ⟨rfl, hS3⟩
 refine rn (cq (cq (cr ?_)))
 refine sQ 16 (ym (vi rows)) ?_
 obtain ⟨r_2, hc, hF⟩ := bI hF
 refine sc 17 rfl rfl (yC [vi rows] K77 (c_impl_isDim rows _  (hS3.inn0 [] rfl) hc)) ?_
 rintro _ w_3 ⟨rfl, hd⟩
 have hS4 := hS3.out00 hd
 refine sQ 18 (Y_not (p := r_2) rfl rfl) <| sQ 19 (ym (.bool (!r_2))) ?_
 refine sgq 20 (B := (!(!r_2))) (v := vi cols) rfl rfl (uF_ 19) (fun hg => (ym (vi cols))) ?_
 obtain ⟨r_3, hc1, hF⟩ := bI hF
 refine sgc 21 (B := (!(!r_2))) (v := .bool r_3) (F := hS4.fn) rfl rfl (uF_ 19) hS4 (fun hg1 => (yC [vi cols] K77 (CV.mono (c_impl_isDim cols _  (hS4.inn0 [] rfl) (gb_inv hc1 hg1)) (by rintro _ _ ⟨rfl, h⟩; exact ⟨rfl, hS4.out00 h⟩)) rfl (mc (gv_of (v := vi cols) hg1) mn))) ?_
 rintro w_4 hS5
 refine sgq 22 (B := (!(!r_2))) (v := .bool (!r_3)) rfl rfl (uF_ 19) (fun hg2 => (Y_not (p := r_3) rfl (gv_of (v := .bool r_3) hg2))) ?_
 refine sQ 23 (Y_or (b := (!r_2)) (z := (!r_3)) rfl rfl rfl rfl) (rn ?_)
 refine cw_cond (b := ((!r_2) || (!r_3))) rfl (fun hb => ?_) (fun hb => ?_)
 ·skip
  have hF1 := ct hF hb
  refine cq (cr ?_)
  refine sQ 24 (Y_buildS (zs := kN_) (vs := []) (cs := kN_) K39 K11 rfl mpn rfl) ?_
  refine s0 (yT 0 3 (aD b) 50 gN_ kN_ 0 hS5 K4) ?_
  rintro _ w_5 ⟨rfl, hS6⟩
  refine sQ 7 (yg (.bool false)) (rn (ct_ ?_))
  have hS7 := hS6.addNil 91
  obtain ⟨rfl, rfl⟩ := pr2 (sI hF1)
  exact ret2 Tryz.results54 (v1 := gN_) (resAt_cellA (B := aD b) (i := 0) (cs := kN_) (vs := kN_) rfl K9 K4 (hS7.c 0) rfl rfl) (v2 := .bool false) (resAt_tmp rfl) ⟨none, 0, rfl, (hS7.sN [2])⟩
 ·skip
  have hF2 := cf' hF hb
  refine cw_skip (cq (cq (cr ?_)))
  refine sQ 25 (ym (vi rows)) <| sQ 26 (ym (vi 0)) (rn ?_)
  obtain ⟨hN, hF2⟩ := chk_inv hF2
  obtain ⟨z, hz, hF3⟩ := bI hF2
  have hS9 := hS5.addNil 91
  refine cw_block ?_
  refine cw_loop (fun k f w => ∃ (i : Nat) (Cells : List TDyadic) (B1 : Option Addr) (c1 : Nat), FF f [(1, vi cols), (2, .func (.func kf) #[] caps), (6, pt (aD b) 0), (8, pt (aD b1) 0), (25, vi rows), (26, vi (i : Int))] ∧ ST w0 [] w [⟨aD b, 50, kN_, 3⟩, ⟨aD b1, 50, [vi rows, vi cols, .slice B1 Cells.length c1], 3⟩, ⟨B1, 91, (Cells.flatMap eN1), c1 * 5⟩] (Rf) ∧ i + k = rows.toNat ∧ forX (F_impl_matrixOf_l1 cols cell) k i Cells = some z) rows.toNat ⟨0, [], none, 0, (fc rfl (fc rfl (fc rfl (fc rfl (fc rfl (fc rfl fn_)))))), (hS9.sel [0, 1, 2] rfl rfl), Nat.zero_add _, hz⟩ ?_
  rintro k_ f w ⟨i, Cells, B1, c1, hf, hS8, hik, hL⟩
  refine cq (cr ?_)
  refine sQ 27 (yL (i : Int) rows rfl (hf.g 26 5) (hf.g 25 4)) (rn (cq ?_))
  refine cw_cond (b := (decide ((i : Int) < rows))) rfl (fun hlt => ?_) (fun hlt => ?_)
  ·skip
   have hlt1 : i < rows.toNat := by have h := of_decide_eq_true hlt; omega
   obtain ⟨K8, rfl⟩ : ∃ k2, k_ = k2 + 1 := ⟨k_ - 1, by omega⟩
   obtain ⟨y3, hb1, hL1⟩ := forX_go hL
   unfold F_impl_matrixOf_l1 at hb1
   refine cw_skip (cq (cw_block (cq (cr ?_))))
   refine sQ 28 (ym (vi (i : Int)) rfl (hf.g 26 5)) <| sQ 9 (yg (vi (i : Int))) (rn (cq (cr ?_)))
   refine sQ 29 (ym (vi cols) rfl (hf.g 1 0)) <| sQ 30 (ym (vi 0)) (rn ?_)
   obtain ⟨hN1, hb1⟩ := chk_inv hb1
   obtain ⟨z1, hz1, hF4⟩ := bI hb1
   refine cw_block ?_
   refine cw_loop (fun k f w => ∃ (i1 : Nat) (Cells1 : List TDyadic) (B2 : Option Addr) (c2 : Nat), FF f [(1, vi cols), (2, .func (.func kf) #[] caps), (6, pt (aD b) 0), (8, pt (aD b1) 0), (9, vi (i : Int)), (25, vi rows), (26, vi (i : Int)), (29, vi cols), (30, vi (i1 : Int))] ∧ ST w0 [] w [⟨aD b, 50, kN_, 3⟩, ⟨aD b1, 50, [vi rows, vi cols, .slice B2 Cells1.length c2], 3⟩, ⟨B2, 91, (Cells1.flatMap eN1), c2 * 5⟩] (Rf) ∧ i1 + k = cols.toNat ∧ forX (F_impl_matrixOf_l2 cell i) k i1 Cells1 = some z1) cols.toNat ⟨0, Cells, B1, c1, (fc (hf.g 1 0) (fc (hf.g 2 1) (fc (hf.g 6 2) (fc (hf.g 8 3) (fc rfl (fc (hf.g 25 4) (fc (hf.g 26 5) (fc rfl (fc rfl fn_))))))))), (hS8.sel [0, 1, 2] rfl rfl), Nat.zero_add _, hz1⟩ ?_
   rintro K21 f w ⟨i1, Cells1, B2, c2, hf1, hS10, hik1, hL2⟩
   refine cq (cr ?_)
   refine sQ 31 (yL (i1 : Int) cols rfl (hf1.g 30 8) (hf1.g 29 7)) (rn (cq ?_))
   refine cw_cond (b := (decide ((i1 : Int) < cols))) rfl (fun hlt2 => ?_) (fun hlt2 => ?_)
   ·skip
    have hlt3 : i1 < cols.toNat := by have h := of_decide_eq_true hlt2; omega
    obtain ⟨K30, rfl⟩ : ∃ k2, K21 = k2 + 1 := ⟨K21 - 1, by omega⟩
    obtain ⟨y4, hb2, hL3⟩ := forX_go hL2
    unfold F_impl_matrixOf_l2 at hb2
    refine cw_skip (cq (cw_block (cq (cr ?_))))
    refine sQ 32 (ym (vi (i1 : Int)) rfl (hf1.g 30 8)) <| sQ 10 (yg (vi (i1 : Int))) (rn (cq (cr ?_)))
    refine sQ 34 (ym (.func (.func kf) #[] caps) rfl (hf1.g 2 1)) <| sQ 35 (ym (vi (i : Int)) rfl (hf1.g 9 4)) <| sQ 36 (ym (vi (i1 : Int))) ?_
    obtain ⟨⟨r_4, r_5⟩, hc2, hb2⟩ := bI hb2
    refine sc 37 rfl rfl (Yc_clos (g := kf) (vs := (vi (i : Int)) :: (vi (i1 : Int)) :: caps.toList) hk rfl rfl (clo_args (mc rfl (mc rfl mn))) (hp _ (hS10.innS (fun _ h => mOd (i := 0) h)) (i : Int) (i1 : Int) r_4 r_5 hc2)) ?_
    rintro _ w_6 ⟨rfl, hd1⟩
    have hS11 := hS10.out00 hd1
    refine sQ 33 (ym (.tuple #[gD_ r_4, .bool r_5])) <| sQ 38 (ye (gD_ r_4)) <| sQ 39 (ye (.bool r_5)) ?_
    refine sS 11 (yN kZ_ 5 hS11 K7) ?_
    rintro _ w_7 ⟨b2, rfl, hS12⟩
    refine s0 (yT 3 5 (aD b2) 91 (gD_ r_4) (kD_ r_4) 0 hS12 K2) ?_
    rintro _ w_8 ⟨rfl, hS13⟩
    refine sQ 12 (yg (.bool r_5)) (rn (cq (cq (cr ?_))))
    refine sQ 40 (ym (.bool r_5)) <| sQ 41 (Y_not (p := r_5) rfl rfl) (rn ?_)
    refine cw_cond (b := (!r_5)) rfl (fun hb3 => ?_) (fun hb3 => ?_)
    ·skip
     have hF5 := ct hb2 hb3
     refine cq (cr ?_)
     refine sQ 42 (Y_buildS (zs := kN_) (vs := []) (cs := kN_) K39 K11 rfl mpn rfl) ?_
     refine s0 (yT 0 3 (aD b) 50 gN_ kN_ 0 hS13 K4 rfl (hf1.g 6 2)) ?_
     rintro _ w_9 ⟨rfl, hS14⟩
     refine sQ 7 (yg (.bool false)) (rn (ct_ ?_))
     have hS15 := hS14.addNil 91
     obtain rfl := sI hF5
     obtain rfl := sI hL3
     obtain rfl := sI hF4
     obtain rfl := sI hL1
     obtain ⟨rfl, rfl⟩ := pr2 (sI hF3)
     exact ret2 Tryz.results54 (v1 := gN_) (resAt_cellA (B := aD b) (i := 0) (cs := kN_) (vs := kN_) (hf1.g 6 2) K9 K4 (hS15.c 0) rfl rfl) (v2 := .bool false) (resAt_tmp rfl) ⟨none, 0, rfl, (hS15.sN [4])⟩
    ·skip
     have hF6 := cf' hb2 hb3
     refine cw_skip (cr ?_)
     refine sQ 43 (yd (aD b1) 0 0 K22 K17 rfl (hf1.g 8 3)) <| sQ 44 (yl (aD b1) 2 [vi rows, vi cols, .slice B2 Cells1.length c2] (.slice B2 Cells1.length c2) K25 (hS13.c 1)) <| sQ 45 (yb (aD b2) 0 (kD_ r_4) K5 K2 (hS13.c 3)) ?_
     refine sS 46 (Ys_bslice (s := 5) (len := 1) (vs := [(0, gD_ r_4)]) (cs := kD_ r_4) (zs := kZ_) (m := 5) hS13 K13 K2 K40 rfl (mpc rfl mpn) rfl rfl rfl (by kernel_rfl) (by kernel_rfl) rfl) ?_
     rintro _ w_10 ⟨b3, rfl, hS16⟩
     obtain ⟨hap, hF6⟩ := chk_inv hF6
     refine sS 47 (Ys_append (s := 5) (by' := 40) (i := 2) (nn := Cells1.length) (c := c2) (k := 1) (len := (Cells1 ++ [r_4]).length) (B := B2) (xs := ([r_4].flatMap eN1)) (cs' := ((Cells1 ++ [r_4]).flatMap eN1)) hS16 K13 K2 K46 K7 rfl (by decide) rfl rfl rfl rfl (fm_lenn (l := Cells1) enc_Dyadic_len rfl) rfl (hS16.c 4) (fm_lenn (l := [r_4]) enc_Dyadic_len rfl) (fm_one' (enc := eN1) enc_Dyadic_one [r_4]) (by have := hap; omega) (by have := hap; simp only [maxLen]; omega) (fm_app _ _) (app_len (l := Cells1) (l' := [r_4]) rfl rfl)) ?_
     rintro _ w_11 ⟨B3, c3, rfl, hS17⟩
     refine sQ 48 (yd (aD b1) 0 0 K22 K17 rfl (hf1.g 8 3)) ?_
     refine s0 (yS 1 1 (aD b1) 50 (.slice B3 ((Cells1 ++ [r_4]).length) c3) [.slice B3 ((Cells1 ++ [r_4]).length) c3] 2 [vi rows, vi cols, .slice B3 ((Cells1 ++ [r_4]).length) c3] hS17 K17) ?_
     rintro _ w_12 ⟨rfl, hS18⟩
     refine rn (cr ?_)
     refine sQ 49 (yP (i1 : Int) 1 rfl (hf1.g 30 8)) <| sQ 30 (ym (vi (i64.wrap ((i1 : Int) + 1)))) (rn ?_)
     obtain rfl := sI hF6
     exact ⟨K30, Nat.lt_succ_self _, i1 + 1, (Cells1 ++ [r_4]), B3, c3, (fc (hf1.g 1 0) (fc (hf1.g 2 1) (fc (hf1.g 6 2) (fc (hf1.g 8 3) (fc (hf1.g 9 4) (fc (hf1.g 25 5) (fc (hf1.g 26 6) (fc (hf1.g 29 7) (fc (congrArg (Value.int .i64) (wr_succ hlt3 hN1)) fn_))))))))), (hS18.sel [0, 1, 2] rfl rfl), (by omega), hL3⟩
   ·skip
    obtain rfl : K21 = 0 := by have h := of_decide_eq_false hlt2; omega
    refine cw_exit rfl ?_
    obtain rfl := sI hL2
    refine cr ?_
    refine sQ 50 (yP (i : Int) 1 rfl (hf1.g 26 6)) <| sQ 26 (ym (vi (i64.wrap ((i : Int) + 1)))) (rn ?_)
    obtain rfl := sI hF4
    exact ⟨K8, Nat.lt_succ_self _, i + 1, Cells1, B2, c2, (fc (hf1.g 1 0) (fc (hf1.g 2 1) (fc (hf1.g 6 2) (fc (hf1.g 8 3) (fc (hf1.g 25 5) (fc (congrArg (Value.int .i64) (wr_succ hlt1 hN)) fn_)))))), (hS10.sel [0, 1, 2] rfl rfl), (by omega), hL1⟩
  ·skip
   obtain rfl : k_ = 0 := by have h := of_decide_eq_false hlt; omega
   refine cw_exit rfl ?_
   obtain rfl := sI hL
   refine cq (cr ?_)
   refine sQ 51 (yb (aD b1) 0 [vi rows, vi cols, .slice B1 Cells.length c1] K9 K4 (hS8.c 1) rfl (hf.g 8 3)) ?_
   refine s0 (yT 0 3 (aD b) 50 (.agg #[vi rows, vi cols, .slice B1 Cells.length c1]) [vi rows, vi cols, .slice B1 Cells.length c1] 0 hS8 K4 rfl (hf.g 6 2)) ?_
   rintro _ w_13 ⟨rfl, hS19⟩
   refine sQ 7 (yg (.bool true)) (rn (ct_ ?_))
   obtain ⟨rfl, rfl⟩ := pr2 (sI hF3)
   exact ret2 Tryz.results54 (v1 := .agg #[vi rows, vi cols, .slice B1 Cells.length c1]) (resAt_cellA (B := aD b) (i := 0) (cs := [vi rows, vi cols, .slice B1 Cells.length c1]) (vs := [vi rows, vi cols, .slice B1 Cells.length c1]) (hf.g 6 2) K9 K4 (hS19.c 0) rfl rfl) (v2 := .bool true) (resAt_tmp rfl) ⟨B1, c1, rfl, (hS19.sN [2])⟩

theorem c_impl_whole (n : Int)  (w0 : World)  (hS : ST w0 [] w0 [] []) {r_ : TDyadic} (hF : F_impl_whole n = some r_) :
  CV Tryz.prog 56 #[vi n] w0 (fun v w' => v = (gD_ r_) ∧ ST w0 [] w' [] []) := by
 unfold F_impl_whole at hF
 refine cv_of_cw 6 Tryz.func56 rfl Tryz.ntmps56 rfl ?_
 refine cq (cr ?_)
 refine sS 2 (yN kZ_ 5 hS K7) ?_
 rintro _ w_ ⟨b, rfl, hS1⟩
 refine rn (cq (cr ?_))
 refine sQ 3 (ym (vi n)) <| sQ 4 (Y_buildS (zs := [vi 0, vi 0, vi 0, vi 0]) (vs := [(0, vi n)]) (cs := [vi n, vi 0, vi 0, vi 0]) K29 K10 rfl (mpc rfl mpn) rfl) <| sQ 5 (Y_buildS (zs := kZ_) (vs := [(0, .agg #[vi n, vi 0, vi 0, vi 0])]) (cs := [vi n, vi 0, vi 0, vi 0, vi 0]) K20 K7 rfl (mpc rfl mpn) rfl) ?_
 refine s0 (yT 0 5 (aD b) 91 (.agg #[vi n, vi 0, vi 0, vi 0, vi 0]) [vi n, vi 0, vi 0, vi 0, vi 0] 0 hS1 K2) ?_
 rintro _ w_1 ⟨rfl, hS2⟩
 refine rn (ct_ ?_)
 obtain rfl := sI hF
 exact ret1 Tryz.results56 (v1 := .agg #[vi n, vi 0, vi 0, vi 0, vi 0]) (resAt_cellA (B := aD b) (i := 0) (cs := [vi n, vi 0, vi 0, vi 0, vi 0]) (vs := [vi n, vi 0, vi 0, vi 0, vi 0]) rfl K5 K2 (hS2.c 0) rfl rfl) ⟨rfl, (hS2.sN [])⟩

theorem c_impl_IdentityMatrix_1 (i : Int) (j : Int)  (w0 : World)  (hS : ST w0 [] w0 [] []) {r_ : TDyadic} {r_1 : Bool} (hF : F_impl_IdentityMatrix_1 i j = some (r_, r_1)) :
  CV Tryz.prog 55 #[vi i, vi j] w0 (fun v w' => v = .tuple #[gD_ r_, .bool r_1] ∧ ST w0 [] w' [] []) := by
 unfold F_impl_IdentityMatrix_1 at hF
 refine cv_of_cw 11 Tryz.func55 rfl Tryz.ntmps55 rfl ?_
 refine cq (cr ?_)
 refine sS 4 (yN kZ_ 5 hS K7) ?_
 rintro _ w_ ⟨b, rfl, hS1⟩
 refine sQ 5 (yg (.bool false)) (rn (cq (cq (cr ?_))))
 refine sQ 6 (ym (vi i)) <| sQ 7 (ym (vi j)) <| sQ 8 (yE i j) (rn ?_)
 refine cw_cond (b := (i == j)) rfl (fun hb => ?_) (fun hb => ?_)
 ·skip
  have hF1 := ct hF hb
  refine cq (cr ?_)
  obtain ⟨r_2, hc, hF1⟩ := bI hF1
  refine sc 9 rfl rfl (yC [vi 1] K94 (c_impl_whole 1 _  (hS1.inn0 [] rfl) hc)) ?_
  rintro _ w_1 ⟨rfl, hd⟩
  have hS2 := hS1.out00 hd
  refine s0 (yT 0 5 (aD b) 91 (gD_ r_2) (kD_ r_2) 0 hS2 K2) ?_
  rintro _ w_2 ⟨rfl, hS3⟩
  refine sQ 5 (yg (.bool true)) (rn (ct_ ?_))
  obtain ⟨rfl, rfl⟩ := pr2 (sI hF1)
  exact ret2 Tryz.results55 (v1 := gD_ r_2) (resAt_cellA (B := aD b) (i := 0) (cs := kD_ r_2) (vs := kD_ r_2) rfl K5 K2 (hS3.c 0) rfl rfl) (v2 := .bool true) (resAt_tmp rfl) ⟨rfl, (hS3.sN [])⟩
 ·skip
  have hF2 := cf' hF hb
  refine cw_skip (cq (cr ?_))
  refine sQ 10 (Y_buildS (zs := kZ_) (vs := []) (cs := kZ_) K20 K7 rfl mpn rfl) ?_
  refine s0 (yT 0 5 (aD b) 91 gZ_ kZ_ 0 hS1 K2) ?_
  rintro _ w_3 ⟨rfl, hS4⟩
  refine sQ 5 (yg (.bool true)) (rn (ct_ ?_))
  obtain ⟨rfl, rfl⟩ := pr2 (sI hF2)
  exact ret2 Tryz.results55 (v1 := gZ_) (resAt_cellA (B := aD b) (i := 0) (cs := kZ_) (vs := kZ_) rfl K5 K2 (hS4.c 0) rfl rfl) (v2 := .bool true) (resAt_tmp rfl) ⟨rfl, (hS4.sN [])⟩

theorem c_impl_IdentityMatrix (n : Int)  (w0 : World)  (hS : ST w0 [] w0 [] []) {r_ : TMatrix} {r_1 : Bool} (hF : F_impl_IdentityMatrix n = some (r_, r_1)) :
  CV Tryz.prog 34 #[vi n] w0 (fun v w' => ∃ (B : Option Addr) (c : Nat), v = .tuple #[gM_ r_ B c, .bool r_1] ∧ ST w0 [] w' [⟨B, 91, (r_.Cells.flatMap eN1), c * 5⟩] []) := by
 unfold F_impl_IdentityMatrix at hF
 refine cv_of_cw 9 Tryz.func34 rfl Tryz.ntmps34 rfl ?_
 refine cq (cr ?_)
 refine sS 2 (yN kN_ 3 hS K11) ?_
 rintro _ w_ ⟨b, rfl, hS1⟩
 refine sQ 3 (yg (.bool false)) (rn (cq (cr ?_)))
 refine sQ 4 (ym (vi n)) <| sQ 5 (ym (vi n)) ?_
 obtain ⟨⟨r_2, r_3⟩, hc, hF⟩ := bI hF
 refine sc 6 rfl rfl (yC [vi n, vi n, .func (.func 55) #[] #[]] K78 (c_impl_matrixOf n n F_impl_IdentityMatrix_1 55 (#[]) [] _ k_call_55 (fun w hw x_0 x_1 y_0 y_1 h_ => c_impl_IdentityMatrix_1 x_0 x_1  w  hw h_) (hS1.inn0 [] rfl) hc)) ?_
 rintro _ w_1 ⟨B1, c1, rfl, hd⟩
 have hS2 := hS1.out0 hd
 refine sQ 7 (ye (gM_ r_2 B1 c1)) <| sQ 8 (ye (.bool r_3)) ?_
 refine s0 (yT 0 3 (aD b) 50 (gM_ r_2 B1 c1) (kM_ r_2 B1 c1) 0 hS2 K4) ?_
 rintro _ w_2 ⟨rfl, hS3⟩
 refine sQ 3 (yg (.bool r_3)) (rn (ct_ ?_))
 obtain ⟨rfl, rfl⟩ := pr2 (sI hF)
 exact ret2 Tryz.results34 (v1 := gM_ r_2 B1 c1) (resAt_cellA (B := aD b) (i := 0) (cs := kM_ r_2 B1 c1) (vs := kM_ r_2 B1 c1) rfl K9 K4 (hS3.c 0) rfl rfl) (v2 := .bool r_3) (resAt_tmp rfl) ⟨B1, c1, rfl, (hS3.sN [1])⟩

theorem c_impl_isCoef (n : Int)  (w0 : World)  (hS : ST w0 [] w0 [] []) {r_ : Bool} (hF : F_impl_isCoef n = some r_) :
  CV Tryz.prog 127 #[vi n] w0 (fun v w' => v = .bool r_ ∧ ST w0 [] w' [] []) := by
 unfold F_impl_isCoef at hF
 refine cv_of_cw 5 Tryz.func127 rfl Tryz.ntmps127 rfl ?_
 refine cq (cr ?_)
 refine sQ 2 (yg (.bool false)) (rn (cq (cr ?_)))
 refine sQ 3 (ym (vi n)) ?_
 obtain ⟨r_1, hc, hF⟩ := bI hF
 refine sc 4 rfl rfl (yC [vi n, vi (-1000000000), vi 1000000000] K38 (c_impl_within n (-1000000000) 1000000000 _  (hS.inn0 [] rfl) hc)) ?_
 rintro _ w_ ⟨rfl, hd⟩
 have hS1 := hS.out00 hd
 refine sQ 2 (yg (.bool r_1)) (rn (ct_ ?_))
 obtain rfl := sI hF
 exact ret1 Tryz.results127 (v1 := .bool r_1) (resAt_tmp rfl) ⟨rfl, (hS1.sN [])⟩

theorem c_impl_IsValidRing (x : TRing)  (w0 : World)  (hS : ST w0 [] w0 [] []) {r_ : Bool} (hF : F_impl_IsValidRing x = some r_) :
  CV Tryz.prog 113 #[gR_ x] w0 (fun v w' => v = .bool r_ ∧ ST w0 [] w' [] []) := by
 unfold F_impl_IsValidRing at hF
 refine cv_of_cw 21 Tryz.func113 rfl Tryz.ntmps113 rfl ?_
 refine cq (cr ?_)
 refine sS 1 (yB 89 (gR_ x) (kR_ x) 4 hS) ?_
 rintro _ w_ ⟨b, rfl, hS1⟩
 refine sQ 2 (yg (.bool false)) (rn (cq (cr ?_)))
 refine sQ 3 (yd (aD b) 0 0 K12 K1) <| sQ 4 (yl (aD b) 0 (kR_ x) (vi x.A) K0 (hS1.c 0)) ?_
 obtain ⟨r_1, hc, hF⟩ := bI hF
 refine sc 5 rfl rfl (yC [vi x.A] K79 (c_impl_isCoef x.A _  (hS1.inn0 [] rfl) hc)) ?_
 rintro _ w_1 ⟨rfl, hd⟩
 have hS2 := hS1.out00 hd
 refine sQ 6 (ym (.bool r_1)) ?_
 refine sgq 7 (B := r_1) (v := pt (aD b) 1) rfl rfl (uT_ 6) (fun hg => (yd (aD b) 0 0 K14 K1)) ?_
 refine sgq 8 (B := r_1) (v := vi x.B) rfl rfl (uT_ 6) (fun hg1 => (yl (aD b) 1 (kR_ x) (vi x.B) K0 (hS2.c 0) rfl (gv_of (v := pt (aD b) 1) hg1))) ?_
 obtain ⟨r_2, hc1, hF⟩ := bI hF
 refine sgc 9 (B := r_1) (v := .bool r_2) (F := hS2.fn) rfl rfl (uT_ 6) hS2 (fun hg2 => (yC [vi x.B] K79 (CV.mono (c_impl_isCoef x.B _  (hS2.inn0 [] rfl) (gb_inv hc1 hg2)) (by rintro _ _ ⟨rfl, h⟩; exact ⟨rfl, hS2.out00 h⟩)) rfl (mc (gv_of (v := vi x.B) hg2) mn))) ?_
 rintro w_2 hS3
 refine sQ 10 (Y_and (b := r_1) (z := r_2) rfl rfl rfl rfl) <| sQ 11 (ym (.bool (r_1 && r_2))) ?_
 refine sgq 12 (B := (r_1 && r_2)) (v := pt (aD b) 2) rfl rfl (uT_ 11) (fun hg3 => (yd (aD b) 0 0 K15 K1)) ?_
 refine sgq 13 (B := (r_1 && r_2)) (v := vi x.C) rfl rfl (uT_ 11) (fun hg4 => (yl (aD b) 2 (kR_ x) (vi x.C) K0 (hS3.c 0) rfl (gv_of (v := pt (aD b) 2) hg4))) ?_
 obtain ⟨r_3, hc2, hF⟩ := bI hF
 refine sgc 14 (B := (r_1 && r_2)) (v := .bool r_3) (F := hS3.fn) rfl rfl (uT_ 11) hS3 (fun hg5 => (yC [vi x.C] K79 (CV.mono (c_impl_isCoef x.C _  (hS3.inn0 [] rfl) (gb_inv hc2 hg5)) (by rintro _ _ ⟨rfl, h⟩; exact ⟨rfl, hS3.out00 h⟩)) rfl (mc (gv_of (v := vi x.C) hg5) mn))) ?_
 rintro w_3 hS4
 refine sQ 15 (Y_and (b := (r_1 && r_2)) (z := r_3) rfl rfl rfl rfl) <| sQ 16 (ym (.bool ((r_1 && r_2) && r_3))) ?_
 refine sgq 17 (B := ((r_1 && r_2) && r_3)) (v := pt (aD b) 3) rfl rfl (uT_ 16) (fun hg6 => (yd (aD b) 0 0 K16 K1)) ?_
 refine sgq 18 (B := ((r_1 && r_2) && r_3)) (v := vi x.D) rfl rfl (uT_ 16) (fun hg7 => (yl (aD b) 3 (kR_ x) (vi x.D) K0 (hS4.c 0) rfl (gv_of (v := pt (aD b) 3) hg7))) ?_
 obtain ⟨r_4, hc3, hF⟩ := bI hF
 refine sgc 19 (B := ((r_1 && r_2) && r_3)) (v := .bool r_4) (F := hS4.fn) rfl rfl (uT_ 16) hS4 (fun hg8 => (yC [vi x.D] K79 (CV.mono (c_impl_isCoef x.D _  (hS4.inn0 [] rfl) (gb_inv hc3 hg8)) (by rintro _ _ ⟨rfl, h⟩; exact ⟨rfl, hS4.out00 h⟩)) rfl (mc (gv_of (v := vi x.D) hg8) mn))) ?_
 rintro w_4 hS5
 refine sQ 20 (Y_and (b := ((r_1 && r_2) && r_3)) (z := r_4) rfl rfl rfl rfl) <| sQ 2 (yg (.bool (((r_1 && r_2) && r_3) && r_4))) (rn (ct_ ?_))
 obtain rfl := sI hF
 exact ret1 Tryz.results113 (v1 := .bool (((r_1 && r_2) && r_3) && r_4)) (resAt_tmp rfl) ⟨rfl, (hS5.sN [])⟩

theorem c_impl_MulOmega (x : TRing) (k_ : Int)  (w0 : World)  (hS : ST w0 [] w0 [] []) {r_ : TRing} {r_1 : Bool} (hF : F_impl_MulOmega x k_ = some (r_, r_1)) :
  CV Tryz.prog 91 #[gR_ x, vi k_] w0 (fun v w' => v = .tuple #[gR_ r_, .bool r_1] ∧ ST w0 [] w' [] []) := by
 unfold F_impl_MulOmega at hF
 refine cv_of_cw 33 Tryz.func91 rfl Tryz.ntmps91 rfl ?_
 refine cq (cr ?_)
 refine sS 2 (yB 89 (gR_ x) (kR_ x) 4 hS) ?_
 rintro _ w_ ⟨b, rfl, hS1⟩
 refine sS 4 (yN [vi 0, vi 0, vi 0, vi 0] 4 hS1 K10) ?_
 rintro _ w_1 ⟨b1, rfl, hS2⟩
 refine sQ 5 (yg (.bool false)) (rn (cq (cq (cr ?_))))
 refine sQ 6 (ym (vi k_)) ?_
 obtain ⟨r_2, hc, hF⟩ := bI hF
 refine sc 7 rfl rfl (yC [vi k_, vi (-1000), vi 1000] K38 (c_impl_within k_ (-1000) 1000 _  (hS2.inn0 [] rfl) hc)) ?_
 rintro _ w_2 ⟨rfl, hd⟩
 have hS3 := hS2.out00 hd
 refine sQ 8 (Y_not (p := r_2) rfl rfl) <| sQ 9 (ym (.bool (!r_2))) ?_
 refine sgq 10 (B := (!(!r_2))) (v := gR_ x) rfl rfl (uF_ 9) (fun hg => (yb (aD b) 0 (kR_ x) K6 K3 (hS3.c 0))) ?_
 obtain ⟨r_3, hc1, hF⟩ := bI hF
 refine sgc 11 (B := (!(!r_2))) (v := .bool r_3) (F := hS3.fn) rfl rfl (uF_ 9) hS3 (fun hg1 => (yC [gR_ x] K62 (CV.mono (c_impl_IsValidRing x _  (hS3.inn0 [] rfl) (gb_inv hc1 hg1)) (by rintro _ _ ⟨rfl, h⟩; exact ⟨rfl, hS3.out00 h⟩)) rfl (mc (gv_of (v := gR_ x) hg1) mn))) ?_
 rintro w_3 hS4
 refine sgq 12 (B := (!(!r_2))) (v := .bool (!r_3)) rfl rfl (uF_ 9) (fun hg2 => (Y_not (p := r_3) rfl (gv_of (v := .bool r_3) hg2))) ?_
 refine sQ 13 (Y_or (b := (!r_2)) (z := (!r_3)) rfl rfl rfl rfl) (rn ?_)
 refine cw_cond (b := ((!r_2) || (!r_3))) rfl (fun hb => ?_) (fun hb => ?_)
 ·skip
  have hF1 := ct hF hb
  refine cq (cr ?_)
  refine sQ 14 (Y_buildS (zs := [vi 0, vi 0, vi 0, vi 0]) (vs := []) (cs := [vi 0, vi 0, vi 0, vi 0]) K29 K10 rfl mpn rfl) ?_
  refine s0 (yT 1 4 (aD b1) 89 (.agg #[vi 0, vi 0, vi 0, vi 0]) [vi 0, vi 0, vi 0, vi 0] 0 hS4 K3) ?_
  rintro _ w_4 ⟨rfl, hS5⟩
  refine sQ 5 (yg (.bool false)) (rn (ct_ ?_))
  obtain ⟨rfl, rfl⟩ := pr2 (sI hF1)
  exact ret2 Tryz.results91 (v1 := .agg #[vi 0, vi 0, vi 0, vi 0]) (resAt_cellA (B := aD b1) (i := 0) (cs := [vi 0, vi 0, vi 0, vi 0]) (vs := [vi 0, vi 0, vi 0, vi 0]) rfl K6 K3 (hS5.c 1) rfl rfl) (v2 := .bool false) (resAt_tmp rfl) ⟨rfl, (hS5.sN [])⟩
 ·skip
  have hF2 := cf' hF hb
  refine cw_skip (cq (cq (cr ?_)))
  refine sQ 15 (ym (vi k_)) <| sQ 16 (Y_rem (k := .i64) (a := k_) (b := 8) rfl rfl rfl (by decide)) <| sQ 17 (yP (Int.tmod k_ 8) 8) <| sQ 18 (Y_rem (k := .i64) (a := (i64.wrap ((Int.tmod k_ 8) + 8))) (b := 8) rfl rfl rfl (by decide)) <| sQ 19 (ym (vi 0)) (rn ?_)
  obtain ⟨hN, hF2⟩ := chk_inv hF2
  obtain ⟨z, hz, hF3⟩ := bI hF2
  refine cw_block ?_
  refine cw_loop (fun k f w => ∃ (i : Nat) (A : Int) (B : Int) (C : Int) (D : Int), FF f [(2, pt (aD b) 0), (4, pt (aD b1) 0), (18, vi (Int.tmod (i64.wrap ((Int.tmod k_ 8) + 8)) 8)), (19, vi (i : Int))] ∧ ST w0 [] w [⟨aD b, 89, [vi A, vi B, vi C, vi D], 4⟩, ⟨aD b1, 89, [vi 0, vi 0, vi 0, vi 0], 4⟩] [] ∧ i + k = (Int.tmod (i64.wrap ((Int.tmod k_ 8) + 8)) 8).toNat ∧ forN F_impl_MulOmega_l1 k i (A, B, C, D) = some z) ((Int.tmod (i64.wrap ((Int.tmod k_ 8) + 8)) 8).toNat) ⟨0, x.A, x.B, x.C, x.D, (fc rfl (fc rfl (fc rfl (fc rfl fn_)))), (hS4.sel [0, 1] rfl rfl), Nat.zero_add _, hz⟩ ?_
  rintro K8 f w ⟨i, A, B, C, D, hf, hS6, hik, hL⟩
  refine cq (cr ?_)
  refine sQ 20 (yL (i : Int) (Int.tmod (i64.wrap ((Int.tmod k_ 8) + 8)) 8) rfl (hf.g 19 3) (hf.g 18 2)) (rn (cq ?_))
  refine cw_cond (b := (decide ((i : Int) < (Int.tmod (i64.wrap ((Int.tmod k_ 8) + 8)) 8)))) rfl (fun hlt => ?_) (fun hlt => ?_)
  ·skip
   have hlt1 : i < (Int.tmod (i64.wrap ((Int.tmod k_ 8) + 8)) 8).toNat := by have h := of_decide_eq_true hlt; omega
   obtain ⟨K21, rfl⟩ : ∃ k2, K8 = k2 + 1 := ⟨K8 - 1, by omega⟩
   obtain ⟨y, hb1, hL1⟩ := forN_go hL
   unfold F_impl_MulOmega_l1 at hb1
   refine cw_skip (cq (cw_block (cr ?_)))
   refine sQ 21 (yd (aD b) 0 0 K16 K1 rfl (hf.g 2 0)) <| sQ 22 (yl (aD b) 3 [vi A, vi B, vi C, vi D] (vi D) K0 (hS6.c 0)) <| sQ 23 (Y_neg (k := .i64) (a := D) rfl rfl) <| sQ 24 (yd (aD b) 0 0 K12 K1 rfl (hf.g 2 0)) <| sQ 25 (yl (aD b) 0 [vi A, vi B, vi C, vi D] (vi A) K0 (hS6.c 0)) <| sQ 26 (yd (aD b) 0 0 K14 K1 rfl (hf.g 2 0)) ?_
   refine sQ 27 (yl (aD b) 1 [vi A, vi B, vi C, vi D] (vi B) K0 (hS6.c 0)) <| sQ 28 (yd (aD b) 0 0 K15 K1 rfl (hf.g 2 0)) <| sQ 29 (yl (aD b) 2 [vi A, vi B, vi C, vi D] (vi C) K0 (hS6.c 0)) <| sQ 30 (Y_buildS (zs := [vi 0, vi 0, vi 0, vi 0]) (vs := [(0, vi (i64.wrap (-D))), (1, vi A), (2, vi B), (3, vi C)]) (cs := [vi (i64.wrap (-D)), vi A, vi B, vi C]) K29 K10 rfl (mpc rfl (mpc rfl (mpc rfl (mpc rfl mpn)))) rfl) ?_
   refine s0 (yT 0 4 (aD b) 89 (.agg #[vi (i64.wrap (-D)), vi A, vi B, vi C]) [vi (i64.wrap (-D)), vi A, vi B, vi C] 0 hS6 K3 rfl (hf.g 2 0)) ?_
   rintro _ w_5 ⟨rfl, hS7⟩
   refine rn (cr ?_)
   refine sQ 31 (yP (i : Int) 1 rfl (hf.g 19 3)) <| sQ 19 (ym (vi (i64.wrap ((i : Int) + 1)))) (rn ?_)
   obtain rfl := sI hb1
   exact ⟨K21, Nat.lt_succ_self _, i + 1, (i64.wrap (-D)), A, B, C, (fc (hf.g 2 0) (fc (hf.g 4 1) (fc (hf.g 18 2) (fc (congrArg (Value.int .i64) (wr_succ hlt1 hN)) fn_)))), (hS7.sel [0, 1] rfl rfl), (by omega), hL1⟩
  ·skip
   obtain rfl : K8 = 0 := by have h := of_decide_eq_false hlt; omega
   refine cw_exit rfl ?_
   obtain rfl := sI hL
   refine cq (cr ?_)
   refine sQ 32 (yb (aD b) 0 [vi A, vi B, vi C, vi D] K6 K3 (hS6.c 0) rfl (hf.g 2 0)) ?_
   refine s0 (yT 1 4 (aD b1) 89 (.agg #[vi A, vi B, vi C, vi D]) [vi A, vi B, vi C, vi D] 0 hS6 K3 rfl (hf.g 4 1)) ?_
   rintro _ w_6 ⟨rfl, hS8⟩
   refine sQ 5 (yg (.bool true)) (rn (ct_ ?_))
   obtain ⟨rfl, rfl⟩ := pr2 (sI hF3)
   exact ret2 Tryz.results91 (v1 := .agg #[vi A, vi B, vi C, vi D]) (resAt_cellA (B := aD b1) (i := 0) (cs := [vi A, vi B, vi C, vi D]) (vs := [vi A, vi B, vi C, vi D]) (hf.g 4 1) K6 K3 (hS8.c 1) rfl rfl) (v2 := .bool true) (resAt_tmp rfl) ⟨rfl, (hS8.sN [])⟩

theorem c_impl_phase (k_ : Int)  (w0 : World)  (hS : ST w0 [] w0 [] []) {r_ : TDyadic} (hF : F_impl_phase k_ = some r_) :
  CV Tryz.prog 62 #[vi k_] w0 (fun v w' => v = (gD_ r_) ∧ ST w0 [] w' [] []) := by
 unfold F_impl_phase at hF
 refine cv_of_cw 13 Tryz.func62 rfl Tryz.ntmps62 rfl ?_
 refine cq (cr ?_)
 refine sS 2 (yN kZ_ 5 hS K7) ?_
 rintro _ w_ ⟨b, rfl, hS1⟩
 refine rn (cq (cr ?_))
 refine sQ 6 (Y_buildS (zs := [vi 0, vi 0, vi 0, vi 0]) (vs := [(0, vi 1)]) (cs := [vi 1, vi 0, vi 0, vi 0]) K29 K10 rfl (mpc rfl mpn) rfl) <| sQ 7 (ym (vi k_)) ?_
 obtain ⟨⟨r_1, r_2⟩, hc, hF⟩ := bI hF
 refine sc 8 rfl rfl (yC [.agg #[vi 1, vi 0, vi 0, vi 0], vi k_] k_call_91 (c_impl_MulOmega (TRing.mk 1 0 0 0) k_ _  (hS1.inn0 [] rfl) hc)) ?_
 rintro _ w_1 ⟨rfl, hd⟩
 have hS2 := hS1.out00 hd
 refine sQ 5 (ym (.tuple #[gR_ r_1, .bool r_2])) <| sQ 9 (ye (gR_ r_1)) <| sQ 10 (ye (.bool r_2)) ?_
 refine sS 3 (yN [vi 0, vi 0, vi 0, vi 0] 4 hS2 K10) ?_
 rintro _ w_2 ⟨b1, rfl, hS3⟩
 refine s0 (yT 1 4 (aD b1) 89 (gR_ r_1) (kR_ r_1) 0 hS3 K3) ?_
 rintro _ w_3 ⟨rfl, hS4⟩
 refine sQ 4 (yg (.bool r_2)) (rn (cq (cr ?_)))
 refine sQ 11 (yb (aD b1) 0 (kR_ r_1) K6 K3 (hS4.c 1)) <| sQ 12 (Y_buildS (zs := kZ_) (vs := [(0, gR_ r_1)]) (cs := [vi r_1.A, vi r_1.B, vi r_1.C, vi r_1.D, vi 0]) K20 K7 rfl (mpc rfl mpn) rfl) ?_
 refine s0 (yT 0 5 (aD b) 91 (.agg #[vi r_1.A, vi r_1.B, vi r_1.C, vi r_1.D, vi 0]) [vi r_1.A, vi r_1.B, vi r_1.C, vi r_1.D, vi 0] 0 hS4 K2) ?_
 rintro _ w_4 ⟨rfl, hS5⟩
 refine rn (ct_ ?_)
 obtain rfl := sI hF
 exact ret1 Tryz.results62 (v1 := .agg #[vi r_1.A, vi r_1.B, vi r_1.C, vi r_1.D, vi 0]) (resAt_cellA (B := aD b) (i := 0) (cs := [vi r_1.A, vi r_1.B, vi r_1.C, vi r_1.D, vi 0]) (vs := [vi r_1.A, vi r_1.B, vi r_1.C, vi r_1.D, vi 0]) rfl K5 K2 (hS5.c 0) rfl rfl) ⟨rfl, (hS5.sN [])⟩

theorem c_slices_IndexFunc_impl_Dyadic_impl_Dyadic (s : List TDyadic) (f_ : TDyadic → Option (Bool)) (B : Option Addr) (c n : Nat) (kf : Nat) (caps : Array Value) (Rf : List Ro) (w0 : World) (hn : s.length = n) (hk : callB Tryz.prog kf = true) (hp : ∀ (w : World), ST w [] w [] Rf → ∀ (x : TDyadic) (y : Bool), f_ x = some y → CV Tryz.prog kf ((gD_ x) :: caps.toList).toArray w (fun v w' => v = .bool y ∧ ST w [] w' [] [])) (hS : ST w0 [] w0 [] (⟨B, (s.flatMap eN1)⟩ :: Rf)) {r_ : Int} (hF : F_slices_IndexFunc_impl_Dyadic_impl_Dyadic s f_ = some r_) :
  CV Tryz.prog 89 #[.slice B n c, .func (.func kf) #[] caps] w0 (fun v w' => v = vi r_ ∧ ST w0 [] w' [] []) := by
 subst hn
 unfold F_slices_IndexFunc_impl_Dyadic_impl_Dyadic at hF
 refine cv_of_cw 19 Tryz.func89 rfl Tryz.ntmps89 rfl ?_
 refine cq (cr ?_)
 refine sQ 4 (yg (vi 0)) (rn (cq (cq (cr ?_))))
 refine sQ 6 (ym (.slice B s.length c)) <| sQ 7 (Y_len (B := B) (m := s.length) (c := c) K13 rfl rfl) <| sQ 8 (ym (vi 0)) (rn ?_)
 obtain ⟨hN, hF⟩ := chk_inv hF
 obtain ⟨z, hz, hF1⟩ := bI hF
 refine cw_block ?_
 refine cw_loop (fun k f w => ∃ (i : Nat), FF f [(0, .slice B s.length c), (1, .func (.func kf) #[] caps), (7, vi (s.length : Int)), (8, vi (i : Int))] ∧ ST w0 [] w [] (⟨B, (s.flatMap eN1)⟩ :: Rf) ∧ i + k = s.length ∧ forX (F_slices_IndexFunc_impl_Dyadic_impl_Dyadic_l1 s f_) k i () = some z) s.length ⟨0, (fc rfl (fc rfl (fc rfl (fc rfl fn_)))), (hS.sel [] rfl rfl), Nat.zero_add _, hz⟩ ?_
 rintro k_ f w ⟨i, hf, hS1, hik, hL⟩
 refine cq (cr ?_)
 refine sQ 9 (yL (i : Int) (s.length : Int) rfl (hf.g 8 3) (hf.g 7 2)) (rn (cq ?_))
 refine cw_cond (b := (decide ((i : Int) < (s.length : Int)))) rfl (fun hlt => ?_) (fun hlt => ?_)
 ·skip
  have hlt1 : i < s.length := by have h := of_decide_eq_true hlt; omega
  obtain ⟨K8, rfl⟩ : ∃ k2, k_ = k2 + 1 := ⟨k_ - 1, by omega⟩
  obtain ⟨y1, hb, hL1⟩ := forX_go hL
  unfold F_slices_IndexFunc_impl_Dyadic_impl_Dyadic_l1 at hb
  refine cw_skip (cq (cw_block (cq (cr ?_))))
  refine sQ 10 (ym (vi (i : Int)) rfl (hf.g 8 3)) <| sQ 5 (yg (vi (i : Int))) (rn (cq (cr ?_)))
  refine sQ 11 (ym (.func (.func kf) #[] caps) rfl (hf.g 1 1)) <| sQ 12 (ym (.slice B s.length c) rfl (hf.g 0 0)) <| sQ 13 (ym (vi (i : Int))) ?_
  obtain ⟨x1, hx, hb⟩ := bI hb
  refine sQ 14 (Y_index (B := B) (m := s.length) (c := c) (k := .i64) (i := (i : Int)) K13 K2 rfl rfl rfl (gi_isSome enc_Dyadic_len rfl (hS1.rf (i := 0) rfl) hx) (getI_nn hx) (getI_ltI hx rfl)) <| sQ 15 (ya B ((i : Int).toNat * 5) (s.flatMap eN1) (kD_ x1) K5 K2 (hS1.rf (i := 0) rfl) rfl rfl (enc_Dyadic_len x1) (gi_seg enc_Dyadic_len hx)) ?_
  obtain ⟨r_1, hc, hb⟩ := bI hb
  refine sc 16 rfl rfl (Yc_clos (g := kf) (vs := (gD_ x1) :: caps.toList) hk rfl rfl (clo_args (mc rfl mn)) (hp _ (hS1.innS (fun _ h => mOd (i := 1) h)) x1 r_1 hc)) ?_
  rintro _ w_ ⟨rfl, hd⟩
  have hS2 := hS1.out00 hd
  refine rn ?_
  refine cw_cond (b := r_1) rfl (fun hb1 => ?_) (fun hb1 => ?_)
  ·skip
   have hF2 := ct hb hb1
   refine cq (cr ?_)
   refine sQ 17 (ym (vi (i : Int))) <| sQ 4 (yg (vi (i : Int))) (rn (ct_ ?_))
   obtain rfl := sI hF2
   obtain rfl := sI hL1
   obtain rfl := sI hF1
   exact ret1 Tryz.results89 (v1 := vi (i : Int)) (resAt_tmp rfl) ⟨rfl, (hS2.sN [])⟩
  ·skip
   have hF3 := cf' hb hb1
   refine cw_skip (cr ?_)
   refine sQ 18 (yP (i : Int) 1 rfl (hf.g 8 3)) <| sQ 8 (ym (vi (i64.wrap ((i : Int) + 1)))) (rn ?_)
   obtain rfl := sI hF3
   exact ⟨K8, Nat.lt_succ_self _, i + 1, (fc (hf.g 0 0) (fc (hf.g 1 1) (fc (hf.g 7 2) (fc (congrArg (Value.int .i64) (wr_succ hlt1 hN)) fn_)))), (hS2.sel [] rfl rfl), (by omega), hL1⟩
 ·skip
  obtain rfl : k_ = 0 := by have h := of_decide_eq_false hlt; omega
  refine cw_exit rfl ?_
  obtain rfl := sI hL
  refine cq (cr ?_)
  refine sQ 4 (yg (vi (-1))) (rn (ct_ ?_))
  obtain rfl := sI hF1
  exact ret1 Tryz.results89 (v1 := vi (-1)) (resAt_tmp rfl) ⟨rfl, (hS1.sN [])⟩

theorem c_slices_ContainsFunc_impl_Dyadic_impl_Dyadic (s : List TDyadic) (f_ : TDyadic → Option (Bool)) (B : Option Addr) (c n : Nat) (kf : Nat) (caps : Array Value) (Rf : List Ro) (w0 : World) (hn : s.length = n) (hk : callB Tryz.prog kf = true) (hp : ∀ (w : World), ST w [] w [] Rf → ∀ (x : TDyadic) (y : Bool), f_ x = some y → CV Tryz.prog kf ((gD_ x) :: caps.toList).toArray w (fun v w' => v = .bool y ∧ ST w [] w' [] [])) (hS : ST w0 [] w0 [] (⟨B, (s.flatMap eN1)⟩ :: Rf)) {r_ : Bool} (hF : F_slices_ContainsFunc_impl_Dyadic_impl_Dyadic s f_ = some r_) :
  CV Tryz.prog 100 #[.slice B n c, .func (.func kf) #[] caps] w0 (fun v w' => v = .bool r_ ∧ ST w0 [] w' [] []) := by
 subst hn
 unfold F_slices_ContainsFunc_impl_Dyadic_impl_Dyadic at hF
 refine cv_of_cw 9 Tryz.func100 rfl Tryz.ntmps100 rfl ?_
 refine cq (cr ?_)
 refine sQ 4 (yg (.bool false)) (rn (cq (cr ?_)))
 refine sQ 5 (ym (.slice B s.length c)) <| sQ 6 (ym (.func (.func kf) #[] caps)) ?_
 obtain ⟨r_1, hc, hF⟩ := bI hF
 refine sc 7 rfl rfl (yC [.slice B s.length c, .func (.func kf) #[] caps] k_call_89 (c_slices_IndexFunc_impl_Dyadic_impl_Dyadic s f_ B c s.length kf caps Rf _ rfl hk hp (hS.innS (sk 0 (fun _ h => mOd (i := 1) h))) hc)) ?_
 rintro _ w_ ⟨rfl, hd⟩
 have hS1 := hS.out00 hd
 refine sQ 8 (Y_ge (k := .i64) (a := r_1) (b := 0) rfl rfl rfl) <| sQ 4 (yg (.bool (decide (0 ≤ r_1)))) (rn (ct_ ?_))
 obtain rfl := sI hF
 exact ret1 Tryz.results100 (v1 := .bool (decide (0 ≤ r_1))) (resAt_tmp rfl) ⟨rfl, (hS1.sN [])⟩

theorem c_impl_isEven (x : TRing)  (w0 : World)  (hS : ST w0 [] w0 [] []) {r_ : Bool} (hF : F_impl_isEven x = some r_) :
  CV Tryz.prog 116 #[gR_ x] w0 (fun v w' => v = .bool r_ ∧ ST w0 [] w' [] []) := by
 unfold F_impl_isEven at hF
 refine cv_of_cw 19 Tryz.func116 rfl Tryz.ntmps116 rfl ?_
 refine cq (cr ?_)
 refine sS 1 (yB 89 (gR_ x) (kR_ x) 4 hS) ?_
 rintro _ w_ ⟨b, rfl, hS1⟩
 refine sQ 2 (yg (.bool false)) (rn (cq (cr ?_)))
 refine sQ 3 (yd (aD b) 0 0 K12 K1) <| sQ 4 (yl (aD b) 0 (kR_ x) (vi x.A) K0 (hS1.c 0)) <| sQ 5 (yd (aD b) 0 0 K15 K1) <| sQ 6 (yl (aD b) 2 (kR_ x) (vi x.C) K0 (hS1.c 0)) <| sQ 7 (yP x.A x.C) <| sQ 8 (Y_rem (k := .i64) (a := (i64.wrap (x.A + x.C))) (b := 2) rfl rfl rfl (by decide)) ?_
 refine sQ 9 (yE (Int.tmod (i64.wrap (x.A + x.C)) 2) 0) <| sQ 10 (ym (.bool ((Int.tmod (i64.wrap (x.A + x.C)) 2) == 0))) ?_
 refine sgq 11 (B := ((Int.tmod (i64.wrap (x.A + x.C)) 2) == 0)) (v := pt (aD b) 1) rfl rfl (uT_ 10) (fun hg => (yd (aD b) 0 0 K14 K1)) ?_
 refine sgq 12 (B := ((Int.tmod (i64.wrap (x.A + x.C)) 2) == 0)) (v := vi x.B) rfl rfl (uT_ 10) (fun hg1 => (yl (aD b) 1 (kR_ x) (vi x.B) K0 (hS1.c 0) rfl (gv_of (v := pt (aD b) 1) hg1))) ?_
 refine sgq 13 (B := ((Int.tmod (i64.wrap (x.A + x.C)) 2) == 0)) (v := pt (aD b) 3) rfl rfl (uT_ 10) (fun hg2 => (yd (aD b) 0 0 K16 K1)) ?_
 refine sgq 14 (B := ((Int.tmod (i64.wrap (x.A + x.C)) 2) == 0)) (v := vi x.D) rfl rfl (uT_ 10) (fun hg3 => (yl (aD b) 3 (kR_ x) (vi x.D) K0 (hS1.c 0) rfl (gv_of (v := pt (aD b) 3) hg3))) ?_
 refine sgq 15 (B := ((Int.tmod (i64.wrap (x.A + x.C)) 2) == 0)) (v := vi (i64.wrap (x.B + x.D))) rfl rfl (uT_ 10) (fun hg4 => (yP x.B x.D rfl (gv_of (v := vi x.B) hg4) (gv_of (v := vi x.D) hg4))) ?_
 refine sgq 16 (B := ((Int.tmod (i64.wrap (x.A + x.C)) 2) == 0)) (v := vi (Int.tmod (i64.wrap (x.B + x.D)) 2)) rfl rfl (uT_ 10) (fun hg5 => (Y_rem (k := .i64) (a := (i64.wrap (x.B + x.D))) (b := 2) rfl (gv_of (v := vi (i64.wrap (x.B + x.D))) hg5) rfl (by decide))) ?_
 refine sgq 17 (B := ((Int.tmod (i64.wrap (x.A + x.C)) 2) == 0)) (v := .bool ((Int.tmod (i64.wrap (x.B + x.D)) 2) == 0)) rfl rfl (uT_ 10) (fun hg6 => (yE (Int.tmod (i64.wrap (x.B + x.D)) 2) 0 rfl (gv_of (v := vi (Int.tmod (i64.wrap (x.B + x.D)) 2)) hg6))) ?_
 refine sQ 18 (Y_and (b := ((Int.tmod (i64.wrap (x.A + x.C)) 2) == 0)) (z := ((Int.tmod (i64.wrap (x.B + x.D)) 2) == 0)) rfl rfl rfl rfl) <| sQ 2 (yg (.bool (((Int.tmod (i64.wrap (x.A + x.C)) 2) == 0) && ((Int.tmod (i64.wrap (x.B + x.D)) 2) == 0)))) (rn (ct_ ?_))
 obtain rfl := sI hF
 exact ret1 Tryz.results116 (v1 := .bool (((Int.tmod (i64.wrap (x.A + x.C)) 2) == 0) && ((Int.tmod (i64.wrap (x.B + x.D)) 2) == 0))) (resAt_tmp rfl) ⟨rfl, (hS1.sN [])⟩

theorem c_impl_IsValidDyadic (x : TDyadic)  (w0 : World)  (hS : ST w0 [] w0 [] []) {r_ : Bool} (hF : F_impl_IsValidDyadic x = some r_) :
  CV Tryz.prog 94 #[gD_ x] w0 (fun v w' => v = .bool r_ ∧ ST w0 [] w' [] []) := by
 unfold F_impl_IsValidDyadic at hF
 refine cv_of_cw 22 Tryz.func94 rfl Tryz.ntmps94 rfl ?_
 refine cq (cr ?_)
 refine sS 1 (yB 91 (gD_ x) (kD_ x) 5 hS) ?_
 rintro _ w_ ⟨b, rfl, hS1⟩
 refine sQ 2 (yg (.bool false)) (rn (cq (cr ?_)))
 refine sQ 3 (yd (aD b) 0 3 K31 K3) <| sQ 4 (ya (aD b) 0 (kD_ x) (kR_ x.Num) K6 K3 (hS1.c 0)) ?_
 obtain ⟨r_1, hc, hF⟩ := bI hF
 refine sc 5 rfl rfl (yC [gR_ x.Num] K62 (c_impl_IsValidRing x.Num _  (hS1.inn0 [] rfl) hc)) ?_
 rintro _ w_1 ⟨rfl, hd⟩
 have hS2 := hS1.out00 hd
 refine sQ 6 (ym (.bool r_1)) ?_
 refine sgq 7 (B := r_1) (v := pt (aD b) 4) rfl rfl (uT_ 6) (fun hg => (yd (aD b) 0 0 K28 K1)) ?_
 refine sgq 8 (B := r_1) (v := vi x.Exp) rfl rfl (uT_ 6) (fun hg1 => (yl (aD b) 4 (kD_ x) (vi x.Exp) K0 (hS2.c 0) rfl (gv_of (v := pt (aD b) 4) hg1))) ?_
 obtain ⟨r_2, hc1, hF⟩ := bI hF
 refine sgc 9 (B := r_1) (v := .bool r_2) (F := hS2.fn) rfl rfl (uT_ 6) hS2 (fun hg2 => (yC [vi x.Exp, vi 0, vi 60] K38 (CV.mono (c_impl_within x.Exp 0 60 _  (hS2.inn0 [] rfl) (gb_inv hc1 hg2)) (by rintro _ _ ⟨rfl, h⟩; exact ⟨rfl, hS2.out00 h⟩)) rfl (mc (gv_of (v := vi x.Exp) hg2) (mc rfl (mc rfl mn))))) ?_
 rintro w_2 hS3
 refine sQ 10 (Y_and (b := r_1) (z := r_2) rfl rfl rfl rfl) <| sQ 11 (ym (.bool (r_1 && r_2))) ?_
 refine sgq 12 (B := (r_1 && r_2)) (v := pt (aD b) 4) rfl rfl (uT_ 11) (fun hg3 => (yd (aD b) 0 0 K28 K1)) ?_
 refine sgq 13 (B := (r_1 && r_2)) (v := vi x.Exp) rfl rfl (uT_ 11) (fun hg4 => (yl (aD b) 4 (kD_ x) (vi x.Exp) K0 (hS3.c 0) rfl (gv_of (v := pt (aD b) 4) hg4))) ?_
 refine sgq 14 (B := (r_1 && r_2)) (v := .bool (x.Exp == 0)) rfl rfl (uT_ 11) (fun hg5 => (yE x.Exp 0 rfl (gv_of (v := vi x.Exp) hg5))) ?_
 refine sgq 15 (B := (r_1 && r_2)) (v := .bool (x.Exp == 0)) rfl rfl (uT_ 11) (fun hg6 => (ym (.bool (x.Exp == 0)) rfl (gv_of (v := .bool (x.Exp == 0)) hg6))) ?_
 refine sgq 16 (B := ((r_1 && r_2) && (!(x.Exp == 0)))) (v := pt (aD b) 0) rfl rfl (wt_gf (gd_of (t := 15) (by kernel_rfl) rfl)) (fun hg7 => (yd (aD b) 0 3 K31 K3)) ?_
 refine sgq 17 (B := ((r_1 && r_2) && (!(x.Exp == 0)))) (v := gR_ x.Num) rfl rfl (wt_gf (gd_of (t := 15) (by kernel_rfl) rfl)) (fun hg8 => (ya (aD b) 0 (kD_ x) (kR_ x.Num) K6 K3 (hS3.c 0) rfl (gv_of (v := pt (aD b) 0) hg8))) ?_
 obtain ⟨r_3, hc2, hF⟩ := bI hF
 refine sgc 18 (B := ((r_1 && r_2) && (!(x.Exp == 0)))) (v := .bool r_3) (F := hS3.fn) rfl rfl (wt_gf (gd_of (t := 15) (by kernel_rfl) rfl)) hS3 (fun hg9 => (yC [gR_ x.Num] K95 (CV.mono (c_impl_isEven x.Num _  (hS3.inn0 [] rfl) (gb_inv hc2 hg9)) (by rintro _ _ ⟨rfl, h⟩; exact ⟨rfl, hS3.out00 h⟩)) rfl (mc (gv_of (v := gR_ x.Num) hg9) mn))) ?_
 rintro w_3 hS4
 refine sgq 19 (B := ((r_1 && r_2) && (!(x.Exp == 0)))) (v := .bool (!r_3)) rfl rfl (wt_gf (gd_of (t := 15) (by kernel_rfl) rfl)) (fun hg10 => (Y_not (p := r_3) rfl (gv_of (v := .bool r_3) hg10))) ?_
 refine sgq 20 (B := (r_1 && r_2)) (v := .bool ((x.Exp == 0) || (!r_3))) rfl rfl (uT_ 11) (fun hg11 => (Y_or (b := (x.Exp == 0)) (z := (!r_3)) rfl (gv_of (v := .bool (x.Exp == 0)) hg11) rfl (gv_and (B := (r_1 && r_2)) (C := (!(x.Exp == 0))) (v := .bool (!r_3)) hg11))) ?_
 refine sQ 21 (Y_and (b := (r_1 && r_2)) (z := ((x.Exp == 0) || (!r_3))) rfl rfl rfl rfl) <| sQ 2 (yg (.bool ((r_1 && r_2) && ((x.Exp == 0) || (!r_3))))) (rn (ct_ ?_))
 obtain rfl := sI hF
 exact ret1 Tryz.results94 (v1 := .bool ((r_1 && r_2) && ((x.Exp == 0) || (!r_3)))) (resAt_tmp rfl) ⟨rfl, (hS4.sN [])⟩

theorem c_impl_IsValidMatrix_1 (x : TDyadic)  (w0 : World)  (hS : ST w0 [] w0 [] []) {r_ : Bool} (hF : F_impl_IsValidMatrix_1 x = some r_) :
  CV Tryz.prog 101 #[gD_ x] w0 (fun v w' => v = .bool r_ ∧ ST w0 [] w' [] []) := by
 unfold F_impl_IsValidMatrix_1 at hF
 refine cv_of_cw 6 Tryz.func101 rfl Tryz.ntmps101 rfl ?_
 refine cq (cr ?_)
 refine sS 1 (yB 91 (gD_ x) (kD_ x) 5 hS) ?_
 rintro _ w_ ⟨b, rfl, hS1⟩
 refine sQ 2 (yg (.bool false)) (rn (cq (cr ?_)))
 refine sQ 3 (yb (aD b) 0 (kD_ x) K5 K2 (hS1.c 0)) ?_
 obtain ⟨r_1, hc, hF⟩ := bI hF
 refine sc 4 rfl rfl (yC [gD_ x] K56 (c_impl_IsValidDyadic x _  (hS1.inn0 [] rfl) hc)) ?_
 rintro _ w_1 ⟨rfl, hd⟩
 have hS2 := hS1.out00 hd
 refine sQ 5 (Y_not (p := r_1) rfl rfl) <| sQ 2 (yg (.bool (!r_1))) (rn (ct_ ?_))
 obtain rfl := sI hF
 exact ret1 Tryz.results101 (v1 := .bool (!r_1)) (resAt_tmp rfl) ⟨rfl, (hS2.sN [])⟩

theorem c_impl_IsValidMatrix (m : TMatrix) (B : Option Addr) (c n : Nat) (w0 : World) (hn : m.Cells.length = n) (hS : ST w0 [] w0 [] [⟨B, (m.Cells.flatMap eN1)⟩]) {r_ : Bool} (hF : F_impl_IsValidMatrix m = some r_) :
  CV Tryz.prog 69 #[.agg #[vi m.Rows, vi m.Cols, .slice B n c]] w0 (fun v w' => v = .bool r_ ∧ ST w0 [] w' [] []) := by
 subst hn
 unfold F_impl_IsValidMatrix at hF
 refine cv_of_cw 28 Tryz.func69 rfl Tryz.ntmps69 rfl ?_
 refine cq (cr ?_)
 refine sS 1 (yB 50 (gM_ m B c) (kM_ m B c) 3 hS) ?_
 rintro _ w_ ⟨b, rfl, hS1⟩
 refine sQ 2 (yg (.bool false)) (rn (cq (cr ?_)))
 refine sQ 3 (yd (aD b) 0 0 K44 K1) <| sQ 4 (yl (aD b) 0 (kM_ m B c) (vi m.Rows) K0 (hS1.c 0)) ?_
 obtain ⟨r_1, hc, hF⟩ := bI hF
 refine sc 5 rfl rfl (yC [vi m.Rows] K77 (c_impl_isDim m.Rows _  (hS1.inn0 [] rfl) hc)) ?_
 rintro _ w_1 ⟨rfl, hd⟩
 have hS2 := hS1.out00 hd
 refine sQ 6 (ym (.bool r_1)) ?_
 refine sgq 7 (B := r_1) (v := pt (aD b) 1) rfl rfl (uT_ 6) (fun hg => (yd (aD b) 0 0 K35 K1)) ?_
 refine sgq 8 (B := r_1) (v := vi m.Cols) rfl rfl (uT_ 6) (fun hg1 => (yl (aD b) 1 (kM_ m B c) (vi m.Cols) K0 (hS2.c 0) rfl (gv_of (v := pt (aD b) 1) hg1))) ?_
 obtain ⟨r_2, hc1, hF⟩ := bI hF
 refine sgc 9 (B := r_1) (v := .bool r_2) (F := hS2.fn) rfl rfl (uT_ 6) hS2 (fun hg2 => (yC [vi m.Cols] K77 (CV.mono (c_impl_isDim m.Cols _  (hS2.inn0 [] rfl) (gb_inv hc1 hg2)) (by rintro _ _ ⟨rfl, h⟩; exact ⟨rfl, hS2.out00 h⟩)) rfl (mc (gv_of (v := vi m.Cols) hg2) mn))) ?_
 rintro w_2 hS3
 refine sQ 10 (Y_and (b := r_1) (z := r_2) rfl rfl rfl rfl) <| sQ 11 (ym (.bool (r_1 && r_2))) ?_
 refine sgq 12 (B := (r_1 && r_2)) (v := pt (aD b) 2) rfl rfl (uT_ 11) (fun hg3 => (yd (aD b) 0 0 K22 K17)) ?_
 refine sgq 13 (B := (r_1 && r_2)) (v := .slice B m.Cells.length c) rfl rfl (uT_ 11) (fun hg4 => (yl (aD b) 2 (kM_ m B c) (.slice B m.Cells.length c) K25 (hS3.c 0) rfl (gv_of (v := pt (aD b) 2) hg4))) ?_
 refine sgq 14 (B := (r_1 && r_2)) (v := vi (m.Cells.length : Int)) rfl rfl (uT_ 11) (fun hg5 => (Y_len (B := B) (m := m.Cells.length) (c := c) K13 rfl (gv_of (v := .slice B m.Cells.length c) hg5))) ?_
 refine sgq 15 (B := (r_1 && r_2)) (v := pt (aD b) 0) rfl rfl (uT_ 11) (fun hg6 => (yd (aD b) 0 0 K44 K1)) ?_
 refine sgq 16 (B := (r_1 && r_2)) (v := vi m.Rows) rfl rfl (uT_ 11) (fun hg7 => (yl (aD b) 0 (kM_ m B c) (vi m.Rows) K0 (hS3.c 0) rfl (gv_of (v := pt (aD b) 0) hg7))) ?_
 refine sgq 17 (B := (r_1 && r_2)) (v := pt (aD b) 1) rfl rfl (uT_ 11) (fun hg8 => (yd (aD b) 0 0 K35 K1)) ?_
 refine sgq 18 (B := (r_1 && r_2)) (v := vi m.Cols) rfl rfl (uT_ 11) (fun hg9 => (yl (aD b) 1 (kM_ m B c) (vi m.Cols) K0 (hS3.c 0) rfl (gv_of (v := pt (aD b) 1) hg9))) ?_
 refine sgq 19 (B := (r_1 && r_2)) (v := vi (i64.wrap (m.Rows * m.Cols))) rfl rfl (uT_ 11) (fun hg10 => (yX m.Rows m.Cols rfl (gv_of (v := vi m.Rows) hg10) (gv_of (v := vi m.Cols) hg10))) ?_
 refine sgq 20 (B := (r_1 && r_2)) (v := .bool ((m.Cells.length : Int) == (i64.wrap (m.Rows * m.Cols)))) rfl rfl (uT_ 11) (fun hg11 => (yE (m.Cells.length : Int) (i64.wrap (m.Rows * m.Cols)) rfl (gv_of (v := vi (m.Cells.length : Int)) hg11) (gv_of (v := vi (i64.wrap (m.Rows * m.Cols))) hg11))) ?_
 refine sQ 21 (Y_and (b := (r_1 && r_2)) (z := ((m.Cells.length : Int) == (i64.wrap (m.Rows * m.Cols)))) rfl rfl rfl rfl) <| sQ 22 (ym (.bool ((r_1 && r_2) && ((m.Cells.length : Int) == (i64.wrap (m.Rows * m.Cols)))))) ?_
 refine sgq 23 (B := ((r_1 && r_2) && ((m.Cells.length : Int) == (i64.wrap (m.Rows * m.Cols))))) (v := pt (aD b) 2) rfl rfl (uT_ 22) (fun hg12 => (yd (aD b) 0 0 K22 K17)) ?_
 refine sgq 24 (B := ((r_1 && r_2) && ((m.Cells.length : Int) == (i64.wrap (m.Rows * m.Cols))))) (v := .slice B m.Cells.length c) rfl rfl (uT_ 22) (fun hg13 => (yl (aD b) 2 (kM_ m B c) (.slice B m.Cells.length c) K25 (hS3.c 0) rfl (gv_of (v := pt (aD b) 2) hg13))) ?_
 obtain ⟨r_3, hc2, hF⟩ := bI hF
 refine sgc 25 (B := ((r_1 && r_2) && ((m.Cells.length : Int) == (i64.wrap (m.Rows * m.Cols))))) (v := .bool r_3) (F := hS3.fn) rfl rfl (uT_ 22) hS3 (fun hg14 => (yC [.slice B m.Cells.length c, .func (.func 101) #[] #[]] k_call_100 (CV.mono (c_slices_ContainsFunc_impl_Dyadic_impl_Dyadic m.Cells F_impl_IsValidMatrix_1 B c m.Cells.length 101 (#[]) [] _ rfl k_call_101 (fun w hw x_0 y_0 h_ => c_impl_IsValidMatrix_1 x_0  w  hw h_) (hS3.inn0 [(true, 0)] rfl) (gb_inv hc2 hg14)) (by rintro _ _ ⟨rfl, h⟩; exact ⟨rfl, hS3.out00 h⟩)) rfl (mc (gv_of (v := .slice B m.Cells.length c) hg14) (mc rfl mn)))) ?_
 rintro w_3 hS4
 refine sgq 26 (B := ((r_1 && r_2) && ((m.Cells.length : Int) == (i64.wrap (m.Rows * m.Cols))))) (v := .bool (!r_3)) rfl rfl (uT_ 22) (fun hg15 => (Y_not (p := r_3) rfl (gv_of (v := .bool r_3) hg15))) ?_
 refine sQ 27 (Y_and (b := ((r_1 && r_2) && ((m.Cells.length : Int) == (i64.wrap (m.Rows * m.Cols))))) (z := (!r_3)) rfl rfl rfl rfl) <| sQ 2 (yg (.bool (((r_1 && r_2) && ((m.Cells.length : Int) == (i64.wrap (m.Rows * m.Cols)))) && (!r_3)))) (rn (ct_ ?_))
 obtain rfl := sI hF
 exact ret1 Tryz.results69 (v1 := .bool (((r_1 && r_2) && ((m.Cells.length : Int) == (i64.wrap (m.Rows * m.Cols)))) && (!r_3))) (resAt_tmp rfl) ⟨rfl, (hS4.sN [])⟩

theorem c_impl_CanonicalPhase_1 (x : TDyadic)  (w0 : World)  (hS : ST w0 [] w0 [] []) {r_ : Bool} (hF : F_impl_CanonicalPhase_1 x = some r_) :
  CV Tryz.prog 90 #[gD_ x] w0 (fun v w' => v = .bool r_ ∧ ST w0 [] w' [] []) := by
 unfold F_impl_CanonicalPhase_1 at hF
 refine cv_of_cw 6 Tryz.func90 rfl Tryz.ntmps90 rfl ?_
 refine cq (cr ?_)
 refine sS 1 (yB 91 (gD_ x) (kD_ x) 5 hS) ?_
 rintro _ w_ ⟨b, rfl, hS1⟩
 refine sQ 2 (yg (.bool false)) (rn (cq (cr ?_)))
 refine sQ 3 (yb (aD b) 0 (kD_ x) K5 K2 (hS1.c 0)) <| sQ 4 (Y_buildS (zs := kZ_) (vs := []) (cs := kZ_) K20 K7 rfl mpn rfl) <| sQ 5 (Y_neA (xs := #[vi x.Num.A, vi x.Num.B, vi x.Num.C, vi x.Num.D, vi x.Exp]) (ys := #[vi 0, vi 0, vi 0, vi 0, vi 0]) (b := (((x.Num.A == 0) && ((x.Num.B == 0) && ((x.Num.C == 0) && ((x.Num.D == 0) && true)))) && ((x.Exp == 0) && true))) K85 rfl rfl rfl (eqr_struct (xs := kD_ x) (ys := kZ_) K86 K87 (pts_ag (us := kR_ x.Num) (vs := [vi 0, vi 0, vi 0, vi 0]) K6 K3 rfl rfl (eqr_struct (xs := kR_ x.Num) (ys := [vi 0, vi 0, vi 0, vi 0]) K88 K89 (pts_sc K0 rfl rfl (eqr_int K27) (pts_sc K0 rfl rfl (eqr_int K27) (pts_sc K0 rfl rfl (eqr_int K27) (pts_sc K0 rfl rfl (eqr_int K27) pts_nil))))) (pts_sc K0 rfl rfl (eqr_int K27) pts_nil)))) <| sQ 2 (yg (.bool (!(((x.Num.A == 0) && ((x.Num.B == 0) && ((x.Num.C == 0) && ((x.Num.D == 0) && true)))) && ((x.Exp == 0) && true))))) (rn (ct_ ?_))
 obtain rfl := sI hF
 exact ret1 Tryz.results90 (v1 := .bool (!(((x.Num.A == 0) && ((x.Num.B == 0) && ((x.Num.C == 0) && ((x.Num.D == 0) && true)))) && ((x.Exp == 0) && true)))) (resAt_tmp rfl) ⟨rfl, (hS1.sN [])⟩

theorem c_cmp_isNaN_int (x : Int)  (w0 : World)  (hS : ST w0 [] w0 [] []) {r_ : Bool} (hF : F_cmp_isNaN_int x = some r_) :
  CV Tryz.prog 133 #[vi x] w0 (fun v w' => v = .bool r_ ∧ ST w0 [] w' [] []) := by
 unfold F_cmp_isNaN_int at hF
 refine cv_of_cw 6 Tryz.func133 rfl Tryz.ntmps133 rfl ?_
 refine cq (cr ?_)
 refine sQ 2 (yg (.bool false)) (rn (cq (cr ?_)))
 refine sQ 3 (ym (vi x)) <| sQ 4 (ym (vi x)) <| sQ 5 (Y_ne (k := .i64) (a := x) (b := x) rfl rfl rfl) <| sQ 2 (yg (.bool (x != x))) (rn (ct_ ?_))
 obtain rfl := sI hF
 exact ret1 Tryz.results133 (v1 := .bool (x != x)) (resAt_tmp rfl) ⟨rfl, (hS.sN [])⟩

theorem c_cmp_Compare_int (x : Int) (y : Int)  (w0 : World)  (hS : ST w0 [] w0 [] []) {r_ : Int} (hF : F_cmp_Compare_int x y = some r_) :
  CV Tryz.prog 128 #[vi x, vi y] w0 (fun v w' => v = vi r_ ∧ ST w0 [] w' [] []) := by
 unfold F_cmp_Compare_int at hF
 refine cv_of_cw 20 Tryz.func128 rfl Tryz.ntmps128 rfl ?_
 refine cq (cr ?_)
 refine sQ 4 (yg (vi 0)) (rn (cq (cr ?_)))
 refine sQ 7 (ym (vi x)) ?_
 obtain ⟨r_1, hc, hF⟩ := bI hF
 refine sc 8 rfl rfl (yC [vi x] k_call_133 (c_cmp_isNaN_int x _  (hS.inn0 [] rfl) hc)) ?_
 rintro _ w_ ⟨rfl, hd⟩
 have hS1 := hS.out00 hd
 refine sQ 5 (yg (.bool r_1)) (rn (cq (cr ?_)))
 refine sQ 9 (ym (vi y)) ?_
 obtain ⟨r_2, hc1, hF⟩ := bI hF
 refine sc 10 rfl rfl (yC [vi y] k_call_133 (c_cmp_isNaN_int y _  (hS1.inn0 [] rfl) hc1)) ?_
 rintro _ w_1 ⟨rfl, hd1⟩
 have hS2 := hS1.out00 hd1
 refine sQ 6 (yg (.bool r_2)) (rn (cq (cq (cr ?_))))
 refine sQ 11 (ym (.bool r_1)) (rn ?_)
 refine cw_cond (b := r_1) rfl (fun hb => ?_) (fun hb => ?_)
 ·skip
  have hF1 := ct hF hb
  refine cq (cq (cr ?_))
  refine sQ 12 (ym (.bool r_2)) (rn ?_)
  refine cw_cond (b := r_2) rfl (fun hb1 => ?_) (fun hb1 => ?_)
  ·skip
   have hF2 := ct hF1 hb1
   refine cq (cr ?_)
   refine sQ 4 (yg (vi 0)) (rn (ct_ ?_))
   obtain rfl := sI hF2
   exact ret1 Tryz.results128 (v1 := vi 0) (resAt_tmp rfl) ⟨rfl, (hS2.sN [])⟩
  ·skip
   have hF3 := cf' hF1 hb1
   refine cw_skip (cq (cr ?_))
   refine sQ 4 (yg (vi (-1))) (rn (ct_ ?_))
   obtain rfl := sI hF3
   exact ret1 Tryz.results128 (v1 := vi (-1)) (resAt_tmp rfl) ⟨rfl, (hS2.sN [])⟩
 ·skip
  have hF4 := cf' hF hb
  refine cw_skip (cq (cq (cr ?_)))
  refine sQ 13 (ym (.bool r_2)) (rn ?_)
  refine cw_cond (b := r_2) rfl (fun hb2 => ?_) (fun hb2 => ?_)
  ·skip
   have hF5 := ct hF4 hb2
   refine cq (cr ?_)
   refine sQ 4 (yg (vi 1)) (rn (ct_ ?_))
   obtain rfl := sI hF5
   exact ret1 Tryz.results128 (v1 := vi 1) (resAt_tmp rfl) ⟨rfl, (hS2.sN [])⟩
  ·skip
   have hF6 := cf' hF4 hb2
   refine cw_skip (cq (cq (cr ?_)))
   refine sQ 14 (ym (vi x)) <| sQ 15 (ym (vi y)) <| sQ 16 (yL x y) (rn ?_)
   refine cw_cond (b := (decide (x < y))) rfl (fun hb3 => ?_) (fun hb3 => ?_)
   ·skip
    have hF7 := ct hF6 hb3
    refine cq (cr ?_)
    refine sQ 4 (yg (vi (-1))) (rn (ct_ ?_))
    obtain rfl := sI hF7
    exact ret1 Tryz.results128 (v1 := vi (-1)) (resAt_tmp rfl) ⟨rfl, (hS2.sN [])⟩
   ·skip
    have hF8 := cf' hF6 hb3
    refine cw_skip (cq (cq (cr ?_)))
    refine sQ 17 (ym (vi x)) <| sQ 18 (ym (vi y)) <| sQ 19 (Y_gt (k := .i64) (a := x) (b := y) rfl rfl rfl) (rn ?_)
    refine cw_cond (b := (decide (y < x))) rfl (fun hb4 => ?_) (fun hb4 => ?_)
    ·skip
     have hF9 := ct hF8 hb4
     refine cq (cr ?_)
     refine sQ 4 (yg (vi 1)) (rn (ct_ ?_))
     obtain rfl := sI hF9
     exact ret1 Tryz.results128 (v1 := vi 1) (resAt_tmp rfl) ⟨rfl, (hS2.sN [])⟩
    ·skip
     have hF10 := cf' hF8 hb4
     refine cw_skip (cq (cr ?_))
     refine sQ 4 (yg (vi 0)) (rn (ct_ ?_))
     obtain rfl := sI hF10
     exact ret1 Tryz.results128 (v1 := vi 0) (resAt_tmp rfl) ⟨rfl, (hS2.sN [])⟩

theorem c_slices_Compare_int_int (s1 : List Int) (s2 : List Int) (B : Option Addr) (c n : Nat) (B1 : Option Addr) (c1 n1 : Nat) (w0 : World) (hn : s1.length = n) (hn1 : s2.length = n1) (hS : ST w0 [] w0 [] [⟨B, (s1.flatMap encI)⟩, ⟨B1, (s2.flatMap encI)⟩]) {r_ : Int} (hF : F_slices_Compare_int_int s1 s2 = some r_) :
  CV Tryz.prog 114 #[.slice B n c, .slice B1 n1 c1] w0 (fun v w' => v = vi r_ ∧ ST w0 [] w' [] []) := by
 subst hn
 subst hn1
 unfold F_slices_Compare_int_int at hF
 refine cv_of_cw 36 Tryz.func114 rfl Tryz.ntmps114 rfl ?_
 refine cq (cr ?_)
 refine sQ 4 (yg (vi 0)) (rn (cq (cq (cr ?_))))
 refine sQ 9 (ym (.slice B s1.length c)) <| sQ 10 (Y_len (B := B) (m := s1.length) (c := c) K26 rfl rfl) <| sQ 11 (ym (vi 0)) (rn ?_)
 obtain ⟨hN, hF⟩ := chk_inv hF
 obtain ⟨z, hz, hF1⟩ := bI hF
 refine cw_block ?_
 refine cw_loop (fun k f w => ∃ (i : Nat), FF f [(0, .slice B s1.length c), (1, .slice B1 s2.length c1), (9, .slice B s1.length c), (10, vi (s1.length : Int)), (11, vi (i : Int))] ∧ ST w0 [] w [] [⟨B, (s1.flatMap encI)⟩, ⟨B1, (s2.flatMap encI)⟩] ∧ i + k = s1.length ∧ forX (F_slices_Compare_int_int_l1 s1 s2) k i () = some z) s1.length ⟨0, (fc rfl (fc rfl (fc rfl (fc rfl (fc rfl fn_))))), (hS.sel [] rfl rfl), Nat.zero_add _, hz⟩ ?_
 rintro k_ f w ⟨i, hf, hS1, hik, hL⟩
 refine cq (cr ?_)
 refine sQ 12 (yL (i : Int) (s1.length : Int) rfl (hf.g 11 4) (hf.g 10 3)) (rn (cq ?_))
 refine cw_cond (b := (decide ((i : Int) < (s1.length : Int)))) rfl (fun hlt => ?_) (fun hlt => ?_)
 ·skip
  have hlt1 : i < s1.length := by have h := of_decide_eq_true hlt; omega
  obtain ⟨K8, rfl⟩ : ∃ k2, k_ = k2 + 1 := ⟨k_ - 1, by omega⟩
  obtain ⟨y, hb, hL1⟩ := forX_go hL
  unfold F_slices_Compare_int_int_l1 at hb
  refine cw_skip (cq (cw_block (cq (cr ?_))))
  refine sQ 13 (ym (vi (i : Int)) rfl (hf.g 11 4)) ?_
  obtain ⟨x, hx, hb⟩ := bI hb
  refine sQ 14 (Y_index (B := B) (m := s1.length) (c := c) (k := .i64) (i := (i : Int)) K26 K1 rfl (hf.g 9 2) (hf.g 11 4) (gi_isSome encI_len rfl (hS1.rf (i := 0) rfl) hx) (getI_nn hx) (getI_ltI hx rfl)) <| sQ 15 (yl B ((i : Int).toNat * 1) (s1.flatMap encI) (vi x) K0 (hS1.rf (i := 0) rfl) rfl rfl (gi_at0 encI_len hx rfl)) <| sQ 5 (yg (vi (i : Int))) <| sQ 6 (yg (vi x)) (rn (cq (cq (cr ?_))))
  refine sQ 16 (ym (vi (i : Int))) <| sQ 17 (ym (.slice B1 s2.length c1) rfl (hf.g 1 1)) <| sQ 18 (Y_len (B := B1) (m := s2.length) (c := c1) K26 rfl rfl) <| sQ 19 (Y_ge (k := .i64) (a := (i : Int)) (b := (s2.length : Int)) rfl rfl rfl) (rn ?_)
  refine cw_cond (b := (decide ((s2.length : Int) ≤ (i : Int)))) rfl (fun hb1 => ?_) (fun hb1 => ?_)
  ·skip
   have hF2 := ct hb hb1
   refine cq (cr ?_)
   refine sQ 4 (yg (vi 1)) (rn (ct_ ?_))
   obtain rfl := sI hF2
   obtain rfl := sI hL1
   obtain rfl := sI hF1
   exact ret1 Tryz.results114 (v1 := vi 1) (resAt_tmp rfl) ⟨rfl, (hS1.sN [])⟩
  ·skip
   have hF3 := cf' hb hb1
   refine cw_skip (cq (cr ?_))
   refine sQ 20 (ym (.slice B1 s2.length c1) rfl (hf.g 1 1)) <| sQ 21 (ym (vi (i : Int))) ?_
   obtain ⟨x1, hx1, hF3⟩ := bI hF3
   refine sQ 22 (Y_index (B := B1) (m := s2.length) (c := c1) (k := .i64) (i := (i : Int)) K26 K1 rfl rfl rfl (gi_isSome encI_len rfl (hS1.rf (i := 1) rfl) hx1) (getI_nn hx1) (getI_ltI hx1 rfl)) <| sQ 23 (yl B1 ((i : Int).toNat * 1) (s2.flatMap encI) (vi x1) K0 (hS1.rf (i := 1) rfl) rfl rfl (gi_at0 encI_len hx1 rfl)) <| sQ 7 (yg (vi x1)) (rn (cq (cr ?_)))
   refine sQ 24 (ym (vi x)) <| sQ 25 (ym (vi x1)) ?_
   obtain ⟨r_1, hc, hF3⟩ := bI hF3
   refine sc 26 rfl rfl (yC [vi x, vi x1] k_call_128 (c_cmp_Compare_int x x1 _  (hS1.inn0 [] rfl) hc)) ?_
   rintro _ w_ ⟨rfl, hd⟩
   have hS2 := hS1.out00 hd
   refine sQ 8 (yg (vi r_1)) (rn (cq (cr ?_)))
   refine sQ 27 (ym (vi r_1)) <| sQ 28 (Y_ne (k := .i64) (a := r_1) (b := 0) rfl rfl rfl) (rn ?_)
   refine cw_cond (b := (r_1 != 0)) rfl (fun hb2 => ?_) (fun hb2 => ?_)
   ·skip
    have hF4 := ct hF3 hb2
    refine cq (cr ?_)
    refine sQ 29 (ym (vi r_1)) <| sQ 4 (yg (vi r_1)) (rn (ct_ ?_))
    obtain rfl := sI hF4
    obtain rfl := sI hL1
    obtain rfl := sI hF1
    exact ret1 Tryz.results114 (v1 := vi r_1) (resAt_tmp rfl) ⟨rfl, (hS2.sN [])⟩
   ·skip
    have hF5 := cf' hF3 hb2
    refine cw_skip (cr ?_)
    refine sQ 30 (yP (i : Int) 1 rfl (hf.g 11 4)) <| sQ 11 (ym (vi (i64.wrap ((i : Int) + 1)))) (rn ?_)
    obtain rfl := sI hF5
    exact ⟨K8, Nat.lt_succ_self _, i + 1, (fc (hf.g 0 0) (fc (hf.g 1 1) (fc (hf.g 9 2) (fc (hf.g 10 3) (fc (congrArg (Value.int .i64) (wr_succ hlt1 hN)) fn_))))), (hS2.sel [] rfl rfl), (by omega), hL1⟩
 ·skip
  obtain rfl : k_ = 0 := by have h := of_decide_eq_false hlt; omega
  refine cw_exit rfl ?_
  obtain rfl := sI hL
  refine cq (cq (cr ?_))
  refine sQ 31 (ym (.slice B s1.length c) rfl (hf.g 0 0)) <| sQ 32 (Y_len (B := B) (m := s1.length) (c := c) K26 rfl rfl) <| sQ 33 (ym (.slice B1 s2.length c1) rfl (hf.g 1 1)) <| sQ 34 (Y_len (B := B1) (m := s2.length) (c := c1) K26 rfl rfl) <| sQ 35 (yL (s1.length : Int) (s2.length : Int)) (rn ?_)
  refine cw_cond (b := (decide ((s1.length : Int) < (s2.length : Int)))) rfl (fun hb3 => ?_) (fun hb3 => ?_)
  ·skip
   have hF6 := ct hF1 hb3
   refine cq (cr ?_)
   refine sQ 4 (yg (vi (-1))) (rn (ct_ ?_))
   obtain rfl := sI hF6
   exact ret1 Tryz.results114 (v1 := vi (-1)) (resAt_tmp rfl) ⟨rfl, (hS1.sN [])⟩
  ·skip
   have hF7 := cf' hF1 hb3
   refine cw_skip (cq (cr ?_))
   refine sQ 4 (yg (vi 0)) (rn (ct_ ?_))
   obtain rfl := sI hF7
   exact ret1 Tryz.results114 (v1 := vi 0) (resAt_tmp rfl) ⟨rfl, (hS1.sN [])⟩

theorem c_impl_compareRings (x : TRing) (y : TRing)  (w0 : World)  (hS : ST w0 [] w0 [] []) {r_ : Int} (hF : F_impl_compareRings x y = some r_) :
  CV Tryz.prog 92 #[gR_ x, gR_ y] w0 (fun v w' => v = vi r_ ∧ ST w0 [] w' [] []) := by
 unfold F_impl_compareRings at hF
 refine cv_of_cw 24 Tryz.func92 rfl Tryz.ntmps92 rfl ?_
 refine cq (cr ?_)
 refine sS 2 (yB 89 (gR_ x) (kR_ x) 4 hS) ?_
 rintro _ w_ ⟨b, rfl, hS1⟩
 refine sS 3 (yB 89 (gR_ y) (kR_ y) 4 hS1) ?_
 rintro _ w_1 ⟨b1, rfl, hS2⟩
 refine sQ 4 (yg (vi 0)) (rn (cq (cr ?_)))
 refine sQ 5 (yd (aD b) 0 0 K12 K1) <| sQ 6 (yl (aD b) 0 (kR_ x) (vi x.A) K0 (hS2.c 0)) <| sQ 7 (yd (aD b) 0 0 K14 K1) <| sQ 8 (yl (aD b) 1 (kR_ x) (vi x.B) K0 (hS2.c 0)) <| sQ 9 (yd (aD b) 0 0 K15 K1) <| sQ 10 (yl (aD b) 2 (kR_ x) (vi x.C) K0 (hS2.c 0)) ?_
 refine sQ 11 (yd (aD b) 0 0 K16 K1) <| sQ 12 (yl (aD b) 3 (kR_ x) (vi x.D) K0 (hS2.c 0)) ?_
 refine sS 13 (Ys_bslice (s := 1) (len := 4) (vs := [(0, vi x.A), (1, vi x.B), (2, vi x.C), (3, vi x.D)]) (cs := kR_ x) (zs := [vi 0, vi 0, vi 0, vi 0]) (m := 4) hS2 K26 K1 K50 rfl (mpc rfl (mpc rfl (mpc rfl (mpc rfl mpn)))) rfl rfl rfl (by kernel_rfl) (by kernel_rfl) rfl) ?_
 rintro _ w_2 ⟨b2, rfl, hS3⟩
 refine sQ 14 (yd (aD b1) 0 0 K12 K1) <| sQ 15 (yl (aD b1) 0 (kR_ y) (vi y.A) K0 (hS3.c 1)) <| sQ 16 (yd (aD b1) 0 0 K14 K1) <| sQ 17 (yl (aD b1) 1 (kR_ y) (vi y.B) K0 (hS3.c 1)) <| sQ 18 (yd (aD b1) 0 0 K15 K1) <| sQ 19 (yl (aD b1) 2 (kR_ y) (vi y.C) K0 (hS3.c 1)) ?_
 refine sQ 20 (yd (aD b1) 0 0 K16 K1) <| sQ 21 (yl (aD b1) 3 (kR_ y) (vi y.D) K0 (hS3.c 1)) ?_
 refine sS 22 (Ys_bslice (s := 1) (len := 4) (vs := [(0, vi y.A), (1, vi y.B), (2, vi y.C), (3, vi y.D)]) (cs := kR_ y) (zs := [vi 0, vi 0, vi 0, vi 0]) (m := 4) hS3 K26 K1 K50 rfl (mpc rfl (mpc rfl (mpc rfl (mpc rfl mpn)))) rfl rfl rfl (by kernel_rfl) (by kernel_rfl) rfl) ?_
 rintro _ w_3 ⟨b3, rfl, hS4⟩
 obtain ⟨r_1, hc, hF⟩ := bI hF
 refine sc 23 rfl rfl (yC [.slice (aD b2) 4 4, .slice (aD b3) 4 4] k_call_114 (c_slices_Compare_int_int [x.A, x.B, x.C, x.D] [y.A, y.B, y.C, y.D] (aD b2) 4 4 (aD b3) 4 4 _ rfl rfl (hS4.inn0 [(false, 2), (false, 3)] rfl) hc)) ?_
 rintro _ w_4 ⟨rfl, hd⟩
 have hS5 := hS4.out00 hd
 refine sQ 4 (yg (vi r_1)) (rn (ct_ ?_))
 obtain rfl := sI hF
 exact ret1 Tryz.results92 (v1 := vi r_1) (resAt_tmp rfl) ⟨rfl, (hS5.sN [])⟩

theorem c_impl_ringIf (out : TRing) (args : List TRing) (B : Option Addr) (c n : Nat) (w0 : World) (hn : args.length = n) (hS : ST w0 (bl [⟨B, 89, (args.flatMap enc_Ring), c * 4⟩]) w0 [⟨B, 89, (args.flatMap enc_Ring), c * 4⟩] []) {r_ : TRing} {r_1 : Bool} (hF : F_impl_ringIf out args = some (r_, r_1)) :
  CV Tryz.prog 121 #[gR_ out, .slice B n c] w0 (fun v w' => v = .tuple #[gR_ r_, .bool r_1] ∧ ST w0 (bl [⟨B, 89, (args.flatMap enc_Ring), c * 4⟩]) w' [] []) := by
 subst hn
 unfold F_impl_ringIf at hF
 refine cv_of_cw 23 Tryz.func121 rfl Tryz.ntmps121 rfl ?_
 refine cq (cr ?_)
 refine sS 2 (yB 89 (gR_ out) (kR_ out) 4 hS) ?_
 rintro _ w_ ⟨b, rfl, hS1⟩
 refine sS 4 (yN [vi 0, vi 0, vi 0, vi 0] 4 hS1 K10) ?_
 rintro _ w_1 ⟨b1, rfl, hS2⟩
 refine sQ 5 (yg (.bool false)) (rn (cq (cq (cr ?_))))
 refine sQ 8 (ym (.slice B args.length c)) <| sQ 9 (yb (aD b) 0 (kR_ out) K6 K3 (hS2.c 1)) ?_
 refine sS 10 (Ys_bslice (s := 4) (len := 1) (vs := [(0, gR_ out)]) (cs := kR_ out) (zs := [vi 0, vi 0, vi 0, vi 0]) (m := 4) hS2 K53 K3 K72 rfl (mpc rfl mpn) rfl rfl rfl (by kernel_rfl) (by kernel_rfl) rfl) ?_
 rintro _ w_2 ⟨b2, rfl, hS3⟩
 obtain ⟨hap, hF⟩ := chk_inv hF
 refine sS 11 (Ys_append (s := 4) (by' := 32) (i := 0) (nn := args.length) (c := c) (k := 1) (len := (args ++ [out]).length) (B := B) (xs := ([out].flatMap enc_Ring)) (cs' := ((args ++ [out]).flatMap enc_Ring)) hS3 K53 K3 k_by_89_32 K10 rfl (by decide) rfl rfl rfl rfl (fm_lenn (l := args) enc_Ring_len rfl) rfl (hS3.c 3) (fm_lenn (l := [out]) enc_Ring_len rfl) (fm_one' (enc := enc_Ring) enc_Ring_one [out]) (by have := hap; omega) (by have := hap; simp only [maxLen]; omega) (fm_app _ _) (app_len (l := args) (l' := [out]) rfl rfl)) ?_
 rintro _ w_3 ⟨B1, c1, rfl, hS4⟩
 refine sQ 12 (Y_len (B := B1) (m := (args ++ [out]).length) (c := c1) K53 rfl rfl) <| sQ 13 (ym (vi 0)) (rn ?_)
 obtain ⟨hN, hF⟩ := chk_inv hF
 obtain ⟨z, hz, hF1⟩ := bI hF
 refine cw_block ?_
 refine cw_loop (fun k f w => ∃ (i : Nat), FF f [(2, pt (aD b) 0), (4, pt (aD b1) 0), (11, .slice B1 ((args ++ [out]).length) c1), (12, vi ((args ++ [out]).length : Int)), (13, vi (i : Int))] ∧ ST w0 (bl [⟨B, 89, (args.flatMap enc_Ring), c * 4⟩]) w [⟨aD b, 89, kR_ out, 4⟩, ⟨aD b1, 89, [vi 0, vi 0, vi 0, vi 0], 4⟩, ⟨B1, 89, ((args ++ [out]).flatMap enc_Ring), c1 * 4⟩] [] ∧ i + k = (args ++ [out]).length ∧ forX (F_impl_ringIf_l1 args out) k i () = some z) ((args ++ [out]).length) ⟨0, (fc rfl (fc rfl (fc rfl (fc rfl (fc rfl fn_))))), (hS4.sel [1, 2, 0] rfl rfl), Nat.zero_add _, hz⟩ ?_
 rintro k_ f w ⟨i, hf, hS5, hik, hL⟩
 refine cq (cr ?_)
 refine sQ 14 (yL (i : Int) ((args ++ [out]).length : Int) rfl (hf.g 13 4) (hf.g 12 3)) (rn (cq ?_))
 refine cw_cond (b := (decide ((i : Int) < ((args ++ [out]).length : Int)))) rfl (fun hlt => ?_) (fun hlt => ?_)
 ·skip
  have hlt1 : i < (args ++ [out]).length := by have h := of_decide_eq_true hlt; omega
  obtain ⟨K8, rfl⟩ : ∃ k2, k_ = k2 + 1 := ⟨k_ - 1, by omega⟩
  obtain ⟨y, hb, hL1⟩ := forX_go hL
  unfold F_impl_ringIf_l1 at hb
  refine cw_skip (cq (cw_block (cq (cr ?_))))
  obtain ⟨x, hx, hb⟩ := bI hb
  refine sQ 15 (Y_index (B := B1) (m := (args ++ [out]).length) (c := c1) (k := .i64) (i := (i : Int)) K53 K3 rfl (hf.g 11 2) (hf.g 13 4) (gi_isSome enc_Ring_len rfl (hS5.c 2) hx) (getI_nn hx) (getI_ltI hx rfl)) <| sQ 16 (ya B1 ((i : Int).toNat * 4) ((args ++ [out]).flatMap enc_Ring) (kR_ x) K6 K3 (hS5.c 2) rfl rfl (enc_Ring_len x) (gi_seg enc_Ring_len hx)) ?_
  refine sS 7 (yN [vi 0, vi 0, vi 0, vi 0] 4 hS5 K10) ?_
  rintro _ w_4 ⟨b3, rfl, hS6⟩
  refine s0 (yT 3 4 (aD b3) 89 (gR_ x) (kR_ x) 0 hS6 K3) ?_
  rintro _ w_5 ⟨rfl, hS7⟩
  refine rn (cq (cr ?_))
  refine sQ 17 (yb (aD b3) 0 (kR_ x) K6 K3 (hS7.c 3)) ?_
  obtain ⟨r_2, hc, hb⟩ := bI hb
  refine sc 18 rfl rfl (yC [gR_ x] K62 (c_impl_IsValidRing x _  (hS7.inn0 [] rfl) hc)) ?_
  rintro _ w_6 ⟨rfl, hd⟩
  have hS8 := hS7.out00 hd
  refine sQ 19 (Y_not (p := r_2) rfl rfl) (rn ?_)
  refine cw_cond (b := (!r_2)) rfl (fun hb1 => ?_) (fun hb1 => ?_)
  ·skip
   have hF2 := ct hb hb1
   refine cq (cr ?_)
   refine sQ 20 (Y_buildS (zs := [vi 0, vi 0, vi 0, vi 0]) (vs := []) (cs := [vi 0, vi 0, vi 0, vi 0]) K29 K10 rfl mpn rfl) ?_
   refine s0 (yT 1 4 (aD b1) 89 (.agg #[vi 0, vi 0, vi 0, vi 0]) [vi 0, vi 0, vi 0, vi 0] 0 hS8 K3 rfl (hf.g 4 1)) ?_
   rintro _ w_7 ⟨rfl, hS9⟩
   refine sQ 5 (yg (.bool false)) (rn (ct_ ?_))
   obtain rfl := sI hF2
   obtain rfl := sI hL1
   obtain ⟨rfl, rfl⟩ := pr2 (sI hF1)
   exact ret2 Tryz.results121 (v1 := .agg #[vi 0, vi 0, vi 0, vi 0]) (resAt_cellA (B := aD b1) (i := 0) (cs := [vi 0, vi 0, vi 0, vi 0]) (vs := [vi 0, vi 0, vi 0, vi 0]) (hf.g 4 1) K6 K3 (hS9.c 1) rfl rfl) (v2 := .bool false) (resAt_tmp rfl) ⟨rfl, (hS9.sN [])⟩
  ·skip
   have hF3 := cf' hb hb1
   refine cw_skip (cr ?_)
   refine sQ 21 (yP (i : Int) 1 rfl (hf.g 13 4)) <| sQ 13 (ym (vi (i64.wrap ((i : Int) + 1)))) (rn ?_)
   obtain rfl := sI hF3
   exact ⟨K8, Nat.lt_succ_self _, i + 1, (fc (hf.g 2 0) (fc (hf.g 4 1) (fc (hf.g 11 2) (fc (hf.g 12 3) (fc (congrArg (Value.int .i64) (wr_succ hlt1 hN)) fn_))))), (hS8.sel [0, 1, 2] rfl rfl), (by omega), hL1⟩
 ·skip
  obtain rfl : k_ = 0 := by have h := of_decide_eq_false hlt; omega
  refine cw_exit rfl ?_
  obtain rfl := sI hL
  refine cq (cr ?_)
  refine sQ 22 (yb (aD b) 0 (kR_ out) K6 K3 (hS5.c 0) rfl (hf.g 2 0)) ?_
  refine s0 (yT 1 4 (aD b1) 89 (gR_ out) (kR_ out) 0 hS5 K3 rfl (hf.g 4 1)) ?_
  rintro _ w_8 ⟨rfl, hS10⟩
  refine sQ 5 (yg (.bool true)) (rn (ct_ ?_))
  obtain ⟨rfl, rfl⟩ := pr2 (sI hF1)
  exact ret2 Tryz.results121 (v1 := gR_ out) (resAt_cellA (B := aD b1) (i := 0) (cs := kR_ out) (vs := kR_ out) (hf.g 4 1) K6 K3 (hS10.c 1) rfl rfl) (v2 := .bool true) (resAt_tmp rfl) ⟨rfl, (hS10.sN [])⟩

theorem c_impl_MulRing (x : TRing) (y : TRing)  (w0 : World)  (hS : ST w0 [] w0 [] []) {r_ : TRing} {r_1 : Bool} (hF : F_impl_MulRing x y = some (r_, r_1)) :
  CV Tryz.prog 102 #[gR_ x, gR_ y] w0 (fun v w' => v = .tuple #[gR_ r_, .bool r_1] ∧ ST w0 [] w' [] []) := by
 unfold F_impl_MulRing at hF
 refine cv_of_cw 105 Tryz.func102 rfl Tryz.ntmps102 rfl ?_
 refine cq (cr ?_)
 refine sS 2 (yB 89 (gR_ x) (kR_ x) 4 hS) ?_
 rintro _ w_ ⟨b, rfl, hS1⟩
 refine sS 3 (yB 89 (gR_ y) (kR_ y) 4 hS1) ?_
 rintro _ w_1 ⟨b1, rfl, hS2⟩
 refine sS 4 (yN [vi 0, vi 0, vi 0, vi 0] 4 hS2 K10) ?_
 rintro _ w_2 ⟨b2, rfl, hS3⟩
 refine sQ 5 (yg (.bool false)) (rn (cq (cr ?_)))
 refine sQ 6 (yd (aD b) 0 0 K12 K1) <| sQ 7 (yl (aD b) 0 (kR_ x) (vi x.A) K0 (hS3.c 0)) <| sQ 8 (yd (aD b1) 0 0 K12 K1) <| sQ 9 (yl (aD b1) 0 (kR_ y) (vi y.A) K0 (hS3.c 1)) <| sQ 10 (yX x.A y.A) <| sQ 11 (yd (aD b) 0 0 K14 K1) ?_
 refine sQ 12 (yl (aD b) 1 (kR_ x) (vi x.B) K0 (hS3.c 0)) <| sQ 13 (yd (aD b1) 0 0 K16 K1) <| sQ 14 (yl (aD b1) 3 (kR_ y) (vi y.D) K0 (hS3.c 1)) <| sQ 15 (yX x.B y.D) <| sQ 16 (yM (i64.wrap (x.A * y.A)) (i64.wrap (x.B * y.D))) <| sQ 17 (yd (aD b) 0 0 K15 K1) ?_
 refine sQ 18 (yl (aD b) 2 (kR_ x) (vi x.C) K0 (hS3.c 0)) <| sQ 19 (yd (aD b1) 0 0 K15 K1) <| sQ 20 (yl (aD b1) 2 (kR_ y) (vi y.C) K0 (hS3.c 1)) <| sQ 21 (yX x.C y.C) <| sQ 22 (yM (i64.wrap ((i64.wrap (x.A * y.A)) - (i64.wrap (x.B * y.D)))) (i64.wrap (x.C * y.C))) <| sQ 23 (yd (aD b) 0 0 K16 K1) ?_
 refine sQ 24 (yl (aD b) 3 (kR_ x) (vi x.D) K0 (hS3.c 0)) <| sQ 25 (yd (aD b1) 0 0 K14 K1) <| sQ 26 (yl (aD b1) 1 (kR_ y) (vi y.B) K0 (hS3.c 1)) <| sQ 27 (yX x.D y.B) <| sQ 28 (yM (i64.wrap ((i64.wrap ((i64.wrap (x.A * y.A)) - (i64.wrap (x.B * y.D)))) - (i64.wrap (x.C * y.C)))) (i64.wrap (x.D * y.B))) <| sQ 29 (yd (aD b) 0 0 K12 K1) ?_
 refine sQ 30 (yl (aD b) 0 (kR_ x) (vi x.A) K0 (hS3.c 0)) <| sQ 31 (yd (aD b1) 0 0 K14 K1) <| sQ 32 (yl (aD b1) 1 (kR_ y) (vi y.B) K0 (hS3.c 1)) <| sQ 33 (yX x.A y.B) <| sQ 34 (yd (aD b) 0 0 K14 K1) <| sQ 35 (yl (aD b) 1 (kR_ x) (vi x.B) K0 (hS3.c 0)) ?_
 refine sQ 36 (yd (aD b1) 0 0 K12 K1) <| sQ 37 (yl (aD b1) 0 (kR_ y) (vi y.A) K0 (hS3.c 1)) <| sQ 38 (yX x.B y.A) <| sQ 39 (yP (i64.wrap (x.A * y.B)) (i64.wrap (x.B * y.A))) <| sQ 40 (yd (aD b) 0 0 K15 K1) <| sQ 41 (yl (aD b) 2 (kR_ x) (vi x.C) K0 (hS3.c 0)) ?_
 refine sQ 42 (yd (aD b1) 0 0 K16 K1) <| sQ 43 (yl (aD b1) 3 (kR_ y) (vi y.D) K0 (hS3.c 1)) <| sQ 44 (yX x.C y.D) <| sQ 45 (yM (i64.wrap ((i64.wrap (x.A * y.B)) + (i64.wrap (x.B * y.A)))) (i64.wrap (x.C * y.D))) <| sQ 46 (yd (aD b) 0 0 K16 K1) <| sQ 47 (yl (aD b) 3 (kR_ x) (vi x.D) K0 (hS3.c 0)) ?_
 refine sQ 48 (yd (aD b1) 0 0 K15 K1) <| sQ 49 (yl (aD b1) 2 (kR_ y) (vi y.C) K0 (hS3.c 1)) <| sQ 50 (yX x.D y.C) <| sQ 51 (yM (i64.wrap ((i64.wrap ((i64.wrap (x.A * y.B)) + (i64.wrap (x.B * y.A)))) - (i64.wrap (x.C * y.D)))) (i64.wrap (x.D * y.C))) <| sQ 52 (yd (aD b) 0 0 K12 K1) <| sQ 53 (yl (aD b) 0 (kR_ x) (vi x.A) K0 (hS3.c 0)) ?_
 refine sQ 54 (yd (aD b1) 0 0 K15 K1) <| sQ 55 (yl (aD b1) 2 (kR_ y) (vi y.C) K0 (hS3.c 1)) <| sQ 56 (yX x.A y.C) <| sQ 57 (yd (aD b) 0 0 K14 K1) <| sQ 58 (yl (aD b) 1 (kR_ x) (vi x.B) K0 (hS3.c 0)) <| sQ 59 (yd (aD b1) 0 0 K14 K1) ?_
 refine sQ 60 (yl (aD b1) 1 (kR_ y) (vi y.B) K0 (hS3.c 1)) <| sQ 61 (yX x.B y.B) <| sQ 62 (yP (i64.wrap (x.A * y.C)) (i64.wrap (x.B * y.B))) <| sQ 63 (yd (aD b) 0 0 K15 K1) <| sQ 64 (yl (aD b) 2 (kR_ x) (vi x.C) K0 (hS3.c 0)) <| sQ 65 (yd (aD b1) 0 0 K12 K1) ?_
 refine sQ 66 (yl (aD b1) 0 (kR_ y) (vi y.A) K0 (hS3.c 1)) <| sQ 67 (yX x.C y.A) <| sQ 68 (yP (i64.wrap ((i64.wrap (x.A * y.C)) + (i64.wrap (x.B * y.B)))) (i64.wrap (x.C * y.A))) <| sQ 69 (yd (aD b) 0 0 K16 K1) <| sQ 70 (yl (aD b) 3 (kR_ x) (vi x.D) K0 (hS3.c 0)) <| sQ 71 (yd (aD b1) 0 0 K16 K1) ?_
 refine sQ 72 (yl (aD b1) 3 (kR_ y) (vi y.D) K0 (hS3.c 1)) <| sQ 73 (yX x.D y.D) <| sQ 74 (yM (i64.wrap ((i64.wrap ((i64.wrap (x.A * y.C)) + (i64.wrap (x.B * y.B)))) + (i64.wrap (x.C * y.A)))) (i64.wrap (x.D * y.D))) <| sQ 75 (yd (aD b) 0 0 K12 K1) <| sQ 76 (yl (aD b) 0 (kR_ x) (vi x.A) K0 (hS3.c 0)) <| sQ 77 (yd (aD b1) 0 0 K16 K1) ?_
 refine sQ 78 (yl (aD b1) 3 (kR_ y) (vi y.D) K0 (hS3.c 1)) <| sQ 79 (yX x.A y.D) <| sQ 80 (yd (aD b) 0 0 K14 K1) <| sQ 81 (yl (aD b) 1 (kR_ x) (vi x.B) K0 (hS3.c 0)) <| sQ 82 (yd (aD b1) 0 0 K15 K1) <| sQ 83 (yl (aD b1) 2 (kR_ y) (vi y.C) K0 (hS3.c 1)) ?_
 refine sQ 84 (yX x.B y.C) <| sQ 85 (yP (i64.wrap (x.A * y.D)) (i64.wrap (x.B * y.C))) <| sQ 86 (yd (aD b) 0 0 K15 K1) <| sQ 87 (yl (aD b) 2 (kR_ x) (vi x.C) K0 (hS3.c 0)) <| sQ 88 (yd (aD b1) 0 0 K14 K1) <| sQ 89 (yl (aD b1) 1 (kR_ y) (vi y.B) K0 (hS3.c 1)) ?_
 refine sQ 90 (yX x.C y.B) <| sQ 91 (yP (i64.wrap ((i64.wrap (x.A * y.D)) + (i64.wrap (x.B * y.C)))) (i64.wrap (x.C * y.B))) <| sQ 92 (yd (aD b) 0 0 K16 K1) <| sQ 93 (yl (aD b) 3 (kR_ x) (vi x.D) K0 (hS3.c 0)) <| sQ 94 (yd (aD b1) 0 0 K12 K1) <| sQ 95 (yl (aD b1) 0 (kR_ y) (vi y.A) K0 (hS3.c 1)) ?_
 refine sQ 96 (yX x.D y.A) <| sQ 97 (yP (i64.wrap ((i64.wrap ((i64.wrap (x.A * y.D)) + (i64.wrap (x.B * y.C)))) + (i64.wrap (x.C * y.B)))) (i64.wrap (x.D * y.A))) <| sQ 98 (Y_buildS (zs := [vi 0, vi 0, vi 0, vi 0]) (vs := [(0, vi (i64.wrap ((i64.wrap ((i64.wrap ((i64.wrap (x.A * y.A)) - (i64.wrap (x.B * y.D)))) - (i64.wrap (x.C * y.C)))) - (i64.wrap (x.D * y.B))))), (1, vi (i64.wrap ((i64.wrap ((i64.wrap ((i64.wrap (x.A * y.B)) + (i64.wrap (x.B * y.A)))) - (i64.wrap (x.C * y.D)))) - (i64.wrap (x.D * y.C))))), (2, vi (i64.wrap ((i64.wrap ((i64.wrap ((i64.wrap (x.A * y.C)) + (i64.wrap (x.B * y.B)))) + (i64.wrap (x.C * y.A)))) - (i64.wrap (x.D * y.D))))), (3, vi (i64.wrap ((i64.wrap ((i64.wrap ((i64.wrap (x.A * y.D)) + (i64.wrap (x.B * y.C)))) + (i64.wrap (x.C * y.B)))) + (i64.wrap (x.D * y.A)))))]) (cs := [vi (i64.wrap ((i64.wrap ((i64.wrap ((i64.wrap (x.A * y.A)) - (i64.wrap (x.B * y.D)))) - (i64.wrap (x.C * y.C)))) - (i64.wrap (x.D * y.B)))), vi (i64.wrap ((i64.wrap ((i64.wrap ((i64.wrap (x.A * y.B)) + (i64.wrap (x.B * y.A)))) - (i64.wrap (x.C * y.D)))) - (i64.wrap (x.D * y.C)))), vi (i64.wrap ((i64.wrap ((i64.wrap ((i64.wrap (x.A * y.C)) + (i64.wrap (x.B * y.B)))) + (i64.wrap (x.C * y.A)))) - (i64.wrap (x.D * y.D)))), vi (i64.wrap ((i64.wrap ((i64.wrap ((i64.wrap (x.A * y.D)) + (i64.wrap (x.B * y.C)))) + (i64.wrap (x.C * y.B)))) + (i64.wrap (x.D * y.A))))]) K29 K10 rfl (mpc rfl (mpc rfl (mpc rfl (mpc rfl mpn)))) rfl) <| sQ 99 (yb (aD b) 0 (kR_ x) K6 K3 (hS3.c 0)) <| sQ 100 (yb (aD b1) 0 (kR_ y) K6 K3 (hS3.c 1)) ?_
 refine sS 101 (Ys_bslice (s := 4) (len := 2) (vs := [(0, gR_ x), (1, gR_ y)]) (cs := [vi x.A, vi x.B, vi x.C, vi x.D, vi y.A, vi y.B, vi y.C, vi y.D]) (zs := [vi 0, vi 0, vi 0, vi 0, vi 0, vi 0, vi 0, vi 0]) (m := 8) hS3 K53 K3 K72 rfl (mpc rfl (mpc rfl mpn)) rfl rfl rfl (by kernel_rfl) (by kernel_rfl) rfl) ?_
 rintro _ w_3 ⟨b3, rfl, hS4⟩
 obtain ⟨⟨r_2, r_3⟩, hc, hF⟩ := bI hF
 refine sc 102 rfl rfl (yC [.agg #[vi (i64.wrap ((i64.wrap ((i64.wrap ((i64.wrap (x.A * y.A)) - (i64.wrap (x.B * y.D)))) - (i64.wrap (x.C * y.C)))) - (i64.wrap (x.D * y.B)))), vi (i64.wrap ((i64.wrap ((i64.wrap ((i64.wrap (x.A * y.B)) + (i64.wrap (x.B * y.A)))) - (i64.wrap (x.C * y.D)))) - (i64.wrap (x.D * y.C)))), vi (i64.wrap ((i64.wrap ((i64.wrap ((i64.wrap (x.A * y.C)) + (i64.wrap (x.B * y.B)))) + (i64.wrap (x.C * y.A)))) - (i64.wrap (x.D * y.D)))), vi (i64.wrap ((i64.wrap ((i64.wrap ((i64.wrap (x.A * y.D)) + (i64.wrap (x.B * y.C)))) + (i64.wrap (x.C * y.B)))) + (i64.wrap (x.D * y.A))))], .slice (aD b3) 2 2] K80 (c_impl_ringIf (TRing.mk (i64.wrap ((i64.wrap ((i64.wrap ((i64.wrap (x.A * y.A)) - (i64.wrap (x.B * y.D)))) - (i64.wrap (x.C * y.C)))) - (i64.wrap (x.D * y.B)))) (i64.wrap ((i64.wrap ((i64.wrap ((i64.wrap (x.A * y.B)) + (i64.wrap (x.B * y.A)))) - (i64.wrap (x.C * y.D)))) - (i64.wrap (x.D * y.C)))) (i64.wrap ((i64.wrap ((i64.wrap ((i64.wrap (x.A * y.C)) + (i64.wrap (x.B * y.B)))) + (i64.wrap (x.C * y.A)))) - (i64.wrap (x.D * y.D)))) (i64.wrap ((i64.wrap ((i64.wrap ((i64.wrap (x.A * y.D)) + (i64.wrap (x.B * y.C)))) + (i64.wrap (x.C * y.B)))) + (i64.wrap (x.D * y.A))))) [x, y] (aD b3) 2 2 _ rfl (hS4.inn [false, false, false, true] rfl [] rfl) hc)) ?_
 rintro _ w_4 ⟨rfl, hd⟩
 have hS5 := hS4.out [false, false, false, true] rfl hd
 refine sQ 103 (ye (gR_ r_2)) <| sQ 104 (ye (.bool r_3)) ?_
 refine s0 (yT 2 4 (aD b2) 89 (gR_ r_2) (kR_ r_2) 0 hS5 K3) ?_
 rintro _ w_5 ⟨rfl, hS6⟩
 refine sQ 5 (yg (.bool r_3)) (rn (ct_ ?_))
 obtain ⟨rfl, rfl⟩ := pr2 (sI hF)
 exact ret2 Tryz.results102 (v1 := gR_ r_2) (resAt_cellA (B := aD b2) (i := 0) (cs := kR_ r_2) (vs := kR_ r_2) rfl K6 K3 (hS6.c 2) rfl rfl) (v2 := .bool r_3) (resAt_tmp rfl) ⟨rfl, (hS6.sN [])⟩

theorem c_impl_DivRootTwo (x : TRing)  (w0 : World)  (hS : ST w0 [] w0 [] []) {r_ : TRing} {r_1 : Bool} (hF : F_impl_DivRootTwo x = some (r_, r_1)) :
  CV Tryz.prog 122 #[gR_ x] w0 (fun v w' => v = .tuple #[gR_ r_, .bool r_1] ∧ ST w0 [] w' [] []) := by
 unfold F_impl_DivRootTwo at hF
 refine cv_of_cw 43 Tryz.func122 rfl Tryz.ntmps122 rfl ?_
 refine cq (cr ?_)
 refine sS 1 (yB 89 (gR_ x) (kR_ x) 4 hS) ?_
 rintro _ w_ ⟨b, rfl, hS1⟩
 refine sS 2 (yN [vi 0, vi 0, vi 0, vi 0] 4 hS1 K10) ?_
 rintro _ w_1 ⟨b1, rfl, hS2⟩
 refine sQ 3 (yg (.bool false)) (rn (cq (cq (cr ?_))))
 refine sQ 4 (yb (aD b) 0 (kR_ x) K6 K3 (hS2.c 0)) ?_
 obtain ⟨r_2, hc, hF⟩ := bI hF
 refine sc 5 rfl rfl (yC [gR_ x] K62 (c_impl_IsValidRing x _  (hS2.inn0 [] rfl) hc)) ?_
 rintro _ w_2 ⟨rfl, hd⟩
 have hS3 := hS2.out00 hd
 refine sQ 6 (Y_not (p := r_2) rfl rfl) <| sQ 7 (ym (.bool (!r_2))) ?_
 refine sgq 8 (B := (!(!r_2))) (v := gR_ x) rfl rfl (uF_ 7) (fun hg => (yb (aD b) 0 (kR_ x) K6 K3 (hS3.c 0))) ?_
 obtain ⟨r_3, hc1, hF⟩ := bI hF
 refine sgc 9 (B := (!(!r_2))) (v := .bool r_3) (F := hS3.fn) rfl rfl (uF_ 7) hS3 (fun hg1 => (yC [gR_ x] K95 (CV.mono (c_impl_isEven x _  (hS3.inn0 [] rfl) (gb_inv hc1 hg1)) (by rintro _ _ ⟨rfl, h⟩; exact ⟨rfl, hS3.out00 h⟩)) rfl (mc (gv_of (v := gR_ x) hg1) mn))) ?_
 rintro w_3 hS4
 refine sgq 10 (B := (!(!r_2))) (v := .bool (!r_3)) rfl rfl (uF_ 7) (fun hg2 => (Y_not (p := r_3) rfl (gv_of (v := .bool r_3) hg2))) ?_
 refine sQ 11 (Y_or (b := (!r_2)) (z := (!r_3)) rfl rfl rfl rfl) (rn ?_)
 refine cw_cond (b := ((!r_2) || (!r_3))) rfl (fun hb => ?_) (fun hb => ?_)
 ·skip
  have hF1 := ct hF hb
  refine cq (cr ?_)
  refine sQ 12 (Y_buildS (zs := [vi 0, vi 0, vi 0, vi 0]) (vs := []) (cs := [vi 0, vi 0, vi 0, vi 0]) K29 K10 rfl mpn rfl) ?_
  refine s0 (yT 1 4 (aD b1) 89 (.agg #[vi 0, vi 0, vi 0, vi 0]) [vi 0, vi 0, vi 0, vi 0] 0 hS4 K3) ?_
  rintro _ w_4 ⟨rfl, hS5⟩
  refine sQ 3 (yg (.bool false)) (rn (ct_ ?_))
  obtain ⟨rfl, rfl⟩ := pr2 (sI hF1)
  exact ret2 Tryz.results122 (v1 := .agg #[vi 0, vi 0, vi 0, vi 0]) (resAt_cellA (B := aD b1) (i := 0) (cs := [vi 0, vi 0, vi 0, vi 0]) (vs := [vi 0, vi 0, vi 0, vi 0]) rfl K6 K3 (hS5.c 1) rfl rfl) (v2 := .bool false) (resAt_tmp rfl) ⟨rfl, (hS5.sN [])⟩
 ·skip
  have hF2 := cf' hF hb
  refine cw_skip (cq (cr ?_))
  refine sQ 13 (yd (aD b) 0 0 K14 K1) <| sQ 14 (yl (aD b) 1 (kR_ x) (vi x.B) K0 (hS4.c 0)) <| sQ 15 (yd (aD b) 0 0 K16 K1) <| sQ 16 (yl (aD b) 3 (kR_ x) (vi x.D) K0 (hS4.c 0)) <| sQ 17 (yM x.B x.D) <| sQ 18 (Y_quo (k := .i64) (a := (i64.wrap (x.B - x.D))) (b := 2) rfl rfl rfl (by decide)) ?_
  refine sQ 19 (yd (aD b) 0 0 K12 K1) <| sQ 20 (yl (aD b) 0 (kR_ x) (vi x.A) K0 (hS4.c 0)) <| sQ 21 (yd (aD b) 0 0 K15 K1) <| sQ 22 (yl (aD b) 2 (kR_ x) (vi x.C) K0 (hS4.c 0)) <| sQ 23 (yP x.A x.C) <| sQ 24 (Y_quo (k := .i64) (a := (i64.wrap (x.A + x.C))) (b := 2) rfl rfl rfl (by decide)) ?_
  refine sQ 25 (yd (aD b) 0 0 K14 K1) <| sQ 26 (yl (aD b) 1 (kR_ x) (vi x.B) K0 (hS4.c 0)) <| sQ 27 (yd (aD b) 0 0 K16 K1) <| sQ 28 (yl (aD b) 3 (kR_ x) (vi x.D) K0 (hS4.c 0)) <| sQ 29 (yP x.B x.D) <| sQ 30 (Y_quo (k := .i64) (a := (i64.wrap (x.B + x.D))) (b := 2) rfl rfl rfl (by decide)) ?_
  refine sQ 31 (yd (aD b) 0 0 K15 K1) <| sQ 32 (yl (aD b) 2 (kR_ x) (vi x.C) K0 (hS4.c 0)) <| sQ 33 (yd (aD b) 0 0 K12 K1) <| sQ 34 (yl (aD b) 0 (kR_ x) (vi x.A) K0 (hS4.c 0)) <| sQ 35 (yM x.C x.A) <| sQ 36 (Y_quo (k := .i64) (a := (i64.wrap (x.C - x.A))) (b := 2) rfl rfl rfl (by decide)) ?_
  refine sQ 37 (Y_buildS (zs := [vi 0, vi 0, vi 0, vi 0]) (vs := [(0, vi (i64.wrap (Int.tdiv (i64.wrap (x.B - x.D)) 2))), (1, vi (i64.wrap (Int.tdiv (i64.wrap (x.A + x.C)) 2))), (2, vi (i64.wrap (Int.tdiv (i64.wrap (x.B + x.D)) 2))), (3, vi (i64.wrap (Int.tdiv (i64.wrap (x.C - x.A)) 2)))]) (cs := [vi (i64.wrap (Int.tdiv (i64.wrap (x.B - x.D)) 2)), vi (i64.wrap (Int.tdiv (i64.wrap (x.A + x.C)) 2)), vi (i64.wrap (Int.tdiv (i64.wrap (x.B + x.D)) 2)), vi (i64.wrap (Int.tdiv (i64.wrap (x.C - x.A)) 2))]) K29 K10 rfl (mpc rfl (mpc rfl (mpc rfl (mpc rfl mpn)))) rfl) <| sQ 38 (yb (aD b) 0 (kR_ x) K6 K3 (hS4.c 0)) ?_
  refine sS 39 (Ys_bslice (s := 4) (len := 1) (vs := [(0, gR_ x)]) (cs := kR_ x) (zs := [vi 0, vi 0, vi 0, vi 0]) (m := 4) hS4 K53 K3 K72 rfl (mpc rfl mpn) rfl rfl rfl (by kernel_rfl) (by kernel_rfl) rfl) ?_
  rintro _ w_5 ⟨b2, rfl, hS6⟩
  obtain ⟨⟨r_4, r_5⟩, hc2, hF2⟩ := bI hF2
  refine sc 40 rfl rfl (yC [.agg #[vi (i64.wrap (Int.tdiv (i64.wrap (x.B - x.D)) 2)), vi (i64.wrap (Int.tdiv (i64.wrap (x.A + x.C)) 2)), vi (i64.wrap (Int.tdiv (i64.wrap (x.B + x.D)) 2)), vi (i64.wrap (Int.tdiv (i64.wrap (x.C - x.A)) 2))], .slice (aD b2) 1 1] K80 (c_impl_ringIf (TRing.mk (i64.wrap (Int.tdiv (i64.wrap (x.B - x.D)) 2)) (i64.wrap (Int.tdiv (i64.wrap (x.A + x.C)) 2)) (i64.wrap (Int.tdiv (i64.wrap (x.B + x.D)) 2)) (i64.wrap (Int.tdiv (i64.wrap (x.C - x.A)) 2))) [x] (aD b2) 1 1 _ rfl (hS6.inn [false, false, true] rfl [] rfl) hc2)) ?_
  rintro _ w_6 ⟨rfl, hd1⟩
  have hS7 := hS6.out [false, false, true] rfl hd1
  refine sQ 41 (ye (gR_ r_4)) <| sQ 42 (ye (.bool r_5)) ?_
  refine s0 (yT 1 4 (aD b1) 89 (gR_ r_4) (kR_ r_4) 0 hS7 K3) ?_
  rintro _ w_7 ⟨rfl, hS8⟩
  refine sQ 3 (yg (.bool r_5)) (rn (ct_ ?_))
  obtain ⟨rfl, rfl⟩ := pr2 (sI hF2)
  exact ret2 Tryz.results122 (v1 := gR_ r_4) (resAt_cellA (B := aD b1) (i := 0) (cs := kR_ r_4) (vs := kR_ r_4) rfl K6 K3 (hS8.c 1) rfl rfl) (v2 := .bool r_5) (resAt_tmp rfl) ⟨rfl, (hS8.sN [])⟩

theorem c_impl_DyadicOf (num : TRing) (exp : Int)  (w0 : World)  (hS : ST w0 [] w0 [] []) {r_ : TDyadic} {r_1 : Bool} (hF : F_impl_DyadicOf num exp = some (r_, r_1)) :
  CV Tryz.prog 103 #[gR_ num, vi exp] w0 (fun v w' => v = .tuple #[gD_ r_, .bool r_1] ∧ ST w0 [] w' [] []) := by
 unfold F_impl_DyadicOf at hF
 refine cv_of_cw 31 Tryz.func103 rfl Tryz.ntmps103 rfl ?_
 refine cq (cr ?_)
 refine sS 2 (yB 89 (gR_ num) (kR_ num) 4 hS) ?_
 rintro _ w_ ⟨b, rfl, hS1⟩
 refine sS 4 (yN kZ_ 5 hS1 K7) ?_
 rintro _ w_1 ⟨b1, rfl, hS2⟩
 refine sQ 5 (yg (.bool false)) (rn (cq (cq (cr ?_))))
 refine sQ 6 (yb (aD b) 0 (kR_ num) K6 K3 (hS2.c 0)) ?_
 obtain ⟨r_2, hc, hF⟩ := bI hF
 refine sc 7 rfl rfl (yC [gR_ num] K62 (c_impl_IsValidRing num _  (hS2.inn0 [] rfl) hc)) ?_
 rintro _ w_2 ⟨rfl, hd⟩
 have hS3 := hS2.out00 hd
 refine sQ 8 (Y_not (p := r_2) rfl rfl) <| sQ 9 (ym (.bool (!r_2))) ?_
 refine sgq 10 (B := (!(!r_2))) (v := vi exp) rfl rfl (uF_ 9) (fun hg => (ym (vi exp))) ?_
 obtain ⟨r_3, hc1, hF⟩ := bI hF
 refine sgc 11 (B := (!(!r_2))) (v := .bool r_3) (F := hS3.fn) rfl rfl (uF_ 9) hS3 (fun hg1 => (yC [vi exp, vi 0, vi 60] K38 (CV.mono (c_impl_within exp 0 60 _  (hS3.inn0 [] rfl) (gb_inv hc1 hg1)) (by rintro _ _ ⟨rfl, h⟩; exact ⟨rfl, hS3.out00 h⟩)) rfl (mc (gv_of (v := vi exp) hg1) (mc rfl (mc rfl mn))))) ?_
 rintro w_3 hS4
 refine sgq 12 (B := (!(!r_2))) (v := .bool (!r_3)) rfl rfl (uF_ 9) (fun hg2 => (Y_not (p := r_3) rfl (gv_of (v := .bool r_3) hg2))) ?_
 refine sQ 13 (Y_or (b := (!r_2)) (z := (!r_3)) rfl rfl rfl rfl) (rn ?_)
 refine cw_cond (b := ((!r_2) || (!r_3))) rfl (fun hb => ?_) (fun hb => ?_)
 ·skip
  have hF1 := ct hF hb
  refine cq (cr ?_)
  refine sQ 14 (Y_buildS (zs := kZ_) (vs := []) (cs := kZ_) K20 K7 rfl mpn rfl) ?_
  refine s0 (yT 1 5 (aD b1) 91 gZ_ kZ_ 0 hS4 K2) ?_
  rintro _ w_4 ⟨rfl, hS5⟩
  refine sQ 5 (yg (.bool false)) (rn (ct_ ?_))
  obtain ⟨rfl, rfl⟩ := pr2 (sI hF1)
  exact ret2 Tryz.results103 (v1 := gZ_) (resAt_cellA (B := aD b1) (i := 0) (cs := kZ_) (vs := kZ_) rfl K5 K2 (hS5.c 1) rfl rfl) (v2 := .bool false) (resAt_tmp rfl) ⟨rfl, (hS5.sN [])⟩
 ·skip
  have hF2 := cf' hF hb
  refine cw_skip (cq ?_)
  obtain ⟨z, hz, hF3⟩ := bI hF2
  refine cw_block ?_
  refine cw_loop (fun k f w => ∃ (exp1 : Int) (A : Int) (B : Int) (C : Int) (D : Int), FF f [(1, vi exp1), (2, pt (aD b) 0), (4, pt (aD b1) 0)] ∧ ST w0 [] w [⟨aD b, 89, [vi A, vi B, vi C, vi D], 4⟩, ⟨aD b1, 91, kZ_, 5⟩] [] ∧ whX F_impl_DyadicOf_l1 k (exp1, A, B, C, D) = some z) fuel ⟨exp, num.A, num.B, num.C, num.D, (fc rfl (fc rfl (fc rfl fn_))), (hS4.sel [0, 1] rfl rfl), hz⟩ ?_
  rintro k_ f w ⟨exp1, A, B, C, D, hf, hS6, hL⟩
  obtain ⟨K8, y, rfl, hb1, hL1⟩ := whX_go hL
  unfold F_impl_DyadicOf_l1 at hb1
  refine cq (cq (cr ?_))
  refine sQ 15 (ym (vi exp1) rfl (hf.g 1 0)) <| sQ 16 (Y_gt (k := .i64) (a := exp1) (b := 0) rfl rfl rfl) <| sQ 17 (ym (.bool (decide (0 < exp1)))) ?_
  refine sgq 18 (B := (decide (0 < exp1))) (v := .agg #[vi A, vi B, vi C, vi D]) rfl rfl (uT_ 17) (fun hg3 => (yb (aD b) 0 [vi A, vi B, vi C, vi D] K6 K3 (hS6.c 0) rfl (hf.g 2 1))) ?_
  obtain ⟨r_4, hc2, hb1⟩ := bI hb1
  refine sgc 19 (B := (decide (0 < exp1))) (v := .bool r_4) (F := hS6.fn) rfl rfl (uT_ 17) hS6 (fun hg4 => (yC [.agg #[vi A, vi B, vi C, vi D]] K95 (CV.mono (c_impl_isEven (TRing.mk A B C D) _  (hS6.inn0 [] rfl) (gb_inv hc2 hg4)) (by rintro _ _ ⟨rfl, h⟩; exact ⟨rfl, hS6.out00 h⟩)) rfl (mc (gv_of (v := .agg #[vi A, vi B, vi C, vi D]) hg4) mn))) ?_
  rintro w_5 hS7
  refine sQ 20 (Y_and (b := (decide (0 < exp1))) (z := r_4) rfl rfl rfl rfl) (rn ?_)
  refine cw_cond (b := ((decide (0 < exp1)) && r_4)) rfl (fun hb2 => ?_) (fun hb2 => ?_)
  ·skip
   have hF4 := ct hb1 hb2
   refine cw_skip (cw_block (cq (cr ?_)))
   refine sQ 22 (yb (aD b) 0 [vi A, vi B, vi C, vi D] K6 K3 (hS7.c 0) rfl (hf.g 2 1)) ?_
   obtain ⟨⟨r_5, r_6⟩, hc3, hF4⟩ := bI hF4
   refine sc 23 rfl rfl (yC [.agg #[vi A, vi B, vi C, vi D]] k_call_122 (c_impl_DivRootTwo (TRing.mk A B C D) _  (hS7.inn0 [] rfl) hc3)) ?_
   rintro _ w_6 ⟨rfl, hd1⟩
   have hS8 := hS7.out00 hd1
   refine sQ 21 (ym (.tuple #[gR_ r_5, .bool r_6])) <| sQ 24 (ye (gR_ r_5)) <| sQ 25 (ye (.bool r_6)) ?_
   refine s0 (yT 0 4 (aD b) 89 (gR_ r_5) (kR_ r_5) 0 hS8 K3 rfl (hf.g 2 1)) ?_
   rintro _ w_7 ⟨rfl, hS9⟩
   refine rn (cr ?_)
   refine sQ 26 (ym (vi exp1) rfl (hf.g 1 0)) <| sQ 27 (yM exp1 1) <| sQ 1 (yg (vi (i64.wrap (exp1 - 1)))) (rn ?_)
   obtain rfl := sI hF4
   exact ⟨K8, Nat.lt_succ_self _, (i64.wrap (exp1 - 1)), r_5.A, r_5.B, r_5.C, r_5.D, (fc rfl (fc (hf.g 2 1) (fc (hf.g 4 2) fn_))), (hS9.sel [0, 1] rfl rfl), hL1⟩
  ·skip
   have hF5 := cf' hb1 hb2
   refine cw_exit rfl ?_
   obtain rfl := sI hF5
   obtain rfl := sI hL1
   refine cq (cr ?_)
   refine sQ 28 (yb (aD b) 0 [vi A, vi B, vi C, vi D] K6 K3 (hS7.c 0) rfl (hf.g 2 1)) <| sQ 29 (ym (vi exp1) rfl (hf.g 1 0)) <| sQ 30 (Y_buildS (zs := kZ_) (vs := [(0, .agg #[vi A, vi B, vi C, vi D]), (1, vi exp1)]) (cs := [vi A, vi B, vi C, vi D, vi exp1]) K20 K7 rfl (mpc rfl (mpc rfl mpn)) rfl) ?_
   refine s0 (yT 1 5 (aD b1) 91 (.agg #[vi A, vi B, vi C, vi D, vi exp1]) [vi A, vi B, vi C, vi D, vi exp1] 0 hS7 K2 rfl (hf.g 4 2)) ?_
   rintro _ w_8 ⟨rfl, hS10⟩
   refine sQ 5 (yg (.bool true)) (rn (ct_ ?_))
   obtain ⟨rfl, rfl⟩ := pr2 (sI hF3)
   exact ret2 Tryz.results103 (v1 := .agg #[vi A, vi B, vi C, vi D, vi exp1]) (resAt_cellA (B := aD b1) (i := 0) (cs := [vi A, vi B, vi C, vi D, vi exp1]) (vs := [vi A, vi B, vi C, vi D, vi exp1]) (hf.g 4 2) K5 K2 (hS10.c 1) rfl rfl) (v2 := .bool true) (resAt_tmp rfl) ⟨rfl, (hS10.sN [])⟩

theorem c_impl_MulDyadic (x : TDyadic) (y : TDyadic)  (w0 : World)  (hS : ST w0 [] w0 [] []) {r_ : TDyadic} {r_1 : Bool} (hF : F_impl_MulDyadic x y = some (r_, r_1)) :
  CV Tryz.prog 71 #[gD_ x, gD_ y] w0 (fun v w' => v = .tuple #[gD_ r_, .bool r_1] ∧ ST w0 [] w' [] []) := by
 unfold F_impl_MulDyadic at hF
 refine cv_of_cw 38 Tryz.func71 rfl Tryz.ntmps71 rfl ?_
 refine cq (cr ?_)
 refine sS 2 (yB 91 (gD_ x) (kD_ x) 5 hS) ?_
 rintro _ w_ ⟨b, rfl, hS1⟩
 refine sS 3 (yB 91 (gD_ y) (kD_ y) 5 hS1) ?_
 rintro _ w_1 ⟨b1, rfl, hS2⟩
 refine sS 4 (yN kZ_ 5 hS2 K7) ?_
 rintro _ w_2 ⟨b2, rfl, hS3⟩
 refine sQ 5 (yg (.bool false)) (rn (cq (cr ?_)))
 refine sQ 9 (yd (aD b) 0 3 K31 K3) <| sQ 10 (ya (aD b) 0 (kD_ x) (kR_ x.Num) K6 K3 (hS3.c 0)) <| sQ 11 (yd (aD b1) 0 3 K31 K3) <| sQ 12 (ya (aD b1) 0 (kD_ y) (kR_ y.Num) K6 K3 (hS3.c 1)) ?_
 obtain ⟨⟨r_2, r_3⟩, hc, hF⟩ := bI hF
 refine sc 13 rfl rfl (yC [gR_ x.Num, gR_ y.Num] k_call_102 (c_impl_MulRing x.Num y.Num _  (hS3.inn0 [] rfl) hc)) ?_
 rintro _ w_3 ⟨rfl, hd⟩
 have hS4 := hS3.out00 hd
 refine sQ 8 (ym (.tuple #[gR_ r_2, .bool r_3])) <| sQ 14 (ye (gR_ r_2)) <| sQ 15 (ye (.bool r_3)) ?_
 refine sS 6 (yN [vi 0, vi 0, vi 0, vi 0] 4 hS4 K10) ?_
 rintro _ w_4 ⟨b3, rfl, hS5⟩
 refine s0 (yT 3 4 (aD b3) 89 (gR_ r_2) (kR_ r_2) 0 hS5 K3) ?_
 rintro _ w_5 ⟨rfl, hS6⟩
 refine sQ 7 (yg (.bool r_3)) (rn (cq (cq (cr ?_))))
 refine sQ 16 (yb (aD b) 0 (kD_ x) K5 K2 (hS6.c 0)) ?_
 obtain ⟨r_4, hc1, hF⟩ := bI hF
 refine sc 17 rfl rfl (yC [gD_ x] K56 (c_impl_IsValidDyadic x _  (hS6.inn0 [] rfl) hc1)) ?_
 rintro _ w_6 ⟨rfl, hd1⟩
 have hS7 := hS6.out00 hd1
 refine sQ 18 (Y_not (p := r_4) rfl rfl) <| sQ 19 (ym (.bool (!r_4))) ?_
 refine sgq 20 (B := (!(!r_4))) (v := gD_ y) rfl rfl (uF_ 19) (fun hg => (yb (aD b1) 0 (kD_ y) K5 K2 (hS7.c 1))) ?_
 obtain ⟨r_5, hc2, hF⟩ := bI hF
 refine sgc 21 (B := (!(!r_4))) (v := .bool r_5) (F := hS7.fn) rfl rfl (uF_ 19) hS7 (fun hg1 => (yC [gD_ y] K56 (CV.mono (c_impl_IsValidDyadic y _  (hS7.inn0 [] rfl) (gb_inv hc2 hg1)) (by rintro _ _ ⟨rfl, h⟩; exact ⟨rfl, hS7.out00 h⟩)) rfl (mc (gv_of (v := gD_ y) hg1) mn))) ?_
 rintro w_7 hS8
 refine sgq 22 (B := (!(!r_4))) (v := .bool (!r_5)) rfl rfl (uF_ 19) (fun hg2 => (Y_not (p := r_5) rfl (gv_of (v := .bool r_5) hg2))) ?_
 refine sQ 23 (Y_or (b := (!r_4)) (z := (!r_5)) rfl rfl rfl rfl) <| sQ 24 (ym (.bool ((!r_4) || (!r_5)))) ?_
 refine sgq 25 (B := (!((!r_4) || (!r_5)))) (v := .bool r_3) rfl rfl (uF_ 24) (fun hg3 => (ym (.bool r_3))) ?_
 refine sgq 26 (B := (!((!r_4) || (!r_5)))) (v := .bool (!r_3)) rfl rfl (uF_ 24) (fun hg4 => (Y_not (p := r_3) rfl (gv_of (v := .bool r_3) hg4))) ?_
 refine sQ 27 (Y_or (b := ((!r_4) || (!r_5))) (z := (!r_3)) rfl rfl rfl rfl) (rn ?_)
 refine cw_cond (b := (((!r_4) || (!r_5)) || (!r_3))) rfl (fun hb => ?_) (fun hb => ?_)
 ·skip
  have hF1 := ct hF hb
  refine cq (cr ?_)
  refine sQ 28 (Y_buildS (zs := kZ_) (vs := []) (cs := kZ_) K20 K7 rfl mpn rfl) ?_
  refine s0 (yT 2 5 (aD b2) 91 gZ_ kZ_ 0 hS8 K2) ?_
  rintro _ w_8 ⟨rfl, hS9⟩
  refine sQ 5 (yg (.bool false)) (rn (ct_ ?_))
  obtain ⟨rfl, rfl⟩ := pr2 (sI hF1)
  exact ret2 Tryz.results71 (v1 := gZ_) (resAt_cellA (B := aD b2) (i := 0) (cs := kZ_) (vs := kZ_) rfl K5 K2 (hS9.c 2) rfl rfl) (v2 := .bool false) (resAt_tmp rfl) ⟨rfl, (hS9.sN [])⟩
 ·skip
  have hF2 := cf' hF hb
  refine cw_skip (cq (cr ?_))
  refine sQ 29 (yb (aD b3) 0 (kR_ r_2) K6 K3 (hS8.c 3)) <| sQ 30 (yd (aD b) 0 0 K28 K1) <| sQ 31 (yl (aD b) 4 (kD_ x) (vi x.Exp) K0 (hS8.c 0)) <| sQ 32 (yd (aD b1) 0 0 K28 K1) <| sQ 33 (yl (aD b1) 4 (kD_ y) (vi y.Exp) K0 (hS8.c 1)) <| sQ 34 (yP x.Exp y.Exp) ?_
  obtain ⟨⟨r_6, r_7⟩, hc3, hF2⟩ := bI hF2
  refine sc 35 rfl rfl (yC [gR_ r_2, vi (i64.wrap (x.Exp + y.Exp))] k_call_103 (c_impl_DyadicOf r_2 (i64.wrap (x.Exp + y.Exp)) _  (hS8.inn0 [] rfl) hc3)) ?_
  rintro _ w_9 ⟨rfl, hd2⟩
  have hS10 := hS8.out00 hd2
  refine sQ 36 (ye (gD_ r_6)) <| sQ 37 (ye (.bool r_7)) ?_
  refine s0 (yT 2 5 (aD b2) 91 (gD_ r_6) (kD_ r_6) 0 hS10 K2) ?_
  rintro _ w_10 ⟨rfl, hS11⟩
  refine sQ 5 (yg (.bool r_7)) (rn (ct_ ?_))
  obtain ⟨rfl, rfl⟩ := pr2 (sI hF2)
  exact ret2 Tryz.results71 (v1 := gD_ r_6) (resAt_cellA (B := aD b2) (i := 0) (cs := kD_ r_6) (vs := kD_ r_6) rfl K5 K2 (hS11.c 2) rfl rfl) (v2 := .bool r_7) (resAt_tmp rfl) ⟨rfl, (hS11.sN [])⟩

theorem c_impl_Matrix_at (m : TMatrix) (i : Int) (j : Int) (B : Option Addr) (c n : Nat) (w0 : World) (hn : m.Cells.length = n) (hS : ST w0 [] w0 [] [⟨B, (m.Cells.flatMap eN1)⟩]) {r_ : TDyadic} (hF : F_impl_Matrix_at m i j = some r_) :
  CV Tryz.prog 72 #[.agg #[vi m.Rows, vi m.Cols, .slice B n c], vi i, vi j] w0 (fun v w' => v = (gD_ r_) ∧ ST w0 [] w' [] []) := by
 subst hn
 unfold F_impl_Matrix_at at hF
 refine cv_of_cw 17 Tryz.func72 rfl Tryz.ntmps72 rfl ?_
 refine cq (cr ?_)
 refine sS 3 (yB 50 (gM_ m B c) (kM_ m B c) 3 hS) ?_
 rintro _ w_ ⟨b, rfl, hS1⟩
 refine sS 6 (yN kZ_ 5 hS1 K7) ?_
 rintro _ w_1 ⟨b1, rfl, hS2⟩
 refine rn (cq (cr ?_))
 refine sQ 7 (yd (aD b) 0 0 K22 K17) <| sQ 8 (yl (aD b) 2 (kM_ m B c) (.slice B m.Cells.length c) K25 (hS2.c 0)) <| sQ 9 (ym (vi i)) <| sQ 10 (yd (aD b) 0 0 K35 K1) <| sQ 11 (yl (aD b) 1 (kM_ m B c) (vi m.Cols) K0 (hS2.c 0)) <| sQ 12 (yX i m.Cols) ?_
 refine sQ 13 (ym (vi j)) <| sQ 14 (yP (i64.wrap (i * m.Cols)) j) ?_
 obtain ⟨x, hx, hF⟩ := bI hF
 refine sQ 15 (Y_index (B := B) (m := m.Cells.length) (c := c) (k := .i64) (i := (i64.wrap ((i64.wrap (i * m.Cols)) + j))) K13 K2 rfl rfl rfl (gi_isSome enc_Dyadic_len rfl (hS2.rf (i := 0) rfl) hx) (getI_nn hx) (getI_ltI hx rfl)) <| sQ 16 (ya B ((i64.wrap ((i64.wrap (i * m.Cols)) + j)).toNat * 5) (m.Cells.flatMap eN1) (kD_ x) K5 K2 (hS2.rf (i := 0) rfl) rfl rfl (enc_Dyadic_len x) (gi_seg enc_Dyadic_len hx)) ?_
 refine s0 (yT 1 5 (aD b1) 91 (gD_ x) (kD_ x) 0 hS2 K2) ?_
 rintro _ w_2 ⟨rfl, hS3⟩
 refine rn (ct_ ?_)
 obtain rfl := sI hF
 exact ret1 Tryz.results72 (v1 := gD_ x) (resAt_cellA (B := aD b1) (i := 0) (cs := kD_ x) (vs := kD_ x) rfl K5 K2 (hS3.c 1) rfl rfl) ⟨rfl, (hS3.sN [])⟩

theorem c_impl_ScaleMatrix_1 (i : Int) (j : Int) (p : TMatrix) (p1 : TDyadic) (B : Option Addr) (B1 : Option Addr) (c n : Nat) (B2 : Option Addr) (w0 : World) (hn : p.Cells.length = n) (hS : ST w0 [] w0 [] [⟨B, [vi p.Rows, vi p.Cols, .slice B1 n c]⟩, ⟨B1, (p.Cells.flatMap eN1)⟩, ⟨B2, kD_ p1⟩]) {r_ : TDyadic} {r_1 : Bool} (hF : F_impl_ScaleMatrix_1 i j p p1 = some (r_, r_1)) :
  CV Tryz.prog 115 #[vi i, vi j, pt B 0, pt B2 0] w0 (fun v w' => v = .tuple #[gD_ r_, .bool r_1] ∧ ST w0 [] w' [] []) := by
 subst hn
 unfold F_impl_ScaleMatrix_1 at hF
 refine cv_of_cw 16 Tryz.func115 rfl Tryz.ntmps115 rfl ?_
 refine cq (cr ?_)
 refine sS 6 (yN kZ_ 5 hS K7) ?_
 rintro _ w_ ⟨b, rfl, hS1⟩
 refine sQ 7 (yg (.bool false)) (rn (cq ?_))
 obtain ⟨r_2, hc, hF⟩ := bI hF
 obtain ⟨⟨r_3, r_4⟩, hc1, hF⟩ := bI hF
 refine ra_start (hS1.se []).fn (by kernel_rfl) ?_
 have hS4 := hS1.drew
 refine rq 0 8 (v := gM_ p B1 c) rfl (hS4.se []) (fun w' hw' => (yb B 0 (kM_ p B1 c) K9 K4 (ST.rf hw' (i := 0) rfl))) ?_
 refine rq 1 9 (v := vi i) rfl (hS4.se []) (fun w' hw' => (ym (vi i))) ?_
 refine rq 2 10 (v := vi j) rfl (hS4.se []) (fun w' hw' => (ym (vi j))) ?_
 refine rq 4 12 (v := gD_ p1) rfl (hS4.se []) (fun w' hw' => (yb B2 0 (kD_ p1) K5 K2 (ST.rf hw' (i := 2) rfl))) ?_
 refine rA [3] ?_
 refine rC 11 3 rfl (yC [gM_ p B1 c, vi i, vi j] K63 (c_impl_Matrix_at p i j B1 c p.Cells.length _ rfl (hS4.inn0 [(true, 1)] rfl) hc)) ?_ ?_
 ·rintro _ w_1 ⟨rfl, hd⟩
  have hS5 := hS4.out00 hd
  refine ⟨(hS5.se []), ?_⟩
  refine rA [5] ?_
  refine rC 13 5 rfl (yC [gD_ r_2, gD_ p1] K73 (c_impl_MulDyadic r_2 p1 _  (hS5.inn0 [] rfl) hc1)) ?_ ?_
  ·rintro _ w_2 ⟨rfl, hd1⟩
   have hS6 := hS5.out00 hd1
   refine ⟨(hS6.se []), ?_⟩
   refine rq 6 14 (v := gD_ r_3) rfl (hS6.se []) (fun w' hw' => (ye (gD_ r_3))) ?_
   refine rq 7 15 (v := .bool r_4) rfl (hS6.se []) (fun w' hw' => (ye (.bool r_4))) ?_
   refine rA [8] ?_
   refine rZ 8 rfl (yT 0 5 (aD b) 91 (gD_ r_3) (kD_ r_3) 0 hS6 K2) ?_ ?_
   ·rintro _ w_3 ⟨rfl, hS7⟩
    refine ⟨(hS7.se []), ?_⟩
    refine rq 9 7 (v := .bool r_4) rfl (hS7.se []) (fun w' hw' => (yg (.bool r_4))) ?_
    refine ra_done (by kernel_rfl) ?_
    refine ct_ ?_
    obtain ⟨rfl, rfl⟩ := pr2 (sI hF)
    exact ret2 Tryz.results115 (v1 := gD_ r_3) (resAt_cellA (B := aD b) (i := 0) (cs := kD_ r_3) (vs := kD_ r_3) rfl K5 K2 (hS7.c 0) rfl rfl) (v2 := .bool r_4) (resAt_tmp rfl) ⟨rfl, (hS7.sN [])⟩
   exact aN
  exact aN
 exact aN

theorem c_impl_ScaleMatrix (m : TMatrix) (x : TDyadic) (B : Option Addr) (c n : Nat) (w0 : World) (hn : m.Cells.length = n) (hS : ST w0 [] w0 [] [⟨B, (m.Cells.flatMap eN1)⟩]) {r_ : TMatrix} {r_1 : Bool} (hF : F_impl_ScaleMatrix m x = some (r_, r_1)) :
  CV Tryz.prog 93 #[.agg #[vi m.Rows, vi m.Cols, .slice B n c], gD_ x] w0 (fun v w' => ∃ (B1 : Option Addr) (c1 : Nat), v = .tuple #[gM_ r_ B1 c1, .bool r_1] ∧ ST w0 [] w' [⟨B1, 91, (r_.Cells.flatMap eN1), c1 * 5⟩] []) := by
 subst hn
 unfold F_impl_ScaleMatrix at hF
 refine cv_of_cw 23 Tryz.func93 rfl Tryz.ntmps93 rfl ?_
 refine cq (cr ?_)
 refine sS 2 (yB 50 (gM_ m B c) (kM_ m B c) 3 hS) ?_
 rintro _ w_ ⟨b, rfl, hS1⟩
 refine sS 3 (yB 91 (gD_ x) (kD_ x) 5 hS1) ?_
 rintro _ w_1 ⟨b1, rfl, hS2⟩
 refine sS 4 (yN kN_ 3 hS2 K11) ?_
 rintro _ w_2 ⟨b2, rfl, hS3⟩
 refine sQ 5 (yg (.bool false)) (rn (cq (cq (cr ?_))))
 refine sQ 6 (yb (aD b) 0 (kM_ m B c) K9 K4 (hS3.c 0)) ?_
 obtain ⟨r_2, hc, hF⟩ := bI hF
 refine sc 7 rfl rfl (yC [gM_ m B c] K81 (c_impl_IsValidMatrix m B c m.Cells.length _ rfl (hS3.inn0 [(true, 0)] rfl) hc)) ?_
 rintro _ w_3 ⟨rfl, hd⟩
 have hS4 := hS3.out00 hd
 refine sQ 8 (Y_not (p := r_2) rfl rfl) <| sQ 9 (ym (.bool (!r_2))) ?_
 refine sgq 10 (B := (!(!r_2))) (v := gD_ x) rfl rfl (uF_ 9) (fun hg => (yb (aD b1) 0 (kD_ x) K5 K2 (hS4.c 1))) ?_
 obtain ⟨r_3, hc1, hF⟩ := bI hF
 refine sgc 11 (B := (!(!r_2))) (v := .bool r_3) (F := hS4.fn) rfl rfl (uF_ 9) hS4 (fun hg1 => (yC [gD_ x] K56 (CV.mono (c_impl_IsValidDyadic x _  (hS4.inn0 [] rfl) (gb_inv hc1 hg1)) (by rintro _ _ ⟨rfl, h⟩; exact ⟨rfl, hS4.out00 h⟩)) rfl (mc (gv_of (v := gD_ x) hg1) mn))) ?_
 rintro w_4 hS5
 refine sgq 12 (B := (!(!r_2))) (v := .bool (!r_3)) rfl rfl (uF_ 9) (fun hg2 => (Y_not (p := r_3) rfl (gv_of (v := .bool r_3) hg2))) ?_
 refine sQ 13 (Y_or (b := (!r_2)) (z := (!r_3)) rfl rfl rfl rfl) (rn ?_)
 refine cw_cond (b := ((!r_2) || (!r_3))) rfl (fun hb => ?_) (fun hb => ?_)
 ·skip
  have hF1 := ct hF hb
  refine cq (cr ?_)
  refine sQ 14 (Y_buildS (zs := kN_) (vs := []) (cs := kN_) K39 K11 rfl mpn rfl) ?_
  refine s0 (yT 2 3 (aD b2) 50 gN_ kN_ 0 hS5 K4) ?_
  rintro _ w_5 ⟨rfl, hS6⟩
  refine sQ 5 (yg (.bool false)) (rn (ct_ ?_))
  have hS7 := hS6.addNil 91
  obtain ⟨rfl, rfl⟩ := pr2 (sI hF1)
  exact ret2 Tryz.results93 (v1 := gN_) (resAt_cellA (B := aD b2) (i := 0) (cs := kN_) (vs := kN_) rfl K9 K4 (hS7.c 2) rfl rfl) (v2 := .bool false) (resAt_tmp rfl) ⟨none, 0, rfl, (hS7.sN [3])⟩
 ·skip
  have hF2 := cf' hF hb
  refine cw_skip (cq (cr ?_))
  refine sQ 15 (yd (aD b) 0 0 K44 K1) <| sQ 16 (yl (aD b) 0 (kM_ m B c) (vi m.Rows) K0 (hS5.c 0)) <| sQ 17 (yd (aD b) 0 0 K35 K1) <| sQ 18 (yl (aD b) 1 (kM_ m B c) (vi m.Cols) K0 (hS5.c 0)) <| sQ 19 (Y_makeFunc (cs := [pt (aD b) 0, pt (aD b1) 0]) rfl rfl (mc rfl (mc rfl mn))) ?_
  obtain ⟨⟨r_4, r_5⟩, hc2, hF2⟩ := bI hF2
  refine sc 20 rfl rfl (yC [vi m.Rows, vi m.Cols, .func (.func 115) #[] #[pt (aD b) 0, pt (aD b1) 0]] K78 (c_impl_matrixOf m.Rows m.Cols (fun x_0 x_1 => F_impl_ScaleMatrix_1 x_0 x_1 m x) 115 (#[pt (aD b) 0, pt (aD b1) 0]) [⟨aD b, kM_ m B c⟩, ⟨B, (m.Cells.flatMap eN1)⟩, ⟨aD b1, kD_ x⟩] _ k_call_115 (fun w hw x_0 x_1 y_0 y_1 h_ => c_impl_ScaleMatrix_1 x_0 x_1 m x (aD b) B c m.Cells.length (aD b1) w rfl hw h_) (hS5.inn0 [(false, 0), (true, 0), (false, 1)] rfl) hc2)) ?_
  rintro _ w_6 ⟨B2, c2, rfl, hd1⟩
  have hS8 := hS5.out0 hd1
  refine sQ 21 (ye (gM_ r_4 B2 c2)) <| sQ 22 (ye (.bool r_5)) ?_
  refine s0 (yT 2 3 (aD b2) 50 (gM_ r_4 B2 c2) (kM_ r_4 B2 c2) 0 hS8 K4) ?_
  rintro _ w_7 ⟨rfl, hS9⟩
  refine sQ 5 (yg (.bool r_5)) (rn (ct_ ?_))
  obtain ⟨rfl, rfl⟩ := pr2 (sI hF2)
  exact ret2 Tryz.results93 (v1 := gM_ r_4 B2 c2) (resAt_cellA (B := aD b2) (i := 0) (cs := kM_ r_4 B2 c2) (vs := kM_ r_4 B2 c2) rfl K9 K4 (hS9.c 2) rfl rfl) (v2 := .bool r_5) (resAt_tmp rfl) ⟨B2, c2, rfl, (hS9.sN [3])⟩

theorem c_impl_CanonicalPhase (m : TMatrix) (B : Option Addr) (c n : Nat) (w0 : World) (hn : m.Cells.length = n) (hS : ST w0 [] w0 [] [⟨B, (m.Cells.flatMap eN1)⟩]) {r_ : TMatrix} {r_1 : Int} {r_2 : Bool} (hF : F_impl_CanonicalPhase m = some (r_, r_1, r_2)) :
  CV Tryz.prog 57 #[.agg #[vi m.Rows, vi m.Cols, .slice B n c]] w0 (fun v w' => ∃ (B1 : Option Addr) (c1 : Nat), v = .tuple #[gM_ r_ B1 c1, vi r_1, .bool r_2] ∧ ST w0 [] w' [⟨B1, 91, (r_.Cells.flatMap eN1), c1 * 5⟩] []) := by
 subst hn
 unfold F_impl_CanonicalPhase at hF
 refine cv_of_cw 61 Tryz.func57 rfl Tryz.ntmps57 rfl ?_
 refine cq (cr ?_)
 refine sS 1 (yB 50 (gM_ m B c) (kM_ m B c) 3 hS) ?_
 rintro _ w_ ⟨b, rfl, hS1⟩
 refine sS 2 (yN kN_ 3 hS1 K11) ?_
 rintro _ w_1 ⟨b1, rfl, hS2⟩
 refine sQ 3 (yg (vi 0)) <| sQ 4 (yg (.bool false)) (rn (cq (cr ?_)))
 refine sQ 13 (yd (aD b) 0 0 K22 K17) <| sQ 14 (yl (aD b) 2 (kM_ m B c) (.slice B m.Cells.length c) K25 (hS2.c 0)) ?_
 obtain ⟨r_3, hc, hF⟩ := bI hF
 refine sc 15 rfl rfl (yC [.slice B m.Cells.length c, .func (.func 90) #[] #[]] k_call_89 (c_slices_IndexFunc_impl_Dyadic_impl_Dyadic m.Cells F_impl_CanonicalPhase_1 B c m.Cells.length 90 (#[]) [] _ rfl k_call_90 (fun w hw x_0 y_0 h_ => c_impl_CanonicalPhase_1 x_0  w  hw h_) (hS2.inn0 [(true, 0)] rfl) hc)) ?_
 rintro _ w_2 ⟨rfl, hd⟩
 have hS3 := hS2.out00 hd
 refine sQ 5 (yg (vi r_3)) (rn (cq (cq (cr ?_))))
 refine sQ 16 (yb (aD b) 0 (kM_ m B c) K9 K4 (hS3.c 0)) ?_
 obtain ⟨r_4, hc1, hF⟩ := bI hF
 refine sc 17 rfl rfl (yC [gM_ m B c] K81 (c_impl_IsValidMatrix m B c m.Cells.length _ rfl (hS3.inn0 [(true, 0)] rfl) hc1)) ?_
 rintro _ w_3 ⟨rfl, hd1⟩
 have hS4 := hS3.out00 hd1
 refine sQ 18 (Y_not (p := r_4) rfl rfl) <| sQ 19 (ym (.bool (!r_4))) ?_
 refine sgq 20 (B := (!(!r_4))) (v := vi r_3) rfl rfl (uF_ 19) (fun hg => (ym (vi r_3))) ?_
 refine sgq 21 (B := (!(!r_4))) (v := .bool (decide (r_3 < 0))) rfl rfl (uF_ 19) (fun hg1 => (yL r_3 0 rfl (gv_of (v := vi r_3) hg1))) ?_
 refine sQ 22 (Y_or (b := (!r_4)) (z := (decide (r_3 < 0))) rfl rfl rfl rfl) (rn ?_)
 refine cw_cond (b := ((!r_4) || (decide (r_3 < 0)))) rfl (fun hb => ?_) (fun hb => ?_)
 ·skip
  have hF1 := ct hF hb
  refine cq (cr ?_)
  refine sQ 23 (Y_buildS (zs := kN_) (vs := []) (cs := kN_) K39 K11 rfl mpn rfl) ?_
  refine s0 (yT 1 3 (aD b1) 50 gN_ kN_ 0 hS4 K4) ?_
  rintro _ w_4 ⟨rfl, hS5⟩
  refine sQ 3 (yg (vi 0)) <| sQ 4 (yg (.bool false)) (rn (ct_ ?_))
  have hS6 := hS5.addNil 91
  obtain ⟨rfl, rfl, rfl⟩ := pr3 (sI hF1)
  exact ret3 Tryz.results57 (v1 := gN_) (resAt_cellA (B := aD b1) (i := 0) (cs := kN_) (vs := kN_) rfl K9 K4 (hS6.c 1) rfl rfl) (v2 := vi 0) (resAt_tmp rfl) (v3 := .bool false) (resAt_tmp rfl) ⟨none, 0, rfl, (hS6.sN [2])⟩
 ·skip
  have hF2 := cf' hF hb
  refine cw_skip (cq ?_)
  obtain ⟨x, hx, hF2⟩ := bI hF2
  refine ra_start (hS4.se [0, 1]).fn (by kernel_rfl) ?_
  have hS7 := hS4.drew
  refine rq 0 24 (v := pt (aD b) 2) rfl (hS7.se [0, 1]) (fun w' hw' => (yd (aD b) 0 0 K22 K17)) ?_
  refine rq 1 25 (v := .slice B m.Cells.length c) rfl (hS7.se [0, 1]) (fun w' hw' => (yl (aD b) 2 (kM_ m B c) (.slice B m.Cells.length c) K25 (ST.cf hw' (i := 0) rfl))) ?_
  refine rq 2 26 (v := vi r_3) rfl (hS7.se [0, 1]) (fun w' hw' => (ym (vi r_3))) ?_
  refine rq 3 27 (v := pt B (r_3.toNat * 5)) rfl (hS7.se [0, 1]) (fun w' hw' => (Y_index (B := B) (m := m.Cells.length) (c := c) (k := .i64) (i := r_3) K13 K2 rfl rfl rfl (gi_isSome enc_Dyadic_len rfl (ST.rf hw' (i := 0) rfl) hx) (getI_nn hx) (getI_ltI hx rfl))) ?_
  refine rq 4 28 (v := pt B (r_3.toNat * 5 + 0)) rfl (hS7.se [0, 1]) (fun w' hw' => (yd B (r_3.toNat * 5) 3 K31 K3)) ?_
  refine rq 5 29 (v := gR_ x.Num) rfl (hS7.se [0, 1]) (fun w' hw' => (ya B (r_3.toNat * 5 + 0) (m.Cells.flatMap eN1) (kR_ x.Num) K6 K3 (ST.rf hw' (i := 0) rfl) rfl rfl rfl (gi_segf enc_Dyadic_len hx (s2 := 4) rfl (by decide)))) ?_
  refine rA [6] ?_
  refine rS 7 6 rfl (yN [vi 0, vi 0, vi 0, vi 0] 4 hS7 K10) ?_ ?_
  ·rintro _ w_5 ⟨b2, rfl, hS8⟩
   refine ⟨(hS8.se [0, 1]), ?_⟩
   refine rq 7 6 (v := vi 0) rfl (hS8.se [0, 1]) (fun w' hw' => (yg (vi 0))) ?_
   refine rA [8] ?_
   refine rZ 8 rfl (yT 2 4 (aD b2) 89 (gR_ x.Num) (kR_ x.Num) 0 hS8 K3) ?_ ?_
   ·rintro _ w_6 ⟨rfl, hS9⟩
    refine ⟨(hS9.se [0, 1]), ?_⟩
    refine ra_done (by kernel_rfl) ?_
    refine cq (cq (cr ?_))
    refine sQ 8 (yg (vi 1)) (rn ?_)
    obtain ⟨z, hz, hF3⟩ := bI hF2
    refine cw_block ?_
    refine cw_loop (fun k f w => ∃ (best : Int) (A : Int) (B2 : Int) (C : Int) (D : Int) (k_ : Int), FF f [(1, pt (aD b) 0), (2, pt (aD b1) 0), (5, vi r_3), (6, vi best), (7, pt (aD b2) 0), (8, vi k_)] ∧ ST w0 [] w [⟨aD b, 50, kM_ m B c, 3⟩, ⟨aD b1, 50, kN_, 3⟩, ⟨aD b2, 89, [vi A, vi B2, vi C, vi D], 4⟩] [⟨B, (m.Cells.flatMap eN1)⟩] ∧ whX (F_impl_CanonicalPhase_l1 m r_3) k (best, A, B2, C, D, k_) = some z) fuel ⟨0, x.Num.A, x.Num.B, x.Num.C, x.Num.D, 1, (fc rfl (fc rfl (fc rfl (fc rfl (fc rfl (fc rfl fn_)))))), (hS9.sel [0, 1, 2] rfl rfl), hz⟩ ?_
    rintro K8 f w ⟨best, A, B2, C, D, k_, hf, hS10, hL⟩
    obtain ⟨K21, y, rfl, hb1, hL1⟩ := whX_go hL
    unfold F_impl_CanonicalPhase_l1 at hb1
    refine cq (cq (cr ?_))
    refine sQ 30 (ym (vi k_) rfl (hf.g 8 5)) <| sQ 31 (yL k_ 8) (rn ?_)
    refine cw_cond (b := (decide (k_ < 8))) rfl (fun hb2 => ?_) (fun hb2 => ?_)
    ·skip
     have hF4 := ct hb1 hb2
     refine cw_skip (cq ?_)
     obtain ⟨z1, hz1, hF5⟩ := bI hF4
     refine cw_mid (fun f w => ∃ (best1 : Int) (A1 : Int) (B3 : Int) (C1 : Int) (D1 : Int), (best1, A1, B3, C1, D1) = z1 ∧ FF f [(1, pt (aD b) 0), (2, pt (aD b1) 0), (5, vi r_3), (6, vi best1), (7, pt (aD b2) 0), (8, vi k_)] ∧ ST w0 [] w [⟨aD b, 50, kM_ m B c, 3⟩, ⟨aD b1, 50, kN_, 3⟩, ⟨aD b2, 89, [vi A1, vi B3, vi C1, vi D1], 4⟩] [⟨B, (m.Cells.flatMap eN1)⟩]) ?_ ?_
     ·skip
      refine cw_block (cq (cr ?_))
      refine sQ 35 (yd (aD b) 0 0 K22 K17 rfl (hf.g 1 0)) <| sQ 36 (yl (aD b) 2 (kM_ m B c) (.slice B m.Cells.length c) K25 (hS10.c 0)) <| sQ 37 (ym (vi r_3) rfl (hf.g 5 2)) ?_
      obtain ⟨x1, hx1, hz1⟩ := bI hz1
      refine sQ 38 (Y_index (B := B) (m := m.Cells.length) (c := c) (k := .i64) (i := r_3) K13 K2 rfl rfl rfl (gi_isSome enc_Dyadic_len rfl (hS10.rf (i := 0) rfl) hx1) (getI_nn hx1) (getI_ltI hx1 rfl)) <| sQ 39 (yd B (r_3.toNat * 5) 3 K31 K3) <| sQ 40 (ya B (r_3.toNat * 5 + 0) (m.Cells.flatMap eN1) (kR_ x1.Num) K6 K3 (hS10.rf (i := 0) rfl) rfl rfl rfl (gi_segf enc_Dyadic_len hx1 (s2 := 4) rfl (by decide))) <| sQ 41 (ym (vi k_) rfl (hf.g 8 5)) ?_
      obtain ⟨⟨r_5, r_6⟩, hc2, hz1⟩ := bI hz1
      refine sc 42 rfl rfl (yC [gR_ x1.Num, vi k_] k_call_91 (c_impl_MulOmega x1.Num k_ _  (hS10.inn0 [] rfl) hc2)) ?_
      rintro _ w_7 ⟨rfl, hd2⟩
      have hS12 := hS10.out00 hd2
      refine sQ 34 (ym (.tuple #[gR_ r_5, .bool r_6])) <| sQ 43 (ye (gR_ r_5)) <| sQ 44 (ye (.bool r_6)) ?_
      refine sS 9 (yN [vi 0, vi 0, vi 0, vi 0] 4 hS12 K10) ?_
      rintro _ w_8 ⟨b3, rfl, hS13⟩
      refine s0 (yT 3 4 (aD b3) 89 (gR_ r_5) (kR_ r_5) 0 hS13 K3) ?_
      rintro _ w_9 ⟨rfl, hS14⟩
      refine sQ 10 (yg (.bool r_6)) (rn (cq (cr ?_)))
      refine sQ 45 (yb (aD b3) 0 (kR_ r_5) K6 K3 (hS14.c 3)) <| sQ 46 (yb (aD b2) 0 [vi A, vi B2, vi C, vi D] K6 K3 (hS14.c 2) rfl (hf.g 7 4)) ?_
      obtain ⟨r_7, hc3, hz1⟩ := bI hz1
      refine sc 47 rfl rfl (yC [gR_ r_5, .agg #[vi A, vi B2, vi C, vi D]] k_call_92 (c_impl_compareRings r_5 (TRing.mk A B2 C D) _  (hS14.inn0 [] rfl) hc3)) ?_
      rintro _ w_10 ⟨rfl, hd3⟩
      have hS15 := hS14.out00 hd3
      refine sQ 48 (Y_gt (k := .i64) (a := r_7) (b := 0) rfl rfl rfl) (rn ?_)
      refine cw_cond (b := (decide (0 < r_7))) rfl (fun hb3 => ?_) (fun hb3 => ?_)
      ·skip
       have hF6 := ct hz1 hb3
       refine ra_start (hS15.se [0, 1, 3]).fn (by kernel_rfl) ?_
       have hS16 := hS15.drew
       refine rq 0 49 (v := vi k_) rfl (hS16.se [0, 1, 3]) (fun w' hw' => (ym (vi k_) rfl (hf.g 8 5))) ?_
       refine rq 1 50 (v := gR_ r_5) rfl (hS16.se [0, 1, 3]) (fun w' hw' => (yb (aD b3) 0 (kR_ r_5) K6 K3 (ST.cf hw' (i := 2) rfl))) ?_
       refine rq 2 6 (v := vi k_) rfl (hS16.se [0, 1, 3]) (fun w' hw' => (yg (vi k_))) ?_
       refine rA [3] ?_
       refine rZ 3 rfl (yT 2 4 (aD b2) 89 (gR_ r_5) (kR_ r_5) 0 hS16 K3 rfl (hf.g 7 4)) ?_ ?_
       ·rintro _ w_11 ⟨rfl, hS17⟩
        refine ⟨(hS17.se [0, 1, 3]), ?_⟩
        refine ra_done (by kernel_rfl) ?_
        exact ⟨k_, r_5.A, r_5.B, r_5.C, r_5.D, (sI hF6), (fc (hf.g 1 0) (fc (hf.g 2 1) (fc (hf.g 5 2) (fc rfl (fc (hf.g 7 4) (fc (hf.g 8 5) fn_)))))), (hS17.sel [0, 1, 2] rfl rfl)⟩
       exact aN
      ·skip
       have hF7 := cf' hz1 hb3
       refine cw_skip ?_
       exact ⟨best, A, B2, C, D, (sI hF7), (fc (hf.g 1 0) (fc (hf.g 2 1) (fc (hf.g 5 2) (fc (hf.g 6 3) (fc (hf.g 7 4) (fc (hf.g 8 5) fn_)))))), (hS15.sel [0, 1, 2] rfl rfl)⟩
     rintro f w ⟨best1, A1, B3, C1, D1, rfl, hf1, hS11⟩
     refine cr ?_
     refine sQ 32 (ym (vi k_) rfl (hf1.g 8 5)) <| sQ 33 (yP k_ 1) <| sQ 8 (yg (vi (i64.wrap (k_ + 1)))) (rn ?_)
     obtain rfl := sI hF5
     exact ⟨K21, Nat.lt_succ_self _, best1, A1, B3, C1, D1, (i64.wrap (k_ + 1)), (fc (hf1.g 1 0) (fc (hf1.g 2 1) (fc (hf1.g 5 2) (fc (hf1.g 6 3) (fc (hf1.g 7 4) (fc rfl fn_)))))), (hS11.sel [0, 1, 2] rfl rfl), hL1⟩
    ·skip
     have hF8 := cf' hb1 hb2
     refine cw_exit rfl ?_
     obtain rfl := sI hF8
     obtain rfl := sI hL1
     refine cq ?_
     obtain ⟨r_8, hc4, hF3⟩ := bI hF3
     obtain ⟨⟨r_9, r_10⟩, hc5, hF3⟩ := bI hF3
     refine cw_mid (fun f w => ∃ (B5 : Option Addr) (B6 : Option Addr) (c3 : Nat), FF f [(2, pt (aD b1) 0), (6, vi best), (11, pt B5 0), (12, .bool r_10)] ∧ ST w0 [] w [⟨aD b1, 50, kN_, 3⟩, ⟨B5, 50, kM_ r_9 B6 c3, 3⟩, ⟨B6, 91, (r_9.Cells.flatMap eN1), c3 * 5⟩] [⟨B, (m.Cells.flatMap eN1)⟩]) ?_ ?_
     ·skip
      refine ra_start (hS10.se [0, 1, 2]).fn (by kernel_rfl) ?_
      have hS21 := hS10.drew
      refine rq 0 52 (v := gM_ m B c) rfl (hS21.se [0, 1, 2]) (fun w' hw' => (yb (aD b) 0 (kM_ m B c) K9 K4 (ST.cf hw' (i := 0) rfl) rfl (hf.g 1 0))) ?_
      refine rq 1 53 (v := vi best) rfl (hS21.se [0, 1, 2]) (fun w' hw' => (ym (vi best) rfl (hf.g 6 3))) ?_
      refine rA [2, 7] ?_
      refine rC 54 2 rfl (yC [vi best] K64 (c_impl_phase best _  (hS21.inn0 [] rfl) hc4)) ?_ ?_
      ·rintro _ w_12 ⟨rfl, hd4⟩
       have hS22 := hS21.out00 hd4
       refine ⟨(hS22.se [0, 1, 2]), ?_⟩
       refine rA [3, 7] ?_
       refine rC 55 3 rfl (yC [gM_ m B c, gD_ r_8] K96 (c_impl_ScaleMatrix m r_8 B c m.Cells.length _ rfl (hS22.inn0 [(true, 0)] rfl) hc5)) ?_ ?_
       ·rintro _ w_13 ⟨B4, c2, rfl, hd5⟩
        have hS23 := hS22.out0 hd5
        refine ⟨(hS23.se [0, 1, 2]), ?_⟩
        refine rq 4 51 (v := .tuple #[gM_ r_9 B4 c2, .bool r_10]) rfl (hS23.se [0, 1, 2]) (fun w' hw' => (ym (.tuple #[gM_ r_9 B4 c2, .bool r_10]))) ?_
        refine rq 5 56 (v := gM_ r_9 B4 c2) rfl (hS23.se [0, 1, 2]) (fun w' hw' => (ye (gM_ r_9 B4 c2))) ?_
        refine rq 6 57 (v := .bool r_10) rfl (hS23.se [0, 1, 2]) (fun w' hw' => (ye (.bool r_10))) ?_
        refine rA [7] ?_
        refine rS 11 7 rfl (yN kN_ 3 hS23 K11) ?_ ?_
        ·rintro _ w_14 ⟨b4, rfl, hS24⟩
         refine ⟨(hS24.se [0, 1, 2]), ?_⟩
         refine rA [8] ?_
         refine rZ 8 rfl (yT 4 3 (aD b4) 50 (gM_ r_9 B4 c2) (kM_ r_9 B4 c2) 0 hS24 K4) ?_ ?_
         ·rintro _ w_15 ⟨rfl, hS25⟩
          refine ⟨(hS25.se [0, 1, 2]), ?_⟩
          refine rq 9 12 (v := .bool r_10) rfl (hS25.se [0, 1, 2]) (fun w' hw' => (yg (.bool r_10))) ?_
          refine ra_done (by kernel_rfl) ?_
          exact ⟨aD b4, B4, c2, (fc (hf.g 2 1) (fc (hf.g 6 3) (fc rfl (fc rfl fn_)))), (hS25.sel [1, 4, 3] rfl rfl)⟩
         exact aN
        exact aN
       refine rS 11 7 rfl (yN kN_ 3 hS22 K11) ?_ ?_
       ·rintro _ w_16 ⟨b4, rfl, hS26⟩
        refine ⟨(hS26.se [0, 1, 2]), ?_⟩
        refine rA [3] ?_
        refine rC 55 3 rfl (yC [gM_ m B c, gD_ r_8] K96 (c_impl_ScaleMatrix m r_8 B c m.Cells.length _ rfl (hS26.inn0 [(true, 0)] rfl) hc5)) ?_ ?_
        ·rintro _ w_17 ⟨B4, c2, rfl, hd6⟩
         have hS27 := hS26.out0 hd6
         refine ⟨(hS27.se [0, 1, 2]), ?_⟩
         refine rq 4 51 (v := .tuple #[gM_ r_9 B4 c2, .bool r_10]) rfl (hS27.se [0, 1, 2]) (fun w' hw' => (ym (.tuple #[gM_ r_9 B4 c2, .bool r_10]))) ?_
         refine rq 5 56 (v := gM_ r_9 B4 c2) rfl (hS27.se [0, 1, 2]) (fun w' hw' => (ye (gM_ r_9 B4 c2))) ?_
         refine rq 6 57 (v := .bool r_10) rfl (hS27.se [0, 1, 2]) (fun w' hw' => (ye (.bool r_10))) ?_
         refine rA [8] ?_
         refine rZ 8 rfl (yT 3 3 (aD b4) 50 (gM_ r_9 B4 c2) (kM_ r_9 B4 c2) 0 hS27 K4) ?_ ?_
         ·rintro _ w_18 ⟨rfl, hS28⟩
          refine ⟨(hS28.se [0, 1, 2]), ?_⟩
          refine rq 9 12 (v := .bool r_10) rfl (hS28.se [0, 1, 2]) (fun w' hw' => (yg (.bool r_10))) ?_
          refine ra_done (by kernel_rfl) ?_
          exact ⟨aD b4, B4, c2, (fc (hf.g 2 1) (fc (hf.g 6 3) (fc rfl (fc rfl fn_)))), (hS28.sel [1, 3, 4] rfl rfl)⟩
         exact aN
        exact aN
       exact aN
      refine rS 11 7 rfl (yN kN_ 3 hS21 K11) ?_ ?_
      ·rintro _ w_19 ⟨b4, rfl, hS29⟩
       refine ⟨(hS29.se [0, 1, 2]), ?_⟩
       refine rA [2] ?_
       refine rC 54 2 rfl (yC [vi best] K64 (c_impl_phase best _  (hS29.inn0 [] rfl) hc4)) ?_ ?_
       ·rintro _ w_20 ⟨rfl, hd7⟩
        have hS30 := hS29.out00 hd7
        refine ⟨(hS30.se [0, 1, 2]), ?_⟩
        refine rA [3] ?_
        refine rC 55 3 rfl (yC [gM_ m B c, gD_ r_8] K96 (c_impl_ScaleMatrix m r_8 B c m.Cells.length _ rfl (hS30.inn0 [(true, 0)] rfl) hc5)) ?_ ?_
        ·rintro _ w_21 ⟨B4, c2, rfl, hd8⟩
         have hS31 := hS30.out0 hd8
         refine ⟨(hS31.se [0, 1, 2]), ?_⟩
         refine rq 4 51 (v := .tuple #[gM_ r_9 B4 c2, .bool r_10]) rfl (hS31.se [0, 1, 2]) (fun w' hw' => (ym (.tuple #[gM_ r_9 B4 c2, .bool r_10]))) ?_
         refine rq 5 56 (v := gM_ r_9 B4 c2) rfl (hS31.se [0, 1, 2]) (fun w' hw' => (ye (gM_ r_9 B4 c2))) ?_
         refine rq 6 57 (v := .bool r_10) rfl (hS31.se [0, 1, 2]) (fun w' hw' => (ye (.bool r_10))) ?_
         refine rA [8] ?_
         refine rZ 8 rfl (yT 3 3 (aD b4) 50 (gM_ r_9 B4 c2) (kM_ r_9 B4 c2) 0 hS31 K4) ?_ ?_
         ·rintro _ w_22 ⟨rfl, hS32⟩
          refine ⟨(hS32.se [0, 1, 2]), ?_⟩
          refine rq 9 12 (v := .bool r_10) rfl (hS32.se [0, 1, 2]) (fun w' hw' => (yg (.bool r_10))) ?_
          refine ra_done (by kernel_rfl) ?_
          exact ⟨aD b4, B4, c2, (fc (hf.g 2 1) (fc (hf.g 6 3) (fc rfl (fc rfl fn_)))), (hS32.sel [1, 3, 4] rfl rfl)⟩
         exact aN
        exact aN
       exact aN
      exact aN
     rintro f w ⟨B5, B6, c3, hf2, hS20⟩
     refine cq (cr ?_)
     refine sQ 58 (yb B5 0 (kM_ r_9 B6 c3) K9 K4 (hS20.c 1) rfl (hf2.g 11 2)) <| sQ 59 (ym (vi best) rfl (hf2.g 6 1)) <| sQ 60 (ym (.bool r_10) rfl (hf2.g 12 3)) ?_
     refine s0 (yT 0 3 (aD b1) 50 (gM_ r_9 B6 c3) (kM_ r_9 B6 c3) 0 hS20 K4 rfl (hf2.g 2 0)) ?_
     rintro _ w_23 ⟨rfl, hS33⟩
     refine sQ 3 (yg (vi best)) <| sQ 4 (yg (.bool r_10)) (rn (ct_ ?_))
     obtain ⟨rfl, rfl, rfl⟩ := pr3 (sI hF3)
     exact ret3 Tryz.results57 (v1 := gM_ r_9 B6 c3) (resAt_cellA (B := aD b1) (i := 0) (cs := kM_ r_9 B6 c3) (vs := kM_ r_9 B6 c3) (hf2.g 2 0) K9 K4 (hS33.c 0) rfl rfl) (v2 := vi best) (resAt_tmp rfl) (v3 := .bool r_10) (resAt_tmp rfl) ⟨B6, c3, rfl, (hS33.sN [2])⟩
   exact aN
  exact aN

theorem c_strings_Join (elems : List (List UInt8)) (sep : List UInt8) (B : Option Addr) (c n : Nat) (w0 : World) (hn : elems.length = n) (hS : ST w0 (bl [⟨B, 9, elems.flatMap encS, c * 1⟩]) w0 [⟨B, 9, elems.flatMap encS, c * 1⟩] []) {r : List UInt8} (hF : F_strings_Join elems sep = some r) :
  CV Tryz.prog 59 #[.slice B n c, .string (bstr sep)] w0 (fun v w' => v = .string (bstr r) ∧ elems.length = n ∧ ST w0 (bl [⟨B, 9, elems.flatMap encS, c * 1⟩]) w' [⟨B, 9, elems.flatMap encS, c * 1⟩] []) :=
 join_c (fun bk o c xs sep w h1 h2 h3 h4 h5 => Tryz.strings_Join bk o c xs sep w h1 h2 h3 h4 h5) (fun a c sep w => Tryz.strings_Join_none a c sep w) elems sep B c n w0 hn hS hF

theorem c_strconv_Itoa (x : Int) (w0 : World) (ht1 : Go.Lib.TabIs Tryz.prog w0 "internal/strconv.uint64pow10" .u64 Go.Lib.pow10Tab) (hS : ST w0 [] w0 [] [⟨(aD 1), (gl1.flatMap enc_u64)⟩]) {r : List UInt8} (hF : F_strconv_Itoa x = some r) :
  CV Tryz.prog 96 #[vi x] w0 (fun v w' => v = .string (bstr r) ∧ ST w0 [] w' [] []) :=
 itoa_c (fun n h0 h1 w ht => Tryz.strconv_Itoa n h0 h1 w ht) x w0 ht1 hF

theorem c_impl_joinInts (list : List Int) (between : List UInt8) (B : Option Addr) (c n : Nat) (w0 : World) (hn : list.length = n) (ht1 : Go.Lib.TabIs Tryz.prog w0 "internal/strconv.uint64pow10" .u64 Go.Lib.pow10Tab) (hS : ST w0 [] w0 [] [⟨B, (list.flatMap encI)⟩, ⟨(aD 1), (gl1.flatMap enc_u64)⟩]) {r_ : List UInt8} (hF : F_impl_joinInts list between = some r_) :
  CV Tryz.prog 117 #[.slice B n c, .string (bstr between)] w0 (fun v w' => v = .string (bstr r_) ∧ ST w0 [] w' [] []) := by
 subst hn
 have hgm1 : 1 ∉ [] := List.not_mem_nil
 unfold F_impl_joinInts at hF
 refine cv_of_cw 24 Tryz.func117 rfl Tryz.ntmps117 rfl ?_
 refine cq (cr ?_)
 refine sQ 4 (yg (.string (bstr ([] : List UInt8)))) (rn (cq (cr ?_)))
 refine sS 8 (Ys_bslice0 (s := 1) (e := 9) hS K65 K66 rfl) ?_
 rintro _ w_ ⟨b, rfl, hS1⟩
 refine sQ 5 (yg (.slice (aD b) 0 0)) (rn (cq (cq (cr ?_))))
 refine sQ 9 (ym (.slice B list.length c)) <| sQ 10 (Y_len (B := B) (m := list.length) (c := c) K26 rfl rfl) <| sQ 11 (ym (vi 0)) (rn ?_)
 obtain ⟨hN, hF⟩ := chk_inv hF
 obtain ⟨z, hz, hF1⟩ := bI hF
 refine cw_block ?_
 refine cw_loop (fun k f w => ∃ (i : Nat) (words : List (List UInt8)) (B1 : Option Addr) (c1 : Nat), FF f [(1, .string (bstr between)), (5, .slice B1 words.length c1), (9, .slice B list.length c), (10, vi (list.length : Int)), (11, vi (i : Int))] ∧ ST w0 [] w [⟨B1, 9, (words.flatMap encS), c1 * 1⟩] [⟨B, (list.flatMap encI)⟩, ⟨(aD 1), (gl1.flatMap enc_u64)⟩] ∧ i + k = list.length ∧ forN (F_impl_joinInts_l1 list) k i words = some z) list.length ⟨0, [], aD b, 0, (fc rfl (fc rfl (fc rfl (fc rfl (fc rfl fn_))))), (hS1.sel [0] rfl rfl), Nat.zero_add _, hz⟩ ?_
 rintro k_ f w ⟨i, words, B1, c1, hf, hS2, hik, hL⟩
 refine cq (cr ?_)
 refine sQ 12 (yL (i : Int) (list.length : Int) rfl (hf.g 11 4) (hf.g 10 3)) (rn (cq ?_))
 refine cw_cond (b := (decide ((i : Int) < (list.length : Int)))) rfl (fun hlt => ?_) (fun hlt => ?_)
 ·skip
  have hlt1 : i < list.length := by have h := of_decide_eq_true hlt; omega
  obtain ⟨K8, rfl⟩ : ∃ k2, k_ = k2 + 1 := ⟨k_ - 1, by omega⟩
  obtain ⟨y, hb, hL1⟩ := forN_go hL
  unfold F_impl_joinInts_l1 at hb
  refine cw_skip (cq (cw_block (cq (cr ?_))))
  obtain ⟨x, hx, hb⟩ := bI hb
  refine sQ 13 (Y_index (B := B) (m := list.length) (c := c) (k := .i64) (i := (i : Int)) K26 K1 rfl (hf.g 9 2) (hf.g 11 4) (gi_isSome encI_len rfl (hS2.rf (i := 0) rfl) hx) (getI_nn hx) (getI_ltI hx rfl)) <| sQ 14 (yl B ((i : Int).toNat * 1) (list.flatMap encI) (vi x) K0 (hS2.rf (i := 0) rfl) rfl rfl (gi_at0 encI_len hx rfl)) <| sQ 7 (yg (vi x)) (rn (cr ?_))
  refine sQ 15 (ym (.slice B1 words.length c1) rfl (hf.g 5 1)) <| sQ 16 (ym (vi x)) ?_
  obtain ⟨r_1, hc, hb⟩ := bI hb
  refine sc 17 rfl rfl (yC [vi x] k_call_96 (c_strconv_Itoa x _ (tab_keep hS2 ht1 (by kernel_rfl) hgm1) (hS2.inn0 [(true, 1)] rfl) hc)) ?_
  rintro _ w_1 ⟨rfl, hd⟩
  have hS3 := hS2.out00 hd
  refine sS 18 (Ys_bslice (s := 1) (len := 1) (vs := [(0, .string (bstr r_1))]) (cs := [.string (bstr r_1)]) (zs := [.string (bstr ([] : List UInt8))]) (m := 1) hS3 K65 K66 k_zc_9 rfl (mpc rfl mpn) rfl rfl rfl (by kernel_rfl) (by kernel_rfl) rfl) ?_
  rintro _ w_2 ⟨b1, rfl, hS4⟩
  obtain ⟨hap, hb⟩ := chk_inv hb
  refine sS 19 (Ys_append (s := 1) (by' := 16) (i := 0) (nn := words.length) (c := c1) (k := 1) (len := (words ++ [r_1]).length) (B := B1) (xs := ([r_1].flatMap encS)) (cs' := ((words ++ [r_1]).flatMap encS)) hS4 K65 K66 k_by_9_16 k_zero_9 rfl (by decide) rfl rfl rfl rfl (fm_lenn (l := words) encS_len rfl) rfl (hS4.c 1) (fm_lenn (l := [r_1]) encS_len rfl) (fm_one' (enc := encS) encS_one [r_1]) (by have := hap; omega) (by have := hap; simp only [maxLen]; omega) (fm_app _ _) (app_len (l := words) (l' := [r_1]) rfl rfl)) ?_
  rintro _ w_3 ⟨B2, c2, rfl, hS5⟩
  refine sQ 5 (yg (.slice B2 ((words ++ [r_1]).length) c2)) (rn (cr ?_))
  refine sQ 20 (yP (i : Int) 1 rfl (hf.g 11 4)) <| sQ 11 (ym (vi (i64.wrap ((i : Int) + 1)))) (rn ?_)
  obtain rfl := sI hb
  exact ⟨K8, Nat.lt_succ_self _, i + 1, (words ++ [r_1]), B2, c2, (fc (hf.g 1 0) (fc rfl (fc (hf.g 9 2) (fc (hf.g 10 3) (fc (congrArg (Value.int .i64) (wr_succ hlt1 hN)) fn_))))), (hS5.sel [0] rfl rfl), (by omega), hL1⟩
 ·skip
  obtain rfl : k_ = 0 := by have h := of_decide_eq_false hlt; omega
  refine cw_exit rfl ?_
  obtain rfl := sI hL
  refine cq (cr ?_)
  refine sQ 21 (ym (.slice B1 words.length c1) rfl (hf.g 5 1)) <| sQ 22 (ym (.string (bstr between)) rfl (hf.g 1 0)) ?_
  obtain ⟨r_2, hc1, hF1⟩ := bI hF1
  refine sc 23 rfl rfl (yC [.slice B1 words.length c1, .string (bstr between)] k_call_59 (c_strings_Join words between B1 c1 words.length _ rfl (hS2.inn [true] rfl [] rfl) hc1)) ?_
  rintro _ w_4 ⟨rfl, hl, hd1⟩
  have hS6 := hS2.out [true] rfl hd1
  refine sQ 4 (yg (.string (bstr r_2))) (rn (ct_ ?_))
  obtain rfl := sI hF1
  exact ret1 Tryz.results117 (v1 := .string (bstr r_2)) (resAt_tmp rfl) ⟨rfl, (hS6.sN [])⟩

theorem c_impl_FormatRing (x : TRing)  (w0 : World) (ht1 : Go.Lib.TabIs Tryz.prog w0 "internal/strconv.uint64pow10" .u64 Go.Lib.pow10Tab) (hS : ST w0 [] w0 [] [⟨(aD 1), (gl1.flatMap enc_u64)⟩]) {r_ : List UInt8} {r_1 : Bool} (hF : F_impl_FormatRing x = some (r_, r_1)) :
  CV Tryz.prog 95 #[gR_ x] w0 (fun v w' => v = .tuple #[.string (bstr r_), .bool r_1] ∧ ST w0 [] w' [] []) := by
 have hgm1 : 1 ∉ [] := List.not_mem_nil
 unfold F_impl_FormatRing at hF
 refine cv_of_cw 17 Tryz.func95 rfl Tryz.ntmps95 rfl ?_
 refine cq (cr ?_)
 refine sS 1 (yB 89 (gR_ x) (kR_ x) 4 hS) ?_
 rintro _ w_ ⟨b, rfl, hS1⟩
 refine sQ 2 (yg (.string (bstr ([] : List UInt8)))) <| sQ 3 (yg (.bool false)) (rn (cq (cq (cr ?_))))
 refine sQ 4 (yb (aD b) 0 (kR_ x) K6 K3 (hS1.c 0)) ?_
 obtain ⟨r_2, hc, hF⟩ := bI hF
 refine sc 5 rfl rfl (yC [gR_ x] K62 (c_impl_IsValidRing x _  (hS1.inn0 [] rfl) hc)) ?_
 rintro _ w_1 ⟨rfl, hd⟩
 have hS2 := hS1.out00 hd
 refine sQ 6 (Y_not (p := r_2) rfl rfl) (rn ?_)
 refine cw_cond (b := (!r_2)) rfl (fun hb => ?_) (fun hb => ?_)
 ·skip
  have hF1 := ct hF hb
  refine cq (cr ?_)
  refine sQ 2 (yg (.string (bstr ([] : List UInt8)))) <| sQ 3 (yg (.bool false)) (rn (ct_ ?_))
  obtain ⟨rfl, rfl⟩ := pr2 (sI hF1)
  exact ret2 Tryz.results95 (v1 := .string (bstr ([] : List UInt8))) (resAt_tmp rfl) (v2 := .bool false) (resAt_tmp rfl) ⟨rfl, (hS2.sN [])⟩
 ·skip
  have hF2 := cf' hF hb
  refine cw_skip (cq (cr ?_))
  refine sQ 7 (yd (aD b) 0 0 K12 K1) <| sQ 8 (yl (aD b) 0 (kR_ x) (vi x.A) K0 (hS2.c 0)) <| sQ 9 (yd (aD b) 0 0 K14 K1) <| sQ 10 (yl (aD b) 1 (kR_ x) (vi x.B) K0 (hS2.c 0)) <| sQ 11 (yd (aD b) 0 0 K15 K1) <| sQ 12 (yl (aD b) 2 (kR_ x) (vi x.C) K0 (hS2.c 0)) ?_
  refine sQ 13 (yd (aD b) 0 0 K16 K1) <| sQ 14 (yl (aD b) 3 (kR_ x) (vi x.D) K0 (hS2.c 0)) ?_
  refine sS 15 (Ys_bslice (s := 1) (len := 4) (vs := [(0, vi x.A), (1, vi x.B), (2, vi x.C), (3, vi x.D)]) (cs := kR_ x) (zs := [vi 0, vi 0, vi 0, vi 0]) (m := 4) hS2 K26 K1 K50 rfl (mpc rfl (mpc rfl (mpc rfl (mpc rfl mpn)))) rfl rfl rfl (by kernel_rfl) (by kernel_rfl) rfl) ?_
  rintro _ w_2 ⟨b1, rfl, hS3⟩
  obtain ⟨r_3, hc1, hF2⟩ := bI hF2
  refine sc 16 rfl rfl (yC [.slice (aD b1) 4 4, .string (bstr ([32] : List UInt8))] k_call_117 (c_impl_joinInts [x.A, x.B, x.C, x.D] ([32] : List UInt8) (aD b1) 4 4 _ rfl (tab_keep hS3 ht1 (by kernel_rfl) hgm1) (hS3.inn0 [(false, 1), (true, 0)] rfl) hc1)) ?_
  rintro _ w_3 ⟨rfl, hd1⟩
  have hS4 := hS3.out00 hd1
  refine sQ 2 (yg (.string (bstr r_3))) <| sQ 3 (yg (.bool true)) (rn (ct_ ?_))
  obtain ⟨rfl, rfl⟩ := pr2 (sI hF2)
  exact ret2 Tryz.results95 (v1 := .string (bstr r_3)) (resAt_tmp rfl) (v2 := .bool true) (resAt_tmp rfl) ⟨rfl, (hS4.sN [])⟩

theorem c_impl_FormatDyadic (x : TDyadic)  (w0 : World) (ht1 : Go.Lib.TabIs Tryz.prog w0 "internal/strconv.uint64pow10" .u64 Go.Lib.pow10Tab) (hS : ST w0 [] w0 [] [⟨(aD 1), (gl1.flatMap enc_u64)⟩]) {r_ : List UInt8} {r_1 : Bool} (hF : F_impl_FormatDyadic x = some (r_, r_1)) :
  CV Tryz.prog 58 #[gD_ x] w0 (fun v w' => v = .tuple #[.string (bstr r_), .bool r_1] ∧ ST w0 [] w' [] []) := by
 have hgm1 : 1 ∉ [] := List.not_mem_nil
 unfold F_impl_FormatDyadic at hF
 refine cv_of_cw 21 Tryz.func58 rfl Tryz.ntmps58 rfl ?_
 refine cq (cr ?_)
 refine sS 1 (yB 91 (gD_ x) (kD_ x) 5 hS) ?_
 rintro _ w_ ⟨b, rfl, hS1⟩
 refine sQ 2 (yg (.string (bstr ([] : List UInt8)))) <| sQ 3 (yg (.bool false)) (rn (cq (cq (cr ?_))))
 refine sQ 6 (yb (aD b) 0 (kD_ x) K5 K2 (hS1.c 0)) ?_
 obtain ⟨r_2, hc, hF⟩ := bI hF
 refine sc 7 rfl rfl (yC [gD_ x] K56 (c_impl_IsValidDyadic x _  (hS1.inn0 [] rfl) hc)) ?_
 rintro _ w_1 ⟨rfl, hd⟩
 have hS2 := hS1.out00 hd
 refine sQ 8 (Y_not (p := r_2) rfl rfl) (rn ?_)
 refine cw_cond (b := (!r_2)) rfl (fun hb => ?_) (fun hb => ?_)
 ·skip
  have hF1 := ct hF hb
  refine cq (cr ?_)
  refine sQ 2 (yg (.string (bstr ([] : List UInt8)))) <| sQ 3 (yg (.bool false)) (rn (ct_ ?_))
  obtain ⟨rfl, rfl⟩ := pr2 (sI hF1)
  exact ret2 Tryz.results58 (v1 := .string (bstr ([] : List UInt8))) (resAt_tmp rfl) (v2 := .bool false) (resAt_tmp rfl) ⟨rfl, (hS2.sN [])⟩
 ·skip
  have hF2 := cf' hF hb
  refine cw_skip (cq (cr ?_))
  refine sQ 10 (yd (aD b) 0 3 K31 K3) <| sQ 11 (ya (aD b) 0 (kD_ x) (kR_ x.Num) K6 K3 (hS2.c 0)) ?_
  obtain ⟨⟨r_3, r_4⟩, hc1, hF2⟩ := bI hF2
  refine sc 12 rfl rfl (yC [gR_ x.Num] k_call_95 (c_impl_FormatRing x.Num _ (tab_keep hS2 ht1 (by kernel_rfl) hgm1) (hS2.inn0 [(true, 0)] rfl) hc1)) ?_
  rintro _ w_2 ⟨rfl, hd1⟩
  have hS3 := hS2.out00 hd1
  refine sQ 9 (ym (.tuple #[.string (bstr r_3), .bool r_4])) <| sQ 13 (ye (.string (bstr r_3))) <| sQ 14 (ye (.bool r_4)) <| sQ 4 (yg (.string (bstr r_3))) <| sQ 5 (yg (.bool r_4)) (rn (cq (cr ?_)))
  refine sQ 15 (ym (.string (bstr r_3))) ?_
  obtain ⟨hsa, hF2⟩ := chk_inv hF2
  refine sQ 16 (Y_sadd (a := r_3) (b := ([47] : List UInt8)) rfl rfl rfl hsa) <| sQ 17 (yd (aD b) 0 0 K28 K1) <| sQ 18 (yl (aD b) 4 (kD_ x) (vi x.Exp) K0 (hS3.c 0)) ?_
  obtain ⟨r_5, hc2, hF2⟩ := bI hF2
  refine sc 19 rfl rfl (yC [vi x.Exp] k_call_96 (c_strconv_Itoa x.Exp _ (tab_keep hS3 ht1 (by kernel_rfl) hgm1) (hS3.inn0 [(true, 0)] rfl) hc2)) ?_
  rintro _ w_3 ⟨rfl, hd2⟩
  have hS4 := hS3.out00 hd2
  obtain ⟨hsa1, hF2⟩ := chk_inv hF2
  refine sQ 20 (Y_sadd (a := (r_3 ++ ([47] : List UInt8))) (b := r_5) rfl rfl rfl hsa1) <| sQ 2 (yg (.string (bstr ((r_3 ++ ([47] : List UInt8)) ++ r_5)))) <| sQ 3 (yg (.bool true)) (rn (ct_ ?_))
  obtain ⟨rfl, rfl⟩ := pr2 (sI hF2)
  exact ret2 Tryz.results58 (v1 := .string (bstr ((r_3 ++ ([47] : List UInt8)) ++ r_5))) (resAt_tmp rfl) (v2 := .bool true) (resAt_tmp rfl) ⟨rfl, (hS4.sN [])⟩

theorem c_impl_OperatorKey (m : TMatrix) (B : Option Addr) (c n : Nat) (w0 : World) (hn : m.Cells.length = n) (ht1 : Go.Lib.TabIs Tryz.prog w0 "internal/strconv.uint64pow10" .u64 Go.Lib.pow10Tab) (hS : ST w0 [] w0 [] [⟨B, (m.Cells.flatMap eN1)⟩, ⟨(aD 1), (gl1.flatMap enc_u64)⟩]) {r_ : List UInt8} {r_1 : Bool} (hF : F_impl_OperatorKey m = some (r_, r_1)) :
  CV Tryz.prog 35 #[.agg #[vi m.Rows, vi m.Cols, .slice B n c]] w0 (fun v w' => v = .tuple #[.string (bstr r_), .bool r_1] ∧ ST w0 [] w' [] []) := by
 subst hn
 have hgm1 : 1 ∉ [] := List.not_mem_nil
 unfold F_impl_OperatorKey at hF
 refine cv_of_cw 39 Tryz.func35 rfl Tryz.ntmps35 rfl ?_
 refine cq (cr ?_)
 refine sS 1 (yB 50 (gM_ m B c) (kM_ m B c) 3 hS) ?_
 rintro _ w_ ⟨b, rfl, hS1⟩
 refine sQ 2 (yg (.string (bstr ([] : List UInt8)))) <| sQ 3 (yg (.bool false)) (rn (cq (cr ?_)))
 refine sQ 13 (yb (aD b) 0 (kM_ m B c) K9 K4 (hS1.c 0)) ?_
 obtain ⟨⟨r_2, r_3, r_4⟩, hc, hF⟩ := bI hF
 refine sc 14 rfl rfl (yC [gM_ m B c] k_call_57 (c_impl_CanonicalPhase m B c m.Cells.length _ rfl (hS1.inn0 [(true, 0)] rfl) hc)) ?_
 rintro _ w_1 ⟨B1, c1, rfl, hd⟩
 have hS2 := hS1.out0 hd
 refine sQ 12 (ym (.tuple #[gM_ r_2 B1 c1, vi r_3, .bool r_4])) <| sQ 15 (ye (gM_ r_2 B1 c1)) <| sQ 16 (ye (vi r_3)) <| sQ 17 (ye (.bool r_4)) ?_
 refine sS 4 (yN kN_ 3 hS2 K11) ?_
 rintro _ w_2 ⟨b1, rfl, hS3⟩
 refine s0 (yT 2 3 (aD b1) 50 (gM_ r_2 B1 c1) (kM_ r_2 B1 c1) 0 hS3 K4) ?_
 rintro _ w_3 ⟨rfl, hS4⟩
 refine sQ 5 (yg (vi r_3)) <| sQ 6 (yg (.bool r_4)) (rn (cq (cr ?_)))
 refine sS 18 (Ys_bslice0 (s := 1) (e := 9) hS4 K65 K66 rfl) ?_
 rintro _ w_4 ⟨b2, rfl, hS5⟩
 refine sQ 7 (yg (.slice (aD b2) 0 0)) (rn (cq (cq (cr ?_))))
 refine sQ 19 (yd (aD b1) 0 0 K22 K17) <| sQ 20 (yl (aD b1) 2 (kM_ r_2 B1 c1) (.slice B1 r_2.Cells.length c1) K25 (hS5.c 2)) <| sQ 21 (Y_len (B := B1) (m := r_2.Cells.length) (c := c1) K13 rfl rfl) <| sQ 22 (ym (vi 0)) (rn ?_)
 obtain ⟨hN, hF⟩ := chk_inv hF
 obtain ⟨z, hz, hF1⟩ := bI hF
 refine cw_block ?_
 refine cw_loop (fun k f w => ∃ (i : Nat) (words : List (List UInt8)) (B2 : Option Addr) (c2 : Nat), FF f [(6, .bool r_4), (7, .slice B2 words.length c2), (20, .slice B1 r_2.Cells.length c1), (21, vi (r_2.Cells.length : Int)), (22, vi (i : Int))] ∧ ST w0 [] w [⟨B2, 9, (words.flatMap encS), c2 * 1⟩, ⟨B1, 91, (r_2.Cells.flatMap eN1), c1 * 5⟩] [⟨B, (m.Cells.flatMap eN1)⟩, ⟨(aD 1), (gl1.flatMap enc_u64)⟩] ∧ i + k = r_2.Cells.length ∧ forN (F_impl_OperatorKey_l1 r_2) k i words = some z) r_2.Cells.length ⟨0, [], aD b2, 0, (fc rfl (fc rfl (fc rfl (fc rfl (fc rfl fn_))))), (hS5.sel [3, 1] rfl rfl), Nat.zero_add _, hz⟩ ?_
 rintro k_ f w ⟨i, words, B2, c2, hf, hS6, hik, hL⟩
 refine cq (cr ?_)
 refine sQ 23 (yL (i : Int) (r_2.Cells.length : Int) rfl (hf.g 22 4) (hf.g 21 3)) (rn (cq ?_))
 refine cw_cond (b := (decide ((i : Int) < (r_2.Cells.length : Int)))) rfl (fun hlt => ?_) (fun hlt => ?_)
 ·skip
  have hlt1 : i < r_2.Cells.length := by have h := of_decide_eq_true hlt; omega
  obtain ⟨K8, rfl⟩ : ∃ k2, k_ = k2 + 1 := ⟨k_ - 1, by omega⟩
  obtain ⟨y, hb, hL1⟩ := forN_go hL
  unfold F_impl_OperatorKey_l1 at hb
  refine cw_skip (cq (cw_block (cq (cr ?_))))
  obtain ⟨x, hx, hb⟩ := bI hb
  refine sQ 24 (Y_index (B := B1) (m := r_2.Cells.length) (c := c1) (k := .i64) (i := (i : Int)) K13 K2 rfl (hf.g 20 2) (hf.g 22 4) (gi_isSome enc_Dyadic_len rfl (hS6.c 1) hx) (getI_nn hx) (getI_ltI hx rfl)) <| sQ 25 (ya B1 ((i : Int).toNat * 5) (r_2.Cells.flatMap eN1) (kD_ x) K5 K2 (hS6.c 1) rfl rfl (enc_Dyadic_len x) (gi_seg enc_Dyadic_len hx)) ?_
  refine sS 9 (yN kZ_ 5 hS6 K7) ?_
  rintro _ w_5 ⟨b3, rfl, hS7⟩
  refine s0 (yT 2 5 (aD b3) 91 (gD_ x) (kD_ x) 0 hS7 K2) ?_
  rintro _ w_6 ⟨rfl, hS8⟩
  refine rn (cq (cr ?_))
  refine sQ 27 (yb (aD b3) 0 (kD_ x) K5 K2 (hS8.c 2)) ?_
  obtain ⟨⟨r_5, r_6⟩, hc1, hb⟩ := bI hb
  refine sc 28 rfl rfl (yC [gD_ x] k_call_58 (c_impl_FormatDyadic x _ (tab_keep hS8 ht1 (by kernel_rfl) hgm1) (hS8.inn0 [(true, 1)] rfl) hc1)) ?_
  rintro _ w_7 ⟨rfl, hd1⟩
  have hS9 := hS8.out00 hd1
  refine sQ 26 (ym (.tuple #[.string (bstr r_5), .bool r_6])) <| sQ 29 (ye (.string (bstr r_5))) <| sQ 30 (ye (.bool r_6)) <| sQ 10 (yg (.string (bstr r_5))) <| sQ 11 (yg (.bool r_6)) (rn (cr ?_))
  refine sQ 31 (ym (.slice B2 words.length c2) rfl (hf.g 7 1)) <| sQ 32 (ym (.string (bstr r_5))) ?_
  refine sS 33 (Ys_bslice (s := 1) (len := 1) (vs := [(0, .string (bstr r_5))]) (cs := [.string (bstr r_5)]) (zs := [.string (bstr ([] : List UInt8))]) (m := 1) hS9 K65 K66 k_zc_9 rfl (mpc rfl mpn) rfl rfl rfl (by kernel_rfl) (by kernel_rfl) rfl) ?_
  rintro _ w_8 ⟨b4, rfl, hS10⟩
  obtain ⟨hap, hb⟩ := chk_inv hb
  refine sS 34 (Ys_append (s := 1) (by' := 16) (i := 0) (nn := words.length) (c := c2) (k := 1) (len := (words ++ [r_5]).length) (B := B2) (xs := ([r_5].flatMap encS)) (cs' := ((words ++ [r_5]).flatMap encS)) hS10 K65 K66 k_by_9_16 k_zero_9 rfl (by decide) rfl rfl rfl rfl (fm_lenn (l := words) encS_len rfl) rfl (hS10.c 3) (fm_lenn (l := [r_5]) encS_len rfl) (fm_one' (enc := encS) encS_one [r_5]) (by have := hap; omega) (by have := hap; simp only [maxLen]; omega) (fm_app _ _) (app_len (l := words) (l' := [r_5]) rfl rfl)) ?_
  rintro _ w_9 ⟨B3, c3, rfl, hS11⟩
  refine sQ 7 (yg (.slice B3 ((words ++ [r_5]).length) c3)) (rn (cr ?_))
  refine sQ 35 (yP (i : Int) 1 rfl (hf.g 22 4)) <| sQ 22 (ym (vi (i64.wrap ((i : Int) + 1)))) (rn ?_)
  obtain rfl := sI hb
  exact ⟨K8, Nat.lt_succ_self _, i + 1, (words ++ [r_5]), B3, c3, (fc (hf.g 6 0) (fc rfl (fc (hf.g 20 2) (fc (hf.g 21 3) (fc (congrArg (Value.int .i64) (wr_succ hlt1 hN)) fn_))))), (hS11.sel [0, 1] rfl rfl), (by omega), hL1⟩
 ·skip
  obtain rfl : k_ = 0 := by have h := of_decide_eq_false hlt; omega
  refine cw_exit rfl ?_
  obtain rfl := sI hL
  refine cq (cr ?_)
  refine sQ 36 (ym (.slice B2 words.length c2) rfl (hf.g 7 1)) ?_
  obtain ⟨r_7, hc2, hF1⟩ := bI hF1
  refine sc 37 rfl rfl (yC [.slice B2 words.length c2, .string (bstr ([44] : List UInt8))] k_call_59 (c_strings_Join words ([44] : List UInt8) B2 c2 words.length _ rfl (hS6.inn [true, false] rfl [] rfl) hc2)) ?_
  rintro _ w_10 ⟨rfl, hl, hd2⟩
  have hS12 := hS6.out [true, false] rfl hd2
  refine sQ 38 (ym (.bool r_4) rfl (hf.g 6 0)) <| sQ 2 (yg (.string (bstr r_7))) <| sQ 3 (yg (.bool r_4)) (rn (ct_ ?_))
  obtain ⟨rfl, rfl⟩ := pr2 (sI hF1)
  exact ret2 Tryz.results35 (v1 := .string (bstr r_7)) (resAt_tmp rfl) (v2 := .bool r_4) (resAt_tmp rfl) ⟨rfl, (hS12.sN [])⟩

theorem c_impl_tableGates (n : Int)  (w0 : World)  (hS : ST w0 [] w0 [] []) {r_ : List TGate} (hF : F_impl_tableGates n = some r_) :
  CV Tryz.prog 36 #[vi n] w0 (fun v w' => ∃ (B : Option Addr) (c : Nat), v = .slice B r_.length c ∧ ST w0 [] w' [⟨B, 56, (r_.flatMap eN0), c * 3⟩] []) := by
 unfold F_impl_tableGates at hF
 refine cv_of_cw 34 Tryz.func36 rfl Tryz.ntmps36 rfl ?_
 refine cq (cr ?_)
 refine sQ 2 (yg (.slice none 0 0)) (rn (cq (cr ?_)))
 refine sS 7 (Ys_bslice0 (s := 3) (e := 56) hS K23 K19 rfl) ?_
 rintro _ w_ ⟨b, rfl, hS1⟩
 refine sQ 3 (yg (.slice (aD b) 0 0)) (rn (cq (cq (cr ?_))))
 refine sS 8 (Ys_bslice (s := 1) (len := 3) (vs := [(0, vi 1), (1, vi 5), (2, vi 7)]) (cs := [vi 1, vi 5, vi 7]) (zs := [vi 0, vi 0, vi 0]) (m := 3) hS1 K26 K1 K50 rfl (mpc rfl (mpc rfl (mpc rfl mpn))) rfl rfl rfl (by kernel_rfl) (by kernel_rfl) rfl) ?_
 rintro _ w_1 ⟨b1, rfl, hS2⟩
 refine sQ 9 (Y_len (B := aD b1) (m := 3) (c := 3) K26 rfl rfl) <| sQ 10 (ym (vi 0)) (rn ?_)
 obtain ⟨z, hz, hF1⟩ := bI hF
 refine cw_block ?_
 refine cw_loop (fun k f w => ∃ (i : Nat) (out : List TGate) (B1 : Option Addr) (c1 : Nat), FF f [(0, vi n), (3, .slice B1 out.length c1), (8, .slice (aD b1) 3 3), (9, vi 3), (10, vi (i : Int))] ∧ ST w0 [] w [⟨B1, 56, (out.flatMap eN0), c1 * 3⟩, ⟨aD b1, 3, ([1, 5, 7].flatMap encI), 3 * 1⟩] [] ∧ i + k = 3 ∧ forN (F_impl_tableGates_l1 n) k i out = some z) 3 ⟨0, [], aD b, 0, (fc rfl (fc rfl (fc rfl (fc rfl (fc rfl fn_))))), (hS2.sel [0, 1] rfl rfl), Nat.zero_add _, hz⟩ ?_
 rintro k_ f w ⟨i, out, B1, c1, hf, hS3, hik, hL⟩
 refine cq (cr ?_)
 refine sQ 11 (yL (i : Int) 3 rfl (hf.g 10 4) (hf.g 9 3)) (rn (cq ?_))
 refine cw_cond (b := (decide ((i : Int) < 3))) rfl (fun hlt => ?_) (fun hlt => ?_)
 ·skip
  have hlt1 : i < 3 := by have h := of_decide_eq_true hlt; omega
  obtain ⟨K8, rfl⟩ : ∃ k2, k_ = k2 + 1 := ⟨k_ - 1, by omega⟩
  obtain ⟨y, hb, hL1⟩ := forN_go hL
  unfold F_impl_tableGates_l1 at hb
  refine cw_skip (cq (cw_block (cq (cr ?_))))
  obtain ⟨x, hx, hb⟩ := bI hb
  refine sQ 12 (Y_index (B := aD b1) (m := 3) (c := 3) (k := .i64) (i := (i : Int)) K26 K1 rfl (hf.g 8 2) (hf.g 10 4) (gi_isSome encI_len rfl (hS3.c 1) hx) (getI_nn hx) (getI_ltI hx rfl)) <| sQ 13 (yl (aD b1) ((i : Int).toNat * 1) ([1, 5, 7].flatMap encI) (vi x) K0 (hS3.c 1) rfl rfl (gi_at0 encI_len hx rfl)) <| sQ 5 (yg (vi x)) (rn (cq (cr ?_)))
  refine sQ 14 (ym (vi n) rfl (hf.g 0 0)) <| sQ 15 (ym (vi 0)) (rn ?_)
  obtain ⟨hN, hb⟩ := chk_inv hb
  obtain ⟨z1, hz1, hF2⟩ := bI hb
  refine cw_block ?_
  refine cw_loop (fun k f w => ∃ (i1 : Nat) (out1 : List TGate) (B2 : Option Addr) (c2 : Nat), FF f [(0, vi n), (3, .slice B2 out1.length c2), (5, vi x), (8, .slice (aD b1) 3 3), (9, vi 3), (10, vi (i : Int)), (14, vi n), (15, vi (i1 : Int))] ∧ ST w0 [] w [⟨B2, 56, (out1.flatMap eN0), c2 * 3⟩, ⟨aD b1, 3, ([1, 5, 7].flatMap encI), 3 * 1⟩] [] ∧ i1 + k = n.toNat ∧ forN (F_impl_tableGates_l2 x) k i1 out1 = some z1) n.toNat ⟨0, out, B1, c1, (fc (hf.g 0 0) (fc (hf.g 3 1) (fc rfl (fc (hf.g 8 2) (fc (hf.g 9 3) (fc (hf.g 10 4) (fc rfl (fc rfl fn_)))))))), (hS3.sel [0, 1] rfl rfl), Nat.zero_add _, hz1⟩ ?_
  rintro K21 f w ⟨i1, out1, B2, c2, hf1, hS4, hik1, hL2⟩
  refine cq (cr ?_)
  refine sQ 16 (yL (i1 : Int) n rfl (hf1.g 15 7) (hf1.g 14 6)) (rn (cq ?_))
  refine cw_cond (b := (decide ((i1 : Int) < n))) rfl (fun hlt2 => ?_) (fun hlt2 => ?_)
  ·skip
   have hlt3 : i1 < n.toNat := by have h := of_decide_eq_true hlt2; omega
   obtain ⟨K30, rfl⟩ : ∃ k2, K21 = k2 + 1 := ⟨K21 - 1, by omega⟩
   obtain ⟨y1, hb1, hL3⟩ := forN_go hL2
   unfold F_impl_tableGates_l2 at hb1
   refine cw_skip (cq (cw_block (cq (cr ?_))))
   refine sQ 17 (ym (vi (i1 : Int)) rfl (hf1.g 15 7)) <| sQ 6 (yg (vi (i1 : Int))) (rn (cr ?_))
   refine sQ 18 (ym (.slice B2 out1.length c2) rfl (hf1.g 3 1)) <| sQ 19 (ym (vi x) rfl (hf1.g 5 2)) <| sQ 20 (ym (vi (i1 : Int))) <| sQ 21 (Y_buildS (zs := [vi 0, vi 0, vi 0]) (vs := [(0, vi x), (1, vi (i1 : Int))]) (cs := [vi x, vi (i1 : Int), vi 0]) K36 K24 rfl (mpc rfl (mpc rfl mpn)) rfl) ?_
   refine sS 22 (Ys_bslice (s := 3) (len := 1) (vs := [(0, .agg #[vi x, vi (i1 : Int), vi 0])]) (cs := [vi x, vi (i1 : Int), vi 0]) (zs := [vi 0, vi 0, vi 0]) (m := 3) hS4 K23 K19 K47 rfl (mpc rfl mpn) rfl rfl rfl (by kernel_rfl) (by kernel_rfl) rfl) ?_
   rintro _ w_2 ⟨b2, rfl, hS5⟩
   obtain ⟨hap, hb1⟩ := chk_inv hb1
   refine sS 23 (Ys_append (s := 3) (by' := 24) (i := 0) (nn := out1.length) (c := c2) (k := 1) (len := (out1 ++ [(TGate.mk x (i1 : Int) 0)]).length) (B := B2) (xs := ([(TGate.mk x (i1 : Int) 0)].flatMap eN0)) (cs' := ((out1 ++ [(TGate.mk x (i1 : Int) 0)]).flatMap eN0)) hS5 K23 K19 K43 K24 rfl (by decide) rfl rfl rfl rfl (fm_lenn (l := out1) enc_Gate_len rfl) rfl (hS5.c 2) (fm_lenn (l := [(TGate.mk x (i1 : Int) 0)]) enc_Gate_len rfl) (fm_one' (enc := eN0) enc_Gate_one [(TGate.mk x (i1 : Int) 0)]) (by have := hap; omega) (by have := hap; simp only [maxLen]; omega) (fm_app _ _) (app_len (l := out1) (l' := [(TGate.mk x (i1 : Int) 0)]) rfl rfl)) ?_
   rintro _ w_3 ⟨B3, c3, rfl, hS6⟩
   refine sQ 3 (yg (.slice B3 ((out1 ++ [(TGate.mk x (i1 : Int) 0)]).length) c3)) (rn (cr ?_))
   refine sQ 24 (yP (i1 : Int) 1 rfl (hf1.g 15 7)) <| sQ 15 (ym (vi (i64.wrap ((i1 : Int) + 1)))) (rn ?_)
   obtain rfl := sI hb1
   exact ⟨K30, Nat.lt_succ_self _, i1 + 1, (out1 ++ [(TGate.mk x (i1 : Int) 0)]), B3, c3, (fc (hf1.g 0 0) (fc rfl (fc (hf1.g 5 2) (fc (hf1.g 8 3) (fc (hf1.g 9 4) (fc (hf1.g 10 5) (fc (hf1.g 14 6) (fc (congrArg (Value.int .i64) (wr_succ hlt3 hN)) fn_)))))))), (hS6.sel [0, 1] rfl rfl), (by omega), hL3⟩
  ·skip
   obtain rfl : K21 = 0 := by have h := of_decide_eq_false hlt2; omega
   refine cw_exit rfl ?_
   obtain rfl := sI hL2
   refine cr ?_
   refine sQ 25 (yP (i : Int) 1 rfl (hf1.g 10 5)) <| sQ 10 (ym (vi (i64.wrap ((i : Int) + 1)))) (rn ?_)
   obtain rfl := sI hF2
   exact ⟨K8, Nat.lt_succ_self _, i + 1, out1, B2, c2, (fc (hf1.g 0 0) (fc (hf1.g 3 1) (fc (hf1.g 8 3) (fc (hf1.g 9 4) (fc (congrArg (Value.int .i64) (wr_succ hlt1 (show 3 ≤ 9223372036854775807 by decide))) fn_))))), (hS4.sel [0, 1] rfl rfl), (by omega), hL1⟩
 ·skip
  obtain rfl : k_ = 0 := by have h := of_decide_eq_false hlt; omega
  refine cw_exit rfl ?_
  obtain rfl := sI hL
  refine cq ?_
  obtain ⟨z2, hz2, hF3⟩ := bI hF1
  refine cw_mid (fun f w => ∃ (out2 : List TGate) (B4 : Option Addr) (c4 : Nat), out2 = z2 ∧ FF f [(3, .slice B4 out2.length c4)] ∧ ST w0 [] w [⟨B4, 56, (out2.flatMap eN0), c4 * 3⟩] []) ?_ ?_
  ·skip
   refine cq (cr ?_)
   refine sQ 26 (ym (vi n) rfl (hf.g 0 0)) <| sQ 27 (yE n 2) (rn ?_)
   refine cw_cond (b := (n == 2)) rfl (fun hb2 => ?_) (fun hb2 => ?_)
   ·skip
    have hF4 := ct hz2 hb2
    refine cr ?_
    refine sQ 28 (ym (.slice B1 out.length c1) rfl (hf.g 3 1)) <| sQ 29 (Y_buildS (zs := [vi 0, vi 0, vi 0]) (vs := [(0, vi 9), (1, vi 0), (2, vi 1)]) (cs := [vi 9, vi 0, vi 1]) K36 K24 rfl (mpc rfl (mpc rfl (mpc rfl mpn))) rfl) <| sQ 30 (Y_buildS (zs := [vi 0, vi 0, vi 0]) (vs := [(0, vi 9), (1, vi 1), (2, vi 0)]) (cs := [vi 9, vi 1, vi 0]) K36 K24 rfl (mpc rfl (mpc rfl (mpc rfl mpn))) rfl) ?_
    refine sS 31 (Ys_bslice (s := 3) (len := 2) (vs := [(0, .agg #[vi 9, vi 0, vi 1]), (1, .agg #[vi 9, vi 1, vi 0])]) (cs := [vi 9, vi 0, vi 1, vi 9, vi 1, vi 0]) (zs := [vi 0, vi 0, vi 0, vi 0, vi 0, vi 0]) (m := 6) hS3 K23 K19 K47 rfl (mpc rfl (mpc rfl mpn)) rfl rfl rfl (by kernel_rfl) (by kernel_rfl) rfl) ?_
    rintro _ w_4 ⟨b3, rfl, hS8⟩
    obtain ⟨hap1, hF4⟩ := chk_inv hF4
    refine sS 32 (Ys_append (s := 3) (by' := 24) (i := 0) (nn := out.length) (c := c1) (k := 2) (len := (out ++ [(TGate.mk 9 0 1), (TGate.mk 9 1 0)]).length) (B := B1) (xs := ([(TGate.mk 9 0 1), (TGate.mk 9 1 0)].flatMap eN0)) (cs' := ((out ++ [(TGate.mk 9 0 1), (TGate.mk 9 1 0)]).flatMap eN0)) hS8 K23 K19 K43 K24 rfl (by decide) rfl rfl rfl rfl (fm_lenn (l := out) enc_Gate_len rfl) rfl (hS8.c 2) (fm_lenn (l := [(TGate.mk 9 0 1), (TGate.mk 9 1 0)]) enc_Gate_len rfl) (fm_one' (enc := eN0) enc_Gate_one [(TGate.mk 9 0 1), (TGate.mk 9 1 0)]) (by have := hap1; omega) (by have := hap1; simp only [maxLen]; omega) (fm_app _ _) (app_len (l := out) (l' := [(TGate.mk 9 0 1), (TGate.mk 9 1 0)]) rfl rfl)) ?_
    rintro _ w_5 ⟨B5, c5, rfl, hS9⟩
    refine sQ 3 (yg (.slice B5 ((out ++ [(TGate.mk 9 0 1), (TGate.mk 9 1 0)]).length) c5)) (rn ?_)
    exact ⟨(out ++ [(TGate.mk 9 0 1), (TGate.mk 9 1 0)]), B5, c5, (sI hF4), (fc rfl fn_), (hS9.sel [0] rfl rfl)⟩
   ·skip
    have hF5 := cf' hz2 hb2
    refine cw_skip ?_
    exact ⟨out, B1, c1, (sI hF5), (fc (hf.g 3 1) fn_), (hS3.sel [0] rfl rfl)⟩
  rintro f w ⟨out2, B4, c4, rfl, hf2, hS7⟩
  refine cq (cr ?_)
  refine sQ 33 (ym (.slice B4 out2.length c4) rfl (hf2.g 3 0)) <| sQ 2 (yg (.slice B4 out2.length c4)) (rn (ct_ ?_))
  obtain rfl := sI hF3
  exact ret1 Tryz.results36 (v1 := .slice B4 out2.length c4) (resAt_tmp rfl) ⟨B4, c4, rfl, (hS7.sN [0])⟩

theorem c_impl_isTwo (kind : Int)  (w0 : World)  (hS : ST w0 [] w0 [] []) {r_ : Bool} (hF : F_impl_isTwo kind = some r_) :
  CV Tryz.prog 63 #[vi kind] w0 (fun v w' => v = .bool r_ ∧ ST w0 [] w' [] []) := by
 unfold F_impl_isTwo at hF
 refine cv_of_cw 5 Tryz.func63 rfl Tryz.ntmps63 rfl ?_
 refine cq (cr ?_)
 refine sQ 2 (yg (.bool false)) (rn (cq (cr ?_)))
 refine sQ 3 (ym (vi kind)) ?_
 obtain ⟨r_1, hc, hF⟩ := bI hF
 refine sc 4 rfl rfl (yC [vi kind, vi 9, vi 11] K38 (c_impl_within kind 9 11 _  (hS.inn0 [] rfl) hc)) ?_
 rintro _ w_ ⟨rfl, hd⟩
 have hS1 := hS.out00 hd
 refine sQ 2 (yg (.bool r_1)) (rn (ct_ ?_))
 obtain rfl := sI hF
 exact ret1 Tryz.results63 (v1 := .bool r_1) (resAt_tmp rfl) ⟨rfl, (hS1.sN [])⟩

theorem c_impl_IsValidGate (n : Int) (g : TGate)  (w0 : World)  (hS : ST w0 [] w0 [] []) {r_ : Bool} (hF : F_impl_IsValidGate n g = some r_) :
  CV Tryz.prog 60 #[vi n, .agg #[vi g.Kind, vi g.A, vi g.B]] w0 (fun v w' => v = .bool r_ ∧ ST w0 [] w' [] []) := by
 unfold F_impl_IsValidGate at hF
 refine cv_of_cw 60 Tryz.func60 rfl Tryz.ntmps60 rfl ?_
 refine cq (cr ?_)
 refine sS 3 (yB 56 (.agg #[vi g.Kind, vi g.A, vi g.B]) [vi g.Kind, vi g.A, vi g.B] 3 hS) ?_
 rintro _ w_ ⟨b, rfl, hS1⟩
 refine sQ 4 (yg (.bool false)) (rn (cq (cw_block (cq (cr ?_)))))
 refine sQ 6 (ym (vi n)) ?_
 obtain ⟨r_1, hc, hF⟩ := bI hF
 refine sc 7 rfl rfl (yC [vi n, vi 1, vi 5] K38 (c_impl_within n 1 5 _  (hS1.inn0 [] rfl) hc)) ?_
 rintro _ w_1 ⟨rfl, hd⟩
 have hS2 := hS1.out00 hd
 refine sQ 8 (Y_not (p := r_1) rfl rfl) <| sQ 9 (ym (.bool (!r_1))) ?_
 refine sgq 10 (B := (!(!r_1))) (v := pt (aD b) 0) rfl rfl (uF_ 9) (fun hg => (yd (aD b) 0 0 K42 K1)) ?_
 refine sgq 11 (B := (!(!r_1))) (v := vi g.Kind) rfl rfl (uF_ 9) (fun hg1 => (yl (aD b) 0 [vi g.Kind, vi g.A, vi g.B] (vi g.Kind) K0 (hS2.c 0) rfl (gv_of (v := pt (aD b) 0) hg1))) ?_
 obtain ⟨r_2, hc1, hF⟩ := bI hF
 refine sgc 12 (B := (!(!r_1))) (v := .bool r_2) (F := hS2.fn) rfl rfl (uF_ 9) hS2 (fun hg2 => (yC [vi g.Kind, vi 1, vi 12] K38 (CV.mono (c_impl_within g.Kind 1 12 _  (hS2.inn0 [] rfl) (gb_inv hc1 hg2)) (by rintro _ _ ⟨rfl, h⟩; exact ⟨rfl, hS2.out00 h⟩)) rfl (mc (gv_of (v := vi g.Kind) hg2) (mc rfl (mc rfl mn))))) ?_
 rintro w_2 hS3
 refine sgq 13 (B := (!(!r_1))) (v := .bool (!r_2)) rfl rfl (uF_ 9) (fun hg3 => (Y_not (p := r_2) rfl (gv_of (v := .bool r_2) hg3))) ?_
 refine sQ 14 (Y_or (b := (!r_1)) (z := (!r_2)) rfl rfl rfl rfl) <| sQ 5 (yg (.bool ((!r_1) || (!r_2)))) (rn ?_)
 refine cw_cond (b := ((!r_1) || (!r_2))) rfl (fun hb => ?_) (fun hb => ?_)
 ·skip
  have hF1 := ct hF hb
  refine cq (cr ?_)
  refine sQ 4 (yg (.bool false)) (rn (ct_ ?_))
  obtain rfl := sI hF1
  exact ret1 Tryz.results60 (v1 := .bool false) (resAt_tmp rfl) ⟨rfl, (hS3.sN [])⟩
 ·skip
  have hF2 := cf' hF hb
  refine cq (cr ?_)
  refine sQ 16 (yd (aD b) 0 0 K42 K1) <| sQ 17 (yl (aD b) 0 [vi g.Kind, vi g.A, vi g.B] (vi g.Kind) K0 (hS3.c 0)) <| sQ 18 (yE g.Kind 12) <| sQ 15 (yg (.bool (g.Kind == 12))) (rn ?_)
  refine cw_cond (b := (g.Kind == 12)) rfl (fun hb1 => ?_) (fun hb1 => ?_)
  ·skip
   have hF3 := ct hF2 hb1
   refine cq (cr ?_)
   refine sQ 19 (yd (aD b) 0 0 K33 K1) <| sQ 20 (yl (aD b) 1 [vi g.Kind, vi g.A, vi g.B] (vi g.A) K0 (hS3.c 0)) <| sQ 21 (yE g.A 0) <| sQ 22 (ym (.bool (g.A == 0))) ?_
   refine sgq 23 (B := (g.A == 0)) (v := pt (aD b) 2) rfl rfl (uT_ 22) (fun hg4 => (yd (aD b) 0 0 K41 K1)) ?_
   refine sgq 24 (B := (g.A == 0)) (v := vi g.B) rfl rfl (uT_ 22) (fun hg5 => (yl (aD b) 2 [vi g.Kind, vi g.A, vi g.B] (vi g.B) K0 (hS3.c 0) rfl (gv_of (v := pt (aD b) 2) hg5))) ?_
   refine sgq 25 (B := (g.A == 0)) (v := .bool (g.B == 0)) rfl rfl (uT_ 22) (fun hg6 => (yE g.B 0 rfl (gv_of (v := vi g.B) hg6))) ?_
   refine sQ 26 (Y_and (b := (g.A == 0)) (z := (g.B == 0)) rfl rfl rfl rfl) <| sQ 4 (yg (.bool ((g.A == 0) && (g.B == 0)))) (rn (ct_ ?_))
   obtain rfl := sI hF3
   exact ret1 Tryz.results60 (v1 := .bool ((g.A == 0) && (g.B == 0))) (resAt_tmp rfl) ⟨rfl, (hS3.sN [])⟩
  ·skip
   have hF4 := cf' hF2 hb1
   refine cq (cr ?_)
   refine sQ 28 (yd (aD b) 0 0 K42 K1) <| sQ 29 (yl (aD b) 0 [vi g.Kind, vi g.A, vi g.B] (vi g.Kind) K0 (hS3.c 0)) ?_
   obtain ⟨r_3, hc2, hF4⟩ := bI hF4
   refine sc 30 rfl rfl (yC [vi g.Kind] k_call_63 (c_impl_isTwo g.Kind _  (hS3.inn0 [] rfl) hc2)) ?_
   rintro _ w_3 ⟨rfl, hd1⟩
   have hS4 := hS3.out00 hd1
   refine sQ 27 (yg (.bool r_3)) (rn ?_)
   refine cw_cond (b := r_3) rfl (fun hb2 => ?_) (fun hb2 => ?_)
   ·skip
    have hF5 := ct hF4 hb2
    refine cq (cr ?_)
    refine sQ 31 (yd (aD b) 0 0 K33 K1) <| sQ 32 (yl (aD b) 1 [vi g.Kind, vi g.A, vi g.B] (vi g.A) K0 (hS4.c 0)) <| sQ 33 (ym (vi n)) <| sQ 34 (yM n 1) ?_
    obtain ⟨r_4, hc3, hF5⟩ := bI hF5
    refine sc 35 rfl rfl (yC [vi g.A, vi 0, vi (i64.wrap (n - 1))] K38 (c_impl_within g.A 0 (i64.wrap (n - 1)) _  (hS4.inn0 [] rfl) hc3)) ?_
    rintro _ w_4 ⟨rfl, hd2⟩
    have hS5 := hS4.out00 hd2
    refine sQ 36 (ym (.bool r_4)) ?_
    refine sgq 37 (B := r_4) (v := pt (aD b) 2) rfl rfl (uT_ 36) (fun hg7 => (yd (aD b) 0 0 K41 K1)) ?_
    refine sgq 38 (B := r_4) (v := vi g.B) rfl rfl (uT_ 36) (fun hg8 => (yl (aD b) 2 [vi g.Kind, vi g.A, vi g.B] (vi g.B) K0 (hS5.c 0) rfl (gv_of (v := pt (aD b) 2) hg8))) ?_
    refine sgq 39 (B := r_4) (v := vi n) rfl rfl (uT_ 36) (fun hg9 => (ym (vi n))) ?_
    refine sgq 40 (B := r_4) (v := vi (i64.wrap (n - 1))) rfl rfl (uT_ 36) (fun hg10 => (yM n 1 rfl (gv_of (v := vi n) hg10))) ?_
    obtain ⟨r_5, hc4, hF5⟩ := bI hF5
    refine sgc 41 (B := r_4) (v := .bool r_5) (F := hS5.fn) rfl rfl (uT_ 36) hS5 (fun hg11 => (yC [vi g.B, vi 0, vi (i64.wrap (n - 1))] K38 (CV.mono (c_impl_within g.B 0 (i64.wrap (n - 1)) _  (hS5.inn0 [] rfl) (gb_inv hc4 hg11)) (by rintro _ _ ⟨rfl, h⟩; exact ⟨rfl, hS5.out00 h⟩)) rfl (mc (gv_of (v := vi g.B) hg11) (mc rfl (mc (gv_of (v := vi (i64.wrap (n - 1))) hg11) mn))))) ?_
    rintro w_5 hS6
    refine sQ 42 (Y_and (b := r_4) (z := r_5) rfl rfl rfl rfl) <| sQ 43 (ym (.bool (r_4 && r_5))) ?_
    refine sgq 44 (B := (r_4 && r_5)) (v := pt (aD b) 1) rfl rfl (uT_ 43) (fun hg12 => (yd (aD b) 0 0 K33 K1)) ?_
    refine sgq 45 (B := (r_4 && r_5)) (v := vi g.A) rfl rfl (uT_ 43) (fun hg13 => (yl (aD b) 1 [vi g.Kind, vi g.A, vi g.B] (vi g.A) K0 (hS6.c 0) rfl (gv_of (v := pt (aD b) 1) hg13))) ?_
    refine sgq 46 (B := (r_4 && r_5)) (v := pt (aD b) 2) rfl rfl (uT_ 43) (fun hg14 => (yd (aD b) 0 0 K41 K1)) ?_
    refine sgq 47 (B := (r_4 && r_5)) (v := vi g.B) rfl rfl (uT_ 43) (fun hg15 => (yl (aD b) 2 [vi g.Kind, vi g.A, vi g.B] (vi g.B) K0 (hS6.c 0) rfl (gv_of (v := pt (aD b) 2) hg15))) ?_
    refine sgq 48 (B := (r_4 && r_5)) (v := .bool (g.A != g.B)) rfl rfl (uT_ 43) (fun hg16 => (Y_ne (k := .i64) (a := g.A) (b := g.B) rfl (gv_of (v := vi g.A) hg16) (gv_of (v := vi g.B) hg16))) ?_
    refine sQ 49 (Y_and (b := (r_4 && r_5)) (z := (g.A != g.B)) rfl rfl rfl rfl) <| sQ 4 (yg (.bool ((r_4 && r_5) && (g.A != g.B)))) (rn (ct_ ?_))
    obtain rfl := sI hF5
    exact ret1 Tryz.results60 (v1 := .bool ((r_4 && r_5) && (g.A != g.B))) (resAt_tmp rfl) ⟨rfl, (hS6.sN [])⟩
   ·skip
    have hF6 := cf' hF4 hb2
    refine cw_skip (cq (cr ?_))
    refine sQ 50 (yd (aD b) 0 0 K33 K1) <| sQ 51 (yl (aD b) 1 [vi g.Kind, vi g.A, vi g.B] (vi g.A) K0 (hS4.c 0)) <| sQ 52 (ym (vi n)) <| sQ 53 (yM n 1) ?_
    obtain ⟨r_6, hc5, hF6⟩ := bI hF6
    refine sc 54 rfl rfl (yC [vi g.A, vi 0, vi (i64.wrap (n - 1))] K38 (c_impl_within g.A 0 (i64.wrap (n - 1)) _  (hS4.inn0 [] rfl) hc5)) ?_
    rintro _ w_6 ⟨rfl, hd3⟩
    have hS7 := hS4.out00 hd3
    refine sQ 55 (ym (.bool r_6)) ?_
    refine sgq 56 (B := r_6) (v := pt (aD b) 2) rfl rfl (uT_ 55) (fun hg17 => (yd (aD b) 0 0 K41 K1)) ?_
    refine sgq 57 (B := r_6) (v := vi g.B) rfl rfl (uT_ 55) (fun hg18 => (yl (aD b) 2 [vi g.Kind, vi g.A, vi g.B] (vi g.B) K0 (hS7.c 0) rfl (gv_of (v := pt (aD b) 2) hg18))) ?_
    refine sgq 58 (B := r_6) (v := .bool (g.B == 0)) rfl rfl (uT_ 55) (fun hg19 => (yE g.B 0 rfl (gv_of (v := vi g.B) hg19))) ?_
    refine sQ 59 (Y_and (b := r_6) (z := (g.B == 0)) rfl rfl rfl rfl) <| sQ 4 (yg (.bool (r_6 && (g.B == 0)))) (rn (ct_ ?_))
    obtain rfl := sI hF6
    exact ret1 Tryz.results60 (v1 := .bool (r_6 && (g.B == 0))) (resAt_tmp rfl) ⟨rfl, (hS7.sN [])⟩

theorem c_impl_bitOf (n : Int) (state : Int) (q : Int)  (w0 : World)  (hS : ST w0 [] w0 [] []) {r_ : Int} (hF : F_impl_bitOf n state q = some r_) :
  CV Tryz.prog 66 #[vi n, vi state, vi q] w0 (fun v w' => v = vi r_ ∧ ST w0 [] w' [] []) := by
 unfold F_impl_bitOf at hF
 refine cv_of_cw 14 Tryz.func66 rfl Tryz.ntmps66 rfl ?_
 refine cq (cr ?_)
 refine sQ 6 (yg (vi 0)) (rn (cq (cr ?_)))
 refine sQ 7 (ym (vi state)) <| sQ 8 (ym (vi n)) <| sQ 9 (yM n 1) <| sQ 10 (ym (vi q)) <| sQ 11 (yM (i64.wrap (n - 1)) q) ?_
 obtain ⟨hsh, hF⟩ := chk_inv hF
 refine sQ 12 (Y_shr (k := .i64) (a := state) (k' := .i64) (b := (i64.wrap ((i64.wrap (n - 1)) - q))) rfl rfl rfl hsh) <| sQ 13 (Y_band (k := .i64) (a := (shrK .i64 state (i64.wrap ((i64.wrap (n - 1)) - q)))) (b := 1) rfl rfl rfl) <| sQ 6 (yg (vi (bits .and .i64 (shrK .i64 state (i64.wrap ((i64.wrap (n - 1)) - q))) 1))) (rn (ct_ ?_))
 obtain rfl := sI hF
 exact ret1 Tryz.results66 (v1 := vi (bits .and .i64 (shrK .i64 state (i64.wrap ((i64.wrap (n - 1)) - q))) 1)) (resAt_tmp rfl) ⟨rfl, (hS.sN [])⟩

theorem c_impl_flipped (n : Int) (state : Int) (q : Int)  (w0 : World)  (hS : ST w0 [] w0 [] []) {r_ : Int} (hF : F_impl_flipped n state q = some r_) :
  CV Tryz.prog 67 #[vi n, vi state, vi q] w0 (fun v w' => v = vi r_ ∧ ST w0 [] w' [] []) := by
 unfold F_impl_flipped at hF
 refine cv_of_cw 14 Tryz.func67 rfl Tryz.ntmps67 rfl ?_
 refine cq (cr ?_)
 refine sQ 6 (yg (vi 0)) (rn (cq (cr ?_)))
 refine sQ 7 (ym (vi state)) <| sQ 8 (ym (vi n)) <| sQ 9 (yM n 1) <| sQ 10 (ym (vi q)) <| sQ 11 (yM (i64.wrap (n - 1)) q) ?_
 obtain ⟨hsh, hF⟩ := chk_inv hF
 refine sQ 12 (Y_shl (k := .i64) (a := 1) (k' := .i64) (b := (i64.wrap ((i64.wrap (n - 1)) - q))) rfl rfl rfl hsh) <| sQ 13 (Y_bxor (k := .i64) (a := state) (b := (shlK .i64 1 (i64.wrap ((i64.wrap (n - 1)) - q)))) rfl rfl rfl) <| sQ 6 (yg (vi (bits .xor .i64 state (shlK .i64 1 (i64.wrap ((i64.wrap (n - 1)) - q)))))) (rn (ct_ ?_))
 obtain rfl := sI hF
 exact ret1 Tryz.results67 (v1 := vi (bits .xor .i64 state (shlK .i64 1 (i64.wrap ((i64.wrap (n - 1)) - q))))) (resAt_tmp rfl) ⟨rfl, (hS.sN [])⟩

theorem c_impl_comesFrom (n : Int) (g : TGate) (state : Int)  (w0 : World)  (hS : ST w0 [] w0 [] []) {r_ : Int} (hF : F_impl_comesFrom n g state = some r_) :
  CV Tryz.prog 64 #[vi n, .agg #[vi g.Kind, vi g.A, vi g.B], vi state] w0 (fun v w' => v = vi r_ ∧ ST w0 [] w' [] []) := by
 unfold F_impl_comesFrom at hF
 refine cv_of_cw 51 Tryz.func64 rfl Tryz.ntmps64 rfl ?_
 refine cq (cr ?_)
 refine sS 4 (yB 56 (.agg #[vi g.Kind, vi g.A, vi g.B]) [vi g.Kind, vi g.A, vi g.B] 3 hS) ?_
 rintro _ w_ ⟨b, rfl, hS1⟩
 refine sQ 6 (yg (vi 0)) (rn (cq ?_))
 obtain ⟨r_1, hc, hF⟩ := bI hF
 obtain ⟨r_2, hc1, hF⟩ := bI hF
 refine ra_start (hS1.se [0]).fn (by kernel_rfl) ?_
 have hS4 := hS1.drew
 refine rq 0 9 (v := vi n) rfl (hS4.se [0]) (fun w' hw' => (ym (vi n))) ?_
 refine rq 1 10 (v := vi state) rfl (hS4.se [0]) (fun w' hw' => (ym (vi state))) ?_
 refine rq 2 11 (v := pt (aD b) 1) rfl (hS4.se [0]) (fun w' hw' => (yd (aD b) 0 0 K33 K1)) ?_
 refine rq 3 12 (v := vi g.A) rfl (hS4.se [0]) (fun w' hw' => (yl (aD b) 1 [vi g.Kind, vi g.A, vi g.B] (vi g.A) K0 (ST.cf hw' (i := 0) rfl))) ?_
 refine rq 5 14 (v := vi n) rfl (hS4.se [0]) (fun w' hw' => (ym (vi n))) ?_
 refine rq 6 15 (v := vi state) rfl (hS4.se [0]) (fun w' hw' => (ym (vi state))) ?_
 refine rq 7 16 (v := pt (aD b) 2) rfl (hS4.se [0]) (fun w' hw' => (yd (aD b) 0 0 K41 K1)) ?_
 refine rq 8 17 (v := vi g.B) rfl (hS4.se [0]) (fun w' hw' => (yl (aD b) 2 [vi g.Kind, vi g.A, vi g.B] (vi g.B) K0 (ST.cf hw' (i := 0) rfl))) ?_
 refine rA [4] ?_
 refine rC 13 4 rfl (yC [vi n, vi state, vi g.A] K67 (c_impl_bitOf n state g.A _  (hS4.inn0 [] rfl) hc)) ?_ ?_
 ·rintro _ w_1 ⟨rfl, hd⟩
  have hS5 := hS4.out00 hd
  refine ⟨(hS5.se [0]), ?_⟩
  refine rA [9] ?_
  refine rC 18 9 rfl (yC [vi n, vi state, vi g.B] K67 (c_impl_bitOf n state g.B _  (hS5.inn0 [] rfl) hc1)) ?_ ?_
  ·rintro _ w_2 ⟨rfl, hd1⟩
   have hS6 := hS5.out00 hd1
   refine ⟨(hS6.se [0]), ?_⟩
   refine rq 10 7 (v := vi r_1) rfl (hS6.se [0]) (fun w' hw' => (yg (vi r_1))) ?_
   refine rq 11 8 (v := vi r_2) rfl (hS6.se [0]) (fun w' hw' => (yg (vi r_2))) ?_
   refine ra_done (by kernel_rfl) ?_
   refine cq (cw_block (cq (cr ?_)))
   refine sQ 20 (yd (aD b) 0 0 K42 K1) <| sQ 21 (yl (aD b) 0 [vi g.Kind, vi g.A, vi g.B] (vi g.Kind) K0 (hS6.c 0)) <| sQ 22 (yE g.Kind 9) <| sQ 23 (ym (.bool (g.Kind == 9))) ?_
   refine sgq 24 (B := (g.Kind == 9)) (v := vi r_1) rfl rfl (uT_ 23) (fun hg => (ym (vi r_1))) ?_
   refine sgq 25 (B := (g.Kind == 9)) (v := .bool (r_1 == 1)) rfl rfl (uT_ 23) (fun hg1 => (yE r_1 1 rfl (gv_of (v := vi r_1) hg1))) ?_
   refine sQ 26 (Y_and (b := (g.Kind == 9)) (z := (r_1 == 1)) rfl rfl rfl rfl) <| sQ 19 (yg (.bool ((g.Kind == 9) && (r_1 == 1)))) (rn ?_)
   refine cw_cond (b := ((g.Kind == 9) && (r_1 == 1))) rfl (fun hb => ?_) (fun hb => ?_)
   ·skip
    have hF1 := ct hF hb
    refine cq (cr ?_)
    refine sQ 27 (ym (vi n)) <| sQ 28 (ym (vi state)) <| sQ 29 (yd (aD b) 0 0 K41 K1) <| sQ 30 (yl (aD b) 2 [vi g.Kind, vi g.A, vi g.B] (vi g.B) K0 (hS6.c 0)) ?_
    obtain ⟨r_3, hc2, hF1⟩ := bI hF1
    refine sc 31 rfl rfl (yC [vi n, vi state, vi g.B] K82 (c_impl_flipped n state g.B _  (hS6.inn0 [] rfl) hc2)) ?_
    rintro _ w_3 ⟨rfl, hd2⟩
    have hS7 := hS6.out00 hd2
    refine sQ 6 (yg (vi r_3)) (rn (ct_ ?_))
    obtain rfl := sI hF1
    exact ret1 Tryz.results64 (v1 := vi r_3) (resAt_tmp rfl) ⟨rfl, (hS7.sN [])⟩
   ·skip
    have hF2 := cf' hF hb
    refine cq (cr ?_)
    refine sQ 33 (yd (aD b) 0 0 K42 K1) <| sQ 34 (yl (aD b) 0 [vi g.Kind, vi g.A, vi g.B] (vi g.Kind) K0 (hS6.c 0)) <| sQ 35 (yE g.Kind 11) <| sQ 36 (ym (.bool (g.Kind == 11))) ?_
    refine sgq 37 (B := (g.Kind == 11)) (v := vi r_1) rfl rfl (uT_ 36) (fun hg2 => (ym (vi r_1))) ?_
    refine sgq 38 (B := (g.Kind == 11)) (v := vi r_2) rfl rfl (uT_ 36) (fun hg3 => (ym (vi r_2))) ?_
    refine sgq 39 (B := (g.Kind == 11)) (v := .bool (r_1 != r_2)) rfl rfl (uT_ 36) (fun hg4 => (Y_ne (k := .i64) (a := r_1) (b := r_2) rfl (gv_of (v := vi r_1) hg4) (gv_of (v := vi r_2) hg4))) ?_
    refine sQ 40 (Y_and (b := (g.Kind == 11)) (z := (r_1 != r_2)) rfl rfl rfl rfl) <| sQ 32 (yg (.bool ((g.Kind == 11) && (r_1 != r_2)))) (rn ?_)
    refine cw_cond (b := ((g.Kind == 11) && (r_1 != r_2))) rfl (fun hb1 => ?_) (fun hb1 => ?_)
    ·skip
     have hF3 := ct hF2 hb1
     refine cq ?_
     obtain ⟨r_4, hc3, hF3⟩ := bI hF3
     obtain ⟨r_5, hc4, hF3⟩ := bI hF3
     refine ra_start (hS6.se [0]).fn (by kernel_rfl) ?_
     have hS10 := hS6.drew
     refine rq 0 41 (v := vi n) rfl (hS10.se [0]) (fun w' hw' => (ym (vi n))) ?_
     refine rq 1 42 (v := vi n) rfl (hS10.se [0]) (fun w' hw' => (ym (vi n))) ?_
     refine rq 2 43 (v := vi state) rfl (hS10.se [0]) (fun w' hw' => (ym (vi state))) ?_
     refine rq 3 44 (v := pt (aD b) 1) rfl (hS10.se [0]) (fun w' hw' => (yd (aD b) 0 0 K33 K1)) ?_
     refine rq 4 45 (v := vi g.A) rfl (hS10.se [0]) (fun w' hw' => (yl (aD b) 1 [vi g.Kind, vi g.A, vi g.B] (vi g.A) K0 (ST.cf hw' (i := 0) rfl))) ?_
     refine rq 6 47 (v := pt (aD b) 2) rfl (hS10.se [0]) (fun w' hw' => (yd (aD b) 0 0 K41 K1)) ?_
     refine rq 7 48 (v := vi g.B) rfl (hS10.se [0]) (fun w' hw' => (yl (aD b) 2 [vi g.Kind, vi g.A, vi g.B] (vi g.B) K0 (ST.cf hw' (i := 0) rfl))) ?_
     refine rA [5] ?_
     refine rC 46 5 rfl (yC [vi n, vi state, vi g.A] K82 (c_impl_flipped n state g.A _  (hS10.inn0 [] rfl) hc3)) ?_ ?_
     ·rintro _ w_4 ⟨rfl, hd3⟩
      have hS11 := hS10.out00 hd3
      refine ⟨(hS11.se [0]), ?_⟩
      refine rA [8] ?_
      refine rC 49 8 rfl (yC [vi n, vi r_4, vi g.B] K82 (c_impl_flipped n r_4 g.B _  (hS11.inn0 [] rfl) hc4)) ?_ ?_
      ·rintro _ w_5 ⟨rfl, hd4⟩
       have hS12 := hS11.out00 hd4
       refine ⟨(hS12.se [0]), ?_⟩
       refine rq 9 6 (v := vi r_5) rfl (hS12.se [0]) (fun w' hw' => (yg (vi r_5))) ?_
       refine ra_done (by kernel_rfl) ?_
       refine ct_ ?_
       obtain rfl := sI hF3
       exact ret1 Tryz.results64 (v1 := vi r_5) (resAt_tmp rfl) ⟨rfl, (hS12.sN [])⟩
      exact aN
     exact aN
    ·skip
     have hF4 := cf' hF2 hb1
     refine cw_skip (cq (cr ?_))
     refine sQ 50 (ym (vi state)) <| sQ 6 (yg (vi state)) (rn (ct_ ?_))
     obtain rfl := sI hF4
     exact ret1 Tryz.results64 (v1 := vi state) (resAt_tmp rfl) ⟨rfl, (hS6.sN [])⟩
  exact aN
 exact aN

theorem c_impl_small (holds : Bool)  (w0 : World)  (hS : ST w0 [] w0 [] []) {r_ : Int} (hF : F_impl_small holds = some r_) :
  CV Tryz.prog 65 #[.bool holds] w0 (fun v w' => v = vi r_ ∧ ST w0 [] w' [] []) := by
 unfold F_impl_small at hF
 refine cv_of_cw 4 Tryz.func65 rfl Tryz.ntmps65 rfl ?_
 refine cq (cr ?_)
 refine sQ 2 (yg (vi 0)) (rn (cq (cq (cr ?_))))
 refine sQ 3 (ym (.bool holds)) (rn ?_)
 refine cw_cond (b := holds) rfl (fun hb => ?_) (fun hb => ?_)
 ·skip
  have hF1 := ct hF hb
  refine cq (cr ?_)
  refine sQ 2 (yg (vi 1)) (rn (ct_ ?_))
  obtain rfl := sI hF1
  exact ret1 Tryz.results65 (v1 := vi 1) (resAt_tmp rfl) ⟨rfl, (hS.sN [])⟩
 ·skip
  have hF2 := cf' hF hb
  refine cw_skip (cq (cr ?_))
  refine sQ 2 (yg (vi 0)) (rn (ct_ ?_))
  obtain rfl := sI hF2
  exact ret1 Tryz.results65 (v1 := vi 0) (resAt_tmp rfl) ⟨rfl, (hS.sN [])⟩
end Go.VK
