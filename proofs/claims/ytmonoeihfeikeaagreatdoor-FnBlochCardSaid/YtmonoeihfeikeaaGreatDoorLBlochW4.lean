/- Walks: each Go function returns what its Lean function says. By program. -/
import Derived.Test.YtmonoeihfeikeaaGreatDoorLBlochFa
import Derived.Test.YtmonoeihfeikeaaGreatDoorLBlochW3
set_option linter.unusedVariables false
set_option maxRecDepth 100000
set_option maxHeartbeats 4000000
namespace Go.VK
open Go.RowKit
open Go.Proofs
open Go.IntKind
attribute [local irreducible] CW RW RA CV Y Yw Yc Ys RetOf
attribute [local irreducible] F_laws_big F_spec_DrawBlochOf F_impl_whole F_slices_Equal_impl_Dyadic_impl_Dyadic F_impl_small F_impl_BlochOf F_spec_BlochOf F_laws_pSameBloch F_spec_MulMatrix F_impl_mulBloch F_impl_IsValidBloch F_impl_MulBloch F_impl_BlochExp F_impl_blochGate F_slices_IndexFunc_SSimpl_Dyadic_impl_Dyadic F_slices_ContainsFunc_SSimpl_Dyadic_impl_Dyadic F_impl_cliffordList_1 F_impl_cliffordList F_impl_CliffordIndex F_laws_FnBloch
theorem c_slices_IndexFunc_SSimpl_Dyadic_impl_Dyadic (s : List (List TDyadic)) (f_ : (List TDyadic) → Option (Bool)) (B : Option Addr) (c n : Nat) (D : List (Hd × (List TDyadic))) (kf : Nat) (caps : Array Value) (Rf : List Ro) (w0 : World) (hn : s.length = n) (hD : D.map Prod.snd = s) (hk : callB Tryz.prog kf = true) (hp : ∀ (w : World) (x : List TDyadic) (B_x : Option Addr) (c_x : Nat), ST w [] w [] (⟨B_x, (x.flatMap eN0)⟩ :: Rf) → ∀ (y : Bool), f_ x = some y → CV Tryz.prog kf ((.slice B_x x.length c_x) :: caps.toList).toArray w (fun v w' => v = .bool y ∧ ST w [] w' [] [])) (hS : ST w0 [] w0 [] (⟨B, (D.flatMap eN3)⟩ :: ((D.flatMap eN1) ++ Rf))) {r_ : Int} (hF : F_slices_IndexFunc_SSimpl_Dyadic_impl_Dyadic s f_ = some r_) :
  CV Tryz.prog 96 #[.slice B n c, .func (.func kf) #[] caps] w0 (fun v w' => v = vi r_ ∧ ST w0 [] w' [] []) := by
 subst hn
 unfold F_slices_IndexFunc_SSimpl_Dyadic_impl_Dyadic at hF
 refine cv_of_cw 19 Tryz.func96 rfl Tryz.ntmps96 rfl ?_
 refine cq (cr ?_)
 refine sQ 4 (yg (vi 0)) (rn (cq (cq (cr ?_))))
 refine sQ 6 (ym (.slice B s.length c)) <| sQ 7 (Y_len (B := B) (m := s.length) (c := c) K41 rfl rfl) <| sQ 8 (ym (vi 0)) (rn ?_)
 obtain ⟨hN, hF⟩ := chk_inv hF
 obtain ⟨z, hz, hF1⟩ := bI hF
 refine cw_block ?_
 refine cw_loop (fun k f w => ∃ (i : Nat), FF f [(0, .slice B s.length c), (1, .func (.func kf) #[] caps), (7, vi (s.length : Int)), (8, vi (i : Int))] ∧ ST w0 [] w [] (⟨B, (D.flatMap eN3)⟩ :: ((D.flatMap eN1) ++ Rf)) ∧ i + k = s.length ∧ forX (F_slices_IndexFunc_SSimpl_Dyadic_impl_Dyadic_l1 s f_) k i () = some z) s.length ⟨0, (fc rfl (fc rfl (fc rfl (fc rfl fn_)))), (hS.sel [] rfl rfl), Nat.zero_add _, hz⟩ ?_
 rintro k_ f w ⟨i, hf, hS1, hik, hL⟩
 refine cq (cr ?_)
 refine sQ 9 (yL (i : Int) (s.length : Int) rfl (hf.g 8 3) (hf.g 7 2)) (rn (cq ?_))
 refine cw_cond (b := (decide ((i : Int) < (s.length : Int)))) rfl (fun hlt => ?_) (fun hlt => ?_)
 ·skip
  have hlt1 : i < s.length := by have h := of_decide_eq_true hlt; omega
  obtain ⟨K11, rfl⟩ : ∃ k2, k_ = k2 + 1 := ⟨k_ - 1, by omega⟩
  obtain ⟨y1, hb, hL1⟩ := forX_go hL
  unfold F_slices_IndexFunc_SSimpl_Dyadic_impl_Dyadic_l1 at hb
  refine cw_skip (cq (cw_block (cq (cr ?_))))
  refine sQ 10 (ym (vi (i : Int)) rfl (hf.g 8 3)) <| sQ 5 (yg (vi (i : Int))) (rn (cq (cr ?_)))
  refine sQ 11 (ym (.func (.func kf) #[] caps) rfl (hf.g 1 1)) <| sQ 12 (ym (.slice B s.length c) rfl (hf.g 0 0)) <| sQ 13 (ym (vi (i : Int))) ?_
  obtain ⟨x1, hx, hb⟩ := bI hb
  obtain ⟨⟨B1, c1⟩, hp1⟩ := getI_snd hD hx
  refine sQ 14 (Y_index (B := B) (m := s.length) (c := c) (k := .i64) (i := (i : Int)) K41 K8 rfl rfl rfl (gi_isSome encD_SDyadic_len rfl (hS1.rf (i := 0) rfl) hp1) (getI_nn hp1) (getI_ltI hp1 (dl_len hD))) ?_
  have hm : (⟨B1, (x1.flatMap eN0)⟩ : Ro) ∈ ((⟨B, (D.flatMap eN3)⟩ :: ((D.flatMap eN1) ++ Rf)) : List Ro) := app_mem (fun r_ (h : r_ ∈ ((D.flatMap eN1) : List Ro)) => mOd (i := 1) (show r_ ∈ ((((D.flatMap eN1) ++ Rf)) : List Ro) from mAl _ h)) (row_mem (rw_ := eN1) hp1 _ (mt 0))
  have hS2 : ST w0 [] _ [] (⟨B1, (x1.flatMap eN0)⟩ :: ⟨B, (D.flatMap eN3)⟩ :: ((D.flatMap eN1) ++ Rf)) := ST.subR hS1 (subc hm (fun _ h => h))
  refine sQ 15 (yl B ((i : Int).toNat * 1) (D.flatMap eN3) (.slice B1 x1.length c1) K13 (hS2.rf (i := 1) rfl) rfl rfl (gi_at0 encD_SDyadic_len hp1 rfl)) ?_
  obtain ⟨r_1, hc, hb⟩ := bI hb
  refine sc 16 rfl rfl (Yc_clos (g := kf) (vs := (.slice B1 x1.length c1) :: caps.toList) hk rfl rfl (clo_args (mc rfl mn)) (hp _ x1 B1 c1 (hS2.innR0 (srcR (mt 0) (fun x h => Or.inl (app_mem (fun r_ (h : r_ ∈ (Rf : List Ro)) => mOd (i := 2) (show r_ ∈ ((((D.flatMap eN1) ++ Rf)) : List Ro) from mAr _ (h))) h)))) r_1 hc)) ?_
  rintro _ w_ ⟨rfl, hd⟩
  have hS3 := hS2.out00 hd
  refine rn ?_
  refine cw_cond (b := r_1) rfl (fun hb1 => ?_) (fun hb1 => ?_)
  ·skip
   have hF2 := ct hb hb1
   refine cq (cr ?_)
   refine sQ 17 (ym (vi (i : Int))) <| sQ 4 (yg (vi (i : Int))) (rn (ct_ ?_))
   obtain rfl := sI hF2
   obtain rfl := sI hL1
   obtain rfl := sI hF1
   exact ret1 Tryz.results96 (v1 := vi (i : Int)) (resAt_tmp rfl) ⟨rfl, (hS3.sN [])⟩
  ·skip
   have hF3 := cf' hb hb1
   refine cw_skip (cr ?_)
   refine sQ 18 (yP (i : Int) 1 rfl (hf.g 8 3)) <| sQ 8 (ym (vi (i64.wrap ((i : Int) + 1)))) (rn ?_)
   obtain rfl := sI hF3
   have hS4 : ST w0 [] _ [] (⟨B, (D.flatMap eN3)⟩ :: ((D.flatMap eN1) ++ Rf)) := ST.subR hS3 (sk 1 (suba (fun r_ (h : r_ ∈ ((D.flatMap eN1) : List Ro)) => mOd (i := 2) (show r_ ∈ ((((D.flatMap eN1) ++ Rf)) : List Ro) from mAl _ h)) (fun r_ (h : r_ ∈ (Rf : List Ro)) => mOd (i := 2) (show r_ ∈ ((((D.flatMap eN1) ++ Rf)) : List Ro) from mAr _ (h)))))
   exact ⟨K11, Nat.lt_succ_self _, i + 1, (fc (hf.g 0 0) (fc (hf.g 1 1) (fc (hf.g 7 2) (fc (congrArg (Value.int .i64) (wr_succ hlt1 hN)) fn_)))), (hS4.sel [] rfl rfl), (by omega), hL1⟩
 ·skip
  obtain rfl : k_ = 0 := by have h := of_decide_eq_false hlt; omega
  refine cw_exit rfl ?_
  obtain rfl := sI hL
  refine cq (cr ?_)
  refine sQ 4 (yg (vi (-1))) (rn (ct_ ?_))
  obtain rfl := sI hF1
  exact ret1 Tryz.results96 (v1 := vi (-1)) (resAt_tmp rfl) ⟨rfl, (hS1.sN [])⟩

theorem c_slices_ContainsFunc_SSimpl_Dyadic_impl_Dyadic (s : List (List TDyadic)) (f_ : (List TDyadic) → Option (Bool)) (B : Option Addr) (c n : Nat) (D : List (Hd × (List TDyadic))) (kf : Nat) (caps : Array Value) (Rf : List Ro) (w0 : World) (hn : s.length = n) (hD : D.map Prod.snd = s) (hk : callB Tryz.prog kf = true) (hp : ∀ (w : World) (x : List TDyadic) (B_x : Option Addr) (c_x : Nat), ST w [] w [] (⟨B_x, (x.flatMap eN0)⟩ :: Rf) → ∀ (y : Bool), f_ x = some y → CV Tryz.prog kf ((.slice B_x x.length c_x) :: caps.toList).toArray w (fun v w' => v = .bool y ∧ ST w [] w' [] [])) (hS : ST w0 [] w0 [] (⟨B, (D.flatMap eN3)⟩ :: ((D.flatMap eN1) ++ Rf))) {r_ : Bool} (hF : F_slices_ContainsFunc_SSimpl_Dyadic_impl_Dyadic s f_ = some r_) :
  CV Tryz.prog 54 #[.slice B n c, .func (.func kf) #[] caps] w0 (fun v w' => v = .bool r_ ∧ ST w0 [] w' [] []) := by
 subst hn
 unfold F_slices_ContainsFunc_SSimpl_Dyadic_impl_Dyadic at hF
 refine cv_of_cw 9 Tryz.func54 rfl Tryz.ntmps54 rfl ?_
 refine cq (cr ?_)
 refine sQ 4 (yg (.bool false)) (rn (cq (cr ?_)))
 refine sQ 5 (ym (.slice B s.length c)) <| sQ 6 (ym (.func (.func kf) #[] caps)) ?_
 obtain ⟨r_1, hc, hF⟩ := bI hF
 refine sc 7 rfl rfl (yC [.slice B s.length c, .func (.func kf) #[] caps] k_call_96 (c_slices_IndexFunc_SSimpl_Dyadic_impl_Dyadic s f_ B c s.length D kf caps Rf _ (dl_fl hD (dl_len hD)) hD hk hp (hS.innS (sk 0 (fun _ h => mOd (i := 1) h))) hc)) ?_
 rintro _ w_ ⟨rfl, hd⟩
 have hS1 := hS.out00 hd
 refine sQ 8 (Y_ge (k := .i64) (a := r_1) (b := 0) rfl rfl rfl) <| sQ 4 (yg (.bool (decide (0 ≤ r_1)))) (rn (ct_ ?_))
 obtain rfl := sI hF
 exact ret1 Tryz.results54 (v1 := .bool (decide (0 ≤ r_1))) (resAt_tmp rfl) ⟨rfl, (hS1.sN [])⟩

theorem c_impl_cliffordList_1 (own : List TDyadic) (p : List TDyadic) (B : Option Addr) (c n : Nat) (B1 : Option Addr) (B2 : Option Addr) (c1 n1 : Nat) (w0 : World) (hn : own.length = n) (hn1 : p.length = n1) (hS : ST w0 [] w0 [] [⟨B, (own.flatMap eN0)⟩, ⟨B1, [.slice B2 n1 c1]⟩, ⟨B2, (p.flatMap eN0)⟩]) {r_ : Bool} (hF : F_impl_cliffordList_1 own p = some r_) :
  CV Tryz.prog 55 #[.slice B n c, pt B1 0] w0 (fun v w' => v = .bool r_ ∧ ST w0 [] w' [] []) := by
 subst hn
 subst hn1
 unfold F_impl_cliffordList_1 at hF
 refine cv_of_cw 7 Tryz.func55 rfl Tryz.ntmps55 rfl ?_
 refine cq (cr ?_)
 refine sQ 3 (yg (.bool false)) (rn (cq (cr ?_)))
 refine sQ 4 (ym (.slice B own.length c)) <| sQ 5 (yl B1 0 [.slice B2 p.length c1] (.slice B2 p.length c1) K13 (hS.rf (i := 1) rfl)) ?_
 obtain ⟨r_1, hc, hF⟩ := bI hF
 refine sc 6 rfl rfl (yC [.slice B own.length c, .slice B2 p.length c1] K126 (c_slices_Equal_impl_Dyadic_impl_Dyadic own p B c own.length B2 c1 p.length _ rfl rfl (hS.inn0 [(true, 0), (true, 2)] rfl) hc)) ?_
 rintro _ w_ ⟨rfl, hd⟩
 have hS1 := hS.out00 hd
 refine sQ 3 (yg (.bool r_1)) (rn (ct_ ?_))
 obtain rfl := sI hF
 exact ret1 Tryz.results55 (v1 := .bool r_1) (resAt_tmp rfl) ⟨rfl, (hS1.sN [])⟩

theorem c_impl_cliffordList   (w0 : World)  (hS : ST w0 [] w0 [] [⟨(aD 0), [vi 1, vi 0, vi 0, vi 0, vi 2]⟩]) {r_ : List (List UInt8)} {r_1 : List (List TDyadic)} (hF : F_impl_cliffordList = some (r_, r_1)) :
  CV Tryz.prog 25 #[] w0 (fun v w' => ∃ (B : Option Addr) (c : Nat) (B1 : Option Addr) (c1 : Nat) (D : List (Hd × (List TDyadic))), v = .tuple #[.slice B r_.length c, .slice B1 r_1.length c1] ∧ D.map Prod.snd = r_1 ∧ Org w0 [] [⟨(aD 0), [vi 1, vi 0, vi 0, vi 0, vi 2]⟩] (((D.flatMap eN1) ++ [])) ∧ ST w0 [] w' [⟨B, 9, (r_.flatMap encS), c * 1⟩, ⟨B1, 24, (D.flatMap eN3), c1 * 1⟩] (((D.flatMap eN1) ++ []))) := by
 unfold F_impl_cliffordList at hF
 refine cv_of_cw 80 Tryz.func25 rfl Tryz.ntmps25 rfl ?_
 refine cq (cr ?_)
 refine sQ 0 (yg (.slice none 0 0)) <| sQ 1 (yg (.slice none 0 0)) (rn (cq (cr ?_)))
 refine sS 13 (Ys_bslice0 (s := 5) (e := 43) hS K7 K0 rfl) ?_
 rintro _ w_ ⟨b, rfl, hS1⟩
 refine sQ 2 (yg (.slice (aD b) 0 0)) (rn (cq (cq (cr ?_))))
 refine sQ 14 (ym (vi 0)) (rn ?_)
 obtain ⟨z, hz, hF1⟩ := bI hF
 refine cw_block ?_
 refine cw_loop (fun k f w => ∃ (i : Nat) (one_ : List TDyadic) (B2 : Option Addr) (c2 : Nat), FF f [(2, .slice B2 one_.length c2), (14, vi (i : Int))] ∧ ST w0 [] w [⟨B2, 43, (one_.flatMap eN0), c2 * 5⟩] [⟨(aD 0), [vi 1, vi 0, vi 0, vi 0, vi 2]⟩] ∧ i + k = 9 ∧ forN F_impl_cliffordList_l1 k i one_ = some z) 9 ⟨0, [], aD b, 0, (fc rfl (fc rfl fn_)), (hS1.sel [0] rfl rfl), Nat.zero_add _, hz⟩ ?_
 rintro k_ f w ⟨i, one_, B2, c2, hf, hS2, hik, hL⟩
 refine cq (cr ?_)
 refine sQ 15 (yL (i : Int) 9 rfl (hf.g 14 1)) (rn (cq ?_))
 refine cw_cond (b := (decide ((i : Int) < 9))) rfl (fun hlt => ?_) (fun hlt => ?_)
 ·skip
  have hlt1 : i < 9 := by have h := of_decide_eq_true hlt; omega
  obtain ⟨K11, rfl⟩ : ∃ k2, k_ = k2 + 1 := ⟨k_ - 1, by omega⟩
  obtain ⟨y, hb, hL1⟩ := forN_go hL
  unfold F_impl_cliffordList_l1 at hb
  refine cw_skip (cq (cw_block (cq (cr ?_))))
  refine sQ 16 (ym (vi (i : Int)) rfl (hf.g 14 1)) <| sQ 3 (yg (vi (i : Int))) (rn (cr ?_))
  refine sQ 17 (ym (.slice B2 one_.length c2) rfl (hf.g 2 0)) <| sQ 18 (ym (vi (i : Int))) <| sQ 19 (Y_rem (k := .i64) (a := (i : Int)) (b := 4) rfl rfl rfl (by decide)) <| sQ 20 (yE (Int.tmod (i : Int) 4) 0) ?_
  obtain ⟨r_2, hc, hb⟩ := bI hb
  refine sc 21 rfl rfl (yC [.bool ((Int.tmod (i : Int) 4) == 0)] K127 (c_impl_small ((Int.tmod (i : Int) 4) == 0) _  (hS2.inn0 [] rfl) hc)) ?_
  rintro _ w_1 ⟨rfl, hd⟩
  have hS3 := hS2.out00 hd
  obtain ⟨r_3, hc1, hb⟩ := bI hb
  refine sc 22 rfl rfl (yC [vi r_2] K73 (c_impl_whole r_2 _  (hS3.inn0 [] rfl) hc1)) ?_
  rintro _ w_2 ⟨rfl, hd1⟩
  have hS4 := hS3.out00 hd1
  refine sS 23 (Ys_bslice (s := 5) (len := 1) (vs := [(0, gD_ r_3)]) (cs := kD_ r_3) (zs := kZ_) (m := 5) hS4 K7 K0 K31 rfl (mpc rfl mpn) rfl rfl rfl (by kernel_rfl) (by kernel_rfl) rfl) ?_
  rintro _ w_3 ⟨b1, rfl, hS5⟩
  obtain ⟨hap, hb⟩ := chk_inv hb
  refine sS 24 (Ys_append (s := 5) (by' := 40) (i := 0) (nn := one_.length) (c := c2) (k := 1) (len := (one_ ++ [r_3]).length) (B := B2) (xs := ([r_3].flatMap eN0)) (cs' := ((one_ ++ [r_3]).flatMap eN0)) hS5 K7 K0 K37 K6 rfl (by decide) rfl rfl rfl rfl (fm_lenn (l := one_) eN2 rfl) rfl (hS5.c 1) (fm_lenn (l := [r_3]) eN2 rfl) (fm_one' (enc := eN0) enc_Dyadic_one [r_3]) (by have := hap; omega) (by have := hap; simp only [maxLen]; omega) (fm_app _ _) (app_len (l := one_) (l' := [r_3]) rfl rfl)) ?_
  rintro _ w_4 ⟨B3, c3, rfl, hS6⟩
  refine sQ 2 (yg (.slice B3 ((one_ ++ [r_3]).length) c3)) (rn (cr ?_))
  refine sQ 25 (yP (i : Int) 1 rfl (hf.g 14 1)) <| sQ 14 (ym (vi (i64.wrap ((i : Int) + 1)))) (rn ?_)
  obtain rfl := sI hb
  exact ⟨K11, Nat.lt_succ_self _, i + 1, (one_ ++ [r_3]), B3, c3, (fc rfl (fc (congrArg (Value.int .i64) (wr_succ hlt1 (show 9 ≤ 9223372036854775807 by decide))) fn_)), (hS6.sel [0] rfl rfl), (by omega), hL1⟩
 ·skip
  obtain rfl : k_ = 0 := by have h := of_decide_eq_false hlt; omega
  refine cw_exit rfl ?_
  obtain rfl := sI hL
  refine cq (cr ?_)
  refine sS 26 (Ys_bslice (s := 1) (len := 1) (vs := [(0, .string (bstr ([] : List UInt8)))]) (cs := [.string (bstr ([] : List UInt8))]) (zs := [.string (bstr ([] : List UInt8))]) (m := 1) hS2 K45 K46 K91 rfl (mpc rfl mpn) rfl rfl rfl (by kernel_rfl) (by kernel_rfl) rfl) ?_
  rintro _ w_5 ⟨b2, rfl, hS7⟩
  refine sQ 27 (ym (.slice B2 one_.length c2) rfl (hf.g 2 0)) ?_
  have ho : Org w0 [] [⟨(aD 0), [vi 1, vi 0, vi 0, vi 0, vi 2]⟩] [⟨B2, (one_.flatMap eN0)⟩] := ST.orgOwn hS7 (i := 0) rfl
  have hcap : one_.length ≤ c2 := (hS7.lencap (i := 0) rfl (fm_lenn (l := one_) eN2 rfl) rfl rfl)
  have hS8 : ST w0 [] _ [⟨aD b2, 9, ([([] : List UInt8)].flatMap encS), 1 * 1⟩] [⟨B2, (one_.flatMap eN0)⟩, ⟨(aD 0), [vi 1, vi 0, vi 0, vi 0, vi 2]⟩] := hS7.freeze (i := 0) rfl
  refine sS 28 (Ys_bslice (s := 1) (len := 1) (vs := [(0, .slice B2 one_.length c2)]) (cs := [.slice B2 one_.length c2]) (zs := [.slice none 0 0]) (m := 1) hS8 K41 K8 K69 rfl (mpc rfl mpn) rfl rfl rfl (by kernel_rfl) (by kernel_rfl) rfl) ?_
  rintro _ w_6 ⟨b3, rfl, hS9⟩
  have hm : ∀ r ∈ ((lH B2 c2 one_).flatMap eN1), r ∈ ([⟨B2, (one_.flatMap eN0)⟩, ⟨(aD 0), [vi 1, vi 0, vi 0, vi 0, vi 2]⟩] : List Ro) := (fsub_cons (sk 0 (fun _ h => by cases h)) fsub_nil)
  have ho1 : Org w0 [] [⟨(aD 0), [vi 1, vi 0, vi 0, vi 0, vi 2]⟩] ((lH B2 c2 one_).flatMap eN1) := (forg_cons (org_cons ho org_nil) forg_nil)
  have hS10 : ST w0 [] _ [⟨aD b2, 9, ([([] : List UInt8)].flatMap encS), 1 * 1⟩, ⟨aD b3, 24, ((lH B2 c2 one_).flatMap eN3), 1 * 1⟩] (⟨B2, (one_.flatMap eN0)⟩ :: ⟨(aD 0), [vi 1, vi 0, vi 0, vi 0, vi 2]⟩ :: (((lH B2 c2 one_).flatMap eN1) ++ [])) := ST.subR hS9 (sk 0 (sk 1 (suba hm (fun _ h => by cases h))))
  refine sQ 4 (yg (.slice (aD b2) 1 1)) <| sQ 5 (yg (.slice (aD b3) 1 1)) (rn (cq (cr ?_)))
  obtain ⟨r_4, hc2, hF1⟩ := bI hF1
  refine sc 29 rfl rfl (yC [vi 1] k_call_53 (c_impl_blochGate 1 _  (hS10.inn0 [(true, 1)] rfl) hc2)) ?_
  rintro _ w_7 ⟨B4, c4, rfl, hd2⟩
  have hS11 := hS10.out0 hd2
  refine sQ 30 (Y_field1 (v := .slice B4 r_4.Cells.length c4) K33 K13 rfl rfl rfl) ?_
  obtain ⟨r_5, hc3, hF1⟩ := bI hF1
  refine sc 31 rfl rfl (yC [vi 5] k_call_53 (c_impl_blochGate 5 _  (hS11.inn0 [(true, 1)] rfl) hc3)) ?_
  rintro _ w_8 ⟨B5, c5, rfl, hd3⟩
  have hS12 := hS11.out0 hd3
  refine sQ 32 (Y_field1 (v := .slice B5 r_5.Cells.length c5) K33 K13 rfl rfl rfl) <| sQ 6 (yg (.slice B4 r_4.Cells.length c4)) <| sQ 7 (yg (.slice B5 r_5.Cells.length c5)) (rn (cq (cq (cr ?_))))
  refine sQ 8 (yg (vi 0)) (rn ?_)
  obtain ⟨z1, hz1, hF2⟩ := bI hF1
  have ho5 : Org w0 [] [⟨(aD 0), [vi 1, vi 0, vi 0, vi 0, vi 2]⟩] [⟨B4, (r_4.Cells.flatMap eN0)⟩] := ST.orgOwn hS12 (i := 2) rfl
  have hcap1 : r_4.Cells.length ≤ c4 := (hS12.lencap (i := 2) rfl (fm_lenn (l := r_4.Cells) eN2 rfl) rfl rfl)
  have hS14 : ST w0 [] _ [⟨aD b2, 9, ([([] : List UInt8)].flatMap encS), 1 * 1⟩, ⟨aD b3, 24, ((lH B2 c2 one_).flatMap eN3), 1 * 1⟩, ⟨B5, 43, (r_5.Cells.flatMap eN0), c5 * 5⟩] (⟨B4, (r_4.Cells.flatMap eN0)⟩ :: ⟨B2, (one_.flatMap eN0)⟩ :: ⟨(aD 0), [vi 1, vi 0, vi 0, vi 0, vi 2]⟩ :: (((lH B2 c2 one_).flatMap eN1) ++ [])) := hS12.freeze (i := 2) rfl
  have ho6 : Org w0 [] [⟨(aD 0), [vi 1, vi 0, vi 0, vi 0, vi 2]⟩] [⟨B5, (r_5.Cells.flatMap eN0)⟩] := ST.orgOwn hS14 (i := 2) rfl
  have hcap2 : r_5.Cells.length ≤ c5 := (hS14.lencap (i := 2) rfl (fm_lenn (l := r_5.Cells) eN2 rfl) rfl rfl)
  have hS15 : ST w0 [] _ [⟨aD b2, 9, ([([] : List UInt8)].flatMap encS), 1 * 1⟩, ⟨aD b3, 24, ((lH B2 c2 one_).flatMap eN3), 1 * 1⟩] (⟨B5, (r_5.Cells.flatMap eN0)⟩ :: ⟨B4, (r_4.Cells.flatMap eN0)⟩ :: ⟨B2, (one_.flatMap eN0)⟩ :: ⟨(aD 0), [vi 1, vi 0, vi 0, vi 0, vi 2]⟩ :: (((lH B2 c2 one_).flatMap eN1) ++ [])) := hS14.freeze (i := 2) rfl
  refine cw_block ?_
  refine cw_loop (fun k f w => ∃ (words : List (List UInt8)) (list : List (List TDyadic)) (at_1 : Int) (B6 : Option Addr) (c6 : Nat) (B7 : Option Addr) (c7 : Nat) (D1 : List (Hd × (List TDyadic))), FF f [(4, .slice B6 words.length c6), (5, .slice B7 list.length c7), (6, .slice B4 r_4.Cells.length c4), (7, .slice B5 r_5.Cells.length c5), (8, vi at_1)] ∧ D1.map Prod.snd = list ∧ Org w0 [] [⟨(aD 0), [vi 1, vi 0, vi 0, vi 0, vi 2]⟩] (D1.flatMap eN1) ∧ Org w0 [] [⟨(aD 0), [vi 1, vi 0, vi 0, vi 0, vi 2]⟩] [⟨B4, (r_4.Cells.flatMap eN0)⟩] ∧ r_4.Cells.length ≤ c4 ∧ Org w0 [] [⟨(aD 0), [vi 1, vi 0, vi 0, vi 0, vi 2]⟩] [⟨B5, (r_5.Cells.flatMap eN0)⟩] ∧ r_5.Cells.length ≤ c5 ∧ ST w0 [] w [⟨B6, 9, (words.flatMap encS), c6 * 1⟩, ⟨B7, 24, (D1.flatMap eN3), c7 * 1⟩] (⟨B5, (r_5.Cells.flatMap eN0)⟩ :: ⟨B4, (r_4.Cells.flatMap eN0)⟩ :: ⟨B2, (one_.flatMap eN0)⟩ :: ⟨(aD 0), [vi 1, vi 0, vi 0, vi 0, vi 2]⟩ :: ((D1.flatMap eN1) ++ [])) ∧ whX (F_impl_cliffordList_l2 r_4 r_5) k (words, list, at_1) = some z1) fuel ⟨[([] : List UInt8)], ([one_] : List (List TDyadic)), 0, aD b2, 1, aD b3, 1, (lH B2 c2 one_), (fc rfl (fc rfl (fc rfl (fc rfl (fc rfl fn_))))), (show List.map Prod.snd (lH B2 c2 one_) = ([one_] : List (List TDyadic)) from rfl), ho1, ho5, (len_le rfl hcap1), ho6, (len_le rfl hcap2), (hS15.sel [0, 1] rfl rfl), hz1⟩ ?_
  rintro K15 f w ⟨words, list, at_1, B6, c6, B7, c7, D1, hf1, hD1, ho2, ho3, hq, ho4, hq1, hS13, hL2⟩
  obtain ⟨K29, y1, rfl, hb1, hL3⟩ := whX_go hL2
  unfold F_impl_cliffordList_l2 at hb1
  refine cq (cq (cr ?_))
  refine sQ 33 (ym (vi at_1) rfl (hf1.g 8 4)) <| sQ 34 (ym (.slice B6 words.length c6) rfl (hf1.g 4 0)) <| sQ 35 (Y_len (B := B6) (m := words.length) (c := c6) K45 rfl rfl) <| sQ 36 (yL at_1 (words.length : Int)) (rn ?_)
  refine cw_cond (b := (decide (at_1 < (words.length : Int)))) rfl (fun hb2 => ?_) (fun hb2 => ?_)
  ·skip
   have hF3 := ct hb1 hb2
   refine cw_skip (cq (cw_block (cq (cr ?_))))
   refine sQ 39 (ym (.slice B4 r_4.Cells.length c4) rfl (hf1.g 6 2)) <| sQ 40 (ym (.slice B5 r_5.Cells.length c5) rfl (hf1.g 7 3)) ?_
   refine sS 41 (Ys_bslice (s := 1) (len := 2) (vs := [(0, .slice B4 r_4.Cells.length c4), (1, .slice B5 r_5.Cells.length c5)]) (cs := [.slice B4 r_4.Cells.length c4, .slice B5 r_5.Cells.length c5]) (zs := [.slice none 0 0, .slice none 0 0]) (m := 2) hS13 K41 K8 K69 rfl (mpc rfl (mpc rfl mpn)) rfl rfl rfl (by kernel_rfl) (by kernel_rfl) rfl) ?_
   rintro _ w_9 ⟨b4, rfl, hS16⟩
   have hm1 : ∀ r ∈ (([((B4, c4), r_4.Cells), ((B5, c5), r_5.Cells)] : List (Hd × (List TDyadic))).flatMap eN1), r ∈ ((⟨B5, (r_5.Cells.flatMap eN0)⟩ :: ⟨B4, (r_4.Cells.flatMap eN0)⟩ :: ⟨B2, (one_.flatMap eN0)⟩ :: ⟨(aD 0), [vi 1, vi 0, vi 0, vi 0, vi 2]⟩ :: ((D1.flatMap eN1) ++ [])) : List Ro) := (fsub_cons (sk 1 (fun _ h => by cases h)) (fsub_cons (sk 0 (fun _ h => by cases h)) fsub_nil))
   have ho7 : Org w0 [] [⟨(aD 0), [vi 1, vi 0, vi 0, vi 0, vi 2]⟩] (([((B4, c4), r_4.Cells), ((B5, c5), r_5.Cells)] : List (Hd × (List TDyadic))).flatMap eN1) := (forg_cons (org_cons ho3 org_nil) (forg_cons (org_cons ho4 org_nil) forg_nil))
   have hS17 : ST w0 [] _ [⟨B6, 9, (words.flatMap encS), c6 * 1⟩, ⟨B7, 24, (D1.flatMap eN3), c7 * 1⟩, ⟨aD b4, 24, (([((B4, c4), r_4.Cells), ((B5, c5), r_5.Cells)] : List (Hd × (List TDyadic))).flatMap eN3), 2 * 1⟩] (⟨B5, (r_5.Cells.flatMap eN0)⟩ :: ⟨B4, (r_4.Cells.flatMap eN0)⟩ :: ⟨B2, (one_.flatMap eN0)⟩ :: ⟨(aD 0), [vi 1, vi 0, vi 0, vi 0, vi 2]⟩ :: ((([((B4, c4), r_4.Cells), ((B5, c5), r_5.Cells)] : List (Hd × (List TDyadic))).flatMap eN1) ++ ((D1.flatMap eN1) ++ []))) := ST.subR hS16 (sk 0 (sk 1 (sk 2 (sk 3 (suba hm1 (suba (fun r_ (h : r_ ∈ ((D1.flatMap eN1) : List Ro)) => mOd (i := 4) (show r_ ∈ ((((D1.flatMap eN1) ++ [])) : List Ro) from mAl _ h)) (fun _ h => by cases h)))))))
   refine sQ 42 (Y_len (B := aD b4) (m := 2) (c := 2) K41 rfl rfl) <| sQ 43 (ym (vi 0)) (rn ?_)
   obtain ⟨z2, hz2, hF4⟩ := bI hF3
   have hS19 : ST w0 [] _ [⟨B6, 9, (words.flatMap encS), c6 * 1⟩, ⟨B7, 24, (D1.flatMap eN3), c7 * 1⟩, ⟨aD b4, 24, (([((B4, c4), r_4.Cells), ((B5, c5), r_5.Cells)] : List (Hd × (List TDyadic))).flatMap eN3), 2 * 1⟩] (⟨B5, (r_5.Cells.flatMap eN0)⟩ :: ⟨B4, (r_4.Cells.flatMap eN0)⟩ :: ⟨B2, (one_.flatMap eN0)⟩ :: ⟨(aD 0), [vi 1, vi 0, vi 0, vi 0, vi 2]⟩ :: ((D1.flatMap eN1) ++ ((([((B4, c4), r_4.Cells), ((B5, c5), r_5.Cells)] : List (Hd × (List TDyadic))).flatMap eN1) ++ []))) := ST.subR hS17 (sk 0 (sk 1 (sk 2 (sk 3 (suba (fun r_ (h : r_ ∈ ((D1.flatMap eN1) : List Ro)) => mOd (i := 4) (show r_ ∈ ((((([((B4, c4), r_4.Cells), ((B5, c5), r_5.Cells)] : List (Hd × (List TDyadic))).flatMap eN1) ++ ((D1.flatMap eN1) ++ []))) : List Ro) from mAr _ (mAl _ h))) (suba (fun r_ (h : r_ ∈ ((([((B4, c4), r_4.Cells), ((B5, c5), r_5.Cells)] : List (Hd × (List TDyadic))).flatMap eN1) : List Ro)) => mOd (i := 4) (show r_ ∈ ((((([((B4, c4), r_4.Cells), ((B5, c5), r_5.Cells)] : List (Hd × (List TDyadic))).flatMap eN1) ++ ((D1.flatMap eN1) ++ []))) : List Ro) from mAl _ h)) (fun _ h => by cases h)))))))
   refine cw_block ?_
   refine cw_loop (fun k f w => ∃ (i2 : Nat) (words1 : List (List UInt8)) (list1 : List (List TDyadic)) (B8 : Option Addr) (c8 : Nat) (B9 : Option Addr) (c9 : Nat) (D2 : List (Hd × (List TDyadic))) (D3 : List (Hd × (List TDyadic))), FF f [(4, .slice B8 words1.length c8), (5, .slice B9 list1.length c9), (6, .slice B4 r_4.Cells.length c4), (7, .slice B5 r_5.Cells.length c5), (8, vi at_1), (41, .slice (aD b4) (([r_4.Cells, r_5.Cells] : List (List TDyadic)).length) 2), (42, vi 2), (43, vi (i2 : Int))] ∧ D2.map Prod.snd = list1 ∧ Org w0 [] [⟨(aD 0), [vi 1, vi 0, vi 0, vi 0, vi 2]⟩] (D2.flatMap eN1) ∧ D3.map Prod.snd = ([r_4.Cells, r_5.Cells] : List (List TDyadic)) ∧ Org w0 [] [⟨(aD 0), [vi 1, vi 0, vi 0, vi 0, vi 2]⟩] (D3.flatMap eN1) ∧ ST w0 [] w [⟨B8, 9, (words1.flatMap encS), c8 * 1⟩, ⟨B9, 24, (D2.flatMap eN3), c9 * 1⟩, ⟨aD b4, 24, (D3.flatMap eN3), 2 * 1⟩] (⟨B5, (r_5.Cells.flatMap eN0)⟩ :: ⟨B4, (r_4.Cells.flatMap eN0)⟩ :: ⟨B2, (one_.flatMap eN0)⟩ :: ⟨(aD 0), [vi 1, vi 0, vi 0, vi 0, vi 2]⟩ :: ((D2.flatMap eN1) ++ ((D3.flatMap eN1) ++ []))) ∧ i2 + k = 2 ∧ forN (F_impl_cliffordList_l3 r_4 r_5 at_1) k i2 (words1, list1) = some z2) 2 ⟨0, words, list, B6, c6, B7, c7, D1, ([((B4, c4), r_4.Cells), ((B5, c5), r_5.Cells)] : List (Hd × (List TDyadic))), (fc (hf1.g 4 0) (fc (hf1.g 5 1) (fc (hf1.g 6 2) (fc (hf1.g 7 3) (fc (hf1.g 8 4) (fc rfl (fc rfl (fc rfl fn_)))))))), hD1, ho2, (show List.map Prod.snd ([((B4, c4), r_4.Cells), ((B5, c5), r_5.Cells)] : List (Hd × (List TDyadic))) = ([r_4.Cells, r_5.Cells] : List (List TDyadic)) from rfl), ho7, (hS19.sel [0, 1, 2] rfl rfl), Nat.zero_add _, hz2⟩ ?_
   rintro K17 f w ⟨i2, words1, list1, B8, c8, B9, c9, D2, D3, hf2, hD2, ho8, hD3, ho9, hS18, hik2, hL4⟩
   refine cq (cr ?_)
   refine sQ 44 (yL (i2 : Int) 2 rfl (hf2.g 43 7) (hf2.g 42 6)) (rn (cq ?_))
   refine cw_cond (b := (decide ((i2 : Int) < 2))) rfl (fun hlt2 => ?_) (fun hlt2 => ?_)
   ·skip
    have hlt3 : i2 < 2 := by have h := of_decide_eq_true hlt2; omega
    obtain ⟨K78, rfl⟩ : ∃ k2, K17 = k2 + 1 := ⟨K17 - 1, by omega⟩
    obtain ⟨y2, hb3, hL5⟩ := forN_go hL4
    unfold F_impl_cliffordList_l3 at hb3
    refine cw_skip (cq ?_)
    obtain ⟨z3, hz3, hF5⟩ := bI hb3
    refine cw_mid (fun f w => ∃ (words2 : List (List UInt8)) (list2 : List (List TDyadic)) (B10 : Option Addr) (c10 : Nat) (B11 : Option Addr) (c11 : Nat) (D4 : List (Hd × (List TDyadic))) (D5 : List (Hd × (List TDyadic))), (words2, list2) = z3 ∧ FF f [(4, .slice B10 words2.length c10), (5, .slice B11 list2.length c11), (6, .slice B4 r_4.Cells.length c4), (7, .slice B5 r_5.Cells.length c5), (8, vi at_1), (41, .slice (aD b4) (([r_4.Cells, r_5.Cells] : List (List TDyadic)).length) 2), (42, vi 2), (43, vi (i2 : Int))] ∧ D4.map Prod.snd = list2 ∧ Org w0 [] [⟨(aD 0), [vi 1, vi 0, vi 0, vi 0, vi 2]⟩] (D4.flatMap eN1) ∧ D5.map Prod.snd = ([r_4.Cells, r_5.Cells] : List (List TDyadic)) ∧ Org w0 [] [⟨(aD 0), [vi 1, vi 0, vi 0, vi 0, vi 2]⟩] (D5.flatMap eN1) ∧ ST w0 [] w [⟨B10, 9, (words2.flatMap encS), c10 * 1⟩, ⟨B11, 24, (D4.flatMap eN3), c11 * 1⟩, ⟨aD b4, 24, (D5.flatMap eN3), 2 * 1⟩] (⟨B5, (r_5.Cells.flatMap eN0)⟩ :: ⟨B4, (r_4.Cells.flatMap eN0)⟩ :: ⟨B2, (one_.flatMap eN0)⟩ :: ⟨(aD 0), [vi 1, vi 0, vi 0, vi 0, vi 2]⟩ :: ((D4.flatMap eN1) ++ ((D5.flatMap eN1) ++ [])))) ?_ ?_
    ·skip
     refine cw_block (cq (cr ?_))
     refine sQ 45 (ym (vi (i2 : Int)) rfl (hf2.g 43 7)) ?_
     obtain ⟨x, hx, hz3⟩ := bI hz3
     obtain ⟨⟨B12, c12⟩, hp⟩ := getI_snd hD3 hx
     refine sQ 46 (Y_index (B := aD b4) (m := ([r_4.Cells, r_5.Cells] : List (List TDyadic)).length) (c := 2) (k := .i64) (i := (i2 : Int)) K41 K8 rfl (hf2.g 41 5) (hf2.g 43 7) (gi_isSome encD_SDyadic_len rfl (hS18.c 2) hp) (getI_nn hp) (getI_ltI hp (dl_len hD3))) ?_
     have hm2 : (⟨B12, (x.flatMap eN0)⟩ : Ro) ∈ ((⟨B5, (r_5.Cells.flatMap eN0)⟩ :: ⟨B4, (r_4.Cells.flatMap eN0)⟩ :: ⟨B2, (one_.flatMap eN0)⟩ :: ⟨(aD 0), [vi 1, vi 0, vi 0, vi 0, vi 2]⟩ :: ((D2.flatMap eN1) ++ ((D3.flatMap eN1) ++ []))) : List Ro) := app_mem (fun r_ (h : r_ ∈ ((D3.flatMap eN1) : List Ro)) => mOd (i := 4) (show r_ ∈ ((((D2.flatMap eN1) ++ ((D3.flatMap eN1) ++ []))) : List Ro) from mAr _ (mAl _ h))) (row_mem (rw_ := eN1) hp _ (mt 0))
     have hS21 : ST w0 [] _ [⟨B8, 9, (words1.flatMap encS), c8 * 1⟩, ⟨B9, 24, (D2.flatMap eN3), c9 * 1⟩, ⟨aD b4, 24, (D3.flatMap eN3), 2 * 1⟩] (⟨B12, (x.flatMap eN0)⟩ :: ⟨B5, (r_5.Cells.flatMap eN0)⟩ :: ⟨B4, (r_4.Cells.flatMap eN0)⟩ :: ⟨B2, (one_.flatMap eN0)⟩ :: ⟨(aD 0), [vi 1, vi 0, vi 0, vi 0, vi 2]⟩ :: ((D2.flatMap eN1) ++ ((D3.flatMap eN1) ++ []))) := ST.subR hS18 (subc hm2 (fun _ h => h))
     refine sQ 47 (yl (aD b4) ((i2 : Int).toNat * 1) (D3.flatMap eN3) (.slice B12 x.length c12) K13 (hS21.c 2) rfl rfl (gi_at0 encD_SDyadic_len hp rfl)) <| sQ 9 (yg (vi (i2 : Int))) <| sQ 10 (yg (.slice B12 x.length c12)) (rn (cq (cr ?_)))
     refine sQ 49 (ym (.slice B12 x.length c12)) <| sQ 50 (ym (.slice B9 list1.length c9) rfl (hf2.g 5 1)) <| sQ 51 (ym (vi at_1) rfl (hf2.g 8 4)) ?_
     obtain ⟨x1, hx1, hz3⟩ := bI hz3
     obtain ⟨⟨B13, c13⟩, hp1⟩ := getI_snd hD2 hx1
     refine sQ 52 (Y_index (B := B9) (m := list1.length) (c := c9) (k := .i64) (i := at_1) K41 K8 rfl rfl rfl (gi_isSome encD_SDyadic_len rfl (hS21.c 1) hp1) (getI_nn hp1) (getI_ltI hp1 (dl_len hD2))) ?_
     have hm3 : (⟨B13, (x1.flatMap eN0)⟩ : Ro) ∈ ((⟨B12, (x.flatMap eN0)⟩ :: ⟨B5, (r_5.Cells.flatMap eN0)⟩ :: ⟨B4, (r_4.Cells.flatMap eN0)⟩ :: ⟨B2, (one_.flatMap eN0)⟩ :: ⟨(aD 0), [vi 1, vi 0, vi 0, vi 0, vi 2]⟩ :: ((D2.flatMap eN1) ++ ((D3.flatMap eN1) ++ []))) : List Ro) := app_mem (fun r_ (h : r_ ∈ ((D2.flatMap eN1) : List Ro)) => mOd (i := 5) (show r_ ∈ ((((D2.flatMap eN1) ++ ((D3.flatMap eN1) ++ []))) : List Ro) from mAl _ h)) (row_mem (rw_ := eN1) hp1 _ (mt 0))
     have hS22 : ST w0 [] _ [⟨B8, 9, (words1.flatMap encS), c8 * 1⟩, ⟨B9, 24, (D2.flatMap eN3), c9 * 1⟩, ⟨aD b4, 24, (D3.flatMap eN3), 2 * 1⟩] (⟨B13, (x1.flatMap eN0)⟩ :: ⟨B12, (x.flatMap eN0)⟩ :: ⟨B5, (r_5.Cells.flatMap eN0)⟩ :: ⟨B4, (r_4.Cells.flatMap eN0)⟩ :: ⟨B2, (one_.flatMap eN0)⟩ :: ⟨(aD 0), [vi 1, vi 0, vi 0, vi 0, vi 2]⟩ :: ((D2.flatMap eN1) ++ ((D3.flatMap eN1) ++ []))) := ST.subR hS21 (subc hm3 (fun _ h => h))
     refine sQ 53 (yl B9 (at_1.toNat * 1) (D2.flatMap eN3) (.slice B13 x1.length c13) K13 (hS22.c 1) rfl rfl (gi_at0 encD_SDyadic_len hp1 rfl)) ?_
     obtain ⟨⟨r_6, r_7⟩, hc4, hz3⟩ := bI hz3
     refine sc 54 rfl rfl (yC [.slice B12 x.length c12, .slice B13 x1.length c13] K131 (c_impl_mulBloch x x1 B12 c12 x.length B13 c13 x1.length _ rfl rfl (hS22.inn0 [(true, 1), (true, 0)] rfl) hc4)) ?_
     rintro _ w_10 ⟨B14, c14, rfl, hd4⟩
     have hS23 := hS22.out0 hd4
     refine sQ 48 (ym (.tuple #[.slice B14 r_6.length c14, .bool r_7])) <| sQ 55 (ye (.slice B14 r_6.length c14)) <| sQ 56 (ye (.bool r_7)) ?_
     refine sS 11 (yN [.slice none 0 0] 1 hS23 K77) ?_
     rintro _ w_11 ⟨b5, rfl, hS24⟩
     refine s0 (yT 4 1 (aD b5) 24 (.slice B14 r_6.length c14) [.slice B14 r_6.length c14] 0 hS24 K8) ?_
     rintro _ w_12 ⟨rfl, hS25⟩
     refine sQ 12 (yg (.bool r_7)) (rn (cq (cr ?_)))
     refine sQ 57 (ym (.slice B9 list1.length c9) rfl (hf2.g 5 1)) <| sQ 58 (Y_makeFunc (cs := [pt (aD b5) 0]) rfl rfl (mc rfl mn)) ?_
     obtain ⟨r_8, hc5, hz3⟩ := bI hz3
     refine sc 59 rfl rfl (yC [.slice B9 list1.length c9, .func (.func 55) #[] #[pt (aD b5) 0]] k_call_54 (c_slices_ContainsFunc_SSimpl_Dyadic_impl_Dyadic list1 (fun x_0 => F_impl_cliffordList_1 x_0 r_6) B9 c9 list1.length D2 55 (#[pt (aD b5) 0]) [⟨aD b5, [.slice B14 r_6.length c14]⟩, ⟨B14, (r_6.flatMap eN0)⟩] _ (dl_fl hD2 (dl_len hD2)) hD2 k_call_55 (fun w x_0 B_0 c_0 hw y_0 h_ => c_impl_cliffordList_1 x_0 r_6 B_0 c_0 x_0.length (aD b5) B14 c14 r_6.length w rfl rfl hw h_) (hS25.innR0 (srcO (i := 1) rfl (srcG (fun r_ (h : r_ ∈ ((D2.flatMap eN1) : List Ro)) => mOd (i := 6) (show r_ ∈ ((((D2.flatMap eN1) ++ ((D3.flatMap eN1) ++ []))) : List Ro) from mAl _ h)) (srcO (i := 4) rfl (srcO (i := 3) rfl (fun _ h => by cases h)))))) hc5)) ?_
     rintro _ w_13 ⟨rfl, hd5⟩
     have hS26 := hS25.out00 hd5
     refine sQ 60 (Y_not (p := r_8) rfl rfl) (rn ?_)
     refine cw_cond (b := (!r_8)) rfl (fun hb4 => ?_) (fun hb4 => ?_)
     ·skip
      have hF6 := ct hz3 hb4
      obtain ⟨x2, hx2, hF6⟩ := bI hF6
      obtain ⟨hss, hF6⟩ := chk_inv hF6
      obtain ⟨hsa, hF6⟩ := chk_inv hF6
      obtain ⟨hap1, hF6⟩ := chk_inv hF6
      obtain ⟨hap2, hF6⟩ := chk_inv hF6
      have ho15 : Org w0 [] [⟨(aD 0), [vi 1, vi 0, vi 0, vi 0, vi 2]⟩] [⟨B14, (r_6.flatMap eN0)⟩] := ST.orgOwn hS26 (i := 3) rfl
      have hcap4 : r_6.length ≤ c14 := (hS26.lencap (i := 3) rfl (fm_lenn (l := r_6) eN2 rfl) rfl rfl)
      have hS30 : ST w0 [] _ [⟨B8, 9, (words1.flatMap encS), c8 * 1⟩, ⟨B9, 24, (D2.flatMap eN3), c9 * 1⟩, ⟨aD b4, 24, (D3.flatMap eN3), 2 * 1⟩, ⟨aD b5, 24, [.slice B14 r_6.length c14], 1⟩] (⟨B14, (r_6.flatMap eN0)⟩ :: ⟨B13, (x1.flatMap eN0)⟩ :: ⟨B12, (x.flatMap eN0)⟩ :: ⟨B5, (r_5.Cells.flatMap eN0)⟩ :: ⟨B4, (r_4.Cells.flatMap eN0)⟩ :: ⟨B2, (one_.flatMap eN0)⟩ :: ⟨(aD 0), [vi 1, vi 0, vi 0, vi 0, vi 2]⟩ :: ((D2.flatMap eN1) ++ ((D3.flatMap eN1) ++ []))) := hS26.freeze (i := 3) rfl
      refine cw_mid (fun f w => ∃ (B17 : Option Addr) (c17 : Nat) (B18 : Option Addr) (c18 : Nat) (D6 : List (Hd × (List TDyadic))), FF f [(4, .slice B17 ((words1 ++ [(x2 ++ (dT i2))]).length) c17), (5, .slice B18 ((list1 ++ ([r_6] : List (List TDyadic))).length) c18), (6, .slice B4 r_4.Cells.length c4), (7, .slice B5 r_5.Cells.length c5), (8, vi at_1), (41, .slice (aD b4) (([r_4.Cells, r_5.Cells] : List (List TDyadic)).length) 2), (42, vi 2), (43, vi (i2 : Int))] ∧ D6.map Prod.snd = (list1 ++ ([r_6] : List (List TDyadic))) ∧ Org w0 [] [⟨(aD 0), [vi 1, vi 0, vi 0, vi 0, vi 2]⟩] (D6.flatMap eN1) ∧ ST w0 [] w [⟨B17, 9, ((words1 ++ [(x2 ++ (dT i2))]).flatMap encS), c17 * 1⟩, ⟨B18, 24, (D6.flatMap eN3), c18 * 1⟩, ⟨aD b4, 24, (D3.flatMap eN3), 2 * 1⟩] (⟨B14, (r_6.flatMap eN0)⟩ :: ⟨B13, (x1.flatMap eN0)⟩ :: ⟨B12, (x.flatMap eN0)⟩ :: ⟨B5, (r_5.Cells.flatMap eN0)⟩ :: ⟨B4, (r_4.Cells.flatMap eN0)⟩ :: ⟨B2, (one_.flatMap eN0)⟩ :: ⟨(aD 0), [vi 1, vi 0, vi 0, vi 0, vi 2]⟩ :: ((D6.flatMap eN1) ++ ((D3.flatMap eN1) ++ [])))) ?_ ?_
      ·skip
       refine ra_start (ST.subR (hS30.se [2, 3]) (R' := (⟨B14, (r_6.flatMap eN0)⟩ :: ⟨B13, (x1.flatMap eN0)⟩ :: ⟨B12, (x.flatMap eN0)⟩ :: ⟨B5, (r_5.Cells.flatMap eN0)⟩ :: ⟨B4, (r_4.Cells.flatMap eN0)⟩ :: ⟨B2, (one_.flatMap eN0)⟩ :: ⟨(aD 0), [vi 1, vi 0, vi 0, vi 0, vi 2]⟩ :: ((D3.flatMap eN1) ++ []))) (sk 0 (sk 1 (sk 2 (sk 3 (sk 4 (sk 5 (sk 6 (suba (fun r_ (h : r_ ∈ ((D3.flatMap eN1) : List Ro)) => mOd (i := 7) (show r_ ∈ ((((D2.flatMap eN1) ++ ((D3.flatMap eN1) ++ []))) : List Ro) from mAr _ (mAl _ h))) (fun _ h => by cases h)))))))))).fn (by kernel_rfl) ?_
       have hS32 := hS30.drew
       refine rq 0 61 (v := .slice B8 words1.length c8) rfl (ST.subR (hS32.se [2, 3]) (R' := (⟨B14, (r_6.flatMap eN0)⟩ :: ⟨B13, (x1.flatMap eN0)⟩ :: ⟨B12, (x.flatMap eN0)⟩ :: ⟨B5, (r_5.Cells.flatMap eN0)⟩ :: ⟨B4, (r_4.Cells.flatMap eN0)⟩ :: ⟨B2, (one_.flatMap eN0)⟩ :: ⟨(aD 0), [vi 1, vi 0, vi 0, vi 0, vi 2]⟩ :: ((D3.flatMap eN1) ++ []))) (sk 0 (sk 1 (sk 2 (sk 3 (sk 4 (sk 5 (sk 6 (suba (fun r_ (h : r_ ∈ ((D3.flatMap eN1) : List Ro)) => mOd (i := 7) (show r_ ∈ ((((D2.flatMap eN1) ++ ((D3.flatMap eN1) ++ []))) : List Ro) from mAr _ (mAl _ h))) (fun _ h => by cases h)))))))))) (fun w' hw' => (ym (.slice B8 words1.length c8) rfl (hf2.g 4 0))) ?_
       refine rq 1 62 (v := .slice B8 words1.length c8) rfl (ST.subR (hS32.se [2, 3]) (R' := (⟨B14, (r_6.flatMap eN0)⟩ :: ⟨B13, (x1.flatMap eN0)⟩ :: ⟨B12, (x.flatMap eN0)⟩ :: ⟨B5, (r_5.Cells.flatMap eN0)⟩ :: ⟨B4, (r_4.Cells.flatMap eN0)⟩ :: ⟨B2, (one_.flatMap eN0)⟩ :: ⟨(aD 0), [vi 1, vi 0, vi 0, vi 0, vi 2]⟩ :: ((D3.flatMap eN1) ++ []))) (sk 0 (sk 1 (sk 2 (sk 3 (sk 4 (sk 5 (sk 6 (suba (fun r_ (h : r_ ∈ ((D3.flatMap eN1) : List Ro)) => mOd (i := 7) (show r_ ∈ ((((D2.flatMap eN1) ++ ((D3.flatMap eN1) ++ []))) : List Ro) from mAr _ (mAl _ h))) (fun _ h => by cases h)))))))))) (fun w' hw' => (ym (.slice B8 words1.length c8) rfl (hf2.g 4 0))) ?_
       refine rq 2 63 (v := vi at_1) rfl (ST.subR (hS32.se [2, 3]) (R' := (⟨B14, (r_6.flatMap eN0)⟩ :: ⟨B13, (x1.flatMap eN0)⟩ :: ⟨B12, (x.flatMap eN0)⟩ :: ⟨B5, (r_5.Cells.flatMap eN0)⟩ :: ⟨B4, (r_4.Cells.flatMap eN0)⟩ :: ⟨B2, (one_.flatMap eN0)⟩ :: ⟨(aD 0), [vi 1, vi 0, vi 0, vi 0, vi 2]⟩ :: ((D3.flatMap eN1) ++ []))) (sk 0 (sk 1 (sk 2 (sk 3 (sk 4 (sk 5 (sk 6 (suba (fun r_ (h : r_ ∈ ((D3.flatMap eN1) : List Ro)) => mOd (i := 7) (show r_ ∈ ((((D2.flatMap eN1) ++ ((D3.flatMap eN1) ++ []))) : List Ro) from mAr _ (mAl _ h))) (fun _ h => by cases h)))))))))) (fun w' hw' => (ym (vi at_1) rfl (hf2.g 8 4))) ?_
       refine rq 5 66 (v := vi (i2 : Int)) rfl (ST.subR (hS32.se [2, 3]) (R' := (⟨B14, (r_6.flatMap eN0)⟩ :: ⟨B13, (x1.flatMap eN0)⟩ :: ⟨B12, (x.flatMap eN0)⟩ :: ⟨B5, (r_5.Cells.flatMap eN0)⟩ :: ⟨B4, (r_4.Cells.flatMap eN0)⟩ :: ⟨B2, (one_.flatMap eN0)⟩ :: ⟨(aD 0), [vi 1, vi 0, vi 0, vi 0, vi 2]⟩ :: ((D3.flatMap eN1) ++ []))) (sk 0 (sk 1 (sk 2 (sk 3 (sk 4 (sk 5 (sk 6 (suba (fun r_ (h : r_ ∈ ((D3.flatMap eN1) : List Ro)) => mOd (i := 7) (show r_ ∈ ((((D2.flatMap eN1) ++ ((D3.flatMap eN1) ++ []))) : List Ro) from mAr _ (mAl _ h))) (fun _ h => by cases h)))))))))) (fun w' hw' => (ym (vi (i2 : Int)))) ?_
       refine rq 6 67 (v := vi (i2 : Int)) rfl (ST.subR (hS32.se [2, 3]) (R' := (⟨B14, (r_6.flatMap eN0)⟩ :: ⟨B13, (x1.flatMap eN0)⟩ :: ⟨B12, (x.flatMap eN0)⟩ :: ⟨B5, (r_5.Cells.flatMap eN0)⟩ :: ⟨B4, (r_4.Cells.flatMap eN0)⟩ :: ⟨B2, (one_.flatMap eN0)⟩ :: ⟨(aD 0), [vi 1, vi 0, vi 0, vi 0, vi 2]⟩ :: ((D3.flatMap eN1) ++ []))) (sk 0 (sk 1 (sk 2 (sk 3 (sk 4 (sk 5 (sk 6 (suba (fun r_ (h : r_ ∈ ((D3.flatMap eN1) : List Ro)) => mOd (i := 7) (show r_ ∈ ((((D2.flatMap eN1) ++ ((D3.flatMap eN1) ++ []))) : List Ro) from mAr _ (mAl _ h))) (fun _ h => by cases h)))))))))) (fun w' hw' => (ym (vi (i2 : Int)))) ?_
       refine rq 7 68 (v := vi (i64.wrap ((i2 : Int) + 1))) rfl (ST.subR (hS32.se [2, 3]) (R' := (⟨B14, (r_6.flatMap eN0)⟩ :: ⟨B13, (x1.flatMap eN0)⟩ :: ⟨B12, (x.flatMap eN0)⟩ :: ⟨B5, (r_5.Cells.flatMap eN0)⟩ :: ⟨B4, (r_4.Cells.flatMap eN0)⟩ :: ⟨B2, (one_.flatMap eN0)⟩ :: ⟨(aD 0), [vi 1, vi 0, vi 0, vi 0, vi 2]⟩ :: ((D3.flatMap eN1) ++ []))) (sk 0 (sk 1 (sk 2 (sk 3 (sk 4 (sk 5 (sk 6 (suba (fun r_ (h : r_ ∈ ((D3.flatMap eN1) : List Ro)) => mOd (i := 7) (show r_ ∈ ((((D2.flatMap eN1) ++ ((D3.flatMap eN1) ++ []))) : List Ro) from mAr _ (mAl _ h))) (fun _ h => by cases h)))))))))) (fun w' hw' => (yP (i2 : Int) 1)) ?_
       refine rq 8 69 (v := .string (bstr (dT i2))) rfl (ST.subR (hS32.se [2, 3]) (R' := (⟨B14, (r_6.flatMap eN0)⟩ :: ⟨B13, (x1.flatMap eN0)⟩ :: ⟨B12, (x.flatMap eN0)⟩ :: ⟨B5, (r_5.Cells.flatMap eN0)⟩ :: ⟨B4, (r_4.Cells.flatMap eN0)⟩ :: ⟨B2, (one_.flatMap eN0)⟩ :: ⟨(aD 0), [vi 1, vi 0, vi 0, vi 0, vi 2]⟩ :: ((D3.flatMap eN1) ++ []))) (sk 0 (sk 1 (sk 2 (sk 3 (sk 4 (sk 5 (sk 6 (suba (fun r_ (h : r_ ∈ ((D3.flatMap eN1) : List Ro)) => mOd (i := 7) (show r_ ∈ ((((D2.flatMap eN1) ++ ((D3.flatMap eN1) ++ []))) : List Ro) from mAr _ (mAl _ h))) (fun _ h => by cases h)))))))))) (fun w' hw' => (Y_sslice (a := ([72, 83] : List UInt8)) (k := .i64) (k' := .i64) (l := (i2 : Int)) (h := (i64.wrap ((i2 : Int) + 1))) k_str_9 rfl rfl rfl rfl hss)) ?_
       refine rq 12 73 (v := .slice B9 list1.length c9) rfl (ST.subR (hS32.se [2, 3]) (R' := (⟨B14, (r_6.flatMap eN0)⟩ :: ⟨B13, (x1.flatMap eN0)⟩ :: ⟨B12, (x.flatMap eN0)⟩ :: ⟨B5, (r_5.Cells.flatMap eN0)⟩ :: ⟨B4, (r_4.Cells.flatMap eN0)⟩ :: ⟨B2, (one_.flatMap eN0)⟩ :: ⟨(aD 0), [vi 1, vi 0, vi 0, vi 0, vi 2]⟩ :: ((D3.flatMap eN1) ++ []))) (sk 0 (sk 1 (sk 2 (sk 3 (sk 4 (sk 5 (sk 6 (suba (fun r_ (h : r_ ∈ ((D3.flatMap eN1) : List Ro)) => mOd (i := 7) (show r_ ∈ ((((D2.flatMap eN1) ++ ((D3.flatMap eN1) ++ []))) : List Ro) from mAr _ (mAl _ h))) (fun _ h => by cases h)))))))))) (fun w' hw' => (ym (.slice B9 list1.length c9) rfl (hf2.g 5 1))) ?_
       refine rq 13 74 (v := .slice B14 r_6.length c14) rfl (ST.subR (hS32.se [2, 3]) (R' := (⟨B14, (r_6.flatMap eN0)⟩ :: ⟨B13, (x1.flatMap eN0)⟩ :: ⟨B12, (x.flatMap eN0)⟩ :: ⟨B5, (r_5.Cells.flatMap eN0)⟩ :: ⟨B4, (r_4.Cells.flatMap eN0)⟩ :: ⟨B2, (one_.flatMap eN0)⟩ :: ⟨(aD 0), [vi 1, vi 0, vi 0, vi 0, vi 2]⟩ :: ((D3.flatMap eN1) ++ []))) (sk 0 (sk 1 (sk 2 (sk 3 (sk 4 (sk 5 (sk 6 (suba (fun r_ (h : r_ ∈ ((D3.flatMap eN1) : List Ro)) => mOd (i := 7) (show r_ ∈ ((((D2.flatMap eN1) ++ ((D3.flatMap eN1) ++ []))) : List Ro) from mAr _ (mAl _ h))) (fun _ h => by cases h)))))))))) (fun w' hw' => (yl (aD b5) 0 [.slice B14 r_6.length c14] (.slice B14 r_6.length c14) K13 (ST.cf hw' (i := 1) rfl))) ?_
       refine rA [3, 14] ?_
       refine ra_y 64 (i := 3) (v := pt B8 (at_1.toNat * 1)) rfl rfl rfl (Y_index (B := B8) (m := words1.length) (c := c8) (k := .i64) (i := at_1) K45 K46 rfl rfl rfl (gi_isSome encS_len rfl (hS32.c 0) hx2) (getI_nn hx2) (getI_ltI hx2 rfl)) (ST.subR (hS32.se [2, 3]) (R' := (⟨B14, (r_6.flatMap eN0)⟩ :: ⟨B13, (x1.flatMap eN0)⟩ :: ⟨B12, (x.flatMap eN0)⟩ :: ⟨B5, (r_5.Cells.flatMap eN0)⟩ :: ⟨B4, (r_4.Cells.flatMap eN0)⟩ :: ⟨B2, (one_.flatMap eN0)⟩ :: ⟨(aD 0), [vi 1, vi 0, vi 0, vi 0, vi 2]⟩ :: ((D3.flatMap eN1) ++ []))) (sk 0 (sk 1 (sk 2 (sk 3 (sk 4 (sk 5 (sk 6 (suba (fun r_ (h : r_ ∈ ((D3.flatMap eN1) : List Ro)) => mOd (i := 7) (show r_ ∈ ((((D2.flatMap eN1) ++ ((D3.flatMap eN1) ++ []))) : List Ro) from mAr _ (mAl _ h))) (fun _ h => by cases h)))))))))) ?_ ?_
       ·skip
        refine rA [4, 14] ?_
        refine ra_y 65 (i := 4) (v := .string (bstr x2)) rfl rfl rfl (yl B8 (at_1.toNat * 1) (words1.flatMap encS) (.string (bstr x2)) K132 (hS32.c 0) rfl rfl (gi_at0 encS_len hx2 rfl)) (ST.subR (hS32.se [2, 3]) (R' := (⟨B14, (r_6.flatMap eN0)⟩ :: ⟨B13, (x1.flatMap eN0)⟩ :: ⟨B12, (x.flatMap eN0)⟩ :: ⟨B5, (r_5.Cells.flatMap eN0)⟩ :: ⟨B4, (r_4.Cells.flatMap eN0)⟩ :: ⟨B2, (one_.flatMap eN0)⟩ :: ⟨(aD 0), [vi 1, vi 0, vi 0, vi 0, vi 2]⟩ :: ((D3.flatMap eN1) ++ []))) (sk 0 (sk 1 (sk 2 (sk 3 (sk 4 (sk 5 (sk 6 (suba (fun r_ (h : r_ ∈ ((D3.flatMap eN1) : List Ro)) => mOd (i := 7) (show r_ ∈ ((((D2.flatMap eN1) ++ ((D3.flatMap eN1) ++ []))) : List Ro) from mAr _ (mAl _ h))) (fun _ h => by cases h)))))))))) ?_ ?_
        ·skip
         refine ra_q 9 70 (v := .string (bstr (x2 ++ (dT i2)))) rfl rfl rfl (by kernel_rfl) (by kernel_rfl) (by kernel_rfl) (ST.subR (hS32.se [2, 3]) (R' := (⟨B14, (r_6.flatMap eN0)⟩ :: ⟨B13, (x1.flatMap eN0)⟩ :: ⟨B12, (x.flatMap eN0)⟩ :: ⟨B5, (r_5.Cells.flatMap eN0)⟩ :: ⟨B4, (r_4.Cells.flatMap eN0)⟩ :: ⟨B2, (one_.flatMap eN0)⟩ :: ⟨(aD 0), [vi 1, vi 0, vi 0, vi 0, vi 2]⟩ :: ((D3.flatMap eN1) ++ []))) (sk 0 (sk 1 (sk 2 (sk 3 (sk 4 (sk 5 (sk 6 (suba (fun r_ (h : r_ ∈ ((D3.flatMap eN1) : List Ro)) => mOd (i := 7) (show r_ ∈ ((((D2.flatMap eN1) ++ ((D3.flatMap eN1) ++ []))) : List Ro) from mAr _ (mAl _ h))) (fun _ h => by cases h)))))))))) (fun w' hw' => (Y_sadd (a := x2) (b := (dT i2)) rfl rfl rfl hsa)) ?_
         refine rA [10, 14] ?_
         refine rS 71 10 rfl (Ys_bslice (s := 1) (len := 1) (vs := [(0, .string (bstr (x2 ++ (dT i2))))]) (cs := [.string (bstr (x2 ++ (dT i2)))]) (zs := [.string (bstr ([] : List UInt8))]) (m := 1) hS32 K45 K46 K91 rfl (mpc rfl mpn) rfl rfl rfl (by kernel_rfl) (by kernel_rfl) rfl) ?_ ?_
         ·rintro _ w_14 ⟨b6, rfl, hS33⟩
          refine ⟨(ST.subR (hS33.se [2, 3]) (R' := (⟨B14, (r_6.flatMap eN0)⟩ :: ⟨B13, (x1.flatMap eN0)⟩ :: ⟨B12, (x.flatMap eN0)⟩ :: ⟨B5, (r_5.Cells.flatMap eN0)⟩ :: ⟨B4, (r_4.Cells.flatMap eN0)⟩ :: ⟨B2, (one_.flatMap eN0)⟩ :: ⟨(aD 0), [vi 1, vi 0, vi 0, vi 0, vi 2]⟩ :: ((D3.flatMap eN1) ++ []))) (sk 0 (sk 1 (sk 2 (sk 3 (sk 4 (sk 5 (sk 6 (suba (fun r_ (h : r_ ∈ ((D3.flatMap eN1) : List Ro)) => mOd (i := 7) (show r_ ∈ ((((D2.flatMap eN1) ++ ((D3.flatMap eN1) ++ []))) : List Ro) from mAr _ (mAl _ h))) (fun _ h => by cases h)))))))))), ?_⟩
          refine rA [11, 14] ?_
          refine rS 72 11 rfl (Ys_append (s := 1) (by' := 16) (i := 0) (nn := words1.length) (c := c8) (k := 1) (len := (words1 ++ [(x2 ++ (dT i2))]).length) (B := B8) (xs := ([(x2 ++ (dT i2))].flatMap encS)) (cs' := ((words1 ++ [(x2 ++ (dT i2))]).flatMap encS)) hS33 K45 K46 K92 K93 rfl (by decide) rfl rfl rfl rfl (fm_lenn (l := words1) encS_len rfl) rfl (hS33.c 4) (fm_lenn (l := [(x2 ++ (dT i2))]) encS_len rfl) (fm_one' (enc := encS) encS_one [(x2 ++ (dT i2))]) (by have := hap1; omega) (by have := hap1; simp only [maxLen]; omega) (fm_app _ _) (app_len (l := words1) (l' := [(x2 ++ (dT i2))]) rfl rfl)) ?_ ?_
          ·rintro _ w_15 ⟨B15, c15, rfl, hS34⟩
           refine ⟨(ST.subR (hS34.se [2, 3]) (R' := (⟨B14, (r_6.flatMap eN0)⟩ :: ⟨B13, (x1.flatMap eN0)⟩ :: ⟨B12, (x.flatMap eN0)⟩ :: ⟨B5, (r_5.Cells.flatMap eN0)⟩ :: ⟨B4, (r_4.Cells.flatMap eN0)⟩ :: ⟨B2, (one_.flatMap eN0)⟩ :: ⟨(aD 0), [vi 1, vi 0, vi 0, vi 0, vi 2]⟩ :: ((D3.flatMap eN1) ++ []))) (sk 0 (sk 1 (sk 2 (sk 3 (sk 4 (sk 5 (sk 6 (suba (fun r_ (h : r_ ∈ ((D3.flatMap eN1) : List Ro)) => mOd (i := 7) (show r_ ∈ ((((D2.flatMap eN1) ++ ((D3.flatMap eN1) ++ []))) : List Ro) from mAr _ (mAl _ h))) (fun _ h => by cases h)))))))))), ?_⟩
           refine rA [14] ?_
           refine rS 75 14 rfl (Ys_bslice (s := 1) (len := 1) (vs := [(0, .slice B14 r_6.length c14)]) (cs := [.slice B14 r_6.length c14]) (zs := [.slice none 0 0]) (m := 1) hS34 K41 K8 K69 rfl (mpc rfl mpn) rfl rfl rfl (by kernel_rfl) (by kernel_rfl) rfl) ?_ ?_
           ·rintro _ w_16 ⟨b7, rfl, hS35⟩
            have hm5 : ∀ r ∈ ((lH B14 c14 r_6).flatMap eN1), r ∈ ((⟨B14, (r_6.flatMap eN0)⟩ :: ⟨B13, (x1.flatMap eN0)⟩ :: ⟨B12, (x.flatMap eN0)⟩ :: ⟨B5, (r_5.Cells.flatMap eN0)⟩ :: ⟨B4, (r_4.Cells.flatMap eN0)⟩ :: ⟨B2, (one_.flatMap eN0)⟩ :: ⟨(aD 0), [vi 1, vi 0, vi 0, vi 0, vi 2]⟩ :: ((D2.flatMap eN1) ++ ((D3.flatMap eN1) ++ []))) : List Ro) := (fsub_cons (sk 0 (fun _ h => by cases h)) fsub_nil)
            have ho17 : Org w0 [] [⟨(aD 0), [vi 1, vi 0, vi 0, vi 0, vi 2]⟩] ((lH B14 c14 r_6).flatMap eN1) := (forg_cons (org_cons ho15 org_nil) forg_nil)
            have hS36 : ST w0 [] _ [⟨B15, 9, ((words1 ++ [(x2 ++ (dT i2))]).flatMap encS), c15 * 1⟩, ⟨B9, 24, (D2.flatMap eN3), c9 * 1⟩, ⟨aD b4, 24, (D3.flatMap eN3), 2 * 1⟩, ⟨aD b5, 24, [.slice B14 r_6.length c14], 1⟩, ⟨aD b6, 9, ([(x2 ++ (dT i2))].flatMap encS), 1 * 1⟩, ⟨aD b7, 24, ((lH B14 c14 r_6).flatMap eN3), 1 * 1⟩] (⟨B14, (r_6.flatMap eN0)⟩ :: ⟨B13, (x1.flatMap eN0)⟩ :: ⟨B12, (x.flatMap eN0)⟩ :: ⟨B5, (r_5.Cells.flatMap eN0)⟩ :: ⟨B4, (r_4.Cells.flatMap eN0)⟩ :: ⟨B2, (one_.flatMap eN0)⟩ :: ⟨(aD 0), [vi 1, vi 0, vi 0, vi 0, vi 2]⟩ :: (((lH B14 c14 r_6).flatMap eN1) ++ ((D2.flatMap eN1) ++ ((D3.flatMap eN1) ++ [])))) := ST.subR hS35 (sk 0 (sk 1 (sk 2 (sk 3 (sk 4 (sk 5 (sk 6 (suba hm5 (suba (fun r_ (h : r_ ∈ ((D2.flatMap eN1) : List Ro)) => mOd (i := 7) (show r_ ∈ ((((D2.flatMap eN1) ++ ((D3.flatMap eN1) ++ []))) : List Ro) from mAl _ h)) (suba (fun r_ (h : r_ ∈ ((D3.flatMap eN1) : List Ro)) => mOd (i := 7) (show r_ ∈ ((((D2.flatMap eN1) ++ ((D3.flatMap eN1) ++ []))) : List Ro) from mAr _ (mAl _ h))) (fun _ h => by cases h)))))))))))
            refine ⟨(ST.subR (hS36.se [2, 3]) (R' := (⟨B14, (r_6.flatMap eN0)⟩ :: ⟨B13, (x1.flatMap eN0)⟩ :: ⟨B12, (x.flatMap eN0)⟩ :: ⟨B5, (r_5.Cells.flatMap eN0)⟩ :: ⟨B4, (r_4.Cells.flatMap eN0)⟩ :: ⟨B2, (one_.flatMap eN0)⟩ :: ⟨(aD 0), [vi 1, vi 0, vi 0, vi 0, vi 2]⟩ :: ((D3.flatMap eN1) ++ []))) (sk 0 (sk 1 (sk 2 (sk 3 (sk 4 (sk 5 (sk 6 (suba (fun r_ (h : r_ ∈ ((D3.flatMap eN1) : List Ro)) => mOd (i := 7) (show r_ ∈ (((((lH B14 c14 r_6).flatMap eN1) ++ ((D2.flatMap eN1) ++ ((D3.flatMap eN1) ++ [])))) : List Ro) from mAr _ (mAr _ (mAl _ h)))) (fun _ h => by cases h)))))))))), ?_⟩
            refine rA [15] ?_
            refine rS 76 15 rfl (Ys_append (s := 1) (by' := 24) (i := 1) (nn := list1.length) (c := c9) (k := 1) (len := (list1 ++ ([r_6] : List (List TDyadic))).length) (B := B9) (xs := ((lH B14 c14 r_6).flatMap eN3)) (cs' := ((D2 ++ (lH B14 c14 r_6)).flatMap eN3)) hS36 K41 K8 K94 K77 rfl (by decide) rfl rfl rfl rfl (fm_lenn (l := D2) encD_SDyadic_len (dl_len hD2)) rfl (hS36.c 5) (fm_lenn (l := (lH B14 c14 r_6)) encD_SDyadic_len rfl) (fm_one' (enc := eN3) encD_SDyadic_one (lH B14 c14 r_6)) (by have := hap2; omega) (by have := hap2; simp only [maxLen]; omega) (fm_app _ _) (dl_sum (dl_len hD2) rfl (dl_app hD2 (show List.map Prod.snd (lH B14 c14 r_6) = ([r_6] : List (List TDyadic)) from rfl)))) ?_ ?_
            ·rintro _ w_17 ⟨B16, c16, rfl, hS37⟩
             have ho18 : Org w0 [] [⟨(aD 0), [vi 1, vi 0, vi 0, vi 0, vi 2]⟩] ((D2 ++ (lH B14 c14 r_6)).flatMap eN1) := (forg_app ho8 ho17)
             have hS38 : ST w0 [] _ [⟨B15, 9, ((words1 ++ [(x2 ++ (dT i2))]).flatMap encS), c15 * 1⟩, ⟨B16, 24, ((D2 ++ (lH B14 c14 r_6)).flatMap eN3), c16 * 1⟩, ⟨aD b4, 24, (D3.flatMap eN3), 2 * 1⟩, ⟨aD b5, 24, [.slice B14 r_6.length c14], 1⟩, ⟨aD b6, 9, ([(x2 ++ (dT i2))].flatMap encS), 1 * 1⟩, ⟨aD b7, 24, ((lH B14 c14 r_6).flatMap eN3), 1 * 1⟩] (⟨B14, (r_6.flatMap eN0)⟩ :: ⟨B13, (x1.flatMap eN0)⟩ :: ⟨B12, (x.flatMap eN0)⟩ :: ⟨B5, (r_5.Cells.flatMap eN0)⟩ :: ⟨B4, (r_4.Cells.flatMap eN0)⟩ :: ⟨B2, (one_.flatMap eN0)⟩ :: ⟨(aD 0), [vi 1, vi 0, vi 0, vi 0, vi 2]⟩ :: (((D2 ++ (lH B14 c14 r_6)).flatMap eN1) ++ (((lH B14 c14 r_6).flatMap eN1) ++ ((D3.flatMap eN1) ++ [])))) := ST.subR hS37 (sk 0 (sk 1 (sk 2 (sk 3 (sk 4 (sk 5 (sk 6 (suba (fsub_app (fun r_ (h : r_ ∈ ((D2.flatMap eN1) : List Ro)) => mOd (i := 7) (show r_ ∈ (((((lH B14 c14 r_6).flatMap eN1) ++ ((D2.flatMap eN1) ++ ((D3.flatMap eN1) ++ [])))) : List Ro) from mAr _ (mAl _ h))) (fun r_ (h : r_ ∈ (((lH B14 c14 r_6).flatMap eN1) : List Ro)) => mOd (i := 7) (show r_ ∈ (((((lH B14 c14 r_6).flatMap eN1) ++ ((D2.flatMap eN1) ++ ((D3.flatMap eN1) ++ [])))) : List Ro) from mAl _ h))) (suba (fun r_ (h : r_ ∈ (((lH B14 c14 r_6).flatMap eN1) : List Ro)) => mOd (i := 7) (show r_ ∈ (((((lH B14 c14 r_6).flatMap eN1) ++ ((D2.flatMap eN1) ++ ((D3.flatMap eN1) ++ [])))) : List Ro) from mAl _ h)) (suba (fun r_ (h : r_ ∈ ((D3.flatMap eN1) : List Ro)) => mOd (i := 7) (show r_ ∈ (((((lH B14 c14 r_6).flatMap eN1) ++ ((D2.flatMap eN1) ++ ((D3.flatMap eN1) ++ [])))) : List Ro) from mAr _ (mAr _ (mAl _ h)))) (fun _ h => by cases h)))))))))))
             refine ⟨(ST.subR (hS38.se [2, 3]) (R' := (⟨B14, (r_6.flatMap eN0)⟩ :: ⟨B13, (x1.flatMap eN0)⟩ :: ⟨B12, (x.flatMap eN0)⟩ :: ⟨B5, (r_5.Cells.flatMap eN0)⟩ :: ⟨B4, (r_4.Cells.flatMap eN0)⟩ :: ⟨B2, (one_.flatMap eN0)⟩ :: ⟨(aD 0), [vi 1, vi 0, vi 0, vi 0, vi 2]⟩ :: ((D3.flatMap eN1) ++ []))) (sk 0 (sk 1 (sk 2 (sk 3 (sk 4 (sk 5 (sk 6 (suba (fun r_ (h : r_ ∈ ((D3.flatMap eN1) : List Ro)) => mOd (i := 7) (show r_ ∈ (((((D2 ++ (lH B14 c14 r_6)).flatMap eN1) ++ (((lH B14 c14 r_6).flatMap eN1) ++ ((D3.flatMap eN1) ++ [])))) : List Ro) from mAr _ (mAr _ (mAl _ h)))) (fun _ h => by cases h)))))))))), ?_⟩
             refine ra_q 16 4 (v := .slice B15 ((words1 ++ [(x2 ++ (dT i2))]).length) c15) rfl rfl rfl (by kernel_rfl) (by kernel_rfl) (by kernel_rfl) (ST.subR (hS38.se [2, 3]) (R' := (⟨B14, (r_6.flatMap eN0)⟩ :: ⟨B13, (x1.flatMap eN0)⟩ :: ⟨B12, (x.flatMap eN0)⟩ :: ⟨B5, (r_5.Cells.flatMap eN0)⟩ :: ⟨B4, (r_4.Cells.flatMap eN0)⟩ :: ⟨B2, (one_.flatMap eN0)⟩ :: ⟨(aD 0), [vi 1, vi 0, vi 0, vi 0, vi 2]⟩ :: ((D3.flatMap eN1) ++ []))) (sk 0 (sk 1 (sk 2 (sk 3 (sk 4 (sk 5 (sk 6 (suba (fun r_ (h : r_ ∈ ((D3.flatMap eN1) : List Ro)) => mOd (i := 7) (show r_ ∈ (((((D2 ++ (lH B14 c14 r_6)).flatMap eN1) ++ (((lH B14 c14 r_6).flatMap eN1) ++ ((D3.flatMap eN1) ++ [])))) : List Ro) from mAr _ (mAr _ (mAl _ h)))) (fun _ h => by cases h)))))))))) (fun w' hw' => (yg (.slice B15 ((words1 ++ [(x2 ++ (dT i2))]).length) c15))) ?_
             refine rq 17 5 (v := .slice B16 ((list1 ++ ([r_6] : List (List TDyadic))).length) c16) rfl (ST.subR (hS38.se [2, 3]) (R' := (⟨B14, (r_6.flatMap eN0)⟩ :: ⟨B13, (x1.flatMap eN0)⟩ :: ⟨B12, (x.flatMap eN0)⟩ :: ⟨B5, (r_5.Cells.flatMap eN0)⟩ :: ⟨B4, (r_4.Cells.flatMap eN0)⟩ :: ⟨B2, (one_.flatMap eN0)⟩ :: ⟨(aD 0), [vi 1, vi 0, vi 0, vi 0, vi 2]⟩ :: ((D3.flatMap eN1) ++ []))) (sk 0 (sk 1 (sk 2 (sk 3 (sk 4 (sk 5 (sk 6 (suba (fun r_ (h : r_ ∈ ((D3.flatMap eN1) : List Ro)) => mOd (i := 7) (show r_ ∈ (((((D2 ++ (lH B14 c14 r_6)).flatMap eN1) ++ (((lH B14 c14 r_6).flatMap eN1) ++ ((D3.flatMap eN1) ++ [])))) : List Ro) from mAr _ (mAr _ (mAl _ h)))) (fun _ h => by cases h)))))))))) (fun w' hw' => (yg (.slice B16 ((list1 ++ ([r_6] : List (List TDyadic))).length) c16))) ?_
             refine ra_done (by kernel_rfl) ?_
             have hS39 : ST w0 [] _ [⟨B15, 9, ((words1 ++ [(x2 ++ (dT i2))]).flatMap encS), c15 * 1⟩, ⟨B16, 24, ((D2 ++ (lH B14 c14 r_6)).flatMap eN3), c16 * 1⟩, ⟨aD b4, 24, (D3.flatMap eN3), 2 * 1⟩, ⟨aD b5, 24, [.slice B14 r_6.length c14], 1⟩, ⟨aD b6, 9, ([(x2 ++ (dT i2))].flatMap encS), 1 * 1⟩, ⟨aD b7, 24, ((lH B14 c14 r_6).flatMap eN3), 1 * 1⟩] (⟨B14, (r_6.flatMap eN0)⟩ :: ⟨B13, (x1.flatMap eN0)⟩ :: ⟨B12, (x.flatMap eN0)⟩ :: ⟨B5, (r_5.Cells.flatMap eN0)⟩ :: ⟨B4, (r_4.Cells.flatMap eN0)⟩ :: ⟨B2, (one_.flatMap eN0)⟩ :: ⟨(aD 0), [vi 1, vi 0, vi 0, vi 0, vi 2]⟩ :: (((D2 ++ (lH B14 c14 r_6)).flatMap eN1) ++ ((D3.flatMap eN1) ++ []))) := ST.subR hS38 (sk 0 (sk 1 (sk 2 (sk 3 (sk 4 (sk 5 (sk 6 (suba (fun r_ (h : r_ ∈ (((D2 ++ (lH B14 c14 r_6)).flatMap eN1) : List Ro)) => mOd (i := 7) (show r_ ∈ (((((D2 ++ (lH B14 c14 r_6)).flatMap eN1) ++ (((lH B14 c14 r_6).flatMap eN1) ++ ((D3.flatMap eN1) ++ [])))) : List Ro) from mAl _ h)) (suba (fun r_ (h : r_ ∈ ((D3.flatMap eN1) : List Ro)) => mOd (i := 7) (show r_ ∈ (((((D2 ++ (lH B14 c14 r_6)).flatMap eN1) ++ (((lH B14 c14 r_6).flatMap eN1) ++ ((D3.flatMap eN1) ++ [])))) : List Ro) from mAr _ (mAr _ (mAl _ h)))) (fun _ h => by cases h))))))))))
             exact ⟨B15, c15, B16, c16, (D2 ++ (lH B14 c14 r_6)), (fc rfl (fc rfl (fc (hf2.g 6 2) (fc (hf2.g 7 3) (fc (hf2.g 8 4) (fc (hf2.g 41 5) (fc (hf2.g 42 6) (fc (hf2.g 43 7) fn_)))))))), (dl_app hD2 (show List.map Prod.snd (lH B14 c14 r_6) = ([r_6] : List (List TDyadic)) from rfl)), ho18, (hS39.sel [0, 1, 2] rfl rfl)⟩
            exact aN
           exact aN
          refine rS 75 14 rfl (Ys_bslice (s := 1) (len := 1) (vs := [(0, .slice B14 r_6.length c14)]) (cs := [.slice B14 r_6.length c14]) (zs := [.slice none 0 0]) (m := 1) hS33 K41 K8 K69 rfl (mpc rfl mpn) rfl rfl rfl (by kernel_rfl) (by kernel_rfl) rfl) ?_ ?_
          ·rintro _ w_18 ⟨b7, rfl, hS40⟩
           have hm6 : ∀ r ∈ ((lH B14 c14 r_6).flatMap eN1), r ∈ ((⟨B14, (r_6.flatMap eN0)⟩ :: ⟨B13, (x1.flatMap eN0)⟩ :: ⟨B12, (x.flatMap eN0)⟩ :: ⟨B5, (r_5.Cells.flatMap eN0)⟩ :: ⟨B4, (r_4.Cells.flatMap eN0)⟩ :: ⟨B2, (one_.flatMap eN0)⟩ :: ⟨(aD 0), [vi 1, vi 0, vi 0, vi 0, vi 2]⟩ :: ((D2.flatMap eN1) ++ ((D3.flatMap eN1) ++ []))) : List Ro) := (fsub_cons (sk 0 (fun _ h => by cases h)) fsub_nil)
           have ho19 : Org w0 [] [⟨(aD 0), [vi 1, vi 0, vi 0, vi 0, vi 2]⟩] ((lH B14 c14 r_6).flatMap eN1) := (forg_cons (org_cons ho15 org_nil) forg_nil)
           have hS41 : ST w0 [] _ [⟨B8, 9, (words1.flatMap encS), c8 * 1⟩, ⟨B9, 24, (D2.flatMap eN3), c9 * 1⟩, ⟨aD b4, 24, (D3.flatMap eN3), 2 * 1⟩, ⟨aD b5, 24, [.slice B14 r_6.length c14], 1⟩, ⟨aD b6, 9, ([(x2 ++ (dT i2))].flatMap encS), 1 * 1⟩, ⟨aD b7, 24, ((lH B14 c14 r_6).flatMap eN3), 1 * 1⟩] (⟨B14, (r_6.flatMap eN0)⟩ :: ⟨B13, (x1.flatMap eN0)⟩ :: ⟨B12, (x.flatMap eN0)⟩ :: ⟨B5, (r_5.Cells.flatMap eN0)⟩ :: ⟨B4, (r_4.Cells.flatMap eN0)⟩ :: ⟨B2, (one_.flatMap eN0)⟩ :: ⟨(aD 0), [vi 1, vi 0, vi 0, vi 0, vi 2]⟩ :: (((lH B14 c14 r_6).flatMap eN1) ++ ((D2.flatMap eN1) ++ ((D3.flatMap eN1) ++ [])))) := ST.subR hS40 (sk 0 (sk 1 (sk 2 (sk 3 (sk 4 (sk 5 (sk 6 (suba hm6 (suba (fun r_ (h : r_ ∈ ((D2.flatMap eN1) : List Ro)) => mOd (i := 7) (show r_ ∈ ((((D2.flatMap eN1) ++ ((D3.flatMap eN1) ++ []))) : List Ro) from mAl _ h)) (suba (fun r_ (h : r_ ∈ ((D3.flatMap eN1) : List Ro)) => mOd (i := 7) (show r_ ∈ ((((D2.flatMap eN1) ++ ((D3.flatMap eN1) ++ []))) : List Ro) from mAr _ (mAl _ h))) (fun _ h => by cases h)))))))))))
           refine ⟨(ST.subR (hS41.se [2, 3]) (R' := (⟨B14, (r_6.flatMap eN0)⟩ :: ⟨B13, (x1.flatMap eN0)⟩ :: ⟨B12, (x.flatMap eN0)⟩ :: ⟨B5, (r_5.Cells.flatMap eN0)⟩ :: ⟨B4, (r_4.Cells.flatMap eN0)⟩ :: ⟨B2, (one_.flatMap eN0)⟩ :: ⟨(aD 0), [vi 1, vi 0, vi 0, vi 0, vi 2]⟩ :: ((D3.flatMap eN1) ++ []))) (sk 0 (sk 1 (sk 2 (sk 3 (sk 4 (sk 5 (sk 6 (suba (fun r_ (h : r_ ∈ ((D3.flatMap eN1) : List Ro)) => mOd (i := 7) (show r_ ∈ (((((lH B14 c14 r_6).flatMap eN1) ++ ((D2.flatMap eN1) ++ ((D3.flatMap eN1) ++ [])))) : List Ro) from mAr _ (mAr _ (mAl _ h)))) (fun _ h => by cases h)))))))))), ?_⟩
           refine rA [11] ?_
           refine rS 72 11 rfl (Ys_append (s := 1) (by' := 16) (i := 0) (nn := words1.length) (c := c8) (k := 1) (len := (words1 ++ [(x2 ++ (dT i2))]).length) (B := B8) (xs := ([(x2 ++ (dT i2))].flatMap encS)) (cs' := ((words1 ++ [(x2 ++ (dT i2))]).flatMap encS)) hS41 K45 K46 K92 K93 rfl (by decide) rfl rfl rfl rfl (fm_lenn (l := words1) encS_len rfl) rfl (hS41.c 4) (fm_lenn (l := [(x2 ++ (dT i2))]) encS_len rfl) (fm_one' (enc := encS) encS_one [(x2 ++ (dT i2))]) (by have := hap1; omega) (by have := hap1; simp only [maxLen]; omega) (fm_app _ _) (app_len (l := words1) (l' := [(x2 ++ (dT i2))]) rfl rfl)) ?_ ?_
           ·rintro _ w_19 ⟨B15, c15, rfl, hS42⟩
            refine ⟨(ST.subR (hS42.se [2, 3]) (R' := (⟨B14, (r_6.flatMap eN0)⟩ :: ⟨B13, (x1.flatMap eN0)⟩ :: ⟨B12, (x.flatMap eN0)⟩ :: ⟨B5, (r_5.Cells.flatMap eN0)⟩ :: ⟨B4, (r_4.Cells.flatMap eN0)⟩ :: ⟨B2, (one_.flatMap eN0)⟩ :: ⟨(aD 0), [vi 1, vi 0, vi 0, vi 0, vi 2]⟩ :: ((D3.flatMap eN1) ++ []))) (sk 0 (sk 1 (sk 2 (sk 3 (sk 4 (sk 5 (sk 6 (suba (fun r_ (h : r_ ∈ ((D3.flatMap eN1) : List Ro)) => mOd (i := 7) (show r_ ∈ (((((lH B14 c14 r_6).flatMap eN1) ++ ((D2.flatMap eN1) ++ ((D3.flatMap eN1) ++ [])))) : List Ro) from mAr _ (mAr _ (mAl _ h)))) (fun _ h => by cases h)))))))))), ?_⟩
            refine rA [15] ?_
            refine rS 76 15 rfl (Ys_append (s := 1) (by' := 24) (i := 1) (nn := list1.length) (c := c9) (k := 1) (len := (list1 ++ ([r_6] : List (List TDyadic))).length) (B := B9) (xs := ((lH B14 c14 r_6).flatMap eN3)) (cs' := ((D2 ++ (lH B14 c14 r_6)).flatMap eN3)) hS42 K41 K8 K94 K77 rfl (by decide) rfl rfl rfl rfl (fm_lenn (l := D2) encD_SDyadic_len (dl_len hD2)) rfl (hS42.c 5) (fm_lenn (l := (lH B14 c14 r_6)) encD_SDyadic_len rfl) (fm_one' (enc := eN3) encD_SDyadic_one (lH B14 c14 r_6)) (by have := hap2; omega) (by have := hap2; simp only [maxLen]; omega) (fm_app _ _) (dl_sum (dl_len hD2) rfl (dl_app hD2 (show List.map Prod.snd (lH B14 c14 r_6) = ([r_6] : List (List TDyadic)) from rfl)))) ?_ ?_
            ·rintro _ w_20 ⟨B16, c16, rfl, hS43⟩
             have ho20 : Org w0 [] [⟨(aD 0), [vi 1, vi 0, vi 0, vi 0, vi 2]⟩] ((D2 ++ (lH B14 c14 r_6)).flatMap eN1) := (forg_app ho8 ho19)
             have hS44 : ST w0 [] _ [⟨B15, 9, ((words1 ++ [(x2 ++ (dT i2))]).flatMap encS), c15 * 1⟩, ⟨B16, 24, ((D2 ++ (lH B14 c14 r_6)).flatMap eN3), c16 * 1⟩, ⟨aD b4, 24, (D3.flatMap eN3), 2 * 1⟩, ⟨aD b5, 24, [.slice B14 r_6.length c14], 1⟩, ⟨aD b6, 9, ([(x2 ++ (dT i2))].flatMap encS), 1 * 1⟩, ⟨aD b7, 24, ((lH B14 c14 r_6).flatMap eN3), 1 * 1⟩] (⟨B14, (r_6.flatMap eN0)⟩ :: ⟨B13, (x1.flatMap eN0)⟩ :: ⟨B12, (x.flatMap eN0)⟩ :: ⟨B5, (r_5.Cells.flatMap eN0)⟩ :: ⟨B4, (r_4.Cells.flatMap eN0)⟩ :: ⟨B2, (one_.flatMap eN0)⟩ :: ⟨(aD 0), [vi 1, vi 0, vi 0, vi 0, vi 2]⟩ :: (((D2 ++ (lH B14 c14 r_6)).flatMap eN1) ++ (((lH B14 c14 r_6).flatMap eN1) ++ ((D3.flatMap eN1) ++ [])))) := ST.subR hS43 (sk 0 (sk 1 (sk 2 (sk 3 (sk 4 (sk 5 (sk 6 (suba (fsub_app (fun r_ (h : r_ ∈ ((D2.flatMap eN1) : List Ro)) => mOd (i := 7) (show r_ ∈ (((((lH B14 c14 r_6).flatMap eN1) ++ ((D2.flatMap eN1) ++ ((D3.flatMap eN1) ++ [])))) : List Ro) from mAr _ (mAl _ h))) (fun r_ (h : r_ ∈ (((lH B14 c14 r_6).flatMap eN1) : List Ro)) => mOd (i := 7) (show r_ ∈ (((((lH B14 c14 r_6).flatMap eN1) ++ ((D2.flatMap eN1) ++ ((D3.flatMap eN1) ++ [])))) : List Ro) from mAl _ h))) (suba (fun r_ (h : r_ ∈ (((lH B14 c14 r_6).flatMap eN1) : List Ro)) => mOd (i := 7) (show r_ ∈ (((((lH B14 c14 r_6).flatMap eN1) ++ ((D2.flatMap eN1) ++ ((D3.flatMap eN1) ++ [])))) : List Ro) from mAl _ h)) (suba (fun r_ (h : r_ ∈ ((D3.flatMap eN1) : List Ro)) => mOd (i := 7) (show r_ ∈ (((((lH B14 c14 r_6).flatMap eN1) ++ ((D2.flatMap eN1) ++ ((D3.flatMap eN1) ++ [])))) : List Ro) from mAr _ (mAr _ (mAl _ h)))) (fun _ h => by cases h)))))))))))
             refine ⟨(ST.subR (hS44.se [2, 3]) (R' := (⟨B14, (r_6.flatMap eN0)⟩ :: ⟨B13, (x1.flatMap eN0)⟩ :: ⟨B12, (x.flatMap eN0)⟩ :: ⟨B5, (r_5.Cells.flatMap eN0)⟩ :: ⟨B4, (r_4.Cells.flatMap eN0)⟩ :: ⟨B2, (one_.flatMap eN0)⟩ :: ⟨(aD 0), [vi 1, vi 0, vi 0, vi 0, vi 2]⟩ :: ((D3.flatMap eN1) ++ []))) (sk 0 (sk 1 (sk 2 (sk 3 (sk 4 (sk 5 (sk 6 (suba (fun r_ (h : r_ ∈ ((D3.flatMap eN1) : List Ro)) => mOd (i := 7) (show r_ ∈ (((((D2 ++ (lH B14 c14 r_6)).flatMap eN1) ++ (((lH B14 c14 r_6).flatMap eN1) ++ ((D3.flatMap eN1) ++ [])))) : List Ro) from mAr _ (mAr _ (mAl _ h)))) (fun _ h => by cases h)))))))))), ?_⟩
             refine ra_q 16 4 (v := .slice B15 ((words1 ++ [(x2 ++ (dT i2))]).length) c15) rfl rfl rfl (by kernel_rfl) (by kernel_rfl) (by kernel_rfl) (ST.subR (hS44.se [2, 3]) (R' := (⟨B14, (r_6.flatMap eN0)⟩ :: ⟨B13, (x1.flatMap eN0)⟩ :: ⟨B12, (x.flatMap eN0)⟩ :: ⟨B5, (r_5.Cells.flatMap eN0)⟩ :: ⟨B4, (r_4.Cells.flatMap eN0)⟩ :: ⟨B2, (one_.flatMap eN0)⟩ :: ⟨(aD 0), [vi 1, vi 0, vi 0, vi 0, vi 2]⟩ :: ((D3.flatMap eN1) ++ []))) (sk 0 (sk 1 (sk 2 (sk 3 (sk 4 (sk 5 (sk 6 (suba (fun r_ (h : r_ ∈ ((D3.flatMap eN1) : List Ro)) => mOd (i := 7) (show r_ ∈ (((((D2 ++ (lH B14 c14 r_6)).flatMap eN1) ++ (((lH B14 c14 r_6).flatMap eN1) ++ ((D3.flatMap eN1) ++ [])))) : List Ro) from mAr _ (mAr _ (mAl _ h)))) (fun _ h => by cases h)))))))))) (fun w' hw' => (yg (.slice B15 ((words1 ++ [(x2 ++ (dT i2))]).length) c15))) ?_
             refine rq 17 5 (v := .slice B16 ((list1 ++ ([r_6] : List (List TDyadic))).length) c16) rfl (ST.subR (hS44.se [2, 3]) (R' := (⟨B14, (r_6.flatMap eN0)⟩ :: ⟨B13, (x1.flatMap eN0)⟩ :: ⟨B12, (x.flatMap eN0)⟩ :: ⟨B5, (r_5.Cells.flatMap eN0)⟩ :: ⟨B4, (r_4.Cells.flatMap eN0)⟩ :: ⟨B2, (one_.flatMap eN0)⟩ :: ⟨(aD 0), [vi 1, vi 0, vi 0, vi 0, vi 2]⟩ :: ((D3.flatMap eN1) ++ []))) (sk 0 (sk 1 (sk 2 (sk 3 (sk 4 (sk 5 (sk 6 (suba (fun r_ (h : r_ ∈ ((D3.flatMap eN1) : List Ro)) => mOd (i := 7) (show r_ ∈ (((((D2 ++ (lH B14 c14 r_6)).flatMap eN1) ++ (((lH B14 c14 r_6).flatMap eN1) ++ ((D3.flatMap eN1) ++ [])))) : List Ro) from mAr _ (mAr _ (mAl _ h)))) (fun _ h => by cases h)))))))))) (fun w' hw' => (yg (.slice B16 ((list1 ++ ([r_6] : List (List TDyadic))).length) c16))) ?_
             refine ra_done (by kernel_rfl) ?_
             have hS45 : ST w0 [] _ [⟨B15, 9, ((words1 ++ [(x2 ++ (dT i2))]).flatMap encS), c15 * 1⟩, ⟨B16, 24, ((D2 ++ (lH B14 c14 r_6)).flatMap eN3), c16 * 1⟩, ⟨aD b4, 24, (D3.flatMap eN3), 2 * 1⟩, ⟨aD b5, 24, [.slice B14 r_6.length c14], 1⟩, ⟨aD b6, 9, ([(x2 ++ (dT i2))].flatMap encS), 1 * 1⟩, ⟨aD b7, 24, ((lH B14 c14 r_6).flatMap eN3), 1 * 1⟩] (⟨B14, (r_6.flatMap eN0)⟩ :: ⟨B13, (x1.flatMap eN0)⟩ :: ⟨B12, (x.flatMap eN0)⟩ :: ⟨B5, (r_5.Cells.flatMap eN0)⟩ :: ⟨B4, (r_4.Cells.flatMap eN0)⟩ :: ⟨B2, (one_.flatMap eN0)⟩ :: ⟨(aD 0), [vi 1, vi 0, vi 0, vi 0, vi 2]⟩ :: (((D2 ++ (lH B14 c14 r_6)).flatMap eN1) ++ ((D3.flatMap eN1) ++ []))) := ST.subR hS44 (sk 0 (sk 1 (sk 2 (sk 3 (sk 4 (sk 5 (sk 6 (suba (fun r_ (h : r_ ∈ (((D2 ++ (lH B14 c14 r_6)).flatMap eN1) : List Ro)) => mOd (i := 7) (show r_ ∈ (((((D2 ++ (lH B14 c14 r_6)).flatMap eN1) ++ (((lH B14 c14 r_6).flatMap eN1) ++ ((D3.flatMap eN1) ++ [])))) : List Ro) from mAl _ h)) (suba (fun r_ (h : r_ ∈ ((D3.flatMap eN1) : List Ro)) => mOd (i := 7) (show r_ ∈ (((((D2 ++ (lH B14 c14 r_6)).flatMap eN1) ++ (((lH B14 c14 r_6).flatMap eN1) ++ ((D3.flatMap eN1) ++ [])))) : List Ro) from mAr _ (mAr _ (mAl _ h)))) (fun _ h => by cases h))))))))))
             exact ⟨B15, c15, B16, c16, (D2 ++ (lH B14 c14 r_6)), (fc rfl (fc rfl (fc (hf2.g 6 2) (fc (hf2.g 7 3) (fc (hf2.g 8 4) (fc (hf2.g 41 5) (fc (hf2.g 42 6) (fc (hf2.g 43 7) fn_)))))))), (dl_app hD2 (show List.map Prod.snd (lH B14 c14 r_6) = ([r_6] : List (List TDyadic)) from rfl)), ho20, (hS45.sel [0, 1, 2] rfl rfl)⟩
            exact aN
           exact aN
          exact aN
         refine rS 75 14 rfl (Ys_bslice (s := 1) (len := 1) (vs := [(0, .slice B14 r_6.length c14)]) (cs := [.slice B14 r_6.length c14]) (zs := [.slice none 0 0]) (m := 1) hS32 K41 K8 K69 rfl (mpc rfl mpn) rfl rfl rfl (by kernel_rfl) (by kernel_rfl) rfl) ?_ ?_
         ·rintro _ w_21 ⟨b7, rfl, hS46⟩
          have hm7 : ∀ r ∈ ((lH B14 c14 r_6).flatMap eN1), r ∈ ((⟨B14, (r_6.flatMap eN0)⟩ :: ⟨B13, (x1.flatMap eN0)⟩ :: ⟨B12, (x.flatMap eN0)⟩ :: ⟨B5, (r_5.Cells.flatMap eN0)⟩ :: ⟨B4, (r_4.Cells.flatMap eN0)⟩ :: ⟨B2, (one_.flatMap eN0)⟩ :: ⟨(aD 0), [vi 1, vi 0, vi 0, vi 0, vi 2]⟩ :: ((D2.flatMap eN1) ++ ((D3.flatMap eN1) ++ []))) : List Ro) := (fsub_cons (sk 0 (fun _ h => by cases h)) fsub_nil)
          have ho21 : Org w0 [] [⟨(aD 0), [vi 1, vi 0, vi 0, vi 0, vi 2]⟩] ((lH B14 c14 r_6).flatMap eN1) := (forg_cons (org_cons ho15 org_nil) forg_nil)
          have hS47 : ST w0 [] _ [⟨B8, 9, (words1.flatMap encS), c8 * 1⟩, ⟨B9, 24, (D2.flatMap eN3), c9 * 1⟩, ⟨aD b4, 24, (D3.flatMap eN3), 2 * 1⟩, ⟨aD b5, 24, [.slice B14 r_6.length c14], 1⟩, ⟨aD b7, 24, ((lH B14 c14 r_6).flatMap eN3), 1 * 1⟩] (⟨B14, (r_6.flatMap eN0)⟩ :: ⟨B13, (x1.flatMap eN0)⟩ :: ⟨B12, (x.flatMap eN0)⟩ :: ⟨B5, (r_5.Cells.flatMap eN0)⟩ :: ⟨B4, (r_4.Cells.flatMap eN0)⟩ :: ⟨B2, (one_.flatMap eN0)⟩ :: ⟨(aD 0), [vi 1, vi 0, vi 0, vi 0, vi 2]⟩ :: (((lH B14 c14 r_6).flatMap eN1) ++ ((D2.flatMap eN1) ++ ((D3.flatMap eN1) ++ [])))) := ST.subR hS46 (sk 0 (sk 1 (sk 2 (sk 3 (sk 4 (sk 5 (sk 6 (suba hm7 (suba (fun r_ (h : r_ ∈ ((D2.flatMap eN1) : List Ro)) => mOd (i := 7) (show r_ ∈ ((((D2.flatMap eN1) ++ ((D3.flatMap eN1) ++ []))) : List Ro) from mAl _ h)) (suba (fun r_ (h : r_ ∈ ((D3.flatMap eN1) : List Ro)) => mOd (i := 7) (show r_ ∈ ((((D2.flatMap eN1) ++ ((D3.flatMap eN1) ++ []))) : List Ro) from mAr _ (mAl _ h))) (fun _ h => by cases h)))))))))))
          refine ⟨(ST.subR (hS47.se [2, 3]) (R' := (⟨B14, (r_6.flatMap eN0)⟩ :: ⟨B13, (x1.flatMap eN0)⟩ :: ⟨B12, (x.flatMap eN0)⟩ :: ⟨B5, (r_5.Cells.flatMap eN0)⟩ :: ⟨B4, (r_4.Cells.flatMap eN0)⟩ :: ⟨B2, (one_.flatMap eN0)⟩ :: ⟨(aD 0), [vi 1, vi 0, vi 0, vi 0, vi 2]⟩ :: ((D3.flatMap eN1) ++ []))) (sk 0 (sk 1 (sk 2 (sk 3 (sk 4 (sk 5 (sk 6 (suba (fun r_ (h : r_ ∈ ((D3.flatMap eN1) : List Ro)) => mOd (i := 7) (show r_ ∈ (((((lH B14 c14 r_6).flatMap eN1) ++ ((D2.flatMap eN1) ++ ((D3.flatMap eN1) ++ [])))) : List Ro) from mAr _ (mAr _ (mAl _ h)))) (fun _ h => by cases h)))))))))), ?_⟩
          refine rA [10] ?_
          refine rS 71 10 rfl (Ys_bslice (s := 1) (len := 1) (vs := [(0, .string (bstr (x2 ++ (dT i2))))]) (cs := [.string (bstr (x2 ++ (dT i2)))]) (zs := [.string (bstr ([] : List UInt8))]) (m := 1) hS47 K45 K46 K91 rfl (mpc rfl mpn) rfl rfl rfl (by kernel_rfl) (by kernel_rfl) rfl) ?_ ?_
          ·rintro _ w_22 ⟨b6, rfl, hS48⟩
           refine ⟨(ST.subR (hS48.se [2, 3]) (R' := (⟨B14, (r_6.flatMap eN0)⟩ :: ⟨B13, (x1.flatMap eN0)⟩ :: ⟨B12, (x.flatMap eN0)⟩ :: ⟨B5, (r_5.Cells.flatMap eN0)⟩ :: ⟨B4, (r_4.Cells.flatMap eN0)⟩ :: ⟨B2, (one_.flatMap eN0)⟩ :: ⟨(aD 0), [vi 1, vi 0, vi 0, vi 0, vi 2]⟩ :: ((D3.flatMap eN1) ++ []))) (sk 0 (sk 1 (sk 2 (sk 3 (sk 4 (sk 5 (sk 6 (suba (fun r_ (h : r_ ∈ ((D3.flatMap eN1) : List Ro)) => mOd (i := 7) (show r_ ∈ (((((lH B14 c14 r_6).flatMap eN1) ++ ((D2.flatMap eN1) ++ ((D3.flatMap eN1) ++ [])))) : List Ro) from mAr _ (mAr _ (mAl _ h)))) (fun _ h => by cases h)))))))))), ?_⟩
           refine rA [11] ?_
           refine rS 72 11 rfl (Ys_append (s := 1) (by' := 16) (i := 0) (nn := words1.length) (c := c8) (k := 1) (len := (words1 ++ [(x2 ++ (dT i2))]).length) (B := B8) (xs := ([(x2 ++ (dT i2))].flatMap encS)) (cs' := ((words1 ++ [(x2 ++ (dT i2))]).flatMap encS)) hS48 K45 K46 K92 K93 rfl (by decide) rfl rfl rfl rfl (fm_lenn (l := words1) encS_len rfl) rfl (hS48.c 5) (fm_lenn (l := [(x2 ++ (dT i2))]) encS_len rfl) (fm_one' (enc := encS) encS_one [(x2 ++ (dT i2))]) (by have := hap1; omega) (by have := hap1; simp only [maxLen]; omega) (fm_app _ _) (app_len (l := words1) (l' := [(x2 ++ (dT i2))]) rfl rfl)) ?_ ?_
           ·rintro _ w_23 ⟨B15, c15, rfl, hS49⟩
            refine ⟨(ST.subR (hS49.se [2, 3]) (R' := (⟨B14, (r_6.flatMap eN0)⟩ :: ⟨B13, (x1.flatMap eN0)⟩ :: ⟨B12, (x.flatMap eN0)⟩ :: ⟨B5, (r_5.Cells.flatMap eN0)⟩ :: ⟨B4, (r_4.Cells.flatMap eN0)⟩ :: ⟨B2, (one_.flatMap eN0)⟩ :: ⟨(aD 0), [vi 1, vi 0, vi 0, vi 0, vi 2]⟩ :: ((D3.flatMap eN1) ++ []))) (sk 0 (sk 1 (sk 2 (sk 3 (sk 4 (sk 5 (sk 6 (suba (fun r_ (h : r_ ∈ ((D3.flatMap eN1) : List Ro)) => mOd (i := 7) (show r_ ∈ (((((lH B14 c14 r_6).flatMap eN1) ++ ((D2.flatMap eN1) ++ ((D3.flatMap eN1) ++ [])))) : List Ro) from mAr _ (mAr _ (mAl _ h)))) (fun _ h => by cases h)))))))))), ?_⟩
            refine rA [15] ?_
            refine rS 76 15 rfl (Ys_append (s := 1) (by' := 24) (i := 1) (nn := list1.length) (c := c9) (k := 1) (len := (list1 ++ ([r_6] : List (List TDyadic))).length) (B := B9) (xs := ((lH B14 c14 r_6).flatMap eN3)) (cs' := ((D2 ++ (lH B14 c14 r_6)).flatMap eN3)) hS49 K41 K8 K94 K77 rfl (by decide) rfl rfl rfl rfl (fm_lenn (l := D2) encD_SDyadic_len (dl_len hD2)) rfl (hS49.c 4) (fm_lenn (l := (lH B14 c14 r_6)) encD_SDyadic_len rfl) (fm_one' (enc := eN3) encD_SDyadic_one (lH B14 c14 r_6)) (by have := hap2; omega) (by have := hap2; simp only [maxLen]; omega) (fm_app _ _) (dl_sum (dl_len hD2) rfl (dl_app hD2 (show List.map Prod.snd (lH B14 c14 r_6) = ([r_6] : List (List TDyadic)) from rfl)))) ?_ ?_
            ·rintro _ w_24 ⟨B16, c16, rfl, hS50⟩
             have ho22 : Org w0 [] [⟨(aD 0), [vi 1, vi 0, vi 0, vi 0, vi 2]⟩] ((D2 ++ (lH B14 c14 r_6)).flatMap eN1) := (forg_app ho8 ho21)
             have hS51 : ST w0 [] _ [⟨B15, 9, ((words1 ++ [(x2 ++ (dT i2))]).flatMap encS), c15 * 1⟩, ⟨B16, 24, ((D2 ++ (lH B14 c14 r_6)).flatMap eN3), c16 * 1⟩, ⟨aD b4, 24, (D3.flatMap eN3), 2 * 1⟩, ⟨aD b5, 24, [.slice B14 r_6.length c14], 1⟩, ⟨aD b7, 24, ((lH B14 c14 r_6).flatMap eN3), 1 * 1⟩, ⟨aD b6, 9, ([(x2 ++ (dT i2))].flatMap encS), 1 * 1⟩] (⟨B14, (r_6.flatMap eN0)⟩ :: ⟨B13, (x1.flatMap eN0)⟩ :: ⟨B12, (x.flatMap eN0)⟩ :: ⟨B5, (r_5.Cells.flatMap eN0)⟩ :: ⟨B4, (r_4.Cells.flatMap eN0)⟩ :: ⟨B2, (one_.flatMap eN0)⟩ :: ⟨(aD 0), [vi 1, vi 0, vi 0, vi 0, vi 2]⟩ :: (((D2 ++ (lH B14 c14 r_6)).flatMap eN1) ++ (((lH B14 c14 r_6).flatMap eN1) ++ ((D3.flatMap eN1) ++ [])))) := ST.subR hS50 (sk 0 (sk 1 (sk 2 (sk 3 (sk 4 (sk 5 (sk 6 (suba (fsub_app (fun r_ (h : r_ ∈ ((D2.flatMap eN1) : List Ro)) => mOd (i := 7) (show r_ ∈ (((((lH B14 c14 r_6).flatMap eN1) ++ ((D2.flatMap eN1) ++ ((D3.flatMap eN1) ++ [])))) : List Ro) from mAr _ (mAl _ h))) (fun r_ (h : r_ ∈ (((lH B14 c14 r_6).flatMap eN1) : List Ro)) => mOd (i := 7) (show r_ ∈ (((((lH B14 c14 r_6).flatMap eN1) ++ ((D2.flatMap eN1) ++ ((D3.flatMap eN1) ++ [])))) : List Ro) from mAl _ h))) (suba (fun r_ (h : r_ ∈ (((lH B14 c14 r_6).flatMap eN1) : List Ro)) => mOd (i := 7) (show r_ ∈ (((((lH B14 c14 r_6).flatMap eN1) ++ ((D2.flatMap eN1) ++ ((D3.flatMap eN1) ++ [])))) : List Ro) from mAl _ h)) (suba (fun r_ (h : r_ ∈ ((D3.flatMap eN1) : List Ro)) => mOd (i := 7) (show r_ ∈ (((((lH B14 c14 r_6).flatMap eN1) ++ ((D2.flatMap eN1) ++ ((D3.flatMap eN1) ++ [])))) : List Ro) from mAr _ (mAr _ (mAl _ h)))) (fun _ h => by cases h)))))))))))
             refine ⟨(ST.subR (hS51.se [2, 3]) (R' := (⟨B14, (r_6.flatMap eN0)⟩ :: ⟨B13, (x1.flatMap eN0)⟩ :: ⟨B12, (x.flatMap eN0)⟩ :: ⟨B5, (r_5.Cells.flatMap eN0)⟩ :: ⟨B4, (r_4.Cells.flatMap eN0)⟩ :: ⟨B2, (one_.flatMap eN0)⟩ :: ⟨(aD 0), [vi 1, vi 0, vi 0, vi 0, vi 2]⟩ :: ((D3.flatMap eN1) ++ []))) (sk 0 (sk 1 (sk 2 (sk 3 (sk 4 (sk 5 (sk 6 (suba (fun r_ (h : r_ ∈ ((D3.flatMap eN1) : List Ro)) => mOd (i := 7) (show r_ ∈ (((((D2 ++ (lH B14 c14 r_6)).flatMap eN1) ++ (((lH B14 c14 r_6).flatMap eN1) ++ ((D3.flatMap eN1) ++ [])))) : List Ro) from mAr _ (mAr _ (mAl _ h)))) (fun _ h => by cases h)))))))))), ?_⟩
             refine ra_q 16 4 (v := .slice B15 ((words1 ++ [(x2 ++ (dT i2))]).length) c15) rfl rfl rfl (by kernel_rfl) (by kernel_rfl) (by kernel_rfl) (ST.subR (hS51.se [2, 3]) (R' := (⟨B14, (r_6.flatMap eN0)⟩ :: ⟨B13, (x1.flatMap eN0)⟩ :: ⟨B12, (x.flatMap eN0)⟩ :: ⟨B5, (r_5.Cells.flatMap eN0)⟩ :: ⟨B4, (r_4.Cells.flatMap eN0)⟩ :: ⟨B2, (one_.flatMap eN0)⟩ :: ⟨(aD 0), [vi 1, vi 0, vi 0, vi 0, vi 2]⟩ :: ((D3.flatMap eN1) ++ []))) (sk 0 (sk 1 (sk 2 (sk 3 (sk 4 (sk 5 (sk 6 (suba (fun r_ (h : r_ ∈ ((D3.flatMap eN1) : List Ro)) => mOd (i := 7) (show r_ ∈ (((((D2 ++ (lH B14 c14 r_6)).flatMap eN1) ++ (((lH B14 c14 r_6).flatMap eN1) ++ ((D3.flatMap eN1) ++ [])))) : List Ro) from mAr _ (mAr _ (mAl _ h)))) (fun _ h => by cases h)))))))))) (fun w' hw' => (yg (.slice B15 ((words1 ++ [(x2 ++ (dT i2))]).length) c15))) ?_
             refine rq 17 5 (v := .slice B16 ((list1 ++ ([r_6] : List (List TDyadic))).length) c16) rfl (ST.subR (hS51.se [2, 3]) (R' := (⟨B14, (r_6.flatMap eN0)⟩ :: ⟨B13, (x1.flatMap eN0)⟩ :: ⟨B12, (x.flatMap eN0)⟩ :: ⟨B5, (r_5.Cells.flatMap eN0)⟩ :: ⟨B4, (r_4.Cells.flatMap eN0)⟩ :: ⟨B2, (one_.flatMap eN0)⟩ :: ⟨(aD 0), [vi 1, vi 0, vi 0, vi 0, vi 2]⟩ :: ((D3.flatMap eN1) ++ []))) (sk 0 (sk 1 (sk 2 (sk 3 (sk 4 (sk 5 (sk 6 (suba (fun r_ (h : r_ ∈ ((D3.flatMap eN1) : List Ro)) => mOd (i := 7) (show r_ ∈ (((((D2 ++ (lH B14 c14 r_6)).flatMap eN1) ++ (((lH B14 c14 r_6).flatMap eN1) ++ ((D3.flatMap eN1) ++ [])))) : List Ro) from mAr _ (mAr _ (mAl _ h)))) (fun _ h => by cases h)))))))))) (fun w' hw' => (yg (.slice B16 ((list1 ++ ([r_6] : List (List TDyadic))).length) c16))) ?_
             refine ra_done (by kernel_rfl) ?_
             have hS52 : ST w0 [] _ [⟨B15, 9, ((words1 ++ [(x2 ++ (dT i2))]).flatMap encS), c15 * 1⟩, ⟨B16, 24, ((D2 ++ (lH B14 c14 r_6)).flatMap eN3), c16 * 1⟩, ⟨aD b4, 24, (D3.flatMap eN3), 2 * 1⟩, ⟨aD b5, 24, [.slice B14 r_6.length c14], 1⟩, ⟨aD b7, 24, ((lH B14 c14 r_6).flatMap eN3), 1 * 1⟩, ⟨aD b6, 9, ([(x2 ++ (dT i2))].flatMap encS), 1 * 1⟩] (⟨B14, (r_6.flatMap eN0)⟩ :: ⟨B13, (x1.flatMap eN0)⟩ :: ⟨B12, (x.flatMap eN0)⟩ :: ⟨B5, (r_5.Cells.flatMap eN0)⟩ :: ⟨B4, (r_4.Cells.flatMap eN0)⟩ :: ⟨B2, (one_.flatMap eN0)⟩ :: ⟨(aD 0), [vi 1, vi 0, vi 0, vi 0, vi 2]⟩ :: (((D2 ++ (lH B14 c14 r_6)).flatMap eN1) ++ ((D3.flatMap eN1) ++ []))) := ST.subR hS51 (sk 0 (sk 1 (sk 2 (sk 3 (sk 4 (sk 5 (sk 6 (suba (fun r_ (h : r_ ∈ (((D2 ++ (lH B14 c14 r_6)).flatMap eN1) : List Ro)) => mOd (i := 7) (show r_ ∈ (((((D2 ++ (lH B14 c14 r_6)).flatMap eN1) ++ (((lH B14 c14 r_6).flatMap eN1) ++ ((D3.flatMap eN1) ++ [])))) : List Ro) from mAl _ h)) (suba (fun r_ (h : r_ ∈ ((D3.flatMap eN1) : List Ro)) => mOd (i := 7) (show r_ ∈ (((((D2 ++ (lH B14 c14 r_6)).flatMap eN1) ++ (((lH B14 c14 r_6).flatMap eN1) ++ ((D3.flatMap eN1) ++ [])))) : List Ro) from mAr _ (mAr _ (mAl _ h)))) (fun _ h => by cases h))))))))))
             exact ⟨B15, c15, B16, c16, (D2 ++ (lH B14 c14 r_6)), (fc rfl (fc rfl (fc (hf2.g 6 2) (fc (hf2.g 7 3) (fc (hf2.g 8 4) (fc (hf2.g 41 5) (fc (hf2.g 42 6) (fc (hf2.g 43 7) fn_)))))))), (dl_app hD2 (show List.map Prod.snd (lH B14 c14 r_6) = ([r_6] : List (List TDyadic)) from rfl)), ho22, (hS52.sel [0, 1, 2] rfl rfl)⟩
            exact aN
           exact aN
          exact aN
         exact aN
        refine rS 75 14 rfl (Ys_bslice (s := 1) (len := 1) (vs := [(0, .slice B14 r_6.length c14)]) (cs := [.slice B14 r_6.length c14]) (zs := [.slice none 0 0]) (m := 1) hS32 K41 K8 K69 rfl (mpc rfl mpn) rfl rfl rfl (by kernel_rfl) (by kernel_rfl) rfl) ?_ ?_
        ·rintro _ w_25 ⟨b7, rfl, hS53⟩
         have hm8 : ∀ r ∈ ((lH B14 c14 r_6).flatMap eN1), r ∈ ((⟨B14, (r_6.flatMap eN0)⟩ :: ⟨B13, (x1.flatMap eN0)⟩ :: ⟨B12, (x.flatMap eN0)⟩ :: ⟨B5, (r_5.Cells.flatMap eN0)⟩ :: ⟨B4, (r_4.Cells.flatMap eN0)⟩ :: ⟨B2, (one_.flatMap eN0)⟩ :: ⟨(aD 0), [vi 1, vi 0, vi 0, vi 0, vi 2]⟩ :: ((D2.flatMap eN1) ++ ((D3.flatMap eN1) ++ []))) : List Ro) := (fsub_cons (sk 0 (fun _ h => by cases h)) fsub_nil)
         have ho23 : Org w0 [] [⟨(aD 0), [vi 1, vi 0, vi 0, vi 0, vi 2]⟩] ((lH B14 c14 r_6).flatMap eN1) := (forg_cons (org_cons ho15 org_nil) forg_nil)
         have hS54 : ST w0 [] _ [⟨B8, 9, (words1.flatMap encS), c8 * 1⟩, ⟨B9, 24, (D2.flatMap eN3), c9 * 1⟩, ⟨aD b4, 24, (D3.flatMap eN3), 2 * 1⟩, ⟨aD b5, 24, [.slice B14 r_6.length c14], 1⟩, ⟨aD b7, 24, ((lH B14 c14 r_6).flatMap eN3), 1 * 1⟩] (⟨B14, (r_6.flatMap eN0)⟩ :: ⟨B13, (x1.flatMap eN0)⟩ :: ⟨B12, (x.flatMap eN0)⟩ :: ⟨B5, (r_5.Cells.flatMap eN0)⟩ :: ⟨B4, (r_4.Cells.flatMap eN0)⟩ :: ⟨B2, (one_.flatMap eN0)⟩ :: ⟨(aD 0), [vi 1, vi 0, vi 0, vi 0, vi 2]⟩ :: (((lH B14 c14 r_6).flatMap eN1) ++ ((D2.flatMap eN1) ++ ((D3.flatMap eN1) ++ [])))) := ST.subR hS53 (sk 0 (sk 1 (sk 2 (sk 3 (sk 4 (sk 5 (sk 6 (suba hm8 (suba (fun r_ (h : r_ ∈ ((D2.flatMap eN1) : List Ro)) => mOd (i := 7) (show r_ ∈ ((((D2.flatMap eN1) ++ ((D3.flatMap eN1) ++ []))) : List Ro) from mAl _ h)) (suba (fun r_ (h : r_ ∈ ((D3.flatMap eN1) : List Ro)) => mOd (i := 7) (show r_ ∈ ((((D2.flatMap eN1) ++ ((D3.flatMap eN1) ++ []))) : List Ro) from mAr _ (mAl _ h))) (fun _ h => by cases h)))))))))))
         refine ⟨(ST.subR (hS54.se [2, 3]) (R' := (⟨B14, (r_6.flatMap eN0)⟩ :: ⟨B13, (x1.flatMap eN0)⟩ :: ⟨B12, (x.flatMap eN0)⟩ :: ⟨B5, (r_5.Cells.flatMap eN0)⟩ :: ⟨B4, (r_4.Cells.flatMap eN0)⟩ :: ⟨B2, (one_.flatMap eN0)⟩ :: ⟨(aD 0), [vi 1, vi 0, vi 0, vi 0, vi 2]⟩ :: ((D3.flatMap eN1) ++ []))) (sk 0 (sk 1 (sk 2 (sk 3 (sk 4 (sk 5 (sk 6 (suba (fun r_ (h : r_ ∈ ((D3.flatMap eN1) : List Ro)) => mOd (i := 7) (show r_ ∈ (((((lH B14 c14 r_6).flatMap eN1) ++ ((D2.flatMap eN1) ++ ((D3.flatMap eN1) ++ [])))) : List Ro) from mAr _ (mAr _ (mAl _ h)))) (fun _ h => by cases h)))))))))), ?_⟩
         refine rA [4] ?_
         refine ra_y 65 (i := 4) (v := .string (bstr x2)) rfl rfl rfl (yl B8 (at_1.toNat * 1) (words1.flatMap encS) (.string (bstr x2)) K132 (hS54.c 0) rfl rfl (gi_at0 encS_len hx2 rfl)) (ST.subR (hS54.se [2, 3]) (R' := (⟨B14, (r_6.flatMap eN0)⟩ :: ⟨B13, (x1.flatMap eN0)⟩ :: ⟨B12, (x.flatMap eN0)⟩ :: ⟨B5, (r_5.Cells.flatMap eN0)⟩ :: ⟨B4, (r_4.Cells.flatMap eN0)⟩ :: ⟨B2, (one_.flatMap eN0)⟩ :: ⟨(aD 0), [vi 1, vi 0, vi 0, vi 0, vi 2]⟩ :: ((D3.flatMap eN1) ++ []))) (sk 0 (sk 1 (sk 2 (sk 3 (sk 4 (sk 5 (sk 6 (suba (fun r_ (h : r_ ∈ ((D3.flatMap eN1) : List Ro)) => mOd (i := 7) (show r_ ∈ (((((lH B14 c14 r_6).flatMap eN1) ++ ((D2.flatMap eN1) ++ ((D3.flatMap eN1) ++ [])))) : List Ro) from mAr _ (mAr _ (mAl _ h)))) (fun _ h => by cases h)))))))))) ?_ ?_
         ·skip
          refine ra_q 9 70 (v := .string (bstr (x2 ++ (dT i2)))) rfl rfl rfl (by kernel_rfl) (by kernel_rfl) (by kernel_rfl) (ST.subR (hS54.se [2, 3]) (R' := (⟨B14, (r_6.flatMap eN0)⟩ :: ⟨B13, (x1.flatMap eN0)⟩ :: ⟨B12, (x.flatMap eN0)⟩ :: ⟨B5, (r_5.Cells.flatMap eN0)⟩ :: ⟨B4, (r_4.Cells.flatMap eN0)⟩ :: ⟨B2, (one_.flatMap eN0)⟩ :: ⟨(aD 0), [vi 1, vi 0, vi 0, vi 0, vi 2]⟩ :: ((D3.flatMap eN1) ++ []))) (sk 0 (sk 1 (sk 2 (sk 3 (sk 4 (sk 5 (sk 6 (suba (fun r_ (h : r_ ∈ ((D3.flatMap eN1) : List Ro)) => mOd (i := 7) (show r_ ∈ (((((lH B14 c14 r_6).flatMap eN1) ++ ((D2.flatMap eN1) ++ ((D3.flatMap eN1) ++ [])))) : List Ro) from mAr _ (mAr _ (mAl _ h)))) (fun _ h => by cases h)))))))))) (fun w' hw' => (Y_sadd (a := x2) (b := (dT i2)) rfl rfl rfl hsa)) ?_
          refine rA [10] ?_
          refine rS 71 10 rfl (Ys_bslice (s := 1) (len := 1) (vs := [(0, .string (bstr (x2 ++ (dT i2))))]) (cs := [.string (bstr (x2 ++ (dT i2)))]) (zs := [.string (bstr ([] : List UInt8))]) (m := 1) hS54 K45 K46 K91 rfl (mpc rfl mpn) rfl rfl rfl (by kernel_rfl) (by kernel_rfl) rfl) ?_ ?_
          ·rintro _ w_26 ⟨b6, rfl, hS55⟩
           refine ⟨(ST.subR (hS55.se [2, 3]) (R' := (⟨B14, (r_6.flatMap eN0)⟩ :: ⟨B13, (x1.flatMap eN0)⟩ :: ⟨B12, (x.flatMap eN0)⟩ :: ⟨B5, (r_5.Cells.flatMap eN0)⟩ :: ⟨B4, (r_4.Cells.flatMap eN0)⟩ :: ⟨B2, (one_.flatMap eN0)⟩ :: ⟨(aD 0), [vi 1, vi 0, vi 0, vi 0, vi 2]⟩ :: ((D3.flatMap eN1) ++ []))) (sk 0 (sk 1 (sk 2 (sk 3 (sk 4 (sk 5 (sk 6 (suba (fun r_ (h : r_ ∈ ((D3.flatMap eN1) : List Ro)) => mOd (i := 7) (show r_ ∈ (((((lH B14 c14 r_6).flatMap eN1) ++ ((D2.flatMap eN1) ++ ((D3.flatMap eN1) ++ [])))) : List Ro) from mAr _ (mAr _ (mAl _ h)))) (fun _ h => by cases h)))))))))), ?_⟩
           refine rA [11] ?_
           refine rS 72 11 rfl (Ys_append (s := 1) (by' := 16) (i := 0) (nn := words1.length) (c := c8) (k := 1) (len := (words1 ++ [(x2 ++ (dT i2))]).length) (B := B8) (xs := ([(x2 ++ (dT i2))].flatMap encS)) (cs' := ((words1 ++ [(x2 ++ (dT i2))]).flatMap encS)) hS55 K45 K46 K92 K93 rfl (by decide) rfl rfl rfl rfl (fm_lenn (l := words1) encS_len rfl) rfl (hS55.c 5) (fm_lenn (l := [(x2 ++ (dT i2))]) encS_len rfl) (fm_one' (enc := encS) encS_one [(x2 ++ (dT i2))]) (by have := hap1; omega) (by have := hap1; simp only [maxLen]; omega) (fm_app _ _) (app_len (l := words1) (l' := [(x2 ++ (dT i2))]) rfl rfl)) ?_ ?_
           ·rintro _ w_27 ⟨B15, c15, rfl, hS56⟩
            refine ⟨(ST.subR (hS56.se [2, 3]) (R' := (⟨B14, (r_6.flatMap eN0)⟩ :: ⟨B13, (x1.flatMap eN0)⟩ :: ⟨B12, (x.flatMap eN0)⟩ :: ⟨B5, (r_5.Cells.flatMap eN0)⟩ :: ⟨B4, (r_4.Cells.flatMap eN0)⟩ :: ⟨B2, (one_.flatMap eN0)⟩ :: ⟨(aD 0), [vi 1, vi 0, vi 0, vi 0, vi 2]⟩ :: ((D3.flatMap eN1) ++ []))) (sk 0 (sk 1 (sk 2 (sk 3 (sk 4 (sk 5 (sk 6 (suba (fun r_ (h : r_ ∈ ((D3.flatMap eN1) : List Ro)) => mOd (i := 7) (show r_ ∈ (((((lH B14 c14 r_6).flatMap eN1) ++ ((D2.flatMap eN1) ++ ((D3.flatMap eN1) ++ [])))) : List Ro) from mAr _ (mAr _ (mAl _ h)))) (fun _ h => by cases h)))))))))), ?_⟩
            refine rA [15] ?_
            refine rS 76 15 rfl (Ys_append (s := 1) (by' := 24) (i := 1) (nn := list1.length) (c := c9) (k := 1) (len := (list1 ++ ([r_6] : List (List TDyadic))).length) (B := B9) (xs := ((lH B14 c14 r_6).flatMap eN3)) (cs' := ((D2 ++ (lH B14 c14 r_6)).flatMap eN3)) hS56 K41 K8 K94 K77 rfl (by decide) rfl rfl rfl rfl (fm_lenn (l := D2) encD_SDyadic_len (dl_len hD2)) rfl (hS56.c 4) (fm_lenn (l := (lH B14 c14 r_6)) encD_SDyadic_len rfl) (fm_one' (enc := eN3) encD_SDyadic_one (lH B14 c14 r_6)) (by have := hap2; omega) (by have := hap2; simp only [maxLen]; omega) (fm_app _ _) (dl_sum (dl_len hD2) rfl (dl_app hD2 (show List.map Prod.snd (lH B14 c14 r_6) = ([r_6] : List (List TDyadic)) from rfl)))) ?_ ?_
            ·rintro _ w_28 ⟨B16, c16, rfl, hS57⟩
             have ho24 : Org w0 [] [⟨(aD 0), [vi 1, vi 0, vi 0, vi 0, vi 2]⟩] ((D2 ++ (lH B14 c14 r_6)).flatMap eN1) := (forg_app ho8 ho23)
             have hS58 : ST w0 [] _ [⟨B15, 9, ((words1 ++ [(x2 ++ (dT i2))]).flatMap encS), c15 * 1⟩, ⟨B16, 24, ((D2 ++ (lH B14 c14 r_6)).flatMap eN3), c16 * 1⟩, ⟨aD b4, 24, (D3.flatMap eN3), 2 * 1⟩, ⟨aD b5, 24, [.slice B14 r_6.length c14], 1⟩, ⟨aD b7, 24, ((lH B14 c14 r_6).flatMap eN3), 1 * 1⟩, ⟨aD b6, 9, ([(x2 ++ (dT i2))].flatMap encS), 1 * 1⟩] (⟨B14, (r_6.flatMap eN0)⟩ :: ⟨B13, (x1.flatMap eN0)⟩ :: ⟨B12, (x.flatMap eN0)⟩ :: ⟨B5, (r_5.Cells.flatMap eN0)⟩ :: ⟨B4, (r_4.Cells.flatMap eN0)⟩ :: ⟨B2, (one_.flatMap eN0)⟩ :: ⟨(aD 0), [vi 1, vi 0, vi 0, vi 0, vi 2]⟩ :: (((D2 ++ (lH B14 c14 r_6)).flatMap eN1) ++ (((lH B14 c14 r_6).flatMap eN1) ++ ((D3.flatMap eN1) ++ [])))) := ST.subR hS57 (sk 0 (sk 1 (sk 2 (sk 3 (sk 4 (sk 5 (sk 6 (suba (fsub_app (fun r_ (h : r_ ∈ ((D2.flatMap eN1) : List Ro)) => mOd (i := 7) (show r_ ∈ (((((lH B14 c14 r_6).flatMap eN1) ++ ((D2.flatMap eN1) ++ ((D3.flatMap eN1) ++ [])))) : List Ro) from mAr _ (mAl _ h))) (fun r_ (h : r_ ∈ (((lH B14 c14 r_6).flatMap eN1) : List Ro)) => mOd (i := 7) (show r_ ∈ (((((lH B14 c14 r_6).flatMap eN1) ++ ((D2.flatMap eN1) ++ ((D3.flatMap eN1) ++ [])))) : List Ro) from mAl _ h))) (suba (fun r_ (h : r_ ∈ (((lH B14 c14 r_6).flatMap eN1) : List Ro)) => mOd (i := 7) (show r_ ∈ (((((lH B14 c14 r_6).flatMap eN1) ++ ((D2.flatMap eN1) ++ ((D3.flatMap eN1) ++ [])))) : List Ro) from mAl _ h)) (suba (fun r_ (h : r_ ∈ ((D3.flatMap eN1) : List Ro)) => mOd (i := 7) (show r_ ∈ (((((lH B14 c14 r_6).flatMap eN1) ++ ((D2.flatMap eN1) ++ ((D3.flatMap eN1) ++ [])))) : List Ro) from mAr _ (mAr _ (mAl _ h)))) (fun _ h => by cases h)))))))))))
             refine ⟨(ST.subR (hS58.se [2, 3]) (R' := (⟨B14, (r_6.flatMap eN0)⟩ :: ⟨B13, (x1.flatMap eN0)⟩ :: ⟨B12, (x.flatMap eN0)⟩ :: ⟨B5, (r_5.Cells.flatMap eN0)⟩ :: ⟨B4, (r_4.Cells.flatMap eN0)⟩ :: ⟨B2, (one_.flatMap eN0)⟩ :: ⟨(aD 0), [vi 1, vi 0, vi 0, vi 0, vi 2]⟩ :: ((D3.flatMap eN1) ++ []))) (sk 0 (sk 1 (sk 2 (sk 3 (sk 4 (sk 5 (sk 6 (suba (fun r_ (h : r_ ∈ ((D3.flatMap eN1) : List Ro)) => mOd (i := 7) (show r_ ∈ (((((D2 ++ (lH B14 c14 r_6)).flatMap eN1) ++ (((lH B14 c14 r_6).flatMap eN1) ++ ((D3.flatMap eN1) ++ [])))) : List Ro) from mAr _ (mAr _ (mAl _ h)))) (fun _ h => by cases h)))))))))), ?_⟩
             refine ra_q 16 4 (v := .slice B15 ((words1 ++ [(x2 ++ (dT i2))]).length) c15) rfl rfl rfl (by kernel_rfl) (by kernel_rfl) (by kernel_rfl) (ST.subR (hS58.se [2, 3]) (R' := (⟨B14, (r_6.flatMap eN0)⟩ :: ⟨B13, (x1.flatMap eN0)⟩ :: ⟨B12, (x.flatMap eN0)⟩ :: ⟨B5, (r_5.Cells.flatMap eN0)⟩ :: ⟨B4, (r_4.Cells.flatMap eN0)⟩ :: ⟨B2, (one_.flatMap eN0)⟩ :: ⟨(aD 0), [vi 1, vi 0, vi 0, vi 0, vi 2]⟩ :: ((D3.flatMap eN1) ++ []))) (sk 0 (sk 1 (sk 2 (sk 3 (sk 4 (sk 5 (sk 6 (suba (fun r_ (h : r_ ∈ ((D3.flatMap eN1) : List Ro)) => mOd (i := 7) (show r_ ∈ (((((D2 ++ (lH B14 c14 r_6)).flatMap eN1) ++ (((lH B14 c14 r_6).flatMap eN1) ++ ((D3.flatMap eN1) ++ [])))) : List Ro) from mAr _ (mAr _ (mAl _ h)))) (fun _ h => by cases h)))))))))) (fun w' hw' => (yg (.slice B15 ((words1 ++ [(x2 ++ (dT i2))]).length) c15))) ?_
             refine rq 17 5 (v := .slice B16 ((list1 ++ ([r_6] : List (List TDyadic))).length) c16) rfl (ST.subR (hS58.se [2, 3]) (R' := (⟨B14, (r_6.flatMap eN0)⟩ :: ⟨B13, (x1.flatMap eN0)⟩ :: ⟨B12, (x.flatMap eN0)⟩ :: ⟨B5, (r_5.Cells.flatMap eN0)⟩ :: ⟨B4, (r_4.Cells.flatMap eN0)⟩ :: ⟨B2, (one_.flatMap eN0)⟩ :: ⟨(aD 0), [vi 1, vi 0, vi 0, vi 0, vi 2]⟩ :: ((D3.flatMap eN1) ++ []))) (sk 0 (sk 1 (sk 2 (sk 3 (sk 4 (sk 5 (sk 6 (suba (fun r_ (h : r_ ∈ ((D3.flatMap eN1) : List Ro)) => mOd (i := 7) (show r_ ∈ (((((D2 ++ (lH B14 c14 r_6)).flatMap eN1) ++ (((lH B14 c14 r_6).flatMap eN1) ++ ((D3.flatMap eN1) ++ [])))) : List Ro) from mAr _ (mAr _ (mAl _ h)))) (fun _ h => by cases h)))))))))) (fun w' hw' => (yg (.slice B16 ((list1 ++ ([r_6] : List (List TDyadic))).length) c16))) ?_
             refine ra_done (by kernel_rfl) ?_
             have hS59 : ST w0 [] _ [⟨B15, 9, ((words1 ++ [(x2 ++ (dT i2))]).flatMap encS), c15 * 1⟩, ⟨B16, 24, ((D2 ++ (lH B14 c14 r_6)).flatMap eN3), c16 * 1⟩, ⟨aD b4, 24, (D3.flatMap eN3), 2 * 1⟩, ⟨aD b5, 24, [.slice B14 r_6.length c14], 1⟩, ⟨aD b7, 24, ((lH B14 c14 r_6).flatMap eN3), 1 * 1⟩, ⟨aD b6, 9, ([(x2 ++ (dT i2))].flatMap encS), 1 * 1⟩] (⟨B14, (r_6.flatMap eN0)⟩ :: ⟨B13, (x1.flatMap eN0)⟩ :: ⟨B12, (x.flatMap eN0)⟩ :: ⟨B5, (r_5.Cells.flatMap eN0)⟩ :: ⟨B4, (r_4.Cells.flatMap eN0)⟩ :: ⟨B2, (one_.flatMap eN0)⟩ :: ⟨(aD 0), [vi 1, vi 0, vi 0, vi 0, vi 2]⟩ :: (((D2 ++ (lH B14 c14 r_6)).flatMap eN1) ++ ((D3.flatMap eN1) ++ []))) := ST.subR hS58 (sk 0 (sk 1 (sk 2 (sk 3 (sk 4 (sk 5 (sk 6 (suba (fun r_ (h : r_ ∈ (((D2 ++ (lH B14 c14 r_6)).flatMap eN1) : List Ro)) => mOd (i := 7) (show r_ ∈ (((((D2 ++ (lH B14 c14 r_6)).flatMap eN1) ++ (((lH B14 c14 r_6).flatMap eN1) ++ ((D3.flatMap eN1) ++ [])))) : List Ro) from mAl _ h)) (suba (fun r_ (h : r_ ∈ ((D3.flatMap eN1) : List Ro)) => mOd (i := 7) (show r_ ∈ (((((D2 ++ (lH B14 c14 r_6)).flatMap eN1) ++ (((lH B14 c14 r_6).flatMap eN1) ++ ((D3.flatMap eN1) ++ [])))) : List Ro) from mAr _ (mAr _ (mAl _ h)))) (fun _ h => by cases h))))))))))
             exact ⟨B15, c15, B16, c16, (D2 ++ (lH B14 c14 r_6)), (fc rfl (fc rfl (fc (hf2.g 6 2) (fc (hf2.g 7 3) (fc (hf2.g 8 4) (fc (hf2.g 41 5) (fc (hf2.g 42 6) (fc (hf2.g 43 7) fn_)))))))), (dl_app hD2 (show List.map Prod.snd (lH B14 c14 r_6) = ([r_6] : List (List TDyadic)) from rfl)), ho24, (hS59.sel [0, 1, 2] rfl rfl)⟩
            exact aN
           exact aN
          exact aN
         exact aN
        exact aN
       refine rS 75 14 rfl (Ys_bslice (s := 1) (len := 1) (vs := [(0, .slice B14 r_6.length c14)]) (cs := [.slice B14 r_6.length c14]) (zs := [.slice none 0 0]) (m := 1) hS32 K41 K8 K69 rfl (mpc rfl mpn) rfl rfl rfl (by kernel_rfl) (by kernel_rfl) rfl) ?_ ?_
       ·rintro _ w_29 ⟨b7, rfl, hS60⟩
        have hm9 : ∀ r ∈ ((lH B14 c14 r_6).flatMap eN1), r ∈ ((⟨B14, (r_6.flatMap eN0)⟩ :: ⟨B13, (x1.flatMap eN0)⟩ :: ⟨B12, (x.flatMap eN0)⟩ :: ⟨B5, (r_5.Cells.flatMap eN0)⟩ :: ⟨B4, (r_4.Cells.flatMap eN0)⟩ :: ⟨B2, (one_.flatMap eN0)⟩ :: ⟨(aD 0), [vi 1, vi 0, vi 0, vi 0, vi 2]⟩ :: ((D2.flatMap eN1) ++ ((D3.flatMap eN1) ++ []))) : List Ro) := (fsub_cons (sk 0 (fun _ h => by cases h)) fsub_nil)
        have ho25 : Org w0 [] [⟨(aD 0), [vi 1, vi 0, vi 0, vi 0, vi 2]⟩] ((lH B14 c14 r_6).flatMap eN1) := (forg_cons (org_cons ho15 org_nil) forg_nil)
        have hS61 : ST w0 [] _ [⟨B8, 9, (words1.flatMap encS), c8 * 1⟩, ⟨B9, 24, (D2.flatMap eN3), c9 * 1⟩, ⟨aD b4, 24, (D3.flatMap eN3), 2 * 1⟩, ⟨aD b5, 24, [.slice B14 r_6.length c14], 1⟩, ⟨aD b7, 24, ((lH B14 c14 r_6).flatMap eN3), 1 * 1⟩] (⟨B14, (r_6.flatMap eN0)⟩ :: ⟨B13, (x1.flatMap eN0)⟩ :: ⟨B12, (x.flatMap eN0)⟩ :: ⟨B5, (r_5.Cells.flatMap eN0)⟩ :: ⟨B4, (r_4.Cells.flatMap eN0)⟩ :: ⟨B2, (one_.flatMap eN0)⟩ :: ⟨(aD 0), [vi 1, vi 0, vi 0, vi 0, vi 2]⟩ :: (((lH B14 c14 r_6).flatMap eN1) ++ ((D2.flatMap eN1) ++ ((D3.flatMap eN1) ++ [])))) := ST.subR hS60 (sk 0 (sk 1 (sk 2 (sk 3 (sk 4 (sk 5 (sk 6 (suba hm9 (suba (fun r_ (h : r_ ∈ ((D2.flatMap eN1) : List Ro)) => mOd (i := 7) (show r_ ∈ ((((D2.flatMap eN1) ++ ((D3.flatMap eN1) ++ []))) : List Ro) from mAl _ h)) (suba (fun r_ (h : r_ ∈ ((D3.flatMap eN1) : List Ro)) => mOd (i := 7) (show r_ ∈ ((((D2.flatMap eN1) ++ ((D3.flatMap eN1) ++ []))) : List Ro) from mAr _ (mAl _ h))) (fun _ h => by cases h)))))))))))
        refine ⟨(ST.subR (hS61.se [2, 3]) (R' := (⟨B14, (r_6.flatMap eN0)⟩ :: ⟨B13, (x1.flatMap eN0)⟩ :: ⟨B12, (x.flatMap eN0)⟩ :: ⟨B5, (r_5.Cells.flatMap eN0)⟩ :: ⟨B4, (r_4.Cells.flatMap eN0)⟩ :: ⟨B2, (one_.flatMap eN0)⟩ :: ⟨(aD 0), [vi 1, vi 0, vi 0, vi 0, vi 2]⟩ :: ((D3.flatMap eN1) ++ []))) (sk 0 (sk 1 (sk 2 (sk 3 (sk 4 (sk 5 (sk 6 (suba (fun r_ (h : r_ ∈ ((D3.flatMap eN1) : List Ro)) => mOd (i := 7) (show r_ ∈ (((((lH B14 c14 r_6).flatMap eN1) ++ ((D2.flatMap eN1) ++ ((D3.flatMap eN1) ++ [])))) : List Ro) from mAr _ (mAr _ (mAl _ h)))) (fun _ h => by cases h)))))))))), ?_⟩
        refine rA [3] ?_
        refine ra_y 64 (i := 3) (v := pt B8 (at_1.toNat * 1)) rfl rfl rfl (Y_index (B := B8) (m := words1.length) (c := c8) (k := .i64) (i := at_1) K45 K46 rfl rfl rfl (gi_isSome encS_len rfl (hS61.c 0) hx2) (getI_nn hx2) (getI_ltI hx2 rfl)) (ST.subR (hS61.se [2, 3]) (R' := (⟨B14, (r_6.flatMap eN0)⟩ :: ⟨B13, (x1.flatMap eN0)⟩ :: ⟨B12, (x.flatMap eN0)⟩ :: ⟨B5, (r_5.Cells.flatMap eN0)⟩ :: ⟨B4, (r_4.Cells.flatMap eN0)⟩ :: ⟨B2, (one_.flatMap eN0)⟩ :: ⟨(aD 0), [vi 1, vi 0, vi 0, vi 0, vi 2]⟩ :: ((D3.flatMap eN1) ++ []))) (sk 0 (sk 1 (sk 2 (sk 3 (sk 4 (sk 5 (sk 6 (suba (fun r_ (h : r_ ∈ ((D3.flatMap eN1) : List Ro)) => mOd (i := 7) (show r_ ∈ (((((lH B14 c14 r_6).flatMap eN1) ++ ((D2.flatMap eN1) ++ ((D3.flatMap eN1) ++ [])))) : List Ro) from mAr _ (mAr _ (mAl _ h)))) (fun _ h => by cases h)))))))))) ?_ ?_
        ·skip
         refine rA [4] ?_
         refine ra_y 65 (i := 4) (v := .string (bstr x2)) rfl rfl rfl (yl B8 (at_1.toNat * 1) (words1.flatMap encS) (.string (bstr x2)) K132 (hS61.c 0) rfl rfl (gi_at0 encS_len hx2 rfl)) (ST.subR (hS61.se [2, 3]) (R' := (⟨B14, (r_6.flatMap eN0)⟩ :: ⟨B13, (x1.flatMap eN0)⟩ :: ⟨B12, (x.flatMap eN0)⟩ :: ⟨B5, (r_5.Cells.flatMap eN0)⟩ :: ⟨B4, (r_4.Cells.flatMap eN0)⟩ :: ⟨B2, (one_.flatMap eN0)⟩ :: ⟨(aD 0), [vi 1, vi 0, vi 0, vi 0, vi 2]⟩ :: ((D3.flatMap eN1) ++ []))) (sk 0 (sk 1 (sk 2 (sk 3 (sk 4 (sk 5 (sk 6 (suba (fun r_ (h : r_ ∈ ((D3.flatMap eN1) : List Ro)) => mOd (i := 7) (show r_ ∈ (((((lH B14 c14 r_6).flatMap eN1) ++ ((D2.flatMap eN1) ++ ((D3.flatMap eN1) ++ [])))) : List Ro) from mAr _ (mAr _ (mAl _ h)))) (fun _ h => by cases h)))))))))) ?_ ?_
         ·skip
          refine ra_q 9 70 (v := .string (bstr (x2 ++ (dT i2)))) rfl rfl rfl (by kernel_rfl) (by kernel_rfl) (by kernel_rfl) (ST.subR (hS61.se [2, 3]) (R' := (⟨B14, (r_6.flatMap eN0)⟩ :: ⟨B13, (x1.flatMap eN0)⟩ :: ⟨B12, (x.flatMap eN0)⟩ :: ⟨B5, (r_5.Cells.flatMap eN0)⟩ :: ⟨B4, (r_4.Cells.flatMap eN0)⟩ :: ⟨B2, (one_.flatMap eN0)⟩ :: ⟨(aD 0), [vi 1, vi 0, vi 0, vi 0, vi 2]⟩ :: ((D3.flatMap eN1) ++ []))) (sk 0 (sk 1 (sk 2 (sk 3 (sk 4 (sk 5 (sk 6 (suba (fun r_ (h : r_ ∈ ((D3.flatMap eN1) : List Ro)) => mOd (i := 7) (show r_ ∈ (((((lH B14 c14 r_6).flatMap eN1) ++ ((D2.flatMap eN1) ++ ((D3.flatMap eN1) ++ [])))) : List Ro) from mAr _ (mAr _ (mAl _ h)))) (fun _ h => by cases h)))))))))) (fun w' hw' => (Y_sadd (a := x2) (b := (dT i2)) rfl rfl rfl hsa)) ?_
          refine rA [10] ?_
          refine rS 71 10 rfl (Ys_bslice (s := 1) (len := 1) (vs := [(0, .string (bstr (x2 ++ (dT i2))))]) (cs := [.string (bstr (x2 ++ (dT i2)))]) (zs := [.string (bstr ([] : List UInt8))]) (m := 1) hS61 K45 K46 K91 rfl (mpc rfl mpn) rfl rfl rfl (by kernel_rfl) (by kernel_rfl) rfl) ?_ ?_
          ·rintro _ w_30 ⟨b6, rfl, hS62⟩
           refine ⟨(ST.subR (hS62.se [2, 3]) (R' := (⟨B14, (r_6.flatMap eN0)⟩ :: ⟨B13, (x1.flatMap eN0)⟩ :: ⟨B12, (x.flatMap eN0)⟩ :: ⟨B5, (r_5.Cells.flatMap eN0)⟩ :: ⟨B4, (r_4.Cells.flatMap eN0)⟩ :: ⟨B2, (one_.flatMap eN0)⟩ :: ⟨(aD 0), [vi 1, vi 0, vi 0, vi 0, vi 2]⟩ :: ((D3.flatMap eN1) ++ []))) (sk 0 (sk 1 (sk 2 (sk 3 (sk 4 (sk 5 (sk 6 (suba (fun r_ (h : r_ ∈ ((D3.flatMap eN1) : List Ro)) => mOd (i := 7) (show r_ ∈ (((((lH B14 c14 r_6).flatMap eN1) ++ ((D2.flatMap eN1) ++ ((D3.flatMap eN1) ++ [])))) : List Ro) from mAr _ (mAr _ (mAl _ h)))) (fun _ h => by cases h)))))))))), ?_⟩
           refine rA [11] ?_
           refine rS 72 11 rfl (Ys_append (s := 1) (by' := 16) (i := 0) (nn := words1.length) (c := c8) (k := 1) (len := (words1 ++ [(x2 ++ (dT i2))]).length) (B := B8) (xs := ([(x2 ++ (dT i2))].flatMap encS)) (cs' := ((words1 ++ [(x2 ++ (dT i2))]).flatMap encS)) hS62 K45 K46 K92 K93 rfl (by decide) rfl rfl rfl rfl (fm_lenn (l := words1) encS_len rfl) rfl (hS62.c 5) (fm_lenn (l := [(x2 ++ (dT i2))]) encS_len rfl) (fm_one' (enc := encS) encS_one [(x2 ++ (dT i2))]) (by have := hap1; omega) (by have := hap1; simp only [maxLen]; omega) (fm_app _ _) (app_len (l := words1) (l' := [(x2 ++ (dT i2))]) rfl rfl)) ?_ ?_
           ·rintro _ w_31 ⟨B15, c15, rfl, hS63⟩
            refine ⟨(ST.subR (hS63.se [2, 3]) (R' := (⟨B14, (r_6.flatMap eN0)⟩ :: ⟨B13, (x1.flatMap eN0)⟩ :: ⟨B12, (x.flatMap eN0)⟩ :: ⟨B5, (r_5.Cells.flatMap eN0)⟩ :: ⟨B4, (r_4.Cells.flatMap eN0)⟩ :: ⟨B2, (one_.flatMap eN0)⟩ :: ⟨(aD 0), [vi 1, vi 0, vi 0, vi 0, vi 2]⟩ :: ((D3.flatMap eN1) ++ []))) (sk 0 (sk 1 (sk 2 (sk 3 (sk 4 (sk 5 (sk 6 (suba (fun r_ (h : r_ ∈ ((D3.flatMap eN1) : List Ro)) => mOd (i := 7) (show r_ ∈ (((((lH B14 c14 r_6).flatMap eN1) ++ ((D2.flatMap eN1) ++ ((D3.flatMap eN1) ++ [])))) : List Ro) from mAr _ (mAr _ (mAl _ h)))) (fun _ h => by cases h)))))))))), ?_⟩
            refine rA [15] ?_
            refine rS 76 15 rfl (Ys_append (s := 1) (by' := 24) (i := 1) (nn := list1.length) (c := c9) (k := 1) (len := (list1 ++ ([r_6] : List (List TDyadic))).length) (B := B9) (xs := ((lH B14 c14 r_6).flatMap eN3)) (cs' := ((D2 ++ (lH B14 c14 r_6)).flatMap eN3)) hS63 K41 K8 K94 K77 rfl (by decide) rfl rfl rfl rfl (fm_lenn (l := D2) encD_SDyadic_len (dl_len hD2)) rfl (hS63.c 4) (fm_lenn (l := (lH B14 c14 r_6)) encD_SDyadic_len rfl) (fm_one' (enc := eN3) encD_SDyadic_one (lH B14 c14 r_6)) (by have := hap2; omega) (by have := hap2; simp only [maxLen]; omega) (fm_app _ _) (dl_sum (dl_len hD2) rfl (dl_app hD2 (show List.map Prod.snd (lH B14 c14 r_6) = ([r_6] : List (List TDyadic)) from rfl)))) ?_ ?_
            ·rintro _ w_32 ⟨B16, c16, rfl, hS64⟩
             have ho26 : Org w0 [] [⟨(aD 0), [vi 1, vi 0, vi 0, vi 0, vi 2]⟩] ((D2 ++ (lH B14 c14 r_6)).flatMap eN1) := (forg_app ho8 ho25)
             have hS65 : ST w0 [] _ [⟨B15, 9, ((words1 ++ [(x2 ++ (dT i2))]).flatMap encS), c15 * 1⟩, ⟨B16, 24, ((D2 ++ (lH B14 c14 r_6)).flatMap eN3), c16 * 1⟩, ⟨aD b4, 24, (D3.flatMap eN3), 2 * 1⟩, ⟨aD b5, 24, [.slice B14 r_6.length c14], 1⟩, ⟨aD b7, 24, ((lH B14 c14 r_6).flatMap eN3), 1 * 1⟩, ⟨aD b6, 9, ([(x2 ++ (dT i2))].flatMap encS), 1 * 1⟩] (⟨B14, (r_6.flatMap eN0)⟩ :: ⟨B13, (x1.flatMap eN0)⟩ :: ⟨B12, (x.flatMap eN0)⟩ :: ⟨B5, (r_5.Cells.flatMap eN0)⟩ :: ⟨B4, (r_4.Cells.flatMap eN0)⟩ :: ⟨B2, (one_.flatMap eN0)⟩ :: ⟨(aD 0), [vi 1, vi 0, vi 0, vi 0, vi 2]⟩ :: (((D2 ++ (lH B14 c14 r_6)).flatMap eN1) ++ (((lH B14 c14 r_6).flatMap eN1) ++ ((D3.flatMap eN1) ++ [])))) := ST.subR hS64 (sk 0 (sk 1 (sk 2 (sk 3 (sk 4 (sk 5 (sk 6 (suba (fsub_app (fun r_ (h : r_ ∈ ((D2.flatMap eN1) : List Ro)) => mOd (i := 7) (show r_ ∈ (((((lH B14 c14 r_6).flatMap eN1) ++ ((D2.flatMap eN1) ++ ((D3.flatMap eN1) ++ [])))) : List Ro) from mAr _ (mAl _ h))) (fun r_ (h : r_ ∈ (((lH B14 c14 r_6).flatMap eN1) : List Ro)) => mOd (i := 7) (show r_ ∈ (((((lH B14 c14 r_6).flatMap eN1) ++ ((D2.flatMap eN1) ++ ((D3.flatMap eN1) ++ [])))) : List Ro) from mAl _ h))) (suba (fun r_ (h : r_ ∈ (((lH B14 c14 r_6).flatMap eN1) : List Ro)) => mOd (i := 7) (show r_ ∈ (((((lH B14 c14 r_6).flatMap eN1) ++ ((D2.flatMap eN1) ++ ((D3.flatMap eN1) ++ [])))) : List Ro) from mAl _ h)) (suba (fun r_ (h : r_ ∈ ((D3.flatMap eN1) : List Ro)) => mOd (i := 7) (show r_ ∈ (((((lH B14 c14 r_6).flatMap eN1) ++ ((D2.flatMap eN1) ++ ((D3.flatMap eN1) ++ [])))) : List Ro) from mAr _ (mAr _ (mAl _ h)))) (fun _ h => by cases h)))))))))))
             have hS65 : ST w0 [] _ [⟨B15, 9, ((words1 ++ [(x2 ++ (dT i2))]).flatMap encS), c15 * 1⟩, ⟨B16, 24, ((D2 ++ (lH B14 c14 r_6)).flatMap eN3), c16 * 1⟩, ⟨aD b4, 24, (D3.flatMap eN3), 2 * 1⟩, ⟨aD b5, 24, [.slice B14 r_6.length c14], 1⟩, ⟨aD b7, 24, ((lH B14 c14 r_6).flatMap eN3), 1 * 1⟩, ⟨aD b6, 9, ([(x2 ++ (dT i2))].flatMap encS), 1 * 1⟩] (⟨B14, (r_6.flatMap eN0)⟩ :: ⟨B13, (x1.flatMap eN0)⟩ :: ⟨B12, (x.flatMap eN0)⟩ :: ⟨B5, (r_5.Cells.flatMap eN0)⟩ :: ⟨B4, (r_4.Cells.flatMap eN0)⟩ :: ⟨B2, (one_.flatMap eN0)⟩ :: ⟨(aD 0), [vi 1, vi 0, vi 0, vi 0, vi 2]⟩ :: (((D2 ++ (lH B14 c14 r_6)).flatMap eN1) ++ (((lH B14 c14 r_6).flatMap eN1) ++ ((D3.flatMap eN1) ++ [])))) := hS65
             refine ⟨(ST.subR (hS65.se [2, 3]) (R' := (⟨B14, (r_6.flatMap eN0)⟩ :: ⟨B13, (x1.flatMap eN0)⟩ :: ⟨B12, (x.flatMap eN0)⟩ :: ⟨B5, (r_5.Cells.flatMap eN0)⟩ :: ⟨B4, (r_4.Cells.flatMap eN0)⟩ :: ⟨B2, (one_.flatMap eN0)⟩ :: ⟨(aD 0), [vi 1, vi 0, vi 0, vi 0, vi 2]⟩ :: ((D3.flatMap eN1) ++ []))) (sk 0 (sk 1 (sk 2 (sk 3 (sk 4 (sk 5 (sk 6 (suba (fun r_ (h : r_ ∈ ((D3.flatMap eN1) : List Ro)) => mOd (i := 7) (show r_ ∈ (((((D2 ++ (lH B14 c14 r_6)).flatMap eN1) ++ (((lH B14 c14 r_6).flatMap eN1) ++ ((D3.flatMap eN1) ++ [])))) : List Ro) from mAr _ (mAr _ (mAl _ h)))) (fun _ h => by cases h)))))))))), ?_⟩
             refine ra_q 16 4 (v := .slice B15 ((words1 ++ [(x2 ++ (dT i2))]).length) c15) rfl rfl rfl (by kernel_rfl) (by kernel_rfl) (by kernel_rfl) (ST.subR (hS65.se [2, 3]) (R' := (⟨B14, (r_6.flatMap eN0)⟩ :: ⟨B13, (x1.flatMap eN0)⟩ :: ⟨B12, (x.flatMap eN0)⟩ :: ⟨B5, (r_5.Cells.flatMap eN0)⟩ :: ⟨B4, (r_4.Cells.flatMap eN0)⟩ :: ⟨B2, (one_.flatMap eN0)⟩ :: ⟨(aD 0), [vi 1, vi 0, vi 0, vi 0, vi 2]⟩ :: ((D3.flatMap eN1) ++ []))) (sk 0 (sk 1 (sk 2 (sk 3 (sk 4 (sk 5 (sk 6 (suba (fun r_ (h : r_ ∈ ((D3.flatMap eN1) : List Ro)) => mOd (i := 7) (show r_ ∈ (((((D2 ++ (lH B14 c14 r_6)).flatMap eN1) ++ (((lH B14 c14 r_6).flatMap eN1) ++ ((D3.flatMap eN1) ++ [])))) : List Ro) from mAr _ (mAr _ (mAl _ h)))) (fun _ h => by cases h)))))))))) (fun w' hw' => (yg (.slice B15 ((words1 ++ [(x2 ++ (dT i2))]).length) c15))) ?_
             refine rq 17 5 (v := .slice B16 ((list1 ++ ([r_6] : List (List TDyadic))).length) c16) rfl (ST.subR (hS65.se [2, 3]) (R' := (⟨B14, (r_6.flatMap eN0)⟩ :: ⟨B13, (x1.flatMap eN0)⟩ :: ⟨B12, (x.flatMap eN0)⟩ :: ⟨B5, (r_5.Cells.flatMap eN0)⟩ :: ⟨B4, (r_4.Cells.flatMap eN0)⟩ :: ⟨B2, (one_.flatMap eN0)⟩ :: ⟨(aD 0), [vi 1, vi 0, vi 0, vi 0, vi 2]⟩ :: ((D3.flatMap eN1) ++ []))) (sk 0 (sk 1 (sk 2 (sk 3 (sk 4 (sk 5 (sk 6 (suba (fun r_ (h : r_ ∈ ((D3.flatMap eN1) : List Ro)) => mOd (i := 7) (show r_ ∈ (((((D2 ++ (lH B14 c14 r_6)).flatMap eN1) ++ (((lH B14 c14 r_6).flatMap eN1) ++ ((D3.flatMap eN1) ++ [])))) : List Ro) from mAr _ (mAr _ (mAl _ h)))) (fun _ h => by cases h)))))))))) (fun w' hw' => (yg (.slice B16 ((list1 ++ ([r_6] : List (List TDyadic))).length) c16))) ?_
             refine ra_done (by kernel_rfl) ?_
             have hS66 : ST w0 [] _ [⟨B15, 9, ((words1 ++ [(x2 ++ (dT i2))]).flatMap encS), c15 * 1⟩, ⟨B16, 24, ((D2 ++ (lH B14 c14 r_6)).flatMap eN3), c16 * 1⟩, ⟨aD b4, 24, (D3.flatMap eN3), 2 * 1⟩, ⟨aD b5, 24, [.slice B14 r_6.length c14], 1⟩, ⟨aD b7, 24, ((lH B14 c14 r_6).flatMap eN3), 1 * 1⟩, ⟨aD b6, 9, ([(x2 ++ (dT i2))].flatMap encS), 1 * 1⟩] (⟨B14, (r_6.flatMap eN0)⟩ :: ⟨B13, (x1.flatMap eN0)⟩ :: ⟨B12, (x.flatMap eN0)⟩ :: ⟨B5, (r_5.Cells.flatMap eN0)⟩ :: ⟨B4, (r_4.Cells.flatMap eN0)⟩ :: ⟨B2, (one_.flatMap eN0)⟩ :: ⟨(aD 0), [vi 1, vi 0, vi 0, vi 0, vi 2]⟩ :: (((D2 ++ (lH B14 c14 r_6)).flatMap eN1) ++ ((D3.flatMap eN1) ++ []))) := ST.subR hS65 (sk 0 (sk 1 (sk 2 (sk 3 (sk 4 (sk 5 (sk 6 (suba (fun r_ (h : r_ ∈ (((D2 ++ (lH B14 c14 r_6)).flatMap eN1) : List Ro)) => mOd (i := 7) (show r_ ∈ (((((D2 ++ (lH B14 c14 r_6)).flatMap eN1) ++ (((lH B14 c14 r_6).flatMap eN1) ++ ((D3.flatMap eN1) ++ [])))) : List Ro) from mAl _ h)) (suba (fun r_ (h : r_ ∈ ((D3.flatMap eN1) : List Ro)) => mOd (i := 7) (show r_ ∈ (((((D2 ++ (lH B14 c14 r_6)).flatMap eN1) ++ (((lH B14 c14 r_6).flatMap eN1) ++ ((D3.flatMap eN1) ++ [])))) : List Ro) from mAr _ (mAr _ (mAl _ h)))) (fun _ h => by cases h))))))))))
             exact ⟨B15, c15, B16, c16, (D2 ++ (lH B14 c14 r_6)), (fc rfl (fc rfl (fc (hf2.g 6 2) (fc (hf2.g 7 3) (fc (hf2.g 8 4) (fc (hf2.g 41 5) (fc (hf2.g 42 6) (fc (hf2.g 43 7) fn_)))))))), (dl_app hD2 (show List.map Prod.snd (lH B14 c14 r_6) = ([r_6] : List (List TDyadic)) from rfl)), ho26, (hS66.sel [0, 1, 2] rfl rfl)⟩
            exact aN
           exact aN
          exact aN
         exact aN
        exact aN
       exact aN
      rintro f w ⟨B17, c17, B18, c18, D6, hf4, hD6, ho16, hS31⟩
      have hS67 : ST w0 [] _ [⟨B17, 9, ((words1 ++ [(x2 ++ (dT i2))]).flatMap encS), c17 * 1⟩, ⟨B18, 24, (D6.flatMap eN3), c18 * 1⟩, ⟨aD b4, 24, (D3.flatMap eN3), 2 * 1⟩] (⟨B5, (r_5.Cells.flatMap eN0)⟩ :: ⟨B4, (r_4.Cells.flatMap eN0)⟩ :: ⟨B2, (one_.flatMap eN0)⟩ :: ⟨(aD 0), [vi 1, vi 0, vi 0, vi 0, vi 2]⟩ :: ((D6.flatMap eN1) ++ ((D3.flatMap eN1) ++ []))) := ST.subR hS31 (sk 3 (sk 4 (sk 5 (sk 6 (suba (fun r_ (h : r_ ∈ ((D6.flatMap eN1) : List Ro)) => mOd (i := 7) (show r_ ∈ ((((D6.flatMap eN1) ++ ((D3.flatMap eN1) ++ []))) : List Ro) from mAl _ h)) (suba (fun r_ (h : r_ ∈ ((D3.flatMap eN1) : List Ro)) => mOd (i := 7) (show r_ ∈ ((((D6.flatMap eN1) ++ ((D3.flatMap eN1) ++ []))) : List Ro) from mAr _ (mAl _ h))) (fun _ h => by cases h)))))))
      exact ⟨(words1 ++ [(x2 ++ (dT i2))]), (list1 ++ ([r_6] : List (List TDyadic))), B17, c17, B18, c18, D6, D3, (sI hF6), (fc (hf4.g 4 0) (fc (hf4.g 5 1) (fc (hf4.g 6 2) (fc (hf4.g 7 3) (fc (hf4.g 8 4) (fc (hf4.g 41 5) (fc (hf4.g 42 6) (fc (hf4.g 43 7) fn_)))))))), hD6, ho16, hD3, ho9, (hS67.sel [0, 1, 2] rfl rfl)⟩
     ·skip
      have hF7 := cf' hz3 hb4
      refine cw_skip ?_
      have hS68 : ST w0 [] _ [⟨B8, 9, (words1.flatMap encS), c8 * 1⟩, ⟨B9, 24, (D2.flatMap eN3), c9 * 1⟩, ⟨aD b4, 24, (D3.flatMap eN3), 2 * 1⟩, ⟨B14, 43, (r_6.flatMap eN0), c14 * 5⟩, ⟨aD b5, 24, [.slice B14 r_6.length c14], 1⟩] (⟨B5, (r_5.Cells.flatMap eN0)⟩ :: ⟨B4, (r_4.Cells.flatMap eN0)⟩ :: ⟨B2, (one_.flatMap eN0)⟩ :: ⟨(aD 0), [vi 1, vi 0, vi 0, vi 0, vi 2]⟩ :: ((D2.flatMap eN1) ++ ((D3.flatMap eN1) ++ []))) := ST.subR hS26 (sk 2 (sk 3 (sk 4 (sk 5 (suba (fun r_ (h : r_ ∈ ((D2.flatMap eN1) : List Ro)) => mOd (i := 6) (show r_ ∈ ((((D2.flatMap eN1) ++ ((D3.flatMap eN1) ++ []))) : List Ro) from mAl _ h)) (suba (fun r_ (h : r_ ∈ ((D3.flatMap eN1) : List Ro)) => mOd (i := 6) (show r_ ∈ ((((D2.flatMap eN1) ++ ((D3.flatMap eN1) ++ []))) : List Ro) from mAr _ (mAl _ h))) (fun _ h => by cases h)))))))
      exact ⟨words1, list1, B8, c8, B9, c9, D2, D3, (sI hF7), (fc (hf2.g 4 0) (fc (hf2.g 5 1) (fc (hf2.g 6 2) (fc (hf2.g 7 3) (fc (hf2.g 8 4) (fc (hf2.g 41 5) (fc (hf2.g 42 6) (fc (hf2.g 43 7) fn_)))))))), hD2, ho8, hD3, ho9, (hS68.sel [0, 1, 2] rfl rfl)⟩
    rintro f w ⟨words2, list2, B10, c10, B11, c11, D4, D5, rfl, hf3, hD4, ho10, hD5, ho11, hS20⟩
    refine cr ?_
    refine sQ 77 (yP (i2 : Int) 1 rfl (hf3.g 43 7)) <| sQ 43 (ym (vi (i64.wrap ((i2 : Int) + 1)))) (rn ?_)
    obtain rfl := sI hF5
    exact ⟨K78, Nat.lt_succ_self _, i2 + 1, words2, list2, B10, c10, B11, c11, D4, D5, (fc (hf3.g 4 0) (fc (hf3.g 5 1) (fc (hf3.g 6 2) (fc (hf3.g 7 3) (fc (hf3.g 8 4) (fc (hf3.g 41 5) (fc (hf3.g 42 6) (fc (congrArg (Value.int .i64) (wr_succ hlt3 (show 2 ≤ 9223372036854775807 by decide))) fn_)))))))), hD4, ho10, hD5, ho11, (hS20.sel [0, 1, 2] rfl rfl), (by omega), hL5⟩
   ·skip
    obtain rfl : K17 = 0 := by have h := of_decide_eq_false hlt2; omega
    refine cw_exit rfl ?_
    obtain rfl := sI hL4
    refine cr ?_
    refine sQ 37 (ym (vi at_1) rfl (hf2.g 8 4)) <| sQ 38 (yP at_1 1) <| sQ 8 (yg (vi (i64.wrap (at_1 + 1)))) (rn ?_)
    obtain rfl := sI hF4
    have hS69 : ST w0 [] _ [⟨B8, 9, (words1.flatMap encS), c8 * 1⟩, ⟨B9, 24, (D2.flatMap eN3), c9 * 1⟩, ⟨aD b4, 24, (D3.flatMap eN3), 2 * 1⟩] (⟨B5, (r_5.Cells.flatMap eN0)⟩ :: ⟨B4, (r_4.Cells.flatMap eN0)⟩ :: ⟨B2, (one_.flatMap eN0)⟩ :: ⟨(aD 0), [vi 1, vi 0, vi 0, vi 0, vi 2]⟩ :: ((D2.flatMap eN1) ++ [])) := ST.subR hS18 (sk 0 (sk 1 (sk 2 (sk 3 (suba (fun r_ (h : r_ ∈ ((D2.flatMap eN1) : List Ro)) => mOd (i := 4) (show r_ ∈ ((((D2.flatMap eN1) ++ ((D3.flatMap eN1) ++ []))) : List Ro) from mAl _ h)) (fun _ h => by cases h))))))
    exact ⟨K29, Nat.lt_succ_self _, words1, list1, (i64.wrap (at_1 + 1)), B8, c8, B9, c9, D2, (fc (hf2.g 4 0) (fc (hf2.g 5 1) (fc (hf2.g 6 2) (fc (hf2.g 7 3) (fc rfl fn_))))), hD2, ho8, ho3, (len_le rfl hq), ho4, (len_le rfl hq1), (hS69.sel [0, 1] rfl rfl), hL3⟩
  ·skip
   have hF8 := cf' hb1 hb2
   refine cw_exit rfl ?_
   obtain rfl := sI hF8
   obtain rfl := sI hL3
   refine cq (cr ?_)
   refine sQ 78 (ym (.slice B6 words.length c6) rfl (hf1.g 4 0)) <| sQ 79 (ym (.slice B7 list.length c7) rfl (hf1.g 5 1)) <| sQ 0 (yg (.slice B6 words.length c6)) <| sQ 1 (yg (.slice B7 list.length c7)) (rn (ct_ ?_))
   obtain ⟨rfl, rfl⟩ := pr2 (sI hF2)
   exact ret2 Tryz.results25 (v1 := .slice B6 words.length c6) (resAt_tmp rfl) (v2 := .slice B7 list.length c7) (resAt_tmp rfl) ⟨B6, c6, B7, c7, D1, rfl, hD1, (org_app ho2 org_nil), (ST.subR (R' := (((D1.flatMap eN1) ++ []))) (hS13.sel [0, 1] rfl rfl) (suba (fun r_ (h : r_ ∈ ((D1.flatMap eN1) : List Ro)) => mOd (i := 4) (show r_ ∈ ((((D1.flatMap eN1) ++ [])) : List Ro) from mAl _ h)) (fun _ h => by cases h)))⟩

theorem c_impl_CliffordIndex (b : TBloch) (B : Option Addr) (c n : Nat) (w0 : World) (hn : b.Cells.length = n) (hS : ST w0 [] w0 [] [⟨B, (b.Cells.flatMap eN0)⟩, ⟨(aD 0), [vi 1, vi 0, vi 0, vi 0, vi 2]⟩]) {r_ : Int} {r_1 : Bool} (hF : F_impl_CliffordIndex b = some (r_, r_1)) :
  CV Tryz.prog 12 #[.agg #[.slice B n c]] w0 (fun v w' => v = .tuple #[vi r_, .bool r_1] ∧ ST w0 [] w' [] []) := by
 subst hn
 unfold F_impl_CliffordIndex at hF
 refine cv_of_cw 28 Tryz.func12 rfl Tryz.ntmps12 rfl ?_
 refine cq (cr ?_)
 refine sS 1 (yB 29 (gB_ b B c) (kB_ b B c) 1 hS) ?_
 rintro _ w_ ⟨b1, rfl, hS1⟩
 refine sQ 2 (yg (vi 0)) <| sQ 3 (yg (.bool false)) (rn (cq (cq (cr ?_))))
 refine sQ 8 (yb (aD b1) 0 (kB_ b B c) K25 K16 (hS1.c 0)) ?_
 obtain ⟨r_2, hc, hF⟩ := bI hF
 refine sc 9 rfl rfl (yC [gB_ b B c] K110 (c_impl_IsValidBloch b B c b.Cells.length _ rfl (hS1.inn0 [(true, 0)] rfl) hc)) ?_
 rintro _ w_1 ⟨rfl, hd⟩
 have hS2 := hS1.out00 hd
 refine sQ 10 (Y_not (p := r_2) rfl rfl) (rn ?_)
 refine cw_cond (b := (!r_2)) rfl (fun hb => ?_) (fun hb => ?_)
 ·skip
  have hF1 := ct hF hb
  refine cq (cr ?_)
  refine sQ 2 (yg (vi 0)) <| sQ 3 (yg (.bool false)) (rn (ct_ ?_))
  obtain ⟨rfl, rfl⟩ := pr2 (sI hF1)
  exact ret2 Tryz.results12 (v1 := vi 0) (resAt_tmp rfl) (v2 := .bool false) (resAt_tmp rfl) ⟨rfl, (hS2.sN [])⟩
 ·skip
  have hF2 := cf' hF hb
  refine cw_skip (cq (cr ?_))
  obtain ⟨⟨r_3, r_4⟩, hc1, hF2⟩ := bI hF2
  refine sc 12 rfl rfl (yC [] k_call_25 (c_impl_cliffordList  _  (hS2.inn0 [(true, 1)] rfl) hc1)) ?_
  rintro _ w_2 ⟨B1, c1, B2, c2, D, rfl, hD, ho, hd1⟩
  have hS3 := ST.outR0 hS2 hd1 ho (sk 1 (fun _ h => by cases h))
  have ho1 : Org w0 [] [⟨B, (b.Cells.flatMap eN0)⟩, ⟨(aD 0), [vi 1, vi 0, vi 0, vi 0, vi 2]⟩] (((D.flatMap eN1) ++ [])) := org_trans0 hS2 ho (org_cons (org_mem (i := 1) rfl) org_nil)
  have hS4 : ST w0 [] _ [⟨aD b1, 29, kB_ b B c, 1⟩, ⟨B1, 9, (r_3.flatMap encS), c1 * 1⟩, ⟨B2, 24, (D.flatMap eN3), c2 * 1⟩] (⟨B, (b.Cells.flatMap eN0)⟩ :: ⟨(aD 0), [vi 1, vi 0, vi 0, vi 0, vi 2]⟩ :: ((D.flatMap eN1) ++ [])) := ST.subR hS3 (subc (mAr _ (mt 0)) (subc (mAr _ (mt 1)) (suba (fun r h => mAl _ (app_mem (fun _ h => mOd (i := 0) (mAl _ h)) h)) (fun _ h => by cases h))))
  refine sQ 11 (ym (.tuple #[.slice B1 r_3.length c1, .slice B2 r_4.length c2])) <| sQ 13 (ye (.slice B1 r_3.length c1)) <| sQ 14 (ye (.slice B2 r_4.length c2)) <| sQ 4 (yg (.slice B1 r_3.length c1)) <| sQ 5 (yg (.slice B2 r_4.length c2)) (rn (cq (cq (cr ?_))))
  refine sQ 15 (ym (.slice B2 r_4.length c2)) <| sQ 16 (Y_len (B := B2) (m := r_4.length) (c := c2) K41 rfl rfl) <| sQ 17 (ym (vi 0)) (rn ?_)
  obtain ⟨hN, hF2⟩ := chk_inv hF2
  obtain ⟨z, hz, hF3⟩ := bI hF2
  refine cw_block ?_
  refine cw_loop (fun k f w => ∃ (i : Nat) (D1 : List (Hd × (List TDyadic))), FF f [(1, pt (aD b1) 0), (15, .slice B2 r_4.length c2), (16, vi (r_4.length : Int)), (17, vi (i : Int))] ∧ D1.map Prod.snd = r_4 ∧ Org w0 [] [⟨B, (b.Cells.flatMap eN0)⟩, ⟨(aD 0), [vi 1, vi 0, vi 0, vi 0, vi 2]⟩] (D1.flatMap eN1) ∧ ST w0 [] w [⟨aD b1, 29, kB_ b B c, 1⟩, ⟨B2, 24, (D1.flatMap eN3), c2 * 1⟩] (⟨B, (b.Cells.flatMap eN0)⟩ :: ⟨(aD 0), [vi 1, vi 0, vi 0, vi 0, vi 2]⟩ :: ((D1.flatMap eN1) ++ [])) ∧ i + k = r_4.length ∧ forX (F_impl_CliffordIndex_l1 r_4 b) k i () = some z) r_4.length ⟨0, D, (fc rfl (fc rfl (fc rfl (fc rfl fn_)))), hD, (org_sub ho1 (fun _ h => mOd (i := 0) (mAl _ h))), (hS4.sel [0, 2] rfl rfl), Nat.zero_add _, hz⟩ ?_
  rintro k_ f w ⟨i, D1, hf, hD1, ho2, hS5, hik, hL⟩
  refine cq (cr ?_)
  refine sQ 18 (yL (i : Int) (r_4.length : Int) rfl (hf.g 17 3) (hf.g 16 2)) (rn (cq ?_))
  refine cw_cond (b := (decide ((i : Int) < (r_4.length : Int)))) rfl (fun hlt => ?_) (fun hlt => ?_)
  ·skip
   have hlt1 : i < r_4.length := by have h := of_decide_eq_true hlt; omega
   obtain ⟨K11, rfl⟩ : ∃ k2, k_ = k2 + 1 := ⟨k_ - 1, by omega⟩
   obtain ⟨y, hb1, hL1⟩ := forX_go hL
   unfold F_impl_CliffordIndex_l1 at hb1
   refine cw_skip (cq (cw_block (cq (cr ?_))))
   refine sQ 19 (ym (vi (i : Int)) rfl (hf.g 17 3)) ?_
   obtain ⟨x, hx, hb1⟩ := bI hb1
   obtain ⟨⟨B3, c3⟩, hp⟩ := getI_snd hD1 hx
   refine sQ 20 (Y_index (B := B2) (m := r_4.length) (c := c2) (k := .i64) (i := (i : Int)) K41 K8 rfl (hf.g 15 1) (hf.g 17 3) (gi_isSome encD_SDyadic_len rfl (hS5.c 1) hp) (getI_nn hp) (getI_ltI hp (dl_len hD1))) ?_
   have hm : (⟨B3, (x.flatMap eN0)⟩ : Ro) ∈ ((⟨B, (b.Cells.flatMap eN0)⟩ :: ⟨(aD 0), [vi 1, vi 0, vi 0, vi 0, vi 2]⟩ :: ((D1.flatMap eN1) ++ [])) : List Ro) := app_mem (fun r_ (h : r_ ∈ ((D1.flatMap eN1) : List Ro)) => mOd (i := 2) (show r_ ∈ ((((D1.flatMap eN1) ++ [])) : List Ro) from mAl _ h)) (row_mem (rw_ := eN1) hp _ (mt 0))
   have hS6 : ST w0 [] _ [⟨aD b1, 29, kB_ b B c, 1⟩, ⟨B2, 24, (D1.flatMap eN3), c2 * 1⟩] (⟨B3, (x.flatMap eN0)⟩ :: ⟨B, (b.Cells.flatMap eN0)⟩ :: ⟨(aD 0), [vi 1, vi 0, vi 0, vi 0, vi 2]⟩ :: ((D1.flatMap eN1) ++ [])) := ST.subR hS5 (subc hm (fun _ h => h))
   refine sQ 21 (yl B2 ((i : Int).toNat * 1) (D1.flatMap eN3) (.slice B3 x.length c3) K13 (hS6.c 1) rfl rfl (gi_at0 encD_SDyadic_len hp rfl)) <| sQ 6 (yg (vi (i : Int))) <| sQ 7 (yg (.slice B3 x.length c3)) (rn (cq (cr ?_)))
   refine sQ 22 (ym (.slice B3 x.length c3)) <| sQ 23 (yd (aD b1) 0 0 K33 K8 rfl (hf.g 1 0)) <| sQ 24 (yl (aD b1) 0 (kB_ b B c) (.slice B b.Cells.length c) K13 (hS6.c 0)) ?_
   obtain ⟨r_5, hc2, hb1⟩ := bI hb1
   refine sc 25 rfl rfl (yC [.slice B3 x.length c3, .slice B b.Cells.length c] K126 (c_slices_Equal_impl_Dyadic_impl_Dyadic x b.Cells B3 c3 x.length B c b.Cells.length _ rfl rfl (hS6.inn0 [(true, 0), (true, 1)] rfl) hc2)) ?_
   rintro _ w_3 ⟨rfl, hd2⟩
   have hS7 := hS6.out00 hd2
   refine rn ?_
   refine cw_cond (b := r_5) rfl (fun hb2 => ?_) (fun hb2 => ?_)
   ·skip
    have hF4 := ct hb1 hb2
    refine cq (cr ?_)
    refine sQ 26 (ym (vi (i : Int))) <| sQ 2 (yg (vi (i : Int))) <| sQ 3 (yg (.bool true)) (rn (ct_ ?_))
    obtain rfl := sI hF4
    obtain rfl := sI hL1
    obtain ⟨rfl, rfl⟩ := pr2 (sI hF3)
    exact ret2 Tryz.results12 (v1 := vi (i : Int)) (resAt_tmp rfl) (v2 := .bool true) (resAt_tmp rfl) ⟨rfl, (hS7.sN [])⟩
   ·skip
    have hF5 := cf' hb1 hb2
    refine cw_skip (cr ?_)
    refine sQ 27 (yP (i : Int) 1 rfl (hf.g 17 3)) <| sQ 17 (ym (vi (i64.wrap ((i : Int) + 1)))) (rn ?_)
    obtain rfl := sI hF5
    have hS8 : ST w0 [] _ [⟨aD b1, 29, kB_ b B c, 1⟩, ⟨B2, 24, (D1.flatMap eN3), c2 * 1⟩] (⟨B, (b.Cells.flatMap eN0)⟩ :: ⟨(aD 0), [vi 1, vi 0, vi 0, vi 0, vi 2]⟩ :: ((D1.flatMap eN1) ++ [])) := ST.subR hS7 (sk 1 (sk 2 (suba (fun r_ (h : r_ ∈ ((D1.flatMap eN1) : List Ro)) => mOd (i := 3) (show r_ ∈ ((((D1.flatMap eN1) ++ [])) : List Ro) from mAl _ h)) (fun _ h => by cases h))))
    exact ⟨K11, Nat.lt_succ_self _, i + 1, D1, (fc (hf.g 1 0) (fc (hf.g 15 1) (fc (hf.g 16 2) (fc (congrArg (Value.int .i64) (wr_succ hlt1 hN)) fn_)))), hD1, ho2, (hS8.sel [0, 1] rfl rfl), (by omega), hL1⟩
  ·skip
   obtain rfl : k_ = 0 := by have h := of_decide_eq_false hlt; omega
   refine cw_exit rfl ?_
   obtain rfl := sI hL
   refine cq (cr ?_)
   refine sQ 2 (yg (vi 0)) <| sQ 3 (yg (.bool false)) (rn (ct_ ?_))
   obtain ⟨rfl, rfl⟩ := pr2 (sI hF3)
   exact ret2 Tryz.results12 (v1 := vi 0) (resAt_tmp rfl) (v2 := .bool false) (resAt_tmp rfl) ⟨rfl, (hS5.sN [])⟩

theorem c_laws_FnBloch (code : List Int) (more : List Int) (B : Option Addr) (c n : Nat) (B1 : Option Addr) (c1 n1 : Nat) (w0 : World) (hn : code.length = n) (hn1 : more.length = n1) (hS : ST w0 [] w0 [] [⟨B, (code.flatMap enc_u8)⟩, ⟨B1, (more.flatMap enc_u8)⟩, ⟨(aD 0), [vi 1, vi 0, vi 0, vi 0, vi 2]⟩]) {r_ : Bool} (hF : F_laws_FnBloch code more = some r_) :
  CV Tryz.prog 3 #[.slice B n c, .slice B1 n1 c1] w0 (fun v w' => v = .bool r_ ∧ ST w0 [] w' [] []) := by
 subst hn
 subst hn1
 unfold F_laws_FnBloch at hF
 refine cv_of_cw 121 Tryz.func3 rfl Tryz.ntmps3 rfl ?_
 refine cq (cr ?_)
 refine sQ 4 (yg (.bool false)) (rn (cq (cq (cr ?_))))
 refine sQ 25 (ym (.slice B code.length c)) <| sQ 26 (ym (.slice B1 more.length c1)) ?_
 obtain ⟨r_1, hc, hF⟩ := bI hF
 refine sc 27 rfl rfl (yC [.slice B code.length c, .slice B1 more.length c1] k_call_4 (c_laws_big code more B c code.length B1 c1 more.length _ rfl rfl (hS.inn0 [(true, 0), (true, 1)] rfl) hc)) ?_
 rintro _ w_ ⟨rfl, hd⟩
 have hS1 := hS.out00 hd
 refine rn ?_
 refine cw_cond (b := r_1) rfl (fun hb => ?_) (fun hb => ?_)
 ·skip
  have hF1 := ct hF hb
  refine cq (cr ?_)
  refine sQ 4 (yg (.bool true)) (rn (ct_ ?_))
  obtain rfl := sI hF1
  exact ret1 Tryz.results3 (v1 := .bool true) (resAt_tmp rfl) ⟨rfl, (hS1.sN [])⟩
 ·skip
  have hF2 := cf' hF hb
  refine cw_skip (cq (cr ?_))
  refine sQ 28 (ym (.slice B code.length c)) ?_
  obtain ⟨r_2, hc1, hF2⟩ := bI hF2
  refine sc 29 rfl rfl (yC [.slice B code.length c] k_call_5 (c_spec_DrawBlochOf code B c code.length _ rfl (hS1.inn0 [(true, 0)] rfl) hc1)) ?_
  rintro _ w_1 ⟨B2, c2, rfl, hq, ho, hd1⟩
  have hS2 := ST.outR00 hS1 hd1 ho (sk 0 (fun _ h => by cases h))
  have ho1 : Org w0 [] [⟨B, (code.flatMap enc_u8)⟩, ⟨B1, (more.flatMap enc_u8)⟩, ⟨(aD 0), [vi 1, vi 0, vi 0, vi 0, vi 2]⟩] [⟨B2, (r_2.Cells.flatMap eN0)⟩] := org_trans0 hS1 ho (org_cons (org_mem (i := 0) rfl) org_nil)
  have hS3 : ST w0 [] _ [] [⟨B2, (r_2.Cells.flatMap eN0)⟩, ⟨B, (code.flatMap enc_u8)⟩, ⟨B1, (more.flatMap enc_u8)⟩, ⟨(aD 0), [vi 1, vi 0, vi 0, vi 0, vi 2]⟩] := hS2
  refine sS 5 (yN kN_ 3 hS3 K12) ?_
  rintro _ w_2 ⟨b, rfl, hS4⟩
  refine s0 (yT 0 3 (aD b) 26 (gM_ r_2 B2 c2) (kM_ r_2 B2 c2) 0 hS4 K4) ?_
  rintro _ w_3 ⟨rfl, hS5⟩
  refine rn (cq (cr ?_))
  refine sQ 30 (ym (.slice B1 more.length c1)) ?_
  obtain ⟨r_3, hc2, hF2⟩ := bI hF2
  refine sc 31 rfl rfl (yC [.slice B1 more.length c1] k_call_5 (c_spec_DrawBlochOf more B1 c1 more.length _ rfl (hS5.inn0 [(true, 2)] rfl) hc2)) ?_
  rintro _ w_4 ⟨B3, c3, rfl, hq1, ho2, hd2⟩
  have hS6 := ST.outR00 hS5 hd2 ho2 (sk 2 (fun _ h => by cases h))
  have ho3 : Org w0 [] [⟨B, (code.flatMap enc_u8)⟩, ⟨B1, (more.flatMap enc_u8)⟩, ⟨(aD 0), [vi 1, vi 0, vi 0, vi 0, vi 2]⟩] [⟨B3, (r_3.Cells.flatMap eN0)⟩] := org_trans0 hS5 ho2 (org_cons (org_mem (i := 1) rfl) org_nil)
  have hS7 : ST w0 [] _ [⟨aD b, 26, kM_ r_2 B2 c2, 3⟩] [⟨B3, (r_3.Cells.flatMap eN0)⟩, ⟨B2, (r_2.Cells.flatMap eN0)⟩, ⟨B, (code.flatMap enc_u8)⟩, ⟨B1, (more.flatMap enc_u8)⟩, ⟨(aD 0), [vi 1, vi 0, vi 0, vi 0, vi 2]⟩] := hS6
  refine sS 6 (yN kN_ 3 hS7 K12) ?_
  rintro _ w_5 ⟨b1, rfl, hS8⟩
  refine s0 (yT 1 3 (aD b1) 26 (gM_ r_3 B3 c3) (kM_ r_3 B3 c3) 0 hS8 K4) ?_
  rintro _ w_6 ⟨rfl, hS9⟩
  refine rn (cq (cr ?_))
  refine sQ 33 (yb (aD b) 0 (kM_ r_2 B2 c2) K9 K4 (hS9.c 0)) ?_
  obtain ⟨⟨r_4, r_5⟩, hc3, hF2⟩ := bI hF2
  refine sc 34 rfl rfl (yC [gM_ r_2 B2 c2] K111 (c_impl_BlochOf r_2 B2 c2 r_2.Cells.length _ rfl (hS9.inn0 [(true, 1), (true, 4)] rfl) hc3)) ?_
  rintro _ w_7 ⟨B4, c4, rfl, hd3⟩
  have hS10 := hS9.out0 hd3
  refine sQ 32 (ym (.tuple #[gB_ r_4 B4 c4, .bool r_5])) <| sQ 35 (ye (gB_ r_4 B4 c4)) <| sQ 36 (ye (.bool r_5)) ?_
  refine sS 7 (yN [.slice none 0 0] 1 hS10 K36) ?_
  rintro _ w_8 ⟨b2, rfl, hS11⟩
  have hS11 : ST w0 [] _ [⟨aD b, 26, kM_ r_2 B2 c2, 3⟩, ⟨aD b1, 26, kM_ r_3 B3 c3, 3⟩, ⟨B4, 43, (r_4.Cells.flatMap eN0), c4 * 5⟩, ⟨aD b2, 29, [.slice none 0 0], 1⟩] [⟨B3, (r_3.Cells.flatMap eN0)⟩, ⟨B2, (r_2.Cells.flatMap eN0)⟩, ⟨B, (code.flatMap enc_u8)⟩, ⟨B1, (more.flatMap enc_u8)⟩, ⟨(aD 0), [vi 1, vi 0, vi 0, vi 0, vi 2]⟩] := hS11
  refine s0 (yT 3 1 (aD b2) 29 (gB_ r_4 B4 c4) (kB_ r_4 B4 c4) 0 hS11 K16) ?_
  rintro _ w_9 ⟨rfl, hS12⟩
  refine sQ 8 (yg (.bool r_5)) (rn (cq (cr ?_)))
  refine sQ 38 (yb (aD b1) 0 (kM_ r_3 B3 c3) K9 K4 (hS12.c 1)) ?_
  obtain ⟨⟨r_6, r_7⟩, hc4, hF2⟩ := bI hF2
  refine sc 39 rfl rfl (yC [gM_ r_3 B3 c3] K111 (c_impl_BlochOf r_3 B3 c3 r_3.Cells.length _ rfl (hS12.inn0 [(true, 0), (true, 4)] rfl) hc4)) ?_
  rintro _ w_10 ⟨B5, c5, rfl, hd4⟩
  have hS13 := hS12.out0 hd4
  refine sQ 37 (ym (.tuple #[gB_ r_6 B5 c5, .bool r_7])) <| sQ 40 (ye (gB_ r_6 B5 c5)) <| sQ 41 (ye (.bool r_7)) ?_
  refine sS 9 (yN [.slice none 0 0] 1 hS13 K36) ?_
  rintro _ w_11 ⟨b3, rfl, hS14⟩
  refine s0 (yT 5 1 (aD b3) 29 (gB_ r_6 B5 c5) (kB_ r_6 B5 c5) 0 hS14 K16) ?_
  rintro _ w_12 ⟨rfl, hS15⟩
  have hS15 : ST w0 [] _ [⟨aD b, 26, kM_ r_2 B2 c2, 3⟩, ⟨aD b1, 26, kM_ r_3 B3 c3, 3⟩, ⟨B4, 43, (r_4.Cells.flatMap eN0), c4 * 5⟩, ⟨aD b2, 29, kB_ r_4 B4 c4, 1⟩, ⟨B5, 43, (r_6.Cells.flatMap eN0), c5 * 5⟩, ⟨aD b3, 29, kB_ r_6 B5 c5, 1⟩] [⟨B3, (r_3.Cells.flatMap eN0)⟩, ⟨B2, (r_2.Cells.flatMap eN0)⟩, ⟨B, (code.flatMap enc_u8)⟩, ⟨B1, (more.flatMap enc_u8)⟩, ⟨(aD 0), [vi 1, vi 0, vi 0, vi 0, vi 2]⟩] := hS15
  refine sQ 10 (yg (.bool r_7)) (rn (cq (cr ?_)))
  refine sQ 43 (yb (aD b) 0 (kM_ r_2 B2 c2) K9 K4 (hS15.c 0)) ?_
  obtain ⟨⟨r_8, r_9⟩, hc5, hF2⟩ := bI hF2
  refine sc 44 rfl rfl (yC [gM_ r_2 B2 c2] k_call_7 (c_spec_BlochOf r_2 B2 c2 r_2.Cells.length _ rfl (hS15.inn0 [(true, 1)] rfl) hc5)) ?_
  rintro _ w_13 ⟨B6, c6, rfl, hd5⟩
  have hS16 := hS15.out0 hd5
  refine sQ 42 (ym (.tuple #[gB_ r_8 B6 c6, .bool r_9])) <| sQ 45 (ye (gB_ r_8 B6 c6)) <| sQ 46 (ye (.bool r_9)) ?_
  refine sS 11 (yN [.slice none 0 0] 1 hS16 K36) ?_
  rintro _ w_14 ⟨b4, rfl, hS17⟩
  refine s0 (yT 7 1 (aD b4) 29 (gB_ r_8 B6 c6) (kB_ r_8 B6 c6) 0 hS17 K16) ?_
  rintro _ w_15 ⟨rfl, hS18⟩
  refine sQ 12 (yg (.bool r_9)) (rn (cq (cq (cr ?_))))
  refine sQ 47 (ym (.bool r_5)) <| sQ 48 (ym (.bool r_9)) <| sQ 49 (Y_bne (p := r_5) (q := r_9) k_und_4 rfl rfl rfl) <| sQ 50 (ym (.bool (!(r_5 == r_9)))) ?_
  refine sgq 51 (B := (!(!(r_5 == r_9)))) (v := gB_ r_4 B4 c4) rfl rfl (uF_ 50) (fun hg => (yb (aD b2) 0 (kB_ r_4 B4 c4) K25 K16 (hS18.c 3))) ?_
  refine sgq 52 (B := (!(!(r_5 == r_9)))) (v := gB_ r_8 B6 c6) rfl rfl (uF_ 50) (fun hg1 => (yb (aD b4) 0 (kB_ r_8 B6 c6) K25 K16 (hS18.c 7))) ?_
  obtain ⟨r_10, hc6, hF2⟩ := bI hF2
  refine sgc 53 (B := (!(!(r_5 == r_9)))) (v := .bool r_10) (F := hS18.fn) rfl rfl (uF_ 50) hS18 (fun hg2 => (yC [gB_ r_4 B4 c4, gB_ r_8 B6 c6] K133 (CV.mono (c_laws_pSameBloch r_4 r_8 B4 c4 r_4.Cells.length B6 c6 r_8.Cells.length _ rfl rfl (hS18.inn0 [(false, 2), (false, 6)] rfl) (gb_inv hc6 hg2)) (by rintro _ _ ⟨rfl, h⟩; exact ⟨rfl, hS18.out00 h⟩)) rfl (mc (gv_of (v := gB_ r_4 B4 c4) hg2) (mc (gv_of (v := gB_ r_8 B6 c6) hg2) mn)))) ?_
  rintro w_16 hS19
  have hS19 : ST _ _ w_16 _ _ := hS19
  refine sgq 54 (B := (!(!(r_5 == r_9)))) (v := .bool (!r_10)) rfl rfl (uF_ 50) (fun hg3 => (Y_not (p := r_10) rfl (gv_of (v := .bool r_10) hg3))) ?_
  refine sQ 55 (Y_or (b := (!(r_5 == r_9))) (z := (!r_10)) rfl rfl rfl rfl) (rn ?_)
  refine cw_cond (b := ((!(r_5 == r_9)) || (!r_10))) rfl (fun hb1 => ?_) (fun hb1 => ?_)
  ·skip
   have hF3 := ct hF2 hb1
   refine cq (cr ?_)
   refine sQ 4 (yg (.bool false)) (rn (ct_ ?_))
   obtain rfl := sI hF3
   exact ret1 Tryz.results3 (v1 := .bool false) (resAt_tmp rfl) ⟨rfl, (hS19.sN [])⟩
  ·skip
   have hF4 := cf' hF2 hb1
   refine cw_skip (cq ?_)
   obtain ⟨z, hz, hF5⟩ := bI hF4
   refine cw_mid (fun f w => .inl () = z ∧ FF f [(5, pt (aD b) 0), (7, pt (aD b2) 0), (8, .bool r_5)] ∧ ST w0 [] w [⟨aD b, 26, kM_ r_2 B2 c2, 3⟩, ⟨aD b2, 29, kB_ r_4 B4 c4, 1⟩, ⟨B4, 43, (r_4.Cells.flatMap eN0), c4 * 5⟩] [⟨B3, (r_3.Cells.flatMap eN0)⟩, ⟨B2, (r_2.Cells.flatMap eN0)⟩, ⟨B, (code.flatMap enc_u8)⟩, ⟨B1, (more.flatMap enc_u8)⟩, ⟨(aD 0), [vi 1, vi 0, vi 0, vi 0, vi 2]⟩]) ?_ ?_
   ·skip
    refine cq (cr ?_)
    refine sQ 56 (ym (.bool r_5)) <| sQ 57 (ym (.bool r_5)) ?_
    refine sgq 58 (B := r_5) (v := .bool r_7) rfl rfl (uT_ 57) (fun hg4 => (ym (.bool r_7))) ?_
    refine sQ 59 (Y_and (b := r_5) (z := r_7) rfl rfl rfl rfl) (rn ?_)
    refine cw_cond (b := (r_5 && r_7)) rfl (fun hb2 => ?_) (fun hb2 => ?_)
    ·skip
     have hF6 := ct hz hb2
     refine cq (cr ?_)
     refine sQ 61 (yb (aD b) 0 (kM_ r_2 B2 c2) K9 K4 (hS19.c 0)) <| sQ 62 (yb (aD b1) 0 (kM_ r_3 B3 c3) K9 K4 (hS19.c 1)) ?_
     obtain ⟨⟨r_11, r_12⟩, hc7, hF6⟩ := bI hF6
     refine sc 63 rfl rfl (yC [gM_ r_2 B2 c2, gM_ r_3 B3 c3] k_call_9 (c_spec_MulMatrix r_2 r_3 B2 c2 r_2.Cells.length B3 c3 r_3.Cells.length _ rfl rfl (hS19.inn0 [(true, 1), (true, 0)] rfl) hc7)) ?_
     rintro _ w_17 ⟨B7, c7, rfl, hd6⟩
     have hS21 := hS19.out0 hd6
     refine sQ 60 (ym (.tuple #[gM_ r_11 B7 c7, .bool r_12])) <| sQ 64 (ye (gM_ r_11 B7 c7)) <| sQ 65 (ye (.bool r_12)) ?_
     refine sS 13 (yN kN_ 3 hS21 K12) ?_
     rintro _ w_18 ⟨b5, rfl, hS22⟩
     refine s0 (yT 9 3 (aD b5) 26 (gM_ r_11 B7 c7) (kM_ r_11 B7 c7) 0 hS22 K4) ?_
     rintro _ w_19 ⟨rfl, hS23⟩
     refine sQ 14 (yg (.bool r_12)) (rn (cq (cr ?_)))
     refine sQ 67 (yb (aD b5) 0 (kM_ r_11 B7 c7) K9 K4 (hS23.c 9)) ?_
     obtain ⟨⟨r_13, r_14⟩, hc8, hF6⟩ := bI hF6
     refine sc 68 rfl rfl (yC [gM_ r_11 B7 c7] K111 (c_impl_BlochOf r_11 B7 c7 r_11.Cells.length _ rfl (hS23.inn0 [(false, 8), (true, 4)] rfl) hc8)) ?_
     rintro _ w_20 ⟨B8, c8, rfl, hd7⟩
     have hS24 := hS23.out0 hd7
     have hS24 : ST w0 [] _ [⟨aD b, 26, kM_ r_2 B2 c2, 3⟩, ⟨aD b1, 26, kM_ r_3 B3 c3, 3⟩, ⟨B4, 43, (r_4.Cells.flatMap eN0), c4 * 5⟩, ⟨aD b2, 29, kB_ r_4 B4 c4, 1⟩, ⟨B5, 43, (r_6.Cells.flatMap eN0), c5 * 5⟩, ⟨aD b3, 29, kB_ r_6 B5 c5, 1⟩, ⟨B6, 43, (r_8.Cells.flatMap eN0), c6 * 5⟩, ⟨aD b4, 29, kB_ r_8 B6 c6, 1⟩, ⟨B7, 43, (r_11.Cells.flatMap eN0), c7 * 5⟩, ⟨aD b5, 26, kM_ r_11 B7 c7, 3⟩, ⟨B8, 43, (r_13.Cells.flatMap eN0), c8 * 5⟩] [⟨B3, (r_3.Cells.flatMap eN0)⟩, ⟨B2, (r_2.Cells.flatMap eN0)⟩, ⟨B, (code.flatMap enc_u8)⟩, ⟨B1, (more.flatMap enc_u8)⟩, ⟨(aD 0), [vi 1, vi 0, vi 0, vi 0, vi 2]⟩] := hS24
     refine sQ 66 (ym (.tuple #[gB_ r_13 B8 c8, .bool r_14])) <| sQ 69 (ye (gB_ r_13 B8 c8)) <| sQ 70 (ye (.bool r_14)) ?_
     refine sS 15 (yN [.slice none 0 0] 1 hS24 K36) ?_
     rintro _ w_21 ⟨b6, rfl, hS25⟩
     refine s0 (yT 11 1 (aD b6) 29 (gB_ r_13 B8 c8) (kB_ r_13 B8 c8) 0 hS25 K16) ?_
     rintro _ w_22 ⟨rfl, hS26⟩
     refine sQ 16 (yg (.bool r_14)) (rn (cq (cr ?_)))
     refine sQ 72 (yb (aD b2) 0 (kB_ r_4 B4 c4) K25 K16 (hS26.c 3)) <| sQ 73 (yb (aD b3) 0 (kB_ r_6 B5 c5) K25 K16 (hS26.c 5)) ?_
     obtain ⟨⟨r_15, r_16⟩, hc9, hF6⟩ := bI hF6
     refine sc 74 rfl rfl (yC [gB_ r_4 B4 c4, gB_ r_6 B5 c5] k_call_10 (c_impl_MulBloch r_4 r_6 B4 c4 r_4.Cells.length B5 c5 r_6.Cells.length _ rfl rfl (hS26.inn0 [(false, 2), (false, 4)] rfl) hc9)) ?_
     rintro _ w_23 ⟨B9, c9, rfl, hd8⟩
     have hS27 := hS26.out0 hd8
     refine sQ 71 (ym (.tuple #[gB_ r_15 B9 c9, .bool r_16])) <| sQ 75 (ye (gB_ r_15 B9 c9)) <| sQ 76 (ye (.bool r_16)) ?_
     refine sS 17 (yN [.slice none 0 0] 1 hS27 K36) ?_
     rintro _ w_24 ⟨b7, rfl, hS28⟩
     have hS28 : ST w0 [] _ [⟨aD b, 26, kM_ r_2 B2 c2, 3⟩, ⟨aD b1, 26, kM_ r_3 B3 c3, 3⟩, ⟨B4, 43, (r_4.Cells.flatMap eN0), c4 * 5⟩, ⟨aD b2, 29, kB_ r_4 B4 c4, 1⟩, ⟨B5, 43, (r_6.Cells.flatMap eN0), c5 * 5⟩, ⟨aD b3, 29, kB_ r_6 B5 c5, 1⟩, ⟨B6, 43, (r_8.Cells.flatMap eN0), c6 * 5⟩, ⟨aD b4, 29, kB_ r_8 B6 c6, 1⟩, ⟨B7, 43, (r_11.Cells.flatMap eN0), c7 * 5⟩, ⟨aD b5, 26, kM_ r_11 B7 c7, 3⟩, ⟨B8, 43, (r_13.Cells.flatMap eN0), c8 * 5⟩, ⟨aD b6, 29, kB_ r_13 B8 c8, 1⟩, ⟨B9, 43, (r_15.Cells.flatMap eN0), c9 * 5⟩, ⟨aD b7, 29, [.slice none 0 0], 1⟩] [⟨B3, (r_3.Cells.flatMap eN0)⟩, ⟨B2, (r_2.Cells.flatMap eN0)⟩, ⟨B, (code.flatMap enc_u8)⟩, ⟨B1, (more.flatMap enc_u8)⟩, ⟨(aD 0), [vi 1, vi 0, vi 0, vi 0, vi 2]⟩] := hS28
     refine s0 (yT 13 1 (aD b7) 29 (gB_ r_15 B9 c9) (kB_ r_15 B9 c9) 0 hS28 K16) ?_
     rintro _ w_25 ⟨rfl, hS29⟩
     refine sQ 18 (yg (.bool r_16)) (rn (cq (cr ?_)))
     refine sQ 77 (ym (.bool r_12)) <| sQ 78 (ym (.bool r_12)) ?_
     refine sgq 79 (B := r_12) (v := .bool r_14) rfl rfl (uT_ 78) (fun hg5 => (ym (.bool r_14))) ?_
     refine sQ 80 (Y_and (b := r_12) (z := r_14) rfl rfl rfl rfl) <| sQ 81 (ym (.bool (r_12 && r_14))) ?_
     refine sgq 82 (B := (r_12 && r_14)) (v := .bool r_16) rfl rfl (uT_ 81) (fun hg6 => (ym (.bool r_16))) ?_
     refine sQ 83 (Y_and (b := (r_12 && r_14)) (z := r_16) rfl rfl rfl rfl) <| sQ 84 (ym (.bool ((r_12 && r_14) && r_16))) ?_
     refine sgq 85 (B := ((r_12 && r_14) && r_16)) (v := gB_ r_13 B8 c8) rfl rfl (uT_ 84) (fun hg7 => (yb (aD b6) 0 (kB_ r_13 B8 c8) K25 K16 (hS29.c 11))) ?_
     refine sgq 86 (B := ((r_12 && r_14) && r_16)) (v := gB_ r_15 B9 c9) rfl rfl (uT_ 84) (fun hg8 => (yb (aD b7) 0 (kB_ r_15 B9 c9) K25 K16 (hS29.c 13))) ?_
     obtain ⟨r_17, hc10, hF6⟩ := bI hF6
     refine sgc 87 (B := ((r_12 && r_14) && r_16)) (v := .bool r_17) (F := hS29.fn) rfl rfl (uT_ 84) hS29 (fun hg9 => (yC [gB_ r_13 B8 c8, gB_ r_15 B9 c9] K133 (CV.mono (c_laws_pSameBloch r_13 r_15 B8 c8 r_13.Cells.length B9 c9 r_15.Cells.length _ rfl rfl (hS29.inn0 [(false, 10), (false, 12)] rfl) (gb_inv hc10 hg9)) (by rintro _ _ ⟨rfl, h⟩; exact ⟨rfl, hS29.out00 h⟩)) rfl (mc (gv_of (v := gB_ r_13 B8 c8) hg9) (mc (gv_of (v := gB_ r_15 B9 c9) hg9) mn)))) ?_
     rintro w_26 hS30
     refine sgq 88 (B := ((r_12 && r_14) && r_16)) (v := .bool (!r_17)) rfl rfl (uT_ 84) (fun hg10 => (Y_not (p := r_17) rfl (gv_of (v := .bool r_17) hg10))) ?_
     refine sQ 89 (Y_and (b := ((r_12 && r_14) && r_16)) (z := (!r_17)) rfl rfl rfl rfl) (rn ?_)
     refine cw_cond (b := (((r_12 && r_14) && r_16) && (!r_17))) rfl (fun hb3 => ?_) (fun hb3 => ?_)
     ·skip
      have hF7 := ct hF6 hb3
      refine cq (cr ?_)
      refine sQ 4 (yg (.bool false)) (rn (ct_ ?_))
      obtain rfl := sI hF7
      obtain rfl := sI hF5
      exact ret1 Tryz.results3 (v1 := .bool false) (resAt_tmp rfl) ⟨rfl, (hS30.sN [])⟩
     ·skip
      have hF8 := cf' hF6 hb3
      refine cw_skip ?_
      exact ⟨(sI hF8), (fc rfl (fc rfl (fc rfl fn_))), (hS30.sel [0, 3, 2] rfl rfl)⟩
    ·skip
     have hF9 := cf' hz hb2
     refine cw_skip ?_
     exact ⟨(sI hF9), (fc rfl (fc rfl (fc rfl fn_))), (hS19.sel [0, 3, 2] rfl rfl)⟩
   rintro f w ⟨rfl, hf, hS20⟩
   refine cq (cq (cr ?_))
   refine sQ 90 (ym (.bool r_5) rfl (hf.g 8 2)) (rn ?_)
   refine cw_cond (b := r_5) rfl (fun hb4 => ?_) (fun hb4 => ?_)
   ·skip
    have hF10 := ct hF5 hb4
    refine cq (cr ?_)
    refine sQ 92 (yb (aD b2) 0 (kB_ r_4 B4 c4) K25 K16 (hS20.c 1) rfl (hf.g 7 1)) ?_
    obtain ⟨⟨r_18, r_19⟩, hc11, hF10⟩ := bI hF10
    refine sc 93 rfl rfl (yC [gB_ r_4 B4 c4] k_call_11 (c_impl_BlochExp r_4 B4 c4 r_4.Cells.length _ rfl (hS20.inn0 [(false, 2)] rfl) hc11)) ?_
    rintro _ w_27 ⟨rfl, hd9⟩
    have hS31 := hS20.out00 hd9
    refine sQ 91 (ym (.tuple #[vi r_18, .bool r_19])) <| sQ 94 (ye (vi r_18)) <| sQ 95 (ye (.bool r_19)) <| sQ 19 (yg (vi r_18)) <| sQ 20 (yg (.bool r_19)) (rn (cq (cr ?_)))
    refine sQ 97 (yb (aD b2) 0 (kB_ r_4 B4 c4) K25 K16 (hS31.c 1) rfl (hf.g 7 1)) ?_
    obtain ⟨⟨r_20, r_21⟩, hc12, hF10⟩ := bI hF10
    refine sc 98 rfl rfl (yC [gB_ r_4 B4 c4] k_call_12 (c_impl_CliffordIndex r_4 B4 c4 r_4.Cells.length _ rfl (hS31.inn0 [(false, 2), (true, 4)] rfl) hc12)) ?_
    rintro _ w_28 ⟨rfl, hd10⟩
    have hS32 := hS31.out00 hd10
    have hS32 : ST w0 [] _ [⟨aD b, 26, kM_ r_2 B2 c2, 3⟩, ⟨aD b2, 29, kB_ r_4 B4 c4, 1⟩, ⟨B4, 43, (r_4.Cells.flatMap eN0), c4 * 5⟩] [⟨B3, (r_3.Cells.flatMap eN0)⟩, ⟨B2, (r_2.Cells.flatMap eN0)⟩, ⟨B, (code.flatMap enc_u8)⟩, ⟨B1, (more.flatMap enc_u8)⟩, ⟨(aD 0), [vi 1, vi 0, vi 0, vi 0, vi 2]⟩] := hS32
    refine sQ 96 (ym (.tuple #[vi r_20, .bool r_21])) <| sQ 99 (ye (vi r_20)) <| sQ 100 (ye (.bool r_21)) <| sQ 21 (yg (vi r_20)) <| sQ 22 (yg (.bool r_21)) (rn (cq (cr ?_)))
    refine sQ 102 (yb (aD b) 0 (kM_ r_2 B2 c2) K9 K4 (hS32.c 0) rfl (hf.g 5 0)) ?_
    obtain ⟨⟨r_22, r_23⟩, hc13, hF10⟩ := bI hF10
    refine sc 103 rfl rfl (yC [gM_ r_2 B2 c2] k_call_7 (c_spec_BlochOf r_2 B2 c2 r_2.Cells.length _ rfl (hS32.inn0 [(true, 1)] rfl) hc13)) ?_
    rintro _ w_29 ⟨B10, c10, rfl, hd11⟩
    have hS33 := hS32.out0 hd11
    refine sQ 101 (ym (.tuple #[gB_ r_22 B10 c10, .bool r_23])) <| sQ 104 (ye (gB_ r_22 B10 c10)) <| sQ 105 (ye (.bool r_23)) ?_
    refine sS 23 (yN [.slice none 0 0] 1 hS33 K36) ?_
    rintro _ w_30 ⟨b8, rfl, hS34⟩
    refine s0 (yT 4 1 (aD b8) 29 (gB_ r_22 B10 c10) (kB_ r_22 B10 c10) 0 hS34 K16) ?_
    rintro _ w_31 ⟨rfl, hS35⟩
    refine sQ 24 (yg (.bool r_23)) (rn (cq (cr ?_)))
    refine sQ 106 (ym (.bool r_19)) <| sQ 107 (ym (.bool r_19)) ?_
    refine sgq 108 (B := r_19) (v := .bool r_23) rfl rfl (uT_ 107) (fun hg11 => (ym (.bool r_23))) ?_
    refine sQ 109 (Y_and (b := r_19) (z := r_23) rfl rfl rfl rfl) <| sQ 110 (ym (.bool (r_19 && r_23))) ?_
    refine sgq 111 (B := (r_19 && r_23)) (v := gB_ r_4 B4 c4) rfl rfl (uT_ 110) (fun hg12 => (yb (aD b2) 0 (kB_ r_4 B4 c4) K25 K16 (hS35.c 1) rfl (hf.g 7 1))) ?_
    refine sgq 112 (B := (r_19 && r_23)) (v := gB_ r_22 B10 c10) rfl rfl (uT_ 110) (fun hg13 => (yb (aD b8) 0 (kB_ r_22 B10 c10) K25 K16 (hS35.c 4))) ?_
    obtain ⟨r_24, hc14, hF10⟩ := bI hF10
    refine sgc 113 (B := (r_19 && r_23)) (v := .bool r_24) (F := hS35.fn) rfl rfl (uT_ 110) hS35 (fun hg14 => (yC [gB_ r_4 B4 c4, gB_ r_22 B10 c10] K133 (CV.mono (c_laws_pSameBloch r_4 r_22 B4 c4 r_4.Cells.length B10 c10 r_22.Cells.length _ rfl rfl (hS35.inn0 [(false, 2), (false, 3)] rfl) (gb_inv hc14 hg14)) (by rintro _ _ ⟨rfl, h⟩; exact ⟨rfl, hS35.out00 h⟩)) rfl (mc (gv_of (v := gB_ r_4 B4 c4) hg14) (mc (gv_of (v := gB_ r_22 B10 c10) hg14) mn)))) ?_
    rintro w_32 hS36
    have hS36 : ST _ _ w_32 _ _ := hS36
    refine sQ 114 (Y_and (b := (r_19 && r_23)) (z := r_24) rfl rfl rfl rfl) <| sQ 115 (ym (.bool ((r_19 && r_23) && r_24))) ?_
    refine sgq 116 (B := ((r_19 && r_23) && r_24)) (v := vi r_18) rfl rfl (uT_ 115) (fun hg15 => (ym (vi r_18))) ?_
    refine sgq 117 (B := ((r_19 && r_23) && r_24)) (v := .bool (r_18 == 0)) rfl rfl (uT_ 115) (fun hg16 => (yE r_18 0 rfl (gv_of (v := vi r_18) hg16))) ?_
    refine sgq 118 (B := ((r_19 && r_23) && r_24)) (v := .bool r_21) rfl rfl (uT_ 115) (fun hg17 => (ym (.bool r_21))) ?_
    refine sgq 119 (B := ((r_19 && r_23) && r_24)) (v := .bool ((r_18 == 0) == r_21)) rfl rfl (uT_ 115) (fun hg18 => (Y_beq (p := (r_18 == 0)) (q := r_21) k_und_4 rfl (gv_of (v := .bool (r_18 == 0)) hg18) (gv_of (v := .bool r_21) hg18))) ?_
    refine sQ 120 (Y_and (b := ((r_19 && r_23) && r_24)) (z := ((r_18 == 0) == r_21)) rfl rfl rfl rfl) <| sQ 4 (yg (.bool (((r_19 && r_23) && r_24) && ((r_18 == 0) == r_21)))) (rn (ct_ ?_))
    obtain rfl := sI hF10
    exact ret1 Tryz.results3 (v1 := .bool (((r_19 && r_23) && r_24) && ((r_18 == 0) == r_21))) (resAt_tmp rfl) ⟨rfl, (hS36.sN [])⟩
   ·skip
    have hF11 := cf' hF5 hb4
    refine cw_skip (cq (cr ?_))
    refine sQ 4 (yg (.bool true)) (rn (ct_ ?_))
    obtain rfl := sI hF11
    exact ret1 Tryz.results3 (v1 := .bool true) (resAt_tmp rfl) ⟨rfl, (hS20.sN [])⟩
end Go.VK
