/- Walks: each Go function returns what its Lean function says. By program. -/
import Derived.Test.YtgacclcoghlhmaaNormalizeCliffordFa
import Derived.Test.YtgacclcoghlhmaaNormalizeCliffordShelf
import Derived.Test.YtgacclcoghlhmaaLibQ
import Derived.Test.YtgacclcoghlhmaaNormalizeCliffordW2
set_option linter.unusedVariables false
set_option maxRecDepth 100000
set_option maxHeartbeats 4000000
namespace Go.VK
open Go.RowKit
open Go.Proofs
open Go.IntKind
attribute [local irreducible] CW RW RA CV Y Yw Yc Ys RetOf
attribute [local irreducible] F_impl_identity
theorem c_impl_identity (n : Int)  (w0 : World)  (hS : ST w0 [] w0 [] []) {r_ : TTableau} (hF : F_impl_identity n = some r_) :
  CV Try.prog 28 #[vi n] w0 (fun v w' => ∃ (B : Option Addr) (c : Nat) (B1 : Option Addr) (c1 : Nat), v = .agg #[vi r_.Qubits, .slice B r_.XImages.length c, .slice B1 r_.ZImages.length c1] ∧ ST w0 [] w' [⟨B, 71, (r_.XImages.flatMap eN0), c * 3⟩, ⟨B1, 71, (r_.ZImages.flatMap eN0), c1 * 3⟩] []) := by
 unfold F_impl_identity at hF
 refine cv_of_cw 29 Try.func28 rfl Try.ntmps28 rfl ?_
 refine cq (cr ?_)
 refine sS 2 (yN [vi 0, .slice none 0 0, .slice none 0 0] 3 hS K31) ?_
 rintro _ w_ ⟨b, rfl, hS1⟩
 refine rn (cq (cr ?_))
 refine sQ 5 (ym (vi n)) <| sQ 6 (Y_buildS (zs := [vi 0, .slice none 0 0, .slice none 0 0]) (vs := [(0, vi n)]) (cs := [vi n, .slice none 0 0, .slice none 0 0]) K59 K31 rfl (mpc rfl mpn) rfl) ?_
 refine sS 3 (yN [vi 0, .slice none 0 0, .slice none 0 0] 3 hS1 K31) ?_
 rintro _ w_1 ⟨b1, rfl, hS2⟩
 refine s0 (yT 1 3 (aD b1) 40 (.agg #[vi n, .slice none 0 0, .slice none 0 0]) [vi n, .slice none 0 0, .slice none 0 0] 0 hS2 K10) ?_
 rintro _ w_2 ⟨rfl, hS3⟩
 refine rn (cq (cq (cr ?_)))
 refine sQ 7 (ym (vi n)) <| sQ 8 (ym (vi 0)) (rn ?_)
 obtain ⟨hN, hF⟩ := chk_inv hF
 obtain ⟨z, hz, hF1⟩ := bI hF
 have hS5 := hS3.addNil 71
 have hS6 := hS5.addNil 71
 refine cw_block ?_
 refine cw_loop (fun k f w => ∃ (i : Nat) (XImages : List TPauli) (ZImages : List TPauli) (B2 : Option Addr) (c2 : Nat) (B3 : Option Addr) (c3 : Nat), FF f [(2, pt (aD b) 0), (3, pt (aD b1) 0), (7, vi n), (8, vi (i : Int))] ∧ ST w0 [] w [⟨aD b, 40, [vi 0, .slice none 0 0, .slice none 0 0], 3⟩, ⟨aD b1, 40, [vi n, .slice B2 XImages.length c2, .slice B3 ZImages.length c3], 3⟩, ⟨B2, 71, (XImages.flatMap eN0), c2 * 3⟩, ⟨B3, 71, (ZImages.flatMap eN0), c3 * 3⟩] [] ∧ i + k = n.toNat ∧ forN F_impl_identity_l1 k i (XImages, ZImages) = some z) n.toNat ⟨0, [], [], none, 0, none, 0, (fc rfl (fc rfl (fc rfl (fc rfl fn_)))), (hS6.sel [0, 1, 2, 3] rfl rfl), Nat.zero_add _, hz⟩ ?_
 rintro k_ f w ⟨i, XImages, ZImages, B2, c2, B3, c3, hf, hS4, hik, hL⟩
 refine cq (cr ?_)
 refine sQ 9 (yL (i : Int) n rfl (hf.g 8 3) (hf.g 7 2)) (rn (cq ?_))
 refine cw_cond (b := (decide ((i : Int) < n))) rfl (fun hlt => ?_) (fun hlt => ?_)
 ·skip
  have hlt1 : i < n.toNat := by have h := of_decide_eq_true hlt; omega
  obtain ⟨K7, rfl⟩ : ∃ k2, k_ = k2 + 1 := ⟨k_ - 1, by omega⟩
  obtain ⟨y, hb, hL1⟩ := forN_go hL
  unfold F_impl_identity_l1 at hb
  refine cw_skip (cq (cw_block (cq (cr ?_))))
  refine sQ 10 (ym (vi (i : Int)) rfl (hf.g 8 3)) <| sQ 4 (yg (vi (i : Int))) (rn ?_)
  obtain ⟨hsh, hb⟩ := chk_inv hb
  obtain ⟨hap, hb⟩ := chk_inv hb
  obtain ⟨hsh1, hb⟩ := chk_inv hb
  obtain ⟨hap1, hb⟩ := chk_inv hb
  refine cw_mid (fun f w => ∃ (B6 : Option Addr) (c6 : Nat) (B7 : Option Addr) (c7 : Nat), FF f [(2, pt (aD b) 0), (3, pt (aD b1) 0), (7, vi n), (8, vi (i : Int))] ∧ ST w0 [] w [⟨aD b, 40, [vi 0, .slice none 0 0, .slice none 0 0], 3⟩, ⟨aD b1, 40, [vi n, .slice B6 ((XImages ++ [(TPauli.mk 0 (shlK .i64 1 (i : Int)) 0)]).length) c6, .slice B7 ((ZImages ++ [(TPauli.mk 0 0 (shlK .i64 1 (i : Int)))]).length) c7], 3⟩, ⟨B6, 71, ((XImages ++ [(TPauli.mk 0 (shlK .i64 1 (i : Int)) 0)]).flatMap eN0), c6 * 3⟩, ⟨B7, 71, ((ZImages ++ [(TPauli.mk 0 0 (shlK .i64 1 (i : Int)))]).flatMap eN0), c7 * 3⟩] []) ?_ ?_
  ·skip
   refine ra_start (hS4.se [0]).fn (by kernel_rfl) ?_
   have hS8 := hS4.drew
   refine rq 0 11 (v := pt (aD b1) 1) rfl (hS8.se [0]) (fun w' hw' => (yd (aD b1) 0 0 K9 K1 rfl (hf.g 3 1))) ?_
   refine rq 2 13 (v := vi (i : Int)) rfl (hS8.se [0]) (fun w' hw' => (ym (vi (i : Int)))) ?_
   refine rq 3 14 (v := vi (shlK .i64 1 (i : Int))) rfl (hS8.se [0]) (fun w' hw' => (Y_shl (k := .i64) (a := 1) (k' := .i64) (b := (i : Int)) rfl rfl rfl hsh)) ?_
   refine rq 4 15 (v := .agg #[vi 0, vi (shlK .i64 1 (i : Int)), vi 0]) rfl (hS8.se [0]) (fun w' hw' => (Y_buildS (zs := [vi 0, vi 0, vi 0]) (vs := [(1, vi (shlK .i64 1 (i : Int)))]) (cs := [vi 0, vi (shlK .i64 1 (i : Int)), vi 0]) K24 K5 rfl (mpc rfl mpn) rfl)) ?_
   refine rq 7 18 (v := pt (aD b1) 2) rfl (hS8.se [0]) (fun w' hw' => (yd (aD b1) 0 0 K11 K1 rfl (hf.g 3 1))) ?_
   refine rq 9 20 (v := vi (i : Int)) rfl (hS8.se [0]) (fun w' hw' => (ym (vi (i : Int)))) ?_
   refine rq 10 21 (v := vi (shlK .i64 1 (i : Int))) rfl (hS8.se [0]) (fun w' hw' => (Y_shl (k := .i64) (a := 1) (k' := .i64) (b := (i : Int)) rfl rfl rfl hsh1)) ?_
   refine rq 11 22 (v := .agg #[vi 0, vi 0, vi (shlK .i64 1 (i : Int))]) rfl (hS8.se [0]) (fun w' hw' => (Y_buildS (zs := [vi 0, vi 0, vi 0]) (vs := [(2, vi (shlK .i64 1 (i : Int)))]) (cs := [vi 0, vi 0, vi (shlK .i64 1 (i : Int))]) K24 K5 rfl (mpc rfl mpn) rfl)) ?_
   refine rA [1, 5, 8, 12] ?_
   refine ra_y 12 (i := 1) (v := .slice B2 XImages.length c2) rfl rfl rfl (yl (aD b1) 1 [vi n, .slice B2 XImages.length c2, .slice B3 ZImages.length c3] (.slice B2 XImages.length c2) K6 (hS8.c 1)) (hS8.se [0]) ?_ ?_
   ·skip
    refine rA [5, 8, 12] ?_
    refine rS 16 5 rfl (Ys_bslice (s := 3) (len := 1) (vs := [(0, .agg #[vi 0, vi (shlK .i64 1 (i : Int)), vi 0])]) (cs := [vi 0, vi (shlK .i64 1 (i : Int)), vi 0]) (zs := [vi 0, vi 0, vi 0]) (m := 3) hS8 K2 K0 K12 rfl (mpc rfl mpn) rfl rfl rfl (by kernel_rfl) (by kernel_rfl) rfl) ?_ ?_
    ·rintro _ w_3 ⟨b2, rfl, hS9⟩
     refine ⟨(hS9.se [0]), ?_⟩
     refine rA [6, 8, 12] ?_
     refine rS 17 6 rfl (Ys_append (s := 3) (by' := 24) (i := 2) (nn := XImages.length) (c := c2) (k := 1) (len := (XImages ++ [(TPauli.mk 0 (shlK .i64 1 (i : Int)) 0)]).length) (B := B2) (xs := ([(TPauli.mk 0 (shlK .i64 1 (i : Int)) 0)].flatMap eN0)) (cs' := ((XImages ++ [(TPauli.mk 0 (shlK .i64 1 (i : Int)) 0)]).flatMap eN0)) hS9 K2 K0 K8 K5 rfl (by decide) rfl rfl rfl rfl (fm_lenn (l := XImages) eN1 rfl) rfl (hS9.c 4) (fm_lenn (l := [(TPauli.mk 0 (shlK .i64 1 (i : Int)) 0)]) eN1 rfl) (fm_one' (enc := eN0) eN3 [(TPauli.mk 0 (shlK .i64 1 (i : Int)) 0)]) (by have := hap; omega) (by have := hap; simp only [maxLen]; omega) (fm_app _ _) (app_len (l := XImages) (l' := [(TPauli.mk 0 (shlK .i64 1 (i : Int)) 0)]) rfl rfl)) ?_ ?_
     ·rintro _ w_4 ⟨B4, c4, rfl, hS10⟩
      refine ⟨(hS10.se [0]), ?_⟩
      refine rA [8, 12] ?_
      refine ra_y 19 (i := 8) (v := .slice B3 ZImages.length c3) rfl rfl rfl (yl (aD b1) 2 [vi n, .slice B2 XImages.length c2, .slice B3 ZImages.length c3] (.slice B3 ZImages.length c3) K6 (hS10.c 1)) (hS10.se [0]) ?_ ?_
      ·skip
       refine rq 14 25 (v := pt (aD b1) 1) rfl (hS10.se [0]) (fun w' hw' => (yd (aD b1) 0 0 K9 K1 rfl (hf.g 3 1))) ?_
       refine rA [12] ?_
       refine rS 23 12 rfl (Ys_bslice (s := 3) (len := 1) (vs := [(0, .agg #[vi 0, vi 0, vi (shlK .i64 1 (i : Int))])]) (cs := [vi 0, vi 0, vi (shlK .i64 1 (i : Int))]) (zs := [vi 0, vi 0, vi 0]) (m := 3) hS10 K2 K0 K12 rfl (mpc rfl mpn) rfl rfl rfl (by kernel_rfl) (by kernel_rfl) rfl) ?_ ?_
       ·rintro _ w_5 ⟨b3, rfl, hS11⟩
        refine ⟨(hS11.se [0]), ?_⟩
        refine rA [13] ?_
        refine rS 24 13 rfl (Ys_append (s := 3) (by' := 24) (i := 3) (nn := ZImages.length) (c := c3) (k := 1) (len := (ZImages ++ [(TPauli.mk 0 0 (shlK .i64 1 (i : Int)))]).length) (B := B3) (xs := ([(TPauli.mk 0 0 (shlK .i64 1 (i : Int)))].flatMap eN0)) (cs' := ((ZImages ++ [(TPauli.mk 0 0 (shlK .i64 1 (i : Int)))]).flatMap eN0)) hS11 K2 K0 K8 K5 rfl (by decide) rfl rfl rfl rfl (fm_lenn (l := ZImages) eN1 rfl) rfl (hS11.c 5) (fm_lenn (l := [(TPauli.mk 0 0 (shlK .i64 1 (i : Int)))]) eN1 rfl) (fm_one' (enc := eN0) eN3 [(TPauli.mk 0 0 (shlK .i64 1 (i : Int)))]) (by have := hap1; omega) (by have := hap1; simp only [maxLen]; omega) (fm_app _ _) (app_len (l := ZImages) (l' := [(TPauli.mk 0 0 (shlK .i64 1 (i : Int)))]) rfl rfl)) ?_ ?_
        ·rintro _ w_6 ⟨B5, c5, rfl, hS12⟩
         refine ⟨(hS12.se [0]), ?_⟩
         refine rA [15] ?_
         refine rZ 15 rfl (yS 1 1 (aD b1) 40 (.slice B4 ((XImages ++ [(TPauli.mk 0 (shlK .i64 1 (i : Int)) 0)]).length) c4) [.slice B4 ((XImages ++ [(TPauli.mk 0 (shlK .i64 1 (i : Int)) 0)]).length) c4] 1 [vi n, .slice B4 ((XImages ++ [(TPauli.mk 0 (shlK .i64 1 (i : Int)) 0)]).length) c4, .slice B3 ZImages.length c3] hS12 K1) ?_ ?_
         ·rintro _ w_7 ⟨rfl, hS13⟩
          refine ⟨(hS13.se [0]), ?_⟩
          refine rq 16 26 (v := pt (aD b1) 2) rfl (hS13.se [0]) (fun w' hw' => (yd (aD b1) 0 0 K11 K1 rfl (hf.g 3 1))) ?_
          refine rA [17] ?_
          refine rZ 17 rfl (yS 1 1 (aD b1) 40 (.slice B5 ((ZImages ++ [(TPauli.mk 0 0 (shlK .i64 1 (i : Int)))]).length) c5) [.slice B5 ((ZImages ++ [(TPauli.mk 0 0 (shlK .i64 1 (i : Int)))]).length) c5] 2 [vi n, .slice B4 ((XImages ++ [(TPauli.mk 0 (shlK .i64 1 (i : Int)) 0)]).length) c4, .slice B5 ((ZImages ++ [(TPauli.mk 0 0 (shlK .i64 1 (i : Int)))]).length) c5] hS13 K1) ?_ ?_
          ·rintro _ w_8 ⟨rfl, hS14⟩
           refine ⟨(hS14.se [0]), ?_⟩
           refine ra_done (by kernel_rfl) ?_
           exact ⟨B4, c4, B5, c5, (fc (hf.g 2 0) (fc (hf.g 3 1) (fc (hf.g 7 2) (fc (hf.g 8 3) fn_)))), (hS14.sel [0, 1, 2, 3] rfl rfl)⟩
          exact aN
         exact aN
        exact aN
       exact aN
      refine rS 23 12 rfl (Ys_bslice (s := 3) (len := 1) (vs := [(0, .agg #[vi 0, vi 0, vi (shlK .i64 1 (i : Int))])]) (cs := [vi 0, vi 0, vi (shlK .i64 1 (i : Int))]) (zs := [vi 0, vi 0, vi 0]) (m := 3) hS10 K2 K0 K12 rfl (mpc rfl mpn) rfl rfl rfl (by kernel_rfl) (by kernel_rfl) rfl) ?_ ?_
      ·rintro _ w_9 ⟨b3, rfl, hS15⟩
       refine ⟨(hS15.se [0]), ?_⟩
       refine rA [8] ?_
       refine ra_y 19 (i := 8) (v := .slice B3 ZImages.length c3) rfl rfl rfl (yl (aD b1) 2 [vi n, .slice B2 XImages.length c2, .slice B3 ZImages.length c3] (.slice B3 ZImages.length c3) K6 (hS15.c 1)) (hS15.se [0]) ?_ ?_
       ·skip
        refine rq 14 25 (v := pt (aD b1) 1) rfl (hS15.se [0]) (fun w' hw' => (yd (aD b1) 0 0 K9 K1 rfl (hf.g 3 1))) ?_
        refine rA [13] ?_
        refine rS 24 13 rfl (Ys_append (s := 3) (by' := 24) (i := 3) (nn := ZImages.length) (c := c3) (k := 1) (len := (ZImages ++ [(TPauli.mk 0 0 (shlK .i64 1 (i : Int)))]).length) (B := B3) (xs := ([(TPauli.mk 0 0 (shlK .i64 1 (i : Int)))].flatMap eN0)) (cs' := ((ZImages ++ [(TPauli.mk 0 0 (shlK .i64 1 (i : Int)))]).flatMap eN0)) hS15 K2 K0 K8 K5 rfl (by decide) rfl rfl rfl rfl (fm_lenn (l := ZImages) eN1 rfl) rfl (hS15.c 5) (fm_lenn (l := [(TPauli.mk 0 0 (shlK .i64 1 (i : Int)))]) eN1 rfl) (fm_one' (enc := eN0) eN3 [(TPauli.mk 0 0 (shlK .i64 1 (i : Int)))]) (by have := hap1; omega) (by have := hap1; simp only [maxLen]; omega) (fm_app _ _) (app_len (l := ZImages) (l' := [(TPauli.mk 0 0 (shlK .i64 1 (i : Int)))]) rfl rfl)) ?_ ?_
        ·rintro _ w_10 ⟨B5, c5, rfl, hS16⟩
         refine ⟨(hS16.se [0]), ?_⟩
         refine rA [15] ?_
         refine rZ 15 rfl (yS 1 1 (aD b1) 40 (.slice B4 ((XImages ++ [(TPauli.mk 0 (shlK .i64 1 (i : Int)) 0)]).length) c4) [.slice B4 ((XImages ++ [(TPauli.mk 0 (shlK .i64 1 (i : Int)) 0)]).length) c4] 1 [vi n, .slice B4 ((XImages ++ [(TPauli.mk 0 (shlK .i64 1 (i : Int)) 0)]).length) c4, .slice B3 ZImages.length c3] hS16 K1) ?_ ?_
         ·rintro _ w_11 ⟨rfl, hS17⟩
          refine ⟨(hS17.se [0]), ?_⟩
          refine rq 16 26 (v := pt (aD b1) 2) rfl (hS17.se [0]) (fun w' hw' => (yd (aD b1) 0 0 K11 K1 rfl (hf.g 3 1))) ?_
          refine rA [17] ?_
          refine rZ 17 rfl (yS 1 1 (aD b1) 40 (.slice B5 ((ZImages ++ [(TPauli.mk 0 0 (shlK .i64 1 (i : Int)))]).length) c5) [.slice B5 ((ZImages ++ [(TPauli.mk 0 0 (shlK .i64 1 (i : Int)))]).length) c5] 2 [vi n, .slice B4 ((XImages ++ [(TPauli.mk 0 (shlK .i64 1 (i : Int)) 0)]).length) c4, .slice B5 ((ZImages ++ [(TPauli.mk 0 0 (shlK .i64 1 (i : Int)))]).length) c5] hS17 K1) ?_ ?_
          ·rintro _ w_12 ⟨rfl, hS18⟩
           refine ⟨(hS18.se [0]), ?_⟩
           refine ra_done (by kernel_rfl) ?_
           exact ⟨B4, c4, B5, c5, (fc (hf.g 2 0) (fc (hf.g 3 1) (fc (hf.g 7 2) (fc (hf.g 8 3) fn_)))), (hS18.sel [0, 1, 2, 3] rfl rfl)⟩
          exact aN
         exact aN
        exact aN
       exact aN
      exact aN
     refine ra_y 19 (i := 8) (v := .slice B3 ZImages.length c3) rfl rfl rfl (yl (aD b1) 2 [vi n, .slice B2 XImages.length c2, .slice B3 ZImages.length c3] (.slice B3 ZImages.length c3) K6 (hS9.c 1)) (hS9.se [0]) ?_ ?_
     ·skip
      refine rA [6, 12] ?_
      refine rS 17 6 rfl (Ys_append (s := 3) (by' := 24) (i := 2) (nn := XImages.length) (c := c2) (k := 1) (len := (XImages ++ [(TPauli.mk 0 (shlK .i64 1 (i : Int)) 0)]).length) (B := B2) (xs := ([(TPauli.mk 0 (shlK .i64 1 (i : Int)) 0)].flatMap eN0)) (cs' := ((XImages ++ [(TPauli.mk 0 (shlK .i64 1 (i : Int)) 0)]).flatMap eN0)) hS9 K2 K0 K8 K5 rfl (by decide) rfl rfl rfl rfl (fm_lenn (l := XImages) eN1 rfl) rfl (hS9.c 4) (fm_lenn (l := [(TPauli.mk 0 (shlK .i64 1 (i : Int)) 0)]) eN1 rfl) (fm_one' (enc := eN0) eN3 [(TPauli.mk 0 (shlK .i64 1 (i : Int)) 0)]) (by have := hap; omega) (by have := hap; simp only [maxLen]; omega) (fm_app _ _) (app_len (l := XImages) (l' := [(TPauli.mk 0 (shlK .i64 1 (i : Int)) 0)]) rfl rfl)) ?_ ?_
      ·rintro _ w_13 ⟨B4, c4, rfl, hS19⟩
       refine ⟨(hS19.se [0]), ?_⟩
       refine rq 14 25 (v := pt (aD b1) 1) rfl (hS19.se [0]) (fun w' hw' => (yd (aD b1) 0 0 K9 K1 rfl (hf.g 3 1))) ?_
       refine rA [12] ?_
       refine rS 23 12 rfl (Ys_bslice (s := 3) (len := 1) (vs := [(0, .agg #[vi 0, vi 0, vi (shlK .i64 1 (i : Int))])]) (cs := [vi 0, vi 0, vi (shlK .i64 1 (i : Int))]) (zs := [vi 0, vi 0, vi 0]) (m := 3) hS19 K2 K0 K12 rfl (mpc rfl mpn) rfl rfl rfl (by kernel_rfl) (by kernel_rfl) rfl) ?_ ?_
       ·rintro _ w_14 ⟨b3, rfl, hS20⟩
        refine ⟨(hS20.se [0]), ?_⟩
        refine rA [13] ?_
        refine rS 24 13 rfl (Ys_append (s := 3) (by' := 24) (i := 3) (nn := ZImages.length) (c := c3) (k := 1) (len := (ZImages ++ [(TPauli.mk 0 0 (shlK .i64 1 (i : Int)))]).length) (B := B3) (xs := ([(TPauli.mk 0 0 (shlK .i64 1 (i : Int)))].flatMap eN0)) (cs' := ((ZImages ++ [(TPauli.mk 0 0 (shlK .i64 1 (i : Int)))]).flatMap eN0)) hS20 K2 K0 K8 K5 rfl (by decide) rfl rfl rfl rfl (fm_lenn (l := ZImages) eN1 rfl) rfl (hS20.c 5) (fm_lenn (l := [(TPauli.mk 0 0 (shlK .i64 1 (i : Int)))]) eN1 rfl) (fm_one' (enc := eN0) eN3 [(TPauli.mk 0 0 (shlK .i64 1 (i : Int)))]) (by have := hap1; omega) (by have := hap1; simp only [maxLen]; omega) (fm_app _ _) (app_len (l := ZImages) (l' := [(TPauli.mk 0 0 (shlK .i64 1 (i : Int)))]) rfl rfl)) ?_ ?_
        ·rintro _ w_15 ⟨B5, c5, rfl, hS21⟩
         refine ⟨(hS21.se [0]), ?_⟩
         refine rA [15] ?_
         refine rZ 15 rfl (yS 1 1 (aD b1) 40 (.slice B4 ((XImages ++ [(TPauli.mk 0 (shlK .i64 1 (i : Int)) 0)]).length) c4) [.slice B4 ((XImages ++ [(TPauli.mk 0 (shlK .i64 1 (i : Int)) 0)]).length) c4] 1 [vi n, .slice B4 ((XImages ++ [(TPauli.mk 0 (shlK .i64 1 (i : Int)) 0)]).length) c4, .slice B3 ZImages.length c3] hS21 K1) ?_ ?_
         ·rintro _ w_16 ⟨rfl, hS22⟩
          refine ⟨(hS22.se [0]), ?_⟩
          refine rq 16 26 (v := pt (aD b1) 2) rfl (hS22.se [0]) (fun w' hw' => (yd (aD b1) 0 0 K11 K1 rfl (hf.g 3 1))) ?_
          refine rA [17] ?_
          refine rZ 17 rfl (yS 1 1 (aD b1) 40 (.slice B5 ((ZImages ++ [(TPauli.mk 0 0 (shlK .i64 1 (i : Int)))]).length) c5) [.slice B5 ((ZImages ++ [(TPauli.mk 0 0 (shlK .i64 1 (i : Int)))]).length) c5] 2 [vi n, .slice B4 ((XImages ++ [(TPauli.mk 0 (shlK .i64 1 (i : Int)) 0)]).length) c4, .slice B5 ((ZImages ++ [(TPauli.mk 0 0 (shlK .i64 1 (i : Int)))]).length) c5] hS22 K1) ?_ ?_
          ·rintro _ w_17 ⟨rfl, hS23⟩
           refine ⟨(hS23.se [0]), ?_⟩
           refine ra_done (by kernel_rfl) ?_
           exact ⟨B4, c4, B5, c5, (fc (hf.g 2 0) (fc (hf.g 3 1) (fc (hf.g 7 2) (fc (hf.g 8 3) fn_)))), (hS23.sel [0, 1, 2, 3] rfl rfl)⟩
          exact aN
         exact aN
        exact aN
       exact aN
      refine rS 23 12 rfl (Ys_bslice (s := 3) (len := 1) (vs := [(0, .agg #[vi 0, vi 0, vi (shlK .i64 1 (i : Int))])]) (cs := [vi 0, vi 0, vi (shlK .i64 1 (i : Int))]) (zs := [vi 0, vi 0, vi 0]) (m := 3) hS9 K2 K0 K12 rfl (mpc rfl mpn) rfl rfl rfl (by kernel_rfl) (by kernel_rfl) rfl) ?_ ?_
      ·rintro _ w_18 ⟨b3, rfl, hS24⟩
       refine ⟨(hS24.se [0]), ?_⟩
       refine rA [6] ?_
       refine rS 17 6 rfl (Ys_append (s := 3) (by' := 24) (i := 2) (nn := XImages.length) (c := c2) (k := 1) (len := (XImages ++ [(TPauli.mk 0 (shlK .i64 1 (i : Int)) 0)]).length) (B := B2) (xs := ([(TPauli.mk 0 (shlK .i64 1 (i : Int)) 0)].flatMap eN0)) (cs' := ((XImages ++ [(TPauli.mk 0 (shlK .i64 1 (i : Int)) 0)]).flatMap eN0)) hS24 K2 K0 K8 K5 rfl (by decide) rfl rfl rfl rfl (fm_lenn (l := XImages) eN1 rfl) rfl (hS24.c 4) (fm_lenn (l := [(TPauli.mk 0 (shlK .i64 1 (i : Int)) 0)]) eN1 rfl) (fm_one' (enc := eN0) eN3 [(TPauli.mk 0 (shlK .i64 1 (i : Int)) 0)]) (by have := hap; omega) (by have := hap; simp only [maxLen]; omega) (fm_app _ _) (app_len (l := XImages) (l' := [(TPauli.mk 0 (shlK .i64 1 (i : Int)) 0)]) rfl rfl)) ?_ ?_
       ·rintro _ w_19 ⟨B4, c4, rfl, hS25⟩
        refine ⟨(hS25.se [0]), ?_⟩
        refine rq 14 25 (v := pt (aD b1) 1) rfl (hS25.se [0]) (fun w' hw' => (yd (aD b1) 0 0 K9 K1 rfl (hf.g 3 1))) ?_
        refine rA [13] ?_
        refine rS 24 13 rfl (Ys_append (s := 3) (by' := 24) (i := 3) (nn := ZImages.length) (c := c3) (k := 1) (len := (ZImages ++ [(TPauli.mk 0 0 (shlK .i64 1 (i : Int)))]).length) (B := B3) (xs := ([(TPauli.mk 0 0 (shlK .i64 1 (i : Int)))].flatMap eN0)) (cs' := ((ZImages ++ [(TPauli.mk 0 0 (shlK .i64 1 (i : Int)))]).flatMap eN0)) hS25 K2 K0 K8 K5 rfl (by decide) rfl rfl rfl rfl (fm_lenn (l := ZImages) eN1 rfl) rfl (hS25.c 5) (fm_lenn (l := [(TPauli.mk 0 0 (shlK .i64 1 (i : Int)))]) eN1 rfl) (fm_one' (enc := eN0) eN3 [(TPauli.mk 0 0 (shlK .i64 1 (i : Int)))]) (by have := hap1; omega) (by have := hap1; simp only [maxLen]; omega) (fm_app _ _) (app_len (l := ZImages) (l' := [(TPauli.mk 0 0 (shlK .i64 1 (i : Int)))]) rfl rfl)) ?_ ?_
        ·rintro _ w_20 ⟨B5, c5, rfl, hS26⟩
         refine ⟨(hS26.se [0]), ?_⟩
         refine rA [15] ?_
         refine rZ 15 rfl (yS 1 1 (aD b1) 40 (.slice B4 ((XImages ++ [(TPauli.mk 0 (shlK .i64 1 (i : Int)) 0)]).length) c4) [.slice B4 ((XImages ++ [(TPauli.mk 0 (shlK .i64 1 (i : Int)) 0)]).length) c4] 1 [vi n, .slice B4 ((XImages ++ [(TPauli.mk 0 (shlK .i64 1 (i : Int)) 0)]).length) c4, .slice B3 ZImages.length c3] hS26 K1) ?_ ?_
         ·rintro _ w_21 ⟨rfl, hS27⟩
          refine ⟨(hS27.se [0]), ?_⟩
          refine rq 16 26 (v := pt (aD b1) 2) rfl (hS27.se [0]) (fun w' hw' => (yd (aD b1) 0 0 K11 K1 rfl (hf.g 3 1))) ?_
          refine rA [17] ?_
          refine rZ 17 rfl (yS 1 1 (aD b1) 40 (.slice B5 ((ZImages ++ [(TPauli.mk 0 0 (shlK .i64 1 (i : Int)))]).length) c5) [.slice B5 ((ZImages ++ [(TPauli.mk 0 0 (shlK .i64 1 (i : Int)))]).length) c5] 2 [vi n, .slice B4 ((XImages ++ [(TPauli.mk 0 (shlK .i64 1 (i : Int)) 0)]).length) c4, .slice B5 ((ZImages ++ [(TPauli.mk 0 0 (shlK .i64 1 (i : Int)))]).length) c5] hS27 K1) ?_ ?_
          ·rintro _ w_22 ⟨rfl, hS28⟩
           refine ⟨(hS28.se [0]), ?_⟩
           refine ra_done (by kernel_rfl) ?_
           exact ⟨B4, c4, B5, c5, (fc (hf.g 2 0) (fc (hf.g 3 1) (fc (hf.g 7 2) (fc (hf.g 8 3) fn_)))), (hS28.sel [0, 1, 2, 3] rfl rfl)⟩
          exact aN
         exact aN
        exact aN
       exact aN
      exact aN
     refine rS 23 12 rfl (Ys_bslice (s := 3) (len := 1) (vs := [(0, .agg #[vi 0, vi 0, vi (shlK .i64 1 (i : Int))])]) (cs := [vi 0, vi 0, vi (shlK .i64 1 (i : Int))]) (zs := [vi 0, vi 0, vi 0]) (m := 3) hS9 K2 K0 K12 rfl (mpc rfl mpn) rfl rfl rfl (by kernel_rfl) (by kernel_rfl) rfl) ?_ ?_
     ·rintro _ w_23 ⟨b3, rfl, hS29⟩
      refine ⟨(hS29.se [0]), ?_⟩
      refine rA [6, 8] ?_
      refine rS 17 6 rfl (Ys_append (s := 3) (by' := 24) (i := 2) (nn := XImages.length) (c := c2) (k := 1) (len := (XImages ++ [(TPauli.mk 0 (shlK .i64 1 (i : Int)) 0)]).length) (B := B2) (xs := ([(TPauli.mk 0 (shlK .i64 1 (i : Int)) 0)].flatMap eN0)) (cs' := ((XImages ++ [(TPauli.mk 0 (shlK .i64 1 (i : Int)) 0)]).flatMap eN0)) hS29 K2 K0 K8 K5 rfl (by decide) rfl rfl rfl rfl (fm_lenn (l := XImages) eN1 rfl) rfl (hS29.c 4) (fm_lenn (l := [(TPauli.mk 0 (shlK .i64 1 (i : Int)) 0)]) eN1 rfl) (fm_one' (enc := eN0) eN3 [(TPauli.mk 0 (shlK .i64 1 (i : Int)) 0)]) (by have := hap; omega) (by have := hap; simp only [maxLen]; omega) (fm_app _ _) (app_len (l := XImages) (l' := [(TPauli.mk 0 (shlK .i64 1 (i : Int)) 0)]) rfl rfl)) ?_ ?_
      ·rintro _ w_24 ⟨B4, c4, rfl, hS30⟩
       refine ⟨(hS30.se [0]), ?_⟩
       refine rA [8] ?_
       refine ra_y 19 (i := 8) (v := .slice B3 ZImages.length c3) rfl rfl rfl (yl (aD b1) 2 [vi n, .slice B2 XImages.length c2, .slice B3 ZImages.length c3] (.slice B3 ZImages.length c3) K6 (hS30.c 1)) (hS30.se [0]) ?_ ?_
       ·skip
        refine rq 14 25 (v := pt (aD b1) 1) rfl (hS30.se [0]) (fun w' hw' => (yd (aD b1) 0 0 K9 K1 rfl (hf.g 3 1))) ?_
        refine rA [13] ?_
        refine rS 24 13 rfl (Ys_append (s := 3) (by' := 24) (i := 3) (nn := ZImages.length) (c := c3) (k := 1) (len := (ZImages ++ [(TPauli.mk 0 0 (shlK .i64 1 (i : Int)))]).length) (B := B3) (xs := ([(TPauli.mk 0 0 (shlK .i64 1 (i : Int)))].flatMap eN0)) (cs' := ((ZImages ++ [(TPauli.mk 0 0 (shlK .i64 1 (i : Int)))]).flatMap eN0)) hS30 K2 K0 K8 K5 rfl (by decide) rfl rfl rfl rfl (fm_lenn (l := ZImages) eN1 rfl) rfl (hS30.c 5) (fm_lenn (l := [(TPauli.mk 0 0 (shlK .i64 1 (i : Int)))]) eN1 rfl) (fm_one' (enc := eN0) eN3 [(TPauli.mk 0 0 (shlK .i64 1 (i : Int)))]) (by have := hap1; omega) (by have := hap1; simp only [maxLen]; omega) (fm_app _ _) (app_len (l := ZImages) (l' := [(TPauli.mk 0 0 (shlK .i64 1 (i : Int)))]) rfl rfl)) ?_ ?_
        ·rintro _ w_25 ⟨B5, c5, rfl, hS31⟩
         refine ⟨(hS31.se [0]), ?_⟩
         refine rA [15] ?_
         refine rZ 15 rfl (yS 1 1 (aD b1) 40 (.slice B4 ((XImages ++ [(TPauli.mk 0 (shlK .i64 1 (i : Int)) 0)]).length) c4) [.slice B4 ((XImages ++ [(TPauli.mk 0 (shlK .i64 1 (i : Int)) 0)]).length) c4] 1 [vi n, .slice B4 ((XImages ++ [(TPauli.mk 0 (shlK .i64 1 (i : Int)) 0)]).length) c4, .slice B3 ZImages.length c3] hS31 K1) ?_ ?_
         ·rintro _ w_26 ⟨rfl, hS32⟩
          refine ⟨(hS32.se [0]), ?_⟩
          refine rq 16 26 (v := pt (aD b1) 2) rfl (hS32.se [0]) (fun w' hw' => (yd (aD b1) 0 0 K11 K1 rfl (hf.g 3 1))) ?_
          refine rA [17] ?_
          refine rZ 17 rfl (yS 1 1 (aD b1) 40 (.slice B5 ((ZImages ++ [(TPauli.mk 0 0 (shlK .i64 1 (i : Int)))]).length) c5) [.slice B5 ((ZImages ++ [(TPauli.mk 0 0 (shlK .i64 1 (i : Int)))]).length) c5] 2 [vi n, .slice B4 ((XImages ++ [(TPauli.mk 0 (shlK .i64 1 (i : Int)) 0)]).length) c4, .slice B5 ((ZImages ++ [(TPauli.mk 0 0 (shlK .i64 1 (i : Int)))]).length) c5] hS32 K1) ?_ ?_
          ·rintro _ w_27 ⟨rfl, hS33⟩
           refine ⟨(hS33.se [0]), ?_⟩
           refine ra_done (by kernel_rfl) ?_
           exact ⟨B4, c4, B5, c5, (fc (hf.g 2 0) (fc (hf.g 3 1) (fc (hf.g 7 2) (fc (hf.g 8 3) fn_)))), (hS33.sel [0, 1, 2, 3] rfl rfl)⟩
          exact aN
         exact aN
        exact aN
       exact aN
      refine ra_y 19 (i := 8) (v := .slice B3 ZImages.length c3) rfl rfl rfl (yl (aD b1) 2 [vi n, .slice B2 XImages.length c2, .slice B3 ZImages.length c3] (.slice B3 ZImages.length c3) K6 (hS29.c 1)) (hS29.se [0]) ?_ ?_
      ·skip
       refine rA [6] ?_
       refine rS 17 6 rfl (Ys_append (s := 3) (by' := 24) (i := 2) (nn := XImages.length) (c := c2) (k := 1) (len := (XImages ++ [(TPauli.mk 0 (shlK .i64 1 (i : Int)) 0)]).length) (B := B2) (xs := ([(TPauli.mk 0 (shlK .i64 1 (i : Int)) 0)].flatMap eN0)) (cs' := ((XImages ++ [(TPauli.mk 0 (shlK .i64 1 (i : Int)) 0)]).flatMap eN0)) hS29 K2 K0 K8 K5 rfl (by decide) rfl rfl rfl rfl (fm_lenn (l := XImages) eN1 rfl) rfl (hS29.c 4) (fm_lenn (l := [(TPauli.mk 0 (shlK .i64 1 (i : Int)) 0)]) eN1 rfl) (fm_one' (enc := eN0) eN3 [(TPauli.mk 0 (shlK .i64 1 (i : Int)) 0)]) (by have := hap; omega) (by have := hap; simp only [maxLen]; omega) (fm_app _ _) (app_len (l := XImages) (l' := [(TPauli.mk 0 (shlK .i64 1 (i : Int)) 0)]) rfl rfl)) ?_ ?_
       ·rintro _ w_28 ⟨B4, c4, rfl, hS34⟩
        refine ⟨(hS34.se [0]), ?_⟩
        refine rq 14 25 (v := pt (aD b1) 1) rfl (hS34.se [0]) (fun w' hw' => (yd (aD b1) 0 0 K9 K1 rfl (hf.g 3 1))) ?_
        refine rA [13] ?_
        refine rS 24 13 rfl (Ys_append (s := 3) (by' := 24) (i := 3) (nn := ZImages.length) (c := c3) (k := 1) (len := (ZImages ++ [(TPauli.mk 0 0 (shlK .i64 1 (i : Int)))]).length) (B := B3) (xs := ([(TPauli.mk 0 0 (shlK .i64 1 (i : Int)))].flatMap eN0)) (cs' := ((ZImages ++ [(TPauli.mk 0 0 (shlK .i64 1 (i : Int)))]).flatMap eN0)) hS34 K2 K0 K8 K5 rfl (by decide) rfl rfl rfl rfl (fm_lenn (l := ZImages) eN1 rfl) rfl (hS34.c 5) (fm_lenn (l := [(TPauli.mk 0 0 (shlK .i64 1 (i : Int)))]) eN1 rfl) (fm_one' (enc := eN0) eN3 [(TPauli.mk 0 0 (shlK .i64 1 (i : Int)))]) (by have := hap1; omega) (by have := hap1; simp only [maxLen]; omega) (fm_app _ _) (app_len (l := ZImages) (l' := [(TPauli.mk 0 0 (shlK .i64 1 (i : Int)))]) rfl rfl)) ?_ ?_
        ·rintro _ w_29 ⟨B5, c5, rfl, hS35⟩
         refine ⟨(hS35.se [0]), ?_⟩
         refine rA [15] ?_
         refine rZ 15 rfl (yS 1 1 (aD b1) 40 (.slice B4 ((XImages ++ [(TPauli.mk 0 (shlK .i64 1 (i : Int)) 0)]).length) c4) [.slice B4 ((XImages ++ [(TPauli.mk 0 (shlK .i64 1 (i : Int)) 0)]).length) c4] 1 [vi n, .slice B4 ((XImages ++ [(TPauli.mk 0 (shlK .i64 1 (i : Int)) 0)]).length) c4, .slice B3 ZImages.length c3] hS35 K1) ?_ ?_
         ·rintro _ w_30 ⟨rfl, hS36⟩
          have hS36 : ST w0 [] _ [⟨aD b, 40, [vi 0, .slice none 0 0, .slice none 0 0], 3⟩, ⟨aD b1, 40, [vi n, .slice B4 ((XImages ++ [(TPauli.mk 0 (shlK .i64 1 (i : Int)) 0)]).length) c4, .slice B3 ZImages.length c3], 3⟩, ⟨B4, 71, ((XImages ++ [(TPauli.mk 0 (shlK .i64 1 (i : Int)) 0)]).flatMap eN0), c4 * 3⟩, ⟨B5, 71, ((ZImages ++ [(TPauli.mk 0 0 (shlK .i64 1 (i : Int)))]).flatMap eN0), c5 * 3⟩, ⟨aD b2, 71, ([(TPauli.mk 0 (shlK .i64 1 (i : Int)) 0)].flatMap eN0), 1 * 3⟩, ⟨aD b3, 71, ([(TPauli.mk 0 0 (shlK .i64 1 (i : Int)))].flatMap eN0), 1 * 3⟩] [] := hS36
          refine ⟨(hS36.se [0]), ?_⟩
          refine rq 16 26 (v := pt (aD b1) 2) rfl (hS36.se [0]) (fun w' hw' => (yd (aD b1) 0 0 K11 K1 rfl (hf.g 3 1))) ?_
          refine rA [17] ?_
          refine rZ 17 rfl (yS 1 1 (aD b1) 40 (.slice B5 ((ZImages ++ [(TPauli.mk 0 0 (shlK .i64 1 (i : Int)))]).length) c5) [.slice B5 ((ZImages ++ [(TPauli.mk 0 0 (shlK .i64 1 (i : Int)))]).length) c5] 2 [vi n, .slice B4 ((XImages ++ [(TPauli.mk 0 (shlK .i64 1 (i : Int)) 0)]).length) c4, .slice B5 ((ZImages ++ [(TPauli.mk 0 0 (shlK .i64 1 (i : Int)))]).length) c5] hS36 K1) ?_ ?_
          ·rintro _ w_31 ⟨rfl, hS37⟩
           refine ⟨(hS37.se [0]), ?_⟩
           refine ra_done (by kernel_rfl) ?_
           exact ⟨B4, c4, B5, c5, (fc (hf.g 2 0) (fc (hf.g 3 1) (fc (hf.g 7 2) (fc (hf.g 8 3) fn_)))), (hS37.sel [0, 1, 2, 3] rfl rfl)⟩
          exact aN
         exact aN
        exact aN
       exact aN
      exact aN
     exact aN
    refine ra_y 19 (i := 8) (v := .slice B3 ZImages.length c3) rfl rfl rfl (yl (aD b1) 2 [vi n, .slice B2 XImages.length c2, .slice B3 ZImages.length c3] (.slice B3 ZImages.length c3) K6 (hS8.c 1)) (hS8.se [0]) ?_ ?_
    ·skip
     refine rA [5, 12] ?_
     refine rS 16 5 rfl (Ys_bslice (s := 3) (len := 1) (vs := [(0, .agg #[vi 0, vi (shlK .i64 1 (i : Int)), vi 0])]) (cs := [vi 0, vi (shlK .i64 1 (i : Int)), vi 0]) (zs := [vi 0, vi 0, vi 0]) (m := 3) hS8 K2 K0 K12 rfl (mpc rfl mpn) rfl rfl rfl (by kernel_rfl) (by kernel_rfl) rfl) ?_ ?_
     ·rintro _ w_32 ⟨b2, rfl, hS38⟩
      refine ⟨(hS38.se [0]), ?_⟩
      refine rA [6, 12] ?_
      refine rS 17 6 rfl (Ys_append (s := 3) (by' := 24) (i := 2) (nn := XImages.length) (c := c2) (k := 1) (len := (XImages ++ [(TPauli.mk 0 (shlK .i64 1 (i : Int)) 0)]).length) (B := B2) (xs := ([(TPauli.mk 0 (shlK .i64 1 (i : Int)) 0)].flatMap eN0)) (cs' := ((XImages ++ [(TPauli.mk 0 (shlK .i64 1 (i : Int)) 0)]).flatMap eN0)) hS38 K2 K0 K8 K5 rfl (by decide) rfl rfl rfl rfl (fm_lenn (l := XImages) eN1 rfl) rfl (hS38.c 4) (fm_lenn (l := [(TPauli.mk 0 (shlK .i64 1 (i : Int)) 0)]) eN1 rfl) (fm_one' (enc := eN0) eN3 [(TPauli.mk 0 (shlK .i64 1 (i : Int)) 0)]) (by have := hap; omega) (by have := hap; simp only [maxLen]; omega) (fm_app _ _) (app_len (l := XImages) (l' := [(TPauli.mk 0 (shlK .i64 1 (i : Int)) 0)]) rfl rfl)) ?_ ?_
      ·rintro _ w_33 ⟨B4, c4, rfl, hS39⟩
       refine ⟨(hS39.se [0]), ?_⟩
       refine rq 14 25 (v := pt (aD b1) 1) rfl (hS39.se [0]) (fun w' hw' => (yd (aD b1) 0 0 K9 K1 rfl (hf.g 3 1))) ?_
       refine rA [12] ?_
       refine rS 23 12 rfl (Ys_bslice (s := 3) (len := 1) (vs := [(0, .agg #[vi 0, vi 0, vi (shlK .i64 1 (i : Int))])]) (cs := [vi 0, vi 0, vi (shlK .i64 1 (i : Int))]) (zs := [vi 0, vi 0, vi 0]) (m := 3) hS39 K2 K0 K12 rfl (mpc rfl mpn) rfl rfl rfl (by kernel_rfl) (by kernel_rfl) rfl) ?_ ?_
       ·rintro _ w_34 ⟨b3, rfl, hS40⟩
        refine ⟨(hS40.se [0]), ?_⟩
        refine rA [13] ?_
        refine rS 24 13 rfl (Ys_append (s := 3) (by' := 24) (i := 3) (nn := ZImages.length) (c := c3) (k := 1) (len := (ZImages ++ [(TPauli.mk 0 0 (shlK .i64 1 (i : Int)))]).length) (B := B3) (xs := ([(TPauli.mk 0 0 (shlK .i64 1 (i : Int)))].flatMap eN0)) (cs' := ((ZImages ++ [(TPauli.mk 0 0 (shlK .i64 1 (i : Int)))]).flatMap eN0)) hS40 K2 K0 K8 K5 rfl (by decide) rfl rfl rfl rfl (fm_lenn (l := ZImages) eN1 rfl) rfl (hS40.c 5) (fm_lenn (l := [(TPauli.mk 0 0 (shlK .i64 1 (i : Int)))]) eN1 rfl) (fm_one' (enc := eN0) eN3 [(TPauli.mk 0 0 (shlK .i64 1 (i : Int)))]) (by have := hap1; omega) (by have := hap1; simp only [maxLen]; omega) (fm_app _ _) (app_len (l := ZImages) (l' := [(TPauli.mk 0 0 (shlK .i64 1 (i : Int)))]) rfl rfl)) ?_ ?_
        ·rintro _ w_35 ⟨B5, c5, rfl, hS41⟩
         refine ⟨(hS41.se [0]), ?_⟩
         refine rA [15] ?_
         refine rZ 15 rfl (yS 1 1 (aD b1) 40 (.slice B4 ((XImages ++ [(TPauli.mk 0 (shlK .i64 1 (i : Int)) 0)]).length) c4) [.slice B4 ((XImages ++ [(TPauli.mk 0 (shlK .i64 1 (i : Int)) 0)]).length) c4] 1 [vi n, .slice B4 ((XImages ++ [(TPauli.mk 0 (shlK .i64 1 (i : Int)) 0)]).length) c4, .slice B3 ZImages.length c3] hS41 K1) ?_ ?_
         ·rintro _ w_36 ⟨rfl, hS42⟩
          refine ⟨(hS42.se [0]), ?_⟩
          refine rq 16 26 (v := pt (aD b1) 2) rfl (hS42.se [0]) (fun w' hw' => (yd (aD b1) 0 0 K11 K1 rfl (hf.g 3 1))) ?_
          refine rA [17] ?_
          refine rZ 17 rfl (yS 1 1 (aD b1) 40 (.slice B5 ((ZImages ++ [(TPauli.mk 0 0 (shlK .i64 1 (i : Int)))]).length) c5) [.slice B5 ((ZImages ++ [(TPauli.mk 0 0 (shlK .i64 1 (i : Int)))]).length) c5] 2 [vi n, .slice B4 ((XImages ++ [(TPauli.mk 0 (shlK .i64 1 (i : Int)) 0)]).length) c4, .slice B5 ((ZImages ++ [(TPauli.mk 0 0 (shlK .i64 1 (i : Int)))]).length) c5] hS42 K1) ?_ ?_
          ·rintro _ w_37 ⟨rfl, hS43⟩
           refine ⟨(hS43.se [0]), ?_⟩
           refine ra_done (by kernel_rfl) ?_
           exact ⟨B4, c4, B5, c5, (fc (hf.g 2 0) (fc (hf.g 3 1) (fc (hf.g 7 2) (fc (hf.g 8 3) fn_)))), (hS43.sel [0, 1, 2, 3] rfl rfl)⟩
          exact aN
         exact aN
        exact aN
       exact aN
      refine rS 23 12 rfl (Ys_bslice (s := 3) (len := 1) (vs := [(0, .agg #[vi 0, vi 0, vi (shlK .i64 1 (i : Int))])]) (cs := [vi 0, vi 0, vi (shlK .i64 1 (i : Int))]) (zs := [vi 0, vi 0, vi 0]) (m := 3) hS38 K2 K0 K12 rfl (mpc rfl mpn) rfl rfl rfl (by kernel_rfl) (by kernel_rfl) rfl) ?_ ?_
      ·rintro _ w_38 ⟨b3, rfl, hS44⟩
       refine ⟨(hS44.se [0]), ?_⟩
       refine rA [6] ?_
       refine rS 17 6 rfl (Ys_append (s := 3) (by' := 24) (i := 2) (nn := XImages.length) (c := c2) (k := 1) (len := (XImages ++ [(TPauli.mk 0 (shlK .i64 1 (i : Int)) 0)]).length) (B := B2) (xs := ([(TPauli.mk 0 (shlK .i64 1 (i : Int)) 0)].flatMap eN0)) (cs' := ((XImages ++ [(TPauli.mk 0 (shlK .i64 1 (i : Int)) 0)]).flatMap eN0)) hS44 K2 K0 K8 K5 rfl (by decide) rfl rfl rfl rfl (fm_lenn (l := XImages) eN1 rfl) rfl (hS44.c 4) (fm_lenn (l := [(TPauli.mk 0 (shlK .i64 1 (i : Int)) 0)]) eN1 rfl) (fm_one' (enc := eN0) eN3 [(TPauli.mk 0 (shlK .i64 1 (i : Int)) 0)]) (by have := hap; omega) (by have := hap; simp only [maxLen]; omega) (fm_app _ _) (app_len (l := XImages) (l' := [(TPauli.mk 0 (shlK .i64 1 (i : Int)) 0)]) rfl rfl)) ?_ ?_
       ·rintro _ w_39 ⟨B4, c4, rfl, hS45⟩
        refine ⟨(hS45.se [0]), ?_⟩
        refine rq 14 25 (v := pt (aD b1) 1) rfl (hS45.se [0]) (fun w' hw' => (yd (aD b1) 0 0 K9 K1 rfl (hf.g 3 1))) ?_
        refine rA [13] ?_
        refine rS 24 13 rfl (Ys_append (s := 3) (by' := 24) (i := 3) (nn := ZImages.length) (c := c3) (k := 1) (len := (ZImages ++ [(TPauli.mk 0 0 (shlK .i64 1 (i : Int)))]).length) (B := B3) (xs := ([(TPauli.mk 0 0 (shlK .i64 1 (i : Int)))].flatMap eN0)) (cs' := ((ZImages ++ [(TPauli.mk 0 0 (shlK .i64 1 (i : Int)))]).flatMap eN0)) hS45 K2 K0 K8 K5 rfl (by decide) rfl rfl rfl rfl (fm_lenn (l := ZImages) eN1 rfl) rfl (hS45.c 5) (fm_lenn (l := [(TPauli.mk 0 0 (shlK .i64 1 (i : Int)))]) eN1 rfl) (fm_one' (enc := eN0) eN3 [(TPauli.mk 0 0 (shlK .i64 1 (i : Int)))]) (by have := hap1; omega) (by have := hap1; simp only [maxLen]; omega) (fm_app _ _) (app_len (l := ZImages) (l' := [(TPauli.mk 0 0 (shlK .i64 1 (i : Int)))]) rfl rfl)) ?_ ?_
        ·rintro _ w_40 ⟨B5, c5, rfl, hS46⟩
         refine ⟨(hS46.se [0]), ?_⟩
         refine rA [15] ?_
         refine rZ 15 rfl (yS 1 1 (aD b1) 40 (.slice B4 ((XImages ++ [(TPauli.mk 0 (shlK .i64 1 (i : Int)) 0)]).length) c4) [.slice B4 ((XImages ++ [(TPauli.mk 0 (shlK .i64 1 (i : Int)) 0)]).length) c4] 1 [vi n, .slice B4 ((XImages ++ [(TPauli.mk 0 (shlK .i64 1 (i : Int)) 0)]).length) c4, .slice B3 ZImages.length c3] hS46 K1) ?_ ?_
         ·rintro _ w_41 ⟨rfl, hS47⟩
          refine ⟨(hS47.se [0]), ?_⟩
          refine rq 16 26 (v := pt (aD b1) 2) rfl (hS47.se [0]) (fun w' hw' => (yd (aD b1) 0 0 K11 K1 rfl (hf.g 3 1))) ?_
          refine rA [17] ?_
          refine rZ 17 rfl (yS 1 1 (aD b1) 40 (.slice B5 ((ZImages ++ [(TPauli.mk 0 0 (shlK .i64 1 (i : Int)))]).length) c5) [.slice B5 ((ZImages ++ [(TPauli.mk 0 0 (shlK .i64 1 (i : Int)))]).length) c5] 2 [vi n, .slice B4 ((XImages ++ [(TPauli.mk 0 (shlK .i64 1 (i : Int)) 0)]).length) c4, .slice B5 ((ZImages ++ [(TPauli.mk 0 0 (shlK .i64 1 (i : Int)))]).length) c5] hS47 K1) ?_ ?_
          ·rintro _ w_42 ⟨rfl, hS48⟩
           refine ⟨(hS48.se [0]), ?_⟩
           refine ra_done (by kernel_rfl) ?_
           exact ⟨B4, c4, B5, c5, (fc (hf.g 2 0) (fc (hf.g 3 1) (fc (hf.g 7 2) (fc (hf.g 8 3) fn_)))), (hS48.sel [0, 1, 2, 3] rfl rfl)⟩
          exact aN
         exact aN
        exact aN
       exact aN
      exact aN
     refine rS 23 12 rfl (Ys_bslice (s := 3) (len := 1) (vs := [(0, .agg #[vi 0, vi 0, vi (shlK .i64 1 (i : Int))])]) (cs := [vi 0, vi 0, vi (shlK .i64 1 (i : Int))]) (zs := [vi 0, vi 0, vi 0]) (m := 3) hS8 K2 K0 K12 rfl (mpc rfl mpn) rfl rfl rfl (by kernel_rfl) (by kernel_rfl) rfl) ?_ ?_
     ·rintro _ w_43 ⟨b3, rfl, hS49⟩
      refine ⟨(hS49.se [0]), ?_⟩
      refine rA [5] ?_
      refine rS 16 5 rfl (Ys_bslice (s := 3) (len := 1) (vs := [(0, .agg #[vi 0, vi (shlK .i64 1 (i : Int)), vi 0])]) (cs := [vi 0, vi (shlK .i64 1 (i : Int)), vi 0]) (zs := [vi 0, vi 0, vi 0]) (m := 3) hS49 K2 K0 K12 rfl (mpc rfl mpn) rfl rfl rfl (by kernel_rfl) (by kernel_rfl) rfl) ?_ ?_
      ·rintro _ w_44 ⟨b2, rfl, hS50⟩
       refine ⟨(hS50.se [0]), ?_⟩
       refine rA [6] ?_
       refine rS 17 6 rfl (Ys_append (s := 3) (by' := 24) (i := 2) (nn := XImages.length) (c := c2) (k := 1) (len := (XImages ++ [(TPauli.mk 0 (shlK .i64 1 (i : Int)) 0)]).length) (B := B2) (xs := ([(TPauli.mk 0 (shlK .i64 1 (i : Int)) 0)].flatMap eN0)) (cs' := ((XImages ++ [(TPauli.mk 0 (shlK .i64 1 (i : Int)) 0)]).flatMap eN0)) hS50 K2 K0 K8 K5 rfl (by decide) rfl rfl rfl rfl (fm_lenn (l := XImages) eN1 rfl) rfl (hS50.c 5) (fm_lenn (l := [(TPauli.mk 0 (shlK .i64 1 (i : Int)) 0)]) eN1 rfl) (fm_one' (enc := eN0) eN3 [(TPauli.mk 0 (shlK .i64 1 (i : Int)) 0)]) (by have := hap; omega) (by have := hap; simp only [maxLen]; omega) (fm_app _ _) (app_len (l := XImages) (l' := [(TPauli.mk 0 (shlK .i64 1 (i : Int)) 0)]) rfl rfl)) ?_ ?_
       ·rintro _ w_45 ⟨B4, c4, rfl, hS51⟩
        refine ⟨(hS51.se [0]), ?_⟩
        refine rq 14 25 (v := pt (aD b1) 1) rfl (hS51.se [0]) (fun w' hw' => (yd (aD b1) 0 0 K9 K1 rfl (hf.g 3 1))) ?_
        refine rA [13] ?_
        refine rS 24 13 rfl (Ys_append (s := 3) (by' := 24) (i := 3) (nn := ZImages.length) (c := c3) (k := 1) (len := (ZImages ++ [(TPauli.mk 0 0 (shlK .i64 1 (i : Int)))]).length) (B := B3) (xs := ([(TPauli.mk 0 0 (shlK .i64 1 (i : Int)))].flatMap eN0)) (cs' := ((ZImages ++ [(TPauli.mk 0 0 (shlK .i64 1 (i : Int)))]).flatMap eN0)) hS51 K2 K0 K8 K5 rfl (by decide) rfl rfl rfl rfl (fm_lenn (l := ZImages) eN1 rfl) rfl (hS51.c 4) (fm_lenn (l := [(TPauli.mk 0 0 (shlK .i64 1 (i : Int)))]) eN1 rfl) (fm_one' (enc := eN0) eN3 [(TPauli.mk 0 0 (shlK .i64 1 (i : Int)))]) (by have := hap1; omega) (by have := hap1; simp only [maxLen]; omega) (fm_app _ _) (app_len (l := ZImages) (l' := [(TPauli.mk 0 0 (shlK .i64 1 (i : Int)))]) rfl rfl)) ?_ ?_
        ·rintro _ w_46 ⟨B5, c5, rfl, hS52⟩
         refine ⟨(hS52.se [0]), ?_⟩
         refine rA [15] ?_
         refine rZ 15 rfl (yS 1 1 (aD b1) 40 (.slice B4 ((XImages ++ [(TPauli.mk 0 (shlK .i64 1 (i : Int)) 0)]).length) c4) [.slice B4 ((XImages ++ [(TPauli.mk 0 (shlK .i64 1 (i : Int)) 0)]).length) c4] 1 [vi n, .slice B4 ((XImages ++ [(TPauli.mk 0 (shlK .i64 1 (i : Int)) 0)]).length) c4, .slice B3 ZImages.length c3] hS52 K1) ?_ ?_
         ·rintro _ w_47 ⟨rfl, hS53⟩
          refine ⟨(hS53.se [0]), ?_⟩
          refine rq 16 26 (v := pt (aD b1) 2) rfl (hS53.se [0]) (fun w' hw' => (yd (aD b1) 0 0 K11 K1 rfl (hf.g 3 1))) ?_
          refine rA [17] ?_
          refine rZ 17 rfl (yS 1 1 (aD b1) 40 (.slice B5 ((ZImages ++ [(TPauli.mk 0 0 (shlK .i64 1 (i : Int)))]).length) c5) [.slice B5 ((ZImages ++ [(TPauli.mk 0 0 (shlK .i64 1 (i : Int)))]).length) c5] 2 [vi n, .slice B4 ((XImages ++ [(TPauli.mk 0 (shlK .i64 1 (i : Int)) 0)]).length) c4, .slice B5 ((ZImages ++ [(TPauli.mk 0 0 (shlK .i64 1 (i : Int)))]).length) c5] hS53 K1) ?_ ?_
          ·rintro _ w_48 ⟨rfl, hS54⟩
           refine ⟨(hS54.se [0]), ?_⟩
           refine ra_done (by kernel_rfl) ?_
           exact ⟨B4, c4, B5, c5, (fc (hf.g 2 0) (fc (hf.g 3 1) (fc (hf.g 7 2) (fc (hf.g 8 3) fn_)))), (hS54.sel [0, 1, 2, 3] rfl rfl)⟩
          exact aN
         exact aN
        exact aN
       exact aN
      exact aN
     exact aN
    refine rS 23 12 rfl (Ys_bslice (s := 3) (len := 1) (vs := [(0, .agg #[vi 0, vi 0, vi (shlK .i64 1 (i : Int))])]) (cs := [vi 0, vi 0, vi (shlK .i64 1 (i : Int))]) (zs := [vi 0, vi 0, vi 0]) (m := 3) hS8 K2 K0 K12 rfl (mpc rfl mpn) rfl rfl rfl (by kernel_rfl) (by kernel_rfl) rfl) ?_ ?_
    ·rintro _ w_49 ⟨b3, rfl, hS55⟩
     refine ⟨(hS55.se [0]), ?_⟩
     refine rA [5, 8] ?_
     refine rS 16 5 rfl (Ys_bslice (s := 3) (len := 1) (vs := [(0, .agg #[vi 0, vi (shlK .i64 1 (i : Int)), vi 0])]) (cs := [vi 0, vi (shlK .i64 1 (i : Int)), vi 0]) (zs := [vi 0, vi 0, vi 0]) (m := 3) hS55 K2 K0 K12 rfl (mpc rfl mpn) rfl rfl rfl (by kernel_rfl) (by kernel_rfl) rfl) ?_ ?_
     ·rintro _ w_50 ⟨b2, rfl, hS56⟩
      refine ⟨(hS56.se [0]), ?_⟩
      refine rA [6, 8] ?_
      refine rS 17 6 rfl (Ys_append (s := 3) (by' := 24) (i := 2) (nn := XImages.length) (c := c2) (k := 1) (len := (XImages ++ [(TPauli.mk 0 (shlK .i64 1 (i : Int)) 0)]).length) (B := B2) (xs := ([(TPauli.mk 0 (shlK .i64 1 (i : Int)) 0)].flatMap eN0)) (cs' := ((XImages ++ [(TPauli.mk 0 (shlK .i64 1 (i : Int)) 0)]).flatMap eN0)) hS56 K2 K0 K8 K5 rfl (by decide) rfl rfl rfl rfl (fm_lenn (l := XImages) eN1 rfl) rfl (hS56.c 5) (fm_lenn (l := [(TPauli.mk 0 (shlK .i64 1 (i : Int)) 0)]) eN1 rfl) (fm_one' (enc := eN0) eN3 [(TPauli.mk 0 (shlK .i64 1 (i : Int)) 0)]) (by have := hap; omega) (by have := hap; simp only [maxLen]; omega) (fm_app _ _) (app_len (l := XImages) (l' := [(TPauli.mk 0 (shlK .i64 1 (i : Int)) 0)]) rfl rfl)) ?_ ?_
      ·rintro _ w_51 ⟨B4, c4, rfl, hS57⟩
       refine ⟨(hS57.se [0]), ?_⟩
       refine rA [8] ?_
       refine ra_y 19 (i := 8) (v := .slice B3 ZImages.length c3) rfl rfl rfl (yl (aD b1) 2 [vi n, .slice B2 XImages.length c2, .slice B3 ZImages.length c3] (.slice B3 ZImages.length c3) K6 (hS57.c 1)) (hS57.se [0]) ?_ ?_
       ·skip
        refine rq 14 25 (v := pt (aD b1) 1) rfl (hS57.se [0]) (fun w' hw' => (yd (aD b1) 0 0 K9 K1 rfl (hf.g 3 1))) ?_
        refine rA [13] ?_
        refine rS 24 13 rfl (Ys_append (s := 3) (by' := 24) (i := 3) (nn := ZImages.length) (c := c3) (k := 1) (len := (ZImages ++ [(TPauli.mk 0 0 (shlK .i64 1 (i : Int)))]).length) (B := B3) (xs := ([(TPauli.mk 0 0 (shlK .i64 1 (i : Int)))].flatMap eN0)) (cs' := ((ZImages ++ [(TPauli.mk 0 0 (shlK .i64 1 (i : Int)))]).flatMap eN0)) hS57 K2 K0 K8 K5 rfl (by decide) rfl rfl rfl rfl (fm_lenn (l := ZImages) eN1 rfl) rfl (hS57.c 4) (fm_lenn (l := [(TPauli.mk 0 0 (shlK .i64 1 (i : Int)))]) eN1 rfl) (fm_one' (enc := eN0) eN3 [(TPauli.mk 0 0 (shlK .i64 1 (i : Int)))]) (by have := hap1; omega) (by have := hap1; simp only [maxLen]; omega) (fm_app _ _) (app_len (l := ZImages) (l' := [(TPauli.mk 0 0 (shlK .i64 1 (i : Int)))]) rfl rfl)) ?_ ?_
        ·rintro _ w_52 ⟨B5, c5, rfl, hS58⟩
         refine ⟨(hS58.se [0]), ?_⟩
         refine rA [15] ?_
         refine rZ 15 rfl (yS 1 1 (aD b1) 40 (.slice B4 ((XImages ++ [(TPauli.mk 0 (shlK .i64 1 (i : Int)) 0)]).length) c4) [.slice B4 ((XImages ++ [(TPauli.mk 0 (shlK .i64 1 (i : Int)) 0)]).length) c4] 1 [vi n, .slice B4 ((XImages ++ [(TPauli.mk 0 (shlK .i64 1 (i : Int)) 0)]).length) c4, .slice B3 ZImages.length c3] hS58 K1) ?_ ?_
         ·rintro _ w_53 ⟨rfl, hS59⟩
          refine ⟨(hS59.se [0]), ?_⟩
          refine rq 16 26 (v := pt (aD b1) 2) rfl (hS59.se [0]) (fun w' hw' => (yd (aD b1) 0 0 K11 K1 rfl (hf.g 3 1))) ?_
          refine rA [17] ?_
          refine rZ 17 rfl (yS 1 1 (aD b1) 40 (.slice B5 ((ZImages ++ [(TPauli.mk 0 0 (shlK .i64 1 (i : Int)))]).length) c5) [.slice B5 ((ZImages ++ [(TPauli.mk 0 0 (shlK .i64 1 (i : Int)))]).length) c5] 2 [vi n, .slice B4 ((XImages ++ [(TPauli.mk 0 (shlK .i64 1 (i : Int)) 0)]).length) c4, .slice B5 ((ZImages ++ [(TPauli.mk 0 0 (shlK .i64 1 (i : Int)))]).length) c5] hS59 K1) ?_ ?_
          ·rintro _ w_54 ⟨rfl, hS60⟩
           refine ⟨(hS60.se [0]), ?_⟩
           refine ra_done (by kernel_rfl) ?_
           exact ⟨B4, c4, B5, c5, (fc (hf.g 2 0) (fc (hf.g 3 1) (fc (hf.g 7 2) (fc (hf.g 8 3) fn_)))), (hS60.sel [0, 1, 2, 3] rfl rfl)⟩
          exact aN
         exact aN
        exact aN
       exact aN
      refine ra_y 19 (i := 8) (v := .slice B3 ZImages.length c3) rfl rfl rfl (yl (aD b1) 2 [vi n, .slice B2 XImages.length c2, .slice B3 ZImages.length c3] (.slice B3 ZImages.length c3) K6 (hS56.c 1)) (hS56.se [0]) ?_ ?_
      ·skip
       refine rA [6] ?_
       refine rS 17 6 rfl (Ys_append (s := 3) (by' := 24) (i := 2) (nn := XImages.length) (c := c2) (k := 1) (len := (XImages ++ [(TPauli.mk 0 (shlK .i64 1 (i : Int)) 0)]).length) (B := B2) (xs := ([(TPauli.mk 0 (shlK .i64 1 (i : Int)) 0)].flatMap eN0)) (cs' := ((XImages ++ [(TPauli.mk 0 (shlK .i64 1 (i : Int)) 0)]).flatMap eN0)) hS56 K2 K0 K8 K5 rfl (by decide) rfl rfl rfl rfl (fm_lenn (l := XImages) eN1 rfl) rfl (hS56.c 5) (fm_lenn (l := [(TPauli.mk 0 (shlK .i64 1 (i : Int)) 0)]) eN1 rfl) (fm_one' (enc := eN0) eN3 [(TPauli.mk 0 (shlK .i64 1 (i : Int)) 0)]) (by have := hap; omega) (by have := hap; simp only [maxLen]; omega) (fm_app _ _) (app_len (l := XImages) (l' := [(TPauli.mk 0 (shlK .i64 1 (i : Int)) 0)]) rfl rfl)) ?_ ?_
       ·rintro _ w_55 ⟨B4, c4, rfl, hS61⟩
        refine ⟨(hS61.se [0]), ?_⟩
        refine rq 14 25 (v := pt (aD b1) 1) rfl (hS61.se [0]) (fun w' hw' => (yd (aD b1) 0 0 K9 K1 rfl (hf.g 3 1))) ?_
        refine rA [13] ?_
        refine rS 24 13 rfl (Ys_append (s := 3) (by' := 24) (i := 3) (nn := ZImages.length) (c := c3) (k := 1) (len := (ZImages ++ [(TPauli.mk 0 0 (shlK .i64 1 (i : Int)))]).length) (B := B3) (xs := ([(TPauli.mk 0 0 (shlK .i64 1 (i : Int)))].flatMap eN0)) (cs' := ((ZImages ++ [(TPauli.mk 0 0 (shlK .i64 1 (i : Int)))]).flatMap eN0)) hS61 K2 K0 K8 K5 rfl (by decide) rfl rfl rfl rfl (fm_lenn (l := ZImages) eN1 rfl) rfl (hS61.c 4) (fm_lenn (l := [(TPauli.mk 0 0 (shlK .i64 1 (i : Int)))]) eN1 rfl) (fm_one' (enc := eN0) eN3 [(TPauli.mk 0 0 (shlK .i64 1 (i : Int)))]) (by have := hap1; omega) (by have := hap1; simp only [maxLen]; omega) (fm_app _ _) (app_len (l := ZImages) (l' := [(TPauli.mk 0 0 (shlK .i64 1 (i : Int)))]) rfl rfl)) ?_ ?_
        ·rintro _ w_56 ⟨B5, c5, rfl, hS62⟩
         refine ⟨(hS62.se [0]), ?_⟩
         refine rA [15] ?_
         refine rZ 15 rfl (yS 1 1 (aD b1) 40 (.slice B4 ((XImages ++ [(TPauli.mk 0 (shlK .i64 1 (i : Int)) 0)]).length) c4) [.slice B4 ((XImages ++ [(TPauli.mk 0 (shlK .i64 1 (i : Int)) 0)]).length) c4] 1 [vi n, .slice B4 ((XImages ++ [(TPauli.mk 0 (shlK .i64 1 (i : Int)) 0)]).length) c4, .slice B3 ZImages.length c3] hS62 K1) ?_ ?_
         ·rintro _ w_57 ⟨rfl, hS63⟩
          refine ⟨(hS63.se [0]), ?_⟩
          refine rq 16 26 (v := pt (aD b1) 2) rfl (hS63.se [0]) (fun w' hw' => (yd (aD b1) 0 0 K11 K1 rfl (hf.g 3 1))) ?_
          refine rA [17] ?_
          refine rZ 17 rfl (yS 1 1 (aD b1) 40 (.slice B5 ((ZImages ++ [(TPauli.mk 0 0 (shlK .i64 1 (i : Int)))]).length) c5) [.slice B5 ((ZImages ++ [(TPauli.mk 0 0 (shlK .i64 1 (i : Int)))]).length) c5] 2 [vi n, .slice B4 ((XImages ++ [(TPauli.mk 0 (shlK .i64 1 (i : Int)) 0)]).length) c4, .slice B5 ((ZImages ++ [(TPauli.mk 0 0 (shlK .i64 1 (i : Int)))]).length) c5] hS63 K1) ?_ ?_
          ·rintro _ w_58 ⟨rfl, hS64⟩
           refine ⟨(hS64.se [0]), ?_⟩
           refine ra_done (by kernel_rfl) ?_
           exact ⟨B4, c4, B5, c5, (fc (hf.g 2 0) (fc (hf.g 3 1) (fc (hf.g 7 2) (fc (hf.g 8 3) fn_)))), (hS64.sel [0, 1, 2, 3] rfl rfl)⟩
          exact aN
         exact aN
        exact aN
       exact aN
      exact aN
     refine ra_y 19 (i := 8) (v := .slice B3 ZImages.length c3) rfl rfl rfl (yl (aD b1) 2 [vi n, .slice B2 XImages.length c2, .slice B3 ZImages.length c3] (.slice B3 ZImages.length c3) K6 (hS55.c 1)) (hS55.se [0]) ?_ ?_
     ·skip
      refine rA [5] ?_
      refine rS 16 5 rfl (Ys_bslice (s := 3) (len := 1) (vs := [(0, .agg #[vi 0, vi (shlK .i64 1 (i : Int)), vi 0])]) (cs := [vi 0, vi (shlK .i64 1 (i : Int)), vi 0]) (zs := [vi 0, vi 0, vi 0]) (m := 3) hS55 K2 K0 K12 rfl (mpc rfl mpn) rfl rfl rfl (by kernel_rfl) (by kernel_rfl) rfl) ?_ ?_
      ·rintro _ w_59 ⟨b2, rfl, hS65⟩
       refine ⟨(hS65.se [0]), ?_⟩
       refine rA [6] ?_
       refine rS 17 6 rfl (Ys_append (s := 3) (by' := 24) (i := 2) (nn := XImages.length) (c := c2) (k := 1) (len := (XImages ++ [(TPauli.mk 0 (shlK .i64 1 (i : Int)) 0)]).length) (B := B2) (xs := ([(TPauli.mk 0 (shlK .i64 1 (i : Int)) 0)].flatMap eN0)) (cs' := ((XImages ++ [(TPauli.mk 0 (shlK .i64 1 (i : Int)) 0)]).flatMap eN0)) hS65 K2 K0 K8 K5 rfl (by decide) rfl rfl rfl rfl (fm_lenn (l := XImages) eN1 rfl) rfl (hS65.c 5) (fm_lenn (l := [(TPauli.mk 0 (shlK .i64 1 (i : Int)) 0)]) eN1 rfl) (fm_one' (enc := eN0) eN3 [(TPauli.mk 0 (shlK .i64 1 (i : Int)) 0)]) (by have := hap; omega) (by have := hap; simp only [maxLen]; omega) (fm_app _ _) (app_len (l := XImages) (l' := [(TPauli.mk 0 (shlK .i64 1 (i : Int)) 0)]) rfl rfl)) ?_ ?_
       ·rintro _ w_60 ⟨B4, c4, rfl, hS66⟩
        have hS66 : ST w0 [] _ [⟨aD b, 40, [vi 0, .slice none 0 0, .slice none 0 0], 3⟩, ⟨aD b1, 40, [vi n, .slice B2 XImages.length c2, .slice B3 ZImages.length c3], 3⟩, ⟨B4, 71, ((XImages ++ [(TPauli.mk 0 (shlK .i64 1 (i : Int)) 0)]).flatMap eN0), c4 * 3⟩, ⟨B3, 71, (ZImages.flatMap eN0), c3 * 3⟩, ⟨aD b3, 71, ([(TPauli.mk 0 0 (shlK .i64 1 (i : Int)))].flatMap eN0), 1 * 3⟩, ⟨aD b2, 71, ([(TPauli.mk 0 (shlK .i64 1 (i : Int)) 0)].flatMap eN0), 1 * 3⟩] [] := hS66
        refine ⟨(hS66.se [0]), ?_⟩
        refine rq 14 25 (v := pt (aD b1) 1) rfl (hS66.se [0]) (fun w' hw' => (yd (aD b1) 0 0 K9 K1 rfl (hf.g 3 1))) ?_
        refine rA [13] ?_
        refine rS 24 13 rfl (Ys_append (s := 3) (by' := 24) (i := 3) (nn := ZImages.length) (c := c3) (k := 1) (len := (ZImages ++ [(TPauli.mk 0 0 (shlK .i64 1 (i : Int)))]).length) (B := B3) (xs := ([(TPauli.mk 0 0 (shlK .i64 1 (i : Int)))].flatMap eN0)) (cs' := ((ZImages ++ [(TPauli.mk 0 0 (shlK .i64 1 (i : Int)))]).flatMap eN0)) hS66 K2 K0 K8 K5 rfl (by decide) rfl rfl rfl rfl (fm_lenn (l := ZImages) eN1 rfl) rfl (hS66.c 4) (fm_lenn (l := [(TPauli.mk 0 0 (shlK .i64 1 (i : Int)))]) eN1 rfl) (fm_one' (enc := eN0) eN3 [(TPauli.mk 0 0 (shlK .i64 1 (i : Int)))]) (by have := hap1; omega) (by have := hap1; simp only [maxLen]; omega) (fm_app _ _) (app_len (l := ZImages) (l' := [(TPauli.mk 0 0 (shlK .i64 1 (i : Int)))]) rfl rfl)) ?_ ?_
        ·rintro _ w_61 ⟨B5, c5, rfl, hS67⟩
         refine ⟨(hS67.se [0]), ?_⟩
         refine rA [15] ?_
         refine rZ 15 rfl (yS 1 1 (aD b1) 40 (.slice B4 ((XImages ++ [(TPauli.mk 0 (shlK .i64 1 (i : Int)) 0)]).length) c4) [.slice B4 ((XImages ++ [(TPauli.mk 0 (shlK .i64 1 (i : Int)) 0)]).length) c4] 1 [vi n, .slice B4 ((XImages ++ [(TPauli.mk 0 (shlK .i64 1 (i : Int)) 0)]).length) c4, .slice B3 ZImages.length c3] hS67 K1) ?_ ?_
         ·rintro _ w_62 ⟨rfl, hS68⟩
          refine ⟨(hS68.se [0]), ?_⟩
          refine rq 16 26 (v := pt (aD b1) 2) rfl (hS68.se [0]) (fun w' hw' => (yd (aD b1) 0 0 K11 K1 rfl (hf.g 3 1))) ?_
          refine rA [17] ?_
          refine rZ 17 rfl (yS 1 1 (aD b1) 40 (.slice B5 ((ZImages ++ [(TPauli.mk 0 0 (shlK .i64 1 (i : Int)))]).length) c5) [.slice B5 ((ZImages ++ [(TPauli.mk 0 0 (shlK .i64 1 (i : Int)))]).length) c5] 2 [vi n, .slice B4 ((XImages ++ [(TPauli.mk 0 (shlK .i64 1 (i : Int)) 0)]).length) c4, .slice B5 ((ZImages ++ [(TPauli.mk 0 0 (shlK .i64 1 (i : Int)))]).length) c5] hS68 K1) ?_ ?_
          ·rintro _ w_63 ⟨rfl, hS69⟩
           refine ⟨(hS69.se [0]), ?_⟩
           refine ra_done (by kernel_rfl) ?_
           exact ⟨B4, c4, B5, c5, (fc (hf.g 2 0) (fc (hf.g 3 1) (fc (hf.g 7 2) (fc (hf.g 8 3) fn_)))), (hS69.sel [0, 1, 2, 3] rfl rfl)⟩
          exact aN
         exact aN
        exact aN
       exact aN
      exact aN
     exact aN
    exact aN
   refine rS 16 5 rfl (Ys_bslice (s := 3) (len := 1) (vs := [(0, .agg #[vi 0, vi (shlK .i64 1 (i : Int)), vi 0])]) (cs := [vi 0, vi (shlK .i64 1 (i : Int)), vi 0]) (zs := [vi 0, vi 0, vi 0]) (m := 3) hS8 K2 K0 K12 rfl (mpc rfl mpn) rfl rfl rfl (by kernel_rfl) (by kernel_rfl) rfl) ?_ ?_
   ·rintro _ w_64 ⟨b2, rfl, hS70⟩
    refine ⟨(hS70.se [0]), ?_⟩
    refine rA [1, 8, 12] ?_
    refine ra_y 12 (i := 1) (v := .slice B2 XImages.length c2) rfl rfl rfl (yl (aD b1) 1 [vi n, .slice B2 XImages.length c2, .slice B3 ZImages.length c3] (.slice B2 XImages.length c2) K6 (hS70.c 1)) (hS70.se [0]) ?_ ?_
    ·skip
     refine rA [6, 8, 12] ?_
     refine rS 17 6 rfl (Ys_append (s := 3) (by' := 24) (i := 2) (nn := XImages.length) (c := c2) (k := 1) (len := (XImages ++ [(TPauli.mk 0 (shlK .i64 1 (i : Int)) 0)]).length) (B := B2) (xs := ([(TPauli.mk 0 (shlK .i64 1 (i : Int)) 0)].flatMap eN0)) (cs' := ((XImages ++ [(TPauli.mk 0 (shlK .i64 1 (i : Int)) 0)]).flatMap eN0)) hS70 K2 K0 K8 K5 rfl (by decide) rfl rfl rfl rfl (fm_lenn (l := XImages) eN1 rfl) rfl (hS70.c 4) (fm_lenn (l := [(TPauli.mk 0 (shlK .i64 1 (i : Int)) 0)]) eN1 rfl) (fm_one' (enc := eN0) eN3 [(TPauli.mk 0 (shlK .i64 1 (i : Int)) 0)]) (by have := hap; omega) (by have := hap; simp only [maxLen]; omega) (fm_app _ _) (app_len (l := XImages) (l' := [(TPauli.mk 0 (shlK .i64 1 (i : Int)) 0)]) rfl rfl)) ?_ ?_
     ·rintro _ w_65 ⟨B4, c4, rfl, hS71⟩
      refine ⟨(hS71.se [0]), ?_⟩
      refine rA [8, 12] ?_
      refine ra_y 19 (i := 8) (v := .slice B3 ZImages.length c3) rfl rfl rfl (yl (aD b1) 2 [vi n, .slice B2 XImages.length c2, .slice B3 ZImages.length c3] (.slice B3 ZImages.length c3) K6 (hS71.c 1)) (hS71.se [0]) ?_ ?_
      ·skip
       refine rq 14 25 (v := pt (aD b1) 1) rfl (hS71.se [0]) (fun w' hw' => (yd (aD b1) 0 0 K9 K1 rfl (hf.g 3 1))) ?_
       refine rA [12] ?_
       refine rS 23 12 rfl (Ys_bslice (s := 3) (len := 1) (vs := [(0, .agg #[vi 0, vi 0, vi (shlK .i64 1 (i : Int))])]) (cs := [vi 0, vi 0, vi (shlK .i64 1 (i : Int))]) (zs := [vi 0, vi 0, vi 0]) (m := 3) hS71 K2 K0 K12 rfl (mpc rfl mpn) rfl rfl rfl (by kernel_rfl) (by kernel_rfl) rfl) ?_ ?_
       ·rintro _ w_66 ⟨b3, rfl, hS72⟩
        refine ⟨(hS72.se [0]), ?_⟩
        refine rA [13] ?_
        refine rS 24 13 rfl (Ys_append (s := 3) (by' := 24) (i := 3) (nn := ZImages.length) (c := c3) (k := 1) (len := (ZImages ++ [(TPauli.mk 0 0 (shlK .i64 1 (i : Int)))]).length) (B := B3) (xs := ([(TPauli.mk 0 0 (shlK .i64 1 (i : Int)))].flatMap eN0)) (cs' := ((ZImages ++ [(TPauli.mk 0 0 (shlK .i64 1 (i : Int)))]).flatMap eN0)) hS72 K2 K0 K8 K5 rfl (by decide) rfl rfl rfl rfl (fm_lenn (l := ZImages) eN1 rfl) rfl (hS72.c 5) (fm_lenn (l := [(TPauli.mk 0 0 (shlK .i64 1 (i : Int)))]) eN1 rfl) (fm_one' (enc := eN0) eN3 [(TPauli.mk 0 0 (shlK .i64 1 (i : Int)))]) (by have := hap1; omega) (by have := hap1; simp only [maxLen]; omega) (fm_app _ _) (app_len (l := ZImages) (l' := [(TPauli.mk 0 0 (shlK .i64 1 (i : Int)))]) rfl rfl)) ?_ ?_
        ·rintro _ w_67 ⟨B5, c5, rfl, hS73⟩
         refine ⟨(hS73.se [0]), ?_⟩
         refine rA [15] ?_
         refine rZ 15 rfl (yS 1 1 (aD b1) 40 (.slice B4 ((XImages ++ [(TPauli.mk 0 (shlK .i64 1 (i : Int)) 0)]).length) c4) [.slice B4 ((XImages ++ [(TPauli.mk 0 (shlK .i64 1 (i : Int)) 0)]).length) c4] 1 [vi n, .slice B4 ((XImages ++ [(TPauli.mk 0 (shlK .i64 1 (i : Int)) 0)]).length) c4, .slice B3 ZImages.length c3] hS73 K1) ?_ ?_
         ·rintro _ w_68 ⟨rfl, hS74⟩
          refine ⟨(hS74.se [0]), ?_⟩
          refine rq 16 26 (v := pt (aD b1) 2) rfl (hS74.se [0]) (fun w' hw' => (yd (aD b1) 0 0 K11 K1 rfl (hf.g 3 1))) ?_
          refine rA [17] ?_
          refine rZ 17 rfl (yS 1 1 (aD b1) 40 (.slice B5 ((ZImages ++ [(TPauli.mk 0 0 (shlK .i64 1 (i : Int)))]).length) c5) [.slice B5 ((ZImages ++ [(TPauli.mk 0 0 (shlK .i64 1 (i : Int)))]).length) c5] 2 [vi n, .slice B4 ((XImages ++ [(TPauli.mk 0 (shlK .i64 1 (i : Int)) 0)]).length) c4, .slice B5 ((ZImages ++ [(TPauli.mk 0 0 (shlK .i64 1 (i : Int)))]).length) c5] hS74 K1) ?_ ?_
          ·rintro _ w_69 ⟨rfl, hS75⟩
           refine ⟨(hS75.se [0]), ?_⟩
           refine ra_done (by kernel_rfl) ?_
           exact ⟨B4, c4, B5, c5, (fc (hf.g 2 0) (fc (hf.g 3 1) (fc (hf.g 7 2) (fc (hf.g 8 3) fn_)))), (hS75.sel [0, 1, 2, 3] rfl rfl)⟩
          exact aN
         exact aN
        exact aN
       exact aN
      refine rS 23 12 rfl (Ys_bslice (s := 3) (len := 1) (vs := [(0, .agg #[vi 0, vi 0, vi (shlK .i64 1 (i : Int))])]) (cs := [vi 0, vi 0, vi (shlK .i64 1 (i : Int))]) (zs := [vi 0, vi 0, vi 0]) (m := 3) hS71 K2 K0 K12 rfl (mpc rfl mpn) rfl rfl rfl (by kernel_rfl) (by kernel_rfl) rfl) ?_ ?_
      ·rintro _ w_70 ⟨b3, rfl, hS76⟩
       refine ⟨(hS76.se [0]), ?_⟩
       refine rA [8] ?_
       refine ra_y 19 (i := 8) (v := .slice B3 ZImages.length c3) rfl rfl rfl (yl (aD b1) 2 [vi n, .slice B2 XImages.length c2, .slice B3 ZImages.length c3] (.slice B3 ZImages.length c3) K6 (hS76.c 1)) (hS76.se [0]) ?_ ?_
       ·skip
        refine rq 14 25 (v := pt (aD b1) 1) rfl (hS76.se [0]) (fun w' hw' => (yd (aD b1) 0 0 K9 K1 rfl (hf.g 3 1))) ?_
        refine rA [13] ?_
        refine rS 24 13 rfl (Ys_append (s := 3) (by' := 24) (i := 3) (nn := ZImages.length) (c := c3) (k := 1) (len := (ZImages ++ [(TPauli.mk 0 0 (shlK .i64 1 (i : Int)))]).length) (B := B3) (xs := ([(TPauli.mk 0 0 (shlK .i64 1 (i : Int)))].flatMap eN0)) (cs' := ((ZImages ++ [(TPauli.mk 0 0 (shlK .i64 1 (i : Int)))]).flatMap eN0)) hS76 K2 K0 K8 K5 rfl (by decide) rfl rfl rfl rfl (fm_lenn (l := ZImages) eN1 rfl) rfl (hS76.c 5) (fm_lenn (l := [(TPauli.mk 0 0 (shlK .i64 1 (i : Int)))]) eN1 rfl) (fm_one' (enc := eN0) eN3 [(TPauli.mk 0 0 (shlK .i64 1 (i : Int)))]) (by have := hap1; omega) (by have := hap1; simp only [maxLen]; omega) (fm_app _ _) (app_len (l := ZImages) (l' := [(TPauli.mk 0 0 (shlK .i64 1 (i : Int)))]) rfl rfl)) ?_ ?_
        ·rintro _ w_71 ⟨B5, c5, rfl, hS77⟩
         refine ⟨(hS77.se [0]), ?_⟩
         refine rA [15] ?_
         refine rZ 15 rfl (yS 1 1 (aD b1) 40 (.slice B4 ((XImages ++ [(TPauli.mk 0 (shlK .i64 1 (i : Int)) 0)]).length) c4) [.slice B4 ((XImages ++ [(TPauli.mk 0 (shlK .i64 1 (i : Int)) 0)]).length) c4] 1 [vi n, .slice B4 ((XImages ++ [(TPauli.mk 0 (shlK .i64 1 (i : Int)) 0)]).length) c4, .slice B3 ZImages.length c3] hS77 K1) ?_ ?_
         ·rintro _ w_72 ⟨rfl, hS78⟩
          refine ⟨(hS78.se [0]), ?_⟩
          refine rq 16 26 (v := pt (aD b1) 2) rfl (hS78.se [0]) (fun w' hw' => (yd (aD b1) 0 0 K11 K1 rfl (hf.g 3 1))) ?_
          refine rA [17] ?_
          refine rZ 17 rfl (yS 1 1 (aD b1) 40 (.slice B5 ((ZImages ++ [(TPauli.mk 0 0 (shlK .i64 1 (i : Int)))]).length) c5) [.slice B5 ((ZImages ++ [(TPauli.mk 0 0 (shlK .i64 1 (i : Int)))]).length) c5] 2 [vi n, .slice B4 ((XImages ++ [(TPauli.mk 0 (shlK .i64 1 (i : Int)) 0)]).length) c4, .slice B5 ((ZImages ++ [(TPauli.mk 0 0 (shlK .i64 1 (i : Int)))]).length) c5] hS78 K1) ?_ ?_
          ·rintro _ w_73 ⟨rfl, hS79⟩
           refine ⟨(hS79.se [0]), ?_⟩
           refine ra_done (by kernel_rfl) ?_
           exact ⟨B4, c4, B5, c5, (fc (hf.g 2 0) (fc (hf.g 3 1) (fc (hf.g 7 2) (fc (hf.g 8 3) fn_)))), (hS79.sel [0, 1, 2, 3] rfl rfl)⟩
          exact aN
         exact aN
        exact aN
       exact aN
      exact aN
     refine ra_y 19 (i := 8) (v := .slice B3 ZImages.length c3) rfl rfl rfl (yl (aD b1) 2 [vi n, .slice B2 XImages.length c2, .slice B3 ZImages.length c3] (.slice B3 ZImages.length c3) K6 (hS70.c 1)) (hS70.se [0]) ?_ ?_
     ·skip
      refine rA [6, 12] ?_
      refine rS 17 6 rfl (Ys_append (s := 3) (by' := 24) (i := 2) (nn := XImages.length) (c := c2) (k := 1) (len := (XImages ++ [(TPauli.mk 0 (shlK .i64 1 (i : Int)) 0)]).length) (B := B2) (xs := ([(TPauli.mk 0 (shlK .i64 1 (i : Int)) 0)].flatMap eN0)) (cs' := ((XImages ++ [(TPauli.mk 0 (shlK .i64 1 (i : Int)) 0)]).flatMap eN0)) hS70 K2 K0 K8 K5 rfl (by decide) rfl rfl rfl rfl (fm_lenn (l := XImages) eN1 rfl) rfl (hS70.c 4) (fm_lenn (l := [(TPauli.mk 0 (shlK .i64 1 (i : Int)) 0)]) eN1 rfl) (fm_one' (enc := eN0) eN3 [(TPauli.mk 0 (shlK .i64 1 (i : Int)) 0)]) (by have := hap; omega) (by have := hap; simp only [maxLen]; omega) (fm_app _ _) (app_len (l := XImages) (l' := [(TPauli.mk 0 (shlK .i64 1 (i : Int)) 0)]) rfl rfl)) ?_ ?_
      ·rintro _ w_74 ⟨B4, c4, rfl, hS80⟩
       refine ⟨(hS80.se [0]), ?_⟩
       refine rq 14 25 (v := pt (aD b1) 1) rfl (hS80.se [0]) (fun w' hw' => (yd (aD b1) 0 0 K9 K1 rfl (hf.g 3 1))) ?_
       refine rA [12] ?_
       refine rS 23 12 rfl (Ys_bslice (s := 3) (len := 1) (vs := [(0, .agg #[vi 0, vi 0, vi (shlK .i64 1 (i : Int))])]) (cs := [vi 0, vi 0, vi (shlK .i64 1 (i : Int))]) (zs := [vi 0, vi 0, vi 0]) (m := 3) hS80 K2 K0 K12 rfl (mpc rfl mpn) rfl rfl rfl (by kernel_rfl) (by kernel_rfl) rfl) ?_ ?_
       ·rintro _ w_75 ⟨b3, rfl, hS81⟩
        refine ⟨(hS81.se [0]), ?_⟩
        refine rA [13] ?_
        refine rS 24 13 rfl (Ys_append (s := 3) (by' := 24) (i := 3) (nn := ZImages.length) (c := c3) (k := 1) (len := (ZImages ++ [(TPauli.mk 0 0 (shlK .i64 1 (i : Int)))]).length) (B := B3) (xs := ([(TPauli.mk 0 0 (shlK .i64 1 (i : Int)))].flatMap eN0)) (cs' := ((ZImages ++ [(TPauli.mk 0 0 (shlK .i64 1 (i : Int)))]).flatMap eN0)) hS81 K2 K0 K8 K5 rfl (by decide) rfl rfl rfl rfl (fm_lenn (l := ZImages) eN1 rfl) rfl (hS81.c 5) (fm_lenn (l := [(TPauli.mk 0 0 (shlK .i64 1 (i : Int)))]) eN1 rfl) (fm_one' (enc := eN0) eN3 [(TPauli.mk 0 0 (shlK .i64 1 (i : Int)))]) (by have := hap1; omega) (by have := hap1; simp only [maxLen]; omega) (fm_app _ _) (app_len (l := ZImages) (l' := [(TPauli.mk 0 0 (shlK .i64 1 (i : Int)))]) rfl rfl)) ?_ ?_
        ·rintro _ w_76 ⟨B5, c5, rfl, hS82⟩
         refine ⟨(hS82.se [0]), ?_⟩
         refine rA [15] ?_
         refine rZ 15 rfl (yS 1 1 (aD b1) 40 (.slice B4 ((XImages ++ [(TPauli.mk 0 (shlK .i64 1 (i : Int)) 0)]).length) c4) [.slice B4 ((XImages ++ [(TPauli.mk 0 (shlK .i64 1 (i : Int)) 0)]).length) c4] 1 [vi n, .slice B4 ((XImages ++ [(TPauli.mk 0 (shlK .i64 1 (i : Int)) 0)]).length) c4, .slice B3 ZImages.length c3] hS82 K1) ?_ ?_
         ·rintro _ w_77 ⟨rfl, hS83⟩
          refine ⟨(hS83.se [0]), ?_⟩
          refine rq 16 26 (v := pt (aD b1) 2) rfl (hS83.se [0]) (fun w' hw' => (yd (aD b1) 0 0 K11 K1 rfl (hf.g 3 1))) ?_
          refine rA [17] ?_
          refine rZ 17 rfl (yS 1 1 (aD b1) 40 (.slice B5 ((ZImages ++ [(TPauli.mk 0 0 (shlK .i64 1 (i : Int)))]).length) c5) [.slice B5 ((ZImages ++ [(TPauli.mk 0 0 (shlK .i64 1 (i : Int)))]).length) c5] 2 [vi n, .slice B4 ((XImages ++ [(TPauli.mk 0 (shlK .i64 1 (i : Int)) 0)]).length) c4, .slice B5 ((ZImages ++ [(TPauli.mk 0 0 (shlK .i64 1 (i : Int)))]).length) c5] hS83 K1) ?_ ?_
          ·rintro _ w_78 ⟨rfl, hS84⟩
           refine ⟨(hS84.se [0]), ?_⟩
           refine ra_done (by kernel_rfl) ?_
           exact ⟨B4, c4, B5, c5, (fc (hf.g 2 0) (fc (hf.g 3 1) (fc (hf.g 7 2) (fc (hf.g 8 3) fn_)))), (hS84.sel [0, 1, 2, 3] rfl rfl)⟩
          exact aN
         exact aN
        exact aN
       exact aN
      refine rS 23 12 rfl (Ys_bslice (s := 3) (len := 1) (vs := [(0, .agg #[vi 0, vi 0, vi (shlK .i64 1 (i : Int))])]) (cs := [vi 0, vi 0, vi (shlK .i64 1 (i : Int))]) (zs := [vi 0, vi 0, vi 0]) (m := 3) hS70 K2 K0 K12 rfl (mpc rfl mpn) rfl rfl rfl (by kernel_rfl) (by kernel_rfl) rfl) ?_ ?_
      ·rintro _ w_79 ⟨b3, rfl, hS85⟩
       refine ⟨(hS85.se [0]), ?_⟩
       refine rA [6] ?_
       refine rS 17 6 rfl (Ys_append (s := 3) (by' := 24) (i := 2) (nn := XImages.length) (c := c2) (k := 1) (len := (XImages ++ [(TPauli.mk 0 (shlK .i64 1 (i : Int)) 0)]).length) (B := B2) (xs := ([(TPauli.mk 0 (shlK .i64 1 (i : Int)) 0)].flatMap eN0)) (cs' := ((XImages ++ [(TPauli.mk 0 (shlK .i64 1 (i : Int)) 0)]).flatMap eN0)) hS85 K2 K0 K8 K5 rfl (by decide) rfl rfl rfl rfl (fm_lenn (l := XImages) eN1 rfl) rfl (hS85.c 4) (fm_lenn (l := [(TPauli.mk 0 (shlK .i64 1 (i : Int)) 0)]) eN1 rfl) (fm_one' (enc := eN0) eN3 [(TPauli.mk 0 (shlK .i64 1 (i : Int)) 0)]) (by have := hap; omega) (by have := hap; simp only [maxLen]; omega) (fm_app _ _) (app_len (l := XImages) (l' := [(TPauli.mk 0 (shlK .i64 1 (i : Int)) 0)]) rfl rfl)) ?_ ?_
       ·rintro _ w_80 ⟨B4, c4, rfl, hS86⟩
        refine ⟨(hS86.se [0]), ?_⟩
        refine rq 14 25 (v := pt (aD b1) 1) rfl (hS86.se [0]) (fun w' hw' => (yd (aD b1) 0 0 K9 K1 rfl (hf.g 3 1))) ?_
        refine rA [13] ?_
        refine rS 24 13 rfl (Ys_append (s := 3) (by' := 24) (i := 3) (nn := ZImages.length) (c := c3) (k := 1) (len := (ZImages ++ [(TPauli.mk 0 0 (shlK .i64 1 (i : Int)))]).length) (B := B3) (xs := ([(TPauli.mk 0 0 (shlK .i64 1 (i : Int)))].flatMap eN0)) (cs' := ((ZImages ++ [(TPauli.mk 0 0 (shlK .i64 1 (i : Int)))]).flatMap eN0)) hS86 K2 K0 K8 K5 rfl (by decide) rfl rfl rfl rfl (fm_lenn (l := ZImages) eN1 rfl) rfl (hS86.c 5) (fm_lenn (l := [(TPauli.mk 0 0 (shlK .i64 1 (i : Int)))]) eN1 rfl) (fm_one' (enc := eN0) eN3 [(TPauli.mk 0 0 (shlK .i64 1 (i : Int)))]) (by have := hap1; omega) (by have := hap1; simp only [maxLen]; omega) (fm_app _ _) (app_len (l := ZImages) (l' := [(TPauli.mk 0 0 (shlK .i64 1 (i : Int)))]) rfl rfl)) ?_ ?_
        ·rintro _ w_81 ⟨B5, c5, rfl, hS87⟩
         refine ⟨(hS87.se [0]), ?_⟩
         refine rA [15] ?_
         refine rZ 15 rfl (yS 1 1 (aD b1) 40 (.slice B4 ((XImages ++ [(TPauli.mk 0 (shlK .i64 1 (i : Int)) 0)]).length) c4) [.slice B4 ((XImages ++ [(TPauli.mk 0 (shlK .i64 1 (i : Int)) 0)]).length) c4] 1 [vi n, .slice B4 ((XImages ++ [(TPauli.mk 0 (shlK .i64 1 (i : Int)) 0)]).length) c4, .slice B3 ZImages.length c3] hS87 K1) ?_ ?_
         ·rintro _ w_82 ⟨rfl, hS88⟩
          refine ⟨(hS88.se [0]), ?_⟩
          refine rq 16 26 (v := pt (aD b1) 2) rfl (hS88.se [0]) (fun w' hw' => (yd (aD b1) 0 0 K11 K1 rfl (hf.g 3 1))) ?_
          refine rA [17] ?_
          refine rZ 17 rfl (yS 1 1 (aD b1) 40 (.slice B5 ((ZImages ++ [(TPauli.mk 0 0 (shlK .i64 1 (i : Int)))]).length) c5) [.slice B5 ((ZImages ++ [(TPauli.mk 0 0 (shlK .i64 1 (i : Int)))]).length) c5] 2 [vi n, .slice B4 ((XImages ++ [(TPauli.mk 0 (shlK .i64 1 (i : Int)) 0)]).length) c4, .slice B5 ((ZImages ++ [(TPauli.mk 0 0 (shlK .i64 1 (i : Int)))]).length) c5] hS88 K1) ?_ ?_
          ·rintro _ w_83 ⟨rfl, hS89⟩
           refine ⟨(hS89.se [0]), ?_⟩
           refine ra_done (by kernel_rfl) ?_
           exact ⟨B4, c4, B5, c5, (fc (hf.g 2 0) (fc (hf.g 3 1) (fc (hf.g 7 2) (fc (hf.g 8 3) fn_)))), (hS89.sel [0, 1, 2, 3] rfl rfl)⟩
          exact aN
         exact aN
        exact aN
       exact aN
      exact aN
     refine rS 23 12 rfl (Ys_bslice (s := 3) (len := 1) (vs := [(0, .agg #[vi 0, vi 0, vi (shlK .i64 1 (i : Int))])]) (cs := [vi 0, vi 0, vi (shlK .i64 1 (i : Int))]) (zs := [vi 0, vi 0, vi 0]) (m := 3) hS70 K2 K0 K12 rfl (mpc rfl mpn) rfl rfl rfl (by kernel_rfl) (by kernel_rfl) rfl) ?_ ?_
     ·rintro _ w_84 ⟨b3, rfl, hS90⟩
      refine ⟨(hS90.se [0]), ?_⟩
      refine rA [6, 8] ?_
      refine rS 17 6 rfl (Ys_append (s := 3) (by' := 24) (i := 2) (nn := XImages.length) (c := c2) (k := 1) (len := (XImages ++ [(TPauli.mk 0 (shlK .i64 1 (i : Int)) 0)]).length) (B := B2) (xs := ([(TPauli.mk 0 (shlK .i64 1 (i : Int)) 0)].flatMap eN0)) (cs' := ((XImages ++ [(TPauli.mk 0 (shlK .i64 1 (i : Int)) 0)]).flatMap eN0)) hS90 K2 K0 K8 K5 rfl (by decide) rfl rfl rfl rfl (fm_lenn (l := XImages) eN1 rfl) rfl (hS90.c 4) (fm_lenn (l := [(TPauli.mk 0 (shlK .i64 1 (i : Int)) 0)]) eN1 rfl) (fm_one' (enc := eN0) eN3 [(TPauli.mk 0 (shlK .i64 1 (i : Int)) 0)]) (by have := hap; omega) (by have := hap; simp only [maxLen]; omega) (fm_app _ _) (app_len (l := XImages) (l' := [(TPauli.mk 0 (shlK .i64 1 (i : Int)) 0)]) rfl rfl)) ?_ ?_
      ·rintro _ w_85 ⟨B4, c4, rfl, hS91⟩
       refine ⟨(hS91.se [0]), ?_⟩
       refine rA [8] ?_
       refine ra_y 19 (i := 8) (v := .slice B3 ZImages.length c3) rfl rfl rfl (yl (aD b1) 2 [vi n, .slice B2 XImages.length c2, .slice B3 ZImages.length c3] (.slice B3 ZImages.length c3) K6 (hS91.c 1)) (hS91.se [0]) ?_ ?_
       ·skip
        refine rq 14 25 (v := pt (aD b1) 1) rfl (hS91.se [0]) (fun w' hw' => (yd (aD b1) 0 0 K9 K1 rfl (hf.g 3 1))) ?_
        refine rA [13] ?_
        refine rS 24 13 rfl (Ys_append (s := 3) (by' := 24) (i := 3) (nn := ZImages.length) (c := c3) (k := 1) (len := (ZImages ++ [(TPauli.mk 0 0 (shlK .i64 1 (i : Int)))]).length) (B := B3) (xs := ([(TPauli.mk 0 0 (shlK .i64 1 (i : Int)))].flatMap eN0)) (cs' := ((ZImages ++ [(TPauli.mk 0 0 (shlK .i64 1 (i : Int)))]).flatMap eN0)) hS91 K2 K0 K8 K5 rfl (by decide) rfl rfl rfl rfl (fm_lenn (l := ZImages) eN1 rfl) rfl (hS91.c 5) (fm_lenn (l := [(TPauli.mk 0 0 (shlK .i64 1 (i : Int)))]) eN1 rfl) (fm_one' (enc := eN0) eN3 [(TPauli.mk 0 0 (shlK .i64 1 (i : Int)))]) (by have := hap1; omega) (by have := hap1; simp only [maxLen]; omega) (fm_app _ _) (app_len (l := ZImages) (l' := [(TPauli.mk 0 0 (shlK .i64 1 (i : Int)))]) rfl rfl)) ?_ ?_
        ·rintro _ w_86 ⟨B5, c5, rfl, hS92⟩
         refine ⟨(hS92.se [0]), ?_⟩
         refine rA [15] ?_
         refine rZ 15 rfl (yS 1 1 (aD b1) 40 (.slice B4 ((XImages ++ [(TPauli.mk 0 (shlK .i64 1 (i : Int)) 0)]).length) c4) [.slice B4 ((XImages ++ [(TPauli.mk 0 (shlK .i64 1 (i : Int)) 0)]).length) c4] 1 [vi n, .slice B4 ((XImages ++ [(TPauli.mk 0 (shlK .i64 1 (i : Int)) 0)]).length) c4, .slice B3 ZImages.length c3] hS92 K1) ?_ ?_
         ·rintro _ w_87 ⟨rfl, hS93⟩
          refine ⟨(hS93.se [0]), ?_⟩
          refine rq 16 26 (v := pt (aD b1) 2) rfl (hS93.se [0]) (fun w' hw' => (yd (aD b1) 0 0 K11 K1 rfl (hf.g 3 1))) ?_
          refine rA [17] ?_
          refine rZ 17 rfl (yS 1 1 (aD b1) 40 (.slice B5 ((ZImages ++ [(TPauli.mk 0 0 (shlK .i64 1 (i : Int)))]).length) c5) [.slice B5 ((ZImages ++ [(TPauli.mk 0 0 (shlK .i64 1 (i : Int)))]).length) c5] 2 [vi n, .slice B4 ((XImages ++ [(TPauli.mk 0 (shlK .i64 1 (i : Int)) 0)]).length) c4, .slice B5 ((ZImages ++ [(TPauli.mk 0 0 (shlK .i64 1 (i : Int)))]).length) c5] hS93 K1) ?_ ?_
          ·rintro _ w_88 ⟨rfl, hS94⟩
           refine ⟨(hS94.se [0]), ?_⟩
           refine ra_done (by kernel_rfl) ?_
           exact ⟨B4, c4, B5, c5, (fc (hf.g 2 0) (fc (hf.g 3 1) (fc (hf.g 7 2) (fc (hf.g 8 3) fn_)))), (hS94.sel [0, 1, 2, 3] rfl rfl)⟩
          exact aN
         exact aN
        exact aN
       exact aN
      refine ra_y 19 (i := 8) (v := .slice B3 ZImages.length c3) rfl rfl rfl (yl (aD b1) 2 [vi n, .slice B2 XImages.length c2, .slice B3 ZImages.length c3] (.slice B3 ZImages.length c3) K6 (hS90.c 1)) (hS90.se [0]) ?_ ?_
      ·skip
       refine rA [6] ?_
       refine rS 17 6 rfl (Ys_append (s := 3) (by' := 24) (i := 2) (nn := XImages.length) (c := c2) (k := 1) (len := (XImages ++ [(TPauli.mk 0 (shlK .i64 1 (i : Int)) 0)]).length) (B := B2) (xs := ([(TPauli.mk 0 (shlK .i64 1 (i : Int)) 0)].flatMap eN0)) (cs' := ((XImages ++ [(TPauli.mk 0 (shlK .i64 1 (i : Int)) 0)]).flatMap eN0)) hS90 K2 K0 K8 K5 rfl (by decide) rfl rfl rfl rfl (fm_lenn (l := XImages) eN1 rfl) rfl (hS90.c 4) (fm_lenn (l := [(TPauli.mk 0 (shlK .i64 1 (i : Int)) 0)]) eN1 rfl) (fm_one' (enc := eN0) eN3 [(TPauli.mk 0 (shlK .i64 1 (i : Int)) 0)]) (by have := hap; omega) (by have := hap; simp only [maxLen]; omega) (fm_app _ _) (app_len (l := XImages) (l' := [(TPauli.mk 0 (shlK .i64 1 (i : Int)) 0)]) rfl rfl)) ?_ ?_
       ·rintro _ w_89 ⟨B4, c4, rfl, hS95⟩
        refine ⟨(hS95.se [0]), ?_⟩
        refine rq 14 25 (v := pt (aD b1) 1) rfl (hS95.se [0]) (fun w' hw' => (yd (aD b1) 0 0 K9 K1 rfl (hf.g 3 1))) ?_
        refine rA [13] ?_
        refine rS 24 13 rfl (Ys_append (s := 3) (by' := 24) (i := 3) (nn := ZImages.length) (c := c3) (k := 1) (len := (ZImages ++ [(TPauli.mk 0 0 (shlK .i64 1 (i : Int)))]).length) (B := B3) (xs := ([(TPauli.mk 0 0 (shlK .i64 1 (i : Int)))].flatMap eN0)) (cs' := ((ZImages ++ [(TPauli.mk 0 0 (shlK .i64 1 (i : Int)))]).flatMap eN0)) hS95 K2 K0 K8 K5 rfl (by decide) rfl rfl rfl rfl (fm_lenn (l := ZImages) eN1 rfl) rfl (hS95.c 5) (fm_lenn (l := [(TPauli.mk 0 0 (shlK .i64 1 (i : Int)))]) eN1 rfl) (fm_one' (enc := eN0) eN3 [(TPauli.mk 0 0 (shlK .i64 1 (i : Int)))]) (by have := hap1; omega) (by have := hap1; simp only [maxLen]; omega) (fm_app _ _) (app_len (l := ZImages) (l' := [(TPauli.mk 0 0 (shlK .i64 1 (i : Int)))]) rfl rfl)) ?_ ?_
        ·rintro _ w_90 ⟨B5, c5, rfl, hS96⟩
         have hS96 : ST w0 [] _ [⟨aD b, 40, [vi 0, .slice none 0 0, .slice none 0 0], 3⟩, ⟨aD b1, 40, [vi n, .slice B2 XImages.length c2, .slice B3 ZImages.length c3], 3⟩, ⟨B4, 71, ((XImages ++ [(TPauli.mk 0 (shlK .i64 1 (i : Int)) 0)]).flatMap eN0), c4 * 3⟩, ⟨B5, 71, ((ZImages ++ [(TPauli.mk 0 0 (shlK .i64 1 (i : Int)))]).flatMap eN0), c5 * 3⟩, ⟨aD b2, 71, ([(TPauli.mk 0 (shlK .i64 1 (i : Int)) 0)].flatMap eN0), 1 * 3⟩, ⟨aD b3, 71, ([(TPauli.mk 0 0 (shlK .i64 1 (i : Int)))].flatMap eN0), 1 * 3⟩] [] := hS96
         refine ⟨(hS96.se [0]), ?_⟩
         refine rA [15] ?_
         refine rZ 15 rfl (yS 1 1 (aD b1) 40 (.slice B4 ((XImages ++ [(TPauli.mk 0 (shlK .i64 1 (i : Int)) 0)]).length) c4) [.slice B4 ((XImages ++ [(TPauli.mk 0 (shlK .i64 1 (i : Int)) 0)]).length) c4] 1 [vi n, .slice B4 ((XImages ++ [(TPauli.mk 0 (shlK .i64 1 (i : Int)) 0)]).length) c4, .slice B3 ZImages.length c3] hS96 K1) ?_ ?_
         ·rintro _ w_91 ⟨rfl, hS97⟩
          refine ⟨(hS97.se [0]), ?_⟩
          refine rq 16 26 (v := pt (aD b1) 2) rfl (hS97.se [0]) (fun w' hw' => (yd (aD b1) 0 0 K11 K1 rfl (hf.g 3 1))) ?_
          refine rA [17] ?_
          refine rZ 17 rfl (yS 1 1 (aD b1) 40 (.slice B5 ((ZImages ++ [(TPauli.mk 0 0 (shlK .i64 1 (i : Int)))]).length) c5) [.slice B5 ((ZImages ++ [(TPauli.mk 0 0 (shlK .i64 1 (i : Int)))]).length) c5] 2 [vi n, .slice B4 ((XImages ++ [(TPauli.mk 0 (shlK .i64 1 (i : Int)) 0)]).length) c4, .slice B5 ((ZImages ++ [(TPauli.mk 0 0 (shlK .i64 1 (i : Int)))]).length) c5] hS97 K1) ?_ ?_
          ·rintro _ w_92 ⟨rfl, hS98⟩
           refine ⟨(hS98.se [0]), ?_⟩
           refine ra_done (by kernel_rfl) ?_
           exact ⟨B4, c4, B5, c5, (fc (hf.g 2 0) (fc (hf.g 3 1) (fc (hf.g 7 2) (fc (hf.g 8 3) fn_)))), (hS98.sel [0, 1, 2, 3] rfl rfl)⟩
          exact aN
         exact aN
        exact aN
       exact aN
      exact aN
     exact aN
    refine ra_y 19 (i := 8) (v := .slice B3 ZImages.length c3) rfl rfl rfl (yl (aD b1) 2 [vi n, .slice B2 XImages.length c2, .slice B3 ZImages.length c3] (.slice B3 ZImages.length c3) K6 (hS70.c 1)) (hS70.se [0]) ?_ ?_
    ·skip
     refine rA [1, 12] ?_
     refine ra_y 12 (i := 1) (v := .slice B2 XImages.length c2) rfl rfl rfl (yl (aD b1) 1 [vi n, .slice B2 XImages.length c2, .slice B3 ZImages.length c3] (.slice B2 XImages.length c2) K6 (hS70.c 1)) (hS70.se [0]) ?_ ?_
     ·skip
      refine rA [6, 12] ?_
      refine rS 17 6 rfl (Ys_append (s := 3) (by' := 24) (i := 2) (nn := XImages.length) (c := c2) (k := 1) (len := (XImages ++ [(TPauli.mk 0 (shlK .i64 1 (i : Int)) 0)]).length) (B := B2) (xs := ([(TPauli.mk 0 (shlK .i64 1 (i : Int)) 0)].flatMap eN0)) (cs' := ((XImages ++ [(TPauli.mk 0 (shlK .i64 1 (i : Int)) 0)]).flatMap eN0)) hS70 K2 K0 K8 K5 rfl (by decide) rfl rfl rfl rfl (fm_lenn (l := XImages) eN1 rfl) rfl (hS70.c 4) (fm_lenn (l := [(TPauli.mk 0 (shlK .i64 1 (i : Int)) 0)]) eN1 rfl) (fm_one' (enc := eN0) eN3 [(TPauli.mk 0 (shlK .i64 1 (i : Int)) 0)]) (by have := hap; omega) (by have := hap; simp only [maxLen]; omega) (fm_app _ _) (app_len (l := XImages) (l' := [(TPauli.mk 0 (shlK .i64 1 (i : Int)) 0)]) rfl rfl)) ?_ ?_
      ·rintro _ w_93 ⟨B4, c4, rfl, hS99⟩
       refine ⟨(hS99.se [0]), ?_⟩
       refine rq 14 25 (v := pt (aD b1) 1) rfl (hS99.se [0]) (fun w' hw' => (yd (aD b1) 0 0 K9 K1 rfl (hf.g 3 1))) ?_
       refine rA [12] ?_
       refine rS 23 12 rfl (Ys_bslice (s := 3) (len := 1) (vs := [(0, .agg #[vi 0, vi 0, vi (shlK .i64 1 (i : Int))])]) (cs := [vi 0, vi 0, vi (shlK .i64 1 (i : Int))]) (zs := [vi 0, vi 0, vi 0]) (m := 3) hS99 K2 K0 K12 rfl (mpc rfl mpn) rfl rfl rfl (by kernel_rfl) (by kernel_rfl) rfl) ?_ ?_
       ·rintro _ w_94 ⟨b3, rfl, hS100⟩
        refine ⟨(hS100.se [0]), ?_⟩
        refine rA [13] ?_
        refine rS 24 13 rfl (Ys_append (s := 3) (by' := 24) (i := 3) (nn := ZImages.length) (c := c3) (k := 1) (len := (ZImages ++ [(TPauli.mk 0 0 (shlK .i64 1 (i : Int)))]).length) (B := B3) (xs := ([(TPauli.mk 0 0 (shlK .i64 1 (i : Int)))].flatMap eN0)) (cs' := ((ZImages ++ [(TPauli.mk 0 0 (shlK .i64 1 (i : Int)))]).flatMap eN0)) hS100 K2 K0 K8 K5 rfl (by decide) rfl rfl rfl rfl (fm_lenn (l := ZImages) eN1 rfl) rfl (hS100.c 5) (fm_lenn (l := [(TPauli.mk 0 0 (shlK .i64 1 (i : Int)))]) eN1 rfl) (fm_one' (enc := eN0) eN3 [(TPauli.mk 0 0 (shlK .i64 1 (i : Int)))]) (by have := hap1; omega) (by have := hap1; simp only [maxLen]; omega) (fm_app _ _) (app_len (l := ZImages) (l' := [(TPauli.mk 0 0 (shlK .i64 1 (i : Int)))]) rfl rfl)) ?_ ?_
        ·rintro _ w_95 ⟨B5, c5, rfl, hS101⟩
         refine ⟨(hS101.se [0]), ?_⟩
         refine rA [15] ?_
         refine rZ 15 rfl (yS 1 1 (aD b1) 40 (.slice B4 ((XImages ++ [(TPauli.mk 0 (shlK .i64 1 (i : Int)) 0)]).length) c4) [.slice B4 ((XImages ++ [(TPauli.mk 0 (shlK .i64 1 (i : Int)) 0)]).length) c4] 1 [vi n, .slice B4 ((XImages ++ [(TPauli.mk 0 (shlK .i64 1 (i : Int)) 0)]).length) c4, .slice B3 ZImages.length c3] hS101 K1) ?_ ?_
         ·rintro _ w_96 ⟨rfl, hS102⟩
          refine ⟨(hS102.se [0]), ?_⟩
          refine rq 16 26 (v := pt (aD b1) 2) rfl (hS102.se [0]) (fun w' hw' => (yd (aD b1) 0 0 K11 K1 rfl (hf.g 3 1))) ?_
          refine rA [17] ?_
          refine rZ 17 rfl (yS 1 1 (aD b1) 40 (.slice B5 ((ZImages ++ [(TPauli.mk 0 0 (shlK .i64 1 (i : Int)))]).length) c5) [.slice B5 ((ZImages ++ [(TPauli.mk 0 0 (shlK .i64 1 (i : Int)))]).length) c5] 2 [vi n, .slice B4 ((XImages ++ [(TPauli.mk 0 (shlK .i64 1 (i : Int)) 0)]).length) c4, .slice B5 ((ZImages ++ [(TPauli.mk 0 0 (shlK .i64 1 (i : Int)))]).length) c5] hS102 K1) ?_ ?_
          ·rintro _ w_97 ⟨rfl, hS103⟩
           refine ⟨(hS103.se [0]), ?_⟩
           refine ra_done (by kernel_rfl) ?_
           exact ⟨B4, c4, B5, c5, (fc (hf.g 2 0) (fc (hf.g 3 1) (fc (hf.g 7 2) (fc (hf.g 8 3) fn_)))), (hS103.sel [0, 1, 2, 3] rfl rfl)⟩
          exact aN
         exact aN
        exact aN
       exact aN
      refine rS 23 12 rfl (Ys_bslice (s := 3) (len := 1) (vs := [(0, .agg #[vi 0, vi 0, vi (shlK .i64 1 (i : Int))])]) (cs := [vi 0, vi 0, vi (shlK .i64 1 (i : Int))]) (zs := [vi 0, vi 0, vi 0]) (m := 3) hS70 K2 K0 K12 rfl (mpc rfl mpn) rfl rfl rfl (by kernel_rfl) (by kernel_rfl) rfl) ?_ ?_
      ·rintro _ w_98 ⟨b3, rfl, hS104⟩
       refine ⟨(hS104.se [0]), ?_⟩
       refine rA [6] ?_
       refine rS 17 6 rfl (Ys_append (s := 3) (by' := 24) (i := 2) (nn := XImages.length) (c := c2) (k := 1) (len := (XImages ++ [(TPauli.mk 0 (shlK .i64 1 (i : Int)) 0)]).length) (B := B2) (xs := ([(TPauli.mk 0 (shlK .i64 1 (i : Int)) 0)].flatMap eN0)) (cs' := ((XImages ++ [(TPauli.mk 0 (shlK .i64 1 (i : Int)) 0)]).flatMap eN0)) hS104 K2 K0 K8 K5 rfl (by decide) rfl rfl rfl rfl (fm_lenn (l := XImages) eN1 rfl) rfl (hS104.c 4) (fm_lenn (l := [(TPauli.mk 0 (shlK .i64 1 (i : Int)) 0)]) eN1 rfl) (fm_one' (enc := eN0) eN3 [(TPauli.mk 0 (shlK .i64 1 (i : Int)) 0)]) (by have := hap; omega) (by have := hap; simp only [maxLen]; omega) (fm_app _ _) (app_len (l := XImages) (l' := [(TPauli.mk 0 (shlK .i64 1 (i : Int)) 0)]) rfl rfl)) ?_ ?_
       ·rintro _ w_99 ⟨B4, c4, rfl, hS105⟩
        refine ⟨(hS105.se [0]), ?_⟩
        refine rq 14 25 (v := pt (aD b1) 1) rfl (hS105.se [0]) (fun w' hw' => (yd (aD b1) 0 0 K9 K1 rfl (hf.g 3 1))) ?_
        refine rA [13] ?_
        refine rS 24 13 rfl (Ys_append (s := 3) (by' := 24) (i := 3) (nn := ZImages.length) (c := c3) (k := 1) (len := (ZImages ++ [(TPauli.mk 0 0 (shlK .i64 1 (i : Int)))]).length) (B := B3) (xs := ([(TPauli.mk 0 0 (shlK .i64 1 (i : Int)))].flatMap eN0)) (cs' := ((ZImages ++ [(TPauli.mk 0 0 (shlK .i64 1 (i : Int)))]).flatMap eN0)) hS105 K2 K0 K8 K5 rfl (by decide) rfl rfl rfl rfl (fm_lenn (l := ZImages) eN1 rfl) rfl (hS105.c 5) (fm_lenn (l := [(TPauli.mk 0 0 (shlK .i64 1 (i : Int)))]) eN1 rfl) (fm_one' (enc := eN0) eN3 [(TPauli.mk 0 0 (shlK .i64 1 (i : Int)))]) (by have := hap1; omega) (by have := hap1; simp only [maxLen]; omega) (fm_app _ _) (app_len (l := ZImages) (l' := [(TPauli.mk 0 0 (shlK .i64 1 (i : Int)))]) rfl rfl)) ?_ ?_
        ·rintro _ w_100 ⟨B5, c5, rfl, hS106⟩
         refine ⟨(hS106.se [0]), ?_⟩
         refine rA [15] ?_
         refine rZ 15 rfl (yS 1 1 (aD b1) 40 (.slice B4 ((XImages ++ [(TPauli.mk 0 (shlK .i64 1 (i : Int)) 0)]).length) c4) [.slice B4 ((XImages ++ [(TPauli.mk 0 (shlK .i64 1 (i : Int)) 0)]).length) c4] 1 [vi n, .slice B4 ((XImages ++ [(TPauli.mk 0 (shlK .i64 1 (i : Int)) 0)]).length) c4, .slice B3 ZImages.length c3] hS106 K1) ?_ ?_
         ·rintro _ w_101 ⟨rfl, hS107⟩
          refine ⟨(hS107.se [0]), ?_⟩
          refine rq 16 26 (v := pt (aD b1) 2) rfl (hS107.se [0]) (fun w' hw' => (yd (aD b1) 0 0 K11 K1 rfl (hf.g 3 1))) ?_
          refine rA [17] ?_
          refine rZ 17 rfl (yS 1 1 (aD b1) 40 (.slice B5 ((ZImages ++ [(TPauli.mk 0 0 (shlK .i64 1 (i : Int)))]).length) c5) [.slice B5 ((ZImages ++ [(TPauli.mk 0 0 (shlK .i64 1 (i : Int)))]).length) c5] 2 [vi n, .slice B4 ((XImages ++ [(TPauli.mk 0 (shlK .i64 1 (i : Int)) 0)]).length) c4, .slice B5 ((ZImages ++ [(TPauli.mk 0 0 (shlK .i64 1 (i : Int)))]).length) c5] hS107 K1) ?_ ?_
          ·rintro _ w_102 ⟨rfl, hS108⟩
           refine ⟨(hS108.se [0]), ?_⟩
           refine ra_done (by kernel_rfl) ?_
           exact ⟨B4, c4, B5, c5, (fc (hf.g 2 0) (fc (hf.g 3 1) (fc (hf.g 7 2) (fc (hf.g 8 3) fn_)))), (hS108.sel [0, 1, 2, 3] rfl rfl)⟩
          exact aN
         exact aN
        exact aN
       exact aN
      exact aN
     refine rS 23 12 rfl (Ys_bslice (s := 3) (len := 1) (vs := [(0, .agg #[vi 0, vi 0, vi (shlK .i64 1 (i : Int))])]) (cs := [vi 0, vi 0, vi (shlK .i64 1 (i : Int))]) (zs := [vi 0, vi 0, vi 0]) (m := 3) hS70 K2 K0 K12 rfl (mpc rfl mpn) rfl rfl rfl (by kernel_rfl) (by kernel_rfl) rfl) ?_ ?_
     ·rintro _ w_103 ⟨b3, rfl, hS109⟩
      refine ⟨(hS109.se [0]), ?_⟩
      refine rA [1] ?_
      refine ra_y 12 (i := 1) (v := .slice B2 XImages.length c2) rfl rfl rfl (yl (aD b1) 1 [vi n, .slice B2 XImages.length c2, .slice B3 ZImages.length c3] (.slice B2 XImages.length c2) K6 (hS109.c 1)) (hS109.se [0]) ?_ ?_
      ·skip
       refine rA [6] ?_
       refine rS 17 6 rfl (Ys_append (s := 3) (by' := 24) (i := 2) (nn := XImages.length) (c := c2) (k := 1) (len := (XImages ++ [(TPauli.mk 0 (shlK .i64 1 (i : Int)) 0)]).length) (B := B2) (xs := ([(TPauli.mk 0 (shlK .i64 1 (i : Int)) 0)].flatMap eN0)) (cs' := ((XImages ++ [(TPauli.mk 0 (shlK .i64 1 (i : Int)) 0)]).flatMap eN0)) hS109 K2 K0 K8 K5 rfl (by decide) rfl rfl rfl rfl (fm_lenn (l := XImages) eN1 rfl) rfl (hS109.c 4) (fm_lenn (l := [(TPauli.mk 0 (shlK .i64 1 (i : Int)) 0)]) eN1 rfl) (fm_one' (enc := eN0) eN3 [(TPauli.mk 0 (shlK .i64 1 (i : Int)) 0)]) (by have := hap; omega) (by have := hap; simp only [maxLen]; omega) (fm_app _ _) (app_len (l := XImages) (l' := [(TPauli.mk 0 (shlK .i64 1 (i : Int)) 0)]) rfl rfl)) ?_ ?_
       ·rintro _ w_104 ⟨B4, c4, rfl, hS110⟩
        refine ⟨(hS110.se [0]), ?_⟩
        refine rq 14 25 (v := pt (aD b1) 1) rfl (hS110.se [0]) (fun w' hw' => (yd (aD b1) 0 0 K9 K1 rfl (hf.g 3 1))) ?_
        refine rA [13] ?_
        refine rS 24 13 rfl (Ys_append (s := 3) (by' := 24) (i := 3) (nn := ZImages.length) (c := c3) (k := 1) (len := (ZImages ++ [(TPauli.mk 0 0 (shlK .i64 1 (i : Int)))]).length) (B := B3) (xs := ([(TPauli.mk 0 0 (shlK .i64 1 (i : Int)))].flatMap eN0)) (cs' := ((ZImages ++ [(TPauli.mk 0 0 (shlK .i64 1 (i : Int)))]).flatMap eN0)) hS110 K2 K0 K8 K5 rfl (by decide) rfl rfl rfl rfl (fm_lenn (l := ZImages) eN1 rfl) rfl (hS110.c 5) (fm_lenn (l := [(TPauli.mk 0 0 (shlK .i64 1 (i : Int)))]) eN1 rfl) (fm_one' (enc := eN0) eN3 [(TPauli.mk 0 0 (shlK .i64 1 (i : Int)))]) (by have := hap1; omega) (by have := hap1; simp only [maxLen]; omega) (fm_app _ _) (app_len (l := ZImages) (l' := [(TPauli.mk 0 0 (shlK .i64 1 (i : Int)))]) rfl rfl)) ?_ ?_
        ·rintro _ w_105 ⟨B5, c5, rfl, hS111⟩
         refine ⟨(hS111.se [0]), ?_⟩
         refine rA [15] ?_
         refine rZ 15 rfl (yS 1 1 (aD b1) 40 (.slice B4 ((XImages ++ [(TPauli.mk 0 (shlK .i64 1 (i : Int)) 0)]).length) c4) [.slice B4 ((XImages ++ [(TPauli.mk 0 (shlK .i64 1 (i : Int)) 0)]).length) c4] 1 [vi n, .slice B4 ((XImages ++ [(TPauli.mk 0 (shlK .i64 1 (i : Int)) 0)]).length) c4, .slice B3 ZImages.length c3] hS111 K1) ?_ ?_
         ·rintro _ w_106 ⟨rfl, hS112⟩
          refine ⟨(hS112.se [0]), ?_⟩
          refine rq 16 26 (v := pt (aD b1) 2) rfl (hS112.se [0]) (fun w' hw' => (yd (aD b1) 0 0 K11 K1 rfl (hf.g 3 1))) ?_
          refine rA [17] ?_
          refine rZ 17 rfl (yS 1 1 (aD b1) 40 (.slice B5 ((ZImages ++ [(TPauli.mk 0 0 (shlK .i64 1 (i : Int)))]).length) c5) [.slice B5 ((ZImages ++ [(TPauli.mk 0 0 (shlK .i64 1 (i : Int)))]).length) c5] 2 [vi n, .slice B4 ((XImages ++ [(TPauli.mk 0 (shlK .i64 1 (i : Int)) 0)]).length) c4, .slice B5 ((ZImages ++ [(TPauli.mk 0 0 (shlK .i64 1 (i : Int)))]).length) c5] hS112 K1) ?_ ?_
          ·rintro _ w_107 ⟨rfl, hS113⟩
           refine ⟨(hS113.se [0]), ?_⟩
           refine ra_done (by kernel_rfl) ?_
           exact ⟨B4, c4, B5, c5, (fc (hf.g 2 0) (fc (hf.g 3 1) (fc (hf.g 7 2) (fc (hf.g 8 3) fn_)))), (hS113.sel [0, 1, 2, 3] rfl rfl)⟩
          exact aN
         exact aN
        exact aN
       exact aN
      exact aN
     exact aN
    refine rS 23 12 rfl (Ys_bslice (s := 3) (len := 1) (vs := [(0, .agg #[vi 0, vi 0, vi (shlK .i64 1 (i : Int))])]) (cs := [vi 0, vi 0, vi (shlK .i64 1 (i : Int))]) (zs := [vi 0, vi 0, vi 0]) (m := 3) hS70 K2 K0 K12 rfl (mpc rfl mpn) rfl rfl rfl (by kernel_rfl) (by kernel_rfl) rfl) ?_ ?_
    ·rintro _ w_108 ⟨b3, rfl, hS114⟩
     refine ⟨(hS114.se [0]), ?_⟩
     refine rA [1, 8] ?_
     refine ra_y 12 (i := 1) (v := .slice B2 XImages.length c2) rfl rfl rfl (yl (aD b1) 1 [vi n, .slice B2 XImages.length c2, .slice B3 ZImages.length c3] (.slice B2 XImages.length c2) K6 (hS114.c 1)) (hS114.se [0]) ?_ ?_
     ·skip
      refine rA [6, 8] ?_
      refine rS 17 6 rfl (Ys_append (s := 3) (by' := 24) (i := 2) (nn := XImages.length) (c := c2) (k := 1) (len := (XImages ++ [(TPauli.mk 0 (shlK .i64 1 (i : Int)) 0)]).length) (B := B2) (xs := ([(TPauli.mk 0 (shlK .i64 1 (i : Int)) 0)].flatMap eN0)) (cs' := ((XImages ++ [(TPauli.mk 0 (shlK .i64 1 (i : Int)) 0)]).flatMap eN0)) hS114 K2 K0 K8 K5 rfl (by decide) rfl rfl rfl rfl (fm_lenn (l := XImages) eN1 rfl) rfl (hS114.c 4) (fm_lenn (l := [(TPauli.mk 0 (shlK .i64 1 (i : Int)) 0)]) eN1 rfl) (fm_one' (enc := eN0) eN3 [(TPauli.mk 0 (shlK .i64 1 (i : Int)) 0)]) (by have := hap; omega) (by have := hap; simp only [maxLen]; omega) (fm_app _ _) (app_len (l := XImages) (l' := [(TPauli.mk 0 (shlK .i64 1 (i : Int)) 0)]) rfl rfl)) ?_ ?_
      ·rintro _ w_109 ⟨B4, c4, rfl, hS115⟩
       refine ⟨(hS115.se [0]), ?_⟩
       refine rA [8] ?_
       refine ra_y 19 (i := 8) (v := .slice B3 ZImages.length c3) rfl rfl rfl (yl (aD b1) 2 [vi n, .slice B2 XImages.length c2, .slice B3 ZImages.length c3] (.slice B3 ZImages.length c3) K6 (hS115.c 1)) (hS115.se [0]) ?_ ?_
       ·skip
        refine rq 14 25 (v := pt (aD b1) 1) rfl (hS115.se [0]) (fun w' hw' => (yd (aD b1) 0 0 K9 K1 rfl (hf.g 3 1))) ?_
        refine rA [13] ?_
        refine rS 24 13 rfl (Ys_append (s := 3) (by' := 24) (i := 3) (nn := ZImages.length) (c := c3) (k := 1) (len := (ZImages ++ [(TPauli.mk 0 0 (shlK .i64 1 (i : Int)))]).length) (B := B3) (xs := ([(TPauli.mk 0 0 (shlK .i64 1 (i : Int)))].flatMap eN0)) (cs' := ((ZImages ++ [(TPauli.mk 0 0 (shlK .i64 1 (i : Int)))]).flatMap eN0)) hS115 K2 K0 K8 K5 rfl (by decide) rfl rfl rfl rfl (fm_lenn (l := ZImages) eN1 rfl) rfl (hS115.c 5) (fm_lenn (l := [(TPauli.mk 0 0 (shlK .i64 1 (i : Int)))]) eN1 rfl) (fm_one' (enc := eN0) eN3 [(TPauli.mk 0 0 (shlK .i64 1 (i : Int)))]) (by have := hap1; omega) (by have := hap1; simp only [maxLen]; omega) (fm_app _ _) (app_len (l := ZImages) (l' := [(TPauli.mk 0 0 (shlK .i64 1 (i : Int)))]) rfl rfl)) ?_ ?_
        ·rintro _ w_110 ⟨B5, c5, rfl, hS116⟩
         refine ⟨(hS116.se [0]), ?_⟩
         refine rA [15] ?_
         refine rZ 15 rfl (yS 1 1 (aD b1) 40 (.slice B4 ((XImages ++ [(TPauli.mk 0 (shlK .i64 1 (i : Int)) 0)]).length) c4) [.slice B4 ((XImages ++ [(TPauli.mk 0 (shlK .i64 1 (i : Int)) 0)]).length) c4] 1 [vi n, .slice B4 ((XImages ++ [(TPauli.mk 0 (shlK .i64 1 (i : Int)) 0)]).length) c4, .slice B3 ZImages.length c3] hS116 K1) ?_ ?_
         ·rintro _ w_111 ⟨rfl, hS117⟩
          refine ⟨(hS117.se [0]), ?_⟩
          refine rq 16 26 (v := pt (aD b1) 2) rfl (hS117.se [0]) (fun w' hw' => (yd (aD b1) 0 0 K11 K1 rfl (hf.g 3 1))) ?_
          refine rA [17] ?_
          refine rZ 17 rfl (yS 1 1 (aD b1) 40 (.slice B5 ((ZImages ++ [(TPauli.mk 0 0 (shlK .i64 1 (i : Int)))]).length) c5) [.slice B5 ((ZImages ++ [(TPauli.mk 0 0 (shlK .i64 1 (i : Int)))]).length) c5] 2 [vi n, .slice B4 ((XImages ++ [(TPauli.mk 0 (shlK .i64 1 (i : Int)) 0)]).length) c4, .slice B5 ((ZImages ++ [(TPauli.mk 0 0 (shlK .i64 1 (i : Int)))]).length) c5] hS117 K1) ?_ ?_
          ·rintro _ w_112 ⟨rfl, hS118⟩
           refine ⟨(hS118.se [0]), ?_⟩
           refine ra_done (by kernel_rfl) ?_
           exact ⟨B4, c4, B5, c5, (fc (hf.g 2 0) (fc (hf.g 3 1) (fc (hf.g 7 2) (fc (hf.g 8 3) fn_)))), (hS118.sel [0, 1, 2, 3] rfl rfl)⟩
          exact aN
         exact aN
        exact aN
       exact aN
      refine ra_y 19 (i := 8) (v := .slice B3 ZImages.length c3) rfl rfl rfl (yl (aD b1) 2 [vi n, .slice B2 XImages.length c2, .slice B3 ZImages.length c3] (.slice B3 ZImages.length c3) K6 (hS114.c 1)) (hS114.se [0]) ?_ ?_
      ·skip
       refine rA [6] ?_
       refine rS 17 6 rfl (Ys_append (s := 3) (by' := 24) (i := 2) (nn := XImages.length) (c := c2) (k := 1) (len := (XImages ++ [(TPauli.mk 0 (shlK .i64 1 (i : Int)) 0)]).length) (B := B2) (xs := ([(TPauli.mk 0 (shlK .i64 1 (i : Int)) 0)].flatMap eN0)) (cs' := ((XImages ++ [(TPauli.mk 0 (shlK .i64 1 (i : Int)) 0)]).flatMap eN0)) hS114 K2 K0 K8 K5 rfl (by decide) rfl rfl rfl rfl (fm_lenn (l := XImages) eN1 rfl) rfl (hS114.c 4) (fm_lenn (l := [(TPauli.mk 0 (shlK .i64 1 (i : Int)) 0)]) eN1 rfl) (fm_one' (enc := eN0) eN3 [(TPauli.mk 0 (shlK .i64 1 (i : Int)) 0)]) (by have := hap; omega) (by have := hap; simp only [maxLen]; omega) (fm_app _ _) (app_len (l := XImages) (l' := [(TPauli.mk 0 (shlK .i64 1 (i : Int)) 0)]) rfl rfl)) ?_ ?_
       ·rintro _ w_113 ⟨B4, c4, rfl, hS119⟩
        refine ⟨(hS119.se [0]), ?_⟩
        refine rq 14 25 (v := pt (aD b1) 1) rfl (hS119.se [0]) (fun w' hw' => (yd (aD b1) 0 0 K9 K1 rfl (hf.g 3 1))) ?_
        refine rA [13] ?_
        refine rS 24 13 rfl (Ys_append (s := 3) (by' := 24) (i := 3) (nn := ZImages.length) (c := c3) (k := 1) (len := (ZImages ++ [(TPauli.mk 0 0 (shlK .i64 1 (i : Int)))]).length) (B := B3) (xs := ([(TPauli.mk 0 0 (shlK .i64 1 (i : Int)))].flatMap eN0)) (cs' := ((ZImages ++ [(TPauli.mk 0 0 (shlK .i64 1 (i : Int)))]).flatMap eN0)) hS119 K2 K0 K8 K5 rfl (by decide) rfl rfl rfl rfl (fm_lenn (l := ZImages) eN1 rfl) rfl (hS119.c 5) (fm_lenn (l := [(TPauli.mk 0 0 (shlK .i64 1 (i : Int)))]) eN1 rfl) (fm_one' (enc := eN0) eN3 [(TPauli.mk 0 0 (shlK .i64 1 (i : Int)))]) (by have := hap1; omega) (by have := hap1; simp only [maxLen]; omega) (fm_app _ _) (app_len (l := ZImages) (l' := [(TPauli.mk 0 0 (shlK .i64 1 (i : Int)))]) rfl rfl)) ?_ ?_
        ·rintro _ w_114 ⟨B5, c5, rfl, hS120⟩
         refine ⟨(hS120.se [0]), ?_⟩
         refine rA [15] ?_
         refine rZ 15 rfl (yS 1 1 (aD b1) 40 (.slice B4 ((XImages ++ [(TPauli.mk 0 (shlK .i64 1 (i : Int)) 0)]).length) c4) [.slice B4 ((XImages ++ [(TPauli.mk 0 (shlK .i64 1 (i : Int)) 0)]).length) c4] 1 [vi n, .slice B4 ((XImages ++ [(TPauli.mk 0 (shlK .i64 1 (i : Int)) 0)]).length) c4, .slice B3 ZImages.length c3] hS120 K1) ?_ ?_
         ·rintro _ w_115 ⟨rfl, hS121⟩
          refine ⟨(hS121.se [0]), ?_⟩
          refine rq 16 26 (v := pt (aD b1) 2) rfl (hS121.se [0]) (fun w' hw' => (yd (aD b1) 0 0 K11 K1 rfl (hf.g 3 1))) ?_
          refine rA [17] ?_
          refine rZ 17 rfl (yS 1 1 (aD b1) 40 (.slice B5 ((ZImages ++ [(TPauli.mk 0 0 (shlK .i64 1 (i : Int)))]).length) c5) [.slice B5 ((ZImages ++ [(TPauli.mk 0 0 (shlK .i64 1 (i : Int)))]).length) c5] 2 [vi n, .slice B4 ((XImages ++ [(TPauli.mk 0 (shlK .i64 1 (i : Int)) 0)]).length) c4, .slice B5 ((ZImages ++ [(TPauli.mk 0 0 (shlK .i64 1 (i : Int)))]).length) c5] hS121 K1) ?_ ?_
          ·rintro _ w_116 ⟨rfl, hS122⟩
           refine ⟨(hS122.se [0]), ?_⟩
           refine ra_done (by kernel_rfl) ?_
           exact ⟨B4, c4, B5, c5, (fc (hf.g 2 0) (fc (hf.g 3 1) (fc (hf.g 7 2) (fc (hf.g 8 3) fn_)))), (hS122.sel [0, 1, 2, 3] rfl rfl)⟩
          exact aN
         exact aN
        exact aN
       exact aN
      exact aN
     refine ra_y 19 (i := 8) (v := .slice B3 ZImages.length c3) rfl rfl rfl (yl (aD b1) 2 [vi n, .slice B2 XImages.length c2, .slice B3 ZImages.length c3] (.slice B3 ZImages.length c3) K6 (hS114.c 1)) (hS114.se [0]) ?_ ?_
     ·skip
      refine rA [1] ?_
      refine ra_y 12 (i := 1) (v := .slice B2 XImages.length c2) rfl rfl rfl (yl (aD b1) 1 [vi n, .slice B2 XImages.length c2, .slice B3 ZImages.length c3] (.slice B2 XImages.length c2) K6 (hS114.c 1)) (hS114.se [0]) ?_ ?_
      ·skip
       refine rA [6] ?_
       refine rS 17 6 rfl (Ys_append (s := 3) (by' := 24) (i := 2) (nn := XImages.length) (c := c2) (k := 1) (len := (XImages ++ [(TPauli.mk 0 (shlK .i64 1 (i : Int)) 0)]).length) (B := B2) (xs := ([(TPauli.mk 0 (shlK .i64 1 (i : Int)) 0)].flatMap eN0)) (cs' := ((XImages ++ [(TPauli.mk 0 (shlK .i64 1 (i : Int)) 0)]).flatMap eN0)) hS114 K2 K0 K8 K5 rfl (by decide) rfl rfl rfl rfl (fm_lenn (l := XImages) eN1 rfl) rfl (hS114.c 4) (fm_lenn (l := [(TPauli.mk 0 (shlK .i64 1 (i : Int)) 0)]) eN1 rfl) (fm_one' (enc := eN0) eN3 [(TPauli.mk 0 (shlK .i64 1 (i : Int)) 0)]) (by have := hap; omega) (by have := hap; simp only [maxLen]; omega) (fm_app _ _) (app_len (l := XImages) (l' := [(TPauli.mk 0 (shlK .i64 1 (i : Int)) 0)]) rfl rfl)) ?_ ?_
       ·rintro _ w_117 ⟨B4, c4, rfl, hS123⟩
        refine ⟨(hS123.se [0]), ?_⟩
        refine rq 14 25 (v := pt (aD b1) 1) rfl (hS123.se [0]) (fun w' hw' => (yd (aD b1) 0 0 K9 K1 rfl (hf.g 3 1))) ?_
        refine rA [13] ?_
        refine rS 24 13 rfl (Ys_append (s := 3) (by' := 24) (i := 3) (nn := ZImages.length) (c := c3) (k := 1) (len := (ZImages ++ [(TPauli.mk 0 0 (shlK .i64 1 (i : Int)))]).length) (B := B3) (xs := ([(TPauli.mk 0 0 (shlK .i64 1 (i : Int)))].flatMap eN0)) (cs' := ((ZImages ++ [(TPauli.mk 0 0 (shlK .i64 1 (i : Int)))]).flatMap eN0)) hS123 K2 K0 K8 K5 rfl (by decide) rfl rfl rfl rfl (fm_lenn (l := ZImages) eN1 rfl) rfl (hS123.c 5) (fm_lenn (l := [(TPauli.mk 0 0 (shlK .i64 1 (i : Int)))]) eN1 rfl) (fm_one' (enc := eN0) eN3 [(TPauli.mk 0 0 (shlK .i64 1 (i : Int)))]) (by have := hap1; omega) (by have := hap1; simp only [maxLen]; omega) (fm_app _ _) (app_len (l := ZImages) (l' := [(TPauli.mk 0 0 (shlK .i64 1 (i : Int)))]) rfl rfl)) ?_ ?_
        ·rintro _ w_118 ⟨B5, c5, rfl, hS124⟩
         refine ⟨(hS124.se [0]), ?_⟩
         refine rA [15] ?_
         refine rZ 15 rfl (yS 1 1 (aD b1) 40 (.slice B4 ((XImages ++ [(TPauli.mk 0 (shlK .i64 1 (i : Int)) 0)]).length) c4) [.slice B4 ((XImages ++ [(TPauli.mk 0 (shlK .i64 1 (i : Int)) 0)]).length) c4] 1 [vi n, .slice B4 ((XImages ++ [(TPauli.mk 0 (shlK .i64 1 (i : Int)) 0)]).length) c4, .slice B3 ZImages.length c3] hS124 K1) ?_ ?_
         ·rintro _ w_119 ⟨rfl, hS125⟩
          refine ⟨(hS125.se [0]), ?_⟩
          refine rq 16 26 (v := pt (aD b1) 2) rfl (hS125.se [0]) (fun w' hw' => (yd (aD b1) 0 0 K11 K1 rfl (hf.g 3 1))) ?_
          refine rA [17] ?_
          refine rZ 17 rfl (yS 1 1 (aD b1) 40 (.slice B5 ((ZImages ++ [(TPauli.mk 0 0 (shlK .i64 1 (i : Int)))]).length) c5) [.slice B5 ((ZImages ++ [(TPauli.mk 0 0 (shlK .i64 1 (i : Int)))]).length) c5] 2 [vi n, .slice B4 ((XImages ++ [(TPauli.mk 0 (shlK .i64 1 (i : Int)) 0)]).length) c4, .slice B5 ((ZImages ++ [(TPauli.mk 0 0 (shlK .i64 1 (i : Int)))]).length) c5] hS125 K1) ?_ ?_
          ·rintro _ w_120 ⟨rfl, hS126⟩
           have hS126 : ST w0 [] _ [⟨aD b, 40, [vi 0, .slice none 0 0, .slice none 0 0], 3⟩, ⟨aD b1, 40, [vi n, .slice B4 ((XImages ++ [(TPauli.mk 0 (shlK .i64 1 (i : Int)) 0)]).length) c4, .slice B5 ((ZImages ++ [(TPauli.mk 0 0 (shlK .i64 1 (i : Int)))]).length) c5], 3⟩, ⟨B4, 71, ((XImages ++ [(TPauli.mk 0 (shlK .i64 1 (i : Int)) 0)]).flatMap eN0), c4 * 3⟩, ⟨B5, 71, ((ZImages ++ [(TPauli.mk 0 0 (shlK .i64 1 (i : Int)))]).flatMap eN0), c5 * 3⟩, ⟨aD b2, 71, ([(TPauli.mk 0 (shlK .i64 1 (i : Int)) 0)].flatMap eN0), 1 * 3⟩, ⟨aD b3, 71, ([(TPauli.mk 0 0 (shlK .i64 1 (i : Int)))].flatMap eN0), 1 * 3⟩] [] := hS126
           refine ⟨(hS126.se [0]), ?_⟩
           refine ra_done (by kernel_rfl) ?_
           exact ⟨B4, c4, B5, c5, (fc (hf.g 2 0) (fc (hf.g 3 1) (fc (hf.g 7 2) (fc (hf.g 8 3) fn_)))), (hS126.sel [0, 1, 2, 3] rfl rfl)⟩
          exact aN
         exact aN
        exact aN
       exact aN
      exact aN
     exact aN
    exact aN
   refine ra_y 19 (i := 8) (v := .slice B3 ZImages.length c3) rfl rfl rfl (yl (aD b1) 2 [vi n, .slice B2 XImages.length c2, .slice B3 ZImages.length c3] (.slice B3 ZImages.length c3) K6 (hS8.c 1)) (hS8.se [0]) ?_ ?_
   ·skip
    refine rA [1, 5, 12] ?_
    refine ra_y 12 (i := 1) (v := .slice B2 XImages.length c2) rfl rfl rfl (yl (aD b1) 1 [vi n, .slice B2 XImages.length c2, .slice B3 ZImages.length c3] (.slice B2 XImages.length c2) K6 (hS8.c 1)) (hS8.se [0]) ?_ ?_
    ·skip
     refine rA [5, 12] ?_
     refine rS 16 5 rfl (Ys_bslice (s := 3) (len := 1) (vs := [(0, .agg #[vi 0, vi (shlK .i64 1 (i : Int)), vi 0])]) (cs := [vi 0, vi (shlK .i64 1 (i : Int)), vi 0]) (zs := [vi 0, vi 0, vi 0]) (m := 3) hS8 K2 K0 K12 rfl (mpc rfl mpn) rfl rfl rfl (by kernel_rfl) (by kernel_rfl) rfl) ?_ ?_
     ·rintro _ w_121 ⟨b2, rfl, hS127⟩
      refine ⟨(hS127.se [0]), ?_⟩
      refine rA [6, 12] ?_
      refine rS 17 6 rfl (Ys_append (s := 3) (by' := 24) (i := 2) (nn := XImages.length) (c := c2) (k := 1) (len := (XImages ++ [(TPauli.mk 0 (shlK .i64 1 (i : Int)) 0)]).length) (B := B2) (xs := ([(TPauli.mk 0 (shlK .i64 1 (i : Int)) 0)].flatMap eN0)) (cs' := ((XImages ++ [(TPauli.mk 0 (shlK .i64 1 (i : Int)) 0)]).flatMap eN0)) hS127 K2 K0 K8 K5 rfl (by decide) rfl rfl rfl rfl (fm_lenn (l := XImages) eN1 rfl) rfl (hS127.c 4) (fm_lenn (l := [(TPauli.mk 0 (shlK .i64 1 (i : Int)) 0)]) eN1 rfl) (fm_one' (enc := eN0) eN3 [(TPauli.mk 0 (shlK .i64 1 (i : Int)) 0)]) (by have := hap; omega) (by have := hap; simp only [maxLen]; omega) (fm_app _ _) (app_len (l := XImages) (l' := [(TPauli.mk 0 (shlK .i64 1 (i : Int)) 0)]) rfl rfl)) ?_ ?_
      ·rintro _ w_122 ⟨B4, c4, rfl, hS128⟩
       refine ⟨(hS128.se [0]), ?_⟩
       refine rq 14 25 (v := pt (aD b1) 1) rfl (hS128.se [0]) (fun w' hw' => (yd (aD b1) 0 0 K9 K1 rfl (hf.g 3 1))) ?_
       refine rA [12] ?_
       refine rS 23 12 rfl (Ys_bslice (s := 3) (len := 1) (vs := [(0, .agg #[vi 0, vi 0, vi (shlK .i64 1 (i : Int))])]) (cs := [vi 0, vi 0, vi (shlK .i64 1 (i : Int))]) (zs := [vi 0, vi 0, vi 0]) (m := 3) hS128 K2 K0 K12 rfl (mpc rfl mpn) rfl rfl rfl (by kernel_rfl) (by kernel_rfl) rfl) ?_ ?_
       ·rintro _ w_123 ⟨b3, rfl, hS129⟩
        refine ⟨(hS129.se [0]), ?_⟩
        refine rA [13] ?_
        refine rS 24 13 rfl (Ys_append (s := 3) (by' := 24) (i := 3) (nn := ZImages.length) (c := c3) (k := 1) (len := (ZImages ++ [(TPauli.mk 0 0 (shlK .i64 1 (i : Int)))]).length) (B := B3) (xs := ([(TPauli.mk 0 0 (shlK .i64 1 (i : Int)))].flatMap eN0)) (cs' := ((ZImages ++ [(TPauli.mk 0 0 (shlK .i64 1 (i : Int)))]).flatMap eN0)) hS129 K2 K0 K8 K5 rfl (by decide) rfl rfl rfl rfl (fm_lenn (l := ZImages) eN1 rfl) rfl (hS129.c 5) (fm_lenn (l := [(TPauli.mk 0 0 (shlK .i64 1 (i : Int)))]) eN1 rfl) (fm_one' (enc := eN0) eN3 [(TPauli.mk 0 0 (shlK .i64 1 (i : Int)))]) (by have := hap1; omega) (by have := hap1; simp only [maxLen]; omega) (fm_app _ _) (app_len (l := ZImages) (l' := [(TPauli.mk 0 0 (shlK .i64 1 (i : Int)))]) rfl rfl)) ?_ ?_
        ·rintro _ w_124 ⟨B5, c5, rfl, hS130⟩
         refine ⟨(hS130.se [0]), ?_⟩
         refine rA [15] ?_
         refine rZ 15 rfl (yS 1 1 (aD b1) 40 (.slice B4 ((XImages ++ [(TPauli.mk 0 (shlK .i64 1 (i : Int)) 0)]).length) c4) [.slice B4 ((XImages ++ [(TPauli.mk 0 (shlK .i64 1 (i : Int)) 0)]).length) c4] 1 [vi n, .slice B4 ((XImages ++ [(TPauli.mk 0 (shlK .i64 1 (i : Int)) 0)]).length) c4, .slice B3 ZImages.length c3] hS130 K1) ?_ ?_
         ·rintro _ w_125 ⟨rfl, hS131⟩
          refine ⟨(hS131.se [0]), ?_⟩
          refine rq 16 26 (v := pt (aD b1) 2) rfl (hS131.se [0]) (fun w' hw' => (yd (aD b1) 0 0 K11 K1 rfl (hf.g 3 1))) ?_
          refine rA [17] ?_
          refine rZ 17 rfl (yS 1 1 (aD b1) 40 (.slice B5 ((ZImages ++ [(TPauli.mk 0 0 (shlK .i64 1 (i : Int)))]).length) c5) [.slice B5 ((ZImages ++ [(TPauli.mk 0 0 (shlK .i64 1 (i : Int)))]).length) c5] 2 [vi n, .slice B4 ((XImages ++ [(TPauli.mk 0 (shlK .i64 1 (i : Int)) 0)]).length) c4, .slice B5 ((ZImages ++ [(TPauli.mk 0 0 (shlK .i64 1 (i : Int)))]).length) c5] hS131 K1) ?_ ?_
          ·rintro _ w_126 ⟨rfl, hS132⟩
           refine ⟨(hS132.se [0]), ?_⟩
           refine ra_done (by kernel_rfl) ?_
           exact ⟨B4, c4, B5, c5, (fc (hf.g 2 0) (fc (hf.g 3 1) (fc (hf.g 7 2) (fc (hf.g 8 3) fn_)))), (hS132.sel [0, 1, 2, 3] rfl rfl)⟩
          exact aN
         exact aN
        exact aN
       exact aN
      refine rS 23 12 rfl (Ys_bslice (s := 3) (len := 1) (vs := [(0, .agg #[vi 0, vi 0, vi (shlK .i64 1 (i : Int))])]) (cs := [vi 0, vi 0, vi (shlK .i64 1 (i : Int))]) (zs := [vi 0, vi 0, vi 0]) (m := 3) hS127 K2 K0 K12 rfl (mpc rfl mpn) rfl rfl rfl (by kernel_rfl) (by kernel_rfl) rfl) ?_ ?_
      ·rintro _ w_127 ⟨b3, rfl, hS133⟩
       refine ⟨(hS133.se [0]), ?_⟩
       refine rA [6] ?_
       refine rS 17 6 rfl (Ys_append (s := 3) (by' := 24) (i := 2) (nn := XImages.length) (c := c2) (k := 1) (len := (XImages ++ [(TPauli.mk 0 (shlK .i64 1 (i : Int)) 0)]).length) (B := B2) (xs := ([(TPauli.mk 0 (shlK .i64 1 (i : Int)) 0)].flatMap eN0)) (cs' := ((XImages ++ [(TPauli.mk 0 (shlK .i64 1 (i : Int)) 0)]).flatMap eN0)) hS133 K2 K0 K8 K5 rfl (by decide) rfl rfl rfl rfl (fm_lenn (l := XImages) eN1 rfl) rfl (hS133.c 4) (fm_lenn (l := [(TPauli.mk 0 (shlK .i64 1 (i : Int)) 0)]) eN1 rfl) (fm_one' (enc := eN0) eN3 [(TPauli.mk 0 (shlK .i64 1 (i : Int)) 0)]) (by have := hap; omega) (by have := hap; simp only [maxLen]; omega) (fm_app _ _) (app_len (l := XImages) (l' := [(TPauli.mk 0 (shlK .i64 1 (i : Int)) 0)]) rfl rfl)) ?_ ?_
       ·rintro _ w_128 ⟨B4, c4, rfl, hS134⟩
        refine ⟨(hS134.se [0]), ?_⟩
        refine rq 14 25 (v := pt (aD b1) 1) rfl (hS134.se [0]) (fun w' hw' => (yd (aD b1) 0 0 K9 K1 rfl (hf.g 3 1))) ?_
        refine rA [13] ?_
        refine rS 24 13 rfl (Ys_append (s := 3) (by' := 24) (i := 3) (nn := ZImages.length) (c := c3) (k := 1) (len := (ZImages ++ [(TPauli.mk 0 0 (shlK .i64 1 (i : Int)))]).length) (B := B3) (xs := ([(TPauli.mk 0 0 (shlK .i64 1 (i : Int)))].flatMap eN0)) (cs' := ((ZImages ++ [(TPauli.mk 0 0 (shlK .i64 1 (i : Int)))]).flatMap eN0)) hS134 K2 K0 K8 K5 rfl (by decide) rfl rfl rfl rfl (fm_lenn (l := ZImages) eN1 rfl) rfl (hS134.c 5) (fm_lenn (l := [(TPauli.mk 0 0 (shlK .i64 1 (i : Int)))]) eN1 rfl) (fm_one' (enc := eN0) eN3 [(TPauli.mk 0 0 (shlK .i64 1 (i : Int)))]) (by have := hap1; omega) (by have := hap1; simp only [maxLen]; omega) (fm_app _ _) (app_len (l := ZImages) (l' := [(TPauli.mk 0 0 (shlK .i64 1 (i : Int)))]) rfl rfl)) ?_ ?_
        ·rintro _ w_129 ⟨B5, c5, rfl, hS135⟩
         refine ⟨(hS135.se [0]), ?_⟩
         refine rA [15] ?_
         refine rZ 15 rfl (yS 1 1 (aD b1) 40 (.slice B4 ((XImages ++ [(TPauli.mk 0 (shlK .i64 1 (i : Int)) 0)]).length) c4) [.slice B4 ((XImages ++ [(TPauli.mk 0 (shlK .i64 1 (i : Int)) 0)]).length) c4] 1 [vi n, .slice B4 ((XImages ++ [(TPauli.mk 0 (shlK .i64 1 (i : Int)) 0)]).length) c4, .slice B3 ZImages.length c3] hS135 K1) ?_ ?_
         ·rintro _ w_130 ⟨rfl, hS136⟩
          refine ⟨(hS136.se [0]), ?_⟩
          refine rq 16 26 (v := pt (aD b1) 2) rfl (hS136.se [0]) (fun w' hw' => (yd (aD b1) 0 0 K11 K1 rfl (hf.g 3 1))) ?_
          refine rA [17] ?_
          refine rZ 17 rfl (yS 1 1 (aD b1) 40 (.slice B5 ((ZImages ++ [(TPauli.mk 0 0 (shlK .i64 1 (i : Int)))]).length) c5) [.slice B5 ((ZImages ++ [(TPauli.mk 0 0 (shlK .i64 1 (i : Int)))]).length) c5] 2 [vi n, .slice B4 ((XImages ++ [(TPauli.mk 0 (shlK .i64 1 (i : Int)) 0)]).length) c4, .slice B5 ((ZImages ++ [(TPauli.mk 0 0 (shlK .i64 1 (i : Int)))]).length) c5] hS136 K1) ?_ ?_
          ·rintro _ w_131 ⟨rfl, hS137⟩
           refine ⟨(hS137.se [0]), ?_⟩
           refine ra_done (by kernel_rfl) ?_
           exact ⟨B4, c4, B5, c5, (fc (hf.g 2 0) (fc (hf.g 3 1) (fc (hf.g 7 2) (fc (hf.g 8 3) fn_)))), (hS137.sel [0, 1, 2, 3] rfl rfl)⟩
          exact aN
         exact aN
        exact aN
       exact aN
      exact aN
     refine rS 23 12 rfl (Ys_bslice (s := 3) (len := 1) (vs := [(0, .agg #[vi 0, vi 0, vi (shlK .i64 1 (i : Int))])]) (cs := [vi 0, vi 0, vi (shlK .i64 1 (i : Int))]) (zs := [vi 0, vi 0, vi 0]) (m := 3) hS8 K2 K0 K12 rfl (mpc rfl mpn) rfl rfl rfl (by kernel_rfl) (by kernel_rfl) rfl) ?_ ?_
     ·rintro _ w_132 ⟨b3, rfl, hS138⟩
      refine ⟨(hS138.se [0]), ?_⟩
      refine rA [5] ?_
      refine rS 16 5 rfl (Ys_bslice (s := 3) (len := 1) (vs := [(0, .agg #[vi 0, vi (shlK .i64 1 (i : Int)), vi 0])]) (cs := [vi 0, vi (shlK .i64 1 (i : Int)), vi 0]) (zs := [vi 0, vi 0, vi 0]) (m := 3) hS138 K2 K0 K12 rfl (mpc rfl mpn) rfl rfl rfl (by kernel_rfl) (by kernel_rfl) rfl) ?_ ?_
      ·rintro _ w_133 ⟨b2, rfl, hS139⟩
       refine ⟨(hS139.se [0]), ?_⟩
       refine rA [6] ?_
       refine rS 17 6 rfl (Ys_append (s := 3) (by' := 24) (i := 2) (nn := XImages.length) (c := c2) (k := 1) (len := (XImages ++ [(TPauli.mk 0 (shlK .i64 1 (i : Int)) 0)]).length) (B := B2) (xs := ([(TPauli.mk 0 (shlK .i64 1 (i : Int)) 0)].flatMap eN0)) (cs' := ((XImages ++ [(TPauli.mk 0 (shlK .i64 1 (i : Int)) 0)]).flatMap eN0)) hS139 K2 K0 K8 K5 rfl (by decide) rfl rfl rfl rfl (fm_lenn (l := XImages) eN1 rfl) rfl (hS139.c 5) (fm_lenn (l := [(TPauli.mk 0 (shlK .i64 1 (i : Int)) 0)]) eN1 rfl) (fm_one' (enc := eN0) eN3 [(TPauli.mk 0 (shlK .i64 1 (i : Int)) 0)]) (by have := hap; omega) (by have := hap; simp only [maxLen]; omega) (fm_app _ _) (app_len (l := XImages) (l' := [(TPauli.mk 0 (shlK .i64 1 (i : Int)) 0)]) rfl rfl)) ?_ ?_
       ·rintro _ w_134 ⟨B4, c4, rfl, hS140⟩
        refine ⟨(hS140.se [0]), ?_⟩
        refine rq 14 25 (v := pt (aD b1) 1) rfl (hS140.se [0]) (fun w' hw' => (yd (aD b1) 0 0 K9 K1 rfl (hf.g 3 1))) ?_
        refine rA [13] ?_
        refine rS 24 13 rfl (Ys_append (s := 3) (by' := 24) (i := 3) (nn := ZImages.length) (c := c3) (k := 1) (len := (ZImages ++ [(TPauli.mk 0 0 (shlK .i64 1 (i : Int)))]).length) (B := B3) (xs := ([(TPauli.mk 0 0 (shlK .i64 1 (i : Int)))].flatMap eN0)) (cs' := ((ZImages ++ [(TPauli.mk 0 0 (shlK .i64 1 (i : Int)))]).flatMap eN0)) hS140 K2 K0 K8 K5 rfl (by decide) rfl rfl rfl rfl (fm_lenn (l := ZImages) eN1 rfl) rfl (hS140.c 4) (fm_lenn (l := [(TPauli.mk 0 0 (shlK .i64 1 (i : Int)))]) eN1 rfl) (fm_one' (enc := eN0) eN3 [(TPauli.mk 0 0 (shlK .i64 1 (i : Int)))]) (by have := hap1; omega) (by have := hap1; simp only [maxLen]; omega) (fm_app _ _) (app_len (l := ZImages) (l' := [(TPauli.mk 0 0 (shlK .i64 1 (i : Int)))]) rfl rfl)) ?_ ?_
        ·rintro _ w_135 ⟨B5, c5, rfl, hS141⟩
         refine ⟨(hS141.se [0]), ?_⟩
         refine rA [15] ?_
         refine rZ 15 rfl (yS 1 1 (aD b1) 40 (.slice B4 ((XImages ++ [(TPauli.mk 0 (shlK .i64 1 (i : Int)) 0)]).length) c4) [.slice B4 ((XImages ++ [(TPauli.mk 0 (shlK .i64 1 (i : Int)) 0)]).length) c4] 1 [vi n, .slice B4 ((XImages ++ [(TPauli.mk 0 (shlK .i64 1 (i : Int)) 0)]).length) c4, .slice B3 ZImages.length c3] hS141 K1) ?_ ?_
         ·rintro _ w_136 ⟨rfl, hS142⟩
          refine ⟨(hS142.se [0]), ?_⟩
          refine rq 16 26 (v := pt (aD b1) 2) rfl (hS142.se [0]) (fun w' hw' => (yd (aD b1) 0 0 K11 K1 rfl (hf.g 3 1))) ?_
          refine rA [17] ?_
          refine rZ 17 rfl (yS 1 1 (aD b1) 40 (.slice B5 ((ZImages ++ [(TPauli.mk 0 0 (shlK .i64 1 (i : Int)))]).length) c5) [.slice B5 ((ZImages ++ [(TPauli.mk 0 0 (shlK .i64 1 (i : Int)))]).length) c5] 2 [vi n, .slice B4 ((XImages ++ [(TPauli.mk 0 (shlK .i64 1 (i : Int)) 0)]).length) c4, .slice B5 ((ZImages ++ [(TPauli.mk 0 0 (shlK .i64 1 (i : Int)))]).length) c5] hS142 K1) ?_ ?_
          ·rintro _ w_137 ⟨rfl, hS143⟩
           refine ⟨(hS143.se [0]), ?_⟩
           refine ra_done (by kernel_rfl) ?_
           exact ⟨B4, c4, B5, c5, (fc (hf.g 2 0) (fc (hf.g 3 1) (fc (hf.g 7 2) (fc (hf.g 8 3) fn_)))), (hS143.sel [0, 1, 2, 3] rfl rfl)⟩
          exact aN
         exact aN
        exact aN
       exact aN
      exact aN
     exact aN
    refine rS 16 5 rfl (Ys_bslice (s := 3) (len := 1) (vs := [(0, .agg #[vi 0, vi (shlK .i64 1 (i : Int)), vi 0])]) (cs := [vi 0, vi (shlK .i64 1 (i : Int)), vi 0]) (zs := [vi 0, vi 0, vi 0]) (m := 3) hS8 K2 K0 K12 rfl (mpc rfl mpn) rfl rfl rfl (by kernel_rfl) (by kernel_rfl) rfl) ?_ ?_
    ·rintro _ w_138 ⟨b2, rfl, hS144⟩
     refine ⟨(hS144.se [0]), ?_⟩
     refine rA [1, 12] ?_
     refine ra_y 12 (i := 1) (v := .slice B2 XImages.length c2) rfl rfl rfl (yl (aD b1) 1 [vi n, .slice B2 XImages.length c2, .slice B3 ZImages.length c3] (.slice B2 XImages.length c2) K6 (hS144.c 1)) (hS144.se [0]) ?_ ?_
     ·skip
      refine rA [6, 12] ?_
      refine rS 17 6 rfl (Ys_append (s := 3) (by' := 24) (i := 2) (nn := XImages.length) (c := c2) (k := 1) (len := (XImages ++ [(TPauli.mk 0 (shlK .i64 1 (i : Int)) 0)]).length) (B := B2) (xs := ([(TPauli.mk 0 (shlK .i64 1 (i : Int)) 0)].flatMap eN0)) (cs' := ((XImages ++ [(TPauli.mk 0 (shlK .i64 1 (i : Int)) 0)]).flatMap eN0)) hS144 K2 K0 K8 K5 rfl (by decide) rfl rfl rfl rfl (fm_lenn (l := XImages) eN1 rfl) rfl (hS144.c 4) (fm_lenn (l := [(TPauli.mk 0 (shlK .i64 1 (i : Int)) 0)]) eN1 rfl) (fm_one' (enc := eN0) eN3 [(TPauli.mk 0 (shlK .i64 1 (i : Int)) 0)]) (by have := hap; omega) (by have := hap; simp only [maxLen]; omega) (fm_app _ _) (app_len (l := XImages) (l' := [(TPauli.mk 0 (shlK .i64 1 (i : Int)) 0)]) rfl rfl)) ?_ ?_
      ·rintro _ w_139 ⟨B4, c4, rfl, hS145⟩
       refine ⟨(hS145.se [0]), ?_⟩
       refine rq 14 25 (v := pt (aD b1) 1) rfl (hS145.se [0]) (fun w' hw' => (yd (aD b1) 0 0 K9 K1 rfl (hf.g 3 1))) ?_
       refine rA [12] ?_
       refine rS 23 12 rfl (Ys_bslice (s := 3) (len := 1) (vs := [(0, .agg #[vi 0, vi 0, vi (shlK .i64 1 (i : Int))])]) (cs := [vi 0, vi 0, vi (shlK .i64 1 (i : Int))]) (zs := [vi 0, vi 0, vi 0]) (m := 3) hS145 K2 K0 K12 rfl (mpc rfl mpn) rfl rfl rfl (by kernel_rfl) (by kernel_rfl) rfl) ?_ ?_
       ·rintro _ w_140 ⟨b3, rfl, hS146⟩
        refine ⟨(hS146.se [0]), ?_⟩
        refine rA [13] ?_
        refine rS 24 13 rfl (Ys_append (s := 3) (by' := 24) (i := 3) (nn := ZImages.length) (c := c3) (k := 1) (len := (ZImages ++ [(TPauli.mk 0 0 (shlK .i64 1 (i : Int)))]).length) (B := B3) (xs := ([(TPauli.mk 0 0 (shlK .i64 1 (i : Int)))].flatMap eN0)) (cs' := ((ZImages ++ [(TPauli.mk 0 0 (shlK .i64 1 (i : Int)))]).flatMap eN0)) hS146 K2 K0 K8 K5 rfl (by decide) rfl rfl rfl rfl (fm_lenn (l := ZImages) eN1 rfl) rfl (hS146.c 5) (fm_lenn (l := [(TPauli.mk 0 0 (shlK .i64 1 (i : Int)))]) eN1 rfl) (fm_one' (enc := eN0) eN3 [(TPauli.mk 0 0 (shlK .i64 1 (i : Int)))]) (by have := hap1; omega) (by have := hap1; simp only [maxLen]; omega) (fm_app _ _) (app_len (l := ZImages) (l' := [(TPauli.mk 0 0 (shlK .i64 1 (i : Int)))]) rfl rfl)) ?_ ?_
        ·rintro _ w_141 ⟨B5, c5, rfl, hS147⟩
         refine ⟨(hS147.se [0]), ?_⟩
         refine rA [15] ?_
         refine rZ 15 rfl (yS 1 1 (aD b1) 40 (.slice B4 ((XImages ++ [(TPauli.mk 0 (shlK .i64 1 (i : Int)) 0)]).length) c4) [.slice B4 ((XImages ++ [(TPauli.mk 0 (shlK .i64 1 (i : Int)) 0)]).length) c4] 1 [vi n, .slice B4 ((XImages ++ [(TPauli.mk 0 (shlK .i64 1 (i : Int)) 0)]).length) c4, .slice B3 ZImages.length c3] hS147 K1) ?_ ?_
         ·rintro _ w_142 ⟨rfl, hS148⟩
          refine ⟨(hS148.se [0]), ?_⟩
          refine rq 16 26 (v := pt (aD b1) 2) rfl (hS148.se [0]) (fun w' hw' => (yd (aD b1) 0 0 K11 K1 rfl (hf.g 3 1))) ?_
          refine rA [17] ?_
          refine rZ 17 rfl (yS 1 1 (aD b1) 40 (.slice B5 ((ZImages ++ [(TPauli.mk 0 0 (shlK .i64 1 (i : Int)))]).length) c5) [.slice B5 ((ZImages ++ [(TPauli.mk 0 0 (shlK .i64 1 (i : Int)))]).length) c5] 2 [vi n, .slice B4 ((XImages ++ [(TPauli.mk 0 (shlK .i64 1 (i : Int)) 0)]).length) c4, .slice B5 ((ZImages ++ [(TPauli.mk 0 0 (shlK .i64 1 (i : Int)))]).length) c5] hS148 K1) ?_ ?_
          ·rintro _ w_143 ⟨rfl, hS149⟩
           refine ⟨(hS149.se [0]), ?_⟩
           refine ra_done (by kernel_rfl) ?_
           exact ⟨B4, c4, B5, c5, (fc (hf.g 2 0) (fc (hf.g 3 1) (fc (hf.g 7 2) (fc (hf.g 8 3) fn_)))), (hS149.sel [0, 1, 2, 3] rfl rfl)⟩
          exact aN
         exact aN
        exact aN
       exact aN
      refine rS 23 12 rfl (Ys_bslice (s := 3) (len := 1) (vs := [(0, .agg #[vi 0, vi 0, vi (shlK .i64 1 (i : Int))])]) (cs := [vi 0, vi 0, vi (shlK .i64 1 (i : Int))]) (zs := [vi 0, vi 0, vi 0]) (m := 3) hS144 K2 K0 K12 rfl (mpc rfl mpn) rfl rfl rfl (by kernel_rfl) (by kernel_rfl) rfl) ?_ ?_
      ·rintro _ w_144 ⟨b3, rfl, hS150⟩
       refine ⟨(hS150.se [0]), ?_⟩
       refine rA [6] ?_
       refine rS 17 6 rfl (Ys_append (s := 3) (by' := 24) (i := 2) (nn := XImages.length) (c := c2) (k := 1) (len := (XImages ++ [(TPauli.mk 0 (shlK .i64 1 (i : Int)) 0)]).length) (B := B2) (xs := ([(TPauli.mk 0 (shlK .i64 1 (i : Int)) 0)].flatMap eN0)) (cs' := ((XImages ++ [(TPauli.mk 0 (shlK .i64 1 (i : Int)) 0)]).flatMap eN0)) hS150 K2 K0 K8 K5 rfl (by decide) rfl rfl rfl rfl (fm_lenn (l := XImages) eN1 rfl) rfl (hS150.c 4) (fm_lenn (l := [(TPauli.mk 0 (shlK .i64 1 (i : Int)) 0)]) eN1 rfl) (fm_one' (enc := eN0) eN3 [(TPauli.mk 0 (shlK .i64 1 (i : Int)) 0)]) (by have := hap; omega) (by have := hap; simp only [maxLen]; omega) (fm_app _ _) (app_len (l := XImages) (l' := [(TPauli.mk 0 (shlK .i64 1 (i : Int)) 0)]) rfl rfl)) ?_ ?_
       ·rintro _ w_145 ⟨B4, c4, rfl, hS151⟩
        refine ⟨(hS151.se [0]), ?_⟩
        refine rq 14 25 (v := pt (aD b1) 1) rfl (hS151.se [0]) (fun w' hw' => (yd (aD b1) 0 0 K9 K1 rfl (hf.g 3 1))) ?_
        refine rA [13] ?_
        refine rS 24 13 rfl (Ys_append (s := 3) (by' := 24) (i := 3) (nn := ZImages.length) (c := c3) (k := 1) (len := (ZImages ++ [(TPauli.mk 0 0 (shlK .i64 1 (i : Int)))]).length) (B := B3) (xs := ([(TPauli.mk 0 0 (shlK .i64 1 (i : Int)))].flatMap eN0)) (cs' := ((ZImages ++ [(TPauli.mk 0 0 (shlK .i64 1 (i : Int)))]).flatMap eN0)) hS151 K2 K0 K8 K5 rfl (by decide) rfl rfl rfl rfl (fm_lenn (l := ZImages) eN1 rfl) rfl (hS151.c 5) (fm_lenn (l := [(TPauli.mk 0 0 (shlK .i64 1 (i : Int)))]) eN1 rfl) (fm_one' (enc := eN0) eN3 [(TPauli.mk 0 0 (shlK .i64 1 (i : Int)))]) (by have := hap1; omega) (by have := hap1; simp only [maxLen]; omega) (fm_app _ _) (app_len (l := ZImages) (l' := [(TPauli.mk 0 0 (shlK .i64 1 (i : Int)))]) rfl rfl)) ?_ ?_
        ·rintro _ w_146 ⟨B5, c5, rfl, hS152⟩
         refine ⟨(hS152.se [0]), ?_⟩
         refine rA [15] ?_
         refine rZ 15 rfl (yS 1 1 (aD b1) 40 (.slice B4 ((XImages ++ [(TPauli.mk 0 (shlK .i64 1 (i : Int)) 0)]).length) c4) [.slice B4 ((XImages ++ [(TPauli.mk 0 (shlK .i64 1 (i : Int)) 0)]).length) c4] 1 [vi n, .slice B4 ((XImages ++ [(TPauli.mk 0 (shlK .i64 1 (i : Int)) 0)]).length) c4, .slice B3 ZImages.length c3] hS152 K1) ?_ ?_
         ·rintro _ w_147 ⟨rfl, hS153⟩
          refine ⟨(hS153.se [0]), ?_⟩
          refine rq 16 26 (v := pt (aD b1) 2) rfl (hS153.se [0]) (fun w' hw' => (yd (aD b1) 0 0 K11 K1 rfl (hf.g 3 1))) ?_
          refine rA [17] ?_
          refine rZ 17 rfl (yS 1 1 (aD b1) 40 (.slice B5 ((ZImages ++ [(TPauli.mk 0 0 (shlK .i64 1 (i : Int)))]).length) c5) [.slice B5 ((ZImages ++ [(TPauli.mk 0 0 (shlK .i64 1 (i : Int)))]).length) c5] 2 [vi n, .slice B4 ((XImages ++ [(TPauli.mk 0 (shlK .i64 1 (i : Int)) 0)]).length) c4, .slice B5 ((ZImages ++ [(TPauli.mk 0 0 (shlK .i64 1 (i : Int)))]).length) c5] hS153 K1) ?_ ?_
          ·rintro _ w_148 ⟨rfl, hS154⟩
           refine ⟨(hS154.se [0]), ?_⟩
           refine ra_done (by kernel_rfl) ?_
           exact ⟨B4, c4, B5, c5, (fc (hf.g 2 0) (fc (hf.g 3 1) (fc (hf.g 7 2) (fc (hf.g 8 3) fn_)))), (hS154.sel [0, 1, 2, 3] rfl rfl)⟩
          exact aN
         exact aN
        exact aN
       exact aN
      exact aN
     refine rS 23 12 rfl (Ys_bslice (s := 3) (len := 1) (vs := [(0, .agg #[vi 0, vi 0, vi (shlK .i64 1 (i : Int))])]) (cs := [vi 0, vi 0, vi (shlK .i64 1 (i : Int))]) (zs := [vi 0, vi 0, vi 0]) (m := 3) hS144 K2 K0 K12 rfl (mpc rfl mpn) rfl rfl rfl (by kernel_rfl) (by kernel_rfl) rfl) ?_ ?_
     ·rintro _ w_149 ⟨b3, rfl, hS155⟩
      refine ⟨(hS155.se [0]), ?_⟩
      refine rA [1] ?_
      refine ra_y 12 (i := 1) (v := .slice B2 XImages.length c2) rfl rfl rfl (yl (aD b1) 1 [vi n, .slice B2 XImages.length c2, .slice B3 ZImages.length c3] (.slice B2 XImages.length c2) K6 (hS155.c 1)) (hS155.se [0]) ?_ ?_
      ·skip
       refine rA [6] ?_
       refine rS 17 6 rfl (Ys_append (s := 3) (by' := 24) (i := 2) (nn := XImages.length) (c := c2) (k := 1) (len := (XImages ++ [(TPauli.mk 0 (shlK .i64 1 (i : Int)) 0)]).length) (B := B2) (xs := ([(TPauli.mk 0 (shlK .i64 1 (i : Int)) 0)].flatMap eN0)) (cs' := ((XImages ++ [(TPauli.mk 0 (shlK .i64 1 (i : Int)) 0)]).flatMap eN0)) hS155 K2 K0 K8 K5 rfl (by decide) rfl rfl rfl rfl (fm_lenn (l := XImages) eN1 rfl) rfl (hS155.c 4) (fm_lenn (l := [(TPauli.mk 0 (shlK .i64 1 (i : Int)) 0)]) eN1 rfl) (fm_one' (enc := eN0) eN3 [(TPauli.mk 0 (shlK .i64 1 (i : Int)) 0)]) (by have := hap; omega) (by have := hap; simp only [maxLen]; omega) (fm_app _ _) (app_len (l := XImages) (l' := [(TPauli.mk 0 (shlK .i64 1 (i : Int)) 0)]) rfl rfl)) ?_ ?_
       ·rintro _ w_150 ⟨B4, c4, rfl, hS156⟩
        have hS156 : ST w0 [] _ [⟨aD b, 40, [vi 0, .slice none 0 0, .slice none 0 0], 3⟩, ⟨aD b1, 40, [vi n, .slice B2 XImages.length c2, .slice B3 ZImages.length c3], 3⟩, ⟨B4, 71, ((XImages ++ [(TPauli.mk 0 (shlK .i64 1 (i : Int)) 0)]).flatMap eN0), c4 * 3⟩, ⟨B3, 71, (ZImages.flatMap eN0), c3 * 3⟩, ⟨aD b2, 71, ([(TPauli.mk 0 (shlK .i64 1 (i : Int)) 0)].flatMap eN0), 1 * 3⟩, ⟨aD b3, 71, ([(TPauli.mk 0 0 (shlK .i64 1 (i : Int)))].flatMap eN0), 1 * 3⟩] [] := hS156
        refine ⟨(hS156.se [0]), ?_⟩
        refine rq 14 25 (v := pt (aD b1) 1) rfl (hS156.se [0]) (fun w' hw' => (yd (aD b1) 0 0 K9 K1 rfl (hf.g 3 1))) ?_
        refine rA [13] ?_
        refine rS 24 13 rfl (Ys_append (s := 3) (by' := 24) (i := 3) (nn := ZImages.length) (c := c3) (k := 1) (len := (ZImages ++ [(TPauli.mk 0 0 (shlK .i64 1 (i : Int)))]).length) (B := B3) (xs := ([(TPauli.mk 0 0 (shlK .i64 1 (i : Int)))].flatMap eN0)) (cs' := ((ZImages ++ [(TPauli.mk 0 0 (shlK .i64 1 (i : Int)))]).flatMap eN0)) hS156 K2 K0 K8 K5 rfl (by decide) rfl rfl rfl rfl (fm_lenn (l := ZImages) eN1 rfl) rfl (hS156.c 5) (fm_lenn (l := [(TPauli.mk 0 0 (shlK .i64 1 (i : Int)))]) eN1 rfl) (fm_one' (enc := eN0) eN3 [(TPauli.mk 0 0 (shlK .i64 1 (i : Int)))]) (by have := hap1; omega) (by have := hap1; simp only [maxLen]; omega) (fm_app _ _) (app_len (l := ZImages) (l' := [(TPauli.mk 0 0 (shlK .i64 1 (i : Int)))]) rfl rfl)) ?_ ?_
        ·rintro _ w_151 ⟨B5, c5, rfl, hS157⟩
         refine ⟨(hS157.se [0]), ?_⟩
         refine rA [15] ?_
         refine rZ 15 rfl (yS 1 1 (aD b1) 40 (.slice B4 ((XImages ++ [(TPauli.mk 0 (shlK .i64 1 (i : Int)) 0)]).length) c4) [.slice B4 ((XImages ++ [(TPauli.mk 0 (shlK .i64 1 (i : Int)) 0)]).length) c4] 1 [vi n, .slice B4 ((XImages ++ [(TPauli.mk 0 (shlK .i64 1 (i : Int)) 0)]).length) c4, .slice B3 ZImages.length c3] hS157 K1) ?_ ?_
         ·rintro _ w_152 ⟨rfl, hS158⟩
          refine ⟨(hS158.se [0]), ?_⟩
          refine rq 16 26 (v := pt (aD b1) 2) rfl (hS158.se [0]) (fun w' hw' => (yd (aD b1) 0 0 K11 K1 rfl (hf.g 3 1))) ?_
          refine rA [17] ?_
          refine rZ 17 rfl (yS 1 1 (aD b1) 40 (.slice B5 ((ZImages ++ [(TPauli.mk 0 0 (shlK .i64 1 (i : Int)))]).length) c5) [.slice B5 ((ZImages ++ [(TPauli.mk 0 0 (shlK .i64 1 (i : Int)))]).length) c5] 2 [vi n, .slice B4 ((XImages ++ [(TPauli.mk 0 (shlK .i64 1 (i : Int)) 0)]).length) c4, .slice B5 ((ZImages ++ [(TPauli.mk 0 0 (shlK .i64 1 (i : Int)))]).length) c5] hS158 K1) ?_ ?_
          ·rintro _ w_153 ⟨rfl, hS159⟩
           refine ⟨(hS159.se [0]), ?_⟩
           refine ra_done (by kernel_rfl) ?_
           exact ⟨B4, c4, B5, c5, (fc (hf.g 2 0) (fc (hf.g 3 1) (fc (hf.g 7 2) (fc (hf.g 8 3) fn_)))), (hS159.sel [0, 1, 2, 3] rfl rfl)⟩
          exact aN
         exact aN
        exact aN
       exact aN
      exact aN
     exact aN
    refine rS 23 12 rfl (Ys_bslice (s := 3) (len := 1) (vs := [(0, .agg #[vi 0, vi 0, vi (shlK .i64 1 (i : Int))])]) (cs := [vi 0, vi 0, vi (shlK .i64 1 (i : Int))]) (zs := [vi 0, vi 0, vi 0]) (m := 3) hS8 K2 K0 K12 rfl (mpc rfl mpn) rfl rfl rfl (by kernel_rfl) (by kernel_rfl) rfl) ?_ ?_
    ·rintro _ w_154 ⟨b3, rfl, hS160⟩
     refine ⟨(hS160.se [0]), ?_⟩
     refine rA [1, 5] ?_
     refine ra_y 12 (i := 1) (v := .slice B2 XImages.length c2) rfl rfl rfl (yl (aD b1) 1 [vi n, .slice B2 XImages.length c2, .slice B3 ZImages.length c3] (.slice B2 XImages.length c2) K6 (hS160.c 1)) (hS160.se [0]) ?_ ?_
     ·skip
      refine rA [5] ?_
      refine rS 16 5 rfl (Ys_bslice (s := 3) (len := 1) (vs := [(0, .agg #[vi 0, vi (shlK .i64 1 (i : Int)), vi 0])]) (cs := [vi 0, vi (shlK .i64 1 (i : Int)), vi 0]) (zs := [vi 0, vi 0, vi 0]) (m := 3) hS160 K2 K0 K12 rfl (mpc rfl mpn) rfl rfl rfl (by kernel_rfl) (by kernel_rfl) rfl) ?_ ?_
      ·rintro _ w_155 ⟨b2, rfl, hS161⟩
       refine ⟨(hS161.se [0]), ?_⟩
       refine rA [6] ?_
       refine rS 17 6 rfl (Ys_append (s := 3) (by' := 24) (i := 2) (nn := XImages.length) (c := c2) (k := 1) (len := (XImages ++ [(TPauli.mk 0 (shlK .i64 1 (i : Int)) 0)]).length) (B := B2) (xs := ([(TPauli.mk 0 (shlK .i64 1 (i : Int)) 0)].flatMap eN0)) (cs' := ((XImages ++ [(TPauli.mk 0 (shlK .i64 1 (i : Int)) 0)]).flatMap eN0)) hS161 K2 K0 K8 K5 rfl (by decide) rfl rfl rfl rfl (fm_lenn (l := XImages) eN1 rfl) rfl (hS161.c 5) (fm_lenn (l := [(TPauli.mk 0 (shlK .i64 1 (i : Int)) 0)]) eN1 rfl) (fm_one' (enc := eN0) eN3 [(TPauli.mk 0 (shlK .i64 1 (i : Int)) 0)]) (by have := hap; omega) (by have := hap; simp only [maxLen]; omega) (fm_app _ _) (app_len (l := XImages) (l' := [(TPauli.mk 0 (shlK .i64 1 (i : Int)) 0)]) rfl rfl)) ?_ ?_
       ·rintro _ w_156 ⟨B4, c4, rfl, hS162⟩
        refine ⟨(hS162.se [0]), ?_⟩
        refine rq 14 25 (v := pt (aD b1) 1) rfl (hS162.se [0]) (fun w' hw' => (yd (aD b1) 0 0 K9 K1 rfl (hf.g 3 1))) ?_
        refine rA [13] ?_
        refine rS 24 13 rfl (Ys_append (s := 3) (by' := 24) (i := 3) (nn := ZImages.length) (c := c3) (k := 1) (len := (ZImages ++ [(TPauli.mk 0 0 (shlK .i64 1 (i : Int)))]).length) (B := B3) (xs := ([(TPauli.mk 0 0 (shlK .i64 1 (i : Int)))].flatMap eN0)) (cs' := ((ZImages ++ [(TPauli.mk 0 0 (shlK .i64 1 (i : Int)))]).flatMap eN0)) hS162 K2 K0 K8 K5 rfl (by decide) rfl rfl rfl rfl (fm_lenn (l := ZImages) eN1 rfl) rfl (hS162.c 4) (fm_lenn (l := [(TPauli.mk 0 0 (shlK .i64 1 (i : Int)))]) eN1 rfl) (fm_one' (enc := eN0) eN3 [(TPauli.mk 0 0 (shlK .i64 1 (i : Int)))]) (by have := hap1; omega) (by have := hap1; simp only [maxLen]; omega) (fm_app _ _) (app_len (l := ZImages) (l' := [(TPauli.mk 0 0 (shlK .i64 1 (i : Int)))]) rfl rfl)) ?_ ?_
        ·rintro _ w_157 ⟨B5, c5, rfl, hS163⟩
         refine ⟨(hS163.se [0]), ?_⟩
         refine rA [15] ?_
         refine rZ 15 rfl (yS 1 1 (aD b1) 40 (.slice B4 ((XImages ++ [(TPauli.mk 0 (shlK .i64 1 (i : Int)) 0)]).length) c4) [.slice B4 ((XImages ++ [(TPauli.mk 0 (shlK .i64 1 (i : Int)) 0)]).length) c4] 1 [vi n, .slice B4 ((XImages ++ [(TPauli.mk 0 (shlK .i64 1 (i : Int)) 0)]).length) c4, .slice B3 ZImages.length c3] hS163 K1) ?_ ?_
         ·rintro _ w_158 ⟨rfl, hS164⟩
          refine ⟨(hS164.se [0]), ?_⟩
          refine rq 16 26 (v := pt (aD b1) 2) rfl (hS164.se [0]) (fun w' hw' => (yd (aD b1) 0 0 K11 K1 rfl (hf.g 3 1))) ?_
          refine rA [17] ?_
          refine rZ 17 rfl (yS 1 1 (aD b1) 40 (.slice B5 ((ZImages ++ [(TPauli.mk 0 0 (shlK .i64 1 (i : Int)))]).length) c5) [.slice B5 ((ZImages ++ [(TPauli.mk 0 0 (shlK .i64 1 (i : Int)))]).length) c5] 2 [vi n, .slice B4 ((XImages ++ [(TPauli.mk 0 (shlK .i64 1 (i : Int)) 0)]).length) c4, .slice B5 ((ZImages ++ [(TPauli.mk 0 0 (shlK .i64 1 (i : Int)))]).length) c5] hS164 K1) ?_ ?_
          ·rintro _ w_159 ⟨rfl, hS165⟩
           refine ⟨(hS165.se [0]), ?_⟩
           refine ra_done (by kernel_rfl) ?_
           exact ⟨B4, c4, B5, c5, (fc (hf.g 2 0) (fc (hf.g 3 1) (fc (hf.g 7 2) (fc (hf.g 8 3) fn_)))), (hS165.sel [0, 1, 2, 3] rfl rfl)⟩
          exact aN
         exact aN
        exact aN
       exact aN
      exact aN
     refine rS 16 5 rfl (Ys_bslice (s := 3) (len := 1) (vs := [(0, .agg #[vi 0, vi (shlK .i64 1 (i : Int)), vi 0])]) (cs := [vi 0, vi (shlK .i64 1 (i : Int)), vi 0]) (zs := [vi 0, vi 0, vi 0]) (m := 3) hS160 K2 K0 K12 rfl (mpc rfl mpn) rfl rfl rfl (by kernel_rfl) (by kernel_rfl) rfl) ?_ ?_
     ·rintro _ w_160 ⟨b2, rfl, hS166⟩
      refine ⟨(hS166.se [0]), ?_⟩
      refine rA [1] ?_
      refine ra_y 12 (i := 1) (v := .slice B2 XImages.length c2) rfl rfl rfl (yl (aD b1) 1 [vi n, .slice B2 XImages.length c2, .slice B3 ZImages.length c3] (.slice B2 XImages.length c2) K6 (hS166.c 1)) (hS166.se [0]) ?_ ?_
      ·skip
       refine rA [6] ?_
       refine rS 17 6 rfl (Ys_append (s := 3) (by' := 24) (i := 2) (nn := XImages.length) (c := c2) (k := 1) (len := (XImages ++ [(TPauli.mk 0 (shlK .i64 1 (i : Int)) 0)]).length) (B := B2) (xs := ([(TPauli.mk 0 (shlK .i64 1 (i : Int)) 0)].flatMap eN0)) (cs' := ((XImages ++ [(TPauli.mk 0 (shlK .i64 1 (i : Int)) 0)]).flatMap eN0)) hS166 K2 K0 K8 K5 rfl (by decide) rfl rfl rfl rfl (fm_lenn (l := XImages) eN1 rfl) rfl (hS166.c 5) (fm_lenn (l := [(TPauli.mk 0 (shlK .i64 1 (i : Int)) 0)]) eN1 rfl) (fm_one' (enc := eN0) eN3 [(TPauli.mk 0 (shlK .i64 1 (i : Int)) 0)]) (by have := hap; omega) (by have := hap; simp only [maxLen]; omega) (fm_app _ _) (app_len (l := XImages) (l' := [(TPauli.mk 0 (shlK .i64 1 (i : Int)) 0)]) rfl rfl)) ?_ ?_
       ·rintro _ w_161 ⟨B4, c4, rfl, hS167⟩
        refine ⟨(hS167.se [0]), ?_⟩
        refine rq 14 25 (v := pt (aD b1) 1) rfl (hS167.se [0]) (fun w' hw' => (yd (aD b1) 0 0 K9 K1 rfl (hf.g 3 1))) ?_
        refine rA [13] ?_
        refine rS 24 13 rfl (Ys_append (s := 3) (by' := 24) (i := 3) (nn := ZImages.length) (c := c3) (k := 1) (len := (ZImages ++ [(TPauli.mk 0 0 (shlK .i64 1 (i : Int)))]).length) (B := B3) (xs := ([(TPauli.mk 0 0 (shlK .i64 1 (i : Int)))].flatMap eN0)) (cs' := ((ZImages ++ [(TPauli.mk 0 0 (shlK .i64 1 (i : Int)))]).flatMap eN0)) hS167 K2 K0 K8 K5 rfl (by decide) rfl rfl rfl rfl (fm_lenn (l := ZImages) eN1 rfl) rfl (hS167.c 4) (fm_lenn (l := [(TPauli.mk 0 0 (shlK .i64 1 (i : Int)))]) eN1 rfl) (fm_one' (enc := eN0) eN3 [(TPauli.mk 0 0 (shlK .i64 1 (i : Int)))]) (by have := hap1; omega) (by have := hap1; simp only [maxLen]; omega) (fm_app _ _) (app_len (l := ZImages) (l' := [(TPauli.mk 0 0 (shlK .i64 1 (i : Int)))]) rfl rfl)) ?_ ?_
        ·rintro _ w_162 ⟨B5, c5, rfl, hS168⟩
         refine ⟨(hS168.se [0]), ?_⟩
         refine rA [15] ?_
         refine rZ 15 rfl (yS 1 1 (aD b1) 40 (.slice B4 ((XImages ++ [(TPauli.mk 0 (shlK .i64 1 (i : Int)) 0)]).length) c4) [.slice B4 ((XImages ++ [(TPauli.mk 0 (shlK .i64 1 (i : Int)) 0)]).length) c4] 1 [vi n, .slice B4 ((XImages ++ [(TPauli.mk 0 (shlK .i64 1 (i : Int)) 0)]).length) c4, .slice B3 ZImages.length c3] hS168 K1) ?_ ?_
         ·rintro _ w_163 ⟨rfl, hS169⟩
          refine ⟨(hS169.se [0]), ?_⟩
          refine rq 16 26 (v := pt (aD b1) 2) rfl (hS169.se [0]) (fun w' hw' => (yd (aD b1) 0 0 K11 K1 rfl (hf.g 3 1))) ?_
          refine rA [17] ?_
          refine rZ 17 rfl (yS 1 1 (aD b1) 40 (.slice B5 ((ZImages ++ [(TPauli.mk 0 0 (shlK .i64 1 (i : Int)))]).length) c5) [.slice B5 ((ZImages ++ [(TPauli.mk 0 0 (shlK .i64 1 (i : Int)))]).length) c5] 2 [vi n, .slice B4 ((XImages ++ [(TPauli.mk 0 (shlK .i64 1 (i : Int)) 0)]).length) c4, .slice B5 ((ZImages ++ [(TPauli.mk 0 0 (shlK .i64 1 (i : Int)))]).length) c5] hS169 K1) ?_ ?_
          ·rintro _ w_164 ⟨rfl, hS170⟩
           refine ⟨(hS170.se [0]), ?_⟩
           refine ra_done (by kernel_rfl) ?_
           exact ⟨B4, c4, B5, c5, (fc (hf.g 2 0) (fc (hf.g 3 1) (fc (hf.g 7 2) (fc (hf.g 8 3) fn_)))), (hS170.sel [0, 1, 2, 3] rfl rfl)⟩
          exact aN
         exact aN
        exact aN
       exact aN
      exact aN
     exact aN
    exact aN
   refine rS 23 12 rfl (Ys_bslice (s := 3) (len := 1) (vs := [(0, .agg #[vi 0, vi 0, vi (shlK .i64 1 (i : Int))])]) (cs := [vi 0, vi 0, vi (shlK .i64 1 (i : Int))]) (zs := [vi 0, vi 0, vi 0]) (m := 3) hS8 K2 K0 K12 rfl (mpc rfl mpn) rfl rfl rfl (by kernel_rfl) (by kernel_rfl) rfl) ?_ ?_
   ·rintro _ w_165 ⟨b3, rfl, hS171⟩
    refine ⟨(hS171.se [0]), ?_⟩
    refine rA [1, 5, 8] ?_
    refine ra_y 12 (i := 1) (v := .slice B2 XImages.length c2) rfl rfl rfl (yl (aD b1) 1 [vi n, .slice B2 XImages.length c2, .slice B3 ZImages.length c3] (.slice B2 XImages.length c2) K6 (hS171.c 1)) (hS171.se [0]) ?_ ?_
    ·skip
     refine rA [5, 8] ?_
     refine rS 16 5 rfl (Ys_bslice (s := 3) (len := 1) (vs := [(0, .agg #[vi 0, vi (shlK .i64 1 (i : Int)), vi 0])]) (cs := [vi 0, vi (shlK .i64 1 (i : Int)), vi 0]) (zs := [vi 0, vi 0, vi 0]) (m := 3) hS171 K2 K0 K12 rfl (mpc rfl mpn) rfl rfl rfl (by kernel_rfl) (by kernel_rfl) rfl) ?_ ?_
     ·rintro _ w_166 ⟨b2, rfl, hS172⟩
      refine ⟨(hS172.se [0]), ?_⟩
      refine rA [6, 8] ?_
      refine rS 17 6 rfl (Ys_append (s := 3) (by' := 24) (i := 2) (nn := XImages.length) (c := c2) (k := 1) (len := (XImages ++ [(TPauli.mk 0 (shlK .i64 1 (i : Int)) 0)]).length) (B := B2) (xs := ([(TPauli.mk 0 (shlK .i64 1 (i : Int)) 0)].flatMap eN0)) (cs' := ((XImages ++ [(TPauli.mk 0 (shlK .i64 1 (i : Int)) 0)]).flatMap eN0)) hS172 K2 K0 K8 K5 rfl (by decide) rfl rfl rfl rfl (fm_lenn (l := XImages) eN1 rfl) rfl (hS172.c 5) (fm_lenn (l := [(TPauli.mk 0 (shlK .i64 1 (i : Int)) 0)]) eN1 rfl) (fm_one' (enc := eN0) eN3 [(TPauli.mk 0 (shlK .i64 1 (i : Int)) 0)]) (by have := hap; omega) (by have := hap; simp only [maxLen]; omega) (fm_app _ _) (app_len (l := XImages) (l' := [(TPauli.mk 0 (shlK .i64 1 (i : Int)) 0)]) rfl rfl)) ?_ ?_
      ·rintro _ w_167 ⟨B4, c4, rfl, hS173⟩
       refine ⟨(hS173.se [0]), ?_⟩
       refine rA [8] ?_
       refine ra_y 19 (i := 8) (v := .slice B3 ZImages.length c3) rfl rfl rfl (yl (aD b1) 2 [vi n, .slice B2 XImages.length c2, .slice B3 ZImages.length c3] (.slice B3 ZImages.length c3) K6 (hS173.c 1)) (hS173.se [0]) ?_ ?_
       ·skip
        refine rq 14 25 (v := pt (aD b1) 1) rfl (hS173.se [0]) (fun w' hw' => (yd (aD b1) 0 0 K9 K1 rfl (hf.g 3 1))) ?_
        refine rA [13] ?_
        refine rS 24 13 rfl (Ys_append (s := 3) (by' := 24) (i := 3) (nn := ZImages.length) (c := c3) (k := 1) (len := (ZImages ++ [(TPauli.mk 0 0 (shlK .i64 1 (i : Int)))]).length) (B := B3) (xs := ([(TPauli.mk 0 0 (shlK .i64 1 (i : Int)))].flatMap eN0)) (cs' := ((ZImages ++ [(TPauli.mk 0 0 (shlK .i64 1 (i : Int)))]).flatMap eN0)) hS173 K2 K0 K8 K5 rfl (by decide) rfl rfl rfl rfl (fm_lenn (l := ZImages) eN1 rfl) rfl (hS173.c 4) (fm_lenn (l := [(TPauli.mk 0 0 (shlK .i64 1 (i : Int)))]) eN1 rfl) (fm_one' (enc := eN0) eN3 [(TPauli.mk 0 0 (shlK .i64 1 (i : Int)))]) (by have := hap1; omega) (by have := hap1; simp only [maxLen]; omega) (fm_app _ _) (app_len (l := ZImages) (l' := [(TPauli.mk 0 0 (shlK .i64 1 (i : Int)))]) rfl rfl)) ?_ ?_
        ·rintro _ w_168 ⟨B5, c5, rfl, hS174⟩
         refine ⟨(hS174.se [0]), ?_⟩
         refine rA [15] ?_
         refine rZ 15 rfl (yS 1 1 (aD b1) 40 (.slice B4 ((XImages ++ [(TPauli.mk 0 (shlK .i64 1 (i : Int)) 0)]).length) c4) [.slice B4 ((XImages ++ [(TPauli.mk 0 (shlK .i64 1 (i : Int)) 0)]).length) c4] 1 [vi n, .slice B4 ((XImages ++ [(TPauli.mk 0 (shlK .i64 1 (i : Int)) 0)]).length) c4, .slice B3 ZImages.length c3] hS174 K1) ?_ ?_
         ·rintro _ w_169 ⟨rfl, hS175⟩
          refine ⟨(hS175.se [0]), ?_⟩
          refine rq 16 26 (v := pt (aD b1) 2) rfl (hS175.se [0]) (fun w' hw' => (yd (aD b1) 0 0 K11 K1 rfl (hf.g 3 1))) ?_
          refine rA [17] ?_
          refine rZ 17 rfl (yS 1 1 (aD b1) 40 (.slice B5 ((ZImages ++ [(TPauli.mk 0 0 (shlK .i64 1 (i : Int)))]).length) c5) [.slice B5 ((ZImages ++ [(TPauli.mk 0 0 (shlK .i64 1 (i : Int)))]).length) c5] 2 [vi n, .slice B4 ((XImages ++ [(TPauli.mk 0 (shlK .i64 1 (i : Int)) 0)]).length) c4, .slice B5 ((ZImages ++ [(TPauli.mk 0 0 (shlK .i64 1 (i : Int)))]).length) c5] hS175 K1) ?_ ?_
          ·rintro _ w_170 ⟨rfl, hS176⟩
           refine ⟨(hS176.se [0]), ?_⟩
           refine ra_done (by kernel_rfl) ?_
           exact ⟨B4, c4, B5, c5, (fc (hf.g 2 0) (fc (hf.g 3 1) (fc (hf.g 7 2) (fc (hf.g 8 3) fn_)))), (hS176.sel [0, 1, 2, 3] rfl rfl)⟩
          exact aN
         exact aN
        exact aN
       exact aN
      refine ra_y 19 (i := 8) (v := .slice B3 ZImages.length c3) rfl rfl rfl (yl (aD b1) 2 [vi n, .slice B2 XImages.length c2, .slice B3 ZImages.length c3] (.slice B3 ZImages.length c3) K6 (hS172.c 1)) (hS172.se [0]) ?_ ?_
      ·skip
       refine rA [6] ?_
       refine rS 17 6 rfl (Ys_append (s := 3) (by' := 24) (i := 2) (nn := XImages.length) (c := c2) (k := 1) (len := (XImages ++ [(TPauli.mk 0 (shlK .i64 1 (i : Int)) 0)]).length) (B := B2) (xs := ([(TPauli.mk 0 (shlK .i64 1 (i : Int)) 0)].flatMap eN0)) (cs' := ((XImages ++ [(TPauli.mk 0 (shlK .i64 1 (i : Int)) 0)]).flatMap eN0)) hS172 K2 K0 K8 K5 rfl (by decide) rfl rfl rfl rfl (fm_lenn (l := XImages) eN1 rfl) rfl (hS172.c 5) (fm_lenn (l := [(TPauli.mk 0 (shlK .i64 1 (i : Int)) 0)]) eN1 rfl) (fm_one' (enc := eN0) eN3 [(TPauli.mk 0 (shlK .i64 1 (i : Int)) 0)]) (by have := hap; omega) (by have := hap; simp only [maxLen]; omega) (fm_app _ _) (app_len (l := XImages) (l' := [(TPauli.mk 0 (shlK .i64 1 (i : Int)) 0)]) rfl rfl)) ?_ ?_
       ·rintro _ w_171 ⟨B4, c4, rfl, hS177⟩
        refine ⟨(hS177.se [0]), ?_⟩
        refine rq 14 25 (v := pt (aD b1) 1) rfl (hS177.se [0]) (fun w' hw' => (yd (aD b1) 0 0 K9 K1 rfl (hf.g 3 1))) ?_
        refine rA [13] ?_
        refine rS 24 13 rfl (Ys_append (s := 3) (by' := 24) (i := 3) (nn := ZImages.length) (c := c3) (k := 1) (len := (ZImages ++ [(TPauli.mk 0 0 (shlK .i64 1 (i : Int)))]).length) (B := B3) (xs := ([(TPauli.mk 0 0 (shlK .i64 1 (i : Int)))].flatMap eN0)) (cs' := ((ZImages ++ [(TPauli.mk 0 0 (shlK .i64 1 (i : Int)))]).flatMap eN0)) hS177 K2 K0 K8 K5 rfl (by decide) rfl rfl rfl rfl (fm_lenn (l := ZImages) eN1 rfl) rfl (hS177.c 4) (fm_lenn (l := [(TPauli.mk 0 0 (shlK .i64 1 (i : Int)))]) eN1 rfl) (fm_one' (enc := eN0) eN3 [(TPauli.mk 0 0 (shlK .i64 1 (i : Int)))]) (by have := hap1; omega) (by have := hap1; simp only [maxLen]; omega) (fm_app _ _) (app_len (l := ZImages) (l' := [(TPauli.mk 0 0 (shlK .i64 1 (i : Int)))]) rfl rfl)) ?_ ?_
        ·rintro _ w_172 ⟨B5, c5, rfl, hS178⟩
         refine ⟨(hS178.se [0]), ?_⟩
         refine rA [15] ?_
         refine rZ 15 rfl (yS 1 1 (aD b1) 40 (.slice B4 ((XImages ++ [(TPauli.mk 0 (shlK .i64 1 (i : Int)) 0)]).length) c4) [.slice B4 ((XImages ++ [(TPauli.mk 0 (shlK .i64 1 (i : Int)) 0)]).length) c4] 1 [vi n, .slice B4 ((XImages ++ [(TPauli.mk 0 (shlK .i64 1 (i : Int)) 0)]).length) c4, .slice B3 ZImages.length c3] hS178 K1) ?_ ?_
         ·rintro _ w_173 ⟨rfl, hS179⟩
          refine ⟨(hS179.se [0]), ?_⟩
          refine rq 16 26 (v := pt (aD b1) 2) rfl (hS179.se [0]) (fun w' hw' => (yd (aD b1) 0 0 K11 K1 rfl (hf.g 3 1))) ?_
          refine rA [17] ?_
          refine rZ 17 rfl (yS 1 1 (aD b1) 40 (.slice B5 ((ZImages ++ [(TPauli.mk 0 0 (shlK .i64 1 (i : Int)))]).length) c5) [.slice B5 ((ZImages ++ [(TPauli.mk 0 0 (shlK .i64 1 (i : Int)))]).length) c5] 2 [vi n, .slice B4 ((XImages ++ [(TPauli.mk 0 (shlK .i64 1 (i : Int)) 0)]).length) c4, .slice B5 ((ZImages ++ [(TPauli.mk 0 0 (shlK .i64 1 (i : Int)))]).length) c5] hS179 K1) ?_ ?_
          ·rintro _ w_174 ⟨rfl, hS180⟩
           refine ⟨(hS180.se [0]), ?_⟩
           refine ra_done (by kernel_rfl) ?_
           exact ⟨B4, c4, B5, c5, (fc (hf.g 2 0) (fc (hf.g 3 1) (fc (hf.g 7 2) (fc (hf.g 8 3) fn_)))), (hS180.sel [0, 1, 2, 3] rfl rfl)⟩
          exact aN
         exact aN
        exact aN
       exact aN
      exact aN
     refine ra_y 19 (i := 8) (v := .slice B3 ZImages.length c3) rfl rfl rfl (yl (aD b1) 2 [vi n, .slice B2 XImages.length c2, .slice B3 ZImages.length c3] (.slice B3 ZImages.length c3) K6 (hS171.c 1)) (hS171.se [0]) ?_ ?_
     ·skip
      refine rA [5] ?_
      refine rS 16 5 rfl (Ys_bslice (s := 3) (len := 1) (vs := [(0, .agg #[vi 0, vi (shlK .i64 1 (i : Int)), vi 0])]) (cs := [vi 0, vi (shlK .i64 1 (i : Int)), vi 0]) (zs := [vi 0, vi 0, vi 0]) (m := 3) hS171 K2 K0 K12 rfl (mpc rfl mpn) rfl rfl rfl (by kernel_rfl) (by kernel_rfl) rfl) ?_ ?_
      ·rintro _ w_175 ⟨b2, rfl, hS181⟩
       refine ⟨(hS181.se [0]), ?_⟩
       refine rA [6] ?_
       refine rS 17 6 rfl (Ys_append (s := 3) (by' := 24) (i := 2) (nn := XImages.length) (c := c2) (k := 1) (len := (XImages ++ [(TPauli.mk 0 (shlK .i64 1 (i : Int)) 0)]).length) (B := B2) (xs := ([(TPauli.mk 0 (shlK .i64 1 (i : Int)) 0)].flatMap eN0)) (cs' := ((XImages ++ [(TPauli.mk 0 (shlK .i64 1 (i : Int)) 0)]).flatMap eN0)) hS181 K2 K0 K8 K5 rfl (by decide) rfl rfl rfl rfl (fm_lenn (l := XImages) eN1 rfl) rfl (hS181.c 5) (fm_lenn (l := [(TPauli.mk 0 (shlK .i64 1 (i : Int)) 0)]) eN1 rfl) (fm_one' (enc := eN0) eN3 [(TPauli.mk 0 (shlK .i64 1 (i : Int)) 0)]) (by have := hap; omega) (by have := hap; simp only [maxLen]; omega) (fm_app _ _) (app_len (l := XImages) (l' := [(TPauli.mk 0 (shlK .i64 1 (i : Int)) 0)]) rfl rfl)) ?_ ?_
       ·rintro _ w_176 ⟨B4, c4, rfl, hS182⟩
        refine ⟨(hS182.se [0]), ?_⟩
        refine rq 14 25 (v := pt (aD b1) 1) rfl (hS182.se [0]) (fun w' hw' => (yd (aD b1) 0 0 K9 K1 rfl (hf.g 3 1))) ?_
        refine rA [13] ?_
        refine rS 24 13 rfl (Ys_append (s := 3) (by' := 24) (i := 3) (nn := ZImages.length) (c := c3) (k := 1) (len := (ZImages ++ [(TPauli.mk 0 0 (shlK .i64 1 (i : Int)))]).length) (B := B3) (xs := ([(TPauli.mk 0 0 (shlK .i64 1 (i : Int)))].flatMap eN0)) (cs' := ((ZImages ++ [(TPauli.mk 0 0 (shlK .i64 1 (i : Int)))]).flatMap eN0)) hS182 K2 K0 K8 K5 rfl (by decide) rfl rfl rfl rfl (fm_lenn (l := ZImages) eN1 rfl) rfl (hS182.c 4) (fm_lenn (l := [(TPauli.mk 0 0 (shlK .i64 1 (i : Int)))]) eN1 rfl) (fm_one' (enc := eN0) eN3 [(TPauli.mk 0 0 (shlK .i64 1 (i : Int)))]) (by have := hap1; omega) (by have := hap1; simp only [maxLen]; omega) (fm_app _ _) (app_len (l := ZImages) (l' := [(TPauli.mk 0 0 (shlK .i64 1 (i : Int)))]) rfl rfl)) ?_ ?_
        ·rintro _ w_177 ⟨B5, c5, rfl, hS183⟩
         refine ⟨(hS183.se [0]), ?_⟩
         refine rA [15] ?_
         refine rZ 15 rfl (yS 1 1 (aD b1) 40 (.slice B4 ((XImages ++ [(TPauli.mk 0 (shlK .i64 1 (i : Int)) 0)]).length) c4) [.slice B4 ((XImages ++ [(TPauli.mk 0 (shlK .i64 1 (i : Int)) 0)]).length) c4] 1 [vi n, .slice B4 ((XImages ++ [(TPauli.mk 0 (shlK .i64 1 (i : Int)) 0)]).length) c4, .slice B3 ZImages.length c3] hS183 K1) ?_ ?_
         ·rintro _ w_178 ⟨rfl, hS184⟩
          refine ⟨(hS184.se [0]), ?_⟩
          refine rq 16 26 (v := pt (aD b1) 2) rfl (hS184.se [0]) (fun w' hw' => (yd (aD b1) 0 0 K11 K1 rfl (hf.g 3 1))) ?_
          refine rA [17] ?_
          refine rZ 17 rfl (yS 1 1 (aD b1) 40 (.slice B5 ((ZImages ++ [(TPauli.mk 0 0 (shlK .i64 1 (i : Int)))]).length) c5) [.slice B5 ((ZImages ++ [(TPauli.mk 0 0 (shlK .i64 1 (i : Int)))]).length) c5] 2 [vi n, .slice B4 ((XImages ++ [(TPauli.mk 0 (shlK .i64 1 (i : Int)) 0)]).length) c4, .slice B5 ((ZImages ++ [(TPauli.mk 0 0 (shlK .i64 1 (i : Int)))]).length) c5] hS184 K1) ?_ ?_
          ·rintro _ w_179 ⟨rfl, hS185⟩
           refine ⟨(hS185.se [0]), ?_⟩
           refine ra_done (by kernel_rfl) ?_
           exact ⟨B4, c4, B5, c5, (fc (hf.g 2 0) (fc (hf.g 3 1) (fc (hf.g 7 2) (fc (hf.g 8 3) fn_)))), (hS185.sel [0, 1, 2, 3] rfl rfl)⟩
          exact aN
         exact aN
        exact aN
       exact aN
      exact aN
     exact aN
    refine rS 16 5 rfl (Ys_bslice (s := 3) (len := 1) (vs := [(0, .agg #[vi 0, vi (shlK .i64 1 (i : Int)), vi 0])]) (cs := [vi 0, vi (shlK .i64 1 (i : Int)), vi 0]) (zs := [vi 0, vi 0, vi 0]) (m := 3) hS171 K2 K0 K12 rfl (mpc rfl mpn) rfl rfl rfl (by kernel_rfl) (by kernel_rfl) rfl) ?_ ?_
    ·rintro _ w_180 ⟨b2, rfl, hS186⟩
     have hS186 : ST w0 [] _ [⟨aD b, 40, [vi 0, .slice none 0 0, .slice none 0 0], 3⟩, ⟨aD b1, 40, [vi n, .slice B2 XImages.length c2, .slice B3 ZImages.length c3], 3⟩, ⟨B2, 71, (XImages.flatMap eN0), c2 * 3⟩, ⟨B3, 71, (ZImages.flatMap eN0), c3 * 3⟩, ⟨aD b3, 71, ([(TPauli.mk 0 0 (shlK .i64 1 (i : Int)))].flatMap eN0), 1 * 3⟩, ⟨aD b2, 71, ([(TPauli.mk 0 (shlK .i64 1 (i : Int)) 0)].flatMap eN0), 1 * 3⟩] [] := hS186
     refine ⟨(hS186.se [0]), ?_⟩
     refine rA [1, 8] ?_
     refine ra_y 12 (i := 1) (v := .slice B2 XImages.length c2) rfl rfl rfl (yl (aD b1) 1 [vi n, .slice B2 XImages.length c2, .slice B3 ZImages.length c3] (.slice B2 XImages.length c2) K6 (hS186.c 1)) (hS186.se [0]) ?_ ?_
     ·skip
      refine rA [6, 8] ?_
      refine rS 17 6 rfl (Ys_append (s := 3) (by' := 24) (i := 2) (nn := XImages.length) (c := c2) (k := 1) (len := (XImages ++ [(TPauli.mk 0 (shlK .i64 1 (i : Int)) 0)]).length) (B := B2) (xs := ([(TPauli.mk 0 (shlK .i64 1 (i : Int)) 0)].flatMap eN0)) (cs' := ((XImages ++ [(TPauli.mk 0 (shlK .i64 1 (i : Int)) 0)]).flatMap eN0)) hS186 K2 K0 K8 K5 rfl (by decide) rfl rfl rfl rfl (fm_lenn (l := XImages) eN1 rfl) rfl (hS186.c 5) (fm_lenn (l := [(TPauli.mk 0 (shlK .i64 1 (i : Int)) 0)]) eN1 rfl) (fm_one' (enc := eN0) eN3 [(TPauli.mk 0 (shlK .i64 1 (i : Int)) 0)]) (by have := hap; omega) (by have := hap; simp only [maxLen]; omega) (fm_app _ _) (app_len (l := XImages) (l' := [(TPauli.mk 0 (shlK .i64 1 (i : Int)) 0)]) rfl rfl)) ?_ ?_
      ·rintro _ w_181 ⟨B4, c4, rfl, hS187⟩
       refine ⟨(hS187.se [0]), ?_⟩
       refine rA [8] ?_
       refine ra_y 19 (i := 8) (v := .slice B3 ZImages.length c3) rfl rfl rfl (yl (aD b1) 2 [vi n, .slice B2 XImages.length c2, .slice B3 ZImages.length c3] (.slice B3 ZImages.length c3) K6 (hS187.c 1)) (hS187.se [0]) ?_ ?_
       ·skip
        refine rq 14 25 (v := pt (aD b1) 1) rfl (hS187.se [0]) (fun w' hw' => (yd (aD b1) 0 0 K9 K1 rfl (hf.g 3 1))) ?_
        refine rA [13] ?_
        refine rS 24 13 rfl (Ys_append (s := 3) (by' := 24) (i := 3) (nn := ZImages.length) (c := c3) (k := 1) (len := (ZImages ++ [(TPauli.mk 0 0 (shlK .i64 1 (i : Int)))]).length) (B := B3) (xs := ([(TPauli.mk 0 0 (shlK .i64 1 (i : Int)))].flatMap eN0)) (cs' := ((ZImages ++ [(TPauli.mk 0 0 (shlK .i64 1 (i : Int)))]).flatMap eN0)) hS187 K2 K0 K8 K5 rfl (by decide) rfl rfl rfl rfl (fm_lenn (l := ZImages) eN1 rfl) rfl (hS187.c 4) (fm_lenn (l := [(TPauli.mk 0 0 (shlK .i64 1 (i : Int)))]) eN1 rfl) (fm_one' (enc := eN0) eN3 [(TPauli.mk 0 0 (shlK .i64 1 (i : Int)))]) (by have := hap1; omega) (by have := hap1; simp only [maxLen]; omega) (fm_app _ _) (app_len (l := ZImages) (l' := [(TPauli.mk 0 0 (shlK .i64 1 (i : Int)))]) rfl rfl)) ?_ ?_
        ·rintro _ w_182 ⟨B5, c5, rfl, hS188⟩
         refine ⟨(hS188.se [0]), ?_⟩
         refine rA [15] ?_
         refine rZ 15 rfl (yS 1 1 (aD b1) 40 (.slice B4 ((XImages ++ [(TPauli.mk 0 (shlK .i64 1 (i : Int)) 0)]).length) c4) [.slice B4 ((XImages ++ [(TPauli.mk 0 (shlK .i64 1 (i : Int)) 0)]).length) c4] 1 [vi n, .slice B4 ((XImages ++ [(TPauli.mk 0 (shlK .i64 1 (i : Int)) 0)]).length) c4, .slice B3 ZImages.length c3] hS188 K1) ?_ ?_
         ·rintro _ w_183 ⟨rfl, hS189⟩
          refine ⟨(hS189.se [0]), ?_⟩
          refine rq 16 26 (v := pt (aD b1) 2) rfl (hS189.se [0]) (fun w' hw' => (yd (aD b1) 0 0 K11 K1 rfl (hf.g 3 1))) ?_
          refine rA [17] ?_
          refine rZ 17 rfl (yS 1 1 (aD b1) 40 (.slice B5 ((ZImages ++ [(TPauli.mk 0 0 (shlK .i64 1 (i : Int)))]).length) c5) [.slice B5 ((ZImages ++ [(TPauli.mk 0 0 (shlK .i64 1 (i : Int)))]).length) c5] 2 [vi n, .slice B4 ((XImages ++ [(TPauli.mk 0 (shlK .i64 1 (i : Int)) 0)]).length) c4, .slice B5 ((ZImages ++ [(TPauli.mk 0 0 (shlK .i64 1 (i : Int)))]).length) c5] hS189 K1) ?_ ?_
          ·rintro _ w_184 ⟨rfl, hS190⟩
           refine ⟨(hS190.se [0]), ?_⟩
           refine ra_done (by kernel_rfl) ?_
           exact ⟨B4, c4, B5, c5, (fc (hf.g 2 0) (fc (hf.g 3 1) (fc (hf.g 7 2) (fc (hf.g 8 3) fn_)))), (hS190.sel [0, 1, 2, 3] rfl rfl)⟩
          exact aN
         exact aN
        exact aN
       exact aN
      refine ra_y 19 (i := 8) (v := .slice B3 ZImages.length c3) rfl rfl rfl (yl (aD b1) 2 [vi n, .slice B2 XImages.length c2, .slice B3 ZImages.length c3] (.slice B3 ZImages.length c3) K6 (hS186.c 1)) (hS186.se [0]) ?_ ?_
      ·skip
       refine rA [6] ?_
       refine rS 17 6 rfl (Ys_append (s := 3) (by' := 24) (i := 2) (nn := XImages.length) (c := c2) (k := 1) (len := (XImages ++ [(TPauli.mk 0 (shlK .i64 1 (i : Int)) 0)]).length) (B := B2) (xs := ([(TPauli.mk 0 (shlK .i64 1 (i : Int)) 0)].flatMap eN0)) (cs' := ((XImages ++ [(TPauli.mk 0 (shlK .i64 1 (i : Int)) 0)]).flatMap eN0)) hS186 K2 K0 K8 K5 rfl (by decide) rfl rfl rfl rfl (fm_lenn (l := XImages) eN1 rfl) rfl (hS186.c 5) (fm_lenn (l := [(TPauli.mk 0 (shlK .i64 1 (i : Int)) 0)]) eN1 rfl) (fm_one' (enc := eN0) eN3 [(TPauli.mk 0 (shlK .i64 1 (i : Int)) 0)]) (by have := hap; omega) (by have := hap; simp only [maxLen]; omega) (fm_app _ _) (app_len (l := XImages) (l' := [(TPauli.mk 0 (shlK .i64 1 (i : Int)) 0)]) rfl rfl)) ?_ ?_
       ·rintro _ w_185 ⟨B4, c4, rfl, hS191⟩
        refine ⟨(hS191.se [0]), ?_⟩
        refine rq 14 25 (v := pt (aD b1) 1) rfl (hS191.se [0]) (fun w' hw' => (yd (aD b1) 0 0 K9 K1 rfl (hf.g 3 1))) ?_
        refine rA [13] ?_
        refine rS 24 13 rfl (Ys_append (s := 3) (by' := 24) (i := 3) (nn := ZImages.length) (c := c3) (k := 1) (len := (ZImages ++ [(TPauli.mk 0 0 (shlK .i64 1 (i : Int)))]).length) (B := B3) (xs := ([(TPauli.mk 0 0 (shlK .i64 1 (i : Int)))].flatMap eN0)) (cs' := ((ZImages ++ [(TPauli.mk 0 0 (shlK .i64 1 (i : Int)))]).flatMap eN0)) hS191 K2 K0 K8 K5 rfl (by decide) rfl rfl rfl rfl (fm_lenn (l := ZImages) eN1 rfl) rfl (hS191.c 4) (fm_lenn (l := [(TPauli.mk 0 0 (shlK .i64 1 (i : Int)))]) eN1 rfl) (fm_one' (enc := eN0) eN3 [(TPauli.mk 0 0 (shlK .i64 1 (i : Int)))]) (by have := hap1; omega) (by have := hap1; simp only [maxLen]; omega) (fm_app _ _) (app_len (l := ZImages) (l' := [(TPauli.mk 0 0 (shlK .i64 1 (i : Int)))]) rfl rfl)) ?_ ?_
        ·rintro _ w_186 ⟨B5, c5, rfl, hS192⟩
         refine ⟨(hS192.se [0]), ?_⟩
         refine rA [15] ?_
         refine rZ 15 rfl (yS 1 1 (aD b1) 40 (.slice B4 ((XImages ++ [(TPauli.mk 0 (shlK .i64 1 (i : Int)) 0)]).length) c4) [.slice B4 ((XImages ++ [(TPauli.mk 0 (shlK .i64 1 (i : Int)) 0)]).length) c4] 1 [vi n, .slice B4 ((XImages ++ [(TPauli.mk 0 (shlK .i64 1 (i : Int)) 0)]).length) c4, .slice B3 ZImages.length c3] hS192 K1) ?_ ?_
         ·rintro _ w_187 ⟨rfl, hS193⟩
          refine ⟨(hS193.se [0]), ?_⟩
          refine rq 16 26 (v := pt (aD b1) 2) rfl (hS193.se [0]) (fun w' hw' => (yd (aD b1) 0 0 K11 K1 rfl (hf.g 3 1))) ?_
          refine rA [17] ?_
          refine rZ 17 rfl (yS 1 1 (aD b1) 40 (.slice B5 ((ZImages ++ [(TPauli.mk 0 0 (shlK .i64 1 (i : Int)))]).length) c5) [.slice B5 ((ZImages ++ [(TPauli.mk 0 0 (shlK .i64 1 (i : Int)))]).length) c5] 2 [vi n, .slice B4 ((XImages ++ [(TPauli.mk 0 (shlK .i64 1 (i : Int)) 0)]).length) c4, .slice B5 ((ZImages ++ [(TPauli.mk 0 0 (shlK .i64 1 (i : Int)))]).length) c5] hS193 K1) ?_ ?_
          ·rintro _ w_188 ⟨rfl, hS194⟩
           refine ⟨(hS194.se [0]), ?_⟩
           refine ra_done (by kernel_rfl) ?_
           exact ⟨B4, c4, B5, c5, (fc (hf.g 2 0) (fc (hf.g 3 1) (fc (hf.g 7 2) (fc (hf.g 8 3) fn_)))), (hS194.sel [0, 1, 2, 3] rfl rfl)⟩
          exact aN
         exact aN
        exact aN
       exact aN
      exact aN
     refine ra_y 19 (i := 8) (v := .slice B3 ZImages.length c3) rfl rfl rfl (yl (aD b1) 2 [vi n, .slice B2 XImages.length c2, .slice B3 ZImages.length c3] (.slice B3 ZImages.length c3) K6 (hS186.c 1)) (hS186.se [0]) ?_ ?_
     ·skip
      refine rA [1] ?_
      refine ra_y 12 (i := 1) (v := .slice B2 XImages.length c2) rfl rfl rfl (yl (aD b1) 1 [vi n, .slice B2 XImages.length c2, .slice B3 ZImages.length c3] (.slice B2 XImages.length c2) K6 (hS186.c 1)) (hS186.se [0]) ?_ ?_
      ·skip
       refine rA [6] ?_
       refine rS 17 6 rfl (Ys_append (s := 3) (by' := 24) (i := 2) (nn := XImages.length) (c := c2) (k := 1) (len := (XImages ++ [(TPauli.mk 0 (shlK .i64 1 (i : Int)) 0)]).length) (B := B2) (xs := ([(TPauli.mk 0 (shlK .i64 1 (i : Int)) 0)].flatMap eN0)) (cs' := ((XImages ++ [(TPauli.mk 0 (shlK .i64 1 (i : Int)) 0)]).flatMap eN0)) hS186 K2 K0 K8 K5 rfl (by decide) rfl rfl rfl rfl (fm_lenn (l := XImages) eN1 rfl) rfl (hS186.c 5) (fm_lenn (l := [(TPauli.mk 0 (shlK .i64 1 (i : Int)) 0)]) eN1 rfl) (fm_one' (enc := eN0) eN3 [(TPauli.mk 0 (shlK .i64 1 (i : Int)) 0)]) (by have := hap; omega) (by have := hap; simp only [maxLen]; omega) (fm_app _ _) (app_len (l := XImages) (l' := [(TPauli.mk 0 (shlK .i64 1 (i : Int)) 0)]) rfl rfl)) ?_ ?_
       ·rintro _ w_189 ⟨B4, c4, rfl, hS195⟩
        refine ⟨(hS195.se [0]), ?_⟩
        refine rq 14 25 (v := pt (aD b1) 1) rfl (hS195.se [0]) (fun w' hw' => (yd (aD b1) 0 0 K9 K1 rfl (hf.g 3 1))) ?_
        refine rA [13] ?_
        refine rS 24 13 rfl (Ys_append (s := 3) (by' := 24) (i := 3) (nn := ZImages.length) (c := c3) (k := 1) (len := (ZImages ++ [(TPauli.mk 0 0 (shlK .i64 1 (i : Int)))]).length) (B := B3) (xs := ([(TPauli.mk 0 0 (shlK .i64 1 (i : Int)))].flatMap eN0)) (cs' := ((ZImages ++ [(TPauli.mk 0 0 (shlK .i64 1 (i : Int)))]).flatMap eN0)) hS195 K2 K0 K8 K5 rfl (by decide) rfl rfl rfl rfl (fm_lenn (l := ZImages) eN1 rfl) rfl (hS195.c 4) (fm_lenn (l := [(TPauli.mk 0 0 (shlK .i64 1 (i : Int)))]) eN1 rfl) (fm_one' (enc := eN0) eN3 [(TPauli.mk 0 0 (shlK .i64 1 (i : Int)))]) (by have := hap1; omega) (by have := hap1; simp only [maxLen]; omega) (fm_app _ _) (app_len (l := ZImages) (l' := [(TPauli.mk 0 0 (shlK .i64 1 (i : Int)))]) rfl rfl)) ?_ ?_
        ·rintro _ w_190 ⟨B5, c5, rfl, hS196⟩
         refine ⟨(hS196.se [0]), ?_⟩
         refine rA [15] ?_
         refine rZ 15 rfl (yS 1 1 (aD b1) 40 (.slice B4 ((XImages ++ [(TPauli.mk 0 (shlK .i64 1 (i : Int)) 0)]).length) c4) [.slice B4 ((XImages ++ [(TPauli.mk 0 (shlK .i64 1 (i : Int)) 0)]).length) c4] 1 [vi n, .slice B4 ((XImages ++ [(TPauli.mk 0 (shlK .i64 1 (i : Int)) 0)]).length) c4, .slice B3 ZImages.length c3] hS196 K1) ?_ ?_
         ·rintro _ w_191 ⟨rfl, hS197⟩
          refine ⟨(hS197.se [0]), ?_⟩
          refine rq 16 26 (v := pt (aD b1) 2) rfl (hS197.se [0]) (fun w' hw' => (yd (aD b1) 0 0 K11 K1 rfl (hf.g 3 1))) ?_
          refine rA [17] ?_
          refine rZ 17 rfl (yS 1 1 (aD b1) 40 (.slice B5 ((ZImages ++ [(TPauli.mk 0 0 (shlK .i64 1 (i : Int)))]).length) c5) [.slice B5 ((ZImages ++ [(TPauli.mk 0 0 (shlK .i64 1 (i : Int)))]).length) c5] 2 [vi n, .slice B4 ((XImages ++ [(TPauli.mk 0 (shlK .i64 1 (i : Int)) 0)]).length) c4, .slice B5 ((ZImages ++ [(TPauli.mk 0 0 (shlK .i64 1 (i : Int)))]).length) c5] hS197 K1) ?_ ?_
          ·rintro _ w_192 ⟨rfl, hS198⟩
           refine ⟨(hS198.se [0]), ?_⟩
           refine ra_done (by kernel_rfl) ?_
           exact ⟨B4, c4, B5, c5, (fc (hf.g 2 0) (fc (hf.g 3 1) (fc (hf.g 7 2) (fc (hf.g 8 3) fn_)))), (hS198.sel [0, 1, 2, 3] rfl rfl)⟩
          exact aN
         exact aN
        exact aN
       exact aN
      exact aN
     exact aN
    refine ra_y 19 (i := 8) (v := .slice B3 ZImages.length c3) rfl rfl rfl (yl (aD b1) 2 [vi n, .slice B2 XImages.length c2, .slice B3 ZImages.length c3] (.slice B3 ZImages.length c3) K6 (hS171.c 1)) (hS171.se [0]) ?_ ?_
    ·skip
     refine rA [1, 5] ?_
     refine ra_y 12 (i := 1) (v := .slice B2 XImages.length c2) rfl rfl rfl (yl (aD b1) 1 [vi n, .slice B2 XImages.length c2, .slice B3 ZImages.length c3] (.slice B2 XImages.length c2) K6 (hS171.c 1)) (hS171.se [0]) ?_ ?_
     ·skip
      refine rA [5] ?_
      refine rS 16 5 rfl (Ys_bslice (s := 3) (len := 1) (vs := [(0, .agg #[vi 0, vi (shlK .i64 1 (i : Int)), vi 0])]) (cs := [vi 0, vi (shlK .i64 1 (i : Int)), vi 0]) (zs := [vi 0, vi 0, vi 0]) (m := 3) hS171 K2 K0 K12 rfl (mpc rfl mpn) rfl rfl rfl (by kernel_rfl) (by kernel_rfl) rfl) ?_ ?_
      ·rintro _ w_193 ⟨b2, rfl, hS199⟩
       refine ⟨(hS199.se [0]), ?_⟩
       refine rA [6] ?_
       refine rS 17 6 rfl (Ys_append (s := 3) (by' := 24) (i := 2) (nn := XImages.length) (c := c2) (k := 1) (len := (XImages ++ [(TPauli.mk 0 (shlK .i64 1 (i : Int)) 0)]).length) (B := B2) (xs := ([(TPauli.mk 0 (shlK .i64 1 (i : Int)) 0)].flatMap eN0)) (cs' := ((XImages ++ [(TPauli.mk 0 (shlK .i64 1 (i : Int)) 0)]).flatMap eN0)) hS199 K2 K0 K8 K5 rfl (by decide) rfl rfl rfl rfl (fm_lenn (l := XImages) eN1 rfl) rfl (hS199.c 5) (fm_lenn (l := [(TPauli.mk 0 (shlK .i64 1 (i : Int)) 0)]) eN1 rfl) (fm_one' (enc := eN0) eN3 [(TPauli.mk 0 (shlK .i64 1 (i : Int)) 0)]) (by have := hap; omega) (by have := hap; simp only [maxLen]; omega) (fm_app _ _) (app_len (l := XImages) (l' := [(TPauli.mk 0 (shlK .i64 1 (i : Int)) 0)]) rfl rfl)) ?_ ?_
       ·rintro _ w_194 ⟨B4, c4, rfl, hS200⟩
        refine ⟨(hS200.se [0]), ?_⟩
        refine rq 14 25 (v := pt (aD b1) 1) rfl (hS200.se [0]) (fun w' hw' => (yd (aD b1) 0 0 K9 K1 rfl (hf.g 3 1))) ?_
        refine rA [13] ?_
        refine rS 24 13 rfl (Ys_append (s := 3) (by' := 24) (i := 3) (nn := ZImages.length) (c := c3) (k := 1) (len := (ZImages ++ [(TPauli.mk 0 0 (shlK .i64 1 (i : Int)))]).length) (B := B3) (xs := ([(TPauli.mk 0 0 (shlK .i64 1 (i : Int)))].flatMap eN0)) (cs' := ((ZImages ++ [(TPauli.mk 0 0 (shlK .i64 1 (i : Int)))]).flatMap eN0)) hS200 K2 K0 K8 K5 rfl (by decide) rfl rfl rfl rfl (fm_lenn (l := ZImages) eN1 rfl) rfl (hS200.c 4) (fm_lenn (l := [(TPauli.mk 0 0 (shlK .i64 1 (i : Int)))]) eN1 rfl) (fm_one' (enc := eN0) eN3 [(TPauli.mk 0 0 (shlK .i64 1 (i : Int)))]) (by have := hap1; omega) (by have := hap1; simp only [maxLen]; omega) (fm_app _ _) (app_len (l := ZImages) (l' := [(TPauli.mk 0 0 (shlK .i64 1 (i : Int)))]) rfl rfl)) ?_ ?_
        ·rintro _ w_195 ⟨B5, c5, rfl, hS201⟩
         refine ⟨(hS201.se [0]), ?_⟩
         refine rA [15] ?_
         refine rZ 15 rfl (yS 1 1 (aD b1) 40 (.slice B4 ((XImages ++ [(TPauli.mk 0 (shlK .i64 1 (i : Int)) 0)]).length) c4) [.slice B4 ((XImages ++ [(TPauli.mk 0 (shlK .i64 1 (i : Int)) 0)]).length) c4] 1 [vi n, .slice B4 ((XImages ++ [(TPauli.mk 0 (shlK .i64 1 (i : Int)) 0)]).length) c4, .slice B3 ZImages.length c3] hS201 K1) ?_ ?_
         ·rintro _ w_196 ⟨rfl, hS202⟩
          refine ⟨(hS202.se [0]), ?_⟩
          refine rq 16 26 (v := pt (aD b1) 2) rfl (hS202.se [0]) (fun w' hw' => (yd (aD b1) 0 0 K11 K1 rfl (hf.g 3 1))) ?_
          refine rA [17] ?_
          refine rZ 17 rfl (yS 1 1 (aD b1) 40 (.slice B5 ((ZImages ++ [(TPauli.mk 0 0 (shlK .i64 1 (i : Int)))]).length) c5) [.slice B5 ((ZImages ++ [(TPauli.mk 0 0 (shlK .i64 1 (i : Int)))]).length) c5] 2 [vi n, .slice B4 ((XImages ++ [(TPauli.mk 0 (shlK .i64 1 (i : Int)) 0)]).length) c4, .slice B5 ((ZImages ++ [(TPauli.mk 0 0 (shlK .i64 1 (i : Int)))]).length) c5] hS202 K1) ?_ ?_
          ·rintro _ w_197 ⟨rfl, hS203⟩
           refine ⟨(hS203.se [0]), ?_⟩
           refine ra_done (by kernel_rfl) ?_
           exact ⟨B4, c4, B5, c5, (fc (hf.g 2 0) (fc (hf.g 3 1) (fc (hf.g 7 2) (fc (hf.g 8 3) fn_)))), (hS203.sel [0, 1, 2, 3] rfl rfl)⟩
          exact aN
         exact aN
        exact aN
       exact aN
      exact aN
     refine rS 16 5 rfl (Ys_bslice (s := 3) (len := 1) (vs := [(0, .agg #[vi 0, vi (shlK .i64 1 (i : Int)), vi 0])]) (cs := [vi 0, vi (shlK .i64 1 (i : Int)), vi 0]) (zs := [vi 0, vi 0, vi 0]) (m := 3) hS171 K2 K0 K12 rfl (mpc rfl mpn) rfl rfl rfl (by kernel_rfl) (by kernel_rfl) rfl) ?_ ?_
     ·rintro _ w_198 ⟨b2, rfl, hS204⟩
      refine ⟨(hS204.se [0]), ?_⟩
      refine rA [1] ?_
      refine ra_y 12 (i := 1) (v := .slice B2 XImages.length c2) rfl rfl rfl (yl (aD b1) 1 [vi n, .slice B2 XImages.length c2, .slice B3 ZImages.length c3] (.slice B2 XImages.length c2) K6 (hS204.c 1)) (hS204.se [0]) ?_ ?_
      ·skip
       refine rA [6] ?_
       refine rS 17 6 rfl (Ys_append (s := 3) (by' := 24) (i := 2) (nn := XImages.length) (c := c2) (k := 1) (len := (XImages ++ [(TPauli.mk 0 (shlK .i64 1 (i : Int)) 0)]).length) (B := B2) (xs := ([(TPauli.mk 0 (shlK .i64 1 (i : Int)) 0)].flatMap eN0)) (cs' := ((XImages ++ [(TPauli.mk 0 (shlK .i64 1 (i : Int)) 0)]).flatMap eN0)) hS204 K2 K0 K8 K5 rfl (by decide) rfl rfl rfl rfl (fm_lenn (l := XImages) eN1 rfl) rfl (hS204.c 5) (fm_lenn (l := [(TPauli.mk 0 (shlK .i64 1 (i : Int)) 0)]) eN1 rfl) (fm_one' (enc := eN0) eN3 [(TPauli.mk 0 (shlK .i64 1 (i : Int)) 0)]) (by have := hap; omega) (by have := hap; simp only [maxLen]; omega) (fm_app _ _) (app_len (l := XImages) (l' := [(TPauli.mk 0 (shlK .i64 1 (i : Int)) 0)]) rfl rfl)) ?_ ?_
       ·rintro _ w_199 ⟨B4, c4, rfl, hS205⟩
        refine ⟨(hS205.se [0]), ?_⟩
        refine rq 14 25 (v := pt (aD b1) 1) rfl (hS205.se [0]) (fun w' hw' => (yd (aD b1) 0 0 K9 K1 rfl (hf.g 3 1))) ?_
        refine rA [13] ?_
        refine rS 24 13 rfl (Ys_append (s := 3) (by' := 24) (i := 3) (nn := ZImages.length) (c := c3) (k := 1) (len := (ZImages ++ [(TPauli.mk 0 0 (shlK .i64 1 (i : Int)))]).length) (B := B3) (xs := ([(TPauli.mk 0 0 (shlK .i64 1 (i : Int)))].flatMap eN0)) (cs' := ((ZImages ++ [(TPauli.mk 0 0 (shlK .i64 1 (i : Int)))]).flatMap eN0)) hS205 K2 K0 K8 K5 rfl (by decide) rfl rfl rfl rfl (fm_lenn (l := ZImages) eN1 rfl) rfl (hS205.c 4) (fm_lenn (l := [(TPauli.mk 0 0 (shlK .i64 1 (i : Int)))]) eN1 rfl) (fm_one' (enc := eN0) eN3 [(TPauli.mk 0 0 (shlK .i64 1 (i : Int)))]) (by have := hap1; omega) (by have := hap1; simp only [maxLen]; omega) (fm_app _ _) (app_len (l := ZImages) (l' := [(TPauli.mk 0 0 (shlK .i64 1 (i : Int)))]) rfl rfl)) ?_ ?_
        ·rintro _ w_200 ⟨B5, c5, rfl, hS206⟩
         refine ⟨(hS206.se [0]), ?_⟩
         refine rA [15] ?_
         refine rZ 15 rfl (yS 1 1 (aD b1) 40 (.slice B4 ((XImages ++ [(TPauli.mk 0 (shlK .i64 1 (i : Int)) 0)]).length) c4) [.slice B4 ((XImages ++ [(TPauli.mk 0 (shlK .i64 1 (i : Int)) 0)]).length) c4] 1 [vi n, .slice B4 ((XImages ++ [(TPauli.mk 0 (shlK .i64 1 (i : Int)) 0)]).length) c4, .slice B3 ZImages.length c3] hS206 K1) ?_ ?_
         ·rintro _ w_201 ⟨rfl, hS207⟩
          refine ⟨(hS207.se [0]), ?_⟩
          refine rq 16 26 (v := pt (aD b1) 2) rfl (hS207.se [0]) (fun w' hw' => (yd (aD b1) 0 0 K11 K1 rfl (hf.g 3 1))) ?_
          refine rA [17] ?_
          refine rZ 17 rfl (yS 1 1 (aD b1) 40 (.slice B5 ((ZImages ++ [(TPauli.mk 0 0 (shlK .i64 1 (i : Int)))]).length) c5) [.slice B5 ((ZImages ++ [(TPauli.mk 0 0 (shlK .i64 1 (i : Int)))]).length) c5] 2 [vi n, .slice B4 ((XImages ++ [(TPauli.mk 0 (shlK .i64 1 (i : Int)) 0)]).length) c4, .slice B5 ((ZImages ++ [(TPauli.mk 0 0 (shlK .i64 1 (i : Int)))]).length) c5] hS207 K1) ?_ ?_
          ·rintro _ w_202 ⟨rfl, hS208⟩
           refine ⟨(hS208.se [0]), ?_⟩
           refine ra_done (by kernel_rfl) ?_
           exact ⟨B4, c4, B5, c5, (fc (hf.g 2 0) (fc (hf.g 3 1) (fc (hf.g 7 2) (fc (hf.g 8 3) fn_)))), (hS208.sel [0, 1, 2, 3] rfl rfl)⟩
          exact aN
         exact aN
        exact aN
       exact aN
      exact aN
     exact aN
    exact aN
   exact aN
  rintro f w ⟨B6, c6, B7, c7, hf1, hS7⟩
  refine cr ?_
  refine sQ 27 (yP (i : Int) 1 rfl (hf1.g 8 3)) <| sQ 8 (ym (vi (i64.wrap ((i : Int) + 1)))) (rn ?_)
  obtain rfl := sI hb
  exact ⟨K7, Nat.lt_succ_self _, i + 1, (XImages ++ [(TPauli.mk 0 (shlK .i64 1 (i : Int)) 0)]), (ZImages ++ [(TPauli.mk 0 0 (shlK .i64 1 (i : Int)))]), B6, c6, B7, c7, (fc (hf1.g 2 0) (fc (hf1.g 3 1) (fc (hf1.g 7 2) (fc (congrArg (Value.int .i64) (wr_succ hlt1 hN)) fn_)))), (hS7.sel [0, 1, 2, 3] rfl rfl), (by omega), hL1⟩
 ·skip
  obtain rfl : k_ = 0 := by have h := of_decide_eq_false hlt; omega
  refine cw_exit rfl ?_
  obtain rfl := sI hL
  refine cq (cr ?_)
  refine sQ 28 (yb (aD b1) 0 [vi n, .slice B2 XImages.length c2, .slice B3 ZImages.length c3] K20 K10 (hS4.c 1) rfl (hf.g 3 1)) ?_
  refine s0 (yT 0 3 (aD b) 40 (.agg #[vi n, .slice B2 XImages.length c2, .slice B3 ZImages.length c3]) [vi n, .slice B2 XImages.length c2, .slice B3 ZImages.length c3] 0 hS4 K10 rfl (hf.g 2 0)) ?_
  rintro _ w_203 ⟨rfl, hS209⟩
  refine rn (ct_ ?_)
  obtain rfl := sI hF1
  exact ret1 Try.results28 (v1 := .agg #[vi n, .slice B2 XImages.length c2, .slice B3 ZImages.length c3]) (resAt_cellA (B := aD b) (i := 0) (cs := [vi n, .slice B2 XImages.length c2, .slice B3 ZImages.length c3]) (vs := [vi n, .slice B2 XImages.length c2, .slice B3 ZImages.length c3]) (hf.g 2 0) K20 K10 (hS209.c 0) rfl rfl) ⟨B2, c2, B3, c3, rfl, (hS209.sN [2, 3])⟩
end Go.VK
