/- Walks: each Go function returns what its Lean function says. By program. -/
import Derived.Test.YteaclldklaocmaaGreatLTwoLevelFa
set_option linter.unusedVariables false
set_option maxRecDepth 100000
set_option maxHeartbeats 4000000
namespace Go.VK
open Go.RowKit
open Go.Proofs
open Go.IntKind
attribute [local irreducible] CW RW RA CV Y Yw Yc Ys RetOf
attribute [local irreducible] F_laws_big F_spec_l1Cur_next F_spec_l1Cur_pick F_spec_l1Cur_among F_spec_l1Cur_dim F_spec_l1Cur_one F_spec_l1Least F_spec_l1Most F_spec_l1Cur_level F_spec_DrawIsValidTwoLevel F_spec_DrawInverseTwoLevel F_impl_isLevelDim F_impl_within F_impl_IsValidTwoLevel F_impl_inverseLevels F_impl_InverseTwoLevel F_spec_l1In F_spec_l11Dim F_spec_l11Valid F_spec_IsValidTwoLevel F_impl_isDim F_impl_matrixOf F_impl_whole F_impl_IdentityMatrix_1 F_impl_IdentityMatrix F_impl_isCoef F_impl_IsValidRing F_impl_isEven F_impl_IsValidDyadic F_impl_ringIf F_impl_MulRing F_impl_DivRootTwo F_impl_DyadicOf F_impl_MulDyadic F_impl_MulOmega F_impl_phase F_impl_small F_impl_levelCell F_impl_TwoLevelMatrix_1 F_impl_TwoLevelMatrix F_slices_IndexFunc_impl_Dyadic_impl_Dyadic F_slices_ContainsFunc_impl_Dyadic_impl_Dyadic F_impl_IsValidMatrix_1 F_impl_IsValidMatrix F_impl_Matrix_at F_impl_MulRootTwo F_impl_raised F_impl_combined F_impl_AddRing F_impl_AddDyadic F_impl_MulMatrix_1 F_impl_MulMatrix
theorem c_laws_big (code : List Int) (more : List Int) (B : Option Addr) (c n : Nat) (B1 : Option Addr) (c1 n1 : Nat) (w0 : World) (hn : code.length = n) (hn1 : more.length = n1) (hS : ST w0 [] w0 [] [⟨B, (code.flatMap enc_u8)⟩, ⟨B1, (more.flatMap enc_u8)⟩]) {r_ : Bool} (hF : F_laws_big code more = some r_) :
  CV Tryz.prog 4 #[.slice B n c, .slice B1 n1 c1] w0 (fun v w' => v = .bool r_ ∧ ST w0 [] w' [] []) := by
 subst hn
 subst hn1
 unfold F_laws_big at hF
 refine cv_of_cw 16 Tryz.func4 rfl Tryz.ntmps4 rfl ?_
 refine cq (cr ?_)
 refine sQ 4 (yg (.bool false)) (rn (cq (cr ?_)))
 refine sQ 5 (ym (.slice B code.length c)) <| sQ 6 (Y_len (B := B) (m := code.length) (c := c) K68 rfl rfl) <| sQ 7 (Y_gt (k := .i64) (a := (code.length : Int)) (b := 1048576) rfl rfl rfl) <| sQ 8 (ym (.bool (decide (1048576 < (code.length : Int))))) ?_
 refine sgq 9 (B := (!(decide (1048576 < (code.length : Int))))) (v := .slice B1 more.length c1) rfl rfl (uF_ 8) (fun hg => (ym (.slice B1 more.length c1))) ?_
 refine sgq 10 (B := (!(decide (1048576 < (code.length : Int))))) (v := vi (more.length : Int)) rfl rfl (uF_ 8) (fun hg1 => (Y_len (B := B1) (m := more.length) (c := c1) K68 rfl (gv_of (v := .slice B1 more.length c1) hg1))) ?_
 refine sgq 11 (B := (!(decide (1048576 < (code.length : Int))))) (v := .slice B code.length c) rfl rfl (uF_ 8) (fun hg2 => (ym (.slice B code.length c))) ?_
 refine sgq 12 (B := (!(decide (1048576 < (code.length : Int))))) (v := vi (code.length : Int)) rfl rfl (uF_ 8) (fun hg3 => (Y_len (B := B) (m := code.length) (c := c) K68 rfl (gv_of (v := .slice B code.length c) hg3))) ?_
 refine sgq 13 (B := (!(decide (1048576 < (code.length : Int))))) (v := vi (i64.wrap (1048576 - (code.length : Int)))) rfl rfl (uF_ 8) (fun hg4 => (yM 1048576 (code.length : Int) rfl rfl (gv_of (v := vi (code.length : Int)) hg4))) ?_
 refine sgq 14 (B := (!(decide (1048576 < (code.length : Int))))) (v := .bool (decide ((i64.wrap (1048576 - (code.length : Int))) < (more.length : Int)))) rfl rfl (uF_ 8) (fun hg5 => (Y_gt (k := .i64) (a := (more.length : Int)) (b := (i64.wrap (1048576 - (code.length : Int)))) rfl (gv_of (v := vi (more.length : Int)) hg5) (gv_of (v := vi (i64.wrap (1048576 - (code.length : Int)))) hg5))) ?_
 refine sQ 15 (Y_or (b := (decide (1048576 < (code.length : Int)))) (z := (decide ((i64.wrap (1048576 - (code.length : Int))) < (more.length : Int)))) rfl rfl rfl rfl) <| sQ 4 (yg (.bool ((decide (1048576 < (code.length : Int))) || (decide ((i64.wrap (1048576 - (code.length : Int))) < (more.length : Int)))))) (rn (ct_ ?_))
 obtain rfl := sI hF
 exact ret1 Tryz.results4 (v1 := .bool ((decide (1048576 < (code.length : Int))) || (decide ((i64.wrap (1048576 - (code.length : Int))) < (more.length : Int))))) (resAt_tmp rfl) ⟨rfl, (hS.sN [])⟩

theorem c_spec_l1Cur_next (c : Tl1Cur) (B : Option Addr) (B1 : Option Addr) (c1 n : Nat) (w0 : World) (hn : c.code.length = n) (hS : ST w0 (bl [⟨B, 55, [.slice B1 n c1, vi c.at_, .int .u64 c.seed], 3⟩]) w0 [⟨B, 55, [.slice B1 n c1, vi c.at_, .int .u64 c.seed], 3⟩] [⟨B1, (c.code.flatMap enc_u8)⟩]) {r_ : Int} {m : Tl1Cur} (hF : F_spec_l1Cur_next c = some (r_, m)) :
  CV Tryz.prog 60 #[pt B 0] w0 (fun v w' => v = vi r_ ∧ ST w0 (bl [⟨B, 55, [.slice B1 n c1, vi c.at_, .int .u64 c.seed], 3⟩]) w' [⟨B, 55, [.slice B1 n c1, vi m.at_, .int .u64 m.seed], 3⟩] []) := by
 subst hn
 unfold F_spec_l1Cur_next at hF
 refine cv_of_cw 62 Tryz.func60 rfl Tryz.ntmps60 rfl ?_
 refine cq (cr ?_)
 refine sQ 2 (yg (vi 0)) (rn (cq (cr ?_)))
 refine sQ 3 (yg (vi 0)) (rn (cq ?_))
 obtain ⟨z, hz, hF1⟩ := bI hF
 refine cw_mid (fun f w => ∃ (b : Int), b = z ∧ FF f [(0, pt B 0), (3, vi b)] ∧ ST w0 (bl [⟨B, 55, [.slice B1 c.code.length c1, vi c.at_, .int .u64 c.seed], 3⟩]) w [⟨B, 55, [.slice B1 c.code.length c1, vi c.at_, .int .u64 c.seed], 3⟩] [⟨B1, (c.code.flatMap enc_u8)⟩]) ?_ ?_
 ·skip
  refine cq ?_
  refine ra_start (hS.se [0]).fn (by kernel_rfl) ?_
  have hS2 := hS.drew
  refine rq 0 4 (v := pt B 0) rfl (hS2.se [0]) (fun w' hw' => (ym (pt B 0))) ?_
  refine rq 1 5 (v := pt B 0) rfl (hS2.se [0]) (fun w' hw' => (Y_nilCheck (B := B) (i := 0) rfl rfl)) ?_
  refine rq 2 6 (v := pt B 1) rfl (hS2.se [0]) (fun w' hw' => (yd B 0 0 K79 K0)) ?_
  refine rq 3 7 (v := vi c.at_) rfl (hS2.se [0]) (fun w' hw' => (yl B 1 [.slice B1 c.code.length c1, vi c.at_, .int .u64 c.seed] (vi c.at_) K1 (ST.cf hw' (i := 0) rfl))) ?_
  refine rq 4 8 (v := pt B 0) rfl (hS2.se [0]) (fun w' hw' => (ym (pt B 0))) ?_
  refine rq 5 9 (v := pt B 0) rfl (hS2.se [0]) (fun w' hw' => (Y_nilCheck (B := B) (i := 0) rfl rfl)) ?_
  refine rq 6 10 (v := pt B 0) rfl (hS2.se [0]) (fun w' hw' => (yd B 0 0 K102 K103)) ?_
  refine rq 7 11 (v := .slice B1 c.code.length c1) rfl (hS2.se [0]) (fun w' hw' => (yl B 0 [.slice B1 c.code.length c1, vi c.at_, .int .u64 c.seed] (.slice B1 c.code.length c1) K104 (ST.cf hw' (i := 0) rfl))) ?_
  refine rq 8 12 (v := vi (c.code.length : Int)) rfl (hS2.se [0]) (fun w' hw' => (Y_len (B := B1) (m := c.code.length) (c := c1) K68 rfl rfl)) ?_
  refine rq 9 13 (v := .bool (decide (c.at_ < (c.code.length : Int)))) rfl (hS2.se [0]) (fun w' hw' => (yL c.at_ (c.code.length : Int))) ?_
  refine ra_done (by kernel_rfl) ?_
  refine cw_cond (b := (decide (c.at_ < (c.code.length : Int)))) rfl (fun hb => ?_) (fun hb => ?_)
  ·skip
   have hF2 := ct hz hb
   obtain ⟨x, hx, hF2⟩ := bI hF2
   refine ra_start (hS2.se [0]).fn (by kernel_rfl) ?_
   have hS3 := hS2.drew
   refine rq 0 14 (v := pt B 0) rfl (hS3.se [0]) (fun w' hw' => (ym (pt B 0))) ?_
   refine rq 1 15 (v := pt B 0) rfl (hS3.se [0]) (fun w' hw' => (Y_nilCheck (B := B) (i := 0) rfl rfl)) ?_
   refine rq 2 16 (v := pt B 0) rfl (hS3.se [0]) (fun w' hw' => (yd B 0 0 K102 K103)) ?_
   refine rq 3 17 (v := .slice B1 c.code.length c1) rfl (hS3.se [0]) (fun w' hw' => (yl B 0 [.slice B1 c.code.length c1, vi c.at_, .int .u64 c.seed] (.slice B1 c.code.length c1) K104 (ST.cf hw' (i := 0) rfl))) ?_
   refine rq 4 18 (v := pt B 0) rfl (hS3.se [0]) (fun w' hw' => (ym (pt B 0))) ?_
   refine rq 5 19 (v := pt B 0) rfl (hS3.se [0]) (fun w' hw' => (Y_nilCheck (B := B) (i := 0) rfl rfl)) ?_
   refine rq 6 20 (v := pt B 1) rfl (hS3.se [0]) (fun w' hw' => (yd B 0 0 K79 K0)) ?_
   refine rq 7 21 (v := vi c.at_) rfl (hS3.se [0]) (fun w' hw' => (yl B 1 [.slice B1 c.code.length c1, vi c.at_, .int .u64 c.seed] (vi c.at_) K1 (ST.cf hw' (i := 0) rfl))) ?_
   refine rq 8 22 (v := pt B1 (c.at_.toNat * 1)) rfl (hS3.se [0]) (fun w' hw' => (Y_index (B := B1) (m := c.code.length) (c := c1) (k := .i64) (i := c.at_) K68 k_sz_5_1 rfl rfl rfl (gi_isSome enc_u8_len rfl (ST.rf hw' (i := 0) rfl) hx) (getI_nn hx) (getI_ltI hx rfl))) ?_
   refine rq 9 23 (v := .int .u8 x) rfl (hS3.se [0]) (fun w' hw' => (yl B1 (c.at_.toNat * 1) (c.code.flatMap enc_u8) (.int .u8 x) k_sc_5 (ST.rf hw' (i := 0) rfl) rfl rfl (gi_at0 enc_u8_len hx rfl))) ?_
   refine rq 10 24 (v := vi (i64.wrap x)) rfl (hS3.se [0]) (fun w' hw' => (Y_conv (k := .u8) (a := x) (T := 5) (T' := 3) k_us_5 K25 rfl rfl)) ?_
   refine rq 11 3 (v := vi (i64.wrap x)) rfl (hS3.se [0]) (fun w' hw' => (yg (vi (i64.wrap x)))) ?_
   refine ra_done (by kernel_rfl) ?_
   exact ⟨(i64.wrap x), (sI hF2), (fc rfl (fc rfl fn_)), (hS3.sel [0] rfl rfl)⟩
  ·skip
   have hF3 := cf' hz hb
   refine cw_skip ?_
   exact ⟨0, (sI hF3), (fc rfl (fc rfl fn_)), (hS2.sel [0] rfl rfl)⟩
 rintro f w ⟨b, rfl, hf, hS1⟩
 refine cq (cr ?_)
 refine sQ 25 (ym (pt B 0) rfl (hf.g 0 0)) <| sQ 26 (Y_nilCheck (B := B) (i := 0) rfl rfl) <| sQ 27 (yd B 0 0 K79 K0) <| sQ 28 (yl B 1 [.slice B1 c.code.length c1, vi c.at_, .int .u64 c.seed] (vi c.at_) K1 (hS1.c 0)) <| sQ 29 (yP c.at_ 1) <| sQ 30 (Y_nilCheck (B := B) (i := 0) rfl rfl) ?_
 refine sQ 31 (yd B 0 0 K79 K0) ?_
 refine s0 (yS 0 1 B 55 (vi (i64.wrap (c.at_ + 1))) [vi (i64.wrap (c.at_ + 1))] 1 [.slice B1 c.code.length c1, vi (i64.wrap (c.at_ + 1)), .int .u64 c.seed] hS1 K0) ?_
 rintro _ w_ ⟨rfl, hS4⟩
 refine rn (cq (cr ?_))
 refine sQ 32 (ym (pt B 0) rfl (hf.g 0 0)) <| sQ 33 (ym (pt B 0) rfl (hf.g 0 0)) <| sQ 34 (Y_nilCheck (B := B) (i := 0) rfl rfl) <| sQ 35 (yd B 0 0 K105 K85) <| sQ 36 (yl B 2 [.slice B1 c.code.length c1, vi (i64.wrap (c.at_ + 1)), .int .u64 c.seed] (.int .u64 c.seed) k_sc_53 (hS4.c 0)) <| sQ 37 (Y_mul (k := .u64) (a := c.seed) (b := 6364136223846793005) rfl rfl rfl) ?_
 refine sQ 38 (ym (vi b) rfl (hf.g 3 1)) <| sQ 39 (Y_conv (k := .i64) (a := b) (T := 3) (T' := 53) K54 k_int_53_u64 rfl rfl) <| sQ 40 (Y_add (k := .u64) (a := (IntKind.u64.wrap (c.seed * 6364136223846793005))) (b := (IntKind.u64.wrap b)) rfl rfl rfl) <| sQ 41 (Y_add (k := .u64) (a := (IntKind.u64.wrap ((IntKind.u64.wrap (c.seed * 6364136223846793005)) + (IntKind.u64.wrap b)))) (b := 1442695040888963407) rfl rfl rfl) <| sQ 42 (Y_nilCheck (B := B) (i := 0) rfl rfl) <| sQ 43 (yd B 0 0 K105 K85) ?_
 refine s0 (yS 0 1 B 55 (.int .u64 (IntKind.u64.wrap ((IntKind.u64.wrap ((IntKind.u64.wrap (c.seed * 6364136223846793005)) + (IntKind.u64.wrap b))) + 1442695040888963407))) [.int .u64 (IntKind.u64.wrap ((IntKind.u64.wrap ((IntKind.u64.wrap (c.seed * 6364136223846793005)) + (IntKind.u64.wrap b))) + 1442695040888963407))] 2 [.slice B1 c.code.length c1, vi (i64.wrap (c.at_ + 1)), .int .u64 (IntKind.u64.wrap ((IntKind.u64.wrap ((IntKind.u64.wrap (c.seed * 6364136223846793005)) + (IntKind.u64.wrap b))) + 1442695040888963407))] hS4 K85) ?_
 rintro _ w_1 ⟨rfl, hS5⟩
 refine rn (cq (cq ?_))
 refine ra_start (hS5.se [0]).fn (by kernel_rfl) ?_
 have hS6 := hS5.drew
 refine rq 0 44 (v := pt B 0) rfl (hS6.se [0]) (fun w' hw' => (ym (pt B 0) rfl (hf.g 0 0))) ?_
 refine rq 1 45 (v := pt B 0) rfl (hS6.se [0]) (fun w' hw' => (Y_nilCheck (B := B) (i := 0) rfl rfl)) ?_
 refine rq 2 46 (v := pt B 1) rfl (hS6.se [0]) (fun w' hw' => (yd B 0 0 K79 K0)) ?_
 refine rq 3 47 (v := vi (i64.wrap (c.at_ + 1))) rfl (hS6.se [0]) (fun w' hw' => (yl B 1 [.slice B1 c.code.length c1, vi (i64.wrap (c.at_ + 1)), .int .u64 (IntKind.u64.wrap ((IntKind.u64.wrap ((IntKind.u64.wrap (c.seed * 6364136223846793005)) + (IntKind.u64.wrap b))) + 1442695040888963407))] (vi (i64.wrap (c.at_ + 1))) K1 (ST.cf hw' (i := 0) rfl))) ?_
 refine rq 4 48 (v := pt B 0) rfl (hS6.se [0]) (fun w' hw' => (ym (pt B 0) rfl (hf.g 0 0))) ?_
 refine rq 5 49 (v := pt B 0) rfl (hS6.se [0]) (fun w' hw' => (Y_nilCheck (B := B) (i := 0) rfl rfl)) ?_
 refine rq 6 50 (v := pt B 0) rfl (hS6.se [0]) (fun w' hw' => (yd B 0 0 K102 K103)) ?_
 refine rq 7 51 (v := .slice B1 c.code.length c1) rfl (hS6.se [0]) (fun w' hw' => (yl B 0 [.slice B1 c.code.length c1, vi (i64.wrap (c.at_ + 1)), .int .u64 (IntKind.u64.wrap ((IntKind.u64.wrap ((IntKind.u64.wrap (c.seed * 6364136223846793005)) + (IntKind.u64.wrap b))) + 1442695040888963407))] (.slice B1 c.code.length c1) K104 (ST.cf hw' (i := 0) rfl))) ?_
 refine rq 8 52 (v := vi (c.code.length : Int)) rfl (hS6.se [0]) (fun w' hw' => (Y_len (B := B1) (m := c.code.length) (c := c1) K68 rfl rfl)) ?_
 refine rq 9 53 (v := .bool (decide ((i64.wrap (c.at_ + 1)) ≤ (c.code.length : Int)))) rfl (hS6.se [0]) (fun w' hw' => (Y_le (k := .i64) (a := (i64.wrap (c.at_ + 1))) (b := (c.code.length : Int)) rfl rfl rfl)) ?_
 refine ra_done (by kernel_rfl) ?_
 refine cw_cond (b := (decide ((i64.wrap (c.at_ + 1)) ≤ (c.code.length : Int)))) rfl (fun hb1 => ?_) (fun hb1 => ?_)
 ·skip
  have hF4 := ct hF1 hb1
  refine cq (cr ?_)
  refine sQ 54 (ym (vi b) rfl (hf.g 3 1)) <| sQ 2 (yg (vi b)) (rn (ct_ ?_))
  obtain ⟨rfl, rfl⟩ := pr2 (sI hF4)
  exact ret1 Tryz.results60 (v1 := vi b) (resAt_tmp rfl) ⟨rfl, (hS6.sN [0])⟩
 ·skip
  have hF5 := cf' hF1 hb1
  refine cw_skip (cq (cr ?_))
  refine sQ 55 (ym (pt B 0) rfl (hf.g 0 0)) <| sQ 56 (Y_nilCheck (B := B) (i := 0) rfl rfl) <| sQ 57 (yd B 0 0 K105 K85) <| sQ 58 (yl B 2 [.slice B1 c.code.length c1, vi (i64.wrap (c.at_ + 1)), .int .u64 (IntKind.u64.wrap ((IntKind.u64.wrap ((IntKind.u64.wrap (c.seed * 6364136223846793005)) + (IntKind.u64.wrap b))) + 1442695040888963407))] (.int .u64 (IntKind.u64.wrap ((IntKind.u64.wrap ((IntKind.u64.wrap (c.seed * 6364136223846793005)) + (IntKind.u64.wrap b))) + 1442695040888963407))) k_sc_53 (hS6.c 0)) <| sQ 59 (Y_shr (k := .u64) (a := (IntKind.u64.wrap ((IntKind.u64.wrap ((IntKind.u64.wrap (c.seed * 6364136223846793005)) + (IntKind.u64.wrap b))) + 1442695040888963407))) (k' := .u64) (b := 40) rfl rfl rfl (by decide)) <| sQ 60 (Y_band (k := .u64) (a := (shrK .u64 (IntKind.u64.wrap ((IntKind.u64.wrap ((IntKind.u64.wrap (c.seed * 6364136223846793005)) + (IntKind.u64.wrap b))) + 1442695040888963407)) 40)) (b := 255) rfl rfl rfl) ?_
  refine sQ 61 (Y_conv (k := .u64) (a := (bits .and .u64 (shrK .u64 (IntKind.u64.wrap ((IntKind.u64.wrap ((IntKind.u64.wrap (c.seed * 6364136223846793005)) + (IntKind.u64.wrap b))) + 1442695040888963407)) 40) 255)) (T := 53) (T' := 3) k_us_53 K25 rfl rfl) <| sQ 2 (yg (vi (i64.wrap (bits .and .u64 (shrK .u64 (IntKind.u64.wrap ((IntKind.u64.wrap ((IntKind.u64.wrap (c.seed * 6364136223846793005)) + (IntKind.u64.wrap b))) + 1442695040888963407)) 40) 255)))) (rn (ct_ ?_))
  obtain ⟨rfl, rfl⟩ := pr2 (sI hF5)
  exact ret1 Tryz.results60 (v1 := vi (i64.wrap (bits .and .u64 (shrK .u64 (IntKind.u64.wrap ((IntKind.u64.wrap ((IntKind.u64.wrap (c.seed * 6364136223846793005)) + (IntKind.u64.wrap b))) + 1442695040888963407)) 40) 255))) (resAt_tmp rfl) ⟨rfl, (hS6.sN [0])⟩

theorem c_spec_l1Cur_pick (c : Tl1Cur) (n1 : Int) (B : Option Addr) (B1 : Option Addr) (c1 n : Nat) (w0 : World) (hn : c.code.length = n) (hS : ST w0 (bl [⟨B, 55, [.slice B1 n c1, vi c.at_, .int .u64 c.seed], 3⟩]) w0 [⟨B, 55, [.slice B1 n c1, vi c.at_, .int .u64 c.seed], 3⟩] [⟨B1, (c.code.flatMap enc_u8)⟩]) {r_ : Int} {m : Tl1Cur} (hF : F_spec_l1Cur_pick c n1 = some (r_, m)) :
  CV Tryz.prog 28 #[pt B 0, vi n1] w0 (fun v w' => v = vi r_ ∧ ST w0 (bl [⟨B, 55, [.slice B1 n c1, vi c.at_, .int .u64 c.seed], 3⟩]) w' [⟨B, 55, [.slice B1 n c1, vi m.at_, .int .u64 m.seed], 3⟩] []) := by
 subst hn
 unfold F_spec_l1Cur_pick at hF
 refine cv_of_cw 20 Tryz.func28 rfl Tryz.ntmps28 rfl ?_
 refine cq (cr ?_)
 refine sQ 4 (yg (vi 0)) (rn (cq (cq (cr ?_))))
 refine sQ 6 (ym (vi n1)) <| sQ 7 (Y_le (k := .i64) (a := n1) (b := 1) rfl rfl rfl) (rn ?_)
 refine cw_cond (b := (decide (n1 ≤ 1))) rfl (fun hb => ?_) (fun hb => ?_)
 ·skip
  have hF1 := ct hF hb
  refine cq (cr ?_)
  refine sQ 4 (yg (vi 0)) (rn (ct_ ?_))
  obtain ⟨rfl, rfl⟩ := pr2 (sI hF1)
  exact ret1 Tryz.results28 (v1 := vi 0) (resAt_tmp rfl) ⟨rfl, (hS.sN [0])⟩
 ·skip
  have hF2 := cf' hF hb
  refine cw_skip (cq (cr ?_))
  refine sQ 8 (ym (pt B 0)) ?_
  obtain ⟨⟨r_1, m1⟩, hc, hF2⟩ := bI hF2
  refine sc 9 rfl rfl (yC [pt B 0] k_call_60 (c_spec_l1Cur_next c B B1 c1 c.code.length _ rfl (hS.inn [true] rfl [(true, 0)] rfl) hc)) ?_
  rintro _ w_ ⟨rfl, hd⟩
  have hS1 := hS.out [true] rfl hd
  refine sQ 5 (yg (vi r_1)) (rn (cq ?_))
  obtain ⟨z, hz, hF3⟩ := bI hF2
  refine cw_mid (fun f w => ∃ (at_ : Int) (seed : Int) (x : Int), (at_, seed, x) = z ∧ FF f [(1, vi n1), (5, vi x)] ∧ ST w0 (bl [⟨B, 55, [.slice B1 c.code.length c1, vi c.at_, .int .u64 c.seed], 3⟩]) w [⟨B, 55, [.slice B1 c.code.length c1, vi at_, .int .u64 seed], 3⟩] [⟨B1, (c.code.flatMap enc_u8)⟩]) ?_ ?_
  ·skip
   refine cq (cr ?_)
   refine sQ 10 (ym (vi n1)) <| sQ 11 (Y_gt (k := .i64) (a := n1) (b := 200) rfl rfl rfl) (rn ?_)
   refine cw_cond (b := (decide (200 < n1))) rfl (fun hb1 => ?_) (fun hb1 => ?_)
   ·skip
    have hF4 := ct hz hb1
    refine cr ?_
    refine sQ 12 (ym (vi r_1)) <| sQ 13 (yX r_1 256) <| sQ 14 (ym (pt B 0)) ?_
    obtain ⟨⟨r_2, m2⟩, hc1, hF4⟩ := bI hF4
    refine sc 15 rfl rfl (yC [pt B 0] k_call_60 (c_spec_l1Cur_next (Tl1Cur.mk c.code m1.at_ m1.seed) B B1 c1 c.code.length _ rfl (hS1.inn [true] rfl [(true, 0)] rfl) hc1)) ?_
    rintro _ w_1 ⟨rfl, hd1⟩
    have hS3 := hS1.out [true] rfl hd1
    refine sQ 16 (yP (i64.wrap (r_1 * 256)) r_2) <| sQ 5 (yg (vi (i64.wrap ((i64.wrap (r_1 * 256)) + r_2)))) (rn ?_)
    exact ⟨m2.at_, m2.seed, (i64.wrap ((i64.wrap (r_1 * 256)) + r_2)), (sI hF4), (fc rfl (fc rfl fn_)), (hS3.sel [0] rfl rfl)⟩
   ·skip
    have hF5 := cf' hz hb1
    refine cw_skip ?_
    exact ⟨m1.at_, m1.seed, r_1, (sI hF5), (fc rfl (fc rfl fn_)), (hS1.sel [0] rfl rfl)⟩
  rintro f w ⟨at_, seed, x, rfl, hf, hS2⟩
  refine cq (cr ?_)
  refine sQ 17 (ym (vi x) rfl (hf.g 5 1)) <| sQ 18 (ym (vi n1) rfl (hf.g 1 0)) ?_
  obtain ⟨hne, hF3⟩ := chk_inv hF3
  refine sQ 19 (Y_rem (k := .i64) (a := x) (b := n1) rfl rfl rfl hne) <| sQ 4 (yg (vi (Int.tmod x n1))) (rn (ct_ ?_))
  obtain ⟨rfl, rfl⟩ := pr2 (sI hF3)
  exact ret1 Tryz.results28 (v1 := vi (Int.tmod x n1)) (resAt_tmp rfl) ⟨rfl, (hS2.sN [0])⟩

theorem c_spec_l1Cur_among (c : Tl1Cur) (list : List Int) (B : Option Addr) (B1 : Option Addr) (c1 n : Nat) (B2 : Option Addr) (c2 n1 : Nat) (w0 : World) (hn : c.code.length = n) (hn1 : list.length = n1) (hS : ST w0 (bl [⟨B, 55, [.slice B1 n c1, vi c.at_, .int .u64 c.seed], 3⟩]) w0 [⟨B, 55, [.slice B1 n c1, vi c.at_, .int .u64 c.seed], 3⟩] [⟨B1, (c.code.flatMap enc_u8)⟩, ⟨B2, (list.flatMap encI)⟩]) {r_ : Int} {m : Tl1Cur} (hF : F_spec_l1Cur_among c list = some (r_, m)) :
  CV Tryz.prog 58 #[pt B 0, .slice B2 n1 c2] w0 (fun v w' => v = vi r_ ∧ ST w0 (bl [⟨B, 55, [.slice B1 n c1, vi c.at_, .int .u64 c.seed], 3⟩]) w' [⟨B, 55, [.slice B1 n c1, vi m.at_, .int .u64 m.seed], 3⟩] []) := by
 subst hn
 subst hn1
 unfold F_spec_l1Cur_among at hF
 refine cv_of_cw 12 Tryz.func58 rfl Tryz.ntmps58 rfl ?_
 refine cq (cr ?_)
 refine sQ 4 (yg (vi 0)) (rn (cq (cr ?_)))
 refine sQ 5 (ym (.slice B2 list.length c2)) <| sQ 6 (ym (pt B 0)) <| sQ 7 (ym (.slice B2 list.length c2)) <| sQ 8 (Y_len (B := B2) (m := list.length) (c := c2) K27 rfl rfl) ?_
 obtain ⟨⟨r_1, m1⟩, hc, hF⟩ := bI hF
 refine sc 9 rfl rfl (yC [pt B 0, vi (list.length : Int)] K24 (c_spec_l1Cur_pick c (list.length : Int) B B1 c1 c.code.length _ rfl (hS.inn [true] rfl [(true, 0)] rfl) hc)) ?_
 rintro _ w_ ⟨rfl, hd⟩
 have hS1 := hS.out [true] rfl hd
 obtain ⟨x, hx, hF⟩ := bI hF
 refine sQ 10 (Y_index (B := B2) (m := list.length) (c := c2) (k := .i64) (i := r_1) K27 K0 rfl rfl rfl (gi_isSome encI_len rfl (hS1.rf (i := 1) rfl) hx) (getI_nn hx) (getI_ltI hx rfl)) <| sQ 11 (yl B2 (r_1.toNat * 1) (list.flatMap encI) (vi x) K1 (hS1.rf (i := 1) rfl) rfl rfl (gi_at0 encI_len hx rfl)) <| sQ 4 (yg (vi x)) (rn (ct_ ?_))
 obtain ⟨rfl, rfl⟩ := pr2 (sI hF)
 exact ret1 Tryz.results58 (v1 := vi x) (resAt_tmp rfl) ⟨rfl, (hS1.sN [0])⟩

theorem c_spec_l1Cur_dim (c : Tl1Cur) (B : Option Addr) (B1 : Option Addr) (c1 n : Nat) (w0 : World) (hn : c.code.length = n) (hS : ST w0 (bl [⟨B, 55, [.slice B1 n c1, vi c.at_, .int .u64 c.seed], 3⟩]) w0 [⟨B, 55, [.slice B1 n c1, vi c.at_, .int .u64 c.seed], 3⟩] [⟨B1, (c.code.flatMap enc_u8)⟩]) {r_ : Int} {m : Tl1Cur} (hF : F_spec_l1Cur_dim c = some (r_, m)) :
  CV Tryz.prog 41 #[pt B 0] w0 (fun v w' => v = vi r_ ∧ ST w0 (bl [⟨B, 55, [.slice B1 n c1, vi c.at_, .int .u64 c.seed], 3⟩]) w' [⟨B, 55, [.slice B1 n c1, vi m.at_, .int .u64 m.seed], 3⟩] []) := by
 subst hn
 unfold F_spec_l1Cur_dim at hF
 refine cv_of_cw 6 Tryz.func41 rfl Tryz.ntmps41 rfl ?_
 refine cq (cr ?_)
 refine sQ 2 (yg (vi 0)) (rn (cq (cr ?_)))
 refine sQ 3 (ym (pt B 0)) ?_
 refine sS 4 (Ys_bslice (s := 1) (len := 8) (vs := [(0, vi 2), (1, vi 4), (2, vi 8), (3, vi 4), (4, vi 4), (5, vi 8), (6, vi 2), (7, vi 3)]) (cs := [vi 2, vi 4, vi 8, vi 4, vi 4, vi 8, vi 2, vi 3]) (zs := [vi 0, vi 0, vi 0, vi 0, vi 0, vi 0, vi 0, vi 0]) (m := 8) hS K27 K0 K38 rfl (mpc rfl (mpc rfl (mpc rfl (mpc rfl (mpc rfl (mpc rfl (mpc rfl (mpc rfl mpn)))))))) rfl rfl rfl (by kernel_rfl) (by kernel_rfl) rfl) ?_
 rintro _ w_ ⟨b, rfl, hS1⟩
 obtain ⟨⟨r_1, m1⟩, hc, hF⟩ := bI hF
 refine sc 5 rfl rfl (yC [pt B 0, .slice (aD b) 8 8] K47 (c_spec_l1Cur_among c [2, 4, 8, 4, 4, 8, 2, 3] B B1 c1 c.code.length (aD b) 8 8 _ rfl rfl (hS1.inn [true, false] rfl [(true, 0), (false, 0)] rfl) hc)) ?_
 rintro _ w_1 ⟨rfl, hd⟩
 have hS2 := hS1.out [true, false] rfl hd
 refine sQ 2 (yg (vi r_1)) (rn (ct_ ?_))
 obtain ⟨rfl, rfl⟩ := pr2 (sI hF)
 exact ret1 Tryz.results41 (v1 := vi r_1) (resAt_tmp rfl) ⟨rfl, (hS2.sN [1])⟩

theorem c_spec_l1Cur_one (c : Tl1Cur) (n1 : Int) (B : Option Addr) (B1 : Option Addr) (c1 n : Nat) (w0 : World) (hn : c.code.length = n) (hS : ST w0 (bl [⟨B, 55, [.slice B1 n c1, vi c.at_, .int .u64 c.seed], 3⟩]) w0 [⟨B, 55, [.slice B1 n c1, vi c.at_, .int .u64 c.seed], 3⟩] [⟨B1, (c.code.flatMap enc_u8)⟩]) {r_ : Bool} {m : Tl1Cur} (hF : F_spec_l1Cur_one c n1 = some (r_, m)) :
  CV Tryz.prog 26 #[pt B 0, vi n1] w0 (fun v w' => v = .bool r_ ∧ ST w0 (bl [⟨B, 55, [.slice B1 n c1, vi c.at_, .int .u64 c.seed], 3⟩]) w' [⟨B, 55, [.slice B1 n c1, vi m.at_, .int .u64 m.seed], 3⟩] []) := by
 subst hn
 unfold F_spec_l1Cur_one at hF
 refine cv_of_cw 9 Tryz.func26 rfl Tryz.ntmps26 rfl ?_
 refine cq (cr ?_)
 refine sQ 4 (yg (.bool false)) (rn (cq (cr ?_)))
 refine sQ 5 (ym (pt B 0)) <| sQ 6 (ym (vi n1)) ?_
 obtain ⟨⟨r_1, m1⟩, hc, hF⟩ := bI hF
 refine sc 7 rfl rfl (yC [pt B 0, vi n1] K24 (c_spec_l1Cur_pick c n1 B B1 c1 c.code.length _ rfl (hS.inn [true] rfl [(true, 0)] rfl) hc)) ?_
 rintro _ w_ ⟨rfl, hd⟩
 have hS1 := hS.out [true] rfl hd
 refine sQ 8 (yE r_1 0) <| sQ 4 (yg (.bool (r_1 == 0))) (rn (ct_ ?_))
 obtain ⟨rfl, rfl⟩ := pr2 (sI hF)
 exact ret1 Tryz.results26 (v1 := .bool (r_1 == 0)) (resAt_tmp rfl) ⟨rfl, (hS1.sN [0])⟩

theorem c_spec_l1Least (a : Int) (b : Int)  (w0 : World)  (hS : ST w0 [] w0 [] []) {r_ : Int} (hF : F_spec_l1Least a b = some r_) :
  CV Tryz.prog 76 #[vi a, vi b] w0 (fun v w' => v = vi r_ ∧ ST w0 [] w' [] []) := by
 unfold F_spec_l1Least at hF
 refine cv_of_cw 10 Tryz.func76 rfl Tryz.ntmps76 rfl ?_
 refine cq (cr ?_)
 refine sQ 4 (yg (vi 0)) (rn (cq (cq (cr ?_))))
 refine sQ 5 (ym (vi a)) <| sQ 6 (ym (vi b)) <| sQ 7 (yL a b) (rn ?_)
 refine cw_cond (b := (decide (a < b))) rfl (fun hb => ?_) (fun hb => ?_)
 ·skip
  have hF1 := ct hF hb
  refine cq (cr ?_)
  refine sQ 8 (ym (vi a)) <| sQ 4 (yg (vi a)) (rn (ct_ ?_))
  obtain rfl := sI hF1
  exact ret1 Tryz.results76 (v1 := vi a) (resAt_tmp rfl) ⟨rfl, (hS.sN [])⟩
 ·skip
  have hF2 := cf' hF hb
  refine cw_skip (cq (cr ?_))
  refine sQ 9 (ym (vi b)) <| sQ 4 (yg (vi b)) (rn (ct_ ?_))
  obtain rfl := sI hF2
  exact ret1 Tryz.results76 (v1 := vi b) (resAt_tmp rfl) ⟨rfl, (hS.sN [])⟩

theorem c_spec_l1Most (a : Int) (b : Int)  (w0 : World)  (hS : ST w0 [] w0 [] []) {r_ : Int} (hF : F_spec_l1Most a b = some r_) :
  CV Tryz.prog 77 #[vi a, vi b] w0 (fun v w' => v = vi r_ ∧ ST w0 [] w' [] []) := by
 unfold F_spec_l1Most at hF
 refine cv_of_cw 10 Tryz.func77 rfl Tryz.ntmps77 rfl ?_
 refine cq (cr ?_)
 refine sQ 4 (yg (vi 0)) (rn (cq (cq (cr ?_))))
 refine sQ 5 (ym (vi a)) <| sQ 6 (ym (vi b)) <| sQ 7 (Y_gt (k := .i64) (a := a) (b := b) rfl rfl rfl) (rn ?_)
 refine cw_cond (b := (decide (b < a))) rfl (fun hb => ?_) (fun hb => ?_)
 ·skip
  have hF1 := ct hF hb
  refine cq (cr ?_)
  refine sQ 8 (ym (vi a)) <| sQ 4 (yg (vi a)) (rn (ct_ ?_))
  obtain rfl := sI hF1
  exact ret1 Tryz.results77 (v1 := vi a) (resAt_tmp rfl) ⟨rfl, (hS.sN [])⟩
 ·skip
  have hF2 := cf' hF hb
  refine cw_skip (cq (cr ?_))
  refine sQ 9 (ym (vi b)) <| sQ 4 (yg (vi b)) (rn (ct_ ?_))
  obtain rfl := sI hF2
  exact ret1 Tryz.results77 (v1 := vi b) (resAt_tmp rfl) ⟨rfl, (hS.sN [])⟩

theorem c_spec_l1Cur_level (c : Tl1Cur) (n1 : Int) (B : Option Addr) (B1 : Option Addr) (c1 n : Nat) (w0 : World) (hn : c.code.length = n) (hS : ST w0 (bl [⟨B, 55, [.slice B1 n c1, vi c.at_, .int .u64 c.seed], 3⟩]) w0 [⟨B, 55, [.slice B1 n c1, vi c.at_, .int .u64 c.seed], 3⟩] [⟨B1, (c.code.flatMap enc_u8)⟩]) {r_ : TTwoLevel} {m : Tl1Cur} (hF : F_spec_l1Cur_level c n1 = some (r_, m)) :
  CV Tryz.prog 42 #[pt B 0, vi n1] w0 (fun v w' => v = .agg #[vi r_.Kind, vi r_.I, vi r_.J, vi r_.M_] ∧ ST w0 (bl [⟨B, 55, [.slice B1 n c1, vi c.at_, .int .u64 c.seed], 3⟩]) w' [⟨B, 55, [.slice B1 n c1, vi m.at_, .int .u64 m.seed], 3⟩] []) := by
 subst hn
 unfold F_spec_l1Cur_level at hF
 refine cv_of_cw 65 Tryz.func42 rfl Tryz.ntmps42 rfl ?_
 refine cq (cr ?_)
 refine sS 4 (yN [vi 0, vi 0, vi 0, vi 0] 4 hS K30) ?_
 rintro _ w_ ⟨b, rfl, hS1⟩
 refine rn (cq (cr ?_))
 refine sQ 8 (ym (pt B 0)) <| sQ 9 (ym (vi n1)) ?_
 obtain ⟨⟨r_1, m1⟩, hc, hF⟩ := bI hF
 refine sc 10 rfl rfl (yC [pt B 0, vi n1] K24 (c_spec_l1Cur_pick c n1 B B1 c1 c.code.length _ rfl (hS1.inn [true, false] rfl [(true, 0)] rfl) hc)) ?_
 rintro _ w_1 ⟨rfl, hd⟩
 have hS2 := hS1.out [true, false] rfl hd
 refine sQ 5 (yg (vi r_1)) (rn (cq (cr ?_)))
 refine sQ 11 (ym (pt B 0)) <| sQ 12 (ym (vi n1)) ?_
 obtain ⟨⟨r_2, m2⟩, hc1, hF⟩ := bI hF
 refine sc 13 rfl rfl (yC [pt B 0, vi n1] K24 (c_spec_l1Cur_pick (Tl1Cur.mk c.code m1.at_ m1.seed) n1 B B1 c1 c.code.length _ rfl (hS2.inn [false, true] rfl [(true, 0)] rfl) hc1)) ?_
 rintro _ w_2 ⟨rfl, hd1⟩
 have hS3 := hS2.out [false, true] rfl hd1
 refine sQ 6 (yg (vi r_2)) (rn (cq (cr ?_)))
 refine sQ 14 (ym (pt B 0)) ?_
 obtain ⟨⟨r_3, m3⟩, hc2, hF⟩ := bI hF
 refine sc 15 rfl rfl (yC [pt B 0, vi 3] K24 (c_spec_l1Cur_pick (Tl1Cur.mk c.code m2.at_ m2.seed) 3 B B1 c1 c.code.length _ rfl (hS3.inn [false, true] rfl [(true, 0)] rfl) hc2)) ?_
 rintro _ w_3 ⟨rfl, hd2⟩
 have hS4 := hS3.out [false, true] rfl hd2
 refine sQ 16 (yP 1 r_3) <| sQ 17 (ym (vi r_1)) <| sQ 18 (ym (vi r_2)) ?_
 obtain ⟨r_4, hc3, hF⟩ := bI hF
 refine sc 19 rfl rfl (yC [vi r_1, vi r_2] k_call_76 (c_spec_l1Least r_1 r_2 _  (hS4.inn0 [] rfl) hc3)) ?_
 rintro _ w_4 ⟨rfl, hd3⟩
 have hS5 := hS4.out00 hd3
 refine sQ 20 (ym (vi r_1)) <| sQ 21 (ym (vi r_2)) ?_
 obtain ⟨r_5, hc4, hF⟩ := bI hF
 refine sc 22 rfl rfl (yC [vi r_1, vi r_2] k_call_77 (c_spec_l1Most r_1 r_2 _  (hS5.inn0 [] rfl) hc4)) ?_
 rintro _ w_5 ⟨rfl, hd4⟩
 have hS6 := hS5.out00 hd4
 refine sQ 23 (ym (pt B 0)) ?_
 obtain ⟨⟨r_6, m4⟩, hc5, hF⟩ := bI hF
 refine sc 24 rfl rfl (yC [pt B 0, vi 8] K24 (c_spec_l1Cur_pick (Tl1Cur.mk c.code m3.at_ m3.seed) 8 B B1 c1 c.code.length _ rfl (hS6.inn [false, true] rfl [(true, 0)] rfl) hc5)) ?_
 rintro _ w_6 ⟨rfl, hd5⟩
 have hS7 := hS6.out [false, true] rfl hd5
 refine sQ 25 (Y_buildS (zs := [vi 0, vi 0, vi 0, vi 0]) (vs := [(0, vi (i64.wrap (1 + r_3))), (1, vi r_4), (2, vi r_5), (3, vi r_6)]) (cs := [vi (i64.wrap (1 + r_3)), vi r_4, vi r_5, vi r_6]) K50 K30 rfl (mpc rfl (mpc rfl (mpc rfl (mpc rfl mpn)))) rfl) ?_
 refine sS 7 (yN [vi 0, vi 0, vi 0, vi 0] 4 hS7 K30) ?_
 rintro _ w_7 ⟨b1, rfl, hS8⟩
 have hS8 : ST w0 (bl [⟨B, 55, [.slice B1 c.code.length c1, vi c.at_, .int .u64 c.seed], 3⟩]) _ [⟨aD b, 25, [vi 0, vi 0, vi 0, vi 0], 4⟩, ⟨B, 55, [.slice B1 c.code.length c1, vi m4.at_, .int .u64 m4.seed], 3⟩, ⟨aD b1, 25, [vi 0, vi 0, vi 0, vi 0], 4⟩] [⟨B1, (c.code.flatMap enc_u8)⟩] := hS8
 refine s0 (yT 2 4 (aD b1) 25 (.agg #[vi (i64.wrap (1 + r_3)), vi r_4, vi r_5, vi r_6]) [vi (i64.wrap (1 + r_3)), vi r_4, vi r_5, vi r_6] 0 hS8 K11) ?_
 rintro _ w_8 ⟨rfl, hS9⟩
 refine rn (cq ?_)
 obtain ⟨z, hz, hF1⟩ := bI hF
 refine cw_mid (fun f w => ∃ (at_ : Int) (seed : Int) (J : Int) (M_ : Int), (at_, seed, J, M_) = z ∧ FF f [(0, pt B 0), (1, vi n1), (4, pt (aD b) 0), (5, vi r_1), (6, vi r_2), (7, pt (aD b1) 0)] ∧ ST w0 (bl [⟨B, 55, [.slice B1 c.code.length c1, vi c.at_, .int .u64 c.seed], 3⟩]) w [⟨B, 55, [.slice B1 c.code.length c1, vi at_, .int .u64 seed], 3⟩, ⟨aD b, 25, [vi 0, vi 0, vi 0, vi 0], 4⟩, ⟨aD b1, 25, [vi (i64.wrap (1 + r_3)), vi r_4, vi J, vi M_], 4⟩] [⟨B1, (c.code.flatMap enc_u8)⟩]) ?_ ?_
 ·skip
  refine cq (cr ?_)
  refine sQ 26 (yd (aD b1) 0 0 K42 K0) <| sQ 27 (yl (aD b1) 0 [vi (i64.wrap (1 + r_3)), vi r_4, vi r_5, vi r_6] (vi (i64.wrap (1 + r_3))) K1 (hS9.c 2)) (rn (cw_block (cq (cr ?_))))
  refine sQ 29 (yE (i64.wrap (1 + r_3)) 1) <| sQ 28 (yg (.bool ((i64.wrap (1 + r_3)) == 1))) (rn ?_)
  refine cw_cond (b := ((i64.wrap (1 + r_3)) == 1)) rfl (fun hb => ?_) (fun hb => ?_)
  ·skip
   have hF2 := ct hz hb
   refine cq (cr ?_)
   refine sQ 30 (yd (aD b1) 0 0 K39 K0) ?_
   refine s0 (yS 2 1 (aD b1) 25 (vi 0) [vi 0] 2 [vi (i64.wrap (1 + r_3)), vi r_4, vi 0, vi r_6] hS9 K0) ?_
   rintro _ w_9 ⟨rfl, hS11⟩
   refine rn (cr ?_)
   refine sQ 31 (ym (pt B 0)) ?_
   obtain ⟨⟨r_7, m5⟩, hc6, hF2⟩ := bI hF2
   refine sc 32 rfl rfl (yC [pt B 0, vi 7] K24 (c_spec_l1Cur_pick (Tl1Cur.mk c.code m4.at_ m4.seed) 7 B B1 c1 c.code.length _ rfl (hS11.inn [false, true, false] rfl [(true, 0)] rfl) hc6)) ?_
   rintro _ w_10 ⟨rfl, hd6⟩
   have hS12 := hS11.out [false, true, false] rfl hd6
   refine sQ 33 (yP 1 r_7) <| sQ 34 (yd (aD b1) 0 0 K37 K0) ?_
   refine s0 (yS 1 1 (aD b1) 25 (vi (i64.wrap (1 + r_7))) [vi (i64.wrap (1 + r_7))] 3 [vi (i64.wrap (1 + r_3)), vi r_4, vi 0, vi (i64.wrap (1 + r_7))] hS12 K0) ?_
   rintro _ w_11 ⟨rfl, hS13⟩
   refine rn ?_
   exact ⟨m5.at_, m5.seed, 0, (i64.wrap (1 + r_7)), (sI hF2), (fc rfl (fc rfl (fc rfl (fc rfl (fc rfl (fc rfl fn_)))))), (hS13.sel [2, 0, 1] rfl rfl)⟩
  ·skip
   have hF3 := cf' hz hb
   refine cq (cr ?_)
   refine sQ 36 (yE (i64.wrap (1 + r_3)) 2) <| sQ 35 (yg (.bool ((i64.wrap (1 + r_3)) == 2))) (rn ?_)
   refine cw_cond (b := ((i64.wrap (1 + r_3)) == 2)) rfl (fun hb1 => ?_) (fun hb1 => ?_)
   ·skip
    have hF4 := ct hF3 hb1
    refine cr ?_
    refine sQ 37 (yd (aD b1) 0 0 K37 K0) ?_
    refine s0 (yS 2 1 (aD b1) 25 (vi 0) [vi 0] 3 [vi (i64.wrap (1 + r_3)), vi r_4, vi r_5, vi 0] hS9 K0) ?_
    rintro _ w_12 ⟨rfl, hS14⟩
    refine rn ?_
    exact ⟨m4.at_, m4.seed, r_5, 0, (sI hF4), (fc rfl (fc rfl (fc rfl (fc rfl (fc rfl (fc rfl fn_)))))), (hS14.sel [1, 0, 2] rfl rfl)⟩
   ·skip
    have hF5 := cf' hF3 hb1
    refine cw_skip ?_
    exact ⟨m4.at_, m4.seed, r_5, r_6, (sI hF5), (fc rfl (fc rfl (fc rfl (fc rfl (fc rfl (fc rfl fn_)))))), (hS9.sel [1, 0, 2] rfl rfl)⟩
 rintro f w ⟨at_, seed, J, M_, rfl, hf, hS10⟩
 refine cq (cq (cr ?_))
 refine sQ 38 (yd (aD b1) 0 0 K42 K0 rfl (hf.g 7 5)) <| sQ 39 (yl (aD b1) 0 [vi (i64.wrap (1 + r_3)), vi r_4, vi J, vi M_] (vi (i64.wrap (1 + r_3))) K1 (hS10.c 2)) <| sQ 40 (Y_ne (k := .i64) (a := (i64.wrap (1 + r_3))) (b := 1) rfl rfl rfl) <| sQ 41 (ym (.bool ((i64.wrap (1 + r_3)) != 1))) ?_
 refine sgq 42 (B := ((i64.wrap (1 + r_3)) != 1)) (v := vi r_1) rfl rfl (uT_ 41) (fun hg => (ym (vi r_1) rfl (hf.g 5 3))) ?_
 refine sgq 43 (B := ((i64.wrap (1 + r_3)) != 1)) (v := vi r_2) rfl rfl (uT_ 41) (fun hg1 => (ym (vi r_2) rfl (hf.g 6 4))) ?_
 refine sgq 44 (B := ((i64.wrap (1 + r_3)) != 1)) (v := .bool (r_1 == r_2)) rfl rfl (uT_ 41) (fun hg2 => (yE r_1 r_2 rfl (gv_of (v := vi r_1) hg2) (gv_of (v := vi r_2) hg2))) ?_
 refine sQ 45 (Y_and (b := ((i64.wrap (1 + r_3)) != 1)) (z := (r_1 == r_2)) rfl rfl rfl rfl) (rn ?_)
 refine cw_cond (b := (((i64.wrap (1 + r_3)) != 1) && (r_1 == r_2))) rfl (fun hb2 => ?_) (fun hb2 => ?_)
 ·skip
  have hF6 := ct hF1 hb2
  refine cq (cr ?_)
  refine sQ 46 (ym (vi r_1) rfl (hf.g 5 3)) <| sQ 47 (ym (pt B 0) rfl (hf.g 0 0)) ?_
  obtain ⟨⟨r_8, m6⟩, hc7, hF6⟩ := bI hF6
  refine sc 48 rfl rfl (yC [pt B 0, vi 7] K24 (c_spec_l1Cur_pick (Tl1Cur.mk c.code at_ seed) 7 B B1 c1 c.code.length _ rfl (hS10.inn [true, false, false] rfl [(true, 0)] rfl) hc7)) ?_
  rintro _ w_13 ⟨rfl, hd7⟩
  have hS15 := hS10.out [true, false, false] rfl hd7
  refine sQ 49 (yP 1 r_8) <| sQ 50 (Y_buildS (zs := [vi 0, vi 0, vi 0, vi 0]) (vs := [(0, vi 1), (1, vi r_1), (3, vi (i64.wrap (1 + r_8)))]) (cs := [vi 1, vi r_1, vi 0, vi (i64.wrap (1 + r_8))]) K50 K30 rfl (mpc rfl (mpc rfl (mpc rfl mpn))) rfl) ?_
  refine s0 (yT 0 4 (aD b) 25 (.agg #[vi 1, vi r_1, vi 0, vi (i64.wrap (1 + r_8))]) [vi 1, vi r_1, vi 0, vi (i64.wrap (1 + r_8))] 0 hS15 K11 rfl (hf.g 4 2)) ?_
  rintro _ w_14 ⟨rfl, hS16⟩
  refine rn (ct_ ?_)
  obtain ⟨rfl, rfl⟩ := pr2 (sI hF6)
  exact ret1 Tryz.results42 (v1 := .agg #[vi 1, vi r_1, vi 0, vi (i64.wrap (1 + r_8))]) (resAt_cellA (B := aD b) (i := 0) (cs := [vi 1, vi r_1, vi 0, vi (i64.wrap (1 + r_8))]) (vs := [vi 1, vi r_1, vi 0, vi (i64.wrap (1 + r_8))]) (hf.g 4 2) K26 K11 (hS16.c 0) rfl rfl) ⟨rfl, (hS16.sN [2])⟩
 ·skip
  have hF7 := cf' hF1 hb2
  refine cw_skip (cq ?_)
  obtain ⟨z1, hz1, hF8⟩ := bI hF7
  refine cw_mid (fun f w => ∃ (at_1 : Int) (seed1 : Int) (M_1 : Int), (at_1, seed1, M_1) = z1 ∧ FF f [(0, pt B 0), (1, vi n1), (4, pt (aD b) 0), (7, pt (aD b1) 0)] ∧ ST w0 (bl [⟨B, 55, [.slice B1 c.code.length c1, vi c.at_, .int .u64 c.seed], 3⟩]) w [⟨B, 55, [.slice B1 c.code.length c1, vi at_1, .int .u64 seed1], 3⟩, ⟨aD b, 25, [vi 0, vi 0, vi 0, vi 0], 4⟩, ⟨aD b1, 25, [vi (i64.wrap (1 + r_3)), vi r_4, vi J, vi M_1], 4⟩] [⟨B1, (c.code.flatMap enc_u8)⟩]) ?_ ?_
  ·skip
   refine cq (cr ?_)
   refine sQ 51 (ym (pt B 0) rfl (hf.g 0 0)) ?_
   obtain ⟨⟨r_9, m7⟩, hc8, hz1⟩ := bI hz1
   refine sc 52 rfl rfl (yC [pt B 0, vi 20] K55 (c_spec_l1Cur_one (Tl1Cur.mk c.code at_ seed) 20 B B1 c1 c.code.length _ rfl (hS10.inn [true, false, false] rfl [(true, 0)] rfl) hc8)) ?_
   rintro _ w_15 ⟨rfl, hd8⟩
   have hS18 := hS10.out [true, false, false] rfl hd8
   have hS18 : ST w0 (bl [⟨B, 55, [.slice B1 c.code.length c1, vi c.at_, .int .u64 c.seed], 3⟩]) _ [⟨aD b, 25, [vi 0, vi 0, vi 0, vi 0], 4⟩, ⟨aD b1, 25, [vi (i64.wrap (1 + r_3)), vi r_4, vi J, vi M_], 4⟩, ⟨B, 55, [.slice B1 c.code.length c1, vi m7.at_, .int .u64 m7.seed], 3⟩] [⟨B1, (c.code.flatMap enc_u8)⟩] := hS18
   refine rn ?_
   refine cw_cond (b := r_9) rfl (fun hb3 => ?_) (fun hb3 => ?_)
   ·skip
    have hF9 := ct hz1 hb3
    refine cr ?_
    refine sQ 53 (ym (pt B 0) rfl (hf.g 0 0)) ?_
    refine sS 54 (Ys_bslice (s := 1) (len := 3) (vs := [(0, vi 8), (1, vi (-1)), (2, vi 0)]) (cs := [vi 8, vi (-1), vi 0]) (zs := [vi 0, vi 0, vi 0]) (m := 3) hS18 K27 K0 K38 rfl (mpc rfl (mpc rfl (mpc rfl mpn))) rfl rfl rfl (by kernel_rfl) (by kernel_rfl) rfl) ?_
    rintro _ w_16 ⟨b2, rfl, hS19⟩
    obtain ⟨⟨r_10, m8⟩, hc9, hF9⟩ := bI hF9
    refine sc 55 rfl rfl (yC [pt B 0, .slice (aD b2) 3 3] K47 (c_spec_l1Cur_among (Tl1Cur.mk c.code m7.at_ m7.seed) [8, (-1), 0] B B1 c1 c.code.length (aD b2) 3 3 _ rfl rfl (hS19.inn [false, false, true, false] rfl [(true, 0), (false, 2)] rfl) hc9)) ?_
    rintro _ w_17 ⟨rfl, hd9⟩
    have hS20 := hS19.out [false, false, true, false] rfl hd9
    refine sQ 56 (yd (aD b1) 0 0 K37 K0 rfl (hf.g 7 5)) ?_
    refine s0 (yS 1 1 (aD b1) 25 (vi r_10) [vi r_10] 3 [vi (i64.wrap (1 + r_3)), vi r_4, vi J, vi r_10] hS20 K0) ?_
    rintro _ w_18 ⟨rfl, hS21⟩
    refine rn ?_
    exact ⟨m8.at_, m8.seed, r_10, (sI hF9), (fc (hf.g 0 0) (fc (hf.g 1 1) (fc (hf.g 4 2) (fc (hf.g 7 5) fn_)))), (hS21.sel [3, 0, 1] rfl rfl)⟩
   ·skip
    have hF10 := cf' hz1 hb3
    refine cw_skip ?_
    exact ⟨m7.at_, m7.seed, M_, (sI hF10), (fc (hf.g 0 0) (fc (hf.g 1 1) (fc (hf.g 4 2) (fc (hf.g 7 5) fn_)))), (hS18.sel [2, 0, 1] rfl rfl)⟩
  rintro f w ⟨at_1, seed1, M_1, rfl, hf1, hS17⟩
  refine cq ?_
  obtain ⟨z2, hz2, hF11⟩ := bI hF8
  refine cw_mid (fun f w => ∃ (at_2 : Int) (seed2 : Int) (J1 : Int), (at_2, seed2, J1) = z2 ∧ FF f [(4, pt (aD b) 0), (7, pt (aD b1) 0)] ∧ ST w0 (bl [⟨B, 55, [.slice B1 c.code.length c1, vi c.at_, .int .u64 c.seed], 3⟩]) w [⟨B, 55, [.slice B1 c.code.length c1, vi at_2, .int .u64 seed2], 3⟩, ⟨aD b, 25, [vi 0, vi 0, vi 0, vi 0], 4⟩, ⟨aD b1, 25, [vi (i64.wrap (1 + r_3)), vi r_4, vi J1, vi M_1], 4⟩] [⟨B1, (c.code.flatMap enc_u8)⟩]) ?_ ?_
  ·skip
   refine cq (cr ?_)
   refine sQ 57 (ym (pt B 0) rfl (hf1.g 0 0)) ?_
   obtain ⟨⟨r_11, m9⟩, hc10, hz2⟩ := bI hz2
   refine sc 58 rfl rfl (yC [pt B 0, vi 20] K55 (c_spec_l1Cur_one (Tl1Cur.mk c.code at_1 seed1) 20 B B1 c1 c.code.length _ rfl (hS17.inn [true, false, false] rfl [(true, 0)] rfl) hc10)) ?_
   rintro _ w_19 ⟨rfl, hd10⟩
   have hS23 := hS17.out [true, false, false] rfl hd10
   refine rn ?_
   refine cw_cond (b := r_11) rfl (fun hb4 => ?_) (fun hb4 => ?_)
   ·skip
    have hF12 := ct hz2 hb4
    refine cr ?_
    refine sQ 59 (ym (pt B 0) rfl (hf1.g 0 0)) <| sQ 60 (ym (vi n1) rfl (hf1.g 1 1)) ?_
    refine sS 61 (Ys_bslice (s := 1) (len := 3) (vs := [(0, vi n1), (1, vi (-1)), (2, vi 0)]) (cs := [vi n1, vi (-1), vi 0]) (zs := [vi 0, vi 0, vi 0]) (m := 3) hS23 K27 K0 K38 rfl (mpc rfl (mpc rfl (mpc rfl mpn))) rfl rfl rfl (by kernel_rfl) (by kernel_rfl) rfl) ?_
    rintro _ w_20 ⟨b3, rfl, hS24⟩
    obtain ⟨⟨r_12, m10⟩, hc11, hF12⟩ := bI hF12
    refine sc 62 rfl rfl (yC [pt B 0, .slice (aD b3) 3 3] K47 (c_spec_l1Cur_among (Tl1Cur.mk c.code m9.at_ m9.seed) [n1, (-1), 0] B B1 c1 c.code.length (aD b3) 3 3 _ rfl rfl (hS24.inn [false, false, true, false] rfl [(true, 0), (false, 2)] rfl) hc11)) ?_
    rintro _ w_21 ⟨rfl, hd11⟩
    have hS25 := hS24.out [false, false, true, false] rfl hd11
    refine sQ 63 (yd (aD b1) 0 0 K39 K0 rfl (hf1.g 7 3)) ?_
    refine s0 (yS 1 1 (aD b1) 25 (vi r_12) [vi r_12] 2 [vi (i64.wrap (1 + r_3)), vi r_4, vi r_12, vi M_1] hS25 K0) ?_
    rintro _ w_22 ⟨rfl, hS26⟩
    refine rn ?_
    exact ⟨m10.at_, m10.seed, r_12, (sI hF12), (fc (hf1.g 4 2) (fc (hf1.g 7 3) fn_)), (hS26.sel [3, 0, 1] rfl rfl)⟩
   ·skip
    have hF13 := cf' hz2 hb4
    refine cw_skip ?_
    exact ⟨m9.at_, m9.seed, J, (sI hF13), (fc (hf1.g 4 2) (fc (hf1.g 7 3) fn_)), (hS23.sel [2, 0, 1] rfl rfl)⟩
  rintro f w ⟨at_2, seed2, J1, rfl, hf2, hS22⟩
  refine cq (cr ?_)
  refine sQ 64 (yb (aD b1) 0 [vi (i64.wrap (1 + r_3)), vi r_4, vi J1, vi M_1] K26 K11 (hS22.c 2) rfl (hf2.g 7 1)) ?_
  refine s0 (yT 1 4 (aD b) 25 (.agg #[vi (i64.wrap (1 + r_3)), vi r_4, vi J1, vi M_1]) [vi (i64.wrap (1 + r_3)), vi r_4, vi J1, vi M_1] 0 hS22 K11 rfl (hf2.g 4 0)) ?_
  rintro _ w_23 ⟨rfl, hS27⟩
  have hS27 : ST w0 (bl [⟨B, 55, [.slice B1 c.code.length c1, vi c.at_, .int .u64 c.seed], 3⟩]) _ [⟨B, 55, [.slice B1 c.code.length c1, vi at_2, .int .u64 seed2], 3⟩, ⟨aD b, 25, [vi (i64.wrap (1 + r_3)), vi r_4, vi J1, vi M_1], 4⟩, ⟨aD b1, 25, [vi (i64.wrap (1 + r_3)), vi r_4, vi J1, vi M_1], 4⟩] [⟨B1, (c.code.flatMap enc_u8)⟩] := hS27
  refine rn (ct_ ?_)
  obtain ⟨rfl, rfl⟩ := pr2 (sI hF11)
  exact ret1 Tryz.results42 (v1 := .agg #[vi (i64.wrap (1 + r_3)), vi r_4, vi J1, vi M_1]) (resAt_cellA (B := aD b) (i := 0) (cs := [vi (i64.wrap (1 + r_3)), vi r_4, vi J1, vi M_1]) (vs := [vi (i64.wrap (1 + r_3)), vi r_4, vi J1, vi M_1]) (hf2.g 4 0) K26 K11 (hS27.c 1) rfl rfl) ⟨rfl, (hS27.sN [0])⟩

theorem c_spec_DrawIsValidTwoLevel (code : List Int) (B : Option Addr) (c n : Nat) (w0 : World) (hn : code.length = n) (hS : ST w0 [] w0 [] [⟨B, (code.flatMap enc_u8)⟩]) {r_ : Int} {r_1 : TTwoLevel} (hF : F_spec_DrawIsValidTwoLevel code = some (r_, r_1)) :
  CV Tryz.prog 16 #[.slice B n c] w0 (fun v w' => v = .tuple #[vi r_, .agg #[vi r_1.Kind, vi r_1.I, vi r_1.J, vi r_1.M_]] ∧ ST w0 [] w' [] []) := by
 subst hn
 unfold F_spec_DrawIsValidTwoLevel at hF
 refine cv_of_cw 15 Tryz.func16 rfl Tryz.ntmps16 rfl ?_
 refine cq (cr ?_)
 refine sQ 2 (yg (vi 0)) ?_
 refine sS 3 (yN [vi 0, vi 0, vi 0, vi 0] 4 hS K30) ?_
 rintro _ w_ ⟨b, rfl, hS1⟩
 refine rn (cq (cr ?_))
 refine sQ 6 (ym (.slice B code.length c)) <| sQ 7 (Y_buildS (zs := [.slice none 0 0, vi 0, .int .u64 0]) (vs := [(0, .slice B code.length c)]) (cs := [.slice B code.length c, vi 0, .int .u64 0]) k_pl_55 k_zero_55 rfl (mpc rfl mpn) rfl) ?_
 refine sS 8 (yB 55 (.agg #[.slice B code.length c, vi 0, .int .u64 0]) [.slice B code.length c, vi 0, .int .u64 0] 3 hS1) ?_
 rintro _ w_1 ⟨b1, rfl, hS2⟩
 refine sQ 4 (yg (pt (aD b1) 0)) (rn (cq (cr ?_)))
 refine sQ 9 (ym (pt (aD b1) 0)) ?_
 obtain ⟨⟨r_2, m⟩, hc, hF⟩ := bI hF
 refine sc 10 rfl rfl (yC [pt (aD b1) 0] k_call_41 (c_spec_l1Cur_dim (Tl1Cur.mk code 0 0) (aD b1) B c code.length _ rfl (hS2.inn [false, true] rfl [(true, 0)] rfl) hc)) ?_
 rintro _ w_2 ⟨rfl, hd⟩
 have hS3 := hS2.out [false, true] rfl hd
 refine sQ 5 (yg (vi r_2)) (rn (cq (cr ?_)))
 refine sQ 11 (ym (vi r_2)) <| sQ 12 (ym (pt (aD b1) 0)) <| sQ 13 (ym (vi r_2)) ?_
 obtain ⟨⟨r_3, m1⟩, hc1, hF⟩ := bI hF
 refine sc 14 rfl rfl (yC [pt (aD b1) 0, vi r_2] k_call_42 (c_spec_l1Cur_level (Tl1Cur.mk code m.at_ m.seed) r_2 (aD b1) B c code.length _ rfl (hS3.inn [false, true] rfl [(true, 0)] rfl) hc1)) ?_
 rintro _ w_3 ⟨rfl, hd1⟩
 have hS4 := hS3.out [false, true] rfl hd1
 refine sQ 2 (yg (vi r_2)) ?_
 refine s0 (yT 0 4 (aD b) 25 (.agg #[vi r_3.Kind, vi r_3.I, vi r_3.J, vi r_3.M_]) [vi r_3.Kind, vi r_3.I, vi r_3.J, vi r_3.M_] 0 hS4 K11) ?_
 rintro _ w_4 ⟨rfl, hS5⟩
 refine rn (ct_ ?_)
 obtain ⟨rfl, rfl⟩ := pr2 (sI hF)
 exact ret2 Tryz.results16 (v1 := vi r_2) (resAt_tmp rfl) (v2 := .agg #[vi r_3.Kind, vi r_3.I, vi r_3.J, vi r_3.M_]) (resAt_cellA (B := aD b) (i := 0) (cs := [vi r_3.Kind, vi r_3.I, vi r_3.J, vi r_3.M_]) (vs := [vi r_3.Kind, vi r_3.I, vi r_3.J, vi r_3.M_]) rfl K26 K11 (hS5.c 0) rfl rfl) ⟨rfl, (hS5.sN [])⟩

theorem c_spec_DrawInverseTwoLevel (code : List Int) (B : Option Addr) (c n : Nat) (w0 : World) (hn : code.length = n) (hS : ST w0 [] w0 [] [⟨B, (code.flatMap enc_u8)⟩]) {r_ : Int} {r_1 : TTwoLevel} (hF : F_spec_DrawInverseTwoLevel code = some (r_, r_1)) :
  CV Tryz.prog 5 #[.slice B n c] w0 (fun v w' => v = .tuple #[vi r_, .agg #[vi r_1.Kind, vi r_1.I, vi r_1.J, vi r_1.M_]] ∧ ST w0 [] w' [] []) := by
 subst hn
 unfold F_spec_DrawInverseTwoLevel at hF
 refine cv_of_cw 8 Tryz.func5 rfl Tryz.ntmps5 rfl ?_
 refine cq (cr ?_)
 refine sQ 2 (yg (vi 0)) ?_
 refine sS 3 (yN [vi 0, vi 0, vi 0, vi 0] 4 hS K30) ?_
 rintro _ w_ ⟨b, rfl, hS1⟩
 refine rn (cq (cr ?_))
 refine sQ 4 (ym (.slice B code.length c)) ?_
 obtain ⟨⟨r_2, r_3⟩, hc, hF⟩ := bI hF
 refine sc 5 rfl rfl (yC [.slice B code.length c] k_call_16 (c_spec_DrawIsValidTwoLevel code B c code.length _ rfl (hS1.inn0 [(true, 0)] rfl) hc)) ?_
 rintro _ w_1 ⟨rfl, hd⟩
 have hS2 := hS1.out00 hd
 refine sQ 6 (ye (vi r_2)) <| sQ 7 (ye (.agg #[vi r_3.Kind, vi r_3.I, vi r_3.J, vi r_3.M_])) <| sQ 2 (yg (vi r_2)) ?_
 refine s0 (yT 0 4 (aD b) 25 (.agg #[vi r_3.Kind, vi r_3.I, vi r_3.J, vi r_3.M_]) [vi r_3.Kind, vi r_3.I, vi r_3.J, vi r_3.M_] 0 hS2 K11) ?_
 rintro _ w_2 ⟨rfl, hS3⟩
 refine rn (ct_ ?_)
 obtain ⟨rfl, rfl⟩ := pr2 (sI hF)
 exact ret2 Tryz.results5 (v1 := vi r_2) (resAt_tmp rfl) (v2 := .agg #[vi r_3.Kind, vi r_3.I, vi r_3.J, vi r_3.M_]) (resAt_cellA (B := aD b) (i := 0) (cs := [vi r_3.Kind, vi r_3.I, vi r_3.J, vi r_3.M_]) (vs := [vi r_3.Kind, vi r_3.I, vi r_3.J, vi r_3.M_]) rfl K26 K11 (hS3.c 0) rfl rfl) ⟨rfl, (hS3.sN [])⟩

theorem c_impl_isLevelDim (n : Int)  (w0 : World)  (hS : ST w0 [] w0 [] []) {r_ : Bool} (hF : F_impl_isLevelDim n = some r_) :
  CV Tryz.prog 20 #[vi n] w0 (fun v w' => v = .bool r_ ∧ ST w0 [] w' [] []) := by
 unfold F_impl_isLevelDim at hF
 refine cv_of_cw 13 Tryz.func20 rfl Tryz.ntmps20 rfl ?_
 refine cq (cr ?_)
 refine sQ 2 (yg (.bool false)) (rn (cq (cr ?_)))
 refine sQ 3 (ym (vi n)) <| sQ 4 (yE n 2) <| sQ 5 (ym (.bool (n == 2))) ?_
 refine sgq 6 (B := (!(n == 2))) (v := vi n) rfl rfl (uF_ 5) (fun hg => (ym (vi n))) ?_
 refine sgq 7 (B := (!(n == 2))) (v := .bool (n == 4)) rfl rfl (uF_ 5) (fun hg1 => (yE n 4 rfl (gv_of (v := vi n) hg1))) ?_
 refine sQ 8 (Y_or (b := (n == 2)) (z := (n == 4)) rfl rfl rfl rfl) <| sQ 9 (ym (.bool ((n == 2) || (n == 4)))) ?_
 refine sgq 10 (B := (!((n == 2) || (n == 4)))) (v := vi n) rfl rfl (uF_ 9) (fun hg2 => (ym (vi n))) ?_
 refine sgq 11 (B := (!((n == 2) || (n == 4)))) (v := .bool (n == 8)) rfl rfl (uF_ 9) (fun hg3 => (yE n 8 rfl (gv_of (v := vi n) hg3))) ?_
 refine sQ 12 (Y_or (b := ((n == 2) || (n == 4))) (z := (n == 8)) rfl rfl rfl rfl) <| sQ 2 (yg (.bool (((n == 2) || (n == 4)) || (n == 8)))) (rn (ct_ ?_))
 obtain rfl := sI hF
 exact ret1 Tryz.results20 (v1 := .bool (((n == 2) || (n == 4)) || (n == 8))) (resAt_tmp rfl) ⟨rfl, (hS.sN [])⟩

theorem c_impl_within (n : Int) (low : Int) (high : Int)  (w0 : World)  (hS : ST w0 [] w0 [] []) {r_ : Bool} (hF : F_impl_within n low high = some r_) :
  CV Tryz.prog 43 #[vi n, vi low, vi high] w0 (fun v w' => v = .bool r_ ∧ ST w0 [] w' [] []) := by
 unfold F_impl_within at hF
 refine cv_of_cw 15 Tryz.func43 rfl Tryz.ntmps43 rfl ?_
 refine cq (cr ?_)
 refine sQ 6 (yg (.bool false)) (rn (cq (cr ?_)))
 refine sQ 7 (ym (vi low)) <| sQ 8 (ym (vi n)) <| sQ 9 (Y_le (k := .i64) (a := low) (b := n) rfl rfl rfl) <| sQ 10 (ym (.bool (decide (low ≤ n)))) ?_
 refine sgq 11 (B := (decide (low ≤ n))) (v := vi n) rfl rfl (uT_ 10) (fun hg => (ym (vi n))) ?_
 refine sgq 12 (B := (decide (low ≤ n))) (v := vi high) rfl rfl (uT_ 10) (fun hg1 => (ym (vi high))) ?_
 refine sgq 13 (B := (decide (low ≤ n))) (v := .bool (decide (n ≤ high))) rfl rfl (uT_ 10) (fun hg2 => (Y_le (k := .i64) (a := n) (b := high) rfl (gv_of (v := vi n) hg2) (gv_of (v := vi high) hg2))) ?_
 refine sQ 14 (Y_and (b := (decide (low ≤ n))) (z := (decide (n ≤ high))) rfl rfl rfl rfl) <| sQ 6 (yg (.bool ((decide (low ≤ n)) && (decide (n ≤ high))))) (rn (ct_ ?_))
 obtain rfl := sI hF
 exact ret1 Tryz.results43 (v1 := .bool ((decide (low ≤ n)) && (decide (n ≤ high)))) (resAt_tmp rfl) ⟨rfl, (hS.sN [])⟩

theorem c_impl_IsValidTwoLevel (n : Int) (t : TTwoLevel)  (w0 : World)  (hS : ST w0 [] w0 [] []) {r_ : Bool} (hF : F_impl_IsValidTwoLevel n t = some r_) :
  CV Tryz.prog 17 #[vi n, .agg #[vi t.Kind, vi t.I, vi t.J, vi t.M_]] w0 (fun v w' => v = .bool r_ ∧ ST w0 [] w' [] []) := by
 unfold F_impl_IsValidTwoLevel at hF
 refine cv_of_cw 58 Tryz.func17 rfl Tryz.ntmps17 rfl ?_
 refine cq (cr ?_)
 refine sS 3 (yB 25 (.agg #[vi t.Kind, vi t.I, vi t.J, vi t.M_]) [vi t.Kind, vi t.I, vi t.J, vi t.M_] 4 hS) ?_
 rintro _ w_ ⟨b, rfl, hS1⟩
 refine sQ 4 (yg (.bool false)) (rn (cq (cq (cr ?_))))
 refine sQ 5 (ym (vi n)) ?_
 obtain ⟨r_1, hc, hF⟩ := bI hF
 refine sc 6 rfl rfl (yC [vi n] K106 (c_impl_isLevelDim n _  (hS1.inn0 [] rfl) hc)) ?_
 rintro _ w_1 ⟨rfl, hd⟩
 have hS2 := hS1.out00 hd
 refine sQ 7 (Y_not (p := r_1) rfl rfl) <| sQ 8 (ym (.bool (!r_1))) ?_
 refine sgq 9 (B := (!(!r_1))) (v := pt (aD b) 1) rfl rfl (uF_ 8) (fun hg => (yd (aD b) 0 0 K36 K0)) ?_
 refine sgq 10 (B := (!(!r_1))) (v := vi t.I) rfl rfl (uF_ 8) (fun hg1 => (yl (aD b) 1 [vi t.Kind, vi t.I, vi t.J, vi t.M_] (vi t.I) K1 (hS2.c 0) rfl (gv_of (v := pt (aD b) 1) hg1))) ?_
 refine sgq 11 (B := (!(!r_1))) (v := vi n) rfl rfl (uF_ 8) (fun hg2 => (ym (vi n))) ?_
 refine sgq 12 (B := (!(!r_1))) (v := vi (i64.wrap (n - 1))) rfl rfl (uF_ 8) (fun hg3 => (yM n 1 rfl (gv_of (v := vi n) hg3))) ?_
 obtain ⟨r_2, hc1, hF⟩ := bI hF
 refine sgc 13 (B := (!(!r_1))) (v := .bool r_2) (F := hS2.fn) rfl rfl (uF_ 8) hS2 (fun hg4 => (yC [vi t.I, vi 0, vi (i64.wrap (n - 1))] K48 (CV.mono (c_impl_within t.I 0 (i64.wrap (n - 1)) _  (hS2.inn0 [] rfl) (gb_inv hc1 hg4)) (by rintro _ _ ⟨rfl, h⟩; exact ⟨rfl, hS2.out00 h⟩)) rfl (mc (gv_of (v := vi t.I) hg4) (mc rfl (mc (gv_of (v := vi (i64.wrap (n - 1))) hg4) mn))))) ?_
 rintro w_2 hS3
 refine sgq 14 (B := (!(!r_1))) (v := .bool (!r_2)) rfl rfl (uF_ 8) (fun hg5 => (Y_not (p := r_2) rfl (gv_of (v := .bool r_2) hg5))) ?_
 refine sQ 15 (Y_or (b := (!r_1)) (z := (!r_2)) rfl rfl rfl rfl) (rn ?_)
 refine cw_cond (b := ((!r_1) || (!r_2))) rfl (fun hb => ?_) (fun hb => ?_)
 ·skip
  have hF1 := ct hF hb
  refine cq (cr ?_)
  refine sQ 4 (yg (.bool false)) (rn (ct_ ?_))
  obtain rfl := sI hF1
  exact ret1 Tryz.results17 (v1 := .bool false) (resAt_tmp rfl) ⟨rfl, (hS3.sN [])⟩
 ·skip
  have hF2 := cf' hF hb
  refine cw_skip (cq (cq (cr ?_)))
  refine sQ 16 (yd (aD b) 0 0 K42 K0) <| sQ 17 (yl (aD b) 0 [vi t.Kind, vi t.I, vi t.J, vi t.M_] (vi t.Kind) K1 (hS3.c 0)) (rn (cw_block (cq (cr ?_))))
  refine sQ 19 (yE t.Kind 1) <| sQ 18 (yg (.bool (t.Kind == 1))) (rn ?_)
  refine cw_cond (b := (t.Kind == 1)) rfl (fun hb1 => ?_) (fun hb1 => ?_)
  ·skip
   have hF3 := ct hF2 hb1
   refine cq (cr ?_)
   refine sQ 20 (yd (aD b) 0 0 K39 K0) <| sQ 21 (yl (aD b) 2 [vi t.Kind, vi t.I, vi t.J, vi t.M_] (vi t.J) K1 (hS3.c 0)) <| sQ 22 (yE t.J 0) <| sQ 23 (ym (.bool (t.J == 0))) ?_
   refine sgq 24 (B := (t.J == 0)) (v := pt (aD b) 3) rfl rfl (uT_ 23) (fun hg6 => (yd (aD b) 0 0 K37 K0)) ?_
   refine sgq 25 (B := (t.J == 0)) (v := vi t.M_) rfl rfl (uT_ 23) (fun hg7 => (yl (aD b) 3 [vi t.Kind, vi t.I, vi t.J, vi t.M_] (vi t.M_) K1 (hS3.c 0) rfl (gv_of (v := pt (aD b) 3) hg7))) ?_
   obtain ⟨r_3, hc2, hF3⟩ := bI hF3
   refine sgc 26 (B := (t.J == 0)) (v := .bool r_3) (F := hS3.fn) rfl rfl (uT_ 23) hS3 (fun hg8 => (yC [vi t.M_, vi 1, vi 7] K48 (CV.mono (c_impl_within t.M_ 1 7 _  (hS3.inn0 [] rfl) (gb_inv hc2 hg8)) (by rintro _ _ ⟨rfl, h⟩; exact ⟨rfl, hS3.out00 h⟩)) rfl (mc (gv_of (v := vi t.M_) hg8) (mc rfl (mc rfl mn))))) ?_
   rintro w_3 hS4
   refine sQ 27 (Y_and (b := (t.J == 0)) (z := r_3) rfl rfl rfl rfl) <| sQ 4 (yg (.bool ((t.J == 0) && r_3))) (rn (ct_ ?_))
   obtain rfl := sI hF3
   exact ret1 Tryz.results17 (v1 := .bool ((t.J == 0) && r_3)) (resAt_tmp rfl) ⟨rfl, (hS4.sN [])⟩
  ·skip
   have hF4 := cf' hF2 hb1
   refine cq (cr ?_)
   refine sQ 29 (yE t.Kind 2) <| sQ 28 (yg (.bool (t.Kind == 2))) (rn ?_)
   refine cw_cond (b := (t.Kind == 2)) rfl (fun hb2 => ?_) (fun hb2 => ?_)
   ·skip
    have hF5 := ct hF4 hb2
    refine cq (cr ?_)
    refine sQ 30 (yd (aD b) 0 0 K39 K0) <| sQ 31 (yl (aD b) 2 [vi t.Kind, vi t.I, vi t.J, vi t.M_] (vi t.J) K1 (hS3.c 0)) <| sQ 32 (yd (aD b) 0 0 K36 K0) <| sQ 33 (yl (aD b) 1 [vi t.Kind, vi t.I, vi t.J, vi t.M_] (vi t.I) K1 (hS3.c 0)) <| sQ 34 (yP t.I 1) <| sQ 35 (ym (vi n)) ?_
    refine sQ 36 (yM n 1) ?_
    obtain ⟨r_4, hc3, hF5⟩ := bI hF5
    refine sc 37 rfl rfl (yC [vi t.J, vi (i64.wrap (t.I + 1)), vi (i64.wrap (n - 1))] K48 (c_impl_within t.J (i64.wrap (t.I + 1)) (i64.wrap (n - 1)) _  (hS3.inn0 [] rfl) hc3)) ?_
    rintro _ w_4 ⟨rfl, hd1⟩
    have hS5 := hS3.out00 hd1
    refine sQ 38 (ym (.bool r_4)) ?_
    refine sgq 39 (B := r_4) (v := pt (aD b) 3) rfl rfl (uT_ 38) (fun hg9 => (yd (aD b) 0 0 K37 K0)) ?_
    refine sgq 40 (B := r_4) (v := vi t.M_) rfl rfl (uT_ 38) (fun hg10 => (yl (aD b) 3 [vi t.Kind, vi t.I, vi t.J, vi t.M_] (vi t.M_) K1 (hS5.c 0) rfl (gv_of (v := pt (aD b) 3) hg10))) ?_
    refine sgq 41 (B := r_4) (v := .bool (t.M_ == 0)) rfl rfl (uT_ 38) (fun hg11 => (yE t.M_ 0 rfl (gv_of (v := vi t.M_) hg11))) ?_
    refine sQ 42 (Y_and (b := r_4) (z := (t.M_ == 0)) rfl rfl rfl rfl) <| sQ 4 (yg (.bool (r_4 && (t.M_ == 0)))) (rn (ct_ ?_))
    obtain rfl := sI hF5
    exact ret1 Tryz.results17 (v1 := .bool (r_4 && (t.M_ == 0))) (resAt_tmp rfl) ⟨rfl, (hS5.sN [])⟩
   ·skip
    have hF6 := cf' hF4 hb2
    refine cq (cr ?_)
    refine sQ 44 (yE t.Kind 3) <| sQ 43 (yg (.bool (t.Kind == 3))) (rn ?_)
    refine cw_cond (b := (t.Kind == 3)) rfl (fun hb3 => ?_) (fun hb3 => ?_)
    ·skip
     have hF7 := ct hF6 hb3
     refine cq (cr ?_)
     refine sQ 45 (yd (aD b) 0 0 K39 K0) <| sQ 46 (yl (aD b) 2 [vi t.Kind, vi t.I, vi t.J, vi t.M_] (vi t.J) K1 (hS3.c 0)) <| sQ 47 (yd (aD b) 0 0 K36 K0) <| sQ 48 (yl (aD b) 1 [vi t.Kind, vi t.I, vi t.J, vi t.M_] (vi t.I) K1 (hS3.c 0)) <| sQ 49 (yP t.I 1) <| sQ 50 (ym (vi n)) ?_
     refine sQ 51 (yM n 1) ?_
     obtain ⟨r_5, hc4, hF7⟩ := bI hF7
     refine sc 52 rfl rfl (yC [vi t.J, vi (i64.wrap (t.I + 1)), vi (i64.wrap (n - 1))] K48 (c_impl_within t.J (i64.wrap (t.I + 1)) (i64.wrap (n - 1)) _  (hS3.inn0 [] rfl) hc4)) ?_
     rintro _ w_5 ⟨rfl, hd2⟩
     have hS6 := hS3.out00 hd2
     refine sQ 53 (ym (.bool r_5)) ?_
     refine sgq 54 (B := r_5) (v := pt (aD b) 3) rfl rfl (uT_ 53) (fun hg12 => (yd (aD b) 0 0 K37 K0)) ?_
     refine sgq 55 (B := r_5) (v := vi t.M_) rfl rfl (uT_ 53) (fun hg13 => (yl (aD b) 3 [vi t.Kind, vi t.I, vi t.J, vi t.M_] (vi t.M_) K1 (hS6.c 0) rfl (gv_of (v := pt (aD b) 3) hg13))) ?_
     obtain ⟨r_6, hc5, hF7⟩ := bI hF7
     refine sgc 56 (B := r_5) (v := .bool r_6) (F := hS6.fn) rfl rfl (uT_ 53) hS6 (fun hg14 => (yC [vi t.M_, vi 0, vi 7] K48 (CV.mono (c_impl_within t.M_ 0 7 _  (hS6.inn0 [] rfl) (gb_inv hc5 hg14)) (by rintro _ _ ⟨rfl, h⟩; exact ⟨rfl, hS6.out00 h⟩)) rfl (mc (gv_of (v := vi t.M_) hg14) (mc rfl (mc rfl mn))))) ?_
     rintro w_6 hS7
     refine sQ 57 (Y_and (b := r_5) (z := r_6) rfl rfl rfl rfl) <| sQ 4 (yg (.bool (r_5 && r_6))) (rn (ct_ ?_))
     obtain rfl := sI hF7
     exact ret1 Tryz.results17 (v1 := .bool (r_5 && r_6)) (resAt_tmp rfl) ⟨rfl, (hS7.sN [])⟩
    ·skip
     have hF8 := cf' hF6 hb3
     refine cw_skip (cq (cr ?_))
     refine sQ 4 (yg (.bool false)) (rn (ct_ ?_))
     obtain rfl := sI hF8
     exact ret1 Tryz.results17 (v1 := .bool false) (resAt_tmp rfl) ⟨rfl, (hS3.sN [])⟩

theorem c_impl_inverseLevels (t : TTwoLevel)  (w0 : World)  (hS : ST w0 [] w0 [] []) {r_ : List TTwoLevel} (hF : F_impl_inverseLevels t = some r_) :
  CV Tryz.prog 18 #[.agg #[vi t.Kind, vi t.I, vi t.J, vi t.M_]] w0 (fun v w' => ∃ (B : Option Addr) (c : Nat), v = .slice B r_.length c ∧ ST w0 [] w' [⟨B, 25, (r_.flatMap eN2), c * 4⟩] []) := by
 unfold F_impl_inverseLevels at hF
 refine cv_of_cw 37 Tryz.func18 rfl Tryz.ntmps18 rfl ?_
 refine cq (cr ?_)
 refine sS 1 (yB 25 (.agg #[vi t.Kind, vi t.I, vi t.J, vi t.M_]) [vi t.Kind, vi t.I, vi t.J, vi t.M_] 4 hS) ?_
 rintro _ w_ ⟨b, rfl, hS1⟩
 refine sQ 2 (yg (.slice none 0 0)) (rn (cq (cw_block (cq (cr ?_)))))
 refine sQ 4 (yd (aD b) 0 0 K42 K0) <| sQ 5 (yl (aD b) 0 [vi t.Kind, vi t.I, vi t.J, vi t.M_] (vi t.Kind) K1 (hS1.c 0)) <| sQ 6 (yE t.Kind 1) <| sQ 3 (yg (.bool (t.Kind == 1))) (rn ?_)
 refine cw_cond (b := (t.Kind == 1)) rfl (fun hb => ?_) (fun hb => ?_)
 ·skip
  have hF1 := ct hF hb
  refine cq (cr ?_)
  refine sQ 7 (yd (aD b) 0 0 K36 K0) <| sQ 8 (yl (aD b) 1 [vi t.Kind, vi t.I, vi t.J, vi t.M_] (vi t.I) K1 (hS1.c 0)) <| sQ 9 (yd (aD b) 0 0 K37 K0) <| sQ 10 (yl (aD b) 3 [vi t.Kind, vi t.I, vi t.J, vi t.M_] (vi t.M_) K1 (hS1.c 0)) <| sQ 11 (yM 8 t.M_) <| sQ 12 (Y_buildS (zs := [vi 0, vi 0, vi 0, vi 0]) (vs := [(0, vi 1), (1, vi t.I), (2, vi 0), (3, vi (i64.wrap (8 - t.M_)))]) (cs := [vi 1, vi t.I, vi 0, vi (i64.wrap (8 - t.M_))]) K50 K30 rfl (mpc rfl (mpc rfl (mpc rfl (mpc rfl mpn)))) rfl) ?_
  refine sS 13 (Ys_bslice (s := 4) (len := 1) (vs := [(0, .agg #[vi 1, vi t.I, vi 0, vi (i64.wrap (8 - t.M_))])]) (cs := [vi 1, vi t.I, vi 0, vi (i64.wrap (8 - t.M_))]) (zs := [vi 0, vi 0, vi 0, vi 0]) (m := 4) hS1 K28 K11 K52 rfl (mpc rfl mpn) rfl rfl rfl (by kernel_rfl) (by kernel_rfl) rfl) ?_
  rintro _ w_1 ⟨b1, rfl, hS2⟩
  refine sQ 2 (yg (.slice (aD b1) 1 1)) (rn (ct_ ?_))
  obtain rfl := sI hF1
  exact ret1 Tryz.results18 (v1 := .slice (aD b1) 1 1) (resAt_tmp rfl) ⟨aD b1, 1, rfl, (hS2.sN [1])⟩
 ·skip
  have hF2 := cf' hF hb
  refine cq (cr ?_)
  refine sQ 15 (yd (aD b) 0 0 K42 K0) <| sQ 16 (yl (aD b) 0 [vi t.Kind, vi t.I, vi t.J, vi t.M_] (vi t.Kind) K1 (hS1.c 0)) <| sQ 17 (yE t.Kind 3) <| sQ 18 (ym (.bool (t.Kind == 3))) ?_
  refine sgq 19 (B := (t.Kind == 3)) (v := pt (aD b) 3) rfl rfl (uT_ 18) (fun hg => (yd (aD b) 0 0 K37 K0)) ?_
  refine sgq 20 (B := (t.Kind == 3)) (v := vi t.M_) rfl rfl (uT_ 18) (fun hg1 => (yl (aD b) 3 [vi t.Kind, vi t.I, vi t.J, vi t.M_] (vi t.M_) K1 (hS1.c 0) rfl (gv_of (v := pt (aD b) 3) hg1))) ?_
  refine sgq 21 (B := (t.Kind == 3)) (v := .bool (decide (0 < t.M_))) rfl rfl (uT_ 18) (fun hg2 => (Y_gt (k := .i64) (a := t.M_) (b := 0) rfl (gv_of (v := vi t.M_) hg2) rfl)) ?_
  refine sQ 22 (Y_and (b := (t.Kind == 3)) (z := (decide (0 < t.M_))) rfl rfl rfl rfl) <| sQ 14 (yg (.bool ((t.Kind == 3) && (decide (0 < t.M_))))) (rn ?_)
  refine cw_cond (b := ((t.Kind == 3) && (decide (0 < t.M_)))) rfl (fun hb1 => ?_) (fun hb1 => ?_)
  ·skip
   have hF3 := ct hF2 hb1
   refine cq (cr ?_)
   refine sQ 23 (yd (aD b) 0 0 K39 K0) <| sQ 24 (yl (aD b) 2 [vi t.Kind, vi t.I, vi t.J, vi t.M_] (vi t.J) K1 (hS1.c 0)) <| sQ 25 (yd (aD b) 0 0 K37 K0) <| sQ 26 (yl (aD b) 3 [vi t.Kind, vi t.I, vi t.J, vi t.M_] (vi t.M_) K1 (hS1.c 0)) <| sQ 27 (yM 8 t.M_) <| sQ 28 (Y_buildS (zs := [vi 0, vi 0, vi 0, vi 0]) (vs := [(0, vi 1), (1, vi t.J), (2, vi 0), (3, vi (i64.wrap (8 - t.M_)))]) (cs := [vi 1, vi t.J, vi 0, vi (i64.wrap (8 - t.M_))]) K50 K30 rfl (mpc rfl (mpc rfl (mpc rfl (mpc rfl mpn)))) rfl) ?_
   refine sQ 29 (yd (aD b) 0 0 K36 K0) <| sQ 30 (yl (aD b) 1 [vi t.Kind, vi t.I, vi t.J, vi t.M_] (vi t.I) K1 (hS1.c 0)) <| sQ 31 (yd (aD b) 0 0 K39 K0) <| sQ 32 (yl (aD b) 2 [vi t.Kind, vi t.I, vi t.J, vi t.M_] (vi t.J) K1 (hS1.c 0)) <| sQ 33 (Y_buildS (zs := [vi 0, vi 0, vi 0, vi 0]) (vs := [(0, vi 3), (1, vi t.I), (2, vi t.J), (3, vi 0)]) (cs := [vi 3, vi t.I, vi t.J, vi 0]) K50 K30 rfl (mpc rfl (mpc rfl (mpc rfl (mpc rfl mpn)))) rfl) ?_
   refine sS 34 (Ys_bslice (s := 4) (len := 2) (vs := [(0, .agg #[vi 1, vi t.J, vi 0, vi (i64.wrap (8 - t.M_))]), (1, .agg #[vi 3, vi t.I, vi t.J, vi 0])]) (cs := [vi 1, vi t.J, vi 0, vi (i64.wrap (8 - t.M_)), vi 3, vi t.I, vi t.J, vi 0]) (zs := [vi 0, vi 0, vi 0, vi 0, vi 0, vi 0, vi 0, vi 0]) (m := 8) hS1 K28 K11 K52 rfl (mpc rfl (mpc rfl mpn)) rfl rfl rfl (by kernel_rfl) (by kernel_rfl) rfl) ?_
   rintro _ w_2 ⟨b2, rfl, hS3⟩
   refine sQ 2 (yg (.slice (aD b2) 2 2)) (rn (ct_ ?_))
   obtain rfl := sI hF3
   exact ret1 Tryz.results18 (v1 := .slice (aD b2) 2 2) (resAt_tmp rfl) ⟨aD b2, 2, rfl, (hS3.sN [1])⟩
  ·skip
   have hF4 := cf' hF2 hb1
   refine cw_skip (cq (cr ?_))
   refine sQ 35 (yb (aD b) 0 [vi t.Kind, vi t.I, vi t.J, vi t.M_] K26 K11 (hS1.c 0)) ?_
   refine sS 36 (Ys_bslice (s := 4) (len := 1) (vs := [(0, .agg #[vi t.Kind, vi t.I, vi t.J, vi t.M_])]) (cs := [vi t.Kind, vi t.I, vi t.J, vi t.M_]) (zs := [vi 0, vi 0, vi 0, vi 0]) (m := 4) hS1 K28 K11 K52 rfl (mpc rfl mpn) rfl rfl rfl (by kernel_rfl) (by kernel_rfl) rfl) ?_
   rintro _ w_3 ⟨b3, rfl, hS4⟩
   refine sQ 2 (yg (.slice (aD b3) 1 1)) (rn (ct_ ?_))
   obtain rfl := sI hF4
   exact ret1 Tryz.results18 (v1 := .slice (aD b3) 1 1) (resAt_tmp rfl) ⟨aD b3, 1, rfl, (hS4.sN [1])⟩

theorem c_impl_InverseTwoLevel (n : Int) (t : TTwoLevel)  (w0 : World)  (hS : ST w0 [] w0 [] []) {r_ : List TTwoLevel} {r_1 : Bool} (hF : F_impl_InverseTwoLevel n t = some (r_, r_1)) :
  CV Tryz.prog 6 #[vi n, .agg #[vi t.Kind, vi t.I, vi t.J, vi t.M_]] w0 (fun v w' => ∃ (B : Option Addr) (c : Nat), v = .tuple #[.slice B r_.length c, .bool r_1] ∧ ST w0 [] w' [⟨B, 25, (r_.flatMap eN2), c * 4⟩] []) := by
 unfold F_impl_InverseTwoLevel at hF
 refine cv_of_cw 12 Tryz.func6 rfl Tryz.ntmps6 rfl ?_
 refine cq (cr ?_)
 refine sS 3 (yB 25 (.agg #[vi t.Kind, vi t.I, vi t.J, vi t.M_]) [vi t.Kind, vi t.I, vi t.J, vi t.M_] 4 hS) ?_
 rintro _ w_ ⟨b, rfl, hS1⟩
 refine sQ 4 (yg (.slice none 0 0)) <| sQ 5 (yg (.bool false)) (rn (cq (cq (cr ?_))))
 refine sQ 6 (ym (vi n)) <| sQ 7 (yb (aD b) 0 [vi t.Kind, vi t.I, vi t.J, vi t.M_] K26 K11 (hS1.c 0)) ?_
 obtain ⟨r_2, hc, hF⟩ := bI hF
 refine sc 8 rfl rfl (yC [vi n, .agg #[vi t.Kind, vi t.I, vi t.J, vi t.M_]] K107 (c_impl_IsValidTwoLevel n t _  (hS1.inn0 [] rfl) hc)) ?_
 rintro _ w_1 ⟨rfl, hd⟩
 have hS2 := hS1.out00 hd
 refine sQ 9 (Y_not (p := r_2) rfl rfl) (rn ?_)
 refine cw_cond (b := (!r_2)) rfl (fun hb => ?_) (fun hb => ?_)
 ·skip
  have hF1 := ct hF hb
  refine cq (cr ?_)
  refine sQ 4 (yg (.slice none 0 0)) <| sQ 5 (yg (.bool false)) (rn (ct_ ?_))
  have hS3 := hS2.addNil 25
  obtain ⟨rfl, rfl⟩ := pr2 (sI hF1)
  exact ret2 Tryz.results6 (v1 := .slice none 0 0) (resAt_tmp rfl) (v2 := .bool false) (resAt_tmp rfl) ⟨none, 0, rfl, (hS3.sN [1])⟩
 ·skip
  have hF2 := cf' hF hb
  refine cw_skip (cq (cr ?_))
  refine sQ 10 (yb (aD b) 0 [vi t.Kind, vi t.I, vi t.J, vi t.M_] K26 K11 (hS2.c 0)) ?_
  obtain ⟨r_3, hc1, hF2⟩ := bI hF2
  refine sc 11 rfl rfl (yC [.agg #[vi t.Kind, vi t.I, vi t.J, vi t.M_]] k_call_18 (c_impl_inverseLevels t _  (hS2.inn0 [] rfl) hc1)) ?_
  rintro _ w_2 ⟨B1, c1, rfl, hd1⟩
  have hS4 := hS2.out0 hd1
  refine sQ 4 (yg (.slice B1 r_3.length c1)) <| sQ 5 (yg (.bool true)) (rn (ct_ ?_))
  obtain ⟨rfl, rfl⟩ := pr2 (sI hF2)
  exact ret2 Tryz.results6 (v1 := .slice B1 r_3.length c1) (resAt_tmp rfl) (v2 := .bool true) (resAt_tmp rfl) ⟨B1, c1, rfl, (hS4.sN [1])⟩

theorem c_spec_l1In (n : Int) (lo : Int) (hi : Int)  (w0 : World)  (hS : ST w0 [] w0 [] []) {r_ : Bool} (hF : F_spec_l1In n lo hi = some r_) :
  CV Tryz.prog 40 #[vi n, vi lo, vi hi] w0 (fun v w' => v = .bool r_ ∧ ST w0 [] w' [] []) := by
 unfold F_spec_l1In at hF
 refine cv_of_cw 15 Tryz.func40 rfl Tryz.ntmps40 rfl ?_
 refine cq (cr ?_)
 refine sQ 6 (yg (.bool false)) (rn (cq (cr ?_)))
 refine sQ 7 (ym (vi n)) <| sQ 8 (ym (vi lo)) <| sQ 9 (Y_ge (k := .i64) (a := n) (b := lo) rfl rfl rfl) <| sQ 10 (ym (.bool (decide (lo ≤ n)))) ?_
 refine sgq 11 (B := (decide (lo ≤ n))) (v := vi n) rfl rfl (uT_ 10) (fun hg => (ym (vi n))) ?_
 refine sgq 12 (B := (decide (lo ≤ n))) (v := vi hi) rfl rfl (uT_ 10) (fun hg1 => (ym (vi hi))) ?_
 refine sgq 13 (B := (decide (lo ≤ n))) (v := .bool (decide (n ≤ hi))) rfl rfl (uT_ 10) (fun hg2 => (Y_le (k := .i64) (a := n) (b := hi) rfl (gv_of (v := vi n) hg2) (gv_of (v := vi hi) hg2))) ?_
 refine sQ 14 (Y_and (b := (decide (lo ≤ n))) (z := (decide (n ≤ hi))) rfl rfl rfl rfl) <| sQ 6 (yg (.bool ((decide (lo ≤ n)) && (decide (n ≤ hi))))) (rn (ct_ ?_))
 obtain rfl := sI hF
 exact ret1 Tryz.results40 (v1 := .bool ((decide (lo ≤ n)) && (decide (n ≤ hi)))) (resAt_tmp rfl) ⟨rfl, (hS.sN [])⟩

theorem c_spec_l11Dim (n : Int)  (w0 : World)  (hS : ST w0 [] w0 [] []) {r_ : Bool} (hF : F_spec_l11Dim n = some r_) :
  CV Tryz.prog 44 #[vi n] w0 (fun v w' => v = .bool r_ ∧ ST w0 [] w' [] []) := by
 unfold F_spec_l11Dim at hF
 refine cv_of_cw 13 Tryz.func44 rfl Tryz.ntmps44 rfl ?_
 refine cq (cr ?_)
 refine sQ 2 (yg (.bool false)) (rn (cq (cr ?_)))
 refine sQ 3 (ym (vi n)) <| sQ 4 (yE n 2) <| sQ 5 (ym (.bool (n == 2))) ?_
 refine sgq 6 (B := (!(n == 2))) (v := vi n) rfl rfl (uF_ 5) (fun hg => (ym (vi n))) ?_
 refine sgq 7 (B := (!(n == 2))) (v := .bool (n == 4)) rfl rfl (uF_ 5) (fun hg1 => (yE n 4 rfl (gv_of (v := vi n) hg1))) ?_
 refine sQ 8 (Y_or (b := (n == 2)) (z := (n == 4)) rfl rfl rfl rfl) <| sQ 9 (ym (.bool ((n == 2) || (n == 4)))) ?_
 refine sgq 10 (B := (!((n == 2) || (n == 4)))) (v := vi n) rfl rfl (uF_ 9) (fun hg2 => (ym (vi n))) ?_
 refine sgq 11 (B := (!((n == 2) || (n == 4)))) (v := .bool (n == 8)) rfl rfl (uF_ 9) (fun hg3 => (yE n 8 rfl (gv_of (v := vi n) hg3))) ?_
 refine sQ 12 (Y_or (b := ((n == 2) || (n == 4))) (z := (n == 8)) rfl rfl rfl rfl) <| sQ 2 (yg (.bool (((n == 2) || (n == 4)) || (n == 8)))) (rn (ct_ ?_))
 obtain rfl := sI hF
 exact ret1 Tryz.results44 (v1 := .bool (((n == 2) || (n == 4)) || (n == 8))) (resAt_tmp rfl) ⟨rfl, (hS.sN [])⟩

theorem c_spec_l11Valid (n : Int) (t : TTwoLevel)  (w0 : World)  (hS : ST w0 [] w0 [] []) {r_ : Bool} (hF : F_spec_l11Valid n t = some r_) :
  CV Tryz.prog 19 #[vi n, .agg #[vi t.Kind, vi t.I, vi t.J, vi t.M_]] w0 (fun v w' => v = .bool r_ ∧ ST w0 [] w' [] []) := by
 unfold F_spec_l11Valid at hF
 refine cv_of_cw 63 Tryz.func19 rfl Tryz.ntmps19 rfl ?_
 refine cq (cr ?_)
 refine sS 3 (yB 25 (.agg #[vi t.Kind, vi t.I, vi t.J, vi t.M_]) [vi t.Kind, vi t.I, vi t.J, vi t.M_] 4 hS) ?_
 rintro _ w_ ⟨b, rfl, hS1⟩
 refine sQ 4 (yg (.bool false)) (rn (cq (cq (cr ?_))))
 refine sQ 5 (ym (vi n)) ?_
 obtain ⟨r_1, hc, hF⟩ := bI hF
 refine sc 6 rfl rfl (yC [vi n] k_call_44 (c_spec_l11Dim n _  (hS1.inn0 [] rfl) hc)) ?_
 rintro _ w_1 ⟨rfl, hd⟩
 have hS2 := hS1.out00 hd
 refine sQ 7 (Y_not (p := r_1) rfl rfl) <| sQ 8 (ym (.bool (!r_1))) ?_
 refine sgq 9 (B := (!(!r_1))) (v := pt (aD b) 1) rfl rfl (uF_ 8) (fun hg => (yd (aD b) 0 0 K36 K0)) ?_
 refine sgq 10 (B := (!(!r_1))) (v := vi t.I) rfl rfl (uF_ 8) (fun hg1 => (yl (aD b) 1 [vi t.Kind, vi t.I, vi t.J, vi t.M_] (vi t.I) K1 (hS2.c 0) rfl (gv_of (v := pt (aD b) 1) hg1))) ?_
 refine sgq 11 (B := (!(!r_1))) (v := vi n) rfl rfl (uF_ 8) (fun hg2 => (ym (vi n))) ?_
 refine sgq 12 (B := (!(!r_1))) (v := vi (i64.wrap (n - 1))) rfl rfl (uF_ 8) (fun hg3 => (yM n 1 rfl (gv_of (v := vi n) hg3))) ?_
 obtain ⟨r_2, hc1, hF⟩ := bI hF
 refine sgc 13 (B := (!(!r_1))) (v := .bool r_2) (F := hS2.fn) rfl rfl (uF_ 8) hS2 (fun hg4 => (yC [vi t.I, vi 0, vi (i64.wrap (n - 1))] K56 (CV.mono (c_spec_l1In t.I 0 (i64.wrap (n - 1)) _  (hS2.inn0 [] rfl) (gb_inv hc1 hg4)) (by rintro _ _ ⟨rfl, h⟩; exact ⟨rfl, hS2.out00 h⟩)) rfl (mc (gv_of (v := vi t.I) hg4) (mc rfl (mc (gv_of (v := vi (i64.wrap (n - 1))) hg4) mn))))) ?_
 rintro w_2 hS3
 refine sgq 14 (B := (!(!r_1))) (v := .bool (!r_2)) rfl rfl (uF_ 8) (fun hg5 => (Y_not (p := r_2) rfl (gv_of (v := .bool r_2) hg5))) ?_
 refine sQ 15 (Y_or (b := (!r_1)) (z := (!r_2)) rfl rfl rfl rfl) <| sQ 16 (ym (.bool ((!r_1) || (!r_2)))) ?_
 refine sgq 17 (B := (!((!r_1) || (!r_2)))) (v := pt (aD b) 2) rfl rfl (uF_ 16) (fun hg6 => (yd (aD b) 0 0 K39 K0)) ?_
 refine sgq 18 (B := (!((!r_1) || (!r_2)))) (v := vi t.J) rfl rfl (uF_ 16) (fun hg7 => (yl (aD b) 2 [vi t.Kind, vi t.I, vi t.J, vi t.M_] (vi t.J) K1 (hS3.c 0) rfl (gv_of (v := pt (aD b) 2) hg7))) ?_
 refine sgq 19 (B := (!((!r_1) || (!r_2)))) (v := vi n) rfl rfl (uF_ 16) (fun hg8 => (ym (vi n))) ?_
 refine sgq 20 (B := (!((!r_1) || (!r_2)))) (v := vi (i64.wrap (n - 1))) rfl rfl (uF_ 16) (fun hg9 => (yM n 1 rfl (gv_of (v := vi n) hg9))) ?_
 obtain ⟨r_3, hc2, hF⟩ := bI hF
 refine sgc 21 (B := (!((!r_1) || (!r_2)))) (v := .bool r_3) (F := hS3.fn) rfl rfl (uF_ 16) hS3 (fun hg10 => (yC [vi t.J, vi 0, vi (i64.wrap (n - 1))] K56 (CV.mono (c_spec_l1In t.J 0 (i64.wrap (n - 1)) _  (hS3.inn0 [] rfl) (gb_inv hc2 hg10)) (by rintro _ _ ⟨rfl, h⟩; exact ⟨rfl, hS3.out00 h⟩)) rfl (mc (gv_of (v := vi t.J) hg10) (mc rfl (mc (gv_of (v := vi (i64.wrap (n - 1))) hg10) mn))))) ?_
 rintro w_3 hS4
 refine sgq 22 (B := (!((!r_1) || (!r_2)))) (v := .bool (!r_3)) rfl rfl (uF_ 16) (fun hg11 => (Y_not (p := r_3) rfl (gv_of (v := .bool r_3) hg11))) ?_
 refine sQ 23 (Y_or (b := ((!r_1) || (!r_2))) (z := (!r_3)) rfl rfl rfl rfl) (rn ?_)
 refine cw_cond (b := (((!r_1) || (!r_2)) || (!r_3))) rfl (fun hb => ?_) (fun hb => ?_)
 ·skip
  have hF1 := ct hF hb
  refine cq (cr ?_)
  refine sQ 4 (yg (.bool false)) (rn (ct_ ?_))
  obtain rfl := sI hF1
  exact ret1 Tryz.results19 (v1 := .bool false) (resAt_tmp rfl) ⟨rfl, (hS4.sN [])⟩
 ·skip
  have hF2 := cf' hF hb
  refine cw_skip (cq (cq (cr ?_)))
  refine sQ 24 (yd (aD b) 0 0 K42 K0) <| sQ 25 (yl (aD b) 0 [vi t.Kind, vi t.I, vi t.J, vi t.M_] (vi t.Kind) K1 (hS4.c 0)) (rn (cw_block (cq (cr ?_))))
  refine sQ 27 (yE t.Kind 1) <| sQ 26 (yg (.bool (t.Kind == 1))) (rn ?_)
  refine cw_cond (b := (t.Kind == 1)) rfl (fun hb1 => ?_) (fun hb1 => ?_)
  ·skip
   have hF3 := ct hF2 hb1
   refine cq (cr ?_)
   refine sQ 28 (yd (aD b) 0 0 K39 K0) <| sQ 29 (yl (aD b) 2 [vi t.Kind, vi t.I, vi t.J, vi t.M_] (vi t.J) K1 (hS4.c 0)) <| sQ 30 (yE t.J 0) <| sQ 31 (ym (.bool (t.J == 0))) ?_
   refine sgq 32 (B := (t.J == 0)) (v := pt (aD b) 3) rfl rfl (uT_ 31) (fun hg12 => (yd (aD b) 0 0 K37 K0)) ?_
   refine sgq 33 (B := (t.J == 0)) (v := vi t.M_) rfl rfl (uT_ 31) (fun hg13 => (yl (aD b) 3 [vi t.Kind, vi t.I, vi t.J, vi t.M_] (vi t.M_) K1 (hS4.c 0) rfl (gv_of (v := pt (aD b) 3) hg13))) ?_
   obtain ⟨r_4, hc3, hF3⟩ := bI hF3
   refine sgc 34 (B := (t.J == 0)) (v := .bool r_4) (F := hS4.fn) rfl rfl (uT_ 31) hS4 (fun hg14 => (yC [vi t.M_, vi 1, vi 7] K56 (CV.mono (c_spec_l1In t.M_ 1 7 _  (hS4.inn0 [] rfl) (gb_inv hc3 hg14)) (by rintro _ _ ⟨rfl, h⟩; exact ⟨rfl, hS4.out00 h⟩)) rfl (mc (gv_of (v := vi t.M_) hg14) (mc rfl (mc rfl mn))))) ?_
   rintro w_4 hS5
   refine sQ 35 (Y_and (b := (t.J == 0)) (z := r_4) rfl rfl rfl rfl) <| sQ 4 (yg (.bool ((t.J == 0) && r_4))) (rn (ct_ ?_))
   obtain rfl := sI hF3
   exact ret1 Tryz.results19 (v1 := .bool ((t.J == 0) && r_4)) (resAt_tmp rfl) ⟨rfl, (hS5.sN [])⟩
  ·skip
   have hF4 := cf' hF2 hb1
   refine cq (cr ?_)
   refine sQ 37 (yE t.Kind 2) <| sQ 36 (yg (.bool (t.Kind == 2))) (rn ?_)
   refine cw_cond (b := (t.Kind == 2)) rfl (fun hb2 => ?_) (fun hb2 => ?_)
   ·skip
    have hF5 := ct hF4 hb2
    refine cq (cr ?_)
    refine sQ 38 (yd (aD b) 0 0 K36 K0) <| sQ 39 (yl (aD b) 1 [vi t.Kind, vi t.I, vi t.J, vi t.M_] (vi t.I) K1 (hS4.c 0)) <| sQ 40 (yd (aD b) 0 0 K39 K0) <| sQ 41 (yl (aD b) 2 [vi t.Kind, vi t.I, vi t.J, vi t.M_] (vi t.J) K1 (hS4.c 0)) <| sQ 42 (yL t.I t.J) <| sQ 43 (ym (.bool (decide (t.I < t.J)))) ?_
    refine sgq 44 (B := (decide (t.I < t.J))) (v := pt (aD b) 3) rfl rfl (uT_ 43) (fun hg15 => (yd (aD b) 0 0 K37 K0)) ?_
    refine sgq 45 (B := (decide (t.I < t.J))) (v := vi t.M_) rfl rfl (uT_ 43) (fun hg16 => (yl (aD b) 3 [vi t.Kind, vi t.I, vi t.J, vi t.M_] (vi t.M_) K1 (hS4.c 0) rfl (gv_of (v := pt (aD b) 3) hg16))) ?_
    refine sgq 46 (B := (decide (t.I < t.J))) (v := .bool (t.M_ == 0)) rfl rfl (uT_ 43) (fun hg17 => (yE t.M_ 0 rfl (gv_of (v := vi t.M_) hg17))) ?_
    refine sQ 47 (Y_and (b := (decide (t.I < t.J))) (z := (t.M_ == 0)) rfl rfl rfl rfl) <| sQ 4 (yg (.bool ((decide (t.I < t.J)) && (t.M_ == 0)))) (rn (ct_ ?_))
    obtain rfl := sI hF5
    exact ret1 Tryz.results19 (v1 := .bool ((decide (t.I < t.J)) && (t.M_ == 0))) (resAt_tmp rfl) ⟨rfl, (hS4.sN [])⟩
   ·skip
    have hF6 := cf' hF4 hb2
    refine cw_skip (cq (cr ?_))
    refine sQ 48 (yd (aD b) 0 0 K42 K0) <| sQ 49 (yl (aD b) 0 [vi t.Kind, vi t.I, vi t.J, vi t.M_] (vi t.Kind) K1 (hS4.c 0)) <| sQ 50 (yE t.Kind 3) <| sQ 51 (ym (.bool (t.Kind == 3))) ?_
    refine sgq 52 (B := (t.Kind == 3)) (v := pt (aD b) 1) rfl rfl (uT_ 51) (fun hg18 => (yd (aD b) 0 0 K36 K0)) ?_
    refine sgq 53 (B := (t.Kind == 3)) (v := vi t.I) rfl rfl (uT_ 51) (fun hg19 => (yl (aD b) 1 [vi t.Kind, vi t.I, vi t.J, vi t.M_] (vi t.I) K1 (hS4.c 0) rfl (gv_of (v := pt (aD b) 1) hg19))) ?_
    refine sgq 54 (B := (t.Kind == 3)) (v := pt (aD b) 2) rfl rfl (uT_ 51) (fun hg20 => (yd (aD b) 0 0 K39 K0)) ?_
    refine sgq 55 (B := (t.Kind == 3)) (v := vi t.J) rfl rfl (uT_ 51) (fun hg21 => (yl (aD b) 2 [vi t.Kind, vi t.I, vi t.J, vi t.M_] (vi t.J) K1 (hS4.c 0) rfl (gv_of (v := pt (aD b) 2) hg21))) ?_
    refine sgq 56 (B := (t.Kind == 3)) (v := .bool (decide (t.I < t.J))) rfl rfl (uT_ 51) (fun hg22 => (yL t.I t.J rfl (gv_of (v := vi t.I) hg22) (gv_of (v := vi t.J) hg22))) ?_
    refine sQ 57 (Y_and (b := (t.Kind == 3)) (z := (decide (t.I < t.J))) rfl rfl rfl rfl) <| sQ 58 (ym (.bool ((t.Kind == 3) && (decide (t.I < t.J))))) ?_
    refine sgq 59 (B := ((t.Kind == 3) && (decide (t.I < t.J)))) (v := pt (aD b) 3) rfl rfl (uT_ 58) (fun hg23 => (yd (aD b) 0 0 K37 K0)) ?_
    refine sgq 60 (B := ((t.Kind == 3) && (decide (t.I < t.J)))) (v := vi t.M_) rfl rfl (uT_ 58) (fun hg24 => (yl (aD b) 3 [vi t.Kind, vi t.I, vi t.J, vi t.M_] (vi t.M_) K1 (hS4.c 0) rfl (gv_of (v := pt (aD b) 3) hg24))) ?_
    obtain ⟨r_5, hc4, hF6⟩ := bI hF6
    refine sgc 61 (B := ((t.Kind == 3) && (decide (t.I < t.J)))) (v := .bool r_5) (F := hS4.fn) rfl rfl (uT_ 58) hS4 (fun hg25 => (yC [vi t.M_, vi 0, vi 7] K56 (CV.mono (c_spec_l1In t.M_ 0 7 _  (hS4.inn0 [] rfl) (gb_inv hc4 hg25)) (by rintro _ _ ⟨rfl, h⟩; exact ⟨rfl, hS4.out00 h⟩)) rfl (mc (gv_of (v := vi t.M_) hg25) (mc rfl (mc rfl mn))))) ?_
    rintro w_5 hS6
    refine sQ 62 (Y_and (b := ((t.Kind == 3) && (decide (t.I < t.J)))) (z := r_5) rfl rfl rfl rfl) <| sQ 4 (yg (.bool (((t.Kind == 3) && (decide (t.I < t.J))) && r_5))) (rn (ct_ ?_))
    obtain rfl := sI hF6
    exact ret1 Tryz.results19 (v1 := .bool (((t.Kind == 3) && (decide (t.I < t.J))) && r_5)) (resAt_tmp rfl) ⟨rfl, (hS6.sN [])⟩

theorem c_spec_IsValidTwoLevel (n : Int) (t : TTwoLevel)  (w0 : World)  (hS : ST w0 [] w0 [] []) {r_ : Bool} (hF : F_spec_IsValidTwoLevel n t = some r_) :
  CV Tryz.prog 7 #[vi n, .agg #[vi t.Kind, vi t.I, vi t.J, vi t.M_]] w0 (fun v w' => v = .bool r_ ∧ ST w0 [] w' [] []) := by
 unfold F_spec_IsValidTwoLevel at hF
 refine cv_of_cw 8 Tryz.func7 rfl Tryz.ntmps7 rfl ?_
 refine cq (cr ?_)
 refine sS 3 (yB 25 (.agg #[vi t.Kind, vi t.I, vi t.J, vi t.M_]) [vi t.Kind, vi t.I, vi t.J, vi t.M_] 4 hS) ?_
 rintro _ w_ ⟨b, rfl, hS1⟩
 refine sQ 4 (yg (.bool false)) (rn (cq (cr ?_)))
 refine sQ 5 (ym (vi n)) <| sQ 6 (yb (aD b) 0 [vi t.Kind, vi t.I, vi t.J, vi t.M_] K26 K11 (hS1.c 0)) ?_
 obtain ⟨r_1, hc, hF⟩ := bI hF
 refine sc 7 rfl rfl (yC [vi n, .agg #[vi t.Kind, vi t.I, vi t.J, vi t.M_]] K86 (c_spec_l11Valid n t _  (hS1.inn0 [] rfl) hc)) ?_
 rintro _ w_1 ⟨rfl, hd⟩
 have hS2 := hS1.out00 hd
 refine sQ 4 (yg (.bool r_1)) (rn (ct_ ?_))
 obtain rfl := sI hF
 exact ret1 Tryz.results7 (v1 := .bool r_1) (resAt_tmp rfl) ⟨rfl, (hS2.sN [])⟩

theorem c_impl_isDim (n : Int)  (w0 : World)  (hS : ST w0 [] w0 [] []) {r_ : Bool} (hF : F_impl_isDim n = some r_) :
  CV Tryz.prog 78 #[vi n] w0 (fun v w' => v = .bool r_ ∧ ST w0 [] w' [] []) := by
 unfold F_impl_isDim at hF
 refine cv_of_cw 12 Tryz.func78 rfl Tryz.ntmps78 rfl ?_
 refine cq (cr ?_)
 refine sQ 2 (yg (.bool false)) (rn (cq (cr ?_)))
 refine sQ 3 (ym (vi n)) ?_
 obtain ⟨r_1, hc, hF⟩ := bI hF
 refine sc 4 rfl rfl (yC [vi n, vi 1, vi 32] K48 (c_impl_within n 1 32 _  (hS.inn0 [] rfl) hc)) ?_
 rintro _ w_ ⟨rfl, hd⟩
 have hS1 := hS.out00 hd
 refine sQ 5 (ym (.bool r_1)) ?_
 refine sgq 6 (B := r_1) (v := vi n) rfl rfl (uT_ 5) (fun hg => (ym (vi n))) ?_
 refine sgq 7 (B := r_1) (v := vi n) rfl rfl (uT_ 5) (fun hg1 => (ym (vi n))) ?_
 refine sgq 8 (B := r_1) (v := vi (i64.wrap (n - 1))) rfl rfl (uT_ 5) (fun hg2 => (yM n 1 rfl (gv_of (v := vi n) hg2))) ?_
 refine sgq 9 (B := r_1) (v := vi (bits .and .i64 n (i64.wrap (n - 1)))) rfl rfl (uT_ 5) (fun hg3 => (Y_band (k := .i64) (a := n) (b := (i64.wrap (n - 1))) rfl (gv_of (v := vi n) hg3) (gv_of (v := vi (i64.wrap (n - 1))) hg3))) ?_
 refine sgq 10 (B := r_1) (v := .bool ((bits .and .i64 n (i64.wrap (n - 1))) == 0)) rfl rfl (uT_ 5) (fun hg4 => (yE (bits .and .i64 n (i64.wrap (n - 1))) 0 rfl (gv_of (v := vi (bits .and .i64 n (i64.wrap (n - 1)))) hg4))) ?_
 refine sQ 11 (Y_and (b := r_1) (z := ((bits .and .i64 n (i64.wrap (n - 1))) == 0)) rfl rfl rfl rfl) <| sQ 2 (yg (.bool (r_1 && ((bits .and .i64 n (i64.wrap (n - 1))) == 0)))) (rn (ct_ ?_))
 obtain rfl := sI hF
 exact ret1 Tryz.results78 (v1 := .bool (r_1 && ((bits .and .i64 n (i64.wrap (n - 1))) == 0))) (resAt_tmp rfl) ⟨rfl, (hS1.sN [])⟩

theorem c_impl_matrixOf (rows : Int) (cols : Int) (cell : Int → Int → Option (TDyadic × Bool)) (kf : Nat) (caps : Array Value) (Rf : List Ro) (w0 : World) (hk : callB Tryz.prog kf = true) (hp : ∀ (w : World), ST w [] w [] Rf → ∀ (x : Int) (x1 : Int) (y1 : TDyadic) (y2 : Bool), cell x x1 = some (y1, y2) → CV Tryz.prog kf ((vi x) :: (vi x1) :: caps.toList).toArray w (fun v w' => v = .tuple #[gD_ y1, .bool y2] ∧ ST w [] w' [] [])) (hS : ST w0 [] w0 [] (Rf)) {r_ : TMatrix} {r_1 : Bool} (hF : F_impl_matrixOf rows cols cell = some (r_, r_1)) :
  CV Tryz.prog 45 #[vi rows, vi cols, .func (.func kf) #[] caps] w0 (fun v w' => ∃ (B : Option Addr) (c : Nat), v = .tuple #[gM_ r_ B c, .bool r_1] ∧ ST w0 [] w' [⟨B, 51, (r_.Cells.flatMap eN0), c * 5⟩] []) := by
 unfold F_impl_matrixOf at hF
 refine cv_of_cw 52 Tryz.func45 rfl Tryz.ntmps45 rfl ?_
 refine cq (cr ?_)
 refine sS 6 (yN kN_ 3 hS K10) ?_
 rintro _ w_ ⟨b, rfl, hS1⟩
 refine sQ 7 (yg (.bool false)) (rn (cq (cr ?_)))
 refine sQ 13 (ym (vi rows)) <| sQ 14 (ym (vi cols)) <| sQ 15 (Y_buildS (zs := kN_) (vs := [(0, vi rows), (1, vi cols)]) (cs := [vi rows, vi cols, .slice none 0 0]) K32 K10 rfl (mpc rfl (mpc rfl mpn)) rfl) ?_
 refine sS 8 (yN kN_ 3 hS1 K10) ?_
 rintro _ w_1 ⟨b1, rfl, hS2⟩
 refine s0 (yT 1 3 (aD b1) 34 (.agg #[vi rows, vi cols, .slice none 0 0]) [vi rows, vi cols, .slice none 0 0] 0 hS2 K4) ?_
 rintro _ w_2 ⟨rfl, hS3⟩
 refine rn (cq (cq (cr ?_)))
 refine sQ 16 (ym (vi rows)) ?_
 obtain ⟨r_2, hc, hF⟩ := bI hF
 refine sc 17 rfl rfl (yC [vi rows] K87 (c_impl_isDim rows _  (hS3.inn0 [] rfl) hc)) ?_
 rintro _ w_3 ⟨rfl, hd⟩
 have hS4 := hS3.out00 hd
 refine sQ 18 (Y_not (p := r_2) rfl rfl) <| sQ 19 (ym (.bool (!r_2))) ?_
 refine sgq 20 (B := (!(!r_2))) (v := vi cols) rfl rfl (uF_ 19) (fun hg => (ym (vi cols))) ?_
 obtain ⟨r_3, hc1, hF⟩ := bI hF
 refine sgc 21 (B := (!(!r_2))) (v := .bool r_3) (F := hS4.fn) rfl rfl (uF_ 19) hS4 (fun hg1 => (yC [vi cols] K87 (CV.mono (c_impl_isDim cols _  (hS4.inn0 [] rfl) (gb_inv hc1 hg1)) (by rintro _ _ ⟨rfl, h⟩; exact ⟨rfl, hS4.out00 h⟩)) rfl (mc (gv_of (v := vi cols) hg1) mn))) ?_
 rintro w_4 hS5
 refine sgq 22 (B := (!(!r_2))) (v := .bool (!r_3)) rfl rfl (uF_ 19) (fun hg2 => (Y_not (p := r_3) rfl (gv_of (v := .bool r_3) hg2))) ?_
 refine sQ 23 (Y_or (b := (!r_2)) (z := (!r_3)) rfl rfl rfl rfl) (rn ?_)
 refine cw_cond (b := ((!r_2) || (!r_3))) rfl (fun hb => ?_) (fun hb => ?_)
 ·skip
  have hF1 := ct hF hb
  refine cq (cr ?_)
  refine sQ 24 (Y_buildS (zs := kN_) (vs := []) (cs := kN_) K32 K10 rfl mpn rfl) ?_
  refine s0 (yT 0 3 (aD b) 34 gN_ kN_ 0 hS5 K4) ?_
  rintro _ w_5 ⟨rfl, hS6⟩
  refine sQ 7 (yg (.bool false)) (rn (ct_ ?_))
  have hS7 := hS6.addNil 51
  obtain ⟨rfl, rfl⟩ := pr2 (sI hF1)
  exact ret2 Tryz.results45 (v1 := gN_) (resAt_cellA (B := aD b) (i := 0) (cs := kN_) (vs := kN_) rfl K8 K4 (hS7.c 0) rfl rfl) (v2 := .bool false) (resAt_tmp rfl) ⟨none, 0, rfl, (hS7.sN [2])⟩
 ·skip
  have hF2 := cf' hF hb
  refine cw_skip (cq (cq (cr ?_)))
  refine sQ 25 (ym (vi rows)) <| sQ 26 (ym (vi 0)) (rn ?_)
  obtain ⟨hN, hF2⟩ := chk_inv hF2
  obtain ⟨z, hz, hF3⟩ := bI hF2
  have hS9 := hS5.addNil 51
  refine cw_block ?_
  refine cw_loop (fun k f w => ∃ (i : Nat) (Cells : List TDyadic) (B1 : Option Addr) (c1 : Nat), FF f [(1, vi cols), (2, .func (.func kf) #[] caps), (6, pt (aD b) 0), (8, pt (aD b1) 0), (25, vi rows), (26, vi (i : Int))] ∧ ST w0 [] w [⟨aD b, 34, kN_, 3⟩, ⟨aD b1, 34, [vi rows, vi cols, .slice B1 Cells.length c1], 3⟩, ⟨B1, 51, (Cells.flatMap eN0), c1 * 5⟩] (Rf) ∧ i + k = rows.toNat ∧ forX (F_impl_matrixOf_l1 cols cell) k i Cells = some z) rows.toNat ⟨0, [], none, 0, (fc rfl (fc rfl (fc rfl (fc rfl (fc rfl (fc rfl fn_)))))), (hS9.sel [0, 1, 2] rfl rfl), Nat.zero_add _, hz⟩ ?_
  rintro k_ f w ⟨i, Cells, B1, c1, hf, hS8, hik, hL⟩
  refine cq (cr ?_)
  refine sQ 27 (yL (i : Int) rows rfl (hf.g 26 5) (hf.g 25 4)) (rn (cq ?_))
  refine cw_cond (b := (decide ((i : Int) < rows))) rfl (fun hlt => ?_) (fun hlt => ?_)
  ·skip
   have hlt1 : i < rows.toNat := by have h := of_decide_eq_true hlt; omega
   obtain ⟨K9, rfl⟩ : ∃ k2, k_ = k2 + 1 := ⟨k_ - 1, by omega⟩
   obtain ⟨y3, hb1, hL1⟩ := forX_go hL
   unfold F_impl_matrixOf_l1 at hb1
   refine cw_skip (cq (cw_block (cq (cr ?_))))
   refine sQ 28 (ym (vi (i : Int)) rfl (hf.g 26 5)) <| sQ 9 (yg (vi (i : Int))) (rn (cq (cr ?_)))
   refine sQ 29 (ym (vi cols) rfl (hf.g 1 0)) <| sQ 30 (ym (vi 0)) (rn ?_)
   obtain ⟨hN1, hb1⟩ := chk_inv hb1
   obtain ⟨z1, hz1, hF4⟩ := bI hb1
   refine cw_block ?_
   refine cw_loop (fun k f w => ∃ (i1 : Nat) (Cells1 : List TDyadic) (B2 : Option Addr) (c2 : Nat), FF f [(1, vi cols), (2, .func (.func kf) #[] caps), (6, pt (aD b) 0), (8, pt (aD b1) 0), (9, vi (i : Int)), (25, vi rows), (26, vi (i : Int)), (29, vi cols), (30, vi (i1 : Int))] ∧ ST w0 [] w [⟨aD b, 34, kN_, 3⟩, ⟨aD b1, 34, [vi rows, vi cols, .slice B2 Cells1.length c2], 3⟩, ⟨B2, 51, (Cells1.flatMap eN0), c2 * 5⟩] (Rf) ∧ i1 + k = cols.toNat ∧ forX (F_impl_matrixOf_l2 cell i) k i1 Cells1 = some z1) cols.toNat ⟨0, Cells, B1, c1, (fc (hf.g 1 0) (fc (hf.g 2 1) (fc (hf.g 6 2) (fc (hf.g 8 3) (fc rfl (fc (hf.g 25 4) (fc (hf.g 26 5) (fc rfl (fc rfl fn_))))))))), (hS8.sel [0, 1, 2] rfl rfl), Nat.zero_add _, hz1⟩ ?_
   rintro K22 f w ⟨i1, Cells1, B2, c2, hf1, hS10, hik1, hL2⟩
   refine cq (cr ?_)
   refine sQ 31 (yL (i1 : Int) cols rfl (hf1.g 30 8) (hf1.g 29 7)) (rn (cq ?_))
   refine cw_cond (b := (decide ((i1 : Int) < cols))) rfl (fun hlt2 => ?_) (fun hlt2 => ?_)
   ·skip
    have hlt3 : i1 < cols.toNat := by have h := of_decide_eq_true hlt2; omega
    obtain ⟨K43, rfl⟩ : ∃ k2, K22 = k2 + 1 := ⟨K22 - 1, by omega⟩
    obtain ⟨y4, hb2, hL3⟩ := forX_go hL2
    unfold F_impl_matrixOf_l2 at hb2
    refine cw_skip (cq (cw_block (cq (cr ?_))))
    refine sQ 32 (ym (vi (i1 : Int)) rfl (hf1.g 30 8)) <| sQ 10 (yg (vi (i1 : Int))) (rn (cq (cr ?_)))
    refine sQ 34 (ym (.func (.func kf) #[] caps) rfl (hf1.g 2 1)) <| sQ 35 (ym (vi (i : Int)) rfl (hf1.g 9 4)) <| sQ 36 (ym (vi (i1 : Int))) ?_
    obtain ⟨⟨r_4, r_5⟩, hc2, hb2⟩ := bI hb2
    refine sc 37 rfl rfl (Yc_clos (g := kf) (vs := (vi (i : Int)) :: (vi (i1 : Int)) :: caps.toList) hk rfl rfl (clo_args (mc rfl (mc rfl mn))) (hp _ (hS10.innS (fun _ h => mOd (i := 0) h)) (i : Int) (i1 : Int) r_4 r_5 hc2)) ?_
    rintro _ w_6 ⟨rfl, hd1⟩
    have hS11 := hS10.out00 hd1
    refine sQ 33 (ym (.tuple #[gD_ r_4, .bool r_5])) <| sQ 38 (ye (gD_ r_4)) <| sQ 39 (ye (.bool r_5)) ?_
    refine sS 11 (yN kZ_ 5 hS11 K6) ?_
    rintro _ w_7 ⟨b2, rfl, hS12⟩
    refine s0 (yT 3 5 (aD b2) 51 (gD_ r_4) (kD_ r_4) 0 hS12 K2) ?_
    rintro _ w_8 ⟨rfl, hS13⟩
    refine sQ 12 (yg (.bool r_5)) (rn (cq (cq (cr ?_))))
    refine sQ 40 (ym (.bool r_5)) <| sQ 41 (Y_not (p := r_5) rfl rfl) (rn ?_)
    refine cw_cond (b := (!r_5)) rfl (fun hb3 => ?_) (fun hb3 => ?_)
    ·skip
     have hF5 := ct hb2 hb3
     refine cq (cr ?_)
     refine sQ 42 (Y_buildS (zs := kN_) (vs := []) (cs := kN_) K32 K10 rfl mpn rfl) ?_
     refine s0 (yT 0 3 (aD b) 34 gN_ kN_ 0 hS13 K4 rfl (hf1.g 6 2)) ?_
     rintro _ w_9 ⟨rfl, hS14⟩
     refine sQ 7 (yg (.bool false)) (rn (ct_ ?_))
     have hS15 := hS14.addNil 51
     obtain rfl := sI hF5
     obtain rfl := sI hL3
     obtain rfl := sI hF4
     obtain rfl := sI hL1
     obtain ⟨rfl, rfl⟩ := pr2 (sI hF3)
     exact ret2 Tryz.results45 (v1 := gN_) (resAt_cellA (B := aD b) (i := 0) (cs := kN_) (vs := kN_) (hf1.g 6 2) K8 K4 (hS15.c 0) rfl rfl) (v2 := .bool false) (resAt_tmp rfl) ⟨none, 0, rfl, (hS15.sN [4])⟩
    ·skip
     have hF6 := cf' hb2 hb3
     refine cw_skip (cr ?_)
     refine sQ 43 (yd (aD b1) 0 0 K15 K13 rfl (hf1.g 8 3)) <| sQ 44 (yl (aD b1) 2 [vi rows, vi cols, .slice B2 Cells1.length c2] (.slice B2 Cells1.length c2) K16 (hS13.c 1)) <| sQ 45 (yb (aD b2) 0 (kD_ r_4) K5 K2 (hS13.c 3)) ?_
     refine sS 46 (Ys_bslice (s := 5) (len := 1) (vs := [(0, gD_ r_4)]) (cs := kD_ r_4) (zs := kZ_) (m := 5) hS13 K12 K2 K44 rfl (mpc rfl mpn) rfl rfl rfl (by kernel_rfl) (by kernel_rfl) rfl) ?_
     rintro _ w_10 ⟨b3, rfl, hS16⟩
     obtain ⟨hap, hF6⟩ := chk_inv hF6
     refine sS 47 (Ys_append (s := 5) (by' := 40) (i := 2) (nn := Cells1.length) (c := c2) (k := 1) (len := (Cells1 ++ [r_4]).length) (B := B2) (xs := ([r_4].flatMap eN0)) (cs' := ((Cells1 ++ [r_4]).flatMap eN0)) hS16 K12 K2 K45 K6 rfl (by decide) rfl rfl rfl rfl (fm_lenn (l := Cells1) eN1 rfl) rfl (hS16.c 4) (fm_lenn (l := [r_4]) eN1 rfl) (fm_one' (enc := eN0) enc_Dyadic_one [r_4]) (by have := hap; omega) (by have := hap; simp only [maxLen]; omega) (fm_app _ _) (app_len (l := Cells1) (l' := [r_4]) rfl rfl)) ?_
     rintro _ w_11 ⟨B3, c3, rfl, hS17⟩
     refine sQ 48 (yd (aD b1) 0 0 K15 K13 rfl (hf1.g 8 3)) ?_
     refine s0 (yS 1 1 (aD b1) 34 (.slice B3 ((Cells1 ++ [r_4]).length) c3) [.slice B3 ((Cells1 ++ [r_4]).length) c3] 2 [vi rows, vi cols, .slice B3 ((Cells1 ++ [r_4]).length) c3] hS17 K13) ?_
     rintro _ w_12 ⟨rfl, hS18⟩
     refine rn (cr ?_)
     refine sQ 49 (yP (i1 : Int) 1 rfl (hf1.g 30 8)) <| sQ 30 (ym (vi (i64.wrap ((i1 : Int) + 1)))) (rn ?_)
     obtain rfl := sI hF6
     exact ⟨K43, Nat.lt_succ_self _, i1 + 1, (Cells1 ++ [r_4]), B3, c3, (fc (hf1.g 1 0) (fc (hf1.g 2 1) (fc (hf1.g 6 2) (fc (hf1.g 8 3) (fc (hf1.g 9 4) (fc (hf1.g 25 5) (fc (hf1.g 26 6) (fc (hf1.g 29 7) (fc (congrArg (Value.int .i64) (wr_succ hlt3 hN1)) fn_))))))))), (hS18.sel [0, 1, 2] rfl rfl), (by omega), hL3⟩
   ·skip
    obtain rfl : K22 = 0 := by have h := of_decide_eq_false hlt2; omega
    refine cw_exit rfl ?_
    obtain rfl := sI hL2
    refine cr ?_
    refine sQ 50 (yP (i : Int) 1 rfl (hf1.g 26 6)) <| sQ 26 (ym (vi (i64.wrap ((i : Int) + 1)))) (rn ?_)
    obtain rfl := sI hF4
    exact ⟨K9, Nat.lt_succ_self _, i + 1, Cells1, B2, c2, (fc (hf1.g 1 0) (fc (hf1.g 2 1) (fc (hf1.g 6 2) (fc (hf1.g 8 3) (fc (hf1.g 25 5) (fc (congrArg (Value.int .i64) (wr_succ hlt1 hN)) fn_)))))), (hS10.sel [0, 1, 2] rfl rfl), (by omega), hL1⟩
  ·skip
   obtain rfl : k_ = 0 := by have h := of_decide_eq_false hlt; omega
   refine cw_exit rfl ?_
   obtain rfl := sI hL
   refine cq (cr ?_)
   refine sQ 51 (yb (aD b1) 0 [vi rows, vi cols, .slice B1 Cells.length c1] K8 K4 (hS8.c 1) rfl (hf.g 8 3)) ?_
   refine s0 (yT 0 3 (aD b) 34 (.agg #[vi rows, vi cols, .slice B1 Cells.length c1]) [vi rows, vi cols, .slice B1 Cells.length c1] 0 hS8 K4 rfl (hf.g 6 2)) ?_
   rintro _ w_13 ⟨rfl, hS19⟩
   refine sQ 7 (yg (.bool true)) (rn (ct_ ?_))
   obtain ⟨rfl, rfl⟩ := pr2 (sI hF3)
   exact ret2 Tryz.results45 (v1 := .agg #[vi rows, vi cols, .slice B1 Cells.length c1]) (resAt_cellA (B := aD b) (i := 0) (cs := [vi rows, vi cols, .slice B1 Cells.length c1]) (vs := [vi rows, vi cols, .slice B1 Cells.length c1]) (hf.g 6 2) K8 K4 (hS19.c 0) rfl rfl) (v2 := .bool true) (resAt_tmp rfl) ⟨B1, c1, rfl, (hS19.sN [2])⟩

theorem c_impl_whole (n : Int)  (w0 : World)  (hS : ST w0 [] w0 [] []) {r_ : TDyadic} (hF : F_impl_whole n = some r_) :
  CV Tryz.prog 47 #[vi n] w0 (fun v w' => v = (gD_ r_) ∧ ST w0 [] w' [] []) := by
 unfold F_impl_whole at hF
 refine cv_of_cw 6 Tryz.func47 rfl Tryz.ntmps47 rfl ?_
 refine cq (cr ?_)
 refine sS 2 (yN kZ_ 5 hS K6) ?_
 rintro _ w_ ⟨b, rfl, hS1⟩
 refine rn (cq (cr ?_))
 refine sQ 3 (ym (vi n)) <| sQ 4 (Y_buildS (zs := [vi 0, vi 0, vi 0, vi 0]) (vs := [(0, vi n)]) (cs := [vi n, vi 0, vi 0, vi 0]) K31 K14 rfl (mpc rfl mpn) rfl) <| sQ 5 (Y_buildS (zs := kZ_) (vs := [(0, .agg #[vi n, vi 0, vi 0, vi 0])]) (cs := [vi n, vi 0, vi 0, vi 0, vi 0]) K21 K6 rfl (mpc rfl mpn) rfl) ?_
 refine s0 (yT 0 5 (aD b) 51 (.agg #[vi n, vi 0, vi 0, vi 0, vi 0]) [vi n, vi 0, vi 0, vi 0, vi 0] 0 hS1 K2) ?_
 rintro _ w_1 ⟨rfl, hS2⟩
 refine rn (ct_ ?_)
 obtain rfl := sI hF
 exact ret1 Tryz.results47 (v1 := .agg #[vi n, vi 0, vi 0, vi 0, vi 0]) (resAt_cellA (B := aD b) (i := 0) (cs := [vi n, vi 0, vi 0, vi 0, vi 0]) (vs := [vi n, vi 0, vi 0, vi 0, vi 0]) rfl K5 K2 (hS2.c 0) rfl rfl) ⟨rfl, (hS2.sN [])⟩

theorem c_impl_IdentityMatrix_1 (i : Int) (j : Int)  (w0 : World)  (hS : ST w0 [] w0 [] []) {r_ : TDyadic} {r_1 : Bool} (hF : F_impl_IdentityMatrix_1 i j = some (r_, r_1)) :
  CV Tryz.prog 46 #[vi i, vi j] w0 (fun v w' => v = .tuple #[gD_ r_, .bool r_1] ∧ ST w0 [] w' [] []) := by
 unfold F_impl_IdentityMatrix_1 at hF
 refine cv_of_cw 11 Tryz.func46 rfl Tryz.ntmps46 rfl ?_
 refine cq (cr ?_)
 refine sS 4 (yN kZ_ 5 hS K6) ?_
 rintro _ w_ ⟨b, rfl, hS1⟩
 refine sQ 5 (yg (.bool false)) (rn (cq (cq (cr ?_))))
 refine sQ 6 (ym (vi i)) <| sQ 7 (ym (vi j)) <| sQ 8 (yE i j) (rn ?_)
 refine cw_cond (b := (i == j)) rfl (fun hb => ?_) (fun hb => ?_)
 ·skip
  have hF1 := ct hF hb
  refine cq (cr ?_)
  obtain ⟨r_2, hc, hF1⟩ := bI hF1
  refine sc 9 rfl rfl (yC [vi 1] K88 (c_impl_whole 1 _  (hS1.inn0 [] rfl) hc)) ?_
  rintro _ w_1 ⟨rfl, hd⟩
  have hS2 := hS1.out00 hd
  refine s0 (yT 0 5 (aD b) 51 (gD_ r_2) (kD_ r_2) 0 hS2 K2) ?_
  rintro _ w_2 ⟨rfl, hS3⟩
  refine sQ 5 (yg (.bool true)) (rn (ct_ ?_))
  obtain ⟨rfl, rfl⟩ := pr2 (sI hF1)
  exact ret2 Tryz.results46 (v1 := gD_ r_2) (resAt_cellA (B := aD b) (i := 0) (cs := kD_ r_2) (vs := kD_ r_2) rfl K5 K2 (hS3.c 0) rfl rfl) (v2 := .bool true) (resAt_tmp rfl) ⟨rfl, (hS3.sN [])⟩
 ·skip
  have hF2 := cf' hF hb
  refine cw_skip (cq (cr ?_))
  refine sQ 10 (Y_buildS (zs := kZ_) (vs := []) (cs := kZ_) K21 K6 rfl mpn rfl) ?_
  refine s0 (yT 0 5 (aD b) 51 gZ_ kZ_ 0 hS1 K2) ?_
  rintro _ w_3 ⟨rfl, hS4⟩
  refine sQ 5 (yg (.bool true)) (rn (ct_ ?_))
  obtain ⟨rfl, rfl⟩ := pr2 (sI hF2)
  exact ret2 Tryz.results46 (v1 := gZ_) (resAt_cellA (B := aD b) (i := 0) (cs := kZ_) (vs := kZ_) rfl K5 K2 (hS4.c 0) rfl rfl) (v2 := .bool true) (resAt_tmp rfl) ⟨rfl, (hS4.sN [])⟩

theorem c_impl_IdentityMatrix (n : Int)  (w0 : World)  (hS : ST w0 [] w0 [] []) {r_ : TMatrix} {r_1 : Bool} (hF : F_impl_IdentityMatrix n = some (r_, r_1)) :
  CV Tryz.prog 21 #[vi n] w0 (fun v w' => ∃ (B : Option Addr) (c : Nat), v = .tuple #[gM_ r_ B c, .bool r_1] ∧ ST w0 [] w' [⟨B, 51, (r_.Cells.flatMap eN0), c * 5⟩] []) := by
 unfold F_impl_IdentityMatrix at hF
 refine cv_of_cw 9 Tryz.func21 rfl Tryz.ntmps21 rfl ?_
 refine cq (cr ?_)
 refine sS 2 (yN kN_ 3 hS K10) ?_
 rintro _ w_ ⟨b, rfl, hS1⟩
 refine sQ 3 (yg (.bool false)) (rn (cq (cr ?_)))
 refine sQ 4 (ym (vi n)) <| sQ 5 (ym (vi n)) ?_
 obtain ⟨⟨r_2, r_3⟩, hc, hF⟩ := bI hF
 refine sc 6 rfl rfl (yC [vi n, vi n, .func (.func 46) #[] #[]] K108 (c_impl_matrixOf n n F_impl_IdentityMatrix_1 46 (#[]) [] _ k_call_46 (fun w hw x_0 x_1 y_0 y_1 h_ => c_impl_IdentityMatrix_1 x_0 x_1  w  hw h_) (hS1.inn0 [] rfl) hc)) ?_
 rintro _ w_1 ⟨B1, c1, rfl, hd⟩
 have hS2 := hS1.out0 hd
 refine sQ 7 (ye (gM_ r_2 B1 c1)) <| sQ 8 (ye (.bool r_3)) ?_
 refine s0 (yT 0 3 (aD b) 34 (gM_ r_2 B1 c1) (kM_ r_2 B1 c1) 0 hS2 K4) ?_
 rintro _ w_2 ⟨rfl, hS3⟩
 refine sQ 3 (yg (.bool r_3)) (rn (ct_ ?_))
 obtain ⟨rfl, rfl⟩ := pr2 (sI hF)
 exact ret2 Tryz.results21 (v1 := gM_ r_2 B1 c1) (resAt_cellA (B := aD b) (i := 0) (cs := kM_ r_2 B1 c1) (vs := kM_ r_2 B1 c1) rfl K8 K4 (hS3.c 0) rfl rfl) (v2 := .bool r_3) (resAt_tmp rfl) ⟨B1, c1, rfl, (hS3.sN [1])⟩

theorem c_impl_isCoef (n : Int)  (w0 : World)  (hS : ST w0 [] w0 [] []) {r_ : Bool} (hF : F_impl_isCoef n = some r_) :
  CV Tryz.prog 114 #[vi n] w0 (fun v w' => v = .bool r_ ∧ ST w0 [] w' [] []) := by
 unfold F_impl_isCoef at hF
 refine cv_of_cw 5 Tryz.func114 rfl Tryz.ntmps114 rfl ?_
 refine cq (cr ?_)
 refine sQ 2 (yg (.bool false)) (rn (cq (cr ?_)))
 refine sQ 3 (ym (vi n)) ?_
 obtain ⟨r_1, hc, hF⟩ := bI hF
 refine sc 4 rfl rfl (yC [vi n, vi (-1000000000), vi 1000000000] K48 (c_impl_within n (-1000000000) 1000000000 _  (hS.inn0 [] rfl) hc)) ?_
 rintro _ w_ ⟨rfl, hd⟩
 have hS1 := hS.out00 hd
 refine sQ 2 (yg (.bool r_1)) (rn (ct_ ?_))
 obtain rfl := sI hF
 exact ret1 Tryz.results114 (v1 := .bool r_1) (resAt_tmp rfl) ⟨rfl, (hS1.sN [])⟩

theorem c_impl_IsValidRing (x : TRing)  (w0 : World)  (hS : ST w0 [] w0 [] []) {r_ : Bool} (hF : F_impl_IsValidRing x = some r_) :
  CV Tryz.prog 106 #[gR_ x] w0 (fun v w' => v = .bool r_ ∧ ST w0 [] w' [] []) := by
 unfold F_impl_IsValidRing at hF
 refine cv_of_cw 21 Tryz.func106 rfl Tryz.ntmps106 rfl ?_
 refine cq (cr ?_)
 refine sS 1 (yB 49 (gR_ x) (kR_ x) 4 hS) ?_
 rintro _ w_ ⟨b, rfl, hS1⟩
 refine sQ 2 (yg (.bool false)) (rn (cq (cr ?_)))
 refine sQ 3 (yd (aD b) 0 0 K17 K0) <| sQ 4 (yl (aD b) 0 (kR_ x) (vi x.A) K1 (hS1.c 0)) ?_
 obtain ⟨r_1, hc, hF⟩ := bI hF
 refine sc 5 rfl rfl (yC [vi x.A] K89 (c_impl_isCoef x.A _  (hS1.inn0 [] rfl) hc)) ?_
 rintro _ w_1 ⟨rfl, hd⟩
 have hS2 := hS1.out00 hd
 refine sQ 6 (ym (.bool r_1)) ?_
 refine sgq 7 (B := r_1) (v := pt (aD b) 1) rfl rfl (uT_ 6) (fun hg => (yd (aD b) 0 0 K18 K0)) ?_
 refine sgq 8 (B := r_1) (v := vi x.B) rfl rfl (uT_ 6) (fun hg1 => (yl (aD b) 1 (kR_ x) (vi x.B) K1 (hS2.c 0) rfl (gv_of (v := pt (aD b) 1) hg1))) ?_
 obtain ⟨r_2, hc1, hF⟩ := bI hF
 refine sgc 9 (B := r_1) (v := .bool r_2) (F := hS2.fn) rfl rfl (uT_ 6) hS2 (fun hg2 => (yC [vi x.B] K89 (CV.mono (c_impl_isCoef x.B _  (hS2.inn0 [] rfl) (gb_inv hc1 hg2)) (by rintro _ _ ⟨rfl, h⟩; exact ⟨rfl, hS2.out00 h⟩)) rfl (mc (gv_of (v := vi x.B) hg2) mn))) ?_
 rintro w_2 hS3
 refine sQ 10 (Y_and (b := r_1) (z := r_2) rfl rfl rfl rfl) <| sQ 11 (ym (.bool (r_1 && r_2))) ?_
 refine sgq 12 (B := (r_1 && r_2)) (v := pt (aD b) 2) rfl rfl (uT_ 11) (fun hg3 => (yd (aD b) 0 0 K19 K0)) ?_
 refine sgq 13 (B := (r_1 && r_2)) (v := vi x.C) rfl rfl (uT_ 11) (fun hg4 => (yl (aD b) 2 (kR_ x) (vi x.C) K1 (hS3.c 0) rfl (gv_of (v := pt (aD b) 2) hg4))) ?_
 obtain ⟨r_3, hc2, hF⟩ := bI hF
 refine sgc 14 (B := (r_1 && r_2)) (v := .bool r_3) (F := hS3.fn) rfl rfl (uT_ 11) hS3 (fun hg5 => (yC [vi x.C] K89 (CV.mono (c_impl_isCoef x.C _  (hS3.inn0 [] rfl) (gb_inv hc2 hg5)) (by rintro _ _ ⟨rfl, h⟩; exact ⟨rfl, hS3.out00 h⟩)) rfl (mc (gv_of (v := vi x.C) hg5) mn))) ?_
 rintro w_3 hS4
 refine sQ 15 (Y_and (b := (r_1 && r_2)) (z := r_3) rfl rfl rfl rfl) <| sQ 16 (ym (.bool ((r_1 && r_2) && r_3))) ?_
 refine sgq 17 (B := ((r_1 && r_2) && r_3)) (v := pt (aD b) 3) rfl rfl (uT_ 16) (fun hg6 => (yd (aD b) 0 0 K20 K0)) ?_
 refine sgq 18 (B := ((r_1 && r_2) && r_3)) (v := vi x.D) rfl rfl (uT_ 16) (fun hg7 => (yl (aD b) 3 (kR_ x) (vi x.D) K1 (hS4.c 0) rfl (gv_of (v := pt (aD b) 3) hg7))) ?_
 obtain ⟨r_4, hc3, hF⟩ := bI hF
 refine sgc 19 (B := ((r_1 && r_2) && r_3)) (v := .bool r_4) (F := hS4.fn) rfl rfl (uT_ 16) hS4 (fun hg8 => (yC [vi x.D] K89 (CV.mono (c_impl_isCoef x.D _  (hS4.inn0 [] rfl) (gb_inv hc3 hg8)) (by rintro _ _ ⟨rfl, h⟩; exact ⟨rfl, hS4.out00 h⟩)) rfl (mc (gv_of (v := vi x.D) hg8) mn))) ?_
 rintro w_4 hS5
 refine sQ 20 (Y_and (b := ((r_1 && r_2) && r_3)) (z := r_4) rfl rfl rfl rfl) <| sQ 2 (yg (.bool (((r_1 && r_2) && r_3) && r_4))) (rn (ct_ ?_))
 obtain rfl := sI hF
 exact ret1 Tryz.results106 (v1 := .bool (((r_1 && r_2) && r_3) && r_4)) (resAt_tmp rfl) ⟨rfl, (hS5.sN [])⟩

theorem c_impl_isEven (x : TRing)  (w0 : World)  (hS : ST w0 [] w0 [] []) {r_ : Bool} (hF : F_impl_isEven x = some r_) :
  CV Tryz.prog 107 #[gR_ x] w0 (fun v w' => v = .bool r_ ∧ ST w0 [] w' [] []) := by
 unfold F_impl_isEven at hF
 refine cv_of_cw 19 Tryz.func107 rfl Tryz.ntmps107 rfl ?_
 refine cq (cr ?_)
 refine sS 1 (yB 49 (gR_ x) (kR_ x) 4 hS) ?_
 rintro _ w_ ⟨b, rfl, hS1⟩
 refine sQ 2 (yg (.bool false)) (rn (cq (cr ?_)))
 refine sQ 3 (yd (aD b) 0 0 K17 K0) <| sQ 4 (yl (aD b) 0 (kR_ x) (vi x.A) K1 (hS1.c 0)) <| sQ 5 (yd (aD b) 0 0 K19 K0) <| sQ 6 (yl (aD b) 2 (kR_ x) (vi x.C) K1 (hS1.c 0)) <| sQ 7 (yP x.A x.C) <| sQ 8 (Y_rem (k := .i64) (a := (i64.wrap (x.A + x.C))) (b := 2) rfl rfl rfl (by decide)) ?_
 refine sQ 9 (yE (Int.tmod (i64.wrap (x.A + x.C)) 2) 0) <| sQ 10 (ym (.bool ((Int.tmod (i64.wrap (x.A + x.C)) 2) == 0))) ?_
 refine sgq 11 (B := ((Int.tmod (i64.wrap (x.A + x.C)) 2) == 0)) (v := pt (aD b) 1) rfl rfl (uT_ 10) (fun hg => (yd (aD b) 0 0 K18 K0)) ?_
 refine sgq 12 (B := ((Int.tmod (i64.wrap (x.A + x.C)) 2) == 0)) (v := vi x.B) rfl rfl (uT_ 10) (fun hg1 => (yl (aD b) 1 (kR_ x) (vi x.B) K1 (hS1.c 0) rfl (gv_of (v := pt (aD b) 1) hg1))) ?_
 refine sgq 13 (B := ((Int.tmod (i64.wrap (x.A + x.C)) 2) == 0)) (v := pt (aD b) 3) rfl rfl (uT_ 10) (fun hg2 => (yd (aD b) 0 0 K20 K0)) ?_
 refine sgq 14 (B := ((Int.tmod (i64.wrap (x.A + x.C)) 2) == 0)) (v := vi x.D) rfl rfl (uT_ 10) (fun hg3 => (yl (aD b) 3 (kR_ x) (vi x.D) K1 (hS1.c 0) rfl (gv_of (v := pt (aD b) 3) hg3))) ?_
 refine sgq 15 (B := ((Int.tmod (i64.wrap (x.A + x.C)) 2) == 0)) (v := vi (i64.wrap (x.B + x.D))) rfl rfl (uT_ 10) (fun hg4 => (yP x.B x.D rfl (gv_of (v := vi x.B) hg4) (gv_of (v := vi x.D) hg4))) ?_
 refine sgq 16 (B := ((Int.tmod (i64.wrap (x.A + x.C)) 2) == 0)) (v := vi (Int.tmod (i64.wrap (x.B + x.D)) 2)) rfl rfl (uT_ 10) (fun hg5 => (Y_rem (k := .i64) (a := (i64.wrap (x.B + x.D))) (b := 2) rfl (gv_of (v := vi (i64.wrap (x.B + x.D))) hg5) rfl (by decide))) ?_
 refine sgq 17 (B := ((Int.tmod (i64.wrap (x.A + x.C)) 2) == 0)) (v := .bool ((Int.tmod (i64.wrap (x.B + x.D)) 2) == 0)) rfl rfl (uT_ 10) (fun hg6 => (yE (Int.tmod (i64.wrap (x.B + x.D)) 2) 0 rfl (gv_of (v := vi (Int.tmod (i64.wrap (x.B + x.D)) 2)) hg6))) ?_
 refine sQ 18 (Y_and (b := ((Int.tmod (i64.wrap (x.A + x.C)) 2) == 0)) (z := ((Int.tmod (i64.wrap (x.B + x.D)) 2) == 0)) rfl rfl rfl rfl) <| sQ 2 (yg (.bool (((Int.tmod (i64.wrap (x.A + x.C)) 2) == 0) && ((Int.tmod (i64.wrap (x.B + x.D)) 2) == 0)))) (rn (ct_ ?_))
 obtain rfl := sI hF
 exact ret1 Tryz.results107 (v1 := .bool (((Int.tmod (i64.wrap (x.A + x.C)) 2) == 0) && ((Int.tmod (i64.wrap (x.B + x.D)) 2) == 0))) (resAt_tmp rfl) ⟨rfl, (hS1.sN [])⟩

theorem c_impl_IsValidDyadic (x : TDyadic)  (w0 : World)  (hS : ST w0 [] w0 [] []) {r_ : Bool} (hF : F_impl_IsValidDyadic x = some r_) :
  CV Tryz.prog 83 #[gD_ x] w0 (fun v w' => v = .bool r_ ∧ ST w0 [] w' [] []) := by
 unfold F_impl_IsValidDyadic at hF
 refine cv_of_cw 22 Tryz.func83 rfl Tryz.ntmps83 rfl ?_
 refine cq (cr ?_)
 refine sS 1 (yB 51 (gD_ x) (kD_ x) 5 hS) ?_
 rintro _ w_ ⟨b, rfl, hS1⟩
 refine sQ 2 (yg (.bool false)) (rn (cq (cr ?_)))
 refine sQ 3 (yd (aD b) 0 3 K41 K3) <| sQ 4 (ya (aD b) 0 (kD_ x) (kR_ x.Num) K7 K3 (hS1.c 0)) ?_
 obtain ⟨r_1, hc, hF⟩ := bI hF
 refine sc 5 rfl rfl (yC [gR_ x.Num] K69 (c_impl_IsValidRing x.Num _  (hS1.inn0 [] rfl) hc)) ?_
 rintro _ w_1 ⟨rfl, hd⟩
 have hS2 := hS1.out00 hd
 refine sQ 6 (ym (.bool r_1)) ?_
 refine sgq 7 (B := r_1) (v := pt (aD b) 4) rfl rfl (uT_ 6) (fun hg => (yd (aD b) 0 0 K33 K0)) ?_
 refine sgq 8 (B := r_1) (v := vi x.Exp) rfl rfl (uT_ 6) (fun hg1 => (yl (aD b) 4 (kD_ x) (vi x.Exp) K1 (hS2.c 0) rfl (gv_of (v := pt (aD b) 4) hg1))) ?_
 obtain ⟨r_2, hc1, hF⟩ := bI hF
 refine sgc 9 (B := r_1) (v := .bool r_2) (F := hS2.fn) rfl rfl (uT_ 6) hS2 (fun hg2 => (yC [vi x.Exp, vi 0, vi 60] K48 (CV.mono (c_impl_within x.Exp 0 60 _  (hS2.inn0 [] rfl) (gb_inv hc1 hg2)) (by rintro _ _ ⟨rfl, h⟩; exact ⟨rfl, hS2.out00 h⟩)) rfl (mc (gv_of (v := vi x.Exp) hg2) (mc rfl (mc rfl mn))))) ?_
 rintro w_2 hS3
 refine sQ 10 (Y_and (b := r_1) (z := r_2) rfl rfl rfl rfl) <| sQ 11 (ym (.bool (r_1 && r_2))) ?_
 refine sgq 12 (B := (r_1 && r_2)) (v := pt (aD b) 4) rfl rfl (uT_ 11) (fun hg3 => (yd (aD b) 0 0 K33 K0)) ?_
 refine sgq 13 (B := (r_1 && r_2)) (v := vi x.Exp) rfl rfl (uT_ 11) (fun hg4 => (yl (aD b) 4 (kD_ x) (vi x.Exp) K1 (hS3.c 0) rfl (gv_of (v := pt (aD b) 4) hg4))) ?_
 refine sgq 14 (B := (r_1 && r_2)) (v := .bool (x.Exp == 0)) rfl rfl (uT_ 11) (fun hg5 => (yE x.Exp 0 rfl (gv_of (v := vi x.Exp) hg5))) ?_
 refine sgq 15 (B := (r_1 && r_2)) (v := .bool (x.Exp == 0)) rfl rfl (uT_ 11) (fun hg6 => (ym (.bool (x.Exp == 0)) rfl (gv_of (v := .bool (x.Exp == 0)) hg6))) ?_
 refine sgq 16 (B := ((r_1 && r_2) && (!(x.Exp == 0)))) (v := pt (aD b) 0) rfl rfl (wt_gf (gd_of (t := 15) (by kernel_rfl) rfl)) (fun hg7 => (yd (aD b) 0 3 K41 K3)) ?_
 refine sgq 17 (B := ((r_1 && r_2) && (!(x.Exp == 0)))) (v := gR_ x.Num) rfl rfl (wt_gf (gd_of (t := 15) (by kernel_rfl) rfl)) (fun hg8 => (ya (aD b) 0 (kD_ x) (kR_ x.Num) K7 K3 (hS3.c 0) rfl (gv_of (v := pt (aD b) 0) hg8))) ?_
 obtain ⟨r_3, hc2, hF⟩ := bI hF
 refine sgc 18 (B := ((r_1 && r_2) && (!(x.Exp == 0)))) (v := .bool r_3) (F := hS3.fn) rfl rfl (wt_gf (gd_of (t := 15) (by kernel_rfl) rfl)) hS3 (fun hg9 => (yC [gR_ x.Num] K90 (CV.mono (c_impl_isEven x.Num _  (hS3.inn0 [] rfl) (gb_inv hc2 hg9)) (by rintro _ _ ⟨rfl, h⟩; exact ⟨rfl, hS3.out00 h⟩)) rfl (mc (gv_of (v := gR_ x.Num) hg9) mn))) ?_
 rintro w_3 hS4
 refine sgq 19 (B := ((r_1 && r_2) && (!(x.Exp == 0)))) (v := .bool (!r_3)) rfl rfl (wt_gf (gd_of (t := 15) (by kernel_rfl) rfl)) (fun hg10 => (Y_not (p := r_3) rfl (gv_of (v := .bool r_3) hg10))) ?_
 refine sgq 20 (B := (r_1 && r_2)) (v := .bool ((x.Exp == 0) || (!r_3))) rfl rfl (uT_ 11) (fun hg11 => (Y_or (b := (x.Exp == 0)) (z := (!r_3)) rfl (gv_of (v := .bool (x.Exp == 0)) hg11) rfl (gv_and (B := (r_1 && r_2)) (C := (!(x.Exp == 0))) (v := .bool (!r_3)) hg11))) ?_
 refine sQ 21 (Y_and (b := (r_1 && r_2)) (z := ((x.Exp == 0) || (!r_3))) rfl rfl rfl rfl) <| sQ 2 (yg (.bool ((r_1 && r_2) && ((x.Exp == 0) || (!r_3))))) (rn (ct_ ?_))
 obtain rfl := sI hF
 exact ret1 Tryz.results83 (v1 := .bool ((r_1 && r_2) && ((x.Exp == 0) || (!r_3)))) (resAt_tmp rfl) ⟨rfl, (hS4.sN [])⟩

theorem c_impl_ringIf (out : TRing) (args : List TRing) (B : Option Addr) (c n : Nat) (w0 : World) (hn : args.length = n) (hS : ST w0 (bl [⟨B, 49, (args.flatMap enc_Ring), c * 4⟩]) w0 [⟨B, 49, (args.flatMap enc_Ring), c * 4⟩] []) {r_ : TRing} {r_1 : Bool} (hF : F_impl_ringIf out args = some (r_, r_1)) :
  CV Tryz.prog 108 #[gR_ out, .slice B n c] w0 (fun v w' => v = .tuple #[gR_ r_, .bool r_1] ∧ ST w0 (bl [⟨B, 49, (args.flatMap enc_Ring), c * 4⟩]) w' [] []) := by
 subst hn
 unfold F_impl_ringIf at hF
 refine cv_of_cw 23 Tryz.func108 rfl Tryz.ntmps108 rfl ?_
 refine cq (cr ?_)
 refine sS 2 (yB 49 (gR_ out) (kR_ out) 4 hS) ?_
 rintro _ w_ ⟨b, rfl, hS1⟩
 refine sS 4 (yN [vi 0, vi 0, vi 0, vi 0] 4 hS1 K14) ?_
 rintro _ w_1 ⟨b1, rfl, hS2⟩
 refine sQ 5 (yg (.bool false)) (rn (cq (cq (cr ?_))))
 refine sQ 8 (ym (.slice B args.length c)) <| sQ 9 (yb (aD b) 0 (kR_ out) K7 K3 (hS2.c 1)) ?_
 refine sS 10 (Ys_bslice (s := 4) (len := 1) (vs := [(0, gR_ out)]) (cs := kR_ out) (zs := [vi 0, vi 0, vi 0, vi 0]) (m := 4) hS2 K40 K3 K63 rfl (mpc rfl mpn) rfl rfl rfl (by kernel_rfl) (by kernel_rfl) rfl) ?_
 rintro _ w_2 ⟨b2, rfl, hS3⟩
 obtain ⟨hap, hF⟩ := chk_inv hF
 refine sS 11 (Ys_append (s := 4) (by' := 32) (i := 0) (nn := args.length) (c := c) (k := 1) (len := (args ++ [out]).length) (B := B) (xs := ([out].flatMap enc_Ring)) (cs' := ((args ++ [out]).flatMap enc_Ring)) hS3 K40 K3 k_by_49_32 K14 rfl (by decide) rfl rfl rfl rfl (fm_lenn (l := args) enc_Ring_len rfl) rfl (hS3.c 3) (fm_lenn (l := [out]) enc_Ring_len rfl) (fm_one' (enc := enc_Ring) enc_Ring_one [out]) (by have := hap; omega) (by have := hap; simp only [maxLen]; omega) (fm_app _ _) (app_len (l := args) (l' := [out]) rfl rfl)) ?_
 rintro _ w_3 ⟨B1, c1, rfl, hS4⟩
 refine sQ 12 (Y_len (B := B1) (m := (args ++ [out]).length) (c := c1) K40 rfl rfl) <| sQ 13 (ym (vi 0)) (rn ?_)
 obtain ⟨hN, hF⟩ := chk_inv hF
 obtain ⟨z, hz, hF1⟩ := bI hF
 refine cw_block ?_
 refine cw_loop (fun k f w => ∃ (i : Nat), FF f [(2, pt (aD b) 0), (4, pt (aD b1) 0), (11, .slice B1 ((args ++ [out]).length) c1), (12, vi ((args ++ [out]).length : Int)), (13, vi (i : Int))] ∧ ST w0 (bl [⟨B, 49, (args.flatMap enc_Ring), c * 4⟩]) w [⟨aD b, 49, kR_ out, 4⟩, ⟨aD b1, 49, [vi 0, vi 0, vi 0, vi 0], 4⟩, ⟨B1, 49, ((args ++ [out]).flatMap enc_Ring), c1 * 4⟩] [] ∧ i + k = (args ++ [out]).length ∧ forX (F_impl_ringIf_l1 args out) k i () = some z) ((args ++ [out]).length) ⟨0, (fc rfl (fc rfl (fc rfl (fc rfl (fc rfl fn_))))), (hS4.sel [1, 2, 0] rfl rfl), Nat.zero_add _, hz⟩ ?_
 rintro k_ f w ⟨i, hf, hS5, hik, hL⟩
 refine cq (cr ?_)
 refine sQ 14 (yL (i : Int) ((args ++ [out]).length : Int) rfl (hf.g 13 4) (hf.g 12 3)) (rn (cq ?_))
 refine cw_cond (b := (decide ((i : Int) < ((args ++ [out]).length : Int)))) rfl (fun hlt => ?_) (fun hlt => ?_)
 ·skip
  have hlt1 : i < (args ++ [out]).length := by have h := of_decide_eq_true hlt; omega
  obtain ⟨K9, rfl⟩ : ∃ k2, k_ = k2 + 1 := ⟨k_ - 1, by omega⟩
  obtain ⟨y, hb, hL1⟩ := forX_go hL
  unfold F_impl_ringIf_l1 at hb
  refine cw_skip (cq (cw_block (cq (cr ?_))))
  obtain ⟨x, hx, hb⟩ := bI hb
  refine sQ 15 (Y_index (B := B1) (m := (args ++ [out]).length) (c := c1) (k := .i64) (i := (i : Int)) K40 K3 rfl (hf.g 11 2) (hf.g 13 4) (gi_isSome enc_Ring_len rfl (hS5.c 2) hx) (getI_nn hx) (getI_ltI hx rfl)) <| sQ 16 (ya B1 ((i : Int).toNat * 4) ((args ++ [out]).flatMap enc_Ring) (kR_ x) K7 K3 (hS5.c 2) rfl rfl (enc_Ring_len x) (gi_seg enc_Ring_len hx)) ?_
  refine sS 7 (yN [vi 0, vi 0, vi 0, vi 0] 4 hS5 K14) ?_
  rintro _ w_4 ⟨b3, rfl, hS6⟩
  refine s0 (yT 3 4 (aD b3) 49 (gR_ x) (kR_ x) 0 hS6 K3) ?_
  rintro _ w_5 ⟨rfl, hS7⟩
  refine rn (cq (cr ?_))
  refine sQ 17 (yb (aD b3) 0 (kR_ x) K7 K3 (hS7.c 3)) ?_
  obtain ⟨r_2, hc, hb⟩ := bI hb
  refine sc 18 rfl rfl (yC [gR_ x] K69 (c_impl_IsValidRing x _  (hS7.inn0 [] rfl) hc)) ?_
  rintro _ w_6 ⟨rfl, hd⟩
  have hS8 := hS7.out00 hd
  refine sQ 19 (Y_not (p := r_2) rfl rfl) (rn ?_)
  refine cw_cond (b := (!r_2)) rfl (fun hb1 => ?_) (fun hb1 => ?_)
  ·skip
   have hF2 := ct hb hb1
   refine cq (cr ?_)
   refine sQ 20 (Y_buildS (zs := [vi 0, vi 0, vi 0, vi 0]) (vs := []) (cs := [vi 0, vi 0, vi 0, vi 0]) K31 K14 rfl mpn rfl) ?_
   refine s0 (yT 1 4 (aD b1) 49 (.agg #[vi 0, vi 0, vi 0, vi 0]) [vi 0, vi 0, vi 0, vi 0] 0 hS8 K3 rfl (hf.g 4 1)) ?_
   rintro _ w_7 ⟨rfl, hS9⟩
   refine sQ 5 (yg (.bool false)) (rn (ct_ ?_))
   obtain rfl := sI hF2
   obtain rfl := sI hL1
   obtain ⟨rfl, rfl⟩ := pr2 (sI hF1)
   exact ret2 Tryz.results108 (v1 := .agg #[vi 0, vi 0, vi 0, vi 0]) (resAt_cellA (B := aD b1) (i := 0) (cs := [vi 0, vi 0, vi 0, vi 0]) (vs := [vi 0, vi 0, vi 0, vi 0]) (hf.g 4 1) K7 K3 (hS9.c 1) rfl rfl) (v2 := .bool false) (resAt_tmp rfl) ⟨rfl, (hS9.sN [])⟩
  ·skip
   have hF3 := cf' hb hb1
   refine cw_skip (cr ?_)
   refine sQ 21 (yP (i : Int) 1 rfl (hf.g 13 4)) <| sQ 13 (ym (vi (i64.wrap ((i : Int) + 1)))) (rn ?_)
   obtain rfl := sI hF3
   exact ⟨K9, Nat.lt_succ_self _, i + 1, (fc (hf.g 2 0) (fc (hf.g 4 1) (fc (hf.g 11 2) (fc (hf.g 12 3) (fc (congrArg (Value.int .i64) (wr_succ hlt1 hN)) fn_))))), (hS8.sel [0, 1, 2] rfl rfl), (by omega), hL1⟩
 ·skip
  obtain rfl : k_ = 0 := by have h := of_decide_eq_false hlt; omega
  refine cw_exit rfl ?_
  obtain rfl := sI hL
  refine cq (cr ?_)
  refine sQ 22 (yb (aD b) 0 (kR_ out) K7 K3 (hS5.c 0) rfl (hf.g 2 0)) ?_
  refine s0 (yT 1 4 (aD b1) 49 (gR_ out) (kR_ out) 0 hS5 K3 rfl (hf.g 4 1)) ?_
  rintro _ w_8 ⟨rfl, hS10⟩
  refine sQ 5 (yg (.bool true)) (rn (ct_ ?_))
  obtain ⟨rfl, rfl⟩ := pr2 (sI hF1)
  exact ret2 Tryz.results108 (v1 := gR_ out) (resAt_cellA (B := aD b1) (i := 0) (cs := kR_ out) (vs := kR_ out) (hf.g 4 1) K7 K3 (hS10.c 1) rfl rfl) (v2 := .bool true) (resAt_tmp rfl) ⟨rfl, (hS10.sN [])⟩

theorem c_impl_MulRing (x : TRing) (y : TRing)  (w0 : World)  (hS : ST w0 [] w0 [] []) {r_ : TRing} {r_1 : Bool} (hF : F_impl_MulRing x y = some (r_, r_1)) :
  CV Tryz.prog 84 #[gR_ x, gR_ y] w0 (fun v w' => v = .tuple #[gR_ r_, .bool r_1] ∧ ST w0 [] w' [] []) := by
 unfold F_impl_MulRing at hF
 refine cv_of_cw 105 Tryz.func84 rfl Tryz.ntmps84 rfl ?_
 refine cq (cr ?_)
 refine sS 2 (yB 49 (gR_ x) (kR_ x) 4 hS) ?_
 rintro _ w_ ⟨b, rfl, hS1⟩
 refine sS 3 (yB 49 (gR_ y) (kR_ y) 4 hS1) ?_
 rintro _ w_1 ⟨b1, rfl, hS2⟩
 refine sS 4 (yN [vi 0, vi 0, vi 0, vi 0] 4 hS2 K14) ?_
 rintro _ w_2 ⟨b2, rfl, hS3⟩
 refine sQ 5 (yg (.bool false)) (rn (cq (cr ?_)))
 refine sQ 6 (yd (aD b) 0 0 K17 K0) <| sQ 7 (yl (aD b) 0 (kR_ x) (vi x.A) K1 (hS3.c 0)) <| sQ 8 (yd (aD b1) 0 0 K17 K0) <| sQ 9 (yl (aD b1) 0 (kR_ y) (vi y.A) K1 (hS3.c 1)) <| sQ 10 (yX x.A y.A) <| sQ 11 (yd (aD b) 0 0 K18 K0) ?_
 refine sQ 12 (yl (aD b) 1 (kR_ x) (vi x.B) K1 (hS3.c 0)) <| sQ 13 (yd (aD b1) 0 0 K20 K0) <| sQ 14 (yl (aD b1) 3 (kR_ y) (vi y.D) K1 (hS3.c 1)) <| sQ 15 (yX x.B y.D) <| sQ 16 (yM (i64.wrap (x.A * y.A)) (i64.wrap (x.B * y.D))) <| sQ 17 (yd (aD b) 0 0 K19 K0) ?_
 refine sQ 18 (yl (aD b) 2 (kR_ x) (vi x.C) K1 (hS3.c 0)) <| sQ 19 (yd (aD b1) 0 0 K19 K0) <| sQ 20 (yl (aD b1) 2 (kR_ y) (vi y.C) K1 (hS3.c 1)) <| sQ 21 (yX x.C y.C) <| sQ 22 (yM (i64.wrap ((i64.wrap (x.A * y.A)) - (i64.wrap (x.B * y.D)))) (i64.wrap (x.C * y.C))) <| sQ 23 (yd (aD b) 0 0 K20 K0) ?_
 refine sQ 24 (yl (aD b) 3 (kR_ x) (vi x.D) K1 (hS3.c 0)) <| sQ 25 (yd (aD b1) 0 0 K18 K0) <| sQ 26 (yl (aD b1) 1 (kR_ y) (vi y.B) K1 (hS3.c 1)) <| sQ 27 (yX x.D y.B) <| sQ 28 (yM (i64.wrap ((i64.wrap ((i64.wrap (x.A * y.A)) - (i64.wrap (x.B * y.D)))) - (i64.wrap (x.C * y.C)))) (i64.wrap (x.D * y.B))) <| sQ 29 (yd (aD b) 0 0 K17 K0) ?_
 refine sQ 30 (yl (aD b) 0 (kR_ x) (vi x.A) K1 (hS3.c 0)) <| sQ 31 (yd (aD b1) 0 0 K18 K0) <| sQ 32 (yl (aD b1) 1 (kR_ y) (vi y.B) K1 (hS3.c 1)) <| sQ 33 (yX x.A y.B) <| sQ 34 (yd (aD b) 0 0 K18 K0) <| sQ 35 (yl (aD b) 1 (kR_ x) (vi x.B) K1 (hS3.c 0)) ?_
 refine sQ 36 (yd (aD b1) 0 0 K17 K0) <| sQ 37 (yl (aD b1) 0 (kR_ y) (vi y.A) K1 (hS3.c 1)) <| sQ 38 (yX x.B y.A) <| sQ 39 (yP (i64.wrap (x.A * y.B)) (i64.wrap (x.B * y.A))) <| sQ 40 (yd (aD b) 0 0 K19 K0) <| sQ 41 (yl (aD b) 2 (kR_ x) (vi x.C) K1 (hS3.c 0)) ?_
 refine sQ 42 (yd (aD b1) 0 0 K20 K0) <| sQ 43 (yl (aD b1) 3 (kR_ y) (vi y.D) K1 (hS3.c 1)) <| sQ 44 (yX x.C y.D) <| sQ 45 (yM (i64.wrap ((i64.wrap (x.A * y.B)) + (i64.wrap (x.B * y.A)))) (i64.wrap (x.C * y.D))) <| sQ 46 (yd (aD b) 0 0 K20 K0) <| sQ 47 (yl (aD b) 3 (kR_ x) (vi x.D) K1 (hS3.c 0)) ?_
 refine sQ 48 (yd (aD b1) 0 0 K19 K0) <| sQ 49 (yl (aD b1) 2 (kR_ y) (vi y.C) K1 (hS3.c 1)) <| sQ 50 (yX x.D y.C) <| sQ 51 (yM (i64.wrap ((i64.wrap ((i64.wrap (x.A * y.B)) + (i64.wrap (x.B * y.A)))) - (i64.wrap (x.C * y.D)))) (i64.wrap (x.D * y.C))) <| sQ 52 (yd (aD b) 0 0 K17 K0) <| sQ 53 (yl (aD b) 0 (kR_ x) (vi x.A) K1 (hS3.c 0)) ?_
 refine sQ 54 (yd (aD b1) 0 0 K19 K0) <| sQ 55 (yl (aD b1) 2 (kR_ y) (vi y.C) K1 (hS3.c 1)) <| sQ 56 (yX x.A y.C) <| sQ 57 (yd (aD b) 0 0 K18 K0) <| sQ 58 (yl (aD b) 1 (kR_ x) (vi x.B) K1 (hS3.c 0)) <| sQ 59 (yd (aD b1) 0 0 K18 K0) ?_
 refine sQ 60 (yl (aD b1) 1 (kR_ y) (vi y.B) K1 (hS3.c 1)) <| sQ 61 (yX x.B y.B) <| sQ 62 (yP (i64.wrap (x.A * y.C)) (i64.wrap (x.B * y.B))) <| sQ 63 (yd (aD b) 0 0 K19 K0) <| sQ 64 (yl (aD b) 2 (kR_ x) (vi x.C) K1 (hS3.c 0)) <| sQ 65 (yd (aD b1) 0 0 K17 K0) ?_
 refine sQ 66 (yl (aD b1) 0 (kR_ y) (vi y.A) K1 (hS3.c 1)) <| sQ 67 (yX x.C y.A) <| sQ 68 (yP (i64.wrap ((i64.wrap (x.A * y.C)) + (i64.wrap (x.B * y.B)))) (i64.wrap (x.C * y.A))) <| sQ 69 (yd (aD b) 0 0 K20 K0) <| sQ 70 (yl (aD b) 3 (kR_ x) (vi x.D) K1 (hS3.c 0)) <| sQ 71 (yd (aD b1) 0 0 K20 K0) ?_
 refine sQ 72 (yl (aD b1) 3 (kR_ y) (vi y.D) K1 (hS3.c 1)) <| sQ 73 (yX x.D y.D) <| sQ 74 (yM (i64.wrap ((i64.wrap ((i64.wrap (x.A * y.C)) + (i64.wrap (x.B * y.B)))) + (i64.wrap (x.C * y.A)))) (i64.wrap (x.D * y.D))) <| sQ 75 (yd (aD b) 0 0 K17 K0) <| sQ 76 (yl (aD b) 0 (kR_ x) (vi x.A) K1 (hS3.c 0)) <| sQ 77 (yd (aD b1) 0 0 K20 K0) ?_
 refine sQ 78 (yl (aD b1) 3 (kR_ y) (vi y.D) K1 (hS3.c 1)) <| sQ 79 (yX x.A y.D) <| sQ 80 (yd (aD b) 0 0 K18 K0) <| sQ 81 (yl (aD b) 1 (kR_ x) (vi x.B) K1 (hS3.c 0)) <| sQ 82 (yd (aD b1) 0 0 K19 K0) <| sQ 83 (yl (aD b1) 2 (kR_ y) (vi y.C) K1 (hS3.c 1)) ?_
 refine sQ 84 (yX x.B y.C) <| sQ 85 (yP (i64.wrap (x.A * y.D)) (i64.wrap (x.B * y.C))) <| sQ 86 (yd (aD b) 0 0 K19 K0) <| sQ 87 (yl (aD b) 2 (kR_ x) (vi x.C) K1 (hS3.c 0)) <| sQ 88 (yd (aD b1) 0 0 K18 K0) <| sQ 89 (yl (aD b1) 1 (kR_ y) (vi y.B) K1 (hS3.c 1)) ?_
 refine sQ 90 (yX x.C y.B) <| sQ 91 (yP (i64.wrap ((i64.wrap (x.A * y.D)) + (i64.wrap (x.B * y.C)))) (i64.wrap (x.C * y.B))) <| sQ 92 (yd (aD b) 0 0 K20 K0) <| sQ 93 (yl (aD b) 3 (kR_ x) (vi x.D) K1 (hS3.c 0)) <| sQ 94 (yd (aD b1) 0 0 K17 K0) <| sQ 95 (yl (aD b1) 0 (kR_ y) (vi y.A) K1 (hS3.c 1)) ?_
 refine sQ 96 (yX x.D y.A) <| sQ 97 (yP (i64.wrap ((i64.wrap ((i64.wrap (x.A * y.D)) + (i64.wrap (x.B * y.C)))) + (i64.wrap (x.C * y.B)))) (i64.wrap (x.D * y.A))) <| sQ 98 (Y_buildS (zs := [vi 0, vi 0, vi 0, vi 0]) (vs := [(0, vi (i64.wrap ((i64.wrap ((i64.wrap ((i64.wrap (x.A * y.A)) - (i64.wrap (x.B * y.D)))) - (i64.wrap (x.C * y.C)))) - (i64.wrap (x.D * y.B))))), (1, vi (i64.wrap ((i64.wrap ((i64.wrap ((i64.wrap (x.A * y.B)) + (i64.wrap (x.B * y.A)))) - (i64.wrap (x.C * y.D)))) - (i64.wrap (x.D * y.C))))), (2, vi (i64.wrap ((i64.wrap ((i64.wrap ((i64.wrap (x.A * y.C)) + (i64.wrap (x.B * y.B)))) + (i64.wrap (x.C * y.A)))) - (i64.wrap (x.D * y.D))))), (3, vi (i64.wrap ((i64.wrap ((i64.wrap ((i64.wrap (x.A * y.D)) + (i64.wrap (x.B * y.C)))) + (i64.wrap (x.C * y.B)))) + (i64.wrap (x.D * y.A)))))]) (cs := [vi (i64.wrap ((i64.wrap ((i64.wrap ((i64.wrap (x.A * y.A)) - (i64.wrap (x.B * y.D)))) - (i64.wrap (x.C * y.C)))) - (i64.wrap (x.D * y.B)))), vi (i64.wrap ((i64.wrap ((i64.wrap ((i64.wrap (x.A * y.B)) + (i64.wrap (x.B * y.A)))) - (i64.wrap (x.C * y.D)))) - (i64.wrap (x.D * y.C)))), vi (i64.wrap ((i64.wrap ((i64.wrap ((i64.wrap (x.A * y.C)) + (i64.wrap (x.B * y.B)))) + (i64.wrap (x.C * y.A)))) - (i64.wrap (x.D * y.D)))), vi (i64.wrap ((i64.wrap ((i64.wrap ((i64.wrap (x.A * y.D)) + (i64.wrap (x.B * y.C)))) + (i64.wrap (x.C * y.B)))) + (i64.wrap (x.D * y.A))))]) K31 K14 rfl (mpc rfl (mpc rfl (mpc rfl (mpc rfl mpn)))) rfl) <| sQ 99 (yb (aD b) 0 (kR_ x) K7 K3 (hS3.c 0)) <| sQ 100 (yb (aD b1) 0 (kR_ y) K7 K3 (hS3.c 1)) ?_
 refine sS 101 (Ys_bslice (s := 4) (len := 2) (vs := [(0, gR_ x), (1, gR_ y)]) (cs := [vi x.A, vi x.B, vi x.C, vi x.D, vi y.A, vi y.B, vi y.C, vi y.D]) (zs := [vi 0, vi 0, vi 0, vi 0, vi 0, vi 0, vi 0, vi 0]) (m := 8) hS3 K40 K3 K63 rfl (mpc rfl (mpc rfl mpn)) rfl rfl rfl (by kernel_rfl) (by kernel_rfl) rfl) ?_
 rintro _ w_3 ⟨b3, rfl, hS4⟩
 obtain ⟨⟨r_2, r_3⟩, hc, hF⟩ := bI hF
 refine sc 102 rfl rfl (yC [.agg #[vi (i64.wrap ((i64.wrap ((i64.wrap ((i64.wrap (x.A * y.A)) - (i64.wrap (x.B * y.D)))) - (i64.wrap (x.C * y.C)))) - (i64.wrap (x.D * y.B)))), vi (i64.wrap ((i64.wrap ((i64.wrap ((i64.wrap (x.A * y.B)) + (i64.wrap (x.B * y.A)))) - (i64.wrap (x.C * y.D)))) - (i64.wrap (x.D * y.C)))), vi (i64.wrap ((i64.wrap ((i64.wrap ((i64.wrap (x.A * y.C)) + (i64.wrap (x.B * y.B)))) + (i64.wrap (x.C * y.A)))) - (i64.wrap (x.D * y.D)))), vi (i64.wrap ((i64.wrap ((i64.wrap ((i64.wrap (x.A * y.D)) + (i64.wrap (x.B * y.C)))) + (i64.wrap (x.C * y.B)))) + (i64.wrap (x.D * y.A))))], .slice (aD b3) 2 2] K80 (c_impl_ringIf (TRing.mk (i64.wrap ((i64.wrap ((i64.wrap ((i64.wrap (x.A * y.A)) - (i64.wrap (x.B * y.D)))) - (i64.wrap (x.C * y.C)))) - (i64.wrap (x.D * y.B)))) (i64.wrap ((i64.wrap ((i64.wrap ((i64.wrap (x.A * y.B)) + (i64.wrap (x.B * y.A)))) - (i64.wrap (x.C * y.D)))) - (i64.wrap (x.D * y.C)))) (i64.wrap ((i64.wrap ((i64.wrap ((i64.wrap (x.A * y.C)) + (i64.wrap (x.B * y.B)))) + (i64.wrap (x.C * y.A)))) - (i64.wrap (x.D * y.D)))) (i64.wrap ((i64.wrap ((i64.wrap ((i64.wrap (x.A * y.D)) + (i64.wrap (x.B * y.C)))) + (i64.wrap (x.C * y.B)))) + (i64.wrap (x.D * y.A))))) [x, y] (aD b3) 2 2 _ rfl (hS4.inn [false, false, false, true] rfl [] rfl) hc)) ?_
 rintro _ w_4 ⟨rfl, hd⟩
 have hS5 := hS4.out [false, false, false, true] rfl hd
 refine sQ 103 (ye (gR_ r_2)) <| sQ 104 (ye (.bool r_3)) ?_
 refine s0 (yT 2 4 (aD b2) 49 (gR_ r_2) (kR_ r_2) 0 hS5 K3) ?_
 rintro _ w_5 ⟨rfl, hS6⟩
 refine sQ 5 (yg (.bool r_3)) (rn (ct_ ?_))
 obtain ⟨rfl, rfl⟩ := pr2 (sI hF)
 exact ret2 Tryz.results84 (v1 := gR_ r_2) (resAt_cellA (B := aD b2) (i := 0) (cs := kR_ r_2) (vs := kR_ r_2) rfl K7 K3 (hS6.c 2) rfl rfl) (v2 := .bool r_3) (resAt_tmp rfl) ⟨rfl, (hS6.sN [])⟩

theorem c_impl_DivRootTwo (x : TRing)  (w0 : World)  (hS : ST w0 [] w0 [] []) {r_ : TRing} {r_1 : Bool} (hF : F_impl_DivRootTwo x = some (r_, r_1)) :
  CV Tryz.prog 109 #[gR_ x] w0 (fun v w' => v = .tuple #[gR_ r_, .bool r_1] ∧ ST w0 [] w' [] []) := by
 unfold F_impl_DivRootTwo at hF
 refine cv_of_cw 43 Tryz.func109 rfl Tryz.ntmps109 rfl ?_
 refine cq (cr ?_)
 refine sS 1 (yB 49 (gR_ x) (kR_ x) 4 hS) ?_
 rintro _ w_ ⟨b, rfl, hS1⟩
 refine sS 2 (yN [vi 0, vi 0, vi 0, vi 0] 4 hS1 K14) ?_
 rintro _ w_1 ⟨b1, rfl, hS2⟩
 refine sQ 3 (yg (.bool false)) (rn (cq (cq (cr ?_))))
 refine sQ 4 (yb (aD b) 0 (kR_ x) K7 K3 (hS2.c 0)) ?_
 obtain ⟨r_2, hc, hF⟩ := bI hF
 refine sc 5 rfl rfl (yC [gR_ x] K69 (c_impl_IsValidRing x _  (hS2.inn0 [] rfl) hc)) ?_
 rintro _ w_2 ⟨rfl, hd⟩
 have hS3 := hS2.out00 hd
 refine sQ 6 (Y_not (p := r_2) rfl rfl) <| sQ 7 (ym (.bool (!r_2))) ?_
 refine sgq 8 (B := (!(!r_2))) (v := gR_ x) rfl rfl (uF_ 7) (fun hg => (yb (aD b) 0 (kR_ x) K7 K3 (hS3.c 0))) ?_
 obtain ⟨r_3, hc1, hF⟩ := bI hF
 refine sgc 9 (B := (!(!r_2))) (v := .bool r_3) (F := hS3.fn) rfl rfl (uF_ 7) hS3 (fun hg1 => (yC [gR_ x] K90 (CV.mono (c_impl_isEven x _  (hS3.inn0 [] rfl) (gb_inv hc1 hg1)) (by rintro _ _ ⟨rfl, h⟩; exact ⟨rfl, hS3.out00 h⟩)) rfl (mc (gv_of (v := gR_ x) hg1) mn))) ?_
 rintro w_3 hS4
 refine sgq 10 (B := (!(!r_2))) (v := .bool (!r_3)) rfl rfl (uF_ 7) (fun hg2 => (Y_not (p := r_3) rfl (gv_of (v := .bool r_3) hg2))) ?_
 refine sQ 11 (Y_or (b := (!r_2)) (z := (!r_3)) rfl rfl rfl rfl) (rn ?_)
 refine cw_cond (b := ((!r_2) || (!r_3))) rfl (fun hb => ?_) (fun hb => ?_)
 ·skip
  have hF1 := ct hF hb
  refine cq (cr ?_)
  refine sQ 12 (Y_buildS (zs := [vi 0, vi 0, vi 0, vi 0]) (vs := []) (cs := [vi 0, vi 0, vi 0, vi 0]) K31 K14 rfl mpn rfl) ?_
  refine s0 (yT 1 4 (aD b1) 49 (.agg #[vi 0, vi 0, vi 0, vi 0]) [vi 0, vi 0, vi 0, vi 0] 0 hS4 K3) ?_
  rintro _ w_4 ⟨rfl, hS5⟩
  refine sQ 3 (yg (.bool false)) (rn (ct_ ?_))
  obtain ⟨rfl, rfl⟩ := pr2 (sI hF1)
  exact ret2 Tryz.results109 (v1 := .agg #[vi 0, vi 0, vi 0, vi 0]) (resAt_cellA (B := aD b1) (i := 0) (cs := [vi 0, vi 0, vi 0, vi 0]) (vs := [vi 0, vi 0, vi 0, vi 0]) rfl K7 K3 (hS5.c 1) rfl rfl) (v2 := .bool false) (resAt_tmp rfl) ⟨rfl, (hS5.sN [])⟩
 ·skip
  have hF2 := cf' hF hb
  refine cw_skip (cq (cr ?_))
  refine sQ 13 (yd (aD b) 0 0 K18 K0) <| sQ 14 (yl (aD b) 1 (kR_ x) (vi x.B) K1 (hS4.c 0)) <| sQ 15 (yd (aD b) 0 0 K20 K0) <| sQ 16 (yl (aD b) 3 (kR_ x) (vi x.D) K1 (hS4.c 0)) <| sQ 17 (yM x.B x.D) <| sQ 18 (Y_quo (k := .i64) (a := (i64.wrap (x.B - x.D))) (b := 2) rfl rfl rfl (by decide)) ?_
  refine sQ 19 (yd (aD b) 0 0 K17 K0) <| sQ 20 (yl (aD b) 0 (kR_ x) (vi x.A) K1 (hS4.c 0)) <| sQ 21 (yd (aD b) 0 0 K19 K0) <| sQ 22 (yl (aD b) 2 (kR_ x) (vi x.C) K1 (hS4.c 0)) <| sQ 23 (yP x.A x.C) <| sQ 24 (Y_quo (k := .i64) (a := (i64.wrap (x.A + x.C))) (b := 2) rfl rfl rfl (by decide)) ?_
  refine sQ 25 (yd (aD b) 0 0 K18 K0) <| sQ 26 (yl (aD b) 1 (kR_ x) (vi x.B) K1 (hS4.c 0)) <| sQ 27 (yd (aD b) 0 0 K20 K0) <| sQ 28 (yl (aD b) 3 (kR_ x) (vi x.D) K1 (hS4.c 0)) <| sQ 29 (yP x.B x.D) <| sQ 30 (Y_quo (k := .i64) (a := (i64.wrap (x.B + x.D))) (b := 2) rfl rfl rfl (by decide)) ?_
  refine sQ 31 (yd (aD b) 0 0 K19 K0) <| sQ 32 (yl (aD b) 2 (kR_ x) (vi x.C) K1 (hS4.c 0)) <| sQ 33 (yd (aD b) 0 0 K17 K0) <| sQ 34 (yl (aD b) 0 (kR_ x) (vi x.A) K1 (hS4.c 0)) <| sQ 35 (yM x.C x.A) <| sQ 36 (Y_quo (k := .i64) (a := (i64.wrap (x.C - x.A))) (b := 2) rfl rfl rfl (by decide)) ?_
  refine sQ 37 (Y_buildS (zs := [vi 0, vi 0, vi 0, vi 0]) (vs := [(0, vi (i64.wrap (Int.tdiv (i64.wrap (x.B - x.D)) 2))), (1, vi (i64.wrap (Int.tdiv (i64.wrap (x.A + x.C)) 2))), (2, vi (i64.wrap (Int.tdiv (i64.wrap (x.B + x.D)) 2))), (3, vi (i64.wrap (Int.tdiv (i64.wrap (x.C - x.A)) 2)))]) (cs := [vi (i64.wrap (Int.tdiv (i64.wrap (x.B - x.D)) 2)), vi (i64.wrap (Int.tdiv (i64.wrap (x.A + x.C)) 2)), vi (i64.wrap (Int.tdiv (i64.wrap (x.B + x.D)) 2)), vi (i64.wrap (Int.tdiv (i64.wrap (x.C - x.A)) 2))]) K31 K14 rfl (mpc rfl (mpc rfl (mpc rfl (mpc rfl mpn)))) rfl) <| sQ 38 (yb (aD b) 0 (kR_ x) K7 K3 (hS4.c 0)) ?_
  refine sS 39 (Ys_bslice (s := 4) (len := 1) (vs := [(0, gR_ x)]) (cs := kR_ x) (zs := [vi 0, vi 0, vi 0, vi 0]) (m := 4) hS4 K40 K3 K63 rfl (mpc rfl mpn) rfl rfl rfl (by kernel_rfl) (by kernel_rfl) rfl) ?_
  rintro _ w_5 ⟨b2, rfl, hS6⟩
  obtain ⟨⟨r_4, r_5⟩, hc2, hF2⟩ := bI hF2
  refine sc 40 rfl rfl (yC [.agg #[vi (i64.wrap (Int.tdiv (i64.wrap (x.B - x.D)) 2)), vi (i64.wrap (Int.tdiv (i64.wrap (x.A + x.C)) 2)), vi (i64.wrap (Int.tdiv (i64.wrap (x.B + x.D)) 2)), vi (i64.wrap (Int.tdiv (i64.wrap (x.C - x.A)) 2))], .slice (aD b2) 1 1] K80 (c_impl_ringIf (TRing.mk (i64.wrap (Int.tdiv (i64.wrap (x.B - x.D)) 2)) (i64.wrap (Int.tdiv (i64.wrap (x.A + x.C)) 2)) (i64.wrap (Int.tdiv (i64.wrap (x.B + x.D)) 2)) (i64.wrap (Int.tdiv (i64.wrap (x.C - x.A)) 2))) [x] (aD b2) 1 1 _ rfl (hS6.inn [false, false, true] rfl [] rfl) hc2)) ?_
  rintro _ w_6 ⟨rfl, hd1⟩
  have hS7 := hS6.out [false, false, true] rfl hd1
  refine sQ 41 (ye (gR_ r_4)) <| sQ 42 (ye (.bool r_5)) ?_
  refine s0 (yT 1 4 (aD b1) 49 (gR_ r_4) (kR_ r_4) 0 hS7 K3) ?_
  rintro _ w_7 ⟨rfl, hS8⟩
  refine sQ 3 (yg (.bool r_5)) (rn (ct_ ?_))
  obtain ⟨rfl, rfl⟩ := pr2 (sI hF2)
  exact ret2 Tryz.results109 (v1 := gR_ r_4) (resAt_cellA (B := aD b1) (i := 0) (cs := kR_ r_4) (vs := kR_ r_4) rfl K7 K3 (hS8.c 1) rfl rfl) (v2 := .bool r_5) (resAt_tmp rfl) ⟨rfl, (hS8.sN [])⟩

theorem c_impl_DyadicOf (num : TRing) (exp : Int)  (w0 : World)  (hS : ST w0 [] w0 [] []) {r_ : TDyadic} {r_1 : Bool} (hF : F_impl_DyadicOf num exp = some (r_, r_1)) :
  CV Tryz.prog 85 #[gR_ num, vi exp] w0 (fun v w' => v = .tuple #[gD_ r_, .bool r_1] ∧ ST w0 [] w' [] []) := by
 unfold F_impl_DyadicOf at hF
 refine cv_of_cw 31 Tryz.func85 rfl Tryz.ntmps85 rfl ?_
 refine cq (cr ?_)
 refine sS 2 (yB 49 (gR_ num) (kR_ num) 4 hS) ?_
 rintro _ w_ ⟨b, rfl, hS1⟩
 refine sS 4 (yN kZ_ 5 hS1 K6) ?_
 rintro _ w_1 ⟨b1, rfl, hS2⟩
 refine sQ 5 (yg (.bool false)) (rn (cq (cq (cr ?_))))
 refine sQ 6 (yb (aD b) 0 (kR_ num) K7 K3 (hS2.c 0)) ?_
 obtain ⟨r_2, hc, hF⟩ := bI hF
 refine sc 7 rfl rfl (yC [gR_ num] K69 (c_impl_IsValidRing num _  (hS2.inn0 [] rfl) hc)) ?_
 rintro _ w_2 ⟨rfl, hd⟩
 have hS3 := hS2.out00 hd
 refine sQ 8 (Y_not (p := r_2) rfl rfl) <| sQ 9 (ym (.bool (!r_2))) ?_
 refine sgq 10 (B := (!(!r_2))) (v := vi exp) rfl rfl (uF_ 9) (fun hg => (ym (vi exp))) ?_
 obtain ⟨r_3, hc1, hF⟩ := bI hF
 refine sgc 11 (B := (!(!r_2))) (v := .bool r_3) (F := hS3.fn) rfl rfl (uF_ 9) hS3 (fun hg1 => (yC [vi exp, vi 0, vi 60] K48 (CV.mono (c_impl_within exp 0 60 _  (hS3.inn0 [] rfl) (gb_inv hc1 hg1)) (by rintro _ _ ⟨rfl, h⟩; exact ⟨rfl, hS3.out00 h⟩)) rfl (mc (gv_of (v := vi exp) hg1) (mc rfl (mc rfl mn))))) ?_
 rintro w_3 hS4
 refine sgq 12 (B := (!(!r_2))) (v := .bool (!r_3)) rfl rfl (uF_ 9) (fun hg2 => (Y_not (p := r_3) rfl (gv_of (v := .bool r_3) hg2))) ?_
 refine sQ 13 (Y_or (b := (!r_2)) (z := (!r_3)) rfl rfl rfl rfl) (rn ?_)
 refine cw_cond (b := ((!r_2) || (!r_3))) rfl (fun hb => ?_) (fun hb => ?_)
 ·skip
  have hF1 := ct hF hb
  refine cq (cr ?_)
  refine sQ 14 (Y_buildS (zs := kZ_) (vs := []) (cs := kZ_) K21 K6 rfl mpn rfl) ?_
  refine s0 (yT 1 5 (aD b1) 51 gZ_ kZ_ 0 hS4 K2) ?_
  rintro _ w_4 ⟨rfl, hS5⟩
  refine sQ 5 (yg (.bool false)) (rn (ct_ ?_))
  obtain ⟨rfl, rfl⟩ := pr2 (sI hF1)
  exact ret2 Tryz.results85 (v1 := gZ_) (resAt_cellA (B := aD b1) (i := 0) (cs := kZ_) (vs := kZ_) rfl K5 K2 (hS5.c 1) rfl rfl) (v2 := .bool false) (resAt_tmp rfl) ⟨rfl, (hS5.sN [])⟩
 ·skip
  have hF2 := cf' hF hb
  refine cw_skip (cq ?_)
  obtain ⟨z, hz, hF3⟩ := bI hF2
  refine cw_block ?_
  refine cw_loop (fun k f w => ∃ (exp1 : Int) (A : Int) (B : Int) (C : Int) (D : Int), FF f [(1, vi exp1), (2, pt (aD b) 0), (4, pt (aD b1) 0)] ∧ ST w0 [] w [⟨aD b, 49, [vi A, vi B, vi C, vi D], 4⟩, ⟨aD b1, 51, kZ_, 5⟩] [] ∧ whX F_impl_DyadicOf_l1 k (exp1, A, B, C, D) = some z) fuel ⟨exp, num.A, num.B, num.C, num.D, (fc rfl (fc rfl (fc rfl fn_))), (hS4.sel [0, 1] rfl rfl), hz⟩ ?_
  rintro k_ f w ⟨exp1, A, B, C, D, hf, hS6, hL⟩
  obtain ⟨K9, y, rfl, hb1, hL1⟩ := whX_go hL
  unfold F_impl_DyadicOf_l1 at hb1
  refine cq (cq (cr ?_))
  refine sQ 15 (ym (vi exp1) rfl (hf.g 1 0)) <| sQ 16 (Y_gt (k := .i64) (a := exp1) (b := 0) rfl rfl rfl) <| sQ 17 (ym (.bool (decide (0 < exp1)))) ?_
  refine sgq 18 (B := (decide (0 < exp1))) (v := .agg #[vi A, vi B, vi C, vi D]) rfl rfl (uT_ 17) (fun hg3 => (yb (aD b) 0 [vi A, vi B, vi C, vi D] K7 K3 (hS6.c 0) rfl (hf.g 2 1))) ?_
  obtain ⟨r_4, hc2, hb1⟩ := bI hb1
  refine sgc 19 (B := (decide (0 < exp1))) (v := .bool r_4) (F := hS6.fn) rfl rfl (uT_ 17) hS6 (fun hg4 => (yC [.agg #[vi A, vi B, vi C, vi D]] K90 (CV.mono (c_impl_isEven (TRing.mk A B C D) _  (hS6.inn0 [] rfl) (gb_inv hc2 hg4)) (by rintro _ _ ⟨rfl, h⟩; exact ⟨rfl, hS6.out00 h⟩)) rfl (mc (gv_of (v := .agg #[vi A, vi B, vi C, vi D]) hg4) mn))) ?_
  rintro w_5 hS7
  refine sQ 20 (Y_and (b := (decide (0 < exp1))) (z := r_4) rfl rfl rfl rfl) (rn ?_)
  refine cw_cond (b := ((decide (0 < exp1)) && r_4)) rfl (fun hb2 => ?_) (fun hb2 => ?_)
  ·skip
   have hF4 := ct hb1 hb2
   refine cw_skip (cw_block (cq (cr ?_)))
   refine sQ 22 (yb (aD b) 0 [vi A, vi B, vi C, vi D] K7 K3 (hS7.c 0) rfl (hf.g 2 1)) ?_
   obtain ⟨⟨r_5, r_6⟩, hc3, hF4⟩ := bI hF4
   refine sc 23 rfl rfl (yC [.agg #[vi A, vi B, vi C, vi D]] k_call_109 (c_impl_DivRootTwo (TRing.mk A B C D) _  (hS7.inn0 [] rfl) hc3)) ?_
   rintro _ w_6 ⟨rfl, hd1⟩
   have hS8 := hS7.out00 hd1
   refine sQ 21 (ym (.tuple #[gR_ r_5, .bool r_6])) <| sQ 24 (ye (gR_ r_5)) <| sQ 25 (ye (.bool r_6)) ?_
   refine s0 (yT 0 4 (aD b) 49 (gR_ r_5) (kR_ r_5) 0 hS8 K3 rfl (hf.g 2 1)) ?_
   rintro _ w_7 ⟨rfl, hS9⟩
   refine rn (cr ?_)
   refine sQ 26 (ym (vi exp1) rfl (hf.g 1 0)) <| sQ 27 (yM exp1 1) <| sQ 1 (yg (vi (i64.wrap (exp1 - 1)))) (rn ?_)
   obtain rfl := sI hF4
   exact ⟨K9, Nat.lt_succ_self _, (i64.wrap (exp1 - 1)), r_5.A, r_5.B, r_5.C, r_5.D, (fc rfl (fc (hf.g 2 1) (fc (hf.g 4 2) fn_))), (hS9.sel [0, 1] rfl rfl), hL1⟩
  ·skip
   have hF5 := cf' hb1 hb2
   refine cw_exit rfl ?_
   obtain rfl := sI hF5
   obtain rfl := sI hL1
   refine cq (cr ?_)
   refine sQ 28 (yb (aD b) 0 [vi A, vi B, vi C, vi D] K7 K3 (hS7.c 0) rfl (hf.g 2 1)) <| sQ 29 (ym (vi exp1) rfl (hf.g 1 0)) <| sQ 30 (Y_buildS (zs := kZ_) (vs := [(0, .agg #[vi A, vi B, vi C, vi D]), (1, vi exp1)]) (cs := [vi A, vi B, vi C, vi D, vi exp1]) K21 K6 rfl (mpc rfl (mpc rfl mpn)) rfl) ?_
   refine s0 (yT 1 5 (aD b1) 51 (.agg #[vi A, vi B, vi C, vi D, vi exp1]) [vi A, vi B, vi C, vi D, vi exp1] 0 hS7 K2 rfl (hf.g 4 2)) ?_
   rintro _ w_8 ⟨rfl, hS10⟩
   refine sQ 5 (yg (.bool true)) (rn (ct_ ?_))
   obtain ⟨rfl, rfl⟩ := pr2 (sI hF3)
   exact ret2 Tryz.results85 (v1 := .agg #[vi A, vi B, vi C, vi D, vi exp1]) (resAt_cellA (B := aD b1) (i := 0) (cs := [vi A, vi B, vi C, vi D, vi exp1]) (vs := [vi A, vi B, vi C, vi D, vi exp1]) (hf.g 4 2) K5 K2 (hS10.c 1) rfl rfl) (v2 := .bool true) (resAt_tmp rfl) ⟨rfl, (hS10.sN [])⟩

theorem c_impl_MulDyadic (x : TDyadic) (y : TDyadic)  (w0 : World)  (hS : ST w0 [] w0 [] []) {r_ : TDyadic} {r_1 : Bool} (hF : F_impl_MulDyadic x y = some (r_, r_1)) :
  CV Tryz.prog 52 #[gD_ x, gD_ y] w0 (fun v w' => v = .tuple #[gD_ r_, .bool r_1] ∧ ST w0 [] w' [] []) := by
 unfold F_impl_MulDyadic at hF
 refine cv_of_cw 38 Tryz.func52 rfl Tryz.ntmps52 rfl ?_
 refine cq (cr ?_)
 refine sS 2 (yB 51 (gD_ x) (kD_ x) 5 hS) ?_
 rintro _ w_ ⟨b, rfl, hS1⟩
 refine sS 3 (yB 51 (gD_ y) (kD_ y) 5 hS1) ?_
 rintro _ w_1 ⟨b1, rfl, hS2⟩
 refine sS 4 (yN kZ_ 5 hS2 K6) ?_
 rintro _ w_2 ⟨b2, rfl, hS3⟩
 refine sQ 5 (yg (.bool false)) (rn (cq (cr ?_)))
 refine sQ 9 (yd (aD b) 0 3 K41 K3) <| sQ 10 (ya (aD b) 0 (kD_ x) (kR_ x.Num) K7 K3 (hS3.c 0)) <| sQ 11 (yd (aD b1) 0 3 K41 K3) <| sQ 12 (ya (aD b1) 0 (kD_ y) (kR_ y.Num) K7 K3 (hS3.c 1)) ?_
 obtain ⟨⟨r_2, r_3⟩, hc, hF⟩ := bI hF
 refine sc 13 rfl rfl (yC [gR_ x.Num, gR_ y.Num] k_call_84 (c_impl_MulRing x.Num y.Num _  (hS3.inn0 [] rfl) hc)) ?_
 rintro _ w_3 ⟨rfl, hd⟩
 have hS4 := hS3.out00 hd
 refine sQ 8 (ym (.tuple #[gR_ r_2, .bool r_3])) <| sQ 14 (ye (gR_ r_2)) <| sQ 15 (ye (.bool r_3)) ?_
 refine sS 6 (yN [vi 0, vi 0, vi 0, vi 0] 4 hS4 K14) ?_
 rintro _ w_4 ⟨b3, rfl, hS5⟩
 refine s0 (yT 3 4 (aD b3) 49 (gR_ r_2) (kR_ r_2) 0 hS5 K3) ?_
 rintro _ w_5 ⟨rfl, hS6⟩
 refine sQ 7 (yg (.bool r_3)) (rn (cq (cq (cr ?_))))
 refine sQ 16 (yb (aD b) 0 (kD_ x) K5 K2 (hS6.c 0)) ?_
 obtain ⟨r_4, hc1, hF⟩ := bI hF
 refine sc 17 rfl rfl (yC [gD_ x] K70 (c_impl_IsValidDyadic x _  (hS6.inn0 [] rfl) hc1)) ?_
 rintro _ w_6 ⟨rfl, hd1⟩
 have hS7 := hS6.out00 hd1
 refine sQ 18 (Y_not (p := r_4) rfl rfl) <| sQ 19 (ym (.bool (!r_4))) ?_
 refine sgq 20 (B := (!(!r_4))) (v := gD_ y) rfl rfl (uF_ 19) (fun hg => (yb (aD b1) 0 (kD_ y) K5 K2 (hS7.c 1))) ?_
 obtain ⟨r_5, hc2, hF⟩ := bI hF
 refine sgc 21 (B := (!(!r_4))) (v := .bool r_5) (F := hS7.fn) rfl rfl (uF_ 19) hS7 (fun hg1 => (yC [gD_ y] K70 (CV.mono (c_impl_IsValidDyadic y _  (hS7.inn0 [] rfl) (gb_inv hc2 hg1)) (by rintro _ _ ⟨rfl, h⟩; exact ⟨rfl, hS7.out00 h⟩)) rfl (mc (gv_of (v := gD_ y) hg1) mn))) ?_
 rintro w_7 hS8
 refine sgq 22 (B := (!(!r_4))) (v := .bool (!r_5)) rfl rfl (uF_ 19) (fun hg2 => (Y_not (p := r_5) rfl (gv_of (v := .bool r_5) hg2))) ?_
 refine sQ 23 (Y_or (b := (!r_4)) (z := (!r_5)) rfl rfl rfl rfl) <| sQ 24 (ym (.bool ((!r_4) || (!r_5)))) ?_
 refine sgq 25 (B := (!((!r_4) || (!r_5)))) (v := .bool r_3) rfl rfl (uF_ 24) (fun hg3 => (ym (.bool r_3))) ?_
 refine sgq 26 (B := (!((!r_4) || (!r_5)))) (v := .bool (!r_3)) rfl rfl (uF_ 24) (fun hg4 => (Y_not (p := r_3) rfl (gv_of (v := .bool r_3) hg4))) ?_
 refine sQ 27 (Y_or (b := ((!r_4) || (!r_5))) (z := (!r_3)) rfl rfl rfl rfl) (rn ?_)
 refine cw_cond (b := (((!r_4) || (!r_5)) || (!r_3))) rfl (fun hb => ?_) (fun hb => ?_)
 ·skip
  have hF1 := ct hF hb
  refine cq (cr ?_)
  refine sQ 28 (Y_buildS (zs := kZ_) (vs := []) (cs := kZ_) K21 K6 rfl mpn rfl) ?_
  refine s0 (yT 2 5 (aD b2) 51 gZ_ kZ_ 0 hS8 K2) ?_
  rintro _ w_8 ⟨rfl, hS9⟩
  refine sQ 5 (yg (.bool false)) (rn (ct_ ?_))
  obtain ⟨rfl, rfl⟩ := pr2 (sI hF1)
  exact ret2 Tryz.results52 (v1 := gZ_) (resAt_cellA (B := aD b2) (i := 0) (cs := kZ_) (vs := kZ_) rfl K5 K2 (hS9.c 2) rfl rfl) (v2 := .bool false) (resAt_tmp rfl) ⟨rfl, (hS9.sN [])⟩
 ·skip
  have hF2 := cf' hF hb
  refine cw_skip (cq (cr ?_))
  refine sQ 29 (yb (aD b3) 0 (kR_ r_2) K7 K3 (hS8.c 3)) <| sQ 30 (yd (aD b) 0 0 K33 K0) <| sQ 31 (yl (aD b) 4 (kD_ x) (vi x.Exp) K1 (hS8.c 0)) <| sQ 32 (yd (aD b1) 0 0 K33 K0) <| sQ 33 (yl (aD b1) 4 (kD_ y) (vi y.Exp) K1 (hS8.c 1)) <| sQ 34 (yP x.Exp y.Exp) ?_
  obtain ⟨⟨r_6, r_7⟩, hc3, hF2⟩ := bI hF2
  refine sc 35 rfl rfl (yC [gR_ r_2, vi (i64.wrap (x.Exp + y.Exp))] k_call_85 (c_impl_DyadicOf r_2 (i64.wrap (x.Exp + y.Exp)) _  (hS8.inn0 [] rfl) hc3)) ?_
  rintro _ w_9 ⟨rfl, hd2⟩
  have hS10 := hS8.out00 hd2
  refine sQ 36 (ye (gD_ r_6)) <| sQ 37 (ye (.bool r_7)) ?_
  refine s0 (yT 2 5 (aD b2) 51 (gD_ r_6) (kD_ r_6) 0 hS10 K2) ?_
  rintro _ w_10 ⟨rfl, hS11⟩
  refine sQ 5 (yg (.bool r_7)) (rn (ct_ ?_))
  obtain ⟨rfl, rfl⟩ := pr2 (sI hF2)
  exact ret2 Tryz.results52 (v1 := gD_ r_6) (resAt_cellA (B := aD b2) (i := 0) (cs := kD_ r_6) (vs := kD_ r_6) rfl K5 K2 (hS11.c 2) rfl rfl) (v2 := .bool r_7) (resAt_tmp rfl) ⟨rfl, (hS11.sN [])⟩

theorem c_impl_MulOmega (x : TRing) (k_ : Int)  (w0 : World)  (hS : ST w0 [] w0 [] []) {r_ : TRing} {r_1 : Bool} (hF : F_impl_MulOmega x k_ = some (r_, r_1)) :
  CV Tryz.prog 98 #[gR_ x, vi k_] w0 (fun v w' => v = .tuple #[gR_ r_, .bool r_1] ∧ ST w0 [] w' [] []) := by
 unfold F_impl_MulOmega at hF
 refine cv_of_cw 33 Tryz.func98 rfl Tryz.ntmps98 rfl ?_
 refine cq (cr ?_)
 refine sS 2 (yB 49 (gR_ x) (kR_ x) 4 hS) ?_
 rintro _ w_ ⟨b, rfl, hS1⟩
 refine sS 4 (yN [vi 0, vi 0, vi 0, vi 0] 4 hS1 K14) ?_
 rintro _ w_1 ⟨b1, rfl, hS2⟩
 refine sQ 5 (yg (.bool false)) (rn (cq (cq (cr ?_))))
 refine sQ 6 (ym (vi k_)) ?_
 obtain ⟨r_2, hc, hF⟩ := bI hF
 refine sc 7 rfl rfl (yC [vi k_, vi (-1000), vi 1000] K48 (c_impl_within k_ (-1000) 1000 _  (hS2.inn0 [] rfl) hc)) ?_
 rintro _ w_2 ⟨rfl, hd⟩
 have hS3 := hS2.out00 hd
 refine sQ 8 (Y_not (p := r_2) rfl rfl) <| sQ 9 (ym (.bool (!r_2))) ?_
 refine sgq 10 (B := (!(!r_2))) (v := gR_ x) rfl rfl (uF_ 9) (fun hg => (yb (aD b) 0 (kR_ x) K7 K3 (hS3.c 0))) ?_
 obtain ⟨r_3, hc1, hF⟩ := bI hF
 refine sgc 11 (B := (!(!r_2))) (v := .bool r_3) (F := hS3.fn) rfl rfl (uF_ 9) hS3 (fun hg1 => (yC [gR_ x] K69 (CV.mono (c_impl_IsValidRing x _  (hS3.inn0 [] rfl) (gb_inv hc1 hg1)) (by rintro _ _ ⟨rfl, h⟩; exact ⟨rfl, hS3.out00 h⟩)) rfl (mc (gv_of (v := gR_ x) hg1) mn))) ?_
 rintro w_3 hS4
 refine sgq 12 (B := (!(!r_2))) (v := .bool (!r_3)) rfl rfl (uF_ 9) (fun hg2 => (Y_not (p := r_3) rfl (gv_of (v := .bool r_3) hg2))) ?_
 refine sQ 13 (Y_or (b := (!r_2)) (z := (!r_3)) rfl rfl rfl rfl) (rn ?_)
 refine cw_cond (b := ((!r_2) || (!r_3))) rfl (fun hb => ?_) (fun hb => ?_)
 ·skip
  have hF1 := ct hF hb
  refine cq (cr ?_)
  refine sQ 14 (Y_buildS (zs := [vi 0, vi 0, vi 0, vi 0]) (vs := []) (cs := [vi 0, vi 0, vi 0, vi 0]) K31 K14 rfl mpn rfl) ?_
  refine s0 (yT 1 4 (aD b1) 49 (.agg #[vi 0, vi 0, vi 0, vi 0]) [vi 0, vi 0, vi 0, vi 0] 0 hS4 K3) ?_
  rintro _ w_4 ⟨rfl, hS5⟩
  refine sQ 5 (yg (.bool false)) (rn (ct_ ?_))
  obtain ⟨rfl, rfl⟩ := pr2 (sI hF1)
  exact ret2 Tryz.results98 (v1 := .agg #[vi 0, vi 0, vi 0, vi 0]) (resAt_cellA (B := aD b1) (i := 0) (cs := [vi 0, vi 0, vi 0, vi 0]) (vs := [vi 0, vi 0, vi 0, vi 0]) rfl K7 K3 (hS5.c 1) rfl rfl) (v2 := .bool false) (resAt_tmp rfl) ⟨rfl, (hS5.sN [])⟩
 ·skip
  have hF2 := cf' hF hb
  refine cw_skip (cq (cq (cr ?_)))
  refine sQ 15 (ym (vi k_)) <| sQ 16 (Y_rem (k := .i64) (a := k_) (b := 8) rfl rfl rfl (by decide)) <| sQ 17 (yP (Int.tmod k_ 8) 8) <| sQ 18 (Y_rem (k := .i64) (a := (i64.wrap ((Int.tmod k_ 8) + 8))) (b := 8) rfl rfl rfl (by decide)) <| sQ 19 (ym (vi 0)) (rn ?_)
  obtain ⟨hN, hF2⟩ := chk_inv hF2
  obtain ⟨z, hz, hF3⟩ := bI hF2
  refine cw_block ?_
  refine cw_loop (fun k f w => ∃ (i : Nat) (A : Int) (B : Int) (C : Int) (D : Int), FF f [(2, pt (aD b) 0), (4, pt (aD b1) 0), (18, vi (Int.tmod (i64.wrap ((Int.tmod k_ 8) + 8)) 8)), (19, vi (i : Int))] ∧ ST w0 [] w [⟨aD b, 49, [vi A, vi B, vi C, vi D], 4⟩, ⟨aD b1, 49, [vi 0, vi 0, vi 0, vi 0], 4⟩] [] ∧ i + k = (Int.tmod (i64.wrap ((Int.tmod k_ 8) + 8)) 8).toNat ∧ forN F_impl_MulOmega_l1 k i (A, B, C, D) = some z) ((Int.tmod (i64.wrap ((Int.tmod k_ 8) + 8)) 8).toNat) ⟨0, x.A, x.B, x.C, x.D, (fc rfl (fc rfl (fc rfl (fc rfl fn_)))), (hS4.sel [0, 1] rfl rfl), Nat.zero_add _, hz⟩ ?_
  rintro K9 f w ⟨i, A, B, C, D, hf, hS6, hik, hL⟩
  refine cq (cr ?_)
  refine sQ 20 (yL (i : Int) (Int.tmod (i64.wrap ((Int.tmod k_ 8) + 8)) 8) rfl (hf.g 19 3) (hf.g 18 2)) (rn (cq ?_))
  refine cw_cond (b := (decide ((i : Int) < (Int.tmod (i64.wrap ((Int.tmod k_ 8) + 8)) 8)))) rfl (fun hlt => ?_) (fun hlt => ?_)
  ·skip
   have hlt1 : i < (Int.tmod (i64.wrap ((Int.tmod k_ 8) + 8)) 8).toNat := by have h := of_decide_eq_true hlt; omega
   obtain ⟨K22, rfl⟩ : ∃ k2, K9 = k2 + 1 := ⟨K9 - 1, by omega⟩
   obtain ⟨y, hb1, hL1⟩ := forN_go hL
   unfold F_impl_MulOmega_l1 at hb1
   refine cw_skip (cq (cw_block (cr ?_)))
   refine sQ 21 (yd (aD b) 0 0 K20 K0 rfl (hf.g 2 0)) <| sQ 22 (yl (aD b) 3 [vi A, vi B, vi C, vi D] (vi D) K1 (hS6.c 0)) <| sQ 23 (Y_neg (k := .i64) (a := D) rfl rfl) <| sQ 24 (yd (aD b) 0 0 K17 K0 rfl (hf.g 2 0)) <| sQ 25 (yl (aD b) 0 [vi A, vi B, vi C, vi D] (vi A) K1 (hS6.c 0)) <| sQ 26 (yd (aD b) 0 0 K18 K0 rfl (hf.g 2 0)) ?_
   refine sQ 27 (yl (aD b) 1 [vi A, vi B, vi C, vi D] (vi B) K1 (hS6.c 0)) <| sQ 28 (yd (aD b) 0 0 K19 K0 rfl (hf.g 2 0)) <| sQ 29 (yl (aD b) 2 [vi A, vi B, vi C, vi D] (vi C) K1 (hS6.c 0)) <| sQ 30 (Y_buildS (zs := [vi 0, vi 0, vi 0, vi 0]) (vs := [(0, vi (i64.wrap (-D))), (1, vi A), (2, vi B), (3, vi C)]) (cs := [vi (i64.wrap (-D)), vi A, vi B, vi C]) K31 K14 rfl (mpc rfl (mpc rfl (mpc rfl (mpc rfl mpn)))) rfl) ?_
   refine s0 (yT 0 4 (aD b) 49 (.agg #[vi (i64.wrap (-D)), vi A, vi B, vi C]) [vi (i64.wrap (-D)), vi A, vi B, vi C] 0 hS6 K3 rfl (hf.g 2 0)) ?_
   rintro _ w_5 ⟨rfl, hS7⟩
   refine rn (cr ?_)
   refine sQ 31 (yP (i : Int) 1 rfl (hf.g 19 3)) <| sQ 19 (ym (vi (i64.wrap ((i : Int) + 1)))) (rn ?_)
   obtain rfl := sI hb1
   exact ⟨K22, Nat.lt_succ_self _, i + 1, (i64.wrap (-D)), A, B, C, (fc (hf.g 2 0) (fc (hf.g 4 1) (fc (hf.g 18 2) (fc (congrArg (Value.int .i64) (wr_succ hlt1 hN)) fn_)))), (hS7.sel [0, 1] rfl rfl), (by omega), hL1⟩
  ·skip
   obtain rfl : K9 = 0 := by have h := of_decide_eq_false hlt; omega
   refine cw_exit rfl ?_
   obtain rfl := sI hL
   refine cq (cr ?_)
   refine sQ 32 (yb (aD b) 0 [vi A, vi B, vi C, vi D] K7 K3 (hS6.c 0) rfl (hf.g 2 0)) ?_
   refine s0 (yT 1 4 (aD b1) 49 (.agg #[vi A, vi B, vi C, vi D]) [vi A, vi B, vi C, vi D] 0 hS6 K3 rfl (hf.g 4 1)) ?_
   rintro _ w_6 ⟨rfl, hS8⟩
   refine sQ 5 (yg (.bool true)) (rn (ct_ ?_))
   obtain ⟨rfl, rfl⟩ := pr2 (sI hF3)
   exact ret2 Tryz.results98 (v1 := .agg #[vi A, vi B, vi C, vi D]) (resAt_cellA (B := aD b1) (i := 0) (cs := [vi A, vi B, vi C, vi D]) (vs := [vi A, vi B, vi C, vi D]) (hf.g 4 1) K7 K3 (hS8.c 1) rfl rfl) (v2 := .bool true) (resAt_tmp rfl) ⟨rfl, (hS8.sN [])⟩

theorem c_impl_phase (k_ : Int)  (w0 : World)  (hS : ST w0 [] w0 [] []) {r_ : TDyadic} (hF : F_impl_phase k_ = some r_) :
  CV Tryz.prog 79 #[vi k_] w0 (fun v w' => v = (gD_ r_) ∧ ST w0 [] w' [] []) := by
 unfold F_impl_phase at hF
 refine cv_of_cw 13 Tryz.func79 rfl Tryz.ntmps79 rfl ?_
 refine cq (cr ?_)
 refine sS 2 (yN kZ_ 5 hS K6) ?_
 rintro _ w_ ⟨b, rfl, hS1⟩
 refine rn (cq (cr ?_))
 refine sQ 6 (Y_buildS (zs := [vi 0, vi 0, vi 0, vi 0]) (vs := [(0, vi 1)]) (cs := [vi 1, vi 0, vi 0, vi 0]) K31 K14 rfl (mpc rfl mpn) rfl) <| sQ 7 (ym (vi k_)) ?_
 obtain ⟨⟨r_1, r_2⟩, hc, hF⟩ := bI hF
 refine sc 8 rfl rfl (yC [.agg #[vi 1, vi 0, vi 0, vi 0], vi k_] k_call_98 (c_impl_MulOmega (TRing.mk 1 0 0 0) k_ _  (hS1.inn0 [] rfl) hc)) ?_
 rintro _ w_1 ⟨rfl, hd⟩
 have hS2 := hS1.out00 hd
 refine sQ 5 (ym (.tuple #[gR_ r_1, .bool r_2])) <| sQ 9 (ye (gR_ r_1)) <| sQ 10 (ye (.bool r_2)) ?_
 refine sS 3 (yN [vi 0, vi 0, vi 0, vi 0] 4 hS2 K14) ?_
 rintro _ w_2 ⟨b1, rfl, hS3⟩
 refine s0 (yT 1 4 (aD b1) 49 (gR_ r_1) (kR_ r_1) 0 hS3 K3) ?_
 rintro _ w_3 ⟨rfl, hS4⟩
 refine sQ 4 (yg (.bool r_2)) (rn (cq (cr ?_)))
 refine sQ 11 (yb (aD b1) 0 (kR_ r_1) K7 K3 (hS4.c 1)) <| sQ 12 (Y_buildS (zs := kZ_) (vs := [(0, gR_ r_1)]) (cs := [vi r_1.A, vi r_1.B, vi r_1.C, vi r_1.D, vi 0]) K21 K6 rfl (mpc rfl mpn) rfl) ?_
 refine s0 (yT 0 5 (aD b) 51 (.agg #[vi r_1.A, vi r_1.B, vi r_1.C, vi r_1.D, vi 0]) [vi r_1.A, vi r_1.B, vi r_1.C, vi r_1.D, vi 0] 0 hS4 K2) ?_
 rintro _ w_4 ⟨rfl, hS5⟩
 refine rn (ct_ ?_)
 obtain rfl := sI hF
 exact ret1 Tryz.results79 (v1 := .agg #[vi r_1.A, vi r_1.B, vi r_1.C, vi r_1.D, vi 0]) (resAt_cellA (B := aD b) (i := 0) (cs := [vi r_1.A, vi r_1.B, vi r_1.C, vi r_1.D, vi 0]) (vs := [vi r_1.A, vi r_1.B, vi r_1.C, vi r_1.D, vi 0]) rfl K5 K2 (hS5.c 0) rfl rfl) ⟨rfl, (hS5.sN [])⟩

theorem c_impl_small (holds : Bool)  (w0 : World)  (hS : ST w0 [] w0 [] []) {r_ : Int} (hF : F_impl_small holds = some r_) :
  CV Tryz.prog 80 #[.bool holds] w0 (fun v w' => v = vi r_ ∧ ST w0 [] w' [] []) := by
 unfold F_impl_small at hF
 refine cv_of_cw 4 Tryz.func80 rfl Tryz.ntmps80 rfl ?_
 refine cq (cr ?_)
 refine sQ 2 (yg (vi 0)) (rn (cq (cq (cr ?_))))
 refine sQ 3 (ym (.bool holds)) (rn ?_)
 refine cw_cond (b := holds) rfl (fun hb => ?_) (fun hb => ?_)
 ·skip
  have hF1 := ct hF hb
  refine cq (cr ?_)
  refine sQ 2 (yg (vi 1)) (rn (ct_ ?_))
  obtain rfl := sI hF1
  exact ret1 Tryz.results80 (v1 := vi 1) (resAt_tmp rfl) ⟨rfl, (hS.sN [])⟩
 ·skip
  have hF2 := cf' hF hb
  refine cw_skip (cq (cr ?_))
  refine sQ 2 (yg (vi 0)) (rn (ct_ ?_))
  obtain rfl := sI hF2
  exact ret1 Tryz.results80 (v1 := vi 0) (resAt_tmp rfl) ⟨rfl, (hS.sN [])⟩

theorem c_impl_levelCell (t : TTwoLevel) (i : Int) (j : Int)  (w0 : World)  (hS : ST w0 [] w0 [] []) {r_ : TDyadic} (hF : F_impl_levelCell t i j = some r_) :
  CV Tryz.prog 49 #[.agg #[vi t.Kind, vi t.I, vi t.J, vi t.M_], vi i, vi j] w0 (fun v w' => v = (gD_ r_) ∧ ST w0 [] w' [] []) := by
 unfold F_impl_levelCell at hF
 refine cv_of_cw 131 Tryz.func49 rfl Tryz.ntmps49 rfl ?_
 refine cq (cr ?_)
 refine sS 3 (yB 25 (.agg #[vi t.Kind, vi t.I, vi t.J, vi t.M_]) [vi t.Kind, vi t.I, vi t.J, vi t.M_] 4 hS) ?_
 rintro _ w_ ⟨b, rfl, hS1⟩
 refine sS 6 (yN kZ_ 5 hS1 K6) ?_
 rintro _ w_1 ⟨b1, rfl, hS2⟩
 refine rn (cq (cr ?_))
 refine sQ 13 (Y_buildS (zs := [vi 0, vi 0, vi 0, vi 0]) (vs := [(0, vi 1)]) (cs := [vi 1, vi 0, vi 0, vi 0]) K31 K14 rfl (mpc rfl mpn) rfl) <| sQ 14 (Y_buildS (zs := kZ_) (vs := [(0, .agg #[vi 1, vi 0, vi 0, vi 0]), (1, vi 1)]) (cs := [vi 1, vi 0, vi 0, vi 0, vi 1]) K21 K6 rfl (mpc rfl (mpc rfl mpn)) rfl) ?_
 refine sS 7 (yN kZ_ 5 hS2 K6) ?_
 rintro _ w_2 ⟨b2, rfl, hS3⟩
 refine s0 (yT 2 5 (aD b2) 51 (.agg #[vi 1, vi 0, vi 0, vi 0, vi 1]) [vi 1, vi 0, vi 0, vi 0, vi 1] 0 hS3 K2) ?_
 rintro _ w_3 ⟨rfl, hS4⟩
 refine rn (cq ?_)
 obtain ⟨r_1, hc, hF⟩ := bI hF
 obtain ⟨⟨r_2, r_3⟩, hc1, hF⟩ := bI hF
 refine cw_mid (fun f w => ∃ (B : Option Addr), FF f [(1, vi i), (2, vi j), (3, pt (aD b) 0), (6, pt (aD b1) 0), (7, pt (aD b2) 0), (8, pt B 0)] ∧ ST w0 [] w [⟨aD b, 25, [vi t.Kind, vi t.I, vi t.J, vi t.M_], 4⟩, ⟨aD b1, 51, kZ_, 5⟩, ⟨aD b2, 51, [vi 1, vi 0, vi 0, vi 0, vi 1], 5⟩, ⟨B, 51, kD_ r_2, 5⟩] []) ?_ ?_
 ·skip
  refine ra_start (hS4.se [0, 1, 2]).fn (by kernel_rfl) ?_
  have hS8 := hS4.drew
  refine rq 0 16 (v := .agg #[vi 1, vi 0, vi 0, vi 0, vi 1]) rfl (hS8.se [0, 1, 2]) (fun w' hw' => (yb (aD b2) 0 [vi 1, vi 0, vi 0, vi 0, vi 1] K5 K2 (ST.cf hw' (i := 2) rfl))) ?_
  refine rq 1 17 (v := pt (aD b) 3) rfl (hS8.se [0, 1, 2]) (fun w' hw' => (yd (aD b) 0 0 K37 K0)) ?_
  refine rq 2 18 (v := vi t.M_) rfl (hS8.se [0, 1, 2]) (fun w' hw' => (yl (aD b) 3 [vi t.Kind, vi t.I, vi t.J, vi t.M_] (vi t.M_) K1 (ST.cf hw' (i := 0) rfl))) ?_
  refine rA [3, 8] ?_
  refine rC 19 3 rfl (yC [vi t.M_] K71 (c_impl_phase t.M_ _  (hS8.inn0 [] rfl) hc)) ?_ ?_
  ·rintro _ w_4 ⟨rfl, hd⟩
   have hS9 := hS8.out00 hd
   refine ⟨(hS9.se [0, 1, 2]), ?_⟩
   refine rA [4, 8] ?_
   refine rC 20 4 rfl (yC [.agg #[vi 1, vi 0, vi 0, vi 0, vi 1], gD_ r_1] K49 (c_impl_MulDyadic (TDyadic.mk (TRing.mk 1 0 0 0) 1) r_1 _  (hS9.inn0 [] rfl) hc1)) ?_ ?_
   ·rintro _ w_5 ⟨rfl, hd1⟩
    have hS10 := hS9.out00 hd1
    refine ⟨(hS10.se [0, 1, 2]), ?_⟩
    refine rq 5 15 (v := .tuple #[gD_ r_2, .bool r_3]) rfl (hS10.se [0, 1, 2]) (fun w' hw' => (ym (.tuple #[gD_ r_2, .bool r_3]))) ?_
    refine rq 6 21 (v := gD_ r_2) rfl (hS10.se [0, 1, 2]) (fun w' hw' => (ye (gD_ r_2))) ?_
    refine rq 7 22 (v := .bool r_3) rfl (hS10.se [0, 1, 2]) (fun w' hw' => (ye (.bool r_3))) ?_
    refine rA [8] ?_
    refine rS 8 8 rfl (yN kZ_ 5 hS10 K6) ?_ ?_
    ·rintro _ w_6 ⟨b3, rfl, hS11⟩
     refine ⟨(hS11.se [0, 1, 2]), ?_⟩
     refine rA [9] ?_
     refine rZ 9 rfl (yT 3 5 (aD b3) 51 (gD_ r_2) (kD_ r_2) 0 hS11 K2) ?_ ?_
     ·rintro _ w_7 ⟨rfl, hS12⟩
      refine ⟨(hS12.se [0, 1, 2]), ?_⟩
      refine rq 10 9 (v := .bool r_3) rfl (hS12.se [0, 1, 2]) (fun w' hw' => (yg (.bool r_3))) ?_
      refine ra_done (by kernel_rfl) ?_
      exact ⟨aD b3, (fc rfl (fc rfl (fc rfl (fc rfl (fc rfl (fc rfl fn_)))))), (hS12.sel [0, 1, 2, 3] rfl rfl)⟩
     exact aN
    exact aN
   refine rS 8 8 rfl (yN kZ_ 5 hS9 K6) ?_ ?_
   ·rintro _ w_8 ⟨b3, rfl, hS13⟩
    refine ⟨(hS13.se [0, 1, 2]), ?_⟩
    refine rA [4] ?_
    refine rC 20 4 rfl (yC [.agg #[vi 1, vi 0, vi 0, vi 0, vi 1], gD_ r_1] K49 (c_impl_MulDyadic (TDyadic.mk (TRing.mk 1 0 0 0) 1) r_1 _  (hS13.inn0 [] rfl) hc1)) ?_ ?_
    ·rintro _ w_9 ⟨rfl, hd2⟩
     have hS14 := hS13.out00 hd2
     refine ⟨(hS14.se [0, 1, 2]), ?_⟩
     refine rq 5 15 (v := .tuple #[gD_ r_2, .bool r_3]) rfl (hS14.se [0, 1, 2]) (fun w' hw' => (ym (.tuple #[gD_ r_2, .bool r_3]))) ?_
     refine rq 6 21 (v := gD_ r_2) rfl (hS14.se [0, 1, 2]) (fun w' hw' => (ye (gD_ r_2))) ?_
     refine rq 7 22 (v := .bool r_3) rfl (hS14.se [0, 1, 2]) (fun w' hw' => (ye (.bool r_3))) ?_
     refine rA [9] ?_
     refine rZ 9 rfl (yT 3 5 (aD b3) 51 (gD_ r_2) (kD_ r_2) 0 hS14 K2) ?_ ?_
     ·rintro _ w_10 ⟨rfl, hS15⟩
      refine ⟨(hS15.se [0, 1, 2]), ?_⟩
      refine rq 10 9 (v := .bool r_3) rfl (hS15.se [0, 1, 2]) (fun w' hw' => (yg (.bool r_3))) ?_
      refine ra_done (by kernel_rfl) ?_
      exact ⟨aD b3, (fc rfl (fc rfl (fc rfl (fc rfl (fc rfl (fc rfl fn_)))))), (hS15.sel [0, 1, 2, 3] rfl rfl)⟩
     exact aN
    exact aN
   exact aN
  refine rS 8 8 rfl (yN kZ_ 5 hS8 K6) ?_ ?_
  ·rintro _ w_11 ⟨b3, rfl, hS16⟩
   refine ⟨(hS16.se [0, 1, 2]), ?_⟩
   refine rA [3] ?_
   refine rC 19 3 rfl (yC [vi t.M_] K71 (c_impl_phase t.M_ _  (hS16.inn0 [] rfl) hc)) ?_ ?_
   ·rintro _ w_12 ⟨rfl, hd3⟩
    have hS17 := hS16.out00 hd3
    refine ⟨(hS17.se [0, 1, 2]), ?_⟩
    refine rA [4] ?_
    refine rC 20 4 rfl (yC [.agg #[vi 1, vi 0, vi 0, vi 0, vi 1], gD_ r_1] K49 (c_impl_MulDyadic (TDyadic.mk (TRing.mk 1 0 0 0) 1) r_1 _  (hS17.inn0 [] rfl) hc1)) ?_ ?_
    ·rintro _ w_13 ⟨rfl, hd4⟩
     have hS18 := hS17.out00 hd4
     refine ⟨(hS18.se [0, 1, 2]), ?_⟩
     refine rq 5 15 (v := .tuple #[gD_ r_2, .bool r_3]) rfl (hS18.se [0, 1, 2]) (fun w' hw' => (ym (.tuple #[gD_ r_2, .bool r_3]))) ?_
     refine rq 6 21 (v := gD_ r_2) rfl (hS18.se [0, 1, 2]) (fun w' hw' => (ye (gD_ r_2))) ?_
     refine rq 7 22 (v := .bool r_3) rfl (hS18.se [0, 1, 2]) (fun w' hw' => (ye (.bool r_3))) ?_
     refine rA [9] ?_
     refine rZ 9 rfl (yT 3 5 (aD b3) 51 (gD_ r_2) (kD_ r_2) 0 hS18 K2) ?_ ?_
     ·rintro _ w_14 ⟨rfl, hS19⟩
      refine ⟨(hS19.se [0, 1, 2]), ?_⟩
      refine rq 10 9 (v := .bool r_3) rfl (hS19.se [0, 1, 2]) (fun w' hw' => (yg (.bool r_3))) ?_
      refine ra_done (by kernel_rfl) ?_
      exact ⟨aD b3, (fc rfl (fc rfl (fc rfl (fc rfl (fc rfl (fc rfl fn_)))))), (hS19.sel [0, 1, 2, 3] rfl rfl)⟩
     exact aN
    exact aN
   exact aN
  exact aN
 rintro f w ⟨B, hf, hS7⟩
 refine cq ?_
 obtain ⟨r_4, hc2, hF⟩ := bI hF
 obtain ⟨⟨r_5, r_6⟩, hc3, hF⟩ := bI hF
 refine cw_mid (fun f w => ∃ (B1 : Option Addr), FF f [(1, vi i), (2, vi j), (3, pt (aD b) 0), (6, pt (aD b1) 0), (7, pt (aD b2) 0), (8, pt B 0), (10, pt B1 0)] ∧ ST w0 [] w [⟨aD b, 25, [vi t.Kind, vi t.I, vi t.J, vi t.M_], 4⟩, ⟨aD b1, 51, kZ_, 5⟩, ⟨aD b2, 51, [vi 1, vi 0, vi 0, vi 0, vi 1], 5⟩, ⟨B, 51, kD_ r_2, 5⟩, ⟨B1, 51, kD_ r_5, 5⟩] []) ?_ ?_
 ·skip
  refine ra_start (hS7.se [0, 1, 2, 3]).fn (by kernel_rfl) ?_
  have hS23 := hS7.drew
  refine rq 0 24 (v := .agg #[vi 1, vi 0, vi 0, vi 0, vi 1]) rfl (hS23.se [0, 1, 2, 3]) (fun w' hw' => (yb (aD b2) 0 [vi 1, vi 0, vi 0, vi 0, vi 1] K5 K2 (ST.cf hw' (i := 2) rfl) rfl (hf.g 7 4))) ?_
  refine rq 1 25 (v := pt (aD b) 3) rfl (hS23.se [0, 1, 2, 3]) (fun w' hw' => (yd (aD b) 0 0 K37 K0 rfl (hf.g 3 2))) ?_
  refine rq 2 26 (v := vi t.M_) rfl (hS23.se [0, 1, 2, 3]) (fun w' hw' => (yl (aD b) 3 [vi t.Kind, vi t.I, vi t.J, vi t.M_] (vi t.M_) K1 (ST.cf hw' (i := 0) rfl))) ?_
  refine rq 3 27 (v := vi (i64.wrap (t.M_ + 4))) rfl (hS23.se [0, 1, 2, 3]) (fun w' hw' => (yP t.M_ 4)) ?_
  refine rA [4, 9] ?_
  refine rC 28 4 rfl (yC [vi (i64.wrap (t.M_ + 4))] K71 (c_impl_phase (i64.wrap (t.M_ + 4)) _  (hS23.inn0 [] rfl) hc2)) ?_ ?_
  ·rintro _ w_15 ⟨rfl, hd5⟩
   have hS24 := hS23.out00 hd5
   refine ⟨(hS24.se [0, 1, 2, 3]), ?_⟩
   refine rA [5, 9] ?_
   refine rC 29 5 rfl (yC [.agg #[vi 1, vi 0, vi 0, vi 0, vi 1], gD_ r_4] K49 (c_impl_MulDyadic (TDyadic.mk (TRing.mk 1 0 0 0) 1) r_4 _  (hS24.inn0 [] rfl) hc3)) ?_ ?_
   ·rintro _ w_16 ⟨rfl, hd6⟩
    have hS25 := hS24.out00 hd6
    refine ⟨(hS25.se [0, 1, 2, 3]), ?_⟩
    refine rq 6 23 (v := .tuple #[gD_ r_5, .bool r_6]) rfl (hS25.se [0, 1, 2, 3]) (fun w' hw' => (ym (.tuple #[gD_ r_5, .bool r_6]))) ?_
    refine rq 7 30 (v := gD_ r_5) rfl (hS25.se [0, 1, 2, 3]) (fun w' hw' => (ye (gD_ r_5))) ?_
    refine rq 8 31 (v := .bool r_6) rfl (hS25.se [0, 1, 2, 3]) (fun w' hw' => (ye (.bool r_6))) ?_
    refine rA [9] ?_
    refine rS 10 9 rfl (yN kZ_ 5 hS25 K6) ?_ ?_
    ·rintro _ w_17 ⟨b4, rfl, hS26⟩
     refine ⟨(hS26.se [0, 1, 2, 3]), ?_⟩
     refine rA [10] ?_
     refine rZ 10 rfl (yT 4 5 (aD b4) 51 (gD_ r_5) (kD_ r_5) 0 hS26 K2) ?_ ?_
     ·rintro _ w_18 ⟨rfl, hS27⟩
      refine ⟨(hS27.se [0, 1, 2, 3]), ?_⟩
      refine rq 11 11 (v := .bool r_6) rfl (hS27.se [0, 1, 2, 3]) (fun w' hw' => (yg (.bool r_6))) ?_
      refine ra_done (by kernel_rfl) ?_
      exact ⟨aD b4, (fc (hf.g 1 0) (fc (hf.g 2 1) (fc (hf.g 3 2) (fc (hf.g 6 3) (fc (hf.g 7 4) (fc (hf.g 8 5) (fc rfl fn_))))))), (hS27.sel [0, 1, 2, 3, 4] rfl rfl)⟩
     exact aN
    exact aN
   refine rS 10 9 rfl (yN kZ_ 5 hS24 K6) ?_ ?_
   ·rintro _ w_19 ⟨b4, rfl, hS28⟩
    refine ⟨(hS28.se [0, 1, 2, 3]), ?_⟩
    refine rA [5] ?_
    refine rC 29 5 rfl (yC [.agg #[vi 1, vi 0, vi 0, vi 0, vi 1], gD_ r_4] K49 (c_impl_MulDyadic (TDyadic.mk (TRing.mk 1 0 0 0) 1) r_4 _  (hS28.inn0 [] rfl) hc3)) ?_ ?_
    ·rintro _ w_20 ⟨rfl, hd7⟩
     have hS29 := hS28.out00 hd7
     refine ⟨(hS29.se [0, 1, 2, 3]), ?_⟩
     refine rq 6 23 (v := .tuple #[gD_ r_5, .bool r_6]) rfl (hS29.se [0, 1, 2, 3]) (fun w' hw' => (ym (.tuple #[gD_ r_5, .bool r_6]))) ?_
     refine rq 7 30 (v := gD_ r_5) rfl (hS29.se [0, 1, 2, 3]) (fun w' hw' => (ye (gD_ r_5))) ?_
     refine rq 8 31 (v := .bool r_6) rfl (hS29.se [0, 1, 2, 3]) (fun w' hw' => (ye (.bool r_6))) ?_
     refine rA [10] ?_
     refine rZ 10 rfl (yT 4 5 (aD b4) 51 (gD_ r_5) (kD_ r_5) 0 hS29 K2) ?_ ?_
     ·rintro _ w_21 ⟨rfl, hS30⟩
      refine ⟨(hS30.se [0, 1, 2, 3]), ?_⟩
      refine rq 11 11 (v := .bool r_6) rfl (hS30.se [0, 1, 2, 3]) (fun w' hw' => (yg (.bool r_6))) ?_
      refine ra_done (by kernel_rfl) ?_
      exact ⟨aD b4, (fc (hf.g 1 0) (fc (hf.g 2 1) (fc (hf.g 3 2) (fc (hf.g 6 3) (fc (hf.g 7 4) (fc (hf.g 8 5) (fc rfl fn_))))))), (hS30.sel [0, 1, 2, 3, 4] rfl rfl)⟩
     exact aN
    exact aN
   exact aN
  refine rS 10 9 rfl (yN kZ_ 5 hS23 K6) ?_ ?_
  ·rintro _ w_22 ⟨b4, rfl, hS31⟩
   refine ⟨(hS31.se [0, 1, 2, 3]), ?_⟩
   refine rA [4] ?_
   refine rC 28 4 rfl (yC [vi (i64.wrap (t.M_ + 4))] K71 (c_impl_phase (i64.wrap (t.M_ + 4)) _  (hS31.inn0 [] rfl) hc2)) ?_ ?_
   ·rintro _ w_23 ⟨rfl, hd8⟩
    have hS32 := hS31.out00 hd8
    refine ⟨(hS32.se [0, 1, 2, 3]), ?_⟩
    refine rA [5] ?_
    refine rC 29 5 rfl (yC [.agg #[vi 1, vi 0, vi 0, vi 0, vi 1], gD_ r_4] K49 (c_impl_MulDyadic (TDyadic.mk (TRing.mk 1 0 0 0) 1) r_4 _  (hS32.inn0 [] rfl) hc3)) ?_ ?_
    ·rintro _ w_24 ⟨rfl, hd9⟩
     have hS33 := hS32.out00 hd9
     refine ⟨(hS33.se [0, 1, 2, 3]), ?_⟩
     refine rq 6 23 (v := .tuple #[gD_ r_5, .bool r_6]) rfl (hS33.se [0, 1, 2, 3]) (fun w' hw' => (ym (.tuple #[gD_ r_5, .bool r_6]))) ?_
     refine rq 7 30 (v := gD_ r_5) rfl (hS33.se [0, 1, 2, 3]) (fun w' hw' => (ye (gD_ r_5))) ?_
     refine rq 8 31 (v := .bool r_6) rfl (hS33.se [0, 1, 2, 3]) (fun w' hw' => (ye (.bool r_6))) ?_
     refine rA [10] ?_
     refine rZ 10 rfl (yT 4 5 (aD b4) 51 (gD_ r_5) (kD_ r_5) 0 hS33 K2) ?_ ?_
     ·rintro _ w_25 ⟨rfl, hS34⟩
      refine ⟨(hS34.se [0, 1, 2, 3]), ?_⟩
      refine rq 11 11 (v := .bool r_6) rfl (hS34.se [0, 1, 2, 3]) (fun w' hw' => (yg (.bool r_6))) ?_
      refine ra_done (by kernel_rfl) ?_
      exact ⟨aD b4, (fc (hf.g 1 0) (fc (hf.g 2 1) (fc (hf.g 3 2) (fc (hf.g 6 3) (fc (hf.g 7 4) (fc (hf.g 8 5) (fc rfl fn_))))))), (hS34.sel [0, 1, 2, 3, 4] rfl rfl)⟩
     exact aN
    exact aN
   exact aN
  exact aN
 rintro f w ⟨B1, hf1, hS22⟩
 refine cq (cr ?_)
 refine sQ 32 (yd (aD b) 0 0 K42 K0 rfl (hf1.g 3 2)) <| sQ 33 (yl (aD b) 0 [vi t.Kind, vi t.I, vi t.J, vi t.M_] (vi t.Kind) K1 (hS22.c 0)) <| sQ 34 (Y_ne (k := .i64) (a := t.Kind) (b := 1) rfl rfl rfl) <| sQ 35 (ym (.bool (t.Kind != 1))) ?_
 refine sgq 36 (B := (t.Kind != 1)) (v := vi i) rfl rfl (uT_ 35) (fun hg => (ym (vi i) rfl (hf1.g 1 0))) ?_
 refine sgq 37 (B := (t.Kind != 1)) (v := pt (aD b) 1) rfl rfl (uT_ 35) (fun hg1 => (yd (aD b) 0 0 K36 K0 rfl (hf1.g 3 2))) ?_
 refine sgq 38 (B := (t.Kind != 1)) (v := vi t.I) rfl rfl (uT_ 35) (fun hg2 => (yl (aD b) 1 [vi t.Kind, vi t.I, vi t.J, vi t.M_] (vi t.I) K1 (hS22.c 0) rfl (gv_of (v := pt (aD b) 1) hg2))) ?_
 refine sgq 39 (B := (t.Kind != 1)) (v := .bool (i == t.I)) rfl rfl (uT_ 35) (fun hg3 => (yE i t.I rfl (gv_of (v := vi i) hg3) (gv_of (v := vi t.I) hg3))) ?_
 refine sgq 40 (B := (t.Kind != 1)) (v := .bool (i == t.I)) rfl rfl (uT_ 35) (fun hg4 => (ym (.bool (i == t.I)) rfl (gv_of (v := .bool (i == t.I)) hg4))) ?_
 refine sgq 41 (B := ((t.Kind != 1) && (!(i == t.I)))) (v := vi i) rfl rfl (wt_gf (gd_of (t := 40) (by kernel_rfl) rfl)) (fun hg5 => (ym (vi i) rfl (hf1.g 1 0))) ?_
 refine sgq 42 (B := ((t.Kind != 1) && (!(i == t.I)))) (v := pt (aD b) 2) rfl rfl (wt_gf (gd_of (t := 40) (by kernel_rfl) rfl)) (fun hg6 => (yd (aD b) 0 0 K39 K0 rfl (hf1.g 3 2))) ?_
 refine sgq 43 (B := ((t.Kind != 1) && (!(i == t.I)))) (v := vi t.J) rfl rfl (wt_gf (gd_of (t := 40) (by kernel_rfl) rfl)) (fun hg7 => (yl (aD b) 2 [vi t.Kind, vi t.I, vi t.J, vi t.M_] (vi t.J) K1 (hS22.c 0) rfl (gv_of (v := pt (aD b) 2) hg7))) ?_
 refine sgq 44 (B := ((t.Kind != 1) && (!(i == t.I)))) (v := .bool (i == t.J)) rfl rfl (wt_gf (gd_of (t := 40) (by kernel_rfl) rfl)) (fun hg8 => (yE i t.J rfl (gv_of (v := vi i) hg8) (gv_of (v := vi t.J) hg8))) ?_
 refine sgq 45 (B := (t.Kind != 1)) (v := .bool ((i == t.I) || (i == t.J))) rfl rfl (uT_ 35) (fun hg9 => (Y_or (b := (i == t.I)) (z := (i == t.J)) rfl (gv_of (v := .bool (i == t.I)) hg9) rfl (gv_and (B := (t.Kind != 1)) (C := (!(i == t.I))) (v := .bool (i == t.J)) hg9))) ?_
 refine sQ 46 (Y_and (b := (t.Kind != 1)) (z := ((i == t.I) || (i == t.J))) rfl rfl rfl rfl) <| sQ 47 (ym (.bool ((t.Kind != 1) && ((i == t.I) || (i == t.J))))) ?_
 refine sgq 48 (B := ((t.Kind != 1) && ((i == t.I) || (i == t.J)))) (v := vi j) rfl rfl (uT_ 47) (fun hg10 => (ym (vi j) rfl (hf1.g 2 1))) ?_
 refine sgq 49 (B := ((t.Kind != 1) && ((i == t.I) || (i == t.J)))) (v := pt (aD b) 1) rfl rfl (uT_ 47) (fun hg11 => (yd (aD b) 0 0 K36 K0 rfl (hf1.g 3 2))) ?_
 refine sgq 50 (B := ((t.Kind != 1) && ((i == t.I) || (i == t.J)))) (v := vi t.I) rfl rfl (uT_ 47) (fun hg12 => (yl (aD b) 1 [vi t.Kind, vi t.I, vi t.J, vi t.M_] (vi t.I) K1 (hS22.c 0) rfl (gv_of (v := pt (aD b) 1) hg12))) ?_
 refine sgq 51 (B := ((t.Kind != 1) && ((i == t.I) || (i == t.J)))) (v := .bool (j == t.I)) rfl rfl (uT_ 47) (fun hg13 => (yE j t.I rfl (gv_of (v := vi j) hg13) (gv_of (v := vi t.I) hg13))) ?_
 refine sgq 52 (B := ((t.Kind != 1) && ((i == t.I) || (i == t.J)))) (v := .bool (j == t.I)) rfl rfl (uT_ 47) (fun hg14 => (ym (.bool (j == t.I)) rfl (gv_of (v := .bool (j == t.I)) hg14))) ?_
 refine sgq 53 (B := (((t.Kind != 1) && ((i == t.I) || (i == t.J))) && (!(j == t.I)))) (v := vi j) rfl rfl (wt_gf (gd_of (t := 52) (by kernel_rfl) rfl)) (fun hg15 => (ym (vi j) rfl (hf1.g 2 1))) ?_
 refine sgq 54 (B := (((t.Kind != 1) && ((i == t.I) || (i == t.J))) && (!(j == t.I)))) (v := pt (aD b) 2) rfl rfl (wt_gf (gd_of (t := 52) (by kernel_rfl) rfl)) (fun hg16 => (yd (aD b) 0 0 K39 K0 rfl (hf1.g 3 2))) ?_
 refine sgq 55 (B := (((t.Kind != 1) && ((i == t.I) || (i == t.J))) && (!(j == t.I)))) (v := vi t.J) rfl rfl (wt_gf (gd_of (t := 52) (by kernel_rfl) rfl)) (fun hg17 => (yl (aD b) 2 [vi t.Kind, vi t.I, vi t.J, vi t.M_] (vi t.J) K1 (hS22.c 0) rfl (gv_of (v := pt (aD b) 2) hg17))) ?_
 refine sgq 56 (B := (((t.Kind != 1) && ((i == t.I) || (i == t.J))) && (!(j == t.I)))) (v := .bool (j == t.J)) rfl rfl (wt_gf (gd_of (t := 52) (by kernel_rfl) rfl)) (fun hg18 => (yE j t.J rfl (gv_of (v := vi j) hg18) (gv_of (v := vi t.J) hg18))) ?_
 refine sgq 57 (B := ((t.Kind != 1) && ((i == t.I) || (i == t.J)))) (v := .bool ((j == t.I) || (j == t.J))) rfl rfl (uT_ 47) (fun hg19 => (Y_or (b := (j == t.I)) (z := (j == t.J)) rfl (gv_of (v := .bool (j == t.I)) hg19) rfl (gv_and (B := ((t.Kind != 1) && ((i == t.I) || (i == t.J)))) (C := (!(j == t.I))) (v := .bool (j == t.J)) hg19))) ?_
 refine sQ 58 (Y_and (b := ((t.Kind != 1) && ((i == t.I) || (i == t.J)))) (z := ((j == t.I) || (j == t.J))) rfl rfl rfl rfl) <| sQ 12 (yg (.bool (((t.Kind != 1) && ((i == t.I) || (i == t.J))) && ((j == t.I) || (j == t.J))))) (rn (cq (cw_block (cq (cr ?_)))))
 refine sQ 60 (yd (aD b) 0 0 K42 K0 rfl (hf1.g 3 2)) <| sQ 61 (yl (aD b) 0 [vi t.Kind, vi t.I, vi t.J, vi t.M_] (vi t.Kind) K1 (hS22.c 0)) <| sQ 62 (yE t.Kind 1) <| sQ 63 (ym (.bool (t.Kind == 1))) ?_
 refine sgq 64 (B := (t.Kind == 1)) (v := vi i) rfl rfl (uT_ 63) (fun hg20 => (ym (vi i) rfl (hf1.g 1 0))) ?_
 refine sgq 65 (B := (t.Kind == 1)) (v := pt (aD b) 1) rfl rfl (uT_ 63) (fun hg21 => (yd (aD b) 0 0 K36 K0 rfl (hf1.g 3 2))) ?_
 refine sgq 66 (B := (t.Kind == 1)) (v := vi t.I) rfl rfl (uT_ 63) (fun hg22 => (yl (aD b) 1 [vi t.Kind, vi t.I, vi t.J, vi t.M_] (vi t.I) K1 (hS22.c 0) rfl (gv_of (v := pt (aD b) 1) hg22))) ?_
 refine sgq 67 (B := (t.Kind == 1)) (v := .bool (i == t.I)) rfl rfl (uT_ 63) (fun hg23 => (yE i t.I rfl (gv_of (v := vi i) hg23) (gv_of (v := vi t.I) hg23))) ?_
 refine sQ 68 (Y_and (b := (t.Kind == 1)) (z := (i == t.I)) rfl rfl rfl rfl) <| sQ 69 (ym (.bool ((t.Kind == 1) && (i == t.I)))) ?_
 refine sgq 70 (B := ((t.Kind == 1) && (i == t.I))) (v := vi j) rfl rfl (uT_ 69) (fun hg24 => (ym (vi j) rfl (hf1.g 2 1))) ?_
 refine sgq 71 (B := ((t.Kind == 1) && (i == t.I))) (v := pt (aD b) 1) rfl rfl (uT_ 69) (fun hg25 => (yd (aD b) 0 0 K36 K0 rfl (hf1.g 3 2))) ?_
 refine sgq 72 (B := ((t.Kind == 1) && (i == t.I))) (v := vi t.I) rfl rfl (uT_ 69) (fun hg26 => (yl (aD b) 1 [vi t.Kind, vi t.I, vi t.J, vi t.M_] (vi t.I) K1 (hS22.c 0) rfl (gv_of (v := pt (aD b) 1) hg26))) ?_
 refine sgq 73 (B := ((t.Kind == 1) && (i == t.I))) (v := .bool (j == t.I)) rfl rfl (uT_ 69) (fun hg27 => (yE j t.I rfl (gv_of (v := vi j) hg27) (gv_of (v := vi t.I) hg27))) ?_
 refine sQ 74 (Y_and (b := ((t.Kind == 1) && (i == t.I))) (z := (j == t.I)) rfl rfl rfl rfl) <| sQ 59 (yg (.bool (((t.Kind == 1) && (i == t.I)) && (j == t.I)))) (rn ?_)
 refine cw_cond (b := (((t.Kind == 1) && (i == t.I)) && (j == t.I))) rfl (fun hb => ?_) (fun hb => ?_)
 ·skip
  have hF1 := ct hF hb
  refine cq (cr ?_)
  refine sQ 75 (yd (aD b) 0 0 K37 K0 rfl (hf1.g 3 2)) <| sQ 76 (yl (aD b) 3 [vi t.Kind, vi t.I, vi t.J, vi t.M_] (vi t.M_) K1 (hS22.c 0)) ?_
  obtain ⟨r_7, hc4, hF1⟩ := bI hF1
  refine sc 77 rfl rfl (yC [vi t.M_] K71 (c_impl_phase t.M_ _  (hS22.inn0 [] rfl) hc4)) ?_
  rintro _ w_26 ⟨rfl, hd10⟩
  have hS35 := hS22.out00 hd10
  refine s0 (yT 1 5 (aD b1) 51 (gD_ r_7) (kD_ r_7) 0 hS35 K2 rfl (hf1.g 6 3)) ?_
  rintro _ w_27 ⟨rfl, hS36⟩
  refine rn (ct_ ?_)
  obtain rfl := sI hF1
  exact ret1 Tryz.results49 (v1 := gD_ r_7) (resAt_cellA (B := aD b1) (i := 0) (cs := kD_ r_7) (vs := kD_ r_7) (hf1.g 6 3) K5 K2 (hS36.c 1) rfl rfl) ⟨rfl, (hS36.sN [])⟩
 ·skip
  have hF2 := cf' hF hb
  refine cq (cr ?_)
  refine sQ 79 (yd (aD b) 0 0 K42 K0 rfl (hf1.g 3 2)) <| sQ 80 (yl (aD b) 0 [vi t.Kind, vi t.I, vi t.J, vi t.M_] (vi t.Kind) K1 (hS22.c 0)) <| sQ 81 (yE t.Kind 2) <| sQ 82 (ym (.bool (t.Kind == 2))) ?_
  refine sgq 83 (B := (t.Kind == 2)) (v := .bool (((t.Kind != 1) && ((i == t.I) || (i == t.J))) && ((j == t.I) || (j == t.J)))) rfl rfl (uT_ 82) (fun hg28 => (ym (.bool (((t.Kind != 1) && ((i == t.I) || (i == t.J))) && ((j == t.I) || (j == t.J)))))) ?_
  refine sQ 84 (Y_and (b := (t.Kind == 2)) (z := (((t.Kind != 1) && ((i == t.I) || (i == t.J))) && ((j == t.I) || (j == t.J)))) rfl rfl rfl rfl) <| sQ 78 (yg (.bool ((t.Kind == 2) && (((t.Kind != 1) && ((i == t.I) || (i == t.J))) && ((j == t.I) || (j == t.J)))))) (rn ?_)
  refine cw_cond (b := ((t.Kind == 2) && (((t.Kind != 1) && ((i == t.I) || (i == t.J))) && ((j == t.I) || (j == t.J))))) rfl (fun hb1 => ?_) (fun hb1 => ?_)
  ·skip
   have hF3 := ct hF2 hb1
   refine cq (cr ?_)
   refine sQ 85 (ym (vi i) rfl (hf1.g 1 0)) <| sQ 86 (ym (vi j) rfl (hf1.g 2 1)) <| sQ 87 (Y_ne (k := .i64) (a := i) (b := j) rfl rfl rfl) ?_
   obtain ⟨r_8, hc5, hF3⟩ := bI hF3
   refine sc 88 rfl rfl (yC [.bool (i != j)] k_call_80 (c_impl_small (i != j) _  (hS22.inn0 [] rfl) hc5)) ?_
   rintro _ w_28 ⟨rfl, hd11⟩
   have hS37 := hS22.out00 hd11
   obtain ⟨r_9, hc6, hF3⟩ := bI hF3
   refine sc 89 rfl rfl (yC [vi r_8] K88 (c_impl_whole r_8 _  (hS37.inn0 [] rfl) hc6)) ?_
   rintro _ w_29 ⟨rfl, hd12⟩
   have hS38 := hS37.out00 hd12
   refine s0 (yT 1 5 (aD b1) 51 (gD_ r_9) (kD_ r_9) 0 hS38 K2 rfl (hf1.g 6 3)) ?_
   rintro _ w_30 ⟨rfl, hS39⟩
   have hS39 : ST w0 [] _ [⟨aD b, 25, [vi t.Kind, vi t.I, vi t.J, vi t.M_], 4⟩, ⟨aD b1, 51, kD_ r_9, 5⟩, ⟨aD b2, 51, [vi 1, vi 0, vi 0, vi 0, vi 1], 5⟩, ⟨B, 51, kD_ r_2, 5⟩, ⟨B1, 51, kD_ r_5, 5⟩] [] := hS39
   refine rn (ct_ ?_)
   obtain rfl := sI hF3
   exact ret1 Tryz.results49 (v1 := gD_ r_9) (resAt_cellA (B := aD b1) (i := 0) (cs := kD_ r_9) (vs := kD_ r_9) (hf1.g 6 3) K5 K2 (hS39.c 1) rfl rfl) ⟨rfl, (hS39.sN [])⟩
  ·skip
   have hF4 := cf' hF2 hb1
   refine cq (cr ?_)
   refine sQ 91 (yd (aD b) 0 0 K42 K0 rfl (hf1.g 3 2)) <| sQ 92 (yl (aD b) 0 [vi t.Kind, vi t.I, vi t.J, vi t.M_] (vi t.Kind) K1 (hS22.c 0)) <| sQ 93 (yE t.Kind 3) <| sQ 94 (ym (.bool (t.Kind == 3))) ?_
   refine sgq 95 (B := (t.Kind == 3)) (v := .bool (((t.Kind != 1) && ((i == t.I) || (i == t.J))) && ((j == t.I) || (j == t.J)))) rfl rfl (uT_ 94) (fun hg29 => (ym (.bool (((t.Kind != 1) && ((i == t.I) || (i == t.J))) && ((j == t.I) || (j == t.J)))))) ?_
   refine sQ 96 (Y_and (b := (t.Kind == 3)) (z := (((t.Kind != 1) && ((i == t.I) || (i == t.J))) && ((j == t.I) || (j == t.J)))) rfl rfl rfl rfl) <| sQ 97 (ym (.bool ((t.Kind == 3) && (((t.Kind != 1) && ((i == t.I) || (i == t.J))) && ((j == t.I) || (j == t.J)))))) ?_
   refine sgq 98 (B := ((t.Kind == 3) && (((t.Kind != 1) && ((i == t.I) || (i == t.J))) && ((j == t.I) || (j == t.J))))) (v := vi j) rfl rfl (uT_ 97) (fun hg30 => (ym (vi j) rfl (hf1.g 2 1))) ?_
   refine sgq 99 (B := ((t.Kind == 3) && (((t.Kind != 1) && ((i == t.I) || (i == t.J))) && ((j == t.I) || (j == t.J))))) (v := pt (aD b) 1) rfl rfl (uT_ 97) (fun hg31 => (yd (aD b) 0 0 K36 K0 rfl (hf1.g 3 2))) ?_
   refine sgq 100 (B := ((t.Kind == 3) && (((t.Kind != 1) && ((i == t.I) || (i == t.J))) && ((j == t.I) || (j == t.J))))) (v := vi t.I) rfl rfl (uT_ 97) (fun hg32 => (yl (aD b) 1 [vi t.Kind, vi t.I, vi t.J, vi t.M_] (vi t.I) K1 (hS22.c 0) rfl (gv_of (v := pt (aD b) 1) hg32))) ?_
   refine sgq 101 (B := ((t.Kind == 3) && (((t.Kind != 1) && ((i == t.I) || (i == t.J))) && ((j == t.I) || (j == t.J))))) (v := .bool (j == t.I)) rfl rfl (uT_ 97) (fun hg33 => (yE j t.I rfl (gv_of (v := vi j) hg33) (gv_of (v := vi t.I) hg33))) ?_
   refine sQ 102 (Y_and (b := ((t.Kind == 3) && (((t.Kind != 1) && ((i == t.I) || (i == t.J))) && ((j == t.I) || (j == t.J))))) (z := (j == t.I)) rfl rfl rfl rfl) <| sQ 90 (yg (.bool (((t.Kind == 3) && (((t.Kind != 1) && ((i == t.I) || (i == t.J))) && ((j == t.I) || (j == t.J)))) && (j == t.I)))) (rn ?_)
   refine cw_cond (b := (((t.Kind == 3) && (((t.Kind != 1) && ((i == t.I) || (i == t.J))) && ((j == t.I) || (j == t.J)))) && (j == t.I))) rfl (fun hb2 => ?_) (fun hb2 => ?_)
   ·skip
    have hF5 := ct hF4 hb2
    refine cq (cr ?_)
    refine sQ 103 (yb (aD b2) 0 [vi 1, vi 0, vi 0, vi 0, vi 1] K5 K2 (hS22.c 2) rfl (hf1.g 7 4)) ?_
    refine s0 (yT 1 5 (aD b1) 51 (.agg #[vi 1, vi 0, vi 0, vi 0, vi 1]) [vi 1, vi 0, vi 0, vi 0, vi 1] 0 hS22 K2 rfl (hf1.g 6 3)) ?_
    rintro _ w_31 ⟨rfl, hS40⟩
    refine rn (ct_ ?_)
    obtain rfl := sI hF5
    exact ret1 Tryz.results49 (v1 := .agg #[vi 1, vi 0, vi 0, vi 0, vi 1]) (resAt_cellA (B := aD b1) (i := 0) (cs := [vi 1, vi 0, vi 0, vi 0, vi 1]) (vs := [vi 1, vi 0, vi 0, vi 0, vi 1]) (hf1.g 6 3) K5 K2 (hS40.c 1) rfl rfl) ⟨rfl, (hS40.sN [])⟩
   ·skip
    have hF6 := cf' hF4 hb2
    refine cq (cr ?_)
    refine sQ 105 (yd (aD b) 0 0 K42 K0 rfl (hf1.g 3 2)) <| sQ 106 (yl (aD b) 0 [vi t.Kind, vi t.I, vi t.J, vi t.M_] (vi t.Kind) K1 (hS22.c 0)) <| sQ 107 (yE t.Kind 3) <| sQ 108 (ym (.bool (t.Kind == 3))) ?_
    refine sgq 109 (B := (t.Kind == 3)) (v := .bool (((t.Kind != 1) && ((i == t.I) || (i == t.J))) && ((j == t.I) || (j == t.J)))) rfl rfl (uT_ 108) (fun hg34 => (ym (.bool (((t.Kind != 1) && ((i == t.I) || (i == t.J))) && ((j == t.I) || (j == t.J)))))) ?_
    refine sQ 110 (Y_and (b := (t.Kind == 3)) (z := (((t.Kind != 1) && ((i == t.I) || (i == t.J))) && ((j == t.I) || (j == t.J)))) rfl rfl rfl rfl) <| sQ 111 (ym (.bool ((t.Kind == 3) && (((t.Kind != 1) && ((i == t.I) || (i == t.J))) && ((j == t.I) || (j == t.J)))))) ?_
    refine sgq 112 (B := ((t.Kind == 3) && (((t.Kind != 1) && ((i == t.I) || (i == t.J))) && ((j == t.I) || (j == t.J))))) (v := vi i) rfl rfl (uT_ 111) (fun hg35 => (ym (vi i) rfl (hf1.g 1 0))) ?_
    refine sgq 113 (B := ((t.Kind == 3) && (((t.Kind != 1) && ((i == t.I) || (i == t.J))) && ((j == t.I) || (j == t.J))))) (v := pt (aD b) 1) rfl rfl (uT_ 111) (fun hg36 => (yd (aD b) 0 0 K36 K0 rfl (hf1.g 3 2))) ?_
    refine sgq 114 (B := ((t.Kind == 3) && (((t.Kind != 1) && ((i == t.I) || (i == t.J))) && ((j == t.I) || (j == t.J))))) (v := vi t.I) rfl rfl (uT_ 111) (fun hg37 => (yl (aD b) 1 [vi t.Kind, vi t.I, vi t.J, vi t.M_] (vi t.I) K1 (hS22.c 0) rfl (gv_of (v := pt (aD b) 1) hg37))) ?_
    refine sgq 115 (B := ((t.Kind == 3) && (((t.Kind != 1) && ((i == t.I) || (i == t.J))) && ((j == t.I) || (j == t.J))))) (v := .bool (i == t.I)) rfl rfl (uT_ 111) (fun hg38 => (yE i t.I rfl (gv_of (v := vi i) hg38) (gv_of (v := vi t.I) hg38))) ?_
    refine sQ 116 (Y_and (b := ((t.Kind == 3) && (((t.Kind != 1) && ((i == t.I) || (i == t.J))) && ((j == t.I) || (j == t.J))))) (z := (i == t.I)) rfl rfl rfl rfl) <| sQ 104 (yg (.bool (((t.Kind == 3) && (((t.Kind != 1) && ((i == t.I) || (i == t.J))) && ((j == t.I) || (j == t.J)))) && (i == t.I)))) (rn ?_)
    refine cw_cond (b := (((t.Kind == 3) && (((t.Kind != 1) && ((i == t.I) || (i == t.J))) && ((j == t.I) || (j == t.J)))) && (i == t.I))) rfl (fun hb3 => ?_) (fun hb3 => ?_)
    ·skip
     have hF7 := ct hF6 hb3
     refine cq (cr ?_)
     refine sQ 117 (yb B 0 (kD_ r_2) K5 K2 (hS22.c 3) rfl (hf1.g 8 5)) ?_
     refine s0 (yT 1 5 (aD b1) 51 (gD_ r_2) (kD_ r_2) 0 hS22 K2 rfl (hf1.g 6 3)) ?_
     rintro _ w_32 ⟨rfl, hS41⟩
     refine rn (ct_ ?_)
     obtain rfl := sI hF7
     exact ret1 Tryz.results49 (v1 := gD_ r_2) (resAt_cellA (B := aD b1) (i := 0) (cs := kD_ r_2) (vs := kD_ r_2) (hf1.g 6 3) K5 K2 (hS41.c 1) rfl rfl) ⟨rfl, (hS41.sN [])⟩
    ·skip
     have hF8 := cf' hF6 hb3
     refine cq (cr ?_)
     refine sQ 119 (yd (aD b) 0 0 K42 K0 rfl (hf1.g 3 2)) <| sQ 120 (yl (aD b) 0 [vi t.Kind, vi t.I, vi t.J, vi t.M_] (vi t.Kind) K1 (hS22.c 0)) <| sQ 121 (yE t.Kind 3) <| sQ 122 (ym (.bool (t.Kind == 3))) ?_
     refine sgq 123 (B := (t.Kind == 3)) (v := .bool (((t.Kind != 1) && ((i == t.I) || (i == t.J))) && ((j == t.I) || (j == t.J)))) rfl rfl (uT_ 122) (fun hg39 => (ym (.bool (((t.Kind != 1) && ((i == t.I) || (i == t.J))) && ((j == t.I) || (j == t.J)))))) ?_
     refine sQ 124 (Y_and (b := (t.Kind == 3)) (z := (((t.Kind != 1) && ((i == t.I) || (i == t.J))) && ((j == t.I) || (j == t.J)))) rfl rfl rfl rfl) <| sQ 118 (yg (.bool ((t.Kind == 3) && (((t.Kind != 1) && ((i == t.I) || (i == t.J))) && ((j == t.I) || (j == t.J)))))) (rn ?_)
     refine cw_cond (b := ((t.Kind == 3) && (((t.Kind != 1) && ((i == t.I) || (i == t.J))) && ((j == t.I) || (j == t.J))))) rfl (fun hb4 => ?_) (fun hb4 => ?_)
     ·skip
      have hF9 := ct hF8 hb4
      refine cq (cr ?_)
      refine sQ 125 (yb B1 0 (kD_ r_5) K5 K2 (hS22.c 4) rfl (hf1.g 10 6)) ?_
      refine s0 (yT 1 5 (aD b1) 51 (gD_ r_5) (kD_ r_5) 0 hS22 K2 rfl (hf1.g 6 3)) ?_
      rintro _ w_33 ⟨rfl, hS42⟩
      refine rn (ct_ ?_)
      obtain rfl := sI hF9
      exact ret1 Tryz.results49 (v1 := gD_ r_5) (resAt_cellA (B := aD b1) (i := 0) (cs := kD_ r_5) (vs := kD_ r_5) (hf1.g 6 3) K5 K2 (hS42.c 1) rfl rfl) ⟨rfl, (hS42.sN [])⟩
     ·skip
      have hF10 := cf' hF8 hb4
      refine cw_skip (cq (cr ?_))
      refine sQ 126 (ym (vi i) rfl (hf1.g 1 0)) <| sQ 127 (ym (vi j) rfl (hf1.g 2 1)) <| sQ 128 (yE i j) ?_
      obtain ⟨r_10, hc7, hF10⟩ := bI hF10
      refine sc 129 rfl rfl (yC [.bool (i == j)] k_call_80 (c_impl_small (i == j) _  (hS22.inn0 [] rfl) hc7)) ?_
      rintro _ w_34 ⟨rfl, hd13⟩
      have hS43 := hS22.out00 hd13
      obtain ⟨r_11, hc8, hF10⟩ := bI hF10
      refine sc 130 rfl rfl (yC [vi r_10] K88 (c_impl_whole r_10 _  (hS43.inn0 [] rfl) hc8)) ?_
      rintro _ w_35 ⟨rfl, hd14⟩
      have hS44 := hS43.out00 hd14
      refine s0 (yT 1 5 (aD b1) 51 (gD_ r_11) (kD_ r_11) 0 hS44 K2 rfl (hf1.g 6 3)) ?_
      rintro _ w_36 ⟨rfl, hS45⟩
      refine rn (ct_ ?_)
      obtain rfl := sI hF10
      exact ret1 Tryz.results49 (v1 := gD_ r_11) (resAt_cellA (B := aD b1) (i := 0) (cs := kD_ r_11) (vs := kD_ r_11) (hf1.g 6 3) K5 K2 (hS45.c 1) rfl rfl) ⟨rfl, (hS45.sN [])⟩

theorem c_impl_TwoLevelMatrix_1 (i : Int) (j : Int) (p : TTwoLevel) (B : Option Addr) (w0 : World)  (hS : ST w0 [] w0 [] [⟨B, [vi p.Kind, vi p.I, vi p.J, vi p.M_]⟩]) {r_ : TDyadic} {r_1 : Bool} (hF : F_impl_TwoLevelMatrix_1 i j p = some (r_, r_1)) :
  CV Tryz.prog 48 #[vi i, vi j, pt B 0] w0 (fun v w' => v = .tuple #[gD_ r_, .bool r_1] ∧ ST w0 [] w' [] []) := by
 unfold F_impl_TwoLevelMatrix_1 at hF
 refine cv_of_cw 11 Tryz.func48 rfl Tryz.ntmps48 rfl ?_
 refine cq (cr ?_)
 refine sS 5 (yN kZ_ 5 hS K6) ?_
 rintro _ w_ ⟨b, rfl, hS1⟩
 refine sQ 6 (yg (.bool false)) (rn (cq (cr ?_)))
 refine sQ 7 (yb B 0 [vi p.Kind, vi p.I, vi p.J, vi p.M_] K26 K11 (hS1.rf (i := 0) rfl)) <| sQ 8 (ym (vi i)) <| sQ 9 (ym (vi j)) ?_
 obtain ⟨r_2, hc, hF⟩ := bI hF
 refine sc 10 rfl rfl (yC [.agg #[vi p.Kind, vi p.I, vi p.J, vi p.M_], vi i, vi j] k_call_49 (c_impl_levelCell p i j _  (hS1.inn0 [] rfl) hc)) ?_
 rintro _ w_1 ⟨rfl, hd⟩
 have hS2 := hS1.out00 hd
 refine s0 (yT 0 5 (aD b) 51 (gD_ r_2) (kD_ r_2) 0 hS2 K2) ?_
 rintro _ w_2 ⟨rfl, hS3⟩
 refine sQ 6 (yg (.bool true)) (rn (ct_ ?_))
 obtain ⟨rfl, rfl⟩ := pr2 (sI hF)
 exact ret2 Tryz.results48 (v1 := gD_ r_2) (resAt_cellA (B := aD b) (i := 0) (cs := kD_ r_2) (vs := kD_ r_2) rfl K5 K2 (hS3.c 0) rfl rfl) (v2 := .bool true) (resAt_tmp rfl) ⟨rfl, (hS3.sN [])⟩

theorem c_impl_TwoLevelMatrix (n : Int) (t : TTwoLevel)  (w0 : World)  (hS : ST w0 [] w0 [] []) {r_ : TMatrix} {r_1 : Bool} (hF : F_impl_TwoLevelMatrix n t = some (r_, r_1)) :
  CV Tryz.prog 22 #[vi n, .agg #[vi t.Kind, vi t.I, vi t.J, vi t.M_]] w0 (fun v w' => ∃ (B : Option Addr) (c : Nat), v = .tuple #[gM_ r_ B c, .bool r_1] ∧ ST w0 [] w' [⟨B, 51, (r_.Cells.flatMap eN0), c * 5⟩] []) := by
 unfold F_impl_TwoLevelMatrix at hF
 refine cv_of_cw 17 Tryz.func22 rfl Tryz.ntmps22 rfl ?_
 refine cq (cr ?_)
 refine sS 3 (yB 25 (.agg #[vi t.Kind, vi t.I, vi t.J, vi t.M_]) [vi t.Kind, vi t.I, vi t.J, vi t.M_] 4 hS) ?_
 rintro _ w_ ⟨b, rfl, hS1⟩
 refine sS 4 (yN kN_ 3 hS1 K10) ?_
 rintro _ w_1 ⟨b1, rfl, hS2⟩
 refine sQ 5 (yg (.bool false)) (rn (cq (cq (cr ?_))))
 refine sQ 6 (ym (vi n)) <| sQ 7 (yb (aD b) 0 [vi t.Kind, vi t.I, vi t.J, vi t.M_] K26 K11 (hS2.c 0)) ?_
 obtain ⟨r_2, hc, hF⟩ := bI hF
 refine sc 8 rfl rfl (yC [vi n, .agg #[vi t.Kind, vi t.I, vi t.J, vi t.M_]] K107 (c_impl_IsValidTwoLevel n t _  (hS2.inn0 [] rfl) hc)) ?_
 rintro _ w_2 ⟨rfl, hd⟩
 have hS3 := hS2.out00 hd
 refine sQ 9 (Y_not (p := r_2) rfl rfl) (rn ?_)
 refine cw_cond (b := (!r_2)) rfl (fun hb => ?_) (fun hb => ?_)
 ·skip
  have hF1 := ct hF hb
  refine cq (cr ?_)
  refine sQ 10 (Y_buildS (zs := kN_) (vs := []) (cs := kN_) K32 K10 rfl mpn rfl) ?_
  refine s0 (yT 1 3 (aD b1) 34 gN_ kN_ 0 hS3 K4) ?_
  rintro _ w_3 ⟨rfl, hS4⟩
  refine sQ 5 (yg (.bool false)) (rn (ct_ ?_))
  have hS5 := hS4.addNil 51
  obtain ⟨rfl, rfl⟩ := pr2 (sI hF1)
  exact ret2 Tryz.results22 (v1 := gN_) (resAt_cellA (B := aD b1) (i := 0) (cs := kN_) (vs := kN_) rfl K8 K4 (hS5.c 1) rfl rfl) (v2 := .bool false) (resAt_tmp rfl) ⟨none, 0, rfl, (hS5.sN [2])⟩
 ·skip
  have hF2 := cf' hF hb
  refine cw_skip (cq (cr ?_))
  refine sQ 11 (ym (vi n)) <| sQ 12 (ym (vi n)) <| sQ 13 (Y_makeFunc (cs := [pt (aD b) 0]) rfl rfl (mc rfl mn)) ?_
  obtain ⟨⟨r_3, r_4⟩, hc1, hF2⟩ := bI hF2
  refine sc 14 rfl rfl (yC [vi n, vi n, .func (.func 48) #[] #[pt (aD b) 0]] K108 (c_impl_matrixOf n n (fun x_0 x_1 => F_impl_TwoLevelMatrix_1 x_0 x_1 t) 48 (#[pt (aD b) 0]) [⟨aD b, [vi t.Kind, vi t.I, vi t.J, vi t.M_]⟩] _ k_call_48 (fun w hw x_0 x_1 y_0 y_1 h_ => c_impl_TwoLevelMatrix_1 x_0 x_1 t (aD b) w  hw h_) (hS3.inn0 [(false, 0)] rfl) hc1)) ?_
  rintro _ w_4 ⟨B1, c1, rfl, hd1⟩
  have hS6 := hS3.out0 hd1
  refine sQ 15 (ye (gM_ r_3 B1 c1)) <| sQ 16 (ye (.bool r_4)) ?_
  refine s0 (yT 1 3 (aD b1) 34 (gM_ r_3 B1 c1) (kM_ r_3 B1 c1) 0 hS6 K4) ?_
  rintro _ w_5 ⟨rfl, hS7⟩
  refine sQ 5 (yg (.bool r_4)) (rn (ct_ ?_))
  obtain ⟨rfl, rfl⟩ := pr2 (sI hF2)
  exact ret2 Tryz.results22 (v1 := gM_ r_3 B1 c1) (resAt_cellA (B := aD b1) (i := 0) (cs := kM_ r_3 B1 c1) (vs := kM_ r_3 B1 c1) rfl K8 K4 (hS7.c 1) rfl rfl) (v2 := .bool r_4) (resAt_tmp rfl) ⟨B1, c1, rfl, (hS7.sN [2])⟩

theorem c_slices_IndexFunc_impl_Dyadic_impl_Dyadic (s : List TDyadic) (f_ : TDyadic → Option (Bool)) (B : Option Addr) (c n : Nat) (kf : Nat) (caps : Array Value) (Rf : List Ro) (w0 : World) (hn : s.length = n) (hk : callB Tryz.prog kf = true) (hp : ∀ (w : World), ST w [] w [] Rf → ∀ (x : TDyadic) (y : Bool), f_ x = some y → CV Tryz.prog kf ((gD_ x) :: caps.toList).toArray w (fun v w' => v = .bool y ∧ ST w [] w' [] [])) (hS : ST w0 [] w0 [] (⟨B, (s.flatMap eN0)⟩ :: Rf)) {r_ : Int} (hF : F_slices_IndexFunc_impl_Dyadic_impl_Dyadic s f_ = some r_) :
  CV Tryz.prog 105 #[.slice B n c, .func (.func kf) #[] caps] w0 (fun v w' => v = vi r_ ∧ ST w0 [] w' [] []) := by
 subst hn
 unfold F_slices_IndexFunc_impl_Dyadic_impl_Dyadic at hF
 refine cv_of_cw 19 Tryz.func105 rfl Tryz.ntmps105 rfl ?_
 refine cq (cr ?_)
 refine sQ 4 (yg (vi 0)) (rn (cq (cq (cr ?_))))
 refine sQ 6 (ym (.slice B s.length c)) <| sQ 7 (Y_len (B := B) (m := s.length) (c := c) K12 rfl rfl) <| sQ 8 (ym (vi 0)) (rn ?_)
 obtain ⟨hN, hF⟩ := chk_inv hF
 obtain ⟨z, hz, hF1⟩ := bI hF
 refine cw_block ?_
 refine cw_loop (fun k f w => ∃ (i : Nat), FF f [(0, .slice B s.length c), (1, .func (.func kf) #[] caps), (7, vi (s.length : Int)), (8, vi (i : Int))] ∧ ST w0 [] w [] (⟨B, (s.flatMap eN0)⟩ :: Rf) ∧ i + k = s.length ∧ forX (F_slices_IndexFunc_impl_Dyadic_impl_Dyadic_l1 s f_) k i () = some z) s.length ⟨0, (fc rfl (fc rfl (fc rfl (fc rfl fn_)))), (hS.sel [] rfl rfl), Nat.zero_add _, hz⟩ ?_
 rintro k_ f w ⟨i, hf, hS1, hik, hL⟩
 refine cq (cr ?_)
 refine sQ 9 (yL (i : Int) (s.length : Int) rfl (hf.g 8 3) (hf.g 7 2)) (rn (cq ?_))
 refine cw_cond (b := (decide ((i : Int) < (s.length : Int)))) rfl (fun hlt => ?_) (fun hlt => ?_)
 ·skip
  have hlt1 : i < s.length := by have h := of_decide_eq_true hlt; omega
  obtain ⟨K9, rfl⟩ : ∃ k2, k_ = k2 + 1 := ⟨k_ - 1, by omega⟩
  obtain ⟨y1, hb, hL1⟩ := forX_go hL
  unfold F_slices_IndexFunc_impl_Dyadic_impl_Dyadic_l1 at hb
  refine cw_skip (cq (cw_block (cq (cr ?_))))
  refine sQ 10 (ym (vi (i : Int)) rfl (hf.g 8 3)) <| sQ 5 (yg (vi (i : Int))) (rn (cq (cr ?_)))
  refine sQ 11 (ym (.func (.func kf) #[] caps) rfl (hf.g 1 1)) <| sQ 12 (ym (.slice B s.length c) rfl (hf.g 0 0)) <| sQ 13 (ym (vi (i : Int))) ?_
  obtain ⟨x1, hx, hb⟩ := bI hb
  refine sQ 14 (Y_index (B := B) (m := s.length) (c := c) (k := .i64) (i := (i : Int)) K12 K2 rfl rfl rfl (gi_isSome eN1 rfl (hS1.rf (i := 0) rfl) hx) (getI_nn hx) (getI_ltI hx rfl)) <| sQ 15 (ya B ((i : Int).toNat * 5) (s.flatMap eN0) (kD_ x1) K5 K2 (hS1.rf (i := 0) rfl) rfl rfl (eN1 x1) (gi_seg eN1 hx)) ?_
  obtain ⟨r_1, hc, hb⟩ := bI hb
  refine sc 16 rfl rfl (Yc_clos (g := kf) (vs := (gD_ x1) :: caps.toList) hk rfl rfl (clo_args (mc rfl mn)) (hp _ (hS1.innS (fun _ h => mOd (i := 1) h)) x1 r_1 hc)) ?_
  rintro _ w_ ⟨rfl, hd⟩
  have hS2 := hS1.out00 hd
  refine rn ?_
  refine cw_cond (b := r_1) rfl (fun hb1 => ?_) (fun hb1 => ?_)
  ·skip
   have hF2 := ct hb hb1
   refine cq (cr ?_)
   refine sQ 17 (ym (vi (i : Int))) <| sQ 4 (yg (vi (i : Int))) (rn (ct_ ?_))
   obtain rfl := sI hF2
   obtain rfl := sI hL1
   obtain rfl := sI hF1
   exact ret1 Tryz.results105 (v1 := vi (i : Int)) (resAt_tmp rfl) ⟨rfl, (hS2.sN [])⟩
  ·skip
   have hF3 := cf' hb hb1
   refine cw_skip (cr ?_)
   refine sQ 18 (yP (i : Int) 1 rfl (hf.g 8 3)) <| sQ 8 (ym (vi (i64.wrap ((i : Int) + 1)))) (rn ?_)
   obtain rfl := sI hF3
   exact ⟨K9, Nat.lt_succ_self _, i + 1, (fc (hf.g 0 0) (fc (hf.g 1 1) (fc (hf.g 7 2) (fc (congrArg (Value.int .i64) (wr_succ hlt1 hN)) fn_)))), (hS2.sel [] rfl rfl), (by omega), hL1⟩
 ·skip
  obtain rfl : k_ = 0 := by have h := of_decide_eq_false hlt; omega
  refine cw_exit rfl ?_
  obtain rfl := sI hL
  refine cq (cr ?_)
  refine sQ 4 (yg (vi (-1))) (rn (ct_ ?_))
  obtain rfl := sI hF1
  exact ret1 Tryz.results105 (v1 := vi (-1)) (resAt_tmp rfl) ⟨rfl, (hS1.sN [])⟩

theorem c_slices_ContainsFunc_impl_Dyadic_impl_Dyadic (s : List TDyadic) (f_ : TDyadic → Option (Bool)) (B : Option Addr) (c n : Nat) (kf : Nat) (caps : Array Value) (Rf : List Ro) (w0 : World) (hn : s.length = n) (hk : callB Tryz.prog kf = true) (hp : ∀ (w : World), ST w [] w [] Rf → ∀ (x : TDyadic) (y : Bool), f_ x = some y → CV Tryz.prog kf ((gD_ x) :: caps.toList).toArray w (fun v w' => v = .bool y ∧ ST w [] w' [] [])) (hS : ST w0 [] w0 [] (⟨B, (s.flatMap eN0)⟩ :: Rf)) {r_ : Bool} (hF : F_slices_ContainsFunc_impl_Dyadic_impl_Dyadic s f_ = some r_) :
  CV Tryz.prog 81 #[.slice B n c, .func (.func kf) #[] caps] w0 (fun v w' => v = .bool r_ ∧ ST w0 [] w' [] []) := by
 subst hn
 unfold F_slices_ContainsFunc_impl_Dyadic_impl_Dyadic at hF
 refine cv_of_cw 9 Tryz.func81 rfl Tryz.ntmps81 rfl ?_
 refine cq (cr ?_)
 refine sQ 4 (yg (.bool false)) (rn (cq (cr ?_)))
 refine sQ 5 (ym (.slice B s.length c)) <| sQ 6 (ym (.func (.func kf) #[] caps)) ?_
 obtain ⟨r_1, hc, hF⟩ := bI hF
 refine sc 7 rfl rfl (yC [.slice B s.length c, .func (.func kf) #[] caps] k_call_105 (c_slices_IndexFunc_impl_Dyadic_impl_Dyadic s f_ B c s.length kf caps Rf _ rfl hk hp (hS.innS (sk 0 (fun _ h => mOd (i := 1) h))) hc)) ?_
 rintro _ w_ ⟨rfl, hd⟩
 have hS1 := hS.out00 hd
 refine sQ 8 (Y_ge (k := .i64) (a := r_1) (b := 0) rfl rfl rfl) <| sQ 4 (yg (.bool (decide (0 ≤ r_1)))) (rn (ct_ ?_))
 obtain rfl := sI hF
 exact ret1 Tryz.results81 (v1 := .bool (decide (0 ≤ r_1))) (resAt_tmp rfl) ⟨rfl, (hS1.sN [])⟩

theorem c_impl_IsValidMatrix_1 (x : TDyadic)  (w0 : World)  (hS : ST w0 [] w0 [] []) {r_ : Bool} (hF : F_impl_IsValidMatrix_1 x = some r_) :
  CV Tryz.prog 82 #[gD_ x] w0 (fun v w' => v = .bool r_ ∧ ST w0 [] w' [] []) := by
 unfold F_impl_IsValidMatrix_1 at hF
 refine cv_of_cw 6 Tryz.func82 rfl Tryz.ntmps82 rfl ?_
 refine cq (cr ?_)
 refine sS 1 (yB 51 (gD_ x) (kD_ x) 5 hS) ?_
 rintro _ w_ ⟨b, rfl, hS1⟩
 refine sQ 2 (yg (.bool false)) (rn (cq (cr ?_)))
 refine sQ 3 (yb (aD b) 0 (kD_ x) K5 K2 (hS1.c 0)) ?_
 obtain ⟨r_1, hc, hF⟩ := bI hF
 refine sc 4 rfl rfl (yC [gD_ x] K70 (c_impl_IsValidDyadic x _  (hS1.inn0 [] rfl) hc)) ?_
 rintro _ w_1 ⟨rfl, hd⟩
 have hS2 := hS1.out00 hd
 refine sQ 5 (Y_not (p := r_1) rfl rfl) <| sQ 2 (yg (.bool (!r_1))) (rn (ct_ ?_))
 obtain rfl := sI hF
 exact ret1 Tryz.results82 (v1 := .bool (!r_1)) (resAt_tmp rfl) ⟨rfl, (hS2.sN [])⟩

theorem c_impl_IsValidMatrix (m : TMatrix) (B : Option Addr) (c n : Nat) (w0 : World) (hn : m.Cells.length = n) (hS : ST w0 [] w0 [] [⟨B, (m.Cells.flatMap eN0)⟩]) {r_ : Bool} (hF : F_impl_IsValidMatrix m = some r_) :
  CV Tryz.prog 50 #[.agg #[vi m.Rows, vi m.Cols, .slice B n c]] w0 (fun v w' => v = .bool r_ ∧ ST w0 [] w' [] []) := by
 subst hn
 unfold F_impl_IsValidMatrix at hF
 refine cv_of_cw 28 Tryz.func50 rfl Tryz.ntmps50 rfl ?_
 refine cq (cr ?_)
 refine sS 1 (yB 34 (gM_ m B c) (kM_ m B c) 3 hS) ?_
 rintro _ w_ ⟨b, rfl, hS1⟩
 refine sQ 2 (yg (.bool false)) (rn (cq (cr ?_)))
 refine sQ 3 (yd (aD b) 0 0 K34 K0) <| sQ 4 (yl (aD b) 0 (kM_ m B c) (vi m.Rows) K1 (hS1.c 0)) ?_
 obtain ⟨r_1, hc, hF⟩ := bI hF
 refine sc 5 rfl rfl (yC [vi m.Rows] K87 (c_impl_isDim m.Rows _  (hS1.inn0 [] rfl) hc)) ?_
 rintro _ w_1 ⟨rfl, hd⟩
 have hS2 := hS1.out00 hd
 refine sQ 6 (ym (.bool r_1)) ?_
 refine sgq 7 (B := r_1) (v := pt (aD b) 1) rfl rfl (uT_ 6) (fun hg => (yd (aD b) 0 0 K29 K0)) ?_
 refine sgq 8 (B := r_1) (v := vi m.Cols) rfl rfl (uT_ 6) (fun hg1 => (yl (aD b) 1 (kM_ m B c) (vi m.Cols) K1 (hS2.c 0) rfl (gv_of (v := pt (aD b) 1) hg1))) ?_
 obtain ⟨r_2, hc1, hF⟩ := bI hF
 refine sgc 9 (B := r_1) (v := .bool r_2) (F := hS2.fn) rfl rfl (uT_ 6) hS2 (fun hg2 => (yC [vi m.Cols] K87 (CV.mono (c_impl_isDim m.Cols _  (hS2.inn0 [] rfl) (gb_inv hc1 hg2)) (by rintro _ _ ⟨rfl, h⟩; exact ⟨rfl, hS2.out00 h⟩)) rfl (mc (gv_of (v := vi m.Cols) hg2) mn))) ?_
 rintro w_2 hS3
 refine sQ 10 (Y_and (b := r_1) (z := r_2) rfl rfl rfl rfl) <| sQ 11 (ym (.bool (r_1 && r_2))) ?_
 refine sgq 12 (B := (r_1 && r_2)) (v := pt (aD b) 2) rfl rfl (uT_ 11) (fun hg3 => (yd (aD b) 0 0 K15 K13)) ?_
 refine sgq 13 (B := (r_1 && r_2)) (v := .slice B m.Cells.length c) rfl rfl (uT_ 11) (fun hg4 => (yl (aD b) 2 (kM_ m B c) (.slice B m.Cells.length c) K16 (hS3.c 0) rfl (gv_of (v := pt (aD b) 2) hg4))) ?_
 refine sgq 14 (B := (r_1 && r_2)) (v := vi (m.Cells.length : Int)) rfl rfl (uT_ 11) (fun hg5 => (Y_len (B := B) (m := m.Cells.length) (c := c) K12 rfl (gv_of (v := .slice B m.Cells.length c) hg5))) ?_
 refine sgq 15 (B := (r_1 && r_2)) (v := pt (aD b) 0) rfl rfl (uT_ 11) (fun hg6 => (yd (aD b) 0 0 K34 K0)) ?_
 refine sgq 16 (B := (r_1 && r_2)) (v := vi m.Rows) rfl rfl (uT_ 11) (fun hg7 => (yl (aD b) 0 (kM_ m B c) (vi m.Rows) K1 (hS3.c 0) rfl (gv_of (v := pt (aD b) 0) hg7))) ?_
 refine sgq 17 (B := (r_1 && r_2)) (v := pt (aD b) 1) rfl rfl (uT_ 11) (fun hg8 => (yd (aD b) 0 0 K29 K0)) ?_
 refine sgq 18 (B := (r_1 && r_2)) (v := vi m.Cols) rfl rfl (uT_ 11) (fun hg9 => (yl (aD b) 1 (kM_ m B c) (vi m.Cols) K1 (hS3.c 0) rfl (gv_of (v := pt (aD b) 1) hg9))) ?_
 refine sgq 19 (B := (r_1 && r_2)) (v := vi (i64.wrap (m.Rows * m.Cols))) rfl rfl (uT_ 11) (fun hg10 => (yX m.Rows m.Cols rfl (gv_of (v := vi m.Rows) hg10) (gv_of (v := vi m.Cols) hg10))) ?_
 refine sgq 20 (B := (r_1 && r_2)) (v := .bool ((m.Cells.length : Int) == (i64.wrap (m.Rows * m.Cols)))) rfl rfl (uT_ 11) (fun hg11 => (yE (m.Cells.length : Int) (i64.wrap (m.Rows * m.Cols)) rfl (gv_of (v := vi (m.Cells.length : Int)) hg11) (gv_of (v := vi (i64.wrap (m.Rows * m.Cols))) hg11))) ?_
 refine sQ 21 (Y_and (b := (r_1 && r_2)) (z := ((m.Cells.length : Int) == (i64.wrap (m.Rows * m.Cols)))) rfl rfl rfl rfl) <| sQ 22 (ym (.bool ((r_1 && r_2) && ((m.Cells.length : Int) == (i64.wrap (m.Rows * m.Cols)))))) ?_
 refine sgq 23 (B := ((r_1 && r_2) && ((m.Cells.length : Int) == (i64.wrap (m.Rows * m.Cols))))) (v := pt (aD b) 2) rfl rfl (uT_ 22) (fun hg12 => (yd (aD b) 0 0 K15 K13)) ?_
 refine sgq 24 (B := ((r_1 && r_2) && ((m.Cells.length : Int) == (i64.wrap (m.Rows * m.Cols))))) (v := .slice B m.Cells.length c) rfl rfl (uT_ 22) (fun hg13 => (yl (aD b) 2 (kM_ m B c) (.slice B m.Cells.length c) K16 (hS3.c 0) rfl (gv_of (v := pt (aD b) 2) hg13))) ?_
 obtain ⟨r_3, hc2, hF⟩ := bI hF
 refine sgc 25 (B := ((r_1 && r_2) && ((m.Cells.length : Int) == (i64.wrap (m.Rows * m.Cols))))) (v := .bool r_3) (F := hS3.fn) rfl rfl (uT_ 22) hS3 (fun hg14 => (yC [.slice B m.Cells.length c, .func (.func 82) #[] #[]] k_call_81 (CV.mono (c_slices_ContainsFunc_impl_Dyadic_impl_Dyadic m.Cells F_impl_IsValidMatrix_1 B c m.Cells.length 82 (#[]) [] _ rfl k_call_82 (fun w hw x_0 y_0 h_ => c_impl_IsValidMatrix_1 x_0  w  hw h_) (hS3.inn0 [(true, 0)] rfl) (gb_inv hc2 hg14)) (by rintro _ _ ⟨rfl, h⟩; exact ⟨rfl, hS3.out00 h⟩)) rfl (mc (gv_of (v := .slice B m.Cells.length c) hg14) (mc rfl mn)))) ?_
 rintro w_3 hS4
 refine sgq 26 (B := ((r_1 && r_2) && ((m.Cells.length : Int) == (i64.wrap (m.Rows * m.Cols))))) (v := .bool (!r_3)) rfl rfl (uT_ 22) (fun hg15 => (Y_not (p := r_3) rfl (gv_of (v := .bool r_3) hg15))) ?_
 refine sQ 27 (Y_and (b := ((r_1 && r_2) && ((m.Cells.length : Int) == (i64.wrap (m.Rows * m.Cols))))) (z := (!r_3)) rfl rfl rfl rfl) <| sQ 2 (yg (.bool (((r_1 && r_2) && ((m.Cells.length : Int) == (i64.wrap (m.Rows * m.Cols)))) && (!r_3)))) (rn (ct_ ?_))
 obtain rfl := sI hF
 exact ret1 Tryz.results50 (v1 := .bool (((r_1 && r_2) && ((m.Cells.length : Int) == (i64.wrap (m.Rows * m.Cols)))) && (!r_3))) (resAt_tmp rfl) ⟨rfl, (hS4.sN [])⟩

theorem c_impl_Matrix_at (m : TMatrix) (i : Int) (j : Int) (B : Option Addr) (c n : Nat) (w0 : World) (hn : m.Cells.length = n) (hS : ST w0 [] w0 [] [⟨B, (m.Cells.flatMap eN0)⟩]) {r_ : TDyadic} (hF : F_impl_Matrix_at m i j = some r_) :
  CV Tryz.prog 53 #[.agg #[vi m.Rows, vi m.Cols, .slice B n c], vi i, vi j] w0 (fun v w' => v = (gD_ r_) ∧ ST w0 [] w' [] []) := by
 subst hn
 unfold F_impl_Matrix_at at hF
 refine cv_of_cw 17 Tryz.func53 rfl Tryz.ntmps53 rfl ?_
 refine cq (cr ?_)
 refine sS 3 (yB 34 (gM_ m B c) (kM_ m B c) 3 hS) ?_
 rintro _ w_ ⟨b, rfl, hS1⟩
 refine sS 6 (yN kZ_ 5 hS1 K6) ?_
 rintro _ w_1 ⟨b1, rfl, hS2⟩
 refine rn (cq (cr ?_))
 refine sQ 7 (yd (aD b) 0 0 K15 K13) <| sQ 8 (yl (aD b) 2 (kM_ m B c) (.slice B m.Cells.length c) K16 (hS2.c 0)) <| sQ 9 (ym (vi i)) <| sQ 10 (yd (aD b) 0 0 K29 K0) <| sQ 11 (yl (aD b) 1 (kM_ m B c) (vi m.Cols) K1 (hS2.c 0)) <| sQ 12 (yX i m.Cols) ?_
 refine sQ 13 (ym (vi j)) <| sQ 14 (yP (i64.wrap (i * m.Cols)) j) ?_
 obtain ⟨x, hx, hF⟩ := bI hF
 refine sQ 15 (Y_index (B := B) (m := m.Cells.length) (c := c) (k := .i64) (i := (i64.wrap ((i64.wrap (i * m.Cols)) + j))) K12 K2 rfl rfl rfl (gi_isSome eN1 rfl (hS2.rf (i := 0) rfl) hx) (getI_nn hx) (getI_ltI hx rfl)) <| sQ 16 (ya B ((i64.wrap ((i64.wrap (i * m.Cols)) + j)).toNat * 5) (m.Cells.flatMap eN0) (kD_ x) K5 K2 (hS2.rf (i := 0) rfl) rfl rfl (eN1 x) (gi_seg eN1 hx)) ?_
 refine s0 (yT 1 5 (aD b1) 51 (gD_ x) (kD_ x) 0 hS2 K2) ?_
 rintro _ w_2 ⟨rfl, hS3⟩
 refine rn (ct_ ?_)
 obtain rfl := sI hF
 exact ret1 Tryz.results53 (v1 := gD_ x) (resAt_cellA (B := aD b1) (i := 0) (cs := kD_ x) (vs := kD_ x) rfl K5 K2 (hS3.c 1) rfl rfl) ⟨rfl, (hS3.sN [])⟩

theorem c_impl_MulRootTwo (x : TRing)  (w0 : World)  (hS : ST w0 [] w0 [] []) {r_ : TRing} {r_1 : Bool} (hF : F_impl_MulRootTwo x = some (r_, r_1)) :
  CV Tryz.prog 96 #[gR_ x] w0 (fun v w' => v = .tuple #[gR_ r_, .bool r_1] ∧ ST w0 [] w' [] []) := by
 unfold F_impl_MulRootTwo at hF
 refine cv_of_cw 30 Tryz.func96 rfl Tryz.ntmps96 rfl ?_
 refine cq (cr ?_)
 refine sS 1 (yB 49 (gR_ x) (kR_ x) 4 hS) ?_
 rintro _ w_ ⟨b, rfl, hS1⟩
 refine sS 2 (yN [vi 0, vi 0, vi 0, vi 0] 4 hS1 K14) ?_
 rintro _ w_1 ⟨b1, rfl, hS2⟩
 refine sQ 3 (yg (.bool false)) (rn (cq (cr ?_)))
 refine sQ 4 (yd (aD b) 0 0 K18 K0) <| sQ 5 (yl (aD b) 1 (kR_ x) (vi x.B) K1 (hS2.c 0)) <| sQ 6 (yd (aD b) 0 0 K20 K0) <| sQ 7 (yl (aD b) 3 (kR_ x) (vi x.D) K1 (hS2.c 0)) <| sQ 8 (yM x.B x.D) <| sQ 9 (yd (aD b) 0 0 K17 K0) ?_
 refine sQ 10 (yl (aD b) 0 (kR_ x) (vi x.A) K1 (hS2.c 0)) <| sQ 11 (yd (aD b) 0 0 K19 K0) <| sQ 12 (yl (aD b) 2 (kR_ x) (vi x.C) K1 (hS2.c 0)) <| sQ 13 (yP x.A x.C) <| sQ 14 (yd (aD b) 0 0 K18 K0) <| sQ 15 (yl (aD b) 1 (kR_ x) (vi x.B) K1 (hS2.c 0)) ?_
 refine sQ 16 (yd (aD b) 0 0 K20 K0) <| sQ 17 (yl (aD b) 3 (kR_ x) (vi x.D) K1 (hS2.c 0)) <| sQ 18 (yP x.B x.D) <| sQ 19 (yd (aD b) 0 0 K19 K0) <| sQ 20 (yl (aD b) 2 (kR_ x) (vi x.C) K1 (hS2.c 0)) <| sQ 21 (yd (aD b) 0 0 K17 K0) ?_
 refine sQ 22 (yl (aD b) 0 (kR_ x) (vi x.A) K1 (hS2.c 0)) <| sQ 23 (yM x.C x.A) <| sQ 24 (Y_buildS (zs := [vi 0, vi 0, vi 0, vi 0]) (vs := [(0, vi (i64.wrap (x.B - x.D))), (1, vi (i64.wrap (x.A + x.C))), (2, vi (i64.wrap (x.B + x.D))), (3, vi (i64.wrap (x.C - x.A)))]) (cs := [vi (i64.wrap (x.B - x.D)), vi (i64.wrap (x.A + x.C)), vi (i64.wrap (x.B + x.D)), vi (i64.wrap (x.C - x.A))]) K31 K14 rfl (mpc rfl (mpc rfl (mpc rfl (mpc rfl mpn)))) rfl) <| sQ 25 (yb (aD b) 0 (kR_ x) K7 K3 (hS2.c 0)) ?_
 refine sS 26 (Ys_bslice (s := 4) (len := 1) (vs := [(0, gR_ x)]) (cs := kR_ x) (zs := [vi 0, vi 0, vi 0, vi 0]) (m := 4) hS2 K40 K3 K63 rfl (mpc rfl mpn) rfl rfl rfl (by kernel_rfl) (by kernel_rfl) rfl) ?_
 rintro _ w_2 ⟨b2, rfl, hS3⟩
 obtain ⟨⟨r_2, r_3⟩, hc, hF⟩ := bI hF
 refine sc 27 rfl rfl (yC [.agg #[vi (i64.wrap (x.B - x.D)), vi (i64.wrap (x.A + x.C)), vi (i64.wrap (x.B + x.D)), vi (i64.wrap (x.C - x.A))], .slice (aD b2) 1 1] K80 (c_impl_ringIf (TRing.mk (i64.wrap (x.B - x.D)) (i64.wrap (x.A + x.C)) (i64.wrap (x.B + x.D)) (i64.wrap (x.C - x.A))) [x] (aD b2) 1 1 _ rfl (hS3.inn [false, false, true] rfl [] rfl) hc)) ?_
 rintro _ w_3 ⟨rfl, hd⟩
 have hS4 := hS3.out [false, false, true] rfl hd
 refine sQ 28 (ye (gR_ r_2)) <| sQ 29 (ye (.bool r_3)) ?_
 refine s0 (yT 1 4 (aD b1) 49 (gR_ r_2) (kR_ r_2) 0 hS4 K3) ?_
 rintro _ w_4 ⟨rfl, hS5⟩
 refine sQ 3 (yg (.bool r_3)) (rn (ct_ ?_))
 obtain ⟨rfl, rfl⟩ := pr2 (sI hF)
 exact ret2 Tryz.results96 (v1 := gR_ r_2) (resAt_cellA (B := aD b1) (i := 0) (cs := kR_ r_2) (vs := kR_ r_2) rfl K7 K3 (hS5.c 1) rfl rfl) (v2 := .bool r_3) (resAt_tmp rfl) ⟨rfl, (hS5.sN [])⟩

theorem c_impl_raised (x : TDyadic) (exp : Int)  (w0 : World)  (hS : ST w0 [] w0 [] []) {r_ : TRing} {r_1 : Bool} (hF : F_impl_raised x exp = some (r_, r_1)) :
  CV Tryz.prog 69 #[gD_ x, vi exp] w0 (fun v w' => v = .tuple #[gR_ r_, .bool r_1] ∧ ST w0 [] w' [] []) := by
 unfold F_impl_raised at hF
 refine cv_of_cw 28 Tryz.func69 rfl Tryz.ntmps69 rfl ?_
 refine cq (cr ?_)
 refine sS 2 (yB 51 (gD_ x) (kD_ x) 5 hS) ?_
 rintro _ w_ ⟨b, rfl, hS1⟩
 refine sS 4 (yN [vi 0, vi 0, vi 0, vi 0] 4 hS1 K14) ?_
 rintro _ w_1 ⟨b1, rfl, hS2⟩
 refine sQ 5 (yg (.bool false)) (rn (cq (cr ?_)))
 refine sQ 9 (yd (aD b) 0 3 K41 K3) <| sQ 10 (ya (aD b) 0 (kD_ x) (kR_ x.Num) K7 K3 (hS2.c 0)) ?_
 refine sS 6 (yN [vi 0, vi 0, vi 0, vi 0] 4 hS2 K14) ?_
 rintro _ w_2 ⟨b2, rfl, hS3⟩
 refine s0 (yT 2 4 (aD b2) 49 (gR_ x.Num) (kR_ x.Num) 0 hS3 K3) ?_
 rintro _ w_3 ⟨rfl, hS4⟩
 refine sQ 7 (yg (.bool true)) (rn (cq (cq (cr ?_))))
 refine sQ 11 (yd (aD b) 0 0 K33 K0) <| sQ 12 (yl (aD b) 4 (kD_ x) (vi x.Exp) K1 (hS4.c 0)) <| sQ 8 (yg (vi x.Exp)) (rn ?_)
 obtain ⟨z, hz, hF1⟩ := bI hF
 refine cw_block ?_
 refine cw_loop (fun k f w => ∃ (A : Int) (B : Int) (C : Int) (D : Int) (ok : Bool) (k_ : Int), FF f [(1, vi exp), (4, pt (aD b1) 0), (6, pt (aD b2) 0), (7, .bool ok), (8, vi k_)] ∧ ST w0 [] w [⟨aD b1, 49, [vi 0, vi 0, vi 0, vi 0], 4⟩, ⟨aD b2, 49, [vi A, vi B, vi C, vi D], 4⟩] [] ∧ whX (F_impl_raised_l1 exp) k (A, B, C, D, ok, k_) = some z) fuel ⟨x.Num.A, x.Num.B, x.Num.C, x.Num.D, true, x.Exp, (fc rfl (fc rfl (fc rfl (fc rfl (fc rfl fn_))))), (hS4.sel [1, 2] rfl rfl), hz⟩ ?_
 rintro K9 f w ⟨A, B, C, D, ok, k_, hf, hS5, hL⟩
 obtain ⟨K22, y, rfl, hb, hL1⟩ := whX_go hL
 unfold F_impl_raised_l1 at hb
 refine cq (cq (cr ?_))
 refine sQ 13 (ym (vi k_) rfl (hf.g 8 4)) <| sQ 14 (ym (vi exp) rfl (hf.g 1 0)) <| sQ 15 (yL k_ exp) <| sQ 16 (ym (.bool (decide (k_ < exp)))) ?_
 refine sgq 17 (B := (decide (k_ < exp))) (v := .bool ok) rfl rfl (uT_ 16) (fun hg => (ym (.bool ok) rfl (hf.g 7 3))) ?_
 refine sQ 18 (Y_and (b := (decide (k_ < exp))) (z := ok) rfl rfl rfl rfl) (rn ?_)
 refine cw_cond (b := ((decide (k_ < exp)) && ok)) rfl (fun hb1 => ?_) (fun hb1 => ?_)
 ·skip
  have hF2 := ct hb hb1
  refine cw_skip (cq (cw_block (cr ?_)))
  refine sQ 22 (yb (aD b2) 0 [vi A, vi B, vi C, vi D] K7 K3 (hS5.c 1) rfl (hf.g 6 2)) ?_
  obtain ⟨⟨r_2, r_3⟩, hc, hF2⟩ := bI hF2
  refine sc 23 rfl rfl (yC [.agg #[vi A, vi B, vi C, vi D]] k_call_96 (c_impl_MulRootTwo (TRing.mk A B C D) _  (hS5.inn0 [] rfl) hc)) ?_
  rintro _ w_4 ⟨rfl, hd⟩
  have hS6 := hS5.out00 hd
  refine sQ 21 (ym (.tuple #[gR_ r_2, .bool r_3])) <| sQ 24 (ye (gR_ r_2)) <| sQ 25 (ye (.bool r_3)) ?_
  refine s0 (yT 1 4 (aD b2) 49 (gR_ r_2) (kR_ r_2) 0 hS6 K3 rfl (hf.g 6 2)) ?_
  rintro _ w_5 ⟨rfl, hS7⟩
  refine sQ 7 (yg (.bool r_3)) (rn (cr ?_))
  refine sQ 19 (ym (vi k_) rfl (hf.g 8 4)) <| sQ 20 (yP k_ 1) <| sQ 8 (yg (vi (i64.wrap (k_ + 1)))) (rn ?_)
  obtain rfl := sI hF2
  exact ⟨K22, Nat.lt_succ_self _, r_2.A, r_2.B, r_2.C, r_2.D, r_3, (i64.wrap (k_ + 1)), (fc (hf.g 1 0) (fc (hf.g 4 1) (fc (hf.g 6 2) (fc rfl (fc rfl fn_))))), (hS7.sel [0, 1] rfl rfl), hL1⟩
 ·skip
  have hF3 := cf' hb hb1
  refine cw_exit rfl ?_
  obtain rfl := sI hF3
  obtain rfl := sI hL1
  refine cq (cr ?_)
  refine sQ 26 (yb (aD b2) 0 [vi A, vi B, vi C, vi D] K7 K3 (hS5.c 1) rfl (hf.g 6 2)) <| sQ 27 (ym (.bool ok) rfl (hf.g 7 3)) ?_
  refine s0 (yT 0 4 (aD b1) 49 (.agg #[vi A, vi B, vi C, vi D]) [vi A, vi B, vi C, vi D] 0 hS5 K3 rfl (hf.g 4 1)) ?_
  rintro _ w_6 ⟨rfl, hS8⟩
  refine sQ 5 (yg (.bool ok)) (rn (ct_ ?_))
  obtain ⟨rfl, rfl⟩ := pr2 (sI hF1)
  exact ret2 Tryz.results69 (v1 := .agg #[vi A, vi B, vi C, vi D]) (resAt_cellA (B := aD b1) (i := 0) (cs := [vi A, vi B, vi C, vi D]) (vs := [vi A, vi B, vi C, vi D]) (hf.g 4 1) K7 K3 (hS8.c 0) rfl rfl) (v2 := .bool ok) (resAt_tmp rfl) ⟨rfl, (hS8.sN [])⟩

theorem c_impl_combined (x : TDyadic) (y : TDyadic) (operation : TRing → TRing → Option (TRing × Bool)) (kf : Nat) (caps : Array Value) (Rf : List Ro) (w0 : World) (hk : callB Tryz.prog kf = true) (hp : ∀ (w : World), ST w [] w [] Rf → ∀ (x1 : TRing) (x2 : TRing) (y2 : TRing) (y3 : Bool), operation x1 x2 = some (y2, y3) → CV Tryz.prog kf ((gR_ x1) :: (gR_ x2) :: caps.toList).toArray w (fun v w' => v = .tuple #[gR_ y2, .bool y3] ∧ ST w [] w' [] [])) (hS : ST w0 [] w0 [] (Rf)) {r_ : TDyadic} {r_1 : Bool} (hF : F_impl_combined x y operation = some (r_, r_1)) :
  CV Tryz.prog 86 #[gD_ x, gD_ y, .func (.func kf) #[] caps] w0 (fun v w' => v = .tuple #[gD_ r_, .bool r_1] ∧ ST w0 [] w' [] []) := by
 unfold F_impl_combined at hF
 refine cv_of_cw 64 Tryz.func86 rfl Tryz.ntmps86 rfl ?_
 refine cq (cr ?_)
 refine sS 3 (yB 51 (gD_ x) (kD_ x) 5 hS) ?_
 rintro _ w_ ⟨b, rfl, hS1⟩
 refine sS 4 (yB 51 (gD_ y) (kD_ y) 5 hS1) ?_
 rintro _ w_1 ⟨b1, rfl, hS2⟩
 refine sS 6 (yN kZ_ 5 hS2 K6) ?_
 rintro _ w_2 ⟨b2, rfl, hS3⟩
 refine sQ 7 (yg (.bool false)) (rn (cq (cq (cr ?_))))
 refine sQ 15 (yb (aD b) 0 (kD_ x) K5 K2 (hS3.c 0)) ?_
 obtain ⟨r_2, hc, hF⟩ := bI hF
 refine sc 16 rfl rfl (yC [gD_ x] K70 (c_impl_IsValidDyadic x _  (hS3.inn0 [] rfl) hc)) ?_
 rintro _ w_3 ⟨rfl, hd⟩
 have hS4 := hS3.out00 hd
 refine sQ 17 (Y_not (p := r_2) rfl rfl) <| sQ 18 (ym (.bool (!r_2))) ?_
 refine sgq 19 (B := (!(!r_2))) (v := gD_ y) rfl rfl (uF_ 18) (fun hg => (yb (aD b1) 0 (kD_ y) K5 K2 (hS4.c 1))) ?_
 obtain ⟨r_3, hc1, hF⟩ := bI hF
 refine sgc 20 (B := (!(!r_2))) (v := .bool r_3) (F := hS4.fn) rfl rfl (uF_ 18) hS4 (fun hg1 => (yC [gD_ y] K70 (CV.mono (c_impl_IsValidDyadic y _  (hS4.inn0 [] rfl) (gb_inv hc1 hg1)) (by rintro _ _ ⟨rfl, h⟩; exact ⟨rfl, hS4.out00 h⟩)) rfl (mc (gv_of (v := gD_ y) hg1) mn))) ?_
 rintro w_4 hS5
 refine sgq 21 (B := (!(!r_2))) (v := .bool (!r_3)) rfl rfl (uF_ 18) (fun hg2 => (Y_not (p := r_3) rfl (gv_of (v := .bool r_3) hg2))) ?_
 refine sQ 22 (Y_or (b := (!r_2)) (z := (!r_3)) rfl rfl rfl rfl) (rn ?_)
 refine cw_cond (b := ((!r_2) || (!r_3))) rfl (fun hb => ?_) (fun hb => ?_)
 ·skip
  have hF1 := ct hF hb
  refine cq (cr ?_)
  refine sQ 23 (Y_buildS (zs := kZ_) (vs := []) (cs := kZ_) K21 K6 rfl mpn rfl) ?_
  refine s0 (yT 2 5 (aD b2) 51 gZ_ kZ_ 0 hS5 K2) ?_
  rintro _ w_5 ⟨rfl, hS6⟩
  refine sQ 7 (yg (.bool false)) (rn (ct_ ?_))
  obtain ⟨rfl, rfl⟩ := pr2 (sI hF1)
  exact ret2 Tryz.results86 (v1 := gZ_) (resAt_cellA (B := aD b2) (i := 0) (cs := kZ_) (vs := kZ_) rfl K5 K2 (hS6.c 2) rfl rfl) (v2 := .bool false) (resAt_tmp rfl) ⟨rfl, (hS6.sN [])⟩
 ·skip
  have hF2 := cf' hF hb
  refine cw_skip (cq (cr ?_))
  refine sQ 24 (yd (aD b) 0 0 K33 K0) <| sQ 25 (yl (aD b) 4 (kD_ x) (vi x.Exp) K1 (hS5.c 0)) <| sQ 26 (yd (aD b1) 0 0 K33 K0) <| sQ 27 (yl (aD b1) 4 (kD_ y) (vi y.Exp) K1 (hS5.c 1)) <| sQ 28 (Y_max2 (k := .i64) (a := x.Exp) (b := y.Exp) rfl rfl rfl) <| sQ 8 (yg (vi (if x.Exp < y.Exp then y.Exp else x.Exp))) (rn (cq (cr ?_)))
  refine sQ 30 (yb (aD b) 0 (kD_ x) K5 K2 (hS5.c 0)) <| sQ 31 (ym (vi (if x.Exp < y.Exp then y.Exp else x.Exp))) ?_
  obtain ⟨⟨r_4, r_5⟩, hc2, hF2⟩ := bI hF2
  refine sc 32 rfl rfl (yC [gD_ x, vi (if x.Exp < y.Exp then y.Exp else x.Exp)] K109 (c_impl_raised x (if x.Exp < y.Exp then y.Exp else x.Exp) _  (hS5.inn0 [] rfl) hc2)) ?_
  rintro _ w_6 ⟨rfl, hd1⟩
  have hS7 := hS5.out00 hd1
  refine sQ 29 (ym (.tuple #[gR_ r_4, .bool r_5])) <| sQ 33 (ye (gR_ r_4)) <| sQ 34 (ye (.bool r_5)) ?_
  refine sS 9 (yN [vi 0, vi 0, vi 0, vi 0] 4 hS7 K14) ?_
  rintro _ w_7 ⟨b3, rfl, hS8⟩
  refine s0 (yT 3 4 (aD b3) 49 (gR_ r_4) (kR_ r_4) 0 hS8 K3) ?_
  rintro _ w_8 ⟨rfl, hS9⟩
  refine sQ 10 (yg (.bool r_5)) (rn (cq (cr ?_)))
  refine sQ 36 (yb (aD b1) 0 (kD_ y) K5 K2 (hS9.c 1)) <| sQ 37 (ym (vi (if x.Exp < y.Exp then y.Exp else x.Exp))) ?_
  obtain ⟨⟨r_6, r_7⟩, hc3, hF2⟩ := bI hF2
  refine sc 38 rfl rfl (yC [gD_ y, vi (if x.Exp < y.Exp then y.Exp else x.Exp)] K109 (c_impl_raised y (if x.Exp < y.Exp then y.Exp else x.Exp) _  (hS9.inn0 [] rfl) hc3)) ?_
  rintro _ w_9 ⟨rfl, hd2⟩
  have hS10 := hS9.out00 hd2
  refine sQ 35 (ym (.tuple #[gR_ r_6, .bool r_7])) <| sQ 39 (ye (gR_ r_6)) <| sQ 40 (ye (.bool r_7)) ?_
  refine sS 11 (yN [vi 0, vi 0, vi 0, vi 0] 4 hS10 K14) ?_
  rintro _ w_10 ⟨b4, rfl, hS11⟩
  refine s0 (yT 4 4 (aD b4) 49 (gR_ r_6) (kR_ r_6) 0 hS11 K3) ?_
  rintro _ w_11 ⟨rfl, hS12⟩
  refine sQ 12 (yg (.bool r_7)) (rn (cq (cr ?_)))
  refine sQ 42 (ym (.func (.func kf) #[] caps)) <| sQ 43 (yb (aD b3) 0 (kR_ r_4) K7 K3 (hS12.c 3)) <| sQ 44 (yb (aD b4) 0 (kR_ r_6) K7 K3 (hS12.c 4)) ?_
  obtain ⟨⟨r_8, r_9⟩, hc4, hF2⟩ := bI hF2
  refine sc 45 rfl rfl (Yc_clos (g := kf) (vs := (gR_ r_4) :: (gR_ r_6) :: caps.toList) hk rfl rfl (clo_args (mc rfl (mc rfl mn))) (hp _ (hS12.innS (fun _ h => mOd (i := 0) h)) r_4 r_6 r_8 r_9 hc4)) ?_
  rintro _ w_12 ⟨rfl, hd3⟩
  have hS13 := hS12.out00 hd3
  refine sQ 41 (ym (.tuple #[gR_ r_8, .bool r_9])) <| sQ 46 (ye (gR_ r_8)) <| sQ 47 (ye (.bool r_9)) ?_
  refine sS 13 (yN [vi 0, vi 0, vi 0, vi 0] 4 hS13 K14) ?_
  rintro _ w_13 ⟨b5, rfl, hS14⟩
  refine s0 (yT 5 4 (aD b5) 49 (gR_ r_8) (kR_ r_8) 0 hS14 K3) ?_
  rintro _ w_14 ⟨rfl, hS15⟩
  refine sQ 14 (yg (.bool r_9)) (rn (cq (cq (cr ?_))))
  refine sQ 48 (ym (.bool r_5)) <| sQ 49 (Y_not (p := r_5) rfl rfl) <| sQ 50 (ym (.bool (!r_5))) ?_
  refine sgq 51 (B := (!(!r_5))) (v := .bool r_7) rfl rfl (uF_ 50) (fun hg3 => (ym (.bool r_7))) ?_
  refine sgq 52 (B := (!(!r_5))) (v := .bool (!r_7)) rfl rfl (uF_ 50) (fun hg4 => (Y_not (p := r_7) rfl (gv_of (v := .bool r_7) hg4))) ?_
  refine sQ 53 (Y_or (b := (!r_5)) (z := (!r_7)) rfl rfl rfl rfl) <| sQ 54 (ym (.bool ((!r_5) || (!r_7)))) ?_
  refine sgq 55 (B := (!((!r_5) || (!r_7)))) (v := .bool r_9) rfl rfl (uF_ 54) (fun hg5 => (ym (.bool r_9))) ?_
  refine sgq 56 (B := (!((!r_5) || (!r_7)))) (v := .bool (!r_9)) rfl rfl (uF_ 54) (fun hg6 => (Y_not (p := r_9) rfl (gv_of (v := .bool r_9) hg6))) ?_
  refine sQ 57 (Y_or (b := ((!r_5) || (!r_7))) (z := (!r_9)) rfl rfl rfl rfl) (rn ?_)
  refine cw_cond (b := (((!r_5) || (!r_7)) || (!r_9))) rfl (fun hb1 => ?_) (fun hb1 => ?_)
  ·skip
   have hF3 := ct hF2 hb1
   refine cq (cr ?_)
   refine sQ 58 (Y_buildS (zs := kZ_) (vs := []) (cs := kZ_) K21 K6 rfl mpn rfl) ?_
   refine s0 (yT 2 5 (aD b2) 51 gZ_ kZ_ 0 hS15 K2) ?_
   rintro _ w_15 ⟨rfl, hS16⟩
   refine sQ 7 (yg (.bool false)) (rn (ct_ ?_))
   obtain ⟨rfl, rfl⟩ := pr2 (sI hF3)
   exact ret2 Tryz.results86 (v1 := gZ_) (resAt_cellA (B := aD b2) (i := 0) (cs := kZ_) (vs := kZ_) rfl K5 K2 (hS16.c 2) rfl rfl) (v2 := .bool false) (resAt_tmp rfl) ⟨rfl, (hS16.sN [])⟩
  ·skip
   have hF4 := cf' hF2 hb1
   refine cw_skip (cq (cr ?_))
   refine sQ 59 (yb (aD b5) 0 (kR_ r_8) K7 K3 (hS15.c 5)) <| sQ 60 (ym (vi (if x.Exp < y.Exp then y.Exp else x.Exp))) ?_
   obtain ⟨⟨r_10, r_11⟩, hc5, hF4⟩ := bI hF4
   refine sc 61 rfl rfl (yC [gR_ r_8, vi (if x.Exp < y.Exp then y.Exp else x.Exp)] k_call_85 (c_impl_DyadicOf r_8 (if x.Exp < y.Exp then y.Exp else x.Exp) _  (hS15.inn0 [] rfl) hc5)) ?_
   rintro _ w_16 ⟨rfl, hd4⟩
   have hS17 := hS15.out00 hd4
   refine sQ 62 (ye (gD_ r_10)) <| sQ 63 (ye (.bool r_11)) ?_
   refine s0 (yT 2 5 (aD b2) 51 (gD_ r_10) (kD_ r_10) 0 hS17 K2) ?_
   rintro _ w_17 ⟨rfl, hS18⟩
   refine sQ 7 (yg (.bool r_11)) (rn (ct_ ?_))
   obtain ⟨rfl, rfl⟩ := pr2 (sI hF4)
   exact ret2 Tryz.results86 (v1 := gD_ r_10) (resAt_cellA (B := aD b2) (i := 0) (cs := kD_ r_10) (vs := kD_ r_10) rfl K5 K2 (hS18.c 2) rfl rfl) (v2 := .bool r_11) (resAt_tmp rfl) ⟨rfl, (hS18.sN [])⟩

theorem c_impl_AddRing (x : TRing) (y : TRing)  (w0 : World)  (hS : ST w0 [] w0 [] []) {r_ : TRing} {r_1 : Bool} (hF : F_impl_AddRing x y = some (r_, r_1)) :
  CV Tryz.prog 87 #[gR_ x, gR_ y] w0 (fun v w' => v = .tuple #[gR_ r_, .bool r_1] ∧ ST w0 [] w' [] []) := by
 unfold F_impl_AddRing at hF
 refine cv_of_cw 33 Tryz.func87 rfl Tryz.ntmps87 rfl ?_
 refine cq (cr ?_)
 refine sS 2 (yB 49 (gR_ x) (kR_ x) 4 hS) ?_
 rintro _ w_ ⟨b, rfl, hS1⟩
 refine sS 3 (yB 49 (gR_ y) (kR_ y) 4 hS1) ?_
 rintro _ w_1 ⟨b1, rfl, hS2⟩
 refine sS 4 (yN [vi 0, vi 0, vi 0, vi 0] 4 hS2 K14) ?_
 rintro _ w_2 ⟨b2, rfl, hS3⟩
 refine sQ 5 (yg (.bool false)) (rn (cq (cr ?_)))
 refine sQ 6 (yd (aD b) 0 0 K17 K0) <| sQ 7 (yl (aD b) 0 (kR_ x) (vi x.A) K1 (hS3.c 0)) <| sQ 8 (yd (aD b1) 0 0 K17 K0) <| sQ 9 (yl (aD b1) 0 (kR_ y) (vi y.A) K1 (hS3.c 1)) <| sQ 10 (yP x.A y.A) <| sQ 11 (yd (aD b) 0 0 K18 K0) ?_
 refine sQ 12 (yl (aD b) 1 (kR_ x) (vi x.B) K1 (hS3.c 0)) <| sQ 13 (yd (aD b1) 0 0 K18 K0) <| sQ 14 (yl (aD b1) 1 (kR_ y) (vi y.B) K1 (hS3.c 1)) <| sQ 15 (yP x.B y.B) <| sQ 16 (yd (aD b) 0 0 K19 K0) <| sQ 17 (yl (aD b) 2 (kR_ x) (vi x.C) K1 (hS3.c 0)) ?_
 refine sQ 18 (yd (aD b1) 0 0 K19 K0) <| sQ 19 (yl (aD b1) 2 (kR_ y) (vi y.C) K1 (hS3.c 1)) <| sQ 20 (yP x.C y.C) <| sQ 21 (yd (aD b) 0 0 K20 K0) <| sQ 22 (yl (aD b) 3 (kR_ x) (vi x.D) K1 (hS3.c 0)) <| sQ 23 (yd (aD b1) 0 0 K20 K0) ?_
 refine sQ 24 (yl (aD b1) 3 (kR_ y) (vi y.D) K1 (hS3.c 1)) <| sQ 25 (yP x.D y.D) <| sQ 26 (Y_buildS (zs := [vi 0, vi 0, vi 0, vi 0]) (vs := [(0, vi (i64.wrap (x.A + y.A))), (1, vi (i64.wrap (x.B + y.B))), (2, vi (i64.wrap (x.C + y.C))), (3, vi (i64.wrap (x.D + y.D)))]) (cs := [vi (i64.wrap (x.A + y.A)), vi (i64.wrap (x.B + y.B)), vi (i64.wrap (x.C + y.C)), vi (i64.wrap (x.D + y.D))]) K31 K14 rfl (mpc rfl (mpc rfl (mpc rfl (mpc rfl mpn)))) rfl) <| sQ 27 (yb (aD b) 0 (kR_ x) K7 K3 (hS3.c 0)) <| sQ 28 (yb (aD b1) 0 (kR_ y) K7 K3 (hS3.c 1)) ?_
 refine sS 29 (Ys_bslice (s := 4) (len := 2) (vs := [(0, gR_ x), (1, gR_ y)]) (cs := [vi x.A, vi x.B, vi x.C, vi x.D, vi y.A, vi y.B, vi y.C, vi y.D]) (zs := [vi 0, vi 0, vi 0, vi 0, vi 0, vi 0, vi 0, vi 0]) (m := 8) hS3 K40 K3 K63 rfl (mpc rfl (mpc rfl mpn)) rfl rfl rfl (by kernel_rfl) (by kernel_rfl) rfl) ?_
 rintro _ w_3 ⟨b3, rfl, hS4⟩
 obtain ⟨⟨r_2, r_3⟩, hc, hF⟩ := bI hF
 refine sc 30 rfl rfl (yC [.agg #[vi (i64.wrap (x.A + y.A)), vi (i64.wrap (x.B + y.B)), vi (i64.wrap (x.C + y.C)), vi (i64.wrap (x.D + y.D))], .slice (aD b3) 2 2] K80 (c_impl_ringIf (TRing.mk (i64.wrap (x.A + y.A)) (i64.wrap (x.B + y.B)) (i64.wrap (x.C + y.C)) (i64.wrap (x.D + y.D))) [x, y] (aD b3) 2 2 _ rfl (hS4.inn [false, false, false, true] rfl [] rfl) hc)) ?_
 rintro _ w_4 ⟨rfl, hd⟩
 have hS5 := hS4.out [false, false, false, true] rfl hd
 refine sQ 31 (ye (gR_ r_2)) <| sQ 32 (ye (.bool r_3)) ?_
 refine s0 (yT 2 4 (aD b2) 49 (gR_ r_2) (kR_ r_2) 0 hS5 K3) ?_
 rintro _ w_5 ⟨rfl, hS6⟩
 refine sQ 5 (yg (.bool r_3)) (rn (ct_ ?_))
 obtain ⟨rfl, rfl⟩ := pr2 (sI hF)
 exact ret2 Tryz.results87 (v1 := gR_ r_2) (resAt_cellA (B := aD b2) (i := 0) (cs := kR_ r_2) (vs := kR_ r_2) rfl K7 K3 (hS6.c 2) rfl rfl) (v2 := .bool r_3) (resAt_tmp rfl) ⟨rfl, (hS6.sN [])⟩

theorem c_impl_AddDyadic (x : TDyadic) (y : TDyadic)  (w0 : World)  (hS : ST w0 [] w0 [] []) {r_ : TDyadic} {r_1 : Bool} (hF : F_impl_AddDyadic x y = some (r_, r_1)) :
  CV Tryz.prog 54 #[gD_ x, gD_ y] w0 (fun v w' => v = .tuple #[gD_ r_, .bool r_1] ∧ ST w0 [] w' [] []) := by
 unfold F_impl_AddDyadic at hF
 refine cv_of_cw 11 Tryz.func54 rfl Tryz.ntmps54 rfl ?_
 refine cq (cr ?_)
 refine sS 2 (yB 51 (gD_ x) (kD_ x) 5 hS) ?_
 rintro _ w_ ⟨b, rfl, hS1⟩
 refine sS 3 (yB 51 (gD_ y) (kD_ y) 5 hS1) ?_
 rintro _ w_1 ⟨b1, rfl, hS2⟩
 refine sS 4 (yN kZ_ 5 hS2 K6) ?_
 rintro _ w_2 ⟨b2, rfl, hS3⟩
 refine sQ 5 (yg (.bool false)) (rn (cq (cr ?_)))
 refine sQ 6 (yb (aD b) 0 (kD_ x) K5 K2 (hS3.c 0)) <| sQ 7 (yb (aD b1) 0 (kD_ y) K5 K2 (hS3.c 1)) ?_
 obtain ⟨⟨r_2, r_3⟩, hc, hF⟩ := bI hF
 refine sc 8 rfl rfl (yC [gD_ x, gD_ y, .func (.func 87) #[] #[]] k_call_86 (c_impl_combined x y F_impl_AddRing 87 (#[]) [] _ k_call_87 (fun w hw x_0 x_1 y_0 y_1 h_ => c_impl_AddRing x_0 x_1  w  hw h_) (hS3.inn0 [] rfl) hc)) ?_
 rintro _ w_3 ⟨rfl, hd⟩
 have hS4 := hS3.out00 hd
 refine sQ 9 (ye (gD_ r_2)) <| sQ 10 (ye (.bool r_3)) ?_
 refine s0 (yT 2 5 (aD b2) 51 (gD_ r_2) (kD_ r_2) 0 hS4 K2) ?_
 rintro _ w_4 ⟨rfl, hS5⟩
 refine sQ 5 (yg (.bool r_3)) (rn (ct_ ?_))
 obtain ⟨rfl, rfl⟩ := pr2 (sI hF)
 exact ret2 Tryz.results54 (v1 := gD_ r_2) (resAt_cellA (B := aD b2) (i := 0) (cs := kD_ r_2) (vs := kD_ r_2) rfl K5 K2 (hS5.c 2) rfl rfl) (v2 := .bool r_3) (resAt_tmp rfl) ⟨rfl, (hS5.sN [])⟩

theorem c_impl_MulMatrix_1 (i : Int) (j : Int) (p : TMatrix) (p1 : TMatrix) (B : Option Addr) (B1 : Option Addr) (c n : Nat) (B2 : Option Addr) (B3 : Option Addr) (c1 n1 : Nat) (w0 : World) (hn : p.Cells.length = n) (hn1 : p1.Cells.length = n1) (hS : ST w0 [] w0 [] [⟨B, [vi p.Rows, vi p.Cols, .slice B1 n c]⟩, ⟨B1, (p.Cells.flatMap eN0)⟩, ⟨B2, [vi p1.Rows, vi p1.Cols, .slice B3 n1 c1]⟩, ⟨B3, (p1.Cells.flatMap eN0)⟩]) {r_ : TDyadic} {r_1 : Bool} (hF : F_impl_MulMatrix_1 i j p p1 = some (r_, r_1)) :
  CV Tryz.prog 51 #[vi i, vi j, pt B 0, pt B2 0] w0 (fun v w' => v = .tuple #[gD_ r_, .bool r_1] ∧ ST w0 [] w' [] []) := by
 subst hn
 subst hn1
 unfold F_impl_MulMatrix_1 at hF
 refine cv_of_cw 48 Tryz.func51 rfl Tryz.ntmps51 rfl ?_
 refine cq (cr ?_)
 refine sS 6 (yN kZ_ 5 hS K6) ?_
 rintro _ w_ ⟨b, rfl, hS1⟩
 refine sQ 7 (yg (.bool false)) (rn (cq (cr ?_)))
 refine sQ 14 (Y_buildS (zs := kZ_) (vs := []) (cs := kZ_) K21 K6 rfl mpn rfl) ?_
 refine sS 8 (yN kZ_ 5 hS1 K6) ?_
 rintro _ w_1 ⟨b1, rfl, hS2⟩
 refine s0 (yT 1 5 (aD b1) 51 gZ_ kZ_ 0 hS2 K2) ?_
 rintro _ w_2 ⟨rfl, hS3⟩
 refine rn (cq (cq (cr ?_)))
 refine sQ 15 (yd B 0 0 K29 K0) <| sQ 16 (yl B 1 (kM_ p B1 c) (vi p.Cols) K1 (hS3.rf (i := 0) rfl)) <| sQ 17 (ym (vi 0)) (rn ?_)
 obtain ⟨hN, hF⟩ := chk_inv hF
 obtain ⟨z, hz, hF1⟩ := bI hF
 refine cw_block ?_
 refine cw_loop (fun k f w => ∃ (i1 : Nat) (A : Int) (B4 : Int) (C : Int) (D : Int) (Exp : Int), FF f [(0, vi i), (1, vi j), (2, pt B 0), (3, pt B2 0), (6, pt (aD b) 0), (8, pt (aD b1) 0), (16, vi p.Cols), (17, vi (i1 : Int))] ∧ ST w0 [] w [⟨aD b, 51, kZ_, 5⟩, ⟨aD b1, 51, [vi A, vi B4, vi C, vi D, vi Exp], 5⟩] [⟨B, kM_ p B1 c⟩, ⟨B1, (p.Cells.flatMap eN0)⟩, ⟨B2, kM_ p1 B3 c1⟩, ⟨B3, (p1.Cells.flatMap eN0)⟩] ∧ i1 + k = p.Cols.toNat ∧ forX (F_impl_MulMatrix_1_l1 p i p1 j) k i1 (A, B4, C, D, Exp) = some z) p.Cols.toNat ⟨0, 0, 0, 0, 0, 0, (fc rfl (fc rfl (fc rfl (fc rfl (fc rfl (fc rfl (fc rfl (fc rfl fn_)))))))), (hS3.sel [0, 1] rfl rfl), Nat.zero_add _, hz⟩ ?_
 rintro k_ f w ⟨i1, A, B4, C, D, Exp, hf, hS4, hik, hL⟩
 refine cq (cr ?_)
 refine sQ 18 (yL (i1 : Int) p.Cols rfl (hf.g 17 7) (hf.g 16 6)) (rn (cq ?_))
 refine cw_cond (b := (decide ((i1 : Int) < p.Cols))) rfl (fun hlt => ?_) (fun hlt => ?_)
 ·skip
  have hlt1 : i1 < p.Cols.toNat := by have h := of_decide_eq_true hlt; omega
  obtain ⟨K9, rfl⟩ : ∃ k2, k_ = k2 + 1 := ⟨k_ - 1, by omega⟩
  obtain ⟨y, hb, hL1⟩ := forX_go hL
  unfold F_impl_MulMatrix_1_l1 at hb
  refine cw_skip (cq (cw_block (cq (cr ?_))))
  refine sQ 19 (ym (vi (i1 : Int)) rfl (hf.g 17 7)) <| sQ 9 (yg (vi (i1 : Int))) (rn (cq ?_))
  obtain ⟨r_2, hc, hb⟩ := bI hb
  obtain ⟨r_3, hc1, hb⟩ := bI hb
  obtain ⟨⟨r_4, r_5⟩, hc2, hb⟩ := bI hb
  refine cw_mid (fun f w => ∃ (B5 : Option Addr), FF f [(0, vi i), (1, vi j), (2, pt B 0), (3, pt B2 0), (6, pt (aD b) 0), (8, pt (aD b1) 0), (10, pt B5 0), (11, .bool r_5), (16, vi p.Cols), (17, vi (i1 : Int))] ∧ ST w0 [] w [⟨aD b, 51, kZ_, 5⟩, ⟨aD b1, 51, [vi A, vi B4, vi C, vi D, vi Exp], 5⟩, ⟨B5, 51, kD_ r_4, 5⟩] [⟨B, kM_ p B1 c⟩, ⟨B1, (p.Cells.flatMap eN0)⟩, ⟨B2, kM_ p1 B3 c1⟩, ⟨B3, (p1.Cells.flatMap eN0)⟩]) ?_ ?_
  ·skip
   refine ra_start (hS4.se [0, 1]).fn (by kernel_rfl) ?_
   have hS9 := hS4.drew
   refine rq 0 21 (v := gM_ p B1 c) rfl (hS9.se [0, 1]) (fun w' hw' => (yb B 0 (kM_ p B1 c) K8 K4 (ST.rf hw' (i := 0) rfl) rfl (hf.g 2 2))) ?_
   refine rq 1 22 (v := vi i) rfl (hS9.se [0, 1]) (fun w' hw' => (ym (vi i) rfl (hf.g 0 0))) ?_
   refine rq 2 23 (v := vi (i1 : Int)) rfl (hS9.se [0, 1]) (fun w' hw' => (ym (vi (i1 : Int)))) ?_
   refine rq 4 25 (v := gM_ p1 B3 c1) rfl (hS9.se [0, 1]) (fun w' hw' => (yb B2 0 (kM_ p1 B3 c1) K8 K4 (ST.rf hw' (i := 2) rfl) rfl (hf.g 3 3))) ?_
   refine rq 5 26 (v := vi (i1 : Int)) rfl (hS9.se [0, 1]) (fun w' hw' => (ym (vi (i1 : Int)))) ?_
   refine rq 6 27 (v := vi j) rfl (hS9.se [0, 1]) (fun w' hw' => (ym (vi j) rfl (hf.g 1 1))) ?_
   refine rA [3, 12] ?_
   refine rC 24 3 rfl (yC [gM_ p B1 c, vi i, vi (i1 : Int)] K81 (c_impl_Matrix_at p i (i1 : Int) B1 c p.Cells.length _ rfl (hS9.inn0 [(true, 1)] rfl) hc)) ?_ ?_
   ·rintro _ w_3 ⟨rfl, hd⟩
    have hS10 := hS9.out00 hd
    refine ⟨(hS10.se [0, 1]), ?_⟩
    refine rA [7, 12] ?_
    refine rC 28 7 rfl (yC [gM_ p1 B3 c1, vi (i1 : Int), vi j] K81 (c_impl_Matrix_at p1 (i1 : Int) j B3 c1 p1.Cells.length _ rfl (hS10.inn0 [(true, 3)] rfl) hc1)) ?_ ?_
    ·rintro _ w_4 ⟨rfl, hd1⟩
     have hS11 := hS10.out00 hd1
     refine ⟨(hS11.se [0, 1]), ?_⟩
     refine rA [8, 12] ?_
     refine rC 29 8 rfl (yC [gD_ r_2, gD_ r_3] K49 (c_impl_MulDyadic r_2 r_3 _  (hS11.inn0 [] rfl) hc2)) ?_ ?_
     ·rintro _ w_5 ⟨rfl, hd2⟩
      have hS12 := hS11.out00 hd2
      refine ⟨(hS12.se [0, 1]), ?_⟩
      refine rq 9 20 (v := .tuple #[gD_ r_4, .bool r_5]) rfl (hS12.se [0, 1]) (fun w' hw' => (ym (.tuple #[gD_ r_4, .bool r_5]))) ?_
      refine rq 10 30 (v := gD_ r_4) rfl (hS12.se [0, 1]) (fun w' hw' => (ye (gD_ r_4))) ?_
      refine rq 11 31 (v := .bool r_5) rfl (hS12.se [0, 1]) (fun w' hw' => (ye (.bool r_5))) ?_
      refine rA [12] ?_
      refine rS 10 12 rfl (yN kZ_ 5 hS12 K6) ?_ ?_
      ·rintro _ w_6 ⟨b2, rfl, hS13⟩
       refine ⟨(hS13.se [0, 1]), ?_⟩
       refine rA [13] ?_
       refine rZ 13 rfl (yT 2 5 (aD b2) 51 (gD_ r_4) (kD_ r_4) 0 hS13 K2) ?_ ?_
       ·rintro _ w_7 ⟨rfl, hS14⟩
        refine ⟨(hS14.se [0, 1]), ?_⟩
        refine rq 14 11 (v := .bool r_5) rfl (hS14.se [0, 1]) (fun w' hw' => (yg (.bool r_5))) ?_
        refine ra_done (by kernel_rfl) ?_
        exact ⟨aD b2, (fc (hf.g 0 0) (fc (hf.g 1 1) (fc (hf.g 2 2) (fc (hf.g 3 3) (fc (hf.g 6 4) (fc (hf.g 8 5) (fc rfl (fc rfl (fc (hf.g 16 6) (fc (hf.g 17 7) fn_)))))))))), (hS14.sel [0, 1, 2] rfl rfl)⟩
       exact aN
      exact aN
     refine rS 10 12 rfl (yN kZ_ 5 hS11 K6) ?_ ?_
     ·rintro _ w_8 ⟨b2, rfl, hS15⟩
      refine ⟨(hS15.se [0, 1]), ?_⟩
      refine rA [8] ?_
      refine rC 29 8 rfl (yC [gD_ r_2, gD_ r_3] K49 (c_impl_MulDyadic r_2 r_3 _  (hS15.inn0 [] rfl) hc2)) ?_ ?_
      ·rintro _ w_9 ⟨rfl, hd3⟩
       have hS16 := hS15.out00 hd3
       refine ⟨(hS16.se [0, 1]), ?_⟩
       refine rq 9 20 (v := .tuple #[gD_ r_4, .bool r_5]) rfl (hS16.se [0, 1]) (fun w' hw' => (ym (.tuple #[gD_ r_4, .bool r_5]))) ?_
       refine rq 10 30 (v := gD_ r_4) rfl (hS16.se [0, 1]) (fun w' hw' => (ye (gD_ r_4))) ?_
       refine rq 11 31 (v := .bool r_5) rfl (hS16.se [0, 1]) (fun w' hw' => (ye (.bool r_5))) ?_
       refine rA [13] ?_
       refine rZ 13 rfl (yT 2 5 (aD b2) 51 (gD_ r_4) (kD_ r_4) 0 hS16 K2) ?_ ?_
       ·rintro _ w_10 ⟨rfl, hS17⟩
        refine ⟨(hS17.se [0, 1]), ?_⟩
        refine rq 14 11 (v := .bool r_5) rfl (hS17.se [0, 1]) (fun w' hw' => (yg (.bool r_5))) ?_
        refine ra_done (by kernel_rfl) ?_
        exact ⟨aD b2, (fc (hf.g 0 0) (fc (hf.g 1 1) (fc (hf.g 2 2) (fc (hf.g 3 3) (fc (hf.g 6 4) (fc (hf.g 8 5) (fc rfl (fc rfl (fc (hf.g 16 6) (fc (hf.g 17 7) fn_)))))))))), (hS17.sel [0, 1, 2] rfl rfl)⟩
       exact aN
      exact aN
     exact aN
    refine rS 10 12 rfl (yN kZ_ 5 hS10 K6) ?_ ?_
    ·rintro _ w_11 ⟨b2, rfl, hS18⟩
     refine ⟨(hS18.se [0, 1]), ?_⟩
     refine rA [7] ?_
     refine rC 28 7 rfl (yC [gM_ p1 B3 c1, vi (i1 : Int), vi j] K81 (c_impl_Matrix_at p1 (i1 : Int) j B3 c1 p1.Cells.length _ rfl (hS18.inn0 [(true, 3)] rfl) hc1)) ?_ ?_
     ·rintro _ w_12 ⟨rfl, hd4⟩
      have hS19 := hS18.out00 hd4
      refine ⟨(hS19.se [0, 1]), ?_⟩
      refine rA [8] ?_
      refine rC 29 8 rfl (yC [gD_ r_2, gD_ r_3] K49 (c_impl_MulDyadic r_2 r_3 _  (hS19.inn0 [] rfl) hc2)) ?_ ?_
      ·rintro _ w_13 ⟨rfl, hd5⟩
       have hS20 := hS19.out00 hd5
       refine ⟨(hS20.se [0, 1]), ?_⟩
       refine rq 9 20 (v := .tuple #[gD_ r_4, .bool r_5]) rfl (hS20.se [0, 1]) (fun w' hw' => (ym (.tuple #[gD_ r_4, .bool r_5]))) ?_
       refine rq 10 30 (v := gD_ r_4) rfl (hS20.se [0, 1]) (fun w' hw' => (ye (gD_ r_4))) ?_
       refine rq 11 31 (v := .bool r_5) rfl (hS20.se [0, 1]) (fun w' hw' => (ye (.bool r_5))) ?_
       refine rA [13] ?_
       refine rZ 13 rfl (yT 2 5 (aD b2) 51 (gD_ r_4) (kD_ r_4) 0 hS20 K2) ?_ ?_
       ·rintro _ w_14 ⟨rfl, hS21⟩
        refine ⟨(hS21.se [0, 1]), ?_⟩
        refine rq 14 11 (v := .bool r_5) rfl (hS21.se [0, 1]) (fun w' hw' => (yg (.bool r_5))) ?_
        refine ra_done (by kernel_rfl) ?_
        exact ⟨aD b2, (fc (hf.g 0 0) (fc (hf.g 1 1) (fc (hf.g 2 2) (fc (hf.g 3 3) (fc (hf.g 6 4) (fc (hf.g 8 5) (fc rfl (fc rfl (fc (hf.g 16 6) (fc (hf.g 17 7) fn_)))))))))), (hS21.sel [0, 1, 2] rfl rfl)⟩
       exact aN
      exact aN
     exact aN
    exact aN
   refine rS 10 12 rfl (yN kZ_ 5 hS9 K6) ?_ ?_
   ·rintro _ w_15 ⟨b2, rfl, hS22⟩
    refine ⟨(hS22.se [0, 1]), ?_⟩
    refine rA [3] ?_
    refine rC 24 3 rfl (yC [gM_ p B1 c, vi i, vi (i1 : Int)] K81 (c_impl_Matrix_at p i (i1 : Int) B1 c p.Cells.length _ rfl (hS22.inn0 [(true, 1)] rfl) hc)) ?_ ?_
    ·rintro _ w_16 ⟨rfl, hd6⟩
     have hS23 := hS22.out00 hd6
     refine ⟨(hS23.se [0, 1]), ?_⟩
     refine rA [7] ?_
     refine rC 28 7 rfl (yC [gM_ p1 B3 c1, vi (i1 : Int), vi j] K81 (c_impl_Matrix_at p1 (i1 : Int) j B3 c1 p1.Cells.length _ rfl (hS23.inn0 [(true, 3)] rfl) hc1)) ?_ ?_
     ·rintro _ w_17 ⟨rfl, hd7⟩
      have hS24 := hS23.out00 hd7
      refine ⟨(hS24.se [0, 1]), ?_⟩
      refine rA [8] ?_
      refine rC 29 8 rfl (yC [gD_ r_2, gD_ r_3] K49 (c_impl_MulDyadic r_2 r_3 _  (hS24.inn0 [] rfl) hc2)) ?_ ?_
      ·rintro _ w_18 ⟨rfl, hd8⟩
       have hS25 := hS24.out00 hd8
       refine ⟨(hS25.se [0, 1]), ?_⟩
       refine rq 9 20 (v := .tuple #[gD_ r_4, .bool r_5]) rfl (hS25.se [0, 1]) (fun w' hw' => (ym (.tuple #[gD_ r_4, .bool r_5]))) ?_
       refine rq 10 30 (v := gD_ r_4) rfl (hS25.se [0, 1]) (fun w' hw' => (ye (gD_ r_4))) ?_
       refine rq 11 31 (v := .bool r_5) rfl (hS25.se [0, 1]) (fun w' hw' => (ye (.bool r_5))) ?_
       refine rA [13] ?_
       refine rZ 13 rfl (yT 2 5 (aD b2) 51 (gD_ r_4) (kD_ r_4) 0 hS25 K2) ?_ ?_
       ·rintro _ w_19 ⟨rfl, hS26⟩
        refine ⟨(hS26.se [0, 1]), ?_⟩
        refine rq 14 11 (v := .bool r_5) rfl (hS26.se [0, 1]) (fun w' hw' => (yg (.bool r_5))) ?_
        refine ra_done (by kernel_rfl) ?_
        exact ⟨aD b2, (fc (hf.g 0 0) (fc (hf.g 1 1) (fc (hf.g 2 2) (fc (hf.g 3 3) (fc (hf.g 6 4) (fc (hf.g 8 5) (fc rfl (fc rfl (fc (hf.g 16 6) (fc (hf.g 17 7) fn_)))))))))), (hS26.sel [0, 1, 2] rfl rfl)⟩
       exact aN
      exact aN
     exact aN
    exact aN
   exact aN
  rintro f w ⟨B5, hf1, hS8⟩
  refine cq (cr ?_)
  refine sQ 33 (yb (aD b1) 0 [vi A, vi B4, vi C, vi D, vi Exp] K5 K2 (hS8.c 1) rfl (hf1.g 8 5)) <| sQ 34 (yb B5 0 (kD_ r_4) K5 K2 (hS8.c 2) rfl (hf1.g 10 6)) ?_
  obtain ⟨⟨r_6, r_7⟩, hc3, hb⟩ := bI hb
  refine sc 35 rfl rfl (yC [.agg #[vi A, vi B4, vi C, vi D, vi Exp], gD_ r_4] k_call_54 (c_impl_AddDyadic (TDyadic.mk (TRing.mk A B4 C D) Exp) r_4 _  (hS8.inn0 [] rfl) hc3)) ?_
  rintro _ w_20 ⟨rfl, hd9⟩
  have hS27 := hS8.out00 hd9
  refine sQ 32 (ym (.tuple #[gD_ r_6, .bool r_7])) <| sQ 36 (ye (gD_ r_6)) <| sQ 37 (ye (.bool r_7)) ?_
  refine sS 12 (yN kZ_ 5 hS27 K6) ?_
  rintro _ w_21 ⟨b3, rfl, hS28⟩
  refine s0 (yT 3 5 (aD b3) 51 (gD_ r_6) (kD_ r_6) 0 hS28 K2) ?_
  rintro _ w_22 ⟨rfl, hS29⟩
  refine sQ 13 (yg (.bool r_7)) (rn (cq (cq (cr ?_))))
  refine sQ 38 (ym (.bool r_5) rfl (hf1.g 11 7)) <| sQ 39 (Y_not (p := r_5) rfl rfl) <| sQ 40 (ym (.bool (!r_5))) ?_
  refine sgq 41 (B := (!(!r_5))) (v := .bool r_7) rfl rfl (uF_ 40) (fun hg => (ym (.bool r_7))) ?_
  refine sgq 42 (B := (!(!r_5))) (v := .bool (!r_7)) rfl rfl (uF_ 40) (fun hg1 => (Y_not (p := r_7) rfl (gv_of (v := .bool r_7) hg1))) ?_
  refine sQ 43 (Y_or (b := (!r_5)) (z := (!r_7)) rfl rfl rfl rfl) (rn ?_)
  refine cw_cond (b := ((!r_5) || (!r_7))) rfl (fun hb1 => ?_) (fun hb1 => ?_)
  ·skip
   have hF2 := ct hb hb1
   refine cq (cr ?_)
   refine sQ 44 (Y_buildS (zs := kZ_) (vs := []) (cs := kZ_) K21 K6 rfl mpn rfl) ?_
   refine s0 (yT 0 5 (aD b) 51 gZ_ kZ_ 0 hS29 K2 rfl (hf1.g 6 4)) ?_
   rintro _ w_23 ⟨rfl, hS30⟩
   refine sQ 7 (yg (.bool false)) (rn (ct_ ?_))
   obtain rfl := sI hF2
   obtain rfl := sI hL1
   obtain ⟨rfl, rfl⟩ := pr2 (sI hF1)
   exact ret2 Tryz.results51 (v1 := gZ_) (resAt_cellA (B := aD b) (i := 0) (cs := kZ_) (vs := kZ_) (hf1.g 6 4) K5 K2 (hS30.c 0) rfl rfl) (v2 := .bool false) (resAt_tmp rfl) ⟨rfl, (hS30.sN [])⟩
  ·skip
   have hF3 := cf' hb hb1
   refine cw_skip (cr ?_)
   refine sQ 45 (yb (aD b3) 0 (kD_ r_6) K5 K2 (hS29.c 3)) ?_
   refine s0 (yT 1 5 (aD b1) 51 (gD_ r_6) (kD_ r_6) 0 hS29 K2 rfl (hf1.g 8 5)) ?_
   rintro _ w_24 ⟨rfl, hS31⟩
   refine rn (cr ?_)
   refine sQ 46 (yP (i1 : Int) 1 rfl (hf1.g 17 9)) <| sQ 17 (ym (vi (i64.wrap ((i1 : Int) + 1)))) (rn ?_)
   obtain rfl := sI hF3
   exact ⟨K9, Nat.lt_succ_self _, i1 + 1, r_6.Num.A, r_6.Num.B, r_6.Num.C, r_6.Num.D, r_6.Exp, (fc (hf1.g 0 0) (fc (hf1.g 1 1) (fc (hf1.g 2 2) (fc (hf1.g 3 3) (fc (hf1.g 6 4) (fc (hf1.g 8 5) (fc (hf1.g 16 8) (fc (congrArg (Value.int .i64) (wr_succ hlt1 hN)) fn_)))))))), (hS31.sel [0, 1] rfl rfl), (by omega), hL1⟩
 ·skip
  obtain rfl : k_ = 0 := by have h := of_decide_eq_false hlt; omega
  refine cw_exit rfl ?_
  obtain rfl := sI hL
  refine cq (cr ?_)
  refine sQ 47 (yb (aD b1) 0 [vi A, vi B4, vi C, vi D, vi Exp] K5 K2 (hS4.c 1) rfl (hf.g 8 5)) ?_
  refine s0 (yT 0 5 (aD b) 51 (.agg #[vi A, vi B4, vi C, vi D, vi Exp]) [vi A, vi B4, vi C, vi D, vi Exp] 0 hS4 K2 rfl (hf.g 6 4)) ?_
  rintro _ w_25 ⟨rfl, hS32⟩
  refine sQ 7 (yg (.bool true)) (rn (ct_ ?_))
  obtain ⟨rfl, rfl⟩ := pr2 (sI hF1)
  exact ret2 Tryz.results51 (v1 := .agg #[vi A, vi B4, vi C, vi D, vi Exp]) (resAt_cellA (B := aD b) (i := 0) (cs := [vi A, vi B4, vi C, vi D, vi Exp]) (vs := [vi A, vi B4, vi C, vi D, vi Exp]) (hf.g 6 4) K5 K2 (hS32.c 0) rfl rfl) (v2 := .bool true) (resAt_tmp rfl) ⟨rfl, (hS32.sN [])⟩

theorem c_impl_MulMatrix (a : TMatrix) (b : TMatrix) (B : Option Addr) (c n : Nat) (B1 : Option Addr) (c1 n1 : Nat) (w0 : World) (hn : a.Cells.length = n) (hn1 : b.Cells.length = n1) (hS : ST w0 [] w0 [] [⟨B, (a.Cells.flatMap eN0)⟩, ⟨B1, (b.Cells.flatMap eN0)⟩]) {r_ : TMatrix} {r_1 : Bool} (hF : F_impl_MulMatrix a b = some (r_, r_1)) :
  CV Tryz.prog 23 #[.agg #[vi a.Rows, vi a.Cols, .slice B n c], .agg #[vi b.Rows, vi b.Cols, .slice B1 n1 c1]] w0 (fun v w' => ∃ (B2 : Option Addr) (c2 : Nat), v = .tuple #[gM_ r_ B2 c2, .bool r_1] ∧ ST w0 [] w' [⟨B2, 51, (r_.Cells.flatMap eN0), c2 * 5⟩] []) := by
 subst hn
 subst hn1
 unfold F_impl_MulMatrix at hF
 refine cv_of_cw 30 Tryz.func23 rfl Tryz.ntmps23 rfl ?_
 refine cq (cr ?_)
 refine sS 2 (yB 34 (gM_ a B c) (kM_ a B c) 3 hS) ?_
 rintro _ w_ ⟨b1, rfl, hS1⟩
 refine sS 3 (yB 34 (gM_ b B1 c1) (kM_ b B1 c1) 3 hS1) ?_
 rintro _ w_1 ⟨b2, rfl, hS2⟩
 refine sS 4 (yN kN_ 3 hS2 K10) ?_
 rintro _ w_2 ⟨b3, rfl, hS3⟩
 refine sQ 5 (yg (.bool false)) (rn (cq (cq (cr ?_))))
 refine sQ 6 (yb (aD b1) 0 (kM_ a B c) K8 K4 (hS3.c 0)) ?_
 obtain ⟨r_2, hc, hF⟩ := bI hF
 refine sc 7 rfl rfl (yC [gM_ a B c] K91 (c_impl_IsValidMatrix a B c a.Cells.length _ rfl (hS3.inn0 [(true, 0)] rfl) hc)) ?_
 rintro _ w_3 ⟨rfl, hd⟩
 have hS4 := hS3.out00 hd
 refine sQ 8 (Y_not (p := r_2) rfl rfl) <| sQ 9 (ym (.bool (!r_2))) ?_
 refine sgq 10 (B := (!(!r_2))) (v := gM_ b B1 c1) rfl rfl (uF_ 9) (fun hg => (yb (aD b2) 0 (kM_ b B1 c1) K8 K4 (hS4.c 1))) ?_
 obtain ⟨r_3, hc1, hF⟩ := bI hF
 refine sgc 11 (B := (!(!r_2))) (v := .bool r_3) (F := hS4.fn) rfl rfl (uF_ 9) hS4 (fun hg1 => (yC [gM_ b B1 c1] K91 (CV.mono (c_impl_IsValidMatrix b B1 c1 b.Cells.length _ rfl (hS4.inn0 [(true, 1)] rfl) (gb_inv hc1 hg1)) (by rintro _ _ ⟨rfl, h⟩; exact ⟨rfl, hS4.out00 h⟩)) rfl (mc (gv_of (v := gM_ b B1 c1) hg1) mn))) ?_
 rintro w_4 hS5
 refine sgq 12 (B := (!(!r_2))) (v := .bool (!r_3)) rfl rfl (uF_ 9) (fun hg2 => (Y_not (p := r_3) rfl (gv_of (v := .bool r_3) hg2))) ?_
 refine sQ 13 (Y_or (b := (!r_2)) (z := (!r_3)) rfl rfl rfl rfl) <| sQ 14 (ym (.bool ((!r_2) || (!r_3)))) ?_
 refine sgq 15 (B := (!((!r_2) || (!r_3)))) (v := pt (aD b1) 1) rfl rfl (uF_ 14) (fun hg3 => (yd (aD b1) 0 0 K29 K0)) ?_
 refine sgq 16 (B := (!((!r_2) || (!r_3)))) (v := vi a.Cols) rfl rfl (uF_ 14) (fun hg4 => (yl (aD b1) 1 (kM_ a B c) (vi a.Cols) K1 (hS5.c 0) rfl (gv_of (v := pt (aD b1) 1) hg4))) ?_
 refine sgq 17 (B := (!((!r_2) || (!r_3)))) (v := pt (aD b2) 0) rfl rfl (uF_ 14) (fun hg5 => (yd (aD b2) 0 0 K34 K0)) ?_
 refine sgq 18 (B := (!((!r_2) || (!r_3)))) (v := vi b.Rows) rfl rfl (uF_ 14) (fun hg6 => (yl (aD b2) 0 (kM_ b B1 c1) (vi b.Rows) K1 (hS5.c 1) rfl (gv_of (v := pt (aD b2) 0) hg6))) ?_
 refine sgq 19 (B := (!((!r_2) || (!r_3)))) (v := .bool (a.Cols != b.Rows)) rfl rfl (uF_ 14) (fun hg7 => (Y_ne (k := .i64) (a := a.Cols) (b := b.Rows) rfl (gv_of (v := vi a.Cols) hg7) (gv_of (v := vi b.Rows) hg7))) ?_
 refine sQ 20 (Y_or (b := ((!r_2) || (!r_3))) (z := (a.Cols != b.Rows)) rfl rfl rfl rfl) (rn ?_)
 refine cw_cond (b := (((!r_2) || (!r_3)) || (a.Cols != b.Rows))) rfl (fun hb => ?_) (fun hb => ?_)
 ·skip
  have hF1 := ct hF hb
  refine cq (cr ?_)
  refine sQ 21 (Y_buildS (zs := kN_) (vs := []) (cs := kN_) K32 K10 rfl mpn rfl) ?_
  refine s0 (yT 2 3 (aD b3) 34 gN_ kN_ 0 hS5 K4) ?_
  rintro _ w_5 ⟨rfl, hS6⟩
  refine sQ 5 (yg (.bool false)) (rn (ct_ ?_))
  have hS7 := hS6.addNil 51
  obtain ⟨rfl, rfl⟩ := pr2 (sI hF1)
  exact ret2 Tryz.results23 (v1 := gN_) (resAt_cellA (B := aD b3) (i := 0) (cs := kN_) (vs := kN_) rfl K8 K4 (hS7.c 2) rfl rfl) (v2 := .bool false) (resAt_tmp rfl) ⟨none, 0, rfl, (hS7.sN [3])⟩
 ·skip
  have hF2 := cf' hF hb
  refine cw_skip (cq (cr ?_))
  refine sQ 22 (yd (aD b1) 0 0 K34 K0) <| sQ 23 (yl (aD b1) 0 (kM_ a B c) (vi a.Rows) K1 (hS5.c 0)) <| sQ 24 (yd (aD b2) 0 0 K29 K0) <| sQ 25 (yl (aD b2) 1 (kM_ b B1 c1) (vi b.Cols) K1 (hS5.c 1)) <| sQ 26 (Y_makeFunc (cs := [pt (aD b1) 0, pt (aD b2) 0]) rfl rfl (mc rfl (mc rfl mn))) ?_
  obtain ⟨⟨r_4, r_5⟩, hc2, hF2⟩ := bI hF2
  refine sc 27 rfl rfl (yC [vi a.Rows, vi b.Cols, .func (.func 51) #[] #[pt (aD b1) 0, pt (aD b2) 0]] K108 (c_impl_matrixOf a.Rows b.Cols (fun x_0 x_1 => F_impl_MulMatrix_1 x_0 x_1 a b) 51 (#[pt (aD b1) 0, pt (aD b2) 0]) [⟨aD b1, kM_ a B c⟩, ⟨B, (a.Cells.flatMap eN0)⟩, ⟨aD b2, kM_ b B1 c1⟩, ⟨B1, (b.Cells.flatMap eN0)⟩] _ k_call_51 (fun w hw x_0 x_1 y_0 y_1 h_ => c_impl_MulMatrix_1 x_0 x_1 a b (aD b1) B c a.Cells.length (aD b2) B1 c1 b.Cells.length w rfl rfl hw h_) (hS5.inn0 [(false, 0), (true, 0), (false, 1), (true, 1)] rfl) hc2)) ?_
  rintro _ w_6 ⟨B3, c3, rfl, hd1⟩
  have hS8 := hS5.out0 hd1
  refine sQ 28 (ye (gM_ r_4 B3 c3)) <| sQ 29 (ye (.bool r_5)) ?_
  refine s0 (yT 2 3 (aD b3) 34 (gM_ r_4 B3 c3) (kM_ r_4 B3 c3) 0 hS8 K4) ?_
  rintro _ w_7 ⟨rfl, hS9⟩
  refine sQ 5 (yg (.bool r_5)) (rn (ct_ ?_))
  obtain ⟨rfl, rfl⟩ := pr2 (sI hF2)
  exact ret2 Tryz.results23 (v1 := gM_ r_4 B3 c3) (resAt_cellA (B := aD b3) (i := 0) (cs := kM_ r_4 B3 c3) (vs := kM_ r_4 B3 c3) rfl K8 K4 (hS9.c 2) rfl rfl) (v2 := .bool r_5) (resAt_tmp rfl) ⟨B3, c3, rfl, (hS9.sN [3])⟩
end Go.VK
