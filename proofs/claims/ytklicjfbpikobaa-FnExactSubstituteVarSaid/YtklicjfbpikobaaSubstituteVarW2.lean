/- Walks: each Go function returns what its Lean function says. By program. -/
import Derived.Test.YtklicjfbpikobaaSubstituteVarFa
import Derived.Test.YtklicjfbpikobaaSubstituteVarShelf
import Derived.Test.YtklicjfbpikobaaLibT
import Derived.WalkKit
import Derived.Test.YtklicjfbpikobaaSubstituteVarW1
set_option linter.unusedVariables false
set_option maxRecDepth 100000
set_option maxHeartbeats 4000000
namespace Go.VK
open Go.RowKit
open Go.Proofs
attribute [local irreducible] CW RW RA CV Y Yw Yc Ys RetOf
attribute [local irreducible] F_laws_szTermS F_laws_szAffineS F_laws_szPathSum F_spec_l1In F_spec_l1Set F_spec_l21Valid F_spec_l21Sum_add F_spec_l21Drop F_spec_l21Sum_times F_spec_l21Replace F_spec_SubstituteVar F_laws_toTerm F_laws_toTermS F_laws_toAffine F_laws_toAffineS F_laws_toPathSum F_impl_within F_math_bits_OnesCount64 F_math_bits_OnesCount F_impl_bitsIn F_slices_IndexFunc_impl_Affine_impl_Affine F_slices_ContainsFunc_impl_Affine_impl_Affine F_impl_isAffine F_impl_IsValidPathSum_1 F_impl_IsValidPathSum F_impl_PathSum_isPathVar F_impl_polynomial_terms F_impl_polynomial_add F_impl_bitsOf F_impl_polynomial_expand F_impl_dropped F_impl_PathSum_without F_impl_PathSum_substituted F_impl_SubstituteVar F_laws_eqTerm F_laws_eqTermS F_laws_eqAffine F_laws_eqAffineS F_laws_eqPathSum F_laws_markTermS F_laws_markAffineS F_laws_markPathSum F_laws_heldTermS F_laws_heldAffineS F_laws_heldPathSum F_laws_FnExactSubstituteVar
theorem c_spec_SubstituteVar (p : TPathSum) (v_ : Int) (by_ : TAffine) (B : Option Addr) (c n : Nat) (B1 : Option Addr) (c1 n1 : Nat) (w0 : World) (hn : p.Terms.length = n) (hn1 : p.Out.length = n1) (hS : ST w0 [] w0 [] [⟨B, (p.Terms.flatMap enc_Term)⟩, ⟨B1, (p.Out.flatMap enc_Affine)⟩]) {r_ : TPathSum} {r_1 : Bool} (hF : F_spec_SubstituteVar p v_ by_ = some (r_, r_1)) :
    CV Try.prog 21 #[.agg #[.int .i64 p.Ins, .int .i64 p.Vars, .int .i64 p.Root, .int .i64 p.Phase, .slice B n c, .slice B1 n1 c1], .int .i64 v_, .agg #[.int .i64 by_.Mask, .int .i64 by_.Turn]] w0 (fun v w' => ∃ (B2 : Option Addr) (c2 : Nat) (B3 : Option Addr) (c3 : Nat), v = .tuple #[.agg #[.int .i64 r_.Ins, .int .i64 r_.Vars, .int .i64 r_.Root, .int .i64 r_.Phase, .slice B2 r_.Terms.length c2, .slice B3 r_.Out.length c3], .bool r_1] ∧ ST w0 [] w' [⟨B2, 136, (r_.Terms.flatMap enc_Term), c2 * 2⟩, ⟨B3, 61, (r_.Out.flatMap enc_Affine), c3 * 2⟩] []) := by
  subst hn
  subst hn1
  unfold F_spec_SubstituteVar at hF
  refine cv_of_cw 58 Try.func21 rfl Try.ntmps21 rfl ?_
  refine cw_seq ?_
  refine cw_region ?_
  refine ss 3 rfl rfl (Ys_box (T := 57) (v := .agg #[.int .i64 p.Ins, .int .i64 p.Vars, .int .i64 p.Root, .int .i64 p.Phase, .slice B p.Terms.length c, .slice B1 p.Out.length c1]) (cs := [.int .i64 p.Ins, .int .i64 p.Vars, .int .i64 p.Root, .int .i64 p.Phase, .slice B p.Terms.length c, .slice B1 p.Out.length c1]) (m := 6) hS rfl rfl rfl rfl) ?_
  rintro _ w_ ⟨b, rfl, hS1⟩
  refine ss 5 rfl rfl (Ys_box (T := 61) (v := .agg #[.int .i64 by_.Mask, .int .i64 by_.Turn]) (cs := [.int .i64 by_.Mask, .int .i64 by_.Turn]) (m := 2) hS1 rfl rfl rfl rfl) ?_
  rintro _ w_1 ⟨b1, rfl, hS2⟩
  have hS2 : ST w0 [] _ [⟨some ⟨b, 0, none⟩, 57, [.int .i64 p.Ins, .int .i64 p.Vars, .int .i64 p.Root, .int .i64 p.Phase, .slice B p.Terms.length c, .slice B1 p.Out.length c1], 6⟩, ⟨some ⟨b1, 0, none⟩, 61, [.int .i64 by_.Mask, .int .i64 by_.Turn], 2⟩] [⟨B, (p.Terms.flatMap enc_Term)⟩, ⟨B1, (p.Out.flatMap enc_Affine)⟩] := hS2
  refine ss 6 rfl rfl (Ys_alloc (T := 57) (cs := [.int .i64 0, .int .i64 0, .int .i64 0, .int .i64 0, .slice none 0 0, .slice none 0 0]) (m := 6) hS2 k_zero_57 rfl rfl rfl) ?_
  rintro _ w_2 ⟨b2, rfl, hS3⟩
  have hS3 : ST w0 [] _ [⟨some ⟨b, 0, none⟩, 57, [.int .i64 p.Ins, .int .i64 p.Vars, .int .i64 p.Root, .int .i64 p.Phase, .slice B p.Terms.length c, .slice B1 p.Out.length c1], 6⟩, ⟨some ⟨b1, 0, none⟩, 61, [.int .i64 by_.Mask, .int .i64 by_.Turn], 2⟩, ⟨some ⟨b2, 0, none⟩, 57, [.int .i64 0, .int .i64 0, .int .i64 0, .int .i64 0, .slice none 0 0, .slice none 0 0], 6⟩] [⟨B, (p.Terms.flatMap enc_Term)⟩, ⟨B1, (p.Out.flatMap enc_Affine)⟩] := hS3
  refine sq 7 rfl rfl (Y_assign (v := .bool false) rfl rfl) ?_
  refine rw_nil ?_
  refine cw_seq ?_
  refine cw_seq ?_
  refine cw_region ?_
  refine sq 8 rfl rfl (Y_loadA (B := some ⟨b, 0, none⟩) (i := 0) (cs := [.int .i64 p.Ins, .int .i64 p.Vars, .int .i64 p.Root, .int .i64 p.Phase, .slice B p.Terms.length c, .slice B1 p.Out.length c1]) (vs := [.int .i64 p.Ins, .int .i64 p.Vars, .int .i64 p.Root, .int .i64 p.Phase, .slice B p.Terms.length c, .slice B1 p.Out.length c1]) k_ag_57 k_sz_57_6 rfl rfl (hS3.cf (i := 0) rfl) rfl rfl) ?_
  obtain ⟨r_2, hc, hF⟩ := bind_inv hF
  refine sc 9 rfl rfl (Yc_func (g := 49) (vs := [.agg #[.int .i64 p.Ins, .int .i64 p.Vars, .int .i64 p.Root, .int .i64 p.Phase, .slice B p.Terms.length c, .slice B1 p.Out.length c1]]) k_call_49 rfl (mc rfl mn) (c_spec_l21Valid p B c p.Terms.length B1 c1 p.Out.length _ rfl rfl (hS3.inn0 [(true, 0), (true, 1)] rfl) hc)) ?_
  rintro _ w_3 ⟨rfl, hd⟩
  have hS4 := hS3.out00 hd
  have hS4 : ST w0 [] _ [⟨some ⟨b, 0, none⟩, 57, [.int .i64 p.Ins, .int .i64 p.Vars, .int .i64 p.Root, .int .i64 p.Phase, .slice B p.Terms.length c, .slice B1 p.Out.length c1], 6⟩, ⟨some ⟨b1, 0, none⟩, 61, [.int .i64 by_.Mask, .int .i64 by_.Turn], 2⟩, ⟨some ⟨b2, 0, none⟩, 57, [.int .i64 0, .int .i64 0, .int .i64 0, .int .i64 0, .slice none 0 0, .slice none 0 0], 6⟩] [⟨B, (p.Terms.flatMap enc_Term)⟩, ⟨B1, (p.Out.flatMap enc_Affine)⟩] := hS4
  refine sq 10 rfl rfl (Y_not (p := r_2) rfl rfl) ?_
  refine sq 11 rfl rfl (Y_move (v := .bool (!r_2)) rfl rfl) ?_
  refine sgq 12 (B := (!(!r_2))) (v := .int .i64 v_) rfl rfl (wt_f (gd_of (t := 11) (by kernel_rfl) rfl)) (fun hg => (Y_move (v := .int .i64 v_) rfl rfl)) ?_
  refine sgq 13 (B := (!(!r_2))) (v := pt (some ⟨b, 0, none⟩) 0) rfl rfl (wt_f (gd_of (t := 11) (by kernel_rfl) rfl)) (fun hg1 => (Y_fieldAddr (B := some ⟨b, 0, none⟩) (i := 0) (s := 0) k_fd_57_0_0_3 k_sz_3_1 rfl rfl)) ?_
  refine sgq 14 (B := (!(!r_2))) (v := .int .i64 p.Ins) rfl rfl (wt_f (gd_of (t := 11) (by kernel_rfl) rfl)) (fun hg2 => (Y_load1 (B := some ⟨b, 0, none⟩) (i := 0) (cs := [.int .i64 p.Ins, .int .i64 p.Vars, .int .i64 p.Root, .int .i64 p.Phase, .slice B p.Terms.length c, .slice B1 p.Out.length c1]) (v := .int .i64 p.Ins) k_sc_3 rfl (gv_of (B := (!(!r_2))) (v := pt (some ⟨b, 0, none⟩) 0) hg2) (hS4.cf (i := 0) rfl) rfl)) ?_
  refine sgq 15 (B := (!(!r_2))) (v := pt (some ⟨b, 0, none⟩) 0) rfl rfl (wt_f (gd_of (t := 11) (by kernel_rfl) rfl)) (fun hg3 => (Y_fieldAddr (B := some ⟨b, 0, none⟩) (i := 0) (s := 0) k_fd_57_0_0_3 k_sz_3_1 rfl rfl)) ?_
  refine sgq 16 (B := (!(!r_2))) (v := .int .i64 p.Ins) rfl rfl (wt_f (gd_of (t := 11) (by kernel_rfl) rfl)) (fun hg4 => (Y_load1 (B := some ⟨b, 0, none⟩) (i := 0) (cs := [.int .i64 p.Ins, .int .i64 p.Vars, .int .i64 p.Root, .int .i64 p.Phase, .slice B p.Terms.length c, .slice B1 p.Out.length c1]) (v := .int .i64 p.Ins) k_sc_3 rfl (gv_of (B := (!(!r_2))) (v := pt (some ⟨b, 0, none⟩) 0) hg4) (hS4.cf (i := 0) rfl) rfl)) ?_
  refine sgq 17 (B := (!(!r_2))) (v := pt (some ⟨b, 0, none⟩) 1) rfl rfl (wt_f (gd_of (t := 11) (by kernel_rfl) rfl)) (fun hg5 => (Y_fieldAddr (B := some ⟨b, 0, none⟩) (i := 0) (s := 0) k_fd_57_1_1_3 k_sz_3_1 rfl rfl)) ?_
  refine sgq 18 (B := (!(!r_2))) (v := .int .i64 p.Vars) rfl rfl (wt_f (gd_of (t := 11) (by kernel_rfl) rfl)) (fun hg6 => (Y_load1 (B := some ⟨b, 0, none⟩) (i := 1) (cs := [.int .i64 p.Ins, .int .i64 p.Vars, .int .i64 p.Root, .int .i64 p.Phase, .slice B p.Terms.length c, .slice B1 p.Out.length c1]) (v := .int .i64 p.Vars) k_sc_3 rfl (gv_of (B := (!(!r_2))) (v := pt (some ⟨b, 0, none⟩) 1) hg6) (hS4.cf (i := 0) rfl) rfl)) ?_
  refine sgq 19 (B := (!(!r_2))) (v := .int .i64 (IntKind.i64.wrap (p.Ins + p.Vars))) rfl rfl (wt_f (gd_of (t := 11) (by kernel_rfl) rfl)) (fun hg7 => (Y_add (k := .i64) (a := p.Ins) (b := p.Vars) rfl (gv_of (B := (!(!r_2))) (v := .int .i64 p.Ins) hg7) (gv_of (B := (!(!r_2))) (v := .int .i64 p.Vars) hg7))) ?_
  refine sgq 20 (B := (!(!r_2))) (v := .int .i64 (IntKind.i64.wrap ((IntKind.i64.wrap (p.Ins + p.Vars)) - 1))) rfl rfl (wt_f (gd_of (t := 11) (by kernel_rfl) rfl)) (fun hg8 => (Y_sub (k := .i64) (a := (IntKind.i64.wrap (p.Ins + p.Vars))) (b := 1) rfl (gv_of (B := (!(!r_2))) (v := .int .i64 (IntKind.i64.wrap (p.Ins + p.Vars))) hg8) rfl)) ?_
  obtain ⟨r_3, hc1, hF⟩ := bind_inv hF
  refine sgc 21 (B := (!(!r_2))) (v := .bool r_3) (F := hS4.fn) rfl rfl (wt_f (gd_of (t := 11) (by kernel_rfl) rfl)) hS4 (fun hg9 => (Yc_func (g := 50) (vs := [.int .i64 v_, .int .i64 p.Ins, .int .i64 (IntKind.i64.wrap ((IntKind.i64.wrap (p.Ins + p.Vars)) - 1))]) k_call_50 rfl (mc (gv_of (B := (!(!r_2))) (v := .int .i64 v_) hg9) (mc (gv_of (B := (!(!r_2))) (v := .int .i64 p.Ins) hg9) (mc (gv_of (B := (!(!r_2))) (v := .int .i64 (IntKind.i64.wrap ((IntKind.i64.wrap (p.Ins + p.Vars)) - 1))) hg9) mn))) (CV.mono (c_spec_l1In v_ p.Ins (IntKind.i64.wrap ((IntKind.i64.wrap (p.Ins + p.Vars)) - 1)) _  (hS4.inn0 [] rfl) (gb_inv hc1 hg9)) (by rintro _ _ ⟨rfl, h⟩; exact ⟨rfl, hS4.out00 h⟩)))) ?_
  rintro w_4 hS5
  have hS5 : ST _ _ w_4 _ _ := hS5
  refine sgq 22 (B := (!(!r_2))) (v := .bool (!r_3)) rfl rfl (wt_f (gd_of (t := 11) (by kernel_rfl) rfl)) (fun hg10 => (Y_not (p := r_3) rfl (gv_of (B := (!(!r_2))) (v := .bool r_3) hg10))) ?_
  refine sq 23 rfl rfl (Y_or (b := (!r_2)) (z := (!r_3)) rfl rfl rfl rfl) ?_
  refine sq 24 rfl rfl (Y_move (v := .bool ((!r_2) || (!r_3))) rfl rfl) ?_
  refine sgq 25 (B := (!((!r_2) || (!r_3)))) (v := pt (some ⟨b1, 0, none⟩) 0) rfl rfl (wt_f (gd_of (t := 24) (by kernel_rfl) rfl)) (fun hg11 => (Y_fieldAddr (B := some ⟨b1, 0, none⟩) (i := 0) (s := 0) k_fd_61_0_0_3 k_sz_3_1 rfl rfl)) ?_
  refine sgq 26 (B := (!((!r_2) || (!r_3)))) (v := .int .i64 by_.Mask) rfl rfl (wt_f (gd_of (t := 24) (by kernel_rfl) rfl)) (fun hg12 => (Y_load1 (B := some ⟨b1, 0, none⟩) (i := 0) (cs := [.int .i64 by_.Mask, .int .i64 by_.Turn]) (v := .int .i64 by_.Mask) k_sc_3 rfl (gv_of (B := (!((!r_2) || (!r_3)))) (v := pt (some ⟨b1, 0, none⟩) 0) hg12) (hS5.cf (i := 1) rfl) rfl)) ?_
  refine sgq 27 (B := (!((!r_2) || (!r_3)))) (v := pt (some ⟨b, 0, none⟩) 0) rfl rfl (wt_f (gd_of (t := 24) (by kernel_rfl) rfl)) (fun hg13 => (Y_fieldAddr (B := some ⟨b, 0, none⟩) (i := 0) (s := 0) k_fd_57_0_0_3 k_sz_3_1 rfl rfl)) ?_
  refine sgq 28 (B := (!((!r_2) || (!r_3)))) (v := .int .i64 p.Ins) rfl rfl (wt_f (gd_of (t := 24) (by kernel_rfl) rfl)) (fun hg14 => (Y_load1 (B := some ⟨b, 0, none⟩) (i := 0) (cs := [.int .i64 p.Ins, .int .i64 p.Vars, .int .i64 p.Root, .int .i64 p.Phase, .slice B p.Terms.length c, .slice B1 p.Out.length c1]) (v := .int .i64 p.Ins) k_sc_3 rfl (gv_of (B := (!((!r_2) || (!r_3)))) (v := pt (some ⟨b, 0, none⟩) 0) hg14) (hS5.cf (i := 0) rfl) rfl)) ?_
  refine sgq 29 (B := (!((!r_2) || (!r_3)))) (v := pt (some ⟨b, 0, none⟩) 1) rfl rfl (wt_f (gd_of (t := 24) (by kernel_rfl) rfl)) (fun hg15 => (Y_fieldAddr (B := some ⟨b, 0, none⟩) (i := 0) (s := 0) k_fd_57_1_1_3 k_sz_3_1 rfl rfl)) ?_
  refine sgq 30 (B := (!((!r_2) || (!r_3)))) (v := .int .i64 p.Vars) rfl rfl (wt_f (gd_of (t := 24) (by kernel_rfl) rfl)) (fun hg16 => (Y_load1 (B := some ⟨b, 0, none⟩) (i := 1) (cs := [.int .i64 p.Ins, .int .i64 p.Vars, .int .i64 p.Root, .int .i64 p.Phase, .slice B p.Terms.length c, .slice B1 p.Out.length c1]) (v := .int .i64 p.Vars) k_sc_3 rfl (gv_of (B := (!((!r_2) || (!r_3)))) (v := pt (some ⟨b, 0, none⟩) 1) hg16) (hS5.cf (i := 0) rfl) rfl)) ?_
  refine sgq 31 (B := (!((!r_2) || (!r_3)))) (v := .int .i64 (IntKind.i64.wrap (p.Ins + p.Vars))) rfl rfl (wt_f (gd_of (t := 24) (by kernel_rfl) rfl)) (fun hg17 => (Y_add (k := .i64) (a := p.Ins) (b := p.Vars) rfl (gv_of (B := (!((!r_2) || (!r_3)))) (v := .int .i64 p.Ins) hg17) (gv_of (B := (!((!r_2) || (!r_3)))) (v := .int .i64 p.Vars) hg17))) ?_
  refine sgq 32 (B := (!((!r_2) || (!r_3)))) (v := .int .u64 (IntKind.u64.wrap (IntKind.i64.wrap (p.Ins + p.Vars)))) rfl rfl (wt_f (gd_of (t := 24) (by kernel_rfl) rfl)) (fun hg18 => (Y_conv (k := .i64) (a := (IntKind.i64.wrap (p.Ins + p.Vars))) (T := 3) (T' := 92) k_us_3 k_int_92_u64 rfl (gv_of (B := (!((!r_2) || (!r_3)))) (v := .int .i64 (IntKind.i64.wrap (p.Ins + p.Vars))) hg18))) ?_
  obtain ⟨hsh, hF⟩ := chk_inv hF
  refine sgq 33 (B := (!((!r_2) || (!r_3)))) (v := .int .i64 (shlK .i64 1 (IntKind.u64.wrap (IntKind.i64.wrap (p.Ins + p.Vars))))) rfl rfl (wt_f (gd_of (t := 24) (by kernel_rfl) rfl)) (fun hg19 => (Y_shl (k := .i64) (a := 1) (k' := .u64) (b := (IntKind.u64.wrap (IntKind.i64.wrap (p.Ins + p.Vars)))) rfl rfl (gv_of (B := (!((!r_2) || (!r_3)))) (v := .int .u64 (IntKind.u64.wrap (IntKind.i64.wrap (p.Ins + p.Vars)))) hg19) (hsh hg19))) ?_
  refine sgq 34 (B := (!((!r_2) || (!r_3)))) (v := .int .i64 (IntKind.i64.wrap ((shlK .i64 1 (IntKind.u64.wrap (IntKind.i64.wrap (p.Ins + p.Vars)))) - 1))) rfl rfl (wt_f (gd_of (t := 24) (by kernel_rfl) rfl)) (fun hg20 => (Y_sub (k := .i64) (a := (shlK .i64 1 (IntKind.u64.wrap (IntKind.i64.wrap (p.Ins + p.Vars))))) (b := 1) rfl (gv_of (B := (!((!r_2) || (!r_3)))) (v := .int .i64 (shlK .i64 1 (IntKind.u64.wrap (IntKind.i64.wrap (p.Ins + p.Vars))))) hg20) rfl)) ?_
  obtain ⟨r_4, hc2, hF⟩ := bind_inv hF
  refine sgc 35 (B := (!((!r_2) || (!r_3)))) (v := .bool r_4) (F := hS5.fn) rfl rfl (wt_f (gd_of (t := 24) (by kernel_rfl) rfl)) hS5 (fun hg21 => (Yc_func (g := 50) (vs := [.int .i64 by_.Mask, .int .i64 0, .int .i64 (IntKind.i64.wrap ((shlK .i64 1 (IntKind.u64.wrap (IntKind.i64.wrap (p.Ins + p.Vars)))) - 1))]) k_call_50 rfl (mc (gv_of (B := (!((!r_2) || (!r_3)))) (v := .int .i64 by_.Mask) hg21) (mc rfl (mc (gv_of (B := (!((!r_2) || (!r_3)))) (v := .int .i64 (IntKind.i64.wrap ((shlK .i64 1 (IntKind.u64.wrap (IntKind.i64.wrap (p.Ins + p.Vars)))) - 1))) hg21) mn))) (CV.mono (c_spec_l1In by_.Mask 0 (IntKind.i64.wrap ((shlK .i64 1 (IntKind.u64.wrap (IntKind.i64.wrap (p.Ins + p.Vars)))) - 1)) _  (hS5.inn0 [] rfl) (gb_inv hc2 hg21)) (by rintro _ _ ⟨rfl, h⟩; exact ⟨rfl, hS5.out00 h⟩)))) ?_
  rintro w_5 hS6
  have hS6 : ST _ _ w_5 _ _ := hS6
  refine sgq 36 (B := (!((!r_2) || (!r_3)))) (v := .bool (!r_4)) rfl rfl (wt_f (gd_of (t := 24) (by kernel_rfl) rfl)) (fun hg22 => (Y_not (p := r_4) rfl (gv_of (B := (!((!r_2) || (!r_3)))) (v := .bool r_4) hg22))) ?_
  refine sq 37 rfl rfl (Y_or (b := ((!r_2) || (!r_3))) (z := (!r_4)) rfl rfl rfl rfl) ?_
  refine sq 38 rfl rfl (Y_move (v := .bool (((!r_2) || (!r_3)) || (!r_4))) rfl rfl) ?_
  refine sgq 39 (B := (!(((!r_2) || (!r_3)) || (!r_4)))) (v := pt (some ⟨b1, 0, none⟩) 1) rfl rfl (wt_f (gd_of (t := 38) (by kernel_rfl) rfl)) (fun hg23 => (Y_fieldAddr (B := some ⟨b1, 0, none⟩) (i := 0) (s := 0) k_fd_61_1_1_3 k_sz_3_1 rfl rfl)) ?_
  refine sgq 40 (B := (!(((!r_2) || (!r_3)) || (!r_4)))) (v := .int .i64 by_.Turn) rfl rfl (wt_f (gd_of (t := 38) (by kernel_rfl) rfl)) (fun hg24 => (Y_load1 (B := some ⟨b1, 0, none⟩) (i := 1) (cs := [.int .i64 by_.Mask, .int .i64 by_.Turn]) (v := .int .i64 by_.Turn) k_sc_3 rfl (gv_of (B := (!(((!r_2) || (!r_3)) || (!r_4)))) (v := pt (some ⟨b1, 0, none⟩) 1) hg24) (hS6.cf (i := 1) rfl) rfl)) ?_
  obtain ⟨r_5, hc3, hF⟩ := bind_inv hF
  refine sgc 41 (B := (!(((!r_2) || (!r_3)) || (!r_4)))) (v := .bool r_5) (F := hS6.fn) rfl rfl (wt_f (gd_of (t := 38) (by kernel_rfl) rfl)) hS6 (fun hg25 => (Yc_func (g := 50) (vs := [.int .i64 by_.Turn, .int .i64 0, .int .i64 1]) k_call_50 rfl (mc (gv_of (B := (!(((!r_2) || (!r_3)) || (!r_4)))) (v := .int .i64 by_.Turn) hg25) (mc rfl (mc rfl mn))) (CV.mono (c_spec_l1In by_.Turn 0 1 _  (hS6.inn0 [] rfl) (gb_inv hc3 hg25)) (by rintro _ _ ⟨rfl, h⟩; exact ⟨rfl, hS6.out00 h⟩)))) ?_
  rintro w_6 hS7
  have hS7 : ST _ _ w_6 _ _ := hS7
  refine sgq 42 (B := (!(((!r_2) || (!r_3)) || (!r_4)))) (v := .bool (!r_5)) rfl rfl (wt_f (gd_of (t := 38) (by kernel_rfl) rfl)) (fun hg26 => (Y_not (p := r_5) rfl (gv_of (B := (!(((!r_2) || (!r_3)) || (!r_4)))) (v := .bool r_5) hg26))) ?_
  refine sq 43 rfl rfl (Y_or (b := (((!r_2) || (!r_3)) || (!r_4))) (z := (!r_5)) rfl rfl rfl rfl) ?_
  refine sq 44 rfl rfl (Y_move (v := .bool ((((!r_2) || (!r_3)) || (!r_4)) || (!r_5))) rfl rfl) ?_
  refine sgq 45 (B := (!((((!r_2) || (!r_3)) || (!r_4)) || (!r_5)))) (v := pt (some ⟨b1, 0, none⟩) 0) rfl rfl (wt_f (gd_of (t := 44) (by kernel_rfl) rfl)) (fun hg27 => (Y_fieldAddr (B := some ⟨b1, 0, none⟩) (i := 0) (s := 0) k_fd_61_0_0_3 k_sz_3_1 rfl rfl)) ?_
  refine sgq 46 (B := (!((((!r_2) || (!r_3)) || (!r_4)) || (!r_5)))) (v := .int .i64 by_.Mask) rfl rfl (wt_f (gd_of (t := 44) (by kernel_rfl) rfl)) (fun hg28 => (Y_load1 (B := some ⟨b1, 0, none⟩) (i := 0) (cs := [.int .i64 by_.Mask, .int .i64 by_.Turn]) (v := .int .i64 by_.Mask) k_sc_3 rfl (gv_of (B := (!((((!r_2) || (!r_3)) || (!r_4)) || (!r_5)))) (v := pt (some ⟨b1, 0, none⟩) 0) hg28) (hS7.cf (i := 1) rfl) rfl)) ?_
  refine sgq 47 (B := (!((((!r_2) || (!r_3)) || (!r_4)) || (!r_5)))) (v := .int .i64 v_) rfl rfl (wt_f (gd_of (t := 44) (by kernel_rfl) rfl)) (fun hg29 => (Y_move (v := .int .i64 v_) rfl rfl)) ?_
  refine sgq 48 (B := (!((((!r_2) || (!r_3)) || (!r_4)) || (!r_5)))) (v := .int .u64 (IntKind.u64.wrap v_)) rfl rfl (wt_f (gd_of (t := 44) (by kernel_rfl) rfl)) (fun hg30 => (Y_conv (k := .i64) (a := v_) (T := 3) (T' := 92) k_us_3 k_int_92_u64 rfl (gv_of (B := (!((((!r_2) || (!r_3)) || (!r_4)) || (!r_5)))) (v := .int .i64 v_) hg30))) ?_
  obtain ⟨hsh1, hF⟩ := chk_inv hF
  refine sgq 49 (B := (!((((!r_2) || (!r_3)) || (!r_4)) || (!r_5)))) (v := .int .i64 (shrK .i64 by_.Mask (IntKind.u64.wrap v_))) rfl rfl (wt_f (gd_of (t := 44) (by kernel_rfl) rfl)) (fun hg31 => (Y_shr (k := .i64) (a := by_.Mask) (k' := .u64) (b := (IntKind.u64.wrap v_)) rfl (gv_of (B := (!((((!r_2) || (!r_3)) || (!r_4)) || (!r_5)))) (v := .int .i64 by_.Mask) hg31) (gv_of (B := (!((((!r_2) || (!r_3)) || (!r_4)) || (!r_5)))) (v := .int .u64 (IntKind.u64.wrap v_)) hg31) (hsh1 hg31))) ?_
  refine sgq 50 (B := (!((((!r_2) || (!r_3)) || (!r_4)) || (!r_5)))) (v := .int .i64 (bits .and .i64 (shrK .i64 by_.Mask (IntKind.u64.wrap v_)) 1)) rfl rfl (wt_f (gd_of (t := 44) (by kernel_rfl) rfl)) (fun hg32 => (Y_band (k := .i64) (a := (shrK .i64 by_.Mask (IntKind.u64.wrap v_))) (b := 1) rfl (gv_of (B := (!((((!r_2) || (!r_3)) || (!r_4)) || (!r_5)))) (v := .int .i64 (shrK .i64 by_.Mask (IntKind.u64.wrap v_))) hg32) rfl)) ?_
  refine sgq 51 (B := (!((((!r_2) || (!r_3)) || (!r_4)) || (!r_5)))) (v := .bool ((bits .and .i64 (shrK .i64 by_.Mask (IntKind.u64.wrap v_)) 1) == 1)) rfl rfl (wt_f (gd_of (t := 44) (by kernel_rfl) rfl)) (fun hg33 => (Y_eq (k := .i64) (a := (bits .and .i64 (shrK .i64 by_.Mask (IntKind.u64.wrap v_)) 1)) (b := 1) rfl (gv_of (B := (!((((!r_2) || (!r_3)) || (!r_4)) || (!r_5)))) (v := .int .i64 (bits .and .i64 (shrK .i64 by_.Mask (IntKind.u64.wrap v_)) 1)) hg33) rfl)) ?_
  refine sq 52 rfl rfl (Y_or (b := ((((!r_2) || (!r_3)) || (!r_4)) || (!r_5))) (z := ((bits .and .i64 (shrK .i64 by_.Mask (IntKind.u64.wrap v_)) 1) == 1)) rfl rfl rfl rfl) ?_
  refine rw_nil ?_
  refine cw_cond (b := (((((!r_2) || (!r_3)) || (!r_4)) || (!r_5)) || ((bits .and .i64 (shrK .i64 by_.Mask (IntKind.u64.wrap v_)) 1) == 1))) rfl (fun hb => ?_) (fun hb => ?_)
  · skip
    have hF1 := ct hF hb
    refine cw_seq ?_
    refine cw_region ?_
    refine sq 53 rfl rfl (Y_buildS (zs := [.int .i64 0, .int .i64 0, .int .i64 0, .int .i64 0, .slice none 0 0, .slice none 0 0]) (vs := []) (cs := [.int .i64 0, .int .i64 0, .int .i64 0, .int .i64 0, .slice none 0 0, .slice none 0 0]) k_pl_57 k_zero_57 rfl mpn rfl) ?_
    refine ss0 rfl rfl (Ys_store (i := 2) (s := 6) (B := some ⟨b2, 0, none⟩) (T' := 57) (v := .agg #[.int .i64 0, .int .i64 0, .int .i64 0, .int .i64 0, .slice none 0 0, .slice none 0 0]) (vs := [.int .i64 0, .int .i64 0, .int .i64 0, .int .i64 0, .slice none 0 0, .slice none 0 0]) (k := 0) (cs' := [.int .i64 0, .int .i64 0, .int .i64 0, .int .i64 0, .slice none 0 0, .slice none 0 0]) hS7 k_sz_57_6 rfl rfl rfl rfl rfl rfl rfl (Nat.le_of_ble_eq_true rfl) rfl rfl) ?_
    rintro _ w_7 ⟨rfl, hS8⟩
    have hS8 : ST w0 [] _ [⟨some ⟨b, 0, none⟩, 57, [.int .i64 p.Ins, .int .i64 p.Vars, .int .i64 p.Root, .int .i64 p.Phase, .slice B p.Terms.length c, .slice B1 p.Out.length c1], 6⟩, ⟨some ⟨b1, 0, none⟩, 61, [.int .i64 by_.Mask, .int .i64 by_.Turn], 2⟩, ⟨some ⟨b2, 0, none⟩, 57, [.int .i64 0, .int .i64 0, .int .i64 0, .int .i64 0, .slice none 0 0, .slice none 0 0], 6⟩] [⟨B, (p.Terms.flatMap enc_Term)⟩, ⟨B1, (p.Out.flatMap enc_Affine)⟩] := hS8
    refine sq 7 rfl rfl (Y_assign (v := .bool false) rfl rfl) ?_
    refine rw_nil ?_
    refine cw_ret ?_
    have hS9 := hS8.addNil 136
    have hS10 := hS9.addNil 61
    obtain ⟨rfl, rfl⟩ := pr2 (some_inj hF1)
    exact ret2 Try.results21 (v1 := .agg #[.int .i64 0, .int .i64 0, .int .i64 0, .int .i64 0, .slice none 0 0, .slice none 0 0]) (resAt_cellA (B := some ⟨b2, 0, none⟩) (i := 0) (cs := [.int .i64 0, .int .i64 0, .int .i64 0, .int .i64 0, .slice none 0 0, .slice none 0 0]) (vs := [.int .i64 0, .int .i64 0, .int .i64 0, .int .i64 0, .slice none 0 0, .slice none 0 0]) rfl k_ag_57 k_sz_57_6 (hS10.cf (i := 2) rfl) rfl rfl) (v2 := .bool false) (resAt_tmp rfl) ⟨none, 0, none, 0, rfl, (ST.subR (R' := []) (hS10.sel [3, 4] rfl rfl) (fun _ h => by cases h))⟩
  · skip
    have hF2 := cf' hF hb
    refine cw_skip ?_
    refine cw_seq ?_
    refine cw_region ?_
    refine sq 54 rfl rfl (Y_loadA (B := some ⟨b, 0, none⟩) (i := 0) (cs := [.int .i64 p.Ins, .int .i64 p.Vars, .int .i64 p.Root, .int .i64 p.Phase, .slice B p.Terms.length c, .slice B1 p.Out.length c1]) (vs := [.int .i64 p.Ins, .int .i64 p.Vars, .int .i64 p.Root, .int .i64 p.Phase, .slice B p.Terms.length c, .slice B1 p.Out.length c1]) k_ag_57 k_sz_57_6 rfl rfl (hS7.cf (i := 0) rfl) rfl rfl) ?_
    refine sq 55 rfl rfl (Y_move (v := .int .i64 v_) rfl rfl) ?_
    refine sq 56 rfl rfl (Y_loadA (B := some ⟨b1, 0, none⟩) (i := 0) (cs := [.int .i64 by_.Mask, .int .i64 by_.Turn]) (vs := [.int .i64 by_.Mask, .int .i64 by_.Turn]) k_ag_61 k_sz_61_2 rfl rfl (hS7.cf (i := 1) rfl) rfl rfl) ?_
    obtain ⟨r_6, hc4, hF2⟩ := bind_inv hF2
    refine sc 57 rfl rfl (Yc_func (g := 51) (vs := [.agg #[.int .i64 p.Ins, .int .i64 p.Vars, .int .i64 p.Root, .int .i64 p.Phase, .slice B p.Terms.length c, .slice B1 p.Out.length c1], .int .i64 v_, .agg #[.int .i64 by_.Mask, .int .i64 by_.Turn]]) k_call_51 rfl (mc rfl (mc rfl (mc rfl mn))) (c_spec_l21Replace p v_ by_ B c p.Terms.length B1 c1 p.Out.length _ rfl rfl (hS7.inn0 [(true, 0), (true, 1)] rfl) hc4)) ?_
    rintro _ w_8 ⟨B4, c4, B5, c5, rfl, hd1⟩
    have hS11 := hS7.out0 hd1
    have hS11 : ST w0 [] _ [⟨some ⟨b, 0, none⟩, 57, [.int .i64 p.Ins, .int .i64 p.Vars, .int .i64 p.Root, .int .i64 p.Phase, .slice B p.Terms.length c, .slice B1 p.Out.length c1], 6⟩, ⟨some ⟨b1, 0, none⟩, 61, [.int .i64 by_.Mask, .int .i64 by_.Turn], 2⟩, ⟨some ⟨b2, 0, none⟩, 57, [.int .i64 0, .int .i64 0, .int .i64 0, .int .i64 0, .slice none 0 0, .slice none 0 0], 6⟩, ⟨B4, 136, (r_6.Terms.flatMap enc_Term), c4 * 2⟩, ⟨B5, 61, (r_6.Out.flatMap enc_Affine), c5 * 2⟩] [⟨B, (p.Terms.flatMap enc_Term)⟩, ⟨B1, (p.Out.flatMap enc_Affine)⟩] := hS11
    refine ss0 rfl rfl (Ys_store (i := 2) (s := 6) (B := some ⟨b2, 0, none⟩) (T' := 57) (v := .agg #[.int .i64 r_6.Ins, .int .i64 r_6.Vars, .int .i64 r_6.Root, .int .i64 r_6.Phase, .slice B4 r_6.Terms.length c4, .slice B5 r_6.Out.length c5]) (vs := [.int .i64 r_6.Ins, .int .i64 r_6.Vars, .int .i64 r_6.Root, .int .i64 r_6.Phase, .slice B4 r_6.Terms.length c4, .slice B5 r_6.Out.length c5]) (k := 0) (cs' := [.int .i64 r_6.Ins, .int .i64 r_6.Vars, .int .i64 r_6.Root, .int .i64 r_6.Phase, .slice B4 r_6.Terms.length c4, .slice B5 r_6.Out.length c5]) hS11 k_sz_57_6 rfl rfl rfl rfl rfl rfl rfl (Nat.le_of_ble_eq_true rfl) rfl rfl) ?_
    rintro _ w_9 ⟨rfl, hS12⟩
    have hS12 : ST w0 [] _ [⟨some ⟨b, 0, none⟩, 57, [.int .i64 p.Ins, .int .i64 p.Vars, .int .i64 p.Root, .int .i64 p.Phase, .slice B p.Terms.length c, .slice B1 p.Out.length c1], 6⟩, ⟨some ⟨b1, 0, none⟩, 61, [.int .i64 by_.Mask, .int .i64 by_.Turn], 2⟩, ⟨some ⟨b2, 0, none⟩, 57, [.int .i64 r_6.Ins, .int .i64 r_6.Vars, .int .i64 r_6.Root, .int .i64 r_6.Phase, .slice B4 r_6.Terms.length c4, .slice B5 r_6.Out.length c5], 6⟩, ⟨B4, 136, (r_6.Terms.flatMap enc_Term), c4 * 2⟩, ⟨B5, 61, (r_6.Out.flatMap enc_Affine), c5 * 2⟩] [⟨B, (p.Terms.flatMap enc_Term)⟩, ⟨B1, (p.Out.flatMap enc_Affine)⟩] := hS12
    refine sq 7 rfl rfl (Y_assign (v := .bool true) rfl rfl) ?_
    refine rw_nil ?_
    refine cw_ret ?_
    obtain ⟨rfl, rfl⟩ := pr2 (some_inj hF2)
    exact ret2 Try.results21 (v1 := .agg #[.int .i64 r_6.Ins, .int .i64 r_6.Vars, .int .i64 r_6.Root, .int .i64 r_6.Phase, .slice B4 r_6.Terms.length c4, .slice B5 r_6.Out.length c5]) (resAt_cellA (B := some ⟨b2, 0, none⟩) (i := 0) (cs := [.int .i64 r_6.Ins, .int .i64 r_6.Vars, .int .i64 r_6.Root, .int .i64 r_6.Phase, .slice B4 r_6.Terms.length c4, .slice B5 r_6.Out.length c5]) (vs := [.int .i64 r_6.Ins, .int .i64 r_6.Vars, .int .i64 r_6.Root, .int .i64 r_6.Phase, .slice B4 r_6.Terms.length c4, .slice B5 r_6.Out.length c5]) rfl k_ag_57 k_sz_57_6 (hS12.cf (i := 2) rfl) rfl rfl) (v2 := .bool true) (resAt_tmp rfl) ⟨B4, c4, B5, c5, rfl, (ST.subR (R' := []) (hS12.sel [3, 4] rfl rfl) (fun _ h => by cases h))⟩

theorem c_laws_toTerm (a : TTerm)  (w0 : World)  (hS : ST w0 [] w0 [] []) {r_ : TTerm} (hF : F_laws_toTerm a = some r_) :
    CV Try.prog 100 #[.agg #[.int .i64 a.Mask, .int .i64 a.Coef]] w0 (fun v w' => v = .agg #[.int .i64 r_.Mask, .int .i64 r_.Coef] ∧ ST w0 [] w' [] []) := by
  unfold F_laws_toTerm at hF
  refine cv_of_cw 11 Try.func100 rfl Try.ntmps100 rfl ?_
  refine cw_seq ?_
  refine cw_region ?_
  refine ss 1 rfl rfl (Ys_box (T := 146) (v := .agg #[.int .i64 a.Mask, .int .i64 a.Coef]) (cs := [.int .i64 a.Mask, .int .i64 a.Coef]) (m := 2) hS rfl rfl rfl rfl) ?_
  rintro _ w_ ⟨b, rfl, hS1⟩
  refine ss 2 rfl rfl (Ys_alloc (T := 136) (cs := [.int .i64 0, .int .i64 0]) (m := 2) hS1 k_zero_136 rfl rfl rfl) ?_
  rintro _ w_1 ⟨b1, rfl, hS2⟩
  have hS2 : ST w0 [] _ [⟨some ⟨b, 0, none⟩, 146, [.int .i64 a.Mask, .int .i64 a.Coef], 2⟩, ⟨some ⟨b1, 0, none⟩, 136, [.int .i64 0, .int .i64 0], 2⟩] [] := hS2
  refine rw_nil ?_
  refine cw_seq ?_
  refine cw_region ?_
  refine ss 3 rfl rfl (Ys_alloc (T := 136) (cs := [.int .i64 0, .int .i64 0]) (m := 2) hS2 k_zero_136 rfl rfl rfl) ?_
  rintro _ w_2 ⟨b2, rfl, hS3⟩
  have hS3 : ST w0 [] _ [⟨some ⟨b, 0, none⟩, 146, [.int .i64 a.Mask, .int .i64 a.Coef], 2⟩, ⟨some ⟨b1, 0, none⟩, 136, [.int .i64 0, .int .i64 0], 2⟩, ⟨some ⟨b2, 0, none⟩, 136, [.int .i64 0, .int .i64 0], 2⟩] [] := hS3
  refine rw_nil ?_
  refine cw_seq ?_
  refine cw_region ?_
  refine sq 4 rfl rfl (Y_fieldAddr (B := some ⟨b, 0, none⟩) (i := 0) (s := 0) k_fd_146_0_0_3 k_sz_3_1 rfl rfl) ?_
  refine sq 5 rfl rfl (Y_load1 (B := some ⟨b, 0, none⟩) (i := 0) (cs := [.int .i64 a.Mask, .int .i64 a.Coef]) (v := .int .i64 a.Mask) k_sc_3 rfl rfl (hS3.cf (i := 0) rfl) rfl) ?_
  refine sq 6 rfl rfl (Y_fieldAddr (B := some ⟨b2, 0, none⟩) (i := 0) (s := 0) k_fd_136_0_0_3 k_sz_3_1 rfl rfl) ?_
  refine ss0 rfl rfl (Ys_store (i := 2) (s := 1) (B := some ⟨b2, 0, none⟩) (T' := 136) (v := .int .i64 a.Mask) (vs := [.int .i64 a.Mask]) (k := 0) (cs' := [.int .i64 a.Mask, .int .i64 0]) hS3 k_sz_3_1 rfl rfl rfl rfl rfl rfl rfl (Nat.le_of_ble_eq_true rfl) rfl rfl) ?_
  rintro _ w_3 ⟨rfl, hS4⟩
  have hS4 : ST w0 [] _ [⟨some ⟨b, 0, none⟩, 146, [.int .i64 a.Mask, .int .i64 a.Coef], 2⟩, ⟨some ⟨b1, 0, none⟩, 136, [.int .i64 0, .int .i64 0], 2⟩, ⟨some ⟨b2, 0, none⟩, 136, [.int .i64 a.Mask, .int .i64 0], 2⟩] [] := hS4
  refine rw_nil ?_
  refine cw_seq ?_
  refine cw_region ?_
  refine sq 7 rfl rfl (Y_fieldAddr (B := some ⟨b, 0, none⟩) (i := 0) (s := 0) k_fd_146_1_1_3 k_sz_3_1 rfl rfl) ?_
  refine sq 8 rfl rfl (Y_load1 (B := some ⟨b, 0, none⟩) (i := 1) (cs := [.int .i64 a.Mask, .int .i64 a.Coef]) (v := .int .i64 a.Coef) k_sc_3 rfl rfl (hS4.cf (i := 0) rfl) rfl) ?_
  refine sq 9 rfl rfl (Y_fieldAddr (B := some ⟨b2, 0, none⟩) (i := 0) (s := 0) k_fd_136_1_1_3 k_sz_3_1 rfl rfl) ?_
  refine ss0 rfl rfl (Ys_store (i := 2) (s := 1) (B := some ⟨b2, 0, none⟩) (T' := 136) (v := .int .i64 a.Coef) (vs := [.int .i64 a.Coef]) (k := 1) (cs' := [.int .i64 a.Mask, .int .i64 a.Coef]) hS4 k_sz_3_1 rfl rfl rfl rfl rfl rfl rfl (Nat.le_of_ble_eq_true rfl) rfl rfl) ?_
  rintro _ w_4 ⟨rfl, hS5⟩
  have hS5 : ST w0 [] _ [⟨some ⟨b, 0, none⟩, 146, [.int .i64 a.Mask, .int .i64 a.Coef], 2⟩, ⟨some ⟨b1, 0, none⟩, 136, [.int .i64 0, .int .i64 0], 2⟩, ⟨some ⟨b2, 0, none⟩, 136, [.int .i64 a.Mask, .int .i64 a.Coef], 2⟩] [] := hS5
  refine rw_nil ?_
  refine cw_seq ?_
  refine cw_region ?_
  refine sq 10 rfl rfl (Y_loadA (B := some ⟨b2, 0, none⟩) (i := 0) (cs := [.int .i64 a.Mask, .int .i64 a.Coef]) (vs := [.int .i64 a.Mask, .int .i64 a.Coef]) k_ag_136 k_sz_136_2 rfl rfl (hS5.cf (i := 2) rfl) rfl rfl) ?_
  refine ss0 rfl rfl (Ys_store (i := 1) (s := 2) (B := some ⟨b1, 0, none⟩) (T' := 136) (v := .agg #[.int .i64 a.Mask, .int .i64 a.Coef]) (vs := [.int .i64 a.Mask, .int .i64 a.Coef]) (k := 0) (cs' := [.int .i64 a.Mask, .int .i64 a.Coef]) hS5 k_sz_136_2 rfl rfl rfl rfl rfl rfl rfl (Nat.le_of_ble_eq_true rfl) rfl rfl) ?_
  rintro _ w_5 ⟨rfl, hS6⟩
  have hS6 : ST w0 [] _ [⟨some ⟨b, 0, none⟩, 146, [.int .i64 a.Mask, .int .i64 a.Coef], 2⟩, ⟨some ⟨b1, 0, none⟩, 136, [.int .i64 a.Mask, .int .i64 a.Coef], 2⟩, ⟨some ⟨b2, 0, none⟩, 136, [.int .i64 a.Mask, .int .i64 a.Coef], 2⟩] [] := hS6
  refine rw_nil ?_
  refine cw_ret ?_
  obtain rfl := some_inj hF
  exact ret1 Try.results100 (v1 := .agg #[.int .i64 a.Mask, .int .i64 a.Coef]) (resAt_cellA (B := some ⟨b1, 0, none⟩) (i := 0) (cs := [.int .i64 a.Mask, .int .i64 a.Coef]) (vs := [.int .i64 a.Mask, .int .i64 a.Coef]) rfl k_ag_136 k_sz_136_2 (hS6.cf (i := 1) rfl) rfl rfl) ⟨rfl, (ST.subR (R' := []) (hS6.sel [] rfl rfl) (fun _ h => by cases h))⟩

theorem c_laws_toTermS (a : List TTerm) (B : Option Addr) (c n : Nat) (w0 : World) (hn : a.length = n) (hS : ST w0 [] w0 [] [⟨B, (a.flatMap enc_Term)⟩]) {r_ : List TTerm} (hF : F_laws_toTermS a = some r_) :
    CV Try.prog 52 #[.slice B n c] w0 (fun v w' => ∃ (B1 : Option Addr) (c1 : Nat), v = .slice B1 r_.length c1 ∧ ST w0 [] w' [⟨B1, 136, (r_.flatMap enc_Term), c1 * 2⟩] []) := by
  subst hn
  unfold F_laws_toTermS at hF
  refine cv_of_cw 23 Try.func52 rfl Try.ntmps52 rfl ?_
  refine cw_seq ?_
  refine cw_region ?_
  refine sq 2 rfl rfl (Y_assign (v := .slice none 0 0) rfl rfl) ?_
  refine rw_nil ?_
  refine cw_seq ?_
  refine cw_region ?_
  refine sq 5 rfl rfl (Y_move (v := .slice B a.length c) rfl rfl) ?_
  refine sq 6 rfl rfl (Y_len (B := B) (m := a.length) (c := c) k_sl_47_146 rfl rfl) ?_
  obtain ⟨hmk, hF⟩ := chk_inv hF
  refine ss 7 rfl rfl (Ys_make (s := 2) (by' := 16) (nn := a.length) (a := (a.length : Int)) (b := (a.length : Int)) (cs := ((List.replicate a.length (TTerm.mk 0 0)).flatMap enc_Term)) hS k_sl_54_136 k_sz_136_2 k_by_136_16 k_zero_136 rfl rfl rfl rfl hmk.1 rfl (by have := hmk; omega) (by have := hmk; omega) (by omega) (fm_rep (enc := enc_Term) (d := (TTerm.mk 0 0)) rfl _)) ?_
  rintro _ w_ ⟨b, rfl, hS1⟩
  refine sq 3 rfl rfl (Y_assign (v := .slice (some ⟨b, 0, none⟩) a.length a.length) rfl rfl) ?_
  refine rw_nil ?_
  refine cw_seq ?_
  refine cw_seq ?_
  refine cw_region ?_
  refine sq 4 rfl rfl (Y_assign (v := .int .i64 0) rfl rfl) ?_
  refine rw_nil ?_
  obtain ⟨hN, hF⟩ := chk_inv hF
  obtain ⟨z, hz, hF1⟩ := bind_inv hF
  refine cw_block ?_
  refine cw_loop (fun k f w => ∃ (i1 : Nat) (out : List TTerm), FF f [(0, .slice B a.length c), (3, .slice (some ⟨b, 0, none⟩) a.length a.length), (4, .int .i64 (i1 : Int))] ∧ out.length = a.length ∧ ST w0 [] w [⟨some ⟨b, 0, none⟩, 136, (out.flatMap enc_Term), a.length * 2⟩] [⟨B, (a.flatMap enc_Term)⟩] ∧ i1 + k = a.length ∧ forN (F_laws_toTermS_l1 a) k i1 out = some z) a.length ⟨0, (List.replicate a.length (TTerm.mk 0 0)), (FF.cons rfl (FF.cons rfl (FF.cons rfl FF.nil))), List.length_replicate, (hS1.sel [0] rfl rfl), Nat.zero_add _, hz⟩ ?_
  rintro k_ f w ⟨i1, out, hf, hl, hS2, hik, hL⟩
  refine cw_seq ?_
  refine cw_seq ?_
  refine cw_region ?_
  refine sq 8 rfl rfl (Y_move (v := .int .i64 (i1 : Int)) rfl (hf.get 4 2 rfl)) ?_
  refine sq 9 rfl rfl (Y_move (v := .slice B a.length c) rfl (hf.get 0 0 rfl)) ?_
  refine sq 10 rfl rfl (Y_len (B := B) (m := a.length) (c := c) k_sl_47_146 rfl rfl) ?_
  refine sq 11 rfl rfl (Y_lt (k := .i64) (a := (i1 : Int)) (b := (a.length : Int)) rfl rfl rfl) ?_
  refine rw_nil ?_
  refine cw_cond (b := (decide ((i1 : Int) < (a.length : Int)))) rfl (fun hlt => ?_) (fun hlt => ?_)
  · skip
    have hlt1 : i1 < a.length := by have h := of_decide_eq_true hlt; omega
    obtain ⟨k_1, rfl⟩ : ∃ k2, k_ = k2 + 1 := ⟨k_ - 1, by omega⟩
    obtain ⟨y, hb, hL1⟩ := forN_go hL
    unfold F_laws_toTermS_l1 at hb
    refine cw_skip ?_
    refine cw_seq ?_
    refine cw_block ?_
    refine cw_region ?_
    refine sq 14 rfl rfl (Y_move (v := .slice (some ⟨b, 0, none⟩) a.length a.length) rfl (hf.get 3 1 rfl)) ?_
    refine sq 15 rfl rfl (Y_move (v := .int .i64 (i1 : Int)) rfl (hf.get 4 2 rfl)) ?_
    refine sq 16 rfl rfl (Y_move (v := .slice B a.length c) rfl (hf.get 0 0 rfl)) ?_
    refine sq 17 rfl rfl (Y_move (v := .int .i64 (i1 : Int)) rfl (hf.get 4 2 rfl)) ?_
    obtain ⟨x, hx, hb⟩ := bind_inv hb
    refine sq 18 rfl rfl (Y_index (B := B) (m := a.length) (c := c) (k := .i64) (i := (i1 : Int)) k_sl_47_146 k_sz_146_2 rfl rfl rfl (gi_isSome enc_Term_len rfl (hS2.rf (i := 0) rfl) hx) (getI_nn hx) (getI_ltI hx rfl)) ?_
    refine sq 19 rfl rfl (Y_loadA (B := B) (i := (i1 : Int).toNat * 2) (cs := (a.flatMap enc_Term)) (vs := [.int .i64 x.Mask, .int .i64 x.Coef]) k_ag_146 k_sz_146_2 rfl rfl (hS2.rf (i := 0) rfl) (enc_Term_len x) (gi_seg enc_Term_len hx)) ?_
    obtain ⟨r_1, hc, hb⟩ := bind_inv hb
    refine sc 20 rfl rfl (Yc_func (g := 100) (vs := [.agg #[.int .i64 x.Mask, .int .i64 x.Coef]]) k_call_100 rfl (mc rfl mn) (c_laws_toTerm x _  (hS2.inn0 [] rfl) hc)) ?_
    rintro _ w_1 ⟨rfl, hd⟩
    have hS3 := hS2.out00 hd
    obtain ⟨x1, hx1, hb⟩ := bind_inv hb
    refine sq 21 rfl rfl (Y_index (B := some ⟨b, 0, none⟩) (m := a.length) (c := a.length) (k := .i64) (i := (i1 : Int)) k_sl_54_136 k_sz_136_2 rfl rfl rfl (gi_isSome enc_Term_len rfl (hS3.cf (i := 0) rfl) hx1) (getI_nn hx1) (getI_ltI hx1 hl)) ?_
    refine ss0 rfl rfl (Ys_store (i := 0) (s := 2) (B := some ⟨b, 0, none⟩) (T' := 136) (v := .agg #[.int .i64 r_1.Mask, .int .i64 r_1.Coef]) (vs := [.int .i64 r_1.Mask, .int .i64 r_1.Coef]) (k := (i1 : Int).toNat * 2) (cs' := ((out.set (i1 : Int).toNat r_1).flatMap enc_Term)) hS3 k_sz_136_2 rfl rfl rfl rfl rfl rfl rfl (gi_fit0 enc_Term_len hx1) (gi_set enc_Term_len hx1 r_1 rfl) rfl) ?_
    rintro _ w_2 ⟨rfl, hS4⟩
    refine rw_nil ?_
    refine cw_region ?_
    refine sq 12 rfl rfl (Y_move (v := .int .i64 (i1 : Int)) rfl (hf.get 4 2 rfl)) ?_
    refine sq 13 rfl rfl (Y_add (k := .i64) (a := (i1 : Int)) (b := 1) rfl rfl rfl) ?_
    refine sq 4 rfl rfl (Y_assign (v := .int .i64 (IntKind.i64.wrap ((i1 : Int) + 1))) rfl rfl) ?_
    refine rw_nil ?_
    obtain rfl := some_inj hb
    exact ⟨k_1, Nat.lt_succ_self _, i1 + 1, (out.set (i1 : Int).toNat r_1), (FF.cons (hf.get 0 0 rfl) (FF.cons (hf.get 3 1 rfl) (FF.cons (congrArg (Value.int .i64) (wr_succ hlt1 hN)) FF.nil))), (set_len _ _ _ hl), (hS4.sel [0] rfl rfl), (by omega), hL1⟩
  · skip
    obtain rfl : k_ = 0 := by have h := of_decide_eq_false hlt; omega
    refine cw_exit rfl ?_
    obtain rfl := some_inj hL
    refine cw_seq ?_
    refine cw_region ?_
    refine sq 22 rfl rfl (Y_move (v := .slice (some ⟨b, 0, none⟩) a.length a.length) rfl (hf.get 3 1 rfl)) ?_
    refine sq 2 rfl rfl (Y_assign (v := .slice (some ⟨b, 0, none⟩) a.length a.length) rfl rfl) ?_
    refine rw_nil ?_
    refine cw_ret ?_
    obtain rfl := some_inj hF1
    exact ret1 Try.results52 (v1 := .slice (some ⟨b, 0, none⟩) a.length a.length) (resAt_tmp rfl) ⟨some ⟨b, 0, none⟩, a.length, (sl_eqv hl), (ST.subR (R' := []) (hS2.sel [0] rfl rfl) (fun _ h => by cases h))⟩

theorem c_laws_toAffine (a : TAffine)  (w0 : World)  (hS : ST w0 [] w0 [] []) {r_ : TAffine} (hF : F_laws_toAffine a = some r_) :
    CV Try.prog 23 #[.agg #[.int .i64 a.Mask, .int .i64 a.Turn]] w0 (fun v w' => v = .agg #[.int .i64 r_.Mask, .int .i64 r_.Turn] ∧ ST w0 [] w' [] []) := by
  unfold F_laws_toAffine at hF
  refine cv_of_cw 11 Try.func23 rfl Try.ntmps23 rfl ?_
  refine cw_seq ?_
  refine cw_region ?_
  refine ss 1 rfl rfl (Ys_box (T := 52) (v := .agg #[.int .i64 a.Mask, .int .i64 a.Turn]) (cs := [.int .i64 a.Mask, .int .i64 a.Turn]) (m := 2) hS rfl rfl rfl rfl) ?_
  rintro _ w_ ⟨b, rfl, hS1⟩
  refine ss 2 rfl rfl (Ys_alloc (T := 61) (cs := [.int .i64 0, .int .i64 0]) (m := 2) hS1 k_zero_61 rfl rfl rfl) ?_
  rintro _ w_1 ⟨b1, rfl, hS2⟩
  have hS2 : ST w0 [] _ [⟨some ⟨b, 0, none⟩, 52, [.int .i64 a.Mask, .int .i64 a.Turn], 2⟩, ⟨some ⟨b1, 0, none⟩, 61, [.int .i64 0, .int .i64 0], 2⟩] [] := hS2
  refine rw_nil ?_
  refine cw_seq ?_
  refine cw_region ?_
  refine ss 3 rfl rfl (Ys_alloc (T := 61) (cs := [.int .i64 0, .int .i64 0]) (m := 2) hS2 k_zero_61 rfl rfl rfl) ?_
  rintro _ w_2 ⟨b2, rfl, hS3⟩
  have hS3 : ST w0 [] _ [⟨some ⟨b, 0, none⟩, 52, [.int .i64 a.Mask, .int .i64 a.Turn], 2⟩, ⟨some ⟨b1, 0, none⟩, 61, [.int .i64 0, .int .i64 0], 2⟩, ⟨some ⟨b2, 0, none⟩, 61, [.int .i64 0, .int .i64 0], 2⟩] [] := hS3
  refine rw_nil ?_
  refine cw_seq ?_
  refine cw_region ?_
  refine sq 4 rfl rfl (Y_fieldAddr (B := some ⟨b, 0, none⟩) (i := 0) (s := 0) k_fd_52_0_0_3 k_sz_3_1 rfl rfl) ?_
  refine sq 5 rfl rfl (Y_load1 (B := some ⟨b, 0, none⟩) (i := 0) (cs := [.int .i64 a.Mask, .int .i64 a.Turn]) (v := .int .i64 a.Mask) k_sc_3 rfl rfl (hS3.cf (i := 0) rfl) rfl) ?_
  refine sq 6 rfl rfl (Y_fieldAddr (B := some ⟨b2, 0, none⟩) (i := 0) (s := 0) k_fd_61_0_0_3 k_sz_3_1 rfl rfl) ?_
  refine ss0 rfl rfl (Ys_store (i := 2) (s := 1) (B := some ⟨b2, 0, none⟩) (T' := 61) (v := .int .i64 a.Mask) (vs := [.int .i64 a.Mask]) (k := 0) (cs' := [.int .i64 a.Mask, .int .i64 0]) hS3 k_sz_3_1 rfl rfl rfl rfl rfl rfl rfl (Nat.le_of_ble_eq_true rfl) rfl rfl) ?_
  rintro _ w_3 ⟨rfl, hS4⟩
  have hS4 : ST w0 [] _ [⟨some ⟨b, 0, none⟩, 52, [.int .i64 a.Mask, .int .i64 a.Turn], 2⟩, ⟨some ⟨b1, 0, none⟩, 61, [.int .i64 0, .int .i64 0], 2⟩, ⟨some ⟨b2, 0, none⟩, 61, [.int .i64 a.Mask, .int .i64 0], 2⟩] [] := hS4
  refine rw_nil ?_
  refine cw_seq ?_
  refine cw_region ?_
  refine sq 7 rfl rfl (Y_fieldAddr (B := some ⟨b, 0, none⟩) (i := 0) (s := 0) k_fd_52_1_1_3 k_sz_3_1 rfl rfl) ?_
  refine sq 8 rfl rfl (Y_load1 (B := some ⟨b, 0, none⟩) (i := 1) (cs := [.int .i64 a.Mask, .int .i64 a.Turn]) (v := .int .i64 a.Turn) k_sc_3 rfl rfl (hS4.cf (i := 0) rfl) rfl) ?_
  refine sq 9 rfl rfl (Y_fieldAddr (B := some ⟨b2, 0, none⟩) (i := 0) (s := 0) k_fd_61_1_1_3 k_sz_3_1 rfl rfl) ?_
  refine ss0 rfl rfl (Ys_store (i := 2) (s := 1) (B := some ⟨b2, 0, none⟩) (T' := 61) (v := .int .i64 a.Turn) (vs := [.int .i64 a.Turn]) (k := 1) (cs' := [.int .i64 a.Mask, .int .i64 a.Turn]) hS4 k_sz_3_1 rfl rfl rfl rfl rfl rfl rfl (Nat.le_of_ble_eq_true rfl) rfl rfl) ?_
  rintro _ w_4 ⟨rfl, hS5⟩
  have hS5 : ST w0 [] _ [⟨some ⟨b, 0, none⟩, 52, [.int .i64 a.Mask, .int .i64 a.Turn], 2⟩, ⟨some ⟨b1, 0, none⟩, 61, [.int .i64 0, .int .i64 0], 2⟩, ⟨some ⟨b2, 0, none⟩, 61, [.int .i64 a.Mask, .int .i64 a.Turn], 2⟩] [] := hS5
  refine rw_nil ?_
  refine cw_seq ?_
  refine cw_region ?_
  refine sq 10 rfl rfl (Y_loadA (B := some ⟨b2, 0, none⟩) (i := 0) (cs := [.int .i64 a.Mask, .int .i64 a.Turn]) (vs := [.int .i64 a.Mask, .int .i64 a.Turn]) k_ag_61 k_sz_61_2 rfl rfl (hS5.cf (i := 2) rfl) rfl rfl) ?_
  refine ss0 rfl rfl (Ys_store (i := 1) (s := 2) (B := some ⟨b1, 0, none⟩) (T' := 61) (v := .agg #[.int .i64 a.Mask, .int .i64 a.Turn]) (vs := [.int .i64 a.Mask, .int .i64 a.Turn]) (k := 0) (cs' := [.int .i64 a.Mask, .int .i64 a.Turn]) hS5 k_sz_61_2 rfl rfl rfl rfl rfl rfl rfl (Nat.le_of_ble_eq_true rfl) rfl rfl) ?_
  rintro _ w_5 ⟨rfl, hS6⟩
  have hS6 : ST w0 [] _ [⟨some ⟨b, 0, none⟩, 52, [.int .i64 a.Mask, .int .i64 a.Turn], 2⟩, ⟨some ⟨b1, 0, none⟩, 61, [.int .i64 a.Mask, .int .i64 a.Turn], 2⟩, ⟨some ⟨b2, 0, none⟩, 61, [.int .i64 a.Mask, .int .i64 a.Turn], 2⟩] [] := hS6
  refine rw_nil ?_
  refine cw_ret ?_
  obtain rfl := some_inj hF
  exact ret1 Try.results23 (v1 := .agg #[.int .i64 a.Mask, .int .i64 a.Turn]) (resAt_cellA (B := some ⟨b1, 0, none⟩) (i := 0) (cs := [.int .i64 a.Mask, .int .i64 a.Turn]) (vs := [.int .i64 a.Mask, .int .i64 a.Turn]) rfl k_ag_61 k_sz_61_2 (hS6.cf (i := 1) rfl) rfl rfl) ⟨rfl, (ST.subR (R' := []) (hS6.sel [] rfl rfl) (fun _ h => by cases h))⟩

theorem c_laws_toAffineS (a : List TAffine) (B : Option Addr) (c n : Nat) (w0 : World) (hn : a.length = n) (hS : ST w0 [] w0 [] [⟨B, (a.flatMap enc_Affine)⟩]) {r_ : List TAffine} (hF : F_laws_toAffineS a = some r_) :
    CV Try.prog 53 #[.slice B n c] w0 (fun v w' => ∃ (B1 : Option Addr) (c1 : Nat), v = .slice B1 r_.length c1 ∧ ST w0 [] w' [⟨B1, 61, (r_.flatMap enc_Affine), c1 * 2⟩] []) := by
  subst hn
  unfold F_laws_toAffineS at hF
  refine cv_of_cw 23 Try.func53 rfl Try.ntmps53 rfl ?_
  refine cw_seq ?_
  refine cw_region ?_
  refine sq 2 rfl rfl (Y_assign (v := .slice none 0 0) rfl rfl) ?_
  refine rw_nil ?_
  refine cw_seq ?_
  refine cw_region ?_
  refine sq 5 rfl rfl (Y_move (v := .slice B a.length c) rfl rfl) ?_
  refine sq 6 rfl rfl (Y_len (B := B) (m := a.length) (c := c) k_sl_48_52 rfl rfl) ?_
  obtain ⟨hmk, hF⟩ := chk_inv hF
  refine ss 7 rfl rfl (Ys_make (s := 2) (by' := 16) (nn := a.length) (a := (a.length : Int)) (b := (a.length : Int)) (cs := ((List.replicate a.length (TAffine.mk 0 0)).flatMap enc_Affine)) hS k_sl_55_61 k_sz_61_2 k_by_61_16 k_zero_61 rfl rfl rfl rfl hmk.1 rfl (by have := hmk; omega) (by have := hmk; omega) (by omega) (fm_rep (enc := enc_Affine) (d := (TAffine.mk 0 0)) rfl _)) ?_
  rintro _ w_ ⟨b, rfl, hS1⟩
  refine sq 3 rfl rfl (Y_assign (v := .slice (some ⟨b, 0, none⟩) a.length a.length) rfl rfl) ?_
  refine rw_nil ?_
  refine cw_seq ?_
  refine cw_seq ?_
  refine cw_region ?_
  refine sq 4 rfl rfl (Y_assign (v := .int .i64 0) rfl rfl) ?_
  refine rw_nil ?_
  obtain ⟨hN, hF⟩ := chk_inv hF
  obtain ⟨z, hz, hF1⟩ := bind_inv hF
  refine cw_block ?_
  refine cw_loop (fun k f w => ∃ (i1 : Nat) (out : List TAffine), FF f [(0, .slice B a.length c), (3, .slice (some ⟨b, 0, none⟩) a.length a.length), (4, .int .i64 (i1 : Int))] ∧ out.length = a.length ∧ ST w0 [] w [⟨some ⟨b, 0, none⟩, 61, (out.flatMap enc_Affine), a.length * 2⟩] [⟨B, (a.flatMap enc_Affine)⟩] ∧ i1 + k = a.length ∧ forN (F_laws_toAffineS_l1 a) k i1 out = some z) a.length ⟨0, (List.replicate a.length (TAffine.mk 0 0)), (FF.cons rfl (FF.cons rfl (FF.cons rfl FF.nil))), List.length_replicate, (hS1.sel [0] rfl rfl), Nat.zero_add _, hz⟩ ?_
  rintro k_ f w ⟨i1, out, hf, hl, hS2, hik, hL⟩
  refine cw_seq ?_
  refine cw_seq ?_
  refine cw_region ?_
  refine sq 8 rfl rfl (Y_move (v := .int .i64 (i1 : Int)) rfl (hf.get 4 2 rfl)) ?_
  refine sq 9 rfl rfl (Y_move (v := .slice B a.length c) rfl (hf.get 0 0 rfl)) ?_
  refine sq 10 rfl rfl (Y_len (B := B) (m := a.length) (c := c) k_sl_48_52 rfl rfl) ?_
  refine sq 11 rfl rfl (Y_lt (k := .i64) (a := (i1 : Int)) (b := (a.length : Int)) rfl rfl rfl) ?_
  refine rw_nil ?_
  refine cw_cond (b := (decide ((i1 : Int) < (a.length : Int)))) rfl (fun hlt => ?_) (fun hlt => ?_)
  · skip
    have hlt1 : i1 < a.length := by have h := of_decide_eq_true hlt; omega
    obtain ⟨k_1, rfl⟩ : ∃ k2, k_ = k2 + 1 := ⟨k_ - 1, by omega⟩
    obtain ⟨y, hb, hL1⟩ := forN_go hL
    unfold F_laws_toAffineS_l1 at hb
    refine cw_skip ?_
    refine cw_seq ?_
    refine cw_block ?_
    refine cw_region ?_
    refine sq 14 rfl rfl (Y_move (v := .slice (some ⟨b, 0, none⟩) a.length a.length) rfl (hf.get 3 1 rfl)) ?_
    refine sq 15 rfl rfl (Y_move (v := .int .i64 (i1 : Int)) rfl (hf.get 4 2 rfl)) ?_
    refine sq 16 rfl rfl (Y_move (v := .slice B a.length c) rfl (hf.get 0 0 rfl)) ?_
    refine sq 17 rfl rfl (Y_move (v := .int .i64 (i1 : Int)) rfl (hf.get 4 2 rfl)) ?_
    obtain ⟨x, hx, hb⟩ := bind_inv hb
    refine sq 18 rfl rfl (Y_index (B := B) (m := a.length) (c := c) (k := .i64) (i := (i1 : Int)) k_sl_48_52 k_sz_52_2 rfl rfl rfl (gi_isSome enc_Affine_len rfl (hS2.rf (i := 0) rfl) hx) (getI_nn hx) (getI_ltI hx rfl)) ?_
    refine sq 19 rfl rfl (Y_loadA (B := B) (i := (i1 : Int).toNat * 2) (cs := (a.flatMap enc_Affine)) (vs := [.int .i64 x.Mask, .int .i64 x.Turn]) k_ag_52 k_sz_52_2 rfl rfl (hS2.rf (i := 0) rfl) (enc_Affine_len x) (gi_seg enc_Affine_len hx)) ?_
    obtain ⟨r_1, hc, hb⟩ := bind_inv hb
    refine sc 20 rfl rfl (Yc_func (g := 23) (vs := [.agg #[.int .i64 x.Mask, .int .i64 x.Turn]]) k_call_23 rfl (mc rfl mn) (c_laws_toAffine x _  (hS2.inn0 [] rfl) hc)) ?_
    rintro _ w_1 ⟨rfl, hd⟩
    have hS3 := hS2.out00 hd
    obtain ⟨x1, hx1, hb⟩ := bind_inv hb
    refine sq 21 rfl rfl (Y_index (B := some ⟨b, 0, none⟩) (m := a.length) (c := a.length) (k := .i64) (i := (i1 : Int)) k_sl_55_61 k_sz_61_2 rfl rfl rfl (gi_isSome enc_Affine_len rfl (hS3.cf (i := 0) rfl) hx1) (getI_nn hx1) (getI_ltI hx1 hl)) ?_
    refine ss0 rfl rfl (Ys_store (i := 0) (s := 2) (B := some ⟨b, 0, none⟩) (T' := 61) (v := .agg #[.int .i64 r_1.Mask, .int .i64 r_1.Turn]) (vs := [.int .i64 r_1.Mask, .int .i64 r_1.Turn]) (k := (i1 : Int).toNat * 2) (cs' := ((out.set (i1 : Int).toNat r_1).flatMap enc_Affine)) hS3 k_sz_61_2 rfl rfl rfl rfl rfl rfl rfl (gi_fit0 enc_Affine_len hx1) (gi_set enc_Affine_len hx1 r_1 rfl) rfl) ?_
    rintro _ w_2 ⟨rfl, hS4⟩
    refine rw_nil ?_
    refine cw_region ?_
    refine sq 12 rfl rfl (Y_move (v := .int .i64 (i1 : Int)) rfl (hf.get 4 2 rfl)) ?_
    refine sq 13 rfl rfl (Y_add (k := .i64) (a := (i1 : Int)) (b := 1) rfl rfl rfl) ?_
    refine sq 4 rfl rfl (Y_assign (v := .int .i64 (IntKind.i64.wrap ((i1 : Int) + 1))) rfl rfl) ?_
    refine rw_nil ?_
    obtain rfl := some_inj hb
    exact ⟨k_1, Nat.lt_succ_self _, i1 + 1, (out.set (i1 : Int).toNat r_1), (FF.cons (hf.get 0 0 rfl) (FF.cons (hf.get 3 1 rfl) (FF.cons (congrArg (Value.int .i64) (wr_succ hlt1 hN)) FF.nil))), (set_len _ _ _ hl), (hS4.sel [0] rfl rfl), (by omega), hL1⟩
  · skip
    obtain rfl : k_ = 0 := by have h := of_decide_eq_false hlt; omega
    refine cw_exit rfl ?_
    obtain rfl := some_inj hL
    refine cw_seq ?_
    refine cw_region ?_
    refine sq 22 rfl rfl (Y_move (v := .slice (some ⟨b, 0, none⟩) a.length a.length) rfl (hf.get 3 1 rfl)) ?_
    refine sq 2 rfl rfl (Y_assign (v := .slice (some ⟨b, 0, none⟩) a.length a.length) rfl rfl) ?_
    refine rw_nil ?_
    refine cw_ret ?_
    obtain rfl := some_inj hF1
    exact ret1 Try.results53 (v1 := .slice (some ⟨b, 0, none⟩) a.length a.length) (resAt_tmp rfl) ⟨some ⟨b, 0, none⟩, a.length, (sl_eqv hl), (ST.subR (R' := []) (hS2.sel [0] rfl rfl) (fun _ h => by cases h))⟩

theorem c_laws_toPathSum (a : TPathSum) (B : Option Addr) (c n : Nat) (B1 : Option Addr) (c1 n1 : Nat) (w0 : World) (hn : a.Terms.length = n) (hn1 : a.Out.length = n1) (hS : ST w0 [] w0 [] [⟨B, (a.Terms.flatMap enc_Term)⟩, ⟨B1, (a.Out.flatMap enc_Affine)⟩]) {r_ : TPathSum} (hF : F_laws_toPathSum a = some r_) :
    CV Try.prog 22 #[.agg #[.int .i64 a.Ins, .int .i64 a.Vars, .int .i64 a.Root, .int .i64 a.Phase, .slice B n c, .slice B1 n1 c1]] w0 (fun v w' => ∃ (B2 : Option Addr) (c2 : Nat) (B3 : Option Addr) (c3 : Nat), v = .agg #[.int .i64 r_.Ins, .int .i64 r_.Vars, .int .i64 r_.Root, .int .i64 r_.Phase, .slice B2 r_.Terms.length c2, .slice B3 r_.Out.length c3] ∧ ST w0 [] w' [⟨B2, 136, (r_.Terms.flatMap enc_Term), c2 * 2⟩, ⟨B3, 61, (r_.Out.flatMap enc_Affine), c3 * 2⟩] []) := by
  subst hn
  subst hn1
  unfold F_laws_toPathSum at hF
  refine cv_of_cw 25 Try.func22 rfl Try.ntmps22 rfl ?_
  refine cw_seq ?_
  refine cw_region ?_
  refine ss 1 rfl rfl (Ys_box (T := 50) (v := .agg #[.int .i64 a.Ins, .int .i64 a.Vars, .int .i64 a.Root, .int .i64 a.Phase, .slice B a.Terms.length c, .slice B1 a.Out.length c1]) (cs := [.int .i64 a.Ins, .int .i64 a.Vars, .int .i64 a.Root, .int .i64 a.Phase, .slice B a.Terms.length c, .slice B1 a.Out.length c1]) (m := 6) hS rfl rfl rfl rfl) ?_
  rintro _ w_ ⟨b, rfl, hS1⟩
  refine ss 2 rfl rfl (Ys_alloc (T := 57) (cs := [.int .i64 0, .int .i64 0, .int .i64 0, .int .i64 0, .slice none 0 0, .slice none 0 0]) (m := 6) hS1 k_zero_57 rfl rfl rfl) ?_
  rintro _ w_1 ⟨b1, rfl, hS2⟩
  have hS2 : ST w0 [] _ [⟨some ⟨b, 0, none⟩, 50, [.int .i64 a.Ins, .int .i64 a.Vars, .int .i64 a.Root, .int .i64 a.Phase, .slice B a.Terms.length c, .slice B1 a.Out.length c1], 6⟩, ⟨some ⟨b1, 0, none⟩, 57, [.int .i64 0, .int .i64 0, .int .i64 0, .int .i64 0, .slice none 0 0, .slice none 0 0], 6⟩] [⟨B, (a.Terms.flatMap enc_Term)⟩, ⟨B1, (a.Out.flatMap enc_Affine)⟩] := hS2
  refine rw_nil ?_
  refine cw_seq ?_
  refine cw_region ?_
  refine ss 3 rfl rfl (Ys_alloc (T := 57) (cs := [.int .i64 0, .int .i64 0, .int .i64 0, .int .i64 0, .slice none 0 0, .slice none 0 0]) (m := 6) hS2 k_zero_57 rfl rfl rfl) ?_
  rintro _ w_2 ⟨b2, rfl, hS3⟩
  have hS3 : ST w0 [] _ [⟨some ⟨b, 0, none⟩, 50, [.int .i64 a.Ins, .int .i64 a.Vars, .int .i64 a.Root, .int .i64 a.Phase, .slice B a.Terms.length c, .slice B1 a.Out.length c1], 6⟩, ⟨some ⟨b1, 0, none⟩, 57, [.int .i64 0, .int .i64 0, .int .i64 0, .int .i64 0, .slice none 0 0, .slice none 0 0], 6⟩, ⟨some ⟨b2, 0, none⟩, 57, [.int .i64 0, .int .i64 0, .int .i64 0, .int .i64 0, .slice none 0 0, .slice none 0 0], 6⟩] [⟨B, (a.Terms.flatMap enc_Term)⟩, ⟨B1, (a.Out.flatMap enc_Affine)⟩] := hS3
  refine rw_nil ?_
  refine cw_seq ?_
  refine cw_region ?_
  refine sq 4 rfl rfl (Y_fieldAddr (B := some ⟨b, 0, none⟩) (i := 0) (s := 0) k_fd_50_0_0_3 k_sz_3_1 rfl rfl) ?_
  refine sq 5 rfl rfl (Y_load1 (B := some ⟨b, 0, none⟩) (i := 0) (cs := [.int .i64 a.Ins, .int .i64 a.Vars, .int .i64 a.Root, .int .i64 a.Phase, .slice B a.Terms.length c, .slice B1 a.Out.length c1]) (v := .int .i64 a.Ins) k_sc_3 rfl rfl (hS3.cf (i := 0) rfl) rfl) ?_
  refine sq 6 rfl rfl (Y_fieldAddr (B := some ⟨b2, 0, none⟩) (i := 0) (s := 0) k_fd_57_0_0_3 k_sz_3_1 rfl rfl) ?_
  refine ss0 rfl rfl (Ys_store (i := 2) (s := 1) (B := some ⟨b2, 0, none⟩) (T' := 57) (v := .int .i64 a.Ins) (vs := [.int .i64 a.Ins]) (k := 0) (cs' := [.int .i64 a.Ins, .int .i64 0, .int .i64 0, .int .i64 0, .slice none 0 0, .slice none 0 0]) hS3 k_sz_3_1 rfl rfl rfl rfl rfl rfl rfl (Nat.le_of_ble_eq_true rfl) rfl rfl) ?_
  rintro _ w_3 ⟨rfl, hS4⟩
  have hS4 : ST w0 [] _ [⟨some ⟨b, 0, none⟩, 50, [.int .i64 a.Ins, .int .i64 a.Vars, .int .i64 a.Root, .int .i64 a.Phase, .slice B a.Terms.length c, .slice B1 a.Out.length c1], 6⟩, ⟨some ⟨b1, 0, none⟩, 57, [.int .i64 0, .int .i64 0, .int .i64 0, .int .i64 0, .slice none 0 0, .slice none 0 0], 6⟩, ⟨some ⟨b2, 0, none⟩, 57, [.int .i64 a.Ins, .int .i64 0, .int .i64 0, .int .i64 0, .slice none 0 0, .slice none 0 0], 6⟩] [⟨B, (a.Terms.flatMap enc_Term)⟩, ⟨B1, (a.Out.flatMap enc_Affine)⟩] := hS4
  refine rw_nil ?_
  refine cw_seq ?_
  refine cw_region ?_
  refine sq 7 rfl rfl (Y_fieldAddr (B := some ⟨b, 0, none⟩) (i := 0) (s := 0) k_fd_50_1_1_3 k_sz_3_1 rfl rfl) ?_
  refine sq 8 rfl rfl (Y_load1 (B := some ⟨b, 0, none⟩) (i := 1) (cs := [.int .i64 a.Ins, .int .i64 a.Vars, .int .i64 a.Root, .int .i64 a.Phase, .slice B a.Terms.length c, .slice B1 a.Out.length c1]) (v := .int .i64 a.Vars) k_sc_3 rfl rfl (hS4.cf (i := 0) rfl) rfl) ?_
  refine sq 9 rfl rfl (Y_fieldAddr (B := some ⟨b2, 0, none⟩) (i := 0) (s := 0) k_fd_57_1_1_3 k_sz_3_1 rfl rfl) ?_
  refine ss0 rfl rfl (Ys_store (i := 2) (s := 1) (B := some ⟨b2, 0, none⟩) (T' := 57) (v := .int .i64 a.Vars) (vs := [.int .i64 a.Vars]) (k := 1) (cs' := [.int .i64 a.Ins, .int .i64 a.Vars, .int .i64 0, .int .i64 0, .slice none 0 0, .slice none 0 0]) hS4 k_sz_3_1 rfl rfl rfl rfl rfl rfl rfl (Nat.le_of_ble_eq_true rfl) rfl rfl) ?_
  rintro _ w_4 ⟨rfl, hS5⟩
  have hS5 : ST w0 [] _ [⟨some ⟨b, 0, none⟩, 50, [.int .i64 a.Ins, .int .i64 a.Vars, .int .i64 a.Root, .int .i64 a.Phase, .slice B a.Terms.length c, .slice B1 a.Out.length c1], 6⟩, ⟨some ⟨b1, 0, none⟩, 57, [.int .i64 0, .int .i64 0, .int .i64 0, .int .i64 0, .slice none 0 0, .slice none 0 0], 6⟩, ⟨some ⟨b2, 0, none⟩, 57, [.int .i64 a.Ins, .int .i64 a.Vars, .int .i64 0, .int .i64 0, .slice none 0 0, .slice none 0 0], 6⟩] [⟨B, (a.Terms.flatMap enc_Term)⟩, ⟨B1, (a.Out.flatMap enc_Affine)⟩] := hS5
  refine rw_nil ?_
  refine cw_seq ?_
  refine cw_region ?_
  refine sq 10 rfl rfl (Y_fieldAddr (B := some ⟨b, 0, none⟩) (i := 0) (s := 0) k_fd_50_2_2_3 k_sz_3_1 rfl rfl) ?_
  refine sq 11 rfl rfl (Y_load1 (B := some ⟨b, 0, none⟩) (i := 2) (cs := [.int .i64 a.Ins, .int .i64 a.Vars, .int .i64 a.Root, .int .i64 a.Phase, .slice B a.Terms.length c, .slice B1 a.Out.length c1]) (v := .int .i64 a.Root) k_sc_3 rfl rfl (hS5.cf (i := 0) rfl) rfl) ?_
  refine sq 12 rfl rfl (Y_fieldAddr (B := some ⟨b2, 0, none⟩) (i := 0) (s := 0) k_fd_57_2_2_3 k_sz_3_1 rfl rfl) ?_
  refine ss0 rfl rfl (Ys_store (i := 2) (s := 1) (B := some ⟨b2, 0, none⟩) (T' := 57) (v := .int .i64 a.Root) (vs := [.int .i64 a.Root]) (k := 2) (cs' := [.int .i64 a.Ins, .int .i64 a.Vars, .int .i64 a.Root, .int .i64 0, .slice none 0 0, .slice none 0 0]) hS5 k_sz_3_1 rfl rfl rfl rfl rfl rfl rfl (Nat.le_of_ble_eq_true rfl) rfl rfl) ?_
  rintro _ w_5 ⟨rfl, hS6⟩
  have hS6 : ST w0 [] _ [⟨some ⟨b, 0, none⟩, 50, [.int .i64 a.Ins, .int .i64 a.Vars, .int .i64 a.Root, .int .i64 a.Phase, .slice B a.Terms.length c, .slice B1 a.Out.length c1], 6⟩, ⟨some ⟨b1, 0, none⟩, 57, [.int .i64 0, .int .i64 0, .int .i64 0, .int .i64 0, .slice none 0 0, .slice none 0 0], 6⟩, ⟨some ⟨b2, 0, none⟩, 57, [.int .i64 a.Ins, .int .i64 a.Vars, .int .i64 a.Root, .int .i64 0, .slice none 0 0, .slice none 0 0], 6⟩] [⟨B, (a.Terms.flatMap enc_Term)⟩, ⟨B1, (a.Out.flatMap enc_Affine)⟩] := hS6
  refine rw_nil ?_
  refine cw_seq ?_
  refine cw_region ?_
  refine sq 13 rfl rfl (Y_fieldAddr (B := some ⟨b, 0, none⟩) (i := 0) (s := 0) k_fd_50_3_3_3 k_sz_3_1 rfl rfl) ?_
  refine sq 14 rfl rfl (Y_load1 (B := some ⟨b, 0, none⟩) (i := 3) (cs := [.int .i64 a.Ins, .int .i64 a.Vars, .int .i64 a.Root, .int .i64 a.Phase, .slice B a.Terms.length c, .slice B1 a.Out.length c1]) (v := .int .i64 a.Phase) k_sc_3 rfl rfl (hS6.cf (i := 0) rfl) rfl) ?_
  refine sq 15 rfl rfl (Y_fieldAddr (B := some ⟨b2, 0, none⟩) (i := 0) (s := 0) k_fd_57_3_3_3 k_sz_3_1 rfl rfl) ?_
  refine ss0 rfl rfl (Ys_store (i := 2) (s := 1) (B := some ⟨b2, 0, none⟩) (T' := 57) (v := .int .i64 a.Phase) (vs := [.int .i64 a.Phase]) (k := 3) (cs' := [.int .i64 a.Ins, .int .i64 a.Vars, .int .i64 a.Root, .int .i64 a.Phase, .slice none 0 0, .slice none 0 0]) hS6 k_sz_3_1 rfl rfl rfl rfl rfl rfl rfl (Nat.le_of_ble_eq_true rfl) rfl rfl) ?_
  rintro _ w_6 ⟨rfl, hS7⟩
  have hS7 : ST w0 [] _ [⟨some ⟨b, 0, none⟩, 50, [.int .i64 a.Ins, .int .i64 a.Vars, .int .i64 a.Root, .int .i64 a.Phase, .slice B a.Terms.length c, .slice B1 a.Out.length c1], 6⟩, ⟨some ⟨b1, 0, none⟩, 57, [.int .i64 0, .int .i64 0, .int .i64 0, .int .i64 0, .slice none 0 0, .slice none 0 0], 6⟩, ⟨some ⟨b2, 0, none⟩, 57, [.int .i64 a.Ins, .int .i64 a.Vars, .int .i64 a.Root, .int .i64 a.Phase, .slice none 0 0, .slice none 0 0], 6⟩] [⟨B, (a.Terms.flatMap enc_Term)⟩, ⟨B1, (a.Out.flatMap enc_Affine)⟩] := hS7
  refine rw_nil ?_
  refine cw_seq ?_
  refine cw_region ?_
  refine sq 16 rfl rfl (Y_fieldAddr (B := some ⟨b, 0, none⟩) (i := 0) (s := 0) k_fd_50_4_4_47 k_sz_47_1 rfl rfl) ?_
  refine sq 17 rfl rfl (Y_load1 (B := some ⟨b, 0, none⟩) (i := 4) (cs := [.int .i64 a.Ins, .int .i64 a.Vars, .int .i64 a.Root, .int .i64 a.Phase, .slice B a.Terms.length c, .slice B1 a.Out.length c1]) (v := .slice B a.Terms.length c) k_sc_47 rfl rfl (hS7.cf (i := 0) rfl) rfl) ?_
  obtain ⟨r_1, hc, hF⟩ := bind_inv hF
  refine sc 18 rfl rfl (Yc_func (g := 52) (vs := [.slice B a.Terms.length c]) k_call_52 rfl (mc rfl mn) (c_laws_toTermS a.Terms B c a.Terms.length _ rfl (hS7.inn0 [(true, 0)] rfl) hc)) ?_
  rintro _ w_7 ⟨B4, c4, rfl, hd⟩
  have hS8 := hS7.out0 hd
  have hS8 : ST w0 [] _ [⟨some ⟨b, 0, none⟩, 50, [.int .i64 a.Ins, .int .i64 a.Vars, .int .i64 a.Root, .int .i64 a.Phase, .slice B a.Terms.length c, .slice B1 a.Out.length c1], 6⟩, ⟨some ⟨b1, 0, none⟩, 57, [.int .i64 0, .int .i64 0, .int .i64 0, .int .i64 0, .slice none 0 0, .slice none 0 0], 6⟩, ⟨some ⟨b2, 0, none⟩, 57, [.int .i64 a.Ins, .int .i64 a.Vars, .int .i64 a.Root, .int .i64 a.Phase, .slice none 0 0, .slice none 0 0], 6⟩, ⟨B4, 136, (r_1.flatMap enc_Term), c4 * 2⟩] [⟨B, (a.Terms.flatMap enc_Term)⟩, ⟨B1, (a.Out.flatMap enc_Affine)⟩] := hS8
  refine sq 19 rfl rfl (Y_fieldAddr (B := some ⟨b2, 0, none⟩) (i := 0) (s := 0) k_fd_57_4_4_54 k_sz_54_1 rfl rfl) ?_
  refine ss0 rfl rfl (Ys_store (i := 2) (s := 1) (B := some ⟨b2, 0, none⟩) (T' := 57) (v := .slice B4 r_1.length c4) (vs := [.slice B4 r_1.length c4]) (k := 4) (cs' := [.int .i64 a.Ins, .int .i64 a.Vars, .int .i64 a.Root, .int .i64 a.Phase, .slice B4 r_1.length c4, .slice none 0 0]) hS8 k_sz_54_1 rfl rfl rfl rfl rfl rfl rfl (Nat.le_of_ble_eq_true rfl) rfl rfl) ?_
  rintro _ w_8 ⟨rfl, hS9⟩
  have hS9 : ST w0 [] _ [⟨some ⟨b, 0, none⟩, 50, [.int .i64 a.Ins, .int .i64 a.Vars, .int .i64 a.Root, .int .i64 a.Phase, .slice B a.Terms.length c, .slice B1 a.Out.length c1], 6⟩, ⟨some ⟨b1, 0, none⟩, 57, [.int .i64 0, .int .i64 0, .int .i64 0, .int .i64 0, .slice none 0 0, .slice none 0 0], 6⟩, ⟨some ⟨b2, 0, none⟩, 57, [.int .i64 a.Ins, .int .i64 a.Vars, .int .i64 a.Root, .int .i64 a.Phase, .slice B4 r_1.length c4, .slice none 0 0], 6⟩, ⟨B4, 136, (r_1.flatMap enc_Term), c4 * 2⟩] [⟨B, (a.Terms.flatMap enc_Term)⟩, ⟨B1, (a.Out.flatMap enc_Affine)⟩] := hS9
  refine rw_nil ?_
  refine cw_seq ?_
  refine cw_region ?_
  refine sq 20 rfl rfl (Y_fieldAddr (B := some ⟨b, 0, none⟩) (i := 0) (s := 0) k_fd_50_5_5_48 k_sz_48_1 rfl rfl) ?_
  refine sq 21 rfl rfl (Y_load1 (B := some ⟨b, 0, none⟩) (i := 5) (cs := [.int .i64 a.Ins, .int .i64 a.Vars, .int .i64 a.Root, .int .i64 a.Phase, .slice B a.Terms.length c, .slice B1 a.Out.length c1]) (v := .slice B1 a.Out.length c1) k_sc_48 rfl rfl (hS9.cf (i := 0) rfl) rfl) ?_
  obtain ⟨r_2, hc1, hF⟩ := bind_inv hF
  refine sc 22 rfl rfl (Yc_func (g := 53) (vs := [.slice B1 a.Out.length c1]) k_call_53 rfl (mc rfl mn) (c_laws_toAffineS a.Out B1 c1 a.Out.length _ rfl (hS9.inn0 [(true, 1)] rfl) hc1)) ?_
  rintro _ w_9 ⟨B5, c5, rfl, hd1⟩
  have hS10 := hS9.out0 hd1
  have hS10 : ST w0 [] _ [⟨some ⟨b, 0, none⟩, 50, [.int .i64 a.Ins, .int .i64 a.Vars, .int .i64 a.Root, .int .i64 a.Phase, .slice B a.Terms.length c, .slice B1 a.Out.length c1], 6⟩, ⟨some ⟨b1, 0, none⟩, 57, [.int .i64 0, .int .i64 0, .int .i64 0, .int .i64 0, .slice none 0 0, .slice none 0 0], 6⟩, ⟨some ⟨b2, 0, none⟩, 57, [.int .i64 a.Ins, .int .i64 a.Vars, .int .i64 a.Root, .int .i64 a.Phase, .slice B4 r_1.length c4, .slice none 0 0], 6⟩, ⟨B4, 136, (r_1.flatMap enc_Term), c4 * 2⟩, ⟨B5, 61, (r_2.flatMap enc_Affine), c5 * 2⟩] [⟨B, (a.Terms.flatMap enc_Term)⟩, ⟨B1, (a.Out.flatMap enc_Affine)⟩] := hS10
  refine sq 23 rfl rfl (Y_fieldAddr (B := some ⟨b2, 0, none⟩) (i := 0) (s := 0) k_fd_57_5_5_55 k_sz_55_1 rfl rfl) ?_
  refine ss0 rfl rfl (Ys_store (i := 2) (s := 1) (B := some ⟨b2, 0, none⟩) (T' := 57) (v := .slice B5 r_2.length c5) (vs := [.slice B5 r_2.length c5]) (k := 5) (cs' := [.int .i64 a.Ins, .int .i64 a.Vars, .int .i64 a.Root, .int .i64 a.Phase, .slice B4 r_1.length c4, .slice B5 r_2.length c5]) hS10 k_sz_55_1 rfl rfl rfl rfl rfl rfl rfl (Nat.le_of_ble_eq_true rfl) rfl rfl) ?_
  rintro _ w_10 ⟨rfl, hS11⟩
  have hS11 : ST w0 [] _ [⟨some ⟨b, 0, none⟩, 50, [.int .i64 a.Ins, .int .i64 a.Vars, .int .i64 a.Root, .int .i64 a.Phase, .slice B a.Terms.length c, .slice B1 a.Out.length c1], 6⟩, ⟨some ⟨b1, 0, none⟩, 57, [.int .i64 0, .int .i64 0, .int .i64 0, .int .i64 0, .slice none 0 0, .slice none 0 0], 6⟩, ⟨some ⟨b2, 0, none⟩, 57, [.int .i64 a.Ins, .int .i64 a.Vars, .int .i64 a.Root, .int .i64 a.Phase, .slice B4 r_1.length c4, .slice B5 r_2.length c5], 6⟩, ⟨B4, 136, (r_1.flatMap enc_Term), c4 * 2⟩, ⟨B5, 61, (r_2.flatMap enc_Affine), c5 * 2⟩] [⟨B, (a.Terms.flatMap enc_Term)⟩, ⟨B1, (a.Out.flatMap enc_Affine)⟩] := hS11
  refine rw_nil ?_
  refine cw_seq ?_
  refine cw_region ?_
  refine sq 24 rfl rfl (Y_loadA (B := some ⟨b2, 0, none⟩) (i := 0) (cs := [.int .i64 a.Ins, .int .i64 a.Vars, .int .i64 a.Root, .int .i64 a.Phase, .slice B4 r_1.length c4, .slice B5 r_2.length c5]) (vs := [.int .i64 a.Ins, .int .i64 a.Vars, .int .i64 a.Root, .int .i64 a.Phase, .slice B4 r_1.length c4, .slice B5 r_2.length c5]) k_ag_57 k_sz_57_6 rfl rfl (hS11.cf (i := 2) rfl) rfl rfl) ?_
  refine ss0 rfl rfl (Ys_store (i := 1) (s := 6) (B := some ⟨b1, 0, none⟩) (T' := 57) (v := .agg #[.int .i64 a.Ins, .int .i64 a.Vars, .int .i64 a.Root, .int .i64 a.Phase, .slice B4 r_1.length c4, .slice B5 r_2.length c5]) (vs := [.int .i64 a.Ins, .int .i64 a.Vars, .int .i64 a.Root, .int .i64 a.Phase, .slice B4 r_1.length c4, .slice B5 r_2.length c5]) (k := 0) (cs' := [.int .i64 a.Ins, .int .i64 a.Vars, .int .i64 a.Root, .int .i64 a.Phase, .slice B4 r_1.length c4, .slice B5 r_2.length c5]) hS11 k_sz_57_6 rfl rfl rfl rfl rfl rfl rfl (Nat.le_of_ble_eq_true rfl) rfl rfl) ?_
  rintro _ w_11 ⟨rfl, hS12⟩
  have hS12 : ST w0 [] _ [⟨some ⟨b, 0, none⟩, 50, [.int .i64 a.Ins, .int .i64 a.Vars, .int .i64 a.Root, .int .i64 a.Phase, .slice B a.Terms.length c, .slice B1 a.Out.length c1], 6⟩, ⟨some ⟨b1, 0, none⟩, 57, [.int .i64 a.Ins, .int .i64 a.Vars, .int .i64 a.Root, .int .i64 a.Phase, .slice B4 r_1.length c4, .slice B5 r_2.length c5], 6⟩, ⟨some ⟨b2, 0, none⟩, 57, [.int .i64 a.Ins, .int .i64 a.Vars, .int .i64 a.Root, .int .i64 a.Phase, .slice B4 r_1.length c4, .slice B5 r_2.length c5], 6⟩, ⟨B4, 136, (r_1.flatMap enc_Term), c4 * 2⟩, ⟨B5, 61, (r_2.flatMap enc_Affine), c5 * 2⟩] [⟨B, (a.Terms.flatMap enc_Term)⟩, ⟨B1, (a.Out.flatMap enc_Affine)⟩] := hS12
  refine rw_nil ?_
  refine cw_ret ?_
  obtain rfl := some_inj hF
  exact ret1 Try.results22 (v1 := .agg #[.int .i64 a.Ins, .int .i64 a.Vars, .int .i64 a.Root, .int .i64 a.Phase, .slice B4 r_1.length c4, .slice B5 r_2.length c5]) (resAt_cellA (B := some ⟨b1, 0, none⟩) (i := 0) (cs := [.int .i64 a.Ins, .int .i64 a.Vars, .int .i64 a.Root, .int .i64 a.Phase, .slice B4 r_1.length c4, .slice B5 r_2.length c5]) (vs := [.int .i64 a.Ins, .int .i64 a.Vars, .int .i64 a.Root, .int .i64 a.Phase, .slice B4 r_1.length c4, .slice B5 r_2.length c5]) rfl k_ag_57 k_sz_57_6 (hS12.cf (i := 1) rfl) rfl rfl) ⟨B4, c4, B5, c5, rfl, (ST.subR (R' := []) (hS12.sel [3, 4] rfl rfl) (fun _ h => by cases h))⟩

theorem c_impl_within (n : Int) (low : Int) (high : Int)  (w0 : World)  (hS : ST w0 [] w0 [] []) {r_ : Bool} (hF : F_impl_within n low high = some r_) :
    CV Try.prog 73 #[.int .i64 n, .int .i64 low, .int .i64 high] w0 (fun v w' => v = .bool r_ ∧ ST w0 [] w' [] []) := by
  unfold F_impl_within at hF
  refine cv_of_cw 15 Try.func73 rfl Try.ntmps73 rfl ?_
  refine cw_seq ?_
  refine cw_region ?_
  refine sq 6 rfl rfl (Y_assign (v := .bool false) rfl rfl) ?_
  refine rw_nil ?_
  refine cw_seq ?_
  refine cw_region ?_
  refine sq 7 rfl rfl (Y_move (v := .int .i64 low) rfl rfl) ?_
  refine sq 8 rfl rfl (Y_move (v := .int .i64 n) rfl rfl) ?_
  refine sq 9 rfl rfl (Y_le (k := .i64) (a := low) (b := n) rfl rfl rfl) ?_
  refine sq 10 rfl rfl (Y_move (v := .bool (decide (low ≤ n))) rfl rfl) ?_
  refine sgq 11 (B := (decide (low ≤ n))) (v := .int .i64 n) rfl rfl (wt_t (gd_of (t := 10) (by kernel_rfl) rfl)) (fun hg => (Y_move (v := .int .i64 n) rfl rfl)) ?_
  refine sgq 12 (B := (decide (low ≤ n))) (v := .int .i64 high) rfl rfl (wt_t (gd_of (t := 10) (by kernel_rfl) rfl)) (fun hg1 => (Y_move (v := .int .i64 high) rfl rfl)) ?_
  refine sgq 13 (B := (decide (low ≤ n))) (v := .bool (decide (n ≤ high))) rfl rfl (wt_t (gd_of (t := 10) (by kernel_rfl) rfl)) (fun hg2 => (Y_le (k := .i64) (a := n) (b := high) rfl (gv_of (B := (decide (low ≤ n))) (v := .int .i64 n) hg2) (gv_of (B := (decide (low ≤ n))) (v := .int .i64 high) hg2))) ?_
  refine sq 14 rfl rfl (Y_and (b := (decide (low ≤ n))) (z := (decide (n ≤ high))) rfl rfl rfl rfl) ?_
  refine sq 6 rfl rfl (Y_assign (v := .bool ((decide (low ≤ n)) && (decide (n ≤ high)))) rfl rfl) ?_
  refine rw_nil ?_
  refine cw_ret ?_
  obtain rfl := some_inj hF
  exact ret1 Try.results73 (v1 := .bool ((decide (low ≤ n)) && (decide (n ≤ high)))) (resAt_tmp rfl) ⟨rfl, (ST.subR (R' := []) (hS.sel [] rfl rfl) (fun _ h => by cases h))⟩

theorem c_math_bits_OnesCount64 (x : Int)  (w0 : World)  (hS : ST w0 [] w0 [] []) {r_ : Int} (hF : F_math_bits_OnesCount64 x = some r_) :
    CV Try.prog 145 #[.int .u64 x] w0 (fun v w' => v = .int .i64 r_ ∧ ST w0 [] w' [] []) := by
  unfold F_math_bits_OnesCount64 at hF
  refine cv_of_cw 35 Try.func145 rfl Try.ntmps145 rfl ?_
  refine cw_seq ?_
  refine cw_region ?_
  refine sq 2 rfl rfl (Y_assign (v := .int .i64 0) rfl rfl) ?_
  refine rw_nil ?_
  refine cw_seq ?_
  refine cw_region ?_
  refine sq 3 rfl rfl (Y_move (v := .int .u64 x) rfl rfl) ?_
  refine sq 4 rfl rfl (Y_shr (k := .u64) (a := x) (k' := .u64) (b := 1) rfl rfl rfl (by decide)) ?_
  refine sq 5 rfl rfl (Y_band (k := .u64) (a := (shrK .u64 x 1)) (b := 6148914691236517205) rfl rfl rfl) ?_
  refine sq 6 rfl rfl (Y_move (v := .int .u64 x) rfl rfl) ?_
  refine sq 7 rfl rfl (Y_band (k := .u64) (a := x) (b := 6148914691236517205) rfl rfl rfl) ?_
  refine sq 8 rfl rfl (Y_add (k := .u64) (a := (bits .and .u64 (shrK .u64 x 1) 6148914691236517205)) (b := (bits .and .u64 x 6148914691236517205)) rfl rfl rfl) ?_
  refine sq 0 rfl rfl (Y_assign (v := .int .u64 (IntKind.u64.wrap ((bits .and .u64 (shrK .u64 x 1) 6148914691236517205) + (bits .and .u64 x 6148914691236517205)))) rfl rfl) ?_
  refine rw_nil ?_
  refine cw_seq ?_
  refine cw_region ?_
  refine sq 9 rfl rfl (Y_move (v := .int .u64 (IntKind.u64.wrap ((bits .and .u64 (shrK .u64 x 1) 6148914691236517205) + (bits .and .u64 x 6148914691236517205)))) rfl rfl) ?_
  refine sq 10 rfl rfl (Y_shr (k := .u64) (a := (IntKind.u64.wrap ((bits .and .u64 (shrK .u64 x 1) 6148914691236517205) + (bits .and .u64 x 6148914691236517205)))) (k' := .u64) (b := 2) rfl rfl rfl (by decide)) ?_
  refine sq 11 rfl rfl (Y_band (k := .u64) (a := (shrK .u64 (IntKind.u64.wrap ((bits .and .u64 (shrK .u64 x 1) 6148914691236517205) + (bits .and .u64 x 6148914691236517205))) 2)) (b := 3689348814741910323) rfl rfl rfl) ?_
  refine sq 12 rfl rfl (Y_move (v := .int .u64 (IntKind.u64.wrap ((bits .and .u64 (shrK .u64 x 1) 6148914691236517205) + (bits .and .u64 x 6148914691236517205)))) rfl rfl) ?_
  refine sq 13 rfl rfl (Y_band (k := .u64) (a := (IntKind.u64.wrap ((bits .and .u64 (shrK .u64 x 1) 6148914691236517205) + (bits .and .u64 x 6148914691236517205)))) (b := 3689348814741910323) rfl rfl rfl) ?_
  refine sq 14 rfl rfl (Y_add (k := .u64) (a := (bits .and .u64 (shrK .u64 (IntKind.u64.wrap ((bits .and .u64 (shrK .u64 x 1) 6148914691236517205) + (bits .and .u64 x 6148914691236517205))) 2) 3689348814741910323)) (b := (bits .and .u64 (IntKind.u64.wrap ((bits .and .u64 (shrK .u64 x 1) 6148914691236517205) + (bits .and .u64 x 6148914691236517205))) 3689348814741910323)) rfl rfl rfl) ?_
  refine sq 0 rfl rfl (Y_assign (v := .int .u64 (IntKind.u64.wrap ((bits .and .u64 (shrK .u64 (IntKind.u64.wrap ((bits .and .u64 (shrK .u64 x 1) 6148914691236517205) + (bits .and .u64 x 6148914691236517205))) 2) 3689348814741910323) + (bits .and .u64 (IntKind.u64.wrap ((bits .and .u64 (shrK .u64 x 1) 6148914691236517205) + (bits .and .u64 x 6148914691236517205))) 3689348814741910323)))) rfl rfl) ?_
  refine rw_nil ?_
  refine cw_seq ?_
  refine cw_region ?_
  refine sq 15 rfl rfl (Y_move (v := .int .u64 (IntKind.u64.wrap ((bits .and .u64 (shrK .u64 (IntKind.u64.wrap ((bits .and .u64 (shrK .u64 x 1) 6148914691236517205) + (bits .and .u64 x 6148914691236517205))) 2) 3689348814741910323) + (bits .and .u64 (IntKind.u64.wrap ((bits .and .u64 (shrK .u64 x 1) 6148914691236517205) + (bits .and .u64 x 6148914691236517205))) 3689348814741910323)))) rfl rfl) ?_
  refine sq 16 rfl rfl (Y_shr (k := .u64) (a := (IntKind.u64.wrap ((bits .and .u64 (shrK .u64 (IntKind.u64.wrap ((bits .and .u64 (shrK .u64 x 1) 6148914691236517205) + (bits .and .u64 x 6148914691236517205))) 2) 3689348814741910323) + (bits .and .u64 (IntKind.u64.wrap ((bits .and .u64 (shrK .u64 x 1) 6148914691236517205) + (bits .and .u64 x 6148914691236517205))) 3689348814741910323)))) (k' := .u64) (b := 4) rfl rfl rfl (by decide)) ?_
  refine sq 17 rfl rfl (Y_move (v := .int .u64 (IntKind.u64.wrap ((bits .and .u64 (shrK .u64 (IntKind.u64.wrap ((bits .and .u64 (shrK .u64 x 1) 6148914691236517205) + (bits .and .u64 x 6148914691236517205))) 2) 3689348814741910323) + (bits .and .u64 (IntKind.u64.wrap ((bits .and .u64 (shrK .u64 x 1) 6148914691236517205) + (bits .and .u64 x 6148914691236517205))) 3689348814741910323)))) rfl rfl) ?_
  refine sq 18 rfl rfl (Y_add (k := .u64) (a := (shrK .u64 (IntKind.u64.wrap ((bits .and .u64 (shrK .u64 (IntKind.u64.wrap ((bits .and .u64 (shrK .u64 x 1) 6148914691236517205) + (bits .and .u64 x 6148914691236517205))) 2) 3689348814741910323) + (bits .and .u64 (IntKind.u64.wrap ((bits .and .u64 (shrK .u64 x 1) 6148914691236517205) + (bits .and .u64 x 6148914691236517205))) 3689348814741910323))) 4)) (b := (IntKind.u64.wrap ((bits .and .u64 (shrK .u64 (IntKind.u64.wrap ((bits .and .u64 (shrK .u64 x 1) 6148914691236517205) + (bits .and .u64 x 6148914691236517205))) 2) 3689348814741910323) + (bits .and .u64 (IntKind.u64.wrap ((bits .and .u64 (shrK .u64 x 1) 6148914691236517205) + (bits .and .u64 x 6148914691236517205))) 3689348814741910323)))) rfl rfl rfl) ?_
  refine sq 19 rfl rfl (Y_band (k := .u64) (a := (IntKind.u64.wrap ((shrK .u64 (IntKind.u64.wrap ((bits .and .u64 (shrK .u64 (IntKind.u64.wrap ((bits .and .u64 (shrK .u64 x 1) 6148914691236517205) + (bits .and .u64 x 6148914691236517205))) 2) 3689348814741910323) + (bits .and .u64 (IntKind.u64.wrap ((bits .and .u64 (shrK .u64 x 1) 6148914691236517205) + (bits .and .u64 x 6148914691236517205))) 3689348814741910323))) 4) + (IntKind.u64.wrap ((bits .and .u64 (shrK .u64 (IntKind.u64.wrap ((bits .and .u64 (shrK .u64 x 1) 6148914691236517205) + (bits .and .u64 x 6148914691236517205))) 2) 3689348814741910323) + (bits .and .u64 (IntKind.u64.wrap ((bits .and .u64 (shrK .u64 x 1) 6148914691236517205) + (bits .and .u64 x 6148914691236517205))) 3689348814741910323)))))) (b := 1085102592571150095) rfl rfl rfl) ?_
  refine sq 0 rfl rfl (Y_assign (v := .int .u64 (bits .and .u64 (IntKind.u64.wrap ((shrK .u64 (IntKind.u64.wrap ((bits .and .u64 (shrK .u64 (IntKind.u64.wrap ((bits .and .u64 (shrK .u64 x 1) 6148914691236517205) + (bits .and .u64 x 6148914691236517205))) 2) 3689348814741910323) + (bits .and .u64 (IntKind.u64.wrap ((bits .and .u64 (shrK .u64 x 1) 6148914691236517205) + (bits .and .u64 x 6148914691236517205))) 3689348814741910323))) 4) + (IntKind.u64.wrap ((bits .and .u64 (shrK .u64 (IntKind.u64.wrap ((bits .and .u64 (shrK .u64 x 1) 6148914691236517205) + (bits .and .u64 x 6148914691236517205))) 2) 3689348814741910323) + (bits .and .u64 (IntKind.u64.wrap ((bits .and .u64 (shrK .u64 x 1) 6148914691236517205) + (bits .and .u64 x 6148914691236517205))) 3689348814741910323))))) 1085102592571150095)) rfl rfl) ?_
  refine rw_nil ?_
  refine cw_seq ?_
  refine cw_region ?_
  refine sq 20 rfl rfl (Y_move (v := .int .u64 (bits .and .u64 (IntKind.u64.wrap ((shrK .u64 (IntKind.u64.wrap ((bits .and .u64 (shrK .u64 (IntKind.u64.wrap ((bits .and .u64 (shrK .u64 x 1) 6148914691236517205) + (bits .and .u64 x 6148914691236517205))) 2) 3689348814741910323) + (bits .and .u64 (IntKind.u64.wrap ((bits .and .u64 (shrK .u64 x 1) 6148914691236517205) + (bits .and .u64 x 6148914691236517205))) 3689348814741910323))) 4) + (IntKind.u64.wrap ((bits .and .u64 (shrK .u64 (IntKind.u64.wrap ((bits .and .u64 (shrK .u64 x 1) 6148914691236517205) + (bits .and .u64 x 6148914691236517205))) 2) 3689348814741910323) + (bits .and .u64 (IntKind.u64.wrap ((bits .and .u64 (shrK .u64 x 1) 6148914691236517205) + (bits .and .u64 x 6148914691236517205))) 3689348814741910323))))) 1085102592571150095)) rfl rfl) ?_
  refine sq 21 rfl rfl (Y_move (v := .int .u64 (bits .and .u64 (IntKind.u64.wrap ((shrK .u64 (IntKind.u64.wrap ((bits .and .u64 (shrK .u64 (IntKind.u64.wrap ((bits .and .u64 (shrK .u64 x 1) 6148914691236517205) + (bits .and .u64 x 6148914691236517205))) 2) 3689348814741910323) + (bits .and .u64 (IntKind.u64.wrap ((bits .and .u64 (shrK .u64 x 1) 6148914691236517205) + (bits .and .u64 x 6148914691236517205))) 3689348814741910323))) 4) + (IntKind.u64.wrap ((bits .and .u64 (shrK .u64 (IntKind.u64.wrap ((bits .and .u64 (shrK .u64 x 1) 6148914691236517205) + (bits .and .u64 x 6148914691236517205))) 2) 3689348814741910323) + (bits .and .u64 (IntKind.u64.wrap ((bits .and .u64 (shrK .u64 x 1) 6148914691236517205) + (bits .and .u64 x 6148914691236517205))) 3689348814741910323))))) 1085102592571150095)) rfl rfl) ?_
  refine sq 22 rfl rfl (Y_shr (k := .u64) (a := (bits .and .u64 (IntKind.u64.wrap ((shrK .u64 (IntKind.u64.wrap ((bits .and .u64 (shrK .u64 (IntKind.u64.wrap ((bits .and .u64 (shrK .u64 x 1) 6148914691236517205) + (bits .and .u64 x 6148914691236517205))) 2) 3689348814741910323) + (bits .and .u64 (IntKind.u64.wrap ((bits .and .u64 (shrK .u64 x 1) 6148914691236517205) + (bits .and .u64 x 6148914691236517205))) 3689348814741910323))) 4) + (IntKind.u64.wrap ((bits .and .u64 (shrK .u64 (IntKind.u64.wrap ((bits .and .u64 (shrK .u64 x 1) 6148914691236517205) + (bits .and .u64 x 6148914691236517205))) 2) 3689348814741910323) + (bits .and .u64 (IntKind.u64.wrap ((bits .and .u64 (shrK .u64 x 1) 6148914691236517205) + (bits .and .u64 x 6148914691236517205))) 3689348814741910323))))) 1085102592571150095)) (k' := .u64) (b := 8) rfl rfl rfl (by decide)) ?_
  refine sq 23 rfl rfl (Y_add (k := .u64) (a := (bits .and .u64 (IntKind.u64.wrap ((shrK .u64 (IntKind.u64.wrap ((bits .and .u64 (shrK .u64 (IntKind.u64.wrap ((bits .and .u64 (shrK .u64 x 1) 6148914691236517205) + (bits .and .u64 x 6148914691236517205))) 2) 3689348814741910323) + (bits .and .u64 (IntKind.u64.wrap ((bits .and .u64 (shrK .u64 x 1) 6148914691236517205) + (bits .and .u64 x 6148914691236517205))) 3689348814741910323))) 4) + (IntKind.u64.wrap ((bits .and .u64 (shrK .u64 (IntKind.u64.wrap ((bits .and .u64 (shrK .u64 x 1) 6148914691236517205) + (bits .and .u64 x 6148914691236517205))) 2) 3689348814741910323) + (bits .and .u64 (IntKind.u64.wrap ((bits .and .u64 (shrK .u64 x 1) 6148914691236517205) + (bits .and .u64 x 6148914691236517205))) 3689348814741910323))))) 1085102592571150095)) (b := (shrK .u64 (bits .and .u64 (IntKind.u64.wrap ((shrK .u64 (IntKind.u64.wrap ((bits .and .u64 (shrK .u64 (IntKind.u64.wrap ((bits .and .u64 (shrK .u64 x 1) 6148914691236517205) + (bits .and .u64 x 6148914691236517205))) 2) 3689348814741910323) + (bits .and .u64 (IntKind.u64.wrap ((bits .and .u64 (shrK .u64 x 1) 6148914691236517205) + (bits .and .u64 x 6148914691236517205))) 3689348814741910323))) 4) + (IntKind.u64.wrap ((bits .and .u64 (shrK .u64 (IntKind.u64.wrap ((bits .and .u64 (shrK .u64 x 1) 6148914691236517205) + (bits .and .u64 x 6148914691236517205))) 2) 3689348814741910323) + (bits .and .u64 (IntKind.u64.wrap ((bits .and .u64 (shrK .u64 x 1) 6148914691236517205) + (bits .and .u64 x 6148914691236517205))) 3689348814741910323))))) 1085102592571150095) 8)) rfl rfl rfl) ?_
  refine sq 0 rfl rfl (Y_assign (v := .int .u64 (IntKind.u64.wrap ((bits .and .u64 (IntKind.u64.wrap ((shrK .u64 (IntKind.u64.wrap ((bits .and .u64 (shrK .u64 (IntKind.u64.wrap ((bits .and .u64 (shrK .u64 x 1) 6148914691236517205) + (bits .and .u64 x 6148914691236517205))) 2) 3689348814741910323) + (bits .and .u64 (IntKind.u64.wrap ((bits .and .u64 (shrK .u64 x 1) 6148914691236517205) + (bits .and .u64 x 6148914691236517205))) 3689348814741910323))) 4) + (IntKind.u64.wrap ((bits .and .u64 (shrK .u64 (IntKind.u64.wrap ((bits .and .u64 (shrK .u64 x 1) 6148914691236517205) + (bits .and .u64 x 6148914691236517205))) 2) 3689348814741910323) + (bits .and .u64 (IntKind.u64.wrap ((bits .and .u64 (shrK .u64 x 1) 6148914691236517205) + (bits .and .u64 x 6148914691236517205))) 3689348814741910323))))) 1085102592571150095) + (shrK .u64 (bits .and .u64 (IntKind.u64.wrap ((shrK .u64 (IntKind.u64.wrap ((bits .and .u64 (shrK .u64 (IntKind.u64.wrap ((bits .and .u64 (shrK .u64 x 1) 6148914691236517205) + (bits .and .u64 x 6148914691236517205))) 2) 3689348814741910323) + (bits .and .u64 (IntKind.u64.wrap ((bits .and .u64 (shrK .u64 x 1) 6148914691236517205) + (bits .and .u64 x 6148914691236517205))) 3689348814741910323))) 4) + (IntKind.u64.wrap ((bits .and .u64 (shrK .u64 (IntKind.u64.wrap ((bits .and .u64 (shrK .u64 x 1) 6148914691236517205) + (bits .and .u64 x 6148914691236517205))) 2) 3689348814741910323) + (bits .and .u64 (IntKind.u64.wrap ((bits .and .u64 (shrK .u64 x 1) 6148914691236517205) + (bits .and .u64 x 6148914691236517205))) 3689348814741910323))))) 1085102592571150095) 8)))) rfl rfl) ?_
  refine rw_nil ?_
  refine cw_seq ?_
  refine cw_region ?_
  refine sq 24 rfl rfl (Y_move (v := .int .u64 (IntKind.u64.wrap ((bits .and .u64 (IntKind.u64.wrap ((shrK .u64 (IntKind.u64.wrap ((bits .and .u64 (shrK .u64 (IntKind.u64.wrap ((bits .and .u64 (shrK .u64 x 1) 6148914691236517205) + (bits .and .u64 x 6148914691236517205))) 2) 3689348814741910323) + (bits .and .u64 (IntKind.u64.wrap ((bits .and .u64 (shrK .u64 x 1) 6148914691236517205) + (bits .and .u64 x 6148914691236517205))) 3689348814741910323))) 4) + (IntKind.u64.wrap ((bits .and .u64 (shrK .u64 (IntKind.u64.wrap ((bits .and .u64 (shrK .u64 x 1) 6148914691236517205) + (bits .and .u64 x 6148914691236517205))) 2) 3689348814741910323) + (bits .and .u64 (IntKind.u64.wrap ((bits .and .u64 (shrK .u64 x 1) 6148914691236517205) + (bits .and .u64 x 6148914691236517205))) 3689348814741910323))))) 1085102592571150095) + (shrK .u64 (bits .and .u64 (IntKind.u64.wrap ((shrK .u64 (IntKind.u64.wrap ((bits .and .u64 (shrK .u64 (IntKind.u64.wrap ((bits .and .u64 (shrK .u64 x 1) 6148914691236517205) + (bits .and .u64 x 6148914691236517205))) 2) 3689348814741910323) + (bits .and .u64 (IntKind.u64.wrap ((bits .and .u64 (shrK .u64 x 1) 6148914691236517205) + (bits .and .u64 x 6148914691236517205))) 3689348814741910323))) 4) + (IntKind.u64.wrap ((bits .and .u64 (shrK .u64 (IntKind.u64.wrap ((bits .and .u64 (shrK .u64 x 1) 6148914691236517205) + (bits .and .u64 x 6148914691236517205))) 2) 3689348814741910323) + (bits .and .u64 (IntKind.u64.wrap ((bits .and .u64 (shrK .u64 x 1) 6148914691236517205) + (bits .and .u64 x 6148914691236517205))) 3689348814741910323))))) 1085102592571150095) 8)))) rfl rfl) ?_
  refine sq 25 rfl rfl (Y_move (v := .int .u64 (IntKind.u64.wrap ((bits .and .u64 (IntKind.u64.wrap ((shrK .u64 (IntKind.u64.wrap ((bits .and .u64 (shrK .u64 (IntKind.u64.wrap ((bits .and .u64 (shrK .u64 x 1) 6148914691236517205) + (bits .and .u64 x 6148914691236517205))) 2) 3689348814741910323) + (bits .and .u64 (IntKind.u64.wrap ((bits .and .u64 (shrK .u64 x 1) 6148914691236517205) + (bits .and .u64 x 6148914691236517205))) 3689348814741910323))) 4) + (IntKind.u64.wrap ((bits .and .u64 (shrK .u64 (IntKind.u64.wrap ((bits .and .u64 (shrK .u64 x 1) 6148914691236517205) + (bits .and .u64 x 6148914691236517205))) 2) 3689348814741910323) + (bits .and .u64 (IntKind.u64.wrap ((bits .and .u64 (shrK .u64 x 1) 6148914691236517205) + (bits .and .u64 x 6148914691236517205))) 3689348814741910323))))) 1085102592571150095) + (shrK .u64 (bits .and .u64 (IntKind.u64.wrap ((shrK .u64 (IntKind.u64.wrap ((bits .and .u64 (shrK .u64 (IntKind.u64.wrap ((bits .and .u64 (shrK .u64 x 1) 6148914691236517205) + (bits .and .u64 x 6148914691236517205))) 2) 3689348814741910323) + (bits .and .u64 (IntKind.u64.wrap ((bits .and .u64 (shrK .u64 x 1) 6148914691236517205) + (bits .and .u64 x 6148914691236517205))) 3689348814741910323))) 4) + (IntKind.u64.wrap ((bits .and .u64 (shrK .u64 (IntKind.u64.wrap ((bits .and .u64 (shrK .u64 x 1) 6148914691236517205) + (bits .and .u64 x 6148914691236517205))) 2) 3689348814741910323) + (bits .and .u64 (IntKind.u64.wrap ((bits .and .u64 (shrK .u64 x 1) 6148914691236517205) + (bits .and .u64 x 6148914691236517205))) 3689348814741910323))))) 1085102592571150095) 8)))) rfl rfl) ?_
  refine sq 26 rfl rfl (Y_shr (k := .u64) (a := (IntKind.u64.wrap ((bits .and .u64 (IntKind.u64.wrap ((shrK .u64 (IntKind.u64.wrap ((bits .and .u64 (shrK .u64 (IntKind.u64.wrap ((bits .and .u64 (shrK .u64 x 1) 6148914691236517205) + (bits .and .u64 x 6148914691236517205))) 2) 3689348814741910323) + (bits .and .u64 (IntKind.u64.wrap ((bits .and .u64 (shrK .u64 x 1) 6148914691236517205) + (bits .and .u64 x 6148914691236517205))) 3689348814741910323))) 4) + (IntKind.u64.wrap ((bits .and .u64 (shrK .u64 (IntKind.u64.wrap ((bits .and .u64 (shrK .u64 x 1) 6148914691236517205) + (bits .and .u64 x 6148914691236517205))) 2) 3689348814741910323) + (bits .and .u64 (IntKind.u64.wrap ((bits .and .u64 (shrK .u64 x 1) 6148914691236517205) + (bits .and .u64 x 6148914691236517205))) 3689348814741910323))))) 1085102592571150095) + (shrK .u64 (bits .and .u64 (IntKind.u64.wrap ((shrK .u64 (IntKind.u64.wrap ((bits .and .u64 (shrK .u64 (IntKind.u64.wrap ((bits .and .u64 (shrK .u64 x 1) 6148914691236517205) + (bits .and .u64 x 6148914691236517205))) 2) 3689348814741910323) + (bits .and .u64 (IntKind.u64.wrap ((bits .and .u64 (shrK .u64 x 1) 6148914691236517205) + (bits .and .u64 x 6148914691236517205))) 3689348814741910323))) 4) + (IntKind.u64.wrap ((bits .and .u64 (shrK .u64 (IntKind.u64.wrap ((bits .and .u64 (shrK .u64 x 1) 6148914691236517205) + (bits .and .u64 x 6148914691236517205))) 2) 3689348814741910323) + (bits .and .u64 (IntKind.u64.wrap ((bits .and .u64 (shrK .u64 x 1) 6148914691236517205) + (bits .and .u64 x 6148914691236517205))) 3689348814741910323))))) 1085102592571150095) 8)))) (k' := .u64) (b := 16) rfl rfl rfl (by decide)) ?_
  refine sq 27 rfl rfl (Y_add (k := .u64) (a := (IntKind.u64.wrap ((bits .and .u64 (IntKind.u64.wrap ((shrK .u64 (IntKind.u64.wrap ((bits .and .u64 (shrK .u64 (IntKind.u64.wrap ((bits .and .u64 (shrK .u64 x 1) 6148914691236517205) + (bits .and .u64 x 6148914691236517205))) 2) 3689348814741910323) + (bits .and .u64 (IntKind.u64.wrap ((bits .and .u64 (shrK .u64 x 1) 6148914691236517205) + (bits .and .u64 x 6148914691236517205))) 3689348814741910323))) 4) + (IntKind.u64.wrap ((bits .and .u64 (shrK .u64 (IntKind.u64.wrap ((bits .and .u64 (shrK .u64 x 1) 6148914691236517205) + (bits .and .u64 x 6148914691236517205))) 2) 3689348814741910323) + (bits .and .u64 (IntKind.u64.wrap ((bits .and .u64 (shrK .u64 x 1) 6148914691236517205) + (bits .and .u64 x 6148914691236517205))) 3689348814741910323))))) 1085102592571150095) + (shrK .u64 (bits .and .u64 (IntKind.u64.wrap ((shrK .u64 (IntKind.u64.wrap ((bits .and .u64 (shrK .u64 (IntKind.u64.wrap ((bits .and .u64 (shrK .u64 x 1) 6148914691236517205) + (bits .and .u64 x 6148914691236517205))) 2) 3689348814741910323) + (bits .and .u64 (IntKind.u64.wrap ((bits .and .u64 (shrK .u64 x 1) 6148914691236517205) + (bits .and .u64 x 6148914691236517205))) 3689348814741910323))) 4) + (IntKind.u64.wrap ((bits .and .u64 (shrK .u64 (IntKind.u64.wrap ((bits .and .u64 (shrK .u64 x 1) 6148914691236517205) + (bits .and .u64 x 6148914691236517205))) 2) 3689348814741910323) + (bits .and .u64 (IntKind.u64.wrap ((bits .and .u64 (shrK .u64 x 1) 6148914691236517205) + (bits .and .u64 x 6148914691236517205))) 3689348814741910323))))) 1085102592571150095) 8)))) (b := (shrK .u64 (IntKind.u64.wrap ((bits .and .u64 (IntKind.u64.wrap ((shrK .u64 (IntKind.u64.wrap ((bits .and .u64 (shrK .u64 (IntKind.u64.wrap ((bits .and .u64 (shrK .u64 x 1) 6148914691236517205) + (bits .and .u64 x 6148914691236517205))) 2) 3689348814741910323) + (bits .and .u64 (IntKind.u64.wrap ((bits .and .u64 (shrK .u64 x 1) 6148914691236517205) + (bits .and .u64 x 6148914691236517205))) 3689348814741910323))) 4) + (IntKind.u64.wrap ((bits .and .u64 (shrK .u64 (IntKind.u64.wrap ((bits .and .u64 (shrK .u64 x 1) 6148914691236517205) + (bits .and .u64 x 6148914691236517205))) 2) 3689348814741910323) + (bits .and .u64 (IntKind.u64.wrap ((bits .and .u64 (shrK .u64 x 1) 6148914691236517205) + (bits .and .u64 x 6148914691236517205))) 3689348814741910323))))) 1085102592571150095) + (shrK .u64 (bits .and .u64 (IntKind.u64.wrap ((shrK .u64 (IntKind.u64.wrap ((bits .and .u64 (shrK .u64 (IntKind.u64.wrap ((bits .and .u64 (shrK .u64 x 1) 6148914691236517205) + (bits .and .u64 x 6148914691236517205))) 2) 3689348814741910323) + (bits .and .u64 (IntKind.u64.wrap ((bits .and .u64 (shrK .u64 x 1) 6148914691236517205) + (bits .and .u64 x 6148914691236517205))) 3689348814741910323))) 4) + (IntKind.u64.wrap ((bits .and .u64 (shrK .u64 (IntKind.u64.wrap ((bits .and .u64 (shrK .u64 x 1) 6148914691236517205) + (bits .and .u64 x 6148914691236517205))) 2) 3689348814741910323) + (bits .and .u64 (IntKind.u64.wrap ((bits .and .u64 (shrK .u64 x 1) 6148914691236517205) + (bits .and .u64 x 6148914691236517205))) 3689348814741910323))))) 1085102592571150095) 8))) 16)) rfl rfl rfl) ?_
  refine sq 0 rfl rfl (Y_assign (v := .int .u64 (IntKind.u64.wrap ((IntKind.u64.wrap ((bits .and .u64 (IntKind.u64.wrap ((shrK .u64 (IntKind.u64.wrap ((bits .and .u64 (shrK .u64 (IntKind.u64.wrap ((bits .and .u64 (shrK .u64 x 1) 6148914691236517205) + (bits .and .u64 x 6148914691236517205))) 2) 3689348814741910323) + (bits .and .u64 (IntKind.u64.wrap ((bits .and .u64 (shrK .u64 x 1) 6148914691236517205) + (bits .and .u64 x 6148914691236517205))) 3689348814741910323))) 4) + (IntKind.u64.wrap ((bits .and .u64 (shrK .u64 (IntKind.u64.wrap ((bits .and .u64 (shrK .u64 x 1) 6148914691236517205) + (bits .and .u64 x 6148914691236517205))) 2) 3689348814741910323) + (bits .and .u64 (IntKind.u64.wrap ((bits .and .u64 (shrK .u64 x 1) 6148914691236517205) + (bits .and .u64 x 6148914691236517205))) 3689348814741910323))))) 1085102592571150095) + (shrK .u64 (bits .and .u64 (IntKind.u64.wrap ((shrK .u64 (IntKind.u64.wrap ((bits .and .u64 (shrK .u64 (IntKind.u64.wrap ((bits .and .u64 (shrK .u64 x 1) 6148914691236517205) + (bits .and .u64 x 6148914691236517205))) 2) 3689348814741910323) + (bits .and .u64 (IntKind.u64.wrap ((bits .and .u64 (shrK .u64 x 1) 6148914691236517205) + (bits .and .u64 x 6148914691236517205))) 3689348814741910323))) 4) + (IntKind.u64.wrap ((bits .and .u64 (shrK .u64 (IntKind.u64.wrap ((bits .and .u64 (shrK .u64 x 1) 6148914691236517205) + (bits .and .u64 x 6148914691236517205))) 2) 3689348814741910323) + (bits .and .u64 (IntKind.u64.wrap ((bits .and .u64 (shrK .u64 x 1) 6148914691236517205) + (bits .and .u64 x 6148914691236517205))) 3689348814741910323))))) 1085102592571150095) 8))) + (shrK .u64 (IntKind.u64.wrap ((bits .and .u64 (IntKind.u64.wrap ((shrK .u64 (IntKind.u64.wrap ((bits .and .u64 (shrK .u64 (IntKind.u64.wrap ((bits .and .u64 (shrK .u64 x 1) 6148914691236517205) + (bits .and .u64 x 6148914691236517205))) 2) 3689348814741910323) + (bits .and .u64 (IntKind.u64.wrap ((bits .and .u64 (shrK .u64 x 1) 6148914691236517205) + (bits .and .u64 x 6148914691236517205))) 3689348814741910323))) 4) + (IntKind.u64.wrap ((bits .and .u64 (shrK .u64 (IntKind.u64.wrap ((bits .and .u64 (shrK .u64 x 1) 6148914691236517205) + (bits .and .u64 x 6148914691236517205))) 2) 3689348814741910323) + (bits .and .u64 (IntKind.u64.wrap ((bits .and .u64 (shrK .u64 x 1) 6148914691236517205) + (bits .and .u64 x 6148914691236517205))) 3689348814741910323))))) 1085102592571150095) + (shrK .u64 (bits .and .u64 (IntKind.u64.wrap ((shrK .u64 (IntKind.u64.wrap ((bits .and .u64 (shrK .u64 (IntKind.u64.wrap ((bits .and .u64 (shrK .u64 x 1) 6148914691236517205) + (bits .and .u64 x 6148914691236517205))) 2) 3689348814741910323) + (bits .and .u64 (IntKind.u64.wrap ((bits .and .u64 (shrK .u64 x 1) 6148914691236517205) + (bits .and .u64 x 6148914691236517205))) 3689348814741910323))) 4) + (IntKind.u64.wrap ((bits .and .u64 (shrK .u64 (IntKind.u64.wrap ((bits .and .u64 (shrK .u64 x 1) 6148914691236517205) + (bits .and .u64 x 6148914691236517205))) 2) 3689348814741910323) + (bits .and .u64 (IntKind.u64.wrap ((bits .and .u64 (shrK .u64 x 1) 6148914691236517205) + (bits .and .u64 x 6148914691236517205))) 3689348814741910323))))) 1085102592571150095) 8))) 16)))) rfl rfl) ?_
  refine rw_nil ?_
  refine cw_seq ?_
  refine cw_region ?_
  refine sq 28 rfl rfl (Y_move (v := .int .u64 (IntKind.u64.wrap ((IntKind.u64.wrap ((bits .and .u64 (IntKind.u64.wrap ((shrK .u64 (IntKind.u64.wrap ((bits .and .u64 (shrK .u64 (IntKind.u64.wrap ((bits .and .u64 (shrK .u64 x 1) 6148914691236517205) + (bits .and .u64 x 6148914691236517205))) 2) 3689348814741910323) + (bits .and .u64 (IntKind.u64.wrap ((bits .and .u64 (shrK .u64 x 1) 6148914691236517205) + (bits .and .u64 x 6148914691236517205))) 3689348814741910323))) 4) + (IntKind.u64.wrap ((bits .and .u64 (shrK .u64 (IntKind.u64.wrap ((bits .and .u64 (shrK .u64 x 1) 6148914691236517205) + (bits .and .u64 x 6148914691236517205))) 2) 3689348814741910323) + (bits .and .u64 (IntKind.u64.wrap ((bits .and .u64 (shrK .u64 x 1) 6148914691236517205) + (bits .and .u64 x 6148914691236517205))) 3689348814741910323))))) 1085102592571150095) + (shrK .u64 (bits .and .u64 (IntKind.u64.wrap ((shrK .u64 (IntKind.u64.wrap ((bits .and .u64 (shrK .u64 (IntKind.u64.wrap ((bits .and .u64 (shrK .u64 x 1) 6148914691236517205) + (bits .and .u64 x 6148914691236517205))) 2) 3689348814741910323) + (bits .and .u64 (IntKind.u64.wrap ((bits .and .u64 (shrK .u64 x 1) 6148914691236517205) + (bits .and .u64 x 6148914691236517205))) 3689348814741910323))) 4) + (IntKind.u64.wrap ((bits .and .u64 (shrK .u64 (IntKind.u64.wrap ((bits .and .u64 (shrK .u64 x 1) 6148914691236517205) + (bits .and .u64 x 6148914691236517205))) 2) 3689348814741910323) + (bits .and .u64 (IntKind.u64.wrap ((bits .and .u64 (shrK .u64 x 1) 6148914691236517205) + (bits .and .u64 x 6148914691236517205))) 3689348814741910323))))) 1085102592571150095) 8))) + (shrK .u64 (IntKind.u64.wrap ((bits .and .u64 (IntKind.u64.wrap ((shrK .u64 (IntKind.u64.wrap ((bits .and .u64 (shrK .u64 (IntKind.u64.wrap ((bits .and .u64 (shrK .u64 x 1) 6148914691236517205) + (bits .and .u64 x 6148914691236517205))) 2) 3689348814741910323) + (bits .and .u64 (IntKind.u64.wrap ((bits .and .u64 (shrK .u64 x 1) 6148914691236517205) + (bits .and .u64 x 6148914691236517205))) 3689348814741910323))) 4) + (IntKind.u64.wrap ((bits .and .u64 (shrK .u64 (IntKind.u64.wrap ((bits .and .u64 (shrK .u64 x 1) 6148914691236517205) + (bits .and .u64 x 6148914691236517205))) 2) 3689348814741910323) + (bits .and .u64 (IntKind.u64.wrap ((bits .and .u64 (shrK .u64 x 1) 6148914691236517205) + (bits .and .u64 x 6148914691236517205))) 3689348814741910323))))) 1085102592571150095) + (shrK .u64 (bits .and .u64 (IntKind.u64.wrap ((shrK .u64 (IntKind.u64.wrap ((bits .and .u64 (shrK .u64 (IntKind.u64.wrap ((bits .and .u64 (shrK .u64 x 1) 6148914691236517205) + (bits .and .u64 x 6148914691236517205))) 2) 3689348814741910323) + (bits .and .u64 (IntKind.u64.wrap ((bits .and .u64 (shrK .u64 x 1) 6148914691236517205) + (bits .and .u64 x 6148914691236517205))) 3689348814741910323))) 4) + (IntKind.u64.wrap ((bits .and .u64 (shrK .u64 (IntKind.u64.wrap ((bits .and .u64 (shrK .u64 x 1) 6148914691236517205) + (bits .and .u64 x 6148914691236517205))) 2) 3689348814741910323) + (bits .and .u64 (IntKind.u64.wrap ((bits .and .u64 (shrK .u64 x 1) 6148914691236517205) + (bits .and .u64 x 6148914691236517205))) 3689348814741910323))))) 1085102592571150095) 8))) 16)))) rfl rfl) ?_
  refine sq 29 rfl rfl (Y_move (v := .int .u64 (IntKind.u64.wrap ((IntKind.u64.wrap ((bits .and .u64 (IntKind.u64.wrap ((shrK .u64 (IntKind.u64.wrap ((bits .and .u64 (shrK .u64 (IntKind.u64.wrap ((bits .and .u64 (shrK .u64 x 1) 6148914691236517205) + (bits .and .u64 x 6148914691236517205))) 2) 3689348814741910323) + (bits .and .u64 (IntKind.u64.wrap ((bits .and .u64 (shrK .u64 x 1) 6148914691236517205) + (bits .and .u64 x 6148914691236517205))) 3689348814741910323))) 4) + (IntKind.u64.wrap ((bits .and .u64 (shrK .u64 (IntKind.u64.wrap ((bits .and .u64 (shrK .u64 x 1) 6148914691236517205) + (bits .and .u64 x 6148914691236517205))) 2) 3689348814741910323) + (bits .and .u64 (IntKind.u64.wrap ((bits .and .u64 (shrK .u64 x 1) 6148914691236517205) + (bits .and .u64 x 6148914691236517205))) 3689348814741910323))))) 1085102592571150095) + (shrK .u64 (bits .and .u64 (IntKind.u64.wrap ((shrK .u64 (IntKind.u64.wrap ((bits .and .u64 (shrK .u64 (IntKind.u64.wrap ((bits .and .u64 (shrK .u64 x 1) 6148914691236517205) + (bits .and .u64 x 6148914691236517205))) 2) 3689348814741910323) + (bits .and .u64 (IntKind.u64.wrap ((bits .and .u64 (shrK .u64 x 1) 6148914691236517205) + (bits .and .u64 x 6148914691236517205))) 3689348814741910323))) 4) + (IntKind.u64.wrap ((bits .and .u64 (shrK .u64 (IntKind.u64.wrap ((bits .and .u64 (shrK .u64 x 1) 6148914691236517205) + (bits .and .u64 x 6148914691236517205))) 2) 3689348814741910323) + (bits .and .u64 (IntKind.u64.wrap ((bits .and .u64 (shrK .u64 x 1) 6148914691236517205) + (bits .and .u64 x 6148914691236517205))) 3689348814741910323))))) 1085102592571150095) 8))) + (shrK .u64 (IntKind.u64.wrap ((bits .and .u64 (IntKind.u64.wrap ((shrK .u64 (IntKind.u64.wrap ((bits .and .u64 (shrK .u64 (IntKind.u64.wrap ((bits .and .u64 (shrK .u64 x 1) 6148914691236517205) + (bits .and .u64 x 6148914691236517205))) 2) 3689348814741910323) + (bits .and .u64 (IntKind.u64.wrap ((bits .and .u64 (shrK .u64 x 1) 6148914691236517205) + (bits .and .u64 x 6148914691236517205))) 3689348814741910323))) 4) + (IntKind.u64.wrap ((bits .and .u64 (shrK .u64 (IntKind.u64.wrap ((bits .and .u64 (shrK .u64 x 1) 6148914691236517205) + (bits .and .u64 x 6148914691236517205))) 2) 3689348814741910323) + (bits .and .u64 (IntKind.u64.wrap ((bits .and .u64 (shrK .u64 x 1) 6148914691236517205) + (bits .and .u64 x 6148914691236517205))) 3689348814741910323))))) 1085102592571150095) + (shrK .u64 (bits .and .u64 (IntKind.u64.wrap ((shrK .u64 (IntKind.u64.wrap ((bits .and .u64 (shrK .u64 (IntKind.u64.wrap ((bits .and .u64 (shrK .u64 x 1) 6148914691236517205) + (bits .and .u64 x 6148914691236517205))) 2) 3689348814741910323) + (bits .and .u64 (IntKind.u64.wrap ((bits .and .u64 (shrK .u64 x 1) 6148914691236517205) + (bits .and .u64 x 6148914691236517205))) 3689348814741910323))) 4) + (IntKind.u64.wrap ((bits .and .u64 (shrK .u64 (IntKind.u64.wrap ((bits .and .u64 (shrK .u64 x 1) 6148914691236517205) + (bits .and .u64 x 6148914691236517205))) 2) 3689348814741910323) + (bits .and .u64 (IntKind.u64.wrap ((bits .and .u64 (shrK .u64 x 1) 6148914691236517205) + (bits .and .u64 x 6148914691236517205))) 3689348814741910323))))) 1085102592571150095) 8))) 16)))) rfl rfl) ?_
  refine sq 30 rfl rfl (Y_shr (k := .u64) (a := (IntKind.u64.wrap ((IntKind.u64.wrap ((bits .and .u64 (IntKind.u64.wrap ((shrK .u64 (IntKind.u64.wrap ((bits .and .u64 (shrK .u64 (IntKind.u64.wrap ((bits .and .u64 (shrK .u64 x 1) 6148914691236517205) + (bits .and .u64 x 6148914691236517205))) 2) 3689348814741910323) + (bits .and .u64 (IntKind.u64.wrap ((bits .and .u64 (shrK .u64 x 1) 6148914691236517205) + (bits .and .u64 x 6148914691236517205))) 3689348814741910323))) 4) + (IntKind.u64.wrap ((bits .and .u64 (shrK .u64 (IntKind.u64.wrap ((bits .and .u64 (shrK .u64 x 1) 6148914691236517205) + (bits .and .u64 x 6148914691236517205))) 2) 3689348814741910323) + (bits .and .u64 (IntKind.u64.wrap ((bits .and .u64 (shrK .u64 x 1) 6148914691236517205) + (bits .and .u64 x 6148914691236517205))) 3689348814741910323))))) 1085102592571150095) + (shrK .u64 (bits .and .u64 (IntKind.u64.wrap ((shrK .u64 (IntKind.u64.wrap ((bits .and .u64 (shrK .u64 (IntKind.u64.wrap ((bits .and .u64 (shrK .u64 x 1) 6148914691236517205) + (bits .and .u64 x 6148914691236517205))) 2) 3689348814741910323) + (bits .and .u64 (IntKind.u64.wrap ((bits .and .u64 (shrK .u64 x 1) 6148914691236517205) + (bits .and .u64 x 6148914691236517205))) 3689348814741910323))) 4) + (IntKind.u64.wrap ((bits .and .u64 (shrK .u64 (IntKind.u64.wrap ((bits .and .u64 (shrK .u64 x 1) 6148914691236517205) + (bits .and .u64 x 6148914691236517205))) 2) 3689348814741910323) + (bits .and .u64 (IntKind.u64.wrap ((bits .and .u64 (shrK .u64 x 1) 6148914691236517205) + (bits .and .u64 x 6148914691236517205))) 3689348814741910323))))) 1085102592571150095) 8))) + (shrK .u64 (IntKind.u64.wrap ((bits .and .u64 (IntKind.u64.wrap ((shrK .u64 (IntKind.u64.wrap ((bits .and .u64 (shrK .u64 (IntKind.u64.wrap ((bits .and .u64 (shrK .u64 x 1) 6148914691236517205) + (bits .and .u64 x 6148914691236517205))) 2) 3689348814741910323) + (bits .and .u64 (IntKind.u64.wrap ((bits .and .u64 (shrK .u64 x 1) 6148914691236517205) + (bits .and .u64 x 6148914691236517205))) 3689348814741910323))) 4) + (IntKind.u64.wrap ((bits .and .u64 (shrK .u64 (IntKind.u64.wrap ((bits .and .u64 (shrK .u64 x 1) 6148914691236517205) + (bits .and .u64 x 6148914691236517205))) 2) 3689348814741910323) + (bits .and .u64 (IntKind.u64.wrap ((bits .and .u64 (shrK .u64 x 1) 6148914691236517205) + (bits .and .u64 x 6148914691236517205))) 3689348814741910323))))) 1085102592571150095) + (shrK .u64 (bits .and .u64 (IntKind.u64.wrap ((shrK .u64 (IntKind.u64.wrap ((bits .and .u64 (shrK .u64 (IntKind.u64.wrap ((bits .and .u64 (shrK .u64 x 1) 6148914691236517205) + (bits .and .u64 x 6148914691236517205))) 2) 3689348814741910323) + (bits .and .u64 (IntKind.u64.wrap ((bits .and .u64 (shrK .u64 x 1) 6148914691236517205) + (bits .and .u64 x 6148914691236517205))) 3689348814741910323))) 4) + (IntKind.u64.wrap ((bits .and .u64 (shrK .u64 (IntKind.u64.wrap ((bits .and .u64 (shrK .u64 x 1) 6148914691236517205) + (bits .and .u64 x 6148914691236517205))) 2) 3689348814741910323) + (bits .and .u64 (IntKind.u64.wrap ((bits .and .u64 (shrK .u64 x 1) 6148914691236517205) + (bits .and .u64 x 6148914691236517205))) 3689348814741910323))))) 1085102592571150095) 8))) 16)))) (k' := .u64) (b := 32) rfl rfl rfl (by decide)) ?_
  refine sq 31 rfl rfl (Y_add (k := .u64) (a := (IntKind.u64.wrap ((IntKind.u64.wrap ((bits .and .u64 (IntKind.u64.wrap ((shrK .u64 (IntKind.u64.wrap ((bits .and .u64 (shrK .u64 (IntKind.u64.wrap ((bits .and .u64 (shrK .u64 x 1) 6148914691236517205) + (bits .and .u64 x 6148914691236517205))) 2) 3689348814741910323) + (bits .and .u64 (IntKind.u64.wrap ((bits .and .u64 (shrK .u64 x 1) 6148914691236517205) + (bits .and .u64 x 6148914691236517205))) 3689348814741910323))) 4) + (IntKind.u64.wrap ((bits .and .u64 (shrK .u64 (IntKind.u64.wrap ((bits .and .u64 (shrK .u64 x 1) 6148914691236517205) + (bits .and .u64 x 6148914691236517205))) 2) 3689348814741910323) + (bits .and .u64 (IntKind.u64.wrap ((bits .and .u64 (shrK .u64 x 1) 6148914691236517205) + (bits .and .u64 x 6148914691236517205))) 3689348814741910323))))) 1085102592571150095) + (shrK .u64 (bits .and .u64 (IntKind.u64.wrap ((shrK .u64 (IntKind.u64.wrap ((bits .and .u64 (shrK .u64 (IntKind.u64.wrap ((bits .and .u64 (shrK .u64 x 1) 6148914691236517205) + (bits .and .u64 x 6148914691236517205))) 2) 3689348814741910323) + (bits .and .u64 (IntKind.u64.wrap ((bits .and .u64 (shrK .u64 x 1) 6148914691236517205) + (bits .and .u64 x 6148914691236517205))) 3689348814741910323))) 4) + (IntKind.u64.wrap ((bits .and .u64 (shrK .u64 (IntKind.u64.wrap ((bits .and .u64 (shrK .u64 x 1) 6148914691236517205) + (bits .and .u64 x 6148914691236517205))) 2) 3689348814741910323) + (bits .and .u64 (IntKind.u64.wrap ((bits .and .u64 (shrK .u64 x 1) 6148914691236517205) + (bits .and .u64 x 6148914691236517205))) 3689348814741910323))))) 1085102592571150095) 8))) + (shrK .u64 (IntKind.u64.wrap ((bits .and .u64 (IntKind.u64.wrap ((shrK .u64 (IntKind.u64.wrap ((bits .and .u64 (shrK .u64 (IntKind.u64.wrap ((bits .and .u64 (shrK .u64 x 1) 6148914691236517205) + (bits .and .u64 x 6148914691236517205))) 2) 3689348814741910323) + (bits .and .u64 (IntKind.u64.wrap ((bits .and .u64 (shrK .u64 x 1) 6148914691236517205) + (bits .and .u64 x 6148914691236517205))) 3689348814741910323))) 4) + (IntKind.u64.wrap ((bits .and .u64 (shrK .u64 (IntKind.u64.wrap ((bits .and .u64 (shrK .u64 x 1) 6148914691236517205) + (bits .and .u64 x 6148914691236517205))) 2) 3689348814741910323) + (bits .and .u64 (IntKind.u64.wrap ((bits .and .u64 (shrK .u64 x 1) 6148914691236517205) + (bits .and .u64 x 6148914691236517205))) 3689348814741910323))))) 1085102592571150095) + (shrK .u64 (bits .and .u64 (IntKind.u64.wrap ((shrK .u64 (IntKind.u64.wrap ((bits .and .u64 (shrK .u64 (IntKind.u64.wrap ((bits .and .u64 (shrK .u64 x 1) 6148914691236517205) + (bits .and .u64 x 6148914691236517205))) 2) 3689348814741910323) + (bits .and .u64 (IntKind.u64.wrap ((bits .and .u64 (shrK .u64 x 1) 6148914691236517205) + (bits .and .u64 x 6148914691236517205))) 3689348814741910323))) 4) + (IntKind.u64.wrap ((bits .and .u64 (shrK .u64 (IntKind.u64.wrap ((bits .and .u64 (shrK .u64 x 1) 6148914691236517205) + (bits .and .u64 x 6148914691236517205))) 2) 3689348814741910323) + (bits .and .u64 (IntKind.u64.wrap ((bits .and .u64 (shrK .u64 x 1) 6148914691236517205) + (bits .and .u64 x 6148914691236517205))) 3689348814741910323))))) 1085102592571150095) 8))) 16)))) (b := (shrK .u64 (IntKind.u64.wrap ((IntKind.u64.wrap ((bits .and .u64 (IntKind.u64.wrap ((shrK .u64 (IntKind.u64.wrap ((bits .and .u64 (shrK .u64 (IntKind.u64.wrap ((bits .and .u64 (shrK .u64 x 1) 6148914691236517205) + (bits .and .u64 x 6148914691236517205))) 2) 3689348814741910323) + (bits .and .u64 (IntKind.u64.wrap ((bits .and .u64 (shrK .u64 x 1) 6148914691236517205) + (bits .and .u64 x 6148914691236517205))) 3689348814741910323))) 4) + (IntKind.u64.wrap ((bits .and .u64 (shrK .u64 (IntKind.u64.wrap ((bits .and .u64 (shrK .u64 x 1) 6148914691236517205) + (bits .and .u64 x 6148914691236517205))) 2) 3689348814741910323) + (bits .and .u64 (IntKind.u64.wrap ((bits .and .u64 (shrK .u64 x 1) 6148914691236517205) + (bits .and .u64 x 6148914691236517205))) 3689348814741910323))))) 1085102592571150095) + (shrK .u64 (bits .and .u64 (IntKind.u64.wrap ((shrK .u64 (IntKind.u64.wrap ((bits .and .u64 (shrK .u64 (IntKind.u64.wrap ((bits .and .u64 (shrK .u64 x 1) 6148914691236517205) + (bits .and .u64 x 6148914691236517205))) 2) 3689348814741910323) + (bits .and .u64 (IntKind.u64.wrap ((bits .and .u64 (shrK .u64 x 1) 6148914691236517205) + (bits .and .u64 x 6148914691236517205))) 3689348814741910323))) 4) + (IntKind.u64.wrap ((bits .and .u64 (shrK .u64 (IntKind.u64.wrap ((bits .and .u64 (shrK .u64 x 1) 6148914691236517205) + (bits .and .u64 x 6148914691236517205))) 2) 3689348814741910323) + (bits .and .u64 (IntKind.u64.wrap ((bits .and .u64 (shrK .u64 x 1) 6148914691236517205) + (bits .and .u64 x 6148914691236517205))) 3689348814741910323))))) 1085102592571150095) 8))) + (shrK .u64 (IntKind.u64.wrap ((bits .and .u64 (IntKind.u64.wrap ((shrK .u64 (IntKind.u64.wrap ((bits .and .u64 (shrK .u64 (IntKind.u64.wrap ((bits .and .u64 (shrK .u64 x 1) 6148914691236517205) + (bits .and .u64 x 6148914691236517205))) 2) 3689348814741910323) + (bits .and .u64 (IntKind.u64.wrap ((bits .and .u64 (shrK .u64 x 1) 6148914691236517205) + (bits .and .u64 x 6148914691236517205))) 3689348814741910323))) 4) + (IntKind.u64.wrap ((bits .and .u64 (shrK .u64 (IntKind.u64.wrap ((bits .and .u64 (shrK .u64 x 1) 6148914691236517205) + (bits .and .u64 x 6148914691236517205))) 2) 3689348814741910323) + (bits .and .u64 (IntKind.u64.wrap ((bits .and .u64 (shrK .u64 x 1) 6148914691236517205) + (bits .and .u64 x 6148914691236517205))) 3689348814741910323))))) 1085102592571150095) + (shrK .u64 (bits .and .u64 (IntKind.u64.wrap ((shrK .u64 (IntKind.u64.wrap ((bits .and .u64 (shrK .u64 (IntKind.u64.wrap ((bits .and .u64 (shrK .u64 x 1) 6148914691236517205) + (bits .and .u64 x 6148914691236517205))) 2) 3689348814741910323) + (bits .and .u64 (IntKind.u64.wrap ((bits .and .u64 (shrK .u64 x 1) 6148914691236517205) + (bits .and .u64 x 6148914691236517205))) 3689348814741910323))) 4) + (IntKind.u64.wrap ((bits .and .u64 (shrK .u64 (IntKind.u64.wrap ((bits .and .u64 (shrK .u64 x 1) 6148914691236517205) + (bits .and .u64 x 6148914691236517205))) 2) 3689348814741910323) + (bits .and .u64 (IntKind.u64.wrap ((bits .and .u64 (shrK .u64 x 1) 6148914691236517205) + (bits .and .u64 x 6148914691236517205))) 3689348814741910323))))) 1085102592571150095) 8))) 16))) 32)) rfl rfl rfl) ?_
  refine sq 0 rfl rfl (Y_assign (v := .int .u64 (IntKind.u64.wrap ((IntKind.u64.wrap ((IntKind.u64.wrap ((bits .and .u64 (IntKind.u64.wrap ((shrK .u64 (IntKind.u64.wrap ((bits .and .u64 (shrK .u64 (IntKind.u64.wrap ((bits .and .u64 (shrK .u64 x 1) 6148914691236517205) + (bits .and .u64 x 6148914691236517205))) 2) 3689348814741910323) + (bits .and .u64 (IntKind.u64.wrap ((bits .and .u64 (shrK .u64 x 1) 6148914691236517205) + (bits .and .u64 x 6148914691236517205))) 3689348814741910323))) 4) + (IntKind.u64.wrap ((bits .and .u64 (shrK .u64 (IntKind.u64.wrap ((bits .and .u64 (shrK .u64 x 1) 6148914691236517205) + (bits .and .u64 x 6148914691236517205))) 2) 3689348814741910323) + (bits .and .u64 (IntKind.u64.wrap ((bits .and .u64 (shrK .u64 x 1) 6148914691236517205) + (bits .and .u64 x 6148914691236517205))) 3689348814741910323))))) 1085102592571150095) + (shrK .u64 (bits .and .u64 (IntKind.u64.wrap ((shrK .u64 (IntKind.u64.wrap ((bits .and .u64 (shrK .u64 (IntKind.u64.wrap ((bits .and .u64 (shrK .u64 x 1) 6148914691236517205) + (bits .and .u64 x 6148914691236517205))) 2) 3689348814741910323) + (bits .and .u64 (IntKind.u64.wrap ((bits .and .u64 (shrK .u64 x 1) 6148914691236517205) + (bits .and .u64 x 6148914691236517205))) 3689348814741910323))) 4) + (IntKind.u64.wrap ((bits .and .u64 (shrK .u64 (IntKind.u64.wrap ((bits .and .u64 (shrK .u64 x 1) 6148914691236517205) + (bits .and .u64 x 6148914691236517205))) 2) 3689348814741910323) + (bits .and .u64 (IntKind.u64.wrap ((bits .and .u64 (shrK .u64 x 1) 6148914691236517205) + (bits .and .u64 x 6148914691236517205))) 3689348814741910323))))) 1085102592571150095) 8))) + (shrK .u64 (IntKind.u64.wrap ((bits .and .u64 (IntKind.u64.wrap ((shrK .u64 (IntKind.u64.wrap ((bits .and .u64 (shrK .u64 (IntKind.u64.wrap ((bits .and .u64 (shrK .u64 x 1) 6148914691236517205) + (bits .and .u64 x 6148914691236517205))) 2) 3689348814741910323) + (bits .and .u64 (IntKind.u64.wrap ((bits .and .u64 (shrK .u64 x 1) 6148914691236517205) + (bits .and .u64 x 6148914691236517205))) 3689348814741910323))) 4) + (IntKind.u64.wrap ((bits .and .u64 (shrK .u64 (IntKind.u64.wrap ((bits .and .u64 (shrK .u64 x 1) 6148914691236517205) + (bits .and .u64 x 6148914691236517205))) 2) 3689348814741910323) + (bits .and .u64 (IntKind.u64.wrap ((bits .and .u64 (shrK .u64 x 1) 6148914691236517205) + (bits .and .u64 x 6148914691236517205))) 3689348814741910323))))) 1085102592571150095) + (shrK .u64 (bits .and .u64 (IntKind.u64.wrap ((shrK .u64 (IntKind.u64.wrap ((bits .and .u64 (shrK .u64 (IntKind.u64.wrap ((bits .and .u64 (shrK .u64 x 1) 6148914691236517205) + (bits .and .u64 x 6148914691236517205))) 2) 3689348814741910323) + (bits .and .u64 (IntKind.u64.wrap ((bits .and .u64 (shrK .u64 x 1) 6148914691236517205) + (bits .and .u64 x 6148914691236517205))) 3689348814741910323))) 4) + (IntKind.u64.wrap ((bits .and .u64 (shrK .u64 (IntKind.u64.wrap ((bits .and .u64 (shrK .u64 x 1) 6148914691236517205) + (bits .and .u64 x 6148914691236517205))) 2) 3689348814741910323) + (bits .and .u64 (IntKind.u64.wrap ((bits .and .u64 (shrK .u64 x 1) 6148914691236517205) + (bits .and .u64 x 6148914691236517205))) 3689348814741910323))))) 1085102592571150095) 8))) 16))) + (shrK .u64 (IntKind.u64.wrap ((IntKind.u64.wrap ((bits .and .u64 (IntKind.u64.wrap ((shrK .u64 (IntKind.u64.wrap ((bits .and .u64 (shrK .u64 (IntKind.u64.wrap ((bits .and .u64 (shrK .u64 x 1) 6148914691236517205) + (bits .and .u64 x 6148914691236517205))) 2) 3689348814741910323) + (bits .and .u64 (IntKind.u64.wrap ((bits .and .u64 (shrK .u64 x 1) 6148914691236517205) + (bits .and .u64 x 6148914691236517205))) 3689348814741910323))) 4) + (IntKind.u64.wrap ((bits .and .u64 (shrK .u64 (IntKind.u64.wrap ((bits .and .u64 (shrK .u64 x 1) 6148914691236517205) + (bits .and .u64 x 6148914691236517205))) 2) 3689348814741910323) + (bits .and .u64 (IntKind.u64.wrap ((bits .and .u64 (shrK .u64 x 1) 6148914691236517205) + (bits .and .u64 x 6148914691236517205))) 3689348814741910323))))) 1085102592571150095) + (shrK .u64 (bits .and .u64 (IntKind.u64.wrap ((shrK .u64 (IntKind.u64.wrap ((bits .and .u64 (shrK .u64 (IntKind.u64.wrap ((bits .and .u64 (shrK .u64 x 1) 6148914691236517205) + (bits .and .u64 x 6148914691236517205))) 2) 3689348814741910323) + (bits .and .u64 (IntKind.u64.wrap ((bits .and .u64 (shrK .u64 x 1) 6148914691236517205) + (bits .and .u64 x 6148914691236517205))) 3689348814741910323))) 4) + (IntKind.u64.wrap ((bits .and .u64 (shrK .u64 (IntKind.u64.wrap ((bits .and .u64 (shrK .u64 x 1) 6148914691236517205) + (bits .and .u64 x 6148914691236517205))) 2) 3689348814741910323) + (bits .and .u64 (IntKind.u64.wrap ((bits .and .u64 (shrK .u64 x 1) 6148914691236517205) + (bits .and .u64 x 6148914691236517205))) 3689348814741910323))))) 1085102592571150095) 8))) + (shrK .u64 (IntKind.u64.wrap ((bits .and .u64 (IntKind.u64.wrap ((shrK .u64 (IntKind.u64.wrap ((bits .and .u64 (shrK .u64 (IntKind.u64.wrap ((bits .and .u64 (shrK .u64 x 1) 6148914691236517205) + (bits .and .u64 x 6148914691236517205))) 2) 3689348814741910323) + (bits .and .u64 (IntKind.u64.wrap ((bits .and .u64 (shrK .u64 x 1) 6148914691236517205) + (bits .and .u64 x 6148914691236517205))) 3689348814741910323))) 4) + (IntKind.u64.wrap ((bits .and .u64 (shrK .u64 (IntKind.u64.wrap ((bits .and .u64 (shrK .u64 x 1) 6148914691236517205) + (bits .and .u64 x 6148914691236517205))) 2) 3689348814741910323) + (bits .and .u64 (IntKind.u64.wrap ((bits .and .u64 (shrK .u64 x 1) 6148914691236517205) + (bits .and .u64 x 6148914691236517205))) 3689348814741910323))))) 1085102592571150095) + (shrK .u64 (bits .and .u64 (IntKind.u64.wrap ((shrK .u64 (IntKind.u64.wrap ((bits .and .u64 (shrK .u64 (IntKind.u64.wrap ((bits .and .u64 (shrK .u64 x 1) 6148914691236517205) + (bits .and .u64 x 6148914691236517205))) 2) 3689348814741910323) + (bits .and .u64 (IntKind.u64.wrap ((bits .and .u64 (shrK .u64 x 1) 6148914691236517205) + (bits .and .u64 x 6148914691236517205))) 3689348814741910323))) 4) + (IntKind.u64.wrap ((bits .and .u64 (shrK .u64 (IntKind.u64.wrap ((bits .and .u64 (shrK .u64 x 1) 6148914691236517205) + (bits .and .u64 x 6148914691236517205))) 2) 3689348814741910323) + (bits .and .u64 (IntKind.u64.wrap ((bits .and .u64 (shrK .u64 x 1) 6148914691236517205) + (bits .and .u64 x 6148914691236517205))) 3689348814741910323))))) 1085102592571150095) 8))) 16))) 32)))) rfl rfl) ?_
  refine rw_nil ?_
  refine cw_seq ?_
  refine cw_region ?_
  refine sq 32 rfl rfl (Y_move (v := .int .u64 (IntKind.u64.wrap ((IntKind.u64.wrap ((IntKind.u64.wrap ((bits .and .u64 (IntKind.u64.wrap ((shrK .u64 (IntKind.u64.wrap ((bits .and .u64 (shrK .u64 (IntKind.u64.wrap ((bits .and .u64 (shrK .u64 x 1) 6148914691236517205) + (bits .and .u64 x 6148914691236517205))) 2) 3689348814741910323) + (bits .and .u64 (IntKind.u64.wrap ((bits .and .u64 (shrK .u64 x 1) 6148914691236517205) + (bits .and .u64 x 6148914691236517205))) 3689348814741910323))) 4) + (IntKind.u64.wrap ((bits .and .u64 (shrK .u64 (IntKind.u64.wrap ((bits .and .u64 (shrK .u64 x 1) 6148914691236517205) + (bits .and .u64 x 6148914691236517205))) 2) 3689348814741910323) + (bits .and .u64 (IntKind.u64.wrap ((bits .and .u64 (shrK .u64 x 1) 6148914691236517205) + (bits .and .u64 x 6148914691236517205))) 3689348814741910323))))) 1085102592571150095) + (shrK .u64 (bits .and .u64 (IntKind.u64.wrap ((shrK .u64 (IntKind.u64.wrap ((bits .and .u64 (shrK .u64 (IntKind.u64.wrap ((bits .and .u64 (shrK .u64 x 1) 6148914691236517205) + (bits .and .u64 x 6148914691236517205))) 2) 3689348814741910323) + (bits .and .u64 (IntKind.u64.wrap ((bits .and .u64 (shrK .u64 x 1) 6148914691236517205) + (bits .and .u64 x 6148914691236517205))) 3689348814741910323))) 4) + (IntKind.u64.wrap ((bits .and .u64 (shrK .u64 (IntKind.u64.wrap ((bits .and .u64 (shrK .u64 x 1) 6148914691236517205) + (bits .and .u64 x 6148914691236517205))) 2) 3689348814741910323) + (bits .and .u64 (IntKind.u64.wrap ((bits .and .u64 (shrK .u64 x 1) 6148914691236517205) + (bits .and .u64 x 6148914691236517205))) 3689348814741910323))))) 1085102592571150095) 8))) + (shrK .u64 (IntKind.u64.wrap ((bits .and .u64 (IntKind.u64.wrap ((shrK .u64 (IntKind.u64.wrap ((bits .and .u64 (shrK .u64 (IntKind.u64.wrap ((bits .and .u64 (shrK .u64 x 1) 6148914691236517205) + (bits .and .u64 x 6148914691236517205))) 2) 3689348814741910323) + (bits .and .u64 (IntKind.u64.wrap ((bits .and .u64 (shrK .u64 x 1) 6148914691236517205) + (bits .and .u64 x 6148914691236517205))) 3689348814741910323))) 4) + (IntKind.u64.wrap ((bits .and .u64 (shrK .u64 (IntKind.u64.wrap ((bits .and .u64 (shrK .u64 x 1) 6148914691236517205) + (bits .and .u64 x 6148914691236517205))) 2) 3689348814741910323) + (bits .and .u64 (IntKind.u64.wrap ((bits .and .u64 (shrK .u64 x 1) 6148914691236517205) + (bits .and .u64 x 6148914691236517205))) 3689348814741910323))))) 1085102592571150095) + (shrK .u64 (bits .and .u64 (IntKind.u64.wrap ((shrK .u64 (IntKind.u64.wrap ((bits .and .u64 (shrK .u64 (IntKind.u64.wrap ((bits .and .u64 (shrK .u64 x 1) 6148914691236517205) + (bits .and .u64 x 6148914691236517205))) 2) 3689348814741910323) + (bits .and .u64 (IntKind.u64.wrap ((bits .and .u64 (shrK .u64 x 1) 6148914691236517205) + (bits .and .u64 x 6148914691236517205))) 3689348814741910323))) 4) + (IntKind.u64.wrap ((bits .and .u64 (shrK .u64 (IntKind.u64.wrap ((bits .and .u64 (shrK .u64 x 1) 6148914691236517205) + (bits .and .u64 x 6148914691236517205))) 2) 3689348814741910323) + (bits .and .u64 (IntKind.u64.wrap ((bits .and .u64 (shrK .u64 x 1) 6148914691236517205) + (bits .and .u64 x 6148914691236517205))) 3689348814741910323))))) 1085102592571150095) 8))) 16))) + (shrK .u64 (IntKind.u64.wrap ((IntKind.u64.wrap ((bits .and .u64 (IntKind.u64.wrap ((shrK .u64 (IntKind.u64.wrap ((bits .and .u64 (shrK .u64 (IntKind.u64.wrap ((bits .and .u64 (shrK .u64 x 1) 6148914691236517205) + (bits .and .u64 x 6148914691236517205))) 2) 3689348814741910323) + (bits .and .u64 (IntKind.u64.wrap ((bits .and .u64 (shrK .u64 x 1) 6148914691236517205) + (bits .and .u64 x 6148914691236517205))) 3689348814741910323))) 4) + (IntKind.u64.wrap ((bits .and .u64 (shrK .u64 (IntKind.u64.wrap ((bits .and .u64 (shrK .u64 x 1) 6148914691236517205) + (bits .and .u64 x 6148914691236517205))) 2) 3689348814741910323) + (bits .and .u64 (IntKind.u64.wrap ((bits .and .u64 (shrK .u64 x 1) 6148914691236517205) + (bits .and .u64 x 6148914691236517205))) 3689348814741910323))))) 1085102592571150095) + (shrK .u64 (bits .and .u64 (IntKind.u64.wrap ((shrK .u64 (IntKind.u64.wrap ((bits .and .u64 (shrK .u64 (IntKind.u64.wrap ((bits .and .u64 (shrK .u64 x 1) 6148914691236517205) + (bits .and .u64 x 6148914691236517205))) 2) 3689348814741910323) + (bits .and .u64 (IntKind.u64.wrap ((bits .and .u64 (shrK .u64 x 1) 6148914691236517205) + (bits .and .u64 x 6148914691236517205))) 3689348814741910323))) 4) + (IntKind.u64.wrap ((bits .and .u64 (shrK .u64 (IntKind.u64.wrap ((bits .and .u64 (shrK .u64 x 1) 6148914691236517205) + (bits .and .u64 x 6148914691236517205))) 2) 3689348814741910323) + (bits .and .u64 (IntKind.u64.wrap ((bits .and .u64 (shrK .u64 x 1) 6148914691236517205) + (bits .and .u64 x 6148914691236517205))) 3689348814741910323))))) 1085102592571150095) 8))) + (shrK .u64 (IntKind.u64.wrap ((bits .and .u64 (IntKind.u64.wrap ((shrK .u64 (IntKind.u64.wrap ((bits .and .u64 (shrK .u64 (IntKind.u64.wrap ((bits .and .u64 (shrK .u64 x 1) 6148914691236517205) + (bits .and .u64 x 6148914691236517205))) 2) 3689348814741910323) + (bits .and .u64 (IntKind.u64.wrap ((bits .and .u64 (shrK .u64 x 1) 6148914691236517205) + (bits .and .u64 x 6148914691236517205))) 3689348814741910323))) 4) + (IntKind.u64.wrap ((bits .and .u64 (shrK .u64 (IntKind.u64.wrap ((bits .and .u64 (shrK .u64 x 1) 6148914691236517205) + (bits .and .u64 x 6148914691236517205))) 2) 3689348814741910323) + (bits .and .u64 (IntKind.u64.wrap ((bits .and .u64 (shrK .u64 x 1) 6148914691236517205) + (bits .and .u64 x 6148914691236517205))) 3689348814741910323))))) 1085102592571150095) + (shrK .u64 (bits .and .u64 (IntKind.u64.wrap ((shrK .u64 (IntKind.u64.wrap ((bits .and .u64 (shrK .u64 (IntKind.u64.wrap ((bits .and .u64 (shrK .u64 x 1) 6148914691236517205) + (bits .and .u64 x 6148914691236517205))) 2) 3689348814741910323) + (bits .and .u64 (IntKind.u64.wrap ((bits .and .u64 (shrK .u64 x 1) 6148914691236517205) + (bits .and .u64 x 6148914691236517205))) 3689348814741910323))) 4) + (IntKind.u64.wrap ((bits .and .u64 (shrK .u64 (IntKind.u64.wrap ((bits .and .u64 (shrK .u64 x 1) 6148914691236517205) + (bits .and .u64 x 6148914691236517205))) 2) 3689348814741910323) + (bits .and .u64 (IntKind.u64.wrap ((bits .and .u64 (shrK .u64 x 1) 6148914691236517205) + (bits .and .u64 x 6148914691236517205))) 3689348814741910323))))) 1085102592571150095) 8))) 16))) 32)))) rfl rfl) ?_
  refine sq 33 rfl rfl (Y_conv (k := .u64) (a := (IntKind.u64.wrap ((IntKind.u64.wrap ((IntKind.u64.wrap ((bits .and .u64 (IntKind.u64.wrap ((shrK .u64 (IntKind.u64.wrap ((bits .and .u64 (shrK .u64 (IntKind.u64.wrap ((bits .and .u64 (shrK .u64 x 1) 6148914691236517205) + (bits .and .u64 x 6148914691236517205))) 2) 3689348814741910323) + (bits .and .u64 (IntKind.u64.wrap ((bits .and .u64 (shrK .u64 x 1) 6148914691236517205) + (bits .and .u64 x 6148914691236517205))) 3689348814741910323))) 4) + (IntKind.u64.wrap ((bits .and .u64 (shrK .u64 (IntKind.u64.wrap ((bits .and .u64 (shrK .u64 x 1) 6148914691236517205) + (bits .and .u64 x 6148914691236517205))) 2) 3689348814741910323) + (bits .and .u64 (IntKind.u64.wrap ((bits .and .u64 (shrK .u64 x 1) 6148914691236517205) + (bits .and .u64 x 6148914691236517205))) 3689348814741910323))))) 1085102592571150095) + (shrK .u64 (bits .and .u64 (IntKind.u64.wrap ((shrK .u64 (IntKind.u64.wrap ((bits .and .u64 (shrK .u64 (IntKind.u64.wrap ((bits .and .u64 (shrK .u64 x 1) 6148914691236517205) + (bits .and .u64 x 6148914691236517205))) 2) 3689348814741910323) + (bits .and .u64 (IntKind.u64.wrap ((bits .and .u64 (shrK .u64 x 1) 6148914691236517205) + (bits .and .u64 x 6148914691236517205))) 3689348814741910323))) 4) + (IntKind.u64.wrap ((bits .and .u64 (shrK .u64 (IntKind.u64.wrap ((bits .and .u64 (shrK .u64 x 1) 6148914691236517205) + (bits .and .u64 x 6148914691236517205))) 2) 3689348814741910323) + (bits .and .u64 (IntKind.u64.wrap ((bits .and .u64 (shrK .u64 x 1) 6148914691236517205) + (bits .and .u64 x 6148914691236517205))) 3689348814741910323))))) 1085102592571150095) 8))) + (shrK .u64 (IntKind.u64.wrap ((bits .and .u64 (IntKind.u64.wrap ((shrK .u64 (IntKind.u64.wrap ((bits .and .u64 (shrK .u64 (IntKind.u64.wrap ((bits .and .u64 (shrK .u64 x 1) 6148914691236517205) + (bits .and .u64 x 6148914691236517205))) 2) 3689348814741910323) + (bits .and .u64 (IntKind.u64.wrap ((bits .and .u64 (shrK .u64 x 1) 6148914691236517205) + (bits .and .u64 x 6148914691236517205))) 3689348814741910323))) 4) + (IntKind.u64.wrap ((bits .and .u64 (shrK .u64 (IntKind.u64.wrap ((bits .and .u64 (shrK .u64 x 1) 6148914691236517205) + (bits .and .u64 x 6148914691236517205))) 2) 3689348814741910323) + (bits .and .u64 (IntKind.u64.wrap ((bits .and .u64 (shrK .u64 x 1) 6148914691236517205) + (bits .and .u64 x 6148914691236517205))) 3689348814741910323))))) 1085102592571150095) + (shrK .u64 (bits .and .u64 (IntKind.u64.wrap ((shrK .u64 (IntKind.u64.wrap ((bits .and .u64 (shrK .u64 (IntKind.u64.wrap ((bits .and .u64 (shrK .u64 x 1) 6148914691236517205) + (bits .and .u64 x 6148914691236517205))) 2) 3689348814741910323) + (bits .and .u64 (IntKind.u64.wrap ((bits .and .u64 (shrK .u64 x 1) 6148914691236517205) + (bits .and .u64 x 6148914691236517205))) 3689348814741910323))) 4) + (IntKind.u64.wrap ((bits .and .u64 (shrK .u64 (IntKind.u64.wrap ((bits .and .u64 (shrK .u64 x 1) 6148914691236517205) + (bits .and .u64 x 6148914691236517205))) 2) 3689348814741910323) + (bits .and .u64 (IntKind.u64.wrap ((bits .and .u64 (shrK .u64 x 1) 6148914691236517205) + (bits .and .u64 x 6148914691236517205))) 3689348814741910323))))) 1085102592571150095) 8))) 16))) + (shrK .u64 (IntKind.u64.wrap ((IntKind.u64.wrap ((bits .and .u64 (IntKind.u64.wrap ((shrK .u64 (IntKind.u64.wrap ((bits .and .u64 (shrK .u64 (IntKind.u64.wrap ((bits .and .u64 (shrK .u64 x 1) 6148914691236517205) + (bits .and .u64 x 6148914691236517205))) 2) 3689348814741910323) + (bits .and .u64 (IntKind.u64.wrap ((bits .and .u64 (shrK .u64 x 1) 6148914691236517205) + (bits .and .u64 x 6148914691236517205))) 3689348814741910323))) 4) + (IntKind.u64.wrap ((bits .and .u64 (shrK .u64 (IntKind.u64.wrap ((bits .and .u64 (shrK .u64 x 1) 6148914691236517205) + (bits .and .u64 x 6148914691236517205))) 2) 3689348814741910323) + (bits .and .u64 (IntKind.u64.wrap ((bits .and .u64 (shrK .u64 x 1) 6148914691236517205) + (bits .and .u64 x 6148914691236517205))) 3689348814741910323))))) 1085102592571150095) + (shrK .u64 (bits .and .u64 (IntKind.u64.wrap ((shrK .u64 (IntKind.u64.wrap ((bits .and .u64 (shrK .u64 (IntKind.u64.wrap ((bits .and .u64 (shrK .u64 x 1) 6148914691236517205) + (bits .and .u64 x 6148914691236517205))) 2) 3689348814741910323) + (bits .and .u64 (IntKind.u64.wrap ((bits .and .u64 (shrK .u64 x 1) 6148914691236517205) + (bits .and .u64 x 6148914691236517205))) 3689348814741910323))) 4) + (IntKind.u64.wrap ((bits .and .u64 (shrK .u64 (IntKind.u64.wrap ((bits .and .u64 (shrK .u64 x 1) 6148914691236517205) + (bits .and .u64 x 6148914691236517205))) 2) 3689348814741910323) + (bits .and .u64 (IntKind.u64.wrap ((bits .and .u64 (shrK .u64 x 1) 6148914691236517205) + (bits .and .u64 x 6148914691236517205))) 3689348814741910323))))) 1085102592571150095) 8))) + (shrK .u64 (IntKind.u64.wrap ((bits .and .u64 (IntKind.u64.wrap ((shrK .u64 (IntKind.u64.wrap ((bits .and .u64 (shrK .u64 (IntKind.u64.wrap ((bits .and .u64 (shrK .u64 x 1) 6148914691236517205) + (bits .and .u64 x 6148914691236517205))) 2) 3689348814741910323) + (bits .and .u64 (IntKind.u64.wrap ((bits .and .u64 (shrK .u64 x 1) 6148914691236517205) + (bits .and .u64 x 6148914691236517205))) 3689348814741910323))) 4) + (IntKind.u64.wrap ((bits .and .u64 (shrK .u64 (IntKind.u64.wrap ((bits .and .u64 (shrK .u64 x 1) 6148914691236517205) + (bits .and .u64 x 6148914691236517205))) 2) 3689348814741910323) + (bits .and .u64 (IntKind.u64.wrap ((bits .and .u64 (shrK .u64 x 1) 6148914691236517205) + (bits .and .u64 x 6148914691236517205))) 3689348814741910323))))) 1085102592571150095) + (shrK .u64 (bits .and .u64 (IntKind.u64.wrap ((shrK .u64 (IntKind.u64.wrap ((bits .and .u64 (shrK .u64 (IntKind.u64.wrap ((bits .and .u64 (shrK .u64 x 1) 6148914691236517205) + (bits .and .u64 x 6148914691236517205))) 2) 3689348814741910323) + (bits .and .u64 (IntKind.u64.wrap ((bits .and .u64 (shrK .u64 x 1) 6148914691236517205) + (bits .and .u64 x 6148914691236517205))) 3689348814741910323))) 4) + (IntKind.u64.wrap ((bits .and .u64 (shrK .u64 (IntKind.u64.wrap ((bits .and .u64 (shrK .u64 x 1) 6148914691236517205) + (bits .and .u64 x 6148914691236517205))) 2) 3689348814741910323) + (bits .and .u64 (IntKind.u64.wrap ((bits .and .u64 (shrK .u64 x 1) 6148914691236517205) + (bits .and .u64 x 6148914691236517205))) 3689348814741910323))))) 1085102592571150095) 8))) 16))) 32)))) (T := 179) (T' := 3) k_us_179 k_int_3_i64 rfl rfl) ?_
  refine sq 34 rfl rfl (Y_band (k := .i64) (a := (IntKind.i64.wrap (IntKind.u64.wrap ((IntKind.u64.wrap ((IntKind.u64.wrap ((bits .and .u64 (IntKind.u64.wrap ((shrK .u64 (IntKind.u64.wrap ((bits .and .u64 (shrK .u64 (IntKind.u64.wrap ((bits .and .u64 (shrK .u64 x 1) 6148914691236517205) + (bits .and .u64 x 6148914691236517205))) 2) 3689348814741910323) + (bits .and .u64 (IntKind.u64.wrap ((bits .and .u64 (shrK .u64 x 1) 6148914691236517205) + (bits .and .u64 x 6148914691236517205))) 3689348814741910323))) 4) + (IntKind.u64.wrap ((bits .and .u64 (shrK .u64 (IntKind.u64.wrap ((bits .and .u64 (shrK .u64 x 1) 6148914691236517205) + (bits .and .u64 x 6148914691236517205))) 2) 3689348814741910323) + (bits .and .u64 (IntKind.u64.wrap ((bits .and .u64 (shrK .u64 x 1) 6148914691236517205) + (bits .and .u64 x 6148914691236517205))) 3689348814741910323))))) 1085102592571150095) + (shrK .u64 (bits .and .u64 (IntKind.u64.wrap ((shrK .u64 (IntKind.u64.wrap ((bits .and .u64 (shrK .u64 (IntKind.u64.wrap ((bits .and .u64 (shrK .u64 x 1) 6148914691236517205) + (bits .and .u64 x 6148914691236517205))) 2) 3689348814741910323) + (bits .and .u64 (IntKind.u64.wrap ((bits .and .u64 (shrK .u64 x 1) 6148914691236517205) + (bits .and .u64 x 6148914691236517205))) 3689348814741910323))) 4) + (IntKind.u64.wrap ((bits .and .u64 (shrK .u64 (IntKind.u64.wrap ((bits .and .u64 (shrK .u64 x 1) 6148914691236517205) + (bits .and .u64 x 6148914691236517205))) 2) 3689348814741910323) + (bits .and .u64 (IntKind.u64.wrap ((bits .and .u64 (shrK .u64 x 1) 6148914691236517205) + (bits .and .u64 x 6148914691236517205))) 3689348814741910323))))) 1085102592571150095) 8))) + (shrK .u64 (IntKind.u64.wrap ((bits .and .u64 (IntKind.u64.wrap ((shrK .u64 (IntKind.u64.wrap ((bits .and .u64 (shrK .u64 (IntKind.u64.wrap ((bits .and .u64 (shrK .u64 x 1) 6148914691236517205) + (bits .and .u64 x 6148914691236517205))) 2) 3689348814741910323) + (bits .and .u64 (IntKind.u64.wrap ((bits .and .u64 (shrK .u64 x 1) 6148914691236517205) + (bits .and .u64 x 6148914691236517205))) 3689348814741910323))) 4) + (IntKind.u64.wrap ((bits .and .u64 (shrK .u64 (IntKind.u64.wrap ((bits .and .u64 (shrK .u64 x 1) 6148914691236517205) + (bits .and .u64 x 6148914691236517205))) 2) 3689348814741910323) + (bits .and .u64 (IntKind.u64.wrap ((bits .and .u64 (shrK .u64 x 1) 6148914691236517205) + (bits .and .u64 x 6148914691236517205))) 3689348814741910323))))) 1085102592571150095) + (shrK .u64 (bits .and .u64 (IntKind.u64.wrap ((shrK .u64 (IntKind.u64.wrap ((bits .and .u64 (shrK .u64 (IntKind.u64.wrap ((bits .and .u64 (shrK .u64 x 1) 6148914691236517205) + (bits .and .u64 x 6148914691236517205))) 2) 3689348814741910323) + (bits .and .u64 (IntKind.u64.wrap ((bits .and .u64 (shrK .u64 x 1) 6148914691236517205) + (bits .and .u64 x 6148914691236517205))) 3689348814741910323))) 4) + (IntKind.u64.wrap ((bits .and .u64 (shrK .u64 (IntKind.u64.wrap ((bits .and .u64 (shrK .u64 x 1) 6148914691236517205) + (bits .and .u64 x 6148914691236517205))) 2) 3689348814741910323) + (bits .and .u64 (IntKind.u64.wrap ((bits .and .u64 (shrK .u64 x 1) 6148914691236517205) + (bits .and .u64 x 6148914691236517205))) 3689348814741910323))))) 1085102592571150095) 8))) 16))) + (shrK .u64 (IntKind.u64.wrap ((IntKind.u64.wrap ((bits .and .u64 (IntKind.u64.wrap ((shrK .u64 (IntKind.u64.wrap ((bits .and .u64 (shrK .u64 (IntKind.u64.wrap ((bits .and .u64 (shrK .u64 x 1) 6148914691236517205) + (bits .and .u64 x 6148914691236517205))) 2) 3689348814741910323) + (bits .and .u64 (IntKind.u64.wrap ((bits .and .u64 (shrK .u64 x 1) 6148914691236517205) + (bits .and .u64 x 6148914691236517205))) 3689348814741910323))) 4) + (IntKind.u64.wrap ((bits .and .u64 (shrK .u64 (IntKind.u64.wrap ((bits .and .u64 (shrK .u64 x 1) 6148914691236517205) + (bits .and .u64 x 6148914691236517205))) 2) 3689348814741910323) + (bits .and .u64 (IntKind.u64.wrap ((bits .and .u64 (shrK .u64 x 1) 6148914691236517205) + (bits .and .u64 x 6148914691236517205))) 3689348814741910323))))) 1085102592571150095) + (shrK .u64 (bits .and .u64 (IntKind.u64.wrap ((shrK .u64 (IntKind.u64.wrap ((bits .and .u64 (shrK .u64 (IntKind.u64.wrap ((bits .and .u64 (shrK .u64 x 1) 6148914691236517205) + (bits .and .u64 x 6148914691236517205))) 2) 3689348814741910323) + (bits .and .u64 (IntKind.u64.wrap ((bits .and .u64 (shrK .u64 x 1) 6148914691236517205) + (bits .and .u64 x 6148914691236517205))) 3689348814741910323))) 4) + (IntKind.u64.wrap ((bits .and .u64 (shrK .u64 (IntKind.u64.wrap ((bits .and .u64 (shrK .u64 x 1) 6148914691236517205) + (bits .and .u64 x 6148914691236517205))) 2) 3689348814741910323) + (bits .and .u64 (IntKind.u64.wrap ((bits .and .u64 (shrK .u64 x 1) 6148914691236517205) + (bits .and .u64 x 6148914691236517205))) 3689348814741910323))))) 1085102592571150095) 8))) + (shrK .u64 (IntKind.u64.wrap ((bits .and .u64 (IntKind.u64.wrap ((shrK .u64 (IntKind.u64.wrap ((bits .and .u64 (shrK .u64 (IntKind.u64.wrap ((bits .and .u64 (shrK .u64 x 1) 6148914691236517205) + (bits .and .u64 x 6148914691236517205))) 2) 3689348814741910323) + (bits .and .u64 (IntKind.u64.wrap ((bits .and .u64 (shrK .u64 x 1) 6148914691236517205) + (bits .and .u64 x 6148914691236517205))) 3689348814741910323))) 4) + (IntKind.u64.wrap ((bits .and .u64 (shrK .u64 (IntKind.u64.wrap ((bits .and .u64 (shrK .u64 x 1) 6148914691236517205) + (bits .and .u64 x 6148914691236517205))) 2) 3689348814741910323) + (bits .and .u64 (IntKind.u64.wrap ((bits .and .u64 (shrK .u64 x 1) 6148914691236517205) + (bits .and .u64 x 6148914691236517205))) 3689348814741910323))))) 1085102592571150095) + (shrK .u64 (bits .and .u64 (IntKind.u64.wrap ((shrK .u64 (IntKind.u64.wrap ((bits .and .u64 (shrK .u64 (IntKind.u64.wrap ((bits .and .u64 (shrK .u64 x 1) 6148914691236517205) + (bits .and .u64 x 6148914691236517205))) 2) 3689348814741910323) + (bits .and .u64 (IntKind.u64.wrap ((bits .and .u64 (shrK .u64 x 1) 6148914691236517205) + (bits .and .u64 x 6148914691236517205))) 3689348814741910323))) 4) + (IntKind.u64.wrap ((bits .and .u64 (shrK .u64 (IntKind.u64.wrap ((bits .and .u64 (shrK .u64 x 1) 6148914691236517205) + (bits .and .u64 x 6148914691236517205))) 2) 3689348814741910323) + (bits .and .u64 (IntKind.u64.wrap ((bits .and .u64 (shrK .u64 x 1) 6148914691236517205) + (bits .and .u64 x 6148914691236517205))) 3689348814741910323))))) 1085102592571150095) 8))) 16))) 32))))) (b := 127) rfl rfl rfl) ?_
  refine sq 2 rfl rfl (Y_assign (v := .int .i64 (bits .and .i64 (IntKind.i64.wrap (IntKind.u64.wrap ((IntKind.u64.wrap ((IntKind.u64.wrap ((bits .and .u64 (IntKind.u64.wrap ((shrK .u64 (IntKind.u64.wrap ((bits .and .u64 (shrK .u64 (IntKind.u64.wrap ((bits .and .u64 (shrK .u64 x 1) 6148914691236517205) + (bits .and .u64 x 6148914691236517205))) 2) 3689348814741910323) + (bits .and .u64 (IntKind.u64.wrap ((bits .and .u64 (shrK .u64 x 1) 6148914691236517205) + (bits .and .u64 x 6148914691236517205))) 3689348814741910323))) 4) + (IntKind.u64.wrap ((bits .and .u64 (shrK .u64 (IntKind.u64.wrap ((bits .and .u64 (shrK .u64 x 1) 6148914691236517205) + (bits .and .u64 x 6148914691236517205))) 2) 3689348814741910323) + (bits .and .u64 (IntKind.u64.wrap ((bits .and .u64 (shrK .u64 x 1) 6148914691236517205) + (bits .and .u64 x 6148914691236517205))) 3689348814741910323))))) 1085102592571150095) + (shrK .u64 (bits .and .u64 (IntKind.u64.wrap ((shrK .u64 (IntKind.u64.wrap ((bits .and .u64 (shrK .u64 (IntKind.u64.wrap ((bits .and .u64 (shrK .u64 x 1) 6148914691236517205) + (bits .and .u64 x 6148914691236517205))) 2) 3689348814741910323) + (bits .and .u64 (IntKind.u64.wrap ((bits .and .u64 (shrK .u64 x 1) 6148914691236517205) + (bits .and .u64 x 6148914691236517205))) 3689348814741910323))) 4) + (IntKind.u64.wrap ((bits .and .u64 (shrK .u64 (IntKind.u64.wrap ((bits .and .u64 (shrK .u64 x 1) 6148914691236517205) + (bits .and .u64 x 6148914691236517205))) 2) 3689348814741910323) + (bits .and .u64 (IntKind.u64.wrap ((bits .and .u64 (shrK .u64 x 1) 6148914691236517205) + (bits .and .u64 x 6148914691236517205))) 3689348814741910323))))) 1085102592571150095) 8))) + (shrK .u64 (IntKind.u64.wrap ((bits .and .u64 (IntKind.u64.wrap ((shrK .u64 (IntKind.u64.wrap ((bits .and .u64 (shrK .u64 (IntKind.u64.wrap ((bits .and .u64 (shrK .u64 x 1) 6148914691236517205) + (bits .and .u64 x 6148914691236517205))) 2) 3689348814741910323) + (bits .and .u64 (IntKind.u64.wrap ((bits .and .u64 (shrK .u64 x 1) 6148914691236517205) + (bits .and .u64 x 6148914691236517205))) 3689348814741910323))) 4) + (IntKind.u64.wrap ((bits .and .u64 (shrK .u64 (IntKind.u64.wrap ((bits .and .u64 (shrK .u64 x 1) 6148914691236517205) + (bits .and .u64 x 6148914691236517205))) 2) 3689348814741910323) + (bits .and .u64 (IntKind.u64.wrap ((bits .and .u64 (shrK .u64 x 1) 6148914691236517205) + (bits .and .u64 x 6148914691236517205))) 3689348814741910323))))) 1085102592571150095) + (shrK .u64 (bits .and .u64 (IntKind.u64.wrap ((shrK .u64 (IntKind.u64.wrap ((bits .and .u64 (shrK .u64 (IntKind.u64.wrap ((bits .and .u64 (shrK .u64 x 1) 6148914691236517205) + (bits .and .u64 x 6148914691236517205))) 2) 3689348814741910323) + (bits .and .u64 (IntKind.u64.wrap ((bits .and .u64 (shrK .u64 x 1) 6148914691236517205) + (bits .and .u64 x 6148914691236517205))) 3689348814741910323))) 4) + (IntKind.u64.wrap ((bits .and .u64 (shrK .u64 (IntKind.u64.wrap ((bits .and .u64 (shrK .u64 x 1) 6148914691236517205) + (bits .and .u64 x 6148914691236517205))) 2) 3689348814741910323) + (bits .and .u64 (IntKind.u64.wrap ((bits .and .u64 (shrK .u64 x 1) 6148914691236517205) + (bits .and .u64 x 6148914691236517205))) 3689348814741910323))))) 1085102592571150095) 8))) 16))) + (shrK .u64 (IntKind.u64.wrap ((IntKind.u64.wrap ((bits .and .u64 (IntKind.u64.wrap ((shrK .u64 (IntKind.u64.wrap ((bits .and .u64 (shrK .u64 (IntKind.u64.wrap ((bits .and .u64 (shrK .u64 x 1) 6148914691236517205) + (bits .and .u64 x 6148914691236517205))) 2) 3689348814741910323) + (bits .and .u64 (IntKind.u64.wrap ((bits .and .u64 (shrK .u64 x 1) 6148914691236517205) + (bits .and .u64 x 6148914691236517205))) 3689348814741910323))) 4) + (IntKind.u64.wrap ((bits .and .u64 (shrK .u64 (IntKind.u64.wrap ((bits .and .u64 (shrK .u64 x 1) 6148914691236517205) + (bits .and .u64 x 6148914691236517205))) 2) 3689348814741910323) + (bits .and .u64 (IntKind.u64.wrap ((bits .and .u64 (shrK .u64 x 1) 6148914691236517205) + (bits .and .u64 x 6148914691236517205))) 3689348814741910323))))) 1085102592571150095) + (shrK .u64 (bits .and .u64 (IntKind.u64.wrap ((shrK .u64 (IntKind.u64.wrap ((bits .and .u64 (shrK .u64 (IntKind.u64.wrap ((bits .and .u64 (shrK .u64 x 1) 6148914691236517205) + (bits .and .u64 x 6148914691236517205))) 2) 3689348814741910323) + (bits .and .u64 (IntKind.u64.wrap ((bits .and .u64 (shrK .u64 x 1) 6148914691236517205) + (bits .and .u64 x 6148914691236517205))) 3689348814741910323))) 4) + (IntKind.u64.wrap ((bits .and .u64 (shrK .u64 (IntKind.u64.wrap ((bits .and .u64 (shrK .u64 x 1) 6148914691236517205) + (bits .and .u64 x 6148914691236517205))) 2) 3689348814741910323) + (bits .and .u64 (IntKind.u64.wrap ((bits .and .u64 (shrK .u64 x 1) 6148914691236517205) + (bits .and .u64 x 6148914691236517205))) 3689348814741910323))))) 1085102592571150095) 8))) + (shrK .u64 (IntKind.u64.wrap ((bits .and .u64 (IntKind.u64.wrap ((shrK .u64 (IntKind.u64.wrap ((bits .and .u64 (shrK .u64 (IntKind.u64.wrap ((bits .and .u64 (shrK .u64 x 1) 6148914691236517205) + (bits .and .u64 x 6148914691236517205))) 2) 3689348814741910323) + (bits .and .u64 (IntKind.u64.wrap ((bits .and .u64 (shrK .u64 x 1) 6148914691236517205) + (bits .and .u64 x 6148914691236517205))) 3689348814741910323))) 4) + (IntKind.u64.wrap ((bits .and .u64 (shrK .u64 (IntKind.u64.wrap ((bits .and .u64 (shrK .u64 x 1) 6148914691236517205) + (bits .and .u64 x 6148914691236517205))) 2) 3689348814741910323) + (bits .and .u64 (IntKind.u64.wrap ((bits .and .u64 (shrK .u64 x 1) 6148914691236517205) + (bits .and .u64 x 6148914691236517205))) 3689348814741910323))))) 1085102592571150095) + (shrK .u64 (bits .and .u64 (IntKind.u64.wrap ((shrK .u64 (IntKind.u64.wrap ((bits .and .u64 (shrK .u64 (IntKind.u64.wrap ((bits .and .u64 (shrK .u64 x 1) 6148914691236517205) + (bits .and .u64 x 6148914691236517205))) 2) 3689348814741910323) + (bits .and .u64 (IntKind.u64.wrap ((bits .and .u64 (shrK .u64 x 1) 6148914691236517205) + (bits .and .u64 x 6148914691236517205))) 3689348814741910323))) 4) + (IntKind.u64.wrap ((bits .and .u64 (shrK .u64 (IntKind.u64.wrap ((bits .and .u64 (shrK .u64 x 1) 6148914691236517205) + (bits .and .u64 x 6148914691236517205))) 2) 3689348814741910323) + (bits .and .u64 (IntKind.u64.wrap ((bits .and .u64 (shrK .u64 x 1) 6148914691236517205) + (bits .and .u64 x 6148914691236517205))) 3689348814741910323))))) 1085102592571150095) 8))) 16))) 32)))) 127)) rfl rfl) ?_
  refine rw_nil ?_
  refine cw_ret ?_
  obtain rfl := some_inj hF
  exact ret1 Try.results145 (v1 := .int .i64 (bits .and .i64 (IntKind.i64.wrap (IntKind.u64.wrap ((IntKind.u64.wrap ((IntKind.u64.wrap ((bits .and .u64 (IntKind.u64.wrap ((shrK .u64 (IntKind.u64.wrap ((bits .and .u64 (shrK .u64 (IntKind.u64.wrap ((bits .and .u64 (shrK .u64 x 1) 6148914691236517205) + (bits .and .u64 x 6148914691236517205))) 2) 3689348814741910323) + (bits .and .u64 (IntKind.u64.wrap ((bits .and .u64 (shrK .u64 x 1) 6148914691236517205) + (bits .and .u64 x 6148914691236517205))) 3689348814741910323))) 4) + (IntKind.u64.wrap ((bits .and .u64 (shrK .u64 (IntKind.u64.wrap ((bits .and .u64 (shrK .u64 x 1) 6148914691236517205) + (bits .and .u64 x 6148914691236517205))) 2) 3689348814741910323) + (bits .and .u64 (IntKind.u64.wrap ((bits .and .u64 (shrK .u64 x 1) 6148914691236517205) + (bits .and .u64 x 6148914691236517205))) 3689348814741910323))))) 1085102592571150095) + (shrK .u64 (bits .and .u64 (IntKind.u64.wrap ((shrK .u64 (IntKind.u64.wrap ((bits .and .u64 (shrK .u64 (IntKind.u64.wrap ((bits .and .u64 (shrK .u64 x 1) 6148914691236517205) + (bits .and .u64 x 6148914691236517205))) 2) 3689348814741910323) + (bits .and .u64 (IntKind.u64.wrap ((bits .and .u64 (shrK .u64 x 1) 6148914691236517205) + (bits .and .u64 x 6148914691236517205))) 3689348814741910323))) 4) + (IntKind.u64.wrap ((bits .and .u64 (shrK .u64 (IntKind.u64.wrap ((bits .and .u64 (shrK .u64 x 1) 6148914691236517205) + (bits .and .u64 x 6148914691236517205))) 2) 3689348814741910323) + (bits .and .u64 (IntKind.u64.wrap ((bits .and .u64 (shrK .u64 x 1) 6148914691236517205) + (bits .and .u64 x 6148914691236517205))) 3689348814741910323))))) 1085102592571150095) 8))) + (shrK .u64 (IntKind.u64.wrap ((bits .and .u64 (IntKind.u64.wrap ((shrK .u64 (IntKind.u64.wrap ((bits .and .u64 (shrK .u64 (IntKind.u64.wrap ((bits .and .u64 (shrK .u64 x 1) 6148914691236517205) + (bits .and .u64 x 6148914691236517205))) 2) 3689348814741910323) + (bits .and .u64 (IntKind.u64.wrap ((bits .and .u64 (shrK .u64 x 1) 6148914691236517205) + (bits .and .u64 x 6148914691236517205))) 3689348814741910323))) 4) + (IntKind.u64.wrap ((bits .and .u64 (shrK .u64 (IntKind.u64.wrap ((bits .and .u64 (shrK .u64 x 1) 6148914691236517205) + (bits .and .u64 x 6148914691236517205))) 2) 3689348814741910323) + (bits .and .u64 (IntKind.u64.wrap ((bits .and .u64 (shrK .u64 x 1) 6148914691236517205) + (bits .and .u64 x 6148914691236517205))) 3689348814741910323))))) 1085102592571150095) + (shrK .u64 (bits .and .u64 (IntKind.u64.wrap ((shrK .u64 (IntKind.u64.wrap ((bits .and .u64 (shrK .u64 (IntKind.u64.wrap ((bits .and .u64 (shrK .u64 x 1) 6148914691236517205) + (bits .and .u64 x 6148914691236517205))) 2) 3689348814741910323) + (bits .and .u64 (IntKind.u64.wrap ((bits .and .u64 (shrK .u64 x 1) 6148914691236517205) + (bits .and .u64 x 6148914691236517205))) 3689348814741910323))) 4) + (IntKind.u64.wrap ((bits .and .u64 (shrK .u64 (IntKind.u64.wrap ((bits .and .u64 (shrK .u64 x 1) 6148914691236517205) + (bits .and .u64 x 6148914691236517205))) 2) 3689348814741910323) + (bits .and .u64 (IntKind.u64.wrap ((bits .and .u64 (shrK .u64 x 1) 6148914691236517205) + (bits .and .u64 x 6148914691236517205))) 3689348814741910323))))) 1085102592571150095) 8))) 16))) + (shrK .u64 (IntKind.u64.wrap ((IntKind.u64.wrap ((bits .and .u64 (IntKind.u64.wrap ((shrK .u64 (IntKind.u64.wrap ((bits .and .u64 (shrK .u64 (IntKind.u64.wrap ((bits .and .u64 (shrK .u64 x 1) 6148914691236517205) + (bits .and .u64 x 6148914691236517205))) 2) 3689348814741910323) + (bits .and .u64 (IntKind.u64.wrap ((bits .and .u64 (shrK .u64 x 1) 6148914691236517205) + (bits .and .u64 x 6148914691236517205))) 3689348814741910323))) 4) + (IntKind.u64.wrap ((bits .and .u64 (shrK .u64 (IntKind.u64.wrap ((bits .and .u64 (shrK .u64 x 1) 6148914691236517205) + (bits .and .u64 x 6148914691236517205))) 2) 3689348814741910323) + (bits .and .u64 (IntKind.u64.wrap ((bits .and .u64 (shrK .u64 x 1) 6148914691236517205) + (bits .and .u64 x 6148914691236517205))) 3689348814741910323))))) 1085102592571150095) + (shrK .u64 (bits .and .u64 (IntKind.u64.wrap ((shrK .u64 (IntKind.u64.wrap ((bits .and .u64 (shrK .u64 (IntKind.u64.wrap ((bits .and .u64 (shrK .u64 x 1) 6148914691236517205) + (bits .and .u64 x 6148914691236517205))) 2) 3689348814741910323) + (bits .and .u64 (IntKind.u64.wrap ((bits .and .u64 (shrK .u64 x 1) 6148914691236517205) + (bits .and .u64 x 6148914691236517205))) 3689348814741910323))) 4) + (IntKind.u64.wrap ((bits .and .u64 (shrK .u64 (IntKind.u64.wrap ((bits .and .u64 (shrK .u64 x 1) 6148914691236517205) + (bits .and .u64 x 6148914691236517205))) 2) 3689348814741910323) + (bits .and .u64 (IntKind.u64.wrap ((bits .and .u64 (shrK .u64 x 1) 6148914691236517205) + (bits .and .u64 x 6148914691236517205))) 3689348814741910323))))) 1085102592571150095) 8))) + (shrK .u64 (IntKind.u64.wrap ((bits .and .u64 (IntKind.u64.wrap ((shrK .u64 (IntKind.u64.wrap ((bits .and .u64 (shrK .u64 (IntKind.u64.wrap ((bits .and .u64 (shrK .u64 x 1) 6148914691236517205) + (bits .and .u64 x 6148914691236517205))) 2) 3689348814741910323) + (bits .and .u64 (IntKind.u64.wrap ((bits .and .u64 (shrK .u64 x 1) 6148914691236517205) + (bits .and .u64 x 6148914691236517205))) 3689348814741910323))) 4) + (IntKind.u64.wrap ((bits .and .u64 (shrK .u64 (IntKind.u64.wrap ((bits .and .u64 (shrK .u64 x 1) 6148914691236517205) + (bits .and .u64 x 6148914691236517205))) 2) 3689348814741910323) + (bits .and .u64 (IntKind.u64.wrap ((bits .and .u64 (shrK .u64 x 1) 6148914691236517205) + (bits .and .u64 x 6148914691236517205))) 3689348814741910323))))) 1085102592571150095) + (shrK .u64 (bits .and .u64 (IntKind.u64.wrap ((shrK .u64 (IntKind.u64.wrap ((bits .and .u64 (shrK .u64 (IntKind.u64.wrap ((bits .and .u64 (shrK .u64 x 1) 6148914691236517205) + (bits .and .u64 x 6148914691236517205))) 2) 3689348814741910323) + (bits .and .u64 (IntKind.u64.wrap ((bits .and .u64 (shrK .u64 x 1) 6148914691236517205) + (bits .and .u64 x 6148914691236517205))) 3689348814741910323))) 4) + (IntKind.u64.wrap ((bits .and .u64 (shrK .u64 (IntKind.u64.wrap ((bits .and .u64 (shrK .u64 x 1) 6148914691236517205) + (bits .and .u64 x 6148914691236517205))) 2) 3689348814741910323) + (bits .and .u64 (IntKind.u64.wrap ((bits .and .u64 (shrK .u64 x 1) 6148914691236517205) + (bits .and .u64 x 6148914691236517205))) 3689348814741910323))))) 1085102592571150095) 8))) 16))) 32)))) 127)) (resAt_tmp rfl) ⟨rfl, (ST.subR (R' := []) (hS.sel [] rfl rfl) (fun _ h => by cases h))⟩

theorem c_math_bits_OnesCount (x : Int)  (w0 : World)  (hS : ST w0 [] w0 [] []) {r_ : Int} (hF : F_math_bits_OnesCount x = some r_) :
    CV Try.prog 129 #[.int .u64 x] w0 (fun v w' => v = .int .i64 r_ ∧ ST w0 [] w' [] []) := by
  unfold F_math_bits_OnesCount at hF
  refine cv_of_cw 8 Try.func129 rfl Try.ntmps129 rfl ?_
  refine cw_seq ?_
  refine cw_region ?_
  refine sq 2 rfl rfl (Y_assign (v := .int .i64 0) rfl rfl) ?_
  refine rw_nil ?_
  refine cw_seq ?_
  refine cw_cond (b := false) rfl (fun h => by cases h) (fun _ => ?_)
  refine cw_skip ?_
  refine cw_seq ?_
  refine cw_region ?_
  refine sq 6 rfl rfl (Y_move (v := .int .u64 x) rfl rfl) ?_
  obtain ⟨r_1, hc, hF⟩ := bind_inv hF
  refine sc 7 rfl rfl (Yc_func (g := 145) (vs := [.int .u64 x]) k_call_145 rfl (mc rfl mn) (c_math_bits_OnesCount64 x _  (hS.inn0 [] rfl) hc)) ?_
  rintro _ w_ ⟨rfl, hd⟩
  have hS1 := hS.out00 hd
  refine sq 2 rfl rfl (Y_assign (v := .int .i64 r_1) rfl rfl) ?_
  refine rw_nil ?_
  refine cw_ret ?_
  obtain rfl := some_inj hF
  exact ret1 Try.results129 (v1 := .int .i64 r_1) (resAt_tmp rfl) ⟨rfl, (ST.subR (R' := []) (hS1.sel [] rfl rfl) (fun _ h => by cases h))⟩

theorem c_impl_bitsIn (mask : Int)  (w0 : World)  (hS : ST w0 [] w0 [] []) {r_ : Int} (hF : F_impl_bitsIn mask = some r_) :
    CV Try.prog 101 #[.int .i64 mask] w0 (fun v w' => v = .int .i64 r_ ∧ ST w0 [] w' [] []) := by
  unfold F_impl_bitsIn at hF
  refine cv_of_cw 6 Try.func101 rfl Try.ntmps101 rfl ?_
  refine cw_seq ?_
  refine cw_region ?_
  refine sq 2 rfl rfl (Y_assign (v := .int .i64 0) rfl rfl) ?_
  refine rw_nil ?_
  refine cw_seq ?_
  refine cw_region ?_
  refine sq 3 rfl rfl (Y_move (v := .int .i64 mask) rfl rfl) ?_
  refine sq 4 rfl rfl (Y_conv (k := .i64) (a := mask) (T := 3) (T' := 92) k_us_3 k_int_92_u64 rfl rfl) ?_
  obtain ⟨r_1, hc, hF⟩ := bind_inv hF
  refine sc 5 rfl rfl (Yc_func (g := 129) (vs := [.int .u64 (IntKind.u64.wrap mask)]) k_call_129 rfl (mc rfl mn) (c_math_bits_OnesCount (IntKind.u64.wrap mask) _  (hS.inn0 [] rfl) hc)) ?_
  rintro _ w_ ⟨rfl, hd⟩
  have hS1 := hS.out00 hd
  refine sq 2 rfl rfl (Y_assign (v := .int .i64 r_1) rfl rfl) ?_
  refine rw_nil ?_
  refine cw_ret ?_
  obtain rfl := some_inj hF
  exact ret1 Try.results101 (v1 := .int .i64 r_1) (resAt_tmp rfl) ⟨rfl, (ST.subR (R' := []) (hS1.sel [] rfl rfl) (fun _ h => by cases h))⟩

theorem c_slices_IndexFunc_impl_Affine_impl_Affine (s : List TAffine) (f_ : TAffine → Option (Bool)) (B : Option Addr) (c n : Nat) (kf : Nat) (caps : Array Value) (Rf : List Ro) (w0 : World) (hn : s.length = n) (hk : callB Try.prog kf = true) (hp : ∀ (w : World), ST w [] w [] Rf → ∀ (x : TAffine) (y : Bool), f_ x = some y → CV Try.prog kf ((.agg #[.int .i64 x.Mask, .int .i64 x.Turn]) :: caps.toList).toArray w (fun v w' => v = .bool y ∧ ST w [] w' [] [])) (hS : ST w0 [] w0 [] (⟨B, (s.flatMap enc_Affine)⟩ :: Rf)) {r_ : Int} (hF : F_slices_IndexFunc_impl_Affine_impl_Affine s f_ = some r_) :
    CV Try.prog 135 #[.slice B n c, .func (.func kf) #[] caps] w0 (fun v w' => v = .int .i64 r_ ∧ ST w0 [] w' [] []) := by
  subst hn
  unfold F_slices_IndexFunc_impl_Affine_impl_Affine at hF
  refine cv_of_cw 19 Try.func135 rfl Try.ntmps135 rfl ?_
  refine cw_seq ?_
  refine cw_region ?_
  refine sq 4 rfl rfl (Y_assign (v := .int .i64 0) rfl rfl) ?_
  refine rw_nil ?_
  refine cw_seq ?_
  refine cw_seq ?_
  refine cw_region ?_
  refine sq 6 rfl rfl (Y_move (v := .slice B s.length c) rfl rfl) ?_
  refine sq 7 rfl rfl (Y_len (B := B) (m := s.length) (c := c) k_sl_55_61 rfl rfl) ?_
  refine sq 8 rfl rfl (Y_move (v := .int .i64 0) rfl rfl) ?_
  refine rw_nil ?_
  obtain ⟨hN, hF⟩ := chk_inv hF
  obtain ⟨z, hz, hF1⟩ := bind_inv hF
  refine cw_block ?_
  refine cw_loop (fun k f w => ∃ (i : Nat), FF f [(0, .slice B s.length c), (1, .func (.func kf) #[] caps), (7, .int .i64 (s.length : Int)), (8, .int .i64 (i : Int))] ∧ ST w0 [] w [] (⟨B, (s.flatMap enc_Affine)⟩ :: Rf) ∧ i + k = s.length ∧ forX (F_slices_IndexFunc_impl_Affine_impl_Affine_l1 s f_) k i () = some z) s.length ⟨0, (FF.cons rfl (FF.cons rfl (FF.cons rfl (FF.cons rfl FF.nil)))), (hS.sel [] rfl rfl), Nat.zero_add _, hz⟩ ?_
  rintro k_ f w ⟨i, hf, hS1, hik, hL⟩
  refine cw_seq ?_
  refine cw_region ?_
  refine sq 9 rfl rfl (Y_lt (k := .i64) (a := (i : Int)) (b := (s.length : Int)) rfl (hf.get 8 3 rfl) (hf.get 7 2 rfl)) ?_
  refine rw_nil ?_
  refine cw_seq ?_
  refine cw_cond (b := (decide ((i : Int) < (s.length : Int)))) rfl (fun hlt => ?_) (fun hlt => ?_)
  · skip
    have hlt1 : i < s.length := by have h := of_decide_eq_true hlt; omega
    obtain ⟨k_1, rfl⟩ : ∃ k2, k_ = k2 + 1 := ⟨k_ - 1, by omega⟩
    obtain ⟨y1, hb, hL1⟩ := forX_go hL
    unfold F_slices_IndexFunc_impl_Affine_impl_Affine_l1 at hb
    refine cw_skip ?_
    refine cw_seq ?_
    refine cw_block ?_
    refine cw_seq ?_
    refine cw_region ?_
    refine sq 10 rfl rfl (Y_move (v := .int .i64 (i : Int)) rfl (hf.get 8 3 rfl)) ?_
    refine sq 5 rfl rfl (Y_assign (v := .int .i64 (i : Int)) rfl rfl) ?_
    refine rw_nil ?_
    refine cw_seq ?_
    refine cw_region ?_
    refine sq 11 rfl rfl (Y_move (v := .func (.func kf) #[] caps) rfl (hf.get 1 1 rfl)) ?_
    refine sq 12 rfl rfl (Y_move (v := .slice B s.length c) rfl (hf.get 0 0 rfl)) ?_
    refine sq 13 rfl rfl (Y_move (v := .int .i64 (i : Int)) rfl rfl) ?_
    obtain ⟨x1, hx, hb⟩ := bind_inv hb
    refine sq 14 rfl rfl (Y_index (B := B) (m := s.length) (c := c) (k := .i64) (i := (i : Int)) k_sl_55_61 k_sz_61_2 rfl rfl rfl (gi_isSome enc_Affine_len rfl (hS1.rf (i := 0) rfl) hx) (getI_nn hx) (getI_ltI hx rfl)) ?_
    refine sq 15 rfl rfl (Y_loadA (B := B) (i := (i : Int).toNat * 2) (cs := (s.flatMap enc_Affine)) (vs := [.int .i64 x1.Mask, .int .i64 x1.Turn]) k_ag_61 k_sz_61_2 rfl rfl (hS1.rf (i := 0) rfl) (enc_Affine_len x1) (gi_seg enc_Affine_len hx)) ?_
    obtain ⟨r_1, hc, hb⟩ := bind_inv hb
    refine sc 16 rfl rfl (Yc_clos (g := kf) (vs := (.agg #[.int .i64 x1.Mask, .int .i64 x1.Turn]) :: caps.toList) hk rfl rfl (clo_args (mc rfl mn)) (hp _ (hS1.innS (fun _ h => List.mem_of_mem_drop (i := 1) h)) x1 r_1 hc)) ?_
    rintro _ w_ ⟨rfl, hd⟩
    have hS2 := hS1.out00 hd
    refine rw_nil ?_
    refine cw_cond (b := r_1) rfl (fun hb1 => ?_) (fun hb1 => ?_)
    · skip
      have hF2 := ct hb hb1
      refine cw_seq ?_
      refine cw_region ?_
      refine sq 17 rfl rfl (Y_move (v := .int .i64 (i : Int)) rfl rfl) ?_
      refine sq 4 rfl rfl (Y_assign (v := .int .i64 (i : Int)) rfl rfl) ?_
      refine rw_nil ?_
      refine cw_ret ?_
      obtain rfl := some_inj hF2
      obtain rfl := some_inj hL1
      obtain rfl := some_inj hF1
      exact ret1 Try.results135 (v1 := .int .i64 (i : Int)) (resAt_tmp rfl) ⟨rfl, (ST.subR (R' := []) (hS2.sel [] rfl rfl) (fun _ h => by cases h))⟩
    · skip
      have hF3 := cf' hb hb1
      refine cw_skip ?_
      refine cw_region ?_
      refine sq 18 rfl rfl (Y_add (k := .i64) (a := (i : Int)) (b := 1) rfl (hf.get 8 3 rfl) rfl) ?_
      refine sq 8 rfl rfl (Y_move (v := .int .i64 (IntKind.i64.wrap ((i : Int) + 1))) rfl rfl) ?_
      refine rw_nil ?_
      obtain rfl := some_inj hF3
      exact ⟨k_1, Nat.lt_succ_self _, i + 1, (FF.cons (hf.get 0 0 rfl) (FF.cons (hf.get 1 1 rfl) (FF.cons (hf.get 7 2 rfl) (FF.cons (congrArg (Value.int .i64) (wr_succ hlt1 hN)) FF.nil)))), (hS2.sel [] rfl rfl), (by omega), hL1⟩
  · skip
    obtain rfl : k_ = 0 := by have h := of_decide_eq_false hlt; omega
    refine cw_exit rfl ?_
    obtain rfl := some_inj hL
    refine cw_seq ?_
    refine cw_region ?_
    refine sq 4 rfl rfl (Y_assign (v := .int .i64 (-1)) rfl rfl) ?_
    refine rw_nil ?_
    refine cw_ret ?_
    obtain rfl := some_inj hF1
    exact ret1 Try.results135 (v1 := .int .i64 (-1)) (resAt_tmp rfl) ⟨rfl, (ST.subR (R' := []) (hS1.sel [] rfl rfl) (fun _ h => by cases h))⟩

theorem c_slices_ContainsFunc_impl_Affine_impl_Affine (s : List TAffine) (f_ : TAffine → Option (Bool)) (B : Option Addr) (c n : Nat) (kf : Nat) (caps : Array Value) (Rf : List Ro) (w0 : World) (hn : s.length = n) (hk : callB Try.prog kf = true) (hp : ∀ (w : World), ST w [] w [] Rf → ∀ (x : TAffine) (y : Bool), f_ x = some y → CV Try.prog kf ((.agg #[.int .i64 x.Mask, .int .i64 x.Turn]) :: caps.toList).toArray w (fun v w' => v = .bool y ∧ ST w [] w' [] [])) (hS : ST w0 [] w0 [] (⟨B, (s.flatMap enc_Affine)⟩ :: Rf)) {r_ : Bool} (hF : F_slices_ContainsFunc_impl_Affine_impl_Affine s f_ = some r_) :
    CV Try.prog 102 #[.slice B n c, .func (.func kf) #[] caps] w0 (fun v w' => v = .bool r_ ∧ ST w0 [] w' [] []) := by
  subst hn
  unfold F_slices_ContainsFunc_impl_Affine_impl_Affine at hF
  refine cv_of_cw 9 Try.func102 rfl Try.ntmps102 rfl ?_
  refine cw_seq ?_
  refine cw_region ?_
  refine sq 4 rfl rfl (Y_assign (v := .bool false) rfl rfl) ?_
  refine rw_nil ?_
  refine cw_seq ?_
  refine cw_region ?_
  refine sq 5 rfl rfl (Y_move (v := .slice B s.length c) rfl rfl) ?_
  refine sq 6 rfl rfl (Y_move (v := .func (.func kf) #[] caps) rfl rfl) ?_
  obtain ⟨r_1, hc, hF⟩ := bind_inv hF
  refine sc 7 rfl rfl (Yc_func (g := 135) (vs := [.slice B s.length c, .func (.func kf) #[] caps]) k_call_135 rfl (mc rfl (mc rfl mn)) (c_slices_IndexFunc_impl_Affine_impl_Affine s f_ B c s.length kf caps Rf _ rfl hk hp (hS.innS (subc (mem_at (i := 0) rfl) (fun _ h => List.mem_of_mem_drop (i := 1) h))) hc)) ?_
  rintro _ w_ ⟨rfl, hd⟩
  have hS1 := hS.out00 hd
  refine sq 8 rfl rfl (Y_ge (k := .i64) (a := r_1) (b := 0) rfl rfl rfl) ?_
  refine sq 4 rfl rfl (Y_assign (v := .bool (decide (0 ≤ r_1))) rfl rfl) ?_
  refine rw_nil ?_
  refine cw_ret ?_
  obtain rfl := some_inj hF
  exact ret1 Try.results102 (v1 := .bool (decide (0 ≤ r_1))) (resAt_tmp rfl) ⟨rfl, (ST.subR (R' := []) (hS1.sel [] rfl rfl) (fun _ h => by cases h))⟩

theorem c_impl_isAffine (a : TAffine) (n : Int)  (w0 : World)  (hS : ST w0 [] w0 [] []) {r_ : Bool} (hF : F_impl_isAffine a n = some r_) :
    CV Try.prog 56 #[.agg #[.int .i64 a.Mask, .int .i64 a.Turn], .int .i64 n] w0 (fun v w' => v = .bool r_ ∧ ST w0 [] w' [] []) := by
  unfold F_impl_isAffine at hF
  refine cv_of_cw 16 Try.func56 rfl Try.ntmps56 rfl ?_
  refine cw_seq ?_
  refine cw_region ?_
  refine ss 2 rfl rfl (Ys_box (T := 61) (v := .agg #[.int .i64 a.Mask, .int .i64 a.Turn]) (cs := [.int .i64 a.Mask, .int .i64 a.Turn]) (m := 2) hS rfl rfl rfl rfl) ?_
  rintro _ w_ ⟨b, rfl, hS1⟩
  refine sq 4 rfl rfl (Y_assign (v := .bool false) rfl rfl) ?_
  refine rw_nil ?_
  refine cw_seq ?_
  obtain ⟨hsh, hF⟩ := chk_inv hF
  obtain ⟨r_1, hc, hF⟩ := bind_inv hF
  obtain ⟨r_2, hc1, hF⟩ := bind_inv hF
  refine ra_start (ST.sel hS1 [0] rfl rfl).fn (by kernel_rfl) ?_
  have hS4 := hS1.drew
  refine ra_q 0 5 (v := pt (some ⟨b, 0, none⟩) 0) rfl rfl rfl (by kernel_rfl) (by kernel_rfl) (by kernel_rfl) (ST.sel hS4 [0] rfl rfl) (fun w' hw' => (Y_fieldAddr (B := some ⟨b, 0, none⟩) (i := 0) (s := 0) k_fd_61_0_0_3 k_sz_3_1 rfl rfl)) ?_
  refine ra_q 1 6 (v := .int .i64 a.Mask) rfl rfl rfl (by kernel_rfl) (by kernel_rfl) (by kernel_rfl) (ST.sel hS4 [0] rfl rfl) (fun w' hw' => (Y_load1 (B := some ⟨b, 0, none⟩) (i := 0) (cs := [.int .i64 a.Mask, .int .i64 a.Turn]) (v := .int .i64 a.Mask) k_sc_3 rfl rfl (ST.cf hw' (i := 0) rfl) rfl)) ?_
  refine ra_q 2 7 (v := .int .i64 n) rfl rfl rfl (by kernel_rfl) (by kernel_rfl) (by kernel_rfl) (ST.sel hS4 [0] rfl rfl) (fun w' hw' => (Y_move (v := .int .i64 n) rfl rfl)) ?_
  refine ra_q 3 8 (v := .int .i64 (shlK .i64 1 n)) rfl rfl rfl (by kernel_rfl) (by kernel_rfl) (by kernel_rfl) (ST.sel hS4 [0] rfl rfl) (fun w' hw' => (Y_shl (k := .i64) (a := 1) (k' := .i64) (b := n) rfl rfl rfl hsh)) ?_
  refine ra_q 4 9 (v := .int .i64 (IntKind.i64.wrap ((shlK .i64 1 n) - 1))) rfl rfl rfl (by kernel_rfl) (by kernel_rfl) (by kernel_rfl) (ST.sel hS4 [0] rfl rfl) (fun w' hw' => (Y_sub (k := .i64) (a := (shlK .i64 1 n)) (b := 1) rfl rfl rfl)) ?_
  refine ra_all (rs := [5]) (by kernel_rfl) rfl ?_
  refine ra_c 10 (i := 5) rfl rfl rfl (Yc_func (g := 73) (vs := [.int .i64 a.Mask, .int .i64 0, .int .i64 (IntKind.i64.wrap ((shlK .i64 1 n) - 1))]) k_call_73 rfl (mc rfl (mc rfl (mc rfl mn))) (c_impl_within a.Mask 0 (IntKind.i64.wrap ((shlK .i64 1 n) - 1)) _  (hS4.inn0 [] rfl) hc)) ?_ ?_
  · rintro _ w_1 ⟨rfl, hd⟩
    have hS5 := hS4.out00 hd
    refine ⟨(ST.sel hS5 [0] rfl rfl), ?_⟩
    refine ra_q 6 11 (v := .bool r_1) rfl rfl rfl (by kernel_rfl) (by kernel_rfl) (by kernel_rfl) (ST.sel hS5 [0] rfl rfl) (fun w' hw' => (Y_move (v := .bool r_1) rfl rfl)) ?_
    refine ra_gq 7 12 (B := r_1) (v := pt (some ⟨b, 0, none⟩) 1) rfl rfl rfl (wt_t (gd_of (t := 11) (by kernel_rfl) rfl)) (by kernel_rfl) (by kernel_rfl) (by kernel_rfl) (ST.sel hS5 [0] rfl rfl) (fun hg w' hw' => (Y_fieldAddr (B := some ⟨b, 0, none⟩) (i := 0) (s := 0) k_fd_61_1_1_3 k_sz_3_1 rfl rfl)) ?_
    refine ra_gq 8 13 (B := r_1) (v := .int .i64 a.Turn) rfl rfl rfl (wt_t (gd_of (t := 11) (by kernel_rfl) rfl)) (by kernel_rfl) (by kernel_rfl) (by kernel_rfl) (ST.sel hS5 [0] rfl rfl) (fun hg1 w' hw' => (Y_load1 (B := some ⟨b, 0, none⟩) (i := 1) (cs := [.int .i64 a.Mask, .int .i64 a.Turn]) (v := .int .i64 a.Turn) k_sc_3 rfl (gv_of (B := r_1) (v := pt (some ⟨b, 0, none⟩) 1) hg1) (ST.cf hw' (i := 0) rfl) rfl)) ?_
    refine ra_all (rs := [9]) (by kernel_rfl) rfl ?_
    refine ra_gc 14 (i := 9) (B := r_1) (v := .bool r_2) (F := hS5.fn) rfl rfl rfl (wt_t (gd_of (t := 11) (by kernel_rfl) rfl)) hS5 (fun hg2 => (Yc_func (g := 73) (vs := [.int .i64 a.Turn, .int .i64 0, .int .i64 1]) k_call_73 rfl (mc (gv_of (B := r_1) (v := .int .i64 a.Turn) hg2) (mc rfl (mc rfl mn))) (CV.mono (c_impl_within a.Turn 0 1 _  (hS5.inn0 [] rfl) (gb_inv hc1 hg2)) (by rintro _ _ ⟨rfl, h⟩; exact ⟨rfl, hS5.out00 h⟩)))) ?_ ?_
    · rintro w_2 hS6
      have hS6 : ST _ _ w_2 _ _ := hS6
      refine ⟨(ST.sel hS6 [0] rfl rfl), ?_⟩
      refine ra_q 10 15 (v := .bool (r_1 && r_2)) rfl rfl rfl (by kernel_rfl) (by kernel_rfl) (by kernel_rfl) (ST.sel hS6 [0] rfl rfl) (fun w' hw' => (Y_and (b := r_1) (z := r_2) rfl rfl rfl rfl)) ?_
      refine ra_q 11 4 (v := .bool (r_1 && r_2)) rfl rfl rfl (by kernel_rfl) (by kernel_rfl) (by kernel_rfl) (ST.sel hS6 [0] rfl rfl) (fun w' hw' => (Y_assign (v := .bool (r_1 && r_2)) rfl rfl)) ?_
      refine ra_done (by kernel_rfl) ?_
      refine cw_ret ?_
      obtain rfl := some_inj hF
      exact ret1 Try.results56 (v1 := .bool (r_1 && r_2)) (resAt_tmp rfl) ⟨rfl, (ST.subR (R' := []) (hS6.sel [] rfl rfl) (fun _ h => by cases h))⟩
    exact allR_nil
  exact allR_nil

theorem c_impl_IsValidPathSum_1 (a : TAffine) (p : Int) (B : Option Addr) (w0 : World)  (hS : ST w0 [] w0 [] [⟨B, [.int .i64 p]⟩]) {r_ : Bool} (hF : F_impl_IsValidPathSum_1 a p = some r_) :
    CV Try.prog 103 #[.agg #[.int .i64 a.Mask, .int .i64 a.Turn], pt B 0] w0 (fun v w' => v = .bool r_ ∧ ST w0 [] w' [] []) := by
  unfold F_impl_IsValidPathSum_1 at hF
  refine cv_of_cw 8 Try.func103 rfl Try.ntmps103 rfl ?_
  refine cw_seq ?_
  refine cw_region ?_
  refine ss 2 rfl rfl (Ys_box (T := 61) (v := .agg #[.int .i64 a.Mask, .int .i64 a.Turn]) (cs := [.int .i64 a.Mask, .int .i64 a.Turn]) (m := 2) hS rfl rfl rfl rfl) ?_
  rintro _ w_ ⟨b, rfl, hS1⟩
  refine sq 3 rfl rfl (Y_assign (v := .bool false) rfl rfl) ?_
  refine rw_nil ?_
  refine cw_seq ?_
  refine cw_region ?_
  refine sq 4 rfl rfl (Y_loadA (B := some ⟨b, 0, none⟩) (i := 0) (cs := [.int .i64 a.Mask, .int .i64 a.Turn]) (vs := [.int .i64 a.Mask, .int .i64 a.Turn]) k_ag_61 k_sz_61_2 rfl rfl (hS1.cf (i := 0) rfl) rfl rfl) ?_
  refine sq 5 rfl rfl (Y_load1 (B := B) (i := 0) (cs := [.int .i64 p]) (v := .int .i64 p) k_sc_3 rfl rfl (hS1.rf (i := 0) rfl) rfl) ?_
  obtain ⟨r_1, hc, hF⟩ := bind_inv hF
  refine sc 6 rfl rfl (Yc_func (g := 56) (vs := [.agg #[.int .i64 a.Mask, .int .i64 a.Turn], .int .i64 p]) k_call_56 rfl (mc rfl (mc rfl mn)) (c_impl_isAffine a p _  (hS1.inn0 [] rfl) hc)) ?_
  rintro _ w_1 ⟨rfl, hd⟩
  have hS2 := hS1.out00 hd
  refine sq 7 rfl rfl (Y_not (p := r_1) rfl rfl) ?_
  refine sq 3 rfl rfl (Y_assign (v := .bool (!r_1)) rfl rfl) ?_
  refine rw_nil ?_
  refine cw_ret ?_
  obtain rfl := some_inj hF
  exact ret1 Try.results103 (v1 := .bool (!r_1)) (resAt_tmp rfl) ⟨rfl, (ST.subR (R' := []) (hS2.sel [] rfl rfl) (fun _ h => by cases h))⟩

theorem c_impl_IsValidPathSum (p : TPathSum) (B : Option Addr) (c n : Nat) (B1 : Option Addr) (c1 n1 : Nat) (w0 : World) (hn : p.Terms.length = n) (hn1 : p.Out.length = n1) (hS : ST w0 [] w0 [] [⟨B, (p.Terms.flatMap enc_Term)⟩, ⟨B1, (p.Out.flatMap enc_Affine)⟩]) {r_ : Bool} (hF : F_impl_IsValidPathSum p = some r_) :
    CV Try.prog 54 #[.agg #[.int .i64 p.Ins, .int .i64 p.Vars, .int .i64 p.Root, .int .i64 p.Phase, .slice B n c, .slice B1 n1 c1]] w0 (fun v w' => v = .bool r_ ∧ ST w0 [] w' [] []) := by
  subst hn
  subst hn1
  unfold F_impl_IsValidPathSum at hF
  refine cv_of_cw 104 Try.func54 rfl Try.ntmps54 rfl ?_
  refine cw_seq ?_
  refine cw_region ?_
  refine ss 1 rfl rfl (Ys_box (T := 57) (v := .agg #[.int .i64 p.Ins, .int .i64 p.Vars, .int .i64 p.Root, .int .i64 p.Phase, .slice B p.Terms.length c, .slice B1 p.Out.length c1]) (cs := [.int .i64 p.Ins, .int .i64 p.Vars, .int .i64 p.Root, .int .i64 p.Phase, .slice B p.Terms.length c, .slice B1 p.Out.length c1]) (m := 6) hS rfl rfl rfl rfl) ?_
  rintro _ w_ ⟨b, rfl, hS1⟩
  refine sq 2 rfl rfl (Y_assign (v := .bool false) rfl rfl) ?_
  refine rw_nil ?_
  refine cw_seq ?_
  refine cw_seq ?_
  refine cw_region ?_
  refine sq 7 rfl rfl (Y_fieldAddr (B := some ⟨b, 0, none⟩) (i := 0) (s := 0) k_fd_57_0_0_3 k_sz_3_1 rfl rfl) ?_
  refine sq 8 rfl rfl (Y_load1 (B := some ⟨b, 0, none⟩) (i := 0) (cs := [.int .i64 p.Ins, .int .i64 p.Vars, .int .i64 p.Root, .int .i64 p.Phase, .slice B p.Terms.length c, .slice B1 p.Out.length c1]) (v := .int .i64 p.Ins) k_sc_3 rfl rfl (hS1.cf (i := 0) rfl) rfl) ?_
  obtain ⟨r_1, hc, hF⟩ := bind_inv hF
  refine sc 9 rfl rfl (Yc_func (g := 73) (vs := [.int .i64 p.Ins, .int .i64 1, .int .i64 5]) k_call_73 rfl (mc rfl (mc rfl (mc rfl mn))) (c_impl_within p.Ins 1 5 _  (hS1.inn0 [] rfl) hc)) ?_
  rintro _ w_1 ⟨rfl, hd⟩
  have hS2 := hS1.out00 hd
  refine sq 10 rfl rfl (Y_not (p := r_1) rfl rfl) ?_
  refine sq 11 rfl rfl (Y_move (v := .bool (!r_1)) rfl rfl) ?_
  refine sgq 12 (B := (!(!r_1))) (v := pt (some ⟨b, 0, none⟩) 1) rfl rfl (wt_f (gd_of (t := 11) (by kernel_rfl) rfl)) (fun hg => (Y_fieldAddr (B := some ⟨b, 0, none⟩) (i := 0) (s := 0) k_fd_57_1_1_3 k_sz_3_1 rfl rfl)) ?_
  refine sgq 13 (B := (!(!r_1))) (v := .int .i64 p.Vars) rfl rfl (wt_f (gd_of (t := 11) (by kernel_rfl) rfl)) (fun hg1 => (Y_load1 (B := some ⟨b, 0, none⟩) (i := 1) (cs := [.int .i64 p.Ins, .int .i64 p.Vars, .int .i64 p.Root, .int .i64 p.Phase, .slice B p.Terms.length c, .slice B1 p.Out.length c1]) (v := .int .i64 p.Vars) k_sc_3 rfl (gv_of (B := (!(!r_1))) (v := pt (some ⟨b, 0, none⟩) 1) hg1) (hS2.cf (i := 0) rfl) rfl)) ?_
  refine sgq 14 (B := (!(!r_1))) (v := pt (some ⟨b, 0, none⟩) 0) rfl rfl (wt_f (gd_of (t := 11) (by kernel_rfl) rfl)) (fun hg2 => (Y_fieldAddr (B := some ⟨b, 0, none⟩) (i := 0) (s := 0) k_fd_57_0_0_3 k_sz_3_1 rfl rfl)) ?_
  refine sgq 15 (B := (!(!r_1))) (v := .int .i64 p.Ins) rfl rfl (wt_f (gd_of (t := 11) (by kernel_rfl) rfl)) (fun hg3 => (Y_load1 (B := some ⟨b, 0, none⟩) (i := 0) (cs := [.int .i64 p.Ins, .int .i64 p.Vars, .int .i64 p.Root, .int .i64 p.Phase, .slice B p.Terms.length c, .slice B1 p.Out.length c1]) (v := .int .i64 p.Ins) k_sc_3 rfl (gv_of (B := (!(!r_1))) (v := pt (some ⟨b, 0, none⟩) 0) hg3) (hS2.cf (i := 0) rfl) rfl)) ?_
  refine sgq 16 (B := (!(!r_1))) (v := .int .i64 (IntKind.i64.wrap (24 - p.Ins))) rfl rfl (wt_f (gd_of (t := 11) (by kernel_rfl) rfl)) (fun hg4 => (Y_sub (k := .i64) (a := 24) (b := p.Ins) rfl rfl (gv_of (B := (!(!r_1))) (v := .int .i64 p.Ins) hg4))) ?_
  obtain ⟨r_2, hc1, hF⟩ := bind_inv hF
  refine sgc 17 (B := (!(!r_1))) (v := .bool r_2) (F := hS2.fn) rfl rfl (wt_f (gd_of (t := 11) (by kernel_rfl) rfl)) hS2 (fun hg5 => (Yc_func (g := 73) (vs := [.int .i64 p.Vars, .int .i64 0, .int .i64 (IntKind.i64.wrap (24 - p.Ins))]) k_call_73 rfl (mc (gv_of (B := (!(!r_1))) (v := .int .i64 p.Vars) hg5) (mc rfl (mc (gv_of (B := (!(!r_1))) (v := .int .i64 (IntKind.i64.wrap (24 - p.Ins))) hg5) mn))) (CV.mono (c_impl_within p.Vars 0 (IntKind.i64.wrap (24 - p.Ins)) _  (hS2.inn0 [] rfl) (gb_inv hc1 hg5)) (by rintro _ _ ⟨rfl, h⟩; exact ⟨rfl, hS2.out00 h⟩)))) ?_
  rintro w_2 hS3
  have hS3 : ST _ _ w_2 _ _ := hS3
  refine sgq 18 (B := (!(!r_1))) (v := .bool (!r_2)) rfl rfl (wt_f (gd_of (t := 11) (by kernel_rfl) rfl)) (fun hg6 => (Y_not (p := r_2) rfl (gv_of (B := (!(!r_1))) (v := .bool r_2) hg6))) ?_
  refine sq 19 rfl rfl (Y_or (b := (!r_1)) (z := (!r_2)) rfl rfl rfl rfl) ?_
  refine sq 20 rfl rfl (Y_move (v := .bool ((!r_1) || (!r_2))) rfl rfl) ?_
  refine sgq 21 (B := (!((!r_1) || (!r_2)))) (v := pt (some ⟨b, 0, none⟩) 2) rfl rfl (wt_f (gd_of (t := 20) (by kernel_rfl) rfl)) (fun hg7 => (Y_fieldAddr (B := some ⟨b, 0, none⟩) (i := 0) (s := 0) k_fd_57_2_2_3 k_sz_3_1 rfl rfl)) ?_
  refine sgq 22 (B := (!((!r_1) || (!r_2)))) (v := .int .i64 p.Root) rfl rfl (wt_f (gd_of (t := 20) (by kernel_rfl) rfl)) (fun hg8 => (Y_load1 (B := some ⟨b, 0, none⟩) (i := 2) (cs := [.int .i64 p.Ins, .int .i64 p.Vars, .int .i64 p.Root, .int .i64 p.Phase, .slice B p.Terms.length c, .slice B1 p.Out.length c1]) (v := .int .i64 p.Root) k_sc_3 rfl (gv_of (B := (!((!r_1) || (!r_2)))) (v := pt (some ⟨b, 0, none⟩) 2) hg8) (hS3.cf (i := 0) rfl) rfl)) ?_
  obtain ⟨r_3, hc2, hF⟩ := bind_inv hF
  refine sgc 23 (B := (!((!r_1) || (!r_2)))) (v := .bool r_3) (F := hS3.fn) rfl rfl (wt_f (gd_of (t := 20) (by kernel_rfl) rfl)) hS3 (fun hg9 => (Yc_func (g := 73) (vs := [.int .i64 p.Root, .int .i64 (-60), .int .i64 60]) k_call_73 rfl (mc (gv_of (B := (!((!r_1) || (!r_2)))) (v := .int .i64 p.Root) hg9) (mc rfl (mc rfl mn))) (CV.mono (c_impl_within p.Root (-60) 60 _  (hS3.inn0 [] rfl) (gb_inv hc2 hg9)) (by rintro _ _ ⟨rfl, h⟩; exact ⟨rfl, hS3.out00 h⟩)))) ?_
  rintro w_3 hS4
  have hS4 : ST _ _ w_3 _ _ := hS4
  refine sgq 24 (B := (!((!r_1) || (!r_2)))) (v := .bool (!r_3)) rfl rfl (wt_f (gd_of (t := 20) (by kernel_rfl) rfl)) (fun hg10 => (Y_not (p := r_3) rfl (gv_of (B := (!((!r_1) || (!r_2)))) (v := .bool r_3) hg10))) ?_
  refine sq 25 rfl rfl (Y_or (b := ((!r_1) || (!r_2))) (z := (!r_3)) rfl rfl rfl rfl) ?_
  refine sq 26 rfl rfl (Y_move (v := .bool (((!r_1) || (!r_2)) || (!r_3))) rfl rfl) ?_
  refine sgq 27 (B := (!(((!r_1) || (!r_2)) || (!r_3)))) (v := pt (some ⟨b, 0, none⟩) 3) rfl rfl (wt_f (gd_of (t := 26) (by kernel_rfl) rfl)) (fun hg11 => (Y_fieldAddr (B := some ⟨b, 0, none⟩) (i := 0) (s := 0) k_fd_57_3_3_3 k_sz_3_1 rfl rfl)) ?_
  refine sgq 28 (B := (!(((!r_1) || (!r_2)) || (!r_3)))) (v := .int .i64 p.Phase) rfl rfl (wt_f (gd_of (t := 26) (by kernel_rfl) rfl)) (fun hg12 => (Y_load1 (B := some ⟨b, 0, none⟩) (i := 3) (cs := [.int .i64 p.Ins, .int .i64 p.Vars, .int .i64 p.Root, .int .i64 p.Phase, .slice B p.Terms.length c, .slice B1 p.Out.length c1]) (v := .int .i64 p.Phase) k_sc_3 rfl (gv_of (B := (!(((!r_1) || (!r_2)) || (!r_3)))) (v := pt (some ⟨b, 0, none⟩) 3) hg12) (hS4.cf (i := 0) rfl) rfl)) ?_
  obtain ⟨r_4, hc3, hF⟩ := bind_inv hF
  refine sgc 29 (B := (!(((!r_1) || (!r_2)) || (!r_3)))) (v := .bool r_4) (F := hS4.fn) rfl rfl (wt_f (gd_of (t := 26) (by kernel_rfl) rfl)) hS4 (fun hg13 => (Yc_func (g := 73) (vs := [.int .i64 p.Phase, .int .i64 0, .int .i64 7]) k_call_73 rfl (mc (gv_of (B := (!(((!r_1) || (!r_2)) || (!r_3)))) (v := .int .i64 p.Phase) hg13) (mc rfl (mc rfl mn))) (CV.mono (c_impl_within p.Phase 0 7 _  (hS4.inn0 [] rfl) (gb_inv hc3 hg13)) (by rintro _ _ ⟨rfl, h⟩; exact ⟨rfl, hS4.out00 h⟩)))) ?_
  rintro w_4 hS5
  have hS5 : ST _ _ w_4 _ _ := hS5
  refine sgq 30 (B := (!(((!r_1) || (!r_2)) || (!r_3)))) (v := .bool (!r_4)) rfl rfl (wt_f (gd_of (t := 26) (by kernel_rfl) rfl)) (fun hg14 => (Y_not (p := r_4) rfl (gv_of (B := (!(((!r_1) || (!r_2)) || (!r_3)))) (v := .bool r_4) hg14))) ?_
  refine sq 31 rfl rfl (Y_or (b := (((!r_1) || (!r_2)) || (!r_3))) (z := (!r_4)) rfl rfl rfl rfl) ?_
  refine sq 32 rfl rfl (Y_move (v := .bool ((((!r_1) || (!r_2)) || (!r_3)) || (!r_4))) rfl rfl) ?_
  refine sgq 33 (B := (!((((!r_1) || (!r_2)) || (!r_3)) || (!r_4)))) (v := pt (some ⟨b, 0, none⟩) 5) rfl rfl (wt_f (gd_of (t := 32) (by kernel_rfl) rfl)) (fun hg15 => (Y_fieldAddr (B := some ⟨b, 0, none⟩) (i := 0) (s := 0) k_fd_57_5_5_55 k_sz_55_1 rfl rfl)) ?_
  refine sgq 34 (B := (!((((!r_1) || (!r_2)) || (!r_3)) || (!r_4)))) (v := .slice B1 p.Out.length c1) rfl rfl (wt_f (gd_of (t := 32) (by kernel_rfl) rfl)) (fun hg16 => (Y_load1 (B := some ⟨b, 0, none⟩) (i := 5) (cs := [.int .i64 p.Ins, .int .i64 p.Vars, .int .i64 p.Root, .int .i64 p.Phase, .slice B p.Terms.length c, .slice B1 p.Out.length c1]) (v := .slice B1 p.Out.length c1) k_sc_55 rfl (gv_of (B := (!((((!r_1) || (!r_2)) || (!r_3)) || (!r_4)))) (v := pt (some ⟨b, 0, none⟩) 5) hg16) (hS5.cf (i := 0) rfl) rfl)) ?_
  refine sgq 35 (B := (!((((!r_1) || (!r_2)) || (!r_3)) || (!r_4)))) (v := .int .i64 (p.Out.length : Int)) rfl rfl (wt_f (gd_of (t := 32) (by kernel_rfl) rfl)) (fun hg17 => (Y_len (B := B1) (m := p.Out.length) (c := c1) k_sl_55_61 rfl (gv_of (B := (!((((!r_1) || (!r_2)) || (!r_3)) || (!r_4)))) (v := .slice B1 p.Out.length c1) hg17))) ?_
  refine sgq 36 (B := (!((((!r_1) || (!r_2)) || (!r_3)) || (!r_4)))) (v := pt (some ⟨b, 0, none⟩) 0) rfl rfl (wt_f (gd_of (t := 32) (by kernel_rfl) rfl)) (fun hg18 => (Y_fieldAddr (B := some ⟨b, 0, none⟩) (i := 0) (s := 0) k_fd_57_0_0_3 k_sz_3_1 rfl rfl)) ?_
  refine sgq 37 (B := (!((((!r_1) || (!r_2)) || (!r_3)) || (!r_4)))) (v := .int .i64 p.Ins) rfl rfl (wt_f (gd_of (t := 32) (by kernel_rfl) rfl)) (fun hg19 => (Y_load1 (B := some ⟨b, 0, none⟩) (i := 0) (cs := [.int .i64 p.Ins, .int .i64 p.Vars, .int .i64 p.Root, .int .i64 p.Phase, .slice B p.Terms.length c, .slice B1 p.Out.length c1]) (v := .int .i64 p.Ins) k_sc_3 rfl (gv_of (B := (!((((!r_1) || (!r_2)) || (!r_3)) || (!r_4)))) (v := pt (some ⟨b, 0, none⟩) 0) hg19) (hS5.cf (i := 0) rfl) rfl)) ?_
  refine sgq 38 (B := (!((((!r_1) || (!r_2)) || (!r_3)) || (!r_4)))) (v := .bool ((p.Out.length : Int) != p.Ins)) rfl rfl (wt_f (gd_of (t := 32) (by kernel_rfl) rfl)) (fun hg20 => (Y_ne (k := .i64) (a := (p.Out.length : Int)) (b := p.Ins) rfl (gv_of (B := (!((((!r_1) || (!r_2)) || (!r_3)) || (!r_4)))) (v := .int .i64 (p.Out.length : Int)) hg20) (gv_of (B := (!((((!r_1) || (!r_2)) || (!r_3)) || (!r_4)))) (v := .int .i64 p.Ins) hg20))) ?_
  refine sq 39 rfl rfl (Y_or (b := ((((!r_1) || (!r_2)) || (!r_3)) || (!r_4))) (z := ((p.Out.length : Int) != p.Ins)) rfl rfl rfl rfl) ?_
  refine rw_nil ?_
  refine cw_cond (b := (((((!r_1) || (!r_2)) || (!r_3)) || (!r_4)) || ((p.Out.length : Int) != p.Ins))) rfl (fun hb => ?_) (fun hb => ?_)
  · skip
    have hF1 := ct hF hb
    refine cw_seq ?_
    refine cw_region ?_
    refine sq 2 rfl rfl (Y_assign (v := .bool false) rfl rfl) ?_
    refine rw_nil ?_
    refine cw_ret ?_
    obtain rfl := some_inj hF1
    exact ret1 Try.results54 (v1 := .bool false) (resAt_tmp rfl) ⟨rfl, (ST.subR (R' := []) (hS5.sel [] rfl rfl) (fun _ h => by cases h))⟩
  · skip
    have hF2 := cf' hF hb
    refine cw_skip ?_
    refine cw_seq ?_
    refine cw_region ?_
    refine sq 40 rfl rfl (Y_fieldAddr (B := some ⟨b, 0, none⟩) (i := 0) (s := 0) k_fd_57_0_0_3 k_sz_3_1 rfl rfl) ?_
    refine sq 41 rfl rfl (Y_load1 (B := some ⟨b, 0, none⟩) (i := 0) (cs := [.int .i64 p.Ins, .int .i64 p.Vars, .int .i64 p.Root, .int .i64 p.Phase, .slice B p.Terms.length c, .slice B1 p.Out.length c1]) (v := .int .i64 p.Ins) k_sc_3 rfl rfl (hS5.cf (i := 0) rfl) rfl) ?_
    refine sq 42 rfl rfl (Y_fieldAddr (B := some ⟨b, 0, none⟩) (i := 0) (s := 0) k_fd_57_1_1_3 k_sz_3_1 rfl rfl) ?_
    refine sq 43 rfl rfl (Y_load1 (B := some ⟨b, 0, none⟩) (i := 1) (cs := [.int .i64 p.Ins, .int .i64 p.Vars, .int .i64 p.Root, .int .i64 p.Phase, .slice B p.Terms.length c, .slice B1 p.Out.length c1]) (v := .int .i64 p.Vars) k_sc_3 rfl rfl (hS5.cf (i := 0) rfl) rfl) ?_
    refine sq 44 rfl rfl (Y_add (k := .i64) (a := p.Ins) (b := p.Vars) rfl rfl rfl) ?_
    refine ss 3 rfl rfl (Ys_alloc (T := 3) (cs := [.int .i64 0]) (m := 1) hS5 k_zero_3 rfl rfl rfl) ?_
    rintro _ w_5 ⟨b1, rfl, hS6⟩
    have hS6 : ST w0 [] _ [⟨some ⟨b, 0, none⟩, 57, [.int .i64 p.Ins, .int .i64 p.Vars, .int .i64 p.Root, .int .i64 p.Phase, .slice B p.Terms.length c, .slice B1 p.Out.length c1], 6⟩, ⟨some ⟨b1, 0, none⟩, 3, [.int .i64 0], 1⟩] [⟨B, (p.Terms.flatMap enc_Term)⟩, ⟨B1, (p.Out.flatMap enc_Affine)⟩] := hS6
    refine ss0 rfl rfl (Ys_store (i := 1) (s := 1) (B := some ⟨b1, 0, none⟩) (T' := 3) (v := .int .i64 (IntKind.i64.wrap (p.Ins + p.Vars))) (vs := [.int .i64 (IntKind.i64.wrap (p.Ins + p.Vars))]) (k := 0) (cs' := [.int .i64 (IntKind.i64.wrap (p.Ins + p.Vars))]) hS6 k_sz_3_1 rfl rfl rfl rfl rfl rfl rfl (Nat.le_of_ble_eq_true rfl) rfl rfl) ?_
    rintro _ w_6 ⟨rfl, hS7⟩
    have hS7 : ST w0 [] _ [⟨some ⟨b, 0, none⟩, 57, [.int .i64 p.Ins, .int .i64 p.Vars, .int .i64 p.Root, .int .i64 p.Phase, .slice B p.Terms.length c, .slice B1 p.Out.length c1], 6⟩, ⟨some ⟨b1, 0, none⟩, 3, [.int .i64 (IntKind.i64.wrap (p.Ins + p.Vars))], 1⟩] [⟨B, (p.Terms.flatMap enc_Term)⟩, ⟨B1, (p.Out.flatMap enc_Affine)⟩] := hS7
    refine rw_nil ?_
    refine cw_seq ?_
    refine cw_seq ?_
    refine cw_region ?_
    refine sq 45 rfl rfl (Y_fieldAddr (B := some ⟨b, 0, none⟩) (i := 0) (s := 0) k_fd_57_4_4_54 k_sz_54_1 rfl rfl) ?_
    refine sq 46 rfl rfl (Y_load1 (B := some ⟨b, 0, none⟩) (i := 4) (cs := [.int .i64 p.Ins, .int .i64 p.Vars, .int .i64 p.Root, .int .i64 p.Phase, .slice B p.Terms.length c, .slice B1 p.Out.length c1]) (v := .slice B p.Terms.length c) k_sc_54 rfl rfl (hS7.cf (i := 0) rfl) rfl) ?_
    refine sq 47 rfl rfl (Y_len (B := B) (m := p.Terms.length) (c := c) k_sl_54_136 rfl rfl) ?_
    refine sq 48 rfl rfl (Y_move (v := .int .i64 0) rfl rfl) ?_
    refine rw_nil ?_
    obtain ⟨hN, hF2⟩ := chk_inv hF2
    obtain ⟨z, hz, hF3⟩ := bind_inv hF2
    refine cw_block ?_
    refine cw_loop (fun k f w => ∃ (i : Nat), FF f [(1, pt (some ⟨b, 0, none⟩) 0), (3, pt (some ⟨b1, 0, none⟩) 0), (46, .slice B p.Terms.length c), (47, .int .i64 (p.Terms.length : Int)), (48, .int .i64 (i : Int))] ∧ ST w0 [] w [⟨some ⟨b, 0, none⟩, 57, [.int .i64 p.Ins, .int .i64 p.Vars, .int .i64 p.Root, .int .i64 p.Phase, .slice B p.Terms.length c, .slice B1 p.Out.length c1], 6⟩, ⟨some ⟨b1, 0, none⟩, 3, [.int .i64 (IntKind.i64.wrap (p.Ins + p.Vars))], 1⟩] [⟨B, (p.Terms.flatMap enc_Term)⟩, ⟨B1, (p.Out.flatMap enc_Affine)⟩] ∧ i + k = p.Terms.length ∧ forX (F_impl_IsValidPathSum_l1 p) k i () = some z) p.Terms.length ⟨0, (FF.cons rfl (FF.cons rfl (FF.cons rfl (FF.cons rfl (FF.cons rfl FF.nil))))), (hS7.sel [0, 1] rfl rfl), Nat.zero_add _, hz⟩ ?_
    rintro k_ f w ⟨i, hf, hS8, hik, hL⟩
    refine cw_seq ?_
    refine cw_region ?_
    refine sq 49 rfl rfl (Y_lt (k := .i64) (a := (i : Int)) (b := (p.Terms.length : Int)) rfl (hf.get 48 4 rfl) (hf.get 47 3 rfl)) ?_
    refine rw_nil ?_
    refine cw_seq ?_
    refine cw_cond (b := (decide ((i : Int) < (p.Terms.length : Int)))) rfl (fun hlt => ?_) (fun hlt => ?_)
    · skip
      have hlt1 : i < p.Terms.length := by have h := of_decide_eq_true hlt; omega
      obtain ⟨k_1, rfl⟩ : ∃ k2, k_ = k2 + 1 := ⟨k_ - 1, by omega⟩
      obtain ⟨y, hb1, hL1⟩ := forX_go hL
      unfold F_impl_IsValidPathSum_l1 at hb1
      refine cw_skip ?_
      refine cw_seq ?_
      refine cw_block ?_
      refine cw_seq ?_
      refine cw_region ?_
      refine sq 50 rfl rfl (Y_move (v := .int .i64 (i : Int)) rfl (hf.get 48 4 rfl)) ?_
      obtain ⟨x, hx, hb1⟩ := bind_inv hb1
      refine sq 51 rfl rfl (Y_index (B := B) (m := p.Terms.length) (c := c) (k := .i64) (i := (i : Int)) k_sl_54_136 k_sz_136_2 rfl (hf.get 46 2 rfl) (hf.get 48 4 rfl) (gi_isSome enc_Term_len rfl (hS8.rf (i := 0) rfl) hx) (getI_nn hx) (getI_ltI hx rfl)) ?_
      refine sq 52 rfl rfl (Y_loadA (B := B) (i := (i : Int).toNat * 2) (cs := (p.Terms.flatMap enc_Term)) (vs := [.int .i64 x.Mask, .int .i64 x.Coef]) k_ag_136 k_sz_136_2 rfl rfl (hS8.rf (i := 0) rfl) (enc_Term_len x) (gi_seg enc_Term_len hx)) ?_
      refine ss 5 rfl rfl (Ys_alloc (T := 136) (cs := [.int .i64 0, .int .i64 0]) (m := 2) hS8 k_zero_136 rfl rfl rfl) ?_
      rintro _ w_7 ⟨b2, rfl, hS9⟩
      have hS9 : ST w0 [] _ [⟨some ⟨b, 0, none⟩, 57, [.int .i64 p.Ins, .int .i64 p.Vars, .int .i64 p.Root, .int .i64 p.Phase, .slice B p.Terms.length c, .slice B1 p.Out.length c1], 6⟩, ⟨some ⟨b1, 0, none⟩, 3, [.int .i64 (IntKind.i64.wrap (p.Ins + p.Vars))], 1⟩, ⟨some ⟨b2, 0, none⟩, 136, [.int .i64 0, .int .i64 0], 2⟩] [⟨B, (p.Terms.flatMap enc_Term)⟩, ⟨B1, (p.Out.flatMap enc_Affine)⟩] := hS9
      refine sq 4 rfl rfl (Y_assign (v := .int .i64 (i : Int)) rfl rfl) ?_
      refine ss0 rfl rfl (Ys_store (i := 2) (s := 2) (B := some ⟨b2, 0, none⟩) (T' := 136) (v := .agg #[.int .i64 x.Mask, .int .i64 x.Coef]) (vs := [.int .i64 x.Mask, .int .i64 x.Coef]) (k := 0) (cs' := [.int .i64 x.Mask, .int .i64 x.Coef]) hS9 k_sz_136_2 rfl rfl rfl rfl rfl rfl rfl (Nat.le_of_ble_eq_true rfl) rfl rfl) ?_
      rintro _ w_8 ⟨rfl, hS10⟩
      have hS10 : ST w0 [] _ [⟨some ⟨b, 0, none⟩, 57, [.int .i64 p.Ins, .int .i64 p.Vars, .int .i64 p.Root, .int .i64 p.Phase, .slice B p.Terms.length c, .slice B1 p.Out.length c1], 6⟩, ⟨some ⟨b1, 0, none⟩, 3, [.int .i64 (IntKind.i64.wrap (p.Ins + p.Vars))], 1⟩, ⟨some ⟨b2, 0, none⟩, 136, [.int .i64 x.Mask, .int .i64 x.Coef], 2⟩] [⟨B, (p.Terms.flatMap enc_Term)⟩, ⟨B1, (p.Out.flatMap enc_Affine)⟩] := hS10
      refine rw_nil ?_
      refine cw_seq ?_
      refine cw_region ?_
      refine sq 53 rfl rfl (Y_fieldAddr (B := some ⟨b2, 0, none⟩) (i := 0) (s := 0) k_fd_136_0_0_3 k_sz_3_1 rfl rfl) ?_
      refine sq 54 rfl rfl (Y_load1 (B := some ⟨b2, 0, none⟩) (i := 0) (cs := [.int .i64 x.Mask, .int .i64 x.Coef]) (v := .int .i64 x.Mask) k_sc_3 rfl rfl (hS10.cf (i := 2) rfl) rfl) ?_
      obtain ⟨r_5, hc4, hb1⟩ := bind_inv hb1
      refine sc 55 rfl rfl (Yc_func (g := 101) (vs := [.int .i64 x.Mask]) k_call_101 rfl (mc rfl mn) (c_impl_bitsIn x.Mask _  (hS10.inn0 [] rfl) hc4)) ?_
      rintro _ w_9 ⟨rfl, hd1⟩
      have hS11 := hS10.out00 hd1
      have hS11 : ST w0 [] _ [⟨some ⟨b, 0, none⟩, 57, [.int .i64 p.Ins, .int .i64 p.Vars, .int .i64 p.Root, .int .i64 p.Phase, .slice B p.Terms.length c, .slice B1 p.Out.length c1], 6⟩, ⟨some ⟨b1, 0, none⟩, 3, [.int .i64 (IntKind.i64.wrap (p.Ins + p.Vars))], 1⟩, ⟨some ⟨b2, 0, none⟩, 136, [.int .i64 x.Mask, .int .i64 x.Coef], 2⟩] [⟨B, (p.Terms.flatMap enc_Term)⟩, ⟨B1, (p.Out.flatMap enc_Affine)⟩] := hS11
      refine sq 6 rfl rfl (Y_assign (v := .int .i64 r_5) rfl rfl) ?_
      refine rw_nil ?_
      refine cw_seq ?_
      obtain ⟨hsh, hb1⟩ := chk_inv hb1
      obtain ⟨r_6, hc5, hb1⟩ := bind_inv hb1
      obtain ⟨r_7, hc6, hb1⟩ := bind_inv hb1
      obtain ⟨hsh1, hb1⟩ := chk_inv hb1
      obtain ⟨hne, hb1⟩ := chk_inv hb1
      obtain ⟨x1, hx1, hb1⟩ := bind_inv hb1
      refine ra_start (ST.sel hS11 [0, 1, 2] rfl rfl).fn (by kernel_rfl) ?_
      have hS14 := hS11.drew
      refine ra_q 0 56 (v := pt (some ⟨b2, 0, none⟩) 0) rfl rfl rfl (by kernel_rfl) (by kernel_rfl) (by kernel_rfl) (ST.sel hS14 [0, 1, 2] rfl rfl) (fun w' hw' => (Y_fieldAddr (B := some ⟨b2, 0, none⟩) (i := 0) (s := 0) k_fd_136_0_0_3 k_sz_3_1 rfl rfl)) ?_
      refine ra_q 1 57 (v := .int .i64 x.Mask) rfl rfl rfl (by kernel_rfl) (by kernel_rfl) (by kernel_rfl) (ST.sel hS14 [0, 1, 2] rfl rfl) (fun w' hw' => (Y_load1 (B := some ⟨b2, 0, none⟩) (i := 0) (cs := [.int .i64 x.Mask, .int .i64 x.Coef]) (v := .int .i64 x.Mask) k_sc_3 rfl rfl (ST.cf hw' (i := 2) rfl) rfl)) ?_
      refine ra_q 2 58 (v := .int .i64 (IntKind.i64.wrap (p.Ins + p.Vars))) rfl rfl rfl (by kernel_rfl) (by kernel_rfl) (by kernel_rfl) (ST.sel hS14 [0, 1, 2] rfl rfl) (fun w' hw' => (Y_load1 (B := some ⟨b1, 0, none⟩) (i := 0) (cs := [.int .i64 (IntKind.i64.wrap (p.Ins + p.Vars))]) (v := .int .i64 (IntKind.i64.wrap (p.Ins + p.Vars))) k_sc_3 rfl (hf.get 3 1 rfl) (ST.cf hw' (i := 1) rfl) rfl)) ?_
      refine ra_q 3 59 (v := .int .i64 (shlK .i64 1 (IntKind.i64.wrap (p.Ins + p.Vars)))) rfl rfl rfl (by kernel_rfl) (by kernel_rfl) (by kernel_rfl) (ST.sel hS14 [0, 1, 2] rfl rfl) (fun w' hw' => (Y_shl (k := .i64) (a := 1) (k' := .i64) (b := (IntKind.i64.wrap (p.Ins + p.Vars))) rfl rfl rfl hsh)) ?_
      refine ra_q 4 60 (v := .int .i64 (IntKind.i64.wrap ((shlK .i64 1 (IntKind.i64.wrap (p.Ins + p.Vars))) - 1))) rfl rfl rfl (by kernel_rfl) (by kernel_rfl) (by kernel_rfl) (ST.sel hS14 [0, 1, 2] rfl rfl) (fun w' hw' => (Y_sub (k := .i64) (a := (shlK .i64 1 (IntKind.i64.wrap (p.Ins + p.Vars)))) (b := 1) rfl rfl rfl)) ?_
      refine ra_all (rs := [5]) (by kernel_rfl) rfl ?_
      refine ra_c 61 (i := 5) rfl rfl rfl (Yc_func (g := 73) (vs := [.int .i64 x.Mask, .int .i64 1, .int .i64 (IntKind.i64.wrap ((shlK .i64 1 (IntKind.i64.wrap (p.Ins + p.Vars))) - 1))]) k_call_73 rfl (mc rfl (mc rfl (mc rfl mn))) (c_impl_within x.Mask 1 (IntKind.i64.wrap ((shlK .i64 1 (IntKind.i64.wrap (p.Ins + p.Vars))) - 1)) _  (hS14.inn0 [] rfl) hc5)) ?_ ?_
      · rintro _ w_10 ⟨rfl, hd2⟩
        have hS15 := hS14.out00 hd2
        have hS15 : ST w0 [] _ [⟨some ⟨b, 0, none⟩, 57, [.int .i64 p.Ins, .int .i64 p.Vars, .int .i64 p.Root, .int .i64 p.Phase, .slice B p.Terms.length c, .slice B1 p.Out.length c1], 6⟩, ⟨some ⟨b1, 0, none⟩, 3, [.int .i64 (IntKind.i64.wrap (p.Ins + p.Vars))], 1⟩, ⟨some ⟨b2, 0, none⟩, 136, [.int .i64 x.Mask, .int .i64 x.Coef], 2⟩] [⟨B, (p.Terms.flatMap enc_Term)⟩, ⟨B1, (p.Out.flatMap enc_Affine)⟩] := hS15
        refine ⟨(ST.sel hS15 [0, 1, 2] rfl rfl), ?_⟩
        refine ra_q 6 62 (v := .bool (!r_6)) rfl rfl rfl (by kernel_rfl) (by kernel_rfl) (by kernel_rfl) (ST.sel hS15 [0, 1, 2] rfl rfl) (fun w' hw' => (Y_not (p := r_6) rfl rfl)) ?_
        refine ra_q 7 63 (v := .bool (!r_6)) rfl rfl rfl (by kernel_rfl) (by kernel_rfl) (by kernel_rfl) (ST.sel hS15 [0, 1, 2] rfl rfl) (fun w' hw' => (Y_move (v := .bool (!r_6)) rfl rfl)) ?_
        refine ra_gq 8 64 (B := (!(!r_6))) (v := .int .i64 r_5) rfl rfl rfl (wt_f (gd_of (t := 63) (by kernel_rfl) rfl)) (by kernel_rfl) (by kernel_rfl) (by kernel_rfl) (ST.sel hS15 [0, 1, 2] rfl rfl) (fun hg21 w' hw' => (Y_move (v := .int .i64 r_5) rfl rfl)) ?_
        refine ra_gq 9 65 (B := (!(!r_6))) (v := .bool (decide (3 < r_5))) rfl rfl rfl (wt_f (gd_of (t := 63) (by kernel_rfl) rfl)) (by kernel_rfl) (by kernel_rfl) (by kernel_rfl) (ST.sel hS15 [0, 1, 2] rfl rfl) (fun hg22 w' hw' => (Y_gt (k := .i64) (a := r_5) (b := 3) rfl (gv_of (B := (!(!r_6))) (v := .int .i64 r_5) hg22) rfl)) ?_
        refine ra_q 10 66 (v := .bool ((!r_6) || (decide (3 < r_5)))) rfl rfl rfl (by kernel_rfl) (by kernel_rfl) (by kernel_rfl) (ST.sel hS15 [0, 1, 2] rfl rfl) (fun w' hw' => (Y_or (b := (!r_6)) (z := (decide (3 < r_5))) rfl rfl rfl rfl)) ?_
        refine ra_q 11 67 (v := .bool ((!r_6) || (decide (3 < r_5)))) rfl rfl rfl (by kernel_rfl) (by kernel_rfl) (by kernel_rfl) (ST.sel hS15 [0, 1, 2] rfl rfl) (fun w' hw' => (Y_move (v := .bool ((!r_6) || (decide (3 < r_5)))) rfl rfl)) ?_
        refine ra_gq 12 68 (B := (!((!r_6) || (decide (3 < r_5))))) (v := pt (some ⟨b2, 0, none⟩) 1) rfl rfl rfl (wt_f (gd_of (t := 67) (by kernel_rfl) rfl)) (by kernel_rfl) (by kernel_rfl) (by kernel_rfl) (ST.sel hS15 [0, 1, 2] rfl rfl) (fun hg23 w' hw' => (Y_fieldAddr (B := some ⟨b2, 0, none⟩) (i := 0) (s := 0) k_fd_136_1_1_3 k_sz_3_1 rfl rfl)) ?_
        refine ra_gq 13 69 (B := (!((!r_6) || (decide (3 < r_5))))) (v := .int .i64 x.Coef) rfl rfl rfl (wt_f (gd_of (t := 67) (by kernel_rfl) rfl)) (by kernel_rfl) (by kernel_rfl) (by kernel_rfl) (ST.sel hS15 [0, 1, 2] rfl rfl) (fun hg24 w' hw' => (Y_load1 (B := some ⟨b2, 0, none⟩) (i := 1) (cs := [.int .i64 x.Mask, .int .i64 x.Coef]) (v := .int .i64 x.Coef) k_sc_3 rfl (gv_of (B := (!((!r_6) || (decide (3 < r_5))))) (v := pt (some ⟨b2, 0, none⟩) 1) hg24) (ST.cf hw' (i := 2) rfl) rfl)) ?_
        refine ra_all (rs := [14]) (by kernel_rfl) rfl ?_
        refine ra_gc 70 (i := 14) (B := (!((!r_6) || (decide (3 < r_5))))) (v := .bool r_7) (F := hS15.fn) rfl rfl rfl (wt_f (gd_of (t := 67) (by kernel_rfl) rfl)) hS15 (fun hg25 => (Yc_func (g := 73) (vs := [.int .i64 x.Coef, .int .i64 1, .int .i64 7]) k_call_73 rfl (mc (gv_of (B := (!((!r_6) || (decide (3 < r_5))))) (v := .int .i64 x.Coef) hg25) (mc rfl (mc rfl mn))) (CV.mono (c_impl_within x.Coef 1 7 _  (hS15.inn0 [] rfl) (gb_inv hc6 hg25)) (by rintro _ _ ⟨rfl, h⟩; exact ⟨rfl, hS15.out00 h⟩)))) ?_ ?_
        · rintro w_11 hS16
          have hS16 : ST _ _ w_11 _ _ := hS16
          refine ⟨(ST.sel hS16 [0, 1, 2] rfl rfl), ?_⟩
          refine ra_gq 15 71 (B := (!((!r_6) || (decide (3 < r_5))))) (v := .bool (!r_7)) rfl rfl rfl (wt_f (gd_of (t := 67) (by kernel_rfl) rfl)) (by kernel_rfl) (by kernel_rfl) (by kernel_rfl) (ST.sel hS16 [0, 1, 2] rfl rfl) (fun hg26 w' hw' => (Y_not (p := r_7) rfl (gv_of (B := (!((!r_6) || (decide (3 < r_5))))) (v := .bool r_7) hg26))) ?_
          refine ra_q 16 72 (v := .bool (((!r_6) || (decide (3 < r_5))) || (!r_7))) rfl rfl rfl (by kernel_rfl) (by kernel_rfl) (by kernel_rfl) (ST.sel hS16 [0, 1, 2] rfl rfl) (fun w' hw' => (Y_or (b := ((!r_6) || (decide (3 < r_5)))) (z := (!r_7)) rfl rfl rfl rfl)) ?_
          refine ra_q 17 73 (v := .bool (((!r_6) || (decide (3 < r_5))) || (!r_7))) rfl rfl rfl (by kernel_rfl) (by kernel_rfl) (by kernel_rfl) (ST.sel hS16 [0, 1, 2] rfl rfl) (fun w' hw' => (Y_move (v := .bool (((!r_6) || (decide (3 < r_5))) || (!r_7))) rfl rfl)) ?_
          refine ra_gq 18 74 (B := (!(((!r_6) || (decide (3 < r_5))) || (!r_7)))) (v := pt (some ⟨b2, 0, none⟩) 1) rfl rfl rfl (wt_f (gd_of (t := 73) (by kernel_rfl) rfl)) (by kernel_rfl) (by kernel_rfl) (by kernel_rfl) (ST.sel hS16 [0, 1, 2] rfl rfl) (fun hg27 w' hw' => (Y_fieldAddr (B := some ⟨b2, 0, none⟩) (i := 0) (s := 0) k_fd_136_1_1_3 k_sz_3_1 rfl rfl)) ?_
          refine ra_gq 19 75 (B := (!(((!r_6) || (decide (3 < r_5))) || (!r_7)))) (v := .int .i64 x.Coef) rfl rfl rfl (wt_f (gd_of (t := 73) (by kernel_rfl) rfl)) (by kernel_rfl) (by kernel_rfl) (by kernel_rfl) (ST.sel hS16 [0, 1, 2] rfl rfl) (fun hg28 w' hw' => (Y_load1 (B := some ⟨b2, 0, none⟩) (i := 1) (cs := [.int .i64 x.Mask, .int .i64 x.Coef]) (v := .int .i64 x.Coef) k_sc_3 rfl (gv_of (B := (!(((!r_6) || (decide (3 < r_5))) || (!r_7)))) (v := pt (some ⟨b2, 0, none⟩) 1) hg28) (ST.cf hw' (i := 2) rfl) rfl)) ?_
          refine ra_gq 20 76 (B := (!(((!r_6) || (decide (3 < r_5))) || (!r_7)))) (v := .int .i64 r_5) rfl rfl rfl (wt_f (gd_of (t := 73) (by kernel_rfl) rfl)) (by kernel_rfl) (by kernel_rfl) (by kernel_rfl) (ST.sel hS16 [0, 1, 2] rfl rfl) (fun hg29 w' hw' => (Y_move (v := .int .i64 r_5) rfl rfl)) ?_
          refine ra_gq 21 77 (B := (!(((!r_6) || (decide (3 < r_5))) || (!r_7)))) (v := .int .i64 (IntKind.i64.wrap (r_5 - 1))) rfl rfl rfl (wt_f (gd_of (t := 73) (by kernel_rfl) rfl)) (by kernel_rfl) (by kernel_rfl) (by kernel_rfl) (ST.sel hS16 [0, 1, 2] rfl rfl) (fun hg30 w' hw' => (Y_sub (k := .i64) (a := r_5) (b := 1) rfl (gv_of (B := (!(((!r_6) || (decide (3 < r_5))) || (!r_7)))) (v := .int .i64 r_5) hg30) rfl)) ?_
          refine ra_gq 22 78 (B := (!(((!r_6) || (decide (3 < r_5))) || (!r_7)))) (v := .int .i64 (shlK .i64 1 (IntKind.i64.wrap (r_5 - 1)))) rfl rfl rfl (wt_f (gd_of (t := 73) (by kernel_rfl) rfl)) (by kernel_rfl) (by kernel_rfl) (by kernel_rfl) (ST.sel hS16 [0, 1, 2] rfl rfl) (fun hg31 w' hw' => (Y_shl (k := .i64) (a := 1) (k' := .i64) (b := (IntKind.i64.wrap (r_5 - 1))) rfl rfl (gv_of (B := (!(((!r_6) || (decide (3 < r_5))) || (!r_7)))) (v := .int .i64 (IntKind.i64.wrap (r_5 - 1))) hg31) (hsh1 hg31))) ?_
          refine ra_gq 23 79 (B := (!(((!r_6) || (decide (3 < r_5))) || (!r_7)))) (v := .int .i64 (Int.tmod x.Coef (shlK .i64 1 (IntKind.i64.wrap (r_5 - 1))))) rfl rfl rfl (wt_f (gd_of (t := 73) (by kernel_rfl) rfl)) (by kernel_rfl) (by kernel_rfl) (by kernel_rfl) (ST.sel hS16 [0, 1, 2] rfl rfl) (fun hg32 w' hw' => (Y_rem (k := .i64) (a := x.Coef) (b := (shlK .i64 1 (IntKind.i64.wrap (r_5 - 1)))) rfl (gv_of (B := (!(((!r_6) || (decide (3 < r_5))) || (!r_7)))) (v := .int .i64 x.Coef) hg32) (gv_of (B := (!(((!r_6) || (decide (3 < r_5))) || (!r_7)))) (v := .int .i64 (shlK .i64 1 (IntKind.i64.wrap (r_5 - 1)))) hg32) (hne hg32))) ?_
          refine ra_gq 24 80 (B := (!(((!r_6) || (decide (3 < r_5))) || (!r_7)))) (v := .bool ((Int.tmod x.Coef (shlK .i64 1 (IntKind.i64.wrap (r_5 - 1)))) != 0)) rfl rfl rfl (wt_f (gd_of (t := 73) (by kernel_rfl) rfl)) (by kernel_rfl) (by kernel_rfl) (by kernel_rfl) (ST.sel hS16 [0, 1, 2] rfl rfl) (fun hg33 w' hw' => (Y_ne (k := .i64) (a := (Int.tmod x.Coef (shlK .i64 1 (IntKind.i64.wrap (r_5 - 1))))) (b := 0) rfl (gv_of (B := (!(((!r_6) || (decide (3 < r_5))) || (!r_7)))) (v := .int .i64 (Int.tmod x.Coef (shlK .i64 1 (IntKind.i64.wrap (r_5 - 1))))) hg33) rfl)) ?_
          refine ra_q 25 81 (v := .bool ((((!r_6) || (decide (3 < r_5))) || (!r_7)) || ((Int.tmod x.Coef (shlK .i64 1 (IntKind.i64.wrap (r_5 - 1)))) != 0))) rfl rfl rfl (by kernel_rfl) (by kernel_rfl) (by kernel_rfl) (ST.sel hS16 [0, 1, 2] rfl rfl) (fun w' hw' => (Y_or (b := (((!r_6) || (decide (3 < r_5))) || (!r_7))) (z := ((Int.tmod x.Coef (shlK .i64 1 (IntKind.i64.wrap (r_5 - 1)))) != 0)) rfl rfl rfl rfl)) ?_
          refine ra_q 26 82 (v := .bool ((((!r_6) || (decide (3 < r_5))) || (!r_7)) || ((Int.tmod x.Coef (shlK .i64 1 (IntKind.i64.wrap (r_5 - 1)))) != 0))) rfl rfl rfl (by kernel_rfl) (by kernel_rfl) (by kernel_rfl) (ST.sel hS16 [0, 1, 2] rfl rfl) (fun w' hw' => (Y_move (v := .bool ((((!r_6) || (decide (3 < r_5))) || (!r_7)) || ((Int.tmod x.Coef (shlK .i64 1 (IntKind.i64.wrap (r_5 - 1)))) != 0))) rfl rfl)) ?_
          refine ra_gq 27 83 (B := (!((((!r_6) || (decide (3 < r_5))) || (!r_7)) || ((Int.tmod x.Coef (shlK .i64 1 (IntKind.i64.wrap (r_5 - 1)))) != 0)))) (v := .int .i64 (i : Int)) rfl rfl rfl (wt_f (gd_of (t := 82) (by kernel_rfl) rfl)) (by kernel_rfl) (by kernel_rfl) (by kernel_rfl) (ST.sel hS16 [0, 1, 2] rfl rfl) (fun hg34 w' hw' => (Y_move (v := .int .i64 (i : Int)) rfl rfl)) ?_
          refine ra_gq 28 84 (B := (!((((!r_6) || (decide (3 < r_5))) || (!r_7)) || ((Int.tmod x.Coef (shlK .i64 1 (IntKind.i64.wrap (r_5 - 1)))) != 0)))) (v := .bool (decide (0 < (i : Int)))) rfl rfl rfl (wt_f (gd_of (t := 82) (by kernel_rfl) rfl)) (by kernel_rfl) (by kernel_rfl) (by kernel_rfl) (ST.sel hS16 [0, 1, 2] rfl rfl) (fun hg35 w' hw' => (Y_gt (k := .i64) (a := (i : Int)) (b := 0) rfl (gv_of (B := (!((((!r_6) || (decide (3 < r_5))) || (!r_7)) || ((Int.tmod x.Coef (shlK .i64 1 (IntKind.i64.wrap (r_5 - 1)))) != 0)))) (v := .int .i64 (i : Int)) hg35) rfl)) ?_
          refine ra_gq 29 85 (B := (!((((!r_6) || (decide (3 < r_5))) || (!r_7)) || ((Int.tmod x.Coef (shlK .i64 1 (IntKind.i64.wrap (r_5 - 1)))) != 0)))) (v := .bool (decide (0 < (i : Int)))) rfl rfl rfl (wt_f (gd_of (t := 82) (by kernel_rfl) rfl)) (by kernel_rfl) (by kernel_rfl) (by kernel_rfl) (ST.sel hS16 [0, 1, 2] rfl rfl) (fun hg36 w' hw' => (Y_move (v := .bool (decide (0 < (i : Int)))) rfl (gv_of (B := (!((((!r_6) || (decide (3 < r_5))) || (!r_7)) || ((Int.tmod x.Coef (shlK .i64 1 (IntKind.i64.wrap (r_5 - 1)))) != 0)))) (v := .bool (decide (0 < (i : Int)))) hg36))) ?_
          refine ra_gq 30 86 (B := ((!((((!r_6) || (decide (3 < r_5))) || (!r_7)) || ((Int.tmod x.Coef (shlK .i64 1 (IntKind.i64.wrap (r_5 - 1)))) != 0))) && (decide (0 < (i : Int))))) (v := pt (some ⟨b, 0, none⟩) 4) rfl rfl rfl (wt_gt (gd_of (t := 85) (by kernel_rfl) rfl)) (by kernel_rfl) (by kernel_rfl) (by kernel_rfl) (ST.sel hS16 [0, 1, 2] rfl rfl) (fun hg37 w' hw' => (Y_fieldAddr (B := some ⟨b, 0, none⟩) (i := 0) (s := 0) k_fd_57_4_4_54 k_sz_54_1 rfl (hf.get 1 0 rfl))) ?_
          refine ra_gq 31 87 (B := ((!((((!r_6) || (decide (3 < r_5))) || (!r_7)) || ((Int.tmod x.Coef (shlK .i64 1 (IntKind.i64.wrap (r_5 - 1)))) != 0))) && (decide (0 < (i : Int))))) (v := .slice B p.Terms.length c) rfl rfl rfl (wt_gt (gd_of (t := 85) (by kernel_rfl) rfl)) (by kernel_rfl) (by kernel_rfl) (by kernel_rfl) (ST.sel hS16 [0, 1, 2] rfl rfl) (fun hg38 w' hw' => (Y_load1 (B := some ⟨b, 0, none⟩) (i := 4) (cs := [.int .i64 p.Ins, .int .i64 p.Vars, .int .i64 p.Root, .int .i64 p.Phase, .slice B p.Terms.length c, .slice B1 p.Out.length c1]) (v := .slice B p.Terms.length c) k_sc_54 rfl (gv_of (B := ((!((((!r_6) || (decide (3 < r_5))) || (!r_7)) || ((Int.tmod x.Coef (shlK .i64 1 (IntKind.i64.wrap (r_5 - 1)))) != 0))) && (decide (0 < (i : Int))))) (v := pt (some ⟨b, 0, none⟩) 4) hg38) (ST.cf hw' (i := 0) rfl) rfl)) ?_
          refine ra_gq 32 88 (B := ((!((((!r_6) || (decide (3 < r_5))) || (!r_7)) || ((Int.tmod x.Coef (shlK .i64 1 (IntKind.i64.wrap (r_5 - 1)))) != 0))) && (decide (0 < (i : Int))))) (v := .int .i64 (i : Int)) rfl rfl rfl (wt_gt (gd_of (t := 85) (by kernel_rfl) rfl)) (by kernel_rfl) (by kernel_rfl) (by kernel_rfl) (ST.sel hS16 [0, 1, 2] rfl rfl) (fun hg39 w' hw' => (Y_move (v := .int .i64 (i : Int)) rfl rfl)) ?_
          refine ra_gq 33 89 (B := ((!((((!r_6) || (decide (3 < r_5))) || (!r_7)) || ((Int.tmod x.Coef (shlK .i64 1 (IntKind.i64.wrap (r_5 - 1)))) != 0))) && (decide (0 < (i : Int))))) (v := .int .i64 (IntKind.i64.wrap ((i : Int) - 1))) rfl rfl rfl (wt_gt (gd_of (t := 85) (by kernel_rfl) rfl)) (by kernel_rfl) (by kernel_rfl) (by kernel_rfl) (ST.sel hS16 [0, 1, 2] rfl rfl) (fun hg40 w' hw' => (Y_sub (k := .i64) (a := (i : Int)) (b := 1) rfl (gv_of (B := ((!((((!r_6) || (decide (3 < r_5))) || (!r_7)) || ((Int.tmod x.Coef (shlK .i64 1 (IntKind.i64.wrap (r_5 - 1)))) != 0))) && (decide (0 < (i : Int))))) (v := .int .i64 (i : Int)) hg40) rfl)) ?_
          refine ra_gq 34 90 (B := ((!((((!r_6) || (decide (3 < r_5))) || (!r_7)) || ((Int.tmod x.Coef (shlK .i64 1 (IntKind.i64.wrap (r_5 - 1)))) != 0))) && (decide (0 < (i : Int))))) (v := pt B ((IntKind.i64.wrap ((i : Int) - 1)).toNat * 2)) rfl rfl rfl (wt_gt (gd_of (t := 85) (by kernel_rfl) rfl)) (by kernel_rfl) (by kernel_rfl) (by kernel_rfl) (ST.sel hS16 [0, 1, 2] rfl rfl) (fun hg41 w' hw' => (Y_index (B := B) (m := p.Terms.length) (c := c) (k := .i64) (i := (IntKind.i64.wrap ((i : Int) - 1))) k_sl_54_136 k_sz_136_2 rfl (gv_of (B := ((!((((!r_6) || (decide (3 < r_5))) || (!r_7)) || ((Int.tmod x.Coef (shlK .i64 1 (IntKind.i64.wrap (r_5 - 1)))) != 0))) && (decide (0 < (i : Int))))) (v := .slice B p.Terms.length c) hg41) (gv_of (B := ((!((((!r_6) || (decide (3 < r_5))) || (!r_7)) || ((Int.tmod x.Coef (shlK .i64 1 (IntKind.i64.wrap (r_5 - 1)))) != 0))) && (decide (0 < (i : Int))))) (v := .int .i64 (IntKind.i64.wrap ((i : Int) - 1))) hg41) (gi_isSome enc_Term_len rfl (ST.rf hw' (i := 0) rfl) (gb_inv hx1 hg41)) (getI_nn (gb_inv hx1 hg41)) (getI_ltI (gb_inv hx1 hg41) rfl))) ?_
          refine ra_gq 35 91 (B := ((!((((!r_6) || (decide (3 < r_5))) || (!r_7)) || ((Int.tmod x.Coef (shlK .i64 1 (IntKind.i64.wrap (r_5 - 1)))) != 0))) && (decide (0 < (i : Int))))) (v := pt B ((IntKind.i64.wrap ((i : Int) - 1)).toNat * 2 + 0)) rfl rfl rfl (wt_gt (gd_of (t := 85) (by kernel_rfl) rfl)) (by kernel_rfl) (by kernel_rfl) (by kernel_rfl) (ST.sel hS16 [0, 1, 2] rfl rfl) (fun hg42 w' hw' => (Y_fieldAddr (B := B) (i := (IntKind.i64.wrap ((i : Int) - 1)).toNat * 2) (s := 0) k_fd_136_0_0_3 k_sz_3_1 rfl (gv_of (B := ((!((((!r_6) || (decide (3 < r_5))) || (!r_7)) || ((Int.tmod x.Coef (shlK .i64 1 (IntKind.i64.wrap (r_5 - 1)))) != 0))) && (decide (0 < (i : Int))))) (v := pt B ((IntKind.i64.wrap ((i : Int) - 1)).toNat * 2)) hg42))) ?_
          refine ra_gq 36 92 (B := ((!((((!r_6) || (decide (3 < r_5))) || (!r_7)) || ((Int.tmod x.Coef (shlK .i64 1 (IntKind.i64.wrap (r_5 - 1)))) != 0))) && (decide (0 < (i : Int))))) (v := .int .i64 x1.Mask) rfl rfl rfl (wt_gt (gd_of (t := 85) (by kernel_rfl) rfl)) (by kernel_rfl) (by kernel_rfl) (by kernel_rfl) (ST.sel hS16 [0, 1, 2] rfl rfl) (fun hg43 w' hw' => (Y_load1 (B := B) (i := (IntKind.i64.wrap ((i : Int) - 1)).toNat * 2 + 0) (cs := (p.Terms.flatMap enc_Term)) (v := .int .i64 x1.Mask) k_sc_3 rfl (gv_of (B := ((!((((!r_6) || (decide (3 < r_5))) || (!r_7)) || ((Int.tmod x.Coef (shlK .i64 1 (IntKind.i64.wrap (r_5 - 1)))) != 0))) && (decide (0 < (i : Int))))) (v := pt B ((IntKind.i64.wrap ((i : Int) - 1)).toNat * 2 + 0)) hg43) (ST.rf hw' (i := 0) rfl) (gi_at enc_Term_len (gb_inv hx1 hg43) rfl))) ?_
          refine ra_gq 37 93 (B := ((!((((!r_6) || (decide (3 < r_5))) || (!r_7)) || ((Int.tmod x.Coef (shlK .i64 1 (IntKind.i64.wrap (r_5 - 1)))) != 0))) && (decide (0 < (i : Int))))) (v := pt (some ⟨b2, 0, none⟩) 0) rfl rfl rfl (wt_gt (gd_of (t := 85) (by kernel_rfl) rfl)) (by kernel_rfl) (by kernel_rfl) (by kernel_rfl) (ST.sel hS16 [0, 1, 2] rfl rfl) (fun hg44 w' hw' => (Y_fieldAddr (B := some ⟨b2, 0, none⟩) (i := 0) (s := 0) k_fd_136_0_0_3 k_sz_3_1 rfl rfl)) ?_
          refine ra_gq 38 94 (B := ((!((((!r_6) || (decide (3 < r_5))) || (!r_7)) || ((Int.tmod x.Coef (shlK .i64 1 (IntKind.i64.wrap (r_5 - 1)))) != 0))) && (decide (0 < (i : Int))))) (v := .int .i64 x.Mask) rfl rfl rfl (wt_gt (gd_of (t := 85) (by kernel_rfl) rfl)) (by kernel_rfl) (by kernel_rfl) (by kernel_rfl) (ST.sel hS16 [0, 1, 2] rfl rfl) (fun hg45 w' hw' => (Y_load1 (B := some ⟨b2, 0, none⟩) (i := 0) (cs := [.int .i64 x.Mask, .int .i64 x.Coef]) (v := .int .i64 x.Mask) k_sc_3 rfl (gv_of (B := ((!((((!r_6) || (decide (3 < r_5))) || (!r_7)) || ((Int.tmod x.Coef (shlK .i64 1 (IntKind.i64.wrap (r_5 - 1)))) != 0))) && (decide (0 < (i : Int))))) (v := pt (some ⟨b2, 0, none⟩) 0) hg45) (ST.cf hw' (i := 2) rfl) rfl)) ?_
          refine ra_gq 39 95 (B := ((!((((!r_6) || (decide (3 < r_5))) || (!r_7)) || ((Int.tmod x.Coef (shlK .i64 1 (IntKind.i64.wrap (r_5 - 1)))) != 0))) && (decide (0 < (i : Int))))) (v := .bool (decide (x.Mask ≤ x1.Mask))) rfl rfl rfl (wt_gt (gd_of (t := 85) (by kernel_rfl) rfl)) (by kernel_rfl) (by kernel_rfl) (by kernel_rfl) (ST.sel hS16 [0, 1, 2] rfl rfl) (fun hg46 w' hw' => (Y_ge (k := .i64) (a := x1.Mask) (b := x.Mask) rfl (gv_of (B := ((!((((!r_6) || (decide (3 < r_5))) || (!r_7)) || ((Int.tmod x.Coef (shlK .i64 1 (IntKind.i64.wrap (r_5 - 1)))) != 0))) && (decide (0 < (i : Int))))) (v := .int .i64 x1.Mask) hg46) (gv_of (B := ((!((((!r_6) || (decide (3 < r_5))) || (!r_7)) || ((Int.tmod x.Coef (shlK .i64 1 (IntKind.i64.wrap (r_5 - 1)))) != 0))) && (decide (0 < (i : Int))))) (v := .int .i64 x.Mask) hg46))) ?_
          refine ra_gq 40 96 (B := (!((((!r_6) || (decide (3 < r_5))) || (!r_7)) || ((Int.tmod x.Coef (shlK .i64 1 (IntKind.i64.wrap (r_5 - 1)))) != 0)))) (v := .bool ((decide (0 < (i : Int))) && (decide (x.Mask ≤ x1.Mask)))) rfl rfl rfl (wt_f (gd_of (t := 82) (by kernel_rfl) rfl)) (by kernel_rfl) (by kernel_rfl) (by kernel_rfl) (ST.sel hS16 [0, 1, 2] rfl rfl) (fun hg47 w' hw' => (Y_and (b := (decide (0 < (i : Int)))) (z := (decide (x.Mask ≤ x1.Mask))) rfl (gv_of (B := (!((((!r_6) || (decide (3 < r_5))) || (!r_7)) || ((Int.tmod x.Coef (shlK .i64 1 (IntKind.i64.wrap (r_5 - 1)))) != 0)))) (v := .bool (decide (0 < (i : Int)))) hg47) (gv_and (B := (!((((!r_6) || (decide (3 < r_5))) || (!r_7)) || ((Int.tmod x.Coef (shlK .i64 1 (IntKind.i64.wrap (r_5 - 1)))) != 0)))) (C := (decide (0 < (i : Int)))) (v := .bool (decide (x.Mask ≤ x1.Mask))) hg47) rfl)) ?_
          refine ra_q 41 97 (v := .bool (((((!r_6) || (decide (3 < r_5))) || (!r_7)) || ((Int.tmod x.Coef (shlK .i64 1 (IntKind.i64.wrap (r_5 - 1)))) != 0)) || ((decide (0 < (i : Int))) && (decide (x.Mask ≤ x1.Mask))))) rfl rfl rfl (by kernel_rfl) (by kernel_rfl) (by kernel_rfl) (ST.sel hS16 [0, 1, 2] rfl rfl) (fun w' hw' => (Y_or (b := ((((!r_6) || (decide (3 < r_5))) || (!r_7)) || ((Int.tmod x.Coef (shlK .i64 1 (IntKind.i64.wrap (r_5 - 1)))) != 0))) (z := ((decide (0 < (i : Int))) && (decide (x.Mask ≤ x1.Mask)))) rfl rfl rfl rfl)) ?_
          refine ra_done (by kernel_rfl) ?_
          refine cw_cond (b := (((((!r_6) || (decide (3 < r_5))) || (!r_7)) || ((Int.tmod x.Coef (shlK .i64 1 (IntKind.i64.wrap (r_5 - 1)))) != 0)) || ((decide (0 < (i : Int))) && (decide (x.Mask ≤ x1.Mask))))) rfl (fun hb2 => ?_) (fun hb2 => ?_)
          · skip
            have hF4 := ct hb1 hb2
            refine cw_seq ?_
            refine cw_region ?_
            refine sq 2 rfl rfl (Y_assign (v := .bool false) rfl rfl) ?_
            refine rw_nil ?_
            refine cw_ret ?_
            obtain rfl := some_inj hF4
            obtain rfl := some_inj hL1
            obtain rfl := some_inj hF3
            exact ret1 Try.results54 (v1 := .bool false) (resAt_tmp rfl) ⟨rfl, (ST.subR (R' := []) (hS16.sel [] rfl rfl) (fun _ h => by cases h))⟩
          · skip
            have hF5 := cf' hb1 hb2
            refine cw_skip ?_
            refine cw_region ?_
            refine sq 98 rfl rfl (Y_add (k := .i64) (a := (i : Int)) (b := 1) rfl (hf.get 48 4 rfl) rfl) ?_
            refine sq 48 rfl rfl (Y_move (v := .int .i64 (IntKind.i64.wrap ((i : Int) + 1))) rfl rfl) ?_
            refine rw_nil ?_
            obtain rfl := some_inj hF5
            exact ⟨k_1, Nat.lt_succ_self _, i + 1, (FF.cons (hf.get 1 0 rfl) (FF.cons (hf.get 3 1 rfl) (FF.cons (hf.get 46 2 rfl) (FF.cons (hf.get 47 3 rfl) (FF.cons (congrArg (Value.int .i64) (wr_succ hlt1 hN)) FF.nil))))), (hS16.sel [0, 1] rfl rfl), (by omega), hL1⟩
        exact allR_nil
      exact allR_nil
    · skip
      obtain rfl : k_ = 0 := by have h := of_decide_eq_false hlt; omega
      refine cw_exit rfl ?_
      obtain rfl := some_inj hL
      refine cw_seq ?_
      refine cw_region ?_
      refine sq 99 rfl rfl (Y_fieldAddr (B := some ⟨b, 0, none⟩) (i := 0) (s := 0) k_fd_57_5_5_55 k_sz_55_1 rfl (hf.get 1 0 rfl)) ?_
      refine sq 100 rfl rfl (Y_load1 (B := some ⟨b, 0, none⟩) (i := 5) (cs := [.int .i64 p.Ins, .int .i64 p.Vars, .int .i64 p.Root, .int .i64 p.Phase, .slice B p.Terms.length c, .slice B1 p.Out.length c1]) (v := .slice B1 p.Out.length c1) k_sc_55 rfl rfl (hS8.cf (i := 0) rfl) rfl) ?_
      refine sq 101 rfl rfl (Y_makeFunc (cs := [pt (some ⟨b1, 0, none⟩) 0]) rfl rfl (mc (hf.get 3 1 rfl) mn)) ?_
      obtain ⟨r_8, hc7, hF3⟩ := bind_inv hF3
      refine sc 102 rfl rfl (Yc_func (g := 102) (vs := [.slice B1 p.Out.length c1, .func (.func 103) #[] #[pt (some ⟨b1, 0, none⟩) 0]]) k_call_102 rfl (mc rfl (mc rfl mn)) (c_slices_ContainsFunc_impl_Affine_impl_Affine p.Out (fun x_0 => F_impl_IsValidPathSum_1 x_0 (IntKind.i64.wrap (p.Ins + p.Vars))) B1 c1 p.Out.length 103 (#[pt (some ⟨b1, 0, none⟩) 0]) [⟨some ⟨b1, 0, none⟩, [.int .i64 (IntKind.i64.wrap (p.Ins + p.Vars))]⟩] _ rfl k_call_103 (fun w hw x_0 y_0 h_ => c_impl_IsValidPathSum_1 x_0 (IntKind.i64.wrap (p.Ins + p.Vars)) (some ⟨b1, 0, none⟩) w  hw h_) (hS8.inn0 [(true, 1), (false, 1)] rfl) hc7)) ?_
      rintro _ w_12 ⟨rfl, hd3⟩
      have hS17 := hS8.out00 hd3
      have hS17 : ST w0 [] _ [⟨some ⟨b, 0, none⟩, 57, [.int .i64 p.Ins, .int .i64 p.Vars, .int .i64 p.Root, .int .i64 p.Phase, .slice B p.Terms.length c, .slice B1 p.Out.length c1], 6⟩, ⟨some ⟨b1, 0, none⟩, 3, [.int .i64 (IntKind.i64.wrap (p.Ins + p.Vars))], 1⟩] [⟨B, (p.Terms.flatMap enc_Term)⟩, ⟨B1, (p.Out.flatMap enc_Affine)⟩] := hS17
      refine sq 103 rfl rfl (Y_not (p := r_8) rfl rfl) ?_
      refine sq 2 rfl rfl (Y_assign (v := .bool (!r_8)) rfl rfl) ?_
      refine rw_nil ?_
      refine cw_ret ?_
      obtain rfl := some_inj hF3
      exact ret1 Try.results54 (v1 := .bool (!r_8)) (resAt_tmp rfl) ⟨rfl, (ST.subR (R' := []) (hS17.sel [] rfl rfl) (fun _ h => by cases h))⟩

theorem c_impl_PathSum_isPathVar (p : TPathSum) (v_ : Int) (B : Option Addr) (c n : Nat) (B1 : Option Addr) (c1 n1 : Nat) (w0 : World) (hn : p.Terms.length = n) (hn1 : p.Out.length = n1) (hS : ST w0 [] w0 [] [⟨B, (p.Terms.flatMap enc_Term)⟩, ⟨B1, (p.Out.flatMap enc_Affine)⟩]) {r_ : Bool} (hF : F_impl_PathSum_isPathVar p v_ = some r_) :
    CV Try.prog 55 #[.agg #[.int .i64 p.Ins, .int .i64 p.Vars, .int .i64 p.Root, .int .i64 p.Phase, .slice B n c, .slice B1 n1 c1], .int .i64 v_] w0 (fun v w' => v = .bool r_ ∧ ST w0 [] w' [] []) := by
  subst hn
  subst hn1
  unfold F_impl_PathSum_isPathVar at hF
  refine cv_of_cw 15 Try.func55 rfl Try.ntmps55 rfl ?_
  refine cw_seq ?_
  refine cw_region ?_
  refine ss 2 rfl rfl (Ys_box (T := 57) (v := .agg #[.int .i64 p.Ins, .int .i64 p.Vars, .int .i64 p.Root, .int .i64 p.Phase, .slice B p.Terms.length c, .slice B1 p.Out.length c1]) (cs := [.int .i64 p.Ins, .int .i64 p.Vars, .int .i64 p.Root, .int .i64 p.Phase, .slice B p.Terms.length c, .slice B1 p.Out.length c1]) (m := 6) hS rfl rfl rfl rfl) ?_
  rintro _ w_ ⟨b, rfl, hS1⟩
  refine sq 4 rfl rfl (Y_assign (v := .bool false) rfl rfl) ?_
  refine rw_nil ?_
  refine cw_seq ?_
  refine cw_region ?_
  refine sq 5 rfl rfl (Y_move (v := .int .i64 v_) rfl rfl) ?_
  refine sq 6 rfl rfl (Y_fieldAddr (B := some ⟨b, 0, none⟩) (i := 0) (s := 0) k_fd_57_0_0_3 k_sz_3_1 rfl rfl) ?_
  refine sq 7 rfl rfl (Y_load1 (B := some ⟨b, 0, none⟩) (i := 0) (cs := [.int .i64 p.Ins, .int .i64 p.Vars, .int .i64 p.Root, .int .i64 p.Phase, .slice B p.Terms.length c, .slice B1 p.Out.length c1]) (v := .int .i64 p.Ins) k_sc_3 rfl rfl (hS1.cf (i := 0) rfl) rfl) ?_
  refine sq 8 rfl rfl (Y_fieldAddr (B := some ⟨b, 0, none⟩) (i := 0) (s := 0) k_fd_57_0_0_3 k_sz_3_1 rfl rfl) ?_
  refine sq 9 rfl rfl (Y_load1 (B := some ⟨b, 0, none⟩) (i := 0) (cs := [.int .i64 p.Ins, .int .i64 p.Vars, .int .i64 p.Root, .int .i64 p.Phase, .slice B p.Terms.length c, .slice B1 p.Out.length c1]) (v := .int .i64 p.Ins) k_sc_3 rfl rfl (hS1.cf (i := 0) rfl) rfl) ?_
  refine sq 10 rfl rfl (Y_fieldAddr (B := some ⟨b, 0, none⟩) (i := 0) (s := 0) k_fd_57_1_1_3 k_sz_3_1 rfl rfl) ?_
  refine sq 11 rfl rfl (Y_load1 (B := some ⟨b, 0, none⟩) (i := 1) (cs := [.int .i64 p.Ins, .int .i64 p.Vars, .int .i64 p.Root, .int .i64 p.Phase, .slice B p.Terms.length c, .slice B1 p.Out.length c1]) (v := .int .i64 p.Vars) k_sc_3 rfl rfl (hS1.cf (i := 0) rfl) rfl) ?_
  refine sq 12 rfl rfl (Y_add (k := .i64) (a := p.Ins) (b := p.Vars) rfl rfl rfl) ?_
  refine sq 13 rfl rfl (Y_sub (k := .i64) (a := (IntKind.i64.wrap (p.Ins + p.Vars))) (b := 1) rfl rfl rfl) ?_
  obtain ⟨r_1, hc, hF⟩ := bind_inv hF
  refine sc 14 rfl rfl (Yc_func (g := 73) (vs := [.int .i64 v_, .int .i64 p.Ins, .int .i64 (IntKind.i64.wrap ((IntKind.i64.wrap (p.Ins + p.Vars)) - 1))]) k_call_73 rfl (mc rfl (mc rfl (mc rfl mn))) (c_impl_within v_ p.Ins (IntKind.i64.wrap ((IntKind.i64.wrap (p.Ins + p.Vars)) - 1)) _  (hS1.inn0 [] rfl) hc)) ?_
  rintro _ w_1 ⟨rfl, hd⟩
  have hS2 := hS1.out00 hd
  refine sq 4 rfl rfl (Y_assign (v := .bool r_1) rfl rfl) ?_
  refine rw_nil ?_
  refine cw_ret ?_
  obtain rfl := some_inj hF
  exact ret1 Try.results55 (v1 := .bool r_1) (resAt_tmp rfl) ⟨rfl, (ST.subR (R' := []) (hS2.sel [] rfl rfl) (fun _ h => by cases h))⟩

def tmO (dl : List MapEntry) : List TTerm := dl.filterMap fun e => tmF (enK e, enV e)
theorem tmO_snoc (dl : List MapEntry) (e : MapEntry) : tmO (dl ++ [e]) = if 0 < enK e ∧ 0 < enV e then tmO dl ++ [⟨enK e, enV e⟩] else tmO dl := by
  unfold tmO
  rw [List.filterMap_append]
  by_cases h : 0 < enK e ∧ 0 < enV e
  · rw [if_pos h]
    simp [tmF, h]
  · rw [if_neg h]
    simp [tmF, h]
theorem tmO_es {es : Array MapEntry} {ck : Nat} {p : List (Int × Int)} (hM : MapIs es ck (mpE (Value.int .i64) (Value.int .i64) p)) : tmO es.toList = p.filterMap tmF := by
  rw [← ent_list hM, List.filterMap_map]; rfl
theorem tmF_key {p : List (Int × Int)} (h : p.Pairwise fun a b => a.1 ≠ b.1) : (p.filterMap tmF).Pairwise fun a b => a.Mask ≠ b.Mask := by
  rw [List.pairwise_filterMap]
  refine h.imp fun {a b} hab x hx y hy => ?_
  unfold tmF at hx hy
  split at hx <;> split at hy
  · cases hx; cases hy; exact hab
  · cases hy
  · cases hx
  · cases hx
set_option maxHeartbeats 1000000 in
theorem cl_terms (x y : TTerm) (W : World) : Calls Try.prog 120 #[.agg (enc_Term x).toArray, .agg (enc_Term y).toArray] W fun e w' => e = .returned (.int .i64 (IntKind.i64.wrap (x.Mask - y.Mask))) ∧ ∃ q os', w' = Go.Sort.grow (W.drewN q) os' := by
  show Calls Try.prog 120 #[.agg #[.int .i64 x.Mask, .int .i64 x.Coef], .agg #[.int .i64 y.Mask, .int .i64 y.Coef]] W _
  go_enter Try.func120, Try.ntmps120
  go_wp2
  go_ret
  rw [show IntKind.i64.wrap (x.Mask - y.Mask) = RowKit.wrap64 (x.Mask - y.Mask) from by rw [IntKind.wrap_i64]; unfold RowKit.wrap64; rfl]
  exact ⟨rfl, 0, _, by rw [Go.Sort.alloc_eq_grow, Go.Sort.alloc_eq_grow, Go.Sort.grow_grow]; rfl⟩
theorem c_impl_polynomial_terms (p : List (Int × Int)) (g : Nat) (w0 : World)  (hS : ST w0 (bl [⟨(some ⟨g, 0, none⟩), .mp (mpE (Value.int .i64) (Value.int .i64) p), [], 0⟩]) w0 [⟨(some ⟨g, 0, none⟩), .mp (mpE (Value.int .i64) (Value.int .i64) p), [], 0⟩] []) {r_ : List TTerm} (hF : F_impl_polynomial_terms p = some r_) :
    CV Try.prog 68 #[.map (some g)] w0 (fun v w' => ∃ (B : Option Addr) (c : Nat), v = .slice B r_.length c ∧ ST w0 (bl [⟨(some ⟨g, 0, none⟩), .mp (mpE (Value.int .i64) (Value.int .i64) p), [], 0⟩]) w' [⟨(some ⟨g, 0, none⟩), .mp (mpE (Value.int .i64) (Value.int .i64) p), [], 0⟩, ⟨B, 136, (r_.flatMap enc_Term), c * 2⟩] []) := by
  unfold F_impl_polynomial_terms at hF
  obtain ⟨⟨hlen, hrng⟩, hF⟩ := chk_inv hF
  obtain rfl := some_inj hF
  refine cv_of_cw 29 Try.func68 rfl Try.ntmps68 rfl ?_
  refine cw_seq ?_
  refine cw_region ?_
  refine sq 2 rfl rfl (Y_assign (v := .slice none 0 0) rfl rfl) ?_
  refine rw_nil ?_
  refine cw_seq ?_
  refine cw_region ?_
  refine ss 6 rfl rfl (Ys_bslice0 (s := 2) (e := 136) hS k_sl_54_136 k_sz_136_2 rfl) ?_
  rintro _ w_ ⟨b, rfl, hS1⟩
  refine sq 3 rfl rfl (Y_assign (v := .slice (some ⟨b, 0, none⟩) 0 0) rfl rfl) ?_
  refine rw_nil ?_
  refine cw_seq ?_
  refine cw_seq ?_
  refine cw_region ?_
  refine sq 7 rfl rfl (Y_move (v := .map (some g)) rfl rfl) ?_
  refine ss 8 rfl rfl (Ys_range (g := g) (i := 0) (lv := mpE (Value.int .i64) (Value.int .i64) p) hS1 k_map_105_3_3 rfl rfl rfl) ?_
  rintro _ w_1 ⟨r, es, ck, rfl, hM, hS2⟩
  refine rw_nil ?_
  have hst := (MapKept.stamped_iff es ck).1 hM.2
  have hes : es.toList.length = p.length := by rw [← ent_list hM, List.length_map]
  have hkp := tmF_key (mp_pair hM)
  refine cw_block ?_
  refine cw_loop (fun k f w => ∃ (dl rl : List MapEntry) (B : Option Addr) (c : Nat), FF f [(3, .slice B (tmO dl).length c), (8, .pointer (some ⟨r, 0, none⟩))] ∧ (dl ++ rl).Perm es.toList ∧ k = rl.length ∧
    ST w0 (bl [⟨(some ⟨g, 0, none⟩), .mp (mpE (Value.int .i64) (Value.int .i64) p), [], 0⟩]) w [⟨(some ⟨g, 0, none⟩), .ob (.map es ck), [], 0⟩, ⟨B, 136, ((tmO dl).flatMap enc_Term), c * 2⟩, ⟨(some ⟨r, 0, none⟩), .ob (.mapIter (some g) ck (dl.map (·.born)).toArray ck), [], 0⟩] []) es.toList.length ⟨[], es.toList, some ⟨b, 0, none⟩, 0, (FF.cons rfl (FF.cons rfl FF.nil)), .refl _, rfl, hS2⟩ ?_
  rintro k_ f w ⟨dl, rl, B, c, hf, hp, rfl, hS3⟩
  refine cw_seq ?_
  refine cw_region ?_
  refine ss 9 rfl rfl (Ys_next (g := g) (r := r) (i := 0) (j := 2) hS3 rfl (hf.get 8 1 rfl) rfl rfl hst.1 (Nat.le_refl _)) ?_
  rintro _ w_2 (⟨rfl, h0, hS4⟩ | ⟨e, he, rfl, hS4⟩)
  · refine sq 10 rfl rfl (Y_extract (v := .bool false) rfl rfl rfl) ?_
    refine rw_nil ?_
    refine cw_seq ?_
    refine cw_cond (b := false) rfl (fun h => by cases h) (fun _ => ?_)
    refine cw_exit rfl ?_
    obtain rfl := left_nil hst.2.1 hp h0
    rw [List.append_nil] at hp
    have hpp : (tmO dl).Perm (p.filterMap tmF) := by rw [← tmO_es hM]; exact hp.filterMap _
    have hdd : (tmO dl).Pairwise fun a b => a.Mask ≠ b.Mask := (hpp.pairwise_iff (fun {a b} h => Ne.symm h)).2 hkp
    have hll : (tmO dl).length ≤ p.length := by rw [hpp.length_eq]; exact List.length_filterMap_le _ _
    have hrr : ∀ x ∈ tmO dl, 0 ≤ x.Mask ∧ x.Mask < 4611686018427387904 := fun x hx => by
      obtain ⟨q, hq, hqx⟩ := List.mem_filterMap.1 (hpp.mem_iff.1 hx)
      have := hrng q hq
      unfold tmF at hqx
      split at hqx
      · cases hqx
        exact ⟨by simp only; omega, this⟩
      · cases hqx
    have hso : ((tmO dl).mergeSort fun a b => decide (a.Mask ≤ b.Mask)) = termsOf p := sort_perm hpp hkp
    refine cw_seq ?_
    refine cw_region ?_
    refine sq 26 rfl rfl (Y_move (v := .slice B (tmO dl).length c) rfl (hf.get 3 0 rfl)) ?_
    refine sc 27 rfl rfl (Yc_func (g := 119) (vs := [.slice B (tmO dl).length c, .func (.func 120) #[] #[]]) k_call_119 rfl (mc rfl (mc rfl mn)) (sortf_c Try.sortf119 119 rfl (key := TTerm.Mask) enc_Term_len (by decide) enc_Term_one (run_isAgg_agg k_ag_136) (run_sizeOf k_sz_136_2) 120 (enters_of Try.func120 (by kernel_rfl) rfl) cl_terms hrr hdd (by omega) (n := (tmO dl).length) (c := c) (k := 1) (B := B) rfl rfl hS4)) ?_
    rintro _ w_3 ⟨rfl, hS5⟩
    rw [hso] at hS5
    refine rw_nil ?_
    refine cw_seq ?_
    refine cw_region ?_
    refine sq 28 rfl rfl (Y_move (v := .slice B (tmO dl).length c) rfl (hf.get 3 0 rfl)) ?_
    refine sq 2 rfl rfl (Y_assign (v := .slice B (tmO dl).length c) rfl rfl) ?_
    refine rw_nil ?_
    refine cw_ret ?_
    have hl : (tmO dl).length = (termsOf p).length := by rw [← hso, List.length_mergeSort]
    exact ret1 Try.results68 (v1 := .slice B (tmO dl).length c) (resAt_tmp rfl) ⟨B, c, by rw [hl], ((hS5.mapIn (i := 0) (g := g) rfl hM rfl).sel [0, 1] rfl rfl)⟩
  · refine sq 10 rfl rfl (Y_extract (v := .bool true) rfl rfl rfl) ?_
    refine rw_nil ?_
    refine cw_seq ?_
    refine cw_cond (b := true) rfl (fun _ => ?_) (fun h => by cases h)
    refine cw_skip ?_
    obtain ⟨hem, ra, rb, rfl⟩ := left_mem hp he
    obtain ⟨hk1, hv1⟩ := ent_int hM hem
    have hsn := tmO_snoc dl e
    have hbo : ((dl ++ [e]).map (·.born)).toArray = (dl.map (·.born)).toArray.push e.born := by simp
    generalize enK e = a at hk1 hsn
    generalize enV e = b2 at hv1 hsn
    have hdl : (tmO dl).length < p.length := by
      have h1 : (tmO dl).length ≤ dl.length := List.length_filterMap_le _ _
      have h2 := hp.length_eq
      simp only [List.length_append, List.length_cons] at h2
      omega
    refine cw_block ?_
    refine cw_seq ?_
    refine cw_region ?_
    refine sq 11 rfl rfl (Y_entry2 (g := g) (r := r) (i := 0) (j := 2) (kv := .int .i64 a) (vv := .int .i64 b2) hS4 rfl (hf.get 8 1 rfl) rfl rfl hem hst.2.1 hk1 hv1) ?_
    refine sq 12 rfl rfl (Y_extract (v := .int .i64 a) rfl rfl rfl) ?_
    refine sq 13 rfl rfl (Y_extract (v := .int .i64 b2) rfl rfl rfl) ?_
    refine sq 4 rfl rfl (Y_assign (v := .int .i64 a) rfl rfl) ?_
    refine sq 5 rfl rfl (Y_assign (v := .int .i64 b2) rfl rfl) ?_
    refine rw_nil ?_
    refine cw_seq ?_
    refine cw_region ?_
    refine sq 14 rfl rfl (Y_move (v := .int .i64 a) rfl rfl) ?_
    refine sq 15 rfl rfl (Y_gt (k := .i64) (a := a) (b := 0) rfl rfl rfl) ?_
    refine sq 16 rfl rfl (Y_move (v := .bool (decide (0 < a))) rfl rfl) ?_
    refine sgq 17 (B := (decide (0 < a))) (v := .int .i64 b2) rfl rfl (wt_t (gd_of (t := 16) (by kernel_rfl) rfl)) (fun hg => (Y_move (v := .int .i64 b2) rfl rfl)) ?_
    refine sgq 18 (B := (decide (0 < a))) (v := .bool (decide (0 < b2))) rfl rfl (wt_t (gd_of (t := 16) (by kernel_rfl) rfl)) (fun hg1 => (Y_gt (k := .i64) (a := b2) (b := 0) rfl (gv_of (B := (decide (0 < a))) (v := .int .i64 b2) hg1) rfl)) ?_
    refine sq 19 rfl rfl (Y_and (b := (decide (0 < a))) (z := (decide (0 < b2))) rfl rfl rfl rfl) ?_
    refine rw_nil ?_
    refine cw_cond (b := ((decide (0 < a)) && (decide (0 < b2)))) rfl (fun hb => ?_) (fun hb => ?_)
    · have hb' : 0 < a ∧ 0 < b2 := by simpa using hb
      rw [if_pos hb'] at hsn
      refine cw_region ?_
      refine sq 20 rfl rfl (Y_move (v := .slice B ((tmO dl).length) c) rfl (hf.get 3 0 rfl)) ?_
      refine sq 21 rfl rfl (Y_move (v := .int .i64 a) rfl rfl) ?_
      refine sq 22 rfl rfl (Y_move (v := .int .i64 b2) rfl rfl) ?_
      refine sq 23 rfl rfl (Y_buildS (zs := [.int .i64 0, .int .i64 0]) (vs := [(0, .int .i64 a), (1, .int .i64 b2)]) (cs := [.int .i64 a, .int .i64 b2]) k_pl_136 k_zero_136 rfl (mpc rfl (mpc rfl mpn)) rfl) ?_
      refine ss 24 rfl rfl (Ys_bslice (s := 2) (len := 1) (vs := [(0, .agg #[.int .i64 a, .int .i64 b2])]) (cs := [.int .i64 a, .int .i64 b2]) (zs := [.int .i64 0, .int .i64 0]) (m := 2) hS4 k_sl_54_136 k_sz_136_2 k_zc_136 rfl (mpc rfl mpn) rfl rfl rfl (by kernel_rfl) (by kernel_rfl) rfl) ?_
      rintro _ w_4 ⟨b, rfl, hS5⟩
      have hS5 : ST w0 (bl [⟨(some ⟨g, 0, none⟩), .mp (mpE (Value.int .i64) (Value.int .i64) p), [], 0⟩]) _ [⟨(some ⟨g, 0, none⟩), .ob (.map es ck), [], 0⟩, ⟨B, 136, ((tmO dl).flatMap enc_Term), c * 2⟩, ⟨(some ⟨r, 0, none⟩), .ob (.mapIter (some g) ck ((dl.map (·.born)).toArray.push e.born) ck), [], 0⟩, ⟨some ⟨b, 0, none⟩, 136, ([(TTerm.mk a b2)].flatMap enc_Term), 1 * 2⟩] [] := hS5
      refine ss 25 rfl rfl (Ys_append (s := 2) (by' := 16) (i := 1) (nn := (tmO dl).length) (c := c) (k := 1) (len := ((tmO dl) ++ [(TTerm.mk a b2)]).length) (B := B) (xs := ([(TTerm.mk a b2)].flatMap enc_Term)) (cs' := (((tmO dl) ++ [(TTerm.mk a b2)]).flatMap enc_Term)) hS5 k_sl_54_136 k_sz_136_2 k_by_136_16 k_zero_136 rfl (by decide) rfl rfl rfl rfl (fm_lenn (l := (tmO dl)) enc_Term_len rfl) rfl (hS5.cf (i := 3) rfl) (fm_lenn (l := [(TTerm.mk a b2)]) enc_Term_len rfl) (fm_one' (enc := enc_Term) enc_Term_one [(TTerm.mk a b2)]) (by omega) (by simp only [maxLen]; omega) (fm_app _ _) (app_len (l := (tmO dl)) (l' := [(TTerm.mk a b2)]) rfl rfl)) ?_
      rintro _ w_5 ⟨B2, c2, rfl, hS6⟩
      refine sq 3 rfl rfl (Y_assign (v := .slice B2 (((tmO dl) ++ [(TTerm.mk a b2)]).length) c2) rfl rfl) ?_
      refine rw_nil ?_
      have hS7 := (hS6.sel [0, 1, 2] rfl rfl)
      refine ⟨(ra ++ rb).length, by simp, dl ++ [e], ra ++ rb, B2, c2, (FF.cons (by rw [hsn]; rfl) (FF.cons (hf.get 8 1 rfl) FF.nil)), left_step hp, rfl, ?_⟩
      rw [hsn, hbo]; exact hS7
    · have hb' : ¬ (0 < a ∧ 0 < b2) := by simpa using hb
      rw [if_neg hb'] at hsn
      refine cw_skip ?_
      refine ⟨(ra ++ rb).length, by simp, dl ++ [e], ra ++ rb, B, c, (FF.cons (by rw [hsn]; exact hf.get 3 0 rfl) (FF.cons (hf.get 8 1 rfl) FF.nil)), left_step hp, rfl, ?_⟩
      rw [hsn, hbo]; exact hS4

theorem c_impl_polynomial_add (p : List (Int × Int)) (mask : Int) (coef : Int) (g : Nat) (w0 : World)  (hS : ST w0 (bl [⟨(some ⟨g, 0, none⟩), .mp (mpE (Value.int .i64) (Value.int .i64) p), [], 0⟩]) w0 [⟨(some ⟨g, 0, none⟩), .mp (mpE (Value.int .i64) (Value.int .i64) p), [], 0⟩] []) {m : List (Int × Int)} (hF : F_impl_polynomial_add p mask coef = some m) :
    CV Try.prog 105 #[.map (some g), .int .i64 mask, .int .i64 coef] w0 (fun v w' => v = .tuple #[] ∧ ST w0 (bl [⟨(some ⟨g, 0, none⟩), .mp (mpE (Value.int .i64) (Value.int .i64) p), [], 0⟩]) w' [⟨(some ⟨g, 0, none⟩), .mp (mpE (Value.int .i64) (Value.int .i64) m), [], 0⟩] []) := by
  unfold F_impl_polynomial_add at hF
  refine cv_of_cw 16 Try.func105 rfl Try.ntmps105 rfl ?_
  refine cw_region ?_
  refine sq 6 rfl rfl (Y_move (v := .map (some g)) rfl rfl) ?_
  refine sq 7 rfl rfl (Y_move (v := .int .i64 mask) rfl rfl) ?_
  refine sq 8 rfl rfl (Y_move (v := .map (some g)) rfl rfl) ?_
  refine sq 9 rfl rfl (Y_move (v := .int .i64 mask) rfl rfl) ?_
  refine sq 10 rfl rfl (Y_mapGet (kE := (Value.int .i64)) (vE := (Value.int .i64)) (l := p) (a := mask) (d := 0) (g := g) (i := 0) hS (keyInt k_int_3_i64) k_map_105_3_3 k_zero_3 rfl rfl rfl rfl) ?_
  refine sq 11 rfl rfl (Y_move (v := .int .i64 coef) rfl rfl) ?_
  refine sq 12 rfl rfl (Y_add (k := .i64) (a := (mgt p mask 0)) (b := coef) rfl rfl rfl) ?_
  refine sq 13 rfl rfl (Y_rem (k := .i64) (a := (IntKind.i64.wrap ((mgt p mask 0) + coef))) (b := 8) rfl rfl rfl (by decide)) ?_
  refine sq 14 rfl rfl (Y_add (k := .i64) (a := (Int.tmod (IntKind.i64.wrap ((mgt p mask 0) + coef)) 8)) (b := 8) rfl rfl rfl) ?_
  refine sq 15 rfl rfl (Y_rem (k := .i64) (a := (IntKind.i64.wrap ((Int.tmod (IntKind.i64.wrap ((mgt p mask 0) + coef)) 8) + 8))) (b := 8) rfl rfl rfl (by decide)) ?_
  refine ss0 rfl rfl (Ys_mapPut (kE := (Value.int .i64)) (vE := (Value.int .i64)) (l := p) (a := mask) (b := (Int.tmod (IntKind.i64.wrap ((Int.tmod (IntKind.i64.wrap ((mgt p mask 0) + coef)) 8) + 8)) 8)) (g := g) (i := 0) hS (keyInt k_int_3_i64) k_map_105_3_3 rfl rfl rfl rfl rfl rfl) ?_
  rintro _ w_ ⟨rfl, hS1⟩
  refine rw_nil ?_
  obtain rfl := some_inj hF
  exact ret0 Try.results105  ⟨rfl, (ST.subR (R' := []) (hS1.sel [0] rfl rfl) (fun _ h => by cases h))⟩

theorem c_impl_bitsOf (mask : Int)  (w0 : World)  (hS : ST w0 [] w0 [] []) {r_ : List Int} (hF : F_impl_bitsOf mask = some r_) :
    CV Try.prog 136 #[.int .i64 mask] w0 (fun v w' => ∃ (B : Option Addr) (c : Nat), v = .slice B r_.length c ∧ ST w0 [] w' [⟨B, 3, (r_.flatMap encI), c * 1⟩] []) := by
  unfold F_impl_bitsOf at hF
  refine cv_of_cw 20 Try.func136 rfl Try.ntmps136 rfl ?_
  refine cw_seq ?_
  refine cw_region ?_
  refine sq 2 rfl rfl (Y_assign (v := .slice none 0 0) rfl rfl) ?_
  refine rw_nil ?_
  refine cw_seq ?_
  refine cw_region ?_
  refine ss 5 rfl rfl (Ys_bslice0 (s := 1) (e := 3) hS k_sl_137_3 k_sz_3_1 rfl) ?_
  rintro _ w_ ⟨b, rfl, hS1⟩
  refine sq 3 rfl rfl (Y_assign (v := .slice (some ⟨b, 0, none⟩) 0 0) rfl rfl) ?_
  refine rw_nil ?_
  refine cw_seq ?_
  obtain ⟨z, hz, hF1⟩ := bind_inv hF
  refine cw_block ?_
  refine cw_loop (fun k f w => ∃ (mask1 : Int) (out : List Int) (B1 : Option Addr) (c1 : Nat), FF f [(0, .int .i64 mask1), (3, .slice B1 out.length c1)] ∧ ST w0 [] w [⟨B1, 3, (out.flatMap encI), c1 * 1⟩] [] ∧ whX F_impl_bitsOf_l1 k (mask1, out) = some z) fuel ⟨mask, [], some ⟨b, 0, none⟩, 0, (FF.cons rfl (FF.cons rfl FF.nil)), (hS1.sel [0] rfl rfl), hz⟩ ?_
  rintro k_ f w ⟨mask1, out, B1, c1, hf, hS2, hL⟩
  obtain ⟨k_1, y, rfl, hb, hL1⟩ := whX_go hL
  unfold F_impl_bitsOf_l1 at hb
  refine cw_seq ?_
  refine cw_seq ?_
  refine cw_region ?_
  refine sq 6 rfl rfl (Y_move (v := .int .i64 mask1) rfl (hf.get 0 0 rfl)) ?_
  refine sq 7 rfl rfl (Y_ne (k := .i64) (a := mask1) (b := 0) rfl rfl rfl) ?_
  refine rw_nil ?_
  refine cw_cond (b := (mask1 != 0)) rfl (fun hb1 => ?_) (fun hb1 => ?_)
  · skip
    have hF2 := ct hb hb1
    refine cw_skip ?_
    refine cw_block ?_
    refine cw_seq ?_
    refine cw_region ?_
    refine sq 8 rfl rfl (Y_move (v := .int .i64 mask1) rfl (hf.get 0 0 rfl)) ?_
    refine sq 9 rfl rfl (Y_move (v := .int .i64 mask1) rfl (hf.get 0 0 rfl)) ?_
    refine sq 10 rfl rfl (Y_neg (k := .i64) (a := mask1) rfl rfl) ?_
    refine sq 11 rfl rfl (Y_band (k := .i64) (a := mask1) (b := (IntKind.i64.wrap (-mask1))) rfl rfl rfl) ?_
    refine sq 4 rfl rfl (Y_assign (v := .int .i64 (bits .and .i64 mask1 (IntKind.i64.wrap (-mask1)))) rfl rfl) ?_
    refine rw_nil ?_
    refine cw_seq ?_
    refine cw_region ?_
    refine sq 12 rfl rfl (Y_move (v := .slice B1 out.length c1) rfl (hf.get 3 1 rfl)) ?_
    refine sq 13 rfl rfl (Y_move (v := .int .i64 (bits .and .i64 mask1 (IntKind.i64.wrap (-mask1)))) rfl rfl) ?_
    refine ss 14 rfl rfl (Ys_bslice (s := 1) (len := 1) (vs := [(0, .int .i64 (bits .and .i64 mask1 (IntKind.i64.wrap (-mask1))))]) (cs := [.int .i64 (bits .and .i64 mask1 (IntKind.i64.wrap (-mask1)))]) (zs := [.int .i64 0]) (m := 1) hS2 k_sl_137_3 k_sz_3_1 k_zc_3 rfl (mpc rfl mpn) rfl rfl rfl (by kernel_rfl) (by kernel_rfl) rfl) ?_
    rintro _ w_1 ⟨b1, rfl, hS3⟩
    have hS3 : ST w0 [] _ [⟨B1, 3, (out.flatMap encI), c1 * 1⟩, ⟨some ⟨b1, 0, none⟩, 3, ([(bits .and .i64 mask1 (IntKind.i64.wrap (-mask1)))].flatMap encI), 1 * 1⟩] [] := hS3
    obtain ⟨hap, hF2⟩ := chk_inv hF2
    refine ss 15 rfl rfl (Ys_append (s := 1) (by' := 8) (i := 0) (nn := out.length) (c := c1) (k := 1) (len := (out ++ [(bits .and .i64 mask1 (IntKind.i64.wrap (-mask1)))]).length) (B := B1) (xs := ([(bits .and .i64 mask1 (IntKind.i64.wrap (-mask1)))].flatMap encI)) (cs' := ((out ++ [(bits .and .i64 mask1 (IntKind.i64.wrap (-mask1)))]).flatMap encI)) hS3 k_sl_137_3 k_sz_3_1 k_by_3_8 k_zero_3 rfl (by decide) rfl rfl rfl rfl (fm_lenn (l := out) encI_len rfl) rfl (hS3.cf (i := 1) rfl) (fm_lenn (l := [(bits .and .i64 mask1 (IntKind.i64.wrap (-mask1)))]) encI_len rfl) (fm_one' (enc := encI) encI_one [(bits .and .i64 mask1 (IntKind.i64.wrap (-mask1)))]) (by have := hap; omega) (by have := hap; simp only [maxLen]; omega) (fm_app _ _) (app_len (l := out) (l' := [(bits .and .i64 mask1 (IntKind.i64.wrap (-mask1)))]) rfl rfl)) ?_
    rintro _ w_2 ⟨B2, c2, rfl, hS4⟩
    have hS4 : ST w0 [] _ [⟨B2, 3, ((out ++ [(bits .and .i64 mask1 (IntKind.i64.wrap (-mask1)))]).flatMap encI), c2 * 1⟩, ⟨some ⟨b1, 0, none⟩, 3, ([(bits .and .i64 mask1 (IntKind.i64.wrap (-mask1)))].flatMap encI), 1 * 1⟩] [] := hS4
    refine sq 3 rfl rfl (Y_assign (v := .slice B2 ((out ++ [(bits .and .i64 mask1 (IntKind.i64.wrap (-mask1)))]).length) c2) rfl rfl) ?_
    refine rw_nil ?_
    refine cw_region ?_
    refine sq 16 rfl rfl (Y_move (v := .int .i64 mask1) rfl (hf.get 0 0 rfl)) ?_
    refine sq 17 rfl rfl (Y_move (v := .int .i64 (bits .and .i64 mask1 (IntKind.i64.wrap (-mask1)))) rfl rfl) ?_
    refine sq 18 rfl rfl (Y_bxor (k := .i64) (a := mask1) (b := (bits .and .i64 mask1 (IntKind.i64.wrap (-mask1)))) rfl rfl rfl) ?_
    refine sq 0 rfl rfl (Y_assign (v := .int .i64 (bits .xor .i64 mask1 (bits .and .i64 mask1 (IntKind.i64.wrap (-mask1))))) rfl rfl) ?_
    refine rw_nil ?_
    obtain rfl := some_inj hF2
    exact ⟨k_1, Nat.lt_succ_self _, (bits .xor .i64 mask1 (bits .and .i64 mask1 (IntKind.i64.wrap (-mask1)))), (out ++ [(bits .and .i64 mask1 (IntKind.i64.wrap (-mask1)))]), B2, c2, (FF.cons rfl (FF.cons rfl FF.nil)), (hS4.sel [0] rfl rfl), hL1⟩
  · skip
    have hF3 := cf' hb hb1
    refine cw_exit rfl ?_
    obtain rfl := some_inj hF3
    obtain rfl := some_inj hL1
    refine cw_seq ?_
    refine cw_region ?_
    refine sq 19 rfl rfl (Y_move (v := .slice B1 out.length c1) rfl (hf.get 3 1 rfl)) ?_
    refine sq 2 rfl rfl (Y_assign (v := .slice B1 out.length c1) rfl rfl) ?_
    refine rw_nil ?_
    refine cw_ret ?_
    obtain rfl := some_inj hF1
    exact ret1 Try.results136 (v1 := .slice B1 out.length c1) (resAt_tmp rfl) ⟨B1, c1, rfl, (ST.subR (R' := []) (hS2.sel [0] rfl rfl) (fun _ h => by cases h))⟩
end Go.VK
