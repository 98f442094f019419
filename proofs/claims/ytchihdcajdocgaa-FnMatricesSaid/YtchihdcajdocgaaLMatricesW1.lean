/- Walks: each Go function returns what its Lean function says. By program. -/
import Derived.Test.YtchihdcajdocgaaLMatricesFa
set_option linter.unusedVariables false
set_option maxRecDepth 100000
set_option maxHeartbeats 1000000
namespace Go.VK
open Go.RowKit
open Go.Proofs
attribute [local irreducible] CW RW RA CV Y Yw Yc Ys RetOf
attribute [local irreducible] F_laws_big F_spec_l1Cur_next F_spec_l1Cur_pick F_spec_l1Cur_among F_spec_l1Even F_spec_l1Root F_spec_l1Half F_spec_l2Low F_spec_l1Cur_ring F_spec_l1Cur_dyadic F_spec_l1Cur_matrix F_spec_l1Cur_one F_spec_l1Cur_coef F_spec_l1Cur_anyRing F_spec_l1In F_spec_l1All F_spec_l1Good F_spec_l1Turn F_spec_l2Power F_spec_l1Cur_anyDyadic F_spec_l3Unit F_spec_l1Cur_anyMatrix F_spec_DrawMulMatrix F_impl_within F_impl_isDim F_impl_matrixOf F_slices_IndexFunc_impl_Dyadic_impl_Dyadic F_slices_ContainsFunc_impl_Dyadic_impl_Dyadic F_impl_isCoef F_impl_IsValidRing F_impl_isEven F_impl_IsValidDyadic F_impl_IsValidMatrix_1 F_impl_IsValidMatrix F_impl_ringIf F_impl_MulRing F_impl_DivRootTwo F_impl_DyadicOf F_impl_MulDyadic F_impl_Matrix_at F_impl_MulRootTwo F_impl_raised F_impl_combined F_impl_AddRing F_impl_AddDyadic F_impl_MulMatrix_1 F_impl_MulMatrix F_spec_l1Has F_spec_l3Dim F_spec_l2Good F_spec_l3Good F_spec_l2C_matrix F_spec_l2C_ring F_spec_l1Add F_spec_l2C_add F_spec_l1Mul F_spec_l2C_mul F_spec_l2C_times F_spec_MulMatrix F_spec_EqualMatrices F_impl_Conjugate F_impl_ConjDyadic F_impl_Adjoint_1 F_impl_Adjoint F_impl_whole F_impl_IdentityMatrix_1 F_impl_IdentityMatrix F_impl_TraceOf F_spec_DrawKron F_impl_Kron_1 F_impl_Kron F_laws_FnMatrices
theorem c_laws_big (code : List Int) (more : List Int) (B : Option Addr) (c n : Nat) (B1 : Option Addr) (c1 n1 : Nat) (w0 : World) (hn : code.length = n) (hn1 : more.length = n1) (hS : ST w0 [] w0 [] [⟨B, (code.flatMap enc_u8)⟩, ⟨B1, (more.flatMap enc_u8)⟩]) {r_ : Bool} (hF : F_laws_big code more = some r_) :
    CV Try.prog 13 #[.slice B n c, .slice B1 n1 c1] w0 (fun v w' => v = .bool r_ ∧ ST w0 [] w' [] []) := by
  subst hn
  subst hn1
  unfold F_laws_big at hF
  refine cv_of_cw 16 Try.func13 rfl Try.ntmps13 rfl ?_
  refine cw_seq ?_
  refine cw_region ?_
  refine sq 4 rfl rfl (Y_assign (v := .bool false) rfl rfl) ?_
  refine rw_nil ?_
  refine cw_seq ?_
  refine cw_region ?_
  refine sq 5 rfl rfl (Y_move (v := .slice B code.length c) rfl rfl) ?_
  refine sq 6 rfl rfl (Y_len (B := B) (m := code.length) (c := c) k_sl_34_5 rfl rfl) ?_
  refine sq 7 rfl rfl (Y_gt (k := .i64) (a := (code.length : Int)) (b := 1048576) rfl rfl rfl) ?_
  refine sq 8 rfl rfl (Y_move (v := .bool (decide (1048576 < (code.length : Int)))) rfl rfl) ?_
  refine sgq 9 (B := (!(decide (1048576 < (code.length : Int))))) (v := .slice B1 more.length c1) rfl rfl (wt_f (gd_of (t := 8) (by kernel_rfl) rfl)) (fun hg => (Y_move (v := .slice B1 more.length c1) rfl rfl)) ?_
  refine sgq 10 (B := (!(decide (1048576 < (code.length : Int))))) (v := .int .i64 (more.length : Int)) rfl rfl (wt_f (gd_of (t := 8) (by kernel_rfl) rfl)) (fun hg1 => (Y_len (B := B1) (m := more.length) (c := c1) k_sl_34_5 rfl (gv_of (B := (!(decide (1048576 < (code.length : Int))))) (v := .slice B1 more.length c1) hg1))) ?_
  refine sgq 11 (B := (!(decide (1048576 < (code.length : Int))))) (v := .slice B code.length c) rfl rfl (wt_f (gd_of (t := 8) (by kernel_rfl) rfl)) (fun hg2 => (Y_move (v := .slice B code.length c) rfl rfl)) ?_
  refine sgq 12 (B := (!(decide (1048576 < (code.length : Int))))) (v := .int .i64 (code.length : Int)) rfl rfl (wt_f (gd_of (t := 8) (by kernel_rfl) rfl)) (fun hg3 => (Y_len (B := B) (m := code.length) (c := c) k_sl_34_5 rfl (gv_of (B := (!(decide (1048576 < (code.length : Int))))) (v := .slice B code.length c) hg3))) ?_
  refine sgq 13 (B := (!(decide (1048576 < (code.length : Int))))) (v := .int .i64 (IntKind.i64.wrap (1048576 - (code.length : Int)))) rfl rfl (wt_f (gd_of (t := 8) (by kernel_rfl) rfl)) (fun hg4 => (Y_sub (k := .i64) (a := 1048576) (b := (code.length : Int)) rfl rfl (gv_of (B := (!(decide (1048576 < (code.length : Int))))) (v := .int .i64 (code.length : Int)) hg4))) ?_
  refine sgq 14 (B := (!(decide (1048576 < (code.length : Int))))) (v := .bool (decide ((IntKind.i64.wrap (1048576 - (code.length : Int))) < (more.length : Int)))) rfl rfl (wt_f (gd_of (t := 8) (by kernel_rfl) rfl)) (fun hg5 => (Y_gt (k := .i64) (a := (more.length : Int)) (b := (IntKind.i64.wrap (1048576 - (code.length : Int)))) rfl (gv_of (B := (!(decide (1048576 < (code.length : Int))))) (v := .int .i64 (more.length : Int)) hg5) (gv_of (B := (!(decide (1048576 < (code.length : Int))))) (v := .int .i64 (IntKind.i64.wrap (1048576 - (code.length : Int)))) hg5))) ?_
  refine sq 15 rfl rfl (Y_or (b := (decide (1048576 < (code.length : Int)))) (z := (decide ((IntKind.i64.wrap (1048576 - (code.length : Int))) < (more.length : Int)))) rfl rfl rfl rfl) ?_
  refine sq 4 rfl rfl (Y_assign (v := .bool ((decide (1048576 < (code.length : Int))) || (decide ((IntKind.i64.wrap (1048576 - (code.length : Int))) < (more.length : Int))))) rfl rfl) ?_
  refine rw_nil ?_
  refine cw_ret ?_
  obtain rfl := some_inj hF
  exact ret1 Try.results13 (v1 := .bool ((decide (1048576 < (code.length : Int))) || (decide ((IntKind.i64.wrap (1048576 - (code.length : Int))) < (more.length : Int))))) (resAt_tmp rfl) ⟨rfl, (ST.subR (R' := []) (hS.sel [] rfl rfl) (fun _ h => by cases h))⟩

theorem c_spec_l1Cur_next (c : Tl1Cur) (B : Option Addr) (B1 : Option Addr) (c1 n : Nat) (w0 : World) (hn : c.code.length = n) (hS : ST w0 (bl [⟨B, 87, [.slice B1 n c1, .int .i64 c.at_, .int .u64 c.seed], 3⟩]) w0 [⟨B, 87, [.slice B1 n c1, .int .i64 c.at_, .int .u64 c.seed], 3⟩] [⟨B1, (c.code.flatMap enc_u8)⟩]) {r_ : Int} {m : Tl1Cur} (hF : F_spec_l1Cur_next c = some (r_, m)) :
    CV Try.prog 119 #[pt B 0] w0 (fun v w' => v = .int .i64 r_ ∧ ST w0 (bl [⟨B, 87, [.slice B1 n c1, .int .i64 c.at_, .int .u64 c.seed], 3⟩]) w' [⟨B, 87, [.slice B1 n c1, .int .i64 m.at_, .int .u64 m.seed], 3⟩] []) := by
  subst hn
  unfold F_spec_l1Cur_next at hF
  refine cv_of_cw 62 Try.func119 rfl Try.ntmps119 rfl ?_
  refine cw_seq ?_
  refine cw_region ?_
  refine sq 2 rfl rfl (Y_assign (v := .int .i64 0) rfl rfl) ?_
  refine rw_nil ?_
  refine cw_seq ?_
  refine cw_region ?_
  refine sq 3 rfl rfl (Y_assign (v := .int .i64 0) rfl rfl) ?_
  refine rw_nil ?_
  refine cw_seq ?_
  obtain ⟨z, hz, hF1⟩ := bind_inv hF
  refine cw_mid (fun f w => ∃ (b : Int), b = z ∧ FF f [(0, pt B 0), (3, .int .i64 b)] ∧ ST w0 (bl [⟨B, 87, [.slice B1 c.code.length c1, .int .i64 c.at_, .int .u64 c.seed], 3⟩]) w [⟨B, 87, [.slice B1 c.code.length c1, .int .i64 c.at_, .int .u64 c.seed], 3⟩] [⟨B1, (c.code.flatMap enc_u8)⟩]) ?_ ?_
  · skip
    refine cw_seq ?_
    refine ra_start (ST.sel hS [0] rfl rfl).fn (by kernel_rfl) ?_
    have hS2 := hS.drew
    refine ra_q 0 4 (v := pt B 0) rfl rfl rfl (by kernel_rfl) (by kernel_rfl) (by kernel_rfl) (ST.sel hS2 [0] rfl rfl) (fun w' hw' => (Y_move (v := pt B 0) rfl rfl)) ?_
    refine ra_q 1 5 (v := pt B 0) rfl rfl rfl (by kernel_rfl) (by kernel_rfl) (by kernel_rfl) (ST.sel hS2 [0] rfl rfl) (fun w' hw' => (Y_nilCheck (B := B) (i := 0) rfl rfl)) ?_
    refine ra_q 2 6 (v := pt B 1) rfl rfl rfl (by kernel_rfl) (by kernel_rfl) (by kernel_rfl) (ST.sel hS2 [0] rfl rfl) (fun w' hw' => (Y_fieldAddr (B := B) (i := 0) (s := 0) k_fd_87_1_1_3 k_sz_3_1 rfl rfl)) ?_
    refine ra_q 3 7 (v := .int .i64 c.at_) rfl rfl rfl (by kernel_rfl) (by kernel_rfl) (by kernel_rfl) (ST.sel hS2 [0] rfl rfl) (fun w' hw' => (Y_load1 (B := B) (i := 1) (cs := [.slice B1 c.code.length c1, .int .i64 c.at_, .int .u64 c.seed]) (v := .int .i64 c.at_) k_sc_3 rfl rfl (ST.cf hw' (i := 0) rfl) rfl)) ?_
    refine ra_q 4 8 (v := pt B 0) rfl rfl rfl (by kernel_rfl) (by kernel_rfl) (by kernel_rfl) (ST.sel hS2 [0] rfl rfl) (fun w' hw' => (Y_move (v := pt B 0) rfl rfl)) ?_
    refine ra_q 5 9 (v := pt B 0) rfl rfl rfl (by kernel_rfl) (by kernel_rfl) (by kernel_rfl) (ST.sel hS2 [0] rfl rfl) (fun w' hw' => (Y_nilCheck (B := B) (i := 0) rfl rfl)) ?_
    refine ra_q 6 10 (v := pt B 0) rfl rfl rfl (by kernel_rfl) (by kernel_rfl) (by kernel_rfl) (ST.sel hS2 [0] rfl rfl) (fun w' hw' => (Y_fieldAddr (B := B) (i := 0) (s := 0) k_fd_87_0_0_34 k_sz_34_1 rfl rfl)) ?_
    refine ra_q 7 11 (v := .slice B1 c.code.length c1) rfl rfl rfl (by kernel_rfl) (by kernel_rfl) (by kernel_rfl) (ST.sel hS2 [0] rfl rfl) (fun w' hw' => (Y_load1 (B := B) (i := 0) (cs := [.slice B1 c.code.length c1, .int .i64 c.at_, .int .u64 c.seed]) (v := .slice B1 c.code.length c1) k_sc_34 rfl rfl (ST.cf hw' (i := 0) rfl) rfl)) ?_
    refine ra_q 8 12 (v := .int .i64 (c.code.length : Int)) rfl rfl rfl (by kernel_rfl) (by kernel_rfl) (by kernel_rfl) (ST.sel hS2 [0] rfl rfl) (fun w' hw' => (Y_len (B := B1) (m := c.code.length) (c := c1) k_sl_34_5 rfl rfl)) ?_
    refine ra_q 9 13 (v := .bool (decide (c.at_ < (c.code.length : Int)))) rfl rfl rfl (by kernel_rfl) (by kernel_rfl) (by kernel_rfl) (ST.sel hS2 [0] rfl rfl) (fun w' hw' => (Y_lt (k := .i64) (a := c.at_) (b := (c.code.length : Int)) rfl rfl rfl)) ?_
    refine ra_done (by kernel_rfl) ?_
    refine cw_cond (b := (decide (c.at_ < (c.code.length : Int)))) rfl (fun hb => ?_) (fun hb => ?_)
    · skip
      have hF2 := ct hz hb
      obtain ⟨x, hx, hF2⟩ := bind_inv hF2
      refine ra_start (ST.sel hS2 [0] rfl rfl).fn (by kernel_rfl) ?_
      have hS3 := hS2.drew
      refine ra_q 0 14 (v := pt B 0) rfl rfl rfl (by kernel_rfl) (by kernel_rfl) (by kernel_rfl) (ST.sel hS3 [0] rfl rfl) (fun w' hw' => (Y_move (v := pt B 0) rfl rfl)) ?_
      refine ra_q 1 15 (v := pt B 0) rfl rfl rfl (by kernel_rfl) (by kernel_rfl) (by kernel_rfl) (ST.sel hS3 [0] rfl rfl) (fun w' hw' => (Y_nilCheck (B := B) (i := 0) rfl rfl)) ?_
      refine ra_q 2 16 (v := pt B 0) rfl rfl rfl (by kernel_rfl) (by kernel_rfl) (by kernel_rfl) (ST.sel hS3 [0] rfl rfl) (fun w' hw' => (Y_fieldAddr (B := B) (i := 0) (s := 0) k_fd_87_0_0_34 k_sz_34_1 rfl rfl)) ?_
      refine ra_q 3 17 (v := .slice B1 c.code.length c1) rfl rfl rfl (by kernel_rfl) (by kernel_rfl) (by kernel_rfl) (ST.sel hS3 [0] rfl rfl) (fun w' hw' => (Y_load1 (B := B) (i := 0) (cs := [.slice B1 c.code.length c1, .int .i64 c.at_, .int .u64 c.seed]) (v := .slice B1 c.code.length c1) k_sc_34 rfl rfl (ST.cf hw' (i := 0) rfl) rfl)) ?_
      refine ra_q 4 18 (v := pt B 0) rfl rfl rfl (by kernel_rfl) (by kernel_rfl) (by kernel_rfl) (ST.sel hS3 [0] rfl rfl) (fun w' hw' => (Y_move (v := pt B 0) rfl rfl)) ?_
      refine ra_q 5 19 (v := pt B 0) rfl rfl rfl (by kernel_rfl) (by kernel_rfl) (by kernel_rfl) (ST.sel hS3 [0] rfl rfl) (fun w' hw' => (Y_nilCheck (B := B) (i := 0) rfl rfl)) ?_
      refine ra_q 6 20 (v := pt B 1) rfl rfl rfl (by kernel_rfl) (by kernel_rfl) (by kernel_rfl) (ST.sel hS3 [0] rfl rfl) (fun w' hw' => (Y_fieldAddr (B := B) (i := 0) (s := 0) k_fd_87_1_1_3 k_sz_3_1 rfl rfl)) ?_
      refine ra_q 7 21 (v := .int .i64 c.at_) rfl rfl rfl (by kernel_rfl) (by kernel_rfl) (by kernel_rfl) (ST.sel hS3 [0] rfl rfl) (fun w' hw' => (Y_load1 (B := B) (i := 1) (cs := [.slice B1 c.code.length c1, .int .i64 c.at_, .int .u64 c.seed]) (v := .int .i64 c.at_) k_sc_3 rfl rfl (ST.cf hw' (i := 0) rfl) rfl)) ?_
      refine ra_q 8 22 (v := pt B1 (c.at_.toNat * 1)) rfl rfl rfl (by kernel_rfl) (by kernel_rfl) (by kernel_rfl) (ST.sel hS3 [0] rfl rfl) (fun w' hw' => (Y_index (B := B1) (m := c.code.length) (c := c1) (k := .i64) (i := c.at_) k_sl_34_5 k_sz_5_1 rfl rfl rfl (gi_isSome enc_u8_len rfl (ST.rf hw' (i := 0) rfl) hx) (getI_nn hx) (getI_ltI hx rfl))) ?_
      refine ra_q 9 23 (v := .int .u8 x) rfl rfl rfl (by kernel_rfl) (by kernel_rfl) (by kernel_rfl) (ST.sel hS3 [0] rfl rfl) (fun w' hw' => (Y_load1 (B := B1) (i := c.at_.toNat * 1) (cs := (c.code.flatMap enc_u8)) (v := .int .u8 x) k_sc_5 rfl rfl (ST.rf hw' (i := 0) rfl) (gi_at0 enc_u8_len hx rfl))) ?_
      refine ra_q 10 24 (v := .int .i64 (IntKind.i64.wrap x)) rfl rfl rfl (by kernel_rfl) (by kernel_rfl) (by kernel_rfl) (ST.sel hS3 [0] rfl rfl) (fun w' hw' => (Y_conv (k := .u8) (a := x) (T := 5) (T' := 3) k_us_5 k_int_3_i64 rfl rfl)) ?_
      refine ra_q 11 3 (v := .int .i64 (IntKind.i64.wrap x)) rfl rfl rfl (by kernel_rfl) (by kernel_rfl) (by kernel_rfl) (ST.sel hS3 [0] rfl rfl) (fun w' hw' => (Y_assign (v := .int .i64 (IntKind.i64.wrap x)) rfl rfl)) ?_
      refine ra_done (by kernel_rfl) ?_
      exact ⟨(IntKind.i64.wrap x), (some_inj hF2), (FF.cons rfl (FF.cons rfl FF.nil)), (hS3.sel [0] rfl rfl)⟩
    · skip
      have hF3 := cf' hz hb
      refine cw_skip ?_
      exact ⟨0, (some_inj hF3), (FF.cons rfl (FF.cons rfl FF.nil)), (hS2.sel [0] rfl rfl)⟩
  rintro f w ⟨b, rfl, hf, hS1⟩
  refine cw_seq ?_
  refine cw_region ?_
  refine sq 25 rfl rfl (Y_move (v := pt B 0) rfl (hf.get 0 0 rfl)) ?_
  refine sq 26 rfl rfl (Y_nilCheck (B := B) (i := 0) rfl rfl) ?_
  refine sq 27 rfl rfl (Y_fieldAddr (B := B) (i := 0) (s := 0) k_fd_87_1_1_3 k_sz_3_1 rfl rfl) ?_
  refine sq 28 rfl rfl (Y_load1 (B := B) (i := 1) (cs := [.slice B1 c.code.length c1, .int .i64 c.at_, .int .u64 c.seed]) (v := .int .i64 c.at_) k_sc_3 rfl rfl (hS1.cf (i := 0) rfl) rfl) ?_
  refine sq 29 rfl rfl (Y_add (k := .i64) (a := c.at_) (b := 1) rfl rfl rfl) ?_
  refine sq 30 rfl rfl (Y_nilCheck (B := B) (i := 0) rfl rfl) ?_
  refine sq 31 rfl rfl (Y_fieldAddr (B := B) (i := 0) (s := 0) k_fd_87_1_1_3 k_sz_3_1 rfl rfl) ?_
  refine ss0 rfl rfl (Ys_store (i := 0) (s := 1) (B := B) (T' := 87) (v := .int .i64 (IntKind.i64.wrap (c.at_ + 1))) (vs := [.int .i64 (IntKind.i64.wrap (c.at_ + 1))]) (k := 1) (cs' := [.slice B1 c.code.length c1, .int .i64 (IntKind.i64.wrap (c.at_ + 1)), .int .u64 c.seed]) hS1 k_sz_3_1 rfl rfl rfl rfl rfl rfl rfl (Nat.le_of_ble_eq_true rfl) rfl rfl) ?_
  rintro _ w_ ⟨rfl, hS4⟩
  refine rw_nil ?_
  refine cw_seq ?_
  refine cw_region ?_
  refine sq 32 rfl rfl (Y_move (v := pt B 0) rfl (hf.get 0 0 rfl)) ?_
  refine sq 33 rfl rfl (Y_move (v := pt B 0) rfl (hf.get 0 0 rfl)) ?_
  refine sq 34 rfl rfl (Y_nilCheck (B := B) (i := 0) rfl rfl) ?_
  refine sq 35 rfl rfl (Y_fieldAddr (B := B) (i := 0) (s := 0) k_fd_87_2_2_85 k_sz_85_1 rfl rfl) ?_
  refine sq 36 rfl rfl (Y_load1 (B := B) (i := 2) (cs := [.slice B1 c.code.length c1, .int .i64 (IntKind.i64.wrap (c.at_ + 1)), .int .u64 c.seed]) (v := .int .u64 c.seed) k_sc_85 rfl rfl (hS4.cf (i := 0) rfl) rfl) ?_
  refine sq 37 rfl rfl (Y_mul (k := .u64) (a := c.seed) (b := 6364136223846793005) rfl rfl rfl) ?_
  refine sq 38 rfl rfl (Y_move (v := .int .i64 b) rfl (hf.get 3 1 rfl)) ?_
  refine sq 39 rfl rfl (Y_conv (k := .i64) (a := b) (T := 3) (T' := 85) k_us_3 k_int_85_u64 rfl rfl) ?_
  refine sq 40 rfl rfl (Y_add (k := .u64) (a := (IntKind.u64.wrap (c.seed * 6364136223846793005))) (b := (IntKind.u64.wrap b)) rfl rfl rfl) ?_
  refine sq 41 rfl rfl (Y_add (k := .u64) (a := (IntKind.u64.wrap ((IntKind.u64.wrap (c.seed * 6364136223846793005)) + (IntKind.u64.wrap b)))) (b := 1442695040888963407) rfl rfl rfl) ?_
  refine sq 42 rfl rfl (Y_nilCheck (B := B) (i := 0) rfl rfl) ?_
  refine sq 43 rfl rfl (Y_fieldAddr (B := B) (i := 0) (s := 0) k_fd_87_2_2_85 k_sz_85_1 rfl rfl) ?_
  refine ss0 rfl rfl (Ys_store (i := 0) (s := 1) (B := B) (T' := 87) (v := .int .u64 (IntKind.u64.wrap ((IntKind.u64.wrap ((IntKind.u64.wrap (c.seed * 6364136223846793005)) + (IntKind.u64.wrap b))) + 1442695040888963407))) (vs := [.int .u64 (IntKind.u64.wrap ((IntKind.u64.wrap ((IntKind.u64.wrap (c.seed * 6364136223846793005)) + (IntKind.u64.wrap b))) + 1442695040888963407))]) (k := 2) (cs' := [.slice B1 c.code.length c1, .int .i64 (IntKind.i64.wrap (c.at_ + 1)), .int .u64 (IntKind.u64.wrap ((IntKind.u64.wrap ((IntKind.u64.wrap (c.seed * 6364136223846793005)) + (IntKind.u64.wrap b))) + 1442695040888963407))]) hS4 k_sz_85_1 rfl rfl rfl rfl rfl rfl rfl (Nat.le_of_ble_eq_true rfl) rfl rfl) ?_
  rintro _ w_1 ⟨rfl, hS5⟩
  refine rw_nil ?_
  refine cw_seq ?_
  refine cw_seq ?_
  refine ra_start (ST.sel hS5 [0] rfl rfl).fn (by kernel_rfl) ?_
  have hS6 := hS5.drew
  refine ra_q 0 44 (v := pt B 0) rfl rfl rfl (by kernel_rfl) (by kernel_rfl) (by kernel_rfl) (ST.sel hS6 [0] rfl rfl) (fun w' hw' => (Y_move (v := pt B 0) rfl (hf.get 0 0 rfl))) ?_
  refine ra_q 1 45 (v := pt B 0) rfl rfl rfl (by kernel_rfl) (by kernel_rfl) (by kernel_rfl) (ST.sel hS6 [0] rfl rfl) (fun w' hw' => (Y_nilCheck (B := B) (i := 0) rfl rfl)) ?_
  refine ra_q 2 46 (v := pt B 1) rfl rfl rfl (by kernel_rfl) (by kernel_rfl) (by kernel_rfl) (ST.sel hS6 [0] rfl rfl) (fun w' hw' => (Y_fieldAddr (B := B) (i := 0) (s := 0) k_fd_87_1_1_3 k_sz_3_1 rfl rfl)) ?_
  refine ra_q 3 47 (v := .int .i64 (IntKind.i64.wrap (c.at_ + 1))) rfl rfl rfl (by kernel_rfl) (by kernel_rfl) (by kernel_rfl) (ST.sel hS6 [0] rfl rfl) (fun w' hw' => (Y_load1 (B := B) (i := 1) (cs := [.slice B1 c.code.length c1, .int .i64 (IntKind.i64.wrap (c.at_ + 1)), .int .u64 (IntKind.u64.wrap ((IntKind.u64.wrap ((IntKind.u64.wrap (c.seed * 6364136223846793005)) + (IntKind.u64.wrap b))) + 1442695040888963407))]) (v := .int .i64 (IntKind.i64.wrap (c.at_ + 1))) k_sc_3 rfl rfl (ST.cf hw' (i := 0) rfl) rfl)) ?_
  refine ra_q 4 48 (v := pt B 0) rfl rfl rfl (by kernel_rfl) (by kernel_rfl) (by kernel_rfl) (ST.sel hS6 [0] rfl rfl) (fun w' hw' => (Y_move (v := pt B 0) rfl (hf.get 0 0 rfl))) ?_
  refine ra_q 5 49 (v := pt B 0) rfl rfl rfl (by kernel_rfl) (by kernel_rfl) (by kernel_rfl) (ST.sel hS6 [0] rfl rfl) (fun w' hw' => (Y_nilCheck (B := B) (i := 0) rfl rfl)) ?_
  refine ra_q 6 50 (v := pt B 0) rfl rfl rfl (by kernel_rfl) (by kernel_rfl) (by kernel_rfl) (ST.sel hS6 [0] rfl rfl) (fun w' hw' => (Y_fieldAddr (B := B) (i := 0) (s := 0) k_fd_87_0_0_34 k_sz_34_1 rfl rfl)) ?_
  refine ra_q 7 51 (v := .slice B1 c.code.length c1) rfl rfl rfl (by kernel_rfl) (by kernel_rfl) (by kernel_rfl) (ST.sel hS6 [0] rfl rfl) (fun w' hw' => (Y_load1 (B := B) (i := 0) (cs := [.slice B1 c.code.length c1, .int .i64 (IntKind.i64.wrap (c.at_ + 1)), .int .u64 (IntKind.u64.wrap ((IntKind.u64.wrap ((IntKind.u64.wrap (c.seed * 6364136223846793005)) + (IntKind.u64.wrap b))) + 1442695040888963407))]) (v := .slice B1 c.code.length c1) k_sc_34 rfl rfl (ST.cf hw' (i := 0) rfl) rfl)) ?_
  refine ra_q 8 52 (v := .int .i64 (c.code.length : Int)) rfl rfl rfl (by kernel_rfl) (by kernel_rfl) (by kernel_rfl) (ST.sel hS6 [0] rfl rfl) (fun w' hw' => (Y_len (B := B1) (m := c.code.length) (c := c1) k_sl_34_5 rfl rfl)) ?_
  refine ra_q 9 53 (v := .bool (decide ((IntKind.i64.wrap (c.at_ + 1)) ≤ (c.code.length : Int)))) rfl rfl rfl (by kernel_rfl) (by kernel_rfl) (by kernel_rfl) (ST.sel hS6 [0] rfl rfl) (fun w' hw' => (Y_le (k := .i64) (a := (IntKind.i64.wrap (c.at_ + 1))) (b := (c.code.length : Int)) rfl rfl rfl)) ?_
  refine ra_done (by kernel_rfl) ?_
  refine cw_cond (b := (decide ((IntKind.i64.wrap (c.at_ + 1)) ≤ (c.code.length : Int)))) rfl (fun hb1 => ?_) (fun hb1 => ?_)
  · skip
    have hF4 := ct hF1 hb1
    refine cw_seq ?_
    refine cw_region ?_
    refine sq 54 rfl rfl (Y_move (v := .int .i64 b) rfl (hf.get 3 1 rfl)) ?_
    refine sq 2 rfl rfl (Y_assign (v := .int .i64 b) rfl rfl) ?_
    refine rw_nil ?_
    refine cw_ret ?_
    obtain ⟨rfl, rfl⟩ := pr2 (some_inj hF4)
    exact ret1 Try.results119 (v1 := .int .i64 b) (resAt_tmp rfl) ⟨rfl, (ST.subR (R' := []) (hS6.sel [0] rfl rfl) (fun _ h => by cases h))⟩
  · skip
    have hF5 := cf' hF1 hb1
    refine cw_skip ?_
    refine cw_seq ?_
    refine cw_region ?_
    refine sq 55 rfl rfl (Y_move (v := pt B 0) rfl (hf.get 0 0 rfl)) ?_
    refine sq 56 rfl rfl (Y_nilCheck (B := B) (i := 0) rfl rfl) ?_
    refine sq 57 rfl rfl (Y_fieldAddr (B := B) (i := 0) (s := 0) k_fd_87_2_2_85 k_sz_85_1 rfl rfl) ?_
    refine sq 58 rfl rfl (Y_load1 (B := B) (i := 2) (cs := [.slice B1 c.code.length c1, .int .i64 (IntKind.i64.wrap (c.at_ + 1)), .int .u64 (IntKind.u64.wrap ((IntKind.u64.wrap ((IntKind.u64.wrap (c.seed * 6364136223846793005)) + (IntKind.u64.wrap b))) + 1442695040888963407))]) (v := .int .u64 (IntKind.u64.wrap ((IntKind.u64.wrap ((IntKind.u64.wrap (c.seed * 6364136223846793005)) + (IntKind.u64.wrap b))) + 1442695040888963407))) k_sc_85 rfl rfl (hS6.cf (i := 0) rfl) rfl) ?_
    refine sq 59 rfl rfl (Y_shr (k := .u64) (a := (IntKind.u64.wrap ((IntKind.u64.wrap ((IntKind.u64.wrap (c.seed * 6364136223846793005)) + (IntKind.u64.wrap b))) + 1442695040888963407))) (k' := .u64) (b := 40) rfl rfl rfl (by decide)) ?_
    refine sq 60 rfl rfl (Y_band (k := .u64) (a := (shrK .u64 (IntKind.u64.wrap ((IntKind.u64.wrap ((IntKind.u64.wrap (c.seed * 6364136223846793005)) + (IntKind.u64.wrap b))) + 1442695040888963407)) 40)) (b := 255) rfl rfl rfl) ?_
    refine sq 61 rfl rfl (Y_conv (k := .u64) (a := (bits .and .u64 (shrK .u64 (IntKind.u64.wrap ((IntKind.u64.wrap ((IntKind.u64.wrap (c.seed * 6364136223846793005)) + (IntKind.u64.wrap b))) + 1442695040888963407)) 40) 255)) (T := 85) (T' := 3) k_us_85 k_int_3_i64 rfl rfl) ?_
    refine sq 2 rfl rfl (Y_assign (v := .int .i64 (IntKind.i64.wrap (bits .and .u64 (shrK .u64 (IntKind.u64.wrap ((IntKind.u64.wrap ((IntKind.u64.wrap (c.seed * 6364136223846793005)) + (IntKind.u64.wrap b))) + 1442695040888963407)) 40) 255))) rfl rfl) ?_
    refine rw_nil ?_
    refine cw_ret ?_
    obtain ⟨rfl, rfl⟩ := pr2 (some_inj hF5)
    exact ret1 Try.results119 (v1 := .int .i64 (IntKind.i64.wrap (bits .and .u64 (shrK .u64 (IntKind.u64.wrap ((IntKind.u64.wrap ((IntKind.u64.wrap (c.seed * 6364136223846793005)) + (IntKind.u64.wrap b))) + 1442695040888963407)) 40) 255))) (resAt_tmp rfl) ⟨rfl, (ST.subR (R' := []) (hS6.sel [0] rfl rfl) (fun _ h => by cases h))⟩

theorem c_spec_l1Cur_pick (c : Tl1Cur) (n1 : Int) (B : Option Addr) (B1 : Option Addr) (c1 n : Nat) (w0 : World) (hn : c.code.length = n) (hS : ST w0 (bl [⟨B, 87, [.slice B1 n c1, .int .i64 c.at_, .int .u64 c.seed], 3⟩]) w0 [⟨B, 87, [.slice B1 n c1, .int .i64 c.at_, .int .u64 c.seed], 3⟩] [⟨B1, (c.code.flatMap enc_u8)⟩]) {r_ : Int} {m : Tl1Cur} (hF : F_spec_l1Cur_pick c n1 = some (r_, m)) :
    CV Try.prog 69 #[pt B 0, .int .i64 n1] w0 (fun v w' => v = .int .i64 r_ ∧ ST w0 (bl [⟨B, 87, [.slice B1 n c1, .int .i64 c.at_, .int .u64 c.seed], 3⟩]) w' [⟨B, 87, [.slice B1 n c1, .int .i64 m.at_, .int .u64 m.seed], 3⟩] []) := by
  subst hn
  unfold F_spec_l1Cur_pick at hF
  refine cv_of_cw 20 Try.func69 rfl Try.ntmps69 rfl ?_
  refine cw_seq ?_
  refine cw_region ?_
  refine sq 4 rfl rfl (Y_assign (v := .int .i64 0) rfl rfl) ?_
  refine rw_nil ?_
  refine cw_seq ?_
  refine cw_seq ?_
  refine cw_region ?_
  refine sq 6 rfl rfl (Y_move (v := .int .i64 n1) rfl rfl) ?_
  refine sq 7 rfl rfl (Y_le (k := .i64) (a := n1) (b := 1) rfl rfl rfl) ?_
  refine rw_nil ?_
  refine cw_cond (b := (decide (n1 ≤ 1))) rfl (fun hb => ?_) (fun hb => ?_)
  · skip
    have hF1 := ct hF hb
    refine cw_seq ?_
    refine cw_region ?_
    refine sq 4 rfl rfl (Y_assign (v := .int .i64 0) rfl rfl) ?_
    refine rw_nil ?_
    refine cw_ret ?_
    obtain ⟨rfl, rfl⟩ := pr2 (some_inj hF1)
    exact ret1 Try.results69 (v1 := .int .i64 0) (resAt_tmp rfl) ⟨rfl, (ST.subR (R' := []) (hS.sel [0] rfl rfl) (fun _ h => by cases h))⟩
  · skip
    have hF2 := cf' hF hb
    refine cw_skip ?_
    refine cw_seq ?_
    refine cw_region ?_
    refine sq 8 rfl rfl (Y_move (v := pt B 0) rfl rfl) ?_
    obtain ⟨⟨r_1, m1⟩, hc, hF2⟩ := bind_inv hF2
    refine sc 9 rfl rfl (Yc_func (g := 119) (vs := [pt B 0]) k_call_119 rfl (mc rfl mn) (c_spec_l1Cur_next c B B1 c1 c.code.length _ rfl (hS.inn [true] rfl [(true, 0)] rfl) hc)) ?_
    rintro _ w_ ⟨rfl, hd⟩
    have hS1 := hS.out [true] rfl hd
    refine sq 5 rfl rfl (Y_assign (v := .int .i64 r_1) rfl rfl) ?_
    refine rw_nil ?_
    refine cw_seq ?_
    obtain ⟨z, hz, hF3⟩ := bind_inv hF2
    refine cw_mid (fun f w => ∃ (at_ : Int) (seed : Int) (x : Int), (at_, seed, x) = z ∧ FF f [(1, .int .i64 n1), (5, .int .i64 x)] ∧ ST w0 (bl [⟨B, 87, [.slice B1 c.code.length c1, .int .i64 c.at_, .int .u64 c.seed], 3⟩]) w [⟨B, 87, [.slice B1 c.code.length c1, .int .i64 at_, .int .u64 seed], 3⟩] [⟨B1, (c.code.flatMap enc_u8)⟩]) ?_ ?_
    · skip
      refine cw_seq ?_
      refine cw_region ?_
      refine sq 10 rfl rfl (Y_move (v := .int .i64 n1) rfl rfl) ?_
      refine sq 11 rfl rfl (Y_gt (k := .i64) (a := n1) (b := 200) rfl rfl rfl) ?_
      refine rw_nil ?_
      refine cw_cond (b := (decide (200 < n1))) rfl (fun hb1 => ?_) (fun hb1 => ?_)
      · skip
        have hF4 := ct hz hb1
        refine cw_region ?_
        refine sq 12 rfl rfl (Y_move (v := .int .i64 r_1) rfl rfl) ?_
        refine sq 13 rfl rfl (Y_mul (k := .i64) (a := r_1) (b := 256) rfl rfl rfl) ?_
        refine sq 14 rfl rfl (Y_move (v := pt B 0) rfl rfl) ?_
        obtain ⟨⟨r_2, m2⟩, hc1, hF4⟩ := bind_inv hF4
        refine sc 15 rfl rfl (Yc_func (g := 119) (vs := [pt B 0]) k_call_119 rfl (mc rfl mn) (c_spec_l1Cur_next (Tl1Cur.mk c.code m1.at_ m1.seed) B B1 c1 c.code.length _ rfl (hS1.inn [true] rfl [(true, 0)] rfl) hc1)) ?_
        rintro _ w_1 ⟨rfl, hd1⟩
        have hS3 := hS1.out [true] rfl hd1
        refine sq 16 rfl rfl (Y_add (k := .i64) (a := (IntKind.i64.wrap (r_1 * 256))) (b := r_2) rfl rfl rfl) ?_
        refine sq 5 rfl rfl (Y_assign (v := .int .i64 (IntKind.i64.wrap ((IntKind.i64.wrap (r_1 * 256)) + r_2))) rfl rfl) ?_
        refine rw_nil ?_
        exact ⟨m2.at_, m2.seed, (IntKind.i64.wrap ((IntKind.i64.wrap (r_1 * 256)) + r_2)), (some_inj hF4), (FF.cons rfl (FF.cons rfl FF.nil)), (hS3.sel [0] rfl rfl)⟩
      · skip
        have hF5 := cf' hz hb1
        refine cw_skip ?_
        exact ⟨m1.at_, m1.seed, r_1, (some_inj hF5), (FF.cons rfl (FF.cons rfl FF.nil)), (hS1.sel [0] rfl rfl)⟩
    rintro f w ⟨at_, seed, x, rfl, hf, hS2⟩
    refine cw_seq ?_
    refine cw_region ?_
    refine sq 17 rfl rfl (Y_move (v := .int .i64 x) rfl (hf.get 5 1 rfl)) ?_
    refine sq 18 rfl rfl (Y_move (v := .int .i64 n1) rfl (hf.get 1 0 rfl)) ?_
    obtain ⟨hne, hF3⟩ := chk_inv hF3
    refine sq 19 rfl rfl (Y_rem (k := .i64) (a := x) (b := n1) rfl rfl rfl hne) ?_
    refine sq 4 rfl rfl (Y_assign (v := .int .i64 (Int.tmod x n1)) rfl rfl) ?_
    refine rw_nil ?_
    refine cw_ret ?_
    obtain ⟨rfl, rfl⟩ := pr2 (some_inj hF3)
    exact ret1 Try.results69 (v1 := .int .i64 (Int.tmod x n1)) (resAt_tmp rfl) ⟨rfl, (ST.subR (R' := []) (hS2.sel [0] rfl rfl) (fun _ h => by cases h))⟩

theorem c_spec_l1Cur_among (c : Tl1Cur) (list : List Int) (B : Option Addr) (B1 : Option Addr) (c1 n : Nat) (B2 : Option Addr) (c2 n1 : Nat) (w0 : World) (hn : c.code.length = n) (hn1 : list.length = n1) (hS : ST w0 (bl [⟨B, 87, [.slice B1 n c1, .int .i64 c.at_, .int .u64 c.seed], 3⟩]) w0 [⟨B, 87, [.slice B1 n c1, .int .i64 c.at_, .int .u64 c.seed], 3⟩] [⟨B1, (c.code.flatMap enc_u8)⟩, ⟨B2, (list.flatMap encI)⟩]) {r_ : Int} {m : Tl1Cur} (hF : F_spec_l1Cur_among c list = some (r_, m)) :
    CV Try.prog 53 #[pt B 0, .slice B2 n1 c2] w0 (fun v w' => v = .int .i64 r_ ∧ ST w0 (bl [⟨B, 87, [.slice B1 n c1, .int .i64 c.at_, .int .u64 c.seed], 3⟩]) w' [⟨B, 87, [.slice B1 n c1, .int .i64 m.at_, .int .u64 m.seed], 3⟩] []) := by
  subst hn
  subst hn1
  unfold F_spec_l1Cur_among at hF
  refine cv_of_cw 12 Try.func53 rfl Try.ntmps53 rfl ?_
  refine cw_seq ?_
  refine cw_region ?_
  refine sq 4 rfl rfl (Y_assign (v := .int .i64 0) rfl rfl) ?_
  refine rw_nil ?_
  refine cw_seq ?_
  refine cw_region ?_
  refine sq 5 rfl rfl (Y_move (v := .slice B2 list.length c2) rfl rfl) ?_
  refine sq 6 rfl rfl (Y_move (v := pt B 0) rfl rfl) ?_
  refine sq 7 rfl rfl (Y_move (v := .slice B2 list.length c2) rfl rfl) ?_
  refine sq 8 rfl rfl (Y_len (B := B2) (m := list.length) (c := c2) k_sl_48_3 rfl rfl) ?_
  obtain ⟨⟨r_1, m1⟩, hc, hF⟩ := bind_inv hF
  refine sc 9 rfl rfl (Yc_func (g := 69) (vs := [pt B 0, .int .i64 (list.length : Int)]) k_call_69 rfl (mc rfl (mc rfl mn)) (c_spec_l1Cur_pick c (list.length : Int) B B1 c1 c.code.length _ rfl (hS.inn [true] rfl [(true, 0)] rfl) hc)) ?_
  rintro _ w_ ⟨rfl, hd⟩
  have hS1 := hS.out [true] rfl hd
  obtain ⟨x, hx, hF⟩ := bind_inv hF
  refine sq 10 rfl rfl (Y_index (B := B2) (m := list.length) (c := c2) (k := .i64) (i := r_1) k_sl_48_3 k_sz_3_1 rfl rfl rfl (gi_isSome encI_len rfl (hS1.rf (i := 1) rfl) hx) (getI_nn hx) (getI_ltI hx rfl)) ?_
  refine sq 11 rfl rfl (Y_load1 (B := B2) (i := r_1.toNat * 1) (cs := (list.flatMap encI)) (v := .int .i64 x) k_sc_3 rfl rfl (hS1.rf (i := 1) rfl) (gi_at0 encI_len hx rfl)) ?_
  refine sq 4 rfl rfl (Y_assign (v := .int .i64 x) rfl rfl) ?_
  refine rw_nil ?_
  refine cw_ret ?_
  obtain ⟨rfl, rfl⟩ := pr2 (some_inj hF)
  exact ret1 Try.results53 (v1 := .int .i64 x) (resAt_tmp rfl) ⟨rfl, (ST.subR (R' := []) (hS1.sel [0] rfl rfl) (fun _ h => by cases h))⟩

theorem c_spec_l1Even (x : TRing)  (w0 : World)  (hS : ST w0 [] w0 [] []) {r_ : Bool} (hF : F_spec_l1Even x = some r_) :
    CV Try.prog 147 #[.agg #[.int .i64 x.A, .int .i64 x.B, .int .i64 x.C, .int .i64 x.D]] w0 (fun v w' => v = .bool r_ ∧ ST w0 [] w' [] []) := by
  unfold F_spec_l1Even at hF
  refine cv_of_cw 19 Try.func147 rfl Try.ntmps147 rfl ?_
  refine cw_seq ?_
  refine cw_region ?_
  refine ss 1 rfl rfl (Ys_box (T := 42) (v := .agg #[.int .i64 x.A, .int .i64 x.B, .int .i64 x.C, .int .i64 x.D]) (cs := [.int .i64 x.A, .int .i64 x.B, .int .i64 x.C, .int .i64 x.D]) (m := 4) hS rfl rfl rfl rfl) ?_
  rintro _ w_ ⟨b, rfl, hS1⟩
  refine sq 2 rfl rfl (Y_assign (v := .bool false) rfl rfl) ?_
  refine rw_nil ?_
  refine cw_seq ?_
  refine cw_region ?_
  refine sq 3 rfl rfl (Y_fieldAddr (B := some ⟨b, 0, none⟩) (i := 0) (s := 0) k_fd_42_0_0_3 k_sz_3_1 rfl rfl) ?_
  refine sq 4 rfl rfl (Y_load1 (B := some ⟨b, 0, none⟩) (i := 0) (cs := [.int .i64 x.A, .int .i64 x.B, .int .i64 x.C, .int .i64 x.D]) (v := .int .i64 x.A) k_sc_3 rfl rfl (hS1.cf (i := 0) rfl) rfl) ?_
  refine sq 5 rfl rfl (Y_fieldAddr (B := some ⟨b, 0, none⟩) (i := 0) (s := 0) k_fd_42_2_2_3 k_sz_3_1 rfl rfl) ?_
  refine sq 6 rfl rfl (Y_load1 (B := some ⟨b, 0, none⟩) (i := 2) (cs := [.int .i64 x.A, .int .i64 x.B, .int .i64 x.C, .int .i64 x.D]) (v := .int .i64 x.C) k_sc_3 rfl rfl (hS1.cf (i := 0) rfl) rfl) ?_
  refine sq 7 rfl rfl (Y_add (k := .i64) (a := x.A) (b := x.C) rfl rfl rfl) ?_
  refine sq 8 rfl rfl (Y_rem (k := .i64) (a := (IntKind.i64.wrap (x.A + x.C))) (b := 2) rfl rfl rfl (by decide)) ?_
  refine sq 9 rfl rfl (Y_eq (k := .i64) (a := (Int.tmod (IntKind.i64.wrap (x.A + x.C)) 2)) (b := 0) rfl rfl rfl) ?_
  refine sq 10 rfl rfl (Y_move (v := .bool ((Int.tmod (IntKind.i64.wrap (x.A + x.C)) 2) == 0)) rfl rfl) ?_
  refine sgq 11 (B := ((Int.tmod (IntKind.i64.wrap (x.A + x.C)) 2) == 0)) (v := pt (some ⟨b, 0, none⟩) 1) rfl rfl (wt_t (gd_of (t := 10) (by kernel_rfl) rfl)) (fun hg => (Y_fieldAddr (B := some ⟨b, 0, none⟩) (i := 0) (s := 0) k_fd_42_1_1_3 k_sz_3_1 rfl rfl)) ?_
  refine sgq 12 (B := ((Int.tmod (IntKind.i64.wrap (x.A + x.C)) 2) == 0)) (v := .int .i64 x.B) rfl rfl (wt_t (gd_of (t := 10) (by kernel_rfl) rfl)) (fun hg1 => (Y_load1 (B := some ⟨b, 0, none⟩) (i := 1) (cs := [.int .i64 x.A, .int .i64 x.B, .int .i64 x.C, .int .i64 x.D]) (v := .int .i64 x.B) k_sc_3 rfl (gv_of (B := ((Int.tmod (IntKind.i64.wrap (x.A + x.C)) 2) == 0)) (v := pt (some ⟨b, 0, none⟩) 1) hg1) (hS1.cf (i := 0) rfl) rfl)) ?_
  refine sgq 13 (B := ((Int.tmod (IntKind.i64.wrap (x.A + x.C)) 2) == 0)) (v := pt (some ⟨b, 0, none⟩) 3) rfl rfl (wt_t (gd_of (t := 10) (by kernel_rfl) rfl)) (fun hg2 => (Y_fieldAddr (B := some ⟨b, 0, none⟩) (i := 0) (s := 0) k_fd_42_3_3_3 k_sz_3_1 rfl rfl)) ?_
  refine sgq 14 (B := ((Int.tmod (IntKind.i64.wrap (x.A + x.C)) 2) == 0)) (v := .int .i64 x.D) rfl rfl (wt_t (gd_of (t := 10) (by kernel_rfl) rfl)) (fun hg3 => (Y_load1 (B := some ⟨b, 0, none⟩) (i := 3) (cs := [.int .i64 x.A, .int .i64 x.B, .int .i64 x.C, .int .i64 x.D]) (v := .int .i64 x.D) k_sc_3 rfl (gv_of (B := ((Int.tmod (IntKind.i64.wrap (x.A + x.C)) 2) == 0)) (v := pt (some ⟨b, 0, none⟩) 3) hg3) (hS1.cf (i := 0) rfl) rfl)) ?_
  refine sgq 15 (B := ((Int.tmod (IntKind.i64.wrap (x.A + x.C)) 2) == 0)) (v := .int .i64 (IntKind.i64.wrap (x.B + x.D))) rfl rfl (wt_t (gd_of (t := 10) (by kernel_rfl) rfl)) (fun hg4 => (Y_add (k := .i64) (a := x.B) (b := x.D) rfl (gv_of (B := ((Int.tmod (IntKind.i64.wrap (x.A + x.C)) 2) == 0)) (v := .int .i64 x.B) hg4) (gv_of (B := ((Int.tmod (IntKind.i64.wrap (x.A + x.C)) 2) == 0)) (v := .int .i64 x.D) hg4))) ?_
  refine sgq 16 (B := ((Int.tmod (IntKind.i64.wrap (x.A + x.C)) 2) == 0)) (v := .int .i64 (Int.tmod (IntKind.i64.wrap (x.B + x.D)) 2)) rfl rfl (wt_t (gd_of (t := 10) (by kernel_rfl) rfl)) (fun hg5 => (Y_rem (k := .i64) (a := (IntKind.i64.wrap (x.B + x.D))) (b := 2) rfl (gv_of (B := ((Int.tmod (IntKind.i64.wrap (x.A + x.C)) 2) == 0)) (v := .int .i64 (IntKind.i64.wrap (x.B + x.D))) hg5) rfl (by decide))) ?_
  refine sgq 17 (B := ((Int.tmod (IntKind.i64.wrap (x.A + x.C)) 2) == 0)) (v := .bool ((Int.tmod (IntKind.i64.wrap (x.B + x.D)) 2) == 0)) rfl rfl (wt_t (gd_of (t := 10) (by kernel_rfl) rfl)) (fun hg6 => (Y_eq (k := .i64) (a := (Int.tmod (IntKind.i64.wrap (x.B + x.D)) 2)) (b := 0) rfl (gv_of (B := ((Int.tmod (IntKind.i64.wrap (x.A + x.C)) 2) == 0)) (v := .int .i64 (Int.tmod (IntKind.i64.wrap (x.B + x.D)) 2)) hg6) rfl)) ?_
  refine sq 18 rfl rfl (Y_and (b := ((Int.tmod (IntKind.i64.wrap (x.A + x.C)) 2) == 0)) (z := ((Int.tmod (IntKind.i64.wrap (x.B + x.D)) 2) == 0)) rfl rfl rfl rfl) ?_
  refine sq 2 rfl rfl (Y_assign (v := .bool (((Int.tmod (IntKind.i64.wrap (x.A + x.C)) 2) == 0) && ((Int.tmod (IntKind.i64.wrap (x.B + x.D)) 2) == 0))) rfl rfl) ?_
  refine rw_nil ?_
  refine cw_ret ?_
  obtain rfl := some_inj hF
  exact ret1 Try.results147 (v1 := .bool (((Int.tmod (IntKind.i64.wrap (x.A + x.C)) 2) == 0) && ((Int.tmod (IntKind.i64.wrap (x.B + x.D)) 2) == 0))) (resAt_tmp rfl) ⟨rfl, (ST.subR (R' := []) (hS1.sel [] rfl rfl) (fun _ h => by cases h))⟩

theorem c_spec_l1Root (x : TRing)  (w0 : World)  (hS : ST w0 [] w0 [] []) {r_ : TRing} (hF : F_spec_l1Root x = some r_) :
    CV Try.prog 149 #[.agg #[.int .i64 x.A, .int .i64 x.B, .int .i64 x.C, .int .i64 x.D]] w0 (fun v w' => v = .agg #[.int .i64 r_.A, .int .i64 r_.B, .int .i64 r_.C, .int .i64 r_.D] ∧ ST w0 [] w' [] []) := by
  unfold F_spec_l1Root at hF
  refine cv_of_cw 24 Try.func149 rfl Try.ntmps149 rfl ?_
  refine cw_seq ?_
  refine cw_region ?_
  refine ss 1 rfl rfl (Ys_box (T := 42) (v := .agg #[.int .i64 x.A, .int .i64 x.B, .int .i64 x.C, .int .i64 x.D]) (cs := [.int .i64 x.A, .int .i64 x.B, .int .i64 x.C, .int .i64 x.D]) (m := 4) hS rfl rfl rfl rfl) ?_
  rintro _ w_ ⟨b, rfl, hS1⟩
  refine ss 2 rfl rfl (Ys_alloc (T := 42) (cs := [.int .i64 0, .int .i64 0, .int .i64 0, .int .i64 0]) (m := 4) hS1 k_zero_42 rfl rfl rfl) ?_
  rintro _ w_1 ⟨b1, rfl, hS2⟩
  have hS2 : ST w0 [] _ [⟨some ⟨b, 0, none⟩, 42, [.int .i64 x.A, .int .i64 x.B, .int .i64 x.C, .int .i64 x.D], 4⟩, ⟨some ⟨b1, 0, none⟩, 42, [.int .i64 0, .int .i64 0, .int .i64 0, .int .i64 0], 4⟩] [] := hS2
  refine rw_nil ?_
  refine cw_seq ?_
  refine cw_region ?_
  refine sq 3 rfl rfl (Y_fieldAddr (B := some ⟨b, 0, none⟩) (i := 0) (s := 0) k_fd_42_1_1_3 k_sz_3_1 rfl rfl) ?_
  refine sq 4 rfl rfl (Y_load1 (B := some ⟨b, 0, none⟩) (i := 1) (cs := [.int .i64 x.A, .int .i64 x.B, .int .i64 x.C, .int .i64 x.D]) (v := .int .i64 x.B) k_sc_3 rfl rfl (hS2.cf (i := 0) rfl) rfl) ?_
  refine sq 5 rfl rfl (Y_fieldAddr (B := some ⟨b, 0, none⟩) (i := 0) (s := 0) k_fd_42_3_3_3 k_sz_3_1 rfl rfl) ?_
  refine sq 6 rfl rfl (Y_load1 (B := some ⟨b, 0, none⟩) (i := 3) (cs := [.int .i64 x.A, .int .i64 x.B, .int .i64 x.C, .int .i64 x.D]) (v := .int .i64 x.D) k_sc_3 rfl rfl (hS2.cf (i := 0) rfl) rfl) ?_
  refine sq 7 rfl rfl (Y_sub (k := .i64) (a := x.B) (b := x.D) rfl rfl rfl) ?_
  refine sq 8 rfl rfl (Y_fieldAddr (B := some ⟨b, 0, none⟩) (i := 0) (s := 0) k_fd_42_0_0_3 k_sz_3_1 rfl rfl) ?_
  refine sq 9 rfl rfl (Y_load1 (B := some ⟨b, 0, none⟩) (i := 0) (cs := [.int .i64 x.A, .int .i64 x.B, .int .i64 x.C, .int .i64 x.D]) (v := .int .i64 x.A) k_sc_3 rfl rfl (hS2.cf (i := 0) rfl) rfl) ?_
  refine sq 10 rfl rfl (Y_fieldAddr (B := some ⟨b, 0, none⟩) (i := 0) (s := 0) k_fd_42_2_2_3 k_sz_3_1 rfl rfl) ?_
  refine sq 11 rfl rfl (Y_load1 (B := some ⟨b, 0, none⟩) (i := 2) (cs := [.int .i64 x.A, .int .i64 x.B, .int .i64 x.C, .int .i64 x.D]) (v := .int .i64 x.C) k_sc_3 rfl rfl (hS2.cf (i := 0) rfl) rfl) ?_
  refine sq 12 rfl rfl (Y_add (k := .i64) (a := x.A) (b := x.C) rfl rfl rfl) ?_
  refine sq 13 rfl rfl (Y_fieldAddr (B := some ⟨b, 0, none⟩) (i := 0) (s := 0) k_fd_42_1_1_3 k_sz_3_1 rfl rfl) ?_
  refine sq 14 rfl rfl (Y_load1 (B := some ⟨b, 0, none⟩) (i := 1) (cs := [.int .i64 x.A, .int .i64 x.B, .int .i64 x.C, .int .i64 x.D]) (v := .int .i64 x.B) k_sc_3 rfl rfl (hS2.cf (i := 0) rfl) rfl) ?_
  refine sq 15 rfl rfl (Y_fieldAddr (B := some ⟨b, 0, none⟩) (i := 0) (s := 0) k_fd_42_3_3_3 k_sz_3_1 rfl rfl) ?_
  refine sq 16 rfl rfl (Y_load1 (B := some ⟨b, 0, none⟩) (i := 3) (cs := [.int .i64 x.A, .int .i64 x.B, .int .i64 x.C, .int .i64 x.D]) (v := .int .i64 x.D) k_sc_3 rfl rfl (hS2.cf (i := 0) rfl) rfl) ?_
  refine sq 17 rfl rfl (Y_add (k := .i64) (a := x.B) (b := x.D) rfl rfl rfl) ?_
  refine sq 18 rfl rfl (Y_fieldAddr (B := some ⟨b, 0, none⟩) (i := 0) (s := 0) k_fd_42_2_2_3 k_sz_3_1 rfl rfl) ?_
  refine sq 19 rfl rfl (Y_load1 (B := some ⟨b, 0, none⟩) (i := 2) (cs := [.int .i64 x.A, .int .i64 x.B, .int .i64 x.C, .int .i64 x.D]) (v := .int .i64 x.C) k_sc_3 rfl rfl (hS2.cf (i := 0) rfl) rfl) ?_
  refine sq 20 rfl rfl (Y_fieldAddr (B := some ⟨b, 0, none⟩) (i := 0) (s := 0) k_fd_42_0_0_3 k_sz_3_1 rfl rfl) ?_
  refine sq 21 rfl rfl (Y_load1 (B := some ⟨b, 0, none⟩) (i := 0) (cs := [.int .i64 x.A, .int .i64 x.B, .int .i64 x.C, .int .i64 x.D]) (v := .int .i64 x.A) k_sc_3 rfl rfl (hS2.cf (i := 0) rfl) rfl) ?_
  refine sq 22 rfl rfl (Y_sub (k := .i64) (a := x.C) (b := x.A) rfl rfl rfl) ?_
  refine sq 23 rfl rfl (Y_buildS (zs := [.int .i64 0, .int .i64 0, .int .i64 0, .int .i64 0]) (vs := [(0, .int .i64 (IntKind.i64.wrap (x.B - x.D))), (1, .int .i64 (IntKind.i64.wrap (x.A + x.C))), (2, .int .i64 (IntKind.i64.wrap (x.B + x.D))), (3, .int .i64 (IntKind.i64.wrap (x.C - x.A)))]) (cs := [.int .i64 (IntKind.i64.wrap (x.B - x.D)), .int .i64 (IntKind.i64.wrap (x.A + x.C)), .int .i64 (IntKind.i64.wrap (x.B + x.D)), .int .i64 (IntKind.i64.wrap (x.C - x.A))]) k_pl_42 k_zero_42 rfl (mpc rfl (mpc rfl (mpc rfl (mpc rfl mpn)))) rfl) ?_
  refine ss0 rfl rfl (Ys_store (i := 1) (s := 4) (B := some ⟨b1, 0, none⟩) (T' := 42) (v := .agg #[.int .i64 (IntKind.i64.wrap (x.B - x.D)), .int .i64 (IntKind.i64.wrap (x.A + x.C)), .int .i64 (IntKind.i64.wrap (x.B + x.D)), .int .i64 (IntKind.i64.wrap (x.C - x.A))]) (vs := [.int .i64 (IntKind.i64.wrap (x.B - x.D)), .int .i64 (IntKind.i64.wrap (x.A + x.C)), .int .i64 (IntKind.i64.wrap (x.B + x.D)), .int .i64 (IntKind.i64.wrap (x.C - x.A))]) (k := 0) (cs' := [.int .i64 (IntKind.i64.wrap (x.B - x.D)), .int .i64 (IntKind.i64.wrap (x.A + x.C)), .int .i64 (IntKind.i64.wrap (x.B + x.D)), .int .i64 (IntKind.i64.wrap (x.C - x.A))]) hS2 k_sz_42_4 rfl rfl rfl rfl rfl rfl rfl (Nat.le_of_ble_eq_true rfl) rfl rfl) ?_
  rintro _ w_2 ⟨rfl, hS3⟩
  have hS3 : ST w0 [] _ [⟨some ⟨b, 0, none⟩, 42, [.int .i64 x.A, .int .i64 x.B, .int .i64 x.C, .int .i64 x.D], 4⟩, ⟨some ⟨b1, 0, none⟩, 42, [.int .i64 (IntKind.i64.wrap (x.B - x.D)), .int .i64 (IntKind.i64.wrap (x.A + x.C)), .int .i64 (IntKind.i64.wrap (x.B + x.D)), .int .i64 (IntKind.i64.wrap (x.C - x.A))], 4⟩] [] := hS3
  refine rw_nil ?_
  refine cw_ret ?_
  obtain rfl := some_inj hF
  exact ret1 Try.results149 (v1 := .agg #[.int .i64 (IntKind.i64.wrap (x.B - x.D)), .int .i64 (IntKind.i64.wrap (x.A + x.C)), .int .i64 (IntKind.i64.wrap (x.B + x.D)), .int .i64 (IntKind.i64.wrap (x.C - x.A))]) (resAt_cellA (B := some ⟨b1, 0, none⟩) (i := 0) (cs := [.int .i64 (IntKind.i64.wrap (x.B - x.D)), .int .i64 (IntKind.i64.wrap (x.A + x.C)), .int .i64 (IntKind.i64.wrap (x.B + x.D)), .int .i64 (IntKind.i64.wrap (x.C - x.A))]) (vs := [.int .i64 (IntKind.i64.wrap (x.B - x.D)), .int .i64 (IntKind.i64.wrap (x.A + x.C)), .int .i64 (IntKind.i64.wrap (x.B + x.D)), .int .i64 (IntKind.i64.wrap (x.C - x.A))]) rfl k_ag_42 k_sz_42_4 (hS3.cf (i := 1) rfl) rfl rfl) ⟨rfl, (ST.subR (R' := []) (hS3.sel [] rfl rfl) (fun _ h => by cases h))⟩

theorem c_spec_l1Half (x : TRing)  (w0 : World)  (hS : ST w0 [] w0 [] []) {r_ : TRing} (hF : F_spec_l1Half x = some r_) :
    CV Try.prog 168 #[.agg #[.int .i64 x.A, .int .i64 x.B, .int .i64 x.C, .int .i64 x.D]] w0 (fun v w' => v = .agg #[.int .i64 r_.A, .int .i64 r_.B, .int .i64 r_.C, .int .i64 r_.D] ∧ ST w0 [] w' [] []) := by
  unfold F_spec_l1Half at hF
  refine cv_of_cw 19 Try.func168 rfl Try.ntmps168 rfl ?_
  refine cw_seq ?_
  refine cw_region ?_
  refine ss 1 rfl rfl (Ys_box (T := 42) (v := .agg #[.int .i64 x.A, .int .i64 x.B, .int .i64 x.C, .int .i64 x.D]) (cs := [.int .i64 x.A, .int .i64 x.B, .int .i64 x.C, .int .i64 x.D]) (m := 4) hS rfl rfl rfl rfl) ?_
  rintro _ w_ ⟨b, rfl, hS1⟩
  refine ss 2 rfl rfl (Ys_alloc (T := 42) (cs := [.int .i64 0, .int .i64 0, .int .i64 0, .int .i64 0]) (m := 4) hS1 k_zero_42 rfl rfl rfl) ?_
  rintro _ w_1 ⟨b1, rfl, hS2⟩
  have hS2 : ST w0 [] _ [⟨some ⟨b, 0, none⟩, 42, [.int .i64 x.A, .int .i64 x.B, .int .i64 x.C, .int .i64 x.D], 4⟩, ⟨some ⟨b1, 0, none⟩, 42, [.int .i64 0, .int .i64 0, .int .i64 0, .int .i64 0], 4⟩] [] := hS2
  refine rw_nil ?_
  refine cw_seq ?_
  refine cw_region ?_
  refine sq 4 rfl rfl (Y_loadA (B := some ⟨b, 0, none⟩) (i := 0) (cs := [.int .i64 x.A, .int .i64 x.B, .int .i64 x.C, .int .i64 x.D]) (vs := [.int .i64 x.A, .int .i64 x.B, .int .i64 x.C, .int .i64 x.D]) k_ag_42 k_sz_42_4 rfl rfl (hS2.cf (i := 0) rfl) rfl rfl) ?_
  obtain ⟨r_1, hc, hF⟩ := bind_inv hF
  refine sc 5 rfl rfl (Yc_func (g := 149) (vs := [.agg #[.int .i64 x.A, .int .i64 x.B, .int .i64 x.C, .int .i64 x.D]]) k_call_149 rfl (mc rfl mn) (c_spec_l1Root x _  (hS2.inn0 [] rfl) hc)) ?_
  rintro _ w_2 ⟨rfl, hd⟩
  have hS3 := hS2.out00 hd
  have hS3 : ST w0 [] _ [⟨some ⟨b, 0, none⟩, 42, [.int .i64 x.A, .int .i64 x.B, .int .i64 x.C, .int .i64 x.D], 4⟩, ⟨some ⟨b1, 0, none⟩, 42, [.int .i64 0, .int .i64 0, .int .i64 0, .int .i64 0], 4⟩] [] := hS3
  refine ss 3 rfl rfl (Ys_alloc (T := 42) (cs := [.int .i64 0, .int .i64 0, .int .i64 0, .int .i64 0]) (m := 4) hS3 k_zero_42 rfl rfl rfl) ?_
  rintro _ w_3 ⟨b2, rfl, hS4⟩
  have hS4 : ST w0 [] _ [⟨some ⟨b, 0, none⟩, 42, [.int .i64 x.A, .int .i64 x.B, .int .i64 x.C, .int .i64 x.D], 4⟩, ⟨some ⟨b1, 0, none⟩, 42, [.int .i64 0, .int .i64 0, .int .i64 0, .int .i64 0], 4⟩, ⟨some ⟨b2, 0, none⟩, 42, [.int .i64 0, .int .i64 0, .int .i64 0, .int .i64 0], 4⟩] [] := hS4
  refine ss0 rfl rfl (Ys_store (i := 2) (s := 4) (B := some ⟨b2, 0, none⟩) (T' := 42) (v := .agg #[.int .i64 r_1.A, .int .i64 r_1.B, .int .i64 r_1.C, .int .i64 r_1.D]) (vs := [.int .i64 r_1.A, .int .i64 r_1.B, .int .i64 r_1.C, .int .i64 r_1.D]) (k := 0) (cs' := [.int .i64 r_1.A, .int .i64 r_1.B, .int .i64 r_1.C, .int .i64 r_1.D]) hS4 k_sz_42_4 rfl rfl rfl rfl rfl rfl rfl (Nat.le_of_ble_eq_true rfl) rfl rfl) ?_
  rintro _ w_4 ⟨rfl, hS5⟩
  have hS5 : ST w0 [] _ [⟨some ⟨b, 0, none⟩, 42, [.int .i64 x.A, .int .i64 x.B, .int .i64 x.C, .int .i64 x.D], 4⟩, ⟨some ⟨b1, 0, none⟩, 42, [.int .i64 0, .int .i64 0, .int .i64 0, .int .i64 0], 4⟩, ⟨some ⟨b2, 0, none⟩, 42, [.int .i64 r_1.A, .int .i64 r_1.B, .int .i64 r_1.C, .int .i64 r_1.D], 4⟩] [] := hS5
  refine rw_nil ?_
  refine cw_seq ?_
  refine cw_region ?_
  refine sq 6 rfl rfl (Y_fieldAddr (B := some ⟨b2, 0, none⟩) (i := 0) (s := 0) k_fd_42_0_0_3 k_sz_3_1 rfl rfl) ?_
  refine sq 7 rfl rfl (Y_load1 (B := some ⟨b2, 0, none⟩) (i := 0) (cs := [.int .i64 r_1.A, .int .i64 r_1.B, .int .i64 r_1.C, .int .i64 r_1.D]) (v := .int .i64 r_1.A) k_sc_3 rfl rfl (hS5.cf (i := 2) rfl) rfl) ?_
  refine sq 8 rfl rfl (Y_quo (k := .i64) (a := r_1.A) (b := 2) rfl rfl rfl (by decide)) ?_
  refine sq 9 rfl rfl (Y_fieldAddr (B := some ⟨b2, 0, none⟩) (i := 0) (s := 0) k_fd_42_1_1_3 k_sz_3_1 rfl rfl) ?_
  refine sq 10 rfl rfl (Y_load1 (B := some ⟨b2, 0, none⟩) (i := 1) (cs := [.int .i64 r_1.A, .int .i64 r_1.B, .int .i64 r_1.C, .int .i64 r_1.D]) (v := .int .i64 r_1.B) k_sc_3 rfl rfl (hS5.cf (i := 2) rfl) rfl) ?_
  refine sq 11 rfl rfl (Y_quo (k := .i64) (a := r_1.B) (b := 2) rfl rfl rfl (by decide)) ?_
  refine sq 12 rfl rfl (Y_fieldAddr (B := some ⟨b2, 0, none⟩) (i := 0) (s := 0) k_fd_42_2_2_3 k_sz_3_1 rfl rfl) ?_
  refine sq 13 rfl rfl (Y_load1 (B := some ⟨b2, 0, none⟩) (i := 2) (cs := [.int .i64 r_1.A, .int .i64 r_1.B, .int .i64 r_1.C, .int .i64 r_1.D]) (v := .int .i64 r_1.C) k_sc_3 rfl rfl (hS5.cf (i := 2) rfl) rfl) ?_
  refine sq 14 rfl rfl (Y_quo (k := .i64) (a := r_1.C) (b := 2) rfl rfl rfl (by decide)) ?_
  refine sq 15 rfl rfl (Y_fieldAddr (B := some ⟨b2, 0, none⟩) (i := 0) (s := 0) k_fd_42_3_3_3 k_sz_3_1 rfl rfl) ?_
  refine sq 16 rfl rfl (Y_load1 (B := some ⟨b2, 0, none⟩) (i := 3) (cs := [.int .i64 r_1.A, .int .i64 r_1.B, .int .i64 r_1.C, .int .i64 r_1.D]) (v := .int .i64 r_1.D) k_sc_3 rfl rfl (hS5.cf (i := 2) rfl) rfl) ?_
  refine sq 17 rfl rfl (Y_quo (k := .i64) (a := r_1.D) (b := 2) rfl rfl rfl (by decide)) ?_
  refine sq 18 rfl rfl (Y_buildS (zs := [.int .i64 0, .int .i64 0, .int .i64 0, .int .i64 0]) (vs := [(0, .int .i64 (IntKind.i64.wrap (Int.tdiv r_1.A 2))), (1, .int .i64 (IntKind.i64.wrap (Int.tdiv r_1.B 2))), (2, .int .i64 (IntKind.i64.wrap (Int.tdiv r_1.C 2))), (3, .int .i64 (IntKind.i64.wrap (Int.tdiv r_1.D 2)))]) (cs := [.int .i64 (IntKind.i64.wrap (Int.tdiv r_1.A 2)), .int .i64 (IntKind.i64.wrap (Int.tdiv r_1.B 2)), .int .i64 (IntKind.i64.wrap (Int.tdiv r_1.C 2)), .int .i64 (IntKind.i64.wrap (Int.tdiv r_1.D 2))]) k_pl_42 k_zero_42 rfl (mpc rfl (mpc rfl (mpc rfl (mpc rfl mpn)))) rfl) ?_
  refine ss0 rfl rfl (Ys_store (i := 1) (s := 4) (B := some ⟨b1, 0, none⟩) (T' := 42) (v := .agg #[.int .i64 (IntKind.i64.wrap (Int.tdiv r_1.A 2)), .int .i64 (IntKind.i64.wrap (Int.tdiv r_1.B 2)), .int .i64 (IntKind.i64.wrap (Int.tdiv r_1.C 2)), .int .i64 (IntKind.i64.wrap (Int.tdiv r_1.D 2))]) (vs := [.int .i64 (IntKind.i64.wrap (Int.tdiv r_1.A 2)), .int .i64 (IntKind.i64.wrap (Int.tdiv r_1.B 2)), .int .i64 (IntKind.i64.wrap (Int.tdiv r_1.C 2)), .int .i64 (IntKind.i64.wrap (Int.tdiv r_1.D 2))]) (k := 0) (cs' := [.int .i64 (IntKind.i64.wrap (Int.tdiv r_1.A 2)), .int .i64 (IntKind.i64.wrap (Int.tdiv r_1.B 2)), .int .i64 (IntKind.i64.wrap (Int.tdiv r_1.C 2)), .int .i64 (IntKind.i64.wrap (Int.tdiv r_1.D 2))]) hS5 k_sz_42_4 rfl rfl rfl rfl rfl rfl rfl (Nat.le_of_ble_eq_true rfl) rfl rfl) ?_
  rintro _ w_5 ⟨rfl, hS6⟩
  have hS6 : ST w0 [] _ [⟨some ⟨b, 0, none⟩, 42, [.int .i64 x.A, .int .i64 x.B, .int .i64 x.C, .int .i64 x.D], 4⟩, ⟨some ⟨b1, 0, none⟩, 42, [.int .i64 (IntKind.i64.wrap (Int.tdiv r_1.A 2)), .int .i64 (IntKind.i64.wrap (Int.tdiv r_1.B 2)), .int .i64 (IntKind.i64.wrap (Int.tdiv r_1.C 2)), .int .i64 (IntKind.i64.wrap (Int.tdiv r_1.D 2))], 4⟩, ⟨some ⟨b2, 0, none⟩, 42, [.int .i64 r_1.A, .int .i64 r_1.B, .int .i64 r_1.C, .int .i64 r_1.D], 4⟩] [] := hS6
  refine rw_nil ?_
  refine cw_ret ?_
  obtain rfl := some_inj hF
  exact ret1 Try.results168 (v1 := .agg #[.int .i64 (IntKind.i64.wrap (Int.tdiv r_1.A 2)), .int .i64 (IntKind.i64.wrap (Int.tdiv r_1.B 2)), .int .i64 (IntKind.i64.wrap (Int.tdiv r_1.C 2)), .int .i64 (IntKind.i64.wrap (Int.tdiv r_1.D 2))]) (resAt_cellA (B := some ⟨b1, 0, none⟩) (i := 0) (cs := [.int .i64 (IntKind.i64.wrap (Int.tdiv r_1.A 2)), .int .i64 (IntKind.i64.wrap (Int.tdiv r_1.B 2)), .int .i64 (IntKind.i64.wrap (Int.tdiv r_1.C 2)), .int .i64 (IntKind.i64.wrap (Int.tdiv r_1.D 2))]) (vs := [.int .i64 (IntKind.i64.wrap (Int.tdiv r_1.A 2)), .int .i64 (IntKind.i64.wrap (Int.tdiv r_1.B 2)), .int .i64 (IntKind.i64.wrap (Int.tdiv r_1.C 2)), .int .i64 (IntKind.i64.wrap (Int.tdiv r_1.D 2))]) rfl k_ag_42 k_sz_42_4 (hS6.cf (i := 1) rfl) rfl rfl) ⟨rfl, (ST.subR (R' := []) (hS6.sel [] rfl rfl) (fun _ h => by cases h))⟩

theorem c_spec_l2Low (num : TRing) (exp : Int)  (w0 : World)  (hS : ST w0 [] w0 [] []) {r_ : TDyadic} (hF : F_spec_l2Low num exp = some r_) :
    CV Try.prog 139 #[.agg #[.int .i64 num.A, .int .i64 num.B, .int .i64 num.C, .int .i64 num.D], .int .i64 exp] w0 (fun v w' => v = .agg #[.int .i64 r_.Num.A, .int .i64 r_.Num.B, .int .i64 r_.Num.C, .int .i64 r_.Num.D, .int .i64 r_.Exp] ∧ ST w0 [] w' [] []) := by
  unfold F_spec_l2Low at hF
  refine cv_of_cw 18 Try.func139 rfl Try.ntmps139 rfl ?_
  refine cw_seq ?_
  refine cw_region ?_
  refine ss 2 rfl rfl (Ys_box (T := 42) (v := .agg #[.int .i64 num.A, .int .i64 num.B, .int .i64 num.C, .int .i64 num.D]) (cs := [.int .i64 num.A, .int .i64 num.B, .int .i64 num.C, .int .i64 num.D]) (m := 4) hS rfl rfl rfl rfl) ?_
  rintro _ w_ ⟨b, rfl, hS1⟩
  refine ss 4 rfl rfl (Ys_alloc (T := 44) (cs := [.int .i64 0, .int .i64 0, .int .i64 0, .int .i64 0, .int .i64 0]) (m := 5) hS1 k_zero_44 rfl rfl rfl) ?_
  rintro _ w_1 ⟨b1, rfl, hS2⟩
  have hS2 : ST w0 [] _ [⟨some ⟨b, 0, none⟩, 42, [.int .i64 num.A, .int .i64 num.B, .int .i64 num.C, .int .i64 num.D], 4⟩, ⟨some ⟨b1, 0, none⟩, 44, [.int .i64 0, .int .i64 0, .int .i64 0, .int .i64 0, .int .i64 0], 5⟩] [] := hS2
  refine rw_nil ?_
  refine cw_seq ?_
  obtain ⟨z, hz, hF1⟩ := bind_inv hF
  refine cw_block ?_
  refine cw_loop (fun k f w => ∃ (exp1 : Int) (A : Int) (B : Int) (C : Int) (D : Int), FF f [(1, .int .i64 exp1), (2, pt (some ⟨b, 0, none⟩) 0), (4, pt (some ⟨b1, 0, none⟩) 0)] ∧ ST w0 [] w [⟨some ⟨b, 0, none⟩, 42, [.int .i64 A, .int .i64 B, .int .i64 C, .int .i64 D], 4⟩, ⟨some ⟨b1, 0, none⟩, 44, [.int .i64 0, .int .i64 0, .int .i64 0, .int .i64 0, .int .i64 0], 5⟩] [] ∧ whX F_spec_l2Low_l1 k (exp1, A, B, C, D) = some z) fuel ⟨exp, num.A, num.B, num.C, num.D, (FF.cons rfl (FF.cons rfl (FF.cons rfl FF.nil))), (hS2.sel [0, 1] rfl rfl), hz⟩ ?_
  rintro k_ f w ⟨exp1, A, B, C, D, hf, hS3, hL⟩
  obtain ⟨k_1, y, rfl, hb, hL1⟩ := whX_go hL
  unfold F_spec_l2Low_l1 at hb
  refine cw_seq ?_
  refine cw_seq ?_
  refine cw_region ?_
  refine sq 5 rfl rfl (Y_move (v := .int .i64 exp1) rfl (hf.get 1 0 rfl)) ?_
  refine sq 6 rfl rfl (Y_gt (k := .i64) (a := exp1) (b := 0) rfl rfl rfl) ?_
  refine sq 7 rfl rfl (Y_move (v := .bool (decide (0 < exp1))) rfl rfl) ?_
  refine sgq 8 (B := (decide (0 < exp1))) (v := .agg #[.int .i64 A, .int .i64 B, .int .i64 C, .int .i64 D]) rfl rfl (wt_t (gd_of (t := 7) (by kernel_rfl) rfl)) (fun hg => (Y_loadA (B := some ⟨b, 0, none⟩) (i := 0) (cs := [.int .i64 A, .int .i64 B, .int .i64 C, .int .i64 D]) (vs := [.int .i64 A, .int .i64 B, .int .i64 C, .int .i64 D]) k_ag_42 k_sz_42_4 rfl (hf.get 2 1 rfl) (hS3.cf (i := 0) rfl) rfl rfl)) ?_
  obtain ⟨r_1, hc, hb⟩ := bind_inv hb
  refine sgc 9 (B := (decide (0 < exp1))) (v := .bool r_1) (F := hS3.fn) rfl rfl (wt_t (gd_of (t := 7) (by kernel_rfl) rfl)) hS3 (fun hg1 => (Yc_func (g := 147) (vs := [.agg #[.int .i64 A, .int .i64 B, .int .i64 C, .int .i64 D]]) k_call_147 rfl (mc (gv_of (B := (decide (0 < exp1))) (v := .agg #[.int .i64 A, .int .i64 B, .int .i64 C, .int .i64 D]) hg1) mn) (CV.mono (c_spec_l1Even (TRing.mk A B C D) _  (hS3.inn0 [] rfl) (gb_inv hc hg1)) (by rintro _ _ ⟨rfl, h⟩; exact ⟨rfl, hS3.out00 h⟩)))) ?_
  rintro w_2 hS4
  have hS4 : ST _ _ w_2 _ _ := hS4
  refine sq 10 rfl rfl (Y_and (b := (decide (0 < exp1))) (z := r_1) rfl rfl rfl rfl) ?_
  refine rw_nil ?_
  refine cw_cond (b := ((decide (0 < exp1)) && r_1)) rfl (fun hb1 => ?_) (fun hb1 => ?_)
  · skip
    have hF2 := ct hb hb1
    refine cw_skip ?_
    refine cw_block ?_
    refine cw_seq ?_
    refine cw_region ?_
    refine sq 11 rfl rfl (Y_loadA (B := some ⟨b, 0, none⟩) (i := 0) (cs := [.int .i64 A, .int .i64 B, .int .i64 C, .int .i64 D]) (vs := [.int .i64 A, .int .i64 B, .int .i64 C, .int .i64 D]) k_ag_42 k_sz_42_4 rfl (hf.get 2 1 rfl) (hS4.cf (i := 0) rfl) rfl rfl) ?_
    obtain ⟨r_2, hc1, hF2⟩ := bind_inv hF2
    refine sc 12 rfl rfl (Yc_func (g := 168) (vs := [.agg #[.int .i64 A, .int .i64 B, .int .i64 C, .int .i64 D]]) k_call_168 rfl (mc rfl mn) (c_spec_l1Half (TRing.mk A B C D) _  (hS4.inn0 [] rfl) hc1)) ?_
    rintro _ w_3 ⟨rfl, hd⟩
    have hS5 := hS4.out00 hd
    have hS5 : ST w0 [] _ [⟨some ⟨b, 0, none⟩, 42, [.int .i64 A, .int .i64 B, .int .i64 C, .int .i64 D], 4⟩, ⟨some ⟨b1, 0, none⟩, 44, [.int .i64 0, .int .i64 0, .int .i64 0, .int .i64 0, .int .i64 0], 5⟩] [] := hS5
    refine ss0 rfl rfl (Ys_store (i := 0) (s := 4) (B := some ⟨b, 0, none⟩) (T' := 42) (v := .agg #[.int .i64 r_2.A, .int .i64 r_2.B, .int .i64 r_2.C, .int .i64 r_2.D]) (vs := [.int .i64 r_2.A, .int .i64 r_2.B, .int .i64 r_2.C, .int .i64 r_2.D]) (k := 0) (cs' := [.int .i64 r_2.A, .int .i64 r_2.B, .int .i64 r_2.C, .int .i64 r_2.D]) hS5 k_sz_42_4 rfl (hf.get 2 1 rfl) rfl rfl rfl rfl rfl (Nat.le_of_ble_eq_true rfl) rfl rfl) ?_
    rintro _ w_4 ⟨rfl, hS6⟩
    have hS6 : ST w0 [] _ [⟨some ⟨b, 0, none⟩, 42, [.int .i64 r_2.A, .int .i64 r_2.B, .int .i64 r_2.C, .int .i64 r_2.D], 4⟩, ⟨some ⟨b1, 0, none⟩, 44, [.int .i64 0, .int .i64 0, .int .i64 0, .int .i64 0, .int .i64 0], 5⟩] [] := hS6
    refine rw_nil ?_
    refine cw_region ?_
    refine sq 13 rfl rfl (Y_move (v := .int .i64 exp1) rfl (hf.get 1 0 rfl)) ?_
    refine sq 14 rfl rfl (Y_sub (k := .i64) (a := exp1) (b := 1) rfl rfl rfl) ?_
    refine sq 1 rfl rfl (Y_assign (v := .int .i64 (IntKind.i64.wrap (exp1 - 1))) rfl rfl) ?_
    refine rw_nil ?_
    obtain rfl := some_inj hF2
    exact ⟨k_1, Nat.lt_succ_self _, (IntKind.i64.wrap (exp1 - 1)), r_2.A, r_2.B, r_2.C, r_2.D, (FF.cons rfl (FF.cons (hf.get 2 1 rfl) (FF.cons (hf.get 4 2 rfl) FF.nil))), (hS6.sel [0, 1] rfl rfl), hL1⟩
  · skip
    have hF3 := cf' hb hb1
    refine cw_exit rfl ?_
    obtain rfl := some_inj hF3
    obtain rfl := some_inj hL1
    refine cw_seq ?_
    refine cw_region ?_
    refine sq 15 rfl rfl (Y_loadA (B := some ⟨b, 0, none⟩) (i := 0) (cs := [.int .i64 A, .int .i64 B, .int .i64 C, .int .i64 D]) (vs := [.int .i64 A, .int .i64 B, .int .i64 C, .int .i64 D]) k_ag_42 k_sz_42_4 rfl (hf.get 2 1 rfl) (hS4.cf (i := 0) rfl) rfl rfl) ?_
    refine sq 16 rfl rfl (Y_move (v := .int .i64 exp1) rfl (hf.get 1 0 rfl)) ?_
    refine sq 17 rfl rfl (Y_buildS (zs := [.int .i64 0, .int .i64 0, .int .i64 0, .int .i64 0, .int .i64 0]) (vs := [(0, .agg #[.int .i64 A, .int .i64 B, .int .i64 C, .int .i64 D]), (1, .int .i64 exp1)]) (cs := [.int .i64 A, .int .i64 B, .int .i64 C, .int .i64 D, .int .i64 exp1]) k_pl_44 k_zero_44 rfl (mpc rfl (mpc rfl mpn)) rfl) ?_
    refine ss0 rfl rfl (Ys_store (i := 1) (s := 5) (B := some ⟨b1, 0, none⟩) (T' := 44) (v := .agg #[.int .i64 A, .int .i64 B, .int .i64 C, .int .i64 D, .int .i64 exp1]) (vs := [.int .i64 A, .int .i64 B, .int .i64 C, .int .i64 D, .int .i64 exp1]) (k := 0) (cs' := [.int .i64 A, .int .i64 B, .int .i64 C, .int .i64 D, .int .i64 exp1]) hS4 k_sz_44_5 rfl (hf.get 4 2 rfl) rfl rfl rfl rfl rfl (Nat.le_of_ble_eq_true rfl) rfl rfl) ?_
    rintro _ w_5 ⟨rfl, hS7⟩
    have hS7 : ST w0 [] _ [⟨some ⟨b, 0, none⟩, 42, [.int .i64 A, .int .i64 B, .int .i64 C, .int .i64 D], 4⟩, ⟨some ⟨b1, 0, none⟩, 44, [.int .i64 A, .int .i64 B, .int .i64 C, .int .i64 D, .int .i64 exp1], 5⟩] [] := hS7
    refine rw_nil ?_
    refine cw_ret ?_
    obtain rfl := some_inj hF1
    exact ret1 Try.results139 (v1 := .agg #[.int .i64 A, .int .i64 B, .int .i64 C, .int .i64 D, .int .i64 exp1]) (resAt_cellA (B := some ⟨b1, 0, none⟩) (i := 0) (cs := [.int .i64 A, .int .i64 B, .int .i64 C, .int .i64 D, .int .i64 exp1]) (vs := [.int .i64 A, .int .i64 B, .int .i64 C, .int .i64 D, .int .i64 exp1]) (hf.get 4 2 rfl) k_ag_44 k_sz_44_5 (hS7.cf (i := 1) rfl) rfl rfl) ⟨rfl, (ST.subR (R' := []) (hS7.sel [] rfl rfl) (fun _ h => by cases h))⟩

theorem c_spec_l1Cur_ring (c : Tl1Cur) (B : Option Addr) (B1 : Option Addr) (c1 n : Nat) (w0 : World) (hn : c.code.length = n) (hS : ST w0 (bl [⟨B, 87, [.slice B1 n c1, .int .i64 c.at_, .int .u64 c.seed], 3⟩]) w0 [⟨B, 87, [.slice B1 n c1, .int .i64 c.at_, .int .u64 c.seed], 3⟩] [⟨B1, (c.code.flatMap enc_u8)⟩]) {r_ : TRing} {m : Tl1Cur} (hF : F_spec_l1Cur_ring c = some (r_, m)) :
    CV Try.prog 140 #[pt B 0] w0 (fun v w' => v = .agg #[.int .i64 r_.A, .int .i64 r_.B, .int .i64 r_.C, .int .i64 r_.D] ∧ ST w0 (bl [⟨B, 87, [.slice B1 n c1, .int .i64 c.at_, .int .u64 c.seed], 3⟩]) w' [⟨B, 87, [.slice B1 n c1, .int .i64 m.at_, .int .u64 m.seed], 3⟩] []) := by
  subst hn
  unfold F_spec_l1Cur_ring at hF
  refine cv_of_cw 16 Try.func140 rfl Try.ntmps140 rfl ?_
  refine cw_seq ?_
  refine cw_region ?_
  refine ss 2 rfl rfl (Ys_alloc (T := 42) (cs := [.int .i64 0, .int .i64 0, .int .i64 0, .int .i64 0]) (m := 4) hS k_zero_42 rfl rfl rfl) ?_
  rintro _ w_ ⟨b, rfl, hS1⟩
  have hS1 : ST w0 (bl [⟨B, 87, [.slice B1 c.code.length c1, .int .i64 c.at_, .int .u64 c.seed], 3⟩]) _ [⟨B, 87, [.slice B1 c.code.length c1, .int .i64 c.at_, .int .u64 c.seed], 3⟩, ⟨some ⟨b, 0, none⟩, 42, [.int .i64 0, .int .i64 0, .int .i64 0, .int .i64 0], 4⟩] [⟨B1, (c.code.flatMap enc_u8)⟩] := hS1
  refine rw_nil ?_
  refine cw_seq ?_
  refine cw_region ?_
  refine sq 3 rfl rfl (Y_move (v := pt B 0) rfl rfl) ?_
  obtain ⟨⟨r_1, m1⟩, hc, hF⟩ := bind_inv hF
  refine sc 4 rfl rfl (Yc_func (g := 69) (vs := [pt B 0, .int .i64 9]) k_call_69 rfl (mc rfl (mc rfl mn)) (c_spec_l1Cur_pick c 9 B B1 c1 c.code.length _ rfl (hS1.inn [true, false] rfl [(true, 0)] rfl) hc)) ?_
  rintro _ w_1 ⟨rfl, hd⟩
  have hS2 := hS1.out [true, false] rfl hd
  have hS2 : ST w0 (bl [⟨B, 87, [.slice B1 c.code.length c1, .int .i64 c.at_, .int .u64 c.seed], 3⟩]) _ [⟨some ⟨b, 0, none⟩, 42, [.int .i64 0, .int .i64 0, .int .i64 0, .int .i64 0], 4⟩, ⟨B, 87, [.slice B1 c.code.length c1, .int .i64 m1.at_, .int .u64 m1.seed], 3⟩] [⟨B1, (c.code.flatMap enc_u8)⟩] := hS2
  refine sq 5 rfl rfl (Y_sub (k := .i64) (a := r_1) (b := 4) rfl rfl rfl) ?_
  refine sq 6 rfl rfl (Y_move (v := pt B 0) rfl rfl) ?_
  obtain ⟨⟨r_2, m2⟩, hc1, hF⟩ := bind_inv hF
  refine sc 7 rfl rfl (Yc_func (g := 69) (vs := [pt B 0, .int .i64 9]) k_call_69 rfl (mc rfl (mc rfl mn)) (c_spec_l1Cur_pick (Tl1Cur.mk c.code m1.at_ m1.seed) 9 B B1 c1 c.code.length _ rfl (hS2.inn [false, true] rfl [(true, 0)] rfl) hc1)) ?_
  rintro _ w_2 ⟨rfl, hd1⟩
  have hS3 := hS2.out [false, true] rfl hd1
  have hS3 : ST w0 (bl [⟨B, 87, [.slice B1 c.code.length c1, .int .i64 c.at_, .int .u64 c.seed], 3⟩]) _ [⟨some ⟨b, 0, none⟩, 42, [.int .i64 0, .int .i64 0, .int .i64 0, .int .i64 0], 4⟩, ⟨B, 87, [.slice B1 c.code.length c1, .int .i64 m2.at_, .int .u64 m2.seed], 3⟩] [⟨B1, (c.code.flatMap enc_u8)⟩] := hS3
  refine sq 8 rfl rfl (Y_sub (k := .i64) (a := r_2) (b := 4) rfl rfl rfl) ?_
  refine sq 9 rfl rfl (Y_move (v := pt B 0) rfl rfl) ?_
  obtain ⟨⟨r_3, m3⟩, hc2, hF⟩ := bind_inv hF
  refine sc 10 rfl rfl (Yc_func (g := 69) (vs := [pt B 0, .int .i64 9]) k_call_69 rfl (mc rfl (mc rfl mn)) (c_spec_l1Cur_pick (Tl1Cur.mk c.code m2.at_ m2.seed) 9 B B1 c1 c.code.length _ rfl (hS3.inn [false, true] rfl [(true, 0)] rfl) hc2)) ?_
  rintro _ w_3 ⟨rfl, hd2⟩
  have hS4 := hS3.out [false, true] rfl hd2
  have hS4 : ST w0 (bl [⟨B, 87, [.slice B1 c.code.length c1, .int .i64 c.at_, .int .u64 c.seed], 3⟩]) _ [⟨some ⟨b, 0, none⟩, 42, [.int .i64 0, .int .i64 0, .int .i64 0, .int .i64 0], 4⟩, ⟨B, 87, [.slice B1 c.code.length c1, .int .i64 m3.at_, .int .u64 m3.seed], 3⟩] [⟨B1, (c.code.flatMap enc_u8)⟩] := hS4
  refine sq 11 rfl rfl (Y_sub (k := .i64) (a := r_3) (b := 4) rfl rfl rfl) ?_
  refine sq 12 rfl rfl (Y_move (v := pt B 0) rfl rfl) ?_
  obtain ⟨⟨r_4, m4⟩, hc3, hF⟩ := bind_inv hF
  refine sc 13 rfl rfl (Yc_func (g := 69) (vs := [pt B 0, .int .i64 9]) k_call_69 rfl (mc rfl (mc rfl mn)) (c_spec_l1Cur_pick (Tl1Cur.mk c.code m3.at_ m3.seed) 9 B B1 c1 c.code.length _ rfl (hS4.inn [false, true] rfl [(true, 0)] rfl) hc3)) ?_
  rintro _ w_4 ⟨rfl, hd3⟩
  have hS5 := hS4.out [false, true] rfl hd3
  have hS5 : ST w0 (bl [⟨B, 87, [.slice B1 c.code.length c1, .int .i64 c.at_, .int .u64 c.seed], 3⟩]) _ [⟨some ⟨b, 0, none⟩, 42, [.int .i64 0, .int .i64 0, .int .i64 0, .int .i64 0], 4⟩, ⟨B, 87, [.slice B1 c.code.length c1, .int .i64 m4.at_, .int .u64 m4.seed], 3⟩] [⟨B1, (c.code.flatMap enc_u8)⟩] := hS5
  refine sq 14 rfl rfl (Y_sub (k := .i64) (a := r_4) (b := 4) rfl rfl rfl) ?_
  refine sq 15 rfl rfl (Y_buildS (zs := [.int .i64 0, .int .i64 0, .int .i64 0, .int .i64 0]) (vs := [(0, .int .i64 (IntKind.i64.wrap (r_1 - 4))), (1, .int .i64 (IntKind.i64.wrap (r_2 - 4))), (2, .int .i64 (IntKind.i64.wrap (r_3 - 4))), (3, .int .i64 (IntKind.i64.wrap (r_4 - 4)))]) (cs := [.int .i64 (IntKind.i64.wrap (r_1 - 4)), .int .i64 (IntKind.i64.wrap (r_2 - 4)), .int .i64 (IntKind.i64.wrap (r_3 - 4)), .int .i64 (IntKind.i64.wrap (r_4 - 4))]) k_pl_42 k_zero_42 rfl (mpc rfl (mpc rfl (mpc rfl (mpc rfl mpn)))) rfl) ?_
  refine ss0 rfl rfl (Ys_store (i := 0) (s := 4) (B := some ⟨b, 0, none⟩) (T' := 42) (v := .agg #[.int .i64 (IntKind.i64.wrap (r_1 - 4)), .int .i64 (IntKind.i64.wrap (r_2 - 4)), .int .i64 (IntKind.i64.wrap (r_3 - 4)), .int .i64 (IntKind.i64.wrap (r_4 - 4))]) (vs := [.int .i64 (IntKind.i64.wrap (r_1 - 4)), .int .i64 (IntKind.i64.wrap (r_2 - 4)), .int .i64 (IntKind.i64.wrap (r_3 - 4)), .int .i64 (IntKind.i64.wrap (r_4 - 4))]) (k := 0) (cs' := [.int .i64 (IntKind.i64.wrap (r_1 - 4)), .int .i64 (IntKind.i64.wrap (r_2 - 4)), .int .i64 (IntKind.i64.wrap (r_3 - 4)), .int .i64 (IntKind.i64.wrap (r_4 - 4))]) hS5 k_sz_42_4 rfl rfl rfl rfl rfl rfl rfl (Nat.le_of_ble_eq_true rfl) rfl rfl) ?_
  rintro _ w_5 ⟨rfl, hS6⟩
  have hS6 : ST w0 (bl [⟨B, 87, [.slice B1 c.code.length c1, .int .i64 c.at_, .int .u64 c.seed], 3⟩]) _ [⟨some ⟨b, 0, none⟩, 42, [.int .i64 (IntKind.i64.wrap (r_1 - 4)), .int .i64 (IntKind.i64.wrap (r_2 - 4)), .int .i64 (IntKind.i64.wrap (r_3 - 4)), .int .i64 (IntKind.i64.wrap (r_4 - 4))], 4⟩, ⟨B, 87, [.slice B1 c.code.length c1, .int .i64 m4.at_, .int .u64 m4.seed], 3⟩] [⟨B1, (c.code.flatMap enc_u8)⟩] := hS6
  refine rw_nil ?_
  refine cw_ret ?_
  obtain ⟨rfl, rfl⟩ := pr2 (some_inj hF)
  exact ret1 Try.results140 (v1 := .agg #[.int .i64 (IntKind.i64.wrap (r_1 - 4)), .int .i64 (IntKind.i64.wrap (r_2 - 4)), .int .i64 (IntKind.i64.wrap (r_3 - 4)), .int .i64 (IntKind.i64.wrap (r_4 - 4))]) (resAt_cellA (B := some ⟨b, 0, none⟩) (i := 0) (cs := [.int .i64 (IntKind.i64.wrap (r_1 - 4)), .int .i64 (IntKind.i64.wrap (r_2 - 4)), .int .i64 (IntKind.i64.wrap (r_3 - 4)), .int .i64 (IntKind.i64.wrap (r_4 - 4))]) (vs := [.int .i64 (IntKind.i64.wrap (r_1 - 4)), .int .i64 (IntKind.i64.wrap (r_2 - 4)), .int .i64 (IntKind.i64.wrap (r_3 - 4)), .int .i64 (IntKind.i64.wrap (r_4 - 4))]) rfl k_ag_42 k_sz_42_4 (hS6.cf (i := 0) rfl) rfl rfl) ⟨rfl, (ST.subR (R' := []) (hS6.sel [1] rfl rfl) (fun _ h => by cases h))⟩

theorem c_spec_l1Cur_dyadic (c : Tl1Cur) (B : Option Addr) (B1 : Option Addr) (c1 n : Nat) (w0 : World) (hn : c.code.length = n) (hS : ST w0 (bl [⟨B, 87, [.slice B1 n c1, .int .i64 c.at_, .int .u64 c.seed], 3⟩]) w0 [⟨B, 87, [.slice B1 n c1, .int .i64 c.at_, .int .u64 c.seed], 3⟩] [⟨B1, (c.code.flatMap enc_u8)⟩]) {r_ : TDyadic} {m : Tl1Cur} (hF : F_spec_l1Cur_dyadic c = some (r_, m)) :
    CV Try.prog 107 #[pt B 0] w0 (fun v w' => v = .agg #[.int .i64 r_.Num.A, .int .i64 r_.Num.B, .int .i64 r_.Num.C, .int .i64 r_.Num.D, .int .i64 r_.Exp] ∧ ST w0 (bl [⟨B, 87, [.slice B1 n c1, .int .i64 c.at_, .int .u64 c.seed], 3⟩]) w' [⟨B, 87, [.slice B1 n c1, .int .i64 m.at_, .int .u64 m.seed], 3⟩] []) := by
  subst hn
  unfold F_spec_l1Cur_dyadic at hF
  refine cv_of_cw 8 Try.func107 rfl Try.ntmps107 rfl ?_
  refine cw_seq ?_
  refine cw_region ?_
  refine ss 2 rfl rfl (Ys_alloc (T := 44) (cs := [.int .i64 0, .int .i64 0, .int .i64 0, .int .i64 0, .int .i64 0]) (m := 5) hS k_zero_44 rfl rfl rfl) ?_
  rintro _ w_ ⟨b, rfl, hS1⟩
  have hS1 : ST w0 (bl [⟨B, 87, [.slice B1 c.code.length c1, .int .i64 c.at_, .int .u64 c.seed], 3⟩]) _ [⟨B, 87, [.slice B1 c.code.length c1, .int .i64 c.at_, .int .u64 c.seed], 3⟩, ⟨some ⟨b, 0, none⟩, 44, [.int .i64 0, .int .i64 0, .int .i64 0, .int .i64 0, .int .i64 0], 5⟩] [⟨B1, (c.code.flatMap enc_u8)⟩] := hS1
  refine rw_nil ?_
  refine cw_seq ?_
  refine cw_region ?_
  refine sq 3 rfl rfl (Y_move (v := pt B 0) rfl rfl) ?_
  obtain ⟨⟨r_1, m1⟩, hc, hF⟩ := bind_inv hF
  refine sc 4 rfl rfl (Yc_func (g := 140) (vs := [pt B 0]) k_call_140 rfl (mc rfl mn) (c_spec_l1Cur_ring c B B1 c1 c.code.length _ rfl (hS1.inn [true, false] rfl [(true, 0)] rfl) hc)) ?_
  rintro _ w_1 ⟨rfl, hd⟩
  have hS2 := hS1.out [true, false] rfl hd
  have hS2 : ST w0 (bl [⟨B, 87, [.slice B1 c.code.length c1, .int .i64 c.at_, .int .u64 c.seed], 3⟩]) _ [⟨some ⟨b, 0, none⟩, 44, [.int .i64 0, .int .i64 0, .int .i64 0, .int .i64 0, .int .i64 0], 5⟩, ⟨B, 87, [.slice B1 c.code.length c1, .int .i64 m1.at_, .int .u64 m1.seed], 3⟩] [⟨B1, (c.code.flatMap enc_u8)⟩] := hS2
  refine sq 5 rfl rfl (Y_move (v := pt B 0) rfl rfl) ?_
  obtain ⟨⟨r_2, m2⟩, hc1, hF⟩ := bind_inv hF
  refine sc 6 rfl rfl (Yc_func (g := 69) (vs := [pt B 0, .int .i64 5]) k_call_69 rfl (mc rfl (mc rfl mn)) (c_spec_l1Cur_pick (Tl1Cur.mk c.code m1.at_ m1.seed) 5 B B1 c1 c.code.length _ rfl (hS2.inn [false, true] rfl [(true, 0)] rfl) hc1)) ?_
  rintro _ w_2 ⟨rfl, hd1⟩
  have hS3 := hS2.out [false, true] rfl hd1
  have hS3 : ST w0 (bl [⟨B, 87, [.slice B1 c.code.length c1, .int .i64 c.at_, .int .u64 c.seed], 3⟩]) _ [⟨some ⟨b, 0, none⟩, 44, [.int .i64 0, .int .i64 0, .int .i64 0, .int .i64 0, .int .i64 0], 5⟩, ⟨B, 87, [.slice B1 c.code.length c1, .int .i64 m2.at_, .int .u64 m2.seed], 3⟩] [⟨B1, (c.code.flatMap enc_u8)⟩] := hS3
  obtain ⟨r_3, hc2, hF⟩ := bind_inv hF
  refine sc 7 rfl rfl (Yc_func (g := 139) (vs := [.agg #[.int .i64 r_1.A, .int .i64 r_1.B, .int .i64 r_1.C, .int .i64 r_1.D], .int .i64 r_2]) k_call_139 rfl (mc rfl (mc rfl mn)) (c_spec_l2Low r_1 r_2 _  (hS3.inn0 [] rfl) hc2)) ?_
  rintro _ w_3 ⟨rfl, hd2⟩
  have hS4 := hS3.out00 hd2
  have hS4 : ST w0 (bl [⟨B, 87, [.slice B1 c.code.length c1, .int .i64 c.at_, .int .u64 c.seed], 3⟩]) _ [⟨some ⟨b, 0, none⟩, 44, [.int .i64 0, .int .i64 0, .int .i64 0, .int .i64 0, .int .i64 0], 5⟩, ⟨B, 87, [.slice B1 c.code.length c1, .int .i64 m2.at_, .int .u64 m2.seed], 3⟩] [⟨B1, (c.code.flatMap enc_u8)⟩] := hS4
  refine ss0 rfl rfl (Ys_store (i := 0) (s := 5) (B := some ⟨b, 0, none⟩) (T' := 44) (v := .agg #[.int .i64 r_3.Num.A, .int .i64 r_3.Num.B, .int .i64 r_3.Num.C, .int .i64 r_3.Num.D, .int .i64 r_3.Exp]) (vs := [.int .i64 r_3.Num.A, .int .i64 r_3.Num.B, .int .i64 r_3.Num.C, .int .i64 r_3.Num.D, .int .i64 r_3.Exp]) (k := 0) (cs' := [.int .i64 r_3.Num.A, .int .i64 r_3.Num.B, .int .i64 r_3.Num.C, .int .i64 r_3.Num.D, .int .i64 r_3.Exp]) hS4 k_sz_44_5 rfl rfl rfl rfl rfl rfl rfl (Nat.le_of_ble_eq_true rfl) rfl rfl) ?_
  rintro _ w_4 ⟨rfl, hS5⟩
  have hS5 : ST w0 (bl [⟨B, 87, [.slice B1 c.code.length c1, .int .i64 c.at_, .int .u64 c.seed], 3⟩]) _ [⟨some ⟨b, 0, none⟩, 44, [.int .i64 r_3.Num.A, .int .i64 r_3.Num.B, .int .i64 r_3.Num.C, .int .i64 r_3.Num.D, .int .i64 r_3.Exp], 5⟩, ⟨B, 87, [.slice B1 c.code.length c1, .int .i64 m2.at_, .int .u64 m2.seed], 3⟩] [⟨B1, (c.code.flatMap enc_u8)⟩] := hS5
  refine rw_nil ?_
  refine cw_ret ?_
  obtain ⟨rfl, rfl⟩ := pr2 (some_inj hF)
  exact ret1 Try.results107 (v1 := .agg #[.int .i64 r_3.Num.A, .int .i64 r_3.Num.B, .int .i64 r_3.Num.C, .int .i64 r_3.Num.D, .int .i64 r_3.Exp]) (resAt_cellA (B := some ⟨b, 0, none⟩) (i := 0) (cs := [.int .i64 r_3.Num.A, .int .i64 r_3.Num.B, .int .i64 r_3.Num.C, .int .i64 r_3.Num.D, .int .i64 r_3.Exp]) (vs := [.int .i64 r_3.Num.A, .int .i64 r_3.Num.B, .int .i64 r_3.Num.C, .int .i64 r_3.Num.D, .int .i64 r_3.Exp]) rfl k_ag_44 k_sz_44_5 (hS5.cf (i := 0) rfl) rfl rfl) ⟨rfl, (ST.subR (R' := []) (hS5.sel [1] rfl rfl) (fun _ h => by cases h))⟩

theorem c_spec_l1Cur_matrix (c : Tl1Cur) (rows : Int) (cols : Int) (B : Option Addr) (B1 : Option Addr) (c1 n : Nat) (w0 : World) (hn : c.code.length = n) (hS : ST w0 (bl [⟨B, 87, [.slice B1 n c1, .int .i64 c.at_, .int .u64 c.seed], 3⟩]) w0 [⟨B, 87, [.slice B1 n c1, .int .i64 c.at_, .int .u64 c.seed], 3⟩] [⟨B1, (c.code.flatMap enc_u8)⟩]) {r_ : TMatrix} {m : Tl1Cur} (hF : F_spec_l1Cur_matrix c rows cols = some (r_, m)) :
    CV Try.prog 54 #[pt B 0, .int .i64 rows, .int .i64 cols] w0 (fun v w' => ∃ (B2 : Option Addr) (c2 : Nat), v = .agg #[.int .i64 r_.Rows, .int .i64 r_.Cols, .slice B2 r_.Cells.length c2] ∧ ST w0 (bl [⟨B, 87, [.slice B1 n c1, .int .i64 c.at_, .int .u64 c.seed], 3⟩]) w' [⟨B, 87, [.slice B1 n c1, .int .i64 m.at_, .int .u64 m.seed], 3⟩, ⟨B2, 44, (r_.Cells.flatMap enc_Dyadic), c2 * 5⟩] []) := by
  subst hn
  unfold F_spec_l1Cur_matrix at hF
  refine cv_of_cw 27 Try.func54 rfl Try.ntmps54 rfl ?_
  refine cw_seq ?_
  refine cw_region ?_
  refine ss 6 rfl rfl (Ys_alloc (T := 26) (cs := [.int .i64 0, .int .i64 0, .slice none 0 0]) (m := 3) hS k_zero_26 rfl rfl rfl) ?_
  rintro _ w_ ⟨b, rfl, hS1⟩
  have hS1 : ST w0 (bl [⟨B, 87, [.slice B1 c.code.length c1, .int .i64 c.at_, .int .u64 c.seed], 3⟩]) _ [⟨B, 87, [.slice B1 c.code.length c1, .int .i64 c.at_, .int .u64 c.seed], 3⟩, ⟨some ⟨b, 0, none⟩, 26, [.int .i64 0, .int .i64 0, .slice none 0 0], 3⟩] [⟨B1, (c.code.flatMap enc_u8)⟩] := hS1
  refine rw_nil ?_
  refine cw_seq ?_
  refine cw_region ?_
  refine sq 9 rfl rfl (Y_move (v := .int .i64 rows) rfl rfl) ?_
  refine sq 10 rfl rfl (Y_move (v := .int .i64 cols) rfl rfl) ?_
  refine sq 11 rfl rfl (Y_buildS (zs := [.int .i64 0, .int .i64 0, .slice none 0 0]) (vs := [(0, .int .i64 rows), (1, .int .i64 cols)]) (cs := [.int .i64 rows, .int .i64 cols, .slice none 0 0]) k_pl_26 k_zero_26 rfl (mpc rfl (mpc rfl mpn)) rfl) ?_
  refine ss 7 rfl rfl (Ys_alloc (T := 26) (cs := [.int .i64 0, .int .i64 0, .slice none 0 0]) (m := 3) hS1 k_zero_26 rfl rfl rfl) ?_
  rintro _ w_1 ⟨b1, rfl, hS2⟩
  have hS2 : ST w0 (bl [⟨B, 87, [.slice B1 c.code.length c1, .int .i64 c.at_, .int .u64 c.seed], 3⟩]) _ [⟨B, 87, [.slice B1 c.code.length c1, .int .i64 c.at_, .int .u64 c.seed], 3⟩, ⟨some ⟨b, 0, none⟩, 26, [.int .i64 0, .int .i64 0, .slice none 0 0], 3⟩, ⟨some ⟨b1, 0, none⟩, 26, [.int .i64 0, .int .i64 0, .slice none 0 0], 3⟩] [⟨B1, (c.code.flatMap enc_u8)⟩] := hS2
  refine ss0 rfl rfl (Ys_store (i := 2) (s := 3) (B := some ⟨b1, 0, none⟩) (T' := 26) (v := .agg #[.int .i64 rows, .int .i64 cols, .slice none 0 0]) (vs := [.int .i64 rows, .int .i64 cols, .slice none 0 0]) (k := 0) (cs' := [.int .i64 rows, .int .i64 cols, .slice none 0 0]) hS2 k_sz_26_3 rfl rfl rfl rfl rfl rfl rfl (Nat.le_of_ble_eq_true rfl) rfl rfl) ?_
  rintro _ w_2 ⟨rfl, hS3⟩
  have hS3 : ST w0 (bl [⟨B, 87, [.slice B1 c.code.length c1, .int .i64 c.at_, .int .u64 c.seed], 3⟩]) _ [⟨B, 87, [.slice B1 c.code.length c1, .int .i64 c.at_, .int .u64 c.seed], 3⟩, ⟨some ⟨b, 0, none⟩, 26, [.int .i64 0, .int .i64 0, .slice none 0 0], 3⟩, ⟨some ⟨b1, 0, none⟩, 26, [.int .i64 rows, .int .i64 cols, .slice none 0 0], 3⟩] [⟨B1, (c.code.flatMap enc_u8)⟩] := hS3
  refine rw_nil ?_
  refine cw_seq ?_
  refine cw_seq ?_
  refine cw_region ?_
  refine sq 8 rfl rfl (Y_assign (v := .int .i64 0) rfl rfl) ?_
  refine rw_nil ?_
  obtain ⟨hN, hF⟩ := chk_inv hF
  obtain ⟨z, hz, hF1⟩ := bind_inv hF
  have hS5 := hS3.addNil 44
  refine cw_block ?_
  refine cw_loop (fun k f w => ∃ (k_ : Nat) (at_ : Int) (seed : Int) (Cells : List TDyadic) (B3 : Option Addr) (c3 : Nat), FF f [(0, pt B 0), (1, .int .i64 rows), (2, .int .i64 cols), (6, pt (some ⟨b, 0, none⟩) 0), (7, pt (some ⟨b1, 0, none⟩) 0), (8, .int .i64 (k_ : Int))] ∧ ST w0 (bl [⟨B, 87, [.slice B1 c.code.length c1, .int .i64 c.at_, .int .u64 c.seed], 3⟩]) w [⟨B, 87, [.slice B1 c.code.length c1, .int .i64 at_, .int .u64 seed], 3⟩, ⟨some ⟨b, 0, none⟩, 26, [.int .i64 0, .int .i64 0, .slice none 0 0], 3⟩, ⟨some ⟨b1, 0, none⟩, 26, [.int .i64 rows, .int .i64 cols, .slice B3 Cells.length c3], 3⟩, ⟨B3, 44, (Cells.flatMap enc_Dyadic), c3 * 5⟩] [⟨B1, (c.code.flatMap enc_u8)⟩] ∧ k_ + k = (IntKind.i64.wrap (rows * cols)).toNat ∧ forN (F_spec_l1Cur_matrix_l1 c) k k_ (at_, seed, Cells) = some z) ((IntKind.i64.wrap (rows * cols)).toNat) ⟨0, c.at_, c.seed, [], none, 0, (FF.cons rfl (FF.cons rfl (FF.cons rfl (FF.cons rfl (FF.cons rfl (FF.cons rfl FF.nil)))))), (hS5.sel [0, 1, 2, 3] rfl rfl), Nat.zero_add _, hz⟩ ?_
  rintro k_1 f w ⟨k_, at_, seed, Cells, B3, c3, hf, hS4, hik, hL⟩
  refine cw_seq ?_
  refine cw_seq ?_
  refine cw_region ?_
  refine sq 12 rfl rfl (Y_move (v := .int .i64 (k_ : Int)) rfl (hf.get 8 5 rfl)) ?_
  refine sq 13 rfl rfl (Y_move (v := .int .i64 rows) rfl (hf.get 1 1 rfl)) ?_
  refine sq 14 rfl rfl (Y_move (v := .int .i64 cols) rfl (hf.get 2 2 rfl)) ?_
  refine sq 15 rfl rfl (Y_mul (k := .i64) (a := rows) (b := cols) rfl rfl rfl) ?_
  refine sq 16 rfl rfl (Y_lt (k := .i64) (a := (k_ : Int)) (b := (IntKind.i64.wrap (rows * cols))) rfl rfl rfl) ?_
  refine rw_nil ?_
  refine cw_cond (b := (decide ((k_ : Int) < (IntKind.i64.wrap (rows * cols))))) rfl (fun hlt => ?_) (fun hlt => ?_)
  · skip
    have hlt1 : k_ < (IntKind.i64.wrap (rows * cols)).toNat := by have h := of_decide_eq_true hlt; omega
    obtain ⟨k_2, rfl⟩ : ∃ k2, k_1 = k2 + 1 := ⟨k_1 - 1, by omega⟩
    obtain ⟨y, hb, hL1⟩ := forN_go hL
    unfold F_spec_l1Cur_matrix_l1 at hb
    refine cw_skip ?_
    refine cw_seq ?_
    refine cw_block ?_
    obtain ⟨⟨r_1, m1⟩, hc, hb⟩ := bind_inv hb
    obtain ⟨hap, hb⟩ := chk_inv hb
    refine cw_mid (fun f w => ∃ (B5 : Option Addr) (c5 : Nat), FF f [(0, pt B 0), (1, .int .i64 rows), (2, .int .i64 cols), (6, pt (some ⟨b, 0, none⟩) 0), (7, pt (some ⟨b1, 0, none⟩) 0), (8, .int .i64 (k_ : Int))] ∧ ST w0 (bl [⟨B, 87, [.slice B1 c.code.length c1, .int .i64 c.at_, .int .u64 c.seed], 3⟩]) w [⟨B, 87, [.slice B1 c.code.length c1, .int .i64 m1.at_, .int .u64 m1.seed], 3⟩, ⟨some ⟨b, 0, none⟩, 26, [.int .i64 0, .int .i64 0, .slice none 0 0], 3⟩, ⟨some ⟨b1, 0, none⟩, 26, [.int .i64 rows, .int .i64 cols, .slice B5 ((Cells ++ [r_1]).length) c5], 3⟩, ⟨B5, 44, ((Cells ++ [r_1]).flatMap enc_Dyadic), c5 * 5⟩] [⟨B1, (c.code.flatMap enc_u8)⟩]) ?_ ?_
    · skip
      refine ra_start (ST.sel hS4 [1] rfl rfl).fn (by kernel_rfl) ?_
      have hS8 := hS4.drew
      refine ra_q 0 19 (v := pt (some ⟨b1, 0, none⟩) 2) rfl rfl rfl (by kernel_rfl) (by kernel_rfl) (by kernel_rfl) (ST.sel hS8 [1] rfl rfl) (fun w' hw' => (Y_fieldAddr (B := some ⟨b1, 0, none⟩) (i := 0) (s := 0) k_fd_26_2_2_24 k_sz_24_1 rfl (hf.get 7 4 rfl))) ?_
      refine ra_q 2 21 (v := pt B 0) rfl rfl rfl (by kernel_rfl) (by kernel_rfl) (by kernel_rfl) (ST.sel hS8 [1] rfl rfl) (fun w' hw' => (Y_move (v := pt B 0) rfl (hf.get 0 0 rfl))) ?_
      refine ra_all (rs := [1, 3]) (by kernel_rfl) rfl ?_
      refine ra_y 20 (i := 1) (v := .slice B3 Cells.length c3) rfl rfl rfl (Y_load1 (B := some ⟨b1, 0, none⟩) (i := 2) (cs := [.int .i64 rows, .int .i64 cols, .slice B3 Cells.length c3]) (v := .slice B3 Cells.length c3) k_sc_24 rfl rfl (hS8.cf (i := 2) rfl) rfl) (ST.sel hS8 [1] rfl rfl) ?_ ?_
      · skip
        refine ra_all (rs := [3]) (by kernel_rfl) rfl ?_
        refine ra_c 22 (i := 3) rfl rfl rfl (Yc_func (g := 107) (vs := [pt B 0]) k_call_107 rfl (mc rfl mn) (c_spec_l1Cur_dyadic (Tl1Cur.mk c.code at_ seed) B B1 c1 c.code.length _ rfl (hS8.inn [true, false, false, false] rfl [(true, 0)] rfl) hc)) ?_ ?_
        · rintro _ w_3 ⟨rfl, hd⟩
          have hS9 := hS8.out [true, false, false, false] rfl hd
          have hS9 : ST w0 (bl [⟨B, 87, [.slice B1 c.code.length c1, .int .i64 c.at_, .int .u64 c.seed], 3⟩]) _ [⟨some ⟨b, 0, none⟩, 26, [.int .i64 0, .int .i64 0, .slice none 0 0], 3⟩, ⟨some ⟨b1, 0, none⟩, 26, [.int .i64 rows, .int .i64 cols, .slice B3 Cells.length c3], 3⟩, ⟨B3, 44, (Cells.flatMap enc_Dyadic), c3 * 5⟩, ⟨B, 87, [.slice B1 c.code.length c1, .int .i64 m1.at_, .int .u64 m1.seed], 3⟩] [⟨B1, (c.code.flatMap enc_u8)⟩] := hS9
          refine ⟨(ST.sel hS9 [0] rfl rfl), ?_⟩
          refine ra_all (rs := [4]) (by kernel_rfl) rfl ?_
          refine ra_s 23 (i := 4) rfl rfl rfl (Ys_bslice (s := 5) (len := 1) (vs := [(0, .agg #[.int .i64 r_1.Num.A, .int .i64 r_1.Num.B, .int .i64 r_1.Num.C, .int .i64 r_1.Num.D, .int .i64 r_1.Exp])]) (cs := [.int .i64 r_1.Num.A, .int .i64 r_1.Num.B, .int .i64 r_1.Num.C, .int .i64 r_1.Num.D, .int .i64 r_1.Exp]) (zs := [.int .i64 0, .int .i64 0, .int .i64 0, .int .i64 0, .int .i64 0]) (m := 5) hS9 k_sl_24_44 k_sz_44_5 k_zc_44 rfl (mpc rfl mpn) rfl rfl rfl (by kernel_rfl) (by kernel_rfl) rfl) ?_ ?_
          · rintro _ w_4 ⟨b2, rfl, hS10⟩
            have hS10 : ST w0 (bl [⟨B, 87, [.slice B1 c.code.length c1, .int .i64 c.at_, .int .u64 c.seed], 3⟩]) _ [⟨some ⟨b, 0, none⟩, 26, [.int .i64 0, .int .i64 0, .slice none 0 0], 3⟩, ⟨some ⟨b1, 0, none⟩, 26, [.int .i64 rows, .int .i64 cols, .slice B3 Cells.length c3], 3⟩, ⟨B3, 44, (Cells.flatMap enc_Dyadic), c3 * 5⟩, ⟨B, 87, [.slice B1 c.code.length c1, .int .i64 m1.at_, .int .u64 m1.seed], 3⟩, ⟨some ⟨b2, 0, none⟩, 44, ([r_1].flatMap enc_Dyadic), 1 * 5⟩] [⟨B1, (c.code.flatMap enc_u8)⟩] := hS10
            refine ⟨(ST.sel hS10 [0] rfl rfl), ?_⟩
            refine ra_all (rs := [5]) (by kernel_rfl) rfl ?_
            refine ra_s 24 (i := 5) rfl rfl rfl (Ys_append (s := 5) (by' := 40) (i := 2) (nn := Cells.length) (c := c3) (k := 1) (len := (Cells ++ [r_1]).length) (B := B3) (xs := ([r_1].flatMap enc_Dyadic)) (cs' := ((Cells ++ [r_1]).flatMap enc_Dyadic)) hS10 k_sl_24_44 k_sz_44_5 k_by_44_40 k_zero_44 rfl (by decide) rfl rfl rfl rfl (fm_lenn (l := Cells) enc_Dyadic_len rfl) rfl (hS10.cf (i := 4) rfl) (fm_lenn (l := [r_1]) enc_Dyadic_len rfl) (fm_one' (enc := enc_Dyadic) enc_Dyadic_one [r_1]) (by have := hap; omega) (by have := hap; simp only [maxLen]; omega) (fm_app _ _) (app_len (l := Cells) (l' := [r_1]) rfl rfl)) ?_ ?_
            · rintro _ w_5 ⟨B4, c4, rfl, hS11⟩
              have hS11 : ST w0 (bl [⟨B, 87, [.slice B1 c.code.length c1, .int .i64 c.at_, .int .u64 c.seed], 3⟩]) _ [⟨some ⟨b, 0, none⟩, 26, [.int .i64 0, .int .i64 0, .slice none 0 0], 3⟩, ⟨some ⟨b1, 0, none⟩, 26, [.int .i64 rows, .int .i64 cols, .slice B3 Cells.length c3], 3⟩, ⟨B4, 44, ((Cells ++ [r_1]).flatMap enc_Dyadic), c4 * 5⟩, ⟨B, 87, [.slice B1 c.code.length c1, .int .i64 m1.at_, .int .u64 m1.seed], 3⟩, ⟨some ⟨b2, 0, none⟩, 44, ([r_1].flatMap enc_Dyadic), 1 * 5⟩] [⟨B1, (c.code.flatMap enc_u8)⟩] := hS11
              refine ⟨(ST.sel hS11 [0] rfl rfl), ?_⟩
              refine ra_q 6 25 (v := pt (some ⟨b1, 0, none⟩) 2) rfl rfl rfl (by kernel_rfl) (by kernel_rfl) (by kernel_rfl) (ST.sel hS11 [0] rfl rfl) (fun w' hw' => (Y_fieldAddr (B := some ⟨b1, 0, none⟩) (i := 0) (s := 0) k_fd_26_2_2_24 k_sz_24_1 rfl (hf.get 7 4 rfl))) ?_
              refine ra_all (rs := [7]) (by kernel_rfl) rfl ?_
              refine ra_s0 (i := 7) rfl rfl rfl (Ys_store (i := 1) (s := 1) (B := some ⟨b1, 0, none⟩) (T' := 26) (v := .slice B4 ((Cells ++ [r_1]).length) c4) (vs := [.slice B4 ((Cells ++ [r_1]).length) c4]) (k := 2) (cs' := [.int .i64 rows, .int .i64 cols, .slice B4 ((Cells ++ [r_1]).length) c4]) hS11 k_sz_24_1 rfl rfl rfl rfl rfl rfl rfl (Nat.le_of_ble_eq_true rfl) rfl rfl) ?_ ?_
              · rintro _ w_6 ⟨rfl, hS12⟩
                have hS12 : ST w0 (bl [⟨B, 87, [.slice B1 c.code.length c1, .int .i64 c.at_, .int .u64 c.seed], 3⟩]) _ [⟨some ⟨b, 0, none⟩, 26, [.int .i64 0, .int .i64 0, .slice none 0 0], 3⟩, ⟨some ⟨b1, 0, none⟩, 26, [.int .i64 rows, .int .i64 cols, .slice B4 ((Cells ++ [r_1]).length) c4], 3⟩, ⟨B4, 44, ((Cells ++ [r_1]).flatMap enc_Dyadic), c4 * 5⟩, ⟨B, 87, [.slice B1 c.code.length c1, .int .i64 m1.at_, .int .u64 m1.seed], 3⟩, ⟨some ⟨b2, 0, none⟩, 44, ([r_1].flatMap enc_Dyadic), 1 * 5⟩] [⟨B1, (c.code.flatMap enc_u8)⟩] := hS12
                refine ⟨(ST.sel hS12 [0] rfl rfl), ?_⟩
                refine ra_done (by kernel_rfl) ?_
                exact ⟨B4, c4, (FF.cons (hf.get 0 0 rfl) (FF.cons (hf.get 1 1 rfl) (FF.cons (hf.get 2 2 rfl) (FF.cons (hf.get 6 3 rfl) (FF.cons (hf.get 7 4 rfl) (FF.cons (hf.get 8 5 rfl) FF.nil)))))), (hS12.sel [3, 0, 1, 2] rfl rfl)⟩
              exact allR_nil
            exact allR_nil
          exact allR_nil
        exact allR_nil
      refine ra_c 22 (i := 3) rfl rfl rfl (Yc_func (g := 107) (vs := [pt B 0]) k_call_107 rfl (mc rfl mn) (c_spec_l1Cur_dyadic (Tl1Cur.mk c.code at_ seed) B B1 c1 c.code.length _ rfl (hS8.inn [true, false, false, false] rfl [(true, 0)] rfl) hc)) ?_ ?_
      · rintro _ w_7 ⟨rfl, hd1⟩
        have hS13 := hS8.out [true, false, false, false] rfl hd1
        have hS13 : ST w0 (bl [⟨B, 87, [.slice B1 c.code.length c1, .int .i64 c.at_, .int .u64 c.seed], 3⟩]) _ [⟨some ⟨b, 0, none⟩, 26, [.int .i64 0, .int .i64 0, .slice none 0 0], 3⟩, ⟨some ⟨b1, 0, none⟩, 26, [.int .i64 rows, .int .i64 cols, .slice B3 Cells.length c3], 3⟩, ⟨B3, 44, (Cells.flatMap enc_Dyadic), c3 * 5⟩, ⟨B, 87, [.slice B1 c.code.length c1, .int .i64 m1.at_, .int .u64 m1.seed], 3⟩] [⟨B1, (c.code.flatMap enc_u8)⟩] := hS13
        refine ⟨(ST.sel hS13 [0] rfl rfl), ?_⟩
        refine ra_all (rs := [1, 4]) (by kernel_rfl) rfl ?_
        refine ra_y 20 (i := 1) (v := .slice B3 Cells.length c3) rfl rfl rfl (Y_load1 (B := some ⟨b1, 0, none⟩) (i := 2) (cs := [.int .i64 rows, .int .i64 cols, .slice B3 Cells.length c3]) (v := .slice B3 Cells.length c3) k_sc_24 rfl rfl (hS13.cf (i := 1) rfl) rfl) (ST.sel hS13 [0] rfl rfl) ?_ ?_
        · skip
          refine ra_all (rs := [4]) (by kernel_rfl) rfl ?_
          refine ra_s 23 (i := 4) rfl rfl rfl (Ys_bslice (s := 5) (len := 1) (vs := [(0, .agg #[.int .i64 r_1.Num.A, .int .i64 r_1.Num.B, .int .i64 r_1.Num.C, .int .i64 r_1.Num.D, .int .i64 r_1.Exp])]) (cs := [.int .i64 r_1.Num.A, .int .i64 r_1.Num.B, .int .i64 r_1.Num.C, .int .i64 r_1.Num.D, .int .i64 r_1.Exp]) (zs := [.int .i64 0, .int .i64 0, .int .i64 0, .int .i64 0, .int .i64 0]) (m := 5) hS13 k_sl_24_44 k_sz_44_5 k_zc_44 rfl (mpc rfl mpn) rfl rfl rfl (by kernel_rfl) (by kernel_rfl) rfl) ?_ ?_
          · rintro _ w_8 ⟨b2, rfl, hS14⟩
            have hS14 : ST w0 (bl [⟨B, 87, [.slice B1 c.code.length c1, .int .i64 c.at_, .int .u64 c.seed], 3⟩]) _ [⟨some ⟨b, 0, none⟩, 26, [.int .i64 0, .int .i64 0, .slice none 0 0], 3⟩, ⟨some ⟨b1, 0, none⟩, 26, [.int .i64 rows, .int .i64 cols, .slice B3 Cells.length c3], 3⟩, ⟨B3, 44, (Cells.flatMap enc_Dyadic), c3 * 5⟩, ⟨B, 87, [.slice B1 c.code.length c1, .int .i64 m1.at_, .int .u64 m1.seed], 3⟩, ⟨some ⟨b2, 0, none⟩, 44, ([r_1].flatMap enc_Dyadic), 1 * 5⟩] [⟨B1, (c.code.flatMap enc_u8)⟩] := hS14
            refine ⟨(ST.sel hS14 [0] rfl rfl), ?_⟩
            refine ra_all (rs := [5]) (by kernel_rfl) rfl ?_
            refine ra_s 24 (i := 5) rfl rfl rfl (Ys_append (s := 5) (by' := 40) (i := 2) (nn := Cells.length) (c := c3) (k := 1) (len := (Cells ++ [r_1]).length) (B := B3) (xs := ([r_1].flatMap enc_Dyadic)) (cs' := ((Cells ++ [r_1]).flatMap enc_Dyadic)) hS14 k_sl_24_44 k_sz_44_5 k_by_44_40 k_zero_44 rfl (by decide) rfl rfl rfl rfl (fm_lenn (l := Cells) enc_Dyadic_len rfl) rfl (hS14.cf (i := 4) rfl) (fm_lenn (l := [r_1]) enc_Dyadic_len rfl) (fm_one' (enc := enc_Dyadic) enc_Dyadic_one [r_1]) (by have := hap; omega) (by have := hap; simp only [maxLen]; omega) (fm_app _ _) (app_len (l := Cells) (l' := [r_1]) rfl rfl)) ?_ ?_
            · rintro _ w_9 ⟨B4, c4, rfl, hS15⟩
              have hS15 : ST w0 (bl [⟨B, 87, [.slice B1 c.code.length c1, .int .i64 c.at_, .int .u64 c.seed], 3⟩]) _ [⟨some ⟨b, 0, none⟩, 26, [.int .i64 0, .int .i64 0, .slice none 0 0], 3⟩, ⟨some ⟨b1, 0, none⟩, 26, [.int .i64 rows, .int .i64 cols, .slice B3 Cells.length c3], 3⟩, ⟨B4, 44, ((Cells ++ [r_1]).flatMap enc_Dyadic), c4 * 5⟩, ⟨B, 87, [.slice B1 c.code.length c1, .int .i64 m1.at_, .int .u64 m1.seed], 3⟩, ⟨some ⟨b2, 0, none⟩, 44, ([r_1].flatMap enc_Dyadic), 1 * 5⟩] [⟨B1, (c.code.flatMap enc_u8)⟩] := hS15
              refine ⟨(ST.sel hS15 [0] rfl rfl), ?_⟩
              refine ra_q 6 25 (v := pt (some ⟨b1, 0, none⟩) 2) rfl rfl rfl (by kernel_rfl) (by kernel_rfl) (by kernel_rfl) (ST.sel hS15 [0] rfl rfl) (fun w' hw' => (Y_fieldAddr (B := some ⟨b1, 0, none⟩) (i := 0) (s := 0) k_fd_26_2_2_24 k_sz_24_1 rfl (hf.get 7 4 rfl))) ?_
              refine ra_all (rs := [7]) (by kernel_rfl) rfl ?_
              refine ra_s0 (i := 7) rfl rfl rfl (Ys_store (i := 1) (s := 1) (B := some ⟨b1, 0, none⟩) (T' := 26) (v := .slice B4 ((Cells ++ [r_1]).length) c4) (vs := [.slice B4 ((Cells ++ [r_1]).length) c4]) (k := 2) (cs' := [.int .i64 rows, .int .i64 cols, .slice B4 ((Cells ++ [r_1]).length) c4]) hS15 k_sz_24_1 rfl rfl rfl rfl rfl rfl rfl (Nat.le_of_ble_eq_true rfl) rfl rfl) ?_ ?_
              · rintro _ w_10 ⟨rfl, hS16⟩
                have hS16 : ST w0 (bl [⟨B, 87, [.slice B1 c.code.length c1, .int .i64 c.at_, .int .u64 c.seed], 3⟩]) _ [⟨some ⟨b, 0, none⟩, 26, [.int .i64 0, .int .i64 0, .slice none 0 0], 3⟩, ⟨some ⟨b1, 0, none⟩, 26, [.int .i64 rows, .int .i64 cols, .slice B4 ((Cells ++ [r_1]).length) c4], 3⟩, ⟨B4, 44, ((Cells ++ [r_1]).flatMap enc_Dyadic), c4 * 5⟩, ⟨B, 87, [.slice B1 c.code.length c1, .int .i64 m1.at_, .int .u64 m1.seed], 3⟩, ⟨some ⟨b2, 0, none⟩, 44, ([r_1].flatMap enc_Dyadic), 1 * 5⟩] [⟨B1, (c.code.flatMap enc_u8)⟩] := hS16
                refine ⟨(ST.sel hS16 [0] rfl rfl), ?_⟩
                refine ra_done (by kernel_rfl) ?_
                exact ⟨B4, c4, (FF.cons (hf.get 0 0 rfl) (FF.cons (hf.get 1 1 rfl) (FF.cons (hf.get 2 2 rfl) (FF.cons (hf.get 6 3 rfl) (FF.cons (hf.get 7 4 rfl) (FF.cons (hf.get 8 5 rfl) FF.nil)))))), (hS16.sel [3, 0, 1, 2] rfl rfl)⟩
              exact allR_nil
            exact allR_nil
          exact allR_nil
        refine ra_s 23 (i := 4) rfl rfl rfl (Ys_bslice (s := 5) (len := 1) (vs := [(0, .agg #[.int .i64 r_1.Num.A, .int .i64 r_1.Num.B, .int .i64 r_1.Num.C, .int .i64 r_1.Num.D, .int .i64 r_1.Exp])]) (cs := [.int .i64 r_1.Num.A, .int .i64 r_1.Num.B, .int .i64 r_1.Num.C, .int .i64 r_1.Num.D, .int .i64 r_1.Exp]) (zs := [.int .i64 0, .int .i64 0, .int .i64 0, .int .i64 0, .int .i64 0]) (m := 5) hS13 k_sl_24_44 k_sz_44_5 k_zc_44 rfl (mpc rfl mpn) rfl rfl rfl (by kernel_rfl) (by kernel_rfl) rfl) ?_ ?_
        · rintro _ w_11 ⟨b2, rfl, hS17⟩
          have hS17 : ST w0 (bl [⟨B, 87, [.slice B1 c.code.length c1, .int .i64 c.at_, .int .u64 c.seed], 3⟩]) _ [⟨some ⟨b, 0, none⟩, 26, [.int .i64 0, .int .i64 0, .slice none 0 0], 3⟩, ⟨some ⟨b1, 0, none⟩, 26, [.int .i64 rows, .int .i64 cols, .slice B3 Cells.length c3], 3⟩, ⟨B3, 44, (Cells.flatMap enc_Dyadic), c3 * 5⟩, ⟨B, 87, [.slice B1 c.code.length c1, .int .i64 m1.at_, .int .u64 m1.seed], 3⟩, ⟨some ⟨b2, 0, none⟩, 44, ([r_1].flatMap enc_Dyadic), 1 * 5⟩] [⟨B1, (c.code.flatMap enc_u8)⟩] := hS17
          refine ⟨(ST.sel hS17 [0] rfl rfl), ?_⟩
          refine ra_all (rs := [1]) (by kernel_rfl) rfl ?_
          refine ra_y 20 (i := 1) (v := .slice B3 Cells.length c3) rfl rfl rfl (Y_load1 (B := some ⟨b1, 0, none⟩) (i := 2) (cs := [.int .i64 rows, .int .i64 cols, .slice B3 Cells.length c3]) (v := .slice B3 Cells.length c3) k_sc_24 rfl rfl (hS17.cf (i := 1) rfl) rfl) (ST.sel hS17 [0] rfl rfl) ?_ ?_
          · skip
            refine ra_all (rs := [5]) (by kernel_rfl) rfl ?_
            refine ra_s 24 (i := 5) rfl rfl rfl (Ys_append (s := 5) (by' := 40) (i := 2) (nn := Cells.length) (c := c3) (k := 1) (len := (Cells ++ [r_1]).length) (B := B3) (xs := ([r_1].flatMap enc_Dyadic)) (cs' := ((Cells ++ [r_1]).flatMap enc_Dyadic)) hS17 k_sl_24_44 k_sz_44_5 k_by_44_40 k_zero_44 rfl (by decide) rfl rfl rfl rfl (fm_lenn (l := Cells) enc_Dyadic_len rfl) rfl (hS17.cf (i := 4) rfl) (fm_lenn (l := [r_1]) enc_Dyadic_len rfl) (fm_one' (enc := enc_Dyadic) enc_Dyadic_one [r_1]) (by have := hap; omega) (by have := hap; simp only [maxLen]; omega) (fm_app _ _) (app_len (l := Cells) (l' := [r_1]) rfl rfl)) ?_ ?_
            · rintro _ w_12 ⟨B4, c4, rfl, hS18⟩
              have hS18 : ST w0 (bl [⟨B, 87, [.slice B1 c.code.length c1, .int .i64 c.at_, .int .u64 c.seed], 3⟩]) _ [⟨some ⟨b, 0, none⟩, 26, [.int .i64 0, .int .i64 0, .slice none 0 0], 3⟩, ⟨some ⟨b1, 0, none⟩, 26, [.int .i64 rows, .int .i64 cols, .slice B3 Cells.length c3], 3⟩, ⟨B4, 44, ((Cells ++ [r_1]).flatMap enc_Dyadic), c4 * 5⟩, ⟨B, 87, [.slice B1 c.code.length c1, .int .i64 m1.at_, .int .u64 m1.seed], 3⟩, ⟨some ⟨b2, 0, none⟩, 44, ([r_1].flatMap enc_Dyadic), 1 * 5⟩] [⟨B1, (c.code.flatMap enc_u8)⟩] := hS18
              refine ⟨(ST.sel hS18 [0] rfl rfl), ?_⟩
              refine ra_q 6 25 (v := pt (some ⟨b1, 0, none⟩) 2) rfl rfl rfl (by kernel_rfl) (by kernel_rfl) (by kernel_rfl) (ST.sel hS18 [0] rfl rfl) (fun w' hw' => (Y_fieldAddr (B := some ⟨b1, 0, none⟩) (i := 0) (s := 0) k_fd_26_2_2_24 k_sz_24_1 rfl (hf.get 7 4 rfl))) ?_
              refine ra_all (rs := [7]) (by kernel_rfl) rfl ?_
              refine ra_s0 (i := 7) rfl rfl rfl (Ys_store (i := 1) (s := 1) (B := some ⟨b1, 0, none⟩) (T' := 26) (v := .slice B4 ((Cells ++ [r_1]).length) c4) (vs := [.slice B4 ((Cells ++ [r_1]).length) c4]) (k := 2) (cs' := [.int .i64 rows, .int .i64 cols, .slice B4 ((Cells ++ [r_1]).length) c4]) hS18 k_sz_24_1 rfl rfl rfl rfl rfl rfl rfl (Nat.le_of_ble_eq_true rfl) rfl rfl) ?_ ?_
              · rintro _ w_13 ⟨rfl, hS19⟩
                have hS19 : ST w0 (bl [⟨B, 87, [.slice B1 c.code.length c1, .int .i64 c.at_, .int .u64 c.seed], 3⟩]) _ [⟨some ⟨b, 0, none⟩, 26, [.int .i64 0, .int .i64 0, .slice none 0 0], 3⟩, ⟨some ⟨b1, 0, none⟩, 26, [.int .i64 rows, .int .i64 cols, .slice B4 ((Cells ++ [r_1]).length) c4], 3⟩, ⟨B4, 44, ((Cells ++ [r_1]).flatMap enc_Dyadic), c4 * 5⟩, ⟨B, 87, [.slice B1 c.code.length c1, .int .i64 m1.at_, .int .u64 m1.seed], 3⟩, ⟨some ⟨b2, 0, none⟩, 44, ([r_1].flatMap enc_Dyadic), 1 * 5⟩] [⟨B1, (c.code.flatMap enc_u8)⟩] := hS19
                refine ⟨(ST.sel hS19 [0] rfl rfl), ?_⟩
                refine ra_done (by kernel_rfl) ?_
                exact ⟨B4, c4, (FF.cons (hf.get 0 0 rfl) (FF.cons (hf.get 1 1 rfl) (FF.cons (hf.get 2 2 rfl) (FF.cons (hf.get 6 3 rfl) (FF.cons (hf.get 7 4 rfl) (FF.cons (hf.get 8 5 rfl) FF.nil)))))), (hS19.sel [3, 0, 1, 2] rfl rfl)⟩
              exact allR_nil
            exact allR_nil
          exact allR_nil
        exact allR_nil
      exact allR_nil
    rintro f w ⟨B5, c5, hf1, hS7⟩
    refine cw_region ?_
    refine sq 17 rfl rfl (Y_move (v := .int .i64 (k_ : Int)) rfl (hf1.get 8 5 rfl)) ?_
    refine sq 18 rfl rfl (Y_add (k := .i64) (a := (k_ : Int)) (b := 1) rfl rfl rfl) ?_
    refine sq 8 rfl rfl (Y_assign (v := .int .i64 (IntKind.i64.wrap ((k_ : Int) + 1))) rfl rfl) ?_
    refine rw_nil ?_
    obtain rfl := some_inj hb
    exact ⟨k_2, Nat.lt_succ_self _, k_ + 1, m1.at_, m1.seed, (Cells ++ [r_1]), B5, c5, (FF.cons (hf1.get 0 0 rfl) (FF.cons (hf1.get 1 1 rfl) (FF.cons (hf1.get 2 2 rfl) (FF.cons (hf1.get 6 3 rfl) (FF.cons (hf1.get 7 4 rfl) (FF.cons (congrArg (Value.int .i64) (wr_succ hlt1 hN)) FF.nil)))))), (hS7.sel [0, 1, 2, 3] rfl rfl), (by omega), hL1⟩
  · skip
    obtain rfl : k_1 = 0 := by have h := of_decide_eq_false hlt; omega
    refine cw_exit rfl ?_
    obtain rfl := some_inj hL
    refine cw_seq ?_
    refine cw_region ?_
    refine sq 26 rfl rfl (Y_loadA (B := some ⟨b1, 0, none⟩) (i := 0) (cs := [.int .i64 rows, .int .i64 cols, .slice B3 Cells.length c3]) (vs := [.int .i64 rows, .int .i64 cols, .slice B3 Cells.length c3]) k_ag_26 k_sz_26_3 rfl (hf.get 7 4 rfl) (hS4.cf (i := 2) rfl) rfl rfl) ?_
    refine ss0 rfl rfl (Ys_store (i := 1) (s := 3) (B := some ⟨b, 0, none⟩) (T' := 26) (v := .agg #[.int .i64 rows, .int .i64 cols, .slice B3 Cells.length c3]) (vs := [.int .i64 rows, .int .i64 cols, .slice B3 Cells.length c3]) (k := 0) (cs' := [.int .i64 rows, .int .i64 cols, .slice B3 Cells.length c3]) hS4 k_sz_26_3 rfl (hf.get 6 3 rfl) rfl rfl rfl rfl rfl (Nat.le_of_ble_eq_true rfl) rfl rfl) ?_
    rintro _ w_14 ⟨rfl, hS20⟩
    have hS20 : ST w0 (bl [⟨B, 87, [.slice B1 c.code.length c1, .int .i64 c.at_, .int .u64 c.seed], 3⟩]) _ [⟨B, 87, [.slice B1 c.code.length c1, .int .i64 at_, .int .u64 seed], 3⟩, ⟨some ⟨b, 0, none⟩, 26, [.int .i64 rows, .int .i64 cols, .slice B3 Cells.length c3], 3⟩, ⟨some ⟨b1, 0, none⟩, 26, [.int .i64 rows, .int .i64 cols, .slice B3 Cells.length c3], 3⟩, ⟨B3, 44, (Cells.flatMap enc_Dyadic), c3 * 5⟩] [⟨B1, (c.code.flatMap enc_u8)⟩] := hS20
    refine rw_nil ?_
    refine cw_ret ?_
    obtain ⟨rfl, rfl⟩ := pr2 (some_inj hF1)
    exact ret1 Try.results54 (v1 := .agg #[.int .i64 rows, .int .i64 cols, .slice B3 Cells.length c3]) (resAt_cellA (B := some ⟨b, 0, none⟩) (i := 0) (cs := [.int .i64 rows, .int .i64 cols, .slice B3 Cells.length c3]) (vs := [.int .i64 rows, .int .i64 cols, .slice B3 Cells.length c3]) (hf.get 6 3 rfl) k_ag_26 k_sz_26_3 (hS20.cf (i := 1) rfl) rfl rfl) ⟨B3, c3, rfl, (ST.subR (R' := []) (hS20.sel [0, 3] rfl rfl) (fun _ h => by cases h))⟩

theorem c_spec_l1Cur_one (c : Tl1Cur) (n1 : Int) (B : Option Addr) (B1 : Option Addr) (c1 n : Nat) (w0 : World) (hn : c.code.length = n) (hS : ST w0 (bl [⟨B, 87, [.slice B1 n c1, .int .i64 c.at_, .int .u64 c.seed], 3⟩]) w0 [⟨B, 87, [.slice B1 n c1, .int .i64 c.at_, .int .u64 c.seed], 3⟩] [⟨B1, (c.code.flatMap enc_u8)⟩]) {r_ : Bool} {m : Tl1Cur} (hF : F_spec_l1Cur_one c n1 = some (r_, m)) :
    CV Try.prog 55 #[pt B 0, .int .i64 n1] w0 (fun v w' => v = .bool r_ ∧ ST w0 (bl [⟨B, 87, [.slice B1 n c1, .int .i64 c.at_, .int .u64 c.seed], 3⟩]) w' [⟨B, 87, [.slice B1 n c1, .int .i64 m.at_, .int .u64 m.seed], 3⟩] []) := by
  subst hn
  unfold F_spec_l1Cur_one at hF
  refine cv_of_cw 9 Try.func55 rfl Try.ntmps55 rfl ?_
  refine cw_seq ?_
  refine cw_region ?_
  refine sq 4 rfl rfl (Y_assign (v := .bool false) rfl rfl) ?_
  refine rw_nil ?_
  refine cw_seq ?_
  refine cw_region ?_
  refine sq 5 rfl rfl (Y_move (v := pt B 0) rfl rfl) ?_
  refine sq 6 rfl rfl (Y_move (v := .int .i64 n1) rfl rfl) ?_
  obtain ⟨⟨r_1, m1⟩, hc, hF⟩ := bind_inv hF
  refine sc 7 rfl rfl (Yc_func (g := 69) (vs := [pt B 0, .int .i64 n1]) k_call_69 rfl (mc rfl (mc rfl mn)) (c_spec_l1Cur_pick c n1 B B1 c1 c.code.length _ rfl (hS.inn [true] rfl [(true, 0)] rfl) hc)) ?_
  rintro _ w_ ⟨rfl, hd⟩
  have hS1 := hS.out [true] rfl hd
  refine sq 8 rfl rfl (Y_eq (k := .i64) (a := r_1) (b := 0) rfl rfl rfl) ?_
  refine sq 4 rfl rfl (Y_assign (v := .bool (r_1 == 0)) rfl rfl) ?_
  refine rw_nil ?_
  refine cw_ret ?_
  obtain ⟨rfl, rfl⟩ := pr2 (some_inj hF)
  exact ret1 Try.results55 (v1 := .bool (r_1 == 0)) (resAt_tmp rfl) ⟨rfl, (ST.subR (R' := []) (hS1.sel [0] rfl rfl) (fun _ h => by cases h))⟩

theorem c_spec_l1Cur_coef (c : Tl1Cur) (B : Option Addr) (B1 : Option Addr) (c1 n : Nat) (w0 : World) (hn : c.code.length = n) (hS : ST w0 (bl [⟨B, 87, [.slice B1 n c1, .int .i64 c.at_, .int .u64 c.seed], 3⟩]) w0 [⟨B, 87, [.slice B1 n c1, .int .i64 c.at_, .int .u64 c.seed], 3⟩] [⟨B1, (c.code.flatMap enc_u8)⟩]) {r_ : Int} {m : Tl1Cur} (hF : F_spec_l1Cur_coef c = some (r_, m)) :
    CV Try.prog 169 #[pt B 0] w0 (fun v w' => v = .int .i64 r_ ∧ ST w0 (bl [⟨B, 87, [.slice B1 n c1, .int .i64 c.at_, .int .u64 c.seed], 3⟩]) w' [⟨B, 87, [.slice B1 n c1, .int .i64 m.at_, .int .u64 m.seed], 3⟩] []) := by
  subst hn
  unfold F_spec_l1Cur_coef at hF
  refine cv_of_cw 24 Try.func169 rfl Try.ntmps169 rfl ?_
  refine cw_seq ?_
  refine cw_region ?_
  refine sq 2 rfl rfl (Y_assign (v := .int .i64 0) rfl rfl) ?_
  refine rw_nil ?_
  refine cw_seq ?_
  refine cw_seq ?_
  refine cw_region ?_
  refine sq 3 rfl rfl (Y_move (v := pt B 0) rfl rfl) ?_
  obtain ⟨⟨r_1, m1⟩, hc, hF⟩ := bind_inv hF
  refine sc 4 rfl rfl (Yc_func (g := 69) (vs := [pt B 0, .int .i64 24]) k_call_69 rfl (mc rfl (mc rfl mn)) (c_spec_l1Cur_pick c 24 B B1 c1 c.code.length _ rfl (hS.inn [true] rfl [(true, 0)] rfl) hc)) ?_
  rintro _ w_ ⟨rfl, hd⟩
  have hS1 := hS.out [true] rfl hd
  refine rw_nil ?_
  refine cw_block ?_
  refine cw_seq ?_
  refine cw_region ?_
  refine sq 6 rfl rfl (Y_eq (k := .i64) (a := r_1) (b := 0) rfl rfl rfl) ?_
  refine sq 5 rfl rfl (Y_assign (v := .bool (r_1 == 0)) rfl rfl) ?_
  refine rw_nil ?_
  refine cw_cond (b := (r_1 == 0)) rfl (fun hb => ?_) (fun hb => ?_)
  · skip
    have hF1 := ct hF hb
    refine cw_seq ?_
    refine cw_region ?_
    refine sq 7 rfl rfl (Y_move (v := pt B 0) rfl rfl) ?_
    refine ss 8 rfl rfl (Ys_bslice (s := 1) (len := 4) (vs := [(0, .int .i64 1000000000), (1, .int .i64 (-1000000000)), (2, .int .i64 1000000001), (3, .int .i64 (-1000000001))]) (cs := [.int .i64 1000000000, .int .i64 (-1000000000), .int .i64 1000000001, .int .i64 (-1000000001)]) (zs := [.int .i64 0, .int .i64 0, .int .i64 0, .int .i64 0]) (m := 4) hS1 k_sl_48_3 k_sz_3_1 k_zc_3 rfl (mpc rfl (mpc rfl (mpc rfl (mpc rfl mpn)))) rfl rfl rfl (by kernel_rfl) (by kernel_rfl) rfl) ?_
    rintro _ w_1 ⟨b, rfl, hS2⟩
    have hS2 : ST w0 (bl [⟨B, 87, [.slice B1 c.code.length c1, .int .i64 c.at_, .int .u64 c.seed], 3⟩]) _ [⟨B, 87, [.slice B1 c.code.length c1, .int .i64 m1.at_, .int .u64 m1.seed], 3⟩, ⟨some ⟨b, 0, none⟩, 3, ([1000000000, (-1000000000), 1000000001, (-1000000001)].flatMap encI), 4 * 1⟩] [⟨B1, (c.code.flatMap enc_u8)⟩] := hS2
    obtain ⟨⟨r_2, m2⟩, hc1, hF1⟩ := bind_inv hF1
    refine sc 9 rfl rfl (Yc_func (g := 53) (vs := [pt B 0, .slice (some ⟨b, 0, none⟩) 4 4]) k_call_53 rfl (mc rfl (mc rfl mn)) (c_spec_l1Cur_among (Tl1Cur.mk c.code m1.at_ m1.seed) [1000000000, (-1000000000), 1000000001, (-1000000001)] B B1 c1 c.code.length (some ⟨b, 0, none⟩) 4 4 _ rfl rfl (hS2.inn [true, false] rfl [(true, 0), (false, 0)] rfl) hc1)) ?_
    rintro _ w_2 ⟨rfl, hd1⟩
    have hS3 := hS2.out [true, false] rfl hd1
    have hS3 : ST w0 (bl [⟨B, 87, [.slice B1 c.code.length c1, .int .i64 c.at_, .int .u64 c.seed], 3⟩]) _ [⟨some ⟨b, 0, none⟩, 3, ([1000000000, (-1000000000), 1000000001, (-1000000001)].flatMap encI), 4 * 1⟩, ⟨B, 87, [.slice B1 c.code.length c1, .int .i64 m2.at_, .int .u64 m2.seed], 3⟩] [⟨B1, (c.code.flatMap enc_u8)⟩] := hS3
    refine sq 2 rfl rfl (Y_assign (v := .int .i64 r_2) rfl rfl) ?_
    refine rw_nil ?_
    refine cw_ret ?_
    obtain ⟨rfl, rfl⟩ := pr2 (some_inj hF1)
    exact ret1 Try.results169 (v1 := .int .i64 r_2) (resAt_tmp rfl) ⟨rfl, (ST.subR (R' := []) (hS3.sel [1] rfl rfl) (fun _ h => by cases h))⟩
  · skip
    have hF2 := cf' hF hb
    refine cw_seq ?_
    refine cw_region ?_
    refine sq 11 rfl rfl (Y_eq (k := .i64) (a := r_1) (b := 1) rfl rfl rfl) ?_
    refine sq 10 rfl rfl (Y_assign (v := .bool (r_1 == 1)) rfl rfl) ?_
    refine rw_nil ?_
    refine cw_cond (b := (r_1 == 1)) rfl (fun hb1 => ?_) (fun hb1 => ?_)
    · skip
      have hF3 := ct hF2 hb1
      refine cw_seq ?_
      refine cw_region ?_
      refine sq 12 rfl rfl (Y_move (v := pt B 0) rfl rfl) ?_
      obtain ⟨⟨r_3, m3⟩, hc2, hF3⟩ := bind_inv hF3
      refine sc 13 rfl rfl (Yc_func (g := 69) (vs := [pt B 0, .int .i64 60000]) k_call_69 rfl (mc rfl (mc rfl mn)) (c_spec_l1Cur_pick (Tl1Cur.mk c.code m1.at_ m1.seed) 60000 B B1 c1 c.code.length _ rfl (hS1.inn [true] rfl [(true, 0)] rfl) hc2)) ?_
      rintro _ w_3 ⟨rfl, hd2⟩
      have hS4 := hS1.out [true] rfl hd2
      refine sq 14 rfl rfl (Y_mul (k := .i64) (a := r_3) (b := 1000) rfl rfl rfl) ?_
      refine sq 2 rfl rfl (Y_assign (v := .int .i64 (IntKind.i64.wrap (r_3 * 1000))) rfl rfl) ?_
      refine rw_nil ?_
      refine cw_ret ?_
      obtain ⟨rfl, rfl⟩ := pr2 (some_inj hF3)
      exact ret1 Try.results169 (v1 := .int .i64 (IntKind.i64.wrap (r_3 * 1000))) (resAt_tmp rfl) ⟨rfl, (ST.subR (R' := []) (hS4.sel [0] rfl rfl) (fun _ h => by cases h))⟩
    · skip
      have hF4 := cf' hF2 hb1
      refine cw_seq ?_
      obtain ⟨z, hz, hF5⟩ := bind_inv hF4
      refine cw_mid (fun f w => ∃ (t : Bool), t = z ∧ FF f [(0, pt B 0), (15, .bool t)] ∧ ST w0 (bl [⟨B, 87, [.slice B1 c.code.length c1, .int .i64 c.at_, .int .u64 c.seed], 3⟩]) w [⟨B, 87, [.slice B1 c.code.length c1, .int .i64 m1.at_, .int .u64 m1.seed], 3⟩] [⟨B1, (c.code.flatMap enc_u8)⟩]) ?_ ?_
      · skip
        refine cw_seq ?_
        refine cw_region ?_
        refine sq 16 rfl rfl (Y_eq (k := .i64) (a := r_1) (b := 2) rfl rfl rfl) ?_
        refine sq 15 rfl rfl (Y_assign (v := .bool (r_1 == 2)) rfl rfl) ?_
        refine rw_nil ?_
        refine cw_cond (b := (r_1 == 2)) rfl (fun hb2 => ?_) (fun hb2 => ?_)
        · skip
          have hF6 := ct hz hb2
          refine cw_skip ?_
          exact ⟨(r_1 == 2), (some_inj hF6), (FF.cons rfl (FF.cons rfl FF.nil)), (hS1.sel [0] rfl rfl)⟩
        · skip
          have hF7 := cf' hz hb2
          refine cw_region ?_
          refine sq 17 rfl rfl (Y_eq (k := .i64) (a := r_1) (b := 3) rfl rfl rfl) ?_
          refine sq 15 rfl rfl (Y_assign (v := .bool (r_1 == 3)) rfl rfl) ?_
          refine rw_nil ?_
          exact ⟨(r_1 == 3), (some_inj hF7), (FF.cons rfl (FF.cons rfl FF.nil)), (hS1.sel [0] rfl rfl)⟩
      rintro f w ⟨t, rfl, hf, hS5⟩
      refine cw_cond (b := t) (hf.get 15 1 rfl) (fun hb3 => ?_) (fun hb3 => ?_)
      · skip
        have hF8 := ct hF5 hb3
        refine cw_seq ?_
        refine cw_region ?_
        refine sq 18 rfl rfl (Y_move (v := pt B 0) rfl (hf.get 0 0 rfl)) ?_
        obtain ⟨⟨r_4, m4⟩, hc3, hF8⟩ := bind_inv hF8
        refine sc 19 rfl rfl (Yc_func (g := 69) (vs := [pt B 0, .int .i64 2000]) k_call_69 rfl (mc rfl (mc rfl mn)) (c_spec_l1Cur_pick (Tl1Cur.mk c.code m1.at_ m1.seed) 2000 B B1 c1 c.code.length _ rfl (hS5.inn [true] rfl [(true, 0)] rfl) hc3)) ?_
        rintro _ w_4 ⟨rfl, hd3⟩
        have hS6 := hS5.out [true] rfl hd3
        refine sq 20 rfl rfl (Y_sub (k := .i64) (a := r_4) (b := 1000) rfl rfl rfl) ?_
        refine sq 2 rfl rfl (Y_assign (v := .int .i64 (IntKind.i64.wrap (r_4 - 1000))) rfl rfl) ?_
        refine rw_nil ?_
        refine cw_ret ?_
        obtain ⟨rfl, rfl⟩ := pr2 (some_inj hF8)
        exact ret1 Try.results169 (v1 := .int .i64 (IntKind.i64.wrap (r_4 - 1000))) (resAt_tmp rfl) ⟨rfl, (ST.subR (R' := []) (hS6.sel [0] rfl rfl) (fun _ h => by cases h))⟩
      · skip
        have hF9 := cf' hF5 hb3
        refine cw_skip ?_
        refine cw_seq ?_
        refine cw_region ?_
        refine sq 21 rfl rfl (Y_move (v := pt B 0) rfl (hf.get 0 0 rfl)) ?_
        obtain ⟨⟨r_5, m5⟩, hc4, hF9⟩ := bind_inv hF9
        refine sc 22 rfl rfl (Yc_func (g := 69) (vs := [pt B 0, .int .i64 9]) k_call_69 rfl (mc rfl (mc rfl mn)) (c_spec_l1Cur_pick (Tl1Cur.mk c.code m1.at_ m1.seed) 9 B B1 c1 c.code.length _ rfl (hS5.inn [true] rfl [(true, 0)] rfl) hc4)) ?_
        rintro _ w_5 ⟨rfl, hd4⟩
        have hS7 := hS5.out [true] rfl hd4
        refine sq 23 rfl rfl (Y_sub (k := .i64) (a := r_5) (b := 4) rfl rfl rfl) ?_
        refine sq 2 rfl rfl (Y_assign (v := .int .i64 (IntKind.i64.wrap (r_5 - 4))) rfl rfl) ?_
        refine rw_nil ?_
        refine cw_ret ?_
        obtain ⟨rfl, rfl⟩ := pr2 (some_inj hF9)
        exact ret1 Try.results169 (v1 := .int .i64 (IntKind.i64.wrap (r_5 - 4))) (resAt_tmp rfl) ⟨rfl, (ST.subR (R' := []) (hS7.sel [0] rfl rfl) (fun _ h => by cases h))⟩

theorem c_spec_l1Cur_anyRing (c : Tl1Cur) (B : Option Addr) (B1 : Option Addr) (c1 n : Nat) (w0 : World) (hn : c.code.length = n) (hS : ST w0 (bl [⟨B, 87, [.slice B1 n c1, .int .i64 c.at_, .int .u64 c.seed], 3⟩]) w0 [⟨B, 87, [.slice B1 n c1, .int .i64 c.at_, .int .u64 c.seed], 3⟩] [⟨B1, (c.code.flatMap enc_u8)⟩]) {r_ : TRing} {m : Tl1Cur} (hF : F_spec_l1Cur_anyRing c = some (r_, m)) :
    CV Try.prog 141 #[pt B 0] w0 (fun v w' => v = .agg #[.int .i64 r_.A, .int .i64 r_.B, .int .i64 r_.C, .int .i64 r_.D] ∧ ST w0 (bl [⟨B, 87, [.slice B1 n c1, .int .i64 c.at_, .int .u64 c.seed], 3⟩]) w' [⟨B, 87, [.slice B1 n c1, .int .i64 m.at_, .int .u64 m.seed], 3⟩] []) := by
  subst hn
  unfold F_spec_l1Cur_anyRing at hF
  refine cv_of_cw 16 Try.func141 rfl Try.ntmps141 rfl ?_
  refine cw_seq ?_
  refine cw_region ?_
  refine ss 2 rfl rfl (Ys_alloc (T := 42) (cs := [.int .i64 0, .int .i64 0, .int .i64 0, .int .i64 0]) (m := 4) hS k_zero_42 rfl rfl rfl) ?_
  rintro _ w_ ⟨b, rfl, hS1⟩
  have hS1 : ST w0 (bl [⟨B, 87, [.slice B1 c.code.length c1, .int .i64 c.at_, .int .u64 c.seed], 3⟩]) _ [⟨B, 87, [.slice B1 c.code.length c1, .int .i64 c.at_, .int .u64 c.seed], 3⟩, ⟨some ⟨b, 0, none⟩, 42, [.int .i64 0, .int .i64 0, .int .i64 0, .int .i64 0], 4⟩] [⟨B1, (c.code.flatMap enc_u8)⟩] := hS1
  refine rw_nil ?_
  refine cw_seq ?_
  refine cw_seq ?_
  refine cw_region ?_
  refine sq 3 rfl rfl (Y_move (v := pt B 0) rfl rfl) ?_
  obtain ⟨⟨r_1, m1⟩, hc, hF⟩ := bind_inv hF
  refine sc 4 rfl rfl (Yc_func (g := 55) (vs := [pt B 0, .int .i64 3]) k_call_55 rfl (mc rfl (mc rfl mn)) (c_spec_l1Cur_one c 3 B B1 c1 c.code.length _ rfl (hS1.inn [true, false] rfl [(true, 0)] rfl) hc)) ?_
  rintro _ w_1 ⟨rfl, hd⟩
  have hS2 := hS1.out [true, false] rfl hd
  have hS2 : ST w0 (bl [⟨B, 87, [.slice B1 c.code.length c1, .int .i64 c.at_, .int .u64 c.seed], 3⟩]) _ [⟨some ⟨b, 0, none⟩, 42, [.int .i64 0, .int .i64 0, .int .i64 0, .int .i64 0], 4⟩, ⟨B, 87, [.slice B1 c.code.length c1, .int .i64 m1.at_, .int .u64 m1.seed], 3⟩] [⟨B1, (c.code.flatMap enc_u8)⟩] := hS2
  refine rw_nil ?_
  refine cw_cond (b := r_1) rfl (fun hb => ?_) (fun hb => ?_)
  · skip
    have hF1 := ct hF hb
    refine cw_seq ?_
    refine cw_region ?_
    refine sq 5 rfl rfl (Y_move (v := pt B 0) rfl rfl) ?_
    obtain ⟨⟨r_2, m2⟩, hc1, hF1⟩ := bind_inv hF1
    refine sc 6 rfl rfl (Yc_func (g := 169) (vs := [pt B 0]) k_call_169 rfl (mc rfl mn) (c_spec_l1Cur_coef (Tl1Cur.mk c.code m1.at_ m1.seed) B B1 c1 c.code.length _ rfl (hS2.inn [false, true] rfl [(true, 0)] rfl) hc1)) ?_
    rintro _ w_2 ⟨rfl, hd1⟩
    have hS3 := hS2.out [false, true] rfl hd1
    have hS3 : ST w0 (bl [⟨B, 87, [.slice B1 c.code.length c1, .int .i64 c.at_, .int .u64 c.seed], 3⟩]) _ [⟨some ⟨b, 0, none⟩, 42, [.int .i64 0, .int .i64 0, .int .i64 0, .int .i64 0], 4⟩, ⟨B, 87, [.slice B1 c.code.length c1, .int .i64 m2.at_, .int .u64 m2.seed], 3⟩] [⟨B1, (c.code.flatMap enc_u8)⟩] := hS3
    refine sq 7 rfl rfl (Y_move (v := pt B 0) rfl rfl) ?_
    obtain ⟨⟨r_3, m3⟩, hc2, hF1⟩ := bind_inv hF1
    refine sc 8 rfl rfl (Yc_func (g := 169) (vs := [pt B 0]) k_call_169 rfl (mc rfl mn) (c_spec_l1Cur_coef (Tl1Cur.mk c.code m2.at_ m2.seed) B B1 c1 c.code.length _ rfl (hS3.inn [false, true] rfl [(true, 0)] rfl) hc2)) ?_
    rintro _ w_3 ⟨rfl, hd2⟩
    have hS4 := hS3.out [false, true] rfl hd2
    have hS4 : ST w0 (bl [⟨B, 87, [.slice B1 c.code.length c1, .int .i64 c.at_, .int .u64 c.seed], 3⟩]) _ [⟨some ⟨b, 0, none⟩, 42, [.int .i64 0, .int .i64 0, .int .i64 0, .int .i64 0], 4⟩, ⟨B, 87, [.slice B1 c.code.length c1, .int .i64 m3.at_, .int .u64 m3.seed], 3⟩] [⟨B1, (c.code.flatMap enc_u8)⟩] := hS4
    refine sq 9 rfl rfl (Y_move (v := pt B 0) rfl rfl) ?_
    obtain ⟨⟨r_4, m4⟩, hc3, hF1⟩ := bind_inv hF1
    refine sc 10 rfl rfl (Yc_func (g := 169) (vs := [pt B 0]) k_call_169 rfl (mc rfl mn) (c_spec_l1Cur_coef (Tl1Cur.mk c.code m3.at_ m3.seed) B B1 c1 c.code.length _ rfl (hS4.inn [false, true] rfl [(true, 0)] rfl) hc3)) ?_
    rintro _ w_4 ⟨rfl, hd3⟩
    have hS5 := hS4.out [false, true] rfl hd3
    have hS5 : ST w0 (bl [⟨B, 87, [.slice B1 c.code.length c1, .int .i64 c.at_, .int .u64 c.seed], 3⟩]) _ [⟨some ⟨b, 0, none⟩, 42, [.int .i64 0, .int .i64 0, .int .i64 0, .int .i64 0], 4⟩, ⟨B, 87, [.slice B1 c.code.length c1, .int .i64 m4.at_, .int .u64 m4.seed], 3⟩] [⟨B1, (c.code.flatMap enc_u8)⟩] := hS5
    refine sq 11 rfl rfl (Y_move (v := pt B 0) rfl rfl) ?_
    obtain ⟨⟨r_5, m5⟩, hc4, hF1⟩ := bind_inv hF1
    refine sc 12 rfl rfl (Yc_func (g := 169) (vs := [pt B 0]) k_call_169 rfl (mc rfl mn) (c_spec_l1Cur_coef (Tl1Cur.mk c.code m4.at_ m4.seed) B B1 c1 c.code.length _ rfl (hS5.inn [false, true] rfl [(true, 0)] rfl) hc4)) ?_
    rintro _ w_5 ⟨rfl, hd4⟩
    have hS6 := hS5.out [false, true] rfl hd4
    have hS6 : ST w0 (bl [⟨B, 87, [.slice B1 c.code.length c1, .int .i64 c.at_, .int .u64 c.seed], 3⟩]) _ [⟨some ⟨b, 0, none⟩, 42, [.int .i64 0, .int .i64 0, .int .i64 0, .int .i64 0], 4⟩, ⟨B, 87, [.slice B1 c.code.length c1, .int .i64 m5.at_, .int .u64 m5.seed], 3⟩] [⟨B1, (c.code.flatMap enc_u8)⟩] := hS6
    refine sq 13 rfl rfl (Y_buildS (zs := [.int .i64 0, .int .i64 0, .int .i64 0, .int .i64 0]) (vs := [(0, .int .i64 r_2), (1, .int .i64 r_3), (2, .int .i64 r_4), (3, .int .i64 r_5)]) (cs := [.int .i64 r_2, .int .i64 r_3, .int .i64 r_4, .int .i64 r_5]) k_pl_42 k_zero_42 rfl (mpc rfl (mpc rfl (mpc rfl (mpc rfl mpn)))) rfl) ?_
    refine ss0 rfl rfl (Ys_store (i := 0) (s := 4) (B := some ⟨b, 0, none⟩) (T' := 42) (v := .agg #[.int .i64 r_2, .int .i64 r_3, .int .i64 r_4, .int .i64 r_5]) (vs := [.int .i64 r_2, .int .i64 r_3, .int .i64 r_4, .int .i64 r_5]) (k := 0) (cs' := [.int .i64 r_2, .int .i64 r_3, .int .i64 r_4, .int .i64 r_5]) hS6 k_sz_42_4 rfl rfl rfl rfl rfl rfl rfl (Nat.le_of_ble_eq_true rfl) rfl rfl) ?_
    rintro _ w_6 ⟨rfl, hS7⟩
    have hS7 : ST w0 (bl [⟨B, 87, [.slice B1 c.code.length c1, .int .i64 c.at_, .int .u64 c.seed], 3⟩]) _ [⟨some ⟨b, 0, none⟩, 42, [.int .i64 r_2, .int .i64 r_3, .int .i64 r_4, .int .i64 r_5], 4⟩, ⟨B, 87, [.slice B1 c.code.length c1, .int .i64 m5.at_, .int .u64 m5.seed], 3⟩] [⟨B1, (c.code.flatMap enc_u8)⟩] := hS7
    refine rw_nil ?_
    refine cw_ret ?_
    obtain ⟨rfl, rfl⟩ := pr2 (some_inj hF1)
    exact ret1 Try.results141 (v1 := .agg #[.int .i64 r_2, .int .i64 r_3, .int .i64 r_4, .int .i64 r_5]) (resAt_cellA (B := some ⟨b, 0, none⟩) (i := 0) (cs := [.int .i64 r_2, .int .i64 r_3, .int .i64 r_4, .int .i64 r_5]) (vs := [.int .i64 r_2, .int .i64 r_3, .int .i64 r_4, .int .i64 r_5]) rfl k_ag_42 k_sz_42_4 (hS7.cf (i := 0) rfl) rfl rfl) ⟨rfl, (ST.subR (R' := []) (hS7.sel [1] rfl rfl) (fun _ h => by cases h))⟩
  · skip
    have hF2 := cf' hF hb
    refine cw_skip ?_
    refine cw_seq ?_
    refine cw_region ?_
    refine sq 14 rfl rfl (Y_move (v := pt B 0) rfl rfl) ?_
    obtain ⟨⟨r_6, m6⟩, hc5, hF2⟩ := bind_inv hF2
    refine sc 15 rfl rfl (Yc_func (g := 140) (vs := [pt B 0]) k_call_140 rfl (mc rfl mn) (c_spec_l1Cur_ring (Tl1Cur.mk c.code m1.at_ m1.seed) B B1 c1 c.code.length _ rfl (hS2.inn [false, true] rfl [(true, 0)] rfl) hc5)) ?_
    rintro _ w_7 ⟨rfl, hd5⟩
    have hS8 := hS2.out [false, true] rfl hd5
    have hS8 : ST w0 (bl [⟨B, 87, [.slice B1 c.code.length c1, .int .i64 c.at_, .int .u64 c.seed], 3⟩]) _ [⟨some ⟨b, 0, none⟩, 42, [.int .i64 0, .int .i64 0, .int .i64 0, .int .i64 0], 4⟩, ⟨B, 87, [.slice B1 c.code.length c1, .int .i64 m6.at_, .int .u64 m6.seed], 3⟩] [⟨B1, (c.code.flatMap enc_u8)⟩] := hS8
    refine ss0 rfl rfl (Ys_store (i := 0) (s := 4) (B := some ⟨b, 0, none⟩) (T' := 42) (v := .agg #[.int .i64 r_6.A, .int .i64 r_6.B, .int .i64 r_6.C, .int .i64 r_6.D]) (vs := [.int .i64 r_6.A, .int .i64 r_6.B, .int .i64 r_6.C, .int .i64 r_6.D]) (k := 0) (cs' := [.int .i64 r_6.A, .int .i64 r_6.B, .int .i64 r_6.C, .int .i64 r_6.D]) hS8 k_sz_42_4 rfl rfl rfl rfl rfl rfl rfl (Nat.le_of_ble_eq_true rfl) rfl rfl) ?_
    rintro _ w_8 ⟨rfl, hS9⟩
    have hS9 : ST w0 (bl [⟨B, 87, [.slice B1 c.code.length c1, .int .i64 c.at_, .int .u64 c.seed], 3⟩]) _ [⟨some ⟨b, 0, none⟩, 42, [.int .i64 r_6.A, .int .i64 r_6.B, .int .i64 r_6.C, .int .i64 r_6.D], 4⟩, ⟨B, 87, [.slice B1 c.code.length c1, .int .i64 m6.at_, .int .u64 m6.seed], 3⟩] [⟨B1, (c.code.flatMap enc_u8)⟩] := hS9
    refine rw_nil ?_
    refine cw_ret ?_
    obtain ⟨rfl, rfl⟩ := pr2 (some_inj hF2)
    exact ret1 Try.results141 (v1 := .agg #[.int .i64 r_6.A, .int .i64 r_6.B, .int .i64 r_6.C, .int .i64 r_6.D]) (resAt_cellA (B := some ⟨b, 0, none⟩) (i := 0) (cs := [.int .i64 r_6.A, .int .i64 r_6.B, .int .i64 r_6.C, .int .i64 r_6.D]) (vs := [.int .i64 r_6.A, .int .i64 r_6.B, .int .i64 r_6.C, .int .i64 r_6.D]) rfl k_ag_42 k_sz_42_4 (hS9.cf (i := 0) rfl) rfl rfl) ⟨rfl, (ST.subR (R' := []) (hS9.sel [1] rfl rfl) (fun _ h => by cases h))⟩

theorem c_spec_l1In (n : Int) (lo : Int) (hi : Int)  (w0 : World)  (hS : ST w0 [] w0 [] []) {r_ : Bool} (hF : F_spec_l1In n lo hi = some r_) :
    CV Try.prog 96 #[.int .i64 n, .int .i64 lo, .int .i64 hi] w0 (fun v w' => v = .bool r_ ∧ ST w0 [] w' [] []) := by
  unfold F_spec_l1In at hF
  refine cv_of_cw 15 Try.func96 rfl Try.ntmps96 rfl ?_
  refine cw_seq ?_
  refine cw_region ?_
  refine sq 6 rfl rfl (Y_assign (v := .bool false) rfl rfl) ?_
  refine rw_nil ?_
  refine cw_seq ?_
  refine cw_region ?_
  refine sq 7 rfl rfl (Y_move (v := .int .i64 n) rfl rfl) ?_
  refine sq 8 rfl rfl (Y_move (v := .int .i64 lo) rfl rfl) ?_
  refine sq 9 rfl rfl (Y_ge (k := .i64) (a := n) (b := lo) rfl rfl rfl) ?_
  refine sq 10 rfl rfl (Y_move (v := .bool (decide (lo ≤ n))) rfl rfl) ?_
  refine sgq 11 (B := (decide (lo ≤ n))) (v := .int .i64 n) rfl rfl (wt_t (gd_of (t := 10) (by kernel_rfl) rfl)) (fun hg => (Y_move (v := .int .i64 n) rfl rfl)) ?_
  refine sgq 12 (B := (decide (lo ≤ n))) (v := .int .i64 hi) rfl rfl (wt_t (gd_of (t := 10) (by kernel_rfl) rfl)) (fun hg1 => (Y_move (v := .int .i64 hi) rfl rfl)) ?_
  refine sgq 13 (B := (decide (lo ≤ n))) (v := .bool (decide (n ≤ hi))) rfl rfl (wt_t (gd_of (t := 10) (by kernel_rfl) rfl)) (fun hg2 => (Y_le (k := .i64) (a := n) (b := hi) rfl (gv_of (B := (decide (lo ≤ n))) (v := .int .i64 n) hg2) (gv_of (B := (decide (lo ≤ n))) (v := .int .i64 hi) hg2))) ?_
  refine sq 14 rfl rfl (Y_and (b := (decide (lo ≤ n))) (z := (decide (n ≤ hi))) rfl rfl rfl rfl) ?_
  refine sq 6 rfl rfl (Y_assign (v := .bool ((decide (lo ≤ n)) && (decide (n ≤ hi)))) rfl rfl) ?_
  refine rw_nil ?_
  refine cw_ret ?_
  obtain rfl := some_inj hF
  exact ret1 Try.results96 (v1 := .bool ((decide (lo ≤ n)) && (decide (n ≤ hi)))) (resAt_tmp rfl) ⟨rfl, (ST.subR (R' := []) (hS.sel [] rfl rfl) (fun _ h => by cases h))⟩

theorem c_spec_l1All (l : List Int) (lo : Int) (hi : Int) (B : Option Addr) (c n : Nat) (w0 : World) (hn : l.length = n) (hS : ST w0 [] w0 [] [⟨B, (l.flatMap encI)⟩]) {r_ : Bool} (hF : F_spec_l1All l lo hi = some r_) :
    CV Try.prog 154 #[.slice B n c, .int .i64 lo, .int .i64 hi] w0 (fun v w' => v = .bool r_ ∧ ST w0 [] w' [] []) := by
  subst hn
  unfold F_spec_l1All at hF
  refine cv_of_cw 21 Try.func154 rfl Try.ntmps154 rfl ?_
  refine cw_seq ?_
  refine cw_region ?_
  refine sq 6 rfl rfl (Y_assign (v := .bool false) rfl rfl) ?_
  refine rw_nil ?_
  refine cw_seq ?_
  refine cw_seq ?_
  refine cw_region ?_
  refine sq 9 rfl rfl (Y_move (v := .slice B l.length c) rfl rfl) ?_
  refine sq 10 rfl rfl (Y_len (B := B) (m := l.length) (c := c) k_sl_48_3 rfl rfl) ?_
  refine sq 11 rfl rfl (Y_move (v := .int .i64 0) rfl rfl) ?_
  refine rw_nil ?_
  obtain ⟨hN, hF⟩ := chk_inv hF
  obtain ⟨z, hz, hF1⟩ := bind_inv hF
  refine cw_block ?_
  refine cw_loop (fun k f w => ∃ (i : Nat), FF f [(1, .int .i64 lo), (2, .int .i64 hi), (9, .slice B l.length c), (10, .int .i64 (l.length : Int)), (11, .int .i64 (i : Int))] ∧ ST w0 [] w [] [⟨B, (l.flatMap encI)⟩] ∧ i + k = l.length ∧ forX (F_spec_l1All_l1 l lo hi) k i () = some z) l.length ⟨0, (FF.cons rfl (FF.cons rfl (FF.cons rfl (FF.cons rfl (FF.cons rfl FF.nil))))), (hS.sel [] rfl rfl), Nat.zero_add _, hz⟩ ?_
  rintro k_ f w ⟨i, hf, hS1, hik, hL⟩
  refine cw_seq ?_
  refine cw_region ?_
  refine sq 12 rfl rfl (Y_lt (k := .i64) (a := (i : Int)) (b := (l.length : Int)) rfl (hf.get 11 4 rfl) (hf.get 10 3 rfl)) ?_
  refine rw_nil ?_
  refine cw_seq ?_
  refine cw_cond (b := (decide ((i : Int) < (l.length : Int)))) rfl (fun hlt => ?_) (fun hlt => ?_)
  · skip
    have hlt1 : i < l.length := by have h := of_decide_eq_true hlt; omega
    obtain ⟨k_1, rfl⟩ : ∃ k2, k_ = k2 + 1 := ⟨k_ - 1, by omega⟩
    obtain ⟨y, hb, hL1⟩ := forX_go hL
    unfold F_spec_l1All_l1 at hb
    refine cw_skip ?_
    refine cw_seq ?_
    refine cw_block ?_
    refine cw_seq ?_
    refine cw_region ?_
    obtain ⟨x, hx, hb⟩ := bind_inv hb
    refine sq 13 rfl rfl (Y_index (B := B) (m := l.length) (c := c) (k := .i64) (i := (i : Int)) k_sl_48_3 k_sz_3_1 rfl (hf.get 9 2 rfl) (hf.get 11 4 rfl) (gi_isSome encI_len rfl (hS1.rf (i := 0) rfl) hx) (getI_nn hx) (getI_ltI hx rfl)) ?_
    refine sq 14 rfl rfl (Y_load1 (B := B) (i := (i : Int).toNat * 1) (cs := (l.flatMap encI)) (v := .int .i64 x) k_sc_3 rfl rfl (hS1.rf (i := 0) rfl) (gi_at0 encI_len hx rfl)) ?_
    refine sq 8 rfl rfl (Y_assign (v := .int .i64 x) rfl rfl) ?_
    refine rw_nil ?_
    refine cw_seq ?_
    refine cw_region ?_
    refine sq 15 rfl rfl (Y_move (v := .int .i64 x) rfl rfl) ?_
    refine sq 16 rfl rfl (Y_move (v := .int .i64 lo) rfl (hf.get 1 0 rfl)) ?_
    refine sq 17 rfl rfl (Y_move (v := .int .i64 hi) rfl (hf.get 2 1 rfl)) ?_
    obtain ⟨r_1, hc, hb⟩ := bind_inv hb
    refine sc 18 rfl rfl (Yc_func (g := 96) (vs := [.int .i64 x, .int .i64 lo, .int .i64 hi]) k_call_96 rfl (mc rfl (mc rfl (mc rfl mn))) (c_spec_l1In x lo hi _  (hS1.inn0 [] rfl) hc)) ?_
    rintro _ w_ ⟨rfl, hd⟩
    have hS2 := hS1.out00 hd
    refine sq 19 rfl rfl (Y_not (p := r_1) rfl rfl) ?_
    refine rw_nil ?_
    refine cw_cond (b := (!r_1)) rfl (fun hb1 => ?_) (fun hb1 => ?_)
    · skip
      have hF2 := ct hb hb1
      refine cw_seq ?_
      refine cw_region ?_
      refine sq 6 rfl rfl (Y_assign (v := .bool false) rfl rfl) ?_
      refine rw_nil ?_
      refine cw_ret ?_
      obtain rfl := some_inj hF2
      obtain rfl := some_inj hL1
      obtain rfl := some_inj hF1
      exact ret1 Try.results154 (v1 := .bool false) (resAt_tmp rfl) ⟨rfl, (ST.subR (R' := []) (hS2.sel [] rfl rfl) (fun _ h => by cases h))⟩
    · skip
      have hF3 := cf' hb hb1
      refine cw_skip ?_
      refine cw_region ?_
      refine sq 20 rfl rfl (Y_add (k := .i64) (a := (i : Int)) (b := 1) rfl (hf.get 11 4 rfl) rfl) ?_
      refine sq 11 rfl rfl (Y_move (v := .int .i64 (IntKind.i64.wrap ((i : Int) + 1))) rfl rfl) ?_
      refine rw_nil ?_
      obtain rfl := some_inj hF3
      exact ⟨k_1, Nat.lt_succ_self _, i + 1, (FF.cons (hf.get 1 0 rfl) (FF.cons (hf.get 2 1 rfl) (FF.cons (hf.get 9 2 rfl) (FF.cons (hf.get 10 3 rfl) (FF.cons (congrArg (Value.int .i64) (wr_succ hlt1 hN)) FF.nil))))), (hS2.sel [] rfl rfl), (by omega), hL1⟩
  · skip
    obtain rfl : k_ = 0 := by have h := of_decide_eq_false hlt; omega
    refine cw_exit rfl ?_
    obtain rfl := some_inj hL
    refine cw_seq ?_
    refine cw_region ?_
    refine sq 6 rfl rfl (Y_assign (v := .bool true) rfl rfl) ?_
    refine rw_nil ?_
    refine cw_ret ?_
    obtain rfl := some_inj hF1
    exact ret1 Try.results154 (v1 := .bool true) (resAt_tmp rfl) ⟨rfl, (ST.subR (R' := []) (hS1.sel [] rfl rfl) (fun _ h => by cases h))⟩

theorem c_spec_l1Good (x : TRing)  (w0 : World)  (hS : ST w0 [] w0 [] []) {r_ : Bool} (hF : F_spec_l1Good x = some r_) :
    CV Try.prog 142 #[.agg #[.int .i64 x.A, .int .i64 x.B, .int .i64 x.C, .int .i64 x.D]] w0 (fun v w' => v = .bool r_ ∧ ST w0 [] w' [] []) := by
  unfold F_spec_l1Good at hF
  refine cv_of_cw 13 Try.func142 rfl Try.ntmps142 rfl ?_
  refine cw_seq ?_
  refine cw_region ?_
  refine ss 1 rfl rfl (Ys_box (T := 42) (v := .agg #[.int .i64 x.A, .int .i64 x.B, .int .i64 x.C, .int .i64 x.D]) (cs := [.int .i64 x.A, .int .i64 x.B, .int .i64 x.C, .int .i64 x.D]) (m := 4) hS rfl rfl rfl rfl) ?_
  rintro _ w_ ⟨b, rfl, hS1⟩
  refine sq 2 rfl rfl (Y_assign (v := .bool false) rfl rfl) ?_
  refine rw_nil ?_
  refine cw_seq ?_
  refine cw_region ?_
  refine sq 3 rfl rfl (Y_fieldAddr (B := some ⟨b, 0, none⟩) (i := 0) (s := 0) k_fd_42_0_0_3 k_sz_3_1 rfl rfl) ?_
  refine sq 4 rfl rfl (Y_load1 (B := some ⟨b, 0, none⟩) (i := 0) (cs := [.int .i64 x.A, .int .i64 x.B, .int .i64 x.C, .int .i64 x.D]) (v := .int .i64 x.A) k_sc_3 rfl rfl (hS1.cf (i := 0) rfl) rfl) ?_
  refine sq 5 rfl rfl (Y_fieldAddr (B := some ⟨b, 0, none⟩) (i := 0) (s := 0) k_fd_42_1_1_3 k_sz_3_1 rfl rfl) ?_
  refine sq 6 rfl rfl (Y_load1 (B := some ⟨b, 0, none⟩) (i := 1) (cs := [.int .i64 x.A, .int .i64 x.B, .int .i64 x.C, .int .i64 x.D]) (v := .int .i64 x.B) k_sc_3 rfl rfl (hS1.cf (i := 0) rfl) rfl) ?_
  refine sq 7 rfl rfl (Y_fieldAddr (B := some ⟨b, 0, none⟩) (i := 0) (s := 0) k_fd_42_2_2_3 k_sz_3_1 rfl rfl) ?_
  refine sq 8 rfl rfl (Y_load1 (B := some ⟨b, 0, none⟩) (i := 2) (cs := [.int .i64 x.A, .int .i64 x.B, .int .i64 x.C, .int .i64 x.D]) (v := .int .i64 x.C) k_sc_3 rfl rfl (hS1.cf (i := 0) rfl) rfl) ?_
  refine sq 9 rfl rfl (Y_fieldAddr (B := some ⟨b, 0, none⟩) (i := 0) (s := 0) k_fd_42_3_3_3 k_sz_3_1 rfl rfl) ?_
  refine sq 10 rfl rfl (Y_load1 (B := some ⟨b, 0, none⟩) (i := 3) (cs := [.int .i64 x.A, .int .i64 x.B, .int .i64 x.C, .int .i64 x.D]) (v := .int .i64 x.D) k_sc_3 rfl rfl (hS1.cf (i := 0) rfl) rfl) ?_
  refine ss 11 rfl rfl (Ys_bslice (s := 1) (len := 4) (vs := [(0, .int .i64 x.A), (1, .int .i64 x.B), (2, .int .i64 x.C), (3, .int .i64 x.D)]) (cs := [.int .i64 x.A, .int .i64 x.B, .int .i64 x.C, .int .i64 x.D]) (zs := [.int .i64 0, .int .i64 0, .int .i64 0, .int .i64 0]) (m := 4) hS1 k_sl_48_3 k_sz_3_1 k_zc_3 rfl (mpc rfl (mpc rfl (mpc rfl (mpc rfl mpn)))) rfl rfl rfl (by kernel_rfl) (by kernel_rfl) rfl) ?_
  rintro _ w_1 ⟨b1, rfl, hS2⟩
  have hS2 : ST w0 [] _ [⟨some ⟨b, 0, none⟩, 42, [.int .i64 x.A, .int .i64 x.B, .int .i64 x.C, .int .i64 x.D], 4⟩, ⟨some ⟨b1, 0, none⟩, 3, ([x.A, x.B, x.C, x.D].flatMap encI), 4 * 1⟩] [] := hS2
  obtain ⟨r_1, hc, hF⟩ := bind_inv hF
  refine sc 12 rfl rfl (Yc_func (g := 154) (vs := [.slice (some ⟨b1, 0, none⟩) 4 4, .int .i64 (-1000000000), .int .i64 1000000000]) k_call_154 rfl (mc rfl (mc rfl (mc rfl mn))) (c_spec_l1All [x.A, x.B, x.C, x.D] (-1000000000) 1000000000 (some ⟨b1, 0, none⟩) 4 4 _ rfl (hS2.inn0 [(false, 1)] rfl) hc)) ?_
  rintro _ w_2 ⟨rfl, hd⟩
  have hS3 := hS2.out00 hd
  have hS3 : ST w0 [] _ [⟨some ⟨b, 0, none⟩, 42, [.int .i64 x.A, .int .i64 x.B, .int .i64 x.C, .int .i64 x.D], 4⟩, ⟨some ⟨b1, 0, none⟩, 3, ([x.A, x.B, x.C, x.D].flatMap encI), 4 * 1⟩] [] := hS3
  refine sq 2 rfl rfl (Y_assign (v := .bool r_1) rfl rfl) ?_
  refine rw_nil ?_
  refine cw_ret ?_
  obtain rfl := some_inj hF
  exact ret1 Try.results142 (v1 := .bool r_1) (resAt_tmp rfl) ⟨rfl, (ST.subR (R' := []) (hS3.sel [] rfl rfl) (fun _ h => by cases h))⟩

theorem c_spec_l1Turn (x : TRing) (k_ : Int)  (w0 : World)  (hS : ST w0 [] w0 [] []) {r_ : TRing} (hF : F_spec_l1Turn x k_ = some r_) :
    CV Try.prog 170 #[.agg #[.int .i64 x.A, .int .i64 x.B, .int .i64 x.C, .int .i64 x.D], .int .i64 k_] w0 (fun v w' => v = .agg #[.int .i64 r_.A, .int .i64 r_.B, .int .i64 r_.C, .int .i64 r_.D] ∧ ST w0 [] w' [] []) := by
  unfold F_spec_l1Turn at hF
  refine cv_of_cw 24 Try.func170 rfl Try.ntmps170 rfl ?_
  refine cw_seq ?_
  refine cw_region ?_
  refine ss 2 rfl rfl (Ys_box (T := 42) (v := .agg #[.int .i64 x.A, .int .i64 x.B, .int .i64 x.C, .int .i64 x.D]) (cs := [.int .i64 x.A, .int .i64 x.B, .int .i64 x.C, .int .i64 x.D]) (m := 4) hS rfl rfl rfl rfl) ?_
  rintro _ w_ ⟨b, rfl, hS1⟩
  refine ss 4 rfl rfl (Ys_alloc (T := 42) (cs := [.int .i64 0, .int .i64 0, .int .i64 0, .int .i64 0]) (m := 4) hS1 k_zero_42 rfl rfl rfl) ?_
  rintro _ w_1 ⟨b1, rfl, hS2⟩
  have hS2 : ST w0 [] _ [⟨some ⟨b, 0, none⟩, 42, [.int .i64 x.A, .int .i64 x.B, .int .i64 x.C, .int .i64 x.D], 4⟩, ⟨some ⟨b1, 0, none⟩, 42, [.int .i64 0, .int .i64 0, .int .i64 0, .int .i64 0], 4⟩] [] := hS2
  refine rw_nil ?_
  refine cw_seq ?_
  refine cw_seq ?_
  refine cw_region ?_
  refine sq 5 rfl rfl (Y_move (v := .int .i64 k_) rfl rfl) ?_
  refine sq 6 rfl rfl (Y_rem (k := .i64) (a := k_) (b := 8) rfl rfl rfl (by decide)) ?_
  refine sq 7 rfl rfl (Y_add (k := .i64) (a := (Int.tmod k_ 8)) (b := 8) rfl rfl rfl) ?_
  refine sq 8 rfl rfl (Y_rem (k := .i64) (a := (IntKind.i64.wrap ((Int.tmod k_ 8) + 8))) (b := 8) rfl rfl rfl (by decide)) ?_
  refine sq 1 rfl rfl (Y_assign (v := .int .i64 (Int.tmod (IntKind.i64.wrap ((Int.tmod k_ 8) + 8)) 8)) rfl rfl) ?_
  refine rw_nil ?_
  obtain ⟨z, hz, hF1⟩ := bind_inv hF
  refine cw_block ?_
  refine cw_loop (fun k f w => ∃ (k_1 : Int) (A : Int) (B : Int) (C : Int) (D : Int), FF f [(1, .int .i64 k_1), (2, pt (some ⟨b, 0, none⟩) 0), (4, pt (some ⟨b1, 0, none⟩) 0)] ∧ ST w0 [] w [⟨some ⟨b, 0, none⟩, 42, [.int .i64 A, .int .i64 B, .int .i64 C, .int .i64 D], 4⟩, ⟨some ⟨b1, 0, none⟩, 42, [.int .i64 0, .int .i64 0, .int .i64 0, .int .i64 0], 4⟩] [] ∧ whX F_spec_l1Turn_l1 k (k_1, A, B, C, D) = some z) fuel ⟨(Int.tmod (IntKind.i64.wrap ((Int.tmod k_ 8) + 8)) 8), x.A, x.B, x.C, x.D, (FF.cons rfl (FF.cons rfl (FF.cons rfl FF.nil))), (hS2.sel [0, 1] rfl rfl), hz⟩ ?_
  rintro k_2 f w ⟨k_1, A, B, C, D, hf, hS3, hL⟩
  obtain ⟨k_3, y, rfl, hb, hL1⟩ := whX_go hL
  unfold F_spec_l1Turn_l1 at hb
  refine cw_seq ?_
  refine cw_seq ?_
  refine cw_region ?_
  refine sq 9 rfl rfl (Y_move (v := .int .i64 k_1) rfl (hf.get 1 0 rfl)) ?_
  refine sq 10 rfl rfl (Y_gt (k := .i64) (a := k_1) (b := 0) rfl rfl rfl) ?_
  refine rw_nil ?_
  refine cw_cond (b := (decide (0 < k_1))) rfl (fun hb1 => ?_) (fun hb1 => ?_)
  · skip
    have hF2 := ct hb hb1
    refine cw_skip ?_
    refine cw_seq ?_
    refine cw_block ?_
    refine cw_region ?_
    refine sq 13 rfl rfl (Y_fieldAddr (B := some ⟨b, 0, none⟩) (i := 0) (s := 0) k_fd_42_3_3_3 k_sz_3_1 rfl (hf.get 2 1 rfl)) ?_
    refine sq 14 rfl rfl (Y_load1 (B := some ⟨b, 0, none⟩) (i := 3) (cs := [.int .i64 A, .int .i64 B, .int .i64 C, .int .i64 D]) (v := .int .i64 D) k_sc_3 rfl rfl (hS3.cf (i := 0) rfl) rfl) ?_
    refine sq 15 rfl rfl (Y_neg (k := .i64) (a := D) rfl rfl) ?_
    refine sq 16 rfl rfl (Y_fieldAddr (B := some ⟨b, 0, none⟩) (i := 0) (s := 0) k_fd_42_0_0_3 k_sz_3_1 rfl (hf.get 2 1 rfl)) ?_
    refine sq 17 rfl rfl (Y_load1 (B := some ⟨b, 0, none⟩) (i := 0) (cs := [.int .i64 A, .int .i64 B, .int .i64 C, .int .i64 D]) (v := .int .i64 A) k_sc_3 rfl rfl (hS3.cf (i := 0) rfl) rfl) ?_
    refine sq 18 rfl rfl (Y_fieldAddr (B := some ⟨b, 0, none⟩) (i := 0) (s := 0) k_fd_42_1_1_3 k_sz_3_1 rfl (hf.get 2 1 rfl)) ?_
    refine sq 19 rfl rfl (Y_load1 (B := some ⟨b, 0, none⟩) (i := 1) (cs := [.int .i64 A, .int .i64 B, .int .i64 C, .int .i64 D]) (v := .int .i64 B) k_sc_3 rfl rfl (hS3.cf (i := 0) rfl) rfl) ?_
    refine sq 20 rfl rfl (Y_fieldAddr (B := some ⟨b, 0, none⟩) (i := 0) (s := 0) k_fd_42_2_2_3 k_sz_3_1 rfl (hf.get 2 1 rfl)) ?_
    refine sq 21 rfl rfl (Y_load1 (B := some ⟨b, 0, none⟩) (i := 2) (cs := [.int .i64 A, .int .i64 B, .int .i64 C, .int .i64 D]) (v := .int .i64 C) k_sc_3 rfl rfl (hS3.cf (i := 0) rfl) rfl) ?_
    refine sq 22 rfl rfl (Y_buildS (zs := [.int .i64 0, .int .i64 0, .int .i64 0, .int .i64 0]) (vs := [(0, .int .i64 (IntKind.i64.wrap (-D))), (1, .int .i64 A), (2, .int .i64 B), (3, .int .i64 C)]) (cs := [.int .i64 (IntKind.i64.wrap (-D)), .int .i64 A, .int .i64 B, .int .i64 C]) k_pl_42 k_zero_42 rfl (mpc rfl (mpc rfl (mpc rfl (mpc rfl mpn)))) rfl) ?_
    refine ss0 rfl rfl (Ys_store (i := 0) (s := 4) (B := some ⟨b, 0, none⟩) (T' := 42) (v := .agg #[.int .i64 (IntKind.i64.wrap (-D)), .int .i64 A, .int .i64 B, .int .i64 C]) (vs := [.int .i64 (IntKind.i64.wrap (-D)), .int .i64 A, .int .i64 B, .int .i64 C]) (k := 0) (cs' := [.int .i64 (IntKind.i64.wrap (-D)), .int .i64 A, .int .i64 B, .int .i64 C]) hS3 k_sz_42_4 rfl (hf.get 2 1 rfl) rfl rfl rfl rfl rfl (Nat.le_of_ble_eq_true rfl) rfl rfl) ?_
    rintro _ w_2 ⟨rfl, hS4⟩
    have hS4 : ST w0 [] _ [⟨some ⟨b, 0, none⟩, 42, [.int .i64 (IntKind.i64.wrap (-D)), .int .i64 A, .int .i64 B, .int .i64 C], 4⟩, ⟨some ⟨b1, 0, none⟩, 42, [.int .i64 0, .int .i64 0, .int .i64 0, .int .i64 0], 4⟩] [] := hS4
    refine rw_nil ?_
    refine cw_region ?_
    refine sq 11 rfl rfl (Y_move (v := .int .i64 k_1) rfl (hf.get 1 0 rfl)) ?_
    refine sq 12 rfl rfl (Y_sub (k := .i64) (a := k_1) (b := 1) rfl rfl rfl) ?_
    refine sq 1 rfl rfl (Y_assign (v := .int .i64 (IntKind.i64.wrap (k_1 - 1))) rfl rfl) ?_
    refine rw_nil ?_
    obtain rfl := some_inj hF2
    exact ⟨k_3, Nat.lt_succ_self _, (IntKind.i64.wrap (k_1 - 1)), (IntKind.i64.wrap (-D)), A, B, C, (FF.cons rfl (FF.cons (hf.get 2 1 rfl) (FF.cons (hf.get 4 2 rfl) FF.nil))), (hS4.sel [0, 1] rfl rfl), hL1⟩
  · skip
    have hF3 := cf' hb hb1
    refine cw_exit rfl ?_
    obtain rfl := some_inj hF3
    obtain rfl := some_inj hL1
    refine cw_seq ?_
    refine cw_region ?_
    refine sq 23 rfl rfl (Y_loadA (B := some ⟨b, 0, none⟩) (i := 0) (cs := [.int .i64 A, .int .i64 B, .int .i64 C, .int .i64 D]) (vs := [.int .i64 A, .int .i64 B, .int .i64 C, .int .i64 D]) k_ag_42 k_sz_42_4 rfl (hf.get 2 1 rfl) (hS3.cf (i := 0) rfl) rfl rfl) ?_
    refine ss0 rfl rfl (Ys_store (i := 1) (s := 4) (B := some ⟨b1, 0, none⟩) (T' := 42) (v := .agg #[.int .i64 A, .int .i64 B, .int .i64 C, .int .i64 D]) (vs := [.int .i64 A, .int .i64 B, .int .i64 C, .int .i64 D]) (k := 0) (cs' := [.int .i64 A, .int .i64 B, .int .i64 C, .int .i64 D]) hS3 k_sz_42_4 rfl (hf.get 4 2 rfl) rfl rfl rfl rfl rfl (Nat.le_of_ble_eq_true rfl) rfl rfl) ?_
    rintro _ w_3 ⟨rfl, hS5⟩
    have hS5 : ST w0 [] _ [⟨some ⟨b, 0, none⟩, 42, [.int .i64 A, .int .i64 B, .int .i64 C, .int .i64 D], 4⟩, ⟨some ⟨b1, 0, none⟩, 42, [.int .i64 A, .int .i64 B, .int .i64 C, .int .i64 D], 4⟩] [] := hS5
    refine rw_nil ?_
    refine cw_ret ?_
    obtain rfl := some_inj hF1
    exact ret1 Try.results170 (v1 := .agg #[.int .i64 A, .int .i64 B, .int .i64 C, .int .i64 D]) (resAt_cellA (B := some ⟨b1, 0, none⟩) (i := 0) (cs := [.int .i64 A, .int .i64 B, .int .i64 C, .int .i64 D]) (vs := [.int .i64 A, .int .i64 B, .int .i64 C, .int .i64 D]) (hf.get 4 2 rfl) k_ag_42 k_sz_42_4 (hS5.cf (i := 1) rfl) rfl rfl) ⟨rfl, (ST.subR (R' := []) (hS5.sel [] rfl rfl) (fun _ h => by cases h))⟩

theorem c_spec_l2Power (k_ : Int)  (w0 : World)  (hS : ST w0 [] w0 [] []) {r_ : TDyadic} (hF : F_spec_l2Power k_ = some r_) :
    CV Try.prog 143 #[.int .i64 k_] w0 (fun v w' => v = .agg #[.int .i64 r_.Num.A, .int .i64 r_.Num.B, .int .i64 r_.Num.C, .int .i64 r_.Num.D, .int .i64 r_.Exp] ∧ ST w0 [] w' [] []) := by
  unfold F_spec_l2Power at hF
  refine cv_of_cw 7 Try.func143 rfl Try.ntmps143 rfl ?_
  refine cw_seq ?_
  refine cw_region ?_
  refine ss 2 rfl rfl (Ys_alloc (T := 44) (cs := [.int .i64 0, .int .i64 0, .int .i64 0, .int .i64 0, .int .i64 0]) (m := 5) hS k_zero_44 rfl rfl rfl) ?_
  rintro _ w_ ⟨b, rfl, hS1⟩
  refine rw_nil ?_
  refine cw_seq ?_
  refine cw_region ?_
  refine sq 3 rfl rfl (Y_buildS (zs := [.int .i64 0, .int .i64 0, .int .i64 0, .int .i64 0]) (vs := [(0, .int .i64 1)]) (cs := [.int .i64 1, .int .i64 0, .int .i64 0, .int .i64 0]) k_pl_42 k_zero_42 rfl (mpc rfl mpn) rfl) ?_
  refine sq 4 rfl rfl (Y_move (v := .int .i64 k_) rfl rfl) ?_
  obtain ⟨r_1, hc, hF⟩ := bind_inv hF
  refine sc 5 rfl rfl (Yc_func (g := 170) (vs := [.agg #[.int .i64 1, .int .i64 0, .int .i64 0, .int .i64 0], .int .i64 k_]) k_call_170 rfl (mc rfl (mc rfl mn)) (c_spec_l1Turn (TRing.mk 1 0 0 0) k_ _  (hS1.inn0 [] rfl) hc)) ?_
  rintro _ w_1 ⟨rfl, hd⟩
  have hS2 := hS1.out00 hd
  refine sq 6 rfl rfl (Y_buildS (zs := [.int .i64 0, .int .i64 0, .int .i64 0, .int .i64 0, .int .i64 0]) (vs := [(0, .agg #[.int .i64 r_1.A, .int .i64 r_1.B, .int .i64 r_1.C, .int .i64 r_1.D])]) (cs := [.int .i64 r_1.A, .int .i64 r_1.B, .int .i64 r_1.C, .int .i64 r_1.D, .int .i64 0]) k_pl_44 k_zero_44 rfl (mpc rfl mpn) rfl) ?_
  refine ss0 rfl rfl (Ys_store (i := 0) (s := 5) (B := some ⟨b, 0, none⟩) (T' := 44) (v := .agg #[.int .i64 r_1.A, .int .i64 r_1.B, .int .i64 r_1.C, .int .i64 r_1.D, .int .i64 0]) (vs := [.int .i64 r_1.A, .int .i64 r_1.B, .int .i64 r_1.C, .int .i64 r_1.D, .int .i64 0]) (k := 0) (cs' := [.int .i64 r_1.A, .int .i64 r_1.B, .int .i64 r_1.C, .int .i64 r_1.D, .int .i64 0]) hS2 k_sz_44_5 rfl rfl rfl rfl rfl rfl rfl (Nat.le_of_ble_eq_true rfl) rfl rfl) ?_
  rintro _ w_2 ⟨rfl, hS3⟩
  refine rw_nil ?_
  refine cw_ret ?_
  obtain rfl := some_inj hF
  exact ret1 Try.results143 (v1 := .agg #[.int .i64 r_1.A, .int .i64 r_1.B, .int .i64 r_1.C, .int .i64 r_1.D, .int .i64 0]) (resAt_cellA (B := some ⟨b, 0, none⟩) (i := 0) (cs := [.int .i64 r_1.A, .int .i64 r_1.B, .int .i64 r_1.C, .int .i64 r_1.D, .int .i64 0]) (vs := [.int .i64 r_1.A, .int .i64 r_1.B, .int .i64 r_1.C, .int .i64 r_1.D, .int .i64 0]) rfl k_ag_44 k_sz_44_5 (hS3.cf (i := 0) rfl) rfl rfl) ⟨rfl, (ST.subR (R' := []) (hS3.sel [] rfl rfl) (fun _ h => by cases h))⟩

theorem c_spec_l1Cur_anyDyadic (c : Tl1Cur) (B : Option Addr) (B1 : Option Addr) (c1 n : Nat) (w0 : World) (hn : c.code.length = n) (hS : ST w0 (bl [⟨B, 87, [.slice B1 n c1, .int .i64 c.at_, .int .u64 c.seed], 3⟩]) w0 [⟨B, 87, [.slice B1 n c1, .int .i64 c.at_, .int .u64 c.seed], 3⟩] [⟨B1, (c.code.flatMap enc_u8)⟩]) {r_ : TDyadic} {m : Tl1Cur} (hF : F_spec_l1Cur_anyDyadic c = some (r_, m)) :
    CV Try.prog 108 #[pt B 0] w0 (fun v w' => v = .agg #[.int .i64 r_.Num.A, .int .i64 r_.Num.B, .int .i64 r_.Num.C, .int .i64 r_.Num.D, .int .i64 r_.Exp] ∧ ST w0 (bl [⟨B, 87, [.slice B1 n c1, .int .i64 c.at_, .int .u64 c.seed], 3⟩]) w' [⟨B, 87, [.slice B1 n c1, .int .i64 m.at_, .int .u64 m.seed], 3⟩] []) := by
  subst hn
  unfold F_spec_l1Cur_anyDyadic at hF
  refine cv_of_cw 32 Try.func108 rfl Try.ntmps108 rfl ?_
  refine cw_seq ?_
  refine cw_region ?_
  refine ss 2 rfl rfl (Ys_alloc (T := 44) (cs := [.int .i64 0, .int .i64 0, .int .i64 0, .int .i64 0, .int .i64 0]) (m := 5) hS k_zero_44 rfl rfl rfl) ?_
  rintro _ w_ ⟨b, rfl, hS1⟩
  have hS1 : ST w0 (bl [⟨B, 87, [.slice B1 c.code.length c1, .int .i64 c.at_, .int .u64 c.seed], 3⟩]) _ [⟨B, 87, [.slice B1 c.code.length c1, .int .i64 c.at_, .int .u64 c.seed], 3⟩, ⟨some ⟨b, 0, none⟩, 44, [.int .i64 0, .int .i64 0, .int .i64 0, .int .i64 0, .int .i64 0], 5⟩] [⟨B1, (c.code.flatMap enc_u8)⟩] := hS1
  refine rw_nil ?_
  refine cw_seq ?_
  obtain ⟨z, hz, hF1⟩ := bind_inv hF
  refine cw_mid (fun f w => ∃ (at_ : Int) (seed : Int), .inl (at_, seed) = z ∧ FF f [(0, pt B 0), (2, pt (some ⟨b, 0, none⟩) 0)] ∧ ST w0 (bl [⟨B, 87, [.slice B1 c.code.length c1, .int .i64 c.at_, .int .u64 c.seed], 3⟩]) w [⟨B, 87, [.slice B1 c.code.length c1, .int .i64 at_, .int .u64 seed], 3⟩, ⟨some ⟨b, 0, none⟩, 44, [.int .i64 0, .int .i64 0, .int .i64 0, .int .i64 0, .int .i64 0], 5⟩] [⟨B1, (c.code.flatMap enc_u8)⟩]) ?_ ?_
  · skip
    refine cw_seq ?_
    refine cw_region ?_
    refine sq 4 rfl rfl (Y_move (v := pt B 0) rfl rfl) ?_
    obtain ⟨⟨r_1, m1⟩, hc, hz⟩ := bind_inv hz
    refine sc 5 rfl rfl (Yc_func (g := 69) (vs := [pt B 0, .int .i64 14]) k_call_69 rfl (mc rfl (mc rfl mn)) (c_spec_l1Cur_pick c 14 B B1 c1 c.code.length _ rfl (hS1.inn [true, false] rfl [(true, 0)] rfl) hc)) ?_
    rintro _ w_1 ⟨rfl, hd⟩
    have hS3 := hS1.out [true, false] rfl hd
    have hS3 : ST w0 (bl [⟨B, 87, [.slice B1 c.code.length c1, .int .i64 c.at_, .int .u64 c.seed], 3⟩]) _ [⟨some ⟨b, 0, none⟩, 44, [.int .i64 0, .int .i64 0, .int .i64 0, .int .i64 0, .int .i64 0], 5⟩, ⟨B, 87, [.slice B1 c.code.length c1, .int .i64 m1.at_, .int .u64 m1.seed], 3⟩] [⟨B1, (c.code.flatMap enc_u8)⟩] := hS3
    refine rw_nil ?_
    refine cw_block ?_
    refine cw_seq ?_
    refine cw_region ?_
    refine sq 7 rfl rfl (Y_eq (k := .i64) (a := r_1) (b := 0) rfl rfl rfl) ?_
    refine sq 6 rfl rfl (Y_assign (v := .bool (r_1 == 0)) rfl rfl) ?_
    refine rw_nil ?_
    refine cw_cond (b := (r_1 == 0)) rfl (fun hb => ?_) (fun hb => ?_)
    · skip
      have hF2 := ct hz hb
      refine cw_seq ?_
      refine cw_region ?_
      refine sq 8 rfl rfl (Y_move (v := pt B 0) rfl rfl) ?_
      obtain ⟨⟨r_2, m2⟩, hc1, hF2⟩ := bind_inv hF2
      refine sc 9 rfl rfl (Yc_func (g := 140) (vs := [pt B 0]) k_call_140 rfl (mc rfl mn) (c_spec_l1Cur_ring (Tl1Cur.mk c.code m1.at_ m1.seed) B B1 c1 c.code.length _ rfl (hS3.inn [false, true] rfl [(true, 0)] rfl) hc1)) ?_
      rintro _ w_2 ⟨rfl, hd1⟩
      have hS4 := hS3.out [false, true] rfl hd1
      have hS4 : ST w0 (bl [⟨B, 87, [.slice B1 c.code.length c1, .int .i64 c.at_, .int .u64 c.seed], 3⟩]) _ [⟨some ⟨b, 0, none⟩, 44, [.int .i64 0, .int .i64 0, .int .i64 0, .int .i64 0, .int .i64 0], 5⟩, ⟨B, 87, [.slice B1 c.code.length c1, .int .i64 m2.at_, .int .u64 m2.seed], 3⟩] [⟨B1, (c.code.flatMap enc_u8)⟩] := hS4
      refine sq 10 rfl rfl (Y_move (v := pt B 0) rfl rfl) ?_
      refine ss 11 rfl rfl (Ys_bslice (s := 1) (len := 5) (vs := [(0, .int .i64 1), (1, .int .i64 2), (2, .int .i64 60), (3, .int .i64 61), (4, .int .i64 (-1))]) (cs := [.int .i64 1, .int .i64 2, .int .i64 60, .int .i64 61, .int .i64 (-1)]) (zs := [.int .i64 0, .int .i64 0, .int .i64 0, .int .i64 0, .int .i64 0]) (m := 5) hS4 k_sl_48_3 k_sz_3_1 k_zc_3 rfl (mpc rfl (mpc rfl (mpc rfl (mpc rfl (mpc rfl mpn))))) rfl rfl rfl (by kernel_rfl) (by kernel_rfl) rfl) ?_
      rintro _ w_3 ⟨b1, rfl, hS5⟩
      have hS5 : ST w0 (bl [⟨B, 87, [.slice B1 c.code.length c1, .int .i64 c.at_, .int .u64 c.seed], 3⟩]) _ [⟨some ⟨b, 0, none⟩, 44, [.int .i64 0, .int .i64 0, .int .i64 0, .int .i64 0, .int .i64 0], 5⟩, ⟨B, 87, [.slice B1 c.code.length c1, .int .i64 m2.at_, .int .u64 m2.seed], 3⟩, ⟨some ⟨b1, 0, none⟩, 3, ([1, 2, 60, 61, (-1)].flatMap encI), 5 * 1⟩] [⟨B1, (c.code.flatMap enc_u8)⟩] := hS5
      obtain ⟨⟨r_3, m3⟩, hc2, hF2⟩ := bind_inv hF2
      refine sc 12 rfl rfl (Yc_func (g := 53) (vs := [pt B 0, .slice (some ⟨b1, 0, none⟩) 5 5]) k_call_53 rfl (mc rfl (mc rfl mn)) (c_spec_l1Cur_among (Tl1Cur.mk c.code m2.at_ m2.seed) [1, 2, 60, 61, (-1)] B B1 c1 c.code.length (some ⟨b1, 0, none⟩) 5 5 _ rfl rfl (hS5.inn [false, true, false] rfl [(true, 0), (false, 1)] rfl) hc2)) ?_
      rintro _ w_4 ⟨rfl, hd2⟩
      have hS6 := hS5.out [false, true, false] rfl hd2
      have hS6 : ST w0 (bl [⟨B, 87, [.slice B1 c.code.length c1, .int .i64 c.at_, .int .u64 c.seed], 3⟩]) _ [⟨some ⟨b, 0, none⟩, 44, [.int .i64 0, .int .i64 0, .int .i64 0, .int .i64 0, .int .i64 0], 5⟩, ⟨some ⟨b1, 0, none⟩, 3, ([1, 2, 60, 61, (-1)].flatMap encI), 5 * 1⟩, ⟨B, 87, [.slice B1 c.code.length c1, .int .i64 m3.at_, .int .u64 m3.seed], 3⟩] [⟨B1, (c.code.flatMap enc_u8)⟩] := hS6
      refine sq 13 rfl rfl (Y_buildS (zs := [.int .i64 0, .int .i64 0, .int .i64 0, .int .i64 0, .int .i64 0]) (vs := [(0, .agg #[.int .i64 r_2.A, .int .i64 r_2.B, .int .i64 r_2.C, .int .i64 r_2.D]), (1, .int .i64 r_3)]) (cs := [.int .i64 r_2.A, .int .i64 r_2.B, .int .i64 r_2.C, .int .i64 r_2.D, .int .i64 r_3]) k_pl_44 k_zero_44 rfl (mpc rfl (mpc rfl mpn)) rfl) ?_
      refine ss0 rfl rfl (Ys_store (i := 0) (s := 5) (B := some ⟨b, 0, none⟩) (T' := 44) (v := .agg #[.int .i64 r_2.A, .int .i64 r_2.B, .int .i64 r_2.C, .int .i64 r_2.D, .int .i64 r_3]) (vs := [.int .i64 r_2.A, .int .i64 r_2.B, .int .i64 r_2.C, .int .i64 r_2.D, .int .i64 r_3]) (k := 0) (cs' := [.int .i64 r_2.A, .int .i64 r_2.B, .int .i64 r_2.C, .int .i64 r_2.D, .int .i64 r_3]) hS6 k_sz_44_5 rfl rfl rfl rfl rfl rfl rfl (Nat.le_of_ble_eq_true rfl) rfl rfl) ?_
      rintro _ w_5 ⟨rfl, hS7⟩
      have hS7 : ST w0 (bl [⟨B, 87, [.slice B1 c.code.length c1, .int .i64 c.at_, .int .u64 c.seed], 3⟩]) _ [⟨some ⟨b, 0, none⟩, 44, [.int .i64 r_2.A, .int .i64 r_2.B, .int .i64 r_2.C, .int .i64 r_2.D, .int .i64 r_3], 5⟩, ⟨some ⟨b1, 0, none⟩, 3, ([1, 2, 60, 61, (-1)].flatMap encI), 5 * 1⟩, ⟨B, 87, [.slice B1 c.code.length c1, .int .i64 m3.at_, .int .u64 m3.seed], 3⟩] [⟨B1, (c.code.flatMap enc_u8)⟩] := hS7
      refine rw_nil ?_
      refine cw_ret ?_
      obtain rfl := some_inj hF2
      obtain ⟨rfl, rfl⟩ := pr2 (some_inj hF1)
      exact ret1 Try.results108 (v1 := .agg #[.int .i64 r_2.A, .int .i64 r_2.B, .int .i64 r_2.C, .int .i64 r_2.D, .int .i64 r_3]) (resAt_cellA (B := some ⟨b, 0, none⟩) (i := 0) (cs := [.int .i64 r_2.A, .int .i64 r_2.B, .int .i64 r_2.C, .int .i64 r_2.D, .int .i64 r_3]) (vs := [.int .i64 r_2.A, .int .i64 r_2.B, .int .i64 r_2.C, .int .i64 r_2.D, .int .i64 r_3]) rfl k_ag_44 k_sz_44_5 (hS7.cf (i := 0) rfl) rfl rfl) ⟨rfl, (ST.subR (R' := []) (hS7.sel [2] rfl rfl) (fun _ h => by cases h))⟩
    · skip
      have hF3 := cf' hz hb
      refine cw_seq ?_
      refine cw_region ?_
      refine sq 15 rfl rfl (Y_eq (k := .i64) (a := r_1) (b := 1) rfl rfl rfl) ?_
      refine sq 14 rfl rfl (Y_assign (v := .bool (r_1 == 1)) rfl rfl) ?_
      refine rw_nil ?_
      refine cw_cond (b := (r_1 == 1)) rfl (fun hb1 => ?_) (fun hb1 => ?_)
      · skip
        have hF4 := ct hF3 hb1
        refine cw_seq ?_
        refine cw_region ?_
        refine sq 16 rfl rfl (Y_move (v := pt B 0) rfl rfl) ?_
        obtain ⟨⟨r_4, m4⟩, hc3, hF4⟩ := bind_inv hF4
        refine sc 17 rfl rfl (Yc_func (g := 141) (vs := [pt B 0]) k_call_141 rfl (mc rfl mn) (c_spec_l1Cur_anyRing (Tl1Cur.mk c.code m1.at_ m1.seed) B B1 c1 c.code.length _ rfl (hS3.inn [false, true] rfl [(true, 0)] rfl) hc3)) ?_
        rintro _ w_6 ⟨rfl, hd3⟩
        have hS8 := hS3.out [false, true] rfl hd3
        have hS8 : ST w0 (bl [⟨B, 87, [.slice B1 c.code.length c1, .int .i64 c.at_, .int .u64 c.seed], 3⟩]) _ [⟨some ⟨b, 0, none⟩, 44, [.int .i64 0, .int .i64 0, .int .i64 0, .int .i64 0, .int .i64 0], 5⟩, ⟨B, 87, [.slice B1 c.code.length c1, .int .i64 m4.at_, .int .u64 m4.seed], 3⟩] [⟨B1, (c.code.flatMap enc_u8)⟩] := hS8
        refine ss 3 rfl rfl (Ys_alloc (T := 42) (cs := [.int .i64 0, .int .i64 0, .int .i64 0, .int .i64 0]) (m := 4) hS8 k_zero_42 rfl rfl rfl) ?_
        rintro _ w_7 ⟨b2, rfl, hS9⟩
        have hS9 : ST w0 (bl [⟨B, 87, [.slice B1 c.code.length c1, .int .i64 c.at_, .int .u64 c.seed], 3⟩]) _ [⟨some ⟨b, 0, none⟩, 44, [.int .i64 0, .int .i64 0, .int .i64 0, .int .i64 0, .int .i64 0], 5⟩, ⟨B, 87, [.slice B1 c.code.length c1, .int .i64 m4.at_, .int .u64 m4.seed], 3⟩, ⟨some ⟨b2, 0, none⟩, 42, [.int .i64 0, .int .i64 0, .int .i64 0, .int .i64 0], 4⟩] [⟨B1, (c.code.flatMap enc_u8)⟩] := hS9
        refine ss0 rfl rfl (Ys_store (i := 2) (s := 4) (B := some ⟨b2, 0, none⟩) (T' := 42) (v := .agg #[.int .i64 r_4.A, .int .i64 r_4.B, .int .i64 r_4.C, .int .i64 r_4.D]) (vs := [.int .i64 r_4.A, .int .i64 r_4.B, .int .i64 r_4.C, .int .i64 r_4.D]) (k := 0) (cs' := [.int .i64 r_4.A, .int .i64 r_4.B, .int .i64 r_4.C, .int .i64 r_4.D]) hS9 k_sz_42_4 rfl rfl rfl rfl rfl rfl rfl (Nat.le_of_ble_eq_true rfl) rfl rfl) ?_
        rintro _ w_8 ⟨rfl, hS10⟩
        have hS10 : ST w0 (bl [⟨B, 87, [.slice B1 c.code.length c1, .int .i64 c.at_, .int .u64 c.seed], 3⟩]) _ [⟨some ⟨b, 0, none⟩, 44, [.int .i64 0, .int .i64 0, .int .i64 0, .int .i64 0, .int .i64 0], 5⟩, ⟨B, 87, [.slice B1 c.code.length c1, .int .i64 m4.at_, .int .u64 m4.seed], 3⟩, ⟨some ⟨b2, 0, none⟩, 42, [.int .i64 r_4.A, .int .i64 r_4.B, .int .i64 r_4.C, .int .i64 r_4.D], 4⟩] [⟨B1, (c.code.flatMap enc_u8)⟩] := hS10
        refine rw_nil ?_
        refine cw_seq ?_
        refine cw_region ?_
        refine sq 18 rfl rfl (Y_loadA (B := some ⟨b2, 0, none⟩) (i := 0) (cs := [.int .i64 r_4.A, .int .i64 r_4.B, .int .i64 r_4.C, .int .i64 r_4.D]) (vs := [.int .i64 r_4.A, .int .i64 r_4.B, .int .i64 r_4.C, .int .i64 r_4.D]) k_ag_42 k_sz_42_4 rfl rfl (hS10.cf (i := 2) rfl) rfl rfl) ?_
        obtain ⟨r_5, hc4, hF4⟩ := bind_inv hF4
        refine sc 19 rfl rfl (Yc_func (g := 142) (vs := [.agg #[.int .i64 r_4.A, .int .i64 r_4.B, .int .i64 r_4.C, .int .i64 r_4.D]]) k_call_142 rfl (mc rfl mn) (c_spec_l1Good r_4 _  (hS10.inn0 [] rfl) hc4)) ?_
        rintro _ w_9 ⟨rfl, hd4⟩
        have hS11 := hS10.out00 hd4
        have hS11 : ST w0 (bl [⟨B, 87, [.slice B1 c.code.length c1, .int .i64 c.at_, .int .u64 c.seed], 3⟩]) _ [⟨some ⟨b, 0, none⟩, 44, [.int .i64 0, .int .i64 0, .int .i64 0, .int .i64 0, .int .i64 0], 5⟩, ⟨B, 87, [.slice B1 c.code.length c1, .int .i64 m4.at_, .int .u64 m4.seed], 3⟩, ⟨some ⟨b2, 0, none⟩, 42, [.int .i64 r_4.A, .int .i64 r_4.B, .int .i64 r_4.C, .int .i64 r_4.D], 4⟩] [⟨B1, (c.code.flatMap enc_u8)⟩] := hS11
        refine rw_nil ?_
        refine cw_cond (b := r_5) rfl (fun hb2 => ?_) (fun hb2 => ?_)
        · skip
          have hF5 := ct hF4 hb2
          refine cw_seq ?_
          obtain ⟨⟨r_6, m5⟩, hc5, hF5⟩ := bind_inv hF5
          obtain ⟨r_7, hc6, hF5⟩ := bind_inv hF5
          refine ra_start (ST.sel hS11 [2] rfl rfl).fn (by kernel_rfl) ?_
          have hS14 := hS11.drew
          refine ra_q 0 20 (v := .agg #[.int .i64 r_4.A, .int .i64 r_4.B, .int .i64 r_4.C, .int .i64 r_4.D]) rfl rfl rfl (by kernel_rfl) (by kernel_rfl) (by kernel_rfl) (ST.sel hS14 [2] rfl rfl) (fun w' hw' => (Y_loadA (B := some ⟨b2, 0, none⟩) (i := 0) (cs := [.int .i64 r_4.A, .int .i64 r_4.B, .int .i64 r_4.C, .int .i64 r_4.D]) (vs := [.int .i64 r_4.A, .int .i64 r_4.B, .int .i64 r_4.C, .int .i64 r_4.D]) k_ag_42 k_sz_42_4 rfl rfl (ST.cf hw' (i := 0) rfl) rfl rfl)) ?_
          refine ra_q 1 21 (v := pt B 0) rfl rfl rfl (by kernel_rfl) (by kernel_rfl) (by kernel_rfl) (ST.sel hS14 [2] rfl rfl) (fun w' hw' => (Y_move (v := pt B 0) rfl rfl)) ?_
          refine ra_all (rs := [2]) (by kernel_rfl) rfl ?_
          refine ra_s 22 (i := 2) rfl rfl rfl (Ys_bslice (s := 1) (len := 4) (vs := [(0, .int .i64 0), (1, .int .i64 3), (2, .int .i64 59), (3, .int .i64 60)]) (cs := [.int .i64 0, .int .i64 3, .int .i64 59, .int .i64 60]) (zs := [.int .i64 0, .int .i64 0, .int .i64 0, .int .i64 0]) (m := 4) hS14 k_sl_48_3 k_sz_3_1 k_zc_3 rfl (mpc rfl (mpc rfl (mpc rfl (mpc rfl mpn)))) rfl rfl rfl (by kernel_rfl) (by kernel_rfl) rfl) ?_ ?_
          · rintro _ w_10 ⟨b3, rfl, hS15⟩
            have hS15 : ST w0 (bl [⟨B, 87, [.slice B1 c.code.length c1, .int .i64 c.at_, .int .u64 c.seed], 3⟩]) _ [⟨some ⟨b, 0, none⟩, 44, [.int .i64 0, .int .i64 0, .int .i64 0, .int .i64 0, .int .i64 0], 5⟩, ⟨B, 87, [.slice B1 c.code.length c1, .int .i64 m4.at_, .int .u64 m4.seed], 3⟩, ⟨some ⟨b2, 0, none⟩, 42, [.int .i64 r_4.A, .int .i64 r_4.B, .int .i64 r_4.C, .int .i64 r_4.D], 4⟩, ⟨some ⟨b3, 0, none⟩, 3, ([0, 3, 59, 60].flatMap encI), 4 * 1⟩] [⟨B1, (c.code.flatMap enc_u8)⟩] := hS15
            refine ⟨(ST.sel hS15 [2] rfl rfl), ?_⟩
            refine ra_all (rs := [3]) (by kernel_rfl) rfl ?_
            refine ra_c 23 (i := 3) rfl rfl rfl (Yc_func (g := 53) (vs := [pt B 0, .slice (some ⟨b3, 0, none⟩) 4 4]) k_call_53 rfl (mc rfl (mc rfl mn)) (c_spec_l1Cur_among (Tl1Cur.mk c.code m4.at_ m4.seed) [0, 3, 59, 60] B B1 c1 c.code.length (some ⟨b3, 0, none⟩) 4 4 _ rfl rfl (hS15.inn [false, true, false, false] rfl [(true, 0), (false, 2)] rfl) hc5)) ?_ ?_
            · rintro _ w_11 ⟨rfl, hd5⟩
              have hS16 := hS15.out [false, true, false, false] rfl hd5
              have hS16 : ST w0 (bl [⟨B, 87, [.slice B1 c.code.length c1, .int .i64 c.at_, .int .u64 c.seed], 3⟩]) _ [⟨some ⟨b, 0, none⟩, 44, [.int .i64 0, .int .i64 0, .int .i64 0, .int .i64 0, .int .i64 0], 5⟩, ⟨some ⟨b2, 0, none⟩, 42, [.int .i64 r_4.A, .int .i64 r_4.B, .int .i64 r_4.C, .int .i64 r_4.D], 4⟩, ⟨some ⟨b3, 0, none⟩, 3, ([0, 3, 59, 60].flatMap encI), 4 * 1⟩, ⟨B, 87, [.slice B1 c.code.length c1, .int .i64 m5.at_, .int .u64 m5.seed], 3⟩] [⟨B1, (c.code.flatMap enc_u8)⟩] := hS16
              refine ⟨(ST.sel hS16 [1] rfl rfl), ?_⟩
              refine ra_all (rs := [4]) (by kernel_rfl) rfl ?_
              refine ra_c 24 (i := 4) rfl rfl rfl (Yc_func (g := 139) (vs := [.agg #[.int .i64 r_4.A, .int .i64 r_4.B, .int .i64 r_4.C, .int .i64 r_4.D], .int .i64 r_6]) k_call_139 rfl (mc rfl (mc rfl mn)) (c_spec_l2Low r_4 r_6 _  (hS16.inn0 [] rfl) hc6)) ?_ ?_
              · rintro _ w_12 ⟨rfl, hd6⟩
                have hS17 := hS16.out00 hd6
                have hS17 : ST w0 (bl [⟨B, 87, [.slice B1 c.code.length c1, .int .i64 c.at_, .int .u64 c.seed], 3⟩]) _ [⟨some ⟨b, 0, none⟩, 44, [.int .i64 0, .int .i64 0, .int .i64 0, .int .i64 0, .int .i64 0], 5⟩, ⟨some ⟨b2, 0, none⟩, 42, [.int .i64 r_4.A, .int .i64 r_4.B, .int .i64 r_4.C, .int .i64 r_4.D], 4⟩, ⟨some ⟨b3, 0, none⟩, 3, ([0, 3, 59, 60].flatMap encI), 4 * 1⟩, ⟨B, 87, [.slice B1 c.code.length c1, .int .i64 m5.at_, .int .u64 m5.seed], 3⟩] [⟨B1, (c.code.flatMap enc_u8)⟩] := hS17
                refine ⟨(ST.sel hS17 [1] rfl rfl), ?_⟩
                refine ra_all (rs := [5]) (by kernel_rfl) rfl ?_
                refine ra_s0 (i := 5) rfl rfl rfl (Ys_store (i := 0) (s := 5) (B := some ⟨b, 0, none⟩) (T' := 44) (v := .agg #[.int .i64 r_7.Num.A, .int .i64 r_7.Num.B, .int .i64 r_7.Num.C, .int .i64 r_7.Num.D, .int .i64 r_7.Exp]) (vs := [.int .i64 r_7.Num.A, .int .i64 r_7.Num.B, .int .i64 r_7.Num.C, .int .i64 r_7.Num.D, .int .i64 r_7.Exp]) (k := 0) (cs' := [.int .i64 r_7.Num.A, .int .i64 r_7.Num.B, .int .i64 r_7.Num.C, .int .i64 r_7.Num.D, .int .i64 r_7.Exp]) hS17 k_sz_44_5 rfl rfl rfl rfl rfl rfl rfl (Nat.le_of_ble_eq_true rfl) rfl rfl) ?_ ?_
                · rintro _ w_13 ⟨rfl, hS18⟩
                  have hS18 : ST w0 (bl [⟨B, 87, [.slice B1 c.code.length c1, .int .i64 c.at_, .int .u64 c.seed], 3⟩]) _ [⟨some ⟨b, 0, none⟩, 44, [.int .i64 r_7.Num.A, .int .i64 r_7.Num.B, .int .i64 r_7.Num.C, .int .i64 r_7.Num.D, .int .i64 r_7.Exp], 5⟩, ⟨some ⟨b2, 0, none⟩, 42, [.int .i64 r_4.A, .int .i64 r_4.B, .int .i64 r_4.C, .int .i64 r_4.D], 4⟩, ⟨some ⟨b3, 0, none⟩, 3, ([0, 3, 59, 60].flatMap encI), 4 * 1⟩, ⟨B, 87, [.slice B1 c.code.length c1, .int .i64 m5.at_, .int .u64 m5.seed], 3⟩] [⟨B1, (c.code.flatMap enc_u8)⟩] := hS18
                  refine ⟨(ST.sel hS18 [1] rfl rfl), ?_⟩
                  refine ra_done (by kernel_rfl) ?_
                  refine cw_ret ?_
                  obtain rfl := some_inj hF5
                  obtain ⟨rfl, rfl⟩ := pr2 (some_inj hF1)
                  exact ret1 Try.results108 (v1 := .agg #[.int .i64 r_7.Num.A, .int .i64 r_7.Num.B, .int .i64 r_7.Num.C, .int .i64 r_7.Num.D, .int .i64 r_7.Exp]) (resAt_cellA (B := some ⟨b, 0, none⟩) (i := 0) (cs := [.int .i64 r_7.Num.A, .int .i64 r_7.Num.B, .int .i64 r_7.Num.C, .int .i64 r_7.Num.D, .int .i64 r_7.Exp]) (vs := [.int .i64 r_7.Num.A, .int .i64 r_7.Num.B, .int .i64 r_7.Num.C, .int .i64 r_7.Num.D, .int .i64 r_7.Exp]) rfl k_ag_44 k_sz_44_5 (hS18.cf (i := 0) rfl) rfl rfl) ⟨rfl, (ST.subR (R' := []) (hS18.sel [3] rfl rfl) (fun _ h => by cases h))⟩
                exact allR_nil
              exact allR_nil
            exact allR_nil
          exact allR_nil
        · skip
          have hF6 := cf' hF4 hb2
          refine cw_skip ?_
          exact ⟨m4.at_, m4.seed, (some_inj hF6), (FF.cons rfl (FF.cons rfl FF.nil)), (hS11.sel [1, 0] rfl rfl)⟩
      · skip
        have hF7 := cf' hF3 hb1
        refine cw_seq ?_
        refine cw_region ?_
        refine sq 26 rfl rfl (Y_eq (k := .i64) (a := r_1) (b := 2) rfl rfl rfl) ?_
        refine sq 25 rfl rfl (Y_assign (v := .bool (r_1 == 2)) rfl rfl) ?_
        refine rw_nil ?_
        refine cw_cond (b := (r_1 == 2)) rfl (fun hb3 => ?_) (fun hb3 => ?_)
        · skip
          have hF8 := ct hF7 hb3
          refine cw_seq ?_
          refine cw_region ?_
          refine sq 27 rfl rfl (Y_move (v := pt B 0) rfl rfl) ?_
          obtain ⟨⟨r_8, m6⟩, hc7, hF8⟩ := bind_inv hF8
          refine sc 28 rfl rfl (Yc_func (g := 69) (vs := [pt B 0, .int .i64 8]) k_call_69 rfl (mc rfl (mc rfl mn)) (c_spec_l1Cur_pick (Tl1Cur.mk c.code m1.at_ m1.seed) 8 B B1 c1 c.code.length _ rfl (hS3.inn [false, true] rfl [(true, 0)] rfl) hc7)) ?_
          rintro _ w_14 ⟨rfl, hd7⟩
          have hS19 := hS3.out [false, true] rfl hd7
          have hS19 : ST w0 (bl [⟨B, 87, [.slice B1 c.code.length c1, .int .i64 c.at_, .int .u64 c.seed], 3⟩]) _ [⟨some ⟨b, 0, none⟩, 44, [.int .i64 0, .int .i64 0, .int .i64 0, .int .i64 0, .int .i64 0], 5⟩, ⟨B, 87, [.slice B1 c.code.length c1, .int .i64 m6.at_, .int .u64 m6.seed], 3⟩] [⟨B1, (c.code.flatMap enc_u8)⟩] := hS19
          obtain ⟨r_9, hc8, hF8⟩ := bind_inv hF8
          refine sc 29 rfl rfl (Yc_func (g := 143) (vs := [.int .i64 r_8]) k_call_143 rfl (mc rfl mn) (c_spec_l2Power r_8 _  (hS19.inn0 [] rfl) hc8)) ?_
          rintro _ w_15 ⟨rfl, hd8⟩
          have hS20 := hS19.out00 hd8
          have hS20 : ST w0 (bl [⟨B, 87, [.slice B1 c.code.length c1, .int .i64 c.at_, .int .u64 c.seed], 3⟩]) _ [⟨some ⟨b, 0, none⟩, 44, [.int .i64 0, .int .i64 0, .int .i64 0, .int .i64 0, .int .i64 0], 5⟩, ⟨B, 87, [.slice B1 c.code.length c1, .int .i64 m6.at_, .int .u64 m6.seed], 3⟩] [⟨B1, (c.code.flatMap enc_u8)⟩] := hS20
          refine ss0 rfl rfl (Ys_store (i := 0) (s := 5) (B := some ⟨b, 0, none⟩) (T' := 44) (v := .agg #[.int .i64 r_9.Num.A, .int .i64 r_9.Num.B, .int .i64 r_9.Num.C, .int .i64 r_9.Num.D, .int .i64 r_9.Exp]) (vs := [.int .i64 r_9.Num.A, .int .i64 r_9.Num.B, .int .i64 r_9.Num.C, .int .i64 r_9.Num.D, .int .i64 r_9.Exp]) (k := 0) (cs' := [.int .i64 r_9.Num.A, .int .i64 r_9.Num.B, .int .i64 r_9.Num.C, .int .i64 r_9.Num.D, .int .i64 r_9.Exp]) hS20 k_sz_44_5 rfl rfl rfl rfl rfl rfl rfl (Nat.le_of_ble_eq_true rfl) rfl rfl) ?_
          rintro _ w_16 ⟨rfl, hS21⟩
          have hS21 : ST w0 (bl [⟨B, 87, [.slice B1 c.code.length c1, .int .i64 c.at_, .int .u64 c.seed], 3⟩]) _ [⟨some ⟨b, 0, none⟩, 44, [.int .i64 r_9.Num.A, .int .i64 r_9.Num.B, .int .i64 r_9.Num.C, .int .i64 r_9.Num.D, .int .i64 r_9.Exp], 5⟩, ⟨B, 87, [.slice B1 c.code.length c1, .int .i64 m6.at_, .int .u64 m6.seed], 3⟩] [⟨B1, (c.code.flatMap enc_u8)⟩] := hS21
          refine rw_nil ?_
          refine cw_ret ?_
          obtain rfl := some_inj hF8
          obtain ⟨rfl, rfl⟩ := pr2 (some_inj hF1)
          exact ret1 Try.results108 (v1 := .agg #[.int .i64 r_9.Num.A, .int .i64 r_9.Num.B, .int .i64 r_9.Num.C, .int .i64 r_9.Num.D, .int .i64 r_9.Exp]) (resAt_cellA (B := some ⟨b, 0, none⟩) (i := 0) (cs := [.int .i64 r_9.Num.A, .int .i64 r_9.Num.B, .int .i64 r_9.Num.C, .int .i64 r_9.Num.D, .int .i64 r_9.Exp]) (vs := [.int .i64 r_9.Num.A, .int .i64 r_9.Num.B, .int .i64 r_9.Num.C, .int .i64 r_9.Num.D, .int .i64 r_9.Exp]) rfl k_ag_44 k_sz_44_5 (hS21.cf (i := 0) rfl) rfl rfl) ⟨rfl, (ST.subR (R' := []) (hS21.sel [1] rfl rfl) (fun _ h => by cases h))⟩
        · skip
          have hF9 := cf' hF7 hb3
          refine cw_skip ?_
          exact ⟨m1.at_, m1.seed, (some_inj hF9), (FF.cons rfl (FF.cons rfl FF.nil)), (hS3.sel [1, 0] rfl rfl)⟩
  rintro f w ⟨at_, seed, rfl, hf, hS2⟩
  refine cw_seq ?_
  refine cw_region ?_
  refine sq 30 rfl rfl (Y_move (v := pt B 0) rfl (hf.get 0 0 rfl)) ?_
  obtain ⟨⟨r_10, m7⟩, hc9, hF1⟩ := bind_inv hF1
  refine sc 31 rfl rfl (Yc_func (g := 107) (vs := [pt B 0]) k_call_107 rfl (mc rfl mn) (c_spec_l1Cur_dyadic (Tl1Cur.mk c.code at_ seed) B B1 c1 c.code.length _ rfl (hS2.inn [true, false] rfl [(true, 0)] rfl) hc9)) ?_
  rintro _ w_17 ⟨rfl, hd9⟩
  have hS22 := hS2.out [true, false] rfl hd9
  have hS22 : ST w0 (bl [⟨B, 87, [.slice B1 c.code.length c1, .int .i64 c.at_, .int .u64 c.seed], 3⟩]) _ [⟨some ⟨b, 0, none⟩, 44, [.int .i64 0, .int .i64 0, .int .i64 0, .int .i64 0, .int .i64 0], 5⟩, ⟨B, 87, [.slice B1 c.code.length c1, .int .i64 m7.at_, .int .u64 m7.seed], 3⟩] [⟨B1, (c.code.flatMap enc_u8)⟩] := hS22
  refine ss0 rfl rfl (Ys_store (i := 0) (s := 5) (B := some ⟨b, 0, none⟩) (T' := 44) (v := .agg #[.int .i64 r_10.Num.A, .int .i64 r_10.Num.B, .int .i64 r_10.Num.C, .int .i64 r_10.Num.D, .int .i64 r_10.Exp]) (vs := [.int .i64 r_10.Num.A, .int .i64 r_10.Num.B, .int .i64 r_10.Num.C, .int .i64 r_10.Num.D, .int .i64 r_10.Exp]) (k := 0) (cs' := [.int .i64 r_10.Num.A, .int .i64 r_10.Num.B, .int .i64 r_10.Num.C, .int .i64 r_10.Num.D, .int .i64 r_10.Exp]) hS22 k_sz_44_5 rfl (hf.get 2 1 rfl) rfl rfl rfl rfl rfl (Nat.le_of_ble_eq_true rfl) rfl rfl) ?_
  rintro _ w_18 ⟨rfl, hS23⟩
  have hS23 : ST w0 (bl [⟨B, 87, [.slice B1 c.code.length c1, .int .i64 c.at_, .int .u64 c.seed], 3⟩]) _ [⟨some ⟨b, 0, none⟩, 44, [.int .i64 r_10.Num.A, .int .i64 r_10.Num.B, .int .i64 r_10.Num.C, .int .i64 r_10.Num.D, .int .i64 r_10.Exp], 5⟩, ⟨B, 87, [.slice B1 c.code.length c1, .int .i64 m7.at_, .int .u64 m7.seed], 3⟩] [⟨B1, (c.code.flatMap enc_u8)⟩] := hS23
  refine rw_nil ?_
  refine cw_ret ?_
  obtain ⟨rfl, rfl⟩ := pr2 (some_inj hF1)
  exact ret1 Try.results108 (v1 := .agg #[.int .i64 r_10.Num.A, .int .i64 r_10.Num.B, .int .i64 r_10.Num.C, .int .i64 r_10.Num.D, .int .i64 r_10.Exp]) (resAt_cellA (B := some ⟨b, 0, none⟩) (i := 0) (cs := [.int .i64 r_10.Num.A, .int .i64 r_10.Num.B, .int .i64 r_10.Num.C, .int .i64 r_10.Num.D, .int .i64 r_10.Exp]) (vs := [.int .i64 r_10.Num.A, .int .i64 r_10.Num.B, .int .i64 r_10.Num.C, .int .i64 r_10.Num.D, .int .i64 r_10.Exp]) (hf.get 2 1 rfl) k_ag_44 k_sz_44_5 (hS23.cf (i := 0) rfl) rfl rfl) ⟨rfl, (ST.subR (R' := []) (hS23.sel [1] rfl rfl) (fun _ h => by cases h))⟩

theorem c_spec_l3Unit (n : Int)  (w0 : World)  (hS : ST w0 [] w0 [] []) {r_ : TMatrix} (hF : F_spec_l3Unit n = some r_) :
    CV Try.prog 109 #[.int .i64 n] w0 (fun v w' => ∃ (B : Option Addr) (c : Nat), v = .agg #[.int .i64 r_.Rows, .int .i64 r_.Cols, .slice B r_.Cells.length c] ∧ ST w0 [] w' [⟨B, 44, (r_.Cells.flatMap enc_Dyadic), c * 5⟩] []) := by
  unfold F_spec_l3Unit at hF
  refine cv_of_cw 27 Try.func109 rfl Try.ntmps109 rfl ?_
  refine cw_seq ?_
  refine cw_region ?_
  refine ss 2 rfl rfl (Ys_alloc (T := 26) (cs := [.int .i64 0, .int .i64 0, .slice none 0 0]) (m := 3) hS k_zero_26 rfl rfl rfl) ?_
  rintro _ w_ ⟨b, rfl, hS1⟩
  refine rw_nil ?_
  refine cw_seq ?_
  refine cw_region ?_
  refine sq 5 rfl rfl (Y_move (v := .int .i64 n) rfl rfl) ?_
  refine sq 6 rfl rfl (Y_move (v := .int .i64 n) rfl rfl) ?_
  refine sq 7 rfl rfl (Y_move (v := .int .i64 n) rfl rfl) ?_
  refine sq 8 rfl rfl (Y_move (v := .int .i64 n) rfl rfl) ?_
  refine sq 9 rfl rfl (Y_mul (k := .i64) (a := n) (b := n) rfl rfl rfl) ?_
  obtain ⟨hmk, hF⟩ := chk_inv hF
  refine ss 10 rfl rfl (Ys_make (s := 5) (by' := 40) (nn := (IntKind.i64.wrap (n * n)).toNat) (a := (IntKind.i64.wrap (n * n))) (b := (IntKind.i64.wrap (n * n))) (cs := ((List.replicate ((IntKind.i64.wrap (n * n)).toNat) (TDyadic.mk (TRing.mk 0 0 0 0) 0)).flatMap enc_Dyadic)) hS1 k_sl_24_44 k_sz_44_5 k_by_44_40 k_zero_44 rfl rfl rfl rfl hmk.1 rfl (by have := hmk; omega) (by have := hmk; omega) (by omega) (fm_rep (enc := enc_Dyadic) (d := (TDyadic.mk (TRing.mk 0 0 0 0) 0)) rfl _)) ?_
  rintro _ w_1 ⟨b1, rfl, hS2⟩
  have hS2 : ST w0 [] _ [⟨some ⟨b, 0, none⟩, 26, [.int .i64 0, .int .i64 0, .slice none 0 0], 3⟩, ⟨some ⟨b1, 0, none⟩, 44, ((List.replicate ((IntKind.i64.wrap (n * n)).toNat) (TDyadic.mk (TRing.mk 0 0 0 0) 0)).flatMap enc_Dyadic), ((IntKind.i64.wrap (n * n)).toNat) * 5⟩] [] := hS2
  refine sq 11 rfl rfl (Y_buildS (zs := [.int .i64 0, .int .i64 0, .slice none 0 0]) (vs := [(0, .int .i64 n), (1, .int .i64 n), (2, .slice (some ⟨b1, 0, none⟩) ((IntKind.i64.wrap (n * n)).toNat) ((IntKind.i64.wrap (n * n)).toNat))]) (cs := [.int .i64 n, .int .i64 n, .slice (some ⟨b1, 0, none⟩) ((IntKind.i64.wrap (n * n)).toNat) ((IntKind.i64.wrap (n * n)).toNat)]) k_pl_26 k_zero_26 rfl (mpc rfl (mpc rfl (mpc rfl mpn))) rfl) ?_
  refine ss 3 rfl rfl (Ys_alloc (T := 26) (cs := [.int .i64 0, .int .i64 0, .slice none 0 0]) (m := 3) hS2 k_zero_26 rfl rfl rfl) ?_
  rintro _ w_2 ⟨b2, rfl, hS3⟩
  have hS3 : ST w0 [] _ [⟨some ⟨b, 0, none⟩, 26, [.int .i64 0, .int .i64 0, .slice none 0 0], 3⟩, ⟨some ⟨b1, 0, none⟩, 44, ((List.replicate ((IntKind.i64.wrap (n * n)).toNat) (TDyadic.mk (TRing.mk 0 0 0 0) 0)).flatMap enc_Dyadic), ((IntKind.i64.wrap (n * n)).toNat) * 5⟩, ⟨some ⟨b2, 0, none⟩, 26, [.int .i64 0, .int .i64 0, .slice none 0 0], 3⟩] [] := hS3
  refine ss0 rfl rfl (Ys_store (i := 2) (s := 3) (B := some ⟨b2, 0, none⟩) (T' := 26) (v := .agg #[.int .i64 n, .int .i64 n, .slice (some ⟨b1, 0, none⟩) ((IntKind.i64.wrap (n * n)).toNat) ((IntKind.i64.wrap (n * n)).toNat)]) (vs := [.int .i64 n, .int .i64 n, .slice (some ⟨b1, 0, none⟩) ((IntKind.i64.wrap (n * n)).toNat) ((IntKind.i64.wrap (n * n)).toNat)]) (k := 0) (cs' := [.int .i64 n, .int .i64 n, .slice (some ⟨b1, 0, none⟩) ((IntKind.i64.wrap (n * n)).toNat) ((IntKind.i64.wrap (n * n)).toNat)]) hS3 k_sz_26_3 rfl rfl rfl rfl rfl rfl rfl (Nat.le_of_ble_eq_true rfl) rfl rfl) ?_
  rintro _ w_3 ⟨rfl, hS4⟩
  have hS4 : ST w0 [] _ [⟨some ⟨b, 0, none⟩, 26, [.int .i64 0, .int .i64 0, .slice none 0 0], 3⟩, ⟨some ⟨b1, 0, none⟩, 44, ((List.replicate ((IntKind.i64.wrap (n * n)).toNat) (TDyadic.mk (TRing.mk 0 0 0 0) 0)).flatMap enc_Dyadic), ((IntKind.i64.wrap (n * n)).toNat) * 5⟩, ⟨some ⟨b2, 0, none⟩, 26, [.int .i64 n, .int .i64 n, .slice (some ⟨b1, 0, none⟩) ((IntKind.i64.wrap (n * n)).toNat) ((IntKind.i64.wrap (n * n)).toNat)], 3⟩] [] := hS4
  refine rw_nil ?_
  refine cw_seq ?_
  refine cw_seq ?_
  refine cw_region ?_
  refine sq 4 rfl rfl (Y_assign (v := .int .i64 0) rfl rfl) ?_
  refine rw_nil ?_
  obtain ⟨hN, hF⟩ := chk_inv hF
  obtain ⟨z, hz, hF1⟩ := bind_inv hF
  refine cw_block ?_
  refine cw_loop (fun k f w => ∃ (i1 : Nat) (Cells : List TDyadic), FF f [(0, .int .i64 n), (2, pt (some ⟨b, 0, none⟩) 0), (3, pt (some ⟨b2, 0, none⟩) 0), (4, .int .i64 (i1 : Int))] ∧ Cells.length = (IntKind.i64.wrap (n * n)).toNat ∧ ST w0 [] w [⟨some ⟨b, 0, none⟩, 26, [.int .i64 0, .int .i64 0, .slice none 0 0], 3⟩, ⟨some ⟨b2, 0, none⟩, 26, [.int .i64 n, .int .i64 n, .slice (some ⟨b1, 0, none⟩) ((IntKind.i64.wrap (n * n)).toNat) ((IntKind.i64.wrap (n * n)).toNat)], 3⟩, ⟨some ⟨b1, 0, none⟩, 44, (Cells.flatMap enc_Dyadic), ((IntKind.i64.wrap (n * n)).toNat) * 5⟩] [] ∧ i1 + k = n.toNat ∧ forN (F_spec_l3Unit_l1 n) k i1 Cells = some z) n.toNat ⟨0, (List.replicate ((IntKind.i64.wrap (n * n)).toNat) (TDyadic.mk (TRing.mk 0 0 0 0) 0)), (FF.cons rfl (FF.cons rfl (FF.cons rfl (FF.cons rfl FF.nil)))), List.length_replicate, (hS4.sel [0, 2, 1] rfl rfl), Nat.zero_add _, hz⟩ ?_
  rintro k_ f w ⟨i1, Cells, hf, hl, hS5, hik, hL⟩
  refine cw_seq ?_
  refine cw_seq ?_
  refine cw_region ?_
  refine sq 12 rfl rfl (Y_move (v := .int .i64 (i1 : Int)) rfl (hf.get 4 3 rfl)) ?_
  refine sq 13 rfl rfl (Y_move (v := .int .i64 n) rfl (hf.get 0 0 rfl)) ?_
  refine sq 14 rfl rfl (Y_lt (k := .i64) (a := (i1 : Int)) (b := n) rfl rfl rfl) ?_
  refine rw_nil ?_
  refine cw_cond (b := (decide ((i1 : Int) < n))) rfl (fun hlt => ?_) (fun hlt => ?_)
  · skip
    have hlt1 : i1 < n.toNat := by have h := of_decide_eq_true hlt; omega
    obtain ⟨k_1, rfl⟩ : ∃ k2, k_ = k2 + 1 := ⟨k_ - 1, by omega⟩
    obtain ⟨y, hb, hL1⟩ := forN_go hL
    unfold F_spec_l3Unit_l1 at hb
    refine cw_skip ?_
    refine cw_seq ?_
    refine cw_block ?_
    obtain ⟨r_1, hc, hb⟩ := bind_inv hb
    obtain ⟨x, hx, hb⟩ := bind_inv hb
    refine ra_start (ST.sel hS5 [0, 1] rfl rfl).fn (by kernel_rfl) ?_
    have hS7 := hS5.drew
    refine ra_q 0 17 (v := pt (some ⟨b2, 0, none⟩) 2) rfl rfl rfl (by kernel_rfl) (by kernel_rfl) (by kernel_rfl) (ST.sel hS7 [0, 1] rfl rfl) (fun w' hw' => (Y_fieldAddr (B := some ⟨b2, 0, none⟩) (i := 0) (s := 0) k_fd_26_2_2_24 k_sz_24_1 rfl (hf.get 3 2 rfl))) ?_
    refine ra_q 1 18 (v := .slice (some ⟨b1, 0, none⟩) ((IntKind.i64.wrap (n * n)).toNat) ((IntKind.i64.wrap (n * n)).toNat)) rfl rfl rfl (by kernel_rfl) (by kernel_rfl) (by kernel_rfl) (ST.sel hS7 [0, 1] rfl rfl) (fun w' hw' => (Y_load1 (B := some ⟨b2, 0, none⟩) (i := 2) (cs := [.int .i64 n, .int .i64 n, .slice (some ⟨b1, 0, none⟩) ((IntKind.i64.wrap (n * n)).toNat) ((IntKind.i64.wrap (n * n)).toNat)]) (v := .slice (some ⟨b1, 0, none⟩) ((IntKind.i64.wrap (n * n)).toNat) ((IntKind.i64.wrap (n * n)).toNat)) k_sc_24 rfl rfl (ST.cf hw' (i := 1) rfl) rfl)) ?_
    refine ra_q 2 19 (v := .int .i64 (i1 : Int)) rfl rfl rfl (by kernel_rfl) (by kernel_rfl) (by kernel_rfl) (ST.sel hS7 [0, 1] rfl rfl) (fun w' hw' => (Y_move (v := .int .i64 (i1 : Int)) rfl (hf.get 4 3 rfl))) ?_
    refine ra_q 3 20 (v := .int .i64 n) rfl rfl rfl (by kernel_rfl) (by kernel_rfl) (by kernel_rfl) (ST.sel hS7 [0, 1] rfl rfl) (fun w' hw' => (Y_move (v := .int .i64 n) rfl (hf.get 0 0 rfl))) ?_
    refine ra_q 4 21 (v := .int .i64 (IntKind.i64.wrap ((i1 : Int) * n))) rfl rfl rfl (by kernel_rfl) (by kernel_rfl) (by kernel_rfl) (ST.sel hS7 [0, 1] rfl rfl) (fun w' hw' => (Y_mul (k := .i64) (a := (i1 : Int)) (b := n) rfl rfl rfl)) ?_
    refine ra_q 5 22 (v := .int .i64 (i1 : Int)) rfl rfl rfl (by kernel_rfl) (by kernel_rfl) (by kernel_rfl) (ST.sel hS7 [0, 1] rfl rfl) (fun w' hw' => (Y_move (v := .int .i64 (i1 : Int)) rfl (hf.get 4 3 rfl))) ?_
    refine ra_q 6 23 (v := .int .i64 (IntKind.i64.wrap ((IntKind.i64.wrap ((i1 : Int) * n)) + (i1 : Int)))) rfl rfl rfl (by kernel_rfl) (by kernel_rfl) (by kernel_rfl) (ST.sel hS7 [0, 1] rfl rfl) (fun w' hw' => (Y_add (k := .i64) (a := (IntKind.i64.wrap ((i1 : Int) * n))) (b := (i1 : Int)) rfl rfl rfl)) ?_
    refine ra_all (rs := [7]) (by kernel_rfl) rfl ?_
    refine ra_c 24 (i := 7) rfl rfl rfl (Yc_func (g := 143) (vs := [.int .i64 0]) k_call_143 rfl (mc rfl mn) (c_spec_l2Power 0 _  (hS7.inn0 [] rfl) hc)) ?_ ?_
    · rintro _ w_4 ⟨rfl, hd⟩
      have hS8 := hS7.out00 hd
      have hS8 : ST w0 [] _ [⟨some ⟨b, 0, none⟩, 26, [.int .i64 0, .int .i64 0, .slice none 0 0], 3⟩, ⟨some ⟨b2, 0, none⟩, 26, [.int .i64 n, .int .i64 n, .slice (some ⟨b1, 0, none⟩) ((IntKind.i64.wrap (n * n)).toNat) ((IntKind.i64.wrap (n * n)).toNat)], 3⟩, ⟨some ⟨b1, 0, none⟩, 44, (Cells.flatMap enc_Dyadic), ((IntKind.i64.wrap (n * n)).toNat) * 5⟩] [] := hS8
      refine ⟨(ST.sel hS8 [0, 1] rfl rfl), ?_⟩
      refine ra_all (rs := [8]) (by kernel_rfl) rfl ?_
      refine ra_y 25 (i := 8) (v := pt (some ⟨b1, 0, none⟩) ((IntKind.i64.wrap ((IntKind.i64.wrap ((i1 : Int) * n)) + (i1 : Int))).toNat * 5)) rfl rfl rfl (Y_index (B := some ⟨b1, 0, none⟩) (m := (IntKind.i64.wrap (n * n)).toNat) (c := (IntKind.i64.wrap (n * n)).toNat) (k := .i64) (i := (IntKind.i64.wrap ((IntKind.i64.wrap ((i1 : Int) * n)) + (i1 : Int)))) k_sl_24_44 k_sz_44_5 rfl rfl rfl (gi_isSome enc_Dyadic_len rfl (hS8.cf (i := 2) rfl) hx) (getI_nn hx) (getI_ltI hx hl)) (ST.sel hS8 [0, 1] rfl rfl) ?_ ?_
      · skip
        refine ra_all (rs := [9]) (by kernel_rfl) rfl ?_
        refine ra_s0 (i := 9) rfl rfl rfl (Ys_store (i := 2) (s := 5) (B := some ⟨b1, 0, none⟩) (T' := 44) (v := .agg #[.int .i64 r_1.Num.A, .int .i64 r_1.Num.B, .int .i64 r_1.Num.C, .int .i64 r_1.Num.D, .int .i64 r_1.Exp]) (vs := [.int .i64 r_1.Num.A, .int .i64 r_1.Num.B, .int .i64 r_1.Num.C, .int .i64 r_1.Num.D, .int .i64 r_1.Exp]) (k := (IntKind.i64.wrap ((IntKind.i64.wrap ((i1 : Int) * n)) + (i1 : Int))).toNat * 5) (cs' := ((Cells.set (IntKind.i64.wrap ((IntKind.i64.wrap ((i1 : Int) * n)) + (i1 : Int))).toNat r_1).flatMap enc_Dyadic)) hS8 k_sz_44_5 rfl rfl rfl rfl rfl rfl rfl (gi_fit0 enc_Dyadic_len hx) (gi_set enc_Dyadic_len hx r_1 rfl) rfl) ?_ ?_
        · rintro _ w_5 ⟨rfl, hS9⟩
          have hS9 : ST w0 [] _ [⟨some ⟨b, 0, none⟩, 26, [.int .i64 0, .int .i64 0, .slice none 0 0], 3⟩, ⟨some ⟨b2, 0, none⟩, 26, [.int .i64 n, .int .i64 n, .slice (some ⟨b1, 0, none⟩) ((IntKind.i64.wrap (n * n)).toNat) ((IntKind.i64.wrap (n * n)).toNat)], 3⟩, ⟨some ⟨b1, 0, none⟩, 44, ((Cells.set (IntKind.i64.wrap ((IntKind.i64.wrap ((i1 : Int) * n)) + (i1 : Int))).toNat r_1).flatMap enc_Dyadic), ((IntKind.i64.wrap (n * n)).toNat) * 5⟩] [] := hS9
          refine ⟨(ST.sel hS9 [0, 1] rfl rfl), ?_⟩
          refine ra_done (by kernel_rfl) ?_
          refine cw_region ?_
          refine sq 15 rfl rfl (Y_move (v := .int .i64 (i1 : Int)) rfl (hf.get 4 3 rfl)) ?_
          refine sq 16 rfl rfl (Y_add (k := .i64) (a := (i1 : Int)) (b := 1) rfl rfl rfl) ?_
          refine sq 4 rfl rfl (Y_assign (v := .int .i64 (IntKind.i64.wrap ((i1 : Int) + 1))) rfl rfl) ?_
          refine rw_nil ?_
          obtain rfl := some_inj hb
          exact ⟨k_1, Nat.lt_succ_self _, i1 + 1, (Cells.set (IntKind.i64.wrap ((IntKind.i64.wrap ((i1 : Int) * n)) + (i1 : Int))).toNat r_1), (FF.cons (hf.get 0 0 rfl) (FF.cons (hf.get 2 1 rfl) (FF.cons (hf.get 3 2 rfl) (FF.cons (congrArg (Value.int .i64) (wr_succ hlt1 hN)) FF.nil)))), (set_len _ _ _ hl), (hS9.sel [0, 1, 2] rfl rfl), (by omega), hL1⟩
        exact allR_nil
      exact allR_nil
    exact allR_nil
  · skip
    obtain rfl : k_ = 0 := by have h := of_decide_eq_false hlt; omega
    refine cw_exit rfl ?_
    obtain rfl := some_inj hL
    refine cw_seq ?_
    refine cw_region ?_
    refine sq 26 rfl rfl (Y_loadA (B := some ⟨b2, 0, none⟩) (i := 0) (cs := [.int .i64 n, .int .i64 n, .slice (some ⟨b1, 0, none⟩) ((IntKind.i64.wrap (n * n)).toNat) ((IntKind.i64.wrap (n * n)).toNat)]) (vs := [.int .i64 n, .int .i64 n, .slice (some ⟨b1, 0, none⟩) ((IntKind.i64.wrap (n * n)).toNat) ((IntKind.i64.wrap (n * n)).toNat)]) k_ag_26 k_sz_26_3 rfl (hf.get 3 2 rfl) (hS5.cf (i := 1) rfl) rfl rfl) ?_
    refine ss0 rfl rfl (Ys_store (i := 0) (s := 3) (B := some ⟨b, 0, none⟩) (T' := 26) (v := .agg #[.int .i64 n, .int .i64 n, .slice (some ⟨b1, 0, none⟩) ((IntKind.i64.wrap (n * n)).toNat) ((IntKind.i64.wrap (n * n)).toNat)]) (vs := [.int .i64 n, .int .i64 n, .slice (some ⟨b1, 0, none⟩) ((IntKind.i64.wrap (n * n)).toNat) ((IntKind.i64.wrap (n * n)).toNat)]) (k := 0) (cs' := [.int .i64 n, .int .i64 n, .slice (some ⟨b1, 0, none⟩) ((IntKind.i64.wrap (n * n)).toNat) ((IntKind.i64.wrap (n * n)).toNat)]) hS5 k_sz_26_3 rfl (hf.get 2 1 rfl) rfl rfl rfl rfl rfl (Nat.le_of_ble_eq_true rfl) rfl rfl) ?_
    rintro _ w_6 ⟨rfl, hS10⟩
    have hS10 : ST w0 [] _ [⟨some ⟨b, 0, none⟩, 26, [.int .i64 n, .int .i64 n, .slice (some ⟨b1, 0, none⟩) ((IntKind.i64.wrap (n * n)).toNat) ((IntKind.i64.wrap (n * n)).toNat)], 3⟩, ⟨some ⟨b2, 0, none⟩, 26, [.int .i64 n, .int .i64 n, .slice (some ⟨b1, 0, none⟩) ((IntKind.i64.wrap (n * n)).toNat) ((IntKind.i64.wrap (n * n)).toNat)], 3⟩, ⟨some ⟨b1, 0, none⟩, 44, (Cells.flatMap enc_Dyadic), ((IntKind.i64.wrap (n * n)).toNat) * 5⟩] [] := hS10
    refine rw_nil ?_
    refine cw_ret ?_
    obtain rfl := some_inj hF1
    exact ret1 Try.results109 (v1 := .agg #[.int .i64 n, .int .i64 n, .slice (some ⟨b1, 0, none⟩) ((IntKind.i64.wrap (n * n)).toNat) ((IntKind.i64.wrap (n * n)).toNat)]) (resAt_cellA (B := some ⟨b, 0, none⟩) (i := 0) (cs := [.int .i64 n, .int .i64 n, .slice (some ⟨b1, 0, none⟩) ((IntKind.i64.wrap (n * n)).toNat) ((IntKind.i64.wrap (n * n)).toNat)]) (vs := [.int .i64 n, .int .i64 n, .slice (some ⟨b1, 0, none⟩) ((IntKind.i64.wrap (n * n)).toNat) ((IntKind.i64.wrap (n * n)).toNat)]) (hf.get 2 1 rfl) k_ag_26 k_sz_26_3 (hS10.cf (i := 0) rfl) rfl rfl) ⟨some ⟨b1, 0, none⟩, (IntKind.i64.wrap (n * n)).toNat, (by simp [hl]), (ST.subR (R' := []) (hS10.sel [2] rfl rfl) (fun _ h => by cases h))⟩

theorem c_spec_l1Cur_anyMatrix (c : Tl1Cur) (B : Option Addr) (B1 : Option Addr) (c1 n : Nat) (w0 : World) (hn : c.code.length = n) (hS : ST w0 (bl [⟨B, 87, [.slice B1 n c1, .int .i64 c.at_, .int .u64 c.seed], 3⟩]) w0 [⟨B, 87, [.slice B1 n c1, .int .i64 c.at_, .int .u64 c.seed], 3⟩] [⟨B1, (c.code.flatMap enc_u8)⟩]) {r_ : TMatrix} {m : Tl1Cur} (hF : F_spec_l1Cur_anyMatrix c = some (r_, m)) :
    CV Try.prog 56 #[pt B 0] w0 (fun v w' => ∃ (B2 : Option Addr) (c2 : Nat), v = .agg #[.int .i64 r_.Rows, .int .i64 r_.Cols, .slice B2 r_.Cells.length c2] ∧ r_.Cells.length ≤ c2 ∧ Org w0 (bl [⟨B, 87, [.slice B1 n c1, .int .i64 c.at_, .int .u64 c.seed], 3⟩]) [⟨B1, (c.code.flatMap enc_u8)⟩] [⟨B2, (r_.Cells.flatMap enc_Dyadic)⟩] ∧ ST w0 (bl [⟨B, 87, [.slice B1 n c1, .int .i64 c.at_, .int .u64 c.seed], 3⟩]) w' [⟨B, 87, [.slice B1 n c1, .int .i64 m.at_, .int .u64 m.seed], 3⟩] [⟨B2, (r_.Cells.flatMap enc_Dyadic)⟩]) := by
  subst hn
  unfold F_spec_l1Cur_anyMatrix at hF
  refine cv_of_cw 45 Try.func56 rfl Try.ntmps56 rfl ?_
  refine cw_seq ?_
  refine cw_region ?_
  refine ss 2 rfl rfl (Ys_alloc (T := 26) (cs := [.int .i64 0, .int .i64 0, .slice none 0 0]) (m := 3) hS k_zero_26 rfl rfl rfl) ?_
  rintro _ w_ ⟨b, rfl, hS1⟩
  have hS1 : ST w0 (bl [⟨B, 87, [.slice B1 c.code.length c1, .int .i64 c.at_, .int .u64 c.seed], 3⟩]) _ [⟨B, 87, [.slice B1 c.code.length c1, .int .i64 c.at_, .int .u64 c.seed], 3⟩, ⟨some ⟨b, 0, none⟩, 26, [.int .i64 0, .int .i64 0, .slice none 0 0], 3⟩] [⟨B1, (c.code.flatMap enc_u8)⟩] := hS1
  refine rw_nil ?_
  refine cw_seq ?_
  refine cw_region ?_
  refine sq 4 rfl rfl (Y_move (v := pt B 0) rfl rfl) ?_
  refine sq 5 rfl rfl (Y_move (v := pt B 0) rfl rfl) ?_
  refine ss 6 rfl rfl (Ys_bslice (s := 1) (len := 4) (vs := [(0, .int .i64 1), (1, .int .i64 2), (2, .int .i64 2), (3, .int .i64 4)]) (cs := [.int .i64 1, .int .i64 2, .int .i64 2, .int .i64 4]) (zs := [.int .i64 0, .int .i64 0, .int .i64 0, .int .i64 0]) (m := 4) hS1 k_sl_48_3 k_sz_3_1 k_zc_3 rfl (mpc rfl (mpc rfl (mpc rfl (mpc rfl mpn)))) rfl rfl rfl (by kernel_rfl) (by kernel_rfl) rfl) ?_
  rintro _ w_1 ⟨b1, rfl, hS2⟩
  have hS2 : ST w0 (bl [⟨B, 87, [.slice B1 c.code.length c1, .int .i64 c.at_, .int .u64 c.seed], 3⟩]) _ [⟨B, 87, [.slice B1 c.code.length c1, .int .i64 c.at_, .int .u64 c.seed], 3⟩, ⟨some ⟨b, 0, none⟩, 26, [.int .i64 0, .int .i64 0, .slice none 0 0], 3⟩, ⟨some ⟨b1, 0, none⟩, 3, ([1, 2, 2, 4].flatMap encI), 4 * 1⟩] [⟨B1, (c.code.flatMap enc_u8)⟩] := hS2
  obtain ⟨⟨r_1, m1⟩, hc, hF⟩ := bind_inv hF
  refine sc 7 rfl rfl (Yc_func (g := 53) (vs := [pt B 0, .slice (some ⟨b1, 0, none⟩) 4 4]) k_call_53 rfl (mc rfl (mc rfl mn)) (c_spec_l1Cur_among c [1, 2, 2, 4] B B1 c1 c.code.length (some ⟨b1, 0, none⟩) 4 4 _ rfl rfl (hS2.inn [true, false, false] rfl [(true, 0), (false, 1)] rfl) hc)) ?_
  rintro _ w_2 ⟨rfl, hd⟩
  have hS3 := hS2.out [true, false, false] rfl hd
  have hS3 : ST w0 (bl [⟨B, 87, [.slice B1 c.code.length c1, .int .i64 c.at_, .int .u64 c.seed], 3⟩]) _ [⟨some ⟨b, 0, none⟩, 26, [.int .i64 0, .int .i64 0, .slice none 0 0], 3⟩, ⟨some ⟨b1, 0, none⟩, 3, ([1, 2, 2, 4].flatMap encI), 4 * 1⟩, ⟨B, 87, [.slice B1 c.code.length c1, .int .i64 m1.at_, .int .u64 m1.seed], 3⟩] [⟨B1, (c.code.flatMap enc_u8)⟩] := hS3
  refine sq 8 rfl rfl (Y_move (v := pt B 0) rfl rfl) ?_
  refine ss 9 rfl rfl (Ys_bslice (s := 1) (len := 4) (vs := [(0, .int .i64 1), (1, .int .i64 2), (2, .int .i64 2), (3, .int .i64 4)]) (cs := [.int .i64 1, .int .i64 2, .int .i64 2, .int .i64 4]) (zs := [.int .i64 0, .int .i64 0, .int .i64 0, .int .i64 0]) (m := 4) hS3 k_sl_48_3 k_sz_3_1 k_zc_3 rfl (mpc rfl (mpc rfl (mpc rfl (mpc rfl mpn)))) rfl rfl rfl (by kernel_rfl) (by kernel_rfl) rfl) ?_
  rintro _ w_3 ⟨b2, rfl, hS4⟩
  have hS4 : ST w0 (bl [⟨B, 87, [.slice B1 c.code.length c1, .int .i64 c.at_, .int .u64 c.seed], 3⟩]) _ [⟨some ⟨b, 0, none⟩, 26, [.int .i64 0, .int .i64 0, .slice none 0 0], 3⟩, ⟨some ⟨b1, 0, none⟩, 3, ([1, 2, 2, 4].flatMap encI), 4 * 1⟩, ⟨B, 87, [.slice B1 c.code.length c1, .int .i64 m1.at_, .int .u64 m1.seed], 3⟩, ⟨some ⟨b2, 0, none⟩, 3, ([1, 2, 2, 4].flatMap encI), 4 * 1⟩] [⟨B1, (c.code.flatMap enc_u8)⟩] := hS4
  obtain ⟨⟨r_2, m2⟩, hc1, hF⟩ := bind_inv hF
  refine sc 10 rfl rfl (Yc_func (g := 53) (vs := [pt B 0, .slice (some ⟨b2, 0, none⟩) 4 4]) k_call_53 rfl (mc rfl (mc rfl mn)) (c_spec_l1Cur_among (Tl1Cur.mk c.code m1.at_ m1.seed) [1, 2, 2, 4] B B1 c1 c.code.length (some ⟨b2, 0, none⟩) 4 4 _ rfl rfl (hS4.inn [false, false, true, false] rfl [(true, 0), (false, 2)] rfl) hc1)) ?_
  rintro _ w_4 ⟨rfl, hd1⟩
  have hS5 := hS4.out [false, false, true, false] rfl hd1
  have hS5 : ST w0 (bl [⟨B, 87, [.slice B1 c.code.length c1, .int .i64 c.at_, .int .u64 c.seed], 3⟩]) _ [⟨some ⟨b, 0, none⟩, 26, [.int .i64 0, .int .i64 0, .slice none 0 0], 3⟩, ⟨some ⟨b1, 0, none⟩, 3, ([1, 2, 2, 4].flatMap encI), 4 * 1⟩, ⟨some ⟨b2, 0, none⟩, 3, ([1, 2, 2, 4].flatMap encI), 4 * 1⟩, ⟨B, 87, [.slice B1 c.code.length c1, .int .i64 m2.at_, .int .u64 m2.seed], 3⟩] [⟨B1, (c.code.flatMap enc_u8)⟩] := hS5
  obtain ⟨⟨r_3, m3⟩, hc2, hF⟩ := bind_inv hF
  refine sc 11 rfl rfl (Yc_func (g := 54) (vs := [pt B 0, .int .i64 r_1, .int .i64 r_2]) k_call_54 rfl (mc rfl (mc rfl (mc rfl mn))) (c_spec_l1Cur_matrix (Tl1Cur.mk c.code m2.at_ m2.seed) r_1 r_2 B B1 c1 c.code.length _ rfl (hS5.inn [false, false, false, true] rfl [(true, 0)] rfl) hc2)) ?_
  rintro _ w_5 ⟨B3, c3, rfl, hd2⟩
  have hS6 := hS5.out [false, false, false, true] rfl hd2
  have hS6 : ST w0 (bl [⟨B, 87, [.slice B1 c.code.length c1, .int .i64 c.at_, .int .u64 c.seed], 3⟩]) _ [⟨some ⟨b, 0, none⟩, 26, [.int .i64 0, .int .i64 0, .slice none 0 0], 3⟩, ⟨some ⟨b1, 0, none⟩, 3, ([1, 2, 2, 4].flatMap encI), 4 * 1⟩, ⟨some ⟨b2, 0, none⟩, 3, ([1, 2, 2, 4].flatMap encI), 4 * 1⟩, ⟨B, 87, [.slice B1 c.code.length c1, .int .i64 m3.at_, .int .u64 m3.seed], 3⟩, ⟨B3, 44, (r_3.Cells.flatMap enc_Dyadic), c3 * 5⟩] [⟨B1, (c.code.flatMap enc_u8)⟩] := hS6
  refine ss 3 rfl rfl (Ys_alloc (T := 26) (cs := [.int .i64 0, .int .i64 0, .slice none 0 0]) (m := 3) hS6 k_zero_26 rfl rfl rfl) ?_
  rintro _ w_6 ⟨b3, rfl, hS7⟩
  have hS7 : ST w0 (bl [⟨B, 87, [.slice B1 c.code.length c1, .int .i64 c.at_, .int .u64 c.seed], 3⟩]) _ [⟨some ⟨b, 0, none⟩, 26, [.int .i64 0, .int .i64 0, .slice none 0 0], 3⟩, ⟨some ⟨b1, 0, none⟩, 3, ([1, 2, 2, 4].flatMap encI), 4 * 1⟩, ⟨some ⟨b2, 0, none⟩, 3, ([1, 2, 2, 4].flatMap encI), 4 * 1⟩, ⟨B, 87, [.slice B1 c.code.length c1, .int .i64 m3.at_, .int .u64 m3.seed], 3⟩, ⟨B3, 44, (r_3.Cells.flatMap enc_Dyadic), c3 * 5⟩, ⟨some ⟨b3, 0, none⟩, 26, [.int .i64 0, .int .i64 0, .slice none 0 0], 3⟩] [⟨B1, (c.code.flatMap enc_u8)⟩] := hS7
  refine ss0 rfl rfl (Ys_store (i := 5) (s := 3) (B := some ⟨b3, 0, none⟩) (T' := 26) (v := .agg #[.int .i64 r_3.Rows, .int .i64 r_3.Cols, .slice B3 r_3.Cells.length c3]) (vs := [.int .i64 r_3.Rows, .int .i64 r_3.Cols, .slice B3 r_3.Cells.length c3]) (k := 0) (cs' := [.int .i64 r_3.Rows, .int .i64 r_3.Cols, .slice B3 r_3.Cells.length c3]) hS7 k_sz_26_3 rfl rfl rfl rfl rfl rfl rfl (Nat.le_of_ble_eq_true rfl) rfl rfl) ?_
  rintro _ w_7 ⟨rfl, hS8⟩
  have hS8 : ST w0 (bl [⟨B, 87, [.slice B1 c.code.length c1, .int .i64 c.at_, .int .u64 c.seed], 3⟩]) _ [⟨some ⟨b, 0, none⟩, 26, [.int .i64 0, .int .i64 0, .slice none 0 0], 3⟩, ⟨some ⟨b1, 0, none⟩, 3, ([1, 2, 2, 4].flatMap encI), 4 * 1⟩, ⟨some ⟨b2, 0, none⟩, 3, ([1, 2, 2, 4].flatMap encI), 4 * 1⟩, ⟨B, 87, [.slice B1 c.code.length c1, .int .i64 m3.at_, .int .u64 m3.seed], 3⟩, ⟨B3, 44, (r_3.Cells.flatMap enc_Dyadic), c3 * 5⟩, ⟨some ⟨b3, 0, none⟩, 26, [.int .i64 r_3.Rows, .int .i64 r_3.Cols, .slice B3 r_3.Cells.length c3], 3⟩] [⟨B1, (c.code.flatMap enc_u8)⟩] := hS8
  refine rw_nil ?_
  refine cw_seq ?_
  obtain ⟨z, hz, hF1⟩ := bind_inv hF
  refine cw_mid (fun f w => ∃ (at_ : Int) (seed : Int) (Rows : Int) (Cols : Int) (Cells : List TDyadic) (B4 : Option Addr) (c4 : Nat), (at_, seed, Rows, Cols, Cells) = z ∧ FF f [(2, pt (some ⟨b, 0, none⟩) 0), (3, pt (some ⟨b3, 0, none⟩) 0)] ∧ Org w0 (bl [⟨B, 87, [.slice B1 c.code.length c1, .int .i64 c.at_, .int .u64 c.seed], 3⟩]) [⟨B1, (c.code.flatMap enc_u8)⟩] [⟨B4, (Cells.flatMap enc_Dyadic)⟩] ∧ Cells.length ≤ c4 ∧ ST w0 (bl [⟨B, 87, [.slice B1 c.code.length c1, .int .i64 c.at_, .int .u64 c.seed], 3⟩]) w [⟨B, 87, [.slice B1 c.code.length c1, .int .i64 at_, .int .u64 seed], 3⟩, ⟨some ⟨b, 0, none⟩, 26, [.int .i64 0, .int .i64 0, .slice none 0 0], 3⟩, ⟨some ⟨b3, 0, none⟩, 26, [.int .i64 Rows, .int .i64 Cols, .slice B4 Cells.length c4], 3⟩] [⟨B4, (Cells.flatMap enc_Dyadic)⟩, ⟨B1, (c.code.flatMap enc_u8)⟩]) ?_ ?_
  · skip
    refine cw_seq ?_
    refine cw_region ?_
    refine sq 12 rfl rfl (Y_move (v := pt B 0) rfl rfl) ?_
    obtain ⟨⟨r_4, m4⟩, hc3, hz⟩ := bind_inv hz
    refine sc 13 rfl rfl (Yc_func (g := 69) (vs := [pt B 0, .int .i64 12]) k_call_69 rfl (mc rfl (mc rfl mn)) (c_spec_l1Cur_pick (Tl1Cur.mk c.code m3.at_ m3.seed) 12 B B1 c1 c.code.length _ rfl (hS8.inn [false, false, false, true, false, false] rfl [(true, 0)] rfl) hc3)) ?_
    rintro _ w_8 ⟨rfl, hd3⟩
    have hS10 := hS8.out [false, false, false, true, false, false] rfl hd3
    have hS10 : ST w0 (bl [⟨B, 87, [.slice B1 c.code.length c1, .int .i64 c.at_, .int .u64 c.seed], 3⟩]) _ [⟨some ⟨b, 0, none⟩, 26, [.int .i64 0, .int .i64 0, .slice none 0 0], 3⟩, ⟨some ⟨b1, 0, none⟩, 3, ([1, 2, 2, 4].flatMap encI), 4 * 1⟩, ⟨some ⟨b2, 0, none⟩, 3, ([1, 2, 2, 4].flatMap encI), 4 * 1⟩, ⟨B3, 44, (r_3.Cells.flatMap enc_Dyadic), c3 * 5⟩, ⟨some ⟨b3, 0, none⟩, 26, [.int .i64 r_3.Rows, .int .i64 r_3.Cols, .slice B3 r_3.Cells.length c3], 3⟩, ⟨B, 87, [.slice B1 c.code.length c1, .int .i64 m4.at_, .int .u64 m4.seed], 3⟩] [⟨B1, (c.code.flatMap enc_u8)⟩] := hS10
    refine rw_nil ?_
    refine cw_block ?_
    refine cw_seq ?_
    refine cw_region ?_
    refine sq 15 rfl rfl (Y_eq (k := .i64) (a := r_4) (b := 0) rfl rfl rfl) ?_
    refine sq 14 rfl rfl (Y_assign (v := .bool (r_4 == 0)) rfl rfl) ?_
    refine rw_nil ?_
    refine cw_cond (b := (r_4 == 0)) rfl (fun hb => ?_) (fun hb => ?_)
    · skip
      have hF2 := ct hz hb
      refine cw_region ?_
      refine sq 16 rfl rfl (Y_move (v := pt B 0) rfl rfl) ?_
      refine ss 17 rfl rfl (Ys_bslice (s := 1) (len := 5) (vs := [(0, .int .i64 0), (1, .int .i64 3), (2, .int .i64 64), (3, .int .i64 (-1)), (4, .int .i64 1)]) (cs := [.int .i64 0, .int .i64 3, .int .i64 64, .int .i64 (-1), .int .i64 1]) (zs := [.int .i64 0, .int .i64 0, .int .i64 0, .int .i64 0, .int .i64 0]) (m := 5) hS10 k_sl_48_3 k_sz_3_1 k_zc_3 rfl (mpc rfl (mpc rfl (mpc rfl (mpc rfl (mpc rfl mpn))))) rfl rfl rfl (by kernel_rfl) (by kernel_rfl) rfl) ?_
      rintro _ w_9 ⟨b4, rfl, hS11⟩
      have hS11 : ST w0 (bl [⟨B, 87, [.slice B1 c.code.length c1, .int .i64 c.at_, .int .u64 c.seed], 3⟩]) _ [⟨some ⟨b, 0, none⟩, 26, [.int .i64 0, .int .i64 0, .slice none 0 0], 3⟩, ⟨some ⟨b1, 0, none⟩, 3, ([1, 2, 2, 4].flatMap encI), 4 * 1⟩, ⟨some ⟨b2, 0, none⟩, 3, ([1, 2, 2, 4].flatMap encI), 4 * 1⟩, ⟨B3, 44, (r_3.Cells.flatMap enc_Dyadic), c3 * 5⟩, ⟨some ⟨b3, 0, none⟩, 26, [.int .i64 r_3.Rows, .int .i64 r_3.Cols, .slice B3 r_3.Cells.length c3], 3⟩, ⟨B, 87, [.slice B1 c.code.length c1, .int .i64 m4.at_, .int .u64 m4.seed], 3⟩, ⟨some ⟨b4, 0, none⟩, 3, ([0, 3, 64, (-1), 1].flatMap encI), 5 * 1⟩] [⟨B1, (c.code.flatMap enc_u8)⟩] := hS11
      obtain ⟨⟨r_5, m5⟩, hc4, hF2⟩ := bind_inv hF2
      refine sc 18 rfl rfl (Yc_func (g := 53) (vs := [pt B 0, .slice (some ⟨b4, 0, none⟩) 5 5]) k_call_53 rfl (mc rfl (mc rfl mn)) (c_spec_l1Cur_among (Tl1Cur.mk c.code m4.at_ m4.seed) [0, 3, 64, (-1), 1] B B1 c1 c.code.length (some ⟨b4, 0, none⟩) 5 5 _ rfl rfl (hS11.inn [false, false, false, false, false, true, false] rfl [(true, 0), (false, 5)] rfl) hc4)) ?_
      rintro _ w_10 ⟨rfl, hd4⟩
      have hS12 := hS11.out [false, false, false, false, false, true, false] rfl hd4
      have hS12 : ST w0 (bl [⟨B, 87, [.slice B1 c.code.length c1, .int .i64 c.at_, .int .u64 c.seed], 3⟩]) _ [⟨some ⟨b, 0, none⟩, 26, [.int .i64 0, .int .i64 0, .slice none 0 0], 3⟩, ⟨some ⟨b1, 0, none⟩, 3, ([1, 2, 2, 4].flatMap encI), 4 * 1⟩, ⟨some ⟨b2, 0, none⟩, 3, ([1, 2, 2, 4].flatMap encI), 4 * 1⟩, ⟨B3, 44, (r_3.Cells.flatMap enc_Dyadic), c3 * 5⟩, ⟨some ⟨b3, 0, none⟩, 26, [.int .i64 r_3.Rows, .int .i64 r_3.Cols, .slice B3 r_3.Cells.length c3], 3⟩, ⟨some ⟨b4, 0, none⟩, 3, ([0, 3, 64, (-1), 1].flatMap encI), 5 * 1⟩, ⟨B, 87, [.slice B1 c.code.length c1, .int .i64 m5.at_, .int .u64 m5.seed], 3⟩] [⟨B1, (c.code.flatMap enc_u8)⟩] := hS12
      refine sq 19 rfl rfl (Y_fieldAddr (B := some ⟨b3, 0, none⟩) (i := 0) (s := 0) k_fd_26_0_0_3 k_sz_3_1 rfl rfl) ?_
      refine ss0 rfl rfl (Ys_store (i := 4) (s := 1) (B := some ⟨b3, 0, none⟩) (T' := 26) (v := .int .i64 r_5) (vs := [.int .i64 r_5]) (k := 0) (cs' := [.int .i64 r_5, .int .i64 r_3.Cols, .slice B3 r_3.Cells.length c3]) hS12 k_sz_3_1 rfl rfl rfl rfl rfl rfl rfl (Nat.le_of_ble_eq_true rfl) rfl rfl) ?_
      rintro _ w_11 ⟨rfl, hS13⟩
      have hS13 : ST w0 (bl [⟨B, 87, [.slice B1 c.code.length c1, .int .i64 c.at_, .int .u64 c.seed], 3⟩]) _ [⟨some ⟨b, 0, none⟩, 26, [.int .i64 0, .int .i64 0, .slice none 0 0], 3⟩, ⟨some ⟨b1, 0, none⟩, 3, ([1, 2, 2, 4].flatMap encI), 4 * 1⟩, ⟨some ⟨b2, 0, none⟩, 3, ([1, 2, 2, 4].flatMap encI), 4 * 1⟩, ⟨B3, 44, (r_3.Cells.flatMap enc_Dyadic), c3 * 5⟩, ⟨some ⟨b3, 0, none⟩, 26, [.int .i64 r_5, .int .i64 r_3.Cols, .slice B3 r_3.Cells.length c3], 3⟩, ⟨some ⟨b4, 0, none⟩, 3, ([0, 3, 64, (-1), 1].flatMap encI), 5 * 1⟩, ⟨B, 87, [.slice B1 c.code.length c1, .int .i64 m5.at_, .int .u64 m5.seed], 3⟩] [⟨B1, (c.code.flatMap enc_u8)⟩] := hS13
      refine rw_nil ?_
      have ho1 : Org w0 (bl [⟨B, 87, [.slice B1 c.code.length c1, .int .i64 c.at_, .int .u64 c.seed], 3⟩]) [⟨B1, (c.code.flatMap enc_u8)⟩] [⟨B3, (r_3.Cells.flatMap enc_Dyadic)⟩] := ST.orgOwn hS13 (i := 3) rfl
      have hcap : r_3.Cells.length ≤ c3 := (hS13.lencap (i := 3) rfl (fm_lenn (l := r_3.Cells) enc_Dyadic_len rfl) rfl rfl)
      have hS14 : ST w0 (bl [⟨B, 87, [.slice B1 c.code.length c1, .int .i64 c.at_, .int .u64 c.seed], 3⟩]) _ [⟨some ⟨b, 0, none⟩, 26, [.int .i64 0, .int .i64 0, .slice none 0 0], 3⟩, ⟨some ⟨b1, 0, none⟩, 3, ([1, 2, 2, 4].flatMap encI), 4 * 1⟩, ⟨some ⟨b2, 0, none⟩, 3, ([1, 2, 2, 4].flatMap encI), 4 * 1⟩, ⟨some ⟨b3, 0, none⟩, 26, [.int .i64 r_5, .int .i64 r_3.Cols, .slice B3 r_3.Cells.length c3], 3⟩, ⟨some ⟨b4, 0, none⟩, 3, ([0, 3, 64, (-1), 1].flatMap encI), 5 * 1⟩, ⟨B, 87, [.slice B1 c.code.length c1, .int .i64 m5.at_, .int .u64 m5.seed], 3⟩] [⟨B3, (r_3.Cells.flatMap enc_Dyadic)⟩, ⟨B1, (c.code.flatMap enc_u8)⟩] := hS13.freeze (i := 3) rfl
      exact ⟨m5.at_, m5.seed, r_5, r_3.Cols, r_3.Cells, B3, c3, (some_inj hF2), (FF.cons rfl (FF.cons rfl FF.nil)), ho1, (len_le rfl hcap), (hS14.sel [5, 0, 3] rfl rfl)⟩
    · skip
      have hF3 := cf' hz hb
      refine cw_seq ?_
      refine cw_region ?_
      refine sq 21 rfl rfl (Y_eq (k := .i64) (a := r_4) (b := 1) rfl rfl rfl) ?_
      refine sq 20 rfl rfl (Y_assign (v := .bool (r_4 == 1)) rfl rfl) ?_
      refine rw_nil ?_
      refine cw_cond (b := (r_4 == 1)) rfl (fun hb1 => ?_) (fun hb1 => ?_)
      · skip
        have hF4 := ct hF3 hb1
        obtain ⟨⟨r_6, m6⟩, hc5, hF4⟩ := bind_inv hF4
        obtain ⟨⟨r_7, m7⟩, hc6, hF4⟩ := bind_inv hF4
        obtain ⟨x, hx, hF4⟩ := bind_inv hF4
        refine ra_start (ST.sel hS10 [0, 1, 2, 4] rfl rfl).fn (by kernel_rfl) ?_
        have hS17 := hS10.drew
        refine ra_q 0 22 (v := pt (some ⟨b3, 0, none⟩) 2) rfl rfl rfl (by kernel_rfl) (by kernel_rfl) (by kernel_rfl) (ST.sel hS17 [0, 1, 2, 4] rfl rfl) (fun w' hw' => (Y_fieldAddr (B := some ⟨b3, 0, none⟩) (i := 0) (s := 0) k_fd_26_2_2_24 k_sz_24_1 rfl rfl)) ?_
        refine ra_q 1 23 (v := .slice B3 r_3.Cells.length c3) rfl rfl rfl (by kernel_rfl) (by kernel_rfl) (by kernel_rfl) (ST.sel hS17 [0, 1, 2, 4] rfl rfl) (fun w' hw' => (Y_load1 (B := some ⟨b3, 0, none⟩) (i := 2) (cs := [.int .i64 r_3.Rows, .int .i64 r_3.Cols, .slice B3 r_3.Cells.length c3]) (v := .slice B3 r_3.Cells.length c3) k_sc_24 rfl rfl (ST.cf hw' (i := 3) rfl) rfl)) ?_
        refine ra_q 2 24 (v := pt B 0) rfl rfl rfl (by kernel_rfl) (by kernel_rfl) (by kernel_rfl) (ST.sel hS17 [0, 1, 2, 4] rfl rfl) (fun w' hw' => (Y_move (v := pt B 0) rfl rfl)) ?_
        refine ra_q 3 25 (v := pt (some ⟨b3, 0, none⟩) 2) rfl rfl rfl (by kernel_rfl) (by kernel_rfl) (by kernel_rfl) (ST.sel hS17 [0, 1, 2, 4] rfl rfl) (fun w' hw' => (Y_fieldAddr (B := some ⟨b3, 0, none⟩) (i := 0) (s := 0) k_fd_26_2_2_24 k_sz_24_1 rfl rfl)) ?_
        refine ra_q 4 26 (v := .slice B3 r_3.Cells.length c3) rfl rfl rfl (by kernel_rfl) (by kernel_rfl) (by kernel_rfl) (ST.sel hS17 [0, 1, 2, 4] rfl rfl) (fun w' hw' => (Y_load1 (B := some ⟨b3, 0, none⟩) (i := 2) (cs := [.int .i64 r_3.Rows, .int .i64 r_3.Cols, .slice B3 r_3.Cells.length c3]) (v := .slice B3 r_3.Cells.length c3) k_sc_24 rfl rfl (ST.cf hw' (i := 3) rfl) rfl)) ?_
        refine ra_q 5 27 (v := .int .i64 (r_3.Cells.length : Int)) rfl rfl rfl (by kernel_rfl) (by kernel_rfl) (by kernel_rfl) (ST.sel hS17 [0, 1, 2, 4] rfl rfl) (fun w' hw' => (Y_len (B := B3) (m := r_3.Cells.length) (c := c3) k_sl_24_44 rfl rfl)) ?_
        refine ra_q 7 29 (v := pt B 0) rfl rfl rfl (by kernel_rfl) (by kernel_rfl) (by kernel_rfl) (ST.sel hS17 [0, 1, 2, 4] rfl rfl) (fun w' hw' => (Y_move (v := pt B 0) rfl rfl)) ?_
        refine ra_all (rs := [6]) (by kernel_rfl) rfl ?_
        refine ra_c 28 (i := 6) rfl rfl rfl (Yc_func (g := 69) (vs := [pt B 0, .int .i64 (r_3.Cells.length : Int)]) k_call_69 rfl (mc rfl (mc rfl mn)) (c_spec_l1Cur_pick (Tl1Cur.mk c.code m4.at_ m4.seed) (r_3.Cells.length : Int) B B1 c1 c.code.length _ rfl (hS17.inn [false, false, false, false, false, true] rfl [(true, 0)] rfl) hc5)) ?_ ?_
        · rintro _ w_12 ⟨rfl, hd5⟩
          have hS18 := hS17.out [false, false, false, false, false, true] rfl hd5
          have hS18 : ST w0 (bl [⟨B, 87, [.slice B1 c.code.length c1, .int .i64 c.at_, .int .u64 c.seed], 3⟩]) _ [⟨some ⟨b, 0, none⟩, 26, [.int .i64 0, .int .i64 0, .slice none 0 0], 3⟩, ⟨some ⟨b1, 0, none⟩, 3, ([1, 2, 2, 4].flatMap encI), 4 * 1⟩, ⟨some ⟨b2, 0, none⟩, 3, ([1, 2, 2, 4].flatMap encI), 4 * 1⟩, ⟨B3, 44, (r_3.Cells.flatMap enc_Dyadic), c3 * 5⟩, ⟨some ⟨b3, 0, none⟩, 26, [.int .i64 r_3.Rows, .int .i64 r_3.Cols, .slice B3 r_3.Cells.length c3], 3⟩, ⟨B, 87, [.slice B1 c.code.length c1, .int .i64 m6.at_, .int .u64 m6.seed], 3⟩] [⟨B1, (c.code.flatMap enc_u8)⟩] := hS18
          refine ⟨(ST.sel hS18 [0, 1, 2, 4] rfl rfl), ?_⟩
          refine ra_all (rs := [8]) (by kernel_rfl) rfl ?_
          refine ra_c 30 (i := 8) rfl rfl rfl (Yc_func (g := 108) (vs := [pt B 0]) k_call_108 rfl (mc rfl mn) (c_spec_l1Cur_anyDyadic (Tl1Cur.mk c.code m6.at_ m6.seed) B B1 c1 c.code.length _ rfl (hS18.inn [false, false, false, false, false, true] rfl [(true, 0)] rfl) hc6)) ?_ ?_
          · rintro _ w_13 ⟨rfl, hd6⟩
            have hS19 := hS18.out [false, false, false, false, false, true] rfl hd6
            have hS19 : ST w0 (bl [⟨B, 87, [.slice B1 c.code.length c1, .int .i64 c.at_, .int .u64 c.seed], 3⟩]) _ [⟨some ⟨b, 0, none⟩, 26, [.int .i64 0, .int .i64 0, .slice none 0 0], 3⟩, ⟨some ⟨b1, 0, none⟩, 3, ([1, 2, 2, 4].flatMap encI), 4 * 1⟩, ⟨some ⟨b2, 0, none⟩, 3, ([1, 2, 2, 4].flatMap encI), 4 * 1⟩, ⟨B3, 44, (r_3.Cells.flatMap enc_Dyadic), c3 * 5⟩, ⟨some ⟨b3, 0, none⟩, 26, [.int .i64 r_3.Rows, .int .i64 r_3.Cols, .slice B3 r_3.Cells.length c3], 3⟩, ⟨B, 87, [.slice B1 c.code.length c1, .int .i64 m7.at_, .int .u64 m7.seed], 3⟩] [⟨B1, (c.code.flatMap enc_u8)⟩] := hS19
            refine ⟨(ST.sel hS19 [0, 1, 2, 4] rfl rfl), ?_⟩
            refine ra_all (rs := [9]) (by kernel_rfl) rfl ?_
            refine ra_y 31 (i := 9) (v := pt B3 (r_6.toNat * 5)) rfl rfl rfl (Y_index (B := B3) (m := r_3.Cells.length) (c := c3) (k := .i64) (i := r_6) k_sl_24_44 k_sz_44_5 rfl rfl rfl (gi_isSome enc_Dyadic_len rfl (hS19.cf (i := 3) rfl) hx) (getI_nn hx) (getI_ltI hx rfl)) (ST.sel hS19 [0, 1, 2, 4] rfl rfl) ?_ ?_
            · skip
              refine ra_all (rs := [10]) (by kernel_rfl) rfl ?_
              refine ra_s0 (i := 10) rfl rfl rfl (Ys_store (i := 3) (s := 5) (B := B3) (T' := 44) (v := .agg #[.int .i64 r_7.Num.A, .int .i64 r_7.Num.B, .int .i64 r_7.Num.C, .int .i64 r_7.Num.D, .int .i64 r_7.Exp]) (vs := [.int .i64 r_7.Num.A, .int .i64 r_7.Num.B, .int .i64 r_7.Num.C, .int .i64 r_7.Num.D, .int .i64 r_7.Exp]) (k := r_6.toNat * 5) (cs' := ((r_3.Cells.set r_6.toNat r_7).flatMap enc_Dyadic)) hS19 k_sz_44_5 rfl rfl rfl rfl rfl rfl rfl (gi_fit0 enc_Dyadic_len hx) (gi_set enc_Dyadic_len hx r_7 rfl) rfl) ?_ ?_
              · rintro _ w_14 ⟨rfl, hS20⟩
                have hS20 : ST w0 (bl [⟨B, 87, [.slice B1 c.code.length c1, .int .i64 c.at_, .int .u64 c.seed], 3⟩]) _ [⟨some ⟨b, 0, none⟩, 26, [.int .i64 0, .int .i64 0, .slice none 0 0], 3⟩, ⟨some ⟨b1, 0, none⟩, 3, ([1, 2, 2, 4].flatMap encI), 4 * 1⟩, ⟨some ⟨b2, 0, none⟩, 3, ([1, 2, 2, 4].flatMap encI), 4 * 1⟩, ⟨B3, 44, ((r_3.Cells.set r_6.toNat r_7).flatMap enc_Dyadic), c3 * 5⟩, ⟨some ⟨b3, 0, none⟩, 26, [.int .i64 r_3.Rows, .int .i64 r_3.Cols, .slice B3 r_3.Cells.length c3], 3⟩, ⟨B, 87, [.slice B1 c.code.length c1, .int .i64 m7.at_, .int .u64 m7.seed], 3⟩] [⟨B1, (c.code.flatMap enc_u8)⟩] := hS20
                refine ⟨(ST.sel hS20 [0, 1, 2, 4] rfl rfl), ?_⟩
                refine ra_done (by kernel_rfl) ?_
                have ho2 : Org w0 (bl [⟨B, 87, [.slice B1 c.code.length c1, .int .i64 c.at_, .int .u64 c.seed], 3⟩]) [⟨B1, (c.code.flatMap enc_u8)⟩] [⟨B3, ((r_3.Cells.set r_6.toNat r_7).flatMap enc_Dyadic)⟩] := ST.orgOwn hS20 (i := 3) rfl
                have hcap1 : r_3.Cells.length ≤ c3 := (hS20.lencap (i := 3) rfl (fm_lenn (l := (r_3.Cells.set r_6.toNat r_7)) enc_Dyadic_len (set_len _ _ _ rfl)) rfl rfl)
                have hS21 : ST w0 (bl [⟨B, 87, [.slice B1 c.code.length c1, .int .i64 c.at_, .int .u64 c.seed], 3⟩]) _ [⟨some ⟨b, 0, none⟩, 26, [.int .i64 0, .int .i64 0, .slice none 0 0], 3⟩, ⟨some ⟨b1, 0, none⟩, 3, ([1, 2, 2, 4].flatMap encI), 4 * 1⟩, ⟨some ⟨b2, 0, none⟩, 3, ([1, 2, 2, 4].flatMap encI), 4 * 1⟩, ⟨some ⟨b3, 0, none⟩, 26, [.int .i64 r_3.Rows, .int .i64 r_3.Cols, .slice B3 r_3.Cells.length c3], 3⟩, ⟨B, 87, [.slice B1 c.code.length c1, .int .i64 m7.at_, .int .u64 m7.seed], 3⟩] [⟨B3, ((r_3.Cells.set r_6.toNat r_7).flatMap enc_Dyadic)⟩, ⟨B1, (c.code.flatMap enc_u8)⟩] := hS20.freeze (i := 3) rfl
                exact ⟨m7.at_, m7.seed, r_3.Rows, r_3.Cols, (r_3.Cells.set r_6.toNat r_7), B3, c3, (some_inj hF4), (FF.cons rfl (FF.cons rfl FF.nil)), ho2, (len_le (set_len _ _ _ rfl) hcap1), (by rw [((set_len _ _ _ rfl) : (r_3.Cells.set r_6.toNat r_7).length = r_3.Cells.length)]; exact hS21.sel [4, 0, 3] rfl rfl)⟩
              exact allR_nil
            exact allR_nil
          exact allR_nil
        exact allR_nil
      · skip
        have hF5 := cf' hF3 hb1
        refine cw_seq ?_
        refine cw_region ?_
        refine sq 33 rfl rfl (Y_eq (k := .i64) (a := r_4) (b := 2) rfl rfl rfl) ?_
        refine sq 32 rfl rfl (Y_assign (v := .bool (r_4 == 2)) rfl rfl) ?_
        refine rw_nil ?_
        refine cw_cond (b := (r_4 == 2)) rfl (fun hb2 => ?_) (fun hb2 => ?_)
        · skip
          have hF6 := ct hF5 hb2
          refine cw_region ?_
          refine sq 34 rfl rfl (Y_fieldAddr (B := some ⟨b3, 0, none⟩) (i := 0) (s := 0) k_fd_26_2_2_24 k_sz_24_1 rfl rfl) ?_
          refine sq 35 rfl rfl (Y_load1 (B := some ⟨b3, 0, none⟩) (i := 2) (cs := [.int .i64 r_3.Rows, .int .i64 r_3.Cols, .slice B3 r_3.Cells.length c3]) (v := .slice B3 r_3.Cells.length c3) k_sc_24 rfl rfl (hS10.cf (i := 4) rfl) rfl) ?_
          obtain ⟨hsl, hF6⟩ := chk_inv hF6
          have hcap2 : r_3.Cells.length ≤ c3 := (hS10.lencap (i := 3) rfl (fm_lenn (l := r_3.Cells) enc_Dyadic_len rfl) rfl rfl)
          have ho4 : Org w0 (bl [⟨B, 87, [.slice B1 c.code.length c1, .int .i64 c.at_, .int .u64 c.seed], 3⟩]) [⟨B1, (c.code.flatMap enc_u8)⟩] [⟨B3, (r_3.Cells.flatMap enc_Dyadic)⟩] := ST.orgOwn hS10 (i := 3) rfl
          have hcap3 : r_3.Cells.length ≤ c3 := (hS10.lencap (i := 3) rfl (fm_lenn (l := r_3.Cells) enc_Dyadic_len rfl) rfl rfl)
          have hS22 : ST w0 (bl [⟨B, 87, [.slice B1 c.code.length c1, .int .i64 c.at_, .int .u64 c.seed], 3⟩]) _ [⟨some ⟨b, 0, none⟩, 26, [.int .i64 0, .int .i64 0, .slice none 0 0], 3⟩, ⟨some ⟨b1, 0, none⟩, 3, ([1, 2, 2, 4].flatMap encI), 4 * 1⟩, ⟨some ⟨b2, 0, none⟩, 3, ([1, 2, 2, 4].flatMap encI), 4 * 1⟩, ⟨some ⟨b3, 0, none⟩, 26, [.int .i64 r_3.Rows, .int .i64 r_3.Cols, .slice B3 r_3.Cells.length c3], 3⟩, ⟨B, 87, [.slice B1 c.code.length c1, .int .i64 m4.at_, .int .u64 m4.seed], 3⟩] [⟨B3, (r_3.Cells.flatMap enc_Dyadic)⟩, ⟨B1, (c.code.flatMap enc_u8)⟩] := hS10.freeze (i := 3) rfl
          have hv : (List.drop 1 r_3.Cells).length = (r_3.Cells.length - 1) := (drop_len rfl)
          have hq1 : (r_3.Cells.length - 1) ≤ (c3 - 1) := by omega
          have ho3 : Org w0 (bl [⟨B, 87, [.slice B1 c.code.length c1, .int .i64 c.at_, .int .u64 c.seed], 3⟩]) [⟨B1, (c.code.flatMap enc_u8)⟩] [⟨(sv B3 1 c3 5), ((List.drop 1 r_3.Cells).flatMap enc_Dyadic)⟩] := org_view enc_Dyadic_len (q := c3) ho4 rfl (take_all rfl _)
          have hS23 : ST w0 (bl [⟨B, 87, [.slice B1 c.code.length c1, .int .i64 c.at_, .int .u64 c.seed], 3⟩]) _ [⟨some ⟨b, 0, none⟩, 26, [.int .i64 0, .int .i64 0, .slice none 0 0], 3⟩, ⟨some ⟨b1, 0, none⟩, 3, ([1, 2, 2, 4].flatMap encI), 4 * 1⟩, ⟨some ⟨b2, 0, none⟩, 3, ([1, 2, 2, 4].flatMap encI), 4 * 1⟩, ⟨some ⟨b3, 0, none⟩, 26, [.int .i64 r_3.Rows, .int .i64 r_3.Cols, .slice B3 r_3.Cells.length c3], 3⟩, ⟨B, 87, [.slice B1 c.code.length c1, .int .i64 m4.at_, .int .u64 m4.seed], 3⟩] [⟨(sv B3 1 c3 5), ((List.drop 1 r_3.Cells).flatMap enc_Dyadic)⟩, ⟨B3, (r_3.Cells.flatMap enc_Dyadic)⟩, ⟨B1, (c.code.flatMap enc_u8)⟩] := ST.view enc_Dyadic_len hS22 (i := 0) rfl (lo := 1) (h := r_3.Cells.length) (q := c3) (by omega) (by omega) rfl (take_all rfl _)
          refine sq 36 rfl rfl (Y_slice1 (B := B3) (m := r_3.Cells.length) (c := c3) (l := 1) (h := r_3.Cells.length) (s := 5) k_sl_24_44 k_sz_44_5 rfl rfl rfl (bnd_some rfl rfl) (by omega) (by omega)) ?_
          refine sq 37 rfl rfl (Y_fieldAddr (B := some ⟨b3, 0, none⟩) (i := 0) (s := 0) k_fd_26_2_2_24 k_sz_24_1 rfl rfl) ?_
          refine ss0 rfl rfl (Ys_store (i := 3) (s := 1) (B := some ⟨b3, 0, none⟩) (T' := 26) (v := .slice (sv B3 1 c3 5) (r_3.Cells.length - 1) (c3 - 1)) (vs := [.slice (sv B3 1 c3 5) (r_3.Cells.length - 1) (c3 - 1)]) (k := 2) (cs' := [.int .i64 r_3.Rows, .int .i64 r_3.Cols, .slice (sv B3 1 c3 5) (r_3.Cells.length - 1) (c3 - 1)]) hS23 k_sz_24_1 rfl rfl rfl rfl rfl rfl rfl (Nat.le_of_ble_eq_true rfl) rfl rfl) ?_
          rintro _ w_15 ⟨rfl, hS24⟩
          have hS24 : ST w0 (bl [⟨B, 87, [.slice B1 c.code.length c1, .int .i64 c.at_, .int .u64 c.seed], 3⟩]) _ [⟨some ⟨b, 0, none⟩, 26, [.int .i64 0, .int .i64 0, .slice none 0 0], 3⟩, ⟨some ⟨b1, 0, none⟩, 3, ([1, 2, 2, 4].flatMap encI), 4 * 1⟩, ⟨some ⟨b2, 0, none⟩, 3, ([1, 2, 2, 4].flatMap encI), 4 * 1⟩, ⟨some ⟨b3, 0, none⟩, 26, [.int .i64 r_3.Rows, .int .i64 r_3.Cols, .slice (sv B3 1 c3 5) (r_3.Cells.length - 1) (c3 - 1)], 3⟩, ⟨B, 87, [.slice B1 c.code.length c1, .int .i64 m4.at_, .int .u64 m4.seed], 3⟩] [⟨(sv B3 1 c3 5), ((List.drop 1 r_3.Cells).flatMap enc_Dyadic)⟩, ⟨B3, (r_3.Cells.flatMap enc_Dyadic)⟩, ⟨B1, (c.code.flatMap enc_u8)⟩] := hS24
          refine rw_nil ?_
          have hS25 : ST w0 (bl [⟨B, 87, [.slice B1 c.code.length c1, .int .i64 c.at_, .int .u64 c.seed], 3⟩]) _ [⟨some ⟨b, 0, none⟩, 26, [.int .i64 0, .int .i64 0, .slice none 0 0], 3⟩, ⟨some ⟨b1, 0, none⟩, 3, ([1, 2, 2, 4].flatMap encI), 4 * 1⟩, ⟨some ⟨b2, 0, none⟩, 3, ([1, 2, 2, 4].flatMap encI), 4 * 1⟩, ⟨some ⟨b3, 0, none⟩, 26, [.int .i64 r_3.Rows, .int .i64 r_3.Cols, .slice (sv B3 1 c3 5) (r_3.Cells.length - 1) (c3 - 1)], 3⟩, ⟨B, 87, [.slice B1 c.code.length c1, .int .i64 m4.at_, .int .u64 m4.seed], 3⟩] [⟨(sv B3 1 c3 5), ((List.drop 1 r_3.Cells).flatMap enc_Dyadic)⟩, ⟨B1, (c.code.flatMap enc_u8)⟩] := ST.subR hS24 (subc (mem_at (i := 0) rfl) (subc (mem_at (i := 2) rfl) (fun _ h => by cases h)))
          exact ⟨m4.at_, m4.seed, r_3.Rows, r_3.Cols, (List.drop 1 r_3.Cells), (sv B3 1 c3 5), (c3 - 1), (some_inj hF6), (FF.cons rfl (FF.cons rfl FF.nil)), ho3, (len_le hv hq1), (by rw [(hv : (List.drop 1 r_3.Cells).length = (r_3.Cells.length - 1))]; exact hS25.sel [4, 0, 3] rfl rfl)⟩
        · skip
          have hF7 := cf' hF5 hb2
          refine cw_seq ?_
          refine cw_region ?_
          refine sq 39 rfl rfl (Y_eq (k := .i64) (a := r_4) (b := 3) rfl rfl rfl) ?_
          refine sq 38 rfl rfl (Y_assign (v := .bool (r_4 == 3)) rfl rfl) ?_
          refine rw_nil ?_
          refine cw_cond (b := (r_4 == 3)) rfl (fun hb3 => ?_) (fun hb3 => ?_)
          · skip
            have hF8 := ct hF7 hb3
            refine cw_region ?_
            refine sq 40 rfl rfl (Y_move (v := pt B 0) rfl rfl) ?_
            refine ss 41 rfl rfl (Ys_bslice (s := 1) (len := 3) (vs := [(0, .int .i64 1), (1, .int .i64 2), (2, .int .i64 4)]) (cs := [.int .i64 1, .int .i64 2, .int .i64 4]) (zs := [.int .i64 0, .int .i64 0, .int .i64 0]) (m := 3) hS10 k_sl_48_3 k_sz_3_1 k_zc_3 rfl (mpc rfl (mpc rfl (mpc rfl mpn))) rfl rfl rfl (by kernel_rfl) (by kernel_rfl) rfl) ?_
            rintro _ w_16 ⟨b5, rfl, hS26⟩
            have hS26 : ST w0 (bl [⟨B, 87, [.slice B1 c.code.length c1, .int .i64 c.at_, .int .u64 c.seed], 3⟩]) _ [⟨some ⟨b, 0, none⟩, 26, [.int .i64 0, .int .i64 0, .slice none 0 0], 3⟩, ⟨some ⟨b1, 0, none⟩, 3, ([1, 2, 2, 4].flatMap encI), 4 * 1⟩, ⟨some ⟨b2, 0, none⟩, 3, ([1, 2, 2, 4].flatMap encI), 4 * 1⟩, ⟨B3, 44, (r_3.Cells.flatMap enc_Dyadic), c3 * 5⟩, ⟨some ⟨b3, 0, none⟩, 26, [.int .i64 r_3.Rows, .int .i64 r_3.Cols, .slice B3 r_3.Cells.length c3], 3⟩, ⟨B, 87, [.slice B1 c.code.length c1, .int .i64 m4.at_, .int .u64 m4.seed], 3⟩, ⟨some ⟨b5, 0, none⟩, 3, ([1, 2, 4].flatMap encI), 3 * 1⟩] [⟨B1, (c.code.flatMap enc_u8)⟩] := hS26
            obtain ⟨⟨r_8, m8⟩, hc7, hF8⟩ := bind_inv hF8
            refine sc 42 rfl rfl (Yc_func (g := 53) (vs := [pt B 0, .slice (some ⟨b5, 0, none⟩) 3 3]) k_call_53 rfl (mc rfl (mc rfl mn)) (c_spec_l1Cur_among (Tl1Cur.mk c.code m4.at_ m4.seed) [1, 2, 4] B B1 c1 c.code.length (some ⟨b5, 0, none⟩) 3 3 _ rfl rfl (hS26.inn [false, false, false, false, false, true, false] rfl [(true, 0), (false, 5)] rfl) hc7)) ?_
            rintro _ w_17 ⟨rfl, hd7⟩
            have hS27 := hS26.out [false, false, false, false, false, true, false] rfl hd7
            have hS27 : ST w0 (bl [⟨B, 87, [.slice B1 c.code.length c1, .int .i64 c.at_, .int .u64 c.seed], 3⟩]) _ [⟨some ⟨b, 0, none⟩, 26, [.int .i64 0, .int .i64 0, .slice none 0 0], 3⟩, ⟨some ⟨b1, 0, none⟩, 3, ([1, 2, 2, 4].flatMap encI), 4 * 1⟩, ⟨some ⟨b2, 0, none⟩, 3, ([1, 2, 2, 4].flatMap encI), 4 * 1⟩, ⟨B3, 44, (r_3.Cells.flatMap enc_Dyadic), c3 * 5⟩, ⟨some ⟨b3, 0, none⟩, 26, [.int .i64 r_3.Rows, .int .i64 r_3.Cols, .slice B3 r_3.Cells.length c3], 3⟩, ⟨some ⟨b5, 0, none⟩, 3, ([1, 2, 4].flatMap encI), 3 * 1⟩, ⟨B, 87, [.slice B1 c.code.length c1, .int .i64 m8.at_, .int .u64 m8.seed], 3⟩] [⟨B1, (c.code.flatMap enc_u8)⟩] := hS27
            obtain ⟨r_9, hc8, hF8⟩ := bind_inv hF8
            refine sc 43 rfl rfl (Yc_func (g := 109) (vs := [.int .i64 r_8]) k_call_109 rfl (mc rfl mn) (c_spec_l3Unit r_8 _  (hS27.inn0 [] rfl) hc8)) ?_
            rintro _ w_18 ⟨B5, c5, rfl, hd8⟩
            have hS28 := hS27.out0 hd8
            have hS28 : ST w0 (bl [⟨B, 87, [.slice B1 c.code.length c1, .int .i64 c.at_, .int .u64 c.seed], 3⟩]) _ [⟨some ⟨b, 0, none⟩, 26, [.int .i64 0, .int .i64 0, .slice none 0 0], 3⟩, ⟨some ⟨b1, 0, none⟩, 3, ([1, 2, 2, 4].flatMap encI), 4 * 1⟩, ⟨some ⟨b2, 0, none⟩, 3, ([1, 2, 2, 4].flatMap encI), 4 * 1⟩, ⟨B3, 44, (r_3.Cells.flatMap enc_Dyadic), c3 * 5⟩, ⟨some ⟨b3, 0, none⟩, 26, [.int .i64 r_3.Rows, .int .i64 r_3.Cols, .slice B3 r_3.Cells.length c3], 3⟩, ⟨some ⟨b5, 0, none⟩, 3, ([1, 2, 4].flatMap encI), 3 * 1⟩, ⟨B, 87, [.slice B1 c.code.length c1, .int .i64 m8.at_, .int .u64 m8.seed], 3⟩, ⟨B5, 44, (r_9.Cells.flatMap enc_Dyadic), c5 * 5⟩] [⟨B1, (c.code.flatMap enc_u8)⟩] := hS28
            refine ss0 rfl rfl (Ys_store (i := 4) (s := 3) (B := some ⟨b3, 0, none⟩) (T' := 26) (v := .agg #[.int .i64 r_9.Rows, .int .i64 r_9.Cols, .slice B5 r_9.Cells.length c5]) (vs := [.int .i64 r_9.Rows, .int .i64 r_9.Cols, .slice B5 r_9.Cells.length c5]) (k := 0) (cs' := [.int .i64 r_9.Rows, .int .i64 r_9.Cols, .slice B5 r_9.Cells.length c5]) hS28 k_sz_26_3 rfl rfl rfl rfl rfl rfl rfl (Nat.le_of_ble_eq_true rfl) rfl rfl) ?_
            rintro _ w_19 ⟨rfl, hS29⟩
            have hS29 : ST w0 (bl [⟨B, 87, [.slice B1 c.code.length c1, .int .i64 c.at_, .int .u64 c.seed], 3⟩]) _ [⟨some ⟨b, 0, none⟩, 26, [.int .i64 0, .int .i64 0, .slice none 0 0], 3⟩, ⟨some ⟨b1, 0, none⟩, 3, ([1, 2, 2, 4].flatMap encI), 4 * 1⟩, ⟨some ⟨b2, 0, none⟩, 3, ([1, 2, 2, 4].flatMap encI), 4 * 1⟩, ⟨B3, 44, (r_3.Cells.flatMap enc_Dyadic), c3 * 5⟩, ⟨some ⟨b3, 0, none⟩, 26, [.int .i64 r_9.Rows, .int .i64 r_9.Cols, .slice B5 r_9.Cells.length c5], 3⟩, ⟨some ⟨b5, 0, none⟩, 3, ([1, 2, 4].flatMap encI), 3 * 1⟩, ⟨B, 87, [.slice B1 c.code.length c1, .int .i64 m8.at_, .int .u64 m8.seed], 3⟩, ⟨B5, 44, (r_9.Cells.flatMap enc_Dyadic), c5 * 5⟩] [⟨B1, (c.code.flatMap enc_u8)⟩] := hS29
            refine rw_nil ?_
            have ho5 : Org w0 (bl [⟨B, 87, [.slice B1 c.code.length c1, .int .i64 c.at_, .int .u64 c.seed], 3⟩]) [⟨B1, (c.code.flatMap enc_u8)⟩] [⟨B5, (r_9.Cells.flatMap enc_Dyadic)⟩] := ST.orgOwn hS29 (i := 7) rfl
            have hcap4 : r_9.Cells.length ≤ c5 := (hS29.lencap (i := 7) rfl (fm_lenn (l := r_9.Cells) enc_Dyadic_len rfl) rfl rfl)
            have hS30 : ST w0 (bl [⟨B, 87, [.slice B1 c.code.length c1, .int .i64 c.at_, .int .u64 c.seed], 3⟩]) _ [⟨some ⟨b, 0, none⟩, 26, [.int .i64 0, .int .i64 0, .slice none 0 0], 3⟩, ⟨some ⟨b1, 0, none⟩, 3, ([1, 2, 2, 4].flatMap encI), 4 * 1⟩, ⟨some ⟨b2, 0, none⟩, 3, ([1, 2, 2, 4].flatMap encI), 4 * 1⟩, ⟨B3, 44, (r_3.Cells.flatMap enc_Dyadic), c3 * 5⟩, ⟨some ⟨b3, 0, none⟩, 26, [.int .i64 r_9.Rows, .int .i64 r_9.Cols, .slice B5 r_9.Cells.length c5], 3⟩, ⟨some ⟨b5, 0, none⟩, 3, ([1, 2, 4].flatMap encI), 3 * 1⟩, ⟨B, 87, [.slice B1 c.code.length c1, .int .i64 m8.at_, .int .u64 m8.seed], 3⟩] [⟨B5, (r_9.Cells.flatMap enc_Dyadic)⟩, ⟨B1, (c.code.flatMap enc_u8)⟩] := hS29.freeze (i := 7) rfl
            exact ⟨m8.at_, m8.seed, r_9.Rows, r_9.Cols, r_9.Cells, B5, c5, (some_inj hF8), (FF.cons rfl (FF.cons rfl FF.nil)), ho5, (len_le rfl hcap4), (hS30.sel [6, 0, 4] rfl rfl)⟩
          · skip
            have hF9 := cf' hF7 hb3
            refine cw_skip ?_
            have ho6 : Org w0 (bl [⟨B, 87, [.slice B1 c.code.length c1, .int .i64 c.at_, .int .u64 c.seed], 3⟩]) [⟨B1, (c.code.flatMap enc_u8)⟩] [⟨B3, (r_3.Cells.flatMap enc_Dyadic)⟩] := ST.orgOwn hS10 (i := 3) rfl
            have hcap5 : r_3.Cells.length ≤ c3 := (hS10.lencap (i := 3) rfl (fm_lenn (l := r_3.Cells) enc_Dyadic_len rfl) rfl rfl)
            have hS31 : ST w0 (bl [⟨B, 87, [.slice B1 c.code.length c1, .int .i64 c.at_, .int .u64 c.seed], 3⟩]) _ [⟨some ⟨b, 0, none⟩, 26, [.int .i64 0, .int .i64 0, .slice none 0 0], 3⟩, ⟨some ⟨b1, 0, none⟩, 3, ([1, 2, 2, 4].flatMap encI), 4 * 1⟩, ⟨some ⟨b2, 0, none⟩, 3, ([1, 2, 2, 4].flatMap encI), 4 * 1⟩, ⟨some ⟨b3, 0, none⟩, 26, [.int .i64 r_3.Rows, .int .i64 r_3.Cols, .slice B3 r_3.Cells.length c3], 3⟩, ⟨B, 87, [.slice B1 c.code.length c1, .int .i64 m4.at_, .int .u64 m4.seed], 3⟩] [⟨B3, (r_3.Cells.flatMap enc_Dyadic)⟩, ⟨B1, (c.code.flatMap enc_u8)⟩] := hS10.freeze (i := 3) rfl
            exact ⟨m4.at_, m4.seed, r_3.Rows, r_3.Cols, r_3.Cells, B3, c3, (some_inj hF9), (FF.cons rfl (FF.cons rfl FF.nil)), ho6, (len_le rfl hcap5), (hS31.sel [4, 0, 3] rfl rfl)⟩
  rintro f w ⟨at_, seed, Rows, Cols, Cells, B4, c4, rfl, hf, ho, hq, hS9⟩
  refine cw_seq ?_
  refine cw_region ?_
  refine sq 44 rfl rfl (Y_loadA (B := some ⟨b3, 0, none⟩) (i := 0) (cs := [.int .i64 Rows, .int .i64 Cols, .slice B4 Cells.length c4]) (vs := [.int .i64 Rows, .int .i64 Cols, .slice B4 Cells.length c4]) k_ag_26 k_sz_26_3 rfl (hf.get 3 1 rfl) (hS9.cf (i := 2) rfl) rfl rfl) ?_
  refine ss0 rfl rfl (Ys_store (i := 1) (s := 3) (B := some ⟨b, 0, none⟩) (T' := 26) (v := .agg #[.int .i64 Rows, .int .i64 Cols, .slice B4 Cells.length c4]) (vs := [.int .i64 Rows, .int .i64 Cols, .slice B4 Cells.length c4]) (k := 0) (cs' := [.int .i64 Rows, .int .i64 Cols, .slice B4 Cells.length c4]) hS9 k_sz_26_3 rfl (hf.get 2 0 rfl) rfl rfl rfl rfl rfl (Nat.le_of_ble_eq_true rfl) rfl rfl) ?_
  rintro _ w_20 ⟨rfl, hS32⟩
  have hS32 : ST w0 (bl [⟨B, 87, [.slice B1 c.code.length c1, .int .i64 c.at_, .int .u64 c.seed], 3⟩]) _ [⟨B, 87, [.slice B1 c.code.length c1, .int .i64 at_, .int .u64 seed], 3⟩, ⟨some ⟨b, 0, none⟩, 26, [.int .i64 Rows, .int .i64 Cols, .slice B4 Cells.length c4], 3⟩, ⟨some ⟨b3, 0, none⟩, 26, [.int .i64 Rows, .int .i64 Cols, .slice B4 Cells.length c4], 3⟩] [⟨B4, (Cells.flatMap enc_Dyadic)⟩, ⟨B1, (c.code.flatMap enc_u8)⟩] := hS32
  refine rw_nil ?_
  refine cw_ret ?_
  obtain ⟨rfl, rfl⟩ := pr2 (some_inj hF1)
  exact ret1 Try.results56 (v1 := .agg #[.int .i64 Rows, .int .i64 Cols, .slice B4 Cells.length c4]) (resAt_cellA (B := some ⟨b, 0, none⟩) (i := 0) (cs := [.int .i64 Rows, .int .i64 Cols, .slice B4 Cells.length c4]) (vs := [.int .i64 Rows, .int .i64 Cols, .slice B4 Cells.length c4]) (hf.get 2 0 rfl) k_ag_26 k_sz_26_3 (hS32.cf (i := 1) rfl) rfl rfl) ⟨B4, c4, rfl, (len_le rfl hq), (org_cons ho org_nil), (ST.subR (R' := [⟨B4, (Cells.flatMap enc_Dyadic)⟩]) (hS32.sel [0] rfl rfl) (subc (mem_at (i := 0) rfl) (fun _ h => by cases h)))⟩

theorem c_spec_DrawMulMatrix (code : List Int) (B : Option Addr) (c n : Nat) (w0 : World) (hn : code.length = n) (hS : ST w0 [] w0 [] [⟨B, (code.flatMap enc_u8)⟩]) {r_ : TMatrix} {r_1 : TMatrix} (hF : F_spec_DrawMulMatrix code = some (r_, r_1)) :
    CV Try.prog 14 #[.slice B n c] w0 (fun v w' => ∃ (B1 : Option Addr) (c1 : Nat) (B2 : Option Addr) (c2 : Nat), v = .tuple #[.agg #[.int .i64 r_.Rows, .int .i64 r_.Cols, .slice B1 r_.Cells.length c1], .agg #[.int .i64 r_1.Rows, .int .i64 r_1.Cols, .slice B2 r_1.Cells.length c2]] ∧ r_1.Cells.length ≤ c2 ∧ Org w0 [] [⟨B, (code.flatMap enc_u8)⟩] [⟨B2, (r_1.Cells.flatMap enc_Dyadic)⟩] ∧ ST w0 [] w' [⟨B1, 44, (r_.Cells.flatMap enc_Dyadic), c1 * 5⟩] [⟨B2, (r_1.Cells.flatMap enc_Dyadic)⟩]) := by
  subst hn
  unfold F_spec_DrawMulMatrix at hF
  refine cv_of_cw 32 Try.func14 rfl Try.ntmps14 rfl ?_
  refine cw_seq ?_
  refine cw_region ?_
  refine ss 2 rfl rfl (Ys_alloc (T := 26) (cs := [.int .i64 0, .int .i64 0, .slice none 0 0]) (m := 3) hS k_zero_26 rfl rfl rfl) ?_
  rintro _ w_ ⟨b, rfl, hS1⟩
  refine ss 3 rfl rfl (Ys_alloc (T := 26) (cs := [.int .i64 0, .int .i64 0, .slice none 0 0]) (m := 3) hS1 k_zero_26 rfl rfl rfl) ?_
  rintro _ w_1 ⟨b1, rfl, hS2⟩
  have hS2 : ST w0 [] _ [⟨some ⟨b, 0, none⟩, 26, [.int .i64 0, .int .i64 0, .slice none 0 0], 3⟩, ⟨some ⟨b1, 0, none⟩, 26, [.int .i64 0, .int .i64 0, .slice none 0 0], 3⟩] [⟨B, (code.flatMap enc_u8)⟩] := hS2
  refine rw_nil ?_
  refine cw_seq ?_
  refine cw_region ?_
  refine sq 8 rfl rfl (Y_move (v := .slice B code.length c) rfl rfl) ?_
  refine sq 9 rfl rfl (Y_buildS (zs := [.slice none 0 0, .int .i64 0, .int .u64 0]) (vs := [(0, .slice B code.length c)]) (cs := [.slice B code.length c, .int .i64 0, .int .u64 0]) k_pl_87 k_zero_87 rfl (mpc rfl mpn) rfl) ?_
  refine ss 10 rfl rfl (Ys_box (T := 87) (v := .agg #[.slice B code.length c, .int .i64 0, .int .u64 0]) (cs := [.slice B code.length c, .int .i64 0, .int .u64 0]) (m := 3) hS2 rfl rfl rfl rfl) ?_
  rintro _ w_2 ⟨b2, rfl, hS3⟩
  have hS3 : ST w0 [] _ [⟨some ⟨b, 0, none⟩, 26, [.int .i64 0, .int .i64 0, .slice none 0 0], 3⟩, ⟨some ⟨b1, 0, none⟩, 26, [.int .i64 0, .int .i64 0, .slice none 0 0], 3⟩, ⟨some ⟨b2, 0, none⟩, 87, [.slice B code.length c, .int .i64 0, .int .u64 0], 3⟩] [⟨B, (code.flatMap enc_u8)⟩] := hS3
  refine sq 4 rfl rfl (Y_assign (v := pt (some ⟨b2, 0, none⟩) 0) rfl rfl) ?_
  refine rw_nil ?_
  refine cw_seq ?_
  refine cw_region ?_
  refine sq 11 rfl rfl (Y_move (v := pt (some ⟨b2, 0, none⟩) 0) rfl rfl) ?_
  refine ss 12 rfl rfl (Ys_bslice (s := 1) (len := 4) (vs := [(0, .int .i64 1), (1, .int .i64 2), (2, .int .i64 2), (3, .int .i64 4)]) (cs := [.int .i64 1, .int .i64 2, .int .i64 2, .int .i64 4]) (zs := [.int .i64 0, .int .i64 0, .int .i64 0, .int .i64 0]) (m := 4) hS3 k_sl_48_3 k_sz_3_1 k_zc_3 rfl (mpc rfl (mpc rfl (mpc rfl (mpc rfl mpn)))) rfl rfl rfl (by kernel_rfl) (by kernel_rfl) rfl) ?_
  rintro _ w_3 ⟨b3, rfl, hS4⟩
  have hS4 : ST w0 [] _ [⟨some ⟨b, 0, none⟩, 26, [.int .i64 0, .int .i64 0, .slice none 0 0], 3⟩, ⟨some ⟨b1, 0, none⟩, 26, [.int .i64 0, .int .i64 0, .slice none 0 0], 3⟩, ⟨some ⟨b2, 0, none⟩, 87, [.slice B code.length c, .int .i64 0, .int .u64 0], 3⟩, ⟨some ⟨b3, 0, none⟩, 3, ([1, 2, 2, 4].flatMap encI), 4 * 1⟩] [⟨B, (code.flatMap enc_u8)⟩] := hS4
  obtain ⟨⟨r_2, m⟩, hc, hF⟩ := bind_inv hF
  refine sc 13 rfl rfl (Yc_func (g := 53) (vs := [pt (some ⟨b2, 0, none⟩) 0, .slice (some ⟨b3, 0, none⟩) 4 4]) k_call_53 rfl (mc rfl (mc rfl mn)) (c_spec_l1Cur_among (Tl1Cur.mk code 0 0) [1, 2, 2, 4] (some ⟨b2, 0, none⟩) B c code.length (some ⟨b3, 0, none⟩) 4 4 _ rfl rfl (hS4.inn [false, false, true, false] rfl [(true, 0), (false, 2)] rfl) hc)) ?_
  rintro _ w_4 ⟨rfl, hd⟩
  have hS5 := hS4.out [false, false, true, false] rfl hd
  have hS5 : ST w0 [] _ [⟨some ⟨b, 0, none⟩, 26, [.int .i64 0, .int .i64 0, .slice none 0 0], 3⟩, ⟨some ⟨b1, 0, none⟩, 26, [.int .i64 0, .int .i64 0, .slice none 0 0], 3⟩, ⟨some ⟨b3, 0, none⟩, 3, ([1, 2, 2, 4].flatMap encI), 4 * 1⟩, ⟨some ⟨b2, 0, none⟩, 87, [.slice B code.length c, .int .i64 m.at_, .int .u64 m.seed], 3⟩] [⟨B, (code.flatMap enc_u8)⟩] := hS5
  refine sq 5 rfl rfl (Y_assign (v := .int .i64 r_2) rfl rfl) ?_
  refine rw_nil ?_
  refine cw_seq ?_
  refine cw_region ?_
  refine sq 14 rfl rfl (Y_move (v := pt (some ⟨b2, 0, none⟩) 0) rfl rfl) ?_
  refine sq 15 rfl rfl (Y_move (v := pt (some ⟨b2, 0, none⟩) 0) rfl rfl) ?_
  refine ss 16 rfl rfl (Ys_bslice (s := 1) (len := 3) (vs := [(0, .int .i64 1), (1, .int .i64 2), (2, .int .i64 4)]) (cs := [.int .i64 1, .int .i64 2, .int .i64 4]) (zs := [.int .i64 0, .int .i64 0, .int .i64 0]) (m := 3) hS5 k_sl_48_3 k_sz_3_1 k_zc_3 rfl (mpc rfl (mpc rfl (mpc rfl mpn))) rfl rfl rfl (by kernel_rfl) (by kernel_rfl) rfl) ?_
  rintro _ w_5 ⟨b4, rfl, hS6⟩
  have hS6 : ST w0 [] _ [⟨some ⟨b, 0, none⟩, 26, [.int .i64 0, .int .i64 0, .slice none 0 0], 3⟩, ⟨some ⟨b1, 0, none⟩, 26, [.int .i64 0, .int .i64 0, .slice none 0 0], 3⟩, ⟨some ⟨b3, 0, none⟩, 3, ([1, 2, 2, 4].flatMap encI), 4 * 1⟩, ⟨some ⟨b2, 0, none⟩, 87, [.slice B code.length c, .int .i64 m.at_, .int .u64 m.seed], 3⟩, ⟨some ⟨b4, 0, none⟩, 3, ([1, 2, 4].flatMap encI), 3 * 1⟩] [⟨B, (code.flatMap enc_u8)⟩] := hS6
  obtain ⟨⟨r_3, m1⟩, hc1, hF⟩ := bind_inv hF
  refine sc 17 rfl rfl (Yc_func (g := 53) (vs := [pt (some ⟨b2, 0, none⟩) 0, .slice (some ⟨b4, 0, none⟩) 3 3]) k_call_53 rfl (mc rfl (mc rfl mn)) (c_spec_l1Cur_among (Tl1Cur.mk code m.at_ m.seed) [1, 2, 4] (some ⟨b2, 0, none⟩) B c code.length (some ⟨b4, 0, none⟩) 3 3 _ rfl rfl (hS6.inn [false, false, false, true, false] rfl [(true, 0), (false, 3)] rfl) hc1)) ?_
  rintro _ w_6 ⟨rfl, hd1⟩
  have hS7 := hS6.out [false, false, false, true, false] rfl hd1
  have hS7 : ST w0 [] _ [⟨some ⟨b, 0, none⟩, 26, [.int .i64 0, .int .i64 0, .slice none 0 0], 3⟩, ⟨some ⟨b1, 0, none⟩, 26, [.int .i64 0, .int .i64 0, .slice none 0 0], 3⟩, ⟨some ⟨b3, 0, none⟩, 3, ([1, 2, 2, 4].flatMap encI), 4 * 1⟩, ⟨some ⟨b4, 0, none⟩, 3, ([1, 2, 4].flatMap encI), 3 * 1⟩, ⟨some ⟨b2, 0, none⟩, 87, [.slice B code.length c, .int .i64 m1.at_, .int .u64 m1.seed], 3⟩] [⟨B, (code.flatMap enc_u8)⟩] := hS7
  refine sq 18 rfl rfl (Y_move (v := .int .i64 r_2) rfl rfl) ?_
  obtain ⟨⟨r_4, m2⟩, hc2, hF⟩ := bind_inv hF
  refine sc 19 rfl rfl (Yc_func (g := 54) (vs := [pt (some ⟨b2, 0, none⟩) 0, .int .i64 r_3, .int .i64 r_2]) k_call_54 rfl (mc rfl (mc rfl (mc rfl mn))) (c_spec_l1Cur_matrix (Tl1Cur.mk code m1.at_ m1.seed) r_3 r_2 (some ⟨b2, 0, none⟩) B c code.length _ rfl (hS7.inn [false, false, false, false, true] rfl [(true, 0)] rfl) hc2)) ?_
  rintro _ w_7 ⟨B3, c3, rfl, hd2⟩
  have hS8 := hS7.out [false, false, false, false, true] rfl hd2
  have hS8 : ST w0 [] _ [⟨some ⟨b, 0, none⟩, 26, [.int .i64 0, .int .i64 0, .slice none 0 0], 3⟩, ⟨some ⟨b1, 0, none⟩, 26, [.int .i64 0, .int .i64 0, .slice none 0 0], 3⟩, ⟨some ⟨b3, 0, none⟩, 3, ([1, 2, 2, 4].flatMap encI), 4 * 1⟩, ⟨some ⟨b4, 0, none⟩, 3, ([1, 2, 4].flatMap encI), 3 * 1⟩, ⟨some ⟨b2, 0, none⟩, 87, [.slice B code.length c, .int .i64 m2.at_, .int .u64 m2.seed], 3⟩, ⟨B3, 44, (r_4.Cells.flatMap enc_Dyadic), c3 * 5⟩] [⟨B, (code.flatMap enc_u8)⟩] := hS8
  refine sq 20 rfl rfl (Y_move (v := pt (some ⟨b2, 0, none⟩) 0) rfl rfl) ?_
  refine sq 21 rfl rfl (Y_move (v := .int .i64 r_2) rfl rfl) ?_
  refine sq 22 rfl rfl (Y_move (v := pt (some ⟨b2, 0, none⟩) 0) rfl rfl) ?_
  refine ss 23 rfl rfl (Ys_bslice (s := 1) (len := 3) (vs := [(0, .int .i64 1), (1, .int .i64 2), (2, .int .i64 4)]) (cs := [.int .i64 1, .int .i64 2, .int .i64 4]) (zs := [.int .i64 0, .int .i64 0, .int .i64 0]) (m := 3) hS8 k_sl_48_3 k_sz_3_1 k_zc_3 rfl (mpc rfl (mpc rfl (mpc rfl mpn))) rfl rfl rfl (by kernel_rfl) (by kernel_rfl) rfl) ?_
  rintro _ w_8 ⟨b5, rfl, hS9⟩
  have hS9 : ST w0 [] _ [⟨some ⟨b, 0, none⟩, 26, [.int .i64 0, .int .i64 0, .slice none 0 0], 3⟩, ⟨some ⟨b1, 0, none⟩, 26, [.int .i64 0, .int .i64 0, .slice none 0 0], 3⟩, ⟨some ⟨b3, 0, none⟩, 3, ([1, 2, 2, 4].flatMap encI), 4 * 1⟩, ⟨some ⟨b4, 0, none⟩, 3, ([1, 2, 4].flatMap encI), 3 * 1⟩, ⟨some ⟨b2, 0, none⟩, 87, [.slice B code.length c, .int .i64 m2.at_, .int .u64 m2.seed], 3⟩, ⟨B3, 44, (r_4.Cells.flatMap enc_Dyadic), c3 * 5⟩, ⟨some ⟨b5, 0, none⟩, 3, ([1, 2, 4].flatMap encI), 3 * 1⟩] [⟨B, (code.flatMap enc_u8)⟩] := hS9
  obtain ⟨⟨r_5, m3⟩, hc3, hF⟩ := bind_inv hF
  refine sc 24 rfl rfl (Yc_func (g := 53) (vs := [pt (some ⟨b2, 0, none⟩) 0, .slice (some ⟨b5, 0, none⟩) 3 3]) k_call_53 rfl (mc rfl (mc rfl mn)) (c_spec_l1Cur_among (Tl1Cur.mk code m2.at_ m2.seed) [1, 2, 4] (some ⟨b2, 0, none⟩) B c code.length (some ⟨b5, 0, none⟩) 3 3 _ rfl rfl (hS9.inn [false, false, false, false, true, false, false] rfl [(true, 0), (false, 5)] rfl) hc3)) ?_
  rintro _ w_9 ⟨rfl, hd3⟩
  have hS10 := hS9.out [false, false, false, false, true, false, false] rfl hd3
  have hS10 : ST w0 [] _ [⟨some ⟨b, 0, none⟩, 26, [.int .i64 0, .int .i64 0, .slice none 0 0], 3⟩, ⟨some ⟨b1, 0, none⟩, 26, [.int .i64 0, .int .i64 0, .slice none 0 0], 3⟩, ⟨some ⟨b3, 0, none⟩, 3, ([1, 2, 2, 4].flatMap encI), 4 * 1⟩, ⟨some ⟨b4, 0, none⟩, 3, ([1, 2, 4].flatMap encI), 3 * 1⟩, ⟨B3, 44, (r_4.Cells.flatMap enc_Dyadic), c3 * 5⟩, ⟨some ⟨b5, 0, none⟩, 3, ([1, 2, 4].flatMap encI), 3 * 1⟩, ⟨some ⟨b2, 0, none⟩, 87, [.slice B code.length c, .int .i64 m3.at_, .int .u64 m3.seed], 3⟩] [⟨B, (code.flatMap enc_u8)⟩] := hS10
  obtain ⟨⟨r_6, m4⟩, hc4, hF⟩ := bind_inv hF
  refine sc 25 rfl rfl (Yc_func (g := 54) (vs := [pt (some ⟨b2, 0, none⟩) 0, .int .i64 r_2, .int .i64 r_5]) k_call_54 rfl (mc rfl (mc rfl (mc rfl mn))) (c_spec_l1Cur_matrix (Tl1Cur.mk code m3.at_ m3.seed) r_2 r_5 (some ⟨b2, 0, none⟩) B c code.length _ rfl (hS10.inn [false, false, false, false, false, false, true] rfl [(true, 0)] rfl) hc4)) ?_
  rintro _ w_10 ⟨B4, c4, rfl, hd4⟩
  have hS11 := hS10.out [false, false, false, false, false, false, true] rfl hd4
  have hS11 : ST w0 [] _ [⟨some ⟨b, 0, none⟩, 26, [.int .i64 0, .int .i64 0, .slice none 0 0], 3⟩, ⟨some ⟨b1, 0, none⟩, 26, [.int .i64 0, .int .i64 0, .slice none 0 0], 3⟩, ⟨some ⟨b3, 0, none⟩, 3, ([1, 2, 2, 4].flatMap encI), 4 * 1⟩, ⟨some ⟨b4, 0, none⟩, 3, ([1, 2, 4].flatMap encI), 3 * 1⟩, ⟨B3, 44, (r_4.Cells.flatMap enc_Dyadic), c3 * 5⟩, ⟨some ⟨b5, 0, none⟩, 3, ([1, 2, 4].flatMap encI), 3 * 1⟩, ⟨some ⟨b2, 0, none⟩, 87, [.slice B code.length c, .int .i64 m4.at_, .int .u64 m4.seed], 3⟩, ⟨B4, 44, (r_6.Cells.flatMap enc_Dyadic), c4 * 5⟩] [⟨B, (code.flatMap enc_u8)⟩] := hS11
  refine ss 6 rfl rfl (Ys_alloc (T := 26) (cs := [.int .i64 0, .int .i64 0, .slice none 0 0]) (m := 3) hS11 k_zero_26 rfl rfl rfl) ?_
  rintro _ w_11 ⟨b6, rfl, hS12⟩
  have hS12 : ST w0 [] _ [⟨some ⟨b, 0, none⟩, 26, [.int .i64 0, .int .i64 0, .slice none 0 0], 3⟩, ⟨some ⟨b1, 0, none⟩, 26, [.int .i64 0, .int .i64 0, .slice none 0 0], 3⟩, ⟨some ⟨b3, 0, none⟩, 3, ([1, 2, 2, 4].flatMap encI), 4 * 1⟩, ⟨some ⟨b4, 0, none⟩, 3, ([1, 2, 4].flatMap encI), 3 * 1⟩, ⟨B3, 44, (r_4.Cells.flatMap enc_Dyadic), c3 * 5⟩, ⟨some ⟨b5, 0, none⟩, 3, ([1, 2, 4].flatMap encI), 3 * 1⟩, ⟨some ⟨b2, 0, none⟩, 87, [.slice B code.length c, .int .i64 m4.at_, .int .u64 m4.seed], 3⟩, ⟨B4, 44, (r_6.Cells.flatMap enc_Dyadic), c4 * 5⟩, ⟨some ⟨b6, 0, none⟩, 26, [.int .i64 0, .int .i64 0, .slice none 0 0], 3⟩] [⟨B, (code.flatMap enc_u8)⟩] := hS12
  refine ss 7 rfl rfl (Ys_alloc (T := 26) (cs := [.int .i64 0, .int .i64 0, .slice none 0 0]) (m := 3) hS12 k_zero_26 rfl rfl rfl) ?_
  rintro _ w_12 ⟨b7, rfl, hS13⟩
  have hS13 : ST w0 [] _ [⟨some ⟨b, 0, none⟩, 26, [.int .i64 0, .int .i64 0, .slice none 0 0], 3⟩, ⟨some ⟨b1, 0, none⟩, 26, [.int .i64 0, .int .i64 0, .slice none 0 0], 3⟩, ⟨some ⟨b3, 0, none⟩, 3, ([1, 2, 2, 4].flatMap encI), 4 * 1⟩, ⟨some ⟨b4, 0, none⟩, 3, ([1, 2, 4].flatMap encI), 3 * 1⟩, ⟨B3, 44, (r_4.Cells.flatMap enc_Dyadic), c3 * 5⟩, ⟨some ⟨b5, 0, none⟩, 3, ([1, 2, 4].flatMap encI), 3 * 1⟩, ⟨some ⟨b2, 0, none⟩, 87, [.slice B code.length c, .int .i64 m4.at_, .int .u64 m4.seed], 3⟩, ⟨B4, 44, (r_6.Cells.flatMap enc_Dyadic), c4 * 5⟩, ⟨some ⟨b6, 0, none⟩, 26, [.int .i64 0, .int .i64 0, .slice none 0 0], 3⟩, ⟨some ⟨b7, 0, none⟩, 26, [.int .i64 0, .int .i64 0, .slice none 0 0], 3⟩] [⟨B, (code.flatMap enc_u8)⟩] := hS13
  refine ss0 rfl rfl (Ys_store (i := 8) (s := 3) (B := some ⟨b6, 0, none⟩) (T' := 26) (v := .agg #[.int .i64 r_4.Rows, .int .i64 r_4.Cols, .slice B3 r_4.Cells.length c3]) (vs := [.int .i64 r_4.Rows, .int .i64 r_4.Cols, .slice B3 r_4.Cells.length c3]) (k := 0) (cs' := [.int .i64 r_4.Rows, .int .i64 r_4.Cols, .slice B3 r_4.Cells.length c3]) hS13 k_sz_26_3 rfl rfl rfl rfl rfl rfl rfl (Nat.le_of_ble_eq_true rfl) rfl rfl) ?_
  rintro _ w_13 ⟨rfl, hS14⟩
  have hS14 : ST w0 [] _ [⟨some ⟨b, 0, none⟩, 26, [.int .i64 0, .int .i64 0, .slice none 0 0], 3⟩, ⟨some ⟨b1, 0, none⟩, 26, [.int .i64 0, .int .i64 0, .slice none 0 0], 3⟩, ⟨some ⟨b3, 0, none⟩, 3, ([1, 2, 2, 4].flatMap encI), 4 * 1⟩, ⟨some ⟨b4, 0, none⟩, 3, ([1, 2, 4].flatMap encI), 3 * 1⟩, ⟨B3, 44, (r_4.Cells.flatMap enc_Dyadic), c3 * 5⟩, ⟨some ⟨b5, 0, none⟩, 3, ([1, 2, 4].flatMap encI), 3 * 1⟩, ⟨some ⟨b2, 0, none⟩, 87, [.slice B code.length c, .int .i64 m4.at_, .int .u64 m4.seed], 3⟩, ⟨B4, 44, (r_6.Cells.flatMap enc_Dyadic), c4 * 5⟩, ⟨some ⟨b6, 0, none⟩, 26, [.int .i64 r_4.Rows, .int .i64 r_4.Cols, .slice B3 r_4.Cells.length c3], 3⟩, ⟨some ⟨b7, 0, none⟩, 26, [.int .i64 0, .int .i64 0, .slice none 0 0], 3⟩] [⟨B, (code.flatMap enc_u8)⟩] := hS14
  refine ss0 rfl rfl (Ys_store (i := 9) (s := 3) (B := some ⟨b7, 0, none⟩) (T' := 26) (v := .agg #[.int .i64 r_6.Rows, .int .i64 r_6.Cols, .slice B4 r_6.Cells.length c4]) (vs := [.int .i64 r_6.Rows, .int .i64 r_6.Cols, .slice B4 r_6.Cells.length c4]) (k := 0) (cs' := [.int .i64 r_6.Rows, .int .i64 r_6.Cols, .slice B4 r_6.Cells.length c4]) hS14 k_sz_26_3 rfl rfl rfl rfl rfl rfl rfl (Nat.le_of_ble_eq_true rfl) rfl rfl) ?_
  rintro _ w_14 ⟨rfl, hS15⟩
  have hS15 : ST w0 [] _ [⟨some ⟨b, 0, none⟩, 26, [.int .i64 0, .int .i64 0, .slice none 0 0], 3⟩, ⟨some ⟨b1, 0, none⟩, 26, [.int .i64 0, .int .i64 0, .slice none 0 0], 3⟩, ⟨some ⟨b3, 0, none⟩, 3, ([1, 2, 2, 4].flatMap encI), 4 * 1⟩, ⟨some ⟨b4, 0, none⟩, 3, ([1, 2, 4].flatMap encI), 3 * 1⟩, ⟨B3, 44, (r_4.Cells.flatMap enc_Dyadic), c3 * 5⟩, ⟨some ⟨b5, 0, none⟩, 3, ([1, 2, 4].flatMap encI), 3 * 1⟩, ⟨some ⟨b2, 0, none⟩, 87, [.slice B code.length c, .int .i64 m4.at_, .int .u64 m4.seed], 3⟩, ⟨B4, 44, (r_6.Cells.flatMap enc_Dyadic), c4 * 5⟩, ⟨some ⟨b6, 0, none⟩, 26, [.int .i64 r_4.Rows, .int .i64 r_4.Cols, .slice B3 r_4.Cells.length c3], 3⟩, ⟨some ⟨b7, 0, none⟩, 26, [.int .i64 r_6.Rows, .int .i64 r_6.Cols, .slice B4 r_6.Cells.length c4], 3⟩] [⟨B, (code.flatMap enc_u8)⟩] := hS15
  refine rw_nil ?_
  refine cw_seq ?_
  obtain ⟨z, hz, hF1⟩ := bind_inv hF
  refine cw_mid (fun f w => ∃ (Rows : Int) (Cols : Int) (Cells : List TDyadic) (B5 : Option Addr) (c5 : Nat), (Rows, Cols, Cells) = z ∧ FF f [(2, pt (some ⟨b, 0, none⟩) 0), (3, pt (some ⟨b1, 0, none⟩) 0), (6, pt (some ⟨b6, 0, none⟩) 0), (7, pt (some ⟨b7, 0, none⟩) 0)] ∧ Org w0 [] [⟨B, (code.flatMap enc_u8)⟩] [⟨B5, (Cells.flatMap enc_Dyadic)⟩] ∧ Cells.length ≤ c5 ∧ ST w0 [] w [⟨some ⟨b, 0, none⟩, 26, [.int .i64 0, .int .i64 0, .slice none 0 0], 3⟩, ⟨some ⟨b1, 0, none⟩, 26, [.int .i64 0, .int .i64 0, .slice none 0 0], 3⟩, ⟨some ⟨b6, 0, none⟩, 26, [.int .i64 r_4.Rows, .int .i64 r_4.Cols, .slice B3 r_4.Cells.length c3], 3⟩, ⟨B3, 44, (r_4.Cells.flatMap enc_Dyadic), c3 * 5⟩, ⟨some ⟨b7, 0, none⟩, 26, [.int .i64 Rows, .int .i64 Cols, .slice B5 Cells.length c5], 3⟩] [⟨B5, (Cells.flatMap enc_Dyadic)⟩, ⟨B, (code.flatMap enc_u8)⟩]) ?_ ?_
  · skip
    refine cw_seq ?_
    refine cw_region ?_
    refine sq 26 rfl rfl (Y_move (v := pt (some ⟨b2, 0, none⟩) 0) rfl rfl) ?_
    obtain ⟨⟨r_7, m5⟩, hc5, hz⟩ := bind_inv hz
    refine sc 27 rfl rfl (Yc_func (g := 55) (vs := [pt (some ⟨b2, 0, none⟩) 0, .int .i64 10]) k_call_55 rfl (mc rfl (mc rfl mn)) (c_spec_l1Cur_one (Tl1Cur.mk code m4.at_ m4.seed) 10 (some ⟨b2, 0, none⟩) B c code.length _ rfl (hS15.inn [false, false, false, false, false, false, true, false, false, false] rfl [(true, 0)] rfl) hc5)) ?_
    rintro _ w_15 ⟨rfl, hd5⟩
    have hS17 := hS15.out [false, false, false, false, false, false, true, false, false, false] rfl hd5
    have hS17 : ST w0 [] _ [⟨some ⟨b, 0, none⟩, 26, [.int .i64 0, .int .i64 0, .slice none 0 0], 3⟩, ⟨some ⟨b1, 0, none⟩, 26, [.int .i64 0, .int .i64 0, .slice none 0 0], 3⟩, ⟨some ⟨b3, 0, none⟩, 3, ([1, 2, 2, 4].flatMap encI), 4 * 1⟩, ⟨some ⟨b4, 0, none⟩, 3, ([1, 2, 4].flatMap encI), 3 * 1⟩, ⟨B3, 44, (r_4.Cells.flatMap enc_Dyadic), c3 * 5⟩, ⟨some ⟨b5, 0, none⟩, 3, ([1, 2, 4].flatMap encI), 3 * 1⟩, ⟨B4, 44, (r_6.Cells.flatMap enc_Dyadic), c4 * 5⟩, ⟨some ⟨b6, 0, none⟩, 26, [.int .i64 r_4.Rows, .int .i64 r_4.Cols, .slice B3 r_4.Cells.length c3], 3⟩, ⟨some ⟨b7, 0, none⟩, 26, [.int .i64 r_6.Rows, .int .i64 r_6.Cols, .slice B4 r_6.Cells.length c4], 3⟩, ⟨some ⟨b2, 0, none⟩, 87, [.slice B code.length c, .int .i64 m5.at_, .int .u64 m5.seed], 3⟩] [⟨B, (code.flatMap enc_u8)⟩] := hS17
    refine rw_nil ?_
    refine cw_cond (b := r_7) rfl (fun hb => ?_) (fun hb => ?_)
    · skip
      have hF2 := ct hz hb
      refine cw_region ?_
      refine sq 28 rfl rfl (Y_move (v := pt (some ⟨b2, 0, none⟩) 0) rfl rfl) ?_
      obtain ⟨⟨r_8, m6⟩, hc6, hF2⟩ := bind_inv hF2
      refine sc 29 rfl rfl (Yc_func (g := 56) (vs := [pt (some ⟨b2, 0, none⟩) 0]) k_call_56 rfl (mc rfl mn) (c_spec_l1Cur_anyMatrix (Tl1Cur.mk code m5.at_ m5.seed) (some ⟨b2, 0, none⟩) B c code.length _ rfl (hS17.inn [false, false, false, false, false, false, false, false, false, true] rfl [(true, 0)] rfl) hc6)) ?_
      rintro _ w_16 ⟨B6, c6, rfl, hq1, ho1, hd6⟩
      have hS18 := ST.outR hS17 [false, false, false, false, false, false, false, false, false, true] rfl hd6 ho1 (subc (mem_at (i := 0) rfl) (fun _ h => by cases h))
      have ho2 : Org w0 [] [⟨B, (code.flatMap enc_u8)⟩] [⟨B6, (r_8.Cells.flatMap enc_Dyadic)⟩] := org_trans hS17 (msk_mem (mask := [false, false, false, false, false, false, false, false, false, true]) rfl) ho1 (org_cons (org_mem (i := 0) rfl) org_nil)
      have hS19 : ST w0 [] _ [⟨some ⟨b, 0, none⟩, 26, [.int .i64 0, .int .i64 0, .slice none 0 0], 3⟩, ⟨some ⟨b1, 0, none⟩, 26, [.int .i64 0, .int .i64 0, .slice none 0 0], 3⟩, ⟨some ⟨b3, 0, none⟩, 3, ([1, 2, 2, 4].flatMap encI), 4 * 1⟩, ⟨some ⟨b4, 0, none⟩, 3, ([1, 2, 4].flatMap encI), 3 * 1⟩, ⟨B3, 44, (r_4.Cells.flatMap enc_Dyadic), c3 * 5⟩, ⟨some ⟨b5, 0, none⟩, 3, ([1, 2, 4].flatMap encI), 3 * 1⟩, ⟨B4, 44, (r_6.Cells.flatMap enc_Dyadic), c4 * 5⟩, ⟨some ⟨b6, 0, none⟩, 26, [.int .i64 r_4.Rows, .int .i64 r_4.Cols, .slice B3 r_4.Cells.length c3], 3⟩, ⟨some ⟨b7, 0, none⟩, 26, [.int .i64 r_6.Rows, .int .i64 r_6.Cols, .slice B4 r_6.Cells.length c4], 3⟩, ⟨some ⟨b2, 0, none⟩, 87, [.slice B code.length c, .int .i64 m6.at_, .int .u64 m6.seed], 3⟩] [⟨B6, (r_8.Cells.flatMap enc_Dyadic)⟩, ⟨B, (code.flatMap enc_u8)⟩] := hS18
      have hS19 : ST w0 [] _ [⟨some ⟨b, 0, none⟩, 26, [.int .i64 0, .int .i64 0, .slice none 0 0], 3⟩, ⟨some ⟨b1, 0, none⟩, 26, [.int .i64 0, .int .i64 0, .slice none 0 0], 3⟩, ⟨some ⟨b3, 0, none⟩, 3, ([1, 2, 2, 4].flatMap encI), 4 * 1⟩, ⟨some ⟨b4, 0, none⟩, 3, ([1, 2, 4].flatMap encI), 3 * 1⟩, ⟨B3, 44, (r_4.Cells.flatMap enc_Dyadic), c3 * 5⟩, ⟨some ⟨b5, 0, none⟩, 3, ([1, 2, 4].flatMap encI), 3 * 1⟩, ⟨B4, 44, (r_6.Cells.flatMap enc_Dyadic), c4 * 5⟩, ⟨some ⟨b6, 0, none⟩, 26, [.int .i64 r_4.Rows, .int .i64 r_4.Cols, .slice B3 r_4.Cells.length c3], 3⟩, ⟨some ⟨b7, 0, none⟩, 26, [.int .i64 r_6.Rows, .int .i64 r_6.Cols, .slice B4 r_6.Cells.length c4], 3⟩, ⟨some ⟨b2, 0, none⟩, 87, [.slice B code.length c, .int .i64 m6.at_, .int .u64 m6.seed], 3⟩] [⟨B6, (r_8.Cells.flatMap enc_Dyadic)⟩, ⟨B, (code.flatMap enc_u8)⟩] := hS19
      refine ss0 rfl rfl (Ys_store (i := 8) (s := 3) (B := some ⟨b7, 0, none⟩) (T' := 26) (v := .agg #[.int .i64 r_8.Rows, .int .i64 r_8.Cols, .slice B6 r_8.Cells.length c6]) (vs := [.int .i64 r_8.Rows, .int .i64 r_8.Cols, .slice B6 r_8.Cells.length c6]) (k := 0) (cs' := [.int .i64 r_8.Rows, .int .i64 r_8.Cols, .slice B6 r_8.Cells.length c6]) hS19 k_sz_26_3 rfl rfl rfl rfl rfl rfl rfl (Nat.le_of_ble_eq_true rfl) rfl rfl) ?_
      rintro _ w_17 ⟨rfl, hS20⟩
      have hS20 : ST w0 [] _ [⟨some ⟨b, 0, none⟩, 26, [.int .i64 0, .int .i64 0, .slice none 0 0], 3⟩, ⟨some ⟨b1, 0, none⟩, 26, [.int .i64 0, .int .i64 0, .slice none 0 0], 3⟩, ⟨some ⟨b3, 0, none⟩, 3, ([1, 2, 2, 4].flatMap encI), 4 * 1⟩, ⟨some ⟨b4, 0, none⟩, 3, ([1, 2, 4].flatMap encI), 3 * 1⟩, ⟨B3, 44, (r_4.Cells.flatMap enc_Dyadic), c3 * 5⟩, ⟨some ⟨b5, 0, none⟩, 3, ([1, 2, 4].flatMap encI), 3 * 1⟩, ⟨B4, 44, (r_6.Cells.flatMap enc_Dyadic), c4 * 5⟩, ⟨some ⟨b6, 0, none⟩, 26, [.int .i64 r_4.Rows, .int .i64 r_4.Cols, .slice B3 r_4.Cells.length c3], 3⟩, ⟨some ⟨b7, 0, none⟩, 26, [.int .i64 r_8.Rows, .int .i64 r_8.Cols, .slice B6 r_8.Cells.length c6], 3⟩, ⟨some ⟨b2, 0, none⟩, 87, [.slice B code.length c, .int .i64 m6.at_, .int .u64 m6.seed], 3⟩] [⟨B6, (r_8.Cells.flatMap enc_Dyadic)⟩, ⟨B, (code.flatMap enc_u8)⟩] := hS20
      refine rw_nil ?_
      exact ⟨r_8.Rows, r_8.Cols, r_8.Cells, B6, c6, (some_inj hF2), (FF.cons rfl (FF.cons rfl (FF.cons rfl (FF.cons rfl FF.nil)))), (org_sub ho2 (subc (mem_at (i := 0) rfl) (fun _ h => by cases h))), (len_le rfl hq1), (hS20.sel [0, 1, 7, 4, 8] rfl rfl)⟩
    · skip
      have hF3 := cf' hz hb
      refine cw_skip ?_
      have ho3 : Org w0 [] [⟨B, (code.flatMap enc_u8)⟩] [⟨B4, (r_6.Cells.flatMap enc_Dyadic)⟩] := ST.orgOwn hS17 (i := 6) rfl
      have hcap : r_6.Cells.length ≤ c4 := (hS17.lencap (i := 6) rfl (fm_lenn (l := r_6.Cells) enc_Dyadic_len rfl) rfl rfl)
      have hS21 : ST w0 [] _ [⟨some ⟨b, 0, none⟩, 26, [.int .i64 0, .int .i64 0, .slice none 0 0], 3⟩, ⟨some ⟨b1, 0, none⟩, 26, [.int .i64 0, .int .i64 0, .slice none 0 0], 3⟩, ⟨some ⟨b3, 0, none⟩, 3, ([1, 2, 2, 4].flatMap encI), 4 * 1⟩, ⟨some ⟨b4, 0, none⟩, 3, ([1, 2, 4].flatMap encI), 3 * 1⟩, ⟨B3, 44, (r_4.Cells.flatMap enc_Dyadic), c3 * 5⟩, ⟨some ⟨b5, 0, none⟩, 3, ([1, 2, 4].flatMap encI), 3 * 1⟩, ⟨some ⟨b6, 0, none⟩, 26, [.int .i64 r_4.Rows, .int .i64 r_4.Cols, .slice B3 r_4.Cells.length c3], 3⟩, ⟨some ⟨b7, 0, none⟩, 26, [.int .i64 r_6.Rows, .int .i64 r_6.Cols, .slice B4 r_6.Cells.length c4], 3⟩, ⟨some ⟨b2, 0, none⟩, 87, [.slice B code.length c, .int .i64 m5.at_, .int .u64 m5.seed], 3⟩] [⟨B4, (r_6.Cells.flatMap enc_Dyadic)⟩, ⟨B, (code.flatMap enc_u8)⟩] := hS17.freeze (i := 6) rfl
      exact ⟨r_6.Rows, r_6.Cols, r_6.Cells, B4, c4, (some_inj hF3), (FF.cons rfl (FF.cons rfl (FF.cons rfl (FF.cons rfl FF.nil)))), ho3, (len_le rfl hcap), (hS21.sel [0, 1, 6, 4, 7] rfl rfl)⟩
  rintro f w ⟨Rows, Cols, Cells, B5, c5, rfl, hf, ho, hq, hS16⟩
  refine cw_seq ?_
  refine ra_start (ST.sel hS16 [2, 3, 4] rfl rfl).fn (by kernel_rfl) ?_
  have hS22 := hS16.drew
  refine ra_q 0 30 (v := .agg #[.int .i64 r_4.Rows, .int .i64 r_4.Cols, .slice B3 r_4.Cells.length c3]) rfl rfl rfl (by kernel_rfl) (by kernel_rfl) (by kernel_rfl) (ST.sel hS22 [2, 3, 4] rfl rfl) (fun w' hw' => (Y_loadA (B := some ⟨b6, 0, none⟩) (i := 0) (cs := [.int .i64 r_4.Rows, .int .i64 r_4.Cols, .slice B3 r_4.Cells.length c3]) (vs := [.int .i64 r_4.Rows, .int .i64 r_4.Cols, .slice B3 r_4.Cells.length c3]) k_ag_26 k_sz_26_3 rfl (hf.get 6 2 rfl) (ST.cf hw' (i := 0) rfl) rfl rfl)) ?_
  refine ra_q 1 31 (v := .agg #[.int .i64 Rows, .int .i64 Cols, .slice B5 Cells.length c5]) rfl rfl rfl (by kernel_rfl) (by kernel_rfl) (by kernel_rfl) (ST.sel hS22 [2, 3, 4] rfl rfl) (fun w' hw' => (Y_loadA (B := some ⟨b7, 0, none⟩) (i := 0) (cs := [.int .i64 Rows, .int .i64 Cols, .slice B5 Cells.length c5]) (vs := [.int .i64 Rows, .int .i64 Cols, .slice B5 Cells.length c5]) k_ag_26 k_sz_26_3 rfl (hf.get 7 3 rfl) (ST.cf hw' (i := 2) rfl) rfl rfl)) ?_
  refine ra_all (rs := [2]) (by kernel_rfl) rfl ?_
  refine ra_s0 (i := 2) rfl rfl rfl (Ys_store (i := 0) (s := 3) (B := some ⟨b, 0, none⟩) (T' := 26) (v := .agg #[.int .i64 r_4.Rows, .int .i64 r_4.Cols, .slice B3 r_4.Cells.length c3]) (vs := [.int .i64 r_4.Rows, .int .i64 r_4.Cols, .slice B3 r_4.Cells.length c3]) (k := 0) (cs' := [.int .i64 r_4.Rows, .int .i64 r_4.Cols, .slice B3 r_4.Cells.length c3]) hS22 k_sz_26_3 rfl (hf.get 2 0 rfl) rfl rfl rfl rfl rfl (Nat.le_of_ble_eq_true rfl) rfl rfl) ?_ ?_
  · rintro _ w_18 ⟨rfl, hS23⟩
    have hS23 : ST w0 [] _ [⟨some ⟨b, 0, none⟩, 26, [.int .i64 r_4.Rows, .int .i64 r_4.Cols, .slice B3 r_4.Cells.length c3], 3⟩, ⟨some ⟨b1, 0, none⟩, 26, [.int .i64 0, .int .i64 0, .slice none 0 0], 3⟩, ⟨some ⟨b6, 0, none⟩, 26, [.int .i64 r_4.Rows, .int .i64 r_4.Cols, .slice B3 r_4.Cells.length c3], 3⟩, ⟨B3, 44, (r_4.Cells.flatMap enc_Dyadic), c3 * 5⟩, ⟨some ⟨b7, 0, none⟩, 26, [.int .i64 Rows, .int .i64 Cols, .slice B5 Cells.length c5], 3⟩] [⟨B5, (Cells.flatMap enc_Dyadic)⟩, ⟨B, (code.flatMap enc_u8)⟩] := hS23
    refine ⟨(ST.sel hS23 [2, 3, 4] rfl rfl), ?_⟩
    refine ra_all (rs := [3]) (by kernel_rfl) rfl ?_
    refine ra_s0 (i := 3) rfl rfl rfl (Ys_store (i := 1) (s := 3) (B := some ⟨b1, 0, none⟩) (T' := 26) (v := .agg #[.int .i64 Rows, .int .i64 Cols, .slice B5 Cells.length c5]) (vs := [.int .i64 Rows, .int .i64 Cols, .slice B5 Cells.length c5]) (k := 0) (cs' := [.int .i64 Rows, .int .i64 Cols, .slice B5 Cells.length c5]) hS23 k_sz_26_3 rfl (hf.get 3 1 rfl) rfl rfl rfl rfl rfl (Nat.le_of_ble_eq_true rfl) rfl rfl) ?_ ?_
    · rintro _ w_19 ⟨rfl, hS24⟩
      have hS24 : ST w0 [] _ [⟨some ⟨b, 0, none⟩, 26, [.int .i64 r_4.Rows, .int .i64 r_4.Cols, .slice B3 r_4.Cells.length c3], 3⟩, ⟨some ⟨b1, 0, none⟩, 26, [.int .i64 Rows, .int .i64 Cols, .slice B5 Cells.length c5], 3⟩, ⟨some ⟨b6, 0, none⟩, 26, [.int .i64 r_4.Rows, .int .i64 r_4.Cols, .slice B3 r_4.Cells.length c3], 3⟩, ⟨B3, 44, (r_4.Cells.flatMap enc_Dyadic), c3 * 5⟩, ⟨some ⟨b7, 0, none⟩, 26, [.int .i64 Rows, .int .i64 Cols, .slice B5 Cells.length c5], 3⟩] [⟨B5, (Cells.flatMap enc_Dyadic)⟩, ⟨B, (code.flatMap enc_u8)⟩] := hS24
      refine ⟨(ST.sel hS24 [2, 3, 4] rfl rfl), ?_⟩
      refine ra_done (by kernel_rfl) ?_
      refine cw_ret ?_
      obtain ⟨rfl, rfl⟩ := pr2 (some_inj hF1)
      exact ret2 Try.results14 (v1 := .agg #[.int .i64 r_4.Rows, .int .i64 r_4.Cols, .slice B3 r_4.Cells.length c3]) (resAt_cellA (B := some ⟨b, 0, none⟩) (i := 0) (cs := [.int .i64 r_4.Rows, .int .i64 r_4.Cols, .slice B3 r_4.Cells.length c3]) (vs := [.int .i64 r_4.Rows, .int .i64 r_4.Cols, .slice B3 r_4.Cells.length c3]) (hf.get 2 0 rfl) k_ag_26 k_sz_26_3 (hS24.cf (i := 0) rfl) rfl rfl) (v2 := .agg #[.int .i64 Rows, .int .i64 Cols, .slice B5 Cells.length c5]) (resAt_cellA (B := some ⟨b1, 0, none⟩) (i := 0) (cs := [.int .i64 Rows, .int .i64 Cols, .slice B5 Cells.length c5]) (vs := [.int .i64 Rows, .int .i64 Cols, .slice B5 Cells.length c5]) (hf.get 3 1 rfl) k_ag_26 k_sz_26_3 (hS24.cf (i := 1) rfl) rfl rfl) ⟨B3, c3, B5, c5, rfl, (len_le rfl hq), (org_cons ho org_nil), (ST.subR (R' := [⟨B5, (Cells.flatMap enc_Dyadic)⟩]) (hS24.sel [3] rfl rfl) (subc (mem_at (i := 0) rfl) (fun _ h => by cases h)))⟩
    exact allR_nil
  exact allR_nil
end Go.VK
