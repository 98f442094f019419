/- Walks: each Go function returns what its Lean function says. By program. -/
import Derived.Test.YthfilimbhhijaaaIsUnitaryFa
import Derived.Test.YthfilimbhhijaaaIsUnitaryW3
set_option linter.unusedVariables false
set_option maxRecDepth 100000
set_option maxHeartbeats 1000000
namespace Go.VK
open Go.RowKit
open Go.Proofs
attribute [local irreducible] CW RW RA CV Y Yw Yc Ys RetOf
attribute [local irreducible] F_laws_szDyadicS F_laws_szMatrix F_spec_l1In F_spec_l1All F_spec_l1Good F_spec_l1Even F_spec_l2Good F_spec_l1Has F_spec_l3Dim F_spec_l3Good F_spec_l1Root F_spec_l1Half F_spec_l2Low F_spec_l2C_ring F_spec_l1Mul F_spec_l2C_mul F_spec_l1Add F_spec_l2C_add F_spec_l2C_times F_spec_l1Conj F_spec_l2Conj F_spec_l3Adj F_spec_EqualMatrices F_spec_l1Turn F_spec_l2Power F_spec_l3Unit F_spec_IsUnitary F_laws_toRing F_laws_toDyadic F_laws_toDyadicS F_laws_toMatrix F_slices_IndexFunc_impl_Dyadic_impl_Dyadic F_slices_ContainsFunc_impl_Dyadic_impl_Dyadic F_impl_within F_impl_isDim F_impl_isCoef F_impl_IsValidRing F_impl_isEven F_impl_IsValidDyadic F_impl_IsValidMatrix_1 F_impl_IsValidMatrix F_impl_matrixOf F_impl_ringIf F_impl_Conjugate F_impl_ConjDyadic F_impl_Matrix_at F_impl_Adjoint_1 F_impl_Adjoint F_impl_MulRing F_impl_DivRootTwo F_impl_DyadicOf F_impl_MulDyadic F_impl_MulRootTwo F_impl_raised F_impl_combined F_impl_AddRing F_impl_AddDyadic F_impl_MulMatrix_1 F_impl_MulMatrix F_impl_whole F_impl_IdentityMatrix_1 F_impl_IdentityMatrix F_slices_Equal_impl_Dyadic_impl_Dyadic F_impl_EqualMatrices F_impl_IsUnitary F_laws_eqRing F_laws_eqDyadic F_laws_eqDyadicS F_laws_eqMatrix F_laws_FnExactIsUnitary
theorem c_laws_eqDyadicS (a : List TDyadic) (b : List TDyadic) (B : Option Addr) (c n : Nat) (B1 : Option Addr) (c1 n1 : Nat) (w0 : World) (hn : a.length = n) (hn1 : b.length = n1) (hS : ST w0 [] w0 [] [⟨B, (a.flatMap enc_Dyadic)⟩, ⟨B1, (b.flatMap enc_Dyadic)⟩]) {r_ : Bool} (hF : F_laws_eqDyadicS a b = some r_) :
    CV Try.prog 69 #[.slice B n c, .slice B1 n1 c1] w0 (fun v w' => v = .bool r_ ∧ ST w0 [] w' [] []) := by
  subst hn
  subst hn1
  unfold F_laws_eqDyadicS at hF
  refine cv_of_cw 27 Try.func69 rfl Try.ntmps69 rfl ?_
  refine cw_seq ?_
  refine cw_region ?_
  refine sq 4 rfl rfl (Y_assign (v := .bool false) rfl rfl) ?_
  refine rw_nil ?_
  refine cw_seq ?_
  refine cw_seq ?_
  refine cw_region ?_
  refine sq 6 rfl rfl (Y_move (v := .slice B a.length c) rfl rfl) ?_
  refine sq 7 rfl rfl (Y_len (B := B) (m := a.length) (c := c) k_sl_27_91 rfl rfl) ?_
  refine sq 8 rfl rfl (Y_move (v := .slice B1 b.length c1) rfl rfl) ?_
  refine sq 9 rfl rfl (Y_len (B := B1) (m := b.length) (c := c1) k_sl_27_91 rfl rfl) ?_
  refine sq 10 rfl rfl (Y_ne (k := .i64) (a := (a.length : Int)) (b := (b.length : Int)) rfl rfl rfl) ?_
  refine rw_nil ?_
  refine cw_cond (b := ((a.length : Int) != (b.length : Int))) rfl (fun hb => ?_) (fun hb => ?_)
  · skip
    have hF1 := ct hF hb
    refine cw_seq ?_
    refine cw_region ?_
    refine sq 4 rfl rfl (Y_assign (v := .bool false) rfl rfl) ?_
    refine rw_nil ?_
    refine cw_ret ?_
    obtain rfl := some_inj hF1
    exact ret1 Try.results69 (v1 := .bool false) (resAt_tmp rfl) ⟨rfl, (ST.subR (R' := []) (hS.sel [] rfl rfl) (fun _ h => by cases h))⟩
  · skip
    have hF2 := cf' hF hb
    refine cw_skip ?_
    refine cw_seq ?_
    refine cw_seq ?_
    refine cw_region ?_
    refine sq 5 rfl rfl (Y_assign (v := .int .i64 0) rfl rfl) ?_
    refine rw_nil ?_
    obtain ⟨hN, hF2⟩ := chk_inv hF2
    obtain ⟨z, hz, hF3⟩ := bind_inv hF2
    refine cw_block ?_
    refine cw_loop (fun k f w => ∃ (i1 : Nat), FF f [(0, .slice B a.length c), (1, .slice B1 b.length c1), (5, .int .i64 (i1 : Int))] ∧ ST w0 [] w [] [⟨B, (a.flatMap enc_Dyadic)⟩, ⟨B1, (b.flatMap enc_Dyadic)⟩] ∧ i1 + k = a.length ∧ forX (F_laws_eqDyadicS_l1 a b) k i1 () = some z) a.length ⟨0, (FF.cons rfl (FF.cons rfl (FF.cons rfl FF.nil))), (hS.sel [] rfl rfl), Nat.zero_add _, hz⟩ ?_
    rintro k_ f w ⟨i1, hf, hS1, hik, hL⟩
    refine cw_seq ?_
    refine cw_seq ?_
    refine cw_region ?_
    refine sq 11 rfl rfl (Y_move (v := .int .i64 (i1 : Int)) rfl (hf.get 5 2 rfl)) ?_
    refine sq 12 rfl rfl (Y_move (v := .slice B a.length c) rfl (hf.get 0 0 rfl)) ?_
    refine sq 13 rfl rfl (Y_len (B := B) (m := a.length) (c := c) k_sl_27_91 rfl rfl) ?_
    refine sq 14 rfl rfl (Y_lt (k := .i64) (a := (i1 : Int)) (b := (a.length : Int)) rfl rfl rfl) ?_
    refine rw_nil ?_
    refine cw_cond (b := (decide ((i1 : Int) < (a.length : Int)))) rfl (fun hlt => ?_) (fun hlt => ?_)
    · skip
      have hlt1 : i1 < a.length := by have h := of_decide_eq_true hlt; omega
      obtain ⟨k_1, rfl⟩ : ∃ k2, k_ = k2 + 1 := ⟨k_ - 1, by omega⟩
      obtain ⟨y, hb1, hL1⟩ := forX_go hL
      unfold F_laws_eqDyadicS_l1 at hb1
      refine cw_skip ?_
      refine cw_seq ?_
      refine cw_block ?_
      refine cw_seq ?_
      obtain ⟨x, hx, hb1⟩ := bind_inv hb1
      obtain ⟨x1, hx1, hb1⟩ := bind_inv hb1
      obtain ⟨r_1, hc, hb1⟩ := bind_inv hb1
      refine ra_start (ST.sel hS1 [] rfl rfl).fn (by kernel_rfl) ?_
      have hS3 := hS1.drew
      refine ra_q 0 17 (v := .slice B a.length c) rfl rfl rfl (by kernel_rfl) (by kernel_rfl) (by kernel_rfl) (ST.sel hS3 [] rfl rfl) (fun w' hw' => (Y_move (v := .slice B a.length c) rfl (hf.get 0 0 rfl))) ?_
      refine ra_q 1 18 (v := .int .i64 (i1 : Int)) rfl rfl rfl (by kernel_rfl) (by kernel_rfl) (by kernel_rfl) (ST.sel hS3 [] rfl rfl) (fun w' hw' => (Y_move (v := .int .i64 (i1 : Int)) rfl (hf.get 5 2 rfl))) ?_
      refine ra_q 2 19 (v := pt B ((i1 : Int).toNat * 5)) rfl rfl rfl (by kernel_rfl) (by kernel_rfl) (by kernel_rfl) (ST.sel hS3 [] rfl rfl) (fun w' hw' => (Y_index (B := B) (m := a.length) (c := c) (k := .i64) (i := (i1 : Int)) k_sl_27_91 k_sz_91_5 rfl rfl rfl (gi_isSome enc_Dyadic_len rfl (ST.rf hw' (i := 0) rfl) hx) (getI_nn hx) (getI_ltI hx rfl))) ?_
      refine ra_q 3 20 (v := .agg #[.int .i64 x.Num.A, .int .i64 x.Num.B, .int .i64 x.Num.C, .int .i64 x.Num.D, .int .i64 x.Exp]) rfl rfl rfl (by kernel_rfl) (by kernel_rfl) (by kernel_rfl) (ST.sel hS3 [] rfl rfl) (fun w' hw' => (Y_loadA (B := B) (i := (i1 : Int).toNat * 5) (cs := (a.flatMap enc_Dyadic)) (vs := [.int .i64 x.Num.A, .int .i64 x.Num.B, .int .i64 x.Num.C, .int .i64 x.Num.D, .int .i64 x.Exp]) k_ag_91 k_sz_91_5 rfl rfl (ST.rf hw' (i := 0) rfl) (enc_Dyadic_len x) (gi_seg enc_Dyadic_len hx))) ?_
      refine ra_q 4 21 (v := .slice B1 b.length c1) rfl rfl rfl (by kernel_rfl) (by kernel_rfl) (by kernel_rfl) (ST.sel hS3 [] rfl rfl) (fun w' hw' => (Y_move (v := .slice B1 b.length c1) rfl (hf.get 1 1 rfl))) ?_
      refine ra_q 5 22 (v := .int .i64 (i1 : Int)) rfl rfl rfl (by kernel_rfl) (by kernel_rfl) (by kernel_rfl) (ST.sel hS3 [] rfl rfl) (fun w' hw' => (Y_move (v := .int .i64 (i1 : Int)) rfl (hf.get 5 2 rfl))) ?_
      refine ra_q 6 23 (v := pt B1 ((i1 : Int).toNat * 5)) rfl rfl rfl (by kernel_rfl) (by kernel_rfl) (by kernel_rfl) (ST.sel hS3 [] rfl rfl) (fun w' hw' => (Y_index (B := B1) (m := b.length) (c := c1) (k := .i64) (i := (i1 : Int)) k_sl_27_91 k_sz_91_5 rfl rfl rfl (gi_isSome enc_Dyadic_len rfl (ST.rf hw' (i := 1) rfl) hx1) (getI_nn hx1) (getI_ltI hx1 rfl))) ?_
      refine ra_q 7 24 (v := .agg #[.int .i64 x1.Num.A, .int .i64 x1.Num.B, .int .i64 x1.Num.C, .int .i64 x1.Num.D, .int .i64 x1.Exp]) rfl rfl rfl (by kernel_rfl) (by kernel_rfl) (by kernel_rfl) (ST.sel hS3 [] rfl rfl) (fun w' hw' => (Y_loadA (B := B1) (i := (i1 : Int).toNat * 5) (cs := (b.flatMap enc_Dyadic)) (vs := [.int .i64 x1.Num.A, .int .i64 x1.Num.B, .int .i64 x1.Num.C, .int .i64 x1.Num.D, .int .i64 x1.Exp]) k_ag_91 k_sz_91_5 rfl rfl (ST.rf hw' (i := 1) rfl) (enc_Dyadic_len x1) (gi_seg enc_Dyadic_len hx1))) ?_
      refine ra_all (rs := [8]) (by kernel_rfl) rfl ?_
      refine ra_c 25 (i := 8) rfl rfl rfl (Yc_func (g := 138) (vs := [.agg #[.int .i64 x.Num.A, .int .i64 x.Num.B, .int .i64 x.Num.C, .int .i64 x.Num.D, .int .i64 x.Exp], .agg #[.int .i64 x1.Num.A, .int .i64 x1.Num.B, .int .i64 x1.Num.C, .int .i64 x1.Num.D, .int .i64 x1.Exp]]) k_call_138 rfl (mc rfl (mc rfl mn)) (c_laws_eqDyadic x x1 _  (hS3.inn0 [] rfl) hc)) ?_ ?_
      · rintro _ w_ ⟨rfl, hd⟩
        have hS4 := hS3.out00 hd
        refine ⟨(ST.sel hS4 [] rfl rfl), ?_⟩
        refine ra_q 9 26 (v := .bool (!r_1)) rfl rfl rfl (by kernel_rfl) (by kernel_rfl) (by kernel_rfl) (ST.sel hS4 [] rfl rfl) (fun w' hw' => (Y_not (p := r_1) rfl rfl)) ?_
        refine ra_done (by kernel_rfl) ?_
        refine cw_cond (b := (!r_1)) rfl (fun hb2 => ?_) (fun hb2 => ?_)
        · skip
          have hF4 := ct hb1 hb2
          refine cw_seq ?_
          refine cw_region ?_
          refine sq 4 rfl rfl (Y_assign (v := .bool false) rfl rfl) ?_
          refine rw_nil ?_
          refine cw_ret ?_
          obtain rfl := some_inj hF4
          obtain rfl := some_inj hL1
          obtain rfl := some_inj hF3
          exact ret1 Try.results69 (v1 := .bool false) (resAt_tmp rfl) ⟨rfl, (ST.subR (R' := []) (hS4.sel [] rfl rfl) (fun _ h => by cases h))⟩
        · skip
          have hF5 := cf' hb1 hb2
          refine cw_skip ?_
          refine cw_region ?_
          refine sq 15 rfl rfl (Y_move (v := .int .i64 (i1 : Int)) rfl (hf.get 5 2 rfl)) ?_
          refine sq 16 rfl rfl (Y_add (k := .i64) (a := (i1 : Int)) (b := 1) rfl rfl rfl) ?_
          refine sq 5 rfl rfl (Y_assign (v := .int .i64 (IntKind.i64.wrap ((i1 : Int) + 1))) rfl rfl) ?_
          refine rw_nil ?_
          obtain rfl := some_inj hF5
          exact ⟨k_1, Nat.lt_succ_self _, i1 + 1, (FF.cons (hf.get 0 0 rfl) (FF.cons (hf.get 1 1 rfl) (FF.cons (congrArg (Value.int .i64) (wr_succ hlt1 hN)) FF.nil))), (hS4.sel [] rfl rfl), (by omega), hL1⟩
      exact allR_nil
    · skip
      obtain rfl : k_ = 0 := by have h := of_decide_eq_false hlt; omega
      refine cw_exit rfl ?_
      obtain rfl := some_inj hL
      refine cw_seq ?_
      refine cw_region ?_
      refine sq 4 rfl rfl (Y_assign (v := .bool true) rfl rfl) ?_
      refine rw_nil ?_
      refine cw_ret ?_
      obtain rfl := some_inj hF3
      exact ret1 Try.results69 (v1 := .bool true) (resAt_tmp rfl) ⟨rfl, (ST.subR (R' := []) (hS1.sel [] rfl rfl) (fun _ h => by cases h))⟩

theorem c_laws_eqMatrix (a : TMatrix) (b : TMatrix) (B : Option Addr) (c n : Nat) (B1 : Option Addr) (c1 n1 : Nat) (w0 : World) (hn : a.Cells.length = n) (hn1 : b.Cells.length = n1) (hS : ST w0 [] w0 [] [⟨B, (a.Cells.flatMap enc_Dyadic)⟩, ⟨B1, (b.Cells.flatMap enc_Dyadic)⟩]) {r_ : Bool} (hF : F_laws_eqMatrix a b = some r_) :
    CV Try.prog 38 #[.agg #[.int .i64 a.Rows, .int .i64 a.Cols, .slice B n c], .agg #[.int .i64 b.Rows, .int .i64 b.Cols, .slice B1 n1 c1]] w0 (fun v w' => v = .bool r_ ∧ ST w0 [] w' [] []) := by
  subst hn
  subst hn1
  unfold F_laws_eqMatrix at hF
  refine cv_of_cw 21 Try.func38 rfl Try.ntmps38 rfl ?_
  refine cw_seq ?_
  refine cw_region ?_
  refine ss 2 rfl rfl (Ys_box (T := 62) (v := .agg #[.int .i64 a.Rows, .int .i64 a.Cols, .slice B a.Cells.length c]) (cs := [.int .i64 a.Rows, .int .i64 a.Cols, .slice B a.Cells.length c]) (m := 3) hS rfl rfl rfl rfl) ?_
  rintro _ w_ ⟨b1, rfl, hS1⟩
  refine ss 3 rfl rfl (Ys_box (T := 62) (v := .agg #[.int .i64 b.Rows, .int .i64 b.Cols, .slice B1 b.Cells.length c1]) (cs := [.int .i64 b.Rows, .int .i64 b.Cols, .slice B1 b.Cells.length c1]) (m := 3) hS1 rfl rfl rfl rfl) ?_
  rintro _ w_1 ⟨b2, rfl, hS2⟩
  have hS2 : ST w0 [] _ [⟨some ⟨b1, 0, none⟩, 62, [.int .i64 a.Rows, .int .i64 a.Cols, .slice B a.Cells.length c], 3⟩, ⟨some ⟨b2, 0, none⟩, 62, [.int .i64 b.Rows, .int .i64 b.Cols, .slice B1 b.Cells.length c1], 3⟩] [⟨B, (a.Cells.flatMap enc_Dyadic)⟩, ⟨B1, (b.Cells.flatMap enc_Dyadic)⟩] := hS2
  refine sq 4 rfl rfl (Y_assign (v := .bool false) rfl rfl) ?_
  refine rw_nil ?_
  refine cw_seq ?_
  refine cw_seq ?_
  refine cw_region ?_
  refine sq 5 rfl rfl (Y_fieldAddr (B := some ⟨b1, 0, none⟩) (i := 0) (s := 0) k_fd_62_0_0_3 k_sz_3_1 rfl rfl) ?_
  refine sq 6 rfl rfl (Y_load1 (B := some ⟨b1, 0, none⟩) (i := 0) (cs := [.int .i64 a.Rows, .int .i64 a.Cols, .slice B a.Cells.length c]) (v := .int .i64 a.Rows) k_sc_3 rfl rfl (hS2.cf (i := 0) rfl) rfl) ?_
  refine sq 7 rfl rfl (Y_fieldAddr (B := some ⟨b2, 0, none⟩) (i := 0) (s := 0) k_fd_62_0_0_3 k_sz_3_1 rfl rfl) ?_
  refine sq 8 rfl rfl (Y_load1 (B := some ⟨b2, 0, none⟩) (i := 0) (cs := [.int .i64 b.Rows, .int .i64 b.Cols, .slice B1 b.Cells.length c1]) (v := .int .i64 b.Rows) k_sc_3 rfl rfl (hS2.cf (i := 1) rfl) rfl) ?_
  refine sq 9 rfl rfl (Y_ne (k := .i64) (a := a.Rows) (b := b.Rows) rfl rfl rfl) ?_
  refine rw_nil ?_
  refine cw_cond (b := (a.Rows != b.Rows)) rfl (fun hb => ?_) (fun hb => ?_)
  · skip
    have hF1 := ct hF hb
    refine cw_seq ?_
    refine cw_region ?_
    refine sq 4 rfl rfl (Y_assign (v := .bool false) rfl rfl) ?_
    refine rw_nil ?_
    refine cw_ret ?_
    obtain rfl := some_inj hF1
    exact ret1 Try.results38 (v1 := .bool false) (resAt_tmp rfl) ⟨rfl, (ST.subR (R' := []) (hS2.sel [] rfl rfl) (fun _ h => by cases h))⟩
  · skip
    have hF2 := cf' hF hb
    refine cw_skip ?_
    refine cw_seq ?_
    refine cw_seq ?_
    refine cw_region ?_
    refine sq 10 rfl rfl (Y_fieldAddr (B := some ⟨b1, 0, none⟩) (i := 0) (s := 0) k_fd_62_1_1_3 k_sz_3_1 rfl rfl) ?_
    refine sq 11 rfl rfl (Y_load1 (B := some ⟨b1, 0, none⟩) (i := 1) (cs := [.int .i64 a.Rows, .int .i64 a.Cols, .slice B a.Cells.length c]) (v := .int .i64 a.Cols) k_sc_3 rfl rfl (hS2.cf (i := 0) rfl) rfl) ?_
    refine sq 12 rfl rfl (Y_fieldAddr (B := some ⟨b2, 0, none⟩) (i := 0) (s := 0) k_fd_62_1_1_3 k_sz_3_1 rfl rfl) ?_
    refine sq 13 rfl rfl (Y_load1 (B := some ⟨b2, 0, none⟩) (i := 1) (cs := [.int .i64 b.Rows, .int .i64 b.Cols, .slice B1 b.Cells.length c1]) (v := .int .i64 b.Cols) k_sc_3 rfl rfl (hS2.cf (i := 1) rfl) rfl) ?_
    refine sq 14 rfl rfl (Y_ne (k := .i64) (a := a.Cols) (b := b.Cols) rfl rfl rfl) ?_
    refine rw_nil ?_
    refine cw_cond (b := (a.Cols != b.Cols)) rfl (fun hb1 => ?_) (fun hb1 => ?_)
    · skip
      have hF3 := ct hF2 hb1
      refine cw_seq ?_
      refine cw_region ?_
      refine sq 4 rfl rfl (Y_assign (v := .bool false) rfl rfl) ?_
      refine rw_nil ?_
      refine cw_ret ?_
      obtain rfl := some_inj hF3
      exact ret1 Try.results38 (v1 := .bool false) (resAt_tmp rfl) ⟨rfl, (ST.subR (R' := []) (hS2.sel [] rfl rfl) (fun _ h => by cases h))⟩
    · skip
      have hF4 := cf' hF2 hb1
      refine cw_skip ?_
      refine cw_seq ?_
      refine cw_seq ?_
      refine cw_region ?_
      refine sq 15 rfl rfl (Y_fieldAddr (B := some ⟨b1, 0, none⟩) (i := 0) (s := 0) k_fd_62_2_2_27 k_sz_27_1 rfl rfl) ?_
      refine sq 16 rfl rfl (Y_load1 (B := some ⟨b1, 0, none⟩) (i := 2) (cs := [.int .i64 a.Rows, .int .i64 a.Cols, .slice B a.Cells.length c]) (v := .slice B a.Cells.length c) k_sc_27 rfl rfl (hS2.cf (i := 0) rfl) rfl) ?_
      refine sq 17 rfl rfl (Y_fieldAddr (B := some ⟨b2, 0, none⟩) (i := 0) (s := 0) k_fd_62_2_2_27 k_sz_27_1 rfl rfl) ?_
      refine sq 18 rfl rfl (Y_load1 (B := some ⟨b2, 0, none⟩) (i := 2) (cs := [.int .i64 b.Rows, .int .i64 b.Cols, .slice B1 b.Cells.length c1]) (v := .slice B1 b.Cells.length c1) k_sc_27 rfl rfl (hS2.cf (i := 1) rfl) rfl) ?_
      obtain ⟨r_1, hc, hF4⟩ := bind_inv hF4
      refine sc 19 rfl rfl (Yc_func (g := 69) (vs := [.slice B a.Cells.length c, .slice B1 b.Cells.length c1]) k_call_69 rfl (mc rfl (mc rfl mn)) (c_laws_eqDyadicS a.Cells b.Cells B c a.Cells.length B1 c1 b.Cells.length _ rfl rfl (hS2.inn0 [(true, 0), (true, 1)] rfl) hc)) ?_
      rintro _ w_2 ⟨rfl, hd⟩
      have hS3 := hS2.out00 hd
      have hS3 : ST w0 [] _ [⟨some ⟨b1, 0, none⟩, 62, [.int .i64 a.Rows, .int .i64 a.Cols, .slice B a.Cells.length c], 3⟩, ⟨some ⟨b2, 0, none⟩, 62, [.int .i64 b.Rows, .int .i64 b.Cols, .slice B1 b.Cells.length c1], 3⟩] [⟨B, (a.Cells.flatMap enc_Dyadic)⟩, ⟨B1, (b.Cells.flatMap enc_Dyadic)⟩] := hS3
      refine sq 20 rfl rfl (Y_not (p := r_1) rfl rfl) ?_
      refine rw_nil ?_
      refine cw_cond (b := (!r_1)) rfl (fun hb2 => ?_) (fun hb2 => ?_)
      · skip
        have hF5 := ct hF4 hb2
        refine cw_seq ?_
        refine cw_region ?_
        refine sq 4 rfl rfl (Y_assign (v := .bool false) rfl rfl) ?_
        refine rw_nil ?_
        refine cw_ret ?_
        obtain rfl := some_inj hF5
        exact ret1 Try.results38 (v1 := .bool false) (resAt_tmp rfl) ⟨rfl, (ST.subR (R' := []) (hS3.sel [] rfl rfl) (fun _ h => by cases h))⟩
      · skip
        have hF6 := cf' hF4 hb2
        refine cw_skip ?_
        refine cw_seq ?_
        refine cw_region ?_
        refine sq 4 rfl rfl (Y_assign (v := .bool true) rfl rfl) ?_
        refine rw_nil ?_
        refine cw_ret ?_
        obtain rfl := some_inj hF6
        exact ret1 Try.results38 (v1 := .bool true) (resAt_tmp rfl) ⟨rfl, (ST.subR (R' := []) (hS3.sel [] rfl rfl) (fun _ h => by cases h))⟩

theorem c_laws_FnExactIsUnitary (aM : TMatrix) (B : Option Addr) (c n : Nat) (w0 : World) (hn : aM.Cells.length = n) (hS : ST w0 [] w0 [] [⟨B, (aM.Cells.flatMap enc_Dyadic)⟩]) {r_ : Bool} (hF : F_laws_FnExactIsUnitary aM = some r_) :
    CV Try.prog 7 #[.agg #[.int .i64 aM.Rows, .int .i64 aM.Cols, .slice B n c]] w0 (fun v w' => v = .bool r_ ∧ ST w0 [] w' [] []) := by
  subst hn
  unfold F_laws_FnExactIsUnitary at hF
  refine cv_of_cw 40 Try.func7 rfl Try.ntmps7 rfl ?_
  refine cw_seq ?_
  refine cw_region ?_
  refine ss 1 rfl rfl (Ys_box (T := 58) (v := .agg #[.int .i64 aM.Rows, .int .i64 aM.Cols, .slice B aM.Cells.length c]) (cs := [.int .i64 aM.Rows, .int .i64 aM.Cols, .slice B aM.Cells.length c]) (m := 3) hS rfl rfl rfl rfl) ?_
  rintro _ w_ ⟨b, rfl, hS1⟩
  refine sq 2 rfl rfl (Y_assign (v := .bool false) rfl rfl) ?_
  refine rw_nil ?_
  refine cw_seq ?_
  refine cw_region ?_
  refine sq 3 rfl rfl (Y_assign (v := .int .i64 1048576) rfl rfl) ?_
  refine rw_nil ?_
  refine cw_seq ?_
  refine cw_region ?_
  refine sq 9 rfl rfl (Y_loadA (B := some ⟨b, 0, none⟩) (i := 0) (cs := [.int .i64 aM.Rows, .int .i64 aM.Cols, .slice B aM.Cells.length c]) (vs := [.int .i64 aM.Rows, .int .i64 aM.Cols, .slice B aM.Cells.length c]) k_ag_58 k_sz_58_3 rfl rfl (hS1.cf (i := 0) rfl) rfl rfl) ?_
  refine sq 10 rfl rfl (Y_move (v := .int .i64 1048576) rfl rfl) ?_
  obtain ⟨r_1, hc, hF⟩ := bind_inv hF
  refine sc 11 rfl rfl (Yc_func (g := 34) (vs := [.agg #[.int .i64 aM.Rows, .int .i64 aM.Cols, .slice B aM.Cells.length c], .int .i64 1048576]) k_call_34 rfl (mc rfl (mc rfl mn)) (c_laws_szMatrix aM 1048576 B c aM.Cells.length _ rfl (hS1.inn0 [(true, 0)] rfl) hc)) ?_
  rintro _ w_1 ⟨rfl, hd⟩
  have hS2 := hS1.out00 hd
  refine sq 3 rfl rfl (Y_assign (v := .int .i64 r_1) rfl rfl) ?_
  refine rw_nil ?_
  refine cw_seq ?_
  refine cw_seq ?_
  refine cw_region ?_
  refine sq 12 rfl rfl (Y_move (v := .int .i64 r_1) rfl rfl) ?_
  refine sq 13 rfl rfl (Y_lt (k := .i64) (a := r_1) (b := 0) rfl rfl rfl) ?_
  refine rw_nil ?_
  refine cw_cond (b := (decide (r_1 < 0))) rfl (fun hb => ?_) (fun hb => ?_)
  · skip
    have hF1 := ct hF hb
    refine cw_seq ?_
    refine cw_region ?_
    refine sq 2 rfl rfl (Y_assign (v := .bool true) rfl rfl) ?_
    refine rw_nil ?_
    refine cw_ret ?_
    obtain rfl := some_inj hF1
    exact ret1 Try.results7 (v1 := .bool true) (resAt_tmp rfl) ⟨rfl, (ST.subR (R' := []) (hS2.sel [] rfl rfl) (fun _ h => by cases h))⟩
  · skip
    have hF2 := cf' hF hb
    refine cw_skip ?_
    refine cw_seq ?_
    refine cw_region ?_
    refine sq 15 rfl rfl (Y_loadA (B := some ⟨b, 0, none⟩) (i := 0) (cs := [.int .i64 aM.Rows, .int .i64 aM.Cols, .slice B aM.Cells.length c]) (vs := [.int .i64 aM.Rows, .int .i64 aM.Cols, .slice B aM.Cells.length c]) k_ag_58 k_sz_58_3 rfl rfl (hS2.cf (i := 0) rfl) rfl rfl) ?_
    obtain ⟨r_2, hc1, hF2⟩ := bind_inv hF2
    refine sc 16 rfl rfl (Yc_func (g := 36) (vs := [.agg #[.int .i64 aM.Rows, .int .i64 aM.Cols, .slice B aM.Cells.length c]]) k_call_36 rfl (mc rfl mn) (c_laws_toMatrix aM B c aM.Cells.length _ rfl (hS2.inn0 [(true, 0)] rfl) hc1)) ?_
    rintro _ w_2 ⟨B1, c1, rfl, hd1⟩
    have hS3 := hS2.out0 hd1
    have hS3 : ST w0 [] _ [⟨some ⟨b, 0, none⟩, 58, [.int .i64 aM.Rows, .int .i64 aM.Cols, .slice B aM.Cells.length c], 3⟩, ⟨B1, 91, (r_2.Cells.flatMap enc_Dyadic), c1 * 5⟩] [⟨B, (aM.Cells.flatMap enc_Dyadic)⟩] := hS3
    obtain ⟨⟨r_3, r_4⟩, hc2, hF2⟩ := bind_inv hF2
    refine sc 17 rfl rfl (Yc_func (g := 35) (vs := [.agg #[.int .i64 r_2.Rows, .int .i64 r_2.Cols, .slice B1 r_2.Cells.length c1]]) k_call_35 rfl (mc rfl mn) (c_spec_IsUnitary r_2 B1 c1 r_2.Cells.length _ rfl (hS3.inn0 [(false, 1)] rfl) hc2)) ?_
    rintro _ w_3 ⟨rfl, hd2⟩
    have hS4 := hS3.out00 hd2
    have hS4 : ST w0 [] _ [⟨some ⟨b, 0, none⟩, 58, [.int .i64 aM.Rows, .int .i64 aM.Cols, .slice B aM.Cells.length c], 3⟩, ⟨B1, 91, (r_2.Cells.flatMap enc_Dyadic), c1 * 5⟩] [⟨B, (aM.Cells.flatMap enc_Dyadic)⟩] := hS4
    refine sq 14 rfl rfl (Y_move (v := .tuple #[.bool r_3, .bool r_4]) rfl rfl) ?_
    refine sq 18 rfl rfl (Y_extract (v := .bool r_3) rfl rfl rfl) ?_
    refine sq 19 rfl rfl (Y_extract (v := .bool r_4) rfl rfl rfl) ?_
    refine sq 4 rfl rfl (Y_assign (v := .bool r_3) rfl rfl) ?_
    refine sq 5 rfl rfl (Y_assign (v := .bool r_4) rfl rfl) ?_
    refine rw_nil ?_
    refine cw_seq ?_
    refine cw_region ?_
    refine sq 20 rfl rfl (Y_loadA (B := some ⟨b, 0, none⟩) (i := 0) (cs := [.int .i64 aM.Rows, .int .i64 aM.Cols, .slice B aM.Cells.length c]) (vs := [.int .i64 aM.Rows, .int .i64 aM.Cols, .slice B aM.Cells.length c]) k_ag_58 k_sz_58_3 rfl rfl (hS4.cf (i := 0) rfl) rfl rfl) ?_
    obtain ⟨r_5, hc3, hF2⟩ := bind_inv hF2
    refine sc 21 rfl rfl (Yc_func (g := 36) (vs := [.agg #[.int .i64 aM.Rows, .int .i64 aM.Cols, .slice B aM.Cells.length c]]) k_call_36 rfl (mc rfl mn) (c_laws_toMatrix aM B c aM.Cells.length _ rfl (hS4.inn0 [(true, 0)] rfl) hc3)) ?_
    rintro _ w_4 ⟨B2, c2, rfl, hd3⟩
    have hS5 := hS4.out0 hd3
    have hS5 : ST w0 [] _ [⟨some ⟨b, 0, none⟩, 58, [.int .i64 aM.Rows, .int .i64 aM.Cols, .slice B aM.Cells.length c], 3⟩, ⟨B1, 91, (r_2.Cells.flatMap enc_Dyadic), c1 * 5⟩, ⟨B2, 91, (r_5.Cells.flatMap enc_Dyadic), c2 * 5⟩] [⟨B, (aM.Cells.flatMap enc_Dyadic)⟩] := hS5
    refine ss 6 rfl rfl (Ys_alloc (T := 62) (cs := [.int .i64 0, .int .i64 0, .slice none 0 0]) (m := 3) hS5 k_zero_62 rfl rfl rfl) ?_
    rintro _ w_5 ⟨b1, rfl, hS6⟩
    have hS6 : ST w0 [] _ [⟨some ⟨b, 0, none⟩, 58, [.int .i64 aM.Rows, .int .i64 aM.Cols, .slice B aM.Cells.length c], 3⟩, ⟨B1, 91, (r_2.Cells.flatMap enc_Dyadic), c1 * 5⟩, ⟨B2, 91, (r_5.Cells.flatMap enc_Dyadic), c2 * 5⟩, ⟨some ⟨b1, 0, none⟩, 62, [.int .i64 0, .int .i64 0, .slice none 0 0], 3⟩] [⟨B, (aM.Cells.flatMap enc_Dyadic)⟩] := hS6
    refine ss0 rfl rfl (Ys_store (i := 3) (s := 3) (B := some ⟨b1, 0, none⟩) (T' := 62) (v := .agg #[.int .i64 r_5.Rows, .int .i64 r_5.Cols, .slice B2 r_5.Cells.length c2]) (vs := [.int .i64 r_5.Rows, .int .i64 r_5.Cols, .slice B2 r_5.Cells.length c2]) (k := 0) (cs' := [.int .i64 r_5.Rows, .int .i64 r_5.Cols, .slice B2 r_5.Cells.length c2]) hS6 k_sz_62_3 rfl rfl rfl rfl rfl rfl rfl (Nat.le_of_ble_eq_true rfl) rfl rfl) ?_
    rintro _ w_6 ⟨rfl, hS7⟩
    have hS7 : ST w0 [] _ [⟨some ⟨b, 0, none⟩, 58, [.int .i64 aM.Rows, .int .i64 aM.Cols, .slice B aM.Cells.length c], 3⟩, ⟨B1, 91, (r_2.Cells.flatMap enc_Dyadic), c1 * 5⟩, ⟨B2, 91, (r_5.Cells.flatMap enc_Dyadic), c2 * 5⟩, ⟨some ⟨b1, 0, none⟩, 62, [.int .i64 r_5.Rows, .int .i64 r_5.Cols, .slice B2 r_5.Cells.length c2], 3⟩] [⟨B, (aM.Cells.flatMap enc_Dyadic)⟩] := hS7
    refine rw_nil ?_
    refine cw_seq ?_
    refine cw_region ?_
    refine sq 23 rfl rfl (Y_loadA (B := some ⟨b1, 0, none⟩) (i := 0) (cs := [.int .i64 r_5.Rows, .int .i64 r_5.Cols, .slice B2 r_5.Cells.length c2]) (vs := [.int .i64 r_5.Rows, .int .i64 r_5.Cols, .slice B2 r_5.Cells.length c2]) k_ag_62 k_sz_62_3 rfl rfl (hS7.cf (i := 3) rfl) rfl rfl) ?_
    obtain ⟨⟨r_6, r_7⟩, hc4, hF2⟩ := bind_inv hF2
    refine sc 24 rfl rfl (Yc_func (g := 37) (vs := [.agg #[.int .i64 r_5.Rows, .int .i64 r_5.Cols, .slice B2 r_5.Cells.length c2]]) k_call_37 rfl (mc rfl mn) (c_impl_IsUnitary r_5 B2 c2 r_5.Cells.length _ rfl (hS7.inn0 [(false, 2)] rfl) hc4)) ?_
    rintro _ w_7 ⟨rfl, hd4⟩
    have hS8 := hS7.out00 hd4
    have hS8 : ST w0 [] _ [⟨some ⟨b, 0, none⟩, 58, [.int .i64 aM.Rows, .int .i64 aM.Cols, .slice B aM.Cells.length c], 3⟩, ⟨B1, 91, (r_2.Cells.flatMap enc_Dyadic), c1 * 5⟩, ⟨B2, 91, (r_5.Cells.flatMap enc_Dyadic), c2 * 5⟩, ⟨some ⟨b1, 0, none⟩, 62, [.int .i64 r_5.Rows, .int .i64 r_5.Cols, .slice B2 r_5.Cells.length c2], 3⟩] [⟨B, (aM.Cells.flatMap enc_Dyadic)⟩] := hS8
    refine sq 22 rfl rfl (Y_move (v := .tuple #[.bool r_6, .bool r_7]) rfl rfl) ?_
    refine sq 25 rfl rfl (Y_extract (v := .bool r_6) rfl rfl rfl) ?_
    refine sq 26 rfl rfl (Y_extract (v := .bool r_7) rfl rfl rfl) ?_
    refine sq 7 rfl rfl (Y_assign (v := .bool r_6) rfl rfl) ?_
    refine sq 8 rfl rfl (Y_assign (v := .bool r_7) rfl rfl) ?_
    refine rw_nil ?_
    refine cw_seq ?_
    refine cw_seq ?_
    refine cw_region ?_
    refine sq 27 rfl rfl (Y_move (v := .bool r_6) rfl rfl) ?_
    refine sq 28 rfl rfl (Y_move (v := .bool r_3) rfl rfl) ?_
    refine sq 29 rfl rfl (Y_bne (p := r_6) (q := r_3) k_und_4 rfl rfl rfl) ?_
    refine sq 30 rfl rfl (Y_move (v := .bool (!(r_6 == r_3))) rfl rfl) ?_
    refine sgq 31 (B := (!(!(r_6 == r_3)))) (v := .bool r_7) rfl rfl (wt_f (gd_of (t := 30) (by kernel_rfl) rfl)) (fun hg => (Y_move (v := .bool r_7) rfl rfl)) ?_
    refine sgq 32 (B := (!(!(r_6 == r_3)))) (v := .bool r_4) rfl rfl (wt_f (gd_of (t := 30) (by kernel_rfl) rfl)) (fun hg1 => (Y_move (v := .bool r_4) rfl rfl)) ?_
    refine sgq 33 (B := (!(!(r_6 == r_3)))) (v := .bool (!(r_7 == r_4))) rfl rfl (wt_f (gd_of (t := 30) (by kernel_rfl) rfl)) (fun hg2 => (Y_bne (p := r_7) (q := r_4) k_und_4 rfl (gv_of (B := (!(!(r_6 == r_3)))) (v := .bool r_7) hg2) (gv_of (B := (!(!(r_6 == r_3)))) (v := .bool r_4) hg2))) ?_
    refine sq 34 rfl rfl (Y_or (b := (!(r_6 == r_3))) (z := (!(r_7 == r_4))) rfl rfl rfl rfl) ?_
    refine rw_nil ?_
    refine cw_cond (b := ((!(r_6 == r_3)) || (!(r_7 == r_4)))) rfl (fun hb1 => ?_) (fun hb1 => ?_)
    · skip
      have hF3 := ct hF2 hb1
      refine cw_seq ?_
      refine cw_region ?_
      refine sq 2 rfl rfl (Y_assign (v := .bool false) rfl rfl) ?_
      refine rw_nil ?_
      refine cw_ret ?_
      obtain rfl := some_inj hF3
      exact ret1 Try.results7 (v1 := .bool false) (resAt_tmp rfl) ⟨rfl, (ST.subR (R' := []) (hS8.sel [] rfl rfl) (fun _ h => by cases h))⟩
    · skip
      have hF4 := cf' hF2 hb1
      refine cw_skip ?_
      refine cw_seq ?_
      refine cw_seq ?_
      obtain ⟨r_8, hc5, hF4⟩ := bind_inv hF4
      obtain ⟨r_9, hc6, hF4⟩ := bind_inv hF4
      refine ra_start (ST.sel hS8 [0, 1, 2, 3] rfl rfl).fn (by kernel_rfl) ?_
      have hS11 := hS8.drew
      refine ra_q 0 35 (v := .agg #[.int .i64 r_5.Rows, .int .i64 r_5.Cols, .slice B2 r_5.Cells.length c2]) rfl rfl rfl (by kernel_rfl) (by kernel_rfl) (by kernel_rfl) (ST.sel hS11 [0, 1, 2, 3] rfl rfl) (fun w' hw' => (Y_loadA (B := some ⟨b1, 0, none⟩) (i := 0) (cs := [.int .i64 r_5.Rows, .int .i64 r_5.Cols, .slice B2 r_5.Cells.length c2]) (vs := [.int .i64 r_5.Rows, .int .i64 r_5.Cols, .slice B2 r_5.Cells.length c2]) k_ag_62 k_sz_62_3 rfl rfl (ST.cf hw' (i := 3) rfl) rfl rfl)) ?_
      refine ra_q 1 36 (v := .agg #[.int .i64 aM.Rows, .int .i64 aM.Cols, .slice B aM.Cells.length c]) rfl rfl rfl (by kernel_rfl) (by kernel_rfl) (by kernel_rfl) (ST.sel hS11 [0, 1, 2, 3] rfl rfl) (fun w' hw' => (Y_loadA (B := some ⟨b, 0, none⟩) (i := 0) (cs := [.int .i64 aM.Rows, .int .i64 aM.Cols, .slice B aM.Cells.length c]) (vs := [.int .i64 aM.Rows, .int .i64 aM.Cols, .slice B aM.Cells.length c]) k_ag_58 k_sz_58_3 rfl rfl (ST.cf hw' (i := 0) rfl) rfl rfl)) ?_
      refine ra_all (rs := [2]) (by kernel_rfl) rfl ?_
      refine ra_c 37 (i := 2) rfl rfl rfl (Yc_func (g := 36) (vs := [.agg #[.int .i64 aM.Rows, .int .i64 aM.Cols, .slice B aM.Cells.length c]]) k_call_36 rfl (mc rfl mn) (c_laws_toMatrix aM B c aM.Cells.length _ rfl (hS11.inn0 [(true, 0)] rfl) hc5)) ?_ ?_
      · rintro _ w_8 ⟨B3, c3, rfl, hd5⟩
        have hS12 := hS11.out0 hd5
        have hS12 : ST w0 [] _ [⟨some ⟨b, 0, none⟩, 58, [.int .i64 aM.Rows, .int .i64 aM.Cols, .slice B aM.Cells.length c], 3⟩, ⟨B1, 91, (r_2.Cells.flatMap enc_Dyadic), c1 * 5⟩, ⟨B2, 91, (r_5.Cells.flatMap enc_Dyadic), c2 * 5⟩, ⟨some ⟨b1, 0, none⟩, 62, [.int .i64 r_5.Rows, .int .i64 r_5.Cols, .slice B2 r_5.Cells.length c2], 3⟩, ⟨B3, 91, (r_8.Cells.flatMap enc_Dyadic), c3 * 5⟩] [⟨B, (aM.Cells.flatMap enc_Dyadic)⟩] := hS12
        refine ⟨(ST.sel hS12 [0, 1, 2, 3] rfl rfl), ?_⟩
        refine ra_all (rs := [3]) (by kernel_rfl) rfl ?_
        refine ra_c 38 (i := 3) rfl rfl rfl (Yc_func (g := 38) (vs := [.agg #[.int .i64 r_5.Rows, .int .i64 r_5.Cols, .slice B2 r_5.Cells.length c2], .agg #[.int .i64 r_8.Rows, .int .i64 r_8.Cols, .slice B3 r_8.Cells.length c3]]) k_call_38 rfl (mc rfl (mc rfl mn)) (c_laws_eqMatrix r_5 r_8 B2 c2 r_5.Cells.length B3 c3 r_8.Cells.length _ rfl rfl (hS12.inn0 [(false, 2), (false, 4)] rfl) hc6)) ?_ ?_
        · rintro _ w_9 ⟨rfl, hd6⟩
          have hS13 := hS12.out00 hd6
          have hS13 : ST w0 [] _ [⟨some ⟨b, 0, none⟩, 58, [.int .i64 aM.Rows, .int .i64 aM.Cols, .slice B aM.Cells.length c], 3⟩, ⟨B1, 91, (r_2.Cells.flatMap enc_Dyadic), c1 * 5⟩, ⟨B2, 91, (r_5.Cells.flatMap enc_Dyadic), c2 * 5⟩, ⟨some ⟨b1, 0, none⟩, 62, [.int .i64 r_5.Rows, .int .i64 r_5.Cols, .slice B2 r_5.Cells.length c2], 3⟩, ⟨B3, 91, (r_8.Cells.flatMap enc_Dyadic), c3 * 5⟩] [⟨B, (aM.Cells.flatMap enc_Dyadic)⟩] := hS13
          refine ⟨(ST.sel hS13 [0, 1, 2, 3] rfl rfl), ?_⟩
          refine ra_q 4 39 (v := .bool (!r_9)) rfl rfl rfl (by kernel_rfl) (by kernel_rfl) (by kernel_rfl) (ST.sel hS13 [0, 1, 2, 3] rfl rfl) (fun w' hw' => (Y_not (p := r_9) rfl rfl)) ?_
          refine ra_done (by kernel_rfl) ?_
          refine cw_cond (b := (!r_9)) rfl (fun hb2 => ?_) (fun hb2 => ?_)
          · skip
            have hF5 := ct hF4 hb2
            refine cw_seq ?_
            refine cw_region ?_
            refine sq 2 rfl rfl (Y_assign (v := .bool false) rfl rfl) ?_
            refine rw_nil ?_
            refine cw_ret ?_
            obtain rfl := some_inj hF5
            exact ret1 Try.results7 (v1 := .bool false) (resAt_tmp rfl) ⟨rfl, (ST.subR (R' := []) (hS13.sel [] rfl rfl) (fun _ h => by cases h))⟩
          · skip
            have hF6 := cf' hF4 hb2
            refine cw_skip ?_
            refine cw_seq ?_
            refine cw_region ?_
            refine sq 2 rfl rfl (Y_assign (v := .bool true) rfl rfl) ?_
            refine rw_nil ?_
            refine cw_ret ?_
            obtain rfl := some_inj hF6
            exact ret1 Try.results7 (v1 := .bool true) (resAt_tmp rfl) ⟨rfl, (ST.subR (R' := []) (hS13.sel [] rfl rfl) (fun _ h => by cases h))⟩
        exact allR_nil
      exact allR_nil
end Go.VK
