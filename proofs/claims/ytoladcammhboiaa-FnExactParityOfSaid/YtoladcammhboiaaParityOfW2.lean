/- Walks: each Go function returns what its Lean function says. By program. -/
import Derived.Test.YtoladcammhboiaaParityOfFa
import Derived.Test.YtoladcammhboiaaParityOfW1
set_option linter.unusedVariables false
set_option maxRecDepth 100000
set_option maxHeartbeats 1000000
namespace Go.VK
open Go.RowKit
open Go.Proofs
attribute [local irreducible] CW RW RA CV Y Yw Yc Ys RetOf
attribute [local irreducible] F_laws_szDyadicS F_laws_szBloch F_spec_l1In F_spec_l1All F_spec_l1Good F_spec_l1Even F_spec_l2Good F_spec_l1Root F_spec_l1Half F_spec_l2Low F_spec_l2C_ring F_spec_l1Mul F_spec_l2C_mul F_spec_l1Add F_spec_l2C_add F_spec_l2C_bloch F_spec_l9Turn F_spec_l1Neg F_spec_l2Neg F_spec_l2C_minor F_spec_l9Same F_spec_l1Turn F_spec_l2Power F_spec_l9Unit F_spec_l9Valid F_spec_l1Most F_spec_l9Exp F_spec_ParityOf F_laws_toRing F_laws_toDyadic F_laws_toDyadicS F_laws_toBloch F_impl_whole F_slices_IndexFunc_impl_Dyadic_impl_Dyadic F_slices_ContainsFunc_impl_Dyadic_impl_Dyadic F_impl_within F_impl_isCoef F_impl_IsValidRing F_impl_isEven F_impl_IsValidDyadic F_impl_isReal F_impl_IsValidBloch_1 F_impl_ringIf F_impl_MulRing F_impl_DivRootTwo F_impl_DyadicOf F_impl_MulDyadic F_impl_MulRootTwo F_impl_raised F_impl_combined F_impl_AddRing F_impl_AddDyadic F_impl_mulBloch F_impl_transposed F_impl_SubRing F_impl_SubDyadic F_impl_minor F_impl_determinant F_impl_small F_impl_IsValidBloch F_impl_blochExp F_impl_ParityOf F_laws_eqRing F_laws_eqDyadic F_laws_eqDyadicS F_laws_eqBloch F_laws_FnExactParityOf
theorem c_spec_l2C_minor (c : Tl2C) (b : TBloch) (j : Int) (k_ : Int) (B : Option Addr) (B1 : Option Addr) (c1 n : Nat) (w0 : World) (hn : b.Cells.length = n) (hS : ST w0 (bl [⟨B, 165, [.bool c.bad], 1⟩]) w0 [⟨B, 165, [.bool c.bad], 1⟩] [⟨B1, (b.Cells.flatMap enc_Dyadic)⟩]) {r_ : TDyadic} {m : Tl2C} (hF : F_spec_l2C_minor c b j k_ = some (r_, m)) :
    CV Try.prog 184 #[pt B 0, .agg #[.slice B1 n c1], .int .i64 j, .int .i64 k_] w0 (fun v w' => v = .agg #[.int .i64 r_.Num.A, .int .i64 r_.Num.B, .int .i64 r_.Num.C, .int .i64 r_.Num.D, .int .i64 r_.Exp] ∧ ST w0 (bl [⟨B, 165, [.bool c.bad], 1⟩]) w' [⟨B, 165, [.bool m.bad], 1⟩] []) := by
  subst hn
  unfold F_spec_l2C_minor at hF
  refine cv_of_cw 40 Try.func184 rfl Try.ntmps184 rfl ?_
  refine cw_seq ?_
  refine cw_region ?_
  refine ss 5 rfl rfl (Ys_box (T := 30) (v := .agg #[.slice B1 b.Cells.length c1]) (cs := [.slice B1 b.Cells.length c1]) (m := 1) hS rfl rfl rfl rfl) ?_
  rintro _ w_ ⟨b1, rfl, hS1⟩
  have hS1 : ST w0 (bl [⟨B, 165, [.bool c.bad], 1⟩]) _ [⟨B, 165, [.bool c.bad], 1⟩, ⟨some ⟨b1, 0, none⟩, 30, [.slice B1 b.Cells.length c1], 1⟩] [⟨B1, (b.Cells.flatMap enc_Dyadic)⟩] := hS1
  refine ss 8 rfl rfl (Ys_alloc (T := 55) (cs := [.int .i64 0, .int .i64 0, .int .i64 0, .int .i64 0, .int .i64 0]) (m := 5) hS1 k_zero_55 rfl rfl rfl) ?_
  rintro _ w_1 ⟨b2, rfl, hS2⟩
  have hS2 : ST w0 (bl [⟨B, 165, [.bool c.bad], 1⟩]) _ [⟨B, 165, [.bool c.bad], 1⟩, ⟨some ⟨b1, 0, none⟩, 30, [.slice B1 b.Cells.length c1], 1⟩, ⟨some ⟨b2, 0, none⟩, 55, [.int .i64 0, .int .i64 0, .int .i64 0, .int .i64 0, .int .i64 0], 5⟩] [⟨B1, (b.Cells.flatMap enc_Dyadic)⟩] := hS2
  refine rw_nil ?_
  refine cw_seq ?_
  obtain ⟨x, hx, hF⟩ := bind_inv hF
  obtain ⟨x1, hx1, hF⟩ := bind_inv hF
  obtain ⟨⟨r_1, m1⟩, hc, hF⟩ := bind_inv hF
  obtain ⟨x2, hx2, hF⟩ := bind_inv hF
  obtain ⟨x3, hx3, hF⟩ := bind_inv hF
  obtain ⟨⟨r_2, m2⟩, hc1, hF⟩ := bind_inv hF
  obtain ⟨r_3, hc2, hF⟩ := bind_inv hF
  obtain ⟨⟨r_4, m3⟩, hc3, hF⟩ := bind_inv hF
  refine ra_start (ST.sel hS2 [1] rfl rfl).fn (by kernel_rfl) ?_
  have hS7 := hS2.drew
  refine ra_q 0 9 (v := pt B 0) rfl rfl rfl (by kernel_rfl) (by kernel_rfl) (by kernel_rfl) (ST.sel hS7 [1] rfl rfl) (fun w' hw' => (Y_move (v := pt B 0) rfl rfl)) ?_
  refine ra_q 1 10 (v := pt B 0) rfl rfl rfl (by kernel_rfl) (by kernel_rfl) (by kernel_rfl) (ST.sel hS7 [1] rfl rfl) (fun w' hw' => (Y_move (v := pt B 0) rfl rfl)) ?_
  refine ra_q 2 11 (v := pt (some ⟨b1, 0, none⟩) 0) rfl rfl rfl (by kernel_rfl) (by kernel_rfl) (by kernel_rfl) (ST.sel hS7 [1] rfl rfl) (fun w' hw' => (Y_fieldAddr (B := some ⟨b1, 0, none⟩) (i := 0) (s := 0) k_fd_30_0_0_28 k_sz_28_1 rfl rfl)) ?_
  refine ra_q 3 12 (v := .slice B1 b.Cells.length c1) rfl rfl rfl (by kernel_rfl) (by kernel_rfl) (by kernel_rfl) (ST.sel hS7 [1] rfl rfl) (fun w' hw' => (Y_load1 (B := some ⟨b1, 0, none⟩) (i := 0) (cs := [.slice B1 b.Cells.length c1]) (v := .slice B1 b.Cells.length c1) k_sc_28 rfl rfl (ST.cf hw' (i := 0) rfl) rfl)) ?_
  refine ra_q 4 13 (v := .int .i64 j) rfl rfl rfl (by kernel_rfl) (by kernel_rfl) (by kernel_rfl) (ST.sel hS7 [1] rfl rfl) (fun w' hw' => (Y_move (v := .int .i64 j) rfl rfl)) ?_
  refine ra_q 5 14 (v := .int .i64 (IntKind.i64.wrap (3 + j))) rfl rfl rfl (by kernel_rfl) (by kernel_rfl) (by kernel_rfl) (ST.sel hS7 [1] rfl rfl) (fun w' hw' => (Y_add (k := .i64) (a := 3) (b := j) rfl rfl rfl)) ?_
  refine ra_q 6 15 (v := pt B1 ((IntKind.i64.wrap (3 + j)).toNat * 5)) rfl rfl rfl (by kernel_rfl) (by kernel_rfl) (by kernel_rfl) (ST.sel hS7 [1] rfl rfl) (fun w' hw' => (Y_index (B := B1) (m := b.Cells.length) (c := c1) (k := .i64) (i := (IntKind.i64.wrap (3 + j))) k_sl_28_55 k_sz_55_5 rfl rfl rfl (gi_isSome enc_Dyadic_len rfl (ST.rf hw' (i := 0) rfl) hx) (getI_nn hx) (getI_ltI hx rfl))) ?_
  refine ra_q 7 16 (v := .agg #[.int .i64 x.Num.A, .int .i64 x.Num.B, .int .i64 x.Num.C, .int .i64 x.Num.D, .int .i64 x.Exp]) rfl rfl rfl (by kernel_rfl) (by kernel_rfl) (by kernel_rfl) (ST.sel hS7 [1] rfl rfl) (fun w' hw' => (Y_loadA (B := B1) (i := (IntKind.i64.wrap (3 + j)).toNat * 5) (cs := (b.Cells.flatMap enc_Dyadic)) (vs := [.int .i64 x.Num.A, .int .i64 x.Num.B, .int .i64 x.Num.C, .int .i64 x.Num.D, .int .i64 x.Exp]) k_ag_55 k_sz_55_5 rfl rfl (ST.rf hw' (i := 0) rfl) (enc_Dyadic_len x) (gi_seg enc_Dyadic_len hx))) ?_
  refine ra_q 8 17 (v := pt (some ⟨b1, 0, none⟩) 0) rfl rfl rfl (by kernel_rfl) (by kernel_rfl) (by kernel_rfl) (ST.sel hS7 [1] rfl rfl) (fun w' hw' => (Y_fieldAddr (B := some ⟨b1, 0, none⟩) (i := 0) (s := 0) k_fd_30_0_0_28 k_sz_28_1 rfl rfl)) ?_
  refine ra_q 9 18 (v := .slice B1 b.Cells.length c1) rfl rfl rfl (by kernel_rfl) (by kernel_rfl) (by kernel_rfl) (ST.sel hS7 [1] rfl rfl) (fun w' hw' => (Y_load1 (B := some ⟨b1, 0, none⟩) (i := 0) (cs := [.slice B1 b.Cells.length c1]) (v := .slice B1 b.Cells.length c1) k_sc_28 rfl rfl (ST.cf hw' (i := 0) rfl) rfl)) ?_
  refine ra_q 10 19 (v := .int .i64 k_) rfl rfl rfl (by kernel_rfl) (by kernel_rfl) (by kernel_rfl) (ST.sel hS7 [1] rfl rfl) (fun w' hw' => (Y_move (v := .int .i64 k_) rfl rfl)) ?_
  refine ra_q 11 20 (v := .int .i64 (IntKind.i64.wrap (6 + k_))) rfl rfl rfl (by kernel_rfl) (by kernel_rfl) (by kernel_rfl) (ST.sel hS7 [1] rfl rfl) (fun w' hw' => (Y_add (k := .i64) (a := 6) (b := k_) rfl rfl rfl)) ?_
  refine ra_q 12 21 (v := pt B1 ((IntKind.i64.wrap (6 + k_)).toNat * 5)) rfl rfl rfl (by kernel_rfl) (by kernel_rfl) (by kernel_rfl) (ST.sel hS7 [1] rfl rfl) (fun w' hw' => (Y_index (B := B1) (m := b.Cells.length) (c := c1) (k := .i64) (i := (IntKind.i64.wrap (6 + k_))) k_sl_28_55 k_sz_55_5 rfl rfl rfl (gi_isSome enc_Dyadic_len rfl (ST.rf hw' (i := 0) rfl) hx1) (getI_nn hx1) (getI_ltI hx1 rfl))) ?_
  refine ra_q 13 22 (v := .agg #[.int .i64 x1.Num.A, .int .i64 x1.Num.B, .int .i64 x1.Num.C, .int .i64 x1.Num.D, .int .i64 x1.Exp]) rfl rfl rfl (by kernel_rfl) (by kernel_rfl) (by kernel_rfl) (ST.sel hS7 [1] rfl rfl) (fun w' hw' => (Y_loadA (B := B1) (i := (IntKind.i64.wrap (6 + k_)).toNat * 5) (cs := (b.Cells.flatMap enc_Dyadic)) (vs := [.int .i64 x1.Num.A, .int .i64 x1.Num.B, .int .i64 x1.Num.C, .int .i64 x1.Num.D, .int .i64 x1.Exp]) k_ag_55 k_sz_55_5 rfl rfl (ST.rf hw' (i := 0) rfl) (enc_Dyadic_len x1) (gi_seg enc_Dyadic_len hx1))) ?_
  refine ra_q 15 24 (v := pt B 0) rfl rfl rfl (by kernel_rfl) (by kernel_rfl) (by kernel_rfl) (ST.sel hS7 [1] rfl rfl) (fun w' hw' => (Y_move (v := pt B 0) rfl rfl)) ?_
  refine ra_q 16 25 (v := pt (some ⟨b1, 0, none⟩) 0) rfl rfl rfl (by kernel_rfl) (by kernel_rfl) (by kernel_rfl) (ST.sel hS7 [1] rfl rfl) (fun w' hw' => (Y_fieldAddr (B := some ⟨b1, 0, none⟩) (i := 0) (s := 0) k_fd_30_0_0_28 k_sz_28_1 rfl rfl)) ?_
  refine ra_q 17 26 (v := .slice B1 b.Cells.length c1) rfl rfl rfl (by kernel_rfl) (by kernel_rfl) (by kernel_rfl) (ST.sel hS7 [1] rfl rfl) (fun w' hw' => (Y_load1 (B := some ⟨b1, 0, none⟩) (i := 0) (cs := [.slice B1 b.Cells.length c1]) (v := .slice B1 b.Cells.length c1) k_sc_28 rfl rfl (ST.cf hw' (i := 0) rfl) rfl)) ?_
  refine ra_q 18 27 (v := .int .i64 k_) rfl rfl rfl (by kernel_rfl) (by kernel_rfl) (by kernel_rfl) (ST.sel hS7 [1] rfl rfl) (fun w' hw' => (Y_move (v := .int .i64 k_) rfl rfl)) ?_
  refine ra_q 19 28 (v := .int .i64 (IntKind.i64.wrap (3 + k_))) rfl rfl rfl (by kernel_rfl) (by kernel_rfl) (by kernel_rfl) (ST.sel hS7 [1] rfl rfl) (fun w' hw' => (Y_add (k := .i64) (a := 3) (b := k_) rfl rfl rfl)) ?_
  refine ra_q 20 29 (v := pt B1 ((IntKind.i64.wrap (3 + k_)).toNat * 5)) rfl rfl rfl (by kernel_rfl) (by kernel_rfl) (by kernel_rfl) (ST.sel hS7 [1] rfl rfl) (fun w' hw' => (Y_index (B := B1) (m := b.Cells.length) (c := c1) (k := .i64) (i := (IntKind.i64.wrap (3 + k_))) k_sl_28_55 k_sz_55_5 rfl rfl rfl (gi_isSome enc_Dyadic_len rfl (ST.rf hw' (i := 0) rfl) hx2) (getI_nn hx2) (getI_ltI hx2 rfl))) ?_
  refine ra_q 21 30 (v := .agg #[.int .i64 x2.Num.A, .int .i64 x2.Num.B, .int .i64 x2.Num.C, .int .i64 x2.Num.D, .int .i64 x2.Exp]) rfl rfl rfl (by kernel_rfl) (by kernel_rfl) (by kernel_rfl) (ST.sel hS7 [1] rfl rfl) (fun w' hw' => (Y_loadA (B := B1) (i := (IntKind.i64.wrap (3 + k_)).toNat * 5) (cs := (b.Cells.flatMap enc_Dyadic)) (vs := [.int .i64 x2.Num.A, .int .i64 x2.Num.B, .int .i64 x2.Num.C, .int .i64 x2.Num.D, .int .i64 x2.Exp]) k_ag_55 k_sz_55_5 rfl rfl (ST.rf hw' (i := 0) rfl) (enc_Dyadic_len x2) (gi_seg enc_Dyadic_len hx2))) ?_
  refine ra_q 22 31 (v := pt (some ⟨b1, 0, none⟩) 0) rfl rfl rfl (by kernel_rfl) (by kernel_rfl) (by kernel_rfl) (ST.sel hS7 [1] rfl rfl) (fun w' hw' => (Y_fieldAddr (B := some ⟨b1, 0, none⟩) (i := 0) (s := 0) k_fd_30_0_0_28 k_sz_28_1 rfl rfl)) ?_
  refine ra_q 23 32 (v := .slice B1 b.Cells.length c1) rfl rfl rfl (by kernel_rfl) (by kernel_rfl) (by kernel_rfl) (ST.sel hS7 [1] rfl rfl) (fun w' hw' => (Y_load1 (B := some ⟨b1, 0, none⟩) (i := 0) (cs := [.slice B1 b.Cells.length c1]) (v := .slice B1 b.Cells.length c1) k_sc_28 rfl rfl (ST.cf hw' (i := 0) rfl) rfl)) ?_
  refine ra_q 24 33 (v := .int .i64 j) rfl rfl rfl (by kernel_rfl) (by kernel_rfl) (by kernel_rfl) (ST.sel hS7 [1] rfl rfl) (fun w' hw' => (Y_move (v := .int .i64 j) rfl rfl)) ?_
  refine ra_q 25 34 (v := .int .i64 (IntKind.i64.wrap (6 + j))) rfl rfl rfl (by kernel_rfl) (by kernel_rfl) (by kernel_rfl) (ST.sel hS7 [1] rfl rfl) (fun w' hw' => (Y_add (k := .i64) (a := 6) (b := j) rfl rfl rfl)) ?_
  refine ra_q 26 35 (v := pt B1 ((IntKind.i64.wrap (6 + j)).toNat * 5)) rfl rfl rfl (by kernel_rfl) (by kernel_rfl) (by kernel_rfl) (ST.sel hS7 [1] rfl rfl) (fun w' hw' => (Y_index (B := B1) (m := b.Cells.length) (c := c1) (k := .i64) (i := (IntKind.i64.wrap (6 + j))) k_sl_28_55 k_sz_55_5 rfl rfl rfl (gi_isSome enc_Dyadic_len rfl (ST.rf hw' (i := 0) rfl) hx3) (getI_nn hx3) (getI_ltI hx3 rfl))) ?_
  refine ra_q 27 36 (v := .agg #[.int .i64 x3.Num.A, .int .i64 x3.Num.B, .int .i64 x3.Num.C, .int .i64 x3.Num.D, .int .i64 x3.Exp]) rfl rfl rfl (by kernel_rfl) (by kernel_rfl) (by kernel_rfl) (ST.sel hS7 [1] rfl rfl) (fun w' hw' => (Y_loadA (B := B1) (i := (IntKind.i64.wrap (6 + j)).toNat * 5) (cs := (b.Cells.flatMap enc_Dyadic)) (vs := [.int .i64 x3.Num.A, .int .i64 x3.Num.B, .int .i64 x3.Num.C, .int .i64 x3.Num.D, .int .i64 x3.Exp]) k_ag_55 k_sz_55_5 rfl rfl (ST.rf hw' (i := 0) rfl) (enc_Dyadic_len x3) (gi_seg enc_Dyadic_len hx3))) ?_
  refine ra_all (rs := [14]) (by kernel_rfl) rfl ?_
  refine ra_c 23 (i := 14) rfl rfl rfl (Yc_func (g := 183) (vs := [pt B 0, .agg #[.int .i64 x.Num.A, .int .i64 x.Num.B, .int .i64 x.Num.C, .int .i64 x.Num.D, .int .i64 x.Exp], .agg #[.int .i64 x1.Num.A, .int .i64 x1.Num.B, .int .i64 x1.Num.C, .int .i64 x1.Num.D, .int .i64 x1.Exp]]) k_call_183 rfl (mc rfl (mc rfl (mc rfl mn))) (c_spec_l2C_mul c x x1 B _  (hS7.inn [true, false, false] rfl [] rfl) hc)) ?_ ?_
  · rintro _ w_2 ⟨rfl, hd⟩
    have hS8 := hS7.out [true, false, false] rfl hd
    have hS8 : ST w0 (bl [⟨B, 165, [.bool c.bad], 1⟩]) _ [⟨some ⟨b1, 0, none⟩, 30, [.slice B1 b.Cells.length c1], 1⟩, ⟨some ⟨b2, 0, none⟩, 55, [.int .i64 0, .int .i64 0, .int .i64 0, .int .i64 0, .int .i64 0], 5⟩, ⟨B, 165, [.bool m1.bad], 1⟩] [⟨B1, (b.Cells.flatMap enc_Dyadic)⟩] := hS8
    refine ⟨(ST.sel hS8 [0] rfl rfl), ?_⟩
    refine ra_all (rs := [28]) (by kernel_rfl) rfl ?_
    refine ra_c 37 (i := 28) rfl rfl rfl (Yc_func (g := 183) (vs := [pt B 0, .agg #[.int .i64 x2.Num.A, .int .i64 x2.Num.B, .int .i64 x2.Num.C, .int .i64 x2.Num.D, .int .i64 x2.Exp], .agg #[.int .i64 x3.Num.A, .int .i64 x3.Num.B, .int .i64 x3.Num.C, .int .i64 x3.Num.D, .int .i64 x3.Exp]]) k_call_183 rfl (mc rfl (mc rfl (mc rfl mn))) (c_spec_l2C_mul m1 x2 x3 B _  (hS8.inn [false, false, true] rfl [] rfl) hc1)) ?_ ?_
    · rintro _ w_3 ⟨rfl, hd1⟩
      have hS9 := hS8.out [false, false, true] rfl hd1
      have hS9 : ST w0 (bl [⟨B, 165, [.bool c.bad], 1⟩]) _ [⟨some ⟨b1, 0, none⟩, 30, [.slice B1 b.Cells.length c1], 1⟩, ⟨some ⟨b2, 0, none⟩, 55, [.int .i64 0, .int .i64 0, .int .i64 0, .int .i64 0, .int .i64 0], 5⟩, ⟨B, 165, [.bool m2.bad], 1⟩] [⟨B1, (b.Cells.flatMap enc_Dyadic)⟩] := hS9
      refine ⟨(ST.sel hS9 [0] rfl rfl), ?_⟩
      refine ra_all (rs := [29]) (by kernel_rfl) rfl ?_
      refine ra_c 38 (i := 29) rfl rfl rfl (Yc_func (g := 186) (vs := [.agg #[.int .i64 r_2.Num.A, .int .i64 r_2.Num.B, .int .i64 r_2.Num.C, .int .i64 r_2.Num.D, .int .i64 r_2.Exp]]) k_call_186 rfl (mc rfl mn) (c_spec_l2Neg r_2 _  (hS9.inn0 [] rfl) hc2)) ?_ ?_
      · rintro _ w_4 ⟨rfl, hd2⟩
        have hS10 := hS9.out00 hd2
        have hS10 : ST w0 (bl [⟨B, 165, [.bool c.bad], 1⟩]) _ [⟨some ⟨b1, 0, none⟩, 30, [.slice B1 b.Cells.length c1], 1⟩, ⟨some ⟨b2, 0, none⟩, 55, [.int .i64 0, .int .i64 0, .int .i64 0, .int .i64 0, .int .i64 0], 5⟩, ⟨B, 165, [.bool m2.bad], 1⟩] [⟨B1, (b.Cells.flatMap enc_Dyadic)⟩] := hS10
        refine ⟨(ST.sel hS10 [0] rfl rfl), ?_⟩
        refine ra_all (rs := [30]) (by kernel_rfl) rfl ?_
        refine ra_c 39 (i := 30) rfl rfl rfl (Yc_func (g := 185) (vs := [pt B 0, .agg #[.int .i64 r_1.Num.A, .int .i64 r_1.Num.B, .int .i64 r_1.Num.C, .int .i64 r_1.Num.D, .int .i64 r_1.Exp], .agg #[.int .i64 r_3.Num.A, .int .i64 r_3.Num.B, .int .i64 r_3.Num.C, .int .i64 r_3.Num.D, .int .i64 r_3.Exp]]) k_call_185 rfl (mc rfl (mc rfl (mc rfl mn))) (c_spec_l2C_add m2 r_1 r_3 B _  (hS10.inn [false, false, true] rfl [] rfl) hc3)) ?_ ?_
        · rintro _ w_5 ⟨rfl, hd3⟩
          have hS11 := hS10.out [false, false, true] rfl hd3
          have hS11 : ST w0 (bl [⟨B, 165, [.bool c.bad], 1⟩]) _ [⟨some ⟨b1, 0, none⟩, 30, [.slice B1 b.Cells.length c1], 1⟩, ⟨some ⟨b2, 0, none⟩, 55, [.int .i64 0, .int .i64 0, .int .i64 0, .int .i64 0, .int .i64 0], 5⟩, ⟨B, 165, [.bool m3.bad], 1⟩] [⟨B1, (b.Cells.flatMap enc_Dyadic)⟩] := hS11
          refine ⟨(ST.sel hS11 [0] rfl rfl), ?_⟩
          refine ra_all (rs := [31]) (by kernel_rfl) rfl ?_
          refine ra_s0 (i := 31) rfl rfl rfl (Ys_store (i := 1) (s := 5) (B := some ⟨b2, 0, none⟩) (T' := 55) (v := .agg #[.int .i64 r_4.Num.A, .int .i64 r_4.Num.B, .int .i64 r_4.Num.C, .int .i64 r_4.Num.D, .int .i64 r_4.Exp]) (vs := [.int .i64 r_4.Num.A, .int .i64 r_4.Num.B, .int .i64 r_4.Num.C, .int .i64 r_4.Num.D, .int .i64 r_4.Exp]) (k := 0) (cs' := [.int .i64 r_4.Num.A, .int .i64 r_4.Num.B, .int .i64 r_4.Num.C, .int .i64 r_4.Num.D, .int .i64 r_4.Exp]) hS11 k_sz_55_5 rfl rfl rfl rfl rfl rfl rfl (Nat.le_of_ble_eq_true rfl) rfl rfl) ?_ ?_
          · rintro _ w_6 ⟨rfl, hS12⟩
            have hS12 : ST w0 (bl [⟨B, 165, [.bool c.bad], 1⟩]) _ [⟨some ⟨b1, 0, none⟩, 30, [.slice B1 b.Cells.length c1], 1⟩, ⟨some ⟨b2, 0, none⟩, 55, [.int .i64 r_4.Num.A, .int .i64 r_4.Num.B, .int .i64 r_4.Num.C, .int .i64 r_4.Num.D, .int .i64 r_4.Exp], 5⟩, ⟨B, 165, [.bool m3.bad], 1⟩] [⟨B1, (b.Cells.flatMap enc_Dyadic)⟩] := hS12
            refine ⟨(ST.sel hS12 [0] rfl rfl), ?_⟩
            refine ra_done (by kernel_rfl) ?_
            refine cw_ret ?_
            obtain ⟨rfl, rfl⟩ := pr2 (some_inj hF)
            exact ret1 Try.results184 (v1 := .agg #[.int .i64 r_4.Num.A, .int .i64 r_4.Num.B, .int .i64 r_4.Num.C, .int .i64 r_4.Num.D, .int .i64 r_4.Exp]) (resAt_cellA (B := some ⟨b2, 0, none⟩) (i := 0) (cs := [.int .i64 r_4.Num.A, .int .i64 r_4.Num.B, .int .i64 r_4.Num.C, .int .i64 r_4.Num.D, .int .i64 r_4.Exp]) (vs := [.int .i64 r_4.Num.A, .int .i64 r_4.Num.B, .int .i64 r_4.Num.C, .int .i64 r_4.Num.D, .int .i64 r_4.Exp]) rfl k_ag_55 k_sz_55_5 (hS12.cf (i := 1) rfl) rfl rfl) ⟨rfl, (ST.subR (R' := []) (hS12.sel [2] rfl rfl) (fun _ h => by cases h))⟩
          exact allR_nil
        exact allR_nil
      exact allR_nil
    exact allR_nil
  exact allR_nil

theorem c_spec_l9Same (a : TBloch) (b : TBloch) (B : Option Addr) (c n : Nat) (B1 : Option Addr) (c1 n1 : Nat) (w0 : World) (hn : a.Cells.length = n) (hn1 : b.Cells.length = n1) (hS : ST w0 [] w0 [] [⟨B, (a.Cells.flatMap enc_Dyadic)⟩, ⟨B1, (b.Cells.flatMap enc_Dyadic)⟩]) {r_ : Bool} (hF : F_spec_l9Same a b = some r_) :
    CV Try.prog 187 #[.agg #[.slice B n c], .agg #[.slice B1 n1 c1]] w0 (fun v w' => v = .bool r_ ∧ ST w0 [] w' [] []) := by
  subst hn
  subst hn1
  unfold F_spec_l9Same at hF
  refine cv_of_cw 24 Try.func187 rfl Try.ntmps187 rfl ?_
  refine cw_seq ?_
  refine cw_region ?_
  refine ss 2 rfl rfl (Ys_box (T := 30) (v := .agg #[.slice B a.Cells.length c]) (cs := [.slice B a.Cells.length c]) (m := 1) hS rfl rfl rfl rfl) ?_
  rintro _ w_ ⟨b1, rfl, hS1⟩
  refine ss 3 rfl rfl (Ys_box (T := 30) (v := .agg #[.slice B1 b.Cells.length c1]) (cs := [.slice B1 b.Cells.length c1]) (m := 1) hS1 rfl rfl rfl rfl) ?_
  rintro _ w_1 ⟨b2, rfl, hS2⟩
  have hS2 : ST w0 [] _ [⟨some ⟨b1, 0, none⟩, 30, [.slice B a.Cells.length c], 1⟩, ⟨some ⟨b2, 0, none⟩, 30, [.slice B1 b.Cells.length c1], 1⟩] [⟨B, (a.Cells.flatMap enc_Dyadic)⟩, ⟨B1, (b.Cells.flatMap enc_Dyadic)⟩] := hS2
  refine sq 4 rfl rfl (Y_assign (v := .bool false) rfl rfl) ?_
  refine rw_nil ?_
  refine cw_seq ?_
  refine cw_seq ?_
  refine cw_region ?_
  refine sq 6 rfl rfl (Y_fieldAddr (B := some ⟨b1, 0, none⟩) (i := 0) (s := 0) k_fd_30_0_0_28 k_sz_28_1 rfl rfl) ?_
  refine sq 7 rfl rfl (Y_load1 (B := some ⟨b1, 0, none⟩) (i := 0) (cs := [.slice B a.Cells.length c]) (v := .slice B a.Cells.length c) k_sc_28 rfl rfl (hS2.cf (i := 0) rfl) rfl) ?_
  refine sq 8 rfl rfl (Y_len (B := B) (m := a.Cells.length) (c := c) k_sl_28_55 rfl rfl) ?_
  refine sq 9 rfl rfl (Y_move (v := .int .i64 0) rfl rfl) ?_
  refine rw_nil ?_
  obtain ⟨hN, hF⟩ := chk_inv hF
  obtain ⟨z, hz, hF1⟩ := bind_inv hF
  refine cw_block ?_
  refine cw_loop (fun k f w => ∃ (i : Nat), FF f [(2, pt (some ⟨b1, 0, none⟩) 0), (3, pt (some ⟨b2, 0, none⟩) 0), (8, .int .i64 (a.Cells.length : Int)), (9, .int .i64 (i : Int))] ∧ ST w0 [] w [⟨some ⟨b1, 0, none⟩, 30, [.slice B a.Cells.length c], 1⟩, ⟨some ⟨b2, 0, none⟩, 30, [.slice B1 b.Cells.length c1], 1⟩] [⟨B, (a.Cells.flatMap enc_Dyadic)⟩, ⟨B1, (b.Cells.flatMap enc_Dyadic)⟩] ∧ i + k = a.Cells.length ∧ forX (F_spec_l9Same_l1 a b) k i () = some z) a.Cells.length ⟨0, (FF.cons rfl (FF.cons rfl (FF.cons rfl (FF.cons rfl FF.nil)))), (hS2.sel [0, 1] rfl rfl), Nat.zero_add _, hz⟩ ?_
  rintro k_ f w ⟨i, hf, hS3, hik, hL⟩
  refine cw_seq ?_
  refine cw_region ?_
  refine sq 10 rfl rfl (Y_lt (k := .i64) (a := (i : Int)) (b := (a.Cells.length : Int)) rfl (hf.get 9 3 rfl) (hf.get 8 2 rfl)) ?_
  refine rw_nil ?_
  refine cw_seq ?_
  refine cw_cond (b := (decide ((i : Int) < (a.Cells.length : Int)))) rfl (fun hlt => ?_) (fun hlt => ?_)
  · skip
    have hlt1 : i < a.Cells.length := by have h := of_decide_eq_true hlt; omega
    obtain ⟨k_1, rfl⟩ : ∃ k2, k_ = k2 + 1 := ⟨k_ - 1, by omega⟩
    obtain ⟨y, hb, hL1⟩ := forX_go hL
    unfold F_spec_l9Same_l1 at hb
    refine cw_skip ?_
    refine cw_seq ?_
    refine cw_block ?_
    refine cw_seq ?_
    refine cw_region ?_
    refine sq 11 rfl rfl (Y_move (v := .int .i64 (i : Int)) rfl (hf.get 9 3 rfl)) ?_
    refine sq 5 rfl rfl (Y_assign (v := .int .i64 (i : Int)) rfl rfl) ?_
    refine rw_nil ?_
    refine cw_seq ?_
    obtain ⟨x, hx, hb⟩ := bind_inv hb
    obtain ⟨x1, hx1, hb⟩ := bind_inv hb
    refine ra_start (ST.sel hS3 [0, 1] rfl rfl).fn (by kernel_rfl) ?_
    have hS4 := hS3.drew
    refine ra_q 0 12 (v := pt (some ⟨b1, 0, none⟩) 0) rfl rfl rfl (by kernel_rfl) (by kernel_rfl) (by kernel_rfl) (ST.sel hS4 [0, 1] rfl rfl) (fun w' hw' => (Y_fieldAddr (B := some ⟨b1, 0, none⟩) (i := 0) (s := 0) k_fd_30_0_0_28 k_sz_28_1 rfl (hf.get 2 0 rfl))) ?_
    refine ra_q 1 13 (v := .slice B a.Cells.length c) rfl rfl rfl (by kernel_rfl) (by kernel_rfl) (by kernel_rfl) (ST.sel hS4 [0, 1] rfl rfl) (fun w' hw' => (Y_load1 (B := some ⟨b1, 0, none⟩) (i := 0) (cs := [.slice B a.Cells.length c]) (v := .slice B a.Cells.length c) k_sc_28 rfl rfl (ST.cf hw' (i := 0) rfl) rfl)) ?_
    refine ra_q 2 14 (v := .int .i64 (i : Int)) rfl rfl rfl (by kernel_rfl) (by kernel_rfl) (by kernel_rfl) (ST.sel hS4 [0, 1] rfl rfl) (fun w' hw' => (Y_move (v := .int .i64 (i : Int)) rfl rfl)) ?_
    refine ra_q 3 15 (v := pt B ((i : Int).toNat * 5)) rfl rfl rfl (by kernel_rfl) (by kernel_rfl) (by kernel_rfl) (ST.sel hS4 [0, 1] rfl rfl) (fun w' hw' => (Y_index (B := B) (m := a.Cells.length) (c := c) (k := .i64) (i := (i : Int)) k_sl_28_55 k_sz_55_5 rfl rfl rfl (gi_isSome enc_Dyadic_len rfl (ST.rf hw' (i := 0) rfl) hx) (getI_nn hx) (getI_ltI hx rfl))) ?_
    refine ra_q 4 16 (v := .agg #[.int .i64 x.Num.A, .int .i64 x.Num.B, .int .i64 x.Num.C, .int .i64 x.Num.D, .int .i64 x.Exp]) rfl rfl rfl (by kernel_rfl) (by kernel_rfl) (by kernel_rfl) (ST.sel hS4 [0, 1] rfl rfl) (fun w' hw' => (Y_loadA (B := B) (i := (i : Int).toNat * 5) (cs := (a.Cells.flatMap enc_Dyadic)) (vs := [.int .i64 x.Num.A, .int .i64 x.Num.B, .int .i64 x.Num.C, .int .i64 x.Num.D, .int .i64 x.Exp]) k_ag_55 k_sz_55_5 rfl rfl (ST.rf hw' (i := 0) rfl) (enc_Dyadic_len x) (gi_seg enc_Dyadic_len hx))) ?_
    refine ra_q 5 17 (v := pt (some ⟨b2, 0, none⟩) 0) rfl rfl rfl (by kernel_rfl) (by kernel_rfl) (by kernel_rfl) (ST.sel hS4 [0, 1] rfl rfl) (fun w' hw' => (Y_fieldAddr (B := some ⟨b2, 0, none⟩) (i := 0) (s := 0) k_fd_30_0_0_28 k_sz_28_1 rfl (hf.get 3 1 rfl))) ?_
    refine ra_q 6 18 (v := .slice B1 b.Cells.length c1) rfl rfl rfl (by kernel_rfl) (by kernel_rfl) (by kernel_rfl) (ST.sel hS4 [0, 1] rfl rfl) (fun w' hw' => (Y_load1 (B := some ⟨b2, 0, none⟩) (i := 0) (cs := [.slice B1 b.Cells.length c1]) (v := .slice B1 b.Cells.length c1) k_sc_28 rfl rfl (ST.cf hw' (i := 1) rfl) rfl)) ?_
    refine ra_q 7 19 (v := .int .i64 (i : Int)) rfl rfl rfl (by kernel_rfl) (by kernel_rfl) (by kernel_rfl) (ST.sel hS4 [0, 1] rfl rfl) (fun w' hw' => (Y_move (v := .int .i64 (i : Int)) rfl rfl)) ?_
    refine ra_q 8 20 (v := pt B1 ((i : Int).toNat * 5)) rfl rfl rfl (by kernel_rfl) (by kernel_rfl) (by kernel_rfl) (ST.sel hS4 [0, 1] rfl rfl) (fun w' hw' => (Y_index (B := B1) (m := b.Cells.length) (c := c1) (k := .i64) (i := (i : Int)) k_sl_28_55 k_sz_55_5 rfl rfl rfl (gi_isSome enc_Dyadic_len rfl (ST.rf hw' (i := 1) rfl) hx1) (getI_nn hx1) (getI_ltI hx1 rfl))) ?_
    refine ra_q 9 21 (v := .agg #[.int .i64 x1.Num.A, .int .i64 x1.Num.B, .int .i64 x1.Num.C, .int .i64 x1.Num.D, .int .i64 x1.Exp]) rfl rfl rfl (by kernel_rfl) (by kernel_rfl) (by kernel_rfl) (ST.sel hS4 [0, 1] rfl rfl) (fun w' hw' => (Y_loadA (B := B1) (i := (i : Int).toNat * 5) (cs := (b.Cells.flatMap enc_Dyadic)) (vs := [.int .i64 x1.Num.A, .int .i64 x1.Num.B, .int .i64 x1.Num.C, .int .i64 x1.Num.D, .int .i64 x1.Exp]) k_ag_55 k_sz_55_5 rfl rfl (ST.rf hw' (i := 1) rfl) (enc_Dyadic_len x1) (gi_seg enc_Dyadic_len hx1))) ?_
    refine ra_q 10 22 (v := .bool (!(((x.Num.A == x1.Num.A) && ((x.Num.B == x1.Num.B) && ((x.Num.C == x1.Num.C) && ((x.Num.D == x1.Num.D) && true)))) && ((x.Exp == x1.Exp) && true)))) rfl rfl rfl (by kernel_rfl) (by kernel_rfl) (by kernel_rfl) (ST.sel hS4 [0, 1] rfl rfl) (fun w' hw' => (Y_neA (xs := #[.int .i64 x.Num.A, .int .i64 x.Num.B, .int .i64 x.Num.C, .int .i64 x.Num.D, .int .i64 x.Exp]) (ys := #[.int .i64 x1.Num.A, .int .i64 x1.Num.B, .int .i64 x1.Num.C, .int .i64 x1.Num.D, .int .i64 x1.Exp]) (b := (((x.Num.A == x1.Num.A) && ((x.Num.B == x1.Num.B) && ((x.Num.C == x1.Num.C) && ((x.Num.D == x1.Num.D) && true)))) && ((x.Exp == x1.Exp) && true))) k_eg_55 rfl rfl rfl (eqr_struct (xs := [.int .i64 x.Num.A, .int .i64 x.Num.B, .int .i64 x.Num.C, .int .i64 x.Num.D, .int .i64 x.Exp]) (ys := [.int .i64 x1.Num.A, .int .i64 x1.Num.B, .int .i64 x1.Num.C, .int .i64 x1.Num.D, .int .i64 x1.Exp]) k_st_55 k_ho_55 (pts_ag (us := [.int .i64 x.Num.A, .int .i64 x.Num.B, .int .i64 x.Num.C, .int .i64 x.Num.D]) (vs := [.int .i64 x1.Num.A, .int .i64 x1.Num.B, .int .i64 x1.Num.C, .int .i64 x1.Num.D]) k_ag_53 k_sz_53_4 rfl rfl (eqr_struct (xs := [.int .i64 x.Num.A, .int .i64 x.Num.B, .int .i64 x.Num.C, .int .i64 x.Num.D]) (ys := [.int .i64 x1.Num.A, .int .i64 x1.Num.B, .int .i64 x1.Num.C, .int .i64 x1.Num.D]) k_st_53 k_ho_53 (pts_sc k_sc_3 rfl rfl (eqr_int k_int_3_i64) (pts_sc k_sc_3 rfl rfl (eqr_int k_int_3_i64) (pts_sc k_sc_3 rfl rfl (eqr_int k_int_3_i64) (pts_sc k_sc_3 rfl rfl (eqr_int k_int_3_i64) pts_nil))))) (pts_sc k_sc_3 rfl rfl (eqr_int k_int_3_i64) pts_nil))))) ?_
    refine ra_done (by kernel_rfl) ?_
    refine cw_cond (b := (!(((x.Num.A == x1.Num.A) && ((x.Num.B == x1.Num.B) && ((x.Num.C == x1.Num.C) && ((x.Num.D == x1.Num.D) && true)))) && ((x.Exp == x1.Exp) && true)))) rfl (fun hb1 => ?_) (fun hb1 => ?_)
    · skip
      have hF2 := ct hb hb1
      refine cw_seq ?_
      refine cw_region ?_
      refine sq 4 rfl rfl (Y_assign (v := .bool false) rfl rfl) ?_
      refine rw_nil ?_
      refine cw_ret ?_
      obtain rfl := some_inj hF2
      obtain rfl := some_inj hL1
      obtain rfl := some_inj hF1
      exact ret1 Try.results187 (v1 := .bool false) (resAt_tmp rfl) ⟨rfl, (ST.subR (R' := []) (hS4.sel [] rfl rfl) (fun _ h => by cases h))⟩
    · skip
      have hF3 := cf' hb hb1
      refine cw_skip ?_
      refine cw_region ?_
      refine sq 23 rfl rfl (Y_add (k := .i64) (a := (i : Int)) (b := 1) rfl (hf.get 9 3 rfl) rfl) ?_
      refine sq 9 rfl rfl (Y_move (v := .int .i64 (IntKind.i64.wrap ((i : Int) + 1))) rfl rfl) ?_
      refine rw_nil ?_
      obtain rfl := some_inj hF3
      exact ⟨k_1, Nat.lt_succ_self _, i + 1, (FF.cons (hf.get 2 0 rfl) (FF.cons (hf.get 3 1 rfl) (FF.cons (hf.get 8 2 rfl) (FF.cons (congrArg (Value.int .i64) (wr_succ hlt1 hN)) FF.nil)))), (hS4.sel [0, 1] rfl rfl), (by omega), hL1⟩
  · skip
    obtain rfl : k_ = 0 := by have h := of_decide_eq_false hlt; omega
    refine cw_exit rfl ?_
    obtain rfl := some_inj hL
    refine cw_seq ?_
    refine cw_region ?_
    refine sq 4 rfl rfl (Y_assign (v := .bool true) rfl rfl) ?_
    refine rw_nil ?_
    refine cw_ret ?_
    obtain rfl := some_inj hF1
    exact ret1 Try.results187 (v1 := .bool true) (resAt_tmp rfl) ⟨rfl, (ST.subR (R' := []) (hS3.sel [] rfl rfl) (fun _ h => by cases h))⟩

theorem c_spec_l1Turn (x : TRing) (k_ : Int)  (w0 : World)  (hS : ST w0 [] w0 [] []) {r_ : TRing} (hF : F_spec_l1Turn x k_ = some r_) :
    CV Try.prog 284 #[.agg #[.int .i64 x.A, .int .i64 x.B, .int .i64 x.C, .int .i64 x.D], .int .i64 k_] w0 (fun v w' => v = .agg #[.int .i64 r_.A, .int .i64 r_.B, .int .i64 r_.C, .int .i64 r_.D] ∧ ST w0 [] w' [] []) := by
  unfold F_spec_l1Turn at hF
  refine cv_of_cw 24 Try.func284 rfl Try.ntmps284 rfl ?_
  refine cw_seq ?_
  refine cw_region ?_
  refine ss 2 rfl rfl (Ys_box (T := 53) (v := .agg #[.int .i64 x.A, .int .i64 x.B, .int .i64 x.C, .int .i64 x.D]) (cs := [.int .i64 x.A, .int .i64 x.B, .int .i64 x.C, .int .i64 x.D]) (m := 4) hS rfl rfl rfl rfl) ?_
  rintro _ w_ ⟨b, rfl, hS1⟩
  refine ss 4 rfl rfl (Ys_alloc (T := 53) (cs := [.int .i64 0, .int .i64 0, .int .i64 0, .int .i64 0]) (m := 4) hS1 k_zero_53 rfl rfl rfl) ?_
  rintro _ w_1 ⟨b1, rfl, hS2⟩
  have hS2 : ST w0 [] _ [⟨some ⟨b, 0, none⟩, 53, [.int .i64 x.A, .int .i64 x.B, .int .i64 x.C, .int .i64 x.D], 4⟩, ⟨some ⟨b1, 0, none⟩, 53, [.int .i64 0, .int .i64 0, .int .i64 0, .int .i64 0], 4⟩] [] := hS2
  refine rw_nil ?_
  refine cw_seq ?_
  refine cw_seq ?_
  refine cw_region ?_
  refine sq 5 rfl rfl (Y_move (v := .int .i64 k_) rfl rfl) ?_
  refine sq 6 rfl rfl (Y_rem (k := .i64) (a := k_) (b := 8) rfl rfl rfl (by decide)) ?_
  refine sq 7 rfl rfl (Y_add (k := .i64) (a := (Int.tmod k_ 8)) (b := 8) rfl rfl rfl) ?_
  refine sq 8 rfl rfl (Y_rem (k := .i64) (a := (IntKind.i64.wrap ((Int.tmod k_ 8) + 8))) (b := 8) rfl rfl rfl (by decide)) ?_
  refine sq 1 rfl rfl (Y_assign (v := .int .i64 (Int.tmod (IntKind.i64.wrap ((Int.tmod k_ 8) + 8)) 8)) rfl rfl) ?_
  refine rw_nil ?_
  obtain ⟨z, hz, hF1⟩ := bind_inv hF
  refine cw_block ?_
  refine cw_loop (fun k f w => ∃ (k_1 : Int) (A : Int) (B : Int) (C : Int) (D : Int), FF f [(1, .int .i64 k_1), (2, pt (some ⟨b, 0, none⟩) 0), (4, pt (some ⟨b1, 0, none⟩) 0)] ∧ ST w0 [] w [⟨some ⟨b, 0, none⟩, 53, [.int .i64 A, .int .i64 B, .int .i64 C, .int .i64 D], 4⟩, ⟨some ⟨b1, 0, none⟩, 53, [.int .i64 0, .int .i64 0, .int .i64 0, .int .i64 0], 4⟩] [] ∧ whX F_spec_l1Turn_l1 k (k_1, A, B, C, D) = some z) fuel ⟨(Int.tmod (IntKind.i64.wrap ((Int.tmod k_ 8) + 8)) 8), x.A, x.B, x.C, x.D, (FF.cons rfl (FF.cons rfl (FF.cons rfl FF.nil))), (hS2.sel [0, 1] rfl rfl), hz⟩ ?_
  rintro k_2 f w ⟨k_1, A, B, C, D, hf, hS3, hL⟩
  obtain ⟨k_3, y, rfl, hb, hL1⟩ := whX_go hL
  unfold F_spec_l1Turn_l1 at hb
  refine cw_seq ?_
  refine cw_seq ?_
  refine cw_region ?_
  refine sq 9 rfl rfl (Y_move (v := .int .i64 k_1) rfl (hf.get 1 0 rfl)) ?_
  refine sq 10 rfl rfl (Y_gt (k := .i64) (a := k_1) (b := 0) rfl rfl rfl) ?_
  refine rw_nil ?_
  refine cw_cond (b := (decide (0 < k_1))) rfl (fun hb1 => ?_) (fun hb1 => ?_)
  · skip
    have hF2 := ct hb hb1
    refine cw_skip ?_
    refine cw_seq ?_
    refine cw_block ?_
    refine cw_region ?_
    refine sq 13 rfl rfl (Y_fieldAddr (B := some ⟨b, 0, none⟩) (i := 0) (s := 0) k_fd_53_3_3_3 k_sz_3_1 rfl (hf.get 2 1 rfl)) ?_
    refine sq 14 rfl rfl (Y_load1 (B := some ⟨b, 0, none⟩) (i := 3) (cs := [.int .i64 A, .int .i64 B, .int .i64 C, .int .i64 D]) (v := .int .i64 D) k_sc_3 rfl rfl (hS3.cf (i := 0) rfl) rfl) ?_
    refine sq 15 rfl rfl (Y_neg (k := .i64) (a := D) rfl rfl) ?_
    refine sq 16 rfl rfl (Y_fieldAddr (B := some ⟨b, 0, none⟩) (i := 0) (s := 0) k_fd_53_0_0_3 k_sz_3_1 rfl (hf.get 2 1 rfl)) ?_
    refine sq 17 rfl rfl (Y_load1 (B := some ⟨b, 0, none⟩) (i := 0) (cs := [.int .i64 A, .int .i64 B, .int .i64 C, .int .i64 D]) (v := .int .i64 A) k_sc_3 rfl rfl (hS3.cf (i := 0) rfl) rfl) ?_
    refine sq 18 rfl rfl (Y_fieldAddr (B := some ⟨b, 0, none⟩) (i := 0) (s := 0) k_fd_53_1_1_3 k_sz_3_1 rfl (hf.get 2 1 rfl)) ?_
    refine sq 19 rfl rfl (Y_load1 (B := some ⟨b, 0, none⟩) (i := 1) (cs := [.int .i64 A, .int .i64 B, .int .i64 C, .int .i64 D]) (v := .int .i64 B) k_sc_3 rfl rfl (hS3.cf (i := 0) rfl) rfl) ?_
    refine sq 20 rfl rfl (Y_fieldAddr (B := some ⟨b, 0, none⟩) (i := 0) (s := 0) k_fd_53_2_2_3 k_sz_3_1 rfl (hf.get 2 1 rfl)) ?_
    refine sq 21 rfl rfl (Y_load1 (B := some ⟨b, 0, none⟩) (i := 2) (cs := [.int .i64 A, .int .i64 B, .int .i64 C, .int .i64 D]) (v := .int .i64 C) k_sc_3 rfl rfl (hS3.cf (i := 0) rfl) rfl) ?_
    refine sq 22 rfl rfl (Y_buildS (zs := [.int .i64 0, .int .i64 0, .int .i64 0, .int .i64 0]) (vs := [(0, .int .i64 (IntKind.i64.wrap (-D))), (1, .int .i64 A), (2, .int .i64 B), (3, .int .i64 C)]) (cs := [.int .i64 (IntKind.i64.wrap (-D)), .int .i64 A, .int .i64 B, .int .i64 C]) k_pl_53 k_zero_53 rfl (mpc rfl (mpc rfl (mpc rfl (mpc rfl mpn)))) rfl) ?_
    refine ss0 rfl rfl (Ys_store (i := 0) (s := 4) (B := some ⟨b, 0, none⟩) (T' := 53) (v := .agg #[.int .i64 (IntKind.i64.wrap (-D)), .int .i64 A, .int .i64 B, .int .i64 C]) (vs := [.int .i64 (IntKind.i64.wrap (-D)), .int .i64 A, .int .i64 B, .int .i64 C]) (k := 0) (cs' := [.int .i64 (IntKind.i64.wrap (-D)), .int .i64 A, .int .i64 B, .int .i64 C]) hS3 k_sz_53_4 rfl (hf.get 2 1 rfl) rfl rfl rfl rfl rfl (Nat.le_of_ble_eq_true rfl) rfl rfl) ?_
    rintro _ w_2 ⟨rfl, hS4⟩
    have hS4 : ST w0 [] _ [⟨some ⟨b, 0, none⟩, 53, [.int .i64 (IntKind.i64.wrap (-D)), .int .i64 A, .int .i64 B, .int .i64 C], 4⟩, ⟨some ⟨b1, 0, none⟩, 53, [.int .i64 0, .int .i64 0, .int .i64 0, .int .i64 0], 4⟩] [] := hS4
    refine rw_nil ?_
    refine cw_region ?_
    refine sq 11 rfl rfl (Y_move (v := .int .i64 k_1) rfl (hf.get 1 0 rfl)) ?_
    refine sq 12 rfl rfl (Y_sub (k := .i64) (a := k_1) (b := 1) rfl rfl rfl) ?_
    refine sq 1 rfl rfl (Y_assign (v := .int .i64 (IntKind.i64.wrap (k_1 - 1))) rfl rfl) ?_
    refine rw_nil ?_
    obtain rfl := some_inj hF2
    exact ⟨k_3, Nat.lt_succ_self _, (IntKind.i64.wrap (k_1 - 1)), (IntKind.i64.wrap (-D)), A, B, C, (FF.cons rfl (FF.cons (hf.get 2 1 rfl) (FF.cons (hf.get 4 2 rfl) FF.nil))), (hS4.sel [0, 1] rfl rfl), hL1⟩
  · skip
    have hF3 := cf' hb hb1
    refine cw_exit rfl ?_
    obtain rfl := some_inj hF3
    obtain rfl := some_inj hL1
    refine cw_seq ?_
    refine cw_region ?_
    refine sq 23 rfl rfl (Y_loadA (B := some ⟨b, 0, none⟩) (i := 0) (cs := [.int .i64 A, .int .i64 B, .int .i64 C, .int .i64 D]) (vs := [.int .i64 A, .int .i64 B, .int .i64 C, .int .i64 D]) k_ag_53 k_sz_53_4 rfl (hf.get 2 1 rfl) (hS3.cf (i := 0) rfl) rfl rfl) ?_
    refine ss0 rfl rfl (Ys_store (i := 1) (s := 4) (B := some ⟨b1, 0, none⟩) (T' := 53) (v := .agg #[.int .i64 A, .int .i64 B, .int .i64 C, .int .i64 D]) (vs := [.int .i64 A, .int .i64 B, .int .i64 C, .int .i64 D]) (k := 0) (cs' := [.int .i64 A, .int .i64 B, .int .i64 C, .int .i64 D]) hS3 k_sz_53_4 rfl (hf.get 4 2 rfl) rfl rfl rfl rfl rfl (Nat.le_of_ble_eq_true rfl) rfl rfl) ?_
    rintro _ w_3 ⟨rfl, hS5⟩
    have hS5 : ST w0 [] _ [⟨some ⟨b, 0, none⟩, 53, [.int .i64 A, .int .i64 B, .int .i64 C, .int .i64 D], 4⟩, ⟨some ⟨b1, 0, none⟩, 53, [.int .i64 A, .int .i64 B, .int .i64 C, .int .i64 D], 4⟩] [] := hS5
    refine rw_nil ?_
    refine cw_ret ?_
    obtain rfl := some_inj hF1
    exact ret1 Try.results284 (v1 := .agg #[.int .i64 A, .int .i64 B, .int .i64 C, .int .i64 D]) (resAt_cellA (B := some ⟨b1, 0, none⟩) (i := 0) (cs := [.int .i64 A, .int .i64 B, .int .i64 C, .int .i64 D]) (vs := [.int .i64 A, .int .i64 B, .int .i64 C, .int .i64 D]) (hf.get 4 2 rfl) k_ag_53 k_sz_53_4 (hS5.cf (i := 1) rfl) rfl rfl) ⟨rfl, (ST.subR (R' := []) (hS5.sel [] rfl rfl) (fun _ h => by cases h))⟩

theorem c_spec_l2Power (k_ : Int)  (w0 : World)  (hS : ST w0 [] w0 [] []) {r_ : TDyadic} (hF : F_spec_l2Power k_ = some r_) :
    CV Try.prog 189 #[.int .i64 k_] w0 (fun v w' => v = .agg #[.int .i64 r_.Num.A, .int .i64 r_.Num.B, .int .i64 r_.Num.C, .int .i64 r_.Num.D, .int .i64 r_.Exp] ∧ ST w0 [] w' [] []) := by
  unfold F_spec_l2Power at hF
  refine cv_of_cw 7 Try.func189 rfl Try.ntmps189 rfl ?_
  refine cw_seq ?_
  refine cw_region ?_
  refine ss 2 rfl rfl (Ys_alloc (T := 55) (cs := [.int .i64 0, .int .i64 0, .int .i64 0, .int .i64 0, .int .i64 0]) (m := 5) hS k_zero_55 rfl rfl rfl) ?_
  rintro _ w_ ⟨b, rfl, hS1⟩
  refine rw_nil ?_
  refine cw_seq ?_
  refine cw_region ?_
  refine sq 3 rfl rfl (Y_buildS (zs := [.int .i64 0, .int .i64 0, .int .i64 0, .int .i64 0]) (vs := [(0, .int .i64 1)]) (cs := [.int .i64 1, .int .i64 0, .int .i64 0, .int .i64 0]) k_pl_53 k_zero_53 rfl (mpc rfl mpn) rfl) ?_
  refine sq 4 rfl rfl (Y_move (v := .int .i64 k_) rfl rfl) ?_
  obtain ⟨r_1, hc, hF⟩ := bind_inv hF
  refine sc 5 rfl rfl (Yc_func (g := 284) (vs := [.agg #[.int .i64 1, .int .i64 0, .int .i64 0, .int .i64 0], .int .i64 k_]) k_call_284 rfl (mc rfl (mc rfl mn)) (c_spec_l1Turn (TRing.mk 1 0 0 0) k_ _  (hS1.inn0 [] rfl) hc)) ?_
  rintro _ w_1 ⟨rfl, hd⟩
  have hS2 := hS1.out00 hd
  refine sq 6 rfl rfl (Y_buildS (zs := [.int .i64 0, .int .i64 0, .int .i64 0, .int .i64 0, .int .i64 0]) (vs := [(0, .agg #[.int .i64 r_1.A, .int .i64 r_1.B, .int .i64 r_1.C, .int .i64 r_1.D])]) (cs := [.int .i64 r_1.A, .int .i64 r_1.B, .int .i64 r_1.C, .int .i64 r_1.D, .int .i64 0]) k_pl_55 k_zero_55 rfl (mpc rfl mpn) rfl) ?_
  refine ss0 rfl rfl (Ys_store (i := 0) (s := 5) (B := some ⟨b, 0, none⟩) (T' := 55) (v := .agg #[.int .i64 r_1.A, .int .i64 r_1.B, .int .i64 r_1.C, .int .i64 r_1.D, .int .i64 0]) (vs := [.int .i64 r_1.A, .int .i64 r_1.B, .int .i64 r_1.C, .int .i64 r_1.D, .int .i64 0]) (k := 0) (cs' := [.int .i64 r_1.A, .int .i64 r_1.B, .int .i64 r_1.C, .int .i64 r_1.D, .int .i64 0]) hS2 k_sz_55_5 rfl rfl rfl rfl rfl rfl rfl (Nat.le_of_ble_eq_true rfl) rfl rfl) ?_
  rintro _ w_2 ⟨rfl, hS3⟩
  refine rw_nil ?_
  refine cw_ret ?_
  obtain rfl := some_inj hF
  exact ret1 Try.results189 (v1 := .agg #[.int .i64 r_1.A, .int .i64 r_1.B, .int .i64 r_1.C, .int .i64 r_1.D, .int .i64 0]) (resAt_cellA (B := some ⟨b, 0, none⟩) (i := 0) (cs := [.int .i64 r_1.A, .int .i64 r_1.B, .int .i64 r_1.C, .int .i64 r_1.D, .int .i64 0]) (vs := [.int .i64 r_1.A, .int .i64 r_1.B, .int .i64 r_1.C, .int .i64 r_1.D, .int .i64 0]) rfl k_ag_55 k_sz_55_5 (hS3.cf (i := 0) rfl) rfl rfl) ⟨rfl, (ST.subR (R' := []) (hS3.sel [] rfl rfl) (fun _ h => by cases h))⟩

theorem c_spec_l9Unit   (w0 : World)  (hS : ST w0 [] w0 [] []) {r_ : TBloch} (hF : F_spec_l9Unit = some r_) :
    CV Try.prog 188 #[] w0 (fun v w' => ∃ (B : Option Addr) (c : Nat), v = .agg #[.slice B r_.Cells.length c] ∧ ST w0 [] w' [⟨B, 55, (r_.Cells.flatMap enc_Dyadic), c * 5⟩] []) := by
  unfold F_spec_l9Unit at hF
  refine cv_of_cw 16 Try.func188 rfl Try.ntmps188 rfl ?_
  refine cw_seq ?_
  refine cw_region ?_
  refine ss 0 rfl rfl (Ys_alloc (T := 30) (cs := [.slice none 0 0]) (m := 1) hS k_zero_30 rfl rfl rfl) ?_
  rintro _ w_ ⟨b, rfl, hS1⟩
  refine rw_nil ?_
  refine cw_seq ?_
  refine cw_region ?_
  refine ss 3 rfl rfl (Ys_make (s := 5) (by' := 40) (nn := 9) (a := 9) (b := 9) (cs := ((List.replicate 9 (TDyadic.mk (TRing.mk 0 0 0 0) 0)).flatMap enc_Dyadic)) hS1 k_sl_28_55 k_sz_55_5 k_by_55_40 k_zero_55 rfl rfl rfl rfl (show (0 : Int) ≤ 9 ∧ 9 ≤ 1099511627776 by decide).1 rfl (by have := (show (0 : Int) ≤ 9 ∧ 9 ≤ 1099511627776 by decide); omega) (by have := (show (0 : Int) ≤ 9 ∧ 9 ≤ 1099511627776 by decide); omega) (by omega) (fm_rep (enc := enc_Dyadic) (d := (TDyadic.mk (TRing.mk 0 0 0 0) 0)) rfl _)) ?_
  rintro _ w_1 ⟨b1, rfl, hS2⟩
  have hS2 : ST w0 [] _ [⟨some ⟨b, 0, none⟩, 30, [.slice none 0 0], 1⟩, ⟨some ⟨b1, 0, none⟩, 55, ((List.replicate 9 (TDyadic.mk (TRing.mk 0 0 0 0) 0)).flatMap enc_Dyadic), 9 * 5⟩] [] := hS2
  refine sq 4 rfl rfl (Y_buildS (zs := [.slice none 0 0]) (vs := [(0, .slice (some ⟨b1, 0, none⟩) 9 9)]) (cs := [.slice (some ⟨b1, 0, none⟩) 9 9]) k_pl_30 k_zero_30 rfl (mpc rfl mpn) rfl) ?_
  refine ss 1 rfl rfl (Ys_alloc (T := 30) (cs := [.slice none 0 0]) (m := 1) hS2 k_zero_30 rfl rfl rfl) ?_
  rintro _ w_2 ⟨b2, rfl, hS3⟩
  have hS3 : ST w0 [] _ [⟨some ⟨b, 0, none⟩, 30, [.slice none 0 0], 1⟩, ⟨some ⟨b1, 0, none⟩, 55, ((List.replicate 9 (TDyadic.mk (TRing.mk 0 0 0 0) 0)).flatMap enc_Dyadic), 9 * 5⟩, ⟨some ⟨b2, 0, none⟩, 30, [.slice none 0 0], 1⟩] [] := hS3
  refine ss0 rfl rfl (Ys_store (i := 2) (s := 1) (B := some ⟨b2, 0, none⟩) (T' := 30) (v := .agg #[.slice (some ⟨b1, 0, none⟩) 9 9]) (vs := [.slice (some ⟨b1, 0, none⟩) 9 9]) (k := 0) (cs' := [.slice (some ⟨b1, 0, none⟩) 9 9]) hS3 k_sz_30_1 rfl rfl rfl rfl rfl rfl rfl (Nat.le_of_ble_eq_true rfl) rfl rfl) ?_
  rintro _ w_3 ⟨rfl, hS4⟩
  have hS4 : ST w0 [] _ [⟨some ⟨b, 0, none⟩, 30, [.slice none 0 0], 1⟩, ⟨some ⟨b1, 0, none⟩, 55, ((List.replicate 9 (TDyadic.mk (TRing.mk 0 0 0 0) 0)).flatMap enc_Dyadic), 9 * 5⟩, ⟨some ⟨b2, 0, none⟩, 30, [.slice (some ⟨b1, 0, none⟩) 9 9], 1⟩] [] := hS4
  refine rw_nil ?_
  refine cw_seq ?_
  refine cw_seq ?_
  refine cw_region ?_
  refine sq 2 rfl rfl (Y_assign (v := .int .i64 0) rfl rfl) ?_
  refine rw_nil ?_
  obtain ⟨z, hz, hF1⟩ := bind_inv hF
  refine cw_block ?_
  refine cw_loop (fun k f w => ∃ (i1 : Nat) (Cells : List TDyadic), FF f [(0, pt (some ⟨b, 0, none⟩) 0), (1, pt (some ⟨b2, 0, none⟩) 0), (2, .int .i64 (i1 : Int))] ∧ Cells.length = 9 ∧ ST w0 [] w [⟨some ⟨b, 0, none⟩, 30, [.slice none 0 0], 1⟩, ⟨some ⟨b2, 0, none⟩, 30, [.slice (some ⟨b1, 0, none⟩) 9 9], 1⟩, ⟨some ⟨b1, 0, none⟩, 55, (Cells.flatMap enc_Dyadic), 9 * 5⟩] [] ∧ i1 + k = 3 ∧ forN F_spec_l9Unit_l1 k i1 Cells = some z) 3 ⟨0, (List.replicate 9 (TDyadic.mk (TRing.mk 0 0 0 0) 0)), (FF.cons rfl (FF.cons rfl (FF.cons rfl FF.nil))), List.length_replicate, (hS4.sel [0, 2, 1] rfl rfl), Nat.zero_add _, hz⟩ ?_
  rintro k_ f w ⟨i1, Cells, hf, hl, hS5, hik, hL⟩
  refine cw_seq ?_
  refine cw_seq ?_
  refine cw_region ?_
  refine sq 5 rfl rfl (Y_move (v := .int .i64 (i1 : Int)) rfl (hf.get 2 2 rfl)) ?_
  refine sq 6 rfl rfl (Y_lt (k := .i64) (a := (i1 : Int)) (b := 3) rfl rfl rfl) ?_
  refine rw_nil ?_
  refine cw_cond (b := (decide ((i1 : Int) < 3))) rfl (fun hlt => ?_) (fun hlt => ?_)
  · skip
    have hlt1 : i1 < 3 := by have h := of_decide_eq_true hlt; omega
    obtain ⟨k_1, rfl⟩ : ∃ k2, k_ = k2 + 1 := ⟨k_ - 1, by omega⟩
    obtain ⟨y, hb, hL1⟩ := forN_go hL
    unfold F_spec_l9Unit_l1 at hb
    refine cw_skip ?_
    refine cw_seq ?_
    refine cw_block ?_
    obtain ⟨r_1, hc, hb⟩ := bind_inv hb
    obtain ⟨x, hx, hb⟩ := bind_inv hb
    refine ra_start (ST.sel hS5 [0, 1] rfl rfl).fn (by kernel_rfl) ?_
    have hS7 := hS5.drew
    refine ra_q 0 9 (v := pt (some ⟨b2, 0, none⟩) 0) rfl rfl rfl (by kernel_rfl) (by kernel_rfl) (by kernel_rfl) (ST.sel hS7 [0, 1] rfl rfl) (fun w' hw' => (Y_fieldAddr (B := some ⟨b2, 0, none⟩) (i := 0) (s := 0) k_fd_30_0_0_28 k_sz_28_1 rfl (hf.get 1 1 rfl))) ?_
    refine ra_q 1 10 (v := .slice (some ⟨b1, 0, none⟩) 9 9) rfl rfl rfl (by kernel_rfl) (by kernel_rfl) (by kernel_rfl) (ST.sel hS7 [0, 1] rfl rfl) (fun w' hw' => (Y_load1 (B := some ⟨b2, 0, none⟩) (i := 0) (cs := [.slice (some ⟨b1, 0, none⟩) 9 9]) (v := .slice (some ⟨b1, 0, none⟩) 9 9) k_sc_28 rfl rfl (ST.cf hw' (i := 1) rfl) rfl)) ?_
    refine ra_q 2 11 (v := .int .i64 (i1 : Int)) rfl rfl rfl (by kernel_rfl) (by kernel_rfl) (by kernel_rfl) (ST.sel hS7 [0, 1] rfl rfl) (fun w' hw' => (Y_move (v := .int .i64 (i1 : Int)) rfl (hf.get 2 2 rfl))) ?_
    refine ra_q 3 12 (v := .int .i64 (IntKind.i64.wrap (4 * (i1 : Int)))) rfl rfl rfl (by kernel_rfl) (by kernel_rfl) (by kernel_rfl) (ST.sel hS7 [0, 1] rfl rfl) (fun w' hw' => (Y_mul (k := .i64) (a := 4) (b := (i1 : Int)) rfl rfl rfl)) ?_
    refine ra_all (rs := [4]) (by kernel_rfl) rfl ?_
    refine ra_c 13 (i := 4) rfl rfl rfl (Yc_func (g := 189) (vs := [.int .i64 0]) k_call_189 rfl (mc rfl mn) (c_spec_l2Power 0 _  (hS7.inn0 [] rfl) hc)) ?_ ?_
    · rintro _ w_4 ⟨rfl, hd⟩
      have hS8 := hS7.out00 hd
      have hS8 : ST w0 [] _ [⟨some ⟨b, 0, none⟩, 30, [.slice none 0 0], 1⟩, ⟨some ⟨b2, 0, none⟩, 30, [.slice (some ⟨b1, 0, none⟩) 9 9], 1⟩, ⟨some ⟨b1, 0, none⟩, 55, (Cells.flatMap enc_Dyadic), 9 * 5⟩] [] := hS8
      refine ⟨(ST.sel hS8 [0, 1] rfl rfl), ?_⟩
      refine ra_all (rs := [5]) (by kernel_rfl) rfl ?_
      refine ra_y 14 (i := 5) (v := pt (some ⟨b1, 0, none⟩) ((IntKind.i64.wrap (4 * (i1 : Int))).toNat * 5)) rfl rfl rfl (Y_index (B := some ⟨b1, 0, none⟩) (m := 9) (c := 9) (k := .i64) (i := (IntKind.i64.wrap (4 * (i1 : Int)))) k_sl_28_55 k_sz_55_5 rfl rfl rfl (gi_isSome enc_Dyadic_len rfl (hS8.cf (i := 2) rfl) hx) (getI_nn hx) (getI_ltI hx hl)) (ST.sel hS8 [0, 1] rfl rfl) ?_ ?_
      · skip
        refine ra_all (rs := [6]) (by kernel_rfl) rfl ?_
        refine ra_s0 (i := 6) rfl rfl rfl (Ys_store (i := 2) (s := 5) (B := some ⟨b1, 0, none⟩) (T' := 55) (v := .agg #[.int .i64 r_1.Num.A, .int .i64 r_1.Num.B, .int .i64 r_1.Num.C, .int .i64 r_1.Num.D, .int .i64 r_1.Exp]) (vs := [.int .i64 r_1.Num.A, .int .i64 r_1.Num.B, .int .i64 r_1.Num.C, .int .i64 r_1.Num.D, .int .i64 r_1.Exp]) (k := (IntKind.i64.wrap (4 * (i1 : Int))).toNat * 5) (cs' := ((Cells.set (IntKind.i64.wrap (4 * (i1 : Int))).toNat r_1).flatMap enc_Dyadic)) hS8 k_sz_55_5 rfl rfl rfl rfl rfl rfl rfl (gi_fit0 enc_Dyadic_len hx) (gi_set enc_Dyadic_len hx r_1 rfl) rfl) ?_ ?_
        · rintro _ w_5 ⟨rfl, hS9⟩
          have hS9 : ST w0 [] _ [⟨some ⟨b, 0, none⟩, 30, [.slice none 0 0], 1⟩, ⟨some ⟨b2, 0, none⟩, 30, [.slice (some ⟨b1, 0, none⟩) 9 9], 1⟩, ⟨some ⟨b1, 0, none⟩, 55, ((Cells.set (IntKind.i64.wrap (4 * (i1 : Int))).toNat r_1).flatMap enc_Dyadic), 9 * 5⟩] [] := hS9
          refine ⟨(ST.sel hS9 [0, 1] rfl rfl), ?_⟩
          refine ra_done (by kernel_rfl) ?_
          refine cw_region ?_
          refine sq 7 rfl rfl (Y_move (v := .int .i64 (i1 : Int)) rfl (hf.get 2 2 rfl)) ?_
          refine sq 8 rfl rfl (Y_add (k := .i64) (a := (i1 : Int)) (b := 1) rfl rfl rfl) ?_
          refine sq 2 rfl rfl (Y_assign (v := .int .i64 (IntKind.i64.wrap ((i1 : Int) + 1))) rfl rfl) ?_
          refine rw_nil ?_
          obtain rfl := some_inj hb
          exact ⟨k_1, Nat.lt_succ_self _, i1 + 1, (Cells.set (IntKind.i64.wrap (4 * (i1 : Int))).toNat r_1), (FF.cons (hf.get 0 0 rfl) (FF.cons (hf.get 1 1 rfl) (FF.cons (congrArg (Value.int .i64) (wr_succ hlt1 (show 3 ≤ 9223372036854775807 by decide))) FF.nil))), (set_len _ _ _ hl), (hS9.sel [0, 1, 2] rfl rfl), (by omega), hL1⟩
        exact allR_nil
      exact allR_nil
    exact allR_nil
  · skip
    obtain rfl : k_ = 0 := by have h := of_decide_eq_false hlt; omega
    refine cw_exit rfl ?_
    obtain rfl := some_inj hL
    refine cw_seq ?_
    refine cw_region ?_
    refine sq 15 rfl rfl (Y_loadA (B := some ⟨b2, 0, none⟩) (i := 0) (cs := [.slice (some ⟨b1, 0, none⟩) 9 9]) (vs := [.slice (some ⟨b1, 0, none⟩) 9 9]) k_ag_30 k_sz_30_1 rfl (hf.get 1 1 rfl) (hS5.cf (i := 1) rfl) rfl rfl) ?_
    refine ss0 rfl rfl (Ys_store (i := 0) (s := 1) (B := some ⟨b, 0, none⟩) (T' := 30) (v := .agg #[.slice (some ⟨b1, 0, none⟩) 9 9]) (vs := [.slice (some ⟨b1, 0, none⟩) 9 9]) (k := 0) (cs' := [.slice (some ⟨b1, 0, none⟩) 9 9]) hS5 k_sz_30_1 rfl (hf.get 0 0 rfl) rfl rfl rfl rfl rfl (Nat.le_of_ble_eq_true rfl) rfl rfl) ?_
    rintro _ w_6 ⟨rfl, hS10⟩
    have hS10 : ST w0 [] _ [⟨some ⟨b, 0, none⟩, 30, [.slice (some ⟨b1, 0, none⟩) 9 9], 1⟩, ⟨some ⟨b2, 0, none⟩, 30, [.slice (some ⟨b1, 0, none⟩) 9 9], 1⟩, ⟨some ⟨b1, 0, none⟩, 55, (Cells.flatMap enc_Dyadic), 9 * 5⟩] [] := hS10
    refine rw_nil ?_
    refine cw_ret ?_
    obtain rfl := some_inj hF1
    exact ret1 Try.results188 (v1 := .agg #[.slice (some ⟨b1, 0, none⟩) 9 9]) (resAt_cellA (B := some ⟨b, 0, none⟩) (i := 0) (cs := [.slice (some ⟨b1, 0, none⟩) 9 9]) (vs := [.slice (some ⟨b1, 0, none⟩) 9 9]) (hf.get 0 0 rfl) k_ag_30 k_sz_30_1 (hS10.cf (i := 0) rfl) rfl rfl) ⟨some ⟨b1, 0, none⟩, 9, (by simp [hl]), (ST.subR (R' := []) (hS10.sel [2] rfl rfl) (fun _ h => by cases h))⟩

theorem c_spec_l9Valid (b : TBloch) (B : Option Addr) (c n : Nat) (w0 : World) (hn : b.Cells.length = n) (hS : ST w0 [] w0 [] [⟨B, (b.Cells.flatMap enc_Dyadic)⟩]) {r_ : Bool} (hF : F_spec_l9Valid b = some r_) :
    CV Try.prog 82 #[.agg #[.slice B n c]] w0 (fun v w' => v = .bool r_ ∧ ST w0 [] w' [] []) := by
  subst hn
  unfold F_spec_l9Valid at hF
  refine cv_of_cw 95 Try.func82 rfl Try.ntmps82 rfl ?_
  refine cw_seq ?_
  refine cw_region ?_
  refine ss 1 rfl rfl (Ys_box (T := 30) (v := .agg #[.slice B b.Cells.length c]) (cs := [.slice B b.Cells.length c]) (m := 1) hS rfl rfl rfl rfl) ?_
  rintro _ w_ ⟨b1, rfl, hS1⟩
  refine sq 2 rfl rfl (Y_assign (v := .bool false) rfl rfl) ?_
  refine rw_nil ?_
  refine cw_seq ?_
  refine cw_seq ?_
  refine cw_region ?_
  refine sq 8 rfl rfl (Y_fieldAddr (B := some ⟨b1, 0, none⟩) (i := 0) (s := 0) k_fd_30_0_0_28 k_sz_28_1 rfl rfl) ?_
  refine sq 9 rfl rfl (Y_load1 (B := some ⟨b1, 0, none⟩) (i := 0) (cs := [.slice B b.Cells.length c]) (v := .slice B b.Cells.length c) k_sc_28 rfl rfl (hS1.cf (i := 0) rfl) rfl) ?_
  refine sq 10 rfl rfl (Y_len (B := B) (m := b.Cells.length) (c := c) k_sl_28_55 rfl rfl) ?_
  refine sq 11 rfl rfl (Y_ne (k := .i64) (a := (b.Cells.length : Int)) (b := 9) rfl rfl rfl) ?_
  refine rw_nil ?_
  refine cw_cond (b := ((b.Cells.length : Int) != 9)) rfl (fun hb => ?_) (fun hb => ?_)
  · skip
    have hF1 := ct hF hb
    refine cw_seq ?_
    refine cw_region ?_
    refine sq 2 rfl rfl (Y_assign (v := .bool false) rfl rfl) ?_
    refine rw_nil ?_
    refine cw_ret ?_
    obtain rfl := some_inj hF1
    exact ret1 Try.results82 (v1 := .bool false) (resAt_tmp rfl) ⟨rfl, (ST.subR (R' := []) (hS1.sel [] rfl rfl) (fun _ h => by cases h))⟩
  · skip
    have hF2 := cf' hF hb
    refine cw_skip ?_
    refine cw_seq ?_
    refine cw_seq ?_
    refine cw_region ?_
    refine sq 12 rfl rfl (Y_fieldAddr (B := some ⟨b1, 0, none⟩) (i := 0) (s := 0) k_fd_30_0_0_28 k_sz_28_1 rfl rfl) ?_
    refine sq 13 rfl rfl (Y_load1 (B := some ⟨b1, 0, none⟩) (i := 0) (cs := [.slice B b.Cells.length c]) (v := .slice B b.Cells.length c) k_sc_28 rfl rfl (hS1.cf (i := 0) rfl) rfl) ?_
    refine sq 14 rfl rfl (Y_len (B := B) (m := b.Cells.length) (c := c) k_sl_28_55 rfl rfl) ?_
    refine sq 15 rfl rfl (Y_move (v := .int .i64 0) rfl rfl) ?_
    refine rw_nil ?_
    obtain ⟨hN, hF2⟩ := chk_inv hF2
    obtain ⟨z, hz, hF3⟩ := bind_inv hF2
    refine cw_block ?_
    refine cw_loop (fun k f w => ∃ (i : Nat), FF f [(1, pt (some ⟨b1, 0, none⟩) 0), (13, .slice B b.Cells.length c), (14, .int .i64 (b.Cells.length : Int)), (15, .int .i64 (i : Int))] ∧ ST w0 [] w [⟨some ⟨b1, 0, none⟩, 30, [.slice B b.Cells.length c], 1⟩] [⟨B, (b.Cells.flatMap enc_Dyadic)⟩] ∧ i + k = b.Cells.length ∧ forX (F_spec_l9Valid_l1 b) k i () = some z) b.Cells.length ⟨0, (FF.cons rfl (FF.cons rfl (FF.cons rfl (FF.cons rfl FF.nil)))), (hS1.sel [0] rfl rfl), Nat.zero_add _, hz⟩ ?_
    rintro k_ f w ⟨i, hf, hS2, hik, hL⟩
    refine cw_seq ?_
    refine cw_region ?_
    refine sq 16 rfl rfl (Y_lt (k := .i64) (a := (i : Int)) (b := (b.Cells.length : Int)) rfl (hf.get 15 3 rfl) (hf.get 14 2 rfl)) ?_
    refine rw_nil ?_
    refine cw_seq ?_
    refine cw_cond (b := (decide ((i : Int) < (b.Cells.length : Int)))) rfl (fun hlt => ?_) (fun hlt => ?_)
    · skip
      have hlt1 : i < b.Cells.length := by have h := of_decide_eq_true hlt; omega
      obtain ⟨k_1, rfl⟩ : ∃ k2, k_ = k2 + 1 := ⟨k_ - 1, by omega⟩
      obtain ⟨y, hb1, hL1⟩ := forX_go hL
      unfold F_spec_l9Valid_l1 at hb1
      refine cw_skip ?_
      refine cw_seq ?_
      refine cw_block ?_
      refine cw_seq ?_
      refine cw_region ?_
      obtain ⟨x, hx, hb1⟩ := bind_inv hb1
      refine sq 17 rfl rfl (Y_index (B := B) (m := b.Cells.length) (c := c) (k := .i64) (i := (i : Int)) k_sl_28_55 k_sz_55_5 rfl (hf.get 13 1 rfl) (hf.get 15 3 rfl) (gi_isSome enc_Dyadic_len rfl (hS2.rf (i := 0) rfl) hx) (getI_nn hx) (getI_ltI hx rfl)) ?_
      refine sq 18 rfl rfl (Y_loadA (B := B) (i := (i : Int).toNat * 5) (cs := (b.Cells.flatMap enc_Dyadic)) (vs := [.int .i64 x.Num.A, .int .i64 x.Num.B, .int .i64 x.Num.C, .int .i64 x.Num.D, .int .i64 x.Exp]) k_ag_55 k_sz_55_5 rfl rfl (hS2.rf (i := 0) rfl) (enc_Dyadic_len x) (gi_seg enc_Dyadic_len hx)) ?_
      refine ss 4 rfl rfl (Ys_alloc (T := 55) (cs := [.int .i64 0, .int .i64 0, .int .i64 0, .int .i64 0, .int .i64 0]) (m := 5) hS2 k_zero_55 rfl rfl rfl) ?_
      rintro _ w_1 ⟨b2, rfl, hS3⟩
      have hS3 : ST w0 [] _ [⟨some ⟨b1, 0, none⟩, 30, [.slice B b.Cells.length c], 1⟩, ⟨some ⟨b2, 0, none⟩, 55, [.int .i64 0, .int .i64 0, .int .i64 0, .int .i64 0, .int .i64 0], 5⟩] [⟨B, (b.Cells.flatMap enc_Dyadic)⟩] := hS3
      refine ss0 rfl rfl (Ys_store (i := 1) (s := 5) (B := some ⟨b2, 0, none⟩) (T' := 55) (v := .agg #[.int .i64 x.Num.A, .int .i64 x.Num.B, .int .i64 x.Num.C, .int .i64 x.Num.D, .int .i64 x.Exp]) (vs := [.int .i64 x.Num.A, .int .i64 x.Num.B, .int .i64 x.Num.C, .int .i64 x.Num.D, .int .i64 x.Exp]) (k := 0) (cs' := [.int .i64 x.Num.A, .int .i64 x.Num.B, .int .i64 x.Num.C, .int .i64 x.Num.D, .int .i64 x.Exp]) hS3 k_sz_55_5 rfl rfl rfl rfl rfl rfl rfl (Nat.le_of_ble_eq_true rfl) rfl rfl) ?_
      rintro _ w_2 ⟨rfl, hS4⟩
      have hS4 : ST w0 [] _ [⟨some ⟨b1, 0, none⟩, 30, [.slice B b.Cells.length c], 1⟩, ⟨some ⟨b2, 0, none⟩, 55, [.int .i64 x.Num.A, .int .i64 x.Num.B, .int .i64 x.Num.C, .int .i64 x.Num.D, .int .i64 x.Exp], 5⟩] [⟨B, (b.Cells.flatMap enc_Dyadic)⟩] := hS4
      refine rw_nil ?_
      refine cw_seq ?_
      refine cw_region ?_
      refine sq 19 rfl rfl (Y_loadA (B := some ⟨b2, 0, none⟩) (i := 0) (cs := [.int .i64 x.Num.A, .int .i64 x.Num.B, .int .i64 x.Num.C, .int .i64 x.Num.D, .int .i64 x.Exp]) (vs := [.int .i64 x.Num.A, .int .i64 x.Num.B, .int .i64 x.Num.C, .int .i64 x.Num.D, .int .i64 x.Exp]) k_ag_55 k_sz_55_5 rfl rfl (hS4.cf (i := 1) rfl) rfl rfl) ?_
      obtain ⟨r_1, hc, hb1⟩ := bind_inv hb1
      refine sc 20 rfl rfl (Yc_func (g := 180) (vs := [.agg #[.int .i64 x.Num.A, .int .i64 x.Num.B, .int .i64 x.Num.C, .int .i64 x.Num.D, .int .i64 x.Exp]]) k_call_180 rfl (mc rfl mn) (c_spec_l2Good x _  (hS4.inn0 [] rfl) hc)) ?_
      rintro _ w_3 ⟨rfl, hd⟩
      have hS5 := hS4.out00 hd
      have hS5 : ST w0 [] _ [⟨some ⟨b1, 0, none⟩, 30, [.slice B b.Cells.length c], 1⟩, ⟨some ⟨b2, 0, none⟩, 55, [.int .i64 x.Num.A, .int .i64 x.Num.B, .int .i64 x.Num.C, .int .i64 x.Num.D, .int .i64 x.Exp], 5⟩] [⟨B, (b.Cells.flatMap enc_Dyadic)⟩] := hS5
      refine sq 21 rfl rfl (Y_not (p := r_1) rfl rfl) ?_
      refine sq 22 rfl rfl (Y_move (v := .bool (!r_1)) rfl rfl) ?_
      refine sgq 23 (B := (!(!r_1))) (v := pt (some ⟨b2, 0, none⟩) 0) rfl rfl (wt_f (gd_of (t := 22) (by kernel_rfl) rfl)) (fun hg => (Y_fieldAddr (B := some ⟨b2, 0, none⟩) (i := 0) (s := 3) k_fd_55_0_0_53 k_sz_53_4 rfl rfl)) ?_
      refine sgq 24 (B := (!(!r_1))) (v := pt (some ⟨b2, 0, none⟩) 2) rfl rfl (wt_f (gd_of (t := 22) (by kernel_rfl) rfl)) (fun hg1 => (Y_fieldAddr (B := some ⟨b2, 0, none⟩) (i := 0) (s := 0) k_fd_53_2_2_3 k_sz_3_1 rfl (gv_of (B := (!(!r_1))) (v := pt (some ⟨b2, 0, none⟩) 0) hg1))) ?_
      refine sgq 25 (B := (!(!r_1))) (v := .int .i64 x.Num.C) rfl rfl (wt_f (gd_of (t := 22) (by kernel_rfl) rfl)) (fun hg2 => (Y_load1 (B := some ⟨b2, 0, none⟩) (i := 2) (cs := [.int .i64 x.Num.A, .int .i64 x.Num.B, .int .i64 x.Num.C, .int .i64 x.Num.D, .int .i64 x.Exp]) (v := .int .i64 x.Num.C) k_sc_3 rfl (gv_of (B := (!(!r_1))) (v := pt (some ⟨b2, 0, none⟩) 2) hg2) (hS5.cf (i := 1) rfl) rfl)) ?_
      refine sgq 26 (B := (!(!r_1))) (v := .bool (x.Num.C != 0)) rfl rfl (wt_f (gd_of (t := 22) (by kernel_rfl) rfl)) (fun hg3 => (Y_ne (k := .i64) (a := x.Num.C) (b := 0) rfl (gv_of (B := (!(!r_1))) (v := .int .i64 x.Num.C) hg3) rfl)) ?_
      refine sq 27 rfl rfl (Y_or (b := (!r_1)) (z := (x.Num.C != 0)) rfl rfl rfl rfl) ?_
      refine sq 28 rfl rfl (Y_move (v := .bool ((!r_1) || (x.Num.C != 0))) rfl rfl) ?_
      refine sgq 29 (B := (!((!r_1) || (x.Num.C != 0)))) (v := pt (some ⟨b2, 0, none⟩) 0) rfl rfl (wt_f (gd_of (t := 28) (by kernel_rfl) rfl)) (fun hg4 => (Y_fieldAddr (B := some ⟨b2, 0, none⟩) (i := 0) (s := 3) k_fd_55_0_0_53 k_sz_53_4 rfl rfl)) ?_
      refine sgq 30 (B := (!((!r_1) || (x.Num.C != 0)))) (v := pt (some ⟨b2, 0, none⟩) 3) rfl rfl (wt_f (gd_of (t := 28) (by kernel_rfl) rfl)) (fun hg5 => (Y_fieldAddr (B := some ⟨b2, 0, none⟩) (i := 0) (s := 0) k_fd_53_3_3_3 k_sz_3_1 rfl (gv_of (B := (!((!r_1) || (x.Num.C != 0)))) (v := pt (some ⟨b2, 0, none⟩) 0) hg5))) ?_
      refine sgq 31 (B := (!((!r_1) || (x.Num.C != 0)))) (v := .int .i64 x.Num.D) rfl rfl (wt_f (gd_of (t := 28) (by kernel_rfl) rfl)) (fun hg6 => (Y_load1 (B := some ⟨b2, 0, none⟩) (i := 3) (cs := [.int .i64 x.Num.A, .int .i64 x.Num.B, .int .i64 x.Num.C, .int .i64 x.Num.D, .int .i64 x.Exp]) (v := .int .i64 x.Num.D) k_sc_3 rfl (gv_of (B := (!((!r_1) || (x.Num.C != 0)))) (v := pt (some ⟨b2, 0, none⟩) 3) hg6) (hS5.cf (i := 1) rfl) rfl)) ?_
      refine sgq 32 (B := (!((!r_1) || (x.Num.C != 0)))) (v := pt (some ⟨b2, 0, none⟩) 0) rfl rfl (wt_f (gd_of (t := 28) (by kernel_rfl) rfl)) (fun hg7 => (Y_fieldAddr (B := some ⟨b2, 0, none⟩) (i := 0) (s := 3) k_fd_55_0_0_53 k_sz_53_4 rfl rfl)) ?_
      refine sgq 33 (B := (!((!r_1) || (x.Num.C != 0)))) (v := pt (some ⟨b2, 0, none⟩) 1) rfl rfl (wt_f (gd_of (t := 28) (by kernel_rfl) rfl)) (fun hg8 => (Y_fieldAddr (B := some ⟨b2, 0, none⟩) (i := 0) (s := 0) k_fd_53_1_1_3 k_sz_3_1 rfl (gv_of (B := (!((!r_1) || (x.Num.C != 0)))) (v := pt (some ⟨b2, 0, none⟩) 0) hg8))) ?_
      refine sgq 34 (B := (!((!r_1) || (x.Num.C != 0)))) (v := .int .i64 x.Num.B) rfl rfl (wt_f (gd_of (t := 28) (by kernel_rfl) rfl)) (fun hg9 => (Y_load1 (B := some ⟨b2, 0, none⟩) (i := 1) (cs := [.int .i64 x.Num.A, .int .i64 x.Num.B, .int .i64 x.Num.C, .int .i64 x.Num.D, .int .i64 x.Exp]) (v := .int .i64 x.Num.B) k_sc_3 rfl (gv_of (B := (!((!r_1) || (x.Num.C != 0)))) (v := pt (some ⟨b2, 0, none⟩) 1) hg9) (hS5.cf (i := 1) rfl) rfl)) ?_
      refine sgq 35 (B := (!((!r_1) || (x.Num.C != 0)))) (v := .int .i64 (IntKind.i64.wrap (-x.Num.B))) rfl rfl (wt_f (gd_of (t := 28) (by kernel_rfl) rfl)) (fun hg10 => (Y_neg (k := .i64) (a := x.Num.B) rfl (gv_of (B := (!((!r_1) || (x.Num.C != 0)))) (v := .int .i64 x.Num.B) hg10))) ?_
      refine sgq 36 (B := (!((!r_1) || (x.Num.C != 0)))) (v := .bool (x.Num.D != (IntKind.i64.wrap (-x.Num.B)))) rfl rfl (wt_f (gd_of (t := 28) (by kernel_rfl) rfl)) (fun hg11 => (Y_ne (k := .i64) (a := x.Num.D) (b := (IntKind.i64.wrap (-x.Num.B))) rfl (gv_of (B := (!((!r_1) || (x.Num.C != 0)))) (v := .int .i64 x.Num.D) hg11) (gv_of (B := (!((!r_1) || (x.Num.C != 0)))) (v := .int .i64 (IntKind.i64.wrap (-x.Num.B))) hg11))) ?_
      refine sq 37 rfl rfl (Y_or (b := ((!r_1) || (x.Num.C != 0))) (z := (x.Num.D != (IntKind.i64.wrap (-x.Num.B)))) rfl rfl rfl rfl) ?_
      refine rw_nil ?_
      refine cw_cond (b := (((!r_1) || (x.Num.C != 0)) || (x.Num.D != (IntKind.i64.wrap (-x.Num.B))))) rfl (fun hb2 => ?_) (fun hb2 => ?_)
      · skip
        have hF4 := ct hb1 hb2
        refine cw_seq ?_
        refine cw_region ?_
        refine sq 2 rfl rfl (Y_assign (v := .bool false) rfl rfl) ?_
        refine rw_nil ?_
        refine cw_ret ?_
        obtain rfl := some_inj hF4
        obtain rfl := some_inj hL1
        obtain rfl := some_inj hF3
        exact ret1 Try.results82 (v1 := .bool false) (resAt_tmp rfl) ⟨rfl, (ST.subR (R' := []) (hS5.sel [] rfl rfl) (fun _ h => by cases h))⟩
      · skip
        have hF5 := cf' hb1 hb2
        refine cw_skip ?_
        refine cw_region ?_
        refine sq 38 rfl rfl (Y_add (k := .i64) (a := (i : Int)) (b := 1) rfl (hf.get 15 3 rfl) rfl) ?_
        refine sq 15 rfl rfl (Y_move (v := .int .i64 (IntKind.i64.wrap ((i : Int) + 1))) rfl rfl) ?_
        refine rw_nil ?_
        obtain rfl := some_inj hF5
        exact ⟨k_1, Nat.lt_succ_self _, i + 1, (FF.cons (hf.get 1 0 rfl) (FF.cons (hf.get 13 1 rfl) (FF.cons (hf.get 14 2 rfl) (FF.cons (congrArg (Value.int .i64) (wr_succ hlt1 hN)) FF.nil)))), (hS5.sel [0] rfl rfl), (by omega), hL1⟩
    · skip
      obtain rfl : k_ = 0 := by have h := of_decide_eq_false hlt; omega
      refine cw_exit rfl ?_
      obtain rfl := some_inj hL
      refine cw_seq ?_
      refine cw_region ?_
      refine sq 39 rfl rfl (Y_buildS (zs := [.bool false]) (vs := []) (cs := [.bool false]) k_pl_165 k_zero_165 rfl mpn rfl) ?_
      refine ss 40 rfl rfl (Ys_box (T := 165) (v := .agg #[.bool false]) (cs := [.bool false]) (m := 1) hS2 rfl rfl rfl rfl) ?_
      rintro _ w_4 ⟨b3, rfl, hS6⟩
      have hS6 : ST w0 [] _ [⟨some ⟨b1, 0, none⟩, 30, [.slice B b.Cells.length c], 1⟩, ⟨some ⟨b3, 0, none⟩, 165, [.bool false], 1⟩] [⟨B, (b.Cells.flatMap enc_Dyadic)⟩] := hS6
      refine sq 5 rfl rfl (Y_assign (v := pt (some ⟨b3, 0, none⟩) 0) rfl rfl) ?_
      refine rw_nil ?_
      refine cw_seq ?_
      obtain ⟨r_2, hc1, hF3⟩ := bind_inv hF3
      obtain ⟨⟨r_3, m⟩, hc2, hF3⟩ := bind_inv hF3
      refine cw_mid (fun f w => ∃ (B3 : Option Addr) (B4 : Option Addr) (c3 : Nat), FF f [(1, pt (some ⟨b1, 0, none⟩) 0), (5, pt (some ⟨b3, 0, none⟩) 0), (6, pt B3 0)] ∧ ST w0 [] w [⟨some ⟨b1, 0, none⟩, 30, [.slice B b.Cells.length c], 1⟩, ⟨some ⟨b3, 0, none⟩, 165, [.bool m.bad], 1⟩, ⟨B3, 30, [.slice B4 r_3.Cells.length c3], 1⟩, ⟨B4, 55, (r_3.Cells.flatMap enc_Dyadic), c3 * 5⟩] [⟨B, (b.Cells.flatMap enc_Dyadic)⟩]) ?_ ?_
      · skip
        refine ra_start (ST.sel hS6 [0] rfl rfl).fn (by kernel_rfl) ?_
        have hS10 := hS6.drew
        refine ra_q 0 41 (v := pt (some ⟨b3, 0, none⟩) 0) rfl rfl rfl (by kernel_rfl) (by kernel_rfl) (by kernel_rfl) (ST.sel hS10 [0] rfl rfl) (fun w' hw' => (Y_move (v := pt (some ⟨b3, 0, none⟩) 0) rfl rfl)) ?_
        refine ra_q 1 42 (v := .agg #[.slice B b.Cells.length c]) rfl rfl rfl (by kernel_rfl) (by kernel_rfl) (by kernel_rfl) (ST.sel hS10 [0] rfl rfl) (fun w' hw' => (Y_loadA (B := some ⟨b1, 0, none⟩) (i := 0) (cs := [.slice B b.Cells.length c]) (vs := [.slice B b.Cells.length c]) k_ag_30 k_sz_30_1 rfl (hf.get 1 0 rfl) (ST.cf hw' (i := 0) rfl) rfl rfl)) ?_
        refine ra_q 2 43 (v := .agg #[.slice B b.Cells.length c]) rfl rfl rfl (by kernel_rfl) (by kernel_rfl) (by kernel_rfl) (ST.sel hS10 [0] rfl rfl) (fun w' hw' => (Y_loadA (B := some ⟨b1, 0, none⟩) (i := 0) (cs := [.slice B b.Cells.length c]) (vs := [.slice B b.Cells.length c]) k_ag_30 k_sz_30_1 rfl (hf.get 1 0 rfl) (ST.cf hw' (i := 0) rfl) rfl rfl)) ?_
        refine ra_all (rs := [3, 5]) (by kernel_rfl) rfl ?_
        refine ra_c 44 (i := 3) rfl rfl rfl (Yc_func (g := 182) (vs := [.agg #[.slice B b.Cells.length c]]) k_call_182 rfl (mc rfl mn) (c_spec_l9Turn b B c b.Cells.length _ rfl (hS10.inn0 [(true, 0)] rfl) hc1)) ?_ ?_
        · rintro _ w_5 ⟨B1, c1, rfl, hd1⟩
          have hS11 := hS10.out0 hd1
          have hS11 : ST w0 [] _ [⟨some ⟨b1, 0, none⟩, 30, [.slice B b.Cells.length c], 1⟩, ⟨some ⟨b3, 0, none⟩, 165, [.bool false], 1⟩, ⟨B1, 55, (r_2.Cells.flatMap enc_Dyadic), c1 * 5⟩] [⟨B, (b.Cells.flatMap enc_Dyadic)⟩] := hS11
          refine ⟨(ST.sel hS11 [0] rfl rfl), ?_⟩
          refine ra_all (rs := [4, 5]) (by kernel_rfl) rfl ?_
          refine ra_c 45 (i := 4) rfl rfl rfl (Yc_func (g := 181) (vs := [pt (some ⟨b3, 0, none⟩) 0, .agg #[.slice B b.Cells.length c], .agg #[.slice B1 r_2.Cells.length c1]]) k_call_181 rfl (mc rfl (mc rfl (mc rfl mn))) (c_spec_l2C_bloch (Tl2C.mk false) b r_2 (some ⟨b3, 0, none⟩) B c b.Cells.length B1 c1 r_2.Cells.length _ rfl rfl (hS11.inn [false, true, false] rfl [(true, 0), (false, 1)] rfl) hc2)) ?_ ?_
          · rintro _ w_6 ⟨B2, c2, rfl, hd2⟩
            have hS12 := hS11.out [false, true, false] rfl hd2
            have hS12 : ST w0 [] _ [⟨some ⟨b1, 0, none⟩, 30, [.slice B b.Cells.length c], 1⟩, ⟨B1, 55, (r_2.Cells.flatMap enc_Dyadic), c1 * 5⟩, ⟨some ⟨b3, 0, none⟩, 165, [.bool m.bad], 1⟩, ⟨B2, 55, (r_3.Cells.flatMap enc_Dyadic), c2 * 5⟩] [⟨B, (b.Cells.flatMap enc_Dyadic)⟩] := hS12
            refine ⟨(ST.sel hS12 [0] rfl rfl), ?_⟩
            refine ra_all (rs := [5]) (by kernel_rfl) rfl ?_
            refine ra_s 6 (i := 5) rfl rfl rfl (Ys_alloc (T := 30) (cs := [.slice none 0 0]) (m := 1) hS12 k_zero_30 rfl rfl rfl) ?_ ?_
            · rintro _ w_7 ⟨b4, rfl, hS13⟩
              have hS13 : ST w0 [] _ [⟨some ⟨b1, 0, none⟩, 30, [.slice B b.Cells.length c], 1⟩, ⟨B1, 55, (r_2.Cells.flatMap enc_Dyadic), c1 * 5⟩, ⟨some ⟨b3, 0, none⟩, 165, [.bool m.bad], 1⟩, ⟨B2, 55, (r_3.Cells.flatMap enc_Dyadic), c2 * 5⟩, ⟨some ⟨b4, 0, none⟩, 30, [.slice none 0 0], 1⟩] [⟨B, (b.Cells.flatMap enc_Dyadic)⟩] := hS13
              refine ⟨(ST.sel hS13 [0] rfl rfl), ?_⟩
              refine ra_all (rs := [6]) (by kernel_rfl) rfl ?_
              refine ra_s0 (i := 6) rfl rfl rfl (Ys_store (i := 4) (s := 1) (B := some ⟨b4, 0, none⟩) (T' := 30) (v := .agg #[.slice B2 r_3.Cells.length c2]) (vs := [.slice B2 r_3.Cells.length c2]) (k := 0) (cs' := [.slice B2 r_3.Cells.length c2]) hS13 k_sz_30_1 rfl rfl rfl rfl rfl rfl rfl (Nat.le_of_ble_eq_true rfl) rfl rfl) ?_ ?_
              · rintro _ w_8 ⟨rfl, hS14⟩
                have hS14 : ST w0 [] _ [⟨some ⟨b1, 0, none⟩, 30, [.slice B b.Cells.length c], 1⟩, ⟨B1, 55, (r_2.Cells.flatMap enc_Dyadic), c1 * 5⟩, ⟨some ⟨b3, 0, none⟩, 165, [.bool m.bad], 1⟩, ⟨B2, 55, (r_3.Cells.flatMap enc_Dyadic), c2 * 5⟩, ⟨some ⟨b4, 0, none⟩, 30, [.slice B2 r_3.Cells.length c2], 1⟩] [⟨B, (b.Cells.flatMap enc_Dyadic)⟩] := hS14
                refine ⟨(ST.sel hS14 [0] rfl rfl), ?_⟩
                refine ra_done (by kernel_rfl) ?_
                exact ⟨some ⟨b4, 0, none⟩, B2, c2, (FF.cons (hf.get 1 0 rfl) (FF.cons rfl (FF.cons rfl FF.nil))), (hS14.sel [0, 2, 4, 3] rfl rfl)⟩
              exact allR_nil
            exact allR_nil
          refine ra_s 6 (i := 5) rfl rfl rfl (Ys_alloc (T := 30) (cs := [.slice none 0 0]) (m := 1) hS11 k_zero_30 rfl rfl rfl) ?_ ?_
          · rintro _ w_9 ⟨b4, rfl, hS15⟩
            have hS15 : ST w0 [] _ [⟨some ⟨b1, 0, none⟩, 30, [.slice B b.Cells.length c], 1⟩, ⟨some ⟨b3, 0, none⟩, 165, [.bool false], 1⟩, ⟨B1, 55, (r_2.Cells.flatMap enc_Dyadic), c1 * 5⟩, ⟨some ⟨b4, 0, none⟩, 30, [.slice none 0 0], 1⟩] [⟨B, (b.Cells.flatMap enc_Dyadic)⟩] := hS15
            refine ⟨(ST.sel hS15 [0] rfl rfl), ?_⟩
            refine ra_all (rs := [4]) (by kernel_rfl) rfl ?_
            refine ra_c 45 (i := 4) rfl rfl rfl (Yc_func (g := 181) (vs := [pt (some ⟨b3, 0, none⟩) 0, .agg #[.slice B b.Cells.length c], .agg #[.slice B1 r_2.Cells.length c1]]) k_call_181 rfl (mc rfl (mc rfl (mc rfl mn))) (c_spec_l2C_bloch (Tl2C.mk false) b r_2 (some ⟨b3, 0, none⟩) B c b.Cells.length B1 c1 r_2.Cells.length _ rfl rfl (hS15.inn [false, true, false, false] rfl [(true, 0), (false, 1)] rfl) hc2)) ?_ ?_
            · rintro _ w_10 ⟨B2, c2, rfl, hd3⟩
              have hS16 := hS15.out [false, true, false, false] rfl hd3
              have hS16 : ST w0 [] _ [⟨some ⟨b1, 0, none⟩, 30, [.slice B b.Cells.length c], 1⟩, ⟨B1, 55, (r_2.Cells.flatMap enc_Dyadic), c1 * 5⟩, ⟨some ⟨b4, 0, none⟩, 30, [.slice none 0 0], 1⟩, ⟨some ⟨b3, 0, none⟩, 165, [.bool m.bad], 1⟩, ⟨B2, 55, (r_3.Cells.flatMap enc_Dyadic), c2 * 5⟩] [⟨B, (b.Cells.flatMap enc_Dyadic)⟩] := hS16
              refine ⟨(ST.sel hS16 [0] rfl rfl), ?_⟩
              refine ra_all (rs := [6]) (by kernel_rfl) rfl ?_
              refine ra_s0 (i := 6) rfl rfl rfl (Ys_store (i := 2) (s := 1) (B := some ⟨b4, 0, none⟩) (T' := 30) (v := .agg #[.slice B2 r_3.Cells.length c2]) (vs := [.slice B2 r_3.Cells.length c2]) (k := 0) (cs' := [.slice B2 r_3.Cells.length c2]) hS16 k_sz_30_1 rfl rfl rfl rfl rfl rfl rfl (Nat.le_of_ble_eq_true rfl) rfl rfl) ?_ ?_
              · rintro _ w_11 ⟨rfl, hS17⟩
                have hS17 : ST w0 [] _ [⟨some ⟨b1, 0, none⟩, 30, [.slice B b.Cells.length c], 1⟩, ⟨B1, 55, (r_2.Cells.flatMap enc_Dyadic), c1 * 5⟩, ⟨some ⟨b4, 0, none⟩, 30, [.slice B2 r_3.Cells.length c2], 1⟩, ⟨some ⟨b3, 0, none⟩, 165, [.bool m.bad], 1⟩, ⟨B2, 55, (r_3.Cells.flatMap enc_Dyadic), c2 * 5⟩] [⟨B, (b.Cells.flatMap enc_Dyadic)⟩] := hS17
                refine ⟨(ST.sel hS17 [0] rfl rfl), ?_⟩
                refine ra_done (by kernel_rfl) ?_
                exact ⟨some ⟨b4, 0, none⟩, B2, c2, (FF.cons (hf.get 1 0 rfl) (FF.cons rfl (FF.cons rfl FF.nil))), (hS17.sel [0, 3, 2, 4] rfl rfl)⟩
              exact allR_nil
            exact allR_nil
          exact allR_nil
        refine ra_s 6 (i := 5) rfl rfl rfl (Ys_alloc (T := 30) (cs := [.slice none 0 0]) (m := 1) hS10 k_zero_30 rfl rfl rfl) ?_ ?_
        · rintro _ w_12 ⟨b4, rfl, hS18⟩
          have hS18 : ST w0 [] _ [⟨some ⟨b1, 0, none⟩, 30, [.slice B b.Cells.length c], 1⟩, ⟨some ⟨b3, 0, none⟩, 165, [.bool false], 1⟩, ⟨some ⟨b4, 0, none⟩, 30, [.slice none 0 0], 1⟩] [⟨B, (b.Cells.flatMap enc_Dyadic)⟩] := hS18
          refine ⟨(ST.sel hS18 [0] rfl rfl), ?_⟩
          refine ra_all (rs := [3]) (by kernel_rfl) rfl ?_
          refine ra_c 44 (i := 3) rfl rfl rfl (Yc_func (g := 182) (vs := [.agg #[.slice B b.Cells.length c]]) k_call_182 rfl (mc rfl mn) (c_spec_l9Turn b B c b.Cells.length _ rfl (hS18.inn0 [(true, 0)] rfl) hc1)) ?_ ?_
          · rintro _ w_13 ⟨B1, c1, rfl, hd4⟩
            have hS19 := hS18.out0 hd4
            have hS19 : ST w0 [] _ [⟨some ⟨b1, 0, none⟩, 30, [.slice B b.Cells.length c], 1⟩, ⟨some ⟨b3, 0, none⟩, 165, [.bool false], 1⟩, ⟨some ⟨b4, 0, none⟩, 30, [.slice none 0 0], 1⟩, ⟨B1, 55, (r_2.Cells.flatMap enc_Dyadic), c1 * 5⟩] [⟨B, (b.Cells.flatMap enc_Dyadic)⟩] := hS19
            refine ⟨(ST.sel hS19 [0] rfl rfl), ?_⟩
            refine ra_all (rs := [4]) (by kernel_rfl) rfl ?_
            refine ra_c 45 (i := 4) rfl rfl rfl (Yc_func (g := 181) (vs := [pt (some ⟨b3, 0, none⟩) 0, .agg #[.slice B b.Cells.length c], .agg #[.slice B1 r_2.Cells.length c1]]) k_call_181 rfl (mc rfl (mc rfl (mc rfl mn))) (c_spec_l2C_bloch (Tl2C.mk false) b r_2 (some ⟨b3, 0, none⟩) B c b.Cells.length B1 c1 r_2.Cells.length _ rfl rfl (hS19.inn [false, true, false, false] rfl [(true, 0), (false, 2)] rfl) hc2)) ?_ ?_
            · rintro _ w_14 ⟨B2, c2, rfl, hd5⟩
              have hS20 := hS19.out [false, true, false, false] rfl hd5
              have hS20 : ST w0 [] _ [⟨some ⟨b1, 0, none⟩, 30, [.slice B b.Cells.length c], 1⟩, ⟨some ⟨b4, 0, none⟩, 30, [.slice none 0 0], 1⟩, ⟨B1, 55, (r_2.Cells.flatMap enc_Dyadic), c1 * 5⟩, ⟨some ⟨b3, 0, none⟩, 165, [.bool m.bad], 1⟩, ⟨B2, 55, (r_3.Cells.flatMap enc_Dyadic), c2 * 5⟩] [⟨B, (b.Cells.flatMap enc_Dyadic)⟩] := hS20
              refine ⟨(ST.sel hS20 [0] rfl rfl), ?_⟩
              refine ra_all (rs := [6]) (by kernel_rfl) rfl ?_
              refine ra_s0 (i := 6) rfl rfl rfl (Ys_store (i := 1) (s := 1) (B := some ⟨b4, 0, none⟩) (T' := 30) (v := .agg #[.slice B2 r_3.Cells.length c2]) (vs := [.slice B2 r_3.Cells.length c2]) (k := 0) (cs' := [.slice B2 r_3.Cells.length c2]) hS20 k_sz_30_1 rfl rfl rfl rfl rfl rfl rfl (Nat.le_of_ble_eq_true rfl) rfl rfl) ?_ ?_
              · rintro _ w_15 ⟨rfl, hS21⟩
                have hS21 : ST w0 [] _ [⟨some ⟨b1, 0, none⟩, 30, [.slice B b.Cells.length c], 1⟩, ⟨some ⟨b4, 0, none⟩, 30, [.slice B2 r_3.Cells.length c2], 1⟩, ⟨B1, 55, (r_2.Cells.flatMap enc_Dyadic), c1 * 5⟩, ⟨some ⟨b3, 0, none⟩, 165, [.bool m.bad], 1⟩, ⟨B2, 55, (r_3.Cells.flatMap enc_Dyadic), c2 * 5⟩] [⟨B, (b.Cells.flatMap enc_Dyadic)⟩] := hS21
                refine ⟨(ST.sel hS21 [0] rfl rfl), ?_⟩
                refine ra_done (by kernel_rfl) ?_
                exact ⟨some ⟨b4, 0, none⟩, B2, c2, (FF.cons (hf.get 1 0 rfl) (FF.cons rfl (FF.cons rfl FF.nil))), (hS21.sel [0, 3, 1, 4] rfl rfl)⟩
              exact allR_nil
            exact allR_nil
          exact allR_nil
        exact allR_nil
      rintro f w ⟨B3, B4, c3, hf1, hS9⟩
      refine cw_seq ?_
      obtain ⟨x1, hx1, hF3⟩ := bind_inv hF3
      obtain ⟨⟨r_4, m1⟩, hc3, hF3⟩ := bind_inv hF3
      obtain ⟨⟨r_5, m2⟩, hc4, hF3⟩ := bind_inv hF3
      refine cw_mid (fun f w => ∃ (B5 : Option Addr), FF f [(1, pt (some ⟨b1, 0, none⟩) 0), (5, pt (some ⟨b3, 0, none⟩) 0), (6, pt B3 0), (7, pt B5 0)] ∧ ST w0 [] w [⟨some ⟨b1, 0, none⟩, 30, [.slice B b.Cells.length c], 1⟩, ⟨some ⟨b3, 0, none⟩, 165, [.bool m2.bad], 1⟩, ⟨B3, 30, [.slice B4 r_3.Cells.length c3], 1⟩, ⟨B4, 55, (r_3.Cells.flatMap enc_Dyadic), c3 * 5⟩, ⟨B5, 55, [.int .i64 r_5.Num.A, .int .i64 r_5.Num.B, .int .i64 r_5.Num.C, .int .i64 r_5.Num.D, .int .i64 r_5.Exp], 5⟩] [⟨B, (b.Cells.flatMap enc_Dyadic)⟩]) ?_ ?_
      · skip
        refine ra_start (ST.sel hS9 [0, 2, 3] rfl rfl).fn (by kernel_rfl) ?_
        have hS25 := hS9.drew
        refine ra_q 0 46 (v := pt (some ⟨b3, 0, none⟩) 0) rfl rfl rfl (by kernel_rfl) (by kernel_rfl) (by kernel_rfl) (ST.sel hS25 [0, 2, 3] rfl rfl) (fun w' hw' => (Y_move (v := pt (some ⟨b3, 0, none⟩) 0) rfl (hf1.get 5 1 rfl))) ?_
        refine ra_q 1 47 (v := pt (some ⟨b1, 0, none⟩) 0) rfl rfl rfl (by kernel_rfl) (by kernel_rfl) (by kernel_rfl) (ST.sel hS25 [0, 2, 3] rfl rfl) (fun w' hw' => (Y_fieldAddr (B := some ⟨b1, 0, none⟩) (i := 0) (s := 0) k_fd_30_0_0_28 k_sz_28_1 rfl (hf1.get 1 0 rfl))) ?_
        refine ra_q 2 48 (v := .slice B b.Cells.length c) rfl rfl rfl (by kernel_rfl) (by kernel_rfl) (by kernel_rfl) (ST.sel hS25 [0, 2, 3] rfl rfl) (fun w' hw' => (Y_load1 (B := some ⟨b1, 0, none⟩) (i := 0) (cs := [.slice B b.Cells.length c]) (v := .slice B b.Cells.length c) k_sc_28 rfl rfl (ST.cf hw' (i := 0) rfl) rfl)) ?_
        refine ra_q 3 49 (v := pt B ((0 : Int).toNat * 5)) rfl rfl rfl (by kernel_rfl) (by kernel_rfl) (by kernel_rfl) (ST.sel hS25 [0, 2, 3] rfl rfl) (fun w' hw' => (Y_index (B := B) (m := b.Cells.length) (c := c) (k := .i64) (i := 0) k_sl_28_55 k_sz_55_5 rfl rfl rfl (gi_isSome enc_Dyadic_len rfl (ST.rf hw' (i := 0) rfl) hx1) (getI_nn hx1) (getI_ltI hx1 rfl))) ?_
        refine ra_q 4 50 (v := .agg #[.int .i64 x1.Num.A, .int .i64 x1.Num.B, .int .i64 x1.Num.C, .int .i64 x1.Num.D, .int .i64 x1.Exp]) rfl rfl rfl (by kernel_rfl) (by kernel_rfl) (by kernel_rfl) (ST.sel hS25 [0, 2, 3] rfl rfl) (fun w' hw' => (Y_loadA (B := B) (i := (0 : Int).toNat * 5) (cs := (b.Cells.flatMap enc_Dyadic)) (vs := [.int .i64 x1.Num.A, .int .i64 x1.Num.B, .int .i64 x1.Num.C, .int .i64 x1.Num.D, .int .i64 x1.Exp]) k_ag_55 k_sz_55_5 rfl rfl (ST.rf hw' (i := 0) rfl) (enc_Dyadic_len x1) (gi_seg enc_Dyadic_len hx1))) ?_
        refine ra_q 5 51 (v := pt (some ⟨b3, 0, none⟩) 0) rfl rfl rfl (by kernel_rfl) (by kernel_rfl) (by kernel_rfl) (ST.sel hS25 [0, 2, 3] rfl rfl) (fun w' hw' => (Y_move (v := pt (some ⟨b3, 0, none⟩) 0) rfl (hf1.get 5 1 rfl))) ?_
        refine ra_q 6 52 (v := .agg #[.slice B b.Cells.length c]) rfl rfl rfl (by kernel_rfl) (by kernel_rfl) (by kernel_rfl) (ST.sel hS25 [0, 2, 3] rfl rfl) (fun w' hw' => (Y_loadA (B := some ⟨b1, 0, none⟩) (i := 0) (cs := [.slice B b.Cells.length c]) (vs := [.slice B b.Cells.length c]) k_ag_30 k_sz_30_1 rfl (hf1.get 1 0 rfl) (ST.cf hw' (i := 0) rfl) rfl rfl)) ?_
        refine ra_all (rs := [7, 9]) (by kernel_rfl) rfl ?_
        refine ra_c 53 (i := 7) rfl rfl rfl (Yc_func (g := 184) (vs := [pt (some ⟨b3, 0, none⟩) 0, .agg #[.slice B b.Cells.length c], .int .i64 1, .int .i64 2]) k_call_184 rfl (mc rfl (mc rfl (mc rfl (mc rfl mn)))) (c_spec_l2C_minor m b 1 2 (some ⟨b3, 0, none⟩) B c b.Cells.length _ rfl (hS25.inn [false, true, false, false] rfl [(true, 0)] rfl) hc3)) ?_ ?_
        · rintro _ w_16 ⟨rfl, hd6⟩
          have hS26 := hS25.out [false, true, false, false] rfl hd6
          have hS26 : ST w0 [] _ [⟨some ⟨b1, 0, none⟩, 30, [.slice B b.Cells.length c], 1⟩, ⟨B3, 30, [.slice B4 r_3.Cells.length c3], 1⟩, ⟨B4, 55, (r_3.Cells.flatMap enc_Dyadic), c3 * 5⟩, ⟨some ⟨b3, 0, none⟩, 165, [.bool m1.bad], 1⟩] [⟨B, (b.Cells.flatMap enc_Dyadic)⟩] := hS26
          refine ⟨(ST.sel hS26 [0, 1, 2] rfl rfl), ?_⟩
          refine ra_all (rs := [8, 9]) (by kernel_rfl) rfl ?_
          refine ra_c 54 (i := 8) rfl rfl rfl (Yc_func (g := 183) (vs := [pt (some ⟨b3, 0, none⟩) 0, .agg #[.int .i64 x1.Num.A, .int .i64 x1.Num.B, .int .i64 x1.Num.C, .int .i64 x1.Num.D, .int .i64 x1.Exp], .agg #[.int .i64 r_4.Num.A, .int .i64 r_4.Num.B, .int .i64 r_4.Num.C, .int .i64 r_4.Num.D, .int .i64 r_4.Exp]]) k_call_183 rfl (mc rfl (mc rfl (mc rfl mn))) (c_spec_l2C_mul m1 x1 r_4 (some ⟨b3, 0, none⟩) _  (hS26.inn [false, false, false, true] rfl [] rfl) hc4)) ?_ ?_
          · rintro _ w_17 ⟨rfl, hd7⟩
            have hS27 := hS26.out [false, false, false, true] rfl hd7
            have hS27 : ST w0 [] _ [⟨some ⟨b1, 0, none⟩, 30, [.slice B b.Cells.length c], 1⟩, ⟨B3, 30, [.slice B4 r_3.Cells.length c3], 1⟩, ⟨B4, 55, (r_3.Cells.flatMap enc_Dyadic), c3 * 5⟩, ⟨some ⟨b3, 0, none⟩, 165, [.bool m2.bad], 1⟩] [⟨B, (b.Cells.flatMap enc_Dyadic)⟩] := hS27
            refine ⟨(ST.sel hS27 [0, 1, 2] rfl rfl), ?_⟩
            refine ra_all (rs := [9]) (by kernel_rfl) rfl ?_
            refine ra_s 7 (i := 9) rfl rfl rfl (Ys_alloc (T := 55) (cs := [.int .i64 0, .int .i64 0, .int .i64 0, .int .i64 0, .int .i64 0]) (m := 5) hS27 k_zero_55 rfl rfl rfl) ?_ ?_
            · rintro _ w_18 ⟨b5, rfl, hS28⟩
              have hS28 : ST w0 [] _ [⟨some ⟨b1, 0, none⟩, 30, [.slice B b.Cells.length c], 1⟩, ⟨B3, 30, [.slice B4 r_3.Cells.length c3], 1⟩, ⟨B4, 55, (r_3.Cells.flatMap enc_Dyadic), c3 * 5⟩, ⟨some ⟨b3, 0, none⟩, 165, [.bool m2.bad], 1⟩, ⟨some ⟨b5, 0, none⟩, 55, [.int .i64 0, .int .i64 0, .int .i64 0, .int .i64 0, .int .i64 0], 5⟩] [⟨B, (b.Cells.flatMap enc_Dyadic)⟩] := hS28
              refine ⟨(ST.sel hS28 [0, 1, 2] rfl rfl), ?_⟩
              refine ra_all (rs := [10]) (by kernel_rfl) rfl ?_
              refine ra_s0 (i := 10) rfl rfl rfl (Ys_store (i := 4) (s := 5) (B := some ⟨b5, 0, none⟩) (T' := 55) (v := .agg #[.int .i64 r_5.Num.A, .int .i64 r_5.Num.B, .int .i64 r_5.Num.C, .int .i64 r_5.Num.D, .int .i64 r_5.Exp]) (vs := [.int .i64 r_5.Num.A, .int .i64 r_5.Num.B, .int .i64 r_5.Num.C, .int .i64 r_5.Num.D, .int .i64 r_5.Exp]) (k := 0) (cs' := [.int .i64 r_5.Num.A, .int .i64 r_5.Num.B, .int .i64 r_5.Num.C, .int .i64 r_5.Num.D, .int .i64 r_5.Exp]) hS28 k_sz_55_5 rfl rfl rfl rfl rfl rfl rfl (Nat.le_of_ble_eq_true rfl) rfl rfl) ?_ ?_
              · rintro _ w_19 ⟨rfl, hS29⟩
                have hS29 : ST w0 [] _ [⟨some ⟨b1, 0, none⟩, 30, [.slice B b.Cells.length c], 1⟩, ⟨B3, 30, [.slice B4 r_3.Cells.length c3], 1⟩, ⟨B4, 55, (r_3.Cells.flatMap enc_Dyadic), c3 * 5⟩, ⟨some ⟨b3, 0, none⟩, 165, [.bool m2.bad], 1⟩, ⟨some ⟨b5, 0, none⟩, 55, [.int .i64 r_5.Num.A, .int .i64 r_5.Num.B, .int .i64 r_5.Num.C, .int .i64 r_5.Num.D, .int .i64 r_5.Exp], 5⟩] [⟨B, (b.Cells.flatMap enc_Dyadic)⟩] := hS29
                refine ⟨(ST.sel hS29 [0, 1, 2] rfl rfl), ?_⟩
                refine ra_done (by kernel_rfl) ?_
                exact ⟨some ⟨b5, 0, none⟩, (FF.cons (hf1.get 1 0 rfl) (FF.cons (hf1.get 5 1 rfl) (FF.cons (hf1.get 6 2 rfl) (FF.cons rfl FF.nil)))), (hS29.sel [0, 3, 1, 2, 4] rfl rfl)⟩
              exact allR_nil
            exact allR_nil
          refine ra_s 7 (i := 9) rfl rfl rfl (Ys_alloc (T := 55) (cs := [.int .i64 0, .int .i64 0, .int .i64 0, .int .i64 0, .int .i64 0]) (m := 5) hS26 k_zero_55 rfl rfl rfl) ?_ ?_
          · rintro _ w_20 ⟨b5, rfl, hS30⟩
            have hS30 : ST w0 [] _ [⟨some ⟨b1, 0, none⟩, 30, [.slice B b.Cells.length c], 1⟩, ⟨B3, 30, [.slice B4 r_3.Cells.length c3], 1⟩, ⟨B4, 55, (r_3.Cells.flatMap enc_Dyadic), c3 * 5⟩, ⟨some ⟨b3, 0, none⟩, 165, [.bool m1.bad], 1⟩, ⟨some ⟨b5, 0, none⟩, 55, [.int .i64 0, .int .i64 0, .int .i64 0, .int .i64 0, .int .i64 0], 5⟩] [⟨B, (b.Cells.flatMap enc_Dyadic)⟩] := hS30
            refine ⟨(ST.sel hS30 [0, 1, 2] rfl rfl), ?_⟩
            refine ra_all (rs := [8]) (by kernel_rfl) rfl ?_
            refine ra_c 54 (i := 8) rfl rfl rfl (Yc_func (g := 183) (vs := [pt (some ⟨b3, 0, none⟩) 0, .agg #[.int .i64 x1.Num.A, .int .i64 x1.Num.B, .int .i64 x1.Num.C, .int .i64 x1.Num.D, .int .i64 x1.Exp], .agg #[.int .i64 r_4.Num.A, .int .i64 r_4.Num.B, .int .i64 r_4.Num.C, .int .i64 r_4.Num.D, .int .i64 r_4.Exp]]) k_call_183 rfl (mc rfl (mc rfl (mc rfl mn))) (c_spec_l2C_mul m1 x1 r_4 (some ⟨b3, 0, none⟩) _  (hS30.inn [false, false, false, true, false] rfl [] rfl) hc4)) ?_ ?_
            · rintro _ w_21 ⟨rfl, hd8⟩
              have hS31 := hS30.out [false, false, false, true, false] rfl hd8
              have hS31 : ST w0 [] _ [⟨some ⟨b1, 0, none⟩, 30, [.slice B b.Cells.length c], 1⟩, ⟨B3, 30, [.slice B4 r_3.Cells.length c3], 1⟩, ⟨B4, 55, (r_3.Cells.flatMap enc_Dyadic), c3 * 5⟩, ⟨some ⟨b5, 0, none⟩, 55, [.int .i64 0, .int .i64 0, .int .i64 0, .int .i64 0, .int .i64 0], 5⟩, ⟨some ⟨b3, 0, none⟩, 165, [.bool m2.bad], 1⟩] [⟨B, (b.Cells.flatMap enc_Dyadic)⟩] := hS31
              refine ⟨(ST.sel hS31 [0, 1, 2] rfl rfl), ?_⟩
              refine ra_all (rs := [10]) (by kernel_rfl) rfl ?_
              refine ra_s0 (i := 10) rfl rfl rfl (Ys_store (i := 3) (s := 5) (B := some ⟨b5, 0, none⟩) (T' := 55) (v := .agg #[.int .i64 r_5.Num.A, .int .i64 r_5.Num.B, .int .i64 r_5.Num.C, .int .i64 r_5.Num.D, .int .i64 r_5.Exp]) (vs := [.int .i64 r_5.Num.A, .int .i64 r_5.Num.B, .int .i64 r_5.Num.C, .int .i64 r_5.Num.D, .int .i64 r_5.Exp]) (k := 0) (cs' := [.int .i64 r_5.Num.A, .int .i64 r_5.Num.B, .int .i64 r_5.Num.C, .int .i64 r_5.Num.D, .int .i64 r_5.Exp]) hS31 k_sz_55_5 rfl rfl rfl rfl rfl rfl rfl (Nat.le_of_ble_eq_true rfl) rfl rfl) ?_ ?_
              · rintro _ w_22 ⟨rfl, hS32⟩
                have hS32 : ST w0 [] _ [⟨some ⟨b1, 0, none⟩, 30, [.slice B b.Cells.length c], 1⟩, ⟨B3, 30, [.slice B4 r_3.Cells.length c3], 1⟩, ⟨B4, 55, (r_3.Cells.flatMap enc_Dyadic), c3 * 5⟩, ⟨some ⟨b5, 0, none⟩, 55, [.int .i64 r_5.Num.A, .int .i64 r_5.Num.B, .int .i64 r_5.Num.C, .int .i64 r_5.Num.D, .int .i64 r_5.Exp], 5⟩, ⟨some ⟨b3, 0, none⟩, 165, [.bool m2.bad], 1⟩] [⟨B, (b.Cells.flatMap enc_Dyadic)⟩] := hS32
                refine ⟨(ST.sel hS32 [0, 1, 2] rfl rfl), ?_⟩
                refine ra_done (by kernel_rfl) ?_
                exact ⟨some ⟨b5, 0, none⟩, (FF.cons (hf1.get 1 0 rfl) (FF.cons (hf1.get 5 1 rfl) (FF.cons (hf1.get 6 2 rfl) (FF.cons rfl FF.nil)))), (hS32.sel [0, 4, 1, 2, 3] rfl rfl)⟩
              exact allR_nil
            exact allR_nil
          exact allR_nil
        refine ra_s 7 (i := 9) rfl rfl rfl (Ys_alloc (T := 55) (cs := [.int .i64 0, .int .i64 0, .int .i64 0, .int .i64 0, .int .i64 0]) (m := 5) hS25 k_zero_55 rfl rfl rfl) ?_ ?_
        · rintro _ w_23 ⟨b5, rfl, hS33⟩
          have hS33 : ST w0 [] _ [⟨some ⟨b1, 0, none⟩, 30, [.slice B b.Cells.length c], 1⟩, ⟨some ⟨b3, 0, none⟩, 165, [.bool m.bad], 1⟩, ⟨B3, 30, [.slice B4 r_3.Cells.length c3], 1⟩, ⟨B4, 55, (r_3.Cells.flatMap enc_Dyadic), c3 * 5⟩, ⟨some ⟨b5, 0, none⟩, 55, [.int .i64 0, .int .i64 0, .int .i64 0, .int .i64 0, .int .i64 0], 5⟩] [⟨B, (b.Cells.flatMap enc_Dyadic)⟩] := hS33
          refine ⟨(ST.sel hS33 [0, 2, 3] rfl rfl), ?_⟩
          refine ra_all (rs := [7]) (by kernel_rfl) rfl ?_
          refine ra_c 53 (i := 7) rfl rfl rfl (Yc_func (g := 184) (vs := [pt (some ⟨b3, 0, none⟩) 0, .agg #[.slice B b.Cells.length c], .int .i64 1, .int .i64 2]) k_call_184 rfl (mc rfl (mc rfl (mc rfl (mc rfl mn)))) (c_spec_l2C_minor m b 1 2 (some ⟨b3, 0, none⟩) B c b.Cells.length _ rfl (hS33.inn [false, true, false, false, false] rfl [(true, 0)] rfl) hc3)) ?_ ?_
          · rintro _ w_24 ⟨rfl, hd9⟩
            have hS34 := hS33.out [false, true, false, false, false] rfl hd9
            have hS34 : ST w0 [] _ [⟨some ⟨b1, 0, none⟩, 30, [.slice B b.Cells.length c], 1⟩, ⟨B3, 30, [.slice B4 r_3.Cells.length c3], 1⟩, ⟨B4, 55, (r_3.Cells.flatMap enc_Dyadic), c3 * 5⟩, ⟨some ⟨b5, 0, none⟩, 55, [.int .i64 0, .int .i64 0, .int .i64 0, .int .i64 0, .int .i64 0], 5⟩, ⟨some ⟨b3, 0, none⟩, 165, [.bool m1.bad], 1⟩] [⟨B, (b.Cells.flatMap enc_Dyadic)⟩] := hS34
            refine ⟨(ST.sel hS34 [0, 1, 2] rfl rfl), ?_⟩
            refine ra_all (rs := [8]) (by kernel_rfl) rfl ?_
            refine ra_c 54 (i := 8) rfl rfl rfl (Yc_func (g := 183) (vs := [pt (some ⟨b3, 0, none⟩) 0, .agg #[.int .i64 x1.Num.A, .int .i64 x1.Num.B, .int .i64 x1.Num.C, .int .i64 x1.Num.D, .int .i64 x1.Exp], .agg #[.int .i64 r_4.Num.A, .int .i64 r_4.Num.B, .int .i64 r_4.Num.C, .int .i64 r_4.Num.D, .int .i64 r_4.Exp]]) k_call_183 rfl (mc rfl (mc rfl (mc rfl mn))) (c_spec_l2C_mul m1 x1 r_4 (some ⟨b3, 0, none⟩) _  (hS34.inn [false, false, false, false, true] rfl [] rfl) hc4)) ?_ ?_
            · rintro _ w_25 ⟨rfl, hd10⟩
              have hS35 := hS34.out [false, false, false, false, true] rfl hd10
              have hS35 : ST w0 [] _ [⟨some ⟨b1, 0, none⟩, 30, [.slice B b.Cells.length c], 1⟩, ⟨B3, 30, [.slice B4 r_3.Cells.length c3], 1⟩, ⟨B4, 55, (r_3.Cells.flatMap enc_Dyadic), c3 * 5⟩, ⟨some ⟨b5, 0, none⟩, 55, [.int .i64 0, .int .i64 0, .int .i64 0, .int .i64 0, .int .i64 0], 5⟩, ⟨some ⟨b3, 0, none⟩, 165, [.bool m2.bad], 1⟩] [⟨B, (b.Cells.flatMap enc_Dyadic)⟩] := hS35
              refine ⟨(ST.sel hS35 [0, 1, 2] rfl rfl), ?_⟩
              refine ra_all (rs := [10]) (by kernel_rfl) rfl ?_
              refine ra_s0 (i := 10) rfl rfl rfl (Ys_store (i := 3) (s := 5) (B := some ⟨b5, 0, none⟩) (T' := 55) (v := .agg #[.int .i64 r_5.Num.A, .int .i64 r_5.Num.B, .int .i64 r_5.Num.C, .int .i64 r_5.Num.D, .int .i64 r_5.Exp]) (vs := [.int .i64 r_5.Num.A, .int .i64 r_5.Num.B, .int .i64 r_5.Num.C, .int .i64 r_5.Num.D, .int .i64 r_5.Exp]) (k := 0) (cs' := [.int .i64 r_5.Num.A, .int .i64 r_5.Num.B, .int .i64 r_5.Num.C, .int .i64 r_5.Num.D, .int .i64 r_5.Exp]) hS35 k_sz_55_5 rfl rfl rfl rfl rfl rfl rfl (Nat.le_of_ble_eq_true rfl) rfl rfl) ?_ ?_
              · rintro _ w_26 ⟨rfl, hS36⟩
                have hS36 : ST w0 [] _ [⟨some ⟨b1, 0, none⟩, 30, [.slice B b.Cells.length c], 1⟩, ⟨B3, 30, [.slice B4 r_3.Cells.length c3], 1⟩, ⟨B4, 55, (r_3.Cells.flatMap enc_Dyadic), c3 * 5⟩, ⟨some ⟨b5, 0, none⟩, 55, [.int .i64 r_5.Num.A, .int .i64 r_5.Num.B, .int .i64 r_5.Num.C, .int .i64 r_5.Num.D, .int .i64 r_5.Exp], 5⟩, ⟨some ⟨b3, 0, none⟩, 165, [.bool m2.bad], 1⟩] [⟨B, (b.Cells.flatMap enc_Dyadic)⟩] := hS36
                refine ⟨(ST.sel hS36 [0, 1, 2] rfl rfl), ?_⟩
                refine ra_done (by kernel_rfl) ?_
                exact ⟨some ⟨b5, 0, none⟩, (FF.cons (hf1.get 1 0 rfl) (FF.cons (hf1.get 5 1 rfl) (FF.cons (hf1.get 6 2 rfl) (FF.cons rfl FF.nil)))), (hS36.sel [0, 4, 1, 2, 3] rfl rfl)⟩
              exact allR_nil
            exact allR_nil
          exact allR_nil
        exact allR_nil
      rintro f w ⟨B5, hf2, hS24⟩
      refine cw_seq ?_
      obtain ⟨x2, hx2, hF3⟩ := bind_inv hF3
      obtain ⟨⟨r_6, m3⟩, hc5, hF3⟩ := bind_inv hF3
      obtain ⟨⟨r_7, m4⟩, hc6, hF3⟩ := bind_inv hF3
      obtain ⟨r_8, hc7, hF3⟩ := bind_inv hF3
      obtain ⟨⟨r_9, m5⟩, hc8, hF3⟩ := bind_inv hF3
      refine cw_mid (fun f w => FF f [(1, pt (some ⟨b1, 0, none⟩) 0), (5, pt (some ⟨b3, 0, none⟩) 0), (6, pt B3 0), (7, pt B5 0)] ∧ ST w0 [] w [⟨some ⟨b1, 0, none⟩, 30, [.slice B b.Cells.length c], 1⟩, ⟨some ⟨b3, 0, none⟩, 165, [.bool m5.bad], 1⟩, ⟨B3, 30, [.slice B4 r_3.Cells.length c3], 1⟩, ⟨B4, 55, (r_3.Cells.flatMap enc_Dyadic), c3 * 5⟩, ⟨B5, 55, [.int .i64 r_9.Num.A, .int .i64 r_9.Num.B, .int .i64 r_9.Num.C, .int .i64 r_9.Num.D, .int .i64 r_9.Exp], 5⟩] [⟨B, (b.Cells.flatMap enc_Dyadic)⟩]) ?_ ?_
      · skip
        refine ra_start (ST.sel hS24 [0, 2, 3] rfl rfl).fn (by kernel_rfl) ?_
        have hS42 := hS24.drew
        refine ra_q 0 55 (v := pt (some ⟨b3, 0, none⟩) 0) rfl rfl rfl (by kernel_rfl) (by kernel_rfl) (by kernel_rfl) (ST.sel hS42 [0, 2, 3] rfl rfl) (fun w' hw' => (Y_move (v := pt (some ⟨b3, 0, none⟩) 0) rfl (hf2.get 5 1 rfl))) ?_
        refine ra_q 2 57 (v := pt (some ⟨b3, 0, none⟩) 0) rfl rfl rfl (by kernel_rfl) (by kernel_rfl) (by kernel_rfl) (ST.sel hS42 [0, 2, 3] rfl rfl) (fun w' hw' => (Y_move (v := pt (some ⟨b3, 0, none⟩) 0) rfl (hf2.get 5 1 rfl))) ?_
        refine ra_q 3 58 (v := pt (some ⟨b1, 0, none⟩) 0) rfl rfl rfl (by kernel_rfl) (by kernel_rfl) (by kernel_rfl) (ST.sel hS42 [0, 2, 3] rfl rfl) (fun w' hw' => (Y_fieldAddr (B := some ⟨b1, 0, none⟩) (i := 0) (s := 0) k_fd_30_0_0_28 k_sz_28_1 rfl (hf2.get 1 0 rfl))) ?_
        refine ra_q 4 59 (v := .slice B b.Cells.length c) rfl rfl rfl (by kernel_rfl) (by kernel_rfl) (by kernel_rfl) (ST.sel hS42 [0, 2, 3] rfl rfl) (fun w' hw' => (Y_load1 (B := some ⟨b1, 0, none⟩) (i := 0) (cs := [.slice B b.Cells.length c]) (v := .slice B b.Cells.length c) k_sc_28 rfl rfl (ST.cf hw' (i := 0) rfl) rfl)) ?_
        refine ra_q 5 60 (v := pt B ((1 : Int).toNat * 5)) rfl rfl rfl (by kernel_rfl) (by kernel_rfl) (by kernel_rfl) (ST.sel hS42 [0, 2, 3] rfl rfl) (fun w' hw' => (Y_index (B := B) (m := b.Cells.length) (c := c) (k := .i64) (i := 1) k_sl_28_55 k_sz_55_5 rfl rfl rfl (gi_isSome enc_Dyadic_len rfl (ST.rf hw' (i := 0) rfl) hx2) (getI_nn hx2) (getI_ltI hx2 rfl))) ?_
        refine ra_q 6 61 (v := .agg #[.int .i64 x2.Num.A, .int .i64 x2.Num.B, .int .i64 x2.Num.C, .int .i64 x2.Num.D, .int .i64 x2.Exp]) rfl rfl rfl (by kernel_rfl) (by kernel_rfl) (by kernel_rfl) (ST.sel hS42 [0, 2, 3] rfl rfl) (fun w' hw' => (Y_loadA (B := B) (i := (1 : Int).toNat * 5) (cs := (b.Cells.flatMap enc_Dyadic)) (vs := [.int .i64 x2.Num.A, .int .i64 x2.Num.B, .int .i64 x2.Num.C, .int .i64 x2.Num.D, .int .i64 x2.Exp]) k_ag_55 k_sz_55_5 rfl rfl (ST.rf hw' (i := 0) rfl) (enc_Dyadic_len x2) (gi_seg enc_Dyadic_len hx2))) ?_
        refine ra_q 7 62 (v := pt (some ⟨b3, 0, none⟩) 0) rfl rfl rfl (by kernel_rfl) (by kernel_rfl) (by kernel_rfl) (ST.sel hS42 [0, 2, 3] rfl rfl) (fun w' hw' => (Y_move (v := pt (some ⟨b3, 0, none⟩) 0) rfl (hf2.get 5 1 rfl))) ?_
        refine ra_q 8 63 (v := .agg #[.slice B b.Cells.length c]) rfl rfl rfl (by kernel_rfl) (by kernel_rfl) (by kernel_rfl) (ST.sel hS42 [0, 2, 3] rfl rfl) (fun w' hw' => (Y_loadA (B := some ⟨b1, 0, none⟩) (i := 0) (cs := [.slice B b.Cells.length c]) (vs := [.slice B b.Cells.length c]) k_ag_30 k_sz_30_1 rfl (hf2.get 1 0 rfl) (ST.cf hw' (i := 0) rfl) rfl rfl)) ?_
        refine ra_all (rs := [1, 9]) (by kernel_rfl) rfl ?_
        refine ra_y 56 (i := 1) (v := .agg #[.int .i64 r_5.Num.A, .int .i64 r_5.Num.B, .int .i64 r_5.Num.C, .int .i64 r_5.Num.D, .int .i64 r_5.Exp]) rfl rfl rfl (Y_loadA (B := B5) (i := 0) (cs := [.int .i64 r_5.Num.A, .int .i64 r_5.Num.B, .int .i64 r_5.Num.C, .int .i64 r_5.Num.D, .int .i64 r_5.Exp]) (vs := [.int .i64 r_5.Num.A, .int .i64 r_5.Num.B, .int .i64 r_5.Num.C, .int .i64 r_5.Num.D, .int .i64 r_5.Exp]) k_ag_55 k_sz_55_5 rfl (hf2.get 7 3 rfl) (hS42.cf (i := 4) rfl) rfl rfl) (ST.sel hS42 [0, 2, 3] rfl rfl) ?_ ?_
        · skip
          refine ra_all (rs := [9]) (by kernel_rfl) rfl ?_
          refine ra_c 64 (i := 9) rfl rfl rfl (Yc_func (g := 184) (vs := [pt (some ⟨b3, 0, none⟩) 0, .agg #[.slice B b.Cells.length c], .int .i64 0, .int .i64 2]) k_call_184 rfl (mc rfl (mc rfl (mc rfl (mc rfl mn)))) (c_spec_l2C_minor m2 b 0 2 (some ⟨b3, 0, none⟩) B c b.Cells.length _ rfl (hS42.inn [false, true, false, false, false] rfl [(true, 0)] rfl) hc5)) ?_ ?_
          · rintro _ w_27 ⟨rfl, hd11⟩
            have hS43 := hS42.out [false, true, false, false, false] rfl hd11
            have hS43 : ST w0 [] _ [⟨some ⟨b1, 0, none⟩, 30, [.slice B b.Cells.length c], 1⟩, ⟨B3, 30, [.slice B4 r_3.Cells.length c3], 1⟩, ⟨B4, 55, (r_3.Cells.flatMap enc_Dyadic), c3 * 5⟩, ⟨B5, 55, [.int .i64 r_5.Num.A, .int .i64 r_5.Num.B, .int .i64 r_5.Num.C, .int .i64 r_5.Num.D, .int .i64 r_5.Exp], 5⟩, ⟨some ⟨b3, 0, none⟩, 165, [.bool m3.bad], 1⟩] [⟨B, (b.Cells.flatMap enc_Dyadic)⟩] := hS43
            refine ⟨(ST.sel hS43 [0, 1, 2] rfl rfl), ?_⟩
            refine ra_all (rs := [10]) (by kernel_rfl) rfl ?_
            refine ra_c 65 (i := 10) rfl rfl rfl (Yc_func (g := 183) (vs := [pt (some ⟨b3, 0, none⟩) 0, .agg #[.int .i64 x2.Num.A, .int .i64 x2.Num.B, .int .i64 x2.Num.C, .int .i64 x2.Num.D, .int .i64 x2.Exp], .agg #[.int .i64 r_6.Num.A, .int .i64 r_6.Num.B, .int .i64 r_6.Num.C, .int .i64 r_6.Num.D, .int .i64 r_6.Exp]]) k_call_183 rfl (mc rfl (mc rfl (mc rfl mn))) (c_spec_l2C_mul m3 x2 r_6 (some ⟨b3, 0, none⟩) _  (hS43.inn [false, false, false, false, true] rfl [] rfl) hc6)) ?_ ?_
            · rintro _ w_28 ⟨rfl, hd12⟩
              have hS44 := hS43.out [false, false, false, false, true] rfl hd12
              have hS44 : ST w0 [] _ [⟨some ⟨b1, 0, none⟩, 30, [.slice B b.Cells.length c], 1⟩, ⟨B3, 30, [.slice B4 r_3.Cells.length c3], 1⟩, ⟨B4, 55, (r_3.Cells.flatMap enc_Dyadic), c3 * 5⟩, ⟨B5, 55, [.int .i64 r_5.Num.A, .int .i64 r_5.Num.B, .int .i64 r_5.Num.C, .int .i64 r_5.Num.D, .int .i64 r_5.Exp], 5⟩, ⟨some ⟨b3, 0, none⟩, 165, [.bool m4.bad], 1⟩] [⟨B, (b.Cells.flatMap enc_Dyadic)⟩] := hS44
              refine ⟨(ST.sel hS44 [0, 1, 2] rfl rfl), ?_⟩
              refine ra_all (rs := [11]) (by kernel_rfl) rfl ?_
              refine ra_c 66 (i := 11) rfl rfl rfl (Yc_func (g := 186) (vs := [.agg #[.int .i64 r_7.Num.A, .int .i64 r_7.Num.B, .int .i64 r_7.Num.C, .int .i64 r_7.Num.D, .int .i64 r_7.Exp]]) k_call_186 rfl (mc rfl mn) (c_spec_l2Neg r_7 _  (hS44.inn0 [] rfl) hc7)) ?_ ?_
              · rintro _ w_29 ⟨rfl, hd13⟩
                have hS45 := hS44.out00 hd13
                have hS45 : ST w0 [] _ [⟨some ⟨b1, 0, none⟩, 30, [.slice B b.Cells.length c], 1⟩, ⟨B3, 30, [.slice B4 r_3.Cells.length c3], 1⟩, ⟨B4, 55, (r_3.Cells.flatMap enc_Dyadic), c3 * 5⟩, ⟨B5, 55, [.int .i64 r_5.Num.A, .int .i64 r_5.Num.B, .int .i64 r_5.Num.C, .int .i64 r_5.Num.D, .int .i64 r_5.Exp], 5⟩, ⟨some ⟨b3, 0, none⟩, 165, [.bool m4.bad], 1⟩] [⟨B, (b.Cells.flatMap enc_Dyadic)⟩] := hS45
                refine ⟨(ST.sel hS45 [0, 1, 2] rfl rfl), ?_⟩
                refine ra_all (rs := [12]) (by kernel_rfl) rfl ?_
                refine ra_c 67 (i := 12) rfl rfl rfl (Yc_func (g := 185) (vs := [pt (some ⟨b3, 0, none⟩) 0, .agg #[.int .i64 r_5.Num.A, .int .i64 r_5.Num.B, .int .i64 r_5.Num.C, .int .i64 r_5.Num.D, .int .i64 r_5.Exp], .agg #[.int .i64 r_8.Num.A, .int .i64 r_8.Num.B, .int .i64 r_8.Num.C, .int .i64 r_8.Num.D, .int .i64 r_8.Exp]]) k_call_185 rfl (mc rfl (mc rfl (mc rfl mn))) (c_spec_l2C_add m4 r_5 r_8 (some ⟨b3, 0, none⟩) _  (hS45.inn [false, false, false, false, true] rfl [] rfl) hc8)) ?_ ?_
                · rintro _ w_30 ⟨rfl, hd14⟩
                  have hS46 := hS45.out [false, false, false, false, true] rfl hd14
                  have hS46 : ST w0 [] _ [⟨some ⟨b1, 0, none⟩, 30, [.slice B b.Cells.length c], 1⟩, ⟨B3, 30, [.slice B4 r_3.Cells.length c3], 1⟩, ⟨B4, 55, (r_3.Cells.flatMap enc_Dyadic), c3 * 5⟩, ⟨B5, 55, [.int .i64 r_5.Num.A, .int .i64 r_5.Num.B, .int .i64 r_5.Num.C, .int .i64 r_5.Num.D, .int .i64 r_5.Exp], 5⟩, ⟨some ⟨b3, 0, none⟩, 165, [.bool m5.bad], 1⟩] [⟨B, (b.Cells.flatMap enc_Dyadic)⟩] := hS46
                  refine ⟨(ST.sel hS46 [0, 1, 2] rfl rfl), ?_⟩
                  refine ra_all (rs := [13]) (by kernel_rfl) rfl ?_
                  refine ra_s0 (i := 13) rfl rfl rfl (Ys_store (i := 3) (s := 5) (B := B5) (T' := 55) (v := .agg #[.int .i64 r_9.Num.A, .int .i64 r_9.Num.B, .int .i64 r_9.Num.C, .int .i64 r_9.Num.D, .int .i64 r_9.Exp]) (vs := [.int .i64 r_9.Num.A, .int .i64 r_9.Num.B, .int .i64 r_9.Num.C, .int .i64 r_9.Num.D, .int .i64 r_9.Exp]) (k := 0) (cs' := [.int .i64 r_9.Num.A, .int .i64 r_9.Num.B, .int .i64 r_9.Num.C, .int .i64 r_9.Num.D, .int .i64 r_9.Exp]) hS46 k_sz_55_5 rfl (hf2.get 7 3 rfl) rfl rfl rfl rfl rfl (Nat.le_of_ble_eq_true rfl) rfl rfl) ?_ ?_
                  · rintro _ w_31 ⟨rfl, hS47⟩
                    have hS47 : ST w0 [] _ [⟨some ⟨b1, 0, none⟩, 30, [.slice B b.Cells.length c], 1⟩, ⟨B3, 30, [.slice B4 r_3.Cells.length c3], 1⟩, ⟨B4, 55, (r_3.Cells.flatMap enc_Dyadic), c3 * 5⟩, ⟨B5, 55, [.int .i64 r_9.Num.A, .int .i64 r_9.Num.B, .int .i64 r_9.Num.C, .int .i64 r_9.Num.D, .int .i64 r_9.Exp], 5⟩, ⟨some ⟨b3, 0, none⟩, 165, [.bool m5.bad], 1⟩] [⟨B, (b.Cells.flatMap enc_Dyadic)⟩] := hS47
                    refine ⟨(ST.sel hS47 [0, 1, 2] rfl rfl), ?_⟩
                    refine ra_done (by kernel_rfl) ?_
                    exact ⟨(FF.cons (hf2.get 1 0 rfl) (FF.cons (hf2.get 5 1 rfl) (FF.cons (hf2.get 6 2 rfl) (FF.cons (hf2.get 7 3 rfl) FF.nil)))), (hS47.sel [0, 4, 1, 2, 3] rfl rfl)⟩
                  exact allR_nil
                exact allR_nil
              exact allR_nil
            exact allR_nil
          exact allR_nil
        refine ra_c 64 (i := 9) rfl rfl rfl (Yc_func (g := 184) (vs := [pt (some ⟨b3, 0, none⟩) 0, .agg #[.slice B b.Cells.length c], .int .i64 0, .int .i64 2]) k_call_184 rfl (mc rfl (mc rfl (mc rfl (mc rfl mn)))) (c_spec_l2C_minor m2 b 0 2 (some ⟨b3, 0, none⟩) B c b.Cells.length _ rfl (hS42.inn [false, true, false, false, false] rfl [(true, 0)] rfl) hc5)) ?_ ?_
        · rintro _ w_32 ⟨rfl, hd15⟩
          have hS48 := hS42.out [false, true, false, false, false] rfl hd15
          have hS48 : ST w0 [] _ [⟨some ⟨b1, 0, none⟩, 30, [.slice B b.Cells.length c], 1⟩, ⟨B3, 30, [.slice B4 r_3.Cells.length c3], 1⟩, ⟨B4, 55, (r_3.Cells.flatMap enc_Dyadic), c3 * 5⟩, ⟨B5, 55, [.int .i64 r_5.Num.A, .int .i64 r_5.Num.B, .int .i64 r_5.Num.C, .int .i64 r_5.Num.D, .int .i64 r_5.Exp], 5⟩, ⟨some ⟨b3, 0, none⟩, 165, [.bool m3.bad], 1⟩] [⟨B, (b.Cells.flatMap enc_Dyadic)⟩] := hS48
          refine ⟨(ST.sel hS48 [0, 1, 2] rfl rfl), ?_⟩
          refine ra_all (rs := [1, 10]) (by kernel_rfl) rfl ?_
          refine ra_y 56 (i := 1) (v := .agg #[.int .i64 r_5.Num.A, .int .i64 r_5.Num.B, .int .i64 r_5.Num.C, .int .i64 r_5.Num.D, .int .i64 r_5.Exp]) rfl rfl rfl (Y_loadA (B := B5) (i := 0) (cs := [.int .i64 r_5.Num.A, .int .i64 r_5.Num.B, .int .i64 r_5.Num.C, .int .i64 r_5.Num.D, .int .i64 r_5.Exp]) (vs := [.int .i64 r_5.Num.A, .int .i64 r_5.Num.B, .int .i64 r_5.Num.C, .int .i64 r_5.Num.D, .int .i64 r_5.Exp]) k_ag_55 k_sz_55_5 rfl (hf2.get 7 3 rfl) (hS48.cf (i := 3) rfl) rfl rfl) (ST.sel hS48 [0, 1, 2] rfl rfl) ?_ ?_
          · skip
            refine ra_all (rs := [10]) (by kernel_rfl) rfl ?_
            refine ra_c 65 (i := 10) rfl rfl rfl (Yc_func (g := 183) (vs := [pt (some ⟨b3, 0, none⟩) 0, .agg #[.int .i64 x2.Num.A, .int .i64 x2.Num.B, .int .i64 x2.Num.C, .int .i64 x2.Num.D, .int .i64 x2.Exp], .agg #[.int .i64 r_6.Num.A, .int .i64 r_6.Num.B, .int .i64 r_6.Num.C, .int .i64 r_6.Num.D, .int .i64 r_6.Exp]]) k_call_183 rfl (mc rfl (mc rfl (mc rfl mn))) (c_spec_l2C_mul m3 x2 r_6 (some ⟨b3, 0, none⟩) _  (hS48.inn [false, false, false, false, true] rfl [] rfl) hc6)) ?_ ?_
            · rintro _ w_33 ⟨rfl, hd16⟩
              have hS49 := hS48.out [false, false, false, false, true] rfl hd16
              have hS49 : ST w0 [] _ [⟨some ⟨b1, 0, none⟩, 30, [.slice B b.Cells.length c], 1⟩, ⟨B3, 30, [.slice B4 r_3.Cells.length c3], 1⟩, ⟨B4, 55, (r_3.Cells.flatMap enc_Dyadic), c3 * 5⟩, ⟨B5, 55, [.int .i64 r_5.Num.A, .int .i64 r_5.Num.B, .int .i64 r_5.Num.C, .int .i64 r_5.Num.D, .int .i64 r_5.Exp], 5⟩, ⟨some ⟨b3, 0, none⟩, 165, [.bool m4.bad], 1⟩] [⟨B, (b.Cells.flatMap enc_Dyadic)⟩] := hS49
              refine ⟨(ST.sel hS49 [0, 1, 2] rfl rfl), ?_⟩
              refine ra_all (rs := [11]) (by kernel_rfl) rfl ?_
              refine ra_c 66 (i := 11) rfl rfl rfl (Yc_func (g := 186) (vs := [.agg #[.int .i64 r_7.Num.A, .int .i64 r_7.Num.B, .int .i64 r_7.Num.C, .int .i64 r_7.Num.D, .int .i64 r_7.Exp]]) k_call_186 rfl (mc rfl mn) (c_spec_l2Neg r_7 _  (hS49.inn0 [] rfl) hc7)) ?_ ?_
              · rintro _ w_34 ⟨rfl, hd17⟩
                have hS50 := hS49.out00 hd17
                have hS50 : ST w0 [] _ [⟨some ⟨b1, 0, none⟩, 30, [.slice B b.Cells.length c], 1⟩, ⟨B3, 30, [.slice B4 r_3.Cells.length c3], 1⟩, ⟨B4, 55, (r_3.Cells.flatMap enc_Dyadic), c3 * 5⟩, ⟨B5, 55, [.int .i64 r_5.Num.A, .int .i64 r_5.Num.B, .int .i64 r_5.Num.C, .int .i64 r_5.Num.D, .int .i64 r_5.Exp], 5⟩, ⟨some ⟨b3, 0, none⟩, 165, [.bool m4.bad], 1⟩] [⟨B, (b.Cells.flatMap enc_Dyadic)⟩] := hS50
                refine ⟨(ST.sel hS50 [0, 1, 2] rfl rfl), ?_⟩
                refine ra_all (rs := [12]) (by kernel_rfl) rfl ?_
                refine ra_c 67 (i := 12) rfl rfl rfl (Yc_func (g := 185) (vs := [pt (some ⟨b3, 0, none⟩) 0, .agg #[.int .i64 r_5.Num.A, .int .i64 r_5.Num.B, .int .i64 r_5.Num.C, .int .i64 r_5.Num.D, .int .i64 r_5.Exp], .agg #[.int .i64 r_8.Num.A, .int .i64 r_8.Num.B, .int .i64 r_8.Num.C, .int .i64 r_8.Num.D, .int .i64 r_8.Exp]]) k_call_185 rfl (mc rfl (mc rfl (mc rfl mn))) (c_spec_l2C_add m4 r_5 r_8 (some ⟨b3, 0, none⟩) _  (hS50.inn [false, false, false, false, true] rfl [] rfl) hc8)) ?_ ?_
                · rintro _ w_35 ⟨rfl, hd18⟩
                  have hS51 := hS50.out [false, false, false, false, true] rfl hd18
                  have hS51 : ST w0 [] _ [⟨some ⟨b1, 0, none⟩, 30, [.slice B b.Cells.length c], 1⟩, ⟨B3, 30, [.slice B4 r_3.Cells.length c3], 1⟩, ⟨B4, 55, (r_3.Cells.flatMap enc_Dyadic), c3 * 5⟩, ⟨B5, 55, [.int .i64 r_5.Num.A, .int .i64 r_5.Num.B, .int .i64 r_5.Num.C, .int .i64 r_5.Num.D, .int .i64 r_5.Exp], 5⟩, ⟨some ⟨b3, 0, none⟩, 165, [.bool m5.bad], 1⟩] [⟨B, (b.Cells.flatMap enc_Dyadic)⟩] := hS51
                  refine ⟨(ST.sel hS51 [0, 1, 2] rfl rfl), ?_⟩
                  refine ra_all (rs := [13]) (by kernel_rfl) rfl ?_
                  refine ra_s0 (i := 13) rfl rfl rfl (Ys_store (i := 3) (s := 5) (B := B5) (T' := 55) (v := .agg #[.int .i64 r_9.Num.A, .int .i64 r_9.Num.B, .int .i64 r_9.Num.C, .int .i64 r_9.Num.D, .int .i64 r_9.Exp]) (vs := [.int .i64 r_9.Num.A, .int .i64 r_9.Num.B, .int .i64 r_9.Num.C, .int .i64 r_9.Num.D, .int .i64 r_9.Exp]) (k := 0) (cs' := [.int .i64 r_9.Num.A, .int .i64 r_9.Num.B, .int .i64 r_9.Num.C, .int .i64 r_9.Num.D, .int .i64 r_9.Exp]) hS51 k_sz_55_5 rfl (hf2.get 7 3 rfl) rfl rfl rfl rfl rfl (Nat.le_of_ble_eq_true rfl) rfl rfl) ?_ ?_
                  · rintro _ w_36 ⟨rfl, hS52⟩
                    have hS52 : ST w0 [] _ [⟨some ⟨b1, 0, none⟩, 30, [.slice B b.Cells.length c], 1⟩, ⟨B3, 30, [.slice B4 r_3.Cells.length c3], 1⟩, ⟨B4, 55, (r_3.Cells.flatMap enc_Dyadic), c3 * 5⟩, ⟨B5, 55, [.int .i64 r_9.Num.A, .int .i64 r_9.Num.B, .int .i64 r_9.Num.C, .int .i64 r_9.Num.D, .int .i64 r_9.Exp], 5⟩, ⟨some ⟨b3, 0, none⟩, 165, [.bool m5.bad], 1⟩] [⟨B, (b.Cells.flatMap enc_Dyadic)⟩] := hS52
                    refine ⟨(ST.sel hS52 [0, 1, 2] rfl rfl), ?_⟩
                    refine ra_done (by kernel_rfl) ?_
                    exact ⟨(FF.cons (hf2.get 1 0 rfl) (FF.cons (hf2.get 5 1 rfl) (FF.cons (hf2.get 6 2 rfl) (FF.cons (hf2.get 7 3 rfl) FF.nil)))), (hS52.sel [0, 4, 1, 2, 3] rfl rfl)⟩
                  exact allR_nil
                exact allR_nil
              exact allR_nil
            exact allR_nil
          refine ra_c 65 (i := 10) rfl rfl rfl (Yc_func (g := 183) (vs := [pt (some ⟨b3, 0, none⟩) 0, .agg #[.int .i64 x2.Num.A, .int .i64 x2.Num.B, .int .i64 x2.Num.C, .int .i64 x2.Num.D, .int .i64 x2.Exp], .agg #[.int .i64 r_6.Num.A, .int .i64 r_6.Num.B, .int .i64 r_6.Num.C, .int .i64 r_6.Num.D, .int .i64 r_6.Exp]]) k_call_183 rfl (mc rfl (mc rfl (mc rfl mn))) (c_spec_l2C_mul m3 x2 r_6 (some ⟨b3, 0, none⟩) _  (hS48.inn [false, false, false, false, true] rfl [] rfl) hc6)) ?_ ?_
          · rintro _ w_37 ⟨rfl, hd19⟩
            have hS53 := hS48.out [false, false, false, false, true] rfl hd19
            have hS53 : ST w0 [] _ [⟨some ⟨b1, 0, none⟩, 30, [.slice B b.Cells.length c], 1⟩, ⟨B3, 30, [.slice B4 r_3.Cells.length c3], 1⟩, ⟨B4, 55, (r_3.Cells.flatMap enc_Dyadic), c3 * 5⟩, ⟨B5, 55, [.int .i64 r_5.Num.A, .int .i64 r_5.Num.B, .int .i64 r_5.Num.C, .int .i64 r_5.Num.D, .int .i64 r_5.Exp], 5⟩, ⟨some ⟨b3, 0, none⟩, 165, [.bool m4.bad], 1⟩] [⟨B, (b.Cells.flatMap enc_Dyadic)⟩] := hS53
            refine ⟨(ST.sel hS53 [0, 1, 2] rfl rfl), ?_⟩
            refine ra_all (rs := [1, 11]) (by kernel_rfl) rfl ?_
            refine ra_y 56 (i := 1) (v := .agg #[.int .i64 r_5.Num.A, .int .i64 r_5.Num.B, .int .i64 r_5.Num.C, .int .i64 r_5.Num.D, .int .i64 r_5.Exp]) rfl rfl rfl (Y_loadA (B := B5) (i := 0) (cs := [.int .i64 r_5.Num.A, .int .i64 r_5.Num.B, .int .i64 r_5.Num.C, .int .i64 r_5.Num.D, .int .i64 r_5.Exp]) (vs := [.int .i64 r_5.Num.A, .int .i64 r_5.Num.B, .int .i64 r_5.Num.C, .int .i64 r_5.Num.D, .int .i64 r_5.Exp]) k_ag_55 k_sz_55_5 rfl (hf2.get 7 3 rfl) (hS53.cf (i := 3) rfl) rfl rfl) (ST.sel hS53 [0, 1, 2] rfl rfl) ?_ ?_
            · skip
              refine ra_all (rs := [11]) (by kernel_rfl) rfl ?_
              refine ra_c 66 (i := 11) rfl rfl rfl (Yc_func (g := 186) (vs := [.agg #[.int .i64 r_7.Num.A, .int .i64 r_7.Num.B, .int .i64 r_7.Num.C, .int .i64 r_7.Num.D, .int .i64 r_7.Exp]]) k_call_186 rfl (mc rfl mn) (c_spec_l2Neg r_7 _  (hS53.inn0 [] rfl) hc7)) ?_ ?_
              · rintro _ w_38 ⟨rfl, hd20⟩
                have hS54 := hS53.out00 hd20
                have hS54 : ST w0 [] _ [⟨some ⟨b1, 0, none⟩, 30, [.slice B b.Cells.length c], 1⟩, ⟨B3, 30, [.slice B4 r_3.Cells.length c3], 1⟩, ⟨B4, 55, (r_3.Cells.flatMap enc_Dyadic), c3 * 5⟩, ⟨B5, 55, [.int .i64 r_5.Num.A, .int .i64 r_5.Num.B, .int .i64 r_5.Num.C, .int .i64 r_5.Num.D, .int .i64 r_5.Exp], 5⟩, ⟨some ⟨b3, 0, none⟩, 165, [.bool m4.bad], 1⟩] [⟨B, (b.Cells.flatMap enc_Dyadic)⟩] := hS54
                refine ⟨(ST.sel hS54 [0, 1, 2] rfl rfl), ?_⟩
                refine ra_all (rs := [12]) (by kernel_rfl) rfl ?_
                refine ra_c 67 (i := 12) rfl rfl rfl (Yc_func (g := 185) (vs := [pt (some ⟨b3, 0, none⟩) 0, .agg #[.int .i64 r_5.Num.A, .int .i64 r_5.Num.B, .int .i64 r_5.Num.C, .int .i64 r_5.Num.D, .int .i64 r_5.Exp], .agg #[.int .i64 r_8.Num.A, .int .i64 r_8.Num.B, .int .i64 r_8.Num.C, .int .i64 r_8.Num.D, .int .i64 r_8.Exp]]) k_call_185 rfl (mc rfl (mc rfl (mc rfl mn))) (c_spec_l2C_add m4 r_5 r_8 (some ⟨b3, 0, none⟩) _  (hS54.inn [false, false, false, false, true] rfl [] rfl) hc8)) ?_ ?_
                · rintro _ w_39 ⟨rfl, hd21⟩
                  have hS55 := hS54.out [false, false, false, false, true] rfl hd21
                  have hS55 : ST w0 [] _ [⟨some ⟨b1, 0, none⟩, 30, [.slice B b.Cells.length c], 1⟩, ⟨B3, 30, [.slice B4 r_3.Cells.length c3], 1⟩, ⟨B4, 55, (r_3.Cells.flatMap enc_Dyadic), c3 * 5⟩, ⟨B5, 55, [.int .i64 r_5.Num.A, .int .i64 r_5.Num.B, .int .i64 r_5.Num.C, .int .i64 r_5.Num.D, .int .i64 r_5.Exp], 5⟩, ⟨some ⟨b3, 0, none⟩, 165, [.bool m5.bad], 1⟩] [⟨B, (b.Cells.flatMap enc_Dyadic)⟩] := hS55
                  refine ⟨(ST.sel hS55 [0, 1, 2] rfl rfl), ?_⟩
                  refine ra_all (rs := [13]) (by kernel_rfl) rfl ?_
                  refine ra_s0 (i := 13) rfl rfl rfl (Ys_store (i := 3) (s := 5) (B := B5) (T' := 55) (v := .agg #[.int .i64 r_9.Num.A, .int .i64 r_9.Num.B, .int .i64 r_9.Num.C, .int .i64 r_9.Num.D, .int .i64 r_9.Exp]) (vs := [.int .i64 r_9.Num.A, .int .i64 r_9.Num.B, .int .i64 r_9.Num.C, .int .i64 r_9.Num.D, .int .i64 r_9.Exp]) (k := 0) (cs' := [.int .i64 r_9.Num.A, .int .i64 r_9.Num.B, .int .i64 r_9.Num.C, .int .i64 r_9.Num.D, .int .i64 r_9.Exp]) hS55 k_sz_55_5 rfl (hf2.get 7 3 rfl) rfl rfl rfl rfl rfl (Nat.le_of_ble_eq_true rfl) rfl rfl) ?_ ?_
                  · rintro _ w_40 ⟨rfl, hS56⟩
                    have hS56 : ST w0 [] _ [⟨some ⟨b1, 0, none⟩, 30, [.slice B b.Cells.length c], 1⟩, ⟨B3, 30, [.slice B4 r_3.Cells.length c3], 1⟩, ⟨B4, 55, (r_3.Cells.flatMap enc_Dyadic), c3 * 5⟩, ⟨B5, 55, [.int .i64 r_9.Num.A, .int .i64 r_9.Num.B, .int .i64 r_9.Num.C, .int .i64 r_9.Num.D, .int .i64 r_9.Exp], 5⟩, ⟨some ⟨b3, 0, none⟩, 165, [.bool m5.bad], 1⟩] [⟨B, (b.Cells.flatMap enc_Dyadic)⟩] := hS56
                    refine ⟨(ST.sel hS56 [0, 1, 2] rfl rfl), ?_⟩
                    refine ra_done (by kernel_rfl) ?_
                    exact ⟨(FF.cons (hf2.get 1 0 rfl) (FF.cons (hf2.get 5 1 rfl) (FF.cons (hf2.get 6 2 rfl) (FF.cons (hf2.get 7 3 rfl) FF.nil)))), (hS56.sel [0, 4, 1, 2, 3] rfl rfl)⟩
                  exact allR_nil
                exact allR_nil
              exact allR_nil
            refine ra_c 66 (i := 11) rfl rfl rfl (Yc_func (g := 186) (vs := [.agg #[.int .i64 r_7.Num.A, .int .i64 r_7.Num.B, .int .i64 r_7.Num.C, .int .i64 r_7.Num.D, .int .i64 r_7.Exp]]) k_call_186 rfl (mc rfl mn) (c_spec_l2Neg r_7 _  (hS53.inn0 [] rfl) hc7)) ?_ ?_
            · rintro _ w_41 ⟨rfl, hd22⟩
              have hS57 := hS53.out00 hd22
              have hS57 : ST w0 [] _ [⟨some ⟨b1, 0, none⟩, 30, [.slice B b.Cells.length c], 1⟩, ⟨B3, 30, [.slice B4 r_3.Cells.length c3], 1⟩, ⟨B4, 55, (r_3.Cells.flatMap enc_Dyadic), c3 * 5⟩, ⟨B5, 55, [.int .i64 r_5.Num.A, .int .i64 r_5.Num.B, .int .i64 r_5.Num.C, .int .i64 r_5.Num.D, .int .i64 r_5.Exp], 5⟩, ⟨some ⟨b3, 0, none⟩, 165, [.bool m4.bad], 1⟩] [⟨B, (b.Cells.flatMap enc_Dyadic)⟩] := hS57
              refine ⟨(ST.sel hS57 [0, 1, 2] rfl rfl), ?_⟩
              refine ra_all (rs := [1]) (by kernel_rfl) rfl ?_
              refine ra_y 56 (i := 1) (v := .agg #[.int .i64 r_5.Num.A, .int .i64 r_5.Num.B, .int .i64 r_5.Num.C, .int .i64 r_5.Num.D, .int .i64 r_5.Exp]) rfl rfl rfl (Y_loadA (B := B5) (i := 0) (cs := [.int .i64 r_5.Num.A, .int .i64 r_5.Num.B, .int .i64 r_5.Num.C, .int .i64 r_5.Num.D, .int .i64 r_5.Exp]) (vs := [.int .i64 r_5.Num.A, .int .i64 r_5.Num.B, .int .i64 r_5.Num.C, .int .i64 r_5.Num.D, .int .i64 r_5.Exp]) k_ag_55 k_sz_55_5 rfl (hf2.get 7 3 rfl) (hS57.cf (i := 3) rfl) rfl rfl) (ST.sel hS57 [0, 1, 2] rfl rfl) ?_ ?_
              · skip
                refine ra_all (rs := [12]) (by kernel_rfl) rfl ?_
                refine ra_c 67 (i := 12) rfl rfl rfl (Yc_func (g := 185) (vs := [pt (some ⟨b3, 0, none⟩) 0, .agg #[.int .i64 r_5.Num.A, .int .i64 r_5.Num.B, .int .i64 r_5.Num.C, .int .i64 r_5.Num.D, .int .i64 r_5.Exp], .agg #[.int .i64 r_8.Num.A, .int .i64 r_8.Num.B, .int .i64 r_8.Num.C, .int .i64 r_8.Num.D, .int .i64 r_8.Exp]]) k_call_185 rfl (mc rfl (mc rfl (mc rfl mn))) (c_spec_l2C_add m4 r_5 r_8 (some ⟨b3, 0, none⟩) _  (hS57.inn [false, false, false, false, true] rfl [] rfl) hc8)) ?_ ?_
                · rintro _ w_42 ⟨rfl, hd23⟩
                  have hS58 := hS57.out [false, false, false, false, true] rfl hd23
                  have hS58 : ST w0 [] _ [⟨some ⟨b1, 0, none⟩, 30, [.slice B b.Cells.length c], 1⟩, ⟨B3, 30, [.slice B4 r_3.Cells.length c3], 1⟩, ⟨B4, 55, (r_3.Cells.flatMap enc_Dyadic), c3 * 5⟩, ⟨B5, 55, [.int .i64 r_5.Num.A, .int .i64 r_5.Num.B, .int .i64 r_5.Num.C, .int .i64 r_5.Num.D, .int .i64 r_5.Exp], 5⟩, ⟨some ⟨b3, 0, none⟩, 165, [.bool m5.bad], 1⟩] [⟨B, (b.Cells.flatMap enc_Dyadic)⟩] := hS58
                  refine ⟨(ST.sel hS58 [0, 1, 2] rfl rfl), ?_⟩
                  refine ra_all (rs := [13]) (by kernel_rfl) rfl ?_
                  refine ra_s0 (i := 13) rfl rfl rfl (Ys_store (i := 3) (s := 5) (B := B5) (T' := 55) (v := .agg #[.int .i64 r_9.Num.A, .int .i64 r_9.Num.B, .int .i64 r_9.Num.C, .int .i64 r_9.Num.D, .int .i64 r_9.Exp]) (vs := [.int .i64 r_9.Num.A, .int .i64 r_9.Num.B, .int .i64 r_9.Num.C, .int .i64 r_9.Num.D, .int .i64 r_9.Exp]) (k := 0) (cs' := [.int .i64 r_9.Num.A, .int .i64 r_9.Num.B, .int .i64 r_9.Num.C, .int .i64 r_9.Num.D, .int .i64 r_9.Exp]) hS58 k_sz_55_5 rfl (hf2.get 7 3 rfl) rfl rfl rfl rfl rfl (Nat.le_of_ble_eq_true rfl) rfl rfl) ?_ ?_
                  · rintro _ w_43 ⟨rfl, hS59⟩
                    have hS59 : ST w0 [] _ [⟨some ⟨b1, 0, none⟩, 30, [.slice B b.Cells.length c], 1⟩, ⟨B3, 30, [.slice B4 r_3.Cells.length c3], 1⟩, ⟨B4, 55, (r_3.Cells.flatMap enc_Dyadic), c3 * 5⟩, ⟨B5, 55, [.int .i64 r_9.Num.A, .int .i64 r_9.Num.B, .int .i64 r_9.Num.C, .int .i64 r_9.Num.D, .int .i64 r_9.Exp], 5⟩, ⟨some ⟨b3, 0, none⟩, 165, [.bool m5.bad], 1⟩] [⟨B, (b.Cells.flatMap enc_Dyadic)⟩] := hS59
                    refine ⟨(ST.sel hS59 [0, 1, 2] rfl rfl), ?_⟩
                    refine ra_done (by kernel_rfl) ?_
                    exact ⟨(FF.cons (hf2.get 1 0 rfl) (FF.cons (hf2.get 5 1 rfl) (FF.cons (hf2.get 6 2 rfl) (FF.cons (hf2.get 7 3 rfl) FF.nil)))), (hS59.sel [0, 4, 1, 2, 3] rfl rfl)⟩
                  exact allR_nil
                exact allR_nil
              exact allR_nil
            exact allR_nil
          exact allR_nil
        exact allR_nil
      rintro f w ⟨hf3, hS41⟩
      refine cw_seq ?_
      obtain ⟨x3, hx3, hF3⟩ := bind_inv hF3
      obtain ⟨⟨r_10, m6⟩, hc9, hF3⟩ := bind_inv hF3
      obtain ⟨⟨r_11, m7⟩, hc10, hF3⟩ := bind_inv hF3
      obtain ⟨⟨r_12, m8⟩, hc11, hF3⟩ := bind_inv hF3
      refine cw_mid (fun f w => FF f [(5, pt (some ⟨b3, 0, none⟩) 0), (6, pt B3 0), (7, pt B5 0)] ∧ ST w0 [] w [⟨some ⟨b3, 0, none⟩, 165, [.bool m8.bad], 1⟩, ⟨B3, 30, [.slice B4 r_3.Cells.length c3], 1⟩, ⟨B4, 55, (r_3.Cells.flatMap enc_Dyadic), c3 * 5⟩, ⟨B5, 55, [.int .i64 r_12.Num.A, .int .i64 r_12.Num.B, .int .i64 r_12.Num.C, .int .i64 r_12.Num.D, .int .i64 r_12.Exp], 5⟩] [⟨B, (b.Cells.flatMap enc_Dyadic)⟩]) ?_ ?_
      · skip
        refine ra_start (ST.sel hS41 [0, 2, 3] rfl rfl).fn (by kernel_rfl) ?_
        have hS64 := hS41.drew
        refine ra_q 0 68 (v := pt (some ⟨b3, 0, none⟩) 0) rfl rfl rfl (by kernel_rfl) (by kernel_rfl) (by kernel_rfl) (ST.sel hS64 [0, 2, 3] rfl rfl) (fun w' hw' => (Y_move (v := pt (some ⟨b3, 0, none⟩) 0) rfl (hf3.get 5 1 rfl))) ?_
        refine ra_q 2 70 (v := pt (some ⟨b3, 0, none⟩) 0) rfl rfl rfl (by kernel_rfl) (by kernel_rfl) (by kernel_rfl) (ST.sel hS64 [0, 2, 3] rfl rfl) (fun w' hw' => (Y_move (v := pt (some ⟨b3, 0, none⟩) 0) rfl (hf3.get 5 1 rfl))) ?_
        refine ra_q 3 71 (v := pt (some ⟨b1, 0, none⟩) 0) rfl rfl rfl (by kernel_rfl) (by kernel_rfl) (by kernel_rfl) (ST.sel hS64 [0, 2, 3] rfl rfl) (fun w' hw' => (Y_fieldAddr (B := some ⟨b1, 0, none⟩) (i := 0) (s := 0) k_fd_30_0_0_28 k_sz_28_1 rfl (hf3.get 1 0 rfl))) ?_
        refine ra_q 4 72 (v := .slice B b.Cells.length c) rfl rfl rfl (by kernel_rfl) (by kernel_rfl) (by kernel_rfl) (ST.sel hS64 [0, 2, 3] rfl rfl) (fun w' hw' => (Y_load1 (B := some ⟨b1, 0, none⟩) (i := 0) (cs := [.slice B b.Cells.length c]) (v := .slice B b.Cells.length c) k_sc_28 rfl rfl (ST.cf hw' (i := 0) rfl) rfl)) ?_
        refine ra_q 5 73 (v := pt B ((2 : Int).toNat * 5)) rfl rfl rfl (by kernel_rfl) (by kernel_rfl) (by kernel_rfl) (ST.sel hS64 [0, 2, 3] rfl rfl) (fun w' hw' => (Y_index (B := B) (m := b.Cells.length) (c := c) (k := .i64) (i := 2) k_sl_28_55 k_sz_55_5 rfl rfl rfl (gi_isSome enc_Dyadic_len rfl (ST.rf hw' (i := 0) rfl) hx3) (getI_nn hx3) (getI_ltI hx3 rfl))) ?_
        refine ra_q 6 74 (v := .agg #[.int .i64 x3.Num.A, .int .i64 x3.Num.B, .int .i64 x3.Num.C, .int .i64 x3.Num.D, .int .i64 x3.Exp]) rfl rfl rfl (by kernel_rfl) (by kernel_rfl) (by kernel_rfl) (ST.sel hS64 [0, 2, 3] rfl rfl) (fun w' hw' => (Y_loadA (B := B) (i := (2 : Int).toNat * 5) (cs := (b.Cells.flatMap enc_Dyadic)) (vs := [.int .i64 x3.Num.A, .int .i64 x3.Num.B, .int .i64 x3.Num.C, .int .i64 x3.Num.D, .int .i64 x3.Exp]) k_ag_55 k_sz_55_5 rfl rfl (ST.rf hw' (i := 0) rfl) (enc_Dyadic_len x3) (gi_seg enc_Dyadic_len hx3))) ?_
        refine ra_q 7 75 (v := pt (some ⟨b3, 0, none⟩) 0) rfl rfl rfl (by kernel_rfl) (by kernel_rfl) (by kernel_rfl) (ST.sel hS64 [0, 2, 3] rfl rfl) (fun w' hw' => (Y_move (v := pt (some ⟨b3, 0, none⟩) 0) rfl (hf3.get 5 1 rfl))) ?_
        refine ra_q 8 76 (v := .agg #[.slice B b.Cells.length c]) rfl rfl rfl (by kernel_rfl) (by kernel_rfl) (by kernel_rfl) (ST.sel hS64 [0, 2, 3] rfl rfl) (fun w' hw' => (Y_loadA (B := some ⟨b1, 0, none⟩) (i := 0) (cs := [.slice B b.Cells.length c]) (vs := [.slice B b.Cells.length c]) k_ag_30 k_sz_30_1 rfl (hf3.get 1 0 rfl) (ST.cf hw' (i := 0) rfl) rfl rfl)) ?_
        refine ra_all (rs := [1, 9]) (by kernel_rfl) rfl ?_
        refine ra_y 69 (i := 1) (v := .agg #[.int .i64 r_9.Num.A, .int .i64 r_9.Num.B, .int .i64 r_9.Num.C, .int .i64 r_9.Num.D, .int .i64 r_9.Exp]) rfl rfl rfl (Y_loadA (B := B5) (i := 0) (cs := [.int .i64 r_9.Num.A, .int .i64 r_9.Num.B, .int .i64 r_9.Num.C, .int .i64 r_9.Num.D, .int .i64 r_9.Exp]) (vs := [.int .i64 r_9.Num.A, .int .i64 r_9.Num.B, .int .i64 r_9.Num.C, .int .i64 r_9.Num.D, .int .i64 r_9.Exp]) k_ag_55 k_sz_55_5 rfl (hf3.get 7 3 rfl) (hS64.cf (i := 4) rfl) rfl rfl) (ST.sel hS64 [0, 2, 3] rfl rfl) ?_ ?_
        · skip
          refine ra_all (rs := [9]) (by kernel_rfl) rfl ?_
          refine ra_c 77 (i := 9) rfl rfl rfl (Yc_func (g := 184) (vs := [pt (some ⟨b3, 0, none⟩) 0, .agg #[.slice B b.Cells.length c], .int .i64 0, .int .i64 1]) k_call_184 rfl (mc rfl (mc rfl (mc rfl (mc rfl mn)))) (c_spec_l2C_minor m5 b 0 1 (some ⟨b3, 0, none⟩) B c b.Cells.length _ rfl (hS64.inn [false, true, false, false, false] rfl [(true, 0)] rfl) hc9)) ?_ ?_
          · rintro _ w_44 ⟨rfl, hd24⟩
            have hS65 := hS64.out [false, true, false, false, false] rfl hd24
            have hS65 : ST w0 [] _ [⟨some ⟨b1, 0, none⟩, 30, [.slice B b.Cells.length c], 1⟩, ⟨B3, 30, [.slice B4 r_3.Cells.length c3], 1⟩, ⟨B4, 55, (r_3.Cells.flatMap enc_Dyadic), c3 * 5⟩, ⟨B5, 55, [.int .i64 r_9.Num.A, .int .i64 r_9.Num.B, .int .i64 r_9.Num.C, .int .i64 r_9.Num.D, .int .i64 r_9.Exp], 5⟩, ⟨some ⟨b3, 0, none⟩, 165, [.bool m6.bad], 1⟩] [⟨B, (b.Cells.flatMap enc_Dyadic)⟩] := hS65
            refine ⟨(ST.sel hS65 [0, 1, 2] rfl rfl), ?_⟩
            refine ra_all (rs := [10]) (by kernel_rfl) rfl ?_
            refine ra_c 78 (i := 10) rfl rfl rfl (Yc_func (g := 183) (vs := [pt (some ⟨b3, 0, none⟩) 0, .agg #[.int .i64 x3.Num.A, .int .i64 x3.Num.B, .int .i64 x3.Num.C, .int .i64 x3.Num.D, .int .i64 x3.Exp], .agg #[.int .i64 r_10.Num.A, .int .i64 r_10.Num.B, .int .i64 r_10.Num.C, .int .i64 r_10.Num.D, .int .i64 r_10.Exp]]) k_call_183 rfl (mc rfl (mc rfl (mc rfl mn))) (c_spec_l2C_mul m6 x3 r_10 (some ⟨b3, 0, none⟩) _  (hS65.inn [false, false, false, false, true] rfl [] rfl) hc10)) ?_ ?_
            · rintro _ w_45 ⟨rfl, hd25⟩
              have hS66 := hS65.out [false, false, false, false, true] rfl hd25
              have hS66 : ST w0 [] _ [⟨some ⟨b1, 0, none⟩, 30, [.slice B b.Cells.length c], 1⟩, ⟨B3, 30, [.slice B4 r_3.Cells.length c3], 1⟩, ⟨B4, 55, (r_3.Cells.flatMap enc_Dyadic), c3 * 5⟩, ⟨B5, 55, [.int .i64 r_9.Num.A, .int .i64 r_9.Num.B, .int .i64 r_9.Num.C, .int .i64 r_9.Num.D, .int .i64 r_9.Exp], 5⟩, ⟨some ⟨b3, 0, none⟩, 165, [.bool m7.bad], 1⟩] [⟨B, (b.Cells.flatMap enc_Dyadic)⟩] := hS66
              refine ⟨(ST.sel hS66 [0, 1, 2] rfl rfl), ?_⟩
              refine ra_all (rs := [11]) (by kernel_rfl) rfl ?_
              refine ra_c 79 (i := 11) rfl rfl rfl (Yc_func (g := 185) (vs := [pt (some ⟨b3, 0, none⟩) 0, .agg #[.int .i64 r_9.Num.A, .int .i64 r_9.Num.B, .int .i64 r_9.Num.C, .int .i64 r_9.Num.D, .int .i64 r_9.Exp], .agg #[.int .i64 r_11.Num.A, .int .i64 r_11.Num.B, .int .i64 r_11.Num.C, .int .i64 r_11.Num.D, .int .i64 r_11.Exp]]) k_call_185 rfl (mc rfl (mc rfl (mc rfl mn))) (c_spec_l2C_add m7 r_9 r_11 (some ⟨b3, 0, none⟩) _  (hS66.inn [false, false, false, false, true] rfl [] rfl) hc11)) ?_ ?_
              · rintro _ w_46 ⟨rfl, hd26⟩
                have hS67 := hS66.out [false, false, false, false, true] rfl hd26
                have hS67 : ST w0 [] _ [⟨some ⟨b1, 0, none⟩, 30, [.slice B b.Cells.length c], 1⟩, ⟨B3, 30, [.slice B4 r_3.Cells.length c3], 1⟩, ⟨B4, 55, (r_3.Cells.flatMap enc_Dyadic), c3 * 5⟩, ⟨B5, 55, [.int .i64 r_9.Num.A, .int .i64 r_9.Num.B, .int .i64 r_9.Num.C, .int .i64 r_9.Num.D, .int .i64 r_9.Exp], 5⟩, ⟨some ⟨b3, 0, none⟩, 165, [.bool m8.bad], 1⟩] [⟨B, (b.Cells.flatMap enc_Dyadic)⟩] := hS67
                refine ⟨(ST.sel hS67 [0, 1, 2] rfl rfl), ?_⟩
                refine ra_all (rs := [12]) (by kernel_rfl) rfl ?_
                refine ra_s0 (i := 12) rfl rfl rfl (Ys_store (i := 3) (s := 5) (B := B5) (T' := 55) (v := .agg #[.int .i64 r_12.Num.A, .int .i64 r_12.Num.B, .int .i64 r_12.Num.C, .int .i64 r_12.Num.D, .int .i64 r_12.Exp]) (vs := [.int .i64 r_12.Num.A, .int .i64 r_12.Num.B, .int .i64 r_12.Num.C, .int .i64 r_12.Num.D, .int .i64 r_12.Exp]) (k := 0) (cs' := [.int .i64 r_12.Num.A, .int .i64 r_12.Num.B, .int .i64 r_12.Num.C, .int .i64 r_12.Num.D, .int .i64 r_12.Exp]) hS67 k_sz_55_5 rfl (hf3.get 7 3 rfl) rfl rfl rfl rfl rfl (Nat.le_of_ble_eq_true rfl) rfl rfl) ?_ ?_
                · rintro _ w_47 ⟨rfl, hS68⟩
                  have hS68 : ST w0 [] _ [⟨some ⟨b1, 0, none⟩, 30, [.slice B b.Cells.length c], 1⟩, ⟨B3, 30, [.slice B4 r_3.Cells.length c3], 1⟩, ⟨B4, 55, (r_3.Cells.flatMap enc_Dyadic), c3 * 5⟩, ⟨B5, 55, [.int .i64 r_12.Num.A, .int .i64 r_12.Num.B, .int .i64 r_12.Num.C, .int .i64 r_12.Num.D, .int .i64 r_12.Exp], 5⟩, ⟨some ⟨b3, 0, none⟩, 165, [.bool m8.bad], 1⟩] [⟨B, (b.Cells.flatMap enc_Dyadic)⟩] := hS68
                  refine ⟨(ST.sel hS68 [0, 1, 2] rfl rfl), ?_⟩
                  refine ra_done (by kernel_rfl) ?_
                  exact ⟨(FF.cons (hf3.get 5 1 rfl) (FF.cons (hf3.get 6 2 rfl) (FF.cons (hf3.get 7 3 rfl) FF.nil))), (hS68.sel [4, 1, 2, 3] rfl rfl)⟩
                exact allR_nil
              exact allR_nil
            exact allR_nil
          exact allR_nil
        refine ra_c 77 (i := 9) rfl rfl rfl (Yc_func (g := 184) (vs := [pt (some ⟨b3, 0, none⟩) 0, .agg #[.slice B b.Cells.length c], .int .i64 0, .int .i64 1]) k_call_184 rfl (mc rfl (mc rfl (mc rfl (mc rfl mn)))) (c_spec_l2C_minor m5 b 0 1 (some ⟨b3, 0, none⟩) B c b.Cells.length _ rfl (hS64.inn [false, true, false, false, false] rfl [(true, 0)] rfl) hc9)) ?_ ?_
        · rintro _ w_48 ⟨rfl, hd27⟩
          have hS69 := hS64.out [false, true, false, false, false] rfl hd27
          have hS69 : ST w0 [] _ [⟨some ⟨b1, 0, none⟩, 30, [.slice B b.Cells.length c], 1⟩, ⟨B3, 30, [.slice B4 r_3.Cells.length c3], 1⟩, ⟨B4, 55, (r_3.Cells.flatMap enc_Dyadic), c3 * 5⟩, ⟨B5, 55, [.int .i64 r_9.Num.A, .int .i64 r_9.Num.B, .int .i64 r_9.Num.C, .int .i64 r_9.Num.D, .int .i64 r_9.Exp], 5⟩, ⟨some ⟨b3, 0, none⟩, 165, [.bool m6.bad], 1⟩] [⟨B, (b.Cells.flatMap enc_Dyadic)⟩] := hS69
          refine ⟨(ST.sel hS69 [0, 1, 2] rfl rfl), ?_⟩
          refine ra_all (rs := [1, 10]) (by kernel_rfl) rfl ?_
          refine ra_y 69 (i := 1) (v := .agg #[.int .i64 r_9.Num.A, .int .i64 r_9.Num.B, .int .i64 r_9.Num.C, .int .i64 r_9.Num.D, .int .i64 r_9.Exp]) rfl rfl rfl (Y_loadA (B := B5) (i := 0) (cs := [.int .i64 r_9.Num.A, .int .i64 r_9.Num.B, .int .i64 r_9.Num.C, .int .i64 r_9.Num.D, .int .i64 r_9.Exp]) (vs := [.int .i64 r_9.Num.A, .int .i64 r_9.Num.B, .int .i64 r_9.Num.C, .int .i64 r_9.Num.D, .int .i64 r_9.Exp]) k_ag_55 k_sz_55_5 rfl (hf3.get 7 3 rfl) (hS69.cf (i := 3) rfl) rfl rfl) (ST.sel hS69 [0, 1, 2] rfl rfl) ?_ ?_
          · skip
            refine ra_all (rs := [10]) (by kernel_rfl) rfl ?_
            refine ra_c 78 (i := 10) rfl rfl rfl (Yc_func (g := 183) (vs := [pt (some ⟨b3, 0, none⟩) 0, .agg #[.int .i64 x3.Num.A, .int .i64 x3.Num.B, .int .i64 x3.Num.C, .int .i64 x3.Num.D, .int .i64 x3.Exp], .agg #[.int .i64 r_10.Num.A, .int .i64 r_10.Num.B, .int .i64 r_10.Num.C, .int .i64 r_10.Num.D, .int .i64 r_10.Exp]]) k_call_183 rfl (mc rfl (mc rfl (mc rfl mn))) (c_spec_l2C_mul m6 x3 r_10 (some ⟨b3, 0, none⟩) _  (hS69.inn [false, false, false, false, true] rfl [] rfl) hc10)) ?_ ?_
            · rintro _ w_49 ⟨rfl, hd28⟩
              have hS70 := hS69.out [false, false, false, false, true] rfl hd28
              have hS70 : ST w0 [] _ [⟨some ⟨b1, 0, none⟩, 30, [.slice B b.Cells.length c], 1⟩, ⟨B3, 30, [.slice B4 r_3.Cells.length c3], 1⟩, ⟨B4, 55, (r_3.Cells.flatMap enc_Dyadic), c3 * 5⟩, ⟨B5, 55, [.int .i64 r_9.Num.A, .int .i64 r_9.Num.B, .int .i64 r_9.Num.C, .int .i64 r_9.Num.D, .int .i64 r_9.Exp], 5⟩, ⟨some ⟨b3, 0, none⟩, 165, [.bool m7.bad], 1⟩] [⟨B, (b.Cells.flatMap enc_Dyadic)⟩] := hS70
              refine ⟨(ST.sel hS70 [0, 1, 2] rfl rfl), ?_⟩
              refine ra_all (rs := [11]) (by kernel_rfl) rfl ?_
              refine ra_c 79 (i := 11) rfl rfl rfl (Yc_func (g := 185) (vs := [pt (some ⟨b3, 0, none⟩) 0, .agg #[.int .i64 r_9.Num.A, .int .i64 r_9.Num.B, .int .i64 r_9.Num.C, .int .i64 r_9.Num.D, .int .i64 r_9.Exp], .agg #[.int .i64 r_11.Num.A, .int .i64 r_11.Num.B, .int .i64 r_11.Num.C, .int .i64 r_11.Num.D, .int .i64 r_11.Exp]]) k_call_185 rfl (mc rfl (mc rfl (mc rfl mn))) (c_spec_l2C_add m7 r_9 r_11 (some ⟨b3, 0, none⟩) _  (hS70.inn [false, false, false, false, true] rfl [] rfl) hc11)) ?_ ?_
              · rintro _ w_50 ⟨rfl, hd29⟩
                have hS71 := hS70.out [false, false, false, false, true] rfl hd29
                have hS71 : ST w0 [] _ [⟨some ⟨b1, 0, none⟩, 30, [.slice B b.Cells.length c], 1⟩, ⟨B3, 30, [.slice B4 r_3.Cells.length c3], 1⟩, ⟨B4, 55, (r_3.Cells.flatMap enc_Dyadic), c3 * 5⟩, ⟨B5, 55, [.int .i64 r_9.Num.A, .int .i64 r_9.Num.B, .int .i64 r_9.Num.C, .int .i64 r_9.Num.D, .int .i64 r_9.Exp], 5⟩, ⟨some ⟨b3, 0, none⟩, 165, [.bool m8.bad], 1⟩] [⟨B, (b.Cells.flatMap enc_Dyadic)⟩] := hS71
                refine ⟨(ST.sel hS71 [0, 1, 2] rfl rfl), ?_⟩
                refine ra_all (rs := [12]) (by kernel_rfl) rfl ?_
                refine ra_s0 (i := 12) rfl rfl rfl (Ys_store (i := 3) (s := 5) (B := B5) (T' := 55) (v := .agg #[.int .i64 r_12.Num.A, .int .i64 r_12.Num.B, .int .i64 r_12.Num.C, .int .i64 r_12.Num.D, .int .i64 r_12.Exp]) (vs := [.int .i64 r_12.Num.A, .int .i64 r_12.Num.B, .int .i64 r_12.Num.C, .int .i64 r_12.Num.D, .int .i64 r_12.Exp]) (k := 0) (cs' := [.int .i64 r_12.Num.A, .int .i64 r_12.Num.B, .int .i64 r_12.Num.C, .int .i64 r_12.Num.D, .int .i64 r_12.Exp]) hS71 k_sz_55_5 rfl (hf3.get 7 3 rfl) rfl rfl rfl rfl rfl (Nat.le_of_ble_eq_true rfl) rfl rfl) ?_ ?_
                · rintro _ w_51 ⟨rfl, hS72⟩
                  have hS72 : ST w0 [] _ [⟨some ⟨b1, 0, none⟩, 30, [.slice B b.Cells.length c], 1⟩, ⟨B3, 30, [.slice B4 r_3.Cells.length c3], 1⟩, ⟨B4, 55, (r_3.Cells.flatMap enc_Dyadic), c3 * 5⟩, ⟨B5, 55, [.int .i64 r_12.Num.A, .int .i64 r_12.Num.B, .int .i64 r_12.Num.C, .int .i64 r_12.Num.D, .int .i64 r_12.Exp], 5⟩, ⟨some ⟨b3, 0, none⟩, 165, [.bool m8.bad], 1⟩] [⟨B, (b.Cells.flatMap enc_Dyadic)⟩] := hS72
                  refine ⟨(ST.sel hS72 [0, 1, 2] rfl rfl), ?_⟩
                  refine ra_done (by kernel_rfl) ?_
                  exact ⟨(FF.cons (hf3.get 5 1 rfl) (FF.cons (hf3.get 6 2 rfl) (FF.cons (hf3.get 7 3 rfl) FF.nil))), (hS72.sel [4, 1, 2, 3] rfl rfl)⟩
                exact allR_nil
              exact allR_nil
            exact allR_nil
          refine ra_c 78 (i := 10) rfl rfl rfl (Yc_func (g := 183) (vs := [pt (some ⟨b3, 0, none⟩) 0, .agg #[.int .i64 x3.Num.A, .int .i64 x3.Num.B, .int .i64 x3.Num.C, .int .i64 x3.Num.D, .int .i64 x3.Exp], .agg #[.int .i64 r_10.Num.A, .int .i64 r_10.Num.B, .int .i64 r_10.Num.C, .int .i64 r_10.Num.D, .int .i64 r_10.Exp]]) k_call_183 rfl (mc rfl (mc rfl (mc rfl mn))) (c_spec_l2C_mul m6 x3 r_10 (some ⟨b3, 0, none⟩) _  (hS69.inn [false, false, false, false, true] rfl [] rfl) hc10)) ?_ ?_
          · rintro _ w_52 ⟨rfl, hd30⟩
            have hS73 := hS69.out [false, false, false, false, true] rfl hd30
            have hS73 : ST w0 [] _ [⟨some ⟨b1, 0, none⟩, 30, [.slice B b.Cells.length c], 1⟩, ⟨B3, 30, [.slice B4 r_3.Cells.length c3], 1⟩, ⟨B4, 55, (r_3.Cells.flatMap enc_Dyadic), c3 * 5⟩, ⟨B5, 55, [.int .i64 r_9.Num.A, .int .i64 r_9.Num.B, .int .i64 r_9.Num.C, .int .i64 r_9.Num.D, .int .i64 r_9.Exp], 5⟩, ⟨some ⟨b3, 0, none⟩, 165, [.bool m7.bad], 1⟩] [⟨B, (b.Cells.flatMap enc_Dyadic)⟩] := hS73
            refine ⟨(ST.sel hS73 [0, 1, 2] rfl rfl), ?_⟩
            refine ra_all (rs := [1]) (by kernel_rfl) rfl ?_
            refine ra_y 69 (i := 1) (v := .agg #[.int .i64 r_9.Num.A, .int .i64 r_9.Num.B, .int .i64 r_9.Num.C, .int .i64 r_9.Num.D, .int .i64 r_9.Exp]) rfl rfl rfl (Y_loadA (B := B5) (i := 0) (cs := [.int .i64 r_9.Num.A, .int .i64 r_9.Num.B, .int .i64 r_9.Num.C, .int .i64 r_9.Num.D, .int .i64 r_9.Exp]) (vs := [.int .i64 r_9.Num.A, .int .i64 r_9.Num.B, .int .i64 r_9.Num.C, .int .i64 r_9.Num.D, .int .i64 r_9.Exp]) k_ag_55 k_sz_55_5 rfl (hf3.get 7 3 rfl) (hS73.cf (i := 3) rfl) rfl rfl) (ST.sel hS73 [0, 1, 2] rfl rfl) ?_ ?_
            · skip
              refine ra_all (rs := [11]) (by kernel_rfl) rfl ?_
              refine ra_c 79 (i := 11) rfl rfl rfl (Yc_func (g := 185) (vs := [pt (some ⟨b3, 0, none⟩) 0, .agg #[.int .i64 r_9.Num.A, .int .i64 r_9.Num.B, .int .i64 r_9.Num.C, .int .i64 r_9.Num.D, .int .i64 r_9.Exp], .agg #[.int .i64 r_11.Num.A, .int .i64 r_11.Num.B, .int .i64 r_11.Num.C, .int .i64 r_11.Num.D, .int .i64 r_11.Exp]]) k_call_185 rfl (mc rfl (mc rfl (mc rfl mn))) (c_spec_l2C_add m7 r_9 r_11 (some ⟨b3, 0, none⟩) _  (hS73.inn [false, false, false, false, true] rfl [] rfl) hc11)) ?_ ?_
              · rintro _ w_53 ⟨rfl, hd31⟩
                have hS74 := hS73.out [false, false, false, false, true] rfl hd31
                have hS74 : ST w0 [] _ [⟨some ⟨b1, 0, none⟩, 30, [.slice B b.Cells.length c], 1⟩, ⟨B3, 30, [.slice B4 r_3.Cells.length c3], 1⟩, ⟨B4, 55, (r_3.Cells.flatMap enc_Dyadic), c3 * 5⟩, ⟨B5, 55, [.int .i64 r_9.Num.A, .int .i64 r_9.Num.B, .int .i64 r_9.Num.C, .int .i64 r_9.Num.D, .int .i64 r_9.Exp], 5⟩, ⟨some ⟨b3, 0, none⟩, 165, [.bool m8.bad], 1⟩] [⟨B, (b.Cells.flatMap enc_Dyadic)⟩] := hS74
                refine ⟨(ST.sel hS74 [0, 1, 2] rfl rfl), ?_⟩
                refine ra_all (rs := [12]) (by kernel_rfl) rfl ?_
                refine ra_s0 (i := 12) rfl rfl rfl (Ys_store (i := 3) (s := 5) (B := B5) (T' := 55) (v := .agg #[.int .i64 r_12.Num.A, .int .i64 r_12.Num.B, .int .i64 r_12.Num.C, .int .i64 r_12.Num.D, .int .i64 r_12.Exp]) (vs := [.int .i64 r_12.Num.A, .int .i64 r_12.Num.B, .int .i64 r_12.Num.C, .int .i64 r_12.Num.D, .int .i64 r_12.Exp]) (k := 0) (cs' := [.int .i64 r_12.Num.A, .int .i64 r_12.Num.B, .int .i64 r_12.Num.C, .int .i64 r_12.Num.D, .int .i64 r_12.Exp]) hS74 k_sz_55_5 rfl (hf3.get 7 3 rfl) rfl rfl rfl rfl rfl (Nat.le_of_ble_eq_true rfl) rfl rfl) ?_ ?_
                · rintro _ w_54 ⟨rfl, hS75⟩
                  have hS75 : ST w0 [] _ [⟨some ⟨b1, 0, none⟩, 30, [.slice B b.Cells.length c], 1⟩, ⟨B3, 30, [.slice B4 r_3.Cells.length c3], 1⟩, ⟨B4, 55, (r_3.Cells.flatMap enc_Dyadic), c3 * 5⟩, ⟨B5, 55, [.int .i64 r_12.Num.A, .int .i64 r_12.Num.B, .int .i64 r_12.Num.C, .int .i64 r_12.Num.D, .int .i64 r_12.Exp], 5⟩, ⟨some ⟨b3, 0, none⟩, 165, [.bool m8.bad], 1⟩] [⟨B, (b.Cells.flatMap enc_Dyadic)⟩] := hS75
                  refine ⟨(ST.sel hS75 [0, 1, 2] rfl rfl), ?_⟩
                  refine ra_done (by kernel_rfl) ?_
                  exact ⟨(FF.cons (hf3.get 5 1 rfl) (FF.cons (hf3.get 6 2 rfl) (FF.cons (hf3.get 7 3 rfl) FF.nil))), (hS75.sel [4, 1, 2, 3] rfl rfl)⟩
                exact allR_nil
              exact allR_nil
            exact allR_nil
          exact allR_nil
        exact allR_nil
      rintro f w ⟨hf4, hS63⟩
      refine cw_seq ?_
      refine cw_split (B := (!m8.bad)) (fun hb3 => ?_) (fun hb3 => ?_)
      · skip
        have hF6 := ct hF3 hb3
        obtain ⟨r_13, hc12, hF6⟩ := bind_inv hF6
        obtain ⟨r_14, hc13, hF6⟩ := bind_inv hF6
        obtain ⟨r_15, hc14, hF6⟩ := bind_inv hF6
        refine ra_start (ST.sel hS63 [0, 1, 2, 3] rfl rfl).fn (by kernel_rfl) ?_
        have hS79 := hS63.drew
        refine ra_q 0 80 (v := pt (some ⟨b3, 0, none⟩) 0) rfl rfl rfl (by kernel_rfl) (by kernel_rfl) (by kernel_rfl) (ST.sel hS79 [0, 1, 2, 3] rfl rfl) (fun w' hw' => (Y_move (v := pt (some ⟨b3, 0, none⟩) 0) rfl (hf4.get 5 0 rfl))) ?_
        refine ra_q 1 81 (v := pt (some ⟨b3, 0, none⟩) 0) rfl rfl rfl (by kernel_rfl) (by kernel_rfl) (by kernel_rfl) (ST.sel hS79 [0, 1, 2, 3] rfl rfl) (fun w' hw' => (Y_nilCheck (B := some ⟨b3, 0, none⟩) (i := 0) rfl rfl)) ?_
        refine ra_q 2 82 (v := pt (some ⟨b3, 0, none⟩) 0) rfl rfl rfl (by kernel_rfl) (by kernel_rfl) (by kernel_rfl) (ST.sel hS79 [0, 1, 2, 3] rfl rfl) (fun w' hw' => (Y_fieldAddr (B := some ⟨b3, 0, none⟩) (i := 0) (s := 0) k_fd_165_0_0_4 k_sz_4_1 rfl rfl)) ?_
        refine ra_q 3 83 (v := .bool m8.bad) rfl rfl rfl (by kernel_rfl) (by kernel_rfl) (by kernel_rfl) (ST.sel hS79 [0, 1, 2, 3] rfl rfl) (fun w' hw' => (Y_load1 (B := some ⟨b3, 0, none⟩) (i := 0) (cs := [.bool m8.bad]) (v := .bool m8.bad) k_sc_4 rfl rfl (ST.cf hw' (i := 0) rfl) rfl)) ?_
        refine ra_q 4 84 (v := .bool (!m8.bad)) rfl rfl rfl (by kernel_rfl) (by kernel_rfl) (by kernel_rfl) (ST.sel hS79 [0, 1, 2, 3] rfl rfl) (fun w' hw' => (Y_not (p := m8.bad) rfl rfl)) ?_
        refine ra_q 5 85 (v := .bool (!m8.bad)) rfl rfl rfl (by kernel_rfl) (by kernel_rfl) (by kernel_rfl) (ST.sel hS79 [0, 1, 2, 3] rfl rfl) (fun w' hw' => (Y_move (v := .bool (!m8.bad)) rfl rfl)) ?_
        refine ra_gq 6 86 (B := (!m8.bad)) (v := .agg #[.slice B4 r_3.Cells.length c3]) rfl rfl rfl (wt_t (gd_of (t := 85) (by kernel_rfl) rfl)) (by kernel_rfl) (by kernel_rfl) (by kernel_rfl) (ST.sel hS79 [0, 1, 2, 3] rfl rfl) (fun hg12 w' hw' => (Y_loadA (B := B3) (i := 0) (cs := [.slice B4 r_3.Cells.length c3]) (vs := [.slice B4 r_3.Cells.length c3]) k_ag_30 k_sz_30_1 rfl (hf4.get 6 1 rfl) (ST.cf hw' (i := 1) rfl) rfl rfl)) ?_
        refine ra_all (rs := [7]) (by kernel_rfl) rfl ?_
        refine ra_cg 87 (i := 7) rfl rfl rfl (wt_t (gd_of (t := 85) (by kernel_rfl) rfl)) hb3 (Yc_func (g := 188) (vs := []) k_call_188 rfl mn (c_spec_l9Unit  _  (hS79.inn0 [] rfl) hc12)) ?_ ?_
        · rintro _ w_55 ⟨B6, c4, rfl, hd32⟩
          have hS80 := hS79.out0 hd32
          have hS80 : ST w0 [] _ [⟨some ⟨b3, 0, none⟩, 165, [.bool m8.bad], 1⟩, ⟨B3, 30, [.slice B4 r_3.Cells.length c3], 1⟩, ⟨B4, 55, (r_3.Cells.flatMap enc_Dyadic), c3 * 5⟩, ⟨B5, 55, [.int .i64 r_12.Num.A, .int .i64 r_12.Num.B, .int .i64 r_12.Num.C, .int .i64 r_12.Num.D, .int .i64 r_12.Exp], 5⟩, ⟨B6, 55, (r_13.Cells.flatMap enc_Dyadic), c4 * 5⟩] [⟨B, (b.Cells.flatMap enc_Dyadic)⟩] := hS80
          refine ⟨(ST.sel hS80 [0, 1, 2, 3] rfl rfl), ?_⟩
          refine ra_all (rs := [8]) (by kernel_rfl) rfl ?_
          refine ra_cg 88 (i := 8) rfl rfl rfl (wt_t (gd_of (t := 85) (by kernel_rfl) rfl)) hb3 (Yc_func (g := 187) (vs := [.agg #[.slice B4 r_3.Cells.length c3], .agg #[.slice B6 r_13.Cells.length c4]]) k_call_187 rfl (mc (gv_of (B := (!m8.bad)) (v := .agg #[.slice B4 r_3.Cells.length c3]) hb3) (mc rfl mn)) (c_spec_l9Same r_3 r_13 B4 c3 r_3.Cells.length B6 c4 r_13.Cells.length _ rfl rfl (hS80.inn0 [(false, 2), (false, 4)] rfl) hc13)) ?_ ?_
          · rintro _ w_56 ⟨rfl, hd33⟩
            have hS81 := hS80.out00 hd33
            have hS81 : ST w0 [] _ [⟨some ⟨b3, 0, none⟩, 165, [.bool m8.bad], 1⟩, ⟨B3, 30, [.slice B4 r_3.Cells.length c3], 1⟩, ⟨B4, 55, (r_3.Cells.flatMap enc_Dyadic), c3 * 5⟩, ⟨B5, 55, [.int .i64 r_12.Num.A, .int .i64 r_12.Num.B, .int .i64 r_12.Num.C, .int .i64 r_12.Num.D, .int .i64 r_12.Exp], 5⟩, ⟨B6, 55, (r_13.Cells.flatMap enc_Dyadic), c4 * 5⟩] [⟨B, (b.Cells.flatMap enc_Dyadic)⟩] := hS81
            refine ⟨(ST.sel hS81 [0, 1, 2, 3] rfl rfl), ?_⟩
            refine ra_q 9 89 (v := .bool r_14) rfl rfl rfl (by kernel_rfl) (by kernel_rfl) (by kernel_rfl) (ST.sel hS81 [0, 1, 2, 3] rfl rfl) (fun w' hw' => (Y_pickT (b := (!m8.bad)) (v := .bool r_14) rfl rfl hb3 rfl)) ?_
            refine ra_q 10 90 (v := .bool r_14) rfl rfl rfl (by kernel_rfl) (by kernel_rfl) (by kernel_rfl) (ST.sel hS81 [0, 1, 2, 3] rfl rfl) (fun w' hw' => (Y_move (v := .bool r_14) rfl rfl)) ?_
            refine ra_gq 11 91 (B := r_14) (v := .agg #[.int .i64 r_12.Num.A, .int .i64 r_12.Num.B, .int .i64 r_12.Num.C, .int .i64 r_12.Num.D, .int .i64 r_12.Exp]) rfl rfl rfl (wt_t (gd_of (t := 90) (by kernel_rfl) rfl)) (by kernel_rfl) (by kernel_rfl) (by kernel_rfl) (ST.sel hS81 [0, 1, 2, 3] rfl rfl) (fun hg13 w' hw' => (Y_loadA (B := B5) (i := 0) (cs := [.int .i64 r_12.Num.A, .int .i64 r_12.Num.B, .int .i64 r_12.Num.C, .int .i64 r_12.Num.D, .int .i64 r_12.Exp]) (vs := [.int .i64 r_12.Num.A, .int .i64 r_12.Num.B, .int .i64 r_12.Num.C, .int .i64 r_12.Num.D, .int .i64 r_12.Exp]) k_ag_55 k_sz_55_5 rfl (hf4.get 7 2 rfl) (ST.cf hw' (i := 3) rfl) rfl rfl)) ?_
            refine ra_all (rs := [12]) (by kernel_rfl) rfl ?_
            refine ra_gc 92 (i := 12) (B := r_14) (v := .agg #[.int .i64 r_15.Num.A, .int .i64 r_15.Num.B, .int .i64 r_15.Num.C, .int .i64 r_15.Num.D, .int .i64 r_15.Exp]) (F := hS81.fn) rfl rfl rfl (wt_t (gd_of (t := 90) (by kernel_rfl) rfl)) hS81 (fun hg14 => (Yc_func (g := 189) (vs := [.int .i64 0]) k_call_189 rfl (mc rfl mn) (CV.mono (c_spec_l2Power 0 _  (hS81.inn0 [] rfl) (gb_inv hc14 hg14)) (by rintro _ _ ⟨rfl, h⟩; exact ⟨rfl, hS81.out00 h⟩)))) ?_ ?_
            · rintro w_57 hS82
              have hS82 : ST _ _ w_57 _ _ := hS82
              refine ⟨(ST.sel hS82 [0, 1, 2, 3] rfl rfl), ?_⟩
              refine ra_gq 13 93 (B := r_14) (v := .bool (((r_12.Num.A == r_15.Num.A) && ((r_12.Num.B == r_15.Num.B) && ((r_12.Num.C == r_15.Num.C) && ((r_12.Num.D == r_15.Num.D) && true)))) && ((r_12.Exp == r_15.Exp) && true))) rfl rfl rfl (wt_t (gd_of (t := 90) (by kernel_rfl) rfl)) (by kernel_rfl) (by kernel_rfl) (by kernel_rfl) (ST.sel hS82 [0, 1, 2, 3] rfl rfl) (fun hg15 w' hw' => (Y_eqA (xs := #[.int .i64 r_12.Num.A, .int .i64 r_12.Num.B, .int .i64 r_12.Num.C, .int .i64 r_12.Num.D, .int .i64 r_12.Exp]) (ys := #[.int .i64 r_15.Num.A, .int .i64 r_15.Num.B, .int .i64 r_15.Num.C, .int .i64 r_15.Num.D, .int .i64 r_15.Exp]) (b := (((r_12.Num.A == r_15.Num.A) && ((r_12.Num.B == r_15.Num.B) && ((r_12.Num.C == r_15.Num.C) && ((r_12.Num.D == r_15.Num.D) && true)))) && ((r_12.Exp == r_15.Exp) && true))) k_eg_55 rfl (gv_of (B := r_14) (v := .agg #[.int .i64 r_12.Num.A, .int .i64 r_12.Num.B, .int .i64 r_12.Num.C, .int .i64 r_12.Num.D, .int .i64 r_12.Exp]) hg15) (gv_of (B := r_14) (v := .agg #[.int .i64 r_15.Num.A, .int .i64 r_15.Num.B, .int .i64 r_15.Num.C, .int .i64 r_15.Num.D, .int .i64 r_15.Exp]) hg15) (eqr_struct (xs := [.int .i64 r_12.Num.A, .int .i64 r_12.Num.B, .int .i64 r_12.Num.C, .int .i64 r_12.Num.D, .int .i64 r_12.Exp]) (ys := [.int .i64 r_15.Num.A, .int .i64 r_15.Num.B, .int .i64 r_15.Num.C, .int .i64 r_15.Num.D, .int .i64 r_15.Exp]) k_st_55 k_ho_55 (pts_ag (us := [.int .i64 r_12.Num.A, .int .i64 r_12.Num.B, .int .i64 r_12.Num.C, .int .i64 r_12.Num.D]) (vs := [.int .i64 r_15.Num.A, .int .i64 r_15.Num.B, .int .i64 r_15.Num.C, .int .i64 r_15.Num.D]) k_ag_53 k_sz_53_4 rfl rfl (eqr_struct (xs := [.int .i64 r_12.Num.A, .int .i64 r_12.Num.B, .int .i64 r_12.Num.C, .int .i64 r_12.Num.D]) (ys := [.int .i64 r_15.Num.A, .int .i64 r_15.Num.B, .int .i64 r_15.Num.C, .int .i64 r_15.Num.D]) k_st_53 k_ho_53 (pts_sc k_sc_3 rfl rfl (eqr_int k_int_3_i64) (pts_sc k_sc_3 rfl rfl (eqr_int k_int_3_i64) (pts_sc k_sc_3 rfl rfl (eqr_int k_int_3_i64) (pts_sc k_sc_3 rfl rfl (eqr_int k_int_3_i64) pts_nil))))) (pts_sc k_sc_3 rfl rfl (eqr_int k_int_3_i64) pts_nil))))) ?_
              refine ra_q 14 94 (v := .bool (r_14 && (((r_12.Num.A == r_15.Num.A) && ((r_12.Num.B == r_15.Num.B) && ((r_12.Num.C == r_15.Num.C) && ((r_12.Num.D == r_15.Num.D) && true)))) && ((r_12.Exp == r_15.Exp) && true)))) rfl rfl rfl (by kernel_rfl) (by kernel_rfl) (by kernel_rfl) (ST.sel hS82 [0, 1, 2, 3] rfl rfl) (fun w' hw' => (Y_and (b := r_14) (z := (((r_12.Num.A == r_15.Num.A) && ((r_12.Num.B == r_15.Num.B) && ((r_12.Num.C == r_15.Num.C) && ((r_12.Num.D == r_15.Num.D) && true)))) && ((r_12.Exp == r_15.Exp) && true))) rfl rfl rfl rfl)) ?_
              refine ra_q 15 2 (v := .bool (r_14 && (((r_12.Num.A == r_15.Num.A) && ((r_12.Num.B == r_15.Num.B) && ((r_12.Num.C == r_15.Num.C) && ((r_12.Num.D == r_15.Num.D) && true)))) && ((r_12.Exp == r_15.Exp) && true)))) rfl rfl rfl (by kernel_rfl) (by kernel_rfl) (by kernel_rfl) (ST.sel hS82 [0, 1, 2, 3] rfl rfl) (fun w' hw' => (Y_assign (v := .bool (r_14 && (((r_12.Num.A == r_15.Num.A) && ((r_12.Num.B == r_15.Num.B) && ((r_12.Num.C == r_15.Num.C) && ((r_12.Num.D == r_15.Num.D) && true)))) && ((r_12.Exp == r_15.Exp) && true)))) rfl rfl)) ?_
              refine ra_done (by kernel_rfl) ?_
              refine cw_ret ?_
              obtain rfl := some_inj hF6
              exact ret1 Try.results82 (v1 := .bool (r_14 && (((r_12.Num.A == r_15.Num.A) && ((r_12.Num.B == r_15.Num.B) && ((r_12.Num.C == r_15.Num.C) && ((r_12.Num.D == r_15.Num.D) && true)))) && ((r_12.Exp == r_15.Exp) && true)))) (resAt_tmp rfl) ⟨rfl, (ST.subR (R' := []) (hS82.sel [] rfl rfl) (fun _ h => by cases h))⟩
            exact allR_nil
          exact allR_nil
        exact allR_nil
      · skip
        have hF7 := cf' hF3 hb3
        obtain ⟨r_16, hc15, hF7⟩ := bind_inv hF7
        refine ra_start (ST.sel hS63 [0, 1, 2, 3] rfl rfl).fn (by kernel_rfl) ?_
        have hS84 := hS63.drew
        refine ra_q 0 80 (v := pt (some ⟨b3, 0, none⟩) 0) rfl rfl rfl (by kernel_rfl) (by kernel_rfl) (by kernel_rfl) (ST.sel hS84 [0, 1, 2, 3] rfl rfl) (fun w' hw' => (Y_move (v := pt (some ⟨b3, 0, none⟩) 0) rfl (hf4.get 5 0 rfl))) ?_
        refine ra_q 1 81 (v := pt (some ⟨b3, 0, none⟩) 0) rfl rfl rfl (by kernel_rfl) (by kernel_rfl) (by kernel_rfl) (ST.sel hS84 [0, 1, 2, 3] rfl rfl) (fun w' hw' => (Y_nilCheck (B := some ⟨b3, 0, none⟩) (i := 0) rfl rfl)) ?_
        refine ra_q 2 82 (v := pt (some ⟨b3, 0, none⟩) 0) rfl rfl rfl (by kernel_rfl) (by kernel_rfl) (by kernel_rfl) (ST.sel hS84 [0, 1, 2, 3] rfl rfl) (fun w' hw' => (Y_fieldAddr (B := some ⟨b3, 0, none⟩) (i := 0) (s := 0) k_fd_165_0_0_4 k_sz_4_1 rfl rfl)) ?_
        refine ra_q 3 83 (v := .bool m8.bad) rfl rfl rfl (by kernel_rfl) (by kernel_rfl) (by kernel_rfl) (ST.sel hS84 [0, 1, 2, 3] rfl rfl) (fun w' hw' => (Y_load1 (B := some ⟨b3, 0, none⟩) (i := 0) (cs := [.bool m8.bad]) (v := .bool m8.bad) k_sc_4 rfl rfl (ST.cf hw' (i := 0) rfl) rfl)) ?_
        refine ra_q 4 84 (v := .bool (!m8.bad)) rfl rfl rfl (by kernel_rfl) (by kernel_rfl) (by kernel_rfl) (ST.sel hS84 [0, 1, 2, 3] rfl rfl) (fun w' hw' => (Y_not (p := m8.bad) rfl rfl)) ?_
        refine ra_q 5 85 (v := .bool (!m8.bad)) rfl rfl rfl (by kernel_rfl) (by kernel_rfl) (by kernel_rfl) (ST.sel hS84 [0, 1, 2, 3] rfl rfl) (fun w' hw' => (Y_move (v := .bool (!m8.bad)) rfl rfl)) ?_
        refine ra_gq 6 86 (B := (!m8.bad)) (v := .agg #[.slice B4 r_3.Cells.length c3]) rfl rfl rfl (wt_t (gd_of (t := 85) (by kernel_rfl) rfl)) (by kernel_rfl) (by kernel_rfl) (by kernel_rfl) (ST.sel hS84 [0, 1, 2, 3] rfl rfl) (fun hg12 w' hw' => (Y_loadA (B := B3) (i := 0) (cs := [.slice B4 r_3.Cells.length c3]) (vs := [.slice B4 r_3.Cells.length c3]) k_ag_30 k_sz_30_1 rfl (hf4.get 6 1 rfl) (ST.cf hw' (i := 1) rfl) rfl rfl)) ?_
        refine ra_gq 7 87 (B := (!m8.bad)) (v := undef) rfl rfl rfl (wt_t (gd_of (t := 85) (by kernel_rfl) rfl)) (by kernel_rfl) (by kernel_rfl) (by kernel_rfl) (ST.sel hS84 [0, 1, 2, 3] rfl rfl) (fun hg _ _ => nomatch (hg.symm.trans hb3)) ?_
        refine ra_gq 8 88 (B := (!m8.bad)) (v := undef) rfl rfl rfl (wt_t (gd_of (t := 85) (by kernel_rfl) rfl)) (by kernel_rfl) (by kernel_rfl) (by kernel_rfl) (ST.sel hS84 [0, 1, 2, 3] rfl rfl) (fun hg _ _ => nomatch (hg.symm.trans hb3)) ?_
        refine ra_q 9 89 (v := .bool false) rfl rfl rfl (by kernel_rfl) (by kernel_rfl) (by kernel_rfl) (ST.sel hS84 [0, 1, 2, 3] rfl rfl) (fun w' hw' => (Y_pickF (b := (!m8.bad)) (v := .bool false) rfl rfl hb3 rfl)) ?_
        refine ra_q 10 90 (v := .bool false) rfl rfl rfl (by kernel_rfl) (by kernel_rfl) (by kernel_rfl) (ST.sel hS84 [0, 1, 2, 3] rfl rfl) (fun w' hw' => (Y_move (v := .bool false) rfl rfl)) ?_
        refine ra_gq 11 91 (B := false) (v := .agg #[.int .i64 r_12.Num.A, .int .i64 r_12.Num.B, .int .i64 r_12.Num.C, .int .i64 r_12.Num.D, .int .i64 r_12.Exp]) rfl rfl rfl (wt_t (gd_of (t := 90) (by kernel_rfl) rfl)) (by kernel_rfl) (by kernel_rfl) (by kernel_rfl) (ST.sel hS84 [0, 1, 2, 3] rfl rfl) (fun hg16 w' hw' => (Y_loadA (B := B5) (i := 0) (cs := [.int .i64 r_12.Num.A, .int .i64 r_12.Num.B, .int .i64 r_12.Num.C, .int .i64 r_12.Num.D, .int .i64 r_12.Exp]) (vs := [.int .i64 r_12.Num.A, .int .i64 r_12.Num.B, .int .i64 r_12.Num.C, .int .i64 r_12.Num.D, .int .i64 r_12.Exp]) k_ag_55 k_sz_55_5 rfl (hf4.get 7 2 rfl) (ST.cf hw' (i := 3) rfl) rfl rfl)) ?_
        refine ra_all (rs := [12]) (by kernel_rfl) rfl ?_
        refine ra_gc 92 (i := 12) (B := false) (v := .agg #[.int .i64 r_16.Num.A, .int .i64 r_16.Num.B, .int .i64 r_16.Num.C, .int .i64 r_16.Num.D, .int .i64 r_16.Exp]) (F := hS84.fn) rfl rfl rfl (wt_t (gd_of (t := 90) (by kernel_rfl) rfl)) hS84 (fun hg17 => (Yc_func (g := 189) (vs := [.int .i64 0]) k_call_189 rfl (mc rfl mn) (CV.mono (c_spec_l2Power 0 _  (hS84.inn0 [] rfl) (gb_inv hc15 hg17)) (by rintro _ _ ⟨rfl, h⟩; exact ⟨rfl, hS84.out00 h⟩)))) ?_ ?_
        · rintro w_58 hS85
          have hS85 : ST _ _ w_58 _ _ := hS85
          refine ⟨(ST.sel hS85 [0, 1, 2, 3] rfl rfl), ?_⟩
          refine ra_gq 13 93 (B := false) (v := .bool (((r_12.Num.A == r_16.Num.A) && ((r_12.Num.B == r_16.Num.B) && ((r_12.Num.C == r_16.Num.C) && ((r_12.Num.D == r_16.Num.D) && true)))) && ((r_12.Exp == r_16.Exp) && true))) rfl rfl rfl (wt_t (gd_of (t := 90) (by kernel_rfl) rfl)) (by kernel_rfl) (by kernel_rfl) (by kernel_rfl) (ST.sel hS85 [0, 1, 2, 3] rfl rfl) (fun hg18 w' hw' => (Y_eqA (xs := #[.int .i64 r_12.Num.A, .int .i64 r_12.Num.B, .int .i64 r_12.Num.C, .int .i64 r_12.Num.D, .int .i64 r_12.Exp]) (ys := #[.int .i64 r_16.Num.A, .int .i64 r_16.Num.B, .int .i64 r_16.Num.C, .int .i64 r_16.Num.D, .int .i64 r_16.Exp]) (b := (((r_12.Num.A == r_16.Num.A) && ((r_12.Num.B == r_16.Num.B) && ((r_12.Num.C == r_16.Num.C) && ((r_12.Num.D == r_16.Num.D) && true)))) && ((r_12.Exp == r_16.Exp) && true))) k_eg_55 rfl (gv_of (B := false) (v := .agg #[.int .i64 r_12.Num.A, .int .i64 r_12.Num.B, .int .i64 r_12.Num.C, .int .i64 r_12.Num.D, .int .i64 r_12.Exp]) hg18) (gv_of (B := false) (v := .agg #[.int .i64 r_16.Num.A, .int .i64 r_16.Num.B, .int .i64 r_16.Num.C, .int .i64 r_16.Num.D, .int .i64 r_16.Exp]) hg18) (eqr_struct (xs := [.int .i64 r_12.Num.A, .int .i64 r_12.Num.B, .int .i64 r_12.Num.C, .int .i64 r_12.Num.D, .int .i64 r_12.Exp]) (ys := [.int .i64 r_16.Num.A, .int .i64 r_16.Num.B, .int .i64 r_16.Num.C, .int .i64 r_16.Num.D, .int .i64 r_16.Exp]) k_st_55 k_ho_55 (pts_ag (us := [.int .i64 r_12.Num.A, .int .i64 r_12.Num.B, .int .i64 r_12.Num.C, .int .i64 r_12.Num.D]) (vs := [.int .i64 r_16.Num.A, .int .i64 r_16.Num.B, .int .i64 r_16.Num.C, .int .i64 r_16.Num.D]) k_ag_53 k_sz_53_4 rfl rfl (eqr_struct (xs := [.int .i64 r_12.Num.A, .int .i64 r_12.Num.B, .int .i64 r_12.Num.C, .int .i64 r_12.Num.D]) (ys := [.int .i64 r_16.Num.A, .int .i64 r_16.Num.B, .int .i64 r_16.Num.C, .int .i64 r_16.Num.D]) k_st_53 k_ho_53 (pts_sc k_sc_3 rfl rfl (eqr_int k_int_3_i64) (pts_sc k_sc_3 rfl rfl (eqr_int k_int_3_i64) (pts_sc k_sc_3 rfl rfl (eqr_int k_int_3_i64) (pts_sc k_sc_3 rfl rfl (eqr_int k_int_3_i64) pts_nil))))) (pts_sc k_sc_3 rfl rfl (eqr_int k_int_3_i64) pts_nil))))) ?_
          refine ra_q 14 94 (v := .bool (false && (((r_12.Num.A == r_16.Num.A) && ((r_12.Num.B == r_16.Num.B) && ((r_12.Num.C == r_16.Num.C) && ((r_12.Num.D == r_16.Num.D) && true)))) && ((r_12.Exp == r_16.Exp) && true)))) rfl rfl rfl (by kernel_rfl) (by kernel_rfl) (by kernel_rfl) (ST.sel hS85 [0, 1, 2, 3] rfl rfl) (fun w' hw' => (Y_and (b := false) (z := (((r_12.Num.A == r_16.Num.A) && ((r_12.Num.B == r_16.Num.B) && ((r_12.Num.C == r_16.Num.C) && ((r_12.Num.D == r_16.Num.D) && true)))) && ((r_12.Exp == r_16.Exp) && true))) rfl rfl rfl rfl)) ?_
          refine ra_q 15 2 (v := .bool (false && (((r_12.Num.A == r_16.Num.A) && ((r_12.Num.B == r_16.Num.B) && ((r_12.Num.C == r_16.Num.C) && ((r_12.Num.D == r_16.Num.D) && true)))) && ((r_12.Exp == r_16.Exp) && true)))) rfl rfl rfl (by kernel_rfl) (by kernel_rfl) (by kernel_rfl) (ST.sel hS85 [0, 1, 2, 3] rfl rfl) (fun w' hw' => (Y_assign (v := .bool (false && (((r_12.Num.A == r_16.Num.A) && ((r_12.Num.B == r_16.Num.B) && ((r_12.Num.C == r_16.Num.C) && ((r_12.Num.D == r_16.Num.D) && true)))) && ((r_12.Exp == r_16.Exp) && true)))) rfl rfl)) ?_
          refine ra_done (by kernel_rfl) ?_
          refine cw_ret ?_
          obtain rfl := some_inj hF7
          exact ret1 Try.results82 (v1 := .bool (false && (((r_12.Num.A == r_16.Num.A) && ((r_12.Num.B == r_16.Num.B) && ((r_12.Num.C == r_16.Num.C) && ((r_12.Num.D == r_16.Num.D) && true)))) && ((r_12.Exp == r_16.Exp) && true)))) (resAt_tmp rfl) ⟨rfl, (ST.subR (R' := []) (hS85.sel [] rfl rfl) (fun _ h => by cases h))⟩
        exact allR_nil

theorem c_spec_l1Most (a : Int) (b : Int)  (w0 : World)  (hS : ST w0 [] w0 [] []) {r_ : Int} (hF : F_spec_l1Most a b = some r_) :
    CV Try.prog 190 #[.int .i64 a, .int .i64 b] w0 (fun v w' => v = .int .i64 r_ ∧ ST w0 [] w' [] []) := by
  unfold F_spec_l1Most at hF
  refine cv_of_cw 10 Try.func190 rfl Try.ntmps190 rfl ?_
  refine cw_seq ?_
  refine cw_region ?_
  refine sq 4 rfl rfl (Y_assign (v := .int .i64 0) rfl rfl) ?_
  refine rw_nil ?_
  refine cw_seq ?_
  refine cw_seq ?_
  refine cw_region ?_
  refine sq 5 rfl rfl (Y_move (v := .int .i64 a) rfl rfl) ?_
  refine sq 6 rfl rfl (Y_move (v := .int .i64 b) rfl rfl) ?_
  refine sq 7 rfl rfl (Y_gt (k := .i64) (a := a) (b := b) rfl rfl rfl) ?_
  refine rw_nil ?_
  refine cw_cond (b := (decide (b < a))) rfl (fun hb => ?_) (fun hb => ?_)
  · skip
    have hF1 := ct hF hb
    refine cw_seq ?_
    refine cw_region ?_
    refine sq 8 rfl rfl (Y_move (v := .int .i64 a) rfl rfl) ?_
    refine sq 4 rfl rfl (Y_assign (v := .int .i64 a) rfl rfl) ?_
    refine rw_nil ?_
    refine cw_ret ?_
    obtain rfl := some_inj hF1
    exact ret1 Try.results190 (v1 := .int .i64 a) (resAt_tmp rfl) ⟨rfl, (ST.subR (R' := []) (hS.sel [] rfl rfl) (fun _ h => by cases h))⟩
  · skip
    have hF2 := cf' hF hb
    refine cw_skip ?_
    refine cw_seq ?_
    refine cw_region ?_
    refine sq 9 rfl rfl (Y_move (v := .int .i64 b) rfl rfl) ?_
    refine sq 4 rfl rfl (Y_assign (v := .int .i64 b) rfl rfl) ?_
    refine rw_nil ?_
    refine cw_ret ?_
    obtain rfl := some_inj hF2
    exact ret1 Try.results190 (v1 := .int .i64 b) (resAt_tmp rfl) ⟨rfl, (ST.subR (R' := []) (hS.sel [] rfl rfl) (fun _ h => by cases h))⟩

theorem c_spec_l9Exp (b : TBloch) (B : Option Addr) (c n : Nat) (w0 : World) (hn : b.Cells.length = n) (hS : ST w0 [] w0 [] [⟨B, (b.Cells.flatMap enc_Dyadic)⟩]) {r_ : Int} (hF : F_spec_l9Exp b = some r_) :
    CV Try.prog 83 #[.agg #[.slice B n c]] w0 (fun v w' => v = .int .i64 r_ ∧ ST w0 [] w' [] []) := by
  subst hn
  unfold F_spec_l9Exp at hF
  refine cv_of_cw 19 Try.func83 rfl Try.ntmps83 rfl ?_
  refine cw_seq ?_
  refine cw_region ?_
  refine ss 1 rfl rfl (Ys_box (T := 30) (v := .agg #[.slice B b.Cells.length c]) (cs := [.slice B b.Cells.length c]) (m := 1) hS rfl rfl rfl rfl) ?_
  rintro _ w_ ⟨b1, rfl, hS1⟩
  refine sq 2 rfl rfl (Y_assign (v := .int .i64 0) rfl rfl) ?_
  refine rw_nil ?_
  refine cw_seq ?_
  refine cw_region ?_
  refine sq 3 rfl rfl (Y_assign (v := .int .i64 0) rfl rfl) ?_
  refine rw_nil ?_
  refine cw_seq ?_
  refine cw_seq ?_
  refine cw_region ?_
  refine sq 6 rfl rfl (Y_fieldAddr (B := some ⟨b1, 0, none⟩) (i := 0) (s := 0) k_fd_30_0_0_28 k_sz_28_1 rfl rfl) ?_
  refine sq 7 rfl rfl (Y_load1 (B := some ⟨b1, 0, none⟩) (i := 0) (cs := [.slice B b.Cells.length c]) (v := .slice B b.Cells.length c) k_sc_28 rfl rfl (hS1.cf (i := 0) rfl) rfl) ?_
  refine sq 8 rfl rfl (Y_len (B := B) (m := b.Cells.length) (c := c) k_sl_28_55 rfl rfl) ?_
  refine sq 9 rfl rfl (Y_move (v := .int .i64 0) rfl rfl) ?_
  refine rw_nil ?_
  obtain ⟨hN, hF⟩ := chk_inv hF
  obtain ⟨z, hz, hF1⟩ := bind_inv hF
  refine cw_block ?_
  refine cw_loop (fun k f w => ∃ (i : Nat) (k_ : Int), FF f [(3, .int .i64 k_), (7, .slice B b.Cells.length c), (8, .int .i64 (b.Cells.length : Int)), (9, .int .i64 (i : Int))] ∧ ST w0 [] w [] [⟨B, (b.Cells.flatMap enc_Dyadic)⟩] ∧ i + k = b.Cells.length ∧ forN (F_spec_l9Exp_l1 b) k i k_ = some z) b.Cells.length ⟨0, 0, (FF.cons rfl (FF.cons rfl (FF.cons rfl (FF.cons rfl FF.nil)))), (hS1.sel [] rfl rfl), Nat.zero_add _, hz⟩ ?_
  rintro k_1 f w ⟨i, k_, hf, hS2, hik, hL⟩
  refine cw_seq ?_
  refine cw_region ?_
  refine sq 10 rfl rfl (Y_lt (k := .i64) (a := (i : Int)) (b := (b.Cells.length : Int)) rfl (hf.get 9 3 rfl) (hf.get 8 2 rfl)) ?_
  refine rw_nil ?_
  refine cw_seq ?_
  refine cw_cond (b := (decide ((i : Int) < (b.Cells.length : Int)))) rfl (fun hlt => ?_) (fun hlt => ?_)
  · skip
    have hlt1 : i < b.Cells.length := by have h := of_decide_eq_true hlt; omega
    obtain ⟨k_2, rfl⟩ : ∃ k2, k_1 = k2 + 1 := ⟨k_1 - 1, by omega⟩
    obtain ⟨y, hb, hL1⟩ := forN_go hL
    unfold F_spec_l9Exp_l1 at hb
    refine cw_skip ?_
    refine cw_seq ?_
    refine cw_block ?_
    refine cw_seq ?_
    refine cw_region ?_
    obtain ⟨x, hx, hb⟩ := bind_inv hb
    refine sq 11 rfl rfl (Y_index (B := B) (m := b.Cells.length) (c := c) (k := .i64) (i := (i : Int)) k_sl_28_55 k_sz_55_5 rfl (hf.get 7 1 rfl) (hf.get 9 3 rfl) (gi_isSome enc_Dyadic_len rfl (hS2.rf (i := 0) rfl) hx) (getI_nn hx) (getI_ltI hx rfl)) ?_
    refine sq 12 rfl rfl (Y_loadA (B := B) (i := (i : Int).toNat * 5) (cs := (b.Cells.flatMap enc_Dyadic)) (vs := [.int .i64 x.Num.A, .int .i64 x.Num.B, .int .i64 x.Num.C, .int .i64 x.Num.D, .int .i64 x.Exp]) k_ag_55 k_sz_55_5 rfl rfl (hS2.rf (i := 0) rfl) (enc_Dyadic_len x) (gi_seg enc_Dyadic_len hx)) ?_
    refine ss 5 rfl rfl (Ys_alloc (T := 55) (cs := [.int .i64 0, .int .i64 0, .int .i64 0, .int .i64 0, .int .i64 0]) (m := 5) hS2 k_zero_55 rfl rfl rfl) ?_
    rintro _ w_1 ⟨b2, rfl, hS3⟩
    refine ss0 rfl rfl (Ys_store (i := 0) (s := 5) (B := some ⟨b2, 0, none⟩) (T' := 55) (v := .agg #[.int .i64 x.Num.A, .int .i64 x.Num.B, .int .i64 x.Num.C, .int .i64 x.Num.D, .int .i64 x.Exp]) (vs := [.int .i64 x.Num.A, .int .i64 x.Num.B, .int .i64 x.Num.C, .int .i64 x.Num.D, .int .i64 x.Exp]) (k := 0) (cs' := [.int .i64 x.Num.A, .int .i64 x.Num.B, .int .i64 x.Num.C, .int .i64 x.Num.D, .int .i64 x.Exp]) hS3 k_sz_55_5 rfl rfl rfl rfl rfl rfl rfl (Nat.le_of_ble_eq_true rfl) rfl rfl) ?_
    rintro _ w_2 ⟨rfl, hS4⟩
    refine rw_nil ?_
    refine cw_region ?_
    refine sq 13 rfl rfl (Y_move (v := .int .i64 k_) rfl (hf.get 3 0 rfl)) ?_
    refine sq 14 rfl rfl (Y_fieldAddr (B := some ⟨b2, 0, none⟩) (i := 0) (s := 0) k_fd_55_1_4_3 k_sz_3_1 rfl rfl) ?_
    refine sq 15 rfl rfl (Y_load1 (B := some ⟨b2, 0, none⟩) (i := 4) (cs := [.int .i64 x.Num.A, .int .i64 x.Num.B, .int .i64 x.Num.C, .int .i64 x.Num.D, .int .i64 x.Exp]) (v := .int .i64 x.Exp) k_sc_3 rfl rfl (hS4.cf (i := 0) rfl) rfl) ?_
    obtain ⟨r_1, hc, hb⟩ := bind_inv hb
    refine sc 16 rfl rfl (Yc_func (g := 190) (vs := [.int .i64 k_, .int .i64 x.Exp]) k_call_190 rfl (mc rfl (mc rfl mn)) (c_spec_l1Most k_ x.Exp _  (hS4.inn0 [] rfl) hc)) ?_
    rintro _ w_3 ⟨rfl, hd⟩
    have hS5 := hS4.out00 hd
    refine sq 3 rfl rfl (Y_assign (v := .int .i64 r_1) rfl rfl) ?_
    refine rw_nil ?_
    refine cw_region ?_
    refine sq 17 rfl rfl (Y_add (k := .i64) (a := (i : Int)) (b := 1) rfl (hf.get 9 3 rfl) rfl) ?_
    refine sq 9 rfl rfl (Y_move (v := .int .i64 (IntKind.i64.wrap ((i : Int) + 1))) rfl rfl) ?_
    refine rw_nil ?_
    obtain rfl := some_inj hb
    exact ⟨k_2, Nat.lt_succ_self _, i + 1, r_1, (FF.cons rfl (FF.cons (hf.get 7 1 rfl) (FF.cons (hf.get 8 2 rfl) (FF.cons (congrArg (Value.int .i64) (wr_succ hlt1 hN)) FF.nil)))), (hS5.sel [] rfl rfl), (by omega), hL1⟩
  · skip
    obtain rfl : k_1 = 0 := by have h := of_decide_eq_false hlt; omega
    refine cw_exit rfl ?_
    obtain rfl := some_inj hL
    refine cw_seq ?_
    refine cw_region ?_
    refine sq 18 rfl rfl (Y_move (v := .int .i64 k_) rfl (hf.get 3 0 rfl)) ?_
    refine sq 2 rfl rfl (Y_assign (v := .int .i64 k_) rfl rfl) ?_
    refine rw_nil ?_
    refine cw_ret ?_
    obtain rfl := some_inj hF1
    exact ret1 Try.results83 (v1 := .int .i64 k_) (resAt_tmp rfl) ⟨rfl, (ST.subR (R' := []) (hS2.sel [] rfl rfl) (fun _ h => by cases h))⟩

theorem c_spec_ParityOf (b : TBloch) (B : Option Addr) (c n : Nat) (w0 : World) (hn : b.Cells.length = n) (hS : ST w0 [] w0 [] [⟨B, (b.Cells.flatMap enc_Dyadic)⟩]) {r_ : List UInt8} {r_1 : Bool} (hF : F_spec_ParityOf b = some (r_, r_1)) :
    CV Try.prog 14 #[.agg #[.slice B n c]] w0 (fun v w' => v = .tuple #[.string (bstr r_), .bool r_1] ∧ ST w0 [] w' [] []) := by
  subst hn
  unfold F_spec_ParityOf at hF
  refine cv_of_cw 35 Try.func14 rfl Try.ntmps14 rfl ?_
  refine cw_seq ?_
  refine cw_region ?_
  refine ss 1 rfl rfl (Ys_box (T := 30) (v := .agg #[.slice B b.Cells.length c]) (cs := [.slice B b.Cells.length c]) (m := 1) hS rfl rfl rfl rfl) ?_
  rintro _ w_ ⟨b1, rfl, hS1⟩
  refine sq 2 rfl rfl (Y_assign (v := .string (bstr ([] : List UInt8))) rfl rfl) ?_
  refine sq 3 rfl rfl (Y_assign (v := .bool false) rfl rfl) ?_
  refine rw_nil ?_
  refine cw_seq ?_
  refine cw_seq ?_
  refine cw_region ?_
  refine sq 7 rfl rfl (Y_loadA (B := some ⟨b1, 0, none⟩) (i := 0) (cs := [.slice B b.Cells.length c]) (vs := [.slice B b.Cells.length c]) k_ag_30 k_sz_30_1 rfl rfl (hS1.cf (i := 0) rfl) rfl rfl) ?_
  obtain ⟨r_2, hc, hF⟩ := bind_inv hF
  refine sc 8 rfl rfl (Yc_func (g := 82) (vs := [.agg #[.slice B b.Cells.length c]]) k_call_82 rfl (mc rfl mn) (c_spec_l9Valid b B c b.Cells.length _ rfl (hS1.inn0 [(true, 0)] rfl) hc)) ?_
  rintro _ w_1 ⟨rfl, hd⟩
  have hS2 := hS1.out00 hd
  refine sq 9 rfl rfl (Y_not (p := r_2) rfl rfl) ?_
  refine rw_nil ?_
  refine cw_cond (b := (!r_2)) rfl (fun hb => ?_) (fun hb => ?_)
  · skip
    have hF1 := ct hF hb
    refine cw_seq ?_
    refine cw_region ?_
    refine sq 2 rfl rfl (Y_assign (v := .string (bstr ([] : List UInt8))) rfl rfl) ?_
    refine sq 3 rfl rfl (Y_assign (v := .bool false) rfl rfl) ?_
    refine rw_nil ?_
    refine cw_ret ?_
    obtain ⟨rfl, rfl⟩ := pr2 (some_inj hF1)
    exact ret2 Try.results14 (v1 := .string (bstr ([] : List UInt8))) (resAt_tmp rfl) (v2 := .bool false) (resAt_tmp rfl) ⟨rfl, (ST.subR (R' := []) (hS2.sel [] rfl rfl) (fun _ h => by cases h))⟩
  · skip
    have hF2 := cf' hF hb
    refine cw_skip ?_
    refine cw_seq ?_
    refine cw_region ?_
    refine sq 4 rfl rfl (Y_assign (v := .string (bstr ([] : List UInt8))) rfl rfl) ?_
    refine rw_nil ?_
    refine cw_seq ?_
    refine cw_seq ?_
    refine cw_region ?_
    refine sq 10 rfl rfl (Y_fieldAddr (B := some ⟨b1, 0, none⟩) (i := 0) (s := 0) k_fd_30_0_0_28 k_sz_28_1 rfl rfl) ?_
    refine sq 11 rfl rfl (Y_load1 (B := some ⟨b1, 0, none⟩) (i := 0) (cs := [.slice B b.Cells.length c]) (v := .slice B b.Cells.length c) k_sc_28 rfl rfl (hS2.cf (i := 0) rfl) rfl) ?_
    refine sq 12 rfl rfl (Y_len (B := B) (m := b.Cells.length) (c := c) k_sl_28_55 rfl rfl) ?_
    refine sq 13 rfl rfl (Y_move (v := .int .i64 0) rfl rfl) ?_
    refine rw_nil ?_
    obtain ⟨hN, hF2⟩ := chk_inv hF2
    obtain ⟨z, hz, hF3⟩ := bind_inv hF2
    refine cw_block ?_
    refine cw_loop (fun k f w => ∃ (i : Nat) (s : List UInt8), FF f [(1, pt (some ⟨b1, 0, none⟩) 0), (4, .string (bstr s)), (11, .slice B b.Cells.length c), (12, .int .i64 (b.Cells.length : Int)), (13, .int .i64 (i : Int))] ∧ ST w0 [] w [⟨some ⟨b1, 0, none⟩, 30, [.slice B b.Cells.length c], 1⟩] [⟨B, (b.Cells.flatMap enc_Dyadic)⟩] ∧ i + k = b.Cells.length ∧ forN (F_spec_ParityOf_l1 b) k i s = some z) b.Cells.length ⟨0, ([] : List UInt8), (FF.cons rfl (FF.cons rfl (FF.cons rfl (FF.cons rfl (FF.cons rfl FF.nil))))), (hS2.sel [0] rfl rfl), Nat.zero_add _, hz⟩ ?_
    rintro k_ f w ⟨i, s, hf, hS3, hik, hL⟩
    refine cw_seq ?_
    refine cw_region ?_
    refine sq 14 rfl rfl (Y_lt (k := .i64) (a := (i : Int)) (b := (b.Cells.length : Int)) rfl (hf.get 13 4 rfl) (hf.get 12 3 rfl)) ?_
    refine rw_nil ?_
    refine cw_seq ?_
    refine cw_cond (b := (decide ((i : Int) < (b.Cells.length : Int)))) rfl (fun hlt => ?_) (fun hlt => ?_)
    · skip
      have hlt1 : i < b.Cells.length := by have h := of_decide_eq_true hlt; omega
      obtain ⟨k_1, rfl⟩ : ∃ k2, k_ = k2 + 1 := ⟨k_ - 1, by omega⟩
      obtain ⟨y, hb1, hL1⟩ := forN_go hL
      unfold F_spec_ParityOf_l1 at hb1
      refine cw_skip ?_
      refine cw_seq ?_
      obtain ⟨z1, hz1, hF4⟩ := bind_inv hb1
      refine cw_mid (fun f w => ∃ (s1 : List UInt8), s1 = z1 ∧ FF f [(1, pt (some ⟨b1, 0, none⟩) 0), (4, .string (bstr s1)), (11, .slice B b.Cells.length c), (12, .int .i64 (b.Cells.length : Int)), (13, .int .i64 (i : Int))] ∧ ST w0 [] w [⟨some ⟨b1, 0, none⟩, 30, [.slice B b.Cells.length c], 1⟩] [⟨B, (b.Cells.flatMap enc_Dyadic)⟩]) ?_ ?_
      · skip
        refine cw_block ?_
        refine cw_seq ?_
        refine cw_region ?_
        obtain ⟨x, hx, hz1⟩ := bind_inv hz1
        refine sq 15 rfl rfl (Y_index (B := B) (m := b.Cells.length) (c := c) (k := .i64) (i := (i : Int)) k_sl_28_55 k_sz_55_5 rfl (hf.get 11 2 rfl) (hf.get 13 4 rfl) (gi_isSome enc_Dyadic_len rfl (hS3.rf (i := 0) rfl) hx) (getI_nn hx) (getI_ltI hx rfl)) ?_
        refine sq 16 rfl rfl (Y_loadA (B := B) (i := (i : Int).toNat * 5) (cs := (b.Cells.flatMap enc_Dyadic)) (vs := [.int .i64 x.Num.A, .int .i64 x.Num.B, .int .i64 x.Num.C, .int .i64 x.Num.D, .int .i64 x.Exp]) k_ag_55 k_sz_55_5 rfl rfl (hS3.rf (i := 0) rfl) (enc_Dyadic_len x) (gi_seg enc_Dyadic_len hx)) ?_
        refine ss 6 rfl rfl (Ys_alloc (T := 55) (cs := [.int .i64 0, .int .i64 0, .int .i64 0, .int .i64 0, .int .i64 0]) (m := 5) hS3 k_zero_55 rfl rfl rfl) ?_
        rintro _ w_2 ⟨b2, rfl, hS5⟩
        have hS5 : ST w0 [] _ [⟨some ⟨b1, 0, none⟩, 30, [.slice B b.Cells.length c], 1⟩, ⟨some ⟨b2, 0, none⟩, 55, [.int .i64 0, .int .i64 0, .int .i64 0, .int .i64 0, .int .i64 0], 5⟩] [⟨B, (b.Cells.flatMap enc_Dyadic)⟩] := hS5
        refine ss0 rfl rfl (Ys_store (i := 1) (s := 5) (B := some ⟨b2, 0, none⟩) (T' := 55) (v := .agg #[.int .i64 x.Num.A, .int .i64 x.Num.B, .int .i64 x.Num.C, .int .i64 x.Num.D, .int .i64 x.Exp]) (vs := [.int .i64 x.Num.A, .int .i64 x.Num.B, .int .i64 x.Num.C, .int .i64 x.Num.D, .int .i64 x.Exp]) (k := 0) (cs' := [.int .i64 x.Num.A, .int .i64 x.Num.B, .int .i64 x.Num.C, .int .i64 x.Num.D, .int .i64 x.Exp]) hS5 k_sz_55_5 rfl rfl rfl rfl rfl rfl rfl (Nat.le_of_ble_eq_true rfl) rfl rfl) ?_
        rintro _ w_3 ⟨rfl, hS6⟩
        have hS6 : ST w0 [] _ [⟨some ⟨b1, 0, none⟩, 30, [.slice B b.Cells.length c], 1⟩, ⟨some ⟨b2, 0, none⟩, 55, [.int .i64 x.Num.A, .int .i64 x.Num.B, .int .i64 x.Num.C, .int .i64 x.Num.D, .int .i64 x.Exp], 5⟩] [⟨B, (b.Cells.flatMap enc_Dyadic)⟩] := hS6
        refine rw_nil ?_
        refine cw_seq ?_
        obtain ⟨r_3, hc1, hz1⟩ := bind_inv hz1
        refine ra_start (ST.sel hS6 [0, 1] rfl rfl).fn (by kernel_rfl) ?_
        have hS8 := hS6.drew
        refine ra_q 0 17 (v := pt (some ⟨b2, 0, none⟩) 4) rfl rfl rfl (by kernel_rfl) (by kernel_rfl) (by kernel_rfl) (ST.sel hS8 [0, 1] rfl rfl) (fun w' hw' => (Y_fieldAddr (B := some ⟨b2, 0, none⟩) (i := 0) (s := 0) k_fd_55_1_4_3 k_sz_3_1 rfl rfl)) ?_
        refine ra_q 1 18 (v := .int .i64 x.Exp) rfl rfl rfl (by kernel_rfl) (by kernel_rfl) (by kernel_rfl) (ST.sel hS8 [0, 1] rfl rfl) (fun w' hw' => (Y_load1 (B := some ⟨b2, 0, none⟩) (i := 4) (cs := [.int .i64 x.Num.A, .int .i64 x.Num.B, .int .i64 x.Num.C, .int .i64 x.Num.D, .int .i64 x.Exp]) (v := .int .i64 x.Exp) k_sc_3 rfl rfl (ST.cf hw' (i := 1) rfl) rfl)) ?_
        refine ra_q 2 19 (v := .agg #[.slice B b.Cells.length c]) rfl rfl rfl (by kernel_rfl) (by kernel_rfl) (by kernel_rfl) (ST.sel hS8 [0, 1] rfl rfl) (fun w' hw' => (Y_loadA (B := some ⟨b1, 0, none⟩) (i := 0) (cs := [.slice B b.Cells.length c]) (vs := [.slice B b.Cells.length c]) k_ag_30 k_sz_30_1 rfl (hf.get 1 0 rfl) (ST.cf hw' (i := 0) rfl) rfl rfl)) ?_
        refine ra_all (rs := [3]) (by kernel_rfl) rfl ?_
        refine ra_c 20 (i := 3) rfl rfl rfl (Yc_func (g := 83) (vs := [.agg #[.slice B b.Cells.length c]]) k_call_83 rfl (mc rfl mn) (c_spec_l9Exp b B c b.Cells.length _ rfl (hS8.inn0 [(true, 0)] rfl) hc1)) ?_ ?_
        · rintro _ w_4 ⟨rfl, hd1⟩
          have hS9 := hS8.out00 hd1
          have hS9 : ST w0 [] _ [⟨some ⟨b1, 0, none⟩, 30, [.slice B b.Cells.length c], 1⟩, ⟨some ⟨b2, 0, none⟩, 55, [.int .i64 x.Num.A, .int .i64 x.Num.B, .int .i64 x.Num.C, .int .i64 x.Num.D, .int .i64 x.Exp], 5⟩] [⟨B, (b.Cells.flatMap enc_Dyadic)⟩] := hS9
          refine ⟨(ST.sel hS9 [0, 1] rfl rfl), ?_⟩
          refine ra_q 4 21 (v := .bool (x.Exp == r_3)) rfl rfl rfl (by kernel_rfl) (by kernel_rfl) (by kernel_rfl) (ST.sel hS9 [0, 1] rfl rfl) (fun w' hw' => (Y_eq (k := .i64) (a := x.Exp) (b := r_3) rfl rfl rfl)) ?_
          refine ra_q 5 22 (v := .bool (x.Exp == r_3)) rfl rfl rfl (by kernel_rfl) (by kernel_rfl) (by kernel_rfl) (ST.sel hS9 [0, 1] rfl rfl) (fun w' hw' => (Y_move (v := .bool (x.Exp == r_3)) rfl rfl)) ?_
          refine ra_gq 6 23 (B := (x.Exp == r_3)) (v := pt (some ⟨b2, 0, none⟩) 0) rfl rfl rfl (wt_t (gd_of (t := 22) (by kernel_rfl) rfl)) (by kernel_rfl) (by kernel_rfl) (by kernel_rfl) (ST.sel hS9 [0, 1] rfl rfl) (fun hg w' hw' => (Y_fieldAddr (B := some ⟨b2, 0, none⟩) (i := 0) (s := 3) k_fd_55_0_0_53 k_sz_53_4 rfl rfl)) ?_
          refine ra_gq 7 24 (B := (x.Exp == r_3)) (v := pt (some ⟨b2, 0, none⟩) 0) rfl rfl rfl (wt_t (gd_of (t := 22) (by kernel_rfl) rfl)) (by kernel_rfl) (by kernel_rfl) (by kernel_rfl) (ST.sel hS9 [0, 1] rfl rfl) (fun hg1 w' hw' => (Y_fieldAddr (B := some ⟨b2, 0, none⟩) (i := 0) (s := 0) k_fd_53_0_0_3 k_sz_3_1 rfl (gv_of (B := (x.Exp == r_3)) (v := pt (some ⟨b2, 0, none⟩) 0) hg1))) ?_
          refine ra_gq 8 25 (B := (x.Exp == r_3)) (v := .int .i64 x.Num.A) rfl rfl rfl (wt_t (gd_of (t := 22) (by kernel_rfl) rfl)) (by kernel_rfl) (by kernel_rfl) (by kernel_rfl) (ST.sel hS9 [0, 1] rfl rfl) (fun hg2 w' hw' => (Y_load1 (B := some ⟨b2, 0, none⟩) (i := 0) (cs := [.int .i64 x.Num.A, .int .i64 x.Num.B, .int .i64 x.Num.C, .int .i64 x.Num.D, .int .i64 x.Exp]) (v := .int .i64 x.Num.A) k_sc_3 rfl (gv_of (B := (x.Exp == r_3)) (v := pt (some ⟨b2, 0, none⟩) 0) hg2) (ST.cf hw' (i := 1) rfl) rfl)) ?_
          refine ra_gq 9 26 (B := (x.Exp == r_3)) (v := .int .i64 (Int.tmod x.Num.A 2)) rfl rfl rfl (wt_t (gd_of (t := 22) (by kernel_rfl) rfl)) (by kernel_rfl) (by kernel_rfl) (by kernel_rfl) (ST.sel hS9 [0, 1] rfl rfl) (fun hg3 w' hw' => (Y_rem (k := .i64) (a := x.Num.A) (b := 2) rfl (gv_of (B := (x.Exp == r_3)) (v := .int .i64 x.Num.A) hg3) rfl (by decide))) ?_
          refine ra_gq 10 27 (B := (x.Exp == r_3)) (v := .bool ((Int.tmod x.Num.A 2) != 0)) rfl rfl rfl (wt_t (gd_of (t := 22) (by kernel_rfl) rfl)) (by kernel_rfl) (by kernel_rfl) (by kernel_rfl) (ST.sel hS9 [0, 1] rfl rfl) (fun hg4 w' hw' => (Y_ne (k := .i64) (a := (Int.tmod x.Num.A 2)) (b := 0) rfl (gv_of (B := (x.Exp == r_3)) (v := .int .i64 (Int.tmod x.Num.A 2)) hg4) rfl)) ?_
          refine ra_q 11 28 (v := .bool ((x.Exp == r_3) && ((Int.tmod x.Num.A 2) != 0))) rfl rfl rfl (by kernel_rfl) (by kernel_rfl) (by kernel_rfl) (ST.sel hS9 [0, 1] rfl rfl) (fun w' hw' => (Y_and (b := (x.Exp == r_3)) (z := ((Int.tmod x.Num.A 2) != 0)) rfl rfl rfl rfl)) ?_
          refine ra_done (by kernel_rfl) ?_
          refine cw_cond (b := ((x.Exp == r_3) && ((Int.tmod x.Num.A 2) != 0))) rfl (fun hb2 => ?_) (fun hb2 => ?_)
          · skip
            have hF5 := ct hz1 hb2
            refine cw_region ?_
            refine sq 29 rfl rfl (Y_move (v := .string (bstr s)) rfl (hf.get 4 1 rfl)) ?_
            obtain ⟨hsa, hF5⟩ := chk_inv hF5
            refine sq 30 rfl rfl (Y_sadd (a := s) (b := ([49] : List UInt8)) rfl rfl rfl hsa) ?_
            refine sq 4 rfl rfl (Y_assign (v := .string (bstr (s ++ ([49] : List UInt8)))) rfl rfl) ?_
            refine rw_nil ?_
            exact ⟨(s ++ ([49] : List UInt8)), (some_inj hF5), (FF.cons (hf.get 1 0 rfl) (FF.cons rfl (FF.cons (hf.get 11 2 rfl) (FF.cons (hf.get 12 3 rfl) (FF.cons (hf.get 13 4 rfl) FF.nil))))), (hS9.sel [0] rfl rfl)⟩
          · skip
            have hF6 := cf' hz1 hb2
            refine cw_region ?_
            refine sq 31 rfl rfl (Y_move (v := .string (bstr s)) rfl (hf.get 4 1 rfl)) ?_
            obtain ⟨hsa1, hF6⟩ := chk_inv hF6
            refine sq 32 rfl rfl (Y_sadd (a := s) (b := ([48] : List UInt8)) rfl rfl rfl hsa1) ?_
            refine sq 4 rfl rfl (Y_assign (v := .string (bstr (s ++ ([48] : List UInt8)))) rfl rfl) ?_
            refine rw_nil ?_
            exact ⟨(s ++ ([48] : List UInt8)), (some_inj hF6), (FF.cons (hf.get 1 0 rfl) (FF.cons rfl (FF.cons (hf.get 11 2 rfl) (FF.cons (hf.get 12 3 rfl) (FF.cons (hf.get 13 4 rfl) FF.nil))))), (hS9.sel [0] rfl rfl)⟩
        exact allR_nil
      rintro f w ⟨s1, rfl, hf1, hS4⟩
      refine cw_region ?_
      refine sq 33 rfl rfl (Y_add (k := .i64) (a := (i : Int)) (b := 1) rfl (hf1.get 13 4 rfl) rfl) ?_
      refine sq 13 rfl rfl (Y_move (v := .int .i64 (IntKind.i64.wrap ((i : Int) + 1))) rfl rfl) ?_
      refine rw_nil ?_
      obtain rfl := some_inj hF4
      exact ⟨k_1, Nat.lt_succ_self _, i + 1, s1, (FF.cons (hf1.get 1 0 rfl) (FF.cons (hf1.get 4 1 rfl) (FF.cons (hf1.get 11 2 rfl) (FF.cons (hf1.get 12 3 rfl) (FF.cons (congrArg (Value.int .i64) (wr_succ hlt1 hN)) FF.nil))))), (hS4.sel [0] rfl rfl), (by omega), hL1⟩
    · skip
      obtain rfl : k_ = 0 := by have h := of_decide_eq_false hlt; omega
      refine cw_exit rfl ?_
      obtain rfl := some_inj hL
      refine cw_seq ?_
      refine cw_region ?_
      refine sq 34 rfl rfl (Y_move (v := .string (bstr s)) rfl (hf.get 4 1 rfl)) ?_
      refine sq 2 rfl rfl (Y_assign (v := .string (bstr s)) rfl rfl) ?_
      refine sq 3 rfl rfl (Y_assign (v := .bool true) rfl rfl) ?_
      refine rw_nil ?_
      refine cw_ret ?_
      obtain ⟨rfl, rfl⟩ := pr2 (some_inj hF3)
      exact ret2 Try.results14 (v1 := .string (bstr s)) (resAt_tmp rfl) (v2 := .bool true) (resAt_tmp rfl) ⟨rfl, (ST.subR (R' := []) (hS3.sel [] rfl rfl) (fun _ h => by cases h))⟩

theorem c_laws_toRing (a : TRing)  (w0 : World)  (hS : ST w0 [] w0 [] []) {r_ : TRing} (hF : F_laws_toRing a = some r_) :
    CV Try.prog 285 #[.agg #[.int .i64 a.A, .int .i64 a.B, .int .i64 a.C, .int .i64 a.D]] w0 (fun v w' => v = .agg #[.int .i64 r_.A, .int .i64 r_.B, .int .i64 r_.C, .int .i64 r_.D] ∧ ST w0 [] w' [] []) := by
  unfold F_laws_toRing at hF
  refine cv_of_cw 17 Try.func285 rfl Try.ntmps285 rfl ?_
  refine cw_seq ?_
  refine cw_region ?_
  refine ss 1 rfl rfl (Ys_box (T := 243) (v := .agg #[.int .i64 a.A, .int .i64 a.B, .int .i64 a.C, .int .i64 a.D]) (cs := [.int .i64 a.A, .int .i64 a.B, .int .i64 a.C, .int .i64 a.D]) (m := 4) hS rfl rfl rfl rfl) ?_
  rintro _ w_ ⟨b, rfl, hS1⟩
  refine ss 2 rfl rfl (Ys_alloc (T := 53) (cs := [.int .i64 0, .int .i64 0, .int .i64 0, .int .i64 0]) (m := 4) hS1 k_zero_53 rfl rfl rfl) ?_
  rintro _ w_1 ⟨b1, rfl, hS2⟩
  have hS2 : ST w0 [] _ [⟨some ⟨b, 0, none⟩, 243, [.int .i64 a.A, .int .i64 a.B, .int .i64 a.C, .int .i64 a.D], 4⟩, ⟨some ⟨b1, 0, none⟩, 53, [.int .i64 0, .int .i64 0, .int .i64 0, .int .i64 0], 4⟩] [] := hS2
  refine rw_nil ?_
  refine cw_seq ?_
  refine cw_region ?_
  refine ss 3 rfl rfl (Ys_alloc (T := 53) (cs := [.int .i64 0, .int .i64 0, .int .i64 0, .int .i64 0]) (m := 4) hS2 k_zero_53 rfl rfl rfl) ?_
  rintro _ w_2 ⟨b2, rfl, hS3⟩
  have hS3 : ST w0 [] _ [⟨some ⟨b, 0, none⟩, 243, [.int .i64 a.A, .int .i64 a.B, .int .i64 a.C, .int .i64 a.D], 4⟩, ⟨some ⟨b1, 0, none⟩, 53, [.int .i64 0, .int .i64 0, .int .i64 0, .int .i64 0], 4⟩, ⟨some ⟨b2, 0, none⟩, 53, [.int .i64 0, .int .i64 0, .int .i64 0, .int .i64 0], 4⟩] [] := hS3
  refine rw_nil ?_
  refine cw_seq ?_
  refine cw_region ?_
  refine sq 4 rfl rfl (Y_fieldAddr (B := some ⟨b, 0, none⟩) (i := 0) (s := 0) k_fd_243_0_0_3 k_sz_3_1 rfl rfl) ?_
  refine sq 5 rfl rfl (Y_load1 (B := some ⟨b, 0, none⟩) (i := 0) (cs := [.int .i64 a.A, .int .i64 a.B, .int .i64 a.C, .int .i64 a.D]) (v := .int .i64 a.A) k_sc_3 rfl rfl (hS3.cf (i := 0) rfl) rfl) ?_
  refine sq 6 rfl rfl (Y_fieldAddr (B := some ⟨b2, 0, none⟩) (i := 0) (s := 0) k_fd_53_0_0_3 k_sz_3_1 rfl rfl) ?_
  refine ss0 rfl rfl (Ys_store (i := 2) (s := 1) (B := some ⟨b2, 0, none⟩) (T' := 53) (v := .int .i64 a.A) (vs := [.int .i64 a.A]) (k := 0) (cs' := [.int .i64 a.A, .int .i64 0, .int .i64 0, .int .i64 0]) hS3 k_sz_3_1 rfl rfl rfl rfl rfl rfl rfl (Nat.le_of_ble_eq_true rfl) rfl rfl) ?_
  rintro _ w_3 ⟨rfl, hS4⟩
  have hS4 : ST w0 [] _ [⟨some ⟨b, 0, none⟩, 243, [.int .i64 a.A, .int .i64 a.B, .int .i64 a.C, .int .i64 a.D], 4⟩, ⟨some ⟨b1, 0, none⟩, 53, [.int .i64 0, .int .i64 0, .int .i64 0, .int .i64 0], 4⟩, ⟨some ⟨b2, 0, none⟩, 53, [.int .i64 a.A, .int .i64 0, .int .i64 0, .int .i64 0], 4⟩] [] := hS4
  refine rw_nil ?_
  refine cw_seq ?_
  refine cw_region ?_
  refine sq 7 rfl rfl (Y_fieldAddr (B := some ⟨b, 0, none⟩) (i := 0) (s := 0) k_fd_243_1_1_3 k_sz_3_1 rfl rfl) ?_
  refine sq 8 rfl rfl (Y_load1 (B := some ⟨b, 0, none⟩) (i := 1) (cs := [.int .i64 a.A, .int .i64 a.B, .int .i64 a.C, .int .i64 a.D]) (v := .int .i64 a.B) k_sc_3 rfl rfl (hS4.cf (i := 0) rfl) rfl) ?_
  refine sq 9 rfl rfl (Y_fieldAddr (B := some ⟨b2, 0, none⟩) (i := 0) (s := 0) k_fd_53_1_1_3 k_sz_3_1 rfl rfl) ?_
  refine ss0 rfl rfl (Ys_store (i := 2) (s := 1) (B := some ⟨b2, 0, none⟩) (T' := 53) (v := .int .i64 a.B) (vs := [.int .i64 a.B]) (k := 1) (cs' := [.int .i64 a.A, .int .i64 a.B, .int .i64 0, .int .i64 0]) hS4 k_sz_3_1 rfl rfl rfl rfl rfl rfl rfl (Nat.le_of_ble_eq_true rfl) rfl rfl) ?_
  rintro _ w_4 ⟨rfl, hS5⟩
  have hS5 : ST w0 [] _ [⟨some ⟨b, 0, none⟩, 243, [.int .i64 a.A, .int .i64 a.B, .int .i64 a.C, .int .i64 a.D], 4⟩, ⟨some ⟨b1, 0, none⟩, 53, [.int .i64 0, .int .i64 0, .int .i64 0, .int .i64 0], 4⟩, ⟨some ⟨b2, 0, none⟩, 53, [.int .i64 a.A, .int .i64 a.B, .int .i64 0, .int .i64 0], 4⟩] [] := hS5
  refine rw_nil ?_
  refine cw_seq ?_
  refine cw_region ?_
  refine sq 10 rfl rfl (Y_fieldAddr (B := some ⟨b, 0, none⟩) (i := 0) (s := 0) k_fd_243_2_2_3 k_sz_3_1 rfl rfl) ?_
  refine sq 11 rfl rfl (Y_load1 (B := some ⟨b, 0, none⟩) (i := 2) (cs := [.int .i64 a.A, .int .i64 a.B, .int .i64 a.C, .int .i64 a.D]) (v := .int .i64 a.C) k_sc_3 rfl rfl (hS5.cf (i := 0) rfl) rfl) ?_
  refine sq 12 rfl rfl (Y_fieldAddr (B := some ⟨b2, 0, none⟩) (i := 0) (s := 0) k_fd_53_2_2_3 k_sz_3_1 rfl rfl) ?_
  refine ss0 rfl rfl (Ys_store (i := 2) (s := 1) (B := some ⟨b2, 0, none⟩) (T' := 53) (v := .int .i64 a.C) (vs := [.int .i64 a.C]) (k := 2) (cs' := [.int .i64 a.A, .int .i64 a.B, .int .i64 a.C, .int .i64 0]) hS5 k_sz_3_1 rfl rfl rfl rfl rfl rfl rfl (Nat.le_of_ble_eq_true rfl) rfl rfl) ?_
  rintro _ w_5 ⟨rfl, hS6⟩
  have hS6 : ST w0 [] _ [⟨some ⟨b, 0, none⟩, 243, [.int .i64 a.A, .int .i64 a.B, .int .i64 a.C, .int .i64 a.D], 4⟩, ⟨some ⟨b1, 0, none⟩, 53, [.int .i64 0, .int .i64 0, .int .i64 0, .int .i64 0], 4⟩, ⟨some ⟨b2, 0, none⟩, 53, [.int .i64 a.A, .int .i64 a.B, .int .i64 a.C, .int .i64 0], 4⟩] [] := hS6
  refine rw_nil ?_
  refine cw_seq ?_
  refine cw_region ?_
  refine sq 13 rfl rfl (Y_fieldAddr (B := some ⟨b, 0, none⟩) (i := 0) (s := 0) k_fd_243_3_3_3 k_sz_3_1 rfl rfl) ?_
  refine sq 14 rfl rfl (Y_load1 (B := some ⟨b, 0, none⟩) (i := 3) (cs := [.int .i64 a.A, .int .i64 a.B, .int .i64 a.C, .int .i64 a.D]) (v := .int .i64 a.D) k_sc_3 rfl rfl (hS6.cf (i := 0) rfl) rfl) ?_
  refine sq 15 rfl rfl (Y_fieldAddr (B := some ⟨b2, 0, none⟩) (i := 0) (s := 0) k_fd_53_3_3_3 k_sz_3_1 rfl rfl) ?_
  refine ss0 rfl rfl (Ys_store (i := 2) (s := 1) (B := some ⟨b2, 0, none⟩) (T' := 53) (v := .int .i64 a.D) (vs := [.int .i64 a.D]) (k := 3) (cs' := [.int .i64 a.A, .int .i64 a.B, .int .i64 a.C, .int .i64 a.D]) hS6 k_sz_3_1 rfl rfl rfl rfl rfl rfl rfl (Nat.le_of_ble_eq_true rfl) rfl rfl) ?_
  rintro _ w_6 ⟨rfl, hS7⟩
  have hS7 : ST w0 [] _ [⟨some ⟨b, 0, none⟩, 243, [.int .i64 a.A, .int .i64 a.B, .int .i64 a.C, .int .i64 a.D], 4⟩, ⟨some ⟨b1, 0, none⟩, 53, [.int .i64 0, .int .i64 0, .int .i64 0, .int .i64 0], 4⟩, ⟨some ⟨b2, 0, none⟩, 53, [.int .i64 a.A, .int .i64 a.B, .int .i64 a.C, .int .i64 a.D], 4⟩] [] := hS7
  refine rw_nil ?_
  refine cw_seq ?_
  refine cw_region ?_
  refine sq 16 rfl rfl (Y_loadA (B := some ⟨b2, 0, none⟩) (i := 0) (cs := [.int .i64 a.A, .int .i64 a.B, .int .i64 a.C, .int .i64 a.D]) (vs := [.int .i64 a.A, .int .i64 a.B, .int .i64 a.C, .int .i64 a.D]) k_ag_53 k_sz_53_4 rfl rfl (hS7.cf (i := 2) rfl) rfl rfl) ?_
  refine ss0 rfl rfl (Ys_store (i := 1) (s := 4) (B := some ⟨b1, 0, none⟩) (T' := 53) (v := .agg #[.int .i64 a.A, .int .i64 a.B, .int .i64 a.C, .int .i64 a.D]) (vs := [.int .i64 a.A, .int .i64 a.B, .int .i64 a.C, .int .i64 a.D]) (k := 0) (cs' := [.int .i64 a.A, .int .i64 a.B, .int .i64 a.C, .int .i64 a.D]) hS7 k_sz_53_4 rfl rfl rfl rfl rfl rfl rfl (Nat.le_of_ble_eq_true rfl) rfl rfl) ?_
  rintro _ w_7 ⟨rfl, hS8⟩
  have hS8 : ST w0 [] _ [⟨some ⟨b, 0, none⟩, 243, [.int .i64 a.A, .int .i64 a.B, .int .i64 a.C, .int .i64 a.D], 4⟩, ⟨some ⟨b1, 0, none⟩, 53, [.int .i64 a.A, .int .i64 a.B, .int .i64 a.C, .int .i64 a.D], 4⟩, ⟨some ⟨b2, 0, none⟩, 53, [.int .i64 a.A, .int .i64 a.B, .int .i64 a.C, .int .i64 a.D], 4⟩] [] := hS8
  refine rw_nil ?_
  refine cw_ret ?_
  obtain rfl := some_inj hF
  exact ret1 Try.results285 (v1 := .agg #[.int .i64 a.A, .int .i64 a.B, .int .i64 a.C, .int .i64 a.D]) (resAt_cellA (B := some ⟨b1, 0, none⟩) (i := 0) (cs := [.int .i64 a.A, .int .i64 a.B, .int .i64 a.C, .int .i64 a.D]) (vs := [.int .i64 a.A, .int .i64 a.B, .int .i64 a.C, .int .i64 a.D]) rfl k_ag_53 k_sz_53_4 (hS8.cf (i := 1) rfl) rfl rfl) ⟨rfl, (ST.subR (R' := []) (hS8.sel [] rfl rfl) (fun _ h => by cases h))⟩

theorem c_laws_toDyadic (a : TDyadic)  (w0 : World)  (hS : ST w0 [] w0 [] []) {r_ : TDyadic} (hF : F_laws_toDyadic a = some r_) :
    CV Try.prog 191 #[.agg #[.int .i64 a.Num.A, .int .i64 a.Num.B, .int .i64 a.Num.C, .int .i64 a.Num.D, .int .i64 a.Exp]] w0 (fun v w' => v = .agg #[.int .i64 r_.Num.A, .int .i64 r_.Num.B, .int .i64 r_.Num.C, .int .i64 r_.Num.D, .int .i64 r_.Exp] ∧ ST w0 [] w' [] []) := by
  unfold F_laws_toDyadic at hF
  refine cv_of_cw 12 Try.func191 rfl Try.ntmps191 rfl ?_
  refine cw_seq ?_
  refine cw_region ?_
  refine ss 1 rfl rfl (Ys_box (T := 245) (v := .agg #[.int .i64 a.Num.A, .int .i64 a.Num.B, .int .i64 a.Num.C, .int .i64 a.Num.D, .int .i64 a.Exp]) (cs := [.int .i64 a.Num.A, .int .i64 a.Num.B, .int .i64 a.Num.C, .int .i64 a.Num.D, .int .i64 a.Exp]) (m := 5) hS rfl rfl rfl rfl) ?_
  rintro _ w_ ⟨b, rfl, hS1⟩
  refine ss 2 rfl rfl (Ys_alloc (T := 55) (cs := [.int .i64 0, .int .i64 0, .int .i64 0, .int .i64 0, .int .i64 0]) (m := 5) hS1 k_zero_55 rfl rfl rfl) ?_
  rintro _ w_1 ⟨b1, rfl, hS2⟩
  have hS2 : ST w0 [] _ [⟨some ⟨b, 0, none⟩, 245, [.int .i64 a.Num.A, .int .i64 a.Num.B, .int .i64 a.Num.C, .int .i64 a.Num.D, .int .i64 a.Exp], 5⟩, ⟨some ⟨b1, 0, none⟩, 55, [.int .i64 0, .int .i64 0, .int .i64 0, .int .i64 0, .int .i64 0], 5⟩] [] := hS2
  refine rw_nil ?_
  refine cw_seq ?_
  refine cw_region ?_
  refine ss 3 rfl rfl (Ys_alloc (T := 55) (cs := [.int .i64 0, .int .i64 0, .int .i64 0, .int .i64 0, .int .i64 0]) (m := 5) hS2 k_zero_55 rfl rfl rfl) ?_
  rintro _ w_2 ⟨b2, rfl, hS3⟩
  have hS3 : ST w0 [] _ [⟨some ⟨b, 0, none⟩, 245, [.int .i64 a.Num.A, .int .i64 a.Num.B, .int .i64 a.Num.C, .int .i64 a.Num.D, .int .i64 a.Exp], 5⟩, ⟨some ⟨b1, 0, none⟩, 55, [.int .i64 0, .int .i64 0, .int .i64 0, .int .i64 0, .int .i64 0], 5⟩, ⟨some ⟨b2, 0, none⟩, 55, [.int .i64 0, .int .i64 0, .int .i64 0, .int .i64 0, .int .i64 0], 5⟩] [] := hS3
  refine rw_nil ?_
  refine cw_seq ?_
  refine cw_region ?_
  refine sq 4 rfl rfl (Y_fieldAddr (B := some ⟨b, 0, none⟩) (i := 0) (s := 3) k_fd_245_0_0_243 k_sz_243_4 rfl rfl) ?_
  refine sq 5 rfl rfl (Y_loadA (B := some ⟨b, 0, none⟩) (i := 0) (cs := [.int .i64 a.Num.A, .int .i64 a.Num.B, .int .i64 a.Num.C, .int .i64 a.Num.D, .int .i64 a.Exp]) (vs := [.int .i64 a.Num.A, .int .i64 a.Num.B, .int .i64 a.Num.C, .int .i64 a.Num.D]) k_ag_243 k_sz_243_4 rfl rfl (hS3.cf (i := 0) rfl) rfl rfl) ?_
  obtain ⟨r_1, hc, hF⟩ := bind_inv hF
  refine sc 6 rfl rfl (Yc_func (g := 285) (vs := [.agg #[.int .i64 a.Num.A, .int .i64 a.Num.B, .int .i64 a.Num.C, .int .i64 a.Num.D]]) k_call_285 rfl (mc rfl mn) (c_laws_toRing a.Num _  (hS3.inn0 [] rfl) hc)) ?_
  rintro _ w_3 ⟨rfl, hd⟩
  have hS4 := hS3.out00 hd
  have hS4 : ST w0 [] _ [⟨some ⟨b, 0, none⟩, 245, [.int .i64 a.Num.A, .int .i64 a.Num.B, .int .i64 a.Num.C, .int .i64 a.Num.D, .int .i64 a.Exp], 5⟩, ⟨some ⟨b1, 0, none⟩, 55, [.int .i64 0, .int .i64 0, .int .i64 0, .int .i64 0, .int .i64 0], 5⟩, ⟨some ⟨b2, 0, none⟩, 55, [.int .i64 0, .int .i64 0, .int .i64 0, .int .i64 0, .int .i64 0], 5⟩] [] := hS4
  refine sq 7 rfl rfl (Y_fieldAddr (B := some ⟨b2, 0, none⟩) (i := 0) (s := 3) k_fd_55_0_0_53 k_sz_53_4 rfl rfl) ?_
  refine ss0 rfl rfl (Ys_store (i := 2) (s := 4) (B := some ⟨b2, 0, none⟩) (T' := 55) (v := .agg #[.int .i64 r_1.A, .int .i64 r_1.B, .int .i64 r_1.C, .int .i64 r_1.D]) (vs := [.int .i64 r_1.A, .int .i64 r_1.B, .int .i64 r_1.C, .int .i64 r_1.D]) (k := 0) (cs' := [.int .i64 r_1.A, .int .i64 r_1.B, .int .i64 r_1.C, .int .i64 r_1.D, .int .i64 0]) hS4 k_sz_53_4 rfl rfl rfl rfl rfl rfl rfl (Nat.le_of_ble_eq_true rfl) rfl rfl) ?_
  rintro _ w_4 ⟨rfl, hS5⟩
  have hS5 : ST w0 [] _ [⟨some ⟨b, 0, none⟩, 245, [.int .i64 a.Num.A, .int .i64 a.Num.B, .int .i64 a.Num.C, .int .i64 a.Num.D, .int .i64 a.Exp], 5⟩, ⟨some ⟨b1, 0, none⟩, 55, [.int .i64 0, .int .i64 0, .int .i64 0, .int .i64 0, .int .i64 0], 5⟩, ⟨some ⟨b2, 0, none⟩, 55, [.int .i64 r_1.A, .int .i64 r_1.B, .int .i64 r_1.C, .int .i64 r_1.D, .int .i64 0], 5⟩] [] := hS5
  refine rw_nil ?_
  refine cw_seq ?_
  refine cw_region ?_
  refine sq 8 rfl rfl (Y_fieldAddr (B := some ⟨b, 0, none⟩) (i := 0) (s := 0) k_fd_245_1_4_3 k_sz_3_1 rfl rfl) ?_
  refine sq 9 rfl rfl (Y_load1 (B := some ⟨b, 0, none⟩) (i := 4) (cs := [.int .i64 a.Num.A, .int .i64 a.Num.B, .int .i64 a.Num.C, .int .i64 a.Num.D, .int .i64 a.Exp]) (v := .int .i64 a.Exp) k_sc_3 rfl rfl (hS5.cf (i := 0) rfl) rfl) ?_
  refine sq 10 rfl rfl (Y_fieldAddr (B := some ⟨b2, 0, none⟩) (i := 0) (s := 0) k_fd_55_1_4_3 k_sz_3_1 rfl rfl) ?_
  refine ss0 rfl rfl (Ys_store (i := 2) (s := 1) (B := some ⟨b2, 0, none⟩) (T' := 55) (v := .int .i64 a.Exp) (vs := [.int .i64 a.Exp]) (k := 4) (cs' := [.int .i64 r_1.A, .int .i64 r_1.B, .int .i64 r_1.C, .int .i64 r_1.D, .int .i64 a.Exp]) hS5 k_sz_3_1 rfl rfl rfl rfl rfl rfl rfl (Nat.le_of_ble_eq_true rfl) rfl rfl) ?_
  rintro _ w_5 ⟨rfl, hS6⟩
  have hS6 : ST w0 [] _ [⟨some ⟨b, 0, none⟩, 245, [.int .i64 a.Num.A, .int .i64 a.Num.B, .int .i64 a.Num.C, .int .i64 a.Num.D, .int .i64 a.Exp], 5⟩, ⟨some ⟨b1, 0, none⟩, 55, [.int .i64 0, .int .i64 0, .int .i64 0, .int .i64 0, .int .i64 0], 5⟩, ⟨some ⟨b2, 0, none⟩, 55, [.int .i64 r_1.A, .int .i64 r_1.B, .int .i64 r_1.C, .int .i64 r_1.D, .int .i64 a.Exp], 5⟩] [] := hS6
  refine rw_nil ?_
  refine cw_seq ?_
  refine cw_region ?_
  refine sq 11 rfl rfl (Y_loadA (B := some ⟨b2, 0, none⟩) (i := 0) (cs := [.int .i64 r_1.A, .int .i64 r_1.B, .int .i64 r_1.C, .int .i64 r_1.D, .int .i64 a.Exp]) (vs := [.int .i64 r_1.A, .int .i64 r_1.B, .int .i64 r_1.C, .int .i64 r_1.D, .int .i64 a.Exp]) k_ag_55 k_sz_55_5 rfl rfl (hS6.cf (i := 2) rfl) rfl rfl) ?_
  refine ss0 rfl rfl (Ys_store (i := 1) (s := 5) (B := some ⟨b1, 0, none⟩) (T' := 55) (v := .agg #[.int .i64 r_1.A, .int .i64 r_1.B, .int .i64 r_1.C, .int .i64 r_1.D, .int .i64 a.Exp]) (vs := [.int .i64 r_1.A, .int .i64 r_1.B, .int .i64 r_1.C, .int .i64 r_1.D, .int .i64 a.Exp]) (k := 0) (cs' := [.int .i64 r_1.A, .int .i64 r_1.B, .int .i64 r_1.C, .int .i64 r_1.D, .int .i64 a.Exp]) hS6 k_sz_55_5 rfl rfl rfl rfl rfl rfl rfl (Nat.le_of_ble_eq_true rfl) rfl rfl) ?_
  rintro _ w_6 ⟨rfl, hS7⟩
  have hS7 : ST w0 [] _ [⟨some ⟨b, 0, none⟩, 245, [.int .i64 a.Num.A, .int .i64 a.Num.B, .int .i64 a.Num.C, .int .i64 a.Num.D, .int .i64 a.Exp], 5⟩, ⟨some ⟨b1, 0, none⟩, 55, [.int .i64 r_1.A, .int .i64 r_1.B, .int .i64 r_1.C, .int .i64 r_1.D, .int .i64 a.Exp], 5⟩, ⟨some ⟨b2, 0, none⟩, 55, [.int .i64 r_1.A, .int .i64 r_1.B, .int .i64 r_1.C, .int .i64 r_1.D, .int .i64 a.Exp], 5⟩] [] := hS7
  refine rw_nil ?_
  refine cw_ret ?_
  obtain rfl := some_inj hF
  exact ret1 Try.results191 (v1 := .agg #[.int .i64 r_1.A, .int .i64 r_1.B, .int .i64 r_1.C, .int .i64 r_1.D, .int .i64 a.Exp]) (resAt_cellA (B := some ⟨b1, 0, none⟩) (i := 0) (cs := [.int .i64 r_1.A, .int .i64 r_1.B, .int .i64 r_1.C, .int .i64 r_1.D, .int .i64 a.Exp]) (vs := [.int .i64 r_1.A, .int .i64 r_1.B, .int .i64 r_1.C, .int .i64 r_1.D, .int .i64 a.Exp]) rfl k_ag_55 k_sz_55_5 (hS7.cf (i := 1) rfl) rfl rfl) ⟨rfl, (ST.subR (R' := []) (hS7.sel [] rfl rfl) (fun _ h => by cases h))⟩

theorem c_laws_toDyadicS (a : List TDyadic) (B : Option Addr) (c n : Nat) (w0 : World) (hn : a.length = n) (hS : ST w0 [] w0 [] [⟨B, (a.flatMap enc_Dyadic)⟩]) {r_ : List TDyadic} (hF : F_laws_toDyadicS a = some r_) :
    CV Try.prog 84 #[.slice B n c] w0 (fun v w' => ∃ (B1 : Option Addr) (c1 : Nat), v = .slice B1 r_.length c1 ∧ ST w0 [] w' [⟨B1, 55, (r_.flatMap enc_Dyadic), c1 * 5⟩] []) := by
  subst hn
  unfold F_laws_toDyadicS at hF
  refine cv_of_cw 23 Try.func84 rfl Try.ntmps84 rfl ?_
  refine cw_seq ?_
  refine cw_region ?_
  refine sq 2 rfl rfl (Y_assign (v := .slice none 0 0) rfl rfl) ?_
  refine rw_nil ?_
  refine cw_seq ?_
  refine cw_region ?_
  refine sq 5 rfl rfl (Y_move (v := .slice B a.length c) rfl rfl) ?_
  refine sq 6 rfl rfl (Y_len (B := B) (m := a.length) (c := c) k_sl_22_245 rfl rfl) ?_
  obtain ⟨hmk, hF⟩ := chk_inv hF
  refine ss 7 rfl rfl (Ys_make (s := 5) (by' := 40) (nn := a.length) (a := (a.length : Int)) (b := (a.length : Int)) (cs := ((List.replicate a.length (TDyadic.mk (TRing.mk 0 0 0 0) 0)).flatMap enc_Dyadic)) hS k_sl_28_55 k_sz_55_5 k_by_55_40 k_zero_55 rfl rfl rfl rfl hmk.1 rfl (by have := hmk; omega) (by have := hmk; omega) (by omega) (fm_rep (enc := enc_Dyadic) (d := (TDyadic.mk (TRing.mk 0 0 0 0) 0)) rfl _)) ?_
  rintro _ w_ ⟨b, rfl, hS1⟩
  refine sq 3 rfl rfl (Y_assign (v := .slice (some ⟨b, 0, none⟩) a.length a.length) rfl rfl) ?_
  refine rw_nil ?_
  refine cw_seq ?_
  refine cw_seq ?_
  refine cw_region ?_
  refine sq 4 rfl rfl (Y_assign (v := .int .i64 0) rfl rfl) ?_
  refine rw_nil ?_
  obtain ⟨hN, hF⟩ := chk_inv hF
  obtain ⟨z, hz, hF1⟩ := bind_inv hF
  refine cw_block ?_
  refine cw_loop (fun k f w => ∃ (i1 : Nat) (out : List TDyadic), FF f [(0, .slice B a.length c), (3, .slice (some ⟨b, 0, none⟩) a.length a.length), (4, .int .i64 (i1 : Int))] ∧ out.length = a.length ∧ ST w0 [] w [⟨some ⟨b, 0, none⟩, 55, (out.flatMap enc_Dyadic), a.length * 5⟩] [⟨B, (a.flatMap enc_Dyadic)⟩] ∧ i1 + k = a.length ∧ forN (F_laws_toDyadicS_l1 a) k i1 out = some z) a.length ⟨0, (List.replicate a.length (TDyadic.mk (TRing.mk 0 0 0 0) 0)), (FF.cons rfl (FF.cons rfl (FF.cons rfl FF.nil))), List.length_replicate, (hS1.sel [0] rfl rfl), Nat.zero_add _, hz⟩ ?_
  rintro k_ f w ⟨i1, out, hf, hl, hS2, hik, hL⟩
  refine cw_seq ?_
  refine cw_seq ?_
  refine cw_region ?_
  refine sq 8 rfl rfl (Y_move (v := .int .i64 (i1 : Int)) rfl (hf.get 4 2 rfl)) ?_
  refine sq 9 rfl rfl (Y_move (v := .slice B a.length c) rfl (hf.get 0 0 rfl)) ?_
  refine sq 10 rfl rfl (Y_len (B := B) (m := a.length) (c := c) k_sl_22_245 rfl rfl) ?_
  refine sq 11 rfl rfl (Y_lt (k := .i64) (a := (i1 : Int)) (b := (a.length : Int)) rfl rfl rfl) ?_
  refine rw_nil ?_
  refine cw_cond (b := (decide ((i1 : Int) < (a.length : Int)))) rfl (fun hlt => ?_) (fun hlt => ?_)
  · skip
    have hlt1 : i1 < a.length := by have h := of_decide_eq_true hlt; omega
    obtain ⟨k_1, rfl⟩ : ∃ k2, k_ = k2 + 1 := ⟨k_ - 1, by omega⟩
    obtain ⟨y, hb, hL1⟩ := forN_go hL
    unfold F_laws_toDyadicS_l1 at hb
    refine cw_skip ?_
    refine cw_seq ?_
    refine cw_block ?_
    refine cw_region ?_
    refine sq 14 rfl rfl (Y_move (v := .slice (some ⟨b, 0, none⟩) a.length a.length) rfl (hf.get 3 1 rfl)) ?_
    refine sq 15 rfl rfl (Y_move (v := .int .i64 (i1 : Int)) rfl (hf.get 4 2 rfl)) ?_
    refine sq 16 rfl rfl (Y_move (v := .slice B a.length c) rfl (hf.get 0 0 rfl)) ?_
    refine sq 17 rfl rfl (Y_move (v := .int .i64 (i1 : Int)) rfl (hf.get 4 2 rfl)) ?_
    obtain ⟨x, hx, hb⟩ := bind_inv hb
    refine sq 18 rfl rfl (Y_index (B := B) (m := a.length) (c := c) (k := .i64) (i := (i1 : Int)) k_sl_22_245 k_sz_245_5 rfl rfl rfl (gi_isSome enc_Dyadic_len rfl (hS2.rf (i := 0) rfl) hx) (getI_nn hx) (getI_ltI hx rfl)) ?_
    refine sq 19 rfl rfl (Y_loadA (B := B) (i := (i1 : Int).toNat * 5) (cs := (a.flatMap enc_Dyadic)) (vs := [.int .i64 x.Num.A, .int .i64 x.Num.B, .int .i64 x.Num.C, .int .i64 x.Num.D, .int .i64 x.Exp]) k_ag_245 k_sz_245_5 rfl rfl (hS2.rf (i := 0) rfl) (enc_Dyadic_len x) (gi_seg enc_Dyadic_len hx)) ?_
    obtain ⟨r_1, hc, hb⟩ := bind_inv hb
    refine sc 20 rfl rfl (Yc_func (g := 191) (vs := [.agg #[.int .i64 x.Num.A, .int .i64 x.Num.B, .int .i64 x.Num.C, .int .i64 x.Num.D, .int .i64 x.Exp]]) k_call_191 rfl (mc rfl mn) (c_laws_toDyadic x _  (hS2.inn0 [] rfl) hc)) ?_
    rintro _ w_1 ⟨rfl, hd⟩
    have hS3 := hS2.out00 hd
    obtain ⟨x1, hx1, hb⟩ := bind_inv hb
    refine sq 21 rfl rfl (Y_index (B := some ⟨b, 0, none⟩) (m := a.length) (c := a.length) (k := .i64) (i := (i1 : Int)) k_sl_28_55 k_sz_55_5 rfl rfl rfl (gi_isSome enc_Dyadic_len rfl (hS3.cf (i := 0) rfl) hx1) (getI_nn hx1) (getI_ltI hx1 hl)) ?_
    refine ss0 rfl rfl (Ys_store (i := 0) (s := 5) (B := some ⟨b, 0, none⟩) (T' := 55) (v := .agg #[.int .i64 r_1.Num.A, .int .i64 r_1.Num.B, .int .i64 r_1.Num.C, .int .i64 r_1.Num.D, .int .i64 r_1.Exp]) (vs := [.int .i64 r_1.Num.A, .int .i64 r_1.Num.B, .int .i64 r_1.Num.C, .int .i64 r_1.Num.D, .int .i64 r_1.Exp]) (k := (i1 : Int).toNat * 5) (cs' := ((out.set (i1 : Int).toNat r_1).flatMap enc_Dyadic)) hS3 k_sz_55_5 rfl rfl rfl rfl rfl rfl rfl (gi_fit0 enc_Dyadic_len hx1) (gi_set enc_Dyadic_len hx1 r_1 rfl) rfl) ?_
    rintro _ w_2 ⟨rfl, hS4⟩
    refine rw_nil ?_
    refine cw_region ?_
    refine sq 12 rfl rfl (Y_move (v := .int .i64 (i1 : Int)) rfl (hf.get 4 2 rfl)) ?_
    refine sq 13 rfl rfl (Y_add (k := .i64) (a := (i1 : Int)) (b := 1) rfl rfl rfl) ?_
    refine sq 4 rfl rfl (Y_assign (v := .int .i64 (IntKind.i64.wrap ((i1 : Int) + 1))) rfl rfl) ?_
    refine rw_nil ?_
    obtain rfl := some_inj hb
    exact ⟨k_1, Nat.lt_succ_self _, i1 + 1, (out.set (i1 : Int).toNat r_1), (FF.cons (hf.get 0 0 rfl) (FF.cons (hf.get 3 1 rfl) (FF.cons (congrArg (Value.int .i64) (wr_succ hlt1 hN)) FF.nil))), (set_len _ _ _ hl), (hS4.sel [0] rfl rfl), (by omega), hL1⟩
  · skip
    obtain rfl : k_ = 0 := by have h := of_decide_eq_false hlt; omega
    refine cw_exit rfl ?_
    obtain rfl := some_inj hL
    refine cw_seq ?_
    refine cw_region ?_
    refine sq 22 rfl rfl (Y_move (v := .slice (some ⟨b, 0, none⟩) a.length a.length) rfl (hf.get 3 1 rfl)) ?_
    refine sq 2 rfl rfl (Y_assign (v := .slice (some ⟨b, 0, none⟩) a.length a.length) rfl rfl) ?_
    refine rw_nil ?_
    refine cw_ret ?_
    obtain rfl := some_inj hF1
    exact ret1 Try.results84 (v1 := .slice (some ⟨b, 0, none⟩) a.length a.length) (resAt_tmp rfl) ⟨some ⟨b, 0, none⟩, a.length, (sl_eqv hl), (ST.subR (R' := []) (hS2.sel [0] rfl rfl) (fun _ h => by cases h))⟩

theorem c_laws_toBloch (a : TBloch) (B : Option Addr) (c n : Nat) (w0 : World) (hn : a.Cells.length = n) (hS : ST w0 [] w0 [] [⟨B, (a.Cells.flatMap enc_Dyadic)⟩]) {r_ : TBloch} (hF : F_laws_toBloch a = some r_) :
    CV Try.prog 15 #[.agg #[.slice B n c]] w0 (fun v w' => ∃ (B1 : Option Addr) (c1 : Nat), v = .agg #[.slice B1 r_.Cells.length c1] ∧ ST w0 [] w' [⟨B1, 55, (r_.Cells.flatMap enc_Dyadic), c1 * 5⟩] []) := by
  subst hn
  unfold F_laws_toBloch at hF
  refine cv_of_cw 9 Try.func15 rfl Try.ntmps15 rfl ?_
  refine cw_seq ?_
  refine cw_region ?_
  refine ss 1 rfl rfl (Ys_box (T := 24) (v := .agg #[.slice B a.Cells.length c]) (cs := [.slice B a.Cells.length c]) (m := 1) hS rfl rfl rfl rfl) ?_
  rintro _ w_ ⟨b, rfl, hS1⟩
  refine ss 2 rfl rfl (Ys_alloc (T := 30) (cs := [.slice none 0 0]) (m := 1) hS1 k_zero_30 rfl rfl rfl) ?_
  rintro _ w_1 ⟨b1, rfl, hS2⟩
  have hS2 : ST w0 [] _ [⟨some ⟨b, 0, none⟩, 24, [.slice B a.Cells.length c], 1⟩, ⟨some ⟨b1, 0, none⟩, 30, [.slice none 0 0], 1⟩] [⟨B, (a.Cells.flatMap enc_Dyadic)⟩] := hS2
  refine rw_nil ?_
  refine cw_seq ?_
  refine cw_region ?_
  refine ss 3 rfl rfl (Ys_alloc (T := 30) (cs := [.slice none 0 0]) (m := 1) hS2 k_zero_30 rfl rfl rfl) ?_
  rintro _ w_2 ⟨b2, rfl, hS3⟩
  have hS3 : ST w0 [] _ [⟨some ⟨b, 0, none⟩, 24, [.slice B a.Cells.length c], 1⟩, ⟨some ⟨b1, 0, none⟩, 30, [.slice none 0 0], 1⟩, ⟨some ⟨b2, 0, none⟩, 30, [.slice none 0 0], 1⟩] [⟨B, (a.Cells.flatMap enc_Dyadic)⟩] := hS3
  refine rw_nil ?_
  refine cw_seq ?_
  refine cw_region ?_
  refine sq 4 rfl rfl (Y_fieldAddr (B := some ⟨b, 0, none⟩) (i := 0) (s := 0) k_fd_24_0_0_22 k_sz_22_1 rfl rfl) ?_
  refine sq 5 rfl rfl (Y_load1 (B := some ⟨b, 0, none⟩) (i := 0) (cs := [.slice B a.Cells.length c]) (v := .slice B a.Cells.length c) k_sc_22 rfl rfl (hS3.cf (i := 0) rfl) rfl) ?_
  obtain ⟨r_1, hc, hF⟩ := bind_inv hF
  refine sc 6 rfl rfl (Yc_func (g := 84) (vs := [.slice B a.Cells.length c]) k_call_84 rfl (mc rfl mn) (c_laws_toDyadicS a.Cells B c a.Cells.length _ rfl (hS3.inn0 [(true, 0)] rfl) hc)) ?_
  rintro _ w_3 ⟨B2, c2, rfl, hd⟩
  have hS4 := hS3.out0 hd
  have hS4 : ST w0 [] _ [⟨some ⟨b, 0, none⟩, 24, [.slice B a.Cells.length c], 1⟩, ⟨some ⟨b1, 0, none⟩, 30, [.slice none 0 0], 1⟩, ⟨some ⟨b2, 0, none⟩, 30, [.slice none 0 0], 1⟩, ⟨B2, 55, (r_1.flatMap enc_Dyadic), c2 * 5⟩] [⟨B, (a.Cells.flatMap enc_Dyadic)⟩] := hS4
  refine sq 7 rfl rfl (Y_fieldAddr (B := some ⟨b2, 0, none⟩) (i := 0) (s := 0) k_fd_30_0_0_28 k_sz_28_1 rfl rfl) ?_
  refine ss0 rfl rfl (Ys_store (i := 2) (s := 1) (B := some ⟨b2, 0, none⟩) (T' := 30) (v := .slice B2 r_1.length c2) (vs := [.slice B2 r_1.length c2]) (k := 0) (cs' := [.slice B2 r_1.length c2]) hS4 k_sz_28_1 rfl rfl rfl rfl rfl rfl rfl (Nat.le_of_ble_eq_true rfl) rfl rfl) ?_
  rintro _ w_4 ⟨rfl, hS5⟩
  have hS5 : ST w0 [] _ [⟨some ⟨b, 0, none⟩, 24, [.slice B a.Cells.length c], 1⟩, ⟨some ⟨b1, 0, none⟩, 30, [.slice none 0 0], 1⟩, ⟨some ⟨b2, 0, none⟩, 30, [.slice B2 r_1.length c2], 1⟩, ⟨B2, 55, (r_1.flatMap enc_Dyadic), c2 * 5⟩] [⟨B, (a.Cells.flatMap enc_Dyadic)⟩] := hS5
  refine rw_nil ?_
  refine cw_seq ?_
  refine cw_region ?_
  refine sq 8 rfl rfl (Y_loadA (B := some ⟨b2, 0, none⟩) (i := 0) (cs := [.slice B2 r_1.length c2]) (vs := [.slice B2 r_1.length c2]) k_ag_30 k_sz_30_1 rfl rfl (hS5.cf (i := 2) rfl) rfl rfl) ?_
  refine ss0 rfl rfl (Ys_store (i := 1) (s := 1) (B := some ⟨b1, 0, none⟩) (T' := 30) (v := .agg #[.slice B2 r_1.length c2]) (vs := [.slice B2 r_1.length c2]) (k := 0) (cs' := [.slice B2 r_1.length c2]) hS5 k_sz_30_1 rfl rfl rfl rfl rfl rfl rfl (Nat.le_of_ble_eq_true rfl) rfl rfl) ?_
  rintro _ w_5 ⟨rfl, hS6⟩
  have hS6 : ST w0 [] _ [⟨some ⟨b, 0, none⟩, 24, [.slice B a.Cells.length c], 1⟩, ⟨some ⟨b1, 0, none⟩, 30, [.slice B2 r_1.length c2], 1⟩, ⟨some ⟨b2, 0, none⟩, 30, [.slice B2 r_1.length c2], 1⟩, ⟨B2, 55, (r_1.flatMap enc_Dyadic), c2 * 5⟩] [⟨B, (a.Cells.flatMap enc_Dyadic)⟩] := hS6
  refine rw_nil ?_
  refine cw_ret ?_
  obtain rfl := some_inj hF
  exact ret1 Try.results15 (v1 := .agg #[.slice B2 r_1.length c2]) (resAt_cellA (B := some ⟨b1, 0, none⟩) (i := 0) (cs := [.slice B2 r_1.length c2]) (vs := [.slice B2 r_1.length c2]) rfl k_ag_30 k_sz_30_1 (hS6.cf (i := 1) rfl) rfl rfl) ⟨B2, c2, rfl, (ST.subR (R' := []) (hS6.sel [3] rfl rfl) (fun _ h => by cases h))⟩

theorem c_impl_whole (n : Int)  (w0 : World)  (hS : ST w0 [] w0 [] []) {r_ : TDyadic} (hF : F_impl_whole n = some r_) :
    CV Try.prog 115 #[.int .i64 n] w0 (fun v w' => v = .agg #[.int .i64 r_.Num.A, .int .i64 r_.Num.B, .int .i64 r_.Num.C, .int .i64 r_.Num.D, .int .i64 r_.Exp] ∧ ST w0 [] w' [] []) := by
  unfold F_impl_whole at hF
  refine cv_of_cw 6 Try.func115 rfl Try.ntmps115 rfl ?_
  refine cw_seq ?_
  refine cw_region ?_
  refine ss 2 rfl rfl (Ys_alloc (T := 55) (cs := [.int .i64 0, .int .i64 0, .int .i64 0, .int .i64 0, .int .i64 0]) (m := 5) hS k_zero_55 rfl rfl rfl) ?_
  rintro _ w_ ⟨b, rfl, hS1⟩
  refine rw_nil ?_
  refine cw_seq ?_
  refine cw_region ?_
  refine sq 3 rfl rfl (Y_move (v := .int .i64 n) rfl rfl) ?_
  refine sq 4 rfl rfl (Y_buildS (zs := [.int .i64 0, .int .i64 0, .int .i64 0, .int .i64 0]) (vs := [(0, .int .i64 n)]) (cs := [.int .i64 n, .int .i64 0, .int .i64 0, .int .i64 0]) k_pl_53 k_zero_53 rfl (mpc rfl mpn) rfl) ?_
  refine sq 5 rfl rfl (Y_buildS (zs := [.int .i64 0, .int .i64 0, .int .i64 0, .int .i64 0, .int .i64 0]) (vs := [(0, .agg #[.int .i64 n, .int .i64 0, .int .i64 0, .int .i64 0])]) (cs := [.int .i64 n, .int .i64 0, .int .i64 0, .int .i64 0, .int .i64 0]) k_pl_55 k_zero_55 rfl (mpc rfl mpn) rfl) ?_
  refine ss0 rfl rfl (Ys_store (i := 0) (s := 5) (B := some ⟨b, 0, none⟩) (T' := 55) (v := .agg #[.int .i64 n, .int .i64 0, .int .i64 0, .int .i64 0, .int .i64 0]) (vs := [.int .i64 n, .int .i64 0, .int .i64 0, .int .i64 0, .int .i64 0]) (k := 0) (cs' := [.int .i64 n, .int .i64 0, .int .i64 0, .int .i64 0, .int .i64 0]) hS1 k_sz_55_5 rfl rfl rfl rfl rfl rfl rfl (Nat.le_of_ble_eq_true rfl) rfl rfl) ?_
  rintro _ w_1 ⟨rfl, hS2⟩
  refine rw_nil ?_
  refine cw_ret ?_
  obtain rfl := some_inj hF
  exact ret1 Try.results115 (v1 := .agg #[.int .i64 n, .int .i64 0, .int .i64 0, .int .i64 0, .int .i64 0]) (resAt_cellA (B := some ⟨b, 0, none⟩) (i := 0) (cs := [.int .i64 n, .int .i64 0, .int .i64 0, .int .i64 0, .int .i64 0]) (vs := [.int .i64 n, .int .i64 0, .int .i64 0, .int .i64 0, .int .i64 0]) rfl k_ag_55 k_sz_55_5 (hS2.cf (i := 0) rfl) rfl rfl) ⟨rfl, (ST.subR (R' := []) (hS2.sel [] rfl rfl) (fun _ h => by cases h))⟩

theorem c_slices_IndexFunc_impl_Dyadic_impl_Dyadic (s : List TDyadic) (f_ : TDyadic → Option (Bool)) (B : Option Addr) (c n : Nat) (kf : Nat) (caps : Array Value) (Rf : List Ro) (w0 : World) (hn : s.length = n) (hk : callB Try.prog kf = true) (hp : ∀ (w : World), ST w [] w [] Rf → ∀ (x : TDyadic) (y : Bool), f_ x = some y → CV Try.prog kf ((.agg #[.int .i64 x.Num.A, .int .i64 x.Num.B, .int .i64 x.Num.C, .int .i64 x.Num.D, .int .i64 x.Exp]) :: caps.toList).toArray w (fun v w' => v = .bool y ∧ ST w [] w' [] [])) (hS : ST w0 [] w0 [] (⟨B, (s.flatMap enc_Dyadic)⟩ :: Rf)) {r_ : Int} (hF : F_slices_IndexFunc_impl_Dyadic_impl_Dyadic s f_ = some r_) :
    CV Try.prog 286 #[.slice B n c, .func (.func kf) #[] caps] w0 (fun v w' => v = .int .i64 r_ ∧ ST w0 [] w' [] []) := by
  subst hn
  unfold F_slices_IndexFunc_impl_Dyadic_impl_Dyadic at hF
  refine cv_of_cw 19 Try.func286 rfl Try.ntmps286 rfl ?_
  refine cw_seq ?_
  refine cw_region ?_
  refine sq 4 rfl rfl (Y_assign (v := .int .i64 0) rfl rfl) ?_
  refine rw_nil ?_
  refine cw_seq ?_
  refine cw_seq ?_
  refine cw_region ?_
  refine sq 6 rfl rfl (Y_move (v := .slice B s.length c) rfl rfl) ?_
  refine sq 7 rfl rfl (Y_len (B := B) (m := s.length) (c := c) k_sl_28_55 rfl rfl) ?_
  refine sq 8 rfl rfl (Y_move (v := .int .i64 0) rfl rfl) ?_
  refine rw_nil ?_
  obtain ⟨hN, hF⟩ := chk_inv hF
  obtain ⟨z, hz, hF1⟩ := bind_inv hF
  refine cw_block ?_
  refine cw_loop (fun k f w => ∃ (i : Nat), FF f [(0, .slice B s.length c), (1, .func (.func kf) #[] caps), (7, .int .i64 (s.length : Int)), (8, .int .i64 (i : Int))] ∧ ST w0 [] w [] (⟨B, (s.flatMap enc_Dyadic)⟩ :: Rf) ∧ i + k = s.length ∧ forX (F_slices_IndexFunc_impl_Dyadic_impl_Dyadic_l1 s f_) k i () = some z) s.length ⟨0, (FF.cons rfl (FF.cons rfl (FF.cons rfl (FF.cons rfl FF.nil)))), (hS.sel [] rfl rfl), Nat.zero_add _, hz⟩ ?_
  rintro k_ f w ⟨i, hf, hS1, hik, hL⟩
  refine cw_seq ?_
  refine cw_region ?_
  refine sq 9 rfl rfl (Y_lt (k := .i64) (a := (i : Int)) (b := (s.length : Int)) rfl (hf.get 8 3 rfl) (hf.get 7 2 rfl)) ?_
  refine rw_nil ?_
  refine cw_seq ?_
  refine cw_cond (b := (decide ((i : Int) < (s.length : Int)))) rfl (fun hlt => ?_) (fun hlt => ?_)
  · skip
    have hlt1 : i < s.length := by have h := of_decide_eq_true hlt; omega
    obtain ⟨k_1, rfl⟩ : ∃ k2, k_ = k2 + 1 := ⟨k_ - 1, by omega⟩
    obtain ⟨y1, hb, hL1⟩ := forX_go hL
    unfold F_slices_IndexFunc_impl_Dyadic_impl_Dyadic_l1 at hb
    refine cw_skip ?_
    refine cw_seq ?_
    refine cw_block ?_
    refine cw_seq ?_
    refine cw_region ?_
    refine sq 10 rfl rfl (Y_move (v := .int .i64 (i : Int)) rfl (hf.get 8 3 rfl)) ?_
    refine sq 5 rfl rfl (Y_assign (v := .int .i64 (i : Int)) rfl rfl) ?_
    refine rw_nil ?_
    refine cw_seq ?_
    refine cw_region ?_
    refine sq 11 rfl rfl (Y_move (v := .func (.func kf) #[] caps) rfl (hf.get 1 1 rfl)) ?_
    refine sq 12 rfl rfl (Y_move (v := .slice B s.length c) rfl (hf.get 0 0 rfl)) ?_
    refine sq 13 rfl rfl (Y_move (v := .int .i64 (i : Int)) rfl rfl) ?_
    obtain ⟨x1, hx, hb⟩ := bind_inv hb
    refine sq 14 rfl rfl (Y_index (B := B) (m := s.length) (c := c) (k := .i64) (i := (i : Int)) k_sl_28_55 k_sz_55_5 rfl rfl rfl (gi_isSome enc_Dyadic_len rfl (hS1.rf (i := 0) rfl) hx) (getI_nn hx) (getI_ltI hx rfl)) ?_
    refine sq 15 rfl rfl (Y_loadA (B := B) (i := (i : Int).toNat * 5) (cs := (s.flatMap enc_Dyadic)) (vs := [.int .i64 x1.Num.A, .int .i64 x1.Num.B, .int .i64 x1.Num.C, .int .i64 x1.Num.D, .int .i64 x1.Exp]) k_ag_55 k_sz_55_5 rfl rfl (hS1.rf (i := 0) rfl) (enc_Dyadic_len x1) (gi_seg enc_Dyadic_len hx)) ?_
    obtain ⟨r_1, hc, hb⟩ := bind_inv hb
    refine sc 16 rfl rfl (Yc_clos (g := kf) (vs := (.agg #[.int .i64 x1.Num.A, .int .i64 x1.Num.B, .int .i64 x1.Num.C, .int .i64 x1.Num.D, .int .i64 x1.Exp]) :: caps.toList) hk rfl rfl (clo_args (mc rfl mn)) (hp _ (hS1.innS (fun _ h => List.mem_of_mem_drop (i := 1) h)) x1 r_1 hc)) ?_
    rintro _ w_ ⟨rfl, hd⟩
    have hS2 := hS1.out00 hd
    refine rw_nil ?_
    refine cw_cond (b := r_1) rfl (fun hb1 => ?_) (fun hb1 => ?_)
    · skip
      have hF2 := ct hb hb1
      refine cw_seq ?_
      refine cw_region ?_
      refine sq 17 rfl rfl (Y_move (v := .int .i64 (i : Int)) rfl rfl) ?_
      refine sq 4 rfl rfl (Y_assign (v := .int .i64 (i : Int)) rfl rfl) ?_
      refine rw_nil ?_
      refine cw_ret ?_
      obtain rfl := some_inj hF2
      obtain rfl := some_inj hL1
      obtain rfl := some_inj hF1
      exact ret1 Try.results286 (v1 := .int .i64 (i : Int)) (resAt_tmp rfl) ⟨rfl, (ST.subR (R' := []) (hS2.sel [] rfl rfl) (fun _ h => by cases h))⟩
    · skip
      have hF3 := cf' hb hb1
      refine cw_skip ?_
      refine cw_region ?_
      refine sq 18 rfl rfl (Y_add (k := .i64) (a := (i : Int)) (b := 1) rfl (hf.get 8 3 rfl) rfl) ?_
      refine sq 8 rfl rfl (Y_move (v := .int .i64 (IntKind.i64.wrap ((i : Int) + 1))) rfl rfl) ?_
      refine rw_nil ?_
      obtain rfl := some_inj hF3
      exact ⟨k_1, Nat.lt_succ_self _, i + 1, (FF.cons (hf.get 0 0 rfl) (FF.cons (hf.get 1 1 rfl) (FF.cons (hf.get 7 2 rfl) (FF.cons (congrArg (Value.int .i64) (wr_succ hlt1 hN)) FF.nil)))), (hS2.sel [] rfl rfl), (by omega), hL1⟩
  · skip
    obtain rfl : k_ = 0 := by have h := of_decide_eq_false hlt; omega
    refine cw_exit rfl ?_
    obtain rfl := some_inj hL
    refine cw_seq ?_
    refine cw_region ?_
    refine sq 4 rfl rfl (Y_assign (v := .int .i64 (-1)) rfl rfl) ?_
    refine rw_nil ?_
    refine cw_ret ?_
    obtain rfl := some_inj hF1
    exact ret1 Try.results286 (v1 := .int .i64 (-1)) (resAt_tmp rfl) ⟨rfl, (ST.subR (R' := []) (hS1.sel [] rfl rfl) (fun _ h => by cases h))⟩

theorem c_slices_ContainsFunc_impl_Dyadic_impl_Dyadic (s : List TDyadic) (f_ : TDyadic → Option (Bool)) (B : Option Addr) (c n : Nat) (kf : Nat) (caps : Array Value) (Rf : List Ro) (w0 : World) (hn : s.length = n) (hk : callB Try.prog kf = true) (hp : ∀ (w : World), ST w [] w [] Rf → ∀ (x : TDyadic) (y : Bool), f_ x = some y → CV Try.prog kf ((.agg #[.int .i64 x.Num.A, .int .i64 x.Num.B, .int .i64 x.Num.C, .int .i64 x.Num.D, .int .i64 x.Exp]) :: caps.toList).toArray w (fun v w' => v = .bool y ∧ ST w [] w' [] [])) (hS : ST w0 [] w0 [] (⟨B, (s.flatMap enc_Dyadic)⟩ :: Rf)) {r_ : Bool} (hF : F_slices_ContainsFunc_impl_Dyadic_impl_Dyadic s f_ = some r_) :
    CV Try.prog 192 #[.slice B n c, .func (.func kf) #[] caps] w0 (fun v w' => v = .bool r_ ∧ ST w0 [] w' [] []) := by
  subst hn
  unfold F_slices_ContainsFunc_impl_Dyadic_impl_Dyadic at hF
  refine cv_of_cw 9 Try.func192 rfl Try.ntmps192 rfl ?_
  refine cw_seq ?_
  refine cw_region ?_
  refine sq 4 rfl rfl (Y_assign (v := .bool false) rfl rfl) ?_
  refine rw_nil ?_
  refine cw_seq ?_
  refine cw_region ?_
  refine sq 5 rfl rfl (Y_move (v := .slice B s.length c) rfl rfl) ?_
  refine sq 6 rfl rfl (Y_move (v := .func (.func kf) #[] caps) rfl rfl) ?_
  obtain ⟨r_1, hc, hF⟩ := bind_inv hF
  refine sc 7 rfl rfl (Yc_func (g := 286) (vs := [.slice B s.length c, .func (.func kf) #[] caps]) k_call_286 rfl (mc rfl (mc rfl mn)) (c_slices_IndexFunc_impl_Dyadic_impl_Dyadic s f_ B c s.length kf caps Rf _ rfl hk hp (hS.innS (subc (mem_at (i := 0) rfl) (fun _ h => List.mem_of_mem_drop (i := 1) h))) hc)) ?_
  rintro _ w_ ⟨rfl, hd⟩
  have hS1 := hS.out00 hd
  refine sq 8 rfl rfl (Y_ge (k := .i64) (a := r_1) (b := 0) rfl rfl rfl) ?_
  refine sq 4 rfl rfl (Y_assign (v := .bool (decide (0 ≤ r_1))) rfl rfl) ?_
  refine rw_nil ?_
  refine cw_ret ?_
  obtain rfl := some_inj hF
  exact ret1 Try.results192 (v1 := .bool (decide (0 ≤ r_1))) (resAt_tmp rfl) ⟨rfl, (ST.subR (R' := []) (hS1.sel [] rfl rfl) (fun _ h => by cases h))⟩

theorem c_impl_within (n : Int) (low : Int) (high : Int)  (w0 : World)  (hS : ST w0 [] w0 [] []) {r_ : Bool} (hF : F_impl_within n low high = some r_) :
    CV Try.prog 130 #[.int .i64 n, .int .i64 low, .int .i64 high] w0 (fun v w' => v = .bool r_ ∧ ST w0 [] w' [] []) := by
  unfold F_impl_within at hF
  refine cv_of_cw 15 Try.func130 rfl Try.ntmps130 rfl ?_
  refine cw_seq ?_
  refine cw_region ?_
  refine sq 6 rfl rfl (Y_assign (v := .bool false) rfl rfl) ?_
  refine rw_nil ?_
  refine cw_seq ?_
  refine cw_region ?_
  refine sq 7 rfl rfl (Y_move (v := .int .i64 low) rfl rfl) ?_
  refine sq 8 rfl rfl (Y_move (v := .int .i64 n) rfl rfl) ?_
  refine sq 9 rfl rfl (Y_le (k := .i64) (a := low) (b := n) rfl rfl rfl) ?_
  refine sq 10 rfl rfl (Y_move (v := .bool (decide (low ≤ n))) rfl rfl) ?_
  refine sgq 11 (B := (decide (low ≤ n))) (v := .int .i64 n) rfl rfl (wt_t (gd_of (t := 10) (by kernel_rfl) rfl)) (fun hg => (Y_move (v := .int .i64 n) rfl rfl)) ?_
  refine sgq 12 (B := (decide (low ≤ n))) (v := .int .i64 high) rfl rfl (wt_t (gd_of (t := 10) (by kernel_rfl) rfl)) (fun hg1 => (Y_move (v := .int .i64 high) rfl rfl)) ?_
  refine sgq 13 (B := (decide (low ≤ n))) (v := .bool (decide (n ≤ high))) rfl rfl (wt_t (gd_of (t := 10) (by kernel_rfl) rfl)) (fun hg2 => (Y_le (k := .i64) (a := n) (b := high) rfl (gv_of (B := (decide (low ≤ n))) (v := .int .i64 n) hg2) (gv_of (B := (decide (low ≤ n))) (v := .int .i64 high) hg2))) ?_
  refine sq 14 rfl rfl (Y_and (b := (decide (low ≤ n))) (z := (decide (n ≤ high))) rfl rfl rfl rfl) ?_
  refine sq 6 rfl rfl (Y_assign (v := .bool ((decide (low ≤ n)) && (decide (n ≤ high)))) rfl rfl) ?_
  refine rw_nil ?_
  refine cw_ret ?_
  obtain rfl := some_inj hF
  exact ret1 Try.results130 (v1 := .bool ((decide (low ≤ n)) && (decide (n ≤ high)))) (resAt_tmp rfl) ⟨rfl, (ST.subR (R' := []) (hS.sel [] rfl rfl) (fun _ h => by cases h))⟩

theorem c_impl_isCoef (n : Int)  (w0 : World)  (hS : ST w0 [] w0 [] []) {r_ : Bool} (hF : F_impl_isCoef n = some r_) :
    CV Try.prog 334 #[.int .i64 n] w0 (fun v w' => v = .bool r_ ∧ ST w0 [] w' [] []) := by
  unfold F_impl_isCoef at hF
  refine cv_of_cw 5 Try.func334 rfl Try.ntmps334 rfl ?_
  refine cw_seq ?_
  refine cw_region ?_
  refine sq 2 rfl rfl (Y_assign (v := .bool false) rfl rfl) ?_
  refine rw_nil ?_
  refine cw_seq ?_
  refine cw_region ?_
  refine sq 3 rfl rfl (Y_move (v := .int .i64 n) rfl rfl) ?_
  obtain ⟨r_1, hc, hF⟩ := bind_inv hF
  refine sc 4 rfl rfl (Yc_func (g := 130) (vs := [.int .i64 n, .int .i64 (-1000000000), .int .i64 1000000000]) k_call_130 rfl (mc rfl (mc rfl (mc rfl mn))) (c_impl_within n (-1000000000) 1000000000 _  (hS.inn0 [] rfl) hc)) ?_
  rintro _ w_ ⟨rfl, hd⟩
  have hS1 := hS.out00 hd
  refine sq 2 rfl rfl (Y_assign (v := .bool r_1) rfl rfl) ?_
  refine rw_nil ?_
  refine cw_ret ?_
  obtain rfl := some_inj hF
  exact ret1 Try.results334 (v1 := .bool r_1) (resAt_tmp rfl) ⟨rfl, (ST.subR (R' := []) (hS1.sel [] rfl rfl) (fun _ h => by cases h))⟩

theorem c_impl_IsValidRing (x : TRing)  (w0 : World)  (hS : ST w0 [] w0 [] []) {r_ : Bool} (hF : F_impl_IsValidRing x = some r_) :
    CV Try.prog 292 #[.agg #[.int .i64 x.A, .int .i64 x.B, .int .i64 x.C, .int .i64 x.D]] w0 (fun v w' => v = .bool r_ ∧ ST w0 [] w' [] []) := by
  unfold F_impl_IsValidRing at hF
  refine cv_of_cw 21 Try.func292 rfl Try.ntmps292 rfl ?_
  refine cw_seq ?_
  refine cw_region ?_
  refine ss 1 rfl rfl (Ys_box (T := 53) (v := .agg #[.int .i64 x.A, .int .i64 x.B, .int .i64 x.C, .int .i64 x.D]) (cs := [.int .i64 x.A, .int .i64 x.B, .int .i64 x.C, .int .i64 x.D]) (m := 4) hS rfl rfl rfl rfl) ?_
  rintro _ w_ ⟨b, rfl, hS1⟩
  refine sq 2 rfl rfl (Y_assign (v := .bool false) rfl rfl) ?_
  refine rw_nil ?_
  refine cw_seq ?_
  refine cw_region ?_
  refine sq 3 rfl rfl (Y_fieldAddr (B := some ⟨b, 0, none⟩) (i := 0) (s := 0) k_fd_53_0_0_3 k_sz_3_1 rfl rfl) ?_
  refine sq 4 rfl rfl (Y_load1 (B := some ⟨b, 0, none⟩) (i := 0) (cs := [.int .i64 x.A, .int .i64 x.B, .int .i64 x.C, .int .i64 x.D]) (v := .int .i64 x.A) k_sc_3 rfl rfl (hS1.cf (i := 0) rfl) rfl) ?_
  obtain ⟨r_1, hc, hF⟩ := bind_inv hF
  refine sc 5 rfl rfl (Yc_func (g := 334) (vs := [.int .i64 x.A]) k_call_334 rfl (mc rfl mn) (c_impl_isCoef x.A _  (hS1.inn0 [] rfl) hc)) ?_
  rintro _ w_1 ⟨rfl, hd⟩
  have hS2 := hS1.out00 hd
  refine sq 6 rfl rfl (Y_move (v := .bool r_1) rfl rfl) ?_
  refine sgq 7 (B := r_1) (v := pt (some ⟨b, 0, none⟩) 1) rfl rfl (wt_t (gd_of (t := 6) (by kernel_rfl) rfl)) (fun hg => (Y_fieldAddr (B := some ⟨b, 0, none⟩) (i := 0) (s := 0) k_fd_53_1_1_3 k_sz_3_1 rfl rfl)) ?_
  refine sgq 8 (B := r_1) (v := .int .i64 x.B) rfl rfl (wt_t (gd_of (t := 6) (by kernel_rfl) rfl)) (fun hg1 => (Y_load1 (B := some ⟨b, 0, none⟩) (i := 1) (cs := [.int .i64 x.A, .int .i64 x.B, .int .i64 x.C, .int .i64 x.D]) (v := .int .i64 x.B) k_sc_3 rfl (gv_of (B := r_1) (v := pt (some ⟨b, 0, none⟩) 1) hg1) (hS2.cf (i := 0) rfl) rfl)) ?_
  obtain ⟨r_2, hc1, hF⟩ := bind_inv hF
  refine sgc 9 (B := r_1) (v := .bool r_2) (F := hS2.fn) rfl rfl (wt_t (gd_of (t := 6) (by kernel_rfl) rfl)) hS2 (fun hg2 => (Yc_func (g := 334) (vs := [.int .i64 x.B]) k_call_334 rfl (mc (gv_of (B := r_1) (v := .int .i64 x.B) hg2) mn) (CV.mono (c_impl_isCoef x.B _  (hS2.inn0 [] rfl) (gb_inv hc1 hg2)) (by rintro _ _ ⟨rfl, h⟩; exact ⟨rfl, hS2.out00 h⟩)))) ?_
  rintro w_2 hS3
  have hS3 : ST _ _ w_2 _ _ := hS3
  refine sq 10 rfl rfl (Y_and (b := r_1) (z := r_2) rfl rfl rfl rfl) ?_
  refine sq 11 rfl rfl (Y_move (v := .bool (r_1 && r_2)) rfl rfl) ?_
  refine sgq 12 (B := (r_1 && r_2)) (v := pt (some ⟨b, 0, none⟩) 2) rfl rfl (wt_t (gd_of (t := 11) (by kernel_rfl) rfl)) (fun hg3 => (Y_fieldAddr (B := some ⟨b, 0, none⟩) (i := 0) (s := 0) k_fd_53_2_2_3 k_sz_3_1 rfl rfl)) ?_
  refine sgq 13 (B := (r_1 && r_2)) (v := .int .i64 x.C) rfl rfl (wt_t (gd_of (t := 11) (by kernel_rfl) rfl)) (fun hg4 => (Y_load1 (B := some ⟨b, 0, none⟩) (i := 2) (cs := [.int .i64 x.A, .int .i64 x.B, .int .i64 x.C, .int .i64 x.D]) (v := .int .i64 x.C) k_sc_3 rfl (gv_of (B := (r_1 && r_2)) (v := pt (some ⟨b, 0, none⟩) 2) hg4) (hS3.cf (i := 0) rfl) rfl)) ?_
  obtain ⟨r_3, hc2, hF⟩ := bind_inv hF
  refine sgc 14 (B := (r_1 && r_2)) (v := .bool r_3) (F := hS3.fn) rfl rfl (wt_t (gd_of (t := 11) (by kernel_rfl) rfl)) hS3 (fun hg5 => (Yc_func (g := 334) (vs := [.int .i64 x.C]) k_call_334 rfl (mc (gv_of (B := (r_1 && r_2)) (v := .int .i64 x.C) hg5) mn) (CV.mono (c_impl_isCoef x.C _  (hS3.inn0 [] rfl) (gb_inv hc2 hg5)) (by rintro _ _ ⟨rfl, h⟩; exact ⟨rfl, hS3.out00 h⟩)))) ?_
  rintro w_3 hS4
  have hS4 : ST _ _ w_3 _ _ := hS4
  refine sq 15 rfl rfl (Y_and (b := (r_1 && r_2)) (z := r_3) rfl rfl rfl rfl) ?_
  refine sq 16 rfl rfl (Y_move (v := .bool ((r_1 && r_2) && r_3)) rfl rfl) ?_
  refine sgq 17 (B := ((r_1 && r_2) && r_3)) (v := pt (some ⟨b, 0, none⟩) 3) rfl rfl (wt_t (gd_of (t := 16) (by kernel_rfl) rfl)) (fun hg6 => (Y_fieldAddr (B := some ⟨b, 0, none⟩) (i := 0) (s := 0) k_fd_53_3_3_3 k_sz_3_1 rfl rfl)) ?_
  refine sgq 18 (B := ((r_1 && r_2) && r_3)) (v := .int .i64 x.D) rfl rfl (wt_t (gd_of (t := 16) (by kernel_rfl) rfl)) (fun hg7 => (Y_load1 (B := some ⟨b, 0, none⟩) (i := 3) (cs := [.int .i64 x.A, .int .i64 x.B, .int .i64 x.C, .int .i64 x.D]) (v := .int .i64 x.D) k_sc_3 rfl (gv_of (B := ((r_1 && r_2) && r_3)) (v := pt (some ⟨b, 0, none⟩) 3) hg7) (hS4.cf (i := 0) rfl) rfl)) ?_
  obtain ⟨r_4, hc3, hF⟩ := bind_inv hF
  refine sgc 19 (B := ((r_1 && r_2) && r_3)) (v := .bool r_4) (F := hS4.fn) rfl rfl (wt_t (gd_of (t := 16) (by kernel_rfl) rfl)) hS4 (fun hg8 => (Yc_func (g := 334) (vs := [.int .i64 x.D]) k_call_334 rfl (mc (gv_of (B := ((r_1 && r_2) && r_3)) (v := .int .i64 x.D) hg8) mn) (CV.mono (c_impl_isCoef x.D _  (hS4.inn0 [] rfl) (gb_inv hc3 hg8)) (by rintro _ _ ⟨rfl, h⟩; exact ⟨rfl, hS4.out00 h⟩)))) ?_
  rintro w_4 hS5
  have hS5 : ST _ _ w_4 _ _ := hS5
  refine sq 20 rfl rfl (Y_and (b := ((r_1 && r_2) && r_3)) (z := r_4) rfl rfl rfl rfl) ?_
  refine sq 2 rfl rfl (Y_assign (v := .bool (((r_1 && r_2) && r_3) && r_4)) rfl rfl) ?_
  refine rw_nil ?_
  refine cw_ret ?_
  obtain rfl := some_inj hF
  exact ret1 Try.results292 (v1 := .bool (((r_1 && r_2) && r_3) && r_4)) (resAt_tmp rfl) ⟨rfl, (ST.subR (R' := []) (hS5.sel [] rfl rfl) (fun _ h => by cases h))⟩

theorem c_impl_isEven (x : TRing)  (w0 : World)  (hS : ST w0 [] w0 [] []) {r_ : Bool} (hF : F_impl_isEven x = some r_) :
    CV Try.prog 293 #[.agg #[.int .i64 x.A, .int .i64 x.B, .int .i64 x.C, .int .i64 x.D]] w0 (fun v w' => v = .bool r_ ∧ ST w0 [] w' [] []) := by
  unfold F_impl_isEven at hF
  refine cv_of_cw 19 Try.func293 rfl Try.ntmps293 rfl ?_
  refine cw_seq ?_
  refine cw_region ?_
  refine ss 1 rfl rfl (Ys_box (T := 53) (v := .agg #[.int .i64 x.A, .int .i64 x.B, .int .i64 x.C, .int .i64 x.D]) (cs := [.int .i64 x.A, .int .i64 x.B, .int .i64 x.C, .int .i64 x.D]) (m := 4) hS rfl rfl rfl rfl) ?_
  rintro _ w_ ⟨b, rfl, hS1⟩
  refine sq 2 rfl rfl (Y_assign (v := .bool false) rfl rfl) ?_
  refine rw_nil ?_
  refine cw_seq ?_
  refine cw_region ?_
  refine sq 3 rfl rfl (Y_fieldAddr (B := some ⟨b, 0, none⟩) (i := 0) (s := 0) k_fd_53_0_0_3 k_sz_3_1 rfl rfl) ?_
  refine sq 4 rfl rfl (Y_load1 (B := some ⟨b, 0, none⟩) (i := 0) (cs := [.int .i64 x.A, .int .i64 x.B, .int .i64 x.C, .int .i64 x.D]) (v := .int .i64 x.A) k_sc_3 rfl rfl (hS1.cf (i := 0) rfl) rfl) ?_
  refine sq 5 rfl rfl (Y_fieldAddr (B := some ⟨b, 0, none⟩) (i := 0) (s := 0) k_fd_53_2_2_3 k_sz_3_1 rfl rfl) ?_
  refine sq 6 rfl rfl (Y_load1 (B := some ⟨b, 0, none⟩) (i := 2) (cs := [.int .i64 x.A, .int .i64 x.B, .int .i64 x.C, .int .i64 x.D]) (v := .int .i64 x.C) k_sc_3 rfl rfl (hS1.cf (i := 0) rfl) rfl) ?_
  refine sq 7 rfl rfl (Y_add (k := .i64) (a := x.A) (b := x.C) rfl rfl rfl) ?_
  refine sq 8 rfl rfl (Y_rem (k := .i64) (a := (IntKind.i64.wrap (x.A + x.C))) (b := 2) rfl rfl rfl (by decide)) ?_
  refine sq 9 rfl rfl (Y_eq (k := .i64) (a := (Int.tmod (IntKind.i64.wrap (x.A + x.C)) 2)) (b := 0) rfl rfl rfl) ?_
  refine sq 10 rfl rfl (Y_move (v := .bool ((Int.tmod (IntKind.i64.wrap (x.A + x.C)) 2) == 0)) rfl rfl) ?_
  refine sgq 11 (B := ((Int.tmod (IntKind.i64.wrap (x.A + x.C)) 2) == 0)) (v := pt (some ⟨b, 0, none⟩) 1) rfl rfl (wt_t (gd_of (t := 10) (by kernel_rfl) rfl)) (fun hg => (Y_fieldAddr (B := some ⟨b, 0, none⟩) (i := 0) (s := 0) k_fd_53_1_1_3 k_sz_3_1 rfl rfl)) ?_
  refine sgq 12 (B := ((Int.tmod (IntKind.i64.wrap (x.A + x.C)) 2) == 0)) (v := .int .i64 x.B) rfl rfl (wt_t (gd_of (t := 10) (by kernel_rfl) rfl)) (fun hg1 => (Y_load1 (B := some ⟨b, 0, none⟩) (i := 1) (cs := [.int .i64 x.A, .int .i64 x.B, .int .i64 x.C, .int .i64 x.D]) (v := .int .i64 x.B) k_sc_3 rfl (gv_of (B := ((Int.tmod (IntKind.i64.wrap (x.A + x.C)) 2) == 0)) (v := pt (some ⟨b, 0, none⟩) 1) hg1) (hS1.cf (i := 0) rfl) rfl)) ?_
  refine sgq 13 (B := ((Int.tmod (IntKind.i64.wrap (x.A + x.C)) 2) == 0)) (v := pt (some ⟨b, 0, none⟩) 3) rfl rfl (wt_t (gd_of (t := 10) (by kernel_rfl) rfl)) (fun hg2 => (Y_fieldAddr (B := some ⟨b, 0, none⟩) (i := 0) (s := 0) k_fd_53_3_3_3 k_sz_3_1 rfl rfl)) ?_
  refine sgq 14 (B := ((Int.tmod (IntKind.i64.wrap (x.A + x.C)) 2) == 0)) (v := .int .i64 x.D) rfl rfl (wt_t (gd_of (t := 10) (by kernel_rfl) rfl)) (fun hg3 => (Y_load1 (B := some ⟨b, 0, none⟩) (i := 3) (cs := [.int .i64 x.A, .int .i64 x.B, .int .i64 x.C, .int .i64 x.D]) (v := .int .i64 x.D) k_sc_3 rfl (gv_of (B := ((Int.tmod (IntKind.i64.wrap (x.A + x.C)) 2) == 0)) (v := pt (some ⟨b, 0, none⟩) 3) hg3) (hS1.cf (i := 0) rfl) rfl)) ?_
  refine sgq 15 (B := ((Int.tmod (IntKind.i64.wrap (x.A + x.C)) 2) == 0)) (v := .int .i64 (IntKind.i64.wrap (x.B + x.D))) rfl rfl (wt_t (gd_of (t := 10) (by kernel_rfl) rfl)) (fun hg4 => (Y_add (k := .i64) (a := x.B) (b := x.D) rfl (gv_of (B := ((Int.tmod (IntKind.i64.wrap (x.A + x.C)) 2) == 0)) (v := .int .i64 x.B) hg4) (gv_of (B := ((Int.tmod (IntKind.i64.wrap (x.A + x.C)) 2) == 0)) (v := .int .i64 x.D) hg4))) ?_
  refine sgq 16 (B := ((Int.tmod (IntKind.i64.wrap (x.A + x.C)) 2) == 0)) (v := .int .i64 (Int.tmod (IntKind.i64.wrap (x.B + x.D)) 2)) rfl rfl (wt_t (gd_of (t := 10) (by kernel_rfl) rfl)) (fun hg5 => (Y_rem (k := .i64) (a := (IntKind.i64.wrap (x.B + x.D))) (b := 2) rfl (gv_of (B := ((Int.tmod (IntKind.i64.wrap (x.A + x.C)) 2) == 0)) (v := .int .i64 (IntKind.i64.wrap (x.B + x.D))) hg5) rfl (by decide))) ?_
  refine sgq 17 (B := ((Int.tmod (IntKind.i64.wrap (x.A + x.C)) 2) == 0)) (v := .bool ((Int.tmod (IntKind.i64.wrap (x.B + x.D)) 2) == 0)) rfl rfl (wt_t (gd_of (t := 10) (by kernel_rfl) rfl)) (fun hg6 => (Y_eq (k := .i64) (a := (Int.tmod (IntKind.i64.wrap (x.B + x.D)) 2)) (b := 0) rfl (gv_of (B := ((Int.tmod (IntKind.i64.wrap (x.A + x.C)) 2) == 0)) (v := .int .i64 (Int.tmod (IntKind.i64.wrap (x.B + x.D)) 2)) hg6) rfl)) ?_
  refine sq 18 rfl rfl (Y_and (b := ((Int.tmod (IntKind.i64.wrap (x.A + x.C)) 2) == 0)) (z := ((Int.tmod (IntKind.i64.wrap (x.B + x.D)) 2) == 0)) rfl rfl rfl rfl) ?_
  refine sq 2 rfl rfl (Y_assign (v := .bool (((Int.tmod (IntKind.i64.wrap (x.A + x.C)) 2) == 0) && ((Int.tmod (IntKind.i64.wrap (x.B + x.D)) 2) == 0))) rfl rfl) ?_
  refine rw_nil ?_
  refine cw_ret ?_
  obtain rfl := some_inj hF
  exact ret1 Try.results293 (v1 := .bool (((Int.tmod (IntKind.i64.wrap (x.A + x.C)) 2) == 0) && ((Int.tmod (IntKind.i64.wrap (x.B + x.D)) 2) == 0))) (resAt_tmp rfl) ⟨rfl, (ST.subR (R' := []) (hS1.sel [] rfl rfl) (fun _ h => by cases h))⟩

theorem c_impl_IsValidDyadic (x : TDyadic)  (w0 : World)  (hS : ST w0 [] w0 [] []) {r_ : Bool} (hF : F_impl_IsValidDyadic x = some r_) :
    CV Try.prog 207 #[.agg #[.int .i64 x.Num.A, .int .i64 x.Num.B, .int .i64 x.Num.C, .int .i64 x.Num.D, .int .i64 x.Exp]] w0 (fun v w' => v = .bool r_ ∧ ST w0 [] w' [] []) := by
  unfold F_impl_IsValidDyadic at hF
  refine cv_of_cw 22 Try.func207 rfl Try.ntmps207 rfl ?_
  refine cw_seq ?_
  refine cw_region ?_
  refine ss 1 rfl rfl (Ys_box (T := 55) (v := .agg #[.int .i64 x.Num.A, .int .i64 x.Num.B, .int .i64 x.Num.C, .int .i64 x.Num.D, .int .i64 x.Exp]) (cs := [.int .i64 x.Num.A, .int .i64 x.Num.B, .int .i64 x.Num.C, .int .i64 x.Num.D, .int .i64 x.Exp]) (m := 5) hS rfl rfl rfl rfl) ?_
  rintro _ w_ ⟨b, rfl, hS1⟩
  refine sq 2 rfl rfl (Y_assign (v := .bool false) rfl rfl) ?_
  refine rw_nil ?_
  refine cw_seq ?_
  refine cw_region ?_
  refine sq 3 rfl rfl (Y_fieldAddr (B := some ⟨b, 0, none⟩) (i := 0) (s := 3) k_fd_55_0_0_53 k_sz_53_4 rfl rfl) ?_
  refine sq 4 rfl rfl (Y_loadA (B := some ⟨b, 0, none⟩) (i := 0) (cs := [.int .i64 x.Num.A, .int .i64 x.Num.B, .int .i64 x.Num.C, .int .i64 x.Num.D, .int .i64 x.Exp]) (vs := [.int .i64 x.Num.A, .int .i64 x.Num.B, .int .i64 x.Num.C, .int .i64 x.Num.D]) k_ag_53 k_sz_53_4 rfl rfl (hS1.cf (i := 0) rfl) rfl rfl) ?_
  obtain ⟨r_1, hc, hF⟩ := bind_inv hF
  refine sc 5 rfl rfl (Yc_func (g := 292) (vs := [.agg #[.int .i64 x.Num.A, .int .i64 x.Num.B, .int .i64 x.Num.C, .int .i64 x.Num.D]]) k_call_292 rfl (mc rfl mn) (c_impl_IsValidRing x.Num _  (hS1.inn0 [] rfl) hc)) ?_
  rintro _ w_1 ⟨rfl, hd⟩
  have hS2 := hS1.out00 hd
  refine sq 6 rfl rfl (Y_move (v := .bool r_1) rfl rfl) ?_
  refine sgq 7 (B := r_1) (v := pt (some ⟨b, 0, none⟩) 4) rfl rfl (wt_t (gd_of (t := 6) (by kernel_rfl) rfl)) (fun hg => (Y_fieldAddr (B := some ⟨b, 0, none⟩) (i := 0) (s := 0) k_fd_55_1_4_3 k_sz_3_1 rfl rfl)) ?_
  refine sgq 8 (B := r_1) (v := .int .i64 x.Exp) rfl rfl (wt_t (gd_of (t := 6) (by kernel_rfl) rfl)) (fun hg1 => (Y_load1 (B := some ⟨b, 0, none⟩) (i := 4) (cs := [.int .i64 x.Num.A, .int .i64 x.Num.B, .int .i64 x.Num.C, .int .i64 x.Num.D, .int .i64 x.Exp]) (v := .int .i64 x.Exp) k_sc_3 rfl (gv_of (B := r_1) (v := pt (some ⟨b, 0, none⟩) 4) hg1) (hS2.cf (i := 0) rfl) rfl)) ?_
  obtain ⟨r_2, hc1, hF⟩ := bind_inv hF
  refine sgc 9 (B := r_1) (v := .bool r_2) (F := hS2.fn) rfl rfl (wt_t (gd_of (t := 6) (by kernel_rfl) rfl)) hS2 (fun hg2 => (Yc_func (g := 130) (vs := [.int .i64 x.Exp, .int .i64 0, .int .i64 60]) k_call_130 rfl (mc (gv_of (B := r_1) (v := .int .i64 x.Exp) hg2) (mc rfl (mc rfl mn))) (CV.mono (c_impl_within x.Exp 0 60 _  (hS2.inn0 [] rfl) (gb_inv hc1 hg2)) (by rintro _ _ ⟨rfl, h⟩; exact ⟨rfl, hS2.out00 h⟩)))) ?_
  rintro w_2 hS3
  have hS3 : ST _ _ w_2 _ _ := hS3
  refine sq 10 rfl rfl (Y_and (b := r_1) (z := r_2) rfl rfl rfl rfl) ?_
  refine sq 11 rfl rfl (Y_move (v := .bool (r_1 && r_2)) rfl rfl) ?_
  refine sgq 12 (B := (r_1 && r_2)) (v := pt (some ⟨b, 0, none⟩) 4) rfl rfl (wt_t (gd_of (t := 11) (by kernel_rfl) rfl)) (fun hg3 => (Y_fieldAddr (B := some ⟨b, 0, none⟩) (i := 0) (s := 0) k_fd_55_1_4_3 k_sz_3_1 rfl rfl)) ?_
  refine sgq 13 (B := (r_1 && r_2)) (v := .int .i64 x.Exp) rfl rfl (wt_t (gd_of (t := 11) (by kernel_rfl) rfl)) (fun hg4 => (Y_load1 (B := some ⟨b, 0, none⟩) (i := 4) (cs := [.int .i64 x.Num.A, .int .i64 x.Num.B, .int .i64 x.Num.C, .int .i64 x.Num.D, .int .i64 x.Exp]) (v := .int .i64 x.Exp) k_sc_3 rfl (gv_of (B := (r_1 && r_2)) (v := pt (some ⟨b, 0, none⟩) 4) hg4) (hS3.cf (i := 0) rfl) rfl)) ?_
  refine sgq 14 (B := (r_1 && r_2)) (v := .bool (x.Exp == 0)) rfl rfl (wt_t (gd_of (t := 11) (by kernel_rfl) rfl)) (fun hg5 => (Y_eq (k := .i64) (a := x.Exp) (b := 0) rfl (gv_of (B := (r_1 && r_2)) (v := .int .i64 x.Exp) hg5) rfl)) ?_
  refine sgq 15 (B := (r_1 && r_2)) (v := .bool (x.Exp == 0)) rfl rfl (wt_t (gd_of (t := 11) (by kernel_rfl) rfl)) (fun hg6 => (Y_move (v := .bool (x.Exp == 0)) rfl (gv_of (B := (r_1 && r_2)) (v := .bool (x.Exp == 0)) hg6))) ?_
  refine sgq 16 (B := ((r_1 && r_2) && (!(x.Exp == 0)))) (v := pt (some ⟨b, 0, none⟩) 0) rfl rfl (wt_gf (gd_of (t := 15) (by kernel_rfl) rfl)) (fun hg7 => (Y_fieldAddr (B := some ⟨b, 0, none⟩) (i := 0) (s := 3) k_fd_55_0_0_53 k_sz_53_4 rfl rfl)) ?_
  refine sgq 17 (B := ((r_1 && r_2) && (!(x.Exp == 0)))) (v := .agg #[.int .i64 x.Num.A, .int .i64 x.Num.B, .int .i64 x.Num.C, .int .i64 x.Num.D]) rfl rfl (wt_gf (gd_of (t := 15) (by kernel_rfl) rfl)) (fun hg8 => (Y_loadA (B := some ⟨b, 0, none⟩) (i := 0) (cs := [.int .i64 x.Num.A, .int .i64 x.Num.B, .int .i64 x.Num.C, .int .i64 x.Num.D, .int .i64 x.Exp]) (vs := [.int .i64 x.Num.A, .int .i64 x.Num.B, .int .i64 x.Num.C, .int .i64 x.Num.D]) k_ag_53 k_sz_53_4 rfl (gv_of (B := ((r_1 && r_2) && (!(x.Exp == 0)))) (v := pt (some ⟨b, 0, none⟩) 0) hg8) (hS3.cf (i := 0) rfl) rfl rfl)) ?_
  obtain ⟨r_3, hc2, hF⟩ := bind_inv hF
  refine sgc 18 (B := ((r_1 && r_2) && (!(x.Exp == 0)))) (v := .bool r_3) (F := hS3.fn) rfl rfl (wt_gf (gd_of (t := 15) (by kernel_rfl) rfl)) hS3 (fun hg9 => (Yc_func (g := 293) (vs := [.agg #[.int .i64 x.Num.A, .int .i64 x.Num.B, .int .i64 x.Num.C, .int .i64 x.Num.D]]) k_call_293 rfl (mc (gv_of (B := ((r_1 && r_2) && (!(x.Exp == 0)))) (v := .agg #[.int .i64 x.Num.A, .int .i64 x.Num.B, .int .i64 x.Num.C, .int .i64 x.Num.D]) hg9) mn) (CV.mono (c_impl_isEven x.Num _  (hS3.inn0 [] rfl) (gb_inv hc2 hg9)) (by rintro _ _ ⟨rfl, h⟩; exact ⟨rfl, hS3.out00 h⟩)))) ?_
  rintro w_3 hS4
  have hS4 : ST _ _ w_3 _ _ := hS4
  refine sgq 19 (B := ((r_1 && r_2) && (!(x.Exp == 0)))) (v := .bool (!r_3)) rfl rfl (wt_gf (gd_of (t := 15) (by kernel_rfl) rfl)) (fun hg10 => (Y_not (p := r_3) rfl (gv_of (B := ((r_1 && r_2) && (!(x.Exp == 0)))) (v := .bool r_3) hg10))) ?_
  refine sgq 20 (B := (r_1 && r_2)) (v := .bool ((x.Exp == 0) || (!r_3))) rfl rfl (wt_t (gd_of (t := 11) (by kernel_rfl) rfl)) (fun hg11 => (Y_or (b := (x.Exp == 0)) (z := (!r_3)) rfl (gv_of (B := (r_1 && r_2)) (v := .bool (x.Exp == 0)) hg11) rfl (gv_and (B := (r_1 && r_2)) (C := (!(x.Exp == 0))) (v := .bool (!r_3)) hg11))) ?_
  refine sq 21 rfl rfl (Y_and (b := (r_1 && r_2)) (z := ((x.Exp == 0) || (!r_3))) rfl rfl rfl rfl) ?_
  refine sq 2 rfl rfl (Y_assign (v := .bool ((r_1 && r_2) && ((x.Exp == 0) || (!r_3)))) rfl rfl) ?_
  refine rw_nil ?_
  refine cw_ret ?_
  obtain rfl := some_inj hF
  exact ret1 Try.results207 (v1 := .bool ((r_1 && r_2) && ((x.Exp == 0) || (!r_3)))) (resAt_tmp rfl) ⟨rfl, (ST.subR (R' := []) (hS4.sel [] rfl rfl) (fun _ h => by cases h))⟩

theorem c_impl_isReal (x : TDyadic)  (w0 : World)  (hS : ST w0 [] w0 [] []) {r_ : Bool} (hF : F_impl_isReal x = some r_) :
    CV Try.prog 194 #[.agg #[.int .i64 x.Num.A, .int .i64 x.Num.B, .int .i64 x.Num.C, .int .i64 x.Num.D, .int .i64 x.Exp]] w0 (fun v w' => v = .bool r_ ∧ ST w0 [] w' [] []) := by
  unfold F_impl_isReal at hF
  refine cv_of_cw 21 Try.func194 rfl Try.ntmps194 rfl ?_
  refine cw_seq ?_
  refine cw_region ?_
  refine ss 1 rfl rfl (Ys_box (T := 55) (v := .agg #[.int .i64 x.Num.A, .int .i64 x.Num.B, .int .i64 x.Num.C, .int .i64 x.Num.D, .int .i64 x.Exp]) (cs := [.int .i64 x.Num.A, .int .i64 x.Num.B, .int .i64 x.Num.C, .int .i64 x.Num.D, .int .i64 x.Exp]) (m := 5) hS rfl rfl rfl rfl) ?_
  rintro _ w_ ⟨b, rfl, hS1⟩
  refine sq 2 rfl rfl (Y_assign (v := .bool false) rfl rfl) ?_
  refine rw_nil ?_
  refine cw_seq ?_
  refine cw_region ?_
  refine sq 3 rfl rfl (Y_loadA (B := some ⟨b, 0, none⟩) (i := 0) (cs := [.int .i64 x.Num.A, .int .i64 x.Num.B, .int .i64 x.Num.C, .int .i64 x.Num.D, .int .i64 x.Exp]) (vs := [.int .i64 x.Num.A, .int .i64 x.Num.B, .int .i64 x.Num.C, .int .i64 x.Num.D, .int .i64 x.Exp]) k_ag_55 k_sz_55_5 rfl rfl (hS1.cf (i := 0) rfl) rfl rfl) ?_
  obtain ⟨r_1, hc, hF⟩ := bind_inv hF
  refine sc 4 rfl rfl (Yc_func (g := 207) (vs := [.agg #[.int .i64 x.Num.A, .int .i64 x.Num.B, .int .i64 x.Num.C, .int .i64 x.Num.D, .int .i64 x.Exp]]) k_call_207 rfl (mc rfl mn) (c_impl_IsValidDyadic x _  (hS1.inn0 [] rfl) hc)) ?_
  rintro _ w_1 ⟨rfl, hd⟩
  have hS2 := hS1.out00 hd
  refine sq 5 rfl rfl (Y_move (v := .bool r_1) rfl rfl) ?_
  refine sgq 6 (B := r_1) (v := pt (some ⟨b, 0, none⟩) 0) rfl rfl (wt_t (gd_of (t := 5) (by kernel_rfl) rfl)) (fun hg => (Y_fieldAddr (B := some ⟨b, 0, none⟩) (i := 0) (s := 3) k_fd_55_0_0_53 k_sz_53_4 rfl rfl)) ?_
  refine sgq 7 (B := r_1) (v := pt (some ⟨b, 0, none⟩) 2) rfl rfl (wt_t (gd_of (t := 5) (by kernel_rfl) rfl)) (fun hg1 => (Y_fieldAddr (B := some ⟨b, 0, none⟩) (i := 0) (s := 0) k_fd_53_2_2_3 k_sz_3_1 rfl (gv_of (B := r_1) (v := pt (some ⟨b, 0, none⟩) 0) hg1))) ?_
  refine sgq 8 (B := r_1) (v := .int .i64 x.Num.C) rfl rfl (wt_t (gd_of (t := 5) (by kernel_rfl) rfl)) (fun hg2 => (Y_load1 (B := some ⟨b, 0, none⟩) (i := 2) (cs := [.int .i64 x.Num.A, .int .i64 x.Num.B, .int .i64 x.Num.C, .int .i64 x.Num.D, .int .i64 x.Exp]) (v := .int .i64 x.Num.C) k_sc_3 rfl (gv_of (B := r_1) (v := pt (some ⟨b, 0, none⟩) 2) hg2) (hS2.cf (i := 0) rfl) rfl)) ?_
  refine sgq 9 (B := r_1) (v := .bool (x.Num.C == 0)) rfl rfl (wt_t (gd_of (t := 5) (by kernel_rfl) rfl)) (fun hg3 => (Y_eq (k := .i64) (a := x.Num.C) (b := 0) rfl (gv_of (B := r_1) (v := .int .i64 x.Num.C) hg3) rfl)) ?_
  refine sq 10 rfl rfl (Y_and (b := r_1) (z := (x.Num.C == 0)) rfl rfl rfl rfl) ?_
  refine sq 11 rfl rfl (Y_move (v := .bool (r_1 && (x.Num.C == 0))) rfl rfl) ?_
  refine sgq 12 (B := (r_1 && (x.Num.C == 0))) (v := pt (some ⟨b, 0, none⟩) 0) rfl rfl (wt_t (gd_of (t := 11) (by kernel_rfl) rfl)) (fun hg4 => (Y_fieldAddr (B := some ⟨b, 0, none⟩) (i := 0) (s := 3) k_fd_55_0_0_53 k_sz_53_4 rfl rfl)) ?_
  refine sgq 13 (B := (r_1 && (x.Num.C == 0))) (v := pt (some ⟨b, 0, none⟩) 3) rfl rfl (wt_t (gd_of (t := 11) (by kernel_rfl) rfl)) (fun hg5 => (Y_fieldAddr (B := some ⟨b, 0, none⟩) (i := 0) (s := 0) k_fd_53_3_3_3 k_sz_3_1 rfl (gv_of (B := (r_1 && (x.Num.C == 0))) (v := pt (some ⟨b, 0, none⟩) 0) hg5))) ?_
  refine sgq 14 (B := (r_1 && (x.Num.C == 0))) (v := .int .i64 x.Num.D) rfl rfl (wt_t (gd_of (t := 11) (by kernel_rfl) rfl)) (fun hg6 => (Y_load1 (B := some ⟨b, 0, none⟩) (i := 3) (cs := [.int .i64 x.Num.A, .int .i64 x.Num.B, .int .i64 x.Num.C, .int .i64 x.Num.D, .int .i64 x.Exp]) (v := .int .i64 x.Num.D) k_sc_3 rfl (gv_of (B := (r_1 && (x.Num.C == 0))) (v := pt (some ⟨b, 0, none⟩) 3) hg6) (hS2.cf (i := 0) rfl) rfl)) ?_
  refine sgq 15 (B := (r_1 && (x.Num.C == 0))) (v := pt (some ⟨b, 0, none⟩) 0) rfl rfl (wt_t (gd_of (t := 11) (by kernel_rfl) rfl)) (fun hg7 => (Y_fieldAddr (B := some ⟨b, 0, none⟩) (i := 0) (s := 3) k_fd_55_0_0_53 k_sz_53_4 rfl rfl)) ?_
  refine sgq 16 (B := (r_1 && (x.Num.C == 0))) (v := pt (some ⟨b, 0, none⟩) 1) rfl rfl (wt_t (gd_of (t := 11) (by kernel_rfl) rfl)) (fun hg8 => (Y_fieldAddr (B := some ⟨b, 0, none⟩) (i := 0) (s := 0) k_fd_53_1_1_3 k_sz_3_1 rfl (gv_of (B := (r_1 && (x.Num.C == 0))) (v := pt (some ⟨b, 0, none⟩) 0) hg8))) ?_
  refine sgq 17 (B := (r_1 && (x.Num.C == 0))) (v := .int .i64 x.Num.B) rfl rfl (wt_t (gd_of (t := 11) (by kernel_rfl) rfl)) (fun hg9 => (Y_load1 (B := some ⟨b, 0, none⟩) (i := 1) (cs := [.int .i64 x.Num.A, .int .i64 x.Num.B, .int .i64 x.Num.C, .int .i64 x.Num.D, .int .i64 x.Exp]) (v := .int .i64 x.Num.B) k_sc_3 rfl (gv_of (B := (r_1 && (x.Num.C == 0))) (v := pt (some ⟨b, 0, none⟩) 1) hg9) (hS2.cf (i := 0) rfl) rfl)) ?_
  refine sgq 18 (B := (r_1 && (x.Num.C == 0))) (v := .int .i64 (IntKind.i64.wrap (-x.Num.B))) rfl rfl (wt_t (gd_of (t := 11) (by kernel_rfl) rfl)) (fun hg10 => (Y_neg (k := .i64) (a := x.Num.B) rfl (gv_of (B := (r_1 && (x.Num.C == 0))) (v := .int .i64 x.Num.B) hg10))) ?_
  refine sgq 19 (B := (r_1 && (x.Num.C == 0))) (v := .bool (x.Num.D == (IntKind.i64.wrap (-x.Num.B)))) rfl rfl (wt_t (gd_of (t := 11) (by kernel_rfl) rfl)) (fun hg11 => (Y_eq (k := .i64) (a := x.Num.D) (b := (IntKind.i64.wrap (-x.Num.B))) rfl (gv_of (B := (r_1 && (x.Num.C == 0))) (v := .int .i64 x.Num.D) hg11) (gv_of (B := (r_1 && (x.Num.C == 0))) (v := .int .i64 (IntKind.i64.wrap (-x.Num.B))) hg11))) ?_
  refine sq 20 rfl rfl (Y_and (b := (r_1 && (x.Num.C == 0))) (z := (x.Num.D == (IntKind.i64.wrap (-x.Num.B)))) rfl rfl rfl rfl) ?_
  refine sq 2 rfl rfl (Y_assign (v := .bool ((r_1 && (x.Num.C == 0)) && (x.Num.D == (IntKind.i64.wrap (-x.Num.B))))) rfl rfl) ?_
  refine rw_nil ?_
  refine cw_ret ?_
  obtain rfl := some_inj hF
  exact ret1 Try.results194 (v1 := .bool ((r_1 && (x.Num.C == 0)) && (x.Num.D == (IntKind.i64.wrap (-x.Num.B))))) (resAt_tmp rfl) ⟨rfl, (ST.subR (R' := []) (hS2.sel [] rfl rfl) (fun _ h => by cases h))⟩

theorem c_impl_IsValidBloch_1 (x : TDyadic)  (w0 : World)  (hS : ST w0 [] w0 [] []) {r_ : Bool} (hF : F_impl_IsValidBloch_1 x = some r_) :
    CV Try.prog 193 #[.agg #[.int .i64 x.Num.A, .int .i64 x.Num.B, .int .i64 x.Num.C, .int .i64 x.Num.D, .int .i64 x.Exp]] w0 (fun v w' => v = .bool r_ ∧ ST w0 [] w' [] []) := by
  unfold F_impl_IsValidBloch_1 at hF
  refine cv_of_cw 6 Try.func193 rfl Try.ntmps193 rfl ?_
  refine cw_seq ?_
  refine cw_region ?_
  refine ss 1 rfl rfl (Ys_box (T := 55) (v := .agg #[.int .i64 x.Num.A, .int .i64 x.Num.B, .int .i64 x.Num.C, .int .i64 x.Num.D, .int .i64 x.Exp]) (cs := [.int .i64 x.Num.A, .int .i64 x.Num.B, .int .i64 x.Num.C, .int .i64 x.Num.D, .int .i64 x.Exp]) (m := 5) hS rfl rfl rfl rfl) ?_
  rintro _ w_ ⟨b, rfl, hS1⟩
  refine sq 2 rfl rfl (Y_assign (v := .bool false) rfl rfl) ?_
  refine rw_nil ?_
  refine cw_seq ?_
  refine cw_region ?_
  refine sq 3 rfl rfl (Y_loadA (B := some ⟨b, 0, none⟩) (i := 0) (cs := [.int .i64 x.Num.A, .int .i64 x.Num.B, .int .i64 x.Num.C, .int .i64 x.Num.D, .int .i64 x.Exp]) (vs := [.int .i64 x.Num.A, .int .i64 x.Num.B, .int .i64 x.Num.C, .int .i64 x.Num.D, .int .i64 x.Exp]) k_ag_55 k_sz_55_5 rfl rfl (hS1.cf (i := 0) rfl) rfl rfl) ?_
  obtain ⟨r_1, hc, hF⟩ := bind_inv hF
  refine sc 4 rfl rfl (Yc_func (g := 194) (vs := [.agg #[.int .i64 x.Num.A, .int .i64 x.Num.B, .int .i64 x.Num.C, .int .i64 x.Num.D, .int .i64 x.Exp]]) k_call_194 rfl (mc rfl mn) (c_impl_isReal x _  (hS1.inn0 [] rfl) hc)) ?_
  rintro _ w_1 ⟨rfl, hd⟩
  have hS2 := hS1.out00 hd
  refine sq 5 rfl rfl (Y_not (p := r_1) rfl rfl) ?_
  refine sq 2 rfl rfl (Y_assign (v := .bool (!r_1)) rfl rfl) ?_
  refine rw_nil ?_
  refine cw_ret ?_
  obtain rfl := some_inj hF
  exact ret1 Try.results193 (v1 := .bool (!r_1)) (resAt_tmp rfl) ⟨rfl, (ST.subR (R' := []) (hS2.sel [] rfl rfl) (fun _ h => by cases h))⟩
end Go.VK
