/- Walks: each Go function returns what its Lean function says. By program. -/
import Derived.Test.YtoladcammhboiaaParityOfFa
import Derived.Test.YtoladcammhboiaaParityOfW3
set_option linter.unusedVariables false
set_option maxRecDepth 100000
set_option maxHeartbeats 1000000
namespace Go.VK
open Go.RowKit
open Go.Proofs
attribute [local irreducible] CW RW RA CV Y Yw Yc Ys RetOf
attribute [local irreducible] F_laws_szDyadicS F_laws_szBloch F_spec_l1In F_spec_l1All F_spec_l1Good F_spec_l1Even F_spec_l2Good F_spec_l1Root F_spec_l1Half F_spec_l2Low F_spec_l2C_ring F_spec_l1Mul F_spec_l2C_mul F_spec_l1Add F_spec_l2C_add F_spec_l2C_bloch F_spec_l9Turn F_spec_l1Neg F_spec_l2Neg F_spec_l2C_minor F_spec_l9Same F_spec_l1Turn F_spec_l2Power F_spec_l9Unit F_spec_l9Valid F_spec_l1Most F_spec_l9Exp F_spec_ParityOf F_laws_toRing F_laws_toDyadic F_laws_toDyadicS F_laws_toBloch F_impl_whole F_slices_IndexFunc_impl_Dyadic_impl_Dyadic F_slices_ContainsFunc_impl_Dyadic_impl_Dyadic F_impl_within F_impl_isCoef F_impl_IsValidRing F_impl_isEven F_impl_IsValidDyadic F_impl_isReal F_impl_IsValidBloch_1 F_impl_ringIf F_impl_MulRing F_impl_DivRootTwo F_impl_DyadicOf F_impl_MulDyadic F_impl_MulRootTwo F_impl_raised F_impl_combined F_impl_AddRing F_impl_AddDyadic F_impl_mulBloch F_impl_transposed F_impl_SubRing F_impl_SubDyadic F_impl_minor F_impl_determinant F_impl_small F_impl_IsValidBloch F_impl_blochExp F_impl_ParityOf F_laws_eqRing F_laws_eqDyadic F_laws_eqDyadicS F_laws_eqBloch F_laws_FnExactParityOf
theorem c_impl_determinant (a : List TDyadic) (B : Option Addr) (c n : Nat) (w0 : World) (hn : a.length = n) (hS : ST w0 [] w0 [] [⟨B, (a.flatMap enc_Dyadic)⟩]) {r_ : TDyadic} {r_1 : Bool} (hF : F_impl_determinant a = some (r_, r_1)) :
    CV Try.prog 197 #[.slice B n c] w0 (fun v w' => v = .tuple #[.agg #[.int .i64 r_.Num.A, .int .i64 r_.Num.B, .int .i64 r_.Num.C, .int .i64 r_.Num.D, .int .i64 r_.Exp], .bool r_1] ∧ ST w0 [] w' [] []) := by
  subst hn
  unfold F_impl_determinant at hF
  refine cv_of_cw 88 Try.func197 rfl Try.ntmps197 rfl ?_
  refine cw_seq ?_
  refine cw_region ?_
  refine ss 2 rfl rfl (Ys_alloc (T := 55) (cs := [.int .i64 0, .int .i64 0, .int .i64 0, .int .i64 0, .int .i64 0]) (m := 5) hS k_zero_55 rfl rfl rfl) ?_
  rintro _ w_ ⟨b, rfl, hS1⟩
  refine sq 3 rfl rfl (Y_assign (v := .bool false) rfl rfl) ?_
  refine rw_nil ?_
  refine cw_seq ?_
  refine cw_region ?_
  refine sq 15 rfl rfl (Y_buildS (zs := [.int .i64 0, .int .i64 0, .int .i64 0, .int .i64 0, .int .i64 0]) (vs := []) (cs := [.int .i64 0, .int .i64 0, .int .i64 0, .int .i64 0, .int .i64 0]) k_pl_55 k_zero_55 rfl mpn rfl) ?_
  refine ss 4 rfl rfl (Ys_alloc (T := 55) (cs := [.int .i64 0, .int .i64 0, .int .i64 0, .int .i64 0, .int .i64 0]) (m := 5) hS1 k_zero_55 rfl rfl rfl) ?_
  rintro _ w_1 ⟨b1, rfl, hS2⟩
  have hS2 : ST w0 [] _ [⟨some ⟨b, 0, none⟩, 55, [.int .i64 0, .int .i64 0, .int .i64 0, .int .i64 0, .int .i64 0], 5⟩, ⟨some ⟨b1, 0, none⟩, 55, [.int .i64 0, .int .i64 0, .int .i64 0, .int .i64 0, .int .i64 0], 5⟩] [⟨B, (a.flatMap enc_Dyadic)⟩] := hS2
  refine ss0 rfl rfl (Ys_store (i := 1) (s := 5) (B := some ⟨b1, 0, none⟩) (T' := 55) (v := .agg #[.int .i64 0, .int .i64 0, .int .i64 0, .int .i64 0, .int .i64 0]) (vs := [.int .i64 0, .int .i64 0, .int .i64 0, .int .i64 0, .int .i64 0]) (k := 0) (cs' := [.int .i64 0, .int .i64 0, .int .i64 0, .int .i64 0, .int .i64 0]) hS2 k_sz_55_5 rfl rfl rfl rfl rfl rfl rfl (Nat.le_of_ble_eq_true rfl) rfl rfl) ?_
  rintro _ w_2 ⟨rfl, hS3⟩
  have hS3 : ST w0 [] _ [⟨some ⟨b, 0, none⟩, 55, [.int .i64 0, .int .i64 0, .int .i64 0, .int .i64 0, .int .i64 0], 5⟩, ⟨some ⟨b1, 0, none⟩, 55, [.int .i64 0, .int .i64 0, .int .i64 0, .int .i64 0, .int .i64 0], 5⟩] [⟨B, (a.flatMap enc_Dyadic)⟩] := hS3
  refine rw_nil ?_
  refine cw_seq ?_
  refine cw_seq ?_
  refine cw_region ?_
  refine sq 16 rfl rfl (Y_move (v := .int .i64 0) rfl rfl) ?_
  refine rw_nil ?_
  obtain ⟨z, hz, hF1⟩ := bind_inv hF
  refine cw_block ?_
  refine cw_loop (fun k f w => ∃ (i : Nat) (A : Int) (B1 : Int) (C : Int) (D : Int) (Exp : Int), FF f [(0, .slice B a.length c), (2, pt (some ⟨b, 0, none⟩) 0), (4, pt (some ⟨b1, 0, none⟩) 0), (16, .int .i64 (i : Int))] ∧ ST w0 [] w [⟨some ⟨b, 0, none⟩, 55, [.int .i64 0, .int .i64 0, .int .i64 0, .int .i64 0, .int .i64 0], 5⟩, ⟨some ⟨b1, 0, none⟩, 55, [.int .i64 A, .int .i64 B1, .int .i64 C, .int .i64 D, .int .i64 Exp], 5⟩] [⟨B, (a.flatMap enc_Dyadic)⟩] ∧ i + k = 3 ∧ forX (F_impl_determinant_l1 a) k i (A, B1, C, D, Exp) = some z) 3 ⟨0, 0, 0, 0, 0, 0, (FF.cons rfl (FF.cons rfl (FF.cons rfl (FF.cons rfl FF.nil)))), (hS3.sel [0, 1] rfl rfl), Nat.zero_add _, hz⟩ ?_
  rintro k_ f w ⟨i, A, B1, C, D, Exp, hf, hS4, hik, hL⟩
  refine cw_seq ?_
  refine cw_region ?_
  refine sq 17 rfl rfl (Y_lt (k := .i64) (a := (i : Int)) (b := 3) rfl (hf.get 16 3 rfl) rfl) ?_
  refine rw_nil ?_
  refine cw_seq ?_
  refine cw_cond (b := (decide ((i : Int) < 3))) rfl (fun hlt => ?_) (fun hlt => ?_)
  · skip
    have hlt1 : i < 3 := by have h := of_decide_eq_true hlt; omega
    obtain ⟨k_1, rfl⟩ : ∃ k2, k_ = k2 + 1 := ⟨k_ - 1, by omega⟩
    obtain ⟨y, hb, hL1⟩ := forX_go hL
    unfold F_impl_determinant_l1 at hb
    refine cw_skip ?_
    refine cw_seq ?_
    refine cw_block ?_
    refine cw_seq ?_
    refine cw_region ?_
    refine sq 18 rfl rfl (Y_move (v := .int .i64 (i : Int)) rfl (hf.get 16 3 rfl)) ?_
    refine sq 5 rfl rfl (Y_assign (v := .int .i64 (i : Int)) rfl rfl) ?_
    refine rw_nil ?_
    refine cw_seq ?_
    refine cw_region ?_
    refine ss 19 rfl rfl (Ys_bslice0 (s := 5) (e := 55) hS4 k_sl_28_55 k_sz_55_5 rfl) ?_
    rintro _ w_3 ⟨b2, rfl, hS5⟩
    have hS5 : ST w0 [] _ [⟨some ⟨b, 0, none⟩, 55, [.int .i64 0, .int .i64 0, .int .i64 0, .int .i64 0, .int .i64 0], 5⟩, ⟨some ⟨b1, 0, none⟩, 55, [.int .i64 A, .int .i64 B1, .int .i64 C, .int .i64 D, .int .i64 Exp], 5⟩, ⟨some ⟨b2, 0, none⟩, 55, ([].flatMap enc_Dyadic), 0 * 5⟩] [⟨B, (a.flatMap enc_Dyadic)⟩] := hS5
    refine sq 6 rfl rfl (Y_assign (v := .slice (some ⟨b2, 0, none⟩) 0 0) rfl rfl) ?_
    refine rw_nil ?_
    refine cw_seq ?_
    refine cw_seq ?_
    refine cw_region ?_
    refine sq 20 rfl rfl (Y_move (v := .int .i64 0) rfl rfl) ?_
    refine rw_nil ?_
    obtain ⟨z1, hz1, hF2⟩ := bind_inv hb
    refine cw_block ?_
    refine cw_loop (fun k f w => ∃ (i1 : Nat) (rest_ : List TDyadic) (B2 : Option Addr) (c1 : Nat), FF f [(0, .slice B a.length c), (2, pt (some ⟨b, 0, none⟩) 0), (4, pt (some ⟨b1, 0, none⟩) 0), (5, .int .i64 (i : Int)), (6, .slice B2 rest_.length c1), (16, .int .i64 (i : Int)), (20, .int .i64 (i1 : Int))] ∧ ST w0 [] w [⟨some ⟨b, 0, none⟩, 55, [.int .i64 0, .int .i64 0, .int .i64 0, .int .i64 0, .int .i64 0], 5⟩, ⟨some ⟨b1, 0, none⟩, 55, [.int .i64 A, .int .i64 B1, .int .i64 C, .int .i64 D, .int .i64 Exp], 5⟩, ⟨B2, 55, (rest_.flatMap enc_Dyadic), c1 * 5⟩] [⟨B, (a.flatMap enc_Dyadic)⟩] ∧ i1 + k = 3 ∧ forN (F_impl_determinant_l2 i a) k i1 rest_ = some z1) 3 ⟨0, [], some ⟨b2, 0, none⟩, 0, (FF.cons (hf.get 0 0 rfl) (FF.cons (hf.get 2 1 rfl) (FF.cons (hf.get 4 2 rfl) (FF.cons rfl (FF.cons rfl (FF.cons (hf.get 16 3 rfl) (FF.cons rfl FF.nil))))))), (hS5.sel [0, 1, 2] rfl rfl), Nat.zero_add _, hz1⟩ ?_
    rintro k_2 f w ⟨i1, rest_, B2, c1, hf1, hS6, hik1, hL2⟩
    refine cw_seq ?_
    refine cw_region ?_
    refine sq 21 rfl rfl (Y_lt (k := .i64) (a := (i1 : Int)) (b := 3) rfl (hf1.get 20 6 rfl) rfl) ?_
    refine rw_nil ?_
    refine cw_seq ?_
    refine cw_cond (b := (decide ((i1 : Int) < 3))) rfl (fun hlt2 => ?_) (fun hlt2 => ?_)
    · skip
      have hlt3 : i1 < 3 := by have h := of_decide_eq_true hlt2; omega
      obtain ⟨k_3, rfl⟩ : ∃ k2, k_2 = k2 + 1 := ⟨k_2 - 1, by omega⟩
      obtain ⟨y1, hb1, hL3⟩ := forN_go hL2
      unfold F_impl_determinant_l2 at hb1
      refine cw_skip ?_
      refine cw_seq ?_
      obtain ⟨z2, hz2, hF3⟩ := bind_inv hb1
      refine cw_mid (fun f w => ∃ (rest_1 : List TDyadic) (B3 : Option Addr) (c2 : Nat), rest_1 = z2 ∧ FF f [(0, .slice B a.length c), (2, pt (some ⟨b, 0, none⟩) 0), (4, pt (some ⟨b1, 0, none⟩) 0), (5, .int .i64 (i : Int)), (6, .slice B3 rest_1.length c2), (16, .int .i64 (i : Int)), (20, .int .i64 (i1 : Int))] ∧ ST w0 [] w [⟨some ⟨b, 0, none⟩, 55, [.int .i64 0, .int .i64 0, .int .i64 0, .int .i64 0, .int .i64 0], 5⟩, ⟨some ⟨b1, 0, none⟩, 55, [.int .i64 A, .int .i64 B1, .int .i64 C, .int .i64 D, .int .i64 Exp], 5⟩, ⟨B3, 55, (rest_1.flatMap enc_Dyadic), c2 * 5⟩] [⟨B, (a.flatMap enc_Dyadic)⟩]) ?_ ?_
      · skip
        refine cw_block ?_
        refine cw_seq ?_
        refine cw_region ?_
        refine sq 22 rfl rfl (Y_move (v := .int .i64 (i1 : Int)) rfl (hf1.get 20 6 rfl)) ?_
        refine sq 7 rfl rfl (Y_assign (v := .int .i64 (i1 : Int)) rfl rfl) ?_
        refine rw_nil ?_
        refine cw_seq ?_
        refine cw_region ?_
        refine sq 23 rfl rfl (Y_move (v := .int .i64 (i1 : Int)) rfl rfl) ?_
        refine sq 24 rfl rfl (Y_move (v := .int .i64 (i : Int)) rfl (hf1.get 5 3 rfl)) ?_
        refine sq 25 rfl rfl (Y_ne (k := .i64) (a := (i1 : Int)) (b := (i : Int)) rfl rfl rfl) ?_
        refine rw_nil ?_
        refine cw_cond (b := ((i1 : Int) != (i : Int))) rfl (fun hb2 => ?_) (fun hb2 => ?_)
        · skip
          have hF4 := ct hz2 hb2
          obtain ⟨x, hx, hF4⟩ := bind_inv hF4
          obtain ⟨x1, hx1, hF4⟩ := bind_inv hF4
          obtain ⟨hap, hF4⟩ := chk_inv hF4
          refine ra_start (ST.sel hS6 [0, 1] rfl rfl).fn (by kernel_rfl) ?_
          have hS8 := hS6.drew
          refine ra_q 0 26 (v := .slice B2 rest_.length c1) rfl rfl rfl (by kernel_rfl) (by kernel_rfl) (by kernel_rfl) (ST.sel hS8 [0, 1] rfl rfl) (fun w' hw' => (Y_move (v := .slice B2 rest_.length c1) rfl (hf1.get 6 4 rfl))) ?_
          refine ra_q 1 27 (v := .slice B a.length c) rfl rfl rfl (by kernel_rfl) (by kernel_rfl) (by kernel_rfl) (ST.sel hS8 [0, 1] rfl rfl) (fun w' hw' => (Y_move (v := .slice B a.length c) rfl (hf1.get 0 0 rfl))) ?_
          refine ra_q 2 28 (v := .int .i64 (i1 : Int)) rfl rfl rfl (by kernel_rfl) (by kernel_rfl) (by kernel_rfl) (ST.sel hS8 [0, 1] rfl rfl) (fun w' hw' => (Y_move (v := .int .i64 (i1 : Int)) rfl rfl)) ?_
          refine ra_q 3 29 (v := .int .i64 (IntKind.i64.wrap (3 + (i1 : Int)))) rfl rfl rfl (by kernel_rfl) (by kernel_rfl) (by kernel_rfl) (ST.sel hS8 [0, 1] rfl rfl) (fun w' hw' => (Y_add (k := .i64) (a := 3) (b := (i1 : Int)) rfl rfl rfl)) ?_
          refine ra_q 4 30 (v := pt B ((IntKind.i64.wrap (3 + (i1 : Int))).toNat * 5)) rfl rfl rfl (by kernel_rfl) (by kernel_rfl) (by kernel_rfl) (ST.sel hS8 [0, 1] rfl rfl) (fun w' hw' => (Y_index (B := B) (m := a.length) (c := c) (k := .i64) (i := (IntKind.i64.wrap (3 + (i1 : Int)))) k_sl_28_55 k_sz_55_5 rfl rfl rfl (gi_isSome enc_Dyadic_len rfl (ST.rf hw' (i := 0) rfl) hx) (getI_nn hx) (getI_ltI hx rfl))) ?_
          refine ra_q 5 31 (v := .agg #[.int .i64 x.Num.A, .int .i64 x.Num.B, .int .i64 x.Num.C, .int .i64 x.Num.D, .int .i64 x.Exp]) rfl rfl rfl (by kernel_rfl) (by kernel_rfl) (by kernel_rfl) (ST.sel hS8 [0, 1] rfl rfl) (fun w' hw' => (Y_loadA (B := B) (i := (IntKind.i64.wrap (3 + (i1 : Int))).toNat * 5) (cs := (a.flatMap enc_Dyadic)) (vs := [.int .i64 x.Num.A, .int .i64 x.Num.B, .int .i64 x.Num.C, .int .i64 x.Num.D, .int .i64 x.Exp]) k_ag_55 k_sz_55_5 rfl rfl (ST.rf hw' (i := 0) rfl) (enc_Dyadic_len x) (gi_seg enc_Dyadic_len hx))) ?_
          refine ra_q 6 32 (v := .slice B a.length c) rfl rfl rfl (by kernel_rfl) (by kernel_rfl) (by kernel_rfl) (ST.sel hS8 [0, 1] rfl rfl) (fun w' hw' => (Y_move (v := .slice B a.length c) rfl (hf1.get 0 0 rfl))) ?_
          refine ra_q 7 33 (v := .int .i64 (i1 : Int)) rfl rfl rfl (by kernel_rfl) (by kernel_rfl) (by kernel_rfl) (ST.sel hS8 [0, 1] rfl rfl) (fun w' hw' => (Y_move (v := .int .i64 (i1 : Int)) rfl rfl)) ?_
          refine ra_q 8 34 (v := .int .i64 (IntKind.i64.wrap (6 + (i1 : Int)))) rfl rfl rfl (by kernel_rfl) (by kernel_rfl) (by kernel_rfl) (ST.sel hS8 [0, 1] rfl rfl) (fun w' hw' => (Y_add (k := .i64) (a := 6) (b := (i1 : Int)) rfl rfl rfl)) ?_
          refine ra_q 9 35 (v := pt B ((IntKind.i64.wrap (6 + (i1 : Int))).toNat * 5)) rfl rfl rfl (by kernel_rfl) (by kernel_rfl) (by kernel_rfl) (ST.sel hS8 [0, 1] rfl rfl) (fun w' hw' => (Y_index (B := B) (m := a.length) (c := c) (k := .i64) (i := (IntKind.i64.wrap (6 + (i1 : Int)))) k_sl_28_55 k_sz_55_5 rfl rfl rfl (gi_isSome enc_Dyadic_len rfl (ST.rf hw' (i := 0) rfl) hx1) (getI_nn hx1) (getI_ltI hx1 rfl))) ?_
          refine ra_q 10 36 (v := .agg #[.int .i64 x1.Num.A, .int .i64 x1.Num.B, .int .i64 x1.Num.C, .int .i64 x1.Num.D, .int .i64 x1.Exp]) rfl rfl rfl (by kernel_rfl) (by kernel_rfl) (by kernel_rfl) (ST.sel hS8 [0, 1] rfl rfl) (fun w' hw' => (Y_loadA (B := B) (i := (IntKind.i64.wrap (6 + (i1 : Int))).toNat * 5) (cs := (a.flatMap enc_Dyadic)) (vs := [.int .i64 x1.Num.A, .int .i64 x1.Num.B, .int .i64 x1.Num.C, .int .i64 x1.Num.D, .int .i64 x1.Exp]) k_ag_55 k_sz_55_5 rfl rfl (ST.rf hw' (i := 0) rfl) (enc_Dyadic_len x1) (gi_seg enc_Dyadic_len hx1))) ?_
          refine ra_all (rs := [11]) (by kernel_rfl) rfl ?_
          refine ra_s 37 (i := 11) rfl rfl rfl (Ys_bslice (s := 5) (len := 2) (vs := [(0, .agg #[.int .i64 x.Num.A, .int .i64 x.Num.B, .int .i64 x.Num.C, .int .i64 x.Num.D, .int .i64 x.Exp]), (1, .agg #[.int .i64 x1.Num.A, .int .i64 x1.Num.B, .int .i64 x1.Num.C, .int .i64 x1.Num.D, .int .i64 x1.Exp])]) (cs := [.int .i64 x.Num.A, .int .i64 x.Num.B, .int .i64 x.Num.C, .int .i64 x.Num.D, .int .i64 x.Exp, .int .i64 x1.Num.A, .int .i64 x1.Num.B, .int .i64 x1.Num.C, .int .i64 x1.Num.D, .int .i64 x1.Exp]) (zs := [.int .i64 0, .int .i64 0, .int .i64 0, .int .i64 0, .int .i64 0, .int .i64 0, .int .i64 0, .int .i64 0, .int .i64 0, .int .i64 0]) (m := 10) hS8 k_sl_28_55 k_sz_55_5 k_zc_55 rfl (mpc rfl (mpc rfl mpn)) rfl rfl rfl (by kernel_rfl) (by kernel_rfl) rfl) ?_ ?_
          · rintro _ w_4 ⟨b3, rfl, hS9⟩
            have hS9 : ST w0 [] _ [⟨some ⟨b, 0, none⟩, 55, [.int .i64 0, .int .i64 0, .int .i64 0, .int .i64 0, .int .i64 0], 5⟩, ⟨some ⟨b1, 0, none⟩, 55, [.int .i64 A, .int .i64 B1, .int .i64 C, .int .i64 D, .int .i64 Exp], 5⟩, ⟨B2, 55, (rest_.flatMap enc_Dyadic), c1 * 5⟩, ⟨some ⟨b3, 0, none⟩, 55, ([x, x1].flatMap enc_Dyadic), 2 * 5⟩] [⟨B, (a.flatMap enc_Dyadic)⟩] := hS9
            refine ⟨(ST.sel hS9 [0, 1] rfl rfl), ?_⟩
            refine ra_all (rs := [12]) (by kernel_rfl) rfl ?_
            refine ra_s 38 (i := 12) rfl rfl rfl (Ys_append (s := 5) (by' := 40) (i := 2) (nn := rest_.length) (c := c1) (k := 2) (len := (rest_ ++ [x, x1]).length) (B := B2) (xs := ([x, x1].flatMap enc_Dyadic)) (cs' := ((rest_ ++ [x, x1]).flatMap enc_Dyadic)) hS9 k_sl_28_55 k_sz_55_5 k_by_55_40 k_zero_55 rfl (by decide) rfl rfl rfl rfl (fm_lenn (l := rest_) enc_Dyadic_len rfl) rfl (hS9.cf (i := 3) rfl) (fm_lenn (l := [x, x1]) enc_Dyadic_len rfl) (fm_one' (enc := enc_Dyadic) enc_Dyadic_one [x, x1]) (by have := hap; omega) (by have := hap; simp only [maxLen]; omega) (fm_app _ _) (app_len (l := rest_) (l' := [x, x1]) rfl rfl)) ?_ ?_
            · rintro _ w_5 ⟨B4, c3, rfl, hS10⟩
              have hS10 : ST w0 [] _ [⟨some ⟨b, 0, none⟩, 55, [.int .i64 0, .int .i64 0, .int .i64 0, .int .i64 0, .int .i64 0], 5⟩, ⟨some ⟨b1, 0, none⟩, 55, [.int .i64 A, .int .i64 B1, .int .i64 C, .int .i64 D, .int .i64 Exp], 5⟩, ⟨B4, 55, ((rest_ ++ [x, x1]).flatMap enc_Dyadic), c3 * 5⟩, ⟨some ⟨b3, 0, none⟩, 55, ([x, x1].flatMap enc_Dyadic), 2 * 5⟩] [⟨B, (a.flatMap enc_Dyadic)⟩] := hS10
              refine ⟨(ST.sel hS10 [0, 1] rfl rfl), ?_⟩
              refine ra_q 13 6 (v := .slice B4 ((rest_ ++ [x, x1]).length) c3) rfl rfl rfl (by kernel_rfl) (by kernel_rfl) (by kernel_rfl) (ST.sel hS10 [0, 1] rfl rfl) (fun w' hw' => (Y_assign (v := .slice B4 ((rest_ ++ [x, x1]).length) c3) rfl rfl)) ?_
              refine ra_done (by kernel_rfl) ?_
              exact ⟨(rest_ ++ [x, x1]), B4, c3, (some_inj hF4), (FF.cons (hf1.get 0 0 rfl) (FF.cons (hf1.get 2 1 rfl) (FF.cons (hf1.get 4 2 rfl) (FF.cons (hf1.get 5 3 rfl) (FF.cons rfl (FF.cons (hf1.get 16 5 rfl) (FF.cons (hf1.get 20 6 rfl) FF.nil))))))), (hS10.sel [0, 1, 2] rfl rfl)⟩
            exact allR_nil
          exact allR_nil
        · skip
          have hF5 := cf' hz2 hb2
          refine cw_skip ?_
          exact ⟨rest_, B2, c1, (some_inj hF5), (FF.cons (hf1.get 0 0 rfl) (FF.cons (hf1.get 2 1 rfl) (FF.cons (hf1.get 4 2 rfl) (FF.cons (hf1.get 5 3 rfl) (FF.cons (hf1.get 6 4 rfl) (FF.cons (hf1.get 16 5 rfl) (FF.cons (hf1.get 20 6 rfl) FF.nil))))))), (hS6.sel [0, 1, 2] rfl rfl)⟩
      rintro f w ⟨rest_1, B3, c2, rfl, hf2, hS7⟩
      refine cw_region ?_
      refine sq 39 rfl rfl (Y_add (k := .i64) (a := (i1 : Int)) (b := 1) rfl (hf2.get 20 6 rfl) rfl) ?_
      refine sq 20 rfl rfl (Y_move (v := .int .i64 (IntKind.i64.wrap ((i1 : Int) + 1))) rfl rfl) ?_
      refine rw_nil ?_
      obtain rfl := some_inj hF3
      exact ⟨k_3, Nat.lt_succ_self _, i1 + 1, rest_1, B3, c2, (FF.cons (hf2.get 0 0 rfl) (FF.cons (hf2.get 2 1 rfl) (FF.cons (hf2.get 4 2 rfl) (FF.cons (hf2.get 5 3 rfl) (FF.cons (hf2.get 6 4 rfl) (FF.cons (hf2.get 16 5 rfl) (FF.cons (congrArg (Value.int .i64) (wr_succ hlt3 (show 3 ≤ 9223372036854775807 by decide))) FF.nil))))))), (hS7.sel [0, 1, 2] rfl rfl), (by omega), hL3⟩
    · skip
      obtain rfl : k_2 = 0 := by have h := of_decide_eq_false hlt2; omega
      refine cw_exit rfl ?_
      obtain rfl := some_inj hL2
      refine cw_seq ?_
      obtain ⟨x2, hx2, hF2⟩ := bind_inv hF2
      obtain ⟨x3, hx3, hF2⟩ := bind_inv hF2
      obtain ⟨x4, hx4, hF2⟩ := bind_inv hF2
      obtain ⟨x5, hx5, hF2⟩ := bind_inv hF2
      obtain ⟨⟨r_2, r_3⟩, hc, hF2⟩ := bind_inv hF2
      refine cw_mid (fun f w => ∃ (B5 : Option Addr), FF f [(0, .slice B a.length c), (2, pt (some ⟨b, 0, none⟩) 0), (4, pt (some ⟨b1, 0, none⟩) 0), (5, .int .i64 (i : Int)), (8, pt B5 0), (9, .bool r_3), (16, .int .i64 (i : Int))] ∧ ST w0 [] w [⟨some ⟨b, 0, none⟩, 55, [.int .i64 0, .int .i64 0, .int .i64 0, .int .i64 0, .int .i64 0], 5⟩, ⟨some ⟨b1, 0, none⟩, 55, [.int .i64 A, .int .i64 B1, .int .i64 C, .int .i64 D, .int .i64 Exp], 5⟩, ⟨B5, 55, [.int .i64 r_2.Num.A, .int .i64 r_2.Num.B, .int .i64 r_2.Num.C, .int .i64 r_2.Num.D, .int .i64 r_2.Exp], 5⟩] [⟨B, (a.flatMap enc_Dyadic)⟩]) ?_ ?_
      · skip
        refine ra_start (ST.sel hS6 [0, 1, 2] rfl rfl).fn (by kernel_rfl) ?_
        have hS13 := hS6.drew
        refine ra_q 0 41 (v := .slice B2 rest_.length c1) rfl rfl rfl (by kernel_rfl) (by kernel_rfl) (by kernel_rfl) (ST.sel hS13 [0, 1, 2] rfl rfl) (fun w' hw' => (Y_move (v := .slice B2 rest_.length c1) rfl (hf1.get 6 4 rfl))) ?_
        refine ra_q 1 42 (v := pt B2 ((0 : Int).toNat * 5)) rfl rfl rfl (by kernel_rfl) (by kernel_rfl) (by kernel_rfl) (ST.sel hS13 [0, 1, 2] rfl rfl) (fun w' hw' => (Y_index (B := B2) (m := rest_.length) (c := c1) (k := .i64) (i := 0) k_sl_28_55 k_sz_55_5 rfl rfl rfl (gi_isSome enc_Dyadic_len rfl (ST.cf hw' (i := 2) rfl) hx2) (getI_nn hx2) (getI_ltI hx2 rfl))) ?_
        refine ra_q 2 43 (v := .agg #[.int .i64 x2.Num.A, .int .i64 x2.Num.B, .int .i64 x2.Num.C, .int .i64 x2.Num.D, .int .i64 x2.Exp]) rfl rfl rfl (by kernel_rfl) (by kernel_rfl) (by kernel_rfl) (ST.sel hS13 [0, 1, 2] rfl rfl) (fun w' hw' => (Y_loadA (B := B2) (i := (0 : Int).toNat * 5) (cs := (rest_.flatMap enc_Dyadic)) (vs := [.int .i64 x2.Num.A, .int .i64 x2.Num.B, .int .i64 x2.Num.C, .int .i64 x2.Num.D, .int .i64 x2.Exp]) k_ag_55 k_sz_55_5 rfl rfl (ST.cf hw' (i := 2) rfl) (enc_Dyadic_len x2) (gi_seg enc_Dyadic_len hx2))) ?_
        refine ra_q 3 44 (v := .slice B2 rest_.length c1) rfl rfl rfl (by kernel_rfl) (by kernel_rfl) (by kernel_rfl) (ST.sel hS13 [0, 1, 2] rfl rfl) (fun w' hw' => (Y_move (v := .slice B2 rest_.length c1) rfl (hf1.get 6 4 rfl))) ?_
        refine ra_q 4 45 (v := pt B2 ((2 : Int).toNat * 5)) rfl rfl rfl (by kernel_rfl) (by kernel_rfl) (by kernel_rfl) (ST.sel hS13 [0, 1, 2] rfl rfl) (fun w' hw' => (Y_index (B := B2) (m := rest_.length) (c := c1) (k := .i64) (i := 2) k_sl_28_55 k_sz_55_5 rfl rfl rfl (gi_isSome enc_Dyadic_len rfl (ST.cf hw' (i := 2) rfl) hx3) (getI_nn hx3) (getI_ltI hx3 rfl))) ?_
        refine ra_q 5 46 (v := .agg #[.int .i64 x3.Num.A, .int .i64 x3.Num.B, .int .i64 x3.Num.C, .int .i64 x3.Num.D, .int .i64 x3.Exp]) rfl rfl rfl (by kernel_rfl) (by kernel_rfl) (by kernel_rfl) (ST.sel hS13 [0, 1, 2] rfl rfl) (fun w' hw' => (Y_loadA (B := B2) (i := (2 : Int).toNat * 5) (cs := (rest_.flatMap enc_Dyadic)) (vs := [.int .i64 x3.Num.A, .int .i64 x3.Num.B, .int .i64 x3.Num.C, .int .i64 x3.Num.D, .int .i64 x3.Exp]) k_ag_55 k_sz_55_5 rfl rfl (ST.cf hw' (i := 2) rfl) (enc_Dyadic_len x3) (gi_seg enc_Dyadic_len hx3))) ?_
        refine ra_q 6 47 (v := .slice B2 rest_.length c1) rfl rfl rfl (by kernel_rfl) (by kernel_rfl) (by kernel_rfl) (ST.sel hS13 [0, 1, 2] rfl rfl) (fun w' hw' => (Y_move (v := .slice B2 rest_.length c1) rfl (hf1.get 6 4 rfl))) ?_
        refine ra_q 7 48 (v := pt B2 ((1 : Int).toNat * 5)) rfl rfl rfl (by kernel_rfl) (by kernel_rfl) (by kernel_rfl) (ST.sel hS13 [0, 1, 2] rfl rfl) (fun w' hw' => (Y_index (B := B2) (m := rest_.length) (c := c1) (k := .i64) (i := 1) k_sl_28_55 k_sz_55_5 rfl rfl rfl (gi_isSome enc_Dyadic_len rfl (ST.cf hw' (i := 2) rfl) hx4) (getI_nn hx4) (getI_ltI hx4 rfl))) ?_
        refine ra_q 8 49 (v := .agg #[.int .i64 x4.Num.A, .int .i64 x4.Num.B, .int .i64 x4.Num.C, .int .i64 x4.Num.D, .int .i64 x4.Exp]) rfl rfl rfl (by kernel_rfl) (by kernel_rfl) (by kernel_rfl) (ST.sel hS13 [0, 1, 2] rfl rfl) (fun w' hw' => (Y_loadA (B := B2) (i := (1 : Int).toNat * 5) (cs := (rest_.flatMap enc_Dyadic)) (vs := [.int .i64 x4.Num.A, .int .i64 x4.Num.B, .int .i64 x4.Num.C, .int .i64 x4.Num.D, .int .i64 x4.Exp]) k_ag_55 k_sz_55_5 rfl rfl (ST.cf hw' (i := 2) rfl) (enc_Dyadic_len x4) (gi_seg enc_Dyadic_len hx4))) ?_
        refine ra_q 9 50 (v := .slice B2 rest_.length c1) rfl rfl rfl (by kernel_rfl) (by kernel_rfl) (by kernel_rfl) (ST.sel hS13 [0, 1, 2] rfl rfl) (fun w' hw' => (Y_move (v := .slice B2 rest_.length c1) rfl (hf1.get 6 4 rfl))) ?_
        refine ra_q 10 51 (v := pt B2 ((3 : Int).toNat * 5)) rfl rfl rfl (by kernel_rfl) (by kernel_rfl) (by kernel_rfl) (ST.sel hS13 [0, 1, 2] rfl rfl) (fun w' hw' => (Y_index (B := B2) (m := rest_.length) (c := c1) (k := .i64) (i := 3) k_sl_28_55 k_sz_55_5 rfl rfl rfl (gi_isSome enc_Dyadic_len rfl (ST.cf hw' (i := 2) rfl) hx5) (getI_nn hx5) (getI_ltI hx5 rfl))) ?_
        refine ra_q 11 52 (v := .agg #[.int .i64 x5.Num.A, .int .i64 x5.Num.B, .int .i64 x5.Num.C, .int .i64 x5.Num.D, .int .i64 x5.Exp]) rfl rfl rfl (by kernel_rfl) (by kernel_rfl) (by kernel_rfl) (ST.sel hS13 [0, 1, 2] rfl rfl) (fun w' hw' => (Y_loadA (B := B2) (i := (3 : Int).toNat * 5) (cs := (rest_.flatMap enc_Dyadic)) (vs := [.int .i64 x5.Num.A, .int .i64 x5.Num.B, .int .i64 x5.Num.C, .int .i64 x5.Num.D, .int .i64 x5.Exp]) k_ag_55 k_sz_55_5 rfl rfl (ST.cf hw' (i := 2) rfl) (enc_Dyadic_len x5) (gi_seg enc_Dyadic_len hx5))) ?_
        refine ra_all (rs := [12, 16]) (by kernel_rfl) rfl ?_
        refine ra_c 53 (i := 12) rfl rfl rfl (Yc_func (g := 287) (vs := [.agg #[.int .i64 x2.Num.A, .int .i64 x2.Num.B, .int .i64 x2.Num.C, .int .i64 x2.Num.D, .int .i64 x2.Exp], .agg #[.int .i64 x3.Num.A, .int .i64 x3.Num.B, .int .i64 x3.Num.C, .int .i64 x3.Num.D, .int .i64 x3.Exp], .agg #[.int .i64 x4.Num.A, .int .i64 x4.Num.B, .int .i64 x4.Num.C, .int .i64 x4.Num.D, .int .i64 x4.Exp], .agg #[.int .i64 x5.Num.A, .int .i64 x5.Num.B, .int .i64 x5.Num.C, .int .i64 x5.Num.D, .int .i64 x5.Exp]]) k_call_287 rfl (mc rfl (mc rfl (mc rfl (mc rfl mn)))) (c_impl_minor x2 x3 x4 x5 _  (hS13.inn0 [] rfl) hc)) ?_ ?_
        · rintro _ w_6 ⟨rfl, hd⟩
          have hS14 := hS13.out00 hd
          have hS14 : ST w0 [] _ [⟨some ⟨b, 0, none⟩, 55, [.int .i64 0, .int .i64 0, .int .i64 0, .int .i64 0, .int .i64 0], 5⟩, ⟨some ⟨b1, 0, none⟩, 55, [.int .i64 A, .int .i64 B1, .int .i64 C, .int .i64 D, .int .i64 Exp], 5⟩, ⟨B2, 55, (rest_.flatMap enc_Dyadic), c1 * 5⟩] [⟨B, (a.flatMap enc_Dyadic)⟩] := hS14
          refine ⟨(ST.sel hS14 [0, 1, 2] rfl rfl), ?_⟩
          refine ra_q 13 40 (v := .tuple #[.agg #[.int .i64 r_2.Num.A, .int .i64 r_2.Num.B, .int .i64 r_2.Num.C, .int .i64 r_2.Num.D, .int .i64 r_2.Exp], .bool r_3]) rfl rfl rfl (by kernel_rfl) (by kernel_rfl) (by kernel_rfl) (ST.sel hS14 [0, 1, 2] rfl rfl) (fun w' hw' => (Y_move (v := .tuple #[.agg #[.int .i64 r_2.Num.A, .int .i64 r_2.Num.B, .int .i64 r_2.Num.C, .int .i64 r_2.Num.D, .int .i64 r_2.Exp], .bool r_3]) rfl rfl)) ?_
          refine ra_q 14 54 (v := .agg #[.int .i64 r_2.Num.A, .int .i64 r_2.Num.B, .int .i64 r_2.Num.C, .int .i64 r_2.Num.D, .int .i64 r_2.Exp]) rfl rfl rfl (by kernel_rfl) (by kernel_rfl) (by kernel_rfl) (ST.sel hS14 [0, 1, 2] rfl rfl) (fun w' hw' => (Y_extract (v := .agg #[.int .i64 r_2.Num.A, .int .i64 r_2.Num.B, .int .i64 r_2.Num.C, .int .i64 r_2.Num.D, .int .i64 r_2.Exp]) rfl rfl rfl)) ?_
          refine ra_q 15 55 (v := .bool r_3) rfl rfl rfl (by kernel_rfl) (by kernel_rfl) (by kernel_rfl) (ST.sel hS14 [0, 1, 2] rfl rfl) (fun w' hw' => (Y_extract (v := .bool r_3) rfl rfl rfl)) ?_
          refine ra_all (rs := [16]) (by kernel_rfl) rfl ?_
          refine ra_s 8 (i := 16) rfl rfl rfl (Ys_alloc (T := 55) (cs := [.int .i64 0, .int .i64 0, .int .i64 0, .int .i64 0, .int .i64 0]) (m := 5) hS14 k_zero_55 rfl rfl rfl) ?_ ?_
          · rintro _ w_7 ⟨b4, rfl, hS15⟩
            have hS15 : ST w0 [] _ [⟨some ⟨b, 0, none⟩, 55, [.int .i64 0, .int .i64 0, .int .i64 0, .int .i64 0, .int .i64 0], 5⟩, ⟨some ⟨b1, 0, none⟩, 55, [.int .i64 A, .int .i64 B1, .int .i64 C, .int .i64 D, .int .i64 Exp], 5⟩, ⟨B2, 55, (rest_.flatMap enc_Dyadic), c1 * 5⟩, ⟨some ⟨b4, 0, none⟩, 55, [.int .i64 0, .int .i64 0, .int .i64 0, .int .i64 0, .int .i64 0], 5⟩] [⟨B, (a.flatMap enc_Dyadic)⟩] := hS15
            refine ⟨(ST.sel hS15 [0, 1, 2] rfl rfl), ?_⟩
            refine ra_all (rs := [17]) (by kernel_rfl) rfl ?_
            refine ra_s0 (i := 17) rfl rfl rfl (Ys_store (i := 3) (s := 5) (B := some ⟨b4, 0, none⟩) (T' := 55) (v := .agg #[.int .i64 r_2.Num.A, .int .i64 r_2.Num.B, .int .i64 r_2.Num.C, .int .i64 r_2.Num.D, .int .i64 r_2.Exp]) (vs := [.int .i64 r_2.Num.A, .int .i64 r_2.Num.B, .int .i64 r_2.Num.C, .int .i64 r_2.Num.D, .int .i64 r_2.Exp]) (k := 0) (cs' := [.int .i64 r_2.Num.A, .int .i64 r_2.Num.B, .int .i64 r_2.Num.C, .int .i64 r_2.Num.D, .int .i64 r_2.Exp]) hS15 k_sz_55_5 rfl rfl rfl rfl rfl rfl rfl (Nat.le_of_ble_eq_true rfl) rfl rfl) ?_ ?_
            · rintro _ w_8 ⟨rfl, hS16⟩
              have hS16 : ST w0 [] _ [⟨some ⟨b, 0, none⟩, 55, [.int .i64 0, .int .i64 0, .int .i64 0, .int .i64 0, .int .i64 0], 5⟩, ⟨some ⟨b1, 0, none⟩, 55, [.int .i64 A, .int .i64 B1, .int .i64 C, .int .i64 D, .int .i64 Exp], 5⟩, ⟨B2, 55, (rest_.flatMap enc_Dyadic), c1 * 5⟩, ⟨some ⟨b4, 0, none⟩, 55, [.int .i64 r_2.Num.A, .int .i64 r_2.Num.B, .int .i64 r_2.Num.C, .int .i64 r_2.Num.D, .int .i64 r_2.Exp], 5⟩] [⟨B, (a.flatMap enc_Dyadic)⟩] := hS16
              refine ⟨(ST.sel hS16 [0, 1, 2] rfl rfl), ?_⟩
              refine ra_q 18 9 (v := .bool r_3) rfl rfl rfl (by kernel_rfl) (by kernel_rfl) (by kernel_rfl) (ST.sel hS16 [0, 1, 2] rfl rfl) (fun w' hw' => (Y_assign (v := .bool r_3) rfl rfl)) ?_
              refine ra_done (by kernel_rfl) ?_
              exact ⟨some ⟨b4, 0, none⟩, (FF.cons (hf1.get 0 0 rfl) (FF.cons (hf1.get 2 1 rfl) (FF.cons (hf1.get 4 2 rfl) (FF.cons (hf1.get 5 3 rfl) (FF.cons rfl (FF.cons rfl (FF.cons (hf1.get 16 5 rfl) FF.nil))))))), (hS16.sel [0, 1, 3] rfl rfl)⟩
            exact allR_nil
          exact allR_nil
        refine ra_s 8 (i := 16) rfl rfl rfl (Ys_alloc (T := 55) (cs := [.int .i64 0, .int .i64 0, .int .i64 0, .int .i64 0, .int .i64 0]) (m := 5) hS13 k_zero_55 rfl rfl rfl) ?_ ?_
        · rintro _ w_9 ⟨b4, rfl, hS17⟩
          have hS17 : ST w0 [] _ [⟨some ⟨b, 0, none⟩, 55, [.int .i64 0, .int .i64 0, .int .i64 0, .int .i64 0, .int .i64 0], 5⟩, ⟨some ⟨b1, 0, none⟩, 55, [.int .i64 A, .int .i64 B1, .int .i64 C, .int .i64 D, .int .i64 Exp], 5⟩, ⟨B2, 55, (rest_.flatMap enc_Dyadic), c1 * 5⟩, ⟨some ⟨b4, 0, none⟩, 55, [.int .i64 0, .int .i64 0, .int .i64 0, .int .i64 0, .int .i64 0], 5⟩] [⟨B, (a.flatMap enc_Dyadic)⟩] := hS17
          refine ⟨(ST.sel hS17 [0, 1, 2] rfl rfl), ?_⟩
          refine ra_all (rs := [12]) (by kernel_rfl) rfl ?_
          refine ra_c 53 (i := 12) rfl rfl rfl (Yc_func (g := 287) (vs := [.agg #[.int .i64 x2.Num.A, .int .i64 x2.Num.B, .int .i64 x2.Num.C, .int .i64 x2.Num.D, .int .i64 x2.Exp], .agg #[.int .i64 x3.Num.A, .int .i64 x3.Num.B, .int .i64 x3.Num.C, .int .i64 x3.Num.D, .int .i64 x3.Exp], .agg #[.int .i64 x4.Num.A, .int .i64 x4.Num.B, .int .i64 x4.Num.C, .int .i64 x4.Num.D, .int .i64 x4.Exp], .agg #[.int .i64 x5.Num.A, .int .i64 x5.Num.B, .int .i64 x5.Num.C, .int .i64 x5.Num.D, .int .i64 x5.Exp]]) k_call_287 rfl (mc rfl (mc rfl (mc rfl (mc rfl mn)))) (c_impl_minor x2 x3 x4 x5 _  (hS17.inn0 [] rfl) hc)) ?_ ?_
          · rintro _ w_10 ⟨rfl, hd1⟩
            have hS18 := hS17.out00 hd1
            have hS18 : ST w0 [] _ [⟨some ⟨b, 0, none⟩, 55, [.int .i64 0, .int .i64 0, .int .i64 0, .int .i64 0, .int .i64 0], 5⟩, ⟨some ⟨b1, 0, none⟩, 55, [.int .i64 A, .int .i64 B1, .int .i64 C, .int .i64 D, .int .i64 Exp], 5⟩, ⟨B2, 55, (rest_.flatMap enc_Dyadic), c1 * 5⟩, ⟨some ⟨b4, 0, none⟩, 55, [.int .i64 0, .int .i64 0, .int .i64 0, .int .i64 0, .int .i64 0], 5⟩] [⟨B, (a.flatMap enc_Dyadic)⟩] := hS18
            refine ⟨(ST.sel hS18 [0, 1, 2] rfl rfl), ?_⟩
            refine ra_q 13 40 (v := .tuple #[.agg #[.int .i64 r_2.Num.A, .int .i64 r_2.Num.B, .int .i64 r_2.Num.C, .int .i64 r_2.Num.D, .int .i64 r_2.Exp], .bool r_3]) rfl rfl rfl (by kernel_rfl) (by kernel_rfl) (by kernel_rfl) (ST.sel hS18 [0, 1, 2] rfl rfl) (fun w' hw' => (Y_move (v := .tuple #[.agg #[.int .i64 r_2.Num.A, .int .i64 r_2.Num.B, .int .i64 r_2.Num.C, .int .i64 r_2.Num.D, .int .i64 r_2.Exp], .bool r_3]) rfl rfl)) ?_
            refine ra_q 14 54 (v := .agg #[.int .i64 r_2.Num.A, .int .i64 r_2.Num.B, .int .i64 r_2.Num.C, .int .i64 r_2.Num.D, .int .i64 r_2.Exp]) rfl rfl rfl (by kernel_rfl) (by kernel_rfl) (by kernel_rfl) (ST.sel hS18 [0, 1, 2] rfl rfl) (fun w' hw' => (Y_extract (v := .agg #[.int .i64 r_2.Num.A, .int .i64 r_2.Num.B, .int .i64 r_2.Num.C, .int .i64 r_2.Num.D, .int .i64 r_2.Exp]) rfl rfl rfl)) ?_
            refine ra_q 15 55 (v := .bool r_3) rfl rfl rfl (by kernel_rfl) (by kernel_rfl) (by kernel_rfl) (ST.sel hS18 [0, 1, 2] rfl rfl) (fun w' hw' => (Y_extract (v := .bool r_3) rfl rfl rfl)) ?_
            refine ra_all (rs := [17]) (by kernel_rfl) rfl ?_
            refine ra_s0 (i := 17) rfl rfl rfl (Ys_store (i := 3) (s := 5) (B := some ⟨b4, 0, none⟩) (T' := 55) (v := .agg #[.int .i64 r_2.Num.A, .int .i64 r_2.Num.B, .int .i64 r_2.Num.C, .int .i64 r_2.Num.D, .int .i64 r_2.Exp]) (vs := [.int .i64 r_2.Num.A, .int .i64 r_2.Num.B, .int .i64 r_2.Num.C, .int .i64 r_2.Num.D, .int .i64 r_2.Exp]) (k := 0) (cs' := [.int .i64 r_2.Num.A, .int .i64 r_2.Num.B, .int .i64 r_2.Num.C, .int .i64 r_2.Num.D, .int .i64 r_2.Exp]) hS18 k_sz_55_5 rfl rfl rfl rfl rfl rfl rfl (Nat.le_of_ble_eq_true rfl) rfl rfl) ?_ ?_
            · rintro _ w_11 ⟨rfl, hS19⟩
              have hS19 : ST w0 [] _ [⟨some ⟨b, 0, none⟩, 55, [.int .i64 0, .int .i64 0, .int .i64 0, .int .i64 0, .int .i64 0], 5⟩, ⟨some ⟨b1, 0, none⟩, 55, [.int .i64 A, .int .i64 B1, .int .i64 C, .int .i64 D, .int .i64 Exp], 5⟩, ⟨B2, 55, (rest_.flatMap enc_Dyadic), c1 * 5⟩, ⟨some ⟨b4, 0, none⟩, 55, [.int .i64 r_2.Num.A, .int .i64 r_2.Num.B, .int .i64 r_2.Num.C, .int .i64 r_2.Num.D, .int .i64 r_2.Exp], 5⟩] [⟨B, (a.flatMap enc_Dyadic)⟩] := hS19
              refine ⟨(ST.sel hS19 [0, 1, 2] rfl rfl), ?_⟩
              refine ra_q 18 9 (v := .bool r_3) rfl rfl rfl (by kernel_rfl) (by kernel_rfl) (by kernel_rfl) (ST.sel hS19 [0, 1, 2] rfl rfl) (fun w' hw' => (Y_assign (v := .bool r_3) rfl rfl)) ?_
              refine ra_done (by kernel_rfl) ?_
              exact ⟨some ⟨b4, 0, none⟩, (FF.cons (hf1.get 0 0 rfl) (FF.cons (hf1.get 2 1 rfl) (FF.cons (hf1.get 4 2 rfl) (FF.cons (hf1.get 5 3 rfl) (FF.cons rfl (FF.cons rfl (FF.cons (hf1.get 16 5 rfl) FF.nil))))))), (hS19.sel [0, 1, 3] rfl rfl)⟩
            exact allR_nil
          exact allR_nil
        exact allR_nil
      rintro f w ⟨B5, hf3, hS12⟩
      refine cw_seq ?_
      obtain ⟨x6, hx6, hF2⟩ := bind_inv hF2
      obtain ⟨⟨r_4, r_5⟩, hc1, hF2⟩ := bind_inv hF2
      refine cw_mid (fun f w => ∃ (B6 : Option Addr), FF f [(0, .slice B a.length c), (2, pt (some ⟨b, 0, none⟩) 0), (4, pt (some ⟨b1, 0, none⟩) 0), (5, .int .i64 (i : Int)), (9, .bool r_3), (10, pt B6 0), (11, .bool r_5), (16, .int .i64 (i : Int))] ∧ ST w0 [] w [⟨some ⟨b, 0, none⟩, 55, [.int .i64 0, .int .i64 0, .int .i64 0, .int .i64 0, .int .i64 0], 5⟩, ⟨some ⟨b1, 0, none⟩, 55, [.int .i64 A, .int .i64 B1, .int .i64 C, .int .i64 D, .int .i64 Exp], 5⟩, ⟨B6, 55, [.int .i64 r_4.Num.A, .int .i64 r_4.Num.B, .int .i64 r_4.Num.C, .int .i64 r_4.Num.D, .int .i64 r_4.Exp], 5⟩] [⟨B, (a.flatMap enc_Dyadic)⟩]) ?_ ?_
      · skip
        refine ra_start (ST.sel hS12 [0, 1, 2] rfl rfl).fn (by kernel_rfl) ?_
        have hS22 := hS12.drew
        refine ra_q 0 57 (v := .slice B a.length c) rfl rfl rfl (by kernel_rfl) (by kernel_rfl) (by kernel_rfl) (ST.sel hS22 [0, 1, 2] rfl rfl) (fun w' hw' => (Y_move (v := .slice B a.length c) rfl (hf3.get 0 0 rfl))) ?_
        refine ra_q 1 58 (v := .int .i64 (i : Int)) rfl rfl rfl (by kernel_rfl) (by kernel_rfl) (by kernel_rfl) (ST.sel hS22 [0, 1, 2] rfl rfl) (fun w' hw' => (Y_move (v := .int .i64 (i : Int)) rfl (hf3.get 5 3 rfl))) ?_
        refine ra_q 2 59 (v := pt B ((i : Int).toNat * 5)) rfl rfl rfl (by kernel_rfl) (by kernel_rfl) (by kernel_rfl) (ST.sel hS22 [0, 1, 2] rfl rfl) (fun w' hw' => (Y_index (B := B) (m := a.length) (c := c) (k := .i64) (i := (i : Int)) k_sl_28_55 k_sz_55_5 rfl rfl rfl (gi_isSome enc_Dyadic_len rfl (ST.rf hw' (i := 0) rfl) hx6) (getI_nn hx6) (getI_ltI hx6 rfl))) ?_
        refine ra_q 3 60 (v := .agg #[.int .i64 x6.Num.A, .int .i64 x6.Num.B, .int .i64 x6.Num.C, .int .i64 x6.Num.D, .int .i64 x6.Exp]) rfl rfl rfl (by kernel_rfl) (by kernel_rfl) (by kernel_rfl) (ST.sel hS22 [0, 1, 2] rfl rfl) (fun w' hw' => (Y_loadA (B := B) (i := (i : Int).toNat * 5) (cs := (a.flatMap enc_Dyadic)) (vs := [.int .i64 x6.Num.A, .int .i64 x6.Num.B, .int .i64 x6.Num.C, .int .i64 x6.Num.D, .int .i64 x6.Exp]) k_ag_55 k_sz_55_5 rfl rfl (ST.rf hw' (i := 0) rfl) (enc_Dyadic_len x6) (gi_seg enc_Dyadic_len hx6))) ?_
        refine ra_q 4 61 (v := .agg #[.int .i64 r_2.Num.A, .int .i64 r_2.Num.B, .int .i64 r_2.Num.C, .int .i64 r_2.Num.D, .int .i64 r_2.Exp]) rfl rfl rfl (by kernel_rfl) (by kernel_rfl) (by kernel_rfl) (ST.sel hS22 [0, 1, 2] rfl rfl) (fun w' hw' => (Y_loadA (B := B5) (i := 0) (cs := [.int .i64 r_2.Num.A, .int .i64 r_2.Num.B, .int .i64 r_2.Num.C, .int .i64 r_2.Num.D, .int .i64 r_2.Exp]) (vs := [.int .i64 r_2.Num.A, .int .i64 r_2.Num.B, .int .i64 r_2.Num.C, .int .i64 r_2.Num.D, .int .i64 r_2.Exp]) k_ag_55 k_sz_55_5 rfl (hf3.get 8 4 rfl) (ST.cf hw' (i := 2) rfl) rfl rfl)) ?_
        refine ra_all (rs := [5, 9]) (by kernel_rfl) rfl ?_
        refine ra_c 62 (i := 5) rfl rfl rfl (Yc_func (g := 95) (vs := [.agg #[.int .i64 x6.Num.A, .int .i64 x6.Num.B, .int .i64 x6.Num.C, .int .i64 x6.Num.D, .int .i64 x6.Exp], .agg #[.int .i64 r_2.Num.A, .int .i64 r_2.Num.B, .int .i64 r_2.Num.C, .int .i64 r_2.Num.D, .int .i64 r_2.Exp]]) k_call_95 rfl (mc rfl (mc rfl mn)) (c_impl_MulDyadic x6 r_2 _  (hS22.inn0 [] rfl) hc1)) ?_ ?_
        · rintro _ w_12 ⟨rfl, hd2⟩
          have hS23 := hS22.out00 hd2
          have hS23 : ST w0 [] _ [⟨some ⟨b, 0, none⟩, 55, [.int .i64 0, .int .i64 0, .int .i64 0, .int .i64 0, .int .i64 0], 5⟩, ⟨some ⟨b1, 0, none⟩, 55, [.int .i64 A, .int .i64 B1, .int .i64 C, .int .i64 D, .int .i64 Exp], 5⟩, ⟨B5, 55, [.int .i64 r_2.Num.A, .int .i64 r_2.Num.B, .int .i64 r_2.Num.C, .int .i64 r_2.Num.D, .int .i64 r_2.Exp], 5⟩] [⟨B, (a.flatMap enc_Dyadic)⟩] := hS23
          refine ⟨(ST.sel hS23 [0, 1, 2] rfl rfl), ?_⟩
          refine ra_q 6 56 (v := .tuple #[.agg #[.int .i64 r_4.Num.A, .int .i64 r_4.Num.B, .int .i64 r_4.Num.C, .int .i64 r_4.Num.D, .int .i64 r_4.Exp], .bool r_5]) rfl rfl rfl (by kernel_rfl) (by kernel_rfl) (by kernel_rfl) (ST.sel hS23 [0, 1, 2] rfl rfl) (fun w' hw' => (Y_move (v := .tuple #[.agg #[.int .i64 r_4.Num.A, .int .i64 r_4.Num.B, .int .i64 r_4.Num.C, .int .i64 r_4.Num.D, .int .i64 r_4.Exp], .bool r_5]) rfl rfl)) ?_
          refine ra_q 7 63 (v := .agg #[.int .i64 r_4.Num.A, .int .i64 r_4.Num.B, .int .i64 r_4.Num.C, .int .i64 r_4.Num.D, .int .i64 r_4.Exp]) rfl rfl rfl (by kernel_rfl) (by kernel_rfl) (by kernel_rfl) (ST.sel hS23 [0, 1, 2] rfl rfl) (fun w' hw' => (Y_extract (v := .agg #[.int .i64 r_4.Num.A, .int .i64 r_4.Num.B, .int .i64 r_4.Num.C, .int .i64 r_4.Num.D, .int .i64 r_4.Exp]) rfl rfl rfl)) ?_
          refine ra_q 8 64 (v := .bool r_5) rfl rfl rfl (by kernel_rfl) (by kernel_rfl) (by kernel_rfl) (ST.sel hS23 [0, 1, 2] rfl rfl) (fun w' hw' => (Y_extract (v := .bool r_5) rfl rfl rfl)) ?_
          refine ra_all (rs := [9]) (by kernel_rfl) rfl ?_
          refine ra_s 10 (i := 9) rfl rfl rfl (Ys_alloc (T := 55) (cs := [.int .i64 0, .int .i64 0, .int .i64 0, .int .i64 0, .int .i64 0]) (m := 5) hS23 k_zero_55 rfl rfl rfl) ?_ ?_
          · rintro _ w_13 ⟨b5, rfl, hS24⟩
            have hS24 : ST w0 [] _ [⟨some ⟨b, 0, none⟩, 55, [.int .i64 0, .int .i64 0, .int .i64 0, .int .i64 0, .int .i64 0], 5⟩, ⟨some ⟨b1, 0, none⟩, 55, [.int .i64 A, .int .i64 B1, .int .i64 C, .int .i64 D, .int .i64 Exp], 5⟩, ⟨B5, 55, [.int .i64 r_2.Num.A, .int .i64 r_2.Num.B, .int .i64 r_2.Num.C, .int .i64 r_2.Num.D, .int .i64 r_2.Exp], 5⟩, ⟨some ⟨b5, 0, none⟩, 55, [.int .i64 0, .int .i64 0, .int .i64 0, .int .i64 0, .int .i64 0], 5⟩] [⟨B, (a.flatMap enc_Dyadic)⟩] := hS24
            refine ⟨(ST.sel hS24 [0, 1, 2] rfl rfl), ?_⟩
            refine ra_all (rs := [10]) (by kernel_rfl) rfl ?_
            refine ra_s0 (i := 10) rfl rfl rfl (Ys_store (i := 3) (s := 5) (B := some ⟨b5, 0, none⟩) (T' := 55) (v := .agg #[.int .i64 r_4.Num.A, .int .i64 r_4.Num.B, .int .i64 r_4.Num.C, .int .i64 r_4.Num.D, .int .i64 r_4.Exp]) (vs := [.int .i64 r_4.Num.A, .int .i64 r_4.Num.B, .int .i64 r_4.Num.C, .int .i64 r_4.Num.D, .int .i64 r_4.Exp]) (k := 0) (cs' := [.int .i64 r_4.Num.A, .int .i64 r_4.Num.B, .int .i64 r_4.Num.C, .int .i64 r_4.Num.D, .int .i64 r_4.Exp]) hS24 k_sz_55_5 rfl rfl rfl rfl rfl rfl rfl (Nat.le_of_ble_eq_true rfl) rfl rfl) ?_ ?_
            · rintro _ w_14 ⟨rfl, hS25⟩
              have hS25 : ST w0 [] _ [⟨some ⟨b, 0, none⟩, 55, [.int .i64 0, .int .i64 0, .int .i64 0, .int .i64 0, .int .i64 0], 5⟩, ⟨some ⟨b1, 0, none⟩, 55, [.int .i64 A, .int .i64 B1, .int .i64 C, .int .i64 D, .int .i64 Exp], 5⟩, ⟨B5, 55, [.int .i64 r_2.Num.A, .int .i64 r_2.Num.B, .int .i64 r_2.Num.C, .int .i64 r_2.Num.D, .int .i64 r_2.Exp], 5⟩, ⟨some ⟨b5, 0, none⟩, 55, [.int .i64 r_4.Num.A, .int .i64 r_4.Num.B, .int .i64 r_4.Num.C, .int .i64 r_4.Num.D, .int .i64 r_4.Exp], 5⟩] [⟨B, (a.flatMap enc_Dyadic)⟩] := hS25
              refine ⟨(ST.sel hS25 [0, 1, 2] rfl rfl), ?_⟩
              refine ra_q 11 11 (v := .bool r_5) rfl rfl rfl (by kernel_rfl) (by kernel_rfl) (by kernel_rfl) (ST.sel hS25 [0, 1, 2] rfl rfl) (fun w' hw' => (Y_assign (v := .bool r_5) rfl rfl)) ?_
              refine ra_done (by kernel_rfl) ?_
              exact ⟨some ⟨b5, 0, none⟩, (FF.cons (hf3.get 0 0 rfl) (FF.cons (hf3.get 2 1 rfl) (FF.cons (hf3.get 4 2 rfl) (FF.cons (hf3.get 5 3 rfl) (FF.cons (hf3.get 9 5 rfl) (FF.cons rfl (FF.cons rfl (FF.cons (hf3.get 16 6 rfl) FF.nil)))))))), (hS25.sel [0, 1, 3] rfl rfl)⟩
            exact allR_nil
          exact allR_nil
        refine ra_s 10 (i := 9) rfl rfl rfl (Ys_alloc (T := 55) (cs := [.int .i64 0, .int .i64 0, .int .i64 0, .int .i64 0, .int .i64 0]) (m := 5) hS22 k_zero_55 rfl rfl rfl) ?_ ?_
        · rintro _ w_15 ⟨b5, rfl, hS26⟩
          have hS26 : ST w0 [] _ [⟨some ⟨b, 0, none⟩, 55, [.int .i64 0, .int .i64 0, .int .i64 0, .int .i64 0, .int .i64 0], 5⟩, ⟨some ⟨b1, 0, none⟩, 55, [.int .i64 A, .int .i64 B1, .int .i64 C, .int .i64 D, .int .i64 Exp], 5⟩, ⟨B5, 55, [.int .i64 r_2.Num.A, .int .i64 r_2.Num.B, .int .i64 r_2.Num.C, .int .i64 r_2.Num.D, .int .i64 r_2.Exp], 5⟩, ⟨some ⟨b5, 0, none⟩, 55, [.int .i64 0, .int .i64 0, .int .i64 0, .int .i64 0, .int .i64 0], 5⟩] [⟨B, (a.flatMap enc_Dyadic)⟩] := hS26
          refine ⟨(ST.sel hS26 [0, 1, 2] rfl rfl), ?_⟩
          refine ra_all (rs := [5]) (by kernel_rfl) rfl ?_
          refine ra_c 62 (i := 5) rfl rfl rfl (Yc_func (g := 95) (vs := [.agg #[.int .i64 x6.Num.A, .int .i64 x6.Num.B, .int .i64 x6.Num.C, .int .i64 x6.Num.D, .int .i64 x6.Exp], .agg #[.int .i64 r_2.Num.A, .int .i64 r_2.Num.B, .int .i64 r_2.Num.C, .int .i64 r_2.Num.D, .int .i64 r_2.Exp]]) k_call_95 rfl (mc rfl (mc rfl mn)) (c_impl_MulDyadic x6 r_2 _  (hS26.inn0 [] rfl) hc1)) ?_ ?_
          · rintro _ w_16 ⟨rfl, hd3⟩
            have hS27 := hS26.out00 hd3
            have hS27 : ST w0 [] _ [⟨some ⟨b, 0, none⟩, 55, [.int .i64 0, .int .i64 0, .int .i64 0, .int .i64 0, .int .i64 0], 5⟩, ⟨some ⟨b1, 0, none⟩, 55, [.int .i64 A, .int .i64 B1, .int .i64 C, .int .i64 D, .int .i64 Exp], 5⟩, ⟨B5, 55, [.int .i64 r_2.Num.A, .int .i64 r_2.Num.B, .int .i64 r_2.Num.C, .int .i64 r_2.Num.D, .int .i64 r_2.Exp], 5⟩, ⟨some ⟨b5, 0, none⟩, 55, [.int .i64 0, .int .i64 0, .int .i64 0, .int .i64 0, .int .i64 0], 5⟩] [⟨B, (a.flatMap enc_Dyadic)⟩] := hS27
            refine ⟨(ST.sel hS27 [0, 1, 2] rfl rfl), ?_⟩
            refine ra_q 6 56 (v := .tuple #[.agg #[.int .i64 r_4.Num.A, .int .i64 r_4.Num.B, .int .i64 r_4.Num.C, .int .i64 r_4.Num.D, .int .i64 r_4.Exp], .bool r_5]) rfl rfl rfl (by kernel_rfl) (by kernel_rfl) (by kernel_rfl) (ST.sel hS27 [0, 1, 2] rfl rfl) (fun w' hw' => (Y_move (v := .tuple #[.agg #[.int .i64 r_4.Num.A, .int .i64 r_4.Num.B, .int .i64 r_4.Num.C, .int .i64 r_4.Num.D, .int .i64 r_4.Exp], .bool r_5]) rfl rfl)) ?_
            refine ra_q 7 63 (v := .agg #[.int .i64 r_4.Num.A, .int .i64 r_4.Num.B, .int .i64 r_4.Num.C, .int .i64 r_4.Num.D, .int .i64 r_4.Exp]) rfl rfl rfl (by kernel_rfl) (by kernel_rfl) (by kernel_rfl) (ST.sel hS27 [0, 1, 2] rfl rfl) (fun w' hw' => (Y_extract (v := .agg #[.int .i64 r_4.Num.A, .int .i64 r_4.Num.B, .int .i64 r_4.Num.C, .int .i64 r_4.Num.D, .int .i64 r_4.Exp]) rfl rfl rfl)) ?_
            refine ra_q 8 64 (v := .bool r_5) rfl rfl rfl (by kernel_rfl) (by kernel_rfl) (by kernel_rfl) (ST.sel hS27 [0, 1, 2] rfl rfl) (fun w' hw' => (Y_extract (v := .bool r_5) rfl rfl rfl)) ?_
            refine ra_all (rs := [10]) (by kernel_rfl) rfl ?_
            refine ra_s0 (i := 10) rfl rfl rfl (Ys_store (i := 3) (s := 5) (B := some ⟨b5, 0, none⟩) (T' := 55) (v := .agg #[.int .i64 r_4.Num.A, .int .i64 r_4.Num.B, .int .i64 r_4.Num.C, .int .i64 r_4.Num.D, .int .i64 r_4.Exp]) (vs := [.int .i64 r_4.Num.A, .int .i64 r_4.Num.B, .int .i64 r_4.Num.C, .int .i64 r_4.Num.D, .int .i64 r_4.Exp]) (k := 0) (cs' := [.int .i64 r_4.Num.A, .int .i64 r_4.Num.B, .int .i64 r_4.Num.C, .int .i64 r_4.Num.D, .int .i64 r_4.Exp]) hS27 k_sz_55_5 rfl rfl rfl rfl rfl rfl rfl (Nat.le_of_ble_eq_true rfl) rfl rfl) ?_ ?_
            · rintro _ w_17 ⟨rfl, hS28⟩
              have hS28 : ST w0 [] _ [⟨some ⟨b, 0, none⟩, 55, [.int .i64 0, .int .i64 0, .int .i64 0, .int .i64 0, .int .i64 0], 5⟩, ⟨some ⟨b1, 0, none⟩, 55, [.int .i64 A, .int .i64 B1, .int .i64 C, .int .i64 D, .int .i64 Exp], 5⟩, ⟨B5, 55, [.int .i64 r_2.Num.A, .int .i64 r_2.Num.B, .int .i64 r_2.Num.C, .int .i64 r_2.Num.D, .int .i64 r_2.Exp], 5⟩, ⟨some ⟨b5, 0, none⟩, 55, [.int .i64 r_4.Num.A, .int .i64 r_4.Num.B, .int .i64 r_4.Num.C, .int .i64 r_4.Num.D, .int .i64 r_4.Exp], 5⟩] [⟨B, (a.flatMap enc_Dyadic)⟩] := hS28
              refine ⟨(ST.sel hS28 [0, 1, 2] rfl rfl), ?_⟩
              refine ra_q 11 11 (v := .bool r_5) rfl rfl rfl (by kernel_rfl) (by kernel_rfl) (by kernel_rfl) (ST.sel hS28 [0, 1, 2] rfl rfl) (fun w' hw' => (Y_assign (v := .bool r_5) rfl rfl)) ?_
              refine ra_done (by kernel_rfl) ?_
              exact ⟨some ⟨b5, 0, none⟩, (FF.cons (hf3.get 0 0 rfl) (FF.cons (hf3.get 2 1 rfl) (FF.cons (hf3.get 4 2 rfl) (FF.cons (hf3.get 5 3 rfl) (FF.cons (hf3.get 9 5 rfl) (FF.cons rfl (FF.cons rfl (FF.cons (hf3.get 16 6 rfl) FF.nil)))))))), (hS28.sel [0, 1, 3] rfl rfl)⟩
            exact allR_nil
          exact allR_nil
        exact allR_nil
      rintro f w ⟨B6, hf4, hS21⟩
      refine cw_seq ?_
      refine cw_region ?_
      refine sq 12 rfl rfl (Y_assign (v := .func (.func 108) #[] #[]) rfl rfl) ?_
      refine rw_nil ?_
      refine cw_seq ?_
      refine cw_seq ?_
      refine cw_region ?_
      refine sq 65 rfl rfl (Y_move (v := .int .i64 (i : Int)) rfl (hf4.get 5 3 rfl)) ?_
      refine sq 66 rfl rfl (Y_eq (k := .i64) (a := (i : Int)) (b := 1) rfl rfl rfl) ?_
      refine rw_nil ?_
      refine cw_cond (b := ((i : Int) == 1)) rfl (fun hb3 => ?_) (fun hb3 => ?_)
      · skip
        have hF6 := ct hF2 hb3
        refine cw_region ?_
        refine sq 12 rfl rfl (Y_assign (v := .func (.func 288) #[] #[]) rfl rfl) ?_
        refine rw_nil ?_
        refine cw_seq ?_
        refine cw_region ?_
        refine sq 68 rfl rfl (Y_move (v := .func (.func 288) #[] #[]) rfl rfl) ?_
        refine sq 69 rfl rfl (Y_loadA (B := some ⟨b1, 0, none⟩) (i := 0) (cs := [.int .i64 A, .int .i64 B1, .int .i64 C, .int .i64 D, .int .i64 Exp]) (vs := [.int .i64 A, .int .i64 B1, .int .i64 C, .int .i64 D, .int .i64 Exp]) k_ag_55 k_sz_55_5 rfl (hf4.get 4 2 rfl) (hS21.cf (i := 1) rfl) rfl rfl) ?_
        refine sq 70 rfl rfl (Y_loadA (B := B6) (i := 0) (cs := [.int .i64 r_4.Num.A, .int .i64 r_4.Num.B, .int .i64 r_4.Num.C, .int .i64 r_4.Num.D, .int .i64 r_4.Exp]) (vs := [.int .i64 r_4.Num.A, .int .i64 r_4.Num.B, .int .i64 r_4.Num.C, .int .i64 r_4.Num.D, .int .i64 r_4.Exp]) k_ag_55 k_sz_55_5 rfl (hf4.get 10 5 rfl) (hS21.cf (i := 2) rfl) rfl rfl) ?_
        obtain ⟨⟨r_6, r_7⟩, hc2, hF6⟩ := bind_inv hF6
        refine sc 71 rfl rfl (Yc_clos (g := 288) (vs := [.agg #[.int .i64 A, .int .i64 B1, .int .i64 C, .int .i64 D, .int .i64 Exp], .agg #[.int .i64 r_4.Num.A, .int .i64 r_4.Num.B, .int .i64 r_4.Num.C, .int .i64 r_4.Num.D, .int .i64 r_4.Exp]]) k_call_288 rfl rfl (clo_args (mc rfl (mc rfl mn))) (c_impl_SubDyadic (TDyadic.mk (TRing.mk A B1 C D) Exp) r_4 _  (hS21.inn0 [] rfl) hc2)) ?_
        rintro _ w_18 ⟨rfl, hd4⟩
        have hS29 := hS21.out00 hd4
        have hS29 : ST w0 [] _ [⟨some ⟨b, 0, none⟩, 55, [.int .i64 0, .int .i64 0, .int .i64 0, .int .i64 0, .int .i64 0], 5⟩, ⟨some ⟨b1, 0, none⟩, 55, [.int .i64 A, .int .i64 B1, .int .i64 C, .int .i64 D, .int .i64 Exp], 5⟩, ⟨B6, 55, [.int .i64 r_4.Num.A, .int .i64 r_4.Num.B, .int .i64 r_4.Num.C, .int .i64 r_4.Num.D, .int .i64 r_4.Exp], 5⟩] [⟨B, (a.flatMap enc_Dyadic)⟩] := hS29
        refine sq 67 rfl rfl (Y_move (v := .tuple #[.agg #[.int .i64 r_6.Num.A, .int .i64 r_6.Num.B, .int .i64 r_6.Num.C, .int .i64 r_6.Num.D, .int .i64 r_6.Exp], .bool r_7]) rfl rfl) ?_
        refine sq 72 rfl rfl (Y_extract (v := .agg #[.int .i64 r_6.Num.A, .int .i64 r_6.Num.B, .int .i64 r_6.Num.C, .int .i64 r_6.Num.D, .int .i64 r_6.Exp]) rfl rfl rfl) ?_
        refine sq 73 rfl rfl (Y_extract (v := .bool r_7) rfl rfl rfl) ?_
        refine ss 13 rfl rfl (Ys_alloc (T := 55) (cs := [.int .i64 0, .int .i64 0, .int .i64 0, .int .i64 0, .int .i64 0]) (m := 5) hS29 k_zero_55 rfl rfl rfl) ?_
        rintro _ w_19 ⟨b6, rfl, hS30⟩
        have hS30 : ST w0 [] _ [⟨some ⟨b, 0, none⟩, 55, [.int .i64 0, .int .i64 0, .int .i64 0, .int .i64 0, .int .i64 0], 5⟩, ⟨some ⟨b1, 0, none⟩, 55, [.int .i64 A, .int .i64 B1, .int .i64 C, .int .i64 D, .int .i64 Exp], 5⟩, ⟨B6, 55, [.int .i64 r_4.Num.A, .int .i64 r_4.Num.B, .int .i64 r_4.Num.C, .int .i64 r_4.Num.D, .int .i64 r_4.Exp], 5⟩, ⟨some ⟨b6, 0, none⟩, 55, [.int .i64 0, .int .i64 0, .int .i64 0, .int .i64 0, .int .i64 0], 5⟩] [⟨B, (a.flatMap enc_Dyadic)⟩] := hS30
        refine ss0 rfl rfl (Ys_store (i := 3) (s := 5) (B := some ⟨b6, 0, none⟩) (T' := 55) (v := .agg #[.int .i64 r_6.Num.A, .int .i64 r_6.Num.B, .int .i64 r_6.Num.C, .int .i64 r_6.Num.D, .int .i64 r_6.Exp]) (vs := [.int .i64 r_6.Num.A, .int .i64 r_6.Num.B, .int .i64 r_6.Num.C, .int .i64 r_6.Num.D, .int .i64 r_6.Exp]) (k := 0) (cs' := [.int .i64 r_6.Num.A, .int .i64 r_6.Num.B, .int .i64 r_6.Num.C, .int .i64 r_6.Num.D, .int .i64 r_6.Exp]) hS30 k_sz_55_5 rfl rfl rfl rfl rfl rfl rfl (Nat.le_of_ble_eq_true rfl) rfl rfl) ?_
        rintro _ w_20 ⟨rfl, hS31⟩
        have hS31 : ST w0 [] _ [⟨some ⟨b, 0, none⟩, 55, [.int .i64 0, .int .i64 0, .int .i64 0, .int .i64 0, .int .i64 0], 5⟩, ⟨some ⟨b1, 0, none⟩, 55, [.int .i64 A, .int .i64 B1, .int .i64 C, .int .i64 D, .int .i64 Exp], 5⟩, ⟨B6, 55, [.int .i64 r_4.Num.A, .int .i64 r_4.Num.B, .int .i64 r_4.Num.C, .int .i64 r_4.Num.D, .int .i64 r_4.Exp], 5⟩, ⟨some ⟨b6, 0, none⟩, 55, [.int .i64 r_6.Num.A, .int .i64 r_6.Num.B, .int .i64 r_6.Num.C, .int .i64 r_6.Num.D, .int .i64 r_6.Exp], 5⟩] [⟨B, (a.flatMap enc_Dyadic)⟩] := hS31
        refine sq 14 rfl rfl (Y_assign (v := .bool r_7) rfl rfl) ?_
        refine rw_nil ?_
        refine cw_seq ?_
        refine cw_seq ?_
        refine cw_region ?_
        refine sq 74 rfl rfl (Y_move (v := .bool r_3) rfl (hf4.get 9 4 rfl)) ?_
        refine sq 75 rfl rfl (Y_not (p := r_3) rfl rfl) ?_
        refine sq 76 rfl rfl (Y_move (v := .bool (!r_3)) rfl rfl) ?_
        refine sgq 77 (B := (!(!r_3))) (v := .bool r_5) rfl rfl (wt_f (gd_of (t := 76) (by kernel_rfl) rfl)) (fun hg => (Y_move (v := .bool r_5) rfl (hf4.get 11 6 rfl))) ?_
        refine sgq 78 (B := (!(!r_3))) (v := .bool (!r_5)) rfl rfl (wt_f (gd_of (t := 76) (by kernel_rfl) rfl)) (fun hg1 => (Y_not (p := r_5) rfl (gv_of (B := (!(!r_3))) (v := .bool r_5) hg1))) ?_
        refine sq 79 rfl rfl (Y_or (b := (!r_3)) (z := (!r_5)) rfl rfl rfl rfl) ?_
        refine sq 80 rfl rfl (Y_move (v := .bool ((!r_3) || (!r_5))) rfl rfl) ?_
        refine sgq 81 (B := (!((!r_3) || (!r_5)))) (v := .bool r_7) rfl rfl (wt_f (gd_of (t := 80) (by kernel_rfl) rfl)) (fun hg2 => (Y_move (v := .bool r_7) rfl rfl)) ?_
        refine sgq 82 (B := (!((!r_3) || (!r_5)))) (v := .bool (!r_7)) rfl rfl (wt_f (gd_of (t := 80) (by kernel_rfl) rfl)) (fun hg3 => (Y_not (p := r_7) rfl (gv_of (B := (!((!r_3) || (!r_5)))) (v := .bool r_7) hg3))) ?_
        refine sq 83 rfl rfl (Y_or (b := ((!r_3) || (!r_5))) (z := (!r_7)) rfl rfl rfl rfl) ?_
        refine rw_nil ?_
        refine cw_cond (b := (((!r_3) || (!r_5)) || (!r_7))) rfl (fun hb4 => ?_) (fun hb4 => ?_)
        · skip
          have hF7 := ct hF6 hb4
          refine cw_seq ?_
          refine cw_region ?_
          refine sq 84 rfl rfl (Y_buildS (zs := [.int .i64 0, .int .i64 0, .int .i64 0, .int .i64 0, .int .i64 0]) (vs := []) (cs := [.int .i64 0, .int .i64 0, .int .i64 0, .int .i64 0, .int .i64 0]) k_pl_55 k_zero_55 rfl mpn rfl) ?_
          refine ss0 rfl rfl (Ys_store (i := 0) (s := 5) (B := some ⟨b, 0, none⟩) (T' := 55) (v := .agg #[.int .i64 0, .int .i64 0, .int .i64 0, .int .i64 0, .int .i64 0]) (vs := [.int .i64 0, .int .i64 0, .int .i64 0, .int .i64 0, .int .i64 0]) (k := 0) (cs' := [.int .i64 0, .int .i64 0, .int .i64 0, .int .i64 0, .int .i64 0]) hS31 k_sz_55_5 rfl (hf4.get 2 1 rfl) rfl rfl rfl rfl rfl (Nat.le_of_ble_eq_true rfl) rfl rfl) ?_
          rintro _ w_21 ⟨rfl, hS32⟩
          have hS32 : ST w0 [] _ [⟨some ⟨b, 0, none⟩, 55, [.int .i64 0, .int .i64 0, .int .i64 0, .int .i64 0, .int .i64 0], 5⟩, ⟨some ⟨b1, 0, none⟩, 55, [.int .i64 A, .int .i64 B1, .int .i64 C, .int .i64 D, .int .i64 Exp], 5⟩, ⟨B6, 55, [.int .i64 r_4.Num.A, .int .i64 r_4.Num.B, .int .i64 r_4.Num.C, .int .i64 r_4.Num.D, .int .i64 r_4.Exp], 5⟩, ⟨some ⟨b6, 0, none⟩, 55, [.int .i64 r_6.Num.A, .int .i64 r_6.Num.B, .int .i64 r_6.Num.C, .int .i64 r_6.Num.D, .int .i64 r_6.Exp], 5⟩] [⟨B, (a.flatMap enc_Dyadic)⟩] := hS32
          refine sq 3 rfl rfl (Y_assign (v := .bool false) rfl rfl) ?_
          refine rw_nil ?_
          refine cw_ret ?_
          obtain rfl := some_inj hF7
          obtain rfl := some_inj hL1
          obtain ⟨rfl, rfl⟩ := pr2 (some_inj hF1)
          exact ret2 Try.results197 (v1 := .agg #[.int .i64 0, .int .i64 0, .int .i64 0, .int .i64 0, .int .i64 0]) (resAt_cellA (B := some ⟨b, 0, none⟩) (i := 0) (cs := [.int .i64 0, .int .i64 0, .int .i64 0, .int .i64 0, .int .i64 0]) (vs := [.int .i64 0, .int .i64 0, .int .i64 0, .int .i64 0, .int .i64 0]) (hf4.get 2 1 rfl) k_ag_55 k_sz_55_5 (hS32.cf (i := 0) rfl) rfl rfl) (v2 := .bool false) (resAt_tmp rfl) ⟨rfl, (ST.subR (R' := []) (hS32.sel [] rfl rfl) (fun _ h => by cases h))⟩
        · skip
          have hF8 := cf' hF6 hb4
          refine cw_skip ?_
          refine cw_region ?_
          refine sq 85 rfl rfl (Y_loadA (B := some ⟨b6, 0, none⟩) (i := 0) (cs := [.int .i64 r_6.Num.A, .int .i64 r_6.Num.B, .int .i64 r_6.Num.C, .int .i64 r_6.Num.D, .int .i64 r_6.Exp]) (vs := [.int .i64 r_6.Num.A, .int .i64 r_6.Num.B, .int .i64 r_6.Num.C, .int .i64 r_6.Num.D, .int .i64 r_6.Exp]) k_ag_55 k_sz_55_5 rfl rfl (hS31.cf (i := 3) rfl) rfl rfl) ?_
          refine ss0 rfl rfl (Ys_store (i := 1) (s := 5) (B := some ⟨b1, 0, none⟩) (T' := 55) (v := .agg #[.int .i64 r_6.Num.A, .int .i64 r_6.Num.B, .int .i64 r_6.Num.C, .int .i64 r_6.Num.D, .int .i64 r_6.Exp]) (vs := [.int .i64 r_6.Num.A, .int .i64 r_6.Num.B, .int .i64 r_6.Num.C, .int .i64 r_6.Num.D, .int .i64 r_6.Exp]) (k := 0) (cs' := [.int .i64 r_6.Num.A, .int .i64 r_6.Num.B, .int .i64 r_6.Num.C, .int .i64 r_6.Num.D, .int .i64 r_6.Exp]) hS31 k_sz_55_5 rfl (hf4.get 4 2 rfl) rfl rfl rfl rfl rfl (Nat.le_of_ble_eq_true rfl) rfl rfl) ?_
          rintro _ w_22 ⟨rfl, hS33⟩
          have hS33 : ST w0 [] _ [⟨some ⟨b, 0, none⟩, 55, [.int .i64 0, .int .i64 0, .int .i64 0, .int .i64 0, .int .i64 0], 5⟩, ⟨some ⟨b1, 0, none⟩, 55, [.int .i64 r_6.Num.A, .int .i64 r_6.Num.B, .int .i64 r_6.Num.C, .int .i64 r_6.Num.D, .int .i64 r_6.Exp], 5⟩, ⟨B6, 55, [.int .i64 r_4.Num.A, .int .i64 r_4.Num.B, .int .i64 r_4.Num.C, .int .i64 r_4.Num.D, .int .i64 r_4.Exp], 5⟩, ⟨some ⟨b6, 0, none⟩, 55, [.int .i64 r_6.Num.A, .int .i64 r_6.Num.B, .int .i64 r_6.Num.C, .int .i64 r_6.Num.D, .int .i64 r_6.Exp], 5⟩] [⟨B, (a.flatMap enc_Dyadic)⟩] := hS33
          refine rw_nil ?_
          refine cw_region ?_
          refine sq 86 rfl rfl (Y_add (k := .i64) (a := (i : Int)) (b := 1) rfl (hf4.get 16 7 rfl) rfl) ?_
          refine sq 16 rfl rfl (Y_move (v := .int .i64 (IntKind.i64.wrap ((i : Int) + 1))) rfl rfl) ?_
          refine rw_nil ?_
          obtain rfl := some_inj hF8
          exact ⟨k_1, Nat.lt_succ_self _, i + 1, r_6.Num.A, r_6.Num.B, r_6.Num.C, r_6.Num.D, r_6.Exp, (FF.cons (hf4.get 0 0 rfl) (FF.cons (hf4.get 2 1 rfl) (FF.cons (hf4.get 4 2 rfl) (FF.cons (congrArg (Value.int .i64) (wr_succ hlt1 (show 3 ≤ 9223372036854775807 by decide))) FF.nil)))), (hS33.sel [0, 1] rfl rfl), (by omega), hL1⟩
      · skip
        have hF9 := cf' hF2 hb3
        refine cw_skip ?_
        refine cw_seq ?_
        refine cw_region ?_
        refine sq 68 rfl rfl (Y_move (v := .func (.func 108) #[] #[]) rfl rfl) ?_
        refine sq 69 rfl rfl (Y_loadA (B := some ⟨b1, 0, none⟩) (i := 0) (cs := [.int .i64 A, .int .i64 B1, .int .i64 C, .int .i64 D, .int .i64 Exp]) (vs := [.int .i64 A, .int .i64 B1, .int .i64 C, .int .i64 D, .int .i64 Exp]) k_ag_55 k_sz_55_5 rfl (hf4.get 4 2 rfl) (hS21.cf (i := 1) rfl) rfl rfl) ?_
        refine sq 70 rfl rfl (Y_loadA (B := B6) (i := 0) (cs := [.int .i64 r_4.Num.A, .int .i64 r_4.Num.B, .int .i64 r_4.Num.C, .int .i64 r_4.Num.D, .int .i64 r_4.Exp]) (vs := [.int .i64 r_4.Num.A, .int .i64 r_4.Num.B, .int .i64 r_4.Num.C, .int .i64 r_4.Num.D, .int .i64 r_4.Exp]) k_ag_55 k_sz_55_5 rfl (hf4.get 10 5 rfl) (hS21.cf (i := 2) rfl) rfl rfl) ?_
        obtain ⟨⟨r_8, r_9⟩, hc3, hF9⟩ := bind_inv hF9
        refine sc 71 rfl rfl (Yc_clos (g := 108) (vs := [.agg #[.int .i64 A, .int .i64 B1, .int .i64 C, .int .i64 D, .int .i64 Exp], .agg #[.int .i64 r_4.Num.A, .int .i64 r_4.Num.B, .int .i64 r_4.Num.C, .int .i64 r_4.Num.D, .int .i64 r_4.Exp]]) k_call_108 rfl rfl (clo_args (mc rfl (mc rfl mn))) (c_impl_AddDyadic (TDyadic.mk (TRing.mk A B1 C D) Exp) r_4 _  (hS21.inn0 [] rfl) hc3)) ?_
        rintro _ w_23 ⟨rfl, hd5⟩
        have hS34 := hS21.out00 hd5
        have hS34 : ST w0 [] _ [⟨some ⟨b, 0, none⟩, 55, [.int .i64 0, .int .i64 0, .int .i64 0, .int .i64 0, .int .i64 0], 5⟩, ⟨some ⟨b1, 0, none⟩, 55, [.int .i64 A, .int .i64 B1, .int .i64 C, .int .i64 D, .int .i64 Exp], 5⟩, ⟨B6, 55, [.int .i64 r_4.Num.A, .int .i64 r_4.Num.B, .int .i64 r_4.Num.C, .int .i64 r_4.Num.D, .int .i64 r_4.Exp], 5⟩] [⟨B, (a.flatMap enc_Dyadic)⟩] := hS34
        refine sq 67 rfl rfl (Y_move (v := .tuple #[.agg #[.int .i64 r_8.Num.A, .int .i64 r_8.Num.B, .int .i64 r_8.Num.C, .int .i64 r_8.Num.D, .int .i64 r_8.Exp], .bool r_9]) rfl rfl) ?_
        refine sq 72 rfl rfl (Y_extract (v := .agg #[.int .i64 r_8.Num.A, .int .i64 r_8.Num.B, .int .i64 r_8.Num.C, .int .i64 r_8.Num.D, .int .i64 r_8.Exp]) rfl rfl rfl) ?_
        refine sq 73 rfl rfl (Y_extract (v := .bool r_9) rfl rfl rfl) ?_
        refine ss 13 rfl rfl (Ys_alloc (T := 55) (cs := [.int .i64 0, .int .i64 0, .int .i64 0, .int .i64 0, .int .i64 0]) (m := 5) hS34 k_zero_55 rfl rfl rfl) ?_
        rintro _ w_24 ⟨b7, rfl, hS35⟩
        have hS35 : ST w0 [] _ [⟨some ⟨b, 0, none⟩, 55, [.int .i64 0, .int .i64 0, .int .i64 0, .int .i64 0, .int .i64 0], 5⟩, ⟨some ⟨b1, 0, none⟩, 55, [.int .i64 A, .int .i64 B1, .int .i64 C, .int .i64 D, .int .i64 Exp], 5⟩, ⟨B6, 55, [.int .i64 r_4.Num.A, .int .i64 r_4.Num.B, .int .i64 r_4.Num.C, .int .i64 r_4.Num.D, .int .i64 r_4.Exp], 5⟩, ⟨some ⟨b7, 0, none⟩, 55, [.int .i64 0, .int .i64 0, .int .i64 0, .int .i64 0, .int .i64 0], 5⟩] [⟨B, (a.flatMap enc_Dyadic)⟩] := hS35
        refine ss0 rfl rfl (Ys_store (i := 3) (s := 5) (B := some ⟨b7, 0, none⟩) (T' := 55) (v := .agg #[.int .i64 r_8.Num.A, .int .i64 r_8.Num.B, .int .i64 r_8.Num.C, .int .i64 r_8.Num.D, .int .i64 r_8.Exp]) (vs := [.int .i64 r_8.Num.A, .int .i64 r_8.Num.B, .int .i64 r_8.Num.C, .int .i64 r_8.Num.D, .int .i64 r_8.Exp]) (k := 0) (cs' := [.int .i64 r_8.Num.A, .int .i64 r_8.Num.B, .int .i64 r_8.Num.C, .int .i64 r_8.Num.D, .int .i64 r_8.Exp]) hS35 k_sz_55_5 rfl rfl rfl rfl rfl rfl rfl (Nat.le_of_ble_eq_true rfl) rfl rfl) ?_
        rintro _ w_25 ⟨rfl, hS36⟩
        have hS36 : ST w0 [] _ [⟨some ⟨b, 0, none⟩, 55, [.int .i64 0, .int .i64 0, .int .i64 0, .int .i64 0, .int .i64 0], 5⟩, ⟨some ⟨b1, 0, none⟩, 55, [.int .i64 A, .int .i64 B1, .int .i64 C, .int .i64 D, .int .i64 Exp], 5⟩, ⟨B6, 55, [.int .i64 r_4.Num.A, .int .i64 r_4.Num.B, .int .i64 r_4.Num.C, .int .i64 r_4.Num.D, .int .i64 r_4.Exp], 5⟩, ⟨some ⟨b7, 0, none⟩, 55, [.int .i64 r_8.Num.A, .int .i64 r_8.Num.B, .int .i64 r_8.Num.C, .int .i64 r_8.Num.D, .int .i64 r_8.Exp], 5⟩] [⟨B, (a.flatMap enc_Dyadic)⟩] := hS36
        refine sq 14 rfl rfl (Y_assign (v := .bool r_9) rfl rfl) ?_
        refine rw_nil ?_
        refine cw_seq ?_
        refine cw_seq ?_
        refine cw_region ?_
        refine sq 74 rfl rfl (Y_move (v := .bool r_3) rfl (hf4.get 9 4 rfl)) ?_
        refine sq 75 rfl rfl (Y_not (p := r_3) rfl rfl) ?_
        refine sq 76 rfl rfl (Y_move (v := .bool (!r_3)) rfl rfl) ?_
        refine sgq 77 (B := (!(!r_3))) (v := .bool r_5) rfl rfl (wt_f (gd_of (t := 76) (by kernel_rfl) rfl)) (fun hg4 => (Y_move (v := .bool r_5) rfl (hf4.get 11 6 rfl))) ?_
        refine sgq 78 (B := (!(!r_3))) (v := .bool (!r_5)) rfl rfl (wt_f (gd_of (t := 76) (by kernel_rfl) rfl)) (fun hg5 => (Y_not (p := r_5) rfl (gv_of (B := (!(!r_3))) (v := .bool r_5) hg5))) ?_
        refine sq 79 rfl rfl (Y_or (b := (!r_3)) (z := (!r_5)) rfl rfl rfl rfl) ?_
        refine sq 80 rfl rfl (Y_move (v := .bool ((!r_3) || (!r_5))) rfl rfl) ?_
        refine sgq 81 (B := (!((!r_3) || (!r_5)))) (v := .bool r_9) rfl rfl (wt_f (gd_of (t := 80) (by kernel_rfl) rfl)) (fun hg6 => (Y_move (v := .bool r_9) rfl rfl)) ?_
        refine sgq 82 (B := (!((!r_3) || (!r_5)))) (v := .bool (!r_9)) rfl rfl (wt_f (gd_of (t := 80) (by kernel_rfl) rfl)) (fun hg7 => (Y_not (p := r_9) rfl (gv_of (B := (!((!r_3) || (!r_5)))) (v := .bool r_9) hg7))) ?_
        refine sq 83 rfl rfl (Y_or (b := ((!r_3) || (!r_5))) (z := (!r_9)) rfl rfl rfl rfl) ?_
        refine rw_nil ?_
        refine cw_cond (b := (((!r_3) || (!r_5)) || (!r_9))) rfl (fun hb5 => ?_) (fun hb5 => ?_)
        · skip
          have hF10 := ct hF9 hb5
          refine cw_seq ?_
          refine cw_region ?_
          refine sq 84 rfl rfl (Y_buildS (zs := [.int .i64 0, .int .i64 0, .int .i64 0, .int .i64 0, .int .i64 0]) (vs := []) (cs := [.int .i64 0, .int .i64 0, .int .i64 0, .int .i64 0, .int .i64 0]) k_pl_55 k_zero_55 rfl mpn rfl) ?_
          refine ss0 rfl rfl (Ys_store (i := 0) (s := 5) (B := some ⟨b, 0, none⟩) (T' := 55) (v := .agg #[.int .i64 0, .int .i64 0, .int .i64 0, .int .i64 0, .int .i64 0]) (vs := [.int .i64 0, .int .i64 0, .int .i64 0, .int .i64 0, .int .i64 0]) (k := 0) (cs' := [.int .i64 0, .int .i64 0, .int .i64 0, .int .i64 0, .int .i64 0]) hS36 k_sz_55_5 rfl (hf4.get 2 1 rfl) rfl rfl rfl rfl rfl (Nat.le_of_ble_eq_true rfl) rfl rfl) ?_
          rintro _ w_26 ⟨rfl, hS37⟩
          have hS37 : ST w0 [] _ [⟨some ⟨b, 0, none⟩, 55, [.int .i64 0, .int .i64 0, .int .i64 0, .int .i64 0, .int .i64 0], 5⟩, ⟨some ⟨b1, 0, none⟩, 55, [.int .i64 A, .int .i64 B1, .int .i64 C, .int .i64 D, .int .i64 Exp], 5⟩, ⟨B6, 55, [.int .i64 r_4.Num.A, .int .i64 r_4.Num.B, .int .i64 r_4.Num.C, .int .i64 r_4.Num.D, .int .i64 r_4.Exp], 5⟩, ⟨some ⟨b7, 0, none⟩, 55, [.int .i64 r_8.Num.A, .int .i64 r_8.Num.B, .int .i64 r_8.Num.C, .int .i64 r_8.Num.D, .int .i64 r_8.Exp], 5⟩] [⟨B, (a.flatMap enc_Dyadic)⟩] := hS37
          refine sq 3 rfl rfl (Y_assign (v := .bool false) rfl rfl) ?_
          refine rw_nil ?_
          refine cw_ret ?_
          obtain rfl := some_inj hF10
          obtain rfl := some_inj hL1
          obtain ⟨rfl, rfl⟩ := pr2 (some_inj hF1)
          exact ret2 Try.results197 (v1 := .agg #[.int .i64 0, .int .i64 0, .int .i64 0, .int .i64 0, .int .i64 0]) (resAt_cellA (B := some ⟨b, 0, none⟩) (i := 0) (cs := [.int .i64 0, .int .i64 0, .int .i64 0, .int .i64 0, .int .i64 0]) (vs := [.int .i64 0, .int .i64 0, .int .i64 0, .int .i64 0, .int .i64 0]) (hf4.get 2 1 rfl) k_ag_55 k_sz_55_5 (hS37.cf (i := 0) rfl) rfl rfl) (v2 := .bool false) (resAt_tmp rfl) ⟨rfl, (ST.subR (R' := []) (hS37.sel [] rfl rfl) (fun _ h => by cases h))⟩
        · skip
          have hF11 := cf' hF9 hb5
          refine cw_skip ?_
          refine cw_region ?_
          refine sq 85 rfl rfl (Y_loadA (B := some ⟨b7, 0, none⟩) (i := 0) (cs := [.int .i64 r_8.Num.A, .int .i64 r_8.Num.B, .int .i64 r_8.Num.C, .int .i64 r_8.Num.D, .int .i64 r_8.Exp]) (vs := [.int .i64 r_8.Num.A, .int .i64 r_8.Num.B, .int .i64 r_8.Num.C, .int .i64 r_8.Num.D, .int .i64 r_8.Exp]) k_ag_55 k_sz_55_5 rfl rfl (hS36.cf (i := 3) rfl) rfl rfl) ?_
          refine ss0 rfl rfl (Ys_store (i := 1) (s := 5) (B := some ⟨b1, 0, none⟩) (T' := 55) (v := .agg #[.int .i64 r_8.Num.A, .int .i64 r_8.Num.B, .int .i64 r_8.Num.C, .int .i64 r_8.Num.D, .int .i64 r_8.Exp]) (vs := [.int .i64 r_8.Num.A, .int .i64 r_8.Num.B, .int .i64 r_8.Num.C, .int .i64 r_8.Num.D, .int .i64 r_8.Exp]) (k := 0) (cs' := [.int .i64 r_8.Num.A, .int .i64 r_8.Num.B, .int .i64 r_8.Num.C, .int .i64 r_8.Num.D, .int .i64 r_8.Exp]) hS36 k_sz_55_5 rfl (hf4.get 4 2 rfl) rfl rfl rfl rfl rfl (Nat.le_of_ble_eq_true rfl) rfl rfl) ?_
          rintro _ w_27 ⟨rfl, hS38⟩
          have hS38 : ST w0 [] _ [⟨some ⟨b, 0, none⟩, 55, [.int .i64 0, .int .i64 0, .int .i64 0, .int .i64 0, .int .i64 0], 5⟩, ⟨some ⟨b1, 0, none⟩, 55, [.int .i64 r_8.Num.A, .int .i64 r_8.Num.B, .int .i64 r_8.Num.C, .int .i64 r_8.Num.D, .int .i64 r_8.Exp], 5⟩, ⟨B6, 55, [.int .i64 r_4.Num.A, .int .i64 r_4.Num.B, .int .i64 r_4.Num.C, .int .i64 r_4.Num.D, .int .i64 r_4.Exp], 5⟩, ⟨some ⟨b7, 0, none⟩, 55, [.int .i64 r_8.Num.A, .int .i64 r_8.Num.B, .int .i64 r_8.Num.C, .int .i64 r_8.Num.D, .int .i64 r_8.Exp], 5⟩] [⟨B, (a.flatMap enc_Dyadic)⟩] := hS38
          refine rw_nil ?_
          refine cw_region ?_
          refine sq 86 rfl rfl (Y_add (k := .i64) (a := (i : Int)) (b := 1) rfl (hf4.get 16 7 rfl) rfl) ?_
          refine sq 16 rfl rfl (Y_move (v := .int .i64 (IntKind.i64.wrap ((i : Int) + 1))) rfl rfl) ?_
          refine rw_nil ?_
          obtain rfl := some_inj hF11
          exact ⟨k_1, Nat.lt_succ_self _, i + 1, r_8.Num.A, r_8.Num.B, r_8.Num.C, r_8.Num.D, r_8.Exp, (FF.cons (hf4.get 0 0 rfl) (FF.cons (hf4.get 2 1 rfl) (FF.cons (hf4.get 4 2 rfl) (FF.cons (congrArg (Value.int .i64) (wr_succ hlt1 (show 3 ≤ 9223372036854775807 by decide))) FF.nil)))), (hS38.sel [0, 1] rfl rfl), (by omega), hL1⟩
  · skip
    obtain rfl : k_ = 0 := by have h := of_decide_eq_false hlt; omega
    refine cw_exit rfl ?_
    obtain rfl := some_inj hL
    refine cw_seq ?_
    refine cw_region ?_
    refine sq 87 rfl rfl (Y_loadA (B := some ⟨b1, 0, none⟩) (i := 0) (cs := [.int .i64 A, .int .i64 B1, .int .i64 C, .int .i64 D, .int .i64 Exp]) (vs := [.int .i64 A, .int .i64 B1, .int .i64 C, .int .i64 D, .int .i64 Exp]) k_ag_55 k_sz_55_5 rfl (hf.get 4 2 rfl) (hS4.cf (i := 1) rfl) rfl rfl) ?_
    refine ss0 rfl rfl (Ys_store (i := 0) (s := 5) (B := some ⟨b, 0, none⟩) (T' := 55) (v := .agg #[.int .i64 A, .int .i64 B1, .int .i64 C, .int .i64 D, .int .i64 Exp]) (vs := [.int .i64 A, .int .i64 B1, .int .i64 C, .int .i64 D, .int .i64 Exp]) (k := 0) (cs' := [.int .i64 A, .int .i64 B1, .int .i64 C, .int .i64 D, .int .i64 Exp]) hS4 k_sz_55_5 rfl (hf.get 2 1 rfl) rfl rfl rfl rfl rfl (Nat.le_of_ble_eq_true rfl) rfl rfl) ?_
    rintro _ w_28 ⟨rfl, hS39⟩
    have hS39 : ST w0 [] _ [⟨some ⟨b, 0, none⟩, 55, [.int .i64 A, .int .i64 B1, .int .i64 C, .int .i64 D, .int .i64 Exp], 5⟩, ⟨some ⟨b1, 0, none⟩, 55, [.int .i64 A, .int .i64 B1, .int .i64 C, .int .i64 D, .int .i64 Exp], 5⟩] [⟨B, (a.flatMap enc_Dyadic)⟩] := hS39
    refine sq 3 rfl rfl (Y_assign (v := .bool true) rfl rfl) ?_
    refine rw_nil ?_
    refine cw_ret ?_
    obtain ⟨rfl, rfl⟩ := pr2 (some_inj hF1)
    exact ret2 Try.results197 (v1 := .agg #[.int .i64 A, .int .i64 B1, .int .i64 C, .int .i64 D, .int .i64 Exp]) (resAt_cellA (B := some ⟨b, 0, none⟩) (i := 0) (cs := [.int .i64 A, .int .i64 B1, .int .i64 C, .int .i64 D, .int .i64 Exp]) (vs := [.int .i64 A, .int .i64 B1, .int .i64 C, .int .i64 D, .int .i64 Exp]) (hf.get 2 1 rfl) k_ag_55 k_sz_55_5 (hS39.cf (i := 0) rfl) rfl rfl) (v2 := .bool true) (resAt_tmp rfl) ⟨rfl, (ST.subR (R' := []) (hS39.sel [] rfl rfl) (fun _ h => by cases h))⟩

theorem c_impl_small (holds : Bool)  (w0 : World)  (hS : ST w0 [] w0 [] []) {r_ : Int} (hF : F_impl_small holds = some r_) :
    CV Try.prog 198 #[.bool holds] w0 (fun v w' => v = .int .i64 r_ ∧ ST w0 [] w' [] []) := by
  unfold F_impl_small at hF
  refine cv_of_cw 4 Try.func198 rfl Try.ntmps198 rfl ?_
  refine cw_seq ?_
  refine cw_region ?_
  refine sq 2 rfl rfl (Y_assign (v := .int .i64 0) rfl rfl) ?_
  refine rw_nil ?_
  refine cw_seq ?_
  refine cw_seq ?_
  refine cw_region ?_
  refine sq 3 rfl rfl (Y_move (v := .bool holds) rfl rfl) ?_
  refine rw_nil ?_
  refine cw_cond (b := holds) rfl (fun hb => ?_) (fun hb => ?_)
  · skip
    have hF1 := ct hF hb
    refine cw_seq ?_
    refine cw_region ?_
    refine sq 2 rfl rfl (Y_assign (v := .int .i64 1) rfl rfl) ?_
    refine rw_nil ?_
    refine cw_ret ?_
    obtain rfl := some_inj hF1
    exact ret1 Try.results198 (v1 := .int .i64 1) (resAt_tmp rfl) ⟨rfl, (ST.subR (R' := []) (hS.sel [] rfl rfl) (fun _ h => by cases h))⟩
  · skip
    have hF2 := cf' hF hb
    refine cw_skip ?_
    refine cw_seq ?_
    refine cw_region ?_
    refine sq 2 rfl rfl (Y_assign (v := .int .i64 0) rfl rfl) ?_
    refine rw_nil ?_
    refine cw_ret ?_
    obtain rfl := some_inj hF2
    exact ret1 Try.results198 (v1 := .int .i64 0) (resAt_tmp rfl) ⟨rfl, (ST.subR (R' := []) (hS.sel [] rfl rfl) (fun _ h => by cases h))⟩

theorem c_impl_IsValidBloch (b : TBloch) (B : Option Addr) (c n : Nat) (w0 : World) (hn : b.Cells.length = n) (hS : ST w0 [] w0 [] [⟨B, (b.Cells.flatMap enc_Dyadic)⟩]) {r_ : Bool} (hF : F_impl_IsValidBloch b = some r_) :
    CV Try.prog 85 #[.agg #[.slice B n c]] w0 (fun v w' => v = .bool r_ ∧ ST w0 [] w' [] []) := by
  subst hn
  unfold F_impl_IsValidBloch at hF
  refine cv_of_cw 59 Try.func85 rfl Try.ntmps85 rfl ?_
  refine cw_seq ?_
  refine cw_region ?_
  refine ss 1 rfl rfl (Ys_box (T := 30) (v := .agg #[.slice B b.Cells.length c]) (cs := [.slice B b.Cells.length c]) (m := 1) hS rfl rfl rfl rfl) ?_
  rintro _ w_ ⟨b1, rfl, hS1⟩
  refine sq 2 rfl rfl (Y_assign (v := .bool false) rfl rfl) ?_
  refine rw_nil ?_
  refine cw_seq ?_
  refine cw_seq ?_
  refine cw_region ?_
  refine sq 9 rfl rfl (Y_fieldAddr (B := some ⟨b1, 0, none⟩) (i := 0) (s := 0) k_fd_30_0_0_28 k_sz_28_1 rfl rfl) ?_
  refine sq 10 rfl rfl (Y_load1 (B := some ⟨b1, 0, none⟩) (i := 0) (cs := [.slice B b.Cells.length c]) (v := .slice B b.Cells.length c) k_sc_28 rfl rfl (hS1.cf (i := 0) rfl) rfl) ?_
  refine sq 11 rfl rfl (Y_len (B := B) (m := b.Cells.length) (c := c) k_sl_28_55 rfl rfl) ?_
  refine sq 12 rfl rfl (Y_ne (k := .i64) (a := (b.Cells.length : Int)) (b := 9) rfl rfl rfl) ?_
  refine sq 13 rfl rfl (Y_move (v := .bool ((b.Cells.length : Int) != 9)) rfl rfl) ?_
  refine sgq 14 (B := (!((b.Cells.length : Int) != 9))) (v := pt (some ⟨b1, 0, none⟩) 0) rfl rfl (wt_f (gd_of (t := 13) (by kernel_rfl) rfl)) (fun hg => (Y_fieldAddr (B := some ⟨b1, 0, none⟩) (i := 0) (s := 0) k_fd_30_0_0_28 k_sz_28_1 rfl rfl)) ?_
  refine sgq 15 (B := (!((b.Cells.length : Int) != 9))) (v := .slice B b.Cells.length c) rfl rfl (wt_f (gd_of (t := 13) (by kernel_rfl) rfl)) (fun hg1 => (Y_load1 (B := some ⟨b1, 0, none⟩) (i := 0) (cs := [.slice B b.Cells.length c]) (v := .slice B b.Cells.length c) k_sc_28 rfl (gv_of (B := (!((b.Cells.length : Int) != 9))) (v := pt (some ⟨b1, 0, none⟩) 0) hg1) (hS1.cf (i := 0) rfl) rfl)) ?_
  obtain ⟨r_1, hc, hF⟩ := bind_inv hF
  refine sgc 16 (B := (!((b.Cells.length : Int) != 9))) (v := .bool r_1) (F := hS1.fn) rfl rfl (wt_f (gd_of (t := 13) (by kernel_rfl) rfl)) hS1 (fun hg2 => (Yc_func (g := 192) (vs := [.slice B b.Cells.length c, .func (.func 193) #[] #[]]) k_call_192 rfl (mc (gv_of (B := (!((b.Cells.length : Int) != 9))) (v := .slice B b.Cells.length c) hg2) (mc rfl mn)) (CV.mono (c_slices_ContainsFunc_impl_Dyadic_impl_Dyadic b.Cells F_impl_IsValidBloch_1 B c b.Cells.length 193 (#[]) [] _ rfl k_call_193 (fun w hw x_0 y_0 h_ => c_impl_IsValidBloch_1 x_0  w  hw h_) (hS1.inn0 [(true, 0)] rfl) (gb_inv hc hg2)) (by rintro _ _ ⟨rfl, h⟩; exact ⟨rfl, hS1.out00 h⟩)))) ?_
  rintro w_1 hS2
  have hS2 : ST _ _ w_1 _ _ := hS2
  refine sq 17 rfl rfl (Y_or (b := ((b.Cells.length : Int) != 9)) (z := r_1) rfl rfl rfl rfl) ?_
  refine rw_nil ?_
  refine cw_cond (b := (((b.Cells.length : Int) != 9) || r_1)) rfl (fun hb => ?_) (fun hb => ?_)
  · skip
    have hF1 := ct hF hb
    refine cw_seq ?_
    refine cw_region ?_
    refine sq 2 rfl rfl (Y_assign (v := .bool false) rfl rfl) ?_
    refine rw_nil ?_
    refine cw_ret ?_
    obtain rfl := some_inj hF1
    exact ret1 Try.results85 (v1 := .bool false) (resAt_tmp rfl) ⟨rfl, (ST.subR (R' := []) (hS2.sel [] rfl rfl) (fun _ h => by cases h))⟩
  · skip
    have hF2 := cf' hF hb
    refine cw_skip ?_
    refine cw_seq ?_
    obtain ⟨r_2, hc1, hF2⟩ := bind_inv hF2
    obtain ⟨⟨r_3, r_4⟩, hc2, hF2⟩ := bind_inv hF2
    refine ra_start (ST.sel hS2 [0] rfl rfl).fn (by kernel_rfl) ?_
    have hS5 := hS2.drew
    refine ra_q 0 19 (v := pt (some ⟨b1, 0, none⟩) 0) rfl rfl rfl (by kernel_rfl) (by kernel_rfl) (by kernel_rfl) (ST.sel hS5 [0] rfl rfl) (fun w' hw' => (Y_fieldAddr (B := some ⟨b1, 0, none⟩) (i := 0) (s := 0) k_fd_30_0_0_28 k_sz_28_1 rfl rfl)) ?_
    refine ra_q 1 20 (v := .slice B b.Cells.length c) rfl rfl rfl (by kernel_rfl) (by kernel_rfl) (by kernel_rfl) (ST.sel hS5 [0] rfl rfl) (fun w' hw' => (Y_load1 (B := some ⟨b1, 0, none⟩) (i := 0) (cs := [.slice B b.Cells.length c]) (v := .slice B b.Cells.length c) k_sc_28 rfl rfl (ST.cf hw' (i := 0) rfl) rfl)) ?_
    refine ra_q 2 21 (v := pt (some ⟨b1, 0, none⟩) 0) rfl rfl rfl (by kernel_rfl) (by kernel_rfl) (by kernel_rfl) (ST.sel hS5 [0] rfl rfl) (fun w' hw' => (Y_fieldAddr (B := some ⟨b1, 0, none⟩) (i := 0) (s := 0) k_fd_30_0_0_28 k_sz_28_1 rfl rfl)) ?_
    refine ra_q 3 22 (v := .slice B b.Cells.length c) rfl rfl rfl (by kernel_rfl) (by kernel_rfl) (by kernel_rfl) (ST.sel hS5 [0] rfl rfl) (fun w' hw' => (Y_load1 (B := some ⟨b1, 0, none⟩) (i := 0) (cs := [.slice B b.Cells.length c]) (v := .slice B b.Cells.length c) k_sc_28 rfl rfl (ST.cf hw' (i := 0) rfl) rfl)) ?_
    refine ra_all (rs := [4]) (by kernel_rfl) rfl ?_
    refine ra_c 23 (i := 4) rfl rfl rfl (Yc_func (g := 196) (vs := [.slice B b.Cells.length c]) k_call_196 rfl (mc rfl mn) (c_impl_transposed b.Cells B c b.Cells.length _ rfl (hS5.inn0 [(true, 0)] rfl) hc1)) ?_ ?_
    · rintro _ w_2 ⟨B1, c1, rfl, hd⟩
      have hS6 := hS5.out0 hd
      have hS6 : ST w0 [] _ [⟨some ⟨b1, 0, none⟩, 30, [.slice B b.Cells.length c], 1⟩, ⟨B1, 55, (r_2.flatMap enc_Dyadic), c1 * 5⟩] [⟨B, (b.Cells.flatMap enc_Dyadic)⟩] := hS6
      refine ⟨(ST.sel hS6 [0] rfl rfl), ?_⟩
      refine ra_all (rs := [5]) (by kernel_rfl) rfl ?_
      refine ra_c 24 (i := 5) rfl rfl rfl (Yc_func (g := 195) (vs := [.slice B b.Cells.length c, .slice B1 r_2.length c1]) k_call_195 rfl (mc rfl (mc rfl mn)) (c_impl_mulBloch b.Cells r_2 B c b.Cells.length B1 c1 r_2.length _ rfl rfl (hS6.inn0 [(true, 0), (false, 1)] rfl) hc2)) ?_ ?_
      · rintro _ w_3 ⟨B2, c2, rfl, hd1⟩
        have hS7 := hS6.out0 hd1
        have hS7 : ST w0 [] _ [⟨some ⟨b1, 0, none⟩, 30, [.slice B b.Cells.length c], 1⟩, ⟨B1, 55, (r_2.flatMap enc_Dyadic), c1 * 5⟩, ⟨B2, 55, (r_3.flatMap enc_Dyadic), c2 * 5⟩] [⟨B, (b.Cells.flatMap enc_Dyadic)⟩] := hS7
        refine ⟨(ST.sel hS7 [0] rfl rfl), ?_⟩
        refine ra_q 6 18 (v := .tuple #[.slice B2 r_3.length c2, .bool r_4]) rfl rfl rfl (by kernel_rfl) (by kernel_rfl) (by kernel_rfl) (ST.sel hS7 [0] rfl rfl) (fun w' hw' => (Y_move (v := .tuple #[.slice B2 r_3.length c2, .bool r_4]) rfl rfl)) ?_
        refine ra_q 7 25 (v := .slice B2 r_3.length c2) rfl rfl rfl (by kernel_rfl) (by kernel_rfl) (by kernel_rfl) (ST.sel hS7 [0] rfl rfl) (fun w' hw' => (Y_extract (v := .slice B2 r_3.length c2) rfl rfl rfl)) ?_
        refine ra_q 8 26 (v := .bool r_4) rfl rfl rfl (by kernel_rfl) (by kernel_rfl) (by kernel_rfl) (ST.sel hS7 [0] rfl rfl) (fun w' hw' => (Y_extract (v := .bool r_4) rfl rfl rfl)) ?_
        refine ra_q 9 3 (v := .slice B2 r_3.length c2) rfl rfl rfl (by kernel_rfl) (by kernel_rfl) (by kernel_rfl) (ST.sel hS7 [0] rfl rfl) (fun w' hw' => (Y_assign (v := .slice B2 r_3.length c2) rfl rfl)) ?_
        refine ra_q 10 4 (v := .bool r_4) rfl rfl rfl (by kernel_rfl) (by kernel_rfl) (by kernel_rfl) (ST.sel hS7 [0] rfl rfl) (fun w' hw' => (Y_assign (v := .bool r_4) rfl rfl)) ?_
        refine ra_done (by kernel_rfl) ?_
        refine cw_seq ?_
        refine cw_region ?_
        refine sq 28 rfl rfl (Y_fieldAddr (B := some ⟨b1, 0, none⟩) (i := 0) (s := 0) k_fd_30_0_0_28 k_sz_28_1 rfl rfl) ?_
        refine sq 29 rfl rfl (Y_load1 (B := some ⟨b1, 0, none⟩) (i := 0) (cs := [.slice B b.Cells.length c]) (v := .slice B b.Cells.length c) k_sc_28 rfl rfl (hS7.cf (i := 0) rfl) rfl) ?_
        obtain ⟨⟨r_5, r_6⟩, hc3, hF2⟩ := bind_inv hF2
        refine sc 30 rfl rfl (Yc_func (g := 197) (vs := [.slice B b.Cells.length c]) k_call_197 rfl (mc rfl mn) (c_impl_determinant b.Cells B c b.Cells.length _ rfl (hS7.inn0 [(true, 0)] rfl) hc3)) ?_
        rintro _ w_4 ⟨rfl, hd2⟩
        have hS8 := hS7.out00 hd2
        have hS8 : ST w0 [] _ [⟨some ⟨b1, 0, none⟩, 30, [.slice B b.Cells.length c], 1⟩, ⟨B1, 55, (r_2.flatMap enc_Dyadic), c1 * 5⟩, ⟨B2, 55, (r_3.flatMap enc_Dyadic), c2 * 5⟩] [⟨B, (b.Cells.flatMap enc_Dyadic)⟩] := hS8
        refine sq 27 rfl rfl (Y_move (v := .tuple #[.agg #[.int .i64 r_5.Num.A, .int .i64 r_5.Num.B, .int .i64 r_5.Num.C, .int .i64 r_5.Num.D, .int .i64 r_5.Exp], .bool r_6]) rfl rfl) ?_
        refine sq 31 rfl rfl (Y_extract (v := .agg #[.int .i64 r_5.Num.A, .int .i64 r_5.Num.B, .int .i64 r_5.Num.C, .int .i64 r_5.Num.D, .int .i64 r_5.Exp]) rfl rfl rfl) ?_
        refine sq 32 rfl rfl (Y_extract (v := .bool r_6) rfl rfl rfl) ?_
        refine ss 5 rfl rfl (Ys_alloc (T := 55) (cs := [.int .i64 0, .int .i64 0, .int .i64 0, .int .i64 0, .int .i64 0]) (m := 5) hS8 k_zero_55 rfl rfl rfl) ?_
        rintro _ w_5 ⟨b2, rfl, hS9⟩
        have hS9 : ST w0 [] _ [⟨some ⟨b1, 0, none⟩, 30, [.slice B b.Cells.length c], 1⟩, ⟨B1, 55, (r_2.flatMap enc_Dyadic), c1 * 5⟩, ⟨B2, 55, (r_3.flatMap enc_Dyadic), c2 * 5⟩, ⟨some ⟨b2, 0, none⟩, 55, [.int .i64 0, .int .i64 0, .int .i64 0, .int .i64 0, .int .i64 0], 5⟩] [⟨B, (b.Cells.flatMap enc_Dyadic)⟩] := hS9
        refine ss0 rfl rfl (Ys_store (i := 3) (s := 5) (B := some ⟨b2, 0, none⟩) (T' := 55) (v := .agg #[.int .i64 r_5.Num.A, .int .i64 r_5.Num.B, .int .i64 r_5.Num.C, .int .i64 r_5.Num.D, .int .i64 r_5.Exp]) (vs := [.int .i64 r_5.Num.A, .int .i64 r_5.Num.B, .int .i64 r_5.Num.C, .int .i64 r_5.Num.D, .int .i64 r_5.Exp]) (k := 0) (cs' := [.int .i64 r_5.Num.A, .int .i64 r_5.Num.B, .int .i64 r_5.Num.C, .int .i64 r_5.Num.D, .int .i64 r_5.Exp]) hS9 k_sz_55_5 rfl rfl rfl rfl rfl rfl rfl (Nat.le_of_ble_eq_true rfl) rfl rfl) ?_
        rintro _ w_6 ⟨rfl, hS10⟩
        have hS10 : ST w0 [] _ [⟨some ⟨b1, 0, none⟩, 30, [.slice B b.Cells.length c], 1⟩, ⟨B1, 55, (r_2.flatMap enc_Dyadic), c1 * 5⟩, ⟨B2, 55, (r_3.flatMap enc_Dyadic), c2 * 5⟩, ⟨some ⟨b2, 0, none⟩, 55, [.int .i64 r_5.Num.A, .int .i64 r_5.Num.B, .int .i64 r_5.Num.C, .int .i64 r_5.Num.D, .int .i64 r_5.Exp], 5⟩] [⟨B, (b.Cells.flatMap enc_Dyadic)⟩] := hS10
        refine sq 6 rfl rfl (Y_assign (v := .bool r_6) rfl rfl) ?_
        refine rw_nil ?_
        refine cw_seq ?_
        refine cw_seq ?_
        obtain ⟨r_7, hc4, hF2⟩ := bind_inv hF2
        refine ra_start (ST.sel hS10 [0, 1, 2, 3] rfl rfl).fn (by kernel_rfl) ?_
        have hS12 := hS10.drew
        refine ra_q 0 33 (v := .bool r_4) rfl rfl rfl (by kernel_rfl) (by kernel_rfl) (by kernel_rfl) (ST.sel hS12 [0, 1, 2, 3] rfl rfl) (fun w' hw' => (Y_move (v := .bool r_4) rfl rfl)) ?_
        refine ra_q 1 34 (v := .bool (!r_4)) rfl rfl rfl (by kernel_rfl) (by kernel_rfl) (by kernel_rfl) (ST.sel hS12 [0, 1, 2, 3] rfl rfl) (fun w' hw' => (Y_not (p := r_4) rfl rfl)) ?_
        refine ra_q 2 35 (v := .bool (!r_4)) rfl rfl rfl (by kernel_rfl) (by kernel_rfl) (by kernel_rfl) (ST.sel hS12 [0, 1, 2, 3] rfl rfl) (fun w' hw' => (Y_move (v := .bool (!r_4)) rfl rfl)) ?_
        refine ra_gq 3 36 (B := (!(!r_4))) (v := .bool r_6) rfl rfl rfl (wt_f (gd_of (t := 35) (by kernel_rfl) rfl)) (by kernel_rfl) (by kernel_rfl) (by kernel_rfl) (ST.sel hS12 [0, 1, 2, 3] rfl rfl) (fun hg3 w' hw' => (Y_move (v := .bool r_6) rfl rfl)) ?_
        refine ra_gq 4 37 (B := (!(!r_4))) (v := .bool (!r_6)) rfl rfl rfl (wt_f (gd_of (t := 35) (by kernel_rfl) rfl)) (by kernel_rfl) (by kernel_rfl) (by kernel_rfl) (ST.sel hS12 [0, 1, 2, 3] rfl rfl) (fun hg4 w' hw' => (Y_not (p := r_6) rfl (gv_of (B := (!(!r_4))) (v := .bool r_6) hg4))) ?_
        refine ra_q 5 38 (v := .bool ((!r_4) || (!r_6))) rfl rfl rfl (by kernel_rfl) (by kernel_rfl) (by kernel_rfl) (ST.sel hS12 [0, 1, 2, 3] rfl rfl) (fun w' hw' => (Y_or (b := (!r_4)) (z := (!r_6)) rfl rfl rfl rfl)) ?_
        refine ra_q 6 39 (v := .bool ((!r_4) || (!r_6))) rfl rfl rfl (by kernel_rfl) (by kernel_rfl) (by kernel_rfl) (ST.sel hS12 [0, 1, 2, 3] rfl rfl) (fun w' hw' => (Y_move (v := .bool ((!r_4) || (!r_6))) rfl rfl)) ?_
        refine ra_gq 7 40 (B := (!((!r_4) || (!r_6)))) (v := .agg #[.int .i64 r_5.Num.A, .int .i64 r_5.Num.B, .int .i64 r_5.Num.C, .int .i64 r_5.Num.D, .int .i64 r_5.Exp]) rfl rfl rfl (wt_f (gd_of (t := 39) (by kernel_rfl) rfl)) (by kernel_rfl) (by kernel_rfl) (by kernel_rfl) (ST.sel hS12 [0, 1, 2, 3] rfl rfl) (fun hg5 w' hw' => (Y_loadA (B := some ⟨b2, 0, none⟩) (i := 0) (cs := [.int .i64 r_5.Num.A, .int .i64 r_5.Num.B, .int .i64 r_5.Num.C, .int .i64 r_5.Num.D, .int .i64 r_5.Exp]) (vs := [.int .i64 r_5.Num.A, .int .i64 r_5.Num.B, .int .i64 r_5.Num.C, .int .i64 r_5.Num.D, .int .i64 r_5.Exp]) k_ag_55 k_sz_55_5 rfl rfl (ST.cf hw' (i := 3) rfl) rfl rfl)) ?_
        refine ra_all (rs := [8]) (by kernel_rfl) rfl ?_
        refine ra_gc 41 (i := 8) (B := (!((!r_4) || (!r_6)))) (v := .agg #[.int .i64 r_7.Num.A, .int .i64 r_7.Num.B, .int .i64 r_7.Num.C, .int .i64 r_7.Num.D, .int .i64 r_7.Exp]) (F := hS12.fn) rfl rfl rfl (wt_f (gd_of (t := 39) (by kernel_rfl) rfl)) hS12 (fun hg6 => (Yc_func (g := 115) (vs := [.int .i64 1]) k_call_115 rfl (mc rfl mn) (CV.mono (c_impl_whole 1 _  (hS12.inn0 [] rfl) (gb_inv hc4 hg6)) (by rintro _ _ ⟨rfl, h⟩; exact ⟨rfl, hS12.out00 h⟩)))) ?_ ?_
        · rintro w_7 hS13
          have hS13 : ST _ _ w_7 _ _ := hS13
          refine ⟨(ST.sel hS13 [0, 1, 2, 3] rfl rfl), ?_⟩
          refine ra_gq 9 42 (B := (!((!r_4) || (!r_6)))) (v := .bool (!(((r_5.Num.A == r_7.Num.A) && ((r_5.Num.B == r_7.Num.B) && ((r_5.Num.C == r_7.Num.C) && ((r_5.Num.D == r_7.Num.D) && true)))) && ((r_5.Exp == r_7.Exp) && true)))) rfl rfl rfl (wt_f (gd_of (t := 39) (by kernel_rfl) rfl)) (by kernel_rfl) (by kernel_rfl) (by kernel_rfl) (ST.sel hS13 [0, 1, 2, 3] rfl rfl) (fun hg7 w' hw' => (Y_neA (xs := #[.int .i64 r_5.Num.A, .int .i64 r_5.Num.B, .int .i64 r_5.Num.C, .int .i64 r_5.Num.D, .int .i64 r_5.Exp]) (ys := #[.int .i64 r_7.Num.A, .int .i64 r_7.Num.B, .int .i64 r_7.Num.C, .int .i64 r_7.Num.D, .int .i64 r_7.Exp]) (b := (((r_5.Num.A == r_7.Num.A) && ((r_5.Num.B == r_7.Num.B) && ((r_5.Num.C == r_7.Num.C) && ((r_5.Num.D == r_7.Num.D) && true)))) && ((r_5.Exp == r_7.Exp) && true))) k_eg_55 rfl (gv_of (B := (!((!r_4) || (!r_6)))) (v := .agg #[.int .i64 r_5.Num.A, .int .i64 r_5.Num.B, .int .i64 r_5.Num.C, .int .i64 r_5.Num.D, .int .i64 r_5.Exp]) hg7) (gv_of (B := (!((!r_4) || (!r_6)))) (v := .agg #[.int .i64 r_7.Num.A, .int .i64 r_7.Num.B, .int .i64 r_7.Num.C, .int .i64 r_7.Num.D, .int .i64 r_7.Exp]) hg7) (eqr_struct (xs := [.int .i64 r_5.Num.A, .int .i64 r_5.Num.B, .int .i64 r_5.Num.C, .int .i64 r_5.Num.D, .int .i64 r_5.Exp]) (ys := [.int .i64 r_7.Num.A, .int .i64 r_7.Num.B, .int .i64 r_7.Num.C, .int .i64 r_7.Num.D, .int .i64 r_7.Exp]) k_st_55 k_ho_55 (pts_ag (us := [.int .i64 r_5.Num.A, .int .i64 r_5.Num.B, .int .i64 r_5.Num.C, .int .i64 r_5.Num.D]) (vs := [.int .i64 r_7.Num.A, .int .i64 r_7.Num.B, .int .i64 r_7.Num.C, .int .i64 r_7.Num.D]) k_ag_53 k_sz_53_4 rfl rfl (eqr_struct (xs := [.int .i64 r_5.Num.A, .int .i64 r_5.Num.B, .int .i64 r_5.Num.C, .int .i64 r_5.Num.D]) (ys := [.int .i64 r_7.Num.A, .int .i64 r_7.Num.B, .int .i64 r_7.Num.C, .int .i64 r_7.Num.D]) k_st_53 k_ho_53 (pts_sc k_sc_3 rfl rfl (eqr_int k_int_3_i64) (pts_sc k_sc_3 rfl rfl (eqr_int k_int_3_i64) (pts_sc k_sc_3 rfl rfl (eqr_int k_int_3_i64) (pts_sc k_sc_3 rfl rfl (eqr_int k_int_3_i64) pts_nil))))) (pts_sc k_sc_3 rfl rfl (eqr_int k_int_3_i64) pts_nil))))) ?_
          refine ra_q 10 43 (v := .bool (((!r_4) || (!r_6)) || (!(((r_5.Num.A == r_7.Num.A) && ((r_5.Num.B == r_7.Num.B) && ((r_5.Num.C == r_7.Num.C) && ((r_5.Num.D == r_7.Num.D) && true)))) && ((r_5.Exp == r_7.Exp) && true))))) rfl rfl rfl (by kernel_rfl) (by kernel_rfl) (by kernel_rfl) (ST.sel hS13 [0, 1, 2, 3] rfl rfl) (fun w' hw' => (Y_or (b := ((!r_4) || (!r_6))) (z := (!(((r_5.Num.A == r_7.Num.A) && ((r_5.Num.B == r_7.Num.B) && ((r_5.Num.C == r_7.Num.C) && ((r_5.Num.D == r_7.Num.D) && true)))) && ((r_5.Exp == r_7.Exp) && true)))) rfl rfl rfl rfl)) ?_
          refine ra_done (by kernel_rfl) ?_
          refine cw_cond (b := (((!r_4) || (!r_6)) || (!(((r_5.Num.A == r_7.Num.A) && ((r_5.Num.B == r_7.Num.B) && ((r_5.Num.C == r_7.Num.C) && ((r_5.Num.D == r_7.Num.D) && true)))) && ((r_5.Exp == r_7.Exp) && true))))) rfl (fun hb1 => ?_) (fun hb1 => ?_)
          · skip
            have hF3 := ct hF2 hb1
            refine cw_seq ?_
            refine cw_region ?_
            refine sq 2 rfl rfl (Y_assign (v := .bool false) rfl rfl) ?_
            refine rw_nil ?_
            refine cw_ret ?_
            obtain rfl := some_inj hF3
            exact ret1 Try.results85 (v1 := .bool false) (resAt_tmp rfl) ⟨rfl, (ST.subR (R' := []) (hS13.sel [] rfl rfl) (fun _ h => by cases h))⟩
          · skip
            have hF4 := cf' hF2 hb1
            refine cw_skip ?_
            refine cw_seq ?_
            refine cw_seq ?_
            refine cw_region ?_
            refine sq 44 rfl rfl (Y_move (v := .slice B2 r_3.length c2) rfl rfl) ?_
            refine sq 45 rfl rfl (Y_len (B := B2) (m := r_3.length) (c := c2) k_sl_28_55 rfl rfl) ?_
            refine sq 46 rfl rfl (Y_move (v := .int .i64 0) rfl rfl) ?_
            refine rw_nil ?_
            obtain ⟨hN, hF4⟩ := chk_inv hF4
            obtain ⟨z, hz, hF5⟩ := bind_inv hF4
            refine cw_block ?_
            refine cw_loop (fun k f w => ∃ (i : Nat), FF f [(44, .slice B2 r_3.length c2), (45, .int .i64 (r_3.length : Int)), (46, .int .i64 (i : Int))] ∧ ST w0 [] w [⟨B2, 55, (r_3.flatMap enc_Dyadic), c2 * 5⟩] [⟨B, (b.Cells.flatMap enc_Dyadic)⟩] ∧ i + k = r_3.length ∧ forX (F_impl_IsValidBloch_l1 r_3) k i () = some z) r_3.length ⟨0, (FF.cons rfl (FF.cons rfl (FF.cons rfl FF.nil))), (hS13.sel [2] rfl rfl), Nat.zero_add _, hz⟩ ?_
            rintro k_ f w ⟨i, hf, hS14, hik, hL⟩
            refine cw_seq ?_
            refine cw_region ?_
            refine sq 47 rfl rfl (Y_lt (k := .i64) (a := (i : Int)) (b := (r_3.length : Int)) rfl (hf.get 46 2 rfl) (hf.get 45 1 rfl)) ?_
            refine rw_nil ?_
            refine cw_seq ?_
            refine cw_cond (b := (decide ((i : Int) < (r_3.length : Int)))) rfl (fun hlt => ?_) (fun hlt => ?_)
            · skip
              have hlt1 : i < r_3.length := by have h := of_decide_eq_true hlt; omega
              obtain ⟨k_1, rfl⟩ : ∃ k2, k_ = k2 + 1 := ⟨k_ - 1, by omega⟩
              obtain ⟨y, hb2, hL1⟩ := forX_go hL
              unfold F_impl_IsValidBloch_l1 at hb2
              refine cw_skip ?_
              refine cw_seq ?_
              refine cw_block ?_
              refine cw_seq ?_
              refine cw_region ?_
              refine sq 48 rfl rfl (Y_move (v := .int .i64 (i : Int)) rfl (hf.get 46 2 rfl)) ?_
              obtain ⟨x, hx, hb2⟩ := bind_inv hb2
              refine sq 49 rfl rfl (Y_index (B := B2) (m := r_3.length) (c := c2) (k := .i64) (i := (i : Int)) k_sl_28_55 k_sz_55_5 rfl (hf.get 44 0 rfl) (hf.get 46 2 rfl) (gi_isSome enc_Dyadic_len rfl (hS14.cf (i := 0) rfl) hx) (getI_nn hx) (getI_ltI hx rfl)) ?_
              refine sq 50 rfl rfl (Y_loadA (B := B2) (i := (i : Int).toNat * 5) (cs := (r_3.flatMap enc_Dyadic)) (vs := [.int .i64 x.Num.A, .int .i64 x.Num.B, .int .i64 x.Num.C, .int .i64 x.Num.D, .int .i64 x.Exp]) k_ag_55 k_sz_55_5 rfl rfl (hS14.cf (i := 0) rfl) (enc_Dyadic_len x) (gi_seg enc_Dyadic_len hx)) ?_
              refine ss 8 rfl rfl (Ys_alloc (T := 55) (cs := [.int .i64 0, .int .i64 0, .int .i64 0, .int .i64 0, .int .i64 0]) (m := 5) hS14 k_zero_55 rfl rfl rfl) ?_
              rintro _ w_8 ⟨b3, rfl, hS15⟩
              have hS15 : ST w0 [] _ [⟨B2, 55, (r_3.flatMap enc_Dyadic), c2 * 5⟩, ⟨some ⟨b3, 0, none⟩, 55, [.int .i64 0, .int .i64 0, .int .i64 0, .int .i64 0, .int .i64 0], 5⟩] [⟨B, (b.Cells.flatMap enc_Dyadic)⟩] := hS15
              refine sq 7 rfl rfl (Y_assign (v := .int .i64 (i : Int)) rfl rfl) ?_
              refine ss0 rfl rfl (Ys_store (i := 1) (s := 5) (B := some ⟨b3, 0, none⟩) (T' := 55) (v := .agg #[.int .i64 x.Num.A, .int .i64 x.Num.B, .int .i64 x.Num.C, .int .i64 x.Num.D, .int .i64 x.Exp]) (vs := [.int .i64 x.Num.A, .int .i64 x.Num.B, .int .i64 x.Num.C, .int .i64 x.Num.D, .int .i64 x.Exp]) (k := 0) (cs' := [.int .i64 x.Num.A, .int .i64 x.Num.B, .int .i64 x.Num.C, .int .i64 x.Num.D, .int .i64 x.Exp]) hS15 k_sz_55_5 rfl rfl rfl rfl rfl rfl rfl (Nat.le_of_ble_eq_true rfl) rfl rfl) ?_
              rintro _ w_9 ⟨rfl, hS16⟩
              have hS16 : ST w0 [] _ [⟨B2, 55, (r_3.flatMap enc_Dyadic), c2 * 5⟩, ⟨some ⟨b3, 0, none⟩, 55, [.int .i64 x.Num.A, .int .i64 x.Num.B, .int .i64 x.Num.C, .int .i64 x.Num.D, .int .i64 x.Exp], 5⟩] [⟨B, (b.Cells.flatMap enc_Dyadic)⟩] := hS16
              refine rw_nil ?_
              refine cw_seq ?_
              obtain ⟨r_8, hc5, hb2⟩ := bind_inv hb2
              obtain ⟨r_9, hc6, hb2⟩ := bind_inv hb2
              refine ra_start (ST.sel hS16 [0, 1] rfl rfl).fn (by kernel_rfl) ?_
              have hS19 := hS16.drew
              refine ra_q 0 51 (v := .agg #[.int .i64 x.Num.A, .int .i64 x.Num.B, .int .i64 x.Num.C, .int .i64 x.Num.D, .int .i64 x.Exp]) rfl rfl rfl (by kernel_rfl) (by kernel_rfl) (by kernel_rfl) (ST.sel hS19 [0, 1] rfl rfl) (fun w' hw' => (Y_loadA (B := some ⟨b3, 0, none⟩) (i := 0) (cs := [.int .i64 x.Num.A, .int .i64 x.Num.B, .int .i64 x.Num.C, .int .i64 x.Num.D, .int .i64 x.Exp]) (vs := [.int .i64 x.Num.A, .int .i64 x.Num.B, .int .i64 x.Num.C, .int .i64 x.Num.D, .int .i64 x.Exp]) k_ag_55 k_sz_55_5 rfl rfl (ST.cf hw' (i := 1) rfl) rfl rfl)) ?_
              refine ra_q 1 52 (v := .int .i64 (i : Int)) rfl rfl rfl (by kernel_rfl) (by kernel_rfl) (by kernel_rfl) (ST.sel hS19 [0, 1] rfl rfl) (fun w' hw' => (Y_move (v := .int .i64 (i : Int)) rfl rfl)) ?_
              refine ra_q 2 53 (v := .int .i64 (Int.tmod (i : Int) 4)) rfl rfl rfl (by kernel_rfl) (by kernel_rfl) (by kernel_rfl) (ST.sel hS19 [0, 1] rfl rfl) (fun w' hw' => (Y_rem (k := .i64) (a := (i : Int)) (b := 4) rfl rfl rfl (by decide))) ?_
              refine ra_q 3 54 (v := .bool ((Int.tmod (i : Int) 4) == 0)) rfl rfl rfl (by kernel_rfl) (by kernel_rfl) (by kernel_rfl) (ST.sel hS19 [0, 1] rfl rfl) (fun w' hw' => (Y_eq (k := .i64) (a := (Int.tmod (i : Int) 4)) (b := 0) rfl rfl rfl)) ?_
              refine ra_all (rs := [4]) (by kernel_rfl) rfl ?_
              refine ra_c 55 (i := 4) rfl rfl rfl (Yc_func (g := 198) (vs := [.bool ((Int.tmod (i : Int) 4) == 0)]) k_call_198 rfl (mc rfl mn) (c_impl_small ((Int.tmod (i : Int) 4) == 0) _  (hS19.inn0 [] rfl) hc5)) ?_ ?_
              · rintro _ w_10 ⟨rfl, hd3⟩
                have hS20 := hS19.out00 hd3
                have hS20 : ST w0 [] _ [⟨B2, 55, (r_3.flatMap enc_Dyadic), c2 * 5⟩, ⟨some ⟨b3, 0, none⟩, 55, [.int .i64 x.Num.A, .int .i64 x.Num.B, .int .i64 x.Num.C, .int .i64 x.Num.D, .int .i64 x.Exp], 5⟩] [⟨B, (b.Cells.flatMap enc_Dyadic)⟩] := hS20
                refine ⟨(ST.sel hS20 [0, 1] rfl rfl), ?_⟩
                refine ra_all (rs := [5]) (by kernel_rfl) rfl ?_
                refine ra_c 56 (i := 5) rfl rfl rfl (Yc_func (g := 115) (vs := [.int .i64 r_8]) k_call_115 rfl (mc rfl mn) (c_impl_whole r_8 _  (hS20.inn0 [] rfl) hc6)) ?_ ?_
                · rintro _ w_11 ⟨rfl, hd4⟩
                  have hS21 := hS20.out00 hd4
                  have hS21 : ST w0 [] _ [⟨B2, 55, (r_3.flatMap enc_Dyadic), c2 * 5⟩, ⟨some ⟨b3, 0, none⟩, 55, [.int .i64 x.Num.A, .int .i64 x.Num.B, .int .i64 x.Num.C, .int .i64 x.Num.D, .int .i64 x.Exp], 5⟩] [⟨B, (b.Cells.flatMap enc_Dyadic)⟩] := hS21
                  refine ⟨(ST.sel hS21 [0, 1] rfl rfl), ?_⟩
                  refine ra_q 6 57 (v := .bool (!(((x.Num.A == r_9.Num.A) && ((x.Num.B == r_9.Num.B) && ((x.Num.C == r_9.Num.C) && ((x.Num.D == r_9.Num.D) && true)))) && ((x.Exp == r_9.Exp) && true)))) rfl rfl rfl (by kernel_rfl) (by kernel_rfl) (by kernel_rfl) (ST.sel hS21 [0, 1] rfl rfl) (fun w' hw' => (Y_neA (xs := #[.int .i64 x.Num.A, .int .i64 x.Num.B, .int .i64 x.Num.C, .int .i64 x.Num.D, .int .i64 x.Exp]) (ys := #[.int .i64 r_9.Num.A, .int .i64 r_9.Num.B, .int .i64 r_9.Num.C, .int .i64 r_9.Num.D, .int .i64 r_9.Exp]) (b := (((x.Num.A == r_9.Num.A) && ((x.Num.B == r_9.Num.B) && ((x.Num.C == r_9.Num.C) && ((x.Num.D == r_9.Num.D) && true)))) && ((x.Exp == r_9.Exp) && true))) k_eg_55 rfl rfl rfl (eqr_struct (xs := [.int .i64 x.Num.A, .int .i64 x.Num.B, .int .i64 x.Num.C, .int .i64 x.Num.D, .int .i64 x.Exp]) (ys := [.int .i64 r_9.Num.A, .int .i64 r_9.Num.B, .int .i64 r_9.Num.C, .int .i64 r_9.Num.D, .int .i64 r_9.Exp]) k_st_55 k_ho_55 (pts_ag (us := [.int .i64 x.Num.A, .int .i64 x.Num.B, .int .i64 x.Num.C, .int .i64 x.Num.D]) (vs := [.int .i64 r_9.Num.A, .int .i64 r_9.Num.B, .int .i64 r_9.Num.C, .int .i64 r_9.Num.D]) k_ag_53 k_sz_53_4 rfl rfl (eqr_struct (xs := [.int .i64 x.Num.A, .int .i64 x.Num.B, .int .i64 x.Num.C, .int .i64 x.Num.D]) (ys := [.int .i64 r_9.Num.A, .int .i64 r_9.Num.B, .int .i64 r_9.Num.C, .int .i64 r_9.Num.D]) k_st_53 k_ho_53 (pts_sc k_sc_3 rfl rfl (eqr_int k_int_3_i64) (pts_sc k_sc_3 rfl rfl (eqr_int k_int_3_i64) (pts_sc k_sc_3 rfl rfl (eqr_int k_int_3_i64) (pts_sc k_sc_3 rfl rfl (eqr_int k_int_3_i64) pts_nil))))) (pts_sc k_sc_3 rfl rfl (eqr_int k_int_3_i64) pts_nil))))) ?_
                  refine ra_done (by kernel_rfl) ?_
                  refine cw_cond (b := (!(((x.Num.A == r_9.Num.A) && ((x.Num.B == r_9.Num.B) && ((x.Num.C == r_9.Num.C) && ((x.Num.D == r_9.Num.D) && true)))) && ((x.Exp == r_9.Exp) && true)))) rfl (fun hb3 => ?_) (fun hb3 => ?_)
                  · skip
                    have hF6 := ct hb2 hb3
                    refine cw_seq ?_
                    refine cw_region ?_
                    refine sq 2 rfl rfl (Y_assign (v := .bool false) rfl rfl) ?_
                    refine rw_nil ?_
                    refine cw_ret ?_
                    obtain rfl := some_inj hF6
                    obtain rfl := some_inj hL1
                    obtain rfl := some_inj hF5
                    exact ret1 Try.results85 (v1 := .bool false) (resAt_tmp rfl) ⟨rfl, (ST.subR (R' := []) (hS21.sel [] rfl rfl) (fun _ h => by cases h))⟩
                  · skip
                    have hF7 := cf' hb2 hb3
                    refine cw_skip ?_
                    refine cw_region ?_
                    refine sq 58 rfl rfl (Y_add (k := .i64) (a := (i : Int)) (b := 1) rfl (hf.get 46 2 rfl) rfl) ?_
                    refine sq 46 rfl rfl (Y_move (v := .int .i64 (IntKind.i64.wrap ((i : Int) + 1))) rfl rfl) ?_
                    refine rw_nil ?_
                    obtain rfl := some_inj hF7
                    exact ⟨k_1, Nat.lt_succ_self _, i + 1, (FF.cons (hf.get 44 0 rfl) (FF.cons (hf.get 45 1 rfl) (FF.cons (congrArg (Value.int .i64) (wr_succ hlt1 hN)) FF.nil))), (hS21.sel [0] rfl rfl), (by omega), hL1⟩
                exact allR_nil
              exact allR_nil
            · skip
              obtain rfl : k_ = 0 := by have h := of_decide_eq_false hlt; omega
              refine cw_exit rfl ?_
              obtain rfl := some_inj hL
              refine cw_seq ?_
              refine cw_region ?_
              refine sq 2 rfl rfl (Y_assign (v := .bool true) rfl rfl) ?_
              refine rw_nil ?_
              refine cw_ret ?_
              obtain rfl := some_inj hF5
              exact ret1 Try.results85 (v1 := .bool true) (resAt_tmp rfl) ⟨rfl, (ST.subR (R' := []) (hS14.sel [] rfl rfl) (fun _ h => by cases h))⟩
        exact allR_nil
      exact allR_nil
    exact allR_nil

theorem c_impl_blochExp (b : TBloch) (B : Option Addr) (c n : Nat) (w0 : World) (hn : b.Cells.length = n) (hS : ST w0 [] w0 [] [⟨B, (b.Cells.flatMap enc_Dyadic)⟩]) {r_ : Int} (hF : F_impl_blochExp b = some r_) :
    CV Try.prog 86 #[.agg #[.slice B n c]] w0 (fun v w' => v = .int .i64 r_ ∧ ST w0 [] w' [] []) := by
  subst hn
  unfold F_impl_blochExp at hF
  refine cv_of_cw 19 Try.func86 rfl Try.ntmps86 rfl ?_
  refine cw_seq ?_
  refine cw_region ?_
  refine ss 1 rfl rfl (Ys_box (T := 30) (v := .agg #[.slice B b.Cells.length c]) (cs := [.slice B b.Cells.length c]) (m := 1) hS rfl rfl rfl rfl) ?_
  rintro _ w_ ⟨b1, rfl, hS1⟩
  refine sq 2 rfl rfl (Y_assign (v := .int .i64 0) rfl rfl) ?_
  refine rw_nil ?_
  refine cw_seq ?_
  refine cw_region ?_
  refine sq 3 rfl rfl (Y_assign (v := .int .i64 0) rfl rfl) ?_
  refine rw_nil ?_
  refine cw_seq ?_
  refine cw_seq ?_
  refine cw_region ?_
  refine sq 6 rfl rfl (Y_fieldAddr (B := some ⟨b1, 0, none⟩) (i := 0) (s := 0) k_fd_30_0_0_28 k_sz_28_1 rfl rfl) ?_
  refine sq 7 rfl rfl (Y_load1 (B := some ⟨b1, 0, none⟩) (i := 0) (cs := [.slice B b.Cells.length c]) (v := .slice B b.Cells.length c) k_sc_28 rfl rfl (hS1.cf (i := 0) rfl) rfl) ?_
  refine sq 8 rfl rfl (Y_len (B := B) (m := b.Cells.length) (c := c) k_sl_28_55 rfl rfl) ?_
  refine sq 9 rfl rfl (Y_move (v := .int .i64 0) rfl rfl) ?_
  refine rw_nil ?_
  obtain ⟨hN, hF⟩ := chk_inv hF
  obtain ⟨z, hz, hF1⟩ := bind_inv hF
  refine cw_block ?_
  refine cw_loop (fun k f w => ∃ (i : Nat) (most : Int), FF f [(3, .int .i64 most), (7, .slice B b.Cells.length c), (8, .int .i64 (b.Cells.length : Int)), (9, .int .i64 (i : Int))] ∧ ST w0 [] w [] [⟨B, (b.Cells.flatMap enc_Dyadic)⟩] ∧ i + k = b.Cells.length ∧ forN (F_impl_blochExp_l1 b) k i most = some z) b.Cells.length ⟨0, 0, (FF.cons rfl (FF.cons rfl (FF.cons rfl (FF.cons rfl FF.nil)))), (hS1.sel [] rfl rfl), Nat.zero_add _, hz⟩ ?_
  rintro k_ f w ⟨i, most, hf, hS2, hik, hL⟩
  refine cw_seq ?_
  refine cw_region ?_
  refine sq 10 rfl rfl (Y_lt (k := .i64) (a := (i : Int)) (b := (b.Cells.length : Int)) rfl (hf.get 9 3 rfl) (hf.get 8 2 rfl)) ?_
  refine rw_nil ?_
  refine cw_seq ?_
  refine cw_cond (b := (decide ((i : Int) < (b.Cells.length : Int)))) rfl (fun hlt => ?_) (fun hlt => ?_)
  · skip
    have hlt1 : i < b.Cells.length := by have h := of_decide_eq_true hlt; omega
    obtain ⟨k_1, rfl⟩ : ∃ k2, k_ = k2 + 1 := ⟨k_ - 1, by omega⟩
    obtain ⟨y, hb, hL1⟩ := forN_go hL
    unfold F_impl_blochExp_l1 at hb
    refine cw_skip ?_
    refine cw_seq ?_
    refine cw_block ?_
    refine cw_seq ?_
    refine cw_region ?_
    obtain ⟨x, hx, hb⟩ := bind_inv hb
    refine sq 11 rfl rfl (Y_index (B := B) (m := b.Cells.length) (c := c) (k := .i64) (i := (i : Int)) k_sl_28_55 k_sz_55_5 rfl (hf.get 7 1 rfl) (hf.get 9 3 rfl) (gi_isSome enc_Dyadic_len rfl (hS2.rf (i := 0) rfl) hx) (getI_nn hx) (getI_ltI hx rfl)) ?_
    refine sq 12 rfl rfl (Y_loadA (B := B) (i := (i : Int).toNat * 5) (cs := (b.Cells.flatMap enc_Dyadic)) (vs := [.int .i64 x.Num.A, .int .i64 x.Num.B, .int .i64 x.Num.C, .int .i64 x.Num.D, .int .i64 x.Exp]) k_ag_55 k_sz_55_5 rfl rfl (hS2.rf (i := 0) rfl) (enc_Dyadic_len x) (gi_seg enc_Dyadic_len hx)) ?_
    refine ss 5 rfl rfl (Ys_alloc (T := 55) (cs := [.int .i64 0, .int .i64 0, .int .i64 0, .int .i64 0, .int .i64 0]) (m := 5) hS2 k_zero_55 rfl rfl rfl) ?_
    rintro _ w_1 ⟨b2, rfl, hS3⟩
    refine ss0 rfl rfl (Ys_store (i := 0) (s := 5) (B := some ⟨b2, 0, none⟩) (T' := 55) (v := .agg #[.int .i64 x.Num.A, .int .i64 x.Num.B, .int .i64 x.Num.C, .int .i64 x.Num.D, .int .i64 x.Exp]) (vs := [.int .i64 x.Num.A, .int .i64 x.Num.B, .int .i64 x.Num.C, .int .i64 x.Num.D, .int .i64 x.Exp]) (k := 0) (cs' := [.int .i64 x.Num.A, .int .i64 x.Num.B, .int .i64 x.Num.C, .int .i64 x.Num.D, .int .i64 x.Exp]) hS3 k_sz_55_5 rfl rfl rfl rfl rfl rfl rfl (Nat.le_of_ble_eq_true rfl) rfl rfl) ?_
    rintro _ w_2 ⟨rfl, hS4⟩
    refine rw_nil ?_
    refine cw_region ?_
    refine sq 13 rfl rfl (Y_move (v := .int .i64 most) rfl (hf.get 3 0 rfl)) ?_
    refine sq 14 rfl rfl (Y_fieldAddr (B := some ⟨b2, 0, none⟩) (i := 0) (s := 0) k_fd_55_1_4_3 k_sz_3_1 rfl rfl) ?_
    refine sq 15 rfl rfl (Y_load1 (B := some ⟨b2, 0, none⟩) (i := 4) (cs := [.int .i64 x.Num.A, .int .i64 x.Num.B, .int .i64 x.Num.C, .int .i64 x.Num.D, .int .i64 x.Exp]) (v := .int .i64 x.Exp) k_sc_3 rfl rfl (hS4.cf (i := 0) rfl) rfl) ?_
    refine sq 16 rfl rfl (Y_max2 (k := .i64) (a := most) (b := x.Exp) rfl rfl rfl) ?_
    refine sq 3 rfl rfl (Y_assign (v := .int .i64 (if most < x.Exp then x.Exp else most)) rfl rfl) ?_
    refine rw_nil ?_
    refine cw_region ?_
    refine sq 17 rfl rfl (Y_add (k := .i64) (a := (i : Int)) (b := 1) rfl (hf.get 9 3 rfl) rfl) ?_
    refine sq 9 rfl rfl (Y_move (v := .int .i64 (IntKind.i64.wrap ((i : Int) + 1))) rfl rfl) ?_
    refine rw_nil ?_
    obtain rfl := some_inj hb
    exact ⟨k_1, Nat.lt_succ_self _, i + 1, (if most < x.Exp then x.Exp else most), (FF.cons rfl (FF.cons (hf.get 7 1 rfl) (FF.cons (hf.get 8 2 rfl) (FF.cons (congrArg (Value.int .i64) (wr_succ hlt1 hN)) FF.nil)))), (hS4.sel [] rfl rfl), (by omega), hL1⟩
  · skip
    obtain rfl : k_ = 0 := by have h := of_decide_eq_false hlt; omega
    refine cw_exit rfl ?_
    obtain rfl := some_inj hL
    refine cw_seq ?_
    refine cw_region ?_
    refine sq 18 rfl rfl (Y_move (v := .int .i64 most) rfl (hf.get 3 0 rfl)) ?_
    refine sq 2 rfl rfl (Y_assign (v := .int .i64 most) rfl rfl) ?_
    refine rw_nil ?_
    refine cw_ret ?_
    obtain rfl := some_inj hF1
    exact ret1 Try.results86 (v1 := .int .i64 most) (resAt_tmp rfl) ⟨rfl, (ST.subR (R' := []) (hS2.sel [] rfl rfl) (fun _ h => by cases h))⟩

theorem c_impl_ParityOf (b : TBloch) (B : Option Addr) (c n : Nat) (w0 : World) (hn : b.Cells.length = n) (hS : ST w0 [] w0 [] [⟨B, (b.Cells.flatMap enc_Dyadic)⟩]) {r_ : List UInt8} {r_1 : Bool} (hF : F_impl_ParityOf b = some (r_, r_1)) :
    CV Try.prog 16 #[.agg #[.slice B n c]] w0 (fun v w' => v = .tuple #[.string (bstr r_), .bool r_1] ∧ ST w0 [] w' [] []) := by
  subst hn
  unfold F_impl_ParityOf at hF
  refine cv_of_cw 42 Try.func16 rfl Try.ntmps16 rfl ?_
  refine cw_seq ?_
  refine cw_region ?_
  refine ss 1 rfl rfl (Ys_box (T := 30) (v := .agg #[.slice B b.Cells.length c]) (cs := [.slice B b.Cells.length c]) (m := 1) hS rfl rfl rfl rfl) ?_
  rintro _ w_ ⟨b1, rfl, hS1⟩
  refine sq 2 rfl rfl (Y_assign (v := .string (bstr ([] : List UInt8))) rfl rfl) ?_
  refine sq 3 rfl rfl (Y_assign (v := .bool false) rfl rfl) ?_
  refine rw_nil ?_
  refine cw_seq ?_
  refine cw_seq ?_
  refine cw_region ?_
  refine sq 10 rfl rfl (Y_loadA (B := some ⟨b1, 0, none⟩) (i := 0) (cs := [.slice B b.Cells.length c]) (vs := [.slice B b.Cells.length c]) k_ag_30 k_sz_30_1 rfl rfl (hS1.cf (i := 0) rfl) rfl rfl) ?_
  obtain ⟨r_2, hc, hF⟩ := bind_inv hF
  refine sc 11 rfl rfl (Yc_func (g := 85) (vs := [.agg #[.slice B b.Cells.length c]]) k_call_85 rfl (mc rfl mn) (c_impl_IsValidBloch b B c b.Cells.length _ rfl (hS1.inn0 [(true, 0)] rfl) hc)) ?_
  rintro _ w_1 ⟨rfl, hd⟩
  have hS2 := hS1.out00 hd
  refine sq 12 rfl rfl (Y_not (p := r_2) rfl rfl) ?_
  refine rw_nil ?_
  refine cw_cond (b := (!r_2)) rfl (fun hb => ?_) (fun hb => ?_)
  · skip
    have hF1 := ct hF hb
    refine cw_seq ?_
    refine cw_region ?_
    refine sq 2 rfl rfl (Y_assign (v := .string (bstr ([] : List UInt8))) rfl rfl) ?_
    refine sq 3 rfl rfl (Y_assign (v := .bool false) rfl rfl) ?_
    refine rw_nil ?_
    refine cw_ret ?_
    obtain ⟨rfl, rfl⟩ := pr2 (some_inj hF1)
    exact ret2 Try.results16 (v1 := .string (bstr ([] : List UInt8))) (resAt_tmp rfl) (v2 := .bool false) (resAt_tmp rfl) ⟨rfl, (ST.subR (R' := []) (hS2.sel [] rfl rfl) (fun _ h => by cases h))⟩
  · skip
    have hF2 := cf' hF hb
    refine cw_skip ?_
    refine cw_seq ?_
    refine cw_region ?_
    refine ss 13 rfl rfl (Ys_bslice0 (s := 1) (e := 5) hS2 k_sl_45_5 k_sz_5_1 rfl) ?_
    rintro _ w_2 ⟨b2, rfl, hS3⟩
    have hS3 : ST w0 [] _ [⟨some ⟨b1, 0, none⟩, 30, [.slice B b.Cells.length c], 1⟩, ⟨some ⟨b2, 0, none⟩, 5, ([].flatMap enc_u8), 0 * 1⟩] [⟨B, (b.Cells.flatMap enc_Dyadic)⟩] := hS3
    refine sq 14 rfl rfl (Y_loadA (B := some ⟨b1, 0, none⟩) (i := 0) (cs := [.slice B b.Cells.length c]) (vs := [.slice B b.Cells.length c]) k_ag_30 k_sz_30_1 rfl rfl (hS3.cf (i := 0) rfl) rfl rfl) ?_
    obtain ⟨r_3, hc1, hF2⟩ := bind_inv hF2
    refine sc 15 rfl rfl (Yc_func (g := 86) (vs := [.agg #[.slice B b.Cells.length c]]) k_call_86 rfl (mc rfl mn) (c_impl_blochExp b B c b.Cells.length _ rfl (hS3.inn0 [(true, 0)] rfl) hc1)) ?_
    rintro _ w_3 ⟨rfl, hd1⟩
    have hS4 := hS3.out00 hd1
    have hS4 : ST w0 [] _ [⟨some ⟨b1, 0, none⟩, 30, [.slice B b.Cells.length c], 1⟩, ⟨some ⟨b2, 0, none⟩, 5, ([].flatMap enc_u8), 0 * 1⟩] [⟨B, (b.Cells.flatMap enc_Dyadic)⟩] := hS4
    refine sq 4 rfl rfl (Y_assign (v := .slice (some ⟨b2, 0, none⟩) 0 0) rfl rfl) ?_
    refine sq 5 rfl rfl (Y_assign (v := .int .i64 r_3) rfl rfl) ?_
    refine rw_nil ?_
    refine cw_seq ?_
    refine cw_seq ?_
    refine cw_region ?_
    refine sq 16 rfl rfl (Y_fieldAddr (B := some ⟨b1, 0, none⟩) (i := 0) (s := 0) k_fd_30_0_0_28 k_sz_28_1 rfl rfl) ?_
    refine sq 17 rfl rfl (Y_load1 (B := some ⟨b1, 0, none⟩) (i := 0) (cs := [.slice B b.Cells.length c]) (v := .slice B b.Cells.length c) k_sc_28 rfl rfl (hS4.cf (i := 0) rfl) rfl) ?_
    refine sq 18 rfl rfl (Y_len (B := B) (m := b.Cells.length) (c := c) k_sl_28_55 rfl rfl) ?_
    refine sq 19 rfl rfl (Y_move (v := .int .i64 0) rfl rfl) ?_
    refine rw_nil ?_
    obtain ⟨hN, hF2⟩ := chk_inv hF2
    obtain ⟨z, hz, hF3⟩ := bind_inv hF2
    refine cw_block ?_
    refine cw_loop (fun k f w => ∃ (i : Nat) (out : List Int) (B1 : Option Addr) (c1 : Nat), FF f [(4, .slice B1 out.length c1), (5, .int .i64 r_3), (17, .slice B b.Cells.length c), (18, .int .i64 (b.Cells.length : Int)), (19, .int .i64 (i : Int))] ∧ ST w0 [] w [⟨B1, 5, (out.flatMap enc_u8), c1 * 1⟩] [⟨B, (b.Cells.flatMap enc_Dyadic)⟩] ∧ i + k = b.Cells.length ∧ forX (F_impl_ParityOf_l1 b r_3) k i out = some z) b.Cells.length ⟨0, [], some ⟨b2, 0, none⟩, 0, (FF.cons rfl (FF.cons rfl (FF.cons rfl (FF.cons rfl (FF.cons rfl FF.nil))))), (hS4.sel [1] rfl rfl), Nat.zero_add _, hz⟩ ?_
    rintro k_ f w ⟨i, out, B1, c1, hf, hS5, hik, hL⟩
    refine cw_seq ?_
    refine cw_region ?_
    refine sq 20 rfl rfl (Y_lt (k := .i64) (a := (i : Int)) (b := (b.Cells.length : Int)) rfl (hf.get 19 4 rfl) (hf.get 18 3 rfl)) ?_
    refine rw_nil ?_
    refine cw_seq ?_
    refine cw_cond (b := (decide ((i : Int) < (b.Cells.length : Int)))) rfl (fun hlt => ?_) (fun hlt => ?_)
    · skip
      have hlt1 : i < b.Cells.length := by have h := of_decide_eq_true hlt; omega
      obtain ⟨k_1, rfl⟩ : ∃ k2, k_ = k2 + 1 := ⟨k_ - 1, by omega⟩
      obtain ⟨y, hb1, hL1⟩ := forX_go hL
      unfold F_impl_ParityOf_l1 at hb1
      refine cw_skip ?_
      refine cw_seq ?_
      refine cw_block ?_
      refine cw_seq ?_
      refine cw_region ?_
      obtain ⟨x, hx, hb1⟩ := bind_inv hb1
      refine sq 21 rfl rfl (Y_index (B := B) (m := b.Cells.length) (c := c) (k := .i64) (i := (i : Int)) k_sl_28_55 k_sz_55_5 rfl (hf.get 17 2 rfl) (hf.get 19 4 rfl) (gi_isSome enc_Dyadic_len rfl (hS5.rf (i := 0) rfl) hx) (getI_nn hx) (getI_ltI hx rfl)) ?_
      refine sq 22 rfl rfl (Y_loadA (B := B) (i := (i : Int).toNat * 5) (cs := (b.Cells.flatMap enc_Dyadic)) (vs := [.int .i64 x.Num.A, .int .i64 x.Num.B, .int .i64 x.Num.C, .int .i64 x.Num.D, .int .i64 x.Exp]) k_ag_55 k_sz_55_5 rfl rfl (hS5.rf (i := 0) rfl) (enc_Dyadic_len x) (gi_seg enc_Dyadic_len hx)) ?_
      refine ss 7 rfl rfl (Ys_alloc (T := 55) (cs := [.int .i64 0, .int .i64 0, .int .i64 0, .int .i64 0, .int .i64 0]) (m := 5) hS5 k_zero_55 rfl rfl rfl) ?_
      rintro _ w_4 ⟨b3, rfl, hS6⟩
      have hS6 : ST w0 [] _ [⟨B1, 5, (out.flatMap enc_u8), c1 * 1⟩, ⟨some ⟨b3, 0, none⟩, 55, [.int .i64 0, .int .i64 0, .int .i64 0, .int .i64 0, .int .i64 0], 5⟩] [⟨B, (b.Cells.flatMap enc_Dyadic)⟩] := hS6
      refine ss0 rfl rfl (Ys_store (i := 1) (s := 5) (B := some ⟨b3, 0, none⟩) (T' := 55) (v := .agg #[.int .i64 x.Num.A, .int .i64 x.Num.B, .int .i64 x.Num.C, .int .i64 x.Num.D, .int .i64 x.Exp]) (vs := [.int .i64 x.Num.A, .int .i64 x.Num.B, .int .i64 x.Num.C, .int .i64 x.Num.D, .int .i64 x.Exp]) (k := 0) (cs' := [.int .i64 x.Num.A, .int .i64 x.Num.B, .int .i64 x.Num.C, .int .i64 x.Num.D, .int .i64 x.Exp]) hS6 k_sz_55_5 rfl rfl rfl rfl rfl rfl rfl (Nat.le_of_ble_eq_true rfl) rfl rfl) ?_
      rintro _ w_5 ⟨rfl, hS7⟩
      have hS7 : ST w0 [] _ [⟨B1, 5, (out.flatMap enc_u8), c1 * 1⟩, ⟨some ⟨b3, 0, none⟩, 55, [.int .i64 x.Num.A, .int .i64 x.Num.B, .int .i64 x.Num.C, .int .i64 x.Num.D, .int .i64 x.Exp], 5⟩] [⟨B, (b.Cells.flatMap enc_Dyadic)⟩] := hS7
      refine rw_nil ?_
      refine cw_seq ?_
      refine cw_region ?_
      refine sq 24 rfl rfl (Y_loadA (B := some ⟨b3, 0, none⟩) (i := 0) (cs := [.int .i64 x.Num.A, .int .i64 x.Num.B, .int .i64 x.Num.C, .int .i64 x.Num.D, .int .i64 x.Exp]) (vs := [.int .i64 x.Num.A, .int .i64 x.Num.B, .int .i64 x.Num.C, .int .i64 x.Num.D, .int .i64 x.Exp]) k_ag_55 k_sz_55_5 rfl rfl (hS7.cf (i := 1) rfl) rfl rfl) ?_
      refine sq 25 rfl rfl (Y_move (v := .int .i64 r_3) rfl (hf.get 5 1 rfl)) ?_
      obtain ⟨⟨r_4, r_5⟩, hc2, hb1⟩ := bind_inv hb1
      refine sc 26 rfl rfl (Yc_func (g := 87) (vs := [.agg #[.int .i64 x.Num.A, .int .i64 x.Num.B, .int .i64 x.Num.C, .int .i64 x.Num.D, .int .i64 x.Exp], .int .i64 r_3]) k_call_87 rfl (mc rfl (mc rfl mn)) (c_impl_raised x r_3 _  (hS7.inn0 [] rfl) hc2)) ?_
      rintro _ w_6 ⟨rfl, hd2⟩
      have hS8 := hS7.out00 hd2
      have hS8 : ST w0 [] _ [⟨B1, 5, (out.flatMap enc_u8), c1 * 1⟩, ⟨some ⟨b3, 0, none⟩, 55, [.int .i64 x.Num.A, .int .i64 x.Num.B, .int .i64 x.Num.C, .int .i64 x.Num.D, .int .i64 x.Exp], 5⟩] [⟨B, (b.Cells.flatMap enc_Dyadic)⟩] := hS8
      refine sq 23 rfl rfl (Y_move (v := .tuple #[.agg #[.int .i64 r_4.A, .int .i64 r_4.B, .int .i64 r_4.C, .int .i64 r_4.D], .bool r_5]) rfl rfl) ?_
      refine sq 27 rfl rfl (Y_extract (v := .agg #[.int .i64 r_4.A, .int .i64 r_4.B, .int .i64 r_4.C, .int .i64 r_4.D]) rfl rfl rfl) ?_
      refine sq 28 rfl rfl (Y_extract (v := .bool r_5) rfl rfl rfl) ?_
      refine ss 8 rfl rfl (Ys_alloc (T := 53) (cs := [.int .i64 0, .int .i64 0, .int .i64 0, .int .i64 0]) (m := 4) hS8 k_zero_53 rfl rfl rfl) ?_
      rintro _ w_7 ⟨b4, rfl, hS9⟩
      have hS9 : ST w0 [] _ [⟨B1, 5, (out.flatMap enc_u8), c1 * 1⟩, ⟨some ⟨b3, 0, none⟩, 55, [.int .i64 x.Num.A, .int .i64 x.Num.B, .int .i64 x.Num.C, .int .i64 x.Num.D, .int .i64 x.Exp], 5⟩, ⟨some ⟨b4, 0, none⟩, 53, [.int .i64 0, .int .i64 0, .int .i64 0, .int .i64 0], 4⟩] [⟨B, (b.Cells.flatMap enc_Dyadic)⟩] := hS9
      refine ss0 rfl rfl (Ys_store (i := 2) (s := 4) (B := some ⟨b4, 0, none⟩) (T' := 53) (v := .agg #[.int .i64 r_4.A, .int .i64 r_4.B, .int .i64 r_4.C, .int .i64 r_4.D]) (vs := [.int .i64 r_4.A, .int .i64 r_4.B, .int .i64 r_4.C, .int .i64 r_4.D]) (k := 0) (cs' := [.int .i64 r_4.A, .int .i64 r_4.B, .int .i64 r_4.C, .int .i64 r_4.D]) hS9 k_sz_53_4 rfl rfl rfl rfl rfl rfl rfl (Nat.le_of_ble_eq_true rfl) rfl rfl) ?_
      rintro _ w_8 ⟨rfl, hS10⟩
      have hS10 : ST w0 [] _ [⟨B1, 5, (out.flatMap enc_u8), c1 * 1⟩, ⟨some ⟨b3, 0, none⟩, 55, [.int .i64 x.Num.A, .int .i64 x.Num.B, .int .i64 x.Num.C, .int .i64 x.Num.D, .int .i64 x.Exp], 5⟩, ⟨some ⟨b4, 0, none⟩, 53, [.int .i64 r_4.A, .int .i64 r_4.B, .int .i64 r_4.C, .int .i64 r_4.D], 4⟩] [⟨B, (b.Cells.flatMap enc_Dyadic)⟩] := hS10
      refine sq 9 rfl rfl (Y_assign (v := .bool r_5) rfl rfl) ?_
      refine rw_nil ?_
      refine cw_seq ?_
      refine cw_seq ?_
      refine cw_region ?_
      refine sq 29 rfl rfl (Y_move (v := .bool r_5) rfl rfl) ?_
      refine sq 30 rfl rfl (Y_not (p := r_5) rfl rfl) ?_
      refine rw_nil ?_
      refine cw_cond (b := (!r_5)) rfl (fun hb2 => ?_) (fun hb2 => ?_)
      · skip
        have hF4 := ct hb1 hb2
        refine cw_seq ?_
        refine cw_region ?_
        refine sq 2 rfl rfl (Y_assign (v := .string (bstr ([] : List UInt8))) rfl rfl) ?_
        refine sq 3 rfl rfl (Y_assign (v := .bool false) rfl rfl) ?_
        refine rw_nil ?_
        refine cw_ret ?_
        obtain rfl := some_inj hF4
        obtain rfl := some_inj hL1
        obtain ⟨rfl, rfl⟩ := pr2 (some_inj hF3)
        exact ret2 Try.results16 (v1 := .string (bstr ([] : List UInt8))) (resAt_tmp rfl) (v2 := .bool false) (resAt_tmp rfl) ⟨rfl, (ST.subR (R' := []) (hS10.sel [] rfl rfl) (fun _ h => by cases h))⟩
      · skip
        have hF5 := cf' hb1 hb2
        refine cw_skip ?_
        refine cw_region ?_
        refine sq 31 rfl rfl (Y_move (v := .slice B1 out.length c1) rfl (hf.get 4 0 rfl)) ?_
        refine sq 32 rfl rfl (Y_fieldAddr (B := some ⟨b4, 0, none⟩) (i := 0) (s := 0) k_fd_53_0_0_3 k_sz_3_1 rfl rfl) ?_
        refine sq 33 rfl rfl (Y_load1 (B := some ⟨b4, 0, none⟩) (i := 0) (cs := [.int .i64 r_4.A, .int .i64 r_4.B, .int .i64 r_4.C, .int .i64 r_4.D]) (v := .int .i64 r_4.A) k_sc_3 rfl rfl (hS10.cf (i := 2) rfl) rfl) ?_
        refine sq 34 rfl rfl (Y_band (k := .i64) (a := r_4.A) (b := 1) rfl rfl rfl) ?_
        refine sq 35 rfl rfl (Y_conv (k := .i64) (a := (bits .and .i64 r_4.A 1)) (T := 3) (T' := 5) k_us_3 k_int_5_u8 rfl rfl) ?_
        refine sq 36 rfl rfl (Y_add (k := .u8) (a := 48) (b := (IntKind.u8.wrap (bits .and .i64 r_4.A 1))) rfl rfl rfl) ?_
        refine ss 37 rfl rfl (Ys_bslice (s := 1) (len := 1) (vs := [(0, .int .u8 (IntKind.u8.wrap (48 + (IntKind.u8.wrap (bits .and .i64 r_4.A 1)))))]) (cs := [.int .u8 (IntKind.u8.wrap (48 + (IntKind.u8.wrap (bits .and .i64 r_4.A 1))))]) (zs := [.int .u8 0]) (m := 1) hS10 k_sl_45_5 k_sz_5_1 k_zc_5 rfl (mpc rfl mpn) rfl rfl rfl (by kernel_rfl) (by kernel_rfl) rfl) ?_
        rintro _ w_9 ⟨b5, rfl, hS11⟩
        have hS11 : ST w0 [] _ [⟨B1, 5, (out.flatMap enc_u8), c1 * 1⟩, ⟨some ⟨b3, 0, none⟩, 55, [.int .i64 x.Num.A, .int .i64 x.Num.B, .int .i64 x.Num.C, .int .i64 x.Num.D, .int .i64 x.Exp], 5⟩, ⟨some ⟨b4, 0, none⟩, 53, [.int .i64 r_4.A, .int .i64 r_4.B, .int .i64 r_4.C, .int .i64 r_4.D], 4⟩, ⟨some ⟨b5, 0, none⟩, 5, ([(IntKind.u8.wrap (48 + (IntKind.u8.wrap (bits .and .i64 r_4.A 1))))].flatMap enc_u8), 1 * 1⟩] [⟨B, (b.Cells.flatMap enc_Dyadic)⟩] := hS11
        obtain ⟨hap, hF5⟩ := chk_inv hF5
        refine ss 38 rfl rfl (Ys_append (s := 1) (by' := 1) (i := 0) (nn := out.length) (c := c1) (k := 1) (len := (out ++ [(IntKind.u8.wrap (48 + (IntKind.u8.wrap (bits .and .i64 r_4.A 1))))]).length) (B := B1) (xs := ([(IntKind.u8.wrap (48 + (IntKind.u8.wrap (bits .and .i64 r_4.A 1))))].flatMap enc_u8)) (cs' := ((out ++ [(IntKind.u8.wrap (48 + (IntKind.u8.wrap (bits .and .i64 r_4.A 1))))]).flatMap enc_u8)) hS11 k_sl_45_5 k_sz_5_1 k_by_5_1 k_zero_5 rfl (by decide) rfl rfl rfl rfl (fm_lenn (l := out) enc_u8_len rfl) rfl (hS11.cf (i := 3) rfl) (fm_lenn (l := [(IntKind.u8.wrap (48 + (IntKind.u8.wrap (bits .and .i64 r_4.A 1))))]) enc_u8_len rfl) (fm_one' (enc := enc_u8) enc_u8_one [(IntKind.u8.wrap (48 + (IntKind.u8.wrap (bits .and .i64 r_4.A 1))))]) (by have := hap; omega) (by have := hap; simp only [maxLen]; omega) (fm_app _ _) (app_len (l := out) (l' := [(IntKind.u8.wrap (48 + (IntKind.u8.wrap (bits .and .i64 r_4.A 1))))]) rfl rfl)) ?_
        rintro _ w_10 ⟨B2, c2, rfl, hS12⟩
        have hS12 : ST w0 [] _ [⟨B2, 5, ((out ++ [(IntKind.u8.wrap (48 + (IntKind.u8.wrap (bits .and .i64 r_4.A 1))))]).flatMap enc_u8), c2 * 1⟩, ⟨some ⟨b3, 0, none⟩, 55, [.int .i64 x.Num.A, .int .i64 x.Num.B, .int .i64 x.Num.C, .int .i64 x.Num.D, .int .i64 x.Exp], 5⟩, ⟨some ⟨b4, 0, none⟩, 53, [.int .i64 r_4.A, .int .i64 r_4.B, .int .i64 r_4.C, .int .i64 r_4.D], 4⟩, ⟨some ⟨b5, 0, none⟩, 5, ([(IntKind.u8.wrap (48 + (IntKind.u8.wrap (bits .and .i64 r_4.A 1))))].flatMap enc_u8), 1 * 1⟩] [⟨B, (b.Cells.flatMap enc_Dyadic)⟩] := hS12
        refine sq 4 rfl rfl (Y_assign (v := .slice B2 ((out ++ [(IntKind.u8.wrap (48 + (IntKind.u8.wrap (bits .and .i64 r_4.A 1))))]).length) c2) rfl rfl) ?_
        refine rw_nil ?_
        refine cw_region ?_
        refine sq 39 rfl rfl (Y_add (k := .i64) (a := (i : Int)) (b := 1) rfl (hf.get 19 4 rfl) rfl) ?_
        refine sq 19 rfl rfl (Y_move (v := .int .i64 (IntKind.i64.wrap ((i : Int) + 1))) rfl rfl) ?_
        refine rw_nil ?_
        obtain rfl := some_inj hF5
        exact ⟨k_1, Nat.lt_succ_self _, i + 1, (out ++ [(IntKind.u8.wrap (48 + (IntKind.u8.wrap (bits .and .i64 r_4.A 1))))]), B2, c2, (FF.cons rfl (FF.cons (hf.get 5 1 rfl) (FF.cons (hf.get 17 2 rfl) (FF.cons (hf.get 18 3 rfl) (FF.cons (congrArg (Value.int .i64) (wr_succ hlt1 hN)) FF.nil))))), (hS12.sel [0] rfl rfl), (by omega), hL1⟩
    · skip
      obtain rfl : k_ = 0 := by have h := of_decide_eq_false hlt; omega
      refine cw_exit rfl ?_
      obtain rfl := some_inj hL
      refine cw_seq ?_
      refine cw_region ?_
      refine sq 40 rfl rfl (Y_move (v := .slice B1 out.length c1) rfl (hf.get 4 0 rfl)) ?_
      refine sq 41 rfl rfl (Y_b2s (l := out) (B := B1) (m := out.length) (c := c1) k_sl_45_5 k_int_5_u8 k_str_9 rfl rfl rfl (hS5.cf (i := 0) rfl)) ?_
      refine sq 2 rfl rfl (Y_assign (v := .string (bstr (bts out))) rfl rfl) ?_
      refine sq 3 rfl rfl (Y_assign (v := .bool true) rfl rfl) ?_
      refine rw_nil ?_
      refine cw_ret ?_
      obtain ⟨rfl, rfl⟩ := pr2 (some_inj hF3)
      exact ret2 Try.results16 (v1 := .string (bstr (bts out))) (resAt_tmp rfl) (v2 := .bool true) (resAt_tmp rfl) ⟨rfl, (ST.subR (R' := []) (hS5.sel [] rfl rfl) (fun _ h => by cases h))⟩

theorem c_laws_eqRing (a : TRing) (b : TRing)  (w0 : World)  (hS : ST w0 [] w0 [] []) {r_ : Bool} (hF : F_laws_eqRing a b = some r_) :
    CV Try.prog 290 #[.agg #[.int .i64 a.A, .int .i64 a.B, .int .i64 a.C, .int .i64 a.D], .agg #[.int .i64 b.A, .int .i64 b.B, .int .i64 b.C, .int .i64 b.D]] w0 (fun v w' => v = .bool r_ ∧ ST w0 [] w' [] []) := by
  unfold F_laws_eqRing at hF
  refine cv_of_cw 25 Try.func290 rfl Try.ntmps290 rfl ?_
  refine cw_seq ?_
  refine cw_region ?_
  refine ss 2 rfl rfl (Ys_box (T := 53) (v := .agg #[.int .i64 a.A, .int .i64 a.B, .int .i64 a.C, .int .i64 a.D]) (cs := [.int .i64 a.A, .int .i64 a.B, .int .i64 a.C, .int .i64 a.D]) (m := 4) hS rfl rfl rfl rfl) ?_
  rintro _ w_ ⟨b1, rfl, hS1⟩
  refine ss 3 rfl rfl (Ys_box (T := 53) (v := .agg #[.int .i64 b.A, .int .i64 b.B, .int .i64 b.C, .int .i64 b.D]) (cs := [.int .i64 b.A, .int .i64 b.B, .int .i64 b.C, .int .i64 b.D]) (m := 4) hS1 rfl rfl rfl rfl) ?_
  rintro _ w_1 ⟨b2, rfl, hS2⟩
  have hS2 : ST w0 [] _ [⟨some ⟨b1, 0, none⟩, 53, [.int .i64 a.A, .int .i64 a.B, .int .i64 a.C, .int .i64 a.D], 4⟩, ⟨some ⟨b2, 0, none⟩, 53, [.int .i64 b.A, .int .i64 b.B, .int .i64 b.C, .int .i64 b.D], 4⟩] [] := hS2
  refine sq 4 rfl rfl (Y_assign (v := .bool false) rfl rfl) ?_
  refine rw_nil ?_
  refine cw_seq ?_
  refine cw_seq ?_
  refine cw_region ?_
  refine sq 5 rfl rfl (Y_fieldAddr (B := some ⟨b1, 0, none⟩) (i := 0) (s := 0) k_fd_53_0_0_3 k_sz_3_1 rfl rfl) ?_
  refine sq 6 rfl rfl (Y_load1 (B := some ⟨b1, 0, none⟩) (i := 0) (cs := [.int .i64 a.A, .int .i64 a.B, .int .i64 a.C, .int .i64 a.D]) (v := .int .i64 a.A) k_sc_3 rfl rfl (hS2.cf (i := 0) rfl) rfl) ?_
  refine sq 7 rfl rfl (Y_fieldAddr (B := some ⟨b2, 0, none⟩) (i := 0) (s := 0) k_fd_53_0_0_3 k_sz_3_1 rfl rfl) ?_
  refine sq 8 rfl rfl (Y_load1 (B := some ⟨b2, 0, none⟩) (i := 0) (cs := [.int .i64 b.A, .int .i64 b.B, .int .i64 b.C, .int .i64 b.D]) (v := .int .i64 b.A) k_sc_3 rfl rfl (hS2.cf (i := 1) rfl) rfl) ?_
  refine sq 9 rfl rfl (Y_ne (k := .i64) (a := a.A) (b := b.A) rfl rfl rfl) ?_
  refine rw_nil ?_
  refine cw_cond (b := (a.A != b.A)) rfl (fun hb => ?_) (fun hb => ?_)
  · skip
    have hF1 := ct hF hb
    refine cw_seq ?_
    refine cw_region ?_
    refine sq 4 rfl rfl (Y_assign (v := .bool false) rfl rfl) ?_
    refine rw_nil ?_
    refine cw_ret ?_
    obtain rfl := some_inj hF1
    exact ret1 Try.results290 (v1 := .bool false) (resAt_tmp rfl) ⟨rfl, (ST.subR (R' := []) (hS2.sel [] rfl rfl) (fun _ h => by cases h))⟩
  · skip
    have hF2 := cf' hF hb
    refine cw_skip ?_
    refine cw_seq ?_
    refine cw_seq ?_
    refine cw_region ?_
    refine sq 10 rfl rfl (Y_fieldAddr (B := some ⟨b1, 0, none⟩) (i := 0) (s := 0) k_fd_53_1_1_3 k_sz_3_1 rfl rfl) ?_
    refine sq 11 rfl rfl (Y_load1 (B := some ⟨b1, 0, none⟩) (i := 1) (cs := [.int .i64 a.A, .int .i64 a.B, .int .i64 a.C, .int .i64 a.D]) (v := .int .i64 a.B) k_sc_3 rfl rfl (hS2.cf (i := 0) rfl) rfl) ?_
    refine sq 12 rfl rfl (Y_fieldAddr (B := some ⟨b2, 0, none⟩) (i := 0) (s := 0) k_fd_53_1_1_3 k_sz_3_1 rfl rfl) ?_
    refine sq 13 rfl rfl (Y_load1 (B := some ⟨b2, 0, none⟩) (i := 1) (cs := [.int .i64 b.A, .int .i64 b.B, .int .i64 b.C, .int .i64 b.D]) (v := .int .i64 b.B) k_sc_3 rfl rfl (hS2.cf (i := 1) rfl) rfl) ?_
    refine sq 14 rfl rfl (Y_ne (k := .i64) (a := a.B) (b := b.B) rfl rfl rfl) ?_
    refine rw_nil ?_
    refine cw_cond (b := (a.B != b.B)) rfl (fun hb1 => ?_) (fun hb1 => ?_)
    · skip
      have hF3 := ct hF2 hb1
      refine cw_seq ?_
      refine cw_region ?_
      refine sq 4 rfl rfl (Y_assign (v := .bool false) rfl rfl) ?_
      refine rw_nil ?_
      refine cw_ret ?_
      obtain rfl := some_inj hF3
      exact ret1 Try.results290 (v1 := .bool false) (resAt_tmp rfl) ⟨rfl, (ST.subR (R' := []) (hS2.sel [] rfl rfl) (fun _ h => by cases h))⟩
    · skip
      have hF4 := cf' hF2 hb1
      refine cw_skip ?_
      refine cw_seq ?_
      refine cw_seq ?_
      refine cw_region ?_
      refine sq 15 rfl rfl (Y_fieldAddr (B := some ⟨b1, 0, none⟩) (i := 0) (s := 0) k_fd_53_2_2_3 k_sz_3_1 rfl rfl) ?_
      refine sq 16 rfl rfl (Y_load1 (B := some ⟨b1, 0, none⟩) (i := 2) (cs := [.int .i64 a.A, .int .i64 a.B, .int .i64 a.C, .int .i64 a.D]) (v := .int .i64 a.C) k_sc_3 rfl rfl (hS2.cf (i := 0) rfl) rfl) ?_
      refine sq 17 rfl rfl (Y_fieldAddr (B := some ⟨b2, 0, none⟩) (i := 0) (s := 0) k_fd_53_2_2_3 k_sz_3_1 rfl rfl) ?_
      refine sq 18 rfl rfl (Y_load1 (B := some ⟨b2, 0, none⟩) (i := 2) (cs := [.int .i64 b.A, .int .i64 b.B, .int .i64 b.C, .int .i64 b.D]) (v := .int .i64 b.C) k_sc_3 rfl rfl (hS2.cf (i := 1) rfl) rfl) ?_
      refine sq 19 rfl rfl (Y_ne (k := .i64) (a := a.C) (b := b.C) rfl rfl rfl) ?_
      refine rw_nil ?_
      refine cw_cond (b := (a.C != b.C)) rfl (fun hb2 => ?_) (fun hb2 => ?_)
      · skip
        have hF5 := ct hF4 hb2
        refine cw_seq ?_
        refine cw_region ?_
        refine sq 4 rfl rfl (Y_assign (v := .bool false) rfl rfl) ?_
        refine rw_nil ?_
        refine cw_ret ?_
        obtain rfl := some_inj hF5
        exact ret1 Try.results290 (v1 := .bool false) (resAt_tmp rfl) ⟨rfl, (ST.subR (R' := []) (hS2.sel [] rfl rfl) (fun _ h => by cases h))⟩
      · skip
        have hF6 := cf' hF4 hb2
        refine cw_skip ?_
        refine cw_seq ?_
        refine cw_seq ?_
        refine cw_region ?_
        refine sq 20 rfl rfl (Y_fieldAddr (B := some ⟨b1, 0, none⟩) (i := 0) (s := 0) k_fd_53_3_3_3 k_sz_3_1 rfl rfl) ?_
        refine sq 21 rfl rfl (Y_load1 (B := some ⟨b1, 0, none⟩) (i := 3) (cs := [.int .i64 a.A, .int .i64 a.B, .int .i64 a.C, .int .i64 a.D]) (v := .int .i64 a.D) k_sc_3 rfl rfl (hS2.cf (i := 0) rfl) rfl) ?_
        refine sq 22 rfl rfl (Y_fieldAddr (B := some ⟨b2, 0, none⟩) (i := 0) (s := 0) k_fd_53_3_3_3 k_sz_3_1 rfl rfl) ?_
        refine sq 23 rfl rfl (Y_load1 (B := some ⟨b2, 0, none⟩) (i := 3) (cs := [.int .i64 b.A, .int .i64 b.B, .int .i64 b.C, .int .i64 b.D]) (v := .int .i64 b.D) k_sc_3 rfl rfl (hS2.cf (i := 1) rfl) rfl) ?_
        refine sq 24 rfl rfl (Y_ne (k := .i64) (a := a.D) (b := b.D) rfl rfl rfl) ?_
        refine rw_nil ?_
        refine cw_cond (b := (a.D != b.D)) rfl (fun hb3 => ?_) (fun hb3 => ?_)
        · skip
          have hF7 := ct hF6 hb3
          refine cw_seq ?_
          refine cw_region ?_
          refine sq 4 rfl rfl (Y_assign (v := .bool false) rfl rfl) ?_
          refine rw_nil ?_
          refine cw_ret ?_
          obtain rfl := some_inj hF7
          exact ret1 Try.results290 (v1 := .bool false) (resAt_tmp rfl) ⟨rfl, (ST.subR (R' := []) (hS2.sel [] rfl rfl) (fun _ h => by cases h))⟩
        · skip
          have hF8 := cf' hF6 hb3
          refine cw_skip ?_
          refine cw_seq ?_
          refine cw_region ?_
          refine sq 4 rfl rfl (Y_assign (v := .bool true) rfl rfl) ?_
          refine rw_nil ?_
          refine cw_ret ?_
          obtain rfl := some_inj hF8
          exact ret1 Try.results290 (v1 := .bool true) (resAt_tmp rfl) ⟨rfl, (ST.subR (R' := []) (hS2.sel [] rfl rfl) (fun _ h => by cases h))⟩

theorem c_laws_eqDyadic (a : TDyadic) (b : TDyadic)  (w0 : World)  (hS : ST w0 [] w0 [] []) {r_ : Bool} (hF : F_laws_eqDyadic a b = some r_) :
    CV Try.prog 200 #[.agg #[.int .i64 a.Num.A, .int .i64 a.Num.B, .int .i64 a.Num.C, .int .i64 a.Num.D, .int .i64 a.Exp], .agg #[.int .i64 b.Num.A, .int .i64 b.Num.B, .int .i64 b.Num.C, .int .i64 b.Num.D, .int .i64 b.Exp]] w0 (fun v w' => v = .bool r_ ∧ ST w0 [] w' [] []) := by
  unfold F_laws_eqDyadic at hF
  refine cv_of_cw 16 Try.func200 rfl Try.ntmps200 rfl ?_
  refine cw_seq ?_
  refine cw_region ?_
  refine ss 2 rfl rfl (Ys_box (T := 55) (v := .agg #[.int .i64 a.Num.A, .int .i64 a.Num.B, .int .i64 a.Num.C, .int .i64 a.Num.D, .int .i64 a.Exp]) (cs := [.int .i64 a.Num.A, .int .i64 a.Num.B, .int .i64 a.Num.C, .int .i64 a.Num.D, .int .i64 a.Exp]) (m := 5) hS rfl rfl rfl rfl) ?_
  rintro _ w_ ⟨b1, rfl, hS1⟩
  refine ss 3 rfl rfl (Ys_box (T := 55) (v := .agg #[.int .i64 b.Num.A, .int .i64 b.Num.B, .int .i64 b.Num.C, .int .i64 b.Num.D, .int .i64 b.Exp]) (cs := [.int .i64 b.Num.A, .int .i64 b.Num.B, .int .i64 b.Num.C, .int .i64 b.Num.D, .int .i64 b.Exp]) (m := 5) hS1 rfl rfl rfl rfl) ?_
  rintro _ w_1 ⟨b2, rfl, hS2⟩
  have hS2 : ST w0 [] _ [⟨some ⟨b1, 0, none⟩, 55, [.int .i64 a.Num.A, .int .i64 a.Num.B, .int .i64 a.Num.C, .int .i64 a.Num.D, .int .i64 a.Exp], 5⟩, ⟨some ⟨b2, 0, none⟩, 55, [.int .i64 b.Num.A, .int .i64 b.Num.B, .int .i64 b.Num.C, .int .i64 b.Num.D, .int .i64 b.Exp], 5⟩] [] := hS2
  refine sq 4 rfl rfl (Y_assign (v := .bool false) rfl rfl) ?_
  refine rw_nil ?_
  refine cw_seq ?_
  refine cw_seq ?_
  refine cw_region ?_
  refine sq 5 rfl rfl (Y_fieldAddr (B := some ⟨b1, 0, none⟩) (i := 0) (s := 3) k_fd_55_0_0_53 k_sz_53_4 rfl rfl) ?_
  refine sq 6 rfl rfl (Y_loadA (B := some ⟨b1, 0, none⟩) (i := 0) (cs := [.int .i64 a.Num.A, .int .i64 a.Num.B, .int .i64 a.Num.C, .int .i64 a.Num.D, .int .i64 a.Exp]) (vs := [.int .i64 a.Num.A, .int .i64 a.Num.B, .int .i64 a.Num.C, .int .i64 a.Num.D]) k_ag_53 k_sz_53_4 rfl rfl (hS2.cf (i := 0) rfl) rfl rfl) ?_
  refine sq 7 rfl rfl (Y_fieldAddr (B := some ⟨b2, 0, none⟩) (i := 0) (s := 3) k_fd_55_0_0_53 k_sz_53_4 rfl rfl) ?_
  refine sq 8 rfl rfl (Y_loadA (B := some ⟨b2, 0, none⟩) (i := 0) (cs := [.int .i64 b.Num.A, .int .i64 b.Num.B, .int .i64 b.Num.C, .int .i64 b.Num.D, .int .i64 b.Exp]) (vs := [.int .i64 b.Num.A, .int .i64 b.Num.B, .int .i64 b.Num.C, .int .i64 b.Num.D]) k_ag_53 k_sz_53_4 rfl rfl (hS2.cf (i := 1) rfl) rfl rfl) ?_
  obtain ⟨r_1, hc, hF⟩ := bind_inv hF
  refine sc 9 rfl rfl (Yc_func (g := 290) (vs := [.agg #[.int .i64 a.Num.A, .int .i64 a.Num.B, .int .i64 a.Num.C, .int .i64 a.Num.D], .agg #[.int .i64 b.Num.A, .int .i64 b.Num.B, .int .i64 b.Num.C, .int .i64 b.Num.D]]) k_call_290 rfl (mc rfl (mc rfl mn)) (c_laws_eqRing a.Num b.Num _  (hS2.inn0 [] rfl) hc)) ?_
  rintro _ w_2 ⟨rfl, hd⟩
  have hS3 := hS2.out00 hd
  have hS3 : ST w0 [] _ [⟨some ⟨b1, 0, none⟩, 55, [.int .i64 a.Num.A, .int .i64 a.Num.B, .int .i64 a.Num.C, .int .i64 a.Num.D, .int .i64 a.Exp], 5⟩, ⟨some ⟨b2, 0, none⟩, 55, [.int .i64 b.Num.A, .int .i64 b.Num.B, .int .i64 b.Num.C, .int .i64 b.Num.D, .int .i64 b.Exp], 5⟩] [] := hS3
  refine sq 10 rfl rfl (Y_not (p := r_1) rfl rfl) ?_
  refine rw_nil ?_
  refine cw_cond (b := (!r_1)) rfl (fun hb => ?_) (fun hb => ?_)
  · skip
    have hF1 := ct hF hb
    refine cw_seq ?_
    refine cw_region ?_
    refine sq 4 rfl rfl (Y_assign (v := .bool false) rfl rfl) ?_
    refine rw_nil ?_
    refine cw_ret ?_
    obtain rfl := some_inj hF1
    exact ret1 Try.results200 (v1 := .bool false) (resAt_tmp rfl) ⟨rfl, (ST.subR (R' := []) (hS3.sel [] rfl rfl) (fun _ h => by cases h))⟩
  · skip
    have hF2 := cf' hF hb
    refine cw_skip ?_
    refine cw_seq ?_
    refine cw_seq ?_
    refine cw_region ?_
    refine sq 11 rfl rfl (Y_fieldAddr (B := some ⟨b1, 0, none⟩) (i := 0) (s := 0) k_fd_55_1_4_3 k_sz_3_1 rfl rfl) ?_
    refine sq 12 rfl rfl (Y_load1 (B := some ⟨b1, 0, none⟩) (i := 4) (cs := [.int .i64 a.Num.A, .int .i64 a.Num.B, .int .i64 a.Num.C, .int .i64 a.Num.D, .int .i64 a.Exp]) (v := .int .i64 a.Exp) k_sc_3 rfl rfl (hS3.cf (i := 0) rfl) rfl) ?_
    refine sq 13 rfl rfl (Y_fieldAddr (B := some ⟨b2, 0, none⟩) (i := 0) (s := 0) k_fd_55_1_4_3 k_sz_3_1 rfl rfl) ?_
    refine sq 14 rfl rfl (Y_load1 (B := some ⟨b2, 0, none⟩) (i := 4) (cs := [.int .i64 b.Num.A, .int .i64 b.Num.B, .int .i64 b.Num.C, .int .i64 b.Num.D, .int .i64 b.Exp]) (v := .int .i64 b.Exp) k_sc_3 rfl rfl (hS3.cf (i := 1) rfl) rfl) ?_
    refine sq 15 rfl rfl (Y_ne (k := .i64) (a := a.Exp) (b := b.Exp) rfl rfl rfl) ?_
    refine rw_nil ?_
    refine cw_cond (b := (a.Exp != b.Exp)) rfl (fun hb1 => ?_) (fun hb1 => ?_)
    · skip
      have hF3 := ct hF2 hb1
      refine cw_seq ?_
      refine cw_region ?_
      refine sq 4 rfl rfl (Y_assign (v := .bool false) rfl rfl) ?_
      refine rw_nil ?_
      refine cw_ret ?_
      obtain rfl := some_inj hF3
      exact ret1 Try.results200 (v1 := .bool false) (resAt_tmp rfl) ⟨rfl, (ST.subR (R' := []) (hS3.sel [] rfl rfl) (fun _ h => by cases h))⟩
    · skip
      have hF4 := cf' hF2 hb1
      refine cw_skip ?_
      refine cw_seq ?_
      refine cw_region ?_
      refine sq 4 rfl rfl (Y_assign (v := .bool true) rfl rfl) ?_
      refine rw_nil ?_
      refine cw_ret ?_
      obtain rfl := some_inj hF4
      exact ret1 Try.results200 (v1 := .bool true) (resAt_tmp rfl) ⟨rfl, (ST.subR (R' := []) (hS3.sel [] rfl rfl) (fun _ h => by cases h))⟩

theorem c_laws_eqDyadicS (a : List TDyadic) (b : List TDyadic) (B : Option Addr) (c n : Nat) (B1 : Option Addr) (c1 n1 : Nat) (w0 : World) (hn : a.length = n) (hn1 : b.length = n1) (hS : ST w0 [] w0 [] [⟨B, (a.flatMap enc_Dyadic)⟩, ⟨B1, (b.flatMap enc_Dyadic)⟩]) {r_ : Bool} (hF : F_laws_eqDyadicS a b = some r_) :
    CV Try.prog 88 #[.slice B n c, .slice B1 n1 c1] w0 (fun v w' => v = .bool r_ ∧ ST w0 [] w' [] []) := by
  subst hn
  subst hn1
  unfold F_laws_eqDyadicS at hF
  refine cv_of_cw 27 Try.func88 rfl Try.ntmps88 rfl ?_
  refine cw_seq ?_
  refine cw_region ?_
  refine sq 4 rfl rfl (Y_assign (v := .bool false) rfl rfl) ?_
  refine rw_nil ?_
  refine cw_seq ?_
  refine cw_seq ?_
  refine cw_region ?_
  refine sq 6 rfl rfl (Y_move (v := .slice B a.length c) rfl rfl) ?_
  refine sq 7 rfl rfl (Y_len (B := B) (m := a.length) (c := c) k_sl_28_55 rfl rfl) ?_
  refine sq 8 rfl rfl (Y_move (v := .slice B1 b.length c1) rfl rfl) ?_
  refine sq 9 rfl rfl (Y_len (B := B1) (m := b.length) (c := c1) k_sl_28_55 rfl rfl) ?_
  refine sq 10 rfl rfl (Y_ne (k := .i64) (a := (a.length : Int)) (b := (b.length : Int)) rfl rfl rfl) ?_
  refine rw_nil ?_
  refine cw_cond (b := ((a.length : Int) != (b.length : Int))) rfl (fun hb => ?_) (fun hb => ?_)
  · skip
    have hF1 := ct hF hb
    refine cw_seq ?_
    refine cw_region ?_
    refine sq 4 rfl rfl (Y_assign (v := .bool false) rfl rfl) ?_
    refine rw_nil ?_
    refine cw_ret ?_
    obtain rfl := some_inj hF1
    exact ret1 Try.results88 (v1 := .bool false) (resAt_tmp rfl) ⟨rfl, (ST.subR (R' := []) (hS.sel [] rfl rfl) (fun _ h => by cases h))⟩
  · skip
    have hF2 := cf' hF hb
    refine cw_skip ?_
    refine cw_seq ?_
    refine cw_seq ?_
    refine cw_region ?_
    refine sq 5 rfl rfl (Y_assign (v := .int .i64 0) rfl rfl) ?_
    refine rw_nil ?_
    obtain ⟨hN, hF2⟩ := chk_inv hF2
    obtain ⟨z, hz, hF3⟩ := bind_inv hF2
    refine cw_block ?_
    refine cw_loop (fun k f w => ∃ (i1 : Nat), FF f [(0, .slice B a.length c), (1, .slice B1 b.length c1), (5, .int .i64 (i1 : Int))] ∧ ST w0 [] w [] [⟨B, (a.flatMap enc_Dyadic)⟩, ⟨B1, (b.flatMap enc_Dyadic)⟩] ∧ i1 + k = a.length ∧ forX (F_laws_eqDyadicS_l1 a b) k i1 () = some z) a.length ⟨0, (FF.cons rfl (FF.cons rfl (FF.cons rfl FF.nil))), (hS.sel [] rfl rfl), Nat.zero_add _, hz⟩ ?_
    rintro k_ f w ⟨i1, hf, hS1, hik, hL⟩
    refine cw_seq ?_
    refine cw_seq ?_
    refine cw_region ?_
    refine sq 11 rfl rfl (Y_move (v := .int .i64 (i1 : Int)) rfl (hf.get 5 2 rfl)) ?_
    refine sq 12 rfl rfl (Y_move (v := .slice B a.length c) rfl (hf.get 0 0 rfl)) ?_
    refine sq 13 rfl rfl (Y_len (B := B) (m := a.length) (c := c) k_sl_28_55 rfl rfl) ?_
    refine sq 14 rfl rfl (Y_lt (k := .i64) (a := (i1 : Int)) (b := (a.length : Int)) rfl rfl rfl) ?_
    refine rw_nil ?_
    refine cw_cond (b := (decide ((i1 : Int) < (a.length : Int)))) rfl (fun hlt => ?_) (fun hlt => ?_)
    · skip
      have hlt1 : i1 < a.length := by have h := of_decide_eq_true hlt; omega
      obtain ⟨k_1, rfl⟩ : ∃ k2, k_ = k2 + 1 := ⟨k_ - 1, by omega⟩
      obtain ⟨y, hb1, hL1⟩ := forX_go hL
      unfold F_laws_eqDyadicS_l1 at hb1
      refine cw_skip ?_
      refine cw_seq ?_
      refine cw_block ?_
      refine cw_seq ?_
      obtain ⟨x, hx, hb1⟩ := bind_inv hb1
      obtain ⟨x1, hx1, hb1⟩ := bind_inv hb1
      obtain ⟨r_1, hc, hb1⟩ := bind_inv hb1
      refine ra_start (ST.sel hS1 [] rfl rfl).fn (by kernel_rfl) ?_
      have hS3 := hS1.drew
      refine ra_q 0 17 (v := .slice B a.length c) rfl rfl rfl (by kernel_rfl) (by kernel_rfl) (by kernel_rfl) (ST.sel hS3 [] rfl rfl) (fun w' hw' => (Y_move (v := .slice B a.length c) rfl (hf.get 0 0 rfl))) ?_
      refine ra_q 1 18 (v := .int .i64 (i1 : Int)) rfl rfl rfl (by kernel_rfl) (by kernel_rfl) (by kernel_rfl) (ST.sel hS3 [] rfl rfl) (fun w' hw' => (Y_move (v := .int .i64 (i1 : Int)) rfl (hf.get 5 2 rfl))) ?_
      refine ra_q 2 19 (v := pt B ((i1 : Int).toNat * 5)) rfl rfl rfl (by kernel_rfl) (by kernel_rfl) (by kernel_rfl) (ST.sel hS3 [] rfl rfl) (fun w' hw' => (Y_index (B := B) (m := a.length) (c := c) (k := .i64) (i := (i1 : Int)) k_sl_28_55 k_sz_55_5 rfl rfl rfl (gi_isSome enc_Dyadic_len rfl (ST.rf hw' (i := 0) rfl) hx) (getI_nn hx) (getI_ltI hx rfl))) ?_
      refine ra_q 3 20 (v := .agg #[.int .i64 x.Num.A, .int .i64 x.Num.B, .int .i64 x.Num.C, .int .i64 x.Num.D, .int .i64 x.Exp]) rfl rfl rfl (by kernel_rfl) (by kernel_rfl) (by kernel_rfl) (ST.sel hS3 [] rfl rfl) (fun w' hw' => (Y_loadA (B := B) (i := (i1 : Int).toNat * 5) (cs := (a.flatMap enc_Dyadic)) (vs := [.int .i64 x.Num.A, .int .i64 x.Num.B, .int .i64 x.Num.C, .int .i64 x.Num.D, .int .i64 x.Exp]) k_ag_55 k_sz_55_5 rfl rfl (ST.rf hw' (i := 0) rfl) (enc_Dyadic_len x) (gi_seg enc_Dyadic_len hx))) ?_
      refine ra_q 4 21 (v := .slice B1 b.length c1) rfl rfl rfl (by kernel_rfl) (by kernel_rfl) (by kernel_rfl) (ST.sel hS3 [] rfl rfl) (fun w' hw' => (Y_move (v := .slice B1 b.length c1) rfl (hf.get 1 1 rfl))) ?_
      refine ra_q 5 22 (v := .int .i64 (i1 : Int)) rfl rfl rfl (by kernel_rfl) (by kernel_rfl) (by kernel_rfl) (ST.sel hS3 [] rfl rfl) (fun w' hw' => (Y_move (v := .int .i64 (i1 : Int)) rfl (hf.get 5 2 rfl))) ?_
      refine ra_q 6 23 (v := pt B1 ((i1 : Int).toNat * 5)) rfl rfl rfl (by kernel_rfl) (by kernel_rfl) (by kernel_rfl) (ST.sel hS3 [] rfl rfl) (fun w' hw' => (Y_index (B := B1) (m := b.length) (c := c1) (k := .i64) (i := (i1 : Int)) k_sl_28_55 k_sz_55_5 rfl rfl rfl (gi_isSome enc_Dyadic_len rfl (ST.rf hw' (i := 1) rfl) hx1) (getI_nn hx1) (getI_ltI hx1 rfl))) ?_
      refine ra_q 7 24 (v := .agg #[.int .i64 x1.Num.A, .int .i64 x1.Num.B, .int .i64 x1.Num.C, .int .i64 x1.Num.D, .int .i64 x1.Exp]) rfl rfl rfl (by kernel_rfl) (by kernel_rfl) (by kernel_rfl) (ST.sel hS3 [] rfl rfl) (fun w' hw' => (Y_loadA (B := B1) (i := (i1 : Int).toNat * 5) (cs := (b.flatMap enc_Dyadic)) (vs := [.int .i64 x1.Num.A, .int .i64 x1.Num.B, .int .i64 x1.Num.C, .int .i64 x1.Num.D, .int .i64 x1.Exp]) k_ag_55 k_sz_55_5 rfl rfl (ST.rf hw' (i := 1) rfl) (enc_Dyadic_len x1) (gi_seg enc_Dyadic_len hx1))) ?_
      refine ra_all (rs := [8]) (by kernel_rfl) rfl ?_
      refine ra_c 25 (i := 8) rfl rfl rfl (Yc_func (g := 200) (vs := [.agg #[.int .i64 x.Num.A, .int .i64 x.Num.B, .int .i64 x.Num.C, .int .i64 x.Num.D, .int .i64 x.Exp], .agg #[.int .i64 x1.Num.A, .int .i64 x1.Num.B, .int .i64 x1.Num.C, .int .i64 x1.Num.D, .int .i64 x1.Exp]]) k_call_200 rfl (mc rfl (mc rfl mn)) (c_laws_eqDyadic x x1 _  (hS3.inn0 [] rfl) hc)) ?_ ?_
      · rintro _ w_ ⟨rfl, hd⟩
        have hS4 := hS3.out00 hd
        refine ⟨(ST.sel hS4 [] rfl rfl), ?_⟩
        refine ra_q 9 26 (v := .bool (!r_1)) rfl rfl rfl (by kernel_rfl) (by kernel_rfl) (by kernel_rfl) (ST.sel hS4 [] rfl rfl) (fun w' hw' => (Y_not (p := r_1) rfl rfl)) ?_
        refine ra_done (by kernel_rfl) ?_
        refine cw_cond (b := (!r_1)) rfl (fun hb2 => ?_) (fun hb2 => ?_)
        · skip
          have hF4 := ct hb1 hb2
          refine cw_seq ?_
          refine cw_region ?_
          refine sq 4 rfl rfl (Y_assign (v := .bool false) rfl rfl) ?_
          refine rw_nil ?_
          refine cw_ret ?_
          obtain rfl := some_inj hF4
          obtain rfl := some_inj hL1
          obtain rfl := some_inj hF3
          exact ret1 Try.results88 (v1 := .bool false) (resAt_tmp rfl) ⟨rfl, (ST.subR (R' := []) (hS4.sel [] rfl rfl) (fun _ h => by cases h))⟩
        · skip
          have hF5 := cf' hb1 hb2
          refine cw_skip ?_
          refine cw_region ?_
          refine sq 15 rfl rfl (Y_move (v := .int .i64 (i1 : Int)) rfl (hf.get 5 2 rfl)) ?_
          refine sq 16 rfl rfl (Y_add (k := .i64) (a := (i1 : Int)) (b := 1) rfl rfl rfl) ?_
          refine sq 5 rfl rfl (Y_assign (v := .int .i64 (IntKind.i64.wrap ((i1 : Int) + 1))) rfl rfl) ?_
          refine rw_nil ?_
          obtain rfl := some_inj hF5
          exact ⟨k_1, Nat.lt_succ_self _, i1 + 1, (FF.cons (hf.get 0 0 rfl) (FF.cons (hf.get 1 1 rfl) (FF.cons (congrArg (Value.int .i64) (wr_succ hlt1 hN)) FF.nil))), (hS4.sel [] rfl rfl), (by omega), hL1⟩
      exact allR_nil
    · skip
      obtain rfl : k_ = 0 := by have h := of_decide_eq_false hlt; omega
      refine cw_exit rfl ?_
      obtain rfl := some_inj hL
      refine cw_seq ?_
      refine cw_region ?_
      refine sq 4 rfl rfl (Y_assign (v := .bool true) rfl rfl) ?_
      refine rw_nil ?_
      refine cw_ret ?_
      obtain rfl := some_inj hF3
      exact ret1 Try.results88 (v1 := .bool true) (resAt_tmp rfl) ⟨rfl, (ST.subR (R' := []) (hS1.sel [] rfl rfl) (fun _ h => by cases h))⟩

theorem c_laws_eqBloch (a : TBloch) (b : TBloch) (B : Option Addr) (c n : Nat) (B1 : Option Addr) (c1 n1 : Nat) (w0 : World) (hn : a.Cells.length = n) (hn1 : b.Cells.length = n1) (hS : ST w0 [] w0 [] [⟨B, (a.Cells.flatMap enc_Dyadic)⟩, ⟨B1, (b.Cells.flatMap enc_Dyadic)⟩]) {r_ : Bool} (hF : F_laws_eqBloch a b = some r_) :
    CV Try.prog 17 #[.agg #[.slice B n c], .agg #[.slice B1 n1 c1]] w0 (fun v w' => v = .bool r_ ∧ ST w0 [] w' [] []) := by
  subst hn
  subst hn1
  unfold F_laws_eqBloch at hF
  refine cv_of_cw 11 Try.func17 rfl Try.ntmps17 rfl ?_
  refine cw_seq ?_
  refine cw_region ?_
  refine ss 2 rfl rfl (Ys_box (T := 30) (v := .agg #[.slice B a.Cells.length c]) (cs := [.slice B a.Cells.length c]) (m := 1) hS rfl rfl rfl rfl) ?_
  rintro _ w_ ⟨b1, rfl, hS1⟩
  refine ss 3 rfl rfl (Ys_box (T := 30) (v := .agg #[.slice B1 b.Cells.length c1]) (cs := [.slice B1 b.Cells.length c1]) (m := 1) hS1 rfl rfl rfl rfl) ?_
  rintro _ w_1 ⟨b2, rfl, hS2⟩
  have hS2 : ST w0 [] _ [⟨some ⟨b1, 0, none⟩, 30, [.slice B a.Cells.length c], 1⟩, ⟨some ⟨b2, 0, none⟩, 30, [.slice B1 b.Cells.length c1], 1⟩] [⟨B, (a.Cells.flatMap enc_Dyadic)⟩, ⟨B1, (b.Cells.flatMap enc_Dyadic)⟩] := hS2
  refine sq 4 rfl rfl (Y_assign (v := .bool false) rfl rfl) ?_
  refine rw_nil ?_
  refine cw_seq ?_
  refine cw_seq ?_
  refine cw_region ?_
  refine sq 5 rfl rfl (Y_fieldAddr (B := some ⟨b1, 0, none⟩) (i := 0) (s := 0) k_fd_30_0_0_28 k_sz_28_1 rfl rfl) ?_
  refine sq 6 rfl rfl (Y_load1 (B := some ⟨b1, 0, none⟩) (i := 0) (cs := [.slice B a.Cells.length c]) (v := .slice B a.Cells.length c) k_sc_28 rfl rfl (hS2.cf (i := 0) rfl) rfl) ?_
  refine sq 7 rfl rfl (Y_fieldAddr (B := some ⟨b2, 0, none⟩) (i := 0) (s := 0) k_fd_30_0_0_28 k_sz_28_1 rfl rfl) ?_
  refine sq 8 rfl rfl (Y_load1 (B := some ⟨b2, 0, none⟩) (i := 0) (cs := [.slice B1 b.Cells.length c1]) (v := .slice B1 b.Cells.length c1) k_sc_28 rfl rfl (hS2.cf (i := 1) rfl) rfl) ?_
  obtain ⟨r_1, hc, hF⟩ := bind_inv hF
  refine sc 9 rfl rfl (Yc_func (g := 88) (vs := [.slice B a.Cells.length c, .slice B1 b.Cells.length c1]) k_call_88 rfl (mc rfl (mc rfl mn)) (c_laws_eqDyadicS a.Cells b.Cells B c a.Cells.length B1 c1 b.Cells.length _ rfl rfl (hS2.inn0 [(true, 0), (true, 1)] rfl) hc)) ?_
  rintro _ w_2 ⟨rfl, hd⟩
  have hS3 := hS2.out00 hd
  have hS3 : ST w0 [] _ [⟨some ⟨b1, 0, none⟩, 30, [.slice B a.Cells.length c], 1⟩, ⟨some ⟨b2, 0, none⟩, 30, [.slice B1 b.Cells.length c1], 1⟩] [⟨B, (a.Cells.flatMap enc_Dyadic)⟩, ⟨B1, (b.Cells.flatMap enc_Dyadic)⟩] := hS3
  refine sq 10 rfl rfl (Y_not (p := r_1) rfl rfl) ?_
  refine rw_nil ?_
  refine cw_cond (b := (!r_1)) rfl (fun hb => ?_) (fun hb => ?_)
  · skip
    have hF1 := ct hF hb
    refine cw_seq ?_
    refine cw_region ?_
    refine sq 4 rfl rfl (Y_assign (v := .bool false) rfl rfl) ?_
    refine rw_nil ?_
    refine cw_ret ?_
    obtain rfl := some_inj hF1
    exact ret1 Try.results17 (v1 := .bool false) (resAt_tmp rfl) ⟨rfl, (ST.subR (R' := []) (hS3.sel [] rfl rfl) (fun _ h => by cases h))⟩
  · skip
    have hF2 := cf' hF hb
    refine cw_skip ?_
    refine cw_seq ?_
    refine cw_region ?_
    refine sq 4 rfl rfl (Y_assign (v := .bool true) rfl rfl) ?_
    refine rw_nil ?_
    refine cw_ret ?_
    obtain rfl := some_inj hF2
    exact ret1 Try.results17 (v1 := .bool true) (resAt_tmp rfl) ⟨rfl, (ST.subR (R' := []) (hS3.sel [] rfl rfl) (fun _ h => by cases h))⟩

theorem c_laws_FnExactParityOf (aB : TBloch) (B : Option Addr) (c n : Nat) (w0 : World) (hn : aB.Cells.length = n) (hS : ST w0 [] w0 [] [⟨B, (aB.Cells.flatMap enc_Dyadic)⟩]) {r_ : Bool} (hF : F_laws_FnExactParityOf aB = some r_) :
    CV Try.prog 3 #[.agg #[.slice B n c]] w0 (fun v w' => v = .bool r_ ∧ ST w0 [] w' [] []) := by
  subst hn
  unfold F_laws_FnExactParityOf at hF
  refine cv_of_cw 40 Try.func3 rfl Try.ntmps3 rfl ?_
  refine cw_seq ?_
  refine cw_region ?_
  refine ss 1 rfl rfl (Ys_box (T := 24) (v := .agg #[.slice B aB.Cells.length c]) (cs := [.slice B aB.Cells.length c]) (m := 1) hS rfl rfl rfl rfl) ?_
  rintro _ w_ ⟨b, rfl, hS1⟩
  refine sq 2 rfl rfl (Y_assign (v := .bool false) rfl rfl) ?_
  refine rw_nil ?_
  refine cw_seq ?_
  refine cw_region ?_
  refine sq 3 rfl rfl (Y_assign (v := .int .i64 1048576) rfl rfl) ?_
  refine rw_nil ?_
  refine cw_seq ?_
  refine cw_region ?_
  refine sq 9 rfl rfl (Y_loadA (B := some ⟨b, 0, none⟩) (i := 0) (cs := [.slice B aB.Cells.length c]) (vs := [.slice B aB.Cells.length c]) k_ag_24 k_sz_24_1 rfl rfl (hS1.cf (i := 0) rfl) rfl rfl) ?_
  refine sq 10 rfl rfl (Y_move (v := .int .i64 1048576) rfl rfl) ?_
  obtain ⟨r_1, hc, hF⟩ := bind_inv hF
  refine sc 11 rfl rfl (Yc_func (g := 13) (vs := [.agg #[.slice B aB.Cells.length c], .int .i64 1048576]) k_call_13 rfl (mc rfl (mc rfl mn)) (c_laws_szBloch aB 1048576 B c aB.Cells.length _ rfl (hS1.inn0 [(true, 0)] rfl) hc)) ?_
  rintro _ w_1 ⟨rfl, hd⟩
  have hS2 := hS1.out00 hd
  refine sq 3 rfl rfl (Y_assign (v := .int .i64 r_1) rfl rfl) ?_
  refine rw_nil ?_
  refine cw_seq ?_
  refine cw_seq ?_
  refine cw_region ?_
  refine sq 12 rfl rfl (Y_move (v := .int .i64 r_1) rfl rfl) ?_
  refine sq 13 rfl rfl (Y_lt (k := .i64) (a := r_1) (b := 0) rfl rfl rfl) ?_
  refine rw_nil ?_
  refine cw_cond (b := (decide (r_1 < 0))) rfl (fun hb => ?_) (fun hb => ?_)
  · skip
    have hF1 := ct hF hb
    refine cw_seq ?_
    refine cw_region ?_
    refine sq 2 rfl rfl (Y_assign (v := .bool true) rfl rfl) ?_
    refine rw_nil ?_
    refine cw_ret ?_
    obtain rfl := some_inj hF1
    exact ret1 Try.results3 (v1 := .bool true) (resAt_tmp rfl) ⟨rfl, (ST.subR (R' := []) (hS2.sel [] rfl rfl) (fun _ h => by cases h))⟩
  · skip
    have hF2 := cf' hF hb
    refine cw_skip ?_
    refine cw_seq ?_
    refine cw_region ?_
    refine sq 15 rfl rfl (Y_loadA (B := some ⟨b, 0, none⟩) (i := 0) (cs := [.slice B aB.Cells.length c]) (vs := [.slice B aB.Cells.length c]) k_ag_24 k_sz_24_1 rfl rfl (hS2.cf (i := 0) rfl) rfl rfl) ?_
    obtain ⟨r_2, hc1, hF2⟩ := bind_inv hF2
    refine sc 16 rfl rfl (Yc_func (g := 15) (vs := [.agg #[.slice B aB.Cells.length c]]) k_call_15 rfl (mc rfl mn) (c_laws_toBloch aB B c aB.Cells.length _ rfl (hS2.inn0 [(true, 0)] rfl) hc1)) ?_
    rintro _ w_2 ⟨B1, c1, rfl, hd1⟩
    have hS3 := hS2.out0 hd1
    have hS3 : ST w0 [] _ [⟨some ⟨b, 0, none⟩, 24, [.slice B aB.Cells.length c], 1⟩, ⟨B1, 55, (r_2.Cells.flatMap enc_Dyadic), c1 * 5⟩] [⟨B, (aB.Cells.flatMap enc_Dyadic)⟩] := hS3
    obtain ⟨⟨r_3, r_4⟩, hc2, hF2⟩ := bind_inv hF2
    refine sc 17 rfl rfl (Yc_func (g := 14) (vs := [.agg #[.slice B1 r_2.Cells.length c1]]) k_call_14 rfl (mc rfl mn) (c_spec_ParityOf r_2 B1 c1 r_2.Cells.length _ rfl (hS3.inn0 [(false, 1)] rfl) hc2)) ?_
    rintro _ w_3 ⟨rfl, hd2⟩
    have hS4 := hS3.out00 hd2
    have hS4 : ST w0 [] _ [⟨some ⟨b, 0, none⟩, 24, [.slice B aB.Cells.length c], 1⟩, ⟨B1, 55, (r_2.Cells.flatMap enc_Dyadic), c1 * 5⟩] [⟨B, (aB.Cells.flatMap enc_Dyadic)⟩] := hS4
    refine sq 14 rfl rfl (Y_move (v := .tuple #[.string (bstr r_3), .bool r_4]) rfl rfl) ?_
    refine sq 18 rfl rfl (Y_extract (v := .string (bstr r_3)) rfl rfl rfl) ?_
    refine sq 19 rfl rfl (Y_extract (v := .bool r_4) rfl rfl rfl) ?_
    refine sq 4 rfl rfl (Y_assign (v := .string (bstr r_3)) rfl rfl) ?_
    refine sq 5 rfl rfl (Y_assign (v := .bool r_4) rfl rfl) ?_
    refine rw_nil ?_
    refine cw_seq ?_
    refine cw_region ?_
    refine sq 20 rfl rfl (Y_loadA (B := some ⟨b, 0, none⟩) (i := 0) (cs := [.slice B aB.Cells.length c]) (vs := [.slice B aB.Cells.length c]) k_ag_24 k_sz_24_1 rfl rfl (hS4.cf (i := 0) rfl) rfl rfl) ?_
    obtain ⟨r_5, hc3, hF2⟩ := bind_inv hF2
    refine sc 21 rfl rfl (Yc_func (g := 15) (vs := [.agg #[.slice B aB.Cells.length c]]) k_call_15 rfl (mc rfl mn) (c_laws_toBloch aB B c aB.Cells.length _ rfl (hS4.inn0 [(true, 0)] rfl) hc3)) ?_
    rintro _ w_4 ⟨B2, c2, rfl, hd3⟩
    have hS5 := hS4.out0 hd3
    have hS5 : ST w0 [] _ [⟨some ⟨b, 0, none⟩, 24, [.slice B aB.Cells.length c], 1⟩, ⟨B1, 55, (r_2.Cells.flatMap enc_Dyadic), c1 * 5⟩, ⟨B2, 55, (r_5.Cells.flatMap enc_Dyadic), c2 * 5⟩] [⟨B, (aB.Cells.flatMap enc_Dyadic)⟩] := hS5
    refine ss 6 rfl rfl (Ys_alloc (T := 30) (cs := [.slice none 0 0]) (m := 1) hS5 k_zero_30 rfl rfl rfl) ?_
    rintro _ w_5 ⟨b1, rfl, hS6⟩
    have hS6 : ST w0 [] _ [⟨some ⟨b, 0, none⟩, 24, [.slice B aB.Cells.length c], 1⟩, ⟨B1, 55, (r_2.Cells.flatMap enc_Dyadic), c1 * 5⟩, ⟨B2, 55, (r_5.Cells.flatMap enc_Dyadic), c2 * 5⟩, ⟨some ⟨b1, 0, none⟩, 30, [.slice none 0 0], 1⟩] [⟨B, (aB.Cells.flatMap enc_Dyadic)⟩] := hS6
    refine ss0 rfl rfl (Ys_store (i := 3) (s := 1) (B := some ⟨b1, 0, none⟩) (T' := 30) (v := .agg #[.slice B2 r_5.Cells.length c2]) (vs := [.slice B2 r_5.Cells.length c2]) (k := 0) (cs' := [.slice B2 r_5.Cells.length c2]) hS6 k_sz_30_1 rfl rfl rfl rfl rfl rfl rfl (Nat.le_of_ble_eq_true rfl) rfl rfl) ?_
    rintro _ w_6 ⟨rfl, hS7⟩
    have hS7 : ST w0 [] _ [⟨some ⟨b, 0, none⟩, 24, [.slice B aB.Cells.length c], 1⟩, ⟨B1, 55, (r_2.Cells.flatMap enc_Dyadic), c1 * 5⟩, ⟨B2, 55, (r_5.Cells.flatMap enc_Dyadic), c2 * 5⟩, ⟨some ⟨b1, 0, none⟩, 30, [.slice B2 r_5.Cells.length c2], 1⟩] [⟨B, (aB.Cells.flatMap enc_Dyadic)⟩] := hS7
    refine rw_nil ?_
    refine cw_seq ?_
    refine cw_region ?_
    refine sq 23 rfl rfl (Y_loadA (B := some ⟨b1, 0, none⟩) (i := 0) (cs := [.slice B2 r_5.Cells.length c2]) (vs := [.slice B2 r_5.Cells.length c2]) k_ag_30 k_sz_30_1 rfl rfl (hS7.cf (i := 3) rfl) rfl rfl) ?_
    obtain ⟨⟨r_6, r_7⟩, hc4, hF2⟩ := bind_inv hF2
    refine sc 24 rfl rfl (Yc_func (g := 16) (vs := [.agg #[.slice B2 r_5.Cells.length c2]]) k_call_16 rfl (mc rfl mn) (c_impl_ParityOf r_5 B2 c2 r_5.Cells.length _ rfl (hS7.inn0 [(false, 2)] rfl) hc4)) ?_
    rintro _ w_7 ⟨rfl, hd4⟩
    have hS8 := hS7.out00 hd4
    have hS8 : ST w0 [] _ [⟨some ⟨b, 0, none⟩, 24, [.slice B aB.Cells.length c], 1⟩, ⟨B1, 55, (r_2.Cells.flatMap enc_Dyadic), c1 * 5⟩, ⟨B2, 55, (r_5.Cells.flatMap enc_Dyadic), c2 * 5⟩, ⟨some ⟨b1, 0, none⟩, 30, [.slice B2 r_5.Cells.length c2], 1⟩] [⟨B, (aB.Cells.flatMap enc_Dyadic)⟩] := hS8
    refine sq 22 rfl rfl (Y_move (v := .tuple #[.string (bstr r_6), .bool r_7]) rfl rfl) ?_
    refine sq 25 rfl rfl (Y_extract (v := .string (bstr r_6)) rfl rfl rfl) ?_
    refine sq 26 rfl rfl (Y_extract (v := .bool r_7) rfl rfl rfl) ?_
    refine sq 7 rfl rfl (Y_assign (v := .string (bstr r_6)) rfl rfl) ?_
    refine sq 8 rfl rfl (Y_assign (v := .bool r_7) rfl rfl) ?_
    refine rw_nil ?_
    refine cw_seq ?_
    refine cw_seq ?_
    refine cw_region ?_
    refine sq 27 rfl rfl (Y_move (v := .string (bstr r_6)) rfl rfl) ?_
    refine sq 28 rfl rfl (Y_move (v := .string (bstr r_3)) rfl rfl) ?_
    refine sq 29 rfl rfl (Y_sne (a := r_6) (b := r_3) rfl rfl rfl) ?_
    refine sq 30 rfl rfl (Y_move (v := .bool (!(r_6 == r_3))) rfl rfl) ?_
    refine sgq 31 (B := (!(!(r_6 == r_3)))) (v := .bool r_7) rfl rfl (wt_f (gd_of (t := 30) (by kernel_rfl) rfl)) (fun hg => (Y_move (v := .bool r_7) rfl rfl)) ?_
    refine sgq 32 (B := (!(!(r_6 == r_3)))) (v := .bool r_4) rfl rfl (wt_f (gd_of (t := 30) (by kernel_rfl) rfl)) (fun hg1 => (Y_move (v := .bool r_4) rfl rfl)) ?_
    refine sgq 33 (B := (!(!(r_6 == r_3)))) (v := .bool (!(r_7 == r_4))) rfl rfl (wt_f (gd_of (t := 30) (by kernel_rfl) rfl)) (fun hg2 => (Y_bne (p := r_7) (q := r_4) k_und_4 rfl (gv_of (B := (!(!(r_6 == r_3)))) (v := .bool r_7) hg2) (gv_of (B := (!(!(r_6 == r_3)))) (v := .bool r_4) hg2))) ?_
    refine sq 34 rfl rfl (Y_or (b := (!(r_6 == r_3))) (z := (!(r_7 == r_4))) rfl rfl rfl rfl) ?_
    refine rw_nil ?_
    refine cw_cond (b := ((!(r_6 == r_3)) || (!(r_7 == r_4)))) rfl (fun hb1 => ?_) (fun hb1 => ?_)
    · skip
      have hF3 := ct hF2 hb1
      refine cw_seq ?_
      refine cw_region ?_
      refine sq 2 rfl rfl (Y_assign (v := .bool false) rfl rfl) ?_
      refine rw_nil ?_
      refine cw_ret ?_
      obtain rfl := some_inj hF3
      exact ret1 Try.results3 (v1 := .bool false) (resAt_tmp rfl) ⟨rfl, (ST.subR (R' := []) (hS8.sel [] rfl rfl) (fun _ h => by cases h))⟩
    · skip
      have hF4 := cf' hF2 hb1
      refine cw_skip ?_
      refine cw_seq ?_
      refine cw_seq ?_
      obtain ⟨r_8, hc5, hF4⟩ := bind_inv hF4
      obtain ⟨r_9, hc6, hF4⟩ := bind_inv hF4
      refine ra_start (ST.sel hS8 [0, 1, 2, 3] rfl rfl).fn (by kernel_rfl) ?_
      have hS11 := hS8.drew
      refine ra_q 0 35 (v := .agg #[.slice B2 r_5.Cells.length c2]) rfl rfl rfl (by kernel_rfl) (by kernel_rfl) (by kernel_rfl) (ST.sel hS11 [0, 1, 2, 3] rfl rfl) (fun w' hw' => (Y_loadA (B := some ⟨b1, 0, none⟩) (i := 0) (cs := [.slice B2 r_5.Cells.length c2]) (vs := [.slice B2 r_5.Cells.length c2]) k_ag_30 k_sz_30_1 rfl rfl (ST.cf hw' (i := 3) rfl) rfl rfl)) ?_
      refine ra_q 1 36 (v := .agg #[.slice B aB.Cells.length c]) rfl rfl rfl (by kernel_rfl) (by kernel_rfl) (by kernel_rfl) (ST.sel hS11 [0, 1, 2, 3] rfl rfl) (fun w' hw' => (Y_loadA (B := some ⟨b, 0, none⟩) (i := 0) (cs := [.slice B aB.Cells.length c]) (vs := [.slice B aB.Cells.length c]) k_ag_24 k_sz_24_1 rfl rfl (ST.cf hw' (i := 0) rfl) rfl rfl)) ?_
      refine ra_all (rs := [2]) (by kernel_rfl) rfl ?_
      refine ra_c 37 (i := 2) rfl rfl rfl (Yc_func (g := 15) (vs := [.agg #[.slice B aB.Cells.length c]]) k_call_15 rfl (mc rfl mn) (c_laws_toBloch aB B c aB.Cells.length _ rfl (hS11.inn0 [(true, 0)] rfl) hc5)) ?_ ?_
      · rintro _ w_8 ⟨B3, c3, rfl, hd5⟩
        have hS12 := hS11.out0 hd5
        have hS12 : ST w0 [] _ [⟨some ⟨b, 0, none⟩, 24, [.slice B aB.Cells.length c], 1⟩, ⟨B1, 55, (r_2.Cells.flatMap enc_Dyadic), c1 * 5⟩, ⟨B2, 55, (r_5.Cells.flatMap enc_Dyadic), c2 * 5⟩, ⟨some ⟨b1, 0, none⟩, 30, [.slice B2 r_5.Cells.length c2], 1⟩, ⟨B3, 55, (r_8.Cells.flatMap enc_Dyadic), c3 * 5⟩] [⟨B, (aB.Cells.flatMap enc_Dyadic)⟩] := hS12
        refine ⟨(ST.sel hS12 [0, 1, 2, 3] rfl rfl), ?_⟩
        refine ra_all (rs := [3]) (by kernel_rfl) rfl ?_
        refine ra_c 38 (i := 3) rfl rfl rfl (Yc_func (g := 17) (vs := [.agg #[.slice B2 r_5.Cells.length c2], .agg #[.slice B3 r_8.Cells.length c3]]) k_call_17 rfl (mc rfl (mc rfl mn)) (c_laws_eqBloch r_5 r_8 B2 c2 r_5.Cells.length B3 c3 r_8.Cells.length _ rfl rfl (hS12.inn0 [(false, 2), (false, 4)] rfl) hc6)) ?_ ?_
        · rintro _ w_9 ⟨rfl, hd6⟩
          have hS13 := hS12.out00 hd6
          have hS13 : ST w0 [] _ [⟨some ⟨b, 0, none⟩, 24, [.slice B aB.Cells.length c], 1⟩, ⟨B1, 55, (r_2.Cells.flatMap enc_Dyadic), c1 * 5⟩, ⟨B2, 55, (r_5.Cells.flatMap enc_Dyadic), c2 * 5⟩, ⟨some ⟨b1, 0, none⟩, 30, [.slice B2 r_5.Cells.length c2], 1⟩, ⟨B3, 55, (r_8.Cells.flatMap enc_Dyadic), c3 * 5⟩] [⟨B, (aB.Cells.flatMap enc_Dyadic)⟩] := hS13
          refine ⟨(ST.sel hS13 [0, 1, 2, 3] rfl rfl), ?_⟩
          refine ra_q 4 39 (v := .bool (!r_9)) rfl rfl rfl (by kernel_rfl) (by kernel_rfl) (by kernel_rfl) (ST.sel hS13 [0, 1, 2, 3] rfl rfl) (fun w' hw' => (Y_not (p := r_9) rfl rfl)) ?_
          refine ra_done (by kernel_rfl) ?_
          refine cw_cond (b := (!r_9)) rfl (fun hb2 => ?_) (fun hb2 => ?_)
          · skip
            have hF5 := ct hF4 hb2
            refine cw_seq ?_
            refine cw_region ?_
            refine sq 2 rfl rfl (Y_assign (v := .bool false) rfl rfl) ?_
            refine rw_nil ?_
            refine cw_ret ?_
            obtain rfl := some_inj hF5
            exact ret1 Try.results3 (v1 := .bool false) (resAt_tmp rfl) ⟨rfl, (ST.subR (R' := []) (hS13.sel [] rfl rfl) (fun _ h => by cases h))⟩
          · skip
            have hF6 := cf' hF4 hb2
            refine cw_skip ?_
            refine cw_seq ?_
            refine cw_region ?_
            refine sq 2 rfl rfl (Y_assign (v := .bool true) rfl rfl) ?_
            refine rw_nil ?_
            refine cw_ret ?_
            obtain rfl := some_inj hF6
            exact ret1 Try.results3 (v1 := .bool true) (resAt_tmp rfl) ⟨rfl, (ST.subR (R' := []) (hS13.sel [] rfl rfl) (fun _ h => by cases h))⟩
        exact allR_nil
      exact allR_nil
end Go.VK
