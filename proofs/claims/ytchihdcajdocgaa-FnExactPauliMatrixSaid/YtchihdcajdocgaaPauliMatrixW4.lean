/- Walks: each Go function returns what its Lean function says. By program. -/
import Derived.Test.YtchihdcajdocgaaPauliMatrixFa
import Derived.Test.YtchihdcajdocgaaPauliMatrixW3
set_option linter.unusedVariables false
set_option maxRecDepth 100000
set_option maxHeartbeats 1000000
namespace Go.VK
open Go.RowKit
open Go.Proofs
attribute [local irreducible] CW RW RA CV Y Yw Yc Ys RetOf
attribute [local irreducible] F_spec_l1In F_spec_l7Valid F_spec_l7Letter F_spec_l1Turn F_spec_l2Power F_spec_l3Unit F_spec_l1Even F_spec_l1Root F_spec_l1Half F_spec_l2Low F_spec_l1All F_spec_l1Good F_spec_l2C_ring F_spec_l1Add F_spec_l2C_add F_spec_l1Mul F_spec_l2C_mul F_spec_l2C_times F_spec_l6Bit F_spec_l1Neg F_spec_l2Neg F_spec_l6One F_spec_l6Cell F_spec_l6Gate F_spec_l2C_run F_spec_l6Op F_spec_l7Op F_spec_PauliMatrix F_laws_toPauli F_impl_within F_impl_IsValidPauli F_impl_isDim F_impl_matrixOf F_impl_isCoef F_impl_IsValidRing F_impl_MulOmega F_impl_phase F_impl_ringIf F_impl_MulRing F_impl_isEven F_impl_IsValidDyadic F_impl_DivRootTwo F_impl_DyadicOf F_impl_MulDyadic F_impl_whole F_impl_small F_impl_entry F_impl_factor F_impl_letterOf F_impl_bitOf F_impl_PauliMatrix_1 F_impl_PauliMatrix F_laws_eqRing F_laws_eqDyadic F_laws_eqDyadicS F_laws_eqMatrix F_laws_markDyadicS F_laws_markMatrix F_laws_heldDyadicS F_laws_heldMatrix F_laws_FnExactPauliMatrix
theorem c_laws_heldDyadicS (a : List TDyadic) (k_ : Int) (B : Option Addr) (c n : Nat) (w0 : World) (hn : a.length = n) (hS : ST w0 [] w0 [] [⟨B, (a.flatMap enc_Dyadic)⟩]) {r_ : Int} (hF : F_laws_heldDyadicS a k_ = some r_) :
    CV Try.prog 52 #[.slice B n c, .int .i64 k_] w0 (fun v w' => v = .int .i64 r_ ∧ ST w0 [] w' [] []) := by
  subst hn
  unfold F_laws_heldDyadicS at hF
  refine cv_of_cw 62 Try.func52 rfl Try.ntmps52 rfl ?_
  refine cw_seq ?_
  refine cw_region ?_
  refine sq 4 rfl rfl (Y_assign (v := .int .i64 0) rfl rfl) ?_
  refine rw_nil ?_
  refine cw_seq ?_
  refine cw_seq ?_
  refine cw_region ?_
  refine sq 5 rfl rfl (Y_assign (v := .int .i64 0) rfl rfl) ?_
  refine rw_nil ?_
  obtain ⟨hN, hF⟩ := chk_inv hF
  obtain ⟨z, hz, hF1⟩ := bind_inv hF
  refine cw_block ?_
  refine cw_loop (fun k f w => ∃ (i1 : Nat) (k_1 : Int), FF f [(0, .slice B a.length c), (1, .int .i64 k_1), (5, .int .i64 (i1 : Int))] ∧ ST w0 [] w [] [⟨B, (a.flatMap enc_Dyadic)⟩] ∧ i1 + k = a.length ∧ forX (F_laws_heldDyadicS_l1 a) k i1 k_1 = some z) a.length ⟨0, k_, (FF.cons rfl (FF.cons rfl (FF.cons rfl FF.nil))), (hS.sel [] rfl rfl), Nat.zero_add _, hz⟩ ?_
  rintro k_2 f w ⟨i1, k_1, hf, hS1, hik, hL⟩
  refine cw_seq ?_
  refine cw_seq ?_
  refine cw_region ?_
  refine sq 6 rfl rfl (Y_move (v := .int .i64 (i1 : Int)) rfl (hf.get 5 2 rfl)) ?_
  refine sq 7 rfl rfl (Y_move (v := .slice B a.length c) rfl (hf.get 0 0 rfl)) ?_
  refine sq 8 rfl rfl (Y_len (B := B) (m := a.length) (c := c) k_sl_24_44 rfl rfl) ?_
  refine sq 9 rfl rfl (Y_lt (k := .i64) (a := (i1 : Int)) (b := (a.length : Int)) rfl rfl rfl) ?_
  refine rw_nil ?_
  refine cw_cond (b := (decide ((i1 : Int) < (a.length : Int)))) rfl (fun hlt => ?_) (fun hlt => ?_)
  · skip
    have hlt1 : i1 < a.length := by have h := of_decide_eq_true hlt; omega
    obtain ⟨k_3, rfl⟩ : ∃ k2, k_2 = k2 + 1 := ⟨k_2 - 1, by omega⟩
    obtain ⟨y, hb, hL1⟩ := forX_go hL
    unfold F_laws_heldDyadicS_l1 at hb
    refine cw_skip ?_
    refine cw_seq ?_
    refine cw_block ?_
    refine cw_seq ?_
    refine cw_seq ?_
    refine cw_region ?_
    refine sq 12 rfl rfl (Y_move (v := .slice B a.length c) rfl (hf.get 0 0 rfl)) ?_
    refine sq 13 rfl rfl (Y_move (v := .int .i64 (i1 : Int)) rfl (hf.get 5 2 rfl)) ?_
    obtain ⟨x, hx, hb⟩ := bind_inv hb
    refine sq 14 rfl rfl (Y_index (B := B) (m := a.length) (c := c) (k := .i64) (i := (i1 : Int)) k_sl_24_44 k_sz_44_5 rfl rfl rfl (gi_isSome enc_Dyadic_len rfl (hS1.rf (i := 0) rfl) hx) (getI_nn hx) (getI_ltI hx rfl)) ?_
    refine sq 15 rfl rfl (Y_fieldAddr (B := B) (i := (i1 : Int).toNat * 5) (s := 3) k_fd_44_0_0_42 k_sz_42_4 rfl rfl) ?_
    refine sq 16 rfl rfl (Y_fieldAddr2 (B := B) (i := (i1 : Int).toNat * 5) (e := 0) (l := 0) (s := 0) k_fd_42_0_0_3 k_sz_3_1 rfl rfl rfl) ?_
    refine sq 17 rfl rfl (Y_load1 (B := B) (i := (i1 : Int).toNat * 5 + 0) (cs := (a.flatMap enc_Dyadic)) (v := .int .i64 x.Num.A) k_sc_3 rfl rfl (hS1.rf (i := 0) rfl) (gi_at enc_Dyadic_len hx rfl)) ?_
    refine sq 18 rfl rfl (Y_move (v := .int .i64 k_1) rfl (hf.get 1 1 rfl)) ?_
    refine sq 19 rfl rfl (Y_ne (k := .i64) (a := x.Num.A) (b := k_1) rfl rfl rfl) ?_
    refine rw_nil ?_
    refine cw_cond (b := (x.Num.A != k_1)) rfl (fun hb1 => ?_) (fun hb1 => ?_)
    · skip
      have hF2 := ct hb hb1
      refine cw_seq ?_
      refine cw_region ?_
      refine sq 4 rfl rfl (Y_assign (v := .int .i64 (-1)) rfl rfl) ?_
      refine rw_nil ?_
      refine cw_ret ?_
      obtain rfl := some_inj hF2
      obtain rfl := some_inj hL1
      obtain rfl := some_inj hF1
      exact ret1 Try.results52 (v1 := .int .i64 (-1)) (resAt_tmp rfl) ⟨rfl, (ST.subR (R' := []) (hS1.sel [] rfl rfl) (fun _ h => by cases h))⟩
    · skip
      have hF3 := cf' hb hb1
      refine cw_skip ?_
      refine cw_seq ?_
      refine cw_region ?_
      refine sq 20 rfl rfl (Y_move (v := .int .i64 k_1) rfl (hf.get 1 1 rfl)) ?_
      refine sq 21 rfl rfl (Y_add (k := .i64) (a := k_1) (b := 1) rfl rfl rfl) ?_
      refine sq 1 rfl rfl (Y_assign (v := .int .i64 (IntKind.i64.wrap (k_1 + 1))) rfl rfl) ?_
      refine rw_nil ?_
      refine cw_seq ?_
      refine cw_seq ?_
      refine cw_region ?_
      refine sq 22 rfl rfl (Y_move (v := .slice B a.length c) rfl (hf.get 0 0 rfl)) ?_
      refine sq 23 rfl rfl (Y_move (v := .int .i64 (i1 : Int)) rfl (hf.get 5 2 rfl)) ?_
      refine sq 24 rfl rfl (Y_index (B := B) (m := a.length) (c := c) (k := .i64) (i := (i1 : Int)) k_sl_24_44 k_sz_44_5 rfl rfl rfl (gi_isSome enc_Dyadic_len rfl (hS1.rf (i := 0) rfl) hx) (getI_nn hx) (getI_ltI hx rfl)) ?_
      refine sq 25 rfl rfl (Y_fieldAddr (B := B) (i := (i1 : Int).toNat * 5) (s := 3) k_fd_44_0_0_42 k_sz_42_4 rfl rfl) ?_
      refine sq 26 rfl rfl (Y_fieldAddr2 (B := B) (i := (i1 : Int).toNat * 5) (e := 0) (l := 1) (s := 0) k_fd_42_1_1_3 k_sz_3_1 rfl rfl rfl) ?_
      refine sq 27 rfl rfl (Y_load1 (B := B) (i := (i1 : Int).toNat * 5 + 1) (cs := (a.flatMap enc_Dyadic)) (v := .int .i64 x.Num.B) k_sc_3 rfl rfl (hS1.rf (i := 0) rfl) (gi_at enc_Dyadic_len hx rfl)) ?_
      refine sq 28 rfl rfl (Y_move (v := .int .i64 (IntKind.i64.wrap (k_1 + 1))) rfl rfl) ?_
      refine sq 29 rfl rfl (Y_ne (k := .i64) (a := x.Num.B) (b := (IntKind.i64.wrap (k_1 + 1))) rfl rfl rfl) ?_
      refine rw_nil ?_
      refine cw_cond (b := (x.Num.B != (IntKind.i64.wrap (k_1 + 1)))) rfl (fun hb2 => ?_) (fun hb2 => ?_)
      · skip
        have hF4 := ct hF3 hb2
        refine cw_seq ?_
        refine cw_region ?_
        refine sq 4 rfl rfl (Y_assign (v := .int .i64 (-1)) rfl rfl) ?_
        refine rw_nil ?_
        refine cw_ret ?_
        obtain rfl := some_inj hF4
        obtain rfl := some_inj hL1
        obtain rfl := some_inj hF1
        exact ret1 Try.results52 (v1 := .int .i64 (-1)) (resAt_tmp rfl) ⟨rfl, (ST.subR (R' := []) (hS1.sel [] rfl rfl) (fun _ h => by cases h))⟩
      · skip
        have hF5 := cf' hF3 hb2
        refine cw_skip ?_
        refine cw_seq ?_
        refine cw_region ?_
        refine sq 30 rfl rfl (Y_move (v := .int .i64 (IntKind.i64.wrap (k_1 + 1))) rfl rfl) ?_
        refine sq 31 rfl rfl (Y_add (k := .i64) (a := (IntKind.i64.wrap (k_1 + 1))) (b := 1) rfl rfl rfl) ?_
        refine sq 1 rfl rfl (Y_assign (v := .int .i64 (IntKind.i64.wrap ((IntKind.i64.wrap (k_1 + 1)) + 1))) rfl rfl) ?_
        refine rw_nil ?_
        refine cw_seq ?_
        refine cw_seq ?_
        refine cw_region ?_
        refine sq 32 rfl rfl (Y_move (v := .slice B a.length c) rfl (hf.get 0 0 rfl)) ?_
        refine sq 33 rfl rfl (Y_move (v := .int .i64 (i1 : Int)) rfl (hf.get 5 2 rfl)) ?_
        refine sq 34 rfl rfl (Y_index (B := B) (m := a.length) (c := c) (k := .i64) (i := (i1 : Int)) k_sl_24_44 k_sz_44_5 rfl rfl rfl (gi_isSome enc_Dyadic_len rfl (hS1.rf (i := 0) rfl) hx) (getI_nn hx) (getI_ltI hx rfl)) ?_
        refine sq 35 rfl rfl (Y_fieldAddr (B := B) (i := (i1 : Int).toNat * 5) (s := 3) k_fd_44_0_0_42 k_sz_42_4 rfl rfl) ?_
        refine sq 36 rfl rfl (Y_fieldAddr2 (B := B) (i := (i1 : Int).toNat * 5) (e := 0) (l := 2) (s := 0) k_fd_42_2_2_3 k_sz_3_1 rfl rfl rfl) ?_
        refine sq 37 rfl rfl (Y_load1 (B := B) (i := (i1 : Int).toNat * 5 + 2) (cs := (a.flatMap enc_Dyadic)) (v := .int .i64 x.Num.C) k_sc_3 rfl rfl (hS1.rf (i := 0) rfl) (gi_at enc_Dyadic_len hx rfl)) ?_
        refine sq 38 rfl rfl (Y_move (v := .int .i64 (IntKind.i64.wrap ((IntKind.i64.wrap (k_1 + 1)) + 1))) rfl rfl) ?_
        refine sq 39 rfl rfl (Y_ne (k := .i64) (a := x.Num.C) (b := (IntKind.i64.wrap ((IntKind.i64.wrap (k_1 + 1)) + 1))) rfl rfl rfl) ?_
        refine rw_nil ?_
        refine cw_cond (b := (x.Num.C != (IntKind.i64.wrap ((IntKind.i64.wrap (k_1 + 1)) + 1)))) rfl (fun hb3 => ?_) (fun hb3 => ?_)
        · skip
          have hF6 := ct hF5 hb3
          refine cw_seq ?_
          refine cw_region ?_
          refine sq 4 rfl rfl (Y_assign (v := .int .i64 (-1)) rfl rfl) ?_
          refine rw_nil ?_
          refine cw_ret ?_
          obtain rfl := some_inj hF6
          obtain rfl := some_inj hL1
          obtain rfl := some_inj hF1
          exact ret1 Try.results52 (v1 := .int .i64 (-1)) (resAt_tmp rfl) ⟨rfl, (ST.subR (R' := []) (hS1.sel [] rfl rfl) (fun _ h => by cases h))⟩
        · skip
          have hF7 := cf' hF5 hb3
          refine cw_skip ?_
          refine cw_seq ?_
          refine cw_region ?_
          refine sq 40 rfl rfl (Y_move (v := .int .i64 (IntKind.i64.wrap ((IntKind.i64.wrap (k_1 + 1)) + 1))) rfl rfl) ?_
          refine sq 41 rfl rfl (Y_add (k := .i64) (a := (IntKind.i64.wrap ((IntKind.i64.wrap (k_1 + 1)) + 1))) (b := 1) rfl rfl rfl) ?_
          refine sq 1 rfl rfl (Y_assign (v := .int .i64 (IntKind.i64.wrap ((IntKind.i64.wrap ((IntKind.i64.wrap (k_1 + 1)) + 1)) + 1))) rfl rfl) ?_
          refine rw_nil ?_
          refine cw_seq ?_
          refine cw_seq ?_
          refine cw_region ?_
          refine sq 42 rfl rfl (Y_move (v := .slice B a.length c) rfl (hf.get 0 0 rfl)) ?_
          refine sq 43 rfl rfl (Y_move (v := .int .i64 (i1 : Int)) rfl (hf.get 5 2 rfl)) ?_
          refine sq 44 rfl rfl (Y_index (B := B) (m := a.length) (c := c) (k := .i64) (i := (i1 : Int)) k_sl_24_44 k_sz_44_5 rfl rfl rfl (gi_isSome enc_Dyadic_len rfl (hS1.rf (i := 0) rfl) hx) (getI_nn hx) (getI_ltI hx rfl)) ?_
          refine sq 45 rfl rfl (Y_fieldAddr (B := B) (i := (i1 : Int).toNat * 5) (s := 3) k_fd_44_0_0_42 k_sz_42_4 rfl rfl) ?_
          refine sq 46 rfl rfl (Y_fieldAddr2 (B := B) (i := (i1 : Int).toNat * 5) (e := 0) (l := 3) (s := 0) k_fd_42_3_3_3 k_sz_3_1 rfl rfl rfl) ?_
          refine sq 47 rfl rfl (Y_load1 (B := B) (i := (i1 : Int).toNat * 5 + 3) (cs := (a.flatMap enc_Dyadic)) (v := .int .i64 x.Num.D) k_sc_3 rfl rfl (hS1.rf (i := 0) rfl) (gi_at enc_Dyadic_len hx rfl)) ?_
          refine sq 48 rfl rfl (Y_move (v := .int .i64 (IntKind.i64.wrap ((IntKind.i64.wrap ((IntKind.i64.wrap (k_1 + 1)) + 1)) + 1))) rfl rfl) ?_
          refine sq 49 rfl rfl (Y_ne (k := .i64) (a := x.Num.D) (b := (IntKind.i64.wrap ((IntKind.i64.wrap ((IntKind.i64.wrap (k_1 + 1)) + 1)) + 1))) rfl rfl rfl) ?_
          refine rw_nil ?_
          refine cw_cond (b := (x.Num.D != (IntKind.i64.wrap ((IntKind.i64.wrap ((IntKind.i64.wrap (k_1 + 1)) + 1)) + 1)))) rfl (fun hb4 => ?_) (fun hb4 => ?_)
          · skip
            have hF8 := ct hF7 hb4
            refine cw_seq ?_
            refine cw_region ?_
            refine sq 4 rfl rfl (Y_assign (v := .int .i64 (-1)) rfl rfl) ?_
            refine rw_nil ?_
            refine cw_ret ?_
            obtain rfl := some_inj hF8
            obtain rfl := some_inj hL1
            obtain rfl := some_inj hF1
            exact ret1 Try.results52 (v1 := .int .i64 (-1)) (resAt_tmp rfl) ⟨rfl, (ST.subR (R' := []) (hS1.sel [] rfl rfl) (fun _ h => by cases h))⟩
          · skip
            have hF9 := cf' hF7 hb4
            refine cw_skip ?_
            refine cw_seq ?_
            refine cw_region ?_
            refine sq 50 rfl rfl (Y_move (v := .int .i64 (IntKind.i64.wrap ((IntKind.i64.wrap ((IntKind.i64.wrap (k_1 + 1)) + 1)) + 1))) rfl rfl) ?_
            refine sq 51 rfl rfl (Y_add (k := .i64) (a := (IntKind.i64.wrap ((IntKind.i64.wrap ((IntKind.i64.wrap (k_1 + 1)) + 1)) + 1))) (b := 1) rfl rfl rfl) ?_
            refine sq 1 rfl rfl (Y_assign (v := .int .i64 (IntKind.i64.wrap ((IntKind.i64.wrap ((IntKind.i64.wrap ((IntKind.i64.wrap (k_1 + 1)) + 1)) + 1)) + 1))) rfl rfl) ?_
            refine rw_nil ?_
            refine cw_seq ?_
            refine cw_seq ?_
            refine cw_region ?_
            refine sq 52 rfl rfl (Y_move (v := .slice B a.length c) rfl (hf.get 0 0 rfl)) ?_
            refine sq 53 rfl rfl (Y_move (v := .int .i64 (i1 : Int)) rfl (hf.get 5 2 rfl)) ?_
            refine sq 54 rfl rfl (Y_index (B := B) (m := a.length) (c := c) (k := .i64) (i := (i1 : Int)) k_sl_24_44 k_sz_44_5 rfl rfl rfl (gi_isSome enc_Dyadic_len rfl (hS1.rf (i := 0) rfl) hx) (getI_nn hx) (getI_ltI hx rfl)) ?_
            refine sq 55 rfl rfl (Y_fieldAddr (B := B) (i := (i1 : Int).toNat * 5) (s := 0) k_fd_44_1_4_3 k_sz_3_1 rfl rfl) ?_
            refine sq 56 rfl rfl (Y_load1 (B := B) (i := (i1 : Int).toNat * 5 + 4) (cs := (a.flatMap enc_Dyadic)) (v := .int .i64 x.Exp) k_sc_3 rfl rfl (hS1.rf (i := 0) rfl) (gi_at enc_Dyadic_len hx rfl)) ?_
            refine sq 57 rfl rfl (Y_move (v := .int .i64 (IntKind.i64.wrap ((IntKind.i64.wrap ((IntKind.i64.wrap ((IntKind.i64.wrap (k_1 + 1)) + 1)) + 1)) + 1))) rfl rfl) ?_
            refine sq 58 rfl rfl (Y_ne (k := .i64) (a := x.Exp) (b := (IntKind.i64.wrap ((IntKind.i64.wrap ((IntKind.i64.wrap ((IntKind.i64.wrap (k_1 + 1)) + 1)) + 1)) + 1))) rfl rfl rfl) ?_
            refine rw_nil ?_
            refine cw_cond (b := (x.Exp != (IntKind.i64.wrap ((IntKind.i64.wrap ((IntKind.i64.wrap ((IntKind.i64.wrap (k_1 + 1)) + 1)) + 1)) + 1)))) rfl (fun hb5 => ?_) (fun hb5 => ?_)
            · skip
              have hF10 := ct hF9 hb5
              refine cw_seq ?_
              refine cw_region ?_
              refine sq 4 rfl rfl (Y_assign (v := .int .i64 (-1)) rfl rfl) ?_
              refine rw_nil ?_
              refine cw_ret ?_
              obtain rfl := some_inj hF10
              obtain rfl := some_inj hL1
              obtain rfl := some_inj hF1
              exact ret1 Try.results52 (v1 := .int .i64 (-1)) (resAt_tmp rfl) ⟨rfl, (ST.subR (R' := []) (hS1.sel [] rfl rfl) (fun _ h => by cases h))⟩
            · skip
              have hF11 := cf' hF9 hb5
              refine cw_skip ?_
              refine cw_region ?_
              refine sq 59 rfl rfl (Y_move (v := .int .i64 (IntKind.i64.wrap ((IntKind.i64.wrap ((IntKind.i64.wrap ((IntKind.i64.wrap (k_1 + 1)) + 1)) + 1)) + 1))) rfl rfl) ?_
              refine sq 60 rfl rfl (Y_add (k := .i64) (a := (IntKind.i64.wrap ((IntKind.i64.wrap ((IntKind.i64.wrap ((IntKind.i64.wrap (k_1 + 1)) + 1)) + 1)) + 1))) (b := 1) rfl rfl rfl) ?_
              refine sq 1 rfl rfl (Y_assign (v := .int .i64 (IntKind.i64.wrap ((IntKind.i64.wrap ((IntKind.i64.wrap ((IntKind.i64.wrap ((IntKind.i64.wrap (k_1 + 1)) + 1)) + 1)) + 1)) + 1))) rfl rfl) ?_
              refine rw_nil ?_
              refine cw_region ?_
              refine sq 10 rfl rfl (Y_move (v := .int .i64 (i1 : Int)) rfl (hf.get 5 2 rfl)) ?_
              refine sq 11 rfl rfl (Y_add (k := .i64) (a := (i1 : Int)) (b := 1) rfl rfl rfl) ?_
              refine sq 5 rfl rfl (Y_assign (v := .int .i64 (IntKind.i64.wrap ((i1 : Int) + 1))) rfl rfl) ?_
              refine rw_nil ?_
              obtain rfl := some_inj hF11
              exact ⟨k_3, Nat.lt_succ_self _, i1 + 1, (IntKind.i64.wrap ((IntKind.i64.wrap ((IntKind.i64.wrap ((IntKind.i64.wrap ((IntKind.i64.wrap (k_1 + 1)) + 1)) + 1)) + 1)) + 1)), (FF.cons (hf.get 0 0 rfl) (FF.cons rfl (FF.cons (congrArg (Value.int .i64) (wr_succ hlt1 hN)) FF.nil))), (hS1.sel [] rfl rfl), (by omega), hL1⟩
  · skip
    obtain rfl : k_2 = 0 := by have h := of_decide_eq_false hlt; omega
    refine cw_exit rfl ?_
    obtain rfl := some_inj hL
    refine cw_seq ?_
    refine cw_region ?_
    refine sq 61 rfl rfl (Y_move (v := .int .i64 k_1) rfl (hf.get 1 1 rfl)) ?_
    refine sq 4 rfl rfl (Y_assign (v := .int .i64 k_1) rfl rfl) ?_
    refine rw_nil ?_
    refine cw_ret ?_
    obtain rfl := some_inj hF1
    exact ret1 Try.results52 (v1 := .int .i64 k_1) (resAt_tmp rfl) ⟨rfl, (ST.subR (R' := []) (hS1.sel [] rfl rfl) (fun _ h => by cases h))⟩

theorem c_laws_heldMatrix (a : TMatrix) (k_ : Int) (B : Option Addr) (c n : Nat) (w0 : World) (hn : a.Cells.length = n) (hS : ST w0 [] w0 [] [⟨B, (a.Cells.flatMap enc_Dyadic)⟩]) {r_ : Int} (hF : F_laws_heldMatrix a k_ = some r_) :
    CV Try.prog 12 #[.agg #[.int .i64 a.Rows, .int .i64 a.Cols, .slice B n c], .int .i64 k_] w0 (fun v w' => v = .int .i64 r_ ∧ ST w0 [] w' [] []) := by
  subst hn
  unfold F_laws_heldMatrix at hF
  refine cv_of_cw 12 Try.func12 rfl Try.ntmps12 rfl ?_
  refine cw_seq ?_
  refine cw_region ?_
  refine ss 2 rfl rfl (Ys_box (T := 26) (v := .agg #[.int .i64 a.Rows, .int .i64 a.Cols, .slice B a.Cells.length c]) (cs := [.int .i64 a.Rows, .int .i64 a.Cols, .slice B a.Cells.length c]) (m := 3) hS rfl rfl rfl rfl) ?_
  rintro _ w_ ⟨b, rfl, hS1⟩
  refine sq 4 rfl rfl (Y_assign (v := .int .i64 0) rfl rfl) ?_
  refine rw_nil ?_
  refine cw_seq ?_
  refine cw_region ?_
  refine sq 5 rfl rfl (Y_fieldAddr (B := some ⟨b, 0, none⟩) (i := 0) (s := 0) k_fd_26_2_2_24 k_sz_24_1 rfl rfl) ?_
  refine sq 6 rfl rfl (Y_load1 (B := some ⟨b, 0, none⟩) (i := 2) (cs := [.int .i64 a.Rows, .int .i64 a.Cols, .slice B a.Cells.length c]) (v := .slice B a.Cells.length c) k_sc_24 rfl rfl (hS1.cf (i := 0) rfl) rfl) ?_
  refine sq 7 rfl rfl (Y_move (v := .int .i64 k_) rfl rfl) ?_
  obtain ⟨r_1, hc, hF⟩ := bind_inv hF
  refine sc 8 rfl rfl (Yc_func (g := 52) (vs := [.slice B a.Cells.length c, .int .i64 k_]) k_call_52 rfl (mc rfl (mc rfl mn)) (c_laws_heldDyadicS a.Cells k_ B c a.Cells.length _ rfl (hS1.inn0 [(true, 0)] rfl) hc)) ?_
  rintro _ w_1 ⟨rfl, hd⟩
  have hS2 := hS1.out00 hd
  refine sq 1 rfl rfl (Y_assign (v := .int .i64 r_1) rfl rfl) ?_
  refine rw_nil ?_
  refine cw_seq ?_
  refine cw_seq ?_
  refine cw_region ?_
  refine sq 9 rfl rfl (Y_move (v := .int .i64 r_1) rfl rfl) ?_
  refine sq 10 rfl rfl (Y_lt (k := .i64) (a := r_1) (b := 0) rfl rfl rfl) ?_
  refine rw_nil ?_
  refine cw_cond (b := (decide (r_1 < 0))) rfl (fun hb => ?_) (fun hb => ?_)
  · skip
    have hF1 := ct hF hb
    refine cw_seq ?_
    refine cw_region ?_
    refine sq 4 rfl rfl (Y_assign (v := .int .i64 (-1)) rfl rfl) ?_
    refine rw_nil ?_
    refine cw_ret ?_
    obtain rfl := some_inj hF1
    exact ret1 Try.results12 (v1 := .int .i64 (-1)) (resAt_tmp rfl) ⟨rfl, (ST.subR (R' := []) (hS2.sel [] rfl rfl) (fun _ h => by cases h))⟩
  · skip
    have hF2 := cf' hF hb
    refine cw_skip ?_
    refine cw_seq ?_
    refine cw_region ?_
    refine sq 11 rfl rfl (Y_move (v := .int .i64 r_1) rfl rfl) ?_
    refine sq 4 rfl rfl (Y_assign (v := .int .i64 r_1) rfl rfl) ?_
    refine rw_nil ?_
    refine cw_ret ?_
    obtain rfl := some_inj hF2
    exact ret1 Try.results12 (v1 := .int .i64 r_1) (resAt_tmp rfl) ⟨rfl, (ST.subR (R' := []) (hS2.sel [] rfl rfl) (fun _ h => by cases h))⟩

theorem c_laws_FnExactPauliMatrix (aN : Int) (aP : TPauli)  (w0 : World)  (hS : ST w0 [] w0 [] []) {r_ : Bool} (hF : F_laws_FnExactPauliMatrix aN aP = some r_) :
    CV Try.prog 3 #[.int .i64 aN, .agg #[.int .i64 aP.Phase, .int .i64 aP.X, .int .i64 aP.Z]] w0 (fun v w' => v = .bool r_ ∧ ST w0 [] w' [] []) := by
  unfold F_laws_FnExactPauliMatrix at hF
  refine cv_of_cw 71 Try.func3 rfl Try.ntmps3 rfl ?_
  refine cw_seq ?_
  refine cw_region ?_
  refine ss 3 rfl rfl (Ys_box (T := 23) (v := .agg #[.int .i64 aP.Phase, .int .i64 aP.X, .int .i64 aP.Z]) (cs := [.int .i64 aP.Phase, .int .i64 aP.X, .int .i64 aP.Z]) (m := 3) hS rfl rfl rfl rfl) ?_
  rintro _ w_ ⟨b, rfl, hS1⟩
  refine sq 4 rfl rfl (Y_assign (v := .bool false) rfl rfl) ?_
  refine rw_nil ?_
  refine cw_seq ?_
  refine cw_region ?_
  refine sq 14 rfl rfl (Y_move (v := .int .i64 aN) rfl rfl) ?_
  refine sq 15 rfl rfl (Y_loadA (B := some ⟨b, 0, none⟩) (i := 0) (cs := [.int .i64 aP.Phase, .int .i64 aP.X, .int .i64 aP.Z]) (vs := [.int .i64 aP.Phase, .int .i64 aP.X, .int .i64 aP.Z]) k_ag_23 k_sz_23_3 rfl rfl (hS1.cf (i := 0) rfl) rfl rfl) ?_
  obtain ⟨r_1, hc, hF⟩ := bind_inv hF
  refine sc 16 rfl rfl (Yc_func (g := 8) (vs := [.agg #[.int .i64 aP.Phase, .int .i64 aP.X, .int .i64 aP.Z]]) k_call_8 rfl (mc rfl mn) (c_laws_toPauli aP _  (hS1.inn0 [] rfl) hc)) ?_
  rintro _ w_1 ⟨rfl, hd⟩
  have hS2 := hS1.out00 hd
  obtain ⟨⟨r_2, r_3⟩, hc1, hF⟩ := bind_inv hF
  refine sc 17 rfl rfl (Yc_func (g := 7) (vs := [.int .i64 aN, .agg #[.int .i64 r_1.Phase, .int .i64 r_1.X, .int .i64 r_1.Z]]) k_call_7 rfl (mc rfl (mc rfl mn)) (c_spec_PauliMatrix aN r_1 _  (hS2.inn0 [] rfl) hc1)) ?_
  rintro _ w_2 ⟨B, c, rfl, hd1⟩
  have hS3 := hS2.out0 hd1
  have hS3 : ST w0 [] _ [⟨some ⟨b, 0, none⟩, 23, [.int .i64 aP.Phase, .int .i64 aP.X, .int .i64 aP.Z], 3⟩, ⟨B, 44, (r_2.Cells.flatMap enc_Dyadic), c * 5⟩] [] := hS3
  refine sq 13 rfl rfl (Y_move (v := .tuple #[.agg #[.int .i64 r_2.Rows, .int .i64 r_2.Cols, .slice B r_2.Cells.length c], .bool r_3]) rfl rfl) ?_
  refine sq 18 rfl rfl (Y_extract (v := .agg #[.int .i64 r_2.Rows, .int .i64 r_2.Cols, .slice B r_2.Cells.length c]) rfl rfl rfl) ?_
  refine sq 19 rfl rfl (Y_extract (v := .bool r_3) rfl rfl rfl) ?_
  refine ss 5 rfl rfl (Ys_alloc (T := 26) (cs := [.int .i64 0, .int .i64 0, .slice none 0 0]) (m := 3) hS3 k_zero_26 rfl rfl rfl) ?_
  rintro _ w_3 ⟨b1, rfl, hS4⟩
  have hS4 : ST w0 [] _ [⟨some ⟨b, 0, none⟩, 23, [.int .i64 aP.Phase, .int .i64 aP.X, .int .i64 aP.Z], 3⟩, ⟨B, 44, (r_2.Cells.flatMap enc_Dyadic), c * 5⟩, ⟨some ⟨b1, 0, none⟩, 26, [.int .i64 0, .int .i64 0, .slice none 0 0], 3⟩] [] := hS4
  refine ss0 rfl rfl (Ys_store (i := 2) (s := 3) (B := some ⟨b1, 0, none⟩) (T' := 26) (v := .agg #[.int .i64 r_2.Rows, .int .i64 r_2.Cols, .slice B r_2.Cells.length c]) (vs := [.int .i64 r_2.Rows, .int .i64 r_2.Cols, .slice B r_2.Cells.length c]) (k := 0) (cs' := [.int .i64 r_2.Rows, .int .i64 r_2.Cols, .slice B r_2.Cells.length c]) hS4 k_sz_26_3 rfl rfl rfl rfl rfl rfl rfl (Nat.le_of_ble_eq_true rfl) rfl rfl) ?_
  rintro _ w_4 ⟨rfl, hS5⟩
  have hS5 : ST w0 [] _ [⟨some ⟨b, 0, none⟩, 23, [.int .i64 aP.Phase, .int .i64 aP.X, .int .i64 aP.Z], 3⟩, ⟨B, 44, (r_2.Cells.flatMap enc_Dyadic), c * 5⟩, ⟨some ⟨b1, 0, none⟩, 26, [.int .i64 r_2.Rows, .int .i64 r_2.Cols, .slice B r_2.Cells.length c], 3⟩] [] := hS5
  refine sq 6 rfl rfl (Y_assign (v := .bool r_3) rfl rfl) ?_
  refine rw_nil ?_
  refine cw_seq ?_
  refine cw_region ?_
  refine sq 21 rfl rfl (Y_move (v := .int .i64 aN) rfl rfl) ?_
  refine sq 22 rfl rfl (Y_loadA (B := some ⟨b, 0, none⟩) (i := 0) (cs := [.int .i64 aP.Phase, .int .i64 aP.X, .int .i64 aP.Z]) (vs := [.int .i64 aP.Phase, .int .i64 aP.X, .int .i64 aP.Z]) k_ag_23 k_sz_23_3 rfl rfl (hS5.cf (i := 0) rfl) rfl rfl) ?_
  obtain ⟨r_4, hc2, hF⟩ := bind_inv hF
  refine sc 23 rfl rfl (Yc_func (g := 8) (vs := [.agg #[.int .i64 aP.Phase, .int .i64 aP.X, .int .i64 aP.Z]]) k_call_8 rfl (mc rfl mn) (c_laws_toPauli aP _  (hS5.inn0 [] rfl) hc2)) ?_
  rintro _ w_5 ⟨rfl, hd2⟩
  have hS6 := hS5.out00 hd2
  have hS6 : ST w0 [] _ [⟨some ⟨b, 0, none⟩, 23, [.int .i64 aP.Phase, .int .i64 aP.X, .int .i64 aP.Z], 3⟩, ⟨B, 44, (r_2.Cells.flatMap enc_Dyadic), c * 5⟩, ⟨some ⟨b1, 0, none⟩, 26, [.int .i64 r_2.Rows, .int .i64 r_2.Cols, .slice B r_2.Cells.length c], 3⟩] [] := hS6
  obtain ⟨⟨r_5, r_6⟩, hc3, hF⟩ := bind_inv hF
  refine sc 24 rfl rfl (Yc_func (g := 9) (vs := [.int .i64 aN, .agg #[.int .i64 r_4.Phase, .int .i64 r_4.X, .int .i64 r_4.Z]]) k_call_9 rfl (mc rfl (mc rfl mn)) (c_impl_PauliMatrix aN r_4 _  (hS6.inn0 [] rfl) hc3)) ?_
  rintro _ w_6 ⟨B1, c1, rfl, hd3⟩
  have hS7 := hS6.out0 hd3
  have hS7 : ST w0 [] _ [⟨some ⟨b, 0, none⟩, 23, [.int .i64 aP.Phase, .int .i64 aP.X, .int .i64 aP.Z], 3⟩, ⟨B, 44, (r_2.Cells.flatMap enc_Dyadic), c * 5⟩, ⟨some ⟨b1, 0, none⟩, 26, [.int .i64 r_2.Rows, .int .i64 r_2.Cols, .slice B r_2.Cells.length c], 3⟩, ⟨B1, 44, (r_5.Cells.flatMap enc_Dyadic), c1 * 5⟩] [] := hS7
  refine sq 20 rfl rfl (Y_move (v := .tuple #[.agg #[.int .i64 r_5.Rows, .int .i64 r_5.Cols, .slice B1 r_5.Cells.length c1], .bool r_6]) rfl rfl) ?_
  refine sq 25 rfl rfl (Y_extract (v := .agg #[.int .i64 r_5.Rows, .int .i64 r_5.Cols, .slice B1 r_5.Cells.length c1]) rfl rfl rfl) ?_
  refine sq 26 rfl rfl (Y_extract (v := .bool r_6) rfl rfl rfl) ?_
  refine ss 7 rfl rfl (Ys_alloc (T := 26) (cs := [.int .i64 0, .int .i64 0, .slice none 0 0]) (m := 3) hS7 k_zero_26 rfl rfl rfl) ?_
  rintro _ w_7 ⟨b2, rfl, hS8⟩
  have hS8 : ST w0 [] _ [⟨some ⟨b, 0, none⟩, 23, [.int .i64 aP.Phase, .int .i64 aP.X, .int .i64 aP.Z], 3⟩, ⟨B, 44, (r_2.Cells.flatMap enc_Dyadic), c * 5⟩, ⟨some ⟨b1, 0, none⟩, 26, [.int .i64 r_2.Rows, .int .i64 r_2.Cols, .slice B r_2.Cells.length c], 3⟩, ⟨B1, 44, (r_5.Cells.flatMap enc_Dyadic), c1 * 5⟩, ⟨some ⟨b2, 0, none⟩, 26, [.int .i64 0, .int .i64 0, .slice none 0 0], 3⟩] [] := hS8
  refine ss0 rfl rfl (Ys_store (i := 4) (s := 3) (B := some ⟨b2, 0, none⟩) (T' := 26) (v := .agg #[.int .i64 r_5.Rows, .int .i64 r_5.Cols, .slice B1 r_5.Cells.length c1]) (vs := [.int .i64 r_5.Rows, .int .i64 r_5.Cols, .slice B1 r_5.Cells.length c1]) (k := 0) (cs' := [.int .i64 r_5.Rows, .int .i64 r_5.Cols, .slice B1 r_5.Cells.length c1]) hS8 k_sz_26_3 rfl rfl rfl rfl rfl rfl rfl (Nat.le_of_ble_eq_true rfl) rfl rfl) ?_
  rintro _ w_8 ⟨rfl, hS9⟩
  have hS9 : ST w0 [] _ [⟨some ⟨b, 0, none⟩, 23, [.int .i64 aP.Phase, .int .i64 aP.X, .int .i64 aP.Z], 3⟩, ⟨B, 44, (r_2.Cells.flatMap enc_Dyadic), c * 5⟩, ⟨some ⟨b1, 0, none⟩, 26, [.int .i64 r_2.Rows, .int .i64 r_2.Cols, .slice B r_2.Cells.length c], 3⟩, ⟨B1, 44, (r_5.Cells.flatMap enc_Dyadic), c1 * 5⟩, ⟨some ⟨b2, 0, none⟩, 26, [.int .i64 r_5.Rows, .int .i64 r_5.Cols, .slice B1 r_5.Cells.length c1], 3⟩] [] := hS9
  refine sq 8 rfl rfl (Y_assign (v := .bool r_6) rfl rfl) ?_
  refine rw_nil ?_
  refine cw_seq ?_
  refine cw_seq ?_
  refine cw_region ?_
  refine sq 27 rfl rfl (Y_loadA (B := some ⟨b2, 0, none⟩) (i := 0) (cs := [.int .i64 r_5.Rows, .int .i64 r_5.Cols, .slice B1 r_5.Cells.length c1]) (vs := [.int .i64 r_5.Rows, .int .i64 r_5.Cols, .slice B1 r_5.Cells.length c1]) k_ag_26 k_sz_26_3 rfl rfl (hS9.cf (i := 4) rfl) rfl rfl) ?_
  refine sq 28 rfl rfl (Y_loadA (B := some ⟨b1, 0, none⟩) (i := 0) (cs := [.int .i64 r_2.Rows, .int .i64 r_2.Cols, .slice B r_2.Cells.length c]) (vs := [.int .i64 r_2.Rows, .int .i64 r_2.Cols, .slice B r_2.Cells.length c]) k_ag_26 k_sz_26_3 rfl rfl (hS9.cf (i := 2) rfl) rfl rfl) ?_
  obtain ⟨r_7, hc4, hF⟩ := bind_inv hF
  refine sc 29 rfl rfl (Yc_func (g := 10) (vs := [.agg #[.int .i64 r_5.Rows, .int .i64 r_5.Cols, .slice B1 r_5.Cells.length c1], .agg #[.int .i64 r_2.Rows, .int .i64 r_2.Cols, .slice B r_2.Cells.length c]]) k_call_10 rfl (mc rfl (mc rfl mn)) (c_laws_eqMatrix r_5 r_2 B1 c1 r_5.Cells.length B c r_2.Cells.length _ rfl rfl (hS9.inn0 [(false, 3), (false, 1)] rfl) hc4)) ?_
  rintro _ w_9 ⟨rfl, hd4⟩
  have hS10 := hS9.out00 hd4
  have hS10 : ST w0 [] _ [⟨some ⟨b, 0, none⟩, 23, [.int .i64 aP.Phase, .int .i64 aP.X, .int .i64 aP.Z], 3⟩, ⟨B, 44, (r_2.Cells.flatMap enc_Dyadic), c * 5⟩, ⟨some ⟨b1, 0, none⟩, 26, [.int .i64 r_2.Rows, .int .i64 r_2.Cols, .slice B r_2.Cells.length c], 3⟩, ⟨B1, 44, (r_5.Cells.flatMap enc_Dyadic), c1 * 5⟩, ⟨some ⟨b2, 0, none⟩, 26, [.int .i64 r_5.Rows, .int .i64 r_5.Cols, .slice B1 r_5.Cells.length c1], 3⟩] [] := hS10
  refine sq 30 rfl rfl (Y_not (p := r_7) rfl rfl) ?_
  refine sq 31 rfl rfl (Y_move (v := .bool (!r_7)) rfl rfl) ?_
  refine sgq 32 (B := (!(!r_7))) (v := .bool r_6) rfl rfl (wt_f (gd_of (t := 31) (by kernel_rfl) rfl)) (fun hg => (Y_move (v := .bool r_6) rfl rfl)) ?_
  refine sgq 33 (B := (!(!r_7))) (v := .bool r_3) rfl rfl (wt_f (gd_of (t := 31) (by kernel_rfl) rfl)) (fun hg1 => (Y_move (v := .bool r_3) rfl rfl)) ?_
  refine sgq 34 (B := (!(!r_7))) (v := .bool (!(r_6 == r_3))) rfl rfl (wt_f (gd_of (t := 31) (by kernel_rfl) rfl)) (fun hg2 => (Y_bne (p := r_6) (q := r_3) k_und_4 rfl (gv_of (B := (!(!r_7))) (v := .bool r_6) hg2) (gv_of (B := (!(!r_7))) (v := .bool r_3) hg2))) ?_
  refine sq 35 rfl rfl (Y_or (b := (!r_7)) (z := (!(r_6 == r_3))) rfl rfl rfl rfl) ?_
  refine rw_nil ?_
  refine cw_cond (b := ((!r_7) || (!(r_6 == r_3)))) rfl (fun hb => ?_) (fun hb => ?_)
  · skip
    have hF1 := ct hF hb
    refine cw_seq ?_
    refine cw_region ?_
    refine sq 4 rfl rfl (Y_assign (v := .bool false) rfl rfl) ?_
    refine rw_nil ?_
    refine cw_ret ?_
    obtain rfl := some_inj hF1
    exact ret1 Try.results3 (v1 := .bool false) (resAt_tmp rfl) ⟨rfl, (ST.subR (R' := []) (hS10.sel [] rfl rfl) (fun _ h => by cases h))⟩
  · skip
    have hF2 := cf' hF hb
    refine cw_skip ?_
    refine cw_seq ?_
    refine cw_region ?_
    refine sq 9 rfl rfl (Y_assign (v := .int .i64 1) rfl rfl) ?_
    refine rw_nil ?_
    refine cw_seq ?_
    refine cw_region ?_
    refine sq 36 rfl rfl (Y_loadA (B := some ⟨b2, 0, none⟩) (i := 0) (cs := [.int .i64 r_5.Rows, .int .i64 r_5.Cols, .slice B1 r_5.Cells.length c1]) (vs := [.int .i64 r_5.Rows, .int .i64 r_5.Cols, .slice B1 r_5.Cells.length c1]) k_ag_26 k_sz_26_3 rfl rfl (hS10.cf (i := 4) rfl) rfl rfl) ?_
    refine sq 37 rfl rfl (Y_move (v := .int .i64 1) rfl rfl) ?_
    obtain ⟨⟨r_8, m⟩, hc5, hF2⟩ := bind_inv hF2
    refine sc 38 rfl rfl (Yc_func (g := 11) (vs := [.agg #[.int .i64 r_5.Rows, .int .i64 r_5.Cols, .slice B1 r_5.Cells.length c1], .int .i64 1]) k_call_11 rfl (mc rfl (mc rfl mn)) (c_laws_markMatrix r_5 1 B1 c1 r_5.Cells.length _ rfl (hS10.inn [false, false, false, true, false] rfl [] rfl) hc5)) ?_
    rintro _ w_10 ⟨rfl, hl, hd5⟩
    have hS11 := hS10.out [false, false, false, true, false] rfl hd5
    have hS11 : ST w0 [] _ [⟨some ⟨b, 0, none⟩, 23, [.int .i64 aP.Phase, .int .i64 aP.X, .int .i64 aP.Z], 3⟩, ⟨B, 44, (r_2.Cells.flatMap enc_Dyadic), c * 5⟩, ⟨some ⟨b1, 0, none⟩, 26, [.int .i64 r_2.Rows, .int .i64 r_2.Cols, .slice B r_2.Cells.length c], 3⟩, ⟨some ⟨b2, 0, none⟩, 26, [.int .i64 r_5.Rows, .int .i64 r_5.Cols, .slice B1 r_5.Cells.length c1], 3⟩, ⟨B1, 44, (m.flatMap enc_Dyadic), c1 * 5⟩] [] := hS11
    refine sq 9 rfl rfl (Y_assign (v := .int .i64 r_8) rfl rfl) ?_
    refine rw_nil ?_
    refine cw_seq ?_
    refine cw_region ?_
    refine sq 10 rfl rfl (Y_assign (v := .int .i64 1) rfl rfl) ?_
    refine rw_nil ?_
    refine cw_seq ?_
    refine cw_region ?_
    refine sq 39 rfl rfl (Y_loadA (B := some ⟨b2, 0, none⟩) (i := 0) (cs := [.int .i64 r_5.Rows, .int .i64 r_5.Cols, .slice B1 r_5.Cells.length c1]) (vs := [.int .i64 r_5.Rows, .int .i64 r_5.Cols, .slice B1 r_5.Cells.length c1]) k_ag_26 k_sz_26_3 rfl rfl (hS11.cf (i := 3) rfl) rfl rfl) ?_
    refine sq 40 rfl rfl (Y_move (v := .int .i64 1) rfl rfl) ?_
    obtain ⟨r_9, hc6, hF2⟩ := bind_inv hF2
    refine sc 41 rfl rfl (Yc_func (g := 12) (vs := [.agg #[.int .i64 r_5.Rows, .int .i64 r_5.Cols, .slice B1 r_5.Cells.length c1], .int .i64 1]) k_call_12 rfl (mc rfl (mc rfl mn)) (c_laws_heldMatrix (TMatrix.mk r_5.Rows r_5.Cols m) 1 B1 c1 r_5.Cells.length _ hl (hS11.inn0 [(false, 4)] rfl) hc6)) ?_
    rintro _ w_11 ⟨rfl, hd6⟩
    have hS12 := hS11.out00 hd6
    have hS12 : ST w0 [] _ [⟨some ⟨b, 0, none⟩, 23, [.int .i64 aP.Phase, .int .i64 aP.X, .int .i64 aP.Z], 3⟩, ⟨B, 44, (r_2.Cells.flatMap enc_Dyadic), c * 5⟩, ⟨some ⟨b1, 0, none⟩, 26, [.int .i64 r_2.Rows, .int .i64 r_2.Cols, .slice B r_2.Cells.length c], 3⟩, ⟨some ⟨b2, 0, none⟩, 26, [.int .i64 r_5.Rows, .int .i64 r_5.Cols, .slice B1 r_5.Cells.length c1], 3⟩, ⟨B1, 44, (m.flatMap enc_Dyadic), c1 * 5⟩] [] := hS12
    refine sq 10 rfl rfl (Y_assign (v := .int .i64 r_9) rfl rfl) ?_
    refine rw_nil ?_
    refine cw_seq ?_
    refine cw_seq ?_
    refine cw_region ?_
    refine sq 42 rfl rfl (Y_move (v := .int .i64 r_9) rfl rfl) ?_
    refine sq 43 rfl rfl (Y_lt (k := .i64) (a := r_9) (b := 0) rfl rfl rfl) ?_
    refine rw_nil ?_
    refine cw_cond (b := (decide (r_9 < 0))) rfl (fun hb1 => ?_) (fun hb1 => ?_)
    · skip
      have hF3 := ct hF2 hb1
      refine cw_seq ?_
      refine cw_region ?_
      refine sq 4 rfl rfl (Y_assign (v := .bool false) rfl rfl) ?_
      refine rw_nil ?_
      refine cw_ret ?_
      obtain rfl := some_inj hF3
      exact ret1 Try.results3 (v1 := .bool false) (resAt_tmp rfl) ⟨rfl, (ST.subR (R' := []) (hS12.sel [] rfl rfl) (fun _ h => by cases h))⟩
    · skip
      have hF4 := cf' hF2 hb1
      refine cw_skip ?_
      refine cw_seq ?_
      refine cw_seq ?_
      refine cw_region ?_
      refine sq 44 rfl rfl (Y_move (v := .int .i64 r_9) rfl rfl) ?_
      refine sq 45 rfl rfl (Y_move (v := .int .i64 r_8) rfl rfl) ?_
      refine sq 46 rfl rfl (Y_ne (k := .i64) (a := r_9) (b := r_8) rfl rfl rfl) ?_
      refine rw_nil ?_
      refine cw_cond (b := (r_9 != r_8)) rfl (fun hb2 => ?_) (fun hb2 => ?_)
      · skip
        have hF5 := ct hF4 hb2
        refine cw_seq ?_
        refine cw_region ?_
        refine sq 4 rfl rfl (Y_assign (v := .bool false) rfl rfl) ?_
        refine rw_nil ?_
        refine cw_ret ?_
        obtain rfl := some_inj hF5
        exact ret1 Try.results3 (v1 := .bool false) (resAt_tmp rfl) ⟨rfl, (ST.subR (R' := []) (hS12.sel [] rfl rfl) (fun _ h => by cases h))⟩
      · skip
        have hF6 := cf' hF4 hb2
        refine cw_skip ?_
        refine cw_seq ?_
        refine cw_region ?_
        refine sq 48 rfl rfl (Y_move (v := .int .i64 aN) rfl rfl) ?_
        refine sq 49 rfl rfl (Y_loadA (B := some ⟨b, 0, none⟩) (i := 0) (cs := [.int .i64 aP.Phase, .int .i64 aP.X, .int .i64 aP.Z]) (vs := [.int .i64 aP.Phase, .int .i64 aP.X, .int .i64 aP.Z]) k_ag_23 k_sz_23_3 rfl rfl (hS12.cf (i := 0) rfl) rfl rfl) ?_
        obtain ⟨r_10, hc7, hF6⟩ := bind_inv hF6
        refine sc 50 rfl rfl (Yc_func (g := 8) (vs := [.agg #[.int .i64 aP.Phase, .int .i64 aP.X, .int .i64 aP.Z]]) k_call_8 rfl (mc rfl mn) (c_laws_toPauli aP _  (hS12.inn0 [] rfl) hc7)) ?_
        rintro _ w_12 ⟨rfl, hd7⟩
        have hS13 := hS12.out00 hd7
        have hS13 : ST w0 [] _ [⟨some ⟨b, 0, none⟩, 23, [.int .i64 aP.Phase, .int .i64 aP.X, .int .i64 aP.Z], 3⟩, ⟨B, 44, (r_2.Cells.flatMap enc_Dyadic), c * 5⟩, ⟨some ⟨b1, 0, none⟩, 26, [.int .i64 r_2.Rows, .int .i64 r_2.Cols, .slice B r_2.Cells.length c], 3⟩, ⟨some ⟨b2, 0, none⟩, 26, [.int .i64 r_5.Rows, .int .i64 r_5.Cols, .slice B1 r_5.Cells.length c1], 3⟩, ⟨B1, 44, (m.flatMap enc_Dyadic), c1 * 5⟩] [] := hS13
        obtain ⟨⟨r_11, r_12⟩, hc8, hF6⟩ := bind_inv hF6
        refine sc 51 rfl rfl (Yc_func (g := 9) (vs := [.int .i64 aN, .agg #[.int .i64 r_10.Phase, .int .i64 r_10.X, .int .i64 r_10.Z]]) k_call_9 rfl (mc rfl (mc rfl mn)) (c_impl_PauliMatrix aN r_10 _  (hS13.inn0 [] rfl) hc8)) ?_
        rintro _ w_13 ⟨B2, c2, rfl, hd8⟩
        have hS14 := hS13.out0 hd8
        have hS14 : ST w0 [] _ [⟨some ⟨b, 0, none⟩, 23, [.int .i64 aP.Phase, .int .i64 aP.X, .int .i64 aP.Z], 3⟩, ⟨B, 44, (r_2.Cells.flatMap enc_Dyadic), c * 5⟩, ⟨some ⟨b1, 0, none⟩, 26, [.int .i64 r_2.Rows, .int .i64 r_2.Cols, .slice B r_2.Cells.length c], 3⟩, ⟨some ⟨b2, 0, none⟩, 26, [.int .i64 r_5.Rows, .int .i64 r_5.Cols, .slice B1 r_5.Cells.length c1], 3⟩, ⟨B1, 44, (m.flatMap enc_Dyadic), c1 * 5⟩, ⟨B2, 44, (r_11.Cells.flatMap enc_Dyadic), c2 * 5⟩] [] := hS14
        refine sq 47 rfl rfl (Y_move (v := .tuple #[.agg #[.int .i64 r_11.Rows, .int .i64 r_11.Cols, .slice B2 r_11.Cells.length c2], .bool r_12]) rfl rfl) ?_
        refine sq 52 rfl rfl (Y_extract (v := .agg #[.int .i64 r_11.Rows, .int .i64 r_11.Cols, .slice B2 r_11.Cells.length c2]) rfl rfl rfl) ?_
        refine sq 53 rfl rfl (Y_extract (v := .bool r_12) rfl rfl rfl) ?_
        refine ss 11 rfl rfl (Ys_alloc (T := 26) (cs := [.int .i64 0, .int .i64 0, .slice none 0 0]) (m := 3) hS14 k_zero_26 rfl rfl rfl) ?_
        rintro _ w_14 ⟨b3, rfl, hS15⟩
        have hS15 : ST w0 [] _ [⟨some ⟨b, 0, none⟩, 23, [.int .i64 aP.Phase, .int .i64 aP.X, .int .i64 aP.Z], 3⟩, ⟨B, 44, (r_2.Cells.flatMap enc_Dyadic), c * 5⟩, ⟨some ⟨b1, 0, none⟩, 26, [.int .i64 r_2.Rows, .int .i64 r_2.Cols, .slice B r_2.Cells.length c], 3⟩, ⟨some ⟨b2, 0, none⟩, 26, [.int .i64 r_5.Rows, .int .i64 r_5.Cols, .slice B1 r_5.Cells.length c1], 3⟩, ⟨B1, 44, (m.flatMap enc_Dyadic), c1 * 5⟩, ⟨B2, 44, (r_11.Cells.flatMap enc_Dyadic), c2 * 5⟩, ⟨some ⟨b3, 0, none⟩, 26, [.int .i64 0, .int .i64 0, .slice none 0 0], 3⟩] [] := hS15
        refine ss0 rfl rfl (Ys_store (i := 6) (s := 3) (B := some ⟨b3, 0, none⟩) (T' := 26) (v := .agg #[.int .i64 r_11.Rows, .int .i64 r_11.Cols, .slice B2 r_11.Cells.length c2]) (vs := [.int .i64 r_11.Rows, .int .i64 r_11.Cols, .slice B2 r_11.Cells.length c2]) (k := 0) (cs' := [.int .i64 r_11.Rows, .int .i64 r_11.Cols, .slice B2 r_11.Cells.length c2]) hS15 k_sz_26_3 rfl rfl rfl rfl rfl rfl rfl (Nat.le_of_ble_eq_true rfl) rfl rfl) ?_
        rintro _ w_15 ⟨rfl, hS16⟩
        have hS16 : ST w0 [] _ [⟨some ⟨b, 0, none⟩, 23, [.int .i64 aP.Phase, .int .i64 aP.X, .int .i64 aP.Z], 3⟩, ⟨B, 44, (r_2.Cells.flatMap enc_Dyadic), c * 5⟩, ⟨some ⟨b1, 0, none⟩, 26, [.int .i64 r_2.Rows, .int .i64 r_2.Cols, .slice B r_2.Cells.length c], 3⟩, ⟨some ⟨b2, 0, none⟩, 26, [.int .i64 r_5.Rows, .int .i64 r_5.Cols, .slice B1 r_5.Cells.length c1], 3⟩, ⟨B1, 44, (m.flatMap enc_Dyadic), c1 * 5⟩, ⟨B2, 44, (r_11.Cells.flatMap enc_Dyadic), c2 * 5⟩, ⟨some ⟨b3, 0, none⟩, 26, [.int .i64 r_11.Rows, .int .i64 r_11.Cols, .slice B2 r_11.Cells.length c2], 3⟩] [] := hS16
        refine sq 12 rfl rfl (Y_assign (v := .bool r_12) rfl rfl) ?_
        refine rw_nil ?_
        refine cw_seq ?_
        refine cw_seq ?_
        refine cw_region ?_
        refine sq 54 rfl rfl (Y_loadA (B := some ⟨b3, 0, none⟩) (i := 0) (cs := [.int .i64 r_11.Rows, .int .i64 r_11.Cols, .slice B2 r_11.Cells.length c2]) (vs := [.int .i64 r_11.Rows, .int .i64 r_11.Cols, .slice B2 r_11.Cells.length c2]) k_ag_26 k_sz_26_3 rfl rfl (hS16.cf (i := 6) rfl) rfl rfl) ?_
        refine sq 55 rfl rfl (Y_loadA (B := some ⟨b1, 0, none⟩) (i := 0) (cs := [.int .i64 r_2.Rows, .int .i64 r_2.Cols, .slice B r_2.Cells.length c]) (vs := [.int .i64 r_2.Rows, .int .i64 r_2.Cols, .slice B r_2.Cells.length c]) k_ag_26 k_sz_26_3 rfl rfl (hS16.cf (i := 2) rfl) rfl rfl) ?_
        obtain ⟨r_13, hc9, hF6⟩ := bind_inv hF6
        refine sc 56 rfl rfl (Yc_func (g := 10) (vs := [.agg #[.int .i64 r_11.Rows, .int .i64 r_11.Cols, .slice B2 r_11.Cells.length c2], .agg #[.int .i64 r_2.Rows, .int .i64 r_2.Cols, .slice B r_2.Cells.length c]]) k_call_10 rfl (mc rfl (mc rfl mn)) (c_laws_eqMatrix r_11 r_2 B2 c2 r_11.Cells.length B c r_2.Cells.length _ rfl rfl (hS16.inn0 [(false, 5), (false, 1)] rfl) hc9)) ?_
        rintro _ w_16 ⟨rfl, hd9⟩
        have hS17 := hS16.out00 hd9
        have hS17 : ST w0 [] _ [⟨some ⟨b, 0, none⟩, 23, [.int .i64 aP.Phase, .int .i64 aP.X, .int .i64 aP.Z], 3⟩, ⟨B, 44, (r_2.Cells.flatMap enc_Dyadic), c * 5⟩, ⟨some ⟨b1, 0, none⟩, 26, [.int .i64 r_2.Rows, .int .i64 r_2.Cols, .slice B r_2.Cells.length c], 3⟩, ⟨some ⟨b2, 0, none⟩, 26, [.int .i64 r_5.Rows, .int .i64 r_5.Cols, .slice B1 r_5.Cells.length c1], 3⟩, ⟨B1, 44, (m.flatMap enc_Dyadic), c1 * 5⟩, ⟨B2, 44, (r_11.Cells.flatMap enc_Dyadic), c2 * 5⟩, ⟨some ⟨b3, 0, none⟩, 26, [.int .i64 r_11.Rows, .int .i64 r_11.Cols, .slice B2 r_11.Cells.length c2], 3⟩] [] := hS17
        refine sq 57 rfl rfl (Y_not (p := r_13) rfl rfl) ?_
        refine sq 58 rfl rfl (Y_move (v := .bool (!r_13)) rfl rfl) ?_
        refine sgq 59 (B := (!(!r_13))) (v := .bool r_12) rfl rfl (wt_f (gd_of (t := 58) (by kernel_rfl) rfl)) (fun hg3 => (Y_move (v := .bool r_12) rfl rfl)) ?_
        refine sgq 60 (B := (!(!r_13))) (v := .bool r_3) rfl rfl (wt_f (gd_of (t := 58) (by kernel_rfl) rfl)) (fun hg4 => (Y_move (v := .bool r_3) rfl rfl)) ?_
        refine sgq 61 (B := (!(!r_13))) (v := .bool (!(r_12 == r_3))) rfl rfl (wt_f (gd_of (t := 58) (by kernel_rfl) rfl)) (fun hg5 => (Y_bne (p := r_12) (q := r_3) k_und_4 rfl (gv_of (B := (!(!r_13))) (v := .bool r_12) hg5) (gv_of (B := (!(!r_13))) (v := .bool r_3) hg5))) ?_
        refine sq 62 rfl rfl (Y_or (b := (!r_13)) (z := (!(r_12 == r_3))) rfl rfl rfl rfl) ?_
        refine rw_nil ?_
        refine cw_cond (b := ((!r_13) || (!(r_12 == r_3)))) rfl (fun hb3 => ?_) (fun hb3 => ?_)
        · skip
          have hF7 := ct hF6 hb3
          refine cw_seq ?_
          refine cw_region ?_
          refine sq 4 rfl rfl (Y_assign (v := .bool false) rfl rfl) ?_
          refine rw_nil ?_
          refine cw_ret ?_
          obtain rfl := some_inj hF7
          exact ret1 Try.results3 (v1 := .bool false) (resAt_tmp rfl) ⟨rfl, (ST.subR (R' := []) (hS17.sel [] rfl rfl) (fun _ h => by cases h))⟩
        · skip
          have hF8 := cf' hF6 hb3
          refine cw_skip ?_
          refine cw_seq ?_
          refine cw_region ?_
          refine sq 10 rfl rfl (Y_assign (v := .int .i64 1) rfl rfl) ?_
          refine rw_nil ?_
          refine cw_seq ?_
          refine cw_region ?_
          refine sq 63 rfl rfl (Y_loadA (B := some ⟨b2, 0, none⟩) (i := 0) (cs := [.int .i64 r_5.Rows, .int .i64 r_5.Cols, .slice B1 r_5.Cells.length c1]) (vs := [.int .i64 r_5.Rows, .int .i64 r_5.Cols, .slice B1 r_5.Cells.length c1]) k_ag_26 k_sz_26_3 rfl rfl (hS17.cf (i := 3) rfl) rfl rfl) ?_
          refine sq 64 rfl rfl (Y_move (v := .int .i64 1) rfl rfl) ?_
          obtain ⟨r_14, hc10, hF8⟩ := bind_inv hF8
          refine sc 65 rfl rfl (Yc_func (g := 12) (vs := [.agg #[.int .i64 r_5.Rows, .int .i64 r_5.Cols, .slice B1 r_5.Cells.length c1], .int .i64 1]) k_call_12 rfl (mc rfl (mc rfl mn)) (c_laws_heldMatrix (TMatrix.mk r_5.Rows r_5.Cols m) 1 B1 c1 r_5.Cells.length _ hl (hS17.inn0 [(false, 4)] rfl) hc10)) ?_
          rintro _ w_17 ⟨rfl, hd10⟩
          have hS18 := hS17.out00 hd10
          have hS18 : ST w0 [] _ [⟨some ⟨b, 0, none⟩, 23, [.int .i64 aP.Phase, .int .i64 aP.X, .int .i64 aP.Z], 3⟩, ⟨B, 44, (r_2.Cells.flatMap enc_Dyadic), c * 5⟩, ⟨some ⟨b1, 0, none⟩, 26, [.int .i64 r_2.Rows, .int .i64 r_2.Cols, .slice B r_2.Cells.length c], 3⟩, ⟨some ⟨b2, 0, none⟩, 26, [.int .i64 r_5.Rows, .int .i64 r_5.Cols, .slice B1 r_5.Cells.length c1], 3⟩, ⟨B1, 44, (m.flatMap enc_Dyadic), c1 * 5⟩, ⟨B2, 44, (r_11.Cells.flatMap enc_Dyadic), c2 * 5⟩, ⟨some ⟨b3, 0, none⟩, 26, [.int .i64 r_11.Rows, .int .i64 r_11.Cols, .slice B2 r_11.Cells.length c2], 3⟩] [] := hS18
          refine sq 10 rfl rfl (Y_assign (v := .int .i64 r_14) rfl rfl) ?_
          refine rw_nil ?_
          refine cw_seq ?_
          refine cw_seq ?_
          refine cw_region ?_
          refine sq 66 rfl rfl (Y_move (v := .int .i64 r_14) rfl rfl) ?_
          refine sq 67 rfl rfl (Y_lt (k := .i64) (a := r_14) (b := 0) rfl rfl rfl) ?_
          refine rw_nil ?_
          refine cw_cond (b := (decide (r_14 < 0))) rfl (fun hb4 => ?_) (fun hb4 => ?_)
          · skip
            have hF9 := ct hF8 hb4
            refine cw_seq ?_
            refine cw_region ?_
            refine sq 4 rfl rfl (Y_assign (v := .bool false) rfl rfl) ?_
            refine rw_nil ?_
            refine cw_ret ?_
            obtain rfl := some_inj hF9
            exact ret1 Try.results3 (v1 := .bool false) (resAt_tmp rfl) ⟨rfl, (ST.subR (R' := []) (hS18.sel [] rfl rfl) (fun _ h => by cases h))⟩
          · skip
            have hF10 := cf' hF8 hb4
            refine cw_skip ?_
            refine cw_seq ?_
            refine cw_seq ?_
            refine cw_region ?_
            refine sq 68 rfl rfl (Y_move (v := .int .i64 r_14) rfl rfl) ?_
            refine sq 69 rfl rfl (Y_move (v := .int .i64 r_8) rfl rfl) ?_
            refine sq 70 rfl rfl (Y_ne (k := .i64) (a := r_14) (b := r_8) rfl rfl rfl) ?_
            refine rw_nil ?_
            refine cw_cond (b := (r_14 != r_8)) rfl (fun hb5 => ?_) (fun hb5 => ?_)
            · skip
              have hF11 := ct hF10 hb5
              refine cw_seq ?_
              refine cw_region ?_
              refine sq 4 rfl rfl (Y_assign (v := .bool false) rfl rfl) ?_
              refine rw_nil ?_
              refine cw_ret ?_
              obtain rfl := some_inj hF11
              exact ret1 Try.results3 (v1 := .bool false) (resAt_tmp rfl) ⟨rfl, (ST.subR (R' := []) (hS18.sel [] rfl rfl) (fun _ h => by cases h))⟩
            · skip
              have hF12 := cf' hF10 hb5
              refine cw_skip ?_
              refine cw_seq ?_
              refine cw_region ?_
              refine sq 4 rfl rfl (Y_assign (v := .bool true) rfl rfl) ?_
              refine rw_nil ?_
              refine cw_ret ?_
              obtain rfl := some_inj hF12
              exact ret1 Try.results3 (v1 := .bool true) (resAt_tmp rfl) ⟨rfl, (ST.subR (R' := []) (hS18.sel [] rfl rfl) (fun _ h => by cases h))⟩
end Go.VK
