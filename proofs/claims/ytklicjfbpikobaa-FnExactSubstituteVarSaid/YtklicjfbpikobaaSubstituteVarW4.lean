/- Walks: each Go function returns what its Lean function says. By program. -/
import Derived.Test.YtklicjfbpikobaaSubstituteVarFa
import Derived.Test.YtklicjfbpikobaaSubstituteVarShelf
import Derived.Test.YtklicjfbpikobaaLibT
import Derived.WalkKit
import Derived.Test.YtklicjfbpikobaaSubstituteVarW3
set_option linter.unusedVariables false
set_option maxRecDepth 100000
set_option maxHeartbeats 4000000
namespace Go.VK
open Go.RowKit
open Go.Proofs
attribute [local irreducible] CW RW RA CV Y Yw Yc Ys RetOf
attribute [local irreducible] F_laws_szTermS F_laws_szAffineS F_laws_szPathSum F_spec_l1In F_spec_l1Set F_spec_l21Valid F_spec_l21Sum_add F_spec_l21Drop F_spec_l21Sum_times F_spec_l21Replace F_spec_SubstituteVar F_laws_toTerm F_laws_toTermS F_laws_toAffine F_laws_toAffineS F_laws_toPathSum F_impl_within F_math_bits_OnesCount64 F_math_bits_OnesCount F_impl_bitsIn F_slices_IndexFunc_impl_Affine_impl_Affine F_slices_ContainsFunc_impl_Affine_impl_Affine F_impl_isAffine F_impl_IsValidPathSum_1 F_impl_IsValidPathSum F_impl_PathSum_isPathVar F_impl_polynomial_terms F_impl_polynomial_add F_impl_bitsOf F_impl_polynomial_expand F_impl_dropped F_impl_PathSum_without F_impl_PathSum_substituted F_impl_SubstituteVar F_laws_eqTerm F_laws_eqTermS F_laws_eqAffine F_laws_eqAffineS F_laws_eqPathSum F_laws_markTermS F_laws_markAffineS F_laws_markPathSum F_laws_heldTermS F_laws_heldAffineS F_laws_heldPathSum F_laws_FnExactSubstituteVar
theorem c_laws_heldTermS (a : List TTerm) (k_ : Int) (B : Option Addr) (c n : Nat) (w0 : World) (hn : a.length = n) (hS : ST w0 [] w0 [] [⟨B, (a.flatMap enc_Term)⟩]) {r_ : Int} (hF : F_laws_heldTermS a k_ = some r_) :
    CV Try.prog 62 #[.slice B n c, .int .i64 k_] w0 (fun v w' => v = .int .i64 r_ ∧ ST w0 [] w' [] []) := by
  subst hn
  unfold F_laws_heldTermS at hF
  refine cv_of_cw 31 Try.func62 rfl Try.ntmps62 rfl ?_
  refine cw_seq ?_
  refine cw_region ?_
  refine sq 4 rfl rfl (Y_assign (v := .int .i64 0) rfl rfl) ?_
  refine rw_nil ?_
  refine cw_seq ?_
  refine cw_seq ?_
  refine cw_region ?_
  refine sq 5 rfl rfl (Y_assign (v := .int .i64 0) rfl rfl) ?_
  refine rw_nil ?_
  obtain ⟨hN, hF⟩ := chk_inv hF
  obtain ⟨z, hz, hF1⟩ := bind_inv hF
  refine cw_block ?_
  refine cw_loop (fun k f w => ∃ (i1 : Nat) (k_1 : Int), FF f [(0, .slice B a.length c), (1, .int .i64 k_1), (5, .int .i64 (i1 : Int))] ∧ ST w0 [] w [] [⟨B, (a.flatMap enc_Term)⟩] ∧ i1 + k = a.length ∧ forX (F_laws_heldTermS_l1 a) k i1 k_1 = some z) a.length ⟨0, k_, (FF.cons rfl (FF.cons rfl (FF.cons rfl FF.nil))), (hS.sel [] rfl rfl), Nat.zero_add _, hz⟩ ?_
  rintro k_2 f w ⟨i1, k_1, hf, hS1, hik, hL⟩
  refine cw_seq ?_
  refine cw_seq ?_
  refine cw_region ?_
  refine sq 6 rfl rfl (Y_move (v := .int .i64 (i1 : Int)) rfl (hf.get 5 2 rfl)) ?_
  refine sq 7 rfl rfl (Y_move (v := .slice B a.length c) rfl (hf.get 0 0 rfl)) ?_
  refine sq 8 rfl rfl (Y_len (B := B) (m := a.length) (c := c) k_sl_54_136 rfl rfl) ?_
  refine sq 9 rfl rfl (Y_lt (k := .i64) (a := (i1 : Int)) (b := (a.length : Int)) rfl rfl rfl) ?_
  refine rw_nil ?_
  refine cw_cond (b := (decide ((i1 : Int) < (a.length : Int)))) rfl (fun hlt => ?_) (fun hlt => ?_)
  · skip
    have hlt1 : i1 < a.length := by have h := of_decide_eq_true hlt; omega
    obtain ⟨k_3, rfl⟩ : ∃ k2, k_2 = k2 + 1 := ⟨k_2 - 1, by omega⟩
    obtain ⟨y, hb, hL1⟩ := forX_go hL
    unfold F_laws_heldTermS_l1 at hb
    refine cw_skip ?_
    refine cw_seq ?_
    refine cw_block ?_
    refine cw_seq ?_
    refine cw_seq ?_
    refine cw_region ?_
    refine sq 12 rfl rfl (Y_move (v := .slice B a.length c) rfl (hf.get 0 0 rfl)) ?_
    refine sq 13 rfl rfl (Y_move (v := .int .i64 (i1 : Int)) rfl (hf.get 5 2 rfl)) ?_
    obtain ⟨x, hx, hb⟩ := bind_inv hb
    refine sq 14 rfl rfl (Y_index (B := B) (m := a.length) (c := c) (k := .i64) (i := (i1 : Int)) k_sl_54_136 k_sz_136_2 rfl rfl rfl (gi_isSome enc_Term_len rfl (hS1.rf (i := 0) rfl) hx) (getI_nn hx) (getI_ltI hx rfl)) ?_
    refine sq 15 rfl rfl (Y_fieldAddr (B := B) (i := (i1 : Int).toNat * 2) (s := 0) k_fd_136_0_0_3 k_sz_3_1 rfl rfl) ?_
    refine sq 16 rfl rfl (Y_load1 (B := B) (i := (i1 : Int).toNat * 2 + 0) (cs := (a.flatMap enc_Term)) (v := .int .i64 x.Mask) k_sc_3 rfl rfl (hS1.rf (i := 0) rfl) (gi_at enc_Term_len hx rfl)) ?_
    refine sq 17 rfl rfl (Y_move (v := .int .i64 k_1) rfl (hf.get 1 1 rfl)) ?_
    refine sq 18 rfl rfl (Y_ne (k := .i64) (a := x.Mask) (b := k_1) rfl rfl rfl) ?_
    refine rw_nil ?_
    refine cw_cond (b := (x.Mask != k_1)) rfl (fun hb1 => ?_) (fun hb1 => ?_)
    · skip
      have hF2 := ct hb hb1
      refine cw_seq ?_
      refine cw_region ?_
      refine sq 4 rfl rfl (Y_assign (v := .int .i64 (-1)) rfl rfl) ?_
      refine rw_nil ?_
      refine cw_ret ?_
      obtain rfl := some_inj hF2
      obtain rfl := some_inj hL1
      obtain rfl := some_inj hF1
      exact ret1 Try.results62 (v1 := .int .i64 (-1)) (resAt_tmp rfl) ⟨rfl, (ST.subR (R' := []) (hS1.sel [] rfl rfl) (fun _ h => by cases h))⟩
    · skip
      have hF3 := cf' hb hb1
      refine cw_skip ?_
      refine cw_seq ?_
      refine cw_region ?_
      refine sq 19 rfl rfl (Y_move (v := .int .i64 k_1) rfl (hf.get 1 1 rfl)) ?_
      refine sq 20 rfl rfl (Y_add (k := .i64) (a := k_1) (b := 1) rfl rfl rfl) ?_
      refine sq 1 rfl rfl (Y_assign (v := .int .i64 (IntKind.i64.wrap (k_1 + 1))) rfl rfl) ?_
      refine rw_nil ?_
      refine cw_seq ?_
      refine cw_seq ?_
      refine cw_region ?_
      refine sq 21 rfl rfl (Y_move (v := .slice B a.length c) rfl (hf.get 0 0 rfl)) ?_
      refine sq 22 rfl rfl (Y_move (v := .int .i64 (i1 : Int)) rfl (hf.get 5 2 rfl)) ?_
      refine sq 23 rfl rfl (Y_index (B := B) (m := a.length) (c := c) (k := .i64) (i := (i1 : Int)) k_sl_54_136 k_sz_136_2 rfl rfl rfl (gi_isSome enc_Term_len rfl (hS1.rf (i := 0) rfl) hx) (getI_nn hx) (getI_ltI hx rfl)) ?_
      refine sq 24 rfl rfl (Y_fieldAddr (B := B) (i := (i1 : Int).toNat * 2) (s := 0) k_fd_136_1_1_3 k_sz_3_1 rfl rfl) ?_
      refine sq 25 rfl rfl (Y_load1 (B := B) (i := (i1 : Int).toNat * 2 + 1) (cs := (a.flatMap enc_Term)) (v := .int .i64 x.Coef) k_sc_3 rfl rfl (hS1.rf (i := 0) rfl) (gi_at enc_Term_len hx rfl)) ?_
      refine sq 26 rfl rfl (Y_move (v := .int .i64 (IntKind.i64.wrap (k_1 + 1))) rfl rfl) ?_
      refine sq 27 rfl rfl (Y_ne (k := .i64) (a := x.Coef) (b := (IntKind.i64.wrap (k_1 + 1))) rfl rfl rfl) ?_
      refine rw_nil ?_
      refine cw_cond (b := (x.Coef != (IntKind.i64.wrap (k_1 + 1)))) rfl (fun hb2 => ?_) (fun hb2 => ?_)
      · skip
        have hF4 := ct hF3 hb2
        refine cw_seq ?_
        refine cw_region ?_
        refine sq 4 rfl rfl (Y_assign (v := .int .i64 (-1)) rfl rfl) ?_
        refine rw_nil ?_
        refine cw_ret ?_
        obtain rfl := some_inj hF4
        obtain rfl := some_inj hL1
        obtain rfl := some_inj hF1
        exact ret1 Try.results62 (v1 := .int .i64 (-1)) (resAt_tmp rfl) ⟨rfl, (ST.subR (R' := []) (hS1.sel [] rfl rfl) (fun _ h => by cases h))⟩
      · skip
        have hF5 := cf' hF3 hb2
        refine cw_skip ?_
        refine cw_region ?_
        refine sq 28 rfl rfl (Y_move (v := .int .i64 (IntKind.i64.wrap (k_1 + 1))) rfl rfl) ?_
        refine sq 29 rfl rfl (Y_add (k := .i64) (a := (IntKind.i64.wrap (k_1 + 1))) (b := 1) rfl rfl rfl) ?_
        refine sq 1 rfl rfl (Y_assign (v := .int .i64 (IntKind.i64.wrap ((IntKind.i64.wrap (k_1 + 1)) + 1))) rfl rfl) ?_
        refine rw_nil ?_
        refine cw_region ?_
        refine sq 10 rfl rfl (Y_move (v := .int .i64 (i1 : Int)) rfl (hf.get 5 2 rfl)) ?_
        refine sq 11 rfl rfl (Y_add (k := .i64) (a := (i1 : Int)) (b := 1) rfl rfl rfl) ?_
        refine sq 5 rfl rfl (Y_assign (v := .int .i64 (IntKind.i64.wrap ((i1 : Int) + 1))) rfl rfl) ?_
        refine rw_nil ?_
        obtain rfl := some_inj hF5
        exact ⟨k_3, Nat.lt_succ_self _, i1 + 1, (IntKind.i64.wrap ((IntKind.i64.wrap (k_1 + 1)) + 1)), (FF.cons (hf.get 0 0 rfl) (FF.cons rfl (FF.cons (congrArg (Value.int .i64) (wr_succ hlt1 hN)) FF.nil))), (hS1.sel [] rfl rfl), (by omega), hL1⟩
  · skip
    obtain rfl : k_2 = 0 := by have h := of_decide_eq_false hlt; omega
    refine cw_exit rfl ?_
    obtain rfl := some_inj hL
    refine cw_seq ?_
    refine cw_region ?_
    refine sq 30 rfl rfl (Y_move (v := .int .i64 k_1) rfl (hf.get 1 1 rfl)) ?_
    refine sq 4 rfl rfl (Y_assign (v := .int .i64 k_1) rfl rfl) ?_
    refine rw_nil ?_
    refine cw_ret ?_
    obtain rfl := some_inj hF1
    exact ret1 Try.results62 (v1 := .int .i64 k_1) (resAt_tmp rfl) ⟨rfl, (ST.subR (R' := []) (hS1.sel [] rfl rfl) (fun _ h => by cases h))⟩

theorem c_laws_heldAffineS (a : List TAffine) (k_ : Int) (B : Option Addr) (c n : Nat) (w0 : World) (hn : a.length = n) (hS : ST w0 [] w0 [] [⟨B, (a.flatMap enc_Affine)⟩]) {r_ : Int} (hF : F_laws_heldAffineS a k_ = some r_) :
    CV Try.prog 63 #[.slice B n c, .int .i64 k_] w0 (fun v w' => v = .int .i64 r_ ∧ ST w0 [] w' [] []) := by
  subst hn
  unfold F_laws_heldAffineS at hF
  refine cv_of_cw 31 Try.func63 rfl Try.ntmps63 rfl ?_
  refine cw_seq ?_
  refine cw_region ?_
  refine sq 4 rfl rfl (Y_assign (v := .int .i64 0) rfl rfl) ?_
  refine rw_nil ?_
  refine cw_seq ?_
  refine cw_seq ?_
  refine cw_region ?_
  refine sq 5 rfl rfl (Y_assign (v := .int .i64 0) rfl rfl) ?_
  refine rw_nil ?_
  obtain ⟨hN, hF⟩ := chk_inv hF
  obtain ⟨z, hz, hF1⟩ := bind_inv hF
  refine cw_block ?_
  refine cw_loop (fun k f w => ∃ (i1 : Nat) (k_1 : Int), FF f [(0, .slice B a.length c), (1, .int .i64 k_1), (5, .int .i64 (i1 : Int))] ∧ ST w0 [] w [] [⟨B, (a.flatMap enc_Affine)⟩] ∧ i1 + k = a.length ∧ forX (F_laws_heldAffineS_l1 a) k i1 k_1 = some z) a.length ⟨0, k_, (FF.cons rfl (FF.cons rfl (FF.cons rfl FF.nil))), (hS.sel [] rfl rfl), Nat.zero_add _, hz⟩ ?_
  rintro k_2 f w ⟨i1, k_1, hf, hS1, hik, hL⟩
  refine cw_seq ?_
  refine cw_seq ?_
  refine cw_region ?_
  refine sq 6 rfl rfl (Y_move (v := .int .i64 (i1 : Int)) rfl (hf.get 5 2 rfl)) ?_
  refine sq 7 rfl rfl (Y_move (v := .slice B a.length c) rfl (hf.get 0 0 rfl)) ?_
  refine sq 8 rfl rfl (Y_len (B := B) (m := a.length) (c := c) k_sl_55_61 rfl rfl) ?_
  refine sq 9 rfl rfl (Y_lt (k := .i64) (a := (i1 : Int)) (b := (a.length : Int)) rfl rfl rfl) ?_
  refine rw_nil ?_
  refine cw_cond (b := (decide ((i1 : Int) < (a.length : Int)))) rfl (fun hlt => ?_) (fun hlt => ?_)
  · skip
    have hlt1 : i1 < a.length := by have h := of_decide_eq_true hlt; omega
    obtain ⟨k_3, rfl⟩ : ∃ k2, k_2 = k2 + 1 := ⟨k_2 - 1, by omega⟩
    obtain ⟨y, hb, hL1⟩ := forX_go hL
    unfold F_laws_heldAffineS_l1 at hb
    refine cw_skip ?_
    refine cw_seq ?_
    refine cw_block ?_
    refine cw_seq ?_
    refine cw_seq ?_
    refine cw_region ?_
    refine sq 12 rfl rfl (Y_move (v := .slice B a.length c) rfl (hf.get 0 0 rfl)) ?_
    refine sq 13 rfl rfl (Y_move (v := .int .i64 (i1 : Int)) rfl (hf.get 5 2 rfl)) ?_
    obtain ⟨x, hx, hb⟩ := bind_inv hb
    refine sq 14 rfl rfl (Y_index (B := B) (m := a.length) (c := c) (k := .i64) (i := (i1 : Int)) k_sl_55_61 k_sz_61_2 rfl rfl rfl (gi_isSome enc_Affine_len rfl (hS1.rf (i := 0) rfl) hx) (getI_nn hx) (getI_ltI hx rfl)) ?_
    refine sq 15 rfl rfl (Y_fieldAddr (B := B) (i := (i1 : Int).toNat * 2) (s := 0) k_fd_61_0_0_3 k_sz_3_1 rfl rfl) ?_
    refine sq 16 rfl rfl (Y_load1 (B := B) (i := (i1 : Int).toNat * 2 + 0) (cs := (a.flatMap enc_Affine)) (v := .int .i64 x.Mask) k_sc_3 rfl rfl (hS1.rf (i := 0) rfl) (gi_at enc_Affine_len hx rfl)) ?_
    refine sq 17 rfl rfl (Y_move (v := .int .i64 k_1) rfl (hf.get 1 1 rfl)) ?_
    refine sq 18 rfl rfl (Y_ne (k := .i64) (a := x.Mask) (b := k_1) rfl rfl rfl) ?_
    refine rw_nil ?_
    refine cw_cond (b := (x.Mask != k_1)) rfl (fun hb1 => ?_) (fun hb1 => ?_)
    · skip
      have hF2 := ct hb hb1
      refine cw_seq ?_
      refine cw_region ?_
      refine sq 4 rfl rfl (Y_assign (v := .int .i64 (-1)) rfl rfl) ?_
      refine rw_nil ?_
      refine cw_ret ?_
      obtain rfl := some_inj hF2
      obtain rfl := some_inj hL1
      obtain rfl := some_inj hF1
      exact ret1 Try.results63 (v1 := .int .i64 (-1)) (resAt_tmp rfl) ⟨rfl, (ST.subR (R' := []) (hS1.sel [] rfl rfl) (fun _ h => by cases h))⟩
    · skip
      have hF3 := cf' hb hb1
      refine cw_skip ?_
      refine cw_seq ?_
      refine cw_region ?_
      refine sq 19 rfl rfl (Y_move (v := .int .i64 k_1) rfl (hf.get 1 1 rfl)) ?_
      refine sq 20 rfl rfl (Y_add (k := .i64) (a := k_1) (b := 1) rfl rfl rfl) ?_
      refine sq 1 rfl rfl (Y_assign (v := .int .i64 (IntKind.i64.wrap (k_1 + 1))) rfl rfl) ?_
      refine rw_nil ?_
      refine cw_seq ?_
      refine cw_seq ?_
      refine cw_region ?_
      refine sq 21 rfl rfl (Y_move (v := .slice B a.length c) rfl (hf.get 0 0 rfl)) ?_
      refine sq 22 rfl rfl (Y_move (v := .int .i64 (i1 : Int)) rfl (hf.get 5 2 rfl)) ?_
      refine sq 23 rfl rfl (Y_index (B := B) (m := a.length) (c := c) (k := .i64) (i := (i1 : Int)) k_sl_55_61 k_sz_61_2 rfl rfl rfl (gi_isSome enc_Affine_len rfl (hS1.rf (i := 0) rfl) hx) (getI_nn hx) (getI_ltI hx rfl)) ?_
      refine sq 24 rfl rfl (Y_fieldAddr (B := B) (i := (i1 : Int).toNat * 2) (s := 0) k_fd_61_1_1_3 k_sz_3_1 rfl rfl) ?_
      refine sq 25 rfl rfl (Y_load1 (B := B) (i := (i1 : Int).toNat * 2 + 1) (cs := (a.flatMap enc_Affine)) (v := .int .i64 x.Turn) k_sc_3 rfl rfl (hS1.rf (i := 0) rfl) (gi_at enc_Affine_len hx rfl)) ?_
      refine sq 26 rfl rfl (Y_move (v := .int .i64 (IntKind.i64.wrap (k_1 + 1))) rfl rfl) ?_
      refine sq 27 rfl rfl (Y_ne (k := .i64) (a := x.Turn) (b := (IntKind.i64.wrap (k_1 + 1))) rfl rfl rfl) ?_
      refine rw_nil ?_
      refine cw_cond (b := (x.Turn != (IntKind.i64.wrap (k_1 + 1)))) rfl (fun hb2 => ?_) (fun hb2 => ?_)
      · skip
        have hF4 := ct hF3 hb2
        refine cw_seq ?_
        refine cw_region ?_
        refine sq 4 rfl rfl (Y_assign (v := .int .i64 (-1)) rfl rfl) ?_
        refine rw_nil ?_
        refine cw_ret ?_
        obtain rfl := some_inj hF4
        obtain rfl := some_inj hL1
        obtain rfl := some_inj hF1
        exact ret1 Try.results63 (v1 := .int .i64 (-1)) (resAt_tmp rfl) ⟨rfl, (ST.subR (R' := []) (hS1.sel [] rfl rfl) (fun _ h => by cases h))⟩
      · skip
        have hF5 := cf' hF3 hb2
        refine cw_skip ?_
        refine cw_region ?_
        refine sq 28 rfl rfl (Y_move (v := .int .i64 (IntKind.i64.wrap (k_1 + 1))) rfl rfl) ?_
        refine sq 29 rfl rfl (Y_add (k := .i64) (a := (IntKind.i64.wrap (k_1 + 1))) (b := 1) rfl rfl rfl) ?_
        refine sq 1 rfl rfl (Y_assign (v := .int .i64 (IntKind.i64.wrap ((IntKind.i64.wrap (k_1 + 1)) + 1))) rfl rfl) ?_
        refine rw_nil ?_
        refine cw_region ?_
        refine sq 10 rfl rfl (Y_move (v := .int .i64 (i1 : Int)) rfl (hf.get 5 2 rfl)) ?_
        refine sq 11 rfl rfl (Y_add (k := .i64) (a := (i1 : Int)) (b := 1) rfl rfl rfl) ?_
        refine sq 5 rfl rfl (Y_assign (v := .int .i64 (IntKind.i64.wrap ((i1 : Int) + 1))) rfl rfl) ?_
        refine rw_nil ?_
        obtain rfl := some_inj hF5
        exact ⟨k_3, Nat.lt_succ_self _, i1 + 1, (IntKind.i64.wrap ((IntKind.i64.wrap (k_1 + 1)) + 1)), (FF.cons (hf.get 0 0 rfl) (FF.cons rfl (FF.cons (congrArg (Value.int .i64) (wr_succ hlt1 hN)) FF.nil))), (hS1.sel [] rfl rfl), (by omega), hL1⟩
  · skip
    obtain rfl : k_2 = 0 := by have h := of_decide_eq_false hlt; omega
    refine cw_exit rfl ?_
    obtain rfl := some_inj hL
    refine cw_seq ?_
    refine cw_region ?_
    refine sq 30 rfl rfl (Y_move (v := .int .i64 k_1) rfl (hf.get 1 1 rfl)) ?_
    refine sq 4 rfl rfl (Y_assign (v := .int .i64 k_1) rfl rfl) ?_
    refine rw_nil ?_
    refine cw_ret ?_
    obtain rfl := some_inj hF1
    exact ret1 Try.results63 (v1 := .int .i64 k_1) (resAt_tmp rfl) ⟨rfl, (ST.subR (R' := []) (hS1.sel [] rfl rfl) (fun _ h => by cases h))⟩

theorem c_laws_heldPathSum (a : TPathSum) (k_ : Int) (B : Option Addr) (c n : Nat) (B1 : Option Addr) (c1 n1 : Nat) (w0 : World) (hn : a.Terms.length = n) (hn1 : a.Out.length = n1) (hS : ST w0 [] w0 [] [⟨B, (a.Terms.flatMap enc_Term)⟩, ⟨B1, (a.Out.flatMap enc_Affine)⟩]) {r_ : Int} (hF : F_laws_heldPathSum a k_ = some r_) :
    CV Try.prog 27 #[.agg #[.int .i64 a.Ins, .int .i64 a.Vars, .int .i64 a.Root, .int .i64 a.Phase, .slice B n c, .slice B1 n1 c1], .int .i64 k_] w0 (fun v w' => v = .int .i64 r_ ∧ ST w0 [] w' [] []) := by
  subst hn
  subst hn1
  unfold F_laws_heldPathSum at hF
  refine cv_of_cw 18 Try.func27 rfl Try.ntmps27 rfl ?_
  refine cw_seq ?_
  refine cw_region ?_
  refine ss 2 rfl rfl (Ys_box (T := 57) (v := .agg #[.int .i64 a.Ins, .int .i64 a.Vars, .int .i64 a.Root, .int .i64 a.Phase, .slice B a.Terms.length c, .slice B1 a.Out.length c1]) (cs := [.int .i64 a.Ins, .int .i64 a.Vars, .int .i64 a.Root, .int .i64 a.Phase, .slice B a.Terms.length c, .slice B1 a.Out.length c1]) (m := 6) hS rfl rfl rfl rfl) ?_
  rintro _ w_ ⟨b, rfl, hS1⟩
  refine sq 4 rfl rfl (Y_assign (v := .int .i64 0) rfl rfl) ?_
  refine rw_nil ?_
  refine cw_seq ?_
  refine cw_region ?_
  refine sq 5 rfl rfl (Y_fieldAddr (B := some ⟨b, 0, none⟩) (i := 0) (s := 0) k_fd_57_4_4_54 k_sz_54_1 rfl rfl) ?_
  refine sq 6 rfl rfl (Y_load1 (B := some ⟨b, 0, none⟩) (i := 4) (cs := [.int .i64 a.Ins, .int .i64 a.Vars, .int .i64 a.Root, .int .i64 a.Phase, .slice B a.Terms.length c, .slice B1 a.Out.length c1]) (v := .slice B a.Terms.length c) k_sc_54 rfl rfl (hS1.cf (i := 0) rfl) rfl) ?_
  refine sq 7 rfl rfl (Y_move (v := .int .i64 k_) rfl rfl) ?_
  obtain ⟨r_1, hc, hF⟩ := bind_inv hF
  refine sc 8 rfl rfl (Yc_func (g := 62) (vs := [.slice B a.Terms.length c, .int .i64 k_]) k_call_62 rfl (mc rfl (mc rfl mn)) (c_laws_heldTermS a.Terms k_ B c a.Terms.length _ rfl (hS1.inn0 [(true, 0)] rfl) hc)) ?_
  rintro _ w_1 ⟨rfl, hd⟩
  have hS2 := hS1.out00 hd
  refine sq 1 rfl rfl (Y_assign (v := .int .i64 r_1) rfl rfl) ?_
  refine rw_nil ?_
  refine cw_seq ?_
  refine cw_seq ?_
  refine cw_region ?_
  refine sq 9 rfl rfl (Y_move (v := .int .i64 r_1) rfl rfl) ?_
  refine sq 10 rfl rfl (Y_lt (k := .i64) (a := r_1) (b := 0) rfl rfl rfl) ?_
  refine rw_nil ?_
  refine cw_cond (b := (decide (r_1 < 0))) rfl (fun hb => ?_) (fun hb => ?_)
  · skip
    have hF1 := ct hF hb
    refine cw_seq ?_
    refine cw_region ?_
    refine sq 4 rfl rfl (Y_assign (v := .int .i64 (-1)) rfl rfl) ?_
    refine rw_nil ?_
    refine cw_ret ?_
    obtain rfl := some_inj hF1
    exact ret1 Try.results27 (v1 := .int .i64 (-1)) (resAt_tmp rfl) ⟨rfl, (ST.subR (R' := []) (hS2.sel [] rfl rfl) (fun _ h => by cases h))⟩
  · skip
    have hF2 := cf' hF hb
    refine cw_skip ?_
    refine cw_seq ?_
    refine cw_region ?_
    refine sq 11 rfl rfl (Y_fieldAddr (B := some ⟨b, 0, none⟩) (i := 0) (s := 0) k_fd_57_5_5_55 k_sz_55_1 rfl rfl) ?_
    refine sq 12 rfl rfl (Y_load1 (B := some ⟨b, 0, none⟩) (i := 5) (cs := [.int .i64 a.Ins, .int .i64 a.Vars, .int .i64 a.Root, .int .i64 a.Phase, .slice B a.Terms.length c, .slice B1 a.Out.length c1]) (v := .slice B1 a.Out.length c1) k_sc_55 rfl rfl (hS2.cf (i := 0) rfl) rfl) ?_
    refine sq 13 rfl rfl (Y_move (v := .int .i64 r_1) rfl rfl) ?_
    obtain ⟨r_2, hc1, hF2⟩ := bind_inv hF2
    refine sc 14 rfl rfl (Yc_func (g := 63) (vs := [.slice B1 a.Out.length c1, .int .i64 r_1]) k_call_63 rfl (mc rfl (mc rfl mn)) (c_laws_heldAffineS a.Out r_1 B1 c1 a.Out.length _ rfl (hS2.inn0 [(true, 1)] rfl) hc1)) ?_
    rintro _ w_2 ⟨rfl, hd1⟩
    have hS3 := hS2.out00 hd1
    refine sq 1 rfl rfl (Y_assign (v := .int .i64 r_2) rfl rfl) ?_
    refine rw_nil ?_
    refine cw_seq ?_
    refine cw_seq ?_
    refine cw_region ?_
    refine sq 15 rfl rfl (Y_move (v := .int .i64 r_2) rfl rfl) ?_
    refine sq 16 rfl rfl (Y_lt (k := .i64) (a := r_2) (b := 0) rfl rfl rfl) ?_
    refine rw_nil ?_
    refine cw_cond (b := (decide (r_2 < 0))) rfl (fun hb1 => ?_) (fun hb1 => ?_)
    · skip
      have hF3 := ct hF2 hb1
      refine cw_seq ?_
      refine cw_region ?_
      refine sq 4 rfl rfl (Y_assign (v := .int .i64 (-1)) rfl rfl) ?_
      refine rw_nil ?_
      refine cw_ret ?_
      obtain rfl := some_inj hF3
      exact ret1 Try.results27 (v1 := .int .i64 (-1)) (resAt_tmp rfl) ⟨rfl, (ST.subR (R' := []) (hS3.sel [] rfl rfl) (fun _ h => by cases h))⟩
    · skip
      have hF4 := cf' hF2 hb1
      refine cw_skip ?_
      refine cw_seq ?_
      refine cw_region ?_
      refine sq 17 rfl rfl (Y_move (v := .int .i64 r_2) rfl rfl) ?_
      refine sq 4 rfl rfl (Y_assign (v := .int .i64 r_2) rfl rfl) ?_
      refine rw_nil ?_
      refine cw_ret ?_
      obtain rfl := some_inj hF4
      exact ret1 Try.results27 (v1 := .int .i64 r_2) (resAt_tmp rfl) ⟨rfl, (ST.subR (R' := []) (hS3.sel [] rfl rfl) (fun _ h => by cases h))⟩

theorem c_laws_FnExactSubstituteVar (aP : TPathSum) (aV : Int) (aBy : TAffine) (B : Option Addr) (c n : Nat) (B1 : Option Addr) (c1 n1 : Nat) (w0 : World) (hn : aP.Terms.length = n) (hn1 : aP.Out.length = n1) (hS : ST w0 [] w0 [] [⟨B, (aP.Terms.flatMap enc_Term)⟩, ⟨B1, (aP.Out.flatMap enc_Affine)⟩]) {r_ : Bool} (hF : F_laws_FnExactSubstituteVar aP aV aBy = some r_) :
    CV Try.prog 5 #[.agg #[.int .i64 aP.Ins, .int .i64 aP.Vars, .int .i64 aP.Root, .int .i64 aP.Phase, .slice B n c, .slice B1 n1 c1], .int .i64 aV, .agg #[.int .i64 aBy.Mask, .int .i64 aBy.Turn]] w0 (fun v w' => v = .bool r_ ∧ ST w0 [] w' [] []) := by
  subst hn
  subst hn1
  unfold F_laws_FnExactSubstituteVar at hF
  refine cv_of_cw 109 Try.func5 rfl Try.ntmps5 rfl ?_
  refine cw_seq ?_
  refine cw_region ?_
  refine ss 3 rfl rfl (Ys_box (T := 50) (v := .agg #[.int .i64 aP.Ins, .int .i64 aP.Vars, .int .i64 aP.Root, .int .i64 aP.Phase, .slice B aP.Terms.length c, .slice B1 aP.Out.length c1]) (cs := [.int .i64 aP.Ins, .int .i64 aP.Vars, .int .i64 aP.Root, .int .i64 aP.Phase, .slice B aP.Terms.length c, .slice B1 aP.Out.length c1]) (m := 6) hS rfl rfl rfl rfl) ?_
  rintro _ w_ ⟨b, rfl, hS1⟩
  refine ss 5 rfl rfl (Ys_box (T := 52) (v := .agg #[.int .i64 aBy.Mask, .int .i64 aBy.Turn]) (cs := [.int .i64 aBy.Mask, .int .i64 aBy.Turn]) (m := 2) hS1 rfl rfl rfl rfl) ?_
  rintro _ w_1 ⟨b1, rfl, hS2⟩
  have hS2 : ST w0 [] _ [⟨some ⟨b, 0, none⟩, 50, [.int .i64 aP.Ins, .int .i64 aP.Vars, .int .i64 aP.Root, .int .i64 aP.Phase, .slice B aP.Terms.length c, .slice B1 aP.Out.length c1], 6⟩, ⟨some ⟨b1, 0, none⟩, 52, [.int .i64 aBy.Mask, .int .i64 aBy.Turn], 2⟩] [⟨B, (aP.Terms.flatMap enc_Term)⟩, ⟨B1, (aP.Out.flatMap enc_Affine)⟩] := hS2
  refine sq 6 rfl rfl (Y_assign (v := .bool false) rfl rfl) ?_
  refine rw_nil ?_
  refine cw_seq ?_
  refine cw_region ?_
  refine sq 7 rfl rfl (Y_assign (v := .int .i64 1048576) rfl rfl) ?_
  refine rw_nil ?_
  refine cw_seq ?_
  refine cw_region ?_
  refine sq 18 rfl rfl (Y_loadA (B := some ⟨b, 0, none⟩) (i := 0) (cs := [.int .i64 aP.Ins, .int .i64 aP.Vars, .int .i64 aP.Root, .int .i64 aP.Phase, .slice B aP.Terms.length c, .slice B1 aP.Out.length c1]) (vs := [.int .i64 aP.Ins, .int .i64 aP.Vars, .int .i64 aP.Root, .int .i64 aP.Phase, .slice B aP.Terms.length c, .slice B1 aP.Out.length c1]) k_ag_50 k_sz_50_6 rfl rfl (hS2.cf (i := 0) rfl) rfl rfl) ?_
  refine sq 19 rfl rfl (Y_move (v := .int .i64 1048576) rfl rfl) ?_
  obtain ⟨r_1, hc, hF⟩ := bind_inv hF
  refine sc 20 rfl rfl (Yc_func (g := 20) (vs := [.agg #[.int .i64 aP.Ins, .int .i64 aP.Vars, .int .i64 aP.Root, .int .i64 aP.Phase, .slice B aP.Terms.length c, .slice B1 aP.Out.length c1], .int .i64 1048576]) k_call_20 rfl (mc rfl (mc rfl mn)) (c_laws_szPathSum aP 1048576 B c aP.Terms.length B1 c1 aP.Out.length _ rfl rfl (hS2.inn0 [(true, 0), (true, 1)] rfl) hc)) ?_
  rintro _ w_2 ⟨rfl, hd⟩
  have hS3 := hS2.out00 hd
  have hS3 : ST w0 [] _ [⟨some ⟨b, 0, none⟩, 50, [.int .i64 aP.Ins, .int .i64 aP.Vars, .int .i64 aP.Root, .int .i64 aP.Phase, .slice B aP.Terms.length c, .slice B1 aP.Out.length c1], 6⟩, ⟨some ⟨b1, 0, none⟩, 52, [.int .i64 aBy.Mask, .int .i64 aBy.Turn], 2⟩] [⟨B, (aP.Terms.flatMap enc_Term)⟩, ⟨B1, (aP.Out.flatMap enc_Affine)⟩] := hS3
  refine sq 7 rfl rfl (Y_assign (v := .int .i64 r_1) rfl rfl) ?_
  refine rw_nil ?_
  refine cw_seq ?_
  refine cw_seq ?_
  refine cw_region ?_
  refine sq 21 rfl rfl (Y_move (v := .int .i64 r_1) rfl rfl) ?_
  refine sq 22 rfl rfl (Y_lt (k := .i64) (a := r_1) (b := 0) rfl rfl rfl) ?_
  refine rw_nil ?_
  refine cw_cond (b := (decide (r_1 < 0))) rfl (fun hb => ?_) (fun hb => ?_)
  · skip
    have hF1 := ct hF hb
    refine cw_seq ?_
    refine cw_region ?_
    refine sq 6 rfl rfl (Y_assign (v := .bool true) rfl rfl) ?_
    refine rw_nil ?_
    refine cw_ret ?_
    obtain rfl := some_inj hF1
    exact ret1 Try.results5 (v1 := .bool true) (resAt_tmp rfl) ⟨rfl, (ST.subR (R' := []) (hS3.sel [] rfl rfl) (fun _ h => by cases h))⟩
  · skip
    have hF2 := cf' hF hb
    refine cw_skip ?_
    refine cw_seq ?_
    obtain ⟨r_2, hc1, hF2⟩ := bind_inv hF2
    obtain ⟨r_3, hc2, hF2⟩ := bind_inv hF2
    obtain ⟨⟨r_4, r_5⟩, hc3, hF2⟩ := bind_inv hF2
    refine cw_mid (fun f w => ∃ (B6 : Option Addr) (B7 : Option Addr) (c6 : Nat) (B8 : Option Addr) (c7 : Nat), FF f [(1, .int .i64 aV), (3, pt (some ⟨b, 0, none⟩) 0), (5, pt (some ⟨b1, 0, none⟩) 0), (8, pt B6 0), (9, .bool r_5)] ∧ ST w0 [] w [⟨some ⟨b, 0, none⟩, 50, [.int .i64 aP.Ins, .int .i64 aP.Vars, .int .i64 aP.Root, .int .i64 aP.Phase, .slice B aP.Terms.length c, .slice B1 aP.Out.length c1], 6⟩, ⟨some ⟨b1, 0, none⟩, 52, [.int .i64 aBy.Mask, .int .i64 aBy.Turn], 2⟩, ⟨B6, 57, [.int .i64 r_4.Ins, .int .i64 r_4.Vars, .int .i64 r_4.Root, .int .i64 r_4.Phase, .slice B7 r_4.Terms.length c6, .slice B8 r_4.Out.length c7], 6⟩, ⟨B7, 136, (r_4.Terms.flatMap enc_Term), c6 * 2⟩, ⟨B8, 61, (r_4.Out.flatMap enc_Affine), c7 * 2⟩] [⟨B, (aP.Terms.flatMap enc_Term)⟩, ⟨B1, (aP.Out.flatMap enc_Affine)⟩]) ?_ ?_
    · skip
      refine ra_start (ST.sel hS3 [0, 1] rfl rfl).fn (by kernel_rfl) ?_
      have hS8 := hS3.drew
      refine ra_q 0 24 (v := .agg #[.int .i64 aP.Ins, .int .i64 aP.Vars, .int .i64 aP.Root, .int .i64 aP.Phase, .slice B aP.Terms.length c, .slice B1 aP.Out.length c1]) rfl rfl rfl (by kernel_rfl) (by kernel_rfl) (by kernel_rfl) (ST.sel hS8 [0, 1] rfl rfl) (fun w' hw' => (Y_loadA (B := some ⟨b, 0, none⟩) (i := 0) (cs := [.int .i64 aP.Ins, .int .i64 aP.Vars, .int .i64 aP.Root, .int .i64 aP.Phase, .slice B aP.Terms.length c, .slice B1 aP.Out.length c1]) (vs := [.int .i64 aP.Ins, .int .i64 aP.Vars, .int .i64 aP.Root, .int .i64 aP.Phase, .slice B aP.Terms.length c, .slice B1 aP.Out.length c1]) k_ag_50 k_sz_50_6 rfl rfl (ST.cf hw' (i := 0) rfl) rfl rfl)) ?_
      refine ra_q 2 26 (v := .int .i64 aV) rfl rfl rfl (by kernel_rfl) (by kernel_rfl) (by kernel_rfl) (ST.sel hS8 [0, 1] rfl rfl) (fun w' hw' => (Y_move (v := .int .i64 aV) rfl rfl)) ?_
      refine ra_q 3 27 (v := .agg #[.int .i64 aBy.Mask, .int .i64 aBy.Turn]) rfl rfl rfl (by kernel_rfl) (by kernel_rfl) (by kernel_rfl) (ST.sel hS8 [0, 1] rfl rfl) (fun w' hw' => (Y_loadA (B := some ⟨b1, 0, none⟩) (i := 0) (cs := [.int .i64 aBy.Mask, .int .i64 aBy.Turn]) (vs := [.int .i64 aBy.Mask, .int .i64 aBy.Turn]) k_ag_52 k_sz_52_2 rfl rfl (ST.cf hw' (i := 1) rfl) rfl rfl)) ?_
      refine ra_all (rs := [1, 9]) (by kernel_rfl) rfl ?_
      refine ra_c 25 (i := 1) rfl rfl rfl (Yc_func (g := 22) (vs := [.agg #[.int .i64 aP.Ins, .int .i64 aP.Vars, .int .i64 aP.Root, .int .i64 aP.Phase, .slice B aP.Terms.length c, .slice B1 aP.Out.length c1]]) k_call_22 rfl (mc rfl mn) (c_laws_toPathSum aP B c aP.Terms.length B1 c1 aP.Out.length _ rfl rfl (hS8.inn0 [(true, 0), (true, 1)] rfl) hc1)) ?_ ?_
      · rintro _ w_3 ⟨B2, c2, B3, c3, rfl, hd1⟩
        have hS9 := hS8.out0 hd1
        have hS9 : ST w0 [] _ [⟨some ⟨b, 0, none⟩, 50, [.int .i64 aP.Ins, .int .i64 aP.Vars, .int .i64 aP.Root, .int .i64 aP.Phase, .slice B aP.Terms.length c, .slice B1 aP.Out.length c1], 6⟩, ⟨some ⟨b1, 0, none⟩, 52, [.int .i64 aBy.Mask, .int .i64 aBy.Turn], 2⟩, ⟨B2, 136, (r_2.Terms.flatMap enc_Term), c2 * 2⟩, ⟨B3, 61, (r_2.Out.flatMap enc_Affine), c3 * 2⟩] [⟨B, (aP.Terms.flatMap enc_Term)⟩, ⟨B1, (aP.Out.flatMap enc_Affine)⟩] := hS9
        refine ⟨(ST.sel hS9 [0, 1] rfl rfl), ?_⟩
        refine ra_all (rs := [4, 9]) (by kernel_rfl) rfl ?_
        refine ra_c 28 (i := 4) rfl rfl rfl (Yc_func (g := 23) (vs := [.agg #[.int .i64 aBy.Mask, .int .i64 aBy.Turn]]) k_call_23 rfl (mc rfl mn) (c_laws_toAffine aBy _  (hS9.inn0 [] rfl) hc2)) ?_ ?_
        · rintro _ w_4 ⟨rfl, hd2⟩
          have hS10 := hS9.out00 hd2
          have hS10 : ST w0 [] _ [⟨some ⟨b, 0, none⟩, 50, [.int .i64 aP.Ins, .int .i64 aP.Vars, .int .i64 aP.Root, .int .i64 aP.Phase, .slice B aP.Terms.length c, .slice B1 aP.Out.length c1], 6⟩, ⟨some ⟨b1, 0, none⟩, 52, [.int .i64 aBy.Mask, .int .i64 aBy.Turn], 2⟩, ⟨B2, 136, (r_2.Terms.flatMap enc_Term), c2 * 2⟩, ⟨B3, 61, (r_2.Out.flatMap enc_Affine), c3 * 2⟩] [⟨B, (aP.Terms.flatMap enc_Term)⟩, ⟨B1, (aP.Out.flatMap enc_Affine)⟩] := hS10
          refine ⟨(ST.sel hS10 [0, 1] rfl rfl), ?_⟩
          refine ra_all (rs := [5, 9]) (by kernel_rfl) rfl ?_
          refine ra_c 29 (i := 5) rfl rfl rfl (Yc_func (g := 21) (vs := [.agg #[.int .i64 r_2.Ins, .int .i64 r_2.Vars, .int .i64 r_2.Root, .int .i64 r_2.Phase, .slice B2 r_2.Terms.length c2, .slice B3 r_2.Out.length c3], .int .i64 aV, .agg #[.int .i64 r_3.Mask, .int .i64 r_3.Turn]]) k_call_21 rfl (mc rfl (mc rfl (mc rfl mn))) (c_spec_SubstituteVar r_2 aV r_3 B2 c2 r_2.Terms.length B3 c3 r_2.Out.length _ rfl rfl (hS10.inn0 [(false, 2), (false, 3)] rfl) hc3)) ?_ ?_
          · rintro _ w_5 ⟨B4, c4, B5, c5, rfl, hd3⟩
            have hS11 := hS10.out0 hd3
            have hS11 : ST w0 [] _ [⟨some ⟨b, 0, none⟩, 50, [.int .i64 aP.Ins, .int .i64 aP.Vars, .int .i64 aP.Root, .int .i64 aP.Phase, .slice B aP.Terms.length c, .slice B1 aP.Out.length c1], 6⟩, ⟨some ⟨b1, 0, none⟩, 52, [.int .i64 aBy.Mask, .int .i64 aBy.Turn], 2⟩, ⟨B2, 136, (r_2.Terms.flatMap enc_Term), c2 * 2⟩, ⟨B3, 61, (r_2.Out.flatMap enc_Affine), c3 * 2⟩, ⟨B4, 136, (r_4.Terms.flatMap enc_Term), c4 * 2⟩, ⟨B5, 61, (r_4.Out.flatMap enc_Affine), c5 * 2⟩] [⟨B, (aP.Terms.flatMap enc_Term)⟩, ⟨B1, (aP.Out.flatMap enc_Affine)⟩] := hS11
            refine ⟨(ST.sel hS11 [0, 1] rfl rfl), ?_⟩
            refine ra_q 6 23 (v := .tuple #[.agg #[.int .i64 r_4.Ins, .int .i64 r_4.Vars, .int .i64 r_4.Root, .int .i64 r_4.Phase, .slice B4 r_4.Terms.length c4, .slice B5 r_4.Out.length c5], .bool r_5]) rfl rfl rfl (by kernel_rfl) (by kernel_rfl) (by kernel_rfl) (ST.sel hS11 [0, 1] rfl rfl) (fun w' hw' => (Y_move (v := .tuple #[.agg #[.int .i64 r_4.Ins, .int .i64 r_4.Vars, .int .i64 r_4.Root, .int .i64 r_4.Phase, .slice B4 r_4.Terms.length c4, .slice B5 r_4.Out.length c5], .bool r_5]) rfl rfl)) ?_
            refine ra_q 7 30 (v := .agg #[.int .i64 r_4.Ins, .int .i64 r_4.Vars, .int .i64 r_4.Root, .int .i64 r_4.Phase, .slice B4 r_4.Terms.length c4, .slice B5 r_4.Out.length c5]) rfl rfl rfl (by kernel_rfl) (by kernel_rfl) (by kernel_rfl) (ST.sel hS11 [0, 1] rfl rfl) (fun w' hw' => (Y_extract (v := .agg #[.int .i64 r_4.Ins, .int .i64 r_4.Vars, .int .i64 r_4.Root, .int .i64 r_4.Phase, .slice B4 r_4.Terms.length c4, .slice B5 r_4.Out.length c5]) rfl rfl rfl)) ?_
            refine ra_q 8 31 (v := .bool r_5) rfl rfl rfl (by kernel_rfl) (by kernel_rfl) (by kernel_rfl) (ST.sel hS11 [0, 1] rfl rfl) (fun w' hw' => (Y_extract (v := .bool r_5) rfl rfl rfl)) ?_
            refine ra_all (rs := [9]) (by kernel_rfl) rfl ?_
            refine ra_s 8 (i := 9) rfl rfl rfl (Ys_alloc (T := 57) (cs := [.int .i64 0, .int .i64 0, .int .i64 0, .int .i64 0, .slice none 0 0, .slice none 0 0]) (m := 6) hS11 k_zero_57 rfl rfl rfl) ?_ ?_
            · rintro _ w_6 ⟨b2, rfl, hS12⟩
              have hS12 : ST w0 [] _ [⟨some ⟨b, 0, none⟩, 50, [.int .i64 aP.Ins, .int .i64 aP.Vars, .int .i64 aP.Root, .int .i64 aP.Phase, .slice B aP.Terms.length c, .slice B1 aP.Out.length c1], 6⟩, ⟨some ⟨b1, 0, none⟩, 52, [.int .i64 aBy.Mask, .int .i64 aBy.Turn], 2⟩, ⟨B2, 136, (r_2.Terms.flatMap enc_Term), c2 * 2⟩, ⟨B3, 61, (r_2.Out.flatMap enc_Affine), c3 * 2⟩, ⟨B4, 136, (r_4.Terms.flatMap enc_Term), c4 * 2⟩, ⟨B5, 61, (r_4.Out.flatMap enc_Affine), c5 * 2⟩, ⟨some ⟨b2, 0, none⟩, 57, [.int .i64 0, .int .i64 0, .int .i64 0, .int .i64 0, .slice none 0 0, .slice none 0 0], 6⟩] [⟨B, (aP.Terms.flatMap enc_Term)⟩, ⟨B1, (aP.Out.flatMap enc_Affine)⟩] := hS12
              refine ⟨(ST.sel hS12 [0, 1] rfl rfl), ?_⟩
              refine ra_all (rs := [10]) (by kernel_rfl) rfl ?_
              refine ra_s0 (i := 10) rfl rfl rfl (Ys_store (i := 6) (s := 6) (B := some ⟨b2, 0, none⟩) (T' := 57) (v := .agg #[.int .i64 r_4.Ins, .int .i64 r_4.Vars, .int .i64 r_4.Root, .int .i64 r_4.Phase, .slice B4 r_4.Terms.length c4, .slice B5 r_4.Out.length c5]) (vs := [.int .i64 r_4.Ins, .int .i64 r_4.Vars, .int .i64 r_4.Root, .int .i64 r_4.Phase, .slice B4 r_4.Terms.length c4, .slice B5 r_4.Out.length c5]) (k := 0) (cs' := [.int .i64 r_4.Ins, .int .i64 r_4.Vars, .int .i64 r_4.Root, .int .i64 r_4.Phase, .slice B4 r_4.Terms.length c4, .slice B5 r_4.Out.length c5]) hS12 k_sz_57_6 rfl rfl rfl rfl rfl rfl rfl (Nat.le_of_ble_eq_true rfl) rfl rfl) ?_ ?_
              · rintro _ w_7 ⟨rfl, hS13⟩
                have hS13 : ST w0 [] _ [⟨some ⟨b, 0, none⟩, 50, [.int .i64 aP.Ins, .int .i64 aP.Vars, .int .i64 aP.Root, .int .i64 aP.Phase, .slice B aP.Terms.length c, .slice B1 aP.Out.length c1], 6⟩, ⟨some ⟨b1, 0, none⟩, 52, [.int .i64 aBy.Mask, .int .i64 aBy.Turn], 2⟩, ⟨B2, 136, (r_2.Terms.flatMap enc_Term), c2 * 2⟩, ⟨B3, 61, (r_2.Out.flatMap enc_Affine), c3 * 2⟩, ⟨B4, 136, (r_4.Terms.flatMap enc_Term), c4 * 2⟩, ⟨B5, 61, (r_4.Out.flatMap enc_Affine), c5 * 2⟩, ⟨some ⟨b2, 0, none⟩, 57, [.int .i64 r_4.Ins, .int .i64 r_4.Vars, .int .i64 r_4.Root, .int .i64 r_4.Phase, .slice B4 r_4.Terms.length c4, .slice B5 r_4.Out.length c5], 6⟩] [⟨B, (aP.Terms.flatMap enc_Term)⟩, ⟨B1, (aP.Out.flatMap enc_Affine)⟩] := hS13
                refine ⟨(ST.sel hS13 [0, 1] rfl rfl), ?_⟩
                refine ra_q 11 9 (v := .bool r_5) rfl rfl rfl (by kernel_rfl) (by kernel_rfl) (by kernel_rfl) (ST.sel hS13 [0, 1] rfl rfl) (fun w' hw' => (Y_assign (v := .bool r_5) rfl rfl)) ?_
                refine ra_done (by kernel_rfl) ?_
                exact ⟨some ⟨b2, 0, none⟩, B4, c4, B5, c5, (FF.cons rfl (FF.cons rfl (FF.cons rfl (FF.cons rfl (FF.cons rfl FF.nil))))), (hS13.sel [0, 1, 6, 4, 5] rfl rfl)⟩
              exact allR_nil
            exact allR_nil
          refine ra_s 8 (i := 9) rfl rfl rfl (Ys_alloc (T := 57) (cs := [.int .i64 0, .int .i64 0, .int .i64 0, .int .i64 0, .slice none 0 0, .slice none 0 0]) (m := 6) hS10 k_zero_57 rfl rfl rfl) ?_ ?_
          · rintro _ w_8 ⟨b2, rfl, hS14⟩
            have hS14 : ST w0 [] _ [⟨some ⟨b, 0, none⟩, 50, [.int .i64 aP.Ins, .int .i64 aP.Vars, .int .i64 aP.Root, .int .i64 aP.Phase, .slice B aP.Terms.length c, .slice B1 aP.Out.length c1], 6⟩, ⟨some ⟨b1, 0, none⟩, 52, [.int .i64 aBy.Mask, .int .i64 aBy.Turn], 2⟩, ⟨B2, 136, (r_2.Terms.flatMap enc_Term), c2 * 2⟩, ⟨B3, 61, (r_2.Out.flatMap enc_Affine), c3 * 2⟩, ⟨some ⟨b2, 0, none⟩, 57, [.int .i64 0, .int .i64 0, .int .i64 0, .int .i64 0, .slice none 0 0, .slice none 0 0], 6⟩] [⟨B, (aP.Terms.flatMap enc_Term)⟩, ⟨B1, (aP.Out.flatMap enc_Affine)⟩] := hS14
            refine ⟨(ST.sel hS14 [0, 1] rfl rfl), ?_⟩
            refine ra_all (rs := [5]) (by kernel_rfl) rfl ?_
            refine ra_c 29 (i := 5) rfl rfl rfl (Yc_func (g := 21) (vs := [.agg #[.int .i64 r_2.Ins, .int .i64 r_2.Vars, .int .i64 r_2.Root, .int .i64 r_2.Phase, .slice B2 r_2.Terms.length c2, .slice B3 r_2.Out.length c3], .int .i64 aV, .agg #[.int .i64 r_3.Mask, .int .i64 r_3.Turn]]) k_call_21 rfl (mc rfl (mc rfl (mc rfl mn))) (c_spec_SubstituteVar r_2 aV r_3 B2 c2 r_2.Terms.length B3 c3 r_2.Out.length _ rfl rfl (hS14.inn0 [(false, 2), (false, 3)] rfl) hc3)) ?_ ?_
            · rintro _ w_9 ⟨B4, c4, B5, c5, rfl, hd4⟩
              have hS15 := hS14.out0 hd4
              have hS15 : ST w0 [] _ [⟨some ⟨b, 0, none⟩, 50, [.int .i64 aP.Ins, .int .i64 aP.Vars, .int .i64 aP.Root, .int .i64 aP.Phase, .slice B aP.Terms.length c, .slice B1 aP.Out.length c1], 6⟩, ⟨some ⟨b1, 0, none⟩, 52, [.int .i64 aBy.Mask, .int .i64 aBy.Turn], 2⟩, ⟨B2, 136, (r_2.Terms.flatMap enc_Term), c2 * 2⟩, ⟨B3, 61, (r_2.Out.flatMap enc_Affine), c3 * 2⟩, ⟨some ⟨b2, 0, none⟩, 57, [.int .i64 0, .int .i64 0, .int .i64 0, .int .i64 0, .slice none 0 0, .slice none 0 0], 6⟩, ⟨B4, 136, (r_4.Terms.flatMap enc_Term), c4 * 2⟩, ⟨B5, 61, (r_4.Out.flatMap enc_Affine), c5 * 2⟩] [⟨B, (aP.Terms.flatMap enc_Term)⟩, ⟨B1, (aP.Out.flatMap enc_Affine)⟩] := hS15
              refine ⟨(ST.sel hS15 [0, 1] rfl rfl), ?_⟩
              refine ra_q 6 23 (v := .tuple #[.agg #[.int .i64 r_4.Ins, .int .i64 r_4.Vars, .int .i64 r_4.Root, .int .i64 r_4.Phase, .slice B4 r_4.Terms.length c4, .slice B5 r_4.Out.length c5], .bool r_5]) rfl rfl rfl (by kernel_rfl) (by kernel_rfl) (by kernel_rfl) (ST.sel hS15 [0, 1] rfl rfl) (fun w' hw' => (Y_move (v := .tuple #[.agg #[.int .i64 r_4.Ins, .int .i64 r_4.Vars, .int .i64 r_4.Root, .int .i64 r_4.Phase, .slice B4 r_4.Terms.length c4, .slice B5 r_4.Out.length c5], .bool r_5]) rfl rfl)) ?_
              refine ra_q 7 30 (v := .agg #[.int .i64 r_4.Ins, .int .i64 r_4.Vars, .int .i64 r_4.Root, .int .i64 r_4.Phase, .slice B4 r_4.Terms.length c4, .slice B5 r_4.Out.length c5]) rfl rfl rfl (by kernel_rfl) (by kernel_rfl) (by kernel_rfl) (ST.sel hS15 [0, 1] rfl rfl) (fun w' hw' => (Y_extract (v := .agg #[.int .i64 r_4.Ins, .int .i64 r_4.Vars, .int .i64 r_4.Root, .int .i64 r_4.Phase, .slice B4 r_4.Terms.length c4, .slice B5 r_4.Out.length c5]) rfl rfl rfl)) ?_
              refine ra_q 8 31 (v := .bool r_5) rfl rfl rfl (by kernel_rfl) (by kernel_rfl) (by kernel_rfl) (ST.sel hS15 [0, 1] rfl rfl) (fun w' hw' => (Y_extract (v := .bool r_5) rfl rfl rfl)) ?_
              refine ra_all (rs := [10]) (by kernel_rfl) rfl ?_
              refine ra_s0 (i := 10) rfl rfl rfl (Ys_store (i := 4) (s := 6) (B := some ⟨b2, 0, none⟩) (T' := 57) (v := .agg #[.int .i64 r_4.Ins, .int .i64 r_4.Vars, .int .i64 r_4.Root, .int .i64 r_4.Phase, .slice B4 r_4.Terms.length c4, .slice B5 r_4.Out.length c5]) (vs := [.int .i64 r_4.Ins, .int .i64 r_4.Vars, .int .i64 r_4.Root, .int .i64 r_4.Phase, .slice B4 r_4.Terms.length c4, .slice B5 r_4.Out.length c5]) (k := 0) (cs' := [.int .i64 r_4.Ins, .int .i64 r_4.Vars, .int .i64 r_4.Root, .int .i64 r_4.Phase, .slice B4 r_4.Terms.length c4, .slice B5 r_4.Out.length c5]) hS15 k_sz_57_6 rfl rfl rfl rfl rfl rfl rfl (Nat.le_of_ble_eq_true rfl) rfl rfl) ?_ ?_
              · rintro _ w_10 ⟨rfl, hS16⟩
                have hS16 : ST w0 [] _ [⟨some ⟨b, 0, none⟩, 50, [.int .i64 aP.Ins, .int .i64 aP.Vars, .int .i64 aP.Root, .int .i64 aP.Phase, .slice B aP.Terms.length c, .slice B1 aP.Out.length c1], 6⟩, ⟨some ⟨b1, 0, none⟩, 52, [.int .i64 aBy.Mask, .int .i64 aBy.Turn], 2⟩, ⟨B2, 136, (r_2.Terms.flatMap enc_Term), c2 * 2⟩, ⟨B3, 61, (r_2.Out.flatMap enc_Affine), c3 * 2⟩, ⟨some ⟨b2, 0, none⟩, 57, [.int .i64 r_4.Ins, .int .i64 r_4.Vars, .int .i64 r_4.Root, .int .i64 r_4.Phase, .slice B4 r_4.Terms.length c4, .slice B5 r_4.Out.length c5], 6⟩, ⟨B4, 136, (r_4.Terms.flatMap enc_Term), c4 * 2⟩, ⟨B5, 61, (r_4.Out.flatMap enc_Affine), c5 * 2⟩] [⟨B, (aP.Terms.flatMap enc_Term)⟩, ⟨B1, (aP.Out.flatMap enc_Affine)⟩] := hS16
                refine ⟨(ST.sel hS16 [0, 1] rfl rfl), ?_⟩
                refine ra_q 11 9 (v := .bool r_5) rfl rfl rfl (by kernel_rfl) (by kernel_rfl) (by kernel_rfl) (ST.sel hS16 [0, 1] rfl rfl) (fun w' hw' => (Y_assign (v := .bool r_5) rfl rfl)) ?_
                refine ra_done (by kernel_rfl) ?_
                exact ⟨some ⟨b2, 0, none⟩, B4, c4, B5, c5, (FF.cons rfl (FF.cons rfl (FF.cons rfl (FF.cons rfl (FF.cons rfl FF.nil))))), (hS16.sel [0, 1, 4, 5, 6] rfl rfl)⟩
              exact allR_nil
            exact allR_nil
          exact allR_nil
        refine ra_s 8 (i := 9) rfl rfl rfl (Ys_alloc (T := 57) (cs := [.int .i64 0, .int .i64 0, .int .i64 0, .int .i64 0, .slice none 0 0, .slice none 0 0]) (m := 6) hS9 k_zero_57 rfl rfl rfl) ?_ ?_
        · rintro _ w_11 ⟨b2, rfl, hS17⟩
          have hS17 : ST w0 [] _ [⟨some ⟨b, 0, none⟩, 50, [.int .i64 aP.Ins, .int .i64 aP.Vars, .int .i64 aP.Root, .int .i64 aP.Phase, .slice B aP.Terms.length c, .slice B1 aP.Out.length c1], 6⟩, ⟨some ⟨b1, 0, none⟩, 52, [.int .i64 aBy.Mask, .int .i64 aBy.Turn], 2⟩, ⟨B2, 136, (r_2.Terms.flatMap enc_Term), c2 * 2⟩, ⟨B3, 61, (r_2.Out.flatMap enc_Affine), c3 * 2⟩, ⟨some ⟨b2, 0, none⟩, 57, [.int .i64 0, .int .i64 0, .int .i64 0, .int .i64 0, .slice none 0 0, .slice none 0 0], 6⟩] [⟨B, (aP.Terms.flatMap enc_Term)⟩, ⟨B1, (aP.Out.flatMap enc_Affine)⟩] := hS17
          refine ⟨(ST.sel hS17 [0, 1] rfl rfl), ?_⟩
          refine ra_all (rs := [4]) (by kernel_rfl) rfl ?_
          refine ra_c 28 (i := 4) rfl rfl rfl (Yc_func (g := 23) (vs := [.agg #[.int .i64 aBy.Mask, .int .i64 aBy.Turn]]) k_call_23 rfl (mc rfl mn) (c_laws_toAffine aBy _  (hS17.inn0 [] rfl) hc2)) ?_ ?_
          · rintro _ w_12 ⟨rfl, hd5⟩
            have hS18 := hS17.out00 hd5
            have hS18 : ST w0 [] _ [⟨some ⟨b, 0, none⟩, 50, [.int .i64 aP.Ins, .int .i64 aP.Vars, .int .i64 aP.Root, .int .i64 aP.Phase, .slice B aP.Terms.length c, .slice B1 aP.Out.length c1], 6⟩, ⟨some ⟨b1, 0, none⟩, 52, [.int .i64 aBy.Mask, .int .i64 aBy.Turn], 2⟩, ⟨B2, 136, (r_2.Terms.flatMap enc_Term), c2 * 2⟩, ⟨B3, 61, (r_2.Out.flatMap enc_Affine), c3 * 2⟩, ⟨some ⟨b2, 0, none⟩, 57, [.int .i64 0, .int .i64 0, .int .i64 0, .int .i64 0, .slice none 0 0, .slice none 0 0], 6⟩] [⟨B, (aP.Terms.flatMap enc_Term)⟩, ⟨B1, (aP.Out.flatMap enc_Affine)⟩] := hS18
            refine ⟨(ST.sel hS18 [0, 1] rfl rfl), ?_⟩
            refine ra_all (rs := [5]) (by kernel_rfl) rfl ?_
            refine ra_c 29 (i := 5) rfl rfl rfl (Yc_func (g := 21) (vs := [.agg #[.int .i64 r_2.Ins, .int .i64 r_2.Vars, .int .i64 r_2.Root, .int .i64 r_2.Phase, .slice B2 r_2.Terms.length c2, .slice B3 r_2.Out.length c3], .int .i64 aV, .agg #[.int .i64 r_3.Mask, .int .i64 r_3.Turn]]) k_call_21 rfl (mc rfl (mc rfl (mc rfl mn))) (c_spec_SubstituteVar r_2 aV r_3 B2 c2 r_2.Terms.length B3 c3 r_2.Out.length _ rfl rfl (hS18.inn0 [(false, 2), (false, 3)] rfl) hc3)) ?_ ?_
            · rintro _ w_13 ⟨B4, c4, B5, c5, rfl, hd6⟩
              have hS19 := hS18.out0 hd6
              have hS19 : ST w0 [] _ [⟨some ⟨b, 0, none⟩, 50, [.int .i64 aP.Ins, .int .i64 aP.Vars, .int .i64 aP.Root, .int .i64 aP.Phase, .slice B aP.Terms.length c, .slice B1 aP.Out.length c1], 6⟩, ⟨some ⟨b1, 0, none⟩, 52, [.int .i64 aBy.Mask, .int .i64 aBy.Turn], 2⟩, ⟨B2, 136, (r_2.Terms.flatMap enc_Term), c2 * 2⟩, ⟨B3, 61, (r_2.Out.flatMap enc_Affine), c3 * 2⟩, ⟨some ⟨b2, 0, none⟩, 57, [.int .i64 0, .int .i64 0, .int .i64 0, .int .i64 0, .slice none 0 0, .slice none 0 0], 6⟩, ⟨B4, 136, (r_4.Terms.flatMap enc_Term), c4 * 2⟩, ⟨B5, 61, (r_4.Out.flatMap enc_Affine), c5 * 2⟩] [⟨B, (aP.Terms.flatMap enc_Term)⟩, ⟨B1, (aP.Out.flatMap enc_Affine)⟩] := hS19
              refine ⟨(ST.sel hS19 [0, 1] rfl rfl), ?_⟩
              refine ra_q 6 23 (v := .tuple #[.agg #[.int .i64 r_4.Ins, .int .i64 r_4.Vars, .int .i64 r_4.Root, .int .i64 r_4.Phase, .slice B4 r_4.Terms.length c4, .slice B5 r_4.Out.length c5], .bool r_5]) rfl rfl rfl (by kernel_rfl) (by kernel_rfl) (by kernel_rfl) (ST.sel hS19 [0, 1] rfl rfl) (fun w' hw' => (Y_move (v := .tuple #[.agg #[.int .i64 r_4.Ins, .int .i64 r_4.Vars, .int .i64 r_4.Root, .int .i64 r_4.Phase, .slice B4 r_4.Terms.length c4, .slice B5 r_4.Out.length c5], .bool r_5]) rfl rfl)) ?_
              refine ra_q 7 30 (v := .agg #[.int .i64 r_4.Ins, .int .i64 r_4.Vars, .int .i64 r_4.Root, .int .i64 r_4.Phase, .slice B4 r_4.Terms.length c4, .slice B5 r_4.Out.length c5]) rfl rfl rfl (by kernel_rfl) (by kernel_rfl) (by kernel_rfl) (ST.sel hS19 [0, 1] rfl rfl) (fun w' hw' => (Y_extract (v := .agg #[.int .i64 r_4.Ins, .int .i64 r_4.Vars, .int .i64 r_4.Root, .int .i64 r_4.Phase, .slice B4 r_4.Terms.length c4, .slice B5 r_4.Out.length c5]) rfl rfl rfl)) ?_
              refine ra_q 8 31 (v := .bool r_5) rfl rfl rfl (by kernel_rfl) (by kernel_rfl) (by kernel_rfl) (ST.sel hS19 [0, 1] rfl rfl) (fun w' hw' => (Y_extract (v := .bool r_5) rfl rfl rfl)) ?_
              refine ra_all (rs := [10]) (by kernel_rfl) rfl ?_
              refine ra_s0 (i := 10) rfl rfl rfl (Ys_store (i := 4) (s := 6) (B := some ⟨b2, 0, none⟩) (T' := 57) (v := .agg #[.int .i64 r_4.Ins, .int .i64 r_4.Vars, .int .i64 r_4.Root, .int .i64 r_4.Phase, .slice B4 r_4.Terms.length c4, .slice B5 r_4.Out.length c5]) (vs := [.int .i64 r_4.Ins, .int .i64 r_4.Vars, .int .i64 r_4.Root, .int .i64 r_4.Phase, .slice B4 r_4.Terms.length c4, .slice B5 r_4.Out.length c5]) (k := 0) (cs' := [.int .i64 r_4.Ins, .int .i64 r_4.Vars, .int .i64 r_4.Root, .int .i64 r_4.Phase, .slice B4 r_4.Terms.length c4, .slice B5 r_4.Out.length c5]) hS19 k_sz_57_6 rfl rfl rfl rfl rfl rfl rfl (Nat.le_of_ble_eq_true rfl) rfl rfl) ?_ ?_
              · rintro _ w_14 ⟨rfl, hS20⟩
                have hS20 : ST w0 [] _ [⟨some ⟨b, 0, none⟩, 50, [.int .i64 aP.Ins, .int .i64 aP.Vars, .int .i64 aP.Root, .int .i64 aP.Phase, .slice B aP.Terms.length c, .slice B1 aP.Out.length c1], 6⟩, ⟨some ⟨b1, 0, none⟩, 52, [.int .i64 aBy.Mask, .int .i64 aBy.Turn], 2⟩, ⟨B2, 136, (r_2.Terms.flatMap enc_Term), c2 * 2⟩, ⟨B3, 61, (r_2.Out.flatMap enc_Affine), c3 * 2⟩, ⟨some ⟨b2, 0, none⟩, 57, [.int .i64 r_4.Ins, .int .i64 r_4.Vars, .int .i64 r_4.Root, .int .i64 r_4.Phase, .slice B4 r_4.Terms.length c4, .slice B5 r_4.Out.length c5], 6⟩, ⟨B4, 136, (r_4.Terms.flatMap enc_Term), c4 * 2⟩, ⟨B5, 61, (r_4.Out.flatMap enc_Affine), c5 * 2⟩] [⟨B, (aP.Terms.flatMap enc_Term)⟩, ⟨B1, (aP.Out.flatMap enc_Affine)⟩] := hS20
                refine ⟨(ST.sel hS20 [0, 1] rfl rfl), ?_⟩
                refine ra_q 11 9 (v := .bool r_5) rfl rfl rfl (by kernel_rfl) (by kernel_rfl) (by kernel_rfl) (ST.sel hS20 [0, 1] rfl rfl) (fun w' hw' => (Y_assign (v := .bool r_5) rfl rfl)) ?_
                refine ra_done (by kernel_rfl) ?_
                exact ⟨some ⟨b2, 0, none⟩, B4, c4, B5, c5, (FF.cons rfl (FF.cons rfl (FF.cons rfl (FF.cons rfl (FF.cons rfl FF.nil))))), (hS20.sel [0, 1, 4, 5, 6] rfl rfl)⟩
              exact allR_nil
            exact allR_nil
          exact allR_nil
        exact allR_nil
      refine ra_s 8 (i := 9) rfl rfl rfl (Ys_alloc (T := 57) (cs := [.int .i64 0, .int .i64 0, .int .i64 0, .int .i64 0, .slice none 0 0, .slice none 0 0]) (m := 6) hS8 k_zero_57 rfl rfl rfl) ?_ ?_
      · rintro _ w_15 ⟨b2, rfl, hS21⟩
        have hS21 : ST w0 [] _ [⟨some ⟨b, 0, none⟩, 50, [.int .i64 aP.Ins, .int .i64 aP.Vars, .int .i64 aP.Root, .int .i64 aP.Phase, .slice B aP.Terms.length c, .slice B1 aP.Out.length c1], 6⟩, ⟨some ⟨b1, 0, none⟩, 52, [.int .i64 aBy.Mask, .int .i64 aBy.Turn], 2⟩, ⟨some ⟨b2, 0, none⟩, 57, [.int .i64 0, .int .i64 0, .int .i64 0, .int .i64 0, .slice none 0 0, .slice none 0 0], 6⟩] [⟨B, (aP.Terms.flatMap enc_Term)⟩, ⟨B1, (aP.Out.flatMap enc_Affine)⟩] := hS21
        refine ⟨(ST.sel hS21 [0, 1] rfl rfl), ?_⟩
        refine ra_all (rs := [1]) (by kernel_rfl) rfl ?_
        refine ra_c 25 (i := 1) rfl rfl rfl (Yc_func (g := 22) (vs := [.agg #[.int .i64 aP.Ins, .int .i64 aP.Vars, .int .i64 aP.Root, .int .i64 aP.Phase, .slice B aP.Terms.length c, .slice B1 aP.Out.length c1]]) k_call_22 rfl (mc rfl mn) (c_laws_toPathSum aP B c aP.Terms.length B1 c1 aP.Out.length _ rfl rfl (hS21.inn0 [(true, 0), (true, 1)] rfl) hc1)) ?_ ?_
        · rintro _ w_16 ⟨B2, c2, B3, c3, rfl, hd7⟩
          have hS22 := hS21.out0 hd7
          have hS22 : ST w0 [] _ [⟨some ⟨b, 0, none⟩, 50, [.int .i64 aP.Ins, .int .i64 aP.Vars, .int .i64 aP.Root, .int .i64 aP.Phase, .slice B aP.Terms.length c, .slice B1 aP.Out.length c1], 6⟩, ⟨some ⟨b1, 0, none⟩, 52, [.int .i64 aBy.Mask, .int .i64 aBy.Turn], 2⟩, ⟨some ⟨b2, 0, none⟩, 57, [.int .i64 0, .int .i64 0, .int .i64 0, .int .i64 0, .slice none 0 0, .slice none 0 0], 6⟩, ⟨B2, 136, (r_2.Terms.flatMap enc_Term), c2 * 2⟩, ⟨B3, 61, (r_2.Out.flatMap enc_Affine), c3 * 2⟩] [⟨B, (aP.Terms.flatMap enc_Term)⟩, ⟨B1, (aP.Out.flatMap enc_Affine)⟩] := hS22
          refine ⟨(ST.sel hS22 [0, 1] rfl rfl), ?_⟩
          refine ra_all (rs := [4]) (by kernel_rfl) rfl ?_
          refine ra_c 28 (i := 4) rfl rfl rfl (Yc_func (g := 23) (vs := [.agg #[.int .i64 aBy.Mask, .int .i64 aBy.Turn]]) k_call_23 rfl (mc rfl mn) (c_laws_toAffine aBy _  (hS22.inn0 [] rfl) hc2)) ?_ ?_
          · rintro _ w_17 ⟨rfl, hd8⟩
            have hS23 := hS22.out00 hd8
            have hS23 : ST w0 [] _ [⟨some ⟨b, 0, none⟩, 50, [.int .i64 aP.Ins, .int .i64 aP.Vars, .int .i64 aP.Root, .int .i64 aP.Phase, .slice B aP.Terms.length c, .slice B1 aP.Out.length c1], 6⟩, ⟨some ⟨b1, 0, none⟩, 52, [.int .i64 aBy.Mask, .int .i64 aBy.Turn], 2⟩, ⟨some ⟨b2, 0, none⟩, 57, [.int .i64 0, .int .i64 0, .int .i64 0, .int .i64 0, .slice none 0 0, .slice none 0 0], 6⟩, ⟨B2, 136, (r_2.Terms.flatMap enc_Term), c2 * 2⟩, ⟨B3, 61, (r_2.Out.flatMap enc_Affine), c3 * 2⟩] [⟨B, (aP.Terms.flatMap enc_Term)⟩, ⟨B1, (aP.Out.flatMap enc_Affine)⟩] := hS23
            refine ⟨(ST.sel hS23 [0, 1] rfl rfl), ?_⟩
            refine ra_all (rs := [5]) (by kernel_rfl) rfl ?_
            refine ra_c 29 (i := 5) rfl rfl rfl (Yc_func (g := 21) (vs := [.agg #[.int .i64 r_2.Ins, .int .i64 r_2.Vars, .int .i64 r_2.Root, .int .i64 r_2.Phase, .slice B2 r_2.Terms.length c2, .slice B3 r_2.Out.length c3], .int .i64 aV, .agg #[.int .i64 r_3.Mask, .int .i64 r_3.Turn]]) k_call_21 rfl (mc rfl (mc rfl (mc rfl mn))) (c_spec_SubstituteVar r_2 aV r_3 B2 c2 r_2.Terms.length B3 c3 r_2.Out.length _ rfl rfl (hS23.inn0 [(false, 3), (false, 4)] rfl) hc3)) ?_ ?_
            · rintro _ w_18 ⟨B4, c4, B5, c5, rfl, hd9⟩
              have hS24 := hS23.out0 hd9
              have hS24 : ST w0 [] _ [⟨some ⟨b, 0, none⟩, 50, [.int .i64 aP.Ins, .int .i64 aP.Vars, .int .i64 aP.Root, .int .i64 aP.Phase, .slice B aP.Terms.length c, .slice B1 aP.Out.length c1], 6⟩, ⟨some ⟨b1, 0, none⟩, 52, [.int .i64 aBy.Mask, .int .i64 aBy.Turn], 2⟩, ⟨some ⟨b2, 0, none⟩, 57, [.int .i64 0, .int .i64 0, .int .i64 0, .int .i64 0, .slice none 0 0, .slice none 0 0], 6⟩, ⟨B2, 136, (r_2.Terms.flatMap enc_Term), c2 * 2⟩, ⟨B3, 61, (r_2.Out.flatMap enc_Affine), c3 * 2⟩, ⟨B4, 136, (r_4.Terms.flatMap enc_Term), c4 * 2⟩, ⟨B5, 61, (r_4.Out.flatMap enc_Affine), c5 * 2⟩] [⟨B, (aP.Terms.flatMap enc_Term)⟩, ⟨B1, (aP.Out.flatMap enc_Affine)⟩] := hS24
              refine ⟨(ST.sel hS24 [0, 1] rfl rfl), ?_⟩
              refine ra_q 6 23 (v := .tuple #[.agg #[.int .i64 r_4.Ins, .int .i64 r_4.Vars, .int .i64 r_4.Root, .int .i64 r_4.Phase, .slice B4 r_4.Terms.length c4, .slice B5 r_4.Out.length c5], .bool r_5]) rfl rfl rfl (by kernel_rfl) (by kernel_rfl) (by kernel_rfl) (ST.sel hS24 [0, 1] rfl rfl) (fun w' hw' => (Y_move (v := .tuple #[.agg #[.int .i64 r_4.Ins, .int .i64 r_4.Vars, .int .i64 r_4.Root, .int .i64 r_4.Phase, .slice B4 r_4.Terms.length c4, .slice B5 r_4.Out.length c5], .bool r_5]) rfl rfl)) ?_
              refine ra_q 7 30 (v := .agg #[.int .i64 r_4.Ins, .int .i64 r_4.Vars, .int .i64 r_4.Root, .int .i64 r_4.Phase, .slice B4 r_4.Terms.length c4, .slice B5 r_4.Out.length c5]) rfl rfl rfl (by kernel_rfl) (by kernel_rfl) (by kernel_rfl) (ST.sel hS24 [0, 1] rfl rfl) (fun w' hw' => (Y_extract (v := .agg #[.int .i64 r_4.Ins, .int .i64 r_4.Vars, .int .i64 r_4.Root, .int .i64 r_4.Phase, .slice B4 r_4.Terms.length c4, .slice B5 r_4.Out.length c5]) rfl rfl rfl)) ?_
              refine ra_q 8 31 (v := .bool r_5) rfl rfl rfl (by kernel_rfl) (by kernel_rfl) (by kernel_rfl) (ST.sel hS24 [0, 1] rfl rfl) (fun w' hw' => (Y_extract (v := .bool r_5) rfl rfl rfl)) ?_
              refine ra_all (rs := [10]) (by kernel_rfl) rfl ?_
              refine ra_s0 (i := 10) rfl rfl rfl (Ys_store (i := 2) (s := 6) (B := some ⟨b2, 0, none⟩) (T' := 57) (v := .agg #[.int .i64 r_4.Ins, .int .i64 r_4.Vars, .int .i64 r_4.Root, .int .i64 r_4.Phase, .slice B4 r_4.Terms.length c4, .slice B5 r_4.Out.length c5]) (vs := [.int .i64 r_4.Ins, .int .i64 r_4.Vars, .int .i64 r_4.Root, .int .i64 r_4.Phase, .slice B4 r_4.Terms.length c4, .slice B5 r_4.Out.length c5]) (k := 0) (cs' := [.int .i64 r_4.Ins, .int .i64 r_4.Vars, .int .i64 r_4.Root, .int .i64 r_4.Phase, .slice B4 r_4.Terms.length c4, .slice B5 r_4.Out.length c5]) hS24 k_sz_57_6 rfl rfl rfl rfl rfl rfl rfl (Nat.le_of_ble_eq_true rfl) rfl rfl) ?_ ?_
              · rintro _ w_19 ⟨rfl, hS25⟩
                have hS25 : ST w0 [] _ [⟨some ⟨b, 0, none⟩, 50, [.int .i64 aP.Ins, .int .i64 aP.Vars, .int .i64 aP.Root, .int .i64 aP.Phase, .slice B aP.Terms.length c, .slice B1 aP.Out.length c1], 6⟩, ⟨some ⟨b1, 0, none⟩, 52, [.int .i64 aBy.Mask, .int .i64 aBy.Turn], 2⟩, ⟨some ⟨b2, 0, none⟩, 57, [.int .i64 r_4.Ins, .int .i64 r_4.Vars, .int .i64 r_4.Root, .int .i64 r_4.Phase, .slice B4 r_4.Terms.length c4, .slice B5 r_4.Out.length c5], 6⟩, ⟨B2, 136, (r_2.Terms.flatMap enc_Term), c2 * 2⟩, ⟨B3, 61, (r_2.Out.flatMap enc_Affine), c3 * 2⟩, ⟨B4, 136, (r_4.Terms.flatMap enc_Term), c4 * 2⟩, ⟨B5, 61, (r_4.Out.flatMap enc_Affine), c5 * 2⟩] [⟨B, (aP.Terms.flatMap enc_Term)⟩, ⟨B1, (aP.Out.flatMap enc_Affine)⟩] := hS25
                refine ⟨(ST.sel hS25 [0, 1] rfl rfl), ?_⟩
                refine ra_q 11 9 (v := .bool r_5) rfl rfl rfl (by kernel_rfl) (by kernel_rfl) (by kernel_rfl) (ST.sel hS25 [0, 1] rfl rfl) (fun w' hw' => (Y_assign (v := .bool r_5) rfl rfl)) ?_
                refine ra_done (by kernel_rfl) ?_
                exact ⟨some ⟨b2, 0, none⟩, B4, c4, B5, c5, (FF.cons rfl (FF.cons rfl (FF.cons rfl (FF.cons rfl (FF.cons rfl FF.nil))))), (hS25.sel [0, 1, 2, 5, 6] rfl rfl)⟩
              exact allR_nil
            exact allR_nil
          exact allR_nil
        exact allR_nil
      exact allR_nil
    rintro f w ⟨B6, B7, c6, B8, c7, hf, hS7⟩
    refine cw_seq ?_
    refine cw_region ?_
    refine sq 32 rfl rfl (Y_loadA (B := some ⟨b, 0, none⟩) (i := 0) (cs := [.int .i64 aP.Ins, .int .i64 aP.Vars, .int .i64 aP.Root, .int .i64 aP.Phase, .slice B aP.Terms.length c, .slice B1 aP.Out.length c1]) (vs := [.int .i64 aP.Ins, .int .i64 aP.Vars, .int .i64 aP.Root, .int .i64 aP.Phase, .slice B aP.Terms.length c, .slice B1 aP.Out.length c1]) k_ag_50 k_sz_50_6 rfl (hf.get 3 1 rfl) (hS7.cf (i := 0) rfl) rfl rfl) ?_
    obtain ⟨r_6, hc4, hF2⟩ := bind_inv hF2
    refine sc 33 rfl rfl (Yc_func (g := 22) (vs := [.agg #[.int .i64 aP.Ins, .int .i64 aP.Vars, .int .i64 aP.Root, .int .i64 aP.Phase, .slice B aP.Terms.length c, .slice B1 aP.Out.length c1]]) k_call_22 rfl (mc rfl mn) (c_laws_toPathSum aP B c aP.Terms.length B1 c1 aP.Out.length _ rfl rfl (hS7.inn0 [(true, 0), (true, 1)] rfl) hc4)) ?_
    rintro _ w_20 ⟨B9, c8, B10, c9, rfl, hd10⟩
    have hS26 := hS7.out0 hd10
    have hS26 : ST w0 [] _ [⟨some ⟨b, 0, none⟩, 50, [.int .i64 aP.Ins, .int .i64 aP.Vars, .int .i64 aP.Root, .int .i64 aP.Phase, .slice B aP.Terms.length c, .slice B1 aP.Out.length c1], 6⟩, ⟨some ⟨b1, 0, none⟩, 52, [.int .i64 aBy.Mask, .int .i64 aBy.Turn], 2⟩, ⟨B6, 57, [.int .i64 r_4.Ins, .int .i64 r_4.Vars, .int .i64 r_4.Root, .int .i64 r_4.Phase, .slice B7 r_4.Terms.length c6, .slice B8 r_4.Out.length c7], 6⟩, ⟨B7, 136, (r_4.Terms.flatMap enc_Term), c6 * 2⟩, ⟨B8, 61, (r_4.Out.flatMap enc_Affine), c7 * 2⟩, ⟨B9, 136, (r_6.Terms.flatMap enc_Term), c8 * 2⟩, ⟨B10, 61, (r_6.Out.flatMap enc_Affine), c9 * 2⟩] [⟨B, (aP.Terms.flatMap enc_Term)⟩, ⟨B1, (aP.Out.flatMap enc_Affine)⟩] := hS26
    refine ss 10 rfl rfl (Ys_alloc (T := 57) (cs := [.int .i64 0, .int .i64 0, .int .i64 0, .int .i64 0, .slice none 0 0, .slice none 0 0]) (m := 6) hS26 k_zero_57 rfl rfl rfl) ?_
    rintro _ w_21 ⟨b3, rfl, hS27⟩
    have hS27 : ST w0 [] _ [⟨some ⟨b, 0, none⟩, 50, [.int .i64 aP.Ins, .int .i64 aP.Vars, .int .i64 aP.Root, .int .i64 aP.Phase, .slice B aP.Terms.length c, .slice B1 aP.Out.length c1], 6⟩, ⟨some ⟨b1, 0, none⟩, 52, [.int .i64 aBy.Mask, .int .i64 aBy.Turn], 2⟩, ⟨B6, 57, [.int .i64 r_4.Ins, .int .i64 r_4.Vars, .int .i64 r_4.Root, .int .i64 r_4.Phase, .slice B7 r_4.Terms.length c6, .slice B8 r_4.Out.length c7], 6⟩, ⟨B7, 136, (r_4.Terms.flatMap enc_Term), c6 * 2⟩, ⟨B8, 61, (r_4.Out.flatMap enc_Affine), c7 * 2⟩, ⟨B9, 136, (r_6.Terms.flatMap enc_Term), c8 * 2⟩, ⟨B10, 61, (r_6.Out.flatMap enc_Affine), c9 * 2⟩, ⟨some ⟨b3, 0, none⟩, 57, [.int .i64 0, .int .i64 0, .int .i64 0, .int .i64 0, .slice none 0 0, .slice none 0 0], 6⟩] [⟨B, (aP.Terms.flatMap enc_Term)⟩, ⟨B1, (aP.Out.flatMap enc_Affine)⟩] := hS27
    refine ss0 rfl rfl (Ys_store (i := 7) (s := 6) (B := some ⟨b3, 0, none⟩) (T' := 57) (v := .agg #[.int .i64 r_6.Ins, .int .i64 r_6.Vars, .int .i64 r_6.Root, .int .i64 r_6.Phase, .slice B9 r_6.Terms.length c8, .slice B10 r_6.Out.length c9]) (vs := [.int .i64 r_6.Ins, .int .i64 r_6.Vars, .int .i64 r_6.Root, .int .i64 r_6.Phase, .slice B9 r_6.Terms.length c8, .slice B10 r_6.Out.length c9]) (k := 0) (cs' := [.int .i64 r_6.Ins, .int .i64 r_6.Vars, .int .i64 r_6.Root, .int .i64 r_6.Phase, .slice B9 r_6.Terms.length c8, .slice B10 r_6.Out.length c9]) hS27 k_sz_57_6 rfl rfl rfl rfl rfl rfl rfl (Nat.le_of_ble_eq_true rfl) rfl rfl) ?_
    rintro _ w_22 ⟨rfl, hS28⟩
    have hS28 : ST w0 [] _ [⟨some ⟨b, 0, none⟩, 50, [.int .i64 aP.Ins, .int .i64 aP.Vars, .int .i64 aP.Root, .int .i64 aP.Phase, .slice B aP.Terms.length c, .slice B1 aP.Out.length c1], 6⟩, ⟨some ⟨b1, 0, none⟩, 52, [.int .i64 aBy.Mask, .int .i64 aBy.Turn], 2⟩, ⟨B6, 57, [.int .i64 r_4.Ins, .int .i64 r_4.Vars, .int .i64 r_4.Root, .int .i64 r_4.Phase, .slice B7 r_4.Terms.length c6, .slice B8 r_4.Out.length c7], 6⟩, ⟨B7, 136, (r_4.Terms.flatMap enc_Term), c6 * 2⟩, ⟨B8, 61, (r_4.Out.flatMap enc_Affine), c7 * 2⟩, ⟨B9, 136, (r_6.Terms.flatMap enc_Term), c8 * 2⟩, ⟨B10, 61, (r_6.Out.flatMap enc_Affine), c9 * 2⟩, ⟨some ⟨b3, 0, none⟩, 57, [.int .i64 r_6.Ins, .int .i64 r_6.Vars, .int .i64 r_6.Root, .int .i64 r_6.Phase, .slice B9 r_6.Terms.length c8, .slice B10 r_6.Out.length c9], 6⟩] [⟨B, (aP.Terms.flatMap enc_Term)⟩, ⟨B1, (aP.Out.flatMap enc_Affine)⟩] := hS28
    refine rw_nil ?_
    refine cw_seq ?_
    obtain ⟨r_7, hc5, hF2⟩ := bind_inv hF2
    obtain ⟨⟨r_8, r_9⟩, hc6, hF2⟩ := bind_inv hF2
    refine cw_mid (fun f w => ∃ (B13 : Option Addr) (B14 : Option Addr) (c12 : Nat) (B15 : Option Addr) (c13 : Nat), FF f [(1, .int .i64 aV), (3, pt (some ⟨b, 0, none⟩) 0), (5, pt (some ⟨b1, 0, none⟩) 0), (8, pt B6 0), (9, .bool r_5), (10, pt (some ⟨b3, 0, none⟩) 0), (11, pt B13 0), (12, .bool r_9)] ∧ ST w0 [] w [⟨some ⟨b, 0, none⟩, 50, [.int .i64 aP.Ins, .int .i64 aP.Vars, .int .i64 aP.Root, .int .i64 aP.Phase, .slice B aP.Terms.length c, .slice B1 aP.Out.length c1], 6⟩, ⟨some ⟨b1, 0, none⟩, 52, [.int .i64 aBy.Mask, .int .i64 aBy.Turn], 2⟩, ⟨B6, 57, [.int .i64 r_4.Ins, .int .i64 r_4.Vars, .int .i64 r_4.Root, .int .i64 r_4.Phase, .slice B7 r_4.Terms.length c6, .slice B8 r_4.Out.length c7], 6⟩, ⟨B7, 136, (r_4.Terms.flatMap enc_Term), c6 * 2⟩, ⟨B8, 61, (r_4.Out.flatMap enc_Affine), c7 * 2⟩, ⟨some ⟨b3, 0, none⟩, 57, [.int .i64 r_6.Ins, .int .i64 r_6.Vars, .int .i64 r_6.Root, .int .i64 r_6.Phase, .slice B9 r_6.Terms.length c8, .slice B10 r_6.Out.length c9], 6⟩, ⟨B9, 136, (r_6.Terms.flatMap enc_Term), c8 * 2⟩, ⟨B10, 61, (r_6.Out.flatMap enc_Affine), c9 * 2⟩, ⟨B13, 57, [.int .i64 r_8.Ins, .int .i64 r_8.Vars, .int .i64 r_8.Root, .int .i64 r_8.Phase, .slice B14 r_8.Terms.length c12, .slice B15 r_8.Out.length c13], 6⟩, ⟨B14, 136, (r_8.Terms.flatMap enc_Term), c12 * 2⟩, ⟨B15, 61, (r_8.Out.flatMap enc_Affine), c13 * 2⟩] [⟨B, (aP.Terms.flatMap enc_Term)⟩, ⟨B1, (aP.Out.flatMap enc_Affine)⟩]) ?_ ?_
    · skip
      refine ra_start (ST.sel hS28 [0, 1, 2, 3, 4, 5, 6, 7] rfl rfl).fn (by kernel_rfl) ?_
      have hS32 := hS28.drew
      refine ra_q 0 35 (v := .agg #[.int .i64 r_6.Ins, .int .i64 r_6.Vars, .int .i64 r_6.Root, .int .i64 r_6.Phase, .slice B9 r_6.Terms.length c8, .slice B10 r_6.Out.length c9]) rfl rfl rfl (by kernel_rfl) (by kernel_rfl) (by kernel_rfl) (ST.sel hS32 [0, 1, 2, 3, 4, 5, 6, 7] rfl rfl) (fun w' hw' => (Y_loadA (B := some ⟨b3, 0, none⟩) (i := 0) (cs := [.int .i64 r_6.Ins, .int .i64 r_6.Vars, .int .i64 r_6.Root, .int .i64 r_6.Phase, .slice B9 r_6.Terms.length c8, .slice B10 r_6.Out.length c9]) (vs := [.int .i64 r_6.Ins, .int .i64 r_6.Vars, .int .i64 r_6.Root, .int .i64 r_6.Phase, .slice B9 r_6.Terms.length c8, .slice B10 r_6.Out.length c9]) k_ag_57 k_sz_57_6 rfl rfl (ST.cf hw' (i := 7) rfl) rfl rfl)) ?_
      refine ra_q 1 36 (v := .int .i64 aV) rfl rfl rfl (by kernel_rfl) (by kernel_rfl) (by kernel_rfl) (ST.sel hS32 [0, 1, 2, 3, 4, 5, 6, 7] rfl rfl) (fun w' hw' => (Y_move (v := .int .i64 aV) rfl (hf.get 1 0 rfl))) ?_
      refine ra_q 2 37 (v := .agg #[.int .i64 aBy.Mask, .int .i64 aBy.Turn]) rfl rfl rfl (by kernel_rfl) (by kernel_rfl) (by kernel_rfl) (ST.sel hS32 [0, 1, 2, 3, 4, 5, 6, 7] rfl rfl) (fun w' hw' => (Y_loadA (B := some ⟨b1, 0, none⟩) (i := 0) (cs := [.int .i64 aBy.Mask, .int .i64 aBy.Turn]) (vs := [.int .i64 aBy.Mask, .int .i64 aBy.Turn]) k_ag_52 k_sz_52_2 rfl (hf.get 5 2 rfl) (ST.cf hw' (i := 1) rfl) rfl rfl)) ?_
      refine ra_all (rs := [3, 8]) (by kernel_rfl) rfl ?_
      refine ra_c 38 (i := 3) rfl rfl rfl (Yc_func (g := 23) (vs := [.agg #[.int .i64 aBy.Mask, .int .i64 aBy.Turn]]) k_call_23 rfl (mc rfl mn) (c_laws_toAffine aBy _  (hS32.inn0 [] rfl) hc5)) ?_ ?_
      · rintro _ w_23 ⟨rfl, hd11⟩
        have hS33 := hS32.out00 hd11
        have hS33 : ST w0 [] _ [⟨some ⟨b, 0, none⟩, 50, [.int .i64 aP.Ins, .int .i64 aP.Vars, .int .i64 aP.Root, .int .i64 aP.Phase, .slice B aP.Terms.length c, .slice B1 aP.Out.length c1], 6⟩, ⟨some ⟨b1, 0, none⟩, 52, [.int .i64 aBy.Mask, .int .i64 aBy.Turn], 2⟩, ⟨B6, 57, [.int .i64 r_4.Ins, .int .i64 r_4.Vars, .int .i64 r_4.Root, .int .i64 r_4.Phase, .slice B7 r_4.Terms.length c6, .slice B8 r_4.Out.length c7], 6⟩, ⟨B7, 136, (r_4.Terms.flatMap enc_Term), c6 * 2⟩, ⟨B8, 61, (r_4.Out.flatMap enc_Affine), c7 * 2⟩, ⟨B9, 136, (r_6.Terms.flatMap enc_Term), c8 * 2⟩, ⟨B10, 61, (r_6.Out.flatMap enc_Affine), c9 * 2⟩, ⟨some ⟨b3, 0, none⟩, 57, [.int .i64 r_6.Ins, .int .i64 r_6.Vars, .int .i64 r_6.Root, .int .i64 r_6.Phase, .slice B9 r_6.Terms.length c8, .slice B10 r_6.Out.length c9], 6⟩] [⟨B, (aP.Terms.flatMap enc_Term)⟩, ⟨B1, (aP.Out.flatMap enc_Affine)⟩] := hS33
        refine ⟨(ST.sel hS33 [0, 1, 2, 3, 4, 5, 6, 7] rfl rfl), ?_⟩
        refine ra_all (rs := [4, 8]) (by kernel_rfl) rfl ?_
        refine ra_c 39 (i := 4) rfl rfl rfl (Yc_func (g := 24) (vs := [.agg #[.int .i64 r_6.Ins, .int .i64 r_6.Vars, .int .i64 r_6.Root, .int .i64 r_6.Phase, .slice B9 r_6.Terms.length c8, .slice B10 r_6.Out.length c9], .int .i64 aV, .agg #[.int .i64 r_7.Mask, .int .i64 r_7.Turn]]) k_call_24 rfl (mc rfl (mc rfl (mc rfl mn))) (c_impl_SubstituteVar r_6 aV r_7 B9 c8 r_6.Terms.length B10 c9 r_6.Out.length _ rfl rfl (hS33.inn0 [(false, 5), (false, 6)] rfl) hc6)) ?_ ?_
        · rintro _ w_24 ⟨B11, c10, B12, c11, rfl, hd12⟩
          have hS34 := hS33.out0 hd12
          have hS34 : ST w0 [] _ [⟨some ⟨b, 0, none⟩, 50, [.int .i64 aP.Ins, .int .i64 aP.Vars, .int .i64 aP.Root, .int .i64 aP.Phase, .slice B aP.Terms.length c, .slice B1 aP.Out.length c1], 6⟩, ⟨some ⟨b1, 0, none⟩, 52, [.int .i64 aBy.Mask, .int .i64 aBy.Turn], 2⟩, ⟨B6, 57, [.int .i64 r_4.Ins, .int .i64 r_4.Vars, .int .i64 r_4.Root, .int .i64 r_4.Phase, .slice B7 r_4.Terms.length c6, .slice B8 r_4.Out.length c7], 6⟩, ⟨B7, 136, (r_4.Terms.flatMap enc_Term), c6 * 2⟩, ⟨B8, 61, (r_4.Out.flatMap enc_Affine), c7 * 2⟩, ⟨B9, 136, (r_6.Terms.flatMap enc_Term), c8 * 2⟩, ⟨B10, 61, (r_6.Out.flatMap enc_Affine), c9 * 2⟩, ⟨some ⟨b3, 0, none⟩, 57, [.int .i64 r_6.Ins, .int .i64 r_6.Vars, .int .i64 r_6.Root, .int .i64 r_6.Phase, .slice B9 r_6.Terms.length c8, .slice B10 r_6.Out.length c9], 6⟩, ⟨B11, 136, (r_8.Terms.flatMap enc_Term), c10 * 2⟩, ⟨B12, 61, (r_8.Out.flatMap enc_Affine), c11 * 2⟩] [⟨B, (aP.Terms.flatMap enc_Term)⟩, ⟨B1, (aP.Out.flatMap enc_Affine)⟩] := hS34
          refine ⟨(ST.sel hS34 [0, 1, 2, 3, 4, 5, 6, 7] rfl rfl), ?_⟩
          refine ra_q 5 34 (v := .tuple #[.agg #[.int .i64 r_8.Ins, .int .i64 r_8.Vars, .int .i64 r_8.Root, .int .i64 r_8.Phase, .slice B11 r_8.Terms.length c10, .slice B12 r_8.Out.length c11], .bool r_9]) rfl rfl rfl (by kernel_rfl) (by kernel_rfl) (by kernel_rfl) (ST.sel hS34 [0, 1, 2, 3, 4, 5, 6, 7] rfl rfl) (fun w' hw' => (Y_move (v := .tuple #[.agg #[.int .i64 r_8.Ins, .int .i64 r_8.Vars, .int .i64 r_8.Root, .int .i64 r_8.Phase, .slice B11 r_8.Terms.length c10, .slice B12 r_8.Out.length c11], .bool r_9]) rfl rfl)) ?_
          refine ra_q 6 40 (v := .agg #[.int .i64 r_8.Ins, .int .i64 r_8.Vars, .int .i64 r_8.Root, .int .i64 r_8.Phase, .slice B11 r_8.Terms.length c10, .slice B12 r_8.Out.length c11]) rfl rfl rfl (by kernel_rfl) (by kernel_rfl) (by kernel_rfl) (ST.sel hS34 [0, 1, 2, 3, 4, 5, 6, 7] rfl rfl) (fun w' hw' => (Y_extract (v := .agg #[.int .i64 r_8.Ins, .int .i64 r_8.Vars, .int .i64 r_8.Root, .int .i64 r_8.Phase, .slice B11 r_8.Terms.length c10, .slice B12 r_8.Out.length c11]) rfl rfl rfl)) ?_
          refine ra_q 7 41 (v := .bool r_9) rfl rfl rfl (by kernel_rfl) (by kernel_rfl) (by kernel_rfl) (ST.sel hS34 [0, 1, 2, 3, 4, 5, 6, 7] rfl rfl) (fun w' hw' => (Y_extract (v := .bool r_9) rfl rfl rfl)) ?_
          refine ra_all (rs := [8]) (by kernel_rfl) rfl ?_
          refine ra_s 11 (i := 8) rfl rfl rfl (Ys_alloc (T := 57) (cs := [.int .i64 0, .int .i64 0, .int .i64 0, .int .i64 0, .slice none 0 0, .slice none 0 0]) (m := 6) hS34 k_zero_57 rfl rfl rfl) ?_ ?_
          · rintro _ w_25 ⟨b4, rfl, hS35⟩
            have hS35 : ST w0 [] _ [⟨some ⟨b, 0, none⟩, 50, [.int .i64 aP.Ins, .int .i64 aP.Vars, .int .i64 aP.Root, .int .i64 aP.Phase, .slice B aP.Terms.length c, .slice B1 aP.Out.length c1], 6⟩, ⟨some ⟨b1, 0, none⟩, 52, [.int .i64 aBy.Mask, .int .i64 aBy.Turn], 2⟩, ⟨B6, 57, [.int .i64 r_4.Ins, .int .i64 r_4.Vars, .int .i64 r_4.Root, .int .i64 r_4.Phase, .slice B7 r_4.Terms.length c6, .slice B8 r_4.Out.length c7], 6⟩, ⟨B7, 136, (r_4.Terms.flatMap enc_Term), c6 * 2⟩, ⟨B8, 61, (r_4.Out.flatMap enc_Affine), c7 * 2⟩, ⟨B9, 136, (r_6.Terms.flatMap enc_Term), c8 * 2⟩, ⟨B10, 61, (r_6.Out.flatMap enc_Affine), c9 * 2⟩, ⟨some ⟨b3, 0, none⟩, 57, [.int .i64 r_6.Ins, .int .i64 r_6.Vars, .int .i64 r_6.Root, .int .i64 r_6.Phase, .slice B9 r_6.Terms.length c8, .slice B10 r_6.Out.length c9], 6⟩, ⟨B11, 136, (r_8.Terms.flatMap enc_Term), c10 * 2⟩, ⟨B12, 61, (r_8.Out.flatMap enc_Affine), c11 * 2⟩, ⟨some ⟨b4, 0, none⟩, 57, [.int .i64 0, .int .i64 0, .int .i64 0, .int .i64 0, .slice none 0 0, .slice none 0 0], 6⟩] [⟨B, (aP.Terms.flatMap enc_Term)⟩, ⟨B1, (aP.Out.flatMap enc_Affine)⟩] := hS35
            refine ⟨(ST.sel hS35 [0, 1, 2, 3, 4, 5, 6, 7] rfl rfl), ?_⟩
            refine ra_all (rs := [9]) (by kernel_rfl) rfl ?_
            refine ra_s0 (i := 9) rfl rfl rfl (Ys_store (i := 10) (s := 6) (B := some ⟨b4, 0, none⟩) (T' := 57) (v := .agg #[.int .i64 r_8.Ins, .int .i64 r_8.Vars, .int .i64 r_8.Root, .int .i64 r_8.Phase, .slice B11 r_8.Terms.length c10, .slice B12 r_8.Out.length c11]) (vs := [.int .i64 r_8.Ins, .int .i64 r_8.Vars, .int .i64 r_8.Root, .int .i64 r_8.Phase, .slice B11 r_8.Terms.length c10, .slice B12 r_8.Out.length c11]) (k := 0) (cs' := [.int .i64 r_8.Ins, .int .i64 r_8.Vars, .int .i64 r_8.Root, .int .i64 r_8.Phase, .slice B11 r_8.Terms.length c10, .slice B12 r_8.Out.length c11]) hS35 k_sz_57_6 rfl rfl rfl rfl rfl rfl rfl (Nat.le_of_ble_eq_true rfl) rfl rfl) ?_ ?_
            · rintro _ w_26 ⟨rfl, hS36⟩
              have hS36 : ST w0 [] _ [⟨some ⟨b, 0, none⟩, 50, [.int .i64 aP.Ins, .int .i64 aP.Vars, .int .i64 aP.Root, .int .i64 aP.Phase, .slice B aP.Terms.length c, .slice B1 aP.Out.length c1], 6⟩, ⟨some ⟨b1, 0, none⟩, 52, [.int .i64 aBy.Mask, .int .i64 aBy.Turn], 2⟩, ⟨B6, 57, [.int .i64 r_4.Ins, .int .i64 r_4.Vars, .int .i64 r_4.Root, .int .i64 r_4.Phase, .slice B7 r_4.Terms.length c6, .slice B8 r_4.Out.length c7], 6⟩, ⟨B7, 136, (r_4.Terms.flatMap enc_Term), c6 * 2⟩, ⟨B8, 61, (r_4.Out.flatMap enc_Affine), c7 * 2⟩, ⟨B9, 136, (r_6.Terms.flatMap enc_Term), c8 * 2⟩, ⟨B10, 61, (r_6.Out.flatMap enc_Affine), c9 * 2⟩, ⟨some ⟨b3, 0, none⟩, 57, [.int .i64 r_6.Ins, .int .i64 r_6.Vars, .int .i64 r_6.Root, .int .i64 r_6.Phase, .slice B9 r_6.Terms.length c8, .slice B10 r_6.Out.length c9], 6⟩, ⟨B11, 136, (r_8.Terms.flatMap enc_Term), c10 * 2⟩, ⟨B12, 61, (r_8.Out.flatMap enc_Affine), c11 * 2⟩, ⟨some ⟨b4, 0, none⟩, 57, [.int .i64 r_8.Ins, .int .i64 r_8.Vars, .int .i64 r_8.Root, .int .i64 r_8.Phase, .slice B11 r_8.Terms.length c10, .slice B12 r_8.Out.length c11], 6⟩] [⟨B, (aP.Terms.flatMap enc_Term)⟩, ⟨B1, (aP.Out.flatMap enc_Affine)⟩] := hS36
              refine ⟨(ST.sel hS36 [0, 1, 2, 3, 4, 5, 6, 7] rfl rfl), ?_⟩
              refine ra_q 10 12 (v := .bool r_9) rfl rfl rfl (by kernel_rfl) (by kernel_rfl) (by kernel_rfl) (ST.sel hS36 [0, 1, 2, 3, 4, 5, 6, 7] rfl rfl) (fun w' hw' => (Y_assign (v := .bool r_9) rfl rfl)) ?_
              refine ra_done (by kernel_rfl) ?_
              exact ⟨some ⟨b4, 0, none⟩, B11, c10, B12, c11, (FF.cons (hf.get 1 0 rfl) (FF.cons (hf.get 3 1 rfl) (FF.cons (hf.get 5 2 rfl) (FF.cons (hf.get 8 3 rfl) (FF.cons (hf.get 9 4 rfl) (FF.cons rfl (FF.cons rfl (FF.cons rfl FF.nil)))))))), (hS36.sel [0, 1, 2, 3, 4, 7, 5, 6, 10, 8, 9] rfl rfl)⟩
            exact allR_nil
          exact allR_nil
        refine ra_s 11 (i := 8) rfl rfl rfl (Ys_alloc (T := 57) (cs := [.int .i64 0, .int .i64 0, .int .i64 0, .int .i64 0, .slice none 0 0, .slice none 0 0]) (m := 6) hS33 k_zero_57 rfl rfl rfl) ?_ ?_
        · rintro _ w_27 ⟨b4, rfl, hS37⟩
          have hS37 : ST w0 [] _ [⟨some ⟨b, 0, none⟩, 50, [.int .i64 aP.Ins, .int .i64 aP.Vars, .int .i64 aP.Root, .int .i64 aP.Phase, .slice B aP.Terms.length c, .slice B1 aP.Out.length c1], 6⟩, ⟨some ⟨b1, 0, none⟩, 52, [.int .i64 aBy.Mask, .int .i64 aBy.Turn], 2⟩, ⟨B6, 57, [.int .i64 r_4.Ins, .int .i64 r_4.Vars, .int .i64 r_4.Root, .int .i64 r_4.Phase, .slice B7 r_4.Terms.length c6, .slice B8 r_4.Out.length c7], 6⟩, ⟨B7, 136, (r_4.Terms.flatMap enc_Term), c6 * 2⟩, ⟨B8, 61, (r_4.Out.flatMap enc_Affine), c7 * 2⟩, ⟨B9, 136, (r_6.Terms.flatMap enc_Term), c8 * 2⟩, ⟨B10, 61, (r_6.Out.flatMap enc_Affine), c9 * 2⟩, ⟨some ⟨b3, 0, none⟩, 57, [.int .i64 r_6.Ins, .int .i64 r_6.Vars, .int .i64 r_6.Root, .int .i64 r_6.Phase, .slice B9 r_6.Terms.length c8, .slice B10 r_6.Out.length c9], 6⟩, ⟨some ⟨b4, 0, none⟩, 57, [.int .i64 0, .int .i64 0, .int .i64 0, .int .i64 0, .slice none 0 0, .slice none 0 0], 6⟩] [⟨B, (aP.Terms.flatMap enc_Term)⟩, ⟨B1, (aP.Out.flatMap enc_Affine)⟩] := hS37
          refine ⟨(ST.sel hS37 [0, 1, 2, 3, 4, 5, 6, 7] rfl rfl), ?_⟩
          refine ra_all (rs := [4]) (by kernel_rfl) rfl ?_
          refine ra_c 39 (i := 4) rfl rfl rfl (Yc_func (g := 24) (vs := [.agg #[.int .i64 r_6.Ins, .int .i64 r_6.Vars, .int .i64 r_6.Root, .int .i64 r_6.Phase, .slice B9 r_6.Terms.length c8, .slice B10 r_6.Out.length c9], .int .i64 aV, .agg #[.int .i64 r_7.Mask, .int .i64 r_7.Turn]]) k_call_24 rfl (mc rfl (mc rfl (mc rfl mn))) (c_impl_SubstituteVar r_6 aV r_7 B9 c8 r_6.Terms.length B10 c9 r_6.Out.length _ rfl rfl (hS37.inn0 [(false, 5), (false, 6)] rfl) hc6)) ?_ ?_
          · rintro _ w_28 ⟨B11, c10, B12, c11, rfl, hd13⟩
            have hS38 := hS37.out0 hd13
            have hS38 : ST w0 [] _ [⟨some ⟨b, 0, none⟩, 50, [.int .i64 aP.Ins, .int .i64 aP.Vars, .int .i64 aP.Root, .int .i64 aP.Phase, .slice B aP.Terms.length c, .slice B1 aP.Out.length c1], 6⟩, ⟨some ⟨b1, 0, none⟩, 52, [.int .i64 aBy.Mask, .int .i64 aBy.Turn], 2⟩, ⟨B6, 57, [.int .i64 r_4.Ins, .int .i64 r_4.Vars, .int .i64 r_4.Root, .int .i64 r_4.Phase, .slice B7 r_4.Terms.length c6, .slice B8 r_4.Out.length c7], 6⟩, ⟨B7, 136, (r_4.Terms.flatMap enc_Term), c6 * 2⟩, ⟨B8, 61, (r_4.Out.flatMap enc_Affine), c7 * 2⟩, ⟨B9, 136, (r_6.Terms.flatMap enc_Term), c8 * 2⟩, ⟨B10, 61, (r_6.Out.flatMap enc_Affine), c9 * 2⟩, ⟨some ⟨b3, 0, none⟩, 57, [.int .i64 r_6.Ins, .int .i64 r_6.Vars, .int .i64 r_6.Root, .int .i64 r_6.Phase, .slice B9 r_6.Terms.length c8, .slice B10 r_6.Out.length c9], 6⟩, ⟨some ⟨b4, 0, none⟩, 57, [.int .i64 0, .int .i64 0, .int .i64 0, .int .i64 0, .slice none 0 0, .slice none 0 0], 6⟩, ⟨B11, 136, (r_8.Terms.flatMap enc_Term), c10 * 2⟩, ⟨B12, 61, (r_8.Out.flatMap enc_Affine), c11 * 2⟩] [⟨B, (aP.Terms.flatMap enc_Term)⟩, ⟨B1, (aP.Out.flatMap enc_Affine)⟩] := hS38
            refine ⟨(ST.sel hS38 [0, 1, 2, 3, 4, 5, 6, 7] rfl rfl), ?_⟩
            refine ra_q 5 34 (v := .tuple #[.agg #[.int .i64 r_8.Ins, .int .i64 r_8.Vars, .int .i64 r_8.Root, .int .i64 r_8.Phase, .slice B11 r_8.Terms.length c10, .slice B12 r_8.Out.length c11], .bool r_9]) rfl rfl rfl (by kernel_rfl) (by kernel_rfl) (by kernel_rfl) (ST.sel hS38 [0, 1, 2, 3, 4, 5, 6, 7] rfl rfl) (fun w' hw' => (Y_move (v := .tuple #[.agg #[.int .i64 r_8.Ins, .int .i64 r_8.Vars, .int .i64 r_8.Root, .int .i64 r_8.Phase, .slice B11 r_8.Terms.length c10, .slice B12 r_8.Out.length c11], .bool r_9]) rfl rfl)) ?_
            refine ra_q 6 40 (v := .agg #[.int .i64 r_8.Ins, .int .i64 r_8.Vars, .int .i64 r_8.Root, .int .i64 r_8.Phase, .slice B11 r_8.Terms.length c10, .slice B12 r_8.Out.length c11]) rfl rfl rfl (by kernel_rfl) (by kernel_rfl) (by kernel_rfl) (ST.sel hS38 [0, 1, 2, 3, 4, 5, 6, 7] rfl rfl) (fun w' hw' => (Y_extract (v := .agg #[.int .i64 r_8.Ins, .int .i64 r_8.Vars, .int .i64 r_8.Root, .int .i64 r_8.Phase, .slice B11 r_8.Terms.length c10, .slice B12 r_8.Out.length c11]) rfl rfl rfl)) ?_
            refine ra_q 7 41 (v := .bool r_9) rfl rfl rfl (by kernel_rfl) (by kernel_rfl) (by kernel_rfl) (ST.sel hS38 [0, 1, 2, 3, 4, 5, 6, 7] rfl rfl) (fun w' hw' => (Y_extract (v := .bool r_9) rfl rfl rfl)) ?_
            refine ra_all (rs := [9]) (by kernel_rfl) rfl ?_
            refine ra_s0 (i := 9) rfl rfl rfl (Ys_store (i := 8) (s := 6) (B := some ⟨b4, 0, none⟩) (T' := 57) (v := .agg #[.int .i64 r_8.Ins, .int .i64 r_8.Vars, .int .i64 r_8.Root, .int .i64 r_8.Phase, .slice B11 r_8.Terms.length c10, .slice B12 r_8.Out.length c11]) (vs := [.int .i64 r_8.Ins, .int .i64 r_8.Vars, .int .i64 r_8.Root, .int .i64 r_8.Phase, .slice B11 r_8.Terms.length c10, .slice B12 r_8.Out.length c11]) (k := 0) (cs' := [.int .i64 r_8.Ins, .int .i64 r_8.Vars, .int .i64 r_8.Root, .int .i64 r_8.Phase, .slice B11 r_8.Terms.length c10, .slice B12 r_8.Out.length c11]) hS38 k_sz_57_6 rfl rfl rfl rfl rfl rfl rfl (Nat.le_of_ble_eq_true rfl) rfl rfl) ?_ ?_
            · rintro _ w_29 ⟨rfl, hS39⟩
              have hS39 : ST w0 [] _ [⟨some ⟨b, 0, none⟩, 50, [.int .i64 aP.Ins, .int .i64 aP.Vars, .int .i64 aP.Root, .int .i64 aP.Phase, .slice B aP.Terms.length c, .slice B1 aP.Out.length c1], 6⟩, ⟨some ⟨b1, 0, none⟩, 52, [.int .i64 aBy.Mask, .int .i64 aBy.Turn], 2⟩, ⟨B6, 57, [.int .i64 r_4.Ins, .int .i64 r_4.Vars, .int .i64 r_4.Root, .int .i64 r_4.Phase, .slice B7 r_4.Terms.length c6, .slice B8 r_4.Out.length c7], 6⟩, ⟨B7, 136, (r_4.Terms.flatMap enc_Term), c6 * 2⟩, ⟨B8, 61, (r_4.Out.flatMap enc_Affine), c7 * 2⟩, ⟨B9, 136, (r_6.Terms.flatMap enc_Term), c8 * 2⟩, ⟨B10, 61, (r_6.Out.flatMap enc_Affine), c9 * 2⟩, ⟨some ⟨b3, 0, none⟩, 57, [.int .i64 r_6.Ins, .int .i64 r_6.Vars, .int .i64 r_6.Root, .int .i64 r_6.Phase, .slice B9 r_6.Terms.length c8, .slice B10 r_6.Out.length c9], 6⟩, ⟨some ⟨b4, 0, none⟩, 57, [.int .i64 r_8.Ins, .int .i64 r_8.Vars, .int .i64 r_8.Root, .int .i64 r_8.Phase, .slice B11 r_8.Terms.length c10, .slice B12 r_8.Out.length c11], 6⟩, ⟨B11, 136, (r_8.Terms.flatMap enc_Term), c10 * 2⟩, ⟨B12, 61, (r_8.Out.flatMap enc_Affine), c11 * 2⟩] [⟨B, (aP.Terms.flatMap enc_Term)⟩, ⟨B1, (aP.Out.flatMap enc_Affine)⟩] := hS39
              refine ⟨(ST.sel hS39 [0, 1, 2, 3, 4, 5, 6, 7] rfl rfl), ?_⟩
              refine ra_q 10 12 (v := .bool r_9) rfl rfl rfl (by kernel_rfl) (by kernel_rfl) (by kernel_rfl) (ST.sel hS39 [0, 1, 2, 3, 4, 5, 6, 7] rfl rfl) (fun w' hw' => (Y_assign (v := .bool r_9) rfl rfl)) ?_
              refine ra_done (by kernel_rfl) ?_
              exact ⟨some ⟨b4, 0, none⟩, B11, c10, B12, c11, (FF.cons (hf.get 1 0 rfl) (FF.cons (hf.get 3 1 rfl) (FF.cons (hf.get 5 2 rfl) (FF.cons (hf.get 8 3 rfl) (FF.cons (hf.get 9 4 rfl) (FF.cons rfl (FF.cons rfl (FF.cons rfl FF.nil)))))))), (hS39.sel [0, 1, 2, 3, 4, 7, 5, 6, 8, 9, 10] rfl rfl)⟩
            exact allR_nil
          exact allR_nil
        exact allR_nil
      refine ra_s 11 (i := 8) rfl rfl rfl (Ys_alloc (T := 57) (cs := [.int .i64 0, .int .i64 0, .int .i64 0, .int .i64 0, .slice none 0 0, .slice none 0 0]) (m := 6) hS32 k_zero_57 rfl rfl rfl) ?_ ?_
      · rintro _ w_30 ⟨b4, rfl, hS40⟩
        have hS40 : ST w0 [] _ [⟨some ⟨b, 0, none⟩, 50, [.int .i64 aP.Ins, .int .i64 aP.Vars, .int .i64 aP.Root, .int .i64 aP.Phase, .slice B aP.Terms.length c, .slice B1 aP.Out.length c1], 6⟩, ⟨some ⟨b1, 0, none⟩, 52, [.int .i64 aBy.Mask, .int .i64 aBy.Turn], 2⟩, ⟨B6, 57, [.int .i64 r_4.Ins, .int .i64 r_4.Vars, .int .i64 r_4.Root, .int .i64 r_4.Phase, .slice B7 r_4.Terms.length c6, .slice B8 r_4.Out.length c7], 6⟩, ⟨B7, 136, (r_4.Terms.flatMap enc_Term), c6 * 2⟩, ⟨B8, 61, (r_4.Out.flatMap enc_Affine), c7 * 2⟩, ⟨B9, 136, (r_6.Terms.flatMap enc_Term), c8 * 2⟩, ⟨B10, 61, (r_6.Out.flatMap enc_Affine), c9 * 2⟩, ⟨some ⟨b3, 0, none⟩, 57, [.int .i64 r_6.Ins, .int .i64 r_6.Vars, .int .i64 r_6.Root, .int .i64 r_6.Phase, .slice B9 r_6.Terms.length c8, .slice B10 r_6.Out.length c9], 6⟩, ⟨some ⟨b4, 0, none⟩, 57, [.int .i64 0, .int .i64 0, .int .i64 0, .int .i64 0, .slice none 0 0, .slice none 0 0], 6⟩] [⟨B, (aP.Terms.flatMap enc_Term)⟩, ⟨B1, (aP.Out.flatMap enc_Affine)⟩] := hS40
        refine ⟨(ST.sel hS40 [0, 1, 2, 3, 4, 5, 6, 7] rfl rfl), ?_⟩
        refine ra_all (rs := [3]) (by kernel_rfl) rfl ?_
        refine ra_c 38 (i := 3) rfl rfl rfl (Yc_func (g := 23) (vs := [.agg #[.int .i64 aBy.Mask, .int .i64 aBy.Turn]]) k_call_23 rfl (mc rfl mn) (c_laws_toAffine aBy _  (hS40.inn0 [] rfl) hc5)) ?_ ?_
        · rintro _ w_31 ⟨rfl, hd14⟩
          have hS41 := hS40.out00 hd14
          have hS41 : ST w0 [] _ [⟨some ⟨b, 0, none⟩, 50, [.int .i64 aP.Ins, .int .i64 aP.Vars, .int .i64 aP.Root, .int .i64 aP.Phase, .slice B aP.Terms.length c, .slice B1 aP.Out.length c1], 6⟩, ⟨some ⟨b1, 0, none⟩, 52, [.int .i64 aBy.Mask, .int .i64 aBy.Turn], 2⟩, ⟨B6, 57, [.int .i64 r_4.Ins, .int .i64 r_4.Vars, .int .i64 r_4.Root, .int .i64 r_4.Phase, .slice B7 r_4.Terms.length c6, .slice B8 r_4.Out.length c7], 6⟩, ⟨B7, 136, (r_4.Terms.flatMap enc_Term), c6 * 2⟩, ⟨B8, 61, (r_4.Out.flatMap enc_Affine), c7 * 2⟩, ⟨B9, 136, (r_6.Terms.flatMap enc_Term), c8 * 2⟩, ⟨B10, 61, (r_6.Out.flatMap enc_Affine), c9 * 2⟩, ⟨some ⟨b3, 0, none⟩, 57, [.int .i64 r_6.Ins, .int .i64 r_6.Vars, .int .i64 r_6.Root, .int .i64 r_6.Phase, .slice B9 r_6.Terms.length c8, .slice B10 r_6.Out.length c9], 6⟩, ⟨some ⟨b4, 0, none⟩, 57, [.int .i64 0, .int .i64 0, .int .i64 0, .int .i64 0, .slice none 0 0, .slice none 0 0], 6⟩] [⟨B, (aP.Terms.flatMap enc_Term)⟩, ⟨B1, (aP.Out.flatMap enc_Affine)⟩] := hS41
          refine ⟨(ST.sel hS41 [0, 1, 2, 3, 4, 5, 6, 7] rfl rfl), ?_⟩
          refine ra_all (rs := [4]) (by kernel_rfl) rfl ?_
          refine ra_c 39 (i := 4) rfl rfl rfl (Yc_func (g := 24) (vs := [.agg #[.int .i64 r_6.Ins, .int .i64 r_6.Vars, .int .i64 r_6.Root, .int .i64 r_6.Phase, .slice B9 r_6.Terms.length c8, .slice B10 r_6.Out.length c9], .int .i64 aV, .agg #[.int .i64 r_7.Mask, .int .i64 r_7.Turn]]) k_call_24 rfl (mc rfl (mc rfl (mc rfl mn))) (c_impl_SubstituteVar r_6 aV r_7 B9 c8 r_6.Terms.length B10 c9 r_6.Out.length _ rfl rfl (hS41.inn0 [(false, 5), (false, 6)] rfl) hc6)) ?_ ?_
          · rintro _ w_32 ⟨B11, c10, B12, c11, rfl, hd15⟩
            have hS42 := hS41.out0 hd15
            have hS42 : ST w0 [] _ [⟨some ⟨b, 0, none⟩, 50, [.int .i64 aP.Ins, .int .i64 aP.Vars, .int .i64 aP.Root, .int .i64 aP.Phase, .slice B aP.Terms.length c, .slice B1 aP.Out.length c1], 6⟩, ⟨some ⟨b1, 0, none⟩, 52, [.int .i64 aBy.Mask, .int .i64 aBy.Turn], 2⟩, ⟨B6, 57, [.int .i64 r_4.Ins, .int .i64 r_4.Vars, .int .i64 r_4.Root, .int .i64 r_4.Phase, .slice B7 r_4.Terms.length c6, .slice B8 r_4.Out.length c7], 6⟩, ⟨B7, 136, (r_4.Terms.flatMap enc_Term), c6 * 2⟩, ⟨B8, 61, (r_4.Out.flatMap enc_Affine), c7 * 2⟩, ⟨B9, 136, (r_6.Terms.flatMap enc_Term), c8 * 2⟩, ⟨B10, 61, (r_6.Out.flatMap enc_Affine), c9 * 2⟩, ⟨some ⟨b3, 0, none⟩, 57, [.int .i64 r_6.Ins, .int .i64 r_6.Vars, .int .i64 r_6.Root, .int .i64 r_6.Phase, .slice B9 r_6.Terms.length c8, .slice B10 r_6.Out.length c9], 6⟩, ⟨some ⟨b4, 0, none⟩, 57, [.int .i64 0, .int .i64 0, .int .i64 0, .int .i64 0, .slice none 0 0, .slice none 0 0], 6⟩, ⟨B11, 136, (r_8.Terms.flatMap enc_Term), c10 * 2⟩, ⟨B12, 61, (r_8.Out.flatMap enc_Affine), c11 * 2⟩] [⟨B, (aP.Terms.flatMap enc_Term)⟩, ⟨B1, (aP.Out.flatMap enc_Affine)⟩] := hS42
            refine ⟨(ST.sel hS42 [0, 1, 2, 3, 4, 5, 6, 7] rfl rfl), ?_⟩
            refine ra_q 5 34 (v := .tuple #[.agg #[.int .i64 r_8.Ins, .int .i64 r_8.Vars, .int .i64 r_8.Root, .int .i64 r_8.Phase, .slice B11 r_8.Terms.length c10, .slice B12 r_8.Out.length c11], .bool r_9]) rfl rfl rfl (by kernel_rfl) (by kernel_rfl) (by kernel_rfl) (ST.sel hS42 [0, 1, 2, 3, 4, 5, 6, 7] rfl rfl) (fun w' hw' => (Y_move (v := .tuple #[.agg #[.int .i64 r_8.Ins, .int .i64 r_8.Vars, .int .i64 r_8.Root, .int .i64 r_8.Phase, .slice B11 r_8.Terms.length c10, .slice B12 r_8.Out.length c11], .bool r_9]) rfl rfl)) ?_
            refine ra_q 6 40 (v := .agg #[.int .i64 r_8.Ins, .int .i64 r_8.Vars, .int .i64 r_8.Root, .int .i64 r_8.Phase, .slice B11 r_8.Terms.length c10, .slice B12 r_8.Out.length c11]) rfl rfl rfl (by kernel_rfl) (by kernel_rfl) (by kernel_rfl) (ST.sel hS42 [0, 1, 2, 3, 4, 5, 6, 7] rfl rfl) (fun w' hw' => (Y_extract (v := .agg #[.int .i64 r_8.Ins, .int .i64 r_8.Vars, .int .i64 r_8.Root, .int .i64 r_8.Phase, .slice B11 r_8.Terms.length c10, .slice B12 r_8.Out.length c11]) rfl rfl rfl)) ?_
            refine ra_q 7 41 (v := .bool r_9) rfl rfl rfl (by kernel_rfl) (by kernel_rfl) (by kernel_rfl) (ST.sel hS42 [0, 1, 2, 3, 4, 5, 6, 7] rfl rfl) (fun w' hw' => (Y_extract (v := .bool r_9) rfl rfl rfl)) ?_
            refine ra_all (rs := [9]) (by kernel_rfl) rfl ?_
            refine ra_s0 (i := 9) rfl rfl rfl (Ys_store (i := 8) (s := 6) (B := some ⟨b4, 0, none⟩) (T' := 57) (v := .agg #[.int .i64 r_8.Ins, .int .i64 r_8.Vars, .int .i64 r_8.Root, .int .i64 r_8.Phase, .slice B11 r_8.Terms.length c10, .slice B12 r_8.Out.length c11]) (vs := [.int .i64 r_8.Ins, .int .i64 r_8.Vars, .int .i64 r_8.Root, .int .i64 r_8.Phase, .slice B11 r_8.Terms.length c10, .slice B12 r_8.Out.length c11]) (k := 0) (cs' := [.int .i64 r_8.Ins, .int .i64 r_8.Vars, .int .i64 r_8.Root, .int .i64 r_8.Phase, .slice B11 r_8.Terms.length c10, .slice B12 r_8.Out.length c11]) hS42 k_sz_57_6 rfl rfl rfl rfl rfl rfl rfl (Nat.le_of_ble_eq_true rfl) rfl rfl) ?_ ?_
            · rintro _ w_33 ⟨rfl, hS43⟩
              have hS43 : ST w0 [] _ [⟨some ⟨b, 0, none⟩, 50, [.int .i64 aP.Ins, .int .i64 aP.Vars, .int .i64 aP.Root, .int .i64 aP.Phase, .slice B aP.Terms.length c, .slice B1 aP.Out.length c1], 6⟩, ⟨some ⟨b1, 0, none⟩, 52, [.int .i64 aBy.Mask, .int .i64 aBy.Turn], 2⟩, ⟨B6, 57, [.int .i64 r_4.Ins, .int .i64 r_4.Vars, .int .i64 r_4.Root, .int .i64 r_4.Phase, .slice B7 r_4.Terms.length c6, .slice B8 r_4.Out.length c7], 6⟩, ⟨B7, 136, (r_4.Terms.flatMap enc_Term), c6 * 2⟩, ⟨B8, 61, (r_4.Out.flatMap enc_Affine), c7 * 2⟩, ⟨B9, 136, (r_6.Terms.flatMap enc_Term), c8 * 2⟩, ⟨B10, 61, (r_6.Out.flatMap enc_Affine), c9 * 2⟩, ⟨some ⟨b3, 0, none⟩, 57, [.int .i64 r_6.Ins, .int .i64 r_6.Vars, .int .i64 r_6.Root, .int .i64 r_6.Phase, .slice B9 r_6.Terms.length c8, .slice B10 r_6.Out.length c9], 6⟩, ⟨some ⟨b4, 0, none⟩, 57, [.int .i64 r_8.Ins, .int .i64 r_8.Vars, .int .i64 r_8.Root, .int .i64 r_8.Phase, .slice B11 r_8.Terms.length c10, .slice B12 r_8.Out.length c11], 6⟩, ⟨B11, 136, (r_8.Terms.flatMap enc_Term), c10 * 2⟩, ⟨B12, 61, (r_8.Out.flatMap enc_Affine), c11 * 2⟩] [⟨B, (aP.Terms.flatMap enc_Term)⟩, ⟨B1, (aP.Out.flatMap enc_Affine)⟩] := hS43
              refine ⟨(ST.sel hS43 [0, 1, 2, 3, 4, 5, 6, 7] rfl rfl), ?_⟩
              refine ra_q 10 12 (v := .bool r_9) rfl rfl rfl (by kernel_rfl) (by kernel_rfl) (by kernel_rfl) (ST.sel hS43 [0, 1, 2, 3, 4, 5, 6, 7] rfl rfl) (fun w' hw' => (Y_assign (v := .bool r_9) rfl rfl)) ?_
              refine ra_done (by kernel_rfl) ?_
              exact ⟨some ⟨b4, 0, none⟩, B11, c10, B12, c11, (FF.cons (hf.get 1 0 rfl) (FF.cons (hf.get 3 1 rfl) (FF.cons (hf.get 5 2 rfl) (FF.cons (hf.get 8 3 rfl) (FF.cons (hf.get 9 4 rfl) (FF.cons rfl (FF.cons rfl (FF.cons rfl FF.nil)))))))), (hS43.sel [0, 1, 2, 3, 4, 7, 5, 6, 8, 9, 10] rfl rfl)⟩
            exact allR_nil
          exact allR_nil
        exact allR_nil
      exact allR_nil
    rintro f w ⟨B13, B14, c12, B15, c13, hf1, hS31⟩
    refine cw_seq ?_
    refine cw_seq ?_
    refine cw_region ?_
    refine sq 42 rfl rfl (Y_loadA (B := B13) (i := 0) (cs := [.int .i64 r_8.Ins, .int .i64 r_8.Vars, .int .i64 r_8.Root, .int .i64 r_8.Phase, .slice B14 r_8.Terms.length c12, .slice B15 r_8.Out.length c13]) (vs := [.int .i64 r_8.Ins, .int .i64 r_8.Vars, .int .i64 r_8.Root, .int .i64 r_8.Phase, .slice B14 r_8.Terms.length c12, .slice B15 r_8.Out.length c13]) k_ag_57 k_sz_57_6 rfl (hf1.get 11 6 rfl) (hS31.cf (i := 8) rfl) rfl rfl) ?_
    refine sq 43 rfl rfl (Y_loadA (B := B6) (i := 0) (cs := [.int .i64 r_4.Ins, .int .i64 r_4.Vars, .int .i64 r_4.Root, .int .i64 r_4.Phase, .slice B7 r_4.Terms.length c6, .slice B8 r_4.Out.length c7]) (vs := [.int .i64 r_4.Ins, .int .i64 r_4.Vars, .int .i64 r_4.Root, .int .i64 r_4.Phase, .slice B7 r_4.Terms.length c6, .slice B8 r_4.Out.length c7]) k_ag_57 k_sz_57_6 rfl (hf1.get 8 3 rfl) (hS31.cf (i := 2) rfl) rfl rfl) ?_
    obtain ⟨r_10, hc7, hF2⟩ := bind_inv hF2
    refine sc 44 rfl rfl (Yc_func (g := 25) (vs := [.agg #[.int .i64 r_8.Ins, .int .i64 r_8.Vars, .int .i64 r_8.Root, .int .i64 r_8.Phase, .slice B14 r_8.Terms.length c12, .slice B15 r_8.Out.length c13], .agg #[.int .i64 r_4.Ins, .int .i64 r_4.Vars, .int .i64 r_4.Root, .int .i64 r_4.Phase, .slice B7 r_4.Terms.length c6, .slice B8 r_4.Out.length c7]]) k_call_25 rfl (mc rfl (mc rfl mn)) (c_laws_eqPathSum r_8 r_4 B14 c12 r_8.Terms.length B15 c13 r_8.Out.length B7 c6 r_4.Terms.length B8 c7 r_4.Out.length _ rfl rfl rfl rfl (hS31.inn0 [(false, 9), (false, 10), (false, 3), (false, 4)] rfl) hc7)) ?_
    rintro _ w_34 ⟨rfl, hd16⟩
    have hS44 := hS31.out00 hd16
    have hS44 : ST w0 [] _ [⟨some ⟨b, 0, none⟩, 50, [.int .i64 aP.Ins, .int .i64 aP.Vars, .int .i64 aP.Root, .int .i64 aP.Phase, .slice B aP.Terms.length c, .slice B1 aP.Out.length c1], 6⟩, ⟨some ⟨b1, 0, none⟩, 52, [.int .i64 aBy.Mask, .int .i64 aBy.Turn], 2⟩, ⟨B6, 57, [.int .i64 r_4.Ins, .int .i64 r_4.Vars, .int .i64 r_4.Root, .int .i64 r_4.Phase, .slice B7 r_4.Terms.length c6, .slice B8 r_4.Out.length c7], 6⟩, ⟨B7, 136, (r_4.Terms.flatMap enc_Term), c6 * 2⟩, ⟨B8, 61, (r_4.Out.flatMap enc_Affine), c7 * 2⟩, ⟨some ⟨b3, 0, none⟩, 57, [.int .i64 r_6.Ins, .int .i64 r_6.Vars, .int .i64 r_6.Root, .int .i64 r_6.Phase, .slice B9 r_6.Terms.length c8, .slice B10 r_6.Out.length c9], 6⟩, ⟨B9, 136, (r_6.Terms.flatMap enc_Term), c8 * 2⟩, ⟨B10, 61, (r_6.Out.flatMap enc_Affine), c9 * 2⟩, ⟨B13, 57, [.int .i64 r_8.Ins, .int .i64 r_8.Vars, .int .i64 r_8.Root, .int .i64 r_8.Phase, .slice B14 r_8.Terms.length c12, .slice B15 r_8.Out.length c13], 6⟩, ⟨B14, 136, (r_8.Terms.flatMap enc_Term), c12 * 2⟩, ⟨B15, 61, (r_8.Out.flatMap enc_Affine), c13 * 2⟩] [⟨B, (aP.Terms.flatMap enc_Term)⟩, ⟨B1, (aP.Out.flatMap enc_Affine)⟩] := hS44
    refine sq 45 rfl rfl (Y_not (p := r_10) rfl rfl) ?_
    refine sq 46 rfl rfl (Y_move (v := .bool (!r_10)) rfl rfl) ?_
    refine sgq 47 (B := (!(!r_10))) (v := .bool r_9) rfl rfl (wt_f (gd_of (t := 46) (by kernel_rfl) rfl)) (fun hg => (Y_move (v := .bool r_9) rfl (hf1.get 12 7 rfl))) ?_
    refine sgq 48 (B := (!(!r_10))) (v := .bool r_5) rfl rfl (wt_f (gd_of (t := 46) (by kernel_rfl) rfl)) (fun hg1 => (Y_move (v := .bool r_5) rfl (hf1.get 9 4 rfl))) ?_
    refine sgq 49 (B := (!(!r_10))) (v := .bool (!(r_9 == r_5))) rfl rfl (wt_f (gd_of (t := 46) (by kernel_rfl) rfl)) (fun hg2 => (Y_bne (p := r_9) (q := r_5) k_und_4 rfl (gv_of (B := (!(!r_10))) (v := .bool r_9) hg2) (gv_of (B := (!(!r_10))) (v := .bool r_5) hg2))) ?_
    refine sq 50 rfl rfl (Y_or (b := (!r_10)) (z := (!(r_9 == r_5))) rfl rfl rfl rfl) ?_
    refine rw_nil ?_
    refine cw_cond (b := ((!r_10) || (!(r_9 == r_5)))) rfl (fun hb1 => ?_) (fun hb1 => ?_)
    · skip
      have hF3 := ct hF2 hb1
      refine cw_seq ?_
      refine cw_region ?_
      refine sq 6 rfl rfl (Y_assign (v := .bool false) rfl rfl) ?_
      refine rw_nil ?_
      refine cw_ret ?_
      obtain rfl := some_inj hF3
      exact ret1 Try.results5 (v1 := .bool false) (resAt_tmp rfl) ⟨rfl, (ST.subR (R' := []) (hS44.sel [] rfl rfl) (fun _ h => by cases h))⟩
    · skip
      have hF4 := cf' hF2 hb1
      refine cw_skip ?_
      refine cw_seq ?_
      refine cw_seq ?_
      obtain ⟨r_11, hc8, hF4⟩ := bind_inv hF4
      obtain ⟨r_12, hc9, hF4⟩ := bind_inv hF4
      refine ra_start (ST.sel hS44 [0, 1, 2, 3, 4, 5, 6, 7, 8, 9, 10] rfl rfl).fn (by kernel_rfl) ?_
      have hS47 := hS44.drew
      refine ra_q 0 51 (v := .agg #[.int .i64 r_6.Ins, .int .i64 r_6.Vars, .int .i64 r_6.Root, .int .i64 r_6.Phase, .slice B9 r_6.Terms.length c8, .slice B10 r_6.Out.length c9]) rfl rfl rfl (by kernel_rfl) (by kernel_rfl) (by kernel_rfl) (ST.sel hS47 [0, 1, 2, 3, 4, 5, 6, 7, 8, 9, 10] rfl rfl) (fun w' hw' => (Y_loadA (B := some ⟨b3, 0, none⟩) (i := 0) (cs := [.int .i64 r_6.Ins, .int .i64 r_6.Vars, .int .i64 r_6.Root, .int .i64 r_6.Phase, .slice B9 r_6.Terms.length c8, .slice B10 r_6.Out.length c9]) (vs := [.int .i64 r_6.Ins, .int .i64 r_6.Vars, .int .i64 r_6.Root, .int .i64 r_6.Phase, .slice B9 r_6.Terms.length c8, .slice B10 r_6.Out.length c9]) k_ag_57 k_sz_57_6 rfl (hf1.get 10 5 rfl) (ST.cf hw' (i := 5) rfl) rfl rfl)) ?_
      refine ra_q 1 52 (v := .agg #[.int .i64 aP.Ins, .int .i64 aP.Vars, .int .i64 aP.Root, .int .i64 aP.Phase, .slice B aP.Terms.length c, .slice B1 aP.Out.length c1]) rfl rfl rfl (by kernel_rfl) (by kernel_rfl) (by kernel_rfl) (ST.sel hS47 [0, 1, 2, 3, 4, 5, 6, 7, 8, 9, 10] rfl rfl) (fun w' hw' => (Y_loadA (B := some ⟨b, 0, none⟩) (i := 0) (cs := [.int .i64 aP.Ins, .int .i64 aP.Vars, .int .i64 aP.Root, .int .i64 aP.Phase, .slice B aP.Terms.length c, .slice B1 aP.Out.length c1]) (vs := [.int .i64 aP.Ins, .int .i64 aP.Vars, .int .i64 aP.Root, .int .i64 aP.Phase, .slice B aP.Terms.length c, .slice B1 aP.Out.length c1]) k_ag_50 k_sz_50_6 rfl (hf1.get 3 1 rfl) (ST.cf hw' (i := 0) rfl) rfl rfl)) ?_
      refine ra_all (rs := [2]) (by kernel_rfl) rfl ?_
      refine ra_c 53 (i := 2) rfl rfl rfl (Yc_func (g := 22) (vs := [.agg #[.int .i64 aP.Ins, .int .i64 aP.Vars, .int .i64 aP.Root, .int .i64 aP.Phase, .slice B aP.Terms.length c, .slice B1 aP.Out.length c1]]) k_call_22 rfl (mc rfl mn) (c_laws_toPathSum aP B c aP.Terms.length B1 c1 aP.Out.length _ rfl rfl (hS47.inn0 [(true, 0), (true, 1)] rfl) hc8)) ?_ ?_
      · rintro _ w_35 ⟨B16, c14, B17, c15, rfl, hd17⟩
        have hS48 := hS47.out0 hd17
        have hS48 : ST w0 [] _ [⟨some ⟨b, 0, none⟩, 50, [.int .i64 aP.Ins, .int .i64 aP.Vars, .int .i64 aP.Root, .int .i64 aP.Phase, .slice B aP.Terms.length c, .slice B1 aP.Out.length c1], 6⟩, ⟨some ⟨b1, 0, none⟩, 52, [.int .i64 aBy.Mask, .int .i64 aBy.Turn], 2⟩, ⟨B6, 57, [.int .i64 r_4.Ins, .int .i64 r_4.Vars, .int .i64 r_4.Root, .int .i64 r_4.Phase, .slice B7 r_4.Terms.length c6, .slice B8 r_4.Out.length c7], 6⟩, ⟨B7, 136, (r_4.Terms.flatMap enc_Term), c6 * 2⟩, ⟨B8, 61, (r_4.Out.flatMap enc_Affine), c7 * 2⟩, ⟨some ⟨b3, 0, none⟩, 57, [.int .i64 r_6.Ins, .int .i64 r_6.Vars, .int .i64 r_6.Root, .int .i64 r_6.Phase, .slice B9 r_6.Terms.length c8, .slice B10 r_6.Out.length c9], 6⟩, ⟨B9, 136, (r_6.Terms.flatMap enc_Term), c8 * 2⟩, ⟨B10, 61, (r_6.Out.flatMap enc_Affine), c9 * 2⟩, ⟨B13, 57, [.int .i64 r_8.Ins, .int .i64 r_8.Vars, .int .i64 r_8.Root, .int .i64 r_8.Phase, .slice B14 r_8.Terms.length c12, .slice B15 r_8.Out.length c13], 6⟩, ⟨B14, 136, (r_8.Terms.flatMap enc_Term), c12 * 2⟩, ⟨B15, 61, (r_8.Out.flatMap enc_Affine), c13 * 2⟩, ⟨B16, 136, (r_11.Terms.flatMap enc_Term), c14 * 2⟩, ⟨B17, 61, (r_11.Out.flatMap enc_Affine), c15 * 2⟩] [⟨B, (aP.Terms.flatMap enc_Term)⟩, ⟨B1, (aP.Out.flatMap enc_Affine)⟩] := hS48
        refine ⟨(ST.sel hS48 [0, 1, 2, 3, 4, 5, 6, 7, 8, 9, 10] rfl rfl), ?_⟩
        refine ra_all (rs := [3]) (by kernel_rfl) rfl ?_
        refine ra_c 54 (i := 3) rfl rfl rfl (Yc_func (g := 25) (vs := [.agg #[.int .i64 r_6.Ins, .int .i64 r_6.Vars, .int .i64 r_6.Root, .int .i64 r_6.Phase, .slice B9 r_6.Terms.length c8, .slice B10 r_6.Out.length c9], .agg #[.int .i64 r_11.Ins, .int .i64 r_11.Vars, .int .i64 r_11.Root, .int .i64 r_11.Phase, .slice B16 r_11.Terms.length c14, .slice B17 r_11.Out.length c15]]) k_call_25 rfl (mc rfl (mc rfl mn)) (c_laws_eqPathSum r_6 r_11 B9 c8 r_6.Terms.length B10 c9 r_6.Out.length B16 c14 r_11.Terms.length B17 c15 r_11.Out.length _ rfl rfl rfl rfl (hS48.inn0 [(false, 6), (false, 7), (false, 11), (false, 12)] rfl) hc9)) ?_ ?_
        · rintro _ w_36 ⟨rfl, hd18⟩
          have hS49 := hS48.out00 hd18
          have hS49 : ST w0 [] _ [⟨some ⟨b, 0, none⟩, 50, [.int .i64 aP.Ins, .int .i64 aP.Vars, .int .i64 aP.Root, .int .i64 aP.Phase, .slice B aP.Terms.length c, .slice B1 aP.Out.length c1], 6⟩, ⟨some ⟨b1, 0, none⟩, 52, [.int .i64 aBy.Mask, .int .i64 aBy.Turn], 2⟩, ⟨B6, 57, [.int .i64 r_4.Ins, .int .i64 r_4.Vars, .int .i64 r_4.Root, .int .i64 r_4.Phase, .slice B7 r_4.Terms.length c6, .slice B8 r_4.Out.length c7], 6⟩, ⟨B7, 136, (r_4.Terms.flatMap enc_Term), c6 * 2⟩, ⟨B8, 61, (r_4.Out.flatMap enc_Affine), c7 * 2⟩, ⟨some ⟨b3, 0, none⟩, 57, [.int .i64 r_6.Ins, .int .i64 r_6.Vars, .int .i64 r_6.Root, .int .i64 r_6.Phase, .slice B9 r_6.Terms.length c8, .slice B10 r_6.Out.length c9], 6⟩, ⟨B9, 136, (r_6.Terms.flatMap enc_Term), c8 * 2⟩, ⟨B10, 61, (r_6.Out.flatMap enc_Affine), c9 * 2⟩, ⟨B13, 57, [.int .i64 r_8.Ins, .int .i64 r_8.Vars, .int .i64 r_8.Root, .int .i64 r_8.Phase, .slice B14 r_8.Terms.length c12, .slice B15 r_8.Out.length c13], 6⟩, ⟨B14, 136, (r_8.Terms.flatMap enc_Term), c12 * 2⟩, ⟨B15, 61, (r_8.Out.flatMap enc_Affine), c13 * 2⟩, ⟨B16, 136, (r_11.Terms.flatMap enc_Term), c14 * 2⟩, ⟨B17, 61, (r_11.Out.flatMap enc_Affine), c15 * 2⟩] [⟨B, (aP.Terms.flatMap enc_Term)⟩, ⟨B1, (aP.Out.flatMap enc_Affine)⟩] := hS49
          refine ⟨(ST.sel hS49 [0, 1, 2, 3, 4, 5, 6, 7, 8, 9, 10] rfl rfl), ?_⟩
          refine ra_q 4 55 (v := .bool (!r_12)) rfl rfl rfl (by kernel_rfl) (by kernel_rfl) (by kernel_rfl) (ST.sel hS49 [0, 1, 2, 3, 4, 5, 6, 7, 8, 9, 10] rfl rfl) (fun w' hw' => (Y_not (p := r_12) rfl rfl)) ?_
          refine ra_done (by kernel_rfl) ?_
          refine cw_cond (b := (!r_12)) rfl (fun hb2 => ?_) (fun hb2 => ?_)
          · skip
            have hF5 := ct hF4 hb2
            refine cw_seq ?_
            refine cw_region ?_
            refine sq 6 rfl rfl (Y_assign (v := .bool false) rfl rfl) ?_
            refine rw_nil ?_
            refine cw_ret ?_
            obtain rfl := some_inj hF5
            exact ret1 Try.results5 (v1 := .bool false) (resAt_tmp rfl) ⟨rfl, (ST.subR (R' := []) (hS49.sel [] rfl rfl) (fun _ h => by cases h))⟩
          · skip
            have hF6 := cf' hF4 hb2
            refine cw_skip ?_
            refine cw_seq ?_
            refine cw_region ?_
            refine sq 13 rfl rfl (Y_assign (v := .int .i64 1) rfl rfl) ?_
            refine rw_nil ?_
            refine cw_seq ?_
            refine cw_region ?_
            refine sq 56 rfl rfl (Y_loadA (B := some ⟨b3, 0, none⟩) (i := 0) (cs := [.int .i64 r_6.Ins, .int .i64 r_6.Vars, .int .i64 r_6.Root, .int .i64 r_6.Phase, .slice B9 r_6.Terms.length c8, .slice B10 r_6.Out.length c9]) (vs := [.int .i64 r_6.Ins, .int .i64 r_6.Vars, .int .i64 r_6.Root, .int .i64 r_6.Phase, .slice B9 r_6.Terms.length c8, .slice B10 r_6.Out.length c9]) k_ag_57 k_sz_57_6 rfl (hf1.get 10 5 rfl) (hS49.cf (i := 5) rfl) rfl rfl) ?_
            refine sq 57 rfl rfl (Y_move (v := .int .i64 1) rfl rfl) ?_
            obtain ⟨⟨r_13, m, m1⟩, hc10, hF6⟩ := bind_inv hF6
            refine sc 58 rfl rfl (Yc_func (g := 26) (vs := [.agg #[.int .i64 r_6.Ins, .int .i64 r_6.Vars, .int .i64 r_6.Root, .int .i64 r_6.Phase, .slice B9 r_6.Terms.length c8, .slice B10 r_6.Out.length c9], .int .i64 1]) k_call_26 rfl (mc rfl (mc rfl mn)) (c_laws_markPathSum r_6 1 B9 c8 r_6.Terms.length B10 c9 r_6.Out.length _ rfl rfl (hS49.inn [false, false, false, false, false, false, true, true, false, false, false, false, false] rfl [] rfl) hc10)) ?_
            rintro _ w_37 ⟨rfl, hl, hl1, hd19⟩
            have hS50 := hS49.out [false, false, false, false, false, false, true, true, false, false, false, false, false] rfl hd19
            have hS50 : ST w0 [] _ [⟨some ⟨b, 0, none⟩, 50, [.int .i64 aP.Ins, .int .i64 aP.Vars, .int .i64 aP.Root, .int .i64 aP.Phase, .slice B aP.Terms.length c, .slice B1 aP.Out.length c1], 6⟩, ⟨some ⟨b1, 0, none⟩, 52, [.int .i64 aBy.Mask, .int .i64 aBy.Turn], 2⟩, ⟨B6, 57, [.int .i64 r_4.Ins, .int .i64 r_4.Vars, .int .i64 r_4.Root, .int .i64 r_4.Phase, .slice B7 r_4.Terms.length c6, .slice B8 r_4.Out.length c7], 6⟩, ⟨B7, 136, (r_4.Terms.flatMap enc_Term), c6 * 2⟩, ⟨B8, 61, (r_4.Out.flatMap enc_Affine), c7 * 2⟩, ⟨some ⟨b3, 0, none⟩, 57, [.int .i64 r_6.Ins, .int .i64 r_6.Vars, .int .i64 r_6.Root, .int .i64 r_6.Phase, .slice B9 r_6.Terms.length c8, .slice B10 r_6.Out.length c9], 6⟩, ⟨B13, 57, [.int .i64 r_8.Ins, .int .i64 r_8.Vars, .int .i64 r_8.Root, .int .i64 r_8.Phase, .slice B14 r_8.Terms.length c12, .slice B15 r_8.Out.length c13], 6⟩, ⟨B14, 136, (r_8.Terms.flatMap enc_Term), c12 * 2⟩, ⟨B15, 61, (r_8.Out.flatMap enc_Affine), c13 * 2⟩, ⟨B16, 136, (r_11.Terms.flatMap enc_Term), c14 * 2⟩, ⟨B17, 61, (r_11.Out.flatMap enc_Affine), c15 * 2⟩, ⟨B9, 136, (m.flatMap enc_Term), c8 * 2⟩, ⟨B10, 61, (m1.flatMap enc_Affine), c9 * 2⟩] [⟨B, (aP.Terms.flatMap enc_Term)⟩, ⟨B1, (aP.Out.flatMap enc_Affine)⟩] := hS50
            refine sq 13 rfl rfl (Y_assign (v := .int .i64 r_13) rfl rfl) ?_
            refine rw_nil ?_
            refine cw_seq ?_
            refine cw_seq ?_
            refine cw_region ?_
            refine sq 59 rfl rfl (Y_move (v := .int .i64 r_13) rfl rfl) ?_
            refine sq 60 rfl rfl (Y_lt (k := .i64) (a := r_13) (b := 0) rfl rfl rfl) ?_
            refine sq 61 rfl rfl (Y_move (v := .bool (decide (r_13 < 0))) rfl rfl) ?_
            refine sgq 62 (B := (!(decide (r_13 < 0)))) (v := .agg #[.int .i64 r_8.Ins, .int .i64 r_8.Vars, .int .i64 r_8.Root, .int .i64 r_8.Phase, .slice B14 r_8.Terms.length c12, .slice B15 r_8.Out.length c13]) rfl rfl (wt_f (gd_of (t := 61) (by kernel_rfl) rfl)) (fun hg3 => (Y_loadA (B := B13) (i := 0) (cs := [.int .i64 r_8.Ins, .int .i64 r_8.Vars, .int .i64 r_8.Root, .int .i64 r_8.Phase, .slice B14 r_8.Terms.length c12, .slice B15 r_8.Out.length c13]) (vs := [.int .i64 r_8.Ins, .int .i64 r_8.Vars, .int .i64 r_8.Root, .int .i64 r_8.Phase, .slice B14 r_8.Terms.length c12, .slice B15 r_8.Out.length c13]) k_ag_57 k_sz_57_6 rfl (hf1.get 11 6 rfl) (hS50.cf (i := 6) rfl) rfl rfl)) ?_
            refine sgq 63 (B := (!(decide (r_13 < 0)))) (v := .agg #[.int .i64 r_4.Ins, .int .i64 r_4.Vars, .int .i64 r_4.Root, .int .i64 r_4.Phase, .slice B7 r_4.Terms.length c6, .slice B8 r_4.Out.length c7]) rfl rfl (wt_f (gd_of (t := 61) (by kernel_rfl) rfl)) (fun hg4 => (Y_loadA (B := B6) (i := 0) (cs := [.int .i64 r_4.Ins, .int .i64 r_4.Vars, .int .i64 r_4.Root, .int .i64 r_4.Phase, .slice B7 r_4.Terms.length c6, .slice B8 r_4.Out.length c7]) (vs := [.int .i64 r_4.Ins, .int .i64 r_4.Vars, .int .i64 r_4.Root, .int .i64 r_4.Phase, .slice B7 r_4.Terms.length c6, .slice B8 r_4.Out.length c7]) k_ag_57 k_sz_57_6 rfl (hf1.get 8 3 rfl) (hS50.cf (i := 2) rfl) rfl rfl)) ?_
            obtain ⟨r_14, hc11, hF6⟩ := bind_inv hF6
            refine sgc 64 (B := (!(decide (r_13 < 0)))) (v := .bool r_14) (F := hS50.fn) rfl rfl (wt_f (gd_of (t := 61) (by kernel_rfl) rfl)) hS50 (fun hg5 => (Yc_func (g := 25) (vs := [.agg #[.int .i64 r_8.Ins, .int .i64 r_8.Vars, .int .i64 r_8.Root, .int .i64 r_8.Phase, .slice B14 r_8.Terms.length c12, .slice B15 r_8.Out.length c13], .agg #[.int .i64 r_4.Ins, .int .i64 r_4.Vars, .int .i64 r_4.Root, .int .i64 r_4.Phase, .slice B7 r_4.Terms.length c6, .slice B8 r_4.Out.length c7]]) k_call_25 rfl (mc (gv_of (B := (!(decide (r_13 < 0)))) (v := .agg #[.int .i64 r_8.Ins, .int .i64 r_8.Vars, .int .i64 r_8.Root, .int .i64 r_8.Phase, .slice B14 r_8.Terms.length c12, .slice B15 r_8.Out.length c13]) hg5) (mc (gv_of (B := (!(decide (r_13 < 0)))) (v := .agg #[.int .i64 r_4.Ins, .int .i64 r_4.Vars, .int .i64 r_4.Root, .int .i64 r_4.Phase, .slice B7 r_4.Terms.length c6, .slice B8 r_4.Out.length c7]) hg5) mn)) (CV.mono (c_laws_eqPathSum r_8 r_4 B14 c12 r_8.Terms.length B15 c13 r_8.Out.length B7 c6 r_4.Terms.length B8 c7 r_4.Out.length _ rfl rfl rfl rfl (hS50.inn0 [(false, 7), (false, 8), (false, 3), (false, 4)] rfl) (gb_inv hc11 hg5)) (by rintro _ _ ⟨rfl, h⟩; exact ⟨rfl, hS50.out00 h⟩)))) ?_
            rintro w_38 hS51
            have hS51 : ST _ _ w_38 _ _ := hS51
            refine sgq 65 (B := (!(decide (r_13 < 0)))) (v := .bool (!r_14)) rfl rfl (wt_f (gd_of (t := 61) (by kernel_rfl) rfl)) (fun hg6 => (Y_not (p := r_14) rfl (gv_of (B := (!(decide (r_13 < 0)))) (v := .bool r_14) hg6))) ?_
            refine sq 66 rfl rfl (Y_or (b := (decide (r_13 < 0))) (z := (!r_14)) rfl rfl rfl rfl) ?_
            refine sq 67 rfl rfl (Y_move (v := .bool ((decide (r_13 < 0)) || (!r_14))) rfl rfl) ?_
            refine sgq 68 (B := (!((decide (r_13 < 0)) || (!r_14)))) (v := .bool r_9) rfl rfl (wt_f (gd_of (t := 67) (by kernel_rfl) rfl)) (fun hg7 => (Y_move (v := .bool r_9) rfl (hf1.get 12 7 rfl))) ?_
            refine sgq 69 (B := (!((decide (r_13 < 0)) || (!r_14)))) (v := .bool r_5) rfl rfl (wt_f (gd_of (t := 67) (by kernel_rfl) rfl)) (fun hg8 => (Y_move (v := .bool r_5) rfl (hf1.get 9 4 rfl))) ?_
            refine sgq 70 (B := (!((decide (r_13 < 0)) || (!r_14)))) (v := .bool (!(r_9 == r_5))) rfl rfl (wt_f (gd_of (t := 67) (by kernel_rfl) rfl)) (fun hg9 => (Y_bne (p := r_9) (q := r_5) k_und_4 rfl (gv_of (B := (!((decide (r_13 < 0)) || (!r_14)))) (v := .bool r_9) hg9) (gv_of (B := (!((decide (r_13 < 0)) || (!r_14)))) (v := .bool r_5) hg9))) ?_
            refine sq 71 rfl rfl (Y_or (b := ((decide (r_13 < 0)) || (!r_14))) (z := (!(r_9 == r_5))) rfl rfl rfl rfl) ?_
            refine rw_nil ?_
            refine cw_cond (b := (((decide (r_13 < 0)) || (!r_14)) || (!(r_9 == r_5)))) rfl (fun hb3 => ?_) (fun hb3 => ?_)
            · skip
              have hF7 := ct hF6 hb3
              refine cw_seq ?_
              refine cw_region ?_
              refine sq 6 rfl rfl (Y_assign (v := .bool false) rfl rfl) ?_
              refine rw_nil ?_
              refine cw_ret ?_
              obtain rfl := some_inj hF7
              exact ret1 Try.results5 (v1 := .bool false) (resAt_tmp rfl) ⟨rfl, (ST.subR (R' := []) (hS51.sel [] rfl rfl) (fun _ h => by cases h))⟩
            · skip
              have hF8 := cf' hF6 hb3
              refine cw_skip ?_
              refine cw_seq ?_
              refine cw_region ?_
              refine sq 14 rfl rfl (Y_assign (v := .int .i64 1) rfl rfl) ?_
              refine rw_nil ?_
              refine cw_seq ?_
              refine cw_region ?_
              refine sq 72 rfl rfl (Y_loadA (B := B13) (i := 0) (cs := [.int .i64 r_8.Ins, .int .i64 r_8.Vars, .int .i64 r_8.Root, .int .i64 r_8.Phase, .slice B14 r_8.Terms.length c12, .slice B15 r_8.Out.length c13]) (vs := [.int .i64 r_8.Ins, .int .i64 r_8.Vars, .int .i64 r_8.Root, .int .i64 r_8.Phase, .slice B14 r_8.Terms.length c12, .slice B15 r_8.Out.length c13]) k_ag_57 k_sz_57_6 rfl (hf1.get 11 6 rfl) (hS51.cf (i := 6) rfl) rfl rfl) ?_
              refine sq 73 rfl rfl (Y_move (v := .int .i64 1) rfl rfl) ?_
              obtain ⟨⟨r_15, m2, m3⟩, hc12, hF8⟩ := bind_inv hF8
              refine sc 74 rfl rfl (Yc_func (g := 26) (vs := [.agg #[.int .i64 r_8.Ins, .int .i64 r_8.Vars, .int .i64 r_8.Root, .int .i64 r_8.Phase, .slice B14 r_8.Terms.length c12, .slice B15 r_8.Out.length c13], .int .i64 1]) k_call_26 rfl (mc rfl (mc rfl mn)) (c_laws_markPathSum r_8 1 B14 c12 r_8.Terms.length B15 c13 r_8.Out.length _ rfl rfl (hS51.inn [false, false, false, false, false, false, false, true, true, false, false, false, false] rfl [] rfl) hc12)) ?_
              rintro _ w_39 ⟨rfl, hl2, hl3, hd20⟩
              have hS52 := hS51.out [false, false, false, false, false, false, false, true, true, false, false, false, false] rfl hd20
              have hS52 : ST w0 [] _ [⟨some ⟨b, 0, none⟩, 50, [.int .i64 aP.Ins, .int .i64 aP.Vars, .int .i64 aP.Root, .int .i64 aP.Phase, .slice B aP.Terms.length c, .slice B1 aP.Out.length c1], 6⟩, ⟨some ⟨b1, 0, none⟩, 52, [.int .i64 aBy.Mask, .int .i64 aBy.Turn], 2⟩, ⟨B6, 57, [.int .i64 r_4.Ins, .int .i64 r_4.Vars, .int .i64 r_4.Root, .int .i64 r_4.Phase, .slice B7 r_4.Terms.length c6, .slice B8 r_4.Out.length c7], 6⟩, ⟨B7, 136, (r_4.Terms.flatMap enc_Term), c6 * 2⟩, ⟨B8, 61, (r_4.Out.flatMap enc_Affine), c7 * 2⟩, ⟨some ⟨b3, 0, none⟩, 57, [.int .i64 r_6.Ins, .int .i64 r_6.Vars, .int .i64 r_6.Root, .int .i64 r_6.Phase, .slice B9 r_6.Terms.length c8, .slice B10 r_6.Out.length c9], 6⟩, ⟨B13, 57, [.int .i64 r_8.Ins, .int .i64 r_8.Vars, .int .i64 r_8.Root, .int .i64 r_8.Phase, .slice B14 r_8.Terms.length c12, .slice B15 r_8.Out.length c13], 6⟩, ⟨B16, 136, (r_11.Terms.flatMap enc_Term), c14 * 2⟩, ⟨B17, 61, (r_11.Out.flatMap enc_Affine), c15 * 2⟩, ⟨B9, 136, (m.flatMap enc_Term), c8 * 2⟩, ⟨B10, 61, (m1.flatMap enc_Affine), c9 * 2⟩, ⟨B14, 136, (m2.flatMap enc_Term), c12 * 2⟩, ⟨B15, 61, (m3.flatMap enc_Affine), c13 * 2⟩] [⟨B, (aP.Terms.flatMap enc_Term)⟩, ⟨B1, (aP.Out.flatMap enc_Affine)⟩] := hS52
              refine sq 14 rfl rfl (Y_assign (v := .int .i64 r_15) rfl rfl) ?_
              refine rw_nil ?_
              refine cw_seq ?_
              refine cw_region ?_
              refine sq 15 rfl rfl (Y_assign (v := .int .i64 1) rfl rfl) ?_
              refine rw_nil ?_
              refine cw_seq ?_
              refine cw_region ?_
              refine sq 75 rfl rfl (Y_loadA (B := B13) (i := 0) (cs := [.int .i64 r_8.Ins, .int .i64 r_8.Vars, .int .i64 r_8.Root, .int .i64 r_8.Phase, .slice B14 r_8.Terms.length c12, .slice B15 r_8.Out.length c13]) (vs := [.int .i64 r_8.Ins, .int .i64 r_8.Vars, .int .i64 r_8.Root, .int .i64 r_8.Phase, .slice B14 r_8.Terms.length c12, .slice B15 r_8.Out.length c13]) k_ag_57 k_sz_57_6 rfl (hf1.get 11 6 rfl) (hS52.cf (i := 6) rfl) rfl rfl) ?_
              refine sq 76 rfl rfl (Y_move (v := .int .i64 1) rfl rfl) ?_
              obtain ⟨r_16, hc13, hF8⟩ := bind_inv hF8
              refine sc 77 rfl rfl (Yc_func (g := 27) (vs := [.agg #[.int .i64 r_8.Ins, .int .i64 r_8.Vars, .int .i64 r_8.Root, .int .i64 r_8.Phase, .slice B14 r_8.Terms.length c12, .slice B15 r_8.Out.length c13], .int .i64 1]) k_call_27 rfl (mc rfl (mc rfl mn)) (c_laws_heldPathSum (TPathSum.mk r_8.Ins r_8.Vars r_8.Root r_8.Phase m2 m3) 1 B14 c12 r_8.Terms.length B15 c13 r_8.Out.length _ hl2 hl3 (hS52.inn0 [(false, 11), (false, 12)] rfl) hc13)) ?_
              rintro _ w_40 ⟨rfl, hd21⟩
              have hS53 := hS52.out00 hd21
              have hS53 : ST w0 [] _ [⟨some ⟨b, 0, none⟩, 50, [.int .i64 aP.Ins, .int .i64 aP.Vars, .int .i64 aP.Root, .int .i64 aP.Phase, .slice B aP.Terms.length c, .slice B1 aP.Out.length c1], 6⟩, ⟨some ⟨b1, 0, none⟩, 52, [.int .i64 aBy.Mask, .int .i64 aBy.Turn], 2⟩, ⟨B6, 57, [.int .i64 r_4.Ins, .int .i64 r_4.Vars, .int .i64 r_4.Root, .int .i64 r_4.Phase, .slice B7 r_4.Terms.length c6, .slice B8 r_4.Out.length c7], 6⟩, ⟨B7, 136, (r_4.Terms.flatMap enc_Term), c6 * 2⟩, ⟨B8, 61, (r_4.Out.flatMap enc_Affine), c7 * 2⟩, ⟨some ⟨b3, 0, none⟩, 57, [.int .i64 r_6.Ins, .int .i64 r_6.Vars, .int .i64 r_6.Root, .int .i64 r_6.Phase, .slice B9 r_6.Terms.length c8, .slice B10 r_6.Out.length c9], 6⟩, ⟨B13, 57, [.int .i64 r_8.Ins, .int .i64 r_8.Vars, .int .i64 r_8.Root, .int .i64 r_8.Phase, .slice B14 r_8.Terms.length c12, .slice B15 r_8.Out.length c13], 6⟩, ⟨B16, 136, (r_11.Terms.flatMap enc_Term), c14 * 2⟩, ⟨B17, 61, (r_11.Out.flatMap enc_Affine), c15 * 2⟩, ⟨B9, 136, (m.flatMap enc_Term), c8 * 2⟩, ⟨B10, 61, (m1.flatMap enc_Affine), c9 * 2⟩, ⟨B14, 136, (m2.flatMap enc_Term), c12 * 2⟩, ⟨B15, 61, (m3.flatMap enc_Affine), c13 * 2⟩] [⟨B, (aP.Terms.flatMap enc_Term)⟩, ⟨B1, (aP.Out.flatMap enc_Affine)⟩] := hS53
              refine sq 15 rfl rfl (Y_assign (v := .int .i64 r_16) rfl rfl) ?_
              refine rw_nil ?_
              refine cw_seq ?_
              refine cw_seq ?_
              refine cw_region ?_
              refine sq 78 rfl rfl (Y_move (v := .int .i64 r_16) rfl rfl) ?_
              refine sq 79 rfl rfl (Y_lt (k := .i64) (a := r_16) (b := 0) rfl rfl rfl) ?_
              refine rw_nil ?_
              refine cw_cond (b := (decide (r_16 < 0))) rfl (fun hb4 => ?_) (fun hb4 => ?_)
              · skip
                have hF9 := ct hF8 hb4
                refine cw_seq ?_
                refine cw_region ?_
                refine sq 6 rfl rfl (Y_assign (v := .bool false) rfl rfl) ?_
                refine rw_nil ?_
                refine cw_ret ?_
                obtain rfl := some_inj hF9
                exact ret1 Try.results5 (v1 := .bool false) (resAt_tmp rfl) ⟨rfl, (ST.subR (R' := []) (hS53.sel [] rfl rfl) (fun _ h => by cases h))⟩
              · skip
                have hF10 := cf' hF8 hb4
                refine cw_skip ?_
                refine cw_seq ?_
                refine cw_seq ?_
                refine cw_region ?_
                refine sq 80 rfl rfl (Y_move (v := .int .i64 r_16) rfl rfl) ?_
                refine sq 81 rfl rfl (Y_move (v := .int .i64 r_15) rfl rfl) ?_
                refine sq 82 rfl rfl (Y_ne (k := .i64) (a := r_16) (b := r_15) rfl rfl rfl) ?_
                refine rw_nil ?_
                refine cw_cond (b := (r_16 != r_15)) rfl (fun hb5 => ?_) (fun hb5 => ?_)
                · skip
                  have hF11 := ct hF10 hb5
                  refine cw_seq ?_
                  refine cw_region ?_
                  refine sq 6 rfl rfl (Y_assign (v := .bool false) rfl rfl) ?_
                  refine rw_nil ?_
                  refine cw_ret ?_
                  obtain rfl := some_inj hF11
                  exact ret1 Try.results5 (v1 := .bool false) (resAt_tmp rfl) ⟨rfl, (ST.subR (R' := []) (hS53.sel [] rfl rfl) (fun _ h => by cases h))⟩
                · skip
                  have hF12 := cf' hF10 hb5
                  refine cw_skip ?_
                  refine cw_seq ?_
                  obtain ⟨r_17, hc14, hF12⟩ := bind_inv hF12
                  obtain ⟨r_18, hc15, hF12⟩ := bind_inv hF12
                  obtain ⟨⟨r_19, r_20⟩, hc16, hF12⟩ := bind_inv hF12
                  refine cw_mid (fun f w => ∃ (B22 : Option Addr) (B23 : Option Addr) (c20 : Nat) (B24 : Option Addr) (c21 : Nat), FF f [(8, pt B6 0), (9, .bool r_5), (11, pt B13 0), (14, .int .i64 r_15), (16, pt B22 0), (17, .bool r_20)] ∧ ST w0 [] w [⟨B6, 57, [.int .i64 r_4.Ins, .int .i64 r_4.Vars, .int .i64 r_4.Root, .int .i64 r_4.Phase, .slice B7 r_4.Terms.length c6, .slice B8 r_4.Out.length c7], 6⟩, ⟨B7, 136, (r_4.Terms.flatMap enc_Term), c6 * 2⟩, ⟨B8, 61, (r_4.Out.flatMap enc_Affine), c7 * 2⟩, ⟨B13, 57, [.int .i64 r_8.Ins, .int .i64 r_8.Vars, .int .i64 r_8.Root, .int .i64 r_8.Phase, .slice B14 r_8.Terms.length c12, .slice B15 r_8.Out.length c13], 6⟩, ⟨B14, 136, (m2.flatMap enc_Term), c12 * 2⟩, ⟨B15, 61, (m3.flatMap enc_Affine), c13 * 2⟩, ⟨B22, 57, [.int .i64 r_19.Ins, .int .i64 r_19.Vars, .int .i64 r_19.Root, .int .i64 r_19.Phase, .slice B23 r_19.Terms.length c20, .slice B24 r_19.Out.length c21], 6⟩, ⟨B23, 136, (r_19.Terms.flatMap enc_Term), c20 * 2⟩, ⟨B24, 61, (r_19.Out.flatMap enc_Affine), c21 * 2⟩] [⟨B, (aP.Terms.flatMap enc_Term)⟩, ⟨B1, (aP.Out.flatMap enc_Affine)⟩]) ?_ ?_
                  · skip
                    refine ra_start (ST.sel hS53 [0, 1, 2, 3, 4, 5, 6, 7, 8, 9, 10, 11, 12] rfl rfl).fn (by kernel_rfl) ?_
                    have hS58 := hS53.drew
                    refine ra_q 0 84 (v := .agg #[.int .i64 aP.Ins, .int .i64 aP.Vars, .int .i64 aP.Root, .int .i64 aP.Phase, .slice B aP.Terms.length c, .slice B1 aP.Out.length c1]) rfl rfl rfl (by kernel_rfl) (by kernel_rfl) (by kernel_rfl) (ST.sel hS58 [0, 1, 2, 3, 4, 5, 6, 7, 8, 9, 10, 11, 12] rfl rfl) (fun w' hw' => (Y_loadA (B := some ⟨b, 0, none⟩) (i := 0) (cs := [.int .i64 aP.Ins, .int .i64 aP.Vars, .int .i64 aP.Root, .int .i64 aP.Phase, .slice B aP.Terms.length c, .slice B1 aP.Out.length c1]) (vs := [.int .i64 aP.Ins, .int .i64 aP.Vars, .int .i64 aP.Root, .int .i64 aP.Phase, .slice B aP.Terms.length c, .slice B1 aP.Out.length c1]) k_ag_50 k_sz_50_6 rfl (hf1.get 3 1 rfl) (ST.cf hw' (i := 0) rfl) rfl rfl)) ?_
                    refine ra_q 2 86 (v := .int .i64 aV) rfl rfl rfl (by kernel_rfl) (by kernel_rfl) (by kernel_rfl) (ST.sel hS58 [0, 1, 2, 3, 4, 5, 6, 7, 8, 9, 10, 11, 12] rfl rfl) (fun w' hw' => (Y_move (v := .int .i64 aV) rfl (hf1.get 1 0 rfl))) ?_
                    refine ra_q 3 87 (v := .agg #[.int .i64 aBy.Mask, .int .i64 aBy.Turn]) rfl rfl rfl (by kernel_rfl) (by kernel_rfl) (by kernel_rfl) (ST.sel hS58 [0, 1, 2, 3, 4, 5, 6, 7, 8, 9, 10, 11, 12] rfl rfl) (fun w' hw' => (Y_loadA (B := some ⟨b1, 0, none⟩) (i := 0) (cs := [.int .i64 aBy.Mask, .int .i64 aBy.Turn]) (vs := [.int .i64 aBy.Mask, .int .i64 aBy.Turn]) k_ag_52 k_sz_52_2 rfl (hf1.get 5 2 rfl) (ST.cf hw' (i := 1) rfl) rfl rfl)) ?_
                    refine ra_all (rs := [1, 9]) (by kernel_rfl) rfl ?_
                    refine ra_c 85 (i := 1) rfl rfl rfl (Yc_func (g := 22) (vs := [.agg #[.int .i64 aP.Ins, .int .i64 aP.Vars, .int .i64 aP.Root, .int .i64 aP.Phase, .slice B aP.Terms.length c, .slice B1 aP.Out.length c1]]) k_call_22 rfl (mc rfl mn) (c_laws_toPathSum aP B c aP.Terms.length B1 c1 aP.Out.length _ rfl rfl (hS58.inn0 [(true, 0), (true, 1)] rfl) hc14)) ?_ ?_
                    · rintro _ w_41 ⟨B18, c16, B19, c17, rfl, hd22⟩
                      have hS59 := hS58.out0 hd22
                      have hS59 : ST w0 [] _ [⟨some ⟨b, 0, none⟩, 50, [.int .i64 aP.Ins, .int .i64 aP.Vars, .int .i64 aP.Root, .int .i64 aP.Phase, .slice B aP.Terms.length c, .slice B1 aP.Out.length c1], 6⟩, ⟨some ⟨b1, 0, none⟩, 52, [.int .i64 aBy.Mask, .int .i64 aBy.Turn], 2⟩, ⟨B6, 57, [.int .i64 r_4.Ins, .int .i64 r_4.Vars, .int .i64 r_4.Root, .int .i64 r_4.Phase, .slice B7 r_4.Terms.length c6, .slice B8 r_4.Out.length c7], 6⟩, ⟨B7, 136, (r_4.Terms.flatMap enc_Term), c6 * 2⟩, ⟨B8, 61, (r_4.Out.flatMap enc_Affine), c7 * 2⟩, ⟨some ⟨b3, 0, none⟩, 57, [.int .i64 r_6.Ins, .int .i64 r_6.Vars, .int .i64 r_6.Root, .int .i64 r_6.Phase, .slice B9 r_6.Terms.length c8, .slice B10 r_6.Out.length c9], 6⟩, ⟨B13, 57, [.int .i64 r_8.Ins, .int .i64 r_8.Vars, .int .i64 r_8.Root, .int .i64 r_8.Phase, .slice B14 r_8.Terms.length c12, .slice B15 r_8.Out.length c13], 6⟩, ⟨B16, 136, (r_11.Terms.flatMap enc_Term), c14 * 2⟩, ⟨B17, 61, (r_11.Out.flatMap enc_Affine), c15 * 2⟩, ⟨B9, 136, (m.flatMap enc_Term), c8 * 2⟩, ⟨B10, 61, (m1.flatMap enc_Affine), c9 * 2⟩, ⟨B14, 136, (m2.flatMap enc_Term), c12 * 2⟩, ⟨B15, 61, (m3.flatMap enc_Affine), c13 * 2⟩, ⟨B18, 136, (r_17.Terms.flatMap enc_Term), c16 * 2⟩, ⟨B19, 61, (r_17.Out.flatMap enc_Affine), c17 * 2⟩] [⟨B, (aP.Terms.flatMap enc_Term)⟩, ⟨B1, (aP.Out.flatMap enc_Affine)⟩] := hS59
                      refine ⟨(ST.sel hS59 [0, 1, 2, 3, 4, 5, 6, 7, 8, 9, 10, 11, 12] rfl rfl), ?_⟩
                      refine ra_all (rs := [4, 9]) (by kernel_rfl) rfl ?_
                      refine ra_c 88 (i := 4) rfl rfl rfl (Yc_func (g := 23) (vs := [.agg #[.int .i64 aBy.Mask, .int .i64 aBy.Turn]]) k_call_23 rfl (mc rfl mn) (c_laws_toAffine aBy _  (hS59.inn0 [] rfl) hc15)) ?_ ?_
                      · rintro _ w_42 ⟨rfl, hd23⟩
                        have hS60 := hS59.out00 hd23
                        have hS60 : ST w0 [] _ [⟨some ⟨b, 0, none⟩, 50, [.int .i64 aP.Ins, .int .i64 aP.Vars, .int .i64 aP.Root, .int .i64 aP.Phase, .slice B aP.Terms.length c, .slice B1 aP.Out.length c1], 6⟩, ⟨some ⟨b1, 0, none⟩, 52, [.int .i64 aBy.Mask, .int .i64 aBy.Turn], 2⟩, ⟨B6, 57, [.int .i64 r_4.Ins, .int .i64 r_4.Vars, .int .i64 r_4.Root, .int .i64 r_4.Phase, .slice B7 r_4.Terms.length c6, .slice B8 r_4.Out.length c7], 6⟩, ⟨B7, 136, (r_4.Terms.flatMap enc_Term), c6 * 2⟩, ⟨B8, 61, (r_4.Out.flatMap enc_Affine), c7 * 2⟩, ⟨some ⟨b3, 0, none⟩, 57, [.int .i64 r_6.Ins, .int .i64 r_6.Vars, .int .i64 r_6.Root, .int .i64 r_6.Phase, .slice B9 r_6.Terms.length c8, .slice B10 r_6.Out.length c9], 6⟩, ⟨B13, 57, [.int .i64 r_8.Ins, .int .i64 r_8.Vars, .int .i64 r_8.Root, .int .i64 r_8.Phase, .slice B14 r_8.Terms.length c12, .slice B15 r_8.Out.length c13], 6⟩, ⟨B16, 136, (r_11.Terms.flatMap enc_Term), c14 * 2⟩, ⟨B17, 61, (r_11.Out.flatMap enc_Affine), c15 * 2⟩, ⟨B9, 136, (m.flatMap enc_Term), c8 * 2⟩, ⟨B10, 61, (m1.flatMap enc_Affine), c9 * 2⟩, ⟨B14, 136, (m2.flatMap enc_Term), c12 * 2⟩, ⟨B15, 61, (m3.flatMap enc_Affine), c13 * 2⟩, ⟨B18, 136, (r_17.Terms.flatMap enc_Term), c16 * 2⟩, ⟨B19, 61, (r_17.Out.flatMap enc_Affine), c17 * 2⟩] [⟨B, (aP.Terms.flatMap enc_Term)⟩, ⟨B1, (aP.Out.flatMap enc_Affine)⟩] := hS60
                        refine ⟨(ST.sel hS60 [0, 1, 2, 3, 4, 5, 6, 7, 8, 9, 10, 11, 12] rfl rfl), ?_⟩
                        refine ra_all (rs := [5, 9]) (by kernel_rfl) rfl ?_
                        refine ra_c 89 (i := 5) rfl rfl rfl (Yc_func (g := 24) (vs := [.agg #[.int .i64 r_17.Ins, .int .i64 r_17.Vars, .int .i64 r_17.Root, .int .i64 r_17.Phase, .slice B18 r_17.Terms.length c16, .slice B19 r_17.Out.length c17], .int .i64 aV, .agg #[.int .i64 r_18.Mask, .int .i64 r_18.Turn]]) k_call_24 rfl (mc rfl (mc rfl (mc rfl mn))) (c_impl_SubstituteVar r_17 aV r_18 B18 c16 r_17.Terms.length B19 c17 r_17.Out.length _ rfl rfl (hS60.inn0 [(false, 13), (false, 14)] rfl) hc16)) ?_ ?_
                        · rintro _ w_43 ⟨B20, c18, B21, c19, rfl, hd24⟩
                          have hS61 := hS60.out0 hd24
                          have hS61 : ST w0 [] _ [⟨some ⟨b, 0, none⟩, 50, [.int .i64 aP.Ins, .int .i64 aP.Vars, .int .i64 aP.Root, .int .i64 aP.Phase, .slice B aP.Terms.length c, .slice B1 aP.Out.length c1], 6⟩, ⟨some ⟨b1, 0, none⟩, 52, [.int .i64 aBy.Mask, .int .i64 aBy.Turn], 2⟩, ⟨B6, 57, [.int .i64 r_4.Ins, .int .i64 r_4.Vars, .int .i64 r_4.Root, .int .i64 r_4.Phase, .slice B7 r_4.Terms.length c6, .slice B8 r_4.Out.length c7], 6⟩, ⟨B7, 136, (r_4.Terms.flatMap enc_Term), c6 * 2⟩, ⟨B8, 61, (r_4.Out.flatMap enc_Affine), c7 * 2⟩, ⟨some ⟨b3, 0, none⟩, 57, [.int .i64 r_6.Ins, .int .i64 r_6.Vars, .int .i64 r_6.Root, .int .i64 r_6.Phase, .slice B9 r_6.Terms.length c8, .slice B10 r_6.Out.length c9], 6⟩, ⟨B13, 57, [.int .i64 r_8.Ins, .int .i64 r_8.Vars, .int .i64 r_8.Root, .int .i64 r_8.Phase, .slice B14 r_8.Terms.length c12, .slice B15 r_8.Out.length c13], 6⟩, ⟨B16, 136, (r_11.Terms.flatMap enc_Term), c14 * 2⟩, ⟨B17, 61, (r_11.Out.flatMap enc_Affine), c15 * 2⟩, ⟨B9, 136, (m.flatMap enc_Term), c8 * 2⟩, ⟨B10, 61, (m1.flatMap enc_Affine), c9 * 2⟩, ⟨B14, 136, (m2.flatMap enc_Term), c12 * 2⟩, ⟨B15, 61, (m3.flatMap enc_Affine), c13 * 2⟩, ⟨B18, 136, (r_17.Terms.flatMap enc_Term), c16 * 2⟩, ⟨B19, 61, (r_17.Out.flatMap enc_Affine), c17 * 2⟩, ⟨B20, 136, (r_19.Terms.flatMap enc_Term), c18 * 2⟩, ⟨B21, 61, (r_19.Out.flatMap enc_Affine), c19 * 2⟩] [⟨B, (aP.Terms.flatMap enc_Term)⟩, ⟨B1, (aP.Out.flatMap enc_Affine)⟩] := hS61
                          refine ⟨(ST.sel hS61 [0, 1, 2, 3, 4, 5, 6, 7, 8, 9, 10, 11, 12] rfl rfl), ?_⟩
                          refine ra_q 6 83 (v := .tuple #[.agg #[.int .i64 r_19.Ins, .int .i64 r_19.Vars, .int .i64 r_19.Root, .int .i64 r_19.Phase, .slice B20 r_19.Terms.length c18, .slice B21 r_19.Out.length c19], .bool r_20]) rfl rfl rfl (by kernel_rfl) (by kernel_rfl) (by kernel_rfl) (ST.sel hS61 [0, 1, 2, 3, 4, 5, 6, 7, 8, 9, 10, 11, 12] rfl rfl) (fun w' hw' => (Y_move (v := .tuple #[.agg #[.int .i64 r_19.Ins, .int .i64 r_19.Vars, .int .i64 r_19.Root, .int .i64 r_19.Phase, .slice B20 r_19.Terms.length c18, .slice B21 r_19.Out.length c19], .bool r_20]) rfl rfl)) ?_
                          refine ra_q 7 90 (v := .agg #[.int .i64 r_19.Ins, .int .i64 r_19.Vars, .int .i64 r_19.Root, .int .i64 r_19.Phase, .slice B20 r_19.Terms.length c18, .slice B21 r_19.Out.length c19]) rfl rfl rfl (by kernel_rfl) (by kernel_rfl) (by kernel_rfl) (ST.sel hS61 [0, 1, 2, 3, 4, 5, 6, 7, 8, 9, 10, 11, 12] rfl rfl) (fun w' hw' => (Y_extract (v := .agg #[.int .i64 r_19.Ins, .int .i64 r_19.Vars, .int .i64 r_19.Root, .int .i64 r_19.Phase, .slice B20 r_19.Terms.length c18, .slice B21 r_19.Out.length c19]) rfl rfl rfl)) ?_
                          refine ra_q 8 91 (v := .bool r_20) rfl rfl rfl (by kernel_rfl) (by kernel_rfl) (by kernel_rfl) (ST.sel hS61 [0, 1, 2, 3, 4, 5, 6, 7, 8, 9, 10, 11, 12] rfl rfl) (fun w' hw' => (Y_extract (v := .bool r_20) rfl rfl rfl)) ?_
                          refine ra_all (rs := [9]) (by kernel_rfl) rfl ?_
                          refine ra_s 16 (i := 9) rfl rfl rfl (Ys_alloc (T := 57) (cs := [.int .i64 0, .int .i64 0, .int .i64 0, .int .i64 0, .slice none 0 0, .slice none 0 0]) (m := 6) hS61 k_zero_57 rfl rfl rfl) ?_ ?_
                          · rintro _ w_44 ⟨b5, rfl, hS62⟩
                            have hS62 : ST w0 [] _ [⟨some ⟨b, 0, none⟩, 50, [.int .i64 aP.Ins, .int .i64 aP.Vars, .int .i64 aP.Root, .int .i64 aP.Phase, .slice B aP.Terms.length c, .slice B1 aP.Out.length c1], 6⟩, ⟨some ⟨b1, 0, none⟩, 52, [.int .i64 aBy.Mask, .int .i64 aBy.Turn], 2⟩, ⟨B6, 57, [.int .i64 r_4.Ins, .int .i64 r_4.Vars, .int .i64 r_4.Root, .int .i64 r_4.Phase, .slice B7 r_4.Terms.length c6, .slice B8 r_4.Out.length c7], 6⟩, ⟨B7, 136, (r_4.Terms.flatMap enc_Term), c6 * 2⟩, ⟨B8, 61, (r_4.Out.flatMap enc_Affine), c7 * 2⟩, ⟨some ⟨b3, 0, none⟩, 57, [.int .i64 r_6.Ins, .int .i64 r_6.Vars, .int .i64 r_6.Root, .int .i64 r_6.Phase, .slice B9 r_6.Terms.length c8, .slice B10 r_6.Out.length c9], 6⟩, ⟨B13, 57, [.int .i64 r_8.Ins, .int .i64 r_8.Vars, .int .i64 r_8.Root, .int .i64 r_8.Phase, .slice B14 r_8.Terms.length c12, .slice B15 r_8.Out.length c13], 6⟩, ⟨B16, 136, (r_11.Terms.flatMap enc_Term), c14 * 2⟩, ⟨B17, 61, (r_11.Out.flatMap enc_Affine), c15 * 2⟩, ⟨B9, 136, (m.flatMap enc_Term), c8 * 2⟩, ⟨B10, 61, (m1.flatMap enc_Affine), c9 * 2⟩, ⟨B14, 136, (m2.flatMap enc_Term), c12 * 2⟩, ⟨B15, 61, (m3.flatMap enc_Affine), c13 * 2⟩, ⟨B18, 136, (r_17.Terms.flatMap enc_Term), c16 * 2⟩, ⟨B19, 61, (r_17.Out.flatMap enc_Affine), c17 * 2⟩, ⟨B20, 136, (r_19.Terms.flatMap enc_Term), c18 * 2⟩, ⟨B21, 61, (r_19.Out.flatMap enc_Affine), c19 * 2⟩, ⟨some ⟨b5, 0, none⟩, 57, [.int .i64 0, .int .i64 0, .int .i64 0, .int .i64 0, .slice none 0 0, .slice none 0 0], 6⟩] [⟨B, (aP.Terms.flatMap enc_Term)⟩, ⟨B1, (aP.Out.flatMap enc_Affine)⟩] := hS62
                            refine ⟨(ST.sel hS62 [0, 1, 2, 3, 4, 5, 6, 7, 8, 9, 10, 11, 12] rfl rfl), ?_⟩
                            refine ra_all (rs := [10]) (by kernel_rfl) rfl ?_
                            refine ra_s0 (i := 10) rfl rfl rfl (Ys_store (i := 17) (s := 6) (B := some ⟨b5, 0, none⟩) (T' := 57) (v := .agg #[.int .i64 r_19.Ins, .int .i64 r_19.Vars, .int .i64 r_19.Root, .int .i64 r_19.Phase, .slice B20 r_19.Terms.length c18, .slice B21 r_19.Out.length c19]) (vs := [.int .i64 r_19.Ins, .int .i64 r_19.Vars, .int .i64 r_19.Root, .int .i64 r_19.Phase, .slice B20 r_19.Terms.length c18, .slice B21 r_19.Out.length c19]) (k := 0) (cs' := [.int .i64 r_19.Ins, .int .i64 r_19.Vars, .int .i64 r_19.Root, .int .i64 r_19.Phase, .slice B20 r_19.Terms.length c18, .slice B21 r_19.Out.length c19]) hS62 k_sz_57_6 rfl rfl rfl rfl rfl rfl rfl (Nat.le_of_ble_eq_true rfl) rfl rfl) ?_ ?_
                            · rintro _ w_45 ⟨rfl, hS63⟩
                              have hS63 : ST w0 [] _ [⟨some ⟨b, 0, none⟩, 50, [.int .i64 aP.Ins, .int .i64 aP.Vars, .int .i64 aP.Root, .int .i64 aP.Phase, .slice B aP.Terms.length c, .slice B1 aP.Out.length c1], 6⟩, ⟨some ⟨b1, 0, none⟩, 52, [.int .i64 aBy.Mask, .int .i64 aBy.Turn], 2⟩, ⟨B6, 57, [.int .i64 r_4.Ins, .int .i64 r_4.Vars, .int .i64 r_4.Root, .int .i64 r_4.Phase, .slice B7 r_4.Terms.length c6, .slice B8 r_4.Out.length c7], 6⟩, ⟨B7, 136, (r_4.Terms.flatMap enc_Term), c6 * 2⟩, ⟨B8, 61, (r_4.Out.flatMap enc_Affine), c7 * 2⟩, ⟨some ⟨b3, 0, none⟩, 57, [.int .i64 r_6.Ins, .int .i64 r_6.Vars, .int .i64 r_6.Root, .int .i64 r_6.Phase, .slice B9 r_6.Terms.length c8, .slice B10 r_6.Out.length c9], 6⟩, ⟨B13, 57, [.int .i64 r_8.Ins, .int .i64 r_8.Vars, .int .i64 r_8.Root, .int .i64 r_8.Phase, .slice B14 r_8.Terms.length c12, .slice B15 r_8.Out.length c13], 6⟩, ⟨B16, 136, (r_11.Terms.flatMap enc_Term), c14 * 2⟩, ⟨B17, 61, (r_11.Out.flatMap enc_Affine), c15 * 2⟩, ⟨B9, 136, (m.flatMap enc_Term), c8 * 2⟩, ⟨B10, 61, (m1.flatMap enc_Affine), c9 * 2⟩, ⟨B14, 136, (m2.flatMap enc_Term), c12 * 2⟩, ⟨B15, 61, (m3.flatMap enc_Affine), c13 * 2⟩, ⟨B18, 136, (r_17.Terms.flatMap enc_Term), c16 * 2⟩, ⟨B19, 61, (r_17.Out.flatMap enc_Affine), c17 * 2⟩, ⟨B20, 136, (r_19.Terms.flatMap enc_Term), c18 * 2⟩, ⟨B21, 61, (r_19.Out.flatMap enc_Affine), c19 * 2⟩, ⟨some ⟨b5, 0, none⟩, 57, [.int .i64 r_19.Ins, .int .i64 r_19.Vars, .int .i64 r_19.Root, .int .i64 r_19.Phase, .slice B20 r_19.Terms.length c18, .slice B21 r_19.Out.length c19], 6⟩] [⟨B, (aP.Terms.flatMap enc_Term)⟩, ⟨B1, (aP.Out.flatMap enc_Affine)⟩] := hS63
                              refine ⟨(ST.sel hS63 [0, 1, 2, 3, 4, 5, 6, 7, 8, 9, 10, 11, 12] rfl rfl), ?_⟩
                              refine ra_q 11 17 (v := .bool r_20) rfl rfl rfl (by kernel_rfl) (by kernel_rfl) (by kernel_rfl) (ST.sel hS63 [0, 1, 2, 3, 4, 5, 6, 7, 8, 9, 10, 11, 12] rfl rfl) (fun w' hw' => (Y_assign (v := .bool r_20) rfl rfl)) ?_
                              refine ra_done (by kernel_rfl) ?_
                              exact ⟨some ⟨b5, 0, none⟩, B20, c18, B21, c19, (FF.cons (hf1.get 8 3 rfl) (FF.cons (hf1.get 9 4 rfl) (FF.cons (hf1.get 11 6 rfl) (FF.cons rfl (FF.cons rfl (FF.cons rfl FF.nil)))))), (hS63.sel [2, 3, 4, 6, 11, 12, 17, 15, 16] rfl rfl)⟩
                            exact allR_nil
                          exact allR_nil
                        refine ra_s 16 (i := 9) rfl rfl rfl (Ys_alloc (T := 57) (cs := [.int .i64 0, .int .i64 0, .int .i64 0, .int .i64 0, .slice none 0 0, .slice none 0 0]) (m := 6) hS60 k_zero_57 rfl rfl rfl) ?_ ?_
                        · rintro _ w_46 ⟨b5, rfl, hS64⟩
                          have hS64 : ST w0 [] _ [⟨some ⟨b, 0, none⟩, 50, [.int .i64 aP.Ins, .int .i64 aP.Vars, .int .i64 aP.Root, .int .i64 aP.Phase, .slice B aP.Terms.length c, .slice B1 aP.Out.length c1], 6⟩, ⟨some ⟨b1, 0, none⟩, 52, [.int .i64 aBy.Mask, .int .i64 aBy.Turn], 2⟩, ⟨B6, 57, [.int .i64 r_4.Ins, .int .i64 r_4.Vars, .int .i64 r_4.Root, .int .i64 r_4.Phase, .slice B7 r_4.Terms.length c6, .slice B8 r_4.Out.length c7], 6⟩, ⟨B7, 136, (r_4.Terms.flatMap enc_Term), c6 * 2⟩, ⟨B8, 61, (r_4.Out.flatMap enc_Affine), c7 * 2⟩, ⟨some ⟨b3, 0, none⟩, 57, [.int .i64 r_6.Ins, .int .i64 r_6.Vars, .int .i64 r_6.Root, .int .i64 r_6.Phase, .slice B9 r_6.Terms.length c8, .slice B10 r_6.Out.length c9], 6⟩, ⟨B13, 57, [.int .i64 r_8.Ins, .int .i64 r_8.Vars, .int .i64 r_8.Root, .int .i64 r_8.Phase, .slice B14 r_8.Terms.length c12, .slice B15 r_8.Out.length c13], 6⟩, ⟨B16, 136, (r_11.Terms.flatMap enc_Term), c14 * 2⟩, ⟨B17, 61, (r_11.Out.flatMap enc_Affine), c15 * 2⟩, ⟨B9, 136, (m.flatMap enc_Term), c8 * 2⟩, ⟨B10, 61, (m1.flatMap enc_Affine), c9 * 2⟩, ⟨B14, 136, (m2.flatMap enc_Term), c12 * 2⟩, ⟨B15, 61, (m3.flatMap enc_Affine), c13 * 2⟩, ⟨B18, 136, (r_17.Terms.flatMap enc_Term), c16 * 2⟩, ⟨B19, 61, (r_17.Out.flatMap enc_Affine), c17 * 2⟩, ⟨some ⟨b5, 0, none⟩, 57, [.int .i64 0, .int .i64 0, .int .i64 0, .int .i64 0, .slice none 0 0, .slice none 0 0], 6⟩] [⟨B, (aP.Terms.flatMap enc_Term)⟩, ⟨B1, (aP.Out.flatMap enc_Affine)⟩] := hS64
                          refine ⟨(ST.sel hS64 [0, 1, 2, 3, 4, 5, 6, 7, 8, 9, 10, 11, 12] rfl rfl), ?_⟩
                          refine ra_all (rs := [5]) (by kernel_rfl) rfl ?_
                          refine ra_c 89 (i := 5) rfl rfl rfl (Yc_func (g := 24) (vs := [.agg #[.int .i64 r_17.Ins, .int .i64 r_17.Vars, .int .i64 r_17.Root, .int .i64 r_17.Phase, .slice B18 r_17.Terms.length c16, .slice B19 r_17.Out.length c17], .int .i64 aV, .agg #[.int .i64 r_18.Mask, .int .i64 r_18.Turn]]) k_call_24 rfl (mc rfl (mc rfl (mc rfl mn))) (c_impl_SubstituteVar r_17 aV r_18 B18 c16 r_17.Terms.length B19 c17 r_17.Out.length _ rfl rfl (hS64.inn0 [(false, 13), (false, 14)] rfl) hc16)) ?_ ?_
                          · rintro _ w_47 ⟨B20, c18, B21, c19, rfl, hd25⟩
                            have hS65 := hS64.out0 hd25
                            have hS65 : ST w0 [] _ [⟨some ⟨b, 0, none⟩, 50, [.int .i64 aP.Ins, .int .i64 aP.Vars, .int .i64 aP.Root, .int .i64 aP.Phase, .slice B aP.Terms.length c, .slice B1 aP.Out.length c1], 6⟩, ⟨some ⟨b1, 0, none⟩, 52, [.int .i64 aBy.Mask, .int .i64 aBy.Turn], 2⟩, ⟨B6, 57, [.int .i64 r_4.Ins, .int .i64 r_4.Vars, .int .i64 r_4.Root, .int .i64 r_4.Phase, .slice B7 r_4.Terms.length c6, .slice B8 r_4.Out.length c7], 6⟩, ⟨B7, 136, (r_4.Terms.flatMap enc_Term), c6 * 2⟩, ⟨B8, 61, (r_4.Out.flatMap enc_Affine), c7 * 2⟩, ⟨some ⟨b3, 0, none⟩, 57, [.int .i64 r_6.Ins, .int .i64 r_6.Vars, .int .i64 r_6.Root, .int .i64 r_6.Phase, .slice B9 r_6.Terms.length c8, .slice B10 r_6.Out.length c9], 6⟩, ⟨B13, 57, [.int .i64 r_8.Ins, .int .i64 r_8.Vars, .int .i64 r_8.Root, .int .i64 r_8.Phase, .slice B14 r_8.Terms.length c12, .slice B15 r_8.Out.length c13], 6⟩, ⟨B16, 136, (r_11.Terms.flatMap enc_Term), c14 * 2⟩, ⟨B17, 61, (r_11.Out.flatMap enc_Affine), c15 * 2⟩, ⟨B9, 136, (m.flatMap enc_Term), c8 * 2⟩, ⟨B10, 61, (m1.flatMap enc_Affine), c9 * 2⟩, ⟨B14, 136, (m2.flatMap enc_Term), c12 * 2⟩, ⟨B15, 61, (m3.flatMap enc_Affine), c13 * 2⟩, ⟨B18, 136, (r_17.Terms.flatMap enc_Term), c16 * 2⟩, ⟨B19, 61, (r_17.Out.flatMap enc_Affine), c17 * 2⟩, ⟨some ⟨b5, 0, none⟩, 57, [.int .i64 0, .int .i64 0, .int .i64 0, .int .i64 0, .slice none 0 0, .slice none 0 0], 6⟩, ⟨B20, 136, (r_19.Terms.flatMap enc_Term), c18 * 2⟩, ⟨B21, 61, (r_19.Out.flatMap enc_Affine), c19 * 2⟩] [⟨B, (aP.Terms.flatMap enc_Term)⟩, ⟨B1, (aP.Out.flatMap enc_Affine)⟩] := hS65
                            refine ⟨(ST.sel hS65 [0, 1, 2, 3, 4, 5, 6, 7, 8, 9, 10, 11, 12] rfl rfl), ?_⟩
                            refine ra_q 6 83 (v := .tuple #[.agg #[.int .i64 r_19.Ins, .int .i64 r_19.Vars, .int .i64 r_19.Root, .int .i64 r_19.Phase, .slice B20 r_19.Terms.length c18, .slice B21 r_19.Out.length c19], .bool r_20]) rfl rfl rfl (by kernel_rfl) (by kernel_rfl) (by kernel_rfl) (ST.sel hS65 [0, 1, 2, 3, 4, 5, 6, 7, 8, 9, 10, 11, 12] rfl rfl) (fun w' hw' => (Y_move (v := .tuple #[.agg #[.int .i64 r_19.Ins, .int .i64 r_19.Vars, .int .i64 r_19.Root, .int .i64 r_19.Phase, .slice B20 r_19.Terms.length c18, .slice B21 r_19.Out.length c19], .bool r_20]) rfl rfl)) ?_
                            refine ra_q 7 90 (v := .agg #[.int .i64 r_19.Ins, .int .i64 r_19.Vars, .int .i64 r_19.Root, .int .i64 r_19.Phase, .slice B20 r_19.Terms.length c18, .slice B21 r_19.Out.length c19]) rfl rfl rfl (by kernel_rfl) (by kernel_rfl) (by kernel_rfl) (ST.sel hS65 [0, 1, 2, 3, 4, 5, 6, 7, 8, 9, 10, 11, 12] rfl rfl) (fun w' hw' => (Y_extract (v := .agg #[.int .i64 r_19.Ins, .int .i64 r_19.Vars, .int .i64 r_19.Root, .int .i64 r_19.Phase, .slice B20 r_19.Terms.length c18, .slice B21 r_19.Out.length c19]) rfl rfl rfl)) ?_
                            refine ra_q 8 91 (v := .bool r_20) rfl rfl rfl (by kernel_rfl) (by kernel_rfl) (by kernel_rfl) (ST.sel hS65 [0, 1, 2, 3, 4, 5, 6, 7, 8, 9, 10, 11, 12] rfl rfl) (fun w' hw' => (Y_extract (v := .bool r_20) rfl rfl rfl)) ?_
                            refine ra_all (rs := [10]) (by kernel_rfl) rfl ?_
                            refine ra_s0 (i := 10) rfl rfl rfl (Ys_store (i := 15) (s := 6) (B := some ⟨b5, 0, none⟩) (T' := 57) (v := .agg #[.int .i64 r_19.Ins, .int .i64 r_19.Vars, .int .i64 r_19.Root, .int .i64 r_19.Phase, .slice B20 r_19.Terms.length c18, .slice B21 r_19.Out.length c19]) (vs := [.int .i64 r_19.Ins, .int .i64 r_19.Vars, .int .i64 r_19.Root, .int .i64 r_19.Phase, .slice B20 r_19.Terms.length c18, .slice B21 r_19.Out.length c19]) (k := 0) (cs' := [.int .i64 r_19.Ins, .int .i64 r_19.Vars, .int .i64 r_19.Root, .int .i64 r_19.Phase, .slice B20 r_19.Terms.length c18, .slice B21 r_19.Out.length c19]) hS65 k_sz_57_6 rfl rfl rfl rfl rfl rfl rfl (Nat.le_of_ble_eq_true rfl) rfl rfl) ?_ ?_
                            · rintro _ w_48 ⟨rfl, hS66⟩
                              have hS66 : ST w0 [] _ [⟨some ⟨b, 0, none⟩, 50, [.int .i64 aP.Ins, .int .i64 aP.Vars, .int .i64 aP.Root, .int .i64 aP.Phase, .slice B aP.Terms.length c, .slice B1 aP.Out.length c1], 6⟩, ⟨some ⟨b1, 0, none⟩, 52, [.int .i64 aBy.Mask, .int .i64 aBy.Turn], 2⟩, ⟨B6, 57, [.int .i64 r_4.Ins, .int .i64 r_4.Vars, .int .i64 r_4.Root, .int .i64 r_4.Phase, .slice B7 r_4.Terms.length c6, .slice B8 r_4.Out.length c7], 6⟩, ⟨B7, 136, (r_4.Terms.flatMap enc_Term), c6 * 2⟩, ⟨B8, 61, (r_4.Out.flatMap enc_Affine), c7 * 2⟩, ⟨some ⟨b3, 0, none⟩, 57, [.int .i64 r_6.Ins, .int .i64 r_6.Vars, .int .i64 r_6.Root, .int .i64 r_6.Phase, .slice B9 r_6.Terms.length c8, .slice B10 r_6.Out.length c9], 6⟩, ⟨B13, 57, [.int .i64 r_8.Ins, .int .i64 r_8.Vars, .int .i64 r_8.Root, .int .i64 r_8.Phase, .slice B14 r_8.Terms.length c12, .slice B15 r_8.Out.length c13], 6⟩, ⟨B16, 136, (r_11.Terms.flatMap enc_Term), c14 * 2⟩, ⟨B17, 61, (r_11.Out.flatMap enc_Affine), c15 * 2⟩, ⟨B9, 136, (m.flatMap enc_Term), c8 * 2⟩, ⟨B10, 61, (m1.flatMap enc_Affine), c9 * 2⟩, ⟨B14, 136, (m2.flatMap enc_Term), c12 * 2⟩, ⟨B15, 61, (m3.flatMap enc_Affine), c13 * 2⟩, ⟨B18, 136, (r_17.Terms.flatMap enc_Term), c16 * 2⟩, ⟨B19, 61, (r_17.Out.flatMap enc_Affine), c17 * 2⟩, ⟨some ⟨b5, 0, none⟩, 57, [.int .i64 r_19.Ins, .int .i64 r_19.Vars, .int .i64 r_19.Root, .int .i64 r_19.Phase, .slice B20 r_19.Terms.length c18, .slice B21 r_19.Out.length c19], 6⟩, ⟨B20, 136, (r_19.Terms.flatMap enc_Term), c18 * 2⟩, ⟨B21, 61, (r_19.Out.flatMap enc_Affine), c19 * 2⟩] [⟨B, (aP.Terms.flatMap enc_Term)⟩, ⟨B1, (aP.Out.flatMap enc_Affine)⟩] := hS66
                              refine ⟨(ST.sel hS66 [0, 1, 2, 3, 4, 5, 6, 7, 8, 9, 10, 11, 12] rfl rfl), ?_⟩
                              refine ra_q 11 17 (v := .bool r_20) rfl rfl rfl (by kernel_rfl) (by kernel_rfl) (by kernel_rfl) (ST.sel hS66 [0, 1, 2, 3, 4, 5, 6, 7, 8, 9, 10, 11, 12] rfl rfl) (fun w' hw' => (Y_assign (v := .bool r_20) rfl rfl)) ?_
                              refine ra_done (by kernel_rfl) ?_
                              exact ⟨some ⟨b5, 0, none⟩, B20, c18, B21, c19, (FF.cons (hf1.get 8 3 rfl) (FF.cons (hf1.get 9 4 rfl) (FF.cons (hf1.get 11 6 rfl) (FF.cons rfl (FF.cons rfl (FF.cons rfl FF.nil)))))), (hS66.sel [2, 3, 4, 6, 11, 12, 15, 16, 17] rfl rfl)⟩
                            exact allR_nil
                          exact allR_nil
                        exact allR_nil
                      refine ra_s 16 (i := 9) rfl rfl rfl (Ys_alloc (T := 57) (cs := [.int .i64 0, .int .i64 0, .int .i64 0, .int .i64 0, .slice none 0 0, .slice none 0 0]) (m := 6) hS59 k_zero_57 rfl rfl rfl) ?_ ?_
                      · rintro _ w_49 ⟨b5, rfl, hS67⟩
                        have hS67 : ST w0 [] _ [⟨some ⟨b, 0, none⟩, 50, [.int .i64 aP.Ins, .int .i64 aP.Vars, .int .i64 aP.Root, .int .i64 aP.Phase, .slice B aP.Terms.length c, .slice B1 aP.Out.length c1], 6⟩, ⟨some ⟨b1, 0, none⟩, 52, [.int .i64 aBy.Mask, .int .i64 aBy.Turn], 2⟩, ⟨B6, 57, [.int .i64 r_4.Ins, .int .i64 r_4.Vars, .int .i64 r_4.Root, .int .i64 r_4.Phase, .slice B7 r_4.Terms.length c6, .slice B8 r_4.Out.length c7], 6⟩, ⟨B7, 136, (r_4.Terms.flatMap enc_Term), c6 * 2⟩, ⟨B8, 61, (r_4.Out.flatMap enc_Affine), c7 * 2⟩, ⟨some ⟨b3, 0, none⟩, 57, [.int .i64 r_6.Ins, .int .i64 r_6.Vars, .int .i64 r_6.Root, .int .i64 r_6.Phase, .slice B9 r_6.Terms.length c8, .slice B10 r_6.Out.length c9], 6⟩, ⟨B13, 57, [.int .i64 r_8.Ins, .int .i64 r_8.Vars, .int .i64 r_8.Root, .int .i64 r_8.Phase, .slice B14 r_8.Terms.length c12, .slice B15 r_8.Out.length c13], 6⟩, ⟨B16, 136, (r_11.Terms.flatMap enc_Term), c14 * 2⟩, ⟨B17, 61, (r_11.Out.flatMap enc_Affine), c15 * 2⟩, ⟨B9, 136, (m.flatMap enc_Term), c8 * 2⟩, ⟨B10, 61, (m1.flatMap enc_Affine), c9 * 2⟩, ⟨B14, 136, (m2.flatMap enc_Term), c12 * 2⟩, ⟨B15, 61, (m3.flatMap enc_Affine), c13 * 2⟩, ⟨B18, 136, (r_17.Terms.flatMap enc_Term), c16 * 2⟩, ⟨B19, 61, (r_17.Out.flatMap enc_Affine), c17 * 2⟩, ⟨some ⟨b5, 0, none⟩, 57, [.int .i64 0, .int .i64 0, .int .i64 0, .int .i64 0, .slice none 0 0, .slice none 0 0], 6⟩] [⟨B, (aP.Terms.flatMap enc_Term)⟩, ⟨B1, (aP.Out.flatMap enc_Affine)⟩] := hS67
                        refine ⟨(ST.sel hS67 [0, 1, 2, 3, 4, 5, 6, 7, 8, 9, 10, 11, 12] rfl rfl), ?_⟩
                        refine ra_all (rs := [4]) (by kernel_rfl) rfl ?_
                        refine ra_c 88 (i := 4) rfl rfl rfl (Yc_func (g := 23) (vs := [.agg #[.int .i64 aBy.Mask, .int .i64 aBy.Turn]]) k_call_23 rfl (mc rfl mn) (c_laws_toAffine aBy _  (hS67.inn0 [] rfl) hc15)) ?_ ?_
                        · rintro _ w_50 ⟨rfl, hd26⟩
                          have hS68 := hS67.out00 hd26
                          have hS68 : ST w0 [] _ [⟨some ⟨b, 0, none⟩, 50, [.int .i64 aP.Ins, .int .i64 aP.Vars, .int .i64 aP.Root, .int .i64 aP.Phase, .slice B aP.Terms.length c, .slice B1 aP.Out.length c1], 6⟩, ⟨some ⟨b1, 0, none⟩, 52, [.int .i64 aBy.Mask, .int .i64 aBy.Turn], 2⟩, ⟨B6, 57, [.int .i64 r_4.Ins, .int .i64 r_4.Vars, .int .i64 r_4.Root, .int .i64 r_4.Phase, .slice B7 r_4.Terms.length c6, .slice B8 r_4.Out.length c7], 6⟩, ⟨B7, 136, (r_4.Terms.flatMap enc_Term), c6 * 2⟩, ⟨B8, 61, (r_4.Out.flatMap enc_Affine), c7 * 2⟩, ⟨some ⟨b3, 0, none⟩, 57, [.int .i64 r_6.Ins, .int .i64 r_6.Vars, .int .i64 r_6.Root, .int .i64 r_6.Phase, .slice B9 r_6.Terms.length c8, .slice B10 r_6.Out.length c9], 6⟩, ⟨B13, 57, [.int .i64 r_8.Ins, .int .i64 r_8.Vars, .int .i64 r_8.Root, .int .i64 r_8.Phase, .slice B14 r_8.Terms.length c12, .slice B15 r_8.Out.length c13], 6⟩, ⟨B16, 136, (r_11.Terms.flatMap enc_Term), c14 * 2⟩, ⟨B17, 61, (r_11.Out.flatMap enc_Affine), c15 * 2⟩, ⟨B9, 136, (m.flatMap enc_Term), c8 * 2⟩, ⟨B10, 61, (m1.flatMap enc_Affine), c9 * 2⟩, ⟨B14, 136, (m2.flatMap enc_Term), c12 * 2⟩, ⟨B15, 61, (m3.flatMap enc_Affine), c13 * 2⟩, ⟨B18, 136, (r_17.Terms.flatMap enc_Term), c16 * 2⟩, ⟨B19, 61, (r_17.Out.flatMap enc_Affine), c17 * 2⟩, ⟨some ⟨b5, 0, none⟩, 57, [.int .i64 0, .int .i64 0, .int .i64 0, .int .i64 0, .slice none 0 0, .slice none 0 0], 6⟩] [⟨B, (aP.Terms.flatMap enc_Term)⟩, ⟨B1, (aP.Out.flatMap enc_Affine)⟩] := hS68
                          refine ⟨(ST.sel hS68 [0, 1, 2, 3, 4, 5, 6, 7, 8, 9, 10, 11, 12] rfl rfl), ?_⟩
                          refine ra_all (rs := [5]) (by kernel_rfl) rfl ?_
                          refine ra_c 89 (i := 5) rfl rfl rfl (Yc_func (g := 24) (vs := [.agg #[.int .i64 r_17.Ins, .int .i64 r_17.Vars, .int .i64 r_17.Root, .int .i64 r_17.Phase, .slice B18 r_17.Terms.length c16, .slice B19 r_17.Out.length c17], .int .i64 aV, .agg #[.int .i64 r_18.Mask, .int .i64 r_18.Turn]]) k_call_24 rfl (mc rfl (mc rfl (mc rfl mn))) (c_impl_SubstituteVar r_17 aV r_18 B18 c16 r_17.Terms.length B19 c17 r_17.Out.length _ rfl rfl (hS68.inn0 [(false, 13), (false, 14)] rfl) hc16)) ?_ ?_
                          · rintro _ w_51 ⟨B20, c18, B21, c19, rfl, hd27⟩
                            have hS69 := hS68.out0 hd27
                            have hS69 : ST w0 [] _ [⟨some ⟨b, 0, none⟩, 50, [.int .i64 aP.Ins, .int .i64 aP.Vars, .int .i64 aP.Root, .int .i64 aP.Phase, .slice B aP.Terms.length c, .slice B1 aP.Out.length c1], 6⟩, ⟨some ⟨b1, 0, none⟩, 52, [.int .i64 aBy.Mask, .int .i64 aBy.Turn], 2⟩, ⟨B6, 57, [.int .i64 r_4.Ins, .int .i64 r_4.Vars, .int .i64 r_4.Root, .int .i64 r_4.Phase, .slice B7 r_4.Terms.length c6, .slice B8 r_4.Out.length c7], 6⟩, ⟨B7, 136, (r_4.Terms.flatMap enc_Term), c6 * 2⟩, ⟨B8, 61, (r_4.Out.flatMap enc_Affine), c7 * 2⟩, ⟨some ⟨b3, 0, none⟩, 57, [.int .i64 r_6.Ins, .int .i64 r_6.Vars, .int .i64 r_6.Root, .int .i64 r_6.Phase, .slice B9 r_6.Terms.length c8, .slice B10 r_6.Out.length c9], 6⟩, ⟨B13, 57, [.int .i64 r_8.Ins, .int .i64 r_8.Vars, .int .i64 r_8.Root, .int .i64 r_8.Phase, .slice B14 r_8.Terms.length c12, .slice B15 r_8.Out.length c13], 6⟩, ⟨B16, 136, (r_11.Terms.flatMap enc_Term), c14 * 2⟩, ⟨B17, 61, (r_11.Out.flatMap enc_Affine), c15 * 2⟩, ⟨B9, 136, (m.flatMap enc_Term), c8 * 2⟩, ⟨B10, 61, (m1.flatMap enc_Affine), c9 * 2⟩, ⟨B14, 136, (m2.flatMap enc_Term), c12 * 2⟩, ⟨B15, 61, (m3.flatMap enc_Affine), c13 * 2⟩, ⟨B18, 136, (r_17.Terms.flatMap enc_Term), c16 * 2⟩, ⟨B19, 61, (r_17.Out.flatMap enc_Affine), c17 * 2⟩, ⟨some ⟨b5, 0, none⟩, 57, [.int .i64 0, .int .i64 0, .int .i64 0, .int .i64 0, .slice none 0 0, .slice none 0 0], 6⟩, ⟨B20, 136, (r_19.Terms.flatMap enc_Term), c18 * 2⟩, ⟨B21, 61, (r_19.Out.flatMap enc_Affine), c19 * 2⟩] [⟨B, (aP.Terms.flatMap enc_Term)⟩, ⟨B1, (aP.Out.flatMap enc_Affine)⟩] := hS69
                            refine ⟨(ST.sel hS69 [0, 1, 2, 3, 4, 5, 6, 7, 8, 9, 10, 11, 12] rfl rfl), ?_⟩
                            refine ra_q 6 83 (v := .tuple #[.agg #[.int .i64 r_19.Ins, .int .i64 r_19.Vars, .int .i64 r_19.Root, .int .i64 r_19.Phase, .slice B20 r_19.Terms.length c18, .slice B21 r_19.Out.length c19], .bool r_20]) rfl rfl rfl (by kernel_rfl) (by kernel_rfl) (by kernel_rfl) (ST.sel hS69 [0, 1, 2, 3, 4, 5, 6, 7, 8, 9, 10, 11, 12] rfl rfl) (fun w' hw' => (Y_move (v := .tuple #[.agg #[.int .i64 r_19.Ins, .int .i64 r_19.Vars, .int .i64 r_19.Root, .int .i64 r_19.Phase, .slice B20 r_19.Terms.length c18, .slice B21 r_19.Out.length c19], .bool r_20]) rfl rfl)) ?_
                            refine ra_q 7 90 (v := .agg #[.int .i64 r_19.Ins, .int .i64 r_19.Vars, .int .i64 r_19.Root, .int .i64 r_19.Phase, .slice B20 r_19.Terms.length c18, .slice B21 r_19.Out.length c19]) rfl rfl rfl (by kernel_rfl) (by kernel_rfl) (by kernel_rfl) (ST.sel hS69 [0, 1, 2, 3, 4, 5, 6, 7, 8, 9, 10, 11, 12] rfl rfl) (fun w' hw' => (Y_extract (v := .agg #[.int .i64 r_19.Ins, .int .i64 r_19.Vars, .int .i64 r_19.Root, .int .i64 r_19.Phase, .slice B20 r_19.Terms.length c18, .slice B21 r_19.Out.length c19]) rfl rfl rfl)) ?_
                            refine ra_q 8 91 (v := .bool r_20) rfl rfl rfl (by kernel_rfl) (by kernel_rfl) (by kernel_rfl) (ST.sel hS69 [0, 1, 2, 3, 4, 5, 6, 7, 8, 9, 10, 11, 12] rfl rfl) (fun w' hw' => (Y_extract (v := .bool r_20) rfl rfl rfl)) ?_
                            refine ra_all (rs := [10]) (by kernel_rfl) rfl ?_
                            refine ra_s0 (i := 10) rfl rfl rfl (Ys_store (i := 15) (s := 6) (B := some ⟨b5, 0, none⟩) (T' := 57) (v := .agg #[.int .i64 r_19.Ins, .int .i64 r_19.Vars, .int .i64 r_19.Root, .int .i64 r_19.Phase, .slice B20 r_19.Terms.length c18, .slice B21 r_19.Out.length c19]) (vs := [.int .i64 r_19.Ins, .int .i64 r_19.Vars, .int .i64 r_19.Root, .int .i64 r_19.Phase, .slice B20 r_19.Terms.length c18, .slice B21 r_19.Out.length c19]) (k := 0) (cs' := [.int .i64 r_19.Ins, .int .i64 r_19.Vars, .int .i64 r_19.Root, .int .i64 r_19.Phase, .slice B20 r_19.Terms.length c18, .slice B21 r_19.Out.length c19]) hS69 k_sz_57_6 rfl rfl rfl rfl rfl rfl rfl (Nat.le_of_ble_eq_true rfl) rfl rfl) ?_ ?_
                            · rintro _ w_52 ⟨rfl, hS70⟩
                              have hS70 : ST w0 [] _ [⟨some ⟨b, 0, none⟩, 50, [.int .i64 aP.Ins, .int .i64 aP.Vars, .int .i64 aP.Root, .int .i64 aP.Phase, .slice B aP.Terms.length c, .slice B1 aP.Out.length c1], 6⟩, ⟨some ⟨b1, 0, none⟩, 52, [.int .i64 aBy.Mask, .int .i64 aBy.Turn], 2⟩, ⟨B6, 57, [.int .i64 r_4.Ins, .int .i64 r_4.Vars, .int .i64 r_4.Root, .int .i64 r_4.Phase, .slice B7 r_4.Terms.length c6, .slice B8 r_4.Out.length c7], 6⟩, ⟨B7, 136, (r_4.Terms.flatMap enc_Term), c6 * 2⟩, ⟨B8, 61, (r_4.Out.flatMap enc_Affine), c7 * 2⟩, ⟨some ⟨b3, 0, none⟩, 57, [.int .i64 r_6.Ins, .int .i64 r_6.Vars, .int .i64 r_6.Root, .int .i64 r_6.Phase, .slice B9 r_6.Terms.length c8, .slice B10 r_6.Out.length c9], 6⟩, ⟨B13, 57, [.int .i64 r_8.Ins, .int .i64 r_8.Vars, .int .i64 r_8.Root, .int .i64 r_8.Phase, .slice B14 r_8.Terms.length c12, .slice B15 r_8.Out.length c13], 6⟩, ⟨B16, 136, (r_11.Terms.flatMap enc_Term), c14 * 2⟩, ⟨B17, 61, (r_11.Out.flatMap enc_Affine), c15 * 2⟩, ⟨B9, 136, (m.flatMap enc_Term), c8 * 2⟩, ⟨B10, 61, (m1.flatMap enc_Affine), c9 * 2⟩, ⟨B14, 136, (m2.flatMap enc_Term), c12 * 2⟩, ⟨B15, 61, (m3.flatMap enc_Affine), c13 * 2⟩, ⟨B18, 136, (r_17.Terms.flatMap enc_Term), c16 * 2⟩, ⟨B19, 61, (r_17.Out.flatMap enc_Affine), c17 * 2⟩, ⟨some ⟨b5, 0, none⟩, 57, [.int .i64 r_19.Ins, .int .i64 r_19.Vars, .int .i64 r_19.Root, .int .i64 r_19.Phase, .slice B20 r_19.Terms.length c18, .slice B21 r_19.Out.length c19], 6⟩, ⟨B20, 136, (r_19.Terms.flatMap enc_Term), c18 * 2⟩, ⟨B21, 61, (r_19.Out.flatMap enc_Affine), c19 * 2⟩] [⟨B, (aP.Terms.flatMap enc_Term)⟩, ⟨B1, (aP.Out.flatMap enc_Affine)⟩] := hS70
                              refine ⟨(ST.sel hS70 [0, 1, 2, 3, 4, 5, 6, 7, 8, 9, 10, 11, 12] rfl rfl), ?_⟩
                              refine ra_q 11 17 (v := .bool r_20) rfl rfl rfl (by kernel_rfl) (by kernel_rfl) (by kernel_rfl) (ST.sel hS70 [0, 1, 2, 3, 4, 5, 6, 7, 8, 9, 10, 11, 12] rfl rfl) (fun w' hw' => (Y_assign (v := .bool r_20) rfl rfl)) ?_
                              refine ra_done (by kernel_rfl) ?_
                              exact ⟨some ⟨b5, 0, none⟩, B20, c18, B21, c19, (FF.cons (hf1.get 8 3 rfl) (FF.cons (hf1.get 9 4 rfl) (FF.cons (hf1.get 11 6 rfl) (FF.cons rfl (FF.cons rfl (FF.cons rfl FF.nil)))))), (hS70.sel [2, 3, 4, 6, 11, 12, 15, 16, 17] rfl rfl)⟩
                            exact allR_nil
                          exact allR_nil
                        exact allR_nil
                      exact allR_nil
                    refine ra_s 16 (i := 9) rfl rfl rfl (Ys_alloc (T := 57) (cs := [.int .i64 0, .int .i64 0, .int .i64 0, .int .i64 0, .slice none 0 0, .slice none 0 0]) (m := 6) hS58 k_zero_57 rfl rfl rfl) ?_ ?_
                    · rintro _ w_53 ⟨b5, rfl, hS71⟩
                      have hS71 : ST w0 [] _ [⟨some ⟨b, 0, none⟩, 50, [.int .i64 aP.Ins, .int .i64 aP.Vars, .int .i64 aP.Root, .int .i64 aP.Phase, .slice B aP.Terms.length c, .slice B1 aP.Out.length c1], 6⟩, ⟨some ⟨b1, 0, none⟩, 52, [.int .i64 aBy.Mask, .int .i64 aBy.Turn], 2⟩, ⟨B6, 57, [.int .i64 r_4.Ins, .int .i64 r_4.Vars, .int .i64 r_4.Root, .int .i64 r_4.Phase, .slice B7 r_4.Terms.length c6, .slice B8 r_4.Out.length c7], 6⟩, ⟨B7, 136, (r_4.Terms.flatMap enc_Term), c6 * 2⟩, ⟨B8, 61, (r_4.Out.flatMap enc_Affine), c7 * 2⟩, ⟨some ⟨b3, 0, none⟩, 57, [.int .i64 r_6.Ins, .int .i64 r_6.Vars, .int .i64 r_6.Root, .int .i64 r_6.Phase, .slice B9 r_6.Terms.length c8, .slice B10 r_6.Out.length c9], 6⟩, ⟨B13, 57, [.int .i64 r_8.Ins, .int .i64 r_8.Vars, .int .i64 r_8.Root, .int .i64 r_8.Phase, .slice B14 r_8.Terms.length c12, .slice B15 r_8.Out.length c13], 6⟩, ⟨B16, 136, (r_11.Terms.flatMap enc_Term), c14 * 2⟩, ⟨B17, 61, (r_11.Out.flatMap enc_Affine), c15 * 2⟩, ⟨B9, 136, (m.flatMap enc_Term), c8 * 2⟩, ⟨B10, 61, (m1.flatMap enc_Affine), c9 * 2⟩, ⟨B14, 136, (m2.flatMap enc_Term), c12 * 2⟩, ⟨B15, 61, (m3.flatMap enc_Affine), c13 * 2⟩, ⟨some ⟨b5, 0, none⟩, 57, [.int .i64 0, .int .i64 0, .int .i64 0, .int .i64 0, .slice none 0 0, .slice none 0 0], 6⟩] [⟨B, (aP.Terms.flatMap enc_Term)⟩, ⟨B1, (aP.Out.flatMap enc_Affine)⟩] := hS71
                      refine ⟨(ST.sel hS71 [0, 1, 2, 3, 4, 5, 6, 7, 8, 9, 10, 11, 12] rfl rfl), ?_⟩
                      refine ra_all (rs := [1]) (by kernel_rfl) rfl ?_
                      refine ra_c 85 (i := 1) rfl rfl rfl (Yc_func (g := 22) (vs := [.agg #[.int .i64 aP.Ins, .int .i64 aP.Vars, .int .i64 aP.Root, .int .i64 aP.Phase, .slice B aP.Terms.length c, .slice B1 aP.Out.length c1]]) k_call_22 rfl (mc rfl mn) (c_laws_toPathSum aP B c aP.Terms.length B1 c1 aP.Out.length _ rfl rfl (hS71.inn0 [(true, 0), (true, 1)] rfl) hc14)) ?_ ?_
                      · rintro _ w_54 ⟨B18, c16, B19, c17, rfl, hd28⟩
                        have hS72 := hS71.out0 hd28
                        have hS72 : ST w0 [] _ [⟨some ⟨b, 0, none⟩, 50, [.int .i64 aP.Ins, .int .i64 aP.Vars, .int .i64 aP.Root, .int .i64 aP.Phase, .slice B aP.Terms.length c, .slice B1 aP.Out.length c1], 6⟩, ⟨some ⟨b1, 0, none⟩, 52, [.int .i64 aBy.Mask, .int .i64 aBy.Turn], 2⟩, ⟨B6, 57, [.int .i64 r_4.Ins, .int .i64 r_4.Vars, .int .i64 r_4.Root, .int .i64 r_4.Phase, .slice B7 r_4.Terms.length c6, .slice B8 r_4.Out.length c7], 6⟩, ⟨B7, 136, (r_4.Terms.flatMap enc_Term), c6 * 2⟩, ⟨B8, 61, (r_4.Out.flatMap enc_Affine), c7 * 2⟩, ⟨some ⟨b3, 0, none⟩, 57, [.int .i64 r_6.Ins, .int .i64 r_6.Vars, .int .i64 r_6.Root, .int .i64 r_6.Phase, .slice B9 r_6.Terms.length c8, .slice B10 r_6.Out.length c9], 6⟩, ⟨B13, 57, [.int .i64 r_8.Ins, .int .i64 r_8.Vars, .int .i64 r_8.Root, .int .i64 r_8.Phase, .slice B14 r_8.Terms.length c12, .slice B15 r_8.Out.length c13], 6⟩, ⟨B16, 136, (r_11.Terms.flatMap enc_Term), c14 * 2⟩, ⟨B17, 61, (r_11.Out.flatMap enc_Affine), c15 * 2⟩, ⟨B9, 136, (m.flatMap enc_Term), c8 * 2⟩, ⟨B10, 61, (m1.flatMap enc_Affine), c9 * 2⟩, ⟨B14, 136, (m2.flatMap enc_Term), c12 * 2⟩, ⟨B15, 61, (m3.flatMap enc_Affine), c13 * 2⟩, ⟨some ⟨b5, 0, none⟩, 57, [.int .i64 0, .int .i64 0, .int .i64 0, .int .i64 0, .slice none 0 0, .slice none 0 0], 6⟩, ⟨B18, 136, (r_17.Terms.flatMap enc_Term), c16 * 2⟩, ⟨B19, 61, (r_17.Out.flatMap enc_Affine), c17 * 2⟩] [⟨B, (aP.Terms.flatMap enc_Term)⟩, ⟨B1, (aP.Out.flatMap enc_Affine)⟩] := hS72
                        refine ⟨(ST.sel hS72 [0, 1, 2, 3, 4, 5, 6, 7, 8, 9, 10, 11, 12] rfl rfl), ?_⟩
                        refine ra_all (rs := [4]) (by kernel_rfl) rfl ?_
                        refine ra_c 88 (i := 4) rfl rfl rfl (Yc_func (g := 23) (vs := [.agg #[.int .i64 aBy.Mask, .int .i64 aBy.Turn]]) k_call_23 rfl (mc rfl mn) (c_laws_toAffine aBy _  (hS72.inn0 [] rfl) hc15)) ?_ ?_
                        · rintro _ w_55 ⟨rfl, hd29⟩
                          have hS73 := hS72.out00 hd29
                          have hS73 : ST w0 [] _ [⟨some ⟨b, 0, none⟩, 50, [.int .i64 aP.Ins, .int .i64 aP.Vars, .int .i64 aP.Root, .int .i64 aP.Phase, .slice B aP.Terms.length c, .slice B1 aP.Out.length c1], 6⟩, ⟨some ⟨b1, 0, none⟩, 52, [.int .i64 aBy.Mask, .int .i64 aBy.Turn], 2⟩, ⟨B6, 57, [.int .i64 r_4.Ins, .int .i64 r_4.Vars, .int .i64 r_4.Root, .int .i64 r_4.Phase, .slice B7 r_4.Terms.length c6, .slice B8 r_4.Out.length c7], 6⟩, ⟨B7, 136, (r_4.Terms.flatMap enc_Term), c6 * 2⟩, ⟨B8, 61, (r_4.Out.flatMap enc_Affine), c7 * 2⟩, ⟨some ⟨b3, 0, none⟩, 57, [.int .i64 r_6.Ins, .int .i64 r_6.Vars, .int .i64 r_6.Root, .int .i64 r_6.Phase, .slice B9 r_6.Terms.length c8, .slice B10 r_6.Out.length c9], 6⟩, ⟨B13, 57, [.int .i64 r_8.Ins, .int .i64 r_8.Vars, .int .i64 r_8.Root, .int .i64 r_8.Phase, .slice B14 r_8.Terms.length c12, .slice B15 r_8.Out.length c13], 6⟩, ⟨B16, 136, (r_11.Terms.flatMap enc_Term), c14 * 2⟩, ⟨B17, 61, (r_11.Out.flatMap enc_Affine), c15 * 2⟩, ⟨B9, 136, (m.flatMap enc_Term), c8 * 2⟩, ⟨B10, 61, (m1.flatMap enc_Affine), c9 * 2⟩, ⟨B14, 136, (m2.flatMap enc_Term), c12 * 2⟩, ⟨B15, 61, (m3.flatMap enc_Affine), c13 * 2⟩, ⟨some ⟨b5, 0, none⟩, 57, [.int .i64 0, .int .i64 0, .int .i64 0, .int .i64 0, .slice none 0 0, .slice none 0 0], 6⟩, ⟨B18, 136, (r_17.Terms.flatMap enc_Term), c16 * 2⟩, ⟨B19, 61, (r_17.Out.flatMap enc_Affine), c17 * 2⟩] [⟨B, (aP.Terms.flatMap enc_Term)⟩, ⟨B1, (aP.Out.flatMap enc_Affine)⟩] := hS73
                          refine ⟨(ST.sel hS73 [0, 1, 2, 3, 4, 5, 6, 7, 8, 9, 10, 11, 12] rfl rfl), ?_⟩
                          refine ra_all (rs := [5]) (by kernel_rfl) rfl ?_
                          refine ra_c 89 (i := 5) rfl rfl rfl (Yc_func (g := 24) (vs := [.agg #[.int .i64 r_17.Ins, .int .i64 r_17.Vars, .int .i64 r_17.Root, .int .i64 r_17.Phase, .slice B18 r_17.Terms.length c16, .slice B19 r_17.Out.length c17], .int .i64 aV, .agg #[.int .i64 r_18.Mask, .int .i64 r_18.Turn]]) k_call_24 rfl (mc rfl (mc rfl (mc rfl mn))) (c_impl_SubstituteVar r_17 aV r_18 B18 c16 r_17.Terms.length B19 c17 r_17.Out.length _ rfl rfl (hS73.inn0 [(false, 14), (false, 15)] rfl) hc16)) ?_ ?_
                          · rintro _ w_56 ⟨B20, c18, B21, c19, rfl, hd30⟩
                            have hS74 := hS73.out0 hd30
                            have hS74 : ST w0 [] _ [⟨some ⟨b, 0, none⟩, 50, [.int .i64 aP.Ins, .int .i64 aP.Vars, .int .i64 aP.Root, .int .i64 aP.Phase, .slice B aP.Terms.length c, .slice B1 aP.Out.length c1], 6⟩, ⟨some ⟨b1, 0, none⟩, 52, [.int .i64 aBy.Mask, .int .i64 aBy.Turn], 2⟩, ⟨B6, 57, [.int .i64 r_4.Ins, .int .i64 r_4.Vars, .int .i64 r_4.Root, .int .i64 r_4.Phase, .slice B7 r_4.Terms.length c6, .slice B8 r_4.Out.length c7], 6⟩, ⟨B7, 136, (r_4.Terms.flatMap enc_Term), c6 * 2⟩, ⟨B8, 61, (r_4.Out.flatMap enc_Affine), c7 * 2⟩, ⟨some ⟨b3, 0, none⟩, 57, [.int .i64 r_6.Ins, .int .i64 r_6.Vars, .int .i64 r_6.Root, .int .i64 r_6.Phase, .slice B9 r_6.Terms.length c8, .slice B10 r_6.Out.length c9], 6⟩, ⟨B13, 57, [.int .i64 r_8.Ins, .int .i64 r_8.Vars, .int .i64 r_8.Root, .int .i64 r_8.Phase, .slice B14 r_8.Terms.length c12, .slice B15 r_8.Out.length c13], 6⟩, ⟨B16, 136, (r_11.Terms.flatMap enc_Term), c14 * 2⟩, ⟨B17, 61, (r_11.Out.flatMap enc_Affine), c15 * 2⟩, ⟨B9, 136, (m.flatMap enc_Term), c8 * 2⟩, ⟨B10, 61, (m1.flatMap enc_Affine), c9 * 2⟩, ⟨B14, 136, (m2.flatMap enc_Term), c12 * 2⟩, ⟨B15, 61, (m3.flatMap enc_Affine), c13 * 2⟩, ⟨some ⟨b5, 0, none⟩, 57, [.int .i64 0, .int .i64 0, .int .i64 0, .int .i64 0, .slice none 0 0, .slice none 0 0], 6⟩, ⟨B18, 136, (r_17.Terms.flatMap enc_Term), c16 * 2⟩, ⟨B19, 61, (r_17.Out.flatMap enc_Affine), c17 * 2⟩, ⟨B20, 136, (r_19.Terms.flatMap enc_Term), c18 * 2⟩, ⟨B21, 61, (r_19.Out.flatMap enc_Affine), c19 * 2⟩] [⟨B, (aP.Terms.flatMap enc_Term)⟩, ⟨B1, (aP.Out.flatMap enc_Affine)⟩] := hS74
                            refine ⟨(ST.sel hS74 [0, 1, 2, 3, 4, 5, 6, 7, 8, 9, 10, 11, 12] rfl rfl), ?_⟩
                            refine ra_q 6 83 (v := .tuple #[.agg #[.int .i64 r_19.Ins, .int .i64 r_19.Vars, .int .i64 r_19.Root, .int .i64 r_19.Phase, .slice B20 r_19.Terms.length c18, .slice B21 r_19.Out.length c19], .bool r_20]) rfl rfl rfl (by kernel_rfl) (by kernel_rfl) (by kernel_rfl) (ST.sel hS74 [0, 1, 2, 3, 4, 5, 6, 7, 8, 9, 10, 11, 12] rfl rfl) (fun w' hw' => (Y_move (v := .tuple #[.agg #[.int .i64 r_19.Ins, .int .i64 r_19.Vars, .int .i64 r_19.Root, .int .i64 r_19.Phase, .slice B20 r_19.Terms.length c18, .slice B21 r_19.Out.length c19], .bool r_20]) rfl rfl)) ?_
                            refine ra_q 7 90 (v := .agg #[.int .i64 r_19.Ins, .int .i64 r_19.Vars, .int .i64 r_19.Root, .int .i64 r_19.Phase, .slice B20 r_19.Terms.length c18, .slice B21 r_19.Out.length c19]) rfl rfl rfl (by kernel_rfl) (by kernel_rfl) (by kernel_rfl) (ST.sel hS74 [0, 1, 2, 3, 4, 5, 6, 7, 8, 9, 10, 11, 12] rfl rfl) (fun w' hw' => (Y_extract (v := .agg #[.int .i64 r_19.Ins, .int .i64 r_19.Vars, .int .i64 r_19.Root, .int .i64 r_19.Phase, .slice B20 r_19.Terms.length c18, .slice B21 r_19.Out.length c19]) rfl rfl rfl)) ?_
                            refine ra_q 8 91 (v := .bool r_20) rfl rfl rfl (by kernel_rfl) (by kernel_rfl) (by kernel_rfl) (ST.sel hS74 [0, 1, 2, 3, 4, 5, 6, 7, 8, 9, 10, 11, 12] rfl rfl) (fun w' hw' => (Y_extract (v := .bool r_20) rfl rfl rfl)) ?_
                            refine ra_all (rs := [10]) (by kernel_rfl) rfl ?_
                            refine ra_s0 (i := 10) rfl rfl rfl (Ys_store (i := 13) (s := 6) (B := some ⟨b5, 0, none⟩) (T' := 57) (v := .agg #[.int .i64 r_19.Ins, .int .i64 r_19.Vars, .int .i64 r_19.Root, .int .i64 r_19.Phase, .slice B20 r_19.Terms.length c18, .slice B21 r_19.Out.length c19]) (vs := [.int .i64 r_19.Ins, .int .i64 r_19.Vars, .int .i64 r_19.Root, .int .i64 r_19.Phase, .slice B20 r_19.Terms.length c18, .slice B21 r_19.Out.length c19]) (k := 0) (cs' := [.int .i64 r_19.Ins, .int .i64 r_19.Vars, .int .i64 r_19.Root, .int .i64 r_19.Phase, .slice B20 r_19.Terms.length c18, .slice B21 r_19.Out.length c19]) hS74 k_sz_57_6 rfl rfl rfl rfl rfl rfl rfl (Nat.le_of_ble_eq_true rfl) rfl rfl) ?_ ?_
                            · rintro _ w_57 ⟨rfl, hS75⟩
                              have hS75 : ST w0 [] _ [⟨some ⟨b, 0, none⟩, 50, [.int .i64 aP.Ins, .int .i64 aP.Vars, .int .i64 aP.Root, .int .i64 aP.Phase, .slice B aP.Terms.length c, .slice B1 aP.Out.length c1], 6⟩, ⟨some ⟨b1, 0, none⟩, 52, [.int .i64 aBy.Mask, .int .i64 aBy.Turn], 2⟩, ⟨B6, 57, [.int .i64 r_4.Ins, .int .i64 r_4.Vars, .int .i64 r_4.Root, .int .i64 r_4.Phase, .slice B7 r_4.Terms.length c6, .slice B8 r_4.Out.length c7], 6⟩, ⟨B7, 136, (r_4.Terms.flatMap enc_Term), c6 * 2⟩, ⟨B8, 61, (r_4.Out.flatMap enc_Affine), c7 * 2⟩, ⟨some ⟨b3, 0, none⟩, 57, [.int .i64 r_6.Ins, .int .i64 r_6.Vars, .int .i64 r_6.Root, .int .i64 r_6.Phase, .slice B9 r_6.Terms.length c8, .slice B10 r_6.Out.length c9], 6⟩, ⟨B13, 57, [.int .i64 r_8.Ins, .int .i64 r_8.Vars, .int .i64 r_8.Root, .int .i64 r_8.Phase, .slice B14 r_8.Terms.length c12, .slice B15 r_8.Out.length c13], 6⟩, ⟨B16, 136, (r_11.Terms.flatMap enc_Term), c14 * 2⟩, ⟨B17, 61, (r_11.Out.flatMap enc_Affine), c15 * 2⟩, ⟨B9, 136, (m.flatMap enc_Term), c8 * 2⟩, ⟨B10, 61, (m1.flatMap enc_Affine), c9 * 2⟩, ⟨B14, 136, (m2.flatMap enc_Term), c12 * 2⟩, ⟨B15, 61, (m3.flatMap enc_Affine), c13 * 2⟩, ⟨some ⟨b5, 0, none⟩, 57, [.int .i64 r_19.Ins, .int .i64 r_19.Vars, .int .i64 r_19.Root, .int .i64 r_19.Phase, .slice B20 r_19.Terms.length c18, .slice B21 r_19.Out.length c19], 6⟩, ⟨B18, 136, (r_17.Terms.flatMap enc_Term), c16 * 2⟩, ⟨B19, 61, (r_17.Out.flatMap enc_Affine), c17 * 2⟩, ⟨B20, 136, (r_19.Terms.flatMap enc_Term), c18 * 2⟩, ⟨B21, 61, (r_19.Out.flatMap enc_Affine), c19 * 2⟩] [⟨B, (aP.Terms.flatMap enc_Term)⟩, ⟨B1, (aP.Out.flatMap enc_Affine)⟩] := hS75
                              refine ⟨(ST.sel hS75 [0, 1, 2, 3, 4, 5, 6, 7, 8, 9, 10, 11, 12] rfl rfl), ?_⟩
                              refine ra_q 11 17 (v := .bool r_20) rfl rfl rfl (by kernel_rfl) (by kernel_rfl) (by kernel_rfl) (ST.sel hS75 [0, 1, 2, 3, 4, 5, 6, 7, 8, 9, 10, 11, 12] rfl rfl) (fun w' hw' => (Y_assign (v := .bool r_20) rfl rfl)) ?_
                              refine ra_done (by kernel_rfl) ?_
                              exact ⟨some ⟨b5, 0, none⟩, B20, c18, B21, c19, (FF.cons (hf1.get 8 3 rfl) (FF.cons (hf1.get 9 4 rfl) (FF.cons (hf1.get 11 6 rfl) (FF.cons rfl (FF.cons rfl (FF.cons rfl FF.nil)))))), (hS75.sel [2, 3, 4, 6, 11, 12, 13, 16, 17] rfl rfl)⟩
                            exact allR_nil
                          exact allR_nil
                        exact allR_nil
                      exact allR_nil
                    exact allR_nil
                  rintro f w ⟨B22, B23, c20, B24, c21, hf2, hS57⟩
                  refine cw_seq ?_
                  refine cw_seq ?_
                  refine cw_region ?_
                  refine sq 92 rfl rfl (Y_loadA (B := B22) (i := 0) (cs := [.int .i64 r_19.Ins, .int .i64 r_19.Vars, .int .i64 r_19.Root, .int .i64 r_19.Phase, .slice B23 r_19.Terms.length c20, .slice B24 r_19.Out.length c21]) (vs := [.int .i64 r_19.Ins, .int .i64 r_19.Vars, .int .i64 r_19.Root, .int .i64 r_19.Phase, .slice B23 r_19.Terms.length c20, .slice B24 r_19.Out.length c21]) k_ag_57 k_sz_57_6 rfl (hf2.get 16 4 rfl) (hS57.cf (i := 6) rfl) rfl rfl) ?_
                  refine sq 93 rfl rfl (Y_loadA (B := B6) (i := 0) (cs := [.int .i64 r_4.Ins, .int .i64 r_4.Vars, .int .i64 r_4.Root, .int .i64 r_4.Phase, .slice B7 r_4.Terms.length c6, .slice B8 r_4.Out.length c7]) (vs := [.int .i64 r_4.Ins, .int .i64 r_4.Vars, .int .i64 r_4.Root, .int .i64 r_4.Phase, .slice B7 r_4.Terms.length c6, .slice B8 r_4.Out.length c7]) k_ag_57 k_sz_57_6 rfl (hf2.get 8 0 rfl) (hS57.cf (i := 0) rfl) rfl rfl) ?_
                  obtain ⟨r_21, hc17, hF12⟩ := bind_inv hF12
                  refine sc 94 rfl rfl (Yc_func (g := 25) (vs := [.agg #[.int .i64 r_19.Ins, .int .i64 r_19.Vars, .int .i64 r_19.Root, .int .i64 r_19.Phase, .slice B23 r_19.Terms.length c20, .slice B24 r_19.Out.length c21], .agg #[.int .i64 r_4.Ins, .int .i64 r_4.Vars, .int .i64 r_4.Root, .int .i64 r_4.Phase, .slice B7 r_4.Terms.length c6, .slice B8 r_4.Out.length c7]]) k_call_25 rfl (mc rfl (mc rfl mn)) (c_laws_eqPathSum r_19 r_4 B23 c20 r_19.Terms.length B24 c21 r_19.Out.length B7 c6 r_4.Terms.length B8 c7 r_4.Out.length _ rfl rfl rfl rfl (hS57.inn0 [(false, 7), (false, 8), (false, 1), (false, 2)] rfl) hc17)) ?_
                  rintro _ w_58 ⟨rfl, hd31⟩
                  have hS76 := hS57.out00 hd31
                  have hS76 : ST w0 [] _ [⟨B6, 57, [.int .i64 r_4.Ins, .int .i64 r_4.Vars, .int .i64 r_4.Root, .int .i64 r_4.Phase, .slice B7 r_4.Terms.length c6, .slice B8 r_4.Out.length c7], 6⟩, ⟨B7, 136, (r_4.Terms.flatMap enc_Term), c6 * 2⟩, ⟨B8, 61, (r_4.Out.flatMap enc_Affine), c7 * 2⟩, ⟨B13, 57, [.int .i64 r_8.Ins, .int .i64 r_8.Vars, .int .i64 r_8.Root, .int .i64 r_8.Phase, .slice B14 r_8.Terms.length c12, .slice B15 r_8.Out.length c13], 6⟩, ⟨B14, 136, (m2.flatMap enc_Term), c12 * 2⟩, ⟨B15, 61, (m3.flatMap enc_Affine), c13 * 2⟩, ⟨B22, 57, [.int .i64 r_19.Ins, .int .i64 r_19.Vars, .int .i64 r_19.Root, .int .i64 r_19.Phase, .slice B23 r_19.Terms.length c20, .slice B24 r_19.Out.length c21], 6⟩, ⟨B23, 136, (r_19.Terms.flatMap enc_Term), c20 * 2⟩, ⟨B24, 61, (r_19.Out.flatMap enc_Affine), c21 * 2⟩] [⟨B, (aP.Terms.flatMap enc_Term)⟩, ⟨B1, (aP.Out.flatMap enc_Affine)⟩] := hS76
                  refine sq 95 rfl rfl (Y_not (p := r_21) rfl rfl) ?_
                  refine sq 96 rfl rfl (Y_move (v := .bool (!r_21)) rfl rfl) ?_
                  refine sgq 97 (B := (!(!r_21))) (v := .bool r_20) rfl rfl (wt_f (gd_of (t := 96) (by kernel_rfl) rfl)) (fun hg10 => (Y_move (v := .bool r_20) rfl (hf2.get 17 5 rfl))) ?_
                  refine sgq 98 (B := (!(!r_21))) (v := .bool r_5) rfl rfl (wt_f (gd_of (t := 96) (by kernel_rfl) rfl)) (fun hg11 => (Y_move (v := .bool r_5) rfl (hf2.get 9 1 rfl))) ?_
                  refine sgq 99 (B := (!(!r_21))) (v := .bool (!(r_20 == r_5))) rfl rfl (wt_f (gd_of (t := 96) (by kernel_rfl) rfl)) (fun hg12 => (Y_bne (p := r_20) (q := r_5) k_und_4 rfl (gv_of (B := (!(!r_21))) (v := .bool r_20) hg12) (gv_of (B := (!(!r_21))) (v := .bool r_5) hg12))) ?_
                  refine sq 100 rfl rfl (Y_or (b := (!r_21)) (z := (!(r_20 == r_5))) rfl rfl rfl rfl) ?_
                  refine rw_nil ?_
                  refine cw_cond (b := ((!r_21) || (!(r_20 == r_5)))) rfl (fun hb6 => ?_) (fun hb6 => ?_)
                  · skip
                    have hF13 := ct hF12 hb6
                    refine cw_seq ?_
                    refine cw_region ?_
                    refine sq 6 rfl rfl (Y_assign (v := .bool false) rfl rfl) ?_
                    refine rw_nil ?_
                    refine cw_ret ?_
                    obtain rfl := some_inj hF13
                    exact ret1 Try.results5 (v1 := .bool false) (resAt_tmp rfl) ⟨rfl, (ST.subR (R' := []) (hS76.sel [] rfl rfl) (fun _ h => by cases h))⟩
                  · skip
                    have hF14 := cf' hF12 hb6
                    refine cw_skip ?_
                    refine cw_seq ?_
                    refine cw_region ?_
                    refine sq 15 rfl rfl (Y_assign (v := .int .i64 1) rfl rfl) ?_
                    refine rw_nil ?_
                    refine cw_seq ?_
                    refine cw_region ?_
                    refine sq 101 rfl rfl (Y_loadA (B := B13) (i := 0) (cs := [.int .i64 r_8.Ins, .int .i64 r_8.Vars, .int .i64 r_8.Root, .int .i64 r_8.Phase, .slice B14 r_8.Terms.length c12, .slice B15 r_8.Out.length c13]) (vs := [.int .i64 r_8.Ins, .int .i64 r_8.Vars, .int .i64 r_8.Root, .int .i64 r_8.Phase, .slice B14 r_8.Terms.length c12, .slice B15 r_8.Out.length c13]) k_ag_57 k_sz_57_6 rfl (hf2.get 11 2 rfl) (hS76.cf (i := 3) rfl) rfl rfl) ?_
                    refine sq 102 rfl rfl (Y_move (v := .int .i64 1) rfl rfl) ?_
                    obtain ⟨r_22, hc18, hF14⟩ := bind_inv hF14
                    refine sc 103 rfl rfl (Yc_func (g := 27) (vs := [.agg #[.int .i64 r_8.Ins, .int .i64 r_8.Vars, .int .i64 r_8.Root, .int .i64 r_8.Phase, .slice B14 r_8.Terms.length c12, .slice B15 r_8.Out.length c13], .int .i64 1]) k_call_27 rfl (mc rfl (mc rfl mn)) (c_laws_heldPathSum (TPathSum.mk r_8.Ins r_8.Vars r_8.Root r_8.Phase m2 m3) 1 B14 c12 r_8.Terms.length B15 c13 r_8.Out.length _ hl2 hl3 (hS76.inn0 [(false, 4), (false, 5)] rfl) hc18)) ?_
                    rintro _ w_59 ⟨rfl, hd32⟩
                    have hS77 := hS76.out00 hd32
                    have hS77 : ST w0 [] _ [⟨B6, 57, [.int .i64 r_4.Ins, .int .i64 r_4.Vars, .int .i64 r_4.Root, .int .i64 r_4.Phase, .slice B7 r_4.Terms.length c6, .slice B8 r_4.Out.length c7], 6⟩, ⟨B7, 136, (r_4.Terms.flatMap enc_Term), c6 * 2⟩, ⟨B8, 61, (r_4.Out.flatMap enc_Affine), c7 * 2⟩, ⟨B13, 57, [.int .i64 r_8.Ins, .int .i64 r_8.Vars, .int .i64 r_8.Root, .int .i64 r_8.Phase, .slice B14 r_8.Terms.length c12, .slice B15 r_8.Out.length c13], 6⟩, ⟨B14, 136, (m2.flatMap enc_Term), c12 * 2⟩, ⟨B15, 61, (m3.flatMap enc_Affine), c13 * 2⟩, ⟨B22, 57, [.int .i64 r_19.Ins, .int .i64 r_19.Vars, .int .i64 r_19.Root, .int .i64 r_19.Phase, .slice B23 r_19.Terms.length c20, .slice B24 r_19.Out.length c21], 6⟩, ⟨B23, 136, (r_19.Terms.flatMap enc_Term), c20 * 2⟩, ⟨B24, 61, (r_19.Out.flatMap enc_Affine), c21 * 2⟩] [⟨B, (aP.Terms.flatMap enc_Term)⟩, ⟨B1, (aP.Out.flatMap enc_Affine)⟩] := hS77
                    refine sq 15 rfl rfl (Y_assign (v := .int .i64 r_22) rfl rfl) ?_
                    refine rw_nil ?_
                    refine cw_seq ?_
                    refine cw_seq ?_
                    refine cw_region ?_
                    refine sq 104 rfl rfl (Y_move (v := .int .i64 r_22) rfl rfl) ?_
                    refine sq 105 rfl rfl (Y_lt (k := .i64) (a := r_22) (b := 0) rfl rfl rfl) ?_
                    refine rw_nil ?_
                    refine cw_cond (b := (decide (r_22 < 0))) rfl (fun hb7 => ?_) (fun hb7 => ?_)
                    · skip
                      have hF15 := ct hF14 hb7
                      refine cw_seq ?_
                      refine cw_region ?_
                      refine sq 6 rfl rfl (Y_assign (v := .bool false) rfl rfl) ?_
                      refine rw_nil ?_
                      refine cw_ret ?_
                      obtain rfl := some_inj hF15
                      exact ret1 Try.results5 (v1 := .bool false) (resAt_tmp rfl) ⟨rfl, (ST.subR (R' := []) (hS77.sel [] rfl rfl) (fun _ h => by cases h))⟩
                    · skip
                      have hF16 := cf' hF14 hb7
                      refine cw_skip ?_
                      refine cw_seq ?_
                      refine cw_seq ?_
                      refine cw_region ?_
                      refine sq 106 rfl rfl (Y_move (v := .int .i64 r_22) rfl rfl) ?_
                      refine sq 107 rfl rfl (Y_move (v := .int .i64 r_15) rfl (hf2.get 14 3 rfl)) ?_
                      refine sq 108 rfl rfl (Y_ne (k := .i64) (a := r_22) (b := r_15) rfl rfl rfl) ?_
                      refine rw_nil ?_
                      refine cw_cond (b := (r_22 != r_15)) rfl (fun hb8 => ?_) (fun hb8 => ?_)
                      · skip
                        have hF17 := ct hF16 hb8
                        refine cw_seq ?_
                        refine cw_region ?_
                        refine sq 6 rfl rfl (Y_assign (v := .bool false) rfl rfl) ?_
                        refine rw_nil ?_
                        refine cw_ret ?_
                        obtain rfl := some_inj hF17
                        exact ret1 Try.results5 (v1 := .bool false) (resAt_tmp rfl) ⟨rfl, (ST.subR (R' := []) (hS77.sel [] rfl rfl) (fun _ h => by cases h))⟩
                      · skip
                        have hF18 := cf' hF16 hb8
                        refine cw_skip ?_
                        refine cw_seq ?_
                        refine cw_region ?_
                        refine sq 6 rfl rfl (Y_assign (v := .bool true) rfl rfl) ?_
                        refine rw_nil ?_
                        refine cw_ret ?_
                        obtain rfl := some_inj hF18
                        exact ret1 Try.results5 (v1 := .bool true) (resAt_tmp rfl) ⟨rfl, (ST.subR (R' := []) (hS77.sel [] rfl rfl) (fun _ h => by cases h))⟩
        exact allR_nil
      exact allR_nil
end Go.VK
