/- Walks: each Go function returns what its Lean function says. By program. -/
import Derived.Test.YtchihdcajdocgaaPauliMatrixFa
import Derived.Test.YtchihdcajdocgaaPauliMatrixW2
set_option linter.unusedVariables false
set_option maxRecDepth 100000
set_option maxHeartbeats 1000000
namespace Go.VK
open Go.RowKit
open Go.Proofs
attribute [local irreducible] CW RW RA CV Y Yw Yc Ys RetOf
attribute [local irreducible] F_spec_l1In F_spec_l7Valid F_spec_l7Letter F_spec_l1Turn F_spec_l2Power F_spec_l3Unit F_spec_l1Even F_spec_l1Root F_spec_l1Half F_spec_l2Low F_spec_l1All F_spec_l1Good F_spec_l2C_ring F_spec_l1Add F_spec_l2C_add F_spec_l1Mul F_spec_l2C_mul F_spec_l2C_times F_spec_l6Bit F_spec_l1Neg F_spec_l2Neg F_spec_l6One F_spec_l6Cell F_spec_l6Gate F_spec_l2C_run F_spec_l6Op F_spec_l7Op F_spec_PauliMatrix F_laws_toPauli F_impl_within F_impl_IsValidPauli F_impl_isDim F_impl_matrixOf F_impl_isCoef F_impl_IsValidRing F_impl_MulOmega F_impl_phase F_impl_ringIf F_impl_MulRing F_impl_isEven F_impl_IsValidDyadic F_impl_DivRootTwo F_impl_DyadicOf F_impl_MulDyadic F_impl_whole F_impl_small F_impl_entry F_impl_factor F_impl_letterOf F_impl_bitOf F_impl_PauliMatrix_1 F_impl_PauliMatrix F_laws_eqRing F_laws_eqDyadic F_laws_eqDyadicS F_laws_eqMatrix F_laws_markDyadicS F_laws_markMatrix F_laws_heldDyadicS F_laws_heldMatrix F_laws_FnExactPauliMatrix
theorem c_impl_ringIf (out : TRing) (args : List TRing) (B : Option Addr) (c n : Nat) (w0 : World) (hn : args.length = n) (hS : ST w0 (bl [⟨B, 42, (args.flatMap enc_Ring), c * 4⟩]) w0 [⟨B, 42, (args.flatMap enc_Ring), c * 4⟩] []) {r_ : TRing} {r_1 : Bool} (hF : F_impl_ringIf out args = some (r_, r_1)) :
    CV Try.prog 135 #[.agg #[.int .i64 out.A, .int .i64 out.B, .int .i64 out.C, .int .i64 out.D], .slice B n c] w0 (fun v w' => v = .tuple #[.agg #[.int .i64 r_.A, .int .i64 r_.B, .int .i64 r_.C, .int .i64 r_.D], .bool r_1] ∧ ST w0 (bl [⟨B, 42, (args.flatMap enc_Ring), c * 4⟩]) w' [] []) := by
  subst hn
  unfold F_impl_ringIf at hF
  refine cv_of_cw 23 Try.func135 rfl Try.ntmps135 rfl ?_
  refine cw_seq ?_
  refine cw_region ?_
  refine ss 2 rfl rfl (Ys_box (T := 42) (v := .agg #[.int .i64 out.A, .int .i64 out.B, .int .i64 out.C, .int .i64 out.D]) (cs := [.int .i64 out.A, .int .i64 out.B, .int .i64 out.C, .int .i64 out.D]) (m := 4) hS rfl rfl rfl rfl) ?_
  rintro _ w_ ⟨b, rfl, hS1⟩
  have hS1 : ST w0 (bl [⟨B, 42, (args.flatMap enc_Ring), c * 4⟩]) _ [⟨B, 42, (args.flatMap enc_Ring), c * 4⟩, ⟨some ⟨b, 0, none⟩, 42, [.int .i64 out.A, .int .i64 out.B, .int .i64 out.C, .int .i64 out.D], 4⟩] [] := hS1
  refine ss 4 rfl rfl (Ys_alloc (T := 42) (cs := [.int .i64 0, .int .i64 0, .int .i64 0, .int .i64 0]) (m := 4) hS1 k_zero_42 rfl rfl rfl) ?_
  rintro _ w_1 ⟨b1, rfl, hS2⟩
  have hS2 : ST w0 (bl [⟨B, 42, (args.flatMap enc_Ring), c * 4⟩]) _ [⟨B, 42, (args.flatMap enc_Ring), c * 4⟩, ⟨some ⟨b, 0, none⟩, 42, [.int .i64 out.A, .int .i64 out.B, .int .i64 out.C, .int .i64 out.D], 4⟩, ⟨some ⟨b1, 0, none⟩, 42, [.int .i64 0, .int .i64 0, .int .i64 0, .int .i64 0], 4⟩] [] := hS2
  refine sq 5 rfl rfl (Y_assign (v := .bool false) rfl rfl) ?_
  refine rw_nil ?_
  refine cw_seq ?_
  refine cw_seq ?_
  refine cw_region ?_
  refine sq 8 rfl rfl (Y_move (v := .slice B args.length c) rfl rfl) ?_
  refine sq 9 rfl rfl (Y_loadA (B := some ⟨b, 0, none⟩) (i := 0) (cs := [.int .i64 out.A, .int .i64 out.B, .int .i64 out.C, .int .i64 out.D]) (vs := [.int .i64 out.A, .int .i64 out.B, .int .i64 out.C, .int .i64 out.D]) k_ag_42 k_sz_42_4 rfl rfl (hS2.cf (i := 1) rfl) rfl rfl) ?_
  refine ss 10 rfl rfl (Ys_bslice (s := 4) (len := 1) (vs := [(0, .agg #[.int .i64 out.A, .int .i64 out.B, .int .i64 out.C, .int .i64 out.D])]) (cs := [.int .i64 out.A, .int .i64 out.B, .int .i64 out.C, .int .i64 out.D]) (zs := [.int .i64 0, .int .i64 0, .int .i64 0, .int .i64 0]) (m := 4) hS2 k_sl_171_42 k_sz_42_4 k_zc_42 rfl (mpc rfl mpn) rfl rfl rfl (by kernel_rfl) (by kernel_rfl) rfl) ?_
  rintro _ w_2 ⟨b2, rfl, hS3⟩
  have hS3 : ST w0 (bl [⟨B, 42, (args.flatMap enc_Ring), c * 4⟩]) _ [⟨B, 42, (args.flatMap enc_Ring), c * 4⟩, ⟨some ⟨b, 0, none⟩, 42, [.int .i64 out.A, .int .i64 out.B, .int .i64 out.C, .int .i64 out.D], 4⟩, ⟨some ⟨b1, 0, none⟩, 42, [.int .i64 0, .int .i64 0, .int .i64 0, .int .i64 0], 4⟩, ⟨some ⟨b2, 0, none⟩, 42, ([out].flatMap enc_Ring), 1 * 4⟩] [] := hS3
  obtain ⟨hap, hF⟩ := chk_inv hF
  refine ss 11 rfl rfl (Ys_append (s := 4) (by' := 32) (i := 0) (nn := args.length) (c := c) (k := 1) (len := (args ++ [out]).length) (B := B) (xs := ([out].flatMap enc_Ring)) (cs' := ((args ++ [out]).flatMap enc_Ring)) hS3 k_sl_171_42 k_sz_42_4 k_by_42_32 k_zero_42 rfl (by decide) rfl rfl rfl rfl (fm_lenn (l := args) enc_Ring_len rfl) rfl (hS3.cf (i := 3) rfl) (fm_lenn (l := [out]) enc_Ring_len rfl) (fm_one' (enc := enc_Ring) enc_Ring_one [out]) (by have := hap; omega) (by have := hap; simp only [maxLen]; omega) (fm_app _ _) (app_len (l := args) (l' := [out]) rfl rfl)) ?_
  rintro _ w_3 ⟨B1, c1, rfl, hS4⟩
  have hS4 : ST w0 (bl [⟨B, 42, (args.flatMap enc_Ring), c * 4⟩]) _ [⟨B1, 42, ((args ++ [out]).flatMap enc_Ring), c1 * 4⟩, ⟨some ⟨b, 0, none⟩, 42, [.int .i64 out.A, .int .i64 out.B, .int .i64 out.C, .int .i64 out.D], 4⟩, ⟨some ⟨b1, 0, none⟩, 42, [.int .i64 0, .int .i64 0, .int .i64 0, .int .i64 0], 4⟩, ⟨some ⟨b2, 0, none⟩, 42, ([out].flatMap enc_Ring), 1 * 4⟩] [] := hS4
  refine sq 12 rfl rfl (Y_len (B := B1) (m := (args ++ [out]).length) (c := c1) k_sl_171_42 rfl rfl) ?_
  refine sq 13 rfl rfl (Y_move (v := .int .i64 0) rfl rfl) ?_
  refine rw_nil ?_
  obtain ⟨hN, hF⟩ := chk_inv hF
  obtain ⟨z, hz, hF1⟩ := bind_inv hF
  refine cw_block ?_
  refine cw_loop (fun k f w => ∃ (i : Nat), FF f [(2, pt (some ⟨b, 0, none⟩) 0), (4, pt (some ⟨b1, 0, none⟩) 0), (11, .slice B1 ((args ++ [out]).length) c1), (12, .int .i64 ((args ++ [out]).length : Int)), (13, .int .i64 (i : Int))] ∧ ST w0 (bl [⟨B, 42, (args.flatMap enc_Ring), c * 4⟩]) w [⟨some ⟨b, 0, none⟩, 42, [.int .i64 out.A, .int .i64 out.B, .int .i64 out.C, .int .i64 out.D], 4⟩, ⟨some ⟨b1, 0, none⟩, 42, [.int .i64 0, .int .i64 0, .int .i64 0, .int .i64 0], 4⟩, ⟨B1, 42, ((args ++ [out]).flatMap enc_Ring), c1 * 4⟩] [] ∧ i + k = (args ++ [out]).length ∧ forX (F_impl_ringIf_l1 args out) k i () = some z) ((args ++ [out]).length) ⟨0, (FF.cons rfl (FF.cons rfl (FF.cons rfl (FF.cons rfl (FF.cons rfl FF.nil))))), (hS4.sel [1, 2, 0] rfl rfl), Nat.zero_add _, hz⟩ ?_
  rintro k_ f w ⟨i, hf, hS5, hik, hL⟩
  refine cw_seq ?_
  refine cw_region ?_
  refine sq 14 rfl rfl (Y_lt (k := .i64) (a := (i : Int)) (b := ((args ++ [out]).length : Int)) rfl (hf.get 13 4 rfl) (hf.get 12 3 rfl)) ?_
  refine rw_nil ?_
  refine cw_seq ?_
  refine cw_cond (b := (decide ((i : Int) < ((args ++ [out]).length : Int)))) rfl (fun hlt => ?_) (fun hlt => ?_)
  · skip
    have hlt1 : i < (args ++ [out]).length := by have h := of_decide_eq_true hlt; omega
    obtain ⟨k_1, rfl⟩ : ∃ k2, k_ = k2 + 1 := ⟨k_ - 1, by omega⟩
    obtain ⟨y, hb, hL1⟩ := forX_go hL
    unfold F_impl_ringIf_l1 at hb
    refine cw_skip ?_
    refine cw_seq ?_
    refine cw_block ?_
    refine cw_seq ?_
    refine cw_region ?_
    obtain ⟨x, hx, hb⟩ := bind_inv hb
    refine sq 15 rfl rfl (Y_index (B := B1) (m := (args ++ [out]).length) (c := c1) (k := .i64) (i := (i : Int)) k_sl_171_42 k_sz_42_4 rfl (hf.get 11 2 rfl) (hf.get 13 4 rfl) (gi_isSome enc_Ring_len rfl (hS5.cf (i := 2) rfl) hx) (getI_nn hx) (getI_ltI hx rfl)) ?_
    refine sq 16 rfl rfl (Y_loadA (B := B1) (i := (i : Int).toNat * 4) (cs := ((args ++ [out]).flatMap enc_Ring)) (vs := [.int .i64 x.A, .int .i64 x.B, .int .i64 x.C, .int .i64 x.D]) k_ag_42 k_sz_42_4 rfl rfl (hS5.cf (i := 2) rfl) (enc_Ring_len x) (gi_seg enc_Ring_len hx)) ?_
    refine ss 7 rfl rfl (Ys_alloc (T := 42) (cs := [.int .i64 0, .int .i64 0, .int .i64 0, .int .i64 0]) (m := 4) hS5 k_zero_42 rfl rfl rfl) ?_
    rintro _ w_4 ⟨b3, rfl, hS6⟩
    have hS6 : ST w0 (bl [⟨B, 42, (args.flatMap enc_Ring), c * 4⟩]) _ [⟨some ⟨b, 0, none⟩, 42, [.int .i64 out.A, .int .i64 out.B, .int .i64 out.C, .int .i64 out.D], 4⟩, ⟨some ⟨b1, 0, none⟩, 42, [.int .i64 0, .int .i64 0, .int .i64 0, .int .i64 0], 4⟩, ⟨B1, 42, ((args ++ [out]).flatMap enc_Ring), c1 * 4⟩, ⟨some ⟨b3, 0, none⟩, 42, [.int .i64 0, .int .i64 0, .int .i64 0, .int .i64 0], 4⟩] [] := hS6
    refine ss0 rfl rfl (Ys_store (i := 3) (s := 4) (B := some ⟨b3, 0, none⟩) (T' := 42) (v := .agg #[.int .i64 x.A, .int .i64 x.B, .int .i64 x.C, .int .i64 x.D]) (vs := [.int .i64 x.A, .int .i64 x.B, .int .i64 x.C, .int .i64 x.D]) (k := 0) (cs' := [.int .i64 x.A, .int .i64 x.B, .int .i64 x.C, .int .i64 x.D]) hS6 k_sz_42_4 rfl rfl rfl rfl rfl rfl rfl (Nat.le_of_ble_eq_true rfl) rfl rfl) ?_
    rintro _ w_5 ⟨rfl, hS7⟩
    have hS7 : ST w0 (bl [⟨B, 42, (args.flatMap enc_Ring), c * 4⟩]) _ [⟨some ⟨b, 0, none⟩, 42, [.int .i64 out.A, .int .i64 out.B, .int .i64 out.C, .int .i64 out.D], 4⟩, ⟨some ⟨b1, 0, none⟩, 42, [.int .i64 0, .int .i64 0, .int .i64 0, .int .i64 0], 4⟩, ⟨B1, 42, ((args ++ [out]).flatMap enc_Ring), c1 * 4⟩, ⟨some ⟨b3, 0, none⟩, 42, [.int .i64 x.A, .int .i64 x.B, .int .i64 x.C, .int .i64 x.D], 4⟩] [] := hS7
    refine rw_nil ?_
    refine cw_seq ?_
    refine cw_region ?_
    refine sq 17 rfl rfl (Y_loadA (B := some ⟨b3, 0, none⟩) (i := 0) (cs := [.int .i64 x.A, .int .i64 x.B, .int .i64 x.C, .int .i64 x.D]) (vs := [.int .i64 x.A, .int .i64 x.B, .int .i64 x.C, .int .i64 x.D]) k_ag_42 k_sz_42_4 rfl rfl (hS7.cf (i := 3) rfl) rfl rfl) ?_
    obtain ⟨r_2, hc, hb⟩ := bind_inv hb
    refine sc 18 rfl rfl (Yc_func (g := 134) (vs := [.agg #[.int .i64 x.A, .int .i64 x.B, .int .i64 x.C, .int .i64 x.D]]) k_call_134 rfl (mc rfl mn) (c_impl_IsValidRing x _  (hS7.inn0 [] rfl) hc)) ?_
    rintro _ w_6 ⟨rfl, hd⟩
    have hS8 := hS7.out00 hd
    have hS8 : ST w0 (bl [⟨B, 42, (args.flatMap enc_Ring), c * 4⟩]) _ [⟨some ⟨b, 0, none⟩, 42, [.int .i64 out.A, .int .i64 out.B, .int .i64 out.C, .int .i64 out.D], 4⟩, ⟨some ⟨b1, 0, none⟩, 42, [.int .i64 0, .int .i64 0, .int .i64 0, .int .i64 0], 4⟩, ⟨B1, 42, ((args ++ [out]).flatMap enc_Ring), c1 * 4⟩, ⟨some ⟨b3, 0, none⟩, 42, [.int .i64 x.A, .int .i64 x.B, .int .i64 x.C, .int .i64 x.D], 4⟩] [] := hS8
    refine sq 19 rfl rfl (Y_not (p := r_2) rfl rfl) ?_
    refine rw_nil ?_
    refine cw_cond (b := (!r_2)) rfl (fun hb1 => ?_) (fun hb1 => ?_)
    · skip
      have hF2 := ct hb hb1
      refine cw_seq ?_
      refine cw_region ?_
      refine sq 20 rfl rfl (Y_buildS (zs := [.int .i64 0, .int .i64 0, .int .i64 0, .int .i64 0]) (vs := []) (cs := [.int .i64 0, .int .i64 0, .int .i64 0, .int .i64 0]) k_pl_42 k_zero_42 rfl mpn rfl) ?_
      refine ss0 rfl rfl (Ys_store (i := 1) (s := 4) (B := some ⟨b1, 0, none⟩) (T' := 42) (v := .agg #[.int .i64 0, .int .i64 0, .int .i64 0, .int .i64 0]) (vs := [.int .i64 0, .int .i64 0, .int .i64 0, .int .i64 0]) (k := 0) (cs' := [.int .i64 0, .int .i64 0, .int .i64 0, .int .i64 0]) hS8 k_sz_42_4 rfl (hf.get 4 1 rfl) rfl rfl rfl rfl rfl (Nat.le_of_ble_eq_true rfl) rfl rfl) ?_
      rintro _ w_7 ⟨rfl, hS9⟩
      have hS9 : ST w0 (bl [⟨B, 42, (args.flatMap enc_Ring), c * 4⟩]) _ [⟨some ⟨b, 0, none⟩, 42, [.int .i64 out.A, .int .i64 out.B, .int .i64 out.C, .int .i64 out.D], 4⟩, ⟨some ⟨b1, 0, none⟩, 42, [.int .i64 0, .int .i64 0, .int .i64 0, .int .i64 0], 4⟩, ⟨B1, 42, ((args ++ [out]).flatMap enc_Ring), c1 * 4⟩, ⟨some ⟨b3, 0, none⟩, 42, [.int .i64 x.A, .int .i64 x.B, .int .i64 x.C, .int .i64 x.D], 4⟩] [] := hS9
      refine sq 5 rfl rfl (Y_assign (v := .bool false) rfl rfl) ?_
      refine rw_nil ?_
      refine cw_ret ?_
      obtain rfl := some_inj hF2
      obtain rfl := some_inj hL1
      obtain ⟨rfl, rfl⟩ := pr2 (some_inj hF1)
      exact ret2 Try.results135 (v1 := .agg #[.int .i64 0, .int .i64 0, .int .i64 0, .int .i64 0]) (resAt_cellA (B := some ⟨b1, 0, none⟩) (i := 0) (cs := [.int .i64 0, .int .i64 0, .int .i64 0, .int .i64 0]) (vs := [.int .i64 0, .int .i64 0, .int .i64 0, .int .i64 0]) (hf.get 4 1 rfl) k_ag_42 k_sz_42_4 (hS9.cf (i := 1) rfl) rfl rfl) (v2 := .bool false) (resAt_tmp rfl) ⟨rfl, (ST.subR (R' := []) (hS9.sel [] rfl rfl) (fun _ h => by cases h))⟩
    · skip
      have hF3 := cf' hb hb1
      refine cw_skip ?_
      refine cw_region ?_
      refine sq 21 rfl rfl (Y_add (k := .i64) (a := (i : Int)) (b := 1) rfl (hf.get 13 4 rfl) rfl) ?_
      refine sq 13 rfl rfl (Y_move (v := .int .i64 (IntKind.i64.wrap ((i : Int) + 1))) rfl rfl) ?_
      refine rw_nil ?_
      obtain rfl := some_inj hF3
      exact ⟨k_1, Nat.lt_succ_self _, i + 1, (FF.cons (hf.get 2 0 rfl) (FF.cons (hf.get 4 1 rfl) (FF.cons (hf.get 11 2 rfl) (FF.cons (hf.get 12 3 rfl) (FF.cons (congrArg (Value.int .i64) (wr_succ hlt1 hN)) FF.nil))))), (hS8.sel [0, 1, 2] rfl rfl), (by omega), hL1⟩
  · skip
    obtain rfl : k_ = 0 := by have h := of_decide_eq_false hlt; omega
    refine cw_exit rfl ?_
    obtain rfl := some_inj hL
    refine cw_seq ?_
    refine cw_region ?_
    refine sq 22 rfl rfl (Y_loadA (B := some ⟨b, 0, none⟩) (i := 0) (cs := [.int .i64 out.A, .int .i64 out.B, .int .i64 out.C, .int .i64 out.D]) (vs := [.int .i64 out.A, .int .i64 out.B, .int .i64 out.C, .int .i64 out.D]) k_ag_42 k_sz_42_4 rfl (hf.get 2 0 rfl) (hS5.cf (i := 0) rfl) rfl rfl) ?_
    refine ss0 rfl rfl (Ys_store (i := 1) (s := 4) (B := some ⟨b1, 0, none⟩) (T' := 42) (v := .agg #[.int .i64 out.A, .int .i64 out.B, .int .i64 out.C, .int .i64 out.D]) (vs := [.int .i64 out.A, .int .i64 out.B, .int .i64 out.C, .int .i64 out.D]) (k := 0) (cs' := [.int .i64 out.A, .int .i64 out.B, .int .i64 out.C, .int .i64 out.D]) hS5 k_sz_42_4 rfl (hf.get 4 1 rfl) rfl rfl rfl rfl rfl (Nat.le_of_ble_eq_true rfl) rfl rfl) ?_
    rintro _ w_8 ⟨rfl, hS10⟩
    have hS10 : ST w0 (bl [⟨B, 42, (args.flatMap enc_Ring), c * 4⟩]) _ [⟨some ⟨b, 0, none⟩, 42, [.int .i64 out.A, .int .i64 out.B, .int .i64 out.C, .int .i64 out.D], 4⟩, ⟨some ⟨b1, 0, none⟩, 42, [.int .i64 out.A, .int .i64 out.B, .int .i64 out.C, .int .i64 out.D], 4⟩, ⟨B1, 42, ((args ++ [out]).flatMap enc_Ring), c1 * 4⟩] [] := hS10
    refine sq 5 rfl rfl (Y_assign (v := .bool true) rfl rfl) ?_
    refine rw_nil ?_
    refine cw_ret ?_
    obtain ⟨rfl, rfl⟩ := pr2 (some_inj hF1)
    exact ret2 Try.results135 (v1 := .agg #[.int .i64 out.A, .int .i64 out.B, .int .i64 out.C, .int .i64 out.D]) (resAt_cellA (B := some ⟨b1, 0, none⟩) (i := 0) (cs := [.int .i64 out.A, .int .i64 out.B, .int .i64 out.C, .int .i64 out.D]) (vs := [.int .i64 out.A, .int .i64 out.B, .int .i64 out.C, .int .i64 out.D]) (hf.get 4 1 rfl) k_ag_42 k_sz_42_4 (hS10.cf (i := 1) rfl) rfl rfl) (v2 := .bool true) (resAt_tmp rfl) ⟨rfl, (ST.subR (R' := []) (hS10.sel [] rfl rfl) (fun _ h => by cases h))⟩

theorem c_impl_MulRing (x : TRing) (y : TRing)  (w0 : World)  (hS : ST w0 [] w0 [] []) {r_ : TRing} {r_1 : Bool} (hF : F_impl_MulRing x y = some (r_, r_1)) :
    CV Try.prog 101 #[.agg #[.int .i64 x.A, .int .i64 x.B, .int .i64 x.C, .int .i64 x.D], .agg #[.int .i64 y.A, .int .i64 y.B, .int .i64 y.C, .int .i64 y.D]] w0 (fun v w' => v = .tuple #[.agg #[.int .i64 r_.A, .int .i64 r_.B, .int .i64 r_.C, .int .i64 r_.D], .bool r_1] ∧ ST w0 [] w' [] []) := by
  unfold F_impl_MulRing at hF
  refine cv_of_cw 105 Try.func101 rfl Try.ntmps101 rfl ?_
  refine cw_seq ?_
  refine cw_region ?_
  refine ss 2 rfl rfl (Ys_box (T := 42) (v := .agg #[.int .i64 x.A, .int .i64 x.B, .int .i64 x.C, .int .i64 x.D]) (cs := [.int .i64 x.A, .int .i64 x.B, .int .i64 x.C, .int .i64 x.D]) (m := 4) hS rfl rfl rfl rfl) ?_
  rintro _ w_ ⟨b, rfl, hS1⟩
  refine ss 3 rfl rfl (Ys_box (T := 42) (v := .agg #[.int .i64 y.A, .int .i64 y.B, .int .i64 y.C, .int .i64 y.D]) (cs := [.int .i64 y.A, .int .i64 y.B, .int .i64 y.C, .int .i64 y.D]) (m := 4) hS1 rfl rfl rfl rfl) ?_
  rintro _ w_1 ⟨b1, rfl, hS2⟩
  have hS2 : ST w0 [] _ [⟨some ⟨b, 0, none⟩, 42, [.int .i64 x.A, .int .i64 x.B, .int .i64 x.C, .int .i64 x.D], 4⟩, ⟨some ⟨b1, 0, none⟩, 42, [.int .i64 y.A, .int .i64 y.B, .int .i64 y.C, .int .i64 y.D], 4⟩] [] := hS2
  refine ss 4 rfl rfl (Ys_alloc (T := 42) (cs := [.int .i64 0, .int .i64 0, .int .i64 0, .int .i64 0]) (m := 4) hS2 k_zero_42 rfl rfl rfl) ?_
  rintro _ w_2 ⟨b2, rfl, hS3⟩
  have hS3 : ST w0 [] _ [⟨some ⟨b, 0, none⟩, 42, [.int .i64 x.A, .int .i64 x.B, .int .i64 x.C, .int .i64 x.D], 4⟩, ⟨some ⟨b1, 0, none⟩, 42, [.int .i64 y.A, .int .i64 y.B, .int .i64 y.C, .int .i64 y.D], 4⟩, ⟨some ⟨b2, 0, none⟩, 42, [.int .i64 0, .int .i64 0, .int .i64 0, .int .i64 0], 4⟩] [] := hS3
  refine sq 5 rfl rfl (Y_assign (v := .bool false) rfl rfl) ?_
  refine rw_nil ?_
  refine cw_seq ?_
  refine cw_region ?_
  refine sq 6 rfl rfl (Y_fieldAddr (B := some ⟨b, 0, none⟩) (i := 0) (s := 0) k_fd_42_0_0_3 k_sz_3_1 rfl rfl) ?_
  refine sq 7 rfl rfl (Y_load1 (B := some ⟨b, 0, none⟩) (i := 0) (cs := [.int .i64 x.A, .int .i64 x.B, .int .i64 x.C, .int .i64 x.D]) (v := .int .i64 x.A) k_sc_3 rfl rfl (hS3.cf (i := 0) rfl) rfl) ?_
  refine sq 8 rfl rfl (Y_fieldAddr (B := some ⟨b1, 0, none⟩) (i := 0) (s := 0) k_fd_42_0_0_3 k_sz_3_1 rfl rfl) ?_
  refine sq 9 rfl rfl (Y_load1 (B := some ⟨b1, 0, none⟩) (i := 0) (cs := [.int .i64 y.A, .int .i64 y.B, .int .i64 y.C, .int .i64 y.D]) (v := .int .i64 y.A) k_sc_3 rfl rfl (hS3.cf (i := 1) rfl) rfl) ?_
  refine sq 10 rfl rfl (Y_mul (k := .i64) (a := x.A) (b := y.A) rfl rfl rfl) ?_
  refine sq 11 rfl rfl (Y_fieldAddr (B := some ⟨b, 0, none⟩) (i := 0) (s := 0) k_fd_42_1_1_3 k_sz_3_1 rfl rfl) ?_
  refine sq 12 rfl rfl (Y_load1 (B := some ⟨b, 0, none⟩) (i := 1) (cs := [.int .i64 x.A, .int .i64 x.B, .int .i64 x.C, .int .i64 x.D]) (v := .int .i64 x.B) k_sc_3 rfl rfl (hS3.cf (i := 0) rfl) rfl) ?_
  refine sq 13 rfl rfl (Y_fieldAddr (B := some ⟨b1, 0, none⟩) (i := 0) (s := 0) k_fd_42_3_3_3 k_sz_3_1 rfl rfl) ?_
  refine sq 14 rfl rfl (Y_load1 (B := some ⟨b1, 0, none⟩) (i := 3) (cs := [.int .i64 y.A, .int .i64 y.B, .int .i64 y.C, .int .i64 y.D]) (v := .int .i64 y.D) k_sc_3 rfl rfl (hS3.cf (i := 1) rfl) rfl) ?_
  refine sq 15 rfl rfl (Y_mul (k := .i64) (a := x.B) (b := y.D) rfl rfl rfl) ?_
  refine sq 16 rfl rfl (Y_sub (k := .i64) (a := (IntKind.i64.wrap (x.A * y.A))) (b := (IntKind.i64.wrap (x.B * y.D))) rfl rfl rfl) ?_
  refine sq 17 rfl rfl (Y_fieldAddr (B := some ⟨b, 0, none⟩) (i := 0) (s := 0) k_fd_42_2_2_3 k_sz_3_1 rfl rfl) ?_
  refine sq 18 rfl rfl (Y_load1 (B := some ⟨b, 0, none⟩) (i := 2) (cs := [.int .i64 x.A, .int .i64 x.B, .int .i64 x.C, .int .i64 x.D]) (v := .int .i64 x.C) k_sc_3 rfl rfl (hS3.cf (i := 0) rfl) rfl) ?_
  refine sq 19 rfl rfl (Y_fieldAddr (B := some ⟨b1, 0, none⟩) (i := 0) (s := 0) k_fd_42_2_2_3 k_sz_3_1 rfl rfl) ?_
  refine sq 20 rfl rfl (Y_load1 (B := some ⟨b1, 0, none⟩) (i := 2) (cs := [.int .i64 y.A, .int .i64 y.B, .int .i64 y.C, .int .i64 y.D]) (v := .int .i64 y.C) k_sc_3 rfl rfl (hS3.cf (i := 1) rfl) rfl) ?_
  refine sq 21 rfl rfl (Y_mul (k := .i64) (a := x.C) (b := y.C) rfl rfl rfl) ?_
  refine sq 22 rfl rfl (Y_sub (k := .i64) (a := (IntKind.i64.wrap ((IntKind.i64.wrap (x.A * y.A)) - (IntKind.i64.wrap (x.B * y.D))))) (b := (IntKind.i64.wrap (x.C * y.C))) rfl rfl rfl) ?_
  refine sq 23 rfl rfl (Y_fieldAddr (B := some ⟨b, 0, none⟩) (i := 0) (s := 0) k_fd_42_3_3_3 k_sz_3_1 rfl rfl) ?_
  refine sq 24 rfl rfl (Y_load1 (B := some ⟨b, 0, none⟩) (i := 3) (cs := [.int .i64 x.A, .int .i64 x.B, .int .i64 x.C, .int .i64 x.D]) (v := .int .i64 x.D) k_sc_3 rfl rfl (hS3.cf (i := 0) rfl) rfl) ?_
  refine sq 25 rfl rfl (Y_fieldAddr (B := some ⟨b1, 0, none⟩) (i := 0) (s := 0) k_fd_42_1_1_3 k_sz_3_1 rfl rfl) ?_
  refine sq 26 rfl rfl (Y_load1 (B := some ⟨b1, 0, none⟩) (i := 1) (cs := [.int .i64 y.A, .int .i64 y.B, .int .i64 y.C, .int .i64 y.D]) (v := .int .i64 y.B) k_sc_3 rfl rfl (hS3.cf (i := 1) rfl) rfl) ?_
  refine sq 27 rfl rfl (Y_mul (k := .i64) (a := x.D) (b := y.B) rfl rfl rfl) ?_
  refine sq 28 rfl rfl (Y_sub (k := .i64) (a := (IntKind.i64.wrap ((IntKind.i64.wrap ((IntKind.i64.wrap (x.A * y.A)) - (IntKind.i64.wrap (x.B * y.D)))) - (IntKind.i64.wrap (x.C * y.C))))) (b := (IntKind.i64.wrap (x.D * y.B))) rfl rfl rfl) ?_
  refine sq 29 rfl rfl (Y_fieldAddr (B := some ⟨b, 0, none⟩) (i := 0) (s := 0) k_fd_42_0_0_3 k_sz_3_1 rfl rfl) ?_
  refine sq 30 rfl rfl (Y_load1 (B := some ⟨b, 0, none⟩) (i := 0) (cs := [.int .i64 x.A, .int .i64 x.B, .int .i64 x.C, .int .i64 x.D]) (v := .int .i64 x.A) k_sc_3 rfl rfl (hS3.cf (i := 0) rfl) rfl) ?_
  refine sq 31 rfl rfl (Y_fieldAddr (B := some ⟨b1, 0, none⟩) (i := 0) (s := 0) k_fd_42_1_1_3 k_sz_3_1 rfl rfl) ?_
  refine sq 32 rfl rfl (Y_load1 (B := some ⟨b1, 0, none⟩) (i := 1) (cs := [.int .i64 y.A, .int .i64 y.B, .int .i64 y.C, .int .i64 y.D]) (v := .int .i64 y.B) k_sc_3 rfl rfl (hS3.cf (i := 1) rfl) rfl) ?_
  refine sq 33 rfl rfl (Y_mul (k := .i64) (a := x.A) (b := y.B) rfl rfl rfl) ?_
  refine sq 34 rfl rfl (Y_fieldAddr (B := some ⟨b, 0, none⟩) (i := 0) (s := 0) k_fd_42_1_1_3 k_sz_3_1 rfl rfl) ?_
  refine sq 35 rfl rfl (Y_load1 (B := some ⟨b, 0, none⟩) (i := 1) (cs := [.int .i64 x.A, .int .i64 x.B, .int .i64 x.C, .int .i64 x.D]) (v := .int .i64 x.B) k_sc_3 rfl rfl (hS3.cf (i := 0) rfl) rfl) ?_
  refine sq 36 rfl rfl (Y_fieldAddr (B := some ⟨b1, 0, none⟩) (i := 0) (s := 0) k_fd_42_0_0_3 k_sz_3_1 rfl rfl) ?_
  refine sq 37 rfl rfl (Y_load1 (B := some ⟨b1, 0, none⟩) (i := 0) (cs := [.int .i64 y.A, .int .i64 y.B, .int .i64 y.C, .int .i64 y.D]) (v := .int .i64 y.A) k_sc_3 rfl rfl (hS3.cf (i := 1) rfl) rfl) ?_
  refine sq 38 rfl rfl (Y_mul (k := .i64) (a := x.B) (b := y.A) rfl rfl rfl) ?_
  refine sq 39 rfl rfl (Y_add (k := .i64) (a := (IntKind.i64.wrap (x.A * y.B))) (b := (IntKind.i64.wrap (x.B * y.A))) rfl rfl rfl) ?_
  refine sq 40 rfl rfl (Y_fieldAddr (B := some ⟨b, 0, none⟩) (i := 0) (s := 0) k_fd_42_2_2_3 k_sz_3_1 rfl rfl) ?_
  refine sq 41 rfl rfl (Y_load1 (B := some ⟨b, 0, none⟩) (i := 2) (cs := [.int .i64 x.A, .int .i64 x.B, .int .i64 x.C, .int .i64 x.D]) (v := .int .i64 x.C) k_sc_3 rfl rfl (hS3.cf (i := 0) rfl) rfl) ?_
  refine sq 42 rfl rfl (Y_fieldAddr (B := some ⟨b1, 0, none⟩) (i := 0) (s := 0) k_fd_42_3_3_3 k_sz_3_1 rfl rfl) ?_
  refine sq 43 rfl rfl (Y_load1 (B := some ⟨b1, 0, none⟩) (i := 3) (cs := [.int .i64 y.A, .int .i64 y.B, .int .i64 y.C, .int .i64 y.D]) (v := .int .i64 y.D) k_sc_3 rfl rfl (hS3.cf (i := 1) rfl) rfl) ?_
  refine sq 44 rfl rfl (Y_mul (k := .i64) (a := x.C) (b := y.D) rfl rfl rfl) ?_
  refine sq 45 rfl rfl (Y_sub (k := .i64) (a := (IntKind.i64.wrap ((IntKind.i64.wrap (x.A * y.B)) + (IntKind.i64.wrap (x.B * y.A))))) (b := (IntKind.i64.wrap (x.C * y.D))) rfl rfl rfl) ?_
  refine sq 46 rfl rfl (Y_fieldAddr (B := some ⟨b, 0, none⟩) (i := 0) (s := 0) k_fd_42_3_3_3 k_sz_3_1 rfl rfl) ?_
  refine sq 47 rfl rfl (Y_load1 (B := some ⟨b, 0, none⟩) (i := 3) (cs := [.int .i64 x.A, .int .i64 x.B, .int .i64 x.C, .int .i64 x.D]) (v := .int .i64 x.D) k_sc_3 rfl rfl (hS3.cf (i := 0) rfl) rfl) ?_
  refine sq 48 rfl rfl (Y_fieldAddr (B := some ⟨b1, 0, none⟩) (i := 0) (s := 0) k_fd_42_2_2_3 k_sz_3_1 rfl rfl) ?_
  refine sq 49 rfl rfl (Y_load1 (B := some ⟨b1, 0, none⟩) (i := 2) (cs := [.int .i64 y.A, .int .i64 y.B, .int .i64 y.C, .int .i64 y.D]) (v := .int .i64 y.C) k_sc_3 rfl rfl (hS3.cf (i := 1) rfl) rfl) ?_
  refine sq 50 rfl rfl (Y_mul (k := .i64) (a := x.D) (b := y.C) rfl rfl rfl) ?_
  refine sq 51 rfl rfl (Y_sub (k := .i64) (a := (IntKind.i64.wrap ((IntKind.i64.wrap ((IntKind.i64.wrap (x.A * y.B)) + (IntKind.i64.wrap (x.B * y.A)))) - (IntKind.i64.wrap (x.C * y.D))))) (b := (IntKind.i64.wrap (x.D * y.C))) rfl rfl rfl) ?_
  refine sq 52 rfl rfl (Y_fieldAddr (B := some ⟨b, 0, none⟩) (i := 0) (s := 0) k_fd_42_0_0_3 k_sz_3_1 rfl rfl) ?_
  refine sq 53 rfl rfl (Y_load1 (B := some ⟨b, 0, none⟩) (i := 0) (cs := [.int .i64 x.A, .int .i64 x.B, .int .i64 x.C, .int .i64 x.D]) (v := .int .i64 x.A) k_sc_3 rfl rfl (hS3.cf (i := 0) rfl) rfl) ?_
  refine sq 54 rfl rfl (Y_fieldAddr (B := some ⟨b1, 0, none⟩) (i := 0) (s := 0) k_fd_42_2_2_3 k_sz_3_1 rfl rfl) ?_
  refine sq 55 rfl rfl (Y_load1 (B := some ⟨b1, 0, none⟩) (i := 2) (cs := [.int .i64 y.A, .int .i64 y.B, .int .i64 y.C, .int .i64 y.D]) (v := .int .i64 y.C) k_sc_3 rfl rfl (hS3.cf (i := 1) rfl) rfl) ?_
  refine sq 56 rfl rfl (Y_mul (k := .i64) (a := x.A) (b := y.C) rfl rfl rfl) ?_
  refine sq 57 rfl rfl (Y_fieldAddr (B := some ⟨b, 0, none⟩) (i := 0) (s := 0) k_fd_42_1_1_3 k_sz_3_1 rfl rfl) ?_
  refine sq 58 rfl rfl (Y_load1 (B := some ⟨b, 0, none⟩) (i := 1) (cs := [.int .i64 x.A, .int .i64 x.B, .int .i64 x.C, .int .i64 x.D]) (v := .int .i64 x.B) k_sc_3 rfl rfl (hS3.cf (i := 0) rfl) rfl) ?_
  refine sq 59 rfl rfl (Y_fieldAddr (B := some ⟨b1, 0, none⟩) (i := 0) (s := 0) k_fd_42_1_1_3 k_sz_3_1 rfl rfl) ?_
  refine sq 60 rfl rfl (Y_load1 (B := some ⟨b1, 0, none⟩) (i := 1) (cs := [.int .i64 y.A, .int .i64 y.B, .int .i64 y.C, .int .i64 y.D]) (v := .int .i64 y.B) k_sc_3 rfl rfl (hS3.cf (i := 1) rfl) rfl) ?_
  refine sq 61 rfl rfl (Y_mul (k := .i64) (a := x.B) (b := y.B) rfl rfl rfl) ?_
  refine sq 62 rfl rfl (Y_add (k := .i64) (a := (IntKind.i64.wrap (x.A * y.C))) (b := (IntKind.i64.wrap (x.B * y.B))) rfl rfl rfl) ?_
  refine sq 63 rfl rfl (Y_fieldAddr (B := some ⟨b, 0, none⟩) (i := 0) (s := 0) k_fd_42_2_2_3 k_sz_3_1 rfl rfl) ?_
  refine sq 64 rfl rfl (Y_load1 (B := some ⟨b, 0, none⟩) (i := 2) (cs := [.int .i64 x.A, .int .i64 x.B, .int .i64 x.C, .int .i64 x.D]) (v := .int .i64 x.C) k_sc_3 rfl rfl (hS3.cf (i := 0) rfl) rfl) ?_
  refine sq 65 rfl rfl (Y_fieldAddr (B := some ⟨b1, 0, none⟩) (i := 0) (s := 0) k_fd_42_0_0_3 k_sz_3_1 rfl rfl) ?_
  refine sq 66 rfl rfl (Y_load1 (B := some ⟨b1, 0, none⟩) (i := 0) (cs := [.int .i64 y.A, .int .i64 y.B, .int .i64 y.C, .int .i64 y.D]) (v := .int .i64 y.A) k_sc_3 rfl rfl (hS3.cf (i := 1) rfl) rfl) ?_
  refine sq 67 rfl rfl (Y_mul (k := .i64) (a := x.C) (b := y.A) rfl rfl rfl) ?_
  refine sq 68 rfl rfl (Y_add (k := .i64) (a := (IntKind.i64.wrap ((IntKind.i64.wrap (x.A * y.C)) + (IntKind.i64.wrap (x.B * y.B))))) (b := (IntKind.i64.wrap (x.C * y.A))) rfl rfl rfl) ?_
  refine sq 69 rfl rfl (Y_fieldAddr (B := some ⟨b, 0, none⟩) (i := 0) (s := 0) k_fd_42_3_3_3 k_sz_3_1 rfl rfl) ?_
  refine sq 70 rfl rfl (Y_load1 (B := some ⟨b, 0, none⟩) (i := 3) (cs := [.int .i64 x.A, .int .i64 x.B, .int .i64 x.C, .int .i64 x.D]) (v := .int .i64 x.D) k_sc_3 rfl rfl (hS3.cf (i := 0) rfl) rfl) ?_
  refine sq 71 rfl rfl (Y_fieldAddr (B := some ⟨b1, 0, none⟩) (i := 0) (s := 0) k_fd_42_3_3_3 k_sz_3_1 rfl rfl) ?_
  refine sq 72 rfl rfl (Y_load1 (B := some ⟨b1, 0, none⟩) (i := 3) (cs := [.int .i64 y.A, .int .i64 y.B, .int .i64 y.C, .int .i64 y.D]) (v := .int .i64 y.D) k_sc_3 rfl rfl (hS3.cf (i := 1) rfl) rfl) ?_
  refine sq 73 rfl rfl (Y_mul (k := .i64) (a := x.D) (b := y.D) rfl rfl rfl) ?_
  refine sq 74 rfl rfl (Y_sub (k := .i64) (a := (IntKind.i64.wrap ((IntKind.i64.wrap ((IntKind.i64.wrap (x.A * y.C)) + (IntKind.i64.wrap (x.B * y.B)))) + (IntKind.i64.wrap (x.C * y.A))))) (b := (IntKind.i64.wrap (x.D * y.D))) rfl rfl rfl) ?_
  refine sq 75 rfl rfl (Y_fieldAddr (B := some ⟨b, 0, none⟩) (i := 0) (s := 0) k_fd_42_0_0_3 k_sz_3_1 rfl rfl) ?_
  refine sq 76 rfl rfl (Y_load1 (B := some ⟨b, 0, none⟩) (i := 0) (cs := [.int .i64 x.A, .int .i64 x.B, .int .i64 x.C, .int .i64 x.D]) (v := .int .i64 x.A) k_sc_3 rfl rfl (hS3.cf (i := 0) rfl) rfl) ?_
  refine sq 77 rfl rfl (Y_fieldAddr (B := some ⟨b1, 0, none⟩) (i := 0) (s := 0) k_fd_42_3_3_3 k_sz_3_1 rfl rfl) ?_
  refine sq 78 rfl rfl (Y_load1 (B := some ⟨b1, 0, none⟩) (i := 3) (cs := [.int .i64 y.A, .int .i64 y.B, .int .i64 y.C, .int .i64 y.D]) (v := .int .i64 y.D) k_sc_3 rfl rfl (hS3.cf (i := 1) rfl) rfl) ?_
  refine sq 79 rfl rfl (Y_mul (k := .i64) (a := x.A) (b := y.D) rfl rfl rfl) ?_
  refine sq 80 rfl rfl (Y_fieldAddr (B := some ⟨b, 0, none⟩) (i := 0) (s := 0) k_fd_42_1_1_3 k_sz_3_1 rfl rfl) ?_
  refine sq 81 rfl rfl (Y_load1 (B := some ⟨b, 0, none⟩) (i := 1) (cs := [.int .i64 x.A, .int .i64 x.B, .int .i64 x.C, .int .i64 x.D]) (v := .int .i64 x.B) k_sc_3 rfl rfl (hS3.cf (i := 0) rfl) rfl) ?_
  refine sq 82 rfl rfl (Y_fieldAddr (B := some ⟨b1, 0, none⟩) (i := 0) (s := 0) k_fd_42_2_2_3 k_sz_3_1 rfl rfl) ?_
  refine sq 83 rfl rfl (Y_load1 (B := some ⟨b1, 0, none⟩) (i := 2) (cs := [.int .i64 y.A, .int .i64 y.B, .int .i64 y.C, .int .i64 y.D]) (v := .int .i64 y.C) k_sc_3 rfl rfl (hS3.cf (i := 1) rfl) rfl) ?_
  refine sq 84 rfl rfl (Y_mul (k := .i64) (a := x.B) (b := y.C) rfl rfl rfl) ?_
  refine sq 85 rfl rfl (Y_add (k := .i64) (a := (IntKind.i64.wrap (x.A * y.D))) (b := (IntKind.i64.wrap (x.B * y.C))) rfl rfl rfl) ?_
  refine sq 86 rfl rfl (Y_fieldAddr (B := some ⟨b, 0, none⟩) (i := 0) (s := 0) k_fd_42_2_2_3 k_sz_3_1 rfl rfl) ?_
  refine sq 87 rfl rfl (Y_load1 (B := some ⟨b, 0, none⟩) (i := 2) (cs := [.int .i64 x.A, .int .i64 x.B, .int .i64 x.C, .int .i64 x.D]) (v := .int .i64 x.C) k_sc_3 rfl rfl (hS3.cf (i := 0) rfl) rfl) ?_
  refine sq 88 rfl rfl (Y_fieldAddr (B := some ⟨b1, 0, none⟩) (i := 0) (s := 0) k_fd_42_1_1_3 k_sz_3_1 rfl rfl) ?_
  refine sq 89 rfl rfl (Y_load1 (B := some ⟨b1, 0, none⟩) (i := 1) (cs := [.int .i64 y.A, .int .i64 y.B, .int .i64 y.C, .int .i64 y.D]) (v := .int .i64 y.B) k_sc_3 rfl rfl (hS3.cf (i := 1) rfl) rfl) ?_
  refine sq 90 rfl rfl (Y_mul (k := .i64) (a := x.C) (b := y.B) rfl rfl rfl) ?_
  refine sq 91 rfl rfl (Y_add (k := .i64) (a := (IntKind.i64.wrap ((IntKind.i64.wrap (x.A * y.D)) + (IntKind.i64.wrap (x.B * y.C))))) (b := (IntKind.i64.wrap (x.C * y.B))) rfl rfl rfl) ?_
  refine sq 92 rfl rfl (Y_fieldAddr (B := some ⟨b, 0, none⟩) (i := 0) (s := 0) k_fd_42_3_3_3 k_sz_3_1 rfl rfl) ?_
  refine sq 93 rfl rfl (Y_load1 (B := some ⟨b, 0, none⟩) (i := 3) (cs := [.int .i64 x.A, .int .i64 x.B, .int .i64 x.C, .int .i64 x.D]) (v := .int .i64 x.D) k_sc_3 rfl rfl (hS3.cf (i := 0) rfl) rfl) ?_
  refine sq 94 rfl rfl (Y_fieldAddr (B := some ⟨b1, 0, none⟩) (i := 0) (s := 0) k_fd_42_0_0_3 k_sz_3_1 rfl rfl) ?_
  refine sq 95 rfl rfl (Y_load1 (B := some ⟨b1, 0, none⟩) (i := 0) (cs := [.int .i64 y.A, .int .i64 y.B, .int .i64 y.C, .int .i64 y.D]) (v := .int .i64 y.A) k_sc_3 rfl rfl (hS3.cf (i := 1) rfl) rfl) ?_
  refine sq 96 rfl rfl (Y_mul (k := .i64) (a := x.D) (b := y.A) rfl rfl rfl) ?_
  refine sq 97 rfl rfl (Y_add (k := .i64) (a := (IntKind.i64.wrap ((IntKind.i64.wrap ((IntKind.i64.wrap (x.A * y.D)) + (IntKind.i64.wrap (x.B * y.C)))) + (IntKind.i64.wrap (x.C * y.B))))) (b := (IntKind.i64.wrap (x.D * y.A))) rfl rfl rfl) ?_
  refine sq 98 rfl rfl (Y_buildS (zs := [.int .i64 0, .int .i64 0, .int .i64 0, .int .i64 0]) (vs := [(0, .int .i64 (IntKind.i64.wrap ((IntKind.i64.wrap ((IntKind.i64.wrap ((IntKind.i64.wrap (x.A * y.A)) - (IntKind.i64.wrap (x.B * y.D)))) - (IntKind.i64.wrap (x.C * y.C)))) - (IntKind.i64.wrap (x.D * y.B))))), (1, .int .i64 (IntKind.i64.wrap ((IntKind.i64.wrap ((IntKind.i64.wrap ((IntKind.i64.wrap (x.A * y.B)) + (IntKind.i64.wrap (x.B * y.A)))) - (IntKind.i64.wrap (x.C * y.D)))) - (IntKind.i64.wrap (x.D * y.C))))), (2, .int .i64 (IntKind.i64.wrap ((IntKind.i64.wrap ((IntKind.i64.wrap ((IntKind.i64.wrap (x.A * y.C)) + (IntKind.i64.wrap (x.B * y.B)))) + (IntKind.i64.wrap (x.C * y.A)))) - (IntKind.i64.wrap (x.D * y.D))))), (3, .int .i64 (IntKind.i64.wrap ((IntKind.i64.wrap ((IntKind.i64.wrap ((IntKind.i64.wrap (x.A * y.D)) + (IntKind.i64.wrap (x.B * y.C)))) + (IntKind.i64.wrap (x.C * y.B)))) + (IntKind.i64.wrap (x.D * y.A)))))]) (cs := [.int .i64 (IntKind.i64.wrap ((IntKind.i64.wrap ((IntKind.i64.wrap ((IntKind.i64.wrap (x.A * y.A)) - (IntKind.i64.wrap (x.B * y.D)))) - (IntKind.i64.wrap (x.C * y.C)))) - (IntKind.i64.wrap (x.D * y.B)))), .int .i64 (IntKind.i64.wrap ((IntKind.i64.wrap ((IntKind.i64.wrap ((IntKind.i64.wrap (x.A * y.B)) + (IntKind.i64.wrap (x.B * y.A)))) - (IntKind.i64.wrap (x.C * y.D)))) - (IntKind.i64.wrap (x.D * y.C)))), .int .i64 (IntKind.i64.wrap ((IntKind.i64.wrap ((IntKind.i64.wrap ((IntKind.i64.wrap (x.A * y.C)) + (IntKind.i64.wrap (x.B * y.B)))) + (IntKind.i64.wrap (x.C * y.A)))) - (IntKind.i64.wrap (x.D * y.D)))), .int .i64 (IntKind.i64.wrap ((IntKind.i64.wrap ((IntKind.i64.wrap ((IntKind.i64.wrap (x.A * y.D)) + (IntKind.i64.wrap (x.B * y.C)))) + (IntKind.i64.wrap (x.C * y.B)))) + (IntKind.i64.wrap (x.D * y.A))))]) k_pl_42 k_zero_42 rfl (mpc rfl (mpc rfl (mpc rfl (mpc rfl mpn)))) rfl) ?_
  refine sq 99 rfl rfl (Y_loadA (B := some ⟨b, 0, none⟩) (i := 0) (cs := [.int .i64 x.A, .int .i64 x.B, .int .i64 x.C, .int .i64 x.D]) (vs := [.int .i64 x.A, .int .i64 x.B, .int .i64 x.C, .int .i64 x.D]) k_ag_42 k_sz_42_4 rfl rfl (hS3.cf (i := 0) rfl) rfl rfl) ?_
  refine sq 100 rfl rfl (Y_loadA (B := some ⟨b1, 0, none⟩) (i := 0) (cs := [.int .i64 y.A, .int .i64 y.B, .int .i64 y.C, .int .i64 y.D]) (vs := [.int .i64 y.A, .int .i64 y.B, .int .i64 y.C, .int .i64 y.D]) k_ag_42 k_sz_42_4 rfl rfl (hS3.cf (i := 1) rfl) rfl rfl) ?_
  refine ss 101 rfl rfl (Ys_bslice (s := 4) (len := 2) (vs := [(0, .agg #[.int .i64 x.A, .int .i64 x.B, .int .i64 x.C, .int .i64 x.D]), (1, .agg #[.int .i64 y.A, .int .i64 y.B, .int .i64 y.C, .int .i64 y.D])]) (cs := [.int .i64 x.A, .int .i64 x.B, .int .i64 x.C, .int .i64 x.D, .int .i64 y.A, .int .i64 y.B, .int .i64 y.C, .int .i64 y.D]) (zs := [.int .i64 0, .int .i64 0, .int .i64 0, .int .i64 0, .int .i64 0, .int .i64 0, .int .i64 0, .int .i64 0]) (m := 8) hS3 k_sl_171_42 k_sz_42_4 k_zc_42 rfl (mpc rfl (mpc rfl mpn)) rfl rfl rfl (by kernel_rfl) (by kernel_rfl) rfl) ?_
  rintro _ w_3 ⟨b3, rfl, hS4⟩
  have hS4 : ST w0 [] _ [⟨some ⟨b, 0, none⟩, 42, [.int .i64 x.A, .int .i64 x.B, .int .i64 x.C, .int .i64 x.D], 4⟩, ⟨some ⟨b1, 0, none⟩, 42, [.int .i64 y.A, .int .i64 y.B, .int .i64 y.C, .int .i64 y.D], 4⟩, ⟨some ⟨b2, 0, none⟩, 42, [.int .i64 0, .int .i64 0, .int .i64 0, .int .i64 0], 4⟩, ⟨some ⟨b3, 0, none⟩, 42, ([x, y].flatMap enc_Ring), 2 * 4⟩] [] := hS4
  obtain ⟨⟨r_2, r_3⟩, hc, hF⟩ := bind_inv hF
  refine sc 102 rfl rfl (Yc_func (g := 135) (vs := [.agg #[.int .i64 (IntKind.i64.wrap ((IntKind.i64.wrap ((IntKind.i64.wrap ((IntKind.i64.wrap (x.A * y.A)) - (IntKind.i64.wrap (x.B * y.D)))) - (IntKind.i64.wrap (x.C * y.C)))) - (IntKind.i64.wrap (x.D * y.B)))), .int .i64 (IntKind.i64.wrap ((IntKind.i64.wrap ((IntKind.i64.wrap ((IntKind.i64.wrap (x.A * y.B)) + (IntKind.i64.wrap (x.B * y.A)))) - (IntKind.i64.wrap (x.C * y.D)))) - (IntKind.i64.wrap (x.D * y.C)))), .int .i64 (IntKind.i64.wrap ((IntKind.i64.wrap ((IntKind.i64.wrap ((IntKind.i64.wrap (x.A * y.C)) + (IntKind.i64.wrap (x.B * y.B)))) + (IntKind.i64.wrap (x.C * y.A)))) - (IntKind.i64.wrap (x.D * y.D)))), .int .i64 (IntKind.i64.wrap ((IntKind.i64.wrap ((IntKind.i64.wrap ((IntKind.i64.wrap (x.A * y.D)) + (IntKind.i64.wrap (x.B * y.C)))) + (IntKind.i64.wrap (x.C * y.B)))) + (IntKind.i64.wrap (x.D * y.A))))], .slice (some ⟨b3, 0, none⟩) 2 2]) k_call_135 rfl (mc rfl (mc rfl mn)) (c_impl_ringIf (TRing.mk (IntKind.i64.wrap ((IntKind.i64.wrap ((IntKind.i64.wrap ((IntKind.i64.wrap (x.A * y.A)) - (IntKind.i64.wrap (x.B * y.D)))) - (IntKind.i64.wrap (x.C * y.C)))) - (IntKind.i64.wrap (x.D * y.B)))) (IntKind.i64.wrap ((IntKind.i64.wrap ((IntKind.i64.wrap ((IntKind.i64.wrap (x.A * y.B)) + (IntKind.i64.wrap (x.B * y.A)))) - (IntKind.i64.wrap (x.C * y.D)))) - (IntKind.i64.wrap (x.D * y.C)))) (IntKind.i64.wrap ((IntKind.i64.wrap ((IntKind.i64.wrap ((IntKind.i64.wrap (x.A * y.C)) + (IntKind.i64.wrap (x.B * y.B)))) + (IntKind.i64.wrap (x.C * y.A)))) - (IntKind.i64.wrap (x.D * y.D)))) (IntKind.i64.wrap ((IntKind.i64.wrap ((IntKind.i64.wrap ((IntKind.i64.wrap (x.A * y.D)) + (IntKind.i64.wrap (x.B * y.C)))) + (IntKind.i64.wrap (x.C * y.B)))) + (IntKind.i64.wrap (x.D * y.A))))) [x, y] (some ⟨b3, 0, none⟩) 2 2 _ rfl (hS4.inn [false, false, false, true] rfl [] rfl) hc)) ?_
  rintro _ w_4 ⟨rfl, hd⟩
  have hS5 := hS4.out [false, false, false, true] rfl hd
  have hS5 : ST w0 [] _ [⟨some ⟨b, 0, none⟩, 42, [.int .i64 x.A, .int .i64 x.B, .int .i64 x.C, .int .i64 x.D], 4⟩, ⟨some ⟨b1, 0, none⟩, 42, [.int .i64 y.A, .int .i64 y.B, .int .i64 y.C, .int .i64 y.D], 4⟩, ⟨some ⟨b2, 0, none⟩, 42, [.int .i64 0, .int .i64 0, .int .i64 0, .int .i64 0], 4⟩] [] := hS5
  refine sq 103 rfl rfl (Y_extract (v := .agg #[.int .i64 r_2.A, .int .i64 r_2.B, .int .i64 r_2.C, .int .i64 r_2.D]) rfl rfl rfl) ?_
  refine sq 104 rfl rfl (Y_extract (v := .bool r_3) rfl rfl rfl) ?_
  refine ss0 rfl rfl (Ys_store (i := 2) (s := 4) (B := some ⟨b2, 0, none⟩) (T' := 42) (v := .agg #[.int .i64 r_2.A, .int .i64 r_2.B, .int .i64 r_2.C, .int .i64 r_2.D]) (vs := [.int .i64 r_2.A, .int .i64 r_2.B, .int .i64 r_2.C, .int .i64 r_2.D]) (k := 0) (cs' := [.int .i64 r_2.A, .int .i64 r_2.B, .int .i64 r_2.C, .int .i64 r_2.D]) hS5 k_sz_42_4 rfl rfl rfl rfl rfl rfl rfl (Nat.le_of_ble_eq_true rfl) rfl rfl) ?_
  rintro _ w_5 ⟨rfl, hS6⟩
  have hS6 : ST w0 [] _ [⟨some ⟨b, 0, none⟩, 42, [.int .i64 x.A, .int .i64 x.B, .int .i64 x.C, .int .i64 x.D], 4⟩, ⟨some ⟨b1, 0, none⟩, 42, [.int .i64 y.A, .int .i64 y.B, .int .i64 y.C, .int .i64 y.D], 4⟩, ⟨some ⟨b2, 0, none⟩, 42, [.int .i64 r_2.A, .int .i64 r_2.B, .int .i64 r_2.C, .int .i64 r_2.D], 4⟩] [] := hS6
  refine sq 5 rfl rfl (Y_assign (v := .bool r_3) rfl rfl) ?_
  refine rw_nil ?_
  refine cw_ret ?_
  obtain ⟨rfl, rfl⟩ := pr2 (some_inj hF)
  exact ret2 Try.results101 (v1 := .agg #[.int .i64 r_2.A, .int .i64 r_2.B, .int .i64 r_2.C, .int .i64 r_2.D]) (resAt_cellA (B := some ⟨b2, 0, none⟩) (i := 0) (cs := [.int .i64 r_2.A, .int .i64 r_2.B, .int .i64 r_2.C, .int .i64 r_2.D]) (vs := [.int .i64 r_2.A, .int .i64 r_2.B, .int .i64 r_2.C, .int .i64 r_2.D]) rfl k_ag_42 k_sz_42_4 (hS6.cf (i := 2) rfl) rfl rfl) (v2 := .bool r_3) (resAt_tmp rfl) ⟨rfl, (ST.subR (R' := []) (hS6.sel [] rfl rfl) (fun _ h => by cases h))⟩

theorem c_impl_isEven (x : TRing)  (w0 : World)  (hS : ST w0 [] w0 [] []) {r_ : Bool} (hF : F_impl_isEven x = some r_) :
    CV Try.prog 136 #[.agg #[.int .i64 x.A, .int .i64 x.B, .int .i64 x.C, .int .i64 x.D]] w0 (fun v w' => v = .bool r_ ∧ ST w0 [] w' [] []) := by
  unfold F_impl_isEven at hF
  refine cv_of_cw 19 Try.func136 rfl Try.ntmps136 rfl ?_
  refine cw_seq ?_
  refine cw_region ?_
  refine ss 1 rfl rfl (Ys_box (T := 42) (v := .agg #[.int .i64 x.A, .int .i64 x.B, .int .i64 x.C, .int .i64 x.D]) (cs := [.int .i64 x.A, .int .i64 x.B, .int .i64 x.C, .int .i64 x.D]) (m := 4) hS rfl rfl rfl rfl) ?_
  rintro _ w_ ⟨b, rfl, hS1⟩
  refine sq 2 rfl rfl (Y_assign (v := .bool false) rfl rfl) ?_
  refine rw_nil ?_
  refine cw_seq ?_
  refine cw_region ?_
  refine sq 3 rfl rfl (Y_fieldAddr (B := some ⟨b, 0, none⟩) (i := 0) (s := 0) k_fd_42_0_0_3 k_sz_3_1 rfl rfl) ?_
  refine sq 4 rfl rfl (Y_load1 (B := some ⟨b, 0, none⟩) (i := 0) (cs := [.int .i64 x.A, .int .i64 x.B, .int .i64 x.C, .int .i64 x.D]) (v := .int .i64 x.A) k_sc_3 rfl rfl (hS1.cf (i := 0) rfl) rfl) ?_
  refine sq 5 rfl rfl (Y_fieldAddr (B := some ⟨b, 0, none⟩) (i := 0) (s := 0) k_fd_42_2_2_3 k_sz_3_1 rfl rfl) ?_
  refine sq 6 rfl rfl (Y_load1 (B := some ⟨b, 0, none⟩) (i := 2) (cs := [.int .i64 x.A, .int .i64 x.B, .int .i64 x.C, .int .i64 x.D]) (v := .int .i64 x.C) k_sc_3 rfl rfl (hS1.cf (i := 0) rfl) rfl) ?_
  refine sq 7 rfl rfl (Y_add (k := .i64) (a := x.A) (b := x.C) rfl rfl rfl) ?_
  refine sq 8 rfl rfl (Y_rem (k := .i64) (a := (IntKind.i64.wrap (x.A + x.C))) (b := 2) rfl rfl rfl (by decide)) ?_
  refine sq 9 rfl rfl (Y_eq (k := .i64) (a := (Int.tmod (IntKind.i64.wrap (x.A + x.C)) 2)) (b := 0) rfl rfl rfl) ?_
  refine sq 10 rfl rfl (Y_move (v := .bool ((Int.tmod (IntKind.i64.wrap (x.A + x.C)) 2) == 0)) rfl rfl) ?_
  refine sgq 11 (B := ((Int.tmod (IntKind.i64.wrap (x.A + x.C)) 2) == 0)) (v := pt (some ⟨b, 0, none⟩) 1) rfl rfl (wt_t (gd_of (t := 10) (by kernel_rfl) rfl)) (fun hg => (Y_fieldAddr (B := some ⟨b, 0, none⟩) (i := 0) (s := 0) k_fd_42_1_1_3 k_sz_3_1 rfl rfl)) ?_
  refine sgq 12 (B := ((Int.tmod (IntKind.i64.wrap (x.A + x.C)) 2) == 0)) (v := .int .i64 x.B) rfl rfl (wt_t (gd_of (t := 10) (by kernel_rfl) rfl)) (fun hg1 => (Y_load1 (B := some ⟨b, 0, none⟩) (i := 1) (cs := [.int .i64 x.A, .int .i64 x.B, .int .i64 x.C, .int .i64 x.D]) (v := .int .i64 x.B) k_sc_3 rfl (gv_of (B := ((Int.tmod (IntKind.i64.wrap (x.A + x.C)) 2) == 0)) (v := pt (some ⟨b, 0, none⟩) 1) hg1) (hS1.cf (i := 0) rfl) rfl)) ?_
  refine sgq 13 (B := ((Int.tmod (IntKind.i64.wrap (x.A + x.C)) 2) == 0)) (v := pt (some ⟨b, 0, none⟩) 3) rfl rfl (wt_t (gd_of (t := 10) (by kernel_rfl) rfl)) (fun hg2 => (Y_fieldAddr (B := some ⟨b, 0, none⟩) (i := 0) (s := 0) k_fd_42_3_3_3 k_sz_3_1 rfl rfl)) ?_
  refine sgq 14 (B := ((Int.tmod (IntKind.i64.wrap (x.A + x.C)) 2) == 0)) (v := .int .i64 x.D) rfl rfl (wt_t (gd_of (t := 10) (by kernel_rfl) rfl)) (fun hg3 => (Y_load1 (B := some ⟨b, 0, none⟩) (i := 3) (cs := [.int .i64 x.A, .int .i64 x.B, .int .i64 x.C, .int .i64 x.D]) (v := .int .i64 x.D) k_sc_3 rfl (gv_of (B := ((Int.tmod (IntKind.i64.wrap (x.A + x.C)) 2) == 0)) (v := pt (some ⟨b, 0, none⟩) 3) hg3) (hS1.cf (i := 0) rfl) rfl)) ?_
  refine sgq 15 (B := ((Int.tmod (IntKind.i64.wrap (x.A + x.C)) 2) == 0)) (v := .int .i64 (IntKind.i64.wrap (x.B + x.D))) rfl rfl (wt_t (gd_of (t := 10) (by kernel_rfl) rfl)) (fun hg4 => (Y_add (k := .i64) (a := x.B) (b := x.D) rfl (gv_of (B := ((Int.tmod (IntKind.i64.wrap (x.A + x.C)) 2) == 0)) (v := .int .i64 x.B) hg4) (gv_of (B := ((Int.tmod (IntKind.i64.wrap (x.A + x.C)) 2) == 0)) (v := .int .i64 x.D) hg4))) ?_
  refine sgq 16 (B := ((Int.tmod (IntKind.i64.wrap (x.A + x.C)) 2) == 0)) (v := .int .i64 (Int.tmod (IntKind.i64.wrap (x.B + x.D)) 2)) rfl rfl (wt_t (gd_of (t := 10) (by kernel_rfl) rfl)) (fun hg5 => (Y_rem (k := .i64) (a := (IntKind.i64.wrap (x.B + x.D))) (b := 2) rfl (gv_of (B := ((Int.tmod (IntKind.i64.wrap (x.A + x.C)) 2) == 0)) (v := .int .i64 (IntKind.i64.wrap (x.B + x.D))) hg5) rfl (by decide))) ?_
  refine sgq 17 (B := ((Int.tmod (IntKind.i64.wrap (x.A + x.C)) 2) == 0)) (v := .bool ((Int.tmod (IntKind.i64.wrap (x.B + x.D)) 2) == 0)) rfl rfl (wt_t (gd_of (t := 10) (by kernel_rfl) rfl)) (fun hg6 => (Y_eq (k := .i64) (a := (Int.tmod (IntKind.i64.wrap (x.B + x.D)) 2)) (b := 0) rfl (gv_of (B := ((Int.tmod (IntKind.i64.wrap (x.A + x.C)) 2) == 0)) (v := .int .i64 (Int.tmod (IntKind.i64.wrap (x.B + x.D)) 2)) hg6) rfl)) ?_
  refine sq 18 rfl rfl (Y_and (b := ((Int.tmod (IntKind.i64.wrap (x.A + x.C)) 2) == 0)) (z := ((Int.tmod (IntKind.i64.wrap (x.B + x.D)) 2) == 0)) rfl rfl rfl rfl) ?_
  refine sq 2 rfl rfl (Y_assign (v := .bool (((Int.tmod (IntKind.i64.wrap (x.A + x.C)) 2) == 0) && ((Int.tmod (IntKind.i64.wrap (x.B + x.D)) 2) == 0))) rfl rfl) ?_
  refine rw_nil ?_
  refine cw_ret ?_
  obtain rfl := some_inj hF
  exact ret1 Try.results136 (v1 := .bool (((Int.tmod (IntKind.i64.wrap (x.A + x.C)) 2) == 0) && ((Int.tmod (IntKind.i64.wrap (x.B + x.D)) 2) == 0))) (resAt_tmp rfl) ⟨rfl, (ST.subR (R' := []) (hS1.sel [] rfl rfl) (fun _ h => by cases h))⟩

theorem c_impl_IsValidDyadic (x : TDyadic)  (w0 : World)  (hS : ST w0 [] w0 [] []) {r_ : Bool} (hF : F_impl_IsValidDyadic x = some r_) :
    CV Try.prog 102 #[.agg #[.int .i64 x.Num.A, .int .i64 x.Num.B, .int .i64 x.Num.C, .int .i64 x.Num.D, .int .i64 x.Exp]] w0 (fun v w' => v = .bool r_ ∧ ST w0 [] w' [] []) := by
  unfold F_impl_IsValidDyadic at hF
  refine cv_of_cw 22 Try.func102 rfl Try.ntmps102 rfl ?_
  refine cw_seq ?_
  refine cw_region ?_
  refine ss 1 rfl rfl (Ys_box (T := 44) (v := .agg #[.int .i64 x.Num.A, .int .i64 x.Num.B, .int .i64 x.Num.C, .int .i64 x.Num.D, .int .i64 x.Exp]) (cs := [.int .i64 x.Num.A, .int .i64 x.Num.B, .int .i64 x.Num.C, .int .i64 x.Num.D, .int .i64 x.Exp]) (m := 5) hS rfl rfl rfl rfl) ?_
  rintro _ w_ ⟨b, rfl, hS1⟩
  refine sq 2 rfl rfl (Y_assign (v := .bool false) rfl rfl) ?_
  refine rw_nil ?_
  refine cw_seq ?_
  refine cw_region ?_
  refine sq 3 rfl rfl (Y_fieldAddr (B := some ⟨b, 0, none⟩) (i := 0) (s := 3) k_fd_44_0_0_42 k_sz_42_4 rfl rfl) ?_
  refine sq 4 rfl rfl (Y_loadA (B := some ⟨b, 0, none⟩) (i := 0) (cs := [.int .i64 x.Num.A, .int .i64 x.Num.B, .int .i64 x.Num.C, .int .i64 x.Num.D, .int .i64 x.Exp]) (vs := [.int .i64 x.Num.A, .int .i64 x.Num.B, .int .i64 x.Num.C, .int .i64 x.Num.D]) k_ag_42 k_sz_42_4 rfl rfl (hS1.cf (i := 0) rfl) rfl rfl) ?_
  obtain ⟨r_1, hc, hF⟩ := bind_inv hF
  refine sc 5 rfl rfl (Yc_func (g := 134) (vs := [.agg #[.int .i64 x.Num.A, .int .i64 x.Num.B, .int .i64 x.Num.C, .int .i64 x.Num.D]]) k_call_134 rfl (mc rfl mn) (c_impl_IsValidRing x.Num _  (hS1.inn0 [] rfl) hc)) ?_
  rintro _ w_1 ⟨rfl, hd⟩
  have hS2 := hS1.out00 hd
  refine sq 6 rfl rfl (Y_move (v := .bool r_1) rfl rfl) ?_
  refine sgq 7 (B := r_1) (v := pt (some ⟨b, 0, none⟩) 4) rfl rfl (wt_t (gd_of (t := 6) (by kernel_rfl) rfl)) (fun hg => (Y_fieldAddr (B := some ⟨b, 0, none⟩) (i := 0) (s := 0) k_fd_44_1_4_3 k_sz_3_1 rfl rfl)) ?_
  refine sgq 8 (B := r_1) (v := .int .i64 x.Exp) rfl rfl (wt_t (gd_of (t := 6) (by kernel_rfl) rfl)) (fun hg1 => (Y_load1 (B := some ⟨b, 0, none⟩) (i := 4) (cs := [.int .i64 x.Num.A, .int .i64 x.Num.B, .int .i64 x.Num.C, .int .i64 x.Num.D, .int .i64 x.Exp]) (v := .int .i64 x.Exp) k_sc_3 rfl (gv_of (B := r_1) (v := pt (some ⟨b, 0, none⟩) 4) hg1) (hS2.cf (i := 0) rfl) rfl)) ?_
  obtain ⟨r_2, hc1, hF⟩ := bind_inv hF
  refine sgc 9 (B := r_1) (v := .bool r_2) (F := hS2.fn) rfl rfl (wt_t (gd_of (t := 6) (by kernel_rfl) rfl)) hS2 (fun hg2 => (Yc_func (g := 82) (vs := [.int .i64 x.Exp, .int .i64 0, .int .i64 60]) k_call_82 rfl (mc (gv_of (B := r_1) (v := .int .i64 x.Exp) hg2) (mc rfl (mc rfl mn))) (CV.mono (c_impl_within x.Exp 0 60 _  (hS2.inn0 [] rfl) (gb_inv hc1 hg2)) (by rintro _ _ ⟨rfl, h⟩; exact ⟨rfl, hS2.out00 h⟩)))) ?_
  rintro w_2 hS3
  have hS3 : ST _ _ w_2 _ _ := hS3
  refine sq 10 rfl rfl (Y_and (b := r_1) (z := r_2) rfl rfl rfl rfl) ?_
  refine sq 11 rfl rfl (Y_move (v := .bool (r_1 && r_2)) rfl rfl) ?_
  refine sgq 12 (B := (r_1 && r_2)) (v := pt (some ⟨b, 0, none⟩) 4) rfl rfl (wt_t (gd_of (t := 11) (by kernel_rfl) rfl)) (fun hg3 => (Y_fieldAddr (B := some ⟨b, 0, none⟩) (i := 0) (s := 0) k_fd_44_1_4_3 k_sz_3_1 rfl rfl)) ?_
  refine sgq 13 (B := (r_1 && r_2)) (v := .int .i64 x.Exp) rfl rfl (wt_t (gd_of (t := 11) (by kernel_rfl) rfl)) (fun hg4 => (Y_load1 (B := some ⟨b, 0, none⟩) (i := 4) (cs := [.int .i64 x.Num.A, .int .i64 x.Num.B, .int .i64 x.Num.C, .int .i64 x.Num.D, .int .i64 x.Exp]) (v := .int .i64 x.Exp) k_sc_3 rfl (gv_of (B := (r_1 && r_2)) (v := pt (some ⟨b, 0, none⟩) 4) hg4) (hS3.cf (i := 0) rfl) rfl)) ?_
  refine sgq 14 (B := (r_1 && r_2)) (v := .bool (x.Exp == 0)) rfl rfl (wt_t (gd_of (t := 11) (by kernel_rfl) rfl)) (fun hg5 => (Y_eq (k := .i64) (a := x.Exp) (b := 0) rfl (gv_of (B := (r_1 && r_2)) (v := .int .i64 x.Exp) hg5) rfl)) ?_
  refine sgq 15 (B := (r_1 && r_2)) (v := .bool (x.Exp == 0)) rfl rfl (wt_t (gd_of (t := 11) (by kernel_rfl) rfl)) (fun hg6 => (Y_move (v := .bool (x.Exp == 0)) rfl (gv_of (B := (r_1 && r_2)) (v := .bool (x.Exp == 0)) hg6))) ?_
  refine sgq 16 (B := ((r_1 && r_2) && (!(x.Exp == 0)))) (v := pt (some ⟨b, 0, none⟩) 0) rfl rfl (wt_gf (gd_of (t := 15) (by kernel_rfl) rfl)) (fun hg7 => (Y_fieldAddr (B := some ⟨b, 0, none⟩) (i := 0) (s := 3) k_fd_44_0_0_42 k_sz_42_4 rfl rfl)) ?_
  refine sgq 17 (B := ((r_1 && r_2) && (!(x.Exp == 0)))) (v := .agg #[.int .i64 x.Num.A, .int .i64 x.Num.B, .int .i64 x.Num.C, .int .i64 x.Num.D]) rfl rfl (wt_gf (gd_of (t := 15) (by kernel_rfl) rfl)) (fun hg8 => (Y_loadA (B := some ⟨b, 0, none⟩) (i := 0) (cs := [.int .i64 x.Num.A, .int .i64 x.Num.B, .int .i64 x.Num.C, .int .i64 x.Num.D, .int .i64 x.Exp]) (vs := [.int .i64 x.Num.A, .int .i64 x.Num.B, .int .i64 x.Num.C, .int .i64 x.Num.D]) k_ag_42 k_sz_42_4 rfl (gv_of (B := ((r_1 && r_2) && (!(x.Exp == 0)))) (v := pt (some ⟨b, 0, none⟩) 0) hg8) (hS3.cf (i := 0) rfl) rfl rfl)) ?_
  obtain ⟨r_3, hc2, hF⟩ := bind_inv hF
  refine sgc 18 (B := ((r_1 && r_2) && (!(x.Exp == 0)))) (v := .bool r_3) (F := hS3.fn) rfl rfl (wt_gf (gd_of (t := 15) (by kernel_rfl) rfl)) hS3 (fun hg9 => (Yc_func (g := 136) (vs := [.agg #[.int .i64 x.Num.A, .int .i64 x.Num.B, .int .i64 x.Num.C, .int .i64 x.Num.D]]) k_call_136 rfl (mc (gv_of (B := ((r_1 && r_2) && (!(x.Exp == 0)))) (v := .agg #[.int .i64 x.Num.A, .int .i64 x.Num.B, .int .i64 x.Num.C, .int .i64 x.Num.D]) hg9) mn) (CV.mono (c_impl_isEven x.Num _  (hS3.inn0 [] rfl) (gb_inv hc2 hg9)) (by rintro _ _ ⟨rfl, h⟩; exact ⟨rfl, hS3.out00 h⟩)))) ?_
  rintro w_3 hS4
  have hS4 : ST _ _ w_3 _ _ := hS4
  refine sgq 19 (B := ((r_1 && r_2) && (!(x.Exp == 0)))) (v := .bool (!r_3)) rfl rfl (wt_gf (gd_of (t := 15) (by kernel_rfl) rfl)) (fun hg10 => (Y_not (p := r_3) rfl (gv_of (B := ((r_1 && r_2) && (!(x.Exp == 0)))) (v := .bool r_3) hg10))) ?_
  refine sgq 20 (B := (r_1 && r_2)) (v := .bool ((x.Exp == 0) || (!r_3))) rfl rfl (wt_t (gd_of (t := 11) (by kernel_rfl) rfl)) (fun hg11 => (Y_or (b := (x.Exp == 0)) (z := (!r_3)) rfl (gv_of (B := (r_1 && r_2)) (v := .bool (x.Exp == 0)) hg11) rfl (gv_and (B := (r_1 && r_2)) (C := (!(x.Exp == 0))) (v := .bool (!r_3)) hg11))) ?_
  refine sq 21 rfl rfl (Y_and (b := (r_1 && r_2)) (z := ((x.Exp == 0) || (!r_3))) rfl rfl rfl rfl) ?_
  refine sq 2 rfl rfl (Y_assign (v := .bool ((r_1 && r_2) && ((x.Exp == 0) || (!r_3)))) rfl rfl) ?_
  refine rw_nil ?_
  refine cw_ret ?_
  obtain rfl := some_inj hF
  exact ret1 Try.results102 (v1 := .bool ((r_1 && r_2) && ((x.Exp == 0) || (!r_3)))) (resAt_tmp rfl) ⟨rfl, (ST.subR (R' := []) (hS4.sel [] rfl rfl) (fun _ h => by cases h))⟩

theorem c_impl_DivRootTwo (x : TRing)  (w0 : World)  (hS : ST w0 [] w0 [] []) {r_ : TRing} {r_1 : Bool} (hF : F_impl_DivRootTwo x = some (r_, r_1)) :
    CV Try.prog 137 #[.agg #[.int .i64 x.A, .int .i64 x.B, .int .i64 x.C, .int .i64 x.D]] w0 (fun v w' => v = .tuple #[.agg #[.int .i64 r_.A, .int .i64 r_.B, .int .i64 r_.C, .int .i64 r_.D], .bool r_1] ∧ ST w0 [] w' [] []) := by
  unfold F_impl_DivRootTwo at hF
  refine cv_of_cw 43 Try.func137 rfl Try.ntmps137 rfl ?_
  refine cw_seq ?_
  refine cw_region ?_
  refine ss 1 rfl rfl (Ys_box (T := 42) (v := .agg #[.int .i64 x.A, .int .i64 x.B, .int .i64 x.C, .int .i64 x.D]) (cs := [.int .i64 x.A, .int .i64 x.B, .int .i64 x.C, .int .i64 x.D]) (m := 4) hS rfl rfl rfl rfl) ?_
  rintro _ w_ ⟨b, rfl, hS1⟩
  refine ss 2 rfl rfl (Ys_alloc (T := 42) (cs := [.int .i64 0, .int .i64 0, .int .i64 0, .int .i64 0]) (m := 4) hS1 k_zero_42 rfl rfl rfl) ?_
  rintro _ w_1 ⟨b1, rfl, hS2⟩
  have hS2 : ST w0 [] _ [⟨some ⟨b, 0, none⟩, 42, [.int .i64 x.A, .int .i64 x.B, .int .i64 x.C, .int .i64 x.D], 4⟩, ⟨some ⟨b1, 0, none⟩, 42, [.int .i64 0, .int .i64 0, .int .i64 0, .int .i64 0], 4⟩] [] := hS2
  refine sq 3 rfl rfl (Y_assign (v := .bool false) rfl rfl) ?_
  refine rw_nil ?_
  refine cw_seq ?_
  refine cw_seq ?_
  refine cw_region ?_
  refine sq 4 rfl rfl (Y_loadA (B := some ⟨b, 0, none⟩) (i := 0) (cs := [.int .i64 x.A, .int .i64 x.B, .int .i64 x.C, .int .i64 x.D]) (vs := [.int .i64 x.A, .int .i64 x.B, .int .i64 x.C, .int .i64 x.D]) k_ag_42 k_sz_42_4 rfl rfl (hS2.cf (i := 0) rfl) rfl rfl) ?_
  obtain ⟨r_2, hc, hF⟩ := bind_inv hF
  refine sc 5 rfl rfl (Yc_func (g := 134) (vs := [.agg #[.int .i64 x.A, .int .i64 x.B, .int .i64 x.C, .int .i64 x.D]]) k_call_134 rfl (mc rfl mn) (c_impl_IsValidRing x _  (hS2.inn0 [] rfl) hc)) ?_
  rintro _ w_2 ⟨rfl, hd⟩
  have hS3 := hS2.out00 hd
  have hS3 : ST w0 [] _ [⟨some ⟨b, 0, none⟩, 42, [.int .i64 x.A, .int .i64 x.B, .int .i64 x.C, .int .i64 x.D], 4⟩, ⟨some ⟨b1, 0, none⟩, 42, [.int .i64 0, .int .i64 0, .int .i64 0, .int .i64 0], 4⟩] [] := hS3
  refine sq 6 rfl rfl (Y_not (p := r_2) rfl rfl) ?_
  refine sq 7 rfl rfl (Y_move (v := .bool (!r_2)) rfl rfl) ?_
  refine sgq 8 (B := (!(!r_2))) (v := .agg #[.int .i64 x.A, .int .i64 x.B, .int .i64 x.C, .int .i64 x.D]) rfl rfl (wt_f (gd_of (t := 7) (by kernel_rfl) rfl)) (fun hg => (Y_loadA (B := some ⟨b, 0, none⟩) (i := 0) (cs := [.int .i64 x.A, .int .i64 x.B, .int .i64 x.C, .int .i64 x.D]) (vs := [.int .i64 x.A, .int .i64 x.B, .int .i64 x.C, .int .i64 x.D]) k_ag_42 k_sz_42_4 rfl rfl (hS3.cf (i := 0) rfl) rfl rfl)) ?_
  obtain ⟨r_3, hc1, hF⟩ := bind_inv hF
  refine sgc 9 (B := (!(!r_2))) (v := .bool r_3) (F := hS3.fn) rfl rfl (wt_f (gd_of (t := 7) (by kernel_rfl) rfl)) hS3 (fun hg1 => (Yc_func (g := 136) (vs := [.agg #[.int .i64 x.A, .int .i64 x.B, .int .i64 x.C, .int .i64 x.D]]) k_call_136 rfl (mc (gv_of (B := (!(!r_2))) (v := .agg #[.int .i64 x.A, .int .i64 x.B, .int .i64 x.C, .int .i64 x.D]) hg1) mn) (CV.mono (c_impl_isEven x _  (hS3.inn0 [] rfl) (gb_inv hc1 hg1)) (by rintro _ _ ⟨rfl, h⟩; exact ⟨rfl, hS3.out00 h⟩)))) ?_
  rintro w_3 hS4
  have hS4 : ST _ _ w_3 _ _ := hS4
  refine sgq 10 (B := (!(!r_2))) (v := .bool (!r_3)) rfl rfl (wt_f (gd_of (t := 7) (by kernel_rfl) rfl)) (fun hg2 => (Y_not (p := r_3) rfl (gv_of (B := (!(!r_2))) (v := .bool r_3) hg2))) ?_
  refine sq 11 rfl rfl (Y_or (b := (!r_2)) (z := (!r_3)) rfl rfl rfl rfl) ?_
  refine rw_nil ?_
  refine cw_cond (b := ((!r_2) || (!r_3))) rfl (fun hb => ?_) (fun hb => ?_)
  · skip
    have hF1 := ct hF hb
    refine cw_seq ?_
    refine cw_region ?_
    refine sq 12 rfl rfl (Y_buildS (zs := [.int .i64 0, .int .i64 0, .int .i64 0, .int .i64 0]) (vs := []) (cs := [.int .i64 0, .int .i64 0, .int .i64 0, .int .i64 0]) k_pl_42 k_zero_42 rfl mpn rfl) ?_
    refine ss0 rfl rfl (Ys_store (i := 1) (s := 4) (B := some ⟨b1, 0, none⟩) (T' := 42) (v := .agg #[.int .i64 0, .int .i64 0, .int .i64 0, .int .i64 0]) (vs := [.int .i64 0, .int .i64 0, .int .i64 0, .int .i64 0]) (k := 0) (cs' := [.int .i64 0, .int .i64 0, .int .i64 0, .int .i64 0]) hS4 k_sz_42_4 rfl rfl rfl rfl rfl rfl rfl (Nat.le_of_ble_eq_true rfl) rfl rfl) ?_
    rintro _ w_4 ⟨rfl, hS5⟩
    have hS5 : ST w0 [] _ [⟨some ⟨b, 0, none⟩, 42, [.int .i64 x.A, .int .i64 x.B, .int .i64 x.C, .int .i64 x.D], 4⟩, ⟨some ⟨b1, 0, none⟩, 42, [.int .i64 0, .int .i64 0, .int .i64 0, .int .i64 0], 4⟩] [] := hS5
    refine sq 3 rfl rfl (Y_assign (v := .bool false) rfl rfl) ?_
    refine rw_nil ?_
    refine cw_ret ?_
    obtain ⟨rfl, rfl⟩ := pr2 (some_inj hF1)
    exact ret2 Try.results137 (v1 := .agg #[.int .i64 0, .int .i64 0, .int .i64 0, .int .i64 0]) (resAt_cellA (B := some ⟨b1, 0, none⟩) (i := 0) (cs := [.int .i64 0, .int .i64 0, .int .i64 0, .int .i64 0]) (vs := [.int .i64 0, .int .i64 0, .int .i64 0, .int .i64 0]) rfl k_ag_42 k_sz_42_4 (hS5.cf (i := 1) rfl) rfl rfl) (v2 := .bool false) (resAt_tmp rfl) ⟨rfl, (ST.subR (R' := []) (hS5.sel [] rfl rfl) (fun _ h => by cases h))⟩
  · skip
    have hF2 := cf' hF hb
    refine cw_skip ?_
    refine cw_seq ?_
    refine cw_region ?_
    refine sq 13 rfl rfl (Y_fieldAddr (B := some ⟨b, 0, none⟩) (i := 0) (s := 0) k_fd_42_1_1_3 k_sz_3_1 rfl rfl) ?_
    refine sq 14 rfl rfl (Y_load1 (B := some ⟨b, 0, none⟩) (i := 1) (cs := [.int .i64 x.A, .int .i64 x.B, .int .i64 x.C, .int .i64 x.D]) (v := .int .i64 x.B) k_sc_3 rfl rfl (hS4.cf (i := 0) rfl) rfl) ?_
    refine sq 15 rfl rfl (Y_fieldAddr (B := some ⟨b, 0, none⟩) (i := 0) (s := 0) k_fd_42_3_3_3 k_sz_3_1 rfl rfl) ?_
    refine sq 16 rfl rfl (Y_load1 (B := some ⟨b, 0, none⟩) (i := 3) (cs := [.int .i64 x.A, .int .i64 x.B, .int .i64 x.C, .int .i64 x.D]) (v := .int .i64 x.D) k_sc_3 rfl rfl (hS4.cf (i := 0) rfl) rfl) ?_
    refine sq 17 rfl rfl (Y_sub (k := .i64) (a := x.B) (b := x.D) rfl rfl rfl) ?_
    refine sq 18 rfl rfl (Y_quo (k := .i64) (a := (IntKind.i64.wrap (x.B - x.D))) (b := 2) rfl rfl rfl (by decide)) ?_
    refine sq 19 rfl rfl (Y_fieldAddr (B := some ⟨b, 0, none⟩) (i := 0) (s := 0) k_fd_42_0_0_3 k_sz_3_1 rfl rfl) ?_
    refine sq 20 rfl rfl (Y_load1 (B := some ⟨b, 0, none⟩) (i := 0) (cs := [.int .i64 x.A, .int .i64 x.B, .int .i64 x.C, .int .i64 x.D]) (v := .int .i64 x.A) k_sc_3 rfl rfl (hS4.cf (i := 0) rfl) rfl) ?_
    refine sq 21 rfl rfl (Y_fieldAddr (B := some ⟨b, 0, none⟩) (i := 0) (s := 0) k_fd_42_2_2_3 k_sz_3_1 rfl rfl) ?_
    refine sq 22 rfl rfl (Y_load1 (B := some ⟨b, 0, none⟩) (i := 2) (cs := [.int .i64 x.A, .int .i64 x.B, .int .i64 x.C, .int .i64 x.D]) (v := .int .i64 x.C) k_sc_3 rfl rfl (hS4.cf (i := 0) rfl) rfl) ?_
    refine sq 23 rfl rfl (Y_add (k := .i64) (a := x.A) (b := x.C) rfl rfl rfl) ?_
    refine sq 24 rfl rfl (Y_quo (k := .i64) (a := (IntKind.i64.wrap (x.A + x.C))) (b := 2) rfl rfl rfl (by decide)) ?_
    refine sq 25 rfl rfl (Y_fieldAddr (B := some ⟨b, 0, none⟩) (i := 0) (s := 0) k_fd_42_1_1_3 k_sz_3_1 rfl rfl) ?_
    refine sq 26 rfl rfl (Y_load1 (B := some ⟨b, 0, none⟩) (i := 1) (cs := [.int .i64 x.A, .int .i64 x.B, .int .i64 x.C, .int .i64 x.D]) (v := .int .i64 x.B) k_sc_3 rfl rfl (hS4.cf (i := 0) rfl) rfl) ?_
    refine sq 27 rfl rfl (Y_fieldAddr (B := some ⟨b, 0, none⟩) (i := 0) (s := 0) k_fd_42_3_3_3 k_sz_3_1 rfl rfl) ?_
    refine sq 28 rfl rfl (Y_load1 (B := some ⟨b, 0, none⟩) (i := 3) (cs := [.int .i64 x.A, .int .i64 x.B, .int .i64 x.C, .int .i64 x.D]) (v := .int .i64 x.D) k_sc_3 rfl rfl (hS4.cf (i := 0) rfl) rfl) ?_
    refine sq 29 rfl rfl (Y_add (k := .i64) (a := x.B) (b := x.D) rfl rfl rfl) ?_
    refine sq 30 rfl rfl (Y_quo (k := .i64) (a := (IntKind.i64.wrap (x.B + x.D))) (b := 2) rfl rfl rfl (by decide)) ?_
    refine sq 31 rfl rfl (Y_fieldAddr (B := some ⟨b, 0, none⟩) (i := 0) (s := 0) k_fd_42_2_2_3 k_sz_3_1 rfl rfl) ?_
    refine sq 32 rfl rfl (Y_load1 (B := some ⟨b, 0, none⟩) (i := 2) (cs := [.int .i64 x.A, .int .i64 x.B, .int .i64 x.C, .int .i64 x.D]) (v := .int .i64 x.C) k_sc_3 rfl rfl (hS4.cf (i := 0) rfl) rfl) ?_
    refine sq 33 rfl rfl (Y_fieldAddr (B := some ⟨b, 0, none⟩) (i := 0) (s := 0) k_fd_42_0_0_3 k_sz_3_1 rfl rfl) ?_
    refine sq 34 rfl rfl (Y_load1 (B := some ⟨b, 0, none⟩) (i := 0) (cs := [.int .i64 x.A, .int .i64 x.B, .int .i64 x.C, .int .i64 x.D]) (v := .int .i64 x.A) k_sc_3 rfl rfl (hS4.cf (i := 0) rfl) rfl) ?_
    refine sq 35 rfl rfl (Y_sub (k := .i64) (a := x.C) (b := x.A) rfl rfl rfl) ?_
    refine sq 36 rfl rfl (Y_quo (k := .i64) (a := (IntKind.i64.wrap (x.C - x.A))) (b := 2) rfl rfl rfl (by decide)) ?_
    refine sq 37 rfl rfl (Y_buildS (zs := [.int .i64 0, .int .i64 0, .int .i64 0, .int .i64 0]) (vs := [(0, .int .i64 (IntKind.i64.wrap (Int.tdiv (IntKind.i64.wrap (x.B - x.D)) 2))), (1, .int .i64 (IntKind.i64.wrap (Int.tdiv (IntKind.i64.wrap (x.A + x.C)) 2))), (2, .int .i64 (IntKind.i64.wrap (Int.tdiv (IntKind.i64.wrap (x.B + x.D)) 2))), (3, .int .i64 (IntKind.i64.wrap (Int.tdiv (IntKind.i64.wrap (x.C - x.A)) 2)))]) (cs := [.int .i64 (IntKind.i64.wrap (Int.tdiv (IntKind.i64.wrap (x.B - x.D)) 2)), .int .i64 (IntKind.i64.wrap (Int.tdiv (IntKind.i64.wrap (x.A + x.C)) 2)), .int .i64 (IntKind.i64.wrap (Int.tdiv (IntKind.i64.wrap (x.B + x.D)) 2)), .int .i64 (IntKind.i64.wrap (Int.tdiv (IntKind.i64.wrap (x.C - x.A)) 2))]) k_pl_42 k_zero_42 rfl (mpc rfl (mpc rfl (mpc rfl (mpc rfl mpn)))) rfl) ?_
    refine sq 38 rfl rfl (Y_loadA (B := some ⟨b, 0, none⟩) (i := 0) (cs := [.int .i64 x.A, .int .i64 x.B, .int .i64 x.C, .int .i64 x.D]) (vs := [.int .i64 x.A, .int .i64 x.B, .int .i64 x.C, .int .i64 x.D]) k_ag_42 k_sz_42_4 rfl rfl (hS4.cf (i := 0) rfl) rfl rfl) ?_
    refine ss 39 rfl rfl (Ys_bslice (s := 4) (len := 1) (vs := [(0, .agg #[.int .i64 x.A, .int .i64 x.B, .int .i64 x.C, .int .i64 x.D])]) (cs := [.int .i64 x.A, .int .i64 x.B, .int .i64 x.C, .int .i64 x.D]) (zs := [.int .i64 0, .int .i64 0, .int .i64 0, .int .i64 0]) (m := 4) hS4 k_sl_171_42 k_sz_42_4 k_zc_42 rfl (mpc rfl mpn) rfl rfl rfl (by kernel_rfl) (by kernel_rfl) rfl) ?_
    rintro _ w_5 ⟨b2, rfl, hS6⟩
    have hS6 : ST w0 [] _ [⟨some ⟨b, 0, none⟩, 42, [.int .i64 x.A, .int .i64 x.B, .int .i64 x.C, .int .i64 x.D], 4⟩, ⟨some ⟨b1, 0, none⟩, 42, [.int .i64 0, .int .i64 0, .int .i64 0, .int .i64 0], 4⟩, ⟨some ⟨b2, 0, none⟩, 42, ([x].flatMap enc_Ring), 1 * 4⟩] [] := hS6
    obtain ⟨⟨r_4, r_5⟩, hc2, hF2⟩ := bind_inv hF2
    refine sc 40 rfl rfl (Yc_func (g := 135) (vs := [.agg #[.int .i64 (IntKind.i64.wrap (Int.tdiv (IntKind.i64.wrap (x.B - x.D)) 2)), .int .i64 (IntKind.i64.wrap (Int.tdiv (IntKind.i64.wrap (x.A + x.C)) 2)), .int .i64 (IntKind.i64.wrap (Int.tdiv (IntKind.i64.wrap (x.B + x.D)) 2)), .int .i64 (IntKind.i64.wrap (Int.tdiv (IntKind.i64.wrap (x.C - x.A)) 2))], .slice (some ⟨b2, 0, none⟩) 1 1]) k_call_135 rfl (mc rfl (mc rfl mn)) (c_impl_ringIf (TRing.mk (IntKind.i64.wrap (Int.tdiv (IntKind.i64.wrap (x.B - x.D)) 2)) (IntKind.i64.wrap (Int.tdiv (IntKind.i64.wrap (x.A + x.C)) 2)) (IntKind.i64.wrap (Int.tdiv (IntKind.i64.wrap (x.B + x.D)) 2)) (IntKind.i64.wrap (Int.tdiv (IntKind.i64.wrap (x.C - x.A)) 2))) [x] (some ⟨b2, 0, none⟩) 1 1 _ rfl (hS6.inn [false, false, true] rfl [] rfl) hc2)) ?_
    rintro _ w_6 ⟨rfl, hd1⟩
    have hS7 := hS6.out [false, false, true] rfl hd1
    have hS7 : ST w0 [] _ [⟨some ⟨b, 0, none⟩, 42, [.int .i64 x.A, .int .i64 x.B, .int .i64 x.C, .int .i64 x.D], 4⟩, ⟨some ⟨b1, 0, none⟩, 42, [.int .i64 0, .int .i64 0, .int .i64 0, .int .i64 0], 4⟩] [] := hS7
    refine sq 41 rfl rfl (Y_extract (v := .agg #[.int .i64 r_4.A, .int .i64 r_4.B, .int .i64 r_4.C, .int .i64 r_4.D]) rfl rfl rfl) ?_
    refine sq 42 rfl rfl (Y_extract (v := .bool r_5) rfl rfl rfl) ?_
    refine ss0 rfl rfl (Ys_store (i := 1) (s := 4) (B := some ⟨b1, 0, none⟩) (T' := 42) (v := .agg #[.int .i64 r_4.A, .int .i64 r_4.B, .int .i64 r_4.C, .int .i64 r_4.D]) (vs := [.int .i64 r_4.A, .int .i64 r_4.B, .int .i64 r_4.C, .int .i64 r_4.D]) (k := 0) (cs' := [.int .i64 r_4.A, .int .i64 r_4.B, .int .i64 r_4.C, .int .i64 r_4.D]) hS7 k_sz_42_4 rfl rfl rfl rfl rfl rfl rfl (Nat.le_of_ble_eq_true rfl) rfl rfl) ?_
    rintro _ w_7 ⟨rfl, hS8⟩
    have hS8 : ST w0 [] _ [⟨some ⟨b, 0, none⟩, 42, [.int .i64 x.A, .int .i64 x.B, .int .i64 x.C, .int .i64 x.D], 4⟩, ⟨some ⟨b1, 0, none⟩, 42, [.int .i64 r_4.A, .int .i64 r_4.B, .int .i64 r_4.C, .int .i64 r_4.D], 4⟩] [] := hS8
    refine sq 3 rfl rfl (Y_assign (v := .bool r_5) rfl rfl) ?_
    refine rw_nil ?_
    refine cw_ret ?_
    obtain ⟨rfl, rfl⟩ := pr2 (some_inj hF2)
    exact ret2 Try.results137 (v1 := .agg #[.int .i64 r_4.A, .int .i64 r_4.B, .int .i64 r_4.C, .int .i64 r_4.D]) (resAt_cellA (B := some ⟨b1, 0, none⟩) (i := 0) (cs := [.int .i64 r_4.A, .int .i64 r_4.B, .int .i64 r_4.C, .int .i64 r_4.D]) (vs := [.int .i64 r_4.A, .int .i64 r_4.B, .int .i64 r_4.C, .int .i64 r_4.D]) rfl k_ag_42 k_sz_42_4 (hS8.cf (i := 1) rfl) rfl rfl) (v2 := .bool r_5) (resAt_tmp rfl) ⟨rfl, (ST.subR (R' := []) (hS8.sel [] rfl rfl) (fun _ h => by cases h))⟩

theorem c_impl_DyadicOf (num : TRing) (exp : Int)  (w0 : World)  (hS : ST w0 [] w0 [] []) {r_ : TDyadic} {r_1 : Bool} (hF : F_impl_DyadicOf num exp = some (r_, r_1)) :
    CV Try.prog 103 #[.agg #[.int .i64 num.A, .int .i64 num.B, .int .i64 num.C, .int .i64 num.D], .int .i64 exp] w0 (fun v w' => v = .tuple #[.agg #[.int .i64 r_.Num.A, .int .i64 r_.Num.B, .int .i64 r_.Num.C, .int .i64 r_.Num.D, .int .i64 r_.Exp], .bool r_1] ∧ ST w0 [] w' [] []) := by
  unfold F_impl_DyadicOf at hF
  refine cv_of_cw 31 Try.func103 rfl Try.ntmps103 rfl ?_
  refine cw_seq ?_
  refine cw_region ?_
  refine ss 2 rfl rfl (Ys_box (T := 42) (v := .agg #[.int .i64 num.A, .int .i64 num.B, .int .i64 num.C, .int .i64 num.D]) (cs := [.int .i64 num.A, .int .i64 num.B, .int .i64 num.C, .int .i64 num.D]) (m := 4) hS rfl rfl rfl rfl) ?_
  rintro _ w_ ⟨b, rfl, hS1⟩
  refine ss 4 rfl rfl (Ys_alloc (T := 44) (cs := [.int .i64 0, .int .i64 0, .int .i64 0, .int .i64 0, .int .i64 0]) (m := 5) hS1 k_zero_44 rfl rfl rfl) ?_
  rintro _ w_1 ⟨b1, rfl, hS2⟩
  have hS2 : ST w0 [] _ [⟨some ⟨b, 0, none⟩, 42, [.int .i64 num.A, .int .i64 num.B, .int .i64 num.C, .int .i64 num.D], 4⟩, ⟨some ⟨b1, 0, none⟩, 44, [.int .i64 0, .int .i64 0, .int .i64 0, .int .i64 0, .int .i64 0], 5⟩] [] := hS2
  refine sq 5 rfl rfl (Y_assign (v := .bool false) rfl rfl) ?_
  refine rw_nil ?_
  refine cw_seq ?_
  refine cw_seq ?_
  refine cw_region ?_
  refine sq 6 rfl rfl (Y_loadA (B := some ⟨b, 0, none⟩) (i := 0) (cs := [.int .i64 num.A, .int .i64 num.B, .int .i64 num.C, .int .i64 num.D]) (vs := [.int .i64 num.A, .int .i64 num.B, .int .i64 num.C, .int .i64 num.D]) k_ag_42 k_sz_42_4 rfl rfl (hS2.cf (i := 0) rfl) rfl rfl) ?_
  obtain ⟨r_2, hc, hF⟩ := bind_inv hF
  refine sc 7 rfl rfl (Yc_func (g := 134) (vs := [.agg #[.int .i64 num.A, .int .i64 num.B, .int .i64 num.C, .int .i64 num.D]]) k_call_134 rfl (mc rfl mn) (c_impl_IsValidRing num _  (hS2.inn0 [] rfl) hc)) ?_
  rintro _ w_2 ⟨rfl, hd⟩
  have hS3 := hS2.out00 hd
  have hS3 : ST w0 [] _ [⟨some ⟨b, 0, none⟩, 42, [.int .i64 num.A, .int .i64 num.B, .int .i64 num.C, .int .i64 num.D], 4⟩, ⟨some ⟨b1, 0, none⟩, 44, [.int .i64 0, .int .i64 0, .int .i64 0, .int .i64 0, .int .i64 0], 5⟩] [] := hS3
  refine sq 8 rfl rfl (Y_not (p := r_2) rfl rfl) ?_
  refine sq 9 rfl rfl (Y_move (v := .bool (!r_2)) rfl rfl) ?_
  refine sgq 10 (B := (!(!r_2))) (v := .int .i64 exp) rfl rfl (wt_f (gd_of (t := 9) (by kernel_rfl) rfl)) (fun hg => (Y_move (v := .int .i64 exp) rfl rfl)) ?_
  obtain ⟨r_3, hc1, hF⟩ := bind_inv hF
  refine sgc 11 (B := (!(!r_2))) (v := .bool r_3) (F := hS3.fn) rfl rfl (wt_f (gd_of (t := 9) (by kernel_rfl) rfl)) hS3 (fun hg1 => (Yc_func (g := 82) (vs := [.int .i64 exp, .int .i64 0, .int .i64 60]) k_call_82 rfl (mc (gv_of (B := (!(!r_2))) (v := .int .i64 exp) hg1) (mc rfl (mc rfl mn))) (CV.mono (c_impl_within exp 0 60 _  (hS3.inn0 [] rfl) (gb_inv hc1 hg1)) (by rintro _ _ ⟨rfl, h⟩; exact ⟨rfl, hS3.out00 h⟩)))) ?_
  rintro w_3 hS4
  have hS4 : ST _ _ w_3 _ _ := hS4
  refine sgq 12 (B := (!(!r_2))) (v := .bool (!r_3)) rfl rfl (wt_f (gd_of (t := 9) (by kernel_rfl) rfl)) (fun hg2 => (Y_not (p := r_3) rfl (gv_of (B := (!(!r_2))) (v := .bool r_3) hg2))) ?_
  refine sq 13 rfl rfl (Y_or (b := (!r_2)) (z := (!r_3)) rfl rfl rfl rfl) ?_
  refine rw_nil ?_
  refine cw_cond (b := ((!r_2) || (!r_3))) rfl (fun hb => ?_) (fun hb => ?_)
  · skip
    have hF1 := ct hF hb
    refine cw_seq ?_
    refine cw_region ?_
    refine sq 14 rfl rfl (Y_buildS (zs := [.int .i64 0, .int .i64 0, .int .i64 0, .int .i64 0, .int .i64 0]) (vs := []) (cs := [.int .i64 0, .int .i64 0, .int .i64 0, .int .i64 0, .int .i64 0]) k_pl_44 k_zero_44 rfl mpn rfl) ?_
    refine ss0 rfl rfl (Ys_store (i := 1) (s := 5) (B := some ⟨b1, 0, none⟩) (T' := 44) (v := .agg #[.int .i64 0, .int .i64 0, .int .i64 0, .int .i64 0, .int .i64 0]) (vs := [.int .i64 0, .int .i64 0, .int .i64 0, .int .i64 0, .int .i64 0]) (k := 0) (cs' := [.int .i64 0, .int .i64 0, .int .i64 0, .int .i64 0, .int .i64 0]) hS4 k_sz_44_5 rfl rfl rfl rfl rfl rfl rfl (Nat.le_of_ble_eq_true rfl) rfl rfl) ?_
    rintro _ w_4 ⟨rfl, hS5⟩
    have hS5 : ST w0 [] _ [⟨some ⟨b, 0, none⟩, 42, [.int .i64 num.A, .int .i64 num.B, .int .i64 num.C, .int .i64 num.D], 4⟩, ⟨some ⟨b1, 0, none⟩, 44, [.int .i64 0, .int .i64 0, .int .i64 0, .int .i64 0, .int .i64 0], 5⟩] [] := hS5
    refine sq 5 rfl rfl (Y_assign (v := .bool false) rfl rfl) ?_
    refine rw_nil ?_
    refine cw_ret ?_
    obtain ⟨rfl, rfl⟩ := pr2 (some_inj hF1)
    exact ret2 Try.results103 (v1 := .agg #[.int .i64 0, .int .i64 0, .int .i64 0, .int .i64 0, .int .i64 0]) (resAt_cellA (B := some ⟨b1, 0, none⟩) (i := 0) (cs := [.int .i64 0, .int .i64 0, .int .i64 0, .int .i64 0, .int .i64 0]) (vs := [.int .i64 0, .int .i64 0, .int .i64 0, .int .i64 0, .int .i64 0]) rfl k_ag_44 k_sz_44_5 (hS5.cf (i := 1) rfl) rfl rfl) (v2 := .bool false) (resAt_tmp rfl) ⟨rfl, (ST.subR (R' := []) (hS5.sel [] rfl rfl) (fun _ h => by cases h))⟩
  · skip
    have hF2 := cf' hF hb
    refine cw_skip ?_
    refine cw_seq ?_
    obtain ⟨z, hz, hF3⟩ := bind_inv hF2
    refine cw_block ?_
    refine cw_loop (fun k f w => ∃ (exp1 : Int) (A : Int) (B : Int) (C : Int) (D : Int), FF f [(1, .int .i64 exp1), (2, pt (some ⟨b, 0, none⟩) 0), (4, pt (some ⟨b1, 0, none⟩) 0)] ∧ ST w0 [] w [⟨some ⟨b, 0, none⟩, 42, [.int .i64 A, .int .i64 B, .int .i64 C, .int .i64 D], 4⟩, ⟨some ⟨b1, 0, none⟩, 44, [.int .i64 0, .int .i64 0, .int .i64 0, .int .i64 0, .int .i64 0], 5⟩] [] ∧ whX F_impl_DyadicOf_l1 k (exp1, A, B, C, D) = some z) fuel ⟨exp, num.A, num.B, num.C, num.D, (FF.cons rfl (FF.cons rfl (FF.cons rfl FF.nil))), (hS4.sel [0, 1] rfl rfl), hz⟩ ?_
    rintro k_ f w ⟨exp1, A, B, C, D, hf, hS6, hL⟩
    obtain ⟨k_1, y, rfl, hb1, hL1⟩ := whX_go hL
    unfold F_impl_DyadicOf_l1 at hb1
    refine cw_seq ?_
    refine cw_seq ?_
    refine cw_region ?_
    refine sq 15 rfl rfl (Y_move (v := .int .i64 exp1) rfl (hf.get 1 0 rfl)) ?_
    refine sq 16 rfl rfl (Y_gt (k := .i64) (a := exp1) (b := 0) rfl rfl rfl) ?_
    refine sq 17 rfl rfl (Y_move (v := .bool (decide (0 < exp1))) rfl rfl) ?_
    refine sgq 18 (B := (decide (0 < exp1))) (v := .agg #[.int .i64 A, .int .i64 B, .int .i64 C, .int .i64 D]) rfl rfl (wt_t (gd_of (t := 17) (by kernel_rfl) rfl)) (fun hg3 => (Y_loadA (B := some ⟨b, 0, none⟩) (i := 0) (cs := [.int .i64 A, .int .i64 B, .int .i64 C, .int .i64 D]) (vs := [.int .i64 A, .int .i64 B, .int .i64 C, .int .i64 D]) k_ag_42 k_sz_42_4 rfl (hf.get 2 1 rfl) (hS6.cf (i := 0) rfl) rfl rfl)) ?_
    obtain ⟨r_4, hc2, hb1⟩ := bind_inv hb1
    refine sgc 19 (B := (decide (0 < exp1))) (v := .bool r_4) (F := hS6.fn) rfl rfl (wt_t (gd_of (t := 17) (by kernel_rfl) rfl)) hS6 (fun hg4 => (Yc_func (g := 136) (vs := [.agg #[.int .i64 A, .int .i64 B, .int .i64 C, .int .i64 D]]) k_call_136 rfl (mc (gv_of (B := (decide (0 < exp1))) (v := .agg #[.int .i64 A, .int .i64 B, .int .i64 C, .int .i64 D]) hg4) mn) (CV.mono (c_impl_isEven (TRing.mk A B C D) _  (hS6.inn0 [] rfl) (gb_inv hc2 hg4)) (by rintro _ _ ⟨rfl, h⟩; exact ⟨rfl, hS6.out00 h⟩)))) ?_
    rintro w_5 hS7
    have hS7 : ST _ _ w_5 _ _ := hS7
    refine sq 20 rfl rfl (Y_and (b := (decide (0 < exp1))) (z := r_4) rfl rfl rfl rfl) ?_
    refine rw_nil ?_
    refine cw_cond (b := ((decide (0 < exp1)) && r_4)) rfl (fun hb2 => ?_) (fun hb2 => ?_)
    · skip
      have hF4 := ct hb1 hb2
      refine cw_skip ?_
      refine cw_block ?_
      refine cw_seq ?_
      refine cw_region ?_
      refine sq 22 rfl rfl (Y_loadA (B := some ⟨b, 0, none⟩) (i := 0) (cs := [.int .i64 A, .int .i64 B, .int .i64 C, .int .i64 D]) (vs := [.int .i64 A, .int .i64 B, .int .i64 C, .int .i64 D]) k_ag_42 k_sz_42_4 rfl (hf.get 2 1 rfl) (hS7.cf (i := 0) rfl) rfl rfl) ?_
      obtain ⟨⟨r_5, r_6⟩, hc3, hF4⟩ := bind_inv hF4
      refine sc 23 rfl rfl (Yc_func (g := 137) (vs := [.agg #[.int .i64 A, .int .i64 B, .int .i64 C, .int .i64 D]]) k_call_137 rfl (mc rfl mn) (c_impl_DivRootTwo (TRing.mk A B C D) _  (hS7.inn0 [] rfl) hc3)) ?_
      rintro _ w_6 ⟨rfl, hd1⟩
      have hS8 := hS7.out00 hd1
      have hS8 : ST w0 [] _ [⟨some ⟨b, 0, none⟩, 42, [.int .i64 A, .int .i64 B, .int .i64 C, .int .i64 D], 4⟩, ⟨some ⟨b1, 0, none⟩, 44, [.int .i64 0, .int .i64 0, .int .i64 0, .int .i64 0, .int .i64 0], 5⟩] [] := hS8
      refine sq 21 rfl rfl (Y_move (v := .tuple #[.agg #[.int .i64 r_5.A, .int .i64 r_5.B, .int .i64 r_5.C, .int .i64 r_5.D], .bool r_6]) rfl rfl) ?_
      refine sq 24 rfl rfl (Y_extract (v := .agg #[.int .i64 r_5.A, .int .i64 r_5.B, .int .i64 r_5.C, .int .i64 r_5.D]) rfl rfl rfl) ?_
      refine sq 25 rfl rfl (Y_extract (v := .bool r_6) rfl rfl rfl) ?_
      refine ss0 rfl rfl (Ys_store (i := 0) (s := 4) (B := some ⟨b, 0, none⟩) (T' := 42) (v := .agg #[.int .i64 r_5.A, .int .i64 r_5.B, .int .i64 r_5.C, .int .i64 r_5.D]) (vs := [.int .i64 r_5.A, .int .i64 r_5.B, .int .i64 r_5.C, .int .i64 r_5.D]) (k := 0) (cs' := [.int .i64 r_5.A, .int .i64 r_5.B, .int .i64 r_5.C, .int .i64 r_5.D]) hS8 k_sz_42_4 rfl (hf.get 2 1 rfl) rfl rfl rfl rfl rfl (Nat.le_of_ble_eq_true rfl) rfl rfl) ?_
      rintro _ w_7 ⟨rfl, hS9⟩
      have hS9 : ST w0 [] _ [⟨some ⟨b, 0, none⟩, 42, [.int .i64 r_5.A, .int .i64 r_5.B, .int .i64 r_5.C, .int .i64 r_5.D], 4⟩, ⟨some ⟨b1, 0, none⟩, 44, [.int .i64 0, .int .i64 0, .int .i64 0, .int .i64 0, .int .i64 0], 5⟩] [] := hS9
      refine rw_nil ?_
      refine cw_region ?_
      refine sq 26 rfl rfl (Y_move (v := .int .i64 exp1) rfl (hf.get 1 0 rfl)) ?_
      refine sq 27 rfl rfl (Y_sub (k := .i64) (a := exp1) (b := 1) rfl rfl rfl) ?_
      refine sq 1 rfl rfl (Y_assign (v := .int .i64 (IntKind.i64.wrap (exp1 - 1))) rfl rfl) ?_
      refine rw_nil ?_
      obtain rfl := some_inj hF4
      exact ⟨k_1, Nat.lt_succ_self _, (IntKind.i64.wrap (exp1 - 1)), r_5.A, r_5.B, r_5.C, r_5.D, (FF.cons rfl (FF.cons (hf.get 2 1 rfl) (FF.cons (hf.get 4 2 rfl) FF.nil))), (hS9.sel [0, 1] rfl rfl), hL1⟩
    · skip
      have hF5 := cf' hb1 hb2
      refine cw_exit rfl ?_
      obtain rfl := some_inj hF5
      obtain rfl := some_inj hL1
      refine cw_seq ?_
      refine cw_region ?_
      refine sq 28 rfl rfl (Y_loadA (B := some ⟨b, 0, none⟩) (i := 0) (cs := [.int .i64 A, .int .i64 B, .int .i64 C, .int .i64 D]) (vs := [.int .i64 A, .int .i64 B, .int .i64 C, .int .i64 D]) k_ag_42 k_sz_42_4 rfl (hf.get 2 1 rfl) (hS7.cf (i := 0) rfl) rfl rfl) ?_
      refine sq 29 rfl rfl (Y_move (v := .int .i64 exp1) rfl (hf.get 1 0 rfl)) ?_
      refine sq 30 rfl rfl (Y_buildS (zs := [.int .i64 0, .int .i64 0, .int .i64 0, .int .i64 0, .int .i64 0]) (vs := [(0, .agg #[.int .i64 A, .int .i64 B, .int .i64 C, .int .i64 D]), (1, .int .i64 exp1)]) (cs := [.int .i64 A, .int .i64 B, .int .i64 C, .int .i64 D, .int .i64 exp1]) k_pl_44 k_zero_44 rfl (mpc rfl (mpc rfl mpn)) rfl) ?_
      refine ss0 rfl rfl (Ys_store (i := 1) (s := 5) (B := some ⟨b1, 0, none⟩) (T' := 44) (v := .agg #[.int .i64 A, .int .i64 B, .int .i64 C, .int .i64 D, .int .i64 exp1]) (vs := [.int .i64 A, .int .i64 B, .int .i64 C, .int .i64 D, .int .i64 exp1]) (k := 0) (cs' := [.int .i64 A, .int .i64 B, .int .i64 C, .int .i64 D, .int .i64 exp1]) hS7 k_sz_44_5 rfl (hf.get 4 2 rfl) rfl rfl rfl rfl rfl (Nat.le_of_ble_eq_true rfl) rfl rfl) ?_
      rintro _ w_8 ⟨rfl, hS10⟩
      have hS10 : ST w0 [] _ [⟨some ⟨b, 0, none⟩, 42, [.int .i64 A, .int .i64 B, .int .i64 C, .int .i64 D], 4⟩, ⟨some ⟨b1, 0, none⟩, 44, [.int .i64 A, .int .i64 B, .int .i64 C, .int .i64 D, .int .i64 exp1], 5⟩] [] := hS10
      refine sq 5 rfl rfl (Y_assign (v := .bool true) rfl rfl) ?_
      refine rw_nil ?_
      refine cw_ret ?_
      obtain ⟨rfl, rfl⟩ := pr2 (some_inj hF3)
      exact ret2 Try.results103 (v1 := .agg #[.int .i64 A, .int .i64 B, .int .i64 C, .int .i64 D, .int .i64 exp1]) (resAt_cellA (B := some ⟨b1, 0, none⟩) (i := 0) (cs := [.int .i64 A, .int .i64 B, .int .i64 C, .int .i64 D, .int .i64 exp1]) (vs := [.int .i64 A, .int .i64 B, .int .i64 C, .int .i64 D, .int .i64 exp1]) (hf.get 4 2 rfl) k_ag_44 k_sz_44_5 (hS10.cf (i := 1) rfl) rfl rfl) (v2 := .bool true) (resAt_tmp rfl) ⟨rfl, (ST.subR (R' := []) (hS10.sel [] rfl rfl) (fun _ h => by cases h))⟩

theorem c_impl_MulDyadic (x : TDyadic) (y : TDyadic)  (w0 : World)  (hS : ST w0 [] w0 [] []) {r_ : TDyadic} {r_1 : Bool} (hF : F_impl_MulDyadic x y = some (r_, r_1)) :
    CV Try.prog 46 #[.agg #[.int .i64 x.Num.A, .int .i64 x.Num.B, .int .i64 x.Num.C, .int .i64 x.Num.D, .int .i64 x.Exp], .agg #[.int .i64 y.Num.A, .int .i64 y.Num.B, .int .i64 y.Num.C, .int .i64 y.Num.D, .int .i64 y.Exp]] w0 (fun v w' => v = .tuple #[.agg #[.int .i64 r_.Num.A, .int .i64 r_.Num.B, .int .i64 r_.Num.C, .int .i64 r_.Num.D, .int .i64 r_.Exp], .bool r_1] ∧ ST w0 [] w' [] []) := by
  unfold F_impl_MulDyadic at hF
  refine cv_of_cw 38 Try.func46 rfl Try.ntmps46 rfl ?_
  refine cw_seq ?_
  refine cw_region ?_
  refine ss 2 rfl rfl (Ys_box (T := 44) (v := .agg #[.int .i64 x.Num.A, .int .i64 x.Num.B, .int .i64 x.Num.C, .int .i64 x.Num.D, .int .i64 x.Exp]) (cs := [.int .i64 x.Num.A, .int .i64 x.Num.B, .int .i64 x.Num.C, .int .i64 x.Num.D, .int .i64 x.Exp]) (m := 5) hS rfl rfl rfl rfl) ?_
  rintro _ w_ ⟨b, rfl, hS1⟩
  refine ss 3 rfl rfl (Ys_box (T := 44) (v := .agg #[.int .i64 y.Num.A, .int .i64 y.Num.B, .int .i64 y.Num.C, .int .i64 y.Num.D, .int .i64 y.Exp]) (cs := [.int .i64 y.Num.A, .int .i64 y.Num.B, .int .i64 y.Num.C, .int .i64 y.Num.D, .int .i64 y.Exp]) (m := 5) hS1 rfl rfl rfl rfl) ?_
  rintro _ w_1 ⟨b1, rfl, hS2⟩
  have hS2 : ST w0 [] _ [⟨some ⟨b, 0, none⟩, 44, [.int .i64 x.Num.A, .int .i64 x.Num.B, .int .i64 x.Num.C, .int .i64 x.Num.D, .int .i64 x.Exp], 5⟩, ⟨some ⟨b1, 0, none⟩, 44, [.int .i64 y.Num.A, .int .i64 y.Num.B, .int .i64 y.Num.C, .int .i64 y.Num.D, .int .i64 y.Exp], 5⟩] [] := hS2
  refine ss 4 rfl rfl (Ys_alloc (T := 44) (cs := [.int .i64 0, .int .i64 0, .int .i64 0, .int .i64 0, .int .i64 0]) (m := 5) hS2 k_zero_44 rfl rfl rfl) ?_
  rintro _ w_2 ⟨b2, rfl, hS3⟩
  have hS3 : ST w0 [] _ [⟨some ⟨b, 0, none⟩, 44, [.int .i64 x.Num.A, .int .i64 x.Num.B, .int .i64 x.Num.C, .int .i64 x.Num.D, .int .i64 x.Exp], 5⟩, ⟨some ⟨b1, 0, none⟩, 44, [.int .i64 y.Num.A, .int .i64 y.Num.B, .int .i64 y.Num.C, .int .i64 y.Num.D, .int .i64 y.Exp], 5⟩, ⟨some ⟨b2, 0, none⟩, 44, [.int .i64 0, .int .i64 0, .int .i64 0, .int .i64 0, .int .i64 0], 5⟩] [] := hS3
  refine sq 5 rfl rfl (Y_assign (v := .bool false) rfl rfl) ?_
  refine rw_nil ?_
  refine cw_seq ?_
  refine cw_region ?_
  refine sq 9 rfl rfl (Y_fieldAddr (B := some ⟨b, 0, none⟩) (i := 0) (s := 3) k_fd_44_0_0_42 k_sz_42_4 rfl rfl) ?_
  refine sq 10 rfl rfl (Y_loadA (B := some ⟨b, 0, none⟩) (i := 0) (cs := [.int .i64 x.Num.A, .int .i64 x.Num.B, .int .i64 x.Num.C, .int .i64 x.Num.D, .int .i64 x.Exp]) (vs := [.int .i64 x.Num.A, .int .i64 x.Num.B, .int .i64 x.Num.C, .int .i64 x.Num.D]) k_ag_42 k_sz_42_4 rfl rfl (hS3.cf (i := 0) rfl) rfl rfl) ?_
  refine sq 11 rfl rfl (Y_fieldAddr (B := some ⟨b1, 0, none⟩) (i := 0) (s := 3) k_fd_44_0_0_42 k_sz_42_4 rfl rfl) ?_
  refine sq 12 rfl rfl (Y_loadA (B := some ⟨b1, 0, none⟩) (i := 0) (cs := [.int .i64 y.Num.A, .int .i64 y.Num.B, .int .i64 y.Num.C, .int .i64 y.Num.D, .int .i64 y.Exp]) (vs := [.int .i64 y.Num.A, .int .i64 y.Num.B, .int .i64 y.Num.C, .int .i64 y.Num.D]) k_ag_42 k_sz_42_4 rfl rfl (hS3.cf (i := 1) rfl) rfl rfl) ?_
  obtain ⟨⟨r_2, r_3⟩, hc, hF⟩ := bind_inv hF
  refine sc 13 rfl rfl (Yc_func (g := 101) (vs := [.agg #[.int .i64 x.Num.A, .int .i64 x.Num.B, .int .i64 x.Num.C, .int .i64 x.Num.D], .agg #[.int .i64 y.Num.A, .int .i64 y.Num.B, .int .i64 y.Num.C, .int .i64 y.Num.D]]) k_call_101 rfl (mc rfl (mc rfl mn)) (c_impl_MulRing x.Num y.Num _  (hS3.inn0 [] rfl) hc)) ?_
  rintro _ w_3 ⟨rfl, hd⟩
  have hS4 := hS3.out00 hd
  have hS4 : ST w0 [] _ [⟨some ⟨b, 0, none⟩, 44, [.int .i64 x.Num.A, .int .i64 x.Num.B, .int .i64 x.Num.C, .int .i64 x.Num.D, .int .i64 x.Exp], 5⟩, ⟨some ⟨b1, 0, none⟩, 44, [.int .i64 y.Num.A, .int .i64 y.Num.B, .int .i64 y.Num.C, .int .i64 y.Num.D, .int .i64 y.Exp], 5⟩, ⟨some ⟨b2, 0, none⟩, 44, [.int .i64 0, .int .i64 0, .int .i64 0, .int .i64 0, .int .i64 0], 5⟩] [] := hS4
  refine sq 8 rfl rfl (Y_move (v := .tuple #[.agg #[.int .i64 r_2.A, .int .i64 r_2.B, .int .i64 r_2.C, .int .i64 r_2.D], .bool r_3]) rfl rfl) ?_
  refine sq 14 rfl rfl (Y_extract (v := .agg #[.int .i64 r_2.A, .int .i64 r_2.B, .int .i64 r_2.C, .int .i64 r_2.D]) rfl rfl rfl) ?_
  refine sq 15 rfl rfl (Y_extract (v := .bool r_3) rfl rfl rfl) ?_
  refine ss 6 rfl rfl (Ys_alloc (T := 42) (cs := [.int .i64 0, .int .i64 0, .int .i64 0, .int .i64 0]) (m := 4) hS4 k_zero_42 rfl rfl rfl) ?_
  rintro _ w_4 ⟨b3, rfl, hS5⟩
  have hS5 : ST w0 [] _ [⟨some ⟨b, 0, none⟩, 44, [.int .i64 x.Num.A, .int .i64 x.Num.B, .int .i64 x.Num.C, .int .i64 x.Num.D, .int .i64 x.Exp], 5⟩, ⟨some ⟨b1, 0, none⟩, 44, [.int .i64 y.Num.A, .int .i64 y.Num.B, .int .i64 y.Num.C, .int .i64 y.Num.D, .int .i64 y.Exp], 5⟩, ⟨some ⟨b2, 0, none⟩, 44, [.int .i64 0, .int .i64 0, .int .i64 0, .int .i64 0, .int .i64 0], 5⟩, ⟨some ⟨b3, 0, none⟩, 42, [.int .i64 0, .int .i64 0, .int .i64 0, .int .i64 0], 4⟩] [] := hS5
  refine ss0 rfl rfl (Ys_store (i := 3) (s := 4) (B := some ⟨b3, 0, none⟩) (T' := 42) (v := .agg #[.int .i64 r_2.A, .int .i64 r_2.B, .int .i64 r_2.C, .int .i64 r_2.D]) (vs := [.int .i64 r_2.A, .int .i64 r_2.B, .int .i64 r_2.C, .int .i64 r_2.D]) (k := 0) (cs' := [.int .i64 r_2.A, .int .i64 r_2.B, .int .i64 r_2.C, .int .i64 r_2.D]) hS5 k_sz_42_4 rfl rfl rfl rfl rfl rfl rfl (Nat.le_of_ble_eq_true rfl) rfl rfl) ?_
  rintro _ w_5 ⟨rfl, hS6⟩
  have hS6 : ST w0 [] _ [⟨some ⟨b, 0, none⟩, 44, [.int .i64 x.Num.A, .int .i64 x.Num.B, .int .i64 x.Num.C, .int .i64 x.Num.D, .int .i64 x.Exp], 5⟩, ⟨some ⟨b1, 0, none⟩, 44, [.int .i64 y.Num.A, .int .i64 y.Num.B, .int .i64 y.Num.C, .int .i64 y.Num.D, .int .i64 y.Exp], 5⟩, ⟨some ⟨b2, 0, none⟩, 44, [.int .i64 0, .int .i64 0, .int .i64 0, .int .i64 0, .int .i64 0], 5⟩, ⟨some ⟨b3, 0, none⟩, 42, [.int .i64 r_2.A, .int .i64 r_2.B, .int .i64 r_2.C, .int .i64 r_2.D], 4⟩] [] := hS6
  refine sq 7 rfl rfl (Y_assign (v := .bool r_3) rfl rfl) ?_
  refine rw_nil ?_
  refine cw_seq ?_
  refine cw_seq ?_
  refine cw_region ?_
  refine sq 16 rfl rfl (Y_loadA (B := some ⟨b, 0, none⟩) (i := 0) (cs := [.int .i64 x.Num.A, .int .i64 x.Num.B, .int .i64 x.Num.C, .int .i64 x.Num.D, .int .i64 x.Exp]) (vs := [.int .i64 x.Num.A, .int .i64 x.Num.B, .int .i64 x.Num.C, .int .i64 x.Num.D, .int .i64 x.Exp]) k_ag_44 k_sz_44_5 rfl rfl (hS6.cf (i := 0) rfl) rfl rfl) ?_
  obtain ⟨r_4, hc1, hF⟩ := bind_inv hF
  refine sc 17 rfl rfl (Yc_func (g := 102) (vs := [.agg #[.int .i64 x.Num.A, .int .i64 x.Num.B, .int .i64 x.Num.C, .int .i64 x.Num.D, .int .i64 x.Exp]]) k_call_102 rfl (mc rfl mn) (c_impl_IsValidDyadic x _  (hS6.inn0 [] rfl) hc1)) ?_
  rintro _ w_6 ⟨rfl, hd1⟩
  have hS7 := hS6.out00 hd1
  have hS7 : ST w0 [] _ [⟨some ⟨b, 0, none⟩, 44, [.int .i64 x.Num.A, .int .i64 x.Num.B, .int .i64 x.Num.C, .int .i64 x.Num.D, .int .i64 x.Exp], 5⟩, ⟨some ⟨b1, 0, none⟩, 44, [.int .i64 y.Num.A, .int .i64 y.Num.B, .int .i64 y.Num.C, .int .i64 y.Num.D, .int .i64 y.Exp], 5⟩, ⟨some ⟨b2, 0, none⟩, 44, [.int .i64 0, .int .i64 0, .int .i64 0, .int .i64 0, .int .i64 0], 5⟩, ⟨some ⟨b3, 0, none⟩, 42, [.int .i64 r_2.A, .int .i64 r_2.B, .int .i64 r_2.C, .int .i64 r_2.D], 4⟩] [] := hS7
  refine sq 18 rfl rfl (Y_not (p := r_4) rfl rfl) ?_
  refine sq 19 rfl rfl (Y_move (v := .bool (!r_4)) rfl rfl) ?_
  refine sgq 20 (B := (!(!r_4))) (v := .agg #[.int .i64 y.Num.A, .int .i64 y.Num.B, .int .i64 y.Num.C, .int .i64 y.Num.D, .int .i64 y.Exp]) rfl rfl (wt_f (gd_of (t := 19) (by kernel_rfl) rfl)) (fun hg => (Y_loadA (B := some ⟨b1, 0, none⟩) (i := 0) (cs := [.int .i64 y.Num.A, .int .i64 y.Num.B, .int .i64 y.Num.C, .int .i64 y.Num.D, .int .i64 y.Exp]) (vs := [.int .i64 y.Num.A, .int .i64 y.Num.B, .int .i64 y.Num.C, .int .i64 y.Num.D, .int .i64 y.Exp]) k_ag_44 k_sz_44_5 rfl rfl (hS7.cf (i := 1) rfl) rfl rfl)) ?_
  obtain ⟨r_5, hc2, hF⟩ := bind_inv hF
  refine sgc 21 (B := (!(!r_4))) (v := .bool r_5) (F := hS7.fn) rfl rfl (wt_f (gd_of (t := 19) (by kernel_rfl) rfl)) hS7 (fun hg1 => (Yc_func (g := 102) (vs := [.agg #[.int .i64 y.Num.A, .int .i64 y.Num.B, .int .i64 y.Num.C, .int .i64 y.Num.D, .int .i64 y.Exp]]) k_call_102 rfl (mc (gv_of (B := (!(!r_4))) (v := .agg #[.int .i64 y.Num.A, .int .i64 y.Num.B, .int .i64 y.Num.C, .int .i64 y.Num.D, .int .i64 y.Exp]) hg1) mn) (CV.mono (c_impl_IsValidDyadic y _  (hS7.inn0 [] rfl) (gb_inv hc2 hg1)) (by rintro _ _ ⟨rfl, h⟩; exact ⟨rfl, hS7.out00 h⟩)))) ?_
  rintro w_7 hS8
  have hS8 : ST _ _ w_7 _ _ := hS8
  refine sgq 22 (B := (!(!r_4))) (v := .bool (!r_5)) rfl rfl (wt_f (gd_of (t := 19) (by kernel_rfl) rfl)) (fun hg2 => (Y_not (p := r_5) rfl (gv_of (B := (!(!r_4))) (v := .bool r_5) hg2))) ?_
  refine sq 23 rfl rfl (Y_or (b := (!r_4)) (z := (!r_5)) rfl rfl rfl rfl) ?_
  refine sq 24 rfl rfl (Y_move (v := .bool ((!r_4) || (!r_5))) rfl rfl) ?_
  refine sgq 25 (B := (!((!r_4) || (!r_5)))) (v := .bool r_3) rfl rfl (wt_f (gd_of (t := 24) (by kernel_rfl) rfl)) (fun hg3 => (Y_move (v := .bool r_3) rfl rfl)) ?_
  refine sgq 26 (B := (!((!r_4) || (!r_5)))) (v := .bool (!r_3)) rfl rfl (wt_f (gd_of (t := 24) (by kernel_rfl) rfl)) (fun hg4 => (Y_not (p := r_3) rfl (gv_of (B := (!((!r_4) || (!r_5)))) (v := .bool r_3) hg4))) ?_
  refine sq 27 rfl rfl (Y_or (b := ((!r_4) || (!r_5))) (z := (!r_3)) rfl rfl rfl rfl) ?_
  refine rw_nil ?_
  refine cw_cond (b := (((!r_4) || (!r_5)) || (!r_3))) rfl (fun hb => ?_) (fun hb => ?_)
  · skip
    have hF1 := ct hF hb
    refine cw_seq ?_
    refine cw_region ?_
    refine sq 28 rfl rfl (Y_buildS (zs := [.int .i64 0, .int .i64 0, .int .i64 0, .int .i64 0, .int .i64 0]) (vs := []) (cs := [.int .i64 0, .int .i64 0, .int .i64 0, .int .i64 0, .int .i64 0]) k_pl_44 k_zero_44 rfl mpn rfl) ?_
    refine ss0 rfl rfl (Ys_store (i := 2) (s := 5) (B := some ⟨b2, 0, none⟩) (T' := 44) (v := .agg #[.int .i64 0, .int .i64 0, .int .i64 0, .int .i64 0, .int .i64 0]) (vs := [.int .i64 0, .int .i64 0, .int .i64 0, .int .i64 0, .int .i64 0]) (k := 0) (cs' := [.int .i64 0, .int .i64 0, .int .i64 0, .int .i64 0, .int .i64 0]) hS8 k_sz_44_5 rfl rfl rfl rfl rfl rfl rfl (Nat.le_of_ble_eq_true rfl) rfl rfl) ?_
    rintro _ w_8 ⟨rfl, hS9⟩
    have hS9 : ST w0 [] _ [⟨some ⟨b, 0, none⟩, 44, [.int .i64 x.Num.A, .int .i64 x.Num.B, .int .i64 x.Num.C, .int .i64 x.Num.D, .int .i64 x.Exp], 5⟩, ⟨some ⟨b1, 0, none⟩, 44, [.int .i64 y.Num.A, .int .i64 y.Num.B, .int .i64 y.Num.C, .int .i64 y.Num.D, .int .i64 y.Exp], 5⟩, ⟨some ⟨b2, 0, none⟩, 44, [.int .i64 0, .int .i64 0, .int .i64 0, .int .i64 0, .int .i64 0], 5⟩, ⟨some ⟨b3, 0, none⟩, 42, [.int .i64 r_2.A, .int .i64 r_2.B, .int .i64 r_2.C, .int .i64 r_2.D], 4⟩] [] := hS9
    refine sq 5 rfl rfl (Y_assign (v := .bool false) rfl rfl) ?_
    refine rw_nil ?_
    refine cw_ret ?_
    obtain ⟨rfl, rfl⟩ := pr2 (some_inj hF1)
    exact ret2 Try.results46 (v1 := .agg #[.int .i64 0, .int .i64 0, .int .i64 0, .int .i64 0, .int .i64 0]) (resAt_cellA (B := some ⟨b2, 0, none⟩) (i := 0) (cs := [.int .i64 0, .int .i64 0, .int .i64 0, .int .i64 0, .int .i64 0]) (vs := [.int .i64 0, .int .i64 0, .int .i64 0, .int .i64 0, .int .i64 0]) rfl k_ag_44 k_sz_44_5 (hS9.cf (i := 2) rfl) rfl rfl) (v2 := .bool false) (resAt_tmp rfl) ⟨rfl, (ST.subR (R' := []) (hS9.sel [] rfl rfl) (fun _ h => by cases h))⟩
  · skip
    have hF2 := cf' hF hb
    refine cw_skip ?_
    refine cw_seq ?_
    refine cw_region ?_
    refine sq 29 rfl rfl (Y_loadA (B := some ⟨b3, 0, none⟩) (i := 0) (cs := [.int .i64 r_2.A, .int .i64 r_2.B, .int .i64 r_2.C, .int .i64 r_2.D]) (vs := [.int .i64 r_2.A, .int .i64 r_2.B, .int .i64 r_2.C, .int .i64 r_2.D]) k_ag_42 k_sz_42_4 rfl rfl (hS8.cf (i := 3) rfl) rfl rfl) ?_
    refine sq 30 rfl rfl (Y_fieldAddr (B := some ⟨b, 0, none⟩) (i := 0) (s := 0) k_fd_44_1_4_3 k_sz_3_1 rfl rfl) ?_
    refine sq 31 rfl rfl (Y_load1 (B := some ⟨b, 0, none⟩) (i := 4) (cs := [.int .i64 x.Num.A, .int .i64 x.Num.B, .int .i64 x.Num.C, .int .i64 x.Num.D, .int .i64 x.Exp]) (v := .int .i64 x.Exp) k_sc_3 rfl rfl (hS8.cf (i := 0) rfl) rfl) ?_
    refine sq 32 rfl rfl (Y_fieldAddr (B := some ⟨b1, 0, none⟩) (i := 0) (s := 0) k_fd_44_1_4_3 k_sz_3_1 rfl rfl) ?_
    refine sq 33 rfl rfl (Y_load1 (B := some ⟨b1, 0, none⟩) (i := 4) (cs := [.int .i64 y.Num.A, .int .i64 y.Num.B, .int .i64 y.Num.C, .int .i64 y.Num.D, .int .i64 y.Exp]) (v := .int .i64 y.Exp) k_sc_3 rfl rfl (hS8.cf (i := 1) rfl) rfl) ?_
    refine sq 34 rfl rfl (Y_add (k := .i64) (a := x.Exp) (b := y.Exp) rfl rfl rfl) ?_
    obtain ⟨⟨r_6, r_7⟩, hc3, hF2⟩ := bind_inv hF2
    refine sc 35 rfl rfl (Yc_func (g := 103) (vs := [.agg #[.int .i64 r_2.A, .int .i64 r_2.B, .int .i64 r_2.C, .int .i64 r_2.D], .int .i64 (IntKind.i64.wrap (x.Exp + y.Exp))]) k_call_103 rfl (mc rfl (mc rfl mn)) (c_impl_DyadicOf r_2 (IntKind.i64.wrap (x.Exp + y.Exp)) _  (hS8.inn0 [] rfl) hc3)) ?_
    rintro _ w_9 ⟨rfl, hd2⟩
    have hS10 := hS8.out00 hd2
    have hS10 : ST w0 [] _ [⟨some ⟨b, 0, none⟩, 44, [.int .i64 x.Num.A, .int .i64 x.Num.B, .int .i64 x.Num.C, .int .i64 x.Num.D, .int .i64 x.Exp], 5⟩, ⟨some ⟨b1, 0, none⟩, 44, [.int .i64 y.Num.A, .int .i64 y.Num.B, .int .i64 y.Num.C, .int .i64 y.Num.D, .int .i64 y.Exp], 5⟩, ⟨some ⟨b2, 0, none⟩, 44, [.int .i64 0, .int .i64 0, .int .i64 0, .int .i64 0, .int .i64 0], 5⟩, ⟨some ⟨b3, 0, none⟩, 42, [.int .i64 r_2.A, .int .i64 r_2.B, .int .i64 r_2.C, .int .i64 r_2.D], 4⟩] [] := hS10
    refine sq 36 rfl rfl (Y_extract (v := .agg #[.int .i64 r_6.Num.A, .int .i64 r_6.Num.B, .int .i64 r_6.Num.C, .int .i64 r_6.Num.D, .int .i64 r_6.Exp]) rfl rfl rfl) ?_
    refine sq 37 rfl rfl (Y_extract (v := .bool r_7) rfl rfl rfl) ?_
    refine ss0 rfl rfl (Ys_store (i := 2) (s := 5) (B := some ⟨b2, 0, none⟩) (T' := 44) (v := .agg #[.int .i64 r_6.Num.A, .int .i64 r_6.Num.B, .int .i64 r_6.Num.C, .int .i64 r_6.Num.D, .int .i64 r_6.Exp]) (vs := [.int .i64 r_6.Num.A, .int .i64 r_6.Num.B, .int .i64 r_6.Num.C, .int .i64 r_6.Num.D, .int .i64 r_6.Exp]) (k := 0) (cs' := [.int .i64 r_6.Num.A, .int .i64 r_6.Num.B, .int .i64 r_6.Num.C, .int .i64 r_6.Num.D, .int .i64 r_6.Exp]) hS10 k_sz_44_5 rfl rfl rfl rfl rfl rfl rfl (Nat.le_of_ble_eq_true rfl) rfl rfl) ?_
    rintro _ w_10 ⟨rfl, hS11⟩
    have hS11 : ST w0 [] _ [⟨some ⟨b, 0, none⟩, 44, [.int .i64 x.Num.A, .int .i64 x.Num.B, .int .i64 x.Num.C, .int .i64 x.Num.D, .int .i64 x.Exp], 5⟩, ⟨some ⟨b1, 0, none⟩, 44, [.int .i64 y.Num.A, .int .i64 y.Num.B, .int .i64 y.Num.C, .int .i64 y.Num.D, .int .i64 y.Exp], 5⟩, ⟨some ⟨b2, 0, none⟩, 44, [.int .i64 r_6.Num.A, .int .i64 r_6.Num.B, .int .i64 r_6.Num.C, .int .i64 r_6.Num.D, .int .i64 r_6.Exp], 5⟩, ⟨some ⟨b3, 0, none⟩, 42, [.int .i64 r_2.A, .int .i64 r_2.B, .int .i64 r_2.C, .int .i64 r_2.D], 4⟩] [] := hS11
    refine sq 5 rfl rfl (Y_assign (v := .bool r_7) rfl rfl) ?_
    refine rw_nil ?_
    refine cw_ret ?_
    obtain ⟨rfl, rfl⟩ := pr2 (some_inj hF2)
    exact ret2 Try.results46 (v1 := .agg #[.int .i64 r_6.Num.A, .int .i64 r_6.Num.B, .int .i64 r_6.Num.C, .int .i64 r_6.Num.D, .int .i64 r_6.Exp]) (resAt_cellA (B := some ⟨b2, 0, none⟩) (i := 0) (cs := [.int .i64 r_6.Num.A, .int .i64 r_6.Num.B, .int .i64 r_6.Num.C, .int .i64 r_6.Num.D, .int .i64 r_6.Exp]) (vs := [.int .i64 r_6.Num.A, .int .i64 r_6.Num.B, .int .i64 r_6.Num.C, .int .i64 r_6.Num.D, .int .i64 r_6.Exp]) rfl k_ag_44 k_sz_44_5 (hS11.cf (i := 2) rfl) rfl rfl) (v2 := .bool r_7) (resAt_tmp rfl) ⟨rfl, (ST.subR (R' := []) (hS11.sel [] rfl rfl) (fun _ h => by cases h))⟩

theorem c_impl_whole (n : Int)  (w0 : World)  (hS : ST w0 [] w0 [] []) {r_ : TDyadic} (hF : F_impl_whole n = some r_) :
    CV Try.prog 67 #[.int .i64 n] w0 (fun v w' => v = .agg #[.int .i64 r_.Num.A, .int .i64 r_.Num.B, .int .i64 r_.Num.C, .int .i64 r_.Num.D, .int .i64 r_.Exp] ∧ ST w0 [] w' [] []) := by
  unfold F_impl_whole at hF
  refine cv_of_cw 6 Try.func67 rfl Try.ntmps67 rfl ?_
  refine cw_seq ?_
  refine cw_region ?_
  refine ss 2 rfl rfl (Ys_alloc (T := 44) (cs := [.int .i64 0, .int .i64 0, .int .i64 0, .int .i64 0, .int .i64 0]) (m := 5) hS k_zero_44 rfl rfl rfl) ?_
  rintro _ w_ ⟨b, rfl, hS1⟩
  refine rw_nil ?_
  refine cw_seq ?_
  refine cw_region ?_
  refine sq 3 rfl rfl (Y_move (v := .int .i64 n) rfl rfl) ?_
  refine sq 4 rfl rfl (Y_buildS (zs := [.int .i64 0, .int .i64 0, .int .i64 0, .int .i64 0]) (vs := [(0, .int .i64 n)]) (cs := [.int .i64 n, .int .i64 0, .int .i64 0, .int .i64 0]) k_pl_42 k_zero_42 rfl (mpc rfl mpn) rfl) ?_
  refine sq 5 rfl rfl (Y_buildS (zs := [.int .i64 0, .int .i64 0, .int .i64 0, .int .i64 0, .int .i64 0]) (vs := [(0, .agg #[.int .i64 n, .int .i64 0, .int .i64 0, .int .i64 0])]) (cs := [.int .i64 n, .int .i64 0, .int .i64 0, .int .i64 0, .int .i64 0]) k_pl_44 k_zero_44 rfl (mpc rfl mpn) rfl) ?_
  refine ss0 rfl rfl (Ys_store (i := 0) (s := 5) (B := some ⟨b, 0, none⟩) (T' := 44) (v := .agg #[.int .i64 n, .int .i64 0, .int .i64 0, .int .i64 0, .int .i64 0]) (vs := [.int .i64 n, .int .i64 0, .int .i64 0, .int .i64 0, .int .i64 0]) (k := 0) (cs' := [.int .i64 n, .int .i64 0, .int .i64 0, .int .i64 0, .int .i64 0]) hS1 k_sz_44_5 rfl rfl rfl rfl rfl rfl rfl (Nat.le_of_ble_eq_true rfl) rfl rfl) ?_
  rintro _ w_1 ⟨rfl, hS2⟩
  refine rw_nil ?_
  refine cw_ret ?_
  obtain rfl := some_inj hF
  exact ret1 Try.results67 (v1 := .agg #[.int .i64 n, .int .i64 0, .int .i64 0, .int .i64 0, .int .i64 0]) (resAt_cellA (B := some ⟨b, 0, none⟩) (i := 0) (cs := [.int .i64 n, .int .i64 0, .int .i64 0, .int .i64 0, .int .i64 0]) (vs := [.int .i64 n, .int .i64 0, .int .i64 0, .int .i64 0, .int .i64 0]) rfl k_ag_44 k_sz_44_5 (hS2.cf (i := 0) rfl) rfl rfl) ⟨rfl, (ST.subR (R' := []) (hS2.sel [] rfl rfl) (fun _ h => by cases h))⟩

theorem c_impl_small (holds : Bool)  (w0 : World)  (hS : ST w0 [] w0 [] []) {r_ : Int} (hF : F_impl_small holds = some r_) :
    CV Try.prog 104 #[.bool holds] w0 (fun v w' => v = .int .i64 r_ ∧ ST w0 [] w' [] []) := by
  unfold F_impl_small at hF
  refine cv_of_cw 4 Try.func104 rfl Try.ntmps104 rfl ?_
  refine cw_seq ?_
  refine cw_region ?_
  refine sq 2 rfl rfl (Y_assign (v := .int .i64 0) rfl rfl) ?_
  refine rw_nil ?_
  refine cw_seq ?_
  refine cw_seq ?_
  refine cw_region ?_
  refine sq 3 rfl rfl (Y_move (v := .bool holds) rfl rfl) ?_
  refine rw_nil ?_
  refine cw_cond (b := holds) rfl (fun hb => ?_) (fun hb => ?_)
  · skip
    have hF1 := ct hF hb
    refine cw_seq ?_
    refine cw_region ?_
    refine sq 2 rfl rfl (Y_assign (v := .int .i64 1) rfl rfl) ?_
    refine rw_nil ?_
    refine cw_ret ?_
    obtain rfl := some_inj hF1
    exact ret1 Try.results104 (v1 := .int .i64 1) (resAt_tmp rfl) ⟨rfl, (ST.subR (R' := []) (hS.sel [] rfl rfl) (fun _ h => by cases h))⟩
  · skip
    have hF2 := cf' hF hb
    refine cw_skip ?_
    refine cw_seq ?_
    refine cw_region ?_
    refine sq 2 rfl rfl (Y_assign (v := .int .i64 0) rfl rfl) ?_
    refine rw_nil ?_
    refine cw_ret ?_
    obtain rfl := some_inj hF2
    exact ret1 Try.results104 (v1 := .int .i64 0) (resAt_tmp rfl) ⟨rfl, (ST.subR (R' := []) (hS.sel [] rfl rfl) (fun _ h => by cases h))⟩

theorem c_impl_entry (kind : Int) (i : Int) (j : Int)  (w0 : World)  (hS : ST w0 [] w0 [] []) {r_ : TDyadic} (hF : F_impl_entry kind i j = some r_) :
    CV Try.prog 105 #[.int .i64 kind, .int .i64 i, .int .i64 j] w0 (fun v w' => v = .agg #[.int .i64 r_.Num.A, .int .i64 r_.Num.B, .int .i64 r_.Num.C, .int .i64 r_.Num.D, .int .i64 r_.Exp] ∧ ST w0 [] w' [] []) := by
  unfold F_impl_entry at hF
  refine cv_of_cw 67 Try.func105 rfl Try.ntmps105 rfl ?_
  refine cw_seq ?_
  refine cw_region ?_
  refine ss 6 rfl rfl (Ys_alloc (T := 44) (cs := [.int .i64 0, .int .i64 0, .int .i64 0, .int .i64 0, .int .i64 0]) (m := 5) hS k_zero_44 rfl rfl rfl) ?_
  rintro _ w_ ⟨b, rfl, hS1⟩
  refine rw_nil ?_
  refine cw_seq ?_
  refine cw_region ?_
  refine sq 9 rfl rfl (Y_buildS (zs := [.int .i64 0, .int .i64 0, .int .i64 0, .int .i64 0]) (vs := [(0, .int .i64 1)]) (cs := [.int .i64 1, .int .i64 0, .int .i64 0, .int .i64 0]) k_pl_42 k_zero_42 rfl (mpc rfl mpn) rfl) ?_
  refine sq 10 rfl rfl (Y_buildS (zs := [.int .i64 0, .int .i64 0, .int .i64 0, .int .i64 0, .int .i64 0]) (vs := [(0, .agg #[.int .i64 1, .int .i64 0, .int .i64 0, .int .i64 0]), (1, .int .i64 1)]) (cs := [.int .i64 1, .int .i64 0, .int .i64 0, .int .i64 0, .int .i64 1]) k_pl_44 k_zero_44 rfl (mpc rfl (mpc rfl mpn)) rfl) ?_
  refine ss 7 rfl rfl (Ys_alloc (T := 44) (cs := [.int .i64 0, .int .i64 0, .int .i64 0, .int .i64 0, .int .i64 0]) (m := 5) hS1 k_zero_44 rfl rfl rfl) ?_
  rintro _ w_1 ⟨b1, rfl, hS2⟩
  have hS2 : ST w0 [] _ [⟨some ⟨b, 0, none⟩, 44, [.int .i64 0, .int .i64 0, .int .i64 0, .int .i64 0, .int .i64 0], 5⟩, ⟨some ⟨b1, 0, none⟩, 44, [.int .i64 0, .int .i64 0, .int .i64 0, .int .i64 0, .int .i64 0], 5⟩] [] := hS2
  refine ss0 rfl rfl (Ys_store (i := 1) (s := 5) (B := some ⟨b1, 0, none⟩) (T' := 44) (v := .agg #[.int .i64 1, .int .i64 0, .int .i64 0, .int .i64 0, .int .i64 1]) (vs := [.int .i64 1, .int .i64 0, .int .i64 0, .int .i64 0, .int .i64 1]) (k := 0) (cs' := [.int .i64 1, .int .i64 0, .int .i64 0, .int .i64 0, .int .i64 1]) hS2 k_sz_44_5 rfl rfl rfl rfl rfl rfl rfl (Nat.le_of_ble_eq_true rfl) rfl rfl) ?_
  rintro _ w_2 ⟨rfl, hS3⟩
  have hS3 : ST w0 [] _ [⟨some ⟨b, 0, none⟩, 44, [.int .i64 0, .int .i64 0, .int .i64 0, .int .i64 0, .int .i64 0], 5⟩, ⟨some ⟨b1, 0, none⟩, 44, [.int .i64 1, .int .i64 0, .int .i64 0, .int .i64 0, .int .i64 1], 5⟩] [] := hS3
  refine rw_nil ?_
  refine cw_seq ?_
  refine cw_region ?_
  refine ss 11 rfl rfl (Ys_makeMap (T := 152) hS3 rfl) ?_
  rintro _ w_3 ⟨g, rfl, hS4⟩
  have hS5 := hS4.st
  have hS5 : ST w0 [] _ [⟨some ⟨b, 0, none⟩, 44, [.int .i64 0, .int .i64 0, .int .i64 0, .int .i64 0, .int .i64 0], 5⟩, ⟨some ⟨b1, 0, none⟩, 44, [.int .i64 1, .int .i64 0, .int .i64 0, .int .i64 0, .int .i64 1], 5⟩] [] := hS5
  refine ss0 rfl rfl (Ys_insert (kd := .i64) (ed := .i64) (a := 4) (b := 4) (es := #[]) hS4 k_map_152_3_3 k_int_3_i64 rfl rfl rfl rfl rfl) ?_
  rintro _ w_4 ⟨rfl, hS6⟩
  have hS7 := hS6.st
  have hS7 : ST w0 [] _ [⟨some ⟨b, 0, none⟩, 44, [.int .i64 0, .int .i64 0, .int .i64 0, .int .i64 0, .int .i64 0], 5⟩, ⟨some ⟨b1, 0, none⟩, 44, [.int .i64 1, .int .i64 0, .int .i64 0, .int .i64 0, .int .i64 1], 5⟩] [] := hS7
  refine ss0 rfl rfl (Ys_insert (kd := .i64) (ed := .i64) (a := 5) (b := 2) (es := (#[].push ⟨.int .i64 4, .int .i64 4, 0⟩)) hS6 k_map_152_3_3 k_int_3_i64 rfl rfl rfl rfl rfl) ?_
  rintro _ w_5 ⟨rfl, hS8⟩
  have hS9 := hS8.st
  have hS9 : ST w0 [] _ [⟨some ⟨b, 0, none⟩, 44, [.int .i64 0, .int .i64 0, .int .i64 0, .int .i64 0, .int .i64 0], 5⟩, ⟨some ⟨b1, 0, none⟩, 44, [.int .i64 1, .int .i64 0, .int .i64 0, .int .i64 0, .int .i64 1], 5⟩] [] := hS9
  refine ss0 rfl rfl (Ys_insert (kd := .i64) (ed := .i64) (a := 6) (b := 6) (es := ((#[].push ⟨.int .i64 4, .int .i64 4, 0⟩).push ⟨.int .i64 5, .int .i64 2, 1⟩)) hS8 k_map_152_3_3 k_int_3_i64 rfl rfl rfl rfl rfl) ?_
  rintro _ w_6 ⟨rfl, hS10⟩
  have hS11 := hS10.st
  have hS11 : ST w0 [] _ [⟨some ⟨b, 0, none⟩, 44, [.int .i64 0, .int .i64 0, .int .i64 0, .int .i64 0, .int .i64 0], 5⟩, ⟨some ⟨b1, 0, none⟩, 44, [.int .i64 1, .int .i64 0, .int .i64 0, .int .i64 0, .int .i64 1], 5⟩] [] := hS11
  refine ss0 rfl rfl (Ys_insert (kd := .i64) (ed := .i64) (a := 7) (b := 1) (es := (((#[].push ⟨.int .i64 4, .int .i64 4, 0⟩).push ⟨.int .i64 5, .int .i64 2, 1⟩).push ⟨.int .i64 6, .int .i64 6, 2⟩)) hS10 k_map_152_3_3 k_int_3_i64 rfl rfl rfl rfl rfl) ?_
  rintro _ w_7 ⟨rfl, hS12⟩
  have hS13 := hS12.st
  have hS13 : ST w0 [] _ [⟨some ⟨b, 0, none⟩, 44, [.int .i64 0, .int .i64 0, .int .i64 0, .int .i64 0, .int .i64 0], 5⟩, ⟨some ⟨b1, 0, none⟩, 44, [.int .i64 1, .int .i64 0, .int .i64 0, .int .i64 0, .int .i64 1], 5⟩] [] := hS13
  refine ss0 rfl rfl (Ys_insert (kd := .i64) (ed := .i64) (a := 8) (b := 7) (es := ((((#[].push ⟨.int .i64 4, .int .i64 4, 0⟩).push ⟨.int .i64 5, .int .i64 2, 1⟩).push ⟨.int .i64 6, .int .i64 6, 2⟩).push ⟨.int .i64 7, .int .i64 1, 3⟩)) hS12 k_map_152_3_3 k_int_3_i64 rfl rfl rfl rfl rfl) ?_
  rintro _ w_8 ⟨rfl, hS14⟩
  have hS15 := hS14.st
  have hS15 : ST w0 [] _ [⟨some ⟨b, 0, none⟩, 44, [.int .i64 0, .int .i64 0, .int .i64 0, .int .i64 0, .int .i64 0], 5⟩, ⟨some ⟨b1, 0, none⟩, 44, [.int .i64 1, .int .i64 0, .int .i64 0, .int .i64 0, .int .i64 1], 5⟩] [] := hS15
  refine sq 12 rfl rfl (Y_move (v := .map (some g)) rfl rfl) ?_
  refine sq 8 rfl rfl (Y_assign (v := .map (some g)) rfl rfl) ?_
  refine rw_nil ?_
  refine cw_seq ?_
  refine cw_block ?_
  refine cw_seq ?_
  refine cw_region ?_
  refine sq 14 rfl rfl (Y_move (v := .int .i64 kind) rfl rfl) ?_
  refine sq 15 rfl rfl (Y_eq (k := .i64) (a := kind) (b := 1) rfl rfl rfl) ?_
  refine sq 13 rfl rfl (Y_assign (v := .bool (kind == 1)) rfl rfl) ?_
  refine rw_nil ?_
  refine cw_cond (b := (kind == 1)) rfl (fun hb => ?_) (fun hb => ?_)
  · skip
    have hF1 := ct hF hb
    refine cw_seq ?_
    obtain ⟨z, hz, hF2⟩ := bind_inv hF1
    refine cw_mid (fun f w => ∃ (A : Int), A = z ∧ FF f [(6, pt (some ⟨b, 0, none⟩) 0), (7, pt (some ⟨b1, 0, none⟩) 0)] ∧ ST w0 [] w [⟨some ⟨b, 0, none⟩, 44, [.int .i64 0, .int .i64 0, .int .i64 0, .int .i64 0, .int .i64 0], 5⟩, ⟨some ⟨b1, 0, none⟩, 44, [.int .i64 A, .int .i64 0, .int .i64 0, .int .i64 0, .int .i64 1], 5⟩] []) ?_ ?_
    · skip
      refine cw_seq ?_
      refine cw_region ?_
      refine sq 16 rfl rfl (Y_move (v := .int .i64 i) rfl rfl) ?_
      refine sq 17 rfl rfl (Y_eq (k := .i64) (a := i) (b := 1) rfl rfl rfl) ?_
      refine sq 18 rfl rfl (Y_move (v := .bool (i == 1)) rfl rfl) ?_
      refine sgq 19 (B := (i == 1)) (v := .int .i64 j) rfl rfl (wt_t (gd_of (t := 18) (by kernel_rfl) rfl)) (fun hg => (Y_move (v := .int .i64 j) rfl rfl)) ?_
      refine sgq 20 (B := (i == 1)) (v := .bool (j == 1)) rfl rfl (wt_t (gd_of (t := 18) (by kernel_rfl) rfl)) (fun hg1 => (Y_eq (k := .i64) (a := j) (b := 1) rfl (gv_of (B := (i == 1)) (v := .int .i64 j) hg1) rfl)) ?_
      refine sq 21 rfl rfl (Y_and (b := (i == 1)) (z := (j == 1)) rfl rfl rfl rfl) ?_
      refine rw_nil ?_
      refine cw_cond (b := ((i == 1) && (j == 1))) rfl (fun hb1 => ?_) (fun hb1 => ?_)
      · skip
        have hF3 := ct hz hb1
        refine cw_region ?_
        refine sq 22 rfl rfl (Y_fieldAddr (B := some ⟨b1, 0, none⟩) (i := 0) (s := 3) k_fd_44_0_0_42 k_sz_42_4 rfl rfl) ?_
        refine sq 23 rfl rfl (Y_fieldAddr (B := some ⟨b1, 0, none⟩) (i := 0) (s := 0) k_fd_42_0_0_3 k_sz_3_1 rfl rfl) ?_
        refine ss0 rfl rfl (Ys_store (i := 1) (s := 1) (B := some ⟨b1, 0, none⟩) (T' := 44) (v := .int .i64 (-1)) (vs := [.int .i64 (-1)]) (k := 0) (cs' := [.int .i64 (-1), .int .i64 0, .int .i64 0, .int .i64 0, .int .i64 1]) hS15 k_sz_3_1 rfl rfl rfl rfl rfl rfl rfl (Nat.le_of_ble_eq_true rfl) rfl rfl) ?_
        rintro _ w_9 ⟨rfl, hS17⟩
        have hS17 : ST w0 [] _ [⟨some ⟨b, 0, none⟩, 44, [.int .i64 0, .int .i64 0, .int .i64 0, .int .i64 0, .int .i64 0], 5⟩, ⟨some ⟨b1, 0, none⟩, 44, [.int .i64 (-1), .int .i64 0, .int .i64 0, .int .i64 0, .int .i64 1], 5⟩] [] := hS17
        refine rw_nil ?_
        exact ⟨(-1), (some_inj hF3), (FF.cons rfl (FF.cons rfl FF.nil)), (hS17.sel [0, 1] rfl rfl)⟩
      · skip
        have hF4 := cf' hz hb1
        refine cw_skip ?_
        exact ⟨1, (some_inj hF4), (FF.cons rfl (FF.cons rfl FF.nil)), (hS15.sel [0, 1] rfl rfl)⟩
    rintro f w ⟨A, rfl, hf, hS16⟩
    refine cw_seq ?_
    refine cw_region ?_
    refine sq 24 rfl rfl (Y_loadA (B := some ⟨b1, 0, none⟩) (i := 0) (cs := [.int .i64 A, .int .i64 0, .int .i64 0, .int .i64 0, .int .i64 1]) (vs := [.int .i64 A, .int .i64 0, .int .i64 0, .int .i64 0, .int .i64 1]) k_ag_44 k_sz_44_5 rfl (hf.get 7 1 rfl) (hS16.cf (i := 1) rfl) rfl rfl) ?_
    refine ss0 rfl rfl (Ys_store (i := 0) (s := 5) (B := some ⟨b, 0, none⟩) (T' := 44) (v := .agg #[.int .i64 A, .int .i64 0, .int .i64 0, .int .i64 0, .int .i64 1]) (vs := [.int .i64 A, .int .i64 0, .int .i64 0, .int .i64 0, .int .i64 1]) (k := 0) (cs' := [.int .i64 A, .int .i64 0, .int .i64 0, .int .i64 0, .int .i64 1]) hS16 k_sz_44_5 rfl (hf.get 6 0 rfl) rfl rfl rfl rfl rfl (Nat.le_of_ble_eq_true rfl) rfl rfl) ?_
    rintro _ w_10 ⟨rfl, hS18⟩
    have hS18 : ST w0 [] _ [⟨some ⟨b, 0, none⟩, 44, [.int .i64 A, .int .i64 0, .int .i64 0, .int .i64 0, .int .i64 1], 5⟩, ⟨some ⟨b1, 0, none⟩, 44, [.int .i64 A, .int .i64 0, .int .i64 0, .int .i64 0, .int .i64 1], 5⟩] [] := hS18
    refine rw_nil ?_
    refine cw_ret ?_
    obtain rfl := some_inj hF2
    exact ret1 Try.results105 (v1 := .agg #[.int .i64 A, .int .i64 0, .int .i64 0, .int .i64 0, .int .i64 1]) (resAt_cellA (B := some ⟨b, 0, none⟩) (i := 0) (cs := [.int .i64 A, .int .i64 0, .int .i64 0, .int .i64 0, .int .i64 1]) (vs := [.int .i64 A, .int .i64 0, .int .i64 0, .int .i64 0, .int .i64 1]) (hf.get 6 0 rfl) k_ag_44 k_sz_44_5 (hS18.cf (i := 0) rfl) rfl rfl) ⟨rfl, (ST.subR (R' := []) (hS18.sel [] rfl rfl) (fun _ h => by cases h))⟩
  · skip
    have hF5 := cf' hF hb
    refine cw_seq ?_
    refine cw_region ?_
    refine sq 26 rfl rfl (Y_move (v := .int .i64 kind) rfl rfl) ?_
    refine sq 27 rfl rfl (Y_eq (k := .i64) (a := kind) (b := 2) rfl rfl rfl) ?_
    refine sq 28 rfl rfl (Y_move (v := .bool (kind == 2)) rfl rfl) ?_
    refine sgq 29 (B := (kind == 2)) (v := .int .i64 i) rfl rfl (wt_t (gd_of (t := 28) (by kernel_rfl) rfl)) (fun hg2 => (Y_move (v := .int .i64 i) rfl rfl)) ?_
    refine sgq 30 (B := (kind == 2)) (v := .int .i64 j) rfl rfl (wt_t (gd_of (t := 28) (by kernel_rfl) rfl)) (fun hg3 => (Y_move (v := .int .i64 j) rfl rfl)) ?_
    refine sgq 31 (B := (kind == 2)) (v := .bool (i != j)) rfl rfl (wt_t (gd_of (t := 28) (by kernel_rfl) rfl)) (fun hg4 => (Y_ne (k := .i64) (a := i) (b := j) rfl (gv_of (B := (kind == 2)) (v := .int .i64 i) hg4) (gv_of (B := (kind == 2)) (v := .int .i64 j) hg4))) ?_
    refine sq 32 rfl rfl (Y_and (b := (kind == 2)) (z := (i != j)) rfl rfl rfl rfl) ?_
    refine sq 25 rfl rfl (Y_assign (v := .bool ((kind == 2) && (i != j))) rfl rfl) ?_
    refine rw_nil ?_
    refine cw_cond (b := ((kind == 2) && (i != j))) rfl (fun hb2 => ?_) (fun hb2 => ?_)
    · skip
      have hF6 := ct hF5 hb2
      refine cw_seq ?_
      refine cw_region ?_
      obtain ⟨r_1, hc, hF6⟩ := bind_inv hF6
      refine sc 33 rfl rfl (Yc_func (g := 67) (vs := [.int .i64 1]) k_call_67 rfl (mc rfl mn) (c_impl_whole 1 _  (hS15.inn0 [] rfl) hc)) ?_
      rintro _ w_11 ⟨rfl, hd⟩
      have hS19 := hS15.out00 hd
      have hS19 : ST w0 [] _ [⟨some ⟨b, 0, none⟩, 44, [.int .i64 0, .int .i64 0, .int .i64 0, .int .i64 0, .int .i64 0], 5⟩, ⟨some ⟨b1, 0, none⟩, 44, [.int .i64 1, .int .i64 0, .int .i64 0, .int .i64 0, .int .i64 1], 5⟩] [] := hS19
      refine ss0 rfl rfl (Ys_store (i := 0) (s := 5) (B := some ⟨b, 0, none⟩) (T' := 44) (v := .agg #[.int .i64 r_1.Num.A, .int .i64 r_1.Num.B, .int .i64 r_1.Num.C, .int .i64 r_1.Num.D, .int .i64 r_1.Exp]) (vs := [.int .i64 r_1.Num.A, .int .i64 r_1.Num.B, .int .i64 r_1.Num.C, .int .i64 r_1.Num.D, .int .i64 r_1.Exp]) (k := 0) (cs' := [.int .i64 r_1.Num.A, .int .i64 r_1.Num.B, .int .i64 r_1.Num.C, .int .i64 r_1.Num.D, .int .i64 r_1.Exp]) hS19 k_sz_44_5 rfl rfl rfl rfl rfl rfl rfl (Nat.le_of_ble_eq_true rfl) rfl rfl) ?_
      rintro _ w_12 ⟨rfl, hS20⟩
      have hS20 : ST w0 [] _ [⟨some ⟨b, 0, none⟩, 44, [.int .i64 r_1.Num.A, .int .i64 r_1.Num.B, .int .i64 r_1.Num.C, .int .i64 r_1.Num.D, .int .i64 r_1.Exp], 5⟩, ⟨some ⟨b1, 0, none⟩, 44, [.int .i64 1, .int .i64 0, .int .i64 0, .int .i64 0, .int .i64 1], 5⟩] [] := hS20
      refine rw_nil ?_
      refine cw_ret ?_
      obtain rfl := some_inj hF6
      exact ret1 Try.results105 (v1 := .agg #[.int .i64 r_1.Num.A, .int .i64 r_1.Num.B, .int .i64 r_1.Num.C, .int .i64 r_1.Num.D, .int .i64 r_1.Exp]) (resAt_cellA (B := some ⟨b, 0, none⟩) (i := 0) (cs := [.int .i64 r_1.Num.A, .int .i64 r_1.Num.B, .int .i64 r_1.Num.C, .int .i64 r_1.Num.D, .int .i64 r_1.Exp]) (vs := [.int .i64 r_1.Num.A, .int .i64 r_1.Num.B, .int .i64 r_1.Num.C, .int .i64 r_1.Num.D, .int .i64 r_1.Exp]) rfl k_ag_44 k_sz_44_5 (hS20.cf (i := 0) rfl) rfl rfl) ⟨rfl, (ST.subR (R' := []) (hS20.sel [] rfl rfl) (fun _ h => by cases h))⟩
    · skip
      have hF7 := cf' hF5 hb2
      refine cw_seq ?_
      refine cw_region ?_
      refine sq 35 rfl rfl (Y_move (v := .int .i64 kind) rfl rfl) ?_
      refine sq 36 rfl rfl (Y_eq (k := .i64) (a := kind) (b := 3) rfl rfl rfl) ?_
      refine sq 37 rfl rfl (Y_move (v := .bool (kind == 3)) rfl rfl) ?_
      refine sgq 38 (B := (kind == 3)) (v := .int .i64 i) rfl rfl (wt_t (gd_of (t := 37) (by kernel_rfl) rfl)) (fun hg5 => (Y_move (v := .int .i64 i) rfl rfl)) ?_
      refine sgq 39 (B := (kind == 3)) (v := .int .i64 j) rfl rfl (wt_t (gd_of (t := 37) (by kernel_rfl) rfl)) (fun hg6 => (Y_move (v := .int .i64 j) rfl rfl)) ?_
      refine sgq 40 (B := (kind == 3)) (v := .bool (i != j)) rfl rfl (wt_t (gd_of (t := 37) (by kernel_rfl) rfl)) (fun hg7 => (Y_ne (k := .i64) (a := i) (b := j) rfl (gv_of (B := (kind == 3)) (v := .int .i64 i) hg7) (gv_of (B := (kind == 3)) (v := .int .i64 j) hg7))) ?_
      refine sq 41 rfl rfl (Y_and (b := (kind == 3)) (z := (i != j)) rfl rfl rfl rfl) ?_
      refine sq 34 rfl rfl (Y_assign (v := .bool ((kind == 3) && (i != j))) rfl rfl) ?_
      refine rw_nil ?_
      refine cw_cond (b := ((kind == 3) && (i != j))) rfl (fun hb3 => ?_) (fun hb3 => ?_)
      · skip
        have hF8 := ct hF7 hb3
        refine cw_seq ?_
        refine cw_region ?_
        refine sq 42 rfl rfl (Y_move (v := .int .i64 j) rfl rfl) ?_
        refine sq 43 rfl rfl (Y_mul (k := .i64) (a := 4) (b := j) rfl rfl rfl) ?_
        refine sq 44 rfl rfl (Y_add (k := .i64) (a := 2) (b := (IntKind.i64.wrap (4 * j))) rfl rfl rfl) ?_
        obtain ⟨r_2, hc1, hF8⟩ := bind_inv hF8
        refine sc 45 rfl rfl (Yc_func (g := 45) (vs := [.int .i64 (IntKind.i64.wrap (2 + (IntKind.i64.wrap (4 * j))))]) k_call_45 rfl (mc rfl mn) (c_impl_phase (IntKind.i64.wrap (2 + (IntKind.i64.wrap (4 * j)))) _  (hS15.inn0 [] rfl) hc1)) ?_
        rintro _ w_13 ⟨rfl, hd1⟩
        have hS21 := hS15.out00 hd1
        have hS21 : ST w0 [] _ [⟨some ⟨b, 0, none⟩, 44, [.int .i64 0, .int .i64 0, .int .i64 0, .int .i64 0, .int .i64 0], 5⟩, ⟨some ⟨b1, 0, none⟩, 44, [.int .i64 1, .int .i64 0, .int .i64 0, .int .i64 0, .int .i64 1], 5⟩] [] := hS21
        refine ss0 rfl rfl (Ys_store (i := 0) (s := 5) (B := some ⟨b, 0, none⟩) (T' := 44) (v := .agg #[.int .i64 r_2.Num.A, .int .i64 r_2.Num.B, .int .i64 r_2.Num.C, .int .i64 r_2.Num.D, .int .i64 r_2.Exp]) (vs := [.int .i64 r_2.Num.A, .int .i64 r_2.Num.B, .int .i64 r_2.Num.C, .int .i64 r_2.Num.D, .int .i64 r_2.Exp]) (k := 0) (cs' := [.int .i64 r_2.Num.A, .int .i64 r_2.Num.B, .int .i64 r_2.Num.C, .int .i64 r_2.Num.D, .int .i64 r_2.Exp]) hS21 k_sz_44_5 rfl rfl rfl rfl rfl rfl rfl (Nat.le_of_ble_eq_true rfl) rfl rfl) ?_
        rintro _ w_14 ⟨rfl, hS22⟩
        have hS22 : ST w0 [] _ [⟨some ⟨b, 0, none⟩, 44, [.int .i64 r_2.Num.A, .int .i64 r_2.Num.B, .int .i64 r_2.Num.C, .int .i64 r_2.Num.D, .int .i64 r_2.Exp], 5⟩, ⟨some ⟨b1, 0, none⟩, 44, [.int .i64 1, .int .i64 0, .int .i64 0, .int .i64 0, .int .i64 1], 5⟩] [] := hS22
        refine rw_nil ?_
        refine cw_ret ?_
        obtain rfl := some_inj hF8
        exact ret1 Try.results105 (v1 := .agg #[.int .i64 r_2.Num.A, .int .i64 r_2.Num.B, .int .i64 r_2.Num.C, .int .i64 r_2.Num.D, .int .i64 r_2.Exp]) (resAt_cellA (B := some ⟨b, 0, none⟩) (i := 0) (cs := [.int .i64 r_2.Num.A, .int .i64 r_2.Num.B, .int .i64 r_2.Num.C, .int .i64 r_2.Num.D, .int .i64 r_2.Exp]) (vs := [.int .i64 r_2.Num.A, .int .i64 r_2.Num.B, .int .i64 r_2.Num.C, .int .i64 r_2.Num.D, .int .i64 r_2.Exp]) rfl k_ag_44 k_sz_44_5 (hS22.cf (i := 0) rfl) rfl rfl) ⟨rfl, (ST.subR (R' := []) (hS22.sel [] rfl rfl) (fun _ h => by cases h))⟩
      · skip
        have hF9 := cf' hF7 hb3
        refine cw_seq ?_
        refine cw_region ?_
        refine sq 47 rfl rfl (Y_move (v := .int .i64 kind) rfl rfl) ?_
        refine sq 48 rfl rfl (Y_eq (k := .i64) (a := kind) (b := 2) rfl rfl rfl) ?_
        refine sq 49 rfl rfl (Y_move (v := .bool (kind == 2)) rfl rfl) ?_
        refine sgq 50 (B := (!(kind == 2))) (v := .int .i64 kind) rfl rfl (wt_f (gd_of (t := 49) (by kernel_rfl) rfl)) (fun hg8 => (Y_move (v := .int .i64 kind) rfl rfl)) ?_
        refine sgq 51 (B := (!(kind == 2))) (v := .bool (kind == 3)) rfl rfl (wt_f (gd_of (t := 49) (by kernel_rfl) rfl)) (fun hg9 => (Y_eq (k := .i64) (a := kind) (b := 3) rfl (gv_of (B := (!(kind == 2))) (v := .int .i64 kind) hg9) rfl)) ?_
        refine sq 52 rfl rfl (Y_or (b := (kind == 2)) (z := (kind == 3)) rfl rfl rfl rfl) ?_
        refine sq 53 rfl rfl (Y_move (v := .bool ((kind == 2) || (kind == 3))) rfl rfl) ?_
        refine sgq 54 (B := (!((kind == 2) || (kind == 3)))) (v := .int .i64 i) rfl rfl (wt_f (gd_of (t := 53) (by kernel_rfl) rfl)) (fun hg10 => (Y_move (v := .int .i64 i) rfl rfl)) ?_
        refine sgq 55 (B := (!((kind == 2) || (kind == 3)))) (v := .int .i64 j) rfl rfl (wt_f (gd_of (t := 53) (by kernel_rfl) rfl)) (fun hg11 => (Y_move (v := .int .i64 j) rfl rfl)) ?_
        refine sgq 56 (B := (!((kind == 2) || (kind == 3)))) (v := .bool (i != j)) rfl rfl (wt_f (gd_of (t := 53) (by kernel_rfl) rfl)) (fun hg12 => (Y_ne (k := .i64) (a := i) (b := j) rfl (gv_of (B := (!((kind == 2) || (kind == 3)))) (v := .int .i64 i) hg12) (gv_of (B := (!((kind == 2) || (kind == 3)))) (v := .int .i64 j) hg12))) ?_
        refine sq 57 rfl rfl (Y_or (b := ((kind == 2) || (kind == 3))) (z := (i != j)) rfl rfl rfl rfl) ?_
        refine sq 46 rfl rfl (Y_assign (v := .bool (((kind == 2) || (kind == 3)) || (i != j))) rfl rfl) ?_
        refine rw_nil ?_
        refine cw_cond (b := (((kind == 2) || (kind == 3)) || (i != j))) rfl (fun hb4 => ?_) (fun hb4 => ?_)
        · skip
          have hF10 := ct hF9 hb4
          refine cw_seq ?_
          refine cw_region ?_
          refine sq 58 rfl rfl (Y_buildS (zs := [.int .i64 0, .int .i64 0, .int .i64 0, .int .i64 0, .int .i64 0]) (vs := []) (cs := [.int .i64 0, .int .i64 0, .int .i64 0, .int .i64 0, .int .i64 0]) k_pl_44 k_zero_44 rfl mpn rfl) ?_
          refine ss0 rfl rfl (Ys_store (i := 0) (s := 5) (B := some ⟨b, 0, none⟩) (T' := 44) (v := .agg #[.int .i64 0, .int .i64 0, .int .i64 0, .int .i64 0, .int .i64 0]) (vs := [.int .i64 0, .int .i64 0, .int .i64 0, .int .i64 0, .int .i64 0]) (k := 0) (cs' := [.int .i64 0, .int .i64 0, .int .i64 0, .int .i64 0, .int .i64 0]) hS15 k_sz_44_5 rfl rfl rfl rfl rfl rfl rfl (Nat.le_of_ble_eq_true rfl) rfl rfl) ?_
          rintro _ w_15 ⟨rfl, hS23⟩
          have hS23 : ST w0 [] _ [⟨some ⟨b, 0, none⟩, 44, [.int .i64 0, .int .i64 0, .int .i64 0, .int .i64 0, .int .i64 0], 5⟩, ⟨some ⟨b1, 0, none⟩, 44, [.int .i64 1, .int .i64 0, .int .i64 0, .int .i64 0, .int .i64 1], 5⟩] [] := hS23
          refine rw_nil ?_
          refine cw_ret ?_
          obtain rfl := some_inj hF10
          exact ret1 Try.results105 (v1 := .agg #[.int .i64 0, .int .i64 0, .int .i64 0, .int .i64 0, .int .i64 0]) (resAt_cellA (B := some ⟨b, 0, none⟩) (i := 0) (cs := [.int .i64 0, .int .i64 0, .int .i64 0, .int .i64 0, .int .i64 0]) (vs := [.int .i64 0, .int .i64 0, .int .i64 0, .int .i64 0, .int .i64 0]) rfl k_ag_44 k_sz_44_5 (hS23.cf (i := 0) rfl) rfl rfl) ⟨rfl, (ST.subR (R' := []) (hS23.sel [] rfl rfl) (fun _ h => by cases h))⟩
        · skip
          have hF11 := cf' hF9 hb4
          refine cw_seq ?_
          refine cw_region ?_
          refine sq 60 rfl rfl (Y_move (v := .int .i64 i) rfl rfl) ?_
          refine sq 61 rfl rfl (Y_eq (k := .i64) (a := i) (b := 0) rfl rfl rfl) ?_
          refine sq 59 rfl rfl (Y_assign (v := .bool (i == 0)) rfl rfl) ?_
          refine rw_nil ?_
          refine cw_cond (b := (i == 0)) rfl (fun hb5 => ?_) (fun hb5 => ?_)
          · skip
            have hF12 := ct hF11 hb5
            refine cw_seq ?_
            refine cw_region ?_
            obtain ⟨r_3, hc2, hF12⟩ := bind_inv hF12
            refine sc 62 rfl rfl (Yc_func (g := 67) (vs := [.int .i64 1]) k_call_67 rfl (mc rfl mn) (c_impl_whole 1 _  (hS15.inn0 [] rfl) hc2)) ?_
            rintro _ w_16 ⟨rfl, hd2⟩
            have hS24 := hS15.out00 hd2
            have hS24 : ST w0 [] _ [⟨some ⟨b, 0, none⟩, 44, [.int .i64 0, .int .i64 0, .int .i64 0, .int .i64 0, .int .i64 0], 5⟩, ⟨some ⟨b1, 0, none⟩, 44, [.int .i64 1, .int .i64 0, .int .i64 0, .int .i64 0, .int .i64 1], 5⟩] [] := hS24
            refine ss0 rfl rfl (Ys_store (i := 0) (s := 5) (B := some ⟨b, 0, none⟩) (T' := 44) (v := .agg #[.int .i64 r_3.Num.A, .int .i64 r_3.Num.B, .int .i64 r_3.Num.C, .int .i64 r_3.Num.D, .int .i64 r_3.Exp]) (vs := [.int .i64 r_3.Num.A, .int .i64 r_3.Num.B, .int .i64 r_3.Num.C, .int .i64 r_3.Num.D, .int .i64 r_3.Exp]) (k := 0) (cs' := [.int .i64 r_3.Num.A, .int .i64 r_3.Num.B, .int .i64 r_3.Num.C, .int .i64 r_3.Num.D, .int .i64 r_3.Exp]) hS24 k_sz_44_5 rfl rfl rfl rfl rfl rfl rfl (Nat.le_of_ble_eq_true rfl) rfl rfl) ?_
            rintro _ w_17 ⟨rfl, hS25⟩
            have hS25 : ST w0 [] _ [⟨some ⟨b, 0, none⟩, 44, [.int .i64 r_3.Num.A, .int .i64 r_3.Num.B, .int .i64 r_3.Num.C, .int .i64 r_3.Num.D, .int .i64 r_3.Exp], 5⟩, ⟨some ⟨b1, 0, none⟩, 44, [.int .i64 1, .int .i64 0, .int .i64 0, .int .i64 0, .int .i64 1], 5⟩] [] := hS25
            refine rw_nil ?_
            refine cw_ret ?_
            obtain rfl := some_inj hF12
            exact ret1 Try.results105 (v1 := .agg #[.int .i64 r_3.Num.A, .int .i64 r_3.Num.B, .int .i64 r_3.Num.C, .int .i64 r_3.Num.D, .int .i64 r_3.Exp]) (resAt_cellA (B := some ⟨b, 0, none⟩) (i := 0) (cs := [.int .i64 r_3.Num.A, .int .i64 r_3.Num.B, .int .i64 r_3.Num.C, .int .i64 r_3.Num.D, .int .i64 r_3.Exp]) (vs := [.int .i64 r_3.Num.A, .int .i64 r_3.Num.B, .int .i64 r_3.Num.C, .int .i64 r_3.Num.D, .int .i64 r_3.Exp]) rfl k_ag_44 k_sz_44_5 (hS25.cf (i := 0) rfl) rfl rfl) ⟨rfl, (ST.subR (R' := []) (hS25.sel [] rfl rfl) (fun _ h => by cases h))⟩
          · skip
            have hF13 := cf' hF11 hb5
            refine cw_skip ?_
            refine cw_seq ?_
            refine cw_region ?_
            refine sq 63 rfl rfl (Y_move (v := .map (some g)) rfl rfl) ?_
            refine sq 64 rfl rfl (Y_move (v := .int .i64 kind) rfl rfl) ?_
            refine sq 65 rfl rfl (Y_lookup (kd := .i64) (ed := .i64) (k := kind) (l := [(4, 4), (5, 2), (6, 6), (7, 1), (8, 7)]) hS14.here rfl k_map_152_3_3 k_int_3_i64 k_zero_3 rfl rfl rfl) ?_
            obtain ⟨r_4, hc3, hF13⟩ := bind_inv hF13
            refine sc 66 rfl rfl (Yc_func (g := 45) (vs := [.int .i64 (mget [(4, 4), (5, 2), (6, 6), (7, 1), (8, 7)] kind)]) k_call_45 rfl (mc rfl mn) (c_impl_phase (mget [(4, 4), (5, 2), (6, 6), (7, 1), (8, 7)] kind) _  (hS15.inn0 [] rfl) hc3)) ?_
            rintro _ w_18 ⟨rfl, hd3⟩
            have hS26 := hS15.out00 hd3
            have hS26 : ST w0 [] _ [⟨some ⟨b, 0, none⟩, 44, [.int .i64 0, .int .i64 0, .int .i64 0, .int .i64 0, .int .i64 0], 5⟩, ⟨some ⟨b1, 0, none⟩, 44, [.int .i64 1, .int .i64 0, .int .i64 0, .int .i64 0, .int .i64 1], 5⟩] [] := hS26
            refine ss0 rfl rfl (Ys_store (i := 0) (s := 5) (B := some ⟨b, 0, none⟩) (T' := 44) (v := .agg #[.int .i64 r_4.Num.A, .int .i64 r_4.Num.B, .int .i64 r_4.Num.C, .int .i64 r_4.Num.D, .int .i64 r_4.Exp]) (vs := [.int .i64 r_4.Num.A, .int .i64 r_4.Num.B, .int .i64 r_4.Num.C, .int .i64 r_4.Num.D, .int .i64 r_4.Exp]) (k := 0) (cs' := [.int .i64 r_4.Num.A, .int .i64 r_4.Num.B, .int .i64 r_4.Num.C, .int .i64 r_4.Num.D, .int .i64 r_4.Exp]) hS26 k_sz_44_5 rfl rfl rfl rfl rfl rfl rfl (Nat.le_of_ble_eq_true rfl) rfl rfl) ?_
            rintro _ w_19 ⟨rfl, hS27⟩
            have hS27 : ST w0 [] _ [⟨some ⟨b, 0, none⟩, 44, [.int .i64 r_4.Num.A, .int .i64 r_4.Num.B, .int .i64 r_4.Num.C, .int .i64 r_4.Num.D, .int .i64 r_4.Exp], 5⟩, ⟨some ⟨b1, 0, none⟩, 44, [.int .i64 1, .int .i64 0, .int .i64 0, .int .i64 0, .int .i64 1], 5⟩] [] := hS27
            refine rw_nil ?_
            refine cw_ret ?_
            obtain rfl := some_inj hF13
            exact ret1 Try.results105 (v1 := .agg #[.int .i64 r_4.Num.A, .int .i64 r_4.Num.B, .int .i64 r_4.Num.C, .int .i64 r_4.Num.D, .int .i64 r_4.Exp]) (resAt_cellA (B := some ⟨b, 0, none⟩) (i := 0) (cs := [.int .i64 r_4.Num.A, .int .i64 r_4.Num.B, .int .i64 r_4.Num.C, .int .i64 r_4.Num.D, .int .i64 r_4.Exp]) (vs := [.int .i64 r_4.Num.A, .int .i64 r_4.Num.B, .int .i64 r_4.Num.C, .int .i64 r_4.Num.D, .int .i64 r_4.Exp]) rfl k_ag_44 k_sz_44_5 (hS27.cf (i := 0) rfl) rfl rfl) ⟨rfl, (ST.subR (R' := []) (hS27.sel [] rfl rfl) (fun _ h => by cases h))⟩

theorem c_impl_factor (letter : Int) (i : Int) (j : Int)  (w0 : World)  (hS : ST w0 [] w0 [] []) {r_ : TDyadic} (hF : F_impl_factor letter i j = some r_) :
    CV Try.prog 47 #[.int .u8 letter, .int .i64 i, .int .i64 j] w0 (fun v w' => v = .agg #[.int .i64 r_.Num.A, .int .i64 r_.Num.B, .int .i64 r_.Num.C, .int .i64 r_.Num.D, .int .i64 r_.Exp] ∧ ST w0 [] w' [] []) := by
  unfold F_impl_factor at hF
  refine cv_of_cw 23 Try.func47 rfl Try.ntmps47 rfl ?_
  refine cw_seq ?_
  refine cw_region ?_
  refine ss 6 rfl rfl (Ys_alloc (T := 44) (cs := [.int .i64 0, .int .i64 0, .int .i64 0, .int .i64 0, .int .i64 0]) (m := 5) hS k_zero_44 rfl rfl rfl) ?_
  rintro _ w_ ⟨b, rfl, hS1⟩
  refine rw_nil ?_
  refine cw_seq ?_
  refine cw_region ?_
  refine ss 8 rfl rfl (Ys_makeMap (T := 132) hS1 rfl) ?_
  rintro _ w_1 ⟨g, rfl, hS2⟩
  have hS3 := hS2.st
  refine ss0 rfl rfl (Ys_insert (kd := .u8) (ed := .i64) (a := 88) (b := 2) (es := #[]) hS2 k_map_132_5_3 k_int_5_u8 rfl rfl rfl rfl rfl) ?_
  rintro _ w_2 ⟨rfl, hS4⟩
  have hS5 := hS4.st
  refine ss0 rfl rfl (Ys_insert (kd := .u8) (ed := .i64) (a := 89) (b := 3) (es := (#[].push ⟨.int .u8 88, .int .i64 2, 0⟩)) hS4 k_map_132_5_3 k_int_5_u8 rfl rfl rfl rfl rfl) ?_
  rintro _ w_3 ⟨rfl, hS6⟩
  have hS7 := hS6.st
  refine ss0 rfl rfl (Ys_insert (kd := .u8) (ed := .i64) (a := 90) (b := 4) (es := ((#[].push ⟨.int .u8 88, .int .i64 2, 0⟩).push ⟨.int .u8 89, .int .i64 3, 1⟩)) hS6 k_map_132_5_3 k_int_5_u8 rfl rfl rfl rfl rfl) ?_
  rintro _ w_4 ⟨rfl, hS8⟩
  have hS9 := hS8.st
  refine sq 9 rfl rfl (Y_move (v := .map (some g)) rfl rfl) ?_
  refine sq 10 rfl rfl (Y_move (v := .int .u8 letter) rfl rfl) ?_
  refine sq 11 rfl rfl (Y_lookup (kd := .u8) (ed := .i64) (k := letter) (l := [(88, 2), (89, 3), (90, 4)]) hS8.here rfl k_map_132_5_3 k_int_5_u8 k_zero_3 rfl rfl rfl) ?_
  refine sq 7 rfl rfl (Y_assign (v := .int .i64 (mget [(88, 2), (89, 3), (90, 4)] letter)) rfl rfl) ?_
  refine rw_nil ?_
  refine cw_seq ?_
  refine cw_seq ?_
  refine cw_region ?_
  refine sq 12 rfl rfl (Y_move (v := .int .i64 (mget [(88, 2), (89, 3), (90, 4)] letter)) rfl rfl) ?_
  refine sq 13 rfl rfl (Y_eq (k := .i64) (a := (mget [(88, 2), (89, 3), (90, 4)] letter)) (b := 0) rfl rfl rfl) ?_
  refine rw_nil ?_
  refine cw_cond (b := ((mget [(88, 2), (89, 3), (90, 4)] letter) == 0)) rfl (fun hb => ?_) (fun hb => ?_)
  · skip
    have hF1 := ct hF hb
    refine cw_seq ?_
    refine cw_region ?_
    refine sq 14 rfl rfl (Y_move (v := .int .i64 i) rfl rfl) ?_
    refine sq 15 rfl rfl (Y_move (v := .int .i64 j) rfl rfl) ?_
    refine sq 16 rfl rfl (Y_eq (k := .i64) (a := i) (b := j) rfl rfl rfl) ?_
    obtain ⟨r_1, hc, hF1⟩ := bind_inv hF1
    refine sc 17 rfl rfl (Yc_func (g := 104) (vs := [.bool (i == j)]) k_call_104 rfl (mc rfl mn) (c_impl_small (i == j) _  (hS9.inn0 [] rfl) hc)) ?_
    rintro _ w_5 ⟨rfl, hd⟩
    have hS10 := hS9.out00 hd
    obtain ⟨r_2, hc1, hF1⟩ := bind_inv hF1
    refine sc 18 rfl rfl (Yc_func (g := 67) (vs := [.int .i64 r_1]) k_call_67 rfl (mc rfl mn) (c_impl_whole r_1 _  (hS10.inn0 [] rfl) hc1)) ?_
    rintro _ w_6 ⟨rfl, hd1⟩
    have hS11 := hS10.out00 hd1
    refine ss0 rfl rfl (Ys_store (i := 0) (s := 5) (B := some ⟨b, 0, none⟩) (T' := 44) (v := .agg #[.int .i64 r_2.Num.A, .int .i64 r_2.Num.B, .int .i64 r_2.Num.C, .int .i64 r_2.Num.D, .int .i64 r_2.Exp]) (vs := [.int .i64 r_2.Num.A, .int .i64 r_2.Num.B, .int .i64 r_2.Num.C, .int .i64 r_2.Num.D, .int .i64 r_2.Exp]) (k := 0) (cs' := [.int .i64 r_2.Num.A, .int .i64 r_2.Num.B, .int .i64 r_2.Num.C, .int .i64 r_2.Num.D, .int .i64 r_2.Exp]) hS11 k_sz_44_5 rfl rfl rfl rfl rfl rfl rfl (Nat.le_of_ble_eq_true rfl) rfl rfl) ?_
    rintro _ w_7 ⟨rfl, hS12⟩
    refine rw_nil ?_
    refine cw_ret ?_
    obtain rfl := some_inj hF1
    exact ret1 Try.results47 (v1 := .agg #[.int .i64 r_2.Num.A, .int .i64 r_2.Num.B, .int .i64 r_2.Num.C, .int .i64 r_2.Num.D, .int .i64 r_2.Exp]) (resAt_cellA (B := some ⟨b, 0, none⟩) (i := 0) (cs := [.int .i64 r_2.Num.A, .int .i64 r_2.Num.B, .int .i64 r_2.Num.C, .int .i64 r_2.Num.D, .int .i64 r_2.Exp]) (vs := [.int .i64 r_2.Num.A, .int .i64 r_2.Num.B, .int .i64 r_2.Num.C, .int .i64 r_2.Num.D, .int .i64 r_2.Exp]) rfl k_ag_44 k_sz_44_5 (hS12.cf (i := 0) rfl) rfl rfl) ⟨rfl, (ST.subR (R' := []) (hS12.sel [] rfl rfl) (fun _ h => by cases h))⟩
  · skip
    have hF2 := cf' hF hb
    refine cw_skip ?_
    refine cw_seq ?_
    refine cw_region ?_
    refine sq 19 rfl rfl (Y_move (v := .int .i64 (mget [(88, 2), (89, 3), (90, 4)] letter)) rfl rfl) ?_
    refine sq 20 rfl rfl (Y_move (v := .int .i64 i) rfl rfl) ?_
    refine sq 21 rfl rfl (Y_move (v := .int .i64 j) rfl rfl) ?_
    obtain ⟨r_3, hc2, hF2⟩ := bind_inv hF2
    refine sc 22 rfl rfl (Yc_func (g := 105) (vs := [.int .i64 (mget [(88, 2), (89, 3), (90, 4)] letter), .int .i64 i, .int .i64 j]) k_call_105 rfl (mc rfl (mc rfl (mc rfl mn))) (c_impl_entry (mget [(88, 2), (89, 3), (90, 4)] letter) i j _  (hS9.inn0 [] rfl) hc2)) ?_
    rintro _ w_8 ⟨rfl, hd2⟩
    have hS13 := hS9.out00 hd2
    refine ss0 rfl rfl (Ys_store (i := 0) (s := 5) (B := some ⟨b, 0, none⟩) (T' := 44) (v := .agg #[.int .i64 r_3.Num.A, .int .i64 r_3.Num.B, .int .i64 r_3.Num.C, .int .i64 r_3.Num.D, .int .i64 r_3.Exp]) (vs := [.int .i64 r_3.Num.A, .int .i64 r_3.Num.B, .int .i64 r_3.Num.C, .int .i64 r_3.Num.D, .int .i64 r_3.Exp]) (k := 0) (cs' := [.int .i64 r_3.Num.A, .int .i64 r_3.Num.B, .int .i64 r_3.Num.C, .int .i64 r_3.Num.D, .int .i64 r_3.Exp]) hS13 k_sz_44_5 rfl rfl rfl rfl rfl rfl rfl (Nat.le_of_ble_eq_true rfl) rfl rfl) ?_
    rintro _ w_9 ⟨rfl, hS14⟩
    refine rw_nil ?_
    refine cw_ret ?_
    obtain rfl := some_inj hF2
    exact ret1 Try.results47 (v1 := .agg #[.int .i64 r_3.Num.A, .int .i64 r_3.Num.B, .int .i64 r_3.Num.C, .int .i64 r_3.Num.D, .int .i64 r_3.Exp]) (resAt_cellA (B := some ⟨b, 0, none⟩) (i := 0) (cs := [.int .i64 r_3.Num.A, .int .i64 r_3.Num.B, .int .i64 r_3.Num.C, .int .i64 r_3.Num.D, .int .i64 r_3.Exp]) (vs := [.int .i64 r_3.Num.A, .int .i64 r_3.Num.B, .int .i64 r_3.Num.C, .int .i64 r_3.Num.D, .int .i64 r_3.Exp]) rfl k_ag_44 k_sz_44_5 (hS14.cf (i := 0) rfl) rfl rfl) ⟨rfl, (ST.subR (R' := []) (hS14.sel [] rfl rfl) (fun _ h => by cases h))⟩

theorem c_impl_letterOf (p : TPauli) (q : Int)  (w0 : World)  (hS : ST w0 [] w0 [] []) {r_ : Int} (hF : F_impl_letterOf p q = some r_) :
    CV Try.prog 48 #[.agg #[.int .i64 p.Phase, .int .i64 p.X, .int .i64 p.Z], .int .i64 q] w0 (fun v w' => v = .int .u8 r_ ∧ ST w0 [] w' [] []) := by
  unfold F_impl_letterOf at hF
  refine cv_of_cw 18 Try.func48 rfl Try.ntmps48 rfl ?_
  refine cw_seq ?_
  refine cw_region ?_
  refine ss 2 rfl rfl (Ys_box (T := 29) (v := .agg #[.int .i64 p.Phase, .int .i64 p.X, .int .i64 p.Z]) (cs := [.int .i64 p.Phase, .int .i64 p.X, .int .i64 p.Z]) (m := 3) hS rfl rfl rfl rfl) ?_
  rintro _ w_ ⟨b, rfl, hS1⟩
  refine sq 4 rfl rfl (Y_assign (v := .int .u8 0) rfl rfl) ?_
  refine rw_nil ?_
  refine cw_seq ?_
  obtain ⟨hsh, hF⟩ := chk_inv hF
  obtain ⟨hsh1, hF⟩ := chk_inv hF
  obtain ⟨x, hx, hF⟩ := bind_inv hF
  refine ra_start (ST.sel hS1 [0] rfl rfl).fn (by kernel_rfl) ?_
  have hS2 := hS1.drew
  refine ra_q 0 5 (v := pt (some ⟨b, 0, none⟩) 1) rfl rfl rfl (by kernel_rfl) (by kernel_rfl) (by kernel_rfl) (ST.sel hS2 [0] rfl rfl) (fun w' hw' => (Y_fieldAddr (B := some ⟨b, 0, none⟩) (i := 0) (s := 0) k_fd_29_1_1_3 k_sz_3_1 rfl rfl)) ?_
  refine ra_q 1 6 (v := .int .i64 p.X) rfl rfl rfl (by kernel_rfl) (by kernel_rfl) (by kernel_rfl) (ST.sel hS2 [0] rfl rfl) (fun w' hw' => (Y_load1 (B := some ⟨b, 0, none⟩) (i := 1) (cs := [.int .i64 p.Phase, .int .i64 p.X, .int .i64 p.Z]) (v := .int .i64 p.X) k_sc_3 rfl rfl (ST.cf hw' (i := 0) rfl) rfl)) ?_
  refine ra_q 2 7 (v := .int .i64 q) rfl rfl rfl (by kernel_rfl) (by kernel_rfl) (by kernel_rfl) (ST.sel hS2 [0] rfl rfl) (fun w' hw' => (Y_move (v := .int .i64 q) rfl rfl)) ?_
  refine ra_q 3 8 (v := .int .i64 (shrK .i64 p.X q)) rfl rfl rfl (by kernel_rfl) (by kernel_rfl) (by kernel_rfl) (ST.sel hS2 [0] rfl rfl) (fun w' hw' => (Y_shr (k := .i64) (a := p.X) (k' := .i64) (b := q) rfl rfl rfl hsh)) ?_
  refine ra_q 4 9 (v := .int .i64 (bits .and .i64 (shrK .i64 p.X q) 1)) rfl rfl rfl (by kernel_rfl) (by kernel_rfl) (by kernel_rfl) (ST.sel hS2 [0] rfl rfl) (fun w' hw' => (Y_band (k := .i64) (a := (shrK .i64 p.X q)) (b := 1) rfl rfl rfl)) ?_
  refine ra_q 5 10 (v := pt (some ⟨b, 0, none⟩) 2) rfl rfl rfl (by kernel_rfl) (by kernel_rfl) (by kernel_rfl) (ST.sel hS2 [0] rfl rfl) (fun w' hw' => (Y_fieldAddr (B := some ⟨b, 0, none⟩) (i := 0) (s := 0) k_fd_29_2_2_3 k_sz_3_1 rfl rfl)) ?_
  refine ra_q 6 11 (v := .int .i64 p.Z) rfl rfl rfl (by kernel_rfl) (by kernel_rfl) (by kernel_rfl) (ST.sel hS2 [0] rfl rfl) (fun w' hw' => (Y_load1 (B := some ⟨b, 0, none⟩) (i := 2) (cs := [.int .i64 p.Phase, .int .i64 p.X, .int .i64 p.Z]) (v := .int .i64 p.Z) k_sc_3 rfl rfl (ST.cf hw' (i := 0) rfl) rfl)) ?_
  refine ra_q 7 12 (v := .int .i64 q) rfl rfl rfl (by kernel_rfl) (by kernel_rfl) (by kernel_rfl) (ST.sel hS2 [0] rfl rfl) (fun w' hw' => (Y_move (v := .int .i64 q) rfl rfl)) ?_
  refine ra_q 8 13 (v := .int .i64 (shrK .i64 p.Z q)) rfl rfl rfl (by kernel_rfl) (by kernel_rfl) (by kernel_rfl) (ST.sel hS2 [0] rfl rfl) (fun w' hw' => (Y_shr (k := .i64) (a := p.Z) (k' := .i64) (b := q) rfl rfl rfl hsh1)) ?_
  refine ra_q 9 14 (v := .int .i64 (bits .and .i64 (shrK .i64 p.Z q) 1)) rfl rfl rfl (by kernel_rfl) (by kernel_rfl) (by kernel_rfl) (ST.sel hS2 [0] rfl rfl) (fun w' hw' => (Y_band (k := .i64) (a := (shrK .i64 p.Z q)) (b := 1) rfl rfl rfl)) ?_
  refine ra_q 10 15 (v := .int .i64 (IntKind.i64.wrap (2 * (bits .and .i64 (shrK .i64 p.Z q) 1)))) rfl rfl rfl (by kernel_rfl) (by kernel_rfl) (by kernel_rfl) (ST.sel hS2 [0] rfl rfl) (fun w' hw' => (Y_mul (k := .i64) (a := 2) (b := (bits .and .i64 (shrK .i64 p.Z q) 1)) rfl rfl rfl)) ?_
  refine ra_q 11 16 (v := .int .i64 (IntKind.i64.wrap ((bits .and .i64 (shrK .i64 p.X q) 1) + (IntKind.i64.wrap (2 * (bits .and .i64 (shrK .i64 p.Z q) 1)))))) rfl rfl rfl (by kernel_rfl) (by kernel_rfl) (by kernel_rfl) (ST.sel hS2 [0] rfl rfl) (fun w' hw' => (Y_add (k := .i64) (a := (bits .and .i64 (shrK .i64 p.X q) 1)) (b := (IntKind.i64.wrap (2 * (bits .and .i64 (shrK .i64 p.Z q) 1)))) rfl rfl rfl)) ?_
  refine ra_q 12 17 (v := .int .u8 (x.toNat : Int)) rfl rfl rfl (by kernel_rfl) (by kernel_rfl) (by kernel_rfl) (ST.sel hS2 [0] rfl rfl) (fun w' hw' => (Y_sidx (a := ([73, 88, 90, 89] : List UInt8)) (k := .i64) (i := (IntKind.i64.wrap ((bits .and .i64 (shrK .i64 p.X q) 1) + (IntKind.i64.wrap (2 * (bits .and .i64 (shrK .i64 p.Z q) 1)))))) (b := x) k_str_9 rfl rfl rfl hx)) ?_
  refine ra_q 13 4 (v := .int .u8 (x.toNat : Int)) rfl rfl rfl (by kernel_rfl) (by kernel_rfl) (by kernel_rfl) (ST.sel hS2 [0] rfl rfl) (fun w' hw' => (Y_assign (v := .int .u8 (x.toNat : Int)) rfl rfl)) ?_
  refine ra_done (by kernel_rfl) ?_
  refine cw_ret ?_
  obtain rfl := some_inj hF
  exact ret1 Try.results48 (v1 := .int .u8 (x.toNat : Int)) (resAt_tmp rfl) ⟨rfl, (ST.subR (R' := []) (hS2.sel [] rfl rfl) (fun _ h => by cases h))⟩

theorem c_impl_bitOf (n : Int) (state : Int) (q : Int)  (w0 : World)  (hS : ST w0 [] w0 [] []) {r_ : Int} (hF : F_impl_bitOf n state q = some r_) :
    CV Try.prog 49 #[.int .i64 n, .int .i64 state, .int .i64 q] w0 (fun v w' => v = .int .i64 r_ ∧ ST w0 [] w' [] []) := by
  unfold F_impl_bitOf at hF
  refine cv_of_cw 14 Try.func49 rfl Try.ntmps49 rfl ?_
  refine cw_seq ?_
  refine cw_region ?_
  refine sq 6 rfl rfl (Y_assign (v := .int .i64 0) rfl rfl) ?_
  refine rw_nil ?_
  refine cw_seq ?_
  refine cw_region ?_
  refine sq 7 rfl rfl (Y_move (v := .int .i64 state) rfl rfl) ?_
  refine sq 8 rfl rfl (Y_move (v := .int .i64 n) rfl rfl) ?_
  refine sq 9 rfl rfl (Y_sub (k := .i64) (a := n) (b := 1) rfl rfl rfl) ?_
  refine sq 10 rfl rfl (Y_move (v := .int .i64 q) rfl rfl) ?_
  refine sq 11 rfl rfl (Y_sub (k := .i64) (a := (IntKind.i64.wrap (n - 1))) (b := q) rfl rfl rfl) ?_
  obtain ⟨hsh, hF⟩ := chk_inv hF
  refine sq 12 rfl rfl (Y_shr (k := .i64) (a := state) (k' := .i64) (b := (IntKind.i64.wrap ((IntKind.i64.wrap (n - 1)) - q))) rfl rfl rfl hsh) ?_
  refine sq 13 rfl rfl (Y_band (k := .i64) (a := (shrK .i64 state (IntKind.i64.wrap ((IntKind.i64.wrap (n - 1)) - q)))) (b := 1) rfl rfl rfl) ?_
  refine sq 6 rfl rfl (Y_assign (v := .int .i64 (bits .and .i64 (shrK .i64 state (IntKind.i64.wrap ((IntKind.i64.wrap (n - 1)) - q))) 1)) rfl rfl) ?_
  refine rw_nil ?_
  refine cw_ret ?_
  obtain rfl := some_inj hF
  exact ret1 Try.results49 (v1 := .int .i64 (bits .and .i64 (shrK .i64 state (IntKind.i64.wrap ((IntKind.i64.wrap (n - 1)) - q))) 1)) (resAt_tmp rfl) ⟨rfl, (ST.subR (R' := []) (hS.sel [] rfl rfl) (fun _ h => by cases h))⟩

theorem c_impl_PauliMatrix_1 (i : Int) (j : Int) (p : TPauli) (p1 : Int) (B : Option Addr) (B1 : Option Addr) (w0 : World)  (hS : ST w0 [] w0 [] [⟨B, [.int .i64 p.Phase, .int .i64 p.X, .int .i64 p.Z]⟩, ⟨B1, [.int .i64 p1]⟩]) {r_ : TDyadic} {r_1 : Bool} (hF : F_impl_PauliMatrix_1 i j p p1 = some (r_, r_1)) :
    CV Try.prog 44 #[.int .i64 i, .int .i64 j, pt B 0, pt B1 0] w0 (fun v w' => v = .tuple #[.agg #[.int .i64 r_.Num.A, .int .i64 r_.Num.B, .int .i64 r_.Num.C, .int .i64 r_.Num.D, .int .i64 r_.Exp], .bool r_1] ∧ ST w0 [] w' [] []) := by
  unfold F_impl_PauliMatrix_1 at hF
  refine cv_of_cw 37 Try.func44 rfl Try.ntmps44 rfl ?_
  refine cw_seq ?_
  refine cw_region ?_
  refine ss 6 rfl rfl (Ys_alloc (T := 44) (cs := [.int .i64 0, .int .i64 0, .int .i64 0, .int .i64 0, .int .i64 0]) (m := 5) hS k_zero_44 rfl rfl rfl) ?_
  rintro _ w_ ⟨b, rfl, hS1⟩
  refine sq 7 rfl rfl (Y_assign (v := .bool false) rfl rfl) ?_
  refine rw_nil ?_
  refine cw_seq ?_
  refine cw_region ?_
  refine sq 10 rfl rfl (Y_fieldAddr (B := B) (i := 0) (s := 0) k_fd_29_0_0_3 k_sz_3_1 rfl rfl) ?_
  refine sq 11 rfl rfl (Y_load1 (B := B) (i := 0) (cs := [.int .i64 p.Phase, .int .i64 p.X, .int .i64 p.Z]) (v := .int .i64 p.Phase) k_sc_3 rfl rfl (hS1.rf (i := 0) rfl) rfl) ?_
  refine sq 12 rfl rfl (Y_mul (k := .i64) (a := 2) (b := p.Phase) rfl rfl rfl) ?_
  obtain ⟨r_2, hc, hF⟩ := bind_inv hF
  refine sc 13 rfl rfl (Yc_func (g := 45) (vs := [.int .i64 (IntKind.i64.wrap (2 * p.Phase))]) k_call_45 rfl (mc rfl mn) (c_impl_phase (IntKind.i64.wrap (2 * p.Phase)) _  (hS1.inn0 [] rfl) hc)) ?_
  rintro _ w_1 ⟨rfl, hd⟩
  have hS2 := hS1.out00 hd
  refine ss 8 rfl rfl (Ys_alloc (T := 44) (cs := [.int .i64 0, .int .i64 0, .int .i64 0, .int .i64 0, .int .i64 0]) (m := 5) hS2 k_zero_44 rfl rfl rfl) ?_
  rintro _ w_2 ⟨b1, rfl, hS3⟩
  have hS3 : ST w0 [] _ [⟨some ⟨b, 0, none⟩, 44, [.int .i64 0, .int .i64 0, .int .i64 0, .int .i64 0, .int .i64 0], 5⟩, ⟨some ⟨b1, 0, none⟩, 44, [.int .i64 0, .int .i64 0, .int .i64 0, .int .i64 0, .int .i64 0], 5⟩] [⟨B, [.int .i64 p.Phase, .int .i64 p.X, .int .i64 p.Z]⟩, ⟨B1, [.int .i64 p1]⟩] := hS3
  refine ss0 rfl rfl (Ys_store (i := 1) (s := 5) (B := some ⟨b1, 0, none⟩) (T' := 44) (v := .agg #[.int .i64 r_2.Num.A, .int .i64 r_2.Num.B, .int .i64 r_2.Num.C, .int .i64 r_2.Num.D, .int .i64 r_2.Exp]) (vs := [.int .i64 r_2.Num.A, .int .i64 r_2.Num.B, .int .i64 r_2.Num.C, .int .i64 r_2.Num.D, .int .i64 r_2.Exp]) (k := 0) (cs' := [.int .i64 r_2.Num.A, .int .i64 r_2.Num.B, .int .i64 r_2.Num.C, .int .i64 r_2.Num.D, .int .i64 r_2.Exp]) hS3 k_sz_44_5 rfl rfl rfl rfl rfl rfl rfl (Nat.le_of_ble_eq_true rfl) rfl rfl) ?_
  rintro _ w_3 ⟨rfl, hS4⟩
  have hS4 : ST w0 [] _ [⟨some ⟨b, 0, none⟩, 44, [.int .i64 0, .int .i64 0, .int .i64 0, .int .i64 0, .int .i64 0], 5⟩, ⟨some ⟨b1, 0, none⟩, 44, [.int .i64 r_2.Num.A, .int .i64 r_2.Num.B, .int .i64 r_2.Num.C, .int .i64 r_2.Num.D, .int .i64 r_2.Exp], 5⟩] [⟨B, [.int .i64 p.Phase, .int .i64 p.X, .int .i64 p.Z]⟩, ⟨B1, [.int .i64 p1]⟩] := hS4
  refine rw_nil ?_
  refine cw_seq ?_
  refine cw_seq ?_
  refine cw_region ?_
  refine sq 14 rfl rfl (Y_load1 (B := B1) (i := 0) (cs := [.int .i64 p1]) (v := .int .i64 p1) k_sc_3 rfl rfl (hS4.rf (i := 1) rfl) rfl) ?_
  refine sq 15 rfl rfl (Y_move (v := .int .i64 0) rfl rfl) ?_
  refine rw_nil ?_
  obtain ⟨hN, hF⟩ := chk_inv hF
  obtain ⟨z, hz, hF1⟩ := bind_inv hF
  refine cw_block ?_
  refine cw_loop (fun k f w => ∃ (i1 : Nat) (A : Int) (B2 : Int) (C : Int) (D : Int) (Exp : Int), FF f [(0, .int .i64 i), (1, .int .i64 j), (2, pt B 0), (3, pt B1 0), (6, pt (some ⟨b, 0, none⟩) 0), (8, pt (some ⟨b1, 0, none⟩) 0), (14, .int .i64 p1), (15, .int .i64 (i1 : Int))] ∧ ST w0 [] w [⟨some ⟨b, 0, none⟩, 44, [.int .i64 0, .int .i64 0, .int .i64 0, .int .i64 0, .int .i64 0], 5⟩, ⟨some ⟨b1, 0, none⟩, 44, [.int .i64 A, .int .i64 B2, .int .i64 C, .int .i64 D, .int .i64 Exp], 5⟩] [⟨B, [.int .i64 p.Phase, .int .i64 p.X, .int .i64 p.Z]⟩, ⟨B1, [.int .i64 p1]⟩] ∧ i1 + k = p1.toNat ∧ forN (F_impl_PauliMatrix_1_l1 p p1 i j) k i1 (A, B2, C, D, Exp) = some z) p1.toNat ⟨0, r_2.Num.A, r_2.Num.B, r_2.Num.C, r_2.Num.D, r_2.Exp, (FF.cons rfl (FF.cons rfl (FF.cons rfl (FF.cons rfl (FF.cons rfl (FF.cons rfl (FF.cons rfl (FF.cons rfl FF.nil)))))))), (hS4.sel [0, 1] rfl rfl), Nat.zero_add _, hz⟩ ?_
  rintro k_ f w ⟨i1, A, B2, C, D, Exp, hf, hS5, hik, hL⟩
  refine cw_seq ?_
  refine cw_region ?_
  refine sq 16 rfl rfl (Y_lt (k := .i64) (a := (i1 : Int)) (b := p1) rfl (hf.get 15 7 rfl) (hf.get 14 6 rfl)) ?_
  refine rw_nil ?_
  refine cw_seq ?_
  refine cw_cond (b := (decide ((i1 : Int) < p1))) rfl (fun hlt => ?_) (fun hlt => ?_)
  · skip
    have hlt1 : i1 < p1.toNat := by have h := of_decide_eq_true hlt; omega
    obtain ⟨k_1, rfl⟩ : ∃ k2, k_ = k2 + 1 := ⟨k_ - 1, by omega⟩
    obtain ⟨y, hb, hL1⟩ := forN_go hL
    unfold F_impl_PauliMatrix_1_l1 at hb
    refine cw_skip ?_
    refine cw_seq ?_
    refine cw_block ?_
    refine cw_seq ?_
    refine cw_region ?_
    refine sq 17 rfl rfl (Y_move (v := .int .i64 (i1 : Int)) rfl (hf.get 15 7 rfl)) ?_
    refine sq 9 rfl rfl (Y_assign (v := .int .i64 (i1 : Int)) rfl rfl) ?_
    refine rw_nil ?_
    obtain ⟨r_3, hc1, hb⟩ := bind_inv hb
    obtain ⟨r_4, hc2, hb⟩ := bind_inv hb
    obtain ⟨r_5, hc3, hb⟩ := bind_inv hb
    obtain ⟨r_6, hc4, hb⟩ := bind_inv hb
    obtain ⟨⟨r_7, r_8⟩, hc5, hb⟩ := bind_inv hb
    refine cw_mid (fun f w => FF f [(0, .int .i64 i), (1, .int .i64 j), (2, pt B 0), (3, pt B1 0), (6, pt (some ⟨b, 0, none⟩) 0), (8, pt (some ⟨b1, 0, none⟩) 0), (14, .int .i64 p1), (15, .int .i64 (i1 : Int))] ∧ ST w0 [] w [⟨some ⟨b, 0, none⟩, 44, [.int .i64 0, .int .i64 0, .int .i64 0, .int .i64 0, .int .i64 0], 5⟩, ⟨some ⟨b1, 0, none⟩, 44, [.int .i64 r_7.Num.A, .int .i64 r_7.Num.B, .int .i64 r_7.Num.C, .int .i64 r_7.Num.D, .int .i64 r_7.Exp], 5⟩] [⟨B, [.int .i64 p.Phase, .int .i64 p.X, .int .i64 p.Z]⟩, ⟨B1, [.int .i64 p1]⟩]) ?_ ?_
    · skip
      refine ra_start (ST.sel hS5 [0] rfl rfl).fn (by kernel_rfl) ?_
      have hS12 := hS5.drew
      refine ra_q 1 20 (v := .agg #[.int .i64 p.Phase, .int .i64 p.X, .int .i64 p.Z]) rfl rfl rfl (by kernel_rfl) (by kernel_rfl) (by kernel_rfl) (ST.sel hS12 [0] rfl rfl) (fun w' hw' => (Y_loadA (B := B) (i := 0) (cs := [.int .i64 p.Phase, .int .i64 p.X, .int .i64 p.Z]) (vs := [.int .i64 p.Phase, .int .i64 p.X, .int .i64 p.Z]) k_ag_29 k_sz_29_3 rfl (hf.get 2 2 rfl) (ST.rf hw' (i := 0) rfl) rfl rfl)) ?_
      refine ra_q 2 21 (v := .int .i64 (i1 : Int)) rfl rfl rfl (by kernel_rfl) (by kernel_rfl) (by kernel_rfl) (ST.sel hS12 [0] rfl rfl) (fun w' hw' => (Y_move (v := .int .i64 (i1 : Int)) rfl rfl)) ?_
      refine ra_q 4 23 (v := .int .i64 p1) rfl rfl rfl (by kernel_rfl) (by kernel_rfl) (by kernel_rfl) (ST.sel hS12 [0] rfl rfl) (fun w' hw' => (Y_load1 (B := B1) (i := 0) (cs := [.int .i64 p1]) (v := .int .i64 p1) k_sc_3 rfl (hf.get 3 3 rfl) (ST.rf hw' (i := 1) rfl) rfl)) ?_
      refine ra_q 5 24 (v := .int .i64 i) rfl rfl rfl (by kernel_rfl) (by kernel_rfl) (by kernel_rfl) (ST.sel hS12 [0] rfl rfl) (fun w' hw' => (Y_move (v := .int .i64 i) rfl (hf.get 0 0 rfl))) ?_
      refine ra_q 6 25 (v := .int .i64 (i1 : Int)) rfl rfl rfl (by kernel_rfl) (by kernel_rfl) (by kernel_rfl) (ST.sel hS12 [0] rfl rfl) (fun w' hw' => (Y_move (v := .int .i64 (i1 : Int)) rfl rfl)) ?_
      refine ra_q 8 27 (v := .int .i64 p1) rfl rfl rfl (by kernel_rfl) (by kernel_rfl) (by kernel_rfl) (ST.sel hS12 [0] rfl rfl) (fun w' hw' => (Y_load1 (B := B1) (i := 0) (cs := [.int .i64 p1]) (v := .int .i64 p1) k_sc_3 rfl (hf.get 3 3 rfl) (ST.rf hw' (i := 1) rfl) rfl)) ?_
      refine ra_q 9 28 (v := .int .i64 j) rfl rfl rfl (by kernel_rfl) (by kernel_rfl) (by kernel_rfl) (ST.sel hS12 [0] rfl rfl) (fun w' hw' => (Y_move (v := .int .i64 j) rfl (hf.get 1 1 rfl))) ?_
      refine ra_q 10 29 (v := .int .i64 (i1 : Int)) rfl rfl rfl (by kernel_rfl) (by kernel_rfl) (by kernel_rfl) (ST.sel hS12 [0] rfl rfl) (fun w' hw' => (Y_move (v := .int .i64 (i1 : Int)) rfl rfl)) ?_
      refine ra_all (rs := [0, 3]) (by kernel_rfl) rfl ?_
      refine ra_y 19 (i := 0) (v := .agg #[.int .i64 A, .int .i64 B2, .int .i64 C, .int .i64 D, .int .i64 Exp]) rfl rfl rfl (Y_loadA (B := some ⟨b1, 0, none⟩) (i := 0) (cs := [.int .i64 A, .int .i64 B2, .int .i64 C, .int .i64 D, .int .i64 Exp]) (vs := [.int .i64 A, .int .i64 B2, .int .i64 C, .int .i64 D, .int .i64 Exp]) k_ag_44 k_sz_44_5 rfl (hf.get 8 5 rfl) (hS12.cf (i := 1) rfl) rfl rfl) (ST.sel hS12 [0] rfl rfl) ?_ ?_
      · skip
        refine ra_all (rs := [3]) (by kernel_rfl) rfl ?_
        refine ra_c 22 (i := 3) rfl rfl rfl (Yc_func (g := 48) (vs := [.agg #[.int .i64 p.Phase, .int .i64 p.X, .int .i64 p.Z], .int .i64 (i1 : Int)]) k_call_48 rfl (mc rfl (mc rfl mn)) (c_impl_letterOf p (i1 : Int) _  (hS12.inn0 [] rfl) hc1)) ?_ ?_
        · rintro _ w_4 ⟨rfl, hd1⟩
          have hS13 := hS12.out00 hd1
          have hS13 : ST w0 [] _ [⟨some ⟨b, 0, none⟩, 44, [.int .i64 0, .int .i64 0, .int .i64 0, .int .i64 0, .int .i64 0], 5⟩, ⟨some ⟨b1, 0, none⟩, 44, [.int .i64 A, .int .i64 B2, .int .i64 C, .int .i64 D, .int .i64 Exp], 5⟩] [⟨B, [.int .i64 p.Phase, .int .i64 p.X, .int .i64 p.Z]⟩, ⟨B1, [.int .i64 p1]⟩] := hS13
          refine ⟨(ST.sel hS13 [0] rfl rfl), ?_⟩
          refine ra_all (rs := [7]) (by kernel_rfl) rfl ?_
          refine ra_c 26 (i := 7) rfl rfl rfl (Yc_func (g := 49) (vs := [.int .i64 p1, .int .i64 i, .int .i64 (i1 : Int)]) k_call_49 rfl (mc rfl (mc rfl (mc rfl mn))) (c_impl_bitOf p1 i (i1 : Int) _  (hS13.inn0 [] rfl) hc2)) ?_ ?_
          · rintro _ w_5 ⟨rfl, hd2⟩
            have hS14 := hS13.out00 hd2
            have hS14 : ST w0 [] _ [⟨some ⟨b, 0, none⟩, 44, [.int .i64 0, .int .i64 0, .int .i64 0, .int .i64 0, .int .i64 0], 5⟩, ⟨some ⟨b1, 0, none⟩, 44, [.int .i64 A, .int .i64 B2, .int .i64 C, .int .i64 D, .int .i64 Exp], 5⟩] [⟨B, [.int .i64 p.Phase, .int .i64 p.X, .int .i64 p.Z]⟩, ⟨B1, [.int .i64 p1]⟩] := hS14
            refine ⟨(ST.sel hS14 [0] rfl rfl), ?_⟩
            refine ra_all (rs := [11]) (by kernel_rfl) rfl ?_
            refine ra_c 30 (i := 11) rfl rfl rfl (Yc_func (g := 49) (vs := [.int .i64 p1, .int .i64 j, .int .i64 (i1 : Int)]) k_call_49 rfl (mc rfl (mc rfl (mc rfl mn))) (c_impl_bitOf p1 j (i1 : Int) _  (hS14.inn0 [] rfl) hc3)) ?_ ?_
            · rintro _ w_6 ⟨rfl, hd3⟩
              have hS15 := hS14.out00 hd3
              have hS15 : ST w0 [] _ [⟨some ⟨b, 0, none⟩, 44, [.int .i64 0, .int .i64 0, .int .i64 0, .int .i64 0, .int .i64 0], 5⟩, ⟨some ⟨b1, 0, none⟩, 44, [.int .i64 A, .int .i64 B2, .int .i64 C, .int .i64 D, .int .i64 Exp], 5⟩] [⟨B, [.int .i64 p.Phase, .int .i64 p.X, .int .i64 p.Z]⟩, ⟨B1, [.int .i64 p1]⟩] := hS15
              refine ⟨(ST.sel hS15 [0] rfl rfl), ?_⟩
              refine ra_all (rs := [12]) (by kernel_rfl) rfl ?_
              refine ra_c 31 (i := 12) rfl rfl rfl (Yc_func (g := 47) (vs := [.int .u8 r_3, .int .i64 r_4, .int .i64 r_5]) k_call_47 rfl (mc rfl (mc rfl (mc rfl mn))) (c_impl_factor r_3 r_4 r_5 _  (hS15.inn0 [] rfl) hc4)) ?_ ?_
              · rintro _ w_7 ⟨rfl, hd4⟩
                have hS16 := hS15.out00 hd4
                have hS16 : ST w0 [] _ [⟨some ⟨b, 0, none⟩, 44, [.int .i64 0, .int .i64 0, .int .i64 0, .int .i64 0, .int .i64 0], 5⟩, ⟨some ⟨b1, 0, none⟩, 44, [.int .i64 A, .int .i64 B2, .int .i64 C, .int .i64 D, .int .i64 Exp], 5⟩] [⟨B, [.int .i64 p.Phase, .int .i64 p.X, .int .i64 p.Z]⟩, ⟨B1, [.int .i64 p1]⟩] := hS16
                refine ⟨(ST.sel hS16 [0] rfl rfl), ?_⟩
                refine ra_all (rs := [13]) (by kernel_rfl) rfl ?_
                refine ra_c 32 (i := 13) rfl rfl rfl (Yc_func (g := 46) (vs := [.agg #[.int .i64 A, .int .i64 B2, .int .i64 C, .int .i64 D, .int .i64 Exp], .agg #[.int .i64 r_6.Num.A, .int .i64 r_6.Num.B, .int .i64 r_6.Num.C, .int .i64 r_6.Num.D, .int .i64 r_6.Exp]]) k_call_46 rfl (mc rfl (mc rfl mn)) (c_impl_MulDyadic (TDyadic.mk (TRing.mk A B2 C D) Exp) r_6 _  (hS16.inn0 [] rfl) hc5)) ?_ ?_
                · rintro _ w_8 ⟨rfl, hd5⟩
                  have hS17 := hS16.out00 hd5
                  have hS17 : ST w0 [] _ [⟨some ⟨b, 0, none⟩, 44, [.int .i64 0, .int .i64 0, .int .i64 0, .int .i64 0, .int .i64 0], 5⟩, ⟨some ⟨b1, 0, none⟩, 44, [.int .i64 A, .int .i64 B2, .int .i64 C, .int .i64 D, .int .i64 Exp], 5⟩] [⟨B, [.int .i64 p.Phase, .int .i64 p.X, .int .i64 p.Z]⟩, ⟨B1, [.int .i64 p1]⟩] := hS17
                  refine ⟨(ST.sel hS17 [0] rfl rfl), ?_⟩
                  refine ra_q 14 18 (v := .tuple #[.agg #[.int .i64 r_7.Num.A, .int .i64 r_7.Num.B, .int .i64 r_7.Num.C, .int .i64 r_7.Num.D, .int .i64 r_7.Exp], .bool r_8]) rfl rfl rfl (by kernel_rfl) (by kernel_rfl) (by kernel_rfl) (ST.sel hS17 [0] rfl rfl) (fun w' hw' => (Y_move (v := .tuple #[.agg #[.int .i64 r_7.Num.A, .int .i64 r_7.Num.B, .int .i64 r_7.Num.C, .int .i64 r_7.Num.D, .int .i64 r_7.Exp], .bool r_8]) rfl rfl)) ?_
                  refine ra_q 15 33 (v := .agg #[.int .i64 r_7.Num.A, .int .i64 r_7.Num.B, .int .i64 r_7.Num.C, .int .i64 r_7.Num.D, .int .i64 r_7.Exp]) rfl rfl rfl (by kernel_rfl) (by kernel_rfl) (by kernel_rfl) (ST.sel hS17 [0] rfl rfl) (fun w' hw' => (Y_extract (v := .agg #[.int .i64 r_7.Num.A, .int .i64 r_7.Num.B, .int .i64 r_7.Num.C, .int .i64 r_7.Num.D, .int .i64 r_7.Exp]) rfl rfl rfl)) ?_
                  refine ra_q 16 34 (v := .bool r_8) rfl rfl rfl (by kernel_rfl) (by kernel_rfl) (by kernel_rfl) (ST.sel hS17 [0] rfl rfl) (fun w' hw' => (Y_extract (v := .bool r_8) rfl rfl rfl)) ?_
                  refine ra_all (rs := [17]) (by kernel_rfl) rfl ?_
                  refine ra_s0 (i := 17) rfl rfl rfl (Ys_store (i := 1) (s := 5) (B := some ⟨b1, 0, none⟩) (T' := 44) (v := .agg #[.int .i64 r_7.Num.A, .int .i64 r_7.Num.B, .int .i64 r_7.Num.C, .int .i64 r_7.Num.D, .int .i64 r_7.Exp]) (vs := [.int .i64 r_7.Num.A, .int .i64 r_7.Num.B, .int .i64 r_7.Num.C, .int .i64 r_7.Num.D, .int .i64 r_7.Exp]) (k := 0) (cs' := [.int .i64 r_7.Num.A, .int .i64 r_7.Num.B, .int .i64 r_7.Num.C, .int .i64 r_7.Num.D, .int .i64 r_7.Exp]) hS17 k_sz_44_5 rfl (hf.get 8 5 rfl) rfl rfl rfl rfl rfl (Nat.le_of_ble_eq_true rfl) rfl rfl) ?_ ?_
                  · rintro _ w_9 ⟨rfl, hS18⟩
                    have hS18 : ST w0 [] _ [⟨some ⟨b, 0, none⟩, 44, [.int .i64 0, .int .i64 0, .int .i64 0, .int .i64 0, .int .i64 0], 5⟩, ⟨some ⟨b1, 0, none⟩, 44, [.int .i64 r_7.Num.A, .int .i64 r_7.Num.B, .int .i64 r_7.Num.C, .int .i64 r_7.Num.D, .int .i64 r_7.Exp], 5⟩] [⟨B, [.int .i64 p.Phase, .int .i64 p.X, .int .i64 p.Z]⟩, ⟨B1, [.int .i64 p1]⟩] := hS18
                    refine ⟨(ST.sel hS18 [0] rfl rfl), ?_⟩
                    refine ra_done (by kernel_rfl) ?_
                    exact ⟨(FF.cons (hf.get 0 0 rfl) (FF.cons (hf.get 1 1 rfl) (FF.cons (hf.get 2 2 rfl) (FF.cons (hf.get 3 3 rfl) (FF.cons (hf.get 6 4 rfl) (FF.cons (hf.get 8 5 rfl) (FF.cons (hf.get 14 6 rfl) (FF.cons (hf.get 15 7 rfl) FF.nil)))))))), (hS18.sel [0, 1] rfl rfl)⟩
                  exact allR_nil
                exact allR_nil
              exact allR_nil
            exact allR_nil
          exact allR_nil
        exact allR_nil
      refine ra_c 22 (i := 3) rfl rfl rfl (Yc_func (g := 48) (vs := [.agg #[.int .i64 p.Phase, .int .i64 p.X, .int .i64 p.Z], .int .i64 (i1 : Int)]) k_call_48 rfl (mc rfl (mc rfl mn)) (c_impl_letterOf p (i1 : Int) _  (hS12.inn0 [] rfl) hc1)) ?_ ?_
      · rintro _ w_10 ⟨rfl, hd6⟩
        have hS19 := hS12.out00 hd6
        have hS19 : ST w0 [] _ [⟨some ⟨b, 0, none⟩, 44, [.int .i64 0, .int .i64 0, .int .i64 0, .int .i64 0, .int .i64 0], 5⟩, ⟨some ⟨b1, 0, none⟩, 44, [.int .i64 A, .int .i64 B2, .int .i64 C, .int .i64 D, .int .i64 Exp], 5⟩] [⟨B, [.int .i64 p.Phase, .int .i64 p.X, .int .i64 p.Z]⟩, ⟨B1, [.int .i64 p1]⟩] := hS19
        refine ⟨(ST.sel hS19 [0] rfl rfl), ?_⟩
        refine ra_all (rs := [0, 7]) (by kernel_rfl) rfl ?_
        refine ra_y 19 (i := 0) (v := .agg #[.int .i64 A, .int .i64 B2, .int .i64 C, .int .i64 D, .int .i64 Exp]) rfl rfl rfl (Y_loadA (B := some ⟨b1, 0, none⟩) (i := 0) (cs := [.int .i64 A, .int .i64 B2, .int .i64 C, .int .i64 D, .int .i64 Exp]) (vs := [.int .i64 A, .int .i64 B2, .int .i64 C, .int .i64 D, .int .i64 Exp]) k_ag_44 k_sz_44_5 rfl (hf.get 8 5 rfl) (hS19.cf (i := 1) rfl) rfl rfl) (ST.sel hS19 [0] rfl rfl) ?_ ?_
        · skip
          refine ra_all (rs := [7]) (by kernel_rfl) rfl ?_
          refine ra_c 26 (i := 7) rfl rfl rfl (Yc_func (g := 49) (vs := [.int .i64 p1, .int .i64 i, .int .i64 (i1 : Int)]) k_call_49 rfl (mc rfl (mc rfl (mc rfl mn))) (c_impl_bitOf p1 i (i1 : Int) _  (hS19.inn0 [] rfl) hc2)) ?_ ?_
          · rintro _ w_11 ⟨rfl, hd7⟩
            have hS20 := hS19.out00 hd7
            have hS20 : ST w0 [] _ [⟨some ⟨b, 0, none⟩, 44, [.int .i64 0, .int .i64 0, .int .i64 0, .int .i64 0, .int .i64 0], 5⟩, ⟨some ⟨b1, 0, none⟩, 44, [.int .i64 A, .int .i64 B2, .int .i64 C, .int .i64 D, .int .i64 Exp], 5⟩] [⟨B, [.int .i64 p.Phase, .int .i64 p.X, .int .i64 p.Z]⟩, ⟨B1, [.int .i64 p1]⟩] := hS20
            refine ⟨(ST.sel hS20 [0] rfl rfl), ?_⟩
            refine ra_all (rs := [11]) (by kernel_rfl) rfl ?_
            refine ra_c 30 (i := 11) rfl rfl rfl (Yc_func (g := 49) (vs := [.int .i64 p1, .int .i64 j, .int .i64 (i1 : Int)]) k_call_49 rfl (mc rfl (mc rfl (mc rfl mn))) (c_impl_bitOf p1 j (i1 : Int) _  (hS20.inn0 [] rfl) hc3)) ?_ ?_
            · rintro _ w_12 ⟨rfl, hd8⟩
              have hS21 := hS20.out00 hd8
              have hS21 : ST w0 [] _ [⟨some ⟨b, 0, none⟩, 44, [.int .i64 0, .int .i64 0, .int .i64 0, .int .i64 0, .int .i64 0], 5⟩, ⟨some ⟨b1, 0, none⟩, 44, [.int .i64 A, .int .i64 B2, .int .i64 C, .int .i64 D, .int .i64 Exp], 5⟩] [⟨B, [.int .i64 p.Phase, .int .i64 p.X, .int .i64 p.Z]⟩, ⟨B1, [.int .i64 p1]⟩] := hS21
              refine ⟨(ST.sel hS21 [0] rfl rfl), ?_⟩
              refine ra_all (rs := [12]) (by kernel_rfl) rfl ?_
              refine ra_c 31 (i := 12) rfl rfl rfl (Yc_func (g := 47) (vs := [.int .u8 r_3, .int .i64 r_4, .int .i64 r_5]) k_call_47 rfl (mc rfl (mc rfl (mc rfl mn))) (c_impl_factor r_3 r_4 r_5 _  (hS21.inn0 [] rfl) hc4)) ?_ ?_
              · rintro _ w_13 ⟨rfl, hd9⟩
                have hS22 := hS21.out00 hd9
                have hS22 : ST w0 [] _ [⟨some ⟨b, 0, none⟩, 44, [.int .i64 0, .int .i64 0, .int .i64 0, .int .i64 0, .int .i64 0], 5⟩, ⟨some ⟨b1, 0, none⟩, 44, [.int .i64 A, .int .i64 B2, .int .i64 C, .int .i64 D, .int .i64 Exp], 5⟩] [⟨B, [.int .i64 p.Phase, .int .i64 p.X, .int .i64 p.Z]⟩, ⟨B1, [.int .i64 p1]⟩] := hS22
                refine ⟨(ST.sel hS22 [0] rfl rfl), ?_⟩
                refine ra_all (rs := [13]) (by kernel_rfl) rfl ?_
                refine ra_c 32 (i := 13) rfl rfl rfl (Yc_func (g := 46) (vs := [.agg #[.int .i64 A, .int .i64 B2, .int .i64 C, .int .i64 D, .int .i64 Exp], .agg #[.int .i64 r_6.Num.A, .int .i64 r_6.Num.B, .int .i64 r_6.Num.C, .int .i64 r_6.Num.D, .int .i64 r_6.Exp]]) k_call_46 rfl (mc rfl (mc rfl mn)) (c_impl_MulDyadic (TDyadic.mk (TRing.mk A B2 C D) Exp) r_6 _  (hS22.inn0 [] rfl) hc5)) ?_ ?_
                · rintro _ w_14 ⟨rfl, hd10⟩
                  have hS23 := hS22.out00 hd10
                  have hS23 : ST w0 [] _ [⟨some ⟨b, 0, none⟩, 44, [.int .i64 0, .int .i64 0, .int .i64 0, .int .i64 0, .int .i64 0], 5⟩, ⟨some ⟨b1, 0, none⟩, 44, [.int .i64 A, .int .i64 B2, .int .i64 C, .int .i64 D, .int .i64 Exp], 5⟩] [⟨B, [.int .i64 p.Phase, .int .i64 p.X, .int .i64 p.Z]⟩, ⟨B1, [.int .i64 p1]⟩] := hS23
                  refine ⟨(ST.sel hS23 [0] rfl rfl), ?_⟩
                  refine ra_q 14 18 (v := .tuple #[.agg #[.int .i64 r_7.Num.A, .int .i64 r_7.Num.B, .int .i64 r_7.Num.C, .int .i64 r_7.Num.D, .int .i64 r_7.Exp], .bool r_8]) rfl rfl rfl (by kernel_rfl) (by kernel_rfl) (by kernel_rfl) (ST.sel hS23 [0] rfl rfl) (fun w' hw' => (Y_move (v := .tuple #[.agg #[.int .i64 r_7.Num.A, .int .i64 r_7.Num.B, .int .i64 r_7.Num.C, .int .i64 r_7.Num.D, .int .i64 r_7.Exp], .bool r_8]) rfl rfl)) ?_
                  refine ra_q 15 33 (v := .agg #[.int .i64 r_7.Num.A, .int .i64 r_7.Num.B, .int .i64 r_7.Num.C, .int .i64 r_7.Num.D, .int .i64 r_7.Exp]) rfl rfl rfl (by kernel_rfl) (by kernel_rfl) (by kernel_rfl) (ST.sel hS23 [0] rfl rfl) (fun w' hw' => (Y_extract (v := .agg #[.int .i64 r_7.Num.A, .int .i64 r_7.Num.B, .int .i64 r_7.Num.C, .int .i64 r_7.Num.D, .int .i64 r_7.Exp]) rfl rfl rfl)) ?_
                  refine ra_q 16 34 (v := .bool r_8) rfl rfl rfl (by kernel_rfl) (by kernel_rfl) (by kernel_rfl) (ST.sel hS23 [0] rfl rfl) (fun w' hw' => (Y_extract (v := .bool r_8) rfl rfl rfl)) ?_
                  refine ra_all (rs := [17]) (by kernel_rfl) rfl ?_
                  refine ra_s0 (i := 17) rfl rfl rfl (Ys_store (i := 1) (s := 5) (B := some ⟨b1, 0, none⟩) (T' := 44) (v := .agg #[.int .i64 r_7.Num.A, .int .i64 r_7.Num.B, .int .i64 r_7.Num.C, .int .i64 r_7.Num.D, .int .i64 r_7.Exp]) (vs := [.int .i64 r_7.Num.A, .int .i64 r_7.Num.B, .int .i64 r_7.Num.C, .int .i64 r_7.Num.D, .int .i64 r_7.Exp]) (k := 0) (cs' := [.int .i64 r_7.Num.A, .int .i64 r_7.Num.B, .int .i64 r_7.Num.C, .int .i64 r_7.Num.D, .int .i64 r_7.Exp]) hS23 k_sz_44_5 rfl (hf.get 8 5 rfl) rfl rfl rfl rfl rfl (Nat.le_of_ble_eq_true rfl) rfl rfl) ?_ ?_
                  · rintro _ w_15 ⟨rfl, hS24⟩
                    have hS24 : ST w0 [] _ [⟨some ⟨b, 0, none⟩, 44, [.int .i64 0, .int .i64 0, .int .i64 0, .int .i64 0, .int .i64 0], 5⟩, ⟨some ⟨b1, 0, none⟩, 44, [.int .i64 r_7.Num.A, .int .i64 r_7.Num.B, .int .i64 r_7.Num.C, .int .i64 r_7.Num.D, .int .i64 r_7.Exp], 5⟩] [⟨B, [.int .i64 p.Phase, .int .i64 p.X, .int .i64 p.Z]⟩, ⟨B1, [.int .i64 p1]⟩] := hS24
                    refine ⟨(ST.sel hS24 [0] rfl rfl), ?_⟩
                    refine ra_done (by kernel_rfl) ?_
                    exact ⟨(FF.cons (hf.get 0 0 rfl) (FF.cons (hf.get 1 1 rfl) (FF.cons (hf.get 2 2 rfl) (FF.cons (hf.get 3 3 rfl) (FF.cons (hf.get 6 4 rfl) (FF.cons (hf.get 8 5 rfl) (FF.cons (hf.get 14 6 rfl) (FF.cons (hf.get 15 7 rfl) FF.nil)))))))), (hS24.sel [0, 1] rfl rfl)⟩
                  exact allR_nil
                exact allR_nil
              exact allR_nil
            exact allR_nil
          exact allR_nil
        refine ra_c 26 (i := 7) rfl rfl rfl (Yc_func (g := 49) (vs := [.int .i64 p1, .int .i64 i, .int .i64 (i1 : Int)]) k_call_49 rfl (mc rfl (mc rfl (mc rfl mn))) (c_impl_bitOf p1 i (i1 : Int) _  (hS19.inn0 [] rfl) hc2)) ?_ ?_
        · rintro _ w_16 ⟨rfl, hd11⟩
          have hS25 := hS19.out00 hd11
          have hS25 : ST w0 [] _ [⟨some ⟨b, 0, none⟩, 44, [.int .i64 0, .int .i64 0, .int .i64 0, .int .i64 0, .int .i64 0], 5⟩, ⟨some ⟨b1, 0, none⟩, 44, [.int .i64 A, .int .i64 B2, .int .i64 C, .int .i64 D, .int .i64 Exp], 5⟩] [⟨B, [.int .i64 p.Phase, .int .i64 p.X, .int .i64 p.Z]⟩, ⟨B1, [.int .i64 p1]⟩] := hS25
          refine ⟨(ST.sel hS25 [0] rfl rfl), ?_⟩
          refine ra_all (rs := [0, 11]) (by kernel_rfl) rfl ?_
          refine ra_y 19 (i := 0) (v := .agg #[.int .i64 A, .int .i64 B2, .int .i64 C, .int .i64 D, .int .i64 Exp]) rfl rfl rfl (Y_loadA (B := some ⟨b1, 0, none⟩) (i := 0) (cs := [.int .i64 A, .int .i64 B2, .int .i64 C, .int .i64 D, .int .i64 Exp]) (vs := [.int .i64 A, .int .i64 B2, .int .i64 C, .int .i64 D, .int .i64 Exp]) k_ag_44 k_sz_44_5 rfl (hf.get 8 5 rfl) (hS25.cf (i := 1) rfl) rfl rfl) (ST.sel hS25 [0] rfl rfl) ?_ ?_
          · skip
            refine ra_all (rs := [11]) (by kernel_rfl) rfl ?_
            refine ra_c 30 (i := 11) rfl rfl rfl (Yc_func (g := 49) (vs := [.int .i64 p1, .int .i64 j, .int .i64 (i1 : Int)]) k_call_49 rfl (mc rfl (mc rfl (mc rfl mn))) (c_impl_bitOf p1 j (i1 : Int) _  (hS25.inn0 [] rfl) hc3)) ?_ ?_
            · rintro _ w_17 ⟨rfl, hd12⟩
              have hS26 := hS25.out00 hd12
              have hS26 : ST w0 [] _ [⟨some ⟨b, 0, none⟩, 44, [.int .i64 0, .int .i64 0, .int .i64 0, .int .i64 0, .int .i64 0], 5⟩, ⟨some ⟨b1, 0, none⟩, 44, [.int .i64 A, .int .i64 B2, .int .i64 C, .int .i64 D, .int .i64 Exp], 5⟩] [⟨B, [.int .i64 p.Phase, .int .i64 p.X, .int .i64 p.Z]⟩, ⟨B1, [.int .i64 p1]⟩] := hS26
              refine ⟨(ST.sel hS26 [0] rfl rfl), ?_⟩
              refine ra_all (rs := [12]) (by kernel_rfl) rfl ?_
              refine ra_c 31 (i := 12) rfl rfl rfl (Yc_func (g := 47) (vs := [.int .u8 r_3, .int .i64 r_4, .int .i64 r_5]) k_call_47 rfl (mc rfl (mc rfl (mc rfl mn))) (c_impl_factor r_3 r_4 r_5 _  (hS26.inn0 [] rfl) hc4)) ?_ ?_
              · rintro _ w_18 ⟨rfl, hd13⟩
                have hS27 := hS26.out00 hd13
                have hS27 : ST w0 [] _ [⟨some ⟨b, 0, none⟩, 44, [.int .i64 0, .int .i64 0, .int .i64 0, .int .i64 0, .int .i64 0], 5⟩, ⟨some ⟨b1, 0, none⟩, 44, [.int .i64 A, .int .i64 B2, .int .i64 C, .int .i64 D, .int .i64 Exp], 5⟩] [⟨B, [.int .i64 p.Phase, .int .i64 p.X, .int .i64 p.Z]⟩, ⟨B1, [.int .i64 p1]⟩] := hS27
                refine ⟨(ST.sel hS27 [0] rfl rfl), ?_⟩
                refine ra_all (rs := [13]) (by kernel_rfl) rfl ?_
                refine ra_c 32 (i := 13) rfl rfl rfl (Yc_func (g := 46) (vs := [.agg #[.int .i64 A, .int .i64 B2, .int .i64 C, .int .i64 D, .int .i64 Exp], .agg #[.int .i64 r_6.Num.A, .int .i64 r_6.Num.B, .int .i64 r_6.Num.C, .int .i64 r_6.Num.D, .int .i64 r_6.Exp]]) k_call_46 rfl (mc rfl (mc rfl mn)) (c_impl_MulDyadic (TDyadic.mk (TRing.mk A B2 C D) Exp) r_6 _  (hS27.inn0 [] rfl) hc5)) ?_ ?_
                · rintro _ w_19 ⟨rfl, hd14⟩
                  have hS28 := hS27.out00 hd14
                  have hS28 : ST w0 [] _ [⟨some ⟨b, 0, none⟩, 44, [.int .i64 0, .int .i64 0, .int .i64 0, .int .i64 0, .int .i64 0], 5⟩, ⟨some ⟨b1, 0, none⟩, 44, [.int .i64 A, .int .i64 B2, .int .i64 C, .int .i64 D, .int .i64 Exp], 5⟩] [⟨B, [.int .i64 p.Phase, .int .i64 p.X, .int .i64 p.Z]⟩, ⟨B1, [.int .i64 p1]⟩] := hS28
                  refine ⟨(ST.sel hS28 [0] rfl rfl), ?_⟩
                  refine ra_q 14 18 (v := .tuple #[.agg #[.int .i64 r_7.Num.A, .int .i64 r_7.Num.B, .int .i64 r_7.Num.C, .int .i64 r_7.Num.D, .int .i64 r_7.Exp], .bool r_8]) rfl rfl rfl (by kernel_rfl) (by kernel_rfl) (by kernel_rfl) (ST.sel hS28 [0] rfl rfl) (fun w' hw' => (Y_move (v := .tuple #[.agg #[.int .i64 r_7.Num.A, .int .i64 r_7.Num.B, .int .i64 r_7.Num.C, .int .i64 r_7.Num.D, .int .i64 r_7.Exp], .bool r_8]) rfl rfl)) ?_
                  refine ra_q 15 33 (v := .agg #[.int .i64 r_7.Num.A, .int .i64 r_7.Num.B, .int .i64 r_7.Num.C, .int .i64 r_7.Num.D, .int .i64 r_7.Exp]) rfl rfl rfl (by kernel_rfl) (by kernel_rfl) (by kernel_rfl) (ST.sel hS28 [0] rfl rfl) (fun w' hw' => (Y_extract (v := .agg #[.int .i64 r_7.Num.A, .int .i64 r_7.Num.B, .int .i64 r_7.Num.C, .int .i64 r_7.Num.D, .int .i64 r_7.Exp]) rfl rfl rfl)) ?_
                  refine ra_q 16 34 (v := .bool r_8) rfl rfl rfl (by kernel_rfl) (by kernel_rfl) (by kernel_rfl) (ST.sel hS28 [0] rfl rfl) (fun w' hw' => (Y_extract (v := .bool r_8) rfl rfl rfl)) ?_
                  refine ra_all (rs := [17]) (by kernel_rfl) rfl ?_
                  refine ra_s0 (i := 17) rfl rfl rfl (Ys_store (i := 1) (s := 5) (B := some ⟨b1, 0, none⟩) (T' := 44) (v := .agg #[.int .i64 r_7.Num.A, .int .i64 r_7.Num.B, .int .i64 r_7.Num.C, .int .i64 r_7.Num.D, .int .i64 r_7.Exp]) (vs := [.int .i64 r_7.Num.A, .int .i64 r_7.Num.B, .int .i64 r_7.Num.C, .int .i64 r_7.Num.D, .int .i64 r_7.Exp]) (k := 0) (cs' := [.int .i64 r_7.Num.A, .int .i64 r_7.Num.B, .int .i64 r_7.Num.C, .int .i64 r_7.Num.D, .int .i64 r_7.Exp]) hS28 k_sz_44_5 rfl (hf.get 8 5 rfl) rfl rfl rfl rfl rfl (Nat.le_of_ble_eq_true rfl) rfl rfl) ?_ ?_
                  · rintro _ w_20 ⟨rfl, hS29⟩
                    have hS29 : ST w0 [] _ [⟨some ⟨b, 0, none⟩, 44, [.int .i64 0, .int .i64 0, .int .i64 0, .int .i64 0, .int .i64 0], 5⟩, ⟨some ⟨b1, 0, none⟩, 44, [.int .i64 r_7.Num.A, .int .i64 r_7.Num.B, .int .i64 r_7.Num.C, .int .i64 r_7.Num.D, .int .i64 r_7.Exp], 5⟩] [⟨B, [.int .i64 p.Phase, .int .i64 p.X, .int .i64 p.Z]⟩, ⟨B1, [.int .i64 p1]⟩] := hS29
                    refine ⟨(ST.sel hS29 [0] rfl rfl), ?_⟩
                    refine ra_done (by kernel_rfl) ?_
                    exact ⟨(FF.cons (hf.get 0 0 rfl) (FF.cons (hf.get 1 1 rfl) (FF.cons (hf.get 2 2 rfl) (FF.cons (hf.get 3 3 rfl) (FF.cons (hf.get 6 4 rfl) (FF.cons (hf.get 8 5 rfl) (FF.cons (hf.get 14 6 rfl) (FF.cons (hf.get 15 7 rfl) FF.nil)))))))), (hS29.sel [0, 1] rfl rfl)⟩
                  exact allR_nil
                exact allR_nil
              exact allR_nil
            exact allR_nil
          refine ra_c 30 (i := 11) rfl rfl rfl (Yc_func (g := 49) (vs := [.int .i64 p1, .int .i64 j, .int .i64 (i1 : Int)]) k_call_49 rfl (mc rfl (mc rfl (mc rfl mn))) (c_impl_bitOf p1 j (i1 : Int) _  (hS25.inn0 [] rfl) hc3)) ?_ ?_
          · rintro _ w_21 ⟨rfl, hd15⟩
            have hS30 := hS25.out00 hd15
            have hS30 : ST w0 [] _ [⟨some ⟨b, 0, none⟩, 44, [.int .i64 0, .int .i64 0, .int .i64 0, .int .i64 0, .int .i64 0], 5⟩, ⟨some ⟨b1, 0, none⟩, 44, [.int .i64 A, .int .i64 B2, .int .i64 C, .int .i64 D, .int .i64 Exp], 5⟩] [⟨B, [.int .i64 p.Phase, .int .i64 p.X, .int .i64 p.Z]⟩, ⟨B1, [.int .i64 p1]⟩] := hS30
            refine ⟨(ST.sel hS30 [0] rfl rfl), ?_⟩
            refine ra_all (rs := [0, 12]) (by kernel_rfl) rfl ?_
            refine ra_y 19 (i := 0) (v := .agg #[.int .i64 A, .int .i64 B2, .int .i64 C, .int .i64 D, .int .i64 Exp]) rfl rfl rfl (Y_loadA (B := some ⟨b1, 0, none⟩) (i := 0) (cs := [.int .i64 A, .int .i64 B2, .int .i64 C, .int .i64 D, .int .i64 Exp]) (vs := [.int .i64 A, .int .i64 B2, .int .i64 C, .int .i64 D, .int .i64 Exp]) k_ag_44 k_sz_44_5 rfl (hf.get 8 5 rfl) (hS30.cf (i := 1) rfl) rfl rfl) (ST.sel hS30 [0] rfl rfl) ?_ ?_
            · skip
              refine ra_all (rs := [12]) (by kernel_rfl) rfl ?_
              refine ra_c 31 (i := 12) rfl rfl rfl (Yc_func (g := 47) (vs := [.int .u8 r_3, .int .i64 r_4, .int .i64 r_5]) k_call_47 rfl (mc rfl (mc rfl (mc rfl mn))) (c_impl_factor r_3 r_4 r_5 _  (hS30.inn0 [] rfl) hc4)) ?_ ?_
              · rintro _ w_22 ⟨rfl, hd16⟩
                have hS31 := hS30.out00 hd16
                have hS31 : ST w0 [] _ [⟨some ⟨b, 0, none⟩, 44, [.int .i64 0, .int .i64 0, .int .i64 0, .int .i64 0, .int .i64 0], 5⟩, ⟨some ⟨b1, 0, none⟩, 44, [.int .i64 A, .int .i64 B2, .int .i64 C, .int .i64 D, .int .i64 Exp], 5⟩] [⟨B, [.int .i64 p.Phase, .int .i64 p.X, .int .i64 p.Z]⟩, ⟨B1, [.int .i64 p1]⟩] := hS31
                refine ⟨(ST.sel hS31 [0] rfl rfl), ?_⟩
                refine ra_all (rs := [13]) (by kernel_rfl) rfl ?_
                refine ra_c 32 (i := 13) rfl rfl rfl (Yc_func (g := 46) (vs := [.agg #[.int .i64 A, .int .i64 B2, .int .i64 C, .int .i64 D, .int .i64 Exp], .agg #[.int .i64 r_6.Num.A, .int .i64 r_6.Num.B, .int .i64 r_6.Num.C, .int .i64 r_6.Num.D, .int .i64 r_6.Exp]]) k_call_46 rfl (mc rfl (mc rfl mn)) (c_impl_MulDyadic (TDyadic.mk (TRing.mk A B2 C D) Exp) r_6 _  (hS31.inn0 [] rfl) hc5)) ?_ ?_
                · rintro _ w_23 ⟨rfl, hd17⟩
                  have hS32 := hS31.out00 hd17
                  have hS32 : ST w0 [] _ [⟨some ⟨b, 0, none⟩, 44, [.int .i64 0, .int .i64 0, .int .i64 0, .int .i64 0, .int .i64 0], 5⟩, ⟨some ⟨b1, 0, none⟩, 44, [.int .i64 A, .int .i64 B2, .int .i64 C, .int .i64 D, .int .i64 Exp], 5⟩] [⟨B, [.int .i64 p.Phase, .int .i64 p.X, .int .i64 p.Z]⟩, ⟨B1, [.int .i64 p1]⟩] := hS32
                  refine ⟨(ST.sel hS32 [0] rfl rfl), ?_⟩
                  refine ra_q 14 18 (v := .tuple #[.agg #[.int .i64 r_7.Num.A, .int .i64 r_7.Num.B, .int .i64 r_7.Num.C, .int .i64 r_7.Num.D, .int .i64 r_7.Exp], .bool r_8]) rfl rfl rfl (by kernel_rfl) (by kernel_rfl) (by kernel_rfl) (ST.sel hS32 [0] rfl rfl) (fun w' hw' => (Y_move (v := .tuple #[.agg #[.int .i64 r_7.Num.A, .int .i64 r_7.Num.B, .int .i64 r_7.Num.C, .int .i64 r_7.Num.D, .int .i64 r_7.Exp], .bool r_8]) rfl rfl)) ?_
                  refine ra_q 15 33 (v := .agg #[.int .i64 r_7.Num.A, .int .i64 r_7.Num.B, .int .i64 r_7.Num.C, .int .i64 r_7.Num.D, .int .i64 r_7.Exp]) rfl rfl rfl (by kernel_rfl) (by kernel_rfl) (by kernel_rfl) (ST.sel hS32 [0] rfl rfl) (fun w' hw' => (Y_extract (v := .agg #[.int .i64 r_7.Num.A, .int .i64 r_7.Num.B, .int .i64 r_7.Num.C, .int .i64 r_7.Num.D, .int .i64 r_7.Exp]) rfl rfl rfl)) ?_
                  refine ra_q 16 34 (v := .bool r_8) rfl rfl rfl (by kernel_rfl) (by kernel_rfl) (by kernel_rfl) (ST.sel hS32 [0] rfl rfl) (fun w' hw' => (Y_extract (v := .bool r_8) rfl rfl rfl)) ?_
                  refine ra_all (rs := [17]) (by kernel_rfl) rfl ?_
                  refine ra_s0 (i := 17) rfl rfl rfl (Ys_store (i := 1) (s := 5) (B := some ⟨b1, 0, none⟩) (T' := 44) (v := .agg #[.int .i64 r_7.Num.A, .int .i64 r_7.Num.B, .int .i64 r_7.Num.C, .int .i64 r_7.Num.D, .int .i64 r_7.Exp]) (vs := [.int .i64 r_7.Num.A, .int .i64 r_7.Num.B, .int .i64 r_7.Num.C, .int .i64 r_7.Num.D, .int .i64 r_7.Exp]) (k := 0) (cs' := [.int .i64 r_7.Num.A, .int .i64 r_7.Num.B, .int .i64 r_7.Num.C, .int .i64 r_7.Num.D, .int .i64 r_7.Exp]) hS32 k_sz_44_5 rfl (hf.get 8 5 rfl) rfl rfl rfl rfl rfl (Nat.le_of_ble_eq_true rfl) rfl rfl) ?_ ?_
                  · rintro _ w_24 ⟨rfl, hS33⟩
                    have hS33 : ST w0 [] _ [⟨some ⟨b, 0, none⟩, 44, [.int .i64 0, .int .i64 0, .int .i64 0, .int .i64 0, .int .i64 0], 5⟩, ⟨some ⟨b1, 0, none⟩, 44, [.int .i64 r_7.Num.A, .int .i64 r_7.Num.B, .int .i64 r_7.Num.C, .int .i64 r_7.Num.D, .int .i64 r_7.Exp], 5⟩] [⟨B, [.int .i64 p.Phase, .int .i64 p.X, .int .i64 p.Z]⟩, ⟨B1, [.int .i64 p1]⟩] := hS33
                    refine ⟨(ST.sel hS33 [0] rfl rfl), ?_⟩
                    refine ra_done (by kernel_rfl) ?_
                    exact ⟨(FF.cons (hf.get 0 0 rfl) (FF.cons (hf.get 1 1 rfl) (FF.cons (hf.get 2 2 rfl) (FF.cons (hf.get 3 3 rfl) (FF.cons (hf.get 6 4 rfl) (FF.cons (hf.get 8 5 rfl) (FF.cons (hf.get 14 6 rfl) (FF.cons (hf.get 15 7 rfl) FF.nil)))))))), (hS33.sel [0, 1] rfl rfl)⟩
                  exact allR_nil
                exact allR_nil
              exact allR_nil
            refine ra_c 31 (i := 12) rfl rfl rfl (Yc_func (g := 47) (vs := [.int .u8 r_3, .int .i64 r_4, .int .i64 r_5]) k_call_47 rfl (mc rfl (mc rfl (mc rfl mn))) (c_impl_factor r_3 r_4 r_5 _  (hS30.inn0 [] rfl) hc4)) ?_ ?_
            · rintro _ w_25 ⟨rfl, hd18⟩
              have hS34 := hS30.out00 hd18
              have hS34 : ST w0 [] _ [⟨some ⟨b, 0, none⟩, 44, [.int .i64 0, .int .i64 0, .int .i64 0, .int .i64 0, .int .i64 0], 5⟩, ⟨some ⟨b1, 0, none⟩, 44, [.int .i64 A, .int .i64 B2, .int .i64 C, .int .i64 D, .int .i64 Exp], 5⟩] [⟨B, [.int .i64 p.Phase, .int .i64 p.X, .int .i64 p.Z]⟩, ⟨B1, [.int .i64 p1]⟩] := hS34
              refine ⟨(ST.sel hS34 [0] rfl rfl), ?_⟩
              refine ra_all (rs := [0]) (by kernel_rfl) rfl ?_
              refine ra_y 19 (i := 0) (v := .agg #[.int .i64 A, .int .i64 B2, .int .i64 C, .int .i64 D, .int .i64 Exp]) rfl rfl rfl (Y_loadA (B := some ⟨b1, 0, none⟩) (i := 0) (cs := [.int .i64 A, .int .i64 B2, .int .i64 C, .int .i64 D, .int .i64 Exp]) (vs := [.int .i64 A, .int .i64 B2, .int .i64 C, .int .i64 D, .int .i64 Exp]) k_ag_44 k_sz_44_5 rfl (hf.get 8 5 rfl) (hS34.cf (i := 1) rfl) rfl rfl) (ST.sel hS34 [0] rfl rfl) ?_ ?_
              · skip
                refine ra_all (rs := [13]) (by kernel_rfl) rfl ?_
                refine ra_c 32 (i := 13) rfl rfl rfl (Yc_func (g := 46) (vs := [.agg #[.int .i64 A, .int .i64 B2, .int .i64 C, .int .i64 D, .int .i64 Exp], .agg #[.int .i64 r_6.Num.A, .int .i64 r_6.Num.B, .int .i64 r_6.Num.C, .int .i64 r_6.Num.D, .int .i64 r_6.Exp]]) k_call_46 rfl (mc rfl (mc rfl mn)) (c_impl_MulDyadic (TDyadic.mk (TRing.mk A B2 C D) Exp) r_6 _  (hS34.inn0 [] rfl) hc5)) ?_ ?_
                · rintro _ w_26 ⟨rfl, hd19⟩
                  have hS35 := hS34.out00 hd19
                  have hS35 : ST w0 [] _ [⟨some ⟨b, 0, none⟩, 44, [.int .i64 0, .int .i64 0, .int .i64 0, .int .i64 0, .int .i64 0], 5⟩, ⟨some ⟨b1, 0, none⟩, 44, [.int .i64 A, .int .i64 B2, .int .i64 C, .int .i64 D, .int .i64 Exp], 5⟩] [⟨B, [.int .i64 p.Phase, .int .i64 p.X, .int .i64 p.Z]⟩, ⟨B1, [.int .i64 p1]⟩] := hS35
                  refine ⟨(ST.sel hS35 [0] rfl rfl), ?_⟩
                  refine ra_q 14 18 (v := .tuple #[.agg #[.int .i64 r_7.Num.A, .int .i64 r_7.Num.B, .int .i64 r_7.Num.C, .int .i64 r_7.Num.D, .int .i64 r_7.Exp], .bool r_8]) rfl rfl rfl (by kernel_rfl) (by kernel_rfl) (by kernel_rfl) (ST.sel hS35 [0] rfl rfl) (fun w' hw' => (Y_move (v := .tuple #[.agg #[.int .i64 r_7.Num.A, .int .i64 r_7.Num.B, .int .i64 r_7.Num.C, .int .i64 r_7.Num.D, .int .i64 r_7.Exp], .bool r_8]) rfl rfl)) ?_
                  refine ra_q 15 33 (v := .agg #[.int .i64 r_7.Num.A, .int .i64 r_7.Num.B, .int .i64 r_7.Num.C, .int .i64 r_7.Num.D, .int .i64 r_7.Exp]) rfl rfl rfl (by kernel_rfl) (by kernel_rfl) (by kernel_rfl) (ST.sel hS35 [0] rfl rfl) (fun w' hw' => (Y_extract (v := .agg #[.int .i64 r_7.Num.A, .int .i64 r_7.Num.B, .int .i64 r_7.Num.C, .int .i64 r_7.Num.D, .int .i64 r_7.Exp]) rfl rfl rfl)) ?_
                  refine ra_q 16 34 (v := .bool r_8) rfl rfl rfl (by kernel_rfl) (by kernel_rfl) (by kernel_rfl) (ST.sel hS35 [0] rfl rfl) (fun w' hw' => (Y_extract (v := .bool r_8) rfl rfl rfl)) ?_
                  refine ra_all (rs := [17]) (by kernel_rfl) rfl ?_
                  refine ra_s0 (i := 17) rfl rfl rfl (Ys_store (i := 1) (s := 5) (B := some ⟨b1, 0, none⟩) (T' := 44) (v := .agg #[.int .i64 r_7.Num.A, .int .i64 r_7.Num.B, .int .i64 r_7.Num.C, .int .i64 r_7.Num.D, .int .i64 r_7.Exp]) (vs := [.int .i64 r_7.Num.A, .int .i64 r_7.Num.B, .int .i64 r_7.Num.C, .int .i64 r_7.Num.D, .int .i64 r_7.Exp]) (k := 0) (cs' := [.int .i64 r_7.Num.A, .int .i64 r_7.Num.B, .int .i64 r_7.Num.C, .int .i64 r_7.Num.D, .int .i64 r_7.Exp]) hS35 k_sz_44_5 rfl (hf.get 8 5 rfl) rfl rfl rfl rfl rfl (Nat.le_of_ble_eq_true rfl) rfl rfl) ?_ ?_
                  · rintro _ w_27 ⟨rfl, hS36⟩
                    have hS36 : ST w0 [] _ [⟨some ⟨b, 0, none⟩, 44, [.int .i64 0, .int .i64 0, .int .i64 0, .int .i64 0, .int .i64 0], 5⟩, ⟨some ⟨b1, 0, none⟩, 44, [.int .i64 r_7.Num.A, .int .i64 r_7.Num.B, .int .i64 r_7.Num.C, .int .i64 r_7.Num.D, .int .i64 r_7.Exp], 5⟩] [⟨B, [.int .i64 p.Phase, .int .i64 p.X, .int .i64 p.Z]⟩, ⟨B1, [.int .i64 p1]⟩] := hS36
                    refine ⟨(ST.sel hS36 [0] rfl rfl), ?_⟩
                    refine ra_done (by kernel_rfl) ?_
                    exact ⟨(FF.cons (hf.get 0 0 rfl) (FF.cons (hf.get 1 1 rfl) (FF.cons (hf.get 2 2 rfl) (FF.cons (hf.get 3 3 rfl) (FF.cons (hf.get 6 4 rfl) (FF.cons (hf.get 8 5 rfl) (FF.cons (hf.get 14 6 rfl) (FF.cons (hf.get 15 7 rfl) FF.nil)))))))), (hS36.sel [0, 1] rfl rfl)⟩
                  exact allR_nil
                exact allR_nil
              exact allR_nil
            exact allR_nil
          exact allR_nil
        exact allR_nil
      exact allR_nil
    rintro f w ⟨hf1, hS11⟩
    refine cw_region ?_
    refine sq 35 rfl rfl (Y_add (k := .i64) (a := (i1 : Int)) (b := 1) rfl (hf1.get 15 7 rfl) rfl) ?_
    refine sq 15 rfl rfl (Y_move (v := .int .i64 (IntKind.i64.wrap ((i1 : Int) + 1))) rfl rfl) ?_
    refine rw_nil ?_
    obtain rfl := some_inj hb
    exact ⟨k_1, Nat.lt_succ_self _, i1 + 1, r_7.Num.A, r_7.Num.B, r_7.Num.C, r_7.Num.D, r_7.Exp, (FF.cons (hf1.get 0 0 rfl) (FF.cons (hf1.get 1 1 rfl) (FF.cons (hf1.get 2 2 rfl) (FF.cons (hf1.get 3 3 rfl) (FF.cons (hf1.get 6 4 rfl) (FF.cons (hf1.get 8 5 rfl) (FF.cons (hf1.get 14 6 rfl) (FF.cons (congrArg (Value.int .i64) (wr_succ hlt1 hN)) FF.nil)))))))), (hS11.sel [0, 1] rfl rfl), (by omega), hL1⟩
  · skip
    obtain rfl : k_ = 0 := by have h := of_decide_eq_false hlt; omega
    refine cw_exit rfl ?_
    obtain rfl := some_inj hL
    refine cw_seq ?_
    refine cw_region ?_
    refine sq 36 rfl rfl (Y_loadA (B := some ⟨b1, 0, none⟩) (i := 0) (cs := [.int .i64 A, .int .i64 B2, .int .i64 C, .int .i64 D, .int .i64 Exp]) (vs := [.int .i64 A, .int .i64 B2, .int .i64 C, .int .i64 D, .int .i64 Exp]) k_ag_44 k_sz_44_5 rfl (hf.get 8 5 rfl) (hS5.cf (i := 1) rfl) rfl rfl) ?_
    refine ss0 rfl rfl (Ys_store (i := 0) (s := 5) (B := some ⟨b, 0, none⟩) (T' := 44) (v := .agg #[.int .i64 A, .int .i64 B2, .int .i64 C, .int .i64 D, .int .i64 Exp]) (vs := [.int .i64 A, .int .i64 B2, .int .i64 C, .int .i64 D, .int .i64 Exp]) (k := 0) (cs' := [.int .i64 A, .int .i64 B2, .int .i64 C, .int .i64 D, .int .i64 Exp]) hS5 k_sz_44_5 rfl (hf.get 6 4 rfl) rfl rfl rfl rfl rfl (Nat.le_of_ble_eq_true rfl) rfl rfl) ?_
    rintro _ w_28 ⟨rfl, hS37⟩
    have hS37 : ST w0 [] _ [⟨some ⟨b, 0, none⟩, 44, [.int .i64 A, .int .i64 B2, .int .i64 C, .int .i64 D, .int .i64 Exp], 5⟩, ⟨some ⟨b1, 0, none⟩, 44, [.int .i64 A, .int .i64 B2, .int .i64 C, .int .i64 D, .int .i64 Exp], 5⟩] [⟨B, [.int .i64 p.Phase, .int .i64 p.X, .int .i64 p.Z]⟩, ⟨B1, [.int .i64 p1]⟩] := hS37
    refine sq 7 rfl rfl (Y_assign (v := .bool true) rfl rfl) ?_
    refine rw_nil ?_
    refine cw_ret ?_
    obtain ⟨rfl, rfl⟩ := pr2 (some_inj hF1)
    exact ret2 Try.results44 (v1 := .agg #[.int .i64 A, .int .i64 B2, .int .i64 C, .int .i64 D, .int .i64 Exp]) (resAt_cellA (B := some ⟨b, 0, none⟩) (i := 0) (cs := [.int .i64 A, .int .i64 B2, .int .i64 C, .int .i64 D, .int .i64 Exp]) (vs := [.int .i64 A, .int .i64 B2, .int .i64 C, .int .i64 D, .int .i64 Exp]) (hf.get 6 4 rfl) k_ag_44 k_sz_44_5 (hS37.cf (i := 0) rfl) rfl rfl) (v2 := .bool true) (resAt_tmp rfl) ⟨rfl, (ST.subR (R' := []) (hS37.sel [] rfl rfl) (fun _ h => by cases h))⟩

theorem c_impl_PauliMatrix (n : Int) (p : TPauli)  (w0 : World)  (hS : ST w0 [] w0 [] []) {r_ : TMatrix} {r_1 : Bool} (hF : F_impl_PauliMatrix n p = some (r_, r_1)) :
    CV Try.prog 9 #[.int .i64 n, .agg #[.int .i64 p.Phase, .int .i64 p.X, .int .i64 p.Z]] w0 (fun v w' => ∃ (B : Option Addr) (c : Nat), v = .tuple #[.agg #[.int .i64 r_.Rows, .int .i64 r_.Cols, .slice B r_.Cells.length c], .bool r_1] ∧ ST w0 [] w' [⟨B, 44, (r_.Cells.flatMap enc_Dyadic), c * 5⟩] []) := by
  unfold F_impl_PauliMatrix at hF
  refine cv_of_cw 19 Try.func9 rfl Try.ntmps9 rfl ?_
  refine cw_seq ?_
  refine cw_region ?_
  refine ss 2 rfl rfl (Ys_box (T := 3) (v := .int .i64 n) (cs := [.int .i64 n]) (m := 1) hS rfl rfl rfl rfl) ?_
  rintro _ w_ ⟨b, rfl, hS1⟩
  refine ss 3 rfl rfl (Ys_box (T := 29) (v := .agg #[.int .i64 p.Phase, .int .i64 p.X, .int .i64 p.Z]) (cs := [.int .i64 p.Phase, .int .i64 p.X, .int .i64 p.Z]) (m := 3) hS1 rfl rfl rfl rfl) ?_
  rintro _ w_1 ⟨b1, rfl, hS2⟩
  have hS2 : ST w0 [] _ [⟨some ⟨b, 0, none⟩, 3, [.int .i64 n], 1⟩, ⟨some ⟨b1, 0, none⟩, 29, [.int .i64 p.Phase, .int .i64 p.X, .int .i64 p.Z], 3⟩] [] := hS2
  refine ss 4 rfl rfl (Ys_alloc (T := 26) (cs := [.int .i64 0, .int .i64 0, .slice none 0 0]) (m := 3) hS2 k_zero_26 rfl rfl rfl) ?_
  rintro _ w_2 ⟨b2, rfl, hS3⟩
  have hS3 : ST w0 [] _ [⟨some ⟨b, 0, none⟩, 3, [.int .i64 n], 1⟩, ⟨some ⟨b1, 0, none⟩, 29, [.int .i64 p.Phase, .int .i64 p.X, .int .i64 p.Z], 3⟩, ⟨some ⟨b2, 0, none⟩, 26, [.int .i64 0, .int .i64 0, .slice none 0 0], 3⟩] [] := hS3
  refine sq 5 rfl rfl (Y_assign (v := .bool false) rfl rfl) ?_
  refine rw_nil ?_
  refine cw_seq ?_
  refine cw_seq ?_
  refine cw_region ?_
  refine sq 6 rfl rfl (Y_load1 (B := some ⟨b, 0, none⟩) (i := 0) (cs := [.int .i64 n]) (v := .int .i64 n) k_sc_3 rfl rfl (hS3.cf (i := 0) rfl) rfl) ?_
  refine sq 7 rfl rfl (Y_loadA (B := some ⟨b1, 0, none⟩) (i := 0) (cs := [.int .i64 p.Phase, .int .i64 p.X, .int .i64 p.Z]) (vs := [.int .i64 p.Phase, .int .i64 p.X, .int .i64 p.Z]) k_ag_29 k_sz_29_3 rfl rfl (hS3.cf (i := 1) rfl) rfl rfl) ?_
  obtain ⟨r_2, hc, hF⟩ := bind_inv hF
  refine sc 8 rfl rfl (Yc_func (g := 42) (vs := [.int .i64 n, .agg #[.int .i64 p.Phase, .int .i64 p.X, .int .i64 p.Z]]) k_call_42 rfl (mc rfl (mc rfl mn)) (c_impl_IsValidPauli n p _  (hS3.inn0 [] rfl) hc)) ?_
  rintro _ w_3 ⟨rfl, hd⟩
  have hS4 := hS3.out00 hd
  have hS4 : ST w0 [] _ [⟨some ⟨b, 0, none⟩, 3, [.int .i64 n], 1⟩, ⟨some ⟨b1, 0, none⟩, 29, [.int .i64 p.Phase, .int .i64 p.X, .int .i64 p.Z], 3⟩, ⟨some ⟨b2, 0, none⟩, 26, [.int .i64 0, .int .i64 0, .slice none 0 0], 3⟩] [] := hS4
  refine sq 9 rfl rfl (Y_not (p := r_2) rfl rfl) ?_
  refine rw_nil ?_
  refine cw_cond (b := (!r_2)) rfl (fun hb => ?_) (fun hb => ?_)
  · skip
    have hF1 := ct hF hb
    refine cw_seq ?_
    refine cw_region ?_
    refine sq 10 rfl rfl (Y_buildS (zs := [.int .i64 0, .int .i64 0, .slice none 0 0]) (vs := []) (cs := [.int .i64 0, .int .i64 0, .slice none 0 0]) k_pl_26 k_zero_26 rfl mpn rfl) ?_
    refine ss0 rfl rfl (Ys_store (i := 2) (s := 3) (B := some ⟨b2, 0, none⟩) (T' := 26) (v := .agg #[.int .i64 0, .int .i64 0, .slice none 0 0]) (vs := [.int .i64 0, .int .i64 0, .slice none 0 0]) (k := 0) (cs' := [.int .i64 0, .int .i64 0, .slice none 0 0]) hS4 k_sz_26_3 rfl rfl rfl rfl rfl rfl rfl (Nat.le_of_ble_eq_true rfl) rfl rfl) ?_
    rintro _ w_4 ⟨rfl, hS5⟩
    have hS5 : ST w0 [] _ [⟨some ⟨b, 0, none⟩, 3, [.int .i64 n], 1⟩, ⟨some ⟨b1, 0, none⟩, 29, [.int .i64 p.Phase, .int .i64 p.X, .int .i64 p.Z], 3⟩, ⟨some ⟨b2, 0, none⟩, 26, [.int .i64 0, .int .i64 0, .slice none 0 0], 3⟩] [] := hS5
    refine sq 5 rfl rfl (Y_assign (v := .bool false) rfl rfl) ?_
    refine rw_nil ?_
    refine cw_ret ?_
    have hS6 := hS5.addNil 44
    obtain ⟨rfl, rfl⟩ := pr2 (some_inj hF1)
    exact ret2 Try.results9 (v1 := .agg #[.int .i64 0, .int .i64 0, .slice none 0 0]) (resAt_cellA (B := some ⟨b2, 0, none⟩) (i := 0) (cs := [.int .i64 0, .int .i64 0, .slice none 0 0]) (vs := [.int .i64 0, .int .i64 0, .slice none 0 0]) rfl k_ag_26 k_sz_26_3 (hS6.cf (i := 2) rfl) rfl rfl) (v2 := .bool false) (resAt_tmp rfl) ⟨none, 0, rfl, (ST.subR (R' := []) (hS6.sel [3] rfl rfl) (fun _ h => by cases h))⟩
  · skip
    have hF2 := cf' hF hb
    refine cw_skip ?_
    refine cw_seq ?_
    obtain ⟨hsh, hF2⟩ := chk_inv hF2
    obtain ⟨hsh1, hF2⟩ := chk_inv hF2
    obtain ⟨⟨r_3, r_4⟩, hc1, hF2⟩ := bind_inv hF2
    refine ra_start (ST.sel hS4 [0, 1] rfl rfl).fn (by kernel_rfl) ?_
    have hS8 := hS4.drew
    refine ra_q 0 11 (v := .int .i64 n) rfl rfl rfl (by kernel_rfl) (by kernel_rfl) (by kernel_rfl) (ST.sel hS8 [0, 1] rfl rfl) (fun w' hw' => (Y_load1 (B := some ⟨b, 0, none⟩) (i := 0) (cs := [.int .i64 n]) (v := .int .i64 n) k_sc_3 rfl rfl (ST.cf hw' (i := 0) rfl) rfl)) ?_
    refine ra_q 1 12 (v := .int .i64 (shlK .i64 1 n)) rfl rfl rfl (by kernel_rfl) (by kernel_rfl) (by kernel_rfl) (ST.sel hS8 [0, 1] rfl rfl) (fun w' hw' => (Y_shl (k := .i64) (a := 1) (k' := .i64) (b := n) rfl rfl rfl hsh)) ?_
    refine ra_q 2 13 (v := .int .i64 n) rfl rfl rfl (by kernel_rfl) (by kernel_rfl) (by kernel_rfl) (ST.sel hS8 [0, 1] rfl rfl) (fun w' hw' => (Y_load1 (B := some ⟨b, 0, none⟩) (i := 0) (cs := [.int .i64 n]) (v := .int .i64 n) k_sc_3 rfl rfl (ST.cf hw' (i := 0) rfl) rfl)) ?_
    refine ra_q 3 14 (v := .int .i64 (shlK .i64 1 n)) rfl rfl rfl (by kernel_rfl) (by kernel_rfl) (by kernel_rfl) (ST.sel hS8 [0, 1] rfl rfl) (fun w' hw' => (Y_shl (k := .i64) (a := 1) (k' := .i64) (b := n) rfl rfl rfl hsh1)) ?_
    refine ra_q 4 15 (v := .func (.func 44) #[] #[pt (some ⟨b1, 0, none⟩) 0, pt (some ⟨b, 0, none⟩) 0]) rfl rfl rfl (by kernel_rfl) (by kernel_rfl) (by kernel_rfl) (ST.sel hS8 [0, 1] rfl rfl) (fun w' hw' => (Y_makeFunc (cs := [pt (some ⟨b1, 0, none⟩) 0, pt (some ⟨b, 0, none⟩) 0]) rfl rfl (mc rfl (mc rfl mn)))) ?_
    refine ra_all (rs := [5]) (by kernel_rfl) rfl ?_
    refine ra_c 16 (i := 5) rfl rfl rfl (Yc_func (g := 43) (vs := [.int .i64 (shlK .i64 1 n), .int .i64 (shlK .i64 1 n), .func (.func 44) #[] #[pt (some ⟨b1, 0, none⟩) 0, pt (some ⟨b, 0, none⟩) 0]]) k_call_43 rfl (mc rfl (mc rfl (mc rfl mn))) (c_impl_matrixOf (shlK .i64 1 n) (shlK .i64 1 n) (fun x_0 x_1 => F_impl_PauliMatrix_1 x_0 x_1 p n) 44 (#[pt (some ⟨b1, 0, none⟩) 0, pt (some ⟨b, 0, none⟩) 0]) [⟨some ⟨b1, 0, none⟩, [.int .i64 p.Phase, .int .i64 p.X, .int .i64 p.Z]⟩, ⟨some ⟨b, 0, none⟩, [.int .i64 n]⟩] _ k_call_44 (fun w hw x_0 x_1 y_0 y_1 h_ => c_impl_PauliMatrix_1 x_0 x_1 p n (some ⟨b1, 0, none⟩) (some ⟨b, 0, none⟩) w  hw h_) (hS8.inn0 [(false, 1), (false, 0)] rfl) hc1)) ?_ ?_
    · rintro _ w_5 ⟨B1, c1, rfl, hd1⟩
      have hS9 := hS8.out0 hd1
      have hS9 : ST w0 [] _ [⟨some ⟨b, 0, none⟩, 3, [.int .i64 n], 1⟩, ⟨some ⟨b1, 0, none⟩, 29, [.int .i64 p.Phase, .int .i64 p.X, .int .i64 p.Z], 3⟩, ⟨some ⟨b2, 0, none⟩, 26, [.int .i64 0, .int .i64 0, .slice none 0 0], 3⟩, ⟨B1, 44, (r_3.Cells.flatMap enc_Dyadic), c1 * 5⟩] [] := hS9
      refine ⟨(ST.sel hS9 [0, 1] rfl rfl), ?_⟩
      refine ra_q 6 17 (v := .agg #[.int .i64 r_3.Rows, .int .i64 r_3.Cols, .slice B1 r_3.Cells.length c1]) rfl rfl rfl (by kernel_rfl) (by kernel_rfl) (by kernel_rfl) (ST.sel hS9 [0, 1] rfl rfl) (fun w' hw' => (Y_extract (v := .agg #[.int .i64 r_3.Rows, .int .i64 r_3.Cols, .slice B1 r_3.Cells.length c1]) rfl rfl rfl)) ?_
      refine ra_q 7 18 (v := .bool r_4) rfl rfl rfl (by kernel_rfl) (by kernel_rfl) (by kernel_rfl) (ST.sel hS9 [0, 1] rfl rfl) (fun w' hw' => (Y_extract (v := .bool r_4) rfl rfl rfl)) ?_
      refine ra_all (rs := [8]) (by kernel_rfl) rfl ?_
      refine ra_s0 (i := 8) rfl rfl rfl (Ys_store (i := 2) (s := 3) (B := some ⟨b2, 0, none⟩) (T' := 26) (v := .agg #[.int .i64 r_3.Rows, .int .i64 r_3.Cols, .slice B1 r_3.Cells.length c1]) (vs := [.int .i64 r_3.Rows, .int .i64 r_3.Cols, .slice B1 r_3.Cells.length c1]) (k := 0) (cs' := [.int .i64 r_3.Rows, .int .i64 r_3.Cols, .slice B1 r_3.Cells.length c1]) hS9 k_sz_26_3 rfl rfl rfl rfl rfl rfl rfl (Nat.le_of_ble_eq_true rfl) rfl rfl) ?_ ?_
      · rintro _ w_6 ⟨rfl, hS10⟩
        have hS10 : ST w0 [] _ [⟨some ⟨b, 0, none⟩, 3, [.int .i64 n], 1⟩, ⟨some ⟨b1, 0, none⟩, 29, [.int .i64 p.Phase, .int .i64 p.X, .int .i64 p.Z], 3⟩, ⟨some ⟨b2, 0, none⟩, 26, [.int .i64 r_3.Rows, .int .i64 r_3.Cols, .slice B1 r_3.Cells.length c1], 3⟩, ⟨B1, 44, (r_3.Cells.flatMap enc_Dyadic), c1 * 5⟩] [] := hS10
        refine ⟨(ST.sel hS10 [0, 1] rfl rfl), ?_⟩
        refine ra_q 9 5 (v := .bool r_4) rfl rfl rfl (by kernel_rfl) (by kernel_rfl) (by kernel_rfl) (ST.sel hS10 [0, 1] rfl rfl) (fun w' hw' => (Y_assign (v := .bool r_4) rfl rfl)) ?_
        refine ra_done (by kernel_rfl) ?_
        refine cw_ret ?_
        obtain ⟨rfl, rfl⟩ := pr2 (some_inj hF2)
        exact ret2 Try.results9 (v1 := .agg #[.int .i64 r_3.Rows, .int .i64 r_3.Cols, .slice B1 r_3.Cells.length c1]) (resAt_cellA (B := some ⟨b2, 0, none⟩) (i := 0) (cs := [.int .i64 r_3.Rows, .int .i64 r_3.Cols, .slice B1 r_3.Cells.length c1]) (vs := [.int .i64 r_3.Rows, .int .i64 r_3.Cols, .slice B1 r_3.Cells.length c1]) rfl k_ag_26 k_sz_26_3 (hS10.cf (i := 2) rfl) rfl rfl) (v2 := .bool r_4) (resAt_tmp rfl) ⟨B1, c1, rfl, (ST.subR (R' := []) (hS10.sel [3] rfl rfl) (fun _ h => by cases h))⟩
      exact allR_nil
    exact allR_nil

theorem c_laws_eqRing (a : TRing) (b : TRing)  (w0 : World)  (hS : ST w0 [] w0 [] []) {r_ : Bool} (hF : F_laws_eqRing a b = some r_) :
    CV Try.prog 138 #[.agg #[.int .i64 a.A, .int .i64 a.B, .int .i64 a.C, .int .i64 a.D], .agg #[.int .i64 b.A, .int .i64 b.B, .int .i64 b.C, .int .i64 b.D]] w0 (fun v w' => v = .bool r_ ∧ ST w0 [] w' [] []) := by
  unfold F_laws_eqRing at hF
  refine cv_of_cw 25 Try.func138 rfl Try.ntmps138 rfl ?_
  refine cw_seq ?_
  refine cw_region ?_
  refine ss 2 rfl rfl (Ys_box (T := 42) (v := .agg #[.int .i64 a.A, .int .i64 a.B, .int .i64 a.C, .int .i64 a.D]) (cs := [.int .i64 a.A, .int .i64 a.B, .int .i64 a.C, .int .i64 a.D]) (m := 4) hS rfl rfl rfl rfl) ?_
  rintro _ w_ ⟨b1, rfl, hS1⟩
  refine ss 3 rfl rfl (Ys_box (T := 42) (v := .agg #[.int .i64 b.A, .int .i64 b.B, .int .i64 b.C, .int .i64 b.D]) (cs := [.int .i64 b.A, .int .i64 b.B, .int .i64 b.C, .int .i64 b.D]) (m := 4) hS1 rfl rfl rfl rfl) ?_
  rintro _ w_1 ⟨b2, rfl, hS2⟩
  have hS2 : ST w0 [] _ [⟨some ⟨b1, 0, none⟩, 42, [.int .i64 a.A, .int .i64 a.B, .int .i64 a.C, .int .i64 a.D], 4⟩, ⟨some ⟨b2, 0, none⟩, 42, [.int .i64 b.A, .int .i64 b.B, .int .i64 b.C, .int .i64 b.D], 4⟩] [] := hS2
  refine sq 4 rfl rfl (Y_assign (v := .bool false) rfl rfl) ?_
  refine rw_nil ?_
  refine cw_seq ?_
  refine cw_seq ?_
  refine cw_region ?_
  refine sq 5 rfl rfl (Y_fieldAddr (B := some ⟨b1, 0, none⟩) (i := 0) (s := 0) k_fd_42_0_0_3 k_sz_3_1 rfl rfl) ?_
  refine sq 6 rfl rfl (Y_load1 (B := some ⟨b1, 0, none⟩) (i := 0) (cs := [.int .i64 a.A, .int .i64 a.B, .int .i64 a.C, .int .i64 a.D]) (v := .int .i64 a.A) k_sc_3 rfl rfl (hS2.cf (i := 0) rfl) rfl) ?_
  refine sq 7 rfl rfl (Y_fieldAddr (B := some ⟨b2, 0, none⟩) (i := 0) (s := 0) k_fd_42_0_0_3 k_sz_3_1 rfl rfl) ?_
  refine sq 8 rfl rfl (Y_load1 (B := some ⟨b2, 0, none⟩) (i := 0) (cs := [.int .i64 b.A, .int .i64 b.B, .int .i64 b.C, .int .i64 b.D]) (v := .int .i64 b.A) k_sc_3 rfl rfl (hS2.cf (i := 1) rfl) rfl) ?_
  refine sq 9 rfl rfl (Y_ne (k := .i64) (a := a.A) (b := b.A) rfl rfl rfl) ?_
  refine rw_nil ?_
  refine cw_cond (b := (a.A != b.A)) rfl (fun hb => ?_) (fun hb => ?_)
  · skip
    have hF1 := ct hF hb
    refine cw_seq ?_
    refine cw_region ?_
    refine sq 4 rfl rfl (Y_assign (v := .bool false) rfl rfl) ?_
    refine rw_nil ?_
    refine cw_ret ?_
    obtain rfl := some_inj hF1
    exact ret1 Try.results138 (v1 := .bool false) (resAt_tmp rfl) ⟨rfl, (ST.subR (R' := []) (hS2.sel [] rfl rfl) (fun _ h => by cases h))⟩
  · skip
    have hF2 := cf' hF hb
    refine cw_skip ?_
    refine cw_seq ?_
    refine cw_seq ?_
    refine cw_region ?_
    refine sq 10 rfl rfl (Y_fieldAddr (B := some ⟨b1, 0, none⟩) (i := 0) (s := 0) k_fd_42_1_1_3 k_sz_3_1 rfl rfl) ?_
    refine sq 11 rfl rfl (Y_load1 (B := some ⟨b1, 0, none⟩) (i := 1) (cs := [.int .i64 a.A, .int .i64 a.B, .int .i64 a.C, .int .i64 a.D]) (v := .int .i64 a.B) k_sc_3 rfl rfl (hS2.cf (i := 0) rfl) rfl) ?_
    refine sq 12 rfl rfl (Y_fieldAddr (B := some ⟨b2, 0, none⟩) (i := 0) (s := 0) k_fd_42_1_1_3 k_sz_3_1 rfl rfl) ?_
    refine sq 13 rfl rfl (Y_load1 (B := some ⟨b2, 0, none⟩) (i := 1) (cs := [.int .i64 b.A, .int .i64 b.B, .int .i64 b.C, .int .i64 b.D]) (v := .int .i64 b.B) k_sc_3 rfl rfl (hS2.cf (i := 1) rfl) rfl) ?_
    refine sq 14 rfl rfl (Y_ne (k := .i64) (a := a.B) (b := b.B) rfl rfl rfl) ?_
    refine rw_nil ?_
    refine cw_cond (b := (a.B != b.B)) rfl (fun hb1 => ?_) (fun hb1 => ?_)
    · skip
      have hF3 := ct hF2 hb1
      refine cw_seq ?_
      refine cw_region ?_
      refine sq 4 rfl rfl (Y_assign (v := .bool false) rfl rfl) ?_
      refine rw_nil ?_
      refine cw_ret ?_
      obtain rfl := some_inj hF3
      exact ret1 Try.results138 (v1 := .bool false) (resAt_tmp rfl) ⟨rfl, (ST.subR (R' := []) (hS2.sel [] rfl rfl) (fun _ h => by cases h))⟩
    · skip
      have hF4 := cf' hF2 hb1
      refine cw_skip ?_
      refine cw_seq ?_
      refine cw_seq ?_
      refine cw_region ?_
      refine sq 15 rfl rfl (Y_fieldAddr (B := some ⟨b1, 0, none⟩) (i := 0) (s := 0) k_fd_42_2_2_3 k_sz_3_1 rfl rfl) ?_
      refine sq 16 rfl rfl (Y_load1 (B := some ⟨b1, 0, none⟩) (i := 2) (cs := [.int .i64 a.A, .int .i64 a.B, .int .i64 a.C, .int .i64 a.D]) (v := .int .i64 a.C) k_sc_3 rfl rfl (hS2.cf (i := 0) rfl) rfl) ?_
      refine sq 17 rfl rfl (Y_fieldAddr (B := some ⟨b2, 0, none⟩) (i := 0) (s := 0) k_fd_42_2_2_3 k_sz_3_1 rfl rfl) ?_
      refine sq 18 rfl rfl (Y_load1 (B := some ⟨b2, 0, none⟩) (i := 2) (cs := [.int .i64 b.A, .int .i64 b.B, .int .i64 b.C, .int .i64 b.D]) (v := .int .i64 b.C) k_sc_3 rfl rfl (hS2.cf (i := 1) rfl) rfl) ?_
      refine sq 19 rfl rfl (Y_ne (k := .i64) (a := a.C) (b := b.C) rfl rfl rfl) ?_
      refine rw_nil ?_
      refine cw_cond (b := (a.C != b.C)) rfl (fun hb2 => ?_) (fun hb2 => ?_)
      · skip
        have hF5 := ct hF4 hb2
        refine cw_seq ?_
        refine cw_region ?_
        refine sq 4 rfl rfl (Y_assign (v := .bool false) rfl rfl) ?_
        refine rw_nil ?_
        refine cw_ret ?_
        obtain rfl := some_inj hF5
        exact ret1 Try.results138 (v1 := .bool false) (resAt_tmp rfl) ⟨rfl, (ST.subR (R' := []) (hS2.sel [] rfl rfl) (fun _ h => by cases h))⟩
      · skip
        have hF6 := cf' hF4 hb2
        refine cw_skip ?_
        refine cw_seq ?_
        refine cw_seq ?_
        refine cw_region ?_
        refine sq 20 rfl rfl (Y_fieldAddr (B := some ⟨b1, 0, none⟩) (i := 0) (s := 0) k_fd_42_3_3_3 k_sz_3_1 rfl rfl) ?_
        refine sq 21 rfl rfl (Y_load1 (B := some ⟨b1, 0, none⟩) (i := 3) (cs := [.int .i64 a.A, .int .i64 a.B, .int .i64 a.C, .int .i64 a.D]) (v := .int .i64 a.D) k_sc_3 rfl rfl (hS2.cf (i := 0) rfl) rfl) ?_
        refine sq 22 rfl rfl (Y_fieldAddr (B := some ⟨b2, 0, none⟩) (i := 0) (s := 0) k_fd_42_3_3_3 k_sz_3_1 rfl rfl) ?_
        refine sq 23 rfl rfl (Y_load1 (B := some ⟨b2, 0, none⟩) (i := 3) (cs := [.int .i64 b.A, .int .i64 b.B, .int .i64 b.C, .int .i64 b.D]) (v := .int .i64 b.D) k_sc_3 rfl rfl (hS2.cf (i := 1) rfl) rfl) ?_
        refine sq 24 rfl rfl (Y_ne (k := .i64) (a := a.D) (b := b.D) rfl rfl rfl) ?_
        refine rw_nil ?_
        refine cw_cond (b := (a.D != b.D)) rfl (fun hb3 => ?_) (fun hb3 => ?_)
        · skip
          have hF7 := ct hF6 hb3
          refine cw_seq ?_
          refine cw_region ?_
          refine sq 4 rfl rfl (Y_assign (v := .bool false) rfl rfl) ?_
          refine rw_nil ?_
          refine cw_ret ?_
          obtain rfl := some_inj hF7
          exact ret1 Try.results138 (v1 := .bool false) (resAt_tmp rfl) ⟨rfl, (ST.subR (R' := []) (hS2.sel [] rfl rfl) (fun _ h => by cases h))⟩
        · skip
          have hF8 := cf' hF6 hb3
          refine cw_skip ?_
          refine cw_seq ?_
          refine cw_region ?_
          refine sq 4 rfl rfl (Y_assign (v := .bool true) rfl rfl) ?_
          refine rw_nil ?_
          refine cw_ret ?_
          obtain rfl := some_inj hF8
          exact ret1 Try.results138 (v1 := .bool true) (resAt_tmp rfl) ⟨rfl, (ST.subR (R' := []) (hS2.sel [] rfl rfl) (fun _ h => by cases h))⟩

theorem c_laws_eqDyadic (a : TDyadic) (b : TDyadic)  (w0 : World)  (hS : ST w0 [] w0 [] []) {r_ : Bool} (hF : F_laws_eqDyadic a b = some r_) :
    CV Try.prog 106 #[.agg #[.int .i64 a.Num.A, .int .i64 a.Num.B, .int .i64 a.Num.C, .int .i64 a.Num.D, .int .i64 a.Exp], .agg #[.int .i64 b.Num.A, .int .i64 b.Num.B, .int .i64 b.Num.C, .int .i64 b.Num.D, .int .i64 b.Exp]] w0 (fun v w' => v = .bool r_ ∧ ST w0 [] w' [] []) := by
  unfold F_laws_eqDyadic at hF
  refine cv_of_cw 16 Try.func106 rfl Try.ntmps106 rfl ?_
  refine cw_seq ?_
  refine cw_region ?_
  refine ss 2 rfl rfl (Ys_box (T := 44) (v := .agg #[.int .i64 a.Num.A, .int .i64 a.Num.B, .int .i64 a.Num.C, .int .i64 a.Num.D, .int .i64 a.Exp]) (cs := [.int .i64 a.Num.A, .int .i64 a.Num.B, .int .i64 a.Num.C, .int .i64 a.Num.D, .int .i64 a.Exp]) (m := 5) hS rfl rfl rfl rfl) ?_
  rintro _ w_ ⟨b1, rfl, hS1⟩
  refine ss 3 rfl rfl (Ys_box (T := 44) (v := .agg #[.int .i64 b.Num.A, .int .i64 b.Num.B, .int .i64 b.Num.C, .int .i64 b.Num.D, .int .i64 b.Exp]) (cs := [.int .i64 b.Num.A, .int .i64 b.Num.B, .int .i64 b.Num.C, .int .i64 b.Num.D, .int .i64 b.Exp]) (m := 5) hS1 rfl rfl rfl rfl) ?_
  rintro _ w_1 ⟨b2, rfl, hS2⟩
  have hS2 : ST w0 [] _ [⟨some ⟨b1, 0, none⟩, 44, [.int .i64 a.Num.A, .int .i64 a.Num.B, .int .i64 a.Num.C, .int .i64 a.Num.D, .int .i64 a.Exp], 5⟩, ⟨some ⟨b2, 0, none⟩, 44, [.int .i64 b.Num.A, .int .i64 b.Num.B, .int .i64 b.Num.C, .int .i64 b.Num.D, .int .i64 b.Exp], 5⟩] [] := hS2
  refine sq 4 rfl rfl (Y_assign (v := .bool false) rfl rfl) ?_
  refine rw_nil ?_
  refine cw_seq ?_
  refine cw_seq ?_
  refine cw_region ?_
  refine sq 5 rfl rfl (Y_fieldAddr (B := some ⟨b1, 0, none⟩) (i := 0) (s := 3) k_fd_44_0_0_42 k_sz_42_4 rfl rfl) ?_
  refine sq 6 rfl rfl (Y_loadA (B := some ⟨b1, 0, none⟩) (i := 0) (cs := [.int .i64 a.Num.A, .int .i64 a.Num.B, .int .i64 a.Num.C, .int .i64 a.Num.D, .int .i64 a.Exp]) (vs := [.int .i64 a.Num.A, .int .i64 a.Num.B, .int .i64 a.Num.C, .int .i64 a.Num.D]) k_ag_42 k_sz_42_4 rfl rfl (hS2.cf (i := 0) rfl) rfl rfl) ?_
  refine sq 7 rfl rfl (Y_fieldAddr (B := some ⟨b2, 0, none⟩) (i := 0) (s := 3) k_fd_44_0_0_42 k_sz_42_4 rfl rfl) ?_
  refine sq 8 rfl rfl (Y_loadA (B := some ⟨b2, 0, none⟩) (i := 0) (cs := [.int .i64 b.Num.A, .int .i64 b.Num.B, .int .i64 b.Num.C, .int .i64 b.Num.D, .int .i64 b.Exp]) (vs := [.int .i64 b.Num.A, .int .i64 b.Num.B, .int .i64 b.Num.C, .int .i64 b.Num.D]) k_ag_42 k_sz_42_4 rfl rfl (hS2.cf (i := 1) rfl) rfl rfl) ?_
  obtain ⟨r_1, hc, hF⟩ := bind_inv hF
  refine sc 9 rfl rfl (Yc_func (g := 138) (vs := [.agg #[.int .i64 a.Num.A, .int .i64 a.Num.B, .int .i64 a.Num.C, .int .i64 a.Num.D], .agg #[.int .i64 b.Num.A, .int .i64 b.Num.B, .int .i64 b.Num.C, .int .i64 b.Num.D]]) k_call_138 rfl (mc rfl (mc rfl mn)) (c_laws_eqRing a.Num b.Num _  (hS2.inn0 [] rfl) hc)) ?_
  rintro _ w_2 ⟨rfl, hd⟩
  have hS3 := hS2.out00 hd
  have hS3 : ST w0 [] _ [⟨some ⟨b1, 0, none⟩, 44, [.int .i64 a.Num.A, .int .i64 a.Num.B, .int .i64 a.Num.C, .int .i64 a.Num.D, .int .i64 a.Exp], 5⟩, ⟨some ⟨b2, 0, none⟩, 44, [.int .i64 b.Num.A, .int .i64 b.Num.B, .int .i64 b.Num.C, .int .i64 b.Num.D, .int .i64 b.Exp], 5⟩] [] := hS3
  refine sq 10 rfl rfl (Y_not (p := r_1) rfl rfl) ?_
  refine rw_nil ?_
  refine cw_cond (b := (!r_1)) rfl (fun hb => ?_) (fun hb => ?_)
  · skip
    have hF1 := ct hF hb
    refine cw_seq ?_
    refine cw_region ?_
    refine sq 4 rfl rfl (Y_assign (v := .bool false) rfl rfl) ?_
    refine rw_nil ?_
    refine cw_ret ?_
    obtain rfl := some_inj hF1
    exact ret1 Try.results106 (v1 := .bool false) (resAt_tmp rfl) ⟨rfl, (ST.subR (R' := []) (hS3.sel [] rfl rfl) (fun _ h => by cases h))⟩
  · skip
    have hF2 := cf' hF hb
    refine cw_skip ?_
    refine cw_seq ?_
    refine cw_seq ?_
    refine cw_region ?_
    refine sq 11 rfl rfl (Y_fieldAddr (B := some ⟨b1, 0, none⟩) (i := 0) (s := 0) k_fd_44_1_4_3 k_sz_3_1 rfl rfl) ?_
    refine sq 12 rfl rfl (Y_load1 (B := some ⟨b1, 0, none⟩) (i := 4) (cs := [.int .i64 a.Num.A, .int .i64 a.Num.B, .int .i64 a.Num.C, .int .i64 a.Num.D, .int .i64 a.Exp]) (v := .int .i64 a.Exp) k_sc_3 rfl rfl (hS3.cf (i := 0) rfl) rfl) ?_
    refine sq 13 rfl rfl (Y_fieldAddr (B := some ⟨b2, 0, none⟩) (i := 0) (s := 0) k_fd_44_1_4_3 k_sz_3_1 rfl rfl) ?_
    refine sq 14 rfl rfl (Y_load1 (B := some ⟨b2, 0, none⟩) (i := 4) (cs := [.int .i64 b.Num.A, .int .i64 b.Num.B, .int .i64 b.Num.C, .int .i64 b.Num.D, .int .i64 b.Exp]) (v := .int .i64 b.Exp) k_sc_3 rfl rfl (hS3.cf (i := 1) rfl) rfl) ?_
    refine sq 15 rfl rfl (Y_ne (k := .i64) (a := a.Exp) (b := b.Exp) rfl rfl rfl) ?_
    refine rw_nil ?_
    refine cw_cond (b := (a.Exp != b.Exp)) rfl (fun hb1 => ?_) (fun hb1 => ?_)
    · skip
      have hF3 := ct hF2 hb1
      refine cw_seq ?_
      refine cw_region ?_
      refine sq 4 rfl rfl (Y_assign (v := .bool false) rfl rfl) ?_
      refine rw_nil ?_
      refine cw_ret ?_
      obtain rfl := some_inj hF3
      exact ret1 Try.results106 (v1 := .bool false) (resAt_tmp rfl) ⟨rfl, (ST.subR (R' := []) (hS3.sel [] rfl rfl) (fun _ h => by cases h))⟩
    · skip
      have hF4 := cf' hF2 hb1
      refine cw_skip ?_
      refine cw_seq ?_
      refine cw_region ?_
      refine sq 4 rfl rfl (Y_assign (v := .bool true) rfl rfl) ?_
      refine rw_nil ?_
      refine cw_ret ?_
      obtain rfl := some_inj hF4
      exact ret1 Try.results106 (v1 := .bool true) (resAt_tmp rfl) ⟨rfl, (ST.subR (R' := []) (hS3.sel [] rfl rfl) (fun _ h => by cases h))⟩

theorem c_laws_eqDyadicS (a : List TDyadic) (b : List TDyadic) (B : Option Addr) (c n : Nat) (B1 : Option Addr) (c1 n1 : Nat) (w0 : World) (hn : a.length = n) (hn1 : b.length = n1) (hS : ST w0 [] w0 [] [⟨B, (a.flatMap enc_Dyadic)⟩, ⟨B1, (b.flatMap enc_Dyadic)⟩]) {r_ : Bool} (hF : F_laws_eqDyadicS a b = some r_) :
    CV Try.prog 50 #[.slice B n c, .slice B1 n1 c1] w0 (fun v w' => v = .bool r_ ∧ ST w0 [] w' [] []) := by
  subst hn
  subst hn1
  unfold F_laws_eqDyadicS at hF
  refine cv_of_cw 27 Try.func50 rfl Try.ntmps50 rfl ?_
  refine cw_seq ?_
  refine cw_region ?_
  refine sq 4 rfl rfl (Y_assign (v := .bool false) rfl rfl) ?_
  refine rw_nil ?_
  refine cw_seq ?_
  refine cw_seq ?_
  refine cw_region ?_
  refine sq 6 rfl rfl (Y_move (v := .slice B a.length c) rfl rfl) ?_
  refine sq 7 rfl rfl (Y_len (B := B) (m := a.length) (c := c) k_sl_24_44 rfl rfl) ?_
  refine sq 8 rfl rfl (Y_move (v := .slice B1 b.length c1) rfl rfl) ?_
  refine sq 9 rfl rfl (Y_len (B := B1) (m := b.length) (c := c1) k_sl_24_44 rfl rfl) ?_
  refine sq 10 rfl rfl (Y_ne (k := .i64) (a := (a.length : Int)) (b := (b.length : Int)) rfl rfl rfl) ?_
  refine rw_nil ?_
  refine cw_cond (b := ((a.length : Int) != (b.length : Int))) rfl (fun hb => ?_) (fun hb => ?_)
  · skip
    have hF1 := ct hF hb
    refine cw_seq ?_
    refine cw_region ?_
    refine sq 4 rfl rfl (Y_assign (v := .bool false) rfl rfl) ?_
    refine rw_nil ?_
    refine cw_ret ?_
    obtain rfl := some_inj hF1
    exact ret1 Try.results50 (v1 := .bool false) (resAt_tmp rfl) ⟨rfl, (ST.subR (R' := []) (hS.sel [] rfl rfl) (fun _ h => by cases h))⟩
  · skip
    have hF2 := cf' hF hb
    refine cw_skip ?_
    refine cw_seq ?_
    refine cw_seq ?_
    refine cw_region ?_
    refine sq 5 rfl rfl (Y_assign (v := .int .i64 0) rfl rfl) ?_
    refine rw_nil ?_
    obtain ⟨hN, hF2⟩ := chk_inv hF2
    obtain ⟨z, hz, hF3⟩ := bind_inv hF2
    refine cw_block ?_
    refine cw_loop (fun k f w => ∃ (i1 : Nat), FF f [(0, .slice B a.length c), (1, .slice B1 b.length c1), (5, .int .i64 (i1 : Int))] ∧ ST w0 [] w [] [⟨B, (a.flatMap enc_Dyadic)⟩, ⟨B1, (b.flatMap enc_Dyadic)⟩] ∧ i1 + k = a.length ∧ forX (F_laws_eqDyadicS_l1 a b) k i1 () = some z) a.length ⟨0, (FF.cons rfl (FF.cons rfl (FF.cons rfl FF.nil))), (hS.sel [] rfl rfl), Nat.zero_add _, hz⟩ ?_
    rintro k_ f w ⟨i1, hf, hS1, hik, hL⟩
    refine cw_seq ?_
    refine cw_seq ?_
    refine cw_region ?_
    refine sq 11 rfl rfl (Y_move (v := .int .i64 (i1 : Int)) rfl (hf.get 5 2 rfl)) ?_
    refine sq 12 rfl rfl (Y_move (v := .slice B a.length c) rfl (hf.get 0 0 rfl)) ?_
    refine sq 13 rfl rfl (Y_len (B := B) (m := a.length) (c := c) k_sl_24_44 rfl rfl) ?_
    refine sq 14 rfl rfl (Y_lt (k := .i64) (a := (i1 : Int)) (b := (a.length : Int)) rfl rfl rfl) ?_
    refine rw_nil ?_
    refine cw_cond (b := (decide ((i1 : Int) < (a.length : Int)))) rfl (fun hlt => ?_) (fun hlt => ?_)
    · skip
      have hlt1 : i1 < a.length := by have h := of_decide_eq_true hlt; omega
      obtain ⟨k_1, rfl⟩ : ∃ k2, k_ = k2 + 1 := ⟨k_ - 1, by omega⟩
      obtain ⟨y, hb1, hL1⟩ := forX_go hL
      unfold F_laws_eqDyadicS_l1 at hb1
      refine cw_skip ?_
      refine cw_seq ?_
      refine cw_block ?_
      refine cw_seq ?_
      obtain ⟨x, hx, hb1⟩ := bind_inv hb1
      obtain ⟨x1, hx1, hb1⟩ := bind_inv hb1
      obtain ⟨r_1, hc, hb1⟩ := bind_inv hb1
      refine ra_start (ST.sel hS1 [] rfl rfl).fn (by kernel_rfl) ?_
      have hS3 := hS1.drew
      refine ra_q 0 17 (v := .slice B a.length c) rfl rfl rfl (by kernel_rfl) (by kernel_rfl) (by kernel_rfl) (ST.sel hS3 [] rfl rfl) (fun w' hw' => (Y_move (v := .slice B a.length c) rfl (hf.get 0 0 rfl))) ?_
      refine ra_q 1 18 (v := .int .i64 (i1 : Int)) rfl rfl rfl (by kernel_rfl) (by kernel_rfl) (by kernel_rfl) (ST.sel hS3 [] rfl rfl) (fun w' hw' => (Y_move (v := .int .i64 (i1 : Int)) rfl (hf.get 5 2 rfl))) ?_
      refine ra_q 2 19 (v := pt B ((i1 : Int).toNat * 5)) rfl rfl rfl (by kernel_rfl) (by kernel_rfl) (by kernel_rfl) (ST.sel hS3 [] rfl rfl) (fun w' hw' => (Y_index (B := B) (m := a.length) (c := c) (k := .i64) (i := (i1 : Int)) k_sl_24_44 k_sz_44_5 rfl rfl rfl (gi_isSome enc_Dyadic_len rfl (ST.rf hw' (i := 0) rfl) hx) (getI_nn hx) (getI_ltI hx rfl))) ?_
      refine ra_q 3 20 (v := .agg #[.int .i64 x.Num.A, .int .i64 x.Num.B, .int .i64 x.Num.C, .int .i64 x.Num.D, .int .i64 x.Exp]) rfl rfl rfl (by kernel_rfl) (by kernel_rfl) (by kernel_rfl) (ST.sel hS3 [] rfl rfl) (fun w' hw' => (Y_loadA (B := B) (i := (i1 : Int).toNat * 5) (cs := (a.flatMap enc_Dyadic)) (vs := [.int .i64 x.Num.A, .int .i64 x.Num.B, .int .i64 x.Num.C, .int .i64 x.Num.D, .int .i64 x.Exp]) k_ag_44 k_sz_44_5 rfl rfl (ST.rf hw' (i := 0) rfl) (enc_Dyadic_len x) (gi_seg enc_Dyadic_len hx))) ?_
      refine ra_q 4 21 (v := .slice B1 b.length c1) rfl rfl rfl (by kernel_rfl) (by kernel_rfl) (by kernel_rfl) (ST.sel hS3 [] rfl rfl) (fun w' hw' => (Y_move (v := .slice B1 b.length c1) rfl (hf.get 1 1 rfl))) ?_
      refine ra_q 5 22 (v := .int .i64 (i1 : Int)) rfl rfl rfl (by kernel_rfl) (by kernel_rfl) (by kernel_rfl) (ST.sel hS3 [] rfl rfl) (fun w' hw' => (Y_move (v := .int .i64 (i1 : Int)) rfl (hf.get 5 2 rfl))) ?_
      refine ra_q 6 23 (v := pt B1 ((i1 : Int).toNat * 5)) rfl rfl rfl (by kernel_rfl) (by kernel_rfl) (by kernel_rfl) (ST.sel hS3 [] rfl rfl) (fun w' hw' => (Y_index (B := B1) (m := b.length) (c := c1) (k := .i64) (i := (i1 : Int)) k_sl_24_44 k_sz_44_5 rfl rfl rfl (gi_isSome enc_Dyadic_len rfl (ST.rf hw' (i := 1) rfl) hx1) (getI_nn hx1) (getI_ltI hx1 rfl))) ?_
      refine ra_q 7 24 (v := .agg #[.int .i64 x1.Num.A, .int .i64 x1.Num.B, .int .i64 x1.Num.C, .int .i64 x1.Num.D, .int .i64 x1.Exp]) rfl rfl rfl (by kernel_rfl) (by kernel_rfl) (by kernel_rfl) (ST.sel hS3 [] rfl rfl) (fun w' hw' => (Y_loadA (B := B1) (i := (i1 : Int).toNat * 5) (cs := (b.flatMap enc_Dyadic)) (vs := [.int .i64 x1.Num.A, .int .i64 x1.Num.B, .int .i64 x1.Num.C, .int .i64 x1.Num.D, .int .i64 x1.Exp]) k_ag_44 k_sz_44_5 rfl rfl (ST.rf hw' (i := 1) rfl) (enc_Dyadic_len x1) (gi_seg enc_Dyadic_len hx1))) ?_
      refine ra_all (rs := [8]) (by kernel_rfl) rfl ?_
      refine ra_c 25 (i := 8) rfl rfl rfl (Yc_func (g := 106) (vs := [.agg #[.int .i64 x.Num.A, .int .i64 x.Num.B, .int .i64 x.Num.C, .int .i64 x.Num.D, .int .i64 x.Exp], .agg #[.int .i64 x1.Num.A, .int .i64 x1.Num.B, .int .i64 x1.Num.C, .int .i64 x1.Num.D, .int .i64 x1.Exp]]) k_call_106 rfl (mc rfl (mc rfl mn)) (c_laws_eqDyadic x x1 _  (hS3.inn0 [] rfl) hc)) ?_ ?_
      · rintro _ w_ ⟨rfl, hd⟩
        have hS4 := hS3.out00 hd
        refine ⟨(ST.sel hS4 [] rfl rfl), ?_⟩
        refine ra_q 9 26 (v := .bool (!r_1)) rfl rfl rfl (by kernel_rfl) (by kernel_rfl) (by kernel_rfl) (ST.sel hS4 [] rfl rfl) (fun w' hw' => (Y_not (p := r_1) rfl rfl)) ?_
        refine ra_done (by kernel_rfl) ?_
        refine cw_cond (b := (!r_1)) rfl (fun hb2 => ?_) (fun hb2 => ?_)
        · skip
          have hF4 := ct hb1 hb2
          refine cw_seq ?_
          refine cw_region ?_
          refine sq 4 rfl rfl (Y_assign (v := .bool false) rfl rfl) ?_
          refine rw_nil ?_
          refine cw_ret ?_
          obtain rfl := some_inj hF4
          obtain rfl := some_inj hL1
          obtain rfl := some_inj hF3
          exact ret1 Try.results50 (v1 := .bool false) (resAt_tmp rfl) ⟨rfl, (ST.subR (R' := []) (hS4.sel [] rfl rfl) (fun _ h => by cases h))⟩
        · skip
          have hF5 := cf' hb1 hb2
          refine cw_skip ?_
          refine cw_region ?_
          refine sq 15 rfl rfl (Y_move (v := .int .i64 (i1 : Int)) rfl (hf.get 5 2 rfl)) ?_
          refine sq 16 rfl rfl (Y_add (k := .i64) (a := (i1 : Int)) (b := 1) rfl rfl rfl) ?_
          refine sq 5 rfl rfl (Y_assign (v := .int .i64 (IntKind.i64.wrap ((i1 : Int) + 1))) rfl rfl) ?_
          refine rw_nil ?_
          obtain rfl := some_inj hF5
          exact ⟨k_1, Nat.lt_succ_self _, i1 + 1, (FF.cons (hf.get 0 0 rfl) (FF.cons (hf.get 1 1 rfl) (FF.cons (congrArg (Value.int .i64) (wr_succ hlt1 hN)) FF.nil))), (hS4.sel [] rfl rfl), (by omega), hL1⟩
      exact allR_nil
    · skip
      obtain rfl : k_ = 0 := by have h := of_decide_eq_false hlt; omega
      refine cw_exit rfl ?_
      obtain rfl := some_inj hL
      refine cw_seq ?_
      refine cw_region ?_
      refine sq 4 rfl rfl (Y_assign (v := .bool true) rfl rfl) ?_
      refine rw_nil ?_
      refine cw_ret ?_
      obtain rfl := some_inj hF3
      exact ret1 Try.results50 (v1 := .bool true) (resAt_tmp rfl) ⟨rfl, (ST.subR (R' := []) (hS1.sel [] rfl rfl) (fun _ h => by cases h))⟩

theorem c_laws_eqMatrix (a : TMatrix) (b : TMatrix) (B : Option Addr) (c n : Nat) (B1 : Option Addr) (c1 n1 : Nat) (w0 : World) (hn : a.Cells.length = n) (hn1 : b.Cells.length = n1) (hS : ST w0 [] w0 [] [⟨B, (a.Cells.flatMap enc_Dyadic)⟩, ⟨B1, (b.Cells.flatMap enc_Dyadic)⟩]) {r_ : Bool} (hF : F_laws_eqMatrix a b = some r_) :
    CV Try.prog 10 #[.agg #[.int .i64 a.Rows, .int .i64 a.Cols, .slice B n c], .agg #[.int .i64 b.Rows, .int .i64 b.Cols, .slice B1 n1 c1]] w0 (fun v w' => v = .bool r_ ∧ ST w0 [] w' [] []) := by
  subst hn
  subst hn1
  unfold F_laws_eqMatrix at hF
  refine cv_of_cw 21 Try.func10 rfl Try.ntmps10 rfl ?_
  refine cw_seq ?_
  refine cw_region ?_
  refine ss 2 rfl rfl (Ys_box (T := 26) (v := .agg #[.int .i64 a.Rows, .int .i64 a.Cols, .slice B a.Cells.length c]) (cs := [.int .i64 a.Rows, .int .i64 a.Cols, .slice B a.Cells.length c]) (m := 3) hS rfl rfl rfl rfl) ?_
  rintro _ w_ ⟨b1, rfl, hS1⟩
  refine ss 3 rfl rfl (Ys_box (T := 26) (v := .agg #[.int .i64 b.Rows, .int .i64 b.Cols, .slice B1 b.Cells.length c1]) (cs := [.int .i64 b.Rows, .int .i64 b.Cols, .slice B1 b.Cells.length c1]) (m := 3) hS1 rfl rfl rfl rfl) ?_
  rintro _ w_1 ⟨b2, rfl, hS2⟩
  have hS2 : ST w0 [] _ [⟨some ⟨b1, 0, none⟩, 26, [.int .i64 a.Rows, .int .i64 a.Cols, .slice B a.Cells.length c], 3⟩, ⟨some ⟨b2, 0, none⟩, 26, [.int .i64 b.Rows, .int .i64 b.Cols, .slice B1 b.Cells.length c1], 3⟩] [⟨B, (a.Cells.flatMap enc_Dyadic)⟩, ⟨B1, (b.Cells.flatMap enc_Dyadic)⟩] := hS2
  refine sq 4 rfl rfl (Y_assign (v := .bool false) rfl rfl) ?_
  refine rw_nil ?_
  refine cw_seq ?_
  refine cw_seq ?_
  refine cw_region ?_
  refine sq 5 rfl rfl (Y_fieldAddr (B := some ⟨b1, 0, none⟩) (i := 0) (s := 0) k_fd_26_0_0_3 k_sz_3_1 rfl rfl) ?_
  refine sq 6 rfl rfl (Y_load1 (B := some ⟨b1, 0, none⟩) (i := 0) (cs := [.int .i64 a.Rows, .int .i64 a.Cols, .slice B a.Cells.length c]) (v := .int .i64 a.Rows) k_sc_3 rfl rfl (hS2.cf (i := 0) rfl) rfl) ?_
  refine sq 7 rfl rfl (Y_fieldAddr (B := some ⟨b2, 0, none⟩) (i := 0) (s := 0) k_fd_26_0_0_3 k_sz_3_1 rfl rfl) ?_
  refine sq 8 rfl rfl (Y_load1 (B := some ⟨b2, 0, none⟩) (i := 0) (cs := [.int .i64 b.Rows, .int .i64 b.Cols, .slice B1 b.Cells.length c1]) (v := .int .i64 b.Rows) k_sc_3 rfl rfl (hS2.cf (i := 1) rfl) rfl) ?_
  refine sq 9 rfl rfl (Y_ne (k := .i64) (a := a.Rows) (b := b.Rows) rfl rfl rfl) ?_
  refine rw_nil ?_
  refine cw_cond (b := (a.Rows != b.Rows)) rfl (fun hb => ?_) (fun hb => ?_)
  · skip
    have hF1 := ct hF hb
    refine cw_seq ?_
    refine cw_region ?_
    refine sq 4 rfl rfl (Y_assign (v := .bool false) rfl rfl) ?_
    refine rw_nil ?_
    refine cw_ret ?_
    obtain rfl := some_inj hF1
    exact ret1 Try.results10 (v1 := .bool false) (resAt_tmp rfl) ⟨rfl, (ST.subR (R' := []) (hS2.sel [] rfl rfl) (fun _ h => by cases h))⟩
  · skip
    have hF2 := cf' hF hb
    refine cw_skip ?_
    refine cw_seq ?_
    refine cw_seq ?_
    refine cw_region ?_
    refine sq 10 rfl rfl (Y_fieldAddr (B := some ⟨b1, 0, none⟩) (i := 0) (s := 0) k_fd_26_1_1_3 k_sz_3_1 rfl rfl) ?_
    refine sq 11 rfl rfl (Y_load1 (B := some ⟨b1, 0, none⟩) (i := 1) (cs := [.int .i64 a.Rows, .int .i64 a.Cols, .slice B a.Cells.length c]) (v := .int .i64 a.Cols) k_sc_3 rfl rfl (hS2.cf (i := 0) rfl) rfl) ?_
    refine sq 12 rfl rfl (Y_fieldAddr (B := some ⟨b2, 0, none⟩) (i := 0) (s := 0) k_fd_26_1_1_3 k_sz_3_1 rfl rfl) ?_
    refine sq 13 rfl rfl (Y_load1 (B := some ⟨b2, 0, none⟩) (i := 1) (cs := [.int .i64 b.Rows, .int .i64 b.Cols, .slice B1 b.Cells.length c1]) (v := .int .i64 b.Cols) k_sc_3 rfl rfl (hS2.cf (i := 1) rfl) rfl) ?_
    refine sq 14 rfl rfl (Y_ne (k := .i64) (a := a.Cols) (b := b.Cols) rfl rfl rfl) ?_
    refine rw_nil ?_
    refine cw_cond (b := (a.Cols != b.Cols)) rfl (fun hb1 => ?_) (fun hb1 => ?_)
    · skip
      have hF3 := ct hF2 hb1
      refine cw_seq ?_
      refine cw_region ?_
      refine sq 4 rfl rfl (Y_assign (v := .bool false) rfl rfl) ?_
      refine rw_nil ?_
      refine cw_ret ?_
      obtain rfl := some_inj hF3
      exact ret1 Try.results10 (v1 := .bool false) (resAt_tmp rfl) ⟨rfl, (ST.subR (R' := []) (hS2.sel [] rfl rfl) (fun _ h => by cases h))⟩
    · skip
      have hF4 := cf' hF2 hb1
      refine cw_skip ?_
      refine cw_seq ?_
      refine cw_seq ?_
      refine cw_region ?_
      refine sq 15 rfl rfl (Y_fieldAddr (B := some ⟨b1, 0, none⟩) (i := 0) (s := 0) k_fd_26_2_2_24 k_sz_24_1 rfl rfl) ?_
      refine sq 16 rfl rfl (Y_load1 (B := some ⟨b1, 0, none⟩) (i := 2) (cs := [.int .i64 a.Rows, .int .i64 a.Cols, .slice B a.Cells.length c]) (v := .slice B a.Cells.length c) k_sc_24 rfl rfl (hS2.cf (i := 0) rfl) rfl) ?_
      refine sq 17 rfl rfl (Y_fieldAddr (B := some ⟨b2, 0, none⟩) (i := 0) (s := 0) k_fd_26_2_2_24 k_sz_24_1 rfl rfl) ?_
      refine sq 18 rfl rfl (Y_load1 (B := some ⟨b2, 0, none⟩) (i := 2) (cs := [.int .i64 b.Rows, .int .i64 b.Cols, .slice B1 b.Cells.length c1]) (v := .slice B1 b.Cells.length c1) k_sc_24 rfl rfl (hS2.cf (i := 1) rfl) rfl) ?_
      obtain ⟨r_1, hc, hF4⟩ := bind_inv hF4
      refine sc 19 rfl rfl (Yc_func (g := 50) (vs := [.slice B a.Cells.length c, .slice B1 b.Cells.length c1]) k_call_50 rfl (mc rfl (mc rfl mn)) (c_laws_eqDyadicS a.Cells b.Cells B c a.Cells.length B1 c1 b.Cells.length _ rfl rfl (hS2.inn0 [(true, 0), (true, 1)] rfl) hc)) ?_
      rintro _ w_2 ⟨rfl, hd⟩
      have hS3 := hS2.out00 hd
      have hS3 : ST w0 [] _ [⟨some ⟨b1, 0, none⟩, 26, [.int .i64 a.Rows, .int .i64 a.Cols, .slice B a.Cells.length c], 3⟩, ⟨some ⟨b2, 0, none⟩, 26, [.int .i64 b.Rows, .int .i64 b.Cols, .slice B1 b.Cells.length c1], 3⟩] [⟨B, (a.Cells.flatMap enc_Dyadic)⟩, ⟨B1, (b.Cells.flatMap enc_Dyadic)⟩] := hS3
      refine sq 20 rfl rfl (Y_not (p := r_1) rfl rfl) ?_
      refine rw_nil ?_
      refine cw_cond (b := (!r_1)) rfl (fun hb2 => ?_) (fun hb2 => ?_)
      · skip
        have hF5 := ct hF4 hb2
        refine cw_seq ?_
        refine cw_region ?_
        refine sq 4 rfl rfl (Y_assign (v := .bool false) rfl rfl) ?_
        refine rw_nil ?_
        refine cw_ret ?_
        obtain rfl := some_inj hF5
        exact ret1 Try.results10 (v1 := .bool false) (resAt_tmp rfl) ⟨rfl, (ST.subR (R' := []) (hS3.sel [] rfl rfl) (fun _ h => by cases h))⟩
      · skip
        have hF6 := cf' hF4 hb2
        refine cw_skip ?_
        refine cw_seq ?_
        refine cw_region ?_
        refine sq 4 rfl rfl (Y_assign (v := .bool true) rfl rfl) ?_
        refine rw_nil ?_
        refine cw_ret ?_
        obtain rfl := some_inj hF6
        exact ret1 Try.results10 (v1 := .bool true) (resAt_tmp rfl) ⟨rfl, (ST.subR (R' := []) (hS3.sel [] rfl rfl) (fun _ h => by cases h))⟩

theorem c_laws_markDyadicS (a : List TDyadic) (k_ : Int) (B : Option Addr) (c n : Nat) (w0 : World) (hn : a.length = n) (hS : ST w0 (bl [⟨B, 44, (a.flatMap enc_Dyadic), c * 5⟩]) w0 [⟨B, 44, (a.flatMap enc_Dyadic), c * 5⟩] []) {r_ : Int} {m : List TDyadic} (hF : F_laws_markDyadicS a k_ = some (r_, m)) :
    CV Try.prog 51 #[.slice B n c, .int .i64 k_] w0 (fun v w' => v = .int .i64 r_ ∧ m.length = n ∧ ST w0 (bl [⟨B, 44, (a.flatMap enc_Dyadic), c * 5⟩]) w' [⟨B, 44, (m.flatMap enc_Dyadic), c * 5⟩] []) := by
  subst hn
  unfold F_laws_markDyadicS at hF
  refine cv_of_cw 52 Try.func51 rfl Try.ntmps51 rfl ?_
  refine cw_seq ?_
  refine cw_region ?_
  refine sq 4 rfl rfl (Y_assign (v := .int .i64 0) rfl rfl) ?_
  refine rw_nil ?_
  refine cw_seq ?_
  refine cw_seq ?_
  refine cw_region ?_
  refine sq 5 rfl rfl (Y_assign (v := .int .i64 0) rfl rfl) ?_
  refine rw_nil ?_
  obtain ⟨hN, hF⟩ := chk_inv hF
  obtain ⟨z, hz, hF1⟩ := bind_inv hF
  refine cw_block ?_
  refine cw_loop (fun k f w => ∃ (i1 : Nat) (m1 : List TDyadic) (k_1 : Int), FF f [(0, .slice B a.length c), (1, .int .i64 k_1), (5, .int .i64 (i1 : Int))] ∧ m1.length = a.length ∧ ST w0 (bl [⟨B, 44, (a.flatMap enc_Dyadic), c * 5⟩]) w [⟨B, 44, (m1.flatMap enc_Dyadic), c * 5⟩] [] ∧ i1 + k = a.length ∧ forN F_laws_markDyadicS_l1 k i1 (m1, k_1) = some z) a.length ⟨0, a, k_, (FF.cons rfl (FF.cons rfl (FF.cons rfl FF.nil))), rfl, (hS.sel [0] rfl rfl), Nat.zero_add _, hz⟩ ?_
  rintro k_2 f w ⟨i1, m1, k_1, hf, hl, hS1, hik, hL⟩
  refine cw_seq ?_
  refine cw_seq ?_
  refine cw_region ?_
  refine sq 6 rfl rfl (Y_move (v := .int .i64 (i1 : Int)) rfl (hf.get 5 2 rfl)) ?_
  refine sq 7 rfl rfl (Y_move (v := .slice B a.length c) rfl (hf.get 0 0 rfl)) ?_
  refine sq 8 rfl rfl (Y_len (B := B) (m := a.length) (c := c) k_sl_24_44 rfl rfl) ?_
  refine sq 9 rfl rfl (Y_lt (k := .i64) (a := (i1 : Int)) (b := (a.length : Int)) rfl rfl rfl) ?_
  refine rw_nil ?_
  refine cw_cond (b := (decide ((i1 : Int) < (a.length : Int)))) rfl (fun hlt => ?_) (fun hlt => ?_)
  · skip
    have hlt1 : i1 < a.length := by have h := of_decide_eq_true hlt; omega
    obtain ⟨k_3, rfl⟩ : ∃ k2, k_2 = k2 + 1 := ⟨k_2 - 1, by omega⟩
    obtain ⟨y, hb, hL1⟩ := forN_go hL
    unfold F_laws_markDyadicS_l1 at hb
    refine cw_skip ?_
    refine cw_seq ?_
    refine cw_block ?_
    refine cw_seq ?_
    refine cw_region ?_
    refine sq 12 rfl rfl (Y_move (v := .slice B a.length c) rfl (hf.get 0 0 rfl)) ?_
    refine sq 13 rfl rfl (Y_move (v := .int .i64 (i1 : Int)) rfl (hf.get 5 2 rfl)) ?_
    refine sq 14 rfl rfl (Y_move (v := .int .i64 k_1) rfl (hf.get 1 1 rfl)) ?_
    obtain ⟨x, hx, hb⟩ := bind_inv hb
    refine sq 15 rfl rfl (Y_index (B := B) (m := a.length) (c := c) (k := .i64) (i := (i1 : Int)) k_sl_24_44 k_sz_44_5 rfl rfl rfl (gi_isSome enc_Dyadic_len rfl (hS1.cf (i := 0) rfl) hx) (getI_nn hx) (getI_ltI hx hl)) ?_
    refine sq 16 rfl rfl (Y_fieldAddr (B := B) (i := (i1 : Int).toNat * 5) (s := 3) k_fd_44_0_0_42 k_sz_42_4 rfl rfl) ?_
    refine sq 17 rfl rfl (Y_fieldAddr2 (B := B) (i := (i1 : Int).toNat * 5) (e := 0) (l := 0) (s := 0) k_fd_42_0_0_3 k_sz_3_1 rfl rfl rfl) ?_
    refine ss0 rfl rfl (Ys_store (i := 0) (s := 1) (B := B) (T' := 44) (v := .int .i64 k_1) (vs := [.int .i64 k_1]) (k := (i1 : Int).toNat * 5 + 0) (cs' := ((m1.set (i1 : Int).toNat (TDyadic.mk (TRing.mk k_1 x.Num.B x.Num.C x.Num.D) x.Exp)).flatMap enc_Dyadic)) hS1 k_sz_3_1 rfl rfl rfl rfl rfl rfl rfl (gi_fit enc_Dyadic_len hx (j := 0) (k := 1) (by decide)) (gi_setf enc_Dyadic_len hx (TDyadic.mk (TRing.mk k_1 x.Num.B x.Num.C x.Num.D) x.Exp) rfl (Nat.le_of_ble_eq_true rfl)) rfl) ?_
    rintro _ w_ ⟨rfl, hS2⟩
    refine rw_nil ?_
    refine cw_seq ?_
    refine cw_region ?_
    refine sq 18 rfl rfl (Y_move (v := .int .i64 k_1) rfl (hf.get 1 1 rfl)) ?_
    refine sq 19 rfl rfl (Y_add (k := .i64) (a := k_1) (b := 1) rfl rfl rfl) ?_
    refine sq 1 rfl rfl (Y_assign (v := .int .i64 (IntKind.i64.wrap (k_1 + 1))) rfl rfl) ?_
    refine rw_nil ?_
    refine cw_seq ?_
    refine cw_region ?_
    refine sq 20 rfl rfl (Y_move (v := .slice B a.length c) rfl (hf.get 0 0 rfl)) ?_
    refine sq 21 rfl rfl (Y_move (v := .int .i64 (i1 : Int)) rfl (hf.get 5 2 rfl)) ?_
    refine sq 22 rfl rfl (Y_move (v := .int .i64 (IntKind.i64.wrap (k_1 + 1))) rfl rfl) ?_
    refine sq 23 rfl rfl (Y_index (B := B) (m := a.length) (c := c) (k := .i64) (i := (i1 : Int)) k_sl_24_44 k_sz_44_5 rfl rfl rfl (gi_isSome enc_Dyadic_len rfl (hS2.cf (i := 0) rfl) (getI_set (y := (TDyadic.mk (TRing.mk k_1 x.Num.B x.Num.C x.Num.D) x.Exp)) hx)) (getI_nn (getI_set (y := (TDyadic.mk (TRing.mk k_1 x.Num.B x.Num.C x.Num.D) x.Exp)) hx)) (getI_ltI (getI_set (y := (TDyadic.mk (TRing.mk k_1 x.Num.B x.Num.C x.Num.D) x.Exp)) hx) (set_len _ _ _ hl))) ?_
    refine sq 24 rfl rfl (Y_fieldAddr (B := B) (i := (i1 : Int).toNat * 5) (s := 3) k_fd_44_0_0_42 k_sz_42_4 rfl rfl) ?_
    refine sq 25 rfl rfl (Y_fieldAddr2 (B := B) (i := (i1 : Int).toNat * 5) (e := 0) (l := 1) (s := 0) k_fd_42_1_1_3 k_sz_3_1 rfl rfl rfl) ?_
    refine ss0 rfl rfl (Ys_store (i := 0) (s := 1) (B := B) (T' := 44) (v := .int .i64 (IntKind.i64.wrap (k_1 + 1))) (vs := [.int .i64 (IntKind.i64.wrap (k_1 + 1))]) (k := (i1 : Int).toNat * 5 + 1) (cs' := (((m1.set (i1 : Int).toNat (TDyadic.mk (TRing.mk k_1 x.Num.B x.Num.C x.Num.D) x.Exp)).set (i1 : Int).toNat (TDyadic.mk (TRing.mk k_1 (IntKind.i64.wrap (k_1 + 1)) x.Num.C x.Num.D) x.Exp)).flatMap enc_Dyadic)) hS2 k_sz_3_1 rfl rfl rfl rfl rfl rfl rfl (gi_fit enc_Dyadic_len (getI_set (y := (TDyadic.mk (TRing.mk k_1 x.Num.B x.Num.C x.Num.D) x.Exp)) hx) (j := 1) (k := 1) (by decide)) (gi_setf enc_Dyadic_len (getI_set (y := (TDyadic.mk (TRing.mk k_1 x.Num.B x.Num.C x.Num.D) x.Exp)) hx) (TDyadic.mk (TRing.mk k_1 (IntKind.i64.wrap (k_1 + 1)) x.Num.C x.Num.D) x.Exp) rfl (Nat.le_of_ble_eq_true rfl)) rfl) ?_
    rintro _ w_1 ⟨rfl, hS3⟩
    refine rw_nil ?_
    refine cw_seq ?_
    refine cw_region ?_
    refine sq 26 rfl rfl (Y_move (v := .int .i64 (IntKind.i64.wrap (k_1 + 1))) rfl rfl) ?_
    refine sq 27 rfl rfl (Y_add (k := .i64) (a := (IntKind.i64.wrap (k_1 + 1))) (b := 1) rfl rfl rfl) ?_
    refine sq 1 rfl rfl (Y_assign (v := .int .i64 (IntKind.i64.wrap ((IntKind.i64.wrap (k_1 + 1)) + 1))) rfl rfl) ?_
    refine rw_nil ?_
    refine cw_seq ?_
    refine cw_region ?_
    refine sq 28 rfl rfl (Y_move (v := .slice B a.length c) rfl (hf.get 0 0 rfl)) ?_
    refine sq 29 rfl rfl (Y_move (v := .int .i64 (i1 : Int)) rfl (hf.get 5 2 rfl)) ?_
    refine sq 30 rfl rfl (Y_move (v := .int .i64 (IntKind.i64.wrap ((IntKind.i64.wrap (k_1 + 1)) + 1))) rfl rfl) ?_
    refine sq 31 rfl rfl (Y_index (B := B) (m := a.length) (c := c) (k := .i64) (i := (i1 : Int)) k_sl_24_44 k_sz_44_5 rfl rfl rfl (gi_isSome enc_Dyadic_len rfl (hS3.cf (i := 0) rfl) (getI_set (y := (TDyadic.mk (TRing.mk k_1 (IntKind.i64.wrap (k_1 + 1)) x.Num.C x.Num.D) x.Exp)) (getI_set (y := (TDyadic.mk (TRing.mk k_1 x.Num.B x.Num.C x.Num.D) x.Exp)) hx))) (getI_nn (getI_set (y := (TDyadic.mk (TRing.mk k_1 (IntKind.i64.wrap (k_1 + 1)) x.Num.C x.Num.D) x.Exp)) (getI_set (y := (TDyadic.mk (TRing.mk k_1 x.Num.B x.Num.C x.Num.D) x.Exp)) hx))) (getI_ltI (getI_set (y := (TDyadic.mk (TRing.mk k_1 (IntKind.i64.wrap (k_1 + 1)) x.Num.C x.Num.D) x.Exp)) (getI_set (y := (TDyadic.mk (TRing.mk k_1 x.Num.B x.Num.C x.Num.D) x.Exp)) hx)) (set_len _ _ _ (set_len _ _ _ hl)))) ?_
    refine sq 32 rfl rfl (Y_fieldAddr (B := B) (i := (i1 : Int).toNat * 5) (s := 3) k_fd_44_0_0_42 k_sz_42_4 rfl rfl) ?_
    refine sq 33 rfl rfl (Y_fieldAddr2 (B := B) (i := (i1 : Int).toNat * 5) (e := 0) (l := 2) (s := 0) k_fd_42_2_2_3 k_sz_3_1 rfl rfl rfl) ?_
    refine ss0 rfl rfl (Ys_store (i := 0) (s := 1) (B := B) (T' := 44) (v := .int .i64 (IntKind.i64.wrap ((IntKind.i64.wrap (k_1 + 1)) + 1))) (vs := [.int .i64 (IntKind.i64.wrap ((IntKind.i64.wrap (k_1 + 1)) + 1))]) (k := (i1 : Int).toNat * 5 + 2) (cs' := ((((m1.set (i1 : Int).toNat (TDyadic.mk (TRing.mk k_1 x.Num.B x.Num.C x.Num.D) x.Exp)).set (i1 : Int).toNat (TDyadic.mk (TRing.mk k_1 (IntKind.i64.wrap (k_1 + 1)) x.Num.C x.Num.D) x.Exp)).set (i1 : Int).toNat (TDyadic.mk (TRing.mk k_1 (IntKind.i64.wrap (k_1 + 1)) (IntKind.i64.wrap ((IntKind.i64.wrap (k_1 + 1)) + 1)) x.Num.D) x.Exp)).flatMap enc_Dyadic)) hS3 k_sz_3_1 rfl rfl rfl rfl rfl rfl rfl (gi_fit enc_Dyadic_len (getI_set (y := (TDyadic.mk (TRing.mk k_1 (IntKind.i64.wrap (k_1 + 1)) x.Num.C x.Num.D) x.Exp)) (getI_set (y := (TDyadic.mk (TRing.mk k_1 x.Num.B x.Num.C x.Num.D) x.Exp)) hx)) (j := 2) (k := 1) (by decide)) (gi_setf enc_Dyadic_len (getI_set (y := (TDyadic.mk (TRing.mk k_1 (IntKind.i64.wrap (k_1 + 1)) x.Num.C x.Num.D) x.Exp)) (getI_set (y := (TDyadic.mk (TRing.mk k_1 x.Num.B x.Num.C x.Num.D) x.Exp)) hx)) (TDyadic.mk (TRing.mk k_1 (IntKind.i64.wrap (k_1 + 1)) (IntKind.i64.wrap ((IntKind.i64.wrap (k_1 + 1)) + 1)) x.Num.D) x.Exp) rfl (Nat.le_of_ble_eq_true rfl)) rfl) ?_
    rintro _ w_2 ⟨rfl, hS4⟩
    refine rw_nil ?_
    refine cw_seq ?_
    refine cw_region ?_
    refine sq 34 rfl rfl (Y_move (v := .int .i64 (IntKind.i64.wrap ((IntKind.i64.wrap (k_1 + 1)) + 1))) rfl rfl) ?_
    refine sq 35 rfl rfl (Y_add (k := .i64) (a := (IntKind.i64.wrap ((IntKind.i64.wrap (k_1 + 1)) + 1))) (b := 1) rfl rfl rfl) ?_
    refine sq 1 rfl rfl (Y_assign (v := .int .i64 (IntKind.i64.wrap ((IntKind.i64.wrap ((IntKind.i64.wrap (k_1 + 1)) + 1)) + 1))) rfl rfl) ?_
    refine rw_nil ?_
    refine cw_seq ?_
    refine cw_region ?_
    refine sq 36 rfl rfl (Y_move (v := .slice B a.length c) rfl (hf.get 0 0 rfl)) ?_
    refine sq 37 rfl rfl (Y_move (v := .int .i64 (i1 : Int)) rfl (hf.get 5 2 rfl)) ?_
    refine sq 38 rfl rfl (Y_move (v := .int .i64 (IntKind.i64.wrap ((IntKind.i64.wrap ((IntKind.i64.wrap (k_1 + 1)) + 1)) + 1))) rfl rfl) ?_
    refine sq 39 rfl rfl (Y_index (B := B) (m := a.length) (c := c) (k := .i64) (i := (i1 : Int)) k_sl_24_44 k_sz_44_5 rfl rfl rfl (gi_isSome enc_Dyadic_len rfl (hS4.cf (i := 0) rfl) (getI_set (y := (TDyadic.mk (TRing.mk k_1 (IntKind.i64.wrap (k_1 + 1)) (IntKind.i64.wrap ((IntKind.i64.wrap (k_1 + 1)) + 1)) x.Num.D) x.Exp)) (getI_set (y := (TDyadic.mk (TRing.mk k_1 (IntKind.i64.wrap (k_1 + 1)) x.Num.C x.Num.D) x.Exp)) (getI_set (y := (TDyadic.mk (TRing.mk k_1 x.Num.B x.Num.C x.Num.D) x.Exp)) hx)))) (getI_nn (getI_set (y := (TDyadic.mk (TRing.mk k_1 (IntKind.i64.wrap (k_1 + 1)) (IntKind.i64.wrap ((IntKind.i64.wrap (k_1 + 1)) + 1)) x.Num.D) x.Exp)) (getI_set (y := (TDyadic.mk (TRing.mk k_1 (IntKind.i64.wrap (k_1 + 1)) x.Num.C x.Num.D) x.Exp)) (getI_set (y := (TDyadic.mk (TRing.mk k_1 x.Num.B x.Num.C x.Num.D) x.Exp)) hx)))) (getI_ltI (getI_set (y := (TDyadic.mk (TRing.mk k_1 (IntKind.i64.wrap (k_1 + 1)) (IntKind.i64.wrap ((IntKind.i64.wrap (k_1 + 1)) + 1)) x.Num.D) x.Exp)) (getI_set (y := (TDyadic.mk (TRing.mk k_1 (IntKind.i64.wrap (k_1 + 1)) x.Num.C x.Num.D) x.Exp)) (getI_set (y := (TDyadic.mk (TRing.mk k_1 x.Num.B x.Num.C x.Num.D) x.Exp)) hx))) (set_len _ _ _ (set_len _ _ _ (set_len _ _ _ hl))))) ?_
    refine sq 40 rfl rfl (Y_fieldAddr (B := B) (i := (i1 : Int).toNat * 5) (s := 3) k_fd_44_0_0_42 k_sz_42_4 rfl rfl) ?_
    refine sq 41 rfl rfl (Y_fieldAddr2 (B := B) (i := (i1 : Int).toNat * 5) (e := 0) (l := 3) (s := 0) k_fd_42_3_3_3 k_sz_3_1 rfl rfl rfl) ?_
    refine ss0 rfl rfl (Ys_store (i := 0) (s := 1) (B := B) (T' := 44) (v := .int .i64 (IntKind.i64.wrap ((IntKind.i64.wrap ((IntKind.i64.wrap (k_1 + 1)) + 1)) + 1))) (vs := [.int .i64 (IntKind.i64.wrap ((IntKind.i64.wrap ((IntKind.i64.wrap (k_1 + 1)) + 1)) + 1))]) (k := (i1 : Int).toNat * 5 + 3) (cs' := (((((m1.set (i1 : Int).toNat (TDyadic.mk (TRing.mk k_1 x.Num.B x.Num.C x.Num.D) x.Exp)).set (i1 : Int).toNat (TDyadic.mk (TRing.mk k_1 (IntKind.i64.wrap (k_1 + 1)) x.Num.C x.Num.D) x.Exp)).set (i1 : Int).toNat (TDyadic.mk (TRing.mk k_1 (IntKind.i64.wrap (k_1 + 1)) (IntKind.i64.wrap ((IntKind.i64.wrap (k_1 + 1)) + 1)) x.Num.D) x.Exp)).set (i1 : Int).toNat (TDyadic.mk (TRing.mk k_1 (IntKind.i64.wrap (k_1 + 1)) (IntKind.i64.wrap ((IntKind.i64.wrap (k_1 + 1)) + 1)) (IntKind.i64.wrap ((IntKind.i64.wrap ((IntKind.i64.wrap (k_1 + 1)) + 1)) + 1))) x.Exp)).flatMap enc_Dyadic)) hS4 k_sz_3_1 rfl rfl rfl rfl rfl rfl rfl (gi_fit enc_Dyadic_len (getI_set (y := (TDyadic.mk (TRing.mk k_1 (IntKind.i64.wrap (k_1 + 1)) (IntKind.i64.wrap ((IntKind.i64.wrap (k_1 + 1)) + 1)) x.Num.D) x.Exp)) (getI_set (y := (TDyadic.mk (TRing.mk k_1 (IntKind.i64.wrap (k_1 + 1)) x.Num.C x.Num.D) x.Exp)) (getI_set (y := (TDyadic.mk (TRing.mk k_1 x.Num.B x.Num.C x.Num.D) x.Exp)) hx))) (j := 3) (k := 1) (by decide)) (gi_setf enc_Dyadic_len (getI_set (y := (TDyadic.mk (TRing.mk k_1 (IntKind.i64.wrap (k_1 + 1)) (IntKind.i64.wrap ((IntKind.i64.wrap (k_1 + 1)) + 1)) x.Num.D) x.Exp)) (getI_set (y := (TDyadic.mk (TRing.mk k_1 (IntKind.i64.wrap (k_1 + 1)) x.Num.C x.Num.D) x.Exp)) (getI_set (y := (TDyadic.mk (TRing.mk k_1 x.Num.B x.Num.C x.Num.D) x.Exp)) hx))) (TDyadic.mk (TRing.mk k_1 (IntKind.i64.wrap (k_1 + 1)) (IntKind.i64.wrap ((IntKind.i64.wrap (k_1 + 1)) + 1)) (IntKind.i64.wrap ((IntKind.i64.wrap ((IntKind.i64.wrap (k_1 + 1)) + 1)) + 1))) x.Exp) rfl (Nat.le_of_ble_eq_true rfl)) rfl) ?_
    rintro _ w_3 ⟨rfl, hS5⟩
    refine rw_nil ?_
    refine cw_seq ?_
    refine cw_region ?_
    refine sq 42 rfl rfl (Y_move (v := .int .i64 (IntKind.i64.wrap ((IntKind.i64.wrap ((IntKind.i64.wrap (k_1 + 1)) + 1)) + 1))) rfl rfl) ?_
    refine sq 43 rfl rfl (Y_add (k := .i64) (a := (IntKind.i64.wrap ((IntKind.i64.wrap ((IntKind.i64.wrap (k_1 + 1)) + 1)) + 1))) (b := 1) rfl rfl rfl) ?_
    refine sq 1 rfl rfl (Y_assign (v := .int .i64 (IntKind.i64.wrap ((IntKind.i64.wrap ((IntKind.i64.wrap ((IntKind.i64.wrap (k_1 + 1)) + 1)) + 1)) + 1))) rfl rfl) ?_
    refine rw_nil ?_
    refine cw_seq ?_
    refine cw_region ?_
    refine sq 44 rfl rfl (Y_move (v := .slice B a.length c) rfl (hf.get 0 0 rfl)) ?_
    refine sq 45 rfl rfl (Y_move (v := .int .i64 (i1 : Int)) rfl (hf.get 5 2 rfl)) ?_
    refine sq 46 rfl rfl (Y_move (v := .int .i64 (IntKind.i64.wrap ((IntKind.i64.wrap ((IntKind.i64.wrap ((IntKind.i64.wrap (k_1 + 1)) + 1)) + 1)) + 1))) rfl rfl) ?_
    refine sq 47 rfl rfl (Y_index (B := B) (m := a.length) (c := c) (k := .i64) (i := (i1 : Int)) k_sl_24_44 k_sz_44_5 rfl rfl rfl (gi_isSome enc_Dyadic_len rfl (hS5.cf (i := 0) rfl) (getI_set (y := (TDyadic.mk (TRing.mk k_1 (IntKind.i64.wrap (k_1 + 1)) (IntKind.i64.wrap ((IntKind.i64.wrap (k_1 + 1)) + 1)) (IntKind.i64.wrap ((IntKind.i64.wrap ((IntKind.i64.wrap (k_1 + 1)) + 1)) + 1))) x.Exp)) (getI_set (y := (TDyadic.mk (TRing.mk k_1 (IntKind.i64.wrap (k_1 + 1)) (IntKind.i64.wrap ((IntKind.i64.wrap (k_1 + 1)) + 1)) x.Num.D) x.Exp)) (getI_set (y := (TDyadic.mk (TRing.mk k_1 (IntKind.i64.wrap (k_1 + 1)) x.Num.C x.Num.D) x.Exp)) (getI_set (y := (TDyadic.mk (TRing.mk k_1 x.Num.B x.Num.C x.Num.D) x.Exp)) hx))))) (getI_nn (getI_set (y := (TDyadic.mk (TRing.mk k_1 (IntKind.i64.wrap (k_1 + 1)) (IntKind.i64.wrap ((IntKind.i64.wrap (k_1 + 1)) + 1)) (IntKind.i64.wrap ((IntKind.i64.wrap ((IntKind.i64.wrap (k_1 + 1)) + 1)) + 1))) x.Exp)) (getI_set (y := (TDyadic.mk (TRing.mk k_1 (IntKind.i64.wrap (k_1 + 1)) (IntKind.i64.wrap ((IntKind.i64.wrap (k_1 + 1)) + 1)) x.Num.D) x.Exp)) (getI_set (y := (TDyadic.mk (TRing.mk k_1 (IntKind.i64.wrap (k_1 + 1)) x.Num.C x.Num.D) x.Exp)) (getI_set (y := (TDyadic.mk (TRing.mk k_1 x.Num.B x.Num.C x.Num.D) x.Exp)) hx))))) (getI_ltI (getI_set (y := (TDyadic.mk (TRing.mk k_1 (IntKind.i64.wrap (k_1 + 1)) (IntKind.i64.wrap ((IntKind.i64.wrap (k_1 + 1)) + 1)) (IntKind.i64.wrap ((IntKind.i64.wrap ((IntKind.i64.wrap (k_1 + 1)) + 1)) + 1))) x.Exp)) (getI_set (y := (TDyadic.mk (TRing.mk k_1 (IntKind.i64.wrap (k_1 + 1)) (IntKind.i64.wrap ((IntKind.i64.wrap (k_1 + 1)) + 1)) x.Num.D) x.Exp)) (getI_set (y := (TDyadic.mk (TRing.mk k_1 (IntKind.i64.wrap (k_1 + 1)) x.Num.C x.Num.D) x.Exp)) (getI_set (y := (TDyadic.mk (TRing.mk k_1 x.Num.B x.Num.C x.Num.D) x.Exp)) hx)))) (set_len _ _ _ (set_len _ _ _ (set_len _ _ _ (set_len _ _ _ hl)))))) ?_
    refine sq 48 rfl rfl (Y_fieldAddr (B := B) (i := (i1 : Int).toNat * 5) (s := 0) k_fd_44_1_4_3 k_sz_3_1 rfl rfl) ?_
    refine ss0 rfl rfl (Ys_store (i := 0) (s := 1) (B := B) (T' := 44) (v := .int .i64 (IntKind.i64.wrap ((IntKind.i64.wrap ((IntKind.i64.wrap ((IntKind.i64.wrap (k_1 + 1)) + 1)) + 1)) + 1))) (vs := [.int .i64 (IntKind.i64.wrap ((IntKind.i64.wrap ((IntKind.i64.wrap ((IntKind.i64.wrap (k_1 + 1)) + 1)) + 1)) + 1))]) (k := (i1 : Int).toNat * 5 + 4) (cs' := ((((((m1.set (i1 : Int).toNat (TDyadic.mk (TRing.mk k_1 x.Num.B x.Num.C x.Num.D) x.Exp)).set (i1 : Int).toNat (TDyadic.mk (TRing.mk k_1 (IntKind.i64.wrap (k_1 + 1)) x.Num.C x.Num.D) x.Exp)).set (i1 : Int).toNat (TDyadic.mk (TRing.mk k_1 (IntKind.i64.wrap (k_1 + 1)) (IntKind.i64.wrap ((IntKind.i64.wrap (k_1 + 1)) + 1)) x.Num.D) x.Exp)).set (i1 : Int).toNat (TDyadic.mk (TRing.mk k_1 (IntKind.i64.wrap (k_1 + 1)) (IntKind.i64.wrap ((IntKind.i64.wrap (k_1 + 1)) + 1)) (IntKind.i64.wrap ((IntKind.i64.wrap ((IntKind.i64.wrap (k_1 + 1)) + 1)) + 1))) x.Exp)).set (i1 : Int).toNat (TDyadic.mk (TRing.mk k_1 (IntKind.i64.wrap (k_1 + 1)) (IntKind.i64.wrap ((IntKind.i64.wrap (k_1 + 1)) + 1)) (IntKind.i64.wrap ((IntKind.i64.wrap ((IntKind.i64.wrap (k_1 + 1)) + 1)) + 1))) (IntKind.i64.wrap ((IntKind.i64.wrap ((IntKind.i64.wrap ((IntKind.i64.wrap (k_1 + 1)) + 1)) + 1)) + 1)))).flatMap enc_Dyadic)) hS5 k_sz_3_1 rfl rfl rfl rfl rfl rfl rfl (gi_fit enc_Dyadic_len (getI_set (y := (TDyadic.mk (TRing.mk k_1 (IntKind.i64.wrap (k_1 + 1)) (IntKind.i64.wrap ((IntKind.i64.wrap (k_1 + 1)) + 1)) (IntKind.i64.wrap ((IntKind.i64.wrap ((IntKind.i64.wrap (k_1 + 1)) + 1)) + 1))) x.Exp)) (getI_set (y := (TDyadic.mk (TRing.mk k_1 (IntKind.i64.wrap (k_1 + 1)) (IntKind.i64.wrap ((IntKind.i64.wrap (k_1 + 1)) + 1)) x.Num.D) x.Exp)) (getI_set (y := (TDyadic.mk (TRing.mk k_1 (IntKind.i64.wrap (k_1 + 1)) x.Num.C x.Num.D) x.Exp)) (getI_set (y := (TDyadic.mk (TRing.mk k_1 x.Num.B x.Num.C x.Num.D) x.Exp)) hx)))) (j := 4) (k := 1) (by decide)) (gi_setf enc_Dyadic_len (getI_set (y := (TDyadic.mk (TRing.mk k_1 (IntKind.i64.wrap (k_1 + 1)) (IntKind.i64.wrap ((IntKind.i64.wrap (k_1 + 1)) + 1)) (IntKind.i64.wrap ((IntKind.i64.wrap ((IntKind.i64.wrap (k_1 + 1)) + 1)) + 1))) x.Exp)) (getI_set (y := (TDyadic.mk (TRing.mk k_1 (IntKind.i64.wrap (k_1 + 1)) (IntKind.i64.wrap ((IntKind.i64.wrap (k_1 + 1)) + 1)) x.Num.D) x.Exp)) (getI_set (y := (TDyadic.mk (TRing.mk k_1 (IntKind.i64.wrap (k_1 + 1)) x.Num.C x.Num.D) x.Exp)) (getI_set (y := (TDyadic.mk (TRing.mk k_1 x.Num.B x.Num.C x.Num.D) x.Exp)) hx)))) (TDyadic.mk (TRing.mk k_1 (IntKind.i64.wrap (k_1 + 1)) (IntKind.i64.wrap ((IntKind.i64.wrap (k_1 + 1)) + 1)) (IntKind.i64.wrap ((IntKind.i64.wrap ((IntKind.i64.wrap (k_1 + 1)) + 1)) + 1))) (IntKind.i64.wrap ((IntKind.i64.wrap ((IntKind.i64.wrap ((IntKind.i64.wrap (k_1 + 1)) + 1)) + 1)) + 1))) rfl (Nat.le_of_ble_eq_true rfl)) rfl) ?_
    rintro _ w_4 ⟨rfl, hS6⟩
    refine rw_nil ?_
    refine cw_region ?_
    refine sq 49 rfl rfl (Y_move (v := .int .i64 (IntKind.i64.wrap ((IntKind.i64.wrap ((IntKind.i64.wrap ((IntKind.i64.wrap (k_1 + 1)) + 1)) + 1)) + 1))) rfl rfl) ?_
    refine sq 50 rfl rfl (Y_add (k := .i64) (a := (IntKind.i64.wrap ((IntKind.i64.wrap ((IntKind.i64.wrap ((IntKind.i64.wrap (k_1 + 1)) + 1)) + 1)) + 1))) (b := 1) rfl rfl rfl) ?_
    refine sq 1 rfl rfl (Y_assign (v := .int .i64 (IntKind.i64.wrap ((IntKind.i64.wrap ((IntKind.i64.wrap ((IntKind.i64.wrap ((IntKind.i64.wrap (k_1 + 1)) + 1)) + 1)) + 1)) + 1))) rfl rfl) ?_
    refine rw_nil ?_
    refine cw_region ?_
    refine sq 10 rfl rfl (Y_move (v := .int .i64 (i1 : Int)) rfl (hf.get 5 2 rfl)) ?_
    refine sq 11 rfl rfl (Y_add (k := .i64) (a := (i1 : Int)) (b := 1) rfl rfl rfl) ?_
    refine sq 5 rfl rfl (Y_assign (v := .int .i64 (IntKind.i64.wrap ((i1 : Int) + 1))) rfl rfl) ?_
    refine rw_nil ?_
    obtain rfl := some_inj hb
    exact ⟨k_3, Nat.lt_succ_self _, i1 + 1, (((((m1.set (i1 : Int).toNat (TDyadic.mk (TRing.mk k_1 x.Num.B x.Num.C x.Num.D) x.Exp)).set (i1 : Int).toNat (TDyadic.mk (TRing.mk k_1 (IntKind.i64.wrap (k_1 + 1)) x.Num.C x.Num.D) x.Exp)).set (i1 : Int).toNat (TDyadic.mk (TRing.mk k_1 (IntKind.i64.wrap (k_1 + 1)) (IntKind.i64.wrap ((IntKind.i64.wrap (k_1 + 1)) + 1)) x.Num.D) x.Exp)).set (i1 : Int).toNat (TDyadic.mk (TRing.mk k_1 (IntKind.i64.wrap (k_1 + 1)) (IntKind.i64.wrap ((IntKind.i64.wrap (k_1 + 1)) + 1)) (IntKind.i64.wrap ((IntKind.i64.wrap ((IntKind.i64.wrap (k_1 + 1)) + 1)) + 1))) x.Exp)).set (i1 : Int).toNat (TDyadic.mk (TRing.mk k_1 (IntKind.i64.wrap (k_1 + 1)) (IntKind.i64.wrap ((IntKind.i64.wrap (k_1 + 1)) + 1)) (IntKind.i64.wrap ((IntKind.i64.wrap ((IntKind.i64.wrap (k_1 + 1)) + 1)) + 1))) (IntKind.i64.wrap ((IntKind.i64.wrap ((IntKind.i64.wrap ((IntKind.i64.wrap (k_1 + 1)) + 1)) + 1)) + 1)))), (IntKind.i64.wrap ((IntKind.i64.wrap ((IntKind.i64.wrap ((IntKind.i64.wrap ((IntKind.i64.wrap (k_1 + 1)) + 1)) + 1)) + 1)) + 1)), (FF.cons (hf.get 0 0 rfl) (FF.cons rfl (FF.cons (congrArg (Value.int .i64) (wr_succ hlt1 hN)) FF.nil))), (set_len _ _ _ (set_len _ _ _ (set_len _ _ _ (set_len _ _ _ (set_len _ _ _ hl))))), (hS6.sel [0] rfl rfl), (by omega), hL1⟩
  · skip
    obtain rfl : k_2 = 0 := by have h := of_decide_eq_false hlt; omega
    refine cw_exit rfl ?_
    obtain rfl := some_inj hL
    refine cw_seq ?_
    refine cw_region ?_
    refine sq 51 rfl rfl (Y_move (v := .int .i64 k_1) rfl (hf.get 1 1 rfl)) ?_
    refine sq 4 rfl rfl (Y_assign (v := .int .i64 k_1) rfl rfl) ?_
    refine rw_nil ?_
    refine cw_ret ?_
    obtain ⟨rfl, rfl⟩ := pr2 (some_inj hF1)
    exact ret1 Try.results51 (v1 := .int .i64 k_1) (resAt_tmp rfl) ⟨rfl, hl, (ST.subR (R' := []) (hS1.sel [0] rfl rfl) (fun _ h => by cases h))⟩

theorem c_laws_markMatrix (a : TMatrix) (k_ : Int) (B : Option Addr) (c n : Nat) (w0 : World) (hn : a.Cells.length = n) (hS : ST w0 (bl [⟨B, 44, (a.Cells.flatMap enc_Dyadic), c * 5⟩]) w0 [⟨B, 44, (a.Cells.flatMap enc_Dyadic), c * 5⟩] []) {r_ : Int} {m : List TDyadic} (hF : F_laws_markMatrix a k_ = some (r_, m)) :
    CV Try.prog 11 #[.agg #[.int .i64 a.Rows, .int .i64 a.Cols, .slice B n c], .int .i64 k_] w0 (fun v w' => v = .int .i64 r_ ∧ m.length = n ∧ ST w0 (bl [⟨B, 44, (a.Cells.flatMap enc_Dyadic), c * 5⟩]) w' [⟨B, 44, (m.flatMap enc_Dyadic), c * 5⟩] []) := by
  subst hn
  unfold F_laws_markMatrix at hF
  refine cv_of_cw 10 Try.func11 rfl Try.ntmps11 rfl ?_
  refine cw_seq ?_
  refine cw_region ?_
  refine ss 2 rfl rfl (Ys_box (T := 26) (v := .agg #[.int .i64 a.Rows, .int .i64 a.Cols, .slice B a.Cells.length c]) (cs := [.int .i64 a.Rows, .int .i64 a.Cols, .slice B a.Cells.length c]) (m := 3) hS rfl rfl rfl rfl) ?_
  rintro _ w_ ⟨b, rfl, hS1⟩
  have hS1 : ST w0 (bl [⟨B, 44, (a.Cells.flatMap enc_Dyadic), c * 5⟩]) _ [⟨B, 44, (a.Cells.flatMap enc_Dyadic), c * 5⟩, ⟨some ⟨b, 0, none⟩, 26, [.int .i64 a.Rows, .int .i64 a.Cols, .slice B a.Cells.length c], 3⟩] [] := hS1
  refine sq 4 rfl rfl (Y_assign (v := .int .i64 0) rfl rfl) ?_
  refine rw_nil ?_
  refine cw_seq ?_
  refine cw_region ?_
  refine sq 5 rfl rfl (Y_fieldAddr (B := some ⟨b, 0, none⟩) (i := 0) (s := 0) k_fd_26_2_2_24 k_sz_24_1 rfl rfl) ?_
  refine sq 6 rfl rfl (Y_load1 (B := some ⟨b, 0, none⟩) (i := 2) (cs := [.int .i64 a.Rows, .int .i64 a.Cols, .slice B a.Cells.length c]) (v := .slice B a.Cells.length c) k_sc_24 rfl rfl (hS1.cf (i := 1) rfl) rfl) ?_
  refine sq 7 rfl rfl (Y_move (v := .int .i64 k_) rfl rfl) ?_
  obtain ⟨⟨r_1, m1⟩, hc, hF⟩ := bind_inv hF
  refine sc 8 rfl rfl (Yc_func (g := 51) (vs := [.slice B a.Cells.length c, .int .i64 k_]) k_call_51 rfl (mc rfl (mc rfl mn)) (c_laws_markDyadicS a.Cells k_ B c a.Cells.length _ rfl (hS1.inn [true, false] rfl [] rfl) hc)) ?_
  rintro _ w_1 ⟨rfl, hl, hd⟩
  have hS2 := hS1.out [true, false] rfl hd
  have hS2 : ST w0 (bl [⟨B, 44, (a.Cells.flatMap enc_Dyadic), c * 5⟩]) _ [⟨some ⟨b, 0, none⟩, 26, [.int .i64 a.Rows, .int .i64 a.Cols, .slice B a.Cells.length c], 3⟩, ⟨B, 44, (m1.flatMap enc_Dyadic), c * 5⟩] [] := hS2
  refine sq 1 rfl rfl (Y_assign (v := .int .i64 r_1) rfl rfl) ?_
  refine rw_nil ?_
  refine cw_seq ?_
  refine cw_region ?_
  refine sq 9 rfl rfl (Y_move (v := .int .i64 r_1) rfl rfl) ?_
  refine sq 4 rfl rfl (Y_assign (v := .int .i64 r_1) rfl rfl) ?_
  refine rw_nil ?_
  refine cw_ret ?_
  obtain ⟨rfl, rfl⟩ := pr2 (some_inj hF)
  exact ret1 Try.results11 (v1 := .int .i64 r_1) (resAt_tmp rfl) ⟨rfl, hl, (ST.subR (R' := []) (hS2.sel [1] rfl rfl) (fun _ h => by cases h))⟩
end Go.VK
