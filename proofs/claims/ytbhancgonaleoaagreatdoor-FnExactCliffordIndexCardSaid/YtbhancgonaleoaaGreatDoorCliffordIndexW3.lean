/- Walks: each Go function returns what its Lean function says. By program. -/
import Derived.Test.YtbhancgonaleoaaGreatDoorCliffordIndexFa
import Derived.Test.YtbhancgonaleoaaGreatDoorCliffordIndexW2
set_option linter.unusedVariables false
set_option maxRecDepth 100000
set_option maxHeartbeats 1000000
namespace Go.VK
open Go.RowKit
open Go.Proofs
open Go.IntKind
attribute [local irreducible] CW RW RA CV Y Yw Yc Ys RetOf
attribute [local irreducible] F_laws_szDyadicS F_laws_szBloch F_spec_l1In F_spec_l1All F_spec_l1Good F_spec_l1Even F_spec_l2Good F_spec_l1Root F_spec_l1Half F_spec_l2Low F_spec_l2C_ring F_spec_l1Mul F_spec_l2C_mul F_spec_l1Add F_spec_l2C_add F_spec_l2C_bloch F_spec_l9Turn F_spec_l1Neg F_spec_l2Neg F_spec_l2C_minor F_spec_l9Same F_spec_l1Turn F_spec_l2Power F_spec_l9Unit F_spec_l9Valid F_spec_l2C_times F_spec_l6One F_spec_l9Pauli F_spec_l1Conj F_spec_l2Conj F_spec_l3Adj F_spec_l9Bloch F_spec_l6Bit F_spec_l6Cell F_spec_l6Gate F_spec_l2C_run F_spec_l3Unit F_spec_l6Op F_spec_l9Word F_spec_l9Words F_spec_l9Index F_spec_CliffordIndex F_laws_toRing F_laws_toDyadic F_laws_toDyadicS F_laws_toBloch F_slices_IndexFunc_impl_Dyadic_impl_Dyadic F_slices_ContainsFunc_impl_Dyadic_impl_Dyadic F_impl_within F_impl_isCoef F_impl_IsValidRing F_impl_isEven F_impl_IsValidDyadic F_impl_isReal F_impl_IsValidBloch_1 F_impl_ringIf F_impl_MulRing F_impl_DivRootTwo F_impl_DyadicOf F_impl_MulDyadic F_impl_MulRootTwo F_impl_raised F_impl_combined F_impl_AddRing F_impl_AddDyadic F_impl_mulBloch F_impl_transposed F_impl_SubRing F_impl_SubDyadic F_impl_minor F_impl_determinant F_impl_whole F_impl_small F_impl_IsValidBloch F_impl_isDim F_impl_matrixOf F_impl_isTwo F_impl_IsValidGate F_impl_MulOmega F_impl_phase F_impl_bitOf F_impl_flipped F_impl_comesFrom F_impl_entry F_impl_GateMatrix_1 F_impl_GateMatrix F_impl_IsValidMatrix_1 F_impl_IsValidMatrix F_impl_IdentityMatrix_1 F_impl_IdentityMatrix F_impl_Matrix_at F_impl_MulMatrix_1 F_impl_MulMatrix F_impl_Conjugate F_impl_ConjDyadic F_impl_Adjoint_1 F_impl_Adjoint F_slices_Equal_impl_Dyadic_impl_Dyadic F_impl_EqualMatrices F_impl_IsUnitary F_impl_IsOneQubit F_impl_TraceOf F_impl_blochCell F_impl_BlochOf F_impl_blochGate F_slices_IndexFunc_SSimpl_Dyadic_impl_Dyadic F_slices_ContainsFunc_SSimpl_Dyadic_impl_Dyadic F_impl_cliffordList_1 F_impl_cliffordList F_impl_CliffordIndex F_laws_eqRing F_laws_eqDyadic F_laws_eqDyadicS F_laws_eqBloch F_laws_FnExactCliffordIndex
theorem c_laws_toDyadic (a : TDyadic)  (w0 : World)  (hS : ST w0 [] w0 [] []) {r_ : TDyadic} (hF : F_laws_toDyadic a = some r_) :
  CV Tryz.prog 58 #[gD_ a] w0 (fun v w' => v = (gD_ r_) ∧ ST w0 [] w' [] []) := by
 unfold F_laws_toDyadic at hF
 refine cv_of_cw 12 Tryz.func58 rfl Tryz.ntmps58 rfl ?_
 refine cw_seq (cw_region ?_)
 refine sS 1 (Ys_box (T := 96) (v := gD_ a) (cs := kD_ a) (m := 5) hS rfl rfl rfl rfl) ?_
 rintro _ w_ ⟨b, rfl, hS1⟩
 refine sS 2 (Ys_alloc (T := 65) (cs := kZ_) (m := 5) hS1 k_zero_65 rfl rfl rfl) ?_
 rintro _ w_1 ⟨b1, rfl, hS2⟩
 refine rw_nil (cw_seq (cw_region ?_))
 refine sS 3 (Ys_alloc (T := 65) (cs := kZ_) (m := 5) hS2 k_zero_65 rfl rfl rfl) ?_
 rintro _ w_2 ⟨b2, rfl, hS3⟩
 refine rw_nil (cw_seq (cw_region ?_))
 refine sQ 4 (Y_fieldAddr (B := aD b) (i := 0) (s := 3) k_fd_96_0_0_94 k_sz_94_4 rfl rfl) ?_
 refine sQ 5 (Y_loadA (B := aD b) (i := 0) (cs := kD_ a) (vs := kR_ a.Num) k_ag_94 k_sz_94_4 rfl rfl (hS3.cf (i := 0) rfl) rfl rfl) ?_
 obtain ⟨r_1, hc, hF⟩ := bind_inv hF
 refine sc 6 rfl rfl (Yc_func (g := 101) (vs := [gR_ a.Num]) k_call_101 rfl (mc rfl mn) (c_laws_toRing a.Num _  (hS3.inn0 [] rfl) hc)) ?_
 rintro _ w_3 ⟨rfl, hd⟩
 have hS4 := hS3.out00 hd
 refine sQ 7 (Y_fieldAddr (B := aD b2) (i := 0) (s := 3) k_fd_65_0_0_63 k_sz_63_4 rfl rfl) ?_
 refine s0 (Ys_store (i := 2) (s := 4) (B := aD b2) (T' := 65) (v := gR_ r_1) (vs := kR_ r_1) (k := 0) (cs' := [vi r_1.A, vi r_1.B, vi r_1.C, vi r_1.D, vi 0]) hS4 k_sz_63_4 rfl rfl rfl rfl rfl rfl rfl (lB rfl) rfl rfl) ?_
 rintro _ w_4 ⟨rfl, hS5⟩
 refine rw_nil (cw_seq (cw_region ?_))
 refine sQ 8 (Y_fieldAddr (B := aD b) (i := 0) (s := 0) k_fd_96_1_4_3 k_sz_3_1 rfl rfl) ?_
 refine sQ 9 (Y_load1 (B := aD b) (i := 4) (cs := kD_ a) (v := vi a.Exp) k_sc_3 rfl rfl (hS5.cf (i := 0) rfl) rfl) ?_
 refine sQ 10 (Y_fieldAddr (B := aD b2) (i := 0) (s := 0) k_fd_65_1_4_3 k_sz_3_1 rfl rfl) ?_
 refine s0 (Ys_store (i := 2) (s := 1) (B := aD b2) (T' := 65) (v := vi a.Exp) (vs := [vi a.Exp]) (k := 4) (cs' := [vi r_1.A, vi r_1.B, vi r_1.C, vi r_1.D, vi a.Exp]) hS5 k_sz_3_1 rfl rfl rfl rfl rfl rfl rfl (lB rfl) rfl rfl) ?_
 rintro _ w_5 ⟨rfl, hS6⟩
 refine rw_nil (cw_seq (cw_region ?_))
 refine sQ 11 (Y_loadA (B := aD b2) (i := 0) (cs := [vi r_1.A, vi r_1.B, vi r_1.C, vi r_1.D, vi a.Exp]) (vs := [vi r_1.A, vi r_1.B, vi r_1.C, vi r_1.D, vi a.Exp]) k_ag_65 k_sz_65_5 rfl rfl (hS6.cf (i := 2) rfl) rfl rfl) ?_
 refine s0 (Ys_store (i := 1) (s := 5) (B := aD b1) (T' := 65) (v := .agg #[vi r_1.A, vi r_1.B, vi r_1.C, vi r_1.D, vi a.Exp]) (vs := [vi r_1.A, vi r_1.B, vi r_1.C, vi r_1.D, vi a.Exp]) (k := 0) (cs' := [vi r_1.A, vi r_1.B, vi r_1.C, vi r_1.D, vi a.Exp]) hS6 k_sz_65_5 rfl rfl rfl rfl rfl rfl rfl (lB rfl) rfl rfl) ?_
 rintro _ w_6 ⟨rfl, hS7⟩
 refine rw_nil (cw_ret ?_)
 obtain rfl := some_inj hF
 exact ret1 Tryz.results58 (v1 := .agg #[vi r_1.A, vi r_1.B, vi r_1.C, vi r_1.D, vi a.Exp]) (resAt_cellA (B := aD b1) (i := 0) (cs := [vi r_1.A, vi r_1.B, vi r_1.C, vi r_1.D, vi a.Exp]) (vs := [vi r_1.A, vi r_1.B, vi r_1.C, vi r_1.D, vi a.Exp]) rfl k_ag_65 k_sz_65_5 (hS7.cf (i := 1) rfl) rfl rfl) ⟨rfl, (hS7.sN [])⟩

theorem c_laws_toDyadicS (a : List TDyadic) (B : Option Addr) (c n : Nat) (w0 : World) (hn : a.length = n) (hS : ST w0 [] w0 [] [⟨B, (a.flatMap eN0)⟩]) {r_ : List TDyadic} (hF : F_laws_toDyadicS a = some r_) :
  CV Tryz.prog 26 #[.slice B n c] w0 (fun v w' => ∃ (B1 : Option Addr) (c1 : Nat), v = .slice B1 r_.length c1 ∧ ST w0 [] w' [⟨B1, 65, (r_.flatMap eN0), c1 * 5⟩] []) := by
 subst hn
 unfold F_laws_toDyadicS at hF
 refine cv_of_cw 23 Tryz.func26 rfl Tryz.ntmps26 rfl ?_
 refine cw_seq (cw_region ?_)
 refine sQ 2 (Y_assign (v := .slice none 0 0) rfl rfl) (rw_nil (cw_seq (cw_region ?_)))
 refine sQ 5 (Y_move (v := .slice B a.length c) rfl rfl) ?_
 refine sQ 6 (Y_len (B := B) (m := a.length) (c := c) k_sl_22_96 rfl rfl) ?_
 obtain ⟨hmk, hF⟩ := chk_inv hF
 refine sS 7 (Ys_make (s := 5) (by' := 40) (nn := a.length) (a := (a.length : Int)) (b := (a.length : Int)) (cs := ((List.replicate a.length (TDyadic.mk (TRing.mk 0 0 0 0) 0)).flatMap eN0)) hS k_sl_28_65 k_sz_65_5 k_by_65_40 k_zero_65 rfl rfl rfl rfl hmk.1 rfl (by have := hmk; omega) (by have := hmk; omega) (by omega) (fm_rep (enc := eN0) (d := (TDyadic.mk (TRing.mk 0 0 0 0) 0)) rfl _)) ?_
 rintro _ w_ ⟨b, rfl, hS1⟩
 refine sQ 3 (Y_assign (v := .slice (aD b) a.length a.length) rfl rfl) (rw_nil (cw_seq (cw_seq (cw_region ?_))))
 refine sQ 4 (Y_assign (v := vi 0) rfl rfl) (rw_nil ?_)
 obtain ⟨hN, hF⟩ := chk_inv hF
 obtain ⟨z, hz, hF1⟩ := bind_inv hF
 refine cw_block ?_
 refine cw_loop (fun k f w => ∃ (i1 : Nat) (out : List TDyadic), FF f [(0, .slice B a.length c), (3, .slice (aD b) a.length a.length), (4, vi (i1 : Int))] ∧ out.length = a.length ∧ ST w0 [] w [⟨aD b, 65, (out.flatMap eN0), a.length * 5⟩] [⟨B, (a.flatMap eN0)⟩] ∧ i1 + k = a.length ∧ forN (F_laws_toDyadicS_l1 a) k i1 out = some z) a.length ⟨0, (List.replicate a.length (TDyadic.mk (TRing.mk 0 0 0 0) 0)), (FF.cons rfl (FF.cons rfl (FF.cons rfl FF.nil))), List.length_replicate, (hS1.sel [0] rfl rfl), Nat.zero_add _, hz⟩ ?_
 rintro k_ f w ⟨i1, out, hf, hl, hS2, hik, hL⟩
 refine cw_seq (cw_seq (cw_region ?_))
 refine sQ 8 (Y_move (v := vi (i1 : Int)) rfl (hf.get 4 2 rfl)) ?_
 refine sQ 9 (Y_move (v := .slice B a.length c) rfl (hf.get 0 0 rfl)) ?_
 refine sQ 10 (Y_len (B := B) (m := a.length) (c := c) k_sl_22_96 rfl rfl) ?_
 refine sQ 11 (Y_lt (k := .i64) (a := (i1 : Int)) (b := (a.length : Int)) rfl rfl rfl) (rw_nil ?_)
 refine cw_cond (b := (decide ((i1 : Int) < (a.length : Int)))) rfl (fun hlt => ?_) (fun hlt => ?_)
 ·skip
  have hlt1 : i1 < a.length := by have h := of_decide_eq_true hlt; omega
  obtain ⟨k_1, rfl⟩ : ∃ k2, k_ = k2 + 1 := ⟨k_ - 1, by omega⟩
  obtain ⟨y, hb, hL1⟩ := forN_go hL
  unfold F_laws_toDyadicS_l1 at hb
  refine cw_skip (cw_seq (cw_block (cw_region ?_)))
  refine sQ 14 (Y_move (v := .slice (aD b) a.length a.length) rfl (hf.get 3 1 rfl)) ?_
  refine sQ 15 (Y_move (v := vi (i1 : Int)) rfl (hf.get 4 2 rfl)) ?_
  refine sQ 16 (Y_move (v := .slice B a.length c) rfl (hf.get 0 0 rfl)) ?_
  refine sQ 17 (Y_move (v := vi (i1 : Int)) rfl (hf.get 4 2 rfl)) ?_
  obtain ⟨x, hx, hb⟩ := bind_inv hb
  refine sQ 18 (Y_index (B := B) (m := a.length) (c := c) (k := .i64) (i := (i1 : Int)) k_sl_22_96 k_sz_96_5 rfl rfl rfl (gi_isSome eN2 rfl (hS2.rf (i := 0) rfl) hx) (getI_nn hx) (getI_ltI hx rfl)) ?_
  refine sQ 19 (Y_loadA (B := B) (i := (i1 : Int).toNat * 5) (cs := (a.flatMap eN0)) (vs := kD_ x) k_ag_96 k_sz_96_5 rfl rfl (hS2.rf (i := 0) rfl) (eN2 x) (gi_seg eN2 hx)) ?_
  obtain ⟨r_1, hc, hb⟩ := bind_inv hb
  refine sc 20 rfl rfl (Yc_func (g := 58) (vs := [gD_ x]) k_call_58 rfl (mc rfl mn) (c_laws_toDyadic x _  (hS2.inn0 [] rfl) hc)) ?_
  rintro _ w_1 ⟨rfl, hd⟩
  have hS3 := hS2.out00 hd
  obtain ⟨x1, hx1, hb⟩ := bind_inv hb
  refine sQ 21 (Y_index (B := aD b) (m := a.length) (c := a.length) (k := .i64) (i := (i1 : Int)) k_sl_28_65 k_sz_65_5 rfl rfl rfl (gi_isSome eN2 rfl (hS3.cf (i := 0) rfl) hx1) (getI_nn hx1) (getI_ltI hx1 hl)) ?_
  refine s0 (Ys_store (i := 0) (s := 5) (B := aD b) (T' := 65) (v := gD_ r_1) (vs := kD_ r_1) (k := (i1 : Int).toNat * 5) (cs' := ((out.set (i1 : Int).toNat r_1).flatMap eN0)) hS3 k_sz_65_5 rfl rfl rfl rfl rfl rfl rfl (gi_fit0 eN2 hx1) (gi_set eN2 hx1 r_1 rfl) rfl) ?_
  rintro _ w_2 ⟨rfl, hS4⟩
  refine rw_nil (cw_region ?_)
  refine sQ 12 (Y_move (v := vi (i1 : Int)) rfl (hf.get 4 2 rfl)) ?_
  refine sQ 13 (Y_add (k := .i64) (a := (i1 : Int)) (b := 1) rfl rfl rfl) ?_
  refine sQ 4 (Y_assign (v := vi (i64.wrap ((i1 : Int) + 1))) rfl rfl) (rw_nil ?_)
  obtain rfl := some_inj hb
  exact ⟨k_1, Nat.lt_succ_self _, i1 + 1, (out.set (i1 : Int).toNat r_1), (FF.cons (hf.get 0 0 rfl) (FF.cons (hf.get 3 1 rfl) (FF.cons (congrArg (Value.int .i64) (wr_succ hlt1 hN)) FF.nil))), (set_len _ _ _ hl), (hS4.sel [0] rfl rfl), (by omega), hL1⟩
 ·skip
  obtain rfl : k_ = 0 := by have h := of_decide_eq_false hlt; omega
  refine cw_exit rfl ?_
  obtain rfl := some_inj hL
  refine cw_seq (cw_region ?_)
  refine sQ 22 (Y_move (v := .slice (aD b) a.length a.length) rfl (hf.get 3 1 rfl)) ?_
  refine sQ 2 (Y_assign (v := .slice (aD b) a.length a.length) rfl rfl) (rw_nil (cw_ret ?_))
  obtain rfl := some_inj hF1
  exact ret1 Tryz.results26 (v1 := .slice (aD b) a.length a.length) (resAt_tmp rfl) ⟨aD b, a.length, (sl_eqv hl), (hS2.sN [0])⟩

theorem c_laws_toBloch (a : TBloch) (B : Option Addr) (c n : Nat) (w0 : World) (hn : a.Cells.length = n) (hS : ST w0 [] w0 [] [⟨B, (a.Cells.flatMap eN0)⟩]) {r_ : TBloch} (hF : F_laws_toBloch a = some r_) :
  CV Tryz.prog 8 #[.agg #[.slice B n c]] w0 (fun v w' => ∃ (B1 : Option Addr) (c1 : Nat), v = (gB_ r_ B1 c1) ∧ ST w0 [] w' [⟨B1, 65, (r_.Cells.flatMap eN0), c1 * 5⟩] []) := by
 subst hn
 unfold F_laws_toBloch at hF
 refine cv_of_cw 9 Tryz.func8 rfl Tryz.ntmps8 rfl ?_
 refine cw_seq (cw_region ?_)
 refine sS 1 (Ys_box (T := 24) (v := gB_ a B c) (cs := kB_ a B c) (m := 1) hS rfl rfl rfl rfl) ?_
 rintro _ w_ ⟨b, rfl, hS1⟩
 refine sS 2 (Ys_alloc (T := 30) (cs := [.slice none 0 0]) (m := 1) hS1 k_zero_30 rfl rfl rfl) ?_
 rintro _ w_1 ⟨b1, rfl, hS2⟩
 refine rw_nil (cw_seq (cw_region ?_))
 refine sS 3 (Ys_alloc (T := 30) (cs := [.slice none 0 0]) (m := 1) hS2 k_zero_30 rfl rfl rfl) ?_
 rintro _ w_2 ⟨b2, rfl, hS3⟩
 refine rw_nil (cw_seq (cw_region ?_))
 refine sQ 4 (Y_fieldAddr (B := aD b) (i := 0) (s := 0) k_fd_24_0_0_22 k_sz_22_1 rfl rfl) ?_
 refine sQ 5 (Y_load1 (B := aD b) (i := 0) (cs := kB_ a B c) (v := .slice B a.Cells.length c) k_sc_22 rfl rfl (hS3.cf (i := 0) rfl) rfl) ?_
 obtain ⟨r_1, hc, hF⟩ := bind_inv hF
 refine sc 6 rfl rfl (Yc_func (g := 26) (vs := kB_ a B c) k_call_26 rfl (mc rfl mn) (c_laws_toDyadicS a.Cells B c a.Cells.length _ rfl (hS3.inn0 [(true, 0)] rfl) hc)) ?_
 rintro _ w_3 ⟨B2, c2, rfl, hd⟩
 have hS4 := hS3.out0 hd
 refine sQ 7 (Y_fieldAddr (B := aD b2) (i := 0) (s := 0) k_fd_30_0_0_28 k_sz_28_1 rfl rfl) ?_
 refine s0 (Ys_store (i := 2) (s := 1) (B := aD b2) (T' := 30) (v := .slice B2 r_1.length c2) (vs := [.slice B2 r_1.length c2]) (k := 0) (cs' := [.slice B2 r_1.length c2]) hS4 k_sz_28_1 rfl rfl rfl rfl rfl rfl rfl (lB rfl) rfl rfl) ?_
 rintro _ w_4 ⟨rfl, hS5⟩
 refine rw_nil (cw_seq (cw_region ?_))
 refine sQ 8 (Y_loadA (B := aD b2) (i := 0) (cs := [.slice B2 r_1.length c2]) (vs := [.slice B2 r_1.length c2]) k_ag_30 k_sz_30_1 rfl rfl (hS5.cf (i := 2) rfl) rfl rfl) ?_
 refine s0 (Ys_store (i := 1) (s := 1) (B := aD b1) (T' := 30) (v := .agg #[.slice B2 r_1.length c2]) (vs := [.slice B2 r_1.length c2]) (k := 0) (cs' := [.slice B2 r_1.length c2]) hS5 k_sz_30_1 rfl rfl rfl rfl rfl rfl rfl (lB rfl) rfl rfl) ?_
 rintro _ w_5 ⟨rfl, hS6⟩
 refine rw_nil (cw_ret ?_)
 obtain rfl := some_inj hF
 exact ret1 Tryz.results8 (v1 := .agg #[.slice B2 r_1.length c2]) (resAt_cellA (B := aD b1) (i := 0) (cs := [.slice B2 r_1.length c2]) (vs := [.slice B2 r_1.length c2]) rfl k_ag_30 k_sz_30_1 (hS6.cf (i := 1) rfl) rfl rfl) ⟨B2, c2, rfl, (hS6.sN [3])⟩

theorem c_slices_IndexFunc_impl_Dyadic_impl_Dyadic (s : List TDyadic) (f_ : TDyadic → Option (Bool)) (B : Option Addr) (c n : Nat) (kf : Nat) (caps : Array Value) (Rf : List Ro) (w0 : World) (hn : s.length = n) (hk : callB Tryz.prog kf = true) (hp : ∀ (w : World), ST w [] w [] Rf → ∀ (x : TDyadic) (y : Bool), f_ x = some y → CV Tryz.prog kf ((gD_ x) :: caps.toList).toArray w (fun v w' => v = .bool y ∧ ST w [] w' [] [])) (hS : ST w0 [] w0 [] (⟨B, (s.flatMap eN0)⟩ :: Rf)) {r_ : Int} (hF : F_slices_IndexFunc_impl_Dyadic_impl_Dyadic s f_ = some r_) :
  CV Tryz.prog 102 #[.slice B n c, .func (.func kf) #[] caps] w0 (fun v w' => v = vi r_ ∧ ST w0 [] w' [] []) := by
 subst hn
 unfold F_slices_IndexFunc_impl_Dyadic_impl_Dyadic at hF
 refine cv_of_cw 19 Tryz.func102 rfl Tryz.ntmps102 rfl ?_
 refine cw_seq (cw_region ?_)
 refine sQ 4 (Y_assign (v := vi 0) rfl rfl) (rw_nil (cw_seq (cw_seq (cw_region ?_))))
 refine sQ 6 (Y_move (v := .slice B s.length c) rfl rfl) ?_
 refine sQ 7 (Y_len (B := B) (m := s.length) (c := c) k_sl_28_65 rfl rfl) ?_
 refine sQ 8 (Y_move (v := vi 0) rfl rfl) (rw_nil ?_)
 obtain ⟨hN, hF⟩ := chk_inv hF
 obtain ⟨z, hz, hF1⟩ := bind_inv hF
 refine cw_block ?_
 refine cw_loop (fun k f w => ∃ (i : Nat), FF f [(0, .slice B s.length c), (1, .func (.func kf) #[] caps), (7, vi (s.length : Int)), (8, vi (i : Int))] ∧ ST w0 [] w [] (⟨B, (s.flatMap eN0)⟩ :: Rf) ∧ i + k = s.length ∧ forX (F_slices_IndexFunc_impl_Dyadic_impl_Dyadic_l1 s f_) k i () = some z) s.length ⟨0, (FF.cons rfl (FF.cons rfl (FF.cons rfl (FF.cons rfl FF.nil)))), (hS.sel [] rfl rfl), Nat.zero_add _, hz⟩ ?_
 rintro k_ f w ⟨i, hf, hS1, hik, hL⟩
 refine cw_seq (cw_region ?_)
 refine sQ 9 (Y_lt (k := .i64) (a := (i : Int)) (b := (s.length : Int)) rfl (hf.get 8 3 rfl) (hf.get 7 2 rfl)) (rw_nil (cw_seq ?_))
 refine cw_cond (b := (decide ((i : Int) < (s.length : Int)))) rfl (fun hlt => ?_) (fun hlt => ?_)
 ·skip
  have hlt1 : i < s.length := by have h := of_decide_eq_true hlt; omega
  obtain ⟨k_1, rfl⟩ : ∃ k2, k_ = k2 + 1 := ⟨k_ - 1, by omega⟩
  obtain ⟨y1, hb, hL1⟩ := forX_go hL
  unfold F_slices_IndexFunc_impl_Dyadic_impl_Dyadic_l1 at hb
  refine cw_skip (cw_seq (cw_block (cw_seq (cw_region ?_))))
  refine sQ 10 (Y_move (v := vi (i : Int)) rfl (hf.get 8 3 rfl)) ?_
  refine sQ 5 (Y_assign (v := vi (i : Int)) rfl rfl) (rw_nil (cw_seq (cw_region ?_)))
  refine sQ 11 (Y_move (v := .func (.func kf) #[] caps) rfl (hf.get 1 1 rfl)) ?_
  refine sQ 12 (Y_move (v := .slice B s.length c) rfl (hf.get 0 0 rfl)) ?_
  refine sQ 13 (Y_move (v := vi (i : Int)) rfl rfl) ?_
  obtain ⟨x1, hx, hb⟩ := bind_inv hb
  refine sQ 14 (Y_index (B := B) (m := s.length) (c := c) (k := .i64) (i := (i : Int)) k_sl_28_65 k_sz_65_5 rfl rfl rfl (gi_isSome eN2 rfl (hS1.rf (i := 0) rfl) hx) (getI_nn hx) (getI_ltI hx rfl)) ?_
  refine sQ 15 (Y_loadA (B := B) (i := (i : Int).toNat * 5) (cs := (s.flatMap eN0)) (vs := kD_ x1) k_ag_65 k_sz_65_5 rfl rfl (hS1.rf (i := 0) rfl) (eN2 x1) (gi_seg eN2 hx)) ?_
  obtain ⟨r_1, hc, hb⟩ := bind_inv hb
  refine sc 16 rfl rfl (Yc_clos (g := kf) (vs := (gD_ x1) :: caps.toList) hk rfl rfl (clo_args (mc rfl mn)) (hp _ (hS1.innS (fun _ h => mOd (i := 1) h)) x1 r_1 hc)) ?_
  rintro _ w_ ⟨rfl, hd⟩
  have hS2 := hS1.out00 hd
  refine rw_nil ?_
  refine cw_cond (b := r_1) rfl (fun hb1 => ?_) (fun hb1 => ?_)
  ·skip
   have hF2 := ct hb hb1
   refine cw_seq (cw_region ?_)
   refine sQ 17 (Y_move (v := vi (i : Int)) rfl rfl) ?_
   refine sQ 4 (Y_assign (v := vi (i : Int)) rfl rfl) (rw_nil (cw_ret ?_))
   obtain rfl := some_inj hF2
   obtain rfl := some_inj hL1
   obtain rfl := some_inj hF1
   exact ret1 Tryz.results102 (v1 := vi (i : Int)) (resAt_tmp rfl) ⟨rfl, (hS2.sN [])⟩
  ·skip
   have hF3 := cf' hb hb1
   refine cw_skip (cw_region ?_)
   refine sQ 18 (Y_add (k := .i64) (a := (i : Int)) (b := 1) rfl (hf.get 8 3 rfl) rfl) ?_
   refine sQ 8 (Y_move (v := vi (i64.wrap ((i : Int) + 1))) rfl rfl) (rw_nil ?_)
   obtain rfl := some_inj hF3
   exact ⟨k_1, Nat.lt_succ_self _, i + 1, (FF.cons (hf.get 0 0 rfl) (FF.cons (hf.get 1 1 rfl) (FF.cons (hf.get 7 2 rfl) (FF.cons (congrArg (Value.int .i64) (wr_succ hlt1 hN)) FF.nil)))), (hS2.sel [] rfl rfl), (by omega), hL1⟩
 ·skip
  obtain rfl : k_ = 0 := by have h := of_decide_eq_false hlt; omega
  refine cw_exit rfl ?_
  obtain rfl := some_inj hL
  refine cw_seq (cw_region ?_)
  refine sQ 4 (Y_assign (v := vi (-1)) rfl rfl) (rw_nil (cw_ret ?_))
  obtain rfl := some_inj hF1
  exact ret1 Tryz.results102 (v1 := vi (-1)) (resAt_tmp rfl) ⟨rfl, (hS1.sN [])⟩

theorem c_slices_ContainsFunc_impl_Dyadic_impl_Dyadic (s : List TDyadic) (f_ : TDyadic → Option (Bool)) (B : Option Addr) (c n : Nat) (kf : Nat) (caps : Array Value) (Rf : List Ro) (w0 : World) (hn : s.length = n) (hk : callB Tryz.prog kf = true) (hp : ∀ (w : World), ST w [] w [] Rf → ∀ (x : TDyadic) (y : Bool), f_ x = some y → CV Tryz.prog kf ((gD_ x) :: caps.toList).toArray w (fun v w' => v = .bool y ∧ ST w [] w' [] [])) (hS : ST w0 [] w0 [] (⟨B, (s.flatMap eN0)⟩ :: Rf)) {r_ : Bool} (hF : F_slices_ContainsFunc_impl_Dyadic_impl_Dyadic s f_ = some r_) :
  CV Tryz.prog 59 #[.slice B n c, .func (.func kf) #[] caps] w0 (fun v w' => v = .bool r_ ∧ ST w0 [] w' [] []) := by
 subst hn
 unfold F_slices_ContainsFunc_impl_Dyadic_impl_Dyadic at hF
 refine cv_of_cw 9 Tryz.func59 rfl Tryz.ntmps59 rfl ?_
 refine cw_seq (cw_region ?_)
 refine sQ 4 (Y_assign (v := .bool false) rfl rfl) (rw_nil (cw_seq (cw_region ?_)))
 refine sQ 5 (Y_move (v := .slice B s.length c) rfl rfl) ?_
 refine sQ 6 (Y_move (v := .func (.func kf) #[] caps) rfl rfl) ?_
 obtain ⟨r_1, hc, hF⟩ := bind_inv hF
 refine sc 7 rfl rfl (Yc_func (g := 102) (vs := [.slice B s.length c, .func (.func kf) #[] caps]) k_call_102 rfl (mc rfl (mc rfl mn)) (c_slices_IndexFunc_impl_Dyadic_impl_Dyadic s f_ B c s.length kf caps Rf _ rfl hk hp (hS.innS (subc (mem_at (i := 0) rfl) (fun _ h => mOd (i := 1) h))) hc)) ?_
 rintro _ w_ ⟨rfl, hd⟩
 have hS1 := hS.out00 hd
 refine sQ 8 (Y_ge (k := .i64) (a := r_1) (b := 0) rfl rfl rfl) ?_
 refine sQ 4 (Y_assign (v := .bool (decide (0 ≤ r_1))) rfl rfl) (rw_nil (cw_ret ?_))
 obtain rfl := some_inj hF
 exact ret1 Tryz.results59 (v1 := .bool (decide (0 ≤ r_1))) (resAt_tmp rfl) ⟨rfl, (hS1.sN [])⟩

theorem c_impl_within (n : Int) (low : Int) (high : Int)  (w0 : World)  (hS : ST w0 [] w0 [] []) {r_ : Bool} (hF : F_impl_within n low high = some r_) :
  CV Tryz.prog 73 #[vi n, vi low, vi high] w0 (fun v w' => v = .bool r_ ∧ ST w0 [] w' [] []) := by
 unfold F_impl_within at hF
 refine cv_of_cw 15 Tryz.func73 rfl Tryz.ntmps73 rfl ?_
 refine cw_seq (cw_region ?_)
 refine sQ 6 (Y_assign (v := .bool false) rfl rfl) (rw_nil (cw_seq (cw_region ?_)))
 refine sQ 7 (Y_move (v := vi low) rfl rfl) ?_
 refine sQ 8 (Y_move (v := vi n) rfl rfl) ?_
 refine sQ 9 (Y_le (k := .i64) (a := low) (b := n) rfl rfl rfl) ?_
 refine sQ 10 (Y_move (v := .bool (decide (low ≤ n))) rfl rfl) ?_
 refine sgq 11 (B := (decide (low ≤ n))) (v := vi n) rfl rfl (wT 10) (fun hg => (Y_move (v := vi n) rfl rfl)) ?_
 refine sgq 12 (B := (decide (low ≤ n))) (v := vi high) rfl rfl (wT 10) (fun hg1 => (Y_move (v := vi high) rfl rfl)) ?_
 refine sgq 13 (B := (decide (low ≤ n))) (v := .bool (decide (n ≤ high))) rfl rfl (wT 10) (fun hg2 => (Y_le (k := .i64) (a := n) (b := high) rfl (gv_of (v := vi n) hg2) (gv_of (v := vi high) hg2))) ?_
 refine sQ 14 (Y_and (b := (decide (low ≤ n))) (z := (decide (n ≤ high))) rfl rfl rfl rfl) ?_
 refine sQ 6 (Y_assign (v := .bool ((decide (low ≤ n)) && (decide (n ≤ high)))) rfl rfl) (rw_nil (cw_ret ?_))
 obtain rfl := some_inj hF
 exact ret1 Tryz.results73 (v1 := .bool ((decide (low ≤ n)) && (decide (n ≤ high)))) (resAt_tmp rfl) ⟨rfl, (hS.sN [])⟩

theorem c_impl_isCoef (n : Int)  (w0 : World)  (hS : ST w0 [] w0 [] []) {r_ : Bool} (hF : F_impl_isCoef n = some r_) :
  CV Tryz.prog 142 #[vi n] w0 (fun v w' => v = .bool r_ ∧ ST w0 [] w' [] []) := by
 unfold F_impl_isCoef at hF
 refine cv_of_cw 5 Tryz.func142 rfl Tryz.ntmps142 rfl ?_
 refine cw_seq (cw_region ?_)
 refine sQ 2 (Y_assign (v := .bool false) rfl rfl) (rw_nil (cw_seq (cw_region ?_)))
 refine sQ 3 (Y_move (v := vi n) rfl rfl) ?_
 obtain ⟨r_1, hc, hF⟩ := bind_inv hF
 refine sc 4 rfl rfl (Yc_func (g := 73) (vs := [vi n, vi (-1000000000), vi 1000000000]) k_call_73 rfl (mc rfl (mc rfl (mc rfl mn))) (c_impl_within n (-1000000000) 1000000000 _  (hS.inn0 [] rfl) hc)) ?_
 rintro _ w_ ⟨rfl, hd⟩
 have hS1 := hS.out00 hd
 refine sQ 2 (Y_assign (v := .bool r_1) rfl rfl) (rw_nil (cw_ret ?_))
 obtain rfl := some_inj hF
 exact ret1 Tryz.results142 (v1 := .bool r_1) (resAt_tmp rfl) ⟨rfl, (hS1.sN [])⟩

theorem c_impl_IsValidRing (x : TRing)  (w0 : World)  (hS : ST w0 [] w0 [] []) {r_ : Bool} (hF : F_impl_IsValidRing x = some r_) :
  CV Tryz.prog 119 #[gR_ x] w0 (fun v w' => v = .bool r_ ∧ ST w0 [] w' [] []) := by
 unfold F_impl_IsValidRing at hF
 refine cv_of_cw 21 Tryz.func119 rfl Tryz.ntmps119 rfl ?_
 refine cw_seq (cw_region ?_)
 refine sS 1 (Ys_box (T := 63) (v := gR_ x) (cs := kR_ x) (m := 4) hS rfl rfl rfl rfl) ?_
 rintro _ w_ ⟨b, rfl, hS1⟩
 refine sQ 2 (Y_assign (v := .bool false) rfl rfl) (rw_nil (cw_seq (cw_region ?_)))
 refine sQ 3 (Y_fieldAddr (B := aD b) (i := 0) (s := 0) k_fd_63_0_0_3 k_sz_3_1 rfl rfl) ?_
 refine sQ 4 (Y_load1 (B := aD b) (i := 0) (cs := kR_ x) (v := vi x.A) k_sc_3 rfl rfl (hS1.cf (i := 0) rfl) rfl) ?_
 obtain ⟨r_1, hc, hF⟩ := bind_inv hF
 refine sc 5 rfl rfl (Yc_func (g := 142) (vs := [vi x.A]) k_call_142 rfl (mc rfl mn) (c_impl_isCoef x.A _  (hS1.inn0 [] rfl) hc)) ?_
 rintro _ w_1 ⟨rfl, hd⟩
 have hS2 := hS1.out00 hd
 refine sQ 6 (Y_move (v := .bool r_1) rfl rfl) ?_
 refine sgq 7 (B := r_1) (v := pt (aD b) 1) rfl rfl (wT 6) (fun hg => (Y_fieldAddr (B := aD b) (i := 0) (s := 0) k_fd_63_1_1_3 k_sz_3_1 rfl rfl)) ?_
 refine sgq 8 (B := r_1) (v := vi x.B) rfl rfl (wT 6) (fun hg1 => (Y_load1 (B := aD b) (i := 1) (cs := kR_ x) (v := vi x.B) k_sc_3 rfl (gv_of (v := pt (aD b) 1) hg1) (hS2.cf (i := 0) rfl) rfl)) ?_
 obtain ⟨r_2, hc1, hF⟩ := bind_inv hF
 refine sgc 9 (B := r_1) (v := .bool r_2) (F := hS2.fn) rfl rfl (wT 6) hS2 (fun hg2 => (Yc_func (g := 142) (vs := [vi x.B]) k_call_142 rfl (mc (gv_of (v := vi x.B) hg2) mn) (CV.mono (c_impl_isCoef x.B _  (hS2.inn0 [] rfl) (gb_inv hc1 hg2)) (by rintro _ _ ⟨rfl, h⟩; exact ⟨rfl, hS2.out00 h⟩)))) ?_
 rintro w_2 hS3
 refine sQ 10 (Y_and (b := r_1) (z := r_2) rfl rfl rfl rfl) ?_
 refine sQ 11 (Y_move (v := .bool (r_1 && r_2)) rfl rfl) ?_
 refine sgq 12 (B := (r_1 && r_2)) (v := pt (aD b) 2) rfl rfl (wT 11) (fun hg3 => (Y_fieldAddr (B := aD b) (i := 0) (s := 0) k_fd_63_2_2_3 k_sz_3_1 rfl rfl)) ?_
 refine sgq 13 (B := (r_1 && r_2)) (v := vi x.C) rfl rfl (wT 11) (fun hg4 => (Y_load1 (B := aD b) (i := 2) (cs := kR_ x) (v := vi x.C) k_sc_3 rfl (gv_of (v := pt (aD b) 2) hg4) (hS3.cf (i := 0) rfl) rfl)) ?_
 obtain ⟨r_3, hc2, hF⟩ := bind_inv hF
 refine sgc 14 (B := (r_1 && r_2)) (v := .bool r_3) (F := hS3.fn) rfl rfl (wT 11) hS3 (fun hg5 => (Yc_func (g := 142) (vs := [vi x.C]) k_call_142 rfl (mc (gv_of (v := vi x.C) hg5) mn) (CV.mono (c_impl_isCoef x.C _  (hS3.inn0 [] rfl) (gb_inv hc2 hg5)) (by rintro _ _ ⟨rfl, h⟩; exact ⟨rfl, hS3.out00 h⟩)))) ?_
 rintro w_3 hS4
 refine sQ 15 (Y_and (b := (r_1 && r_2)) (z := r_3) rfl rfl rfl rfl) ?_
 refine sQ 16 (Y_move (v := .bool ((r_1 && r_2) && r_3)) rfl rfl) ?_
 refine sgq 17 (B := ((r_1 && r_2) && r_3)) (v := pt (aD b) 3) rfl rfl (wT 16) (fun hg6 => (Y_fieldAddr (B := aD b) (i := 0) (s := 0) k_fd_63_3_3_3 k_sz_3_1 rfl rfl)) ?_
 refine sgq 18 (B := ((r_1 && r_2) && r_3)) (v := vi x.D) rfl rfl (wT 16) (fun hg7 => (Y_load1 (B := aD b) (i := 3) (cs := kR_ x) (v := vi x.D) k_sc_3 rfl (gv_of (v := pt (aD b) 3) hg7) (hS4.cf (i := 0) rfl) rfl)) ?_
 obtain ⟨r_4, hc3, hF⟩ := bind_inv hF
 refine sgc 19 (B := ((r_1 && r_2) && r_3)) (v := .bool r_4) (F := hS4.fn) rfl rfl (wT 16) hS4 (fun hg8 => (Yc_func (g := 142) (vs := [vi x.D]) k_call_142 rfl (mc (gv_of (v := vi x.D) hg8) mn) (CV.mono (c_impl_isCoef x.D _  (hS4.inn0 [] rfl) (gb_inv hc3 hg8)) (by rintro _ _ ⟨rfl, h⟩; exact ⟨rfl, hS4.out00 h⟩)))) ?_
 rintro w_4 hS5
 refine sQ 20 (Y_and (b := ((r_1 && r_2) && r_3)) (z := r_4) rfl rfl rfl rfl) ?_
 refine sQ 2 (Y_assign (v := .bool (((r_1 && r_2) && r_3) && r_4)) rfl rfl) (rw_nil (cw_ret ?_))
 obtain rfl := some_inj hF
 exact ret1 Tryz.results119 (v1 := .bool (((r_1 && r_2) && r_3) && r_4)) (resAt_tmp rfl) ⟨rfl, (hS5.sN [])⟩

theorem c_impl_isEven (x : TRing)  (w0 : World)  (hS : ST w0 [] w0 [] []) {r_ : Bool} (hF : F_impl_isEven x = some r_) :
  CV Tryz.prog 120 #[gR_ x] w0 (fun v w' => v = .bool r_ ∧ ST w0 [] w' [] []) := by
 unfold F_impl_isEven at hF
 refine cv_of_cw 19 Tryz.func120 rfl Tryz.ntmps120 rfl ?_
 refine cw_seq (cw_region ?_)
 refine sS 1 (Ys_box (T := 63) (v := gR_ x) (cs := kR_ x) (m := 4) hS rfl rfl rfl rfl) ?_
 rintro _ w_ ⟨b, rfl, hS1⟩
 refine sQ 2 (Y_assign (v := .bool false) rfl rfl) (rw_nil (cw_seq (cw_region ?_)))
 refine sQ 3 (Y_fieldAddr (B := aD b) (i := 0) (s := 0) k_fd_63_0_0_3 k_sz_3_1 rfl rfl) ?_
 refine sQ 4 (Y_load1 (B := aD b) (i := 0) (cs := kR_ x) (v := vi x.A) k_sc_3 rfl rfl (hS1.cf (i := 0) rfl) rfl) ?_
 refine sQ 5 (Y_fieldAddr (B := aD b) (i := 0) (s := 0) k_fd_63_2_2_3 k_sz_3_1 rfl rfl) ?_
 refine sQ 6 (Y_load1 (B := aD b) (i := 2) (cs := kR_ x) (v := vi x.C) k_sc_3 rfl rfl (hS1.cf (i := 0) rfl) rfl) ?_
 refine sQ 7 (Y_add (k := .i64) (a := x.A) (b := x.C) rfl rfl rfl) ?_
 refine sQ 8 (Y_rem (k := .i64) (a := (i64.wrap (x.A + x.C))) (b := 2) rfl rfl rfl (by decide)) ?_
 refine sQ 9 (Y_eq (k := .i64) (a := (Int.tmod (i64.wrap (x.A + x.C)) 2)) (b := 0) rfl rfl rfl) ?_
 refine sQ 10 (Y_move (v := .bool ((Int.tmod (i64.wrap (x.A + x.C)) 2) == 0)) rfl rfl) ?_
 refine sgq 11 (B := ((Int.tmod (i64.wrap (x.A + x.C)) 2) == 0)) (v := pt (aD b) 1) rfl rfl (wT 10) (fun hg => (Y_fieldAddr (B := aD b) (i := 0) (s := 0) k_fd_63_1_1_3 k_sz_3_1 rfl rfl)) ?_
 refine sgq 12 (B := ((Int.tmod (i64.wrap (x.A + x.C)) 2) == 0)) (v := vi x.B) rfl rfl (wT 10) (fun hg1 => (Y_load1 (B := aD b) (i := 1) (cs := kR_ x) (v := vi x.B) k_sc_3 rfl (gv_of (v := pt (aD b) 1) hg1) (hS1.cf (i := 0) rfl) rfl)) ?_
 refine sgq 13 (B := ((Int.tmod (i64.wrap (x.A + x.C)) 2) == 0)) (v := pt (aD b) 3) rfl rfl (wT 10) (fun hg2 => (Y_fieldAddr (B := aD b) (i := 0) (s := 0) k_fd_63_3_3_3 k_sz_3_1 rfl rfl)) ?_
 refine sgq 14 (B := ((Int.tmod (i64.wrap (x.A + x.C)) 2) == 0)) (v := vi x.D) rfl rfl (wT 10) (fun hg3 => (Y_load1 (B := aD b) (i := 3) (cs := kR_ x) (v := vi x.D) k_sc_3 rfl (gv_of (v := pt (aD b) 3) hg3) (hS1.cf (i := 0) rfl) rfl)) ?_
 refine sgq 15 (B := ((Int.tmod (i64.wrap (x.A + x.C)) 2) == 0)) (v := vi (i64.wrap (x.B + x.D))) rfl rfl (wT 10) (fun hg4 => (Y_add (k := .i64) (a := x.B) (b := x.D) rfl (gv_of (v := vi x.B) hg4) (gv_of (v := vi x.D) hg4))) ?_
 refine sgq 16 (B := ((Int.tmod (i64.wrap (x.A + x.C)) 2) == 0)) (v := vi (Int.tmod (i64.wrap (x.B + x.D)) 2)) rfl rfl (wT 10) (fun hg5 => (Y_rem (k := .i64) (a := (i64.wrap (x.B + x.D))) (b := 2) rfl (gv_of (v := vi (i64.wrap (x.B + x.D))) hg5) rfl (by decide))) ?_
 refine sgq 17 (B := ((Int.tmod (i64.wrap (x.A + x.C)) 2) == 0)) (v := .bool ((Int.tmod (i64.wrap (x.B + x.D)) 2) == 0)) rfl rfl (wT 10) (fun hg6 => (Y_eq (k := .i64) (a := (Int.tmod (i64.wrap (x.B + x.D)) 2)) (b := 0) rfl (gv_of (v := vi (Int.tmod (i64.wrap (x.B + x.D)) 2)) hg6) rfl)) ?_
 refine sQ 18 (Y_and (b := ((Int.tmod (i64.wrap (x.A + x.C)) 2) == 0)) (z := ((Int.tmod (i64.wrap (x.B + x.D)) 2) == 0)) rfl rfl rfl rfl) ?_
 refine sQ 2 (Y_assign (v := .bool (((Int.tmod (i64.wrap (x.A + x.C)) 2) == 0) && ((Int.tmod (i64.wrap (x.B + x.D)) 2) == 0))) rfl rfl) (rw_nil (cw_ret ?_))
 obtain rfl := some_inj hF
 exact ret1 Tryz.results120 (v1 := .bool (((Int.tmod (i64.wrap (x.A + x.C)) 2) == 0) && ((Int.tmod (i64.wrap (x.B + x.D)) 2) == 0))) (resAt_tmp rfl) ⟨rfl, (hS1.sN [])⟩

theorem c_impl_IsValidDyadic (x : TDyadic)  (w0 : World)  (hS : ST w0 [] w0 [] []) {r_ : Bool} (hF : F_impl_IsValidDyadic x = some r_) :
  CV Tryz.prog 83 #[gD_ x] w0 (fun v w' => v = .bool r_ ∧ ST w0 [] w' [] []) := by
 unfold F_impl_IsValidDyadic at hF
 refine cv_of_cw 22 Tryz.func83 rfl Tryz.ntmps83 rfl ?_
 refine cw_seq (cw_region ?_)
 refine sS 1 (Ys_box (T := 65) (v := gD_ x) (cs := kD_ x) (m := 5) hS rfl rfl rfl rfl) ?_
 rintro _ w_ ⟨b, rfl, hS1⟩
 refine sQ 2 (Y_assign (v := .bool false) rfl rfl) (rw_nil (cw_seq (cw_region ?_)))
 refine sQ 3 (Y_fieldAddr (B := aD b) (i := 0) (s := 3) k_fd_65_0_0_63 k_sz_63_4 rfl rfl) ?_
 refine sQ 4 (Y_loadA (B := aD b) (i := 0) (cs := kD_ x) (vs := kR_ x.Num) k_ag_63 k_sz_63_4 rfl rfl (hS1.cf (i := 0) rfl) rfl rfl) ?_
 obtain ⟨r_1, hc, hF⟩ := bind_inv hF
 refine sc 5 rfl rfl (Yc_func (g := 119) (vs := [gR_ x.Num]) k_call_119 rfl (mc rfl mn) (c_impl_IsValidRing x.Num _  (hS1.inn0 [] rfl) hc)) ?_
 rintro _ w_1 ⟨rfl, hd⟩
 have hS2 := hS1.out00 hd
 refine sQ 6 (Y_move (v := .bool r_1) rfl rfl) ?_
 refine sgq 7 (B := r_1) (v := pt (aD b) 4) rfl rfl (wT 6) (fun hg => (Y_fieldAddr (B := aD b) (i := 0) (s := 0) k_fd_65_1_4_3 k_sz_3_1 rfl rfl)) ?_
 refine sgq 8 (B := r_1) (v := vi x.Exp) rfl rfl (wT 6) (fun hg1 => (Y_load1 (B := aD b) (i := 4) (cs := kD_ x) (v := vi x.Exp) k_sc_3 rfl (gv_of (v := pt (aD b) 4) hg1) (hS2.cf (i := 0) rfl) rfl)) ?_
 obtain ⟨r_2, hc1, hF⟩ := bind_inv hF
 refine sgc 9 (B := r_1) (v := .bool r_2) (F := hS2.fn) rfl rfl (wT 6) hS2 (fun hg2 => (Yc_func (g := 73) (vs := [vi x.Exp, vi 0, vi 60]) k_call_73 rfl (mc (gv_of (v := vi x.Exp) hg2) (mc rfl (mc rfl mn))) (CV.mono (c_impl_within x.Exp 0 60 _  (hS2.inn0 [] rfl) (gb_inv hc1 hg2)) (by rintro _ _ ⟨rfl, h⟩; exact ⟨rfl, hS2.out00 h⟩)))) ?_
 rintro w_2 hS3
 refine sQ 10 (Y_and (b := r_1) (z := r_2) rfl rfl rfl rfl) ?_
 refine sQ 11 (Y_move (v := .bool (r_1 && r_2)) rfl rfl) ?_
 refine sgq 12 (B := (r_1 && r_2)) (v := pt (aD b) 4) rfl rfl (wT 11) (fun hg3 => (Y_fieldAddr (B := aD b) (i := 0) (s := 0) k_fd_65_1_4_3 k_sz_3_1 rfl rfl)) ?_
 refine sgq 13 (B := (r_1 && r_2)) (v := vi x.Exp) rfl rfl (wT 11) (fun hg4 => (Y_load1 (B := aD b) (i := 4) (cs := kD_ x) (v := vi x.Exp) k_sc_3 rfl (gv_of (v := pt (aD b) 4) hg4) (hS3.cf (i := 0) rfl) rfl)) ?_
 refine sgq 14 (B := (r_1 && r_2)) (v := .bool (x.Exp == 0)) rfl rfl (wT 11) (fun hg5 => (Y_eq (k := .i64) (a := x.Exp) (b := 0) rfl (gv_of (v := vi x.Exp) hg5) rfl)) ?_
 refine sgq 15 (B := (r_1 && r_2)) (v := .bool (x.Exp == 0)) rfl rfl (wT 11) (fun hg6 => (Y_move (v := .bool (x.Exp == 0)) rfl (gv_of (v := .bool (x.Exp == 0)) hg6))) ?_
 refine sgq 16 (B := ((r_1 && r_2) && (!(x.Exp == 0)))) (v := pt (aD b) 0) rfl rfl (wt_gf (gd_of (t := 15) (by kernel_rfl) rfl)) (fun hg7 => (Y_fieldAddr (B := aD b) (i := 0) (s := 3) k_fd_65_0_0_63 k_sz_63_4 rfl rfl)) ?_
 refine sgq 17 (B := ((r_1 && r_2) && (!(x.Exp == 0)))) (v := gR_ x.Num) rfl rfl (wt_gf (gd_of (t := 15) (by kernel_rfl) rfl)) (fun hg8 => (Y_loadA (B := aD b) (i := 0) (cs := kD_ x) (vs := kR_ x.Num) k_ag_63 k_sz_63_4 rfl (gv_of (v := pt (aD b) 0) hg8) (hS3.cf (i := 0) rfl) rfl rfl)) ?_
 obtain ⟨r_3, hc2, hF⟩ := bind_inv hF
 refine sgc 18 (B := ((r_1 && r_2) && (!(x.Exp == 0)))) (v := .bool r_3) (F := hS3.fn) rfl rfl (wt_gf (gd_of (t := 15) (by kernel_rfl) rfl)) hS3 (fun hg9 => (Yc_func (g := 120) (vs := [gR_ x.Num]) k_call_120 rfl (mc (gv_of (v := gR_ x.Num) hg9) mn) (CV.mono (c_impl_isEven x.Num _  (hS3.inn0 [] rfl) (gb_inv hc2 hg9)) (by rintro _ _ ⟨rfl, h⟩; exact ⟨rfl, hS3.out00 h⟩)))) ?_
 rintro w_3 hS4
 refine sgq 19 (B := ((r_1 && r_2) && (!(x.Exp == 0)))) (v := .bool (!r_3)) rfl rfl (wt_gf (gd_of (t := 15) (by kernel_rfl) rfl)) (fun hg10 => (Y_not (p := r_3) rfl (gv_of (v := .bool r_3) hg10))) ?_
 refine sgq 20 (B := (r_1 && r_2)) (v := .bool ((x.Exp == 0) || (!r_3))) rfl rfl (wT 11) (fun hg11 => (Y_or (b := (x.Exp == 0)) (z := (!r_3)) rfl (gv_of (v := .bool (x.Exp == 0)) hg11) rfl (gv_and (B := (r_1 && r_2)) (C := (!(x.Exp == 0))) (v := .bool (!r_3)) hg11))) ?_
 refine sQ 21 (Y_and (b := (r_1 && r_2)) (z := ((x.Exp == 0) || (!r_3))) rfl rfl rfl rfl) ?_
 refine sQ 2 (Y_assign (v := .bool ((r_1 && r_2) && ((x.Exp == 0) || (!r_3)))) rfl rfl) (rw_nil (cw_ret ?_))
 obtain rfl := some_inj hF
 exact ret1 Tryz.results83 (v1 := .bool ((r_1 && r_2) && ((x.Exp == 0) || (!r_3)))) (resAt_tmp rfl) ⟨rfl, (hS4.sN [])⟩

theorem c_impl_isReal (x : TDyadic)  (w0 : World)  (hS : ST w0 [] w0 [] []) {r_ : Bool} (hF : F_impl_isReal x = some r_) :
  CV Tryz.prog 61 #[gD_ x] w0 (fun v w' => v = .bool r_ ∧ ST w0 [] w' [] []) := by
 unfold F_impl_isReal at hF
 refine cv_of_cw 21 Tryz.func61 rfl Tryz.ntmps61 rfl ?_
 refine cw_seq (cw_region ?_)
 refine sS 1 (Ys_box (T := 65) (v := gD_ x) (cs := kD_ x) (m := 5) hS rfl rfl rfl rfl) ?_
 rintro _ w_ ⟨b, rfl, hS1⟩
 refine sQ 2 (Y_assign (v := .bool false) rfl rfl) (rw_nil (cw_seq (cw_region ?_)))
 refine sQ 3 (Y_loadA (B := aD b) (i := 0) (cs := kD_ x) (vs := kD_ x) k_ag_65 k_sz_65_5 rfl rfl (hS1.cf (i := 0) rfl) rfl rfl) ?_
 obtain ⟨r_1, hc, hF⟩ := bind_inv hF
 refine sc 4 rfl rfl (Yc_func (g := 83) (vs := [gD_ x]) k_call_83 rfl (mc rfl mn) (c_impl_IsValidDyadic x _  (hS1.inn0 [] rfl) hc)) ?_
 rintro _ w_1 ⟨rfl, hd⟩
 have hS2 := hS1.out00 hd
 refine sQ 5 (Y_move (v := .bool r_1) rfl rfl) ?_
 refine sgq 6 (B := r_1) (v := pt (aD b) 0) rfl rfl (wT 5) (fun hg => (Y_fieldAddr (B := aD b) (i := 0) (s := 3) k_fd_65_0_0_63 k_sz_63_4 rfl rfl)) ?_
 refine sgq 7 (B := r_1) (v := pt (aD b) 2) rfl rfl (wT 5) (fun hg1 => (Y_fieldAddr (B := aD b) (i := 0) (s := 0) k_fd_63_2_2_3 k_sz_3_1 rfl (gv_of (v := pt (aD b) 0) hg1))) ?_
 refine sgq 8 (B := r_1) (v := vi x.Num.C) rfl rfl (wT 5) (fun hg2 => (Y_load1 (B := aD b) (i := 2) (cs := kD_ x) (v := vi x.Num.C) k_sc_3 rfl (gv_of (v := pt (aD b) 2) hg2) (hS2.cf (i := 0) rfl) rfl)) ?_
 refine sgq 9 (B := r_1) (v := .bool (x.Num.C == 0)) rfl rfl (wT 5) (fun hg3 => (Y_eq (k := .i64) (a := x.Num.C) (b := 0) rfl (gv_of (v := vi x.Num.C) hg3) rfl)) ?_
 refine sQ 10 (Y_and (b := r_1) (z := (x.Num.C == 0)) rfl rfl rfl rfl) ?_
 refine sQ 11 (Y_move (v := .bool (r_1 && (x.Num.C == 0))) rfl rfl) ?_
 refine sgq 12 (B := (r_1 && (x.Num.C == 0))) (v := pt (aD b) 0) rfl rfl (wT 11) (fun hg4 => (Y_fieldAddr (B := aD b) (i := 0) (s := 3) k_fd_65_0_0_63 k_sz_63_4 rfl rfl)) ?_
 refine sgq 13 (B := (r_1 && (x.Num.C == 0))) (v := pt (aD b) 3) rfl rfl (wT 11) (fun hg5 => (Y_fieldAddr (B := aD b) (i := 0) (s := 0) k_fd_63_3_3_3 k_sz_3_1 rfl (gv_of (v := pt (aD b) 0) hg5))) ?_
 refine sgq 14 (B := (r_1 && (x.Num.C == 0))) (v := vi x.Num.D) rfl rfl (wT 11) (fun hg6 => (Y_load1 (B := aD b) (i := 3) (cs := kD_ x) (v := vi x.Num.D) k_sc_3 rfl (gv_of (v := pt (aD b) 3) hg6) (hS2.cf (i := 0) rfl) rfl)) ?_
 refine sgq 15 (B := (r_1 && (x.Num.C == 0))) (v := pt (aD b) 0) rfl rfl (wT 11) (fun hg7 => (Y_fieldAddr (B := aD b) (i := 0) (s := 3) k_fd_65_0_0_63 k_sz_63_4 rfl rfl)) ?_
 refine sgq 16 (B := (r_1 && (x.Num.C == 0))) (v := pt (aD b) 1) rfl rfl (wT 11) (fun hg8 => (Y_fieldAddr (B := aD b) (i := 0) (s := 0) k_fd_63_1_1_3 k_sz_3_1 rfl (gv_of (v := pt (aD b) 0) hg8))) ?_
 refine sgq 17 (B := (r_1 && (x.Num.C == 0))) (v := vi x.Num.B) rfl rfl (wT 11) (fun hg9 => (Y_load1 (B := aD b) (i := 1) (cs := kD_ x) (v := vi x.Num.B) k_sc_3 rfl (gv_of (v := pt (aD b) 1) hg9) (hS2.cf (i := 0) rfl) rfl)) ?_
 refine sgq 18 (B := (r_1 && (x.Num.C == 0))) (v := vi (i64.wrap (-x.Num.B))) rfl rfl (wT 11) (fun hg10 => (Y_neg (k := .i64) (a := x.Num.B) rfl (gv_of (v := vi x.Num.B) hg10))) ?_
 refine sgq 19 (B := (r_1 && (x.Num.C == 0))) (v := .bool (x.Num.D == (i64.wrap (-x.Num.B)))) rfl rfl (wT 11) (fun hg11 => (Y_eq (k := .i64) (a := x.Num.D) (b := (i64.wrap (-x.Num.B))) rfl (gv_of (v := vi x.Num.D) hg11) (gv_of (v := vi (i64.wrap (-x.Num.B))) hg11))) ?_
 refine sQ 20 (Y_and (b := (r_1 && (x.Num.C == 0))) (z := (x.Num.D == (i64.wrap (-x.Num.B)))) rfl rfl rfl rfl) ?_
 refine sQ 2 (Y_assign (v := .bool ((r_1 && (x.Num.C == 0)) && (x.Num.D == (i64.wrap (-x.Num.B))))) rfl rfl) (rw_nil (cw_ret ?_))
 obtain rfl := some_inj hF
 exact ret1 Tryz.results61 (v1 := .bool ((r_1 && (x.Num.C == 0)) && (x.Num.D == (i64.wrap (-x.Num.B))))) (resAt_tmp rfl) ⟨rfl, (hS2.sN [])⟩

theorem c_impl_IsValidBloch_1 (x : TDyadic)  (w0 : World)  (hS : ST w0 [] w0 [] []) {r_ : Bool} (hF : F_impl_IsValidBloch_1 x = some r_) :
  CV Tryz.prog 60 #[gD_ x] w0 (fun v w' => v = .bool r_ ∧ ST w0 [] w' [] []) := by
 unfold F_impl_IsValidBloch_1 at hF
 refine cv_of_cw 6 Tryz.func60 rfl Tryz.ntmps60 rfl ?_
 refine cw_seq (cw_region ?_)
 refine sS 1 (Ys_box (T := 65) (v := gD_ x) (cs := kD_ x) (m := 5) hS rfl rfl rfl rfl) ?_
 rintro _ w_ ⟨b, rfl, hS1⟩
 refine sQ 2 (Y_assign (v := .bool false) rfl rfl) (rw_nil (cw_seq (cw_region ?_)))
 refine sQ 3 (Y_loadA (B := aD b) (i := 0) (cs := kD_ x) (vs := kD_ x) k_ag_65 k_sz_65_5 rfl rfl (hS1.cf (i := 0) rfl) rfl rfl) ?_
 obtain ⟨r_1, hc, hF⟩ := bind_inv hF
 refine sc 4 rfl rfl (Yc_func (g := 61) (vs := [gD_ x]) k_call_61 rfl (mc rfl mn) (c_impl_isReal x _  (hS1.inn0 [] rfl) hc)) ?_
 rintro _ w_1 ⟨rfl, hd⟩
 have hS2 := hS1.out00 hd
 refine sQ 5 (Y_not (p := r_1) rfl rfl) ?_
 refine sQ 2 (Y_assign (v := .bool (!r_1)) rfl rfl) (rw_nil (cw_ret ?_))
 obtain rfl := some_inj hF
 exact ret1 Tryz.results60 (v1 := .bool (!r_1)) (resAt_tmp rfl) ⟨rfl, (hS2.sN [])⟩

theorem c_impl_ringIf (out : TRing) (args : List TRing) (B : Option Addr) (c n : Nat) (w0 : World) (hn : args.length = n) (hS : ST w0 (bl [⟨B, 63, (args.flatMap enc_Ring), c * 4⟩]) w0 [⟨B, 63, (args.flatMap enc_Ring), c * 4⟩] []) {r_ : TRing} {r_1 : Bool} (hF : F_impl_ringIf out args = some (r_, r_1)) :
  CV Tryz.prog 143 #[gR_ out, .slice B n c] w0 (fun v w' => v = .tuple #[gR_ r_, .bool r_1] ∧ ST w0 (bl [⟨B, 63, (args.flatMap enc_Ring), c * 4⟩]) w' [] []) := by
 subst hn
 unfold F_impl_ringIf at hF
 refine cv_of_cw 23 Tryz.func143 rfl Tryz.ntmps143 rfl ?_
 refine cw_seq (cw_region ?_)
 refine sS 2 (Ys_box (T := 63) (v := gR_ out) (cs := kR_ out) (m := 4) hS rfl rfl rfl rfl) ?_
 rintro _ w_ ⟨b, rfl, hS1⟩
 refine sS 4 (Ys_alloc (T := 63) (cs := [vi 0, vi 0, vi 0, vi 0]) (m := 4) hS1 k_zero_63 rfl rfl rfl) ?_
 rintro _ w_1 ⟨b1, rfl, hS2⟩
 refine sQ 5 (Y_assign (v := .bool false) rfl rfl) (rw_nil (cw_seq (cw_seq (cw_region ?_))))
 refine sQ 8 (Y_move (v := .slice B args.length c) rfl rfl) ?_
 refine sQ 9 (Y_loadA (B := aD b) (i := 0) (cs := kR_ out) (vs := kR_ out) k_ag_63 k_sz_63_4 rfl rfl (hS2.cf (i := 1) rfl) rfl rfl) ?_
 refine sS 10 (Ys_bslice (s := 4) (len := 1) (vs := [(0, gR_ out)]) (cs := kR_ out) (zs := [vi 0, vi 0, vi 0, vi 0]) (m := 4) hS2 k_sl_169_63 k_sz_63_4 k_zc_63 rfl (mpc rfl mpn) rfl rfl rfl (by kernel_rfl) (by kernel_rfl) rfl) ?_
 rintro _ w_2 ⟨b2, rfl, hS3⟩
 obtain ⟨hap, hF⟩ := chk_inv hF
 refine sS 11 (Ys_append (s := 4) (by' := 32) (i := 0) (nn := args.length) (c := c) (k := 1) (len := (args ++ [out]).length) (B := B) (xs := ([out].flatMap enc_Ring)) (cs' := ((args ++ [out]).flatMap enc_Ring)) hS3 k_sl_169_63 k_sz_63_4 k_by_63_32 k_zero_63 rfl (by decide) rfl rfl rfl rfl (fm_lenn (l := args) enc_Ring_len rfl) rfl (hS3.cf (i := 3) rfl) (fm_lenn (l := [out]) enc_Ring_len rfl) (fm_one' (enc := enc_Ring) enc_Ring_one [out]) (by have := hap; omega) (by have := hap; simp only [maxLen]; omega) (fm_app _ _) (app_len (l := args) (l' := [out]) rfl rfl)) ?_
 rintro _ w_3 ⟨B1, c1, rfl, hS4⟩
 refine sQ 12 (Y_len (B := B1) (m := (args ++ [out]).length) (c := c1) k_sl_169_63 rfl rfl) ?_
 refine sQ 13 (Y_move (v := vi 0) rfl rfl) (rw_nil ?_)
 obtain ⟨hN, hF⟩ := chk_inv hF
 obtain ⟨z, hz, hF1⟩ := bind_inv hF
 refine cw_block ?_
 refine cw_loop (fun k f w => ∃ (i : Nat), FF f [(2, pt (aD b) 0), (4, pt (aD b1) 0), (11, .slice B1 ((args ++ [out]).length) c1), (12, vi ((args ++ [out]).length : Int)), (13, vi (i : Int))] ∧ ST w0 (bl [⟨B, 63, (args.flatMap enc_Ring), c * 4⟩]) w [⟨aD b, 63, kR_ out, 4⟩, ⟨aD b1, 63, [vi 0, vi 0, vi 0, vi 0], 4⟩, ⟨B1, 63, ((args ++ [out]).flatMap enc_Ring), c1 * 4⟩] [] ∧ i + k = (args ++ [out]).length ∧ forX (F_impl_ringIf_l1 args out) k i () = some z) ((args ++ [out]).length) ⟨0, (FF.cons rfl (FF.cons rfl (FF.cons rfl (FF.cons rfl (FF.cons rfl FF.nil))))), (hS4.sel [1, 2, 0] rfl rfl), Nat.zero_add _, hz⟩ ?_
 rintro k_ f w ⟨i, hf, hS5, hik, hL⟩
 refine cw_seq (cw_region ?_)
 refine sQ 14 (Y_lt (k := .i64) (a := (i : Int)) (b := ((args ++ [out]).length : Int)) rfl (hf.get 13 4 rfl) (hf.get 12 3 rfl)) (rw_nil (cw_seq ?_))
 refine cw_cond (b := (decide ((i : Int) < ((args ++ [out]).length : Int)))) rfl (fun hlt => ?_) (fun hlt => ?_)
 ·skip
  have hlt1 : i < (args ++ [out]).length := by have h := of_decide_eq_true hlt; omega
  obtain ⟨k_1, rfl⟩ : ∃ k2, k_ = k2 + 1 := ⟨k_ - 1, by omega⟩
  obtain ⟨y, hb, hL1⟩ := forX_go hL
  unfold F_impl_ringIf_l1 at hb
  refine cw_skip (cw_seq (cw_block (cw_seq (cw_region ?_))))
  obtain ⟨x, hx, hb⟩ := bind_inv hb
  refine sQ 15 (Y_index (B := B1) (m := (args ++ [out]).length) (c := c1) (k := .i64) (i := (i : Int)) k_sl_169_63 k_sz_63_4 rfl (hf.get 11 2 rfl) (hf.get 13 4 rfl) (gi_isSome enc_Ring_len rfl (hS5.cf (i := 2) rfl) hx) (getI_nn hx) (getI_ltI hx rfl)) ?_
  refine sQ 16 (Y_loadA (B := B1) (i := (i : Int).toNat * 4) (cs := ((args ++ [out]).flatMap enc_Ring)) (vs := kR_ x) k_ag_63 k_sz_63_4 rfl rfl (hS5.cf (i := 2) rfl) (enc_Ring_len x) (gi_seg enc_Ring_len hx)) ?_
  refine sS 7 (Ys_alloc (T := 63) (cs := [vi 0, vi 0, vi 0, vi 0]) (m := 4) hS5 k_zero_63 rfl rfl rfl) ?_
  rintro _ w_4 ⟨b3, rfl, hS6⟩
  refine s0 (Ys_store (i := 3) (s := 4) (B := aD b3) (T' := 63) (v := gR_ x) (vs := kR_ x) (k := 0) (cs' := kR_ x) hS6 k_sz_63_4 rfl rfl rfl rfl rfl rfl rfl (lB rfl) rfl rfl) ?_
  rintro _ w_5 ⟨rfl, hS7⟩
  refine rw_nil (cw_seq (cw_region ?_))
  refine sQ 17 (Y_loadA (B := aD b3) (i := 0) (cs := kR_ x) (vs := kR_ x) k_ag_63 k_sz_63_4 rfl rfl (hS7.cf (i := 3) rfl) rfl rfl) ?_
  obtain ⟨r_2, hc, hb⟩ := bind_inv hb
  refine sc 18 rfl rfl (Yc_func (g := 119) (vs := [gR_ x]) k_call_119 rfl (mc rfl mn) (c_impl_IsValidRing x _  (hS7.inn0 [] rfl) hc)) ?_
  rintro _ w_6 ⟨rfl, hd⟩
  have hS8 := hS7.out00 hd
  refine sQ 19 (Y_not (p := r_2) rfl rfl) (rw_nil ?_)
  refine cw_cond (b := (!r_2)) rfl (fun hb1 => ?_) (fun hb1 => ?_)
  ·skip
   have hF2 := ct hb hb1
   refine cw_seq (cw_region ?_)
   refine sQ 20 (Y_buildS (zs := [vi 0, vi 0, vi 0, vi 0]) (vs := []) (cs := [vi 0, vi 0, vi 0, vi 0]) k_pl_63 k_zero_63 rfl mpn rfl) ?_
   refine s0 (Ys_store (i := 1) (s := 4) (B := aD b1) (T' := 63) (v := .agg #[vi 0, vi 0, vi 0, vi 0]) (vs := [vi 0, vi 0, vi 0, vi 0]) (k := 0) (cs' := [vi 0, vi 0, vi 0, vi 0]) hS8 k_sz_63_4 rfl (hf.get 4 1 rfl) rfl rfl rfl rfl rfl (lB rfl) rfl rfl) ?_
   rintro _ w_7 ⟨rfl, hS9⟩
   have hS9 : ST w0 (bl [⟨B, 63, (args.flatMap enc_Ring), c * 4⟩]) _ [⟨aD b, 63, kR_ out, 4⟩, ⟨aD b1, 63, [vi 0, vi 0, vi 0, vi 0], 4⟩, ⟨B1, 63, ((args ++ [out]).flatMap enc_Ring), c1 * 4⟩, ⟨aD b3, 63, kR_ x, 4⟩] [] := hS9
   refine sQ 5 (Y_assign (v := .bool false) rfl rfl) (rw_nil (cw_ret ?_))
   obtain rfl := some_inj hF2
   obtain rfl := some_inj hL1
   obtain ⟨rfl, rfl⟩ := pr2 (some_inj hF1)
   exact ret2 Tryz.results143 (v1 := .agg #[vi 0, vi 0, vi 0, vi 0]) (resAt_cellA (B := aD b1) (i := 0) (cs := [vi 0, vi 0, vi 0, vi 0]) (vs := [vi 0, vi 0, vi 0, vi 0]) (hf.get 4 1 rfl) k_ag_63 k_sz_63_4 (hS9.cf (i := 1) rfl) rfl rfl) (v2 := .bool false) (resAt_tmp rfl) ⟨rfl, (hS9.sN [])⟩
  ·skip
   have hF3 := cf' hb hb1
   refine cw_skip (cw_region ?_)
   refine sQ 21 (Y_add (k := .i64) (a := (i : Int)) (b := 1) rfl (hf.get 13 4 rfl) rfl) ?_
   refine sQ 13 (Y_move (v := vi (i64.wrap ((i : Int) + 1))) rfl rfl) (rw_nil ?_)
   obtain rfl := some_inj hF3
   exact ⟨k_1, Nat.lt_succ_self _, i + 1, (FF.cons (hf.get 2 0 rfl) (FF.cons (hf.get 4 1 rfl) (FF.cons (hf.get 11 2 rfl) (FF.cons (hf.get 12 3 rfl) (FF.cons (congrArg (Value.int .i64) (wr_succ hlt1 hN)) FF.nil))))), (hS8.sel [0, 1, 2] rfl rfl), (by omega), hL1⟩
 ·skip
  obtain rfl : k_ = 0 := by have h := of_decide_eq_false hlt; omega
  refine cw_exit rfl ?_
  obtain rfl := some_inj hL
  refine cw_seq (cw_region ?_)
  refine sQ 22 (Y_loadA (B := aD b) (i := 0) (cs := kR_ out) (vs := kR_ out) k_ag_63 k_sz_63_4 rfl (hf.get 2 0 rfl) (hS5.cf (i := 0) rfl) rfl rfl) ?_
  refine s0 (Ys_store (i := 1) (s := 4) (B := aD b1) (T' := 63) (v := gR_ out) (vs := kR_ out) (k := 0) (cs' := kR_ out) hS5 k_sz_63_4 rfl (hf.get 4 1 rfl) rfl rfl rfl rfl rfl (lB rfl) rfl rfl) ?_
  rintro _ w_8 ⟨rfl, hS10⟩
  refine sQ 5 (Y_assign (v := .bool true) rfl rfl) (rw_nil (cw_ret ?_))
  obtain ⟨rfl, rfl⟩ := pr2 (some_inj hF1)
  exact ret2 Tryz.results143 (v1 := gR_ out) (resAt_cellA (B := aD b1) (i := 0) (cs := kR_ out) (vs := kR_ out) (hf.get 4 1 rfl) k_ag_63 k_sz_63_4 (hS10.cf (i := 1) rfl) rfl rfl) (v2 := .bool true) (resAt_tmp rfl) ⟨rfl, (hS10.sN [])⟩

theorem c_impl_MulRing (x : TRing) (y : TRing)  (w0 : World)  (hS : ST w0 [] w0 [] []) {r_ : TRing} {r_1 : Bool} (hF : F_impl_MulRing x y = some (r_, r_1)) :
  CV Tryz.prog 121 #[gR_ x, gR_ y] w0 (fun v w' => v = .tuple #[gR_ r_, .bool r_1] ∧ ST w0 [] w' [] []) := by
 unfold F_impl_MulRing at hF
 refine cv_of_cw 105 Tryz.func121 rfl Tryz.ntmps121 rfl ?_
 refine cw_seq (cw_region ?_)
 refine sS 2 (Ys_box (T := 63) (v := gR_ x) (cs := kR_ x) (m := 4) hS rfl rfl rfl rfl) ?_
 rintro _ w_ ⟨b, rfl, hS1⟩
 refine sS 3 (Ys_box (T := 63) (v := gR_ y) (cs := kR_ y) (m := 4) hS1 rfl rfl rfl rfl) ?_
 rintro _ w_1 ⟨b1, rfl, hS2⟩
 refine sS 4 (Ys_alloc (T := 63) (cs := [vi 0, vi 0, vi 0, vi 0]) (m := 4) hS2 k_zero_63 rfl rfl rfl) ?_
 rintro _ w_2 ⟨b2, rfl, hS3⟩
 refine sQ 5 (Y_assign (v := .bool false) rfl rfl) (rw_nil (cw_seq (cw_region ?_)))
 refine sQ 6 (Y_fieldAddr (B := aD b) (i := 0) (s := 0) k_fd_63_0_0_3 k_sz_3_1 rfl rfl) ?_
 refine sQ 7 (Y_load1 (B := aD b) (i := 0) (cs := kR_ x) (v := vi x.A) k_sc_3 rfl rfl (hS3.cf (i := 0) rfl) rfl) ?_
 refine sQ 8 (Y_fieldAddr (B := aD b1) (i := 0) (s := 0) k_fd_63_0_0_3 k_sz_3_1 rfl rfl) ?_
 refine sQ 9 (Y_load1 (B := aD b1) (i := 0) (cs := kR_ y) (v := vi y.A) k_sc_3 rfl rfl (hS3.cf (i := 1) rfl) rfl) ?_
 refine sQ 10 (Y_mul (k := .i64) (a := x.A) (b := y.A) rfl rfl rfl) ?_
 refine sQ 11 (Y_fieldAddr (B := aD b) (i := 0) (s := 0) k_fd_63_1_1_3 k_sz_3_1 rfl rfl) ?_
 refine sQ 12 (Y_load1 (B := aD b) (i := 1) (cs := kR_ x) (v := vi x.B) k_sc_3 rfl rfl (hS3.cf (i := 0) rfl) rfl) ?_
 refine sQ 13 (Y_fieldAddr (B := aD b1) (i := 0) (s := 0) k_fd_63_3_3_3 k_sz_3_1 rfl rfl) ?_
 refine sQ 14 (Y_load1 (B := aD b1) (i := 3) (cs := kR_ y) (v := vi y.D) k_sc_3 rfl rfl (hS3.cf (i := 1) rfl) rfl) ?_
 refine sQ 15 (Y_mul (k := .i64) (a := x.B) (b := y.D) rfl rfl rfl) ?_
 refine sQ 16 (Y_sub (k := .i64) (a := (i64.wrap (x.A * y.A))) (b := (i64.wrap (x.B * y.D))) rfl rfl rfl) ?_
 refine sQ 17 (Y_fieldAddr (B := aD b) (i := 0) (s := 0) k_fd_63_2_2_3 k_sz_3_1 rfl rfl) ?_
 refine sQ 18 (Y_load1 (B := aD b) (i := 2) (cs := kR_ x) (v := vi x.C) k_sc_3 rfl rfl (hS3.cf (i := 0) rfl) rfl) ?_
 refine sQ 19 (Y_fieldAddr (B := aD b1) (i := 0) (s := 0) k_fd_63_2_2_3 k_sz_3_1 rfl rfl) ?_
 refine sQ 20 (Y_load1 (B := aD b1) (i := 2) (cs := kR_ y) (v := vi y.C) k_sc_3 rfl rfl (hS3.cf (i := 1) rfl) rfl) ?_
 refine sQ 21 (Y_mul (k := .i64) (a := x.C) (b := y.C) rfl rfl rfl) ?_
 refine sQ 22 (Y_sub (k := .i64) (a := (i64.wrap ((i64.wrap (x.A * y.A)) - (i64.wrap (x.B * y.D))))) (b := (i64.wrap (x.C * y.C))) rfl rfl rfl) ?_
 refine sQ 23 (Y_fieldAddr (B := aD b) (i := 0) (s := 0) k_fd_63_3_3_3 k_sz_3_1 rfl rfl) ?_
 refine sQ 24 (Y_load1 (B := aD b) (i := 3) (cs := kR_ x) (v := vi x.D) k_sc_3 rfl rfl (hS3.cf (i := 0) rfl) rfl) ?_
 refine sQ 25 (Y_fieldAddr (B := aD b1) (i := 0) (s := 0) k_fd_63_1_1_3 k_sz_3_1 rfl rfl) ?_
 refine sQ 26 (Y_load1 (B := aD b1) (i := 1) (cs := kR_ y) (v := vi y.B) k_sc_3 rfl rfl (hS3.cf (i := 1) rfl) rfl) ?_
 refine sQ 27 (Y_mul (k := .i64) (a := x.D) (b := y.B) rfl rfl rfl) ?_
 refine sQ 28 (Y_sub (k := .i64) (a := (i64.wrap ((i64.wrap ((i64.wrap (x.A * y.A)) - (i64.wrap (x.B * y.D)))) - (i64.wrap (x.C * y.C))))) (b := (i64.wrap (x.D * y.B))) rfl rfl rfl) ?_
 refine sQ 29 (Y_fieldAddr (B := aD b) (i := 0) (s := 0) k_fd_63_0_0_3 k_sz_3_1 rfl rfl) ?_
 refine sQ 30 (Y_load1 (B := aD b) (i := 0) (cs := kR_ x) (v := vi x.A) k_sc_3 rfl rfl (hS3.cf (i := 0) rfl) rfl) ?_
 refine sQ 31 (Y_fieldAddr (B := aD b1) (i := 0) (s := 0) k_fd_63_1_1_3 k_sz_3_1 rfl rfl) ?_
 refine sQ 32 (Y_load1 (B := aD b1) (i := 1) (cs := kR_ y) (v := vi y.B) k_sc_3 rfl rfl (hS3.cf (i := 1) rfl) rfl) ?_
 refine sQ 33 (Y_mul (k := .i64) (a := x.A) (b := y.B) rfl rfl rfl) ?_
 refine sQ 34 (Y_fieldAddr (B := aD b) (i := 0) (s := 0) k_fd_63_1_1_3 k_sz_3_1 rfl rfl) ?_
 refine sQ 35 (Y_load1 (B := aD b) (i := 1) (cs := kR_ x) (v := vi x.B) k_sc_3 rfl rfl (hS3.cf (i := 0) rfl) rfl) ?_
 refine sQ 36 (Y_fieldAddr (B := aD b1) (i := 0) (s := 0) k_fd_63_0_0_3 k_sz_3_1 rfl rfl) ?_
 refine sQ 37 (Y_load1 (B := aD b1) (i := 0) (cs := kR_ y) (v := vi y.A) k_sc_3 rfl rfl (hS3.cf (i := 1) rfl) rfl) ?_
 refine sQ 38 (Y_mul (k := .i64) (a := x.B) (b := y.A) rfl rfl rfl) ?_
 refine sQ 39 (Y_add (k := .i64) (a := (i64.wrap (x.A * y.B))) (b := (i64.wrap (x.B * y.A))) rfl rfl rfl) ?_
 refine sQ 40 (Y_fieldAddr (B := aD b) (i := 0) (s := 0) k_fd_63_2_2_3 k_sz_3_1 rfl rfl) ?_
 refine sQ 41 (Y_load1 (B := aD b) (i := 2) (cs := kR_ x) (v := vi x.C) k_sc_3 rfl rfl (hS3.cf (i := 0) rfl) rfl) ?_
 refine sQ 42 (Y_fieldAddr (B := aD b1) (i := 0) (s := 0) k_fd_63_3_3_3 k_sz_3_1 rfl rfl) ?_
 refine sQ 43 (Y_load1 (B := aD b1) (i := 3) (cs := kR_ y) (v := vi y.D) k_sc_3 rfl rfl (hS3.cf (i := 1) rfl) rfl) ?_
 refine sQ 44 (Y_mul (k := .i64) (a := x.C) (b := y.D) rfl rfl rfl) ?_
 refine sQ 45 (Y_sub (k := .i64) (a := (i64.wrap ((i64.wrap (x.A * y.B)) + (i64.wrap (x.B * y.A))))) (b := (i64.wrap (x.C * y.D))) rfl rfl rfl) ?_
 refine sQ 46 (Y_fieldAddr (B := aD b) (i := 0) (s := 0) k_fd_63_3_3_3 k_sz_3_1 rfl rfl) ?_
 refine sQ 47 (Y_load1 (B := aD b) (i := 3) (cs := kR_ x) (v := vi x.D) k_sc_3 rfl rfl (hS3.cf (i := 0) rfl) rfl) ?_
 refine sQ 48 (Y_fieldAddr (B := aD b1) (i := 0) (s := 0) k_fd_63_2_2_3 k_sz_3_1 rfl rfl) ?_
 refine sQ 49 (Y_load1 (B := aD b1) (i := 2) (cs := kR_ y) (v := vi y.C) k_sc_3 rfl rfl (hS3.cf (i := 1) rfl) rfl) ?_
 refine sQ 50 (Y_mul (k := .i64) (a := x.D) (b := y.C) rfl rfl rfl) ?_
 refine sQ 51 (Y_sub (k := .i64) (a := (i64.wrap ((i64.wrap ((i64.wrap (x.A * y.B)) + (i64.wrap (x.B * y.A)))) - (i64.wrap (x.C * y.D))))) (b := (i64.wrap (x.D * y.C))) rfl rfl rfl) ?_
 refine sQ 52 (Y_fieldAddr (B := aD b) (i := 0) (s := 0) k_fd_63_0_0_3 k_sz_3_1 rfl rfl) ?_
 refine sQ 53 (Y_load1 (B := aD b) (i := 0) (cs := kR_ x) (v := vi x.A) k_sc_3 rfl rfl (hS3.cf (i := 0) rfl) rfl) ?_
 refine sQ 54 (Y_fieldAddr (B := aD b1) (i := 0) (s := 0) k_fd_63_2_2_3 k_sz_3_1 rfl rfl) ?_
 refine sQ 55 (Y_load1 (B := aD b1) (i := 2) (cs := kR_ y) (v := vi y.C) k_sc_3 rfl rfl (hS3.cf (i := 1) rfl) rfl) ?_
 refine sQ 56 (Y_mul (k := .i64) (a := x.A) (b := y.C) rfl rfl rfl) ?_
 refine sQ 57 (Y_fieldAddr (B := aD b) (i := 0) (s := 0) k_fd_63_1_1_3 k_sz_3_1 rfl rfl) ?_
 refine sQ 58 (Y_load1 (B := aD b) (i := 1) (cs := kR_ x) (v := vi x.B) k_sc_3 rfl rfl (hS3.cf (i := 0) rfl) rfl) ?_
 refine sQ 59 (Y_fieldAddr (B := aD b1) (i := 0) (s := 0) k_fd_63_1_1_3 k_sz_3_1 rfl rfl) ?_
 refine sQ 60 (Y_load1 (B := aD b1) (i := 1) (cs := kR_ y) (v := vi y.B) k_sc_3 rfl rfl (hS3.cf (i := 1) rfl) rfl) ?_
 refine sQ 61 (Y_mul (k := .i64) (a := x.B) (b := y.B) rfl rfl rfl) ?_
 refine sQ 62 (Y_add (k := .i64) (a := (i64.wrap (x.A * y.C))) (b := (i64.wrap (x.B * y.B))) rfl rfl rfl) ?_
 refine sQ 63 (Y_fieldAddr (B := aD b) (i := 0) (s := 0) k_fd_63_2_2_3 k_sz_3_1 rfl rfl) ?_
 refine sQ 64 (Y_load1 (B := aD b) (i := 2) (cs := kR_ x) (v := vi x.C) k_sc_3 rfl rfl (hS3.cf (i := 0) rfl) rfl) ?_
 refine sQ 65 (Y_fieldAddr (B := aD b1) (i := 0) (s := 0) k_fd_63_0_0_3 k_sz_3_1 rfl rfl) ?_
 refine sQ 66 (Y_load1 (B := aD b1) (i := 0) (cs := kR_ y) (v := vi y.A) k_sc_3 rfl rfl (hS3.cf (i := 1) rfl) rfl) ?_
 refine sQ 67 (Y_mul (k := .i64) (a := x.C) (b := y.A) rfl rfl rfl) ?_
 refine sQ 68 (Y_add (k := .i64) (a := (i64.wrap ((i64.wrap (x.A * y.C)) + (i64.wrap (x.B * y.B))))) (b := (i64.wrap (x.C * y.A))) rfl rfl rfl) ?_
 refine sQ 69 (Y_fieldAddr (B := aD b) (i := 0) (s := 0) k_fd_63_3_3_3 k_sz_3_1 rfl rfl) ?_
 refine sQ 70 (Y_load1 (B := aD b) (i := 3) (cs := kR_ x) (v := vi x.D) k_sc_3 rfl rfl (hS3.cf (i := 0) rfl) rfl) ?_
 refine sQ 71 (Y_fieldAddr (B := aD b1) (i := 0) (s := 0) k_fd_63_3_3_3 k_sz_3_1 rfl rfl) ?_
 refine sQ 72 (Y_load1 (B := aD b1) (i := 3) (cs := kR_ y) (v := vi y.D) k_sc_3 rfl rfl (hS3.cf (i := 1) rfl) rfl) ?_
 refine sQ 73 (Y_mul (k := .i64) (a := x.D) (b := y.D) rfl rfl rfl) ?_
 refine sQ 74 (Y_sub (k := .i64) (a := (i64.wrap ((i64.wrap ((i64.wrap (x.A * y.C)) + (i64.wrap (x.B * y.B)))) + (i64.wrap (x.C * y.A))))) (b := (i64.wrap (x.D * y.D))) rfl rfl rfl) ?_
 refine sQ 75 (Y_fieldAddr (B := aD b) (i := 0) (s := 0) k_fd_63_0_0_3 k_sz_3_1 rfl rfl) ?_
 refine sQ 76 (Y_load1 (B := aD b) (i := 0) (cs := kR_ x) (v := vi x.A) k_sc_3 rfl rfl (hS3.cf (i := 0) rfl) rfl) ?_
 refine sQ 77 (Y_fieldAddr (B := aD b1) (i := 0) (s := 0) k_fd_63_3_3_3 k_sz_3_1 rfl rfl) ?_
 refine sQ 78 (Y_load1 (B := aD b1) (i := 3) (cs := kR_ y) (v := vi y.D) k_sc_3 rfl rfl (hS3.cf (i := 1) rfl) rfl) ?_
 refine sQ 79 (Y_mul (k := .i64) (a := x.A) (b := y.D) rfl rfl rfl) ?_
 refine sQ 80 (Y_fieldAddr (B := aD b) (i := 0) (s := 0) k_fd_63_1_1_3 k_sz_3_1 rfl rfl) ?_
 refine sQ 81 (Y_load1 (B := aD b) (i := 1) (cs := kR_ x) (v := vi x.B) k_sc_3 rfl rfl (hS3.cf (i := 0) rfl) rfl) ?_
 refine sQ 82 (Y_fieldAddr (B := aD b1) (i := 0) (s := 0) k_fd_63_2_2_3 k_sz_3_1 rfl rfl) ?_
 refine sQ 83 (Y_load1 (B := aD b1) (i := 2) (cs := kR_ y) (v := vi y.C) k_sc_3 rfl rfl (hS3.cf (i := 1) rfl) rfl) ?_
 refine sQ 84 (Y_mul (k := .i64) (a := x.B) (b := y.C) rfl rfl rfl) ?_
 refine sQ 85 (Y_add (k := .i64) (a := (i64.wrap (x.A * y.D))) (b := (i64.wrap (x.B * y.C))) rfl rfl rfl) ?_
 refine sQ 86 (Y_fieldAddr (B := aD b) (i := 0) (s := 0) k_fd_63_2_2_3 k_sz_3_1 rfl rfl) ?_
 refine sQ 87 (Y_load1 (B := aD b) (i := 2) (cs := kR_ x) (v := vi x.C) k_sc_3 rfl rfl (hS3.cf (i := 0) rfl) rfl) ?_
 refine sQ 88 (Y_fieldAddr (B := aD b1) (i := 0) (s := 0) k_fd_63_1_1_3 k_sz_3_1 rfl rfl) ?_
 refine sQ 89 (Y_load1 (B := aD b1) (i := 1) (cs := kR_ y) (v := vi y.B) k_sc_3 rfl rfl (hS3.cf (i := 1) rfl) rfl) ?_
 refine sQ 90 (Y_mul (k := .i64) (a := x.C) (b := y.B) rfl rfl rfl) ?_
 refine sQ 91 (Y_add (k := .i64) (a := (i64.wrap ((i64.wrap (x.A * y.D)) + (i64.wrap (x.B * y.C))))) (b := (i64.wrap (x.C * y.B))) rfl rfl rfl) ?_
 refine sQ 92 (Y_fieldAddr (B := aD b) (i := 0) (s := 0) k_fd_63_3_3_3 k_sz_3_1 rfl rfl) ?_
 refine sQ 93 (Y_load1 (B := aD b) (i := 3) (cs := kR_ x) (v := vi x.D) k_sc_3 rfl rfl (hS3.cf (i := 0) rfl) rfl) ?_
 refine sQ 94 (Y_fieldAddr (B := aD b1) (i := 0) (s := 0) k_fd_63_0_0_3 k_sz_3_1 rfl rfl) ?_
 refine sQ 95 (Y_load1 (B := aD b1) (i := 0) (cs := kR_ y) (v := vi y.A) k_sc_3 rfl rfl (hS3.cf (i := 1) rfl) rfl) ?_
 refine sQ 96 (Y_mul (k := .i64) (a := x.D) (b := y.A) rfl rfl rfl) ?_
 refine sQ 97 (Y_add (k := .i64) (a := (i64.wrap ((i64.wrap ((i64.wrap (x.A * y.D)) + (i64.wrap (x.B * y.C)))) + (i64.wrap (x.C * y.B))))) (b := (i64.wrap (x.D * y.A))) rfl rfl rfl) ?_
 refine sQ 98 (Y_buildS (zs := [vi 0, vi 0, vi 0, vi 0]) (vs := [(0, vi (i64.wrap ((i64.wrap ((i64.wrap ((i64.wrap (x.A * y.A)) - (i64.wrap (x.B * y.D)))) - (i64.wrap (x.C * y.C)))) - (i64.wrap (x.D * y.B))))), (1, vi (i64.wrap ((i64.wrap ((i64.wrap ((i64.wrap (x.A * y.B)) + (i64.wrap (x.B * y.A)))) - (i64.wrap (x.C * y.D)))) - (i64.wrap (x.D * y.C))))), (2, vi (i64.wrap ((i64.wrap ((i64.wrap ((i64.wrap (x.A * y.C)) + (i64.wrap (x.B * y.B)))) + (i64.wrap (x.C * y.A)))) - (i64.wrap (x.D * y.D))))), (3, vi (i64.wrap ((i64.wrap ((i64.wrap ((i64.wrap (x.A * y.D)) + (i64.wrap (x.B * y.C)))) + (i64.wrap (x.C * y.B)))) + (i64.wrap (x.D * y.A)))))]) (cs := [vi (i64.wrap ((i64.wrap ((i64.wrap ((i64.wrap (x.A * y.A)) - (i64.wrap (x.B * y.D)))) - (i64.wrap (x.C * y.C)))) - (i64.wrap (x.D * y.B)))), vi (i64.wrap ((i64.wrap ((i64.wrap ((i64.wrap (x.A * y.B)) + (i64.wrap (x.B * y.A)))) - (i64.wrap (x.C * y.D)))) - (i64.wrap (x.D * y.C)))), vi (i64.wrap ((i64.wrap ((i64.wrap ((i64.wrap (x.A * y.C)) + (i64.wrap (x.B * y.B)))) + (i64.wrap (x.C * y.A)))) - (i64.wrap (x.D * y.D)))), vi (i64.wrap ((i64.wrap ((i64.wrap ((i64.wrap (x.A * y.D)) + (i64.wrap (x.B * y.C)))) + (i64.wrap (x.C * y.B)))) + (i64.wrap (x.D * y.A))))]) k_pl_63 k_zero_63 rfl (mpc rfl (mpc rfl (mpc rfl (mpc rfl mpn)))) rfl) ?_
 refine sQ 99 (Y_loadA (B := aD b) (i := 0) (cs := kR_ x) (vs := kR_ x) k_ag_63 k_sz_63_4 rfl rfl (hS3.cf (i := 0) rfl) rfl rfl) ?_
 refine sQ 100 (Y_loadA (B := aD b1) (i := 0) (cs := kR_ y) (vs := kR_ y) k_ag_63 k_sz_63_4 rfl rfl (hS3.cf (i := 1) rfl) rfl rfl) ?_
 refine sS 101 (Ys_bslice (s := 4) (len := 2) (vs := [(0, gR_ x), (1, gR_ y)]) (cs := [vi x.A, vi x.B, vi x.C, vi x.D, vi y.A, vi y.B, vi y.C, vi y.D]) (zs := [vi 0, vi 0, vi 0, vi 0, vi 0, vi 0, vi 0, vi 0]) (m := 8) hS3 k_sl_169_63 k_sz_63_4 k_zc_63 rfl (mpc rfl (mpc rfl mpn)) rfl rfl rfl (by kernel_rfl) (by kernel_rfl) rfl) ?_
 rintro _ w_3 ⟨b3, rfl, hS4⟩
 obtain ⟨⟨r_2, r_3⟩, hc, hF⟩ := bind_inv hF
 refine sc 102 rfl rfl (Yc_func (g := 143) (vs := [.agg #[vi (i64.wrap ((i64.wrap ((i64.wrap ((i64.wrap (x.A * y.A)) - (i64.wrap (x.B * y.D)))) - (i64.wrap (x.C * y.C)))) - (i64.wrap (x.D * y.B)))), vi (i64.wrap ((i64.wrap ((i64.wrap ((i64.wrap (x.A * y.B)) + (i64.wrap (x.B * y.A)))) - (i64.wrap (x.C * y.D)))) - (i64.wrap (x.D * y.C)))), vi (i64.wrap ((i64.wrap ((i64.wrap ((i64.wrap (x.A * y.C)) + (i64.wrap (x.B * y.B)))) + (i64.wrap (x.C * y.A)))) - (i64.wrap (x.D * y.D)))), vi (i64.wrap ((i64.wrap ((i64.wrap ((i64.wrap (x.A * y.D)) + (i64.wrap (x.B * y.C)))) + (i64.wrap (x.C * y.B)))) + (i64.wrap (x.D * y.A))))], .slice (aD b3) 2 2]) k_call_143 rfl (mc rfl (mc rfl mn)) (c_impl_ringIf (TRing.mk (i64.wrap ((i64.wrap ((i64.wrap ((i64.wrap (x.A * y.A)) - (i64.wrap (x.B * y.D)))) - (i64.wrap (x.C * y.C)))) - (i64.wrap (x.D * y.B)))) (i64.wrap ((i64.wrap ((i64.wrap ((i64.wrap (x.A * y.B)) + (i64.wrap (x.B * y.A)))) - (i64.wrap (x.C * y.D)))) - (i64.wrap (x.D * y.C)))) (i64.wrap ((i64.wrap ((i64.wrap ((i64.wrap (x.A * y.C)) + (i64.wrap (x.B * y.B)))) + (i64.wrap (x.C * y.A)))) - (i64.wrap (x.D * y.D)))) (i64.wrap ((i64.wrap ((i64.wrap ((i64.wrap (x.A * y.D)) + (i64.wrap (x.B * y.C)))) + (i64.wrap (x.C * y.B)))) + (i64.wrap (x.D * y.A))))) [x, y] (aD b3) 2 2 _ rfl (hS4.inn [false, false, false, true] rfl [] rfl) hc)) ?_
 rintro _ w_4 ⟨rfl, hd⟩
 have hS5 := hS4.out [false, false, false, true] rfl hd
 refine sQ 103 (Y_extract (v := gR_ r_2) rfl rfl rfl) ?_
 refine sQ 104 (Y_extract (v := .bool r_3) rfl rfl rfl) ?_
 refine s0 (Ys_store (i := 2) (s := 4) (B := aD b2) (T' := 63) (v := gR_ r_2) (vs := kR_ r_2) (k := 0) (cs' := kR_ r_2) hS5 k_sz_63_4 rfl rfl rfl rfl rfl rfl rfl (lB rfl) rfl rfl) ?_
 rintro _ w_5 ⟨rfl, hS6⟩
 refine sQ 5 (Y_assign (v := .bool r_3) rfl rfl) (rw_nil (cw_ret ?_))
 obtain ⟨rfl, rfl⟩ := pr2 (some_inj hF)
 exact ret2 Tryz.results121 (v1 := gR_ r_2) (resAt_cellA (B := aD b2) (i := 0) (cs := kR_ r_2) (vs := kR_ r_2) rfl k_ag_63 k_sz_63_4 (hS6.cf (i := 2) rfl) rfl rfl) (v2 := .bool r_3) (resAt_tmp rfl) ⟨rfl, (hS6.sN [])⟩

theorem c_impl_DivRootTwo (x : TRing)  (w0 : World)  (hS : ST w0 [] w0 [] []) {r_ : TRing} {r_1 : Bool} (hF : F_impl_DivRootTwo x = some (r_, r_1)) :
  CV Tryz.prog 144 #[gR_ x] w0 (fun v w' => v = .tuple #[gR_ r_, .bool r_1] ∧ ST w0 [] w' [] []) := by
 unfold F_impl_DivRootTwo at hF
 refine cv_of_cw 43 Tryz.func144 rfl Tryz.ntmps144 rfl ?_
 refine cw_seq (cw_region ?_)
 refine sS 1 (Ys_box (T := 63) (v := gR_ x) (cs := kR_ x) (m := 4) hS rfl rfl rfl rfl) ?_
 rintro _ w_ ⟨b, rfl, hS1⟩
 refine sS 2 (Ys_alloc (T := 63) (cs := [vi 0, vi 0, vi 0, vi 0]) (m := 4) hS1 k_zero_63 rfl rfl rfl) ?_
 rintro _ w_1 ⟨b1, rfl, hS2⟩
 refine sQ 3 (Y_assign (v := .bool false) rfl rfl) (rw_nil (cw_seq (cw_seq (cw_region ?_))))
 refine sQ 4 (Y_loadA (B := aD b) (i := 0) (cs := kR_ x) (vs := kR_ x) k_ag_63 k_sz_63_4 rfl rfl (hS2.cf (i := 0) rfl) rfl rfl) ?_
 obtain ⟨r_2, hc, hF⟩ := bind_inv hF
 refine sc 5 rfl rfl (Yc_func (g := 119) (vs := [gR_ x]) k_call_119 rfl (mc rfl mn) (c_impl_IsValidRing x _  (hS2.inn0 [] rfl) hc)) ?_
 rintro _ w_2 ⟨rfl, hd⟩
 have hS3 := hS2.out00 hd
 refine sQ 6 (Y_not (p := r_2) rfl rfl) ?_
 refine sQ 7 (Y_move (v := .bool (!r_2)) rfl rfl) ?_
 refine sgq 8 (B := (!(!r_2))) (v := gR_ x) rfl rfl (wF 7) (fun hg => (Y_loadA (B := aD b) (i := 0) (cs := kR_ x) (vs := kR_ x) k_ag_63 k_sz_63_4 rfl rfl (hS3.cf (i := 0) rfl) rfl rfl)) ?_
 obtain ⟨r_3, hc1, hF⟩ := bind_inv hF
 refine sgc 9 (B := (!(!r_2))) (v := .bool r_3) (F := hS3.fn) rfl rfl (wF 7) hS3 (fun hg1 => (Yc_func (g := 120) (vs := [gR_ x]) k_call_120 rfl (mc (gv_of (v := gR_ x) hg1) mn) (CV.mono (c_impl_isEven x _  (hS3.inn0 [] rfl) (gb_inv hc1 hg1)) (by rintro _ _ ⟨rfl, h⟩; exact ⟨rfl, hS3.out00 h⟩)))) ?_
 rintro w_3 hS4
 refine sgq 10 (B := (!(!r_2))) (v := .bool (!r_3)) rfl rfl (wF 7) (fun hg2 => (Y_not (p := r_3) rfl (gv_of (v := .bool r_3) hg2))) ?_
 refine sQ 11 (Y_or (b := (!r_2)) (z := (!r_3)) rfl rfl rfl rfl) (rw_nil ?_)
 refine cw_cond (b := ((!r_2) || (!r_3))) rfl (fun hb => ?_) (fun hb => ?_)
 ·skip
  have hF1 := ct hF hb
  refine cw_seq (cw_region ?_)
  refine sQ 12 (Y_buildS (zs := [vi 0, vi 0, vi 0, vi 0]) (vs := []) (cs := [vi 0, vi 0, vi 0, vi 0]) k_pl_63 k_zero_63 rfl mpn rfl) ?_
  refine s0 (Ys_store (i := 1) (s := 4) (B := aD b1) (T' := 63) (v := .agg #[vi 0, vi 0, vi 0, vi 0]) (vs := [vi 0, vi 0, vi 0, vi 0]) (k := 0) (cs' := [vi 0, vi 0, vi 0, vi 0]) hS4 k_sz_63_4 rfl rfl rfl rfl rfl rfl rfl (lB rfl) rfl rfl) ?_
  rintro _ w_4 ⟨rfl, hS5⟩
  refine sQ 3 (Y_assign (v := .bool false) rfl rfl) (rw_nil (cw_ret ?_))
  obtain ⟨rfl, rfl⟩ := pr2 (some_inj hF1)
  exact ret2 Tryz.results144 (v1 := .agg #[vi 0, vi 0, vi 0, vi 0]) (resAt_cellA (B := aD b1) (i := 0) (cs := [vi 0, vi 0, vi 0, vi 0]) (vs := [vi 0, vi 0, vi 0, vi 0]) rfl k_ag_63 k_sz_63_4 (hS5.cf (i := 1) rfl) rfl rfl) (v2 := .bool false) (resAt_tmp rfl) ⟨rfl, (hS5.sN [])⟩
 ·skip
  have hF2 := cf' hF hb
  refine cw_skip (cw_seq (cw_region ?_))
  refine sQ 13 (Y_fieldAddr (B := aD b) (i := 0) (s := 0) k_fd_63_1_1_3 k_sz_3_1 rfl rfl) ?_
  refine sQ 14 (Y_load1 (B := aD b) (i := 1) (cs := kR_ x) (v := vi x.B) k_sc_3 rfl rfl (hS4.cf (i := 0) rfl) rfl) ?_
  refine sQ 15 (Y_fieldAddr (B := aD b) (i := 0) (s := 0) k_fd_63_3_3_3 k_sz_3_1 rfl rfl) ?_
  refine sQ 16 (Y_load1 (B := aD b) (i := 3) (cs := kR_ x) (v := vi x.D) k_sc_3 rfl rfl (hS4.cf (i := 0) rfl) rfl) ?_
  refine sQ 17 (Y_sub (k := .i64) (a := x.B) (b := x.D) rfl rfl rfl) ?_
  refine sQ 18 (Y_quo (k := .i64) (a := (i64.wrap (x.B - x.D))) (b := 2) rfl rfl rfl (by decide)) ?_
  refine sQ 19 (Y_fieldAddr (B := aD b) (i := 0) (s := 0) k_fd_63_0_0_3 k_sz_3_1 rfl rfl) ?_
  refine sQ 20 (Y_load1 (B := aD b) (i := 0) (cs := kR_ x) (v := vi x.A) k_sc_3 rfl rfl (hS4.cf (i := 0) rfl) rfl) ?_
  refine sQ 21 (Y_fieldAddr (B := aD b) (i := 0) (s := 0) k_fd_63_2_2_3 k_sz_3_1 rfl rfl) ?_
  refine sQ 22 (Y_load1 (B := aD b) (i := 2) (cs := kR_ x) (v := vi x.C) k_sc_3 rfl rfl (hS4.cf (i := 0) rfl) rfl) ?_
  refine sQ 23 (Y_add (k := .i64) (a := x.A) (b := x.C) rfl rfl rfl) ?_
  refine sQ 24 (Y_quo (k := .i64) (a := (i64.wrap (x.A + x.C))) (b := 2) rfl rfl rfl (by decide)) ?_
  refine sQ 25 (Y_fieldAddr (B := aD b) (i := 0) (s := 0) k_fd_63_1_1_3 k_sz_3_1 rfl rfl) ?_
  refine sQ 26 (Y_load1 (B := aD b) (i := 1) (cs := kR_ x) (v := vi x.B) k_sc_3 rfl rfl (hS4.cf (i := 0) rfl) rfl) ?_
  refine sQ 27 (Y_fieldAddr (B := aD b) (i := 0) (s := 0) k_fd_63_3_3_3 k_sz_3_1 rfl rfl) ?_
  refine sQ 28 (Y_load1 (B := aD b) (i := 3) (cs := kR_ x) (v := vi x.D) k_sc_3 rfl rfl (hS4.cf (i := 0) rfl) rfl) ?_
  refine sQ 29 (Y_add (k := .i64) (a := x.B) (b := x.D) rfl rfl rfl) ?_
  refine sQ 30 (Y_quo (k := .i64) (a := (i64.wrap (x.B + x.D))) (b := 2) rfl rfl rfl (by decide)) ?_
  refine sQ 31 (Y_fieldAddr (B := aD b) (i := 0) (s := 0) k_fd_63_2_2_3 k_sz_3_1 rfl rfl) ?_
  refine sQ 32 (Y_load1 (B := aD b) (i := 2) (cs := kR_ x) (v := vi x.C) k_sc_3 rfl rfl (hS4.cf (i := 0) rfl) rfl) ?_
  refine sQ 33 (Y_fieldAddr (B := aD b) (i := 0) (s := 0) k_fd_63_0_0_3 k_sz_3_1 rfl rfl) ?_
  refine sQ 34 (Y_load1 (B := aD b) (i := 0) (cs := kR_ x) (v := vi x.A) k_sc_3 rfl rfl (hS4.cf (i := 0) rfl) rfl) ?_
  refine sQ 35 (Y_sub (k := .i64) (a := x.C) (b := x.A) rfl rfl rfl) ?_
  refine sQ 36 (Y_quo (k := .i64) (a := (i64.wrap (x.C - x.A))) (b := 2) rfl rfl rfl (by decide)) ?_
  refine sQ 37 (Y_buildS (zs := [vi 0, vi 0, vi 0, vi 0]) (vs := [(0, vi (i64.wrap (Int.tdiv (i64.wrap (x.B - x.D)) 2))), (1, vi (i64.wrap (Int.tdiv (i64.wrap (x.A + x.C)) 2))), (2, vi (i64.wrap (Int.tdiv (i64.wrap (x.B + x.D)) 2))), (3, vi (i64.wrap (Int.tdiv (i64.wrap (x.C - x.A)) 2)))]) (cs := [vi (i64.wrap (Int.tdiv (i64.wrap (x.B - x.D)) 2)), vi (i64.wrap (Int.tdiv (i64.wrap (x.A + x.C)) 2)), vi (i64.wrap (Int.tdiv (i64.wrap (x.B + x.D)) 2)), vi (i64.wrap (Int.tdiv (i64.wrap (x.C - x.A)) 2))]) k_pl_63 k_zero_63 rfl (mpc rfl (mpc rfl (mpc rfl (mpc rfl mpn)))) rfl) ?_
  refine sQ 38 (Y_loadA (B := aD b) (i := 0) (cs := kR_ x) (vs := kR_ x) k_ag_63 k_sz_63_4 rfl rfl (hS4.cf (i := 0) rfl) rfl rfl) ?_
  refine sS 39 (Ys_bslice (s := 4) (len := 1) (vs := [(0, gR_ x)]) (cs := kR_ x) (zs := [vi 0, vi 0, vi 0, vi 0]) (m := 4) hS4 k_sl_169_63 k_sz_63_4 k_zc_63 rfl (mpc rfl mpn) rfl rfl rfl (by kernel_rfl) (by kernel_rfl) rfl) ?_
  rintro _ w_5 ⟨b2, rfl, hS6⟩
  obtain ⟨⟨r_4, r_5⟩, hc2, hF2⟩ := bind_inv hF2
  refine sc 40 rfl rfl (Yc_func (g := 143) (vs := [.agg #[vi (i64.wrap (Int.tdiv (i64.wrap (x.B - x.D)) 2)), vi (i64.wrap (Int.tdiv (i64.wrap (x.A + x.C)) 2)), vi (i64.wrap (Int.tdiv (i64.wrap (x.B + x.D)) 2)), vi (i64.wrap (Int.tdiv (i64.wrap (x.C - x.A)) 2))], .slice (aD b2) 1 1]) k_call_143 rfl (mc rfl (mc rfl mn)) (c_impl_ringIf (TRing.mk (i64.wrap (Int.tdiv (i64.wrap (x.B - x.D)) 2)) (i64.wrap (Int.tdiv (i64.wrap (x.A + x.C)) 2)) (i64.wrap (Int.tdiv (i64.wrap (x.B + x.D)) 2)) (i64.wrap (Int.tdiv (i64.wrap (x.C - x.A)) 2))) [x] (aD b2) 1 1 _ rfl (hS6.inn [false, false, true] rfl [] rfl) hc2)) ?_
  rintro _ w_6 ⟨rfl, hd1⟩
  have hS7 := hS6.out [false, false, true] rfl hd1
  refine sQ 41 (Y_extract (v := gR_ r_4) rfl rfl rfl) ?_
  refine sQ 42 (Y_extract (v := .bool r_5) rfl rfl rfl) ?_
  refine s0 (Ys_store (i := 1) (s := 4) (B := aD b1) (T' := 63) (v := gR_ r_4) (vs := kR_ r_4) (k := 0) (cs' := kR_ r_4) hS7 k_sz_63_4 rfl rfl rfl rfl rfl rfl rfl (lB rfl) rfl rfl) ?_
  rintro _ w_7 ⟨rfl, hS8⟩
  refine sQ 3 (Y_assign (v := .bool r_5) rfl rfl) (rw_nil (cw_ret ?_))
  obtain ⟨rfl, rfl⟩ := pr2 (some_inj hF2)
  exact ret2 Tryz.results144 (v1 := gR_ r_4) (resAt_cellA (B := aD b1) (i := 0) (cs := kR_ r_4) (vs := kR_ r_4) rfl k_ag_63 k_sz_63_4 (hS8.cf (i := 1) rfl) rfl rfl) (v2 := .bool r_5) (resAt_tmp rfl) ⟨rfl, (hS8.sN [])⟩

theorem c_impl_DyadicOf (num : TRing) (exp : Int)  (w0 : World)  (hS : ST w0 [] w0 [] []) {r_ : TDyadic} {r_1 : Bool} (hF : F_impl_DyadicOf num exp = some (r_, r_1)) :
  CV Tryz.prog 122 #[gR_ num, vi exp] w0 (fun v w' => v = .tuple #[gD_ r_, .bool r_1] ∧ ST w0 [] w' [] []) := by
 unfold F_impl_DyadicOf at hF
 refine cv_of_cw 31 Tryz.func122 rfl Tryz.ntmps122 rfl ?_
 refine cw_seq (cw_region ?_)
 refine sS 2 (Ys_box (T := 63) (v := gR_ num) (cs := kR_ num) (m := 4) hS rfl rfl rfl rfl) ?_
 rintro _ w_ ⟨b, rfl, hS1⟩
 refine sS 4 (Ys_alloc (T := 65) (cs := kZ_) (m := 5) hS1 k_zero_65 rfl rfl rfl) ?_
 rintro _ w_1 ⟨b1, rfl, hS2⟩
 refine sQ 5 (Y_assign (v := .bool false) rfl rfl) (rw_nil (cw_seq (cw_seq (cw_region ?_))))
 refine sQ 6 (Y_loadA (B := aD b) (i := 0) (cs := kR_ num) (vs := kR_ num) k_ag_63 k_sz_63_4 rfl rfl (hS2.cf (i := 0) rfl) rfl rfl) ?_
 obtain ⟨r_2, hc, hF⟩ := bind_inv hF
 refine sc 7 rfl rfl (Yc_func (g := 119) (vs := [gR_ num]) k_call_119 rfl (mc rfl mn) (c_impl_IsValidRing num _  (hS2.inn0 [] rfl) hc)) ?_
 rintro _ w_2 ⟨rfl, hd⟩
 have hS3 := hS2.out00 hd
 refine sQ 8 (Y_not (p := r_2) rfl rfl) ?_
 refine sQ 9 (Y_move (v := .bool (!r_2)) rfl rfl) ?_
 refine sgq 10 (B := (!(!r_2))) (v := vi exp) rfl rfl (wF 9) (fun hg => (Y_move (v := vi exp) rfl rfl)) ?_
 obtain ⟨r_3, hc1, hF⟩ := bind_inv hF
 refine sgc 11 (B := (!(!r_2))) (v := .bool r_3) (F := hS3.fn) rfl rfl (wF 9) hS3 (fun hg1 => (Yc_func (g := 73) (vs := [vi exp, vi 0, vi 60]) k_call_73 rfl (mc (gv_of (v := vi exp) hg1) (mc rfl (mc rfl mn))) (CV.mono (c_impl_within exp 0 60 _  (hS3.inn0 [] rfl) (gb_inv hc1 hg1)) (by rintro _ _ ⟨rfl, h⟩; exact ⟨rfl, hS3.out00 h⟩)))) ?_
 rintro w_3 hS4
 refine sgq 12 (B := (!(!r_2))) (v := .bool (!r_3)) rfl rfl (wF 9) (fun hg2 => (Y_not (p := r_3) rfl (gv_of (v := .bool r_3) hg2))) ?_
 refine sQ 13 (Y_or (b := (!r_2)) (z := (!r_3)) rfl rfl rfl rfl) (rw_nil ?_)
 refine cw_cond (b := ((!r_2) || (!r_3))) rfl (fun hb => ?_) (fun hb => ?_)
 ·skip
  have hF1 := ct hF hb
  refine cw_seq (cw_region ?_)
  refine sQ 14 (Y_buildS (zs := kZ_) (vs := []) (cs := kZ_) k_pl_65 k_zero_65 rfl mpn rfl) ?_
  refine s0 (Ys_store (i := 1) (s := 5) (B := aD b1) (T' := 65) (v := gZ_) (vs := kZ_) (k := 0) (cs' := kZ_) hS4 k_sz_65_5 rfl rfl rfl rfl rfl rfl rfl (lB rfl) rfl rfl) ?_
  rintro _ w_4 ⟨rfl, hS5⟩
  refine sQ 5 (Y_assign (v := .bool false) rfl rfl) (rw_nil (cw_ret ?_))
  obtain ⟨rfl, rfl⟩ := pr2 (some_inj hF1)
  exact ret2 Tryz.results122 (v1 := gZ_) (resAt_cellA (B := aD b1) (i := 0) (cs := kZ_) (vs := kZ_) rfl k_ag_65 k_sz_65_5 (hS5.cf (i := 1) rfl) rfl rfl) (v2 := .bool false) (resAt_tmp rfl) ⟨rfl, (hS5.sN [])⟩
 ·skip
  have hF2 := cf' hF hb
  refine cw_skip (cw_seq ?_)
  obtain ⟨z, hz, hF3⟩ := bind_inv hF2
  refine cw_block ?_
  refine cw_loop (fun k f w => ∃ (exp1 : Int) (A : Int) (B : Int) (C : Int) (D : Int), FF f [(1, vi exp1), (2, pt (aD b) 0), (4, pt (aD b1) 0)] ∧ ST w0 [] w [⟨aD b, 63, [vi A, vi B, vi C, vi D], 4⟩, ⟨aD b1, 65, kZ_, 5⟩] [] ∧ whX F_impl_DyadicOf_l1 k (exp1, A, B, C, D) = some z) fuel ⟨exp, num.A, num.B, num.C, num.D, (FF.cons rfl (FF.cons rfl (FF.cons rfl FF.nil))), (hS4.sel [0, 1] rfl rfl), hz⟩ ?_
  rintro k_ f w ⟨exp1, A, B, C, D, hf, hS6, hL⟩
  obtain ⟨k_1, y, rfl, hb1, hL1⟩ := whX_go hL
  unfold F_impl_DyadicOf_l1 at hb1
  refine cw_seq (cw_seq (cw_region ?_))
  refine sQ 15 (Y_move (v := vi exp1) rfl (hf.get 1 0 rfl)) ?_
  refine sQ 16 (Y_gt (k := .i64) (a := exp1) (b := 0) rfl rfl rfl) ?_
  refine sQ 17 (Y_move (v := .bool (decide (0 < exp1))) rfl rfl) ?_
  refine sgq 18 (B := (decide (0 < exp1))) (v := .agg #[vi A, vi B, vi C, vi D]) rfl rfl (wT 17) (fun hg3 => (Y_loadA (B := aD b) (i := 0) (cs := [vi A, vi B, vi C, vi D]) (vs := [vi A, vi B, vi C, vi D]) k_ag_63 k_sz_63_4 rfl (hf.get 2 1 rfl) (hS6.cf (i := 0) rfl) rfl rfl)) ?_
  obtain ⟨r_4, hc2, hb1⟩ := bind_inv hb1
  refine sgc 19 (B := (decide (0 < exp1))) (v := .bool r_4) (F := hS6.fn) rfl rfl (wT 17) hS6 (fun hg4 => (Yc_func (g := 120) (vs := [.agg #[vi A, vi B, vi C, vi D]]) k_call_120 rfl (mc (gv_of (v := .agg #[vi A, vi B, vi C, vi D]) hg4) mn) (CV.mono (c_impl_isEven (TRing.mk A B C D) _  (hS6.inn0 [] rfl) (gb_inv hc2 hg4)) (by rintro _ _ ⟨rfl, h⟩; exact ⟨rfl, hS6.out00 h⟩)))) ?_
  rintro w_5 hS7
  refine sQ 20 (Y_and (b := (decide (0 < exp1))) (z := r_4) rfl rfl rfl rfl) (rw_nil ?_)
  refine cw_cond (b := ((decide (0 < exp1)) && r_4)) rfl (fun hb2 => ?_) (fun hb2 => ?_)
  ·skip
   have hF4 := ct hb1 hb2
   refine cw_skip (cw_block (cw_seq (cw_region ?_)))
   refine sQ 22 (Y_loadA (B := aD b) (i := 0) (cs := [vi A, vi B, vi C, vi D]) (vs := [vi A, vi B, vi C, vi D]) k_ag_63 k_sz_63_4 rfl (hf.get 2 1 rfl) (hS7.cf (i := 0) rfl) rfl rfl) ?_
   obtain ⟨⟨r_5, r_6⟩, hc3, hF4⟩ := bind_inv hF4
   refine sc 23 rfl rfl (Yc_func (g := 144) (vs := [.agg #[vi A, vi B, vi C, vi D]]) k_call_144 rfl (mc rfl mn) (c_impl_DivRootTwo (TRing.mk A B C D) _  (hS7.inn0 [] rfl) hc3)) ?_
   rintro _ w_6 ⟨rfl, hd1⟩
   have hS8 := hS7.out00 hd1
   refine sQ 21 (Y_move (v := .tuple #[gR_ r_5, .bool r_6]) rfl rfl) ?_
   refine sQ 24 (Y_extract (v := gR_ r_5) rfl rfl rfl) ?_
   refine sQ 25 (Y_extract (v := .bool r_6) rfl rfl rfl) ?_
   refine s0 (Ys_store (i := 0) (s := 4) (B := aD b) (T' := 63) (v := gR_ r_5) (vs := kR_ r_5) (k := 0) (cs' := kR_ r_5) hS8 k_sz_63_4 rfl (hf.get 2 1 rfl) rfl rfl rfl rfl rfl (lB rfl) rfl rfl) ?_
   rintro _ w_7 ⟨rfl, hS9⟩
   refine rw_nil (cw_region ?_)
   refine sQ 26 (Y_move (v := vi exp1) rfl (hf.get 1 0 rfl)) ?_
   refine sQ 27 (Y_sub (k := .i64) (a := exp1) (b := 1) rfl rfl rfl) ?_
   refine sQ 1 (Y_assign (v := vi (i64.wrap (exp1 - 1))) rfl rfl) (rw_nil ?_)
   obtain rfl := some_inj hF4
   exact ⟨k_1, Nat.lt_succ_self _, (i64.wrap (exp1 - 1)), r_5.A, r_5.B, r_5.C, r_5.D, (FF.cons rfl (FF.cons (hf.get 2 1 rfl) (FF.cons (hf.get 4 2 rfl) FF.nil))), (hS9.sel [0, 1] rfl rfl), hL1⟩
  ·skip
   have hF5 := cf' hb1 hb2
   refine cw_exit rfl ?_
   obtain rfl := some_inj hF5
   obtain rfl := some_inj hL1
   refine cw_seq (cw_region ?_)
   refine sQ 28 (Y_loadA (B := aD b) (i := 0) (cs := [vi A, vi B, vi C, vi D]) (vs := [vi A, vi B, vi C, vi D]) k_ag_63 k_sz_63_4 rfl (hf.get 2 1 rfl) (hS7.cf (i := 0) rfl) rfl rfl) ?_
   refine sQ 29 (Y_move (v := vi exp1) rfl (hf.get 1 0 rfl)) ?_
   refine sQ 30 (Y_buildS (zs := kZ_) (vs := [(0, .agg #[vi A, vi B, vi C, vi D]), (1, vi exp1)]) (cs := [vi A, vi B, vi C, vi D, vi exp1]) k_pl_65 k_zero_65 rfl (mpc rfl (mpc rfl mpn)) rfl) ?_
   refine s0 (Ys_store (i := 1) (s := 5) (B := aD b1) (T' := 65) (v := .agg #[vi A, vi B, vi C, vi D, vi exp1]) (vs := [vi A, vi B, vi C, vi D, vi exp1]) (k := 0) (cs' := [vi A, vi B, vi C, vi D, vi exp1]) hS7 k_sz_65_5 rfl (hf.get 4 2 rfl) rfl rfl rfl rfl rfl (lB rfl) rfl rfl) ?_
   rintro _ w_8 ⟨rfl, hS10⟩
   have hS10 : ST w0 [] _ [⟨aD b, 63, [vi A, vi B, vi C, vi D], 4⟩, ⟨aD b1, 65, [vi A, vi B, vi C, vi D, vi exp1], 5⟩] [] := hS10
   refine sQ 5 (Y_assign (v := .bool true) rfl rfl) (rw_nil (cw_ret ?_))
   obtain ⟨rfl, rfl⟩ := pr2 (some_inj hF3)
   exact ret2 Tryz.results122 (v1 := .agg #[vi A, vi B, vi C, vi D, vi exp1]) (resAt_cellA (B := aD b1) (i := 0) (cs := [vi A, vi B, vi C, vi D, vi exp1]) (vs := [vi A, vi B, vi C, vi D, vi exp1]) (hf.get 4 2 rfl) k_ag_65 k_sz_65_5 (hS10.cf (i := 1) rfl) rfl rfl) (v2 := .bool true) (resAt_tmp rfl) ⟨rfl, (hS10.sN [])⟩

theorem c_impl_MulDyadic (x : TDyadic) (y : TDyadic)  (w0 : World)  (hS : ST w0 [] w0 [] []) {r_ : TDyadic} {r_1 : Bool} (hF : F_impl_MulDyadic x y = some (r_, r_1)) :
  CV Tryz.prog 86 #[gD_ x, gD_ y] w0 (fun v w' => v = .tuple #[gD_ r_, .bool r_1] ∧ ST w0 [] w' [] []) := by
 unfold F_impl_MulDyadic at hF
 refine cv_of_cw 38 Tryz.func86 rfl Tryz.ntmps86 rfl ?_
 refine cw_seq (cw_region ?_)
 refine sS 2 (Ys_box (T := 65) (v := gD_ x) (cs := kD_ x) (m := 5) hS rfl rfl rfl rfl) ?_
 rintro _ w_ ⟨b, rfl, hS1⟩
 refine sS 3 (Ys_box (T := 65) (v := gD_ y) (cs := kD_ y) (m := 5) hS1 rfl rfl rfl rfl) ?_
 rintro _ w_1 ⟨b1, rfl, hS2⟩
 refine sS 4 (Ys_alloc (T := 65) (cs := kZ_) (m := 5) hS2 k_zero_65 rfl rfl rfl) ?_
 rintro _ w_2 ⟨b2, rfl, hS3⟩
 refine sQ 5 (Y_assign (v := .bool false) rfl rfl) (rw_nil (cw_seq (cw_region ?_)))
 refine sQ 9 (Y_fieldAddr (B := aD b) (i := 0) (s := 3) k_fd_65_0_0_63 k_sz_63_4 rfl rfl) ?_
 refine sQ 10 (Y_loadA (B := aD b) (i := 0) (cs := kD_ x) (vs := kR_ x.Num) k_ag_63 k_sz_63_4 rfl rfl (hS3.cf (i := 0) rfl) rfl rfl) ?_
 refine sQ 11 (Y_fieldAddr (B := aD b1) (i := 0) (s := 3) k_fd_65_0_0_63 k_sz_63_4 rfl rfl) ?_
 refine sQ 12 (Y_loadA (B := aD b1) (i := 0) (cs := kD_ y) (vs := kR_ y.Num) k_ag_63 k_sz_63_4 rfl rfl (hS3.cf (i := 1) rfl) rfl rfl) ?_
 obtain ⟨⟨r_2, r_3⟩, hc, hF⟩ := bind_inv hF
 refine sc 13 rfl rfl (Yc_func (g := 121) (vs := [gR_ x.Num, gR_ y.Num]) k_call_121 rfl (mc rfl (mc rfl mn)) (c_impl_MulRing x.Num y.Num _  (hS3.inn0 [] rfl) hc)) ?_
 rintro _ w_3 ⟨rfl, hd⟩
 have hS4 := hS3.out00 hd
 refine sQ 8 (Y_move (v := .tuple #[gR_ r_2, .bool r_3]) rfl rfl) ?_
 refine sQ 14 (Y_extract (v := gR_ r_2) rfl rfl rfl) ?_
 refine sQ 15 (Y_extract (v := .bool r_3) rfl rfl rfl) ?_
 refine sS 6 (Ys_alloc (T := 63) (cs := [vi 0, vi 0, vi 0, vi 0]) (m := 4) hS4 k_zero_63 rfl rfl rfl) ?_
 rintro _ w_4 ⟨b3, rfl, hS5⟩
 refine s0 (Ys_store (i := 3) (s := 4) (B := aD b3) (T' := 63) (v := gR_ r_2) (vs := kR_ r_2) (k := 0) (cs' := kR_ r_2) hS5 k_sz_63_4 rfl rfl rfl rfl rfl rfl rfl (lB rfl) rfl rfl) ?_
 rintro _ w_5 ⟨rfl, hS6⟩
 refine sQ 7 (Y_assign (v := .bool r_3) rfl rfl) (rw_nil (cw_seq (cw_seq (cw_region ?_))))
 refine sQ 16 (Y_loadA (B := aD b) (i := 0) (cs := kD_ x) (vs := kD_ x) k_ag_65 k_sz_65_5 rfl rfl (hS6.cf (i := 0) rfl) rfl rfl) ?_
 obtain ⟨r_4, hc1, hF⟩ := bind_inv hF
 refine sc 17 rfl rfl (Yc_func (g := 83) (vs := [gD_ x]) k_call_83 rfl (mc rfl mn) (c_impl_IsValidDyadic x _  (hS6.inn0 [] rfl) hc1)) ?_
 rintro _ w_6 ⟨rfl, hd1⟩
 have hS7 := hS6.out00 hd1
 refine sQ 18 (Y_not (p := r_4) rfl rfl) ?_
 refine sQ 19 (Y_move (v := .bool (!r_4)) rfl rfl) ?_
 refine sgq 20 (B := (!(!r_4))) (v := gD_ y) rfl rfl (wF 19) (fun hg => (Y_loadA (B := aD b1) (i := 0) (cs := kD_ y) (vs := kD_ y) k_ag_65 k_sz_65_5 rfl rfl (hS7.cf (i := 1) rfl) rfl rfl)) ?_
 obtain ⟨r_5, hc2, hF⟩ := bind_inv hF
 refine sgc 21 (B := (!(!r_4))) (v := .bool r_5) (F := hS7.fn) rfl rfl (wF 19) hS7 (fun hg1 => (Yc_func (g := 83) (vs := [gD_ y]) k_call_83 rfl (mc (gv_of (v := gD_ y) hg1) mn) (CV.mono (c_impl_IsValidDyadic y _  (hS7.inn0 [] rfl) (gb_inv hc2 hg1)) (by rintro _ _ ⟨rfl, h⟩; exact ⟨rfl, hS7.out00 h⟩)))) ?_
 rintro w_7 hS8
 refine sgq 22 (B := (!(!r_4))) (v := .bool (!r_5)) rfl rfl (wF 19) (fun hg2 => (Y_not (p := r_5) rfl (gv_of (v := .bool r_5) hg2))) ?_
 refine sQ 23 (Y_or (b := (!r_4)) (z := (!r_5)) rfl rfl rfl rfl) ?_
 refine sQ 24 (Y_move (v := .bool ((!r_4) || (!r_5))) rfl rfl) ?_
 refine sgq 25 (B := (!((!r_4) || (!r_5)))) (v := .bool r_3) rfl rfl (wF 24) (fun hg3 => (Y_move (v := .bool r_3) rfl rfl)) ?_
 refine sgq 26 (B := (!((!r_4) || (!r_5)))) (v := .bool (!r_3)) rfl rfl (wF 24) (fun hg4 => (Y_not (p := r_3) rfl (gv_of (v := .bool r_3) hg4))) ?_
 refine sQ 27 (Y_or (b := ((!r_4) || (!r_5))) (z := (!r_3)) rfl rfl rfl rfl) (rw_nil ?_)
 refine cw_cond (b := (((!r_4) || (!r_5)) || (!r_3))) rfl (fun hb => ?_) (fun hb => ?_)
 ·skip
  have hF1 := ct hF hb
  refine cw_seq (cw_region ?_)
  refine sQ 28 (Y_buildS (zs := kZ_) (vs := []) (cs := kZ_) k_pl_65 k_zero_65 rfl mpn rfl) ?_
  refine s0 (Ys_store (i := 2) (s := 5) (B := aD b2) (T' := 65) (v := gZ_) (vs := kZ_) (k := 0) (cs' := kZ_) hS8 k_sz_65_5 rfl rfl rfl rfl rfl rfl rfl (lB rfl) rfl rfl) ?_
  rintro _ w_8 ⟨rfl, hS9⟩
  have hS9 : ST w0 [] _ [⟨aD b, 65, kD_ x, 5⟩, ⟨aD b1, 65, kD_ y, 5⟩, ⟨aD b2, 65, kZ_, 5⟩, ⟨aD b3, 63, kR_ r_2, 4⟩] [] := hS9
  refine sQ 5 (Y_assign (v := .bool false) rfl rfl) (rw_nil (cw_ret ?_))
  obtain ⟨rfl, rfl⟩ := pr2 (some_inj hF1)
  exact ret2 Tryz.results86 (v1 := gZ_) (resAt_cellA (B := aD b2) (i := 0) (cs := kZ_) (vs := kZ_) rfl k_ag_65 k_sz_65_5 (hS9.cf (i := 2) rfl) rfl rfl) (v2 := .bool false) (resAt_tmp rfl) ⟨rfl, (hS9.sN [])⟩
 ·skip
  have hF2 := cf' hF hb
  refine cw_skip (cw_seq (cw_region ?_))
  refine sQ 29 (Y_loadA (B := aD b3) (i := 0) (cs := kR_ r_2) (vs := kR_ r_2) k_ag_63 k_sz_63_4 rfl rfl (hS8.cf (i := 3) rfl) rfl rfl) ?_
  refine sQ 30 (Y_fieldAddr (B := aD b) (i := 0) (s := 0) k_fd_65_1_4_3 k_sz_3_1 rfl rfl) ?_
  refine sQ 31 (Y_load1 (B := aD b) (i := 4) (cs := kD_ x) (v := vi x.Exp) k_sc_3 rfl rfl (hS8.cf (i := 0) rfl) rfl) ?_
  refine sQ 32 (Y_fieldAddr (B := aD b1) (i := 0) (s := 0) k_fd_65_1_4_3 k_sz_3_1 rfl rfl) ?_
  refine sQ 33 (Y_load1 (B := aD b1) (i := 4) (cs := kD_ y) (v := vi y.Exp) k_sc_3 rfl rfl (hS8.cf (i := 1) rfl) rfl) ?_
  refine sQ 34 (Y_add (k := .i64) (a := x.Exp) (b := y.Exp) rfl rfl rfl) ?_
  obtain ⟨⟨r_6, r_7⟩, hc3, hF2⟩ := bind_inv hF2
  refine sc 35 rfl rfl (Yc_func (g := 122) (vs := [gR_ r_2, vi (i64.wrap (x.Exp + y.Exp))]) k_call_122 rfl (mc rfl (mc rfl mn)) (c_impl_DyadicOf r_2 (i64.wrap (x.Exp + y.Exp)) _  (hS8.inn0 [] rfl) hc3)) ?_
  rintro _ w_9 ⟨rfl, hd2⟩
  have hS10 := hS8.out00 hd2
  refine sQ 36 (Y_extract (v := gD_ r_6) rfl rfl rfl) ?_
  refine sQ 37 (Y_extract (v := .bool r_7) rfl rfl rfl) ?_
  refine s0 (Ys_store (i := 2) (s := 5) (B := aD b2) (T' := 65) (v := gD_ r_6) (vs := kD_ r_6) (k := 0) (cs' := kD_ r_6) hS10 k_sz_65_5 rfl rfl rfl rfl rfl rfl rfl (lB rfl) rfl rfl) ?_
  rintro _ w_10 ⟨rfl, hS11⟩
  refine sQ 5 (Y_assign (v := .bool r_7) rfl rfl) (rw_nil (cw_ret ?_))
  obtain ⟨rfl, rfl⟩ := pr2 (some_inj hF2)
  exact ret2 Tryz.results86 (v1 := gD_ r_6) (resAt_cellA (B := aD b2) (i := 0) (cs := kD_ r_6) (vs := kD_ r_6) rfl k_ag_65 k_sz_65_5 (hS11.cf (i := 2) rfl) rfl rfl) (v2 := .bool r_7) (resAt_tmp rfl) ⟨rfl, (hS11.sN [])⟩

theorem c_impl_MulRootTwo (x : TRing)  (w0 : World)  (hS : ST w0 [] w0 [] []) {r_ : TRing} {r_1 : Bool} (hF : F_impl_MulRootTwo x = some (r_, r_1)) :
  CV Tryz.prog 152 #[gR_ x] w0 (fun v w' => v = .tuple #[gR_ r_, .bool r_1] ∧ ST w0 [] w' [] []) := by
 unfold F_impl_MulRootTwo at hF
 refine cv_of_cw 30 Tryz.func152 rfl Tryz.ntmps152 rfl ?_
 refine cw_seq (cw_region ?_)
 refine sS 1 (Ys_box (T := 63) (v := gR_ x) (cs := kR_ x) (m := 4) hS rfl rfl rfl rfl) ?_
 rintro _ w_ ⟨b, rfl, hS1⟩
 refine sS 2 (Ys_alloc (T := 63) (cs := [vi 0, vi 0, vi 0, vi 0]) (m := 4) hS1 k_zero_63 rfl rfl rfl) ?_
 rintro _ w_1 ⟨b1, rfl, hS2⟩
 refine sQ 3 (Y_assign (v := .bool false) rfl rfl) (rw_nil (cw_seq (cw_region ?_)))
 refine sQ 4 (Y_fieldAddr (B := aD b) (i := 0) (s := 0) k_fd_63_1_1_3 k_sz_3_1 rfl rfl) ?_
 refine sQ 5 (Y_load1 (B := aD b) (i := 1) (cs := kR_ x) (v := vi x.B) k_sc_3 rfl rfl (hS2.cf (i := 0) rfl) rfl) ?_
 refine sQ 6 (Y_fieldAddr (B := aD b) (i := 0) (s := 0) k_fd_63_3_3_3 k_sz_3_1 rfl rfl) ?_
 refine sQ 7 (Y_load1 (B := aD b) (i := 3) (cs := kR_ x) (v := vi x.D) k_sc_3 rfl rfl (hS2.cf (i := 0) rfl) rfl) ?_
 refine sQ 8 (Y_sub (k := .i64) (a := x.B) (b := x.D) rfl rfl rfl) ?_
 refine sQ 9 (Y_fieldAddr (B := aD b) (i := 0) (s := 0) k_fd_63_0_0_3 k_sz_3_1 rfl rfl) ?_
 refine sQ 10 (Y_load1 (B := aD b) (i := 0) (cs := kR_ x) (v := vi x.A) k_sc_3 rfl rfl (hS2.cf (i := 0) rfl) rfl) ?_
 refine sQ 11 (Y_fieldAddr (B := aD b) (i := 0) (s := 0) k_fd_63_2_2_3 k_sz_3_1 rfl rfl) ?_
 refine sQ 12 (Y_load1 (B := aD b) (i := 2) (cs := kR_ x) (v := vi x.C) k_sc_3 rfl rfl (hS2.cf (i := 0) rfl) rfl) ?_
 refine sQ 13 (Y_add (k := .i64) (a := x.A) (b := x.C) rfl rfl rfl) ?_
 refine sQ 14 (Y_fieldAddr (B := aD b) (i := 0) (s := 0) k_fd_63_1_1_3 k_sz_3_1 rfl rfl) ?_
 refine sQ 15 (Y_load1 (B := aD b) (i := 1) (cs := kR_ x) (v := vi x.B) k_sc_3 rfl rfl (hS2.cf (i := 0) rfl) rfl) ?_
 refine sQ 16 (Y_fieldAddr (B := aD b) (i := 0) (s := 0) k_fd_63_3_3_3 k_sz_3_1 rfl rfl) ?_
 refine sQ 17 (Y_load1 (B := aD b) (i := 3) (cs := kR_ x) (v := vi x.D) k_sc_3 rfl rfl (hS2.cf (i := 0) rfl) rfl) ?_
 refine sQ 18 (Y_add (k := .i64) (a := x.B) (b := x.D) rfl rfl rfl) ?_
 refine sQ 19 (Y_fieldAddr (B := aD b) (i := 0) (s := 0) k_fd_63_2_2_3 k_sz_3_1 rfl rfl) ?_
 refine sQ 20 (Y_load1 (B := aD b) (i := 2) (cs := kR_ x) (v := vi x.C) k_sc_3 rfl rfl (hS2.cf (i := 0) rfl) rfl) ?_
 refine sQ 21 (Y_fieldAddr (B := aD b) (i := 0) (s := 0) k_fd_63_0_0_3 k_sz_3_1 rfl rfl) ?_
 refine sQ 22 (Y_load1 (B := aD b) (i := 0) (cs := kR_ x) (v := vi x.A) k_sc_3 rfl rfl (hS2.cf (i := 0) rfl) rfl) ?_
 refine sQ 23 (Y_sub (k := .i64) (a := x.C) (b := x.A) rfl rfl rfl) ?_
 refine sQ 24 (Y_buildS (zs := [vi 0, vi 0, vi 0, vi 0]) (vs := [(0, vi (i64.wrap (x.B - x.D))), (1, vi (i64.wrap (x.A + x.C))), (2, vi (i64.wrap (x.B + x.D))), (3, vi (i64.wrap (x.C - x.A)))]) (cs := [vi (i64.wrap (x.B - x.D)), vi (i64.wrap (x.A + x.C)), vi (i64.wrap (x.B + x.D)), vi (i64.wrap (x.C - x.A))]) k_pl_63 k_zero_63 rfl (mpc rfl (mpc rfl (mpc rfl (mpc rfl mpn)))) rfl) ?_
 refine sQ 25 (Y_loadA (B := aD b) (i := 0) (cs := kR_ x) (vs := kR_ x) k_ag_63 k_sz_63_4 rfl rfl (hS2.cf (i := 0) rfl) rfl rfl) ?_
 refine sS 26 (Ys_bslice (s := 4) (len := 1) (vs := [(0, gR_ x)]) (cs := kR_ x) (zs := [vi 0, vi 0, vi 0, vi 0]) (m := 4) hS2 k_sl_169_63 k_sz_63_4 k_zc_63 rfl (mpc rfl mpn) rfl rfl rfl (by kernel_rfl) (by kernel_rfl) rfl) ?_
 rintro _ w_2 ⟨b2, rfl, hS3⟩
 obtain ⟨⟨r_2, r_3⟩, hc, hF⟩ := bind_inv hF
 refine sc 27 rfl rfl (Yc_func (g := 143) (vs := [.agg #[vi (i64.wrap (x.B - x.D)), vi (i64.wrap (x.A + x.C)), vi (i64.wrap (x.B + x.D)), vi (i64.wrap (x.C - x.A))], .slice (aD b2) 1 1]) k_call_143 rfl (mc rfl (mc rfl mn)) (c_impl_ringIf (TRing.mk (i64.wrap (x.B - x.D)) (i64.wrap (x.A + x.C)) (i64.wrap (x.B + x.D)) (i64.wrap (x.C - x.A))) [x] (aD b2) 1 1 _ rfl (hS3.inn [false, false, true] rfl [] rfl) hc)) ?_
 rintro _ w_3 ⟨rfl, hd⟩
 have hS4 := hS3.out [false, false, true] rfl hd
 refine sQ 28 (Y_extract (v := gR_ r_2) rfl rfl rfl) ?_
 refine sQ 29 (Y_extract (v := .bool r_3) rfl rfl rfl) ?_
 refine s0 (Ys_store (i := 1) (s := 4) (B := aD b1) (T' := 63) (v := gR_ r_2) (vs := kR_ r_2) (k := 0) (cs' := kR_ r_2) hS4 k_sz_63_4 rfl rfl rfl rfl rfl rfl rfl (lB rfl) rfl rfl) ?_
 rintro _ w_4 ⟨rfl, hS5⟩
 refine sQ 3 (Y_assign (v := .bool r_3) rfl rfl) (rw_nil (cw_ret ?_))
 obtain ⟨rfl, rfl⟩ := pr2 (some_inj hF)
 exact ret2 Tryz.results152 (v1 := gR_ r_2) (resAt_cellA (B := aD b1) (i := 0) (cs := kR_ r_2) (vs := kR_ r_2) rfl k_ag_63 k_sz_63_4 (hS5.cf (i := 1) rfl) rfl rfl) (v2 := .bool r_3) (resAt_tmp rfl) ⟨rfl, (hS5.sN [])⟩

theorem c_impl_raised (x : TDyadic) (exp : Int)  (w0 : World)  (hS : ST w0 [] w0 [] []) {r_ : TRing} {r_1 : Bool} (hF : F_impl_raised x exp = some (r_, r_1)) :
  CV Tryz.prog 146 #[gD_ x, vi exp] w0 (fun v w' => v = .tuple #[gR_ r_, .bool r_1] ∧ ST w0 [] w' [] []) := by
 unfold F_impl_raised at hF
 refine cv_of_cw 28 Tryz.func146 rfl Tryz.ntmps146 rfl ?_
 refine cw_seq (cw_region ?_)
 refine sS 2 (Ys_box (T := 65) (v := gD_ x) (cs := kD_ x) (m := 5) hS rfl rfl rfl rfl) ?_
 rintro _ w_ ⟨b, rfl, hS1⟩
 refine sS 4 (Ys_alloc (T := 63) (cs := [vi 0, vi 0, vi 0, vi 0]) (m := 4) hS1 k_zero_63 rfl rfl rfl) ?_
 rintro _ w_1 ⟨b1, rfl, hS2⟩
 refine sQ 5 (Y_assign (v := .bool false) rfl rfl) (rw_nil (cw_seq (cw_region ?_)))
 refine sQ 9 (Y_fieldAddr (B := aD b) (i := 0) (s := 3) k_fd_65_0_0_63 k_sz_63_4 rfl rfl) ?_
 refine sQ 10 (Y_loadA (B := aD b) (i := 0) (cs := kD_ x) (vs := kR_ x.Num) k_ag_63 k_sz_63_4 rfl rfl (hS2.cf (i := 0) rfl) rfl rfl) ?_
 refine sS 6 (Ys_alloc (T := 63) (cs := [vi 0, vi 0, vi 0, vi 0]) (m := 4) hS2 k_zero_63 rfl rfl rfl) ?_
 rintro _ w_2 ⟨b2, rfl, hS3⟩
 refine s0 (Ys_store (i := 2) (s := 4) (B := aD b2) (T' := 63) (v := gR_ x.Num) (vs := kR_ x.Num) (k := 0) (cs' := kR_ x.Num) hS3 k_sz_63_4 rfl rfl rfl rfl rfl rfl rfl (lB rfl) rfl rfl) ?_
 rintro _ w_3 ⟨rfl, hS4⟩
 refine sQ 7 (Y_assign (v := .bool true) rfl rfl) (rw_nil (cw_seq (cw_seq (cw_region ?_))))
 refine sQ 11 (Y_fieldAddr (B := aD b) (i := 0) (s := 0) k_fd_65_1_4_3 k_sz_3_1 rfl rfl) ?_
 refine sQ 12 (Y_load1 (B := aD b) (i := 4) (cs := kD_ x) (v := vi x.Exp) k_sc_3 rfl rfl (hS4.cf (i := 0) rfl) rfl) ?_
 refine sQ 8 (Y_assign (v := vi x.Exp) rfl rfl) (rw_nil ?_)
 obtain ⟨z, hz, hF1⟩ := bind_inv hF
 refine cw_block ?_
 refine cw_loop (fun k f w => ∃ (A : Int) (B : Int) (C : Int) (D : Int) (ok : Bool) (k_ : Int), FF f [(1, vi exp), (4, pt (aD b1) 0), (6, pt (aD b2) 0), (7, .bool ok), (8, vi k_)] ∧ ST w0 [] w [⟨aD b1, 63, [vi 0, vi 0, vi 0, vi 0], 4⟩, ⟨aD b2, 63, [vi A, vi B, vi C, vi D], 4⟩] [] ∧ whX (F_impl_raised_l1 exp) k (A, B, C, D, ok, k_) = some z) fuel ⟨x.Num.A, x.Num.B, x.Num.C, x.Num.D, true, x.Exp, (FF.cons rfl (FF.cons rfl (FF.cons rfl (FF.cons rfl (FF.cons rfl FF.nil))))), (hS4.sel [1, 2] rfl rfl), hz⟩ ?_
 rintro k_1 f w ⟨A, B, C, D, ok, k_, hf, hS5, hL⟩
 obtain ⟨k_2, y, rfl, hb, hL1⟩ := whX_go hL
 unfold F_impl_raised_l1 at hb
 refine cw_seq (cw_seq (cw_region ?_))
 refine sQ 13 (Y_move (v := vi k_) rfl (hf.get 8 4 rfl)) ?_
 refine sQ 14 (Y_move (v := vi exp) rfl (hf.get 1 0 rfl)) ?_
 refine sQ 15 (Y_lt (k := .i64) (a := k_) (b := exp) rfl rfl rfl) ?_
 refine sQ 16 (Y_move (v := .bool (decide (k_ < exp))) rfl rfl) ?_
 refine sgq 17 (B := (decide (k_ < exp))) (v := .bool ok) rfl rfl (wT 16) (fun hg => (Y_move (v := .bool ok) rfl (hf.get 7 3 rfl))) ?_
 refine sQ 18 (Y_and (b := (decide (k_ < exp))) (z := ok) rfl rfl rfl rfl) (rw_nil ?_)
 refine cw_cond (b := ((decide (k_ < exp)) && ok)) rfl (fun hb1 => ?_) (fun hb1 => ?_)
 ·skip
  have hF2 := ct hb hb1
  refine cw_skip (cw_seq (cw_block (cw_region ?_)))
  refine sQ 22 (Y_loadA (B := aD b2) (i := 0) (cs := [vi A, vi B, vi C, vi D]) (vs := [vi A, vi B, vi C, vi D]) k_ag_63 k_sz_63_4 rfl (hf.get 6 2 rfl) (hS5.cf (i := 1) rfl) rfl rfl) ?_
  obtain ⟨⟨r_2, r_3⟩, hc, hF2⟩ := bind_inv hF2
  refine sc 23 rfl rfl (Yc_func (g := 152) (vs := [.agg #[vi A, vi B, vi C, vi D]]) k_call_152 rfl (mc rfl mn) (c_impl_MulRootTwo (TRing.mk A B C D) _  (hS5.inn0 [] rfl) hc)) ?_
  rintro _ w_4 ⟨rfl, hd⟩
  have hS6 := hS5.out00 hd
  refine sQ 21 (Y_move (v := .tuple #[gR_ r_2, .bool r_3]) rfl rfl) ?_
  refine sQ 24 (Y_extract (v := gR_ r_2) rfl rfl rfl) ?_
  refine sQ 25 (Y_extract (v := .bool r_3) rfl rfl rfl) ?_
  refine s0 (Ys_store (i := 1) (s := 4) (B := aD b2) (T' := 63) (v := gR_ r_2) (vs := kR_ r_2) (k := 0) (cs' := kR_ r_2) hS6 k_sz_63_4 rfl (hf.get 6 2 rfl) rfl rfl rfl rfl rfl (lB rfl) rfl rfl) ?_
  rintro _ w_5 ⟨rfl, hS7⟩
  refine sQ 7 (Y_assign (v := .bool r_3) rfl rfl) (rw_nil (cw_region ?_))
  refine sQ 19 (Y_move (v := vi k_) rfl (hf.get 8 4 rfl)) ?_
  refine sQ 20 (Y_add (k := .i64) (a := k_) (b := 1) rfl rfl rfl) ?_
  refine sQ 8 (Y_assign (v := vi (i64.wrap (k_ + 1))) rfl rfl) (rw_nil ?_)
  obtain rfl := some_inj hF2
  exact ⟨k_2, Nat.lt_succ_self _, r_2.A, r_2.B, r_2.C, r_2.D, r_3, (i64.wrap (k_ + 1)), (FF.cons (hf.get 1 0 rfl) (FF.cons (hf.get 4 1 rfl) (FF.cons (hf.get 6 2 rfl) (FF.cons rfl (FF.cons rfl FF.nil))))), (hS7.sel [0, 1] rfl rfl), hL1⟩
 ·skip
  have hF3 := cf' hb hb1
  refine cw_exit rfl ?_
  obtain rfl := some_inj hF3
  obtain rfl := some_inj hL1
  refine cw_seq (cw_region ?_)
  refine sQ 26 (Y_loadA (B := aD b2) (i := 0) (cs := [vi A, vi B, vi C, vi D]) (vs := [vi A, vi B, vi C, vi D]) k_ag_63 k_sz_63_4 rfl (hf.get 6 2 rfl) (hS5.cf (i := 1) rfl) rfl rfl) ?_
  refine sQ 27 (Y_move (v := .bool ok) rfl (hf.get 7 3 rfl)) ?_
  refine s0 (Ys_store (i := 0) (s := 4) (B := aD b1) (T' := 63) (v := .agg #[vi A, vi B, vi C, vi D]) (vs := [vi A, vi B, vi C, vi D]) (k := 0) (cs' := [vi A, vi B, vi C, vi D]) hS5 k_sz_63_4 rfl (hf.get 4 1 rfl) rfl rfl rfl rfl rfl (lB rfl) rfl rfl) ?_
  rintro _ w_6 ⟨rfl, hS8⟩
  refine sQ 5 (Y_assign (v := .bool ok) rfl rfl) (rw_nil (cw_ret ?_))
  obtain ⟨rfl, rfl⟩ := pr2 (some_inj hF1)
  exact ret2 Tryz.results146 (v1 := .agg #[vi A, vi B, vi C, vi D]) (resAt_cellA (B := aD b1) (i := 0) (cs := [vi A, vi B, vi C, vi D]) (vs := [vi A, vi B, vi C, vi D]) (hf.get 4 1 rfl) k_ag_63 k_sz_63_4 (hS8.cf (i := 0) rfl) rfl rfl) (v2 := .bool ok) (resAt_tmp rfl) ⟨rfl, (hS8.sN [])⟩

theorem c_impl_combined (x : TDyadic) (y : TDyadic) (operation : TRing → TRing → Option (TRing × Bool)) (kf : Nat) (caps : Array Value) (Rf : List Ro) (w0 : World) (hk : callB Tryz.prog kf = true) (hp : ∀ (w : World), ST w [] w [] Rf → ∀ (x1 : TRing) (x2 : TRing) (y2 : TRing) (y3 : Bool), operation x1 x2 = some (y2, y3) → CV Tryz.prog kf ((gR_ x1) :: (gR_ x2) :: caps.toList).toArray w (fun v w' => v = .tuple #[gR_ y2, .bool y3] ∧ ST w [] w' [] [])) (hS : ST w0 [] w0 [] (Rf)) {r_ : TDyadic} {r_1 : Bool} (hF : F_impl_combined x y operation = some (r_, r_1)) :
  CV Tryz.prog 127 #[gD_ x, gD_ y, .func (.func kf) #[] caps] w0 (fun v w' => v = .tuple #[gD_ r_, .bool r_1] ∧ ST w0 [] w' [] []) := by
 unfold F_impl_combined at hF
 refine cv_of_cw 64 Tryz.func127 rfl Tryz.ntmps127 rfl ?_
 refine cw_seq (cw_region ?_)
 refine sS 3 (Ys_box (T := 65) (v := gD_ x) (cs := kD_ x) (m := 5) hS rfl rfl rfl rfl) ?_
 rintro _ w_ ⟨b, rfl, hS1⟩
 refine sS 4 (Ys_box (T := 65) (v := gD_ y) (cs := kD_ y) (m := 5) hS1 rfl rfl rfl rfl) ?_
 rintro _ w_1 ⟨b1, rfl, hS2⟩
 refine sS 6 (Ys_alloc (T := 65) (cs := kZ_) (m := 5) hS2 k_zero_65 rfl rfl rfl) ?_
 rintro _ w_2 ⟨b2, rfl, hS3⟩
 refine sQ 7 (Y_assign (v := .bool false) rfl rfl) (rw_nil (cw_seq (cw_seq (cw_region ?_))))
 refine sQ 15 (Y_loadA (B := aD b) (i := 0) (cs := kD_ x) (vs := kD_ x) k_ag_65 k_sz_65_5 rfl rfl (hS3.cf (i := 0) rfl) rfl rfl) ?_
 obtain ⟨r_2, hc, hF⟩ := bind_inv hF
 refine sc 16 rfl rfl (Yc_func (g := 83) (vs := [gD_ x]) k_call_83 rfl (mc rfl mn) (c_impl_IsValidDyadic x _  (hS3.inn0 [] rfl) hc)) ?_
 rintro _ w_3 ⟨rfl, hd⟩
 have hS4 := hS3.out00 hd
 refine sQ 17 (Y_not (p := r_2) rfl rfl) ?_
 refine sQ 18 (Y_move (v := .bool (!r_2)) rfl rfl) ?_
 refine sgq 19 (B := (!(!r_2))) (v := gD_ y) rfl rfl (wF 18) (fun hg => (Y_loadA (B := aD b1) (i := 0) (cs := kD_ y) (vs := kD_ y) k_ag_65 k_sz_65_5 rfl rfl (hS4.cf (i := 1) rfl) rfl rfl)) ?_
 obtain ⟨r_3, hc1, hF⟩ := bind_inv hF
 refine sgc 20 (B := (!(!r_2))) (v := .bool r_3) (F := hS4.fn) rfl rfl (wF 18) hS4 (fun hg1 => (Yc_func (g := 83) (vs := [gD_ y]) k_call_83 rfl (mc (gv_of (v := gD_ y) hg1) mn) (CV.mono (c_impl_IsValidDyadic y _  (hS4.inn0 [] rfl) (gb_inv hc1 hg1)) (by rintro _ _ ⟨rfl, h⟩; exact ⟨rfl, hS4.out00 h⟩)))) ?_
 rintro w_4 hS5
 refine sgq 21 (B := (!(!r_2))) (v := .bool (!r_3)) rfl rfl (wF 18) (fun hg2 => (Y_not (p := r_3) rfl (gv_of (v := .bool r_3) hg2))) ?_
 refine sQ 22 (Y_or (b := (!r_2)) (z := (!r_3)) rfl rfl rfl rfl) (rw_nil ?_)
 refine cw_cond (b := ((!r_2) || (!r_3))) rfl (fun hb => ?_) (fun hb => ?_)
 ·skip
  have hF1 := ct hF hb
  refine cw_seq (cw_region ?_)
  refine sQ 23 (Y_buildS (zs := kZ_) (vs := []) (cs := kZ_) k_pl_65 k_zero_65 rfl mpn rfl) ?_
  refine s0 (Ys_store (i := 2) (s := 5) (B := aD b2) (T' := 65) (v := gZ_) (vs := kZ_) (k := 0) (cs' := kZ_) hS5 k_sz_65_5 rfl rfl rfl rfl rfl rfl rfl (lB rfl) rfl rfl) ?_
  rintro _ w_5 ⟨rfl, hS6⟩
  refine sQ 7 (Y_assign (v := .bool false) rfl rfl) (rw_nil (cw_ret ?_))
  obtain ⟨rfl, rfl⟩ := pr2 (some_inj hF1)
  exact ret2 Tryz.results127 (v1 := gZ_) (resAt_cellA (B := aD b2) (i := 0) (cs := kZ_) (vs := kZ_) rfl k_ag_65 k_sz_65_5 (hS6.cf (i := 2) rfl) rfl rfl) (v2 := .bool false) (resAt_tmp rfl) ⟨rfl, (hS6.sN [])⟩
 ·skip
  have hF2 := cf' hF hb
  refine cw_skip (cw_seq (cw_region ?_))
  refine sQ 24 (Y_fieldAddr (B := aD b) (i := 0) (s := 0) k_fd_65_1_4_3 k_sz_3_1 rfl rfl) ?_
  refine sQ 25 (Y_load1 (B := aD b) (i := 4) (cs := kD_ x) (v := vi x.Exp) k_sc_3 rfl rfl (hS5.cf (i := 0) rfl) rfl) ?_
  refine sQ 26 (Y_fieldAddr (B := aD b1) (i := 0) (s := 0) k_fd_65_1_4_3 k_sz_3_1 rfl rfl) ?_
  refine sQ 27 (Y_load1 (B := aD b1) (i := 4) (cs := kD_ y) (v := vi y.Exp) k_sc_3 rfl rfl (hS5.cf (i := 1) rfl) rfl) ?_
  refine sQ 28 (Y_max2 (k := .i64) (a := x.Exp) (b := y.Exp) rfl rfl rfl) ?_
  refine sQ 8 (Y_assign (v := vi (if x.Exp < y.Exp then y.Exp else x.Exp)) rfl rfl) (rw_nil (cw_seq (cw_region ?_)))
  refine sQ 30 (Y_loadA (B := aD b) (i := 0) (cs := kD_ x) (vs := kD_ x) k_ag_65 k_sz_65_5 rfl rfl (hS5.cf (i := 0) rfl) rfl rfl) ?_
  refine sQ 31 (Y_move (v := vi (if x.Exp < y.Exp then y.Exp else x.Exp)) rfl rfl) ?_
  obtain ⟨⟨r_4, r_5⟩, hc2, hF2⟩ := bind_inv hF2
  refine sc 32 rfl rfl (Yc_func (g := 146) (vs := [gD_ x, vi (if x.Exp < y.Exp then y.Exp else x.Exp)]) k_call_146 rfl (mc rfl (mc rfl mn)) (c_impl_raised x (if x.Exp < y.Exp then y.Exp else x.Exp) _  (hS5.inn0 [] rfl) hc2)) ?_
  rintro _ w_6 ⟨rfl, hd1⟩
  have hS7 := hS5.out00 hd1
  refine sQ 29 (Y_move (v := .tuple #[gR_ r_4, .bool r_5]) rfl rfl) ?_
  refine sQ 33 (Y_extract (v := gR_ r_4) rfl rfl rfl) ?_
  refine sQ 34 (Y_extract (v := .bool r_5) rfl rfl rfl) ?_
  refine sS 9 (Ys_alloc (T := 63) (cs := [vi 0, vi 0, vi 0, vi 0]) (m := 4) hS7 k_zero_63 rfl rfl rfl) ?_
  rintro _ w_7 ⟨b3, rfl, hS8⟩
  refine s0 (Ys_store (i := 3) (s := 4) (B := aD b3) (T' := 63) (v := gR_ r_4) (vs := kR_ r_4) (k := 0) (cs' := kR_ r_4) hS8 k_sz_63_4 rfl rfl rfl rfl rfl rfl rfl (lB rfl) rfl rfl) ?_
  rintro _ w_8 ⟨rfl, hS9⟩
  have hS9 : ST w0 [] _ [⟨aD b, 65, kD_ x, 5⟩, ⟨aD b1, 65, kD_ y, 5⟩, ⟨aD b2, 65, kZ_, 5⟩, ⟨aD b3, 63, kR_ r_4, 4⟩] (Rf) := hS9
  refine sQ 10 (Y_assign (v := .bool r_5) rfl rfl) (rw_nil (cw_seq (cw_region ?_)))
  refine sQ 36 (Y_loadA (B := aD b1) (i := 0) (cs := kD_ y) (vs := kD_ y) k_ag_65 k_sz_65_5 rfl rfl (hS9.cf (i := 1) rfl) rfl rfl) ?_
  refine sQ 37 (Y_move (v := vi (if x.Exp < y.Exp then y.Exp else x.Exp)) rfl rfl) ?_
  obtain ⟨⟨r_6, r_7⟩, hc3, hF2⟩ := bind_inv hF2
  refine sc 38 rfl rfl (Yc_func (g := 146) (vs := [gD_ y, vi (if x.Exp < y.Exp then y.Exp else x.Exp)]) k_call_146 rfl (mc rfl (mc rfl mn)) (c_impl_raised y (if x.Exp < y.Exp then y.Exp else x.Exp) _  (hS9.inn0 [] rfl) hc3)) ?_
  rintro _ w_9 ⟨rfl, hd2⟩
  have hS10 := hS9.out00 hd2
  refine sQ 35 (Y_move (v := .tuple #[gR_ r_6, .bool r_7]) rfl rfl) ?_
  refine sQ 39 (Y_extract (v := gR_ r_6) rfl rfl rfl) ?_
  refine sQ 40 (Y_extract (v := .bool r_7) rfl rfl rfl) ?_
  refine sS 11 (Ys_alloc (T := 63) (cs := [vi 0, vi 0, vi 0, vi 0]) (m := 4) hS10 k_zero_63 rfl rfl rfl) ?_
  rintro _ w_10 ⟨b4, rfl, hS11⟩
  refine s0 (Ys_store (i := 4) (s := 4) (B := aD b4) (T' := 63) (v := gR_ r_6) (vs := kR_ r_6) (k := 0) (cs' := kR_ r_6) hS11 k_sz_63_4 rfl rfl rfl rfl rfl rfl rfl (lB rfl) rfl rfl) ?_
  rintro _ w_11 ⟨rfl, hS12⟩
  refine sQ 12 (Y_assign (v := .bool r_7) rfl rfl) (rw_nil (cw_seq (cw_region ?_)))
  refine sQ 42 (Y_move (v := .func (.func kf) #[] caps) rfl rfl) ?_
  refine sQ 43 (Y_loadA (B := aD b3) (i := 0) (cs := kR_ r_4) (vs := kR_ r_4) k_ag_63 k_sz_63_4 rfl rfl (hS12.cf (i := 3) rfl) rfl rfl) ?_
  refine sQ 44 (Y_loadA (B := aD b4) (i := 0) (cs := kR_ r_6) (vs := kR_ r_6) k_ag_63 k_sz_63_4 rfl rfl (hS12.cf (i := 4) rfl) rfl rfl) ?_
  obtain ⟨⟨r_8, r_9⟩, hc4, hF2⟩ := bind_inv hF2
  refine sc 45 rfl rfl (Yc_clos (g := kf) (vs := (gR_ r_4) :: (gR_ r_6) :: caps.toList) hk rfl rfl (clo_args (mc rfl (mc rfl mn))) (hp _ (hS12.innS (fun _ h => mOd (i := 0) h)) r_4 r_6 r_8 r_9 hc4)) ?_
  rintro _ w_12 ⟨rfl, hd3⟩
  have hS13 := hS12.out00 hd3
  refine sQ 41 (Y_move (v := .tuple #[gR_ r_8, .bool r_9]) rfl rfl) ?_
  refine sQ 46 (Y_extract (v := gR_ r_8) rfl rfl rfl) ?_
  refine sQ 47 (Y_extract (v := .bool r_9) rfl rfl rfl) ?_
  refine sS 13 (Ys_alloc (T := 63) (cs := [vi 0, vi 0, vi 0, vi 0]) (m := 4) hS13 k_zero_63 rfl rfl rfl) ?_
  rintro _ w_13 ⟨b5, rfl, hS14⟩
  refine s0 (Ys_store (i := 5) (s := 4) (B := aD b5) (T' := 63) (v := gR_ r_8) (vs := kR_ r_8) (k := 0) (cs' := kR_ r_8) hS14 k_sz_63_4 rfl rfl rfl rfl rfl rfl rfl (lB rfl) rfl rfl) ?_
  rintro _ w_14 ⟨rfl, hS15⟩
  refine sQ 14 (Y_assign (v := .bool r_9) rfl rfl) (rw_nil (cw_seq (cw_seq (cw_region ?_))))
  refine sQ 48 (Y_move (v := .bool r_5) rfl rfl) ?_
  refine sQ 49 (Y_not (p := r_5) rfl rfl) ?_
  refine sQ 50 (Y_move (v := .bool (!r_5)) rfl rfl) ?_
  refine sgq 51 (B := (!(!r_5))) (v := .bool r_7) rfl rfl (wF 50) (fun hg3 => (Y_move (v := .bool r_7) rfl rfl)) ?_
  refine sgq 52 (B := (!(!r_5))) (v := .bool (!r_7)) rfl rfl (wF 50) (fun hg4 => (Y_not (p := r_7) rfl (gv_of (v := .bool r_7) hg4))) ?_
  refine sQ 53 (Y_or (b := (!r_5)) (z := (!r_7)) rfl rfl rfl rfl) ?_
  refine sQ 54 (Y_move (v := .bool ((!r_5) || (!r_7))) rfl rfl) ?_
  refine sgq 55 (B := (!((!r_5) || (!r_7)))) (v := .bool r_9) rfl rfl (wF 54) (fun hg5 => (Y_move (v := .bool r_9) rfl rfl)) ?_
  refine sgq 56 (B := (!((!r_5) || (!r_7)))) (v := .bool (!r_9)) rfl rfl (wF 54) (fun hg6 => (Y_not (p := r_9) rfl (gv_of (v := .bool r_9) hg6))) ?_
  refine sQ 57 (Y_or (b := ((!r_5) || (!r_7))) (z := (!r_9)) rfl rfl rfl rfl) (rw_nil ?_)
  refine cw_cond (b := (((!r_5) || (!r_7)) || (!r_9))) rfl (fun hb1 => ?_) (fun hb1 => ?_)
  ·skip
   have hF3 := ct hF2 hb1
   refine cw_seq (cw_region ?_)
   refine sQ 58 (Y_buildS (zs := kZ_) (vs := []) (cs := kZ_) k_pl_65 k_zero_65 rfl mpn rfl) ?_
   refine s0 (Ys_store (i := 2) (s := 5) (B := aD b2) (T' := 65) (v := gZ_) (vs := kZ_) (k := 0) (cs' := kZ_) hS15 k_sz_65_5 rfl rfl rfl rfl rfl rfl rfl (lB rfl) rfl rfl) ?_
   rintro _ w_15 ⟨rfl, hS16⟩
   refine sQ 7 (Y_assign (v := .bool false) rfl rfl) (rw_nil (cw_ret ?_))
   obtain ⟨rfl, rfl⟩ := pr2 (some_inj hF3)
   exact ret2 Tryz.results127 (v1 := gZ_) (resAt_cellA (B := aD b2) (i := 0) (cs := kZ_) (vs := kZ_) rfl k_ag_65 k_sz_65_5 (hS16.cf (i := 2) rfl) rfl rfl) (v2 := .bool false) (resAt_tmp rfl) ⟨rfl, (hS16.sN [])⟩
  ·skip
   have hF4 := cf' hF2 hb1
   refine cw_skip (cw_seq (cw_region ?_))
   refine sQ 59 (Y_loadA (B := aD b5) (i := 0) (cs := kR_ r_8) (vs := kR_ r_8) k_ag_63 k_sz_63_4 rfl rfl (hS15.cf (i := 5) rfl) rfl rfl) ?_
   refine sQ 60 (Y_move (v := vi (if x.Exp < y.Exp then y.Exp else x.Exp)) rfl rfl) ?_
   obtain ⟨⟨r_10, r_11⟩, hc5, hF4⟩ := bind_inv hF4
   refine sc 61 rfl rfl (Yc_func (g := 122) (vs := [gR_ r_8, vi (if x.Exp < y.Exp then y.Exp else x.Exp)]) k_call_122 rfl (mc rfl (mc rfl mn)) (c_impl_DyadicOf r_8 (if x.Exp < y.Exp then y.Exp else x.Exp) _  (hS15.inn0 [] rfl) hc5)) ?_
   rintro _ w_16 ⟨rfl, hd4⟩
   have hS17 := hS15.out00 hd4
   have hS17 : ST w0 [] _ [⟨aD b, 65, kD_ x, 5⟩, ⟨aD b1, 65, kD_ y, 5⟩, ⟨aD b2, 65, kZ_, 5⟩, ⟨aD b3, 63, kR_ r_4, 4⟩, ⟨aD b4, 63, kR_ r_6, 4⟩, ⟨aD b5, 63, kR_ r_8, 4⟩] (Rf) := hS17
   refine sQ 62 (Y_extract (v := gD_ r_10) rfl rfl rfl) ?_
   refine sQ 63 (Y_extract (v := .bool r_11) rfl rfl rfl) ?_
   refine s0 (Ys_store (i := 2) (s := 5) (B := aD b2) (T' := 65) (v := gD_ r_10) (vs := kD_ r_10) (k := 0) (cs' := kD_ r_10) hS17 k_sz_65_5 rfl rfl rfl rfl rfl rfl rfl (lB rfl) rfl rfl) ?_
   rintro _ w_17 ⟨rfl, hS18⟩
   refine sQ 7 (Y_assign (v := .bool r_11) rfl rfl) (rw_nil (cw_ret ?_))
   obtain ⟨rfl, rfl⟩ := pr2 (some_inj hF4)
   exact ret2 Tryz.results127 (v1 := gD_ r_10) (resAt_cellA (B := aD b2) (i := 0) (cs := kD_ r_10) (vs := kD_ r_10) rfl k_ag_65 k_sz_65_5 (hS18.cf (i := 2) rfl) rfl rfl) (v2 := .bool r_11) (resAt_tmp rfl) ⟨rfl, (hS18.sN [])⟩

theorem c_impl_AddRing (x : TRing) (y : TRing)  (w0 : World)  (hS : ST w0 [] w0 [] []) {r_ : TRing} {r_1 : Bool} (hF : F_impl_AddRing x y = some (r_, r_1)) :
  CV Tryz.prog 128 #[gR_ x, gR_ y] w0 (fun v w' => v = .tuple #[gR_ r_, .bool r_1] ∧ ST w0 [] w' [] []) := by
 unfold F_impl_AddRing at hF
 refine cv_of_cw 33 Tryz.func128 rfl Tryz.ntmps128 rfl ?_
 refine cw_seq (cw_region ?_)
 refine sS 2 (Ys_box (T := 63) (v := gR_ x) (cs := kR_ x) (m := 4) hS rfl rfl rfl rfl) ?_
 rintro _ w_ ⟨b, rfl, hS1⟩
 refine sS 3 (Ys_box (T := 63) (v := gR_ y) (cs := kR_ y) (m := 4) hS1 rfl rfl rfl rfl) ?_
 rintro _ w_1 ⟨b1, rfl, hS2⟩
 refine sS 4 (Ys_alloc (T := 63) (cs := [vi 0, vi 0, vi 0, vi 0]) (m := 4) hS2 k_zero_63 rfl rfl rfl) ?_
 rintro _ w_2 ⟨b2, rfl, hS3⟩
 refine sQ 5 (Y_assign (v := .bool false) rfl rfl) (rw_nil (cw_seq (cw_region ?_)))
 refine sQ 6 (Y_fieldAddr (B := aD b) (i := 0) (s := 0) k_fd_63_0_0_3 k_sz_3_1 rfl rfl) ?_
 refine sQ 7 (Y_load1 (B := aD b) (i := 0) (cs := kR_ x) (v := vi x.A) k_sc_3 rfl rfl (hS3.cf (i := 0) rfl) rfl) ?_
 refine sQ 8 (Y_fieldAddr (B := aD b1) (i := 0) (s := 0) k_fd_63_0_0_3 k_sz_3_1 rfl rfl) ?_
 refine sQ 9 (Y_load1 (B := aD b1) (i := 0) (cs := kR_ y) (v := vi y.A) k_sc_3 rfl rfl (hS3.cf (i := 1) rfl) rfl) ?_
 refine sQ 10 (Y_add (k := .i64) (a := x.A) (b := y.A) rfl rfl rfl) ?_
 refine sQ 11 (Y_fieldAddr (B := aD b) (i := 0) (s := 0) k_fd_63_1_1_3 k_sz_3_1 rfl rfl) ?_
 refine sQ 12 (Y_load1 (B := aD b) (i := 1) (cs := kR_ x) (v := vi x.B) k_sc_3 rfl rfl (hS3.cf (i := 0) rfl) rfl) ?_
 refine sQ 13 (Y_fieldAddr (B := aD b1) (i := 0) (s := 0) k_fd_63_1_1_3 k_sz_3_1 rfl rfl) ?_
 refine sQ 14 (Y_load1 (B := aD b1) (i := 1) (cs := kR_ y) (v := vi y.B) k_sc_3 rfl rfl (hS3.cf (i := 1) rfl) rfl) ?_
 refine sQ 15 (Y_add (k := .i64) (a := x.B) (b := y.B) rfl rfl rfl) ?_
 refine sQ 16 (Y_fieldAddr (B := aD b) (i := 0) (s := 0) k_fd_63_2_2_3 k_sz_3_1 rfl rfl) ?_
 refine sQ 17 (Y_load1 (B := aD b) (i := 2) (cs := kR_ x) (v := vi x.C) k_sc_3 rfl rfl (hS3.cf (i := 0) rfl) rfl) ?_
 refine sQ 18 (Y_fieldAddr (B := aD b1) (i := 0) (s := 0) k_fd_63_2_2_3 k_sz_3_1 rfl rfl) ?_
 refine sQ 19 (Y_load1 (B := aD b1) (i := 2) (cs := kR_ y) (v := vi y.C) k_sc_3 rfl rfl (hS3.cf (i := 1) rfl) rfl) ?_
 refine sQ 20 (Y_add (k := .i64) (a := x.C) (b := y.C) rfl rfl rfl) ?_
 refine sQ 21 (Y_fieldAddr (B := aD b) (i := 0) (s := 0) k_fd_63_3_3_3 k_sz_3_1 rfl rfl) ?_
 refine sQ 22 (Y_load1 (B := aD b) (i := 3) (cs := kR_ x) (v := vi x.D) k_sc_3 rfl rfl (hS3.cf (i := 0) rfl) rfl) ?_
 refine sQ 23 (Y_fieldAddr (B := aD b1) (i := 0) (s := 0) k_fd_63_3_3_3 k_sz_3_1 rfl rfl) ?_
 refine sQ 24 (Y_load1 (B := aD b1) (i := 3) (cs := kR_ y) (v := vi y.D) k_sc_3 rfl rfl (hS3.cf (i := 1) rfl) rfl) ?_
 refine sQ 25 (Y_add (k := .i64) (a := x.D) (b := y.D) rfl rfl rfl) ?_
 refine sQ 26 (Y_buildS (zs := [vi 0, vi 0, vi 0, vi 0]) (vs := [(0, vi (i64.wrap (x.A + y.A))), (1, vi (i64.wrap (x.B + y.B))), (2, vi (i64.wrap (x.C + y.C))), (3, vi (i64.wrap (x.D + y.D)))]) (cs := [vi (i64.wrap (x.A + y.A)), vi (i64.wrap (x.B + y.B)), vi (i64.wrap (x.C + y.C)), vi (i64.wrap (x.D + y.D))]) k_pl_63 k_zero_63 rfl (mpc rfl (mpc rfl (mpc rfl (mpc rfl mpn)))) rfl) ?_
 refine sQ 27 (Y_loadA (B := aD b) (i := 0) (cs := kR_ x) (vs := kR_ x) k_ag_63 k_sz_63_4 rfl rfl (hS3.cf (i := 0) rfl) rfl rfl) ?_
 refine sQ 28 (Y_loadA (B := aD b1) (i := 0) (cs := kR_ y) (vs := kR_ y) k_ag_63 k_sz_63_4 rfl rfl (hS3.cf (i := 1) rfl) rfl rfl) ?_
 refine sS 29 (Ys_bslice (s := 4) (len := 2) (vs := [(0, gR_ x), (1, gR_ y)]) (cs := [vi x.A, vi x.B, vi x.C, vi x.D, vi y.A, vi y.B, vi y.C, vi y.D]) (zs := [vi 0, vi 0, vi 0, vi 0, vi 0, vi 0, vi 0, vi 0]) (m := 8) hS3 k_sl_169_63 k_sz_63_4 k_zc_63 rfl (mpc rfl (mpc rfl mpn)) rfl rfl rfl (by kernel_rfl) (by kernel_rfl) rfl) ?_
 rintro _ w_3 ⟨b3, rfl, hS4⟩
 obtain ⟨⟨r_2, r_3⟩, hc, hF⟩ := bind_inv hF
 refine sc 30 rfl rfl (Yc_func (g := 143) (vs := [.agg #[vi (i64.wrap (x.A + y.A)), vi (i64.wrap (x.B + y.B)), vi (i64.wrap (x.C + y.C)), vi (i64.wrap (x.D + y.D))], .slice (aD b3) 2 2]) k_call_143 rfl (mc rfl (mc rfl mn)) (c_impl_ringIf (TRing.mk (i64.wrap (x.A + y.A)) (i64.wrap (x.B + y.B)) (i64.wrap (x.C + y.C)) (i64.wrap (x.D + y.D))) [x, y] (aD b3) 2 2 _ rfl (hS4.inn [false, false, false, true] rfl [] rfl) hc)) ?_
 rintro _ w_4 ⟨rfl, hd⟩
 have hS5 := hS4.out [false, false, false, true] rfl hd
 refine sQ 31 (Y_extract (v := gR_ r_2) rfl rfl rfl) ?_
 refine sQ 32 (Y_extract (v := .bool r_3) rfl rfl rfl) ?_
 refine s0 (Ys_store (i := 2) (s := 4) (B := aD b2) (T' := 63) (v := gR_ r_2) (vs := kR_ r_2) (k := 0) (cs' := kR_ r_2) hS5 k_sz_63_4 rfl rfl rfl rfl rfl rfl rfl (lB rfl) rfl rfl) ?_
 rintro _ w_5 ⟨rfl, hS6⟩
 refine sQ 5 (Y_assign (v := .bool r_3) rfl rfl) (rw_nil (cw_ret ?_))
 obtain ⟨rfl, rfl⟩ := pr2 (some_inj hF)
 exact ret2 Tryz.results128 (v1 := gR_ r_2) (resAt_cellA (B := aD b2) (i := 0) (cs := kR_ r_2) (vs := kR_ r_2) rfl k_ag_63 k_sz_63_4 (hS6.cf (i := 2) rfl) rfl rfl) (v2 := .bool r_3) (resAt_tmp rfl) ⟨rfl, (hS6.sN [])⟩

theorem c_impl_AddDyadic (x : TDyadic) (y : TDyadic)  (w0 : World)  (hS : ST w0 [] w0 [] []) {r_ : TDyadic} {r_1 : Bool} (hF : F_impl_AddDyadic x y = some (r_, r_1)) :
  CV Tryz.prog 103 #[gD_ x, gD_ y] w0 (fun v w' => v = .tuple #[gD_ r_, .bool r_1] ∧ ST w0 [] w' [] []) := by
 unfold F_impl_AddDyadic at hF
 refine cv_of_cw 11 Tryz.func103 rfl Tryz.ntmps103 rfl ?_
 refine cw_seq (cw_region ?_)
 refine sS 2 (Ys_box (T := 65) (v := gD_ x) (cs := kD_ x) (m := 5) hS rfl rfl rfl rfl) ?_
 rintro _ w_ ⟨b, rfl, hS1⟩
 refine sS 3 (Ys_box (T := 65) (v := gD_ y) (cs := kD_ y) (m := 5) hS1 rfl rfl rfl rfl) ?_
 rintro _ w_1 ⟨b1, rfl, hS2⟩
 refine sS 4 (Ys_alloc (T := 65) (cs := kZ_) (m := 5) hS2 k_zero_65 rfl rfl rfl) ?_
 rintro _ w_2 ⟨b2, rfl, hS3⟩
 refine sQ 5 (Y_assign (v := .bool false) rfl rfl) (rw_nil (cw_seq (cw_region ?_)))
 refine sQ 6 (Y_loadA (B := aD b) (i := 0) (cs := kD_ x) (vs := kD_ x) k_ag_65 k_sz_65_5 rfl rfl (hS3.cf (i := 0) rfl) rfl rfl) ?_
 refine sQ 7 (Y_loadA (B := aD b1) (i := 0) (cs := kD_ y) (vs := kD_ y) k_ag_65 k_sz_65_5 rfl rfl (hS3.cf (i := 1) rfl) rfl rfl) ?_
 obtain ⟨⟨r_2, r_3⟩, hc, hF⟩ := bind_inv hF
 refine sc 8 rfl rfl (Yc_func (g := 127) (vs := [gD_ x, gD_ y, .func (.func 128) #[] #[]]) k_call_127 rfl (mc rfl (mc rfl (mc rfl mn))) (c_impl_combined x y F_impl_AddRing 128 (#[]) [] _ k_call_128 (fun w hw x_0 x_1 y_0 y_1 h_ => c_impl_AddRing x_0 x_1  w  hw h_) (hS3.inn0 [] rfl) hc)) ?_
 rintro _ w_3 ⟨rfl, hd⟩
 have hS4 := hS3.out00 hd
 refine sQ 9 (Y_extract (v := gD_ r_2) rfl rfl rfl) ?_
 refine sQ 10 (Y_extract (v := .bool r_3) rfl rfl rfl) ?_
 refine s0 (Ys_store (i := 2) (s := 5) (B := aD b2) (T' := 65) (v := gD_ r_2) (vs := kD_ r_2) (k := 0) (cs' := kD_ r_2) hS4 k_sz_65_5 rfl rfl rfl rfl rfl rfl rfl (lB rfl) rfl rfl) ?_
 rintro _ w_4 ⟨rfl, hS5⟩
 refine sQ 5 (Y_assign (v := .bool r_3) rfl rfl) (rw_nil (cw_ret ?_))
 obtain ⟨rfl, rfl⟩ := pr2 (some_inj hF)
 exact ret2 Tryz.results103 (v1 := gD_ r_2) (resAt_cellA (B := aD b2) (i := 0) (cs := kD_ r_2) (vs := kD_ r_2) rfl k_ag_65 k_sz_65_5 (hS5.cf (i := 2) rfl) rfl rfl) (v2 := .bool r_3) (resAt_tmp rfl) ⟨rfl, (hS5.sN [])⟩

theorem c_impl_mulBloch (a : List TDyadic) (b : List TDyadic) (B : Option Addr) (c n : Nat) (B1 : Option Addr) (c1 n1 : Nat) (w0 : World) (hn : a.length = n) (hn1 : b.length = n1) (hS : ST w0 [] w0 [] [⟨B, (a.flatMap eN0)⟩, ⟨B1, (b.flatMap eN0)⟩]) {r_ : List TDyadic} {r_1 : Bool} (hF : F_impl_mulBloch a b = some (r_, r_1)) :
  CV Tryz.prog 62 #[.slice B n c, .slice B1 n1 c1] w0 (fun v w' => ∃ (B2 : Option Addr) (c2 : Nat), v = .tuple #[.slice B2 r_.length c2, .bool r_1] ∧ ST w0 [] w' [⟨B2, 65, (r_.flatMap eN0), c2 * 5⟩] []) := by
 subst hn
 subst hn1
 unfold F_impl_mulBloch at hF
 refine cv_of_cw 65 Tryz.func62 rfl Tryz.ntmps62 rfl ?_
 refine cw_seq (cw_region ?_)
 refine sQ 4 (Y_assign (v := .slice none 0 0) rfl rfl) ?_
 refine sQ 5 (Y_assign (v := .bool false) rfl rfl) (rw_nil (cw_seq (cw_region ?_)))
 refine sS 15 (Ys_bslice0 (s := 5) (e := 65) hS k_sl_28_65 k_sz_65_5 rfl) ?_
 rintro _ w_ ⟨b1, rfl, hS1⟩
 refine sQ 6 (Y_assign (v := .slice (aD b1) 0 0) rfl rfl) (rw_nil (cw_seq (cw_seq (cw_region ?_))))
 refine sQ 16 (Y_move (v := vi 0) rfl rfl) (rw_nil ?_)
 obtain ⟨z, hz, hF1⟩ := bind_inv hF
 refine cw_block ?_
 refine cw_loop (fun k f w => ∃ (i : Nat) (out : List TDyadic) (B3 : Option Addr) (c3 : Nat), FF f [(0, .slice B a.length c), (1, .slice B1 b.length c1), (6, .slice B3 out.length c3), (16, vi (i : Int))] ∧ ST w0 [] w [⟨B3, 65, (out.flatMap eN0), c3 * 5⟩] [⟨B, (a.flatMap eN0)⟩, ⟨B1, (b.flatMap eN0)⟩] ∧ i + k = 3 ∧ forX (F_impl_mulBloch_l1 a b) k i out = some z) 3 ⟨0, [], aD b1, 0, (FF.cons rfl (FF.cons rfl (FF.cons rfl (FF.cons rfl FF.nil)))), (hS1.sel [0] rfl rfl), Nat.zero_add _, hz⟩ ?_
 rintro k_ f w ⟨i, out, B3, c3, hf, hS2, hik, hL⟩
 refine cw_seq (cw_region ?_)
 refine sQ 17 (Y_lt (k := .i64) (a := (i : Int)) (b := 3) rfl (hf.get 16 3 rfl) rfl) (rw_nil (cw_seq ?_))
 refine cw_cond (b := (decide ((i : Int) < 3))) rfl (fun hlt => ?_) (fun hlt => ?_)
 ·skip
  have hlt1 : i < 3 := by have h := of_decide_eq_true hlt; omega
  obtain ⟨k_1, rfl⟩ : ∃ k2, k_ = k2 + 1 := ⟨k_ - 1, by omega⟩
  obtain ⟨y, hb, hL1⟩ := forX_go hL
  unfold F_impl_mulBloch_l1 at hb
  refine cw_skip (cw_seq (cw_block (cw_seq (cw_region ?_))))
  refine sQ 18 (Y_move (v := vi (i : Int)) rfl (hf.get 16 3 rfl)) ?_
  refine sQ 7 (Y_assign (v := vi (i : Int)) rfl rfl) (rw_nil (cw_seq (cw_region ?_)))
  refine sQ 19 (Y_move (v := vi 0) rfl rfl) (rw_nil ?_)
  obtain ⟨z1, hz1, hF2⟩ := bind_inv hb
  refine cw_block ?_
  refine cw_loop (fun k f w => ∃ (i1 : Nat) (out1 : List TDyadic) (B4 : Option Addr) (c4 : Nat), FF f [(0, .slice B a.length c), (1, .slice B1 b.length c1), (6, .slice B4 out1.length c4), (7, vi (i : Int)), (16, vi (i : Int)), (19, vi (i1 : Int))] ∧ ST w0 [] w [⟨B4, 65, (out1.flatMap eN0), c4 * 5⟩] [⟨B, (a.flatMap eN0)⟩, ⟨B1, (b.flatMap eN0)⟩] ∧ i1 + k = 3 ∧ forX (F_impl_mulBloch_l2 a i b) k i1 out1 = some z1) 3 ⟨0, out, B3, c3, (FF.cons (hf.get 0 0 rfl) (FF.cons (hf.get 1 1 rfl) (FF.cons (hf.get 6 2 rfl) (FF.cons rfl (FF.cons (hf.get 16 3 rfl) (FF.cons rfl FF.nil)))))), (hS2.sel [0] rfl rfl), Nat.zero_add _, hz1⟩ ?_
  rintro k_2 f w ⟨i1, out1, B4, c4, hf1, hS3, hik1, hL2⟩
  refine cw_seq (cw_region ?_)
  refine sQ 20 (Y_lt (k := .i64) (a := (i1 : Int)) (b := 3) rfl (hf1.get 19 5 rfl) rfl) (rw_nil (cw_seq ?_))
  refine cw_cond (b := (decide ((i1 : Int) < 3))) rfl (fun hlt2 => ?_) (fun hlt2 => ?_)
  ·skip
   have hlt3 : i1 < 3 := by have h := of_decide_eq_true hlt2; omega
   obtain ⟨k_3, rfl⟩ : ∃ k2, k_2 = k2 + 1 := ⟨k_2 - 1, by omega⟩
   obtain ⟨y1, hb1, hL3⟩ := forX_go hL2
   unfold F_impl_mulBloch_l2 at hb1
   refine cw_skip (cw_seq (cw_block (cw_seq (cw_region ?_))))
   refine sQ 21 (Y_move (v := vi (i1 : Int)) rfl (hf1.get 19 5 rfl)) ?_
   refine sQ 8 (Y_assign (v := vi (i1 : Int)) rfl rfl) (rw_nil (cw_seq (cw_region ?_)))
   refine sQ 22 (Y_buildS (zs := kZ_) (vs := []) (cs := kZ_) k_pl_65 k_zero_65 rfl mpn rfl) ?_
   refine sS 9 (Ys_alloc (T := 65) (cs := kZ_) (m := 5) hS3 k_zero_65 rfl rfl rfl) ?_
   rintro _ w_1 ⟨b2, rfl, hS4⟩
   refine s0 (Ys_store (i := 1) (s := 5) (B := aD b2) (T' := 65) (v := gZ_) (vs := kZ_) (k := 0) (cs' := kZ_) hS4 k_sz_65_5 rfl rfl rfl rfl rfl rfl rfl (lB rfl) rfl rfl) ?_
   rintro _ w_2 ⟨rfl, hS5⟩
   refine rw_nil (cw_seq (cw_seq (cw_region ?_)))
   refine sQ 23 (Y_move (v := vi 0) rfl rfl) (rw_nil ?_)
   obtain ⟨z2, hz2, hF3⟩ := bind_inv hb1
   refine cw_block ?_
   refine cw_loop (fun k f w => ∃ (i2 : Nat) (A : Int) (B5 : Int) (C : Int) (D : Int) (Exp : Int), FF f [(0, .slice B a.length c), (1, .slice B1 b.length c1), (6, .slice B4 out1.length c4), (7, vi (i : Int)), (8, vi (i1 : Int)), (9, pt (aD b2) 0), (16, vi (i : Int)), (19, vi (i1 : Int)), (23, vi (i2 : Int))] ∧ ST w0 [] w [⟨B4, 65, (out1.flatMap eN0), c4 * 5⟩, ⟨aD b2, 65, [vi A, vi B5, vi C, vi D, vi Exp], 5⟩] [⟨B, (a.flatMap eN0)⟩, ⟨B1, (b.flatMap eN0)⟩] ∧ i2 + k = 3 ∧ forX (F_impl_mulBloch_l3 a i b i1) k i2 (A, B5, C, D, Exp) = some z2) 3 ⟨0, 0, 0, 0, 0, 0, (FF.cons (hf1.get 0 0 rfl) (FF.cons (hf1.get 1 1 rfl) (FF.cons (hf1.get 6 2 rfl) (FF.cons (hf1.get 7 3 rfl) (FF.cons rfl (FF.cons rfl (FF.cons (hf1.get 16 4 rfl) (FF.cons (hf1.get 19 5 rfl) (FF.cons rfl FF.nil))))))))), (hS5.sel [0, 1] rfl rfl), Nat.zero_add _, hz2⟩ ?_
   rintro k_4 f w ⟨i2, A, B5, C, D, Exp, hf2, hS6, hik2, hL4⟩
   refine cw_seq (cw_region ?_)
   refine sQ 24 (Y_lt (k := .i64) (a := (i2 : Int)) (b := 3) rfl (hf2.get 23 8 rfl) rfl) (rw_nil (cw_seq ?_))
   refine cw_cond (b := (decide ((i2 : Int) < 3))) rfl (fun hlt4 => ?_) (fun hlt4 => ?_)
   ·skip
    have hlt5 : i2 < 3 := by have h := of_decide_eq_true hlt4; omega
    obtain ⟨k_5, rfl⟩ : ∃ k2, k_4 = k2 + 1 := ⟨k_4 - 1, by omega⟩
    obtain ⟨y2, hb2, hL5⟩ := forX_go hL4
    unfold F_impl_mulBloch_l3 at hb2
    refine cw_skip (cw_seq (cw_block (cw_seq (cw_region ?_))))
    refine sQ 25 (Y_move (v := vi (i2 : Int)) rfl (hf2.get 23 8 rfl)) ?_
    refine sQ 10 (Y_assign (v := vi (i2 : Int)) rfl rfl) (rw_nil (cw_seq ?_))
    obtain ⟨x, hx, hb2⟩ := bind_inv hb2
    obtain ⟨x1, hx1, hb2⟩ := bind_inv hb2
    obtain ⟨⟨r_2, r_3⟩, hc, hb2⟩ := bind_inv hb2
    refine cw_mid (fun f w => ∃ (B6 : Option Addr), FF f [(0, .slice B a.length c), (1, .slice B1 b.length c1), (6, .slice B4 out1.length c4), (7, vi (i : Int)), (8, vi (i1 : Int)), (9, pt (aD b2) 0), (11, pt B6 0), (12, .bool r_3), (16, vi (i : Int)), (19, vi (i1 : Int)), (23, vi (i2 : Int))] ∧ ST w0 [] w [⟨B4, 65, (out1.flatMap eN0), c4 * 5⟩, ⟨aD b2, 65, [vi A, vi B5, vi C, vi D, vi Exp], 5⟩, ⟨B6, 65, kD_ r_2, 5⟩] [⟨B, (a.flatMap eN0)⟩, ⟨B1, (b.flatMap eN0)⟩]) ?_ ?_
    ·skip
     refine ra_start (hS6.se [0, 1]).fn (by kernel_rfl) ?_
     have hS9 := hS6.drew
     refine rq 0 27 (v := .slice B a.length c) rfl (hS9.se [0, 1]) (fun w' hw' => (Y_move (v := .slice B a.length c) rfl (hf2.get 0 0 rfl))) ?_
     refine rq 1 28 (v := vi (i : Int)) rfl (hS9.se [0, 1]) (fun w' hw' => (Y_move (v := vi (i : Int)) rfl (hf2.get 7 3 rfl))) ?_
     refine rq 2 29 (v := vi (i64.wrap (3 * (i : Int)))) rfl (hS9.se [0, 1]) (fun w' hw' => (Y_mul (k := .i64) (a := 3) (b := (i : Int)) rfl rfl rfl)) ?_
     refine rq 3 30 (v := vi (i2 : Int)) rfl (hS9.se [0, 1]) (fun w' hw' => (Y_move (v := vi (i2 : Int)) rfl rfl)) ?_
     refine rq 4 31 (v := vi (i64.wrap ((i64.wrap (3 * (i : Int))) + (i2 : Int)))) rfl (hS9.se [0, 1]) (fun w' hw' => (Y_add (k := .i64) (a := (i64.wrap (3 * (i : Int)))) (b := (i2 : Int)) rfl rfl rfl)) ?_
     refine rq 5 32 (v := pt B ((i64.wrap ((i64.wrap (3 * (i : Int))) + (i2 : Int))).toNat * 5)) rfl (hS9.se [0, 1]) (fun w' hw' => (Y_index (B := B) (m := a.length) (c := c) (k := .i64) (i := (i64.wrap ((i64.wrap (3 * (i : Int))) + (i2 : Int)))) k_sl_28_65 k_sz_65_5 rfl rfl rfl (gi_isSome eN2 rfl (ST.rf hw' (i := 0) rfl) hx) (getI_nn hx) (getI_ltI hx rfl))) ?_
     refine rq 6 33 (v := gD_ x) rfl (hS9.se [0, 1]) (fun w' hw' => (Y_loadA (B := B) (i := (i64.wrap ((i64.wrap (3 * (i : Int))) + (i2 : Int))).toNat * 5) (cs := (a.flatMap eN0)) (vs := kD_ x) k_ag_65 k_sz_65_5 rfl rfl (ST.rf hw' (i := 0) rfl) (eN2 x) (gi_seg eN2 hx))) ?_
     refine rq 7 34 (v := .slice B1 b.length c1) rfl (hS9.se [0, 1]) (fun w' hw' => (Y_move (v := .slice B1 b.length c1) rfl (hf2.get 1 1 rfl))) ?_
     refine rq 8 35 (v := vi (i2 : Int)) rfl (hS9.se [0, 1]) (fun w' hw' => (Y_move (v := vi (i2 : Int)) rfl rfl)) ?_
     refine rq 9 36 (v := vi (i64.wrap (3 * (i2 : Int)))) rfl (hS9.se [0, 1]) (fun w' hw' => (Y_mul (k := .i64) (a := 3) (b := (i2 : Int)) rfl rfl rfl)) ?_
     refine rq 10 37 (v := vi (i1 : Int)) rfl (hS9.se [0, 1]) (fun w' hw' => (Y_move (v := vi (i1 : Int)) rfl (hf2.get 8 4 rfl))) ?_
     refine rq 11 38 (v := vi (i64.wrap ((i64.wrap (3 * (i2 : Int))) + (i1 : Int)))) rfl (hS9.se [0, 1]) (fun w' hw' => (Y_add (k := .i64) (a := (i64.wrap (3 * (i2 : Int)))) (b := (i1 : Int)) rfl rfl rfl)) ?_
     refine rq 12 39 (v := pt B1 ((i64.wrap ((i64.wrap (3 * (i2 : Int))) + (i1 : Int))).toNat * 5)) rfl (hS9.se [0, 1]) (fun w' hw' => (Y_index (B := B1) (m := b.length) (c := c1) (k := .i64) (i := (i64.wrap ((i64.wrap (3 * (i2 : Int))) + (i1 : Int)))) k_sl_28_65 k_sz_65_5 rfl rfl rfl (gi_isSome eN2 rfl (ST.rf hw' (i := 1) rfl) hx1) (getI_nn hx1) (getI_ltI hx1 rfl))) ?_
     refine rq 13 40 (v := gD_ x1) rfl (hS9.se [0, 1]) (fun w' hw' => (Y_loadA (B := B1) (i := (i64.wrap ((i64.wrap (3 * (i2 : Int))) + (i1 : Int))).toNat * 5) (cs := (b.flatMap eN0)) (vs := kD_ x1) k_ag_65 k_sz_65_5 rfl rfl (ST.rf hw' (i := 1) rfl) (eN2 x1) (gi_seg eN2 hx1))) ?_
     refine rA [14, 18] ?_
     refine ra_c 41 (i := 14) rfl rfl rfl (Yc_func (g := 86) (vs := [gD_ x, gD_ x1]) k_call_86 rfl (mc rfl (mc rfl mn)) (c_impl_MulDyadic x x1 _  (hS9.inn0 [] rfl) hc)) ?_ ?_
     ·rintro _ w_3 ⟨rfl, hd⟩
      have hS10 := hS9.out00 hd
      refine ⟨(hS10.se [0, 1]), ?_⟩
      refine rq 15 26 (v := .tuple #[gD_ r_2, .bool r_3]) rfl (hS10.se [0, 1]) (fun w' hw' => (Y_move (v := .tuple #[gD_ r_2, .bool r_3]) rfl rfl)) ?_
      refine rq 16 42 (v := gD_ r_2) rfl (hS10.se [0, 1]) (fun w' hw' => (Y_extract (v := gD_ r_2) rfl rfl rfl)) ?_
      refine rq 17 43 (v := .bool r_3) rfl (hS10.se [0, 1]) (fun w' hw' => (Y_extract (v := .bool r_3) rfl rfl rfl)) ?_
      refine rA [18] ?_
      refine ra_s 11 (i := 18) rfl rfl rfl (Ys_alloc (T := 65) (cs := kZ_) (m := 5) hS10 k_zero_65 rfl rfl rfl) ?_ ?_
      ·rintro _ w_4 ⟨b3, rfl, hS11⟩
       refine ⟨(hS11.se [0, 1]), ?_⟩
       refine rA [19] ?_
       refine ra_s0 (i := 19) rfl rfl rfl (Ys_store (i := 2) (s := 5) (B := aD b3) (T' := 65) (v := gD_ r_2) (vs := kD_ r_2) (k := 0) (cs' := kD_ r_2) hS11 k_sz_65_5 rfl rfl rfl rfl rfl rfl rfl (lB rfl) rfl rfl) ?_ ?_
       ·rintro _ w_5 ⟨rfl, hS12⟩
        refine ⟨(hS12.se [0, 1]), ?_⟩
        refine rq 20 12 (v := .bool r_3) rfl (hS12.se [0, 1]) (fun w' hw' => (Y_assign (v := .bool r_3) rfl rfl)) ?_
        refine ra_done (by kernel_rfl) ?_
        exact ⟨aD b3, (FF.cons (hf2.get 0 0 rfl) (FF.cons (hf2.get 1 1 rfl) (FF.cons (hf2.get 6 2 rfl) (FF.cons (hf2.get 7 3 rfl) (FF.cons (hf2.get 8 4 rfl) (FF.cons (hf2.get 9 5 rfl) (FF.cons rfl (FF.cons rfl (FF.cons (hf2.get 16 6 rfl) (FF.cons (hf2.get 19 7 rfl) (FF.cons (hf2.get 23 8 rfl) FF.nil))))))))))), (hS12.sel [0, 1, 2] rfl rfl)⟩
       exact allR_nil
      exact allR_nil
     refine ra_s 11 (i := 18) rfl rfl rfl (Ys_alloc (T := 65) (cs := kZ_) (m := 5) hS9 k_zero_65 rfl rfl rfl) ?_ ?_
     ·rintro _ w_6 ⟨b3, rfl, hS13⟩
      refine ⟨(hS13.se [0, 1]), ?_⟩
      refine rA [14] ?_
      refine ra_c 41 (i := 14) rfl rfl rfl (Yc_func (g := 86) (vs := [gD_ x, gD_ x1]) k_call_86 rfl (mc rfl (mc rfl mn)) (c_impl_MulDyadic x x1 _  (hS13.inn0 [] rfl) hc)) ?_ ?_
      ·rintro _ w_7 ⟨rfl, hd1⟩
       have hS14 := hS13.out00 hd1
       refine ⟨(hS14.se [0, 1]), ?_⟩
       refine rq 15 26 (v := .tuple #[gD_ r_2, .bool r_3]) rfl (hS14.se [0, 1]) (fun w' hw' => (Y_move (v := .tuple #[gD_ r_2, .bool r_3]) rfl rfl)) ?_
       refine rq 16 42 (v := gD_ r_2) rfl (hS14.se [0, 1]) (fun w' hw' => (Y_extract (v := gD_ r_2) rfl rfl rfl)) ?_
       refine rq 17 43 (v := .bool r_3) rfl (hS14.se [0, 1]) (fun w' hw' => (Y_extract (v := .bool r_3) rfl rfl rfl)) ?_
       refine rA [19] ?_
       refine ra_s0 (i := 19) rfl rfl rfl (Ys_store (i := 2) (s := 5) (B := aD b3) (T' := 65) (v := gD_ r_2) (vs := kD_ r_2) (k := 0) (cs' := kD_ r_2) hS14 k_sz_65_5 rfl rfl rfl rfl rfl rfl rfl (lB rfl) rfl rfl) ?_ ?_
       ·rintro _ w_8 ⟨rfl, hS15⟩
        have hS15 : ST w0 [] _ [⟨B4, 65, (out1.flatMap eN0), c4 * 5⟩, ⟨aD b2, 65, [vi A, vi B5, vi C, vi D, vi Exp], 5⟩, ⟨aD b3, 65, kD_ r_2, 5⟩] [⟨B, (a.flatMap eN0)⟩, ⟨B1, (b.flatMap eN0)⟩] := hS15
        refine ⟨(hS15.se [0, 1]), ?_⟩
        refine rq 20 12 (v := .bool r_3) rfl (hS15.se [0, 1]) (fun w' hw' => (Y_assign (v := .bool r_3) rfl rfl)) ?_
        refine ra_done (by kernel_rfl) ?_
        exact ⟨aD b3, (FF.cons (hf2.get 0 0 rfl) (FF.cons (hf2.get 1 1 rfl) (FF.cons (hf2.get 6 2 rfl) (FF.cons (hf2.get 7 3 rfl) (FF.cons (hf2.get 8 4 rfl) (FF.cons (hf2.get 9 5 rfl) (FF.cons rfl (FF.cons rfl (FF.cons (hf2.get 16 6 rfl) (FF.cons (hf2.get 19 7 rfl) (FF.cons (hf2.get 23 8 rfl) FF.nil))))))))))), (hS15.sel [0, 1, 2] rfl rfl)⟩
       exact allR_nil
      exact allR_nil
     exact allR_nil
    rintro f w ⟨B6, hf3, hS8⟩
    refine cw_seq (cw_region ?_)
    refine sQ 45 (Y_loadA (B := aD b2) (i := 0) (cs := [vi A, vi B5, vi C, vi D, vi Exp]) (vs := [vi A, vi B5, vi C, vi D, vi Exp]) k_ag_65 k_sz_65_5 rfl (hf3.get 9 5 rfl) (hS8.cf (i := 1) rfl) rfl rfl) ?_
    refine sQ 46 (Y_loadA (B := B6) (i := 0) (cs := kD_ r_2) (vs := kD_ r_2) k_ag_65 k_sz_65_5 rfl (hf3.get 11 6 rfl) (hS8.cf (i := 2) rfl) rfl rfl) ?_
    obtain ⟨⟨r_4, r_5⟩, hc1, hb2⟩ := bind_inv hb2
    refine sc 47 rfl rfl (Yc_func (g := 103) (vs := [.agg #[vi A, vi B5, vi C, vi D, vi Exp], gD_ r_2]) k_call_103 rfl (mc rfl (mc rfl mn)) (c_impl_AddDyadic (TDyadic.mk (TRing.mk A B5 C D) Exp) r_2 _  (hS8.inn0 [] rfl) hc1)) ?_
    rintro _ w_9 ⟨rfl, hd2⟩
    have hS16 := hS8.out00 hd2
    refine sQ 44 (Y_move (v := .tuple #[gD_ r_4, .bool r_5]) rfl rfl) ?_
    refine sQ 48 (Y_extract (v := gD_ r_4) rfl rfl rfl) ?_
    refine sQ 49 (Y_extract (v := .bool r_5) rfl rfl rfl) ?_
    refine sS 13 (Ys_alloc (T := 65) (cs := kZ_) (m := 5) hS16 k_zero_65 rfl rfl rfl) ?_
    rintro _ w_10 ⟨b4, rfl, hS17⟩
    refine s0 (Ys_store (i := 3) (s := 5) (B := aD b4) (T' := 65) (v := gD_ r_4) (vs := kD_ r_4) (k := 0) (cs' := kD_ r_4) hS17 k_sz_65_5 rfl rfl rfl rfl rfl rfl rfl (lB rfl) rfl rfl) ?_
    rintro _ w_11 ⟨rfl, hS18⟩
    refine sQ 14 (Y_assign (v := .bool r_5) rfl rfl) (rw_nil (cw_seq (cw_seq (cw_region ?_))))
    refine sQ 50 (Y_move (v := .bool r_3) rfl (hf3.get 12 7 rfl)) ?_
    refine sQ 51 (Y_not (p := r_3) rfl rfl) ?_
    refine sQ 52 (Y_move (v := .bool (!r_3)) rfl rfl) ?_
    refine sgq 53 (B := (!(!r_3))) (v := .bool r_5) rfl rfl (wF 52) (fun hg => (Y_move (v := .bool r_5) rfl rfl)) ?_
    refine sgq 54 (B := (!(!r_3))) (v := .bool (!r_5)) rfl rfl (wF 52) (fun hg1 => (Y_not (p := r_5) rfl (gv_of (v := .bool r_5) hg1))) ?_
    refine sQ 55 (Y_or (b := (!r_3)) (z := (!r_5)) rfl rfl rfl rfl) (rw_nil ?_)
    refine cw_cond (b := ((!r_3) || (!r_5))) rfl (fun hb3 => ?_) (fun hb3 => ?_)
    ·skip
     have hF4 := ct hb2 hb3
     refine cw_seq (cw_region ?_)
     refine sQ 4 (Y_assign (v := .slice none 0 0) rfl rfl) ?_
     refine sQ 5 (Y_assign (v := .bool false) rfl rfl) (rw_nil (cw_ret ?_))
     have hS19 := hS18.addNil 65
     obtain rfl := some_inj hF4
     obtain rfl := some_inj hL5
     obtain rfl := some_inj hF3
     obtain rfl := some_inj hL3
     obtain rfl := some_inj hF2
     obtain rfl := some_inj hL1
     obtain ⟨rfl, rfl⟩ := pr2 (some_inj hF1)
     exact ret2 Tryz.results62 (v1 := .slice none 0 0) (resAt_tmp rfl) (v2 := .bool false) (resAt_tmp rfl) ⟨none, 0, rfl, (hS19.sN [4])⟩
    ·skip
     have hF5 := cf' hb2 hb3
     refine cw_skip (cw_region ?_)
     refine sQ 56 (Y_loadA (B := aD b4) (i := 0) (cs := kD_ r_4) (vs := kD_ r_4) k_ag_65 k_sz_65_5 rfl rfl (hS18.cf (i := 3) rfl) rfl rfl) ?_
     refine s0 (Ys_store (i := 1) (s := 5) (B := aD b2) (T' := 65) (v := gD_ r_4) (vs := kD_ r_4) (k := 0) (cs' := kD_ r_4) hS18 k_sz_65_5 rfl (hf3.get 9 5 rfl) rfl rfl rfl rfl rfl (lB rfl) rfl rfl) ?_
     rintro _ w_12 ⟨rfl, hS20⟩
     refine rw_nil (cw_region ?_)
     refine sQ 57 (Y_add (k := .i64) (a := (i2 : Int)) (b := 1) rfl (hf3.get 23 10 rfl) rfl) ?_
     refine sQ 23 (Y_move (v := vi (i64.wrap ((i2 : Int) + 1))) rfl rfl) (rw_nil ?_)
     obtain rfl := some_inj hF5
     exact ⟨k_5, Nat.lt_succ_self _, i2 + 1, r_4.Num.A, r_4.Num.B, r_4.Num.C, r_4.Num.D, r_4.Exp, (FF.cons (hf3.get 0 0 rfl) (FF.cons (hf3.get 1 1 rfl) (FF.cons (hf3.get 6 2 rfl) (FF.cons (hf3.get 7 3 rfl) (FF.cons (hf3.get 8 4 rfl) (FF.cons (hf3.get 9 5 rfl) (FF.cons (hf3.get 16 8 rfl) (FF.cons (hf3.get 19 9 rfl) (FF.cons (congrArg (Value.int .i64) (wr_succ hlt5 (show 3 ≤ 9223372036854775807 by decide))) FF.nil))))))))), (hS20.sel [0, 1] rfl rfl), (by omega), hL5⟩
   ·skip
    obtain rfl : k_4 = 0 := by have h := of_decide_eq_false hlt4; omega
    refine cw_exit rfl ?_
    obtain rfl := some_inj hL4
    refine cw_region ?_
    refine sQ 58 (Y_move (v := .slice B4 out1.length c4) rfl (hf2.get 6 2 rfl)) ?_
    refine sQ 59 (Y_loadA (B := aD b2) (i := 0) (cs := [vi A, vi B5, vi C, vi D, vi Exp]) (vs := [vi A, vi B5, vi C, vi D, vi Exp]) k_ag_65 k_sz_65_5 rfl (hf2.get 9 5 rfl) (hS6.cf (i := 1) rfl) rfl rfl) ?_
    refine sS 60 (Ys_bslice (s := 5) (len := 1) (vs := [(0, .agg #[vi A, vi B5, vi C, vi D, vi Exp])]) (cs := [vi A, vi B5, vi C, vi D, vi Exp]) (zs := kZ_) (m := 5) hS6 k_sl_28_65 k_sz_65_5 k_zc_65 rfl (mpc rfl mpn) rfl rfl rfl (by kernel_rfl) (by kernel_rfl) rfl) ?_
    rintro _ w_13 ⟨b5, rfl, hS21⟩
    obtain ⟨hap, hF3⟩ := chk_inv hF3
    refine sS 61 (Ys_append (s := 5) (by' := 40) (i := 0) (nn := out1.length) (c := c4) (k := 1) (len := (out1 ++ [(TDyadic.mk (TRing.mk A B5 C D) Exp)]).length) (B := B4) (xs := ([(TDyadic.mk (TRing.mk A B5 C D) Exp)].flatMap eN0)) (cs' := ((out1 ++ [(TDyadic.mk (TRing.mk A B5 C D) Exp)]).flatMap eN0)) hS21 k_sl_28_65 k_sz_65_5 k_by_65_40 k_zero_65 rfl (by decide) rfl rfl rfl rfl (fm_lenn (l := out1) eN2 rfl) rfl (hS21.cf (i := 2) rfl) (fm_lenn (l := [(TDyadic.mk (TRing.mk A B5 C D) Exp)]) eN2 rfl) (fm_one' (enc := eN0) enc_Dyadic_one [(TDyadic.mk (TRing.mk A B5 C D) Exp)]) (by have := hap; omega) (by have := hap; simp only [maxLen]; omega) (fm_app _ _) (app_len (l := out1) (l' := [(TDyadic.mk (TRing.mk A B5 C D) Exp)]) rfl rfl)) ?_
    rintro _ w_14 ⟨B7, c5, rfl, hS22⟩
    refine sQ 6 (Y_assign (v := .slice B7 ((out1 ++ [(TDyadic.mk (TRing.mk A B5 C D) Exp)]).length) c5) rfl rfl) (rw_nil (cw_region ?_))
    refine sQ 62 (Y_add (k := .i64) (a := (i1 : Int)) (b := 1) rfl (hf2.get 19 7 rfl) rfl) ?_
    refine sQ 19 (Y_move (v := vi (i64.wrap ((i1 : Int) + 1))) rfl rfl) (rw_nil ?_)
    obtain rfl := some_inj hF3
    exact ⟨k_3, Nat.lt_succ_self _, i1 + 1, (out1 ++ [(TDyadic.mk (TRing.mk A B5 C D) Exp)]), B7, c5, (FF.cons (hf2.get 0 0 rfl) (FF.cons (hf2.get 1 1 rfl) (FF.cons rfl (FF.cons (hf2.get 7 3 rfl) (FF.cons (hf2.get 16 6 rfl) (FF.cons (congrArg (Value.int .i64) (wr_succ hlt3 (show 3 ≤ 9223372036854775807 by decide))) FF.nil)))))), (hS22.sel [0] rfl rfl), (by omega), hL3⟩
  ·skip
   obtain rfl : k_2 = 0 := by have h := of_decide_eq_false hlt2; omega
   refine cw_exit rfl ?_
   obtain rfl := some_inj hL2
   refine cw_region ?_
   refine sQ 63 (Y_add (k := .i64) (a := (i : Int)) (b := 1) rfl (hf1.get 16 4 rfl) rfl) ?_
   refine sQ 16 (Y_move (v := vi (i64.wrap ((i : Int) + 1))) rfl rfl) (rw_nil ?_)
   obtain rfl := some_inj hF2
   exact ⟨k_1, Nat.lt_succ_self _, i + 1, out1, B4, c4, (FF.cons (hf1.get 0 0 rfl) (FF.cons (hf1.get 1 1 rfl) (FF.cons (hf1.get 6 2 rfl) (FF.cons (congrArg (Value.int .i64) (wr_succ hlt1 (show 3 ≤ 9223372036854775807 by decide))) FF.nil)))), (hS3.sel [0] rfl rfl), (by omega), hL1⟩
 ·skip
  obtain rfl : k_ = 0 := by have h := of_decide_eq_false hlt; omega
  refine cw_exit rfl ?_
  obtain rfl := some_inj hL
  refine cw_seq (cw_region ?_)
  refine sQ 64 (Y_move (v := .slice B3 out.length c3) rfl (hf.get 6 2 rfl)) ?_
  refine sQ 4 (Y_assign (v := .slice B3 out.length c3) rfl rfl) ?_
  refine sQ 5 (Y_assign (v := .bool true) rfl rfl) (rw_nil (cw_ret ?_))
  obtain ⟨rfl, rfl⟩ := pr2 (some_inj hF1)
  exact ret2 Tryz.results62 (v1 := .slice B3 out.length c3) (resAt_tmp rfl) (v2 := .bool true) (resAt_tmp rfl) ⟨B3, c3, rfl, (hS2.sN [0])⟩

theorem c_impl_transposed (a : List TDyadic) (B : Option Addr) (c n : Nat) (w0 : World) (hn : a.length = n) (hS : ST w0 [] w0 [] [⟨B, (a.flatMap eN0)⟩]) {r_ : List TDyadic} (hF : F_impl_transposed a = some r_) :
  CV Tryz.prog 63 #[.slice B n c] w0 (fun v w' => ∃ (B1 : Option Addr) (c1 : Nat), v = .slice B1 r_.length c1 ∧ ST w0 [] w' [⟨B1, 65, (r_.flatMap eN0), c1 * 5⟩] []) := by
 subst hn
 unfold F_impl_transposed at hF
 refine cv_of_cw 26 Tryz.func63 rfl Tryz.ntmps63 rfl ?_
 refine cw_seq (cw_region ?_)
 refine sQ 2 (Y_assign (v := .slice none 0 0) rfl rfl) (rw_nil (cw_seq (cw_region ?_)))
 refine sS 6 (Ys_bslice0 (s := 5) (e := 65) hS k_sl_28_65 k_sz_65_5 rfl) ?_
 rintro _ w_ ⟨b, rfl, hS1⟩
 refine sQ 3 (Y_assign (v := .slice (aD b) 0 0) rfl rfl) (rw_nil (cw_seq (cw_seq (cw_region ?_))))
 refine sQ 7 (Y_move (v := vi 0) rfl rfl) (rw_nil ?_)
 obtain ⟨z, hz, hF1⟩ := bind_inv hF
 refine cw_block ?_
 refine cw_loop (fun k f w => ∃ (i : Nat) (out : List TDyadic) (B2 : Option Addr) (c2 : Nat), FF f [(0, .slice B a.length c), (3, .slice B2 out.length c2), (7, vi (i : Int))] ∧ ST w0 [] w [⟨B2, 65, (out.flatMap eN0), c2 * 5⟩] [⟨B, (a.flatMap eN0)⟩] ∧ i + k = 3 ∧ forN (F_impl_transposed_l1 a) k i out = some z) 3 ⟨0, [], aD b, 0, (FF.cons rfl (FF.cons rfl (FF.cons rfl FF.nil))), (hS1.sel [0] rfl rfl), Nat.zero_add _, hz⟩ ?_
 rintro k_ f w ⟨i, out, B2, c2, hf, hS2, hik, hL⟩
 refine cw_seq (cw_region ?_)
 refine sQ 8 (Y_lt (k := .i64) (a := (i : Int)) (b := 3) rfl (hf.get 7 2 rfl) rfl) (rw_nil (cw_seq ?_))
 refine cw_cond (b := (decide ((i : Int) < 3))) rfl (fun hlt => ?_) (fun hlt => ?_)
 ·skip
  have hlt1 : i < 3 := by have h := of_decide_eq_true hlt; omega
  obtain ⟨k_1, rfl⟩ : ∃ k2, k_ = k2 + 1 := ⟨k_ - 1, by omega⟩
  obtain ⟨y, hb, hL1⟩ := forN_go hL
  unfold F_impl_transposed_l1 at hb
  refine cw_skip (cw_seq (cw_block (cw_seq (cw_region ?_))))
  refine sQ 9 (Y_move (v := vi (i : Int)) rfl (hf.get 7 2 rfl)) ?_
  refine sQ 4 (Y_assign (v := vi (i : Int)) rfl rfl) (rw_nil (cw_seq (cw_region ?_)))
  refine sQ 10 (Y_move (v := vi 0) rfl rfl) (rw_nil ?_)
  obtain ⟨z1, hz1, hF2⟩ := bind_inv hb
  refine cw_block ?_
  refine cw_loop (fun k f w => ∃ (i1 : Nat) (out1 : List TDyadic) (B3 : Option Addr) (c3 : Nat), FF f [(0, .slice B a.length c), (3, .slice B3 out1.length c3), (4, vi (i : Int)), (7, vi (i : Int)), (10, vi (i1 : Int))] ∧ ST w0 [] w [⟨B3, 65, (out1.flatMap eN0), c3 * 5⟩] [⟨B, (a.flatMap eN0)⟩] ∧ i1 + k = 3 ∧ forN (F_impl_transposed_l2 a i) k i1 out1 = some z1) 3 ⟨0, out, B2, c2, (FF.cons (hf.get 0 0 rfl) (FF.cons (hf.get 3 1 rfl) (FF.cons rfl (FF.cons (hf.get 7 2 rfl) (FF.cons rfl FF.nil))))), (hS2.sel [0] rfl rfl), Nat.zero_add _, hz1⟩ ?_
  rintro k_2 f w ⟨i1, out1, B3, c3, hf1, hS3, hik1, hL2⟩
  refine cw_seq (cw_region ?_)
  refine sQ 11 (Y_lt (k := .i64) (a := (i1 : Int)) (b := 3) rfl (hf1.get 10 4 rfl) rfl) (rw_nil (cw_seq ?_))
  refine cw_cond (b := (decide ((i1 : Int) < 3))) rfl (fun hlt2 => ?_) (fun hlt2 => ?_)
  ·skip
   have hlt3 : i1 < 3 := by have h := of_decide_eq_true hlt2; omega
   obtain ⟨k_3, rfl⟩ : ∃ k2, k_2 = k2 + 1 := ⟨k_2 - 1, by omega⟩
   obtain ⟨y1, hb1, hL3⟩ := forN_go hL2
   unfold F_impl_transposed_l2 at hb1
   refine cw_skip (cw_seq (cw_block (cw_seq (cw_region ?_))))
   refine sQ 12 (Y_move (v := vi (i1 : Int)) rfl (hf1.get 10 4 rfl)) ?_
   refine sQ 5 (Y_assign (v := vi (i1 : Int)) rfl rfl) (rw_nil (cw_region ?_))
   refine sQ 13 (Y_move (v := .slice B3 out1.length c3) rfl (hf1.get 3 1 rfl)) ?_
   refine sQ 14 (Y_move (v := .slice B a.length c) rfl (hf1.get 0 0 rfl)) ?_
   refine sQ 15 (Y_move (v := vi (i1 : Int)) rfl rfl) ?_
   refine sQ 16 (Y_mul (k := .i64) (a := 3) (b := (i1 : Int)) rfl rfl rfl) ?_
   refine sQ 17 (Y_move (v := vi (i : Int)) rfl (hf1.get 4 2 rfl)) ?_
   refine sQ 18 (Y_add (k := .i64) (a := (i64.wrap (3 * (i1 : Int)))) (b := (i : Int)) rfl rfl rfl) ?_
   obtain ⟨x, hx, hb1⟩ := bind_inv hb1
   refine sQ 19 (Y_index (B := B) (m := a.length) (c := c) (k := .i64) (i := (i64.wrap ((i64.wrap (3 * (i1 : Int))) + (i : Int)))) k_sl_28_65 k_sz_65_5 rfl rfl rfl (gi_isSome eN2 rfl (hS3.rf (i := 0) rfl) hx) (getI_nn hx) (getI_ltI hx rfl)) ?_
   refine sQ 20 (Y_loadA (B := B) (i := (i64.wrap ((i64.wrap (3 * (i1 : Int))) + (i : Int))).toNat * 5) (cs := (a.flatMap eN0)) (vs := kD_ x) k_ag_65 k_sz_65_5 rfl rfl (hS3.rf (i := 0) rfl) (eN2 x) (gi_seg eN2 hx)) ?_
   refine sS 21 (Ys_bslice (s := 5) (len := 1) (vs := [(0, gD_ x)]) (cs := kD_ x) (zs := kZ_) (m := 5) hS3 k_sl_28_65 k_sz_65_5 k_zc_65 rfl (mpc rfl mpn) rfl rfl rfl (by kernel_rfl) (by kernel_rfl) rfl) ?_
   rintro _ w_1 ⟨b1, rfl, hS4⟩
   obtain ⟨hap, hb1⟩ := chk_inv hb1
   refine sS 22 (Ys_append (s := 5) (by' := 40) (i := 0) (nn := out1.length) (c := c3) (k := 1) (len := (out1 ++ [x]).length) (B := B3) (xs := ([x].flatMap eN0)) (cs' := ((out1 ++ [x]).flatMap eN0)) hS4 k_sl_28_65 k_sz_65_5 k_by_65_40 k_zero_65 rfl (by decide) rfl rfl rfl rfl (fm_lenn (l := out1) eN2 rfl) rfl (hS4.cf (i := 1) rfl) (fm_lenn (l := [x]) eN2 rfl) (fm_one' (enc := eN0) enc_Dyadic_one [x]) (by have := hap; omega) (by have := hap; simp only [maxLen]; omega) (fm_app _ _) (app_len (l := out1) (l' := [x]) rfl rfl)) ?_
   rintro _ w_2 ⟨B4, c4, rfl, hS5⟩
   refine sQ 3 (Y_assign (v := .slice B4 ((out1 ++ [x]).length) c4) rfl rfl) (rw_nil (cw_region ?_))
   refine sQ 23 (Y_add (k := .i64) (a := (i1 : Int)) (b := 1) rfl (hf1.get 10 4 rfl) rfl) ?_
   refine sQ 10 (Y_move (v := vi (i64.wrap ((i1 : Int) + 1))) rfl rfl) (rw_nil ?_)
   obtain rfl := some_inj hb1
   exact ⟨k_3, Nat.lt_succ_self _, i1 + 1, (out1 ++ [x]), B4, c4, (FF.cons (hf1.get 0 0 rfl) (FF.cons rfl (FF.cons (hf1.get 4 2 rfl) (FF.cons (hf1.get 7 3 rfl) (FF.cons (congrArg (Value.int .i64) (wr_succ hlt3 (show 3 ≤ 9223372036854775807 by decide))) FF.nil))))), (hS5.sel [0] rfl rfl), (by omega), hL3⟩
  ·skip
   obtain rfl : k_2 = 0 := by have h := of_decide_eq_false hlt2; omega
   refine cw_exit rfl ?_
   obtain rfl := some_inj hL2
   refine cw_region ?_
   refine sQ 24 (Y_add (k := .i64) (a := (i : Int)) (b := 1) rfl (hf1.get 7 3 rfl) rfl) ?_
   refine sQ 7 (Y_move (v := vi (i64.wrap ((i : Int) + 1))) rfl rfl) (rw_nil ?_)
   obtain rfl := some_inj hF2
   exact ⟨k_1, Nat.lt_succ_self _, i + 1, out1, B3, c3, (FF.cons (hf1.get 0 0 rfl) (FF.cons (hf1.get 3 1 rfl) (FF.cons (congrArg (Value.int .i64) (wr_succ hlt1 (show 3 ≤ 9223372036854775807 by decide))) FF.nil))), (hS3.sel [0] rfl rfl), (by omega), hL1⟩
 ·skip
  obtain rfl : k_ = 0 := by have h := of_decide_eq_false hlt; omega
  refine cw_exit rfl ?_
  obtain rfl := some_inj hL
  refine cw_seq (cw_region ?_)
  refine sQ 25 (Y_move (v := .slice B2 out.length c2) rfl (hf.get 3 1 rfl)) ?_
  refine sQ 2 (Y_assign (v := .slice B2 out.length c2) rfl rfl) (rw_nil (cw_ret ?_))
  obtain rfl := some_inj hF1
  exact ret1 Tryz.results63 (v1 := .slice B2 out.length c2) (resAt_tmp rfl) ⟨B2, c2, rfl, (hS2.sN [0])⟩

theorem c_impl_SubRing (x : TRing) (y : TRing)  (w0 : World)  (hS : ST w0 [] w0 [] []) {r_ : TRing} {r_1 : Bool} (hF : F_impl_SubRing x y = some (r_, r_1)) :
  CV Tryz.prog 129 #[gR_ x, gR_ y] w0 (fun v w' => v = .tuple #[gR_ r_, .bool r_1] ∧ ST w0 [] w' [] []) := by
 unfold F_impl_SubRing at hF
 refine cv_of_cw 33 Tryz.func129 rfl Tryz.ntmps129 rfl ?_
 refine cw_seq (cw_region ?_)
 refine sS 2 (Ys_box (T := 63) (v := gR_ x) (cs := kR_ x) (m := 4) hS rfl rfl rfl rfl) ?_
 rintro _ w_ ⟨b, rfl, hS1⟩
 refine sS 3 (Ys_box (T := 63) (v := gR_ y) (cs := kR_ y) (m := 4) hS1 rfl rfl rfl rfl) ?_
 rintro _ w_1 ⟨b1, rfl, hS2⟩
 refine sS 4 (Ys_alloc (T := 63) (cs := [vi 0, vi 0, vi 0, vi 0]) (m := 4) hS2 k_zero_63 rfl rfl rfl) ?_
 rintro _ w_2 ⟨b2, rfl, hS3⟩
 refine sQ 5 (Y_assign (v := .bool false) rfl rfl) (rw_nil (cw_seq (cw_region ?_)))
 refine sQ 6 (Y_fieldAddr (B := aD b) (i := 0) (s := 0) k_fd_63_0_0_3 k_sz_3_1 rfl rfl) ?_
 refine sQ 7 (Y_load1 (B := aD b) (i := 0) (cs := kR_ x) (v := vi x.A) k_sc_3 rfl rfl (hS3.cf (i := 0) rfl) rfl) ?_
 refine sQ 8 (Y_fieldAddr (B := aD b1) (i := 0) (s := 0) k_fd_63_0_0_3 k_sz_3_1 rfl rfl) ?_
 refine sQ 9 (Y_load1 (B := aD b1) (i := 0) (cs := kR_ y) (v := vi y.A) k_sc_3 rfl rfl (hS3.cf (i := 1) rfl) rfl) ?_
 refine sQ 10 (Y_sub (k := .i64) (a := x.A) (b := y.A) rfl rfl rfl) ?_
 refine sQ 11 (Y_fieldAddr (B := aD b) (i := 0) (s := 0) k_fd_63_1_1_3 k_sz_3_1 rfl rfl) ?_
 refine sQ 12 (Y_load1 (B := aD b) (i := 1) (cs := kR_ x) (v := vi x.B) k_sc_3 rfl rfl (hS3.cf (i := 0) rfl) rfl) ?_
 refine sQ 13 (Y_fieldAddr (B := aD b1) (i := 0) (s := 0) k_fd_63_1_1_3 k_sz_3_1 rfl rfl) ?_
 refine sQ 14 (Y_load1 (B := aD b1) (i := 1) (cs := kR_ y) (v := vi y.B) k_sc_3 rfl rfl (hS3.cf (i := 1) rfl) rfl) ?_
 refine sQ 15 (Y_sub (k := .i64) (a := x.B) (b := y.B) rfl rfl rfl) ?_
 refine sQ 16 (Y_fieldAddr (B := aD b) (i := 0) (s := 0) k_fd_63_2_2_3 k_sz_3_1 rfl rfl) ?_
 refine sQ 17 (Y_load1 (B := aD b) (i := 2) (cs := kR_ x) (v := vi x.C) k_sc_3 rfl rfl (hS3.cf (i := 0) rfl) rfl) ?_
 refine sQ 18 (Y_fieldAddr (B := aD b1) (i := 0) (s := 0) k_fd_63_2_2_3 k_sz_3_1 rfl rfl) ?_
 refine sQ 19 (Y_load1 (B := aD b1) (i := 2) (cs := kR_ y) (v := vi y.C) k_sc_3 rfl rfl (hS3.cf (i := 1) rfl) rfl) ?_
 refine sQ 20 (Y_sub (k := .i64) (a := x.C) (b := y.C) rfl rfl rfl) ?_
 refine sQ 21 (Y_fieldAddr (B := aD b) (i := 0) (s := 0) k_fd_63_3_3_3 k_sz_3_1 rfl rfl) ?_
 refine sQ 22 (Y_load1 (B := aD b) (i := 3) (cs := kR_ x) (v := vi x.D) k_sc_3 rfl rfl (hS3.cf (i := 0) rfl) rfl) ?_
 refine sQ 23 (Y_fieldAddr (B := aD b1) (i := 0) (s := 0) k_fd_63_3_3_3 k_sz_3_1 rfl rfl) ?_
 refine sQ 24 (Y_load1 (B := aD b1) (i := 3) (cs := kR_ y) (v := vi y.D) k_sc_3 rfl rfl (hS3.cf (i := 1) rfl) rfl) ?_
 refine sQ 25 (Y_sub (k := .i64) (a := x.D) (b := y.D) rfl rfl rfl) ?_
 refine sQ 26 (Y_buildS (zs := [vi 0, vi 0, vi 0, vi 0]) (vs := [(0, vi (i64.wrap (x.A - y.A))), (1, vi (i64.wrap (x.B - y.B))), (2, vi (i64.wrap (x.C - y.C))), (3, vi (i64.wrap (x.D - y.D)))]) (cs := [vi (i64.wrap (x.A - y.A)), vi (i64.wrap (x.B - y.B)), vi (i64.wrap (x.C - y.C)), vi (i64.wrap (x.D - y.D))]) k_pl_63 k_zero_63 rfl (mpc rfl (mpc rfl (mpc rfl (mpc rfl mpn)))) rfl) ?_
 refine sQ 27 (Y_loadA (B := aD b) (i := 0) (cs := kR_ x) (vs := kR_ x) k_ag_63 k_sz_63_4 rfl rfl (hS3.cf (i := 0) rfl) rfl rfl) ?_
 refine sQ 28 (Y_loadA (B := aD b1) (i := 0) (cs := kR_ y) (vs := kR_ y) k_ag_63 k_sz_63_4 rfl rfl (hS3.cf (i := 1) rfl) rfl rfl) ?_
 refine sS 29 (Ys_bslice (s := 4) (len := 2) (vs := [(0, gR_ x), (1, gR_ y)]) (cs := [vi x.A, vi x.B, vi x.C, vi x.D, vi y.A, vi y.B, vi y.C, vi y.D]) (zs := [vi 0, vi 0, vi 0, vi 0, vi 0, vi 0, vi 0, vi 0]) (m := 8) hS3 k_sl_169_63 k_sz_63_4 k_zc_63 rfl (mpc rfl (mpc rfl mpn)) rfl rfl rfl (by kernel_rfl) (by kernel_rfl) rfl) ?_
 rintro _ w_3 ⟨b3, rfl, hS4⟩
 obtain ⟨⟨r_2, r_3⟩, hc, hF⟩ := bind_inv hF
 refine sc 30 rfl rfl (Yc_func (g := 143) (vs := [.agg #[vi (i64.wrap (x.A - y.A)), vi (i64.wrap (x.B - y.B)), vi (i64.wrap (x.C - y.C)), vi (i64.wrap (x.D - y.D))], .slice (aD b3) 2 2]) k_call_143 rfl (mc rfl (mc rfl mn)) (c_impl_ringIf (TRing.mk (i64.wrap (x.A - y.A)) (i64.wrap (x.B - y.B)) (i64.wrap (x.C - y.C)) (i64.wrap (x.D - y.D))) [x, y] (aD b3) 2 2 _ rfl (hS4.inn [false, false, false, true] rfl [] rfl) hc)) ?_
 rintro _ w_4 ⟨rfl, hd⟩
 have hS5 := hS4.out [false, false, false, true] rfl hd
 refine sQ 31 (Y_extract (v := gR_ r_2) rfl rfl rfl) ?_
 refine sQ 32 (Y_extract (v := .bool r_3) rfl rfl rfl) ?_
 refine s0 (Ys_store (i := 2) (s := 4) (B := aD b2) (T' := 63) (v := gR_ r_2) (vs := kR_ r_2) (k := 0) (cs' := kR_ r_2) hS5 k_sz_63_4 rfl rfl rfl rfl rfl rfl rfl (lB rfl) rfl rfl) ?_
 rintro _ w_5 ⟨rfl, hS6⟩
 refine sQ 5 (Y_assign (v := .bool r_3) rfl rfl) (rw_nil (cw_ret ?_))
 obtain ⟨rfl, rfl⟩ := pr2 (some_inj hF)
 exact ret2 Tryz.results129 (v1 := gR_ r_2) (resAt_cellA (B := aD b2) (i := 0) (cs := kR_ r_2) (vs := kR_ r_2) rfl k_ag_63 k_sz_63_4 (hS6.cf (i := 2) rfl) rfl rfl) (v2 := .bool r_3) (resAt_tmp rfl) ⟨rfl, (hS6.sN [])⟩

theorem c_impl_SubDyadic (x : TDyadic) (y : TDyadic)  (w0 : World)  (hS : ST w0 [] w0 [] []) {r_ : TDyadic} {r_1 : Bool} (hF : F_impl_SubDyadic x y = some (r_, r_1)) :
  CV Tryz.prog 105 #[gD_ x, gD_ y] w0 (fun v w' => v = .tuple #[gD_ r_, .bool r_1] ∧ ST w0 [] w' [] []) := by
 unfold F_impl_SubDyadic at hF
 refine cv_of_cw 11 Tryz.func105 rfl Tryz.ntmps105 rfl ?_
 refine cw_seq (cw_region ?_)
 refine sS 2 (Ys_box (T := 65) (v := gD_ x) (cs := kD_ x) (m := 5) hS rfl rfl rfl rfl) ?_
 rintro _ w_ ⟨b, rfl, hS1⟩
 refine sS 3 (Ys_box (T := 65) (v := gD_ y) (cs := kD_ y) (m := 5) hS1 rfl rfl rfl rfl) ?_
 rintro _ w_1 ⟨b1, rfl, hS2⟩
 refine sS 4 (Ys_alloc (T := 65) (cs := kZ_) (m := 5) hS2 k_zero_65 rfl rfl rfl) ?_
 rintro _ w_2 ⟨b2, rfl, hS3⟩
 refine sQ 5 (Y_assign (v := .bool false) rfl rfl) (rw_nil (cw_seq (cw_region ?_)))
 refine sQ 6 (Y_loadA (B := aD b) (i := 0) (cs := kD_ x) (vs := kD_ x) k_ag_65 k_sz_65_5 rfl rfl (hS3.cf (i := 0) rfl) rfl rfl) ?_
 refine sQ 7 (Y_loadA (B := aD b1) (i := 0) (cs := kD_ y) (vs := kD_ y) k_ag_65 k_sz_65_5 rfl rfl (hS3.cf (i := 1) rfl) rfl rfl) ?_
 obtain ⟨⟨r_2, r_3⟩, hc, hF⟩ := bind_inv hF
 refine sc 8 rfl rfl (Yc_func (g := 127) (vs := [gD_ x, gD_ y, .func (.func 129) #[] #[]]) k_call_127 rfl (mc rfl (mc rfl (mc rfl mn))) (c_impl_combined x y F_impl_SubRing 129 (#[]) [] _ k_call_129 (fun w hw x_0 x_1 y_0 y_1 h_ => c_impl_SubRing x_0 x_1  w  hw h_) (hS3.inn0 [] rfl) hc)) ?_
 rintro _ w_3 ⟨rfl, hd⟩
 have hS4 := hS3.out00 hd
 refine sQ 9 (Y_extract (v := gD_ r_2) rfl rfl rfl) ?_
 refine sQ 10 (Y_extract (v := .bool r_3) rfl rfl rfl) ?_
 refine s0 (Ys_store (i := 2) (s := 5) (B := aD b2) (T' := 65) (v := gD_ r_2) (vs := kD_ r_2) (k := 0) (cs' := kD_ r_2) hS4 k_sz_65_5 rfl rfl rfl rfl rfl rfl rfl (lB rfl) rfl rfl) ?_
 rintro _ w_4 ⟨rfl, hS5⟩
 refine sQ 5 (Y_assign (v := .bool r_3) rfl rfl) (rw_nil (cw_ret ?_))
 obtain ⟨rfl, rfl⟩ := pr2 (some_inj hF)
 exact ret2 Tryz.results105 (v1 := gD_ r_2) (resAt_cellA (B := aD b2) (i := 0) (cs := kD_ r_2) (vs := kD_ r_2) rfl k_ag_65 k_sz_65_5 (hS5.cf (i := 2) rfl) rfl rfl) (v2 := .bool r_3) (resAt_tmp rfl) ⟨rfl, (hS5.sN [])⟩

theorem c_impl_minor (a : TDyadic) (b : TDyadic) (c : TDyadic) (d : TDyadic)  (w0 : World)  (hS : ST w0 [] w0 [] []) {r_ : TDyadic} {r_1 : Bool} (hF : F_impl_minor a b c d = some (r_, r_1)) :
  CV Tryz.prog 104 #[gD_ a, gD_ b, gD_ c, gD_ d] w0 (fun v w' => v = .tuple #[gD_ r_, .bool r_1] ∧ ST w0 [] w' [] []) := by
 unfold F_impl_minor at hF
 refine cv_of_cw 42 Tryz.func104 rfl Tryz.ntmps104 rfl ?_
 refine cw_seq (cw_region ?_)
 refine sS 4 (Ys_box (T := 65) (v := gD_ a) (cs := kD_ a) (m := 5) hS rfl rfl rfl rfl) ?_
 rintro _ w_ ⟨b1, rfl, hS1⟩
 refine sS 5 (Ys_box (T := 65) (v := gD_ b) (cs := kD_ b) (m := 5) hS1 rfl rfl rfl rfl) ?_
 rintro _ w_1 ⟨b2, rfl, hS2⟩
 refine sS 6 (Ys_box (T := 65) (v := gD_ c) (cs := kD_ c) (m := 5) hS2 rfl rfl rfl rfl) ?_
 rintro _ w_2 ⟨b3, rfl, hS3⟩
 refine sS 7 (Ys_box (T := 65) (v := gD_ d) (cs := kD_ d) (m := 5) hS3 rfl rfl rfl rfl) ?_
 rintro _ w_3 ⟨b4, rfl, hS4⟩
 refine sS 8 (Ys_alloc (T := 65) (cs := kZ_) (m := 5) hS4 k_zero_65 rfl rfl rfl) ?_
 rintro _ w_4 ⟨b5, rfl, hS5⟩
 refine sQ 9 (Y_assign (v := .bool false) rfl rfl) (rw_nil (cw_seq (cw_region ?_)))
 refine sQ 17 (Y_loadA (B := aD b1) (i := 0) (cs := kD_ a) (vs := kD_ a) k_ag_65 k_sz_65_5 rfl rfl (hS5.cf (i := 0) rfl) rfl rfl) ?_
 refine sQ 18 (Y_loadA (B := aD b4) (i := 0) (cs := kD_ d) (vs := kD_ d) k_ag_65 k_sz_65_5 rfl rfl (hS5.cf (i := 3) rfl) rfl rfl) ?_
 obtain ⟨⟨r_2, r_3⟩, hc, hF⟩ := bind_inv hF
 refine sc 19 rfl rfl (Yc_func (g := 86) (vs := [gD_ a, gD_ d]) k_call_86 rfl (mc rfl (mc rfl mn)) (c_impl_MulDyadic a d _  (hS5.inn0 [] rfl) hc)) ?_
 rintro _ w_5 ⟨rfl, hd⟩
 have hS6 := hS5.out00 hd
 refine sQ 16 (Y_move (v := .tuple #[gD_ r_2, .bool r_3]) rfl rfl) ?_
 refine sQ 20 (Y_extract (v := gD_ r_2) rfl rfl rfl) ?_
 refine sQ 21 (Y_extract (v := .bool r_3) rfl rfl rfl) ?_
 refine sS 10 (Ys_alloc (T := 65) (cs := kZ_) (m := 5) hS6 k_zero_65 rfl rfl rfl) ?_
 rintro _ w_6 ⟨b6, rfl, hS7⟩
 refine s0 (Ys_store (i := 5) (s := 5) (B := aD b6) (T' := 65) (v := gD_ r_2) (vs := kD_ r_2) (k := 0) (cs' := kD_ r_2) hS7 k_sz_65_5 rfl rfl rfl rfl rfl rfl rfl (lB rfl) rfl rfl) ?_
 rintro _ w_7 ⟨rfl, hS8⟩
 refine sQ 11 (Y_assign (v := .bool r_3) rfl rfl) (rw_nil (cw_seq (cw_region ?_)))
 refine sQ 23 (Y_loadA (B := aD b2) (i := 0) (cs := kD_ b) (vs := kD_ b) k_ag_65 k_sz_65_5 rfl rfl (hS8.cf (i := 1) rfl) rfl rfl) ?_
 refine sQ 24 (Y_loadA (B := aD b3) (i := 0) (cs := kD_ c) (vs := kD_ c) k_ag_65 k_sz_65_5 rfl rfl (hS8.cf (i := 2) rfl) rfl rfl) ?_
 obtain ⟨⟨r_4, r_5⟩, hc1, hF⟩ := bind_inv hF
 refine sc 25 rfl rfl (Yc_func (g := 86) (vs := [gD_ b, gD_ c]) k_call_86 rfl (mc rfl (mc rfl mn)) (c_impl_MulDyadic b c _  (hS8.inn0 [] rfl) hc1)) ?_
 rintro _ w_8 ⟨rfl, hd1⟩
 have hS9 := hS8.out00 hd1
 have hS9 : ST w0 [] _ [⟨aD b1, 65, kD_ a, 5⟩, ⟨aD b2, 65, kD_ b, 5⟩, ⟨aD b3, 65, kD_ c, 5⟩, ⟨aD b4, 65, kD_ d, 5⟩, ⟨aD b5, 65, kZ_, 5⟩, ⟨aD b6, 65, kD_ r_2, 5⟩] [] := hS9
 refine sQ 22 (Y_move (v := .tuple #[gD_ r_4, .bool r_5]) rfl rfl) ?_
 refine sQ 26 (Y_extract (v := gD_ r_4) rfl rfl rfl) ?_
 refine sQ 27 (Y_extract (v := .bool r_5) rfl rfl rfl) ?_
 refine sS 12 (Ys_alloc (T := 65) (cs := kZ_) (m := 5) hS9 k_zero_65 rfl rfl rfl) ?_
 rintro _ w_9 ⟨b7, rfl, hS10⟩
 refine s0 (Ys_store (i := 6) (s := 5) (B := aD b7) (T' := 65) (v := gD_ r_4) (vs := kD_ r_4) (k := 0) (cs' := kD_ r_4) hS10 k_sz_65_5 rfl rfl rfl rfl rfl rfl rfl (lB rfl) rfl rfl) ?_
 rintro _ w_10 ⟨rfl, hS11⟩
 refine sQ 13 (Y_assign (v := .bool r_5) rfl rfl) (rw_nil (cw_seq (cw_region ?_)))
 refine sQ 29 (Y_loadA (B := aD b6) (i := 0) (cs := kD_ r_2) (vs := kD_ r_2) k_ag_65 k_sz_65_5 rfl rfl (hS11.cf (i := 5) rfl) rfl rfl) ?_
 refine sQ 30 (Y_loadA (B := aD b7) (i := 0) (cs := kD_ r_4) (vs := kD_ r_4) k_ag_65 k_sz_65_5 rfl rfl (hS11.cf (i := 6) rfl) rfl rfl) ?_
 obtain ⟨⟨r_6, r_7⟩, hc2, hF⟩ := bind_inv hF
 refine sc 31 rfl rfl (Yc_func (g := 105) (vs := [gD_ r_2, gD_ r_4]) k_call_105 rfl (mc rfl (mc rfl mn)) (c_impl_SubDyadic r_2 r_4 _  (hS11.inn0 [] rfl) hc2)) ?_
 rintro _ w_11 ⟨rfl, hd2⟩
 have hS12 := hS11.out00 hd2
 refine sQ 28 (Y_move (v := .tuple #[gD_ r_6, .bool r_7]) rfl rfl) ?_
 refine sQ 32 (Y_extract (v := gD_ r_6) rfl rfl rfl) ?_
 refine sQ 33 (Y_extract (v := .bool r_7) rfl rfl rfl) ?_
 refine sS 14 (Ys_alloc (T := 65) (cs := kZ_) (m := 5) hS12 k_zero_65 rfl rfl rfl) ?_
 rintro _ w_12 ⟨b8, rfl, hS13⟩
 refine s0 (Ys_store (i := 7) (s := 5) (B := aD b8) (T' := 65) (v := gD_ r_6) (vs := kD_ r_6) (k := 0) (cs' := kD_ r_6) hS13 k_sz_65_5 rfl rfl rfl rfl rfl rfl rfl (lB rfl) rfl rfl) ?_
 rintro _ w_13 ⟨rfl, hS14⟩
 refine sQ 15 (Y_assign (v := .bool r_7) rfl rfl) (rw_nil (cw_seq (cw_region ?_)))
 refine sQ 34 (Y_loadA (B := aD b8) (i := 0) (cs := kD_ r_6) (vs := kD_ r_6) k_ag_65 k_sz_65_5 rfl rfl (hS14.cf (i := 7) rfl) rfl rfl) ?_
 refine sQ 35 (Y_move (v := .bool r_3) rfl rfl) ?_
 refine sQ 36 (Y_move (v := .bool r_3) rfl rfl) ?_
 refine sgq 37 (B := r_3) (v := .bool r_5) rfl rfl (wT 36) (fun hg => (Y_move (v := .bool r_5) rfl rfl)) ?_
 refine sQ 38 (Y_and (b := r_3) (z := r_5) rfl rfl rfl rfl) ?_
 refine sQ 39 (Y_move (v := .bool (r_3 && r_5)) rfl rfl) ?_
 refine sgq 40 (B := (r_3 && r_5)) (v := .bool r_7) rfl rfl (wT 39) (fun hg1 => (Y_move (v := .bool r_7) rfl rfl)) ?_
 refine sQ 41 (Y_and (b := (r_3 && r_5)) (z := r_7) rfl rfl rfl rfl) ?_
 refine s0 (Ys_store (i := 4) (s := 5) (B := aD b5) (T' := 65) (v := gD_ r_6) (vs := kD_ r_6) (k := 0) (cs' := kD_ r_6) hS14 k_sz_65_5 rfl rfl rfl rfl rfl rfl rfl (lB rfl) rfl rfl) ?_
 rintro _ w_14 ⟨rfl, hS15⟩
 refine sQ 9 (Y_assign (v := .bool ((r_3 && r_5) && r_7)) rfl rfl) (rw_nil (cw_ret ?_))
 obtain ⟨rfl, rfl⟩ := pr2 (some_inj hF)
 exact ret2 Tryz.results104 (v1 := gD_ r_6) (resAt_cellA (B := aD b5) (i := 0) (cs := kD_ r_6) (vs := kD_ r_6) rfl k_ag_65 k_sz_65_5 (hS15.cf (i := 4) rfl) rfl rfl) (v2 := .bool ((r_3 && r_5) && r_7)) (resAt_tmp rfl) ⟨rfl, (hS15.sN [])⟩

theorem c_impl_determinant (a : List TDyadic) (B : Option Addr) (c n : Nat) (w0 : World) (hn : a.length = n) (hS : ST w0 [] w0 [] [⟨B, (a.flatMap eN0)⟩]) {r_ : TDyadic} {r_1 : Bool} (hF : F_impl_determinant a = some (r_, r_1)) :
  CV Tryz.prog 64 #[.slice B n c] w0 (fun v w' => v = .tuple #[gD_ r_, .bool r_1] ∧ ST w0 [] w' [] []) := by
 subst hn
 unfold F_impl_determinant at hF
 refine cv_of_cw 88 Tryz.func64 rfl Tryz.ntmps64 rfl ?_
 refine cw_seq (cw_region ?_)
 refine sS 2 (Ys_alloc (T := 65) (cs := kZ_) (m := 5) hS k_zero_65 rfl rfl rfl) ?_
 rintro _ w_ ⟨b, rfl, hS1⟩
 refine sQ 3 (Y_assign (v := .bool false) rfl rfl) (rw_nil (cw_seq (cw_region ?_)))
 refine sQ 15 (Y_buildS (zs := kZ_) (vs := []) (cs := kZ_) k_pl_65 k_zero_65 rfl mpn rfl) ?_
 refine sS 4 (Ys_alloc (T := 65) (cs := kZ_) (m := 5) hS1 k_zero_65 rfl rfl rfl) ?_
 rintro _ w_1 ⟨b1, rfl, hS2⟩
 refine s0 (Ys_store (i := 1) (s := 5) (B := aD b1) (T' := 65) (v := gZ_) (vs := kZ_) (k := 0) (cs' := kZ_) hS2 k_sz_65_5 rfl rfl rfl rfl rfl rfl rfl (lB rfl) rfl rfl) ?_
 rintro _ w_2 ⟨rfl, hS3⟩
 refine rw_nil (cw_seq (cw_seq (cw_region ?_)))
 refine sQ 16 (Y_move (v := vi 0) rfl rfl) (rw_nil ?_)
 obtain ⟨z, hz, hF1⟩ := bind_inv hF
 refine cw_block ?_
 refine cw_loop (fun k f w => ∃ (i : Nat) (A : Int) (B1 : Int) (C : Int) (D : Int) (Exp : Int), FF f [(0, .slice B a.length c), (2, pt (aD b) 0), (4, pt (aD b1) 0), (16, vi (i : Int))] ∧ ST w0 [] w [⟨aD b, 65, kZ_, 5⟩, ⟨aD b1, 65, [vi A, vi B1, vi C, vi D, vi Exp], 5⟩] [⟨B, (a.flatMap eN0)⟩] ∧ i + k = 3 ∧ forX (F_impl_determinant_l1 a) k i (A, B1, C, D, Exp) = some z) 3 ⟨0, 0, 0, 0, 0, 0, (FF.cons rfl (FF.cons rfl (FF.cons rfl (FF.cons rfl FF.nil)))), (hS3.sel [0, 1] rfl rfl), Nat.zero_add _, hz⟩ ?_
 rintro k_ f w ⟨i, A, B1, C, D, Exp, hf, hS4, hik, hL⟩
 refine cw_seq (cw_region ?_)
 refine sQ 17 (Y_lt (k := .i64) (a := (i : Int)) (b := 3) rfl (hf.get 16 3 rfl) rfl) (rw_nil (cw_seq ?_))
 refine cw_cond (b := (decide ((i : Int) < 3))) rfl (fun hlt => ?_) (fun hlt => ?_)
 ·skip
  have hlt1 : i < 3 := by have h := of_decide_eq_true hlt; omega
  obtain ⟨k_1, rfl⟩ : ∃ k2, k_ = k2 + 1 := ⟨k_ - 1, by omega⟩
  obtain ⟨y, hb, hL1⟩ := forX_go hL
  unfold F_impl_determinant_l1 at hb
  refine cw_skip (cw_seq (cw_block (cw_seq (cw_region ?_))))
  refine sQ 18 (Y_move (v := vi (i : Int)) rfl (hf.get 16 3 rfl)) ?_
  refine sQ 5 (Y_assign (v := vi (i : Int)) rfl rfl) (rw_nil (cw_seq (cw_region ?_)))
  refine sS 19 (Ys_bslice0 (s := 5) (e := 65) hS4 k_sl_28_65 k_sz_65_5 rfl) ?_
  rintro _ w_3 ⟨b2, rfl, hS5⟩
  refine sQ 6 (Y_assign (v := .slice (aD b2) 0 0) rfl rfl) (rw_nil (cw_seq (cw_seq (cw_region ?_))))
  refine sQ 20 (Y_move (v := vi 0) rfl rfl) (rw_nil ?_)
  obtain ⟨z1, hz1, hF2⟩ := bind_inv hb
  refine cw_block ?_
  refine cw_loop (fun k f w => ∃ (i1 : Nat) (rest_ : List TDyadic) (B2 : Option Addr) (c1 : Nat), FF f [(0, .slice B a.length c), (2, pt (aD b) 0), (4, pt (aD b1) 0), (5, vi (i : Int)), (6, .slice B2 rest_.length c1), (16, vi (i : Int)), (20, vi (i1 : Int))] ∧ ST w0 [] w [⟨aD b, 65, kZ_, 5⟩, ⟨aD b1, 65, [vi A, vi B1, vi C, vi D, vi Exp], 5⟩, ⟨B2, 65, (rest_.flatMap eN0), c1 * 5⟩] [⟨B, (a.flatMap eN0)⟩] ∧ i1 + k = 3 ∧ forN (F_impl_determinant_l2 i a) k i1 rest_ = some z1) 3 ⟨0, [], aD b2, 0, (FF.cons (hf.get 0 0 rfl) (FF.cons (hf.get 2 1 rfl) (FF.cons (hf.get 4 2 rfl) (FF.cons rfl (FF.cons rfl (FF.cons (hf.get 16 3 rfl) (FF.cons rfl FF.nil))))))), (hS5.sel [0, 1, 2] rfl rfl), Nat.zero_add _, hz1⟩ ?_
  rintro k_2 f w ⟨i1, rest_, B2, c1, hf1, hS6, hik1, hL2⟩
  refine cw_seq (cw_region ?_)
  refine sQ 21 (Y_lt (k := .i64) (a := (i1 : Int)) (b := 3) rfl (hf1.get 20 6 rfl) rfl) (rw_nil (cw_seq ?_))
  refine cw_cond (b := (decide ((i1 : Int) < 3))) rfl (fun hlt2 => ?_) (fun hlt2 => ?_)
  ·skip
   have hlt3 : i1 < 3 := by have h := of_decide_eq_true hlt2; omega
   obtain ⟨k_3, rfl⟩ : ∃ k2, k_2 = k2 + 1 := ⟨k_2 - 1, by omega⟩
   obtain ⟨y1, hb1, hL3⟩ := forN_go hL2
   unfold F_impl_determinant_l2 at hb1
   refine cw_skip (cw_seq ?_)
   obtain ⟨z2, hz2, hF3⟩ := bind_inv hb1
   refine cw_mid (fun f w => ∃ (rest_1 : List TDyadic) (B3 : Option Addr) (c2 : Nat), rest_1 = z2 ∧ FF f [(0, .slice B a.length c), (2, pt (aD b) 0), (4, pt (aD b1) 0), (5, vi (i : Int)), (6, .slice B3 rest_1.length c2), (16, vi (i : Int)), (20, vi (i1 : Int))] ∧ ST w0 [] w [⟨aD b, 65, kZ_, 5⟩, ⟨aD b1, 65, [vi A, vi B1, vi C, vi D, vi Exp], 5⟩, ⟨B3, 65, (rest_1.flatMap eN0), c2 * 5⟩] [⟨B, (a.flatMap eN0)⟩]) ?_ ?_
   ·skip
    refine cw_block (cw_seq (cw_region ?_))
    refine sQ 22 (Y_move (v := vi (i1 : Int)) rfl (hf1.get 20 6 rfl)) ?_
    refine sQ 7 (Y_assign (v := vi (i1 : Int)) rfl rfl) (rw_nil (cw_seq (cw_region ?_)))
    refine sQ 23 (Y_move (v := vi (i1 : Int)) rfl rfl) ?_
    refine sQ 24 (Y_move (v := vi (i : Int)) rfl (hf1.get 5 3 rfl)) ?_
    refine sQ 25 (Y_ne (k := .i64) (a := (i1 : Int)) (b := (i : Int)) rfl rfl rfl) (rw_nil ?_)
    refine cw_cond (b := ((i1 : Int) != (i : Int))) rfl (fun hb2 => ?_) (fun hb2 => ?_)
    ·skip
     have hF4 := ct hz2 hb2
     obtain ⟨x, hx, hF4⟩ := bind_inv hF4
     obtain ⟨x1, hx1, hF4⟩ := bind_inv hF4
     obtain ⟨hap, hF4⟩ := chk_inv hF4
     refine ra_start (hS6.se [0, 1]).fn (by kernel_rfl) ?_
     have hS8 := hS6.drew
     refine rq 0 26 (v := .slice B2 rest_.length c1) rfl (hS8.se [0, 1]) (fun w' hw' => (Y_move (v := .slice B2 rest_.length c1) rfl (hf1.get 6 4 rfl))) ?_
     refine rq 1 27 (v := .slice B a.length c) rfl (hS8.se [0, 1]) (fun w' hw' => (Y_move (v := .slice B a.length c) rfl (hf1.get 0 0 rfl))) ?_
     refine rq 2 28 (v := vi (i1 : Int)) rfl (hS8.se [0, 1]) (fun w' hw' => (Y_move (v := vi (i1 : Int)) rfl rfl)) ?_
     refine rq 3 29 (v := vi (i64.wrap (3 + (i1 : Int)))) rfl (hS8.se [0, 1]) (fun w' hw' => (Y_add (k := .i64) (a := 3) (b := (i1 : Int)) rfl rfl rfl)) ?_
     refine rq 4 30 (v := pt B ((i64.wrap (3 + (i1 : Int))).toNat * 5)) rfl (hS8.se [0, 1]) (fun w' hw' => (Y_index (B := B) (m := a.length) (c := c) (k := .i64) (i := (i64.wrap (3 + (i1 : Int)))) k_sl_28_65 k_sz_65_5 rfl rfl rfl (gi_isSome eN2 rfl (ST.rf hw' (i := 0) rfl) hx) (getI_nn hx) (getI_ltI hx rfl))) ?_
     refine rq 5 31 (v := gD_ x) rfl (hS8.se [0, 1]) (fun w' hw' => (Y_loadA (B := B) (i := (i64.wrap (3 + (i1 : Int))).toNat * 5) (cs := (a.flatMap eN0)) (vs := kD_ x) k_ag_65 k_sz_65_5 rfl rfl (ST.rf hw' (i := 0) rfl) (eN2 x) (gi_seg eN2 hx))) ?_
     refine rq 6 32 (v := .slice B a.length c) rfl (hS8.se [0, 1]) (fun w' hw' => (Y_move (v := .slice B a.length c) rfl (hf1.get 0 0 rfl))) ?_
     refine rq 7 33 (v := vi (i1 : Int)) rfl (hS8.se [0, 1]) (fun w' hw' => (Y_move (v := vi (i1 : Int)) rfl rfl)) ?_
     refine rq 8 34 (v := vi (i64.wrap (6 + (i1 : Int)))) rfl (hS8.se [0, 1]) (fun w' hw' => (Y_add (k := .i64) (a := 6) (b := (i1 : Int)) rfl rfl rfl)) ?_
     refine rq 9 35 (v := pt B ((i64.wrap (6 + (i1 : Int))).toNat * 5)) rfl (hS8.se [0, 1]) (fun w' hw' => (Y_index (B := B) (m := a.length) (c := c) (k := .i64) (i := (i64.wrap (6 + (i1 : Int)))) k_sl_28_65 k_sz_65_5 rfl rfl rfl (gi_isSome eN2 rfl (ST.rf hw' (i := 0) rfl) hx1) (getI_nn hx1) (getI_ltI hx1 rfl))) ?_
     refine rq 10 36 (v := gD_ x1) rfl (hS8.se [0, 1]) (fun w' hw' => (Y_loadA (B := B) (i := (i64.wrap (6 + (i1 : Int))).toNat * 5) (cs := (a.flatMap eN0)) (vs := kD_ x1) k_ag_65 k_sz_65_5 rfl rfl (ST.rf hw' (i := 0) rfl) (eN2 x1) (gi_seg eN2 hx1))) ?_
     refine rA [11] ?_
     refine ra_s 37 (i := 11) rfl rfl rfl (Ys_bslice (s := 5) (len := 2) (vs := [(0, gD_ x), (1, gD_ x1)]) (cs := [vi x.Num.A, vi x.Num.B, vi x.Num.C, vi x.Num.D, vi x.Exp, vi x1.Num.A, vi x1.Num.B, vi x1.Num.C, vi x1.Num.D, vi x1.Exp]) (zs := [vi 0, vi 0, vi 0, vi 0, vi 0, vi 0, vi 0, vi 0, vi 0, vi 0]) (m := 10) hS8 k_sl_28_65 k_sz_65_5 k_zc_65 rfl (mpc rfl (mpc rfl mpn)) rfl rfl rfl (by kernel_rfl) (by kernel_rfl) rfl) ?_ ?_
     ·rintro _ w_4 ⟨b3, rfl, hS9⟩
      refine ⟨(hS9.se [0, 1]), ?_⟩
      refine rA [12] ?_
      refine ra_s 38 (i := 12) rfl rfl rfl (Ys_append (s := 5) (by' := 40) (i := 2) (nn := rest_.length) (c := c1) (k := 2) (len := (rest_ ++ [x, x1]).length) (B := B2) (xs := ([x, x1].flatMap eN0)) (cs' := ((rest_ ++ [x, x1]).flatMap eN0)) hS9 k_sl_28_65 k_sz_65_5 k_by_65_40 k_zero_65 rfl (by decide) rfl rfl rfl rfl (fm_lenn (l := rest_) eN2 rfl) rfl (hS9.cf (i := 3) rfl) (fm_lenn (l := [x, x1]) eN2 rfl) (fm_one' (enc := eN0) enc_Dyadic_one [x, x1]) (by have := hap; omega) (by have := hap; simp only [maxLen]; omega) (fm_app _ _) (app_len (l := rest_) (l' := [x, x1]) rfl rfl)) ?_ ?_
      ·rintro _ w_5 ⟨B4, c3, rfl, hS10⟩
       refine ⟨(hS10.se [0, 1]), ?_⟩
       refine rq 13 6 (v := .slice B4 ((rest_ ++ [x, x1]).length) c3) rfl (hS10.se [0, 1]) (fun w' hw' => (Y_assign (v := .slice B4 ((rest_ ++ [x, x1]).length) c3) rfl rfl)) ?_
       refine ra_done (by kernel_rfl) ?_
       exact ⟨(rest_ ++ [x, x1]), B4, c3, (some_inj hF4), (FF.cons (hf1.get 0 0 rfl) (FF.cons (hf1.get 2 1 rfl) (FF.cons (hf1.get 4 2 rfl) (FF.cons (hf1.get 5 3 rfl) (FF.cons rfl (FF.cons (hf1.get 16 5 rfl) (FF.cons (hf1.get 20 6 rfl) FF.nil))))))), (hS10.sel [0, 1, 2] rfl rfl)⟩
      exact allR_nil
     exact allR_nil
    ·skip
     have hF5 := cf' hz2 hb2
     refine cw_skip ?_
     exact ⟨rest_, B2, c1, (some_inj hF5), (FF.cons (hf1.get 0 0 rfl) (FF.cons (hf1.get 2 1 rfl) (FF.cons (hf1.get 4 2 rfl) (FF.cons (hf1.get 5 3 rfl) (FF.cons (hf1.get 6 4 rfl) (FF.cons (hf1.get 16 5 rfl) (FF.cons (hf1.get 20 6 rfl) FF.nil))))))), (hS6.sel [0, 1, 2] rfl rfl)⟩
   rintro f w ⟨rest_1, B3, c2, rfl, hf2, hS7⟩
   refine cw_region ?_
   refine sQ 39 (Y_add (k := .i64) (a := (i1 : Int)) (b := 1) rfl (hf2.get 20 6 rfl) rfl) ?_
   refine sQ 20 (Y_move (v := vi (i64.wrap ((i1 : Int) + 1))) rfl rfl) (rw_nil ?_)
   obtain rfl := some_inj hF3
   exact ⟨k_3, Nat.lt_succ_self _, i1 + 1, rest_1, B3, c2, (FF.cons (hf2.get 0 0 rfl) (FF.cons (hf2.get 2 1 rfl) (FF.cons (hf2.get 4 2 rfl) (FF.cons (hf2.get 5 3 rfl) (FF.cons (hf2.get 6 4 rfl) (FF.cons (hf2.get 16 5 rfl) (FF.cons (congrArg (Value.int .i64) (wr_succ hlt3 (show 3 ≤ 9223372036854775807 by decide))) FF.nil))))))), (hS7.sel [0, 1, 2] rfl rfl), (by omega), hL3⟩
  ·skip
   obtain rfl : k_2 = 0 := by have h := of_decide_eq_false hlt2; omega
   refine cw_exit rfl ?_
   obtain rfl := some_inj hL2
   refine cw_seq ?_
   obtain ⟨x2, hx2, hF2⟩ := bind_inv hF2
   obtain ⟨x3, hx3, hF2⟩ := bind_inv hF2
   obtain ⟨x4, hx4, hF2⟩ := bind_inv hF2
   obtain ⟨x5, hx5, hF2⟩ := bind_inv hF2
   obtain ⟨⟨r_2, r_3⟩, hc, hF2⟩ := bind_inv hF2
   refine cw_mid (fun f w => ∃ (B5 : Option Addr), FF f [(0, .slice B a.length c), (2, pt (aD b) 0), (4, pt (aD b1) 0), (5, vi (i : Int)), (8, pt B5 0), (9, .bool r_3), (16, vi (i : Int))] ∧ ST w0 [] w [⟨aD b, 65, kZ_, 5⟩, ⟨aD b1, 65, [vi A, vi B1, vi C, vi D, vi Exp], 5⟩, ⟨B5, 65, kD_ r_2, 5⟩] [⟨B, (a.flatMap eN0)⟩]) ?_ ?_
   ·skip
    refine ra_start (hS6.se [0, 1, 2]).fn (by kernel_rfl) ?_
    have hS13 := hS6.drew
    refine rq 0 41 (v := .slice B2 rest_.length c1) rfl (hS13.se [0, 1, 2]) (fun w' hw' => (Y_move (v := .slice B2 rest_.length c1) rfl (hf1.get 6 4 rfl))) ?_
    refine rq 1 42 (v := pt B2 ((0 : Int).toNat * 5)) rfl (hS13.se [0, 1, 2]) (fun w' hw' => (Y_index (B := B2) (m := rest_.length) (c := c1) (k := .i64) (i := 0) k_sl_28_65 k_sz_65_5 rfl rfl rfl (gi_isSome eN2 rfl (ST.cf hw' (i := 2) rfl) hx2) (getI_nn hx2) (getI_ltI hx2 rfl))) ?_
    refine rq 2 43 (v := gD_ x2) rfl (hS13.se [0, 1, 2]) (fun w' hw' => (Y_loadA (B := B2) (i := (0 : Int).toNat * 5) (cs := (rest_.flatMap eN0)) (vs := kD_ x2) k_ag_65 k_sz_65_5 rfl rfl (ST.cf hw' (i := 2) rfl) (eN2 x2) (gi_seg eN2 hx2))) ?_
    refine rq 3 44 (v := .slice B2 rest_.length c1) rfl (hS13.se [0, 1, 2]) (fun w' hw' => (Y_move (v := .slice B2 rest_.length c1) rfl (hf1.get 6 4 rfl))) ?_
    refine rq 4 45 (v := pt B2 ((2 : Int).toNat * 5)) rfl (hS13.se [0, 1, 2]) (fun w' hw' => (Y_index (B := B2) (m := rest_.length) (c := c1) (k := .i64) (i := 2) k_sl_28_65 k_sz_65_5 rfl rfl rfl (gi_isSome eN2 rfl (ST.cf hw' (i := 2) rfl) hx3) (getI_nn hx3) (getI_ltI hx3 rfl))) ?_
    refine rq 5 46 (v := gD_ x3) rfl (hS13.se [0, 1, 2]) (fun w' hw' => (Y_loadA (B := B2) (i := (2 : Int).toNat * 5) (cs := (rest_.flatMap eN0)) (vs := kD_ x3) k_ag_65 k_sz_65_5 rfl rfl (ST.cf hw' (i := 2) rfl) (eN2 x3) (gi_seg eN2 hx3))) ?_
    refine rq 6 47 (v := .slice B2 rest_.length c1) rfl (hS13.se [0, 1, 2]) (fun w' hw' => (Y_move (v := .slice B2 rest_.length c1) rfl (hf1.get 6 4 rfl))) ?_
    refine rq 7 48 (v := pt B2 ((1 : Int).toNat * 5)) rfl (hS13.se [0, 1, 2]) (fun w' hw' => (Y_index (B := B2) (m := rest_.length) (c := c1) (k := .i64) (i := 1) k_sl_28_65 k_sz_65_5 rfl rfl rfl (gi_isSome eN2 rfl (ST.cf hw' (i := 2) rfl) hx4) (getI_nn hx4) (getI_ltI hx4 rfl))) ?_
    refine rq 8 49 (v := gD_ x4) rfl (hS13.se [0, 1, 2]) (fun w' hw' => (Y_loadA (B := B2) (i := (1 : Int).toNat * 5) (cs := (rest_.flatMap eN0)) (vs := kD_ x4) k_ag_65 k_sz_65_5 rfl rfl (ST.cf hw' (i := 2) rfl) (eN2 x4) (gi_seg eN2 hx4))) ?_
    refine rq 9 50 (v := .slice B2 rest_.length c1) rfl (hS13.se [0, 1, 2]) (fun w' hw' => (Y_move (v := .slice B2 rest_.length c1) rfl (hf1.get 6 4 rfl))) ?_
    refine rq 10 51 (v := pt B2 ((3 : Int).toNat * 5)) rfl (hS13.se [0, 1, 2]) (fun w' hw' => (Y_index (B := B2) (m := rest_.length) (c := c1) (k := .i64) (i := 3) k_sl_28_65 k_sz_65_5 rfl rfl rfl (gi_isSome eN2 rfl (ST.cf hw' (i := 2) rfl) hx5) (getI_nn hx5) (getI_ltI hx5 rfl))) ?_
    refine rq 11 52 (v := gD_ x5) rfl (hS13.se [0, 1, 2]) (fun w' hw' => (Y_loadA (B := B2) (i := (3 : Int).toNat * 5) (cs := (rest_.flatMap eN0)) (vs := kD_ x5) k_ag_65 k_sz_65_5 rfl rfl (ST.cf hw' (i := 2) rfl) (eN2 x5) (gi_seg eN2 hx5))) ?_
    refine rA [12, 16] ?_
    refine ra_c 53 (i := 12) rfl rfl rfl (Yc_func (g := 104) (vs := [gD_ x2, gD_ x3, gD_ x4, gD_ x5]) k_call_104 rfl (mc rfl (mc rfl (mc rfl (mc rfl mn)))) (c_impl_minor x2 x3 x4 x5 _  (hS13.inn0 [] rfl) hc)) ?_ ?_
    ·rintro _ w_6 ⟨rfl, hd⟩
     have hS14 := hS13.out00 hd
     refine ⟨(hS14.se [0, 1, 2]), ?_⟩
     refine rq 13 40 (v := .tuple #[gD_ r_2, .bool r_3]) rfl (hS14.se [0, 1, 2]) (fun w' hw' => (Y_move (v := .tuple #[gD_ r_2, .bool r_3]) rfl rfl)) ?_
     refine rq 14 54 (v := gD_ r_2) rfl (hS14.se [0, 1, 2]) (fun w' hw' => (Y_extract (v := gD_ r_2) rfl rfl rfl)) ?_
     refine rq 15 55 (v := .bool r_3) rfl (hS14.se [0, 1, 2]) (fun w' hw' => (Y_extract (v := .bool r_3) rfl rfl rfl)) ?_
     refine rA [16] ?_
     refine ra_s 8 (i := 16) rfl rfl rfl (Ys_alloc (T := 65) (cs := kZ_) (m := 5) hS14 k_zero_65 rfl rfl rfl) ?_ ?_
     ·rintro _ w_7 ⟨b4, rfl, hS15⟩
      refine ⟨(hS15.se [0, 1, 2]), ?_⟩
      refine rA [17] ?_
      refine ra_s0 (i := 17) rfl rfl rfl (Ys_store (i := 3) (s := 5) (B := aD b4) (T' := 65) (v := gD_ r_2) (vs := kD_ r_2) (k := 0) (cs' := kD_ r_2) hS15 k_sz_65_5 rfl rfl rfl rfl rfl rfl rfl (lB rfl) rfl rfl) ?_ ?_
      ·rintro _ w_8 ⟨rfl, hS16⟩
       have hS16 : ST w0 [] _ [⟨aD b, 65, kZ_, 5⟩, ⟨aD b1, 65, [vi A, vi B1, vi C, vi D, vi Exp], 5⟩, ⟨B2, 65, (rest_.flatMap eN0), c1 * 5⟩, ⟨aD b4, 65, kD_ r_2, 5⟩] [⟨B, (a.flatMap eN0)⟩] := hS16
       refine ⟨(hS16.se [0, 1, 2]), ?_⟩
       refine rq 18 9 (v := .bool r_3) rfl (hS16.se [0, 1, 2]) (fun w' hw' => (Y_assign (v := .bool r_3) rfl rfl)) ?_
       refine ra_done (by kernel_rfl) ?_
       exact ⟨aD b4, (FF.cons (hf1.get 0 0 rfl) (FF.cons (hf1.get 2 1 rfl) (FF.cons (hf1.get 4 2 rfl) (FF.cons (hf1.get 5 3 rfl) (FF.cons rfl (FF.cons rfl (FF.cons (hf1.get 16 5 rfl) FF.nil))))))), (hS16.sel [0, 1, 3] rfl rfl)⟩
      exact allR_nil
     exact allR_nil
    refine ra_s 8 (i := 16) rfl rfl rfl (Ys_alloc (T := 65) (cs := kZ_) (m := 5) hS13 k_zero_65 rfl rfl rfl) ?_ ?_
    ·rintro _ w_9 ⟨b4, rfl, hS17⟩
     refine ⟨(hS17.se [0, 1, 2]), ?_⟩
     refine rA [12] ?_
     refine ra_c 53 (i := 12) rfl rfl rfl (Yc_func (g := 104) (vs := [gD_ x2, gD_ x3, gD_ x4, gD_ x5]) k_call_104 rfl (mc rfl (mc rfl (mc rfl (mc rfl mn)))) (c_impl_minor x2 x3 x4 x5 _  (hS17.inn0 [] rfl) hc)) ?_ ?_
     ·rintro _ w_10 ⟨rfl, hd1⟩
      have hS18 := hS17.out00 hd1
      refine ⟨(hS18.se [0, 1, 2]), ?_⟩
      refine rq 13 40 (v := .tuple #[gD_ r_2, .bool r_3]) rfl (hS18.se [0, 1, 2]) (fun w' hw' => (Y_move (v := .tuple #[gD_ r_2, .bool r_3]) rfl rfl)) ?_
      refine rq 14 54 (v := gD_ r_2) rfl (hS18.se [0, 1, 2]) (fun w' hw' => (Y_extract (v := gD_ r_2) rfl rfl rfl)) ?_
      refine rq 15 55 (v := .bool r_3) rfl (hS18.se [0, 1, 2]) (fun w' hw' => (Y_extract (v := .bool r_3) rfl rfl rfl)) ?_
      refine rA [17] ?_
      refine ra_s0 (i := 17) rfl rfl rfl (Ys_store (i := 3) (s := 5) (B := aD b4) (T' := 65) (v := gD_ r_2) (vs := kD_ r_2) (k := 0) (cs' := kD_ r_2) hS18 k_sz_65_5 rfl rfl rfl rfl rfl rfl rfl (lB rfl) rfl rfl) ?_ ?_
      ·rintro _ w_11 ⟨rfl, hS19⟩
       refine ⟨(hS19.se [0, 1, 2]), ?_⟩
       refine rq 18 9 (v := .bool r_3) rfl (hS19.se [0, 1, 2]) (fun w' hw' => (Y_assign (v := .bool r_3) rfl rfl)) ?_
       refine ra_done (by kernel_rfl) ?_
       exact ⟨aD b4, (FF.cons (hf1.get 0 0 rfl) (FF.cons (hf1.get 2 1 rfl) (FF.cons (hf1.get 4 2 rfl) (FF.cons (hf1.get 5 3 rfl) (FF.cons rfl (FF.cons rfl (FF.cons (hf1.get 16 5 rfl) FF.nil))))))), (hS19.sel [0, 1, 3] rfl rfl)⟩
      exact allR_nil
     exact allR_nil
    exact allR_nil
   rintro f w ⟨B5, hf3, hS12⟩
   refine cw_seq ?_
   obtain ⟨x6, hx6, hF2⟩ := bind_inv hF2
   obtain ⟨⟨r_4, r_5⟩, hc1, hF2⟩ := bind_inv hF2
   refine cw_mid (fun f w => ∃ (B6 : Option Addr), FF f [(0, .slice B a.length c), (2, pt (aD b) 0), (4, pt (aD b1) 0), (5, vi (i : Int)), (9, .bool r_3), (10, pt B6 0), (11, .bool r_5), (16, vi (i : Int))] ∧ ST w0 [] w [⟨aD b, 65, kZ_, 5⟩, ⟨aD b1, 65, [vi A, vi B1, vi C, vi D, vi Exp], 5⟩, ⟨B6, 65, kD_ r_4, 5⟩] [⟨B, (a.flatMap eN0)⟩]) ?_ ?_
   ·skip
    refine ra_start (hS12.se [0, 1, 2]).fn (by kernel_rfl) ?_
    have hS22 := hS12.drew
    refine rq 0 57 (v := .slice B a.length c) rfl (hS22.se [0, 1, 2]) (fun w' hw' => (Y_move (v := .slice B a.length c) rfl (hf3.get 0 0 rfl))) ?_
    refine rq 1 58 (v := vi (i : Int)) rfl (hS22.se [0, 1, 2]) (fun w' hw' => (Y_move (v := vi (i : Int)) rfl (hf3.get 5 3 rfl))) ?_
    refine rq 2 59 (v := pt B ((i : Int).toNat * 5)) rfl (hS22.se [0, 1, 2]) (fun w' hw' => (Y_index (B := B) (m := a.length) (c := c) (k := .i64) (i := (i : Int)) k_sl_28_65 k_sz_65_5 rfl rfl rfl (gi_isSome eN2 rfl (ST.rf hw' (i := 0) rfl) hx6) (getI_nn hx6) (getI_ltI hx6 rfl))) ?_
    refine rq 3 60 (v := gD_ x6) rfl (hS22.se [0, 1, 2]) (fun w' hw' => (Y_loadA (B := B) (i := (i : Int).toNat * 5) (cs := (a.flatMap eN0)) (vs := kD_ x6) k_ag_65 k_sz_65_5 rfl rfl (ST.rf hw' (i := 0) rfl) (eN2 x6) (gi_seg eN2 hx6))) ?_
    refine rq 4 61 (v := gD_ r_2) rfl (hS22.se [0, 1, 2]) (fun w' hw' => (Y_loadA (B := B5) (i := 0) (cs := kD_ r_2) (vs := kD_ r_2) k_ag_65 k_sz_65_5 rfl (hf3.get 8 4 rfl) (ST.cf hw' (i := 2) rfl) rfl rfl)) ?_
    refine rA [5, 9] ?_
    refine ra_c 62 (i := 5) rfl rfl rfl (Yc_func (g := 86) (vs := [gD_ x6, gD_ r_2]) k_call_86 rfl (mc rfl (mc rfl mn)) (c_impl_MulDyadic x6 r_2 _  (hS22.inn0 [] rfl) hc1)) ?_ ?_
    ·rintro _ w_12 ⟨rfl, hd2⟩
     have hS23 := hS22.out00 hd2
     refine ⟨(hS23.se [0, 1, 2]), ?_⟩
     refine rq 6 56 (v := .tuple #[gD_ r_4, .bool r_5]) rfl (hS23.se [0, 1, 2]) (fun w' hw' => (Y_move (v := .tuple #[gD_ r_4, .bool r_5]) rfl rfl)) ?_
     refine rq 7 63 (v := gD_ r_4) rfl (hS23.se [0, 1, 2]) (fun w' hw' => (Y_extract (v := gD_ r_4) rfl rfl rfl)) ?_
     refine rq 8 64 (v := .bool r_5) rfl (hS23.se [0, 1, 2]) (fun w' hw' => (Y_extract (v := .bool r_5) rfl rfl rfl)) ?_
     refine rA [9] ?_
     refine ra_s 10 (i := 9) rfl rfl rfl (Ys_alloc (T := 65) (cs := kZ_) (m := 5) hS23 k_zero_65 rfl rfl rfl) ?_ ?_
     ·rintro _ w_13 ⟨b5, rfl, hS24⟩
      refine ⟨(hS24.se [0, 1, 2]), ?_⟩
      refine rA [10] ?_
      refine ra_s0 (i := 10) rfl rfl rfl (Ys_store (i := 3) (s := 5) (B := aD b5) (T' := 65) (v := gD_ r_4) (vs := kD_ r_4) (k := 0) (cs' := kD_ r_4) hS24 k_sz_65_5 rfl rfl rfl rfl rfl rfl rfl (lB rfl) rfl rfl) ?_ ?_
      ·rintro _ w_14 ⟨rfl, hS25⟩
       refine ⟨(hS25.se [0, 1, 2]), ?_⟩
       refine rq 11 11 (v := .bool r_5) rfl (hS25.se [0, 1, 2]) (fun w' hw' => (Y_assign (v := .bool r_5) rfl rfl)) ?_
       refine ra_done (by kernel_rfl) ?_
       exact ⟨aD b5, (FF.cons (hf3.get 0 0 rfl) (FF.cons (hf3.get 2 1 rfl) (FF.cons (hf3.get 4 2 rfl) (FF.cons (hf3.get 5 3 rfl) (FF.cons (hf3.get 9 5 rfl) (FF.cons rfl (FF.cons rfl (FF.cons (hf3.get 16 6 rfl) FF.nil)))))))), (hS25.sel [0, 1, 3] rfl rfl)⟩
      exact allR_nil
     exact allR_nil
    refine ra_s 10 (i := 9) rfl rfl rfl (Ys_alloc (T := 65) (cs := kZ_) (m := 5) hS22 k_zero_65 rfl rfl rfl) ?_ ?_
    ·rintro _ w_15 ⟨b5, rfl, hS26⟩
     refine ⟨(hS26.se [0, 1, 2]), ?_⟩
     refine rA [5] ?_
     refine ra_c 62 (i := 5) rfl rfl rfl (Yc_func (g := 86) (vs := [gD_ x6, gD_ r_2]) k_call_86 rfl (mc rfl (mc rfl mn)) (c_impl_MulDyadic x6 r_2 _  (hS26.inn0 [] rfl) hc1)) ?_ ?_
     ·rintro _ w_16 ⟨rfl, hd3⟩
      have hS27 := hS26.out00 hd3
      have hS27 : ST w0 [] _ [⟨aD b, 65, kZ_, 5⟩, ⟨aD b1, 65, [vi A, vi B1, vi C, vi D, vi Exp], 5⟩, ⟨B5, 65, kD_ r_2, 5⟩, ⟨aD b5, 65, kZ_, 5⟩] [⟨B, (a.flatMap eN0)⟩] := hS27
      refine ⟨(hS27.se [0, 1, 2]), ?_⟩
      refine rq 6 56 (v := .tuple #[gD_ r_4, .bool r_5]) rfl (hS27.se [0, 1, 2]) (fun w' hw' => (Y_move (v := .tuple #[gD_ r_4, .bool r_5]) rfl rfl)) ?_
      refine rq 7 63 (v := gD_ r_4) rfl (hS27.se [0, 1, 2]) (fun w' hw' => (Y_extract (v := gD_ r_4) rfl rfl rfl)) ?_
      refine rq 8 64 (v := .bool r_5) rfl (hS27.se [0, 1, 2]) (fun w' hw' => (Y_extract (v := .bool r_5) rfl rfl rfl)) ?_
      refine rA [10] ?_
      refine ra_s0 (i := 10) rfl rfl rfl (Ys_store (i := 3) (s := 5) (B := aD b5) (T' := 65) (v := gD_ r_4) (vs := kD_ r_4) (k := 0) (cs' := kD_ r_4) hS27 k_sz_65_5 rfl rfl rfl rfl rfl rfl rfl (lB rfl) rfl rfl) ?_ ?_
      ·rintro _ w_17 ⟨rfl, hS28⟩
       refine ⟨(hS28.se [0, 1, 2]), ?_⟩
       refine rq 11 11 (v := .bool r_5) rfl (hS28.se [0, 1, 2]) (fun w' hw' => (Y_assign (v := .bool r_5) rfl rfl)) ?_
       refine ra_done (by kernel_rfl) ?_
       exact ⟨aD b5, (FF.cons (hf3.get 0 0 rfl) (FF.cons (hf3.get 2 1 rfl) (FF.cons (hf3.get 4 2 rfl) (FF.cons (hf3.get 5 3 rfl) (FF.cons (hf3.get 9 5 rfl) (FF.cons rfl (FF.cons rfl (FF.cons (hf3.get 16 6 rfl) FF.nil)))))))), (hS28.sel [0, 1, 3] rfl rfl)⟩
      exact allR_nil
     exact allR_nil
    exact allR_nil
   rintro f w ⟨B6, hf4, hS21⟩
   refine cw_seq (cw_region ?_)
   refine sQ 12 (Y_assign (v := .func (.func 103) #[] #[]) rfl rfl) (rw_nil (cw_seq (cw_seq (cw_region ?_))))
   refine sQ 65 (Y_move (v := vi (i : Int)) rfl (hf4.get 5 3 rfl)) ?_
   refine sQ 66 (Y_eq (k := .i64) (a := (i : Int)) (b := 1) rfl rfl rfl) (rw_nil ?_)
   refine cw_cond (b := ((i : Int) == 1)) rfl (fun hb3 => ?_) (fun hb3 => ?_)
   ·skip
    have hF6 := ct hF2 hb3
    refine cw_region ?_
    refine sQ 12 (Y_assign (v := .func (.func 105) #[] #[]) rfl rfl) (rw_nil (cw_seq (cw_region ?_)))
    refine sQ 68 (Y_move (v := .func (.func 105) #[] #[]) rfl rfl) ?_
    refine sQ 69 (Y_loadA (B := aD b1) (i := 0) (cs := [vi A, vi B1, vi C, vi D, vi Exp]) (vs := [vi A, vi B1, vi C, vi D, vi Exp]) k_ag_65 k_sz_65_5 rfl (hf4.get 4 2 rfl) (hS21.cf (i := 1) rfl) rfl rfl) ?_
    refine sQ 70 (Y_loadA (B := B6) (i := 0) (cs := kD_ r_4) (vs := kD_ r_4) k_ag_65 k_sz_65_5 rfl (hf4.get 10 5 rfl) (hS21.cf (i := 2) rfl) rfl rfl) ?_
    obtain ⟨⟨r_6, r_7⟩, hc2, hF6⟩ := bind_inv hF6
    refine sc 71 rfl rfl (Yc_clos (g := 105) (vs := [.agg #[vi A, vi B1, vi C, vi D, vi Exp], gD_ r_4]) k_call_105 rfl rfl (clo_args (mc rfl (mc rfl mn))) (c_impl_SubDyadic (TDyadic.mk (TRing.mk A B1 C D) Exp) r_4 _  (hS21.inn0 [] rfl) hc2)) ?_
    rintro _ w_18 ⟨rfl, hd4⟩
    have hS29 := hS21.out00 hd4
    refine sQ 67 (Y_move (v := .tuple #[gD_ r_6, .bool r_7]) rfl rfl) ?_
    refine sQ 72 (Y_extract (v := gD_ r_6) rfl rfl rfl) ?_
    refine sQ 73 (Y_extract (v := .bool r_7) rfl rfl rfl) ?_
    refine sS 13 (Ys_alloc (T := 65) (cs := kZ_) (m := 5) hS29 k_zero_65 rfl rfl rfl) ?_
    rintro _ w_19 ⟨b6, rfl, hS30⟩
    refine s0 (Ys_store (i := 3) (s := 5) (B := aD b6) (T' := 65) (v := gD_ r_6) (vs := kD_ r_6) (k := 0) (cs' := kD_ r_6) hS30 k_sz_65_5 rfl rfl rfl rfl rfl rfl rfl (lB rfl) rfl rfl) ?_
    rintro _ w_20 ⟨rfl, hS31⟩
    refine sQ 14 (Y_assign (v := .bool r_7) rfl rfl) (rw_nil (cw_seq (cw_seq (cw_region ?_))))
    refine sQ 74 (Y_move (v := .bool r_3) rfl (hf4.get 9 4 rfl)) ?_
    refine sQ 75 (Y_not (p := r_3) rfl rfl) ?_
    refine sQ 76 (Y_move (v := .bool (!r_3)) rfl rfl) ?_
    refine sgq 77 (B := (!(!r_3))) (v := .bool r_5) rfl rfl (wF 76) (fun hg => (Y_move (v := .bool r_5) rfl (hf4.get 11 6 rfl))) ?_
    refine sgq 78 (B := (!(!r_3))) (v := .bool (!r_5)) rfl rfl (wF 76) (fun hg1 => (Y_not (p := r_5) rfl (gv_of (v := .bool r_5) hg1))) ?_
    refine sQ 79 (Y_or (b := (!r_3)) (z := (!r_5)) rfl rfl rfl rfl) ?_
    refine sQ 80 (Y_move (v := .bool ((!r_3) || (!r_5))) rfl rfl) ?_
    refine sgq 81 (B := (!((!r_3) || (!r_5)))) (v := .bool r_7) rfl rfl (wF 80) (fun hg2 => (Y_move (v := .bool r_7) rfl rfl)) ?_
    refine sgq 82 (B := (!((!r_3) || (!r_5)))) (v := .bool (!r_7)) rfl rfl (wF 80) (fun hg3 => (Y_not (p := r_7) rfl (gv_of (v := .bool r_7) hg3))) ?_
    refine sQ 83 (Y_or (b := ((!r_3) || (!r_5))) (z := (!r_7)) rfl rfl rfl rfl) (rw_nil ?_)
    refine cw_cond (b := (((!r_3) || (!r_5)) || (!r_7))) rfl (fun hb4 => ?_) (fun hb4 => ?_)
    ·skip
     have hF7 := ct hF6 hb4
     refine cw_seq (cw_region ?_)
     refine sQ 84 (Y_buildS (zs := kZ_) (vs := []) (cs := kZ_) k_pl_65 k_zero_65 rfl mpn rfl) ?_
     refine s0 (Ys_store (i := 0) (s := 5) (B := aD b) (T' := 65) (v := gZ_) (vs := kZ_) (k := 0) (cs' := kZ_) hS31 k_sz_65_5 rfl (hf4.get 2 1 rfl) rfl rfl rfl rfl rfl (lB rfl) rfl rfl) ?_
     rintro _ w_21 ⟨rfl, hS32⟩
     refine sQ 3 (Y_assign (v := .bool false) rfl rfl) (rw_nil (cw_ret ?_))
     obtain rfl := some_inj hF7
     obtain rfl := some_inj hL1
     obtain ⟨rfl, rfl⟩ := pr2 (some_inj hF1)
     exact ret2 Tryz.results64 (v1 := gZ_) (resAt_cellA (B := aD b) (i := 0) (cs := kZ_) (vs := kZ_) (hf4.get 2 1 rfl) k_ag_65 k_sz_65_5 (hS32.cf (i := 0) rfl) rfl rfl) (v2 := .bool false) (resAt_tmp rfl) ⟨rfl, (hS32.sN [])⟩
    ·skip
     have hF8 := cf' hF6 hb4
     refine cw_skip (cw_region ?_)
     refine sQ 85 (Y_loadA (B := aD b6) (i := 0) (cs := kD_ r_6) (vs := kD_ r_6) k_ag_65 k_sz_65_5 rfl rfl (hS31.cf (i := 3) rfl) rfl rfl) ?_
     refine s0 (Ys_store (i := 1) (s := 5) (B := aD b1) (T' := 65) (v := gD_ r_6) (vs := kD_ r_6) (k := 0) (cs' := kD_ r_6) hS31 k_sz_65_5 rfl (hf4.get 4 2 rfl) rfl rfl rfl rfl rfl (lB rfl) rfl rfl) ?_
     rintro _ w_22 ⟨rfl, hS33⟩
     refine rw_nil (cw_region ?_)
     refine sQ 86 (Y_add (k := .i64) (a := (i : Int)) (b := 1) rfl (hf4.get 16 7 rfl) rfl) ?_
     refine sQ 16 (Y_move (v := vi (i64.wrap ((i : Int) + 1))) rfl rfl) (rw_nil ?_)
     obtain rfl := some_inj hF8
     exact ⟨k_1, Nat.lt_succ_self _, i + 1, r_6.Num.A, r_6.Num.B, r_6.Num.C, r_6.Num.D, r_6.Exp, (FF.cons (hf4.get 0 0 rfl) (FF.cons (hf4.get 2 1 rfl) (FF.cons (hf4.get 4 2 rfl) (FF.cons (congrArg (Value.int .i64) (wr_succ hlt1 (show 3 ≤ 9223372036854775807 by decide))) FF.nil)))), (hS33.sel [0, 1] rfl rfl), (by omega), hL1⟩
   ·skip
    have hF9 := cf' hF2 hb3
    refine cw_skip (cw_seq (cw_region ?_))
    refine sQ 68 (Y_move (v := .func (.func 103) #[] #[]) rfl rfl) ?_
    refine sQ 69 (Y_loadA (B := aD b1) (i := 0) (cs := [vi A, vi B1, vi C, vi D, vi Exp]) (vs := [vi A, vi B1, vi C, vi D, vi Exp]) k_ag_65 k_sz_65_5 rfl (hf4.get 4 2 rfl) (hS21.cf (i := 1) rfl) rfl rfl) ?_
    refine sQ 70 (Y_loadA (B := B6) (i := 0) (cs := kD_ r_4) (vs := kD_ r_4) k_ag_65 k_sz_65_5 rfl (hf4.get 10 5 rfl) (hS21.cf (i := 2) rfl) rfl rfl) ?_
    obtain ⟨⟨r_8, r_9⟩, hc3, hF9⟩ := bind_inv hF9
    refine sc 71 rfl rfl (Yc_clos (g := 103) (vs := [.agg #[vi A, vi B1, vi C, vi D, vi Exp], gD_ r_4]) k_call_103 rfl rfl (clo_args (mc rfl (mc rfl mn))) (c_impl_AddDyadic (TDyadic.mk (TRing.mk A B1 C D) Exp) r_4 _  (hS21.inn0 [] rfl) hc3)) ?_
    rintro _ w_23 ⟨rfl, hd5⟩
    have hS34 := hS21.out00 hd5
    refine sQ 67 (Y_move (v := .tuple #[gD_ r_8, .bool r_9]) rfl rfl) ?_
    refine sQ 72 (Y_extract (v := gD_ r_8) rfl rfl rfl) ?_
    refine sQ 73 (Y_extract (v := .bool r_9) rfl rfl rfl) ?_
    refine sS 13 (Ys_alloc (T := 65) (cs := kZ_) (m := 5) hS34 k_zero_65 rfl rfl rfl) ?_
    rintro _ w_24 ⟨b7, rfl, hS35⟩
    have hS35 : ST w0 [] _ [⟨aD b, 65, kZ_, 5⟩, ⟨aD b1, 65, [vi A, vi B1, vi C, vi D, vi Exp], 5⟩, ⟨B6, 65, kD_ r_4, 5⟩, ⟨aD b7, 65, kZ_, 5⟩] [⟨B, (a.flatMap eN0)⟩] := hS35
    refine s0 (Ys_store (i := 3) (s := 5) (B := aD b7) (T' := 65) (v := gD_ r_8) (vs := kD_ r_8) (k := 0) (cs' := kD_ r_8) hS35 k_sz_65_5 rfl rfl rfl rfl rfl rfl rfl (lB rfl) rfl rfl) ?_
    rintro _ w_25 ⟨rfl, hS36⟩
    refine sQ 14 (Y_assign (v := .bool r_9) rfl rfl) (rw_nil (cw_seq (cw_seq (cw_region ?_))))
    refine sQ 74 (Y_move (v := .bool r_3) rfl (hf4.get 9 4 rfl)) ?_
    refine sQ 75 (Y_not (p := r_3) rfl rfl) ?_
    refine sQ 76 (Y_move (v := .bool (!r_3)) rfl rfl) ?_
    refine sgq 77 (B := (!(!r_3))) (v := .bool r_5) rfl rfl (wF 76) (fun hg4 => (Y_move (v := .bool r_5) rfl (hf4.get 11 6 rfl))) ?_
    refine sgq 78 (B := (!(!r_3))) (v := .bool (!r_5)) rfl rfl (wF 76) (fun hg5 => (Y_not (p := r_5) rfl (gv_of (v := .bool r_5) hg5))) ?_
    refine sQ 79 (Y_or (b := (!r_3)) (z := (!r_5)) rfl rfl rfl rfl) ?_
    refine sQ 80 (Y_move (v := .bool ((!r_3) || (!r_5))) rfl rfl) ?_
    refine sgq 81 (B := (!((!r_3) || (!r_5)))) (v := .bool r_9) rfl rfl (wF 80) (fun hg6 => (Y_move (v := .bool r_9) rfl rfl)) ?_
    refine sgq 82 (B := (!((!r_3) || (!r_5)))) (v := .bool (!r_9)) rfl rfl (wF 80) (fun hg7 => (Y_not (p := r_9) rfl (gv_of (v := .bool r_9) hg7))) ?_
    refine sQ 83 (Y_or (b := ((!r_3) || (!r_5))) (z := (!r_9)) rfl rfl rfl rfl) (rw_nil ?_)
    refine cw_cond (b := (((!r_3) || (!r_5)) || (!r_9))) rfl (fun hb5 => ?_) (fun hb5 => ?_)
    ·skip
     have hF10 := ct hF9 hb5
     refine cw_seq (cw_region ?_)
     refine sQ 84 (Y_buildS (zs := kZ_) (vs := []) (cs := kZ_) k_pl_65 k_zero_65 rfl mpn rfl) ?_
     refine s0 (Ys_store (i := 0) (s := 5) (B := aD b) (T' := 65) (v := gZ_) (vs := kZ_) (k := 0) (cs' := kZ_) hS36 k_sz_65_5 rfl (hf4.get 2 1 rfl) rfl rfl rfl rfl rfl (lB rfl) rfl rfl) ?_
     rintro _ w_26 ⟨rfl, hS37⟩
     refine sQ 3 (Y_assign (v := .bool false) rfl rfl) (rw_nil (cw_ret ?_))
     obtain rfl := some_inj hF10
     obtain rfl := some_inj hL1
     obtain ⟨rfl, rfl⟩ := pr2 (some_inj hF1)
     exact ret2 Tryz.results64 (v1 := gZ_) (resAt_cellA (B := aD b) (i := 0) (cs := kZ_) (vs := kZ_) (hf4.get 2 1 rfl) k_ag_65 k_sz_65_5 (hS37.cf (i := 0) rfl) rfl rfl) (v2 := .bool false) (resAt_tmp rfl) ⟨rfl, (hS37.sN [])⟩
    ·skip
     have hF11 := cf' hF9 hb5
     refine cw_skip (cw_region ?_)
     refine sQ 85 (Y_loadA (B := aD b7) (i := 0) (cs := kD_ r_8) (vs := kD_ r_8) k_ag_65 k_sz_65_5 rfl rfl (hS36.cf (i := 3) rfl) rfl rfl) ?_
     refine s0 (Ys_store (i := 1) (s := 5) (B := aD b1) (T' := 65) (v := gD_ r_8) (vs := kD_ r_8) (k := 0) (cs' := kD_ r_8) hS36 k_sz_65_5 rfl (hf4.get 4 2 rfl) rfl rfl rfl rfl rfl (lB rfl) rfl rfl) ?_
     rintro _ w_27 ⟨rfl, hS38⟩
     refine rw_nil (cw_region ?_)
     refine sQ 86 (Y_add (k := .i64) (a := (i : Int)) (b := 1) rfl (hf4.get 16 7 rfl) rfl) ?_
     refine sQ 16 (Y_move (v := vi (i64.wrap ((i : Int) + 1))) rfl rfl) (rw_nil ?_)
     obtain rfl := some_inj hF11
     exact ⟨k_1, Nat.lt_succ_self _, i + 1, r_8.Num.A, r_8.Num.B, r_8.Num.C, r_8.Num.D, r_8.Exp, (FF.cons (hf4.get 0 0 rfl) (FF.cons (hf4.get 2 1 rfl) (FF.cons (hf4.get 4 2 rfl) (FF.cons (congrArg (Value.int .i64) (wr_succ hlt1 (show 3 ≤ 9223372036854775807 by decide))) FF.nil)))), (hS38.sel [0, 1] rfl rfl), (by omega), hL1⟩
 ·skip
  obtain rfl : k_ = 0 := by have h := of_decide_eq_false hlt; omega
  refine cw_exit rfl ?_
  obtain rfl := some_inj hL
  refine cw_seq (cw_region ?_)
  refine sQ 87 (Y_loadA (B := aD b1) (i := 0) (cs := [vi A, vi B1, vi C, vi D, vi Exp]) (vs := [vi A, vi B1, vi C, vi D, vi Exp]) k_ag_65 k_sz_65_5 rfl (hf.get 4 2 rfl) (hS4.cf (i := 1) rfl) rfl rfl) ?_
  refine s0 (Ys_store (i := 0) (s := 5) (B := aD b) (T' := 65) (v := .agg #[vi A, vi B1, vi C, vi D, vi Exp]) (vs := [vi A, vi B1, vi C, vi D, vi Exp]) (k := 0) (cs' := [vi A, vi B1, vi C, vi D, vi Exp]) hS4 k_sz_65_5 rfl (hf.get 2 1 rfl) rfl rfl rfl rfl rfl (lB rfl) rfl rfl) ?_
  rintro _ w_28 ⟨rfl, hS39⟩
  refine sQ 3 (Y_assign (v := .bool true) rfl rfl) (rw_nil (cw_ret ?_))
  obtain ⟨rfl, rfl⟩ := pr2 (some_inj hF1)
  exact ret2 Tryz.results64 (v1 := .agg #[vi A, vi B1, vi C, vi D, vi Exp]) (resAt_cellA (B := aD b) (i := 0) (cs := [vi A, vi B1, vi C, vi D, vi Exp]) (vs := [vi A, vi B1, vi C, vi D, vi Exp]) (hf.get 2 1 rfl) k_ag_65 k_sz_65_5 (hS39.cf (i := 0) rfl) rfl rfl) (v2 := .bool true) (resAt_tmp rfl) ⟨rfl, (hS39.sN [])⟩

theorem c_impl_whole (n : Int)  (w0 : World)  (hS : ST w0 [] w0 [] []) {r_ : TDyadic} (hF : F_impl_whole n = some r_) :
  CV Tryz.prog 65 #[vi n] w0 (fun v w' => v = (gD_ r_) ∧ ST w0 [] w' [] []) := by
 unfold F_impl_whole at hF
 refine cv_of_cw 6 Tryz.func65 rfl Tryz.ntmps65 rfl ?_
 refine cw_seq (cw_region ?_)
 refine sS 2 (Ys_alloc (T := 65) (cs := kZ_) (m := 5) hS k_zero_65 rfl rfl rfl) ?_
 rintro _ w_ ⟨b, rfl, hS1⟩
 refine rw_nil (cw_seq (cw_region ?_))
 refine sQ 3 (Y_move (v := vi n) rfl rfl) ?_
 refine sQ 4 (Y_buildS (zs := [vi 0, vi 0, vi 0, vi 0]) (vs := [(0, vi n)]) (cs := [vi n, vi 0, vi 0, vi 0]) k_pl_63 k_zero_63 rfl (mpc rfl mpn) rfl) ?_
 refine sQ 5 (Y_buildS (zs := kZ_) (vs := [(0, .agg #[vi n, vi 0, vi 0, vi 0])]) (cs := [vi n, vi 0, vi 0, vi 0, vi 0]) k_pl_65 k_zero_65 rfl (mpc rfl mpn) rfl) ?_
 refine s0 (Ys_store (i := 0) (s := 5) (B := aD b) (T' := 65) (v := .agg #[vi n, vi 0, vi 0, vi 0, vi 0]) (vs := [vi n, vi 0, vi 0, vi 0, vi 0]) (k := 0) (cs' := [vi n, vi 0, vi 0, vi 0, vi 0]) hS1 k_sz_65_5 rfl rfl rfl rfl rfl rfl rfl (lB rfl) rfl rfl) ?_
 rintro _ w_1 ⟨rfl, hS2⟩
 refine rw_nil (cw_ret ?_)
 obtain rfl := some_inj hF
 exact ret1 Tryz.results65 (v1 := .agg #[vi n, vi 0, vi 0, vi 0, vi 0]) (resAt_cellA (B := aD b) (i := 0) (cs := [vi n, vi 0, vi 0, vi 0, vi 0]) (vs := [vi n, vi 0, vi 0, vi 0, vi 0]) rfl k_ag_65 k_sz_65_5 (hS2.cf (i := 0) rfl) rfl rfl) ⟨rfl, (hS2.sN [])⟩

theorem c_impl_small (holds : Bool)  (w0 : World)  (hS : ST w0 [] w0 [] []) {r_ : Int} (hF : F_impl_small holds = some r_) :
  CV Tryz.prog 66 #[.bool holds] w0 (fun v w' => v = vi r_ ∧ ST w0 [] w' [] []) := by
 unfold F_impl_small at hF
 refine cv_of_cw 4 Tryz.func66 rfl Tryz.ntmps66 rfl ?_
 refine cw_seq (cw_region ?_)
 refine sQ 2 (Y_assign (v := vi 0) rfl rfl) (rw_nil (cw_seq (cw_seq (cw_region ?_))))
 refine sQ 3 (Y_move (v := .bool holds) rfl rfl) (rw_nil ?_)
 refine cw_cond (b := holds) rfl (fun hb => ?_) (fun hb => ?_)
 ·skip
  have hF1 := ct hF hb
  refine cw_seq (cw_region ?_)
  refine sQ 2 (Y_assign (v := vi 1) rfl rfl) (rw_nil (cw_ret ?_))
  obtain rfl := some_inj hF1
  exact ret1 Tryz.results66 (v1 := vi 1) (resAt_tmp rfl) ⟨rfl, (hS.sN [])⟩
 ·skip
  have hF2 := cf' hF hb
  refine cw_skip (cw_seq (cw_region ?_))
  refine sQ 2 (Y_assign (v := vi 0) rfl rfl) (rw_nil (cw_ret ?_))
  obtain rfl := some_inj hF2
  exact ret1 Tryz.results66 (v1 := vi 0) (resAt_tmp rfl) ⟨rfl, (hS.sN [])⟩

theorem c_impl_IsValidBloch (b : TBloch) (B : Option Addr) (c n : Nat) (w0 : World) (hn : b.Cells.length = n) (hS : ST w0 [] w0 [] [⟨B, (b.Cells.flatMap eN0)⟩]) {r_ : Bool} (hF : F_impl_IsValidBloch b = some r_) :
  CV Tryz.prog 27 #[.agg #[.slice B n c]] w0 (fun v w' => v = .bool r_ ∧ ST w0 [] w' [] []) := by
 subst hn
 unfold F_impl_IsValidBloch at hF
 refine cv_of_cw 59 Tryz.func27 rfl Tryz.ntmps27 rfl ?_
 refine cw_seq (cw_region ?_)
 refine sS 1 (Ys_box (T := 30) (v := gB_ b B c) (cs := kB_ b B c) (m := 1) hS rfl rfl rfl rfl) ?_
 rintro _ w_ ⟨b1, rfl, hS1⟩
 refine sQ 2 (Y_assign (v := .bool false) rfl rfl) (rw_nil (cw_seq (cw_seq (cw_region ?_))))
 refine sQ 9 (Y_fieldAddr (B := aD b1) (i := 0) (s := 0) k_fd_30_0_0_28 k_sz_28_1 rfl rfl) ?_
 refine sQ 10 (Y_load1 (B := aD b1) (i := 0) (cs := kB_ b B c) (v := .slice B b.Cells.length c) k_sc_28 rfl rfl (hS1.cf (i := 0) rfl) rfl) ?_
 refine sQ 11 (Y_len (B := B) (m := b.Cells.length) (c := c) k_sl_28_65 rfl rfl) ?_
 refine sQ 12 (Y_ne (k := .i64) (a := (b.Cells.length : Int)) (b := 9) rfl rfl rfl) ?_
 refine sQ 13 (Y_move (v := .bool ((b.Cells.length : Int) != 9)) rfl rfl) ?_
 refine sgq 14 (B := (!((b.Cells.length : Int) != 9))) (v := pt (aD b1) 0) rfl rfl (wF 13) (fun hg => (Y_fieldAddr (B := aD b1) (i := 0) (s := 0) k_fd_30_0_0_28 k_sz_28_1 rfl rfl)) ?_
 refine sgq 15 (B := (!((b.Cells.length : Int) != 9))) (v := .slice B b.Cells.length c) rfl rfl (wF 13) (fun hg1 => (Y_load1 (B := aD b1) (i := 0) (cs := kB_ b B c) (v := .slice B b.Cells.length c) k_sc_28 rfl (gv_of (v := pt (aD b1) 0) hg1) (hS1.cf (i := 0) rfl) rfl)) ?_
 obtain ⟨r_1, hc, hF⟩ := bind_inv hF
 refine sgc 16 (B := (!((b.Cells.length : Int) != 9))) (v := .bool r_1) (F := hS1.fn) rfl rfl (wF 13) hS1 (fun hg2 => (Yc_func (g := 59) (vs := [.slice B b.Cells.length c, .func (.func 60) #[] #[]]) k_call_59 rfl (mc (gv_of (v := .slice B b.Cells.length c) hg2) (mc rfl mn)) (CV.mono (c_slices_ContainsFunc_impl_Dyadic_impl_Dyadic b.Cells F_impl_IsValidBloch_1 B c b.Cells.length 60 (#[]) [] _ rfl k_call_60 (fun w hw x_0 y_0 h_ => c_impl_IsValidBloch_1 x_0  w  hw h_) (hS1.inn0 [(true, 0)] rfl) (gb_inv hc hg2)) (by rintro _ _ ⟨rfl, h⟩; exact ⟨rfl, hS1.out00 h⟩)))) ?_
 rintro w_1 hS2
 refine sQ 17 (Y_or (b := ((b.Cells.length : Int) != 9)) (z := r_1) rfl rfl rfl rfl) (rw_nil ?_)
 refine cw_cond (b := (((b.Cells.length : Int) != 9) || r_1)) rfl (fun hb => ?_) (fun hb => ?_)
 ·skip
  have hF1 := ct hF hb
  refine cw_seq (cw_region ?_)
  refine sQ 2 (Y_assign (v := .bool false) rfl rfl) (rw_nil (cw_ret ?_))
  obtain rfl := some_inj hF1
  exact ret1 Tryz.results27 (v1 := .bool false) (resAt_tmp rfl) ⟨rfl, (hS2.sN [])⟩
 ·skip
  have hF2 := cf' hF hb
  refine cw_skip (cw_seq ?_)
  obtain ⟨r_2, hc1, hF2⟩ := bind_inv hF2
  obtain ⟨⟨r_3, r_4⟩, hc2, hF2⟩ := bind_inv hF2
  refine ra_start (hS2.se [0]).fn (by kernel_rfl) ?_
  have hS5 := hS2.drew
  refine rq 0 19 (v := pt (aD b1) 0) rfl (hS5.se [0]) (fun w' hw' => (Y_fieldAddr (B := aD b1) (i := 0) (s := 0) k_fd_30_0_0_28 k_sz_28_1 rfl rfl)) ?_
  refine rq 1 20 (v := .slice B b.Cells.length c) rfl (hS5.se [0]) (fun w' hw' => (Y_load1 (B := aD b1) (i := 0) (cs := kB_ b B c) (v := .slice B b.Cells.length c) k_sc_28 rfl rfl (ST.cf hw' (i := 0) rfl) rfl)) ?_
  refine rq 2 21 (v := pt (aD b1) 0) rfl (hS5.se [0]) (fun w' hw' => (Y_fieldAddr (B := aD b1) (i := 0) (s := 0) k_fd_30_0_0_28 k_sz_28_1 rfl rfl)) ?_
  refine rq 3 22 (v := .slice B b.Cells.length c) rfl (hS5.se [0]) (fun w' hw' => (Y_load1 (B := aD b1) (i := 0) (cs := kB_ b B c) (v := .slice B b.Cells.length c) k_sc_28 rfl rfl (ST.cf hw' (i := 0) rfl) rfl)) ?_
  refine rA [4] ?_
  refine ra_c 23 (i := 4) rfl rfl rfl (Yc_func (g := 63) (vs := kB_ b B c) k_call_63 rfl (mc rfl mn) (c_impl_transposed b.Cells B c b.Cells.length _ rfl (hS5.inn0 [(true, 0)] rfl) hc1)) ?_ ?_
  ·rintro _ w_2 ⟨B1, c1, rfl, hd⟩
   have hS6 := hS5.out0 hd
   refine ⟨(hS6.se [0]), ?_⟩
   refine rA [5] ?_
   refine ra_c 24 (i := 5) rfl rfl rfl (Yc_func (g := 62) (vs := [.slice B b.Cells.length c, .slice B1 r_2.length c1]) k_call_62 rfl (mc rfl (mc rfl mn)) (c_impl_mulBloch b.Cells r_2 B c b.Cells.length B1 c1 r_2.length _ rfl rfl (hS6.inn0 [(true, 0), (false, 1)] rfl) hc2)) ?_ ?_
   ·rintro _ w_3 ⟨B2, c2, rfl, hd1⟩
    have hS7 := hS6.out0 hd1
    refine ⟨(hS7.se [0]), ?_⟩
    refine rq 6 18 (v := .tuple #[.slice B2 r_3.length c2, .bool r_4]) rfl (hS7.se [0]) (fun w' hw' => (Y_move (v := .tuple #[.slice B2 r_3.length c2, .bool r_4]) rfl rfl)) ?_
    refine rq 7 25 (v := .slice B2 r_3.length c2) rfl (hS7.se [0]) (fun w' hw' => (Y_extract (v := .slice B2 r_3.length c2) rfl rfl rfl)) ?_
    refine rq 8 26 (v := .bool r_4) rfl (hS7.se [0]) (fun w' hw' => (Y_extract (v := .bool r_4) rfl rfl rfl)) ?_
    refine rq 9 3 (v := .slice B2 r_3.length c2) rfl (hS7.se [0]) (fun w' hw' => (Y_assign (v := .slice B2 r_3.length c2) rfl rfl)) ?_
    refine rq 10 4 (v := .bool r_4) rfl (hS7.se [0]) (fun w' hw' => (Y_assign (v := .bool r_4) rfl rfl)) ?_
    refine ra_done (by kernel_rfl) ?_
    refine cw_seq (cw_region ?_)
    refine sQ 28 (Y_fieldAddr (B := aD b1) (i := 0) (s := 0) k_fd_30_0_0_28 k_sz_28_1 rfl rfl) ?_
    refine sQ 29 (Y_load1 (B := aD b1) (i := 0) (cs := kB_ b B c) (v := .slice B b.Cells.length c) k_sc_28 rfl rfl (hS7.cf (i := 0) rfl) rfl) ?_
    obtain ⟨⟨r_5, r_6⟩, hc3, hF2⟩ := bind_inv hF2
    refine sc 30 rfl rfl (Yc_func (g := 64) (vs := kB_ b B c) k_call_64 rfl (mc rfl mn) (c_impl_determinant b.Cells B c b.Cells.length _ rfl (hS7.inn0 [(true, 0)] rfl) hc3)) ?_
    rintro _ w_4 ⟨rfl, hd2⟩
    have hS8 := hS7.out00 hd2
    refine sQ 27 (Y_move (v := .tuple #[gD_ r_5, .bool r_6]) rfl rfl) ?_
    refine sQ 31 (Y_extract (v := gD_ r_5) rfl rfl rfl) ?_
    refine sQ 32 (Y_extract (v := .bool r_6) rfl rfl rfl) ?_
    refine sS 5 (Ys_alloc (T := 65) (cs := kZ_) (m := 5) hS8 k_zero_65 rfl rfl rfl) ?_
    rintro _ w_5 ⟨b2, rfl, hS9⟩
    refine s0 (Ys_store (i := 3) (s := 5) (B := aD b2) (T' := 65) (v := gD_ r_5) (vs := kD_ r_5) (k := 0) (cs' := kD_ r_5) hS9 k_sz_65_5 rfl rfl rfl rfl rfl rfl rfl (lB rfl) rfl rfl) ?_
    rintro _ w_6 ⟨rfl, hS10⟩
    refine sQ 6 (Y_assign (v := .bool r_6) rfl rfl) (rw_nil (cw_seq (cw_seq ?_)))
    obtain ⟨r_7, hc4, hF2⟩ := bind_inv hF2
    refine ra_start (hS10.se [0, 1, 2, 3]).fn (by kernel_rfl) ?_
    have hS12 := hS10.drew
    refine rq 0 33 (v := .bool r_4) rfl (hS12.se [0, 1, 2, 3]) (fun w' hw' => (Y_move (v := .bool r_4) rfl rfl)) ?_
    refine rq 1 34 (v := .bool (!r_4)) rfl (hS12.se [0, 1, 2, 3]) (fun w' hw' => (Y_not (p := r_4) rfl rfl)) ?_
    refine rq 2 35 (v := .bool (!r_4)) rfl (hS12.se [0, 1, 2, 3]) (fun w' hw' => (Y_move (v := .bool (!r_4)) rfl rfl)) ?_
    refine ra_gq 3 36 (B := (!(!r_4))) (v := .bool r_6) rfl rfl rfl (wF 35) (by kernel_rfl) (by kernel_rfl) (by kernel_rfl) (hS12.se [0, 1, 2, 3]) (fun hg3 w' hw' => (Y_move (v := .bool r_6) rfl rfl)) ?_
    refine ra_gq 4 37 (B := (!(!r_4))) (v := .bool (!r_6)) rfl rfl rfl (wF 35) (by kernel_rfl) (by kernel_rfl) (by kernel_rfl) (hS12.se [0, 1, 2, 3]) (fun hg4 w' hw' => (Y_not (p := r_6) rfl (gv_of (v := .bool r_6) hg4))) ?_
    refine rq 5 38 (v := .bool ((!r_4) || (!r_6))) rfl (hS12.se [0, 1, 2, 3]) (fun w' hw' => (Y_or (b := (!r_4)) (z := (!r_6)) rfl rfl rfl rfl)) ?_
    refine rq 6 39 (v := .bool ((!r_4) || (!r_6))) rfl (hS12.se [0, 1, 2, 3]) (fun w' hw' => (Y_move (v := .bool ((!r_4) || (!r_6))) rfl rfl)) ?_
    refine ra_gq 7 40 (B := (!((!r_4) || (!r_6)))) (v := gD_ r_5) rfl rfl rfl (wF 39) (by kernel_rfl) (by kernel_rfl) (by kernel_rfl) (hS12.se [0, 1, 2, 3]) (fun hg5 w' hw' => (Y_loadA (B := aD b2) (i := 0) (cs := kD_ r_5) (vs := kD_ r_5) k_ag_65 k_sz_65_5 rfl rfl (ST.cf hw' (i := 3) rfl) rfl rfl)) ?_
    refine rA [8] ?_
    refine ra_gc 41 (i := 8) (B := (!((!r_4) || (!r_6)))) (v := gD_ r_7) (F := hS12.fn) rfl rfl rfl (wF 39) hS12 (fun hg6 => (Yc_func (g := 65) (vs := [vi 1]) k_call_65 rfl (mc rfl mn) (CV.mono (c_impl_whole 1 _  (hS12.inn0 [] rfl) (gb_inv hc4 hg6)) (by rintro _ _ ⟨rfl, h⟩; exact ⟨rfl, hS12.out00 h⟩)))) ?_ ?_
    ·rintro w_7 hS13
     refine ⟨(hS13.se [0, 1, 2, 3]), ?_⟩
     refine ra_gq 9 42 (B := (!((!r_4) || (!r_6)))) (v := .bool (!(((r_5.Num.A == r_7.Num.A) && ((r_5.Num.B == r_7.Num.B) && ((r_5.Num.C == r_7.Num.C) && ((r_5.Num.D == r_7.Num.D) && true)))) && ((r_5.Exp == r_7.Exp) && true)))) rfl rfl rfl (wF 39) (by kernel_rfl) (by kernel_rfl) (by kernel_rfl) (hS13.se [0, 1, 2, 3]) (fun hg7 w' hw' => (Y_neA (xs := #[vi r_5.Num.A, vi r_5.Num.B, vi r_5.Num.C, vi r_5.Num.D, vi r_5.Exp]) (ys := #[vi r_7.Num.A, vi r_7.Num.B, vi r_7.Num.C, vi r_7.Num.D, vi r_7.Exp]) (b := (((r_5.Num.A == r_7.Num.A) && ((r_5.Num.B == r_7.Num.B) && ((r_5.Num.C == r_7.Num.C) && ((r_5.Num.D == r_7.Num.D) && true)))) && ((r_5.Exp == r_7.Exp) && true))) k_eg_65 rfl (gv_of (v := gD_ r_5) hg7) (gv_of (v := gD_ r_7) hg7) (eqr_struct (xs := kD_ r_5) (ys := kD_ r_7) k_st_65 k_ho_65 (pts_ag (us := kR_ r_5.Num) (vs := kR_ r_7.Num) k_ag_63 k_sz_63_4 rfl rfl (eqr_struct (xs := kR_ r_5.Num) (ys := kR_ r_7.Num) k_st_63 k_ho_63 (pts_sc k_sc_3 rfl rfl (eqr_int k_int_3_i64) (pts_sc k_sc_3 rfl rfl (eqr_int k_int_3_i64) (pts_sc k_sc_3 rfl rfl (eqr_int k_int_3_i64) (pts_sc k_sc_3 rfl rfl (eqr_int k_int_3_i64) pts_nil))))) (pts_sc k_sc_3 rfl rfl (eqr_int k_int_3_i64) pts_nil))))) ?_
     refine ra_q 10 43 (v := .bool (((!r_4) || (!r_6)) || (!(((r_5.Num.A == r_7.Num.A) && ((r_5.Num.B == r_7.Num.B) && ((r_5.Num.C == r_7.Num.C) && ((r_5.Num.D == r_7.Num.D) && true)))) && ((r_5.Exp == r_7.Exp) && true))))) rfl rfl rfl (by kernel_rfl) (by kernel_rfl) (by kernel_rfl) (hS13.se [0, 1, 2, 3]) (fun w' hw' => (Y_or (b := ((!r_4) || (!r_6))) (z := (!(((r_5.Num.A == r_7.Num.A) && ((r_5.Num.B == r_7.Num.B) && ((r_5.Num.C == r_7.Num.C) && ((r_5.Num.D == r_7.Num.D) && true)))) && ((r_5.Exp == r_7.Exp) && true)))) rfl rfl rfl rfl)) ?_
     refine ra_done (by kernel_rfl) ?_
     refine cw_cond (b := (((!r_4) || (!r_6)) || (!(((r_5.Num.A == r_7.Num.A) && ((r_5.Num.B == r_7.Num.B) && ((r_5.Num.C == r_7.Num.C) && ((r_5.Num.D == r_7.Num.D) && true)))) && ((r_5.Exp == r_7.Exp) && true))))) rfl (fun hb1 => ?_) (fun hb1 => ?_)
     ·skip
      have hF3 := ct hF2 hb1
      refine cw_seq (cw_region ?_)
      refine sQ 2 (Y_assign (v := .bool false) rfl rfl) (rw_nil (cw_ret ?_))
      obtain rfl := some_inj hF3
      exact ret1 Tryz.results27 (v1 := .bool false) (resAt_tmp rfl) ⟨rfl, (hS13.sN [])⟩
     ·skip
      have hF4 := cf' hF2 hb1
      refine cw_skip (cw_seq (cw_seq (cw_region ?_)))
      refine sQ 44 (Y_move (v := .slice B2 r_3.length c2) rfl rfl) ?_
      refine sQ 45 (Y_len (B := B2) (m := r_3.length) (c := c2) k_sl_28_65 rfl rfl) ?_
      refine sQ 46 (Y_move (v := vi 0) rfl rfl) (rw_nil ?_)
      obtain ⟨hN, hF4⟩ := chk_inv hF4
      obtain ⟨z, hz, hF5⟩ := bind_inv hF4
      refine cw_block ?_
      refine cw_loop (fun k f w => ∃ (i : Nat), FF f [(44, .slice B2 r_3.length c2), (45, vi (r_3.length : Int)), (46, vi (i : Int))] ∧ ST w0 [] w [⟨B2, 65, (r_3.flatMap eN0), c2 * 5⟩] [⟨B, (b.Cells.flatMap eN0)⟩] ∧ i + k = r_3.length ∧ forX (F_impl_IsValidBloch_l1 r_3) k i () = some z) r_3.length ⟨0, (FF.cons rfl (FF.cons rfl (FF.cons rfl FF.nil))), (hS13.sel [2] rfl rfl), Nat.zero_add _, hz⟩ ?_
      rintro k_ f w ⟨i, hf, hS14, hik, hL⟩
      refine cw_seq (cw_region ?_)
      refine sQ 47 (Y_lt (k := .i64) (a := (i : Int)) (b := (r_3.length : Int)) rfl (hf.get 46 2 rfl) (hf.get 45 1 rfl)) (rw_nil (cw_seq ?_))
      refine cw_cond (b := (decide ((i : Int) < (r_3.length : Int)))) rfl (fun hlt => ?_) (fun hlt => ?_)
      ·skip
       have hlt1 : i < r_3.length := by have h := of_decide_eq_true hlt; omega
       obtain ⟨k_1, rfl⟩ : ∃ k2, k_ = k2 + 1 := ⟨k_ - 1, by omega⟩
       obtain ⟨y, hb2, hL1⟩ := forX_go hL
       unfold F_impl_IsValidBloch_l1 at hb2
       refine cw_skip (cw_seq (cw_block (cw_seq (cw_region ?_))))
       refine sQ 48 (Y_move (v := vi (i : Int)) rfl (hf.get 46 2 rfl)) ?_
       obtain ⟨x, hx, hb2⟩ := bind_inv hb2
       refine sQ 49 (Y_index (B := B2) (m := r_3.length) (c := c2) (k := .i64) (i := (i : Int)) k_sl_28_65 k_sz_65_5 rfl (hf.get 44 0 rfl) (hf.get 46 2 rfl) (gi_isSome eN2 rfl (hS14.cf (i := 0) rfl) hx) (getI_nn hx) (getI_ltI hx rfl)) ?_
       refine sQ 50 (Y_loadA (B := B2) (i := (i : Int).toNat * 5) (cs := (r_3.flatMap eN0)) (vs := kD_ x) k_ag_65 k_sz_65_5 rfl rfl (hS14.cf (i := 0) rfl) (eN2 x) (gi_seg eN2 hx)) ?_
       refine sS 8 (Ys_alloc (T := 65) (cs := kZ_) (m := 5) hS14 k_zero_65 rfl rfl rfl) ?_
       rintro _ w_8 ⟨b3, rfl, hS15⟩
       have hS15 : ST w0 [] _ [⟨B2, 65, (r_3.flatMap eN0), c2 * 5⟩, ⟨aD b3, 65, kZ_, 5⟩] [⟨B, (b.Cells.flatMap eN0)⟩] := hS15
       refine sQ 7 (Y_assign (v := vi (i : Int)) rfl rfl) ?_
       refine s0 (Ys_store (i := 1) (s := 5) (B := aD b3) (T' := 65) (v := gD_ x) (vs := kD_ x) (k := 0) (cs' := kD_ x) hS15 k_sz_65_5 rfl rfl rfl rfl rfl rfl rfl (lB rfl) rfl rfl) ?_
       rintro _ w_9 ⟨rfl, hS16⟩
       refine rw_nil (cw_seq ?_)
       obtain ⟨r_8, hc5, hb2⟩ := bind_inv hb2
       obtain ⟨r_9, hc6, hb2⟩ := bind_inv hb2
       refine ra_start (hS16.se [0, 1]).fn (by kernel_rfl) ?_
       have hS19 := hS16.drew
       refine rq 0 51 (v := gD_ x) rfl (hS19.se [0, 1]) (fun w' hw' => (Y_loadA (B := aD b3) (i := 0) (cs := kD_ x) (vs := kD_ x) k_ag_65 k_sz_65_5 rfl rfl (ST.cf hw' (i := 1) rfl) rfl rfl)) ?_
       refine rq 1 52 (v := vi (i : Int)) rfl (hS19.se [0, 1]) (fun w' hw' => (Y_move (v := vi (i : Int)) rfl rfl)) ?_
       refine rq 2 53 (v := vi (Int.tmod (i : Int) 4)) rfl (hS19.se [0, 1]) (fun w' hw' => (Y_rem (k := .i64) (a := (i : Int)) (b := 4) rfl rfl rfl (by decide))) ?_
       refine rq 3 54 (v := .bool ((Int.tmod (i : Int) 4) == 0)) rfl (hS19.se [0, 1]) (fun w' hw' => (Y_eq (k := .i64) (a := (Int.tmod (i : Int) 4)) (b := 0) rfl rfl rfl)) ?_
       refine rA [4] ?_
       refine ra_c 55 (i := 4) rfl rfl rfl (Yc_func (g := 66) (vs := [.bool ((Int.tmod (i : Int) 4) == 0)]) k_call_66 rfl (mc rfl mn) (c_impl_small ((Int.tmod (i : Int) 4) == 0) _  (hS19.inn0 [] rfl) hc5)) ?_ ?_
       ·rintro _ w_10 ⟨rfl, hd3⟩
        have hS20 := hS19.out00 hd3
        refine ⟨(hS20.se [0, 1]), ?_⟩
        refine rA [5] ?_
        refine ra_c 56 (i := 5) rfl rfl rfl (Yc_func (g := 65) (vs := [vi r_8]) k_call_65 rfl (mc rfl mn) (c_impl_whole r_8 _  (hS20.inn0 [] rfl) hc6)) ?_ ?_
        ·rintro _ w_11 ⟨rfl, hd4⟩
         have hS21 := hS20.out00 hd4
         refine ⟨(hS21.se [0, 1]), ?_⟩
         refine ra_q 6 57 (v := .bool (!(((x.Num.A == r_9.Num.A) && ((x.Num.B == r_9.Num.B) && ((x.Num.C == r_9.Num.C) && ((x.Num.D == r_9.Num.D) && true)))) && ((x.Exp == r_9.Exp) && true)))) rfl rfl rfl (by kernel_rfl) (by kernel_rfl) (by kernel_rfl) (hS21.se [0, 1]) (fun w' hw' => (Y_neA (xs := #[vi x.Num.A, vi x.Num.B, vi x.Num.C, vi x.Num.D, vi x.Exp]) (ys := #[vi r_9.Num.A, vi r_9.Num.B, vi r_9.Num.C, vi r_9.Num.D, vi r_9.Exp]) (b := (((x.Num.A == r_9.Num.A) && ((x.Num.B == r_9.Num.B) && ((x.Num.C == r_9.Num.C) && ((x.Num.D == r_9.Num.D) && true)))) && ((x.Exp == r_9.Exp) && true))) k_eg_65 rfl rfl rfl (eqr_struct (xs := kD_ x) (ys := kD_ r_9) k_st_65 k_ho_65 (pts_ag (us := kR_ x.Num) (vs := kR_ r_9.Num) k_ag_63 k_sz_63_4 rfl rfl (eqr_struct (xs := kR_ x.Num) (ys := kR_ r_9.Num) k_st_63 k_ho_63 (pts_sc k_sc_3 rfl rfl (eqr_int k_int_3_i64) (pts_sc k_sc_3 rfl rfl (eqr_int k_int_3_i64) (pts_sc k_sc_3 rfl rfl (eqr_int k_int_3_i64) (pts_sc k_sc_3 rfl rfl (eqr_int k_int_3_i64) pts_nil))))) (pts_sc k_sc_3 rfl rfl (eqr_int k_int_3_i64) pts_nil))))) ?_
         refine ra_done (by kernel_rfl) ?_
         refine cw_cond (b := (!(((x.Num.A == r_9.Num.A) && ((x.Num.B == r_9.Num.B) && ((x.Num.C == r_9.Num.C) && ((x.Num.D == r_9.Num.D) && true)))) && ((x.Exp == r_9.Exp) && true)))) rfl (fun hb3 => ?_) (fun hb3 => ?_)
         ·skip
          have hF6 := ct hb2 hb3
          refine cw_seq (cw_region ?_)
          refine sQ 2 (Y_assign (v := .bool false) rfl rfl) (rw_nil (cw_ret ?_))
          obtain rfl := some_inj hF6
          obtain rfl := some_inj hL1
          obtain rfl := some_inj hF5
          exact ret1 Tryz.results27 (v1 := .bool false) (resAt_tmp rfl) ⟨rfl, (hS21.sN [])⟩
         ·skip
          have hF7 := cf' hb2 hb3
          refine cw_skip (cw_region ?_)
          refine sQ 58 (Y_add (k := .i64) (a := (i : Int)) (b := 1) rfl (hf.get 46 2 rfl) rfl) ?_
          refine sQ 46 (Y_move (v := vi (i64.wrap ((i : Int) + 1))) rfl rfl) (rw_nil ?_)
          obtain rfl := some_inj hF7
          exact ⟨k_1, Nat.lt_succ_self _, i + 1, (FF.cons (hf.get 44 0 rfl) (FF.cons (hf.get 45 1 rfl) (FF.cons (congrArg (Value.int .i64) (wr_succ hlt1 hN)) FF.nil))), (hS21.sel [0] rfl rfl), (by omega), hL1⟩
        exact allR_nil
       exact allR_nil
      ·skip
       obtain rfl : k_ = 0 := by have h := of_decide_eq_false hlt; omega
       refine cw_exit rfl ?_
       obtain rfl := some_inj hL
       refine cw_seq (cw_region ?_)
       refine sQ 2 (Y_assign (v := .bool true) rfl rfl) (rw_nil (cw_ret ?_))
       obtain rfl := some_inj hF5
       exact ret1 Tryz.results27 (v1 := .bool true) (resAt_tmp rfl) ⟨rfl, (hS14.sN [])⟩
    exact allR_nil
   exact allR_nil
  exact allR_nil

theorem c_impl_isDim (n : Int)  (w0 : World)  (hS : ST w0 [] w0 [] []) {r_ : Bool} (hF : F_impl_isDim n = some r_) :
  CV Tryz.prog 117 #[vi n] w0 (fun v w' => v = .bool r_ ∧ ST w0 [] w' [] []) := by
 unfold F_impl_isDim at hF
 refine cv_of_cw 12 Tryz.func117 rfl Tryz.ntmps117 rfl ?_
 refine cw_seq (cw_region ?_)
 refine sQ 2 (Y_assign (v := .bool false) rfl rfl) (rw_nil (cw_seq (cw_region ?_)))
 refine sQ 3 (Y_move (v := vi n) rfl rfl) ?_
 obtain ⟨r_1, hc, hF⟩ := bind_inv hF
 refine sc 4 rfl rfl (Yc_func (g := 73) (vs := [vi n, vi 1, vi 32]) k_call_73 rfl (mc rfl (mc rfl (mc rfl mn))) (c_impl_within n 1 32 _  (hS.inn0 [] rfl) hc)) ?_
 rintro _ w_ ⟨rfl, hd⟩
 have hS1 := hS.out00 hd
 refine sQ 5 (Y_move (v := .bool r_1) rfl rfl) ?_
 refine sgq 6 (B := r_1) (v := vi n) rfl rfl (wT 5) (fun hg => (Y_move (v := vi n) rfl rfl)) ?_
 refine sgq 7 (B := r_1) (v := vi n) rfl rfl (wT 5) (fun hg1 => (Y_move (v := vi n) rfl rfl)) ?_
 refine sgq 8 (B := r_1) (v := vi (i64.wrap (n - 1))) rfl rfl (wT 5) (fun hg2 => (Y_sub (k := .i64) (a := n) (b := 1) rfl (gv_of (v := vi n) hg2) rfl)) ?_
 refine sgq 9 (B := r_1) (v := vi (bits .and .i64 n (i64.wrap (n - 1)))) rfl rfl (wT 5) (fun hg3 => (Y_band (k := .i64) (a := n) (b := (i64.wrap (n - 1))) rfl (gv_of (v := vi n) hg3) (gv_of (v := vi (i64.wrap (n - 1))) hg3))) ?_
 refine sgq 10 (B := r_1) (v := .bool ((bits .and .i64 n (i64.wrap (n - 1))) == 0)) rfl rfl (wT 5) (fun hg4 => (Y_eq (k := .i64) (a := (bits .and .i64 n (i64.wrap (n - 1)))) (b := 0) rfl (gv_of (v := vi (bits .and .i64 n (i64.wrap (n - 1)))) hg4) rfl)) ?_
 refine sQ 11 (Y_and (b := r_1) (z := ((bits .and .i64 n (i64.wrap (n - 1))) == 0)) rfl rfl rfl rfl) ?_
 refine sQ 2 (Y_assign (v := .bool (r_1 && ((bits .and .i64 n (i64.wrap (n - 1))) == 0))) rfl rfl) (rw_nil (cw_ret ?_))
 obtain rfl := some_inj hF
 exact ret1 Tryz.results117 (v1 := .bool (r_1 && ((bits .and .i64 n (i64.wrap (n - 1))) == 0))) (resAt_tmp rfl) ⟨rfl, (hS1.sN [])⟩

theorem c_impl_matrixOf (rows : Int) (cols : Int) (cell : Int → Int → Option (TDyadic × Bool)) (kf : Nat) (caps : Array Value) (Rf : List Ro) (w0 : World) (hk : callB Tryz.prog kf = true) (hp : ∀ (w : World), ST w [] w [] Rf → ∀ (x : Int) (x1 : Int) (y1 : TDyadic) (y2 : Bool), cell x x1 = some (y1, y2) → CV Tryz.prog kf ((vi x) :: (vi x1) :: caps.toList).toArray w (fun v w' => v = .tuple #[gD_ y1, .bool y2] ∧ ST w [] w' [] [])) (hS : ST w0 [] w0 [] (Rf)) {r_ : TMatrix} {r_1 : Bool} (hF : F_impl_matrixOf rows cols cell = some (r_, r_1)) :
  CV Tryz.prog 84 #[vi rows, vi cols, .func (.func kf) #[] caps] w0 (fun v w' => ∃ (B : Option Addr) (c : Nat), v = .tuple #[gM_ r_ B c, .bool r_1] ∧ ST w0 [] w' [⟨B, 65, (r_.Cells.flatMap eN0), c * 5⟩] []) := by
 unfold F_impl_matrixOf at hF
 refine cv_of_cw 52 Tryz.func84 rfl Tryz.ntmps84 rfl ?_
 refine cw_seq (cw_region ?_)
 refine sS 6 (Ys_alloc (T := 48) (cs := kN_) (m := 3) hS k_zero_48 rfl rfl rfl) ?_
 rintro _ w_ ⟨b, rfl, hS1⟩
 refine sQ 7 (Y_assign (v := .bool false) rfl rfl) (rw_nil (cw_seq (cw_region ?_)))
 refine sQ 13 (Y_move (v := vi rows) rfl rfl) ?_
 refine sQ 14 (Y_move (v := vi cols) rfl rfl) ?_
 refine sQ 15 (Y_buildS (zs := kN_) (vs := [(0, vi rows), (1, vi cols)]) (cs := [vi rows, vi cols, .slice none 0 0]) k_pl_48 k_zero_48 rfl (mpc rfl (mpc rfl mpn)) rfl) ?_
 refine sS 8 (Ys_alloc (T := 48) (cs := kN_) (m := 3) hS1 k_zero_48 rfl rfl rfl) ?_
 rintro _ w_1 ⟨b1, rfl, hS2⟩
 refine s0 (Ys_store (i := 1) (s := 3) (B := aD b1) (T' := 48) (v := .agg #[vi rows, vi cols, .slice none 0 0]) (vs := [vi rows, vi cols, .slice none 0 0]) (k := 0) (cs' := [vi rows, vi cols, .slice none 0 0]) hS2 k_sz_48_3 rfl rfl rfl rfl rfl rfl rfl (lB rfl) rfl rfl) ?_
 rintro _ w_2 ⟨rfl, hS3⟩
 refine rw_nil (cw_seq (cw_seq (cw_region ?_)))
 refine sQ 16 (Y_move (v := vi rows) rfl rfl) ?_
 obtain ⟨r_2, hc, hF⟩ := bind_inv hF
 refine sc 17 rfl rfl (Yc_func (g := 117) (vs := [vi rows]) k_call_117 rfl (mc rfl mn) (c_impl_isDim rows _  (hS3.inn0 [] rfl) hc)) ?_
 rintro _ w_3 ⟨rfl, hd⟩
 have hS4 := hS3.out00 hd
 refine sQ 18 (Y_not (p := r_2) rfl rfl) ?_
 refine sQ 19 (Y_move (v := .bool (!r_2)) rfl rfl) ?_
 refine sgq 20 (B := (!(!r_2))) (v := vi cols) rfl rfl (wF 19) (fun hg => (Y_move (v := vi cols) rfl rfl)) ?_
 obtain ⟨r_3, hc1, hF⟩ := bind_inv hF
 refine sgc 21 (B := (!(!r_2))) (v := .bool r_3) (F := hS4.fn) rfl rfl (wF 19) hS4 (fun hg1 => (Yc_func (g := 117) (vs := [vi cols]) k_call_117 rfl (mc (gv_of (v := vi cols) hg1) mn) (CV.mono (c_impl_isDim cols _  (hS4.inn0 [] rfl) (gb_inv hc1 hg1)) (by rintro _ _ ⟨rfl, h⟩; exact ⟨rfl, hS4.out00 h⟩)))) ?_
 rintro w_4 hS5
 refine sgq 22 (B := (!(!r_2))) (v := .bool (!r_3)) rfl rfl (wF 19) (fun hg2 => (Y_not (p := r_3) rfl (gv_of (v := .bool r_3) hg2))) ?_
 refine sQ 23 (Y_or (b := (!r_2)) (z := (!r_3)) rfl rfl rfl rfl) (rw_nil ?_)
 refine cw_cond (b := ((!r_2) || (!r_3))) rfl (fun hb => ?_) (fun hb => ?_)
 ·skip
  have hF1 := ct hF hb
  refine cw_seq (cw_region ?_)
  refine sQ 24 (Y_buildS (zs := kN_) (vs := []) (cs := kN_) k_pl_48 k_zero_48 rfl mpn rfl) ?_
  refine s0 (Ys_store (i := 0) (s := 3) (B := aD b) (T' := 48) (v := gN_) (vs := kN_) (k := 0) (cs' := kN_) hS5 k_sz_48_3 rfl rfl rfl rfl rfl rfl rfl (lB rfl) rfl rfl) ?_
  rintro _ w_5 ⟨rfl, hS6⟩
  refine sQ 7 (Y_assign (v := .bool false) rfl rfl) (rw_nil (cw_ret ?_))
  have hS7 := hS6.addNil 65
  obtain ⟨rfl, rfl⟩ := pr2 (some_inj hF1)
  exact ret2 Tryz.results84 (v1 := gN_) (resAt_cellA (B := aD b) (i := 0) (cs := kN_) (vs := kN_) rfl k_ag_48 k_sz_48_3 (hS7.cf (i := 0) rfl) rfl rfl) (v2 := .bool false) (resAt_tmp rfl) ⟨none, 0, rfl, (hS7.sN [2])⟩
 ·skip
  have hF2 := cf' hF hb
  refine cw_skip (cw_seq (cw_seq (cw_region ?_)))
  refine sQ 25 (Y_move (v := vi rows) rfl rfl) ?_
  refine sQ 26 (Y_move (v := vi 0) rfl rfl) (rw_nil ?_)
  obtain ⟨hN, hF2⟩ := chk_inv hF2
  obtain ⟨z, hz, hF3⟩ := bind_inv hF2
  have hS9 := hS5.addNil 65
  refine cw_block ?_
  refine cw_loop (fun k f w => ∃ (i : Nat) (Cells : List TDyadic) (B1 : Option Addr) (c1 : Nat), FF f [(1, vi cols), (2, .func (.func kf) #[] caps), (6, pt (aD b) 0), (8, pt (aD b1) 0), (25, vi rows), (26, vi (i : Int))] ∧ ST w0 [] w [⟨aD b, 48, kN_, 3⟩, ⟨aD b1, 48, [vi rows, vi cols, .slice B1 Cells.length c1], 3⟩, ⟨B1, 65, (Cells.flatMap eN0), c1 * 5⟩] (Rf) ∧ i + k = rows.toNat ∧ forX (F_impl_matrixOf_l1 cols cell) k i Cells = some z) rows.toNat ⟨0, [], none, 0, (FF.cons rfl (FF.cons rfl (FF.cons rfl (FF.cons rfl (FF.cons rfl (FF.cons rfl FF.nil)))))), (hS9.sel [0, 1, 2] rfl rfl), Nat.zero_add _, hz⟩ ?_
  rintro k_ f w ⟨i, Cells, B1, c1, hf, hS8, hik, hL⟩
  refine cw_seq (cw_region ?_)
  refine sQ 27 (Y_lt (k := .i64) (a := (i : Int)) (b := rows) rfl (hf.get 26 5 rfl) (hf.get 25 4 rfl)) (rw_nil (cw_seq ?_))
  refine cw_cond (b := (decide ((i : Int) < rows))) rfl (fun hlt => ?_) (fun hlt => ?_)
  ·skip
   have hlt1 : i < rows.toNat := by have h := of_decide_eq_true hlt; omega
   obtain ⟨k_1, rfl⟩ : ∃ k2, k_ = k2 + 1 := ⟨k_ - 1, by omega⟩
   obtain ⟨y3, hb1, hL1⟩ := forX_go hL
   unfold F_impl_matrixOf_l1 at hb1
   refine cw_skip (cw_seq (cw_block (cw_seq (cw_region ?_))))
   refine sQ 28 (Y_move (v := vi (i : Int)) rfl (hf.get 26 5 rfl)) ?_
   refine sQ 9 (Y_assign (v := vi (i : Int)) rfl rfl) (rw_nil (cw_seq (cw_region ?_)))
   refine sQ 29 (Y_move (v := vi cols) rfl (hf.get 1 0 rfl)) ?_
   refine sQ 30 (Y_move (v := vi 0) rfl rfl) (rw_nil ?_)
   obtain ⟨hN1, hb1⟩ := chk_inv hb1
   obtain ⟨z1, hz1, hF4⟩ := bind_inv hb1
   refine cw_block ?_
   refine cw_loop (fun k f w => ∃ (i1 : Nat) (Cells1 : List TDyadic) (B2 : Option Addr) (c2 : Nat), FF f [(1, vi cols), (2, .func (.func kf) #[] caps), (6, pt (aD b) 0), (8, pt (aD b1) 0), (9, vi (i : Int)), (25, vi rows), (26, vi (i : Int)), (29, vi cols), (30, vi (i1 : Int))] ∧ ST w0 [] w [⟨aD b, 48, kN_, 3⟩, ⟨aD b1, 48, [vi rows, vi cols, .slice B2 Cells1.length c2], 3⟩, ⟨B2, 65, (Cells1.flatMap eN0), c2 * 5⟩] (Rf) ∧ i1 + k = cols.toNat ∧ forX (F_impl_matrixOf_l2 cell i) k i1 Cells1 = some z1) cols.toNat ⟨0, Cells, B1, c1, (FF.cons (hf.get 1 0 rfl) (FF.cons (hf.get 2 1 rfl) (FF.cons (hf.get 6 2 rfl) (FF.cons (hf.get 8 3 rfl) (FF.cons rfl (FF.cons (hf.get 25 4 rfl) (FF.cons (hf.get 26 5 rfl) (FF.cons rfl (FF.cons rfl FF.nil))))))))), (hS8.sel [0, 1, 2] rfl rfl), Nat.zero_add _, hz1⟩ ?_
   rintro k_2 f w ⟨i1, Cells1, B2, c2, hf1, hS10, hik1, hL2⟩
   refine cw_seq (cw_region ?_)
   refine sQ 31 (Y_lt (k := .i64) (a := (i1 : Int)) (b := cols) rfl (hf1.get 30 8 rfl) (hf1.get 29 7 rfl)) (rw_nil (cw_seq ?_))
   refine cw_cond (b := (decide ((i1 : Int) < cols))) rfl (fun hlt2 => ?_) (fun hlt2 => ?_)
   ·skip
    have hlt3 : i1 < cols.toNat := by have h := of_decide_eq_true hlt2; omega
    obtain ⟨k_3, rfl⟩ : ∃ k2, k_2 = k2 + 1 := ⟨k_2 - 1, by omega⟩
    obtain ⟨y4, hb2, hL3⟩ := forX_go hL2
    unfold F_impl_matrixOf_l2 at hb2
    refine cw_skip (cw_seq (cw_block (cw_seq (cw_region ?_))))
    refine sQ 32 (Y_move (v := vi (i1 : Int)) rfl (hf1.get 30 8 rfl)) ?_
    refine sQ 10 (Y_assign (v := vi (i1 : Int)) rfl rfl) (rw_nil (cw_seq (cw_region ?_)))
    refine sQ 34 (Y_move (v := .func (.func kf) #[] caps) rfl (hf1.get 2 1 rfl)) ?_
    refine sQ 35 (Y_move (v := vi (i : Int)) rfl (hf1.get 9 4 rfl)) ?_
    refine sQ 36 (Y_move (v := vi (i1 : Int)) rfl rfl) ?_
    obtain ⟨⟨r_4, r_5⟩, hc2, hb2⟩ := bind_inv hb2
    refine sc 37 rfl rfl (Yc_clos (g := kf) (vs := (vi (i : Int)) :: (vi (i1 : Int)) :: caps.toList) hk rfl rfl (clo_args (mc rfl (mc rfl mn))) (hp _ (hS10.innS (fun _ h => mOd (i := 0) h)) (i : Int) (i1 : Int) r_4 r_5 hc2)) ?_
    rintro _ w_6 ⟨rfl, hd1⟩
    have hS11 := hS10.out00 hd1
    refine sQ 33 (Y_move (v := .tuple #[gD_ r_4, .bool r_5]) rfl rfl) ?_
    refine sQ 38 (Y_extract (v := gD_ r_4) rfl rfl rfl) ?_
    refine sQ 39 (Y_extract (v := .bool r_5) rfl rfl rfl) ?_
    refine sS 11 (Ys_alloc (T := 65) (cs := kZ_) (m := 5) hS11 k_zero_65 rfl rfl rfl) ?_
    rintro _ w_7 ⟨b2, rfl, hS12⟩
    refine s0 (Ys_store (i := 3) (s := 5) (B := aD b2) (T' := 65) (v := gD_ r_4) (vs := kD_ r_4) (k := 0) (cs' := kD_ r_4) hS12 k_sz_65_5 rfl rfl rfl rfl rfl rfl rfl (lB rfl) rfl rfl) ?_
    rintro _ w_8 ⟨rfl, hS13⟩
    have hS13 : ST w0 [] _ [⟨aD b, 48, kN_, 3⟩, ⟨aD b1, 48, [vi rows, vi cols, .slice B2 Cells1.length c2], 3⟩, ⟨B2, 65, (Cells1.flatMap eN0), c2 * 5⟩, ⟨aD b2, 65, kD_ r_4, 5⟩] (Rf) := hS13
    refine sQ 12 (Y_assign (v := .bool r_5) rfl rfl) (rw_nil (cw_seq (cw_seq (cw_region ?_))))
    refine sQ 40 (Y_move (v := .bool r_5) rfl rfl) ?_
    refine sQ 41 (Y_not (p := r_5) rfl rfl) (rw_nil ?_)
    refine cw_cond (b := (!r_5)) rfl (fun hb3 => ?_) (fun hb3 => ?_)
    ·skip
     have hF5 := ct hb2 hb3
     refine cw_seq (cw_region ?_)
     refine sQ 42 (Y_buildS (zs := kN_) (vs := []) (cs := kN_) k_pl_48 k_zero_48 rfl mpn rfl) ?_
     refine s0 (Ys_store (i := 0) (s := 3) (B := aD b) (T' := 48) (v := gN_) (vs := kN_) (k := 0) (cs' := kN_) hS13 k_sz_48_3 rfl (hf1.get 6 2 rfl) rfl rfl rfl rfl rfl (lB rfl) rfl rfl) ?_
     rintro _ w_9 ⟨rfl, hS14⟩
     refine sQ 7 (Y_assign (v := .bool false) rfl rfl) (rw_nil (cw_ret ?_))
     have hS15 := hS14.addNil 65
     obtain rfl := some_inj hF5
     obtain rfl := some_inj hL3
     obtain rfl := some_inj hF4
     obtain rfl := some_inj hL1
     obtain ⟨rfl, rfl⟩ := pr2 (some_inj hF3)
     exact ret2 Tryz.results84 (v1 := gN_) (resAt_cellA (B := aD b) (i := 0) (cs := kN_) (vs := kN_) (hf1.get 6 2 rfl) k_ag_48 k_sz_48_3 (hS15.cf (i := 0) rfl) rfl rfl) (v2 := .bool false) (resAt_tmp rfl) ⟨none, 0, rfl, (hS15.sN [4])⟩
    ·skip
     have hF6 := cf' hb2 hb3
     refine cw_skip (cw_region ?_)
     refine sQ 43 (Y_fieldAddr (B := aD b1) (i := 0) (s := 0) k_fd_48_2_2_28 k_sz_28_1 rfl (hf1.get 8 3 rfl)) ?_
     refine sQ 44 (Y_load1 (B := aD b1) (i := 2) (cs := [vi rows, vi cols, .slice B2 Cells1.length c2]) (v := .slice B2 Cells1.length c2) k_sc_28 rfl rfl (hS13.cf (i := 1) rfl) rfl) ?_
     refine sQ 45 (Y_loadA (B := aD b2) (i := 0) (cs := kD_ r_4) (vs := kD_ r_4) k_ag_65 k_sz_65_5 rfl rfl (hS13.cf (i := 3) rfl) rfl rfl) ?_
     refine sS 46 (Ys_bslice (s := 5) (len := 1) (vs := [(0, gD_ r_4)]) (cs := kD_ r_4) (zs := kZ_) (m := 5) hS13 k_sl_28_65 k_sz_65_5 k_zc_65 rfl (mpc rfl mpn) rfl rfl rfl (by kernel_rfl) (by kernel_rfl) rfl) ?_
     rintro _ w_10 ⟨b3, rfl, hS16⟩
     obtain ⟨hap, hF6⟩ := chk_inv hF6
     refine sS 47 (Ys_append (s := 5) (by' := 40) (i := 2) (nn := Cells1.length) (c := c2) (k := 1) (len := (Cells1 ++ [r_4]).length) (B := B2) (xs := ([r_4].flatMap eN0)) (cs' := ((Cells1 ++ [r_4]).flatMap eN0)) hS16 k_sl_28_65 k_sz_65_5 k_by_65_40 k_zero_65 rfl (by decide) rfl rfl rfl rfl (fm_lenn (l := Cells1) eN2 rfl) rfl (hS16.cf (i := 4) rfl) (fm_lenn (l := [r_4]) eN2 rfl) (fm_one' (enc := eN0) enc_Dyadic_one [r_4]) (by have := hap; omega) (by have := hap; simp only [maxLen]; omega) (fm_app _ _) (app_len (l := Cells1) (l' := [r_4]) rfl rfl)) ?_
     rintro _ w_11 ⟨B3, c3, rfl, hS17⟩
     refine sQ 48 (Y_fieldAddr (B := aD b1) (i := 0) (s := 0) k_fd_48_2_2_28 k_sz_28_1 rfl (hf1.get 8 3 rfl)) ?_
     refine s0 (Ys_store (i := 1) (s := 1) (B := aD b1) (T' := 48) (v := .slice B3 ((Cells1 ++ [r_4]).length) c3) (vs := [.slice B3 ((Cells1 ++ [r_4]).length) c3]) (k := 2) (cs' := [vi rows, vi cols, .slice B3 ((Cells1 ++ [r_4]).length) c3]) hS17 k_sz_28_1 rfl rfl rfl rfl rfl rfl rfl (lB rfl) rfl rfl) ?_
     rintro _ w_12 ⟨rfl, hS18⟩
     refine rw_nil (cw_region ?_)
     refine sQ 49 (Y_add (k := .i64) (a := (i1 : Int)) (b := 1) rfl (hf1.get 30 8 rfl) rfl) ?_
     refine sQ 30 (Y_move (v := vi (i64.wrap ((i1 : Int) + 1))) rfl rfl) (rw_nil ?_)
     obtain rfl := some_inj hF6
     exact ⟨k_3, Nat.lt_succ_self _, i1 + 1, (Cells1 ++ [r_4]), B3, c3, (FF.cons (hf1.get 1 0 rfl) (FF.cons (hf1.get 2 1 rfl) (FF.cons (hf1.get 6 2 rfl) (FF.cons (hf1.get 8 3 rfl) (FF.cons (hf1.get 9 4 rfl) (FF.cons (hf1.get 25 5 rfl) (FF.cons (hf1.get 26 6 rfl) (FF.cons (hf1.get 29 7 rfl) (FF.cons (congrArg (Value.int .i64) (wr_succ hlt3 hN1)) FF.nil))))))))), (hS18.sel [0, 1, 2] rfl rfl), (by omega), hL3⟩
   ·skip
    obtain rfl : k_2 = 0 := by have h := of_decide_eq_false hlt2; omega
    refine cw_exit rfl ?_
    obtain rfl := some_inj hL2
    refine cw_region ?_
    refine sQ 50 (Y_add (k := .i64) (a := (i : Int)) (b := 1) rfl (hf1.get 26 6 rfl) rfl) ?_
    refine sQ 26 (Y_move (v := vi (i64.wrap ((i : Int) + 1))) rfl rfl) (rw_nil ?_)
    obtain rfl := some_inj hF4
    exact ⟨k_1, Nat.lt_succ_self _, i + 1, Cells1, B2, c2, (FF.cons (hf1.get 1 0 rfl) (FF.cons (hf1.get 2 1 rfl) (FF.cons (hf1.get 6 2 rfl) (FF.cons (hf1.get 8 3 rfl) (FF.cons (hf1.get 25 5 rfl) (FF.cons (congrArg (Value.int .i64) (wr_succ hlt1 hN)) FF.nil)))))), (hS10.sel [0, 1, 2] rfl rfl), (by omega), hL1⟩
  ·skip
   obtain rfl : k_ = 0 := by have h := of_decide_eq_false hlt; omega
   refine cw_exit rfl ?_
   obtain rfl := some_inj hL
   refine cw_seq (cw_region ?_)
   refine sQ 51 (Y_loadA (B := aD b1) (i := 0) (cs := [vi rows, vi cols, .slice B1 Cells.length c1]) (vs := [vi rows, vi cols, .slice B1 Cells.length c1]) k_ag_48 k_sz_48_3 rfl (hf.get 8 3 rfl) (hS8.cf (i := 1) rfl) rfl rfl) ?_
   refine s0 (Ys_store (i := 0) (s := 3) (B := aD b) (T' := 48) (v := .agg #[vi rows, vi cols, .slice B1 Cells.length c1]) (vs := [vi rows, vi cols, .slice B1 Cells.length c1]) (k := 0) (cs' := [vi rows, vi cols, .slice B1 Cells.length c1]) hS8 k_sz_48_3 rfl (hf.get 6 2 rfl) rfl rfl rfl rfl rfl (lB rfl) rfl rfl) ?_
   rintro _ w_13 ⟨rfl, hS19⟩
   refine sQ 7 (Y_assign (v := .bool true) rfl rfl) (rw_nil (cw_ret ?_))
   obtain ⟨rfl, rfl⟩ := pr2 (some_inj hF3)
   exact ret2 Tryz.results84 (v1 := .agg #[vi rows, vi cols, .slice B1 Cells.length c1]) (resAt_cellA (B := aD b) (i := 0) (cs := [vi rows, vi cols, .slice B1 Cells.length c1]) (vs := [vi rows, vi cols, .slice B1 Cells.length c1]) (hf.get 6 2 rfl) k_ag_48 k_sz_48_3 (hS19.cf (i := 0) rfl) rfl rfl) (v2 := .bool true) (resAt_tmp rfl) ⟨B1, c1, rfl, (hS19.sN [2])⟩

theorem c_impl_isTwo (kind : Int)  (w0 : World)  (hS : ST w0 [] w0 [] []) {r_ : Bool} (hF : F_impl_isTwo kind = some r_) :
  CV Tryz.prog 131 #[vi kind] w0 (fun v w' => v = .bool r_ ∧ ST w0 [] w' [] []) := by
 unfold F_impl_isTwo at hF
 refine cv_of_cw 5 Tryz.func131 rfl Tryz.ntmps131 rfl ?_
 refine cw_seq (cw_region ?_)
 refine sQ 2 (Y_assign (v := .bool false) rfl rfl) (rw_nil (cw_seq (cw_region ?_)))
 refine sQ 3 (Y_move (v := vi kind) rfl rfl) ?_
 obtain ⟨r_1, hc, hF⟩ := bind_inv hF
 refine sc 4 rfl rfl (Yc_func (g := 73) (vs := [vi kind, vi 9, vi 11]) k_call_73 rfl (mc rfl (mc rfl (mc rfl mn))) (c_impl_within kind 9 11 _  (hS.inn0 [] rfl) hc)) ?_
 rintro _ w_ ⟨rfl, hd⟩
 have hS1 := hS.out00 hd
 refine sQ 2 (Y_assign (v := .bool r_1) rfl rfl) (rw_nil (cw_ret ?_))
 obtain rfl := some_inj hF
 exact ret1 Tryz.results131 (v1 := .bool r_1) (resAt_tmp rfl) ⟨rfl, (hS1.sN [])⟩

theorem c_impl_IsValidGate (n : Int) (g : TGate)  (w0 : World)  (hS : ST w0 [] w0 [] []) {r_ : Bool} (hF : F_impl_IsValidGate n g = some r_) :
  CV Tryz.prog 113 #[vi n, .agg #[vi g.Kind, vi g.A, vi g.B]] w0 (fun v w' => v = .bool r_ ∧ ST w0 [] w' [] []) := by
 unfold F_impl_IsValidGate at hF
 refine cv_of_cw 60 Tryz.func113 rfl Tryz.ntmps113 rfl ?_
 refine cw_seq (cw_region ?_)
 refine sS 3 (Ys_box (T := 70) (v := .agg #[vi g.Kind, vi g.A, vi g.B]) (cs := [vi g.Kind, vi g.A, vi g.B]) (m := 3) hS rfl rfl rfl rfl) ?_
 rintro _ w_ ⟨b, rfl, hS1⟩
 refine sQ 4 (Y_assign (v := .bool false) rfl rfl) (rw_nil (cw_seq (cw_block (cw_seq (cw_region ?_)))))
 refine sQ 6 (Y_move (v := vi n) rfl rfl) ?_
 obtain ⟨r_1, hc, hF⟩ := bind_inv hF
 refine sc 7 rfl rfl (Yc_func (g := 73) (vs := [vi n, vi 1, vi 5]) k_call_73 rfl (mc rfl (mc rfl (mc rfl mn))) (c_impl_within n 1 5 _  (hS1.inn0 [] rfl) hc)) ?_
 rintro _ w_1 ⟨rfl, hd⟩
 have hS2 := hS1.out00 hd
 refine sQ 8 (Y_not (p := r_1) rfl rfl) ?_
 refine sQ 9 (Y_move (v := .bool (!r_1)) rfl rfl) ?_
 refine sgq 10 (B := (!(!r_1))) (v := pt (aD b) 0) rfl rfl (wF 9) (fun hg => (Y_fieldAddr (B := aD b) (i := 0) (s := 0) k_fd_70_0_0_3 k_sz_3_1 rfl rfl)) ?_
 refine sgq 11 (B := (!(!r_1))) (v := vi g.Kind) rfl rfl (wF 9) (fun hg1 => (Y_load1 (B := aD b) (i := 0) (cs := [vi g.Kind, vi g.A, vi g.B]) (v := vi g.Kind) k_sc_3 rfl (gv_of (v := pt (aD b) 0) hg1) (hS2.cf (i := 0) rfl) rfl)) ?_
 obtain ⟨r_2, hc1, hF⟩ := bind_inv hF
 refine sgc 12 (B := (!(!r_1))) (v := .bool r_2) (F := hS2.fn) rfl rfl (wF 9) hS2 (fun hg2 => (Yc_func (g := 73) (vs := [vi g.Kind, vi 1, vi 12]) k_call_73 rfl (mc (gv_of (v := vi g.Kind) hg2) (mc rfl (mc rfl mn))) (CV.mono (c_impl_within g.Kind 1 12 _  (hS2.inn0 [] rfl) (gb_inv hc1 hg2)) (by rintro _ _ ⟨rfl, h⟩; exact ⟨rfl, hS2.out00 h⟩)))) ?_
 rintro w_2 hS3
 refine sgq 13 (B := (!(!r_1))) (v := .bool (!r_2)) rfl rfl (wF 9) (fun hg3 => (Y_not (p := r_2) rfl (gv_of (v := .bool r_2) hg3))) ?_
 refine sQ 14 (Y_or (b := (!r_1)) (z := (!r_2)) rfl rfl rfl rfl) ?_
 refine sQ 5 (Y_assign (v := .bool ((!r_1) || (!r_2))) rfl rfl) (rw_nil ?_)
 refine cw_cond (b := ((!r_1) || (!r_2))) rfl (fun hb => ?_) (fun hb => ?_)
 ·skip
  have hF1 := ct hF hb
  refine cw_seq (cw_region ?_)
  refine sQ 4 (Y_assign (v := .bool false) rfl rfl) (rw_nil (cw_ret ?_))
  obtain rfl := some_inj hF1
  exact ret1 Tryz.results113 (v1 := .bool false) (resAt_tmp rfl) ⟨rfl, (hS3.sN [])⟩
 ·skip
  have hF2 := cf' hF hb
  refine cw_seq (cw_region ?_)
  refine sQ 16 (Y_fieldAddr (B := aD b) (i := 0) (s := 0) k_fd_70_0_0_3 k_sz_3_1 rfl rfl) ?_
  refine sQ 17 (Y_load1 (B := aD b) (i := 0) (cs := [vi g.Kind, vi g.A, vi g.B]) (v := vi g.Kind) k_sc_3 rfl rfl (hS3.cf (i := 0) rfl) rfl) ?_
  refine sQ 18 (Y_eq (k := .i64) (a := g.Kind) (b := 12) rfl rfl rfl) ?_
  refine sQ 15 (Y_assign (v := .bool (g.Kind == 12)) rfl rfl) (rw_nil ?_)
  refine cw_cond (b := (g.Kind == 12)) rfl (fun hb1 => ?_) (fun hb1 => ?_)
  ·skip
   have hF3 := ct hF2 hb1
   refine cw_seq (cw_region ?_)
   refine sQ 19 (Y_fieldAddr (B := aD b) (i := 0) (s := 0) k_fd_70_1_1_3 k_sz_3_1 rfl rfl) ?_
   refine sQ 20 (Y_load1 (B := aD b) (i := 1) (cs := [vi g.Kind, vi g.A, vi g.B]) (v := vi g.A) k_sc_3 rfl rfl (hS3.cf (i := 0) rfl) rfl) ?_
   refine sQ 21 (Y_eq (k := .i64) (a := g.A) (b := 0) rfl rfl rfl) ?_
   refine sQ 22 (Y_move (v := .bool (g.A == 0)) rfl rfl) ?_
   refine sgq 23 (B := (g.A == 0)) (v := pt (aD b) 2) rfl rfl (wT 22) (fun hg4 => (Y_fieldAddr (B := aD b) (i := 0) (s := 0) k_fd_70_2_2_3 k_sz_3_1 rfl rfl)) ?_
   refine sgq 24 (B := (g.A == 0)) (v := vi g.B) rfl rfl (wT 22) (fun hg5 => (Y_load1 (B := aD b) (i := 2) (cs := [vi g.Kind, vi g.A, vi g.B]) (v := vi g.B) k_sc_3 rfl (gv_of (v := pt (aD b) 2) hg5) (hS3.cf (i := 0) rfl) rfl)) ?_
   refine sgq 25 (B := (g.A == 0)) (v := .bool (g.B == 0)) rfl rfl (wT 22) (fun hg6 => (Y_eq (k := .i64) (a := g.B) (b := 0) rfl (gv_of (v := vi g.B) hg6) rfl)) ?_
   refine sQ 26 (Y_and (b := (g.A == 0)) (z := (g.B == 0)) rfl rfl rfl rfl) ?_
   refine sQ 4 (Y_assign (v := .bool ((g.A == 0) && (g.B == 0))) rfl rfl) (rw_nil (cw_ret ?_))
   obtain rfl := some_inj hF3
   exact ret1 Tryz.results113 (v1 := .bool ((g.A == 0) && (g.B == 0))) (resAt_tmp rfl) ⟨rfl, (hS3.sN [])⟩
  ·skip
   have hF4 := cf' hF2 hb1
   refine cw_seq (cw_region ?_)
   refine sQ 28 (Y_fieldAddr (B := aD b) (i := 0) (s := 0) k_fd_70_0_0_3 k_sz_3_1 rfl rfl) ?_
   refine sQ 29 (Y_load1 (B := aD b) (i := 0) (cs := [vi g.Kind, vi g.A, vi g.B]) (v := vi g.Kind) k_sc_3 rfl rfl (hS3.cf (i := 0) rfl) rfl) ?_
   obtain ⟨r_3, hc2, hF4⟩ := bind_inv hF4
   refine sc 30 rfl rfl (Yc_func (g := 131) (vs := [vi g.Kind]) k_call_131 rfl (mc rfl mn) (c_impl_isTwo g.Kind _  (hS3.inn0 [] rfl) hc2)) ?_
   rintro _ w_3 ⟨rfl, hd1⟩
   have hS4 := hS3.out00 hd1
   refine sQ 27 (Y_assign (v := .bool r_3) rfl rfl) (rw_nil ?_)
   refine cw_cond (b := r_3) rfl (fun hb2 => ?_) (fun hb2 => ?_)
   ·skip
    have hF5 := ct hF4 hb2
    refine cw_seq (cw_region ?_)
    refine sQ 31 (Y_fieldAddr (B := aD b) (i := 0) (s := 0) k_fd_70_1_1_3 k_sz_3_1 rfl rfl) ?_
    refine sQ 32 (Y_load1 (B := aD b) (i := 1) (cs := [vi g.Kind, vi g.A, vi g.B]) (v := vi g.A) k_sc_3 rfl rfl (hS4.cf (i := 0) rfl) rfl) ?_
    refine sQ 33 (Y_move (v := vi n) rfl rfl) ?_
    refine sQ 34 (Y_sub (k := .i64) (a := n) (b := 1) rfl rfl rfl) ?_
    obtain ⟨r_4, hc3, hF5⟩ := bind_inv hF5
    refine sc 35 rfl rfl (Yc_func (g := 73) (vs := [vi g.A, vi 0, vi (i64.wrap (n - 1))]) k_call_73 rfl (mc rfl (mc rfl (mc rfl mn))) (c_impl_within g.A 0 (i64.wrap (n - 1)) _  (hS4.inn0 [] rfl) hc3)) ?_
    rintro _ w_4 ⟨rfl, hd2⟩
    have hS5 := hS4.out00 hd2
    refine sQ 36 (Y_move (v := .bool r_4) rfl rfl) ?_
    refine sgq 37 (B := r_4) (v := pt (aD b) 2) rfl rfl (wT 36) (fun hg7 => (Y_fieldAddr (B := aD b) (i := 0) (s := 0) k_fd_70_2_2_3 k_sz_3_1 rfl rfl)) ?_
    refine sgq 38 (B := r_4) (v := vi g.B) rfl rfl (wT 36) (fun hg8 => (Y_load1 (B := aD b) (i := 2) (cs := [vi g.Kind, vi g.A, vi g.B]) (v := vi g.B) k_sc_3 rfl (gv_of (v := pt (aD b) 2) hg8) (hS5.cf (i := 0) rfl) rfl)) ?_
    refine sgq 39 (B := r_4) (v := vi n) rfl rfl (wT 36) (fun hg9 => (Y_move (v := vi n) rfl rfl)) ?_
    refine sgq 40 (B := r_4) (v := vi (i64.wrap (n - 1))) rfl rfl (wT 36) (fun hg10 => (Y_sub (k := .i64) (a := n) (b := 1) rfl (gv_of (v := vi n) hg10) rfl)) ?_
    obtain ⟨r_5, hc4, hF5⟩ := bind_inv hF5
    refine sgc 41 (B := r_4) (v := .bool r_5) (F := hS5.fn) rfl rfl (wT 36) hS5 (fun hg11 => (Yc_func (g := 73) (vs := [vi g.B, vi 0, vi (i64.wrap (n - 1))]) k_call_73 rfl (mc (gv_of (v := vi g.B) hg11) (mc rfl (mc (gv_of (v := vi (i64.wrap (n - 1))) hg11) mn))) (CV.mono (c_impl_within g.B 0 (i64.wrap (n - 1)) _  (hS5.inn0 [] rfl) (gb_inv hc4 hg11)) (by rintro _ _ ⟨rfl, h⟩; exact ⟨rfl, hS5.out00 h⟩)))) ?_
    rintro w_5 hS6
    refine sQ 42 (Y_and (b := r_4) (z := r_5) rfl rfl rfl rfl) ?_
    refine sQ 43 (Y_move (v := .bool (r_4 && r_5)) rfl rfl) ?_
    refine sgq 44 (B := (r_4 && r_5)) (v := pt (aD b) 1) rfl rfl (wT 43) (fun hg12 => (Y_fieldAddr (B := aD b) (i := 0) (s := 0) k_fd_70_1_1_3 k_sz_3_1 rfl rfl)) ?_
    refine sgq 45 (B := (r_4 && r_5)) (v := vi g.A) rfl rfl (wT 43) (fun hg13 => (Y_load1 (B := aD b) (i := 1) (cs := [vi g.Kind, vi g.A, vi g.B]) (v := vi g.A) k_sc_3 rfl (gv_of (v := pt (aD b) 1) hg13) (hS6.cf (i := 0) rfl) rfl)) ?_
    refine sgq 46 (B := (r_4 && r_5)) (v := pt (aD b) 2) rfl rfl (wT 43) (fun hg14 => (Y_fieldAddr (B := aD b) (i := 0) (s := 0) k_fd_70_2_2_3 k_sz_3_1 rfl rfl)) ?_
    refine sgq 47 (B := (r_4 && r_5)) (v := vi g.B) rfl rfl (wT 43) (fun hg15 => (Y_load1 (B := aD b) (i := 2) (cs := [vi g.Kind, vi g.A, vi g.B]) (v := vi g.B) k_sc_3 rfl (gv_of (v := pt (aD b) 2) hg15) (hS6.cf (i := 0) rfl) rfl)) ?_
    refine sgq 48 (B := (r_4 && r_5)) (v := .bool (g.A != g.B)) rfl rfl (wT 43) (fun hg16 => (Y_ne (k := .i64) (a := g.A) (b := g.B) rfl (gv_of (v := vi g.A) hg16) (gv_of (v := vi g.B) hg16))) ?_
    refine sQ 49 (Y_and (b := (r_4 && r_5)) (z := (g.A != g.B)) rfl rfl rfl rfl) ?_
    refine sQ 4 (Y_assign (v := .bool ((r_4 && r_5) && (g.A != g.B))) rfl rfl) (rw_nil (cw_ret ?_))
    obtain rfl := some_inj hF5
    exact ret1 Tryz.results113 (v1 := .bool ((r_4 && r_5) && (g.A != g.B))) (resAt_tmp rfl) ⟨rfl, (hS6.sN [])⟩
   ·skip
    have hF6 := cf' hF4 hb2
    refine cw_skip (cw_seq (cw_region ?_))
    refine sQ 50 (Y_fieldAddr (B := aD b) (i := 0) (s := 0) k_fd_70_1_1_3 k_sz_3_1 rfl rfl) ?_
    refine sQ 51 (Y_load1 (B := aD b) (i := 1) (cs := [vi g.Kind, vi g.A, vi g.B]) (v := vi g.A) k_sc_3 rfl rfl (hS4.cf (i := 0) rfl) rfl) ?_
    refine sQ 52 (Y_move (v := vi n) rfl rfl) ?_
    refine sQ 53 (Y_sub (k := .i64) (a := n) (b := 1) rfl rfl rfl) ?_
    obtain ⟨r_6, hc5, hF6⟩ := bind_inv hF6
    refine sc 54 rfl rfl (Yc_func (g := 73) (vs := [vi g.A, vi 0, vi (i64.wrap (n - 1))]) k_call_73 rfl (mc rfl (mc rfl (mc rfl mn))) (c_impl_within g.A 0 (i64.wrap (n - 1)) _  (hS4.inn0 [] rfl) hc5)) ?_
    rintro _ w_6 ⟨rfl, hd3⟩
    have hS7 := hS4.out00 hd3
    refine sQ 55 (Y_move (v := .bool r_6) rfl rfl) ?_
    refine sgq 56 (B := r_6) (v := pt (aD b) 2) rfl rfl (wT 55) (fun hg17 => (Y_fieldAddr (B := aD b) (i := 0) (s := 0) k_fd_70_2_2_3 k_sz_3_1 rfl rfl)) ?_
    refine sgq 57 (B := r_6) (v := vi g.B) rfl rfl (wT 55) (fun hg18 => (Y_load1 (B := aD b) (i := 2) (cs := [vi g.Kind, vi g.A, vi g.B]) (v := vi g.B) k_sc_3 rfl (gv_of (v := pt (aD b) 2) hg18) (hS7.cf (i := 0) rfl) rfl)) ?_
    refine sgq 58 (B := r_6) (v := .bool (g.B == 0)) rfl rfl (wT 55) (fun hg19 => (Y_eq (k := .i64) (a := g.B) (b := 0) rfl (gv_of (v := vi g.B) hg19) rfl)) ?_
    refine sQ 59 (Y_and (b := r_6) (z := (g.B == 0)) rfl rfl rfl rfl) ?_
    refine sQ 4 (Y_assign (v := .bool (r_6 && (g.B == 0))) rfl rfl) (rw_nil (cw_ret ?_))
    obtain rfl := some_inj hF6
    exact ret1 Tryz.results113 (v1 := .bool (r_6 && (g.B == 0))) (resAt_tmp rfl) ⟨rfl, (hS7.sN [])⟩

theorem c_impl_MulOmega (x : TRing) (k_ : Int)  (w0 : World)  (hS : ST w0 [] w0 [] []) {r_ : TRing} {r_1 : Bool} (hF : F_impl_MulOmega x k_ = some (r_, r_1)) :
  CV Tryz.prog 88 #[gR_ x, vi k_] w0 (fun v w' => v = .tuple #[gR_ r_, .bool r_1] ∧ ST w0 [] w' [] []) := by
 unfold F_impl_MulOmega at hF
 refine cv_of_cw 33 Tryz.func88 rfl Tryz.ntmps88 rfl ?_
 refine cw_seq (cw_region ?_)
 refine sS 2 (Ys_box (T := 63) (v := gR_ x) (cs := kR_ x) (m := 4) hS rfl rfl rfl rfl) ?_
 rintro _ w_ ⟨b, rfl, hS1⟩
 refine sS 4 (Ys_alloc (T := 63) (cs := [vi 0, vi 0, vi 0, vi 0]) (m := 4) hS1 k_zero_63 rfl rfl rfl) ?_
 rintro _ w_1 ⟨b1, rfl, hS2⟩
 refine sQ 5 (Y_assign (v := .bool false) rfl rfl) (rw_nil (cw_seq (cw_seq (cw_region ?_))))
 refine sQ 6 (Y_move (v := vi k_) rfl rfl) ?_
 obtain ⟨r_2, hc, hF⟩ := bind_inv hF
 refine sc 7 rfl rfl (Yc_func (g := 73) (vs := [vi k_, vi (-1000), vi 1000]) k_call_73 rfl (mc rfl (mc rfl (mc rfl mn))) (c_impl_within k_ (-1000) 1000 _  (hS2.inn0 [] rfl) hc)) ?_
 rintro _ w_2 ⟨rfl, hd⟩
 have hS3 := hS2.out00 hd
 refine sQ 8 (Y_not (p := r_2) rfl rfl) ?_
 refine sQ 9 (Y_move (v := .bool (!r_2)) rfl rfl) ?_
 refine sgq 10 (B := (!(!r_2))) (v := gR_ x) rfl rfl (wF 9) (fun hg => (Y_loadA (B := aD b) (i := 0) (cs := kR_ x) (vs := kR_ x) k_ag_63 k_sz_63_4 rfl rfl (hS3.cf (i := 0) rfl) rfl rfl)) ?_
 obtain ⟨r_3, hc1, hF⟩ := bind_inv hF
 refine sgc 11 (B := (!(!r_2))) (v := .bool r_3) (F := hS3.fn) rfl rfl (wF 9) hS3 (fun hg1 => (Yc_func (g := 119) (vs := [gR_ x]) k_call_119 rfl (mc (gv_of (v := gR_ x) hg1) mn) (CV.mono (c_impl_IsValidRing x _  (hS3.inn0 [] rfl) (gb_inv hc1 hg1)) (by rintro _ _ ⟨rfl, h⟩; exact ⟨rfl, hS3.out00 h⟩)))) ?_
 rintro w_3 hS4
 refine sgq 12 (B := (!(!r_2))) (v := .bool (!r_3)) rfl rfl (wF 9) (fun hg2 => (Y_not (p := r_3) rfl (gv_of (v := .bool r_3) hg2))) ?_
 refine sQ 13 (Y_or (b := (!r_2)) (z := (!r_3)) rfl rfl rfl rfl) (rw_nil ?_)
 refine cw_cond (b := ((!r_2) || (!r_3))) rfl (fun hb => ?_) (fun hb => ?_)
 ·skip
  have hF1 := ct hF hb
  refine cw_seq (cw_region ?_)
  refine sQ 14 (Y_buildS (zs := [vi 0, vi 0, vi 0, vi 0]) (vs := []) (cs := [vi 0, vi 0, vi 0, vi 0]) k_pl_63 k_zero_63 rfl mpn rfl) ?_
  refine s0 (Ys_store (i := 1) (s := 4) (B := aD b1) (T' := 63) (v := .agg #[vi 0, vi 0, vi 0, vi 0]) (vs := [vi 0, vi 0, vi 0, vi 0]) (k := 0) (cs' := [vi 0, vi 0, vi 0, vi 0]) hS4 k_sz_63_4 rfl rfl rfl rfl rfl rfl rfl (lB rfl) rfl rfl) ?_
  rintro _ w_4 ⟨rfl, hS5⟩
  refine sQ 5 (Y_assign (v := .bool false) rfl rfl) (rw_nil (cw_ret ?_))
  obtain ⟨rfl, rfl⟩ := pr2 (some_inj hF1)
  exact ret2 Tryz.results88 (v1 := .agg #[vi 0, vi 0, vi 0, vi 0]) (resAt_cellA (B := aD b1) (i := 0) (cs := [vi 0, vi 0, vi 0, vi 0]) (vs := [vi 0, vi 0, vi 0, vi 0]) rfl k_ag_63 k_sz_63_4 (hS5.cf (i := 1) rfl) rfl rfl) (v2 := .bool false) (resAt_tmp rfl) ⟨rfl, (hS5.sN [])⟩
 ·skip
  have hF2 := cf' hF hb
  refine cw_skip (cw_seq (cw_seq (cw_region ?_)))
  refine sQ 15 (Y_move (v := vi k_) rfl rfl) ?_
  refine sQ 16 (Y_rem (k := .i64) (a := k_) (b := 8) rfl rfl rfl (by decide)) ?_
  refine sQ 17 (Y_add (k := .i64) (a := (Int.tmod k_ 8)) (b := 8) rfl rfl rfl) ?_
  refine sQ 18 (Y_rem (k := .i64) (a := (i64.wrap ((Int.tmod k_ 8) + 8))) (b := 8) rfl rfl rfl (by decide)) ?_
  refine sQ 19 (Y_move (v := vi 0) rfl rfl) (rw_nil ?_)
  obtain ⟨hN, hF2⟩ := chk_inv hF2
  obtain ⟨z, hz, hF3⟩ := bind_inv hF2
  refine cw_block ?_
  refine cw_loop (fun k f w => ∃ (i : Nat) (A : Int) (B : Int) (C : Int) (D : Int), FF f [(2, pt (aD b) 0), (4, pt (aD b1) 0), (18, vi (Int.tmod (i64.wrap ((Int.tmod k_ 8) + 8)) 8)), (19, vi (i : Int))] ∧ ST w0 [] w [⟨aD b, 63, [vi A, vi B, vi C, vi D], 4⟩, ⟨aD b1, 63, [vi 0, vi 0, vi 0, vi 0], 4⟩] [] ∧ i + k = (Int.tmod (i64.wrap ((Int.tmod k_ 8) + 8)) 8).toNat ∧ forN F_impl_MulOmega_l1 k i (A, B, C, D) = some z) ((Int.tmod (i64.wrap ((Int.tmod k_ 8) + 8)) 8).toNat) ⟨0, x.A, x.B, x.C, x.D, (FF.cons rfl (FF.cons rfl (FF.cons rfl (FF.cons rfl FF.nil)))), (hS4.sel [0, 1] rfl rfl), Nat.zero_add _, hz⟩ ?_
  rintro k_1 f w ⟨i, A, B, C, D, hf, hS6, hik, hL⟩
  refine cw_seq (cw_region ?_)
  refine sQ 20 (Y_lt (k := .i64) (a := (i : Int)) (b := (Int.tmod (i64.wrap ((Int.tmod k_ 8) + 8)) 8)) rfl (hf.get 19 3 rfl) (hf.get 18 2 rfl)) (rw_nil (cw_seq ?_))
  refine cw_cond (b := (decide ((i : Int) < (Int.tmod (i64.wrap ((Int.tmod k_ 8) + 8)) 8)))) rfl (fun hlt => ?_) (fun hlt => ?_)
  ·skip
   have hlt1 : i < (Int.tmod (i64.wrap ((Int.tmod k_ 8) + 8)) 8).toNat := by have h := of_decide_eq_true hlt; omega
   obtain ⟨k_2, rfl⟩ : ∃ k2, k_1 = k2 + 1 := ⟨k_1 - 1, by omega⟩
   obtain ⟨y, hb1, hL1⟩ := forN_go hL
   unfold F_impl_MulOmega_l1 at hb1
   refine cw_skip (cw_seq (cw_block (cw_region ?_)))
   refine sQ 21 (Y_fieldAddr (B := aD b) (i := 0) (s := 0) k_fd_63_3_3_3 k_sz_3_1 rfl (hf.get 2 0 rfl)) ?_
   refine sQ 22 (Y_load1 (B := aD b) (i := 3) (cs := [vi A, vi B, vi C, vi D]) (v := vi D) k_sc_3 rfl rfl (hS6.cf (i := 0) rfl) rfl) ?_
   refine sQ 23 (Y_neg (k := .i64) (a := D) rfl rfl) ?_
   refine sQ 24 (Y_fieldAddr (B := aD b) (i := 0) (s := 0) k_fd_63_0_0_3 k_sz_3_1 rfl (hf.get 2 0 rfl)) ?_
   refine sQ 25 (Y_load1 (B := aD b) (i := 0) (cs := [vi A, vi B, vi C, vi D]) (v := vi A) k_sc_3 rfl rfl (hS6.cf (i := 0) rfl) rfl) ?_
   refine sQ 26 (Y_fieldAddr (B := aD b) (i := 0) (s := 0) k_fd_63_1_1_3 k_sz_3_1 rfl (hf.get 2 0 rfl)) ?_
   refine sQ 27 (Y_load1 (B := aD b) (i := 1) (cs := [vi A, vi B, vi C, vi D]) (v := vi B) k_sc_3 rfl rfl (hS6.cf (i := 0) rfl) rfl) ?_
   refine sQ 28 (Y_fieldAddr (B := aD b) (i := 0) (s := 0) k_fd_63_2_2_3 k_sz_3_1 rfl (hf.get 2 0 rfl)) ?_
   refine sQ 29 (Y_load1 (B := aD b) (i := 2) (cs := [vi A, vi B, vi C, vi D]) (v := vi C) k_sc_3 rfl rfl (hS6.cf (i := 0) rfl) rfl) ?_
   refine sQ 30 (Y_buildS (zs := [vi 0, vi 0, vi 0, vi 0]) (vs := [(0, vi (i64.wrap (-D))), (1, vi A), (2, vi B), (3, vi C)]) (cs := [vi (i64.wrap (-D)), vi A, vi B, vi C]) k_pl_63 k_zero_63 rfl (mpc rfl (mpc rfl (mpc rfl (mpc rfl mpn)))) rfl) ?_
   refine s0 (Ys_store (i := 0) (s := 4) (B := aD b) (T' := 63) (v := .agg #[vi (i64.wrap (-D)), vi A, vi B, vi C]) (vs := [vi (i64.wrap (-D)), vi A, vi B, vi C]) (k := 0) (cs' := [vi (i64.wrap (-D)), vi A, vi B, vi C]) hS6 k_sz_63_4 rfl (hf.get 2 0 rfl) rfl rfl rfl rfl rfl (lB rfl) rfl rfl) ?_
   rintro _ w_5 ⟨rfl, hS7⟩
   refine rw_nil (cw_region ?_)
   refine sQ 31 (Y_add (k := .i64) (a := (i : Int)) (b := 1) rfl (hf.get 19 3 rfl) rfl) ?_
   refine sQ 19 (Y_move (v := vi (i64.wrap ((i : Int) + 1))) rfl rfl) (rw_nil ?_)
   obtain rfl := some_inj hb1
   exact ⟨k_2, Nat.lt_succ_self _, i + 1, (i64.wrap (-D)), A, B, C, (FF.cons (hf.get 2 0 rfl) (FF.cons (hf.get 4 1 rfl) (FF.cons (hf.get 18 2 rfl) (FF.cons (congrArg (Value.int .i64) (wr_succ hlt1 hN)) FF.nil)))), (hS7.sel [0, 1] rfl rfl), (by omega), hL1⟩
  ·skip
   obtain rfl : k_1 = 0 := by have h := of_decide_eq_false hlt; omega
   refine cw_exit rfl ?_
   obtain rfl := some_inj hL
   refine cw_seq (cw_region ?_)
   refine sQ 32 (Y_loadA (B := aD b) (i := 0) (cs := [vi A, vi B, vi C, vi D]) (vs := [vi A, vi B, vi C, vi D]) k_ag_63 k_sz_63_4 rfl (hf.get 2 0 rfl) (hS6.cf (i := 0) rfl) rfl rfl) ?_
   refine s0 (Ys_store (i := 1) (s := 4) (B := aD b1) (T' := 63) (v := .agg #[vi A, vi B, vi C, vi D]) (vs := [vi A, vi B, vi C, vi D]) (k := 0) (cs' := [vi A, vi B, vi C, vi D]) hS6 k_sz_63_4 rfl (hf.get 4 1 rfl) rfl rfl rfl rfl rfl (lB rfl) rfl rfl) ?_
   rintro _ w_6 ⟨rfl, hS8⟩
   refine sQ 5 (Y_assign (v := .bool true) rfl rfl) (rw_nil (cw_ret ?_))
   obtain ⟨rfl, rfl⟩ := pr2 (some_inj hF3)
   exact ret2 Tryz.results88 (v1 := .agg #[vi A, vi B, vi C, vi D]) (resAt_cellA (B := aD b1) (i := 0) (cs := [vi A, vi B, vi C, vi D]) (vs := [vi A, vi B, vi C, vi D]) (hf.get 4 1 rfl) k_ag_63 k_sz_63_4 (hS8.cf (i := 1) rfl) rfl rfl) (v2 := .bool true) (resAt_tmp rfl) ⟨rfl, (hS8.sN [])⟩
end Go.VK
